/- P9: runs: the program's passages are the reference's steps; the errors of a run's arguments.
P10: BasinSteps: the law.
P11: levels, nodes above their limits, the first one in a run.
P12: the balance of a run.
P13: BasinRuns: the law. -/
import Derived.Test.YtkfigfhjbejikaaGreatDoorPA
import Derived.Test.YtkfigfhjbejikaaGreatDoorBE
import Derived.Test.YtkfigfhjbejikaaGreatDoorB16
import Derived.Test.YtkfigfhjbejikaaGreatDoorB17

section
set_option linter.all false
set_option maxRecDepth 100000
namespace Go.Tw
open Go.Vx Go.Vx.B Go.Proofs

/-! ### A step -/
/-- A step, if what it leaves fits. -/
noncomputable def stepD (b : Bas) (v : List Int) (c : Cnd) : Option (List Int × List Int) :=
  match ref04_Moved_M b v c with
  | some (f, o, e, _) => if e = 0 then some (f, o) else none
  | none => none

/-! ### A run -/
/-! ### The errors of a run's arguments -/
theorem ckCV_zero {b : Bas} {v : List Int} (h : ckCV b v = 0) : BasOK b ∧ v.length = b.1.length ∧ ∀ x ∈ v, 0 ≤ x ∧ x ≤ 100000000 := by
  obtain ⟨h1, h2⟩ := firstOf_eq0 h
  obtain ⟨h3, h4⟩ := firstOf_eq0 h2
  refine ⟨ckBasin_zero h1, ?_, fun x hx => ckR_zero (firstE_zero h4 _ (List.mem_map.2 ⟨x, hx, rfl⟩))⟩
  cases he : ((v.length : Int) != (b.1.length : Int)) with
  | true => rw [he] at h3; cases h3
  | false => have h11 : (v.length : Int) = (b.1.length : Int) := by simpa using he
             omega

end Go.Tw
end

section
set_option linter.all false
set_option maxRecDepth 100000
namespace Go.Tw
open Go.Vx Go.Vx.B Go.Proofs

/-- A loop that asks of each element what is so, ends. -/
theorem loopL_same {α β : Type} {body : Int → α → Unit → Option (β ⊕ Unit)} {fin : Unit → Option β} (l : List α) (h : ∀ (p : List α) (x : α) (r : List α), l = p ++ x :: r → body (p.length : Int) x () = some (.inr ())) :
    ∀ (r p : List α) (i : Int), l = p ++ r → i = (p.length : Int) → loopL body fin i r () = fin ()
  | [], p, i, _, _ => rfl
  | x :: r, p, i, hl, hi => by
    rw [loopL_cons, hi, h p x r hl]
    simp only [Option.bind_some]
    exact loopL_same l h r (p ++ [x]) _ (by rw [hl]; simp) (by simp)

theorem sameInts_refl (l : List Int) (h : l.length < lenMax) : ref01_SameInts_M l l = some (true, ()) := by
  unfold ref01_SameInts_M
  rw [bifF (show ((l.length : Int) != (l.length : Int)) = false by simp), bifT (dec_true h), loopL_same l (fun p x r e => by
    unfold ref01_SameInts_b0
    rw [e, idx_mid p x r _ rfl]
    simp only [Option.bind_some]
    rw [bifF (show (x != x) = false by simp)]) l [] 0 rfl rfl]
  rfl

/-! ### What a step is -/
end Go.Tw
end

section
set_option linter.all false
set_option maxRecDepth 100000
namespace Go.Tw
open Go.Vx Go.Vx.B Go.Proofs

/-! ### Levels, in the program -/
theorem blevels_loop : ∀ (l : List Nod) (L : List Nod) (i : Int) (p v : List Int), i = (p.length : Int) → v.length = l.length → (∀ n ∈ l, n.2.1 ≠ 0) →
    loopL (fun i__ e__ s__ => basin_Basin_levels_b0 L i__ e__ s__) (fun s__ => basin_Basin_levels_f0 L s__) i l (p ++ v) = some (p ++ lvls v l, ())
  | [], L, i, p, [], hi, hv, hn => by rw [loopL_nil]; simp [basin_Basin_levels_f0, lvls]
  | n :: l, L, i, p, x :: v, hi, hv, hn => by
    have hbody : basin_Basin_levels_b0 L i n (p ++ x :: v) = some (.inr (p ++ wr (x.tdiv n.2.1) :: v)) := by
      unfold basin_Basin_levels_b0
      rw [idx_mid p x v i hi, get_mid p x v i hi]
      simp only [Option.bind_some]
      have e5 : basin_Node_level_M (n.1, n.2.1, n.2.2.1, ()) x = some (wr (x.tdiv n.2.1), ()) := by
        unfold basin_Node_level_M basin_Node_level_m
        rw [bifF (beq_eq_false_iff_ne.2 (hn n (by simp)))]
      rw [e5]
      simp only [Option.bind_some]
      rw [set_mid p x _ v i hi]
    rw [loopL_cons, hbody]
    simp only [Option.bind_some]
    have := blevels_loop l L (i + 1) (p ++ [wr (x.tdiv n.2.1)]) v (by simp [hi]) (by simpa using hv) (fun n hn' => hn n (by simp [hn']))
    rw [List.append_assoc] at this
    simp only [List.singleton_append] at this
    rw [this]
    simp [lvls]
  | [], L, i, p, _ :: _, hi, hv, hn => by simp at hv
  | _ :: _, L, i, p, [], hi, hv, hn => by simp at hv

theorem blevels_eq (b : Bas) (hb : BasOK b) (v : List Int) (hv : v.length = b.1.length) : basin_Basin_levels_M b v = some (lvls v b.1, ()) := by
  have h8 := hb.nodes
  have hmem : memMax = 68719476736 := rfl
  unfold basin_Basin_levels_M
  have e1 : (true && decide ((0 : Int) ≤ (v.length : Int)) && decide ((v.length : Int) ≤ (memMax : Int)) && (v.length : Int) == (v.length : Int)) = true := by
    rw [dec_true (show (0 : Int) ≤ (v.length : Int) by omega), dec_true (show (v.length : Int) ≤ (memMax : Int) by omega)]; simp
  rw [bifT e1, bifT (dec_true (show b.1.length < lenMax by unfold lenMax; omega))]
  have e2 : List.take (List.replicate (v.length : Int).toNat (0 : Int)).length v ++ List.drop v.length (List.replicate (v.length : Int).toNat (0 : Int)) = v := by simp
  rw [e2]
  exact blevels_loop b.1 b.1 0 [] v rfl hv (fun n hn => by have := (hb.area n hn).1; omega)

/-! ### Nodes above their limits -/
theorem above_loop (b : Bas) (T : List Int) : ∀ (l : List Int) (i : Int) (s : List Int), 0 ≤ i → i + l.length ≤ b.1.length → s.length + l.length ≤ memMax →
    ∃ r, loopL (fun i__ e__ s__ => basin_Basin_above_b1 b T i__ e__ s__) (fun s__ => basin_Basin_above_f1 b T s__) i l s = some (r, ()) ∧ r.length ≤ s.length + l.length
  | [], i, s, _, _, _ => ⟨s, rfl, by simp⟩
  | x :: l, i, s, h0, h1, h2 => by
    simp only [List.length_cons] at h1 h2
    have hi : i.toNat < b.1.length := by omega
    have e3 : idx b.1 i = some b.1[i.toNat] := by unfold idx; rw [if_pos h0]; exact List.getElem?_eq_getElem hi
    rw [loopL_cons]
    unfold basin_Basin_above_b1
    rw [e3]
    simp only [Option.bind_some]
    cases decide (x > b.1[i.toNat].2.2.1) with
    | true =>
      rw [cond_true, bifT (dec_true (show s.length + 1 ≤ memMax by omega))]
      simp only [Option.bind_some]
      obtain ⟨r, r1, r2⟩ := above_loop b T l (i + 1) (s ++ [i]) (by omega) (by omega) (by simp; omega)
      unfold basin_Basin_above_b1 at r1
      exact ⟨r, r1, by simp at r2 ⊢; omega⟩
    | false =>
      rw [cond_false]
      simp only [Option.bind_some]
      obtain ⟨r, r1, r2⟩ := above_loop b T l (i + 1) s (by omega) (by omega) (by omega)
      unfold basin_Basin_above_b1 at r1
      exact ⟨r, r1, by simp at r2 ⊢; omega⟩

theorem above_same (b : Bas) (hb : BasOK b) (v : List Int) (hv : v.length = b.1.length) : ∃ r, basin_Basin_above_M b v = some (r, ()) ∧ ref04_Above_M b v = some (r, ()) ∧ r.length ≤ 8 := by
  have h8 := hb.nodes
  have hl := lvls_length v b.1 hv
  obtain ⟨r, r1, r2⟩ := above_loop b (lvls v b.1) (lvls v b.1) 0 [] (by omega) (by omega) (by simp [memMax]; omega)
  refine ⟨r, ?_, ?_, by simp at r2; omega⟩
  · unfold basin_Basin_above_M
    rw [blevels_eq b hb v hv]
    simp only [Option.bind_some]
    rw [bifT (dec_true (show (lvls v b.1).length < lenMax by unfold lenMax; omega))]
    exact r1
  · unfold ref04_Above_M
    rw [rlevels_eq b hb v hv]
    simp only [Option.bind_some]
    rw [bifT (dec_true (show (lvls v b.1).length < lenMax by unfold lenMax; omega))]
    exact r1

/-! ### The volumes of passages -/
/-! ### The first node above its limit -/
end Go.Tw
end

section
set_option linter.all false
set_option maxRecDepth 100000
namespace Go.Tw
open Go.Vx Go.Vx.B Go.Proofs

theorem max2 (f : Int) : (if f > (0 : Int) then f else (0 : Int)) = max 0 f := by split <;> omega

/-! ### Loops that only gather -/
/-! ### The balance -/
end Go.Tw
end

section
set_option linter.all false
set_option maxRecDepth 100000
namespace Go.Tw
open Go.Vx Go.Vx.B Go.Proofs

end Go.Tw
end
