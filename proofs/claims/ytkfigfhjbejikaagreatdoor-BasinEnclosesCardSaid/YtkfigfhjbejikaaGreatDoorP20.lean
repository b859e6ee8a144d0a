/- P20: the latest closing; BasinEncloses: the law. -/
import Derived.Test.YtkfigfhjbejikaaGreatDoorP19
import Derived.Test.YtkfigfhjbejikaaGreatDoorPC
import Derived.Test.YtkfigfhjbejikaaGreatDoorB24
import Derived.Test.YtkfigfhjbejikaaGreatDoorB25

set_option linter.all false
set_option maxRecDepth 100000
namespace Go.Tw
open Go.Vx Go.Vx.B Go.Proofs

/-! ### Closed from a range on -/
def clD (k : Int) : Int → List Rng → List Rng
  | _, [] => []
  | i, r :: l => (r.1, decide (i < k), r.2.2.1, ()) :: clD k (i + 1) l

theorem clD_length (k : Int) : ∀ (l : List Rng) (i : Int), (clD k i l).length = l.length
  | [], _ => rfl
  | r :: l, i => by simp [clD, clD_length k l]
theorem clD_len (k : Int) {N : Nat} : ∀ (l : List Rng) (i : Int), (∀ r ∈ l, r.2.2.1.length = N) → ∀ r ∈ clD k i l, r.2.2.1.length = N
  | [], _, _ => by simp [clD]
  | r :: l, i, h => by
    intro x hx
    rcases List.mem_cons.1 hx with rfl | hx
    · exact h r (by simp)
    · exact clD_len k l (i + 1) (fun y hy => h y (by simp [hy])) x hx

theorem EncOK.closed {b : Bas} {v : List Itv} {l : List Rng} (h : EncOK b v l) (k : Int) : EncOK b v (clD k 0 l) :=
  ⟨h.bas, h.vols, by rw [clD_length]; exact h.many, clD_len k l 0 h.rngs⟩

theorem rclosed_loop (L : List Rng) (k : Int) : ∀ (l p : List Rng) (i : Int) (s : List Rng), L = p ++ l → i = (p.length : Int) → s.length + l.length ≤ memMax →
    loopL (fun i__ e__ s__ => ref04_ClosedFrom_b0 L k i__ e__ s__) (fun s__ => ref04_ClosedFrom_f0 L k s__) i l s = some (s ++ clD k i l, ())
  | [], p, i, s, _, _, _ => by show some (s, ()) = _; simp [clD]
  | r :: l, p, i, s, hL, hi, hs => by
    simp only [List.length_cons] at hs
    have hbody : ref04_ClosedFrom_b0 L k i r s = some (.inr (s ++ [(r.1, decide (i < k), r.2.2.1, ())])) := by
      unfold ref04_ClosedFrom_b0
      rw [hL, idx_mid p r l i hi]
      simp only [Option.bind_some]
      rw [bifT (dec_true (show s.length + 1 ≤ memMax by omega))]
    rw [loopL_cons, hbody]
    simp only [Option.bind_some]
    rw [rclosed_loop L k l (p ++ [r]) (i + 1) _ (by rw [hL]; simp) (by simp [hi]) (by simp; omega)]
    simp [clD]

theorem rclosed_eq (l : List Rng) (k : Int) (hl : l.length ≤ memMax) : ref04_ClosedFrom_M l k = some (clD k 0 l, ()) := by
  have hm := memMax_lt
  unfold ref04_ClosedFrom_M
  rw [bifT (dec_true (show l.length < lenMax by omega)), rclosed_loop l k l [] 0 [] rfl rfl (by simpa using hl)]
  rfl

/-! ### The latest closing -/
noncomputable def latD (b : Bas) (v : List Itv) (l : List Rng) : Nat → Int × Int × Unit
  | 0 => (0, 24, ())
  | m + 1 => bif (safeD b v (clD m 0 l)).2.1 != 0 then (0, (safeD b v (clD m 0 l)).2.1, ()) else bif (safeD b v (clD m 0 l)).1 then ((m : Int), 0, ()) else latD b v l m

theorem loopD_lat {b : Bas} {v : List Itv} {l : List Rng} {body : Int → Unit → Option ((Int × Int × Unit) ⊕ Unit)} {fin : Unit → Option (Int × Int × Unit)} (hf : fin () = some (0, 24, ()))
    (h : ∀ m : Nat, m ≤ l.length → body (m : Int) () = bif (safeD b v (clD m 0 l)).2.1 != 0 then some (.inl (0, (safeD b v (clD m 0 l)).2.1, ())) else bif (safeD b v (clD m 0 l)).1 then some (.inl ((m : Int), 0, ())) else some (.inr ())) :
    ∀ m : Nat, m ≤ l.length + 1 → loopD body fin m () = some (latD b v l m)
  | 0, _ => hf
  | m + 1, hm => by
    have ih := loopD_lat hf h m (by omega)
    show (Option.bind (body (m : Int) ()) _) = _
    rw [h m (by omega)]
    unfold latD
    cases (safeD b v (clD m 0 l)).2.1 != 0 with
    | true => rfl
    | false =>
      simp only [cond_false]
      cases (safeD b v (clD m 0 l)).1 with
      | true => rfl
      | false => exact ih

theorem rlatest_eq (b : Bas) (v : List Itv) (l : List Rng) (hE : EncOK b v l) : ref04_Latest_M b v l = some (latD b v l (l.length + 1)) := by
  have hmem : memMax = 68719476736 := rfl
  have hm96 := hE.many
  unfold ref04_Latest_M
  rw [bifT (dec_true (show (-1 : Int) ≤ (l.length : Int) ∧ (l.length : Int) ≤ 9223372036854775807 by omega)), show (((l.length : Int)) + 1).toNat = l.length + 1 by omega]
  refine loopD_lat rfl (fun m hm => ?_) (l.length + 1) (Nat.le_refl _)
  unfold ref04_Latest_b0
  rw [rclosed_eq l m (by omega)]
  simp only [Option.bind_some]
  rw [rsafe_eq b v _ (hE.closed m)]
  simp only [Option.bind_some]

theorem bnight_loop (v : List Itv) (l : List Rng) (b : Bas) (k t : Int) : ∀ (r p : List Rng) (i : Int) (m : Nat), i = (p.length : Int) → m = r.length →
    loopN (fun i__ s__ => basin_Latest_b2 v l b k t i__ s__) (fun s__ => basin_Latest_f2 v l b k t s__) m i (p ++ r) = basin_Latest_f2 v l b k t (p ++ clD k i r)
  | [], p, i, m, _, hm => by subst hm; rfl
  | x :: r, p, i, m, hi, hm => by
    simp only [List.length_cons] at hm
    subst hm
    have hbody : basin_Latest_b2 v l b k t i (p ++ x :: r) = some (.inr (p ++ (x.1, decide (i < k), x.2.2.1, ()) :: r)) := by
      unfold basin_Latest_b2
      rw [idx_mid p x r i hi]
      simp only [Option.bind_some]
      rw [get_mid p x r i hi]
      simp only [Option.bind_some]
      rw [set_mid p x _ r i hi]
    show (Option.bind (basin_Latest_b2 v l b k t i (p ++ x :: r)) _) = _
    rw [hbody]
    simp only [Option.bind_some]
    have := bnight_loop v l b k t r (p ++ [(x.1, decide (i < k), x.2.2.1, ())]) (i + 1) r.length (by simp [hi]) rfl
    rw [List.append_assoc, List.singleton_append] at this
    rw [this]
    simp [clD]

theorem copied (l R : List Rng) (h : R.length = l.length) : List.take R.length l ++ List.drop l.length R = l := by
  rw [h, List.take_length, List.drop_eq_nil_of_le (by omega), List.append_nil]

theorem blatest_eq (b : Bas) (v : List Itv) (l : List Rng) (hn : ∀ n ∈ b.1, n.1.length < lenMax) (h0 : ckEnc b v l = 0) : basin_Latest_M b v l = some (latD b v l (l.length + 1)) := by
  have hE := ckEnc_zero h0
  obtain ⟨g1, g2, g3, g4, g5⟩ := hE.lens
  have hmem : memMax = 68719476736 := rfl
  have hm96 := hE.many
  unfold basin_Latest_M
  rw [bEnc_eq b v l hn g1 g2 g3, h0]
  simp only [Option.bind_some]
  rw [bifF (show ((0 : Int) != 0) = false from rfl), bifT (dec_true (show (-1 : Int) ≤ (l.length : Int) ∧ (l.length : Int) ≤ 9223372036854775807 by omega)), show (((l.length : Int)) + 1).toNat = l.length + 1 by omega]
  refine loopD_lat rfl (fun m hm => ?_) (l.length + 1) (Nat.le_refl _)
  unfold basin_Latest_b1
  rw [bifT (by rw [dec_true (show (0 : Int) ≤ (l.length : Int) by omega), dec_true (show (l.length : Int) ≤ (memMax : Int) by omega), beq_self_eq_true]; rfl)]
  rw [copied l _ (by simp), bifT (dec_true (show (l.length : Int) ≤ 9223372036854775807 by omega)), show ((l.length : Int) - 0).toNat = l.length by omega]
  have := bnight_loop v l b m (l.length : Int) l [] 0 l.length rfl rfl
  rw [List.nil_append, List.nil_append] at this
  rw [this]
  unfold basin_Latest_f2
  rw [bsafe_eq b v _ (hE.closed m)]
  simp only [Option.bind_some]

/-! ### The law -/
theorem shortRs (l : List Rng) (hl : l.length < lenMax) : ∃ s, ref04_ShortRanges_M l = some (s, ()) ∧ (s = true → (∀ r ∈ l, r.2.2.1.length ≤ 9) ∧ l.length ≤ 97) := by
  unfold ref04_ShortRanges_M
  rw [bifT (dec_true hl), loopL_find (fun c : Rng => bif decide ((c.2.2.1.length : Int) > 9) then some (false, ()) else none) l 0 (fun i e _ => by
    unfold ref04_ShortRanges_b0
    cases decide ((e.2.2.1.length : Int) > 9) <;> rfl)]
  cases hf : l.findSome? (fun c : Rng => bif decide ((c.2.2.1.length : Int) > 9) then some (false, ()) else none) with
  | some y =>
    obtain ⟨n, _, hy⟩ := List.exists_of_findSome?_eq_some hf
    cases hd : decide ((n.2.2.1.length : Int) > 9) with
    | true => rw [hd] at hy; cases hy; exact ⟨false, rfl, by simp⟩
    | false => rw [hd] at hy; cases hy
  | none =>
    have hall : ∀ c ∈ l, c.2.2.1.length ≤ 9 := fun n hn => by
      have := findSome_none hf n hn
      by_cases hd : (n.2.2.1.length : Int) > 9
      · rw [dec_true hd] at this; cases this
      · omega
    show ∃ s, ref04_ShortRanges_f0 l = some (s, ()) ∧ _
    unfold ref04_ShortRanges_f0
    by_cases h12 : (l.length : Int) ≤ 12
    · exact ⟨true, by rw [bifT (dec_true h12)], fun _ => ⟨hall, by omega⟩⟩
    · refine ⟨(l.length : Int) == 97, by rw [bifF (dec_false h12)], fun h => ⟨hall, ?_⟩⟩
      have : (l.length : Int) = 97 := by simpa using h
      omega

theorem intervals_eq (l : List Itv) (h : l.length ≤ memMax) : law04_intervals_M l = some (l, ()) := by
  unfold law04_intervals_M law04_intervals_m
  rw [bifT (dec_true (show 0 + l.length ≤ memMax by omega))]

theorem eq2_refl (x : Itv) : Go.Vx.eqV ((Go.Vx.Ty.int Go.IntKind.i64).pair ((Go.Vx.Ty.int Go.IntKind.i64).pair Go.Vx.Ty.unit)) x x = true := by
  simp [Go.Vx.eqV]

theorem sameIv_inner (l : List (List Itv)) (i : Int) (row : List Itv) (hi : idx l i = some row) : ∀ (r p : List Itv) (t : Int) (m : Nat), row = p ++ r → t = (p.length : Int) → m = r.length →
    loopN (fun i__ (s__ : Unit) => ref04_SameIntervals_b3 l l i row i__) (fun s__ => ref04_SameIntervals_f3 l l i row) m t () = some (.inr ())
  | [], p, t, m, _, _, hm => by subst hm; rfl
  | x :: r, p, t, m, hp, ht, hm => by
    simp only [List.length_cons] at hm
    subst hm
    have hbody : ref04_SameIntervals_b3 l l i row t = some (.inr ()) := by
      unfold ref04_SameIntervals_b3
      rw [hi]
      simp only [Option.bind_some]
      rw [hp, idx_mid p x r t ht]
      simp only [Option.bind_some]
      rw [eq2_refl]
      rfl
    show (Option.bind (ref04_SameIntervals_b3 l l i row t) _) = _
    rw [hbody]
    simp only [Option.bind_some]
    exact sameIv_inner l i row hi r (p ++ [x]) (t + 1) _ (by rw [hp]; simp) (by simp [ht]) rfl

theorem sameIv_refl (l : List (List Itv)) (h : l.length < lenMax) (hr : ∀ x ∈ l, x.length ≤ 96) : ref04_SameIntervals_M l l = some (true, ()) := by
  unfold ref04_SameIntervals_M
  rw [bifF (show ((l.length : Int) != (l.length : Int)) = false by simp), bifT (dec_true h), loopL_same l (fun p x r e => by
    have hi : idx l (p.length : Int) = some x := by rw [e]; exact idx_mid p x r _ rfl
    have hx := hr x (by rw [e]; simp)
    unfold ref04_SameIntervals_b0
    rw [hi]
    simp only [Option.bind_some]
    rw [bifF (show ((x.length : Int) != (x.length : Int)) = false by simp), bifT (dec_true (show (x.length : Int) ≤ 9223372036854775807 by omega)), show ((x.length : Int) - 0).toNat = x.length by omega]
    exact sameIv_inner l _ x hi x [] 0 x.length rfl rfl rfl) l [] 0 rfl rfl]
  rfl

theorem encRow_len (lo hi : List Int) : (encRow lo hi).length ≤ lo.length := by
  unfold encRow; simp; omega
theorem encRows_mem {N : Nat} : ∀ (lo hi : List (List Int)), (∀ x ∈ lo, x.length ≤ N) → ∀ r ∈ encRows lo hi, r.length ≤ N
  | [], _, _ => by simp [encRows]
  | _ :: _, [], _ => by simp [encRows]
  | x :: lo, y :: hi, h => by
    intro r hr
    rcases List.mem_cons.1 hr with rfl | hr
    · exact Nat.le_trans (encRow_len x y) (h x (by simp))
    · exact encRows_mem lo hi (fun z hz => h z (by simp [hz])) r hr

theorem encD_lens (b : Bas) (v : List Itv) (l : List Rng) (hE : EncOK b v l) : (encD b v l).1.length ≤ 96 ∧ ∀ r ∈ (encD b v l).1, r.length ≤ 96 := by
  obtain ⟨g1, g2, g3, g4, g5⟩ := hE.lens
  have h8 := hE.bas.nodes
  have hm := hE.many
  unfold encD runC
  cases hr1 : runD b (v.map (endI true)) (l.map (cornR true)) with
  | none => simp
  | some hp =>
    cases hr2 : runD b (v.map (endI false)) (l.map (cornR false)) with
    | none => simp
    | some lp =>
      obtain ⟨k3, k4⟩ := runD_outs hE.bas (g4 false) (cornR_len hE.rngs) hr2
      rw [List.length_map] at k3
      refine ⟨by simp [encRows]; omega, encRows_mem _ _ (fun x hx => ?_)⟩
      obtain ⟨y, hy, rfl⟩ := List.mem_map.1 hx
      have := (k4 y hy).1
      omega

/-- **BasinEncloses**: for every input the law answers true. -/
theorem basinEncloses_law (b : Bas) (v : List Itv) (l : List Rng) (hlen : l.length < lenMax) : law04_BasinEncloses_M b v l = some (true, ()) := by
  have hmem : memMax = 68719476736 := rfl
  have aw : (law04_awake_M.bind fun v6 => some (v6.1, ())) = some (true, ()) := by rw [awake_true]; rfl
  unfold law04_BasinEncloses_M law04_BasinEncloses_m
  obtain ⟨s, hs, hs2⟩ := short_eq b
  rw [hs]
  simp only [Option.bind_some]
  cases s with
  | false => exact aw
  | true =>
    obtain ⟨h9, h17, h60⟩ := hs2 rfl
    simp only [Bool.not_true, cond_false]
    by_cases hv : v.length ≤ 9
    · rw [bifF (dec_false (show ¬ (v.length : Int) > 9 by omega))]
      obtain ⟨s, hs, hs2⟩ := shortRs l hlen
      rw [hs]
      simp only [Option.bind_some]
      cases s with
      | false => exact aw
      | true =>
        obtain ⟨hr, hl⟩ := hs2 rfl
        have hnn : ∀ n ∈ b.1, n.1.length < lenMax := fun n hn => by have := h60 n hn; unfold lenMax; omega
        have hr1 : ∀ e ∈ l, e.2.2.1.length ≤ memMax := fun e he => by have := hr e he; omega
        simp only [Bool.not_true, cond_false]
        rw [given_eq b (by omega) (by omega), intervals_eq v (by omega), ranges_eq l (by omega) hr1]
        simp only [Option.bind_some]
        rw [rEnc_eq b v l (by unfold lenMax; omega) hlen (fun e he => by have := hr e he; unfold lenMax; omega)]
        by_cases h0 : ckEnc b v l = 0
        · have hE := ckEnc_zero h0
          obtain ⟨n1, n2⟩ := encD_lens b v l hE
          rw [benclose_eq b v l hnn h0, bSafe_eq b v l hnn h0, blatest_eq b v l hnn h0]
          simp only [Option.bind_some]
          rw [bifT (show (ckEnc b v l == 0) = true by simpa using h0), renclose_eq b v l hE, rsafe_eq b v l hE, rlatest_eq b v l hE]
          simp only [Option.bind_some]
          unfold law04_BasinEncloses_m_j46
          rw [sameIv_refl _ (by unfold lenMax; omega) n2]
          simp only [Option.bind_some, cond_true, beq_self_eq_true]
          exact aw
        · have hne : (ckEnc b v l != 0) = true := by simpa using h0
          have e1 : basin_Enclose_M b v l = some ([], ckEnc b v l, ()) := by
            unfold basin_Enclose_M
            rw [bEnc_eq b v l hnn (by omega) (by omega) hr1]
            simp only [Option.bind_some]
            rw [bifT hne]
          have e2 : basin_Safe_M b v l = some (false, ckEnc b v l, ()) := by
            unfold basin_Safe_M basin_Safe_m
            rw [bEnc_eq b v l hnn (by omega) (by omega) hr1]
            simp only [Option.bind_some]
            rw [bifT hne]
          have e3 : basin_Latest_M b v l = some (0, ckEnc b v l, ()) := by
            unfold basin_Latest_M
            rw [bEnc_eq b v l hnn (by omega) (by omega) hr1]
            simp only [Option.bind_some]
            rw [bifT hne]
          rw [e1, e2, e3]
          simp only [Option.bind_some]
          rw [bifF (show (ckEnc b v l == 0) = false by simpa using h0)]
          unfold law04_BasinEncloses_m_j46
          rw [sameIv_refl [] (by simp [lenMax]) (by simp)]
          simp only [Option.bind_some, cond_true, beq_self_eq_true]
          exact aw
    · rw [bifT (dec_true (show (v.length : Int) > 9 by omega))]
      exact aw
end Go.Tw
