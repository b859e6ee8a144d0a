import Derived.Test.YtohhmdogfjmlcaaGreatPX
import Derived.Test.YtohhmdogfjmlcaaGreatBC
import Derived.Test.YtohhmdogfjmlcaaGreatB13
section
set_option linter.all false
set_option maxRecDepth 100000
namespace Go.Tw
open Go.Vx Go.Vx.B Go.Proofs
theorem awake_true : z0Q_M = some (true, ()) := by kernel_rfl
end Go.Tw
end
section
set_option linter.all false
set_option maxRecDepth 100000
namespace Go.Tw
open Go.Vx Go.Vx.B Go.Proofs
end Go.Tw
end
section
set_option linter.all false
set_option maxRecDepth 100000
namespace Go.Tw
open Go.Vx Go.Vx.B Go.Proofs
def stuckW : List UInt8 := [115, 116, 117, 99, 107]
def lostW : List UInt8 := [108, 111, 115, 116]
def tick (i : Int) : List Fai := (lostW, i, 0, 0, ()) :: [(stuckW, i, 0, 0, ()), (stuckW, i, 0, 1, ()), (stuckW, i, 1, 0, ()), (stuckW, i, 1, 1, ()), (stuckW, i, 2, 0, ()), (stuckW, i, 2, 1, ()), (stuckW, i, 3, 0, ()), (stuckW, i, 3, 1, ())]
def ticks : Int → Nat → List Fai
  | _, 0 => []
  | i, m + 1 => tick i ++ ticks (i + 1) m
def inE (x : Inp) : Int := firstOf (nmE x.1) (ckR x.2.1 0 15)
theorem ginput_eq (x : Inp) (h : x.1.length < lenMax) : zj_M x = some (inE x, ()) := by
  unfold zj_M zj_m
  rw [gcheckName_eq _ h]
  simp only [Option.bind_some, zR, within_eq]
  rw [gfirst_eq _ (by simp [lenMax])]
  simp only [Option.bind_some, firstE_cons, firstE_nil, firstOf_zero]
  rfl
end Go.Tw
end
section
set_option linter.all false
set_option maxRecDepth 100000
namespace Go.Tw
open Go.Vx Go.Vx.B Go.Proofs
theorem shortT_loop (c : Cha) : ∀ (l : List Tra) (i : Int), ∃ s, loopL (fun i__ e__ s__ => z0T_b11 c i__ e__) (fun s__ => z0T_f11 c) i l () = some (s, ()) ∧ (s = true → ∀ t ∈ l, t.2.1.length ≤ 40)
  | [], i => ⟨true, rfl, fun _ t ht => by cases ht⟩
  | x :: l, i => by
    rw [loopL_cons]
    unfold z0T_b11
    by_cases h : (x.2.1.length : Int) > 40
    · exact ⟨false, by rw [bifT (dec_true h)]; rfl, fun h => by cases h⟩
    · obtain ⟨s, h1, h2⟩ := shortT_loop c l (i + 1)
      refine ⟨s, by rw [bifF (dec_false h)]; exact h1, fun hs t ht => ?_⟩
      rcases List.mem_cons.1 ht with rfl | ht
      · omega
      · exact h2 hs t ht
theorem shortS_loop (c : Cha) (hl : c.2.1.length < lenMax) : ∀ (l : List Sta) (i : Int), ∃ s, loopL (fun i__ e__ s__ => z0T_b9 c i__ e__) (fun s__ => z0T_f9 c) i l () = some (s, ()) ∧ (s = true → (∀ t ∈ l, t.1.length ≤ 40) ∧ ∀ t ∈ c.2.1, t.2.1.length ≤ 40)
  | [], i => by
    obtain ⟨s, h1, h2⟩ := shortT_loop c c.2.1 0
    refine ⟨s, ?_, fun hs => ⟨fun t ht => (by cases ht), h2 hs⟩⟩
    rw [loopL_nil]
    unfold z0T_f9
    rw [bifT (dec_true hl)]
    exact h1
  | x :: l, i => by
    rw [loopL_cons]
    unfold z0T_b9
    by_cases h : (x.1.length : Int) > 40
    · exact ⟨false, by rw [bifT (dec_true h)]; rfl, fun h => by cases h⟩
    · obtain ⟨s, h1, h2⟩ := shortS_loop c hl l (i + 1)
      refine ⟨s, by rw [bifF (dec_false h)]; exact h1, fun hs => ⟨fun t ht => ?_, (h2 hs).2⟩⟩
      rcases List.mem_cons.1 ht with rfl | ht
      · omega
      · exact (h2 hs).1 t ht
structure Sh (c : Cha) : Prop where
  sts : c.1.length ≤ 17
  tras : c.2.1.length ≤ 49
  words : Words c
theorem short_eq (c : Cha) : ∃ s, z0T_M c = some (s, ()) ∧ (s = true → Sh c) := by
  have key : c.1.length ≤ 17 → c.2.1.length ≤ 49 → ∃ s, z0T_s13 c = some (s, ()) ∧ (s = true → Sh c) := by
    intro h1 h2
    obtain ⟨s, h3, h4⟩ := shortS_loop c (by unfold lenMax; omega) c.1 0
    refine ⟨s, ?_, fun hs => ⟨h1, h2, fun t ht => ?_, fun t ht => ?_⟩⟩
    · unfold z0T_s13
      rw [bifT (dec_true (show c.1.length < lenMax by unfold lenMax; omega))]
      exact h3
    · have := (h4 hs).1 t ht; unfold lenMax; omega
    · have := (h4 hs).2 t ht; unfold lenMax; omega
  have key2 : c.1.length ≤ 17 → ∃ s, (bif decide ((c.2.1.length : Int) > 12) then (bif (c.2.1.length : Int) != 49 then (some ((false, ()))) else (z0T_s13 c)) else (z0T_s13 c)) = some (s, ()) ∧ (s = true → Sh c) := by
    intro h1
    by_cases h2 : (c.2.1.length : Int) > 12
    · rw [bifT (dec_true h2)]
      by_cases h3 : (c.2.1.length : Int) = 49
      · rw [bifF (show ((c.2.1.length : Int) != 49) = false by simp [h3])]
        exact key h1 (by omega)
      · exact ⟨false, by rw [bifT (show ((c.2.1.length : Int) != 49) = true by simpa using h3)], fun h => by cases h⟩
    · rw [bifF (dec_false h2)]
      exact key h1 (by omega)
  unfold z0T_M
  by_cases h2 : (c.1.length : Int) > 7
  · rw [bifT (dec_true h2)]
    by_cases h3 : (c.1.length : Int) = 17
    · rw [bifF (show ((c.1.length : Int) != 17) = false by simp [h3])]
      exact key2 (by omega)
    · exact ⟨false, by rw [bifT (show ((c.1.length : Int) != 17) = true by simpa using h3)], fun h => by cases h⟩
  · rw [bifF (dec_false h2)]
    exact key2 (by omega)
theorem chart_eq (c : Cha) (hc : Sh c) : z0R_M c = some (c, ()) := by
  have hmem : memMax = 68719476736 := rfl
  have h1 := hc.sts
  have h2 := hc.tras
  unfold z0R_M
  rw [bifT (dec_true (show c.1.length < lenMax by unfold lenMax; omega))]
  refine (loopL_app (fun x : Sta => x) c.1 0 [] (by simp; omega) fun i e s he hs => ?_).trans ?_
  · unfold z0R_b0
    rw [bifT (dec_true hs)]
  rw [List.map_id', List.nil_append]
  unfold z0R_f0
  rw [bifT (dec_true (show c.2.1.length < lenMax by unfold lenMax; omega))]
  refine (loopL_app (fun x : Tra => x) c.2.1 0 [] (by simp; omega) fun i e s he hs => ?_).trans ?_
  · unfold z0R_b2
    rw [bifT (dec_true hs)]
  rw [List.map_id', List.nil_append]
  rfl
theorem gck (c : Cha) (hc : Sh c) : zq_M c = some (ckChart c, ()) := gchart_eq c (by have := hc.sts; omega) (by have := hc.tras; omega) hc.words
theorem gLeaves_eq (c : Cha) (hc : Sh c) : z0L_M c = some (if ckChart c = 0 then (leavesF 0 c.1, 0, ()) else ([], ckChart c, ())) := by
  unfold z0L_M z0L_m
  rw [gck c hc]
  simp only [Option.bind_some]
  by_cases h : ckChart c = 0
  · rw [if_pos h, bifF (show (ckChart c != 0) = false by simpa using h), gleaves_eq c (by have := hc.sts; omega)]
    rfl
  · rw [if_neg h, bifT (show (ckChart c != 0) = true by simpa using h)]
theorem gEvents_eq (c : Cha) (hc : Sh c) : z0K_M c = some (if ckChart c = 0 then (evts c.2.1, 0, ()) else ([], ckChart c, ())) := by
  unfold z0K_M z0K_m
  rw [gck c hc]
  simp only [Option.bind_some]
  by_cases h : ckChart c = 0
  · rw [if_pos h, bifF (show (ckChart c != 0) = false by simpa using h), gevents_eq c (by have := hc.tras; omega)]
    rfl
  · rw [if_neg h, bifT (show (ckChart c != 0) = true by simpa using h)]
end Go.Tw
end
section
set_option linter.all false
set_option maxRecDepth 100000
namespace Go.Tw
open Go.Vx Go.Vx.B Go.Proofs
def lfE (c : Cha) (i : Int) : Int := if i < 0 ∨ (c.1.length : Int) ≤ i then 10 else match c.1[i.toNat]? with
  | some s => if s.2.2.1 = -1 then 0 else 20
  | none => 10
theorem lfE_zero {c : Cha} {i : Int} (h : lfE c i = 0) : 0 ≤ i ∧ i < c.1.length := by
  unfold lfE at h
  split at h
  · cases h
  · omega
theorem gleaf_eq (c : Cha) (i : Int) : zO_M c i = some (lfE c i, ()) := by
  unfold zO_M zO_m lfE
  by_cases h0 : i < 0
  · rw [bifT (dec_true h0), if_pos (.inl h0)]
  rw [bifF (dec_false h0)]
  by_cases h1 : (c.1.length : Int) ≤ i
  · rw [bifT (dec_true (show i ≥ (c.1.length : Int) from h1)), if_pos (.inr h1)]
  rw [bifF (dec_false (show ¬ i ≥ (c.1.length : Int) from h1)), if_neg (by omega)]
  have hlt : i.toNat < c.1.length := by omega
  have hg : c.1[i.toNat]? = some c.1[i.toNat] := List.getElem?_eq_getElem hlt
  rw [idx_int _ (by omega), hg]
  simp only [Option.bind_some, when_eq]
  by_cases h : c.1[i.toNat].2.2.1 = -1
  · simp [h]
  · rw [if_neg h, show (c.1[i.toNat].2.2.1 != -1) = true by simpa using h]
    rfl
def stepE (c : Cha) (leaf : Int) (x : Inp) : Int := firstOf (ckChart c) (firstOf (lfE c leaf) (inE x))
theorem inE_range {x : Inp} (h : inE x = 0) : 0 ≤ x.2.1 ∧ x.2.1 ≤ 15 := ckR_zero (firstOf_eq_zero.1 h).2
theorem gStep_eq (c : Cha) (hc : Sh c) (leaf : Int) (x : Inp) (hx : x.1.length < lenMax) :
    z0c_M c leaf x = some (if stepE c leaf x = 0 then ((stp c leaf x.1 x.2.1).1, (stp c leaf x.1 x.2.1).2, ()) else (0, stepE c leaf x, ())) := by
  unfold z0c_M z0c_m stepE
  rw [gck c hc, Option.bind_some]
  by_cases h : ckChart c = 0
  · rw [h, bifF (show (((0 : Int), ()).1 != 0) = false from rfl), gleaf_eq, Option.bind_some, ginput_eq x hx, Option.bind_some, gfirst_eq _ (by simp [lenMax]), Option.bind_some, firstOf_z]
    simp only [firstE_cons, firstE_nil, firstOf_zero]
    by_cases he : firstOf (lfE c leaf) (inE x) = 0
    · obtain ⟨h1, h2⟩ := firstOf_eq_zero.1 he
      have hl := lfE_zero h1
      rw [if_pos he, bifF (show (firstOf (lfE c leaf) (inE x) != 0) = false by simpa using he), gstep_eq c (valid_of c h) leaf x hl.1 hl.2 (inE_range h2), Option.bind_some]
      unfold stp
      generalize takes c leaf x.1 x.2.1 = fs
      match fs with
      | [] => rfl
      | [t] => rfl
      | t :: u :: l => rfl
    · rw [if_neg he, bifT (show (firstOf (lfE c leaf) (inE x) != 0) = true by simpa using he)]
  · rw [firstOf_nz h, if_neg h, bifT (show ((ckChart c, ()).1 != 0) = true by simpa using h)]
end Go.Tw
end
section
set_option linter.all false
set_option maxRecDepth 100000
namespace Go.Tw
open Go.Vx Go.Vx.B Go.Proofs
theorem nodup_le : ∀ (n : Nat) (l : List Int), l.Nodup → (∀ x ∈ l, 0 ≤ x ∧ x < n) → l.length ≤ n
  | 0, l, _, h => by
    cases l with
    | nil => exact Nat.le_refl _
    | cons x l => have := h x (by simp); omega
  | n + 1, l, hn, h => by
    have ih := nodup_le n (l.erase (n : Int)) (hn.erase _) (fun x hx => by
      have h1 := (List.Nodup.mem_erase_iff hn).1 hx
      have := h x h1.2
      have h2 := h1.1
      omega)
    have : l.length ≤ (l.erase (n : Int)).length + 1 := by
      by_cases hm : (n : Int) ∈ l
      · rw [List.length_erase_of_mem hm]; omega
      · rw [List.erase_of_not_mem hm]; omega
    omega
abbrev lvs (ps : List Pth) : List Int := ps.map fun p => p.1
structure WI (c : Cha) (ps : List Pth) : Prop where
  nd : (lvs ps).Nodup
  rg : ∀ p ∈ ps, 0 ≤ p.1 ∧ p.1 < c.1.length
  ln : ∀ (j : Nat) (p : Pth), ps[j]? = some p → p.2.1.length ≤ j
theorem WI.few {c : Cha} (hc : Valid c) {ps : List Pth} (h : WI c ps) : ps.length ≤ 16 := by
  have := nodup_le c.1.length (lvs ps) h.nd (fun x hx => by
    obtain ⟨p, hp, rfl⟩ := List.mem_map.1 hx
    exact h.rg p hp)
  have h16 := hc.few
  simp only [List.length_map] at this
  omega
end Go.Tw
end
