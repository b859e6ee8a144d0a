import Derived.Test.YtohhmdogfjmlcaaGreatPX
import Derived.Test.YtohhmdogfjmlcaaGreatBC
import Derived.Test.YtohhmdogfjmlcaaGreatB13
section
set_option linter.all false
set_option maxRecDepth 100000
namespace Go.Tw
open Go.Vx Go.Vx.B Go.Proofs
theorem awake_true : z0O_M = some (true, ()) := by kernel_rfl
end Go.Tw
end
section
set_option linter.all false
set_option maxRecDepth 100000
namespace Go.Tw
open Go.Vx Go.Vx.B Go.Proofs
end Go.Tw
end
section
set_option linter.all false
set_option maxRecDepth 100000
namespace Go.Tw
open Go.Vx Go.Vx.B Go.Proofs
def stuckW : List UInt8 := [115, 116, 117, 99, 107]
def lostW : List UInt8 := [108, 111, 115, 116]
def noneW : List UInt8 := [110, 111, 110, 101]
def tick (i : Int) : List Fai := (lostW, i, 0, 0, ()) :: [(stuckW, i, 0, 0, ()), (stuckW, i, 0, 1, ()), (stuckW, i, 1, 0, ()), (stuckW, i, 1, 1, ()), (stuckW, i, 2, 0, ()), (stuckW, i, 2, 1, ()), (stuckW, i, 3, 0, ()), (stuckW, i, 3, 1, ())]
def ticks : Int → Nat → List Fai
  | _, 0 => []
  | i, m + 1 => tick i ++ ticks (i + 1) m
def inE (x : Inp) : Int := firstOf (nmE x.1) (ckR x.2.1 0 15)
def insE : List Inp → Int
  | [] => 0
  | x :: l => firstOf (inE x) (insE l)
def ckScript (l : List Inp) : Int := if 64 < l.length then 5 else insE l
theorem ginput_eq (x : Inp) (h : x.1.length < lenMax) : zk_M x = some (inE x, ()) := by
  unfold zk_M zk_m
  rw [gcheckName_eq _ h]
  simp only [Option.bind_some, zR, within_eq]
  rw [gfirst_eq _ (by simp [lenMax])]
  simp only [Option.bind_some, firstE_cons, firstE_nil, firstOf_zero]
  rfl
theorem firstE_ins : ∀ l : List Inp, firstE (l.map inE) = insE l
  | [] => rfl
  | x :: l => by rw [List.map_cons, firstE_cons, firstE_ins l]; rfl
theorem gscript_eq (l : List Inp) (h : l.length ≤ 1000) (hw : ∀ x ∈ l, x.1.length < lenMax) : zl_M l = some (ckScript l, ()) := by
  have hmem : memMax = 68719476736 := rfl
  have hlm : l.length < lenMax := by unfold lenMax; omega
  unfold zl_M zl_m
  have hmap : (z8_M l fun (x : Inp × Unit) => zk_M x.fst) = some (l.map inE, ()) := by
    unfold z8_M
    rw [bifT (dec_true hlm)]
    refine (loopL_app inE l 0 [] (by simp; omega) fun i e s he hs => ?_).trans ?_
    · unfold z8_b0
      simp only
      rw [show ((e.1, e.2.1, ()) : Inp) = e from rfl, ginput_eq e (hw e he)]
      simp only [Option.bind_some]
      rw [bifT (dec_true hs)]
    · rw [List.nil_append]; rfl
  rw [hmap]
  simp only [Option.bind_some]
  rw [gfirst_eq _ (by rw [List.length_map]; exact hlm), firstE_ins]
  simp only [Option.bind_some, when_eq]
  rw [gfirst_eq _ (by simp [lenMax])]
  simp only [Option.bind_some, firstE_cons, firstE_nil, firstOf_zero]
  unfold ckScript
  by_cases h9 : 64 < l.length
  · rw [dec_true (show (l.length : Int) > 64 by omega), if_pos h9]; rfl
  · rw [dec_false (show ¬ (l.length : Int) > 64 by omega), if_neg h9]; rfl
theorem script_eq (l : List Inp) (h : l.length ≤ memMax) : z0F_M l = some (l, ()) := by
  have hmem : memMax = 68719476736 := rfl
  unfold z0F_M
  rw [bifT (dec_true (show l.length < lenMax by unfold lenMax; omega))]
  refine (loopL_app (fun x : Inp => x) l 0 [] (by simpa using h) fun i e s he hs => ?_).trans ?_
  · unfold z0F_b0
    rw [bifT (dec_true hs)]
  · rw [List.map_id', List.nil_append]; rfl
end Go.Tw
end
section
set_option linter.all false
set_option maxRecDepth 100000
namespace Go.Tw
open Go.Vx Go.Vx.B Go.Proofs
theorem shortT_loop (c : Cha) : ∀ (l : List Tra) (i : Int), ∃ s, loopL (fun i__ e__ s__ => z0R_b11 c i__ e__) (fun s__ => z0R_f11 c) i l () = some (s, ()) ∧ (s = true → ∀ t ∈ l, t.2.1.length ≤ 40)
  | [], i => ⟨true, rfl, fun _ t ht => by cases ht⟩
  | x :: l, i => by
    rw [loopL_cons]
    unfold z0R_b11
    by_cases h : (x.2.1.length : Int) > 40
    · exact ⟨false, by rw [bifT (dec_true h)]; rfl, fun h => by cases h⟩
    · obtain ⟨s, h1, h2⟩ := shortT_loop c l (i + 1)
      refine ⟨s, by rw [bifF (dec_false h)]; exact h1, fun hs t ht => ?_⟩
      rcases List.mem_cons.1 ht with rfl | ht
      · omega
      · exact h2 hs t ht
theorem shortS_loop (c : Cha) (hl : c.2.1.length < lenMax) : ∀ (l : List Sta) (i : Int), ∃ s, loopL (fun i__ e__ s__ => z0R_b9 c i__ e__) (fun s__ => z0R_f9 c) i l () = some (s, ()) ∧ (s = true → (∀ t ∈ l, t.1.length ≤ 40) ∧ ∀ t ∈ c.2.1, t.2.1.length ≤ 40)
  | [], i => by
    obtain ⟨s, h1, h2⟩ := shortT_loop c c.2.1 0
    refine ⟨s, ?_, fun hs => ⟨fun t ht => (by cases ht), h2 hs⟩⟩
    rw [loopL_nil]
    unfold z0R_f9
    rw [bifT (dec_true hl)]
    exact h1
  | x :: l, i => by
    rw [loopL_cons]
    unfold z0R_b9
    by_cases h : (x.1.length : Int) > 40
    · exact ⟨false, by rw [bifT (dec_true h)]; rfl, fun h => by cases h⟩
    · obtain ⟨s, h1, h2⟩ := shortS_loop c hl l (i + 1)
      refine ⟨s, by rw [bifF (dec_false h)]; exact h1, fun hs => ⟨fun t ht => ?_, (h2 hs).2⟩⟩
      rcases List.mem_cons.1 ht with rfl | ht
      · omega
      · exact (h2 hs).1 t ht
structure Sh (c : Cha) : Prop where
  sts : c.1.length ≤ 17
  tras : c.2.1.length ≤ 49
  words : Words c
theorem short_eq (c : Cha) : ∃ s, z0R_M c = some (s, ()) ∧ (s = true → Sh c) := by
  have key : c.1.length ≤ 17 → c.2.1.length ≤ 49 → ∃ s, z0R_s13 c = some (s, ()) ∧ (s = true → Sh c) := by
    intro h1 h2
    obtain ⟨s, h3, h4⟩ := shortS_loop c (by unfold lenMax; omega) c.1 0
    refine ⟨s, ?_, fun hs => ⟨h1, h2, fun t ht => ?_, fun t ht => ?_⟩⟩
    · unfold z0R_s13
      rw [bifT (dec_true (show c.1.length < lenMax by unfold lenMax; omega))]
      exact h3
    · have := (h4 hs).1 t ht; unfold lenMax; omega
    · have := (h4 hs).2 t ht; unfold lenMax; omega
  have key2 : c.1.length ≤ 17 → ∃ s, (bif decide ((c.2.1.length : Int) > 12) then (bif (c.2.1.length : Int) != 49 then (some ((false, ()))) else (z0R_s13 c)) else (z0R_s13 c)) = some (s, ()) ∧ (s = true → Sh c) := by
    intro h1
    by_cases h2 : (c.2.1.length : Int) > 12
    · rw [bifT (dec_true h2)]
      by_cases h3 : (c.2.1.length : Int) = 49
      · rw [bifF (show ((c.2.1.length : Int) != 49) = false by simp [h3])]
        exact key h1 (by omega)
      · exact ⟨false, by rw [bifT (show ((c.2.1.length : Int) != 49) = true by simpa using h3)], fun h => by cases h⟩
    · rw [bifF (dec_false h2)]
      exact key h1 (by omega)
  unfold z0R_M
  by_cases h2 : (c.1.length : Int) > 7
  · rw [bifT (dec_true h2)]
    by_cases h3 : (c.1.length : Int) = 17
    · rw [bifF (show ((c.1.length : Int) != 17) = false by simp [h3])]
      exact key2 (by omega)
    · exact ⟨false, by rw [bifT (show ((c.1.length : Int) != 17) = true by simpa using h3)], fun h => by cases h⟩
  · rw [bifF (dec_false h2)]
    exact key2 (by omega)
theorem chart_eq (c : Cha) (hc : Sh c) : z0P_M c = some (c, ()) := by
  have hmem : memMax = 68719476736 := rfl
  have h1 := hc.sts
  have h2 := hc.tras
  unfold z0P_M
  rw [bifT (dec_true (show c.1.length < lenMax by unfold lenMax; omega))]
  refine (loopL_app (fun x : Sta => x) c.1 0 [] (by simp; omega) fun i e s he hs => ?_).trans ?_
  · unfold z0P_b0
    rw [bifT (dec_true hs)]
  rw [List.map_id', List.nil_append]
  unfold z0P_f0
  rw [bifT (dec_true (show c.2.1.length < lenMax by unfold lenMax; omega))]
  refine (loopL_app (fun x : Tra => x) c.2.1 0 [] (by simp; omega) fun i e s he hs => ?_).trans ?_
  · unfold z0P_b2
    rw [bifT (dec_true hs)]
  rw [List.map_id', List.nil_append]
  rfl
theorem gck (c : Cha) (hc : Sh c) : zr_M c = some (ckChart c, ()) := gchart_eq c (by have := hc.sts; omega) (by have := hc.tras; omega) hc.words
theorem gEvents_eq (c : Cha) (hc : Sh c) : z0I_M c = some (if ckChart c = 0 then (evts c.2.1, 0, ()) else ([], ckChart c, ())) := by
  unfold z0I_M z0I_m
  rw [gck c hc]
  simp only [Option.bind_some]
  by_cases h : ckChart c = 0
  · rw [if_pos h, bifF (show (ckChart c != 0) = false by simpa using h), gevents_eq c (by have := hc.tras; omega)]
    rfl
  · rw [if_neg h, bifT (show (ckChart c != 0) = true by simpa using h)]
theorem gStart_eq (c : Cha) (hc : Sh c) : z0S_M c = some (if ckChart c = 0 then (entr c 0, 0, ()) else (0, ckChart c, ())) := by
  unfold z0S_M z0S_m
  rw [gck c hc]
  by_cases h : ckChart c = 0
  · have hv := valid_of c h
    have hp := hv.pos
    rw [if_pos h, Option.bind_some, bifF (show ((ckChart c, ()).1 != 0) = false by simpa using h), genter_eq c hv 0 (by omega) (by omega)]
    rfl
  · rw [if_neg h, Option.bind_some, bifT (show ((ckChart c, ()).1 != 0) = true by simpa using h)]
theorem stp_leaf (c : Cha) (hc : Valid c) (leaf : Int) (e : List UInt8) (v : Int) (h0 : 0 ≤ leaf) (h1 : leaf < c.1.length) (hs : (stp c leaf e v).2 = 0) : 0 ≤ (stp c leaf e v).1 ∧ (stp c leaf e v).1 < c.1.length := by
  have hm := takes_mem c e v 17 leaf
  unfold stp at hs ⊢
  change ∀ t, t ∈ takes c leaf e v → _ at hm
  generalize takes c leaf e v = fs at hm hs
  match fs with
  | [] => exact ⟨h0, h1⟩
  | [t] =>
    have ht := hc.tra t (hm t (by simp))
    have := entr_leaf c hc t.2.2.1 ht.2.2.1 ht.2.2.2.1
    exact ⟨this.1, this.2.1⟩
  | t :: u :: l => cases hs
def plays (c : Cha) (d : Int → Inp → Inp × Bool) : List Inp → Int → Int → List Int → List Int × Int
  | [], _, _, out => (out, 0)
  | x :: l, i, leaf, out => if (d i x).2 = true then
      (if (stp c leaf (d i x).1.1 (d i x).1.2.1).2 = 0 then plays c d l (i + 1) (stp c leaf (d i x).1.1 (d i x).1.2.1).1 (out ++ [(stp c leaf (d i x).1.1 (d i x).1.2.1).1]) else ([], (stp c leaf (d i x).1.1 (d i x).1.2.1).2))
    else plays c d l (i + 1) leaf (out ++ [leaf])
theorem plays_length (c : Cha) (d : Int → Inp → Inp × Bool) : ∀ (l : List Inp) (i leaf : Int) (out : List Int), (plays c d l i leaf out).1.length ≤ out.length + l.length
  | [], i, leaf, out => Nat.le_refl _
  | x :: l, i, leaf, out => by
    unfold plays
    split
    · split
      · have := plays_length c d l (i + 1) (stp c leaf (d i x).1.1 (d i x).1.2.1).1 (out ++ [(stp c leaf (d i x).1.1 (d i x).1.2.1).1])
        simp only [List.length_append, List.length_cons, List.length_nil] at this ⊢
        omega
      · simp
    · have := plays_length c d l (i + 1) leaf (out ++ [leaf])
      simp only [List.length_append, List.length_cons, List.length_nil] at this ⊢
      omega
theorem gplay_loop (c : Cha) (hc : Valid c) (f : Fai) (xs : List Inp) (w : List UInt8) (g1 : Fai × Unit → Option (Fai × Unit)) (g2 : Fai × Int × Inp × Unit → Option (Inp × Bool × Unit)) (d : Int → Inp → Inp × Bool) :
    ∀ (l : List Inp) (i : Int) (leaf : Int) (out : List Int), 0 ≤ i → 0 ≤ leaf → leaf < c.1.length → out.length + l.length ≤ 1000 → (∀ (i : Int) x, 0 ≤ i → x ∈ l → g2 (f, i, x, ()) = some ((d i x).1, (d i x).2, ()) ∧ ((d i x).2 = true → 0 ≤ (d i x).1.2.1 ∧ (d i x).1.2.1 ≤ 15)) →
      loopL (fun i__ e__ s__ => zp_b2 c f xs w g1 g2 i__ e__ s__.1 s__.2) (fun s__ => zp_f2 c f xs w g1 g2 s__.1 s__.2) i l (leaf, out) = some ((plays c d l i leaf out).1, (plays c d l i leaf out).2, ())
  | [], i, leaf, out, _, _, _, _, _ => rfl
  | x :: l, i, leaf, out, hi, h0, h1, hl, hd => by
    have hmem : memMax = 68719476736 := rfl
    simp only [List.length_cons] at hl
    obtain ⟨hg, hv⟩ := hd i x hi (by simp)
    have hd' : ∀ (i : Int) x, 0 ≤ i → x ∈ l → g2 (f, i, x, ()) = some ((d i x).1, (d i x).2, ()) ∧ ((d i x).2 = true → 0 ≤ (d i x).1.2.1 ∧ (d i x).1.2.1 ≤ 15) := fun i y h hy => hd i y h (by simp [hy])
    have hb : zp_b2 c f xs w g1 g2 i x leaf out = some (if (d i x).2 = true then
        (if (stp c leaf (d i x).1.1 (d i x).1.2.1).2 = 0 then .inr ((stp c leaf (d i x).1.1 (d i x).1.2.1).1, out ++ [(stp c leaf (d i x).1.1 (d i x).1.2.1).1]) else .inl ([], (stp c leaf (d i x).1.1 (d i x).1.2.1).2, ()))
        else .inr (leaf, out ++ [leaf])) := by
      unfold zp_b2
      rw [show ((x.1, x.2.1, ()) : Inp) = x from rfl, hg]
      simp only [Option.bind_some]
      cases hq : (d i x).2 with
      | false => rw [cond_false, if_neg (by simp), bifT (dec_true (show out.length + 1 ≤ memMax by omega))]
      | true =>
        rw [cond_true, if_pos rfl, show (((d i x).1.1, (d i x).1.2.1, ()) : Inp) = (d i x).1 from rfl, gstep_eq c hc leaf (d i x).1 h0 h1 (hv hq)]
        simp only [Option.bind_some]
        unfold stp
        generalize takes c leaf (d i x).1.1 (d i x).1.2.1 = fs
        match fs with
        | [] => rw [bifF (by rfl), bifT (dec_true (show out.length + 1 ≤ memMax by omega))]; rfl
        | [t] => rw [bifF (by rfl), bifT (dec_true (show out.length + 1 ≤ memMax by omega))]; rfl
        | t :: u :: r => rfl
    rw [loopL_cons, hb]
    simp only [Option.bind_some]
    unfold plays
    by_cases hq : (d i x).2 = true
    · rw [if_pos hq, if_pos hq]
      by_cases hz : (stp c leaf (d i x).1.1 (d i x).1.2.1).2 = 0
      · rw [if_pos hz, if_pos hz]
        have hl2 := stp_leaf c hc leaf _ _ h0 h1 hz
        exact gplay_loop c hc f xs w g1 g2 d l (i + 1) _ _ (by omega) hl2.1 hl2.2 (by simp; omega) hd'
      · rw [if_neg hz, if_neg hz]
    · rw [if_neg hq, if_neg hq]
      exact gplay_loop c hc f xs w g1 g2 d l (i + 1) leaf _ (by omega) h0 h1 (by simp; omega) hd'
def noF : Fai := (noneW, 0, 0, 0, ())
def dNone : Int → Inp → Inp × Bool := fun _ x => (x, true)
theorem kind_none : ∃ k1 k2, ze_M noF = some ((noneW, k1, k2, ()), true, ()) ∧ ∀ i x, k2 (noF, i, x, ()) = some (x, true, ()) := by
  refine ⟨_, _, rfl, fun i x => rfl⟩
theorem gplay_none (c : Cha) (hc : Valid c) (l : List Inp) (hl : l.length ≤ 1000) (hv : ∀ x ∈ l, 0 ≤ x.2.1 ∧ x.2.1 ≤ 15) :
    zp_M c l noF = some ((plays c dNone l 0 (entr c 0) []).1, (plays c dNone l 0 (entr c 0) []).2, ()) := by
  have hp := hc.pos
  have hlf := entr_leaf c hc 0 (by omega) (by omega)
  obtain ⟨k1, k2, h1, h2⟩ := kind_none
  unfold zp_M
  rw [h1, Option.bind_some, genter_eq c hc 0 (by omega) (by omega), Option.bind_some, bifT (dec_true (show l.length < lenMax by unfold lenMax; omega))]
  exact gplay_loop c hc noF l noneW k1 k2 dNone l 0 (entr c 0) [] (by omega) hlf.1 hlf.2.1 (by simpa using hl) (fun i x _ hx => ⟨h2 i x, fun _ => hv x hx⟩)
end Go.Tw
end
section
set_option linter.all false
set_option maxRecDepth 100000
namespace Go.Tw
open Go.Vx Go.Vx.B Go.Proofs
def lfE (c : Cha) (i : Int) : Int := if i < 0 ∨ (c.1.length : Int) ≤ i then 10 else match c.1[i.toNat]? with
  | some s => if s.2.2.1 = -1 then 0 else 20
  | none => 10
theorem lfE_zero {c : Cha} {i : Int} (h : lfE c i = 0) : 0 ≤ i ∧ i < c.1.length := by
  unfold lfE at h
  split at h
  · cases h
  · omega
theorem gleaf_eq (c : Cha) (i : Int) : zO_M c i = some (lfE c i, ()) := by
  unfold zO_M zO_m lfE
  by_cases h0 : i < 0
  · rw [bifT (dec_true h0), if_pos (.inl h0)]
  rw [bifF (dec_false h0)]
  by_cases h1 : (c.1.length : Int) ≤ i
  · rw [bifT (dec_true (show i ≥ (c.1.length : Int) from h1)), if_pos (.inr h1)]
  rw [bifF (dec_false (show ¬ i ≥ (c.1.length : Int) from h1)), if_neg (by omega)]
  have hlt : i.toNat < c.1.length := by omega
  have hg : c.1[i.toNat]? = some c.1[i.toNat] := List.getElem?_eq_getElem hlt
  rw [idx_int _ (by omega), hg]
  simp only [Option.bind_some, when_eq]
  by_cases h : c.1[i.toNat].2.2.1 = -1
  · simp [h]
  · rw [if_neg h, show (c.1[i.toNat].2.2.1 != -1) = true by simpa using h]
    rfl
def stepE (c : Cha) (leaf : Int) (x : Inp) : Int := firstOf (ckChart c) (firstOf (lfE c leaf) (inE x))
theorem inE_range {x : Inp} (h : inE x = 0) : 0 ≤ x.2.1 ∧ x.2.1 ≤ 15 := ckR_zero (firstOf_eq_zero.1 h).2
theorem gStep_eq (c : Cha) (hc : Sh c) (leaf : Int) (x : Inp) (hx : x.1.length < lenMax) :
    z0a_M c leaf x = some (if stepE c leaf x = 0 then ((stp c leaf x.1 x.2.1).1, (stp c leaf x.1 x.2.1).2, ()) else (0, stepE c leaf x, ())) := by
  unfold z0a_M z0a_m stepE
  rw [gck c hc, Option.bind_some]
  by_cases h : ckChart c = 0
  · rw [h, bifF (show (((0 : Int), ()).1 != 0) = false from rfl), gleaf_eq, Option.bind_some, ginput_eq x hx, Option.bind_some, gfirst_eq _ (by simp [lenMax]), Option.bind_some, firstOf_z]
    simp only [firstE_cons, firstE_nil, firstOf_zero]
    by_cases he : firstOf (lfE c leaf) (inE x) = 0
    · obtain ⟨h1, h2⟩ := firstOf_eq_zero.1 he
      have hl := lfE_zero h1
      rw [if_pos he, bifF (show (firstOf (lfE c leaf) (inE x) != 0) = false by simpa using he), gstep_eq c (valid_of c h) leaf x hl.1 hl.2 (inE_range h2), Option.bind_some]
      unfold stp
      generalize takes c leaf x.1 x.2.1 = fs
      match fs with
      | [] => rfl
      | [t] => rfl
      | t :: u :: l => rfl
    · rw [if_neg he, bifT (show (firstOf (lfE c leaf) (inE x) != 0) = true by simpa using he)]
  · rw [firstOf_nz h, if_neg h, bifT (show ((ckChart c, ()).1 != 0) = true by simpa using h)]
theorem insE_mem : ∀ (l : List Inp), insE l = 0 → ∀ x ∈ l, inE x = 0
  | [], _, x, hx => by cases hx
  | y :: l, h, x, hx => by
    obtain ⟨h1, h2⟩ := firstOf_eq_zero.1 h
    rcases List.mem_cons.1 hx with rfl | hx
    · exact h1
    · exact insE_mem l h2 x hx
theorem script_range {l : List Inp} (h : ckScript l = 0) : ∀ x ∈ l, 0 ≤ x.2.1 ∧ x.2.1 ≤ 15 := by
  unfold ckScript at h
  split at h
  · cases h
  · exact fun x hx => inE_range (insE_mem l h x hx)
def runE (c : Cha) (l : List Inp) : Int := firstOf (ckChart c) (ckScript l)
abbrev run0 (c : Cha) (l : List Inp) : List Int × Int := plays c dNone l 0 (entr c 0) []
theorem gRun_eq (c : Cha) (hc : Sh c) (l : List Inp) (hl : l.length ≤ 1000) (hw : ∀ x ∈ l, x.1.length < lenMax) :
    z0e_M c l = some (if runE c l = 0 then ((run0 c l).1, (run0 c l).2, ()) else ([], runE c l, ())) := by
  unfold z0e_M z0e_m runE
  rw [gck c hc, Option.bind_some, gscript_eq l hl hw, Option.bind_some, gfirst_eq _ (by simp [lenMax]), Option.bind_some]
  simp only [firstE_cons, firstE_nil, firstOf_zero]
  by_cases h : firstOf (ckChart c) (ckScript l) = 0
  · obtain ⟨h1, h2⟩ := firstOf_eq_zero.1 h
    have := gplay_none c (valid_of c h1) l hl (script_range h2)
    unfold noF noneW at this
    rw [if_pos h, bifF (show (firstOf (ckChart c) (ckScript l) != 0) = false by simpa using h), this, Option.bind_some]
  · rw [if_neg h, bifT (show (firstOf (ckChart c) (ckScript l) != 0) = true by simpa using h)]
end Go.Tw
end
section
set_option linter.all false
set_option maxRecDepth 100000
namespace Go.Tw
open Go.Vx Go.Vx.B Go.Proofs
theorem nodup_le : ∀ (n : Nat) (l : List Int), l.Nodup → (∀ x ∈ l, 0 ≤ x ∧ x < n) → l.length ≤ n
  | 0, l, _, h => by
    cases l with
    | nil => exact Nat.le_refl _
    | cons x l => have := h x (by simp); omega
  | n + 1, l, hn, h => by
    have ih := nodup_le n (l.erase (n : Int)) (hn.erase _) (fun x hx => by
      have h1 := (List.Nodup.mem_erase_iff hn).1 hx
      have := h x h1.2
      have h2 := h1.1
      omega)
    have : l.length ≤ (l.erase (n : Int)).length + 1 := by
      by_cases hm : (n : Int) ∈ l
      · rw [List.length_erase_of_mem hm]; omega
      · rw [List.erase_of_not_mem hm]; omega
    omega
abbrev lvs (ps : List Pth) : List Int := ps.map fun p => p.1
structure WI (c : Cha) (ps : List Pth) : Prop where
  nd : (lvs ps).Nodup
  rg : ∀ p ∈ ps, 0 ≤ p.1 ∧ p.1 < c.1.length
  ln : ∀ (j : Nat) (p : Pth), ps[j]? = some p → p.2.1.length ≤ j
theorem WI.few {c : Cha} (hc : Valid c) {ps : List Pth} (h : WI c ps) : ps.length ≤ 16 := by
  have := nodup_le c.1.length (lvs ps) h.nd (fun x hx => by
    obtain ⟨p, hp, rfl⟩ := List.mem_map.1 hx
    exact h.rg p hp)
  have h16 := hc.few
  simp only [List.length_map] at this
  omega
def addW (c : Cha) (here : Pth) (e : List UInt8) (v : Int) (ps : List Pth) : List Pth :=
  if (stp c here.1 e v).2 = 0 ∧ (lvs ps).contains (stp c here.1 e v).1 = false then ps ++ [((stp c here.1 e v).1, here.2.1 ++ [(e, v, ())], ())] else ps
theorem addW_get (c : Cha) (here : Pth) (e : List UInt8) (v : Int) (ps : List Pth) (i : Nat) (p : Pth) (h : ps[i]? = some p) : (addW c here e v ps)[i]? = some p := by
  unfold addW
  split
  · rw [List.getElem?_append_left (List.getElem?_eq_some_iff.1 h).1]; exact h
  · exact h
theorem addW_inv (c : Cha) (hc : Valid c) (here : Pth) (e : List UInt8) (v : Int) (ps : List Pth) (i : Nat) (h : WI c ps) (hi : ps[i]? = some here) : WI c (addW c here e v ps) := by
  have hlt := (List.getElem?_eq_some_iff.1 hi).1
  have hr := h.rg here (List.mem_of_getElem? hi)
  unfold addW
  split
  · rename_i hs
    have hl := stp_leaf c hc here.1 e v hr.1 hr.2 hs.1
    refine ⟨?_, fun p hp => ?_, fun j p hp => ?_⟩
    · unfold lvs
      rw [List.map_append, List.nodup_append]
      refine ⟨h.nd, by simp, fun a ha b hb => ?_⟩
      simp only [List.map_cons, List.map_nil, List.mem_singleton] at hb
      subst hb
      intro he
      have : (lvs ps).contains (stp c here.1 e v).1 = true := List.contains_iff_mem.2 (he ▸ ha)
      rw [hs.2] at this
      cases this
    · rcases List.mem_append.1 hp with hp | hp
      · exact h.rg p hp
      · rw [List.mem_singleton] at hp; subst hp; exact hl
    · by_cases hj : j < ps.length
      · rw [List.getElem?_append_left hj] at hp; exact h.ln j p hp
      · rw [List.getElem?_append_right (by omega)] at hp
        have hj0 : j - ps.length = 0 := by
          cases hq : j - ps.length with
          | zero => rfl
          | succ k => rw [hq] at hp; simp at hp
        rw [hj0] at hp
        simp at hp
        subst hp
        have := h.ln i here hi
        simp
        omega
  · exact h
def wv (c : Cha) (here : Pth) (e : List UInt8) : Nat → Int → List Pth → List Pth
  | 0, _, ps => ps
  | m + 1, v, ps => wv c here e m (v + 1) (addW c here e v ps)
def we (c : Cha) (here : Pth) : List (List UInt8) → List Pth → List Pth
  | [], ps => ps
  | e :: l, ps => we c here l (wv c here e 16 0 ps)
def wout (c : Cha) (ev : List (List UInt8)) : Nat → Nat → List Pth → List Pth
  | 0, _, ps => ps
  | r + 1, i, ps => match ps[i]? with
    | some here => wout c ev r (i + 1) (we c here ev ps)
    | none => ps
theorem wv_inv (c : Cha) (hc : Valid c) (here : Pth) (e : List UInt8) (i : Nat) : ∀ (m : Nat) (v : Int) (ps : List Pth), WI c ps → ps[i]? = some here → WI c (wv c here e m v ps) ∧ (wv c here e m v ps)[i]? = some here
  | 0, v, ps, h, hi => ⟨h, hi⟩
  | m + 1, v, ps, h, hi => wv_inv c hc here e i m (v + 1) _ (addW_inv c hc here e v ps i h hi) (addW_get c here e v ps i here hi)
theorem we_inv (c : Cha) (hc : Valid c) (here : Pth) (i : Nat) : ∀ (ev : List (List UInt8)) (ps : List Pth), WI c ps → ps[i]? = some here → WI c (we c here ev ps) ∧ (we c here ev ps)[i]? = some here
  | [], ps, h, hi => ⟨h, hi⟩
  | e :: l, ps, h, hi => we_inv c hc here i l _ (wv_inv c hc here e i 16 0 ps h hi).1 (wv_inv c hc here e i 16 0 ps h hi).2
theorem wout_inv (c : Cha) (hc : Valid c) (ev : List (List UInt8)) : ∀ (r i : Nat) (ps : List Pth), WI c ps → WI c (wout c ev r i ps)
  | 0, i, ps, h => h
  | r + 1, i, ps, h => by
    unfold wout
    split
    · rename_i here hi
      exact wout_inv c hc ev r (i + 1) _ (we_inv c hc here i ev ps h hi).1
    · exact h
def SeenG (m : List (Int × Bool)) (ps : List Pth) : Prop := ∀ n, (mapGet (.int .i64) .bool m n).getD false = (lvs ps).contains n
theorem gw_body (c : Cha) (hc : Valid c) (i : Nat) (here : Pth) (e : List UInt8) (v : Int) (hv : 0 ≤ v ∧ v ≤ 15) (ps : List Pth) (m : List (Int × Bool)) (h : WI c ps) (hi : ps[i]? = some here) (hm : SeenG m ps)
    (t7 : List (List UInt8)) (t8 t9 : Int) (a5 a19 a21 : Int) (a22 : Bool) (a26 : Int) (a28 : Pth) (a29 a30 k1 : Cha) (k5 k19 k21 : Int) (k22 : Bool) (k26 : Int) (k28 : Pth) (k29 k30 : Cha) :
    ∃ m', zj_b7 e t7 t8 t9 c a5 a19 a21 a22 a26 a28 a29 a30 here.1 here.2.1 k1 k5 k19 k21 k22 k26 k28 k29 k30 v ps m = some (.inr (addW c here e v ps, m')) ∧ SeenG m' (addW c here e v ps) := by
  have hmem : memMax = 68719476736 := rfl
  have hf := h.few hc
  have hr := h.rg here (List.mem_of_getElem? hi)
  have hln := h.ln i here hi
  have hlt := (List.getElem?_eq_some_iff.1 hi).1
  unfold zj_b7
  rw [gstep_eq c hc here.1 (e, v, ()) hr.1 hr.2 hv]
  simp only [Option.bind_some]
  have key : ∀ (x : Int) (y : Bool), stp c here.1 e v = (x, 0) → ∃ m', (bif false then (some (Sum.inr (ps, m)) : Option ((((List Pth × Unit) ⊕ (List Pth × List (Int × Bool))) ⊕ (List Pth × List (Int × Bool))) ⊕ (List Pth × List (Int × Bool)))) else (bif (mapGet (.int .i64) .bool m x).getD false then (some (Sum.inr (ps, m))) else (bif decide (here.2.1.length ≤ memMax) then (bif decide (here.2.1.length + 1 ≤ memMax) then (bif decide (ps.length + 1 ≤ memMax) then (some (Sum.inr (ps ++ [(x, here.2.1 ++ [(e, v, ())], ())], mapPut (.int .i64) .bool m x true))) else none) else none) else none))) = some (.inr (addW c here e v ps, m')) ∧ SeenG m' (addW c here e v ps) := by
    intro x y hs
    have hmx := hm x
    unfold addW
    rw [hs]
    simp only [cond_false, true_and]
    cases hq : (lvs ps).contains x with
    | true =>
      rw [hq] at hmx
      rw [hmx, cond_true, if_neg (by simp)]
      exact ⟨m, rfl, hm⟩
    | false =>
      rw [hq] at hmx
      rw [hmx, cond_false, if_pos rfl, bifT (dec_true (show here.2.1.length ≤ memMax by omega)), bifT (dec_true (show here.2.1.length + 1 ≤ memMax by omega)), bifT (dec_true (show ps.length + 1 ≤ memMax by omega))]
      refine ⟨_, rfl, fun n => ?_⟩
      rw [mapGet_put intKey]
      unfold lvs
      rw [List.map_append, List.map_cons, List.map_nil, List.contains_append]
      have hmn := hm n
      show (bif (n == x) then some true else mapGet (.int .i64) .bool m n).getD false = ((lvs ps).contains n || [x].contains n)
      rw [← hmn, List.contains_cons, List.contains_nil, Bool.or_false]
      cases (n == x) <;> simp
  have hst : stp c here.1 e v = match takes c here.1 e v with | [] => (here.1, 0) | [t] => (entr c t.2.2.1, 0) | _ => (0, 30) := rfl
  revert hst
  generalize takes c here.1 e v = fs
  match fs with
  | [] => intro hst; exact key _ true hst
  | [t] => intro hst; exact key _ true hst
  | t :: u :: l =>
    intro hst
    refine ⟨m, ?_, ?_⟩
    · unfold addW
      rw [hst, if_neg (by simp)]
      rfl
    · unfold addW
      rw [hst, if_neg (by simp)]
      exact hm
theorem gw_loop (c : Cha) (hc : Valid c) (i : Nat) (here : Pth) (e : List UInt8)
    (t7 : List (List UInt8)) (t8 t9 : Int) (a5 a19 a21 : Int) (a22 : Bool) (a26 : Int) (a28 : Pth) (a29 a30 k1 : Cha) (k5 k19 k21 : Int) (k22 : Bool) (k26 : Int) (k28 : Pth) (k29 k30 : Cha) : ∀ (r : Nat) (v : Int) (ps : List Pth) (m : List (Int × Bool)), 0 ≤ v → v + r ≤ 16 → WI c ps → ps[i]? = some here → SeenG m ps →
    ∃ m', loopN (fun i__ s__ => zj_b7 e t7 t8 t9 c a5 a19 a21 a22 a26 a28 a29 a30 here.1 here.2.1 k1 k5 k19 k21 k22 k26 k28 k29 k30 i__ s__.1 s__.2) (fun s__ => zj_f7 e t7 t8 t9 c a5 a19 a21 a22 a26 a28 a29 a30 here.1 here.2.1 k1 k5 k19 k21 k22 k26 k28 k29 k30 s__.1 s__.2) r v (ps, m) = some (.inr (wv c here e r v ps, m')) ∧ SeenG m' (wv c here e r v ps)
  | 0, v, ps, m, _, _, h, hi, hm => ⟨m, rfl, hm⟩
  | r + 1, v, ps, m, h0, h1, h, hi, hm => by
    obtain ⟨m1, hb, hm1⟩ := gw_body c hc i here e v ⟨h0, by omega⟩ ps m h hi hm t7 t8 t9 a5 a19 a21 a22 a26 a28 a29 a30 k1 k5 k19 k21 k22 k26 k28 k29 k30
    unfold loopN
    simp only [hb, Option.bind_some]
    exact gw_loop c hc i here e t7 t8 t9 a5 a19 a21 a22 a26 a28 a29 a30 k1 k5 k19 k21 k22 k26 k28 k29 k30 r (v + 1) _ m1 (by omega) (by omega) (addW_inv c hc here e v ps i h hi) (addW_get c here e v ps i here hi) hm1
theorem ge_loop (c : Cha) (hc : Valid c) (i : Nat) (here : Pth) (t7 : List (List UInt8)) (a5 a19 a21 : Int) (a22 : Bool) (a26 : Int) (a28 : Pth) (a29 a30 k1 : Cha) (k5 k19 k21 : Int) (k22 : Bool) (k26 : Int) (k28 : Pth) (k29 k30 : Cha) : ∀ (l : List (List UInt8)) (j : Int) (ps : List Pth) (m : List (Int × Bool)), WI c ps → ps[i]? = some here → SeenG m ps →
    ∃ m', loopL (fun i__ e__ s__ => zj_b5 t7 c a5 a19 a21 a22 a26 a28 a29 a30 here.1 here.2.1 k1 k5 k19 k21 k22 k26 k28 k29 k30 i__ e__ s__.1 s__.2) (fun s__ => zj_f5 t7 c a5 a19 a21 a22 a26 a28 a29 a30 here.1 here.2.1 k1 k5 k19 k21 k22 k26 k28 k29 k30 s__.1 s__.2) j l (ps, m) = some (.inr (we c here l ps, m')) ∧ SeenG m' (we c here l ps)
  | [], j, ps, m, h, hi, hm => ⟨m, rfl, hm⟩
  | e :: l, j, ps, m, h, hi, hm => by
    obtain ⟨m1, hb, hm1⟩ := gw_loop c hc i here e t7 ((t7.length : Int)) j a5 a19 a21 a22 a26 a28 a29 a30 k1 k5 k19 k21 k22 k26 k28 k29 k30 16 0 ps m (by omega) (by omega) h hi hm
    have hb2 : zj_b5 t7 c a5 a19 a21 a22 a26 a28 a29 a30 here.1 here.2.1 k1 k5 k19 k21 k22 k26 k28 k29 k30 j e ps m = some (.inr (wv c here e 16 0 ps, m1)) := by
      unfold zj_b5
      rw [bifT (by rfl)]
      exact hb
    rw [loopL_cons]
    simp only [hb2, Option.bind_some]
    have hv := wv_inv c hc here e i 16 0 ps h hi
    exact ge_loop c hc i here t7 a5 a19 a21 a22 a26 a28 a29 a30 k1 k5 k19 k21 k22 k26 k28 k29 k30 l (j + 1) _ m1 hv.1 hv.2 hm1
theorem go_loop (c : Cha) (hc : Valid c) : ∀ (r i : Nat) (ps : List Pth) (m : List (Int × Bool)), WI c ps → i ≤ ps.length → 17 ≤ i + r → SeenG m ps →
    loopG (fun (s__ : List Pth × List (Int × Bool)) => (s__.1.length : Int)) (fun i__ s__ => zj_b1 c i__ s__.1 s__.2) (fun s__ => zj_f1 c s__.1 s__.2) r (i : Int) (ps, m) = some (wout c (evts c.2.1) r i ps, ())
  | 0, i, ps, m, h, hi, hr, hm => by have := h.few hc; omega
  | r + 1, i, ps, m, h, hi, hr, hm => by
    have h48 := hc.moves
    have hev := evts_length c.2.1
    unfold loopG wout
    by_cases hl : i < ps.length
    · have hg : ps[i]? = some ps[i] := List.getElem?_eq_getElem hl
      obtain ⟨m', hb, hm'⟩ := ge_loop c hc i ps[i] (evts c.2.1) (i : Int) (i : Int) (ps.length : Int) (decide ((i : Int) < (ps.length : Int))) (i : Int) ps[i] c c c (i : Int) (i : Int) (ps.length : Int) (decide ((i : Int) < (ps.length : Int))) (i : Int) ps[i] c c (evts c.2.1) 0 ps m h hg hm
      have hb2 : zj_b1 c (i : Int) ps m = some (.inr (we c ps[i] (evts c.2.1) ps, m')) := by
        unfold zj_b1
        rw [idx_nat, hg, Option.bind_some, Int.toNat_natCast, hg, Option.bind_some, gevents_eq c (by omega), Option.bind_some, bifT (dec_true (show (evts c.2.1).length < lenMax by unfold lenMax; omega))]
        exact hb
      rw [bifT (dec_true (by simp only; omega))]
      simp only [hb2, Option.bind_some, hg]
      have hv := we_inv c hc ps[i] i (evts c.2.1) ps h hg
      have ih := go_loop c hc r (i + 1) _ m' hv.1 (by have := (List.getElem?_eq_some_iff.1 hv.2).1; omega) (by omega) hm'
      rw [show ((i + 1 : Nat) : Int) = (i : Int) + 1 by omega] at ih
      exact ih
    · have hg : ps[i]? = none := List.getElem?_eq_none (by omega)
      rw [bifF (dec_false (by simp only; omega)), hg]
      rfl
def WS (c : Cha) : List Pth := wout c (evts c.2.1) wMax 0 [(entr c 0, [], ())]
theorem WI_start (c : Cha) (hc : Valid c) : WI c [(entr c 0, [], ())] := by
  have hp := hc.pos
  have hl := entr_leaf c hc 0 (by omega) (by omega)
  refine ⟨by simp [lvs], fun p hp => ?_, fun j p hj => ?_⟩
  · rw [List.mem_singleton] at hp; subst hp; exact ⟨hl.1, hl.2.1⟩
  · cases j with
    | zero => simp at hj; subst hj; simp
    | succ j => simp at hj
theorem WS_inv (c : Cha) (hc : Valid c) : WI c (WS c) := wout_inv c hc _ _ _ _ (WI_start c hc)
theorem paths_eq (c : Cha) (hc : Valid c) : zj_M c = some (WS c, ()) := by
  have hp := hc.pos
  have h := go_loop c hc wMax 0 _ [(entr c 0, true)] (WI_start c hc) (Nat.zero_le _) (by unfold wMax; omega) (fun n => by
    show (bif (n == entr c 0) then some true else none).getD false = _
    simp only [lvs, List.map_cons, List.map_nil, List.contains_cons, List.contains_nil, Bool.or_false]
    cases (n == entr c 0) <;> rfl)
  unfold zj_M WS
  rw [genter_eq c hc 0 (by omega) (by omega), Option.bind_some, bifT (by rfl)]
  exact h
end Go.Tw
end
