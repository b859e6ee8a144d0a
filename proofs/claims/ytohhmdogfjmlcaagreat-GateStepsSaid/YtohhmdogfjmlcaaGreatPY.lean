/- PA: the program returns the results of the document's examples.
P6: the law of the commands.
P7: votes and failures: the law.
P8: charts and steps: the laws; plays.
P9: steps and runs: the law. -/
import Derived.Test.YtohhmdogfjmlcaaGreatPX
import Derived.Test.YtohhmdogfjmlcaaGreatBC
import Derived.Test.YtohhmdogfjmlcaaGreatB13

section
set_option linter.all false
set_option maxRecDepth 100000
namespace Go.Tw
open Go.Vx Go.Vx.B Go.Proofs

theorem awake_true : z0U_M = some (true, ()) := by kernel_rfl
end Go.Tw
end

section
set_option linter.all false
set_option maxRecDepth 100000
namespace Go.Tw
open Go.Vx Go.Vx.B Go.Proofs

theorem lfirst_eq (l : List Int) (h : l.length < lenMax) : z0W_M l = some (firstE l, ()) := by
  unfold z0W_M z0W_m
  rw [rfirst_eq l h]
  rfl

theorem number_ok (have_ bad want : Int) (h1 : bad ≠ 0 → have_ = 0) (h2 : bad = 0 → have_ = want) : z0J have_ bad bad want = (true, ()) := by
  unfold z0J
  by_cases hb : bad = 0
  · rw [bifF (show (bad != 0) = false by simpa using hb), bifT (show (bad == 0) = true by simpa using hb), h2 hb, beq_self_eq_true]
  · rw [bifT (show (bad != 0) = true by simpa using hb), bifT (show (have_ == 0) = true by simpa using h1 hb), beq_self_eq_true]

theorem listed_ok (have_ : List Int) (bad : Int) (want : List Int) (hl : have_.length < lenMax) (h1 : bad ≠ 0 → have_ = []) (h2 : bad = 0 → have_ = want) : z0I_M have_ bad bad want = some (true, ()) := by
  unfold z0I_M z0I_m
  by_cases hb : bad = 0
  · rw [bifF (show (bad != 0) = false by simpa using hb), bifT (show (bad == 0) = true by simpa using hb), ← h2 hb, sameInts_refl have_ hl]
    rfl
  · rw [bifT (show (bad != 0) = true by simpa using hb), bifT (show ((have_.length : Int) == 0) = true by simp [h1 hb]), beq_self_eq_true]

end Go.Tw
end

section
set_option linter.all false
set_option maxRecDepth 100000
namespace Go.Tw
open Go.Vx Go.Vx.B Go.Proofs

/-! ### Positions -/
/-! ### Failures -/
def stuckW : List UInt8 := [115, 116, 117, 99, 107]
def lostW : List UInt8 := [108, 111, 115, 116]
def noneW : List UInt8 := [110, 111, 110, 101]
def tick (i : Int) : List Fai := (lostW, i, 0, 0, ()) :: [(stuckW, i, 0, 0, ()), (stuckW, i, 0, 1, ()), (stuckW, i, 1, 0, ()), (stuckW, i, 1, 1, ()), (stuckW, i, 2, 0, ()), (stuckW, i, 2, 1, ()), (stuckW, i, 3, 0, ()), (stuckW, i, 3, 1, ())]
def ticks : Int → Nat → List Fai
  | _, 0 => []
  | i, m + 1 => tick i ++ ticks (i + 1) m
/-! ### Scripts -/
def inE (x : Inp) : Int := firstOf (nmE x.1) (ckR x.2.1 0 15)
def insE : List Inp → Int
  | [] => 0
  | x :: l => firstOf (inE x) (insE l)
def ckScript (l : List Inp) : Int := if 64 < l.length then 5 else insE l

theorem rinput_eq (x : Inp) : zp_M x = some (inE x, ()) := by
  unfold zp_M zp_m
  rw [rcheckName_eq]
  simp only [Option.bind_some, checkRange_eq]
  rw [rfirst_eq _ (by simp [lenMax])]
  simp only [Option.bind_some, firstE_cons, firstE_nil, firstOf_zero]
  rfl

theorem ginput_eq (x : Inp) (h : x.1.length < lenMax) : zl_M x = some (inE x, ()) := by
  unfold zl_M zl_m
  rw [gcheckName_eq _ h]
  simp only [Option.bind_some, zR, within_eq]
  rw [gfirst_eq _ (by simp [lenMax])]
  simp only [Option.bind_some, firstE_cons, firstE_nil, firstOf_zero]
  rfl

theorem rscript_loop (xs : List Inp) : ∀ (l : List Inp) (i : Int), loopL (fun i__ e__ s__ => zg_b0 xs i__ e__) (fun s__ => zg_f0 xs) i l () = some (insE l, ())
  | [], i => rfl
  | x :: l, i => by
    have hb : zg_b0 xs i x = some (bif inE x != 0 then .inl (inE x, ()) else .inr ()) := by
      unfold zg_b0
      rw [rinput_eq]
      simp only [Option.bind_some]
      cases (inE x != 0) <;> rfl
    rw [loopL_seq hb, rscript_loop xs l (i + 1), seqE_some]
    rfl

theorem rscript_eq (l : List Inp) : zg_M l = some (ckScript l, ()) := by
  unfold zg_M ckScript
  by_cases h : 64 < l.length
  · rw [bifT (dec_true (show (l.length : Int) > 64 by omega)), if_pos h]
  · rw [bifF (dec_false (show ¬ (l.length : Int) > 64 by omega)), if_neg h, bifT (dec_true (show l.length < lenMax by unfold lenMax; omega))]
    exact rscript_loop l l 0

theorem firstE_ins : ∀ l : List Inp, firstE (l.map inE) = insE l
  | [] => rfl
  | x :: l => by rw [List.map_cons, firstE_cons, firstE_ins l]; rfl

theorem gscript_eq (l : List Inp) (h : l.length ≤ 1000) (hw : ∀ x ∈ l, x.1.length < lenMax) : zm_M l = some (ckScript l, ()) := by
  have hmem : memMax = 68719476736 := rfl
  have hlm : l.length < lenMax := by unfold lenMax; omega
  unfold zm_M zm_m
  have hmap : (z8_M l fun (x : Inp × Unit) => zl_M x.fst) = some (l.map inE, ()) := by
    unfold z8_M
    rw [bifT (dec_true hlm)]
    refine (loopL_app inE l 0 [] (by simp; omega) fun i e s he hs => ?_).trans ?_
    · unfold z8_b0
      simp only
      rw [show ((e.1, e.2.1, ()) : Inp) = e from rfl, ginput_eq e (hw e he)]
      simp only [Option.bind_some]
      rw [bifT (dec_true hs)]
    · rw [List.nil_append]; rfl
  rw [hmap]
  simp only [Option.bind_some]
  rw [gfirst_eq _ (by rw [List.length_map]; exact hlm), firstE_ins]
  simp only [Option.bind_some, when_eq]
  rw [gfirst_eq _ (by simp [lenMax])]
  simp only [Option.bind_some, firstE_cons, firstE_nil, firstOf_zero]
  unfold ckScript
  by_cases h9 : 64 < l.length
  · rw [dec_true (show (l.length : Int) > 64 by omega), if_pos h9]; rfl
  · rw [dec_false (show ¬ (l.length : Int) > 64 by omega), if_neg h9]; rfl

theorem script_eq (l : List Inp) (h : l.length ≤ memMax) : z0K_M l = some (l, ()) := by
  have hmem : memMax = 68719476736 := rfl
  unfold z0K_M
  rw [bifT (dec_true (show l.length < lenMax by unfold lenMax; omega))]
  refine (loopL_app (fun x : Inp => x) l 0 [] (by simpa using h) fun i e s he hs => ?_).trans ?_
  · unfold z0K_b0
    rw [bifT (dec_true hs)]
  · rw [List.map_id', List.nil_append]; rfl

theorem shortScript_eq (l : List Inp) (h : l.length < lenMax) : ∃ s, zh_M l = some (s, ()) ∧ (s = true → l.length ≤ 65 ∧ ∀ c ∈ l, c.1.length ≤ 40) := by
  unfold zh_M
  rw [bifT (dec_true h), loopL_find (fun c : Inp => if (decide ((c.1.length : Int) > 40)) = true then some (false, ()) else none) l 0 (fun i e _ => by
    unfold zh_b0
    cases decide ((e.1.length : Int) > 40) <;> rfl)]
  cases hf : l.findSome? (fun c : Inp => if (decide ((c.1.length : Int) > 40)) = true then some (false, ()) else none) with
  | some y =>
    refine ⟨y.1, rfl, fun hy => ?_⟩
    obtain ⟨c, _, hc⟩ := List.exists_of_findSome?_eq_some hf
    split at hc
    · cases hc; cases hy
    · cases hc
  | none =>
    have hall : ∀ c ∈ l, c.1.length ≤ 40 := by
      intro c hc
      have := List.findSome?_eq_none_iff.1 hf c hc
      by_cases hd : ((c.1.length : Int) > 40)
      · rw [if_pos (dec_true hd)] at this; cases this
      · omega
    unfold zh_f0
    by_cases h24 : (l.length : Int) ≤ 12
    · exact ⟨true, by rw [bifT (dec_true h24)], fun _ => ⟨by omega, hall⟩⟩
    · exact ⟨(l.length : Int) == 65, by rw [bifF (dec_false h24)], fun hs => ⟨by have := of_decide_eq_true hs; omega, hall⟩⟩

end Go.Tw
end

section
set_option linter.all false
set_option maxRecDepth 100000
namespace Go.Tw
open Go.Vx Go.Vx.B Go.Proofs

/-! ### Short charts -/
theorem shortT_loop (c : Cha) : ∀ (l : List Tra) (i : Int), ∃ s, loopL (fun i__ e__ s__ => z0Z_b11 c i__ e__) (fun s__ => z0Z_f11 c) i l () = some (s, ()) ∧ (s = true → ∀ t ∈ l, t.2.1.length ≤ 40)
  | [], i => ⟨true, rfl, fun _ t ht => by cases ht⟩
  | x :: l, i => by
    rw [loopL_cons]
    unfold z0Z_b11
    by_cases h : (x.2.1.length : Int) > 40
    · exact ⟨false, by rw [bifT (dec_true h)]; rfl, fun h => by cases h⟩
    · obtain ⟨s, h1, h2⟩ := shortT_loop c l (i + 1)
      refine ⟨s, by rw [bifF (dec_false h)]; exact h1, fun hs t ht => ?_⟩
      rcases List.mem_cons.1 ht with rfl | ht
      · omega
      · exact h2 hs t ht

theorem shortS_loop (c : Cha) (hl : c.2.1.length < lenMax) : ∀ (l : List Sta) (i : Int), ∃ s, loopL (fun i__ e__ s__ => z0Z_b9 c i__ e__) (fun s__ => z0Z_f9 c) i l () = some (s, ()) ∧ (s = true → (∀ t ∈ l, t.1.length ≤ 40) ∧ ∀ t ∈ c.2.1, t.2.1.length ≤ 40)
  | [], i => by
    obtain ⟨s, h1, h2⟩ := shortT_loop c c.2.1 0
    refine ⟨s, ?_, fun hs => ⟨fun t ht => (by cases ht), h2 hs⟩⟩
    rw [loopL_nil]
    unfold z0Z_f9
    rw [bifT (dec_true hl)]
    exact h1
  | x :: l, i => by
    rw [loopL_cons]
    unfold z0Z_b9
    by_cases h : (x.1.length : Int) > 40
    · exact ⟨false, by rw [bifT (dec_true h)]; rfl, fun h => by cases h⟩
    · obtain ⟨s, h1, h2⟩ := shortS_loop c hl l (i + 1)
      refine ⟨s, by rw [bifF (dec_false h)]; exact h1, fun hs => ⟨fun t ht => ?_, (h2 hs).2⟩⟩
      rcases List.mem_cons.1 ht with rfl | ht
      · omega
      · exact (h2 hs).1 t ht

/-- A short chart. -/
structure Sh (c : Cha) : Prop where
  sts : c.1.length ≤ 17
  tras : c.2.1.length ≤ 49
  words : Words c

theorem short_eq (c : Cha) : ∃ s, z0Z_M c = some (s, ()) ∧ (s = true → Sh c) := by
  have key : c.1.length ≤ 17 → c.2.1.length ≤ 49 → ∃ s, z0Z_s13 c = some (s, ()) ∧ (s = true → Sh c) := by
    intro h1 h2
    obtain ⟨s, h3, h4⟩ := shortS_loop c (by unfold lenMax; omega) c.1 0
    refine ⟨s, ?_, fun hs => ⟨h1, h2, fun t ht => ?_, fun t ht => ?_⟩⟩
    · unfold z0Z_s13
      rw [bifT (dec_true (show c.1.length < lenMax by unfold lenMax; omega))]
      exact h3
    · have := (h4 hs).1 t ht; unfold lenMax; omega
    · have := (h4 hs).2 t ht; unfold lenMax; omega
  have key2 : c.1.length ≤ 17 → ∃ s, (bif decide ((c.2.1.length : Int) > 12) then (bif (c.2.1.length : Int) != 49 then (some ((false, ()))) else (z0Z_s13 c)) else (z0Z_s13 c)) = some (s, ()) ∧ (s = true → Sh c) := by
    intro h1
    by_cases h2 : (c.2.1.length : Int) > 12
    · rw [bifT (dec_true h2)]
      by_cases h3 : (c.2.1.length : Int) = 49
      · rw [bifF (show ((c.2.1.length : Int) != 49) = false by simp [h3])]
        exact key h1 (by omega)
      · exact ⟨false, by rw [bifT (show ((c.2.1.length : Int) != 49) = true by simpa using h3)], fun h => by cases h⟩
    · rw [bifF (dec_false h2)]
      exact key h1 (by omega)
  unfold z0Z_M
  by_cases h2 : (c.1.length : Int) > 7
  · rw [bifT (dec_true h2)]
    by_cases h3 : (c.1.length : Int) = 17
    · rw [bifF (show ((c.1.length : Int) != 17) = false by simp [h3])]
      exact key2 (by omega)
    · exact ⟨false, by rw [bifT (show ((c.1.length : Int) != 17) = true by simpa using h3)], fun h => by cases h⟩
  · rw [bifF (dec_false h2)]
    exact key2 (by omega)

theorem chart_eq (c : Cha) (hc : Sh c) : z0V_M c = some (c, ()) := by
  have hmem : memMax = 68719476736 := rfl
  have h1 := hc.sts
  have h2 := hc.tras
  unfold z0V_M
  rw [bifT (dec_true (show c.1.length < lenMax by unfold lenMax; omega))]
  refine (loopL_app (fun x : Sta => x) c.1 0 [] (by simp; omega) fun i e s he hs => ?_).trans ?_
  · unfold z0V_b0
    rw [bifT (dec_true hs)]
  rw [List.map_id', List.nil_append]
  unfold z0V_f0
  rw [bifT (dec_true (show c.2.1.length < lenMax by unfold lenMax; omega))]
  refine (loopL_app (fun x : Tra => x) c.2.1 0 [] (by simp; omega) fun i e s he hs => ?_).trans ?_
  · unfold z0V_b2
    rw [bifT (dec_true hs)]
  rw [List.map_id', List.nil_append]
  rfl

/-! ### Leaves, events, the start -/
theorem gck (c : Cha) (hc : Sh c) : zu_M c = some (ckChart c, ()) := gchart_eq c (by have := hc.sts; omega) (by have := hc.tras; omega) hc.words

/-! ### Plays -/
theorem stp_leaf (c : Cha) (hc : Valid c) (leaf : Int) (e : List UInt8) (v : Int) (h0 : 0 ≤ leaf) (h1 : leaf < c.1.length) (hs : (stp c leaf e v).2 = 0) : 0 ≤ (stp c leaf e v).1 ∧ (stp c leaf e v).1 < c.1.length := by
  have hm := takes_mem c e v 17 leaf
  unfold stp at hs ⊢
  change ∀ t, t ∈ takes c leaf e v → _ at hm
  generalize takes c leaf e v = fs at hm hs
  match fs with
  | [] => exact ⟨h0, h1⟩
  | [t] =>
    have ht := hc.tra t (hm t (by simp))
    have := entr_leaf c hc t.2.2.1 ht.2.2.1 ht.2.2.2.1
    exact ⟨this.1, this.2.1⟩
  | t :: u :: l => cases hs

/-- The leaves behind each input, or an error: an input may be turned, and may not come. -/
def plays (c : Cha) (d : Int → Inp → Inp × Bool) : List Inp → Int → Int → List Int → List Int × Int
  | [], _, _, out => (out, 0)
  | x :: l, i, leaf, out => if (d i x).2 = true then
      (if (stp c leaf (d i x).1.1 (d i x).1.2.1).2 = 0 then plays c d l (i + 1) (stp c leaf (d i x).1.1 (d i x).1.2.1).1 (out ++ [(stp c leaf (d i x).1.1 (d i x).1.2.1).1]) else ([], (stp c leaf (d i x).1.1 (d i x).1.2.1).2))
    else plays c d l (i + 1) leaf (out ++ [leaf])

theorem plays_length (c : Cha) (d : Int → Inp → Inp × Bool) : ∀ (l : List Inp) (i leaf : Int) (out : List Int), (plays c d l i leaf out).1.length ≤ out.length + l.length
  | [], i, leaf, out => Nat.le_refl _
  | x :: l, i, leaf, out => by
    unfold plays
    split
    · split
      · have := plays_length c d l (i + 1) (stp c leaf (d i x).1.1 (d i x).1.2.1).1 (out ++ [(stp c leaf (d i x).1.1 (d i x).1.2.1).1])
        simp only [List.length_append, List.length_cons, List.length_nil] at this ⊢
        omega
      · simp
    · have := plays_length c d l (i + 1) leaf (out ++ [leaf])
      simp only [List.length_append, List.length_cons, List.length_nil] at this ⊢
      omega

theorem plays_err (c : Cha) (d : Int → Inp → Inp × Bool) : ∀ (l : List Inp) (i leaf : Int) (out : List Int), (plays c d l i leaf out).2 ≠ 0 → (plays c d l i leaf out).1 = []
  | [], i, leaf, out, h => absurd rfl h
  | x :: l, i, leaf, out, h => by
    unfold plays at h ⊢
    split
    · rename_i h1
      rw [if_pos h1] at h
      split
      · rename_i h2
        rw [if_pos h2] at h
        exact plays_err c d l _ _ _ h
      · rfl
    · rename_i h1
      rw [if_neg h1] at h
      exact plays_err c d l _ _ _ h

theorem gplay_loop (c : Cha) (hc : Valid c) (f : Fai) (xs : List Inp) (w : List UInt8) (g1 : Fai × Unit → Option (Fai × Unit)) (g2 : Fai × Int × Inp × Unit → Option (Inp × Bool × Unit)) (d : Int → Inp → Inp × Bool) :
    ∀ (l : List Inp) (i : Int) (leaf : Int) (out : List Int), 0 ≤ i → 0 ≤ leaf → leaf < c.1.length → out.length + l.length ≤ 1000 → (∀ (i : Int) x, 0 ≤ i → x ∈ l → g2 (f, i, x, ()) = some ((d i x).1, (d i x).2, ()) ∧ ((d i x).2 = true → 0 ≤ (d i x).1.2.1 ∧ (d i x).1.2.1 ≤ 15)) →
      loopL (fun i__ e__ s__ => zr_b2 c f xs w g1 g2 i__ e__ s__.1 s__.2) (fun s__ => zr_f2 c f xs w g1 g2 s__.1 s__.2) i l (leaf, out) = some ((plays c d l i leaf out).1, (plays c d l i leaf out).2, ())
  | [], i, leaf, out, _, _, _, _, _ => rfl
  | x :: l, i, leaf, out, hi, h0, h1, hl, hd => by
    have hmem : memMax = 68719476736 := rfl
    simp only [List.length_cons] at hl
    obtain ⟨hg, hv⟩ := hd i x hi (by simp)
    have hd' : ∀ (i : Int) x, 0 ≤ i → x ∈ l → g2 (f, i, x, ()) = some ((d i x).1, (d i x).2, ()) ∧ ((d i x).2 = true → 0 ≤ (d i x).1.2.1 ∧ (d i x).1.2.1 ≤ 15) := fun i y h hy => hd i y h (by simp [hy])
    have hb : zr_b2 c f xs w g1 g2 i x leaf out = some (if (d i x).2 = true then
        (if (stp c leaf (d i x).1.1 (d i x).1.2.1).2 = 0 then .inr ((stp c leaf (d i x).1.1 (d i x).1.2.1).1, out ++ [(stp c leaf (d i x).1.1 (d i x).1.2.1).1]) else .inl ([], (stp c leaf (d i x).1.1 (d i x).1.2.1).2, ()))
        else .inr (leaf, out ++ [leaf])) := by
      unfold zr_b2
      rw [show ((x.1, x.2.1, ()) : Inp) = x from rfl, hg]
      simp only [Option.bind_some]
      cases hq : (d i x).2 with
      | false => rw [cond_false, if_neg (by simp), bifT (dec_true (show out.length + 1 ≤ memMax by omega))]
      | true =>
        rw [cond_true, if_pos rfl, show (((d i x).1.1, (d i x).1.2.1, ()) : Inp) = (d i x).1 from rfl, gstep_eq c hc leaf (d i x).1 h0 h1 (hv hq)]
        simp only [Option.bind_some]
        unfold stp
        generalize takes c leaf (d i x).1.1 (d i x).1.2.1 = fs
        match fs with
        | [] => rw [bifF (by rfl), bifT (dec_true (show out.length + 1 ≤ memMax by omega))]; rfl
        | [t] => rw [bifF (by rfl), bifT (dec_true (show out.length + 1 ≤ memMax by omega))]; rfl
        | t :: u :: r => rfl
    rw [loopL_cons, hb]
    simp only [Option.bind_some]
    unfold plays
    by_cases hq : (d i x).2 = true
    · rw [if_pos hq, if_pos hq]
      by_cases hz : (stp c leaf (d i x).1.1 (d i x).1.2.1).2 = 0
      · rw [if_pos hz, if_pos hz]
        have hl2 := stp_leaf c hc leaf _ _ h0 h1 hz
        exact gplay_loop c hc f xs w g1 g2 d l (i + 1) _ _ (by omega) hl2.1 hl2.2 (by simp; omega) hd'
      · rw [if_neg hz, if_neg hz]
    · rw [if_neg hq, if_neg hq]
      exact gplay_loop c hc f xs w g1 g2 d l (i + 1) leaf _ (by omega) h0 h1 (by simp; omega) hd'

theorem rplay_loop (c : Cha) (hc : Valid c) (f : Fai) (xs : List Inp) (d : Int → Inp → Inp × Bool) (hx : xs.length ≤ 1000)
    (hd : ∀ (i : Nat) x (leaf : Int) (out : List Int), xs[i]? = some x → z0h_b1 xs c f leaf (i : Int) out = z0h_s18 out (d i x).1.1 (d i x).1.2.1 xs c f leaf (i : Int) (d i x).2) :
    ∀ (l done : List Inp) (r : Nat) (leaf : Int) (out : List Int), xs = done ++ l → 0 ≤ leaf → leaf < c.1.length → out.length = done.length → l.length < r →
      loopW (fun s__ => z0h_b1 s__.1 s__.2.1 s__.2.2.1 s__.2.2.2.1 s__.2.2.2.2.1 s__.2.2.2.2.2) r (xs, c, f, leaf, (done.length : Int), out) = some ((plays c d l done.length leaf out).1, (plays c d l done.length leaf out).2, ())
  | l, done, 0, leaf, out, _, _, _, _, hr => by omega
  | [], done, r + 1, leaf, out, he, h0, h1, ho, hr => by
    rw [List.append_nil] at he
    have hb : z0h_b1 xs c f leaf (done.length : Int) out = some (.inl (out, 0, ())) := by
      unfold z0h_b1
      rw [bifF (dec_false (by rw [he]; omega))]
    unfold loopW
    simp only [hb, Option.bind_some]
    rfl
  | x :: l, done, r + 1, leaf, out, he, h0, h1, ho, hr => by
    have hmem : memMax = 68719476736 := rfl
    have hn : xs[done.length]? = some x := by rw [he]; simp
    have hlen : done.length ≤ 1000 := by rw [he] at hx; simp at hx; omega
    have hw : IntKind.i64.wrap ((done.length : Int) + 1) = (done.length : Int) + 1 := wrapS (by omega) (by omega)
    simp only [List.length_cons] at hr
    have hb : z0h_b1 xs c f leaf (done.length : Int) out = some (if (d done.length x).2 = true then
        (if (stp c leaf (d done.length x).1.1 (d done.length x).1.2.1).2 = 0 then .inr (xs, c, f, (stp c leaf (d done.length x).1.1 (d done.length x).1.2.1).1, (done.length : Int) + 1, out ++ [(stp c leaf (d done.length x).1.1 (d done.length x).1.2.1).1]) else .inl ([], (stp c leaf (d done.length x).1.1 (d done.length x).1.2.1).2, ()))
        else .inr (xs, c, f, leaf, (done.length : Int) + 1, out ++ [leaf])) := by
      rw [hd done.length x leaf out hn]
      unfold z0h_s18
      rw [hw]
      cases hq : (d done.length x).2 with
      | false => rw [cond_false, if_neg (by simp), bifT (dec_true (show out.length + 1 ≤ memMax by omega))]
      | true =>
        rw [cond_true, if_pos rfl, rstep_eq c hc leaf _ h0 h1]
        simp only [Option.bind_some]
        by_cases hz : (stp c leaf (d done.length x).1.1 (d done.length x).1.2.1).2 = 0
        · rw [if_pos hz, bifF (show ((stp c leaf (d done.length x).1.1 (d done.length x).1.2.1).2 != 0) = false by simpa using hz), bifT (dec_true (show out.length + 1 ≤ memMax by omega))]
        · rw [if_neg hz, bifT (show ((stp c leaf (d done.length x).1.1 (d done.length x).1.2.1).2 != 0) = true by simpa using hz)]
    unfold loopW
    simp only [hb, Option.bind_some]
    unfold plays
    have ih := fun (leaf' : Int) (y : Int) (a : 0 ≤ leaf') (b : leaf' < c.1.length) => rplay_loop c hc f xs d hx hd l (done ++ [x]) r leaf' (out ++ [y]) (by rw [he]; simp) a b (by simp [ho]) (by omega)
    simp only [List.length_append, List.length_cons, List.length_nil] at ih
    by_cases hq : (d done.length x).2 = true
    · rw [if_pos hq, if_pos hq]
      by_cases hz : (stp c leaf (d done.length x).1.1 (d done.length x).1.2.1).2 = 0
      · rw [if_pos hz, if_pos hz]
        have hl2 := stp_leaf c hc leaf _ _ h0 h1 hz
        exact ih _ _ hl2.1 hl2.2
      · rw [if_neg hz, if_neg hz]
    · rw [if_neg hq, if_neg hq]
      exact ih leaf leaf h0 h1

/-- No failure. -/
def noF : Fai := (noneW, 0, 0, 0, ())
def dNone : Int → Inp → Inp × Bool := fun _ x => (x, true)

theorem kind_none : ∃ k1 k2, ze_M noF = some ((noneW, k1, k2, ()), true, ()) ∧ ∀ i x, k2 (noF, i, x, ()) = some (x, true, ()) := by
  refine ⟨_, _, rfl, fun i x => rfl⟩

theorem gplay_none (c : Cha) (hc : Valid c) (l : List Inp) (hl : l.length ≤ 1000) (hv : ∀ x ∈ l, 0 ≤ x.2.1 ∧ x.2.1 ≤ 15) :
    zr_M c l noF = some ((plays c dNone l 0 (entr c 0) []).1, (plays c dNone l 0 (entr c 0) []).2, ()) := by
  have hp := hc.pos
  have hlf := entr_leaf c hc 0 (by omega) (by omega)
  obtain ⟨k1, k2, h1, h2⟩ := kind_none
  unfold zr_M
  rw [h1, Option.bind_some, genter_eq c hc 0 (by omega) (by omega), Option.bind_some, bifT (dec_true (show l.length < lenMax by unfold lenMax; omega))]
  exact gplay_loop c hc noF l noneW k1 k2 dNone l 0 (entr c 0) [] (by omega) hlf.1 hlf.2.1 (by simpa using hl) (fun i x _ hx => ⟨h2 i x, fun _ => hv x hx⟩)

theorem rplay_none (c : Cha) (hc : Valid c) (l : List Inp) (hl : l.length ≤ 1000) :
    z0h_M c l noF = some ((plays c dNone l 0 (entr c 0) []).1, (plays c dNone l 0 (entr c 0) []).2, ()) := by
  have hp := hc.pos
  have hlf := entr_leaf c hc 0 (by omega) (by omega)
  unfold z0h_M
  rw [renter_eq c hc 0 (by omega) (by omega), Option.bind_some]
  refine rplay_loop c hc noF l dNone hl (fun i x leaf out hx => ?_) l [] wMax (entr c 0) [] rfl hlf.1 hlf.2.1 rfl (by unfold wMax; omega)
  have hi := (List.getElem?_eq_some_iff.1 hx).1
  unfold z0h_b1
  rw [bifT (dec_true (by omega)), idx_nat, hx, Option.bind_some]
  rfl

theorem rrun_eq (c : Cha) (hc : Valid c) (l : List Inp) (hl : l.length ≤ 1000) :
    z0p_M c l = some ((plays c dNone l 0 (entr c 0) []).1, (plays c dNone l 0 (entr c 0) []).2, ()) := by
  unfold z0p_M z0p_m
  have := rplay_none c hc l hl
  unfold noF noneW at this
  rw [this, Option.bind_some]
end Go.Tw
end

section
set_option linter.all false
set_option maxRecDepth 100000
namespace Go.Tw
open Go.Vx Go.Vx.B Go.Proofs

def lfE (c : Cha) (i : Int) : Int := if i < 0 ∨ (c.1.length : Int) ≤ i then 10 else match c.1[i.toNat]? with
  | some s => if s.2.2.1 = -1 then 0 else 20
  | none => 10

theorem lfE_zero {c : Cha} {i : Int} (h : lfE c i = 0) : 0 ≤ i ∧ i < c.1.length := by
  unfold lfE at h
  split at h
  · cases h
  · omega

theorem rleaf_eq (c : Cha) (i : Int) : zy_M c i = some (lfE c i, ()) := by
  unfold zy_M zy_m lfE
  by_cases h0 : i < 0
  · rw [bifT (dec_true h0), if_pos (.inl h0)]
  rw [bifF (dec_false h0)]
  by_cases h1 : (c.1.length : Int) ≤ i
  · rw [bifT (dec_true (show i ≥ (c.1.length : Int) from h1)), if_pos (.inr h1)]
  rw [bifF (dec_false (show ¬ i ≥ (c.1.length : Int) from h1)), if_neg (by omega)]
  have hlt : i.toNat < c.1.length := by omega
  have hg : c.1[i.toNat]? = some c.1[i.toNat] := List.getElem?_eq_getElem hlt
  have := isLeaf_eq c i.toNat _ hg
  rw [Int.toNat_of_nonneg (by omega)] at this
  rw [this, hg]
  simp only [Option.bind_some]
  unfold z0j
  by_cases h : c.1[i.toNat].2.2.1 = -1
  · simp [h]
  · rw [if_neg h, show (c.1[i.toNat].2.2.1 == -1) = false by simpa using h]
    rfl

theorem gleaf_eq (c : Cha) (i : Int) : zO_M c i = some (lfE c i, ()) := by
  unfold zO_M zO_m lfE
  by_cases h0 : i < 0
  · rw [bifT (dec_true h0), if_pos (.inl h0)]
  rw [bifF (dec_false h0)]
  by_cases h1 : (c.1.length : Int) ≤ i
  · rw [bifT (dec_true (show i ≥ (c.1.length : Int) from h1)), if_pos (.inr h1)]
  rw [bifF (dec_false (show ¬ i ≥ (c.1.length : Int) from h1)), if_neg (by omega)]
  have hlt : i.toNat < c.1.length := by omega
  have hg : c.1[i.toNat]? = some c.1[i.toNat] := List.getElem?_eq_getElem hlt
  rw [idx_int _ (by omega), hg]
  simp only [Option.bind_some, when_eq]
  by_cases h : c.1[i.toNat].2.2.1 = -1
  · simp [h]
  · rw [if_neg h, show (c.1[i.toNat].2.2.1 != -1) = true by simpa using h]
    rfl

theorem stp_zero (c : Cha) (leaf : Int) (e : List UInt8) (v : Int) (h : (stp c leaf e v).2 ≠ 0) : (stp c leaf e v).1 = 0 := by
  unfold stp at h ⊢
  generalize takes c leaf e v = fs at h ⊢
  match fs with
  | [] => exact absurd rfl h
  | [t] => exact absurd rfl h
  | t :: u :: l => rfl

/-- A step's error, and its answer. -/
def stepE (c : Cha) (leaf : Int) (x : Inp) : Int := firstOf (ckChart c) (firstOf (lfE c leaf) (inE x))

theorem inE_range {x : Inp} (h : inE x = 0) : 0 ≤ x.2.1 ∧ x.2.1 ≤ 15 := ckR_zero (firstOf_eq_zero.1 h).2

theorem gStep_eq (c : Cha) (hc : Sh c) (leaf : Int) (x : Inp) (hx : x.1.length < lenMax) :
    z0l_M c leaf x = some (if stepE c leaf x = 0 then ((stp c leaf x.1 x.2.1).1, (stp c leaf x.1 x.2.1).2, ()) else (0, stepE c leaf x, ())) := by
  unfold z0l_M z0l_m stepE
  rw [gck c hc, Option.bind_some]
  by_cases h : ckChart c = 0
  · rw [h, bifF (show (((0 : Int), ()).1 != 0) = false from rfl), gleaf_eq, Option.bind_some, ginput_eq x hx, Option.bind_some, gfirst_eq _ (by simp [lenMax]), Option.bind_some, firstOf_z]
    simp only [firstE_cons, firstE_nil, firstOf_zero]
    by_cases he : firstOf (lfE c leaf) (inE x) = 0
    · obtain ⟨h1, h2⟩ := firstOf_eq_zero.1 he
      have hl := lfE_zero h1
      rw [if_pos he, bifF (show (firstOf (lfE c leaf) (inE x) != 0) = false by simpa using he), gstep_eq c (valid_of c h) leaf x hl.1 hl.2 (inE_range h2), Option.bind_some]
      unfold stp
      generalize takes c leaf x.1 x.2.1 = fs
      match fs with
      | [] => rfl
      | [t] => rfl
      | t :: u :: l => rfl
    · rw [if_neg he, bifT (show (firstOf (lfE c leaf) (inE x) != 0) = true by simpa using he)]
  · rw [firstOf_nz h, if_neg h, bifT (show ((ckChart c, ()).1 != 0) = true by simpa using h)]

theorem insE_mem : ∀ (l : List Inp), insE l = 0 → ∀ x ∈ l, inE x = 0
  | [], _, x, hx => by cases hx
  | y :: l, h, x, hx => by
    obtain ⟨h1, h2⟩ := firstOf_eq_zero.1 h
    rcases List.mem_cons.1 hx with rfl | hx
    · exact h1
    · exact insE_mem l h2 x hx

theorem script_range {l : List Inp} (h : ckScript l = 0) : ∀ x ∈ l, 0 ≤ x.2.1 ∧ x.2.1 ≤ 15 := by
  unfold ckScript at h
  split at h
  · cases h
  · exact fun x hx => inE_range (insE_mem l h x hx)

def runE (c : Cha) (l : List Inp) : Int := firstOf (ckChart c) (ckScript l)
abbrev run0 (c : Cha) (l : List Inp) : List Int × Int := plays c dNone l 0 (entr c 0) []

theorem gRun_eq (c : Cha) (hc : Sh c) (l : List Inp) (hl : l.length ≤ 1000) (hw : ∀ x ∈ l, x.1.length < lenMax) :
    z0q_M c l = some (if runE c l = 0 then ((run0 c l).1, (run0 c l).2, ()) else ([], runE c l, ())) := by
  unfold z0q_M z0q_m runE
  rw [gck c hc, Option.bind_some, gscript_eq l hl hw, Option.bind_some, gfirst_eq _ (by simp [lenMax]), Option.bind_some]
  simp only [firstE_cons, firstE_nil, firstOf_zero]
  by_cases h : firstOf (ckChart c) (ckScript l) = 0
  · obtain ⟨h1, h2⟩ := firstOf_eq_zero.1 h
    have := gplay_none c (valid_of c h1) l hl (script_range h2)
    unfold noF noneW at this
    rw [if_pos h, bifF (show (firstOf (ckChart c) (ckScript l) != 0) = false by simpa using h), this, Option.bind_some]
  · rw [if_neg h, bifT (show (firstOf (ckChart c) (ckScript l) != 0) = true by simpa using h)]

/-- **GateSteps**: for every input the law answers true. -/
theorem gateSteps_law (c : Cha) (leaf : Int) (l : List Inp) (hl : l.length < lenMax) : zv_M c leaf l = some (true, ()) := by
  have hmem : memMax = 68719476736 := rfl
  have aw : (z0U_M.bind fun (v6 : Bool × Unit) => some (v6.1, ())) = some (true, ()) := by rw [awake_true]; rfl
  unfold zv_M zv_m
  obtain ⟨s, hs, hs2⟩ := short_eq c
  obtain ⟨b, hb, hb2⟩ := shortScript_eq l hl
  rw [hs, hb]
  conv => lhs; arg 1; rw [awake_true]
  rw [Option.bind_some, bifF (show (!(true, ()).1) = false from rfl), Option.bind_some]
  cases s with
  | false => exact aw
  | true =>
    have hc := hs2 rfl
    rw [bifF (show (!(true, ()).1) = false from rfl), Option.bind_some]
    cases b with
    | false => exact aw
    | true =>
      obtain ⟨h65, h40⟩ := hb2 rfl
      have hw : ∀ x ∈ l, x.1.length < lenMax := fun x hx => by have := h40 x hx; unfold lenMax; omega
      rw [bifF (show (!(true, ()).1) = false from rfl)]
      have key : ∀ (e : List UInt8) (v : Int), e.length < lenMax → zv_m_j41 0 c leaf l e v = some (true, ()) := by
        intro e v he
        unfold zv_m_j41
        rw [chart_eq c hc]
        simp only [Option.bind_some]
        rw [gStep_eq c hc leaf (e, v, ()) he, script_eq l (by omega)]
        simp only [Option.bind_some]
        rw [gRun_eq c hc l (by omega) hw]
        simp only [Option.bind_some]
        rw [rchart_eq, rscript_eq]
        simp only [Option.bind_some]
        rw [lfirst_eq _ (by simp [lenMax])]
        simp only [Option.bind_some, firstE_cons, firstE_nil, firstOf_zero]
        have fin : ∀ (n e1 : Int), (e1 ≠ 0 → n = 0) → zv_m_j39 0 c l (n, e1, ()) (if runE c l = 0 then ((run0 c l).1, (run0 c l).2, ()) else ([], runE c l, ())) (firstOf (ckChart c) (ckScript l), ()) e1 n = some (true, ()) := by
          intro n e1 h1
          unfold zv_m_j39
          rw [show firstOf (ckChart c) (ckScript l) = runE c l from rfl]
          by_cases hr : runE c l = 0
          · have hv := valid_of c (firstOf_eq_zero.1 hr).1
            have hpl := plays_length c dNone l 0 (entr c 0) []
            rw [List.length_nil, Nat.zero_add] at hpl
            rw [if_pos hr, bifT (show (runE c l == 0) = true by simpa using hr), rrun_eq c hv l (by omega)]
            simp only [Option.bind_some]
            rw [number_ok n e1 n h1 (fun _ => rfl)]
            simp only [cond_true]
            rw [listed_ok _ _ _ (by unfold lenMax; omega) (plays_err c dNone l 0 (entr c 0) []) (fun _ => rfl)]
            rfl
          · rw [if_neg hr, bifF (show (runE c l == 0) = false by simpa using hr)]
            simp only
            rw [number_ok n e1 n h1 (fun _ => rfl)]
            simp only [cond_true]
            rw [listed_ok [] _ [] (by simp [lenMax]) (fun _ => rfl) (fun _ => rfl)]
            rfl
        by_cases h : ckChart c = 0
        · have hv := valid_of c h
          have e0 : stepE c leaf (e, v, ()) = firstOf (lfE c leaf) (inE (e, v, ())) := by unfold stepE; rw [h, firstOf_z]
          rw [bifT (show (ckChart c == 0) = true by simpa using h), rleaf_eq]
          simp only [Option.bind_some]
          rw [rinput_eq]
          simp only [Option.bind_some]
          rw [lfirst_eq _ (by simp [lenMax])]
          simp only [Option.bind_some, firstE_cons, firstE_nil, firstOf_zero]
          rw [← e0]
          unfold zv_m_j40
          by_cases hz : stepE c leaf (e, v, ()) = 0
          · have hlf := lfE_zero (firstOf_eq_zero.1 (e0 ▸ hz)).1
            rw [if_pos hz, bifT (show (stepE c leaf (e, v, ()) == 0) = true by simpa using hz), rstep_eq c hv leaf _ hlf.1 hlf.2]
            simp only [Option.bind_some]
            exact fin _ _ (stp_zero c leaf e v)
          · rw [if_neg hz, bifF (show (stepE c leaf (e, v, ()) == 0) = false by simpa using hz)]
            exact fin 0 _ (fun _ => rfl)
        · have e0 : stepE c leaf (e, v, ()) = ckChart c := firstOf_nz h _
          rw [bifF (show (ckChart c == 0) = false by simpa using h), e0, if_neg h]
          unfold zv_m_j40
          rw [bifF (show (ckChart c == 0) = false by simpa using h)]
          exact fin 0 _ (fun _ => rfl)
      cases l with
      | nil =>
        rw [bifF (by rfl)]
        exact key [] 0 (by simp [lenMax])
      | cons x l =>
        rw [bifT (dec_true (by simp only [List.length_cons]; omega))]
        have : idx (x :: l) 0 = some x := rfl
        rw [this, Option.bind_some]
        exact key x.1 x.2.1 (hw x (by simp))
end Go.Tw
end
