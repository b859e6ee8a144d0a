/- PA: the program returns the results of the document's examples.
P6: the law of the commands.
P7: votes and failures: the law.
P8: charts and steps: the laws; plays. -/
import Derived.Test.YtohhmdogfjmlcaaGreatPX
import Derived.Test.YtohhmdogfjmlcaaGreatBC
import Derived.Test.YtohhmdogfjmlcaaGreatB13

section
set_option linter.all false
set_option maxRecDepth 100000
namespace Go.Tw
open Go.Vx Go.Vx.B Go.Proofs

theorem awake_true : law06_awake_M = some (true, ()) := by kernel_rfl
end Go.Tw
end

section
set_option linter.all false
set_option maxRecDepth 100000
namespace Go.Tw
open Go.Vx Go.Vx.B Go.Proofs

theorem number_ok (have_ bad want : Int) (h1 : bad ≠ 0 → have_ = 0) (h2 : bad = 0 → have_ = want) : law06_number have_ bad bad want = (true, ()) := by
  unfold law06_number
  by_cases hb : bad = 0
  · rw [bifF (show (bad != 0) = false by simpa using hb), bifT (show (bad == 0) = true by simpa using hb), h2 hb, beq_self_eq_true]
  · rw [bifT (show (bad != 0) = true by simpa using hb), bifT (show (have_ == 0) = true by simpa using h1 hb), beq_self_eq_true]

theorem listed_ok (have_ : List Int) (bad : Int) (want : List Int) (hl : have_.length < lenMax) (h1 : bad ≠ 0 → have_ = []) (h2 : bad = 0 → have_ = want) : law06_listed_M have_ bad bad want = some (true, ()) := by
  unfold law06_listed_M law06_listed_m
  by_cases hb : bad = 0
  · rw [bifF (show (bad != 0) = false by simpa using hb), bifT (show (bad == 0) = true by simpa using hb), ← h2 hb, sameInts_refl have_ hl]
    rfl
  · rw [bifT (show (bad != 0) = true by simpa using hb), bifT (show ((have_.length : Int) == 0) = true by simp [h1 hb]), beq_self_eq_true]

end Go.Tw
end

section
set_option linter.all false
set_option maxRecDepth 100000
namespace Go.Tw
open Go.Vx Go.Vx.B Go.Proofs

/-! ### Positions -/
/-! ### Failures -/
def stuckW : List UInt8 := [115, 116, 117, 99, 107]
def lostW : List UInt8 := [108, 111, 115, 116]
def tick (i : Int) : List Fai := (lostW, i, 0, 0, ()) :: [(stuckW, i, 0, 0, ()), (stuckW, i, 0, 1, ()), (stuckW, i, 1, 0, ()), (stuckW, i, 1, 1, ()), (stuckW, i, 2, 0, ()), (stuckW, i, 2, 1, ()), (stuckW, i, 3, 0, ()), (stuckW, i, 3, 1, ())]
def ticks : Int → Nat → List Fai
  | _, 0 => []
  | i, m + 1 => tick i ++ ticks (i + 1) m
/-! ### Scripts -/
end Go.Tw
end

section
set_option linter.all false
set_option maxRecDepth 100000
namespace Go.Tw
open Go.Vx Go.Vx.B Go.Proofs

/-! ### Short charts -/
theorem shortT_loop (c : Cha) : ∀ (l : List Tra) (i : Int), ∃ s, loopL (fun i__ e__ s__ => ref06_Short_b11 c i__ e__) (fun s__ => ref06_Short_f11 c) i l () = some (s, ()) ∧ (s = true → ∀ t ∈ l, t.2.1.length ≤ 40)
  | [], i => ⟨true, rfl, fun _ t ht => by cases ht⟩
  | x :: l, i => by
    rw [loopL_cons]
    unfold ref06_Short_b11
    by_cases h : (x.2.1.length : Int) > 40
    · exact ⟨false, by rw [bifT (dec_true h)]; rfl, fun h => by cases h⟩
    · obtain ⟨s, h1, h2⟩ := shortT_loop c l (i + 1)
      refine ⟨s, by rw [bifF (dec_false h)]; exact h1, fun hs t ht => ?_⟩
      rcases List.mem_cons.1 ht with rfl | ht
      · omega
      · exact h2 hs t ht

theorem shortS_loop (c : Cha) (hl : c.2.1.length < lenMax) : ∀ (l : List Sta) (i : Int), ∃ s, loopL (fun i__ e__ s__ => ref06_Short_b9 c i__ e__) (fun s__ => ref06_Short_f9 c) i l () = some (s, ()) ∧ (s = true → (∀ t ∈ l, t.1.length ≤ 40) ∧ ∀ t ∈ c.2.1, t.2.1.length ≤ 40)
  | [], i => by
    obtain ⟨s, h1, h2⟩ := shortT_loop c c.2.1 0
    refine ⟨s, ?_, fun hs => ⟨fun t ht => (by cases ht), h2 hs⟩⟩
    rw [loopL_nil]
    unfold ref06_Short_f9
    rw [bifT (dec_true hl)]
    exact h1
  | x :: l, i => by
    rw [loopL_cons]
    unfold ref06_Short_b9
    by_cases h : (x.1.length : Int) > 40
    · exact ⟨false, by rw [bifT (dec_true h)]; rfl, fun h => by cases h⟩
    · obtain ⟨s, h1, h2⟩ := shortS_loop c hl l (i + 1)
      refine ⟨s, by rw [bifF (dec_false h)]; exact h1, fun hs => ⟨fun t ht => ?_, (h2 hs).2⟩⟩
      rcases List.mem_cons.1 ht with rfl | ht
      · omega
      · exact (h2 hs).1 t ht

/-- A short chart. -/
structure Sh (c : Cha) : Prop where
  sts : c.1.length ≤ 17
  tras : c.2.1.length ≤ 49
  words : Words c

theorem short_eq (c : Cha) : ∃ s, ref06_Short_M c = some (s, ()) ∧ (s = true → Sh c) := by
  have key : c.1.length ≤ 17 → c.2.1.length ≤ 49 → ∃ s, ref06_Short_s13 c = some (s, ()) ∧ (s = true → Sh c) := by
    intro h1 h2
    obtain ⟨s, h3, h4⟩ := shortS_loop c (by unfold lenMax; omega) c.1 0
    refine ⟨s, ?_, fun hs => ⟨h1, h2, fun t ht => ?_, fun t ht => ?_⟩⟩
    · unfold ref06_Short_s13
      rw [bifT (dec_true (show c.1.length < lenMax by unfold lenMax; omega))]
      exact h3
    · have := (h4 hs).1 t ht; unfold lenMax; omega
    · have := (h4 hs).2 t ht; unfold lenMax; omega
  have key2 : c.1.length ≤ 17 → ∃ s, (bif decide ((c.2.1.length : Int) > 12) then (bif (c.2.1.length : Int) != 49 then (some ((false, ()))) else (ref06_Short_s13 c)) else (ref06_Short_s13 c)) = some (s, ()) ∧ (s = true → Sh c) := by
    intro h1
    by_cases h2 : (c.2.1.length : Int) > 12
    · rw [bifT (dec_true h2)]
      by_cases h3 : (c.2.1.length : Int) = 49
      · rw [bifF (show ((c.2.1.length : Int) != 49) = false by simp [h3])]
        exact key h1 (by omega)
      · exact ⟨false, by rw [bifT (show ((c.2.1.length : Int) != 49) = true by simpa using h3)], fun h => by cases h⟩
    · rw [bifF (dec_false h2)]
      exact key h1 (by omega)
  unfold ref06_Short_M
  by_cases h2 : (c.1.length : Int) > 7
  · rw [bifT (dec_true h2)]
    by_cases h3 : (c.1.length : Int) = 17
    · rw [bifF (show ((c.1.length : Int) != 17) = false by simp [h3])]
      exact key2 (by omega)
    · exact ⟨false, by rw [bifT (show ((c.1.length : Int) != 17) = true by simpa using h3)], fun h => by cases h⟩
  · rw [bifF (dec_false h2)]
    exact key2 (by omega)

theorem chart_eq (c : Cha) (hc : Sh c) : law06_chart_M c = some (c, ()) := by
  have hmem : memMax = 68719476736 := rfl
  have h1 := hc.sts
  have h2 := hc.tras
  unfold law06_chart_M
  rw [bifT (dec_true (show c.1.length < lenMax by unfold lenMax; omega))]
  refine (loopL_app (fun x : Sta => x) c.1 0 [] (by simp; omega) fun i e s he hs => ?_).trans ?_
  · unfold law06_chart_b0
    rw [bifT (dec_true hs)]
  rw [List.map_id', List.nil_append]
  unfold law06_chart_f0
  rw [bifT (dec_true (show c.2.1.length < lenMax by unfold lenMax; omega))]
  refine (loopL_app (fun x : Tra => x) c.2.1 0 [] (by simp; omega) fun i e s he hs => ?_).trans ?_
  · unfold law06_chart_b2
    rw [bifT (dec_true hs)]
  rw [List.map_id', List.nil_append]
  rfl

/-! ### Leaves, events, the start -/
theorem gck (c : Cha) (hc : Sh c) : gate_CheckChart_M c = some (ckChart c, ()) := gchart_eq c (by have := hc.sts; omega) (by have := hc.tras; omega) hc.words

theorem gLeaves_eq (c : Cha) (hc : Sh c) : gate_Leaves_M c = some (if ckChart c = 0 then (leavesF 0 c.1, 0, ()) else ([], ckChart c, ())) := by
  unfold gate_Leaves_M gate_Leaves_m
  rw [gck c hc]
  simp only [Option.bind_some]
  by_cases h : ckChart c = 0
  · rw [if_pos h, bifF (show (ckChart c != 0) = false by simpa using h), gleaves_eq c (by have := hc.sts; omega)]
    rfl
  · rw [if_neg h, bifT (show (ckChart c != 0) = true by simpa using h)]

theorem gEvents_eq (c : Cha) (hc : Sh c) : gate_Events_M c = some (if ckChart c = 0 then (evts c.2.1, 0, ()) else ([], ckChart c, ())) := by
  unfold gate_Events_M gate_Events_m
  rw [gck c hc]
  simp only [Option.bind_some]
  by_cases h : ckChart c = 0
  · rw [if_pos h, bifF (show (ckChart c != 0) = false by simpa using h), gevents_eq c (by have := hc.tras; omega)]
    rfl
  · rw [if_neg h, bifT (show (ckChart c != 0) = true by simpa using h)]

theorem gStart_eq (c : Cha) (hc : Sh c) : gate_Start_M c = some (if ckChart c = 0 then (entr c 0, 0, ()) else (0, ckChart c, ())) := by
  unfold gate_Start_M gate_Start_m
  rw [gck c hc]
  by_cases h : ckChart c = 0
  · have hv := valid_of c h
    have hp := hv.pos
    rw [if_pos h, Option.bind_some, bifF (show ((ckChart c, ()).1 != 0) = false by simpa using h), genter_eq c hv 0 (by omega) (by omega)]
    rfl
  · rw [if_neg h, Option.bind_some, bifT (show ((ckChart c, ()).1 != 0) = true by simpa using h)]

/-- **GateCharts**: for every input the law answers true. -/
theorem gateCharts_law (c : Cha) : law06_GateCharts_M c = some (true, ()) := by
  have aw : (law06_awake_M.bind fun (v6 : Bool × Unit) => some (v6.1, ())) = some (true, ()) := by rw [awake_true]; rfl
  unfold law06_GateCharts_M law06_GateCharts_m
  obtain ⟨s, hs, hs2⟩ := short_eq c
  rw [hs]
  conv => lhs; arg 1; rw [awake_true]
  rw [Option.bind_some, bifF (show (!(true, ()).1) = false from rfl), Option.bind_some]
  cases s with
  | false => exact aw
  | true =>
    have hc := hs2 rfl
    have h17 := hc.sts
    have h49 := hc.tras
    rw [bifF (show (!(true, ()).1) = false from rfl), chart_eq c hc]
    simp only [Option.bind_some]
    rw [gLeaves_eq c hc, gEvents_eq c hc, gStart_eq c hc, rchart_eq]
    simp only [Option.bind_some]
    have fin : ∀ (lv : List Int) (ev : List (List UInt8)) (st : Int), lv.length < lenMax → ev.length < lenMax → (ckChart c ≠ 0 → lv = [] ∧ st = 0) →
        law06_GateCharts_m_j32 0 c (lv, ckChart c, ()) (ev, ckChart c, ()) (st, ckChart c, ()) (ckChart c, ()) lv ev st = some (true, ()) := by
      intro lv ev st h1 h2 h3
      unfold law06_GateCharts_m_j32
      rw [chart_eq c hc]
      simp only [Option.bind_some]
      rw [gck c hc]
      simp only [Option.bind_some]
      rw [beq_self_eq_true, cond_true, listed_ok lv (ckChart c) lv h1 (fun h => (h3 h).1) (fun _ => rfl)]
      simp only [Option.bind_some, cond_true]
      rw [sameWords_refl ev h2]
      simp only [Option.bind_some, cond_true]
      rw [number_ok st (ckChart c) st (fun h => (h3 h).2) (fun _ => rfl)]
    by_cases h : ckChart c = 0
    · have hv := valid_of c h
      have hp := hv.pos
      have hlv := leavesF_length c.1 0
      have hev := evts_length c.2.1
      have := fin (leavesF 0 c.1) (evts c.2.1) (entr c 0) (by unfold lenMax; omega) (by unfold lenMax; omega) (fun h2 => absurd h h2)
      simp only [if_pos h]
      rw [bifT (show (ckChart c == 0) = true by simpa using h), rleaves_eq c (by omega), revents_eq c (by omega), renter_eq c hv 0 (by omega) (by omega)]
      simp only [Option.bind_some]
      rw [h] at this ⊢
      exact this
    · simp only [if_neg h]
      rw [bifF (show (ckChart c == 0) = false by simpa using h)]
      exact fin [] [] 0 (by simp [lenMax]) (by simp [lenMax]) (fun _ => ⟨rfl, rfl⟩)

/-! ### Plays -/
end Go.Tw
end
