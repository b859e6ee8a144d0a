import Derived.Test.YtclcodeedopemaaGreatPY
section
set_option linter.all false
set_option maxRecDepth 100000
namespace Go.Tw
open Go.Vx Go.Vx.B Go.Proofs
def y4B (c : Cha) (s : Int) : Bool := decide (s < 0) || decide ((c.1.length : Int) ≤ s)
def lstE (c : Cha) (l : List Int) : Int := if 16 < l.length then 5 else bif l.any (y4B c) then 10 else 0
theorem yCu (c : Cha) (xs : List Int) : ∀ (l : List Int) (i : Int), 0 ≤ i → ∃ k, yH (fun i__ e__ s__ => yF9 xs (fun (x : Int × Unit) => zH_M x.fst c) i__ e__) (fun s__ => yKZ xs (fun (x : Int × Unit) => zH_M x.fst c)) i l () = some (k, ()) ∧ decide (k ≥ 0) = l.any (y4B c)
  | [], i, _ => ⟨-1, rfl, rfl⟩
  | e :: l, i, hi => by
    have hb : yF9 xs (fun (x : Int × Unit) => zH_M x.fst c) i e = some (bif y4B c e then .inl (i, ()) else .inr ()) := by
      unfold yF9
      show (Option.bind (some (zH e c)) _) = _
      unfold zH y4B
      rw [show decide (e ≥ (c.1.length : Int)) = decide ((c.1.length : Int) ≤ e) from rfl]
      cases decide (e < 0) <;> cases decide ((c.1.length : Int) ≤ e) <;> rfl
    rw [yf, hb, List.any_cons]
    cases h : y4B c e with
    | true => exact ⟨i, rfl, by rw [Bool.true_or]; exact y6 hi⟩
    | false =>
      obtain ⟨k, h1, h2⟩ := yCu c xs l (i + 1) (by omega)
      exact ⟨k, h1, by rw [h2]; simp⟩
theorem yHZ (c : Cha) (l : List Int) (h : l.length ≤ 1000) : zL_M c l = some (lstE c l, ()) := by
  unfold zL_M zL_m zB_M zB_m zF_M
  obtain ⟨k, h1, h2⟩ := yCu c l l 0 (by omega)
  rw [bifT (y6 (show l.length < lenMax by unfold lenMax; omega)), h1]
  simp only [Option.bind_some, y2l]
  rw [y0C _ (by simp [lenMax]), h2]
  simp only [Option.bind_some, yc, yw, yZ]
  unfold lstE
  by_cases h : 16 < l.length
  · rw [y6 (show (l.length : Int) > 16 by omega), if_pos h]; rfl
  · rw [yG (show ¬ (l.length : Int) > 16 by omega), if_neg h]; rfl
def y4A (ps : List Pth) (states : List Int) : List Inp × Int := match ps.find? (fun p => states.contains p.1) with
  | some p => (p.2.1, 0)
  | none => ([], 7)
theorem y7w (states : List Int) : ∀ ps : List Pth, ps.findSome? (fun p => if (states.contains p.1) = true then some (p.2.1, (0 : Int), ()) else none) = (ps.find? (fun p => states.contains p.1)).map fun p => (p.2.1, (0 : Int), ())
  | [] => rfl
  | p :: ps => by
    rw [List.findSome?_cons, List.find?_cons]
    cases h : states.contains p.1 with
    | true => rfl
    | false => rw [if_neg (by simp)]; exact y7w states ps
def trE2 (c : Cha) (states : List Int) : Int := yF (yQ c) (lstE c states)
theorem yGf (c : Cha) (hc : Sh c) (states : List Int) (hs : states.length ≤ 1000) : yB4 c states = some (if trE2 c states = 0 then ((y4A (WS c) states).1, (y4A (WS c) states).2, ()) else ([], trE2 c states, ())) := by
  have hmem : memMax = 68719476736 := rfl
  unfold yB4 trE2
  rw [gck c hc, Option.bind_some]
  by_cases h : yQ c = 0
  · have hv := y0i c h
    have hf := (yBU c hv).few hv
    rw [h, bifF (show (((0 : Int), ()).1 != 0) = false from rfl), yHZ c states hs, Option.bind_some, y2L]
    by_cases he : lstE c states = 0
    · rw [if_pos he, bifF (show ((lstE c states, ()).1 != 0) = false by simpa using he), yDU c hv, Option.bind_some, bifT (y6 (show (WS c).length < lenMax by unfold lenMax; omega))]
      have := y1V (body := fun i__ e__ s__ => yA8 states (WS c) [] i__ e__) (fin := fun s__ => yCv states (WS c) []) (fun p : Pth => if (states.contains p.1) = true then some (p.2.1, (0 : Int), ()) else none) (WS c) 0 (fun i e _ => by
        unfold yA8
        rw [y3J _ _ (by unfold lenMax; omega), Option.bind_some]
        cases states.contains e.1 with
        | true =>
          rw [cond_true, bifT (y6 (show ([] : List Pth).length + 1 ≤ memMax by simp; omega))]
          rfl
        | false => rfl)
      refine this.trans ?_
      rw [y7w]
      unfold y4A
      cases (WS c).find? (fun p => states.contains p.1) <;> rfl
    · rw [if_neg he, bifT (show ((lstE c states, ()).1 != 0) = true by simpa using he)]
  · rw [y0O h, if_neg h, bifT (show ((yQ c, ()).1 != 0) = true by simpa using h)]
theorem yDS (x : Int) : ∀ (l : List Int), (x :: l)[l.length]? = some (l.getLastD x)
  | [] => rfl
  | y :: l => by
    rw [List.length_cons, List.getElem?_cons_succ, List.getLastD_cons]
    exact yDS y l
def yIu (c : Cha) (states : List Int) (l : List Inp) : Int :=
  yF (run0 c l).2 (bif states.contains ((run0 c l).1.getLastD (entr c 0)) then 0 else 22)
theorem yJu (c : Cha) (hc : Sh c) (states : List Int) (l : List Inp) (hs : states.length ≤ 1000) (hl : l.length ≤ 1000) (hw : ∀ x ∈ l, x.1.length < lenMax) :
    zn_M c states l = some (if yF (trE2 c states) (ym l) = 0 then yIu c states l else yF (trE2 c states) (ym l), ()) := by
  have hmem : memMax = 68719476736 := rfl
  unfold zn_M zn_m trE2
  rw [gck c hc, Option.bind_some]
  by_cases h : yQ c = 0
  · have hv := y0i c h
    have hp := hv.pos
    rw [h, bifF (show (((0 : Int), ()).1 != 0) = false from rfl), yHZ c states hs, Option.bind_some, y5E l hl hw, Option.bind_some, y0C _ (by simp [lenMax]), Option.bind_some, y2L]
    simp only [yc, yw, yZ]
    by_cases he : yF (lstE c states) (ym l) = 0
    · have hpl := y3M c yBn l 0 (entr c 0) []
      rw [List.length_nil, Nat.zero_add] at hpl
      have hpg := yFM c hv l hl (y3V (yD.1 he).2)
      unfold noF noneW at hpg
      rw [if_pos he, bifF (show (yF (lstE c states) (ym l) != 0) = false by simpa using he), hpg, Option.bind_some]
      unfold yIu
      by_cases hz : (run0 c l).2 = 0
      · rw [bifF (show ((run0 c l).2 != 0) = false by simpa using hz), y2I c hv 0 (by omega) (by omega), Option.bind_some, hz, y2L]
        change (bif decide (1 + (run0 c l).1.length ≤ memMax) then _ else _) = _
        revert hpl
        change (run0 c l).1.length ≤ l.length → _
        generalize (run0 c l).1 = r
        intro hpl
        rw [bifT (y6 (by omega))]
        have e1 : ((([entr c 0] ++ r).length : Nat) : Int) - 1 = (r.length : Int) := by simp
        rw [e1, yB0 (by omega) (by omega), y1v, Int.toNat_natCast, List.singleton_append, yDS, Option.bind_some, Option.bind_some, y3J _ _ (by unfold lenMax; omega), Option.bind_some, y2l]
        cases states.contains (r.getLastD (entr c 0)) <;> rfl
      · rw [bifT (show ((run0 c l).2 != 0) = true by simpa using hz), y0O hz]
    · rw [if_neg he, bifT (show (yF (lstE c states) (ym l) != 0) = true by simpa using he)]
  · have e0 : yF (yF (yQ c) (lstE c states)) (ym l) = yQ c := by rw [y2N, y0O h]
    rw [e0, if_neg h, bifT (show ((yQ c, ()).1 != 0) = true by simpa using h)]
theorem y7P (c : Cha) (hc : Valid c) (states : List Int) : (y4A (WS c) states).1.length ≤ 16 := by
  have hw := yBU c hc
  have hf := hw.few hc
  unfold y4A
  cases hq : (WS c).find? (fun p => states.contains p.1) with
  | none => simp
  | some p =>
    obtain ⟨j, hj, hp⟩ := List.getElem_of_mem (List.mem_of_find?_eq_some hq)
    have := hw.ln j p (by rw [List.getElem?_eq_getElem hj, hp])
    simp only
    omega
end Go.Tw
end
section
set_option linter.all false
set_option maxRecDepth 100000
namespace Go.Tw
open Go.Vx Go.Vx.B Go.Proofs
def y1h (n : Int) (f : Fai) : Int :=
  if f.1 = noneW then (if f.2.1 = 0 ∧ f.2.2.1 = 0 ∧ f.2.2.2.1 = 0 then 0 else 1)
  else if f.1 = lostW then (if f.2.2.1 = 0 ∧ f.2.2.2.1 = 0 then ckR f.2.1 0 (n - 1) else 1)
  else if f.1 = stuckW then yF (ckR f.2.1 0 (n - 1)) (yF (ckR f.2.2.1 0 3) (ckR f.2.2.2.1 0 1))
  else 13
theorem yBv (x y : Fai) : eqV (.pair .str (.pair (.int .i64) (.pair (.int .i64) (.pair (.int .i64) .unit)))) x y = decide (x.1 = y.1 ∧ x.2.1 = y.2.1 ∧ x.2.2.1 = y.2.2.1 ∧ x.2.2.2.1 = y.2.2.2.1) := by
  show ((x.1 : List UInt8) == y.1 && ((x.2.1 : Int) == y.2.1 && ((x.2.2.1 : Int) == y.2.2.1 && ((x.2.2.2.1 : Int) == y.2.2.2.1 && true)))) = _
  by_cases h1 : x.1 = y.1 <;> by_cases h2 : x.2.1 = y.2.1 <;> by_cases h3 : x.2.2.1 = y.2.2.1 <;> by_cases h4 : x.2.2.2.1 = y.2.2.2.1 <;> simp [h1, h2, h3, h4]
theorem yHk (f : Fai) : ∃ k1 k2, zX_M f = some ((if f.1 = noneW ∨ f.1 = lostW ∨ f.1 = stuckW then f.1 else [], k1, k2, ()), decide (f.1 = noneW ∨ f.1 = lostW ∨ f.1 = stuckW), ()) ∧
    (f.1 = noneW → (∀ g, k1 (g, ()) = some ((g.1, 0, 0, 0, ()), ())) ∧ ∀ g i x, k2 (g, i, x, ()) = some (x, true, ())) ∧
    (f.1 = lostW → (∀ g, k1 (g, ()) = some ((g.1, g.2.1, 0, 0, ()), ())) ∧ ∀ g i x, k2 (g, i, x, ()) = some (x, i != g.2.1, ())) ∧
    (f.1 = stuckW → (∀ g, k1 (g, ()) = some (g, ())) ∧ ∀ g i x, k2 (g, i, x, ()) = zW_M g i x) := by
  have hn : noneW ≠ lostW := by decide
  have hs : noneW ≠ stuckW := by decide
  have hl : lostW ≠ stuckW := by decide
  have hb (k : Int) (v : List UInt8 × (Fai × Unit → Option (Fai × Unit)) × (Fai × Int × Inp × Unit → Option (Inp × Bool × Unit)) × Unit) (h : idx z0R.1 k = some v) :
      yFn f z0R.1 [] k = some (bif v.1 == f.1 then .inl ((v.1, v.2.1, v.2.2.1, ()), true, ()) else .inr ()) := by
    unfold yFn
    rw [h, Option.bind_some]
    cases (v.1 == f.1) <;> rfl
  have h0 := hb 0 _ rfl
  have h1 := hb 1 _ rfl
  have h2 := hb 2 _ rfl
  have hM : zX_M f = yy (fun i__ s__ => yFn f z0R.1 [] i__) (fun s__ => yKF f z0R.1 []) 3 0 () := by
    unfold zX_M
    rw [bifT (by rfl)]
    rfl
  rw [hM]
  unfold yy
  simp only [h0, Option.bind_some]
  by_cases c1 : f.1 = noneW
  · refine ⟨fun x => yGk x.1, fun x => yI2 x.1 x.2.1 x.2.2.1, ?_, fun _ => ⟨fun g => ?_, fun g i x => ?_⟩, fun h => absurd (c1.symm.trans h) hn, fun h => absurd (c1.symm.trans h) hs⟩
    · rw [if_pos (.inl c1), y6 (.inl c1), c1]; rfl
    · rfl
    · rfl
  have e1 : (([110, 111, 110, 101] : List UInt8) == f.1) = false := by
    rw [beq_eq_false_iff_ne]; exact fun h => c1 h.symm
  simp only [e1, cond_false]
  unfold yy
  simp only [Int.zero_add, h1, Option.bind_some]
  by_cases c2 : f.1 = lostW
  · refine ⟨fun x => yIB x.1, fun x => yHB x.1 x.2.1 x.2.2.1, ?_, fun h => absurd h c1, fun _ => ⟨fun g => ?_, fun g i x => ?_⟩, fun h => absurd (c2.symm.trans h) hl⟩
    · rw [if_pos (.inr (.inl c2)), y6 (.inr (.inl c2)), c2]; rfl
    · rfl
    · rfl
  have e2 : (([108, 111, 115, 116] : List UInt8) == f.1) = false := by
    rw [beq_eq_false_iff_ne]; exact fun h => c2 h.symm
  simp only [e2, cond_false]
  unfold yy
  rw [show (1 : Int) + 1 = 2 from rfl]
  simp only [h2, Option.bind_some]
  by_cases c3 : f.1 = stuckW
  · refine ⟨fun x => yHG x.1, fun x => zW_M x.1 x.2.1 x.2.2.1, ?_, fun h => absurd h c1, fun h => absurd h c2, fun _ => ⟨fun g => ?_, fun g i x => ?_⟩⟩
    · rw [if_pos (.inr (.inr c3)), y6 (.inr (.inr c3)), c3]; rfl
    · rfl
    · rfl
  have e3 : (([115, 116, 117, 99, 107] : List UInt8) == f.1) = false := by
    rw [beq_eq_false_iff_ne]; exact fun h => c3 h.symm
  simp only [e3, cond_false]
  have hno : ¬ (f.1 = noneW ∨ f.1 = lostW ∨ f.1 = stuckW) := by
    rintro (h | h | h)
    · exact c1 h
    · exact c2 h
    · exact c3 h
  refine ⟨fun _ => none, fun _ => none, ?_, fun h => absurd h c1, fun h => absurd h c2, fun h => absurd h c3⟩
  rw [if_neg hno, yG hno]
  rfl
theorem yJZ (n : Int) (f : Fai) (hn : 0 ≤ n ∧ n ≤ 1000) : zR_M f n = some (y1h n f, ()) := by
  have hw : IntKind.i64.wrap (n - 1) = n - 1 := yB0 (by omega) (by omega)
  have hn1 : lostW ≠ noneW := by decide
  have hs1 : stuckW ≠ noneW := by decide
  have hl1 : stuckW ≠ lostW := by decide
  obtain ⟨k1, k2, hk, g1, g2, g3⟩ := yHk f
  unfold zR_M zR_m y1h
  rw [hk, Option.bind_some, show ([110, 111, 110, 101] : List UInt8) = noneW from rfl]
  have fin : ∀ z : Int, (Option.bind (y0k [(z0I f.2.1 0 (IntKind.i64.wrap (n - 1))).fst, (z0I f.2.2.1 0 3).fst, (z0I f.2.2.2.1 0 1).fst]) fun (v2 : Int × Unit) => some (v2.1, ())) = some (yF (ckR f.2.1 0 (n - 1)) (yF (ckR f.2.2.1 0 3) (ckR f.2.2.2.1 0 1)), ()) := by
    intro _
    simp only [y73, hw]
    rw [y0C _ (by simp [lenMax]), Option.bind_some]
    simp only [yc, yw, yZ]
  by_cases h1 : f.1 = noneW
  · rw [y6 (.inl h1), bifF (by rfl)]
    simp only
    rw [(g1 h1).1 f, Option.bind_some, yBv, if_pos h1]
    simp only [true_and]
    by_cases h : f.2.1 = 0 ∧ f.2.2.1 = 0 ∧ f.2.2.2.1 = 0
    · rw [if_pos h, y6 ⟨h.1.symm, h.2.1.symm, h.2.2.symm⟩, bifF (by rfl), bifT (show (f.1 == noneW) = true by simpa using h1)]
    · rw [if_neg h, yG (fun x => h ⟨x.1.symm, x.2.1.symm, x.2.2.symm⟩), bifT (by rfl)]
  rw [if_neg h1]
  by_cases h2 : f.1 = lostW
  · rw [y6 (.inr (.inl h2)), bifF (by rfl)]
    simp only
    rw [(g2 h2).1 f, Option.bind_some, yBv, if_pos h2]
    simp only [true_and]
    by_cases h : f.2.2.1 = 0 ∧ f.2.2.2.1 = 0
    · rw [if_pos h, y6 ⟨h.1.symm, h.2.symm⟩, bifF (by rfl), bifF (show (f.1 == noneW) = false by simpa using h1), fin 0, h.1, h.2]
      show some (yF (ckR f.2.1 0 (n - 1)) (yF (ckR 0 0 3) (ckR 0 0 1)), ()) = _
      rw [show ckR 0 0 3 = 0 from rfl, show ckR 0 0 1 = 0 from rfl, y2L, yZ]
    · rw [if_neg h, yG (fun x => h ⟨x.1.symm, x.2.symm⟩), bifT (by rfl)]
  rw [if_neg h2]
  by_cases h3 : f.1 = stuckW
  · rw [y6 (.inr (.inr h3)), bifF (by rfl)]
    simp only
    rw [(g3 h3).1 f, Option.bind_some, yBv, if_pos h3, y6 ⟨rfl, rfl, rfl, rfl⟩, bifF (by rfl), bifF (show (f.1 == noneW) = false by simpa using h1), fin 0]
  · have hno : ¬ (f.1 = noneW ∨ f.1 = lostW ∨ f.1 = stuckW) := by
      rintro (h | h | h)
      · exact h1 h
      · exact h2 h
      · exact h3 h
    rw [yG hno, bifT (by rfl), if_neg h3]
def setB (v b w : Int) : Int := yP .i64 .or (yP .i64 .andNot v (IntKind.i64.wrap (1 * 2 ^ min b.toNat IntKind.i64.bits))) (IntKind.i64.wrap (w * 2 ^ min b.toNat IntKind.i64.bits))
def pw (b : Nat) : Int := if b = 0 then 1 else if b = 1 then 2 else if b = 2 then 4 else 8
theorem yEU : ∀ (v : Fin 16) (b : Fin 4) (w : Fin 2), (0 ≤ setB v.val b.val w.val ∧ setB v.val b.val w.val ≤ 15) ∧
    setB v.val b.val w.val = if w.val = 0 then IntKind.i64.wrap (yP .i64 .or v.val (pw b.val) - pw b.val) else yP .i64 .or v.val (pw b.val) := by
  decide +kernel
def dF (f : Fai) (i : Int) (x : Inp) : Inp × Bool :=
  if f.1 = lostW then (x, i != f.2.1) else if f.1 = stuckW then (if f.2.1 ≤ i then ((x.1, setB x.2.1 f.2.2.1 f.2.2.2.1, ()), true) else (x, true)) else (x, true)
theorem y68 (f : Fai) (n : Int) (h : y1h n f = 0) (i : Int) (x : Inp) (hx : 0 ≤ x.2.1 ∧ x.2.1 ≤ 15) : 0 ≤ (dF f i x).1.2.1 ∧ (dF f i x).1.2.1 ≤ 15 := by
  have hn : stuckW ≠ noneW := by decide
  have hl : stuckW ≠ lostW := by decide
  unfold dF
  split
  · exact hx
  · split
    · rename_i h2 h3
      split
      · unfold y1h at h
        rw [if_neg (by rw [h3]; exact hn), if_neg h2, if_pos h3] at h
        obtain ⟨_, h⟩ := yD.1 h
        obtain ⟨hb, hw⟩ := yD.1 h
        have hb := y1C hb
        have hw := y1C hw
        have := (yEU ⟨x.2.1.toNat, by omega⟩ ⟨f.2.2.1.toNat, by omega⟩ ⟨f.2.2.2.1.toNat, by omega⟩).1
        simp only at this
        rw [Int.toNat_of_nonneg hx.1, Int.toNat_of_nonneg hb.1, Int.toNat_of_nonneg hw.1] at this
        exact this
      · exact hx
    · exact hx
theorem yIJ (c : Cha) (hc : Valid c) (l : List Inp) (hl : l.length ≤ 1000) (hv : ∀ x ∈ l, 0 ≤ x.2.1 ∧ x.2.1 ≤ 15) (f : Fai) (n : Int) (hf : y1h n f = 0) :
    zk_M c l f = some ((y2u c (dF f) l 0 (entr c 0) []).1, (y2u c (dF f) l 0 (entr c 0) []).2, ()) := by
  have hp := hc.pos
  have hlf := y1e c hc 0 (by omega) (by omega)
  obtain ⟨k1, k2, hk, g1, g2, g3⟩ := yHk f
  have hn1 : lostW ≠ noneW := by decide
  have hs1 : stuckW ≠ noneW := by decide
  have hl1 : stuckW ≠ lostW := by decide
  have hd : ∀ (i : Int) (x : Inp), k2 (f, i, x, ()) = some ((dF f i x).1, (dF f i x).2, ()) := by
    intro i x
    unfold dF
    by_cases h1 : f.1 = noneW
    · rw [(g1 h1).2 f i x, if_neg (by rw [h1]; exact hn1.symm), if_neg (by rw [h1]; exact hs1.symm)]
    by_cases h2 : f.1 = lostW
    · rw [(g2 h2).2 f i x, if_pos h2]
    by_cases h3 : f.1 = stuckW
    · rw [(g3 h3).2 f i x, if_neg h2, if_pos h3]
      unfold y1h at hf
      rw [if_neg h1, if_neg h2, if_pos h3] at hf
      obtain ⟨_, hf⟩ := yD.1 hf
      have hb := y1C (yD.1 hf).1
      unfold zW_M zW_m
      by_cases hi : f.2.1 ≤ i
      · rw [if_pos hi, bifT (y6 (show i ≥ f.2.1 from hi)), bifF (yG (by omega)), bifF (yG (by omega))]
        rfl
      · rw [if_neg hi, bifF (yG (show ¬ i ≥ f.2.1 from hi))]
    · unfold y1h at hf
      rw [if_neg h1, if_neg h2, if_neg h3] at hf
      cases hf
  unfold zk_M
  rw [hk, Option.bind_some, y2I c hc 0 (by omega) (by omega), Option.bind_some, bifT (y6 (show l.length < lenMax by unfold lenMax; omega))]
  exact y3X c hc f l _ k1 k2 (dF f) l 0 (entr c 0) [] (by omega) hlf.1 hlf.2.1 (by simpa using hl) (fun i x _ hx => ⟨hd i x, fun _ => y68 f n hf i x (hv x hx)⟩)
end Go.Tw
end
section
set_option linter.all false
set_option maxRecDepth 100000
namespace Go.Tw
open Go.Vx Go.Vx.B Go.Proofs
abbrev yKD (c : Cha) (l : List Inp) (f : Fai) : List Int × Int := y2u c (dF f) l 0 (entr c 0) []
theorem yAT : ∀ (m : Nat) (i : Int) (n : Int), 0 ≤ i → i + m ≤ n → ∀ f ∈ y0y i m, y1h n f = 0
  | 0, i, n, _, _, f, hf => by cases hf
  | m + 1, i, n, h0, h1, f, hf => by
    unfold y0y at hf
    rcases List.mem_append.1 hf with hf | hf
    · have hr : ckR i 0 (n - 1) = 0 := by unfold ckR; rw [if_neg (by omega)]
      have hs1 : stuckW ≠ noneW := by decide
      have hs2 : stuckW ≠ lostW := by decide
      have hl1 : lostW ≠ noneW := by decide
      unfold tick at hf
      simp only [List.mem_cons, List.not_mem_nil, or_false] at hf
      have stk : ∀ b v : Int, ckR b 0 3 = 0 → ckR v 0 1 = 0 → y1h n (stuckW, i, b, v, ()) = 0 := by
        intro b v hb hv
        unfold y1h
        rw [if_neg hs1, if_neg hs2, if_pos rfl]
        simp only [hr, hb, hv]
        rfl
      rcases hf with rfl | rfl | rfl | rfl | rfl | rfl | rfl | rfl | rfl
      · unfold y1h
        rw [if_neg hl1, if_pos rfl, if_pos ⟨rfl, rfl⟩]
        exact hr
      all_goals exact stk _ _ rfl rfl
    · exact yAT m (i + 1) n (by omega) (by omega) f hf
theorem yHy (n : Nat) : ∀ f ∈ yAX n, y1h (n : Int) f = 0 := by
  intro f hf
  unfold yAX at hf
  rcases List.mem_cons.1 hf with rfl | hf
  · unfold y1h; rw [if_pos rfl, if_pos ⟨rfl, rfl, rfl⟩]
  · exact yAT n 0 n (by omega) (by omega) f hf
def E1 (c : Cha) (l : List Inp) (f : Fai) : Int := yF (yQ c) (yF (ym l) (y1h l.length f))
section
variable (c : Cha) (hc : Sh c) (l : List Inp) (hl : l.length ≤ 100) (hw : ∀ x ∈ l, x.1.length < lenMax) (g : Goa) (hg1 : g.1.length ≤ 17) (hg2 : g.2.1.length ≤ 17) (f : Fai)
include hc hl hw
theorem yKg : yEQ c l f = some (if E1 c l f = 0 then ((yKD c l f).1, (yKD c l f).2, ()) else ([], E1 c l f, ())) := by
  unfold yEQ yKA E1
  rw [gck c hc, Option.bind_some, y5E l (by omega) hw, Option.bind_some, yJZ l.length f ⟨by omega, by omega⟩, Option.bind_some, y0C _ (by simp [lenMax]), Option.bind_some]
  simp only [yc, yw, yZ]
  by_cases h : yF (yQ c) (yF (ym l) (y1h l.length f)) = 0
  · obtain ⟨h1, h2⟩ := yD.1 h
    obtain ⟨h2, h3⟩ := yD.1 h2
    rw [if_pos h, bifF (show (yF (yQ c) (yF (ym l) (y1h l.length f)) != 0) = false by simpa using h), yIJ c (y0i c h1) l (by omega) (y3V h2) f l.length h3, Option.bind_some]
  · rw [if_neg h, bifT (show (yF (yQ c) (yF (ym l) (y1h l.length f)) != 0) = true by simpa using h)]
include hg1 hg2
end
end Go.Tw
end
section
set_option linter.all false
set_option maxRecDepth 100000
namespace Go.Tw
open Go.Vx Go.Vx.B Go.Proofs
def y1s (p : Int → List UInt8 → Int → Bool) (leaf : Int) (e : List UInt8) : Nat → Int → List Cas
  | 0, _ => []
  | m + 1, v => (bif p leaf e v then [(leaf, e, v, ())] else []) ++ y1s p leaf e m (v + 1)
def y23 (p : Int → List UInt8 → Int → Bool) (leaf : Int) : List (List UInt8) → List Cas
  | [] => []
  | e :: l => y1s p leaf e 16 0 ++ y23 p leaf l
def y11 (p : Int → List UInt8 → Int → Bool) (ev : List (List UInt8)) : List Int → List Cas
  | [] => []
  | i :: l => y23 p i ev ++ y11 p ev l
theorem y1k (p : Int → List UInt8 → Int → Bool) (leaf : Int) (e : List UInt8) : ∀ (m : Nat) (v : Int), (y1s p leaf e m v).length ≤ m
  | 0, v => Nat.le_refl _
  | m + 1, v => by
    have := y1k p leaf e m (v + 1)
    unfold y1s
    rw [List.length_append]
    cases p leaf e v <;> simp <;> omega
theorem y3H (p : Int → List UInt8 → Int → Bool) (leaf : Int) : ∀ ev : List (List UInt8), (y23 p leaf ev).length ≤ 16 * ev.length
  | [] => Nat.le_refl _
  | e :: l => by
    have := y3H p leaf l
    have := y1k p leaf e 16 0
    unfold y23
    rw [List.length_append, List.length_cons]
    omega
def outc (c : Cha) (leaf : Int) (e : List UInt8) (v : Int) : Int × Bool × Bool × Unit := match y1j c leaf e v with
  | [] => (leaf, true, false, ())
  | [t] => (entr c t.2.2.1, false, false, ())
  | _ => (leaf, false, true, ())
theorem yH0 (c : Cha) (hc : Valid c) (leaf : Int) (e : List UInt8) (v : Int) (h0 : 0 ≤ leaf) (h1 : leaf < c.1.length) (hv : 0 ≤ v ∧ v ≤ 15) : zl_M c leaf (e, v, ()) = some (outc c leaf e v, ()) := by
  rw [y9X c hc leaf (e, v, ()) h0 h1 hv]
  unfold outc
  generalize y1j c leaf (e, v, ()).1 (e, v, ()).2.1 = fs
  match fs with
  | [] => rfl
  | [t] => rfl
  | t :: u :: l => rfl
section
variable (c : Cha) (hc : Valid c) (H : Cas × (Int × Bool × Bool × Unit) × Unit → Option (Bool × Unit)) (p : Int → List UInt8 → Int → Bool)
  (hH : ∀ (leaf : Int) (e : List UInt8) (v : Int), 0 ≤ leaf → leaf < c.1.length → 0 ≤ v → v ≤ 15 → H ((leaf, e, v, ()), outc c leaf e v, ()) = some (p leaf e v, ()))
include hc hH
theorem yIY (e : List UInt8) (leaf : Int) (h0 : 0 ≤ leaf) (h1 : leaf < c.1.length) (t7 : List (List UInt8)) (t8 t9 : Int) (a7 : List Int) (a8 a9 : Int) (a10 : Bool) (a11 a12 : Int) (a13 a14 : Cha) (q0 : Cha) (q1 : List Int) (q2 : Cas × (Int × Bool × Bool × Unit) × Unit → Option (Bool × Unit)) (q3 q10 : Cha) (q11 q12 : List Int) (q13 k2 : Cha) (k7 : List Int) (k8 k9 : Int) (k10 : Bool) (k11 k12 : Int) (k13 k14 k31 : Cha) (k32 : List Int) (k33 : Cas × (Int × Bool × Bool × Unit) × Unit → Option (Bool × Unit)) (k34 : Cha) (k36 : Cas × (Int × Bool × Bool × Unit) × Unit → Option (Bool × Unit)) (k41 : Cha) (k42 k430 : List Int) (k431 : Cha) :
    ∀ (m : Nat) (v : Int) (s : List Cas), 0 ≤ v → v + m ≤ 16 → s.length + m ≤ 1000000 →
    yy (fun i__ s__ => yFQ e t7 t8 t9 c a7 a8 a9 a10 a11 a12 a13 a14 leaf q0 q1 q2 q3 H q10 q11 q12 q13 k2 k7 k8 k9 k10 k11 k12 k13 k14 k31 k32 k33 k34 k36 k41 k42 k430 k431 i__ s__) (fun s__ => yIr e t7 t8 t9 c a7 a8 a9 a10 a11 a12 a13 a14 leaf q0 q1 q2 q3 H q10 q11 q12 q13 k2 k7 k8 k9 k10 k11 k12 k13 k14 k31 k32 k33 k34 k36 k41 k42 k430 k431 s__) m v s = some (.inr (s ++ y1s p leaf e m v))
  | 0, v, s, _, _, _ => by simp [yy, y1s, yIr]
  | m + 1, v, s, hv0, hv1, hs => by
    have hmem : memMax = 68719476736 := rfl
    have hb : yFQ e t7 t8 t9 c a7 a8 a9 a10 a11 a12 a13 a14 leaf q0 q1 q2 q3 H q10 q11 q12 q13 k2 k7 k8 k9 k10 k11 k12 k13 k14 k31 k32 k33 k34 k36 k41 k42 k430 k431 v s = some (.inr (s ++ (bif p leaf e v then [(leaf, e, v, ())] else []))) := by
      unfold yFQ
      rw [yH0 c hc leaf e v h0 h1 ⟨hv0, by omega⟩, Option.bind_some]
      show (Option.bind (H ((leaf, e, v, ()), outc c leaf e v, ())) _) = _
      rw [hH leaf e v h0 h1 hv0 (by omega), Option.bind_some]
      cases p leaf e v with
      | true => rw [cond_true, cond_true, bifT (y6 (show s.length + 1 ≤ memMax by omega))]
      | false => simp
    unfold yy
    simp only [hb, Option.bind_some]
    refine (yIY e leaf h0 h1 t7 t8 t9 a7 a8 a9 a10 a11 a12 a13 a14 q0 q1 q2 q3 q10 q11 q12 q13 k2 k7 k8 k9 k10 k11 k12 k13 k14 k31 k32 k33 k34 k36 k41 k42 k430 k431 m (v + 1) _ (by omega) (by omega) (by rw [List.length_append]; cases p leaf e v <;> simp <;> omega)).trans ?_
    rw [List.append_assoc]
    rfl
theorem yD4 (leaf : Int) (h0 : 0 ≤ leaf) (h1 : leaf < c.1.length) (t7 : List (List UInt8)) (a7 : List Int) (a8 a9 : Int) (a10 : Bool) (a11 a12 : Int) (a13 a14 : Cha) (q0 : Cha) (q1 : List Int) (q2 : Cas × (Int × Bool × Bool × Unit) × Unit → Option (Bool × Unit)) (q3 q10 : Cha) (q11 q12 : List Int) (q13 k2 : Cha) (k7 : List Int) (k8 k9 : Int) (k10 : Bool) (k11 k12 : Int) (k13 k14 k31 : Cha) (k32 : List Int) (k33 : Cas × (Int × Bool × Bool × Unit) × Unit → Option (Bool × Unit)) (k34 : Cha) (k36 : Cas × (Int × Bool × Bool × Unit) × Unit → Option (Bool × Unit)) (k41 : Cha) (k42 k430 : List Int) (k431 : Cha) :
    ∀ (l : List (List UInt8)) (j : Int) (s : List Cas), s.length + 16 * l.length ≤ 1000000 →
    yH (fun i__ e__ s__ => yEm t7 c a7 a8 a9 a10 a11 a12 a13 a14 leaf q0 q1 q2 q3 H q10 q11 q12 q13 k2 k7 k8 k9 k10 k11 k12 k13 k14 k31 k32 k33 k34 k36 k41 k42 k430 k431 i__ e__ s__) (fun s__ => yIc t7 c a7 a8 a9 a10 a11 a12 a13 a14 leaf q0 q1 q2 q3 H q10 q11 q12 q13 k2 k7 k8 k9 k10 k11 k12 k13 k14 k31 k32 k33 k34 k36 k41 k42 k430 k431 s__) j l s = some (.inr (s ++ y23 p leaf l))
  | [], j, s, _ => by simp [y35, y23, yIc]
  | e :: l, j, s, hs => by
    simp only [List.length_cons] at hs
    have hb : yEm t7 c a7 a8 a9 a10 a11 a12 a13 a14 leaf q0 q1 q2 q3 H q10 q11 q12 q13 k2 k7 k8 k9 k10 k11 k12 k13 k14 k31 k32 k33 k34 k36 k41 k42 k430 k431 j e s = some (.inr (s ++ y1s p leaf e 16 0)) := by
      unfold yEm
      rw [bifT (by rfl)]
      exact yIY c hc H p hH e leaf h0 h1 t7 (t7.length : Int) j a7 a8 a9 a10 a11 a12 a13 a14 q0 q1 q2 q3 q10 q11 q12 q13 k2 k7 k8 k9 k10 k11 k12 k13 k14 k31 k32 k33 k34 k36 k41 k42 k430 k431 16 0 s (by omega) (by omega) (by omega)
    have hl := y1k p leaf e 16 0
    rw [yf]
    simp only [hb, Option.bind_some]
    refine (yD4 leaf h0 h1 t7 a7 a8 a9 a10 a11 a12 a13 a14 q0 q1 q2 q3 q10 q11 q12 q13 k2 k7 k8 k9 k10 k11 k12 k13 k14 k31 k32 k33 k34 k36 k41 k42 k430 k431 l (j + 1) _ (by rw [List.length_append]; omega)).trans ?_
    rw [List.append_assoc]
    rfl
theorem yD3 (t7 : List Int) (q0 : Cha) (q1 : List Int) (q2 : Cas × (Int × Bool × Bool × Unit) × Unit → Option (Bool × Unit)) (q3 q10 : Cha) (q11 q12 : List Int) (q13 k0 : Cha) (k1 : List Int) (k2 : Cas × (Int × Bool × Bool × Unit) × Unit → Option (Bool × Unit)) (k3 : Cha) (k5 : Cas × (Int × Bool × Bool × Unit) × Unit → Option (Bool × Unit)) (k10 : Cha) (k11 k120 : List Int) (k121 : Cha) :
    ∀ (l : List Int) (j : Int) (s : List Cas), (∀ x ∈ l, 0 ≤ x ∧ x < c.1.length) → s.length + 768 * l.length ≤ 1000000 →
    yH (fun i__ e__ s__ => yG0 c t7 q0 q1 q2 q3 H q10 q11 q12 q13 k0 k1 k2 k3 k5 k10 k11 k120 k121 i__ e__ s__) (fun s__ => yGy c t7 q0 q1 q2 q3 H q10 q11 q12 q13 k0 k1 k2 k3 k5 k10 k11 k120 k121 s__) j l s = some (s ++ y11 p (evts c.2.1) l, ())
  | [], j, s, _, _ => by simp [y35, y11, yGy]
  | i :: l, j, s, hr, hs => by
    simp only [List.length_cons] at hs
    have h48 := hc.moves
    have hev := y4D c.2.1
    have hi := hr i (by simp)
    have hb : yG0 c t7 q0 q1 q2 q3 H q10 q11 q12 q13 k0 k1 k2 k3 k5 k10 k11 k120 k121 j i s = some (.inr (s ++ y23 p i (evts c.2.1))) := by
      unfold yG0
      rw [y3c c (by omega), Option.bind_some, bifT (y6 (show (evts c.2.1).length < lenMax by unfold lenMax; omega))]
      exact yD4 c hc H p hH i hi.1 hi.2 _ _ _ _ _ _ _ _ _ _ _ _ _ _ _ _ _ _ _ _ _ _ _ _ _ _ _ _ _ _ _ _ _ _ _ (evts c.2.1) 0 s (by omega)
    have hl := y3H p i (evts c.2.1)
    rw [yf]
    simp only [hb, Option.bind_some]
    refine (yD3 t7 q0 q1 q2 q3 q10 q11 q12 q13 k0 k1 k2 k3 k5 k10 k11 k120 k121 l (j + 1) _ (fun x hx => hr x (by simp [hx])) (by rw [List.length_append]; omega)).trans ?_
    rw [List.append_assoc]
    rfl
theorem yEI (ls : List Int) (hl : ls.length ≤ 100) (hr : ∀ x ∈ ls, 0 ≤ x ∧ x < c.1.length) : zT_M c ls H = some (y11 p (evts c.2.1) ls, ()) := by
  unfold zT_M
  rw [bifT (y6 (show ls.length < lenMax by unfold lenMax; omega))]
  have := yD3 c hc H p hH ls c ls H c c ls ls c c ls H c H c ls ls c ls 0 [] hr (by simp; omega)
  rw [List.nil_append] at this
  exact this
end
def y2z (c : Cha) (many : Bool) (leaf : Int) (e : List UInt8) (v : Int) : Bool := match y1j c leaf e v with
  | [] => !many
  | [_] => false
  | _ => many
theorem yNO (c : Cha) (hc : Valid c) (many : Bool) (ev : List (List UInt8)) (k : Nat) (e : List UInt8) (hk : ev[k]? = some e) (leaf : Int) (h0 : 0 ≤ leaf) (h1 : leaf < c.1.length) (v : Int) (s : List Cas) (hs : s.length ≤ 1000000) :
    y7p many c ev leaf (k : Int) v s = some (.inr (s ++ (bif y2z c many leaf e v then [(leaf, e, v, ())] else []))) := by
  have hmem : memMax = 68719476736 := rfl
  have hA : ∀ b, y34 many c ev leaf (k : Int) v s b = some (.inr (s ++ (bif b then [(leaf, e, v, ())] else []))) := by
    intro b
    unfold y34
    cases b with
    | true => rw [cond_true, cond_true, y1v, hk, Option.bind_some, bifT (y6 (show s.length + 1 ≤ memMax by omega))]
    | false => simp
  unfold y7p y2z
  rw [y1v, hk, Option.bind_some, yGG c hc leaf (e, v, ()) (by omega) h1, Option.bind_some]
  simp only [hA]
  generalize y1j c leaf e v = fs
  match fs with
  | [] => cases many <;> rfl
  | [t] => cases many <;> rfl
  | t :: u :: l =>
    simp only [List.length_cons]
    rw [bifT (y6 (by omega))]
    cases many with
    | true => rfl
    | false => rw [cond_false, bifF (beq_eq_false_iff_ne.2 (by omega))]
theorem yHN (c : Cha) (hc : Valid c) (many : Bool) (ev : List (List UInt8)) (k : Nat) (e : List UInt8) (hk : ev[k]? = some e) (hkl : k ≤ 100) (leaf : Int) (h0 : 0 ≤ leaf) (h1 : leaf < c.1.length) : ∀ (m : Nat) (v : Int) (s : List Cas), s.length + m ≤ 1000000 →
    yy (fun i__ s__ => y7p many c ev leaf (k : Int) i__ s__) (fun s__ => yE9 many c ev leaf (k : Int) s__) m v s = some (.inr ((k : Int) + 1, s ++ y1s (y2z c many) leaf e m v))
  | 0, v, s, _ => by
    show some (Sum.inr (IntKind.i64.wrap ((k : Int) + 1), s)) = _
    rw [yB0 (by omega) (by omega)]
    simp [y1s]
  | m + 1, v, s, hs => by
    unfold yy
    simp only [yNO c hc many ev k e hk leaf h0 h1 v s (by omega), Option.bind_some]
    refine (yHN c hc many ev k e hk hkl leaf h0 h1 m (v + 1) _ (by rw [List.length_append]; cases y2z c many leaf e v <;> simp <;> omega)).trans ?_
    rw [List.append_assoc]
    rfl
theorem yDd (c : Cha) (hc : Valid c) (many : Bool) (ev : List (List UInt8)) (hev : ev.length ≤ 48) (i : Nat) (st : Sta) (hi : c.1[i]? = some st) (hlf : (st.2.2.1 == -1) = true) : ∀ (l done : List (List UInt8)) (r : Nat) (s : List Cas), ev = done ++ l → l.length < r → s.length + 16 * l.length ≤ 1000000 →
    y1N (fun s__ => y3x many c ev (i : Int) s__.1 s__.2) r ((done.length : Int), s) = some (.inr (s ++ y23 (y2z c many) (i : Int) l))
  | l, done, 0, s, _, hr, _ => by omega
  | [], done, r + 1, s, hx, hr, hs => by
    rw [List.append_nil] at hx
    have hb : y3x many c ev (i : Int) (done.length : Int) s = some (.inl (.inr s)) := by
      unfold y3x
      rw [y7B c i st hi, Option.bind_some, hlf, cond_true, bifF (yG (by rw [hx]; omega))]
    unfold y1N
    simp only [hb, Option.bind_some]
    simp [y23]
  | e :: l, done, r + 1, s, hx, hr, hs => by
    have hi2 := (List.getElem?_eq_some_iff.1 hi).1
    have hk : ev[done.length]? = some e := by rw [hx]; simp
    have hkl := (List.getElem?_eq_some_iff.1 hk).1
    simp only [List.length_cons] at hr hs
    have hb : y3x many c ev (i : Int) (done.length : Int) s = some (.inr ((done.length : Int) + 1, s ++ y1s (y2z c many) (i : Int) e 16 0)) := by
      unfold y3x
      rw [y7B c i st hi, Option.bind_some, hlf, cond_true, bifT (y6 (by omega)), bifT (by rfl)]
      exact yHN c hc many ev done.length e hk (by omega) (i : Int) (by omega) (by omega) 16 0 s (by omega)
    have hl := y1k (y2z c many) (i : Int) e 16 0
    unfold y1N
    simp only [hb, Option.bind_some]
    have ih := yDd c hc many ev hev i st hi hlf l (done ++ [e]) r (s ++ y1s (y2z c many) (i : Int) e 16 0) (by rw [hx]; simp) (by omega) (by rw [List.length_append]; omega)
    simp only [List.length_append, List.length_cons, List.length_nil] at ih
    refine Eq.trans ih ?_
    rw [List.append_assoc]
    rfl
theorem y95 (c : Cha) (hc : Valid c) (many : Bool) (ev : List (List UInt8)) (hev : ev.length ≤ 48) : ∀ (l done : List Sta) (s : List Cas), c.1 = done ++ l → s.length + 768 * l.length ≤ 1000000 →
    yy (fun i__ s__ => y5g many c ev i__ s__) (fun s__ => yAP many c ev s__) l.length (done.length : Int) s = some (s ++ y11 (y2z c many) ev (y0c done.length l), ())
  | [], done, s, _, _ => by simp [yy, y0c, y11, yAP]
  | st :: l, done, s, hx, hs => by
    have hi : c.1[done.length]? = some st := by rw [hx]; simp
    simp only [List.length_cons] at hs
    rw [List.length_cons]
    have hW : ev.length < wMax := by unfold wMax; omega
    cases hlf : (st.2.2.1 == -1) with
    | true =>
      have hb : y5g many c ev (done.length : Int) s = some (.inr (s ++ y23 (y2z c many) (done.length : Int) ev)) := by
        unfold y5g
        exact yDd c hc many ev hev done.length st hi hlf ev [] wMax s rfl hW (by omega)
      have hl := y3H (y2z c many) (done.length : Int) ev
      unfold yy
      simp only [hb, Option.bind_some]
      have ih := y95 c hc many ev hev l (done ++ [st]) (s ++ y23 (y2z c many) (done.length : Int) ev) (by rw [hx]; simp) (by rw [List.length_append]; omega)
      simp only [List.length_append, List.length_cons, List.length_nil] at ih
      refine Eq.trans ih ?_
      have hF : y0c (done.length : Int) (st :: l) = (done.length : Int) :: y0c ((done.length : Int) + 1) l := by
        show (if (st.2.2.1 == -1) = true then [(done.length : Int)] else []) ++ y0c ((done.length : Int) + 1) l = _
        rw [if_pos hlf]
        rfl
      rw [hF, List.append_assoc]
      rfl
    | false =>
      have hb2 : y3x many c ev (done.length : Int) 0 s = some (.inl (.inr s)) := by
        unfold y3x
        rw [y7B c done.length st hi, Option.bind_some, hlf, cond_false]
      have hb : y5g many c ev (done.length : Int) s = some (.inr s) := by
        unfold y5g
        generalize hWW : wMax = W at hW
        cases W with
        | zero => omega
        | succ W =>
          unfold y1N
          simp only [hb2, Option.bind_some]
      unfold yy
      simp only [hb, Option.bind_some]
      have ih := y95 c hc many ev hev l (done ++ [st]) s (by rw [hx]; simp) (by omega)
      simp only [List.length_append, List.length_cons, List.length_nil] at ih
      refine Eq.trans ih ?_
      have hF : y0c (done.length : Int) (st :: l) = y0c ((done.length : Int) + 1) l := by
        show (if (st.2.2.1 == -1) = true then [(done.length : Int)] else []) ++ y0c ((done.length : Int) + 1) l = _
        rw [if_neg (by rw [hlf]; simp)]
        rfl
      rw [hF]
      rfl
theorem yHS (c : Cha) (hc : Valid c) (many : Bool) : yCf c many = some (y11 (y2z c many) (evts c.2.1) (y0c 0 c.1), ()) := by
  have h48 := hc.moves
  have h16 := hc.few
  have hev := y4D c.2.1
  unfold yCf
  rw [y8Z c (by omega), Option.bind_some, bifT (y6 (show (c.1.length : Int) ≤ 9223372036854775807 by omega)), show ((c.1.length : Int) - 0).toNat = c.1.length by omega]
  have := y95 c hc many (evts c.2.1) (by omega) c.1 [] [] rfl (by simp; omega)
  rw [List.nil_append] at this
  exact this
end Go.Tw
end
section
set_option linter.all false
set_option maxRecDepth 100000
namespace Go.Tw
open Go.Vx Go.Vx.B Go.Proofs
def RS (c : Cha) : List Int := y2R (lvs (WS c))
theorem yCz (c : Cha) (hc : Valid c) (x : Int) (h : x ∈ RS c) : 0 ≤ x ∧ x < c.1.length := by
  have := (y0I _).mem_iff.1 h
  obtain ⟨p, hp, rfl⟩ := List.mem_map.1 this
  exact (yBU c hc).rg p hp
theorem y7K (c : Cha) (hc : Valid c) : (RS c).length ≤ 16 := by
  have := (y0I (lvs (WS c))).length_eq
  have h2 := (yBU c hc).few hc
  unfold RS
  rw [this, List.length_map]
  exact h2
theorem yAM (c : Cha) (hc : Valid c) : zM_M c = some (RS c, ()) := by
  have hmem : memMax = 68719476736 := rfl
  have hf := (yBU c hc).few hc
  unfold zM_M
  rw [yDU c hc, Option.bind_some, bifT (y6 (show (WS c).length < lenMax by unfold lenMax; omega))]
  refine (y1b (fun p : Pth => p.1) (WS c) 0 [] (by simp; omega) fun i e s he hs => ?_).trans ?_
  · unfold yJC
    rw [bifT (y6 hs)]
    rfl
  · rw [List.nil_append]
    unfold yJ7
    rw [bifT (y6 (show ((WS c).map fun p => p.1).length ≤ memMax by rw [List.length_map]; omega))]
    rfl
theorem yHO (c : Cha) (hc : Sh c) : zt_M c = some (if yQ c = 0 then (RS c, 0, ()) else ([], yQ c, ())) := by
  unfold zt_M zt_m
  rw [gck c hc, Option.bind_some]
  by_cases h : yQ c = 0
  · rw [if_pos h, bifF (show ((yQ c, ()).1 != 0) = false by simpa using h), yAM c (y0i c h)]
    rfl
  · rw [if_neg h, bifT (show ((yQ c, ()).1 != 0) = true by simpa using h)]
def mvs (c : Cha) (i : Int) : Bool := match c.1[i.toNat]? with
  | some s => s.2.2.2.1
  | none => false
def y9A (c : Cha) (leaf : Int) (e : List UInt8) (v : Int) : Bool := (stp c leaf e v).2 == 0 && mvs c (stp c leaf e v).1
def y0X (c : Cha) (leaf : Int) (e : List UInt8) (v : Int) : Bool := (yP .i64 .and v 1 != 0) && y9A c leaf e v
theorem yBx (c : Cha) (hc : Sh c) : yC7 c = some (if yQ c = 0 then (y11 (y0X c) (evts c.2.1) (RS c), 0, ()) else ([], yQ c, ())) := by
  unfold yC7 yIz
  rw [gck c hc, Option.bind_some]
  by_cases h : yQ c = 0
  · have hv := y0i c h
    have hl := y7K c hv
    have hH : ∀ (leaf : Int) (e : List UInt8) (v : Int), 0 ≤ leaf → leaf < c.1.length → 0 ≤ v → v ≤ 15 → (fun (x : Cas × (Int × Bool × Bool × Unit) × Unit) => zr_M x.fst x.snd.fst c) ((leaf, e, v, ()), outc c leaf e v, ()) = some (y0X c leaf e v, ()) := by
      intro leaf e v h0 h1 hv0 hv1
      show zr_M (leaf, e, v, ()) (outc c leaf e v) c = _
      unfold zr_M zr_m y0X y9A
      simp only
      generalize (yP .i64 .and v 1 != 0) = q
      cases q with
      | false => rfl
      | true =>
        rw [cond_true, Bool.true_and]
        have hsl := y91 c hv leaf e v h0 h1
        have hst : stp c leaf e v = match y1j c leaf e v with | [] => (leaf, 0) | [t] => (entr c t.2.2.1, 0) | _ => (0, 30) := rfl
        unfold outc
        revert hst hsl
        generalize stp c leaf e v = y
        generalize y1j c leaf e v = fs
        have fin : ∀ x : Int, 0 ≤ x ∧ x < c.1.length → (Option.bind (idx c.1 x) fun (v0 : Sta) => some (v0.2.2.2.1, ())) = some (mvs c x, ()) := by
          intro x hx
          have hlt : x.toNat < c.1.length := by omega
          have hg : c.1[x.toNat]? = some c.1[x.toNat] := List.getElem?_eq_getElem hlt
          unfold mvs
          rw [y9J _ hx.1, hg]
          rfl
        match fs with
        | [] => intro hsl hst; subst hst; exact fin leaf ⟨h0, h1⟩
        | [t] => intro hsl hst; subst hst; exact fin _ (hsl rfl)
        | t :: u :: l => intro hsl hst; subst hst; rfl
    rw [if_pos h, bifF (show ((yQ c, ()).1 != 0) = false by simpa using h), yAM c hv, Option.bind_some, yEI c hv _ (y0X c) hH _ (by show (RS c).length ≤ 100; omega) (fun x hx => yCz c hv x hx)]
    rfl
  · rw [if_neg h, bifT (show ((yQ c, ()).1 != 0) = true by simpa using h)]
def yEl (p : Int → List UInt8 → Int → Bool) (leaf : Int) (e : List UInt8) : Nat → Int → List Cas
  | 0, _ => []
  | m + 1, v => (bif p leaf e v then [(leaf, e, v, ())] else []) ++ yEl p leaf e m (v + 2)
theorem yIe : ∀ v : Fin 16, (yP .i64 .and (v.val : Int) 1 != 0) = (v.val % 2 == 1) := by decide +kernel
theorem yDz (c : Cha) (leaf : Int) (e : List UInt8) : ∀ (k : Nat) (v : Nat), v + 2 * k = 16 → y1s (y0X c) leaf e (2 * k) (v : Int) = yEl (y9A c) leaf e k ((v : Int) + 1)
  | 0, v, h => rfl
  | k + 1, v, h => by
    have h1 := yIe ⟨v, by omega⟩
    have h2 := yIe ⟨v + 1, by omega⟩
    simp only at h1 h2
    have e1 : y0X c leaf e (v : Int) = false := by
      unfold y0X
      rw [h1, show (v % 2 == 1) = false by simp; omega, Bool.false_and]
    have e2 : y0X c leaf e ((v : Int) + 1) = y9A c leaf e ((v : Int) + 1) := by
      unfold y0X
      rw [show (v : Int) + 1 = ((v + 1 : Nat) : Int) by omega, h2, show ((v + 1) % 2 == 1) = true by simp; omega, Bool.true_and]
    have ih := yDz c leaf e k (v + 2) (by omega)
    rw [show 2 * (k + 1) = 2 * k + 1 + 1 by omega]
    show (bif y0X c leaf e (v : Int) then [(leaf, e, (v : Int), ())] else []) ++ ((bif y0X c leaf e ((v : Int) + 1) then [(leaf, e, (v : Int) + 1, ())] else []) ++ y1s (y0X c) leaf e (2 * k) ((v : Int) + 1 + 1)) = (bif y9A c leaf e ((v : Int) + 1) then [(leaf, e, (v : Int) + 1, ())] else []) ++ yEl (y9A c) leaf e k ((v : Int) + 1 + 2)
    rw [e1, e2, cond_false, List.nil_append, show (v : Int) + 1 + 1 = ((v + 2 : Nat) : Int) by omega, ih, show ((v + 2 : Nat) : Int) + 1 = (v : Int) + 1 + 2 by omega]
theorem y5f (p : Int → List UInt8 → Int → Bool) (leaf : Int) (e : List UInt8) : ∀ (m : Nat) (v : Int), (yEl p leaf e m v).length ≤ m
  | 0, v => Nat.le_refl _
  | m + 1, v => by
    have := y5f p leaf e m (v + 2)
    unfold yEl
    rw [List.length_append]
    cases p leaf e v <;> simp <;> omega
end Go.Tw
end
