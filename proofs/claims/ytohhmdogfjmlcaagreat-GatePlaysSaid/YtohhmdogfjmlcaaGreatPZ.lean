import Derived.Test.YtohhmdogfjmlcaaGreatPY
import Derived.Test.YtohhmdogfjmlcaaGreatB14
section
set_option linter.all false
set_option maxRecDepth 100000
namespace Go.Tw
open Go.Vx Go.Vx.B Go.Proofs
def foreign (c : Cha) (s : Int) : Bool := decide (s < 0) || decide ((c.1.length : Int) ≤ s)
def lstE (c : Cha) (l : List Int) : Int := if 16 < l.length then 5 else bif l.any (foreign c) then 10 else 0
theorem rlst_eq (c : Cha) (l : List Int) : zl_M c l = some (lstE c l, ()) := by
  unfold zl_M lstE
  by_cases h : 16 < l.length
  · rw [bifT (dec_true (show (l.length : Int) > 16 by omega)), if_pos h]
  · rw [bifF (dec_false (show ¬ (l.length : Int) > 16 by omega)), if_neg h, bifT (dec_true (show l.length < lenMax by unfold lenMax; omega))]
    have := loopL_findI (body := fun i__ e__ s__ => zl_b0 l c i__ e__) (fin := fun s__ => zl_f0 l c) l (fun s => if foreign c s = true then some ((10 : Int), ()) else none) l [] rfl (fun i e hi => by
      unfold zl_b0 foreign
      rw [idx_nat, hi]
      simp only [Option.bind_some]
      rw [show decide (e ≥ (c.1.length : Int)) = decide ((c.1.length : Int) ≤ e) from rfl]
      cases decide (e < 0) <;> cases decide ((c.1.length : Int) ≤ e) <;> rfl)
    refine this.trans ?_
    rw [any_find]
    cases l.any (foreign c) <;> rfl
theorem iff_loop (c : Cha) (xs : List Int) : ∀ (l : List Int) (i : Int), 0 ≤ i → ∃ k, loopL (fun i__ e__ s__ => zG_b0 xs (fun (x : Int × Unit) => zI_M x.fst c) i__ e__) (fun s__ => zG_f0 xs (fun (x : Int × Unit) => zI_M x.fst c)) i l () = some (k, ()) ∧ decide (k ≥ 0) = l.any (foreign c)
  | [], i, _ => ⟨-1, rfl, rfl⟩
  | e :: l, i, hi => by
    have hb : zG_b0 xs (fun (x : Int × Unit) => zI_M x.fst c) i e = some (bif foreign c e then .inl (i, ()) else .inr ()) := by
      unfold zG_b0
      show (Option.bind (some (zI e c)) _) = _
      unfold zI foreign
      rw [show decide (e ≥ (c.1.length : Int)) = decide ((c.1.length : Int) ≤ e) from rfl]
      cases decide (e < 0) <;> cases decide ((c.1.length : Int) ≤ e) <;> rfl
    rw [loopL_cons, hb, List.any_cons]
    cases h : foreign c e with
    | true => exact ⟨i, rfl, by rw [Bool.true_or]; exact dec_true hi⟩
    | false =>
      obtain ⟨k, h1, h2⟩ := iff_loop c xs l (i + 1) (by omega)
      exact ⟨k, h1, by rw [h2]; simp⟩
theorem glst_eq (c : Cha) (l : List Int) (h : l.length ≤ 1000) : zP_M c l = some (lstE c l, ()) := by
  unfold zP_M zP_m zC_M zC_m zG_M
  obtain ⟨k, h1, h2⟩ := iff_loop c l l 0 (by omega)
  rw [bifT (dec_true (show l.length < lenMax by unfold lenMax; omega)), h1]
  simp only [Option.bind_some, when_eq]
  rw [gfirst_eq _ (by simp [lenMax]), h2]
  simp only [Option.bind_some, firstE_cons, firstE_nil, firstOf_zero]
  unfold lstE
  by_cases h : 16 < l.length
  · rw [dec_true (show (l.length : Int) > 16 by omega), if_pos h]; rfl
  · rw [dec_false (show ¬ (l.length : Int) > 16 by omega), if_neg h]; rfl
end Go.Tw
end
section
set_option linter.all false
set_option maxRecDepth 100000
namespace Go.Tw
open Go.Vx Go.Vx.B Go.Proofs
def failE (n : Int) (f : Fai) : Int :=
  if f.1 = noneW then (if f.2.1 = 0 ∧ f.2.2.1 = 0 ∧ f.2.2.2.1 = 0 then 0 else 1)
  else if f.1 = lostW then (if f.2.2.1 = 0 ∧ f.2.2.2.1 = 0 then ckR f.2.1 0 (n - 1) else 1)
  else if f.1 = stuckW then firstOf (ckR f.2.1 0 (n - 1)) (firstOf (ckR f.2.2.1 0 3) (ckR f.2.2.2.1 0 1))
  else 13
theorem eqV_fai (x y : Fai) : eqV (.pair .str (.pair (.int .i64) (.pair (.int .i64) (.pair (.int .i64) .unit)))) x y = decide (x.1 = y.1 ∧ x.2.1 = y.2.1 ∧ x.2.2.1 = y.2.2.1 ∧ x.2.2.2.1 = y.2.2.2.1) := by
  show ((x.1 : List UInt8) == y.1 && ((x.2.1 : Int) == y.2.1 && ((x.2.2.1 : Int) == y.2.2.1 && ((x.2.2.2.1 : Int) == y.2.2.2.1 && true)))) = _
  by_cases h1 : x.1 = y.1 <;> by_cases h2 : x.2.1 = y.2.1 <;> by_cases h3 : x.2.2.1 = y.2.2.1 <;> by_cases h4 : x.2.2.2.1 = y.2.2.2.1 <;> simp [h1, h2, h3, h4]
theorem rfail_eq (n : Int) (f : Fai) (hn : 0 ≤ n ∧ n ≤ 1000) : zX_M n f = some (failE n f, ()) := by
  have hw : IntKind.i64.wrap (n - 1) = n - 1 := wrapS (by omega) (by omega)
  unfold zX_M zX_m failE
  rw [show ([110, 111, 110, 101] : List UInt8) = noneW from rfl, show ([108, 111, 115, 116] : List UInt8) = lostW from rfl, show ([115, 116, 117, 99, 107] : List UInt8) = stuckW from rfl]
  by_cases h1 : f.1 = noneW
  · rw [bifT (show (f.1 == noneW) = true by simpa using h1), if_pos h1, eqV_fai]
    simp only [h1, true_and]
    unfold z0v
    by_cases h : f.2.1 = 0 ∧ f.2.2.1 = 0 ∧ f.2.2.2.1 = 0
    · rw [if_pos h, dec_true h]; rfl
    · rw [if_neg h, dec_false h]; rfl
  rw [bifF (show (f.1 == noneW) = false by simpa using h1), if_neg h1]
  by_cases h2 : f.1 = lostW
  · rw [bifT (show (f.1 == lostW) = true by simpa using h2), if_pos h2]
    unfold z0v
    by_cases h : f.2.2.1 = 0
    · rw [bifF (show (f.2.2.1 != 0) = false by simpa using h)]
      simp only [checkRange_eq, hw]
      rw [rfirst_eq _ (by simp [lenMax]), Option.bind_some]
      simp only [firstE_cons, firstE_nil, firstOf_zero]
      by_cases h4 : f.2.2.2.1 = 0
      · rw [if_pos ⟨h, h4⟩, show (f.2.2.2.1 != 0) = false by simpa using h4]; rfl
      · rw [if_neg (fun x => h4 x.2), show (f.2.2.2.1 != 0) = true by simpa using h4]; rfl
    · rw [bifT (show (f.2.2.1 != 0) = true by simpa using h), if_neg (fun x => h x.1)]; rfl
  rw [bifF (show (f.1 == lostW) = false by simpa using h2), if_neg h2]
  by_cases h3 : f.1 = stuckW
  · rw [bifT (show (f.1 == stuckW) = true by simpa using h3), if_pos h3]
    simp only [checkRange_eq, hw]
    rw [rfirst_eq _ (by simp [lenMax]), Option.bind_some]
    simp only [firstE_cons, firstE_nil, firstOf_zero]
  · rw [bifF (show (f.1 == stuckW) = false by simpa using h3), if_neg h3]
theorem kind_eq (f : Fai) : ∃ k1 k2, zg_M f = some ((if f.1 = noneW ∨ f.1 = lostW ∨ f.1 = stuckW then f.1 else [], k1, k2, ()), decide (f.1 = noneW ∨ f.1 = lostW ∨ f.1 = stuckW), ()) ∧
    (f.1 = noneW → (∀ g, k1 (g, ()) = some ((g.1, 0, 0, 0, ()), ())) ∧ ∀ g i x, k2 (g, i, x, ()) = some (x, true, ())) ∧
    (f.1 = lostW → (∀ g, k1 (g, ()) = some ((g.1, g.2.1, 0, 0, ()), ())) ∧ ∀ g i x, k2 (g, i, x, ()) = some (x, i != g.2.1, ())) ∧
    (f.1 = stuckW → (∀ g, k1 (g, ()) = some (g, ())) ∧ ∀ g i x, k2 (g, i, x, ()) = zf_M g i x) := by
  have hn : noneW ≠ lostW := by decide
  have hs : noneW ≠ stuckW := by decide
  have hl : lostW ≠ stuckW := by decide
  have hb (k : Int) (v : List UInt8 × (Fai × Unit → Option (Fai × Unit)) × (Fai × Int × Inp × Unit → Option (Inp × Bool × Unit)) × Unit) (h : idx z0n.1 k = some v) :
      zg_b0 f z0n.1 [] k = some (bif v.1 == f.1 then .inl ((v.1, v.2.1, v.2.2.1, ()), true, ()) else .inr ()) := by
    unfold zg_b0
    rw [h, Option.bind_some]
    cases (v.1 == f.1) <;> rfl
  have h0 := hb 0 _ rfl
  have h1 := hb 1 _ rfl
  have h2 := hb 2 _ rfl
  have hM : zg_M f = loopN (fun i__ s__ => zg_b0 f z0n.1 [] i__) (fun s__ => zg_f0 f z0n.1 []) 3 0 () := by
    unfold zg_M
    rw [bifT (by rfl)]
    rfl
  rw [hM]
  unfold loopN
  simp only [h0, Option.bind_some]
  by_cases c1 : f.1 = noneW
  · refine ⟨fun x => z0I_M x.1, fun x => z0J_M x.1 x.2.1 x.2.2.1, ?_, fun _ => ⟨fun g => ?_, fun g i x => ?_⟩, fun h => absurd (c1.symm.trans h) hn, fun h => absurd (c1.symm.trans h) hs⟩
    · rw [if_pos (.inl c1), dec_true (.inl c1), c1]; rfl
    · rfl
    · rfl
  have e1 : (([110, 111, 110, 101] : List UInt8) == f.1) = false := by
    rw [beq_eq_false_iff_ne]; exact fun h => c1 h.symm
  simp only [e1, cond_false]
  unfold loopN
  simp only [Int.zero_add, h1, Option.bind_some]
  by_cases c2 : f.1 = lostW
  · refine ⟨fun x => z0K_M x.1, fun x => z0L_M x.1 x.2.1 x.2.2.1, ?_, fun h => absurd h c1, fun _ => ⟨fun g => ?_, fun g i x => ?_⟩, fun h => absurd (c2.symm.trans h) hl⟩
    · rw [if_pos (.inr (.inl c2)), dec_true (.inr (.inl c2)), c2]; rfl
    · rfl
    · rfl
  have e2 : (([108, 111, 115, 116] : List UInt8) == f.1) = false := by
    rw [beq_eq_false_iff_ne]; exact fun h => c2 h.symm
  simp only [e2, cond_false]
  unfold loopN
  rw [show (1 : Int) + 1 = 2 from rfl]
  simp only [h2, Option.bind_some]
  by_cases c3 : f.1 = stuckW
  · refine ⟨fun x => z0M_M x.1, fun x => zf_M x.1 x.2.1 x.2.2.1, ?_, fun h => absurd h c1, fun h => absurd h c2, fun _ => ⟨fun g => ?_, fun g i x => ?_⟩⟩
    · rw [if_pos (.inr (.inr c3)), dec_true (.inr (.inr c3)), c3]; rfl
    · rfl
    · rfl
  have e3 : (([115, 116, 117, 99, 107] : List UInt8) == f.1) = false := by
    rw [beq_eq_false_iff_ne]; exact fun h => c3 h.symm
  simp only [e3, cond_false]
  have hno : ¬ (f.1 = noneW ∨ f.1 = lostW ∨ f.1 = stuckW) := by
    rintro (h | h | h)
    · exact c1 h
    · exact c2 h
    · exact c3 h
  refine ⟨fun _ => none, fun _ => none, ?_, fun h => absurd h c1, fun h => absurd h c2, fun h => absurd h c3⟩
  rw [if_neg hno, dec_false hno]
  rfl
theorem gfail_eq (n : Int) (f : Fai) (hn : 0 ≤ n ∧ n ≤ 1000) : zW_M f n = some (failE n f, ()) := by
  have hw : IntKind.i64.wrap (n - 1) = n - 1 := wrapS (by omega) (by omega)
  have hn1 : lostW ≠ noneW := by decide
  have hs1 : stuckW ≠ noneW := by decide
  have hl1 : stuckW ≠ lostW := by decide
  obtain ⟨k1, k2, hk, g1, g2, g3⟩ := kind_eq f
  unfold zW_M zW_m failE
  rw [hk, Option.bind_some, show ([110, 111, 110, 101] : List UInt8) = noneW from rfl]
  have fin : ∀ z : Int, (Option.bind (z0m_M [(z0c f.2.1 0 (IntKind.i64.wrap (n - 1))).fst, (z0c f.2.2.1 0 3).fst, (z0c f.2.2.2.1 0 1).fst]) fun (v2 : Int × Unit) => some (v2.1, ())) = some (firstOf (ckR f.2.1 0 (n - 1)) (firstOf (ckR f.2.2.1 0 3) (ckR f.2.2.2.1 0 1)), ()) := by
    intro _
    simp only [within_eq, hw]
    rw [gfirst_eq _ (by simp [lenMax]), Option.bind_some]
    simp only [firstE_cons, firstE_nil, firstOf_zero]
  by_cases h1 : f.1 = noneW
  · rw [dec_true (.inl h1), bifF (by rfl)]
    simp only
    rw [(g1 h1).1 f, Option.bind_some, eqV_fai, if_pos h1]
    simp only [true_and]
    by_cases h : f.2.1 = 0 ∧ f.2.2.1 = 0 ∧ f.2.2.2.1 = 0
    · rw [if_pos h, dec_true ⟨h.1.symm, h.2.1.symm, h.2.2.symm⟩, bifF (by rfl), bifT (show (f.1 == noneW) = true by simpa using h1)]
    · rw [if_neg h, dec_false (fun x => h ⟨x.1.symm, x.2.1.symm, x.2.2.symm⟩), bifT (by rfl)]
  rw [if_neg h1]
  by_cases h2 : f.1 = lostW
  · rw [dec_true (.inr (.inl h2)), bifF (by rfl)]
    simp only
    rw [(g2 h2).1 f, Option.bind_some, eqV_fai, if_pos h2]
    simp only [true_and]
    by_cases h : f.2.2.1 = 0 ∧ f.2.2.2.1 = 0
    · rw [if_pos h, dec_true ⟨h.1.symm, h.2.symm⟩, bifF (by rfl), bifF (show (f.1 == noneW) = false by simpa using h1), fin 0, h.1, h.2]
      show some (firstOf (ckR f.2.1 0 (n - 1)) (firstOf (ckR 0 0 3) (ckR 0 0 1)), ()) = _
      rw [show ckR 0 0 3 = 0 from rfl, show ckR 0 0 1 = 0 from rfl, firstOf_z, firstOf_zero]
    · rw [if_neg h, dec_false (fun x => h ⟨x.1.symm, x.2.symm⟩), bifT (by rfl)]
  rw [if_neg h2]
  by_cases h3 : f.1 = stuckW
  · rw [dec_true (.inr (.inr h3)), bifF (by rfl)]
    simp only
    rw [(g3 h3).1 f, Option.bind_some, eqV_fai, if_pos h3, dec_true ⟨rfl, rfl, rfl, rfl⟩, bifF (by rfl), bifF (show (f.1 == noneW) = false by simpa using h1), fin 0]
  · have hno : ¬ (f.1 = noneW ∨ f.1 = lostW ∨ f.1 = stuckW) := by
      rintro (h | h | h)
      · exact h1 h
      · exact h2 h
      · exact h3 h
    rw [dec_false hno, bifT (by rfl), if_neg h3]
def setB (v b w : Int) : Int := bitsOp .i64 .or (bitsOp .i64 .andNot v (IntKind.i64.wrap (1 * 2 ^ min b.toNat IntKind.i64.bits))) (IntKind.i64.wrap (w * 2 ^ min b.toNat IntKind.i64.bits))
def pw (b : Nat) : Int := if b = 0 then 1 else if b = 1 then 2 else if b = 2 then 4 else 8
theorem setB_range : ∀ (v : Fin 16) (b : Fin 4) (w : Fin 2), (0 ≤ setB v.val b.val w.val ∧ setB v.val b.val w.val ≤ 15) ∧
    setB v.val b.val w.val = if w.val = 0 then IntKind.i64.wrap (bitsOp .i64 .or v.val (pw b.val) - pw b.val) else bitsOp .i64 .or v.val (pw b.val) := by
  decide +kernel
def dF (f : Fai) (i : Int) (x : Inp) : Inp × Bool :=
  if f.1 = lostW then (x, i != f.2.1) else if f.1 = stuckW then (if f.2.1 ≤ i then ((x.1, setB x.2.1 f.2.2.1 f.2.2.2.1, ()), true) else (x, true)) else (x, true)
theorem dF_range (f : Fai) (n : Int) (h : failE n f = 0) (i : Int) (x : Inp) (hx : 0 ≤ x.2.1 ∧ x.2.1 ≤ 15) : 0 ≤ (dF f i x).1.2.1 ∧ (dF f i x).1.2.1 ≤ 15 := by
  have hn : stuckW ≠ noneW := by decide
  have hl : stuckW ≠ lostW := by decide
  unfold dF
  split
  · exact hx
  · split
    · rename_i h2 h3
      split
      · unfold failE at h
        rw [if_neg (by rw [h3]; exact hn), if_neg h2, if_pos h3] at h
        obtain ⟨_, h⟩ := firstOf_eq_zero.1 h
        obtain ⟨hb, hw⟩ := firstOf_eq_zero.1 h
        have hb := ckR_zero hb
        have hw := ckR_zero hw
        have := (setB_range ⟨x.2.1.toNat, by omega⟩ ⟨f.2.2.1.toNat, by omega⟩ ⟨f.2.2.2.1.toNat, by omega⟩).1
        simp only at this
        rw [Int.toNat_of_nonneg hx.1, Int.toNat_of_nonneg hb.1, Int.toNat_of_nonneg hw.1] at this
        exact this
      · exact hx
    · exact hx
theorem gplayF_eq (c : Cha) (hc : Valid c) (l : List Inp) (hl : l.length ≤ 1000) (hv : ∀ x ∈ l, 0 ≤ x.2.1 ∧ x.2.1 ≤ 15) (f : Fai) (n : Int) (hf : failE n f = 0) :
    zx_M c l f = some ((plays c (dF f) l 0 (entr c 0) []).1, (plays c (dF f) l 0 (entr c 0) []).2, ()) := by
  have hp := hc.pos
  have hlf := entr_leaf c hc 0 (by omega) (by omega)
  obtain ⟨k1, k2, hk, g1, g2, g3⟩ := kind_eq f
  have hn1 : lostW ≠ noneW := by decide
  have hs1 : stuckW ≠ noneW := by decide
  have hl1 : stuckW ≠ lostW := by decide
  have hd : ∀ (i : Int) (x : Inp), k2 (f, i, x, ()) = some ((dF f i x).1, (dF f i x).2, ()) := by
    intro i x
    unfold dF
    by_cases h1 : f.1 = noneW
    · rw [(g1 h1).2 f i x, if_neg (by rw [h1]; exact hn1.symm), if_neg (by rw [h1]; exact hs1.symm)]
    by_cases h2 : f.1 = lostW
    · rw [(g2 h2).2 f i x, if_pos h2]
    by_cases h3 : f.1 = stuckW
    · rw [(g3 h3).2 f i x, if_neg h2, if_pos h3]
      unfold failE at hf
      rw [if_neg h1, if_neg h2, if_pos h3] at hf
      obtain ⟨_, hf⟩ := firstOf_eq_zero.1 hf
      have hb := ckR_zero (firstOf_eq_zero.1 hf).1
      unfold zf_M zf_m
      by_cases hi : f.2.1 ≤ i
      · rw [if_pos hi, bifT (dec_true (show i ≥ f.2.1 from hi)), bifF (dec_false (by omega)), bifF (dec_false (by omega))]
        rfl
      · rw [if_neg hi, bifF (dec_false (show ¬ i ≥ f.2.1 from hi))]
    · unfold failE at hf
      rw [if_neg h1, if_neg h2, if_neg h3] at hf
      cases hf
  unfold zx_M
  rw [hk, Option.bind_some, genter_eq c hc 0 (by omega) (by omega), Option.bind_some, bifT (dec_true (show l.length < lenMax by unfold lenMax; omega))]
  exact gplay_loop c hc f l _ k1 k2 (dF f) l 0 (entr c 0) [] (by omega) hlf.1 hlf.2.1 (by simpa using hl) (fun i x _ hx => ⟨hd i x, fun _ => dF_range f n hf i x (hv x hx)⟩)
theorem bits_gen {β : Type} (fin : Int → Option β) : ∀ q : Nat, q ≤ 3 → loopN (fun (_ : Int) (y : Int) => (some (.inr (IntKind.i64.wrap (2 * y))) : Option (β ⊕ Int))) fin q 0 1 = fin (pw q) := by
  have w2 : IntKind.i64.wrap (2 * 1) = 2 := wrapS (by omega) (by omega)
  have w4 : IntKind.i64.wrap (2 * 2) = 4 := wrapS (by omega) (by omega)
  have w8 : IntKind.i64.wrap (2 * 4) = 8 := wrapS (by omega) (by omega)
  intro q hq
  match q, hq with
  | 0, _ => rfl
  | 1, _ => simp only [loopN, Option.bind_some, w2]; rfl
  | 2, _ => simp only [loopN, Option.bind_some, w2, w4]; rfl
  | 3, _ => simp only [loopN, Option.bind_some, w2, w4, w8]; rfl
theorem bit_loop (xs : List Inp) (c : Cha) (f : Fai) (leaf i : Int) (out : List Int) (e : List UInt8) (v : Int) (hb : 0 ≤ f.2.2.1 ∧ f.2.2.1 ≤ 3) :
    (bif decide (f.2.2.1 ≤ 9223372036854775807) then loopN (fun i__ s__ => z0s_b5 xs c f leaf i out e v i__ s__) (fun s__ => z0s_f5 xs c f leaf i out e v s__) (f.2.2.1 - 0).toNat 0 1 else none) = z0s_f5 xs c f leaf i out e v (pw f.2.2.1.toNat) := by
  rw [bifT (dec_true (by omega)), show (f.2.2.1 - 0).toNat = f.2.2.1.toNat by omega]
  exact bits_gen (z0s_f5 xs c f leaf i out e v) f.2.2.1.toNat (by omega)
theorem rplayF_eq (c : Cha) (hc : Valid c) (l : List Inp) (hl : l.length ≤ 1000) (hv : ∀ x ∈ l, 0 ≤ x.2.1 ∧ x.2.1 ≤ 15) (f : Fai) (n : Int) (hf : failE n f = 0) :
    z0s_M c l f = some ((plays c (dF f) l 0 (entr c 0) []).1, (plays c (dF f) l 0 (entr c 0) []).2, ()) := by
  have hp := hc.pos
  have hlf := entr_leaf c hc 0 (by omega) (by omega)
  have hs1 : stuckW ≠ noneW := by decide
  have hl1 : stuckW ≠ lostW := by decide
  unfold z0s_M
  rw [renter_eq c hc 0 (by omega) (by omega), Option.bind_some]
  refine rplay_loop c hc f l (dF f) hl (fun i x leaf out hx => ?_) l [] wMax (entr c 0) [] rfl hlf.1 hlf.2.1 rfl (by unfold wMax; omega)
  have hi := (List.getElem?_eq_some_iff.1 hx).1
  have hxr := hv x (List.mem_of_getElem? hx)
  unfold z0s_b1
  rw [bifT (dec_true (by omega)), idx_nat, hx, Option.bind_some, show ([115, 116, 117, 99, 107] : List UInt8) = stuckW from rfl]
  have h20 : ∀ (e : List UInt8) (v : Int), z0s_s20 out e v l c f leaf (i : Int) = z0s_s18 out e v l c f leaf (i : Int) (if f.1 = lostW then ((i : Int) != f.2.1) else true) := by
    intro e v
    unfold z0s_s20
    rw [show ([108, 111, 115, 116] : List UInt8) = lostW from rfl]
    by_cases h : f.1 = lostW
    · rw [if_pos h, show (f.1 == lostW) = true by simpa using h]; rfl
    · rw [if_neg h, show (f.1 == lostW) = false by simpa using h]; rfl
  have h6 (b : Bool) : z0s_s6 l c f leaf (i : Int) out x b = bif b then (bif decide (f.2.2.1 ≤ 9223372036854775807) then loopN (fun i__ s__ => z0s_b5 l c f leaf (i : Int) out x.1 x.2.1 i__ s__) (fun s__ => z0s_f5 l c f leaf (i : Int) out x.1 x.2.1 s__) (f.2.2.1 - 0).toNat 0 1 else none) else z0s_s20 out x.1 x.2.1 l c f leaf (i : Int) := rfl
  unfold dF
  by_cases h3 : f.1 = stuckW
  · have h2 : f.1 ≠ lostW := by rw [h3]; exact hl1
    have h1 : f.1 ≠ noneW := by rw [h3]; exact hs1
    rw [bifT (show (f.1 == stuckW) = true by simpa using h3), if_neg h2, if_pos h3, h6]
    by_cases hi2 : f.2.1 ≤ (i : Int)
    · unfold failE at hf
      rw [if_neg h1, if_neg h2, if_pos h3] at hf
      obtain ⟨_, hf⟩ := firstOf_eq_zero.1 hf
      have hb := ckR_zero (firstOf_eq_zero.1 hf).1
      have hw := ckR_zero (firstOf_eq_zero.1 hf).2
      have hset := (setB_range ⟨x.2.1.toNat, by omega⟩ ⟨f.2.2.1.toNat, by omega⟩ ⟨f.2.2.2.1.toNat, by omega⟩).2
      simp only at hset
      rw [Int.toNat_of_nonneg hxr.1, Int.toNat_of_nonneg hb.1, Int.toNat_of_nonneg hw.1] at hset
      rw [if_pos hi2, bifT (dec_true (show (i : Int) ≥ f.2.1 from hi2)), bit_loop l c f leaf (i : Int) out x.1 x.2.1 hb]
      unfold z0s_f5
      rw [h20, h20, if_neg h2]
      by_cases hz : f.2.2.2.1 = 0
      · rw [bifT (show (f.2.2.2.1 == 0) = true by simpa using hz), hset, if_pos (by omega)]
      · rw [bifF (show (f.2.2.2.1 == 0) = false by simpa using hz), hset, if_neg (by omega)]
    · rw [if_neg hi2, bifF (dec_false (show ¬ (i : Int) ≥ f.2.1 from hi2)), h20, if_neg h2]
  · rw [bifF (show (f.1 == stuckW) = false by simpa using h3), h6, cond_false, h20]
    by_cases h2 : f.1 = lostW
    · rw [if_pos h2, if_pos h2]
    · rw [if_neg h2, if_neg h2, if_neg h3]
end Go.Tw
end
section
set_option linter.all false
set_option maxRecDepth 100000
namespace Go.Tw
open Go.Vx Go.Vx.B Go.Proofs
abbrev Drl := Cha × List Inp × Goa × Unit
theorem plays_len (c : Cha) (d : Int → Inp → Inp × Bool) : ∀ (l : List Inp) (i leaf : Int) (out : List Int), (plays c d l i leaf out).2 = 0 → (plays c d l i leaf out).1.length = out.length + l.length
  | [], i, leaf, out, _ => rfl
  | x :: l, i, leaf, out, h => by
    unfold plays at h ⊢
    by_cases h1 : (d i x).2 = true
    · rw [if_pos h1] at h ⊢
      by_cases h2 : (stp c leaf (d i x).1.1 (d i x).1.2.1).2 = 0
      · rw [if_pos h2] at h ⊢
        rw [plays_len c d l _ _ _ h]
        simp
        omega
      · rw [if_neg h2] at h
        exact absurd h h2
    · rw [if_neg h1] at h ⊢
      rw [plays_len c d l _ _ _ h]
      simp
      omega
def goalE (c : Cha) (n : Int) (g : Goa) : Int := firstOf (lstE c g.1) (firstOf (lstE c g.2.1) (firstOf (ckR g.2.2.1 0 n) (ckR g.2.2.2.1 0 n)))
theorem rgoal_eq (c : Cha) (n : Int) (g : Goa) : z03_M c n g = some (goalE c n g, ()) := by
  unfold z03_M z03_m goalE
  rw [rlst_eq, Option.bind_some, rlst_eq, Option.bind_some]
  simp only [checkRange_eq]
  rw [rfirst_eq _ (by simp [lenMax]), Option.bind_some]
  simp only [firstE_cons, firstE_nil, firstOf_zero]
theorem ggoal_eq (c : Cha) (n : Int) (g : Goa) (h1 : g.1.length ≤ 1000) (h2 : g.2.1.length ≤ 1000) : zN_M c g n = some (goalE c n g, ()) := by
  unfold zN_M zN_m goalE
  rw [glst_eq c g.1 h1, Option.bind_some, glst_eq c g.2.1 h2, Option.bind_some]
  simp only [within_eq]
  rw [gfirst_eq _ (by simp [lenMax]), Option.bind_some]
  simp only [firstE_cons, firstE_nil, firstOf_zero]
abbrev playF (c : Cha) (l : List Inp) (f : Fai) : List Int × Int := plays c (dF f) l 0 (entr c 0) []
def srvL (g : Goa) (L : List Int) : Bool := g.1.contains (L.getD g.2.2.1.toNat 0) || (L.take (g.2.2.2.1.toNat + 1)).any fun x => g.2.1.contains x
def srv (c : Cha) (l : List Inp) (g : Goa) (f : Fai) : Bool × Int := if (playF c l f).2 = 0 then (srvL g (entr c 0 :: (playF c l f).1), 0) else (false, (playF c l f).2)
theorem cf_loop (F : Int × Unit → Option (Bool × Unit)) (q : Int → Bool) (hF : ∀ x, F (x, ()) = some (q x, ())) (xs : List Int) : ∀ (l : List Int) (i : Int), 0 ≤ i → ∃ k, loopL (fun i__ e__ s__ => zG_b0 xs F i__ e__) (fun s__ => zG_f0 xs F) i l () = some (k, ()) ∧ decide (k ≥ 0) = l.any q
  | [], i, _ => ⟨-1, rfl, rfl⟩
  | e :: l, i, hi => by
    have hb : zG_b0 xs F i e = some (bif q e then .inl (i, ()) else .inr ()) := by
      unfold zG_b0
      rw [hF, Option.bind_some]
      cases q e <;> rfl
    rw [loopL_cons, hb, List.any_cons]
    cases h : q e with
    | true => exact ⟨i, rfl, by rw [Bool.true_or]; exact dec_true hi⟩
    | false =>
      obtain ⟨k, h1, h2⟩ := cf_loop F q hF xs l (i + 1) (by omega)
      exact ⟨k, h1, by rw [h2]; simp⟩
theorem cf_eq (F : Int × Unit → Option (Bool × Unit)) (q : Int → Bool) (hF : ∀ x, F (x, ()) = some (q x, ())) (l : List Int) (h : l.length ≤ 100000) : zC_M l F = some (l.any q, ()) := by
  unfold zC_M zC_m zG_M
  obtain ⟨k, h1, h2⟩ := cf_loop F q hF l l 0 (by omega)
  rw [bifT (dec_true (show l.length < lenMax by unfold lenMax; omega)), h1, Option.bind_some, h2]
theorem getD_of {L : List Int} {i : Nat} (h : i < L.length) : L[i]? = some (L.getD i 0) := by
  rw [List.getD_eq_getElem?_getD, List.getElem?_eq_getElem h]
  rfl
theorem goal_zero {c : Cha} {n : Int} {g : Goa} (h : goalE c n g = 0) : (0 ≤ g.2.2.1 ∧ g.2.2.1 ≤ n) ∧ 0 ≤ g.2.2.2.1 ∧ g.2.2.2.1 ≤ n := by
  obtain ⟨_, h⟩ := firstOf_eq_zero.1 h
  obtain ⟨_, h⟩ := firstOf_eq_zero.1 h
  obtain ⟨h1, h2⟩ := firstOf_eq_zero.1 h
  exact ⟨ckR_zero h1, ckR_zero h2⟩
theorem lay_list (v : Int) (r : List Int) : List.take (Int.toNat (1 : Int)) ((List.replicate (r.length + 1) (0 : Int)).set (Int.toNat (0 : Int)) v) ++ List.take (((List.replicate (r.length + 1) (0 : Int)).set (Int.toNat (0 : Int)) v).length - Int.toNat (1 : Int)) r ++ List.drop (Int.toNat (1 : Int) + min r.length (((List.replicate (r.length + 1) (0 : Int)).set (Int.toNat (0 : Int)) v).length - Int.toNat (1 : Int))) ((List.replicate (r.length + 1) (0 : Int)).set (Int.toNat (0 : Int)) v) = v :: r := by
  have e1 : (List.replicate (r.length + 1) (0 : Int)).set (Int.toNat (0 : Int)) v = v :: List.replicate r.length 0 := by
    rw [List.replicate_succ]; rfl
  rw [e1, show Int.toNat (1 : Int) = 1 from rfl, List.length_cons, List.length_replicate, Nat.add_sub_cancel, Nat.min_self]
  rw [List.take_of_length_le (Nat.le_refl _), List.drop_eq_nil_of_le (by simp; omega)]
  simp
theorem gserves_eq (c : Cha) (hc : Valid c) (l : List Inp) (hl : l.length ≤ 1000) (hv : ∀ x ∈ l, 0 ≤ x.2.1 ∧ x.2.1 ≤ 15) (g : Goa) (hg : goalE c l.length g = 0) (hg1 : g.1.length ≤ 1000) (hg2 : g.2.1.length ≤ 1000) (f : Fai) (n : Int) (hf : failE n f = 0) :
    zc_M c l g f = some ((srv c l g f).1, (srv c l g f).2, ()) := by
  have hmem : memMax = 68719476736 := rfl
  have hp := hc.pos
  obtain ⟨hlat, hear⟩ := goal_zero hg
  unfold zc_M zc_m srv
  rw [gplayF_eq c hc l hl hv f n hf, Option.bind_some]
  by_cases hz : (playF c l f).2 = 0
  · have hlen := plays_len c (dF f) l 0 (entr c 0) [] hz
    rw [List.length_nil, Nat.zero_add] at hlen
    rw [if_pos hz, bifF (show ((playF c l f).2 != 0) = false by simpa using hz)]
    revert hlen
    change (playF c l f).1.length = l.length → _
    simp only
    generalize (playF c l f).1 = r
    intro hlen
    have hw : IntKind.i64.wrap ((r.length : Int) + 1) = ((r.length + 1 : Nat) : Int) := by rw [wrapS (by omega) (by omega)]; omega
    have i0 : idx (List.replicate (r.length + 1) (0 : Int)) 0 = some 0 := by rw [idx_int _ (by omega)]; simp
    have i1 : (List.replicate (r.length + 1) (0 : Int))[Int.toNat (0 : Int)]? = some 0 := by simp
    simp only [hw, Int.toNat_natCast]
    rw [bifT (by simp; omega), genter_eq c hc 0 (by omega) (by omega), Option.bind_some, i0, Option.bind_some, i1, Option.bind_some, bifT (by simp; omega), lay_list]
    have il : idx (entr c 0 :: r) g.2.2.1 = some ((entr c 0 :: r).getD g.2.2.1.toNat 0) := by
      rw [idx_int _ hlat.1, getD_of (by simp; omega)]
    rw [il, Option.bind_some, containsI_eq _ _ (by unfold lenMax; omega), Option.bind_some]
    unfold srvL
    cases h1 : g.1.contains ((entr c 0 :: r).getD g.2.2.1.toNat 0) with
    | true => rfl
    | false =>
      have hwe : IntKind.i64.wrap (g.2.2.2.1 + 1) = g.2.2.2.1 + 1 := wrapS (by omega) (by omega)
      rw [cond_false, hwe, bifT (by simp; omega), cf_eq _ (fun x => g.2.1.contains x) (fun x => by
        show zT_M x g = _
        unfold zT_M zT_m
        rw [containsI_eq _ _ (by unfold lenMax; omega), Option.bind_some]) _ (by rw [List.length_take]; simp; omega), Option.bind_some, show (g.2.2.2.1 + 1).toNat = g.2.2.2.1.toNat + 1 by omega, Bool.false_or]
  · rw [if_neg hz, bifT (show ((playF c l f).2 != 0) = true by simpa using hz)]
theorem rs_loop (g : Goa) (hg2 : g.2.1.length ≤ 1000) (L : List Int) : ∀ (m i : Nat), i + m ≤ L.length →
    loopN (fun i__ s__ => z0V_b5 g L i__) (fun s__ => z0V_f5 g L) m (i : Int) () = some (((L.drop i).take m).any (fun x => g.2.1.contains x), 0, ())
  | 0, i, _ => by simp [loopN, z0V_f5]
  | m + 1, i, h => by
    have hi : i < L.length := by omega
    have hg : L[i]? = some L[i] := List.getElem?_eq_getElem hi
    have hb : z0V_b5 g L (i : Int) = some (bif g.2.1.contains L[i] then .inl (true, 0, ()) else .inr ()) := by
      unfold z0V_b5
      rw [idx_nat, hg, Option.bind_some, Int.toNat_natCast, hg, Option.bind_some, hasInt_eq _ _ (by unfold lenMax; omega), Option.bind_some]
      cases g.2.1.contains L[i] <;> rfl
    have hd : (L.drop i).take (m + 1) = L[i] :: (L.drop (i + 1)).take m := by
      rw [← List.getElem_cons_drop (h := hi), List.take_succ_cons]
    unfold loopN
    simp only [hb, Option.bind_some]
    rw [hd, List.any_cons]
    cases hq : g.2.1.contains L[i] with
    | true => rfl
    | false =>
      have ih := rs_loop g hg2 L m (i + 1) (by omega)
      rw [show ((i + 1 : Nat) : Int) = (i : Int) + 1 by omega] at ih
      rw [Bool.false_or]
      exact ih
theorem rserves_eq (c : Cha) (hc : Valid c) (l : List Inp) (hl : l.length ≤ 1000) (hv : ∀ x ∈ l, 0 ≤ x.2.1 ∧ x.2.1 ≤ 15) (g : Goa) (hg : goalE c l.length g = 0) (hg1 : g.1.length ≤ 1000) (hg2 : g.2.1.length ≤ 1000) (f : Fai) (n : Int) (hf : failE n f = 0) :
    z0V_M c l g f = some ((srv c l g f).1, (srv c l g f).2, ()) := by
  have hmem : memMax = 68719476736 := rfl
  have hp := hc.pos
  obtain ⟨hlat, hear⟩ := goal_zero hg
  unfold z0V_M srv
  rw [rplayF_eq c hc l hl hv f n hf, Option.bind_some]
  by_cases hz : (playF c l f).2 = 0
  · have hlen := plays_len c (dF f) l 0 (entr c 0) [] hz
    rw [List.length_nil, Nat.zero_add] at hlen
    rw [if_pos hz, bifF (show ((playF c l f).2 != 0) = false by simpa using hz), renter_eq c hc 0 (by omega) (by omega), Option.bind_some]
    revert hlen
    change (playF c l f).1.length = l.length → _
    simp only
    generalize (playF c l f).1 = r
    intro hlen
    have il : idx (entr c 0 :: r) g.2.2.1 = some ((entr c 0 :: r).getD g.2.2.1.toNat 0) := by
      rw [idx_int _ hlat.1, getD_of (by simp; omega)]
    have il2 : (entr c 0 :: r)[g.2.2.1.toNat]? = some ((entr c 0 :: r).getD g.2.2.1.toNat 0) := getD_of (by simp; omega)
    rw [bifT (dec_true (by omega))]
    simp only [List.singleton_append]
    rw [il, Option.bind_some, il2, Option.bind_some, hasInt_eq _ _ (by unfold lenMax; omega), Option.bind_some]
    unfold srvL
    cases h1 : g.1.contains ((entr c 0 :: r).getD g.2.2.1.toNat 0) with
    | true => rfl
    | false =>
      have := rs_loop g hg2 (entr c 0 :: r) (g.2.2.2.1.toNat + 1) 0 (by simp; omega)
      rw [List.drop_zero] at this
      rw [cond_false, bifT (dec_true (by omega)), show (g.2.2.2.1 + 1 - 0).toNat = g.2.2.2.1.toNat + 1 by omega, Bool.false_or]
      exact this
  · rw [if_neg hz, bifT (show ((playF c l f).2 != 0) = true by simpa using hz)]
def wk (c : Cha) (l : List Inp) (g : Goa) : List Fai → List Fai → List Fai × Int
  | [], out => (out, 0)
  | f :: r, out => if (srv c l g f).2 = 0 then wk c l g r (if (srv c l g f).1 = true then out else out ++ [f]) else ([], (srv c l g f).2)
theorem wk_length (c : Cha) (l : List Inp) (g : Goa) : ∀ (fs out : List Fai), (wk c l g fs out).1.length ≤ out.length + fs.length
  | [], out => Nat.le_refl _
  | f :: r, out => by
    unfold wk
    split
    · have := wk_length c l g r (if (srv c l g f).1 = true then out else out ++ [f])
      rw [List.length_cons]
      split at this
      · rename_i h; rw [if_pos h]; omega
      · rename_i h; rw [if_neg h]; simp at this ⊢; omega
    · simp
theorem ticks_mem : ∀ (m : Nat) (i : Int) (n : Int), 0 ≤ i → i + m ≤ n → ∀ f ∈ ticks i m, failE n f = 0
  | 0, i, n, _, _, f, hf => by cases hf
  | m + 1, i, n, h0, h1, f, hf => by
    unfold ticks at hf
    rcases List.mem_append.1 hf with hf | hf
    · have hr : ckR i 0 (n - 1) = 0 := by unfold ckR; rw [if_neg (by omega)]
      have hs1 : stuckW ≠ noneW := by decide
      have hs2 : stuckW ≠ lostW := by decide
      have hl1 : lostW ≠ noneW := by decide
      unfold tick at hf
      simp only [List.mem_cons, List.not_mem_nil, or_false] at hf
      have stk : ∀ b v : Int, ckR b 0 3 = 0 → ckR v 0 1 = 0 → failE n (stuckW, i, b, v, ()) = 0 := by
        intro b v hb hv
        unfold failE
        rw [if_neg hs1, if_neg hs2, if_pos rfl]
        simp only [hr, hb, hv]
        rfl
      rcases hf with rfl | rfl | rfl | rfl | rfl | rfl | rfl | rfl | rfl
      · unfold failE
        rw [if_neg hl1, if_pos rfl, if_pos ⟨rfl, rfl⟩]
        exact hr
      all_goals exact stk _ _ rfl rfl
    · exact ticks_mem m (i + 1) n (by omega) (by omega) f hf
theorem fails_mem (n : Nat) : ∀ f ∈ fails n, failE (n : Int) f = 0 := by
  intro f hf
  unfold fails at hf
  rcases List.mem_cons.1 hf with rfl | hf
  · unfold failE; rw [if_pos rfl, if_pos ⟨rfl, rfl, rfl⟩]
  · exact ticks_mem n 0 n (by omega) (by omega) f hf
theorem gwk_loop (c : Cha) (hc : Valid c) (l : List Inp) (hl : l.length ≤ 1000) (hv : ∀ x ∈ l, 0 ≤ x.2.1 ∧ x.2.1 ≤ 15) (g : Goa) (hg : goalE c l.length g = 0) (hg1 : g.1.length ≤ 1000) (hg2 : g.2.1.length ≤ 1000) (xs : List Fai) (n : Int) : ∀ (fs : List Fai) (i : Int) (out : List Fai), (∀ f ∈ fs, failE n f = 0) → out.length + fs.length ≤ 1000000 →
    loopL (fun i__ e__ s__ => z10_b5 l c g xs i__ e__ s__) (fun s__ => z10_f5 l c g xs s__) i fs out = some ((wk c l g fs out).1, (wk c l g fs out).2, ())
  | [], i, out, _, _ => rfl
  | f :: r, i, out, hf, hs => by
    have hmem : memMax = 68719476736 := rfl
    simp only [List.length_cons] at hs
    have hb : z10_b5 l c g xs i f out = some (if (srv c l g f).2 = 0 then .inr (if (srv c l g f).1 = true then out else out ++ [f]) else .inl ([], (srv c l g f).2, ())) := by
      unfold z10_b5
      rw [show ((f.1, f.2.1, f.2.2.1, f.2.2.2.1, ()) : Fai) = f from rfl, gserves_eq c hc l hl hv g hg hg1 hg2 f n (hf f (by simp)), Option.bind_some]
      by_cases hz : (srv c l g f).2 = 0
      · rw [if_pos hz, bifF (show ((srv c l g f).2 != 0) = false by simpa using hz)]
        cases (srv c l g f).1 with
        | true => rfl
        | false => simp only [Bool.not_false, cond_true]; rw [bifT (dec_true (show out.length + 1 ≤ memMax by omega))]; rfl
      · rw [if_neg hz, bifT (show ((srv c l g f).2 != 0) = true by simpa using hz)]
    rw [loopL_cons]
    simp only [hb, Option.bind_some]
    unfold wk
    by_cases hz : (srv c l g f).2 = 0
    · rw [if_pos hz, if_pos hz]
      exact gwk_loop c hc l hl hv g hg hg1 hg2 xs n r (i + 1) _ (fun f hf' => hf f (by simp [hf'])) (by split; (omega); (simp; omega))
    · rw [if_neg hz, if_neg hz]
theorem rwk_loop (c : Cha) (hc : Valid c) (l : List Inp) (hl : l.length ≤ 1000) (hv : ∀ x ∈ l, 0 ≤ x.2.1 ∧ x.2.1 ≤ 15) (g : Goa) (hg : goalE c l.length g = 0) (hg1 : g.1.length ≤ 1000) (hg2 : g.2.1.length ≤ 1000) (xs : List Fai) (n : Int) : ∀ (fs done : List Fai) (out : List Fai), xs = done ++ fs → (∀ f ∈ fs, failE n f = 0) → out.length + fs.length ≤ 1000000 →
    loopL (fun i__ e__ s__ => z0u_b1 l c g xs i__ e__ s__) (fun s__ => z0u_f1 l c g xs s__) (done.length : Int) fs out = some ((wk c l g fs out).1, (wk c l g fs out).2, ())
  | [], done, out, _, _, _ => rfl
  | f :: r, done, out, hx, hf, hs => by
    have hmem : memMax = 68719476736 := rfl
    have hn : xs[done.length]? = some f := by rw [hx]; simp
    simp only [List.length_cons] at hs
    have hb : z0u_b1 l c g xs (done.length : Int) f out = some (if (srv c l g f).2 = 0 then .inr (if (srv c l g f).1 = true then out else out ++ [f]) else .inl ([], (srv c l g f).2, ())) := by
      unfold z0u_b1
      rw [rserves_eq c hc l hl hv g hg hg1 hg2 f n (hf f (by simp)), Option.bind_some]
      by_cases hz : (srv c l g f).2 = 0
      · rw [if_pos hz, bifF (show ((srv c l g f).2 != 0) = false by simpa using hz)]
        cases (srv c l g f).1 with
        | true => rfl
        | false =>
          simp only [Bool.not_false, cond_true]
          rw [idx_nat, hn, Option.bind_some, bifT (dec_true (show out.length + 1 ≤ memMax by omega))]
          rfl
      · rw [if_neg hz, bifT (show ((srv c l g f).2 != 0) = true by simpa using hz)]
    rw [loopL_cons]
    simp only [hb, Option.bind_some]
    unfold wk
    by_cases hz : (srv c l g f).2 = 0
    · rw [if_pos hz, if_pos hz]
      have ih := rwk_loop c hc l hl hv g hg hg1 hg2 xs n r (done ++ [f]) (if (srv c l g f).1 = true then out else out ++ [f]) (by rw [hx]; simp) (fun f hf' => hf f (by simp [hf'])) (by split; (omega); (simp; omega))
      simp only [List.length_append, List.length_cons, List.length_nil] at ih
      exact ih
    · rw [if_neg hz, if_neg hz]
def E1 (c : Cha) (l : List Inp) (f : Fai) : Int := firstOf (ckChart c) (firstOf (ckScript l) (failE l.length f))
def E2 (c : Cha) (l : List Inp) (g : Goa) (f : Fai) : Int := firstOf (ckChart c) (firstOf (ckScript l) (firstOf (goalE c l.length g) (failE l.length f)))
def E3 (c : Cha) (l : List Inp) (g : Goa) : Int := firstOf (ckChart c) (firstOf (ckScript l) (goalE c l.length g))
section
variable (c : Cha) (hc : Sh c) (l : List Inp) (hl : l.length ≤ 100) (hw : ∀ x ∈ l, x.1.length < lenMax) (g : Goa) (hg1 : g.1.length ≤ 17) (hg2 : g.2.1.length ≤ 17) (f : Fai)
include hc hl hw
theorem gPlay_eq : z0x_M c l f = some (if E1 c l f = 0 then ((playF c l f).1, (playF c l f).2, ()) else ([], E1 c l f, ())) := by
  unfold z0x_M z0x_m E1
  rw [gck c hc, Option.bind_some, gscript_eq l (by omega) hw, Option.bind_some, gfail_eq l.length f ⟨by omega, by omega⟩, Option.bind_some, gfirst_eq _ (by simp [lenMax]), Option.bind_some]
  simp only [firstE_cons, firstE_nil, firstOf_zero]
  by_cases h : firstOf (ckChart c) (firstOf (ckScript l) (failE l.length f)) = 0
  · obtain ⟨h1, h2⟩ := firstOf_eq_zero.1 h
    obtain ⟨h2, h3⟩ := firstOf_eq_zero.1 h2
    rw [if_pos h, bifF (show (firstOf (ckChart c) (firstOf (ckScript l) (failE l.length f)) != 0) = false by simpa using h), gplayF_eq c (valid_of c h1) l (by omega) (script_range h2) f l.length h3, Option.bind_some]
  · rw [if_neg h, bifT (show (firstOf (ckChart c) (firstOf (ckScript l) (failE l.length f)) != 0) = true by simpa using h)]
include hg1 hg2
theorem gServes_eq : z0Y_M c l g f = some (if E2 c l g f = 0 then ((srv c l g f).1, (srv c l g f).2, ()) else (false, E2 c l g f, ())) := by
  unfold z0Y_M z0Y_m E2
  rw [gck c hc, Option.bind_some]
  by_cases h0 : ckChart c = 0
  · rw [h0, bifF (show (((0 : Int), ()).1 != 0) = false from rfl), gscript_eq l (by omega) hw, Option.bind_some, ggoal_eq c l.length g (by omega) (by omega), Option.bind_some, gfail_eq l.length f ⟨by omega, by omega⟩, Option.bind_some, gfirst_eq _ (by simp [lenMax]), Option.bind_some, firstOf_z]
    simp only [firstE_cons, firstE_nil, firstOf_zero]
    by_cases h : firstOf (ckScript l) (firstOf (goalE c l.length g) (failE l.length f)) = 0
    · obtain ⟨h2, h3⟩ := firstOf_eq_zero.1 h
      obtain ⟨h3, h4⟩ := firstOf_eq_zero.1 h3
      rw [if_pos h, bifF (show (firstOf (ckScript l) (firstOf (goalE c l.length g) (failE l.length f)) != 0) = false by simpa using h), gserves_eq c (valid_of c h0) l (by omega) (script_range h2) g h3 (by omega) (by omega) f l.length h4, Option.bind_some]
    · rw [if_neg h, bifT (show (firstOf (ckScript l) (firstOf (goalE c l.length g) (failE l.length f)) != 0) = true by simpa using h)]
  · rw [firstOf_nz h0, if_neg h0, bifT (show ((ckChart c, ()).1 != 0) = true by simpa using h0)]
theorem gWeak_eq : z10_M c l g = some (if E3 c l g = 0 then ((wk c l g (fails l.length) []).1, (wk c l g (fails l.length) []).2, ()) else ([], E3 c l g, ())) := by
  have hfl : (fails l.length).length = 1 + 9 * l.length := by unfold fails; rw [List.length_cons, ticks_length]; omega
  unfold z10_M E3
  rw [gck c hc, Option.bind_some]
  by_cases h0 : ckChart c = 0
  · rw [h0, bifF (show (((0 : Int), ()).1 != 0) = false from rfl), gscript_eq l (by omega) hw, Option.bind_some, ggoal_eq c l.length g (by omega) (by omega), Option.bind_some, gfirst_eq _ (by simp [lenMax]), Option.bind_some, firstOf_z]
    simp only [firstE_cons, firstE_nil, firstOf_zero]
    by_cases h : firstOf (ckScript l) (goalE c l.length g) = 0
    · obtain ⟨h2, h3⟩ := firstOf_eq_zero.1 h
      rw [if_pos h, bifF (show (firstOf (ckScript l) (goalE c l.length g) != 0) = false by simpa using h), gfails_eq l.length (by omega), Option.bind_some, bifT (dec_true (show (fails l.length).length < lenMax by unfold lenMax; omega))]
      exact gwk_loop c (valid_of c h0) l (by omega) (script_range h2) g h3 (by omega) (by omega) (fails l.length) l.length (fails l.length) 0 [] (fails_mem l.length) (by simp; omega)
    · rw [if_neg h, bifT (show (firstOf (ckScript l) (goalE c l.length g) != 0) = true by simpa using h)]
  · rw [firstOf_nz h0, if_neg h0, bifT (show ((ckChart c, ()).1 != 0) = true by simpa using h0)]
end
theorem rWeak_eq (c : Cha) (hc : Valid c) (l : List Inp) (hl : l.length ≤ 100) (hv : ∀ x ∈ l, 0 ≤ x.2.1 ∧ x.2.1 ≤ 15) (g : Goa) (hg : goalE c l.length g = 0) (hg1 : g.1.length ≤ 1000) (hg2 : g.2.1.length ≤ 1000) :
    z0u_M c l g = some ((wk c l g (fails l.length) []).1, (wk c l g (fails l.length) []).2, ()) := by
  have hfl : (fails l.length).length = 1 + 9 * l.length := by unfold fails; rw [List.length_cons, ticks_length]; omega
  unfold z0u_M
  rw [rfails_eq l (by omega), Option.bind_some, bifT (dec_true (show (fails l.length).length < lenMax by unfold lenMax; omega))]
  exact rwk_loop c hc l (by omega) hv g hg hg1 hg2 (fails l.length) l.length (fails l.length) [] [] rfl (fails_mem l.length) (by simp; omega)
theorem drill_check (c : Cha) (l : List Inp) (g : Goa) : zi_M (c, l, g, ()) = some (E3 c l g, ()) := by
  unfold zi_M zi_m E3
  simp only
  rw [rchart_eq, Option.bind_some, rscript_eq, Option.bind_some, lfirst_eq _ (by simp [lenMax]), Option.bind_some]
  simp only [firstE_cons, firstE_nil, firstOf_zero]
  by_cases h : firstOf (ckChart c) (ckScript l) = 0
  · obtain ⟨h1, h2⟩ := firstOf_eq_zero.1 h
    rw [bifF (show (firstOf (ckChart c) (ckScript l) != 0) = false by simpa using h), rgoal_eq, Option.bind_some, h1, h2, firstOf_z, firstOf_z]
  · rw [bifT (show (firstOf (ckChart c) (ckScript l) != 0) = true by simpa using h), ← firstOf_assoc, firstOf_nz h]
theorem gatePlays_law (d : Drl) (f : Fai) (hl : d.2.1.length < lenMax) : z00_M d f = some (true, ()) := by
  have hmem : memMax = 68719476736 := rfl
  obtain ⟨c, l, g, _⟩ := d
  change l.length < lenMax at hl
  have aw : (z0d_M.bind fun (v6 : Bool × Unit) => some (v6.1, ())) = some (true, ()) := by rw [awake_true]; rfl
  unfold z00_M z00_m
  conv => lhs; arg 1; rw [awake_true]
  rw [Option.bind_some, bifF (show (!(true, ()).1) = false from rfl)]
  have hshort : ∃ s, zj_M (c, l, g, ()) = some (s, ()) ∧ (s = true → Sh c ∧ l.length ≤ 65 ∧ (∀ x ∈ l, x.1.length ≤ 40) ∧ g.1.length ≤ 17 ∧ g.2.1.length ≤ 17) := by
    unfold zj_M zj_m
    obtain ⟨s, hs, hs2⟩ := short_eq c
    obtain ⟨b, hb, hb2⟩ := shortScript_eq l hl
    simp only
    rw [hs, hb]
    cases s with
    | false => exact ⟨false, rfl, fun h => by cases h⟩
    | true =>
      cases b with
      | false => exact ⟨false, rfl, fun h => by cases h⟩
      | true =>
        simp only [Option.bind_some, cond_true]
        unfold z04
        by_cases h1 : (g.1.length : Int) ≤ 17
        · rw [bifT (dec_true h1)]
          exact ⟨_, rfl, fun h => ⟨hs2 rfl, (hb2 rfl).1, (hb2 rfl).2, by omega, by have := of_decide_eq_true h; omega⟩⟩
        · rw [bifF (dec_false h1)]
          exact ⟨false, rfl, fun h => by cases h⟩
  obtain ⟨s, hs, hs2⟩ := hshort
  rw [hs, Option.bind_some]
  cases s with
  | false => exact aw
  | true =>
    obtain ⟨hc, h65, h40, hg1, hg2⟩ := hs2 rfl
    have hw : ∀ x ∈ l, x.1.length < lenMax := fun x hx => by have := h40 x hx; unfold lenMax; omega
    rw [bifF (show (!(true, ()).1) = false from rfl)]
    by_cases hf40 : (f.1.length : Int) > 40
    · rw [bifT (dec_true hf40)]; exact aw
    rw [bifF (dec_false hf40)]
    have hgoal : z0q_M g = some (g, ()) := by
      unfold z0q_M z0q_m
      rw [ints_eq g.1 (by omega), Option.bind_some, ints_eq g.2.1 (by omega), Option.bind_some]
    simp only
    rw [chart_eq c hc]
    simp only [Option.bind_some]
    rw [script_eq l (by omega)]
    simp only [Option.bind_some]
    rw [gPlay_eq c hc l (by omega) hw f, hgoal]
    simp only [Option.bind_some]
    rw [gServes_eq c hc l (by omega) hw g hg1 hg2 f, gWeak_eq c hc l (by omega) hw g hg1 hg2]
    simp only [Option.bind_some]
    rw [rchart_eq, rscript_eq, rfail_eq l.length f ⟨by omega, by omega⟩]
    simp only [Option.bind_some]
    rw [lfirst_eq _ (by simp [lenMax]), drill_check]
    simp only [Option.bind_some]
    rw [lfirst_eq _ (by simp [lenMax])]
    simp only [Option.bind_some, firstE_cons, firstE_nil, firstOf_zero]
    have eE1 : firstOf (ckChart c) (firstOf (ckScript l) (failE l.length f)) = E1 c l f := rfl
    have eE2 : firstOf (E3 c l g) (failE l.length f) = E2 c l g f := by unfold E3 E2; rw [firstOf_assoc, firstOf_assoc]
    rw [eE1, eE2]
    have fin : ∀ (p : List Int) (e1 : Int) (sv : Bool) (e2 : Int) (w : List Fai) (e3 : Int), p.length ≤ 1000000 → w.length ≤ 1000000 → (e1 ≠ 0 → p = []) →
        z00_m_j48 0 (p, e1, ()) (sv, e2, ()) (w, e3, ()) e1 p e2 sv e3 w = some (true, ()) := by
      intro p e1 sv e2 w e3 h1 h2 h3
      unfold z00_m_j48
      simp only
      rw [listed_ok p e1 p (by unfold lenMax; omega) h3 (fun _ => rfl)]
      simp only [Option.bind_some, cond_true]
      rw [beq_self_eq_true, cond_true, beq_self_eq_true, cond_true, failures_eq w (by omega)]
      simp only [Option.bind_some]
      rw [sameFailures_refl w (by unfold lenMax; omega)]
      simp only [Option.bind_some, cond_true]
      rw [beq_self_eq_true]
    have st3 : ∀ (p : List Int) (e1 : Int) (sv : Bool) (e2 : Int), p.length ≤ 1000000 → (e1 ≠ 0 → p = []) →
        z00_m_j49 0 (c, l, g, ()) (p, e1, ()) (sv, e2, ()) (if E3 c l g = 0 then ((wk c l g (fails l.length) []).1, (wk c l g (fails l.length) []).2, ()) else ([], E3 c l g, ())) (E3 c l g, ()) e1 p e2 sv = some (true, ()) := by
      intro p e1 sv e2 h1 h3
      unfold z00_m_j49
      simp only
      by_cases h : E3 c l g = 0
      · obtain ⟨q1, q2⟩ := firstOf_eq_zero.1 h
        obtain ⟨q2, q3⟩ := firstOf_eq_zero.1 q2
        have hwl := wk_length c l g (fails l.length) []
        have hfl : (fails l.length).length = 1 + 9 * l.length := by unfold fails; rw [List.length_cons, ticks_length]; omega
        rw [List.length_nil, Nat.zero_add] at hwl
        rw [if_pos h, bifT (show (E3 c l g == 0) = true by simpa using h), rWeak_eq c (valid_of c q1) l (by omega) (script_range q2) g q3 (by omega) (by omega)]
        simp only [Option.bind_some]
        exact fin p e1 sv e2 _ _ h1 (by omega) h3
      · rw [if_neg h, bifF (show (E3 c l g == 0) = false by simpa using h)]
        exact fin p e1 sv e2 [] _ h1 (by simp) h3
    have st2 : ∀ (p : List Int) (e1 : Int), p.length ≤ 1000000 → (e1 ≠ 0 → p = []) →
        z00_m_j50 0 (c, l, g, ()) f (p, e1, ()) (if E2 c l g f = 0 then ((srv c l g f).1, (srv c l g f).2, ()) else (false, E2 c l g f, ())) (if E3 c l g = 0 then ((wk c l g (fails l.length) []).1, (wk c l g (fails l.length) []).2, ()) else ([], E3 c l g, ())) (E3 c l g, ()) (E2 c l g f, ()) e1 p = some (true, ()) := by
      intro p e1 h1 h3
      unfold z00_m_j50
      simp only
      by_cases h : E2 c l g f = 0
      · obtain ⟨q1, q2⟩ := firstOf_eq_zero.1 h
        obtain ⟨q2, q3⟩ := firstOf_eq_zero.1 q2
        obtain ⟨q3, q4⟩ := firstOf_eq_zero.1 q3
        rw [if_pos h, bifT (show (E2 c l g f == 0) = true by simpa using h), rserves_eq c (valid_of c q1) l (by omega) (script_range q2) g q3 (by omega) (by omega) f l.length q4]
        simp only [Option.bind_some]
        exact st3 p e1 _ _ h1 h3
      · rw [if_neg h, bifF (show (E2 c l g f == 0) = false by simpa using h)]
        exact st3 p e1 false _ h1 h3
    by_cases h : E1 c l f = 0
    · obtain ⟨q1, q2⟩ := firstOf_eq_zero.1 h
      obtain ⟨q2, q3⟩ := firstOf_eq_zero.1 q2
      have hpl := plays_length c (dF f) l 0 (entr c 0) []
      rw [List.length_nil, Nat.zero_add] at hpl
      rw [if_pos h, bifT (show (E1 c l f == 0) = true by simpa using h), rplayF_eq c (valid_of c q1) l (by omega) (script_range q2) f l.length q3]
      simp only [Option.bind_some]
      exact st2 _ _ (show (plays c (dF f) l 0 (entr c 0) []).1.length ≤ 1000000 by omega) (plays_err c (dF f) l 0 (entr c 0) [])
    · rw [if_neg h, bifF (show (E1 c l f == 0) = false by simpa using h)]
      exact st2 [] _ (by simp) (fun _ => rfl)
end Go.Tw
end
