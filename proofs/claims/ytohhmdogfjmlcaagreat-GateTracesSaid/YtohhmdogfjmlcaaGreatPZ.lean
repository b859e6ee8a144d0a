/- P11: traces: the law. -/
import Derived.Test.YtohhmdogfjmlcaaGreatPY
import Derived.Test.YtohhmdogfjmlcaaGreatB14

set_option linter.all false
set_option maxRecDepth 100000
namespace Go.Tw
open Go.Vx Go.Vx.B Go.Proofs

/-! ### Lists of states -/
def foreign (c : Cha) (s : Int) : Bool := decide (s < 0) || decide ((c.1.length : Int) ≤ s)
def lstE (c : Cha) (l : List Int) : Int := if 16 < l.length then 5 else bif l.any (foreign c) then 10 else 0

theorem rlst_eq (c : Cha) (l : List Int) : zh_M c l = some (lstE c l, ()) := by
  unfold zh_M lstE
  by_cases h : 16 < l.length
  · rw [bifT (dec_true (show (l.length : Int) > 16 by omega)), if_pos h]
  · rw [bifF (dec_false (show ¬ (l.length : Int) > 16 by omega)), if_neg h, bifT (dec_true (show l.length < lenMax by unfold lenMax; omega))]
    have := loopL_findI (body := fun i__ e__ s__ => zh_b0 l c i__ e__) (fin := fun s__ => zh_f0 l c) l (fun s => if foreign c s = true then some ((10 : Int), ()) else none) l [] rfl (fun i e hi => by
      unfold zh_b0 foreign
      rw [idx_nat, hi]
      simp only [Option.bind_some]
      rw [show decide (e ≥ (c.1.length : Int)) = decide ((c.1.length : Int) ≤ e) from rfl]
      cases decide (e < 0) <;> cases decide ((c.1.length : Int) ≤ e) <;> rfl)
    refine this.trans ?_
    rw [any_find]
    cases l.any (foreign c) <;> rfl

theorem iff_loop (c : Cha) (xs : List Int) : ∀ (l : List Int) (i : Int), 0 ≤ i → ∃ k, loopL (fun i__ e__ s__ => zG_b0 xs (fun (x : Int × Unit) => zI_M x.fst c) i__ e__) (fun s__ => zG_f0 xs (fun (x : Int × Unit) => zI_M x.fst c)) i l () = some (k, ()) ∧ decide (k ≥ 0) = l.any (foreign c)
  | [], i, _ => ⟨-1, rfl, rfl⟩
  | e :: l, i, hi => by
    have hb : zG_b0 xs (fun (x : Int × Unit) => zI_M x.fst c) i e = some (bif foreign c e then .inl (i, ()) else .inr ()) := by
      unfold zG_b0
      show (Option.bind (some (zI e c)) _) = _
      unfold zI foreign
      rw [show decide (e ≥ (c.1.length : Int)) = decide ((c.1.length : Int) ≤ e) from rfl]
      cases decide (e < 0) <;> cases decide ((c.1.length : Int) ≤ e) <;> rfl
    rw [loopL_cons, hb, List.any_cons]
    cases h : foreign c e with
    | true => exact ⟨i, rfl, by rw [Bool.true_or]; exact dec_true hi⟩
    | false =>
      obtain ⟨k, h1, h2⟩ := iff_loop c xs l (i + 1) (by omega)
      exact ⟨k, h1, by rw [h2]; simp⟩

theorem glst_eq (c : Cha) (l : List Int) (h : l.length ≤ 1000) : zP_M c l = some (lstE c l, ()) := by
  unfold zP_M zP_m zC_M zC_m zG_M
  obtain ⟨k, h1, h2⟩ := iff_loop c l l 0 (by omega)
  rw [bifT (dec_true (show l.length < lenMax by unfold lenMax; omega)), h1]
  simp only [Option.bind_some, when_eq]
  rw [gfirst_eq _ (by simp [lenMax]), h2]
  simp only [Option.bind_some, firstE_cons, firstE_nil, firstOf_zero]
  unfold lstE
  by_cases h : 16 < l.length
  · rw [dec_true (show (l.length : Int) > 16 by omega), if_pos h]; rfl
  · rw [dec_false (show ¬ (l.length : Int) > 16 by omega), if_neg h]; rfl

/-! ### The first trace -/
def traceOf (ps : List Pth) (states : List Int) : List Inp × Int := match ps.find? (fun p => states.contains p.1) with
  | some p => (p.2.1, 0)
  | none => ([], 7)

theorem find_trace (states : List Int) : ∀ ps : List Pth, ps.findSome? (fun p => if (states.contains p.1) = true then some (p.2.1, (0 : Int), ()) else none) = (ps.find? (fun p => states.contains p.1)).map fun p => (p.2.1, (0 : Int), ())
  | [] => rfl
  | p :: ps => by
    rw [List.findSome?_cons, List.find?_cons]
    cases h : states.contains p.1 with
    | true => rfl
    | false => rw [if_neg (by simp)]; exact find_trace states ps

theorem rTrace_eq (c : Cha) (hc : Valid c) (states : List Int) (hs : states.length < lenMax) : z0b_M c states = some ((traceOf (WS c) states).1, (traceOf (WS c) states).2, ()) := by
  have hf := (WS_inv c hc).few hc
  unfold z0b_M
  rw [ways_eq c hc, Option.bind_some, bifT (dec_true (show (WS c).length < lenMax by unfold lenMax; omega))]
  have := loopL_findI (body := fun i__ e__ s__ => z0b_b1 states (WS c) i__ e__) (fin := fun s__ => z0b_f1 states (WS c)) (WS c) (fun p => if (states.contains p.1) = true then some (p.2.1, (0 : Int), ()) else none) (WS c) [] rfl (fun i e hi => by
    unfold z0b_b1
    rw [hasInt_eq _ _ hs, Option.bind_some, idx_nat, hi]
    cases states.contains e.1 <;> rfl)
  refine this.trans ?_
  rw [find_trace]
  unfold traceOf
  cases (WS c).find? (fun p => states.contains p.1) <;> rfl

def trE2 (c : Cha) (states : List Int) : Int := firstOf (ckChart c) (lstE c states)

theorem gTrace_eq (c : Cha) (hc : Sh c) (states : List Int) (hs : states.length ≤ 1000) : z0e_M c states = some (if trE2 c states = 0 then ((traceOf (WS c) states).1, (traceOf (WS c) states).2, ()) else ([], trE2 c states, ())) := by
  have hmem : memMax = 68719476736 := rfl
  unfold z0e_M trE2
  rw [gck c hc, Option.bind_some]
  by_cases h : ckChart c = 0
  · have hv := valid_of c h
    have hf := (WS_inv c hv).few hv
    rw [h, bifF (show (((0 : Int), ()).1 != 0) = false from rfl), glst_eq c states hs, Option.bind_some, firstOf_z]
    by_cases he : lstE c states = 0
    · rw [if_pos he, bifF (show ((lstE c states, ()).1 != 0) = false by simpa using he), paths_eq c hv, Option.bind_some, bifT (dec_true (show (WS c).length < lenMax by unfold lenMax; omega))]
      have := loopL_find (body := fun i__ e__ s__ => z0e_b3 states (WS c) [] i__ e__) (fin := fun s__ => z0e_f3 states (WS c) []) (fun p : Pth => if (states.contains p.1) = true then some (p.2.1, (0 : Int), ()) else none) (WS c) 0 (fun i e _ => by
        unfold z0e_b3
        rw [containsI_eq _ _ (by unfold lenMax; omega), Option.bind_some]
        cases states.contains e.1 with
        | true =>
          rw [cond_true, bifT (dec_true (show ([] : List Pth).length + 1 ≤ memMax by simp; omega))]
          rfl
        | false => rfl)
      refine this.trans ?_
      rw [find_trace]
      unfold traceOf
      cases (WS c).find? (fun p => states.contains p.1) <;> rfl
    · rw [if_neg he, bifT (show ((lstE c states, ()).1 != 0) = true by simpa using he)]
  · rw [firstOf_nz h, if_neg h, bifT (show ((ckChart c, ()).1 != 0) = true by simpa using h)]

/-! ### Traces that are checked -/
theorem last_get (x : Int) : ∀ (l : List Int), (x :: l)[l.length]? = some (l.getLastD x)
  | [] => rfl
  | y :: l => by
    rw [List.length_cons, List.getElem?_cons_succ, List.getLastD_cons]
    exact last_get y l

def provE (c : Cha) (states : List Int) (l : List Inp) : Int :=
  firstOf (run0 c l).2 (bif states.contains ((run0 c l).1.getLastD (entr c 0)) then 0 else 22)

theorem rprov_eq (c : Cha) (hc : Valid c) (states : List Int) (l : List Inp) (hs : states.length < lenMax) (hl : l.length ≤ 1000) : zt_M c states l = some (provE c states l, ()) := by
  have hp := hc.pos
  have hpl := plays_length c dNone l 0 (entr c 0) []
  rw [List.length_nil, Nat.zero_add] at hpl
  unfold zt_M zt_m provE
  rw [rrun_eq c hc l hl, Option.bind_some]
  by_cases hz : (run0 c l).2 = 0
  · rw [bifF (show ((run0 c l).2 != 0) = false by simpa using hz), renter_eq c hc 0 (by omega) (by omega), Option.bind_some, hz, firstOf_z]
    change (bif decide (((run0 c l).1.length : Int) > 0) then _ else _) = _
    revert hpl
    change (run0 c l).1.length ≤ l.length → _
    generalize (run0 c l).1 = r
    intro hpl
    cases r with
    | nil =>
      rw [bifF (by rfl), hasInt_eq _ _ hs, Option.bind_some]
      unfold z0n
      show some (_, ()) = some (bif states.contains (entr c 0) then 0 else 22, ())
      cases states.contains (entr c 0) <;> rfl
    | cons x r =>
      simp only [List.length_cons] at hpl ⊢
      rw [bifT (dec_true (by omega)), wrapS (by omega) (by omega), show ((r.length + 1 : Nat) : Int) - 1 = (r.length : Int) by omega, idx_nat, last_get, Option.bind_some, hasInt_eq _ _ hs, Option.bind_some, List.getLastD_cons]
      unfold z0n
      cases states.contains (r.getLastD x) <;> rfl
  · rw [bifT (show ((run0 c l).2 != 0) = true by simpa using hz), firstOf_nz hz]

theorem gprov_eq (c : Cha) (hc : Sh c) (states : List Int) (l : List Inp) (hs : states.length ≤ 1000) (hl : l.length ≤ 1000) (hw : ∀ x ∈ l, x.1.length < lenMax) :
    zy_M c states l = some (if firstOf (trE2 c states) (ckScript l) = 0 then provE c states l else firstOf (trE2 c states) (ckScript l), ()) := by
  have hmem : memMax = 68719476736 := rfl
  unfold zy_M zy_m trE2
  rw [gck c hc, Option.bind_some]
  by_cases h : ckChart c = 0
  · have hv := valid_of c h
    have hp := hv.pos
    rw [h, bifF (show (((0 : Int), ()).1 != 0) = false from rfl), glst_eq c states hs, Option.bind_some, gscript_eq l hl hw, Option.bind_some, gfirst_eq _ (by simp [lenMax]), Option.bind_some, firstOf_z]
    simp only [firstE_cons, firstE_nil, firstOf_zero]
    by_cases he : firstOf (lstE c states) (ckScript l) = 0
    · have hpl := plays_length c dNone l 0 (entr c 0) []
      rw [List.length_nil, Nat.zero_add] at hpl
      have hpg := gplay_none c hv l hl (script_range (firstOf_eq_zero.1 he).2)
      unfold noF noneW at hpg
      rw [if_pos he, bifF (show (firstOf (lstE c states) (ckScript l) != 0) = false by simpa using he), hpg, Option.bind_some]
      unfold provE
      by_cases hz : (run0 c l).2 = 0
      · rw [bifF (show ((run0 c l).2 != 0) = false by simpa using hz), genter_eq c hv 0 (by omega) (by omega), Option.bind_some, hz, firstOf_z]
        change (bif decide (1 + (run0 c l).1.length ≤ memMax) then _ else _) = _
        revert hpl
        change (run0 c l).1.length ≤ l.length → _
        generalize (run0 c l).1 = r
        intro hpl
        rw [bifT (dec_true (by omega))]
        have e1 : ((([entr c 0] ++ r).length : Nat) : Int) - 1 = (r.length : Int) := by simp
        rw [e1, wrapS (by omega) (by omega), idx_nat, Int.toNat_natCast, List.singleton_append, last_get, Option.bind_some, Option.bind_some, containsI_eq _ _ (by unfold lenMax; omega), Option.bind_some, when_eq]
        cases states.contains (r.getLastD (entr c 0)) <;> rfl
      · rw [bifT (show ((run0 c l).2 != 0) = true by simpa using hz), firstOf_nz hz]
    · rw [if_neg he, bifT (show (firstOf (lstE c states) (ckScript l) != 0) = true by simpa using he)]
  · have e0 : firstOf (firstOf (ckChart c) (lstE c states)) (ckScript l) = ckChart c := by rw [firstOf_assoc, firstOf_nz h]
    rw [e0, if_neg h, bifT (show ((ckChart c, ()).1 != 0) = true by simpa using h)]

/-! ### The law -/
theorem eqV_input (x : Inp) : eqV (.pair .str (.pair (.int .i64) .unit)) x x = true := by
  show ((x.1 : List UInt8) == x.1 && ((x.2.1 : Int) == x.2.1 && true)) = true
  simp

theorem sameInputs_refl (l : List Inp) (h : l.length < lenMax) : zu_M l l = some (true, ()) := by
  unfold zu_M
  rw [bifF (show ((l.length : Int) != (l.length : Int)) = false by simp), bifT (dec_true h), loopL_same l (fun p x r e => by
    unfold zu_b0
    rw [e, idx_mid p x r _ rfl]
    simp only [Option.bind_some]
    rw [eqV_input]
    rfl) l [] 0 rfl rfl]
  rfl

theorem inputs_eq (l : List Inp) (h : l.length ≤ memMax) : z0J_M l = some (l, ()) := by
  have hmem : memMax = 68719476736 := rfl
  unfold z0J_M
  rw [bifT (dec_true (show l.length < lenMax by unfold lenMax; omega))]
  refine (loopL_app (fun x : Inp => x) l 0 [] (by simpa using h) fun i e s he hs => ?_).trans ?_
  · unfold z0J_b0
    rw [bifT (dec_true hs)]
  · rw [List.map_id', List.nil_append]; rfl

theorem traceOf_length (c : Cha) (hc : Valid c) (states : List Int) : (traceOf (WS c) states).1.length ≤ 16 := by
  have hw := WS_inv c hc
  have hf := hw.few hc
  unfold traceOf
  cases hq : (WS c).find? (fun p => states.contains p.1) with
  | none => simp
  | some p =>
    obtain ⟨j, hj, hp⟩ := List.getElem_of_mem (List.mem_of_find?_eq_some hq)
    have := hw.ln j p (by rw [List.getElem?_eq_getElem hj, hp])
    simp only
    omega

/-- **GateTraces**: for every input the law answers true. -/
theorem gateTraces_law (c : Cha) (states : List Int) (l : List Inp) (hl : l.length < lenMax) : zo_M c states l = some (true, ()) := by
  have hmem : memMax = 68719476736 := rfl
  have aw : (z0V_M.bind fun (v6 : Bool × Unit) => some (v6.1, ())) = some (true, ()) := by rw [awake_true]; rfl
  unfold zo_M zo_m
  obtain ⟨s, hs, hs2⟩ := short_eq c
  obtain ⟨b, hb, hb2⟩ := shortScript_eq l hl
  rw [hs, hb]
  conv => lhs; arg 1; rw [awake_true]
  rw [Option.bind_some, bifF (show (!(true, ()).1) = false from rfl), Option.bind_some]
  cases s with
  | false => exact aw
  | true =>
    have hc := hs2 rfl
    rw [bifF (show (!(true, ()).1) = false from rfl), Option.bind_some]
    cases b with
    | false => exact aw
    | true =>
      obtain ⟨h65, h40⟩ := hb2 rfl
      have hw : ∀ x ∈ l, x.1.length < lenMax := fun x hx => by have := h40 x hx; unfold lenMax; omega
      rw [bifF (show (!(true, ()).1) = false from rfl)]
      by_cases h17 : (states.length : Int) > 17
      · rw [bifT (dec_true h17)]; exact aw
      rw [bifF (dec_false h17), chart_eq c hc]
      simp only [Option.bind_some]
      rw [ints_eq states (by omega), script_eq l (by omega)]
      simp only [Option.bind_some]
      rw [gTrace_eq c hc states (by omega), gprov_eq c hc states l (by omega) (by omega) hw]
      simp only [Option.bind_some]
      rw [rchart_eq]
      simp only [Option.bind_some]
      have fin : ∀ (t : List Inp) (e1 e2 : Int), t.length ≤ 16 → zo_m_j37 0 (t, e1, ()) (e2, ()) e1 t e2 = some (true, ()) := by
        intro t e1 e2 ht
        unfold zo_m_j37
        simp only
        rw [inputs_eq t (by omega)]
        simp only [Option.bind_some]
        rw [sameInputs_refl t (by unfold lenMax; omega)]
        simp only [Option.bind_some, cond_true]
        rw [beq_self_eq_true, beq_self_eq_true]
        rfl
      have main : zo_m_j39 0 c states l (if trE2 c states = 0 then ((traceOf (WS c) states).1, (traceOf (WS c) states).2, ()) else ([], trE2 c states, ())) (if firstOf (trE2 c states) (ckScript l) = 0 then provE c states l else firstOf (trE2 c states) (ckScript l), ()) (trE2 c states) = some (true, ()) := by
        unfold zo_m_j39
        rw [rscript_eq]
        simp only [Option.bind_some]
        rw [lfirst_eq _ (by simp [lenMax])]
        simp only [Option.bind_some, firstE_cons, firstE_nil, firstOf_zero]
        by_cases h1 : trE2 c states = 0
        · have hv := valid_of c (firstOf_eq_zero.1 h1).1
          have htl := traceOf_length c hv states
          rw [if_pos h1, bifT (show (trE2 c states == 0) = true by simpa using h1), rTrace_eq c hv states (by unfold lenMax; omega)]
          simp only [Option.bind_some]
          unfold zo_m_j38
          by_cases h2 : firstOf (trE2 c states) (ckScript l) = 0
          · rw [if_pos h2, bifT (show (firstOf (trE2 c states) (ckScript l) == 0) = true by simpa using h2), rprov_eq c hv states l (by unfold lenMax; omega) (by omega)]
            simp only [Option.bind_some]
            exact fin _ _ _ htl
          · rw [if_neg h2, bifF (show (firstOf (trE2 c states) (ckScript l) == 0) = false by simpa using h2)]
            exact fin _ _ _ htl
        · have h2 : firstOf (trE2 c states) (ckScript l) ≠ 0 := by rw [firstOf_nz h1]; exact h1
          rw [if_neg h1, if_neg h2, bifF (show (trE2 c states == 0) = false by simpa using h1)]
          unfold zo_m_j38
          rw [bifF (show (firstOf (trE2 c states) (ckScript l) == 0) = false by simpa using h2)]
          exact fin [] _ _ (by simp)
      by_cases h : ckChart c = 0
      · have e0 : trE2 c states = lstE c states := by unfold trE2; rw [h, firstOf_z]
        rw [bifT (show (ckChart c == 0) = true by simpa using h), rlst_eq]
        simp only [Option.bind_some]
        rw [← e0]
        exact main
      · have e0 : trE2 c states = ckChart c := firstOf_nz h _
        rw [bifF (show (ckChart c == 0) = false by simpa using h)]
        rw [e0] at main ⊢
        exact main
end Go.Tw
