import Derived.Test.YtohhmdogfjmlcaaGreatPY
import Derived.Test.YtohhmdogfjmlcaaGreatB14
section
set_option linter.all false
set_option maxRecDepth 100000
namespace Go.Tw
open Go.Vx Go.Vx.B Go.Proofs
def foreign (c : Cha) (s : Int) : Bool := decide (s < 0) || decide ((c.1.length : Int) ≤ s)
def lstE (c : Cha) (l : List Int) : Int := if 16 < l.length then 5 else bif l.any (foreign c) then 10 else 0
theorem iff_loop (c : Cha) (xs : List Int) : ∀ (l : List Int) (i : Int), 0 ≤ i → ∃ k, loopL (fun i__ e__ s__ => zG_b0 xs (fun (x : Int × Unit) => zI_M x.fst c) i__ e__) (fun s__ => zG_f0 xs (fun (x : Int × Unit) => zI_M x.fst c)) i l () = some (k, ()) ∧ decide (k ≥ 0) = l.any (foreign c)
  | [], i, _ => ⟨-1, rfl, rfl⟩
  | e :: l, i, hi => by
    have hb : zG_b0 xs (fun (x : Int × Unit) => zI_M x.fst c) i e = some (bif foreign c e then .inl (i, ()) else .inr ()) := by
      unfold zG_b0
      show (Option.bind (some (zI e c)) _) = _
      unfold zI foreign
      rw [show decide (e ≥ (c.1.length : Int)) = decide ((c.1.length : Int) ≤ e) from rfl]
      cases decide (e < 0) <;> cases decide ((c.1.length : Int) ≤ e) <;> rfl
    rw [loopL_cons, hb, List.any_cons]
    cases h : foreign c e with
    | true => exact ⟨i, rfl, by rw [Bool.true_or]; exact dec_true hi⟩
    | false =>
      obtain ⟨k, h1, h2⟩ := iff_loop c xs l (i + 1) (by omega)
      exact ⟨k, h1, by rw [h2]; simp⟩
theorem glst_eq (c : Cha) (l : List Int) (h : l.length ≤ 1000) : zP_M c l = some (lstE c l, ()) := by
  unfold zP_M zP_m zC_M zC_m zG_M
  obtain ⟨k, h1, h2⟩ := iff_loop c l l 0 (by omega)
  rw [bifT (dec_true (show l.length < lenMax by unfold lenMax; omega)), h1]
  simp only [Option.bind_some, when_eq]
  rw [gfirst_eq _ (by simp [lenMax]), h2]
  simp only [Option.bind_some, firstE_cons, firstE_nil, firstOf_zero]
  unfold lstE
  by_cases h : 16 < l.length
  · rw [dec_true (show (l.length : Int) > 16 by omega), if_pos h]; rfl
  · rw [dec_false (show ¬ (l.length : Int) > 16 by omega), if_neg h]; rfl
def traceOf (ps : List Pth) (states : List Int) : List Inp × Int := match ps.find? (fun p => states.contains p.1) with
  | some p => (p.2.1, 0)
  | none => ([], 7)
theorem find_trace (states : List Int) : ∀ ps : List Pth, ps.findSome? (fun p => if (states.contains p.1) = true then some (p.2.1, (0 : Int), ()) else none) = (ps.find? (fun p => states.contains p.1)).map fun p => (p.2.1, (0 : Int), ())
  | [] => rfl
  | p :: ps => by
    rw [List.findSome?_cons, List.find?_cons]
    cases h : states.contains p.1 with
    | true => rfl
    | false => rw [if_neg (by simp)]; exact find_trace states ps
def trE2 (c : Cha) (states : List Int) : Int := firstOf (ckChart c) (lstE c states)
theorem gTrace_eq (c : Cha) (hc : Sh c) (states : List Int) (hs : states.length ≤ 1000) : z0T_M c states = some (if trE2 c states = 0 then ((traceOf (WS c) states).1, (traceOf (WS c) states).2, ()) else ([], trE2 c states, ())) := by
  have hmem : memMax = 68719476736 := rfl
  unfold z0T_M trE2
  rw [gck c hc, Option.bind_some]
  by_cases h : ckChart c = 0
  · have hv := valid_of c h
    have hf := (WS_inv c hv).few hv
    rw [h, bifF (show (((0 : Int), ()).1 != 0) = false from rfl), glst_eq c states hs, Option.bind_some, firstOf_z]
    by_cases he : lstE c states = 0
    · rw [if_pos he, bifF (show ((lstE c states, ()).1 != 0) = false by simpa using he), paths_eq c hv, Option.bind_some, bifT (dec_true (show (WS c).length < lenMax by unfold lenMax; omega))]
      have := loopL_find (body := fun i__ e__ s__ => z0T_b3 states (WS c) [] i__ e__) (fin := fun s__ => z0T_f3 states (WS c) []) (fun p : Pth => if (states.contains p.1) = true then some (p.2.1, (0 : Int), ()) else none) (WS c) 0 (fun i e _ => by
        unfold z0T_b3
        rw [containsI_eq _ _ (by unfold lenMax; omega), Option.bind_some]
        cases states.contains e.1 with
        | true =>
          rw [cond_true, bifT (dec_true (show ([] : List Pth).length + 1 ≤ memMax by simp; omega))]
          rfl
        | false => rfl)
      refine this.trans ?_
      rw [find_trace]
      unfold traceOf
      cases (WS c).find? (fun p => states.contains p.1) <;> rfl
    · rw [if_neg he, bifT (show ((lstE c states, ()).1 != 0) = true by simpa using he)]
  · rw [firstOf_nz h, if_neg h, bifT (show ((ckChart c, ()).1 != 0) = true by simpa using h)]
theorem last_get (x : Int) : ∀ (l : List Int), (x :: l)[l.length]? = some (l.getLastD x)
  | [] => rfl
  | y :: l => by
    rw [List.length_cons, List.getElem?_cons_succ, List.getLastD_cons]
    exact last_get y l
def provE (c : Cha) (states : List Int) (l : List Inp) : Int :=
  firstOf (run0 c l).2 (bif states.contains ((run0 c l).1.getLastD (entr c 0)) then 0 else 22)
theorem gprov_eq (c : Cha) (hc : Sh c) (states : List Int) (l : List Inp) (hs : states.length ≤ 1000) (hl : l.length ≤ 1000) (hw : ∀ x ∈ l, x.1.length < lenMax) :
    zt_M c states l = some (if firstOf (trE2 c states) (ckScript l) = 0 then provE c states l else firstOf (trE2 c states) (ckScript l), ()) := by
  have hmem : memMax = 68719476736 := rfl
  unfold zt_M zt_m trE2
  rw [gck c hc, Option.bind_some]
  by_cases h : ckChart c = 0
  · have hv := valid_of c h
    have hp := hv.pos
    rw [h, bifF (show (((0 : Int), ()).1 != 0) = false from rfl), glst_eq c states hs, Option.bind_some, gscript_eq l hl hw, Option.bind_some, gfirst_eq _ (by simp [lenMax]), Option.bind_some, firstOf_z]
    simp only [firstE_cons, firstE_nil, firstOf_zero]
    by_cases he : firstOf (lstE c states) (ckScript l) = 0
    · have hpl := plays_length c dNone l 0 (entr c 0) []
      rw [List.length_nil, Nat.zero_add] at hpl
      have hpg := gplay_none c hv l hl (script_range (firstOf_eq_zero.1 he).2)
      unfold noF noneW at hpg
      rw [if_pos he, bifF (show (firstOf (lstE c states) (ckScript l) != 0) = false by simpa using he), hpg, Option.bind_some]
      unfold provE
      by_cases hz : (run0 c l).2 = 0
      · rw [bifF (show ((run0 c l).2 != 0) = false by simpa using hz), genter_eq c hv 0 (by omega) (by omega), Option.bind_some, hz, firstOf_z]
        change (bif decide (1 + (run0 c l).1.length ≤ memMax) then _ else _) = _
        revert hpl
        change (run0 c l).1.length ≤ l.length → _
        generalize (run0 c l).1 = r
        intro hpl
        rw [bifT (dec_true (by omega))]
        have e1 : ((([entr c 0] ++ r).length : Nat) : Int) - 1 = (r.length : Int) := by simp
        rw [e1, wrapS (by omega) (by omega), idx_nat, Int.toNat_natCast, List.singleton_append, last_get, Option.bind_some, Option.bind_some, containsI_eq _ _ (by unfold lenMax; omega), Option.bind_some, when_eq]
        cases states.contains (r.getLastD (entr c 0)) <;> rfl
      · rw [bifT (show ((run0 c l).2 != 0) = true by simpa using hz), firstOf_nz hz]
    · rw [if_neg he, bifT (show (firstOf (lstE c states) (ckScript l) != 0) = true by simpa using he)]
  · have e0 : firstOf (firstOf (ckChart c) (lstE c states)) (ckScript l) = ckChart c := by rw [firstOf_assoc, firstOf_nz h]
    rw [e0, if_neg h, bifT (show ((ckChart c, ()).1 != 0) = true by simpa using h)]
theorem inputs_eq (l : List Inp) (h : l.length ≤ memMax) : z0E_M l = some (l, ()) := by
  have hmem : memMax = 68719476736 := rfl
  unfold z0E_M
  rw [bifT (dec_true (show l.length < lenMax by unfold lenMax; omega))]
  refine (loopL_app (fun x : Inp => x) l 0 [] (by simpa using h) fun i e s he hs => ?_).trans ?_
  · unfold z0E_b0
    rw [bifT (dec_true hs)]
  · rw [List.map_id', List.nil_append]; rfl
end Go.Tw
end
section
set_option linter.all false
set_option maxRecDepth 100000
namespace Go.Tw
open Go.Vx Go.Vx.B Go.Proofs
def pickV (p : Int → List UInt8 → Int → Bool) (leaf : Int) (e : List UInt8) : Nat → Int → List Cas
  | 0, _ => []
  | m + 1, v => (bif p leaf e v then [(leaf, e, v, ())] else []) ++ pickV p leaf e m (v + 1)
def pickE (p : Int → List UInt8 → Int → Bool) (leaf : Int) : List (List UInt8) → List Cas
  | [] => []
  | e :: l => pickV p leaf e 16 0 ++ pickE p leaf l
def pickL (p : Int → List UInt8 → Int → Bool) (ev : List (List UInt8)) : List Int → List Cas
  | [] => []
  | i :: l => pickE p i ev ++ pickL p ev l
theorem pickV_length (p : Int → List UInt8 → Int → Bool) (leaf : Int) (e : List UInt8) : ∀ (m : Nat) (v : Int), (pickV p leaf e m v).length ≤ m
  | 0, v => Nat.le_refl _
  | m + 1, v => by
    have := pickV_length p leaf e m (v + 1)
    unfold pickV
    rw [List.length_append]
    cases p leaf e v <;> simp <;> omega
theorem pickE_length (p : Int → List UInt8 → Int → Bool) (leaf : Int) : ∀ ev : List (List UInt8), (pickE p leaf ev).length ≤ 16 * ev.length
  | [] => Nat.le_refl _
  | e :: l => by
    have := pickE_length p leaf l
    have := pickV_length p leaf e 16 0
    unfold pickE
    rw [List.length_append, List.length_cons]
    omega
theorem pickL_length (p : Int → List UInt8 → Int → Bool) (ev : List (List UInt8)) (hev : ev.length ≤ 48) : ∀ ls : List Int, (pickL p ev ls).length ≤ 768 * ls.length
  | [] => Nat.le_refl _
  | i :: l => by
    have := pickL_length p ev hev l
    have := pickE_length p i ev
    unfold pickL
    rw [List.length_append, List.length_cons]
    omega
def outc (c : Cha) (leaf : Int) (e : List UInt8) (v : Int) : Int × Bool × Bool × Unit := match takes c leaf e v with
  | [] => (leaf, true, false, ())
  | [t] => (entr c t.2.2.1, false, false, ())
  | _ => (leaf, false, true, ())
theorem gstep_out (c : Cha) (hc : Valid c) (leaf : Int) (e : List UInt8) (v : Int) (h0 : 0 ≤ leaf) (h1 : leaf < c.1.length) (hv : 0 ≤ v ∧ v ≤ 15) : zq_M c leaf (e, v, ()) = some (outc c leaf e v, ()) := by
  rw [gstep_eq c hc leaf (e, v, ()) h0 h1 hv]
  unfold outc
  generalize takes c leaf (e, v, ()).1 (e, v, ()).2.1 = fs
  match fs with
  | [] => rfl
  | [t] => rfl
  | t :: u :: l => rfl
section
variable (c : Cha) (hc : Valid c) (H : Cas × (Int × Bool × Bool × Unit) × Unit → Option (Bool × Unit)) (p : Int → List UInt8 → Int → Bool)
  (hH : ∀ (leaf : Int) (e : List UInt8) (v : Int), 0 ≤ leaf → leaf < c.1.length → 0 ≤ v → v ≤ 15 → H ((leaf, e, v, ()), outc c leaf e v, ()) = some (p leaf e v, ()))
include hc hH
theorem gp_loop (e : List UInt8) (leaf : Int) (h0 : 0 ≤ leaf) (h1 : leaf < c.1.length) (t7 : List (List UInt8)) (t8 t9 : Int) (a7 : List Int) (a8 a9 : Int) (a10 : Bool) (a11 a12 : Int) (a13 a14 : Cha) (q0 : Cha) (q1 : List Int) (q2 : Cas × (Int × Bool × Bool × Unit) × Unit → Option (Bool × Unit)) (q3 q10 : Cha) (q11 q12 : List Int) (q13 k2 : Cha) (k7 : List Int) (k8 k9 : Int) (k10 : Bool) (k11 k12 : Int) (k13 k14 k31 : Cha) (k32 : List Int) (k33 : Cas × (Int × Bool × Bool × Unit) × Unit → Option (Bool × Unit)) (k34 : Cha) (k36 : Cas × (Int × Bool × Bool × Unit) × Unit → Option (Bool × Unit)) (k41 : Cha) (k42 k430 : List Int) (k431 : Cha) :
    ∀ (m : Nat) (v : Int) (s : List Cas), 0 ≤ v → v + m ≤ 16 → s.length + m ≤ 1000000 →
    loopN (fun i__ s__ => zZ_b5 e t7 t8 t9 c a7 a8 a9 a10 a11 a12 a13 a14 leaf q0 q1 q2 q3 H q10 q11 q12 q13 k2 k7 k8 k9 k10 k11 k12 k13 k14 k31 k32 k33 k34 k36 k41 k42 k430 k431 i__ s__) (fun s__ => zZ_f5 e t7 t8 t9 c a7 a8 a9 a10 a11 a12 a13 a14 leaf q0 q1 q2 q3 H q10 q11 q12 q13 k2 k7 k8 k9 k10 k11 k12 k13 k14 k31 k32 k33 k34 k36 k41 k42 k430 k431 s__) m v s = some (.inr (s ++ pickV p leaf e m v))
  | 0, v, s, _, _, _ => by simp [loopN, pickV, zZ_f5]
  | m + 1, v, s, hv0, hv1, hs => by
    have hmem : memMax = 68719476736 := rfl
    have hb : zZ_b5 e t7 t8 t9 c a7 a8 a9 a10 a11 a12 a13 a14 leaf q0 q1 q2 q3 H q10 q11 q12 q13 k2 k7 k8 k9 k10 k11 k12 k13 k14 k31 k32 k33 k34 k36 k41 k42 k430 k431 v s = some (.inr (s ++ (bif p leaf e v then [(leaf, e, v, ())] else []))) := by
      unfold zZ_b5
      rw [gstep_out c hc leaf e v h0 h1 ⟨hv0, by omega⟩, Option.bind_some]
      show (Option.bind (H ((leaf, e, v, ()), outc c leaf e v, ())) _) = _
      rw [hH leaf e v h0 h1 hv0 (by omega), Option.bind_some]
      cases p leaf e v with
      | true => rw [cond_true, cond_true, bifT (dec_true (show s.length + 1 ≤ memMax by omega))]
      | false => simp
    unfold loopN
    simp only [hb, Option.bind_some]
    refine (gp_loop e leaf h0 h1 t7 t8 t9 a7 a8 a9 a10 a11 a12 a13 a14 q0 q1 q2 q3 q10 q11 q12 q13 k2 k7 k8 k9 k10 k11 k12 k13 k14 k31 k32 k33 k34 k36 k41 k42 k430 k431 m (v + 1) _ (by omega) (by omega) (by rw [List.length_append]; cases p leaf e v <;> simp <;> omega)).trans ?_
    rw [List.append_assoc]
    rfl
theorem gpe_loop (leaf : Int) (h0 : 0 ≤ leaf) (h1 : leaf < c.1.length) (t7 : List (List UInt8)) (a7 : List Int) (a8 a9 : Int) (a10 : Bool) (a11 a12 : Int) (a13 a14 : Cha) (q0 : Cha) (q1 : List Int) (q2 : Cas × (Int × Bool × Bool × Unit) × Unit → Option (Bool × Unit)) (q3 q10 : Cha) (q11 q12 : List Int) (q13 k2 : Cha) (k7 : List Int) (k8 k9 : Int) (k10 : Bool) (k11 k12 : Int) (k13 k14 k31 : Cha) (k32 : List Int) (k33 : Cas × (Int × Bool × Bool × Unit) × Unit → Option (Bool × Unit)) (k34 : Cha) (k36 : Cas × (Int × Bool × Bool × Unit) × Unit → Option (Bool × Unit)) (k41 : Cha) (k42 k430 : List Int) (k431 : Cha) :
    ∀ (l : List (List UInt8)) (j : Int) (s : List Cas), s.length + 16 * l.length ≤ 1000000 →
    loopL (fun i__ e__ s__ => zZ_b3 t7 c a7 a8 a9 a10 a11 a12 a13 a14 leaf q0 q1 q2 q3 H q10 q11 q12 q13 k2 k7 k8 k9 k10 k11 k12 k13 k14 k31 k32 k33 k34 k36 k41 k42 k430 k431 i__ e__ s__) (fun s__ => zZ_f3 t7 c a7 a8 a9 a10 a11 a12 a13 a14 leaf q0 q1 q2 q3 H q10 q11 q12 q13 k2 k7 k8 k9 k10 k11 k12 k13 k14 k31 k32 k33 k34 k36 k41 k42 k430 k431 s__) j l s = some (.inr (s ++ pickE p leaf l))
  | [], j, s, _ => by simp [loopL_nil, pickE, zZ_f3]
  | e :: l, j, s, hs => by
    simp only [List.length_cons] at hs
    have hb : zZ_b3 t7 c a7 a8 a9 a10 a11 a12 a13 a14 leaf q0 q1 q2 q3 H q10 q11 q12 q13 k2 k7 k8 k9 k10 k11 k12 k13 k14 k31 k32 k33 k34 k36 k41 k42 k430 k431 j e s = some (.inr (s ++ pickV p leaf e 16 0)) := by
      unfold zZ_b3
      rw [bifT (by rfl)]
      exact gp_loop c hc H p hH e leaf h0 h1 t7 (t7.length : Int) j a7 a8 a9 a10 a11 a12 a13 a14 q0 q1 q2 q3 q10 q11 q12 q13 k2 k7 k8 k9 k10 k11 k12 k13 k14 k31 k32 k33 k34 k36 k41 k42 k430 k431 16 0 s (by omega) (by omega) (by omega)
    have hl := pickV_length p leaf e 16 0
    rw [loopL_cons]
    simp only [hb, Option.bind_some]
    refine (gpe_loop leaf h0 h1 t7 a7 a8 a9 a10 a11 a12 a13 a14 q0 q1 q2 q3 q10 q11 q12 q13 k2 k7 k8 k9 k10 k11 k12 k13 k14 k31 k32 k33 k34 k36 k41 k42 k430 k431 l (j + 1) _ (by rw [List.length_append]; omega)).trans ?_
    rw [List.append_assoc]
    rfl
theorem gpl_loop (t7 : List Int) (q0 : Cha) (q1 : List Int) (q2 : Cas × (Int × Bool × Bool × Unit) × Unit → Option (Bool × Unit)) (q3 q10 : Cha) (q11 q12 : List Int) (q13 k0 : Cha) (k1 : List Int) (k2 : Cas × (Int × Bool × Bool × Unit) × Unit → Option (Bool × Unit)) (k3 : Cha) (k5 : Cas × (Int × Bool × Bool × Unit) × Unit → Option (Bool × Unit)) (k10 : Cha) (k11 k120 : List Int) (k121 : Cha) :
    ∀ (l : List Int) (j : Int) (s : List Cas), (∀ x ∈ l, 0 ≤ x ∧ x < c.1.length) → s.length + 768 * l.length ≤ 1000000 →
    loopL (fun i__ e__ s__ => zZ_b0 c t7 q0 q1 q2 q3 H q10 q11 q12 q13 k0 k1 k2 k3 k5 k10 k11 k120 k121 i__ e__ s__) (fun s__ => zZ_f0 c t7 q0 q1 q2 q3 H q10 q11 q12 q13 k0 k1 k2 k3 k5 k10 k11 k120 k121 s__) j l s = some (s ++ pickL p (evts c.2.1) l, ())
  | [], j, s, _, _ => by simp [loopL_nil, pickL, zZ_f0]
  | i :: l, j, s, hr, hs => by
    simp only [List.length_cons] at hs
    have h48 := hc.moves
    have hev := evts_length c.2.1
    have hi := hr i (by simp)
    have hb : zZ_b0 c t7 q0 q1 q2 q3 H q10 q11 q12 q13 k0 k1 k2 k3 k5 k10 k11 k120 k121 j i s = some (.inr (s ++ pickE p i (evts c.2.1))) := by
      unfold zZ_b0
      rw [gevents_eq c (by omega), Option.bind_some, bifT (dec_true (show (evts c.2.1).length < lenMax by unfold lenMax; omega))]
      exact gpe_loop c hc H p hH i hi.1 hi.2 _ _ _ _ _ _ _ _ _ _ _ _ _ _ _ _ _ _ _ _ _ _ _ _ _ _ _ _ _ _ _ _ _ _ _ (evts c.2.1) 0 s (by omega)
    have hl := pickE_length p i (evts c.2.1)
    rw [loopL_cons]
    simp only [hb, Option.bind_some]
    refine (gpl_loop t7 q0 q1 q2 q3 q10 q11 q12 q13 k0 k1 k2 k3 k5 k10 k11 k120 k121 l (j + 1) _ (fun x hx => hr x (by simp [hx])) (by rw [List.length_append]; omega)).trans ?_
    rw [List.append_assoc]
    rfl
theorem gpicked_eq (ls : List Int) (hl : ls.length ≤ 100) (hr : ∀ x ∈ ls, 0 ≤ x ∧ x < c.1.length) : zZ_M c ls H = some (pickL p (evts c.2.1) ls, ()) := by
  unfold zZ_M
  rw [bifT (dec_true (show ls.length < lenMax by unfold lenMax; omega))]
  have := gpl_loop c hc H p hH ls c ls H c c ls ls c c ls H c H c ls ls c ls 0 [] hr (by simp; omega)
  rw [List.nil_append] at this
  exact this
end
end Go.Tw
end
section
set_option linter.all false
set_option maxRecDepth 100000
namespace Go.Tw
open Go.Vx Go.Vx.B Go.Proofs
def rea (ls : List Int) : Nat → Int → List Int
  | 0, _ => []
  | m + 1, i => List.replicate (ls.count i) i ++ rea ls m (i + 1)
theorem rea_count (ls : List Int) : ∀ (m : Nat) (i a : Int), (rea ls m i).count a = if i ≤ a ∧ a < i + m then ls.count a else 0
  | 0, i, a => by rw [if_neg (by omega)]; rfl
  | m + 1, i, a => by
    unfold rea
    rw [List.count_append, List.count_replicate, rea_count ls m (i + 1) a]
    by_cases h : i = a
    · subst h
      rw [if_pos (by simp), if_neg (by omega), if_pos (by omega), Nat.add_zero]
    · rw [if_neg (by simpa using h)]
      by_cases h2 : i + 1 ≤ a ∧ a < i + 1 + (m : Int)
      · rw [if_pos h2, if_pos (by omega), Nat.zero_add]
      · rw [if_neg h2, if_neg (by omega)]
theorem rea_ge (ls : List Int) : ∀ (m : Nat) (i x : Int), x ∈ rea ls m i → i ≤ x
  | 0, i, x, h => by cases h
  | m + 1, i, x, h => by
    unfold rea at h
    rcases List.mem_append.1 h with h | h
    · rw [(List.mem_replicate.1 h).2]; omega
    · have := rea_ge ls m (i + 1) x h; omega
theorem rea_sorted (ls : List Int) : ∀ (m : Nat) (i : Int), (rea ls m i).Pairwise (· ≤ ·)
  | 0, i => List.Pairwise.nil
  | m + 1, i => by
    unfold rea
    refine List.pairwise_append.2 ⟨?_, rea_sorted ls m (i + 1), fun a ha b hb => ?_⟩
    · exact List.pairwise_replicate.2 (.inr (Int.le_refl _))
    · have := rea_ge ls m (i + 1) b hb
      rw [(List.mem_replicate.1 ha).2]
      omega
theorem rea_sort (ls : List Int) (n : Nat) (h : ∀ x ∈ ls, 0 ≤ x ∧ x < n) : rea ls n 0 = sortI ls := by
  refine List.Perm.eq_of_pairwise (le := fun x y : Int => x ≤ y) (fun a b _ _ h1 h2 => Int.le_antisymm h1 h2) (rea_sorted ls n 0) (sortI_sorted ls) (List.Perm.trans ?_ (sortI_perm ls).symm)
  refine List.perm_iff_count.2 fun a => ?_
  rw [rea_count]
  by_cases ha : a ∈ ls
  · have := h a ha
    rw [if_pos (by omega)]
  · rw [List.count_eq_zero_of_not_mem ha]
    split <;> rfl
def RS (c : Cha) : List Int := sortI (lvs (WS c))
theorem RS_mem (c : Cha) (hc : Valid c) (x : Int) (h : x ∈ RS c) : 0 ≤ x ∧ x < c.1.length := by
  have := (sortI_perm _).mem_iff.1 h
  obtain ⟨p, hp, rfl⟩ := List.mem_map.1 this
  exact (WS_inv c hc).rg p hp
theorem RS_length (c : Cha) (hc : Valid c) : (RS c).length ≤ 16 := by
  have := (sortI_perm (lvs (WS c))).length_eq
  have h2 := (WS_inv c hc).few hc
  unfold RS
  rw [this, List.length_map]
  exact h2
theorem greach_eq (c : Cha) (hc : Valid c) : zQ_M c = some (RS c, ()) := by
  have hmem : memMax = 68719476736 := rfl
  have hf := (WS_inv c hc).few hc
  unfold zQ_M
  rw [paths_eq c hc, Option.bind_some, bifT (dec_true (show (WS c).length < lenMax by unfold lenMax; omega))]
  refine (loopL_app (fun p : Pth => p.1) (WS c) 0 [] (by simp; omega) fun i e s he hs => ?_).trans ?_
  · unfold zQ_b1
    rw [bifT (dec_true hs)]
    rfl
  · rw [List.nil_append]
    unfold zQ_f1
    rw [bifT (dec_true (show ((WS c).map fun p => p.1).length ≤ memMax by rw [List.length_map]; omega))]
    rfl
theorem gReach_eq (c : Cha) (hc : Sh c) : zy_M c = some (if ckChart c = 0 then (RS c, 0, ()) else ([], ckChart c, ())) := by
  unfold zy_M zy_m
  rw [gck c hc, Option.bind_some]
  by_cases h : ckChart c = 0
  · rw [if_pos h, bifF (show ((ckChart c, ()).1 != 0) = false by simpa using h), greach_eq c (valid_of c h)]
    rfl
  · rw [if_neg h, bifT (show ((ckChart c, ()).1 != 0) = true by simpa using h)]
def mvs (c : Cha) (i : Int) : Bool := match c.1[i.toNat]? with
  | some s => s.2.2.2.1
  | none => false
def pMove (c : Cha) (leaf : Int) (e : List UInt8) (v : Int) : Bool := (stp c leaf e v).2 == 0 && mvs c (stp c leaf e v).1
def pLock (c : Cha) (leaf : Int) (e : List UInt8) (v : Int) : Bool := (bitsOp .i64 .and v 1 != 0) && pMove c leaf e v
theorem gAgainst_eq (c : Cha) (hc : Sh c) : z06_M c = some (if ckChart c = 0 then (pickL (pLock c) (evts c.2.1) (RS c), 0, ()) else ([], ckChart c, ())) := by
  unfold z06_M z06_m
  rw [gck c hc, Option.bind_some]
  by_cases h : ckChart c = 0
  · have hv := valid_of c h
    have hl := RS_length c hv
    have hH : ∀ (leaf : Int) (e : List UInt8) (v : Int), 0 ≤ leaf → leaf < c.1.length → 0 ≤ v → v ≤ 15 → (fun (x : Cas × (Int × Bool × Bool × Unit) × Unit) => zw_M x.fst x.snd.fst c) ((leaf, e, v, ()), outc c leaf e v, ()) = some (pLock c leaf e v, ()) := by
      intro leaf e v h0 h1 hv0 hv1
      show zw_M (leaf, e, v, ()) (outc c leaf e v) c = _
      unfold zw_M zw_m pLock pMove
      simp only
      generalize (bitsOp .i64 .and v 1 != 0) = q
      cases q with
      | false => rfl
      | true =>
        rw [cond_true, Bool.true_and]
        have hsl := stp_leaf c hv leaf e v h0 h1
        have hst : stp c leaf e v = match takes c leaf e v with | [] => (leaf, 0) | [t] => (entr c t.2.2.1, 0) | _ => (0, 30) := rfl
        unfold outc
        revert hst hsl
        generalize stp c leaf e v = y
        generalize takes c leaf e v = fs
        have fin : ∀ x : Int, 0 ≤ x ∧ x < c.1.length → (Option.bind (idx c.1 x) fun (v0 : Sta) => some (v0.2.2.2.1, ())) = some (mvs c x, ()) := by
          intro x hx
          have hlt : x.toNat < c.1.length := by omega
          have hg : c.1[x.toNat]? = some c.1[x.toNat] := List.getElem?_eq_getElem hlt
          unfold mvs
          rw [idx_int _ hx.1, hg]
          rfl
        match fs with
        | [] => intro hsl hst; subst hst; exact fin leaf ⟨h0, h1⟩
        | [t] => intro hsl hst; subst hst; exact fin _ (hsl rfl)
        | t :: u :: l => intro hsl hst; subst hst; rfl
    rw [if_pos h, bifF (show ((ckChart c, ()).1 != 0) = false by simpa using h), greach_eq c hv, Option.bind_some, gpicked_eq c hv _ (pLock c) hH _ (by show (RS c).length ≤ 100; omega) (fun x hx => RS_mem c hv x hx)]
    rfl
  · rw [if_neg h, bifT (show ((ckChart c, ()).1 != 0) = true by simpa using h)]
end Go.Tw
end
