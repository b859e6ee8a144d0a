import Derived.Test.YtohhmdogfjmlcaaGreatPY
import Derived.Test.YtohhmdogfjmlcaaGreatB14
section
set_option linter.all false
set_option maxRecDepth 100000
namespace Go.Tw
open Go.Vx Go.Vx.B Go.Proofs
end Go.Tw
end
section
set_option linter.all false
set_option maxRecDepth 100000
namespace Go.Tw
open Go.Vx Go.Vx.B Go.Proofs
def pickV (p : Int → List UInt8 → Int → Bool) (leaf : Int) (e : List UInt8) : Nat → Int → List Cas
  | 0, _ => []
  | m + 1, v => (bif p leaf e v then [(leaf, e, v, ())] else []) ++ pickV p leaf e m (v + 1)
def pickE (p : Int → List UInt8 → Int → Bool) (leaf : Int) : List (List UInt8) → List Cas
  | [] => []
  | e :: l => pickV p leaf e 16 0 ++ pickE p leaf l
def pickL (p : Int → List UInt8 → Int → Bool) (ev : List (List UInt8)) : List Int → List Cas
  | [] => []
  | i :: l => pickE p i ev ++ pickL p ev l
theorem pickV_length (p : Int → List UInt8 → Int → Bool) (leaf : Int) (e : List UInt8) : ∀ (m : Nat) (v : Int), (pickV p leaf e m v).length ≤ m
  | 0, v => Nat.le_refl _
  | m + 1, v => by
    have := pickV_length p leaf e m (v + 1)
    unfold pickV
    rw [List.length_append]
    cases p leaf e v <;> simp <;> omega
theorem pickE_length (p : Int → List UInt8 → Int → Bool) (leaf : Int) : ∀ ev : List (List UInt8), (pickE p leaf ev).length ≤ 16 * ev.length
  | [] => Nat.le_refl _
  | e :: l => by
    have := pickE_length p leaf l
    have := pickV_length p leaf e 16 0
    unfold pickE
    rw [List.length_append, List.length_cons]
    omega
theorem pickL_length (p : Int → List UInt8 → Int → Bool) (ev : List (List UInt8)) (hev : ev.length ≤ 48) : ∀ ls : List Int, (pickL p ev ls).length ≤ 768 * ls.length
  | [] => Nat.le_refl _
  | i :: l => by
    have := pickL_length p ev hev l
    have := pickE_length p i ev
    unfold pickL
    rw [List.length_append, List.length_cons]
    omega
def outc (c : Cha) (leaf : Int) (e : List UInt8) (v : Int) : Int × Bool × Bool × Unit := match takes c leaf e v with
  | [] => (leaf, true, false, ())
  | [t] => (entr c t.2.2.1, false, false, ())
  | _ => (leaf, false, true, ())
theorem gstep_out (c : Cha) (hc : Valid c) (leaf : Int) (e : List UInt8) (v : Int) (h0 : 0 ≤ leaf) (h1 : leaf < c.1.length) (hv : 0 ≤ v ∧ v ≤ 15) : zp_M c leaf (e, v, ()) = some (outc c leaf e v, ()) := by
  rw [gstep_eq c hc leaf (e, v, ()) h0 h1 hv]
  unfold outc
  generalize takes c leaf (e, v, ()).1 (e, v, ()).2.1 = fs
  match fs with
  | [] => rfl
  | [t] => rfl
  | t :: u :: l => rfl
section
variable (c : Cha) (hc : Valid c) (H : Cas × (Int × Bool × Bool × Unit) × Unit → Option (Bool × Unit)) (p : Int → List UInt8 → Int → Bool)
  (hH : ∀ (leaf : Int) (e : List UInt8) (v : Int), 0 ≤ leaf → leaf < c.1.length → 0 ≤ v → v ≤ 15 → H ((leaf, e, v, ()), outc c leaf e v, ()) = some (p leaf e v, ()))
include hc hH
theorem gp_loop (e : List UInt8) (leaf : Int) (h0 : 0 ≤ leaf) (h1 : leaf < c.1.length) (t7 : List (List UInt8)) (t8 t9 : Int) (a7 : List Int) (a8 a9 : Int) (a10 : Bool) (a11 a12 : Int) (a13 a14 : Cha) (q0 : Cha) (q1 : List Int) (q2 : Cas × (Int × Bool × Bool × Unit) × Unit → Option (Bool × Unit)) (q3 q10 : Cha) (q11 q12 : List Int) (q13 k2 : Cha) (k7 : List Int) (k8 k9 : Int) (k10 : Bool) (k11 k12 : Int) (k13 k14 k31 : Cha) (k32 : List Int) (k33 : Cas × (Int × Bool × Bool × Unit) × Unit → Option (Bool × Unit)) (k34 : Cha) (k36 : Cas × (Int × Bool × Bool × Unit) × Unit → Option (Bool × Unit)) (k41 : Cha) (k42 k430 : List Int) (k431 : Cha) :
    ∀ (m : Nat) (v : Int) (s : List Cas), 0 ≤ v → v + m ≤ 16 → s.length + m ≤ 1000000 →
    loopN (fun i__ s__ => zZ_b5 e t7 t8 t9 c a7 a8 a9 a10 a11 a12 a13 a14 leaf q0 q1 q2 q3 H q10 q11 q12 q13 k2 k7 k8 k9 k10 k11 k12 k13 k14 k31 k32 k33 k34 k36 k41 k42 k430 k431 i__ s__) (fun s__ => zZ_f5 e t7 t8 t9 c a7 a8 a9 a10 a11 a12 a13 a14 leaf q0 q1 q2 q3 H q10 q11 q12 q13 k2 k7 k8 k9 k10 k11 k12 k13 k14 k31 k32 k33 k34 k36 k41 k42 k430 k431 s__) m v s = some (.inr (s ++ pickV p leaf e m v))
  | 0, v, s, _, _, _ => by simp [loopN, pickV, zZ_f5]
  | m + 1, v, s, hv0, hv1, hs => by
    have hmem : memMax = 68719476736 := rfl
    have hb : zZ_b5 e t7 t8 t9 c a7 a8 a9 a10 a11 a12 a13 a14 leaf q0 q1 q2 q3 H q10 q11 q12 q13 k2 k7 k8 k9 k10 k11 k12 k13 k14 k31 k32 k33 k34 k36 k41 k42 k430 k431 v s = some (.inr (s ++ (bif p leaf e v then [(leaf, e, v, ())] else []))) := by
      unfold zZ_b5
      rw [gstep_out c hc leaf e v h0 h1 ⟨hv0, by omega⟩, Option.bind_some]
      show (Option.bind (H ((leaf, e, v, ()), outc c leaf e v, ())) _) = _
      rw [hH leaf e v h0 h1 hv0 (by omega), Option.bind_some]
      cases p leaf e v with
      | true => rw [cond_true, cond_true, bifT (dec_true (show s.length + 1 ≤ memMax by omega))]
      | false => simp
    unfold loopN
    simp only [hb, Option.bind_some]
    refine (gp_loop e leaf h0 h1 t7 t8 t9 a7 a8 a9 a10 a11 a12 a13 a14 q0 q1 q2 q3 q10 q11 q12 q13 k2 k7 k8 k9 k10 k11 k12 k13 k14 k31 k32 k33 k34 k36 k41 k42 k430 k431 m (v + 1) _ (by omega) (by omega) (by rw [List.length_append]; cases p leaf e v <;> simp <;> omega)).trans ?_
    rw [List.append_assoc]
    rfl
theorem gpe_loop (leaf : Int) (h0 : 0 ≤ leaf) (h1 : leaf < c.1.length) (t7 : List (List UInt8)) (a7 : List Int) (a8 a9 : Int) (a10 : Bool) (a11 a12 : Int) (a13 a14 : Cha) (q0 : Cha) (q1 : List Int) (q2 : Cas × (Int × Bool × Bool × Unit) × Unit → Option (Bool × Unit)) (q3 q10 : Cha) (q11 q12 : List Int) (q13 k2 : Cha) (k7 : List Int) (k8 k9 : Int) (k10 : Bool) (k11 k12 : Int) (k13 k14 k31 : Cha) (k32 : List Int) (k33 : Cas × (Int × Bool × Bool × Unit) × Unit → Option (Bool × Unit)) (k34 : Cha) (k36 : Cas × (Int × Bool × Bool × Unit) × Unit → Option (Bool × Unit)) (k41 : Cha) (k42 k430 : List Int) (k431 : Cha) :
    ∀ (l : List (List UInt8)) (j : Int) (s : List Cas), s.length + 16 * l.length ≤ 1000000 →
    loopL (fun i__ e__ s__ => zZ_b3 t7 c a7 a8 a9 a10 a11 a12 a13 a14 leaf q0 q1 q2 q3 H q10 q11 q12 q13 k2 k7 k8 k9 k10 k11 k12 k13 k14 k31 k32 k33 k34 k36 k41 k42 k430 k431 i__ e__ s__) (fun s__ => zZ_f3 t7 c a7 a8 a9 a10 a11 a12 a13 a14 leaf q0 q1 q2 q3 H q10 q11 q12 q13 k2 k7 k8 k9 k10 k11 k12 k13 k14 k31 k32 k33 k34 k36 k41 k42 k430 k431 s__) j l s = some (.inr (s ++ pickE p leaf l))
  | [], j, s, _ => by simp [loopL_nil, pickE, zZ_f3]
  | e :: l, j, s, hs => by
    simp only [List.length_cons] at hs
    have hb : zZ_b3 t7 c a7 a8 a9 a10 a11 a12 a13 a14 leaf q0 q1 q2 q3 H q10 q11 q12 q13 k2 k7 k8 k9 k10 k11 k12 k13 k14 k31 k32 k33 k34 k36 k41 k42 k430 k431 j e s = some (.inr (s ++ pickV p leaf e 16 0)) := by
      unfold zZ_b3
      rw [bifT (by rfl)]
      exact gp_loop c hc H p hH e leaf h0 h1 t7 (t7.length : Int) j a7 a8 a9 a10 a11 a12 a13 a14 q0 q1 q2 q3 q10 q11 q12 q13 k2 k7 k8 k9 k10 k11 k12 k13 k14 k31 k32 k33 k34 k36 k41 k42 k430 k431 16 0 s (by omega) (by omega) (by omega)
    have hl := pickV_length p leaf e 16 0
    rw [loopL_cons]
    simp only [hb, Option.bind_some]
    refine (gpe_loop leaf h0 h1 t7 a7 a8 a9 a10 a11 a12 a13 a14 q0 q1 q2 q3 q10 q11 q12 q13 k2 k7 k8 k9 k10 k11 k12 k13 k14 k31 k32 k33 k34 k36 k41 k42 k430 k431 l (j + 1) _ (by rw [List.length_append]; omega)).trans ?_
    rw [List.append_assoc]
    rfl
theorem gpl_loop (t7 : List Int) (q0 : Cha) (q1 : List Int) (q2 : Cas × (Int × Bool × Bool × Unit) × Unit → Option (Bool × Unit)) (q3 q10 : Cha) (q11 q12 : List Int) (q13 k0 : Cha) (k1 : List Int) (k2 : Cas × (Int × Bool × Bool × Unit) × Unit → Option (Bool × Unit)) (k3 : Cha) (k5 : Cas × (Int × Bool × Bool × Unit) × Unit → Option (Bool × Unit)) (k10 : Cha) (k11 k120 : List Int) (k121 : Cha) :
    ∀ (l : List Int) (j : Int) (s : List Cas), (∀ x ∈ l, 0 ≤ x ∧ x < c.1.length) → s.length + 768 * l.length ≤ 1000000 →
    loopL (fun i__ e__ s__ => zZ_b0 c t7 q0 q1 q2 q3 H q10 q11 q12 q13 k0 k1 k2 k3 k5 k10 k11 k120 k121 i__ e__ s__) (fun s__ => zZ_f0 c t7 q0 q1 q2 q3 H q10 q11 q12 q13 k0 k1 k2 k3 k5 k10 k11 k120 k121 s__) j l s = some (s ++ pickL p (evts c.2.1) l, ())
  | [], j, s, _, _ => by simp [loopL_nil, pickL, zZ_f0]
  | i :: l, j, s, hr, hs => by
    simp only [List.length_cons] at hs
    have h48 := hc.moves
    have hev := evts_length c.2.1
    have hi := hr i (by simp)
    have hb : zZ_b0 c t7 q0 q1 q2 q3 H q10 q11 q12 q13 k0 k1 k2 k3 k5 k10 k11 k120 k121 j i s = some (.inr (s ++ pickE p i (evts c.2.1))) := by
      unfold zZ_b0
      rw [gevents_eq c (by omega), Option.bind_some, bifT (dec_true (show (evts c.2.1).length < lenMax by unfold lenMax; omega))]
      exact gpe_loop c hc H p hH i hi.1 hi.2 _ _ _ _ _ _ _ _ _ _ _ _ _ _ _ _ _ _ _ _ _ _ _ _ _ _ _ _ _ _ _ _ _ _ _ (evts c.2.1) 0 s (by omega)
    have hl := pickE_length p i (evts c.2.1)
    rw [loopL_cons]
    simp only [hb, Option.bind_some]
    refine (gpl_loop t7 q0 q1 q2 q3 q10 q11 q12 q13 k0 k1 k2 k3 k5 k10 k11 k120 k121 l (j + 1) _ (fun x hx => hr x (by simp [hx])) (by rw [List.length_append]; omega)).trans ?_
    rw [List.append_assoc]
    rfl
theorem gpicked_eq (ls : List Int) (hl : ls.length ≤ 100) (hr : ∀ x ∈ ls, 0 ≤ x ∧ x < c.1.length) : zZ_M c ls H = some (pickL p (evts c.2.1) ls, ()) := by
  unfold zZ_M
  rw [bifT (dec_true (show ls.length < lenMax by unfold lenMax; omega))]
  have := gpl_loop c hc H p hH ls c ls H c c ls ls c c ls H c H c ls ls c ls 0 [] hr (by simp; omega)
  rw [List.nil_append] at this
  exact this
end
def pMany (c : Cha) (many : Bool) (leaf : Int) (e : List UInt8) (v : Int) : Bool := match takes c leaf e v with
  | [] => !many
  | [_] => false
  | _ => many
theorem leavesF_mem : ∀ (l : List Sta) (k x : Int), x ∈ leavesF k l → k ≤ x ∧ x < k + l.length
  | [], k, x, h => by cases h
  | s :: l, k, x, h => by
    unfold leavesF at h
    rw [List.length_cons]
    rcases List.mem_append.1 h with h | h
    · split at h
      · rw [List.mem_singleton] at h; subst h; omega
      · cases h
    · have := leavesF_mem l (k + 1) x h
      omega
theorem gMissing_eq (c : Cha) (hc : Sh c) : z08_M c = some (if ckChart c = 0 then (pickL (pMany c false) (evts c.2.1) (leavesF 0 c.1), 0, ()) else ([], ckChart c, ())) := by
  unfold z08_M z08_m
  rw [gck c hc, Option.bind_some]
  by_cases h : ckChart c = 0
  · have hv := valid_of c h
    have hl := leavesF_length c.1 0
    have h17 := hc.sts
    rw [if_pos h, bifF (show ((ckChart c, ()).1 != 0) = false by simpa using h), gleaves_eq c (by omega), Option.bind_some, gpicked_eq c hv _ (pMany c false) (fun leaf e v _ _ _ _ => by
      show some ((outc c leaf e v).2.1, ()) = _
      unfold outc pMany
      generalize takes c leaf e v = fs
      match fs with
      | [] => rfl
      | [t] => rfl
      | t :: u :: l => rfl) _ (by show (leavesF 0 c.1).length ≤ 100; omega) (fun x hx => by have := leavesF_mem _ _ _ hx; omega)]
    rfl
  · rw [if_neg h, bifT (show ((ckChart c, ()).1 != 0) = true by simpa using h)]
theorem gAmbiguous_eq (c : Cha) (hc : Sh c) : zw_M c = some (if ckChart c = 0 then (pickL (pMany c true) (evts c.2.1) (leavesF 0 c.1), 0, ()) else ([], ckChart c, ())) := by
  unfold zw_M zw_m
  rw [gck c hc, Option.bind_some]
  by_cases h : ckChart c = 0
  · have hv := valid_of c h
    have hl := leavesF_length c.1 0
    have h17 := hc.sts
    rw [if_pos h, bifF (show ((ckChart c, ()).1 != 0) = false by simpa using h), gleaves_eq c (by omega), Option.bind_some, gpicked_eq c hv _ (pMany c true) (fun leaf e v _ _ _ _ => by
      show some ((outc c leaf e v).2.2.1, ()) = _
      unfold outc pMany
      generalize takes c leaf e v = fs
      match fs with
      | [] => rfl
      | [t] => rfl
      | t :: u :: l => rfl) _ (by show (leavesF 0 c.1).length ≤ 100; omega) (fun x hx => by have := leavesF_mem _ _ _ hx; omega)]
    rfl
  · rw [if_neg h, bifT (show ((ckChart c, ()).1 != 0) = true by simpa using h)]
end Go.Tw
end
section
set_option linter.all false
set_option maxRecDepth 100000
namespace Go.Tw
open Go.Vx Go.Vx.B Go.Proofs
theorem eqV_case (x : Cas) : eqV (.pair (.int .i64) (.pair .str (.pair (.int .i64) .unit))) x x = true := by
  show ((x.1 : Int) == x.1 && ((x.2.1 : List UInt8) == x.2.1 && ((x.2.2.1 : Int) == x.2.2.1 && true))) = true
  simp
end Go.Tw
end
