import Derived.Test.YtohhmdogfjmlcaaGreatPY
import Derived.Test.YtohhmdogfjmlcaaGreatB14
section
set_option linter.all false
set_option maxRecDepth 100000
namespace Go.Tw
open Go.Vx Go.Vx.B Go.Proofs
end Go.Tw
end
section
set_option linter.all false
set_option maxRecDepth 100000
namespace Go.Tw
open Go.Vx Go.Vx.B Go.Proofs
def pickV (p : Int → List UInt8 → Int → Bool) (leaf : Int) (e : List UInt8) : Nat → Int → List Cas
  | 0, _ => []
  | m + 1, v => (bif p leaf e v then [(leaf, e, v, ())] else []) ++ pickV p leaf e m (v + 1)
def pickE (p : Int → List UInt8 → Int → Bool) (leaf : Int) : List (List UInt8) → List Cas
  | [] => []
  | e :: l => pickV p leaf e 16 0 ++ pickE p leaf l
def pickL (p : Int → List UInt8 → Int → Bool) (ev : List (List UInt8)) : List Int → List Cas
  | [] => []
  | i :: l => pickE p i ev ++ pickL p ev l
theorem pickV_length (p : Int → List UInt8 → Int → Bool) (leaf : Int) (e : List UInt8) : ∀ (m : Nat) (v : Int), (pickV p leaf e m v).length ≤ m
  | 0, v => Nat.le_refl _
  | m + 1, v => by
    have := pickV_length p leaf e m (v + 1)
    unfold pickV
    rw [List.length_append]
    cases p leaf e v <;> simp <;> omega
theorem pickE_length (p : Int → List UInt8 → Int → Bool) (leaf : Int) : ∀ ev : List (List UInt8), (pickE p leaf ev).length ≤ 16 * ev.length
  | [] => Nat.le_refl _
  | e :: l => by
    have := pickE_length p leaf l
    have := pickV_length p leaf e 16 0
    unfold pickE
    rw [List.length_append, List.length_cons]
    omega
theorem pickL_length (p : Int → List UInt8 → Int → Bool) (ev : List (List UInt8)) (hev : ev.length ≤ 48) : ∀ ls : List Int, (pickL p ev ls).length ≤ 768 * ls.length
  | [] => Nat.le_refl _
  | i :: l => by
    have := pickL_length p ev hev l
    have := pickE_length p i ev
    unfold pickL
    rw [List.length_append, List.length_cons]
    omega
def outc (c : Cha) (leaf : Int) (e : List UInt8) (v : Int) : Int × Bool × Bool × Unit := match takes c leaf e v with
  | [] => (leaf, true, false, ())
  | [t] => (entr c t.2.2.1, false, false, ())
  | _ => (leaf, false, true, ())
theorem gstep_out (c : Cha) (hc : Valid c) (leaf : Int) (e : List UInt8) (v : Int) (h0 : 0 ≤ leaf) (h1 : leaf < c.1.length) (hv : 0 ≤ v ∧ v ≤ 15) : zp_M c leaf (e, v, ()) = some (outc c leaf e v, ()) := by
  rw [gstep_eq c hc leaf (e, v, ()) h0 h1 hv]
  unfold outc
  generalize takes c leaf (e, v, ()).1 (e, v, ()).2.1 = fs
  match fs with
  | [] => rfl
  | [t] => rfl
  | t :: u :: l => rfl
section
variable (c : Cha) (hc : Valid c) (H : Cas × (Int × Bool × Bool × Unit) × Unit → Option (Bool × Unit)) (p : Int → List UInt8 → Int → Bool)
  (hH : ∀ (leaf : Int) (e : List UInt8) (v : Int), 0 ≤ leaf → leaf < c.1.length → 0 ≤ v → v ≤ 15 → H ((leaf, e, v, ()), outc c leaf e v, ()) = some (p leaf e v, ()))
include hc hH
theorem gp_loop (e : List UInt8) (leaf : Int) (h0 : 0 ≤ leaf) (h1 : leaf < c.1.length) (t7 : List (List UInt8)) (t8 t9 : Int) (a7 : List Int) (a8 a9 : Int) (a10 : Bool) (a11 a12 : Int) (a13 a14 : Cha) (q0 : Cha) (q1 : List Int) (q2 : Cas × (Int × Bool × Bool × Unit) × Unit → Option (Bool × Unit)) (q3 q10 : Cha) (q11 q12 : List Int) (q13 k2 : Cha) (k7 : List Int) (k8 k9 : Int) (k10 : Bool) (k11 k12 : Int) (k13 k14 k31 : Cha) (k32 : List Int) (k33 : Cas × (Int × Bool × Bool × Unit) × Unit → Option (Bool × Unit)) (k34 : Cha) (k36 : Cas × (Int × Bool × Bool × Unit) × Unit → Option (Bool × Unit)) (k41 : Cha) (k42 k430 : List Int) (k431 : Cha) :
    ∀ (m : Nat) (v : Int) (s : List Cas), 0 ≤ v → v + m ≤ 16 → s.length + m ≤ 1000000 →
    loopN (fun i__ s__ => zZ_b5 e t7 t8 t9 c a7 a8 a9 a10 a11 a12 a13 a14 leaf q0 q1 q2 q3 H q10 q11 q12 q13 k2 k7 k8 k9 k10 k11 k12 k13 k14 k31 k32 k33 k34 k36 k41 k42 k430 k431 i__ s__) (fun s__ => zZ_f5 e t7 t8 t9 c a7 a8 a9 a10 a11 a12 a13 a14 leaf q0 q1 q2 q3 H q10 q11 q12 q13 k2 k7 k8 k9 k10 k11 k12 k13 k14 k31 k32 k33 k34 k36 k41 k42 k430 k431 s__) m v s = some (.inr (s ++ pickV p leaf e m v))
  | 0, v, s, _, _, _ => by simp [loopN, pickV, zZ_f5]
  | m + 1, v, s, hv0, hv1, hs => by
    have hmem : memMax = 68719476736 := rfl
    have hb : zZ_b5 e t7 t8 t9 c a7 a8 a9 a10 a11 a12 a13 a14 leaf q0 q1 q2 q3 H q10 q11 q12 q13 k2 k7 k8 k9 k10 k11 k12 k13 k14 k31 k32 k33 k34 k36 k41 k42 k430 k431 v s = some (.inr (s ++ (bif p leaf e v then [(leaf, e, v, ())] else []))) := by
      unfold zZ_b5
      rw [gstep_out c hc leaf e v h0 h1 ⟨hv0, by omega⟩, Option.bind_some]
      show (Option.bind (H ((leaf, e, v, ()), outc c leaf e v, ())) _) = _
      rw [hH leaf e v h0 h1 hv0 (by omega), Option.bind_some]
      cases p leaf e v with
      | true => rw [cond_true, cond_true, bifT (dec_true (show s.length + 1 ≤ memMax by omega))]
      | false => simp
    unfold loopN
    simp only [hb, Option.bind_some]
    refine (gp_loop e leaf h0 h1 t7 t8 t9 a7 a8 a9 a10 a11 a12 a13 a14 q0 q1 q2 q3 q10 q11 q12 q13 k2 k7 k8 k9 k10 k11 k12 k13 k14 k31 k32 k33 k34 k36 k41 k42 k430 k431 m (v + 1) _ (by omega) (by omega) (by rw [List.length_append]; cases p leaf e v <;> simp <;> omega)).trans ?_
    rw [List.append_assoc]
    rfl
theorem gpe_loop (leaf : Int) (h0 : 0 ≤ leaf) (h1 : leaf < c.1.length) (t7 : List (List UInt8)) (a7 : List Int) (a8 a9 : Int) (a10 : Bool) (a11 a12 : Int) (a13 a14 : Cha) (q0 : Cha) (q1 : List Int) (q2 : Cas × (Int × Bool × Bool × Unit) × Unit → Option (Bool × Unit)) (q3 q10 : Cha) (q11 q12 : List Int) (q13 k2 : Cha) (k7 : List Int) (k8 k9 : Int) (k10 : Bool) (k11 k12 : Int) (k13 k14 k31 : Cha) (k32 : List Int) (k33 : Cas × (Int × Bool × Bool × Unit) × Unit → Option (Bool × Unit)) (k34 : Cha) (k36 : Cas × (Int × Bool × Bool × Unit) × Unit → Option (Bool × Unit)) (k41 : Cha) (k42 k430 : List Int) (k431 : Cha) :
    ∀ (l : List (List UInt8)) (j : Int) (s : List Cas), s.length + 16 * l.length ≤ 1000000 →
    loopL (fun i__ e__ s__ => zZ_b3 t7 c a7 a8 a9 a10 a11 a12 a13 a14 leaf q0 q1 q2 q3 H q10 q11 q12 q13 k2 k7 k8 k9 k10 k11 k12 k13 k14 k31 k32 k33 k34 k36 k41 k42 k430 k431 i__ e__ s__) (fun s__ => zZ_f3 t7 c a7 a8 a9 a10 a11 a12 a13 a14 leaf q0 q1 q2 q3 H q10 q11 q12 q13 k2 k7 k8 k9 k10 k11 k12 k13 k14 k31 k32 k33 k34 k36 k41 k42 k430 k431 s__) j l s = some (.inr (s ++ pickE p leaf l))
  | [], j, s, _ => by simp [loopL_nil, pickE, zZ_f3]
  | e :: l, j, s, hs => by
    simp only [List.length_cons] at hs
    have hb : zZ_b3 t7 c a7 a8 a9 a10 a11 a12 a13 a14 leaf q0 q1 q2 q3 H q10 q11 q12 q13 k2 k7 k8 k9 k10 k11 k12 k13 k14 k31 k32 k33 k34 k36 k41 k42 k430 k431 j e s = some (.inr (s ++ pickV p leaf e 16 0)) := by
      unfold zZ_b3
      rw [bifT (by rfl)]
      exact gp_loop c hc H p hH e leaf h0 h1 t7 (t7.length : Int) j a7 a8 a9 a10 a11 a12 a13 a14 q0 q1 q2 q3 q10 q11 q12 q13 k2 k7 k8 k9 k10 k11 k12 k13 k14 k31 k32 k33 k34 k36 k41 k42 k430 k431 16 0 s (by omega) (by omega) (by omega)
    have hl := pickV_length p leaf e 16 0
    rw [loopL_cons]
    simp only [hb, Option.bind_some]
    refine (gpe_loop leaf h0 h1 t7 a7 a8 a9 a10 a11 a12 a13 a14 q0 q1 q2 q3 q10 q11 q12 q13 k2 k7 k8 k9 k10 k11 k12 k13 k14 k31 k32 k33 k34 k36 k41 k42 k430 k431 l (j + 1) _ (by rw [List.length_append]; omega)).trans ?_
    rw [List.append_assoc]
    rfl
theorem gpl_loop (t7 : List Int) (q0 : Cha) (q1 : List Int) (q2 : Cas × (Int × Bool × Bool × Unit) × Unit → Option (Bool × Unit)) (q3 q10 : Cha) (q11 q12 : List Int) (q13 k0 : Cha) (k1 : List Int) (k2 : Cas × (Int × Bool × Bool × Unit) × Unit → Option (Bool × Unit)) (k3 : Cha) (k5 : Cas × (Int × Bool × Bool × Unit) × Unit → Option (Bool × Unit)) (k10 : Cha) (k11 k120 : List Int) (k121 : Cha) :
    ∀ (l : List Int) (j : Int) (s : List Cas), (∀ x ∈ l, 0 ≤ x ∧ x < c.1.length) → s.length + 768 * l.length ≤ 1000000 →
    loopL (fun i__ e__ s__ => zZ_b0 c t7 q0 q1 q2 q3 H q10 q11 q12 q13 k0 k1 k2 k3 k5 k10 k11 k120 k121 i__ e__ s__) (fun s__ => zZ_f0 c t7 q0 q1 q2 q3 H q10 q11 q12 q13 k0 k1 k2 k3 k5 k10 k11 k120 k121 s__) j l s = some (s ++ pickL p (evts c.2.1) l, ())
  | [], j, s, _, _ => by simp [loopL_nil, pickL, zZ_f0]
  | i :: l, j, s, hr, hs => by
    simp only [List.length_cons] at hs
    have h48 := hc.moves
    have hev := evts_length c.2.1
    have hi := hr i (by simp)
    have hb : zZ_b0 c t7 q0 q1 q2 q3 H q10 q11 q12 q13 k0 k1 k2 k3 k5 k10 k11 k120 k121 j i s = some (.inr (s ++ pickE p i (evts c.2.1))) := by
      unfold zZ_b0
      rw [gevents_eq c (by omega), Option.bind_some, bifT (dec_true (show (evts c.2.1).length < lenMax by unfold lenMax; omega))]
      exact gpe_loop c hc H p hH i hi.1 hi.2 _ _ _ _ _ _ _ _ _ _ _ _ _ _ _ _ _ _ _ _ _ _ _ _ _ _ _ _ _ _ _ _ _ _ _ (evts c.2.1) 0 s (by omega)
    have hl := pickE_length p i (evts c.2.1)
    rw [loopL_cons]
    simp only [hb, Option.bind_some]
    refine (gpl_loop t7 q0 q1 q2 q3 q10 q11 q12 q13 k0 k1 k2 k3 k5 k10 k11 k120 k121 l (j + 1) _ (fun x hx => hr x (by simp [hx])) (by rw [List.length_append]; omega)).trans ?_
    rw [List.append_assoc]
    rfl
theorem gpicked_eq (ls : List Int) (hl : ls.length ≤ 100) (hr : ∀ x ∈ ls, 0 ≤ x ∧ x < c.1.length) : zZ_M c ls H = some (pickL p (evts c.2.1) ls, ()) := by
  unfold zZ_M
  rw [bifT (dec_true (show ls.length < lenMax by unfold lenMax; omega))]
  have := gpl_loop c hc H p hH ls c ls H c c ls ls c c ls H c H c ls ls c ls 0 [] hr (by simp; omega)
  rw [List.nil_append] at this
  exact this
end
def pMany (c : Cha) (many : Bool) (leaf : Int) (e : List UInt8) (v : Int) : Bool := match takes c leaf e v with
  | [] => !many
  | [_] => false
  | _ => many
theorem rc_body (c : Cha) (hc : Valid c) (many : Bool) (ev : List (List UInt8)) (k : Nat) (e : List UInt8) (hk : ev[k]? = some e) (leaf : Int) (h0 : 0 ≤ leaf) (h1 : leaf < c.1.length) (v : Int) (s : List Cas) (hs : s.length ≤ 1000000) :
    z0c_b6 many c ev leaf (k : Int) v s = some (.inr (s ++ (bif pMany c many leaf e v then [(leaf, e, v, ())] else []))) := by
  have hmem : memMax = 68719476736 := rfl
  have hA : ∀ b, z0c_s14 many c ev leaf (k : Int) v s b = some (.inr (s ++ (bif b then [(leaf, e, v, ())] else []))) := by
    intro b
    unfold z0c_s14
    cases b with
    | true => rw [cond_true, cond_true, idx_nat, hk, Option.bind_some, bifT (dec_true (show s.length + 1 ≤ memMax by omega))]
    | false => simp
  unfold z0c_b6 pMany
  rw [idx_nat, hk, Option.bind_some, rtaken_eq c hc leaf (e, v, ()) (by omega) h1, Option.bind_some]
  simp only [hA]
  generalize takes c leaf e v = fs
  match fs with
  | [] => cases many <;> rfl
  | [t] => cases many <;> rfl
  | t :: u :: l =>
    simp only [List.length_cons]
    rw [bifT (dec_true (by omega))]
    cases many with
    | true => rfl
    | false => rw [cond_false, bifF (beq_eq_false_iff_ne.2 (by omega))]
theorem rc_loop (c : Cha) (hc : Valid c) (many : Bool) (ev : List (List UInt8)) (k : Nat) (e : List UInt8) (hk : ev[k]? = some e) (hkl : k ≤ 100) (leaf : Int) (h0 : 0 ≤ leaf) (h1 : leaf < c.1.length) : ∀ (m : Nat) (v : Int) (s : List Cas), s.length + m ≤ 1000000 →
    loopN (fun i__ s__ => z0c_b6 many c ev leaf (k : Int) i__ s__) (fun s__ => z0c_f6 many c ev leaf (k : Int) s__) m v s = some (.inr ((k : Int) + 1, s ++ pickV (pMany c many) leaf e m v))
  | 0, v, s, _ => by
    show some (Sum.inr (IntKind.i64.wrap ((k : Int) + 1), s)) = _
    rw [wrapS (by omega) (by omega)]
    simp [pickV]
  | m + 1, v, s, hs => by
    unfold loopN
    simp only [rc_body c hc many ev k e hk leaf h0 h1 v s (by omega), Option.bind_some]
    refine (rc_loop c hc many ev k e hk hkl leaf h0 h1 m (v + 1) _ (by rw [List.length_append]; cases pMany c many leaf e v <;> simp <;> omega)).trans ?_
    rw [List.append_assoc]
    rfl
theorem rce_loop (c : Cha) (hc : Valid c) (many : Bool) (ev : List (List UInt8)) (hev : ev.length ≤ 48) (i : Nat) (st : Sta) (hi : c.1[i]? = some st) (hlf : (st.2.2.1 == -1) = true) : ∀ (l done : List (List UInt8)) (r : Nat) (s : List Cas), ev = done ++ l → l.length < r → s.length + 16 * l.length ≤ 1000000 →
    loopW (fun s__ => z0c_b2 many c ev (i : Int) s__.1 s__.2) r ((done.length : Int), s) = some (.inr (s ++ pickE (pMany c many) (i : Int) l))
  | l, done, 0, s, _, hr, _ => by omega
  | [], done, r + 1, s, hx, hr, hs => by
    rw [List.append_nil] at hx
    have hb : z0c_b2 many c ev (i : Int) (done.length : Int) s = some (.inl (.inr s)) := by
      unfold z0c_b2
      rw [isLeaf_eq c i st hi, Option.bind_some, hlf, cond_true, bifF (dec_false (by rw [hx]; omega))]
    unfold loopW
    simp only [hb, Option.bind_some]
    simp [pickE]
  | e :: l, done, r + 1, s, hx, hr, hs => by
    have hi2 := (List.getElem?_eq_some_iff.1 hi).1
    have hk : ev[done.length]? = some e := by rw [hx]; simp
    have hkl := (List.getElem?_eq_some_iff.1 hk).1
    simp only [List.length_cons] at hr hs
    have hb : z0c_b2 many c ev (i : Int) (done.length : Int) s = some (.inr ((done.length : Int) + 1, s ++ pickV (pMany c many) (i : Int) e 16 0)) := by
      unfold z0c_b2
      rw [isLeaf_eq c i st hi, Option.bind_some, hlf, cond_true, bifT (dec_true (by omega)), bifT (by rfl)]
      exact rc_loop c hc many ev done.length e hk (by omega) (i : Int) (by omega) (by omega) 16 0 s (by omega)
    have hl := pickV_length (pMany c many) (i : Int) e 16 0
    unfold loopW
    simp only [hb, Option.bind_some]
    have ih := rce_loop c hc many ev hev i st hi hlf l (done ++ [e]) r (s ++ pickV (pMany c many) (i : Int) e 16 0) (by rw [hx]; simp) (by omega) (by rw [List.length_append]; omega)
    simp only [List.length_append, List.length_cons, List.length_nil] at ih
    refine Eq.trans ih ?_
    rw [List.append_assoc]
    rfl
theorem rcl_loop (c : Cha) (hc : Valid c) (many : Bool) (ev : List (List UInt8)) (hev : ev.length ≤ 48) : ∀ (l done : List Sta) (s : List Cas), c.1 = done ++ l → s.length + 768 * l.length ≤ 1000000 →
    loopN (fun i__ s__ => z0c_b1 many c ev i__ s__) (fun s__ => z0c_f1 many c ev s__) l.length (done.length : Int) s = some (s ++ pickL (pMany c many) ev (leavesF done.length l), ())
  | [], done, s, _, _ => by simp [loopN, leavesF, pickL, z0c_f1]
  | st :: l, done, s, hx, hs => by
    have hi : c.1[done.length]? = some st := by rw [hx]; simp
    simp only [List.length_cons] at hs
    rw [List.length_cons]
    have hW : ev.length < wMax := by unfold wMax; omega
    cases hlf : (st.2.2.1 == -1) with
    | true =>
      have hb : z0c_b1 many c ev (done.length : Int) s = some (.inr (s ++ pickE (pMany c many) (done.length : Int) ev)) := by
        unfold z0c_b1
        exact rce_loop c hc many ev hev done.length st hi hlf ev [] wMax s rfl hW (by omega)
      have hl := pickE_length (pMany c many) (done.length : Int) ev
      unfold loopN
      simp only [hb, Option.bind_some]
      have ih := rcl_loop c hc many ev hev l (done ++ [st]) (s ++ pickE (pMany c many) (done.length : Int) ev) (by rw [hx]; simp) (by rw [List.length_append]; omega)
      simp only [List.length_append, List.length_cons, List.length_nil] at ih
      refine Eq.trans ih ?_
      have hF : leavesF (done.length : Int) (st :: l) = (done.length : Int) :: leavesF ((done.length : Int) + 1) l := by
        show (if (st.2.2.1 == -1) = true then [(done.length : Int)] else []) ++ leavesF ((done.length : Int) + 1) l = _
        rw [if_pos hlf]
        rfl
      rw [hF, List.append_assoc]
      rfl
    | false =>
      have hb2 : z0c_b2 many c ev (done.length : Int) 0 s = some (.inl (.inr s)) := by
        unfold z0c_b2
        rw [isLeaf_eq c done.length st hi, Option.bind_some, hlf, cond_false]
      have hb : z0c_b1 many c ev (done.length : Int) s = some (.inr s) := by
        unfold z0c_b1
        generalize hWW : wMax = W at hW
        cases W with
        | zero => omega
        | succ W =>
          unfold loopW
          simp only [hb2, Option.bind_some]
      unfold loopN
      simp only [hb, Option.bind_some]
      have ih := rcl_loop c hc many ev hev l (done ++ [st]) s (by rw [hx]; simp) (by omega)
      simp only [List.length_append, List.length_cons, List.length_nil] at ih
      refine Eq.trans ih ?_
      have hF : leavesF (done.length : Int) (st :: l) = leavesF ((done.length : Int) + 1) l := by
        show (if (st.2.2.1 == -1) = true then [(done.length : Int)] else []) ++ leavesF ((done.length : Int) + 1) l = _
        rw [if_neg (by rw [hlf]; simp)]
        rfl
      rw [hF]
      rfl
theorem rcases_eq (c : Cha) (hc : Valid c) (many : Bool) : z0c_M c many = some (pickL (pMany c many) (evts c.2.1) (leavesF 0 c.1), ()) := by
  have h48 := hc.moves
  have h16 := hc.few
  have hev := evts_length c.2.1
  unfold z0c_M
  rw [revents_eq c (by omega), Option.bind_some, bifT (dec_true (show (c.1.length : Int) ≤ 9223372036854775807 by omega)), show ((c.1.length : Int) - 0).toNat = c.1.length by omega]
  have := rcl_loop c hc many (evts c.2.1) (by omega) c.1 [] [] rfl (by simp; omega)
  rw [List.nil_append] at this
  exact this
theorem leavesF_mem : ∀ (l : List Sta) (k x : Int), x ∈ leavesF k l → k ≤ x ∧ x < k + l.length
  | [], k, x, h => by cases h
  | s :: l, k, x, h => by
    unfold leavesF at h
    rw [List.length_cons]
    rcases List.mem_append.1 h with h | h
    · split at h
      · rw [List.mem_singleton] at h; subst h; omega
      · cases h
    · have := leavesF_mem l (k + 1) x h
      omega
theorem gMissing_eq (c : Cha) (hc : Sh c) : z0D_M c = some (if ckChart c = 0 then (pickL (pMany c false) (evts c.2.1) (leavesF 0 c.1), 0, ()) else ([], ckChart c, ())) := by
  unfold z0D_M z0D_m
  rw [gck c hc, Option.bind_some]
  by_cases h : ckChart c = 0
  · have hv := valid_of c h
    have hl := leavesF_length c.1 0
    have h17 := hc.sts
    rw [if_pos h, bifF (show ((ckChart c, ()).1 != 0) = false by simpa using h), gleaves_eq c (by omega), Option.bind_some, gpicked_eq c hv _ (pMany c false) (fun leaf e v _ _ _ _ => by
      show some ((outc c leaf e v).2.1, ()) = _
      unfold outc pMany
      generalize takes c leaf e v = fs
      match fs with
      | [] => rfl
      | [t] => rfl
      | t :: u :: l => rfl) _ (by show (leavesF 0 c.1).length ≤ 100; omega) (fun x hx => by have := leavesF_mem _ _ _ hx; omega)]
    rfl
  · rw [if_neg h, bifT (show ((ckChart c, ()).1 != 0) = true by simpa using h)]
theorem gAmbiguous_eq (c : Cha) (hc : Sh c) : zz_M c = some (if ckChart c = 0 then (pickL (pMany c true) (evts c.2.1) (leavesF 0 c.1), 0, ()) else ([], ckChart c, ())) := by
  unfold zz_M zz_m
  rw [gck c hc, Option.bind_some]
  by_cases h : ckChart c = 0
  · have hv := valid_of c h
    have hl := leavesF_length c.1 0
    have h17 := hc.sts
    rw [if_pos h, bifF (show ((ckChart c, ()).1 != 0) = false by simpa using h), gleaves_eq c (by omega), Option.bind_some, gpicked_eq c hv _ (pMany c true) (fun leaf e v _ _ _ _ => by
      show some ((outc c leaf e v).2.2.1, ()) = _
      unfold outc pMany
      generalize takes c leaf e v = fs
      match fs with
      | [] => rfl
      | [t] => rfl
      | t :: u :: l => rfl) _ (by show (leavesF 0 c.1).length ≤ 100; omega) (fun x hx => by have := leavesF_mem _ _ _ hx; omega)]
    rfl
  · rw [if_neg h, bifT (show ((ckChart c, ()).1 != 0) = true by simpa using h)]
end Go.Tw
end
section
set_option linter.all false
set_option maxRecDepth 100000
namespace Go.Tw
open Go.Vx Go.Vx.B Go.Proofs
def rea (ls : List Int) : Nat → Int → List Int
  | 0, _ => []
  | m + 1, i => List.replicate (ls.count i) i ++ rea ls m (i + 1)
theorem rea_count (ls : List Int) : ∀ (m : Nat) (i a : Int), (rea ls m i).count a = if i ≤ a ∧ a < i + m then ls.count a else 0
  | 0, i, a => by rw [if_neg (by omega)]; rfl
  | m + 1, i, a => by
    unfold rea
    rw [List.count_append, List.count_replicate, rea_count ls m (i + 1) a]
    by_cases h : i = a
    · subst h
      rw [if_pos (by simp), if_neg (by omega), if_pos (by omega), Nat.add_zero]
    · rw [if_neg (by simpa using h)]
      by_cases h2 : i + 1 ≤ a ∧ a < i + 1 + (m : Int)
      · rw [if_pos h2, if_pos (by omega), Nat.zero_add]
      · rw [if_neg h2, if_neg (by omega)]
theorem rea_ge (ls : List Int) : ∀ (m : Nat) (i x : Int), x ∈ rea ls m i → i ≤ x
  | 0, i, x, h => by cases h
  | m + 1, i, x, h => by
    unfold rea at h
    rcases List.mem_append.1 h with h | h
    · rw [(List.mem_replicate.1 h).2]; omega
    · have := rea_ge ls m (i + 1) x h; omega
theorem rea_sorted (ls : List Int) : ∀ (m : Nat) (i : Int), (rea ls m i).Pairwise (· ≤ ·)
  | 0, i => List.Pairwise.nil
  | m + 1, i => by
    unfold rea
    refine List.pairwise_append.2 ⟨?_, rea_sorted ls m (i + 1), fun a ha b hb => ?_⟩
    · exact List.pairwise_replicate.2 (.inr (Int.le_refl _))
    · have := rea_ge ls m (i + 1) b hb
      rw [(List.mem_replicate.1 ha).2]
      omega
theorem rea_sort (ls : List Int) (n : Nat) (h : ∀ x ∈ ls, 0 ≤ x ∧ x < n) : rea ls n 0 = sortI ls := by
  refine List.Perm.eq_of_pairwise (le := fun x y : Int => x ≤ y) (fun a b _ _ h1 h2 => Int.le_antisymm h1 h2) (rea_sorted ls n 0) (sortI_sorted ls) (List.Perm.trans ?_ (sortI_perm ls).symm)
  refine List.perm_iff_count.2 fun a => ?_
  rw [rea_count]
  by_cases ha : a ∈ ls
  · have := h a ha
    rw [if_pos (by omega)]
  · rw [List.count_eq_zero_of_not_mem ha]
    split <;> rfl
theorem rr_loop (c : Cha) (xs : List Pth) (i : Int) : ∀ (l : List Pth) (k : Int) (s : List Int), s.length + l.length ≤ 1000000 →
    loopL (fun i__ e__ s__ => zw_b2 c xs i i__ e__ s__) (fun s__ => zw_f2 c xs i s__) k l s = some (.inr (s ++ List.replicate ((lvs l).count i) i))
  | [], k, s, _ => by simp [loopL_nil, zw_f2]
  | p :: l, k, s, hs => by
    have hmem : memMax = 68719476736 := rfl
    simp only [List.length_cons] at hs
    have hb : zw_b2 c xs i k p s = some (.inr (if (p.1 == i) = true then s ++ [i] else s)) := by
      unfold zw_b2
      cases (p.1 == i) with
      | true => rw [cond_true, bifT (dec_true (show s.length + 1 ≤ memMax by omega))]; rfl
      | false => rfl
    rw [loopL_cons]
    simp only [hb, Option.bind_some]
    rw [show lvs (p :: l) = p.1 :: lvs l from rfl, List.count_cons]
    cases h : (p.1 == i) with
    | true =>
      rw [if_pos rfl, rr_loop c xs i l (k + 1) _ (by simp; omega), if_pos rfl, List.append_assoc, List.singleton_append, ← List.replicate_succ]
    | false =>
      rw [if_neg (by simp), rr_loop c xs i l (k + 1) s (by omega), if_neg (by simp), Nat.add_zero]
theorem ro2_loop (c : Cha) (xs : List Pth) (hx : xs.length ≤ 100) : ∀ (m : Nat) (i : Int) (s : List Int), s.length + 100 * m ≤ 1000000 →
    loopN (fun i__ s__ => zw_b1 c xs i__ s__) (fun s__ => zw_f1 c xs s__) m i s = some (s ++ rea (lvs xs) m i, ())
  | 0, i, s, _ => by simp [loopN, rea, zw_f1]
  | m + 1, i, s, hs => by
    have hb : zw_b1 c xs i s = some (.inr (s ++ List.replicate ((lvs xs).count i) i)) := by
      unfold zw_b1
      rw [bifT (dec_true (show xs.length < lenMax by unfold lenMax; omega))]
      exact rr_loop c xs i xs 0 s (by omega)
    have hc : (lvs xs).count i ≤ xs.length := by have := List.count_le_length (a := i) (l := lvs xs); simpa using this
    unfold loopN
    simp only [hb, Option.bind_some]
    rw [ro2_loop c xs hx m (i + 1) _ (by simp; omega), List.append_assoc]
    rfl
def RS (c : Cha) : List Int := sortI (lvs (WS c))
theorem RS_mem (c : Cha) (hc : Valid c) (x : Int) (h : x ∈ RS c) : 0 ≤ x ∧ x < c.1.length := by
  have := (sortI_perm _).mem_iff.1 h
  obtain ⟨p, hp, rfl⟩ := List.mem_map.1 this
  exact (WS_inv c hc).rg p hp
theorem RS_length (c : Cha) (hc : Valid c) : (RS c).length ≤ 16 := by
  have := (sortI_perm (lvs (WS c))).length_eq
  have h2 := (WS_inv c hc).few hc
  unfold RS
  rw [this, List.length_map]
  exact h2
theorem rreach_eq (c : Cha) (hc : Valid c) : zw_M c = some (RS c, ()) := by
  have h16 := hc.few
  have hf := (WS_inv c hc).few hc
  unfold zw_M
  rw [ways_eq c hc, Option.bind_some, bifT (dec_true (show (c.1.length : Int) ≤ 9223372036854775807 by omega)), show ((c.1.length : Int) - 0).toNat = c.1.length by omega]
  have := ro2_loop c (WS c) (by omega) c.1.length 0 [] (by simp; omega)
  rw [List.nil_append, rea_sort (lvs (WS c)) c.1.length (fun x hx => by
    obtain ⟨p, hp, rfl⟩ := List.mem_map.1 hx
    exact (WS_inv c hc).rg p hp)] at this
  exact this
theorem greach_eq (c : Cha) (hc : Valid c) : zQ_M c = some (RS c, ()) := by
  have hmem : memMax = 68719476736 := rfl
  have hf := (WS_inv c hc).few hc
  unfold zQ_M
  rw [paths_eq c hc, Option.bind_some, bifT (dec_true (show (WS c).length < lenMax by unfold lenMax; omega))]
  refine (loopL_app (fun p : Pth => p.1) (WS c) 0 [] (by simp; omega) fun i e s he hs => ?_).trans ?_
  · unfold zQ_b1
    rw [bifT (dec_true hs)]
    rfl
  · rw [List.nil_append]
    unfold zQ_f1
    rw [bifT (dec_true (show ((WS c).map fun p => p.1).length ≤ memMax by rw [List.length_map]; omega))]
    rfl
theorem gReach_eq (c : Cha) (hc : Sh c) : z01_M c = some (if ckChart c = 0 then (RS c, 0, ()) else ([], ckChart c, ())) := by
  unfold z01_M z01_m
  rw [gck c hc, Option.bind_some]
  by_cases h : ckChart c = 0
  · rw [if_pos h, bifF (show ((ckChart c, ()).1 != 0) = false by simpa using h), greach_eq c (valid_of c h)]
    rfl
  · rw [if_neg h, bifT (show ((ckChart c, ()).1 != 0) = true by simpa using h)]
def mvs (c : Cha) (i : Int) : Bool := match c.1[i.toNat]? with
  | some s => s.2.2.2.1
  | none => false
def pMove (c : Cha) (leaf : Int) (e : List UInt8) (v : Int) : Bool := (stp c leaf e v).2 == 0 && mvs c (stp c leaf e v).1
def pLock (c : Cha) (leaf : Int) (e : List UInt8) (v : Int) : Bool := (bitsOp .i64 .and v 1 != 0) && pMove c leaf e v
theorem gAgainst_eq (c : Cha) (hc : Sh c) : z0B_M c = some (if ckChart c = 0 then (pickL (pLock c) (evts c.2.1) (RS c), 0, ()) else ([], ckChart c, ())) := by
  unfold z0B_M z0B_m
  rw [gck c hc, Option.bind_some]
  by_cases h : ckChart c = 0
  · have hv := valid_of c h
    have hl := RS_length c hv
    have hH : ∀ (leaf : Int) (e : List UInt8) (v : Int), 0 ≤ leaf → leaf < c.1.length → 0 ≤ v → v ≤ 15 → (fun (x : Cas × (Int × Bool × Bool × Unit) × Unit) => zy_M x.fst x.snd.fst c) ((leaf, e, v, ()), outc c leaf e v, ()) = some (pLock c leaf e v, ()) := by
      intro leaf e v h0 h1 hv0 hv1
      show zy_M (leaf, e, v, ()) (outc c leaf e v) c = _
      unfold zy_M zy_m pLock pMove
      simp only
      generalize (bitsOp .i64 .and v 1 != 0) = q
      cases q with
      | false => rfl
      | true =>
        rw [cond_true, Bool.true_and]
        have hsl := stp_leaf c hv leaf e v h0 h1
        have hst : stp c leaf e v = match takes c leaf e v with | [] => (leaf, 0) | [t] => (entr c t.2.2.1, 0) | _ => (0, 30) := rfl
        unfold outc
        revert hst hsl
        generalize stp c leaf e v = y
        generalize takes c leaf e v = fs
        have fin : ∀ x : Int, 0 ≤ x ∧ x < c.1.length → (Option.bind (idx c.1 x) fun (v0 : Sta) => some (v0.2.2.2.1, ())) = some (mvs c x, ()) := by
          intro x hx
          have hlt : x.toNat < c.1.length := by omega
          have hg : c.1[x.toNat]? = some c.1[x.toNat] := List.getElem?_eq_getElem hlt
          unfold mvs
          rw [idx_int _ hx.1, hg]
          rfl
        match fs with
        | [] => intro hsl hst; subst hst; exact fin leaf ⟨h0, h1⟩
        | [t] => intro hsl hst; subst hst; exact fin _ (hsl rfl)
        | t :: u :: l => intro hsl hst; subst hst; rfl
    rw [if_pos h, bifF (show ((ckChart c, ()).1 != 0) = false by simpa using h), greach_eq c hv, Option.bind_some, gpicked_eq c hv _ (pLock c) hH _ (by show (RS c).length ≤ 100; omega) (fun x hx => RS_mem c hv x hx)]
    rfl
  · rw [if_neg h, bifT (show ((ckChart c, ()).1 != 0) = true by simpa using h)]
def pickO (p : Int → List UInt8 → Int → Bool) (leaf : Int) (e : List UInt8) : Nat → Int → List Cas
  | 0, _ => []
  | m + 1, v => (bif p leaf e v then [(leaf, e, v, ())] else []) ++ pickO p leaf e m (v + 2)
theorem odd_bit : ∀ v : Fin 16, (bitsOp .i64 .and (v.val : Int) 1 != 0) = (v.val % 2 == 1) := by decide +kernel
theorem pick_odd (c : Cha) (leaf : Int) (e : List UInt8) : ∀ (k : Nat) (v : Nat), v + 2 * k = 16 → pickV (pLock c) leaf e (2 * k) (v : Int) = pickO (pMove c) leaf e k ((v : Int) + 1)
  | 0, v, h => rfl
  | k + 1, v, h => by
    have h1 := odd_bit ⟨v, by omega⟩
    have h2 := odd_bit ⟨v + 1, by omega⟩
    simp only at h1 h2
    have e1 : pLock c leaf e (v : Int) = false := by
      unfold pLock
      rw [h1, show (v % 2 == 1) = false by simp; omega, Bool.false_and]
    have e2 : pLock c leaf e ((v : Int) + 1) = pMove c leaf e ((v : Int) + 1) := by
      unfold pLock
      rw [show (v : Int) + 1 = ((v + 1 : Nat) : Int) by omega, h2, show ((v + 1) % 2 == 1) = true by simp; omega, Bool.true_and]
    have ih := pick_odd c leaf e k (v + 2) (by omega)
    rw [show 2 * (k + 1) = 2 * k + 1 + 1 by omega]
    show (bif pLock c leaf e (v : Int) then [(leaf, e, (v : Int), ())] else []) ++ ((bif pLock c leaf e ((v : Int) + 1) then [(leaf, e, (v : Int) + 1, ())] else []) ++ pickV (pLock c) leaf e (2 * k) ((v : Int) + 1 + 1)) = (bif pMove c leaf e ((v : Int) + 1) then [(leaf, e, (v : Int) + 1, ())] else []) ++ pickO (pMove c) leaf e k ((v : Int) + 1 + 2)
    rw [e1, e2, cond_false, List.nil_append, show (v : Int) + 1 + 1 = ((v + 2 : Nat) : Int) by omega, ih, show ((v + 2 : Nat) : Int) + 1 = (v : Int) + 1 + 2 by omega]
theorem ra_loop (c : Cha) (hc : Valid c) (R : List Int) (ev : List (List UInt8)) (i k : Nat) (leaf : Int) (e : List UInt8) (hi : R[i]? = some leaf) (hk : ev[k]? = some e) (h0 : 0 ≤ leaf) (h1 : leaf < c.1.length) : ∀ (m : Nat) (r : Nat) (v : Int) (s : List Cas), v + 2 * m = 17 → 0 ≤ v → m < r → s.length + m ≤ 1000000 →
    loopW (fun s__ => z09_b4 c R ev (i : Int) (k : Int) s__.1 s__.2) r (v, s) = some (.inr (s ++ pickO (pMove c) leaf e m v))
  | m, 0, v, s, _, _, hr, _ => by omega
  | 0, r + 1, v, s, hv, hv0, hr, hs => by
    have hb : z09_b4 c R ev (i : Int) (k : Int) v s = some (.inl (.inr s)) := by
      unfold z09_b4
      rw [bifF (dec_false (by omega))]
    unfold loopW
    simp only [hb, Option.bind_some]
    simp [pickO]
  | m + 1, r + 1, v, s, hv, hv0, hr, hs => by
    have hmem : memMax = 68719476736 := rfl
    have hA : ∀ b, z09_s13 c R ev (i : Int) (k : Int) v s b = some (.inr (v + 2, s ++ (bif b then [(leaf, e, v, ())] else []))) := by
      intro b
      unfold z09_s13
      rw [wrapS (by omega) (by omega)]
      cases b with
      | true => rw [cond_true, cond_true, idx_nat, hi, Option.bind_some, idx_nat, hk, Option.bind_some, bifT (dec_true (show s.length + 1 ≤ memMax by omega))]
      | false => simp
    have hb : z09_b4 c R ev (i : Int) (k : Int) v s = some (.inr (v + 2, s ++ (bif pMove c leaf e v then [(leaf, e, v, ())] else []))) := by
      unfold z09_b4 pMove
      rw [bifT (dec_true (by omega)), idx_nat, hi, Option.bind_some, idx_nat, hk, Option.bind_some, rstep_eq c hc leaf (e, v, ()) h0 h1, Option.bind_some]
      by_cases hz : (stp c leaf e v).2 = 0
      · have hl := stp_leaf c hc leaf e v h0 h1 hz
        have hlt : (stp c leaf e v).1.toNat < c.1.length := by omega
        have hg : c.1[(stp c leaf e v).1.toNat]? = some c.1[(stp c leaf e v).1.toNat] := List.getElem?_eq_getElem hlt
        rw [bifT (show ((stp c leaf e v).2 == 0) = true by simpa using hz), idx_int _ hl.1, hg, Option.bind_some, hA, hz, beq_self_eq_true, Bool.true_and]
        unfold mvs
        rw [hg]
      · rw [bifF (show ((stp c leaf e v).2 == 0) = false by simpa using hz), hA, show ((stp c leaf e v).2 == 0) = false by simpa using hz, Bool.false_and]
    unfold loopW
    simp only [hb, Option.bind_some]
    refine (ra_loop c hc R ev i k leaf e hi hk h0 h1 m r (v + 2) _ (by omega) (by omega) (by omega) (by rw [List.length_append]; cases pMove c leaf e v <;> simp <;> omega)).trans ?_
    rw [List.append_assoc]
    rfl
theorem rae_loop (c : Cha) (hc : Valid c) (R : List Int) (ev : List (List UInt8)) (i : Nat) (leaf : Int) (hi : R[i]? = some leaf) (h0 : 0 ≤ leaf) (h1 : leaf < c.1.length) : ∀ (l done : List (List UInt8)) (s : List Cas), ev = done ++ l → s.length + 16 * l.length ≤ 1000000 →
    loopN (fun i__ s__ => z09_b3 c R ev (i : Int) i__ s__) (fun s__ => z09_f3 c R ev (i : Int) s__) l.length (done.length : Int) s = some (.inr (s ++ pickE (pLock c) leaf l))
  | [], done, s, _, _ => by simp [loopN, pickE, z09_f3]
  | e :: l, done, s, hx, hs => by
    have hk : ev[done.length]? = some e := by rw [hx]; simp
    simp only [List.length_cons] at hs
    have hpo : pickV (pLock c) leaf e 16 0 = pickO (pMove c) leaf e 8 1 := pick_odd c leaf e 8 0 rfl
    have hb : z09_b3 c R ev (i : Int) (done.length : Int) s = some (.inr (s ++ pickV (pLock c) leaf e 16 0)) := by
      unfold z09_b3
      rw [hpo]
      exact ra_loop c hc R ev i done.length leaf e hi hk h0 h1 8 wMax 1 s (by omega) (by omega) (by unfold wMax; omega) (by omega)
    have hl := pickV_length (pLock c) leaf e 16 0
    rw [List.length_cons]
    unfold loopN
    simp only [hb, Option.bind_some]
    have ih := rae_loop c hc R ev i leaf hi h0 h1 l (done ++ [e]) (s ++ pickV (pLock c) leaf e 16 0) (by rw [hx]; simp) (by rw [List.length_append]; omega)
    simp only [List.length_append, List.length_cons, List.length_nil] at ih
    refine Eq.trans ih ?_
    rw [List.append_assoc]
    rfl
theorem ral_loop (c : Cha) (hc : Valid c) (R : List Int) (ev : List (List UInt8)) (hev : ev.length ≤ 48) : ∀ (l done : List Int) (s : List Cas), R = done ++ l → (∀ x ∈ l, 0 ≤ x ∧ x < c.1.length) → s.length + 768 * l.length ≤ 1000000 →
    loopN (fun i__ s__ => z09_b2 c R ev i__ s__) (fun s__ => z09_f2 c R ev s__) l.length (done.length : Int) s = some (s ++ pickL (pLock c) ev l, ())
  | [], done, s, _, _, _ => by simp [loopN, pickL, z09_f2]
  | x :: l, done, s, hx, hr, hs => by
    have hi : R[done.length]? = some x := by rw [hx]; simp
    have hxr := hr x (by simp)
    simp only [List.length_cons] at hs
    have hb : z09_b2 c R ev (done.length : Int) s = some (.inr (s ++ pickE (pLock c) x ev)) := by
      unfold z09_b2
      rw [bifT (dec_true (by omega)), show ((ev.length : Int) - 0).toNat = ev.length by omega]
      exact rae_loop c hc R ev done.length x hi hxr.1 hxr.2 ev [] s rfl (by omega)
    have hl := pickE_length (pLock c) x ev
    rw [List.length_cons]
    unfold loopN
    simp only [hb, Option.bind_some]
    have ih := ral_loop c hc R ev hev l (done ++ [x]) (s ++ pickE (pLock c) x ev) (by rw [hx]; simp) (fun y hy => hr y (by simp [hy])) (by rw [List.length_append]; omega)
    simp only [List.length_append, List.length_cons, List.length_nil] at ih
    refine Eq.trans ih ?_
    rw [List.append_assoc]
    rfl
theorem ragainst_eq (c : Cha) (hc : Valid c) : z09_M c = some (pickL (pLock c) (evts c.2.1) (RS c), ()) := by
  have h48 := hc.moves
  have hev := evts_length c.2.1
  have hl := RS_length c hc
  unfold z09_M
  rw [rreach_eq c hc, Option.bind_some, revents_eq c (by omega), Option.bind_some, bifT (dec_true (show ((RS c).length : Int) ≤ 9223372036854775807 by omega)), show (((RS c).length : Int) - 0).toNat = (RS c).length by omega]
  have := ral_loop c hc (RS c) (evts c.2.1) (by omega) (RS c) [] [] rfl (fun x hx => RS_mem c hc x hx) (by simp; omega)
  rw [List.nil_append] at this
  exact this
theorem eqV_case (x : Cas) : eqV (.pair (.int .i64) (.pair .str (.pair (.int .i64) .unit))) x x = true := by
  show ((x.1 : Int) == x.1 && ((x.2.1 : List UInt8) == x.2.1 && ((x.2.2.1 : Int) == x.2.2.1 && true))) = true
  simp
theorem sameCases_refl (l : List Cas) (h : l.length < lenMax) : zx_M l l = some (true, ()) := by
  unfold zx_M
  rw [bifF (show ((l.length : Int) != (l.length : Int)) = false by simp), bifT (dec_true h), loopL_same l (fun p x r e => by
    unfold zx_b0
    rw [e, idx_mid p x r _ rfl]
    simp only [Option.bind_some]
    rw [eqV_case]
    rfl) l [] 0 rfl rfl]
  rfl
theorem cases_eq (l : List Cas) (h : l.length ≤ memMax) : z0X_M l = some (l, ()) := by
  have hmem : memMax = 68719476736 := rfl
  unfold z0X_M
  rw [bifT (dec_true (show l.length < lenMax by unfold lenMax; omega))]
  refine (loopL_app (fun x : Cas => x) l 0 [] (by simpa using h) fun i e s he hs => ?_).trans ?_
  · unfold z0X_b0
    rw [bifT (dec_true hs)]
  · rw [List.map_id', List.nil_append]; rfl
theorem gateCases_law (c : Cha) : zr_M c = some (true, ()) := by
  have hmem : memMax = 68719476736 := rfl
  have aw : (z0W_M.bind fun (v6 : Bool × Unit) => some (v6.1, ())) = some (true, ()) := by rw [awake_true]; rfl
  unfold zr_M zr_m
  obtain ⟨s, hs, hs2⟩ := short_eq c
  rw [hs]
  conv => lhs; arg 1; rw [awake_true]
  rw [Option.bind_some, bifF (show (!(true, ()).1) = false from rfl), Option.bind_some]
  cases s with
  | false => exact aw
  | true =>
    have hc := hs2 rfl
    have h17 := hc.sts
    have h49 := hc.tras
    rw [bifF (show (!(true, ()).1) = false from rfl), chart_eq c hc]
    simp only [Option.bind_some]
    rw [gMissing_eq c hc, gAmbiguous_eq c hc, gReach_eq c hc, gAgainst_eq c hc, rchart_eq]
    simp only [Option.bind_some]
    have fin : ∀ (m a x : List Cas) (r : List Int), m.length ≤ 1000000 → a.length ≤ 1000000 → x.length ≤ 1000000 → r.length ≤ 1000000 → (ckChart c ≠ 0 → r = []) →
        zr_m_j43 0 (m, ckChart c, ()) (a, ckChart c, ()) (r, ckChart c, ()) (x, ckChart c, ()) (ckChart c, ()) m a x r = some (true, ()) := by
      intro m a x r h1 h2 h3 h4 h5
      unfold zr_m_j43
      simp only
      rw [cases_eq m (by omega)]
      simp only [Option.bind_some]
      rw [sameCases_refl m (by unfold lenMax; omega)]
      simp only [Option.bind_some, cond_true]
      rw [beq_self_eq_true, cond_true, cases_eq a (by omega)]
      simp only [Option.bind_some]
      rw [sameCases_refl a (by unfold lenMax; omega)]
      simp only [Option.bind_some, cond_true]
      rw [listed_ok r (ckChart c) r (by unfold lenMax; omega) h5 (fun _ => rfl)]
      simp only [Option.bind_some, cond_true]
      rw [cases_eq x (by omega)]
      simp only [Option.bind_some]
      rw [sameCases_refl x (by unfold lenMax; omega)]
      simp only [Option.bind_some, cond_true]
    by_cases h : ckChart c = 0
    · have hv := valid_of c h
      have hlv := leavesF_length c.1 0
      have hev := evts_length c.2.1
      have hR := RS_length c hv
      have b1 := pickL_length (pMany c false) (evts c.2.1) (by have := hv.moves; omega) (leavesF 0 c.1)
      have b2 := pickL_length (pMany c true) (evts c.2.1) (by have := hv.moves; omega) (leavesF 0 c.1)
      have b3 := pickL_length (pLock c) (evts c.2.1) (by have := hv.moves; omega) (RS c)
      have := fin (pickL (pMany c false) (evts c.2.1) (leavesF 0 c.1)) (pickL (pMany c true) (evts c.2.1) (leavesF 0 c.1)) (pickL (pLock c) (evts c.2.1) (RS c)) (RS c) (by omega) (by omega) (by omega) (by omega) (fun h2 => absurd h h2)
      unfold z0A_M z0A_m zv_M zv_m
      rw [rcases_eq c hv false, rcases_eq c hv true, ragainst_eq c hv, rreach_eq c hv]
      simp only [if_pos h]
      rw [bifT (show (ckChart c == 0) = true by simpa using h)]
      simp only [Option.bind_some]
      rw [h] at this ⊢
      exact this
    · simp only [if_neg h]
      rw [bifF (show (ckChart c == 0) = false by simpa using h)]
      exact fin [] [] [] [] (by simp) (by simp) (by simp) (by simp) (fun _ => rfl)
end Go.Tw
end
