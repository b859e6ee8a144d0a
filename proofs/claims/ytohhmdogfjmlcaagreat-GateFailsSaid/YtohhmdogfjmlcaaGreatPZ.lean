import Derived.Test.YtohhmdogfjmlcaaGreatPY
import Derived.Test.YtohhmdogfjmlcaaGreatB14
section
set_option linter.all false
set_option maxRecDepth 100000
namespace Go.Tw
open Go.Vx Go.Vx.B Go.Proofs
def y3N (c : Cha) (s : Int) : Bool := decide (s < 0) || decide ((c.1.length : Int) ≤ s)
def lstE (c : Cha) (l : List Int) : Int := if 16 < l.length then 5 else bif l.any (y3N c) then 10 else 0
theorem yHE (c : Cha) (l : List Int) : zk_M c l = some (lstE c l, ()) := by
  unfold zk_M lstE
  by_cases h : 16 < l.length
  · rw [bifT (y6 (show (l.length : Int) > 16 by omega)), if_pos h]
  · rw [bifF (yH (show ¬ (l.length : Int) > 16 by omega)), if_neg h, bifT (y6 (show l.length < lenMax by unfold lenMax; omega))]
    have := y4A (body := fun i__ e__ s__ => yHU l c i__ e__) (fin := fun s__ => yJk l c) l (fun s => if y3N c s = true then some ((10 : Int), ()) else none) l [] rfl (fun i e hi => by
      unfold yHU y3N
      rw [y2U, hi]
      simp only [Option.bind_some]
      rw [show decide (e ≥ (c.1.length : Int)) = decide ((c.1.length : Int) ≤ e) from rfl]
      cases decide (e < 0) <;> cases decide ((c.1.length : Int) ≤ e) <;> rfl)
    refine this.trans ?_
    rw [yEQ]
    cases l.any (y3N c) <;> rfl
theorem yDR (c : Cha) (xs : List Int) : ∀ (l : List Int) (i : Int), 0 ≤ i → ∃ k, yI (fun i__ e__ s__ => yA9 xs (fun (x : Int × Unit) => zI_M x.fst c) i__ e__) (fun s__ => yHK xs (fun (x : Int × Unit) => zI_M x.fst c)) i l () = some (k, ()) ∧ decide (k ≥ 0) = l.any (y3N c)
  | [], i, _ => ⟨-1, rfl, rfl⟩
  | e :: l, i, hi => by
    have hb : yA9 xs (fun (x : Int × Unit) => zI_M x.fst c) i e = some (bif y3N c e then .inl (i, ()) else .inr ()) := by
      unfold yA9
      show (Option.bind (some (zI e c)) _) = _
      unfold zI y3N
      rw [show decide (e ≥ (c.1.length : Int)) = decide ((c.1.length : Int) ≤ e) from rfl]
      cases decide (e < 0) <;> cases decide ((c.1.length : Int) ≤ e) <;> rfl
    rw [yZ, hb, List.any_cons]
    cases h : y3N c e with
    | true => exact ⟨i, rfl, by rw [Bool.true_or]; exact y6 hi⟩
    | false =>
      obtain ⟨k, h1, h2⟩ := yDR c xs l (i + 1) (by omega)
      exact ⟨k, h1, by rw [h2]; simp⟩
theorem yH5 (c : Cha) (l : List Int) (h : l.length ≤ 1000) : zP_M c l = some (lstE c l, ()) := by
  unfold zP_M zP_m zC_M zC_m zG_M
  obtain ⟨k, h1, h2⟩ := yDR c l l 0 (by omega)
  rw [bifT (y6 (show l.length < lenMax by unfold lenMax; omega)), h1]
  simp only [Option.bind_some, y3Q]
  rw [yx _ (by simp [lenMax]), h2]
  simp only [Option.bind_some, yR, yb, yQ]
  unfold lstE
  by_cases h : 16 < l.length
  · rw [y6 (show (l.length : Int) > 16 by omega), if_pos h]; rfl
  · rw [yH (show ¬ (l.length : Int) > 16 by omega), if_neg h]; rfl
end Go.Tw
end
section
set_option linter.all false
set_option maxRecDepth 100000
namespace Go.Tw
open Go.Vx Go.Vx.B Go.Proofs
def y7k (p : Int → List UInt8 → Int → Bool) (leaf : Int) (e : List UInt8) : Nat → Int → List Cas
  | 0, _ => []
  | m + 1, v => (bif p leaf e v then [(leaf, e, v, ())] else []) ++ y7k p leaf e m (v + 1)
def y7v (p : Int → List UInt8 → Int → Bool) (leaf : Int) : List (List UInt8) → List Cas
  | [] => []
  | e :: l => y7k p leaf e 16 0 ++ y7v p leaf l
def y9Z (p : Int → List UInt8 → Int → Bool) (ev : List (List UInt8)) : List Int → List Cas
  | [] => []
  | i :: l => y7v p i ev ++ y9Z p ev l
theorem y3D (p : Int → List UInt8 → Int → Bool) (leaf : Int) (e : List UInt8) : ∀ (m : Nat) (v : Int), (y7k p leaf e m v).length ≤ m
  | 0, v => Nat.le_refl _
  | m + 1, v => by
    have := y3D p leaf e m (v + 1)
    unfold y7k
    rw [List.length_append]
    cases p leaf e v <;> simp <;> omega
theorem y5g (p : Int → List UInt8 → Int → Bool) (leaf : Int) : ∀ ev : List (List UInt8), (y7v p leaf ev).length ≤ 16 * ev.length
  | [] => Nat.le_refl _
  | e :: l => by
    have := y5g p leaf l
    have := y3D p leaf e 16 0
    unfold y7v
    rw [List.length_append, List.length_cons]
    omega
def outc (c : Cha) (leaf : Int) (e : List UInt8) (v : Int) : Int × Bool × Bool × Unit := match y3y c leaf e v with
  | [] => (leaf, true, false, ())
  | [t] => (entr c t.2.2.1, false, false, ())
  | _ => (leaf, false, true, ())
section
variable (c : Cha) (hc : Valid c) (H : Cas × (Int × Bool × Bool × Unit) × Unit → Option (Bool × Unit)) (p : Int → List UInt8 → Int → Bool)
  (hH : ∀ (leaf : Int) (e : List UInt8) (v : Int), 0 ≤ leaf → leaf < c.1.length → 0 ≤ v → v ≤ 15 → H ((leaf, e, v, ()), outc c leaf e v, ()) = some (p leaf e v, ()))
include hc hH
end
def y2z (c : Cha) (many : Bool) (leaf : Int) (e : List UInt8) (v : Int) : Bool := match y3y c leaf e v with
  | [] => !many
  | [_] => false
  | _ => many
theorem yOV (c : Cha) (hc : Valid c) (many : Bool) (ev : List (List UInt8)) (k : Nat) (e : List UInt8) (hk : ev[k]? = some e) (leaf : Int) (h0 : 0 ≤ leaf) (h1 : leaf < c.1.length) (v : Int) (s : List Cas) (hs : s.length ≤ 1000000) :
    y8v many c ev leaf (k : Int) v s = some (.inr (s ++ (bif y2z c many leaf e v then [(leaf, e, v, ())] else []))) := by
  have hmem : memMax = 68719476736 := rfl
  have hA : ∀ b, y3V many c ev leaf (k : Int) v s b = some (.inr (s ++ (bif b then [(leaf, e, v, ())] else []))) := by
    intro b
    unfold y3V
    cases b with
    | true => rw [cond_true, cond_true, y2U, hk, Option.bind_some, bifT (y6 (show s.length + 1 ≤ memMax by omega))]
    | false => simp
  unfold y8v y2z
  rw [y2U, hk, Option.bind_some, yHn c hc leaf (e, v, ()) (by omega) h1, Option.bind_some]
  simp only [hA]
  generalize y3y c leaf e v = fs
  match fs with
  | [] => cases many <;> rfl
  | [t] => cases many <;> rfl
  | t :: u :: l =>
    simp only [List.length_cons]
    rw [bifT (y6 (by omega))]
    cases many with
    | true => rfl
    | false => rw [cond_false, bifF (beq_eq_false_iff_ne.2 (by omega))]
theorem yGM (c : Cha) (hc : Valid c) (many : Bool) (ev : List (List UInt8)) (k : Nat) (e : List UInt8) (hk : ev[k]? = some e) (hkl : k ≤ 100) (leaf : Int) (h0 : 0 ≤ leaf) (h1 : leaf < c.1.length) : ∀ (m : Nat) (v : Int) (s : List Cas), s.length + m ≤ 1000000 →
    y01 (fun i__ s__ => y8v many c ev leaf (k : Int) i__ s__) (fun s__ => yDG many c ev leaf (k : Int) s__) m v s = some (.inr ((k : Int) + 1, s ++ y7k (y2z c many) leaf e m v))
  | 0, v, s, _ => by
    show some (Sum.inr (IntKind.i64.wrap ((k : Int) + 1), s)) = _
    rw [y4V (by omega) (by omega)]
    simp [y7k]
  | m + 1, v, s, hs => by
    unfold y01
    simp only [yOV c hc many ev k e hk leaf h0 h1 v s (by omega), Option.bind_some]
    refine (yGM c hc many ev k e hk hkl leaf h0 h1 m (v + 1) _ (by rw [List.length_append]; cases y2z c many leaf e v <;> simp <;> omega)).trans ?_
    rw [List.append_assoc]
    rfl
theorem yDo (c : Cha) (hc : Valid c) (many : Bool) (ev : List (List UInt8)) (hev : ev.length ≤ 48) (i : Nat) (st : Sta) (hi : c.1[i]? = some st) (hlf : (st.2.2.1 == -1) = true) : ∀ (l done : List (List UInt8)) (r : Nat) (s : List Cas), ev = done ++ l → l.length < r → s.length + 16 * l.length ≤ 1000000 →
    y1e (fun s__ => y45 many c ev (i : Int) s__.1 s__.2) r ((done.length : Int), s) = some (.inr (s ++ y7v (y2z c many) (i : Int) l))
  | l, done, 0, s, _, hr, _ => by omega
  | [], done, r + 1, s, hx, hr, hs => by
    rw [List.append_nil] at hx
    have hb : y45 many c ev (i : Int) (done.length : Int) s = some (.inl (.inr s)) := by
      unfold y45
      rw [y7Q c i st hi, Option.bind_some, hlf, cond_true, bifF (yH (by rw [hx]; omega))]
    unfold y1e
    simp only [hb, Option.bind_some]
    simp [y7v]
  | e :: l, done, r + 1, s, hx, hr, hs => by
    have hi2 := (List.getElem?_eq_some_iff.1 hi).1
    have hk : ev[done.length]? = some e := by rw [hx]; simp
    have hkl := (List.getElem?_eq_some_iff.1 hk).1
    simp only [List.length_cons] at hr hs
    have hb : y45 many c ev (i : Int) (done.length : Int) s = some (.inr ((done.length : Int) + 1, s ++ y7k (y2z c many) (i : Int) e 16 0)) := by
      unfold y45
      rw [y7Q c i st hi, Option.bind_some, hlf, cond_true, bifT (y6 (by omega)), bifT (by rfl)]
      exact yGM c hc many ev done.length e hk (by omega) (i : Int) (by omega) (by omega) 16 0 s (by omega)
    have hl := y3D (y2z c many) (i : Int) e 16 0
    unfold y1e
    simp only [hb, Option.bind_some]
    have ih := yDo c hc many ev hev i st hi hlf l (done ++ [e]) r (s ++ y7k (y2z c many) (i : Int) e 16 0) (by rw [hx]; simp) (by omega) (by rw [List.length_append]; omega)
    simp only [List.length_append, List.length_cons, List.length_nil] at ih
    refine Eq.trans ih ?_
    rw [List.append_assoc]
    rfl
theorem y9S (c : Cha) (hc : Valid c) (many : Bool) (ev : List (List UInt8)) (hev : ev.length ≤ 48) : ∀ (l done : List Sta) (s : List Cas), c.1 = done ++ l → s.length + 768 * l.length ≤ 1000000 →
    y01 (fun i__ s__ => y5U many c ev i__ s__) (fun s__ => yAo many c ev s__) l.length (done.length : Int) s = some (s ++ y9Z (y2z c many) ev (y0e done.length l), ())
  | [], done, s, _, _ => by simp [y01, y0e, y9Z, yAo]
  | st :: l, done, s, hx, hs => by
    have hi : c.1[done.length]? = some st := by rw [hx]; simp
    simp only [List.length_cons] at hs
    rw [List.length_cons]
    have hW : ev.length < wMax := by unfold wMax; omega
    cases hlf : (st.2.2.1 == -1) with
    | true =>
      have hb : y5U many c ev (done.length : Int) s = some (.inr (s ++ y7v (y2z c many) (done.length : Int) ev)) := by
        unfold y5U
        exact yDo c hc many ev hev done.length st hi hlf ev [] wMax s rfl hW (by omega)
      have hl := y5g (y2z c many) (done.length : Int) ev
      unfold y01
      simp only [hb, Option.bind_some]
      have ih := y9S c hc many ev hev l (done ++ [st]) (s ++ y7v (y2z c many) (done.length : Int) ev) (by rw [hx]; simp) (by rw [List.length_append]; omega)
      simp only [List.length_append, List.length_cons, List.length_nil] at ih
      refine Eq.trans ih ?_
      have hF : y0e (done.length : Int) (st :: l) = (done.length : Int) :: y0e ((done.length : Int) + 1) l := by
        show (if (st.2.2.1 == -1) = true then [(done.length : Int)] else []) ++ y0e ((done.length : Int) + 1) l = _
        rw [if_pos hlf]
        rfl
      rw [hF, List.append_assoc]
      rfl
    | false =>
      have hb2 : y45 many c ev (done.length : Int) 0 s = some (.inl (.inr s)) := by
        unfold y45
        rw [y7Q c done.length st hi, Option.bind_some, hlf, cond_false]
      have hb : y5U many c ev (done.length : Int) s = some (.inr s) := by
        unfold y5U
        generalize hWW : wMax = W at hW
        cases W with
        | zero => omega
        | succ W =>
          unfold y1e
          simp only [hb2, Option.bind_some]
      unfold y01
      simp only [hb, Option.bind_some]
      have ih := y9S c hc many ev hev l (done ++ [st]) s (by rw [hx]; simp) (by omega)
      simp only [List.length_append, List.length_cons, List.length_nil] at ih
      refine Eq.trans ih ?_
      have hF : y0e (done.length : Int) (st :: l) = y0e ((done.length : Int) + 1) l := by
        show (if (st.2.2.1 == -1) = true then [(done.length : Int)] else []) ++ y0e ((done.length : Int) + 1) l = _
        rw [if_neg (by rw [hlf]; simp)]
        rfl
      rw [hF]
      rfl
theorem yHP (c : Cha) (hc : Valid c) (many : Bool) : yC5 c many = some (y9Z (y2z c many) (evts c.2.1) (y0e 0 c.1), ()) := by
  have h48 := hc.moves
  have h16 := hc.few
  have hev := yC4 c.2.1
  unfold yC5
  rw [y87 c (by omega), Option.bind_some, bifT (y6 (show (c.1.length : Int) ≤ 9223372036854775807 by omega)), show ((c.1.length : Int) - 0).toNat = c.1.length by omega]
  have := y9S c hc many (evts c.2.1) (by omega) c.1 [] [] rfl (by simp; omega)
  rw [List.nil_append] at this
  exact this
end Go.Tw
end
section
set_option linter.all false
set_option maxRecDepth 100000
namespace Go.Tw
open Go.Vx Go.Vx.B Go.Proofs
end Go.Tw
end
section
set_option linter.all false
set_option maxRecDepth 100000
namespace Go.Tw
open Go.Vx Go.Vx.B Go.Proofs
def y0l (n : Int) (f : Fai) : Int :=
  if f.1 = noneW then (if f.2.1 = 0 ∧ f.2.2.1 = 0 ∧ f.2.2.2.1 = 0 then 0 else 1)
  else if f.1 = lostW then (if f.2.2.1 = 0 ∧ f.2.2.2.1 = 0 then ckR f.2.1 0 (n - 1) else 1)
  else if f.1 = stuckW then yE (ckR f.2.1 0 (n - 1)) (yE (ckR f.2.2.1 0 3) (ckR f.2.2.2.1 0 1))
  else 13
theorem yBv (x y : Fai) : eqV (.pair .str (.pair (.int .i64) (.pair (.int .i64) (.pair (.int .i64) .unit)))) x y = decide (x.1 = y.1 ∧ x.2.1 = y.2.1 ∧ x.2.2.1 = y.2.2.1 ∧ x.2.2.2.1 = y.2.2.2.1) := by
  show ((x.1 : List UInt8) == y.1 && ((x.2.1 : Int) == y.2.1 && ((x.2.2.1 : Int) == y.2.2.1 && ((x.2.2.2.1 : Int) == y.2.2.2.1 && true)))) = _
  by_cases h1 : x.1 = y.1 <;> by_cases h2 : x.2.1 = y.2.1 <;> by_cases h3 : x.2.2.1 = y.2.2.1 <;> by_cases h4 : x.2.2.2.1 = y.2.2.2.1 <;> simp [h1, h2, h3, h4]
theorem yGf (f : Fai) : ∃ k1 k2, zf_M f = some ((if f.1 = noneW ∨ f.1 = lostW ∨ f.1 = stuckW then f.1 else [], k1, k2, ()), decide (f.1 = noneW ∨ f.1 = lostW ∨ f.1 = stuckW), ()) ∧
    (f.1 = noneW → (∀ g, k1 (g, ()) = some ((g.1, 0, 0, 0, ()), ())) ∧ ∀ g i x, k2 (g, i, x, ()) = some (x, true, ())) ∧
    (f.1 = lostW → (∀ g, k1 (g, ()) = some ((g.1, g.2.1, 0, 0, ()), ())) ∧ ∀ g i x, k2 (g, i, x, ()) = some (x, i != g.2.1, ())) ∧
    (f.1 = stuckW → (∀ g, k1 (g, ()) = some (g, ())) ∧ ∀ g i x, k2 (g, i, x, ()) = ze_M g i x) := by
  have hn : noneW ≠ lostW := by decide
  have hs : noneW ≠ stuckW := by decide
  have hl : lostW ≠ stuckW := by decide
  have hb (k : Int) (v : List UInt8 × (Fai × Unit → Option (Fai × Unit)) × (Fai × Int × Inp × Unit → Option (Inp × Bool × Unit)) × Unit) (h : idx z0k.1 k = some v) :
      yEs f z0k.1 [] k = some (bif v.1 == f.1 then .inl ((v.1, v.2.1, v.2.2.1, ()), true, ()) else .inr ()) := by
    unfold yEs
    rw [h, Option.bind_some]
    cases (v.1 == f.1) <;> rfl
  have h0 := hb 0 _ rfl
  have h1 := hb 1 _ rfl
  have h2 := hb 2 _ rfl
  have hM : zf_M f = y01 (fun i__ s__ => yEs f z0k.1 [] i__) (fun s__ => yJ0 f z0k.1 []) 3 0 () := by
    unfold zf_M
    rw [bifT (by rfl)]
    rfl
  rw [hM]
  unfold y01
  simp only [h0, Option.bind_some]
  by_cases c1 : f.1 = noneW
  · refine ⟨fun x => yHZ x.1, fun x => yHQ x.1 x.2.1 x.2.2.1, ?_, fun _ => ⟨fun g => ?_, fun g i x => ?_⟩, fun h => absurd (c1.symm.trans h) hn, fun h => absurd (c1.symm.trans h) hs⟩
    · rw [if_pos (.inl c1), y6 (.inl c1), c1]; rfl
    · rfl
    · rfl
  have e1 : (([110, 111, 110, 101] : List UInt8) == f.1) = false := by
    rw [beq_eq_false_iff_ne]; exact fun h => c1 h.symm
  simp only [e1, cond_false]
  unfold y01
  simp only [Int.zero_add, h1, Option.bind_some]
  by_cases c2 : f.1 = lostW
  · refine ⟨fun x => yHF x.1, fun x => yGX x.1 x.2.1 x.2.2.1, ?_, fun h => absurd h c1, fun _ => ⟨fun g => ?_, fun g i x => ?_⟩, fun h => absurd (c2.symm.trans h) hl⟩
    · rw [if_pos (.inr (.inl c2)), y6 (.inr (.inl c2)), c2]; rfl
    · rfl
    · rfl
  have e2 : (([108, 111, 115, 116] : List UInt8) == f.1) = false := by
    rw [beq_eq_false_iff_ne]; exact fun h => c2 h.symm
  simp only [e2, cond_false]
  unfold y01
  rw [show (1 : Int) + 1 = 2 from rfl]
  simp only [h2, Option.bind_some]
  by_cases c3 : f.1 = stuckW
  · refine ⟨fun x => yIJ x.1, fun x => ze_M x.1 x.2.1 x.2.2.1, ?_, fun h => absurd h c1, fun h => absurd h c2, fun _ => ⟨fun g => ?_, fun g i x => ?_⟩⟩
    · rw [if_pos (.inr (.inr c3)), y6 (.inr (.inr c3)), c3]; rfl
    · rfl
    · rfl
  have e3 : (([115, 116, 117, 99, 107] : List UInt8) == f.1) = false := by
    rw [beq_eq_false_iff_ne]; exact fun h => c3 h.symm
  simp only [e3, cond_false]
  have hno : ¬ (f.1 = noneW ∨ f.1 = lostW ∨ f.1 = stuckW) := by
    rintro (h | h | h)
    · exact c1 h
    · exact c2 h
    · exact c3 h
  refine ⟨fun _ => none, fun _ => none, ?_, fun h => absurd h c1, fun h => absurd h c2, fun h => absurd h c3⟩
  rw [if_neg hno, yH hno]
  rfl
theorem yDe (n : Int) (f : Fai) (hn : 0 ≤ n ∧ n ≤ 1000) : zW_M f n = some (y0l n f, ()) := by
  have hw : IntKind.i64.wrap (n - 1) = n - 1 := y4V (by omega) (by omega)
  have hn1 : lostW ≠ noneW := by decide
  have hs1 : stuckW ≠ noneW := by decide
  have hl1 : stuckW ≠ lostW := by decide
  obtain ⟨k1, k2, hk, g1, g2, g3⟩ := yGf f
  unfold zW_M zW_m y0l
  rw [hk, Option.bind_some, show ([110, 111, 110, 101] : List UInt8) = noneW from rfl]
  have fin : ∀ z : Int, (Option.bind (y0Q [(z0Z f.2.1 0 (IntKind.i64.wrap (n - 1))).fst, (z0Z f.2.2.1 0 3).fst, (z0Z f.2.2.2.1 0 1).fst]) fun (v2 : Int × Unit) => some (v2.1, ())) = some (yE (ckR f.2.1 0 (n - 1)) (yE (ckR f.2.2.1 0 3) (ckR f.2.2.2.1 0 1)), ()) := by
    intro _
    simp only [y4p, hw]
    rw [yx _ (by simp [lenMax]), Option.bind_some]
    simp only [yR, yb, yQ]
  by_cases h1 : f.1 = noneW
  · rw [y6 (.inl h1), bifF (by rfl)]
    simp only
    rw [(g1 h1).1 f, Option.bind_some, yBv, if_pos h1]
    simp only [true_and]
    by_cases h : f.2.1 = 0 ∧ f.2.2.1 = 0 ∧ f.2.2.2.1 = 0
    · rw [if_pos h, y6 ⟨h.1.symm, h.2.1.symm, h.2.2.symm⟩, bifF (by rfl), bifT (show (f.1 == noneW) = true by simpa using h1)]
    · rw [if_neg h, yH (fun x => h ⟨x.1.symm, x.2.1.symm, x.2.2.symm⟩), bifT (by rfl)]
  rw [if_neg h1]
  by_cases h2 : f.1 = lostW
  · rw [y6 (.inr (.inl h2)), bifF (by rfl)]
    simp only
    rw [(g2 h2).1 f, Option.bind_some, yBv, if_pos h2]
    simp only [true_and]
    by_cases h : f.2.2.1 = 0 ∧ f.2.2.2.1 = 0
    · rw [if_pos h, y6 ⟨h.1.symm, h.2.symm⟩, bifF (by rfl), bifF (show (f.1 == noneW) = false by simpa using h1), fin 0, h.1, h.2]
      show some (yE (ckR f.2.1 0 (n - 1)) (yE (ckR 0 0 3) (ckR 0 0 1)), ()) = _
      rw [show ckR 0 0 3 = 0 from rfl, show ckR 0 0 1 = 0 from rfl, y1l, yQ]
    · rw [if_neg h, yH (fun x => h ⟨x.1.symm, x.2.symm⟩), bifT (by rfl)]
  rw [if_neg h2]
  by_cases h3 : f.1 = stuckW
  · rw [y6 (.inr (.inr h3)), bifF (by rfl)]
    simp only
    rw [(g3 h3).1 f, Option.bind_some, yBv, if_pos h3, y6 ⟨rfl, rfl, rfl, rfl⟩, bifF (by rfl), bifF (show (f.1 == noneW) = false by simpa using h1), fin 0]
  · have hno : ¬ (f.1 = noneW ∨ f.1 = lostW ∨ f.1 = stuckW) := by
      rintro (h | h | h)
      · exact h1 h
      · exact h2 h
      · exact h3 h
    rw [yH hno, bifT (by rfl), if_neg h3]
def setB (v b w : Int) : Int := yl .i64 .or (yl .i64 .andNot v (IntKind.i64.wrap (1 * 2 ^ min b.toNat IntKind.i64.bits))) (IntKind.i64.wrap (w * 2 ^ min b.toNat IntKind.i64.bits))
def pw (b : Nat) : Int := if b = 0 then 1 else if b = 1 then 2 else if b = 2 then 4 else 8
theorem yFu : ∀ (v : Fin 16) (b : Fin 4) (w : Fin 2), (0 ≤ setB v.val b.val w.val ∧ setB v.val b.val w.val ≤ 15) ∧
    setB v.val b.val w.val = if w.val = 0 then IntKind.i64.wrap (yl .i64 .or v.val (pw b.val) - pw b.val) else yl .i64 .or v.val (pw b.val) := by
  decide +kernel
def dF (f : Fai) (i : Int) (x : Inp) : Inp × Bool :=
  if f.1 = lostW then (x, i != f.2.1) else if f.1 = stuckW then (if f.2.1 ≤ i then ((x.1, setB x.2.1 f.2.2.1 f.2.2.2.1, ()), true) else (x, true)) else (x, true)
theorem yEO (f : Fai) (n : Int) (h : y0l n f = 0) (i : Int) (x : Inp) (hx : 0 ≤ x.2.1 ∧ x.2.1 ≤ 15) : 0 ≤ (dF f i x).1.2.1 ∧ (dF f i x).1.2.1 ≤ 15 := by
  have hn : stuckW ≠ noneW := by decide
  have hl : stuckW ≠ lostW := by decide
  unfold dF
  split
  · exact hx
  · split
    · rename_i h2 h3
      split
      · unfold y0l at h
        rw [if_neg (by rw [h3]; exact hn), if_neg h2, if_pos h3] at h
        obtain ⟨_, h⟩ := y8.1 h
        obtain ⟨hb, hw⟩ := y8.1 h
        have hb := y0L hb
        have hw := y0L hw
        have := (yFu ⟨x.2.1.toNat, by omega⟩ ⟨f.2.2.1.toNat, by omega⟩ ⟨f.2.2.2.1.toNat, by omega⟩).1
        simp only at this
        rw [Int.toNat_of_nonneg hx.1, Int.toNat_of_nonneg hb.1, Int.toNat_of_nonneg hw.1] at this
        exact this
      · exact hx
    · exact hx
theorem yBF (c : Cha) (hc : Valid c) (l : List Inp) (hl : l.length ≤ 1000) (hv : ∀ x ∈ l, 0 ≤ x.2.1 ∧ x.2.1 ≤ 15) (f : Fai) (n : Int) (hf : y0l n f = 0) :
    zw_M c l f = some ((y3w c (dF f) l 0 (entr c 0) []).1, (y3w c (dF f) l 0 (entr c 0) []).2, ()) := by
  have hp := hc.pos
  have hlf := y3G c hc 0 (by omega) (by omega)
  obtain ⟨k1, k2, hk, g1, g2, g3⟩ := yGf f
  have hn1 : lostW ≠ noneW := by decide
  have hs1 : stuckW ≠ noneW := by decide
  have hl1 : stuckW ≠ lostW := by decide
  have hd : ∀ (i : Int) (x : Inp), k2 (f, i, x, ()) = some ((dF f i x).1, (dF f i x).2, ()) := by
    intro i x
    unfold dF
    by_cases h1 : f.1 = noneW
    · rw [(g1 h1).2 f i x, if_neg (by rw [h1]; exact hn1.symm), if_neg (by rw [h1]; exact hs1.symm)]
    by_cases h2 : f.1 = lostW
    · rw [(g2 h2).2 f i x, if_pos h2]
    by_cases h3 : f.1 = stuckW
    · rw [(g3 h3).2 f i x, if_neg h2, if_pos h3]
      unfold y0l at hf
      rw [if_neg h1, if_neg h2, if_pos h3] at hf
      obtain ⟨_, hf⟩ := y8.1 hf
      have hb := y0L (y8.1 hf).1
      unfold ze_M ze_m
      by_cases hi : f.2.1 ≤ i
      · rw [if_pos hi, bifT (y6 (show i ≥ f.2.1 from hi)), bifF (yH (by omega)), bifF (yH (by omega))]
        rfl
      · rw [if_neg hi, bifF (yH (show ¬ i ≥ f.2.1 from hi))]
    · unfold y0l at hf
      rw [if_neg h1, if_neg h2, if_neg h3] at hf
      cases hf
  unfold zw_M
  rw [hk, Option.bind_some, y4o c hc 0 (by omega) (by omega), Option.bind_some, bifT (y6 (show l.length < lenMax by unfold lenMax; omega))]
  exact y3v c hc f l _ k1 k2 (dF f) l 0 (entr c 0) [] (by omega) hlf.1 hlf.2.1 (by simpa using hl) (fun i x _ hx => ⟨hd i x, fun _ => yEO f n hf i x (hv x hx)⟩)
end Go.Tw
end
section
set_option linter.all false
set_option maxRecDepth 100000
namespace Go.Tw
open Go.Vx Go.Vx.B Go.Proofs
abbrev Drl := Cha × List Inp × Goa × Unit
theorem y7F (c : Cha) (d : Int → Inp → Inp × Bool) : ∀ (l : List Inp) (i leaf : Int) (out : List Int), (y3w c d l i leaf out).2 = 0 → (y3w c d l i leaf out).1.length = out.length + l.length
  | [], i, leaf, out, _ => rfl
  | x :: l, i, leaf, out, h => by
    unfold y3w at h ⊢
    by_cases h1 : (d i x).2 = true
    · rw [if_pos h1] at h ⊢
      by_cases h2 : (stp c leaf (d i x).1.1 (d i x).1.2.1).2 = 0
      · rw [if_pos h2] at h ⊢
        rw [y7F c d l _ _ _ h]
        simp
        omega
      · rw [if_neg h2] at h
        exact absurd h h2
    · rw [if_neg h1] at h ⊢
      rw [y7F c d l _ _ _ h]
      simp
      omega
def y3z (c : Cha) (n : Int) (g : Goa) : Int := yE (lstE c g.1) (yE (lstE c g.2.1) (yE (ckR g.2.2.1 0 n) (ckR g.2.2.2.1 0 n)))
theorem yJH (c : Cha) (n : Int) (g : Goa) : yGr c n g = some (y3z c n g, ()) := by
  unfold yGr yKI y3z
  rw [yHE, Option.bind_some, yHE, Option.bind_some]
  simp only [y2g]
  rw [y4y _ (by simp [lenMax]), Option.bind_some]
  simp only [yR, yb, yQ]
theorem yDL (c : Cha) (n : Int) (g : Goa) (h1 : g.1.length ≤ 1000) (h2 : g.2.1.length ≤ 1000) : zN_M c g n = some (y3z c n g, ()) := by
  unfold zN_M zN_m y3z
  rw [yH5 c g.1 h1, Option.bind_some, yH5 c g.2.1 h2, Option.bind_some]
  simp only [y4p]
  rw [yx _ (by simp [lenMax]), Option.bind_some]
  simp only [yR, yb, yQ]
abbrev y5t (c : Cha) (l : List Inp) (f : Fai) : List Int × Int := y3w c (dF f) l 0 (entr c 0) []
def srvL (g : Goa) (L : List Int) : Bool := g.1.contains (L.getD g.2.2.1.toNat 0) || (L.take (g.2.2.2.1.toNat + 1)).any fun x => g.2.1.contains x
def srv (c : Cha) (l : List Inp) (g : Goa) (f : Fai) : Bool × Int := if (y5t c l f).2 = 0 then (srvL g (entr c 0 :: (y5t c l f).1), 0) else (false, (y5t c l f).2)
theorem yIa (F : Int × Unit → Option (Bool × Unit)) (q : Int → Bool) (hF : ∀ x, F (x, ()) = some (q x, ())) (xs : List Int) : ∀ (l : List Int) (i : Int), 0 ≤ i → ∃ k, yI (fun i__ e__ s__ => yA9 xs F i__ e__) (fun s__ => yHK xs F) i l () = some (k, ()) ∧ decide (k ≥ 0) = l.any q
  | [], i, _ => ⟨-1, rfl, rfl⟩
  | e :: l, i, hi => by
    have hb : yA9 xs F i e = some (bif q e then .inl (i, ()) else .inr ()) := by
      unfold yA9
      rw [hF, Option.bind_some]
      cases q e <;> rfl
    rw [yZ, hb, List.any_cons]
    cases h : q e with
    | true => exact ⟨i, rfl, by rw [Bool.true_or]; exact y6 hi⟩
    | false =>
      obtain ⟨k, h1, h2⟩ := yIa F q hF xs l (i + 1) (by omega)
      exact ⟨k, h1, by rw [h2]; simp⟩
theorem yVp (F : Int × Unit → Option (Bool × Unit)) (q : Int → Bool) (hF : ∀ x, F (x, ()) = some (q x, ())) (l : List Int) (h : l.length ≤ 100000) : zC_M l F = some (l.any q, ()) := by
  unfold zC_M zC_m zG_M
  obtain ⟨k, h1, h2⟩ := yIa F q hF l l 0 (by omega)
  rw [bifT (y6 (show l.length < lenMax by unfold lenMax; omega)), h1, Option.bind_some, h2]
theorem yNl {L : List Int} {i : Nat} (h : i < L.length) : L[i]? = some (L.getD i 0) := by
  rw [List.getD_eq_getElem?_getD, List.getElem?_eq_getElem h]
  rfl
theorem yIs {c : Cha} {n : Int} {g : Goa} (h : y3z c n g = 0) : (0 ≤ g.2.2.1 ∧ g.2.2.1 ≤ n) ∧ 0 ≤ g.2.2.2.1 ∧ g.2.2.2.1 ≤ n := by
  obtain ⟨_, h⟩ := y8.1 h
  obtain ⟨_, h⟩ := y8.1 h
  obtain ⟨h1, h2⟩ := y8.1 h
  exact ⟨y0L h1, y0L h2⟩
theorem yJ6 (v : Int) (r : List Int) : List.take (Int.toNat (1 : Int)) ((List.replicate (r.length + 1) (0 : Int)).set (Int.toNat (0 : Int)) v) ++ List.take (((List.replicate (r.length + 1) (0 : Int)).set (Int.toNat (0 : Int)) v).length - Int.toNat (1 : Int)) r ++ List.drop (Int.toNat (1 : Int) + min r.length (((List.replicate (r.length + 1) (0 : Int)).set (Int.toNat (0 : Int)) v).length - Int.toNat (1 : Int))) ((List.replicate (r.length + 1) (0 : Int)).set (Int.toNat (0 : Int)) v) = v :: r := by
  have e1 : (List.replicate (r.length + 1) (0 : Int)).set (Int.toNat (0 : Int)) v = v :: List.replicate r.length 0 := by
    rw [List.replicate_succ]; rfl
  rw [e1, show Int.toNat (1 : Int) = 1 from rfl, List.length_cons, List.length_replicate, Nat.add_sub_cancel, Nat.min_self]
  rw [List.take_of_length_le (Nat.le_refl _), List.drop_eq_nil_of_le (by simp; omega)]
  simp
theorem y8t (c : Cha) (hc : Valid c) (l : List Inp) (hl : l.length ≤ 1000) (hv : ∀ x ∈ l, 0 ≤ x.2.1 ∧ x.2.1 ≤ 15) (g : Goa) (hg : y3z c l.length g = 0) (hg1 : g.1.length ≤ 1000) (hg2 : g.2.1.length ≤ 1000) (f : Fai) (n : Int) (hf : y0l n f = 0) :
    zb_M c l g f = some ((srv c l g f).1, (srv c l g f).2, ()) := by
  have hmem : memMax = 68719476736 := rfl
  have hp := hc.pos
  obtain ⟨hlat, hear⟩ := yIs hg
  unfold zb_M zb_m srv
  rw [yBF c hc l hl hv f n hf, Option.bind_some]
  by_cases hz : (y5t c l f).2 = 0
  · have hlen := y7F c (dF f) l 0 (entr c 0) [] hz
    rw [List.length_nil, Nat.zero_add] at hlen
    rw [if_pos hz, bifF (show ((y5t c l f).2 != 0) = false by simpa using hz)]
    revert hlen
    change (y5t c l f).1.length = l.length → _
    simp only
    generalize (y5t c l f).1 = r
    intro hlen
    have hw : IntKind.i64.wrap ((r.length : Int) + 1) = ((r.length + 1 : Nat) : Int) := by rw [y4V (by omega) (by omega)]; omega
    have i0 : idx (List.replicate (r.length + 1) (0 : Int)) 0 = some 0 := by rw [y5O _ (by omega)]; simp
    have i1 : (List.replicate (r.length + 1) (0 : Int))[Int.toNat (0 : Int)]? = some 0 := by simp
    simp only [hw, Int.toNat_natCast]
    rw [bifT (by simp; omega), y4o c hc 0 (by omega) (by omega), Option.bind_some, i0, Option.bind_some, i1, Option.bind_some, bifT (by simp; omega), yJ6]
    have il : idx (entr c 0 :: r) g.2.2.1 = some ((entr c 0 :: r).getD g.2.2.1.toNat 0) := by
      rw [y5O _ hlat.1, yNl (by simp; omega)]
    rw [il, Option.bind_some, y32 _ _ (by unfold lenMax; omega), Option.bind_some]
    unfold srvL
    cases h1 : g.1.contains ((entr c 0 :: r).getD g.2.2.1.toNat 0) with
    | true => rfl
    | false =>
      have hwe : IntKind.i64.wrap (g.2.2.2.1 + 1) = g.2.2.2.1 + 1 := y4V (by omega) (by omega)
      rw [cond_false, hwe, bifT (by simp; omega), yVp _ (fun x => g.2.1.contains x) (fun x => by
        show zT_M x g = _
        unfold zT_M zT_m
        rw [y32 _ _ (by unfold lenMax; omega), Option.bind_some]) _ (by rw [List.length_take]; simp; omega), Option.bind_some, show (g.2.2.2.1 + 1).toNat = g.2.2.2.1.toNat + 1 by omega, Bool.false_or]
  · rw [if_neg hz, bifT (show ((y5t c l f).2 != 0) = true by simpa using hz)]
def wk (c : Cha) (l : List Inp) (g : Goa) : List Fai → List Fai → List Fai × Int
  | [], out => (out, 0)
  | f :: r, out => if (srv c l g f).2 = 0 then wk c l g r (if (srv c l g f).1 = true then out else out ++ [f]) else ([], (srv c l g f).2)
theorem yBX : ∀ (m : Nat) (i : Int) (n : Int), 0 ≤ i → i + m ≤ n → ∀ f ∈ y0O i m, y0l n f = 0
  | 0, i, n, _, _, f, hf => by cases hf
  | m + 1, i, n, h0, h1, f, hf => by
    unfold y0O at hf
    rcases List.mem_append.1 hf with hf | hf
    · have hr : ckR i 0 (n - 1) = 0 := by unfold ckR; rw [if_neg (by omega)]
      have hs1 : stuckW ≠ noneW := by decide
      have hs2 : stuckW ≠ lostW := by decide
      have hl1 : lostW ≠ noneW := by decide
      unfold tick at hf
      simp only [List.mem_cons, List.not_mem_nil, or_false] at hf
      have stk : ∀ b v : Int, ckR b 0 3 = 0 → ckR v 0 1 = 0 → y0l n (stuckW, i, b, v, ()) = 0 := by
        intro b v hb hv
        unfold y0l
        rw [if_neg hs1, if_neg hs2, if_pos rfl]
        simp only [hr, hb, hv]
        rfl
      rcases hf with rfl | rfl | rfl | rfl | rfl | rfl | rfl | rfl | rfl
      · unfold y0l
        rw [if_neg hl1, if_pos rfl, if_pos ⟨rfl, rfl⟩]
        exact hr
      all_goals exact stk _ _ rfl rfl
    · exact yBX m (i + 1) n (by omega) (by omega) f hf
theorem y4i (n : Nat) : ∀ f ∈ y1V n, y0l (n : Int) f = 0 := by
  intro f hf
  unfold y1V at hf
  rcases List.mem_cons.1 hf with rfl | hf
  · unfold y0l; rw [if_pos rfl, if_pos ⟨rfl, rfl, rfl⟩]
  · exact yBX n 0 n (by omega) (by omega) f hf
theorem yCz (c : Cha) (hc : Valid c) (l : List Inp) (hl : l.length ≤ 1000) (hv : ∀ x ∈ l, 0 ≤ x.2.1 ∧ x.2.1 ≤ 15) (g : Goa) (hg : y3z c l.length g = 0) (hg1 : g.1.length ≤ 1000) (hg2 : g.2.1.length ≤ 1000) (xs : List Fai) (n : Int) : ∀ (fs : List Fai) (i : Int) (out : List Fai), (∀ f ∈ fs, y0l n f = 0) → out.length + fs.length ≤ 1000000 →
    yI (fun i__ e__ s__ => y8d l c g xs i__ e__ s__) (fun s__ => yDj l c g xs s__) i fs out = some ((wk c l g fs out).1, (wk c l g fs out).2, ())
  | [], i, out, _, _ => rfl
  | f :: r, i, out, hf, hs => by
    have hmem : memMax = 68719476736 := rfl
    simp only [List.length_cons] at hs
    have hb : y8d l c g xs i f out = some (if (srv c l g f).2 = 0 then .inr (if (srv c l g f).1 = true then out else out ++ [f]) else .inl ([], (srv c l g f).2, ())) := by
      unfold y8d
      rw [show ((f.1, f.2.1, f.2.2.1, f.2.2.2.1, ()) : Fai) = f from rfl, y8t c hc l hl hv g hg hg1 hg2 f n (hf f (by simp)), Option.bind_some]
      by_cases hz : (srv c l g f).2 = 0
      · rw [if_pos hz, bifF (show ((srv c l g f).2 != 0) = false by simpa using hz)]
        cases (srv c l g f).1 with
        | true => rfl
        | false => simp only [Bool.not_false, cond_true]; rw [bifT (y6 (show out.length + 1 ≤ memMax by omega))]; rfl
      · rw [if_neg hz, bifT (show ((srv c l g f).2 != 0) = true by simpa using hz)]
    rw [yZ]
    simp only [hb, Option.bind_some]
    unfold wk
    by_cases hz : (srv c l g f).2 = 0
    · rw [if_pos hz, if_pos hz]
      exact yCz c hc l hl hv g hg hg1 hg2 xs n r (i + 1) _ (fun f hf' => hf f (by simp [hf'])) (by split; (omega); (simp; omega))
    · rw [if_neg hz, if_neg hz]
def E1 (c : Cha) (l : List Inp) (f : Fai) : Int := yE (yu c) (yE (yX l) (y0l l.length f))
def E2 (c : Cha) (l : List Inp) (g : Goa) (f : Fai) : Int := yE (yu c) (yE (yX l) (yE (y3z c l.length g) (y0l l.length f)))
def E3 (c : Cha) (l : List Inp) (g : Goa) : Int := yE (yu c) (yE (yX l) (y3z c l.length g))
section
variable (c : Cha) (hc : Sh c) (l : List Inp) (hl : l.length ≤ 100) (hw : ∀ x ∈ l, x.1.length < lenMax) (g : Goa) (hg1 : g.1.length ≤ 17) (hg2 : g.2.1.length ≤ 17) (f : Fai)
include hc hl hw
theorem yJq : yEh c l f = some (if E1 c l f = 0 then ((y5t c l f).1, (y5t c l f).2, ()) else ([], E1 c l f, ())) := by
  unfold yEh yKf E1
  rw [gck c hc, Option.bind_some, y2F l (by omega) hw, Option.bind_some, yDe l.length f ⟨by omega, by omega⟩, Option.bind_some, yx _ (by simp [lenMax]), Option.bind_some]
  simp only [yR, yb, yQ]
  by_cases h : yE (yu c) (yE (yX l) (y0l l.length f)) = 0
  · obtain ⟨h1, h2⟩ := y8.1 h
    obtain ⟨h2, h3⟩ := y8.1 h2
    rw [if_pos h, bifF (show (yE (yu c) (yE (yX l) (y0l l.length f)) != 0) = false by simpa using h), yBF c (y1u c h1) l (by omega) (y0g h2) f l.length h3, Option.bind_some]
  · rw [if_neg h, bifT (show (yE (yu c) (yE (yX l) (y0l l.length f)) != 0) = true by simpa using h)]
include hg1 hg2
theorem yF1 : yEw c l g f = some (if E2 c l g f = 0 then ((srv c l g f).1, (srv c l g f).2, ()) else (false, E2 c l g f, ())) := by
  unfold yEw yJU E2
  rw [gck c hc, Option.bind_some]
  by_cases h0 : yu c = 0
  · rw [h0, bifF (show (((0 : Int), ()).1 != 0) = false from rfl), y2F l (by omega) hw, Option.bind_some, yDL c l.length g (by omega) (by omega), Option.bind_some, yDe l.length f ⟨by omega, by omega⟩, Option.bind_some, yx _ (by simp [lenMax]), Option.bind_some, y1l]
    simp only [yR, yb, yQ]
    by_cases h : yE (yX l) (yE (y3z c l.length g) (y0l l.length f)) = 0
    · obtain ⟨h2, h3⟩ := y8.1 h
      obtain ⟨h3, h4⟩ := y8.1 h3
      rw [if_pos h, bifF (show (yE (yX l) (yE (y3z c l.length g) (y0l l.length f)) != 0) = false by simpa using h), y8t c (y1u c h0) l (by omega) (y0g h2) g h3 (by omega) (by omega) f l.length h4, Option.bind_some]
    · rw [if_neg h, bifT (show (yE (yX l) (yE (y3z c l.length g) (y0l l.length f)) != 0) = true by simpa using h)]
  · rw [y0S h0, if_neg h0, bifT (show ((yu c, ()).1 != 0) = true by simpa using h0)]
theorem yKb : yAA c l g = some (if E3 c l g = 0 then ((wk c l g (y1V l.length) []).1, (wk c l g (y1V l.length) []).2, ()) else ([], E3 c l g, ())) := by
  have hfl : (y1V l.length).length = 1 + 9 * l.length := by unfold y1V; rw [List.length_cons, y3W]; omega
  unfold yAA E3
  rw [gck c hc, Option.bind_some]
  by_cases h0 : yu c = 0
  · rw [h0, bifF (show (((0 : Int), ()).1 != 0) = false from rfl), y2F l (by omega) hw, Option.bind_some, yDL c l.length g (by omega) (by omega), Option.bind_some, yx _ (by simp [lenMax]), Option.bind_some, y1l]
    simp only [yR, yb, yQ]
    by_cases h : yE (yX l) (y3z c l.length g) = 0
    · obtain ⟨h2, h3⟩ := y8.1 h
      rw [if_pos h, bifF (show (yE (yX l) (y3z c l.length g) != 0) = false by simpa using h), yAg l.length (by omega), Option.bind_some, bifT (y6 (show (y1V l.length).length < lenMax by unfold lenMax; omega))]
      exact yCz c (y1u c h0) l (by omega) (y0g h2) g h3 (by omega) (by omega) (y1V l.length) l.length (y1V l.length) 0 [] (y4i l.length) (by simp; omega)
    · rw [if_neg h, bifT (show (yE (yX l) (y3z c l.length g) != 0) = true by simpa using h)]
  · rw [y0S h0, if_neg h0, bifT (show ((yu c, ()).1 != 0) = true by simpa using h0)]
end
theorem yBm (c : Cha) (l : List Inp) (g : Goa) : zh_M (c, l, g, ()) = some (E3 c l g, ()) := by
  unfold zh_M zh_m E3
  simp only
  rw [yGS, Option.bind_some, yEn, Option.bind_some, yHd _ (by simp [lenMax]), Option.bind_some]
  simp only [yR, yb, yQ]
  by_cases h : yE (yu c) (yX l) = 0
  · obtain ⟨h1, h2⟩ := y8.1 h
    rw [bifF (show (yE (yu c) (yX l) != 0) = false by simpa using h), yJH, Option.bind_some, h1, h2, y1l, y1l]
  · rw [bifT (show (yE (yu c) (yX l) != 0) = true by simpa using h), ← y2k, y0S h]
end Go.Tw
end
