import Derived.Test.YtclcodeedopemaaGreatPY
section
set_option linter.all false
set_option maxRecDepth 100000
namespace Go.Tw
open Go.Vx Go.Vx.B Go.Proofs
def yLA (c : Cha) (s : Int) : Bool := decide (s < 0) || decide ((c.1.length : Int) ≤ s)
def lstE (c : Cha) (l : List Int) : Int := if 16 < l.length then 5 else bif l.any (yLA c) then 10 else 0
end Go.Tw
end
section
set_option linter.all false
set_option maxRecDepth 100000
namespace Go.Tw
open Go.Vx Go.Vx.B Go.Proofs
end Go.Tw
end
section
set_option linter.all false
set_option maxRecDepth 100000
namespace Go.Tw
open Go.Vx Go.Vx.B Go.Proofs
def yPT (c : Cha) (n : Int) (g : Goa) : Int := yC (lstE c g.1) (yC (lstE c g.2.1) (yC (ckR g.2.2.1 0 n) (ckR g.2.2.2.1 0 n)))
section
variable (c : Cha) (hc : Sh c) (l : List Inp) (hl : l.length ≤ 100) (hw : ∀ x ∈ l, x.1.length < lenMax) (g : Goa) (hg1 : g.1.length ≤ 17) (hg2 : g.2.1.length ≤ 17) (f : Fai)
include hc hl hw
include hg1 hg2
end
end Go.Tw
end
section
set_option linter.all false
set_option maxRecDepth 100000
namespace Go.Tw
open Go.Vx Go.Vx.B Go.Proofs
def y79 (p : Int → List UInt8 → Int → Bool) (leaf : Int) (e : List UInt8) : Nat → Int → List Cas
  | 0, _ => []
  | m + 1, v => (bif p leaf e v then [(leaf, e, v, ())] else []) ++ y79 p leaf e m (v + 1)
def y7G (p : Int → List UInt8 → Int → Bool) (leaf : Int) : List (List UInt8) → List Cas
  | [] => []
  | e :: l => y79 p leaf e 16 0 ++ y7G p leaf l
def y8q (p : Int → List UInt8 → Int → Bool) (ev : List (List UInt8)) : List Int → List Cas
  | [] => []
  | i :: l => y7G p i ev ++ y8q p ev l
theorem y2w (p : Int → List UInt8 → Int → Bool) (leaf : Int) (e : List UInt8) : ∀ (m : Nat) (v : Int), (y79 p leaf e m v).length ≤ m
  | 0, v => Nat.le_refl _
  | m + 1, v => by
    have := y2w p leaf e m (v + 1)
    unfold y79
    rw [List.length_append]
    cases p leaf e v <;> simp <;> omega
theorem y54 (p : Int → List UInt8 → Int → Bool) (leaf : Int) : ∀ ev : List (List UInt8), (y7G p leaf ev).length ≤ 16 * ev.length
  | [] => Nat.le_refl _
  | e :: l => by
    have := y54 p leaf l
    have := y2w p leaf e 16 0
    unfold y7G
    rw [List.length_append, List.length_cons]
    omega
def outc (c : Cha) (leaf : Int) (e : List UInt8) (v : Int) : Int × Bool × Bool × Unit := match y3f c leaf e v with
  | [] => (leaf, true, false, ())
  | [t] => (entr c t.2.2.1, false, false, ())
  | _ => (leaf, false, true, ())
section
variable (c : Cha) (hc : Valid c) (H : Cas × (Int × Bool × Bool × Unit) × Unit → Option (Bool × Unit)) (p : Int → List UInt8 → Int → Bool)
  (hH : ∀ (leaf : Int) (e : List UInt8) (v : Int), 0 ≤ leaf → leaf < c.1.length → 0 ≤ v → v ≤ 15 → H ((leaf, e, v, ()), outc c leaf e v, ()) = some (p leaf e v, ()))
include hc hH
end
def y31 (c : Cha) (many : Bool) (leaf : Int) (e : List UInt8) (v : Int) : Bool := match y3f c leaf e v with
  | [] => !many
  | [_] => false
  | _ => many
theorem yKZ (c : Cha) (hc : Valid c) (many : Bool) (ev : List (List UInt8)) (k : Nat) (e : List UInt8) (hk : ev[k]? = some e) (leaf : Int) (h0 : 0 ≤ leaf) (h1 : leaf < c.1.length) (v : Int) (s : List Cas) (hs : s.length ≤ 1000000) :
    y7m many c ev leaf (k : Int) v s = some (.inr (s ++ (bif y31 c many leaf e v then [(leaf, e, v, ())] else []))) := by
  have hmem : memMax = 68719476736 := rfl
  have hA : ∀ b, y3A many c ev leaf (k : Int) v s b = some (.inr (s ++ (bif b then [(leaf, e, v, ())] else []))) := by
    intro b
    unfold y3A
    cases b with
    | true => rw [cond_true, cond_true, y1l, hk, Option.bind_some, bifT (y6 (show s.length + 1 ≤ memMax by omega))]
    | false => simp
  unfold y7m y31
  rw [y1l, hk, Option.bind_some, yH6 c hc leaf (e, v, ()) (by omega) h1, Option.bind_some]
  simp only [hA]
  generalize y3f c leaf e v = fs
  match fs with
  | [] => cases many <;> rfl
  | [t] => cases many <;> rfl
  | t :: u :: l =>
    simp only [List.length_cons]
    rw [bifT (y6 (by omega))]
    cases many with
    | true => rfl
    | false => rw [cond_false, bifF (beq_eq_false_iff_ne.2 (by omega))]
theorem yF9 (c : Cha) (hc : Valid c) (many : Bool) (ev : List (List UInt8)) (k : Nat) (e : List UInt8) (hk : ev[k]? = some e) (hkl : k ≤ 100) (leaf : Int) (h0 : 0 ≤ leaf) (h1 : leaf < c.1.length) : ∀ (m : Nat) (v : Int) (s : List Cas), s.length + m ≤ 1000000 →
    y0D (fun i__ s__ => y7m many c ev leaf (k : Int) i__ s__) (fun s__ => yCc many c ev leaf (k : Int) s__) m v s = some (.inr ((k : Int) + 1, s ++ y79 (y31 c many) leaf e m v))
  | 0, v, s, _ => by
    show some (Sum.inr (IntKind.i64.wrap ((k : Int) + 1), s)) = _
    rw [y2e (by omega) (by omega)]
    simp [y79]
  | m + 1, v, s, hs => by
    unfold y0D
    simp only [yKZ c hc many ev k e hk leaf h0 h1 v s (by omega), Option.bind_some]
    refine (yF9 c hc many ev k e hk hkl leaf h0 h1 m (v + 1) _ (by rw [List.length_append]; cases y31 c many leaf e v <;> simp <;> omega)).trans ?_
    rw [List.append_assoc]
    rfl
theorem yCZ (c : Cha) (hc : Valid c) (many : Bool) (ev : List (List UInt8)) (hev : ev.length ≤ 48) (i : Nat) (st : Sta) (hi : c.1[i]? = some st) (hlf : (st.2.2.1 == -1) = true) : ∀ (l done : List (List UInt8)) (r : Nat) (s : List Cas), ev = done ++ l → l.length < r → s.length + 16 * l.length ≤ 1000000 →
    y0k (fun s__ => y3i many c ev (i : Int) s__.1 s__.2) r ((done.length : Int), s) = some (.inr (s ++ y7G (y31 c many) (i : Int) l))
  | l, done, 0, s, _, hr, _ => by omega
  | [], done, r + 1, s, hx, hr, hs => by
    rw [List.append_nil] at hx
    have hb : y3i many c ev (i : Int) (done.length : Int) s = some (.inl (.inr s)) := by
      unfold y3i
      rw [y75 c i st hi, Option.bind_some, hlf, cond_true, bifF (yF (by rw [hx]; omega))]
    unfold y0k
    simp only [hb, Option.bind_some]
    simp [y7G]
  | e :: l, done, r + 1, s, hx, hr, hs => by
    have hi2 := (List.getElem?_eq_some_iff.1 hi).1
    have hk : ev[done.length]? = some e := by rw [hx]; simp
    have hkl := (List.getElem?_eq_some_iff.1 hk).1
    simp only [List.length_cons] at hr hs
    have hb : y3i many c ev (i : Int) (done.length : Int) s = some (.inr ((done.length : Int) + 1, s ++ y79 (y31 c many) (i : Int) e 16 0)) := by
      unfold y3i
      rw [y75 c i st hi, Option.bind_some, hlf, cond_true, bifT (y6 (by omega)), bifT (by rfl)]
      exact yF9 c hc many ev done.length e hk (by omega) (i : Int) (by omega) (by omega) 16 0 s (by omega)
    have hl := y2w (y31 c many) (i : Int) e 16 0
    unfold y0k
    simp only [hb, Option.bind_some]
    have ih := yCZ c hc many ev hev i st hi hlf l (done ++ [e]) r (s ++ y79 (y31 c many) (i : Int) e 16 0) (by rw [hx]; simp) (by omega) (by rw [List.length_append]; omega)
    simp only [List.length_append, List.length_cons, List.length_nil] at ih
    refine Eq.trans ih ?_
    rw [List.append_assoc]
    rfl
theorem y9S (c : Cha) (hc : Valid c) (many : Bool) (ev : List (List UInt8)) (hev : ev.length ≤ 48) : ∀ (l done : List Sta) (s : List Cas), c.1 = done ++ l → s.length + 768 * l.length ≤ 1000000 →
    y0D (fun i__ s__ => y5E many c ev i__ s__) (fun s__ => yBA many c ev s__) l.length (done.length : Int) s = some (s ++ y8q (y31 c many) ev (y0V done.length l), ())
  | [], done, s, _, _ => by simp [y0D, y0V, y8q, yBA]
  | st :: l, done, s, hx, hs => by
    have hi : c.1[done.length]? = some st := by rw [hx]; simp
    simp only [List.length_cons] at hs
    rw [List.length_cons]
    have hW : ev.length < wMax := by unfold wMax; omega
    cases hlf : (st.2.2.1 == -1) with
    | true =>
      have hb : y5E many c ev (done.length : Int) s = some (.inr (s ++ y7G (y31 c many) (done.length : Int) ev)) := by
        unfold y5E
        exact yCZ c hc many ev hev done.length st hi hlf ev [] wMax s rfl hW (by omega)
      have hl := y54 (y31 c many) (done.length : Int) ev
      unfold y0D
      simp only [hb, Option.bind_some]
      have ih := y9S c hc many ev hev l (done ++ [st]) (s ++ y7G (y31 c many) (done.length : Int) ev) (by rw [hx]; simp) (by rw [List.length_append]; omega)
      simp only [List.length_append, List.length_cons, List.length_nil] at ih
      refine Eq.trans ih ?_
      have hF : y0V (done.length : Int) (st :: l) = (done.length : Int) :: y0V ((done.length : Int) + 1) l := by
        show (if (st.2.2.1 == -1) = true then [(done.length : Int)] else []) ++ y0V ((done.length : Int) + 1) l = _
        rw [if_pos hlf]
        rfl
      rw [hF, List.append_assoc]
      rfl
    | false =>
      have hb2 : y3i many c ev (done.length : Int) 0 s = some (.inl (.inr s)) := by
        unfold y3i
        rw [y75 c done.length st hi, Option.bind_some, hlf, cond_false]
      have hb : y5E many c ev (done.length : Int) s = some (.inr s) := by
        unfold y5E
        generalize hWW : wMax = W at hW
        cases W with
        | zero => omega
        | succ W =>
          unfold y0k
          simp only [hb2, Option.bind_some]
      unfold y0D
      simp only [hb, Option.bind_some]
      have ih := y9S c hc many ev hev l (done ++ [st]) s (by rw [hx]; simp) (by omega)
      simp only [List.length_append, List.length_cons, List.length_nil] at ih
      refine Eq.trans ih ?_
      have hF : y0V (done.length : Int) (st :: l) = y0V ((done.length : Int) + 1) l := by
        show (if (st.2.2.1 == -1) = true then [(done.length : Int)] else []) ++ y0V ((done.length : Int) + 1) l = _
        rw [if_neg (by rw [hlf]; simp)]
        rfl
      rw [hF]
      rfl
theorem yFc (c : Cha) (hc : Valid c) (many : Bool) : yBh c many = some (y8q (y31 c many) (evts c.2.1) (y0V 0 c.1), ()) := by
  have h48 := hc.moves
  have h16 := hc.few
  have hev := yBn c.2.1
  unfold yBh
  rw [y7Y c (by omega), Option.bind_some, bifT (y6 (show (c.1.length : Int) ≤ 9223372036854775807 by omega)), show ((c.1.length : Int) - 0).toNat = c.1.length by omega]
  have := y9S c hc many (evts c.2.1) (by omega) c.1 [] [] rfl (by simp; omega)
  rw [List.nil_append] at this
  exact this
end Go.Tw
end
section
set_option linter.all false
set_option maxRecDepth 100000
namespace Go.Tw
open Go.Vx Go.Vx.B Go.Proofs
end Go.Tw
end
