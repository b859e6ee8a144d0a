import Derived.Test.YtohhmdogfjmlcaaGreatPX
import Derived.Test.YtohhmdogfjmlcaaGreatBC
import Derived.Test.YtohhmdogfjmlcaaGreatB13
section
set_option linter.all false
set_option maxRecDepth 100000
namespace Go.Tw
open Go.Vx Go.Vx.B Go.Proofs
theorem y8C : y3x = some (true, ()) := by kernel_rfl
end Go.Tw
end
section
set_option linter.all false
set_option maxRecDepth 100000
namespace Go.Tw
open Go.Vx Go.Vx.B Go.Proofs
theorem yHd (l : List Int) (h : l.length < lenMax) : yIV l = some (y27 l, ()) := by
  unfold yIV yKL
  rw [y4y l h]
  rfl
end Go.Tw
end
section
set_option linter.all false
set_option maxRecDepth 100000
namespace Go.Tw
open Go.Vx Go.Vx.B Go.Proofs
def stuckW : List UInt8 := [115, 116, 117, 99, 107]
def lostW : List UInt8 := [108, 111, 115, 116]
def noneW : List UInt8 := [110, 111, 110, 101]
def tick (i : Int) : List Fai := (lostW, i, 0, 0, ()) :: [(stuckW, i, 0, 0, ()), (stuckW, i, 0, 1, ()), (stuckW, i, 1, 0, ()), (stuckW, i, 1, 1, ()), (stuckW, i, 2, 0, ()), (stuckW, i, 2, 1, ()), (stuckW, i, 3, 0, ()), (stuckW, i, 3, 1, ())]
def y0O : Int → Nat → List Fai
  | _, 0 => []
  | i, m + 1 => tick i ++ y0O (i + 1) m
def y1V (n : Nat) : List Fai := (noneW, 0, 0, 0, ()) :: y0O 0 n
theorem y3W : ∀ (m : Nat) (i : Int), (y0O i m).length = 9 * m
  | 0, i => rfl
  | m + 1, i => by
    unfold y0O
    rw [List.length_append, y3W m (i + 1)]
    show 9 + 9 * m = _
    omega
theorem yF3 (n i : Int) (s : List Fai) (hs : s.length ≤ 1000000) : y8r n i s = some (.inr (s ++ tick i)) := by
  have hmem : memMax = 68719476736 := rfl
  unfold y8r
  rw [bifT (y6 (show s.length + 1 ≤ memMax by omega)), bifT (by rfl)]
  show y01 _ _ 8 0 _ = _
  have hb (k : Int) (s : List Fai) (hs : s.length ≤ 1000100) : yAV i n i k s = some (.inr (s ++ [(stuckW, i, IntKind.i64.wrap (k.tdiv 2), k.tmod 2, ())])) := by
    unfold yAV
    rw [bifT (y6 (show s.length + 1 ≤ memMax by omega))]
    rfl
  unfold y01
  rw [hb 0 _ (by simp; omega)]
  simp only [Option.bind_some]
  unfold y01
  rw [hb _ _ (by simp; omega)]
  simp only [Option.bind_some]
  unfold y01
  rw [hb _ _ (by simp; omega)]
  simp only [Option.bind_some]
  unfold y01
  rw [hb _ _ (by simp; omega)]
  simp only [Option.bind_some]
  unfold y01
  rw [hb _ _ (by simp; omega)]
  simp only [Option.bind_some]
  unfold y01
  rw [hb _ _ (by simp; omega)]
  simp only [Option.bind_some]
  unfold y01
  rw [hb _ _ (by simp; omega)]
  simp only [Option.bind_some]
  unfold y01
  rw [hb _ _ (by simp; omega)]
  simp only [Option.bind_some]
  unfold y01 yDJ
  simp only [List.append_assoc, List.singleton_append, List.cons_append, List.nil_append]
  rfl
theorem y8P (n : Int) : ∀ (m : Nat) (i : Int) (s : List Fai), s.length + 9 * m ≤ 1000000 →
    y01 (fun i__ s__ => y8r n i__ s__) (fun s__ => yAj n s__) m i s = some (s ++ y0O i m, ())
  | 0, i, s, _ => by simp [y01, y0O, yAj]
  | m + 1, i, s, hs => by
    unfold y01
    rw [yF3 n i s (by omega)]
    simp only [Option.bind_some]
    rw [y8P n m (i + 1) _ (by rw [List.length_append]; show s.length + 9 + 9 * m ≤ _; omega)]
    simp [y0O]
theorem yAg (n : Nat) (h : n ≤ 1000) : y9G (n : Int) = some (y1V n, ()) := by
  unfold y9G
  rw [bifT (y6 (show (n : Int) ≤ 9223372036854775807 by omega)), show ((n : Int) - 0).toNat = n by omega, y8P n n 0 _ (by simp; omega)]
  rfl
def inE (x : Inp) : Int := yE (nmE x.1) (ckR x.2.1 0 15)
def insE : List Inp → Int
  | [] => 0
  | x :: l => yE (inE x) (insE l)
def yX (l : List Inp) : Int := if 64 < l.length then 5 else insE l
theorem yHJ (x : Inp) : zu_M x = some (inE x, ()) := by
  unfold zu_M zu_m
  rw [y2f]
  simp only [Option.bind_some, y2g]
  rw [y4y _ (by simp [lenMax])]
  simp only [Option.bind_some, yR, yb, yQ]
  rfl
theorem yIY (x : Inp) (h : x.1.length < lenMax) : zp_M x = some (inE x, ()) := by
  unfold zp_M zp_m
  rw [y2S _ h]
  simp only [Option.bind_some, zR, y4p]
  rw [yx _ (by simp [lenMax])]
  simp only [Option.bind_some, yR, yb, yQ]
  rfl
theorem y5V (xs : List Inp) : ∀ (l : List Inp) (i : Int), yI (fun i__ e__ s__ => yEc xs i__ e__) (fun s__ => yK4 xs) i l () = some (insE l, ())
  | [], i => rfl
  | x :: l, i => by
    have hb : yEc xs i x = some (bif inE x != 0 then .inl (inE x, ()) else .inr ()) := by
      unfold yEc
      rw [yHJ]
      simp only [Option.bind_some]
      cases (inE x != 0) <;> rfl
    rw [y4m hb, y5V xs l (i + 1), y35]
    rfl
theorem yEn (l : List Inp) : zj_M l = some (yX l, ()) := by
  unfold zj_M yX
  by_cases h : 64 < l.length
  · rw [bifT (y6 (show (l.length : Int) > 64 by omega)), if_pos h]
  · rw [bifF (yH (show ¬ (l.length : Int) > 64 by omega)), if_neg h, bifT (y6 (show l.length < lenMax by unfold lenMax; omega))]
    exact y5V l l 0
theorem y8Z : ∀ l : List Inp, y27 (l.map inE) = insE l
  | [] => rfl
  | x :: l => by rw [List.map_cons, yR, y8Z l]; rfl
theorem y2F (l : List Inp) (h : l.length ≤ 1000) (hw : ∀ x ∈ l, x.1.length < lenMax) : zq_M l = some (yX l, ()) := by
  have hmem : memMax = 68719476736 := rfl
  have hlm : l.length < lenMax := by unfold lenMax; omega
  unfold zq_M zq_m
  have hmap : (z8_M l fun (x : Inp × Unit) => zp_M x.fst) = some (l.map inE, ()) := by
    unfold z8_M
    rw [bifT (y6 hlm)]
    refine (y2B inE l 0 [] (by simp; omega) fun i e s he hs => ?_).trans ?_
    · unfold yKq
      simp only
      rw [show ((e.1, e.2.1, ()) : Inp) = e from rfl, yIY e (hw e he)]
      simp only [Option.bind_some]
      rw [bifT (y6 hs)]
    · rw [List.nil_append]; rfl
  rw [hmap]
  simp only [Option.bind_some]
  rw [yx _ (by rw [List.length_map]; exact hlm), y8Z]
  simp only [Option.bind_some, y3Q]
  rw [yx _ (by simp [lenMax])]
  simp only [Option.bind_some, yR, yb, yQ]
  unfold yX
  by_cases h9 : 64 < l.length
  · rw [y6 (show (l.length : Int) > 64 by omega), if_pos h9]; rfl
  · rw [yH (show ¬ (l.length : Int) > 64 by omega), if_neg h9]; rfl
theorem y56 (l : List Inp) (h : l.length ≤ memMax) : y2O l = some (l, ()) := by
  have hmem : memMax = 68719476736 := rfl
  unfold y2O
  rw [bifT (y6 (show l.length < lenMax by unfold lenMax; omega))]
  refine (y2B (fun x : Inp => x) l 0 [] (by simpa using h) fun i e s he hs => ?_).trans ?_
  · unfold yDt
    rw [bifT (y6 hs)]
  · rw [List.map_id', List.nil_append]; rfl
theorem y9l (l : List Int) (h : l.length ≤ memMax) : yEk l = some (l, ()) := by
  unfold yEk yKN
  rw [bifT (y6 (by omega))]
theorem yCp (x : Fai) : eqV (.pair .str (.pair (.int .i64) (.pair (.int .i64) (.pair (.int .i64) .unit)))) x x = true := by
  show ((x.1 : List UInt8) == x.1 && ((x.2.1 : Int) == x.2.1 && ((x.2.2.1 : Int) == x.2.2.1 && ((x.2.2.2.1 : Int) == x.2.2.2.1 && true)))) = true
  simp
theorem y7s (l : List Inp) (h : l.length < lenMax) : ∃ s, zl_M l = some (s, ()) ∧ (s = true → l.length ≤ 65 ∧ ∀ c ∈ l, c.1.length ≤ 40) := by
  unfold zl_M
  rw [bifT (y6 h), y3i (fun c : Inp => if (decide ((c.1.length : Int) > 40)) = true then some (false, ()) else none) l 0 (fun i e _ => by
    unfold yKo
    cases decide ((e.1.length : Int) > 40) <;> rfl)]
  cases hf : l.findSome? (fun c : Inp => if (decide ((c.1.length : Int) > 40)) = true then some (false, ()) else none) with
  | some y =>
    refine ⟨y.1, rfl, fun hy => ?_⟩
    obtain ⟨c, _, hc⟩ := List.exists_of_findSome?_eq_some hf
    split at hc
    · cases hc; cases hy
    · cases hc
  | none =>
    have hall : ∀ c ∈ l, c.1.length ≤ 40 := by
      intro c hc
      have := List.findSome?_eq_none_iff.1 hf c hc
      by_cases hd : ((c.1.length : Int) > 40)
      · rw [if_pos (y6 hd)] at this; cases this
      · omega
    unfold yKZ
    by_cases h24 : (l.length : Int) ≤ 12
    · exact ⟨true, by rw [bifT (y6 h24)], fun _ => ⟨by omega, hall⟩⟩
    · exact ⟨(l.length : Int) == 65, by rw [bifF (yH h24)], fun hs => ⟨by have := of_decide_eq_true hs; omega, hall⟩⟩
end Go.Tw
end
section
set_option linter.all false
set_option maxRecDepth 100000
namespace Go.Tw
open Go.Vx Go.Vx.B Go.Proofs
theorem y7O (c : Cha) : ∀ (l : List Tra) (i : Int), ∃ s, yI (fun i__ e__ s__ => y7C c i__ e__) (fun s__ => yA7 c) i l () = some (s, ()) ∧ (s = true → ∀ t ∈ l, t.2.1.length ≤ 40)
  | [], i => ⟨true, rfl, fun _ t ht => by cases ht⟩
  | x :: l, i => by
    rw [yZ]
    unfold y7C
    by_cases h : (x.2.1.length : Int) > 40
    · exact ⟨false, by rw [bifT (y6 h)]; rfl, fun h => by cases h⟩
    · obtain ⟨s, h1, h2⟩ := y7O c l (i + 1)
      refine ⟨s, by rw [bifF (yH h)]; exact h1, fun hs t ht => ?_⟩
      rcases List.mem_cons.1 ht with rfl | ht
      · omega
      · exact h2 hs t ht
theorem y7I (c : Cha) (hl : c.2.1.length < lenMax) : ∀ (l : List Sta) (i : Int), ∃ s, yI (fun i__ e__ s__ => yAh c i__ e__) (fun s__ => yAl c) i l () = some (s, ()) ∧ (s = true → (∀ t ∈ l, t.1.length ≤ 40) ∧ ∀ t ∈ c.2.1, t.2.1.length ≤ 40)
  | [], i => by
    obtain ⟨s, h1, h2⟩ := y7O c c.2.1 0
    refine ⟨s, ?_, fun hs => ⟨fun t ht => (by cases ht), h2 hs⟩⟩
    rw [y4r]
    unfold yAl
    rw [bifT (y6 hl)]
    exact h1
  | x :: l, i => by
    rw [yZ]
    unfold yAh
    by_cases h : (x.1.length : Int) > 40
    · exact ⟨false, by rw [bifT (y6 h)]; rfl, fun h => by cases h⟩
    · obtain ⟨s, h1, h2⟩ := y7I c hl l (i + 1)
      refine ⟨s, by rw [bifF (yH h)]; exact h1, fun hs => ⟨fun t ht => ?_, (h2 hs).2⟩⟩
      rcases List.mem_cons.1 ht with rfl | ht
      · omega
      · exact (h2 hs).1 t ht
structure Sh (c : Cha) : Prop where
  sts : c.1.length ≤ 17
  tras : c.2.1.length ≤ 49
  words : yKr c
theorem yIy (c : Cha) : ∃ s, yC0 c = some (s, ()) ∧ (s = true → Sh c) := by
  have key : c.1.length ≤ 17 → c.2.1.length ≤ 49 → ∃ s, y2a c = some (s, ()) ∧ (s = true → Sh c) := by
    intro h1 h2
    obtain ⟨s, h3, h4⟩ := y7I c (by unfold lenMax; omega) c.1 0
    refine ⟨s, ?_, fun hs => ⟨h1, h2, fun t ht => ?_, fun t ht => ?_⟩⟩
    · unfold y2a
      rw [bifT (y6 (show c.1.length < lenMax by unfold lenMax; omega))]
      exact h3
    · have := (h4 hs).1 t ht; unfold lenMax; omega
    · have := (h4 hs).2 t ht; unfold lenMax; omega
  have key2 : c.1.length ≤ 17 → ∃ s, (bif decide ((c.2.1.length : Int) > 12) then (bif (c.2.1.length : Int) != 49 then (some ((false, ()))) else (y2a c)) else (y2a c)) = some (s, ()) ∧ (s = true → Sh c) := by
    intro h1
    by_cases h2 : (c.2.1.length : Int) > 12
    · rw [bifT (y6 h2)]
      by_cases h3 : (c.2.1.length : Int) = 49
      · rw [bifF (show ((c.2.1.length : Int) != 49) = false by simp [h3])]
        exact key h1 (by omega)
      · exact ⟨false, by rw [bifT (show ((c.2.1.length : Int) != 49) = true by simpa using h3)], fun h => by cases h⟩
    · rw [bifF (yH h2)]
      exact key h1 (by omega)
  unfold yC0
  by_cases h2 : (c.1.length : Int) > 7
  · rw [bifT (y6 h2)]
    by_cases h3 : (c.1.length : Int) = 17
    · rw [bifF (show ((c.1.length : Int) != 17) = false by simp [h3])]
      exact key2 (by omega)
    · exact ⟨false, by rw [bifT (show ((c.1.length : Int) != 17) = true by simpa using h3)], fun h => by cases h⟩
  · rw [bifF (yH h2)]
    exact key2 (by omega)
theorem y62 (c : Cha) (hc : Sh c) : y2t c = some (c, ()) := by
  have hmem : memMax = 68719476736 := rfl
  have h1 := hc.sts
  have h2 := hc.tras
  unfold y2t
  rw [bifT (y6 (show c.1.length < lenMax by unfold lenMax; omega))]
  refine (y2B (fun x : Sta => x) c.1 0 [] (by simp; omega) fun i e s he hs => ?_).trans ?_
  · unfold yD9
    rw [bifT (y6 hs)]
  rw [List.map_id', List.nil_append]
  unfold yDh
  rw [bifT (y6 (show c.2.1.length < lenMax by unfold lenMax; omega))]
  refine (y2B (fun x : Tra => x) c.2.1 0 [] (by simp; omega) fun i e s he hs => ?_).trans ?_
  · unfold yEC
    rw [bifT (y6 hs)]
  rw [List.map_id', List.nil_append]
  rfl
theorem gck (c : Cha) (hc : Sh c) : zy_M c = some (yu c, ()) := yGu c (by have := hc.sts; omega) (by have := hc.tras; omega) hc.words
theorem yKh (c : Cha) (hc : Valid c) (leaf : Int) (e : List UInt8) (v : Int) (h0 : 0 ≤ leaf) (h1 : leaf < c.1.length) (hs : (stp c leaf e v).2 = 0) : 0 ≤ (stp c leaf e v).1 ∧ (stp c leaf e v).1 < c.1.length := by
  have hm := y6v c e v 17 leaf
  unfold stp at hs ⊢
  change ∀ t, t ∈ y3y c leaf e v → _ at hm
  generalize y3y c leaf e v = fs at hm hs
  match fs with
  | [] => exact ⟨h0, h1⟩
  | [t] =>
    have ht := hc.tra t (hm t (by simp))
    have := y3G c hc t.2.2.1 ht.2.2.1 ht.2.2.2.1
    exact ⟨this.1, this.2.1⟩
  | t :: u :: l => cases hs
def y3w (c : Cha) (d : Int → Inp → Inp × Bool) : List Inp → Int → Int → List Int → List Int × Int
  | [], _, _, out => (out, 0)
  | x :: l, i, leaf, out => if (d i x).2 = true then
      (if (stp c leaf (d i x).1.1 (d i x).1.2.1).2 = 0 then y3w c d l (i + 1) (stp c leaf (d i x).1.1 (d i x).1.2.1).1 (out ++ [(stp c leaf (d i x).1.1 (d i x).1.2.1).1]) else ([], (stp c leaf (d i x).1.1 (d i x).1.2.1).2))
    else y3w c d l (i + 1) leaf (out ++ [leaf])
theorem y3v (c : Cha) (hc : Valid c) (f : Fai) (xs : List Inp) (w : List UInt8) (g1 : Fai × Unit → Option (Fai × Unit)) (g2 : Fai × Int × Inp × Unit → Option (Inp × Bool × Unit)) (d : Int → Inp → Inp × Bool) :
    ∀ (l : List Inp) (i : Int) (leaf : Int) (out : List Int), 0 ≤ i → 0 ≤ leaf → leaf < c.1.length → out.length + l.length ≤ 1000 → (∀ (i : Int) x, 0 ≤ i → x ∈ l → g2 (f, i, x, ()) = some ((d i x).1, (d i x).2, ()) ∧ ((d i x).2 = true → 0 ≤ (d i x).1.2.1 ∧ (d i x).1.2.1 ≤ 15)) →
      yI (fun i__ e__ s__ => yEq c f xs w g1 g2 i__ e__ s__.1 s__.2) (fun s__ => yJw c f xs w g1 g2 s__.1 s__.2) i l (leaf, out) = some ((y3w c d l i leaf out).1, (y3w c d l i leaf out).2, ())
  | [], i, leaf, out, _, _, _, _, _ => rfl
  | x :: l, i, leaf, out, hi, h0, h1, hl, hd => by
    have hmem : memMax = 68719476736 := rfl
    simp only [List.length_cons] at hl
    obtain ⟨hg, hv⟩ := hd i x hi (by simp)
    have hd' : ∀ (i : Int) x, 0 ≤ i → x ∈ l → g2 (f, i, x, ()) = some ((d i x).1, (d i x).2, ()) ∧ ((d i x).2 = true → 0 ≤ (d i x).1.2.1 ∧ (d i x).1.2.1 ≤ 15) := fun i y h hy => hd i y h (by simp [hy])
    have hb : yEq c f xs w g1 g2 i x leaf out = some (if (d i x).2 = true then
        (if (stp c leaf (d i x).1.1 (d i x).1.2.1).2 = 0 then .inr ((stp c leaf (d i x).1.1 (d i x).1.2.1).1, out ++ [(stp c leaf (d i x).1.1 (d i x).1.2.1).1]) else .inl ([], (stp c leaf (d i x).1.1 (d i x).1.2.1).2, ()))
        else .inr (leaf, out ++ [leaf])) := by
      unfold yEq
      rw [show ((x.1, x.2.1, ()) : Inp) = x from rfl, hg]
      simp only [Option.bind_some]
      cases hq : (d i x).2 with
      | false => rw [cond_false, if_neg (by simp), bifT (y6 (show out.length + 1 ≤ memMax by omega))]
      | true =>
        rw [cond_true, if_pos rfl, show (((d i x).1.1, (d i x).1.2.1, ()) : Inp) = (d i x).1 from rfl, yJ9 c hc leaf (d i x).1 h0 h1 (hv hq)]
        simp only [Option.bind_some]
        unfold stp
        generalize y3y c leaf (d i x).1.1 (d i x).1.2.1 = fs
        match fs with
        | [] => rw [bifF (by rfl), bifT (y6 (show out.length + 1 ≤ memMax by omega))]; rfl
        | [t] => rw [bifF (by rfl), bifT (y6 (show out.length + 1 ≤ memMax by omega))]; rfl
        | t :: u :: r => rfl
    rw [yZ, hb]
    simp only [Option.bind_some]
    unfold y3w
    by_cases hq : (d i x).2 = true
    · rw [if_pos hq, if_pos hq]
      by_cases hz : (stp c leaf (d i x).1.1 (d i x).1.2.1).2 = 0
      · rw [if_pos hz, if_pos hz]
        have hl2 := yKh c hc leaf _ _ h0 h1 hz
        exact y3v c hc f xs w g1 g2 d l (i + 1) _ _ (by omega) hl2.1 hl2.2 (by simp; omega) hd'
      · rw [if_neg hz, if_neg hz]
    · rw [if_neg hq, if_neg hq]
      exact y3v c hc f xs w g1 g2 d l (i + 1) leaf _ (by omega) h0 h1 (by simp; omega) hd'
def noF : Fai := (noneW, 0, 0, 0, ())
def y3R : Int → Inp → Inp × Bool := fun _ x => (x, true)
theorem yGJ : ∃ k1 k2, zf_M noF = some ((noneW, k1, k2, ()), true, ()) ∧ ∀ i x, k2 (noF, i, x, ()) = some (x, true, ()) := by
  refine ⟨_, _, rfl, fun i x => rfl⟩
theorem yF4 (c : Cha) (hc : Valid c) (l : List Inp) (hl : l.length ≤ 1000) (hv : ∀ x ∈ l, 0 ≤ x.2.1 ∧ x.2.1 ≤ 15) :
    zw_M c l noF = some ((y3w c y3R l 0 (entr c 0) []).1, (y3w c y3R l 0 (entr c 0) []).2, ()) := by
  have hp := hc.pos
  have hlf := y3G c hc 0 (by omega) (by omega)
  obtain ⟨k1, k2, h1, h2⟩ := yGJ
  unfold zw_M
  rw [h1, Option.bind_some, y4o c hc 0 (by omega) (by omega), Option.bind_some, bifT (y6 (show l.length < lenMax by unfold lenMax; omega))]
  exact y3v c hc noF l noneW k1 k2 y3R l 0 (entr c 0) [] (by omega) hlf.1 hlf.2.1 (by simpa using hl) (fun i x _ hx => ⟨h2 i x, fun _ => hv x hx⟩)
end Go.Tw
end
section
set_option linter.all false
set_option maxRecDepth 100000
namespace Go.Tw
open Go.Vx Go.Vx.B Go.Proofs
theorem yIX {x : Inp} (h : inE x = 0) : 0 ≤ x.2.1 ∧ x.2.1 ≤ 15 := y0L (y8.1 h).2
theorem y9N : ∀ (l : List Inp), insE l = 0 → ∀ x ∈ l, inE x = 0
  | [], _, x, hx => by cases hx
  | y :: l, h, x, hx => by
    obtain ⟨h1, h2⟩ := y8.1 h
    rcases List.mem_cons.1 hx with rfl | hx
    · exact h1
    · exact y9N l h2 x hx
theorem y0g {l : List Inp} (h : yX l = 0) : ∀ x ∈ l, 0 ≤ x.2.1 ∧ x.2.1 ≤ 15 := by
  unfold yX at h
  split at h
  · cases h
  · exact fun x hx => yIX (y9N l h x hx)
def runE (c : Cha) (l : List Inp) : Int := yE (yu c) (yX l)
abbrev run0 (c : Cha) (l : List Inp) : List Int × Int := y3w c y3R l 0 (entr c 0) []
theorem yMh (c : Cha) (hc : Sh c) (l : List Inp) (hl : l.length ≤ 1000) (hw : ∀ x ∈ l, x.1.length < lenMax) :
    y5v c l = some (if runE c l = 0 then ((run0 c l).1, (run0 c l).2, ()) else ([], runE c l, ())) := by
  unfold y5v yKV runE
  rw [gck c hc, Option.bind_some, y2F l hl hw, Option.bind_some, yx _ (by simp [lenMax]), Option.bind_some]
  simp only [yR, yb, yQ]
  by_cases h : yE (yu c) (yX l) = 0
  · obtain ⟨h1, h2⟩ := y8.1 h
    have := yF4 c (y1u c h1) l hl (y0g h2)
    unfold noF noneW at this
    rw [if_pos h, bifF (show (yE (yu c) (yX l) != 0) = false by simpa using h), this, Option.bind_some]
  · rw [if_neg h, bifT (show (yE (yu c) (yX l) != 0) = true by simpa using h)]
end Go.Tw
end
section
set_option linter.all false
set_option maxRecDepth 100000
namespace Go.Tw
open Go.Vx Go.Vx.B Go.Proofs
theorem yDP : ∀ (n : Nat) (l : List Int), l.Nodup → (∀ x ∈ l, 0 ≤ x ∧ x < n) → l.length ≤ n
  | 0, l, _, h => by
    cases l with
    | nil => exact Nat.le_refl _
    | cons x l => have := h x (by simp); omega
  | n + 1, l, hn, h => by
    have ih := yDP n (l.erase (n : Int)) (hn.erase _) (fun x hx => by
      have h1 := (List.Nodup.mem_erase_iff hn).1 hx
      have := h x h1.2
      have h2 := h1.1
      omega)
    have : l.length ≤ (l.erase (n : Int)).length + 1 := by
      by_cases hm : (n : Int) ∈ l
      · rw [List.length_erase_of_mem hm]; omega
      · rw [List.erase_of_not_mem hm]; omega
    omega
abbrev lvs (ps : List Pth) : List Int := ps.map fun p => p.1
structure WI (c : Cha) (ps : List Pth) : Prop where
  nd : (lvs ps).Nodup
  rg : ∀ p ∈ ps, 0 ≤ p.1 ∧ p.1 < c.1.length
  ln : ∀ (j : Nat) (p : Pth), ps[j]? = some p → p.2.1.length ≤ j
theorem WI.few {c : Cha} (hc : Valid c) {ps : List Pth} (h : WI c ps) : ps.length ≤ 16 := by
  have := yDP c.1.length (lvs ps) h.nd (fun x hx => by
    obtain ⟨p, hp, rfl⟩ := List.mem_map.1 hx
    exact h.rg p hp)
  have h16 := hc.few
  simp only [List.length_map] at this
  omega
end Go.Tw
end
