import Derived.Test.YtclcodeedopemaaGreatPX
import Derived.Test.YtclcodeedopemaaGreatB13
section
set_option linter.all false
set_option maxRecDepth 100000
namespace Go.Tw
open Go.Vx Go.Vx.B Go.Proofs
end Go.Tw
end
section
set_option linter.all false
set_option maxRecDepth 100000
namespace Go.Tw
open Go.Vx Go.Vx.B Go.Proofs
def stuckW : List UInt8 := [115, 116, 117, 99, 107]
def lostW : List UInt8 := [108, 111, 115, 116]
def noneW : List UInt8 := [110, 111, 110, 101]
def tick (i : Int) : List Fai := (lostW, i, 0, 0, ()) :: [(stuckW, i, 0, 0, ()), (stuckW, i, 0, 1, ()), (stuckW, i, 1, 0, ()), (stuckW, i, 1, 1, ()), (stuckW, i, 2, 0, ()), (stuckW, i, 2, 1, ()), (stuckW, i, 3, 0, ()), (stuckW, i, 3, 1, ())]
def y0y : Int → Nat → List Fai
  | _, 0 => []
  | i, m + 1 => tick i ++ y0y (i + 1) m
def yAX (n : Nat) : List Fai := (noneW, 0, 0, 0, ()) :: y0y 0 n
theorem y5d : ∀ (m : Nat) (i : Int), (y0y i m).length = 9 * m
  | 0, i => rfl
  | m + 1, i => by
    unfold y0y
    rw [List.length_append, y5d m (i + 1)]
    show 9 + 9 * m = _
    omega
theorem yEO (n i : Int) (s : List Fai) (hs : s.length ≤ 1000000) : yFD n i s = some (.inr (s ++ tick i)) := by
  have hmem : memMax = 68719476736 := rfl
  unfold yFD
  rw [bifT (y6 (show s.length + 1 ≤ memMax by omega)), bifT (by rfl)]
  show yy _ _ 8 0 _ = _
  have hb (k : Int) (s : List Fai) (hs : s.length ≤ 1000100) : yGO i n i k s = some (.inr (s ++ [(stuckW, i, IntKind.i64.wrap (k.tdiv 2), k.tmod 2, ())])) := by
    unfold yGO
    rw [bifT (y6 (show s.length + 1 ≤ memMax by omega))]
    rfl
  unfold yy
  rw [hb 0 _ (by simp; omega)]
  simp only [Option.bind_some]
  unfold yy
  rw [hb _ _ (by simp; omega)]
  simp only [Option.bind_some]
  unfold yy
  rw [hb _ _ (by simp; omega)]
  simp only [Option.bind_some]
  unfold yy
  rw [hb _ _ (by simp; omega)]
  simp only [Option.bind_some]
  unfold yy
  rw [hb _ _ (by simp; omega)]
  simp only [Option.bind_some]
  unfold yy
  rw [hb _ _ (by simp; omega)]
  simp only [Option.bind_some]
  unfold yy
  rw [hb _ _ (by simp; omega)]
  simp only [Option.bind_some]
  unfold yy
  rw [hb _ _ (by simp; omega)]
  simp only [Option.bind_some]
  unfold yy yK3
  simp only [List.append_assoc, List.singleton_append, List.cons_append, List.nil_append]
  rfl
theorem y7o (n : Int) : ∀ (m : Nat) (i : Int) (s : List Fai), s.length + 9 * m ≤ 1000000 →
    yy (fun i__ s__ => yFD n i__ s__) (fun s__ => yGt n s__) m i s = some (s ++ y0y i m, ())
  | 0, i, s, _ => by simp [yy, y0y, yGt]
  | m + 1, i, s, hs => by
    unfold yy
    rw [yEO n i s (by omega)]
    simp only [Option.bind_some]
    rw [y7o n m (i + 1) _ (by rw [List.length_append]; show s.length + 9 + 9 * m ≤ _; omega)]
    simp [y0y]
theorem yHr (n : Nat) (h : n ≤ 1000) : zy_M (n : Int) = some (yAX n, ()) := by
  unfold zy_M
  rw [bifT (y6 (show (n : Int) ≤ 9223372036854775807 by omega)), show ((n : Int) - 0).toNat = n by omega, y7o n n 0 _ (by simp; omega)]
  rfl
def inE (x : Inp) : Int := yF (nmE x.1) (ckR x.2.1 0 15)
def insE : List Inp → Int
  | [] => 0
  | x :: l => yF (inE x) (insE l)
def ym (l : List Inp) : Int := if 64 < l.length then 5 else insE l
theorem yIG (x : Inp) : zh_M x = some (inE x, ()) := by
  unfold zh_M zh_m
  rw [y2i]
  simp only [Option.bind_some, y4S]
  rw [yAR _ (by simp [lenMax])]
  simp only [Option.bind_some, yc, yw, yZ]
  rfl
theorem yIE (x : Inp) (h : x.1.length < lenMax) : zd_M x = some (inE x, ()) := by
  unfold zd_M zd_m
  rw [y2j _ h]
  simp only [Option.bind_some, zN, y73]
  rw [y0C _ (by simp [lenMax])]
  simp only [Option.bind_some, yc, yw, yZ]
  rfl
theorem y5Y (xs : List Inp) : ∀ (l : List Inp) (i : Int), yH (fun i__ e__ s__ => yF8 xs i__ e__) (fun s__ => yJA xs) i l () = some (insE l, ())
  | [], i => rfl
  | x :: l, i => by
    have hb : yF8 xs i x = some (bif inE x != 0 then .inl (inE x, ()) else .inr ()) := by
      unfold yF8
      rw [yIG]
      simp only [Option.bind_some]
      cases (inE x != 0) <;> rfl
    rw [y4t hb, y5Y xs l (i + 1), y3T]
    rfl
theorem yG3 (l : List Inp) : zY_M l = some (ym l, ()) := by
  unfold zY_M ym
  by_cases h : 64 < l.length
  · rw [bifT (y6 (show (l.length : Int) > 64 by omega)), if_pos h]
  · rw [bifF (yG (show ¬ (l.length : Int) > 64 by omega)), if_neg h, bifT (y6 (show l.length < lenMax by unfold lenMax; omega))]
    exact y5Y l l 0
theorem y7y : ∀ l : List Inp, y2r (l.map inE) = insE l
  | [] => rfl
  | x :: l => by rw [List.map_cons, yc, y7y l]; rfl
theorem y5E (l : List Inp) (h : l.length ≤ 1000) (hw : ∀ x ∈ l, x.1.length < lenMax) : ze_M l = some (ym l, ()) := by
  have hmem : memMax = 68719476736 := rfl
  have hlm : l.length < lenMax := by unfold lenMax; omega
  unfold ze_M ze_m
  have hmap : (z8_M l fun (x : Inp × Unit) => zd_M x.fst) = some (l.map inE, ()) := by
    unfold z8_M
    rw [bifT (y6 hlm)]
    refine (y1b inE l 0 [] (by simp; omega) fun i e s he hs => ?_).trans ?_
    · unfold yKe
      simp only
      rw [show ((e.1, e.2.1, ()) : Inp) = e from rfl, yIE e (hw e he)]
      simp only [Option.bind_some]
      rw [bifT (y6 hs)]
    · rw [List.nil_append]; rfl
  rw [hmap]
  simp only [Option.bind_some]
  rw [y0C _ (by rw [List.length_map]; exact hlm), y7y]
  simp only [Option.bind_some, y2l]
  rw [y0C _ (by simp [lenMax])]
  simp only [Option.bind_some, yc, yw, yZ]
  unfold ym
  by_cases h9 : 64 < l.length
  · rw [y6 (show (l.length : Int) > 64 by omega), if_pos h9]; rfl
  · rw [yG (show ¬ (l.length : Int) > 64 by omega), if_neg h9]; rfl
theorem yAk (l : List Inp) (h : l.length ≤ memMax) : za_M l = some (l, ()) := by
  have hmem : memMax = 68719476736 := rfl
  unfold za_M
  rw [bifT (y6 (show l.length < lenMax by unfold lenMax; omega))]
  refine (y1b (fun x : Inp => x) l 0 [] (by simpa using h) fun i e s he hs => ?_).trans ?_
  · unfold yJ8
    rw [bifT (y6 hs)]
  · rw [List.map_id', List.nil_append]; rfl
theorem y7W (l : List Inp) (h : l.length < lenMax) : ∃ s, zZ_M l = some (s, ()) ∧ (s = true → l.length ≤ 65 ∧ ∀ c ∈ l, c.1.length ≤ 40) := by
  unfold zZ_M
  rw [bifT (y6 h), y1V (fun c : Inp => if (decide ((c.1.length : Int) > 40)) = true then some (false, ()) else none) l 0 (fun i e _ => by
    unfold yKh
    cases decide ((e.1.length : Int) > 40) <;> rfl)]
  cases hf : l.findSome? (fun c : Inp => if (decide ((c.1.length : Int) > 40)) = true then some (false, ()) else none) with
  | some y =>
    refine ⟨y.1, rfl, fun hy => ?_⟩
    obtain ⟨c, _, hc⟩ := List.exists_of_findSome?_eq_some hf
    split at hc
    · cases hc; cases hy
    · cases hc
  | none =>
    have hall : ∀ c ∈ l, c.1.length ≤ 40 := by
      intro c hc
      have := List.findSome?_eq_none_iff.1 hf c hc
      by_cases hd : ((c.1.length : Int) > 40)
      · rw [if_pos (y6 hd)] at this; cases this
      · omega
    unfold yKf
    by_cases h24 : (l.length : Int) ≤ 12
    · exact ⟨true, by rw [bifT (y6 h24)], fun _ => ⟨by omega, hall⟩⟩
    · exact ⟨(l.length : Int) == 65, by rw [bifF (yG h24)], fun hs => ⟨by have := of_decide_eq_true hs; omega, hall⟩⟩
end Go.Tw
end
section
set_option linter.all false
set_option maxRecDepth 100000
namespace Go.Tw
open Go.Vx Go.Vx.B Go.Proofs
theorem y6w (c : Cha) : ∀ (l : List Tra) (i : Int), ∃ s, yH (fun i__ e__ s__ => y6Q c i__ e__) (fun s__ => y9V c) i l () = some (s, ()) ∧ (s = true → ∀ t ∈ l, t.2.1.length ≤ 40)
  | [], i => ⟨true, rfl, fun _ t ht => by cases ht⟩
  | x :: l, i => by
    rw [yf]
    unfold y6Q
    by_cases h : (x.2.1.length : Int) > 40
    · exact ⟨false, by rw [bifT (y6 h)]; rfl, fun h => by cases h⟩
    · obtain ⟨s, h1, h2⟩ := y6w c l (i + 1)
      refine ⟨s, by rw [bifF (yG h)]; exact h1, fun hs t ht => ?_⟩
      rcases List.mem_cons.1 ht with rfl | ht
      · omega
      · exact h2 hs t ht
theorem y6y (c : Cha) (hl : c.2.1.length < lenMax) : ∀ (l : List Sta) (i : Int), ∃ s, yH (fun i__ e__ s__ => yAi c i__ e__) (fun s__ => yBa c) i l () = some (s, ()) ∧ (s = true → (∀ t ∈ l, t.1.length ≤ 40) ∧ ∀ t ∈ c.2.1, t.2.1.length ≤ 40)
  | [], i => by
    obtain ⟨s, h1, h2⟩ := y6w c c.2.1 0
    refine ⟨s, ?_, fun hs => ⟨fun t ht => (by cases ht), h2 hs⟩⟩
    rw [y35]
    unfold yBa
    rw [bifT (y6 hl)]
    exact h1
  | x :: l, i => by
    rw [yf]
    unfold yAi
    by_cases h : (x.1.length : Int) > 40
    · exact ⟨false, by rw [bifT (y6 h)]; rfl, fun h => by cases h⟩
    · obtain ⟨s, h1, h2⟩ := y6y c hl l (i + 1)
      refine ⟨s, by rw [bifF (yG h)]; exact h1, fun hs => ⟨fun t ht => ?_, (h2 hs).2⟩⟩
      rcases List.mem_cons.1 ht with rfl | ht
      · omega
      · exact (h2 hs).1 t ht
structure Sh (c : Cha) : Prop where
  sts : c.1.length ≤ 17
  tras : c.2.1.length ≤ 49
  words : yKE c
theorem yJq (c : Cha) : ∃ s, y7X c = some (s, ()) ∧ (s = true → Sh c) := by
  have key : c.1.length ≤ 17 → c.2.1.length ≤ 49 → ∃ s, y2f c = some (s, ()) ∧ (s = true → Sh c) := by
    intro h1 h2
    obtain ⟨s, h3, h4⟩ := y6y c (by unfold lenMax; omega) c.1 0
    refine ⟨s, ?_, fun hs => ⟨h1, h2, fun t ht => ?_, fun t ht => ?_⟩⟩
    · unfold y2f
      rw [bifT (y6 (show c.1.length < lenMax by unfold lenMax; omega))]
      exact h3
    · have := (h4 hs).1 t ht; unfold lenMax; omega
    · have := (h4 hs).2 t ht; unfold lenMax; omega
  have key2 : c.1.length ≤ 17 → ∃ s, (bif decide ((c.2.1.length : Int) > 12) then (bif (c.2.1.length : Int) != 49 then (some ((false, ()))) else (y2f c)) else (y2f c)) = some (s, ()) ∧ (s = true → Sh c) := by
    intro h1
    by_cases h2 : (c.2.1.length : Int) > 12
    · rw [bifT (y6 h2)]
      by_cases h3 : (c.2.1.length : Int) = 49
      · rw [bifF (show ((c.2.1.length : Int) != 49) = false by simp [h3])]
        exact key h1 (by omega)
      · exact ⟨false, by rw [bifT (show ((c.2.1.length : Int) != 49) = true by simpa using h3)], fun h => by cases h⟩
    · rw [bifF (yG h2)]
      exact key h1 (by omega)
  unfold y7X
  by_cases h2 : (c.1.length : Int) > 7
  · rw [bifT (y6 h2)]
    by_cases h3 : (c.1.length : Int) = 17
    · rw [bifF (show ((c.1.length : Int) != 17) = false by simp [h3])]
      exact key2 (by omega)
    · exact ⟨false, by rw [bifT (show ((c.1.length : Int) != 17) = true by simpa using h3)], fun h => by cases h⟩
  · rw [bifF (yG h2)]
    exact key2 (by omega)
theorem y9N (c : Cha) (hc : Sh c) : zi_M c = some (c, ()) := by
  have hmem : memMax = 68719476736 := rfl
  have h1 := hc.sts
  have h2 := hc.tras
  unfold zi_M
  rw [bifT (y6 (show c.1.length < lenMax by unfold lenMax; omega))]
  refine (y1b (fun x : Sta => x) c.1 0 [] (by simp; omega) fun i e s he hs => ?_).trans ?_
  · unfold yJl
    rw [bifT (y6 hs)]
  rw [List.map_id', List.nil_append]
  unfold yKN
  rw [bifT (y6 (show c.2.1.length < lenMax by unfold lenMax; omega))]
  refine (y1b (fun x : Tra => x) c.2.1 0 [] (by simp; omega) fun i e s he hs => ?_).trans ?_
  · unfold yKK
    rw [bifT (y6 hs)]
  rw [List.map_id', List.nil_append]
  rfl
theorem gck (c : Cha) (hc : Sh c) : zm_M c = some (yQ c, ()) := yHD c (by have := hc.sts; omega) (by have := hc.tras; omega) hc.words
theorem yF5 (c : Cha) (hc : Sh c) : yFU c = some (if yQ c = 0 then (evts c.2.1, 0, ()) else ([], yQ c, ())) := by
  unfold yFU yKU
  rw [gck c hc]
  simp only [Option.bind_some]
  by_cases h : yQ c = 0
  · rw [if_pos h, bifF (show (yQ c != 0) = false by simpa using h), y3c c (by have := hc.tras; omega)]
    rfl
  · rw [if_neg h, bifT (show (yQ c != 0) = true by simpa using h)]
theorem yG8 (c : Cha) (hc : Sh c) : yEz c = some (if yQ c = 0 then (entr c 0, 0, ()) else (0, yQ c, ())) := by
  unfold yEz yJM
  rw [gck c hc]
  by_cases h : yQ c = 0
  · have hv := y0i c h
    have hp := hv.pos
    rw [if_pos h, Option.bind_some, bifF (show ((yQ c, ()).1 != 0) = false by simpa using h), y2I c hv 0 (by omega) (by omega)]
    rfl
  · rw [if_neg h, Option.bind_some, bifT (show ((yQ c, ()).1 != 0) = true by simpa using h)]
theorem y91 (c : Cha) (hc : Valid c) (leaf : Int) (e : List UInt8) (v : Int) (h0 : 0 ≤ leaf) (h1 : leaf < c.1.length) (hs : (stp c leaf e v).2 = 0) : 0 ≤ (stp c leaf e v).1 ∧ (stp c leaf e v).1 < c.1.length := by
  have hm := y6e c e v 17 leaf
  unfold stp at hs ⊢
  change ∀ t, t ∈ y1j c leaf e v → _ at hm
  generalize y1j c leaf e v = fs at hm hs
  match fs with
  | [] => exact ⟨h0, h1⟩
  | [t] =>
    have ht := hc.tra t (hm t (by simp))
    have := y1e c hc t.2.2.1 ht.2.2.1 ht.2.2.2.1
    exact ⟨this.1, this.2.1⟩
  | t :: u :: l => cases hs
def y2u (c : Cha) (d : Int → Inp → Inp × Bool) : List Inp → Int → Int → List Int → List Int × Int
  | [], _, _, out => (out, 0)
  | x :: l, i, leaf, out => if (d i x).2 = true then
      (if (stp c leaf (d i x).1.1 (d i x).1.2.1).2 = 0 then y2u c d l (i + 1) (stp c leaf (d i x).1.1 (d i x).1.2.1).1 (out ++ [(stp c leaf (d i x).1.1 (d i x).1.2.1).1]) else ([], (stp c leaf (d i x).1.1 (d i x).1.2.1).2))
    else y2u c d l (i + 1) leaf (out ++ [leaf])
theorem y3M (c : Cha) (d : Int → Inp → Inp × Bool) : ∀ (l : List Inp) (i leaf : Int) (out : List Int), (y2u c d l i leaf out).1.length ≤ out.length + l.length
  | [], i, leaf, out => Nat.le_refl _
  | x :: l, i, leaf, out => by
    unfold y2u
    split
    · split
      · have := y3M c d l (i + 1) (stp c leaf (d i x).1.1 (d i x).1.2.1).1 (out ++ [(stp c leaf (d i x).1.1 (d i x).1.2.1).1])
        simp only [List.length_append, List.length_cons, List.length_nil] at this ⊢
        omega
      · simp
    · have := y3M c d l (i + 1) leaf (out ++ [leaf])
      simp only [List.length_append, List.length_cons, List.length_nil] at this ⊢
      omega
theorem y3X (c : Cha) (hc : Valid c) (f : Fai) (xs : List Inp) (w : List UInt8) (g1 : Fai × Unit → Option (Fai × Unit)) (g2 : Fai × Int × Inp × Unit → Option (Inp × Bool × Unit)) (d : Int → Inp → Inp × Bool) :
    ∀ (l : List Inp) (i : Int) (leaf : Int) (out : List Int), 0 ≤ i → 0 ≤ leaf → leaf < c.1.length → out.length + l.length ≤ 1000 → (∀ (i : Int) x, 0 ≤ i → x ∈ l → g2 (f, i, x, ()) = some ((d i x).1, (d i x).2, ()) ∧ ((d i x).2 = true → 0 ≤ (d i x).1.2.1 ∧ (d i x).1.2.1 ≤ 15)) →
      yH (fun i__ e__ s__ => yEx c f xs w g1 g2 i__ e__ s__.1 s__.2) (fun s__ => yJ5 c f xs w g1 g2 s__.1 s__.2) i l (leaf, out) = some ((y2u c d l i leaf out).1, (y2u c d l i leaf out).2, ())
  | [], i, leaf, out, _, _, _, _, _ => rfl
  | x :: l, i, leaf, out, hi, h0, h1, hl, hd => by
    have hmem : memMax = 68719476736 := rfl
    simp only [List.length_cons] at hl
    obtain ⟨hg, hv⟩ := hd i x hi (by simp)
    have hd' : ∀ (i : Int) x, 0 ≤ i → x ∈ l → g2 (f, i, x, ()) = some ((d i x).1, (d i x).2, ()) ∧ ((d i x).2 = true → 0 ≤ (d i x).1.2.1 ∧ (d i x).1.2.1 ≤ 15) := fun i y h hy => hd i y h (by simp [hy])
    have hb : yEx c f xs w g1 g2 i x leaf out = some (if (d i x).2 = true then
        (if (stp c leaf (d i x).1.1 (d i x).1.2.1).2 = 0 then .inr ((stp c leaf (d i x).1.1 (d i x).1.2.1).1, out ++ [(stp c leaf (d i x).1.1 (d i x).1.2.1).1]) else .inl ([], (stp c leaf (d i x).1.1 (d i x).1.2.1).2, ()))
        else .inr (leaf, out ++ [leaf])) := by
      unfold yEx
      rw [show ((x.1, x.2.1, ()) : Inp) = x from rfl, hg]
      simp only [Option.bind_some]
      cases hq : (d i x).2 with
      | false => rw [cond_false, if_neg (by simp), bifT (y6 (show out.length + 1 ≤ memMax by omega))]
      | true =>
        rw [cond_true, if_pos rfl, show (((d i x).1.1, (d i x).1.2.1, ()) : Inp) = (d i x).1 from rfl, y9X c hc leaf (d i x).1 h0 h1 (hv hq)]
        simp only [Option.bind_some]
        unfold stp
        generalize y1j c leaf (d i x).1.1 (d i x).1.2.1 = fs
        match fs with
        | [] => rw [bifF (by rfl), bifT (y6 (show out.length + 1 ≤ memMax by omega))]; rfl
        | [t] => rw [bifF (by rfl), bifT (y6 (show out.length + 1 ≤ memMax by omega))]; rfl
        | t :: u :: r => rfl
    rw [yf, hb]
    simp only [Option.bind_some]
    unfold y2u
    by_cases hq : (d i x).2 = true
    · rw [if_pos hq, if_pos hq]
      by_cases hz : (stp c leaf (d i x).1.1 (d i x).1.2.1).2 = 0
      · rw [if_pos hz, if_pos hz]
        have hl2 := y91 c hc leaf _ _ h0 h1 hz
        exact y3X c hc f xs w g1 g2 d l (i + 1) _ _ (by omega) hl2.1 hl2.2 (by simp; omega) hd'
      · rw [if_neg hz, if_neg hz]
    · rw [if_neg hq, if_neg hq]
      exact y3X c hc f xs w g1 g2 d l (i + 1) leaf _ (by omega) h0 h1 (by simp; omega) hd'
def noF : Fai := (noneW, 0, 0, 0, ())
def yBn : Int → Inp → Inp × Bool := fun _ x => (x, true)
theorem yI8 : ∃ k1 k2, zX_M noF = some ((noneW, k1, k2, ()), true, ()) ∧ ∀ i x, k2 (noF, i, x, ()) = some (x, true, ()) := by
  refine ⟨_, _, rfl, fun i x => rfl⟩
theorem yFM (c : Cha) (hc : Valid c) (l : List Inp) (hl : l.length ≤ 1000) (hv : ∀ x ∈ l, 0 ≤ x.2.1 ∧ x.2.1 ≤ 15) :
    zk_M c l noF = some ((y2u c yBn l 0 (entr c 0) []).1, (y2u c yBn l 0 (entr c 0) []).2, ()) := by
  have hp := hc.pos
  have hlf := y1e c hc 0 (by omega) (by omega)
  obtain ⟨k1, k2, h1, h2⟩ := yI8
  unfold zk_M
  rw [h1, Option.bind_some, y2I c hc 0 (by omega) (by omega), Option.bind_some, bifT (y6 (show l.length < lenMax by unfold lenMax; omega))]
  exact y3X c hc noF l noneW k1 k2 yBn l 0 (entr c 0) [] (by omega) hlf.1 hlf.2.1 (by simpa using hl) (fun i x _ hx => ⟨h2 i x, fun _ => hv x hx⟩)
end Go.Tw
end
section
set_option linter.all false
set_option maxRecDepth 100000
namespace Go.Tw
open Go.Vx Go.Vx.B Go.Proofs
theorem yGp {x : Inp} (h : inE x = 0) : 0 ≤ x.2.1 ∧ x.2.1 ≤ 15 := y1C (yD.1 h).2
theorem yDc : ∀ (l : List Inp), insE l = 0 → ∀ x ∈ l, inE x = 0
  | [], _, x, hx => by cases hx
  | y :: l, h, x, hx => by
    obtain ⟨h1, h2⟩ := yD.1 h
    rcases List.mem_cons.1 hx with rfl | hx
    · exact h1
    · exact yDc l h2 x hx
theorem y3V {l : List Inp} (h : ym l = 0) : ∀ x ∈ l, 0 ≤ x.2.1 ∧ x.2.1 ≤ 15 := by
  unfold ym at h
  split at h
  · cases h
  · exact fun x hx => yGp (yDc l h x hx)
abbrev run0 (c : Cha) (l : List Inp) : List Int × Int := y2u c yBn l 0 (entr c 0) []
end Go.Tw
end
section
set_option linter.all false
set_option maxRecDepth 100000
namespace Go.Tw
open Go.Vx Go.Vx.B Go.Proofs
theorem y9Z : ∀ (n : Nat) (l : List Int), l.Nodup → (∀ x ∈ l, 0 ≤ x ∧ x < n) → l.length ≤ n
  | 0, l, _, h => by
    cases l with
    | nil => exact Nat.le_refl _
    | cons x l => have := h x (by simp); omega
  | n + 1, l, hn, h => by
    have ih := y9Z n (l.erase (n : Int)) (hn.erase _) (fun x hx => by
      have h1 := (List.Nodup.mem_erase_iff hn).1 hx
      have := h x h1.2
      have h2 := h1.1
      omega)
    have : l.length ≤ (l.erase (n : Int)).length + 1 := by
      by_cases hm : (n : Int) ∈ l
      · rw [List.length_erase_of_mem hm]; omega
      · rw [List.erase_of_not_mem hm]; omega
    omega
abbrev lvs (ps : List Pth) : List Int := ps.map fun p => p.1
structure WI (c : Cha) (ps : List Pth) : Prop where
  nd : (lvs ps).Nodup
  rg : ∀ p ∈ ps, 0 ≤ p.1 ∧ p.1 < c.1.length
  ln : ∀ (j : Nat) (p : Pth), ps[j]? = some p → p.2.1.length ≤ j
theorem WI.few {c : Cha} (hc : Valid c) {ps : List Pth} (h : WI c ps) : ps.length ≤ 16 := by
  have := y9Z c.1.length (lvs ps) h.nd (fun x hx => by
    obtain ⟨p, hp, rfl⟩ := List.mem_map.1 hx
    exact h.rg p hp)
  have h16 := hc.few
  simp only [List.length_map] at this
  omega
def addW (c : Cha) (here : Pth) (e : List UInt8) (v : Int) (ps : List Pth) : List Pth :=
  if (stp c here.1 e v).2 = 0 ∧ (lvs ps).contains (stp c here.1 e v).1 = false then ps ++ [((stp c here.1 e v).1, here.2.1 ++ [(e, v, ())], ())] else ps
theorem y8n (c : Cha) (here : Pth) (e : List UInt8) (v : Int) (ps : List Pth) (i : Nat) (p : Pth) (h : ps[i]? = some p) : (addW c here e v ps)[i]? = some p := by
  unfold addW
  split
  · rw [List.getElem?_append_left (List.getElem?_eq_some_iff.1 h).1]; exact h
  · exact h
theorem y8f (c : Cha) (hc : Valid c) (here : Pth) (e : List UInt8) (v : Int) (ps : List Pth) (i : Nat) (h : WI c ps) (hi : ps[i]? = some here) : WI c (addW c here e v ps) := by
  have hlt := (List.getElem?_eq_some_iff.1 hi).1
  have hr := h.rg here (List.mem_of_getElem? hi)
  unfold addW
  split
  · rename_i hs
    have hl := y91 c hc here.1 e v hr.1 hr.2 hs.1
    refine ⟨?_, fun p hp => ?_, fun j p hp => ?_⟩
    · unfold lvs
      rw [List.map_append, List.nodup_append]
      refine ⟨h.nd, by simp, fun a ha b hb => ?_⟩
      simp only [List.map_cons, List.map_nil, List.mem_singleton] at hb
      subst hb
      intro he
      have : (lvs ps).contains (stp c here.1 e v).1 = true := List.contains_iff_mem.2 (he ▸ ha)
      rw [hs.2] at this
      cases this
    · rcases List.mem_append.1 hp with hp | hp
      · exact h.rg p hp
      · rw [List.mem_singleton] at hp; subst hp; exact hl
    · by_cases hj : j < ps.length
      · rw [List.getElem?_append_left hj] at hp; exact h.ln j p hp
      · rw [List.getElem?_append_right (by omega)] at hp
        have hj0 : j - ps.length = 0 := by
          cases hq : j - ps.length with
          | zero => rfl
          | succ k => rw [hq] at hp; simp at hp
        rw [hj0] at hp
        simp at hp
        subst hp
        have := h.ln i here hi
        simp
        omega
  · exact h
def wv (c : Cha) (here : Pth) (e : List UInt8) : Nat → Int → List Pth → List Pth
  | 0, _, ps => ps
  | m + 1, v, ps => wv c here e m (v + 1) (addW c here e v ps)
def we (c : Cha) (here : Pth) : List (List UInt8) → List Pth → List Pth
  | [], ps => ps
  | e :: l, ps => we c here l (wv c here e 16 0 ps)
def wout (c : Cha) (ev : List (List UInt8)) : Nat → Nat → List Pth → List Pth
  | 0, _, ps => ps
  | r + 1, i, ps => match ps[i]? with
    | some here => wout c ev r (i + 1) (we c here ev ps)
    | none => ps
theorem yDq (c : Cha) (hc : Valid c) (here : Pth) (e : List UInt8) (i : Nat) : ∀ (m : Nat) (v : Int) (ps : List Pth), WI c ps → ps[i]? = some here → WI c (wv c here e m v ps) ∧ (wv c here e m v ps)[i]? = some here
  | 0, v, ps, h, hi => ⟨h, hi⟩
  | m + 1, v, ps, h, hi => yDq c hc here e i m (v + 1) _ (y8f c hc here e v ps i h hi) (y8n c here e v ps i here hi)
theorem yCt (c : Cha) (hc : Valid c) (here : Pth) (i : Nat) : ∀ (ev : List (List UInt8)) (ps : List Pth), WI c ps → ps[i]? = some here → WI c (we c here ev ps) ∧ (we c here ev ps)[i]? = some here
  | [], ps, h, hi => ⟨h, hi⟩
  | e :: l, ps, h, hi => yCt c hc here i l _ (yDq c hc here e i 16 0 ps h hi).1 (yDq c hc here e i 16 0 ps h hi).2
theorem yED (c : Cha) (hc : Valid c) (ev : List (List UInt8)) : ∀ (r i : Nat) (ps : List Pth), WI c ps → WI c (wout c ev r i ps)
  | 0, i, ps, h => h
  | r + 1, i, ps, h => by
    unfold wout
    split
    · rename_i here hi
      exact yED c hc ev r (i + 1) _ (yCt c hc here i ev ps h hi).1
    · exact h
def yAv (m : List (Int × Bool)) (ps : List Pth) : Prop := ∀ n, (yM (.int .i64) .bool m n).getD false = (lvs ps).contains n
theorem yNV (c : Cha) (hc : Valid c) (i : Nat) (here : Pth) (e : List UInt8) (v : Int) (hv : 0 ≤ v ∧ v ≤ 15) (ps : List Pth) (m : List (Int × Bool)) (h : WI c ps) (hi : ps[i]? = some here) (hm : yAv m ps)
    (t7 : List (List UInt8)) (t8 t9 : Int) (a5 a19 a21 : Int) (a22 : Bool) (a26 : Int) (a28 : Pth) (a29 a30 k1 : Cha) (k5 k19 k21 : Int) (k22 : Bool) (k26 : Int) (k28 : Pth) (k29 k30 : Cha) :
    ∃ m', yFu e t7 t8 t9 c a5 a19 a21 a22 a26 a28 a29 a30 here.1 here.2.1 k1 k5 k19 k21 k22 k26 k28 k29 k30 v ps m = some (.inr (addW c here e v ps, m')) ∧ yAv m' (addW c here e v ps) := by
  have hmem : memMax = 68719476736 := rfl
  have hf := h.few hc
  have hr := h.rg here (List.mem_of_getElem? hi)
  have hln := h.ln i here hi
  have hlt := (List.getElem?_eq_some_iff.1 hi).1
  unfold yFu
  rw [y9X c hc here.1 (e, v, ()) hr.1 hr.2 hv]
  simp only [Option.bind_some]
  have key : ∀ (x : Int) (y : Bool), stp c here.1 e v = (x, 0) → ∃ m', (bif false then (some (Sum.inr (ps, m)) : Option ((((List Pth × Unit) ⊕ (List Pth × List (Int × Bool))) ⊕ (List Pth × List (Int × Bool))) ⊕ (List Pth × List (Int × Bool)))) else (bif (yM (.int .i64) .bool m x).getD false then (some (Sum.inr (ps, m))) else (bif decide (here.2.1.length ≤ memMax) then (bif decide (here.2.1.length + 1 ≤ memMax) then (bif decide (ps.length + 1 ≤ memMax) then (some (Sum.inr (ps ++ [(x, here.2.1 ++ [(e, v, ())], ())], yp (.int .i64) .bool m x true))) else none) else none) else none))) = some (.inr (addW c here e v ps, m')) ∧ yAv m' (addW c here e v ps) := by
    intro x y hs
    have hmx := hm x
    unfold addW
    rw [hs]
    simp only [cond_false, true_and]
    cases hq : (lvs ps).contains x with
    | true =>
      rw [hq] at hmx
      rw [hmx, cond_true, if_neg (by simp)]
      exact ⟨m, rfl, hm⟩
    | false =>
      rw [hq] at hmx
      rw [hmx, cond_false, if_pos rfl, bifT (y6 (show here.2.1.length ≤ memMax by omega)), bifT (y6 (show here.2.1.length + 1 ≤ memMax by omega)), bifT (y6 (show ps.length + 1 ≤ memMax by omega))]
      refine ⟨_, rfl, fun n => ?_⟩
      rw [y20 yLE]
      unfold lvs
      rw [List.map_append, List.map_cons, List.map_nil, List.contains_append]
      have hmn := hm n
      show (bif (n == x) then some true else yM (.int .i64) .bool m n).getD false = ((lvs ps).contains n || [x].contains n)
      rw [← hmn, List.contains_cons, List.contains_nil, Bool.or_false]
      cases (n == x) <;> simp
  have hst : stp c here.1 e v = match y1j c here.1 e v with | [] => (here.1, 0) | [t] => (entr c t.2.2.1, 0) | _ => (0, 30) := rfl
  revert hst
  generalize y1j c here.1 e v = fs
  match fs with
  | [] => intro hst; exact key _ true hst
  | [t] => intro hst; exact key _ true hst
  | t :: u :: l =>
    intro hst
    refine ⟨m, ?_, ?_⟩
    · unfold addW
      rw [hst, if_neg (by simp)]
      rfl
    · unfold addW
      rw [hst, if_neg (by simp)]
      exact hm
theorem yI7 (c : Cha) (hc : Valid c) (i : Nat) (here : Pth) (e : List UInt8)
    (t7 : List (List UInt8)) (t8 t9 : Int) (a5 a19 a21 : Int) (a22 : Bool) (a26 : Int) (a28 : Pth) (a29 a30 k1 : Cha) (k5 k19 k21 : Int) (k22 : Bool) (k26 : Int) (k28 : Pth) (k29 k30 : Cha) : ∀ (r : Nat) (v : Int) (ps : List Pth) (m : List (Int × Bool)), 0 ≤ v → v + r ≤ 16 → WI c ps → ps[i]? = some here → yAv m ps →
    ∃ m', yy (fun i__ s__ => yFu e t7 t8 t9 c a5 a19 a21 a22 a26 a28 a29 a30 here.1 here.2.1 k1 k5 k19 k21 k22 k26 k28 k29 k30 i__ s__.1 s__.2) (fun s__ => yK8 e t7 t8 t9 c a5 a19 a21 a22 a26 a28 a29 a30 here.1 here.2.1 k1 k5 k19 k21 k22 k26 k28 k29 k30 s__.1 s__.2) r v (ps, m) = some (.inr (wv c here e r v ps, m')) ∧ yAv m' (wv c here e r v ps)
  | 0, v, ps, m, _, _, h, hi, hm => ⟨m, rfl, hm⟩
  | r + 1, v, ps, m, h0, h1, h, hi, hm => by
    obtain ⟨m1, hb, hm1⟩ := yNV c hc i here e v ⟨h0, by omega⟩ ps m h hi hm t7 t8 t9 a5 a19 a21 a22 a26 a28 a29 a30 k1 k5 k19 k21 k22 k26 k28 k29 k30
    unfold yy
    simp only [hb, Option.bind_some]
    exact yI7 c hc i here e t7 t8 t9 a5 a19 a21 a22 a26 a28 a29 a30 k1 k5 k19 k21 k22 k26 k28 k29 k30 r (v + 1) _ m1 (by omega) (by omega) (y8f c hc here e v ps i h hi) (y8n c here e v ps i here hi) hm1
theorem yHs (c : Cha) (hc : Valid c) (i : Nat) (here : Pth) (t7 : List (List UInt8)) (a5 a19 a21 : Int) (a22 : Bool) (a26 : Int) (a28 : Pth) (a29 a30 k1 : Cha) (k5 k19 k21 : Int) (k22 : Bool) (k26 : Int) (k28 : Pth) (k29 k30 : Cha) : ∀ (l : List (List UInt8)) (j : Int) (ps : List Pth) (m : List (Int × Bool)), WI c ps → ps[i]? = some here → yAv m ps →
    ∃ m', yH (fun i__ e__ s__ => yEd t7 c a5 a19 a21 a22 a26 a28 a29 a30 here.1 here.2.1 k1 k5 k19 k21 k22 k26 k28 k29 k30 i__ e__ s__.1 s__.2) (fun s__ => yJX t7 c a5 a19 a21 a22 a26 a28 a29 a30 here.1 here.2.1 k1 k5 k19 k21 k22 k26 k28 k29 k30 s__.1 s__.2) j l (ps, m) = some (.inr (we c here l ps, m')) ∧ yAv m' (we c here l ps)
  | [], j, ps, m, h, hi, hm => ⟨m, rfl, hm⟩
  | e :: l, j, ps, m, h, hi, hm => by
    obtain ⟨m1, hb, hm1⟩ := yI7 c hc i here e t7 ((t7.length : Int)) j a5 a19 a21 a22 a26 a28 a29 a30 k1 k5 k19 k21 k22 k26 k28 k29 k30 16 0 ps m (by omega) (by omega) h hi hm
    have hb2 : yEd t7 c a5 a19 a21 a22 a26 a28 a29 a30 here.1 here.2.1 k1 k5 k19 k21 k22 k26 k28 k29 k30 j e ps m = some (.inr (wv c here e 16 0 ps, m1)) := by
      unfold yEd
      rw [bifT (by rfl)]
      exact hb
    rw [yf]
    simp only [hb2, Option.bind_some]
    have hv := yDq c hc here e i 16 0 ps h hi
    exact yHs c hc i here t7 a5 a19 a21 a22 a26 a28 a29 a30 k1 k5 k19 k21 k22 k26 k28 k29 k30 l (j + 1) _ m1 hv.1 hv.2 hm1
theorem yGW (c : Cha) (hc : Valid c) : ∀ (r i : Nat) (ps : List Pth) (m : List (Int × Bool)), WI c ps → i ≤ ps.length → 17 ≤ i + r → yAv m ps →
    y9G (fun (s__ : List Pth × List (Int × Bool)) => (s__.1.length : Int)) (fun i__ s__ => yFW c i__ s__.1 s__.2) (fun s__ => yJH c s__.1 s__.2) r (i : Int) (ps, m) = some (wout c (evts c.2.1) r i ps, ())
  | 0, i, ps, m, h, hi, hr, hm => by have := h.few hc; omega
  | r + 1, i, ps, m, h, hi, hr, hm => by
    have h48 := hc.moves
    have hev := y4D c.2.1
    unfold y9G wout
    by_cases hl : i < ps.length
    · have hg : ps[i]? = some ps[i] := List.getElem?_eq_getElem hl
      obtain ⟨m', hb, hm'⟩ := yHs c hc i ps[i] (evts c.2.1) (i : Int) (i : Int) (ps.length : Int) (decide ((i : Int) < (ps.length : Int))) (i : Int) ps[i] c c c (i : Int) (i : Int) (ps.length : Int) (decide ((i : Int) < (ps.length : Int))) (i : Int) ps[i] c c (evts c.2.1) 0 ps m h hg hm
      have hb2 : yFW c (i : Int) ps m = some (.inr (we c ps[i] (evts c.2.1) ps, m')) := by
        unfold yFW
        rw [y1v, hg, Option.bind_some, Int.toNat_natCast, hg, Option.bind_some, y3c c (by omega), Option.bind_some, bifT (y6 (show (evts c.2.1).length < lenMax by unfold lenMax; omega))]
        exact hb
      rw [bifT (y6 (by simp only; omega))]
      simp only [hb2, Option.bind_some, hg]
      have hv := yCt c hc ps[i] i (evts c.2.1) ps h hg
      have ih := yGW c hc r (i + 1) _ m' hv.1 (by have := (List.getElem?_eq_some_iff.1 hv.2).1; omega) (by omega) hm'
      rw [show ((i + 1 : Nat) : Int) = (i : Int) + 1 by omega] at ih
      exact ih
    · have hg : ps[i]? = none := List.getElem?_eq_none (by omega)
      rw [bifF (yG (by simp only; omega)), hg]
      rfl
def WS (c : Cha) : List Pth := wout c (evts c.2.1) wMax 0 [(entr c 0, [], ())]
theorem y5p (c : Cha) (hc : Valid c) : WI c [(entr c 0, [], ())] := by
  have hp := hc.pos
  have hl := y1e c hc 0 (by omega) (by omega)
  refine ⟨by simp [lvs], fun p hp => ?_, fun j p hj => ?_⟩
  · rw [List.mem_singleton] at hp; subst hp; exact ⟨hl.1, hl.2.1⟩
  · cases j with
    | zero => simp at hj; subst hj; simp
    | succ j => simp at hj
theorem yBU (c : Cha) (hc : Valid c) : WI c (WS c) := yED c hc _ _ _ _ (y5p c hc)
theorem yDU (c : Cha) (hc : Valid c) : zc_M c = some (WS c, ()) := by
  have hp := hc.pos
  have h := yGW c hc wMax 0 _ [(entr c 0, true)] (y5p c hc) (Nat.zero_le _) (by unfold wMax; omega) (fun n => by
    show (bif (n == entr c 0) then some true else none).getD false = _
    simp only [lvs, List.map_cons, List.map_nil, List.contains_cons, List.contains_nil, Bool.or_false]
    cases (n == entr c 0) <;> rfl)
  unfold zc_M WS
  rw [y2I c hc 0 (by omega) (by omega), Option.bind_some, bifT (by rfl)]
  exact h
end Go.Tw
end
