import Derived.Test.YtclcodeedopemaaGreatPX
import Derived.Test.YtclcodeedopemaaGreatB13
section
set_option linter.all false
set_option maxRecDepth 100000
namespace Go.Tw
open Go.Vx Go.Vx.B Go.Proofs
end Go.Tw
end
section
set_option linter.all false
set_option maxRecDepth 100000
namespace Go.Tw
open Go.Vx Go.Vx.B Go.Proofs
def yHc : List UInt8 := [110, 111, 110, 101]
def inE (x : Inp) : Int := yC (nmE x.1) (ckR x.2.1 0 15)
def insE : List Inp → Int
  | [] => 0
  | x :: l => yC (inE x) (insE l)
def yv (l : List Inp) : Int := if 64 < l.length then 5 else insE l
theorem yH7 (x : Inp) : zc_M x = some (inE x, ()) := by
  unfold zc_M zc_m
  rw [y2H]
  simp only [Option.bind_some, y49]
  rw [y9r _ (by simp [lenMax])]
  simp only [Option.bind_some, yQ, yk, yX]
  rfl
theorem yFF (x : Inp) (h : x.1.length < lenMax) : zY_M x = some (inE x, ()) := by
  unfold zY_M zY_m
  rw [y1O _ h]
  simp only [Option.bind_some, zJ, y2y]
  rw [y01 _ (by simp [lenMax])]
  simp only [Option.bind_some, yQ, yk, yX]
  rfl
theorem y59 (xs : List Inp) : ∀ (l : List Inp) (i : Int), yE (fun i__ e__ s__ => yDx xs i__ e__) (fun s__ => yIG xs) i l () = some (insE l, ())
  | [], i => rfl
  | x :: l, i => by
    have hb : yDx xs i x = some (bif inE x != 0 then .inl (inE x, ()) else .inr ()) := by
      unfold yDx
      rw [yH7]
      simp only [Option.bind_some]
      cases (inE x != 0) <;> rfl
    rw [y4c hb, y59 xs l (i + 1), y30]
    rfl
theorem yF4 (l : List Inp) : zT_M l = some (yv l, ()) := by
  unfold zT_M yv
  by_cases h : 64 < l.length
  · rw [bifT (y6 (show (l.length : Int) > 64 by omega)), if_pos h]
  · rw [bifF (yF (show ¬ (l.length : Int) > 64 by omega)), if_neg h, bifT (y6 (show l.length < lenMax by unfold lenMax; omega))]
    exact y59 l l 0
theorem y7X : ∀ l : List Inp, y0x (l.map inE) = insE l
  | [] => rfl
  | x :: l => by rw [List.map_cons, yQ, y7X l]; rfl
theorem yDc (l : List Inp) (h : l.length ≤ 1000) (hw : ∀ x ∈ l, x.1.length < lenMax) : zZ_M l = some (yv l, ()) := by
  have hmem : memMax = 68719476736 := rfl
  have hlm : l.length < lenMax := by unfold lenMax; omega
  unfold zZ_M zZ_m
  have hmap : (z8_M l fun (x : Inp × Unit) => zY_M x.fst) = some (l.map inE, ()) := by
    unfold z8_M
    rw [bifT (y6 hlm)]
    refine (y1z inE l 0 [] (by simp; omega) fun i e s he hs => ?_).trans ?_
    · unfold yHY
      simp only
      rw [show ((e.1, e.2.1, ()) : Inp) = e from rfl, yFF e (hw e he)]
      simp only [Option.bind_some]
      rw [bifT (y6 hs)]
    · rw [List.nil_append]; rfl
  rw [hmap]
  simp only [Option.bind_some]
  rw [y01 _ (by rw [List.length_map]; exact hlm), y7X]
  simp only [Option.bind_some, y2k]
  rw [y01 _ (by simp [lenMax])]
  simp only [Option.bind_some, yQ, yk, yX]
  unfold yv
  by_cases h9 : 64 < l.length
  · rw [y6 (show (l.length : Int) > 64 by omega), if_pos h9]; rfl
  · rw [yF (show ¬ (l.length : Int) > 64 by omega), if_neg h9]; rfl
theorem yGi (l : List Inp) (h : l.length ≤ memMax) : zV_M l = some (l, ()) := by
  have hmem : memMax = 68719476736 := rfl
  unfold zV_M
  rw [bifT (y6 (show l.length < lenMax by unfold lenMax; omega))]
  refine (y1z (fun x : Inp => x) l 0 [] (by simpa using h) fun i e s he hs => ?_).trans ?_
  · unfold yIc
    rw [bifT (y6 hs)]
  · rw [List.map_id', List.nil_append]; rfl
theorem y7T (l : List Inp) (h : l.length < lenMax) : ∃ s, zU_M l = some (s, ()) ∧ (s = true → l.length ≤ 65 ∧ ∀ c ∈ l, c.1.length ≤ 40) := by
  unfold zU_M
  rw [bifT (y6 h), y26 (fun c : Inp => if (decide ((c.1.length : Int) > 40)) = true then some (false, ()) else none) l 0 (fun i e _ => by
    unfold yIB
    cases decide ((e.1.length : Int) > 40) <;> rfl)]
  cases hf : l.findSome? (fun c : Inp => if (decide ((c.1.length : Int) > 40)) = true then some (false, ()) else none) with
  | some y =>
    refine ⟨y.1, rfl, fun hy => ?_⟩
    obtain ⟨c, _, hc⟩ := List.exists_of_findSome?_eq_some hf
    split at hc
    · cases hc; cases hy
    · cases hc
  | none =>
    have hall : ∀ c ∈ l, c.1.length ≤ 40 := by
      intro c hc
      have := List.findSome?_eq_none_iff.1 hf c hc
      by_cases hd : ((c.1.length : Int) > 40)
      · rw [if_pos (y6 hd)] at this; cases this
      · omega
    unfold yIN
    by_cases h24 : (l.length : Int) ≤ 12
    · exact ⟨true, by rw [bifT (y6 h24)], fun _ => ⟨by omega, hall⟩⟩
    · exact ⟨(l.length : Int) == 65, by rw [bifF (yF h24)], fun hs => ⟨by have := of_decide_eq_true hs; omega, hall⟩⟩
end Go.Tw
end
section
set_option linter.all false
set_option maxRecDepth 100000
namespace Go.Tw
open Go.Vx Go.Vx.B Go.Proofs
theorem y6b (c : Cha) : ∀ (l : List Tra) (i : Int), ∃ s, yE (fun i__ e__ s__ => y6a c i__ e__) (fun s__ => y8h c) i l () = some (s, ()) ∧ (s = true → ∀ t ∈ l, t.2.1.length ≤ 40)
  | [], i => ⟨true, rfl, fun _ t ht => by cases ht⟩
  | x :: l, i => by
    rw [yZ]
    unfold y6a
    by_cases h : (x.2.1.length : Int) > 40
    · exact ⟨false, by rw [bifT (y6 h)]; rfl, fun h => by cases h⟩
    · obtain ⟨s, h1, h2⟩ := y6b c l (i + 1)
      refine ⟨s, by rw [bifF (yF h)]; exact h1, fun hs t ht => ?_⟩
      rcases List.mem_cons.1 ht with rfl | ht
      · omega
      · exact h2 hs t ht
theorem y67 (c : Cha) (hl : c.2.1.length < lenMax) : ∀ (l : List Sta) (i : Int), ∃ s, yE (fun i__ e__ s__ => yAw c i__ e__) (fun s__ => y9p c) i l () = some (s, ()) ∧ (s = true → (∀ t ∈ l, t.1.length ≤ 40) ∧ ∀ t ∈ c.2.1, t.2.1.length ≤ 40)
  | [], i => by
    obtain ⟨s, h1, h2⟩ := y6b c c.2.1 0
    refine ⟨s, ?_, fun hs => ⟨fun t ht => (by cases ht), h2 hs⟩⟩
    rw [y24]
    unfold y9p
    rw [bifT (y6 hl)]
    exact h1
  | x :: l, i => by
    rw [yZ]
    unfold yAw
    by_cases h : (x.1.length : Int) > 40
    · exact ⟨false, by rw [bifT (y6 h)]; rfl, fun h => by cases h⟩
    · obtain ⟨s, h1, h2⟩ := y67 c hl l (i + 1)
      refine ⟨s, by rw [bifF (yF h)]; exact h1, fun hs => ⟨fun t ht => ?_, (h2 hs).2⟩⟩
      rcases List.mem_cons.1 ht with rfl | ht
      · omega
      · exact (h2 hs).1 t ht
structure Sh (c : Cha) : Prop where
  sts : c.1.length ≤ 17
  tras : c.2.1.length ≤ 49
  words : yI6 c
theorem yHr (c : Cha) : ∃ s, yAM c = some (s, ()) ∧ (s = true → Sh c) := by
  have key : c.1.length ≤ 17 → c.2.1.length ≤ 49 → ∃ s, y2K c = some (s, ()) ∧ (s = true → Sh c) := by
    intro h1 h2
    obtain ⟨s, h3, h4⟩ := y67 c (by unfold lenMax; omega) c.1 0
    refine ⟨s, ?_, fun hs => ⟨h1, h2, fun t ht => ?_, fun t ht => ?_⟩⟩
    · unfold y2K
      rw [bifT (y6 (show c.1.length < lenMax by unfold lenMax; omega))]
      exact h3
    · have := (h4 hs).1 t ht; unfold lenMax; omega
    · have := (h4 hs).2 t ht; unfold lenMax; omega
  have key2 : c.1.length ≤ 17 → ∃ s, (bif decide ((c.2.1.length : Int) > 12) then (bif (c.2.1.length : Int) != 49 then (some ((false, ()))) else (y2K c)) else (y2K c)) = some (s, ()) ∧ (s = true → Sh c) := by
    intro h1
    by_cases h2 : (c.2.1.length : Int) > 12
    · rw [bifT (y6 h2)]
      by_cases h3 : (c.2.1.length : Int) = 49
      · rw [bifF (show ((c.2.1.length : Int) != 49) = false by simp [h3])]
        exact key h1 (by omega)
      · exact ⟨false, by rw [bifT (show ((c.2.1.length : Int) != 49) = true by simpa using h3)], fun h => by cases h⟩
    · rw [bifF (yF h2)]
      exact key h1 (by omega)
  unfold yAM
  by_cases h2 : (c.1.length : Int) > 7
  · rw [bifT (y6 h2)]
    by_cases h3 : (c.1.length : Int) = 17
    · rw [bifF (show ((c.1.length : Int) != 17) = false by simp [h3])]
      exact key2 (by omega)
    · exact ⟨false, by rw [bifT (show ((c.1.length : Int) != 17) = true by simpa using h3)], fun h => by cases h⟩
  · rw [bifF (yF h2)]
    exact key2 (by omega)
theorem yIj (c : Cha) (hc : Sh c) : zd_M c = some (c, ()) := by
  have hmem : memMax = 68719476736 := rfl
  have h1 := hc.sts
  have h2 := hc.tras
  unfold zd_M
  rw [bifT (y6 (show c.1.length < lenMax by unfold lenMax; omega))]
  refine (y1z (fun x : Sta => x) c.1 0 [] (by simp; omega) fun i e s he hs => ?_).trans ?_
  · unfold yIp
    rw [bifT (y6 hs)]
  rw [List.map_id', List.nil_append]
  unfold yHn
  rw [bifT (y6 (show c.2.1.length < lenMax by unfold lenMax; omega))]
  refine (y1z (fun x : Tra => x) c.2.1 0 [] (by simp; omega) fun i e s he hs => ?_).trans ?_
  · unfold yHQ
    rw [bifT (y6 hs)]
  rw [List.map_id', List.nil_append]
  rfl
theorem gck (c : Cha) (hc : Sh c) : zh_M c = some (y0m c, ()) := yFh c (by have := hc.sts; omega) (by have := hc.tras; omega) hc.words
theorem yHP (c : Cha) (hc : Valid c) (leaf : Int) (e : List UInt8) (v : Int) (h0 : 0 ≤ leaf) (h1 : leaf < c.1.length) (hs : (stp c leaf e v).2 = 0) : 0 ≤ (stp c leaf e v).1 ∧ (stp c leaf e v).1 < c.1.length := by
  have hm := y6A c e v 17 leaf
  unfold stp at hs ⊢
  change ∀ t, t ∈ y3f c leaf e v → _ at hm
  generalize y3f c leaf e v = fs at hm hs
  match fs with
  | [] => exact ⟨h0, h1⟩
  | [t] =>
    have ht := hc.tra t (hm t (by simp))
    have := y4i c hc t.2.2.1 ht.2.2.1 ht.2.2.2.1
    exact ⟨this.1, this.2.1⟩
  | t :: u :: l => cases hs
def y7H (c : Cha) (d : Int → Inp → Inp × Bool) : List Inp → Int → Int → List Int → List Int × Int
  | [], _, _, out => (out, 0)
  | x :: l, i, leaf, out => if (d i x).2 = true then
      (if (stp c leaf (d i x).1.1 (d i x).1.2.1).2 = 0 then y7H c d l (i + 1) (stp c leaf (d i x).1.1 (d i x).1.2.1).1 (out ++ [(stp c leaf (d i x).1.1 (d i x).1.2.1).1]) else ([], (stp c leaf (d i x).1.1 (d i x).1.2.1).2))
    else y7H c d l (i + 1) leaf (out ++ [leaf])
theorem y4n (c : Cha) (hc : Valid c) (f : Fai) (xs : List Inp) (w : List UInt8) (g1 : Fai × Unit → Option (Fai × Unit)) (g2 : Fai × Int × Inp × Unit → Option (Inp × Bool × Unit)) (d : Int → Inp → Inp × Bool) :
    ∀ (l : List Inp) (i : Int) (leaf : Int) (out : List Int), 0 ≤ i → 0 ≤ leaf → leaf < c.1.length → out.length + l.length ≤ 1000 → (∀ (i : Int) x, 0 ≤ i → x ∈ l → g2 (f, i, x, ()) = some ((d i x).1, (d i x).2, ()) ∧ ((d i x).2 = true → 0 ≤ (d i x).1.2.1 ∧ (d i x).1.2.1 ≤ 15)) →
      yE (fun i__ e__ s__ => yDZ c f xs w g1 g2 i__ e__ s__.1 s__.2) (fun s__ => yHU c f xs w g1 g2 s__.1 s__.2) i l (leaf, out) = some ((y7H c d l i leaf out).1, (y7H c d l i leaf out).2, ())
  | [], i, leaf, out, _, _, _, _, _ => rfl
  | x :: l, i, leaf, out, hi, h0, h1, hl, hd => by
    have hmem : memMax = 68719476736 := rfl
    simp only [List.length_cons] at hl
    obtain ⟨hg, hv⟩ := hd i x hi (by simp)
    have hd' : ∀ (i : Int) x, 0 ≤ i → x ∈ l → g2 (f, i, x, ()) = some ((d i x).1, (d i x).2, ()) ∧ ((d i x).2 = true → 0 ≤ (d i x).1.2.1 ∧ (d i x).1.2.1 ≤ 15) := fun i y h hy => hd i y h (by simp [hy])
    have hb : yDZ c f xs w g1 g2 i x leaf out = some (if (d i x).2 = true then
        (if (stp c leaf (d i x).1.1 (d i x).1.2.1).2 = 0 then .inr ((stp c leaf (d i x).1.1 (d i x).1.2.1).1, out ++ [(stp c leaf (d i x).1.1 (d i x).1.2.1).1]) else .inl ([], (stp c leaf (d i x).1.1 (d i x).1.2.1).2, ()))
        else .inr (leaf, out ++ [leaf])) := by
      unfold yDZ
      rw [show ((x.1, x.2.1, ()) : Inp) = x from rfl, hg]
      simp only [Option.bind_some]
      cases hq : (d i x).2 with
      | false => rw [cond_false, if_neg (by simp), bifT (y6 (show out.length + 1 ≤ memMax by omega))]
      | true =>
        rw [cond_true, if_pos rfl, show (((d i x).1.1, (d i x).1.2.1, ()) : Inp) = (d i x).1 from rfl, yHw c hc leaf (d i x).1 h0 h1 (hv hq)]
        simp only [Option.bind_some]
        unfold stp
        generalize y3f c leaf (d i x).1.1 (d i x).1.2.1 = fs
        match fs with
        | [] => rw [bifF (by rfl), bifT (y6 (show out.length + 1 ≤ memMax by omega))]; rfl
        | [t] => rw [bifF (by rfl), bifT (y6 (show out.length + 1 ≤ memMax by omega))]; rfl
        | t :: u :: r => rfl
    rw [yZ, hb]
    simp only [Option.bind_some]
    unfold y7H
    by_cases hq : (d i x).2 = true
    · rw [if_pos hq, if_pos hq]
      by_cases hz : (stp c leaf (d i x).1.1 (d i x).1.2.1).2 = 0
      · rw [if_pos hz, if_pos hz]
        have hl2 := yHP c hc leaf _ _ h0 h1 hz
        exact y4n c hc f xs w g1 g2 d l (i + 1) _ _ (by omega) hl2.1 hl2.2 (by simp; omega) hd'
      · rw [if_neg hz, if_neg hz]
    · rw [if_neg hq, if_neg hq]
      exact y4n c hc f xs w g1 g2 d l (i + 1) leaf _ (by omega) h0 h1 (by simp; omega) hd'
def noF : Fai := (yHc, 0, 0, 0, ())
def yA4 : Int → Inp → Inp × Bool := fun _ x => (x, true)
theorem yHB : ∃ k1 k2, zS_M noF = some ((yHc, k1, k2, ()), true, ()) ∧ ∀ i x, k2 (noF, i, x, ()) = some (x, true, ()) := by
  refine ⟨_, _, rfl, fun i x => rfl⟩
theorem yEx (c : Cha) (hc : Valid c) (l : List Inp) (hl : l.length ≤ 1000) (hv : ∀ x ∈ l, 0 ≤ x.2.1 ∧ x.2.1 ≤ 15) :
    zf_M c l noF = some ((y7H c yA4 l 0 (entr c 0) []).1, (y7H c yA4 l 0 (entr c 0) []).2, ()) := by
  have hp := hc.pos
  have hlf := y4i c hc 0 (by omega) (by omega)
  obtain ⟨k1, k2, h1, h2⟩ := yHB
  unfold zf_M
  rw [h1, Option.bind_some, yAb c hc 0 (by omega) (by omega), Option.bind_some, bifT (y6 (show l.length < lenMax by unfold lenMax; omega))]
  exact y4n c hc noF l yHc k1 k2 yA4 l 0 (entr c 0) [] (by omega) hlf.1 hlf.2.1 (by simpa using hl) (fun i x _ hx => ⟨h2 i x, fun _ => hv x hx⟩)
end Go.Tw
end
section
set_option linter.all false
set_option maxRecDepth 100000
namespace Go.Tw
open Go.Vx Go.Vx.B Go.Proofs
theorem yGz {x : Inp} (h : inE x = 0) : 0 ≤ x.2.1 ∧ x.2.1 ≤ 15 := y4g (yM.1 h).2
theorem y5x : ∀ (l : List Inp), insE l = 0 → ∀ x ∈ l, inE x = 0
  | [], _, x, hx => by cases hx
  | y :: l, h, x, hx => by
    obtain ⟨h1, h2⟩ := yM.1 h
    rcases List.mem_cons.1 hx with rfl | hx
    · exact h1
    · exact y5x l h2 x hx
theorem y3E {l : List Inp} (h : yv l = 0) : ∀ x ∈ l, 0 ≤ x.2.1 ∧ x.2.1 ≤ 15 := by
  unfold yv at h
  split at h
  · cases h
  · exact fun x hx => yGz (y5x l h x hx)
def runE (c : Cha) (l : List Inp) : Int := yC (y0m c) (yv l)
abbrev run0 (c : Cha) (l : List Inp) : List Int × Int := y7H c yA4 l 0 (entr c 0) []
theorem yJm (c : Cha) (hc : Sh c) (l : List Inp) (hl : l.length ≤ 1000) (hw : ∀ x ∈ l, x.1.length < lenMax) :
    y7O c l = some (if runE c l = 0 then ((run0 c l).1, (run0 c l).2, ()) else ([], runE c l, ())) := by
  unfold y7O yHb runE
  rw [gck c hc, Option.bind_some, yDc l hl hw, Option.bind_some, y01 _ (by simp [lenMax]), Option.bind_some]
  simp only [yQ, yk, yX]
  by_cases h : yC (y0m c) (yv l) = 0
  · obtain ⟨h1, h2⟩ := yM.1 h
    have := yEx c (yDI c h1) l hl (y3E h2)
    unfold noF yHc at this
    rw [if_pos h, bifF (show (yC (y0m c) (yv l) != 0) = false by simpa using h), this, Option.bind_some]
  · rw [if_neg h, bifT (show (yC (y0m c) (yv l) != 0) = true by simpa using h)]
end Go.Tw
end
section
set_option linter.all false
set_option maxRecDepth 100000
namespace Go.Tw
open Go.Vx Go.Vx.B Go.Proofs
theorem yD1 : ∀ (n : Nat) (l : List Int), l.Nodup → (∀ x ∈ l, 0 ≤ x ∧ x < n) → l.length ≤ n
  | 0, l, _, h => by
    cases l with
    | nil => exact Nat.le_refl _
    | cons x l => have := h x (by simp); omega
  | n + 1, l, hn, h => by
    have ih := yD1 n (l.erase (n : Int)) (hn.erase _) (fun x hx => by
      have h1 := (List.Nodup.mem_erase_iff hn).1 hx
      have := h x h1.2
      have h2 := h1.1
      omega)
    have : l.length ≤ (l.erase (n : Int)).length + 1 := by
      by_cases hm : (n : Int) ∈ l
      · rw [List.length_erase_of_mem hm]; omega
      · rw [List.erase_of_not_mem hm]; omega
    omega
abbrev lvs (ps : List Pth) : List Int := ps.map fun p => p.1
structure WI (c : Cha) (ps : List Pth) : Prop where
  nd : (lvs ps).Nodup
  rg : ∀ p ∈ ps, 0 ≤ p.1 ∧ p.1 < c.1.length
  ln : ∀ (j : Nat) (p : Pth), ps[j]? = some p → p.2.1.length ≤ j
theorem WI.few {c : Cha} (hc : Valid c) {ps : List Pth} (h : WI c ps) : ps.length ≤ 16 := by
  have := yD1 c.1.length (lvs ps) h.nd (fun x hx => by
    obtain ⟨p, hp, rfl⟩ := List.mem_map.1 hx
    exact h.rg p hp)
  have h16 := hc.few
  simp only [List.length_map] at this
  omega
end Go.Tw
end
