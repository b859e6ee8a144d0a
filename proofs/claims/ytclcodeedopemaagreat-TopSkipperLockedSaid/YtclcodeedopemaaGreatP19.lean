import Derived.Test.YtclcodeedopemaaGreatPZ
set_option linter.all false
set_option maxRecDepth 100000
namespace Go.Tw
open Go.Vx Go.Vx.B Go.Proofs
def OkIn (x : Inp) : Prop := isNm x.1 = true ∧ x.1.length < lenMax ∧ 0 ≤ x.2.1 ∧ x.2.1 ≤ 15
theorem yKm {x : Inp} (h : OkIn x) : inE x = 0 := by
  obtain ⟨h1, h2, h3, h4⟩ := h
  unfold inE nmE
  rw [h1]
  refine yD.2 ⟨rfl, ?_⟩
  unfold ckR
  rw [if_neg (by omega)]
theorem yAF : ∀ {l : List Inp}, (∀ x ∈ l, OkIn x) → insE l = 0
  | [], _ => rfl
  | x :: l, h => by
    unfold insE
    exact yD.2 ⟨yKm (h x (by simp)), yAF fun y hy => h y (by simp [hy])⟩
theorem y8r {l : List Inp} (hl : l.length ≤ 64) (h : ∀ x ∈ l, OkIn x) : ym l = 0 := by
  unfold ym
  rw [if_neg (by omega)]
  exact yAF h
theorem yL1 {c : Cha} (hc : Valid c) {leaf : Int} (hl : IsLf c leaf) {e : List UInt8} {v : Int} (h : (stp c leaf e v).2 = 0) : IsLf c (stp c leaf e v).1 := by
  have hm := y6e c e v 17 leaf
  change ∀ t, t ∈ y1j c leaf e v → _ at hm
  unfold stp at h ⊢
  match hq : y1j c leaf e v with
  | [] => exact hl
  | [t] =>
    rw [hq] at hm
    have ht := hc.tra t (hm t (by simp))
    exact y1e c hc _ ht.2.2.1 ht.2.2.2.1
  | t :: u :: l => rw [hq] at h; cases h
def Goes (c : Cha) : Int → List Inp → List Int → Prop
  | _, [], ts => ts = []
  | leaf, x :: l, ts => (stp c leaf x.1 x.2.1).2 = 0 ∧ ∃ r, ts = (stp c leaf x.1 x.2.1).1 :: r ∧ Goes c (stp c leaf x.1 x.2.1).1 l r
theorem yBN {c : Cha} (x : Inp) : ∀ {l : List Inp} {leaf : Int} {ts : List Int}, Goes c leaf l ts → (stp c (ts.getLastD leaf) x.1 x.2.1).2 = 0 → Goes c leaf (l ++ [x]) (ts ++ [(stp c (ts.getLastD leaf) x.1 x.2.1).1])
  | [], leaf, ts, h, hx => by
    cases (show ts = [] from h)
    exact ⟨hx, [], rfl, rfl⟩
  | y :: l, leaf, ts, ⟨h0, r, h1, h2⟩, hx => by
    subst h1
    rw [List.getLastD_cons] at hx ⊢
    exact ⟨h0, _, rfl, yBN x h2 hx⟩
theorem y7u {c : Cha} : ∀ {l : List Inp} {leaf : Int} {ts : List Int} (i : Int) (out : List Int), Goes c leaf l ts → y2u c yBn l i leaf out = (out ++ ts, 0)
  | [], leaf, ts, i, out, h => by rw [show ts = [] from h, List.append_nil]; rfl
  | x :: l, leaf, ts, i, out, ⟨h0, r, h1, h2⟩ => by
    unfold y2u
    show (if true = true then (if (stp c leaf x.1 x.2.1).2 = 0 then y2u c yBn l (i + 1) (stp c leaf x.1 x.2.1).1 (out ++ [(stp c leaf x.1 x.2.1).1]) else _) else _) = _
    rw [if_pos rfl, if_pos h0, y7u (i + 1) _ h2, h1]
    simp
theorem y9R (a d : Int) : ∀ ts : List Int, (ts ++ [a]).getLastD d = a := fun ts => by simp
structure PI (c : Cha) (ps : List Pth) : Prop where
  wi : WI c ps
  lf : ∀ p ∈ ps, IsLf c p.1
  go : ∀ p ∈ ps, (∀ x ∈ p.2.1, OkIn x) ∧ ∃ ts, Goes c (entr c 0) p.2.1 ts ∧ ts.getLastD (entr c 0) = p.1
theorem yJP (c : Cha) (hc : Valid c) : PI c [(entr c 0, [], ())] := by
  have hp := hc.pos
  refine ⟨y5p c hc, fun p hp => ?_, fun p hp => ?_⟩ <;> rw [List.mem_singleton] at hp <;> subst hp
  · exact y1e c hc 0 (by omega) (by omega)
  · exact ⟨fun x hx => (by cases hx), [], rfl, rfl⟩
theorem yNG (c : Cha) (hc : Valid c) (here : Pth) (e : List UInt8) (v : Int) (hx : OkIn (e, v, ())) (ps : List Pth) (i : Nat) (h : PI c ps) (hi : ps[i]? = some here) : PI c (addW c here e v ps) := by
  have hw := y8f c hc here e v ps i h.wi hi
  have hm := List.mem_of_getElem? hi
  unfold addW at hw ⊢
  split
  · rename_i hs
    rw [if_pos hs] at hw
    refine ⟨hw, fun p hp => ?_, fun p hp => ?_⟩ <;> rcases List.mem_append.1 hp with hp | hp
    · exact h.lf p hp
    · rw [List.mem_singleton] at hp; subst hp
      exact yL1 hc (h.lf here hm) hs.1
    · exact h.go p hp
    · rw [List.mem_singleton] at hp; subst hp
      obtain ⟨g1, ts, g2, g3⟩ := h.go here hm
      refine ⟨fun x hh => ?_, ?_⟩
      · rcases List.mem_append.1 hh with hh | hh
        · exact g1 x hh
        · rw [List.mem_singleton] at hh; subst hh; exact hx
      · have hs1 := hs.1
        rw [← g3] at hs1 ⊢
        exact ⟨_, yBN (e, v, ()) g2 hs1, y9R _ _ _⟩
  · exact h
theorem y5a (x y : Int) : [x].contains y = (y == x) := by simp only [List.contains_cons, List.contains_nil, Bool.or_false]
end Go.Tw
