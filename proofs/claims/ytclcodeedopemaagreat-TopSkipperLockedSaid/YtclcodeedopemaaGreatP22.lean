import Derived.Test.YtclcodeedopemaaGreatPZ
import Derived.Test.YtclcodeedopemaaGreatP19
set_option linter.all false
set_option maxRecDepth 100000
namespace Go.Tw
open Go.Vx Go.Vx.B Go.Proofs
theorem yAH (p : Int → List UInt8 → Int → Bool) (leaf : Int) (e : List UInt8) : ∀ (m : Nat) (v : Int), y1s p leaf e m v = [] → ∀ w, v ≤ w → w < v + m → p leaf e w = false
  | 0, v, _, w, h0, h1 => by omega
  | m + 1, v, h, w, h0, h1 => by
    unfold y1s at h
    obtain ⟨h2, h3⟩ := List.append_eq_nil_iff.1 h
    by_cases hv : w = v
    · subst hv
      cases hp : p leaf e w with
      | false => rfl
      | true => rw [hp] at h2; cases h2
    · exact yAH p leaf e m (v + 1) h3 w (by omega) (by omega)
theorem yBc (p : Int → List UInt8 → Int → Bool) (leaf : Int) : ∀ (ev : List (List UInt8)), y23 p leaf ev = [] → ∀ e ∈ ev, ∀ w, 0 ≤ w → w ≤ 15 → p leaf e w = false
  | [], _, e, he, _, _, _ => by cases he
  | x :: ev, h, e, he, w, h0, h1 => by
    unfold y23 at h
    obtain ⟨h2, h3⟩ := List.append_eq_nil_iff.1 h
    rcases List.mem_cons.1 he with rfl | he
    · exact yAH p leaf e 16 0 h2 w h0 (by omega)
    · exact yBc p leaf ev h3 e he w h0 h1
theorem yAO (p : Int → List UInt8 → Int → Bool) (ev : List (List UInt8)) : ∀ (ls : List Int), y11 p ev ls = [] → ∀ leaf ∈ ls, ∀ e ∈ ev, ∀ w, 0 ≤ w → w ≤ 15 → p leaf e w = false
  | [], _, l, hl, _, _, _, _, _ => by cases hl
  | x :: ls, h, l, hl, e, he, w, h0, h1 => by
    unfold y11 at h
    obtain ⟨h2, h3⟩ := List.append_eq_nil_iff.1 h
    rcases List.mem_cons.1 hl with rfl | hl
    · exact yBc p l ev h2 e he w h0 h1
    · exact yAO p ev ls h3 l hl e he w h0 h1
theorem y9D : ∀ (l : List Tra) (s : List (List UInt8)) (e : List UInt8), (e ∈ s ∨ ∃ t ∈ l, t.2.1 = e) → e ∈ l.foldl evF s
  | [], s, e, h => by
    rcases h with h | ⟨t, ht, _⟩
    · exact h
    · cases ht
  | t :: l, s, e, h => by
    rw [List.foldl_cons]
    refine y9D l _ e ?_
    unfold evF
    rcases h with h | ⟨u, hu, he⟩
    · left
      cases s.contains t.2.1 with
      | true => exact h
      | false => exact List.mem_append.2 (.inl h)
    · rcases List.mem_cons.1 hu with rfl | hu
      · left
        cases hc : s.contains u.2.1 with
        | true => rw [← he]; simpa using hc
        | false => rw [← he]; exact List.mem_append.2 (.inr (by simp))
      · exact .inr ⟨u, hu, he⟩
theorem yCM (c : Cha) (e : List UInt8) (v : Int) (h : ∀ t ∈ c.2.1, t.2.1 ≠ e) : ∀ (k : Nat) (s : Int), tk c e v k s = []
  | 0, s => rfl
  | k + 1, s => by
    have hf : ∀ s, c.2.1.filter (fitB s e v) = [] := fun s => by
      rw [List.filter_eq_nil_iff]
      intro t ht
      unfold fitB
      have := h t ht
      simp [this]
    unfold tk
    split
    · rfl
    · split
      · rfl
      · rw [hf, List.length_nil]
        simp only [if_true]
        exact yCM c e v h k _
theorem y6N : ∀ (l : List Sta) (k : Int) (j : Nat) (s : Sta), l[j]? = some s → s.2.2.1 = -1 → k + j ∈ y0c k l
  | [], k, j, s, h, _ => by simp at h
  | x :: l, k, 0, s, h, hs => by
    simp only [List.getElem?_cons_zero, Option.some.injEq] at h
    subst h
    unfold y0c
    simp [hs]
  | x :: l, k, j + 1, s, h, hs => by
    have := y6N l (k + 1) j s (by simpa using h) hs
    unfold y0c
    rw [show k + ((j + 1 : Nat) : Int) = k + 1 + (j : Int) by omega]
    split
    · exact List.mem_cons_of_mem _ this
    · exact this
def yBb (c : Cha) : Prop := ∀ leaf, IsLf c leaf → ∀ (e : List UInt8) (v : Int), 0 ≤ v → v ≤ 15 → (stp c leaf e v).2 = 0
theorem yJS {c : Cha} (h : y11 (y2z c true) (evts c.2.1) (y0c 0 c.1) = []) : yBb c := by
  intro leaf ⟨l0, l1, st, l2, l3⟩ e v h0 h1
  unfold stp
  by_cases he : ∃ t ∈ c.2.1, t.2.1 = e
  · have hm : e ∈ evts c.2.1 := y9D c.2.1 [] e (.inr he)
    have hl : leaf ∈ y0c 0 c.1 := by
      have := y6N c.1 0 leaf.toNat st l2 l3
      rwa [show (0 : Int) + (leaf.toNat : Int) = leaf by omega] at this
    have hp := yAO _ _ _ h leaf hl e hm v h0 h1
    unfold y2z at hp
    match hq : y1j c leaf e v with
    | [] => rfl
    | [_] => rfl
    | _ :: _ :: _ => rw [hq] at hp; cases hp
  · have : y1j c leaf e v = [] := yCM c e v (fun t ht h => he ⟨t, ht, h⟩) 17 leaf
    rw [this]
def trc (c : Cha) (d : Int → Inp → Inp × Bool) : List Inp → Int → Int → List Int
  | [], _, _ => []
  | x :: l, i, leaf => (if (d i x).2 = true then (stp c leaf (d i x).1.1 (d i x).1.2.1).1 else leaf) :: trc c d l (i + 1) (if (d i x).2 = true then (stp c leaf (d i x).1.1 (d i x).1.2.1).1 else leaf)
theorem y7x (c : Cha) (d : Int → Inp → Inp × Bool) : ∀ (l : List Inp) (i leaf : Int), (trc c d l i leaf).length = l.length
  | [], _, _ => rfl
  | x :: l, i, leaf => by unfold trc; rw [List.length_cons, List.length_cons, y7x c d l]
theorem y6X {c : Cha} (hc : Valid c) (hcl : yBb c) (d : Int → Inp → Inp × Bool) : ∀ (l : List Inp) (i leaf : Int) (out : List Int), IsLf c leaf → (∀ j x, x ∈ l → 0 ≤ (d j x).1.2.1 ∧ (d j x).1.2.1 ≤ 15) →
    y2u c d l i leaf out = (out ++ trc c d l i leaf, 0)
  | [], i, leaf, out, _, _ => by rw [show trc c d [] i leaf = [] from rfl, List.append_nil]; rfl
  | x :: l, i, leaf, out, hl, hd => by
    unfold y2u trc
    by_cases h1 : (d i x).2 = true
    · have hx := hd i x (by simp)
      have h2 := hcl leaf hl (d i x).1.1 (d i x).1.2.1 hx.1 hx.2
      rw [if_pos h1, if_pos h2, if_pos h1, y6X hc hcl d l (i + 1) _ _ (yL1 hc hl h2) (fun j y hy => hd j y (by simp [hy]))]
      simp
    · rw [if_neg h1, if_neg h1, y6X hc hcl d l (i + 1) _ _ hl (fun j y hy => hd j y (by simp [hy]))]
      simp
end Go.Tw
