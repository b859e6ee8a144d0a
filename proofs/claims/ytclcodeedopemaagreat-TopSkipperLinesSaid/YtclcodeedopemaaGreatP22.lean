import Derived.Test.YtclcodeedopemaaGreatPZ
import Derived.Test.YtclcodeedopemaaGreatP19
set_option linter.all false
set_option maxRecDepth 100000
namespace Go.Tw
open Go.Vx Go.Vx.B Go.Proofs
theorem y9w (p : Int → List UInt8 → Int → Bool) (leaf : Int) (e : List UInt8) : ∀ (m : Nat) (v : Int), y79 p leaf e m v = [] → ∀ w, v ≤ w → w < v + m → p leaf e w = false
  | 0, v, _, w, h0, h1 => by omega
  | m + 1, v, h, w, h0, h1 => by
    unfold y79 at h
    obtain ⟨h2, h3⟩ := List.append_eq_nil_iff.1 h
    by_cases hv : w = v
    · subst hv
      cases hp : p leaf e w with
      | false => rfl
      | true => rw [hp] at h2; cases h2
    · exact y9w p leaf e m (v + 1) h3 w (by omega) (by omega)
theorem yAi (p : Int → List UInt8 → Int → Bool) (leaf : Int) : ∀ (ev : List (List UInt8)), y7G p leaf ev = [] → ∀ e ∈ ev, ∀ w, 0 ≤ w → w ≤ 15 → p leaf e w = false
  | [], _, e, he, _, _, _ => by cases he
  | x :: ev, h, e, he, w, h0, h1 => by
    unfold y7G at h
    obtain ⟨h2, h3⟩ := List.append_eq_nil_iff.1 h
    rcases List.mem_cons.1 he with rfl | he
    · exact y9w p leaf e 16 0 h2 w h0 (by omega)
    · exact yAi p leaf ev h3 e he w h0 h1
theorem yA7 (p : Int → List UInt8 → Int → Bool) (ev : List (List UInt8)) : ∀ (ls : List Int), y8q p ev ls = [] → ∀ leaf ∈ ls, ∀ e ∈ ev, ∀ w, 0 ≤ w → w ≤ 15 → p leaf e w = false
  | [], _, l, hl, _, _, _, _, _ => by cases hl
  | x :: ls, h, l, hl, e, he, w, h0, h1 => by
    unfold y8q at h
    obtain ⟨h2, h3⟩ := List.append_eq_nil_iff.1 h
    rcases List.mem_cons.1 hl with rfl | hl
    · exact yAi p l ev h2 e he w h0 h1
    · exact yA7 p ev ls h3 l hl e he w h0 h1
theorem yCr : ∀ (l : List Tra) (s : List (List UInt8)) (e : List UInt8), (e ∈ s ∨ ∃ t ∈ l, t.2.1 = e) → e ∈ l.foldl evF s
  | [], s, e, h => by
    rcases h with h | ⟨t, ht, _⟩
    · exact h
    · cases ht
  | t :: l, s, e, h => by
    rw [List.foldl_cons]
    refine yCr l _ e ?_
    unfold evF
    rcases h with h | ⟨u, hu, he⟩
    · left
      cases s.contains t.2.1 with
      | true => exact h
      | false => exact List.mem_append.2 (.inl h)
    · rcases List.mem_cons.1 hu with rfl | hu
      · left
        cases hc : s.contains u.2.1 with
        | true => rw [← he]; simpa using hc
        | false => rw [← he]; exact List.mem_append.2 (.inr (by simp))
      · exact .inr ⟨u, hu, he⟩
theorem yFb (c : Cha) (e : List UInt8) (v : Int) (h : ∀ t ∈ c.2.1, t.2.1 ≠ e) : ∀ (k : Nat) (s : Int), tk c e v k s = []
  | 0, s => rfl
  | k + 1, s => by
    have hf : ∀ s, c.2.1.filter (fitB s e v) = [] := fun s => by
      rw [List.filter_eq_nil_iff]
      intro t ht
      unfold fitB
      have := h t ht
      simp [this]
    unfold tk
    split
    · rfl
    · split
      · rfl
      · rw [hf, List.length_nil]
        simp only [if_true]
        exact yFb c e v h k _
theorem y6n : ∀ (l : List Sta) (k : Int) (j : Nat) (s : Sta), l[j]? = some s → s.2.2.1 = -1 → k + j ∈ y0V k l
  | [], k, j, s, h, _ => by simp at h
  | x :: l, k, 0, s, h, hs => by
    simp only [List.getElem?_cons_zero, Option.some.injEq] at h
    subst h
    unfold y0V
    simp [hs]
  | x :: l, k, j + 1, s, h, hs => by
    have := y6n l (k + 1) j s (by simpa using h) hs
    unfold y0V
    rw [show k + ((j + 1 : Nat) : Int) = k + 1 + (j : Int) by omega]
    split
    · exact List.mem_cons_of_mem _ this
    · exact this
def yK5 (c : Cha) : Prop := ∀ leaf, IsLf c leaf → ∀ (e : List UInt8) (v : Int), 0 ≤ v → v ≤ 15 → (stp c leaf e v).2 = 0
theorem yI1 {c : Cha} (h : y8q (y31 c true) (evts c.2.1) (y0V 0 c.1) = []) : yK5 c := by
  intro leaf ⟨l0, l1, st, l2, l3⟩ e v h0 h1
  unfold stp
  by_cases he : ∃ t ∈ c.2.1, t.2.1 = e
  · have hm : e ∈ evts c.2.1 := yCr c.2.1 [] e (.inr he)
    have hl : leaf ∈ y0V 0 c.1 := by
      have := y6n c.1 0 leaf.toNat st l2 l3
      rwa [show (0 : Int) + (leaf.toNat : Int) = leaf by omega] at this
    have hp := yA7 _ _ _ h leaf hl e hm v h0 h1
    unfold y31 at hp
    match hq : y3f c leaf e v with
    | [] => rfl
    | [_] => rfl
    | _ :: _ :: _ => rw [hq] at hp; cases hp
  · have : y3f c leaf e v = [] := yFb c e v (fun t ht h => he ⟨t, ht, h⟩) 17 leaf
    rw [this]
def trc (c : Cha) (d : Int → Inp → Inp × Bool) : List Inp → Int → Int → List Int
  | [], _, _ => []
  | x :: l, i, leaf => (if (d i x).2 = true then (stp c leaf (d i x).1.1 (d i x).1.2.1).1 else leaf) :: trc c d l (i + 1) (if (d i x).2 = true then (stp c leaf (d i x).1.1 (d i x).1.2.1).1 else leaf)
theorem y8M (c : Cha) (d : Int → Inp → Inp × Bool) : ∀ (l : List Inp) (i leaf : Int), (trc c d l i leaf).length = l.length
  | [], _, _ => rfl
  | x :: l, i, leaf => by unfold trc; rw [List.length_cons, List.length_cons, y8M c d l]
theorem y72 {c : Cha} (hc : Valid c) (hcl : yK5 c) (d : Int → Inp → Inp × Bool) : ∀ (l : List Inp) (i leaf : Int) (out : List Int), IsLf c leaf → (∀ j x, x ∈ l → 0 ≤ (d j x).1.2.1 ∧ (d j x).1.2.1 ≤ 15) →
    y7H c d l i leaf out = (out ++ trc c d l i leaf, 0)
  | [], i, leaf, out, _, _ => by rw [show trc c d [] i leaf = [] from rfl, List.append_nil]; rfl
  | x :: l, i, leaf, out, hl, hd => by
    unfold y7H trc
    by_cases h1 : (d i x).2 = true
    · have hx := hd i x (by simp)
      have h2 := hcl leaf hl (d i x).1.1 (d i x).1.2.1 hx.1 hx.2
      rw [if_pos h1, if_pos h2, if_pos h1, y72 hc hcl d l (i + 1) _ _ (yNK hc hl h2) (fun j y hy => hd j y (by simp [hy]))]
      simp
    · rw [if_neg h1, if_neg h1, y72 hc hcl d l (i + 1) _ _ hl (fun j y hy => hd j y (by simp [hy]))]
      simp
abbrev rnl (c : Cha) (l : List Inp) (leaf : Int) : List Int := trc c yA4 l 0 leaf
theorem yCu (c : Cha) : ∀ (k : Nat) (l : List Inp) (i leaf : Int), trc c yA4 (l.take k) i leaf = (trc c yA4 l i leaf).take k
  | 0, l, i, leaf => by simp [trc]
  | k + 1, [], i, leaf => rfl
  | k + 1, x :: l, i, leaf => by
    rw [List.take_succ_cons]
    unfold trc
    rw [List.take_succ_cons, yCu c k]
end Go.Tw
