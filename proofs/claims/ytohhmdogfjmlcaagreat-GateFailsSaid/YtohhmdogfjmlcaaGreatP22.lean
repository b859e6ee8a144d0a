import Derived.Test.YtohhmdogfjmlcaaGreatP21
import Derived.Test.YtohhmdogfjmlcaaGreatPZ
set_option linter.all false
set_option maxRecDepth 100000
namespace Go.Tw
open Go.Vx Go.Vx.B Go.Proofs
theorem yBM (p : Int → List UInt8 → Int → Bool) (leaf : Int) (e : List UInt8) : ∀ (m : Nat) (v : Int), y7k p leaf e m v = [] → ∀ w, v ≤ w → w < v + m → p leaf e w = false
  | 0, v, _, w, h0, h1 => by omega
  | m + 1, v, h, w, h0, h1 => by
    unfold y7k at h
    obtain ⟨h2, h3⟩ := List.append_eq_nil_iff.1 h
    by_cases hv : w = v
    · subst hv
      cases hp : p leaf e w with
      | false => rfl
      | true => rw [hp] at h2; cases h2
    · exact yBM p leaf e m (v + 1) h3 w (by omega) (by omega)
theorem yBb (p : Int → List UInt8 → Int → Bool) (leaf : Int) : ∀ (ev : List (List UInt8)), y7v p leaf ev = [] → ∀ e ∈ ev, ∀ w, 0 ≤ w → w ≤ 15 → p leaf e w = false
  | [], _, e, he, _, _, _ => by cases he
  | x :: ev, h, e, he, w, h0, h1 => by
    unfold y7v at h
    obtain ⟨h2, h3⟩ := List.append_eq_nil_iff.1 h
    rcases List.mem_cons.1 he with rfl | he
    · exact yBM p leaf e 16 0 h2 w h0 (by omega)
    · exact yBb p leaf ev h3 e he w h0 h1
theorem yAU (p : Int → List UInt8 → Int → Bool) (ev : List (List UInt8)) : ∀ (ls : List Int), y9Z p ev ls = [] → ∀ leaf ∈ ls, ∀ e ∈ ev, ∀ w, 0 ≤ w → w ≤ 15 → p leaf e w = false
  | [], _, l, hl, _, _, _, _, _ => by cases hl
  | x :: ls, h, l, hl, e, he, w, h0, h1 => by
    unfold y9Z at h
    obtain ⟨h2, h3⟩ := List.append_eq_nil_iff.1 h
    rcases List.mem_cons.1 hl with rfl | hl
    · exact yBb p l ev h2 e he w h0 h1
    · exact yAU p ev ls h3 l hl e he w h0 h1
theorem yDI : ∀ (l : List Tra) (s : List (List UInt8)) (e : List UInt8), (e ∈ s ∨ ∃ t ∈ l, t.2.1 = e) → e ∈ l.foldl evF s
  | [], s, e, h => by
    rcases h with h | ⟨t, ht, _⟩
    · exact h
    · cases ht
  | t :: l, s, e, h => by
    rw [List.foldl_cons]
    refine yDI l _ e ?_
    unfold evF
    rcases h with h | ⟨u, hu, he⟩
    · left
      cases s.contains t.2.1 with
      | true => exact h
      | false => exact List.mem_append.2 (.inl h)
    · rcases List.mem_cons.1 hu with rfl | hu
      · left
        cases hc : s.contains u.2.1 with
        | true => rw [← he]; simpa using hc
        | false => rw [← he]; exact List.mem_append.2 (.inr (by simp))
      · exact .inr ⟨u, hu, he⟩
theorem yIC (c : Cha) (e : List UInt8) (v : Int) (h : ∀ t ∈ c.2.1, t.2.1 ≠ e) : ∀ (k : Nat) (s : Int), tk c e v k s = []
  | 0, s => rfl
  | k + 1, s => by
    have hf : ∀ s, c.2.1.filter (fitB s e v) = [] := fun s => by
      rw [List.filter_eq_nil_iff]
      intro t ht
      unfold fitB
      have := h t ht
      simp [this]
    unfold tk
    split
    · rfl
    · split
      · rfl
      · rw [hf, List.length_nil]
        simp only [if_true]
        exact yIC c e v h k _
theorem y6q : ∀ (l : List Sta) (k : Int) (j : Nat) (s : Sta), l[j]? = some s → s.2.2.1 = -1 → k + j ∈ y0e k l
  | [], k, j, s, h, _ => by simp at h
  | x :: l, k, 0, s, h, hs => by
    simp only [List.getElem?_cons_zero, Option.some.injEq] at h
    subst h
    unfold y0e
    simp [hs]
  | x :: l, k, j + 1, s, h, hs => by
    have := y6q l (k + 1) j s (by simpa using h) hs
    unfold y0e
    rw [show k + ((j + 1 : Nat) : Int) = k + 1 + (j : Int) by omega]
    split
    · exact List.mem_cons_of_mem _ this
    · exact this
def yMS (c : Cha) : Prop := ∀ leaf, IsLf c leaf → ∀ (e : List UInt8) (v : Int), 0 ≤ v → v ≤ 15 → (stp c leaf e v).2 = 0
theorem yJx {c : Cha} (h : y9Z (y2z c true) (evts c.2.1) (y0e 0 c.1) = []) : yMS c := by
  intro leaf ⟨l0, l1, st, l2, l3⟩ e v h0 h1
  unfold stp
  by_cases he : ∃ t ∈ c.2.1, t.2.1 = e
  · have hm : e ∈ evts c.2.1 := yDI c.2.1 [] e (.inr he)
    have hl : leaf ∈ y0e 0 c.1 := by
      have := y6q c.1 0 leaf.toNat st l2 l3
      rwa [show (0 : Int) + (leaf.toNat : Int) = leaf by omega] at this
    have hp := yAU _ _ _ h leaf hl e hm v h0 h1
    unfold y2z at hp
    match hq : y3y c leaf e v with
    | [] => rfl
    | [_] => rfl
    | _ :: _ :: _ => rw [hq] at hp; cases hp
  · have : y3y c leaf e v = [] := yIC c e v (fun t ht h => he ⟨t, ht, h⟩) 17 leaf
    rw [this]
def trc (c : Cha) (d : Int → Inp → Inp × Bool) : List Inp → Int → Int → List Int
  | [], _, _ => []
  | x :: l, i, leaf => (if (d i x).2 = true then (stp c leaf (d i x).1.1 (d i x).1.2.1).1 else leaf) :: trc c d l (i + 1) (if (d i x).2 = true then (stp c leaf (d i x).1.1 (d i x).1.2.1).1 else leaf)
theorem y07 (c : Cha) (d : Int → Inp → Inp × Bool) : ∀ (l : List Inp) (i leaf : Int), (trc c d l i leaf).length = l.length
  | [], _, _ => rfl
  | x :: l, i, leaf => by unfold trc; rw [List.length_cons, List.length_cons, y07 c d l]
theorem y54 {c : Cha} (hc : Valid c) (hcl : yMS c) (d : Int → Inp → Inp × Bool) : ∀ (l : List Inp) (i leaf : Int) (out : List Int), IsLf c leaf → (∀ j x, x ∈ l → 0 ≤ (d j x).1.2.1 ∧ (d j x).1.2.1 ≤ 15) →
    y3w c d l i leaf out = (out ++ trc c d l i leaf, 0)
  | [], i, leaf, out, _, _ => by rw [show trc c d [] i leaf = [] from rfl, List.append_nil]; rfl
  | x :: l, i, leaf, out, hl, hd => by
    unfold y3w trc
    by_cases h1 : (d i x).2 = true
    · have hx := hd i x (by simp)
      have h2 := hcl leaf hl (d i x).1.1 (d i x).1.2.1 hx.1 hx.2
      rw [if_pos h1, if_pos h2, if_pos h1, y54 hc hcl d l (i + 1) _ _ (yUI hc hl h2) (fun j y hy => hd j y (by simp [hy]))]
      simp
    · rw [if_neg h1, if_neg h1, y54 hc hcl d l (i + 1) _ _ hl (fun j y hy => hd j y (by simp [hy]))]
      simp
theorem y9I {c : Cha} {d d' : Int → Inp → Inp × Bool} : ∀ (k : Nat) (l : List Inp) (i leaf : Int), (∀ (j : Nat) x, j < k → l[j]? = some x → d (i + j) x = d' (i + j) x) → (trc c d l i leaf).take k = (trc c d' l i leaf).take k
  | 0, l, i, leaf, _ => by simp
  | k + 1, [], i, leaf, _ => rfl
  | k + 1, x :: l, i, leaf, h => by
    have h0 := h 0 x (by omega) rfl
    rw [show i + ((0 : Nat) : Int) = i by omega] at h0
    unfold trc
    rw [h0, List.take_succ_cons, List.take_succ_cons]
    congr 1
    refine y9I k l (i + 1) _ fun j y hj hy => ?_
    have := h (j + 1) y (by omega) (by simpa using hy)
    rwa [show i + ((j + 1 : Nat) : Int) = i + 1 + (j : Int) by omega] at this
theorem y9K {c : Cha} {d d' : Int → Inp → Inp × Bool} (l : List Inp) (i leaf : Int) (h : ∀ (j : Nat) x, l[j]? = some x → d (i + j) x = d' (i + j) x) : trc c d l i leaf = trc c d' l i leaf := by
  have := y9I (c := c) l.length l i leaf (fun j x _ hx => h j x hx)
  rwa [List.take_of_length_le (by rw [y07]; exact Nat.le_refl _), List.take_of_length_le (by rw [y07]; exact Nat.le_refl _)] at this
abbrev rnl (c : Cha) (l : List Inp) (leaf : Int) : List Int := trc c y3R l 0 leaf
theorem yER (c : Cha) : ∀ (l : List Inp) (i j leaf : Int), trc c y3R l i leaf = trc c y3R l j leaf
  | [], _, _, _ => rfl
  | x :: l, i, j, leaf => by
    unfold trc
    show _ :: _ = _ :: _
    rw [yER c l (i + 1) (j + 1)]
    rfl
theorem yEM (c : Cha) : ∀ (k : Nat) (l : List Inp) (i leaf : Int), trc c y3R (l.take k) i leaf = (trc c y3R l i leaf).take k
  | 0, l, i, leaf => by simp [trc]
  | k + 1, [], i, leaf => rfl
  | k + 1, x :: l, i, leaf => by
    rw [List.take_succ_cons]
    unfold trc
    rw [List.take_succ_cons, yEM c k]
theorem yD2 (c : Cha) (d : Int → Inp → Inp × Bool) : ∀ (k : Nat) (l : List Inp) (i leaf : Int), k < l.length → (∀ (j : Int) x, j ≠ i + k → d j x = (x, true)) → (∀ x, (d (i + k) x).2 = false) →
    (trc c d l i leaf).take k ++ (trc c d l i leaf).drop (k + 1) = trc c y3R (l.take k ++ l.drop (k + 1)) i leaf
  | k, [], i, leaf, hk, _, _ => by simp at hk
  | 0, x :: l, i, leaf, _, h1, h2 => by
    have h0 := h2 x
    rw [show i + ((0 : Nat) : Int) = i by omega] at h0
    have e1 : trc c d (x :: l) i leaf = leaf :: trc c d l (i + 1) leaf := by
      conv => lhs; unfold trc
      rw [h0]
      simp
    rw [e1]
    simp only [List.take_zero, List.nil_append, List.drop_succ_cons, List.drop_zero]
    rw [yER c l i (i + 1)]
    refine y9K l (i + 1) leaf fun j y _ => ?_
    rw [h1 _ y (by omega)]
    rfl
  | k + 1, x :: l, i, leaf, hk, h1, h2 => by
    have h0 := h1 i x (by omega)
    have ih := yD2 c d k l (i + 1) (stp c leaf x.1 x.2.1).1 (by simpa using hk) (fun j y hj => h1 j y (by omega)) (fun y => by
      have := h2 y
      rwa [show i + ((k + 1 : Nat) : Int) = i + 1 + (k : Int) by omega] at this)
    rw [List.take_succ_cons, List.drop_succ_cons, List.cons_append]
    unfold trc
    rw [h0]
    simp only [if_true, List.take_succ_cons, List.drop_succ_cons, List.cons_append]
    rw [ih]
    rfl
theorem yMZ {f : Fai} (h : f.1 = noneW) (i : Int) (x : Inp) : dF f i x = y3R i x := by
  unfold dF y3R
  rw [if_neg (by rw [h]; decide), if_neg (by rw [h]; decide)]
theorem yBS {f : Fai} {i : Int} (h : i < f.2.1) (x : Inp) : dF f i x = y3R i x := by
  unfold dF y3R
  split
  · rw [show (i != f.2.1) = true by simp; omega]
  · split
    · rw [if_neg (by omega)]
    · rfl
theorem yNJ {f : Fai} (h : f.1 = lostW) : (∀ (j : Int) x, j ≠ f.2.1 → dF f j x = (x, true)) ∧ ∀ x, (dF f f.2.1 x).2 = false := by
  refine ⟨fun j x hj => ?_, fun x => ?_⟩
  · unfold dF
    rw [if_pos h, show (j != f.2.1) = true by simpa using hj]
  · unfold dF
    rw [if_pos h]
    simp
def bitB (v b w : Int) : Bool := yl .i64 .and (v.fdiv (2 ^ min b.toNat IntKind.i64.bits)) 1 == w
theorem yGx : ∀ (v : Fin 16) (b : Fin 4) (w : Fin 2), bitB v.val b.val w.val = true → setB v.val b.val w.val = v.val := by
  unfold bitB setB
  decide +kernel
theorem yJc {f : Fai} (h : f.1 = stuckW) (hb : 0 ≤ f.2.2.1 ∧ f.2.2.1 ≤ 3) (hw : 0 ≤ f.2.2.2.1 ∧ f.2.2.2.1 ≤ 1) {i : Int} {x : Inp} (hx : 0 ≤ x.2.1 ∧ x.2.1 ≤ 15) (hs : bitB x.2.1 f.2.2.1 f.2.2.2.1 = true) : dF f i x = y3R i x := by
  have := yGx ⟨x.2.1.toNat, by omega⟩ ⟨f.2.2.1.toNat, by omega⟩ ⟨f.2.2.2.1.toNat, by omega⟩
  simp only [Int.toNat_of_nonneg hx.1, Int.toNat_of_nonneg hb.1, Int.toNat_of_nonneg hw.1] at this
  unfold dF y3R
  rw [if_neg (by rw [h]; decide), if_pos h]
  split
  · rw [this hs]
  · rfl
theorem yEU (c : Cha) (l : List Inp) (g : Goa) : ∀ (fs out : List Fai), (∀ f ∈ fs, (srv c l g f).2 = 0) → wk c l g fs out = (out ++ fs.filter (fun f => !(srv c l g f).1), 0)
  | [], out, _ => by rw [List.filter_nil, List.append_nil]; rfl
  | f :: r, out, h => by
    unfold wk
    rw [if_pos (h f (by simp)), yEU c l g r _ (fun f hf => h f (by simp [hf])), List.filter_cons]
    cases (srv c l g f).1 <;> simp
end Go.Tw
