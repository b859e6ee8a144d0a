import Derived.Test.YtclcodeedopemaaGreatP16
import Derived.Test.YtclcodeedopemaaGreatP22
set_option linter.all false
set_option maxRecDepth 100000
namespace Go.Tw
open Go.Vx Go.Vx.B Go.Proofs
theorem yEH (n lo hi : Int) : z00 n lo hi = (ckR n lo hi, ()) := by
  unfold z00 z0H ckR
  by_cases h1 : n < lo
  · simp [h1]
  · by_cases h2 : hi < n
    · simp [h2]
    · simp [h1, h2]
theorem yGI (l : List Int) (h : l.length < lenMax) : yA1 l = some (y0x l, ()) := by
  unfold yA1 y0x
  rw [bifT (y6 h)]
  rw [y26 (fun e => if e != 0 then some (e, ()) else none) l 0 (fun i e _ => by unfold yCm; cases e != 0 <;> rfl)]
  rw [y4x]
  cases l.find? (· != 0) <;> rfl
theorem y6z (key n1 t : Int) (n : Nat) : ∀ (m k : Nat) (c : List Int), c.length = n → k + m = n → (∀ j : Nat, j < k → c[j]? = some (j : Int)) →
    y0D (fun i__ s__ => y6Q key n1 t i__ s__) (fun s__ => y7d key n1 t s__) m (k : Int) c = y7d key n1 t ((List.range n).map fun (j : Nat) => (j : Int))
  | 0, k, c, hc, hk, h => by
    have : c = (List.range n).map fun (j : Nat) => (j : Int) := by
      apply List.ext_getElem?
      intro j
      by_cases hj : j < n
      · rw [h j (by omega)]; simp [hj]
      · rw [List.getElem?_eq_none (by omega), List.getElem?_eq_none (by simp; omega)]
    rw [← this]; rfl
  | m + 1, k, c, hc, hk, h => by
    have hv : c[k]? = some c[k] := List.getElem?_eq_getElem (by omega)
    have hb : y6Q key n1 t (k : Int) c = some (.inr (c.set k (k : Int))) := by
      unfold y6Q
      rw [y1l, hv]
      simp only [Option.bind_some, Int.toNat_natCast]
      rw [hv]; rfl
    show (y6Q key n1 t (k : Int) c).bind _ = _
    rw [hb]
    simp only [Option.bind_some]
    refine y6z key n1 t n m (k + 1) (c.set k (k : Int)) (by simp [hc]) (by omega) fun j hj => ?_
    rw [List.getElem?_set]
    by_cases e : k = j
    · subst e; rw [if_pos rfl, if_pos (by omega)]
    · rw [if_neg e]; exact h j (by omega)
theorem yET (x : Int) (k : Nat) (c : List Int) (hx : 0 ≤ x) (hx2 : x ≤ 2147483646) (hk : k + 1 < c.length) (hc : c.length ≤ 1000) :
    ∃ y c', y5G x ((k + 1 : Nat) : Int) c = some (.inr (y, (k : Int), c')) ∧ 0 ≤ y ∧ y ≤ 2147483646 ∧ c'.Perm c := by
  have hw : IntKind.i64.wrap ((742938285 : Int) * x) = 742938285 * x := y2e (by omega) (by omega)
  have hi : IntKind.i64.wrap (((k + 1 : Nat) : Int) + 1) = (k : Int) + 2 := by rw [y2e (by omega) (by omega)]; omega
  have hd : IntKind.i64.wrap (((k + 1 : Nat) : Int) - 1) = (k : Int) := by rw [y2e (by omega) (by omega)]; omega
  unfold y5G
  rw [hw, hi, hd]
  have hy0 : 0 ≤ (742938285 * x).tmod 2147483647 := Int.tmod_nonneg _ (by omega)
  have hy1 : (742938285 * x).tmod 2147483647 < 2147483647 := Int.tmod_lt_of_pos _ (by omega)
  generalize (742938285 * x).tmod 2147483647 = y at hy0 hy1 ⊢
  have hj0 : 0 ≤ y.tmod ((k : Int) + 2) := Int.tmod_nonneg _ hy0
  have hj1 : y.tmod ((k : Int) + 2) < (k : Int) + 2 := Int.tmod_lt_of_pos _ (by omega)
  generalize y.tmod ((k : Int) + 2) = j at hj0 hj1 ⊢
  obtain ⟨j, rfl⟩ := Int.eq_ofNat_of_zero_le hj0
  have h1 : c[k + 1]? = some c[k + 1] := List.getElem?_eq_getElem hk
  have hjl : j < c.length := by omega
  have h2 : c[j]? = some c[j] := List.getElem?_eq_getElem hjl
  have h3 : (c.set (k + 1) c[j])[j]? = some ((c.set (k + 1) c[j])[j]'(by simpa using hjl)) := List.getElem?_eq_getElem (by simpa using hjl)
  refine ⟨y, (c.set (k + 1) c[j]).set j c[k + 1], ?_, hy0, by omega, List.set_set_perm hk hjl⟩
  rw [bifT (y6 (show ((k + 1 : Nat) : Int) > 0 by omega)), bifF (show ((k : Int) + 2 == 0) = false by simp; omega)]
  simp only [y1l, Int.toNat_natCast, h1, h2, Option.bind_some, h3]
theorem y5P : ∀ (k m : Nat) (x : Int) (c : List Int), 0 ≤ x → x ≤ 2147483646 → k < c.length ∨ k = 0 → c.length ≤ 1000 → k < m →
    ∃ p, y0k (fun s__ => y5G s__.1 s__.2.1 s__.2.2) m (x, (k : Int), c) = some (p, 0, ()) ∧ p.Perm c
  | 0, m, x, c, _, _, _, _, hm => by
    cases m with
    | zero => omega
    | succ m =>
      refine ⟨c, ?_, List.Perm.refl _⟩
      simp only [y0k]
      unfold y5G
      rw [bifF (yF (show ¬ (((0 : Nat) : Int) > 0) by omega))]
      rfl
  | k + 1, m, x, c, hx, hx2, hk, hc, hm => by
    cases m with
    | zero => omega
    | succ m =>
      obtain ⟨y, c', hb, hy, hy2, hp⟩ := yET x k c hx hx2 (by omega) hc
      obtain ⟨p, h1, h2⟩ := y5P k m y c' hy hy2 (by have := hp.length_eq; omega) (by rw [hp.length_eq]; exact hc) (by omega)
      refine ⟨p, ?_, h2.trans hp⟩
      simp only [y0k, hb, Option.bind_some]
      exact h1
theorem yHp (key : Int) (n : Nat) (hk : 1 ≤ key) (hk2 : key ≤ 2147483646) (hn : n ≤ 256) :
    ∃ p, y8y key (n : Int) = some (p, 0, ()) ∧ p.Perm ((List.range n).map fun (j : Nat) => (j : Int)) := by
  have hmem : memMax = 68719476736 := rfl
  unfold y8y
  simp only [yEH]
  rw [yGI _ (by simp [lenMax]), Option.bind_some]
  have hz : y0x [ckR key 1 2147483646, ckR (n : Int) 0 256] = 0 := by
    have h1 : ckR key 1 2147483646 = 0 := by unfold ckR; rw [if_neg (by omega)]
    have h2 : ckR (n : Int) 0 256 = 0 := by unfold ckR; rw [if_neg (by omega)]
    rw [h1, h2]; rfl
  rw [hz, bifF (show ((0 : Int) != 0) = false from rfl), bifT (by simp [hmem]; omega)]
  rw [List.length_replicate, Int.toNat_natCast, bifT (y6 (show (n : Int) ≤ 9223372036854775807 by omega))]
  have e : ((n : Int) - 0).toNat = n := by omega
  rw [e]
  have := y6z key (n : Int) (n : Int) n n 0 (List.replicate n 0) (by simp) (by omega) (fun j hj => by omega)
  rw [show ((0 : Nat) : Int) = 0 from rfl] at this
  rw [this]
  unfold y7d
  generalize hc : ((List.range n).map fun (j : Nat) => (j : Int)) = c
  have hcl : c.length = n := by rw [← hc]; simp
  cases n with
  | zero =>
    refine ⟨c, ?_, List.Perm.refl _⟩
    obtain ⟨m, hm⟩ : ∃ m, wMax = m + 1 := ⟨999999, rfl⟩
    rw [hm]
    simp only [y0k]
    unfold y5G
    rw [show IntKind.i64.wrap (((0 : Nat) : Int) - 1) = -1 by decide, bifF (yF (show ¬ ((-1 : Int) > 0) by omega))]
    rfl
  | succ n =>
    have hw : IntKind.i64.wrap (((n + 1 : Nat) : Int) - 1) = (n : Int) := by rw [y2e (by omega) (by omega)]; omega
    rw [hw]
    exact y5P n wMax key c (by omega) hk2 (.inl (by omega)) (by omega) (by unfold wMax; omega)
theorem y7j (l : List Cmd) (hl : l.length ≤ 1000) (m' : List (Int × List UInt8)) (hm : ∀ n, evG m' n = ev l n) : ∀ (r k : Nat), (∀ j : Nat, j < k → (ev l ((j : Int) + 1)).isSome = true) → l.length + 2 ≤ k + r →
    ∃ n : Nat, Aw l n ∧ y0k (fun s__ => yEV m' s__.1 s__.2.1 s__.2.2.1 s__.2.2.2) r ((k : Int) + 1, (ev l ((k : Int) + 1)).getD [], (ev l ((k : Int) + 1)).isSome, evs l k) = some (evs l n, (n : Int) + 1, 0, ())
  | 0, k, h, hr => by
    have := yJW l k h
    omega
  | r + 1, k, h, hr => by
    have hk := yJW l k h
    have hmem : memMax = 68719476736 := rfl
    have hwr : IntKind.i64.wrap ((k : Int) + 1 + 1) = (k : Int) + 1 + 1 := y2e (by omega) (by omega)
    have hg : yEV m' ((k : Int) + 1) ((ev l ((k : Int) + 1)).getD []) ((ev l ((k : Int) + 1)).isSome) (evs l k) = match ev l ((k : Int) + 1) with
        | some e => some (.inr ((k : Int) + 1 + 1, (ev l ((k : Int) + 1 + 1)).getD [], (ev l ((k : Int) + 1 + 1)).isSome, evs l k ++ [e]))
        | none => some (.inl (evs l k, (k : Int) + 1, 0, ())) := by
      have hel := y7l l k
      have hmk := hm ((k : Int) + 1 + 1)
      unfold evG at hmk
      unfold yEV
      rw [hwr, hmk]
      cases ev l ((k : Int) + 1) with
      | none => rfl
      | some e =>
        simp only [Option.isSome_some, cond_true, Option.getD_some]
        rw [bifT (y6 (show (evs l k).length + 1 ≤ memMax by omega))]
    simp only [y0k, hg]
    cases he : ev l ((k : Int) + 1) with
    | none => exact ⟨k, ⟨hk, h, he⟩, rfl⟩
    | some e =>
      simp only [Option.bind_some]
      have ih := y7j l hl m' hm r (k + 1) (fun j hj => by
        by_cases hjk : j = k
        · subst hjk; rw [he]; rfl
        · exact h j (by omega)) (by omega)
      have ec : ((k + 1 : Nat) : Int) = (k : Int) + 1 := by omega
      rw [yI7, he, Option.getD_some, ec] at ih
      exact ih
theorem yIt (l : List Cmd) (hs : ∀ c ∈ l, c.2.2.1.length < lenMax) (h0 : y2m l = 0) : ∃ n, Aw l n ∧ zt_M l = some (evs l n, (n : Int) + 1, 0, ()) := by
  rcases yAa l hs with ⟨h1, hk⟩ | ⟨h1, hl, m', hm, hk⟩
  · exact absurd h0 h1
  · obtain ⟨n, h1, h3⟩ := y7j l (by omega) m' hm wMax 0 (fun j hj => by omega) (by unfold wMax; omega)
    rw [show ((0 : Nat) : Int) + 1 = 1 by rfl, show evs l 0 = [] from rfl] at h3
    refine ⟨n, h1, ?_⟩
    unfold zt_M
    have hm1 := hm 1
    unfold evG at hm1
    rw [hk, Option.bind_some, bifF (show ((m', (0 : Int), ()).2.1 != 0) = false from rfl), hm1]
    exact h3
theorem yDe : ze_M = some (true, ()) := by kernel_rfl
end Go.Tw
