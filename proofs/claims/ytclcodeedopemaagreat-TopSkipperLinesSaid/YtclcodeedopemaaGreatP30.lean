import Derived.Test.YtclcodeedopemaaGreatPS
import Derived.Test.YtclcodeedopemaaGreatP17
import Derived.Test.YtclcodeedopemaaGreatP23
import Derived.Test.YtclcodeedopemaaGreatB13
set_option linter.all false
set_option maxRecDepth 100000
namespace Go.Tw
open Go.Vx Go.Vx.B Go.Proofs
theorem yEY (x : Int) : 0 ≤ yb .i64 .and x 3 ∧ yb .i64 .and x 3 ≤ 3 := by
  unfold yb
  have h : (BitVec.ofInt IntKind.i64.bits x &&& BitVec.ofInt IntKind.i64.bits 3).toNat ≤ 3 := by
    rw [BitVec.toNat_and]
    exact Nat.le_trans Nat.and_le_right (by decide)
  simp only
  generalize (BitVec.ofInt IntKind.i64.bits x &&& BitVec.ofInt IntKind.i64.bits 3).toNat = m at h
  rw [y2e (by omega) (by omega)]
  omega
def bits (v : Int) (k : Nat) : Int := yb .i64 .and (v.fdiv (2 ^ min (2 * (k : Int)).toNat IntKind.i64.bits)) 3
def off (b line : Int) : Bool := yb .i64 .and (b.fdiv (2 ^ min line.toNat IntKind.i64.bits)) 1 == 0
theorem yGq : ∀ b : Fin 4, ((b.val : Int) == 3) = (!off (b.val : Int) 0 && !off (b.val : Int) 1) := by
  unfold off
  decide +kernel
theorem y8H (v : Int) (k : Nat) : (bits v k == 3) = (!off (bits v k) 0 && !off (bits v k) 1) := by
  obtain ⟨h0, h1⟩ := yEY (v.fdiv (2 ^ min (2 * (k : Int)).toNat IntKind.i64.bits))
  have := yGq ⟨(bits v k).toNat, by unfold bits; omega⟩
  rwa [show (((⟨(bits v k).toNat, by unfold bits; omega⟩ : Fin 4).val : Nat) : Int) = bits v k by unfold bits; simp only; omega] at this
def y9Y (v : Int) (k : Nat) (x : Inp) : List Cmd :=
  (if off (bits v k) 0 = true then [((k : Int) + 1, 0, x.1, ()), ((k : Int) + 1, 0, x.1, ())] else []) ++ (if off (bits v k) 1 = true then [((k : Int) + 1, 1, x.1, ()), ((k : Int) + 1, 1, x.1, ())] else [])
def y2W (v : Int) : Nat → List Inp → List Cmd
  | _, [] => []
  | k, x :: r => y9Y v k x ++ y2W v (k + 1) r
def y8f (v : Int) : Nat → List Inp → List Int
  | _, [] => []
  | k, _ :: r => (if bits v k = 3 then [(k : Int) + 1] else []) ++ y8f v (k + 1) r
def lead (v : Int) : Nat → List Inp → Nat
  | _, [] => 0
  | k, _ :: r => if bits v k = 3 then 0 else 1 + lead v (k + 1) r
def y74 (v : Int) : Nat → List Inp → Int → Int
  | _, [], f => f
  | k, _ :: r, f => y74 v (k + 1) r (if bits v k = 3 then (if (k : Int) < f then (k : Int) else f) else f)
theorem yAe (v : Int) : ∀ (r : List Inp) (k : Nat) (f : Int), f ≤ k → y74 v k r f = f
  | [], _, _, _ => rfl
  | x :: r, k, f, h => by
    unfold y74
    rw [if_neg (show ¬ (k : Int) < f by omega), ite_self]
    exact yAe v r (k + 1) f (by omega)
theorem y68 (v : Int) : ∀ (r : List Inp) (k : Nat), y74 v k r ((k + r.length : Nat) : Int) = ((k + lead v k r : Nat) : Int)
  | [], k => rfl
  | x :: r, k => by
    unfold y74 lead
    by_cases h : bits v k = 3
    · rw [if_pos h, if_pos h, if_pos (by simp only [List.length_cons]; omega), yAe v r (k + 1) _ (by omega)]
      rfl
    · rw [if_neg h, if_neg h, show k + (x :: r).length = k + 1 + r.length by simp only [List.length_cons]; omega, y68 v r (k + 1)]
      congr 1
      omega
theorem y5R (v : Int) (k : Nat) (x : Inp) : (y9Y v k x).length ≤ 4 := by
  unfold y9Y
  rw [List.length_append]
  split <;> split <;> simp
theorem y36 (v : Int) : ∀ (r : List Inp) (k : Nat), (y2W v k r).length ≤ 4 * r.length
  | [], k => by simp [y2W]
  | x :: r, k => by
    have h1 := y5R v k x
    have h2 := y36 v r (k + 1)
    unfold y2W
    rw [List.length_append, List.length_cons]
    omega
theorem y5U (v : Int) : ∀ (r : List Inp) (k : Nat), (y8f v k r).length ≤ r.length
  | [], k => by simp [y8f]
  | x :: r, k => by
    have h2 := y5U v r (k + 1)
    unfold y8f
    rw [List.length_append, List.length_cons]
    split <;> simp <;> omega
theorem yGy {v : Int} {k : Nat} {x : Inp} {y : Cmd} (h : y ∈ y9Y v k x) : y.1 = (k : Int) + 1 ∧ y.2.2.1 = x.1 ∧ (y.2.1 = 0 ∨ y.2.1 = 1) ∧ bits v k ≠ 3 := by
  have h3 := y8H v k
  unfold y9Y at h
  rcases List.mem_append.1 h with h | h
  · split at h
    · rename_i ho
      have hb : bits v k ≠ 3 := fun e => by rw [ho] at h3; simp [e] at h3
      simp only [List.mem_cons, List.not_mem_nil, or_false, or_self] at h
      subst h
      exact ⟨rfl, rfl, .inl rfl, hb⟩
    · cases h
  · split at h
    · rename_i ho
      have hb : bits v k ≠ 3 := fun e => by rw [ho] at h3; simp [e] at h3
      simp only [List.mem_cons, List.not_mem_nil, or_false, or_self] at h
      subst h
      exact ⟨rfl, rfl, .inr rfl, hb⟩
    · cases h
theorem yDv {v : Int} {k : Nat} {x : Inp} (h : bits v k ≠ 3) : ∃ y ∈ y9Y v k x, y.1 = (k : Int) + 1 ∧ y.2.2.1 = x.1 := by
  have h3 := y8H v k
  rw [show (bits v k == 3) = false by simpa using h] at h3
  unfold y9Y
  cases h0 : off (bits v k) 0 with
  | true => exact ⟨((k : Int) + 1, 0, x.1, ()), by simp, rfl, rfl⟩
  | false =>
    cases h1 : off (bits v k) 1 with
    | true => exact ⟨((k : Int) + 1, 1, x.1, ()), by simp, rfl, rfl⟩
    | false => rw [h0, h1] at h3; cases h3
theorem y1U {v : Int} : ∀ {r : List Inp} {k : Nat} {y : Cmd}, y ∈ y2W v k r → ∃ (j : Nat) (x : Inp), r[j]? = some x ∧ y.1 = ((k + j : Nat) : Int) + 1 ∧ y.2.2.1 = x.1 ∧ (y.2.1 = 0 ∨ y.2.1 = 1) ∧ bits v (k + j) ≠ 3
  | [], _, _, h => by cases h
  | x :: r, k, y, h => by
    unfold y2W at h
    rcases List.mem_append.1 h with h | h
    · exact ⟨0, x, rfl, yGy h⟩
    · obtain ⟨j, z, h1, h2, h3, h4, h5⟩ := y1U h
      exact ⟨j + 1, z, by simpa using h1, by rw [h2]; congr 2; omega, h3, h4, by rwa [show k + (j + 1) = k + 1 + j by omega]⟩
theorem y7w {v : Int} : ∀ {r : List Inp} {k j : Nat} {x : Inp}, r[j]? = some x → bits v (k + j) ≠ 3 → ∃ y ∈ y2W v k r, y.1 = ((k + j : Nat) : Int) + 1 ∧ y.2.2.1 = x.1
  | [], _, _, _, h, _ => by simp at h
  | z :: r, k, 0, x, h, hb => by
    simp only [List.getElem?_cons_zero, Option.some.injEq] at h
    subst h
    obtain ⟨y, h1, h2⟩ := yDv (x := z) hb
    exact ⟨y, by unfold y2W; exact List.mem_append.2 (.inl h1), h2⟩
  | z :: r, k, j + 1, x, h, hb => by
    obtain ⟨y, h1, h2, h3⟩ := y7w (r := r) (k := k + 1) (j := j) (by simpa using h) (by rwa [show k + 1 + j = k + (j + 1) by omega])
    exact ⟨y, by unfold y2W; exact List.mem_append.2 (.inr h1), by rw [h2]; congr 2; omega, h3⟩
theorem y9L (v : Int) : ∀ (r : List Inp) (k : Nat), lead v k r ≤ r.length
  | [], _ => Nat.le_refl _
  | x :: r, k => by
    have := y9L v r (k + 1)
    unfold lead
    rw [List.length_cons]
    split <;> omega
theorem y40 (v : Int) : ∀ (r : List Inp) (k j : Nat), j < lead v k r → bits v (k + j) ≠ 3
  | [], _, _, h => by simp [lead] at h
  | x :: r, k, j, h => by
    unfold lead at h
    split at h
    · omega
    · rename_i hb
      cases j with
      | zero => exact hb
      | succ j =>
        have := y40 v r (k + 1) j (by omega)
        rwa [show k + 1 + j = k + (j + 1) by omega] at this
theorem yCh (v : Int) : ∀ (r : List Inp) (k : Nat), lead v k r < r.length → bits v (k + lead v k r) = 3
  | [], _, h => by simp at h
  | x :: r, k, h => by
    unfold lead at h ⊢
    by_cases hb : bits v k = 3
    · rw [if_pos hb]; exact hb
    · rw [if_neg hb] at h ⊢
      have := yCh v r (k + 1) (by simp only [List.length_cons] at h; omega)
      rwa [show k + (1 + lead v (k + 1) r) = k + 1 + lead v (k + 1) r by omega]
section
variable (v : Int) (l : List Inp) (hl : l.length ≤ 8) (hx : ∀ x ∈ l, inE x = 0) {came : List Cmd} (hp : came.Perm (y2W v 0 l))
include hl hx hp
theorem y85 : yDu came := by
  intro a ha b hb hab
  obtain ⟨j, x, h1, h2, h3, _⟩ := y1U (hp.mem_iff.1 ha)
  obtain ⟨i, y, g1, g2, g3, _⟩ := y1U (hp.mem_iff.1 hb)
  have e : j = i := by rw [h2, g2] at hab; omega
  subst e
  rw [h1] at g1
  cases g1
  rw [h3, g3]
theorem yJw : y2m came = 0 := by
  refine yC4.2 ⟨by have := y36 v l 0; rw [hp.length_eq]; omega, fun y hy => ?_, y85 v l hl hx hp⟩
  obtain ⟨j, x, h1, h2, h3, h4, _⟩ := y1U (hp.mem_iff.1 hy)
  have hj := (List.getElem?_eq_some_iff.1 h1).1
  have hn := hx x (List.mem_of_getElem? h1)
  refine yFD.2 ⟨?_, ?_, ?_⟩
  · unfold ckR; rw [if_neg (by rw [h2]; omega)]
  · unfold ckR; rcases h4 with h4 | h4 <;> rw [h4] <;> rfl
  · rw [h3]
    have := (yM.1 hn).1
    unfold nmE at this
    cases hh : isNm x.1 with
    | true => rfl
    | false => rw [hh] at this; cases this
theorem yBI (j : Nat) : ev came ((j : Int) + 1) = if bits v j = 3 then none else l[j]?.map (·.1) := by
  have ha := y85 v l hl hx hp
  by_cases hb : bits v j = 3
  · rw [if_pos hb]
    cases he : ev came ((j : Int) + 1) with
    | none => rfl
    | some e =>
      obtain ⟨y, h1, h2, _⟩ := (yBd ha _ e).1 he
      obtain ⟨i, x, g1, g2, _, _, g5⟩ := y1U (hp.mem_iff.1 h1)
      rw [g2] at h2
      have : 0 + i = j := by omega
      rw [this] at g5
      exact absurd hb g5
  · rw [if_neg hb]
    cases hq : l[j]? with
    | none =>
      cases he : ev came ((j : Int) + 1) with
      | none => rfl
      | some e =>
        obtain ⟨y, h1, h2, _⟩ := (yBd ha _ e).1 he
        obtain ⟨i, x, g1, g2, _⟩ := y1U (hp.mem_iff.1 h1)
        rw [g2] at h2
        have : i = j := by omega
        rw [this, hq] at g1
        cases g1
    | some x =>
      obtain ⟨y, h1, h2, h3⟩ := y7w (v := v) (k := 0) hq (by rwa [Nat.zero_add])
      rw [Nat.zero_add] at h2
      exact (yBd ha _ x.1).2 ⟨y, hp.mem_iff.2 h1, h2, h3⟩
theorem yJn {m : Nat} (hm : Aw came m) : m = lead v 0 l := by
  have hle := y9L v l 0
  have hev := yBI v l hl hx hp
  rcases Nat.lt_trichotomy m (lead v 0 l) with h | h | h
  · have h1 := y40 v l 0 m h
    have h2 := hm.2.2
    rw [Nat.zero_add] at h1
    rw [hev, if_neg h1, List.getElem?_eq_getElem (by omega)] at h2
    cases h2
  · exact h
  · have h1 := hm.2.1 (lead v 0 l) h
    rw [hev] at h1
    by_cases hb : bits v (lead v 0 l) = 3
    · rw [if_pos hb] at h1; cases h1
    · rw [if_neg hb] at h1
      rcases Nat.lt_or_ge (lead v 0 l) l.length with hlt | hge
      · have := yCh v l 0 hlt
        rw [Nat.zero_add] at this
        exact absurd this hb
      · rw [List.getElem?_eq_none hge] at h1; cases h1
theorem yHa : evs came (lead v 0 l) = (l.take (lead v 0 l)).map (·.1) := by
  have hle := y9L v l 0
  apply List.ext_getElem?
  intro j
  unfold evs
  rw [List.getElem?_map, List.getElem?_map, List.getElem?_take]
  by_cases hj : j < lead v 0 l
  · have h1 := y40 v l 0 j hj
    rw [Nat.zero_add] at h1
    rw [List.getElem?_range hj, if_pos hj, Option.map_some, yBI v l hl hx hp, if_neg h1, List.getElem?_eq_getElem (show j < l.length by omega)]
    rfl
  · rw [if_neg hj, List.getElem?_eq_none (by simp; omega)]
    rfl
theorem yAG : ∀ (r done : List Inp), l = done ++ r → yE5 came done.length r.length = y8f v done.length r
  | [], done, _ => rfl
  | x :: r, done, h => by
    have ih := yAG r (done ++ [x]) (by rw [h]; simp)
    rw [List.length_append, List.length_singleton] at ih
    rw [List.length_cons]
    unfold yE5 y8f
    rw [ih, yBI v l hl hx hp]
    have hq : l[done.length]? = some x := by rw [h]; simp
    congr 1
    by_cases hb : bits v done.length = 3
    · rw [if_pos hb, if_pos hb]; rfl
    · rw [if_neg hb, if_neg hb, hq]; rfl
end
theorem yLX (l : List Inp) (c : Cha) (n : List Int) (f : Int) (k : Nat) (b : Int) (t : List Inp) (t1 t2 : Int) (L : List Int) (x : Inp) (S : List Cmd) (hS : S.length ≤ 1000) (hk : k ≤ 100) (fin : List Cmd → Option ((Bool × Unit) ⊕ (Int × List Cmd × List Int))) :
    y0D (fun i__ s__ => y7u l c n f (k : Int) b t t1 t2 L x.1 x.2.1 i__ s__) fin 2 0 S = fin (S ++ ((if off b 0 = true then [((k : Int) + 1, 0, x.1, ()), ((k : Int) + 1, 0, x.1, ())] else []) ++ (if off b 1 = true then [((k : Int) + 1, 1, x.1, ()), ((k : Int) + 1, 1, x.1, ())] else []))) := by
  have hmem : memMax = 68719476736 := rfl
  have hw : IntKind.i64.wrap ((k : Int) + 1) = (k : Int) + 1 := y2e (by omega) (by omega)
  have hb : ∀ (line : Int) (S' : List Cmd), 0 ≤ line → S'.length ≤ 1002 → y7u l c n f (k : Int) b t t1 t2 L x.1 x.2.1 line S' = some (.inr (S' ++ (if off b line = true then [((k : Int) + 1, line, x.1, ()), ((k : Int) + 1, line, x.1, ())] else []))) := by
    intro line S' h0 hS'
    unfold y7u off
    rw [bifF (yF (by omega)), hw]
    cases yb .i64 .and (b.fdiv (2 ^ min line.toNat IntKind.i64.bits)) 1 == 0 with
    | true => simp only [cond_true, if_true]; rw [bifT (y6 (by omega))]
    | false => simp
  unfold y0D
  rw [hb 0 S (by omega) (by omega)]
  simp only [Option.bind_some]
  unfold y0D
  rw [show (0 : Int) + 1 = 1 from rfl, hb 1 _ (by omega) (by rw [List.length_append]; split <;> simp <;> omega)]
  simp only [Option.bind_some]
  unfold y0D
  rw [List.append_assoc]
theorem yGv (l : List Inp) (c : Cha) (n : List Int) (v : Int) (hn : idx n 0 = some v) (hv : IntKind.i64.wrap v = v) (hl : l.length ≤ 8) (fin : Int × List Cmd × List Int → Option (Bool × Unit)) : ∀ (r : List Inp) (k : Nat) (f : Int) (S : List Cmd) (L : List Int), k + r.length ≤ 8 → S.length + 4 * r.length ≤ 1000 → L.length + r.length ≤ 1000 →
    yE (fun i__ e__ s__ => y7r l c n l i__ e__ s__.1 s__.2.1 s__.2.2) fin (k : Int) r (f, S, L) = fin (y74 v k r f, S ++ y2W v k r, L ++ y8f v k r)
  | [], k, f, S, L, _, _, _ => by simp [y24, y74, y2W, y8f]
  | x :: r, k, f, S, L, hk, hS, hL => by
    have hmem : memMax = 68719476736 := rfl
    simp only [List.length_cons] at hk hS hL
    have hw : IntKind.i64.wrap ((2 : Int) * (k : Int)) = 2 * (k : Int) := y2e (by omega) (by omega)
    have hw1 : IntKind.i64.wrap ((k : Int) + 1) = (k : Int) + 1 := y2e (by omega) (by omega)
    have hpl := y5R v k x
    have hbody : y7r l c n l (k : Int) x f S L = some (.inr (if bits v k = 3 then (if (k : Int) < f then (k : Int) else f) else f, S ++ y9Y v k x, L ++ (if bits v k = 3 then [(k : Int) + 1] else []))) := by
      unfold y7r
      rw [hn, Option.bind_some, hw, hv, bifF (yF (by omega)), bifT (by decide)]
      rw [show (((2 : Int) - 0).toNat) = 2 from rfl]
      have h24 := yLX l c n f k (bits v k) l (l.length : Int) (k : Int) L x S (by omega) (by omega)
      unfold bits at h24
      rw [h24]
      unfold yCk
      show (bif bits v k == 3 then _ else _) = _
      by_cases hb : bits v k = 3
      · rw [bifT (show (bits v k == 3) = true by simpa using hb), bifT (y6 (by omega)), if_pos hb, if_pos hb, hw1]
        rfl
      · rw [bifF (show (bits v k == 3) = false by simpa using hb), if_neg hb, if_neg hb, List.append_nil]
        rfl
    rw [yZ, hbody]
    simp only [Option.bind_some]
    have ih := yGv l c n v hn hv hl fin r (k + 1) (if bits v k = 3 then (if (k : Int) < f then (k : Int) else f) else f) (S ++ y9Y v k x) (L ++ (if bits v k = 3 then [(k : Int) + 1] else [])) (by omega) (by rw [List.length_append]; omega) (by rw [List.length_append]; split <;> simp <;> omega)
    rw [show ((k + 1 : Nat) : Int) = (k : Int) + 1 by omega] at ih
    refine ih.trans ?_
    rw [List.append_assoc, List.append_assoc]
    rfl
theorem yFP (l : List Inp) (c : Cha) (f : Int) (t : List Int) (S : List Cmd) (L : List Int) (hS : S.length ≤ 1000) (fin : List Cmd → Option (Bool × Unit)) : ∀ (p : List Int) (i : Int) (s : List Cmd), (∀ j ∈ p, 0 ≤ j ∧ j < (S.length : Int)) → s.length + p.length ≤ 10000 →
    yE (fun i__ e__ s__ => y8I l c f t S L i__ e__ s__) fin i p s = fin (s ++ p.map fun j => S.getD j.toNat (0, 0, [], ()))
  | [], i, s, _, _ => by simp [y24]
  | j :: p, i, s, h, hs => by
    have hmem : memMax = 68719476736 := rfl
    obtain ⟨h0, h1⟩ := h j (by simp)
    simp only [List.length_cons] at hs
    have hg : S[j.toNat]? = some (S.getD j.toNat (0, 0, [], ())) := by
      rw [List.getD_eq_getElem?_getD, List.getElem?_eq_getElem (by omega)]
      rfl
    have hb : y8I l c f t S L i j s = some (.inr (s ++ [S.getD j.toNat (0, 0, [], ())])) := by
      unfold y8I
      rw [bifF (yF (by omega)), bifF (yF (by omega)), y4s _ h0, hg, Option.bind_some, Option.bind_some, bifT (y6 (by omega))]
    rw [yZ, hb]
    simp only [Option.bind_some]
    rw [yFP l c f t S L hS fin p (i + 1) _ (fun j hj => h j (by simp [hj])) (by rw [List.length_append]; simp; omega)]
    simp
theorem yFo (l : List Inp) (c : Cha) (f : Int) (t : List (List UInt8)) (hl : l.length ≤ 8) (F : Nat) (hF : F ≤ l.length) (fin : List Inp → Option (Bool × Unit)) : ∀ (r done : List (List UInt8)), (l.take F).map (·.1) = done ++ r →
    yE (fun i__ e__ s__ => y8C l c f t i__ e__ s__) fin (done.length : Int) r (l.take done.length) = fin (l.take F)
  | [], done, h => by
    rw [y24]
    have := congrArg List.length h
    simp only [List.length_map, List.length_take, List.append_nil] at this
    rw [← this, Nat.min_eq_left hF]
  | e :: r, done, h => by
    have hmem : memMax = 68719476736 := rfl
    have hlen := congrArg List.length h
    simp only [List.length_map, List.length_take, List.length_append, List.length_cons] at hlen
    have hlt : done.length < l.length := by omega
    have hg : l[done.length]? = some l[done.length] := List.getElem?_eq_getElem hlt
    have he : e = l[done.length].1 := by
      have h1 : ((l.take F).map (·.1))[done.length]? = some e := by rw [h]; simp
      rw [List.getElem?_map, List.getElem?_take, if_pos (by omega), hg] at h1
      simpa using h1.symm
    have hb : y8C l c f t (done.length : Int) e (l.take done.length) = some (.inr (l.take (done ++ [e]).length)) := by
      unfold y8C
      rw [y1l, hg, Option.bind_some, bifT (y6 (by rw [List.length_take]; omega)), List.length_append, List.length_singleton, List.take_add_one, hg, he]
      rfl
    rw [yZ, hb]
    simp only [Option.bind_some]
    have ih := yFo l c f t hl F hF fin r (done ++ [e]) (by rw [h]; simp)
    rw [show (((done ++ [e]).length : Nat) : Int) = (done.length : Int) + 1 by simp] at ih
    exact ih
theorem yBN (c : Cha) (l : List Inp) (n : List Int) (hll : l.length < lenMax) (hn : n.length = 2) (hn2 : ∀ y ∈ n, 0 ≤ y ∧ y ≤ 65535) : zM_M c l n = some (true, ()) := by
  have hmem : memMax = 68719476736 := rfl
  have aw : (ze_M.bind fun (v6 : Bool × Unit) => some (v6.1, ())) = some (true, ()) := by rw [yDe]; rfl
  unfold zM_M
  obtain ⟨s, hs, hs2⟩ := yHr c
  obtain ⟨b, hb, hb2⟩ := y7T l hll
  rw [hs, Option.bind_some]
  cases s with
  | false => exact aw
  | true =>
    have hc := hs2 rfl
    rw [bifF (show (!(true, ()).1) = false from rfl), hb, Option.bind_some]
    cases b with
    | false => exact aw
    | true =>
      have h40 := (hb2 rfl).2
      have hw : ∀ x ∈ l, x.1.length < lenMax := fun x hx => by have := h40 x hx; unfold lenMax; omega
      rw [bifF (show (!(true, ()).1) = false from rfl)]
      by_cases hl8 : (l.length : Int) > 8
      · rw [bifT (y6 hl8)]; exact aw
      rw [bifF (yF hl8), yFg]
      simp only [Option.bind_some]
      by_cases hk : ¬ y0m c = 0
      · rw [bifT (show (y0m c != 0) = true by simpa using hk)]; exact aw
      replace hk := Classical.not_not.1 hk
      rw [bifF (show (y0m c != 0) = false by simpa using hk), yF4]
      simp only [Option.bind_some]
      by_cases hsc : ¬ yv l = 0
      · rw [bifT (show (yv l != 0) = true by simpa using hsc)]; exact aw
      replace hsc := Classical.not_not.1 hsc
      rw [bifF (show (yv l != 0) = false by simpa using hsc)]
      have hv := yDI c hk
      unfold zk_M zk_m
      rw [yFc c hv true]
      simp only [Option.bind_some]
      by_cases ha : ¬ y8q (y31 c true) (evts c.2.1) (y0V 0 c.1) = []
      · rw [bifT (show ((((y8q (y31 c true) (evts c.2.1) (y0V 0 c.1)).length : Nat) : Int) != 0) = true by simpa using ha)]; exact aw
      replace ha := Classical.not_not.1 ha
      rw [ha, bifF (show ((([] : List Cas).length : Int) != 0) = false from rfl)]
      have hcl := yI1 ha
      have hl : l.length ≤ 8 := by omega
      obtain ⟨v, hv0⟩ : ∃ v, n[0]? = some v := ⟨n[0]'(by omega), List.getElem?_eq_getElem (by omega)⟩
      obtain ⟨key, hk0⟩ : ∃ v, n[1]? = some v := ⟨n[1]'(by omega), List.getElem?_eq_getElem (by omega)⟩
      have hvr := hn2 v (List.mem_of_getElem? hv0)
      have hkr := hn2 key (List.mem_of_getElem? hk0)
      rw [bifT (y6 (by unfold lenMax; omega))]
      have h21 := yGv l c n v (by rw [y4s _ (by omega)]; exact hv0) (y2e (by omega) (by omega)) hl (fun s__ => yAN l c n l s__.1 s__.2.1 s__.2.2) l 0 (l.length : Int) [] [] (by omega) (by simp; omega) (by simp; omega)
      rw [show ((0 : Nat) : Int) = 0 from rfl] at h21
      refine h21.trans ?_
      have hfl := y68 v l 0
      simp only [Nat.zero_add] at hfl
      rw [hfl, List.nil_append, List.nil_append]
      have hsl := y36 v l 0
      have hlle := y5U v l 0
      have hle := y9L v l 0
      have hins : insE l = 0 := by
        unfold yv at hsc
        split at hsc
        · cases hsc
        · exact hsc
      have hx := y5x l hins
      unfold yAN
      rw [y4s _ (by omega), show (1 : Int).toNat = 1 from rfl, hk0, Option.bind_some, show IntKind.i64.wrap key = key from y2e (by omega) (by omega), show IntKind.i64.wrap ((1 : Int) + key) = 1 + key from y2e (by omega) (by omega)]
      obtain ⟨p, hp1, hp2⟩ := yHp (1 + key) (y2W v 0 l).length (by omega) (by omega) (by omega)
      rw [hp1, Option.bind_some]
      have hpl : p.length = (y2W v 0 l).length := by rw [hp2.length_eq]; simp
      simp only
      rw [bifF (show ((0 : Int) != 0) = false from rfl), bifF (show ((p.length : Int) != ((y2W v 0 l).length : Int)) = false by rw [hpl]; simp), bifT (y6 (by unfold lenMax; omega))]
      have hpr : ∀ j ∈ p, 0 ≤ j ∧ j < ((y2W v 0 l).length : Int) := fun j hj => by
        have := hp2.mem_iff.1 hj
        simp only [List.mem_map, List.mem_range] at this
        obtain ⟨q, h1, rfl⟩ := this
        omega
      rw [yFP l c (lead v 0 l : Int) p (y2W v 0 l) (y8f v 0 l) (by omega) _ p 0 [] hpr (by simp; omega), List.nil_append]
      have hperm := yIf (y2W v 0 l) (0, 0, [], ()) hp2
      generalize (p.map fun j => (y2W v 0 l).getD j.toNat (0, 0, [], ())) = came at hperm
      have hcl2 : came.length ≤ 32 := by rw [hperm.length_eq]; omega
      have hcw : ∀ y ∈ came, y.2.2.1.length < lenMax := fun y hy => by
        obtain ⟨j, x, h1, _, h3, _⟩ := y1U (hperm.mem_iff.1 hy)
        rw [h3]; exact hw x (List.mem_of_getElem? h1)
      have hck := yJw v l hl hx hperm
      obtain ⟨m, hm, hex⟩ := yIt came hcw hck
      have hmF := yJn v l hl hx hperm hm
      subst hmF
      unfold yCR
      rw [bifT (y6 (by omega)), hex, Option.bind_some, bifT (y6 (by omega)), yIY came _ hcw, hck, y6c]
      have hr256 : ckR (l.length : Int) 0 256 = 0 := by unfold ckR; rw [if_neg (by omega)]
      rw [if_pos hr256, Option.bind_some, Int.toNat_natCast]
      have hlost := yAG v l hl hx hperm l [] rfl
      rw [show ([] : List Inp).length = 0 from rfl] at hlost
      rw [hlost]
      simp only
      rw [bifF (show ((0 : Int) != 0) = false from rfl), bifF (show ((0 : Int) != 0) = false from rfl), y7l, bifF (show (((lead v 0 l : Nat) : Int) != ((lead v 0 l : Nat) : Int)) = false by simp),
        show IntKind.i64.wrap (((lead v 0 l : Nat) : Int) + 1) = ((lead v 0 l : Nat) : Int) + 1 from y2e (by omega) (by omega), bifF (show ((((lead v 0 l : Nat) : Int) + 1) != (((lead v 0 l : Nat) : Int) + 1)) = false by simp),
        y4f _ (by unfold lenMax; omega)]
      simp only [Option.bind_some]
      rw [bifF (show (!true) = false from rfl), bifT (y6 (by unfold lenMax; omega)), yHa v l hl hx hperm]
      have hdn := yFo l c (lead v 0 l : Int) ((l.take (lead v 0 l)).map (·.1)) hl (lead v 0 l) hle (fun s__ => yB4 l c (lead v 0 l : Int) ((l.take (lead v 0 l)).map (·.1)) s__) ((l.take (lead v 0 l)).map (·.1)) [] rfl
      rw [show (([] : List (List UInt8)).length : Int) = 0 from rfl, show l.take ([] : List (List UInt8)).length = [] by simp] at hdn
      refine hdn.trans ?_
      have hv15 := y3E hsc
      have hpos := hv.pos
      have e0 := y4i c hv 0 (by omega) (by omega)
      have hrun : ∀ m : List Inp, (∀ x ∈ m, x ∈ l) → m.length ≤ 12 → y7O c m = some (rnl c m (entr c 0), 0, ()) := fun m hm hml => by
        have hsm : yv m = 0 := yAg hsc (by omega) hm
        rw [yJm c hc m (by omega) (fun x hx => hw x (hm x hx)), if_pos (show runE c m = 0 from yM.2 ⟨hk, hsm⟩)]
        unfold run0
        rw [y72 hv hcl yA4 m 0 (entr c 0) [] e0 (fun j x hx => y3E hsm x hx)]
        rfl
      have hRl : (rnl c l (entr c 0)).length = l.length := y8M _ _ _ _ _
      unfold yB4
      rw [yIj c hc]
      simp only [Option.bind_some]
      rw [hrun _ (fun x hx => List.mem_of_mem_take hx) (by rw [List.length_take]; omega)]
      simp only [Option.bind_some]
      rw [yGi l (by omega)]
      simp only [Option.bind_some]
      rw [hrun l (fun x hx => hx) (by omega)]
      simp only [Option.bind_some]
      rw [bifT (show ((0 : Int) == 0) = true from rfl), bifT (show ((0 : Int) == 0) = true from rfl), hRl, bifT (show ((l.length : Int) == (l.length : Int)) = true by simp), bifT (by rw [Bool.and_eq_true]; exact ⟨y6 (by omega), y6 (by omega)⟩),
        Int.toNat_natCast, show rnl c (l.take (lead v 0 l)) (entr c 0) = (rnl c l (entr c 0)).take (lead v 0 l) from yCu c _ l 0 _, y4f _ (by rw [List.length_take]; unfold lenMax; omega)]
      simp only [Option.bind_some]
      rw [cond_true]
      exact aw
end Go.Tw
