import Derived.Test.YtohhmdogfjmlcaaGreatPY
import Derived.Test.YtohhmdogfjmlcaaGreatB16
set_option linter.all false
set_option maxRecDepth 100000
namespace Go.Tw
open Go.Vx Go.Vx.B Go.Proofs
theorem draw_first (key n1 : Int) (n : Nat) : ∀ (m k : Nat) (c : List Int), c.length = n → k + m = n → (∀ j : Nat, j < k → c[j]? = some (j : Int)) →
    loopN (fun i__ s__ => z0V_b0 key n1 i__ s__) (fun s__ => z0V_f0 key n1 s__) m (k : Int) c = z0V_f0 key n1 ((List.range n).map fun (j : Nat) => (j : Int))
  | 0, k, c, hc, hk, h => by
    have : c = (List.range n).map fun (j : Nat) => (j : Int) := by
      apply List.ext_getElem?
      intro j
      by_cases hj : j < n
      · rw [h j (by omega)]; simp [hj]
      · rw [List.getElem?_eq_none (by omega), List.getElem?_eq_none (by simp; omega)]
    rw [← this]; rfl
  | m + 1, k, c, hc, hk, h => by
    have hv : c[k]? = some c[k] := List.getElem?_eq_getElem (by omega)
    have hb : z0V_b0 key n1 (k : Int) c = some (.inr (c.set k (k : Int))) := by
      unfold z0V_b0
      rw [idx_nat, hv]
      simp only [Option.bind_some, Int.toNat_natCast]
      rw [hv]; rfl
    show (z0V_b0 key n1 (k : Int) c).bind _ = _
    rw [hb]
    simp only [Option.bind_some]
    refine draw_first key n1 n m (k + 1) (c.set k (k : Int)) (by simp [hc]) (by omega) fun j hj => ?_
    rw [List.getElem?_set]
    by_cases e : k = j
    · subst e; rw [if_pos rfl, if_pos (by omega)]
    · rw [if_neg e]; exact h j (by omega)
theorem draw_body (x : Int) (k : Nat) (c : List Int) (hx : 0 ≤ x) (hx2 : x ≤ 2147483646) (hk : k + 1 < c.length) (hc : c.length ≤ 1000) :
    ∃ y c', z0V_b3 x ((k + 1 : Nat) : Int) c = some (.inr (y, (k : Int), c')) ∧ 0 ≤ y ∧ y ≤ 2147483646 ∧ c'.Perm c := by
  have hw : IntKind.i64.wrap ((742938285 : Int) * x) = 742938285 * x := wrapS (by omega) (by omega)
  have hi : IntKind.i64.wrap (((k + 1 : Nat) : Int) + 1) = (k : Int) + 2 := by rw [wrapS (by omega) (by omega)]; omega
  have hd : IntKind.i64.wrap (((k + 1 : Nat) : Int) - 1) = (k : Int) := by rw [wrapS (by omega) (by omega)]; omega
  unfold z0V_b3
  rw [hw, hi, hd]
  have hy0 : 0 ≤ (742938285 * x).tmod 2147483647 := Int.tmod_nonneg _ (by omega)
  have hy1 : (742938285 * x).tmod 2147483647 < 2147483647 := Int.tmod_lt_of_pos _ (by omega)
  generalize (742938285 * x).tmod 2147483647 = y at hy0 hy1 ⊢
  have hj0 : 0 ≤ y.tmod ((k : Int) + 2) := Int.tmod_nonneg _ hy0
  have hj1 : y.tmod ((k : Int) + 2) < (k : Int) + 2 := Int.tmod_lt_of_pos _ (by omega)
  generalize y.tmod ((k : Int) + 2) = j at hj0 hj1 ⊢
  obtain ⟨j, rfl⟩ := Int.eq_ofNat_of_zero_le hj0
  have h1 : c[k + 1]? = some c[k + 1] := List.getElem?_eq_getElem hk
  have hjl : j < c.length := by omega
  have h2 : c[j]? = some c[j] := List.getElem?_eq_getElem hjl
  have h3 : (c.set (k + 1) c[j])[j]? = some ((c.set (k + 1) c[j])[j]'(by simpa using hjl)) := List.getElem?_eq_getElem (by simpa using hjl)
  refine ⟨y, (c.set (k + 1) c[j]).set j c[k + 1], ?_, hy0, by omega, List.set_set_perm hk hjl⟩
  rw [bifT (dec_true (show ((k + 1 : Nat) : Int) > 0 by omega)), bifF (show ((k : Int) + 2 == 0) = false by simp; omega)]
  simp only [idx_nat, Int.toNat_natCast, h1, h2, Option.bind_some, h3]
theorem draw_rounds : ∀ (k m : Nat) (x : Int) (c : List Int), 0 ≤ x → x ≤ 2147483646 → k < c.length ∨ k = 0 → c.length ≤ 1000 → k < m →
    ∃ p, loopW (fun s__ => z0V_b3 s__.1 s__.2.1 s__.2.2) m (x, (k : Int), c) = some (p, ()) ∧ p.Perm c
  | 0, m, x, c, _, _, _, _, hm => by
    cases m with
    | zero => omega
    | succ m =>
      refine ⟨c, ?_, List.Perm.refl _⟩
      simp only [loopW]
      unfold z0V_b3
      rw [bifF (dec_false (show ¬ (((0 : Nat) : Int) > 0) by omega))]
      rfl
  | k + 1, m, x, c, hx, hx2, hk, hc, hm => by
    cases m with
    | zero => omega
    | succ m =>
      obtain ⟨y, c', hb, hy, hy2, hp⟩ := draw_body x k c hx hx2 (by omega) hc
      obtain ⟨p, h1, h2⟩ := draw_rounds k m y c' hy hy2 (by have := hp.length_eq; omega) (by rw [hp.length_eq]; exact hc) (by omega)
      refine ⟨p, ?_, h2.trans hp⟩
      simp only [loopW, hb, Option.bind_some]
      exact h1
theorem draw_eq (key : Int) (n : Nat) (hk : 0 ≤ key) (hk2 : key ≤ 2147483646) (hn : n ≤ 1000) :
    ∃ p, z0V_M key (n : Int) = some (p, ()) ∧ p.Perm ((List.range n).map fun (j : Nat) => (j : Int)) := by
  have hmem : memMax = 68719476736 := rfl
  unfold z0V_M
  rw [bifT (by simp [hmem]; omega), bifT (dec_true (show (n : Int) ≤ 9223372036854775807 by omega))]
  have e : ((n : Int) - 0).toNat = n := by omega
  rw [e, Int.toNat_natCast]
  have := draw_first key (n : Int) n n 0 (List.replicate n 0) (by simp) (by omega) (fun j hj => by omega)
  rw [show ((0 : Nat) : Int) = 0 from rfl] at this
  rw [this]
  unfold z0V_f0
  generalize hc : ((List.range n).map fun (j : Nat) => (j : Int)) = c
  have hcl : c.length = n := by rw [← hc]; simp
  cases n with
  | zero =>
    refine ⟨c, ?_, List.Perm.refl _⟩
    obtain ⟨m, hm⟩ : ∃ m, wMax = m + 1 := ⟨999999, rfl⟩
    rw [hm]
    simp only [loopW]
    unfold z0V_b3
    rw [show IntKind.i64.wrap (((0 : Nat) : Int) - 1) = -1 by decide, bifF (dec_false (show ¬ ((-1 : Int) > 0) by omega))]
    rfl
  | succ n =>
    have hw : IntKind.i64.wrap (((n + 1 : Nat) : Int) - 1) = (n : Int) := by rw [wrapS (by omega) (by omega)]; omega
    rw [hw]
    exact draw_rounds n wMax key c hk hk2 (.inl (by omega)) (by omega) (by unfold wMax; omega)
def Agree (l : List Cmd) : Prop := ∀ c ∈ l, ∀ d ∈ l, c.1 = d.1 → c.2.2.1 = d.2.2.1
theorem clash_false {done : List Cmd} {c : Cmd} : clash done c = false ↔ ∀ d ∈ done, d.1 = c.1 → d.2.2.1 = c.2.2.1 := by
  unfold clash
  rw [List.any_eq_false]
  constructor
  · intro h d hd e
    have := h d hd
    simpa [e] using this
  · intro h d hd
    by_cases e : d.1 = c.1
    · simp [h d hd e]
    · simp [e]
theorem cmdsE_zero : ∀ (l done : List Cmd), Agree done → (cmdsE done l = 0 ↔ (∀ c ∈ l, cmdF c = 0) ∧ Agree (done ++ l))
  | [], done, h => by simp [cmdsE, h]
  | c :: l, done, h => by
    unfold cmdsE cmdE
    rw [firstOf_eq_zero, firstOf_eq_zero]
    have hb : (bif clash done c then (30 : Int) else 0) = 0 ↔ clash done c = false := by cases clash done c <;> simp
    rw [hb, clash_false]
    have agS : (∀ d ∈ done, d.1 = c.1 → d.2.2.1 = c.2.2.1) → Agree (done ++ [c]) := by
      intro hd x hx y hy e
      rw [List.mem_append, List.mem_singleton] at hx hy
      rcases hx with hx | rfl <;> rcases hy with hy | rfl
      · exact h x hx y hy e
      · exact hd x hx e
      · exact (hd y hy e.symm).symm
      · rfl
    constructor
    · rintro ⟨⟨h1, h2⟩, h3⟩
      obtain ⟨h4, h5⟩ := (cmdsE_zero l (done ++ [c]) (agS h2)).1 h3
      refine ⟨fun x hx => ?_, by rw [List.append_assoc] at h5; exact h5⟩
      rw [List.mem_cons] at hx
      rcases hx with rfl | hx
      · exact h1
      · exact h4 x hx
    · rintro ⟨h1, h2⟩
      have h3 : ∀ d ∈ done, d.1 = c.1 → d.2.2.1 = c.2.2.1 := fun d hd e => h2 d (by simp [hd]) c (by simp) e
      refine ⟨⟨h1 c (by simp), h3⟩, (cmdsE_zero l (done ++ [c]) (agS h3)).2 ⟨fun x hx => h1 x (by simp [hx]), by rw [List.append_assoc]; exact h2⟩⟩
theorem ckCmds_zero {l : List Cmd} : ckCmds l = 0 ↔ l.length ≤ 256 ∧ (∀ c ∈ l, cmdF c = 0) ∧ Agree l := by
  unfold ckCmds
  have := cmdsE_zero l [] (fun c hc => by cases hc)
  rw [List.nil_append] at this
  split
  · constructor
    · intro h; cases h
    · intro h; omega
  · rw [this]
    constructor
    · intro h; exact ⟨by omega, h⟩
    · intro h; exact h.2
theorem ev_some {l : List Cmd} (h : Agree l) (n : Int) (e : List UInt8) : ev l n = some e ↔ ∃ c ∈ l, c.1 = n ∧ c.2.2.1 = e := by
  constructor
  · intro hh
    obtain ⟨d, h1, h2, h3⟩ := ev_mem hh
    exact ⟨d, h1, h2, h3⟩
  · rintro ⟨c, hc, rfl, rfl⟩
    unfold ev
    cases hf : l.find? (fun d => d.1 == c.1) with
    | none => exact absurd (List.find?_eq_none.1 hf c hc) (by simp)
    | some d =>
      have h1 := List.find?_some hf
      have h2 := List.mem_of_find?_eq_some hf
      simp only [Option.map_some]
      congr 1
      exact h d h2 c hc (by simpa using h1)
theorem ev_same {l t : List Cmd} (hl : Agree l) (ht : Agree t) (h : ∀ (n : Int) (e : List UInt8), (∃ c ∈ l, c.1 = n ∧ c.2.2.1 = e) ↔ ∃ c ∈ t, c.1 = n ∧ c.2.2.1 = e) (n : Int) : ev l n = ev t n := by
  apply Option.ext
  intro e
  rw [ev_some hl, ev_some ht]
  exact h n e
theorem aw_uniq {l t : List Cmd} {n m : Nat} (h : ∀ k, ev l k = ev t k) (hl : Aw l n) (ht : Aw t m) : n = m := by
  rcases Nat.lt_trichotomy n m with hh | hh | hh
  · have := ht.2.1 n hh; rw [← h, hl.2.2] at this; cases this
  · exact hh
  · have := hl.2.1 m hh; rw [h, ht.2.2] at this; cases this
theorem evs_same {l t : List Cmd} (h : ∀ k, ev l k = ev t k) (n : Nat) : evs l n = evs t n := by
  unfold evs
  congr 1
  funext k
  rw [h]
def flip (x : Cmd) : Cmd := (x.1, IntKind.i64.wrap (1 - x.2.1), x.2.2.1, ())
theorem cmdF_zero {c : Cmd} : cmdF c = 0 ↔ ckR c.1 1 999999999 = 0 ∧ ckR c.2.1 0 1 = 0 ∧ isNm c.2.2.1 = true := by
  unfold cmdF
  rw [firstE_cons, firstE_cons, firstE_cons, firstE_nil, firstOf_zero, firstOf_eq_zero, firstOf_eq_zero]
  have : (bif isNm c.2.2.1 then (0 : Int) else 8) = 0 ↔ isNm c.2.2.1 = true := by cases isNm c.2.2.1 <;> simp
  rw [this]
theorem flip_ok {c : Cmd} (h : cmdF c = 0) : cmdF (flip c) = 0 := by
  obtain ⟨h1, h2, h3⟩ := cmdF_zero.1 h
  have h4 := ckR_zero h2
  refine cmdF_zero.2 ⟨h1, ?_, h3⟩
  show ckR (IntKind.i64.wrap (1 - c.2.1)) 0 1 = 0
  rw [wrapS (by omega) (by omega)]
  unfold ckR
  rw [if_neg (by omega)]
theorem turned_ok {l t : List Cmd} (h : ckCmds l = 0) (hl : l.length ≤ 12) (htl : t.length ≤ 24) (ht : ∀ c, c ∈ t ↔ ∃ x ∈ l, c = x ∨ c = flip x) : ckCmds t = 0 ∧ ∀ n, ev l n = ev t n := by
  obtain ⟨_, h2, h3⟩ := ckCmds_zero.1 h
  have ag : Agree t := by
    intro c hc d hd e
    obtain ⟨x, hx, hx2⟩ := (ht c).1 hc
    obtain ⟨y, hy, hy2⟩ := (ht d).1 hd
    have ex : c.1 = x.1 ∧ c.2.2.1 = x.2.2.1 := by rcases hx2 with rfl | rfl <;> exact ⟨rfl, rfl⟩
    have ey : d.1 = y.1 ∧ d.2.2.1 = y.2.2.1 := by rcases hy2 with rfl | rfl <;> exact ⟨rfl, rfl⟩
    rw [ex.2, ey.2]
    exact h3 x hx y hy (by rw [← ex.1, ← ey.1]; exact e)
  refine ⟨ckCmds_zero.2 ⟨by omega, fun c hc => ?_, ag⟩, ev_same h3 ag fun n e => ?_⟩
  · obtain ⟨x, hx, rfl | rfl⟩ := (ht c).1 hc
    · exact h2 _ hx
    · exact flip_ok (h2 _ hx)
  · constructor
    · rintro ⟨c, hc, h⟩
      exact ⟨c, (ht c).2 ⟨c, hc, .inl rfl⟩, h⟩
    · rintro ⟨c, hc, h⟩
      obtain ⟨x, hx, rfl | rfl⟩ := (ht c).1 hc
      · exact ⟨_, hx, h⟩
      · exact ⟨x, hx, h⟩
def moreW : List UInt8 := [109, 111, 114, 101]
theorem more_ok {l : List Cmd} {n : Nat} (h : ckCmds l = 0) (hl : l.length ≤ 12) (ha : Aw l n) :
    ckCmds (l ++ [((n : Int) + 1, 0, moreW, ())]) = 0 ∧ ev (l ++ [((n : Int) + 1, 0, moreW, ())]) ((n : Int) + 1) = some moreW ∧ ∀ k, (ev l k).isSome = true → (ev (l ++ [((n : Int) + 1, 0, moreW, ())]) k).isSome = true := by
  obtain ⟨_, h2, h3⟩ := ckCmds_zero.1 h
  have hno : ∀ c ∈ l, c.1 ≠ (n : Int) + 1 := by
    intro c hc e
    have := (ev_some h3 ((n : Int) + 1) c.2.2.1).2 ⟨c, hc, e, rfl⟩
    rw [ha.2.2] at this
    cases this
  have hnl := ha.1
  have ag : Agree (l ++ [((n : Int) + 1, 0, moreW, ())]) := by
    intro c hc d hd e
    rw [List.mem_append, List.mem_singleton] at hc hd
    rcases hc with hc | rfl <;> rcases hd with hd | rfl
    · exact h3 c hc d hd e
    · exact absurd e (hno c hc)
    · exact absurd e.symm (hno d hd)
    · rfl
  refine ⟨ckCmds_zero.2 ⟨by simp; omega, fun c hc => ?_, ag⟩, (ev_some ag _ _).2 ⟨((n : Int) + 1, 0, moreW, ()), by simp, rfl, rfl⟩, fun k hk => ?_⟩
  · rw [List.mem_append, List.mem_singleton] at hc
    rcases hc with hc | rfl
    · exact h2 c hc
    · refine cmdF_zero.2 ⟨?_, show ckR 0 0 1 = 0 by decide, show isNm moreW = true by decide⟩
      show ckR ((n : Int) + 1) 1 999999999 = 0
      unfold ckR
      rw [if_neg (by omega)]
  · obtain ⟨e, he⟩ := Option.isSome_iff_exists.1 hk
    obtain ⟨c, hc, h⟩ := (ev_some h3 k e).1 he
    rw [(ev_some ag k e).2 ⟨c, by simp [hc], h⟩]
    rfl
theorem lostL_none {l : List Cmd} : ∀ (m k : Nat), (∀ j : Nat, j < k + m → (ev l ((j : Int) + 1)).isSome = true) → lostL l k m = []
  | 0, k, _ => rfl
  | m + 1, k, h => by
    unfold lostL
    have := h k (by omega)
    rw [if_neg (by rw [Option.isNone_eq_false_iff.2 this]; simp), List.nil_append]
    exact lostL_none m (k + 1) fun j hj => h j (by omega)
theorem lostL_one {l : List Cmd} : ∀ (m k : Nat), (∀ j : Nat, j < k + m → (ev l ((j : Int) + 1)).isSome = true) → ev l (((k + m : Nat) : Int) + 1) = none → lostL l k (m + 1) = [((k + m : Nat) : Int) + 1]
  | 0, k, _, h => by
    unfold lostL lostL
    rw [Nat.add_zero] at h ⊢
    rw [if_pos (by rw [h]; rfl)]
    rfl
  | m + 1, k, h, hn => by
    unfold lostL
    have := h k (by omega)
    rw [if_neg (by rw [Option.isNone_eq_false_iff.2 this]; simp), List.nil_append]
    have e : k + (m + 1) = k + 1 + m := by omega
    rw [e] at hn ⊢
    exact lostL_one m (k + 1) (fun j hj => h j (by omega)) hn
def Maj (l : List Int) (x : Int) : Prop := l.length < 2 * cnt l x
theorem cnt_two (a b : Int) (h : a ≠ b) : ∀ l : List Int, cnt l a + cnt l b ≤ l.length
  | [] => by simp [cnt]
  | x :: l => by
    have := cnt_two a b h l
    unfold cnt at this ⊢
    rw [List.filter_cons, List.filter_cons]
    by_cases e1 : (x == a) = true <;> by_cases e2 : (x == b) = true
    · exact absurd ((beq_iff_eq.1 e1).symm.trans (beq_iff_eq.1 e2)) h
    all_goals simp [e1, e2]; omega
theorem maj_uniq {l : List Int} {a b : Int} (ha : Maj l a) (hb : Maj l b) : a = b := by
  by_cases h : a = b
  · exact h
  · have := cnt_two a b h l
    unfold Maj at ha hb
    omega
theorem votes_spec (l : List Int) : ∀ r : List Int, (votes l r = (0, 7) ∧ ∀ x ∈ r, ¬ Maj l x) ∨ ∃ x ∈ r, Maj l x ∧ votes l r = (x, 0)
  | [] => .inl ⟨rfl, fun x hx => by cases hx⟩
  | n :: r => by
    unfold votes
    by_cases h : l.length < 2 * cnt l n
    · rw [if_pos h]
      exact .inr ⟨n, by simp, h, rfl⟩
    · rw [if_neg h]
      rcases votes_spec l r with ⟨h1, h2⟩ | ⟨x, hx, h2, h3⟩
      · refine .inl ⟨h1, fun x hx => ?_⟩
        rw [List.mem_cons] at hx
        rcases hx with rfl | hx
        · exact h
        · exact h2 x hx
      · exact .inr ⟨x, by simp [hx], h2, h3⟩
theorem cnt_perm {p l : List Int} (h : p.Perm l) (x : Int) : cnt p x = cnt l x := (h.filter _).length_eq
theorem maj_perm {p l : List Int} (h : p.Perm l) {x : Int} : Maj p x ↔ Maj l x := by
  unfold Maj
  rw [cnt_perm h, h.length_eq]
theorem votes_perm {p l : List Int} (h : p.Perm l) : votes p p = votes l l := by
  rcases votes_spec p p with ⟨h1, h2⟩ | ⟨x, hx, h2, h3⟩ <;> rcases votes_spec l l with ⟨h4, h5⟩ | ⟨y, hy, h5, h6⟩
  · rw [h1, h4]
  · exact absurd ((maj_perm h).2 h5) (h2 y (h.mem_iff.2 hy))
  · exact absurd ((maj_perm h).1 h2) (h5 x (h.mem_iff.1 hx))
  · rw [h3, h6, maj_uniq ((maj_perm h).1 h2) h5]
theorem posE_zero : ∀ {l : List Int}, posE l = 0 ↔ ∀ x ∈ l, ckR x 0 1000 = 0
  | [] => by simp [posE]
  | n :: l => by
    unfold posE
    rw [firstOf_eq_zero, posE_zero]
    simp
theorem ckPos_perm {p l : List Int} (h : p.Perm l) (hl : ckPos l = 0) : ckPos p = 0 := by
  unfold ckPos at hl ⊢
  rw [h.length_eq]
  split
  · rename_i hh; rw [if_pos hh] at hl; exact hl
  · rename_i hh
    rw [if_neg hh] at hl
    exact posE_zero.2 fun x hx => posE_zero.1 hl x (h.mem_iff.1 hx)
end Go.Tw
