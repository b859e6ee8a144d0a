import Derived.Test.YtohhmdogfjmlcaaGreatP18
set_option linter.all false
set_option maxRecDepth 100000
namespace Go.Tw
open Go.Vx Go.Vx.B Go.Proofs
def OkIn (x : Inp) : Prop := isNm x.1 = true ∧ x.1.length < lenMax ∧ 0 ≤ x.2.1 ∧ x.2.1 ≤ 15
theorem okIn_inE {x : Inp} (h : OkIn x) : inE x = 0 := by
  obtain ⟨h1, h2, h3, h4⟩ := h
  unfold inE nmE
  rw [h1]
  refine firstOf_eq_zero.2 ⟨rfl, ?_⟩
  unfold ckR
  rw [if_neg (by omega)]
theorem insE_zero : ∀ {l : List Inp}, (∀ x ∈ l, OkIn x) → insE l = 0
  | [], _ => rfl
  | x :: l, h => by
    unfold insE
    exact firstOf_eq_zero.2 ⟨okIn_inE (h x (by simp)), insE_zero fun y hy => h y (by simp [hy])⟩
theorem ckScript_zero {l : List Inp} (hl : l.length ≤ 64) (h : ∀ x ∈ l, OkIn x) : ckScript l = 0 := by
  unfold ckScript
  rw [if_neg (by omega)]
  exact insE_zero h
theorem lfE_of {c : Cha} {leaf : Int} (h : IsLf c leaf) : lfE c leaf = 0 := by
  obtain ⟨l0, l1, st, l2, l3⟩ := h
  unfold lfE
  rw [if_neg (by omega), l2]
  simp [l3]
theorem gStep_ok {c : Cha} (hs : Sh c) (hk : ckChart c = 0) {leaf : Int} (hl : IsLf c leaf) {x : Inp} (hx : OkIn x) : z0a_M c leaf x = some ((stp c leaf x.1 x.2.1).1, (stp c leaf x.1 x.2.1).2, ()) := by
  rw [gStep_eq c hs leaf x hx.2.1, if_pos]
  unfold stepE
  exact firstOf_eq_zero.2 ⟨hk, firstOf_eq_zero.2 ⟨lfE_of hl, okIn_inE hx⟩⟩
theorem stp_err (c : Cha) (leaf : Int) (e : List UInt8) (v : Int) : (stp c leaf e v).2 = 0 ∨ (stp c leaf e v).2 = 30 := by
  unfold stp
  split
  · exact .inl rfl
  · exact .inl rfl
  · exact .inr rfl
theorem stp_lf {c : Cha} (hc : Valid c) {leaf : Int} (hl : IsLf c leaf) {e : List UInt8} {v : Int} (h : (stp c leaf e v).2 = 0) : IsLf c (stp c leaf e v).1 := by
  have hm := takes_mem c e v 17 leaf
  change ∀ t, t ∈ takes c leaf e v → _ at hm
  unfold stp at h ⊢
  match hq : takes c leaf e v with
  | [] => exact hl
  | [t] =>
    rw [hq] at hm
    have ht := hc.tra t (hm t (by simp))
    exact entr_leaf c hc _ ht.2.2.1 ht.2.2.2.1
  | t :: u :: l => rw [hq] at h; cases h
def Goes (c : Cha) : Int → List Inp → List Int → Prop
  | _, [], ts => ts = []
  | leaf, x :: l, ts => (stp c leaf x.1 x.2.1).2 = 0 ∧ ∃ r, ts = (stp c leaf x.1 x.2.1).1 :: r ∧ Goes c (stp c leaf x.1 x.2.1).1 l r
theorem goes_length {c : Cha} : ∀ {l : List Inp} {leaf : Int} {ts : List Int}, Goes c leaf l ts → ts.length = l.length
  | [], leaf, ts, h => by rw [show ts = [] from h]; rfl
  | x :: l, leaf, ts, ⟨_, r, h1, h2⟩ => by rw [h1, List.length_cons, List.length_cons, goes_length h2]
theorem goes_snoc {c : Cha} (x : Inp) : ∀ {l : List Inp} {leaf : Int} {ts : List Int}, Goes c leaf l ts → (stp c (ts.getLastD leaf) x.1 x.2.1).2 = 0 → Goes c leaf (l ++ [x]) (ts ++ [(stp c (ts.getLastD leaf) x.1 x.2.1).1])
  | [], leaf, ts, h, hx => by
    cases (show ts = [] from h)
    exact ⟨hx, [], rfl, rfl⟩
  | y :: l, leaf, ts, ⟨h0, r, h1, h2⟩, hx => by
    subst h1
    rw [List.getLastD_cons] at hx ⊢
    exact ⟨h0, _, rfl, goes_snoc x h2 hx⟩
theorem plays_goes {c : Cha} : ∀ {l : List Inp} {leaf : Int} {ts : List Int} (i : Int) (out : List Int), Goes c leaf l ts → plays c dNone l i leaf out = (out ++ ts, 0)
  | [], leaf, ts, i, out, h => by rw [show ts = [] from h, List.append_nil]; rfl
  | x :: l, leaf, ts, i, out, ⟨h0, r, h1, h2⟩ => by
    unfold plays
    show (if true = true then (if (stp c leaf x.1 x.2.1).2 = 0 then plays c dNone l (i + 1) (stp c leaf x.1 x.2.1).1 (out ++ [(stp c leaf x.1 x.2.1).1]) else _) else _) = _
    rw [if_pos rfl, if_pos h0, plays_goes (i + 1) _ h2, h1]
    simp
theorem getLastD_snoc (a d : Int) : ∀ ts : List Int, (ts ++ [a]).getLastD d = a := fun ts => by simp
structure PI (c : Cha) (ps : List Pth) : Prop where
  wi : WI c ps
  lf : ∀ p ∈ ps, IsLf c p.1
  go : ∀ p ∈ ps, (∀ x ∈ p.2.1, OkIn x) ∧ ∃ ts, Goes c (entr c 0) p.2.1 ts ∧ ts.getLastD (entr c 0) = p.1
theorem PI_start (c : Cha) (hc : Valid c) : PI c [(entr c 0, [], ())] := by
  have hp := hc.pos
  refine ⟨WI_start c hc, fun p hp => ?_, fun p hp => ?_⟩ <;> rw [List.mem_singleton] at hp <;> subst hp
  · exact entr_leaf c hc 0 (by omega) (by omega)
  · exact ⟨fun x hx => (by cases hx), [], rfl, rfl⟩
theorem addW_PI (c : Cha) (hc : Valid c) (here : Pth) (e : List UInt8) (v : Int) (hx : OkIn (e, v, ())) (ps : List Pth) (i : Nat) (h : PI c ps) (hi : ps[i]? = some here) : PI c (addW c here e v ps) := by
  have hw := addW_inv c hc here e v ps i h.wi hi
  have hm := List.mem_of_getElem? hi
  unfold addW at hw ⊢
  split
  · rename_i hs
    rw [if_pos hs] at hw
    refine ⟨hw, fun p hp => ?_, fun p hp => ?_⟩ <;> rcases List.mem_append.1 hp with hp | hp
    · exact h.lf p hp
    · rw [List.mem_singleton] at hp; subst hp
      exact stp_lf hc (h.lf here hm) hs.1
    · exact h.go p hp
    · rw [List.mem_singleton] at hp; subst hp
      obtain ⟨g1, ts, g2, g3⟩ := h.go here hm
      refine ⟨fun x hh => ?_, ?_⟩
      · rcases List.mem_append.1 hh with hh | hh
        · exact g1 x hh
        · rw [List.mem_singleton] at hh; subst hh; exact hx
      · have hs1 := hs.1
        rw [← g3] at hs1 ⊢
        exact ⟨_, goes_snoc (e, v, ()) g2 hs1, getLastD_snoc _ _ _⟩
  · exact h
def depOf (ps : List Pth) (x : Nat) : Int := match ps.find? (fun p => [(x : Int)].contains p.1) with
  | some p => (p.2.1.length : Int)
  | none => -1
def DepOK (c : Cha) (dep : List Int) (ps : List Pth) : Prop := dep.length = c.1.length ∧ ∀ x : Nat, x < c.1.length → dep[x]? = some (depOf ps x)
theorem one_contains (x y : Int) : [x].contains y = (y == x) := by simp only [List.contains_cons, List.contains_nil, Bool.or_false]
theorem depOf_some {ps : List Pth} {x : Nat} : (depOf ps x < 0) = ((lvs ps).contains (x : Int) = false) := by
  apply propext
  unfold depOf
  cases h : ps.find? (fun p => [(x : Int)].contains p.1) with
  | none =>
    constructor
    · intro _
      rw [Bool.eq_false_iff]
      intro hc
      obtain ⟨p, hp, e⟩ := List.mem_map.1 (List.contains_iff_mem.1 hc)
      have := List.find?_eq_none.1 h p hp
      rw [one_contains] at this
      exact this (by simpa using e)
    · intro _; simp
  | some p =>
    have h1 := List.find?_some h
    have h2 := List.mem_of_find?_eq_some h
    rw [one_contains] at h1
    constructor
    · intro hh; simp only at hh; omega
    · intro hc
      exfalso
      rw [Bool.eq_false_iff] at hc
      refine hc (List.contains_iff_mem.2 (List.mem_map.2 ⟨p, h2, ?_⟩))
      simpa using h1
theorem depOf_snoc (ps : List Pth) (p : Pth) (x : Nat) (hn : (lvs ps).contains p.1 = false) : depOf (ps ++ [p]) x = if p.1 = (x : Int) then (p.2.1.length : Int) else depOf ps x := by
  unfold depOf
  rw [List.find?_append]
  by_cases e : p.1 = (x : Int)
  · rw [if_pos e]
    have : ps.find? (fun p => [(x : Int)].contains p.1) = none := by
      rw [List.find?_eq_none]
      intro q hq
      rw [one_contains, ← e]
      intro hh
      rw [Bool.eq_false_iff] at hn
      exact hn (List.contains_iff_mem.2 (List.mem_map.2 ⟨q, hq, by simpa using hh⟩))
    rw [this]
    simp [e]
  · rw [if_neg e]
    have : [p].find? (fun p => [(x : Int)].contains p.1) = none := by simp [e]
    rw [this]
    simp
theorem DepOK_snoc {c : Cha} {dep : List Int} {ps : List Pth} (h : DepOK c dep ps) (p : Pth) (x : Nat) (hx : p.1 = (x : Int)) (hn : (lvs ps).contains p.1 = false) (d : Int) (hd : d = (p.2.1.length : Int)) : DepOK c (dep.set x d) (ps ++ [p]) := by
  refine ⟨by rw [List.length_set]; exact h.1, fun y hy => ?_⟩
  rw [List.getElem?_set, depOf_snoc ps p y hn, hx]
  by_cases e : x = y
  · subst e
    rw [if_pos rfl, if_pos rfl, if_pos (by rw [h.1]; exact hy), hd]
  · rw [if_neg e, if_neg (by omega)]
    exact h.2 y hy
end Go.Tw
