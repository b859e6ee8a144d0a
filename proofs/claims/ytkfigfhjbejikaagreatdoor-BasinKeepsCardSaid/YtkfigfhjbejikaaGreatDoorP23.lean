/- P23: what a step keeps: the sum of all volumes, but for what comes and goes. -/
import Derived.Test.YtkfigfhjbejikaaGreatDoorP18
import Derived.Test.YtkfigfhjbejikaaGreatDoorPB

set_option linter.all false
set_option maxRecDepth 100000
namespace Go.Tw
open Go.Vx Go.Vx.B Go.Proofs

/-! ### Sums -/
def tot : List Int → Int
  | [] => 0
  | x :: l => x + tot l

theorem tot_set : ∀ (l : List Int) (i : Nat) (y : Int), i < l.length → tot (l.set i y) = tot l - l.getD i 0 + y
  | [], _, _, h => by simp at h
  | x :: l, 0, y, _ => by simp [tot]; omega
  | x :: l, i + 1, y, h => by
    have := tot_set l i y (by simpa using h)
    simp only [List.set_cons_succ, tot, this]
    simp only [List.getD_cons_succ]
    omega

theorem tot_bound {l : List Int} {lo hi : Int} (h : ∀ x ∈ l, lo ≤ x ∧ x ≤ hi) : lo * l.length ≤ tot l ∧ tot l ≤ hi * l.length := by
  induction l with
  | nil => simp [tot]
  | cons x l ih =>
    obtain ⟨h1, h2⟩ := h x (by simp)
    obtain ⟨h3, h4⟩ := ih fun y hy => h y (by simp [hy])
    simp only [tot, List.length_cons]
    have e1 : lo * ((l.length + 1 : Nat) : Int) = lo * (l.length : Int) + lo := by rw [Int.natCast_add, Int.mul_add]; simp
    have e2 : hi * ((l.length + 1 : Nat) : Int) = hi * (l.length : Int) + hi := by rw [Int.natCast_add, Int.mul_add]; simp
    omega

/-- Nothing wraps: a node's volume changes. -/
theorem tot_addAt {out : List Int} {j n : Int} (hj : j = -1 ∨ (0 ≤ j ∧ j < out.length)) (hb : -4000000000 ≤ gv out j.toNat + n ∧ gv out j.toNat + n ≤ 4000000000) : tot (addAt out j n) = tot out + (if j = -1 then 0 else n) := by
  unfold addAt
  rcases hj with rfl | ⟨h0, h1⟩
  · simp
  · rw [if_neg (by omega), if_neg (by omega), tot_set _ _ _ (by omega)]
    have : out.getD j.toNat 0 = gv out j.toNat := rfl
    rw [this, wr_small (by omega) (by omega)]
    omega

/-- What a link brings from the sea, less what it brings there. -/
def bal (x : Lnk) (f : Int) : Int := (if x.2.1 = -1 then f else 0) - (if x.2.2.1 = -1 then f else 0)

theorem tot_mv {b : Bas} (hb : BasOK b) {c : Cnd} (hc : TideOK c) {x : Lnk} (hx : LinkOK x b.1.length) {out : List Int} (hf : Fit b.1.length out) : tot (mv b c x out) = tot out + bal x (flP b c x out) := by
  obtain ⟨f1, f2⟩ := flP_bound hb hc hx hf
  have e := fl_pure hb hc hx hf
  unfold mv
  rw [e, wr_small (n := 0 - flP b c x out) (by omega) (by omega)]
  have hl := hf.1
  have v1 := hf.2 x.2.1.toNat
  have v2 := hf.2 x.2.2.1.toNat
  have hg : gv (addAt out x.2.1 (0 - flP b c x out)) x.2.2.1.toNat = gv out x.2.2.1.toNat ∨ x.2.2.1 = -1 := by
    rcases hx.to_ with h | h
    · exact .inr h
    · refine .inl ?_
      rw [addAt_get (by rw [hl]; exact hx.from_), if_neg (by have := hx.ne; omega)]
  have e1 := tot_addAt (out := out) (j := x.2.1) (n := 0 - flP b c x out) (by rw [hl]; exact hx.from_) (by omega)
  by_cases ht : x.2.2.1 = -1
  · have e2 : addAt (addAt out x.2.1 (0 - flP b c x out)) x.2.2.1 (flP b c x out) = addAt out x.2.1 (0 - flP b c x out) := by unfold addAt; rw [if_pos ht]
    rw [e2, e1]
    unfold bal
    rw [if_pos ht]
    split
    · have := hx.ne; omega
    · omega
  · have hg : gv (addAt out x.2.1 (0 - flP b c x out)) x.2.2.1.toNat = gv out x.2.2.1.toNat := by
      rcases hg with h | h
      · exact h
      · exact absurd h ht
    rw [tot_addAt (by rw [addAt_length, hl]; exact hx.to_) (by rw [hg]; omega), e1, if_neg ht]
    unfold bal
    rw [if_neg ht]
    split <;> omega

/-! ### The flows of a step -/
def balL : List Lnk → List Int → Int
  | x :: l, f :: fs => bal x f + balL l fs
  | _, _ => 0

/-- How a link's flow may be directed. -/
def SignOK (c : Cnd) (x : Lnk) (f : Int) : Prop := (f < 0 → x.1 = kB) ∧ (c.2.1 = false → x.1 = kB → f = 0)

theorem flP_sign {b : Bas} (hb : BasOK b) {c : Cnd} {x : Lnk} (hx : LinkOK x b.1.length) {out : List Int} (hf : Fit b.1.length out) : SignOK c x (flP b c x out) := by
  obtain ⟨a1, a2⟩ := area_at hb hx
  have v1 := (hf.2 (atL x).toNat).1
  refine ⟨fun h => ?_, fun ho hk => ?_⟩
  · by_cases hk : x.1 = kB
    · exact hk
    · exfalso
      unfold flP at h
      by_cases hL : x.1 = kL
      · unfold flowI at h
        rw [if_neg hk, if_pos hL] at h
        have := le_imax_l 0 (((b.1.getD (atL x).toNat ([], 0, 0, ())).2.1 * c.1 - gv out (atL x).toNat) / x.2.2.2.2.1)
        omega
      · have := (out_mono hx hk hL v1 (Int.le_refl _) a1 (Int.le_refl c.1) c.2.1).1
        omega
  · unfold flP flowI
    rw [if_pos hk, ho]
    rfl

theorem linksD_keeps {b : Bas} (hb : BasOK b) {c : Cnd} (hc : TideOK c) : ∀ {l : List Lnk} {fs out f o : List Int}, (∀ x ∈ l, LinkOK x b.1.length ∧ EndsOK x) → Fit b.1.length out → linksD b c l fs out = some (f, o) →
    ∃ gs, f = fs ++ gs ∧ gs.length = l.length ∧ tot o = tot out + balL l gs ∧ ∀ (i : Nat) (x : Lnk) (g : Int), l[i]? = some x → gs[i]? = some g → SignOK c x g ∧ -100000000 ≤ g ∧ g ≤ 200000000
  | [], fs, out, f, o, _, _, h => by
    simp only [linksD, Option.some.injEq, Prod.mk.injEq] at h
    obtain ⟨rfl, rfl⟩ := h
    exact ⟨[], by simp, rfl, by simp [balL], by simp⟩
  | x :: l, fs, out, f, o, hl, hf, h => by
    obtain ⟨hx, he⟩ := hl x (by simp)
    simp only [linksD] at h
    split at h
    · rename_i h8
      obtain ⟨gs, g1, g2, g3, g4⟩ := linksD_keeps hb hc (fun y hy => hl y (by simp [hy])) (mv_fit hb hc hx he hf h8) h
      refine ⟨fl b c x out :: gs, by rw [g1]; simp, by simp [g2], ?_, fun i y g hy hg => ?_⟩
      · rw [g3, tot_mv hb hc hx hf, fl_pure hb hc hx hf]
        simp only [balL]
        omega
      · cases i with
        | zero =>
          simp at hy hg
          subst hy; subst hg
          rw [fl_pure hb hc hx hf]
          exact ⟨flP_sign hb hx hf, flP_bound hb hc hx hf⟩
        | succ i => exact g4 i y g (by simpa using hy) (by simpa using hg)
    · cases h

theorem tot_inflow : ∀ (v l : List Int), v.length = l.length → (∀ x ∈ v, 0 ≤ x ∧ x ≤ 100000000) → (∀ x ∈ l, 0 ≤ x ∧ x ≤ 100000) → tot (inflow v l) = tot v + tot l
  | [], [], _, _, _ => rfl
  | x :: v, n :: l, h, hv, hl => by
    have h1 := hv x (by simp)
    have h2 := hl n (by simp)
    have := tot_inflow v l (by simpa using h) (fun y hy => hv y (by simp [hy])) (fun y hy => hl y (by simp [hy]))
    simp only [inflow, tot, this]
    rw [wr_small (by omega) (by omega)]
    omega
  | [], _ :: _, h, _, _ => by simp at h
  | _ :: _, [], h, _, _ => by simp at h

/-- **A step keeps the sum**, but for what the rivers bring and what comes from the sea and goes there. -/
theorem stepD_keeps {b : Bas} (hb : BasOK b) (he : ∀ x ∈ b.2.1, EndsOK x) {v : List Int} {c : Cnd} (hv : Fit b.1.length v) (hc : CondOK b c) {f o : List Int} (h : stepD b v c = some (f, o)) :
    f.length = b.2.1.length ∧ tot o = tot v + tot c.2.2.1 + balL b.2.1 f ∧ ∀ (i : Nat) (x : Lnk) (g : Int), b.2.1[i]? = some x → f[i]? = some g → SignOK c x g ∧ -100000000 ≤ g ∧ g ≤ 200000000 := by
  rw [stepD_eq b hb v c hv.1 hc.len] at h
  unfold movedD at h
  split at h
  · rename_i h8
    obtain ⟨gs, g1, g2, g3, g4⟩ := linksD_keeps hb hc.tide (fun x hx => ⟨hb.link x hx, he x hx⟩) (inflow_fit hv hc h8) h
    rw [List.nil_append] at g1
    subst g1
    refine ⟨g2, ?_, g4⟩
    rw [g3, tot_inflow v _ (by rw [hv.1, hc.len]) (fit_mem hv) hc.flow]
  · cases h
end Go.Tw
