/- P26: BasinKeeps: the account of a run. -/
import Derived.Test.YtkfigfhjbejikaaGreatDoorP25

set_option linter.all false
set_option maxRecDepth 100000
namespace Go.Tw
open Go.Vx Go.Vx.B Go.Proofs

def seaIn (x : Lnk) (f : Int) : Int := if x.2.1 = -1 then max 0 f else 0
def outTo (x : Lnk) (f : Int) : Int := (if x.2.1 = -1 then max 0 (0 - f) else 0) + (if x.2.2.1 = -1 then f else 0)

theorem accF_pure {x : Lnk} {N : Nat} (hx : LinkOK x N) {f : Int} {s : Int × Int} (hf : -100000000 ≤ f ∧ f ≤ 200000000) (h1 : 0 ≤ s.1 ∧ s.1 ≤ 2000000000000) (h2 : 0 ≤ s.2 ∧ s.2 ≤ 2000000000000) :
    accF x f s = (s.1 + seaIn x f, s.2 + outTo x f) ∧ seaIn x f - outTo x f = bal x f := by
  have hne := hx.ne
  unfold accF seaIn outTo bal
  by_cases a : x.2.1 = -1
  · have b : x.2.2.1 ≠ -1 := fun b => hne (by rw [a, b])
    simp only [if_pos a, if_neg b]
    rw [wr_small (n := 0 - f) (by omega) (by omega), wr_small (n := s.1 + max 0 f) (by omega) (by omega), wr_small (n := s.2 + max 0 (0 - f)) (by omega) (by omega)]
    refine ⟨by simp, by omega⟩
  · by_cases b : x.2.2.1 = -1
    · simp only [if_neg a, if_pos b]
      rw [wr_small (by omega) (by omega)]
      refine ⟨by simp, by omega⟩
    · simp only [if_neg a, if_neg b]
      refine ⟨by simp, by omega⟩

theorem seaOut_sign {c : Cnd} {x : Lnk} (he : EndsOK x) {f : Int} (hs : SignOK c x f) (hf : -100000000 ≤ f ∧ f ≤ 200000000) :
    (0 ≤ seaIn x f ∧ seaIn x f ≤ 200000000) ∧ (0 ≤ outTo x f ∧ outTo x f ≤ 400000000) ∧ (c.2.1 = false → x.1 ≠ kL → seaIn x f = 0) := by
  refine ⟨by unfold seaIn; split <;> omega, ?_, fun hc hL => ?_⟩
  · unfold outTo
    by_cases b : x.2.2.1 = -1
    · have : ¬ f < 0 := fun h => (he.bar (hs.1 h)).2 b
      rw [if_pos b]
      split <;> omega
    · rw [if_neg b]
      split <;> omega
  · unfold seaIn
    by_cases a : x.2.1 = -1
    · rw [if_pos a]
      have hk : x.1 = kB := by
        by_cases h1 : x.1 = kB
        · exact h1
        · by_cases h2 : x.1 = kO
          · exact absurd a (he.outf h2).1
          · exact absurd a (he.rest h1 hL h2).1
      rw [hs.2 hc hk]
      rfl
    · rw [if_neg a]

theorem accL_keeps {N : Nat} {c : Cnd} : ∀ (l : List Lnk) (gs : List Int) (s : Int × Int), gs.length = l.length → (∀ x ∈ l, LinkOK x N ∧ EndsOK x) →
    (∀ (j : Nat) (x : Lnk) (g : Int), l[j]? = some x → gs[j]? = some g → SignOK c x g ∧ -100000000 ≤ g ∧ g ≤ 200000000) → 0 ≤ s.1 → 0 ≤ s.2 → s.1 + 400000000 * (l.length : Int) ≤ 2000000000000 → s.2 + 400000000 * (l.length : Int) ≤ 2000000000000 →
    ∃ sea out, accL l gs s = (s.1 + sea, s.2 + out) ∧ (0 ≤ sea ∧ sea ≤ 400000000 * (l.length : Int)) ∧ (0 ≤ out ∧ out ≤ 400000000 * (l.length : Int)) ∧ sea - out = balL l gs ∧ (c.2.1 = false → (l.any fun x => x.1 == kL) = false → sea = 0) := by
  intro l
  induction l with
  | nil =>
    intro gs s hl hx hs h1 h2 h3 h4
    cases gs with
    | nil => exact ⟨0, 0, by simp [accL], by simp, by simp, by simp [balL], fun _ _ => rfl⟩
    | cons g gs => simp at hl
  | cons x l ih =>
    intro gs s hl hx hs h1 h2 h3 h4
    cases gs with
    | nil => simp at hl
    | cons f gs =>
      simp only [List.length_cons] at hl h3 h4 ⊢
      have e : 400000000 * ((l.length + 1 : Nat) : Int) = 400000000 * (l.length : Int) + 400000000 := by rw [Int.natCast_add, Int.mul_add]; simp
      obtain ⟨s1, s2⟩ := hs 0 x f rfl rfl
      obtain ⟨x1, x2⟩ := hx x (by simp)
      obtain ⟨p1, p2⟩ := accF_pure x1 (s := s) s2 (by omega) (by omega)
      obtain ⟨q1, q2, q3⟩ := seaOut_sign x2 s1 s2
      obtain ⟨sea, out, r1, r2, r3, r4, r5⟩ := ih gs (s.1 + seaIn x f, s.2 + outTo x f) (by omega) (fun y hy => hx y (by simp [hy])) (fun j y g hy hg => hs (j + 1) y g (by simpa using hy) (by simpa using hg)) (by simp only; omega) (by simp only; omega) (by simp only; omega) (by simp only; omega)
      refine ⟨seaIn x f + sea, outTo x f + out, ?_, by omega, by omega, ?_, fun hc hk => ?_⟩
      · simp only [accL, p1, r1]
        rw [Int.add_assoc, Int.add_assoc]
      · simp only [balL]
        omega
      · rw [List.any_cons, Bool.or_eq_false_iff] at hk
        have hL : x.1 ≠ kL := fun h => by rw [h] at hk; simp at hk
        rw [q3 hc hL, r5 hc hk.2]
        rfl

theorem accR_eq (q : List Int) (r : Int) (h : ∀ x ∈ q, 0 ≤ x ∧ x ≤ 100000) (h0 : 0 ≤ r) (h1 : r ≤ 1000000000) (hl : q.length ≤ 8) : accR q r = r + tot q := by
  unfold accR
  exact foldl_tot q r (fun x hx => by have := h x hx; omega) h0 (by omega)

/-- **The account of a run**: what is behind it is what was before, and what came, less what went. -/
theorem accD_keeps {b : Bas} (hk0 : ckBasin b = 0) : ∀ (l : List Cnd) (ps : List (Cnd × List Int × List Int)) (v : List Int) (r : Int) (s : Int × Int), runD b v l = some ps → Fit b.1.length v → (∀ c ∈ l, ckCond b c = 0) → 0 ≤ r → r + 800000 * (l.length : Int) ≤ 1000000000 →
    0 ≤ s.1 → 0 ≤ s.2 → s.1 + 6400000000 * (l.length : Int) ≤ 1000000000000 → s.2 + 6400000000 * (l.length : Int) ≤ 1000000000000 →
    ∃ sea out, accD b ps r s = (r + rivers l, s.1 + sea, s.2 + out) ∧ (0 ≤ sea ∧ sea ≤ 6400000000 * (l.length : Int)) ∧ (0 ≤ out ∧ out ≤ 6400000000 * (l.length : Int)) ∧ tot (lastD v ps) = tot v + rivers l + sea - out ∧ (opens b l = false → sea = 0) := by
  have hb := ckBasin_zero hk0
  have he := ckBasin_ends hk0
  have h8 := hb.nodes
  have h16 := hb.links
  intro l
  induction l with
  | nil =>
    intro ps v r s hps hv hc h0 h1 h2 h3 h4 h5
    simp only [runD, Option.some.injEq] at hps
    subst hps
    exact ⟨0, 0, by simp [accD, rivers], by simp, by simp, by simp [lastD, rivers], fun _ => rfl⟩
  | cons c l ih =>
    intro ps v r s hps hv hc h0 h1 h2 h3 h4 h5
    have hcok := condOK_of (hc c (by simp))
    simp only [runD] at hps
    cases hs : stepD b v c with
    | none => rw [hs] at hps; cases hps
    | some y =>
      obtain ⟨f, o⟩ := y
      rw [hs] at hps
      simp only [Option.map_eq_some_iff] at hps
      obtain ⟨qs, hq, rfl⟩ := hps
      simp only [List.length_cons] at h1 h4 h5 ⊢
      have e : 800000 * ((l.length + 1 : Nat) : Int) = 800000 * (l.length : Int) + 800000 := by rw [Int.natCast_add, Int.mul_add]; simp
      have e2 : 6400000000 * ((l.length + 1 : Nat) : Int) = 6400000000 * (l.length : Int) + 6400000000 := by rw [Int.natCast_add, Int.mul_add]; simp
      obtain ⟨k1, k2, k3⟩ := stepD_keeps hb he hv hcok hs
      have ho := stepD_fit hb he hv hcok hs
      obtain ⟨t3, t4⟩ := tot_flow hcok
      have hcl := hcok.len
      obtain ⟨sea, out, r1, r2, r3, r4, r5⟩ := accL_keeps (c := c) b.2.1 f s k1 (fun x hx => ⟨hb.link x hx, he x hx⟩) k3 h2 h3 (by omega) (by omega)
      have hR := accR_eq c.2.2.1 r hcok.flow h0 (by omega) (by omega)
      obtain ⟨sea', out', u1, u2, u3, u4, u5⟩ := ih qs o (r + tot c.2.2.1) (s.1 + sea, s.2 + out) hq ho (fun x hx => hc x (by simp [hx])) (by omega) (by omega) (by simp only; omega) (by simp only; omega) (by simp only; omega) (by simp only; omega)
      refine ⟨sea + sea', out + out', ?_, by omega, by omega, ?_, fun hop => ?_⟩
      · simp only [accD, hR, r1, u1, rivers]
        rw [Int.add_assoc, Int.add_assoc, Int.add_assoc]
      · simp only [lastD, rivers, u4]
        omega
      · unfold opens at hop
        rw [Bool.or_eq_false_iff, Bool.or_eq_false_iff] at hop
        rw [r5 hop.1.2 hop.1.1, u5 hop.2]
        rfl
end Go.Tw
