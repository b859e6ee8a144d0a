/- P25: BasinKeeps: the law's outer loop, the account. -/
import Derived.Test.YtkfigfhjbejikaaGreatDoorP24

set_option linter.all false
set_option maxRecDepth 100000
namespace Go.Tw
open Go.Vx Go.Vx.B Go.Proofs

theorem firstE_all : ∀ {l : List Int}, (∀ e ∈ l, e = 0) → firstE l = 0
  | [], _ => rfl
  | e :: l, h => by
    rw [firstE_cons, firstE_all (l := l) (fun x hx => h x (by simp [hx])), h e (by simp)]
    rfl

theorem ckVols_fit {b : Bas} {v : List Int} (h : Fit b.1.length v) : ckVols b v = 0 := by
  unfold ckVols
  rw [show ((v.length : Int) != (b.1.length : Int)) = false by rw [h.1]; simp, firstE_all (fun e he => by
    obtain ⟨x, hx, rfl⟩ := List.mem_map.1 he
    have := fit_mem h x hx
    unfold ckR
    rw [if_neg (by omega)])]
  rfl

theorem ckRun_of {b : Bas} {v : List Int} {l : List Cnd} (hb : ckBasin b = 0) (hv : Fit b.1.length v) (hl : l.length ≤ 96) (hc : ∀ c ∈ l, ckCond b c = 0) : ckRun b v l = 0 := by
  unfold ckRun ckCV ckConds
  rw [hb, ckVols_fit hv, dec_false (show ¬ (l.length : Int) > 96 by omega), firstE_all (fun e he => by
    obtain ⟨c, hc', rfl⟩ := List.mem_map.1 he
    exact hc c hc')]
  rfl

theorem tot_nonneg {v : List Int} {N : Nat} (h : Fit N v) : 0 ≤ tot v ∧ tot v ≤ 100000000 * (N : Int) := by
  obtain ⟨h1, h2⟩ := tot_bound (fit_mem h)
  rw [h.1] at h1 h2
  omega

theorem tot_flow {b : Bas} {c : Cnd} (h : CondOK b c) : 0 ≤ tot c.2.2.1 ∧ tot c.2.2.1 ≤ 100000 * (b.1.length : Int) := by
  obtain ⟨h1, h2⟩ := tot_bound h.flow
  rw [h.len] at h1 h2
  omega

def leaks (b : Bas) : Bool := b.2.1.any fun x => x.1 == kL

section
variable (V : List Int) (L : List Cnd) (b : Bas) (run : List (List Int)) (T97 : List Cnd) (a0 a1 a2 : Int)

theorem keeps_b31 (hk0 : ckBasin b = 0) (hn : ∀ n ∈ b.1, n.1.length < lenMax) (i : Int) (c : Cnd) (now : List Int) (riv : Int) (opn : Bool) (hv : Fit b.1.length now) (hc : ckCond b c = 0) (f o : List Int) (hs : stepD b now c = some (f, o)) (hr : idx run i = some o)
    (hriv : 0 ≤ riv ∧ riv ≤ 1000000000) :
    law04_BasinKeeps_b31 V L b run T97 a0 a1 a2 i c now riv opn = some (.inr (o, riv + tot c.2.2.1, (opn || leaks b) || c.2.1)) := by
  have hb := ckBasin_zero hk0
  have he := ckBasin_ends hk0
  have hcok := condOK_of hc
  have hmem : memMax = 68719476736 := rfl
  have h8 := hb.nodes
  have hl16 := hb.links
  have hvl := hv.1
  have hcl := hcok.len
  have hck : ckRun b now [c] = 0 := ckRun_of hk0 hv (by simp) (fun x hx => by simp at hx; subst hx; exact hc)
  obtain ⟨k1, k2, k3⟩ := stepD_keeps hb he hv hcok hs
  have ho := stepD_fit hb he hv hcok hs
  obtain ⟨t1, t2⟩ := tot_nonneg hv
  obtain ⟨t3, t4⟩ := tot_flow hcok
  unfold law04_BasinKeeps_b31
  rw [given_eq b (by omega) (by omega), ints_eq now (by omega), show (c.fst, c.snd.fst, c.snd.snd.fst, ()) = c from rfl, condition_eq c (by omega)]
  simp only [Option.bind_some]
  rw [flows_eq b now c hn (by omega) (by omega), bstep_eq b now c hn (by omega) (by omega), if_pos hck, if_pos hck, hs]
  simp only [Option.bind_some]
  rw [bifF (show ((0 : Int) != 0) = false from rfl), bifF (show ((0 : Int) != 0) = false from rfl), bifF (show ((f.length : Int) != (b.2.1.length : Int)) = false by rw [k1]; simp), rvols_eq b o (by rw [ho.1]; unfold lenMax; omega), ckVols_fit ho]
  simp only [Option.bind_some]
  rw [bifF (show ((0 : Int) != 0) = false from rfl), hr]
  simp only [Option.bind_some]
  rw [sameInts_refl o (by rw [ho.1]; unfold lenMax; omega)]
  simp only [Option.bind_some, Bool.not_true, cond_false]
  rw [total_eq now (fit_mem hv) (by omega), total_eq c.2.2.1 (fun x hx => by have := hcok.flow x hx; omega) (by omega)]
  simp only [Option.bind_some]
  rw [bifT (dec_true (show b.2.1.length < lenMax by unfold lenMax; omega)), show IntKind.i64.wrap (tot now + tot c.2.2.1) = tot now + tot c.2.2.1 from wr_small (by omega) (by omega)]
  rw [keeps_links V L b run riv i f o T97 (T97.length : Int) i b.2.1 a0 a1 a2 c.1 c.2.1 c.2.2.1 hb.link b.2.1 f [] [] 0 opn (tot now + tot c.2.2.1) rfl rfl rfl rfl k1 (fun j x g hx hg => k3 j x g hx hg) (by omega) (by omega)]
  rw [show tot now + tot c.2.2.1 + balL b.2.1 f = tot o by rw [k2], keeps_fin V L b run riv i f o T97 (T97.length : Int) i b.2.1 a0 a1 a2 c.1 c.2.1 c.2.2.1 _ (fit_mem ho) (by rw [ho.1]; exact h8) hcok.flow (by omega) o hr, wr_small (by omega) (by omega)]
  rfl
end

/-- What the rivers bring. -/
def rivers : List Cnd → Int
  | [] => 0
  | c :: l => tot c.2.2.1 + rivers l
def lastD (v : List Int) : List (Cnd × List Int × List Int) → List Int
  | [] => v
  | x :: ps => lastD x.2.2 ps
def opens (b : Bas) : List Cnd → Bool
  | [] => false
  | c :: l => leaks b || c.2.1 || opens b l

theorem rivers_bound {b : Bas} : ∀ {l : List Cnd}, (∀ c ∈ l, CondOK b c) → b.1.length ≤ 8 → 0 ≤ rivers l ∧ rivers l ≤ 800000 * (l.length : Int)
  | [], _, _ => by simp [rivers]
  | c :: l, h, h8 => by
    obtain ⟨h1, h2⟩ := tot_flow (h c (by simp))
    obtain ⟨h3, h4⟩ := rivers_bound (l := l) (fun x hx => h x (by simp [hx])) h8
    simp only [rivers, List.length_cons]
    have e : 800000 * ((l.length + 1 : Nat) : Int) = 800000 * (l.length : Int) + 800000 := by rw [Int.natCast_add, Int.mul_add]; simp
    have e2 : 100000 * (b.1.length : Int) ≤ 800000 := by omega
    omega

theorem keeps_loop (V : List Int) (L : List Cnd) (b : Bas) (run : List (List Int)) (T97 : List Cnd) (a0 a1 a2 : Int) (hk0 : ckBasin b = 0) (hn : ∀ n ∈ b.1, n.1.length < lenMax) : ∀ (l : List Cnd) (ps : List (Cnd × List Int × List Int)) (pr : List (List Int)) (i : Int) (now : List Int) (riv : Int) (opn : Bool),
    run = pr ++ ps.map (·.2.2) → i = (pr.length : Int) → runD b now l = some ps → Fit b.1.length now → (∀ c ∈ l, ckCond b c = 0) → 0 ≤ riv → riv + 800000 * (l.length : Int) ≤ 1000000000 →
    loopL (fun i__ e__ (s__ : List Int × Int × Bool) => law04_BasinKeeps_b31 V L b run T97 a0 a1 a2 i__ e__ s__.1 s__.2.1 s__.2.2) (fun s__ => law04_BasinKeeps_f31 V L b run T97 a0 a1 a2 s__.1 s__.2.1 s__.2.2) i l (now, riv, opn) =
      law04_BasinKeeps_f31 V L b run T97 a0 a1 a2 (lastD now ps) (riv + rivers l) (opn || opens b l) := by
  intro l
  induction l with
  | nil =>
    intro ps pr i now riv opn hr hi hps hv hc h0 h1
    simp only [runD, Option.some.injEq] at hps
    subst hps
    rw [loopL_nil]
    simp [lastD, rivers, opens]
  | cons c l ih =>
    intro ps pr i now riv opn hr hi hps hv hc h0 h1
    have hb := ckBasin_zero hk0
    have he := ckBasin_ends hk0
    have hcok := condOK_of (hc c (by simp))
    simp only [runD] at hps
    cases hs : stepD b now c with
    | none => rw [hs] at hps; cases hps
    | some y =>
      obtain ⟨f, o⟩ := y
      rw [hs] at hps
      simp only [Option.map_eq_some_iff] at hps
      obtain ⟨qs, hq, rfl⟩ := hps
      simp only [List.length_cons] at h1
      have e : 800000 * ((l.length + 1 : Nat) : Int) = 800000 * (l.length : Int) + 800000 := by rw [Int.natCast_add, Int.mul_add]; simp
      obtain ⟨t3, t4⟩ := tot_flow hcok
      have h8 := hb.nodes
      have ho := stepD_fit hb he hv hcok hs
      rw [loopL_cons]
      show (Option.bind (law04_BasinKeeps_b31 V L b run T97 a0 a1 a2 i c now riv opn) _) = _
      rw [keeps_b31 V L b run T97 a0 a1 a2 hk0 hn i c now riv opn hv (hc c (by simp)) f o hs (by rw [hr]; exact idx_mid pr o (qs.map (·.2.2)) i hi) ⟨h0, by omega⟩]
      simp only [Option.bind_some]
      rw [ih qs (pr ++ [o]) (i + 1) o (riv + tot c.2.2.1) _ (by rw [hr]; simp) (by simp [hi]) hq ho (fun x hx => hc x (by simp [hx])) (by omega) (by omega)]
      simp only [lastD, rivers, opens]
      rw [Int.add_assoc, Bool.or_assoc, Bool.or_assoc, ← Bool.or_assoc (leaks b)]
end Go.Tw
