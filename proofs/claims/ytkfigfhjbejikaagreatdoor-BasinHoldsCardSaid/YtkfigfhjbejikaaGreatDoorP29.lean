/- P29: BasinHolds: the law. -/
import Derived.Test.YtkfigfhjbejikaaGreatDoorP28
import Derived.Test.YtkfigfhjbejikaaGreatDoorB27

set_option linter.all false
set_option maxRecDepth 100000
namespace Go.Tw
open Go.Vx Go.Vx.B Go.Proofs

/-- The shares: six bytes. -/
structure PickOK (p : List Int) : Prop where
  len : p.length = 6
  byte : ∀ x ∈ p, 0 ≤ x ∧ x ≤ 255

theorem PickOK.at {p : List Int} (h : PickOK p) {i : Int} (h0 : 0 ≤ i) (h1 : i < 6) : ∃ s, idx p i = some s ∧ 0 ≤ s ∧ s ≤ 255 := by
  have hi : i.toNat < p.length := by rw [h.len]; omega
  refine ⟨p[i.toNat], ?_, h.byte _ (List.getElem_mem hi)⟩
  unfold idx
  rw [if_pos h0]
  exact List.getElem?_eq_getElem hi

theorem tmod6 {n : Int} (h0 : 0 ≤ n) (h1 : n ≤ 1000000) : 0 ≤ (wr n).tmod 6 ∧ (wr n).tmod 6 < 6 := by
  rw [wr_small (by omega) (by omega), Int.tmod_eq_emod_of_nonneg h0]; omega

theorem copied_all (l : List Cnd) (hl : l.length ≤ memMax) (hc : ∀ c ∈ l, c.2.2.1.length ≤ memMax) : z0K_M l = some (l, ()) := by
  have hm := memMax_lt
  unfold z0K_M
  rw [bifT (dec_true (show l.length < lenMax by omega)), loopL_app (fun c => c) l 0 [] (by simpa using hl) (fun i e s he hs => by
    unfold z0K_b0
    rw [ints_eq _ (hc e he)]
    simp only [Option.bind_some]
    rw [bifT (dec_true hs)])]
  simp only [List.map_id_fun', id_eq, List.nil_append]
  rfl

theorem rckRanges (b : Bas) (l : List Rng) (hl : l.length < lenMax) (hr : ∀ r ∈ l, r.2.2.1.length < lenMax) : zg_M b l = some (firstOf (ckBasin b) (ckRngs b l), ()) := by
  unfold zg_M zg_m firstOf
  rw [rbasin_eq]
  simp only [Option.bind_some]
  cases (ckBasin b != 0) with
  | true => rfl
  | false =>
    simp only [cond_false]
    rw [if_neg (by simp), rRngs_eq b l hl hr]
    rfl

theorem InRs.app : ∀ {l : List Rng} {q : List Cnd} {x : Rng} {n : Cnd}, InRs l q → InR x n → InRs (l ++ [x]) (q ++ [n])
  | [], [], _, _, _, h => ⟨h, trivial⟩
  | _ :: l, _ :: q, _, _, h, h2 => ⟨h.1, InRs.app h.2 h2⟩
  | [], _ :: _, _, _, h, _ => h.elim
  | _ :: _, [], _, _, h, _ => h.elim

theorem byte_wf {y : Int} (h : (Lit.int .u8 y).wf = true) : 0 ≤ y ∧ y ≤ 255 := by
  simp only [Lit.wf, Bool.and_eq_true, decide_eq_true_eq] at h
  have e1 : IntKind.min .u8 = 0 := by decide
  have e2 : IntKind.max .u8 = 255 := by decide
  omega

/-! ### The intervals of volumes -/
theorem holds_nodes (L : List Rng) (b : Bas) (p : List Int) (hp : PickOK p) (N : List Nod) : ∀ (nl : List Nod) (i : Int) (v : List Itv) (m : List Int), 0 ≤ i → i + nl.length ≤ 8 → v.length + nl.length ≤ 8 → (∀ n ∈ nl, 1 ≤ n.2.1 ∧ n.2.1 ≤ 1000) → InAll v m →
    (∀ x ∈ v, 0 ≤ x.1 ∧ x.1 ≤ x.2.1 ∧ x.2.1 ≤ 100000000) →
    ∃ v' m', loopL (fun i__ e__ (s__ : List Itv × List Int) => zo_b9 L b p N i__ e__ s__.1 s__.2) (fun s__ => zo_f9 L b p N s__.1 s__.2) i nl (v, m) = zo_f9 L b p N v' m' ∧
      v'.length = v.length + nl.length ∧ InAll v' m' ∧ (∀ x ∈ v', 0 ≤ x.1 ∧ x.1 ≤ x.2.1 ∧ x.2.1 ≤ 100000000)
  | [], i, v, m, _, _, _, _, hin, hv => ⟨v, m, rfl, by simp, hin, hv⟩
  | n :: nl, i, v, m, h0, h8, hvl, ha, hin, hv => by
    simp only [List.length_cons] at h8 hvl
    obtain ⟨s0, e0, a0, b0⟩ := hp.at (i := 0) (by omega) (by omega)
    obtain ⟨s1, e1, a1, b1⟩ := hp.at (i := 1) (by omega) (by omega)
    obtain ⟨s2, e2, a2, b2⟩ := hp.at (i := 2) (by omega) (by omega)
    have hml := hin.len
    have hmem : memMax = 68719476736 := rfl
    have ar := ha n (by simp)
    have t0 : 0 ≤ s0.tmod 16 ∧ s0.tmod 16 ≤ 15 := by rw [Int.tmod_eq_emod_of_nonneg a0]; omega
    have q1 : 0 ≤ n.2.1 * s0.tmod 16 ∧ n.2.1 * s0.tmod 16 ≤ 15000 := ⟨Int.mul_nonneg (by omega) t0.1, by
      have := Int.mul_le_mul (show n.2.1 ≤ 1000 by omega) t0.2 t0.1 (show (0 : Int) ≤ 1000 by omega)
      omega⟩
    have q2 : 0 ≤ n.2.1 * s0.tmod 16 * (i + 1) ∧ n.2.1 * s0.tmod 16 * (i + 1) ≤ 120000 := ⟨Int.mul_nonneg q1.1 (by omega), by
      have := Int.mul_le_mul q1.2 (show i + 1 ≤ 8 by omega) (show 0 ≤ i + 1 by omega) (show (0 : Int) ≤ 15000 by omega)
      omega⟩
    obtain ⟨t2, t3⟩ := tmod17 a2
    obtain ⟨g1, g2, g3, g4⟩ := share16 (d := s1) (m := s2.tmod 17) a1 t2 t3
    have w1 : wr (wr (n.2.1 * (wr s0).tmod 16) * wr (i + 1)) = n.2.1 * s0.tmod 16 * (i + 1) := by
      rw [wr_small (n := s0) (by omega) (by omega), wr_small (n := n.2.1 * s0.tmod 16) (by omega) (by omega), wr_small (n := i + 1) (by omega) (by omega), wr_small (by omega) (by omega)]
    have w2 : wr ((wr s1 * (wr s2).tmod 17)) = s1 * s2.tmod 17 := by
      rw [wr_small (n := s1) (by omega) (by omega), wr_small (n := s2) (by omega) (by omega), wr_small (by omega) (by omega)]
    have hbody : zo_b9 L b p N i n v m = some (.inr (v ++ [(n.2.1 * s0.tmod 16 * (i + 1), n.2.1 * s0.tmod 16 * (i + 1) + s1, ())], m ++ [n.2.1 * s0.tmod 16 * (i + 1) + s1 * s2.tmod 17 / 16])) := by
      unfold zo_b9
      rw [e0, e1, e2]
      simp only [Option.bind_some]
      rw [bifT (dec_true (show v.length + 1 ≤ memMax by omega)), bifT (dec_true (show m.length + 1 ≤ memMax by omega))]
      show some (Sum.inr (v ++ [(wr (wr (n.2.1 * (wr s0).tmod 16) * wr (i + 1)), wr (wr (wr (n.2.1 * (wr s0).tmod 16) * wr (i + 1)) + wr s1), ())], m ++ [wr (wr (wr (n.2.1 * (wr s0).tmod 16) * wr (i + 1)) + wr ((wr (wr s1 * (wr s2).tmod 17)).tdiv 16))])) = _
      rw [w1, w2, wr_small (n := s1) (by omega) (by omega), Int.tdiv_eq_ediv_of_nonneg g3, wr_small (n := s1 * s2.tmod 17 / 16) (by omega) (by omega)]
      generalize n.2.1 * s0.tmod 16 * (i + 1) = lo at q2
      generalize s1 * s2.tmod 17 / 16 = k at g1 g2
      rw [wr_small (n := lo + s1) (by omega) (by omega), wr_small (n := lo + k) (by omega) (by omega)]
    generalize n.2.1 * s0.tmod 16 * (i + 1) = lo at q2 hbody
    generalize s1 * s2.tmod 17 / 16 = k at g1 g2 hbody
    obtain ⟨v', m', r1, r2, r3, r4⟩ := holds_nodes L b p hp N nl (i + 1) (v ++ [(lo, lo + s1, ())]) (m ++ [lo + k]) (by omega) (by omega) (by simp; omega) (fun x hx => ha x (by simp [hx])) (hin.app ⟨by show lo ≤ lo + k; omega, by show lo + k ≤ lo + s1; omega⟩) (fun x hx => by
      rcases List.mem_append.1 hx with hx | hx
      · exact hv x hx
      · simp only [List.mem_singleton] at hx
        subst hx
        show 0 ≤ lo ∧ lo ≤ lo + s1 ∧ lo + s1 ≤ 100000000
        omega)
    refine ⟨v', m', ?_, by rw [r2]; simp; omega, r3, r4⟩
    rw [loopL_cons]
    show (Option.bind (zo_b9 L b p N i n v m) _) = _
    rw [hbody]
    exact r1

/-! ### A range's conditions -/
theorem holds_in {b : Bas} {r : Rng} {c : Cnd} (hn : ∀ n ∈ b.1, n.1.length < lenMax) (h8 : b.1.length ≤ 8) (hr : RngOK b r) (hck : ckRngB b r = 0) (hc : InR r c) : z0H_M b r c = some (true, 0, ()) := by
  have hmem : memMax = 68719476736 := rfl
  have h1 := hr.len
  have h2 := hc.flow.len
  rw [bwithin_eq b r c hn (by omega) (by omega), hck, hc.ok hr, hc.permits]
  rfl

theorem holds_out {b : Bas} {r : Rng} {c : Cnd} (hn : ∀ n ∈ b.1, n.1.length < lenMax) (h8 : b.1.length ≤ 8) (hr : RngOK b r) (hck : ckRngB b r = 0) (hc : InR r c) : ∃ e : Int, (e = 0 ∨ e = 3) ∧ z0H_M b r (r.1.2.1 + 1, c.2.1, c.2.2.1, ()) = some (false, e, ()) := by
  have hmem : memMax = 68719476736 := rfl
  have h1 := hr.len
  have h2 := hc.flow.len
  rw [bwithin_eq b r _ hn (by omega) (by show c.2.2.1.length ≤ memMax; omega), hck, beyond_not]
  rcases beyond_ck hc hr with h | h
  · exact ⟨0, .inl rfl, by rw [h]; rfl⟩
  · exact ⟨3, .inr rfl, by rw [h]; rfl⟩

section
variable (L : List Rng) (b : Bas) (p : List Int) (hp : PickOK p) (i : Int) (h0 : 0 ≤ i) (h12 : i ≤ 12) (T : List Rng) (tn ti : Int) (Q V : List Itv) (M : List Int) (S : List Cnd) (x0 x1 : Int) (x2 : Bool) (x3 : List Itv) (y0 : Int) (y1 : Bool)
include hp h0 h12

theorem holds_flows : ∀ (xs : List Itv) (t : Int) (q : List Int) (done : List Itv), 0 ≤ t → t + xs.length ≤ 8 → q.length + xs.length ≤ 8 → (∀ x ∈ xs, 0 ≤ x.1 ∧ x.1 ≤ x.2.1 ∧ x.2.1 ≤ 100000) → InAll done q →
    ∃ q', loopL (fun i__ e__ s__ => zo_b18 L b p i T tn ti Q V M S x0 x1 x2 x3 y0 y1 i__ e__ s__) (fun s__ => zo_f18 L b p i T tn ti Q V M S x0 x1 x2 x3 y0 y1 s__) t xs q = zo_f18 L b p i T tn ti Q V M S x0 x1 x2 x3 y0 y1 q' ∧ InAll (done ++ xs) q'
  | [], t, q, done, _, _, _, _, hin => ⟨q, rfl, by simpa using hin⟩
  | x :: xs, t, q, done, ht, h8, hq, hx, hin => by
    simp only [List.length_cons] at h8 hq
    have hmem : memMax = 68719476736 := rfl
    obtain ⟨m1, m2⟩ := tmod6 (n := i + t) (by omega) (by omega)
    obtain ⟨s, e, s1, s2⟩ := hp.at m1 m2
    have hx0 := hx x (by simp)
    obtain ⟨n, n1, n2⟩ := betw_in (x := x) (s := s) hx0.2.1 (by omega) hx0.2.2 s1 s2
    have hbody : zo_b18 L b p i T tn ti Q V M S x0 x1 x2 x3 y0 y1 t x q = some (.inr (q ++ [n])) := by
      unfold zo_b18
      rw [show IntKind.i64.wrap (i + t) = wr (i + t) from rfl, e]
      simp only [Option.bind_some]
      rw [bifT (dec_true (show q.length + 1 ≤ memMax by omega)), show ((x.fst, x.snd.fst, ()) : Itv) = x from rfl, n1]
    obtain ⟨q', r1, r2⟩ := holds_flows xs (t + 1) (q ++ [n]) (done ++ [x]) (by omega) (by omega) (by simp; omega) (fun y hy => hx y (by simp [hy])) (hin.app n2)
    refine ⟨q', ?_, by simpa using r2⟩
    rw [loopL_cons, hbody]
    exact r1
end

theorem holds_f18 (L : List Rng) (b : Bas) (p : List Int) (i : Int) (T : List Rng) (tn ti : Int) (Q V : List Itv) (M : List Int) (S : List Cnd) (r : Rng) (y0 : Int) (q : List Int) (hn : ∀ n ∈ b.1, n.1.length < lenMax) (h8 : b.1.length ≤ 8) (h16 : b.2.1.length ≤ 16)
    (hS : S.length ≤ 12) (hr : RngOK b r) (hck : ckRngB b r = 0) (hc : InR r (y0, r.2.1, q, ())) :
    zo_f18 L b p i T tn ti Q V M S r.1.1 r.1.2.1 r.2.1 r.2.2.1 y0 r.2.1 q = some (.inr (S ++ [(y0, r.2.1, q, ())])) := by
  have hmem : memMax = 68719476736 := rfl
  have h1 := hr.len
  have h2 : q.length = r.2.2.1.length := hc.flow.len
  have ht := hr.tide
  obtain ⟨e, he, h3⟩ := holds_out hn h8 hr hck hc
  have h3 : z0H_M b r (wr (r.1.2.1 + 1), r.2.1, q, ()) = some (false, e, ()) := by rw [wr_small (by omega) (by omega)]; exact h3
  unfold zo_f18
  rw [given_eq b (by omega) (by omega), show (((r.1.1, r.1.2.1, ()), r.2.1, r.2.2.1, ()) : Rng) = r from rfl, one_eq r (by omega), ints_eq q (by omega)]
  simp only [Option.bind_some]
  rw [holds_in hn h8 hr hck hc, show IntKind.i64.wrap (r.1.2.1 + 1) = wr (r.1.2.1 + 1) from rfl, h3]
  simp only [Option.bind_some]
  rw [bifF (show ((0 : Int) != 0) = false from rfl)]
  simp only [Bool.not_true, cond_false]
  rw [bifT (dec_true (show S.length + 1 ≤ memMax by omega))]
  rcases he with rfl | rfl <;> rfl

section
variable (b : Bas) (p : List Int) (hp : PickOK p) (T : List Rng) (V : List Itv) (M : List Int) (hk0 : ckBasin b = 0) (hn : ∀ n ∈ b.1, n.1.length < lenMax)
include hp hk0 hn

theorem holds_b15 (L : List Rng) (i : Int) (r : Rng) (S : List Cnd) (h0 : 0 ≤ i) (h12 : i ≤ 12) (hS : S.length ≤ 12) (hck : ckRng b r = 0) : ∃ c, zo_b15 L b p T V M i r S = some (.inr (S ++ [c])) ∧ InR r c := by
  have hb := ckBasin_zero hk0
  have h8 := hb.nodes
  have h16 := hb.links
  have hr := rngOK_of hck
  have hrl := hr.len
  have hcb : ckRngB b r = 0 := by unfold ckRngB; rw [hk0, hck]; rfl
  obtain ⟨m1, m2⟩ := tmod6 (n := i + 3) (by omega) (by omega)
  obtain ⟨s, e, s1, s2⟩ := hp.at m1 m2
  have ht := hr.tide
  obtain ⟨y0, n1, n2⟩ := betw_in (x := r.1) (s := s) ht.2.1 ht.1 (by omega) s1 s2
  obtain ⟨q, q1, q2⟩ := holds_flows L b p hp i h0 h12 T (↑T.length : Int) i r.2.2.1 V M S r.1.1 r.1.2.1 r.2.1 r.2.2.1 y0 r.2.1 r.2.2.1 0 [] [] (by omega) (by omega) (by simp; omega) hr.flow trivial
  have hc : InR r (y0, r.2.1, q, ()) := ⟨n2, rfl, q2⟩
  refine ⟨(y0, r.2.1, q, ()), ?_, hc⟩
  unfold zo_b15
  rw [show IntKind.i64.wrap (i + 3) = wr (i + 3) from rfl, e]
  simp only [Option.bind_some]
  rw [bifT (dec_true (show r.2.2.1.length < lenMax by unfold lenMax; omega)), show ((r.1.1, r.1.2.1, ()) : Itv) = r.1 from rfl, n1]
  exact q1.trans (holds_f18 L b p i T _ i r.2.2.1 V M S r y0 q hn h8 h16 hS hr hcb hc)

theorem holds_ranges (L : List Rng) : ∀ (l : List Rng) (i : Int) (S : List Cnd) (done : List Rng), 0 ≤ i → i + l.length ≤ 12 → S.length + l.length ≤ 12 → (∀ r ∈ l, ckRng b r = 0) → InRs done S →
    ∃ S', loopL (fun i__ e__ s__ => zo_b15 L b p T V M i__ e__ s__) (fun s__ => zo_f15 L b p T V M s__) i l S = zo_f15 L b p T V M S' ∧ InRs (done ++ l) S'
  | [], i, S, done, _, _, _, _, hin => ⟨S, rfl, by simpa using hin⟩
  | r :: l, i, S, done, h0, h12, hS, hck, hin => by
    simp only [List.length_cons] at h12 hS
    obtain ⟨c, hbody, hc⟩ := holds_b15 b p hp T V M hk0 hn L i r S h0 (by omega) (by omega) (hck r (by simp))
    obtain ⟨S', r1, r2⟩ := holds_ranges L l (i + 1) (S ++ [c]) (done ++ [r]) (by omega) (by omega) (by simp; omega) (fun x hx => hck x (by simp [hx])) (hin.app hc)
    refine ⟨S', ?_, by simpa using r2⟩
    rw [loopL_cons, hbody]
    exact r1
end

/-! ### The ends of the volumes -/
theorem holds_ends (L : List Rng) (b : Bas) (V : List Itv) (M : List Int) (S : List Cnd) (X : List (List Itv)) (hi lo : List Cnd) (R : List (List Int)) (T : List Itv) : ∀ (vs : List Itv) (i : Int) (c d : List Int), c.length + vs.length ≤ memMax → d.length + vs.length ≤ memMax →
    loopL (fun i__ e__ (s__ : List Int × List Int) => zo_b66 L b V M S X hi lo R T i__ e__ s__.1 s__.2) (fun s__ => zo_f66 L b V M S X hi lo R T s__.1 s__.2) i vs (c, d) = zo_f66 L b V M S X hi lo R T (c ++ vs.map (endI false)) (d ++ vs.map (endI true))
  | [], i, c, d, _, _ => by rw [loopL_nil]; simp
  | x :: vs, i, c, d, h1, h2 => by
    simp only [List.length_cons] at h1 h2
    have hbody : zo_b66 L b V M S X hi lo R T i x c d = some (.inr (c ++ [endI false x], d ++ [endI true x])) := by
      unfold zo_b66
      rw [bifT (dec_true (show c.length + 1 ≤ memMax by omega)), bifT (dec_true (show d.length + 1 ≤ memMax by omega))]
      rfl
    rw [loopL_cons]
    show (Option.bind (zo_b66 L b V M S X hi lo R T i x c d) _) = _
    rw [hbody]
    simp only [Option.bind_some]
    rw [holds_ends L b V M S X hi lo R T vs (i + 1) _ _ (by simp; omega) (by simp; omega)]
    simp

/-! ### What is enclosed -/
section
variable (L : List Rng) (b : Bas) (V : List Itv) (M : List Int) (S : List Cnd) (X : List (List Itv)) (HI : List Cnd) (R : List (List Int)) (top : List Int) (LO UP : List (List Int))

theorem holds_inner (i n1 n2 : Int) (E : List Itv) (rr lo up : List Int) (hR : idx R i = some rr) (hL : idx LO i = some lo) (hU : idx UP i = some up) : ∀ (a r c pa pr pc : List Int) (k : Int), lo = pa ++ a → rr = pr ++ r → up = pc ++ c → k = (pa.length : Int) → k = (pr.length : Int) → k = (pc.length : Int) →
    a.length = r.length → c.length = r.length → (∀ j, gv a j ≤ gv r j ∧ gv r j ≤ gv c j) →
    loopL (fun i__ e__ (s__ : Unit) => zo_b90 L b V M S X HI R top LO UP i n1 n2 E i__ e__) (fun s__ => zo_f90 L b V M S X HI R top LO UP i n1 n2 E) k (encRow a c) () = some (.inr ())
  | [], [], [], _, _, _, _, _, _, _, _, _, _, _, _, _ => rfl
  | x :: a, y :: r, z :: c, pa, pr, pc, k, e1, e2, e3, k1, k2, k3, l1, l2, hle => by
    have h0 : x ≤ y ∧ y ≤ z := hle 0
    have hbody : zo_b90 L b V M S X HI R top LO UP i n1 n2 E k (x, z, ()) = some (.inr ()) := by
      unfold zo_b90
      rw [hR, hL, hU]
      simp only [Option.bind_some]
      rw [e1, e2, e3, idx_mid pr y r k k2, idx_mid pa x a k k1, idx_mid pc z c k k3]
      simp only [Option.bind_some]
      rw [bifF (dec_false (show ¬ x > y by omega)), bifF (dec_false (show ¬ y > z by omega)), bifF (show (x != x) = false by simp), bifF (show (z != z) = false by simp)]
    show loopL _ _ k ((x, z, ()) :: encRow a c) () = _
    rw [loopL_cons, hbody]
    simp only [Option.bind_some]
    exact holds_inner i n1 n2 E rr lo up hR hL hU a r c (pa ++ [x]) (pr ++ [y]) (pc ++ [z]) (k + 1) (by rw [e1]; simp) (by rw [e2]; simp) (by rw [e3]; simp) (by rw [k1]; simp) (by rw [k2]; simp) (by rw [k3]; simp) (by simpa using l1) (by simpa using l2) (fun j => hle (j + 1))
  | [], _ :: _, _, _, _, _, _, _, _, _, _, _, _, h, _, _ => by simp at h
  | _ :: _, [], _, _, _, _, _, _, _, _, _, _, _, h, _, _ => by simp at h
  | _, [], _ :: _, _, _, _, _, _, _, _, _, _, _, _, h, _ => by simp at h
  | _, _ :: _, [], _, _, _, _, _, _, _, _, _, _, _, h, _ => by simp at h

theorem holds_rows (h8 : b.1.length ≤ 8) : ∀ (los rs ups : List (List Int)) (pl pr pu : List (List Int)) (px : List (List Itv)) (i : Int), LO = pl ++ los → R = pr ++ rs → UP = pu ++ ups → X = px ++ encRows los ups →
    i = (pl.length : Int) → i = (pr.length : Int) → i = (pu.length : Int) → i = (px.length : Int) → los.length = rs.length → ups.length = rs.length →
    (∀ x ∈ los, x.length = b.1.length) → (∀ x ∈ rs, x.length = b.1.length) → (∀ x ∈ ups, x.length = b.1.length) →
    (∀ (j : Nat) a r c, los[j]? = some a → rs[j]? = some r → ups[j]? = some c → Le a r ∧ Le r c) →
    loopL (fun i__ e__ (s__ : Unit) => zo_b78 L b V M S X HI R top LO UP i__ e__) (fun s__ => zo_f78 L b V M S X HI R top LO UP) i (encRows los ups) () = zo_f78 L b V M S X HI R top LO UP
  | [], [], [], _, _, _, _, _, _, _, _, _, _, _, _, _, _, _, _, _, _, _ => rfl
  | a :: los, r :: rs, c :: ups, pl, pr, pu, px, i, e1, e2, e3, e4, i1, i2, i3, i4, l1, l2, n1, n2, n3, hle => by
    have hR : idx R i = some r := by rw [e2]; exact idx_mid pr r rs i i2
    have hL : idx LO i = some a := by rw [e1]; exact idx_mid pl a los i i1
    have hU : idx UP i = some c := by rw [e3]; exact idx_mid pu c ups i i3
    have hX : idx X i = some (encRow a c) := by rw [e4]; exact idx_mid px (encRow a c) (encRows los ups) i i4
    have la := n1 a (by simp)
    have lr := n2 r (by simp)
    have lc := n3 c (by simp)
    have lx : (encRow a c).length = b.1.length := by unfold encRow; simp; omega
    have hl := hle 0 a r c rfl rfl rfl
    have hbody : zo_b78 L b V M S X HI R top LO UP i (encRow a c) = some (.inr ()) := by
      unfold zo_b78
      rw [lx, bifF (show (((b.1.length : Nat) : Int) != (b.1.length : Int)) = false by simp), hR]
      simp only [Option.bind_some]
      rw [lr, bifF (show (((b.1.length : Nat) : Int) != (b.1.length : Int)) = false by simp), hL]
      simp only [Option.bind_some]
      rw [la, bifF (show (((b.1.length : Nat) : Int) != (b.1.length : Int)) = false by simp), hU]
      simp only [Option.bind_some]
      rw [lc, bifF (show (((b.1.length : Nat) : Int) != (b.1.length : Int)) = false by simp), hX]
      simp only [Option.bind_some]
      rw [bifT (dec_true (show (encRow a c).length < lenMax by unfold lenMax; omega))]
      exact holds_inner L b V M S X HI R top LO UP i _ i (encRow a c) r a c hR hL hU a r c [] [] [] 0 rfl rfl rfl rfl rfl rfl (by omega) (by omega) (fun j => ⟨hl.1 j, hl.2 j⟩)
    show loopL _ _ i (encRow a c :: encRows los ups) () = _
    rw [loopL_cons, hbody]
    simp only [Option.bind_some]
    exact holds_rows h8 los rs ups (pl ++ [a]) (pr ++ [r]) (pu ++ [c]) (px ++ [encRow a c]) (i + 1) (by rw [e1]; simp) (by rw [e2]; simp) (by rw [e3]; simp) (by rw [e4]; simp [encRows]) (by rw [i1]; simp) (by rw [i2]; simp) (by rw [i3]; simp) (by rw [i4]; simp)
      (by simpa using l1) (by simpa using l2) (fun x hx => n1 x (by simp [hx])) (fun x hx => n2 x (by simp [hx])) (fun x hx => n3 x (by simp [hx])) (fun j a r c h1 h2 h3 => hle (j + 1) a r c (by simpa using h1) (by simpa using h2) (by simpa using h3))
  | [], _ :: _, _, _, _, _, _, _, _, _, _, _, _, _, _, _, h, _, _, _, _, _ => by simp at h
  | _ :: _, [], _, _, _, _, _, _, _, _, _, _, _, _, _, _, h, _, _, _, _, _ => by simp at h
  | _, [], _ :: _, _, _, _, _, _, _, _, _, _, _, _, _, _, _, h, _, _, _, _ => by simp at h
  | _, _ :: _, [], _, _, _, _, _, _, _, _, _, _, _, _, _, _, h, _, _, _, _ => by simp at h
end

/-! ### The law -/
section
variable (l : List Rng) (b : Bas) (V : List Itv) (M : List Int) (S : List Cnd) (hk0 : ckBasin b = 0) (hn : ∀ n ∈ b.1, n.1.length < lenMax) (hl : l.length ≤ 12) (hck : ∀ r ∈ l, ckRng b r = 0) (hv : VolsOK b V M) (hS : InRs l S)
include hk0 hn hl hck hv hS

theorem holds_enc : ckEnc b V l = 0 := by
  unfold ckEnc ckRngs
  rw [hk0, hv.ck, dec_false (show ¬ (l.length : Int) > 96 by omega), firstE_all0 (by
    intro e he
    obtain ⟨r, hr, rfl⟩ := List.mem_map.1 he
    exact hck r hr)]
  rfl

theorem holds_end (X : List (List Itv)) (R LO UP : List (List Int)) (hp ps : List (Cnd × List Int × List Int)) (hh : runD b (V.map (endI true)) (l.map (cornR true)) = some hp) (hr : runD b M S = some ps) (hle : RowsLe ps hp) :
    zo_f78 l b V M S X (l.map (cornR true)) R (V.map (endI true)) LO UP = some (true, ()) := by
  have hmem : memMax = 68719476736 := rfl
  have aw : (z0Z_M.bind fun v6 => some (v6.1, ())) = some (true, ()) := by rw [awake_true]; rfl
  have hb := ckBasin_zero hk0
  have he := ckBasin_ends hk0
  have h8 := hb.nodes
  have h16 := hb.links
  have hro : ∀ r ∈ l, RngOK b r := fun r h => rngOK_of (hck r h)
  have hvl := hv.len
  have hSl := hS.len
  have h0 := holds_enc l b V M S hk0 hn hl hck hv hS
  have hSc := hS.ok hro
  have hTc := (InRs.corn (b := b) true hro).ok hro
  obtain ⟨y1, y2, f1⟩ := bFirstM b M S hk0 hn hv.fit (by omega) hSc hr
  obtain ⟨z1, z2, f2⟩ := bFirstM b (V.map (endI true)) (l.map (cornR true)) hk0 hn (hv.corn true).fit (by simp; omega) hTc hh
  have hsafe : safeD b V l = (!(hp.any fun x => wet b x.2.2), 0, ()) := by unfold safeD runC; rw [hh]
  unfold zo_f78
  rw [given_eq b (by omega) (by omega), intervals_eq V (by omega), ranges_eq l (by omega) (fun r h => by have := (hro r h).len; omega), copied_all S (by omega) (fun c h => by have := (condOK_of (hSc c h)).len; omega)]
  simp only [Option.bind_some]
  rw [bSafe_eq b V l hn h0, f1, f2, hsafe]
  simp only [Option.bind_some]
  rw [bifT (show ((0 : Int) == 0) = true from rfl)]
  cases hw : hp.any fun x => wet b x.2.2 with
  | true => exact aw
  | false =>
    have hpw : (ps.any fun x => wet b x.2.2) = false := by
      cases hq : ps.any fun x => wet b x.2.2 with
      | false => rfl
      | true =>
        have := wets_mono hb ps hp (runD_fit hb he hv.fit (fun c h => condOK_of (hSc c h)) hr) (runD_fit hb he (hv.corn true).fit (fun c h => condOK_of (hTc c h)) hh) hle hq
        rw [hw] at this
        cases this
    rw [hpw]
    exact aw

theorem holds_f66 (hp ps lp : List (Cnd × List Int × List Int)) (hh : runD b (V.map (endI true)) (l.map (cornR true)) = some hp) (hr : runD b M S = some ps) (hlo : runD b (V.map (endI false)) (l.map (cornR false)) = some lp)
    (hle : RowsLe ps hp) (hle2 : RowsLe lp ps) :
    zo_f66 l b V M S (encRows (lp.map (·.2.2)) (hp.map (·.2.2))) (l.map (cornR true)) (l.map (cornR false)) (ps.map (·.2.2)) V (V.map (endI false)) (V.map (endI true)) = some (true, ()) := by
  have hmem : memMax = 68719476736 := rfl
  have hb := ckBasin_zero hk0
  have h8 := hb.nodes
  have h16 := hb.links
  have hro : ∀ r ∈ l, RngOK b r := fun r h => rngOK_of (hck r h)
  have hvl := hv.len
  have hSl := hS.len
  have hTc := (InRs.corn (b := b) true hro).ok hro
  have hLc := (InRs.corn (b := b) false hro).ok hro
  have hSc := hS.ok hro
  obtain ⟨k1, k2⟩ := runD_outs hb (hv.corn true).fit.1 (fun c h => (condOK_of (hTc c h)).len) hh
  obtain ⟨k3, k4⟩ := runD_outs hb (hv.corn false).fit.1 (fun c h => (condOK_of (hLc c h)).len) hlo
  obtain ⟨k5, k6⟩ := runD_outs hb hv.fit.1 (fun c h => (condOK_of (hSc c h)).len) hr
  rw [List.length_map] at k1 k3
  unfold zo_f66
  rw [given_eq b (by omega) (by omega), ints_eq (V.map (endI true)) (by simp; omega), copied_all (l.map (cornR true)) (by simp; omega) (fun c h => by have := (condOK_of (hTc c h)).len; omega)]
  simp only [Option.bind_some]
  rw [bRunM b (V.map (endI false)) (l.map (cornR false)) hk0 hn (hv.corn false).fit (by simp; omega) hLc, hlo]
  simp only [Option.bind_some]
  rw [bRunM b (V.map (endI true)) (l.map (cornR true)) hk0 hn (hv.corn true).fit (by simp; omega) hTc, hh]
  simp only [Option.bind_some]
  rw [bifF (show (IntKind.i64.wrap ((0 : Int) + 0) != 0) = false by rfl), bifF (show (((lp.map (·.2.2)).length : Int) != (l.length : Int)) = false by simp [k3]), bifF (show (((hp.map (·.2.2)).length : Int) != (l.length : Int)) = false by simp [k1]),
    bifT (dec_true (show (encRows (lp.map (·.2.2)) (hp.map (·.2.2))).length < lenMax by simp [encRows, lenMax]; omega)),
    holds_rows l b V M S (encRows (lp.map (·.2.2)) (hp.map (·.2.2))) (l.map (cornR true)) (ps.map (·.2.2)) (V.map (endI true)) (lp.map (·.2.2)) (hp.map (·.2.2)) h8 (lp.map (·.2.2)) (ps.map (·.2.2)) (hp.map (·.2.2)) [] [] [] [] 0 rfl rfl rfl rfl rfl rfl rfl rfl (by simp; omega) (by simp; omega)
      (fun x hx => by obtain ⟨y, hy, rfl⟩ := List.mem_map.1 hx; exact (k4 y hy).1) (fun x hx => by obtain ⟨y, hy, rfl⟩ := List.mem_map.1 hx; exact (k6 y hy).1) (fun x hx => by obtain ⟨y, hy, rfl⟩ := List.mem_map.1 hx; exact (k2 y hy).1)
      (fun j a r c h1 h2 h3 => by
        rw [List.getElem?_map, Option.map_eq_some_iff] at h1 h2 h3
        obtain ⟨xa, h1, rfl⟩ := h1
        obtain ⟨xr, h2, rfl⟩ := h2
        obtain ⟨xc, h3, rfl⟩ := h3
        exact ⟨hle2.at j xa xr h1 h2, hle.at j xr xc h2 h3⟩)]
  exact holds_end l b V M S hk0 hn hl hck hv hS _ _ _ _ hp ps hh hr hle

theorem holds_f15 (p : List Int) (T : List Rng) : zo_f15 l b p T V M S = some (true, ()) := by
  have hmem : memMax = 68719476736 := rfl
  have aw : (z0Z_M.bind fun v6 => some (v6.1, ())) = some (true, ()) := by rw [awake_true]; rfl
  have hb := ckBasin_zero hk0
  have h8 := hb.nodes
  have h16 := hb.links
  have hro : ∀ r ∈ l, RngOK b r := fun r h => rngOK_of (hck r h)
  have hvl := hv.len
  have hSl := hS.len
  have hrl : ∀ r ∈ l, r.2.2.1.length ≤ memMax := fun r h => by have := (hro r h).len; omega
  have hSc := hS.ok hro
  have h0 := holds_enc l b V M S hk0 hn hl hck hv hS
  have hk : firstOf (ckBasin b) (ckRngs b l) = 0 := by
    obtain ⟨h1, h2⟩ := firstOf_eq0 h0
    rw [h1, (firstOf_eq0 h2).2]
    rfl
  unfold zo_f15
  rw [given_eq b (by omega) (by omega), intervals_eq V (by omega), ranges_eq l (by omega) hrl, copied_all S (by omega) (fun c h => by have := (condOK_of (hSc c h)).len; omega)]
  simp only [Option.bind_some]
  rw [benclose_eq b V l hn h0]
  simp only [Option.bind_some]
  unfold encD runC
  cases hh : runD b (V.map (endI true)) (l.map (cornR true)) with
  | none => exact aw
  | some hp =>
    obtain ⟨ps, hr, hle⟩ := run_between hk0 hv hro hS hh
    obtain ⟨lp, hlo, hle2⟩ := run_above hk0 hv hro hS hr
    obtain ⟨k1, k2⟩ := runD_outs hb (hv.corn true).fit.1 (fun c h => (condOK_of ((InRs.corn (b := b) true hro).ok hro c h)).len) hh
    have k3 := hle.len
    have k4 := hle2.len
    rw [List.length_map] at k1
    rw [hlo]
    dsimp only
    rw [bifF (show ((0 : Int) != 0) = false from rfl), bcorner_eq b l true hn (by omega) hrl, bcorner_eq b l false hn (by omega) hrl, if_pos hk, if_pos hk]
    simp only [Option.bind_some]
    rw [bRunM b M S hk0 hn hv.fit (by omega) hSc, hr]
    simp only [Option.bind_some]
    rw [bifF (show (IntKind.i64.wrap (IntKind.i64.wrap ((0 : Int) + 0) + 0) != 0) = false by rfl), bifF (show (((encRows (lp.map (·.2.2)) (hp.map (·.2.2))).length : Int) != (l.length : Int)) = false by simp [encRows]; omega),
      bifF (show (((ps.map (·.2.2)).length : Int) != (l.length : Int)) = false by simp; omega), bifF (show (((l.map (cornR true)).length : Int) != (l.length : Int)) = false by simp), bifF (show (((l.map (cornR false)).length : Int) != (l.length : Int)) = false by simp),
      bifT (dec_true (show V.length < lenMax by unfold lenMax; omega)), holds_ends l b V M S _ _ _ _ V V 0 [] [] (by simp; omega) (by simp; omega), List.nil_append, List.nil_append]
    exact holds_f66 l b V M S hk0 hn hl hck hv hS hp ps lp hh hr hlo hle hle2
end

/-- **BasinHolds**: for every input the law answers true. -/
theorem basinHolds_law (b : Bas) (l : List Rng) (p : List Int) (hp : PickOK p) (hlr : ∀ r ∈ l, r.2.2.1.length < lenMax) : zo_M b l p = some (true, ()) := by
  have hmem : memMax = 68719476736 := rfl
  have aw : (z0Z_M.bind fun v6 => some (v6.1, ())) = some (true, ()) := by rw [awake_true]; rfl
  unfold zo_M
  obtain ⟨s, hs, hs2⟩ := short_eq b
  rw [hs]
  simp only [Option.bind_some]
  cases s with
  | false => exact aw
  | true =>
    obtain ⟨h9, h17, h60⟩ := hs2 rfl
    simp only [Bool.not_true, cond_false]
    by_cases hl : l.length ≤ 12
    · rw [bifF (dec_false (show ¬ (l.length : Int) > 12 by omega)), rckRanges b l (by unfold lenMax; omega) hlr]
      simp only [Option.bind_some]
      by_cases h0 : firstOf (ckBasin b) (ckRngs b l) = 0
      · rw [h0, bifF (show ((0 : Int) != 0) = false from rfl)]
        obtain ⟨hk0, hk1⟩ := firstOf_eq0 h0
        have hb := ckBasin_zero hk0
        have h8 := hb.nodes
        have hn : ∀ n ∈ b.1, n.1.length < lenMax := fun n hn => by have := h60 n hn; unfold lenMax; omega
        have hck := ckRngs_zero hk1
        obtain ⟨V, M, r1, r2, r3, r4⟩ := holds_nodes l b p hp b.1 b.1 0 [] [] (by omega) (by omega) (by simp; omega) hb.area trivial (by simp)
        rw [bifT (dec_true (show b.1.length < lenMax by unfold lenMax; omega)), r1]
        have hv : VolsOK b V M := ⟨by simpa using r2, r3, r4⟩
        unfold zo_f9
        rw [bifT (dec_true (show l.length < lenMax by unfold lenMax; omega))]
        obtain ⟨S, s1, s2⟩ := holds_ranges b p hp l V M hk0 hn l l 0 [] [] (by omega) (by omega) (by simp; omega) hck trivial
        rw [s1]
        exact holds_f15 l b V M S hk0 hn hl hck hv (by simpa using s2) p l
      · rw [bifT (show (firstOf (ckBasin b) (ckRngs b l) != 0) = true by simpa using h0)]
        exact aw
    · rw [bifT (dec_true (show (l.length : Int) > 12 by omega))]
      exact aw
end Go.Tw
