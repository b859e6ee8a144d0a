/- P14: intervals and ranges: their errors, their corners.
P15: corners of ranges; what a range permits.
P16: what a range permits: the program and the reference.
P17: BasinPermits: the law. -/
import Derived.Test.YtkfigfhjbejikaaGreatDoorPB
import Derived.Test.YtkfigfhjbejikaaGreatDoorBF
import Derived.Test.YtkfigfhjbejikaaGreatDoorB23

section
set_option linter.all false
set_option maxRecDepth 100000
namespace Go.Tw
open Go.Vx Go.Vx.B Go.Proofs

abbrev Itv := Int × Int × Unit

def ckIv (x : Itv) (lo hi : Int) : Int := firstOf (ckR x.1 lo hi) (firstOf (ckR x.2.1 lo hi) (bif decide (x.1 > x.2.1) then 11 else 0))
def ckIvs (l : List Itv) (n : Int) (most : Int) : Int := firstOf (bif (l.length : Int) != n then 2 else 0) (firstE (l.map fun x => ckIv x 0 most))
def ckRng (b : Bas) (r : Rng) : Int := firstOf (ckIv r.1 (-1024) 1024) (ckIvs r.2.2.1 b.1.length 100000)
def ckRngs (b : Bas) (l : List Rng) : Int := firstOf (bif decide ((l.length : Int) > 96) then 5 else 0) (firstE (l.map (ckRng b)))

theorem firstOf_assoc (a b c : Int) : firstOf (firstOf a b) c = firstOf a (firstOf b c) := by
  unfold firstOf
  cases ha : (a != 0) <;> simp_all

/-! ### The reference -/
theorem rIv_eq (x : Itv) (lo hi : Int) : zW_M x lo hi = some (ckIv x lo hi, ()) := by
  unfold zW_M zW_m ckIv
  simp only [checkRange_eq]
  rw [rfirst_eq _ (by simp [lenMax]), firstE_cons, firstE_cons, firstE_nil, firstOf_zero, ← firstOf_assoc]
  simp only [Option.bind_some]
  generalize firstOf (ckR x.1 lo hi) (ckR x.2.1 lo hi) = e
  unfold firstOf
  cases he : (e != 0) with
  | true => rfl
  | false =>
    simp only [cond_false]
    rw [if_neg (by simp)]
    cases decide (x.1 > x.2.1) <;> rfl

theorem rIvs_eq (b : Bas) (l : List Itv) (most : Int) (hl : l.length < lenMax) : zQ_M b l most = some (ckIvs l b.1.length most, ()) := by
  unfold zQ_M ckIvs firstOf
  cases ((l.length : Int) != (b.1.length : Int)) with
  | true => rfl
  | false =>
    simp only [cond_false]
    rw [if_neg (by simp), bifT (dec_true hl), loopL_err (fun x => ckIv x 0 most) l 0 (fun i e he => by
      unfold zQ_b0
      rw [rIv_eq]
      simp only [Option.bind_some]
      cases (ckIv e 0 most != 0) <;> rfl) rfl]

theorem rRng_eq (b : Bas) (r : Rng) (hl : r.2.2.1.length < lenMax) : zz_M b r = some (ckRng b r, ()) := by
  unfold zz_M zz_m ckRng
  rw [rIv_eq, rIvs_eq b _ _ hl]
  simp only [Option.bind_some]
  rw [rfirst_eq _ (by simp [lenMax])]
  simp only [Option.bind_some, firstE_cons, firstE_nil, firstOf_zero]

theorem rRngs_eq (b : Bas) (l : List Rng) (hl : l.length < lenMax) (hr : ∀ r ∈ l, r.2.2.1.length < lenMax) : zt_M b l = some (ckRngs b l, ()) := by
  unfold zt_M ckRngs firstOf
  cases decide ((l.length : Int) > 96) with
  | true => rfl
  | false =>
    simp only [cond_false]
    rw [if_neg (by simp), bifT (dec_true hl), loopL_err (ckRng b) l 0 (fun i e he => by
      unfold zt_b0
      rw [rRng_eq b e (hr e he)]
      simp only [Option.bind_some]
      cases (ckRng b e != 0) <;> rfl) rfl]

/-! ### The program -/
theorem bIv_eq (x : Itv) (check : Int × Unit → Option (Int × Unit)) (lo hi : Int) (h : ∀ n, check (n, ()) = some (ckR n lo hi, ())) : zS_M x check = some (ckIv x lo hi, ()) := by
  unfold zS_M zS_m ckIv
  rw [h, h]
  simp only [Option.bind_some, when_eq]
  rw [bfirst_eq _ (by simp [lenMax])]
  simp only [Option.bind_some, firstE_cons, firstE_nil, firstOf_zero]

theorem mapIv_eq (l : List Itv) (of : Itv × Unit → Option (Int × Unit)) (g : Itv → Int) (h : ∀ e ∈ l, of (e, ()) = some (g e, ())) (hl : l.length ≤ memMax) : z8_M l of = some (l.map g, ()) := by
  have hm := memMax_lt
  unfold z8_M
  rw [bifT (dec_true (show l.length < lenMax by omega)), loopL_app g l 0 [] (by simpa using hl) (fun i e s he hs => by
    unfold z8_b0
    rw [show (e.fst, e.snd.fst, ()) = e from rfl, h e he]
    simp only [Option.bind_some]
    rw [bifT (dec_true hs)])]
  rfl

theorem bRng_eq (b : Bas) (r : Rng) (hl : r.2.2.1.length ≤ memMax) : zN_M b r = some (ckRng b r, ()) := by
  have hm := memMax_lt
  unfold zN_M zN_m ckRng ckIvs
  rw [bIv_eq r.1 _ (-1024) 1024 (fun n => by show some (zw n) = _; unfold zw; rw [within_eq]),
    mapIv_eq r.2.2.1 _ (fun x => ckIv x 0 100000) (fun e _ => by
      show zI_M e = _
      unfold zI_M zI_m
      rw [bIv_eq e _ 0 100000 (fun n => by show some (zf n) = _; unfold zf; rw [within_eq])]
      rfl) hl]
  simp only [Option.bind_some, when_eq]
  rw [bfirst_eq _ (by simp; omega)]
  simp only [Option.bind_some]
  rw [bfirst_eq _ (by simp [lenMax])]
  simp only [Option.bind_some, firstE_cons, firstE_nil, firstOf_zero]

theorem mapRng_eq (l : List Rng) (of : Rng × Unit → Option (Int × Unit)) (g : Rng → Int) (h : ∀ e ∈ l, of (e, ()) = some (g e, ())) (hl : l.length ≤ memMax) : zA_M l of = some (l.map g, ()) := by
  have hm := memMax_lt
  unfold zA_M
  rw [bifT (dec_true (show l.length < lenMax by omega)), loopL_app g l 0 [] (by simpa using hl) (fun i e s he hs => by
    unfold zA_b0
    rw [show ((e.fst.fst, e.fst.snd.fst, ()), e.snd.fst, e.snd.snd.fst, ()) = e from rfl, h e he]
    simp only [Option.bind_some]
    rw [bifT (dec_true hs)])]
  rfl

theorem bRngs_eq (b : Bas) (l : List Rng) (hl : l.length ≤ memMax) (hr : ∀ r ∈ l, r.2.2.1.length ≤ memMax) : zL_M b l = some (ckRngs b l, ()) := by
  have hm := memMax_lt
  unfold zL_M zL_m ckRngs
  rw [mapRng_eq l _ (ckRng b) (fun e he => bRng_eq b e (hr e he)) hl]
  simp only [Option.bind_some, when_eq]
  rw [bfirst_eq _ (by simp; omega)]
  simp only [Option.bind_some]
  rw [bfirst_eq _ (by simp [lenMax])]
  simp only [Option.bind_some, firstE_cons, firstE_nil, firstOf_zero]
end Go.Tw
end

section
set_option linter.all false
set_option maxRecDepth 100000
namespace Go.Tw
open Go.Vx Go.Vx.B Go.Proofs

def endI (up : Bool) (x : Itv) : Int := bif up then x.2.1 else x.1
def cornR (up : Bool) (r : Rng) : Cnd := (endI up r.1, r.2.1, r.2.2.1.map (endI up), ())

/-! ### The program's corners -/
def upI (up : Bool) : Int := bif up then 1 else 0

theorem idx_ends (x : Itv) (up : Bool) : idx (z0j x).1 (upI up) = some (endI up x) := by
  unfold z0j
  cases up <;> rfl

theorem bends_eq (l : List Itv) (up : Bool) (hl : l.length ≤ memMax) : z0q_M l (upI up) = some (l.map (endI up), ()) := by
  have hm := memMax_lt
  unfold z0q_M z0q_m zD_M
  rw [bifT (dec_true (show l.length < lenMax by omega)), loopL_app (endI up) l 0 [] (by simpa using hl) (fun i e s he hs => by
    unfold zD_b0
    show (Option.bind (z0V_M e (upI up)) _) = _
    unfold z0V_M z0V_m
    rw [idx_ends]
    simp only [Option.bind_some]
    rw [bifT (dec_true hs)])]
  rfl

theorem bcorner1_eq (r : Rng) (up : Bool) (hl : r.2.2.1.length ≤ memMax) : zb_M r (upI up) = some (cornR up r, ()) := by
  unfold zb_M zb_m
  rw [idx_ends, bends_eq _ up hl]
  rfl

theorem mapRC_eq (l : List Rng) (of : Rng × Unit → Option (Cnd × Unit)) (g : Rng → Cnd) (h : ∀ e ∈ l, of (e, ()) = some (g e, ())) (hl : l.length ≤ memMax) : z6_M l of = some (l.map g, ()) := by
  have hm := memMax_lt
  unfold z6_M
  rw [bifT (dec_true (show l.length < lenMax by omega)), loopL_app g l 0 [] (by simpa using hl) (fun i e s he hs => by
    unfold z6_b0
    rw [show ((e.fst.fst, e.fst.snd.fst, ()), e.snd.fst, e.snd.snd.fst, ()) = e from rfl, h e he]
    simp only [Option.bind_some]
    rw [bifT (dec_true hs)])]
  rfl

theorem bcorner_eq (b : Bas) (l : List Rng) (up : Bool) (hn : ∀ n ∈ b.1, n.1.length < lenMax) (hl : l.length ≤ memMax) (hr : ∀ r ∈ l, r.2.2.1.length ≤ memMax) :
    z0F_M b l up = some (if firstOf (ckBasin b) (ckRngs b l) = 0 then (l.map (cornR up), 0, ()) else ([], firstOf (ckBasin b) (ckRngs b l), ())) := by
  unfold z0F_M z0F_m
  rw [bbasin_eq b hn, bRngs_eq b l hl hr]
  simp only [Option.bind_some]
  rw [bfirst_eq _ (by simp [lenMax])]
  simp only [Option.bind_some, firstE_cons, firstE_nil, firstOf_zero]
  generalize firstOf (ckBasin b) (ckRngs b l) = e
  by_cases h0 : e = 0
  · rw [bifF (show (e != 0) = false by simpa using h0), if_pos h0]
    cases up with
    | true =>
      rw [cond_true, mapRC_eq l _ (cornR true) (fun e he => by
        show zc_M e = _
        unfold zc_M zc_m
        rw [show (1 : Int) = upI true from rfl, bcorner1_eq e true (hr e he)]
        rfl) hl]
      rfl
    | false =>
      rw [cond_false, mapRC_eq l _ (cornR false) (fun e he => by
        show ze_M e = _
        unfold ze_M ze_m
        rw [show (0 : Int) = upI false from rfl, bcorner1_eq e false (hr e he)]
        rfl) hl]
      rfl
  · rw [bifT (show (e != 0) = true by simpa using h0), if_neg h0]
end Go.Tw
end

section
set_option linter.all false
set_option maxRecDepth 100000
namespace Go.Tw
open Go.Vx Go.Vx.B Go.Proofs

def inI (n : Int) (x : Itv) : Bool := decide (x.1 ≤ n) && decide (n ≤ x.2.1)
def allIn : List Int → List Itv → Bool
  | n :: q, x :: l => inI n x && allIn q l
  | _, _ => true
def permits (r : Rng) (c : Cnd) : Bool := (r.2.1 == c.2.1) && (inI c.1 r.1 && allIn c.2.2.1 r.2.2.1)

theorem bin_eq (x : Itv) (n : Int) : z01 x n = (inI n x, ()) := by
  unfold z01 inI
  cases decide (x.1 ≤ n) <;> rfl

/-- From a state that is false nothing comes back. -/
theorem bwithin_false (c : Cnd) (T : List Itv) : ∀ (l : List Itv) (i : Int),
    loopL (fun i__ e__ s__ => z0H_b6 c T i__ e__ s__) (fun s__ => z0H_f6 c T s__) i l false = some (false, 0, ())
  | [], i => rfl
  | x :: l, i => by
    rw [loopL_cons, show z0H_b6 c T i x false = some (.inr false) from rfl]
    simp only [Option.bind_some]
    exact bwithin_false c T l (i + 1)

theorem bwithin_loop (c : Cnd) (T : List Itv) : ∀ (q : List Int) (l : List Itv) (p : List Int) (i : Int), c.2.2.1 = p ++ q → i = (p.length : Int) → q.length = l.length →
    loopL (fun i__ e__ s__ => z0H_b6 c T i__ e__ s__) (fun s__ => z0H_f6 c T s__) i l true = some (allIn q l, 0, ())
  | [], [], p, i, _, _, _ => rfl
  | n :: q, x :: l, p, i, hr, hi, hl => by
    have hbody : z0H_b6 c T i x true = some (.inr (inI n x)) := by
      unfold z0H_b6
      rw [cond_true, hr, idx_mid p n q i hi]
      simp only [Option.bind_some]
      rw [show (x.fst, x.snd.fst, ()) = x from rfl, bin_eq]
    rw [loopL_cons, hbody]
    simp only [Option.bind_some]
    cases hx : inI n x with
    | true =>
      simp only [allIn, hx, Bool.true_and]
      exact bwithin_loop c T q l (p ++ [n]) (i + 1) (by rw [hr]; simp) (by simp [hi]) (by simpa using hl)
    | false => simp only [allIn, hx, Bool.false_and]; exact bwithin_false c T l (i + 1)
  | [], _ :: _, _, _, _, _, h => by simp at h
  | _ :: _, [], _, _, _, _, h => by simp at h

theorem bwithin_s12 (r : Rng) (c : Cnd) (j : Bool) (hl : c.2.2.1.length = r.2.2.1.length) (hc : r.2.2.1.length < lenMax) : z0H_s12 r c j = some (j && allIn c.2.2.1 r.2.2.1, 0, ()) := by
  unfold z0H_s12
  rw [bifT (dec_true hc)]
  cases j with
  | true => rw [Bool.true_and]; exact bwithin_loop c r.2.2.1 c.2.2.1 r.2.2.1 [] 0 rfl rfl hl
  | false => rw [Bool.false_and]; exact bwithin_false c r.2.2.1 r.2.2.1 0

def ckRngB (b : Bas) (r : Rng) : Int := firstOf (ckBasin b) (ckRng b r)

theorem bcheckR_eq (b : Bas) (r : Rng) (hn : ∀ n ∈ b.1, n.1.length < lenMax) (hr : r.2.2.1.length ≤ memMax) : zk_M b r = some (ckRngB b r, ()) := by
  unfold zk_M zk_m ckRngB
  rw [bbasin_eq b hn, bRng_eq b r hr]
  simp only [Option.bind_some]
  rw [bfirst_eq _ (by simp [lenMax])]
  simp only [Option.bind_some, firstE_cons, firstE_nil, firstOf_zero]

theorem ckRng_zero {b : Bas} {r : Rng} (h : ckRng b r = 0) : r.2.2.1.length = b.1.length := by
  obtain ⟨_, h2⟩ := firstOf_eq0 h
  obtain ⟨h3, _⟩ := firstOf_eq0 h2
  cases he : ((r.2.2.1.length : Int) != (b.1.length : Int)) with
  | true => rw [he] at h3; cases h3
  | false => have h11 : (r.2.2.1.length : Int) = (b.1.length : Int) := by simpa using he
             omega

theorem bwithin_eq (b : Bas) (r : Rng) (c : Cnd) (hn : ∀ n ∈ b.1, n.1.length < lenMax) (hr : r.2.2.1.length ≤ memMax) (hc : c.2.2.1.length ≤ memMax) :
    z0H_M b r c = some (if firstOf (ckRngB b r) (ckCond b c) = 0 then (permits r c, 0, ()) else (false, firstOf (ckRngB b r) (ckCond b c), ())) := by
  have hm := memMax_lt
  unfold z0H_M
  rw [bcheckR_eq b r hn hr, bcond_eq b c hc]
  simp only [Option.bind_some]
  rw [bfirst_eq _ (by simp [lenMax])]
  simp only [Option.bind_some, firstE_cons, firstE_nil, firstOf_zero]
  by_cases h0 : firstOf (ckRngB b r) (ckCond b c) = 0
  · rw [bifF (show (firstOf (ckRngB b r) (ckCond b c) != 0) = false by simpa using h0), if_pos h0]
    obtain ⟨h1, h2⟩ := firstOf_eq0 h0
    have e1 := ckRng_zero (firstOf_eq0 h1).2
    have e2 := (ckCond_zero h2).2.1
    unfold permits
    cases (r.2.1 == c.2.1) with
    | true =>
      rw [cond_true, bin_eq, bwithin_s12 r c _ (by omega) (by omega)]
      rfl
    | false =>
      rw [cond_false, bwithin_s12 r c _ (by omega) (by omega)]
      rfl
  · rw [bifT (show (firstOf (ckRngB b r) (ckCond b c) != 0) = true by simpa using h0), if_neg h0]
end Go.Tw
end

section
set_option linter.all false
set_option maxRecDepth 100000
namespace Go.Tw
open Go.Vx Go.Vx.B Go.Proofs

theorem one_eq (r : Rng) (h : r.2.2.1.length ≤ memMax) : z0r_M r = some (r, ()) := by
  unfold z0r_M z0r_m zy_M zy_m
  rw [bifT (dec_true (show 0 + r.2.2.1.length ≤ memMax by omega))]
  rfl

theorem ranges_eq (l : List Rng) (hl : l.length ≤ memMax) (hr : ∀ r ∈ l, r.2.2.1.length ≤ memMax) : z0L_M l = some (l, ()) := by
  have hm := memMax_lt
  unfold z0L_M
  rw [bifT (dec_true (show l.length < lenMax by omega)), loopL_app (fun c => c) l 0 [] (by simpa using hl) (fun i e s he hs => by
    unfold z0L_b0
    rw [show ((e.fst.fst, e.fst.snd.fst, ()), e.snd.fst, e.snd.snd.fst, ()) = e from rfl, one_eq e (hr e he)]
    simp only [Option.bind_some]
    rw [bifT (dec_true hs)])]
  simp only [List.map_id_fun', id_eq, List.nil_append]
  rfl

section
variable (b : Bas) (r : Rng) (c : Cnd) (hn : ∀ n ∈ b.1, n.1.length < lenMax) (h1 : b.1.length ≤ memMax) (h2 : b.2.1.length ≤ memMax) (hr : r.2.2.1.length ≤ memMax) (hc : c.2.2.1.length ≤ memMax) (both : Int) (hb : both = 0 → c.2.2.1.length = r.2.2.1.length)
include hn h1 h2 hr hc hb

end

end Go.Tw
end
