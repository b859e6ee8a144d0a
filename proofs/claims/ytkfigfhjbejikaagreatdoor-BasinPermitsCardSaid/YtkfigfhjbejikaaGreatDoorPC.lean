/- P14: intervals and ranges: their errors, their corners.
P15: corners of ranges; what a range permits.
P16: what a range permits: the program and the reference.
P17: BasinPermits: the law. -/
import Derived.Test.YtkfigfhjbejikaaGreatDoorPB
import Derived.Test.YtkfigfhjbejikaaGreatDoorBF
import Derived.Test.YtkfigfhjbejikaaGreatDoorB23

section
set_option linter.all false
set_option maxRecDepth 100000
namespace Go.Tw
open Go.Vx Go.Vx.B Go.Proofs

abbrev Itv := Int × Int × Unit

def ckIv (x : Itv) (lo hi : Int) : Int := firstOf (ckR x.1 lo hi) (firstOf (ckR x.2.1 lo hi) (bif decide (x.1 > x.2.1) then 11 else 0))
def ckIvs (l : List Itv) (n : Int) (most : Int) : Int := firstOf (bif (l.length : Int) != n then 2 else 0) (firstE (l.map fun x => ckIv x 0 most))
def ckRng (b : Bas) (r : Rng) : Int := firstOf (ckIv r.1 (-1024) 1024) (ckIvs r.2.2.1 b.1.length 100000)
def ckRngs (b : Bas) (l : List Rng) : Int := firstOf (bif decide ((l.length : Int) > 96) then 5 else 0) (firstE (l.map (ckRng b)))

theorem firstOf_assoc (a b c : Int) : firstOf (firstOf a b) c = firstOf a (firstOf b c) := by
  unfold firstOf
  cases ha : (a != 0) <;> simp_all

/-! ### The reference -/
theorem rIv_eq (x : Itv) (lo hi : Int) : ref04_checkInterval_M x lo hi = some (ckIv x lo hi, ()) := by
  unfold ref04_checkInterval_M ref04_checkInterval_m ckIv
  simp only [checkRange_eq]
  rw [rfirst_eq _ (by simp [lenMax]), firstE_cons, firstE_cons, firstE_nil, firstOf_zero, ← firstOf_assoc]
  simp only [Option.bind_some]
  generalize firstOf (ckR x.1 lo hi) (ckR x.2.1 lo hi) = e
  unfold firstOf
  cases he : (e != 0) with
  | true => rfl
  | false =>
    simp only [cond_false]
    rw [if_neg (by simp)]
    cases decide (x.1 > x.2.1) <;> rfl

theorem rIvs_eq (b : Bas) (l : List Itv) (most : Int) (hl : l.length < lenMax) : ref04_checkIntervals_M b l most = some (ckIvs l b.1.length most, ()) := by
  unfold ref04_checkIntervals_M ckIvs firstOf
  cases ((l.length : Int) != (b.1.length : Int)) with
  | true => rfl
  | false =>
    simp only [cond_false]
    rw [if_neg (by simp), bifT (dec_true hl), loopL_err (fun x => ckIv x 0 most) l 0 (fun i e he => by
      unfold ref04_checkIntervals_b0
      rw [rIv_eq]
      simp only [Option.bind_some]
      cases (ckIv e 0 most != 0) <;> rfl) rfl]

theorem rRng_eq (b : Bas) (r : Rng) (hl : r.2.2.1.length < lenMax) : ref04_OnlyRange_M b r = some (ckRng b r, ()) := by
  unfold ref04_OnlyRange_M ref04_OnlyRange_m ckRng
  rw [rIv_eq, rIvs_eq b _ _ hl]
  simp only [Option.bind_some]
  rw [rfirst_eq _ (by simp [lenMax])]
  simp only [Option.bind_some, firstE_cons, firstE_nil, firstOf_zero]

/-! ### The program -/
theorem bIv_eq (x : Itv) (check : Int × Unit → Option (Int × Unit)) (lo hi : Int) (h : ∀ n, check (n, ()) = some (ckR n lo hi, ())) : basin_checkInterval_M x check = some (ckIv x lo hi, ()) := by
  unfold basin_checkInterval_M basin_checkInterval_m ckIv
  rw [h, h]
  simp only [Option.bind_some, when_eq]
  rw [bfirst_eq _ (by simp [lenMax])]
  simp only [Option.bind_some, firstE_cons, firstE_nil, firstOf_zero]

theorem mapIv_eq (l : List Itv) (of : Itv × Unit → Option (Int × Unit)) (g : Itv → Int) (h : ∀ e ∈ l, of (e, ()) = some (g e, ())) (hl : l.length ≤ memMax) : basin_mapped_api_Interval_api_Errno_M l of = some (l.map g, ()) := by
  have hm := memMax_lt
  unfold basin_mapped_api_Interval_api_Errno_M
  rw [bifT (dec_true (show l.length < lenMax by omega)), loopL_app g l 0 [] (by simpa using hl) (fun i e s he hs => by
    unfold basin_mapped_api_Interval_api_Errno_b0
    rw [show (e.fst, e.snd.fst, ()) = e from rfl, h e he]
    simp only [Option.bind_some]
    rw [bifT (dec_true hs)])]
  rfl

theorem bRng_eq (b : Bas) (r : Rng) (hl : r.2.2.1.length ≤ memMax) : basin_Basin_checkRange_M b r = some (ckRng b r, ()) := by
  have hm := memMax_lt
  unfold basin_Basin_checkRange_M basin_Basin_checkRange_m ckRng ckIvs
  rw [bIv_eq r.1 _ (-1024) 1024 (fun n => by show some (basin_checkTide n) = _; unfold basin_checkTide; rw [within_eq]),
    mapIv_eq r.2.2.1 _ (fun x => ckIv x 0 100000) (fun e _ => by
      show basin_Basin_checkRange_1_M e = _
      unfold basin_Basin_checkRange_1_M basin_Basin_checkRange_1_m
      rw [bIv_eq e _ 0 100000 (fun n => by show some (basin_checkInflow n) = _; unfold basin_checkInflow; rw [within_eq])]
      rfl) hl]
  simp only [Option.bind_some, when_eq]
  rw [bfirst_eq _ (by simp; omega)]
  simp only [Option.bind_some]
  rw [bfirst_eq _ (by simp [lenMax])]
  simp only [Option.bind_some, firstE_cons, firstE_nil, firstOf_zero]

theorem mapRng_eq (l : List Rng) (of : Rng × Unit → Option (Int × Unit)) (g : Rng → Int) (h : ∀ e ∈ l, of (e, ()) = some (g e, ())) (hl : l.length ≤ memMax) : basin_mapped_basin_Range_api_Errno_M l of = some (l.map g, ()) := by
  have hm := memMax_lt
  unfold basin_mapped_basin_Range_api_Errno_M
  rw [bifT (dec_true (show l.length < lenMax by omega)), loopL_app g l 0 [] (by simpa using hl) (fun i e s he hs => by
    unfold basin_mapped_basin_Range_api_Errno_b0
    rw [show ((e.fst.fst, e.fst.snd.fst, ()), e.snd.fst, e.snd.snd.fst, ()) = e from rfl, h e he]
    simp only [Option.bind_some]
    rw [bifT (dec_true hs)])]
  rfl

theorem bRngs_eq (b : Bas) (l : List Rng) (hl : l.length ≤ memMax) (hr : ∀ r ∈ l, r.2.2.1.length ≤ memMax) : basin_Basin_checkRanges_M b l = some (ckRngs b l, ()) := by
  have hm := memMax_lt
  unfold basin_Basin_checkRanges_M basin_Basin_checkRanges_m ckRngs
  rw [mapRng_eq l _ (ckRng b) (fun e he => bRng_eq b e (hr e he)) hl]
  simp only [Option.bind_some, when_eq]
  rw [bfirst_eq _ (by simp; omega)]
  simp only [Option.bind_some]
  rw [bfirst_eq _ (by simp [lenMax])]
  simp only [Option.bind_some, firstE_cons, firstE_nil, firstOf_zero]
end Go.Tw
end

section
set_option linter.all false
set_option maxRecDepth 100000
namespace Go.Tw
open Go.Vx Go.Vx.B Go.Proofs

def endI (up : Bool) (x : Itv) : Int := bif up then x.2.1 else x.1
def cornR (up : Bool) (r : Rng) : Cnd := (endI up r.1, r.2.1, r.2.2.1.map (endI up), ())

theorem rend_eq (x : Itv) (up : Bool) : ref04_end x up = (endI up x, ()) := by
  unfold ref04_end endI
  cases up <;> rfl

theorem rends_eq (l : List Itv) (up : Bool) (hl : l.length ≤ memMax) : ref04_ends_M l up = some (l.map (endI up), ()) := by
  have hm := memMax_lt
  unfold ref04_ends_M
  rw [bifT (dec_true (show l.length < lenMax by omega)), loopL_app (endI up) l 0 [] (by simpa using hl) (fun i e s he hs => by
    unfold ref04_ends_b0
    rw [rend_eq, bifT (dec_true hs)])]
  rfl

theorem rcorner_loop (L : List Rng) (up : Bool) : ∀ (l p : List Rng) (i : Int) (s : List Cnd), L = p ++ l → i = (p.length : Int) → s.length + l.length ≤ memMax → (∀ r ∈ l, r.2.2.1.length ≤ memMax) →
    loopL (fun i__ e__ s__ => ref04_Corner_b0 L up i__ e__ s__) (fun s__ => ref04_Corner_f0 L up s__) i l s = some (s ++ l.map (cornR up), ())
  | [], p, i, s, _, _, _, _ => by rw [loopL_nil]; simp [ref04_Corner_f0]
  | r :: l, p, i, s, hL, hi, hs, hr => by
    simp only [List.length_cons] at hs
    have hbody : ref04_Corner_b0 L up i r s = some (.inr (s ++ [cornR up r])) := by
      unfold ref04_Corner_b0
      rw [hL, idx_mid p r l i hi]
      simp only [Option.bind_some]
      rw [rends_eq _ up (hr r (by simp)), rend_eq]
      simp only [Option.bind_some]
      rw [bifT (dec_true (show s.length + 1 ≤ memMax by omega))]
      rfl
    rw [loopL_cons, hbody]
    simp only [Option.bind_some]
    rw [rcorner_loop L up l (p ++ [r]) (i + 1) (s ++ [cornR up r]) (by rw [hL]; simp) (by simp [hi]) (by simp; omega) (fun r h => hr r (by simp [h]))]
    simp

theorem rcorner_eq (l : List Rng) (up : Bool) (hl : l.length ≤ memMax) (hr : ∀ r ∈ l, r.2.2.1.length ≤ memMax) : ref04_Corner_M l up = some (l.map (cornR up), ()) := by
  have hm := memMax_lt
  unfold ref04_Corner_M
  rw [bifT (dec_true (show l.length < lenMax by omega)), rcorner_loop l up l [] 0 [] rfl rfl (by simpa using hl) hr]
  rfl

/-! ### The program's corners -/
def upI (up : Bool) : Int := bif up then 1 else 0

theorem idx_ends (x : Itv) (up : Bool) : idx (basin_ends x).1 (upI up) = some (endI up x) := by
  unfold basin_ends
  cases up <;> rfl

theorem bends_eq (l : List Itv) (up : Bool) (hl : l.length ≤ memMax) : basin_end_M l (upI up) = some (l.map (endI up), ()) := by
  have hm := memMax_lt
  unfold basin_end_M basin_end_m basin_mapped_api_Interval_int_M
  rw [bifT (dec_true (show l.length < lenMax by omega)), loopL_app (endI up) l 0 [] (by simpa using hl) (fun i e s he hs => by
    unfold basin_mapped_api_Interval_int_b0
    show (Option.bind (basin_end_1_M e (upI up)) _) = _
    unfold basin_end_1_M basin_end_1_m
    rw [idx_ends]
    simp only [Option.bind_some]
    rw [bifT (dec_true hs)])]
  rfl

theorem bcorner1_eq (r : Rng) (up : Bool) (hl : r.2.2.1.length ≤ memMax) : basin_Range_corner_M r (upI up) = some (cornR up r, ()) := by
  unfold basin_Range_corner_M basin_Range_corner_m
  rw [idx_ends, bends_eq _ up hl]
  rfl

theorem mapRC_eq (l : List Rng) (of : Rng × Unit → Option (Cnd × Unit)) (g : Rng → Cnd) (h : ∀ e ∈ l, of (e, ()) = some (g e, ())) (hl : l.length ≤ memMax) : basin_mapped_basin_Range_basin_Condition_M l of = some (l.map g, ()) := by
  have hm := memMax_lt
  unfold basin_mapped_basin_Range_basin_Condition_M
  rw [bifT (dec_true (show l.length < lenMax by omega)), loopL_app g l 0 [] (by simpa using hl) (fun i e s he hs => by
    unfold basin_mapped_basin_Range_basin_Condition_b0
    rw [show ((e.fst.fst, e.fst.snd.fst, ()), e.snd.fst, e.snd.snd.fst, ()) = e from rfl, h e he]
    simp only [Option.bind_some]
    rw [bifT (dec_true hs)])]
  rfl

theorem bcorner_eq (b : Bas) (l : List Rng) (up : Bool) (hn : ∀ n ∈ b.1, n.1.length < lenMax) (hl : l.length ≤ memMax) (hr : ∀ r ∈ l, r.2.2.1.length ≤ memMax) :
    basin_Corner_M b l up = some (if firstOf (ckBasin b) (ckRngs b l) = 0 then (l.map (cornR up), 0, ()) else ([], firstOf (ckBasin b) (ckRngs b l), ())) := by
  unfold basin_Corner_M basin_Corner_m
  rw [bbasin_eq b hn, bRngs_eq b l hl hr]
  simp only [Option.bind_some]
  rw [bfirst_eq _ (by simp [lenMax])]
  simp only [Option.bind_some, firstE_cons, firstE_nil, firstOf_zero]
  generalize firstOf (ckBasin b) (ckRngs b l) = e
  by_cases h0 : e = 0
  · rw [bifF (show (e != 0) = false by simpa using h0), if_pos h0]
    cases up with
    | true =>
      rw [cond_true, mapRC_eq l _ (cornR true) (fun e he => by
        show basin_Range_higher_M e = _
        unfold basin_Range_higher_M basin_Range_higher_m
        rw [show (1 : Int) = upI true from rfl, bcorner1_eq e true (hr e he)]
        rfl) hl]
      rfl
    | false =>
      rw [cond_false, mapRC_eq l _ (cornR false) (fun e he => by
        show basin_Range_lower_M e = _
        unfold basin_Range_lower_M basin_Range_lower_m
        rw [show (0 : Int) = upI false from rfl, bcorner1_eq e false (hr e he)]
        rfl) hl]
      rfl
  · rw [bifT (show (e != 0) = true by simpa using h0), if_neg h0]
end Go.Tw
end

section
set_option linter.all false
set_option maxRecDepth 100000
namespace Go.Tw
open Go.Vx Go.Vx.B Go.Proofs

def inI (n : Int) (x : Itv) : Bool := decide (x.1 ≤ n) && decide (n ≤ x.2.1)
def allIn : List Int → List Itv → Bool
  | n :: q, x :: l => inI n x && allIn q l
  | _, _ => true
def permits (r : Rng) (c : Cnd) : Bool := (r.2.1 == c.2.1) && (inI c.1 r.1 && allIn c.2.2.1 r.2.2.1)

theorem rin_eq (n : Int) (x : Itv) : ref04_in n x = (inI n x, ()) := by
  unfold ref04_in inI
  cases decide (x.1 ≤ n) <;> rfl
theorem bin_eq (x : Itv) (n : Int) : basin_Within_1 x n = (inI n x, ()) := by
  unfold basin_Within_1 inI
  cases decide (x.1 ≤ n) <;> rfl

theorem rwithin_loop (r : Rng) (c : Cnd) : ∀ (q : List Int) (l p : List Itv) (i : Int), r.2.2.1 = p ++ l → i = (p.length : Int) → q.length = l.length →
    loopL (fun i__ e__ s__ => ref04_Within_b2 r c i__ e__) (fun s__ => ref04_Within_f2 r c) i q () = some (allIn q l, ())
  | [], [], p, i, _, _, _ => rfl
  | n :: q, x :: l, p, i, hr, hi, hl => by
    have hbody : ref04_Within_b2 r c i n = some (bif !inI n x then .inl (false, ()) else .inr ()) := by
      unfold ref04_Within_b2
      rw [hr, idx_mid p x l i hi]
      simp only [Option.bind_some, rin_eq]
      cases inI n x <;> rfl
    rw [loopL_cons, hbody]
    cases hx : inI n x with
    | true =>
      simp only [Option.bind_some, Bool.not_true, cond_false, allIn, hx, Bool.true_and]
      exact rwithin_loop r c q l (p ++ [x]) (i + 1) (by rw [hr]; simp) (by simp [hi]) (by simpa using hl)
    | false => simp only [allIn, hx]; rfl
  | [], _ :: _, _, _, _, _, h => by simp at h
  | _ :: _, [], _, _, _, _, h => by simp at h

theorem rwithin_eq (r : Rng) (c : Cnd) (hl : c.2.2.1.length = r.2.2.1.length) (hc : c.2.2.1.length < lenMax) : ref04_Within_M r c = some (permits r c, ()) := by
  unfold ref04_Within_M permits
  cases (r.2.1 == c.2.1) with
  | false => rfl
  | true =>
    simp only [Bool.not_true, cond_false, rin_eq, Bool.true_and]
    cases inI c.1 r.1 with
    | false => rfl
    | true =>
      simp only [Bool.not_true, cond_false, Bool.true_and]
      rw [bifT (dec_true hc)]
      exact rwithin_loop r c c.2.2.1 r.2.2.1 [] 0 rfl rfl hl

/-- From a state that is false nothing comes back. -/
theorem bwithin_false (c : Cnd) (T : List Itv) : ∀ (l : List Itv) (i : Int),
    loopL (fun i__ e__ s__ => basin_Within_b6 c T i__ e__ s__) (fun s__ => basin_Within_f6 c T s__) i l false = some (false, 0, ())
  | [], i => rfl
  | x :: l, i => by
    rw [loopL_cons, show basin_Within_b6 c T i x false = some (.inr false) from rfl]
    simp only [Option.bind_some]
    exact bwithin_false c T l (i + 1)

theorem bwithin_loop (c : Cnd) (T : List Itv) : ∀ (q : List Int) (l : List Itv) (p : List Int) (i : Int), c.2.2.1 = p ++ q → i = (p.length : Int) → q.length = l.length →
    loopL (fun i__ e__ s__ => basin_Within_b6 c T i__ e__ s__) (fun s__ => basin_Within_f6 c T s__) i l true = some (allIn q l, 0, ())
  | [], [], p, i, _, _, _ => rfl
  | n :: q, x :: l, p, i, hr, hi, hl => by
    have hbody : basin_Within_b6 c T i x true = some (.inr (inI n x)) := by
      unfold basin_Within_b6
      rw [cond_true, hr, idx_mid p n q i hi]
      simp only [Option.bind_some]
      rw [show (x.fst, x.snd.fst, ()) = x from rfl, bin_eq]
    rw [loopL_cons, hbody]
    simp only [Option.bind_some]
    cases hx : inI n x with
    | true =>
      simp only [allIn, hx, Bool.true_and]
      exact bwithin_loop c T q l (p ++ [n]) (i + 1) (by rw [hr]; simp) (by simp [hi]) (by simpa using hl)
    | false => simp only [allIn, hx, Bool.false_and]; exact bwithin_false c T l (i + 1)
  | [], _ :: _, _, _, _, _, h => by simp at h
  | _ :: _, [], _, _, _, _, h => by simp at h

theorem bwithin_s12 (r : Rng) (c : Cnd) (j : Bool) (hl : c.2.2.1.length = r.2.2.1.length) (hc : r.2.2.1.length < lenMax) : basin_Within_s12 r c j = some (j && allIn c.2.2.1 r.2.2.1, 0, ()) := by
  unfold basin_Within_s12
  rw [bifT (dec_true hc)]
  cases j with
  | true => rw [Bool.true_and]; exact bwithin_loop c r.2.2.1 c.2.2.1 r.2.2.1 [] 0 rfl rfl hl
  | false => rw [Bool.false_and]; exact bwithin_false c r.2.2.1 r.2.2.1 0

def ckRngB (b : Bas) (r : Rng) : Int := firstOf (ckBasin b) (ckRng b r)

theorem bcheckR_eq (b : Bas) (r : Rng) (hn : ∀ n ∈ b.1, n.1.length < lenMax) (hr : r.2.2.1.length ≤ memMax) : basin_CheckRange_M b r = some (ckRngB b r, ()) := by
  unfold basin_CheckRange_M basin_CheckRange_m ckRngB
  rw [bbasin_eq b hn, bRng_eq b r hr]
  simp only [Option.bind_some]
  rw [bfirst_eq _ (by simp [lenMax])]
  simp only [Option.bind_some, firstE_cons, firstE_nil, firstOf_zero]

theorem rcheckR_eq (b : Bas) (r : Rng) (hr : r.2.2.1.length < lenMax) : ref04_CheckRange_M b r = some (ckRngB b r, ()) := by
  unfold ref04_CheckRange_M ref04_CheckRange_m ckRngB firstOf
  rw [rbasin_eq b]
  simp only [Option.bind_some]
  cases (ckBasin b != 0) with
  | true => rfl
  | false =>
    simp only [cond_false]
    rw [if_neg (by simp), rRng_eq b r hr]
    rfl

def ckCndB (b : Bas) (c : Cnd) : Int := firstOf (ckBasin b) (ckCond b c)

theorem bcheckC_eq (b : Bas) (c : Cnd) (hn : ∀ n ∈ b.1, n.1.length < lenMax) (hr : c.2.2.1.length ≤ memMax) : basin_CheckCondition_M b c = some (ckCndB b c, ()) := by
  unfold basin_CheckCondition_M basin_CheckCondition_m ckCndB
  rw [bbasin_eq b hn, bcond_eq b c hr]
  simp only [Option.bind_some]
  rw [bfirst_eq _ (by simp [lenMax])]
  simp only [Option.bind_some, firstE_cons, firstE_nil, firstOf_zero]

theorem rcheckC_eq (b : Bas) (c : Cnd) (hr : c.2.2.1.length < lenMax) : ref04_CheckCondition_M b c = some (ckCndB b c, ()) := by
  unfold ref04_CheckCondition_M ref04_CheckCondition_m ckCndB firstOf
  rw [rbasin_eq b]
  simp only [Option.bind_some]
  cases (ckBasin b != 0) with
  | true => rfl
  | false =>
    simp only [cond_false]
    rw [if_neg (by simp), rcond_eq b c hr]
    rfl

theorem ckRng_zero {b : Bas} {r : Rng} (h : ckRng b r = 0) : r.2.2.1.length = b.1.length := by
  obtain ⟨_, h2⟩ := firstOf_eq0 h
  obtain ⟨h3, _⟩ := firstOf_eq0 h2
  cases he : ((r.2.2.1.length : Int) != (b.1.length : Int)) with
  | true => rw [he] at h3; cases h3
  | false => have h11 : (r.2.2.1.length : Int) = (b.1.length : Int) := by simpa using he
             omega

theorem bwithin_eq (b : Bas) (r : Rng) (c : Cnd) (hn : ∀ n ∈ b.1, n.1.length < lenMax) (hr : r.2.2.1.length ≤ memMax) (hc : c.2.2.1.length ≤ memMax) :
    basin_Within_M b r c = some (if firstOf (ckRngB b r) (ckCond b c) = 0 then (permits r c, 0, ()) else (false, firstOf (ckRngB b r) (ckCond b c), ())) := by
  have hm := memMax_lt
  unfold basin_Within_M
  rw [bcheckR_eq b r hn hr, bcond_eq b c hc]
  simp only [Option.bind_some]
  rw [bfirst_eq _ (by simp [lenMax])]
  simp only [Option.bind_some, firstE_cons, firstE_nil, firstOf_zero]
  by_cases h0 : firstOf (ckRngB b r) (ckCond b c) = 0
  · rw [bifF (show (firstOf (ckRngB b r) (ckCond b c) != 0) = false by simpa using h0), if_pos h0]
    obtain ⟨h1, h2⟩ := firstOf_eq0 h0
    have e1 := ckRng_zero (firstOf_eq0 h1).2
    have e2 := (ckCond_zero h2).2.1
    unfold permits
    cases (r.2.1 == c.2.1) with
    | true =>
      rw [cond_true, bin_eq, bwithin_s12 r c _ (by omega) (by omega)]
      rfl
    | false =>
      rw [cond_false, bwithin_s12 r c _ (by omega) (by omega)]
      rfl
  · rw [bifT (show (firstOf (ckRngB b r) (ckCond b c) != 0) = true by simpa using h0), if_neg h0]
end Go.Tw
end

section
set_option linter.all false
set_option maxRecDepth 100000
namespace Go.Tw
open Go.Vx Go.Vx.B Go.Proofs

theorem shortR_one (r : Rng) : ∃ s, ref04_ShortRanges_M [r] = some (s, ()) ∧ (s = true → r.2.2.1.length ≤ 9) := by
  by_cases h : r.2.2.1.length ≤ 9
  · refine ⟨true, ?_, fun _ => h⟩
    unfold ref04_ShortRanges_M
    rw [bifT (dec_true (show [r].length < lenMax by simp [lenMax])), loopL_cons]
    unfold ref04_ShortRanges_b0
    rw [bifF (dec_false (show ¬ (r.2.2.1.length : Int) > 9 by omega))]
    rfl
  · refine ⟨false, ?_, by simp⟩
    unfold ref04_ShortRanges_M
    rw [bifT (dec_true (show [r].length < lenMax by simp [lenMax])), loopL_cons]
    unfold ref04_ShortRanges_b0
    rw [bifT (dec_true (show (r.2.2.1.length : Int) > 9 by omega))]
    rfl

theorem one_eq (r : Rng) (h : r.2.2.1.length ≤ memMax) : law04_one_M r = some (r, ()) := by
  unfold law04_one_M law04_one_m law04_intervals_M law04_intervals_m
  rw [bifT (dec_true (show 0 + r.2.2.1.length ≤ memMax by omega))]
  rfl

theorem ranges_eq (l : List Rng) (hl : l.length ≤ memMax) (hr : ∀ r ∈ l, r.2.2.1.length ≤ memMax) : law04_ranges_M l = some (l, ()) := by
  have hm := memMax_lt
  unfold law04_ranges_M
  rw [bifT (dec_true (show l.length < lenMax by omega)), loopL_app (fun c => c) l 0 [] (by simpa using hl) (fun i e s he hs => by
    unfold law04_ranges_b0
    rw [show ((e.fst.fst, e.fst.snd.fst, ()), e.snd.fst, e.snd.snd.fst, ()) = e from rfl, one_eq e (hr e he)]
    simp only [Option.bind_some]
    rw [bifT (dec_true hs)])]
  simp only [List.map_id_fun', id_eq, List.nil_append]
  rfl

theorem own_eq (l : List Cnd) (hl : l.length ≤ memMax) : law04_own_M l = some (l, ()) := by
  have hm := memMax_lt
  unfold law04_own_M
  rw [bifT (dec_true (show l.length < lenMax by omega)), loopL_app (fun c => c) l 0 [] (by simpa using hl) (fun i e s he hs => by
    unfold law04_own_b0
    rw [bifT (dec_true hs)])]
  simp only [List.map_id_fun', id_eq, List.nil_append]
  rfl

theorem sameCond_refl (c : Cnd) (h : c.2.2.1.length < lenMax) : ref04_SameCondition_M c c = some (true, ()) := by
  unfold ref04_SameCondition_M ref04_SameCondition_m
  rw [bifT (beq_self_eq_true _), bifT (beq_self_eq_true _), sameInts_refl _ h]
  rfl

section
variable (b : Bas) (r : Rng) (c : Cnd) (hn : ∀ n ∈ b.1, n.1.length < lenMax) (h1 : b.1.length ≤ memMax) (h2 : b.2.1.length ≤ memMax) (hr : r.2.2.1.length ≤ memMax) (hc : c.2.2.1.length ≤ memMax) (both : Int) (hb : both = 0 → c.2.2.1.length = r.2.2.1.length)
include hn h1 h2 hr hc hb

theorem permits_fin28 (x y upper lower : List Cnd) (t : Int) :
    law04_BasinPermits_f28 b r c (if both = 0 then permits r c else false) both x (ckRngB b r) y (ckRngB b r) (ckRngB b r) (ckCndB b c) both upper lower t = some (true, ()) := by
  have hm := memMax_lt
  have aw : (law04_awake_M.bind fun v6 => some (v6.1, ())) = some (true, ()) := by rw [awake_true]; rfl
  unfold law04_BasinPermits_f28
  rw [given_eq b h1 h2, condition_eq c hc]
  simp only [Option.bind_some]
  rw [bcheckC_eq b c hn hc]
  simp only [Option.bind_some]
  rw [bifT (beq_self_eq_true _), one_eq r hr]
  simp only [Option.bind_some]
  rw [bcheckR_eq b r hn hr]
  simp only [Option.bind_some]
  rw [bifT (beq_self_eq_true _)]
  by_cases h0 : both = 0
  · rw [bifT (show (both == 0) = true by simpa using h0), rwithin_eq r c (hb h0) (by omega)]
    simp only [Option.bind_some]
    rw [if_pos h0, bifT (beq_self_eq_true _), bifT (beq_self_eq_true _), bifT (beq_self_eq_true _), bifT (beq_self_eq_true _)]
    exact aw
  · rw [bifF (show (both == 0) = false by simpa using h0), if_neg h0, bifT (beq_self_eq_true _), bifT (beq_self_eq_true _), bifT (beq_self_eq_true _), bifT (beq_self_eq_true _)]
    exact aw

theorem permits_fin63 (x y : List Cnd) (t : Int) :
    law04_BasinPermits_f63 b r c (if both = 0 then permits r c else false) both x (ckRngB b r) y (ckRngB b r) (ckRngB b r) (ckCndB b c) both t = some (true, ()) := by
  have hm := memMax_lt
  have aw : (law04_awake_M.bind fun v6 => some (v6.1, ())) = some (true, ()) := by rw [awake_true]; rfl
  unfold law04_BasinPermits_f63
  rw [given_eq b h1 h2, condition_eq c hc]
  simp only [Option.bind_some]
  rw [bcheckC_eq b c hn hc]
  simp only [Option.bind_some]
  rw [bifT (beq_self_eq_true _), one_eq r hr]
  simp only [Option.bind_some]
  rw [bcheckR_eq b r hn hr]
  simp only [Option.bind_some]
  rw [bifT (beq_self_eq_true _)]
  by_cases h0 : both = 0
  · rw [bifT (show (both == 0) = true by simpa using h0), rwithin_eq r c (hb h0) (by omega)]
    simp only [Option.bind_some]
    rw [if_pos h0, bifT (beq_self_eq_true _), bifT (beq_self_eq_true _), bifT (beq_self_eq_true _), bifT (beq_self_eq_true _)]
    exact aw
  · rw [bifF (show (both == 0) = false by simpa using h0), if_neg h0, bifT (beq_self_eq_true _), bifT (beq_self_eq_true _), bifT (beq_self_eq_true _), bifT (beq_self_eq_true _)]
    exact aw

/-- What stands behind the law's questions. -/
theorem permits_s88 (is : Bool × Int × Unit) (up lo : List Cnd × Int × Unit) (his : is = (if both = 0 then permits r c else false, both, ()))
    (hup : up = if ckRngB b r = 0 then ([cornR true r], 0, ()) else ([], ckRngB b r, ())) (hlo : lo = if ckRngB b r = 0 then ([cornR false r], 0, ()) else ([], ckRngB b r, ())) :
    law04_BasinPermits_s88 b r c is up lo (ckRngB b r, ()) (ckCndB b c, ()) both = some (true, ()) := by
  have hm := memMax_lt
  have hmm : memMax = 68719476736 := rfl
  subst his
  unfold law04_BasinPermits_s88
  by_cases hk : ckRngB b r = 0
  · rw [if_pos hk] at hup hlo
    subst hup hlo
    rw [bifT (show (ckRngB b r == 0) = true by simpa using hk), rcorner_eq [r] true (by simp [memMax]) (by simpa using hr), rcorner_eq [r] false (by simp [memMax]) (by simpa using hr)]
    simp only [Option.bind_some, List.map_cons, List.map_nil]
    rw [bifF (show (([cornR true r].length : Int) != ([cornR true r].length : Int)) = false by simp), bifF (show (([cornR false r].length : Int) != ([cornR false r].length : Int)) = false by simp),
      bifT (dec_true (show ([cornR true r].length : Int) ≤ 9223372036854775807 by simp))]
    have hbody : law04_BasinPermits_b28 b r c (if both = 0 then permits r c else false) both [cornR true r] 0 [cornR false r] 0 (ckRngB b r) (ckCndB b c) both [cornR true r] [cornR false r] ([cornR true r].length : Int) 0 = some (.inr ()) := by
      unfold law04_BasinPermits_b28
      rw [own_eq _ (by simp [memMax]), own_eq _ (by simp [memMax])]
      simp only [Option.bind_some]
      rw [show idx [cornR true r] 0 = some (cornR true r) from rfl, show idx [cornR false r] 0 = some (cornR false r) from rfl]
      simp only [Option.bind_some]
      rw [sameCond_refl _ (by simp [cornR]; omega), sameCond_refl _ (by simp [cornR]; omega)]
      rfl
    show loopN _ _ 1 0 () = _
    unfold loopN
    rw [hbody]
    simp only [Option.bind_some]
    have := permits_fin28 b r c hn h1 h2 hr hc both hb [cornR true r] [cornR false r] [cornR true r] [cornR false r] ([cornR true r].length : Int)
    rw [hk] at this ⊢
    exact this
  · rw [if_neg hk] at hup hlo
    subst hup hlo
    rw [bifF (show (ckRngB b r == 0) = false by simpa using hk)]
    exact permits_fin63 b r c hn h1 h2 hr hc both hb [] [] 0
end

/-- **BasinPermits**: for every input the law answers true. -/
theorem basinPermits_law (b : Bas) (r : Rng) (c : Cnd) : law04_BasinPermits_M b r c = some (true, ()) := by
  have hmem : memMax = 68719476736 := rfl
  have aw : (law04_awake_M.bind fun v6 => some (v6.1, ())) = some (true, ()) := by rw [awake_true]; rfl
  unfold law04_BasinPermits_M
  obtain ⟨s, hs, hs2⟩ := short_eq b
  rw [hs]
  simp only [Option.bind_some]
  cases s with
  | false => exact aw
  | true =>
    obtain ⟨h9, h17, h60⟩ := hs2 rfl
    simp only [Bool.not_true, cond_false]
    obtain ⟨s, hs, hs2⟩ := shortR_one r
    rw [hs]
    simp only [Option.bind_some]
    cases s with
    | false => exact aw
    | true =>
      have hr := hs2 rfl
      simp only [Bool.not_true, cond_false]
      obtain ⟨s, hs, hs2⟩ := shortC_one c
      rw [hs]
      simp only [Option.bind_some]
      cases s with
      | false => exact aw
      | true =>
        have hc := hs2 rfl
        have hnn : ∀ n ∈ b.1, n.1.length < lenMax := fun n hn => by have := h60 n hn; unfold lenMax; omega
        have hr1 : ∀ e ∈ [r], e.2.2.1.length ≤ memMax := by intro e he; simp at he; subst he; omega
        have hK : firstOf (ckBasin b) (ckRngs b [r]) = ckRngB b r := by
          unfold ckRngs ckRngB
          simp only [List.map_cons, List.map_nil, firstE_cons, firstE_nil, firstOf_zero]
          rfl
        simp only [Bool.not_true, cond_false]
        rw [given_eq b (by omega) (by omega), one_eq r (by omega), condition_eq c (by omega), ranges_eq [r] (by simp [memMax]) hr1]
        simp only [Option.bind_some]
        rw [bwithin_eq b r c hnn (by omega) (by omega), bcorner_eq b [r] true hnn (by simp [memMax]) hr1, bcorner_eq b [r] false hnn (by simp [memMax]) hr1, hK, rcheckR_eq b r (by unfold lenMax; omega), rcheckC_eq b c (by unfold lenMax; omega)]
        simp only [Option.bind_some, List.map_cons, List.map_nil]
        have hb : firstOf (ckRngB b r) (ckCond b c) = 0 → c.2.2.1.length = r.2.2.1.length := fun h => by
          obtain ⟨g1, g2⟩ := firstOf_eq0 h
          have e1 := ckRng_zero (firstOf_eq0 g1).2
          have e2 := (ckCond_zero g2).2.1
          omega
        have main := permits_s88 b r c hnn (by omega) (by omega) (by omega) (by omega) (firstOf (ckRngB b r) (ckCond b c)) hb _ _ _ rfl rfl rfl
        have his : (if firstOf (ckRngB b r) (ckCond b c) = 0 then (permits r c, (0 : Int), ()) else (false, firstOf (ckRngB b r) (ckCond b c), ())) = (if firstOf (ckRngB b r) (ckCond b c) = 0 then permits r c else false, firstOf (ckRngB b r) (ckCond b c), ()) := by
          split
          · rename_i h; rw [h]
          · rfl
        rw [his]
        by_cases hk : ckRngB b r = 0
        · rw [bifT (show (ckRngB b r == 0) = true by simpa using hk), rcond_eq b c (by unfold lenMax; omega)]
          simp only [Option.bind_some]
          have e : firstOf (ckRngB b r) (ckCond b c) = ckCond b c := by rw [hk]; rfl
          rw [e] at main ⊢
          exact main
        · rw [bifF (show (ckRngB b r == 0) = false by simpa using hk)]
          have e : firstOf (ckRngB b r) (ckCond b c) = ckRngB b r := by
            unfold firstOf
            rw [if_pos (by simpa using hk)]
          rw [e] at main ⊢
          exact main
end Go.Tw
end
