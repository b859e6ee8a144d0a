/- P14: intervals and ranges: their errors, their corners.
P15: corners of ranges; what a range permits.
P16: what a range permits: the program and the reference.
P17: BasinPermits: the law. -/
import Derived.Test.YtkfigfhjbejikaaGreatDoorPB
import Derived.Test.YtkfigfhjbejikaaGreatDoorBF
import Derived.Test.YtkfigfhjbejikaaGreatDoorB23

section
set_option linter.all false
set_option maxRecDepth 100000
namespace Go.Tw
open Go.Vx Go.Vx.B Go.Proofs

abbrev Itv := Int × Int × Unit

def ckIv (x : Itv) (lo hi : Int) : Int := firstOf (ckR x.1 lo hi) (firstOf (ckR x.2.1 lo hi) (bif decide (x.1 > x.2.1) then 11 else 0))
def ckIvs (l : List Itv) (n : Int) (most : Int) : Int := firstOf (bif (l.length : Int) != n then 2 else 0) (firstE (l.map fun x => ckIv x 0 most))
def ckRng (b : Bas) (r : Rng) : Int := firstOf (ckIv r.1 (-1024) 1024) (ckIvs r.2.2.1 b.1.length 100000)
def ckRngs (b : Bas) (l : List Rng) : Int := firstOf (bif decide ((l.length : Int) > 96) then 5 else 0) (firstE (l.map (ckRng b)))

theorem firstOf_assoc (a b c : Int) : firstOf (firstOf a b) c = firstOf a (firstOf b c) := by
  unfold firstOf
  cases ha : (a != 0) <;> simp_all

/-! ### The reference -/
theorem rIv_eq (x : Itv) (lo hi : Int) : ref04_checkInterval_M x lo hi = some (ckIv x lo hi, ()) := by
  unfold ref04_checkInterval_M ref04_checkInterval_m ckIv
  simp only [checkRange_eq]
  rw [rfirst_eq _ (by simp [lenMax]), firstE_cons, firstE_cons, firstE_nil, firstOf_zero, ← firstOf_assoc]
  simp only [Option.bind_some]
  generalize firstOf (ckR x.1 lo hi) (ckR x.2.1 lo hi) = e
  unfold firstOf
  cases he : (e != 0) with
  | true => rfl
  | false =>
    simp only [cond_false]
    rw [if_neg (by simp)]
    cases decide (x.1 > x.2.1) <;> rfl

theorem rIvs_eq (b : Bas) (l : List Itv) (most : Int) (hl : l.length < lenMax) : ref04_checkIntervals_M b l most = some (ckIvs l b.1.length most, ()) := by
  unfold ref04_checkIntervals_M ckIvs firstOf
  cases ((l.length : Int) != (b.1.length : Int)) with
  | true => rfl
  | false =>
    simp only [cond_false]
    rw [if_neg (by simp), bifT (dec_true hl), loopL_err (fun x => ckIv x 0 most) l 0 (fun i e he => by
      unfold ref04_checkIntervals_b0
      rw [rIv_eq]
      simp only [Option.bind_some]
      cases (ckIv e 0 most != 0) <;> rfl) rfl]

theorem rRng_eq (b : Bas) (r : Rng) (hl : r.2.2.1.length < lenMax) : ref04_OnlyRange_M b r = some (ckRng b r, ()) := by
  unfold ref04_OnlyRange_M ref04_OnlyRange_m ckRng
  rw [rIv_eq, rIvs_eq b _ _ hl]
  simp only [Option.bind_some]
  rw [rfirst_eq _ (by simp [lenMax])]
  simp only [Option.bind_some, firstE_cons, firstE_nil, firstOf_zero]

theorem rRngs_eq (b : Bas) (l : List Rng) (hl : l.length < lenMax) (hr : ∀ r ∈ l, r.2.2.1.length < lenMax) : ref04_OnlyRanges_M b l = some (ckRngs b l, ()) := by
  unfold ref04_OnlyRanges_M ckRngs firstOf
  cases decide ((l.length : Int) > 96) with
  | true => rfl
  | false =>
    simp only [cond_false]
    rw [if_neg (by simp), bifT (dec_true hl), loopL_err (ckRng b) l 0 (fun i e he => by
      unfold ref04_OnlyRanges_b0
      rw [rRng_eq b e (hr e he)]
      simp only [Option.bind_some]
      cases (ckRng b e != 0) <;> rfl) rfl]

/-! ### The program -/
theorem bIv_eq (x : Itv) (check : Int × Unit → Option (Int × Unit)) (lo hi : Int) (h : ∀ n, check (n, ()) = some (ckR n lo hi, ())) : basin_checkInterval_M x check = some (ckIv x lo hi, ()) := by
  unfold basin_checkInterval_M basin_checkInterval_m ckIv
  rw [h, h]
  simp only [Option.bind_some, when_eq]
  rw [bfirst_eq _ (by simp [lenMax])]
  simp only [Option.bind_some, firstE_cons, firstE_nil, firstOf_zero]

theorem mapIv_eq (l : List Itv) (of : Itv × Unit → Option (Int × Unit)) (g : Itv → Int) (h : ∀ e ∈ l, of (e, ()) = some (g e, ())) (hl : l.length ≤ memMax) : basin_mapped_api_Interval_api_Errno_M l of = some (l.map g, ()) := by
  have hm := memMax_lt
  unfold basin_mapped_api_Interval_api_Errno_M
  rw [bifT (dec_true (show l.length < lenMax by omega)), loopL_app g l 0 [] (by simpa using hl) (fun i e s he hs => by
    unfold basin_mapped_api_Interval_api_Errno_b0
    rw [show (e.fst, e.snd.fst, ()) = e from rfl, h e he]
    simp only [Option.bind_some]
    rw [bifT (dec_true hs)])]
  rfl

theorem bRng_eq (b : Bas) (r : Rng) (hl : r.2.2.1.length ≤ memMax) : basin_Basin_checkRange_M b r = some (ckRng b r, ()) := by
  have hm := memMax_lt
  unfold basin_Basin_checkRange_M basin_Basin_checkRange_m ckRng ckIvs
  rw [bIv_eq r.1 _ (-1024) 1024 (fun n => by show some (basin_checkTide n) = _; unfold basin_checkTide; rw [within_eq]),
    mapIv_eq r.2.2.1 _ (fun x => ckIv x 0 100000) (fun e _ => by
      show basin_Basin_checkRange_1_M e = _
      unfold basin_Basin_checkRange_1_M basin_Basin_checkRange_1_m
      rw [bIv_eq e _ 0 100000 (fun n => by show some (basin_checkInflow n) = _; unfold basin_checkInflow; rw [within_eq])]
      rfl) hl]
  simp only [Option.bind_some, when_eq]
  rw [bfirst_eq _ (by simp; omega)]
  simp only [Option.bind_some]
  rw [bfirst_eq _ (by simp [lenMax])]
  simp only [Option.bind_some, firstE_cons, firstE_nil, firstOf_zero]

theorem mapRng_eq (l : List Rng) (of : Rng × Unit → Option (Int × Unit)) (g : Rng → Int) (h : ∀ e ∈ l, of (e, ()) = some (g e, ())) (hl : l.length ≤ memMax) : basin_mapped_basin_Range_api_Errno_M l of = some (l.map g, ()) := by
  have hm := memMax_lt
  unfold basin_mapped_basin_Range_api_Errno_M
  rw [bifT (dec_true (show l.length < lenMax by omega)), loopL_app g l 0 [] (by simpa using hl) (fun i e s he hs => by
    unfold basin_mapped_basin_Range_api_Errno_b0
    rw [show ((e.fst.fst, e.fst.snd.fst, ()), e.snd.fst, e.snd.snd.fst, ()) = e from rfl, h e he]
    simp only [Option.bind_some]
    rw [bifT (dec_true hs)])]
  rfl

theorem bRngs_eq (b : Bas) (l : List Rng) (hl : l.length ≤ memMax) (hr : ∀ r ∈ l, r.2.2.1.length ≤ memMax) : basin_Basin_checkRanges_M b l = some (ckRngs b l, ()) := by
  have hm := memMax_lt
  unfold basin_Basin_checkRanges_M basin_Basin_checkRanges_m ckRngs
  rw [mapRng_eq l _ (ckRng b) (fun e he => bRng_eq b e (hr e he)) hl]
  simp only [Option.bind_some, when_eq]
  rw [bfirst_eq _ (by simp; omega)]
  simp only [Option.bind_some]
  rw [bfirst_eq _ (by simp [lenMax])]
  simp only [Option.bind_some, firstE_cons, firstE_nil, firstOf_zero]
end Go.Tw
end

section
set_option linter.all false
set_option maxRecDepth 100000
namespace Go.Tw
open Go.Vx Go.Vx.B Go.Proofs

def endI (up : Bool) (x : Itv) : Int := bif up then x.2.1 else x.1
def cornR (up : Bool) (r : Rng) : Cnd := (endI up r.1, r.2.1, r.2.2.1.map (endI up), ())

theorem rend_eq (x : Itv) (up : Bool) : ref04_end x up = (endI up x, ()) := by
  unfold ref04_end endI
  cases up <;> rfl

theorem rends_eq (l : List Itv) (up : Bool) (hl : l.length ≤ memMax) : ref04_ends_M l up = some (l.map (endI up), ()) := by
  have hm := memMax_lt
  unfold ref04_ends_M
  rw [bifT (dec_true (show l.length < lenMax by omega)), loopL_app (endI up) l 0 [] (by simpa using hl) (fun i e s he hs => by
    unfold ref04_ends_b0
    rw [rend_eq, bifT (dec_true hs)])]
  rfl

theorem rcorner_loop (L : List Rng) (up : Bool) : ∀ (l p : List Rng) (i : Int) (s : List Cnd), L = p ++ l → i = (p.length : Int) → s.length + l.length ≤ memMax → (∀ r ∈ l, r.2.2.1.length ≤ memMax) →
    loopL (fun i__ e__ s__ => ref04_Corner_b0 L up i__ e__ s__) (fun s__ => ref04_Corner_f0 L up s__) i l s = some (s ++ l.map (cornR up), ())
  | [], p, i, s, _, _, _, _ => by rw [loopL_nil]; simp [ref04_Corner_f0]
  | r :: l, p, i, s, hL, hi, hs, hr => by
    simp only [List.length_cons] at hs
    have hbody : ref04_Corner_b0 L up i r s = some (.inr (s ++ [cornR up r])) := by
      unfold ref04_Corner_b0
      rw [hL, idx_mid p r l i hi]
      simp only [Option.bind_some]
      rw [rends_eq _ up (hr r (by simp)), rend_eq]
      simp only [Option.bind_some]
      rw [bifT (dec_true (show s.length + 1 ≤ memMax by omega))]
      rfl
    rw [loopL_cons, hbody]
    simp only [Option.bind_some]
    rw [rcorner_loop L up l (p ++ [r]) (i + 1) (s ++ [cornR up r]) (by rw [hL]; simp) (by simp [hi]) (by simp; omega) (fun r h => hr r (by simp [h]))]
    simp

theorem rcorner_eq (l : List Rng) (up : Bool) (hl : l.length ≤ memMax) (hr : ∀ r ∈ l, r.2.2.1.length ≤ memMax) : ref04_Corner_M l up = some (l.map (cornR up), ()) := by
  have hm := memMax_lt
  unfold ref04_Corner_M
  rw [bifT (dec_true (show l.length < lenMax by omega)), rcorner_loop l up l [] 0 [] rfl rfl (by simpa using hl) hr]
  rfl

/-! ### The program's corners -/
def upI (up : Bool) : Int := bif up then 1 else 0

theorem idx_ends (x : Itv) (up : Bool) : idx (basin_ends x).1 (upI up) = some (endI up x) := by
  unfold basin_ends
  cases up <;> rfl

theorem bends_eq (l : List Itv) (up : Bool) (hl : l.length ≤ memMax) : basin_end_M l (upI up) = some (l.map (endI up), ()) := by
  have hm := memMax_lt
  unfold basin_end_M basin_end_m basin_mapped_api_Interval_int_M
  rw [bifT (dec_true (show l.length < lenMax by omega)), loopL_app (endI up) l 0 [] (by simpa using hl) (fun i e s he hs => by
    unfold basin_mapped_api_Interval_int_b0
    show (Option.bind (basin_end_1_M e (upI up)) _) = _
    unfold basin_end_1_M basin_end_1_m
    rw [idx_ends]
    simp only [Option.bind_some]
    rw [bifT (dec_true hs)])]
  rfl

theorem bcorner1_eq (r : Rng) (up : Bool) (hl : r.2.2.1.length ≤ memMax) : basin_Range_corner_M r (upI up) = some (cornR up r, ()) := by
  unfold basin_Range_corner_M basin_Range_corner_m
  rw [idx_ends, bends_eq _ up hl]
  rfl

theorem mapRC_eq (l : List Rng) (of : Rng × Unit → Option (Cnd × Unit)) (g : Rng → Cnd) (h : ∀ e ∈ l, of (e, ()) = some (g e, ())) (hl : l.length ≤ memMax) : basin_mapped_basin_Range_basin_Condition_M l of = some (l.map g, ()) := by
  have hm := memMax_lt
  unfold basin_mapped_basin_Range_basin_Condition_M
  rw [bifT (dec_true (show l.length < lenMax by omega)), loopL_app g l 0 [] (by simpa using hl) (fun i e s he hs => by
    unfold basin_mapped_basin_Range_basin_Condition_b0
    rw [show ((e.fst.fst, e.fst.snd.fst, ()), e.snd.fst, e.snd.snd.fst, ()) = e from rfl, h e he]
    simp only [Option.bind_some]
    rw [bifT (dec_true hs)])]
  rfl

end Go.Tw
end

section
set_option linter.all false
set_option maxRecDepth 100000
namespace Go.Tw
open Go.Vx Go.Vx.B Go.Proofs

end Go.Tw
end

section
set_option linter.all false
set_option maxRecDepth 100000
namespace Go.Tw
open Go.Vx Go.Vx.B Go.Proofs

theorem one_eq (r : Rng) (h : r.2.2.1.length ≤ memMax) : law04_one_M r = some (r, ()) := by
  unfold law04_one_M law04_one_m law04_intervals_M law04_intervals_m
  rw [bifT (dec_true (show 0 + r.2.2.1.length ≤ memMax by omega))]
  rfl

theorem ranges_eq (l : List Rng) (hl : l.length ≤ memMax) (hr : ∀ r ∈ l, r.2.2.1.length ≤ memMax) : law04_ranges_M l = some (l, ()) := by
  have hm := memMax_lt
  unfold law04_ranges_M
  rw [bifT (dec_true (show l.length < lenMax by omega)), loopL_app (fun c => c) l 0 [] (by simpa using hl) (fun i e s he hs => by
    unfold law04_ranges_b0
    rw [show ((e.fst.fst, e.fst.snd.fst, ()), e.snd.fst, e.snd.snd.fst, ()) = e from rfl, one_eq e (hr e he)]
    simp only [Option.bind_some]
    rw [bifT (dec_true hs)])]
  simp only [List.map_id_fun', id_eq, List.nil_append]
  rfl

section
variable (b : Bas) (r : Rng) (c : Cnd) (hn : ∀ n ∈ b.1, n.1.length < lenMax) (h1 : b.1.length ≤ memMax) (h2 : b.2.1.length ≤ memMax) (hr : r.2.2.1.length ≤ memMax) (hc : c.2.2.1.length ≤ memMax) (both : Int) (hb : both = 0 → c.2.2.1.length = r.2.2.1.length)
include hn h1 h2 hr hc hb

end

end Go.Tw
end
