import Derived.Test.YtohhmdogfjmlcaaGreatP19
import Derived.Test.YtohhmdogfjmlcaaGreatB17
set_option linter.all false
set_option maxRecDepth 100000
namespace Go.Tw
open Go.Vx Go.Vx.B Go.Proofs
structure Cur (c : Cha) (ps0 new : List Pth) (d : Int) (dep next : List Int) : Prop where
  pi : PI c (ps0 ++ new)
  nx : next = lvs new
  ln : ∀ p ∈ new, (p.2.1.length : Int) = d
  dp : DepOK c dep (ps0 ++ new)
section
variable {c : Cha} (hs : Sh c) (hk : ckChart c = 0)
include hs hk
theorem r_body (r3 s5 ev) (d : Int) (leaf : Int) (e : List UInt8) (t130 t131 t135 t136 t137 cs2) (v : Int) (hx : OkIn (e, v, ())) (here : Pth) (hh : here.1 = leaf) (hd : (here.2.1.length : Int) + 1 = d) (ps0 new : List Pth) (dep next : List Int) (h : Cur c ps0 new d dep next) (i : Nat) (hi : ps0[i]? = some here) :
    ∃ new' dep' next', zg_b37 c r3 s5 ev d leaf e t130 t131 t135 t136 t137 cs2 v dep next = some (.inr (dep', next')) ∧ addW c here e v (ps0 ++ new) = ps0 ++ new' ∧ Cur c ps0 new' d dep' next' := by
  have hmem : memMax = 68719476736 := rfl
  have hc := valid_of c hk
  subst hh
  have hi2 : (ps0 ++ new)[i]? = some here := by rw [List.getElem?_append_left (List.getElem?_eq_some_iff.1 hi).1]; exact hi
  have hin := List.mem_of_getElem? hi2
  have hlf := h.pi.lf here hin
  unfold zg_b37
  rw [chart_eq c hs]
  simp only [Option.bind_some]
  rw [gStep_ok hs hk hlf hx]
  simp only [Option.bind_some]
  have hP := addW_PI c hc here e v hx _ i h.pi hi2
  rcases stp_err c here.1 e v with h0 | h30
  · have hl := stp_lf hc hlf h0
    obtain ⟨x, hxx⟩ := Int.eq_ofNat_of_zero_le hl.1
    have hxn : x < c.1.length := by have := hl.2.1; omega
    rw [h0, hxx, bifF (show ((0 : Int) == 30) = false from rfl), bifF (show ((0 : Int) != 0) = false from rfl), bifF (dec_false (by omega)), bifF (dec_false (by omega)), idx_nat, Int.toNat_natCast, h.dp.2 x hxn]
    simp only [Option.bind_some]
    by_cases hn : (lvs (ps0 ++ new)).contains (x : Int) = false
    · have hneg : depOf (ps0 ++ new) x < 0 := by rw [depOf_some]; exact hn
      have hfew := h.pi.wi.few hc
      rw [List.length_append] at hfew
      have hadd : addW c here e v (ps0 ++ new) = ps0 ++ (new ++ [((x : Int), here.2.1 ++ [(e, v, ())], ())]) := by
        unfold addW
        rw [hxx, if_pos ⟨h0, hn⟩, List.append_assoc]
      rw [hadd] at hP
      rw [bifT (dec_true hneg), bifT (dec_true (show next.length + 1 ≤ memMax by rw [h.nx]; simp only [List.length_map]; omega))]
      refine ⟨new ++ [((x : Int), here.2.1 ++ [(e, v, ())], ())], dep.set x d, next ++ [(x : Int)], rfl, hadd, hP, ?_, ?_, ?_⟩
      · rw [h.nx]; simp [lvs]
      · intro p hp
        rcases List.mem_append.1 hp with hp | hp
        · exact h.ln p hp
        · rw [List.mem_singleton] at hp; subst hp
          simp
          omega
      · rw [← List.append_assoc]
        exact DepOK_snoc h.dp _ x rfl hn d (by simp; omega)
    · have hneg : ¬ depOf (ps0 ++ new) x < 0 := by rw [depOf_some]; exact hn
      rw [bifF (dec_false hneg)]
      refine ⟨new, dep, next, rfl, ?_, h⟩
      unfold addW
      rw [hxx, if_neg (fun hh => hn hh.2)]
  · rw [h30, bifT (show ((30 : Int) == 30) = true from rfl)]
    refine ⟨new, dep, next, rfl, ?_, h⟩
    unfold addW
    rw [if_neg (fun hh => by rw [h30] at hh; cases hh.1)]
theorem r_vloop (r3 s5 ev) (d : Int) (leaf : Int) (e : List UInt8) (t130 t131 t135 t136 t137 cs2) (he : isNm e = true ∧ e.length < lenMax) (here : Pth) (hh : here.1 = leaf) (hd : (here.2.1.length : Int) + 1 = d) (ps0 : List Pth) (i : Nat) (hi : ps0[i]? = some here) :
    ∀ (m : Nat) (v : Int) (new : List Pth) (dep next : List Int), 0 ≤ v → v + m = 16 → Cur c ps0 new d dep next →
    ∃ new' dep' next', loopN (fun i__ s__ => zg_b37 c r3 s5 ev d leaf e t130 t131 t135 t136 t137 cs2 i__ s__.1 s__.2) (fun s__ => zg_f37 c r3 s5 ev d leaf e t130 t131 t135 t136 t137 cs2 s__.1 s__.2) m v (dep, next) = some (.inr (dep', next')) ∧ wv c here e m v (ps0 ++ new) = ps0 ++ new' ∧ Cur c ps0 new' d dep' next'
  | 0, v, new, dep, next, _, _, h => ⟨new, dep, next, rfl, rfl, h⟩
  | m + 1, v, new, dep, next, h0, hv, h => by
    obtain ⟨n1, d1, x1, hb, ha, h1⟩ := r_body hs hk r3 s5 ev d leaf e t130 t131 t135 t136 t137 cs2 v ⟨he.1, he.2, h0, by show v ≤ 15; omega⟩ here hh hd ps0 new dep next h i hi
    obtain ⟨n2, d2, x2, hb2, ha2, h2⟩ := r_vloop r3 s5 ev d leaf e t130 t131 t135 t136 t137 cs2 he here hh hd ps0 i hi m (v + 1) n1 d1 x1 (by omega) (by omega) h1
    refine ⟨n2, d2, x2, ?_, ?_, h2⟩
    · simp only [loopN, hb, Option.bind_some]
      exact hb2
    · unfold wv
      rw [ha]
      exact ha2
theorem r_eloop (r3 s5 ev) (d : Int) (leaf : Int) (t130 t131 t135 cs2) (here : Pth) (hh : here.1 = leaf) (hd : (here.2.1.length : Int) + 1 = d) (ps0 : List Pth) (i : Nat) (hi : ps0[i]? = some here) :
    ∀ (l : List (List UInt8)) (k : Int) (new : List Pth) (dep next : List Int), (∀ e ∈ l, isNm e = true ∧ e.length < lenMax) → Cur c ps0 new d dep next →
    ∃ new' dep' next', loopL (fun i__ e__ s__ => zg_b35 c r3 s5 ev d leaf t130 t131 t135 cs2 i__ e__ s__.1 s__.2) (fun s__ => zg_f35 c r3 s5 ev d leaf t130 t131 t135 cs2 s__.1 s__.2) k l (dep, next) = some (.inr (dep', next')) ∧ we c here l (ps0 ++ new) = ps0 ++ new' ∧ Cur c ps0 new' d dep' next'
  | [], k, new, dep, next, _, h => ⟨new, dep, next, rfl, rfl, h⟩
  | e :: l, k, new, dep, next, he, h => by
    obtain ⟨n1, d1, x1, hb, ha, h1⟩ := r_vloop hs hk r3 s5 ev d leaf e t130 t131 t135 (t135.length : Int) k cs2 (he e (by simp)) here hh hd ps0 i hi 16 0 new dep next (by omega) (by omega) h
    obtain ⟨n2, d2, x2, hb2, ha2, h2⟩ := r_eloop r3 s5 ev d leaf t130 t131 t135 cs2 here hh hd ps0 i hi l (k + 1) n1 d1 x1 (fun e he' => he e (by simp [he'])) h1
    refine ⟨n2, d2, x2, ?_, ?_, h2⟩
    · have hbb : zg_b35 c r3 s5 ev d leaf t130 t131 t135 cs2 k e dep next = some (.inr (d1, x1)) := by
        unfold zg_b35
        rw [bifT (dec_true (by omega)), show ((16 : Int) - 0).toNat = 16 from rfl]
        exact hb
      rw [loopL_cons, hbb]
      simp only [Option.bind_some]
      exact hb2
    · unfold we
      rw [ha]
      exact ha2
theorem r_level (r3 s5) (d : Int) (cs2 : List Int) (ps0 : List Pth) :
    ∀ (rest pre : List Pth) (done : List Int) (q : Nat) (new : List Pth) (dep next : List Int), ps0 = pre ++ rest → cs2 = done ++ lvs rest → (∀ p ∈ rest, (p.2.1.length : Int) + 1 = d) → Cur c ps0 new d dep next →
    ∃ new' dep' next', loopL (fun i__ e__ s__ => zg_b32 c r3 s5 (evts c.2.1) d cs2 i__ e__ s__.1 s__.2) (fun s__ => zg_f32 c r3 s5 (evts c.2.1) d cs2 s__.1 s__.2) (done.length : Int) (lvs rest) (dep, next) = some (.inr (IntKind.i64.wrap (d + 1), dep', next')) ∧
      wout c (evts c.2.1) (rest.length + q) pre.length (ps0 ++ new) = wout c (evts c.2.1) q ps0.length (ps0 ++ new') ∧ Cur c ps0 new' d dep' next'
  | [], pre, done, q, new, dep, next, hp, hc2, _, h => by
    rw [List.append_nil] at hp
    refine ⟨new, dep, next, rfl, ?_, h⟩
    rw [hp]
    simp
  | here :: rest, pre, done, q, new, dep, next, hp, hc2, hd, h => by
    have hc := valid_of c hk
    have hkd := hc.kinds
    have hi : ps0[pre.length]? = some here := by rw [hp]; simp
    obtain ⟨n1, d1, x1, hb, ha, h1⟩ := r_eloop hs hk r3 s5 (evts c.2.1) d here.1 (cs2.length : Int) (done.length : Int) (evts c.2.1) cs2 here rfl (hd here (by simp)) ps0 pre.length hi (evts c.2.1) 0 new dep next (fun e he => evts_ok hs hc he) h
    obtain ⟨n2, d2, x2, hb2, ha2, h2⟩ := r_level r3 s5 d cs2 ps0 rest (pre ++ [here]) (done ++ [here.1]) q n1 d1 x1 (by rw [hp]; simp) (by rw [hc2]; simp [lvs]) (fun p hp => hd p (by simp [hp])) h1
    refine ⟨n2, d2, x2, ?_, ?_, h2⟩
    · have hbb : zg_b32 c r3 s5 (evts c.2.1) d cs2 (done.length : Int) here.1 dep next = some (.inr (d1, x1)) := by
        unfold zg_b32
        rw [Int.toNat_natCast, show cs2[done.length]? = some here.1 by rw [hc2]; simp [lvs]]
        simp only [Option.bind_some]
        rw [bifT (dec_true (show (evts c.2.1).length < lenMax by unfold lenMax; omega))]
        exact hb
      show loopL _ _ _ (here.1 :: lvs rest) _ = _
      rw [loopL_cons, hbb]
      simp only [Option.bind_some]
      rw [show ((done ++ [here.1]).length : Int) = (done.length : Int) + 1 by simp] at hb2
      exact hb2
    · have hg : (ps0 ++ new)[pre.length]? = some here := by rw [List.getElem?_append_left (List.getElem?_eq_some_iff.1 hi).1]; exact hi
      have e : (here :: rest).length + q = (rest.length + q) + 1 := by simp; omega
      rw [e]
      show (match (ps0 ++ new)[pre.length]? with | some here => wout c (evts c.2.1) (rest.length + q) (pre.length + 1) (we c here (evts c.2.1) (ps0 ++ new)) | none => ps0 ++ new) = _
      rw [hg]
      simp only
      rw [ha]
      rw [show (pre ++ [here]).length = pre.length + 1 by simp] at ha2
      exact ha2
theorem wout_end (ev : List (List UInt8)) (q : Nat) (ps : List Pth) : wout c ev q ps.length ps = ps := by
  cases q with
  | zero => rfl
  | succ q =>
    unfold wout
    rw [List.getElem?_eq_none (Nat.le_refl _)]
theorem r_levels (r3 s5) : ∀ (r : Nat) (pre seg : List Pth) (d : Int) (dep : List Int) (q : Nat), PI c (pre ++ seg) → DepOK c dep (pre ++ seg) → (∀ p ∈ seg, (p.2.1.length : Int) + 1 = d) → 0 ≤ d → d ≤ 1000 → 17 ≤ pre.length + r → 17 ≤ pre.length + q →
    ∃ dep', loopW (fun s__ => zg_b29 c r3 s5 (evts c.2.1) s__.1 s__.2.1 s__.2.2) r (d, dep, lvs seg) = zg_s127 c r3 s5 dep' ∧ PI c (wout c (evts c.2.1) q pre.length (pre ++ seg)) ∧ DepOK c dep' (wout c (evts c.2.1) q pre.length (pre ++ seg))
  | 0, pre, seg, d, dep, q, hpi, hdp, hd, h0, h1, hr, hq => by
    have := hpi.wi.few (valid_of c hk)
    rw [List.length_append] at this
    omega
  | r + 1, pre, seg, d, dep, q, hpi, hdp, hd, h0, h1, hr, hq => by
    have hc := valid_of c hk
    have hfew := hpi.wi.few hc
    have hn16 := hc.few
    have hle := nodup_le c.1.length (lvs (pre ++ seg)) hpi.wi.nd (fun x hx => by
      obtain ⟨p, hp, rfl⟩ := List.mem_map.1 hx
      exact hpi.wi.rg p hp)
    simp only [List.length_map] at hle
    cases seg with
    | nil =>
      rw [List.append_nil] at hpi hdp ⊢
      rw [wout_end hs hk]
      refine ⟨dep, ?_, hpi, hdp⟩
      simp only [loopW]
      unfold zg_b29
      rw [bifF (dec_false (show ¬ (((lvs []).length : Nat) : Int) > 0 by simp [lvs]))]
      cases zg_s127 c r3 s5 dep <;> rfl
    | cons here rest =>
      have hdn : d ≤ c.1.length := by
        have h2 := hpi.wi.ln pre.length here (by simp)
        have h3 := hd here (by simp)
        rw [List.length_append, List.length_cons] at hle
        omega
      rw [List.length_append, List.length_cons] at hfew
      obtain ⟨n1, d1, x1, hb, ha, hcur⟩ := r_level hs hk r3 s5 d (lvs (here :: rest)) (pre ++ here :: rest) (here :: rest) pre [] (q - (here :: rest).length) [] dep [] rfl rfl hd ⟨by rw [List.append_nil]; exact hpi, rfl, fun p hp => (by cases hp), by rw [List.append_nil]; exact hdp⟩
      have hq2 : (here :: rest).length + (q - (here :: rest).length) = q := by rw [List.length_cons]; omega
      rw [hq2, List.append_nil] at ha
      have hfew2 := hcur.pi.wi.few hc
      rw [List.length_append, List.length_append, List.length_cons] at hfew2
      obtain ⟨dep', i1, i2, i3⟩ := r_levels r3 s5 r (pre ++ here :: rest) n1 (d + 1) d1 (q - (here :: rest).length) hcur.pi hcur.dp (fun p hp => by rw [hcur.ln p hp]) (by omega) (by omega) (by rw [List.length_append, List.length_cons]; omega) (by rw [List.length_append, List.length_cons]; omega)
      rw [← ha] at i2 i3
      refine ⟨dep', ?_, i2, i3⟩
      have hbb : zg_b29 c r3 s5 (evts c.2.1) d dep (lvs (here :: rest)) = some (.inr (d + 1, d1, lvs n1)) := by
        unfold zg_b29
        rw [bifT (dec_true (show (((lvs (here :: rest)).length : Nat) : Int) > 0 by simp only [List.length_map, List.length_cons]; omega)), bifT (dec_true hdn), bifT (dec_true (show (lvs (here :: rest)).length < lenMax by simp only [List.length_map, List.length_cons]; unfold lenMax; omega))]
        rw [wrapS (show -9223372036854775808 ≤ d + 1 by omega) (by omega), hcur.nx] at hb
        exact hb
      simp only [loopW, hbb, Option.bind_some]
      exact i1
end
end Go.Tw
