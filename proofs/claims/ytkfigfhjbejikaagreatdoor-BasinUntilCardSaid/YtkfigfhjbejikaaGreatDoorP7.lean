/- P7: a step of the program is that of the reference (the loops together); until a level is reached. -/
import Derived.Test.YtkfigfhjbejikaaGreatDoorP6
set_option linter.all false
set_option maxRecDepth 100000
namespace Go.Tw
open Go.Vx Go.Vx.B Go.Proofs

theorem addAt_sea {out : List Int} {j n : Int} (h : j = -1) : addAt out j n = out := by unfold addAt; rw [if_pos h]
theorem addAt_node {out : List Int} {j n : Int} (h : ¬ j = -1) : addAt out j n = out.set j.toNat (wr (out.getD j.toNat 0 + n)) := by unfold addAt; rw [if_neg h]
theorem getD_get {v : List Int} {i : Nat} (h : i < v.length) : v[i]? = some (v.getD i 0) := by simp [List.getD, List.getElem?_eq_getElem h]

theorem fits8_get {v : List Int} (h : fits8 v = true) {i : Nat} {x : Int} (hi : v[i]? = some x) : x ≤ maxV := by
  have := List.all_eq_true.1 h x (List.mem_of_getElem? hi)
  simpa using this

theorem fits8_of {v : List Int} (h : ∀ (i : Nat) (x : Int), v[i]? = some x → x ≤ maxV) : fits8 v = true := by
  unfold fits8
  rw [List.all_eq_true]
  intro x hx
  obtain ⟨i, hi, rfl⟩ := List.getElem_of_mem hx
  exact decide_eq_true (h i _ (List.getElem?_eq_getElem hi))

theorem fits8_addAt {out : List Int} (h : fits8 out = true) (j n : Int) (hj : j = -1 ∨ (0 ≤ j ∧ j < out.length)) : fits8 (addAt out j n) = okAt (addAt out j n) j := by
  unfold okAt
  by_cases hm : j = -1
  · rw [dec_true hm, Bool.true_or]
    unfold addAt
    rw [if_pos hm]
    exact h
  · rw [dec_false hm, Bool.false_or]
    have hj := hj.resolve_left hm
    have hl : j.toNat < out.length := by omega
    have e : addAt out j n = out.set j.toNat (wr (out.getD j.toNat 0 + n)) := by unfold addAt; rw [if_neg hm]
    have e2 : (addAt out j n).getD j.toNat 0 = wr (out.getD j.toNat 0 + n) := by
      rw [e]; simp [List.getD, hl]
    rw [e2]
    by_cases hw : wr (out.getD j.toNat 0 + n) ≤ maxV
    · rw [dec_true hw]
      refine fits8_of fun i x hi => ?_
      rw [e, List.getElem?_set] at hi
      split at hi
      · cases hi; exact hw
      · exact fits8_get h hi
    · rw [dec_false hw]
      rw [Bool.eq_false_iff]
      intro hf
      exact hw (fits8_get hf (i := j.toNat) (by rw [e]; simp [hl]))

theorem fits8_mv (b : Bas) (c : Cnd) {x : Lnk} {N : Nat} (hx : LinkOK x N) {out : List Int} (hN : out.length = N) (h : fits8 out = true) : fits8 (mv b c x out) = okL b c x out := by
  unfold okL
  have hfr : x.2.1 = -1 ∨ (0 ≤ x.2.1 ∧ x.2.1 < (out.length : Int)) := by rw [hN]; exact hx.from_
  have hto : x.2.2.1 = -1 ∨ (0 ≤ x.2.2.1 ∧ x.2.2.1 < ((addAt out x.2.1 (wr (0 - fl b c x out))).length : Int)) := by rw [addAt_length, hN]; exact hx.to_
  have h1 := fits8_addAt h x.2.1 (wr (0 - fl b c x out)) hfr
  cases ho : okAt (addAt out x.2.1 (wr (0 - fl b c x out))) x.2.1 with
  | true =>
    rw [Bool.true_and]
    exact fits8_addAt (h1.trans ho) x.2.2.1 (fl b c x out) hto
  | false =>
    rw [Bool.false_and, Bool.eq_false_iff]
    intro hf
    unfold okAt at ho
    rw [Bool.or_eq_false_iff] at ho
    have hm : ¬ x.2.1 = -1 := of_decide_eq_false ho.1
    have hj := hfr.resolve_left hm
    have hw := of_decide_eq_false ho.2
    apply hw
    refine fits8_get hf (i := x.2.1.toNat) ?_
    have hl : x.2.1.toNat < (addAt out x.2.1 (wr (0 - fl b c x out))).length := by rw [addAt_length]; omega
    unfold mv
    by_cases ht : x.2.2.1 = -1
    · rw [addAt_sea ht]
      exact getD_get hl
    · have ht2 := hto.resolve_left ht
      have hne : x.2.2.1.toNat ≠ x.2.1.toNat := by have := hx.ne; omega
      rw [addAt_node ht, List.getElem?_set_ne hne]
      exact getD_get hl

theorem mv_length (b : Bas) (c : Cnd) (x : Lnk) (out : List Int) : (mv b c x out).length = out.length := by unfold mv; rw [addAt_length, addAt_length]

/-- A link's turn in the reference. -/
theorem rlink_body (b : Bas) (c : Cnd) (i : Int) (x : Lnk) (hx : LinkOK x b.1.length) (hN8 : b.1.length ≤ 8) (fs out : List Int) (hN : out.length = b.1.length) (hfs : fs.length + 1 ≤ memMax) :
    ref04_Moved_b7 b c i x out fs = some (bif fits8 (mv b c x out) then .inr (mv b c x out, fs ++ [fl b c x out]) else .inl ([], [], 4, ())) := by
  have hat := atL_in hx
  unfold ref04_Moved_b7
  obtain ⟨e1, e2⟩ := idx_getD (out := out) hat.1 (by rw [hN]; exact hat.2)
  have e3 : idx b.1 (atL x) = some (b.1.getD (atL x).toNat ([], 0, 0, ())) := by
    unfold idx
    rw [if_pos hat.1]
    have : (atL x).toNat < b.1.length := by omega
    simp [List.getD, List.getElem?_eq_getElem this]
  have hj : (if x.2.1 < 0 then x.2.2.1 else x.2.1) = atL x := by
    unfold atL
    have := hx.from_
    by_cases hm : x.2.1 = -1
    · rw [if_pos hm, if_pos (by omega)]
    · rw [if_neg hm, if_neg (by omega)]
  have hr := hx.rate
  rw [show ref04_flow_M b out c (x.fst, x.snd.fst, x.snd.snd.fst, x.snd.snd.snd.fst, x.snd.snd.snd.snd.fst, ()) = ref04_flow_M b out c x from rfl, rflow_eq hx.kind (by omega) b out c _ _ _ hj e3 e1]
  simp only [Option.bind_some]
  change (bif decide (x.2.1 ≥ 0) then (idx out x.2.1).bind fun v10 => (out[x.2.1.toNat]?).bind fun v11 => (idx out x.2.1).bind fun v12 => (out[x.2.1.toNat]?).bind fun v13 => ref04_Moved_s22 b c i fs x (fl b c x out, ()) (out.set x.2.1.toNat (wr (v11 - fl b c x out))) else ref04_Moved_s22 b c i fs x (fl b c x out, ()) out) = _
  have hfr : x.2.1 = -1 ∨ (0 ≤ x.2.1 ∧ x.2.1 < (out.length : Int)) := by rw [hN]; exact hx.from_
  have s22 : ref04_Moved_s22 b c i fs x (fl b c x out, ()) (addAt out x.2.1 (wr (0 - fl b c x out))) = some (bif fits8 (mv b c x out) then .inr (mv b c x out, fs ++ [fl b c x out]) else .inl ([], [], 4, ())) := by
    have s21 : ref04_Moved_s21 b c i fs (fl b c x out, ()) (mv b c x out) = some (bif fits8 (mv b c x out) then .inr (mv b c x out, fs ++ [fl b c x out]) else .inl ([], [], 4, ())) := by
      unfold ref04_Moved_s21
      rw [tooMuch_eq _ (by rw [mv_length, hN]; unfold lenMax; omega)]
      simp only [Option.bind_some]
      cases fits8 (mv b c x out) with
      | true =>
        simp only [Bool.not_true, cond_false, cond_true]
        rw [bifT (dec_true hfs)]
      | false => rfl
    unfold ref04_Moved_s22
    have hto : x.2.2.1 = -1 ∨ (0 ≤ x.2.2.1 ∧ x.2.2.1 < ((addAt out x.2.1 (wr (0 - fl b c x out))).length : Int)) := by rw [addAt_length, hN]; exact hx.to_
    by_cases ht : x.2.2.1 = -1
    · rw [bifF (dec_false (show ¬ x.2.2.1 ≥ 0 by omega))]
      have e : mv b c x out = addAt out x.2.1 (wr (0 - fl b c x out)) := by unfold mv; rw [addAt_sea ht]
      rw [← e]
      exact s21
    · have ht2 := hto.resolve_left ht
      rw [bifT (dec_true (show x.2.2.1 ≥ 0 by omega))]
      obtain ⟨g1, g2⟩ := idx_getD ht2.1 ht2.2
      rw [g1, g2]
      simp only [Option.bind_some]
      have e : mv b c x out = (addAt out x.2.1 (wr (0 - fl b c x out))).set x.2.2.1.toNat (wr ((addAt out x.2.1 (wr (0 - fl b c x out))).getD x.2.2.1.toNat 0 + fl b c x out)) := by unfold mv; rw [addAt_node ht]
      rw [show (addAt out x.2.1 (wr (0 - fl b c x out))).set x.2.2.1.toNat (IntKind.i64.wrap ((addAt out x.2.1 (wr (0 - fl b c x out))).getD x.2.2.1.toNat 0 + fl b c x out)) = mv b c x out from e.symm]
      exact s21
  by_cases hf : x.2.1 = -1
  · rw [bifF (dec_false (show ¬ x.2.1 ≥ 0 by omega))]
    have e : addAt out x.2.1 (wr (0 - fl b c x out)) = out := by unfold addAt; rw [if_pos hf]
    rw [e] at s22
    exact s22
  · have hf2 := hfr.resolve_left hf
    rw [bifT (dec_true (show x.2.1 ≥ 0 by omega))]
    obtain ⟨g1, g2⟩ := idx_getD hf2.1 hf2.2
    rw [g1, g2]
    simp only [Option.bind_some]
    have e : addAt out x.2.1 (wr (0 - fl b c x out)) = out.set x.2.1.toNat (wr (out.getD x.2.1.toNat 0 - fl b c x out)) := by unfold addAt; rw [if_neg hf, wrap_sub]
    rw [e] at s22
    exact s22

noncomputable abbrev bLoop (b : Bas) (c : Cnd) (i : Int) (l : List Lnk) (s : Bool × List Int × List Int) : Option (List Int × Option (List Int) × Bool × Unit) :=
  loopL (fun i__ e__ s__ => basin_Basin_step_b12 b c basin_table.1 b.2.1 i__ e__ s__.1 s__.2.1 s__.2.2) (fun s__ => basin_Basin_step_f12 b c basin_table.1 b.2.1 s__.1 s__.2.1 s__.2.2) i l s
noncomputable abbrev rLoop (b : Bas) (c : Cnd) (i : Int) (l : List Lnk) (s : List Int × List Int) : Option (List Int × List Int × Int × Unit) :=
  loopL (fun i__ e__ s__ => ref04_Moved_b7 b c i__ e__ s__.1 s__.2) (fun s__ => ref04_Moved_f7 b c s__.1 s__.2) i l s

theorem bLoop_bad (b : Bas) (c : Cnd) : ∀ (l : List Lnk) (i : Int) (fs out : List Int), (∀ x ∈ l, LinkOK x b.1.length) → out.length = b.1.length → fs.length + l.length ≤ memMax → ∃ fs' out', bLoop b c i l (false, fs, out) = some (fs', some out', false, ())
  | [], i, fs, out, _, _, _ => ⟨fs, out, rfl⟩
  | x :: l, i, fs, out, hx, hN, hl => by
    simp only [List.length_cons] at hl
    unfold bLoop
    rw [loopL_cons, blink_body b c _ i x (hx x (by simp)) false fs out hN (by omega)]
    simp only [Option.bind_some, Bool.false_and]
    exact bLoop_bad b c l (i + 1) (fs ++ [fl b c x out]) (mv b c x out) (fun y hy => hx y (by simp [hy])) (by rw [mv_length]; exact hN) (by simp; omega)

/-- All links, in the program and in the reference. -/
theorem links_same (b : Bas) (c : Cnd) (h8 : b.1.length ≤ 8) : ∀ (l : List Lnk) (i i' : Int) (fs out : List Int), (∀ x ∈ l, LinkOK x b.1.length) → out.length = b.1.length → fs.length + l.length ≤ memMax → fits8 out = true →
    ∃ fs' out', (rLoop b c i' l (out, fs) = some (fs', out', 0, ()) ∧ bLoop b c i l (true, fs, out) = some (fs', some out', true, ()) ∧ out'.length = b.1.length ∧ fits8 out' = true) ∨
      (rLoop b c i' l (out, fs) = some ([], [], 4, ()) ∧ bLoop b c i l (true, fs, out) = some (fs', some out', false, ()))
  | [], i, i', fs, out, _, hN, _, hf => ⟨fs, out, .inl ⟨rfl, rfl, hN, hf⟩⟩
  | x :: l, i, i', fs, out, hx, hN, hl, hf => by
    simp only [List.length_cons] at hl
    have hL := hx x (by simp)
    unfold rLoop bLoop
    rw [loopL_cons, loopL_cons, rlink_body b c i' x hL h8 fs out hN (by omega), blink_body b c _ i x hL true fs out hN (by omega)]
    simp only [Option.bind_some, Bool.true_and]
    have he := fits8_mv b c hL hN hf
    rw [← he]
    cases hm : fits8 (mv b c x out) with
    | true =>
      simp only [cond_true]
      exact links_same b c h8 l (i + 1) (i' + 1) (fs ++ [fl b c x out]) (mv b c x out) (fun y hy => hx y (by simp [hy])) (by rw [mv_length]; exact hN) (by simp; omega) hm
    | false =>
      simp only [cond_false]
      obtain ⟨fs', out', h⟩ := bLoop_bad b c l (i + 1) (fs ++ [fl b c x out]) (mv b c x out) (fun y hy => hx y (by simp [hy])) (by rw [mv_length]; exact hN) (by simp; omega)
      exact ⟨fs', out', .inr ⟨trivial, h⟩⟩

/-- A step, in the program and in the reference. -/
theorem step_same (b : Bas) (hb : BasOK b) (v : List Int) (c : Cnd) (hv : v.length = b.1.length) (hc : c.2.2.1.length = b.1.length) :
    ∃ fs out, (ref04_Moved_M b v c = some (fs, out, 0, ()) ∧ basin_Basin_step_M b v c = some (fs, some out, true, ()) ∧ out.length = b.1.length ∧ fits8 out = true) ∨
      (ref04_Moved_M b v c = some ([], [], 4, ()) ∧ basin_Basin_step_M b v c = some (fs, some out, false, ())) := by
  have h8 := hb.nodes
  have hl := hb.links
  have hin : (inflow v c.2.2.1).length = b.1.length := by rw [inflow_length v _ (by omega)]; exact hv
  have hmem : memMax = 68719476736 := rfl
  have hr : ref04_Moved_M b v c = ref04_Moved_f0 b c (inflow v c.2.2.1) := by
    unfold ref04_Moved_M
    rw [bifT (dec_true (show 0 + v.length ≤ memMax by omega)), bifT (dec_true (show (v.length : Int) ≤ 9223372036854775807 by omega))]
    have := rin_loop b c v.length c.2.2.1 v [] [] 0 rfl rfl rfl (by omega) rfl
    rw [List.nil_append, List.nil_append] at this
    rw [show ((v.length : Int) - 0).toNat = v.length by omega]
    exact this
  have hp : basin_Basin_step_M b v c = basin_Basin_step_f0 b c c.2.2.1 (fits8 (inflow v c.2.2.1)) (inflow v c.2.2.1) := by
    unfold basin_Basin_step_M
    have e1 : (true && decide ((0 : Int) ≤ (v.length : Int)) && decide ((v.length : Int) ≤ (memMax : Int)) && (v.length : Int) == (v.length : Int)) = true := by
      rw [dec_true (show (0 : Int) ≤ (v.length : Int) by omega), dec_true (show (v.length : Int) ≤ (memMax : Int) by omega)]; simp
    rw [bifT e1, bifT (dec_true (show c.2.2.1.length < lenMax by unfold lenMax; omega))]
    have e2 : List.take (List.replicate (v.length : Int).toNat (0 : Int)).length v ++ List.drop v.length (List.replicate (v.length : Int).toNat (0 : Int)) = v := by simp
    rw [e2]
    have := bin_loop b c c.2.2.1 c.2.2.1 v [] 0 true rfl (by omega)
    rw [List.nil_append, List.nil_append, Bool.true_and] at this
    exact this
  rw [hr, hp]
  have hlm : decide (List.length b.2.1 < lenMax) = true := dec_true (by unfold lenMax; omega)
  unfold ref04_Moved_f0 basin_Basin_step_f0
  rw [tooMuch_eq _ (by rw [hin]; unfold lenMax; omega)]
  simp only [Option.bind_some]
  rw [bifT hlm]
  cases hf : fits8 (inflow v c.2.2.1) with
  | false =>
    obtain ⟨fs', out', h⟩ := bLoop_bad b c b.2.1 0 [] (inflow v c.2.2.1) hb.link hin (by simp; omega)
    exact ⟨fs', out', .inr ⟨rfl, by rw [bifT hlm]; exact h⟩⟩
  | true =>
    simp only [Bool.not_true, cond_false]
    rw [bifT hlm]
    exact links_same b c h8 b.2.1 0 0 [] (inflow v c.2.2.1) hb.link hin (by simp; omega) hf
end Go.Tw
