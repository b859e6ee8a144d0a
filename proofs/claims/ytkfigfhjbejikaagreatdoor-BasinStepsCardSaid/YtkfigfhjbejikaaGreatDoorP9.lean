/- P9: runs: the program's passages are the reference's steps; the errors of a run's arguments. -/
import Derived.Test.YtkfigfhjbejikaaGreatDoorPA
import Derived.Test.YtkfigfhjbejikaaGreatDoorB15

set_option linter.all false
set_option maxRecDepth 100000
namespace Go.Tw
open Go.Vx Go.Vx.B Go.Proofs


/-! ### A step -/
/-- A step, if what it leaves fits. -/
noncomputable def stepD (b : Bas) (v : List Int) (c : Cnd) : Option (List Int × List Int) :=
  match ref04_Moved_M b v c with
  | some (f, o, e, _) => if e = 0 then some (f, o) else none
  | none => none

theorem stepD_both (b : Bas) (hb : BasOK b) (v : List Int) (c : Cnd) (hv : v.length = b.1.length) (hc : c.2.2.1.length = b.1.length) :
    (∃ f o, stepD b v c = some (f, o) ∧ ref04_Moved_M b v c = some (f, o, 0, ()) ∧ basin_Basin_step_M b v c = some (f, some o, true, ()) ∧ o.length = b.1.length ∧ fits8 o = true) ∨
    (stepD b v c = none ∧ ref04_Moved_M b v c = some ([], [], 4, ()) ∧ ∃ f o, basin_Basin_step_M b v c = some (f, some o, false, ())) := by
  obtain ⟨f, o, ⟨h1, h2, h3, h4⟩ | ⟨h1, h2⟩⟩ := step_same b hb v c hv hc
  · exact .inl ⟨f, o, by unfold stepD; rw [h1]; rfl, h1, h2, h3, h4⟩
  · exact .inr ⟨by unfold stepD; rw [h1]; rfl, h1, f, o, h2⟩

/-! ### A run -/
noncomputable def runD (b : Bas) : List Int → List Cnd → Option (List (Cnd × List Int × List Int))
  | _, [] => some []
  | v, c :: l => match stepD b v c with
    | none => none
    | some (f, o) => (runD b o l).map ((c, f, o) :: ·)
def psg (x : Cnd × List Int × List Int) : Psg := (x.1, x.2.1, some x.2.2, ())

theorem runD_cons_none {b : Bas} {v : List Int} {c : Cnd} {l : List Cnd} (h : stepD b v c = none) : runD b v (c :: l) = none := by
  simp only [runD, h]
theorem runD_cons_some {b : Bas} {v : List Int} {c : Cnd} {l : List Cnd} {f o : List Int} (h : stepD b v c = some (f, o)) : runD b v (c :: l) = (runD b o l).map ((c, f, o) :: ·) := by
  simp only [runD, h]

theorem wr_small {n : Int} (h1 : -9223372036854775808 ≤ n) (h2 : n ≤ 9223372036854775807) : wr n = n := by
  unfold wr IntKind.wrap IntKind.bits IntKind.signed
  simp only [Nat.reduceSub, Int.reducePow, decide_eq_true_eq, Bool.true_and]
  split <;> omega

theorem idx_last {α : Type} (p : List α) (x : α) (h : p.length < memMax) : idx (p ++ [x]) (wr (((p ++ [x]).length : Int) - 1)) = some x ∧ (p ++ [x])[(wr (((p ++ [x]).length : Int) - 1)).toNat]? = some x := by
  have hm : memMax = 68719476736 := rfl
  have e : wr (((p ++ [x]).length : Int) - 1) = (p.length : Int) := by
    rw [show (((p ++ [x]).length : Int) - 1) = (p.length : Int) by simp]
    exact wr_small (by omega) (by omega)
  rw [e]
  exact ⟨idx_mid p x [] _ rfl, by simp⟩

theorem brun_fin (b : Bas) (L : List Cnd) (v0 v : List Int) (s : List Psg) (hs : s.length ≤ memMax) (hall : ∀ x ∈ s, x.2.2.1.isNone = false) :
    basin_Basin_run_f0 b L L b L b L b L b L b L b b v0 L b 0 b v0 L L b v s = some (s, 0, ()) := by
  unfold basin_Basin_run_f0
  rcases List.eq_nil_or_concat s with rfl | ⟨p, x, rfl⟩
  · rfl
  · rw [List.concat_eq_append] at *
    obtain ⟨e1, e2⟩ := idx_last p x (by simp at hs; omega)
    rw [bifT (dec_true (show ((p ++ [x]).length : Int) > 0 by simp))]
    unfold wr at e1 e2
    rw [e1]
    simp only [Option.bind_some]
    rw [e2]
    simp only [Option.bind_some]
    rw [bifF (hall x (by simp))]

theorem brun_loop (b : Bas) (hb : BasOK b) (L : List Cnd) (v0 : List Int) : ∀ (l : List Cnd) (i : Int) (v : List Int) (s : List Psg), v.length = b.1.length → (∀ c ∈ l, c.2.2.1.length = b.1.length) → s.length + l.length ≤ memMax → (∀ x ∈ s, x.2.2.1.isNone = false) →
    loopL (fun i__ e__ (s__ : List Int × List Psg) => basin_Basin_run_b0 b L L b L b L b L b L b L b b v0 L b 0 b v0 L L b i__ e__ s__.1 s__.2) (fun s__ => basin_Basin_run_f0 b L L b L b L b L b L b L b b v0 L b 0 b v0 L L b s__.1 s__.2) i l (v, s) =
      some (match runD b v l with | some ps => (s ++ ps.map psg, 0, ()) | none => ([], 4, ()))
  | [], i, v, s, hv, hl, hs, hall => by
    rw [loopL_nil, brun_fin b L v0 v s (by simpa using hs) hall]
    simp [runD]
  | c :: l, i, v, s, hv, hl, hs, hall => by
    simp only [List.length_cons] at hs
    rcases stepD_both b hb v c hv (hl c (by simp)) with ⟨f, o, h1, h2, h3, h4, h5⟩ | ⟨h1, h2, f, o, h3⟩
    · have hbody : basin_Basin_run_b0 b L L b L b L b L b L b L b b v0 L b 0 b v0 L L b i c v s = some (Sum.inr (o, s ++ [((c, f, some o, ()) : Psg)])) := by
        unfold basin_Basin_run_b0
        rw [show (c.fst, c.snd.fst, c.snd.snd.fst, ()) = c from rfl, h3]
        simp only [Option.bind_some, Bool.not_true, cond_false]
        rw [bifT (dec_true (show s.length + 1 ≤ memMax by omega))]
        rfl
      rw [loopL_cons]
      show (Option.bind (basin_Basin_run_b0 b L L b L b L b L b L b L b b v0 L b 0 b v0 L L b i c v s) _) = _
      rw [hbody, runD_cons_some h1]
      simp only [Option.bind_some]
      rw [brun_loop b hb L v0 l (i + 1) o _ h4 (fun c hc => hl c (by simp [hc])) (by simp; omega) (by
        intro x hx
        rcases List.mem_append.1 hx with hx | hx
        · exact hall x hx
        · simp at hx; subst hx; rfl)]
      cases runD b o l with
      | none => rfl
      | some ps => simp [psg]
    · have hbody : basin_Basin_run_b0 b L L b L b L b L b L b L b b v0 L b 0 b v0 L L b i c v s = some (Sum.inl ([], 4, ())) := by
        unfold basin_Basin_run_b0
        rw [show (c.fst, c.snd.fst, c.snd.snd.fst, ()) = c from rfl, h3]
        simp only [Option.bind_some, Bool.not_false, cond_true]
        rw [bifT (dec_true (show s.length + 1 ≤ memMax by omega))]
        obtain ⟨e1, e2⟩ := idx_last s ((c, f, none, ()) : Psg) (by omega)
        rw [bifT (dec_true (show ((s ++ [((c, f, none, ()) : Psg)]).length : Int) > 0 by simp))]
        unfold wr at e1 e2
        rw [e1]
        simp only [Option.bind_some]
        rw [e2]
        rfl
      rw [loopL_cons]
      show (Option.bind (basin_Basin_run_b0 b L L b L b L b L b L b L b b v0 L b 0 b v0 L L b i c v s) _) = _
      rw [hbody, runD_cons_none h1]
      rfl

theorem brun_eq (b : Bas) (hb : BasOK b) (v : List Int) (l : List Cnd) (hv : v.length = b.1.length) (hl : ∀ c ∈ l, c.2.2.1.length = b.1.length) (hn : l.length ≤ memMax) :
    basin_Basin_run_M b v l = some (match runD b v l with | some ps => (ps.map psg, 0, ()) | none => ([], 4, ())) := by
  have := memMax_lt
  unfold basin_Basin_run_M
  rw [bifT (dec_true (show l.length < lenMax by omega)), brun_loop b hb l v l 0 v [] hv hl (by simpa using hn) (by simp)]
  rfl

theorem rrun_loop (b : Bas) (hb : BasOK b) (L : List Cnd) : ∀ (l : List Cnd) (i : Int) (v : List Int) (s : List (List Int)), v.length = b.1.length → (∀ c ∈ l, c.2.2.1.length = b.1.length) → s.length + l.length ≤ memMax →
    loopL (fun i__ e__ (s__ : List Int × List (List Int)) => ref04_Run_b0 L b i__ e__ s__.1 s__.2) (fun s__ => ref04_Run_f0 L b s__.1 s__.2) i l (v, s) =
      some (match runD b v l with | some ps => (s ++ ps.map (·.2.2), 0, ()) | none => ([], 4, ()))
  | [], i, v, s, hv, hl, hs => by
    rw [loopL_nil]
    simp [runD, ref04_Run_f0]
  | c :: l, i, v, s, hv, hl, hs => by
    simp only [List.length_cons] at hs
    rcases stepD_both b hb v c hv (hl c (by simp)) with ⟨f, o, h1, h2, h3, h4, h5⟩ | ⟨h1, h2, f, o, h3⟩
    · have hbody : ref04_Run_b0 L b i c v s = some (Sum.inr (o, s ++ [o])) := by
        unfold ref04_Run_b0
        rw [h2]
        simp only [Option.bind_some]
        rw [bifF (show ((0 : Int) != 0) = false from rfl), bifT (dec_true (show s.length + 1 ≤ memMax by omega))]
      rw [loopL_cons]
      show (Option.bind (ref04_Run_b0 L b i c v s) _) = _
      rw [hbody, runD_cons_some h1]
      simp only [Option.bind_some]
      rw [rrun_loop b hb L l (i + 1) o _ h4 (fun c hc => hl c (by simp [hc])) (by simp; omega)]
      cases runD b o l with
      | none => rfl
      | some ps => simp
    · have hbody : ref04_Run_b0 L b i c v s = some (Sum.inl ([], 4, ())) := by
        unfold ref04_Run_b0
        rw [h2]
        rfl
      rw [loopL_cons]
      show (Option.bind (ref04_Run_b0 L b i c v s) _) = _
      rw [hbody, runD_cons_none h1]
      rfl

theorem rrun_eq (b : Bas) (hb : BasOK b) (v : List Int) (l : List Cnd) (hv : v.length = b.1.length) (hl : ∀ c ∈ l, c.2.2.1.length = b.1.length) (hn : l.length ≤ memMax) :
    ref04_Run_M b v l = some (match runD b v l with | some ps => (ps.map (·.2.2), 0, ()) | none => ([], 4, ())) := by
  have := memMax_lt
  unfold ref04_Run_M
  rw [bifT (dec_true (show l.length < lenMax by omega)), rrun_loop b hb l l 0 v [] hv hl (by simpa using hn)]
  rfl

/-! ### The errors of a run's arguments -/
def ckConds (b : Bas) (l : List Cnd) : Int := firstE (l.map (ckCond b))
def ckRun (b : Bas) (v : List Int) (l : List Cnd) : Int := firstOf (ckCV b v) (firstOf (bif decide ((l.length : Int) > 96) then 5 else 0) (ckConds b l))

theorem rrunE_eq (b : Bas) (v : List Int) (l : List Cnd) (hv : v.length < lenMax) (hl : l.length < lenMax) (hc : ∀ c ∈ l, c.2.2.1.length < lenMax) : ref04_CheckRun_M b v l = some (ckRun b v l, ()) := by
  unfold ref04_CheckRun_M ckRun firstOf
  rw [rcv_eq b v hv]
  simp only [Option.bind_some]
  cases (ckCV b v != 0) with
  | true => rfl
  | false =>
    simp only [cond_false]
    rw [if_neg (by simp)]
    cases decide ((l.length : Int) > 96) with
    | true => rfl
    | false =>
      simp only [cond_false]
      rw [bifT (dec_true hl), loopL_err (ckCond b) l 0 (fun i e he => by
        unfold ref04_CheckRun_b1
        rw [rcond_eq b e (hc e he)]
        simp only [Option.bind_some]
        cases (ckCond b e != 0) <;> rfl) rfl]
      rfl

theorem mapCond_eq (l : List Cnd) (of : Cnd × Unit → Option (Int × Unit)) (g : Cnd → Int) (h : ∀ e ∈ l, of (e, ()) = some (g e, ())) (hl : l.length ≤ memMax) : basin_mapped_basin_Condition_api_Errno_M l of = some (l.map g, ()) := by
  have hm := memMax_lt
  unfold basin_mapped_basin_Condition_api_Errno_M
  rw [bifT (dec_true (show l.length < lenMax by omega)), loopL_app g l 0 [] (by simpa using hl) (fun i e s he hs => by
    unfold basin_mapped_basin_Condition_api_Errno_b0
    rw [h e he]
    simp only [Option.bind_some]
    rw [bifT (dec_true hs)])]
  rfl

theorem bchecked_eq (b : Bas) (v : List Int) (l : List Cnd) (hn : ∀ n ∈ b.1, n.1.length < lenMax) (hv : v.length ≤ memMax) (hl : l.length ≤ memMax) (hc : ∀ c ∈ l, c.2.2.1.length ≤ memMax) :
    basin_checked_M b v l = bif ckRun b v l != 0 then some ([], ckRun b v l, ()) else basin_Basin_run_M b v l := by
  have hm := memMax_lt
  unfold basin_checked_M basin_checked_m ckRun ckConds
  rw [bcv_eq b v hn hv, mapCond_eq l _ (ckCond b) (fun e he => bcond_eq b e (hc e he)) hl]
  simp only [Option.bind_some, when_eq]
  rw [bfirst_eq _ (by simp; omega)]
  simp only [Option.bind_some]
  rw [bfirst_eq _ (by simp [lenMax])]
  simp only [Option.bind_some, firstE_cons, firstE_nil, firstOf_zero]
  cases (firstOf (ckCV b v) (firstOf (bif decide ((l.length : Int) > 96) then 5 else 0) (firstE (l.map (ckCond b)))) != 0) with
  | true => rfl
  | false =>
    simp only [cond_false]
    cases basin_Basin_run_M b v l with
    | none => rfl
    | some y => rfl

theorem ckCV_zero {b : Bas} {v : List Int} (h : ckCV b v = 0) : BasOK b ∧ v.length = b.1.length ∧ ∀ x ∈ v, 0 ≤ x ∧ x ≤ 100000000 := by
  obtain ⟨h1, h2⟩ := firstOf_eq0 h
  obtain ⟨h3, h4⟩ := firstOf_eq0 h2
  refine ⟨ckBasin_zero h1, ?_, fun x hx => ckR_zero (firstE_zero h4 _ (List.mem_map.2 ⟨x, hx, rfl⟩))⟩
  cases he : ((v.length : Int) != (b.1.length : Int)) with
  | true => rw [he] at h3; cases h3
  | false => have h11 : (v.length : Int) = (b.1.length : Int) := by simpa using he
             omega

theorem ckCond_zero {b : Bas} {c : Cnd} (h : ckCond b c = 0) : (-1024 ≤ c.1 ∧ c.1 ≤ 1024) ∧ c.2.2.1.length = b.1.length ∧ ∀ x ∈ c.2.2.1, 0 ≤ x ∧ x ≤ 100000 := by
  obtain ⟨h1, h2⟩ := firstOf_eq0 h
  obtain ⟨h3, h4⟩ := firstOf_eq0 h2
  refine ⟨ckR_zero h1, ?_, fun x hx => ckR_zero (firstE_zero h4 _ (List.mem_map.2 ⟨x, hx, rfl⟩))⟩
  cases he : ((c.2.2.1.length : Int) != (b.1.length : Int)) with
  | true => rw [he] at h3; cases h3
  | false => have h11 : (c.2.2.1.length : Int) = (b.1.length : Int) := by simpa using he
             omega

theorem ckRun_zero {b : Bas} {v : List Int} {l : List Cnd} (h : ckRun b v l = 0) : BasOK b ∧ v.length = b.1.length ∧ (∀ x ∈ v, 0 ≤ x ∧ x ≤ 100000000) ∧ l.length ≤ 96 ∧ ∀ c ∈ l, ckCond b c = 0 := by
  obtain ⟨h1, h2⟩ := firstOf_eq0 h
  obtain ⟨h3, h4⟩ := firstOf_eq0 h2
  obtain ⟨g1, g2, g3⟩ := ckCV_zero h1
  refine ⟨g1, g2, g3, ?_, fun c hc => firstE_zero h4 _ (List.mem_map.2 ⟨c, hc, rfl⟩)⟩
  by_cases hh : (l.length : Int) > 96
  · rw [dec_true hh] at h3; cases h3
  · omega
end Go.Tw
