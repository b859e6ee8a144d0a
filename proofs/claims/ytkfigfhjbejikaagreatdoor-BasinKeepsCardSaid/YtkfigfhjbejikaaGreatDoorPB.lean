/- P9: runs: the program's passages are the reference's steps; the errors of a run's arguments.
P10: BasinSteps: the law.
P11: levels, nodes above their limits, the first one in a run.
P12: the balance of a run.
P13: BasinRuns: the law. -/
import Derived.Test.YtkfigfhjbejikaaGreatDoorPA
import Derived.Test.YtkfigfhjbejikaaGreatDoorBE
import Derived.Test.YtkfigfhjbejikaaGreatDoorB16
import Derived.Test.YtkfigfhjbejikaaGreatDoorB17

section
set_option linter.all false
set_option maxRecDepth 100000
namespace Go.Tw
open Go.Vx Go.Vx.B Go.Proofs

/-! ### A step -/
/-- A step, if what it leaves fits. -/
noncomputable def stepD (b : Bas) (v : List Int) (c : Cnd) : Option (List Int × List Int) :=
  match ref04_Moved_M b v c with
  | some (f, o, e, _) => if e = 0 then some (f, o) else none
  | none => none

theorem stepD_both (b : Bas) (hb : BasOK b) (v : List Int) (c : Cnd) (hv : v.length = b.1.length) (hc : c.2.2.1.length = b.1.length) :
    (∃ f o, stepD b v c = some (f, o) ∧ ref04_Moved_M b v c = some (f, o, 0, ()) ∧ basin_Basin_step_M b v c = some (f, some o, true, ()) ∧ o.length = b.1.length ∧ fits8 o = true) ∨
    (stepD b v c = none ∧ ref04_Moved_M b v c = some ([], [], 4, ()) ∧ ∃ f o, basin_Basin_step_M b v c = some (f, some o, false, ())) := by
  obtain ⟨f, o, ⟨h1, h2, h3, h4⟩ | ⟨h1, h2⟩⟩ := step_same b hb v c hv hc
  · exact .inl ⟨f, o, by unfold stepD; rw [h1]; rfl, h1, h2, h3, h4⟩
  · exact .inr ⟨by unfold stepD; rw [h1]; rfl, h1, f, o, h2⟩

/-! ### A run -/
noncomputable def runD (b : Bas) : List Int → List Cnd → Option (List (Cnd × List Int × List Int))
  | _, [] => some []
  | v, c :: l => match stepD b v c with
    | none => none
    | some (f, o) => (runD b o l).map ((c, f, o) :: ·)
def psg (x : Cnd × List Int × List Int) : Psg := (x.1, x.2.1, some x.2.2, ())

theorem runD_cons_none {b : Bas} {v : List Int} {c : Cnd} {l : List Cnd} (h : stepD b v c = none) : runD b v (c :: l) = none := by
  simp only [runD, h]
theorem runD_cons_some {b : Bas} {v : List Int} {c : Cnd} {l : List Cnd} {f o : List Int} (h : stepD b v c = some (f, o)) : runD b v (c :: l) = (runD b o l).map ((c, f, o) :: ·) := by
  simp only [runD, h]

theorem wr_small {n : Int} (h1 : -9223372036854775808 ≤ n) (h2 : n ≤ 9223372036854775807) : wr n = n := by
  unfold wr IntKind.wrap IntKind.bits IntKind.signed
  simp only [Nat.reduceSub, Int.reducePow, decide_eq_true_eq, Bool.true_and]
  split <;> omega

theorem idx_last {α : Type} (p : List α) (x : α) (h : p.length < memMax) : idx (p ++ [x]) (wr (((p ++ [x]).length : Int) - 1)) = some x ∧ (p ++ [x])[(wr (((p ++ [x]).length : Int) - 1)).toNat]? = some x := by
  have hm : memMax = 68719476736 := rfl
  have e : wr (((p ++ [x]).length : Int) - 1) = (p.length : Int) := by
    rw [show (((p ++ [x]).length : Int) - 1) = (p.length : Int) by simp]
    exact wr_small (by omega) (by omega)
  rw [e]
  exact ⟨idx_mid p x [] _ rfl, by simp⟩

theorem brun_fin (b : Bas) (L : List Cnd) (v0 v : List Int) (s : List Psg) (hs : s.length ≤ memMax) (hall : ∀ x ∈ s, x.2.2.1.isNone = false) :
    basin_Basin_run_f0 b L L b L b L b L b L b L b b v0 L b 0 b v0 L L b v s = some (s, 0, ()) := by
  unfold basin_Basin_run_f0
  rcases List.eq_nil_or_concat s with rfl | ⟨p, x, rfl⟩
  · rfl
  · rw [List.concat_eq_append] at *
    obtain ⟨e1, e2⟩ := idx_last p x (by simp at hs; omega)
    rw [bifT (dec_true (show ((p ++ [x]).length : Int) > 0 by simp))]
    unfold wr at e1 e2
    rw [e1]
    simp only [Option.bind_some]
    rw [e2]
    simp only [Option.bind_some]
    rw [bifF (hall x (by simp))]

theorem brun_loop (b : Bas) (hb : BasOK b) (L : List Cnd) (v0 : List Int) : ∀ (l : List Cnd) (i : Int) (v : List Int) (s : List Psg), v.length = b.1.length → (∀ c ∈ l, c.2.2.1.length = b.1.length) → s.length + l.length ≤ memMax → (∀ x ∈ s, x.2.2.1.isNone = false) →
    loopL (fun i__ e__ (s__ : List Int × List Psg) => basin_Basin_run_b0 b L L b L b L b L b L b L b b v0 L b 0 b v0 L L b i__ e__ s__.1 s__.2) (fun s__ => basin_Basin_run_f0 b L L b L b L b L b L b L b b v0 L b 0 b v0 L L b s__.1 s__.2) i l (v, s) =
      some (match runD b v l with | some ps => (s ++ ps.map psg, 0, ()) | none => ([], 4, ()))
  | [], i, v, s, hv, hl, hs, hall => by
    rw [loopL_nil, brun_fin b L v0 v s (by simpa using hs) hall]
    simp [runD]
  | c :: l, i, v, s, hv, hl, hs, hall => by
    simp only [List.length_cons] at hs
    rcases stepD_both b hb v c hv (hl c (by simp)) with ⟨f, o, h1, h2, h3, h4, h5⟩ | ⟨h1, h2, f, o, h3⟩
    · have hbody : basin_Basin_run_b0 b L L b L b L b L b L b L b b v0 L b 0 b v0 L L b i c v s = some (Sum.inr (o, s ++ [((c, f, some o, ()) : Psg)])) := by
        unfold basin_Basin_run_b0
        rw [show (c.fst, c.snd.fst, c.snd.snd.fst, ()) = c from rfl, h3]
        simp only [Option.bind_some, Bool.not_true, cond_false]
        rw [bifT (dec_true (show s.length + 1 ≤ memMax by omega))]
        rfl
      rw [loopL_cons]
      show (Option.bind (basin_Basin_run_b0 b L L b L b L b L b L b L b b v0 L b 0 b v0 L L b i c v s) _) = _
      rw [hbody, runD_cons_some h1]
      simp only [Option.bind_some]
      rw [brun_loop b hb L v0 l (i + 1) o _ h4 (fun c hc => hl c (by simp [hc])) (by simp; omega) (by
        intro x hx
        rcases List.mem_append.1 hx with hx | hx
        · exact hall x hx
        · simp at hx; subst hx; rfl)]
      cases runD b o l with
      | none => rfl
      | some ps => simp [psg]
    · have hbody : basin_Basin_run_b0 b L L b L b L b L b L b L b b v0 L b 0 b v0 L L b i c v s = some (Sum.inl ([], 4, ())) := by
        unfold basin_Basin_run_b0
        rw [show (c.fst, c.snd.fst, c.snd.snd.fst, ()) = c from rfl, h3]
        simp only [Option.bind_some, Bool.not_false, cond_true]
        rw [bifT (dec_true (show s.length + 1 ≤ memMax by omega))]
        obtain ⟨e1, e2⟩ := idx_last s ((c, f, none, ()) : Psg) (by omega)
        rw [bifT (dec_true (show ((s ++ [((c, f, none, ()) : Psg)]).length : Int) > 0 by simp))]
        unfold wr at e1 e2
        rw [e1]
        simp only [Option.bind_some]
        rw [e2]
        rfl
      rw [loopL_cons]
      show (Option.bind (basin_Basin_run_b0 b L L b L b L b L b L b L b b v0 L b 0 b v0 L L b i c v s) _) = _
      rw [hbody, runD_cons_none h1]
      rfl

theorem brun_eq (b : Bas) (hb : BasOK b) (v : List Int) (l : List Cnd) (hv : v.length = b.1.length) (hl : ∀ c ∈ l, c.2.2.1.length = b.1.length) (hn : l.length ≤ memMax) :
    basin_Basin_run_M b v l = some (match runD b v l with | some ps => (ps.map psg, 0, ()) | none => ([], 4, ())) := by
  have := memMax_lt
  unfold basin_Basin_run_M
  rw [bifT (dec_true (show l.length < lenMax by omega)), brun_loop b hb l v l 0 v [] hv hl (by simpa using hn) (by simp)]
  rfl

/-! ### The errors of a run's arguments -/
def ckConds (b : Bas) (l : List Cnd) : Int := firstE (l.map (ckCond b))
def ckRun (b : Bas) (v : List Int) (l : List Cnd) : Int := firstOf (ckCV b v) (firstOf (bif decide ((l.length : Int) > 96) then 5 else 0) (ckConds b l))

theorem rrunE_eq (b : Bas) (v : List Int) (l : List Cnd) (hv : v.length < lenMax) (hl : l.length < lenMax) (hc : ∀ c ∈ l, c.2.2.1.length < lenMax) : ref04_CheckRun_M b v l = some (ckRun b v l, ()) := by
  unfold ref04_CheckRun_M ckRun firstOf
  rw [rcv_eq b v hv]
  simp only [Option.bind_some]
  cases (ckCV b v != 0) with
  | true => rfl
  | false =>
    simp only [cond_false]
    rw [if_neg (by simp)]
    cases decide ((l.length : Int) > 96) with
    | true => rfl
    | false =>
      simp only [cond_false]
      rw [bifT (dec_true hl), loopL_err (ckCond b) l 0 (fun i e he => by
        unfold ref04_CheckRun_b1
        rw [rcond_eq b e (hc e he)]
        simp only [Option.bind_some]
        cases (ckCond b e != 0) <;> rfl) rfl]
      rfl

theorem mapCond_eq (l : List Cnd) (of : Cnd × Unit → Option (Int × Unit)) (g : Cnd → Int) (h : ∀ e ∈ l, of (e, ()) = some (g e, ())) (hl : l.length ≤ memMax) : basin_mapped_basin_Condition_api_Errno_M l of = some (l.map g, ()) := by
  have hm := memMax_lt
  unfold basin_mapped_basin_Condition_api_Errno_M
  rw [bifT (dec_true (show l.length < lenMax by omega)), loopL_app g l 0 [] (by simpa using hl) (fun i e s he hs => by
    unfold basin_mapped_basin_Condition_api_Errno_b0
    rw [h e he]
    simp only [Option.bind_some]
    rw [bifT (dec_true hs)])]
  rfl

theorem bchecked_eq (b : Bas) (v : List Int) (l : List Cnd) (hn : ∀ n ∈ b.1, n.1.length < lenMax) (hv : v.length ≤ memMax) (hl : l.length ≤ memMax) (hc : ∀ c ∈ l, c.2.2.1.length ≤ memMax) :
    basin_checked_M b v l = bif ckRun b v l != 0 then some ([], ckRun b v l, ()) else basin_Basin_run_M b v l := by
  have hm := memMax_lt
  unfold basin_checked_M basin_checked_m ckRun ckConds
  rw [bcv_eq b v hn hv, mapCond_eq l _ (ckCond b) (fun e he => bcond_eq b e (hc e he)) hl]
  simp only [Option.bind_some, when_eq]
  rw [bfirst_eq _ (by simp; omega)]
  simp only [Option.bind_some]
  rw [bfirst_eq _ (by simp [lenMax])]
  simp only [Option.bind_some, firstE_cons, firstE_nil, firstOf_zero]
  cases (firstOf (ckCV b v) (firstOf (bif decide ((l.length : Int) > 96) then 5 else 0) (firstE (l.map (ckCond b)))) != 0) with
  | true => rfl
  | false =>
    simp only [cond_false]
    cases basin_Basin_run_M b v l with
    | none => rfl
    | some y => rfl

theorem ckCV_zero {b : Bas} {v : List Int} (h : ckCV b v = 0) : BasOK b ∧ v.length = b.1.length ∧ ∀ x ∈ v, 0 ≤ x ∧ x ≤ 100000000 := by
  obtain ⟨h1, h2⟩ := firstOf_eq0 h
  obtain ⟨h3, h4⟩ := firstOf_eq0 h2
  refine ⟨ckBasin_zero h1, ?_, fun x hx => ckR_zero (firstE_zero h4 _ (List.mem_map.2 ⟨x, hx, rfl⟩))⟩
  cases he : ((v.length : Int) != (b.1.length : Int)) with
  | true => rw [he] at h3; cases h3
  | false => have h11 : (v.length : Int) = (b.1.length : Int) := by simpa using he
             omega

theorem ckCond_zero {b : Bas} {c : Cnd} (h : ckCond b c = 0) : (-1024 ≤ c.1 ∧ c.1 ≤ 1024) ∧ c.2.2.1.length = b.1.length ∧ ∀ x ∈ c.2.2.1, 0 ≤ x ∧ x ≤ 100000 := by
  obtain ⟨h1, h2⟩ := firstOf_eq0 h
  obtain ⟨h3, h4⟩ := firstOf_eq0 h2
  refine ⟨ckR_zero h1, ?_, fun x hx => ckR_zero (firstE_zero h4 _ (List.mem_map.2 ⟨x, hx, rfl⟩))⟩
  cases he : ((c.2.2.1.length : Int) != (b.1.length : Int)) with
  | true => rw [he] at h3; cases h3
  | false => have h11 : (c.2.2.1.length : Int) = (b.1.length : Int) := by simpa using he
             omega

theorem ckRun_zero {b : Bas} {v : List Int} {l : List Cnd} (h : ckRun b v l = 0) : BasOK b ∧ v.length = b.1.length ∧ (∀ x ∈ v, 0 ≤ x ∧ x ≤ 100000000) ∧ l.length ≤ 96 ∧ ∀ c ∈ l, ckCond b c = 0 := by
  obtain ⟨h1, h2⟩ := firstOf_eq0 h
  obtain ⟨h3, h4⟩ := firstOf_eq0 h2
  obtain ⟨g1, g2, g3⟩ := ckCV_zero h1
  refine ⟨g1, g2, g3, ?_, fun c hc => firstE_zero h4 _ (List.mem_map.2 ⟨c, hc, rfl⟩)⟩
  by_cases hh : (l.length : Int) > 96
  · rw [dec_true hh] at h3; cases h3
  · omega
end Go.Tw
end

section
set_option linter.all false
set_option maxRecDepth 100000
namespace Go.Tw
open Go.Vx Go.Vx.B Go.Proofs

/-- A loop that asks of each element what is so, ends. -/
theorem loopL_same {α β : Type} {body : Int → α → Unit → Option (β ⊕ Unit)} {fin : Unit → Option β} (l : List α) (h : ∀ (p : List α) (x : α) (r : List α), l = p ++ x :: r → body (p.length : Int) x () = some (.inr ())) :
    ∀ (r p : List α) (i : Int), l = p ++ r → i = (p.length : Int) → loopL body fin i r () = fin ()
  | [], p, i, _, _ => rfl
  | x :: r, p, i, hl, hi => by
    rw [loopL_cons, hi, h p x r hl]
    simp only [Option.bind_some]
    exact loopL_same l h r (p ++ [x]) _ (by rw [hl]; simp) (by simp)

theorem sameInts_refl (l : List Int) (h : l.length < lenMax) : ref01_SameInts_M l l = some (true, ()) := by
  unfold ref01_SameInts_M
  rw [bifF (show ((l.length : Int) != (l.length : Int)) = false by simp), bifT (dec_true h), loopL_same l (fun p x r e => by
    unfold ref01_SameInts_b0
    rw [e, idx_mid p x r _ rfl]
    simp only [Option.bind_some]
    rw [bifF (show (x != x) = false by simp)]) l [] 0 rfl rfl]
  rfl

theorem runD_one (b : Bas) (v : List Int) (c : Cnd) : runD b v [c] = (stepD b v c).map fun y => [(c, y.1, y.2)] := by
  simp only [runD]
  cases stepD b v c with
  | none => rfl
  | some y => rfl

/-- What a run of one condition is, in the program. -/
theorem checked_one (b : Bas) (v : List Int) (c : Cnd) (hn : ∀ n ∈ b.1, n.1.length < lenMax) (hv : v.length ≤ memMax) (hc : c.2.2.1.length ≤ memMax) :
    basin_checked_M b v [c] = some (if ckRun b v [c] = 0 then (match stepD b v c with | some (f, o) => ([((c, f, some o, ()) : Psg)], 0, ()) | none => ([], 4, ())) else ([], ckRun b v [c], ())) := by
  rw [bchecked_eq b v [c] hn hv (by simp [memMax]) (by intro e he; simp at he; subst he; exact hc)]
  by_cases h0 : ckRun b v [c] = 0
  · obtain ⟨g1, g2, g3, g4, g5⟩ := ckRun_zero h0
    rw [bifF (show (ckRun b v [c] != 0) = false by simpa using h0), if_pos h0, brun_eq b g1 v [c] g2 (fun e he => (ckCond_zero (g5 e he)).2.1) (by simp [memMax]), runD_one]
    cases stepD b v c with
    | none => rfl
    | some y => rfl
  · rw [bifT (show (ckRun b v [c] != 0) = true by simpa using h0), if_neg h0]

theorem flows_eq (b : Bas) (v : List Int) (c : Cnd) (hn : ∀ n ∈ b.1, n.1.length < lenMax) (hv : v.length ≤ memMax) (hc : c.2.2.1.length ≤ memMax) :
    basin_Flows_M b v c = some (if ckRun b v [c] = 0 then (match stepD b v c with | some (f, _) => (f, 0, ()) | none => ([], 4, ())) else ([], ckRun b v [c], ())) := by
  unfold basin_Flows_M basin_Flows_m
  rw [checked_one b v c hn hv hc]
  by_cases h0 : ckRun b v [c] = 0
  · rw [if_pos h0, if_pos h0]
    cases stepD b v c with
    | none => rfl
    | some y => rfl
  · rw [if_neg h0, if_neg h0]
    simp only [Option.bind_some]
    rw [bifT (show (ckRun b v [c] != 0) = true by simpa using h0)]

theorem bstep_eq (b : Bas) (v : List Int) (c : Cnd) (hn : ∀ n ∈ b.1, n.1.length < lenMax) (hv : v.length ≤ memMax) (hc : c.2.2.1.length ≤ memMax) :
    basin_Step_M b v c = some (if ckRun b v [c] = 0 then (match stepD b v c with | some (_, o) => (o, 0, ()) | none => ([], 4, ())) else ([], ckRun b v [c], ())) := by
  unfold basin_Step_M basin_Step_m
  rw [checked_one b v c hn hv hc]
  by_cases h0 : ckRun b v [c] = 0
  · rw [if_pos h0, if_pos h0]
    cases stepD b v c with
    | none => rfl
    | some y => rfl
  · rw [if_neg h0, if_neg h0]
    simp only [Option.bind_some]
    rw [bifT (show (ckRun b v [c] != 0) = true by simpa using h0)]

/-! ### What a step is -/
noncomputable def linksD (b : Bas) (c : Cnd) : List Lnk → List Int → List Int → Option (List Int × List Int)
  | [], fs, out => some (fs, out)
  | x :: l, fs, out => if fits8 (mv b c x out) = true then linksD b c l (fs ++ [fl b c x out]) (mv b c x out) else none

noncomputable def movedD (b : Bas) (v : List Int) (c : Cnd) : Option (List Int × List Int) :=
  if fits8 (inflow v c.2.2.1) = true then linksD b c b.2.1 [] (inflow v c.2.2.1) else none

theorem rlinks_D (b : Bas) (c : Cnd) (h8 : b.1.length ≤ 8) : ∀ (l : List Lnk) (i : Int) (fs out : List Int), (∀ x ∈ l, LinkOK x b.1.length) → out.length = b.1.length → fs.length + l.length ≤ memMax →
    rLoop b c i l (out, fs) = some (match linksD b c l fs out with | some (f, o) => (f, o, 0, ()) | none => ([], [], 4, ()))
  | [], i, fs, out, _, _, _ => rfl
  | x :: l, i, fs, out, hx, hN, hl => by
    simp only [List.length_cons] at hl
    have hL := hx x (by simp)
    unfold rLoop
    rw [loopL_cons, rlink_body b c i x hL h8 fs out hN (by omega)]
    simp only [Option.bind_some, linksD]
    by_cases hm : fits8 (mv b c x out) = true
    · rw [bifT hm, if_pos hm]
      exact rlinks_D b c h8 l (i + 1) (fs ++ [fl b c x out]) (mv b c x out) (fun y hy => hx y (by simp [hy])) (by rw [mv_length]; exact hN) (by simp; omega)
    · rw [bifF (by simpa using hm), if_neg hm]

theorem moved_D (b : Bas) (hb : BasOK b) (v : List Int) (c : Cnd) (hv : v.length = b.1.length) (hc : c.2.2.1.length = b.1.length) :
    ref04_Moved_M b v c = some (match movedD b v c with | some (f, o) => (f, o, 0, ()) | none => ([], [], 4, ())) := by
  have h8 := hb.nodes
  have hl := hb.links
  have hin : (inflow v c.2.2.1).length = b.1.length := by rw [inflow_length v _ (by omega)]; exact hv
  have hmem : memMax = 68719476736 := rfl
  have hr : ref04_Moved_M b v c = ref04_Moved_f0 b c (inflow v c.2.2.1) := by
    unfold ref04_Moved_M
    rw [bifT (dec_true (show 0 + v.length ≤ memMax by omega)), bifT (dec_true (show (v.length : Int) ≤ 9223372036854775807 by omega))]
    have := rin_loop b c v.length c.2.2.1 v [] [] 0 rfl rfl rfl (by omega) rfl
    rw [List.nil_append, List.nil_append] at this
    rw [show ((v.length : Int) - 0).toNat = v.length by omega]
    exact this
  rw [hr]
  unfold ref04_Moved_f0 movedD
  rw [tooMuch_eq _ (by rw [hin]; unfold lenMax; omega)]
  simp only [Option.bind_some]
  by_cases hf : fits8 (inflow v c.2.2.1) = true
  · rw [if_pos hf, hf]
    simp only [Bool.not_true, cond_false]
    rw [bifT (dec_true (show b.2.1.length < lenMax by unfold lenMax; omega))]
    exact rlinks_D b c h8 b.2.1 0 [] (inflow v c.2.2.1) hb.link hin (by simp; omega)
  · rw [if_neg hf, show fits8 (inflow v c.2.2.1) = false by simpa using hf]
    rfl

theorem stepD_eq (b : Bas) (hb : BasOK b) (v : List Int) (c : Cnd) (hv : v.length = b.1.length) (hc : c.2.2.1.length = b.1.length) : stepD b v c = movedD b v c := by
  unfold stepD
  rw [moved_D b hb v c hv hc]
  cases movedD b v c with
  | none => rfl
  | some y => rfl

theorem linksD_len {b : Bas} {c : Cnd} : ∀ {l : List Lnk} {fs out f o : List Int}, linksD b c l fs out = some (f, o) → f.length = fs.length + l.length ∧ o.length = out.length
  | [], fs, out, f, o, h => by simp only [linksD, Option.some.injEq, Prod.mk.injEq] at h; obtain ⟨rfl, rfl⟩ := h; simp
  | x :: l, fs, out, f, o, h => by
    simp only [linksD] at h
    split at h
    · obtain ⟨h1, h2⟩ := linksD_len h
      rw [mv_length] at h2
      simp at h1
      exact ⟨by simp; omega, h2⟩
    · cases h

theorem stepD_len {b : Bas} (hb : BasOK b) {v : List Int} {c : Cnd} (hv : v.length = b.1.length) (hc : c.2.2.1.length = b.1.length) {f o : List Int} (h : stepD b v c = some (f, o)) : f.length = b.2.1.length ∧ o.length = b.1.length := by
  rw [stepD_eq b hb v c hv hc] at h
  unfold movedD at h
  split at h
  · obtain ⟨h1, h2⟩ := linksD_len h
    rw [inflow_length v _ (by omega)] at h2
    exact ⟨by simpa using h1, by omega⟩
  · cases h

end Go.Tw
end

section
set_option linter.all false
set_option maxRecDepth 100000
namespace Go.Tw
open Go.Vx Go.Vx.B Go.Proofs

/-! ### Levels, in the program -/
/-! ### Nodes above their limits -/
/-! ### The volumes of passages -/
theorem volumes_eq (ps : List (Cnd × List Int × List Int)) (h : ps.length ≤ memMax) : basin_volumes_M (ps.map psg) = some (ps.map (·.2.2), ()) := by
  have hm := memMax_lt
  unfold basin_volumes_M basin_volumes_m basin_mapped_basin_passage_int_M
  rw [bifT (dec_true (show (ps.map psg).length < lenMax by simp; omega)), loopL_app (fun p : Psg => p.2.2.1.getD []) (ps.map psg) 0 [] (by simpa using h) (fun i e s he hs => by
    unfold basin_mapped_basin_passage_int_b0
    simp only [Option.bind_some]
    rw [bifT (dec_true hs)]
    rfl)]
  show some (_, ()) = _
  congr 2
  simp [psg]

/-! ### The first node above its limit -/
theorem runD_outs {b : Bas} (hb : BasOK b) : ∀ {l : List Cnd} {v : List Int} {ps : List (Cnd × List Int × List Int)}, v.length = b.1.length → (∀ c ∈ l, c.2.2.1.length = b.1.length) → runD b v l = some ps →
    ps.length = l.length ∧ ∀ x ∈ ps, x.2.2.length = b.1.length ∧ x.2.1.length = b.2.1.length ∧ x.1 ∈ l
  | [], v, ps, hv, hl, h => by simp only [runD, Option.some.injEq] at h; subst h; simp
  | c :: l, v, ps, hv, hl, h => by
    simp only [runD] at h
    cases hs : stepD b v c with
    | none => rw [hs] at h; cases h
    | some y =>
      obtain ⟨f, o⟩ := y
      rw [hs] at h
      simp only [Option.map_eq_some_iff] at h
      obtain ⟨qs, h1, rfl⟩ := h
      obtain ⟨n1, n2⟩ := stepD_len hb hv (hl c (by simp)) hs
      obtain ⟨k1, k2⟩ := runD_outs hb n2 (fun c hc => hl c (by simp [hc])) h1
      refine ⟨by simp [k1], fun x hx => ?_⟩
      rcases List.mem_cons.1 hx with rfl | hx
      · exact ⟨n2, n1, by simp⟩
      · obtain ⟨m1, m2, m3⟩ := k2 x hx
        exact ⟨m1, m2, by simp [m3]⟩

end Go.Tw
end

section
set_option linter.all false
set_option maxRecDepth 100000
namespace Go.Tw
open Go.Vx Go.Vx.B Go.Proofs

noncomputable def accF (x : Lnk) (f : Int) (s : Int × Int) : Int × Int :=
  if x.2.1 = -1 then (wr (s.1 + max 0 f), if x.2.2.1 = -1 then wr (wr (s.2 + max 0 (wr (0 - f))) + f) else wr (s.2 + max 0 (wr (0 - f))))
  else (s.1, if x.2.2.1 = -1 then wr (s.2 + f) else s.2)
noncomputable def accL : List Lnk → List Int → Int × Int → Int × Int
  | x :: l, f :: fs, s => accL l fs (accF x f s)
  | _, _, s => s
noncomputable def accR (q : List Int) (r : Int) : Int := q.foldl (fun r n => wr (r + n)) r

theorem max1 (f : Int) : (if (0 : Int) > f then (0 : Int) else f) = max 0 f := by split <;> omega
theorem max2 (f : Int) : (if f > (0 : Int) then f else (0 : Int)) = max 0 f := by split <;> omega

theorem bacc_body (b : Bas) (T : List Psg) (t29 t30 : Int) (t49 : List Int) (r0 r1 r2 r i f : Int) (s : Int × Int) (x : Lnk) (hx : idx b.2.1 i = some x) :
    basin_Account_b5 b T t29 t30 t49 r0 r1 r2 r i f s.1 s.2 = some (.inr (accF x f s)) := by
  unfold basin_Account_b5 accF
  rw [hx]
  simp only [Option.bind_some, if_pos, max1]
  by_cases h1 : x.2.1 = -1
  · rw [bifT (by simpa using h1), if_pos h1]
    by_cases h2 : x.2.2.1 = -1
    · rw [bifT (by simpa using h2), if_pos h2]
    · rw [bifF (by simpa using h2), if_neg h2]
  · rw [bifF (by simpa using h1), if_neg h1]
    by_cases h2 : x.2.2.1 = -1
    · rw [bifT (by simpa using h2), if_pos h2]
    · rw [bifF (by simpa using h2), if_neg h2]

/-! ### Loops that only gather -/
theorem loopL_fold {α β σ : Type} {body : Int → α → σ → Option (β ⊕ σ)} {fin : σ → Option β} (g : σ → α → σ) : ∀ (l : List α) (i : Int) (s : σ), (∀ i e s, e ∈ l → body i e s = some (.inr (g s e))) → loopL body fin i l s = fin (l.foldl g s)
  | [], i, s, _ => rfl
  | e :: l, i, s, h => by
    rw [loopL_cons, h i e s (by simp)]
    simp only [Option.bind_some, List.foldl_cons]
    exact loopL_fold g l (i + 1) (g s e) fun i e s he => h i e s (by simp [he])

theorem bacc_loop (b : Bas) (T : List Psg) (t29 t30 : Int) (t49 : List Int) (r0 r1 r2 r : Int) : ∀ (l : List Lnk) (fs : List Int) (p : List Lnk) (i : Int) (s : Int × Int), b.2.1 = p ++ l → i = (p.length : Int) → fs.length = l.length →
    loopL (fun i__ e__ (s__ : Int × Int) => basin_Account_b5 b T t29 t30 t49 r0 r1 r2 r i__ e__ s__.1 s__.2) (fun s__ => basin_Account_f5 b T t29 t30 t49 r0 r1 r2 r s__.1 s__.2) i fs s = some (.inr (r, (accL l fs s).1, (accL l fs s).2))
  | [], [], p, i, s, _, _, _ => rfl
  | x :: l, f :: fs, p, i, s, hb, hi, hl => by
    rw [loopL_cons, bacc_body b T t29 t30 t49 r0 r1 r2 r i f s x (by rw [hb]; exact idx_mid p x l i hi)]
    simp only [Option.bind_some]
    exact bacc_loop b T t29 t30 t49 r0 r1 r2 r l fs (p ++ [x]) (i + 1) (accF x f s) (by rw [hb]; simp) (by simp [hi]) (by simpa using hl)
  | [], _ :: _, _, _, _, _, _, h => by simp at h
  | _ :: _, [], _, _, _, _, _, h => by simp at h

/-! ### The balance -/
noncomputable def accD (b : Bas) : List (Cnd × List Int × List Int) → Int → Int × Int → Int × Int × Int
  | [], r, s => (r, s.1, s.2)
  | x :: ps, r, s => accD b ps (accR x.1.2.2.1 r) (accL b.2.1 x.2.1 s)

theorem bacc_eq (b : Bas) (h9 : ∀ x ∈ b.2.1, LinkOK x b.1.length) (hl : b.2.1.length ≤ memMax) (T : List Psg) : ∀ (ps : List (Cnd × List Int × List Int)) (i r : Int) (s : Int × Int), (∀ x ∈ ps, x.2.1.length = b.2.1.length ∧ x.1.2.2.1.length < lenMax) →
    loopL (fun i__ e__ (s__ : Int × Int × Int) => basin_Account_b1 b T 0 0 0 i__ e__ s__.1 s__.2.1 s__.2.2) (fun s__ => basin_Account_f1 b T 0 0 0 s__.1 s__.2.1 s__.2.2) i (ps.map psg) (r, s.1, s.2) =
      some (((accD b ps r s).1, (accD b ps r s).2.1, (accD b ps r s).2.2, ()), 0, ())
  | [], i, r, s, _ => rfl
  | x :: ps, i, r, s, h => by
    have hm := memMax_lt
    obtain ⟨hx1, hx2⟩ := h x (by simp)
    have hbody : basin_Account_b1 b T 0 0 0 i (psg x) r s.1 s.2 = some (.inr (accR x.1.2.2.1 r, (accL b.2.1 x.2.1 s).1, (accL b.2.1 x.2.1 s).2)) := by
      unfold basin_Account_b1
      rw [bifT (dec_true (show (psg x).1.2.2.1.length < lenMax from hx2)), loopL_fold (fun r n => wr (r + n)) _ 0 r (fun i e s _ => by unfold basin_Account_b3; rfl)]
      unfold basin_Account_f3
      rw [bifT (dec_true (show (psg x).2.1.length < lenMax by show x.2.1.length < lenMax; omega))]
      exact bacc_loop b T _ _ _ 0 0 0 _ b.2.1 x.2.1 [] 0 s rfl rfl hx1
    rw [List.map_cons, loopL_cons]
    show Option.bind (basin_Account_b1 b T 0 0 0 i (psg x) r s.1 s.2) _ = _
    rw [hbody]
    simp only [Option.bind_some]
    exact bacc_eq b h9 hl T ps (i + 1) (accR x.1.2.2.1 r) (accL b.2.1 x.2.1 s) (fun y hy => h y (by simp [hy]))

end Go.Tw
end

section
set_option linter.all false
set_option maxRecDepth 100000
namespace Go.Tw
open Go.Vx Go.Vx.B Go.Proofs

theorem conditions_eq (l : List Cnd) (hl : l.length ≤ memMax) (hc : ∀ c ∈ l, c.2.2.1.length ≤ memMax) : law04_conditions_M l = some (l, ()) := by
  have hm := memMax_lt
  unfold law04_conditions_M
  rw [bifT (dec_true (show l.length < lenMax by omega)), loopL_app (fun c => c) l 0 [] (by simpa using hl) (fun i e s he hs => by
    unfold law04_conditions_b0
    rw [show (e.fst, e.snd.fst, e.snd.snd.fst, ()) = e from rfl, condition_eq e (hc e he)]
    simp only [Option.bind_some]
    rw [bifT (dec_true hs)])]
  simp only [List.map_id_fun', id_eq, List.nil_append]
  rfl

theorem sameRows_refl (l : List (List Int)) (h : l.length < lenMax) (hr : ∀ x ∈ l, x.length < lenMax) : ref04_SameRows_M l l = some (true, ()) := by
  unfold ref04_SameRows_M
  rw [bifF (show ((l.length : Int) != (l.length : Int)) = false by simp), bifT (dec_true h), loopL_same l (fun p x r e => by
    unfold ref04_SameRows_b0
    rw [e, idx_mid p x r _ rfl]
    simp only [Option.bind_some]
    rw [sameInts_refl x (hr x (by rw [e]; simp))]
    rfl) l [] 0 rfl rfl]
  rfl

theorem eq3_refl (a b c : Int) : Go.Vx.eqV ((Go.Vx.Ty.int Go.IntKind.i64).pair ((Go.Vx.Ty.int Go.IntKind.i64).pair ((Go.Vx.Ty.int Go.IntKind.i64).pair Go.Vx.Ty.unit))) (a, b, c, ()) (a, b, c, ()) = true := by
  simp [Go.Vx.eqV]

end Go.Tw
end
