/- P10: BasinSteps: the law. -/
import Derived.Test.YtkfigfhjbejikaaGreatDoorP9
import Derived.Test.YtkfigfhjbejikaaGreatDoorB16

set_option linter.all false
set_option maxRecDepth 100000
namespace Go.Tw
open Go.Vx Go.Vx.B Go.Proofs

/-- A loop that asks of each element what is so, ends. -/
theorem loopL_same {α β : Type} {body : Int → α → Unit → Option (β ⊕ Unit)} {fin : Unit → Option β} (l : List α) (h : ∀ (p : List α) (x : α) (r : List α), l = p ++ x :: r → body (p.length : Int) x () = some (.inr ())) :
    ∀ (r p : List α) (i : Int), l = p ++ r → i = (p.length : Int) → loopL body fin i r () = fin ()
  | [], p, i, _, _ => rfl
  | x :: r, p, i, hl, hi => by
    rw [loopL_cons, hi, h p x r hl]
    simp only [Option.bind_some]
    exact loopL_same l h r (p ++ [x]) _ (by rw [hl]; simp) (by simp)

theorem sameInts_refl (l : List Int) (h : l.length < lenMax) : ref01_SameInts_M l l = some (true, ()) := by
  unfold ref01_SameInts_M
  rw [bifF (show ((l.length : Int) != (l.length : Int)) = false by simp), bifT (dec_true h), loopL_same l (fun p x r e => by
    unfold ref01_SameInts_b0
    rw [e, idx_mid p x r _ rfl]
    simp only [Option.bind_some]
    rw [bifF (show (x != x) = false by simp)]) l [] 0 rfl rfl]
  rfl

theorem runD_one (b : Bas) (v : List Int) (c : Cnd) : runD b v [c] = (stepD b v c).map fun y => [(c, y.1, y.2)] := by
  simp only [runD]
  cases stepD b v c with
  | none => rfl
  | some y => rfl

/-- What a run of one condition is, in the program. -/
theorem checked_one (b : Bas) (v : List Int) (c : Cnd) (hn : ∀ n ∈ b.1, n.1.length < lenMax) (hv : v.length ≤ memMax) (hc : c.2.2.1.length ≤ memMax) :
    basin_checked_M b v [c] = some (if ckRun b v [c] = 0 then (match stepD b v c with | some (f, o) => ([((c, f, some o, ()) : Psg)], 0, ()) | none => ([], 4, ())) else ([], ckRun b v [c], ())) := by
  rw [bchecked_eq b v [c] hn hv (by simp [memMax]) (by intro e he; simp at he; subst he; exact hc)]
  by_cases h0 : ckRun b v [c] = 0
  · obtain ⟨g1, g2, g3, g4, g5⟩ := ckRun_zero h0
    rw [bifF (show (ckRun b v [c] != 0) = false by simpa using h0), if_pos h0, brun_eq b g1 v [c] g2 (fun e he => (ckCond_zero (g5 e he)).2.1) (by simp [memMax]), runD_one]
    cases stepD b v c with
    | none => rfl
    | some y => rfl
  · rw [bifT (show (ckRun b v [c] != 0) = true by simpa using h0), if_neg h0]

theorem flows_eq (b : Bas) (v : List Int) (c : Cnd) (hn : ∀ n ∈ b.1, n.1.length < lenMax) (hv : v.length ≤ memMax) (hc : c.2.2.1.length ≤ memMax) :
    basin_Flows_M b v c = some (if ckRun b v [c] = 0 then (match stepD b v c with | some (f, _) => (f, 0, ()) | none => ([], 4, ())) else ([], ckRun b v [c], ())) := by
  unfold basin_Flows_M basin_Flows_m
  rw [checked_one b v c hn hv hc]
  by_cases h0 : ckRun b v [c] = 0
  · rw [if_pos h0, if_pos h0]
    cases stepD b v c with
    | none => rfl
    | some y => rfl
  · rw [if_neg h0, if_neg h0]
    simp only [Option.bind_some]
    rw [bifT (show (ckRun b v [c] != 0) = true by simpa using h0)]

theorem bstep_eq (b : Bas) (v : List Int) (c : Cnd) (hn : ∀ n ∈ b.1, n.1.length < lenMax) (hv : v.length ≤ memMax) (hc : c.2.2.1.length ≤ memMax) :
    basin_Step_M b v c = some (if ckRun b v [c] = 0 then (match stepD b v c with | some (_, o) => (o, 0, ()) | none => ([], 4, ())) else ([], ckRun b v [c], ())) := by
  unfold basin_Step_M basin_Step_m
  rw [checked_one b v c hn hv hc]
  by_cases h0 : ckRun b v [c] = 0
  · rw [if_pos h0, if_pos h0]
    cases stepD b v c with
    | none => rfl
    | some y => rfl
  · rw [if_neg h0, if_neg h0]
    simp only [Option.bind_some]
    rw [bifT (show (ckRun b v [c] != 0) = true by simpa using h0)]

/-! ### What a step is -/
noncomputable def linksD (b : Bas) (c : Cnd) : List Lnk → List Int → List Int → Option (List Int × List Int)
  | [], fs, out => some (fs, out)
  | x :: l, fs, out => if fits8 (mv b c x out) = true then linksD b c l (fs ++ [fl b c x out]) (mv b c x out) else none

noncomputable def movedD (b : Bas) (v : List Int) (c : Cnd) : Option (List Int × List Int) :=
  if fits8 (inflow v c.2.2.1) = true then linksD b c b.2.1 [] (inflow v c.2.2.1) else none

theorem rlinks_D (b : Bas) (c : Cnd) (h8 : b.1.length ≤ 8) : ∀ (l : List Lnk) (i : Int) (fs out : List Int), (∀ x ∈ l, LinkOK x b.1.length) → out.length = b.1.length → fs.length + l.length ≤ memMax →
    rLoop b c i l (out, fs) = some (match linksD b c l fs out with | some (f, o) => (f, o, 0, ()) | none => ([], [], 4, ()))
  | [], i, fs, out, _, _, _ => rfl
  | x :: l, i, fs, out, hx, hN, hl => by
    simp only [List.length_cons] at hl
    have hL := hx x (by simp)
    unfold rLoop
    rw [loopL_cons, rlink_body b c i x hL h8 fs out hN (by omega)]
    simp only [Option.bind_some, linksD]
    by_cases hm : fits8 (mv b c x out) = true
    · rw [bifT hm, if_pos hm]
      exact rlinks_D b c h8 l (i + 1) (fs ++ [fl b c x out]) (mv b c x out) (fun y hy => hx y (by simp [hy])) (by rw [mv_length]; exact hN) (by simp; omega)
    · rw [bifF (by simpa using hm), if_neg hm]

theorem moved_D (b : Bas) (hb : BasOK b) (v : List Int) (c : Cnd) (hv : v.length = b.1.length) (hc : c.2.2.1.length = b.1.length) :
    ref04_Moved_M b v c = some (match movedD b v c with | some (f, o) => (f, o, 0, ()) | none => ([], [], 4, ())) := by
  have h8 := hb.nodes
  have hl := hb.links
  have hin : (inflow v c.2.2.1).length = b.1.length := by rw [inflow_length v _ (by omega)]; exact hv
  have hmem : memMax = 68719476736 := rfl
  have hr : ref04_Moved_M b v c = ref04_Moved_f0 b c (inflow v c.2.2.1) := by
    unfold ref04_Moved_M
    rw [bifT (dec_true (show 0 + v.length ≤ memMax by omega)), bifT (dec_true (show (v.length : Int) ≤ 9223372036854775807 by omega))]
    have := rin_loop b c v.length c.2.2.1 v [] [] 0 rfl rfl rfl (by omega) rfl
    rw [List.nil_append, List.nil_append] at this
    rw [show ((v.length : Int) - 0).toNat = v.length by omega]
    exact this
  rw [hr]
  unfold ref04_Moved_f0 movedD
  rw [tooMuch_eq _ (by rw [hin]; unfold lenMax; omega)]
  simp only [Option.bind_some]
  by_cases hf : fits8 (inflow v c.2.2.1) = true
  · rw [if_pos hf, hf]
    simp only [Bool.not_true, cond_false]
    rw [bifT (dec_true (show b.2.1.length < lenMax by unfold lenMax; omega))]
    exact rlinks_D b c h8 b.2.1 0 [] (inflow v c.2.2.1) hb.link hin (by simp; omega)
  · rw [if_neg hf, show fits8 (inflow v c.2.2.1) = false by simpa using hf]
    rfl

theorem stepD_eq (b : Bas) (hb : BasOK b) (v : List Int) (c : Cnd) (hv : v.length = b.1.length) (hc : c.2.2.1.length = b.1.length) : stepD b v c = movedD b v c := by
  unfold stepD
  rw [moved_D b hb v c hv hc]
  cases movedD b v c with
  | none => rfl
  | some y => rfl

theorem linksD_len {b : Bas} {c : Cnd} : ∀ {l : List Lnk} {fs out f o : List Int}, linksD b c l fs out = some (f, o) → f.length = fs.length + l.length ∧ o.length = out.length
  | [], fs, out, f, o, h => by simp only [linksD, Option.some.injEq, Prod.mk.injEq] at h; obtain ⟨rfl, rfl⟩ := h; simp
  | x :: l, fs, out, f, o, h => by
    simp only [linksD] at h
    split at h
    · obtain ⟨h1, h2⟩ := linksD_len h
      rw [mv_length] at h2
      simp at h1
      exact ⟨by simp; omega, h2⟩
    · cases h

theorem stepD_len {b : Bas} (hb : BasOK b) {v : List Int} {c : Cnd} (hv : v.length = b.1.length) (hc : c.2.2.1.length = b.1.length) {f o : List Int} (h : stepD b v c = some (f, o)) : f.length = b.2.1.length ∧ o.length = b.1.length := by
  rw [stepD_eq b hb v c hv hc] at h
  unfold movedD at h
  split at h
  · obtain ⟨h1, h2⟩ := linksD_len h
    rw [inflow_length v _ (by omega)] at h2
    exact ⟨by simpa using h1, by omega⟩
  · cases h

/-- **BasinSteps**: for every input the law answers true. -/
theorem basinSteps_law (b : Bas) (v : List Int) (c : Cnd) : law04_BasinSteps_M b v c = some (true, ()) := by
  have hmem : memMax = 68719476736 := rfl
  have aw : (law04_awake_M.bind fun v6 => some (v6.1, ())) = some (true, ()) := by rw [awake_true]; rfl
  unfold law04_BasinSteps_M law04_BasinSteps_m
  obtain ⟨s, hs, hs2⟩ := short_eq b
  rw [hs]
  simp only [Option.bind_some]
  cases s with
  | false => exact aw
  | true =>
    obtain ⟨h9, h17, h60⟩ := hs2 rfl
    simp only [Bool.not_true, cond_false]
    by_cases hv : v.length ≤ 9
    · rw [bifF (dec_false (show ¬ (v.length : Int) > 9 by omega))]
      obtain ⟨s, hs, hs2⟩ := shortC_one c
      rw [hs]
      simp only [Option.bind_some]
      cases s with
      | false => exact aw
      | true =>
        have hc := hs2 rfl
        have hnn : ∀ n ∈ b.1, n.1.length < lenMax := fun n hn => by have := h60 n hn; unfold lenMax; omega
        simp only [Bool.not_true, cond_false]
        rw [given_eq b (by omega) (by omega), ints_eq v (by omega), condition_eq c (by omega)]
        simp only [Option.bind_some]
        rw [flows_eq b v c hnn (by omega) (by omega), bstep_eq b v c hnn (by omega) (by omega), rrunE_eq b v [c] (by unfold lenMax; omega) (by simp [lenMax]) (by intro e he; simp at he; subst he; unfold lenMax; omega)]
        simp only [Option.bind_some]
        by_cases h0 : ckRun b v [c] = 0
        · rw [if_pos h0, if_pos h0, bifT (show (ckRun b v [c] == 0) = true by simpa using h0)]
          obtain ⟨g1, g2, g3, g4, g5⟩ := ckRun_zero h0
          have gc := (ckCond_zero (g5 c (by simp))).2.1
          have hb8 := g1.nodes
          have hbl := g1.links
          rcases stepD_both b g1 v c g2 gc with ⟨f, o, k1, k2, k3, k4, k5⟩ | ⟨k1, k2, f, o, k3⟩
          · obtain ⟨n1, n2⟩ := stepD_len g1 g2 gc k1
            rw [k1, k2]
            simp only [Option.bind_some]
            unfold law04_BasinSteps_m_j34
            rw [sameInts_refl f (by unfold lenMax; omega), sameInts_refl o (by unfold lenMax; omega)]
            simp only [Option.bind_some, cond_true]
            rw [bifT (beq_self_eq_true _)]
            exact aw
          · rw [k1, k2]
            simp only [Option.bind_some]
            unfold law04_BasinSteps_m_j34
            rw [sameInts_refl [] (by simp [lenMax])]
            simp only [Option.bind_some, cond_true]
            rw [bifT (beq_self_eq_true _)]
            exact aw
        · rw [if_neg h0, if_neg h0, bifF (show (ckRun b v [c] == 0) = false by simpa using h0)]
          unfold law04_BasinSteps_m_j34
          rw [sameInts_refl [] (by simp [lenMax])]
          simp only [Option.bind_some, cond_true]
          rw [bifT (beq_self_eq_true _), bifT (beq_self_eq_true _)]
          exact aw
    · rw [bifT (dec_true (show (v.length : Int) > 9 by omega))]
      exact aw
end Go.Tw
