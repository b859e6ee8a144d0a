/- P27: BasinKeeps: the law. -/
import Derived.Test.YtkfigfhjbejikaaGreatDoorP26

set_option linter.all false
set_option maxRecDepth 100000
namespace Go.Tw
open Go.Vx Go.Vx.B Go.Proofs

/-! ### The program's answers about a run whose arguments are good -/
theorem brunM (b : Bas) (v : List Int) (l : List Cnd) (hk0 : ckBasin b = 0) (hn : ∀ n ∈ b.1, n.1.length < lenMax) (hv : Fit b.1.length v) (hl : l.length ≤ 96) (hc : ∀ c ∈ l, ckCond b c = 0) :
    basin_Run_M b v l = some (match runD b v l with | some ps => (ps.map (·.2.2), 0, ()) | none => ([], 4, ())) := by
  have hb := ckBasin_zero hk0
  have h8 := hb.nodes
  have hvl := hv.1
  have hmem : memMax = 68719476736 := rfl
  have hcl : ∀ c ∈ l, c.2.2.1.length = b.1.length := fun c h => (condOK_of (hc c h)).len
  have h0 := ckRun_of hk0 hv hl hc
  unfold basin_Run_M basin_Run_m
  rw [bchecked_eq b v l hn (by omega) (by omega) (fun c hc' => by have := hcl c hc'; omega), bifF (by simpa using h0), brun_eq b hb v l hvl hcl (by omega)]
  cases hr : runD b v l with
  | none =>
    simp only [Option.bind_some]
    have := volumes_eq [] (by simp)
    simp only [List.map_nil] at this
    rw [this]
    rfl
  | some ps =>
    obtain ⟨k1, k2⟩ := runD_outs hb hvl hcl hr
    simp only [Option.bind_some]
    rw [volumes_eq ps (by omega)]
    rfl

theorem baccM (b : Bas) (v : List Int) (l : List Cnd) (hk0 : ckBasin b = 0) (hn : ∀ n ∈ b.1, n.1.length < lenMax) (hv : Fit b.1.length v) (hl : l.length ≤ 96) (hc : ∀ c ∈ l, ckCond b c = 0) :
    basin_Account_M b v l = some (match runD b v l with | some ps => (((accD b ps 0 (0, 0)).1, (accD b ps 0 (0, 0)).2.1, (accD b ps 0 (0, 0)).2.2, ()), 0, ()) | none => ((0, 0, 0, ()), 4, ())) := by
  have hb := ckBasin_zero hk0
  have h8 := hb.nodes
  have h16 := hb.links
  have hvl := hv.1
  have hmem : memMax = 68719476736 := rfl
  have hcl : ∀ c ∈ l, c.2.2.1.length = b.1.length := fun c h => (condOK_of (hc c h)).len
  have h0 := ckRun_of hk0 hv hl hc
  unfold basin_Account_M
  rw [bchecked_eq b v l hn (by omega) (by omega) (fun c hc' => by have := hcl c hc'; omega), bifF (by simpa using h0), brun_eq b hb v l hvl hcl (by omega)]
  cases hr : runD b v l with
  | none => rfl
  | some ps =>
    obtain ⟨k1, k2⟩ := runD_outs hb hvl hcl hr
    simp only [Option.bind_some]
    rw [bifF (show ((0 : Int) != 0) = false from rfl), bifT (dec_true (show (ps.map psg).length < lenMax by simp [lenMax]; omega))]
    exact bacc_eq b hb.link (by omega) (ps.map psg) ps 0 0 (0, 0) (fun x hx => by
      obtain ⟨m1, m2, m3⟩ := k2 x hx
      have := hcl _ m3
      exact ⟨m2, by unfold lenMax; omega⟩)

/-- A run goes on from each step. -/
theorem runD_split {b : Bas} (hb : BasOK b) (he : ∀ x ∈ b.2.1, EndsOK x) : ∀ (k : Nat) (l : List Cnd) (v : List Int) (ps : List (Cnd × List Int × List Int)), runD b v l = some ps → Fit b.1.length v → (∀ c ∈ l, CondOK b c) → k < l.length →
    ∃ o, (ps.map (·.2.2))[k]? = some o ∧ runD b o (l.drop (k + 1)) = some (ps.drop (k + 1)) ∧ Fit b.1.length o := by
  intro k
  induction k with
  | zero =>
    intro l v ps hps hv hc hk
    cases l with
    | nil => simp at hk
    | cons c l =>
      simp only [runD] at hps
      cases hs : stepD b v c with
      | none => rw [hs] at hps; cases hps
      | some y =>
        obtain ⟨f, o⟩ := y
        rw [hs] at hps
        simp only [Option.map_eq_some_iff] at hps
        obtain ⟨qs, hq, rfl⟩ := hps
        exact ⟨o, rfl, hq, stepD_fit hb he hv (hc c (by simp)) hs⟩
  | succ k ih =>
    intro l v ps hps hv hc hk
    cases l with
    | nil => simp at hk
    | cons c l =>
      simp only [runD] at hps
      cases hs : stepD b v c with
      | none => rw [hs] at hps; cases hps
      | some y =>
        obtain ⟨f, o⟩ := y
        rw [hs] at hps
        simp only [Option.map_eq_some_iff] at hps
        obtain ⟨qs, hq, rfl⟩ := hps
        obtain ⟨o2, h1, h2, h3⟩ := ih l o qs hq (stepD_fit hb he hv (hc c (by simp)) hs) (fun x hx => hc x (by simp [hx])) (by simpa using hk)
        exact ⟨o2, by simpa using h1, by simpa using h2, h3⟩

theorem keeps_rest (l : List Cnd) (b : Bas) (v : List Int) (ps : List (Cnd × List Int × List Int)) (hk0 : ckBasin b = 0) (hn : ∀ n ∈ b.1, n.1.length < lenMax) (hps : runD b v l = some ps) (hv : Fit b.1.length v) (hl : l.length ≤ 12) (hl0 : l.length ≠ 0) (hc : ∀ c ∈ l, ckCond b c = 0) :
    law04_BasinKeeps_s133 l b (ps.map (·.2.2)) = some (true, ()) := by
  have hb := ckBasin_zero hk0
  have he := ckBasin_ends hk0
  have h8 := hb.nodes
  have h16 := hb.links
  have hvl := hv.1
  have hmem : memMax = 68719476736 := rfl
  have hcl : ∀ c ∈ l, c.2.2.1.length = b.1.length := fun c h => (condOK_of (hc c h)).len
  obtain ⟨k1, k2⟩ := runD_outs hb hvl hcl hps
  have aw : (law04_awake_M.bind fun v6 => some (v6.1, ())) = some (true, ()) := by rw [awake_true]; rfl
  obtain ⟨o, h1, h2, h3⟩ := runD_split hb he (l.length / 2) l v ps hps hv (fun c h => condOK_of (hc c h)) (by omega)
  have ek : IntKind.i64.wrap ((l.length : Int).tdiv 2) = ((l.length / 2 : Nat) : Int) := by
    rw [show IntKind.i64.wrap ((l.length : Int).tdiv 2) = wr ((l.length : Int).tdiv 2) from rfl, Int.tdiv_eq_ediv_of_nonneg (by omega), wr_small (by omega) (by omega)]
    omega
  have ek1 : IntKind.i64.wrap (((l.length / 2 : Nat) : Int) + 1) = ((l.length / 2 + 1 : Nat) : Int) := by
    rw [show IntKind.i64.wrap (((l.length / 2 : Nat) : Int) + 1) = wr (((l.length / 2 : Nat) : Int) + 1) from rfl, wr_small (by omega) (by omega)]
    omega
  have hdl : (l.drop (l.length / 2 + 1)).length ≤ 12 := by rw [List.length_drop]; omega
  have hdc : ∀ c ∈ l.drop (l.length / 2 + 1), ckCond b c = 0 := fun c h => hc c (List.mem_of_mem_drop h)
  have hpl : (ps.drop (l.length / 2 + 1)).map (·.2.2) = (ps.map (·.2.2)).drop (l.length / 2 + 1) := by rw [List.map_drop]
  unfold law04_BasinKeeps_s133
  rw [given_eq b (by omega) (by omega), ek, ek1, show idx (ps.map (·.2.2)) ((l.length / 2 : Nat) : Int) = some o by rw [idx_nat]; exact h1]
  simp only [Option.bind_some]
  rw [ints_eq o (by rw [h3.1]; omega)]
  simp only [Option.bind_some]
  rw [dec_true (show (0 : Int) ≤ ((l.length / 2 + 1 : Nat) : Int) by omega), dec_true (show ((l.length / 2 + 1 : Nat) : Int) ≤ (l.length : Int) by omega), show (((l.length / 2 + 1 : Nat) : Int)).toNat = l.length / 2 + 1 by omega]
  simp only [Bool.and_true, cond_true]
  rw [conditions_eq _ (by omega) (fun c h => by have := hcl c (List.mem_of_mem_drop h); omega)]
  simp only [Option.bind_some]
  rw [brunM b o _ hk0 hn h3 (by omega) hdc, h2]
  simp only [Option.bind_some]
  rw [bifT (show ((0 : Int) == 0) = true from rfl), dec_true (show ((l.length / 2 + 1 : Nat) : Int) ≤ ((ps.map (·.2.2)).length : Int) by rw [List.length_map, k1]; omega)]
  simp only [Bool.and_true, cond_true]
  rw [hpl, sameRows_refl _ (by rw [List.length_drop, List.length_map]; unfold lenMax; omega) (fun x hx => by
    obtain ⟨y, hy, rfl⟩ := List.mem_map.1 (List.mem_of_mem_drop hx)
    have := (k2 y hy).1
    unfold lenMax; omega)]
  simp only [Option.bind_some, cond_true]
  exact aw

theorem lastD_fit {b : Bas} (hb : BasOK b) (he : ∀ x ∈ b.2.1, EndsOK x) : ∀ (l : List Cnd) (ps : List (Cnd × List Int × List Int)) (v : List Int), runD b v l = some ps → Fit b.1.length v → (∀ c ∈ l, CondOK b c) → Fit b.1.length (lastD v ps) := by
  intro l
  induction l with
  | nil =>
    intro ps v hps hv hc
    simp only [runD, Option.some.injEq] at hps
    subst hps
    exact hv
  | cons c l ih =>
    intro ps v hps hv hc
    simp only [runD] at hps
    cases hs : stepD b v c with
    | none => rw [hs] at hps; cases hps
    | some y =>
      obtain ⟨f, o⟩ := y
      rw [hs] at hps
      simp only [Option.map_eq_some_iff] at hps
      obtain ⟨qs, hq, rfl⟩ := hps
      exact ih qs o hq (stepD_fit hb he hv (hc c (by simp)) hs) (fun x hx => hc x (by simp [hx]))

/-- What the law says behind its loop. -/
theorem keeps_end (V : List Int) (l : List Cnd) (b : Bas) (ps : List (Cnd × List Int × List Int)) (hk0 : ckBasin b = 0) (hn : ∀ n ∈ b.1, n.1.length < lenMax) (hps : runD b V l = some ps) (hv : Fit b.1.length V) (hl : l.length ≤ 12) (hl0 : l.length ≠ 0) (hc : ∀ c ∈ l, ckCond b c = 0) :
    law04_BasinKeeps_f31 V l b (ps.map (·.2.2)) l (accD b ps 0 (0, 0)).1 (accD b ps 0 (0, 0)).2.1 (accD b ps 0 (0, 0)).2.2 (lastD V ps) (0 + rivers l) (false || opens b l) = some (true, ()) := by
  have hb := ckBasin_zero hk0
  have he := ckBasin_ends hk0
  have h8 := hb.nodes
  have hvl := hv.1
  have hcok : ∀ c ∈ l, CondOK b c := fun c h => condOK_of (hc c h)
  obtain ⟨sea, out, h1, h2, h3, h4, h5⟩ := accD_keeps hk0 l ps V 0 (0, 0) hps hv hc (by omega) (by omega) (by simp) (by simp) (by simp; omega) (by simp; omega)
  have hf := lastD_fit hb he l ps V hps hv hcok
  obtain ⟨t1, t2⟩ := tot_nonneg hv
  obtain ⟨t3, t4⟩ := tot_nonneg hf
  obtain ⟨r1, r2⟩ := rivers_bound hcok h8
  rw [h1]
  simp only [Int.zero_add, Bool.false_or]
  unfold law04_BasinKeeps_f31
  rw [bifF (show (rivers l != rivers l) = false by simp), bifF (dec_false (show ¬ sea < 0 by omega)), bifF (dec_false (show ¬ out < 0 by omega))]
  have ht : (law04_total_M (lastD V ps)).bind (fun v99 => (law04_total_M V).bind fun v100 => bif v99.fst != IntKind.i64.wrap (IntKind.i64.wrap (IntKind.i64.wrap (v100.fst + rivers l) + sea) - out) then some (false, ()) else law04_BasinKeeps_s133 l b (ps.map (·.2.2))) = some (true, ()) := by
    rw [total_eq _ (fit_mem hf) (by rw [hf.1]; omega), total_eq V (fit_mem hv) (by omega)]
    simp only [Option.bind_some]
    have hw : IntKind.i64.wrap (IntKind.i64.wrap (IntKind.i64.wrap (tot V + rivers l) + sea) - out) = tot (lastD V ps) := by
      show wr (wr (wr (tot V + rivers l) + sea) - out) = _
      rw [wr_small (n := tot V + rivers l) (by omega) (by omega), wr_small (n := tot V + rivers l + sea) (by omega) (by omega), wr_small (n := tot V + rivers l + sea - out) (by omega) (by omega)]
      exact h4.symm
    rw [hw, bifF (show (tot (lastD V ps) != tot (lastD V ps)) = false by simp)]
    exact keeps_rest l b V ps hk0 hn hps hv hl hl0 hc
  cases ho : opens b l with
  | false =>
    simp only [Bool.not_false, cond_true]
    rw [bifF (show (sea != 0) = false by rw [h5 ho]; rfl)]
    exact ht
  | true =>
    simp only [Bool.not_true, cond_false]
    exact ht

/-- **BasinKeeps**: for every input the law answers true. -/
theorem basinKeeps_law (b : Bas) (v : List Int) (l : List Cnd) (hv : v.length < lenMax) (hlc : ∀ c ∈ l, c.2.2.1.length < lenMax) : law04_BasinKeeps_M b v l = some (true, ()) := by
  have hmem : memMax = 68719476736 := rfl
  have aw : (law04_awake_M.bind fun v6 => some (v6.1, ())) = some (true, ()) := by rw [awake_true]; rfl
  unfold law04_BasinKeeps_M
  obtain ⟨s, hs, hs2⟩ := short_eq b
  rw [hs]
  simp only [Option.bind_some]
  cases s with
  | false => exact aw
  | true =>
    obtain ⟨h9, h17, h60⟩ := hs2 rfl
    simp only [Bool.not_true, cond_false]
    by_cases hl : l.length ≤ 12
    · rw [bifF (dec_false (show ¬ (l.length : Int) > 12 by omega)), rrunE_eq b v l hv (by unfold lenMax; omega) hlc]
      simp only [Option.bind_some]
      by_cases h0 : ckRun b v l = 0
      · rw [bifF (show (ckRun b v l != 0) = false by simpa using h0)]
        obtain ⟨g1, g2, g3, g4, g5⟩ := ckRun_zero h0
        have hk0 : ckBasin b = 0 := (firstOf_eq0 (firstOf_eq0 h0).1).1
        have hn : ∀ n ∈ b.1, n.1.length < lenMax := fun n hn => by have := h60 n hn; unfold lenMax; omega
        have hf : Fit b.1.length v := fit_of g2 g3
        have h8 := g1.nodes
        have h16 := g1.links
        have hcl : ∀ c ∈ l, c.2.2.1.length = b.1.length := fun c h => (ckCond_zero (g5 c h)).2.1
        rw [given_eq b (by omega) (by omega), ints_eq v (by omega), conditions_eq l (by omega) (fun c h => by have := hcl c h; omega)]
        simp only [Option.bind_some]
        rw [brunM b v l hk0 hn hf (by omega) g5, baccM b v l hk0 hn hf (by omega) g5]
        cases hps : runD b v l with
        | none =>
          simp only [Option.bind_some]
          rw [bifF (show ((4 : Int) != 4) = false from rfl), bifT (show ((4 : Int) != 0) = true from rfl), bifF (show ((4 : Int) != 4) = false from rfl)]
          unfold law04_BasinKeeps_s134
          rw [bifT (show ((4 : Int) != 0) = true from rfl)]
          unfold law04_BasinKeeps_s30
          rw [cond_true, bifT (show ((([] : List (List Int)).length : Int) == 0) = true from rfl), eq3_refl, cond_true]
          exact aw
        | some ps =>
          obtain ⟨k1, k2⟩ := runD_outs g1 g2 hcl hps
          simp only [Option.bind_some]
          by_cases hl0 : l.length = 0
          · have hl1 : l = [] := List.length_eq_zero_iff.1 hl0
            subst hl1
            simp only [runD, Option.some.injEq] at hps
            subst hps
            show law04_BasinKeeps_s30 b v [] ([], 0, ()) ((0, 0, 0, ()), 0, ()) true = _
            unfold law04_BasinKeeps_s30
            rw [cond_true, bifT (show ((([] : List (List Int)).length : Int) == 0) = true from rfl), eq3_refl, cond_true]
            exact aw
          · show law04_BasinKeeps_s30 b v l (ps.map (·.2.2), 0, ()) (((accD b ps 0 (0, 0)).1, (accD b ps 0 (0, 0)).2.1, (accD b ps 0 (0, 0)).2.2, ()), 0, ()) ((l.length : Int) == 0) = _
            rw [show ((l.length : Int) == 0) = false by simpa using hl0]
            unfold law04_BasinKeeps_s30
            rw [cond_false, bifF (show ((((ps.map (·.2.2)).length : Int)) != (l.length : Int)) = false by rw [List.length_map, k1]; simp), bifT (dec_true (show l.length < lenMax by unfold lenMax; omega))]
            rw [keeps_loop v l b (ps.map (·.2.2)) l _ _ _ hk0 hn l ps [] 0 v 0 false rfl rfl hps hf g5 (by omega) (by omega)]
            exact keeps_end v l b ps hk0 hn hps hf hl hl0 g5
      · rw [bifT (show (ckRun b v l != 0) = true by simpa using h0)]
        exact aw
    · rw [bifT (dec_true (show (l.length : Int) > 12 by omega))]
      exact aw
end Go.Tw
