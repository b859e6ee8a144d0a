import Derived.Test.YtohhmdogfjmlcaaGreatPX
import Derived.Test.YtohhmdogfjmlcaaGreatBC
import Derived.Test.YtohhmdogfjmlcaaGreatB13
section
set_option linter.all false
set_option maxRecDepth 100000
namespace Go.Tw
open Go.Vx Go.Vx.B Go.Proofs
theorem awake_true : z0d_M = some (true, ()) := by kernel_rfl
end Go.Tw
end
section
set_option linter.all false
set_option maxRecDepth 100000
namespace Go.Tw
open Go.Vx Go.Vx.B Go.Proofs
theorem lfirst_eq (l : List Int) (h : l.length < lenMax) : z0f_M l = some (firstE l, ()) := by
  unfold z0f_M z0f_m
  rw [rfirst_eq l h]
  rfl
theorem listed_ok (have_ : List Int) (bad : Int) (want : List Int) (hl : have_.length < lenMax) (h1 : bad ≠ 0 → have_ = []) (h2 : bad = 0 → have_ = want) : z0P_M have_ bad bad want = some (true, ()) := by
  unfold z0P_M z0P_m
  by_cases hb : bad = 0
  · rw [bifF (show (bad != 0) = false by simpa using hb), bifT (show (bad == 0) = true by simpa using hb), ← h2 hb, sameInts_refl have_ hl]
    rfl
  · rw [bifT (show (bad != 0) = true by simpa using hb), bifT (show ((have_.length : Int) == 0) = true by simp [h1 hb]), beq_self_eq_true]
end Go.Tw
end
section
set_option linter.all false
set_option maxRecDepth 100000
namespace Go.Tw
open Go.Vx Go.Vx.B Go.Proofs
def stuckW : List UInt8 := [115, 116, 117, 99, 107]
def lostW : List UInt8 := [108, 111, 115, 116]
def noneW : List UInt8 := [110, 111, 110, 101]
def tick (i : Int) : List Fai := (lostW, i, 0, 0, ()) :: [(stuckW, i, 0, 0, ()), (stuckW, i, 0, 1, ()), (stuckW, i, 1, 0, ()), (stuckW, i, 1, 1, ()), (stuckW, i, 2, 0, ()), (stuckW, i, 2, 1, ()), (stuckW, i, 3, 0, ()), (stuckW, i, 3, 1, ())]
def ticks : Int → Nat → List Fai
  | _, 0 => []
  | i, m + 1 => tick i ++ ticks (i + 1) m
def fails (n : Nat) : List Fai := (noneW, 0, 0, 0, ()) :: ticks 0 n
theorem ticks_length : ∀ (m : Nat) (i : Int), (ticks i m).length = 9 * m
  | 0, i => rfl
  | m + 1, i => by
    unfold ticks
    rw [List.length_append, ticks_length m (i + 1)]
    show 9 + 9 * m = _
    omega
theorem rtick_body (xs : List Inp) (i : Int) (s : List Fai) (hs : s.length ≤ 1000000) : z0B_b0 xs i s = some (.inr (s ++ tick i)) := by
  have hmem : memMax = 68719476736 := rfl
  unfold z0B_b0
  rw [bifT (dec_true (show s.length + 1 ≤ memMax by omega)), bifT (by rfl)]
  show loopN _ _ 4 0 _ = _
  unfold loopN
  have hb (k : Int) (s : List Fai) (hs : s.length ≤ 1000100) : z0B_b1 xs i k s = some (.inr (s ++ [(stuckW, i, k, 0, ()), (stuckW, i, k, 1, ())])) := by
    unfold z0B_b1
    rw [bifT (dec_true (show s.length + 2 ≤ memMax by omega))]
    rfl
  rw [hb 0 _ (by simp; omega)]
  simp only [Option.bind_some]
  unfold loopN
  rw [hb _ _ (by simp; omega)]
  simp only [Option.bind_some]
  unfold loopN
  rw [hb _ _ (by simp; omega)]
  simp only [Option.bind_some]
  unfold loopN
  rw [hb _ _ (by simp; omega)]
  simp only [Option.bind_some]
  unfold loopN z0B_f1
  simp [tick, lostW]
theorem gtick_body (n i : Int) (s : List Fai) (hs : s.length ≤ 1000000) : z0D_b0 n i s = some (.inr (s ++ tick i)) := by
  have hmem : memMax = 68719476736 := rfl
  unfold z0D_b0
  rw [bifT (dec_true (show s.length + 1 ≤ memMax by omega)), bifT (by rfl)]
  show loopN _ _ 8 0 _ = _
  have hb (k : Int) (s : List Fai) (hs : s.length ≤ 1000100) : z0D_b1 i n i k s = some (.inr (s ++ [(stuckW, i, IntKind.i64.wrap (k.tdiv 2), k.tmod 2, ())])) := by
    unfold z0D_b1
    rw [bifT (dec_true (show s.length + 1 ≤ memMax by omega))]
    rfl
  unfold loopN
  rw [hb 0 _ (by simp; omega)]
  simp only [Option.bind_some]
  unfold loopN
  rw [hb _ _ (by simp; omega)]
  simp only [Option.bind_some]
  unfold loopN
  rw [hb _ _ (by simp; omega)]
  simp only [Option.bind_some]
  unfold loopN
  rw [hb _ _ (by simp; omega)]
  simp only [Option.bind_some]
  unfold loopN
  rw [hb _ _ (by simp; omega)]
  simp only [Option.bind_some]
  unfold loopN
  rw [hb _ _ (by simp; omega)]
  simp only [Option.bind_some]
  unfold loopN
  rw [hb _ _ (by simp; omega)]
  simp only [Option.bind_some]
  unfold loopN
  rw [hb _ _ (by simp; omega)]
  simp only [Option.bind_some]
  unfold loopN z0D_f1
  simp only [List.append_assoc, List.singleton_append, List.cons_append, List.nil_append]
  rfl
theorem rtick_loop (xs : List Inp) : ∀ (m : Nat) (i : Int) (s : List Fai), s.length + 9 * m ≤ 1000000 →
    loopN (fun i__ s__ => z0B_b0 xs i__ s__) (fun s__ => z0B_f0 xs s__) m i s = some (s ++ ticks i m, ())
  | 0, i, s, _ => by simp [loopN, ticks, z0B_f0]
  | m + 1, i, s, hs => by
    unfold loopN
    rw [rtick_body xs i s (by omega)]
    simp only [Option.bind_some]
    rw [rtick_loop xs m (i + 1) _ (by rw [List.length_append]; show s.length + 9 + 9 * m ≤ _; omega)]
    simp [ticks]
theorem gtick_loop (n : Int) : ∀ (m : Nat) (i : Int) (s : List Fai), s.length + 9 * m ≤ 1000000 →
    loopN (fun i__ s__ => z0D_b0 n i__ s__) (fun s__ => z0D_f0 n s__) m i s = some (s ++ ticks i m, ())
  | 0, i, s, _ => by simp [loopN, ticks, z0D_f0]
  | m + 1, i, s, hs => by
    unfold loopN
    rw [gtick_body n i s (by omega)]
    simp only [Option.bind_some]
    rw [gtick_loop n m (i + 1) _ (by rw [List.length_append]; show s.length + 9 + 9 * m ≤ _; omega)]
    simp [ticks]
theorem rfails_eq (l : List Inp) (h : l.length ≤ 1000) : z0B_M l = some (fails l.length, ()) := by
  unfold z0B_M
  rw [bifT (dec_true (show (l.length : Int) ≤ 9223372036854775807 by omega)), show ((l.length : Int) - 0).toNat = l.length by omega, rtick_loop l l.length 0 _ (by simp; omega)]
  rfl
theorem gfails_eq (n : Nat) (h : n ≤ 1000) : z0D_M (n : Int) = some (fails n, ()) := by
  unfold z0D_M
  rw [bifT (dec_true (show (n : Int) ≤ 9223372036854775807 by omega)), show ((n : Int) - 0).toNat = n by omega, gtick_loop n n 0 _ (by simp; omega)]
  rfl
def inE (x : Inp) : Int := firstOf (nmE x.1) (ckR x.2.1 0 15)
def insE : List Inp → Int
  | [] => 0
  | x :: l => firstOf (inE x) (insE l)
def ckScript (l : List Inp) : Int := if 64 < l.length then 5 else insE l
theorem rinput_eq (x : Inp) : zv_M x = some (inE x, ()) := by
  unfold zv_M zv_m
  rw [rcheckName_eq]
  simp only [Option.bind_some, checkRange_eq]
  rw [rfirst_eq _ (by simp [lenMax])]
  simp only [Option.bind_some, firstE_cons, firstE_nil, firstOf_zero]
  rfl
theorem ginput_eq (x : Inp) (h : x.1.length < lenMax) : zq_M x = some (inE x, ()) := by
  unfold zq_M zq_m
  rw [gcheckName_eq _ h]
  simp only [Option.bind_some, zR, within_eq]
  rw [gfirst_eq _ (by simp [lenMax])]
  simp only [Option.bind_some, firstE_cons, firstE_nil, firstOf_zero]
  rfl
theorem rscript_loop (xs : List Inp) : ∀ (l : List Inp) (i : Int), loopL (fun i__ e__ s__ => zk_b0 xs i__ e__) (fun s__ => zk_f0 xs) i l () = some (insE l, ())
  | [], i => rfl
  | x :: l, i => by
    have hb : zk_b0 xs i x = some (bif inE x != 0 then .inl (inE x, ()) else .inr ()) := by
      unfold zk_b0
      rw [rinput_eq]
      simp only [Option.bind_some]
      cases (inE x != 0) <;> rfl
    rw [loopL_seq hb, rscript_loop xs l (i + 1), seqE_some]
    rfl
theorem rscript_eq (l : List Inp) : zk_M l = some (ckScript l, ()) := by
  unfold zk_M ckScript
  by_cases h : 64 < l.length
  · rw [bifT (dec_true (show (l.length : Int) > 64 by omega)), if_pos h]
  · rw [bifF (dec_false (show ¬ (l.length : Int) > 64 by omega)), if_neg h, bifT (dec_true (show l.length < lenMax by unfold lenMax; omega))]
    exact rscript_loop l l 0
theorem firstE_ins : ∀ l : List Inp, firstE (l.map inE) = insE l
  | [] => rfl
  | x :: l => by rw [List.map_cons, firstE_cons, firstE_ins l]; rfl
theorem gscript_eq (l : List Inp) (h : l.length ≤ 1000) (hw : ∀ x ∈ l, x.1.length < lenMax) : zr_M l = some (ckScript l, ()) := by
  have hmem : memMax = 68719476736 := rfl
  have hlm : l.length < lenMax := by unfold lenMax; omega
  unfold zr_M zr_m
  have hmap : (z8_M l fun (x : Inp × Unit) => zq_M x.fst) = some (l.map inE, ()) := by
    unfold z8_M
    rw [bifT (dec_true hlm)]
    refine (loopL_app inE l 0 [] (by simp; omega) fun i e s he hs => ?_).trans ?_
    · unfold z8_b0
      simp only
      rw [show ((e.1, e.2.1, ()) : Inp) = e from rfl, ginput_eq e (hw e he)]
      simp only [Option.bind_some]
      rw [bifT (dec_true hs)]
    · rw [List.nil_append]; rfl
  rw [hmap]
  simp only [Option.bind_some]
  rw [gfirst_eq _ (by rw [List.length_map]; exact hlm), firstE_ins]
  simp only [Option.bind_some, when_eq]
  rw [gfirst_eq _ (by simp [lenMax])]
  simp only [Option.bind_some, firstE_cons, firstE_nil, firstOf_zero]
  unfold ckScript
  by_cases h9 : 64 < l.length
  · rw [dec_true (show (l.length : Int) > 64 by omega), if_pos h9]; rfl
  · rw [dec_false (show ¬ (l.length : Int) > 64 by omega), if_neg h9]; rfl
theorem script_eq (l : List Inp) (h : l.length ≤ memMax) : z0Q_M l = some (l, ()) := by
  have hmem : memMax = 68719476736 := rfl
  unfold z0Q_M
  rw [bifT (dec_true (show l.length < lenMax by unfold lenMax; omega))]
  refine (loopL_app (fun x : Inp => x) l 0 [] (by simpa using h) fun i e s he hs => ?_).trans ?_
  · unfold z0Q_b0
    rw [bifT (dec_true hs)]
  · rw [List.map_id', List.nil_append]; rfl
theorem failures_eq (l : List Fai) (h : l.length ≤ memMax) : z09_M l = some (l, ()) := by
  have hmem : memMax = 68719476736 := rfl
  unfold z09_M
  rw [bifT (dec_true (show l.length < lenMax by unfold lenMax; omega))]
  refine (loopL_app (fun x : Fai => x) l 0 [] (by simpa using h) fun i e s he hs => ?_).trans ?_
  · unfold z09_b0
    rw [bifT (dec_true hs)]
  · rw [List.map_id', List.nil_append]; rfl
theorem ints_eq (l : List Int) (h : l.length ≤ memMax) : z0r_M l = some (l, ()) := by
  unfold z0r_M z0r_m
  rw [bifT (dec_true (by omega))]
theorem eqV_failure (x : Fai) : eqV (.pair .str (.pair (.int .i64) (.pair (.int .i64) (.pair (.int .i64) .unit)))) x x = true := by
  show ((x.1 : List UInt8) == x.1 && ((x.2.1 : Int) == x.2.1 && ((x.2.2.1 : Int) == x.2.2.1 && ((x.2.2.2.1 : Int) == x.2.2.2.1 && true)))) = true
  simp
theorem sameFailures_refl (l : List Fai) (h : l.length < lenMax) : zY_M l l = some (true, ()) := by
  unfold zY_M
  rw [bifF (show ((l.length : Int) != (l.length : Int)) = false by simp), bifT (dec_true h), loopL_same l (fun p x r e => by
    unfold zY_b0
    rw [e, idx_mid p x r _ rfl]
    simp only [Option.bind_some]
    rw [eqV_failure]
    rfl) l [] 0 rfl rfl]
  rfl
theorem shortScript_eq (l : List Inp) (h : l.length < lenMax) : ∃ s, zm_M l = some (s, ()) ∧ (s = true → l.length ≤ 65 ∧ ∀ c ∈ l, c.1.length ≤ 40) := by
  unfold zm_M
  rw [bifT (dec_true h), loopL_find (fun c : Inp => if (decide ((c.1.length : Int) > 40)) = true then some (false, ()) else none) l 0 (fun i e _ => by
    unfold zm_b0
    cases decide ((e.1.length : Int) > 40) <;> rfl)]
  cases hf : l.findSome? (fun c : Inp => if (decide ((c.1.length : Int) > 40)) = true then some (false, ()) else none) with
  | some y =>
    refine ⟨y.1, rfl, fun hy => ?_⟩
    obtain ⟨c, _, hc⟩ := List.exists_of_findSome?_eq_some hf
    split at hc
    · cases hc; cases hy
    · cases hc
  | none =>
    have hall : ∀ c ∈ l, c.1.length ≤ 40 := by
      intro c hc
      have := List.findSome?_eq_none_iff.1 hf c hc
      by_cases hd : ((c.1.length : Int) > 40)
      · rw [if_pos (dec_true hd)] at this; cases this
      · omega
    unfold zm_f0
    by_cases h24 : (l.length : Int) ≤ 12
    · exact ⟨true, by rw [bifT (dec_true h24)], fun _ => ⟨by omega, hall⟩⟩
    · exact ⟨(l.length : Int) == 65, by rw [bifF (dec_false h24)], fun hs => ⟨by have := of_decide_eq_true hs; omega, hall⟩⟩
end Go.Tw
end
section
set_option linter.all false
set_option maxRecDepth 100000
namespace Go.Tw
open Go.Vx Go.Vx.B Go.Proofs
theorem shortT_loop (c : Cha) : ∀ (l : List Tra) (i : Int), ∃ s, loopL (fun i__ e__ s__ => z0i_b11 c i__ e__) (fun s__ => z0i_f11 c) i l () = some (s, ()) ∧ (s = true → ∀ t ∈ l, t.2.1.length ≤ 40)
  | [], i => ⟨true, rfl, fun _ t ht => by cases ht⟩
  | x :: l, i => by
    rw [loopL_cons]
    unfold z0i_b11
    by_cases h : (x.2.1.length : Int) > 40
    · exact ⟨false, by rw [bifT (dec_true h)]; rfl, fun h => by cases h⟩
    · obtain ⟨s, h1, h2⟩ := shortT_loop c l (i + 1)
      refine ⟨s, by rw [bifF (dec_false h)]; exact h1, fun hs t ht => ?_⟩
      rcases List.mem_cons.1 ht with rfl | ht
      · omega
      · exact h2 hs t ht
theorem shortS_loop (c : Cha) (hl : c.2.1.length < lenMax) : ∀ (l : List Sta) (i : Int), ∃ s, loopL (fun i__ e__ s__ => z0i_b9 c i__ e__) (fun s__ => z0i_f9 c) i l () = some (s, ()) ∧ (s = true → (∀ t ∈ l, t.1.length ≤ 40) ∧ ∀ t ∈ c.2.1, t.2.1.length ≤ 40)
  | [], i => by
    obtain ⟨s, h1, h2⟩ := shortT_loop c c.2.1 0
    refine ⟨s, ?_, fun hs => ⟨fun t ht => (by cases ht), h2 hs⟩⟩
    rw [loopL_nil]
    unfold z0i_f9
    rw [bifT (dec_true hl)]
    exact h1
  | x :: l, i => by
    rw [loopL_cons]
    unfold z0i_b9
    by_cases h : (x.1.length : Int) > 40
    · exact ⟨false, by rw [bifT (dec_true h)]; rfl, fun h => by cases h⟩
    · obtain ⟨s, h1, h2⟩ := shortS_loop c hl l (i + 1)
      refine ⟨s, by rw [bifF (dec_false h)]; exact h1, fun hs => ⟨fun t ht => ?_, (h2 hs).2⟩⟩
      rcases List.mem_cons.1 ht with rfl | ht
      · omega
      · exact (h2 hs).1 t ht
structure Sh (c : Cha) : Prop where
  sts : c.1.length ≤ 17
  tras : c.2.1.length ≤ 49
  words : Words c
theorem short_eq (c : Cha) : ∃ s, z0i_M c = some (s, ()) ∧ (s = true → Sh c) := by
  have key : c.1.length ≤ 17 → c.2.1.length ≤ 49 → ∃ s, z0i_s13 c = some (s, ()) ∧ (s = true → Sh c) := by
    intro h1 h2
    obtain ⟨s, h3, h4⟩ := shortS_loop c (by unfold lenMax; omega) c.1 0
    refine ⟨s, ?_, fun hs => ⟨h1, h2, fun t ht => ?_, fun t ht => ?_⟩⟩
    · unfold z0i_s13
      rw [bifT (dec_true (show c.1.length < lenMax by unfold lenMax; omega))]
      exact h3
    · have := (h4 hs).1 t ht; unfold lenMax; omega
    · have := (h4 hs).2 t ht; unfold lenMax; omega
  have key2 : c.1.length ≤ 17 → ∃ s, (bif decide ((c.2.1.length : Int) > 12) then (bif (c.2.1.length : Int) != 49 then (some ((false, ()))) else (z0i_s13 c)) else (z0i_s13 c)) = some (s, ()) ∧ (s = true → Sh c) := by
    intro h1
    by_cases h2 : (c.2.1.length : Int) > 12
    · rw [bifT (dec_true h2)]
      by_cases h3 : (c.2.1.length : Int) = 49
      · rw [bifF (show ((c.2.1.length : Int) != 49) = false by simp [h3])]
        exact key h1 (by omega)
      · exact ⟨false, by rw [bifT (show ((c.2.1.length : Int) != 49) = true by simpa using h3)], fun h => by cases h⟩
    · rw [bifF (dec_false h2)]
      exact key h1 (by omega)
  unfold z0i_M
  by_cases h2 : (c.1.length : Int) > 7
  · rw [bifT (dec_true h2)]
    by_cases h3 : (c.1.length : Int) = 17
    · rw [bifF (show ((c.1.length : Int) != 17) = false by simp [h3])]
      exact key2 (by omega)
    · exact ⟨false, by rw [bifT (show ((c.1.length : Int) != 17) = true by simpa using h3)], fun h => by cases h⟩
  · rw [bifF (dec_false h2)]
    exact key2 (by omega)
theorem chart_eq (c : Cha) (hc : Sh c) : z0e_M c = some (c, ()) := by
  have hmem : memMax = 68719476736 := rfl
  have h1 := hc.sts
  have h2 := hc.tras
  unfold z0e_M
  rw [bifT (dec_true (show c.1.length < lenMax by unfold lenMax; omega))]
  refine (loopL_app (fun x : Sta => x) c.1 0 [] (by simp; omega) fun i e s he hs => ?_).trans ?_
  · unfold z0e_b0
    rw [bifT (dec_true hs)]
  rw [List.map_id', List.nil_append]
  unfold z0e_f0
  rw [bifT (dec_true (show c.2.1.length < lenMax by unfold lenMax; omega))]
  refine (loopL_app (fun x : Tra => x) c.2.1 0 [] (by simp; omega) fun i e s he hs => ?_).trans ?_
  · unfold z0e_b2
    rw [bifT (dec_true hs)]
  rw [List.map_id', List.nil_append]
  rfl
theorem gck (c : Cha) (hc : Sh c) : zz_M c = some (ckChart c, ()) := gchart_eq c (by have := hc.sts; omega) (by have := hc.tras; omega) hc.words
theorem stp_leaf (c : Cha) (hc : Valid c) (leaf : Int) (e : List UInt8) (v : Int) (h0 : 0 ≤ leaf) (h1 : leaf < c.1.length) (hs : (stp c leaf e v).2 = 0) : 0 ≤ (stp c leaf e v).1 ∧ (stp c leaf e v).1 < c.1.length := by
  have hm := takes_mem c e v 17 leaf
  unfold stp at hs ⊢
  change ∀ t, t ∈ takes c leaf e v → _ at hm
  generalize takes c leaf e v = fs at hm hs
  match fs with
  | [] => exact ⟨h0, h1⟩
  | [t] =>
    have ht := hc.tra t (hm t (by simp))
    have := entr_leaf c hc t.2.2.1 ht.2.2.1 ht.2.2.2.1
    exact ⟨this.1, this.2.1⟩
  | t :: u :: l => cases hs
def plays (c : Cha) (d : Int → Inp → Inp × Bool) : List Inp → Int → Int → List Int → List Int × Int
  | [], _, _, out => (out, 0)
  | x :: l, i, leaf, out => if (d i x).2 = true then
      (if (stp c leaf (d i x).1.1 (d i x).1.2.1).2 = 0 then plays c d l (i + 1) (stp c leaf (d i x).1.1 (d i x).1.2.1).1 (out ++ [(stp c leaf (d i x).1.1 (d i x).1.2.1).1]) else ([], (stp c leaf (d i x).1.1 (d i x).1.2.1).2))
    else plays c d l (i + 1) leaf (out ++ [leaf])
theorem plays_length (c : Cha) (d : Int → Inp → Inp × Bool) : ∀ (l : List Inp) (i leaf : Int) (out : List Int), (plays c d l i leaf out).1.length ≤ out.length + l.length
  | [], i, leaf, out => Nat.le_refl _
  | x :: l, i, leaf, out => by
    unfold plays
    split
    · split
      · have := plays_length c d l (i + 1) (stp c leaf (d i x).1.1 (d i x).1.2.1).1 (out ++ [(stp c leaf (d i x).1.1 (d i x).1.2.1).1])
        simp only [List.length_append, List.length_cons, List.length_nil] at this ⊢
        omega
      · simp
    · have := plays_length c d l (i + 1) leaf (out ++ [leaf])
      simp only [List.length_append, List.length_cons, List.length_nil] at this ⊢
      omega
theorem plays_err (c : Cha) (d : Int → Inp → Inp × Bool) : ∀ (l : List Inp) (i leaf : Int) (out : List Int), (plays c d l i leaf out).2 ≠ 0 → (plays c d l i leaf out).1 = []
  | [], i, leaf, out, h => absurd rfl h
  | x :: l, i, leaf, out, h => by
    unfold plays at h ⊢
    split
    · rename_i h1
      rw [if_pos h1] at h
      split
      · rename_i h2
        rw [if_pos h2] at h
        exact plays_err c d l _ _ _ h
      · rfl
    · rename_i h1
      rw [if_neg h1] at h
      exact plays_err c d l _ _ _ h
theorem gplay_loop (c : Cha) (hc : Valid c) (f : Fai) (xs : List Inp) (w : List UInt8) (g1 : Fai × Unit → Option (Fai × Unit)) (g2 : Fai × Int × Inp × Unit → Option (Inp × Bool × Unit)) (d : Int → Inp → Inp × Bool) :
    ∀ (l : List Inp) (i : Int) (leaf : Int) (out : List Int), 0 ≤ i → 0 ≤ leaf → leaf < c.1.length → out.length + l.length ≤ 1000 → (∀ (i : Int) x, 0 ≤ i → x ∈ l → g2 (f, i, x, ()) = some ((d i x).1, (d i x).2, ()) ∧ ((d i x).2 = true → 0 ≤ (d i x).1.2.1 ∧ (d i x).1.2.1 ≤ 15)) →
      loopL (fun i__ e__ s__ => zx_b2 c f xs w g1 g2 i__ e__ s__.1 s__.2) (fun s__ => zx_f2 c f xs w g1 g2 s__.1 s__.2) i l (leaf, out) = some ((plays c d l i leaf out).1, (plays c d l i leaf out).2, ())
  | [], i, leaf, out, _, _, _, _, _ => rfl
  | x :: l, i, leaf, out, hi, h0, h1, hl, hd => by
    have hmem : memMax = 68719476736 := rfl
    simp only [List.length_cons] at hl
    obtain ⟨hg, hv⟩ := hd i x hi (by simp)
    have hd' : ∀ (i : Int) x, 0 ≤ i → x ∈ l → g2 (f, i, x, ()) = some ((d i x).1, (d i x).2, ()) ∧ ((d i x).2 = true → 0 ≤ (d i x).1.2.1 ∧ (d i x).1.2.1 ≤ 15) := fun i y h hy => hd i y h (by simp [hy])
    have hb : zx_b2 c f xs w g1 g2 i x leaf out = some (if (d i x).2 = true then
        (if (stp c leaf (d i x).1.1 (d i x).1.2.1).2 = 0 then .inr ((stp c leaf (d i x).1.1 (d i x).1.2.1).1, out ++ [(stp c leaf (d i x).1.1 (d i x).1.2.1).1]) else .inl ([], (stp c leaf (d i x).1.1 (d i x).1.2.1).2, ()))
        else .inr (leaf, out ++ [leaf])) := by
      unfold zx_b2
      rw [show ((x.1, x.2.1, ()) : Inp) = x from rfl, hg]
      simp only [Option.bind_some]
      cases hq : (d i x).2 with
      | false => rw [cond_false, if_neg (by simp), bifT (dec_true (show out.length + 1 ≤ memMax by omega))]
      | true =>
        rw [cond_true, if_pos rfl, show (((d i x).1.1, (d i x).1.2.1, ()) : Inp) = (d i x).1 from rfl, gstep_eq c hc leaf (d i x).1 h0 h1 (hv hq)]
        simp only [Option.bind_some]
        unfold stp
        generalize takes c leaf (d i x).1.1 (d i x).1.2.1 = fs
        match fs with
        | [] => rw [bifF (by rfl), bifT (dec_true (show out.length + 1 ≤ memMax by omega))]; rfl
        | [t] => rw [bifF (by rfl), bifT (dec_true (show out.length + 1 ≤ memMax by omega))]; rfl
        | t :: u :: r => rfl
    rw [loopL_cons, hb]
    simp only [Option.bind_some]
    unfold plays
    by_cases hq : (d i x).2 = true
    · rw [if_pos hq, if_pos hq]
      by_cases hz : (stp c leaf (d i x).1.1 (d i x).1.2.1).2 = 0
      · rw [if_pos hz, if_pos hz]
        have hl2 := stp_leaf c hc leaf _ _ h0 h1 hz
        exact gplay_loop c hc f xs w g1 g2 d l (i + 1) _ _ (by omega) hl2.1 hl2.2 (by simp; omega) hd'
      · rw [if_neg hz, if_neg hz]
    · rw [if_neg hq, if_neg hq]
      exact gplay_loop c hc f xs w g1 g2 d l (i + 1) leaf _ (by omega) h0 h1 (by simp; omega) hd'
theorem rplay_loop (c : Cha) (hc : Valid c) (f : Fai) (xs : List Inp) (d : Int → Inp → Inp × Bool) (hx : xs.length ≤ 1000)
    (hd : ∀ (i : Nat) x (leaf : Int) (out : List Int), xs[i]? = some x → z0s_b1 xs c f leaf (i : Int) out = z0s_s18 out (d i x).1.1 (d i x).1.2.1 xs c f leaf (i : Int) (d i x).2) :
    ∀ (l done : List Inp) (r : Nat) (leaf : Int) (out : List Int), xs = done ++ l → 0 ≤ leaf → leaf < c.1.length → out.length = done.length → l.length < r →
      loopW (fun s__ => z0s_b1 s__.1 s__.2.1 s__.2.2.1 s__.2.2.2.1 s__.2.2.2.2.1 s__.2.2.2.2.2) r (xs, c, f, leaf, (done.length : Int), out) = some ((plays c d l done.length leaf out).1, (plays c d l done.length leaf out).2, ())
  | l, done, 0, leaf, out, _, _, _, _, hr => by omega
  | [], done, r + 1, leaf, out, he, h0, h1, ho, hr => by
    rw [List.append_nil] at he
    have hb : z0s_b1 xs c f leaf (done.length : Int) out = some (.inl (out, 0, ())) := by
      unfold z0s_b1
      rw [bifF (dec_false (by rw [he]; omega))]
    unfold loopW
    simp only [hb, Option.bind_some]
    rfl
  | x :: l, done, r + 1, leaf, out, he, h0, h1, ho, hr => by
    have hmem : memMax = 68719476736 := rfl
    have hn : xs[done.length]? = some x := by rw [he]; simp
    have hlen : done.length ≤ 1000 := by rw [he] at hx; simp at hx; omega
    have hw : IntKind.i64.wrap ((done.length : Int) + 1) = (done.length : Int) + 1 := wrapS (by omega) (by omega)
    simp only [List.length_cons] at hr
    have hb : z0s_b1 xs c f leaf (done.length : Int) out = some (if (d done.length x).2 = true then
        (if (stp c leaf (d done.length x).1.1 (d done.length x).1.2.1).2 = 0 then .inr (xs, c, f, (stp c leaf (d done.length x).1.1 (d done.length x).1.2.1).1, (done.length : Int) + 1, out ++ [(stp c leaf (d done.length x).1.1 (d done.length x).1.2.1).1]) else .inl ([], (stp c leaf (d done.length x).1.1 (d done.length x).1.2.1).2, ()))
        else .inr (xs, c, f, leaf, (done.length : Int) + 1, out ++ [leaf])) := by
      rw [hd done.length x leaf out hn]
      unfold z0s_s18
      rw [hw]
      cases hq : (d done.length x).2 with
      | false => rw [cond_false, if_neg (by simp), bifT (dec_true (show out.length + 1 ≤ memMax by omega))]
      | true =>
        rw [cond_true, if_pos rfl, rstep_eq c hc leaf _ h0 h1]
        simp only [Option.bind_some]
        by_cases hz : (stp c leaf (d done.length x).1.1 (d done.length x).1.2.1).2 = 0
        · rw [if_pos hz, bifF (show ((stp c leaf (d done.length x).1.1 (d done.length x).1.2.1).2 != 0) = false by simpa using hz), bifT (dec_true (show out.length + 1 ≤ memMax by omega))]
        · rw [if_neg hz, bifT (show ((stp c leaf (d done.length x).1.1 (d done.length x).1.2.1).2 != 0) = true by simpa using hz)]
    unfold loopW
    simp only [hb, Option.bind_some]
    unfold plays
    have ih := fun (leaf' : Int) (y : Int) (a : 0 ≤ leaf') (b : leaf' < c.1.length) => rplay_loop c hc f xs d hx hd l (done ++ [x]) r leaf' (out ++ [y]) (by rw [he]; simp) a b (by simp [ho]) (by omega)
    simp only [List.length_append, List.length_cons, List.length_nil] at ih
    by_cases hq : (d done.length x).2 = true
    · rw [if_pos hq, if_pos hq]
      by_cases hz : (stp c leaf (d done.length x).1.1 (d done.length x).1.2.1).2 = 0
      · rw [if_pos hz, if_pos hz]
        have hl2 := stp_leaf c hc leaf _ _ h0 h1 hz
        exact ih _ _ hl2.1 hl2.2
      · rw [if_neg hz, if_neg hz]
    · rw [if_neg hq, if_neg hq]
      exact ih leaf leaf h0 h1
end Go.Tw
end
section
set_option linter.all false
set_option maxRecDepth 100000
namespace Go.Tw
open Go.Vx Go.Vx.B Go.Proofs
theorem inE_range {x : Inp} (h : inE x = 0) : 0 ≤ x.2.1 ∧ x.2.1 ≤ 15 := ckR_zero (firstOf_eq_zero.1 h).2
theorem insE_mem : ∀ (l : List Inp), insE l = 0 → ∀ x ∈ l, inE x = 0
  | [], _, x, hx => by cases hx
  | y :: l, h, x, hx => by
    obtain ⟨h1, h2⟩ := firstOf_eq_zero.1 h
    rcases List.mem_cons.1 hx with rfl | hx
    · exact h1
    · exact insE_mem l h2 x hx
theorem script_range {l : List Inp} (h : ckScript l = 0) : ∀ x ∈ l, 0 ≤ x.2.1 ∧ x.2.1 ≤ 15 := by
  unfold ckScript at h
  split at h
  · cases h
  · exact fun x hx => inE_range (insE_mem l h x hx)
end Go.Tw
end
section
set_option linter.all false
set_option maxRecDepth 100000
namespace Go.Tw
open Go.Vx Go.Vx.B Go.Proofs
theorem nodup_le : ∀ (n : Nat) (l : List Int), l.Nodup → (∀ x ∈ l, 0 ≤ x ∧ x < n) → l.length ≤ n
  | 0, l, _, h => by
    cases l with
    | nil => exact Nat.le_refl _
    | cons x l => have := h x (by simp); omega
  | n + 1, l, hn, h => by
    have ih := nodup_le n (l.erase (n : Int)) (hn.erase _) (fun x hx => by
      have h1 := (List.Nodup.mem_erase_iff hn).1 hx
      have := h x h1.2
      have h2 := h1.1
      omega)
    have : l.length ≤ (l.erase (n : Int)).length + 1 := by
      by_cases hm : (n : Int) ∈ l
      · rw [List.length_erase_of_mem hm]; omega
      · rw [List.erase_of_not_mem hm]; omega
    omega
abbrev lvs (ps : List Pth) : List Int := ps.map fun p => p.1
structure WI (c : Cha) (ps : List Pth) : Prop where
  nd : (lvs ps).Nodup
  rg : ∀ p ∈ ps, 0 ≤ p.1 ∧ p.1 < c.1.length
  ln : ∀ (j : Nat) (p : Pth), ps[j]? = some p → p.2.1.length ≤ j
theorem WI.few {c : Cha} (hc : Valid c) {ps : List Pth} (h : WI c ps) : ps.length ≤ 16 := by
  have := nodup_le c.1.length (lvs ps) h.nd (fun x hx => by
    obtain ⟨p, hp, rfl⟩ := List.mem_map.1 hx
    exact h.rg p hp)
  have h16 := hc.few
  simp only [List.length_map] at this
  omega
end Go.Tw
end
