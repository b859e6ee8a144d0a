/- PA: the program returns the results of the document's examples.
P6: the law of the commands.
P7: votes and failures: the law. -/
import Derived.Test.YtohhmdogfjmlcaaGreatPX
import Derived.Test.YtohhmdogfjmlcaaGreatBC
import Derived.Test.YtohhmdogfjmlcaaGreatB13

section
set_option linter.all false
set_option maxRecDepth 100000
namespace Go.Tw
open Go.Vx Go.Vx.B Go.Proofs

theorem awake_true : law06_awake_M = some (true, ()) := by kernel_rfl
end Go.Tw
end

section
set_option linter.all false
set_option maxRecDepth 100000
namespace Go.Tw
open Go.Vx Go.Vx.B Go.Proofs

theorem number_ok (have_ bad want : Int) (h1 : bad ≠ 0 → have_ = 0) (h2 : bad = 0 → have_ = want) : law06_number have_ bad bad want = (true, ()) := by
  unfold law06_number
  by_cases hb : bad = 0
  · rw [bifF (show (bad != 0) = false by simpa using hb), bifT (show (bad == 0) = true by simpa using hb), h2 hb, beq_self_eq_true]
  · rw [bifT (show (bad != 0) = true by simpa using hb), bifT (show (have_ == 0) = true by simpa using h1 hb), beq_self_eq_true]

end Go.Tw
end

section
set_option linter.all false
set_option maxRecDepth 100000
namespace Go.Tw
open Go.Vx Go.Vx.B Go.Proofs

/-! ### Positions -/
def posE : List Int → Int
  | [] => 0
  | n :: l => firstOf (ckR n 0 1000) (posE l)
def ckPos (l : List Int) : Int := if 9 < l.length then 5 else posE l

theorem rpos_loop (xs : List Int) : ∀ (l : List Int) (i : Int), loopL (fun i__ e__ s__ => ref06_CheckPositions_b0 xs i__ e__) (fun s__ => ref06_CheckPositions_f0 xs) i l () = some (posE l, ())
  | [], i => rfl
  | n :: l, i => by
    have hb : ref06_CheckPositions_b0 xs i n = some (bif ckR n 0 1000 != 0 then .inl (ckR n 0 1000, ()) else .inr ()) := by
      unfold ref06_CheckPositions_b0
      rw [checkRange_eq]
      simp only
      unfold ckR
      split <;> rfl
    rw [loopL_seq hb, rpos_loop xs l (i + 1), seqE_some]
    rfl

theorem rpos_eq (l : List Int) : ref06_CheckPositions_M l = some (ckPos l, ()) := by
  unfold ref06_CheckPositions_M ckPos
  by_cases h : 9 < l.length
  · rw [bifT (dec_true (show (l.length : Int) > 9 by omega)), if_pos h]
  · rw [bifF (dec_false (show ¬ (l.length : Int) > 9 by omega)), if_neg h, bifT (dec_true (show l.length < lenMax by unfold lenMax; omega))]
    exact rpos_loop l l 0

theorem firstE_pos : ∀ l : List Int, firstE (l.map fun n => ckR n 0 1000) = posE l
  | [] => rfl
  | n :: l => by rw [List.map_cons, firstE_cons, firstE_pos l]; rfl

/-- How often a number is there. -/
def cnt (l : List Int) (n : Int) : Nat := (l.filter (fun x => x == n)).length

/-- The vote. -/
def votes (l : List Int) : List Int → Int × Int
  | [] => (0, 7)
  | n :: r => if l.length < 2 * cnt l n then (n, 0) else votes l r

theorem cnt_le (l : List Int) (n : Int) : cnt l n ≤ l.length := List.length_filter_le ..

theorem kept_eq (l : List Int) (n : Int) (h : l.length ≤ 1000) : (gate_kept_int_M l fun (x : Int × Unit) => gate_Vote_2_M x.fst n) = some (l.filter (fun x => x == n), ()) := by
  have hmem : memMax = 68719476736 := rfl
  unfold gate_kept_int_M
  rw [bifT (dec_true (show l.length < lenMax by unfold lenMax; omega))]
  refine (loopL_filter (fun x : Int => x == n) l 0 [] (by simp; omega) fun i t xs ht hs => ?_).trans ?_
  · unfold gate_kept_int_b0
    show (Option.bind (some (t == n, ())) _) = _
    simp only [Option.bind_some]
    cases (t == n) with
    | true => rw [cond_true, bifT (dec_true hs)]; rfl
    | false => rfl
  · rw [List.nil_append]; rfl

theorem gvote_loop (l : List Int) (h : l.length ≤ 1000) : ∀ (r : List Int) (i : Int), loopL (fun i__ e__ s__ => gate_Vote_b3 l l i__ e__) (fun s__ => gate_Vote_f3 l l) i r () = some ((votes l r).1, (votes l r).2, ())
  | [], i => rfl
  | n :: r, i => by
    have hc := cnt_le l n
    have hb : gate_Vote_b3 l l i n = some (if l.length < 2 * cnt l n then .inl (n, 0, ()) else .inr ()) := by
      unfold gate_Vote_b3
      rw [kept_eq l n h]
      simp only [Option.bind_some]
      change (bif decide (IntKind.i64.wrap (2 * ((cnt l n : Nat) : Int)) > (l.length : Int)) then _ else _) = _
      rw [wrapS (by omega) (by omega)]
      by_cases hv : l.length < 2 * cnt l n
      · rw [if_pos hv, bifT (dec_true (by omega))]
      · rw [if_neg hv, bifF (dec_false (by omega))]
    rw [loopL_cons, hb]
    simp only [Option.bind_some, votes]
    by_cases hv : l.length < 2 * cnt l n
    · rw [if_pos hv, if_pos hv]
    · rw [if_neg hv, if_neg hv]
      exact gvote_loop l h r (i + 1)

theorem gvote_eq (l : List Int) (h : l.length ≤ 1000) : gate_Vote_M l = some (if ckPos l = 0 then ((votes l l).1, (votes l l).2, ()) else (0, ckPos l, ())) := by
  have hmem : memMax = 68719476736 := rfl
  have hlm : l.length < lenMax := by unfold lenMax; omega
  unfold gate_Vote_M
  have hmap : (gate_mapped_int_api_Errno_M l fun (x : Int × Unit) => gate_Vote_1_M x.fst) = some (l.map (fun n => ckR n 0 1000), ()) := by
    unfold gate_mapped_int_api_Errno_M
    rw [bifT (dec_true hlm)]
    refine (loopL_app (fun n : Int => ckR n 0 1000) l 0 [] (by simp; omega) fun i e s he hs => ?_).trans ?_
    · unfold gate_mapped_int_api_Errno_b0
      show (Option.bind (some (gate_Vote_1 e)) _) = _
      unfold gate_Vote_1
      rw [within_eq]
      simp only [Option.bind_some]
      rw [bifT (dec_true hs)]
    · rw [List.nil_append]; rfl
  rw [hmap]
  simp only [Option.bind_some]
  rw [gfirst_eq _ (by rw [List.length_map]; exact hlm), firstE_pos]
  simp only [Option.bind_some, when_eq]
  rw [gfirst_eq _ (by simp [lenMax])]
  simp only [Option.bind_some, firstE_cons, firstE_nil, firstOf_zero]
  have hck : firstOf (bif decide ((l.length : Int) > 9) then 5 else 0) (posE l) = ckPos l := by
    unfold ckPos
    by_cases h9 : 9 < l.length
    · rw [dec_true (show (l.length : Int) > 9 by omega), if_pos h9]; rfl
    · rw [dec_false (show ¬ (l.length : Int) > 9 by omega), if_neg h9]; rfl
  rw [hck]
  by_cases h0 : ckPos l = 0
  · rw [if_pos h0, bifF (show (ckPos l != 0) = false by simpa using h0), bifT (dec_true hlm)]
    exact gvote_loop l h l 0
  · rw [if_neg h0, bifT (show (ckPos l != 0) = true by simpa using h0)]

theorem rcnt_loop (l : List Int) (i : Int) (n : Int) (hi : idx l i = some n) : ∀ (r : List Int) (k : Int) (c : Nat), c + r.length ≤ 1000 →
    loopL (fun i__ e__ s__ => ref06_Vote_b1 l i i__ e__ s__) (fun s__ => ref06_Vote_f1 l i s__) k r (c : Int) = ref06_Vote_f1 l i ((c + cnt r n : Nat) : Int)
  | [], k, c, _ => by rw [loopL_nil]; rfl
  | x :: r, k, c, hc => by
    simp only [List.length_cons] at hc
    have hb : ref06_Vote_b1 l i k x (c : Int) = some (.inr (if (x == n) = true then ((c + 1 : Nat) : Int) else (c : Int))) := by
      unfold ref06_Vote_b1
      rw [hi]
      simp only [Option.bind_some]
      rw [wrapS (by omega) (by omega)]
      cases (x == n) <;> simp
    rw [loopL_cons, hb]
    simp only [Option.bind_some]
    unfold cnt
    rw [List.filter_cons]
    cases hx : (x == n) with
    | true =>
      rw [if_pos rfl, if_pos rfl]
      rw [rcnt_loop l i n hi r (k + 1) (c + 1) (by omega)]
      unfold cnt
      rw [List.length_cons]
      congr 2
      omega
    | false =>
      rw [if_neg (by simp), if_neg (by simp)]
      exact rcnt_loop l i n hi r (k + 1) c (by omega)

theorem rvote_loop (l : List Int) (h : l.length ≤ 500) : ∀ (r done : List Int), l = done ++ r →
    loopN (fun i__ s__ => ref06_Vote_b0 l i__) (fun s__ => ref06_Vote_f0 l) r.length (done.length : Int) () = some ((votes l r).1, (votes l r).2, ())
  | [], done, _ => rfl
  | n :: r, done, hx => by
    have hc := cnt_le l n
    have hi : idx l (done.length : Int) = some n := by rw [idx_nat, hx]; simp
    have hb : ref06_Vote_b0 l (done.length : Int) = some (if l.length < 2 * cnt l n then .inl (n, 0, ()) else .inr ()) := by
      unfold ref06_Vote_b0
      have := rcnt_loop l (done.length : Int) n hi l 0 0 (by omega)
      rw [bifT (dec_true (show l.length < lenMax by unfold lenMax; omega))]
      refine (show _ = _ from this).trans ?_
      unfold ref06_Vote_f1
      rw [hi, Nat.zero_add, wrapS (by omega) (by omega)]
      by_cases hv : l.length < 2 * cnt l n
      · rw [if_pos hv, bifT (dec_true (by omega))]; rfl
      · rw [if_neg hv, bifF (dec_false (by omega))]
    rw [List.length_cons]
    unfold loopN
    rw [hb]
    simp only [Option.bind_some, votes]
    by_cases hv : l.length < 2 * cnt l n
    · rw [if_pos hv, if_pos hv]
    · rw [if_neg hv, if_neg hv]
      have ih := rvote_loop l h r (done ++ [n]) (by rw [hx]; simp)
      simp only [List.length_append, List.length_cons, List.length_nil] at ih
      exact ih

theorem rvote_eq (l : List Int) (h : l.length ≤ 500) : ref06_Vote_M l = some ((votes l l).1, (votes l l).2, ()) := by
  unfold ref06_Vote_M
  rw [bifT (dec_true (show (l.length : Int) ≤ 9223372036854775807 by omega)), show ((l.length : Int) - 0).toNat = l.length by omega]
  exact rvote_loop l h l [] rfl

/-! ### Failures -/
def stuckW : List UInt8 := [115, 116, 117, 99, 107]
def lostW : List UInt8 := [108, 111, 115, 116]
def noneW : List UInt8 := [110, 111, 110, 101]
def tick (i : Int) : List Fai := (lostW, i, 0, 0, ()) :: [(stuckW, i, 0, 0, ()), (stuckW, i, 0, 1, ()), (stuckW, i, 1, 0, ()), (stuckW, i, 1, 1, ()), (stuckW, i, 2, 0, ()), (stuckW, i, 2, 1, ()), (stuckW, i, 3, 0, ()), (stuckW, i, 3, 1, ())]
def ticks : Int → Nat → List Fai
  | _, 0 => []
  | i, m + 1 => tick i ++ ticks (i + 1) m
def fails (n : Nat) : List Fai := (noneW, 0, 0, 0, ()) :: ticks 0 n

theorem ticks_length : ∀ (m : Nat) (i : Int), (ticks i m).length = 9 * m
  | 0, i => rfl
  | m + 1, i => by
    unfold ticks
    rw [List.length_append, ticks_length m (i + 1)]
    show 9 + 9 * m = _
    omega

theorem rtick_body (xs : List Inp) (i : Int) (s : List Fai) (hs : s.length ≤ 1000000) : ref06_Failures_b0 xs i s = some (.inr (s ++ tick i)) := by
  have hmem : memMax = 68719476736 := rfl
  unfold ref06_Failures_b0
  rw [bifT (dec_true (show s.length + 1 ≤ memMax by omega)), bifT (by rfl)]
  show loopN _ _ 4 0 _ = _
  unfold loopN
  have hb (k : Int) (s : List Fai) (hs : s.length ≤ 1000100) : ref06_Failures_b1 xs i k s = some (.inr (s ++ [(stuckW, i, k, 0, ()), (stuckW, i, k, 1, ())])) := by
    unfold ref06_Failures_b1
    rw [bifT (dec_true (show s.length + 2 ≤ memMax by omega))]
    rfl
  rw [hb 0 _ (by simp; omega)]
  simp only [Option.bind_some]
  unfold loopN
  rw [hb _ _ (by simp; omega)]
  simp only [Option.bind_some]
  unfold loopN
  rw [hb _ _ (by simp; omega)]
  simp only [Option.bind_some]
  unfold loopN
  rw [hb _ _ (by simp; omega)]
  simp only [Option.bind_some]
  unfold loopN ref06_Failures_f1
  simp [tick, lostW]

theorem gtick_body (n i : Int) (s : List Fai) (hs : s.length ≤ 1000000) : gate_failures_b0 n i s = some (.inr (s ++ tick i)) := by
  have hmem : memMax = 68719476736 := rfl
  unfold gate_failures_b0
  rw [bifT (dec_true (show s.length + 1 ≤ memMax by omega)), bifT (by rfl)]
  show loopN _ _ 8 0 _ = _
  have hb (k : Int) (s : List Fai) (hs : s.length ≤ 1000100) : gate_failures_b1 i n i k s = some (.inr (s ++ [(stuckW, i, IntKind.i64.wrap (k.tdiv 2), k.tmod 2, ())])) := by
    unfold gate_failures_b1
    rw [bifT (dec_true (show s.length + 1 ≤ memMax by omega))]
    rfl
  unfold loopN
  rw [hb 0 _ (by simp; omega)]
  simp only [Option.bind_some]
  unfold loopN
  rw [hb _ _ (by simp; omega)]
  simp only [Option.bind_some]
  unfold loopN
  rw [hb _ _ (by simp; omega)]
  simp only [Option.bind_some]
  unfold loopN
  rw [hb _ _ (by simp; omega)]
  simp only [Option.bind_some]
  unfold loopN
  rw [hb _ _ (by simp; omega)]
  simp only [Option.bind_some]
  unfold loopN
  rw [hb _ _ (by simp; omega)]
  simp only [Option.bind_some]
  unfold loopN
  rw [hb _ _ (by simp; omega)]
  simp only [Option.bind_some]
  unfold loopN
  rw [hb _ _ (by simp; omega)]
  simp only [Option.bind_some]
  unfold loopN gate_failures_f1
  simp only [List.append_assoc, List.singleton_append, List.cons_append, List.nil_append]
  rfl

theorem rtick_loop (xs : List Inp) : ∀ (m : Nat) (i : Int) (s : List Fai), s.length + 9 * m ≤ 1000000 →
    loopN (fun i__ s__ => ref06_Failures_b0 xs i__ s__) (fun s__ => ref06_Failures_f0 xs s__) m i s = some (s ++ ticks i m, ())
  | 0, i, s, _ => by simp [loopN, ticks, ref06_Failures_f0]
  | m + 1, i, s, hs => by
    unfold loopN
    rw [rtick_body xs i s (by omega)]
    simp only [Option.bind_some]
    rw [rtick_loop xs m (i + 1) _ (by rw [List.length_append]; show s.length + 9 + 9 * m ≤ _; omega)]
    simp [ticks]

theorem gtick_loop (n : Int) : ∀ (m : Nat) (i : Int) (s : List Fai), s.length + 9 * m ≤ 1000000 →
    loopN (fun i__ s__ => gate_failures_b0 n i__ s__) (fun s__ => gate_failures_f0 n s__) m i s = some (s ++ ticks i m, ())
  | 0, i, s, _ => by simp [loopN, ticks, gate_failures_f0]
  | m + 1, i, s, hs => by
    unfold loopN
    rw [gtick_body n i s (by omega)]
    simp only [Option.bind_some]
    rw [gtick_loop n m (i + 1) _ (by rw [List.length_append]; show s.length + 9 + 9 * m ≤ _; omega)]
    simp [ticks]

theorem rfails_eq (l : List Inp) (h : l.length ≤ 1000) : ref06_Failures_M l = some (fails l.length, ()) := by
  unfold ref06_Failures_M
  rw [bifT (dec_true (show (l.length : Int) ≤ 9223372036854775807 by omega)), show ((l.length : Int) - 0).toNat = l.length by omega, rtick_loop l l.length 0 _ (by simp; omega)]
  rfl

theorem gfails_eq (n : Nat) (h : n ≤ 1000) : gate_failures_M (n : Int) = some (fails n, ()) := by
  unfold gate_failures_M
  rw [bifT (dec_true (show (n : Int) ≤ 9223372036854775807 by omega)), show ((n : Int) - 0).toNat = n by omega, gtick_loop n n 0 _ (by simp; omega)]
  rfl

/-! ### Scripts -/
def inE (x : Inp) : Int := firstOf (nmE x.1) (ckR x.2.1 0 15)
def insE : List Inp → Int
  | [] => 0
  | x :: l => firstOf (inE x) (insE l)
def ckScript (l : List Inp) : Int := if 64 < l.length then 5 else insE l

theorem rinput_eq (x : Inp) : ref06_CheckInput_M x = some (inE x, ()) := by
  unfold ref06_CheckInput_M ref06_CheckInput_m
  rw [rcheckName_eq]
  simp only [Option.bind_some, checkRange_eq]
  rw [rfirst_eq _ (by simp [lenMax])]
  simp only [Option.bind_some, firstE_cons, firstE_nil, firstOf_zero]
  rfl

theorem ginput_eq (x : Inp) (h : x.1.length < lenMax) : gate_Input_check_M x = some (inE x, ()) := by
  unfold gate_Input_check_M gate_Input_check_m
  rw [gcheckName_eq _ h]
  simp only [Option.bind_some, gate_checkConditions, within_eq]
  rw [gfirst_eq _ (by simp [lenMax])]
  simp only [Option.bind_some, firstE_cons, firstE_nil, firstOf_zero]
  rfl

theorem rscript_loop (xs : List Inp) : ∀ (l : List Inp) (i : Int), loopL (fun i__ e__ s__ => ref06_CheckScript_b0 xs i__ e__) (fun s__ => ref06_CheckScript_f0 xs) i l () = some (insE l, ())
  | [], i => rfl
  | x :: l, i => by
    have hb : ref06_CheckScript_b0 xs i x = some (bif inE x != 0 then .inl (inE x, ()) else .inr ()) := by
      unfold ref06_CheckScript_b0
      rw [rinput_eq]
      simp only [Option.bind_some]
      cases (inE x != 0) <;> rfl
    rw [loopL_seq hb, rscript_loop xs l (i + 1), seqE_some]
    rfl

theorem rscript_eq (l : List Inp) : ref06_CheckScript_M l = some (ckScript l, ()) := by
  unfold ref06_CheckScript_M ckScript
  by_cases h : 64 < l.length
  · rw [bifT (dec_true (show (l.length : Int) > 64 by omega)), if_pos h]
  · rw [bifF (dec_false (show ¬ (l.length : Int) > 64 by omega)), if_neg h, bifT (dec_true (show l.length < lenMax by unfold lenMax; omega))]
    exact rscript_loop l l 0

theorem firstE_ins : ∀ l : List Inp, firstE (l.map inE) = insE l
  | [] => rfl
  | x :: l => by rw [List.map_cons, firstE_cons, firstE_ins l]; rfl

theorem gscript_eq (l : List Inp) (h : l.length ≤ 1000) (hw : ∀ x ∈ l, x.1.length < lenMax) : gate_checkScript_M l = some (ckScript l, ()) := by
  have hmem : memMax = 68719476736 := rfl
  have hlm : l.length < lenMax := by unfold lenMax; omega
  unfold gate_checkScript_M gate_checkScript_m
  have hmap : (gate_mapped_gate_Input_api_Errno_M l fun (x : Inp × Unit) => gate_Input_check_M x.fst) = some (l.map inE, ()) := by
    unfold gate_mapped_gate_Input_api_Errno_M
    rw [bifT (dec_true hlm)]
    refine (loopL_app inE l 0 [] (by simp; omega) fun i e s he hs => ?_).trans ?_
    · unfold gate_mapped_gate_Input_api_Errno_b0
      simp only
      rw [show ((e.1, e.2.1, ()) : Inp) = e from rfl, ginput_eq e (hw e he)]
      simp only [Option.bind_some]
      rw [bifT (dec_true hs)]
    · rw [List.nil_append]; rfl
  rw [hmap]
  simp only [Option.bind_some]
  rw [gfirst_eq _ (by rw [List.length_map]; exact hlm), firstE_ins]
  simp only [Option.bind_some, when_eq]
  rw [gfirst_eq _ (by simp [lenMax])]
  simp only [Option.bind_some, firstE_cons, firstE_nil, firstOf_zero]
  unfold ckScript
  by_cases h9 : 64 < l.length
  · rw [dec_true (show (l.length : Int) > 64 by omega), if_pos h9]; rfl
  · rw [dec_false (show ¬ (l.length : Int) > 64 by omega), if_neg h9]; rfl

theorem script_eq (l : List Inp) (h : l.length ≤ memMax) : law06_script_M l = some (l, ()) := by
  have hmem : memMax = 68719476736 := rfl
  unfold law06_script_M
  rw [bifT (dec_true (show l.length < lenMax by unfold lenMax; omega))]
  refine (loopL_app (fun x : Inp => x) l 0 [] (by simpa using h) fun i e s he hs => ?_).trans ?_
  · unfold law06_script_b0
    rw [bifT (dec_true hs)]
  · rw [List.map_id', List.nil_append]; rfl

theorem failures_eq (l : List Fai) (h : l.length ≤ memMax) : law06_failures_M l = some (l, ()) := by
  have hmem : memMax = 68719476736 := rfl
  unfold law06_failures_M
  rw [bifT (dec_true (show l.length < lenMax by unfold lenMax; omega))]
  refine (loopL_app (fun x : Fai => x) l 0 [] (by simpa using h) fun i e s he hs => ?_).trans ?_
  · unfold law06_failures_b0
    rw [bifT (dec_true hs)]
  · rw [List.map_id', List.nil_append]; rfl

theorem ints_eq (l : List Int) (h : l.length ≤ memMax) : law06_ints_M l = some (l, ()) := by
  unfold law06_ints_M law06_ints_m
  rw [bifT (dec_true (by omega))]

theorem eqV_failure (x : Fai) : eqV (.pair .str (.pair (.int .i64) (.pair (.int .i64) (.pair (.int .i64) .unit)))) x x = true := by
  show ((x.1 : List UInt8) == x.1 && ((x.2.1 : Int) == x.2.1 && ((x.2.2.1 : Int) == x.2.2.1 && ((x.2.2.2.1 : Int) == x.2.2.2.1 && true)))) = true
  simp

theorem sameFailures_refl (l : List Fai) (h : l.length < lenMax) : ref06_SameFailures_M l l = some (true, ()) := by
  unfold ref06_SameFailures_M
  rw [bifF (show ((l.length : Int) != (l.length : Int)) = false by simp), bifT (dec_true h), loopL_same l (fun p x r e => by
    unfold ref06_SameFailures_b0
    rw [e, idx_mid p x r _ rfl]
    simp only [Option.bind_some]
    rw [eqV_failure]
    rfl) l [] 0 rfl rfl]
  rfl

theorem shortScript_eq (l : List Inp) (h : l.length < lenMax) : ∃ s, ref06_ShortScript_M l = some (s, ()) ∧ (s = true → l.length ≤ 65 ∧ ∀ c ∈ l, c.1.length ≤ 40) := by
  unfold ref06_ShortScript_M
  rw [bifT (dec_true h), loopL_find (fun c : Inp => if (decide ((c.1.length : Int) > 40)) = true then some (false, ()) else none) l 0 (fun i e _ => by
    unfold ref06_ShortScript_b0
    cases decide ((e.1.length : Int) > 40) <;> rfl)]
  cases hf : l.findSome? (fun c : Inp => if (decide ((c.1.length : Int) > 40)) = true then some (false, ()) else none) with
  | some y =>
    refine ⟨y.1, rfl, fun hy => ?_⟩
    obtain ⟨c, _, hc⟩ := List.exists_of_findSome?_eq_some hf
    split at hc
    · cases hc; cases hy
    · cases hc
  | none =>
    have hall : ∀ c ∈ l, c.1.length ≤ 40 := by
      intro c hc
      have := List.findSome?_eq_none_iff.1 hf c hc
      by_cases hd : ((c.1.length : Int) > 40)
      · rw [if_pos (dec_true hd)] at this; cases this
      · omega
    unfold ref06_ShortScript_f0
    by_cases h24 : (l.length : Int) ≤ 12
    · exact ⟨true, by rw [bifT (dec_true h24)], fun _ => ⟨by omega, hall⟩⟩
    · exact ⟨(l.length : Int) == 65, by rw [bifF (dec_false h24)], fun hs => ⟨by have := of_decide_eq_true hs; omega, hall⟩⟩

/-- **GateVotes**: for every input the law answers true. -/
theorem gateVotes_law (l : List Int) (s : List Inp) (hs : s.length < lenMax) : law06_GateVotes_M l s = some (true, ()) := by
  have hmem : memMax = 68719476736 := rfl
  have aw : (law06_awake_M.bind fun (v6 : Bool × Unit) => some (v6.1, ())) = some (true, ()) := by rw [awake_true]; rfl
  unfold law06_GateVotes_M law06_GateVotes_m
  obtain ⟨b, hb, hb2⟩ := shortScript_eq s hs
  rw [hb]
  conv => lhs; arg 1; rw [awake_true]
  rw [Option.bind_some, bifF (show (!(true, ()).1) = false from rfl)]
  by_cases h20 : 20 < l.length
  · rw [bifT (dec_true (by omega))]
    exact aw
  rw [bifF (dec_false (by omega)), Option.bind_some]
  cases b with
  | false => exact aw
  | true =>
    obtain ⟨h65, h40⟩ := hb2 rfl
    have hw : ∀ c ∈ s, c.1.length < lenMax := fun c hc => by have := h40 c hc; unfold lenMax; omega
    rw [bifF (show (!(true, ()).1) = false from rfl), ints_eq l (by omega), script_eq s (by omega)]
    simp only [Option.bind_some]
    rw [gvote_eq l (by omega)]
    unfold gate_Failures_M gate_Failures_m
    rw [gscript_eq s (by omega) hw]
    simp only [Option.bind_some]
    rw [rpos_eq, rscript_eq]
    simp only [Option.bind_some]
    have hfl : (fails s.length).length < 1000 := by unfold fails; rw [List.length_cons, ticks_length]; omega
    have fin : ∀ (v e : Int) (f : List Fai), f.length < 1000 → (e ≠ 0 → v = 0) → law06_GateVotes_m_j27 0 (v, e, ()) (f, ckScript s, ()) (ckScript s, ()) e v f = some (true, ()) := by
      intro v e f hf h1
      unfold law06_GateVotes_m_j27
      simp only
      rw [number_ok v e v h1 (fun _ => rfl), failures_eq f (by omega)]
      simp only [cond_true, Option.bind_some]
      rw [sameFailures_refl f (by unfold lenMax; omega)]
      simp only [Option.bind_some, cond_true]
      rw [beq_self_eq_true]
    have two : ∀ (v e : Int), (e ≠ 0 → v = 0) → (Option.bind (bif ckScript s != 0 then some (([] : List Fai), ckScript s, ()) else (gate_failures_M (s.length : Int)).bind fun (v1 : List Fai × Unit) => some (v1.1, (0 : Int), ())) fun (v12 : List Fai × Int × Unit) => law06_GateVotes_m_j28 0 s (v, e, ()) v12 (ckScript s, ()) e v) = some (true, ()) := by
      intro v e h1
      by_cases h0 : ckScript s = 0
      · rw [bifF (show (ckScript s != 0) = false by simpa using h0), gfails_eq s.length (by omega)]
        simp only [Option.bind_some]
        unfold law06_GateVotes_m_j28
        rw [bifT (show (ckScript s == 0) = true by simpa using h0), rfails_eq s (by omega)]
        simp only [Option.bind_some]
        have := fin v e (fails s.length) hfl h1
        rw [h0] at this ⊢
        exact this
      · rw [bifT (show (ckScript s != 0) = true by simpa using h0)]
        simp only [Option.bind_some]
        unfold law06_GateVotes_m_j28
        rw [bifF (show (ckScript s == 0) = false by simpa using h0)]
        exact fin v e [] (by simp) h1
    by_cases h0 : ckPos l = 0
    · rw [if_pos h0]
      simp only [show (ckPos l == 0) = true by simpa using h0, cond_true, rvote_eq l (show l.length ≤ 500 by omega), Option.bind_some]
      refine two (votes l l).1 (votes l l).2 ?_
      have : ∀ r, (votes l r).2 ≠ 0 → (votes l r).1 = 0 := by
        intro r
        induction r with
        | nil => intro _; rfl
        | cons n r ih =>
          unfold votes
          split
          · intro h; exact absurd rfl h
          · exact ih
      exact this l
    · rw [if_neg h0]
      simp only [show (ckPos l == 0) = false by simpa using h0, cond_false]
      exact two 0 (ckPos l) (fun _ => rfl)
end Go.Tw
end
