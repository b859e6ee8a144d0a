import Derived.Test.YtohhmdogfjmlcaaGreatPX
import Derived.Test.YtohhmdogfjmlcaaGreatBC
import Derived.Test.YtohhmdogfjmlcaaGreatB13
section
set_option linter.all false
set_option maxRecDepth 100000
namespace Go.Tw
open Go.Vx Go.Vx.B Go.Proofs
theorem awake_true : z0M_M = some (true, ()) := by kernel_rfl
end Go.Tw
end
section
set_option linter.all false
set_option maxRecDepth 100000
namespace Go.Tw
open Go.Vx Go.Vx.B Go.Proofs
theorem shortCmds_eq (l : List Cmd) (h : l.length < lenMax) : ∃ s, zY_M l = some (s, ()) ∧ (s = true → l.length ≤ 257 ∧ ∀ c ∈ l, c.2.2.1.length ≤ 40) := by
  unfold zY_M
  rw [bifT (dec_true h), loopL_find (fun c : Cmd => if (decide ((c.2.2.1.length : Int) > 40)) = true then some (false, ()) else none) l 0 (fun i e _ => by
    unfold zY_b0
    cases decide ((e.2.2.1.length : Int) > 40) <;> rfl)]
  cases hf : l.findSome? (fun c : Cmd => if (decide ((c.2.2.1.length : Int) > 40)) = true then some (false, ()) else none) with
  | some y =>
    refine ⟨y.1, rfl, fun hy => ?_⟩
    obtain ⟨c, _, hc⟩ := List.exists_of_findSome?_eq_some hf
    split at hc
    · cases hc; cases hy
    · cases hc
  | none =>
    have hall : ∀ c ∈ l, c.2.2.1.length ≤ 40 := by
      intro c hc
      have := List.findSome?_eq_none_iff.1 hf c hc
      by_cases hd : ((c.2.2.1.length : Int) > 40)
      · rw [if_pos (dec_true hd)] at this; cases this
      · omega
    unfold zY_f0
    by_cases h24 : (l.length : Int) ≤ 24
    · exact ⟨true, by rw [bifT (dec_true h24)], fun _ => ⟨by omega, hall⟩⟩
    · exact ⟨(l.length : Int) == 257, by rw [bifF (dec_false h24)], fun hs => ⟨by have := of_decide_eq_true hs; omega, hall⟩⟩
end Go.Tw
end
section
set_option linter.all false
set_option maxRecDepth 100000
namespace Go.Tw
open Go.Vx Go.Vx.B Go.Proofs
def posE : List Int → Int
  | [] => 0
  | n :: l => firstOf (ckR n 0 1000) (posE l)
def ckPos (l : List Int) : Int := if 9 < l.length then 5 else posE l
theorem rpos_loop (xs : List Int) : ∀ (l : List Int) (i : Int), loopL (fun i__ e__ s__ => zS_b0 xs i__ e__) (fun s__ => zS_f0 xs) i l () = some (posE l, ())
  | [], i => rfl
  | n :: l, i => by
    have hb : zS_b0 xs i n = some (bif ckR n 0 1000 != 0 then .inl (ckR n 0 1000, ()) else .inr ()) := by
      unfold zS_b0
      rw [checkRange_eq]
      simp only
      unfold ckR
      split <;> rfl
    rw [loopL_seq hb, rpos_loop xs l (i + 1), seqE_some]
    rfl
theorem rpos_eq (l : List Int) : zS_M l = some (ckPos l, ()) := by
  unfold zS_M ckPos
  by_cases h : 9 < l.length
  · rw [bifT (dec_true (show (l.length : Int) > 9 by omega)), if_pos h]
  · rw [bifF (dec_false (show ¬ (l.length : Int) > 9 by omega)), if_neg h, bifT (dec_true (show l.length < lenMax by unfold lenMax; omega))]
    exact rpos_loop l l 0
theorem firstE_pos : ∀ l : List Int, firstE (l.map fun n => ckR n 0 1000) = posE l
  | [] => rfl
  | n :: l => by rw [List.map_cons, firstE_cons, firstE_pos l]; rfl
def cnt (l : List Int) (n : Int) : Nat := (l.filter (fun x => x == n)).length
def votes (l : List Int) : List Int → Int × Int
  | [] => (0, 7)
  | n :: r => if l.length < 2 * cnt l n then (n, 0) else votes l r
theorem cnt_le (l : List Int) (n : Int) : cnt l n ≤ l.length := List.length_filter_le ..
theorem kept_eq (l : List Int) (n : Int) (h : l.length ≤ 1000) : (z04_M l fun (x : Int × Unit) => z0J_M x.fst n) = some (l.filter (fun x => x == n), ()) := by
  have hmem : memMax = 68719476736 := rfl
  unfold z04_M
  rw [bifT (dec_true (show l.length < lenMax by unfold lenMax; omega))]
  refine (loopL_filter (fun x : Int => x == n) l 0 [] (by simp; omega) fun i t xs ht hs => ?_).trans ?_
  · unfold z04_b0
    show (Option.bind (some (t == n, ())) _) = _
    simp only [Option.bind_some]
    cases (t == n) with
    | true => rw [cond_true, bifT (dec_true hs)]; rfl
    | false => rfl
  · rw [List.nil_append]; rfl
theorem gvote_loop (l : List Int) (h : l.length ≤ 1000) : ∀ (r : List Int) (i : Int), loopL (fun i__ e__ s__ => z0Z_b3 l l i__ e__) (fun s__ => z0Z_f3 l l) i r () = some ((votes l r).1, (votes l r).2, ())
  | [], i => rfl
  | n :: r, i => by
    have hc := cnt_le l n
    have hb : z0Z_b3 l l i n = some (if l.length < 2 * cnt l n then .inl (n, 0, ()) else .inr ()) := by
      unfold z0Z_b3
      rw [kept_eq l n h]
      simp only [Option.bind_some]
      change (bif decide (IntKind.i64.wrap (2 * ((cnt l n : Nat) : Int)) > (l.length : Int)) then _ else _) = _
      rw [wrapS (by omega) (by omega)]
      by_cases hv : l.length < 2 * cnt l n
      · rw [if_pos hv, bifT (dec_true (by omega))]
      · rw [if_neg hv, bifF (dec_false (by omega))]
    rw [loopL_cons, hb]
    simp only [Option.bind_some, votes]
    by_cases hv : l.length < 2 * cnt l n
    · rw [if_pos hv, if_pos hv]
    · rw [if_neg hv, if_neg hv]
      exact gvote_loop l h r (i + 1)
theorem gvote_eq (l : List Int) (h : l.length ≤ 1000) : z0Z_M l = some (if ckPos l = 0 then ((votes l l).1, (votes l l).2, ()) else (0, ckPos l, ())) := by
  have hmem : memMax = 68719476736 := rfl
  have hlm : l.length < lenMax := by unfold lenMax; omega
  unfold z0Z_M
  have hmap : (zF_M l fun (x : Int × Unit) => z0I_M x.fst) = some (l.map (fun n => ckR n 0 1000), ()) := by
    unfold zF_M
    rw [bifT (dec_true hlm)]
    refine (loopL_app (fun n : Int => ckR n 0 1000) l 0 [] (by simp; omega) fun i e s he hs => ?_).trans ?_
    · unfold zF_b0
      show (Option.bind (some (z0I e)) _) = _
      unfold z0I
      rw [within_eq]
      simp only [Option.bind_some]
      rw [bifT (dec_true hs)]
    · rw [List.nil_append]; rfl
  rw [hmap]
  simp only [Option.bind_some]
  rw [gfirst_eq _ (by rw [List.length_map]; exact hlm), firstE_pos]
  simp only [Option.bind_some, when_eq]
  rw [gfirst_eq _ (by simp [lenMax])]
  simp only [Option.bind_some, firstE_cons, firstE_nil, firstOf_zero]
  have hck : firstOf (bif decide ((l.length : Int) > 9) then 5 else 0) (posE l) = ckPos l := by
    unfold ckPos
    by_cases h9 : 9 < l.length
    · rw [dec_true (show (l.length : Int) > 9 by omega), if_pos h9]; rfl
    · rw [dec_false (show ¬ (l.length : Int) > 9 by omega), if_neg h9]; rfl
  rw [hck]
  by_cases h0 : ckPos l = 0
  · rw [if_pos h0, bifF (show (ckPos l != 0) = false by simpa using h0), bifT (dec_true hlm)]
    exact gvote_loop l h l 0
  · rw [if_neg h0, bifT (show (ckPos l != 0) = true by simpa using h0)]
def stuckW : List UInt8 := [115, 116, 117, 99, 107]
def lostW : List UInt8 := [108, 111, 115, 116]
def tick (i : Int) : List Fai := (lostW, i, 0, 0, ()) :: [(stuckW, i, 0, 0, ()), (stuckW, i, 0, 1, ()), (stuckW, i, 1, 0, ()), (stuckW, i, 1, 1, ()), (stuckW, i, 2, 0, ()), (stuckW, i, 2, 1, ()), (stuckW, i, 3, 0, ()), (stuckW, i, 3, 1, ())]
def ticks : Int → Nat → List Fai
  | _, 0 => []
  | i, m + 1 => tick i ++ ticks (i + 1) m
theorem ints_eq (l : List Int) (h : l.length ≤ memMax) : z0U_M l = some (l, ()) := by
  unfold z0U_M z0U_m
  rw [bifT (dec_true (by omega))]
end Go.Tw
end
