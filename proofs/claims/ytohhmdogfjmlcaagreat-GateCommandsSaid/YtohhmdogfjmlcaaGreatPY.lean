/- PA: the program returns the results of the document's examples.
P6: the law of the commands. -/
import Derived.Test.YtohhmdogfjmlcaaGreatPX
import Derived.Test.YtohhmdogfjmlcaaGreatBC
import Derived.Test.YtohhmdogfjmlcaaGreatB13

section
set_option linter.all false
set_option maxRecDepth 100000
namespace Go.Tw
open Go.Vx Go.Vx.B Go.Proofs

theorem awake_true : law06_awake_M = some (true, ()) := by kernel_rfl
end Go.Tw
end

section
set_option linter.all false
set_option maxRecDepth 100000
namespace Go.Tw
open Go.Vx Go.Vx.B Go.Proofs

theorem commands_loop (xs : List Cmd) : ∀ (l : List Cmd) (i : Int) (s : List Cmd), s.length + l.length ≤ memMax →
    loopL (fun i__ e__ s__ => law06_commands_b0 xs i__ e__ s__) (fun s__ => law06_commands_f0 xs s__) i l s = some (s ++ l, ()) := by
  intro l i s hs
  refine (loopL_app (fun x : Cmd => x) l i s hs fun i e s he hs => ?_).trans ?_
  · unfold law06_commands_b0
    rw [bifT (dec_true hs)]
  · rw [List.map_id']; rfl

theorem commands_eq (l : List Cmd) (h : l.length ≤ memMax) : law06_commands_M l = some (l, ()) := by
  have hmem : memMax = 68719476736 := rfl
  unfold law06_commands_M
  rw [bifT (dec_true (show l.length < lenMax by unfold lenMax; omega)), commands_loop l l 0 [] (by simpa using h)]
  rfl

theorem shortCmds_eq (l : List Cmd) (h : l.length < lenMax) : ∃ s, ref06_ShortCommands_M l = some (s, ()) ∧ (s = true → l.length ≤ 257 ∧ ∀ c ∈ l, c.2.2.1.length ≤ 40) := by
  unfold ref06_ShortCommands_M
  rw [bifT (dec_true h), loopL_find (fun c : Cmd => if (decide ((c.2.2.1.length : Int) > 40)) = true then some (false, ()) else none) l 0 (fun i e _ => by
    unfold ref06_ShortCommands_b0
    cases decide ((e.2.2.1.length : Int) > 40) <;> rfl)]
  cases hf : l.findSome? (fun c : Cmd => if (decide ((c.2.2.1.length : Int) > 40)) = true then some (false, ()) else none) with
  | some y =>
    refine ⟨y.1, rfl, fun hy => ?_⟩
    obtain ⟨c, _, hc⟩ := List.exists_of_findSome?_eq_some hf
    split at hc
    · cases hc; cases hy
    · cases hc
  | none =>
    have hall : ∀ c ∈ l, c.2.2.1.length ≤ 40 := by
      intro c hc
      have := List.findSome?_eq_none_iff.1 hf c hc
      by_cases hd : ((c.2.2.1.length : Int) > 40)
      · rw [if_pos (dec_true hd)] at this; cases this
      · omega
    unfold ref06_ShortCommands_f0
    by_cases h24 : (l.length : Int) ≤ 24
    · exact ⟨true, by rw [bifT (dec_true h24)], fun _ => ⟨by omega, hall⟩⟩
    · exact ⟨(l.length : Int) == 257, by rw [bifF (dec_false h24)], fun hs => ⟨by have := of_decide_eq_true hs; omega, hall⟩⟩

theorem lfirst_eq (l : List Int) (h : l.length < lenMax) : law06_first_M l = some (firstE l, ()) := by
  unfold law06_first_M law06_first_m
  rw [rfirst_eq l h]
  rfl

theorem number_ok (have_ bad want : Int) (h1 : bad ≠ 0 → have_ = 0) (h2 : bad = 0 → have_ = want) : law06_number have_ bad bad want = (true, ()) := by
  unfold law06_number
  by_cases hb : bad = 0
  · rw [bifF (show (bad != 0) = false by simpa using hb), bifT (show (bad == 0) = true by simpa using hb), h2 hb, beq_self_eq_true]
  · rw [bifT (show (bad != 0) = true by simpa using hb), bifT (show (have_ == 0) = true by simpa using h1 hb), beq_self_eq_true]

theorem listed_ok (have_ : List Int) (bad : Int) (want : List Int) (hl : have_.length < lenMax) (h1 : bad ≠ 0 → have_ = []) (h2 : bad = 0 → have_ = want) : law06_listed_M have_ bad bad want = some (true, ()) := by
  unfold law06_listed_M law06_listed_m
  by_cases hb : bad = 0
  · rw [bifF (show (bad != 0) = false by simpa using hb), bifT (show (bad == 0) = true by simpa using hb), ← h2 hb, sameInts_refl have_ hl]
    rfl
  · rw [bifT (show (bad != 0) = true by simpa using hb), bifT (show ((have_.length : Int) == 0) = true by simp [h1 hb]), beq_self_eq_true]

/-- **GateCommands**: for every input the law answers true. -/
theorem gateCommands_law (l : List Cmd) (last : Int) (hl : l.length < lenMax) : law06_GateCommands_M l last = some (true, ()) := by
  have hmem : memMax = 68719476736 := rfl
  have aw : (law06_awake_M.bind fun (v6 : Bool × Unit) => some (v6.1, ())) = some (true, ()) := by rw [awake_true]; rfl
  unfold law06_GateCommands_M law06_GateCommands_m
  obtain ⟨s, hs, hs2⟩ := shortCmds_eq l hl
  rw [hs]
  conv => lhs; arg 1; rw [awake_true]
  rw [Option.bind_some, bifF (show (!(true, ()).1) = false from rfl), Option.bind_some]
  cases s with
  | false => exact aw
  | true =>
    obtain ⟨h257, h40⟩ := hs2 rfl
    have hw : ∀ c ∈ l, c.2.2.1.length < lenMax := fun c hc => by have := h40 c hc; unfold lenMax; omega
    rw [bifF (show (!(true, ()).1) = false from rfl), commands_eq l (by omega)]
    simp only [Option.bind_some]
    rw [rcmds_eq]
    simp only [Option.bind_some, checkRange_eq]
    rw [lfirst_eq _ (by simp [lenMax])]
    simp only [firstE_cons, firstE_nil, firstOf_zero]
    rw [glost_eq l last hw]
    have fin : ∀ (w : List (List UInt8)) (n : Int) (x : List Int) (two : Int), w.length < lenMax → x.length < lenMax → (ckCmds l ≠ 0 → w = [] ∧ n = 0) → (two ≠ 0 → x = []) →
        law06_GateCommands_m_j24 0 (w, n, ckCmds l, ()) (x, two, ()) (ckCmds l, ()) (two, ()) w n x = some (true, ()) := by
      intro w n x two hw hx h1 h2
      unfold law06_GateCommands_m_j24
      simp only
      rw [sameWords_refl w hw]
      simp only [Option.bind_some, cond_true]
      rw [number_ok n (ckCmds l) n (fun h => (h1 h).2) (fun _ => rfl)]
      simp only [cond_true]
      rw [listed_ok x two x hx h2 (fun _ => rfl)]
      rfl
    have hll : (lostL l 0 last.toNat).length ≤ last.toNat := lostL_length l _ _
    have two (w : List (List UInt8)) (n : Int) (hwl : w.length < lenMax) (h1 : ckCmds l ≠ 0 → w = [] ∧ n = 0) :
        law06_GateCommands_m_j25 0 l last (w, n, ckCmds l, ()) (if firstOf (ckCmds l) (ckR last 0 256) = 0 then (lostL l 0 last.toNat, 0, ()) else ([], firstOf (ckCmds l) (ckR last 0 256), ())) (ckCmds l, ()) (firstOf (ckCmds l) (ckR last 0 256), ()) w n = some (true, ()) := by
      unfold law06_GateCommands_m_j25
      by_cases h0 : firstOf (ckCmds l) (ckR last 0 256) = 0
      · have hr : 0 ≤ last ∧ last ≤ 256 := by
          unfold firstOf at h0
          by_cases hc : ckCmds l = 0
          · rw [hc] at h0
            have : ckR last 0 256 = 0 := by simpa using h0
            unfold ckR at this
            split at this
            · cases this
            · omega
          · rw [if_pos (by simpa using hc)] at h0; exact absurd h0 hc
        rw [if_pos h0, bifT (show (firstOf (ckCmds l) (ckR last 0 256) == 0) = true by simpa using h0), rlost_eq l last hl hr.2, h0]
        simp only [Option.bind_some]
        exact fin w n _ 0 hwl (by unfold lenMax; omega) h1 (fun h => absurd rfl h)
      · rw [if_neg h0, bifF (show (firstOf (ckCmds l) (ckR last 0 256) == 0) = false by simpa using h0)]
        exact fin w n [] _ hwl (by simp [lenMax]) h1 (fun _ => rfl)
    rcases exec_eq l hw with ⟨h0, he⟩ | ⟨h0, h256, n, ha, hr, hg⟩
    · rw [he]
      simp only [Option.bind_some]
      rw [bifF (show (ckCmds l == 0) = false by simpa using h0)]
      exact two [] 0 (by simp [lenMax]) (fun _ => ⟨rfl, rfl⟩)
    · rw [hg, hr]
      simp only [Option.bind_some]
      rw [bifT (show (ckCmds l == 0) = true by simpa using h0)]
      have := two (evs l n) ((n : Int) + 1) (by rw [evs_length]; have := ha.1; unfold lenMax; omega) (fun h => absurd h0 h)
      rw [h0] at this ⊢
      exact this
end Go.Tw
end
