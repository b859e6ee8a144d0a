/- P8: until a level is reached: the program is the reference; the law. -/
import Derived.Test.YtkfigfhjbejikaaGreatDoorP7
set_option linter.all false
set_option maxRecDepth 100000
namespace Go.Tw
open Go.Vx Go.Vx.B Go.Proofs

/-! ### Levels -/
def lvls : List Int → List Nod → List Int
  | x :: v, n :: l => wr (x.tdiv n.2.1) :: lvls v l
  | _, _ => []

theorem lvls_get : ∀ (v : List Int) (l : List Nod) (i : Nat) (x : Int) (n : Nod), v[i]? = some x → l[i]? = some n → (lvls v l)[i]? = some (wr (x.tdiv n.2.1))
  | y :: v, m :: l, 0, x, n, hx, hn => by simp at hx hn; subst hx hn; rfl
  | y :: v, m :: l, i + 1, x, n, hx, hn => by simpa [lvls] using lvls_get v l i x n (by simpa using hx) (by simpa using hn)
  | [], _, i, x, n, hx, _ => by simp at hx
  | _ :: _, [], i, x, n, _, hn => by simp at hn

theorem lvls_length : ∀ (v : List Int) (l : List Nod), v.length = l.length → (lvls v l).length = v.length
  | [], [], _ => rfl
  | x :: v, n :: l, h => by simp [lvls, lvls_length v l (by simpa using h)]
  | [], _ :: _, h => by simp at h
  | _ :: _, [], h => by simp at h

theorem rlevels_loop (b : Bas) (v0 : List Int) : ∀ (v : List Int) (l pn : List Nod) (i : Int) (s : List Int), b.1 = pn ++ l → i = (pn.length : Int) → v.length = l.length → (∀ n ∈ b.1, n.2.1 ≠ 0) → s.length + v.length ≤ memMax →
    loopL (fun i__ e__ s__ => ref04_Levels_b0 v0 b i__ e__ s__) (fun s__ => ref04_Levels_f0 v0 b s__) i v s = some (s ++ lvls v l, ())
  | [], [], pn, i, s, _, _, _, _, _ => by rw [loopL_nil]; simp [ref04_Levels_f0, lvls]
  | x :: v, n :: l, pn, i, s, hb, hi, hl, hn, hs => by
    simp only [List.length_cons] at hs
    have hbody : ref04_Levels_b0 v0 b i x s = some (.inr (s ++ [wr (x.tdiv n.2.1)])) := by
      unfold ref04_Levels_b0
      rw [hb, idx_mid pn n l i hi]
      simp only [Option.bind_some]
      rw [bifF (beq_eq_false_iff_ne.2 (hn n (by rw [hb]; simp))), bifT (dec_true (show s.length + 1 ≤ memMax by omega))]
    rw [loopL_cons, hbody]
    simp only [Option.bind_some]
    rw [rlevels_loop b v0 v l (pn ++ [n]) (i + 1) (s ++ [wr (x.tdiv n.2.1)]) (by rw [hb]; simp) (by simp [hi]) (by simpa using hl) hn (by simp; omega)]
    simp [lvls]
  | [], _ :: _, _, _, _, _, _, h, _, _ => by simp at h
  | _ :: _, [], _, _, _, _, _, h, _, _ => by simp at h

theorem rlevels_eq (b : Bas) (hb : BasOK b) (v : List Int) (hv : v.length = b.1.length) : ref04_Levels_M b v = some (lvls v b.1, ()) := by
  have h8 := hb.nodes
  have hmem : memMax = 68719476736 := rfl
  unfold ref04_Levels_M
  rw [bifT (dec_true (show v.length < lenMax by unfold lenMax; omega)), rlevels_loop b v v b.1 [] 0 [] rfl rfl hv (fun n hn => by have := (hb.area n hn).1; omega) (by simp; omega)]
  rfl

/-! ### Until -/
theorem until_loop (b : Bas) (hb : BasOK b) (c : Cnd) (hc : c.2.2.1.length = b.1.length) (node level : Int) (h0 : 0 ≤ node) (h1 : node < b.1.length) : ∀ (m : Nat) (i : Int) (v : List Int), v.length = b.1.length →
    ∃ y, loopN (fun i__ s__ => ref04_Until_b0 node level b c i__ s__) (fun s__ => ref04_Until_f0 node level b c s__) m i v = some y ∧ loopN (fun i__ s__ => basin_Until_b18 node level b c i__ s__) (fun s__ => basin_Until_f18 node level b c s__) m i v = some y
  | 0, i, v, hv => ⟨_, rfl, rfl⟩
  | m + 1, i, v, hv => by
    obtain ⟨e1, e2⟩ := idx_getD (out := v) h0 (by rw [hv]; exact h1)
    have hnl : node.toNat < b.1.length := by omega
    have hg : b.1[node.toNat]? = some b.1[node.toNat] := List.getElem?_eq_getElem hnl
    have e3 : idx b.1 node = some b.1[node.toNat] := by unfold idx; rw [if_pos h0]; exact hg
    have e4 : idx (lvls v b.1) node = some (wr ((v.getD node.toNat 0).tdiv b.1[node.toNat].2.1)) := by
      unfold idx; rw [if_pos h0]; exact lvls_get v b.1 _ _ _ e2 hg
    have ha : b.1[node.toNat].2.1 ≠ 0 := by have := (hb.area _ (List.getElem_mem hnl)).1; omega
    have e5 : basin_Node_level_M b.1[node.toNat] (v.getD node.toNat 0) = some (wr ((v.getD node.toNat 0).tdiv b.1[node.toNat].2.1), ()) := by
      unfold basin_Node_level_M basin_Node_level_m
      rw [bifF (beq_eq_false_iff_ne.2 ha)]
    have hR : ref04_Until_b0 node level b c i v = (bif decide (wr ((v.getD node.toNat 0).tdiv b.1[node.toNat].2.1) ≥ level) then some (Sum.inl (i, 0, ())) else bif i == 96 then some (Sum.inl (0, 7, ())) else (ref04_Moved_M b v c).bind fun v3 => bif v3.2.2.1 != 0 then some (Sum.inl (0, v3.2.2.1, ())) else some (Sum.inr v3.2.1)) := by
      unfold ref04_Until_b0
      rw [rlevels_eq b hb v hv]
      simp only [Option.bind_some]
      rw [e4]
      rfl
    have hP : basin_Until_b18 node level b c i v = (bif decide (wr ((v.getD node.toNat 0).tdiv b.1[node.toNat].2.1) ≥ level) then some (Sum.inl (i, 0, ())) else bif i == 96 then some (Sum.inl (0, 7, ())) else (basin_Basin_step_M b v c).bind fun v22 => bif !v22.2.2.1 then some (Sum.inl (0, 4, ())) else some (Sum.inr (v22.2.1.getD []))) := by
      unfold basin_Until_b18
      rw [e3, e1]
      simp only [Option.bind_some]
      rw [e5]
      rfl
    unfold loopN
    rw [hR, hP]
    clear hR hP e4 e5
    generalize wr ((v.getD node.toNat 0).tdiv b.1[node.toNat].2.1) = lv
    cases decide (lv ≥ level) with
    | true => exact ⟨_, rfl, rfl⟩
    | false =>
      simp only [cond_false]
      cases (i == 96) with
      | true => exact ⟨_, rfl, rfl⟩
      | false =>
        simp only [cond_false]
        obtain ⟨fs, out, ⟨s1, s2, s3, _⟩ | ⟨s1, s2⟩⟩ := step_same b hb v c hv hc
        · rw [s1, s2]
          simp only [Option.bind_some]
          exact until_loop b hb c hc node level h0 h1 m (i + 1) out s3
        · rw [s1, s2]
          exact ⟨_, rfl, rfl⟩

theorem until_same (b : Bas) (hb : BasOK b) (v : List Int) (hv : v.length = b.1.length) (c : Cnd) (hc : c.2.2.1.length = b.1.length) (node level : Int) (h0 : 0 ≤ node) (h1 : node < b.1.length) :
    ∃ y, ref04_Until_M b v c node level = some y ∧ basin_Until_s23 b v c node level = some y := by
  obtain ⟨y, h1, h2⟩ := until_loop b hb c hc node level h0 h1 97 0 v hv
  exact ⟨y, h1, h2⟩

/-! ### The errors of the arguments -/
def ckU (b : Bas) (v : List Int) (c : Cnd) (node level : Int) : Int :=
  firstOf (ckCV b v) (firstOf (ckCond b c) (firstOf (bif decide (node < 0 ∨ (b.1.length : Int) ≤ node) then 10 else 0) (ckR level 0 1024)))

theorem rU_eq (b : Bas) (v : List Int) (c : Cnd) (node level : Int) (hv : v.length < lenMax) (hc : c.2.2.1.length < lenMax) : ref04_CheckUntil_M b v c node level = some (ckU b v c node level, ()) := by
  unfold ref04_CheckUntil_M ref04_CheckUntil_m ckU firstOf
  rw [rcv_eq b v hv]
  simp only [Option.bind_some]
  cases (ckCV b v != 0) with
  | true => rfl
  | false =>
    simp only [cond_false]
    rw [if_neg (by simp), rcond_eq b c hc]
    simp only [Option.bind_some]
    cases (ckCond b c != 0) with
    | true => rfl
    | false =>
      simp only [cond_false, checkRange_eq]
      rw [if_neg (by simp)]
      by_cases h0 : node < 0
      · rw [bifT (dec_true h0), dec_true (.inl h0)]; rfl
      · rw [bifF (dec_false h0)]
        by_cases h1 : (b.1.length : Int) ≤ node
        · rw [bifT (dec_true (show node ≥ (b.1.length : Int) from h1)), dec_true (.inr h1)]; rfl
        · rw [bifF (dec_false (show ¬ node ≥ (b.1.length : Int) from h1)), dec_false (by omega)]; rfl

theorem bU_eq (b : Bas) (v : List Int) (c : Cnd) (node level : Int) (hn : ∀ n ∈ b.1, n.1.length < lenMax) (hv : v.length ≤ memMax) (hc : c.2.2.1.length ≤ memMax) :
    basin_Until_M b v c node level = bif ckU b v c node level != 0 then some (0, ckU b v c node level, ()) else basin_Until_s23 b v c node level := by
  unfold basin_Until_M ckU
  rw [bcv_eq b v hn hv, bcond_eq b c hc]
  simp only [Option.bind_some, when_eq, within_eq]
  have fin : ∀ d : Bool, ((basin_first_M [ckCV b v, ckCond b c, bif d then 10 else 0, ckR level 0 1024]).bind fun v2 => bif v2.1 != 0 then some ((0 : Int), v2.1, ()) else basin_Until_s23 b v c node level) =
      bif firstOf (ckCV b v) (firstOf (ckCond b c) (firstOf (bif d then 10 else 0) (ckR level 0 1024))) != 0 then some (0, firstOf (ckCV b v) (firstOf (ckCond b c) (firstOf (bif d then 10 else 0) (ckR level 0 1024))), ()) else basin_Until_s23 b v c node level := fun d => by
    rw [bfirst_eq _ (small4 _ _ _ _)]
    simp only [Option.bind_some, firstE_cons, firstE_nil, firstOf_zero]
  by_cases h0 : node < 0
  · rw [bifT (dec_true h0), dec_true (show node < 0 ∨ (b.1.length : Int) ≤ node from .inl h0)]
    exact fin true
  · rw [bifF (dec_false h0)]
    have e : decide (node ≥ (b.1.length : Int)) = decide (node < 0 ∨ (b.1.length : Int) ≤ node) := decide_eq_decide.2 (by omega)
    rw [e]
    exact fin _

theorem ckU_zero {b : Bas} {v : List Int} {c : Cnd} {node level : Int} (h : ckU b v c node level = 0) : BasOK b ∧ v.length = b.1.length ∧ c.2.2.1.length = b.1.length ∧ 0 ≤ node ∧ node < b.1.length := by
  obtain ⟨h1, h2⟩ := firstOf_eq0 h
  obtain ⟨h3, h4⟩ := firstOf_eq0 h1
  obtain ⟨h5, _⟩ := firstOf_eq0 h4
  obtain ⟨h6, h7⟩ := firstOf_eq0 h2
  obtain ⟨_, h8⟩ := firstOf_eq0 h6
  obtain ⟨h9, _⟩ := firstOf_eq0 h8
  obtain ⟨h10, _⟩ := firstOf_eq0 h7
  refine ⟨ckBasin_zero h3, ?_, ?_, ?_, ?_⟩
  · cases he : ((v.length : Int) != (b.1.length : Int)) with
    | true => rw [he] at h5; cases h5
    | false => have h11 : (v.length : Int) = (b.1.length : Int) := by simpa using he
               omega
  · cases he : ((c.2.2.1.length : Int) != (b.1.length : Int)) with
    | true => rw [he] at h9; cases h9
    | false => have h11 : (c.2.2.1.length : Int) = (b.1.length : Int) := by simpa using he
               omega
  · by_cases hh : node < 0 ∨ (b.1.length : Int) ≤ node
    · rw [dec_true hh] at h10; cases h10
    · omega
  · by_cases hh : node < 0 ∨ (b.1.length : Int) ≤ node
    · rw [dec_true hh] at h10; cases h10
    · omega

/-! ### Sizes -/
theorem findSome_none {α β : Type} {p : α → Option β} {l : List α} (h : l.findSome? p = none) : ∀ e ∈ l, p e = none := List.findSome?_eq_none_iff.1 h

theorem short_s9 (b : Bas) (hn : b.1.length < lenMax) (hl : b.2.1.length < lenMax) : ∃ s, ref04_Short_s9 b = some (s, ()) ∧ (s = true → ∀ n ∈ b.1, n.1.length ≤ 60) := by
  unfold ref04_Short_s9
  rw [bifT (dec_true hn), loopL_find (fun n => bif decide ((n.1.length : Int) > 60) then some (false, ()) else none) b.1 0 (fun i e _ => by
    unfold ref04_Short_b5
    cases decide ((e.1.length : Int) > 60) <;> rfl)]
  cases hf : b.1.findSome? (fun n => bif decide ((n.1.length : Int) > 60) then some (false, ()) else none) with
  | some y =>
    obtain ⟨n, _, hy⟩ := List.exists_of_findSome?_eq_some hf
    cases hd : decide ((n.1.length : Int) > 60) with
    | true => rw [hd] at hy; cases hy; exact ⟨false, rfl, by simp⟩
    | false => rw [hd] at hy; cases hy
  | none =>
    have hall : ∀ n ∈ b.1, n.1.length ≤ 60 := fun n hn => by
      have := findSome_none hf n hn
      by_cases hd : (n.1.length : Int) > 60
      · rw [dec_true hd] at this; cases this
      · omega
    show ∃ s, ref04_Short_f5 b = some (s, ()) ∧ _
    unfold ref04_Short_f5
    rw [bifT (dec_true hl), loopL_find (fun n => bif decide ((n.1.length : Int) > 60) then some (false, ()) else none) b.2.1 0 (fun i e _ => by
      unfold ref04_Short_b7
      cases decide ((e.1.length : Int) > 60) <;> rfl)]
    cases hg : b.2.1.findSome? (fun n => bif decide ((n.1.length : Int) > 60) then some (false, ()) else none) with
    | some y =>
      obtain ⟨n, _, hy⟩ := List.exists_of_findSome?_eq_some hg
      cases hd : decide ((n.1.length : Int) > 60) with
      | true => rw [hd] at hy; cases hy; exact ⟨false, rfl, by simp⟩
      | false => rw [hd] at hy; cases hy
    | none => exact ⟨true, rfl, fun _ => hall⟩

theorem short_eq (b : Bas) : ∃ s, ref04_Short_M b = some (s, ()) ∧ (s = true → b.1.length ≤ 9 ∧ b.2.1.length ≤ 17 ∧ ∀ n ∈ b.1, n.1.length ≤ 60) := by
  unfold ref04_Short_M
  by_cases h9 : b.1.length ≤ 9
  · rw [bifF (dec_false (show ¬ (b.1.length : Int) > 9 by omega))]
    by_cases h8 : b.2.1.length ≤ 8
    · rw [bifF (dec_false (show ¬ (b.2.1.length : Int) > 8 by omega))]
      obtain ⟨s, h1, h2⟩ := short_s9 b (by unfold lenMax; omega) (by unfold lenMax; omega)
      exact ⟨s, h1, fun hs => ⟨h9, by omega, h2 hs⟩⟩
    · rw [bifT (dec_true (show (b.2.1.length : Int) > 8 by omega))]
      by_cases h17 : b.2.1.length = 17
      · rw [bifF (show ((b.2.1.length : Int) != 17) = false by simp [h17])]
        obtain ⟨s, h1, h2⟩ := short_s9 b (by unfold lenMax; omega) (by unfold lenMax; omega)
        exact ⟨s, h1, fun hs => ⟨h9, by omega, h2 hs⟩⟩
      · rw [bifT (show ((b.2.1.length : Int) != 17) = true by simp; omega)]
        exact ⟨false, rfl, by simp⟩
  · rw [bifT (dec_true (show (b.1.length : Int) > 9 by omega))]
    exact ⟨false, rfl, by simp⟩

theorem shortC_one (c : Cnd) : ∃ s, ref04_ShortConditions_M [c] = some (s, ()) ∧ (s = true → c.2.2.1.length ≤ 9) := by
  by_cases h : c.2.2.1.length ≤ 9
  · refine ⟨true, ?_, fun _ => h⟩
    unfold ref04_ShortConditions_M
    rw [bifT (dec_true (show [c].length < lenMax by simp [lenMax])), loopL_cons]
    unfold ref04_ShortConditions_b0
    rw [bifF (dec_false (show ¬ (c.2.2.1.length : Int) > 9 by omega))]
    rfl
  · refine ⟨false, ?_, by simp⟩
    unfold ref04_ShortConditions_M
    rw [bifT (dec_true (show [c].length < lenMax by simp [lenMax])), loopL_cons]
    unfold ref04_ShortConditions_b0
    rw [bifT (dec_true (show (c.2.2.1.length : Int) > 9 by omega))]
    rfl

theorem given_eq (b : Bas) (h1 : b.1.length ≤ memMax) (h2 : b.2.1.length ≤ memMax) : law04_given_M b = some (b, ()) := by
  have hm := memMax_lt
  unfold law04_given_M
  rw [bifT (dec_true (show b.1.length < lenMax by omega)), loopL_app (fun n => n) b.1 0 [] (by simpa using h1) (fun i e s _ hs => by
    unfold law04_given_b0
    rw [bifT (dec_true hs)])]
  simp only [List.map_id_fun', id_eq, List.nil_append]
  unfold law04_given_f0
  rw [bifT (dec_true (show b.2.1.length < lenMax by omega)), loopL_app (fun n => n) b.2.1 0 [] (by simpa using h2) (fun i e s _ hs => by
    unfold law04_given_b2
    rw [bifT (dec_true hs)])]
  simp only [List.map_id_fun', id_eq, List.nil_append]
  rfl

theorem ints_eq (l : List Int) (h : l.length ≤ memMax) : law04_ints_M l = some (l, ()) := by
  unfold law04_ints_M law04_ints_m
  rw [bifT (dec_true (show 0 + l.length ≤ memMax by omega))]

theorem condition_eq (c : Cnd) (h : c.2.2.1.length ≤ memMax) : law04_condition_M c = some (c, ()) := by
  unfold law04_condition_M law04_condition_m
  rw [ints_eq _ h]
  rfl

theorem awake_true : law04_awake_M = some (true, ()) := by kernel_rfl

/-- **BasinUntil**: for every input the law answers true. -/
theorem basinUntil_law (b : Bas) (v : List Int) (x : Cnd × Int × Int × Unit) : law04_BasinUntil_M b v x = some (true, ()) := by
  have hmem : memMax = 68719476736 := rfl
  have aw : (law04_awake_M.bind fun v6 => some (v6.1, ())) = some (true, ()) := by rw [awake_true]; rfl
  unfold law04_BasinUntil_M law04_BasinUntil_m
  obtain ⟨s, hs, hs2⟩ := short_eq b
  rw [hs]
  simp only [Option.bind_some]
  cases s with
  | false => exact aw
  | true =>
    obtain ⟨h9, h17, h60⟩ := hs2 rfl
    simp only [Bool.not_true, cond_false]
    by_cases hv : v.length ≤ 9
    · rw [bifF (dec_false (show ¬ (v.length : Int) > 9 by omega))]
      obtain ⟨s, hs, hs2⟩ := shortC_one x.1
      rw [hs]
      simp only [Option.bind_some]
      cases s with
      | false => exact aw
      | true =>
        have hc := hs2 rfl
        simp only [Bool.not_true, cond_false]
        rw [given_eq b (by omega) (by omega), ints_eq v (by omega), condition_eq x.1 (by omega)]
        simp only [Option.bind_some]
        rw [bU_eq b v x.1 x.2.1 x.2.2.1 (fun n hn => by have := h60 n hn; unfold lenMax; omega) (by omega) (by omega), rU_eq b v x.1 x.2.1 x.2.2.1 (by unfold lenMax; omega) (by unfold lenMax; omega)]
        simp only [Option.bind_some]
        by_cases h0 : ckU b v x.1 x.2.1 x.2.2.1 = 0
        · obtain ⟨g1, g2, g3, g4, g5⟩ := ckU_zero h0
          obtain ⟨y, u1, u2⟩ := until_same b g1 v g2 x.1 g3 x.2.1 x.2.2.1 g4 g5
          rw [bifF (show (ckU b v x.1 x.2.1 x.2.2.1 != 0) = false by simpa using h0), u2]
          simp only [Option.bind_some]
          rw [bifT (show (ckU b v x.1 x.2.1 x.2.2.1 == 0) = true by simpa using h0), u1]
          simp only [Option.bind_some]
          unfold law04_BasinUntil_m_j23
          rw [bifT (beq_self_eq_true _), bifT (beq_self_eq_true _)]
          exact aw
        · rw [bifT (show (ckU b v x.1 x.2.1 x.2.2.1 != 0) = true by simpa using h0)]
          simp only [Option.bind_some]
          rw [bifF (show (ckU b v x.1 x.2.1 x.2.2.1 == 0) = false by simpa using h0)]
          unfold law04_BasinUntil_m_j23
          rw [bifT (beq_self_eq_true _), bifT (beq_self_eq_true _)]
          exact aw
    · rw [bifT (dec_true (show (v.length : Int) > 9 by omega))]
      exact aw
end Go.Tw
