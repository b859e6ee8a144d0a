/- P5: a step of the program and of the reference; until a level is reached. -/
import Derived.Test.YtkfigfhjbejikaaGreatDoorP4
set_option linter.all false
set_option maxRecDepth 100000
namespace Go.Tw
open Go.Vx Go.Vx.B Go.Proofs

/-! ### Numbers -/
abbrev wr (a : Int) : Int := IntKind.i64.wrap a

theorem wrap_mod (a b : Int) (h : a % 18446744073709551616 = b % 18446744073709551616) : wr a = wr b := by
  unfold wr IntKind.wrap IntKind.bits IntKind.signed
  simp only
  rw [show (2 : Int) ^ 64 = 18446744073709551616 by decide, h]

theorem wrap_self (a : Int) : wr a % 18446744073709551616 = a % 18446744073709551616 := by
  unfold wr IntKind.wrap IntKind.bits IntKind.signed
  simp only [show (2 : Int) ^ 64 = 18446744073709551616 by decide]
  split <;> omega

theorem wrap_sub (a b : Int) : wr (a + wr (0 - b)) = wr (a - b) := by
  apply wrap_mod
  have := wrap_self (0 - b)
  omega

/-! ### Lists -/
theorem firstE_zero : ∀ {l : List Int}, firstE l = 0 → ∀ e ∈ l, e = 0
  | [], _, e, he => by simp at he
  | a :: l, h, e, he => by
    rw [firstE_cons] at h
    unfold firstOf at h
    by_cases ha : a = 0
    · rcases List.mem_cons.1 he with rfl | he
      · exact ha
      · rw [ha] at h; exact firstE_zero h e he
    · rw [if_pos (by simpa using ha)] at h; exact absurd h ha

theorem firstOf_eq0 {a b : Int} (h : firstOf a b = 0) : a = 0 ∧ b = 0 := by
  unfold firstOf at h
  by_cases ha : a = 0
  · subst ha; exact ⟨rfl, h⟩
  · rw [if_pos (by simpa using ha)] at h; exact absurd h ha

theorem ckR_zero {n lo hi : Int} (h : ckR n lo hi = 0) : lo ≤ n ∧ n ≤ hi := by
  unfold ckR at h
  split at h
  · cases h
  · omega

/-- What a valid link is. -/
structure LinkOK (x : Lnk) (N : Nat) : Prop where
  kind : endsOf x.1 ≠ none
  from_ : x.2.1 = -1 ∨ (0 ≤ x.2.1 ∧ x.2.1 < N)
  to_ : x.2.2.1 = -1 ∨ (0 ≤ x.2.2.1 ∧ x.2.2.1 < N)
  ne : x.2.1 ≠ x.2.2.1
  some_ : x.2.1 ≠ -1 ∨ x.2.2.1 ≠ -1
  at_ : 0 ≤ x.2.2.2.1 ∧ x.2.2.2.1 ≤ 1024
  rate : 1 ≤ x.2.2.2.2.1 ∧ x.2.2.2.2.1 ≤ 1000

theorem fitN_ok {n N : Int} {s : Bool} (h : fitN n N s = true) : (s = true ∧ n = -1) ∨ (s = false ∧ 0 ≤ n ∧ n < N) := by
  cases s with
  | true => exact .inl ⟨rfl, by simpa [fitN] using h⟩
  | false =>
    simp only [fitN, cond_false, Bool.and_eq_true, decide_eq_true_eq] at h
    exact .inr ⟨rfl, h⟩

theorem ckLink_zero {x : Lnk} {N : Nat} (h : ckLink x (N : Int) = 0) : LinkOK x N := by
  unfold ckLink at h
  split at h
  · cases h
  · rename_i s t he
    cases hf : (fitN x.2.1 (N : Int) s && fitN x.2.2.1 (N : Int) t) with
    | false => rw [hf] at h; cases h
    | true =>
      rw [hf] at h
      simp only [cond_true] at h
      simp only [Bool.and_eq_true] at hf
      have h1 := firstE_zero h _ (List.mem_cons_self ..)
      have h2 := ckR_zero (firstE_zero h _ (List.mem_cons_of_mem _ (List.mem_cons_self ..)))
      have h3 := ckR_zero (firstE_zero h _ (List.mem_cons_of_mem _ (List.mem_cons_of_mem _ (List.mem_cons_self ..))))
      have hne : x.2.1 ≠ x.2.2.1 := by
        intro e
        rw [show (x.2.1 == x.2.2.1) = true by simp [e]] at h1
        cases h1
      refine ⟨by rw [he]; simp, ?_, ?_, hne, ?_, ?_, h3⟩
      · rcases fitN_ok hf.1 with ⟨_, h⟩ | ⟨_, h⟩
        · exact .inl h
        · exact .inr h
      · rcases fitN_ok hf.2 with ⟨_, h⟩ | ⟨_, h⟩
        · exact .inl h
        · exact .inr h
      · rcases fitN_ok hf.1 with ⟨_, h⟩ | ⟨_, h⟩
        · rcases fitN_ok hf.2 with ⟨_, h'⟩ | ⟨_, h'⟩
          · exact absurd (h.trans h'.symm) hne
          · exact .inr (by omega)
        · exact .inl (by omega)
      · cases s
        · exact h2
        · have : (0 : Int) ≤ x.2.2.2.1 ∧ x.2.2.2.1 ≤ 0 := h2
          omega

/-- What a valid basin is. -/
structure BasOK (b : Bas) : Prop where
  pos : 0 < b.1.length
  nodes : b.1.length ≤ 8
  links : b.2.1.length ≤ 16
  area : ∀ n ∈ b.1, 1 ≤ n.2.1 ∧ n.2.1 ≤ 1000
  limit : ∀ n ∈ b.1, 0 ≤ n.2.2.1 ∧ n.2.2.1 ≤ 1024
  link : ∀ x ∈ b.2.1, LinkOK x b.1.length

theorem nodesE_zero : ∀ {l done : List Nod}, nodesE done l = 0 → ∀ n ∈ l, (1 ≤ n.2.1 ∧ n.2.1 ≤ 1000) ∧ 0 ≤ n.2.2.1 ∧ n.2.2.1 ≤ 1024
  | [], _, _, n, hn => by simp at hn
  | m :: l, done, h, n, hn => by
    obtain ⟨h1, h2⟩ := firstOf_eq0 (show firstOf (nodeE done m) (nodesE (done ++ [m]) l) = 0 from h)
    rcases List.mem_cons.1 hn with rfl | hn
    · exact ⟨ckR_zero (firstE_zero h1 _ (by simp)), ckR_zero (firstE_zero h1 _ (by simp))⟩
    · exact nodesE_zero h2 n hn

theorem ckBasin_zero {b : Bas} (h : ckBasin b = 0) : BasOK b := by
  obtain ⟨h1, h2⟩ := firstOf_eq0 h
  obtain ⟨g1, g2, g3⟩ := ckNodes_zero h1
  by_cases h16 : 16 < b.2.1.length
  · rw [dec_true h16] at h2; cases h2
  · rw [dec_false h16, cond_false] at h2
    exact ⟨g1, g2, by omega, fun n hn => (nodesE_zero g3 n hn).1, fun n hn => (nodesE_zero g3 n hn).2, fun x hx => ckLink_zero (firstE_zero h2 _ (List.mem_map.2 ⟨x, hx, rfl⟩))⟩

/-! ### Flows -/
theorem floor_same (a r : Int) : basin_floor_M a r = ref04_Floor_M a r := rfl

noncomputable def flo (a r : Int) : Int := bif decide (wr (wr (a.tdiv r) * r) > a) then wr (wr (a.tdiv r) - 1) else wr (a.tdiv r)
theorem floor_some (a r : Int) (h : r ≠ 0) : ref04_Floor_M a r = some (flo a r, ()) := by
  unfold ref04_Floor_M ref04_Floor_m flo
  rw [bifF (beq_eq_false_iff_ne.2 h)]
  cases decide (wr (wr (a.tdiv r) * r) > a) <;> rfl

def imax (a b : Int) : Int := if b > a then b else a
def imin (a b : Int) : Int := if b < a then b else a

/-- The flow of a link. -/
noncomputable def flowV (x : Lnk) (vol area tide : Int) (opn : Bool) : Int :=
  if x.1 = kB then (bif opn then imax (wr (0 - vol)) (flo (wr (wr (area * tide) - vol)) x.2.2.2.2.1) else 0)
  else if x.1 = kL then imax 0 (flo (wr (wr (area * tide) - vol)) x.2.2.2.2.1)
  else if x.1 = kO then imax 0 (flo (wr (vol - wr (area * imax tide x.2.2.2.1))) x.2.2.2.2.1)
  else if x.1 = kP then imax 0 (imin x.2.2.2.2.1 (wr (vol - wr (area * x.2.2.2.1))))
  else imax 0 (flo (wr (vol - wr (area * x.2.2.2.1))) x.2.2.2.2.1)

abbrev plT : Ty := .pair (.pair .str (.pair (.int .i64) (.pair (.int .i64) (.pair (.int .i64) (.pair (.int .i64) .unit))))) (.pair (.int .i64) (.pair (.int .i64) (.pair (.int .i64) (.pair .bool .unit))))
abbrev kindT : Ty := .pair (.arr 2 .bool) (.pair (.func (.pair plT .unit) (.pair (.int .i64) .unit)) .unit)
noncomputable def tabFlow (k : List UInt8) : (Lnk × Int × Int × Int × Bool × Unit) × Unit → Option (Int × Unit) :=
  ((mapGet .str kindT basin_table.1 k).getD ([false, false], fun _ => none, ())).2.1

theorem tabFlow_eq {x : Lnk} (hk : endsOf x.1 ≠ none) (hr : x.2.2.2.2.1 ≠ 0) (vol area tide : Int) (opn : Bool) : tabFlow x.1 ((x, vol, area, tide, opn, ()), ()) = some (flowV x vol area tide opn, ()) := by
  obtain ⟨k, f, t, a, r, u⟩ := x
  simp only at hk hr
  have hf := fun a => floor_some a r hr
  rcases kinds_cases k with rfl | rfl | rfl | rfl | rfl | ⟨h1, h2, h3, h4, h5⟩
  · show basin_place_barrier_M ((kB, f, t, a, r, u), vol, area, tide, opn, ()) = _
    simp only [basin_place_barrier_M, basin_place_barrier_m, basin_place_fromSea_M, basin_place_fromSea_m, floor_same, hf, flowV, Option.bind_some]
    cases opn <;> rfl
  · show basin_table_1_M ((kL, f, t, a, r, u), vol, area, tide, opn, ()) = _
    simp only [basin_table_1_M, basin_table_1_m, basin_place_fromSea_M, basin_place_fromSea_m, floor_same, hf, flowV, Option.bind_some]
    rfl
  · show basin_table_2_M ((kO, f, t, a, r, u), vol, area, tide, opn, ()) = _
    simp only [basin_table_2_M, basin_table_2_m, basin_place_over_M, basin_place_over_m, floor_same, hf, flowV, Option.bind_some]
    rfl
  · rfl
  · show basin_table_4_M ((kW, f, t, a, r, u), vol, area, tide, opn, ()) = _
    simp only [basin_table_4_M, basin_table_4_m, basin_place_over_M, basin_place_over_m, floor_same, hf, flowV, Option.bind_some]
    rfl
  · exact absurd (by simp [endsOf, h1, h2, h3, h4, h5]) hk

theorem rflow_eq {x : Lnk} (hk : endsOf x.1 ≠ none) (hr : x.2.2.2.2.1 ≠ 0) (b : Bas) (v : List Int) (c : Cnd) (n : Nod) (vol j : Int) (hj : (if x.2.1 < 0 then x.2.2.1 else x.2.1) = j) (hn : idx b.1 j = some n) (hv : idx v j = some vol) :
    ref04_flow_M b v c x = some (flowV x vol n.2.1 c.1 c.2.1, ()) := by
  obtain ⟨k, f, t, a, r, u⟩ := x
  simp only at hk hr hj
  have hf := fun a => floor_some a r hr
  have h0 : ref04_flow_M b v c (k, f, t, a, r, u) = ref04_flow_m_j12 0 b v c (k, f, t, a, r, u) j := by
    unfold ref04_flow_M ref04_flow_m
    subst hj
    by_cases hlt : f < 0
    · rw [bifT (dec_true hlt), if_pos hlt]
    · rw [bifF (dec_false hlt), if_neg hlt]
  rw [h0]
  unfold ref04_flow_m_j12
  rw [hn, hv]
  simp only [Option.bind_some]
  rcases kinds_cases k with rfl | rfl | rfl | rfl | rfl | ⟨h1, h2, h3, h4, h5⟩
  · rw [bifT (show (kB == [98, 97, 114, 114, 105, 101, 114]) = true by decide)]
    simp only [hf, Option.bind_some, flowV]
    cases c.2.1 <;> rfl
  · rw [bifF (show (kL == [98, 97, 114, 114, 105, 101, 114]) = false by decide), bifT (show (kL == [108, 101, 97, 107]) = true by decide)]
    simp only [hf, Option.bind_some, flowV]
    rfl
  · rw [bifF (show (kO == [98, 97, 114, 114, 105, 101, 114]) = false by decide), bifF (show (kO == [108, 101, 97, 107]) = false by decide), bifT (show (kO == [111, 117, 116, 102, 97, 108, 108]) = true by decide)]
    simp only [hf, Option.bind_some, flowV]
    rfl
  · rw [bifF (show (kP == [98, 97, 114, 114, 105, 101, 114]) = false by decide), bifF (show (kP == [108, 101, 97, 107]) = false by decide), bifF (show (kP == [111, 117, 116, 102, 97, 108, 108]) = false by decide), bifT (show (kP == [112, 117, 109, 112]) = true by decide)]
    rfl
  · rw [bifF (show (kW == [98, 97, 114, 114, 105, 101, 114]) = false by decide), bifF (show (kW == [108, 101, 97, 107]) = false by decide), bifF (show (kW == [111, 117, 116, 102, 97, 108, 108]) = false by decide), bifF (show (kW == [112, 117, 109, 112]) = false by decide)]
    simp only [hf, Option.bind_some, flowV]
    rfl
  · exact absurd (by simp [endsOf, h1, h2, h3, h4, h5]) hk
end Go.Tw
