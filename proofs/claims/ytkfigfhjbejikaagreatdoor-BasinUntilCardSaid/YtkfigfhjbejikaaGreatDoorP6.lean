/- P6: a step of the program is that of the reference. -/
import Derived.Test.YtkfigfhjbejikaaGreatDoorP5
set_option linter.all false
set_option maxRecDepth 100000
namespace Go.Tw
open Go.Vx Go.Vx.B Go.Proofs

def maxV : Int := 100000000
def fits8 (v : List Int) : Bool := v.all fun x => decide (x ≤ maxV)

theorem tooMuch_eq (v : List Int) (h : v.length < lenMax) : ref04_tooMuch_M v = some (!fits8 v, ()) := by
  unfold ref04_tooMuch_M
  rw [bifT (dec_true h), loopL_find (fun x => bif decide (x > 100000000) then some (true, ()) else none) v 0 (fun i e _ => by
    unfold ref04_tooMuch_b0
    cases decide (e > 100000000) <;> rfl)]
  unfold fits8 ref04_tooMuch_f0
  clear h
  induction v with
  | nil => rfl
  | cons x v ih =>
    rw [List.findSome?_cons, List.all_cons]
    by_cases hx : x ≤ maxV
    · rw [dec_true hx, dec_false (show ¬ x > 100000000 by unfold maxV at hx; omega)]
      exact ih
    · rw [dec_false hx, dec_true (show x > 100000000 by unfold maxV at hx; omega)]
      rfl

/-! ### What flows in -/
def inflow : List Int → List Int → List Int
  | x :: v, n :: l => wr (x + n) :: inflow v l
  | _, _ => []

theorem inflow_length : ∀ (v l : List Int), v.length = l.length → (inflow v l).length = v.length
  | [], [], _ => rfl
  | x :: v, n :: l, h => by simp [inflow, inflow_length v l (by simpa using h)]
  | [], _ :: _, h => by simp at h
  | _ :: _, [], h => by simp at h

theorem idx_mid {α : Type} (p : List α) (x : α) (r : List α) (i : Int) (hi : i = (p.length : Int)) : idx (p ++ x :: r) i = some x := by
  subst hi
  rw [idx_nat]
  simp

theorem set_mid {α : Type} (p : List α) (x y : α) (r : List α) (i : Int) (hi : i = (p.length : Int)) : (p ++ x :: r).set i.toNat y = p ++ y :: r := by
  subst hi
  simp

theorem get_mid {α : Type} (p : List α) (x : α) (r : List α) (i : Int) (hi : i = (p.length : Int)) : (p ++ x :: r)[i.toNat]? = some x := by
  subst hi
  simp

/-- The program's loop over what flows in. -/
theorem bin_loop (b : Bas) (c : Cnd) (t : List Int) : ∀ (l rest p : List Int) (i : Int) (fine : Bool), i = (p.length : Int) → rest.length = l.length →
    loopL (fun i__ e__ s__ => basin_Basin_step_b0 b c t i__ e__ s__.1 s__.2) (fun s__ => basin_Basin_step_f0 b c t s__.1 s__.2) i l (fine, p ++ rest) =
      basin_Basin_step_f0 b c t (fine && fits8 (inflow rest l)) (p ++ inflow rest l)
  | [], [], p, i, fine, _, _ => by
    rw [loopL_nil]
    simp [inflow, fits8]
  | n :: l, x :: rest, p, i, fine, hi, hl => by
    have hb : basin_Basin_step_b0 b c t i n fine (p ++ x :: rest) = some (.inr (fine && decide (wr (x + n) ≤ maxV), p ++ wr (x + n) :: rest)) := by
      unfold basin_Basin_step_b0
      rw [bifT (show (i != -1) = true by simp; omega)]
      rw [idx_mid p x rest i hi, get_mid p x rest i hi]
      simp only [Option.bind_some]
      cases fine with
      | true =>
        simp only [cond_true, set_mid p x _ rest i hi]
        rw [idx_mid p _ rest i hi, get_mid p _ rest i hi]
        rfl
      | false =>
        simp only [cond_false, set_mid p x _ rest i hi]
        rfl
    rw [loopL_cons, hb]
    simp only [Option.bind_some]
    have ih := bin_loop b c t l rest (p ++ [wr (x + n)]) (i + 1) (fine && decide (wr (x + n) ≤ maxV)) (by simp [hi]) (by simpa using hl)
    rw [show (p ++ [wr (x + n)]) ++ rest = p ++ wr (x + n) :: rest by simp] at ih
    rw [ih]
    simp [inflow, fits8, Bool.and_assoc]

/-- The reference's loop over what flows in. -/
theorem rin_loop (b : Bas) (c : Cnd) : ∀ (m : Nat) (l rest p q : List Int) (i : Int), i = (p.length : Int) → p.length = q.length → c.2.2.1 = q ++ l → rest.length = l.length → m = rest.length →
    loopG (fun s__ => (List.length s__ : Int)) (fun i__ s__ => ref04_Moved_b0 b c i__ s__) (fun s__ => ref04_Moved_f0 b c s__) m i (p ++ rest) = ref04_Moved_f0 b c (p ++ inflow rest l)
  | 0, l, rest, p, q, i, hi, hq, hc, hl, hm => by
    have e1 : rest = [] := List.eq_nil_of_length_eq_zero hm.symm
    subst e1
    unfold loopG
    have e2 : decide (i < (List.length (p ++ ([] : List Int)) : Int)) = false := dec_false (by simp; omega)
    rw [e2]
    simp [inflow]
  | m + 1, l, rest, p, q, i, hi, hq, hc, hl, hm => by
    match rest, l, hl, hm with
    | x :: rest, n :: l, hl, hm =>
      unfold loopG
      have e2 : decide (i < (List.length (p ++ x :: rest) : Int)) = true := dec_true (by simp; omega)
      rw [e2, cond_true]
      have hb : ref04_Moved_b0 b c i (p ++ x :: rest) = some (.inr (p ++ wr (x + n) :: rest)) := by
        unfold ref04_Moved_b0
        rw [idx_mid p x rest i hi, get_mid p x rest i hi, hc, idx_mid q n l i (by omega)]
        simp only [Option.bind_some, set_mid p x _ rest i hi]
      rw [hb]
      simp only [Option.bind_some]
      have ih := rin_loop b c m l rest (p ++ [wr (x + n)]) (q ++ [n]) (i + 1) (by simp [hi]) (by simp [hq]) (by simp [hc]) (by simpa using hl) (by simpa using hm)
      rw [show (p ++ [wr (x + n)]) ++ rest = p ++ wr (x + n) :: rest by simp] at ih
      rw [ih]
      simp [inflow]

/-! ### Links -/
/-- A node's volume changes, but not the sea's. -/
def addAt (out : List Int) (j n : Int) : List Int := if j = -1 then out else out.set j.toNat (wr (out.getD j.toNat 0 + n))
def okAt (out : List Int) (j : Int) : Bool := decide (j = -1) || decide (out.getD j.toNat 0 ≤ maxV)

theorem addAt_length (out : List Int) (j n : Int) : (addAt out j n).length = out.length := by unfold addAt; split <;> simp

theorem idx_getD {out : List Int} {j : Int} (h0 : 0 ≤ j) (h1 : j < out.length) : idx out j = some (out.getD j.toNat 0) ∧ out[j.toNat]? = some (out.getD j.toNat 0) := by
  have hj : j.toNat < out.length := by omega
  have h2 : out[j.toNat]? = some (out.getD j.toNat 0) := by simp [List.getD, List.getElem?_eq_getElem hj]
  refine ⟨?_, h2⟩
  unfold idx
  rw [if_pos h0]
  exact h2

/-- The node at a link: its first end, or the second where the first is the sea. -/
def atL (x : Lnk) : Int := if x.2.1 = -1 then x.2.2.1 else x.2.1

noncomputable def fl (b : Bas) (c : Cnd) (x : Lnk) (out : List Int) : Int := flowV x (out.getD (atL x).toNat 0) (b.1.getD (atL x).toNat ([], 0, 0, ())).2.1 c.1 c.2.1
noncomputable def mv (b : Bas) (c : Cnd) (x : Lnk) (out : List Int) : List Int := addAt (addAt out x.2.1 (wr (0 - fl b c x out))) x.2.2.1 (fl b c x out)
noncomputable def okL (b : Bas) (c : Cnd) (x : Lnk) (out : List Int) : Bool := okAt (addAt out x.2.1 (wr (0 - fl b c x out))) x.2.1 && okAt (mv b c x out) x.2.2.1

theorem node_eq (x : Lnk) : (basin_Link_node (x.1, x.2.1, x.2.2.1, x.2.2.2.1, x.2.2.2.2.1, ())).1 = atL x := by
  unfold basin_Link_node atL
  simp only
  by_cases h : x.2.1 = -1
  · rw [bifT (show (x.2.1 == -1) = true by simpa using h), if_pos h]
  · rw [bifF (show (x.2.1 == -1) = false by simpa using h), if_neg h]

theorem atL_in {x : Lnk} {N : Nat} (h : LinkOK x N) : 0 ≤ atL x ∧ atL x < N := by
  have h1 := h.from_; have h2 := h.to_; have h3 := h.some_
  unfold atL
  split <;> omega

/-- The second half of a link's turn: what comes to its second end. -/
theorem bto_eq (b : Bas) (c : Cnd) (all : List (List UInt8 × kindT.den)) (t : List Lnk) (i : Int) (fs : List Int) (x : Lnk) {N : Nat} (hx : LinkOK x N) (f : Int) (fine : Bool) (out : List Int) (hN : out.length = N) (hfs : fs.length + 1 ≤ memMax) :
    basin_Basin_step_s38 b c all t i fs x (f, ()) fine out = some (.inr (fine && okAt (addAt out x.2.2.1 f) x.2.2.1, fs ++ [f], addAt out x.2.2.1 f)) := by
  unfold basin_Basin_step_s38
  have hd : decide (fs.length + 1 ≤ memMax) = true := dec_true hfs
  by_cases ht : x.2.2.1 = -1
  · rw [bifF (show (x.2.2.1 != -1) = false by simpa using ht), bifT hd]
    unfold addAt okAt
    rw [if_pos ht, dec_true ht]
    simp
  · rw [bifT (show (x.2.2.1 != -1) = true by simpa using ht)]
    have hto : 0 ≤ x.2.2.1 ∧ x.2.2.1 < (out.length : Int) := by
      rcases hx.to_ with h | h
      · exact absurd h ht
      · rw [hN]; exact h
    obtain ⟨e1, e2⟩ := idx_getD hto.1 hto.2
    rw [e1, e2]
    simp only [Option.bind_some]
    have ea : addAt out x.2.2.1 f = out.set x.2.2.1.toNat (wr (out.getD x.2.2.1.toNat 0 + f)) := by unfold addAt; rw [if_neg ht]
    have hto2 : 0 ≤ x.2.2.1 ∧ x.2.2.1 < ((addAt out x.2.2.1 f).length : Int) := by rw [addAt_length]; exact hto
    obtain ⟨g1, g2⟩ := idx_getD hto2.1 hto2.2
    rw [ea] at g1 g2
    cases fine with
    | true =>
      simp only [cond_true]
      rw [g1, g2]
      simp only [Option.bind_some]
      rw [bifT hd]
      unfold okAt
      rw [dec_false ht, ea]
      rfl
    | false =>
      simp only [cond_false]
      rw [bifT hd, ea]
      rfl

theorem blink_body (b : Bas) (c : Cnd) (t : List Lnk) (i : Int) (x : Lnk) (hx : LinkOK x b.1.length) (fine : Bool) (fs out : List Int) (hN : out.length = b.1.length) (hfs : fs.length + 1 ≤ memMax) :
    basin_Basin_step_b12 b c basin_table.1 t i x fine fs out = some (.inr (fine && okL b c x out, fs ++ [fl b c x out], mv b c x out)) := by
  have hat := atL_in hx
  have e0 : basin_Basin_step_b12 b c basin_table.1 t i x fine fs out =
      ((idx out (basin_Link_node (x.1, x.2.1, x.2.2.1, x.2.2.2.1, x.2.2.2.2.1, ())).1).bind fun v14 => (out[(basin_Link_node (x.1, x.2.1, x.2.2.1, x.2.2.2.1, x.2.2.2.2.1, ())).1.toNat]?).bind fun v15 =>
        (idx b.1 (basin_Link_node (x.1, x.2.1, x.2.2.1, x.2.2.2.1, x.2.2.2.2.1, ())).1).bind fun v16 => (tabFlow x.1 ((x, v15, v16.2.1, c.1, c.2.1, ()), ())).bind fun v17 =>
          bif x.2.1 != -1 then (idx out x.2.1).bind fun v18 => (out[x.2.1.toNat]?).bind fun v19 => (idx out x.2.1).bind fun v20 => (out[x.2.1.toNat]?).bind fun v21 =>
            bif fine then (idx (out.set x.2.1.toNat (wr (v19 + wr (0 - v17.1)))) x.2.1).bind fun v22 => ((out.set x.2.1.toNat (wr (v19 + wr (0 - v17.1))))[x.2.1.toNat]?).bind fun v23 =>
              basin_Basin_step_s38 b c basin_table.1 t i fs x v17 (decide (v23 ≤ 100000000)) (out.set x.2.1.toNat (wr (v19 + wr (0 - v17.1))))
            else basin_Basin_step_s38 b c basin_table.1 t i fs x v17 false (out.set x.2.1.toNat (wr (v19 + wr (0 - v17.1))))
          else basin_Basin_step_s38 b c basin_table.1 t i fs x v17 fine out) := rfl
  rw [e0, node_eq]
  obtain ⟨e1, e2⟩ := idx_getD (out := out) hat.1 (by rw [hN]; exact hat.2)
  have e3 : idx b.1 (atL x) = some (b.1.getD (atL x).toNat ([], 0, 0, ())) := by
    unfold idx
    rw [if_pos hat.1]
    have : (atL x).toNat < b.1.length := by omega
    simp [List.getD, List.getElem?_eq_getElem this]
  rw [e1, e2, e3]
  simp only [Option.bind_some]
  rw [tabFlow_eq hx.kind (by have := hx.rate; omega)]
  simp only [Option.bind_some]
  show (bif x.2.1 != -1 then _ else basin_Basin_step_s38 b c basin_table.1 t i fs x (fl b c x out, ()) fine out) = _
  change (bif x.2.1 != -1 then (idx out x.2.1).bind fun v18 => (out[x.2.1.toNat]?).bind fun v19 => (idx out x.2.1).bind fun v20 => (out[x.2.1.toNat]?).bind fun v21 =>
            bif fine then (idx (out.set x.2.1.toNat (wr (v19 + wr (0 - fl b c x out)))) x.2.1).bind fun v22 => ((out.set x.2.1.toNat (wr (v19 + wr (0 - fl b c x out))))[x.2.1.toNat]?).bind fun v23 =>
              basin_Basin_step_s38 b c basin_table.1 t i fs x (fl b c x out, ()) (decide (v23 ≤ 100000000)) (out.set x.2.1.toNat (wr (v19 + wr (0 - fl b c x out))))
            else basin_Basin_step_s38 b c basin_table.1 t i fs x (fl b c x out, ()) false (out.set x.2.1.toNat (wr (v19 + wr (0 - fl b c x out))))
          else basin_Basin_step_s38 b c basin_table.1 t i fs x (fl b c x out, ()) fine out) = _
  by_cases hf : x.2.1 = -1
  · rw [bifF (show (x.2.1 != -1) = false by simpa using hf), bto_eq b c _ t i fs x hx _ fine out hN hfs]
    unfold okL mv
    have e5 : ∀ n, addAt out x.2.1 n = out := fun n => by unfold addAt; rw [if_pos hf]
    have e6 : okAt out x.2.1 = true := by unfold okAt; rw [dec_true hf]; rfl
    rw [e5, e6, Bool.true_and]
  · rw [bifT (show (x.2.1 != -1) = true by simpa using hf)]
    have hfr : 0 ≤ x.2.1 ∧ x.2.1 < (out.length : Int) := by
      rcases hx.from_ with h | h
      · exact absurd h hf
      · rw [hN]; exact h
    obtain ⟨g1, g2⟩ := idx_getD hfr.1 hfr.2
    rw [g1, g2]
    simp only [Option.bind_some]
    have ea : addAt out x.2.1 (wr (0 - fl b c x out)) = out.set x.2.1.toNat (wr (out.getD x.2.1.toNat 0 + wr (0 - fl b c x out))) := by unfold addAt; rw [if_neg hf]
    have hfr2 : 0 ≤ x.2.1 ∧ x.2.1 < ((addAt out x.2.1 (wr (0 - fl b c x out))).length : Int) := by rw [addAt_length]; exact hfr
    obtain ⟨k1, k2⟩ := idx_getD hfr2.1 hfr2.2
    rw [← ea]
    cases fine with
    | true =>
      simp only [cond_true]
      rw [k1, k2]
      simp only [Option.bind_some]
      rw [bto_eq b c _ t i fs x hx _ _ _ (by rw [addAt_length]; exact hN) hfs]
      unfold okL mv
      have e6 : okAt (addAt out x.2.1 (wr (0 - fl b c x out))) x.2.1 = decide ((addAt out x.2.1 (wr (0 - fl b c x out))).getD x.2.1.toNat 0 ≤ 100000000) := by unfold okAt; rw [dec_false hf]; rfl
      rw [e6, Bool.true_and]
    | false =>
      simp only [cond_false]
      rw [bto_eq b c _ t i fs x hx _ _ _ (by rw [addAt_length]; exact hN) hfs]
      simp [mv]
end Go.Tw
