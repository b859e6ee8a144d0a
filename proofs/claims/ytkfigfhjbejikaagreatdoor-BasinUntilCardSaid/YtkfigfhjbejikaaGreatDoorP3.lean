/- P3: links, basins, volumes, conditions: their errors, in the program and in the reference. -/
import Derived.Test.YtkfigfhjbejikaaGreatDoorP2
set_option linter.all false
set_option maxRecDepth 100000
namespace Go.Tw
open Go.Vx Go.Vx.B Go.Proofs
def kB : List UInt8 := [98, 97, 114, 114, 105, 101, 114]
def kL : List UInt8 := [108, 101, 97, 107]
def kO : List UInt8 := [111, 117, 116, 102, 97, 108, 108]
def kP : List UInt8 := [112, 117, 109, 112]
def kW : List UInt8 := [119, 101, 105, 114]

/-- Which ends of a kind are the sea. -/
def endsOf (k : List UInt8) : Option (Bool × Bool) :=
  if k = kB then some (true, false) else if k = kL then some (true, false) else if k = kO then some (false, true) else if k = kP then some (false, false) else if k = kW then some (false, false) else none
def fitN (n nodes : Int) (sea : Bool) : Bool := bif sea then n == -1 else decide (0 ≤ n) && decide (n < nodes)

def ckLink (x : Lnk) (nodes : Int) : Int :=
  match endsOf x.1 with
  | none => 13
  | some (s, t) => bif fitN x.2.1 nodes s && fitN x.2.2.1 nodes t then
      firstE [bif x.2.1 == x.2.2.1 then 17 else 0, ckR x.2.2.2.1 0 (bif s then 0 else 1024), ckR x.2.2.2.2.1 1 1000] else 10

theorem kinds_cases (k : List UInt8) : k = kB ∨ k = kL ∨ k = kO ∨ k = kP ∨ k = kW ∨ (k ≠ kB ∧ k ≠ kL ∧ k ≠ kO ∧ k ≠ kP ∧ k ≠ kW) := by
  by_cases h1 : k = kB
  · exact .inl h1
  by_cases h2 : k = kL
  · exact .inr (.inl h2)
  by_cases h3 : k = kO
  · exact .inr (.inr (.inl h3))
  by_cases h4 : k = kP
  · exact .inr (.inr (.inr (.inl h4)))
  by_cases h5 : k = kW
  · exact .inr (.inr (.inr (.inr (.inl h5))))
  exact .inr (.inr (.inr (.inr (.inr ⟨h1, h2, h3, h4, h5⟩))))

theorem bif3 {p q r : Bool} {α : Type} {x y : α} : (bif p then (bif q then (bif r then x else y) else y) else y) = bif p && (q && r) then x else y := by
  cases p <;> cases q <;> cases r <;> rfl
theorem bif4 {p q r s : Bool} {α : Type} {x y : α} : (bif p then (bif q then (bif r then (bif s then x else y) else y) else y) else y) = bif (p && q) && (r && s) then x else y := by
  cases p <;> cases q <;> cases r <;> cases s <;> rfl
theorem bif3' {p q r : Bool} {α : Type} {x y : α} : (bif p then (bif q then (bif r then x else y) else y) else y) = bif (p && q) && r then x else y := by
  cases p <;> cases q <;> cases r <;> rfl

theorem some_bif {α : Type} (c : Bool) (x y : α) : (bif c then some x else some y) = some (bif c then x else y) := by cases c <;> rfl

theorem small3 (a b c : Int) : [a, b, c].length < lenMax := by simp [lenMax]

theorem blink_eq (x : Lnk) (nodes : Int) : basin_Link_check_M x nodes = some (ckLink x nodes, ()) := by
  obtain ⟨k, f, t, a, r, u⟩ := x
  have fin : ∀ (m : Int), ((basin_first_M [bif f == t then 17 else 0, ckR a 0 m, ckR r 1 1000]).bind fun v27 => some (v27.fst, ())) = some (firstE [bif f == t then 17 else 0, ckR a 0 m, ckR r 1 1000], ()) := fun m => by
    rw [bfirst_eq _ (small3 _ _ _)]; rfl
  have r2 : ∀ g : Nat → Bool, (List.range 2).all g = (g 0 && g 1) := fun g => by simp [List.range_succ]
  rcases kinds_cases k with rfl | rfl | rfl | rfl | rfl | ⟨h1, h2, h3, h4, h5⟩
  · simp only [ckLink, show endsOf kB = some (true, false) by decide, fitN]
    simp [basin_Link_check_M, basin_Link_check_m, basin_Link_check_m_j20, basin_table, mapGet, eqV, kB, within_eq, when_eq, fin, r2]
    cases (f == -1) <;> cases (decide (0 ≤ t)) <;> cases (decide (t < nodes)) <;> rfl
  · simp only [ckLink, show endsOf kL = some (true, false) by decide, fitN]
    simp [basin_Link_check_M, basin_Link_check_m, basin_Link_check_m_j20, basin_table, mapGet, eqV, kL, within_eq, when_eq, fin, r2]
    cases (f == -1) <;> cases (decide (0 ≤ t)) <;> cases (decide (t < nodes)) <;> rfl
  · simp only [ckLink, show endsOf kO = some (false, true) by decide, fitN]
    simp [basin_Link_check_M, basin_Link_check_m, basin_Link_check_m_j20, basin_table, mapGet, eqV, kO, within_eq, when_eq, fin, r2]
    cases (t == -1) <;> cases (decide (0 ≤ f)) <;> cases (decide (f < nodes)) <;> rfl
  · simp only [ckLink, show endsOf kP = some (false, false) by decide, fitN]
    simp [basin_Link_check_M, basin_Link_check_m, basin_Link_check_m_j20, basin_table, mapGet, eqV, kP, within_eq, when_eq, fin, r2]
    cases (decide (0 ≤ t)) <;> cases (decide (t < nodes)) <;> cases (decide (0 ≤ f)) <;> cases (decide (f < nodes)) <;> rfl
  · simp only [ckLink, show endsOf kW = some (false, false) by decide, fitN]
    simp [basin_Link_check_M, basin_Link_check_m, basin_Link_check_m_j20, basin_table, mapGet, eqV, kW, within_eq, when_eq, fin, r2]
    cases (decide (0 ≤ t)) <;> cases (decide (t < nodes)) <;> cases (decide (0 ≤ f)) <;> cases (decide (f < nodes)) <;> rfl
  · have g1 : (k == [98, 97, 114, 114, 105, 101, 114]) = false := beq_eq_false_iff_ne.2 h1
    have g2 : (k == [108, 101, 97, 107]) = false := beq_eq_false_iff_ne.2 h2
    have g3 : (k == [111, 117, 116, 102, 97, 108, 108]) = false := beq_eq_false_iff_ne.2 h3
    have g4 : (k == [112, 117, 109, 112]) = false := beq_eq_false_iff_ne.2 h4
    have g5 : (k == [119, 101, 105, 114]) = false := beq_eq_false_iff_ne.2 h5
    simp only [ckLink, show endsOf k = none by simp [endsOf, h1, h2, h3, h4, h5]]
    simp only [basin_Link_check_M, basin_Link_check_m, basin_table, mapGet, eqV, g1, g2, g3, g4, g5]
    rfl

theorem hasWord_eq (k : List UInt8) : ref01_HasWord_M ref04_Kinds.1 k = some (decide (k = kB ∨ k = kL ∨ k = kO ∨ k = kP ∨ k = kW), ()) := by
  rcases kinds_cases k with rfl | rfl | rfl | rfl | rfl | ⟨h1, h2, h3, h4, h5⟩
  · decide
  · decide
  · decide
  · decide
  · decide
  · have g1 : ([98, 97, 114, 114, 105, 101, 114] == k) = false := beq_eq_false_iff_ne.2 (Ne.symm h1)
    have g2 : ([108, 101, 97, 107] == k) = false := beq_eq_false_iff_ne.2 (Ne.symm h2)
    have g3 : ([111, 117, 116, 102, 97, 108, 108] == k) = false := beq_eq_false_iff_ne.2 (Ne.symm h3)
    have g4 : ([112, 117, 109, 112] == k) = false := beq_eq_false_iff_ne.2 (Ne.symm h4)
    have g5 : ([119, 101, 105, 114] == k) = false := beq_eq_false_iff_ne.2 (Ne.symm h5)
    rw [decide_eq_false (by simp [h1, h2, h3, h4, h5])]
    unfold ref01_HasWord_M
    rw [bifT (dec_true (show ref04_Kinds.1.length < lenMax by decide))]
    rw [loopL_find (fun w => if (w == k) = true then some (true, ()) else none) _ 0 (fun i e _ => by
      unfold ref01_HasWord_b0
      cases he : (e == k) <;> rfl)]
    have : ref04_Kinds.1.findSome? (fun w => if (w == k) = true then some (true, ()) else none) = none := by
      show List.findSome? _ [[98, 97, 114, 114, 105, 101, 114], [108, 101, 97, 107], [111, 117, 116, 102, 97, 108, 108], [112, 117, 109, 112], [119, 101, 105, 114]] = none
      simp only [List.findSome?_cons, g1, g2, g3, g4, g5, List.findSome?_nil]
      rfl
    rw [this]
    rfl

theorem firstE_17 (c : Bool) (a b : Int) : (bif c then some (17, ()) else (ref01_First_M [a, b]).bind fun v4 => some (v4.fst, ())) = some (firstE [bif c then 17 else 0, a, b], ()) := by
  cases c with
  | true => rfl
  | false =>
    rw [rfirst_eq _ (by simp [lenMax])]
    simp only [cond_false, firstE_cons (0 : Int), firstOf]
    rfl

theorem rlink_eq (x : Lnk) (nodes : Int) : ref04_checkLink_M x nodes = some (ckLink x nodes, ()) := by
  obtain ⟨k, f, t, a, r, u⟩ := x
  rcases kinds_cases k with rfl | rfl | rfl | rfl | rfl | ⟨h1, h2, h3, h4, h5⟩
  · simp only [ckLink, show endsOf kB = some (true, false) by decide, fitN]
    simp only [ref04_checkLink_M, ref04_checkLink_m, hasWord_eq, show decide (kB = kB ∨ kB = kL ∨ kB = kO ∨ kB = kP ∨ kB = kW) = true by decide, Option.bind_some]
    simp [ref04_sea, ref04_fits, kB, checkRange_eq, firstE_17]
    cases (f == -1) <;> cases (decide (0 ≤ t)) <;> cases (decide (t < nodes)) <;> rfl
  · simp only [ckLink, show endsOf kL = some (true, false) by decide, fitN]
    simp only [ref04_checkLink_M, ref04_checkLink_m, hasWord_eq, show decide (kL = kB ∨ kL = kL ∨ kL = kO ∨ kL = kP ∨ kL = kW) = true by decide, Option.bind_some]
    simp [ref04_sea, ref04_fits, kL, checkRange_eq, firstE_17]
    cases (f == -1) <;> cases (decide (0 ≤ t)) <;> cases (decide (t < nodes)) <;> rfl
  · simp only [ckLink, show endsOf kO = some (false, true) by decide, fitN]
    simp only [ref04_checkLink_M, ref04_checkLink_m, hasWord_eq, show decide (kO = kB ∨ kO = kL ∨ kO = kO ∨ kO = kP ∨ kO = kW) = true by decide, Option.bind_some]
    simp [ref04_sea, ref04_fits, kO, checkRange_eq, firstE_17]
    cases (t == -1) <;> cases (decide (0 ≤ f)) <;> cases (decide (f < nodes)) <;> rfl
  · simp only [ckLink, show endsOf kP = some (false, false) by decide, fitN]
    simp only [ref04_checkLink_M, ref04_checkLink_m, hasWord_eq, show decide (kP = kB ∨ kP = kL ∨ kP = kO ∨ kP = kP ∨ kP = kW) = true by decide, Option.bind_some]
    simp [ref04_sea, ref04_fits, kP, checkRange_eq, firstE_17]
    cases (decide (0 ≤ t)) <;> cases (decide (t < nodes)) <;> cases (decide (0 ≤ f)) <;> cases (decide (f < nodes)) <;> rfl
  · simp only [ckLink, show endsOf kW = some (false, false) by decide, fitN]
    simp only [ref04_checkLink_M, ref04_checkLink_m, hasWord_eq, show decide (kW = kB ∨ kW = kL ∨ kW = kO ∨ kW = kP ∨ kW = kW) = true by decide, Option.bind_some]
    simp [ref04_sea, ref04_fits, kW, checkRange_eq, firstE_17]
    cases (decide (0 ≤ t)) <;> cases (decide (t < nodes)) <;> cases (decide (0 ≤ f)) <;> cases (decide (f < nodes)) <;> rfl
  · simp only [ckLink, show endsOf k = none by simp [endsOf, h1, h2, h3, h4, h5]]
    simp only [ref04_checkLink_M, ref04_checkLink_m, hasWord_eq, show decide (k = kB ∨ k = kL ∨ k = kO ∨ k = kP ∨ k = kW) = false by simp [h1, h2, h3, h4, h5], Option.bind_some]
    rfl
end Go.Tw
