/- P1: plain laws: loops as functions of lists; ranges, first errors, names. -/
import Derived.Test.YtkfigfhjbejikaaGreatDoorB14
set_option linter.all false
set_option maxRecDepth 100000
namespace Go.Tw
open Go.Vx Go.Vx.B Go.Proofs

abbrev Nod := List UInt8 × Int × Int × Unit
abbrev Lnk := List UInt8 × Int × Int × Int × Int × Unit
abbrev Bas := List Nod × List Lnk × Unit
abbrev Cnd := Int × Bool × List Int × Unit

section
variable {α β γ σ : Type}

theorem loopL_nil {body : Int → α → σ → Option (β ⊕ σ)} {fin : σ → Option β} {i : Int} {s : σ} : loopL body fin i [] s = fin s := rfl
theorem loopL_cons {body : Int → α → σ → Option (β ⊕ σ)} {fin : σ → Option β} {i : Int} {e : α} {l : List α} {s : σ} : loopL body fin i (e :: l) s = (body i e s).bind fun z => match z with
    | .inl y => some y
    | .inr s' => loopL body fin (i + 1) l s' := rfl

/-- The first element of which something is said. -/
theorem loopL_find {body : Int → α → Unit → Option (β ⊕ Unit)} {fin : Unit → Option β} (p : α → Option β) :
    ∀ (l : List α) (i : Int), (∀ i e, e ∈ l → body i e () = some (match p e with | some y => .inl y | none => .inr ())) → loopL body fin i l () = match l.findSome? p with | some y => some y | none => fin ()
  | [], i, _ => rfl
  | e :: l, i, h => by
    rw [loopL_cons, h i e (by simp), List.findSome?_cons]
    cases p e with
    | none => exact loopL_find p l (i + 1) fun i e he => h i e (by simp [he])
    | some y => rfl

/-- A list is turned element by element. -/
theorem loopL_app {body : Int → α → List γ → Option (β ⊕ List γ)} {fin : List γ → Option β} (f : α → γ) :
    ∀ (l : List α) (i : Int) (s : List γ), s.length + l.length ≤ memMax → (∀ i e s, e ∈ l → s.length + 1 ≤ memMax → body i e s = some (.inr (s ++ [f e]))) → loopL body fin i l s = fin (s ++ l.map f)
  | [], i, s, _, _ => by simp [loopL_nil]
  | e :: l, i, s, hl, h => by
    simp only [List.length_cons] at hl
    rw [loopL_cons, h i e s (by simp) (by omega)]
    simp only [Option.bind_some]
    rw [loopL_app f l (i + 1) (s ++ [f e]) (by simp; omega) fun i e s he hs => h i e s (by simp [he]) hs]
    simp
end

theorem dec_true {p : Prop} [Decidable p] (h : p) : decide p = true := decide_eq_true h
theorem dec_false {p : Prop} [Decidable p] (h : ¬ p) : decide p = false := decide_eq_false h
theorem bifT {α : Type} {c : Bool} {a b : α} (h : c = true) : (bif c then a else b) = a := by rw [h]; rfl
theorem bifF {α : Type} {c : Bool} {a b : α} (h : c = false) : (bif c then a else b) = b := by rw [h]; rfl

theorem memMax_lt : memMax < lenMax := by decide

/-! ### Ranges and first errors -/
def ckR (n lo hi : Int) : Int := if n < lo ∨ hi < n then 3 else 0
def firstE (l : List Int) : Int := (l.find? (· != 0)).getD 0

theorem checkRange_eq (n lo hi : Int) : ref01_CheckRange n lo hi = (ckR n lo hi, ()) := by
  unfold ref01_CheckRange ckR
  by_cases h1 : n < lo
  · rw [bifT (dec_true h1), if_pos (.inl h1)]
  · rw [bifF (dec_false h1)]
    by_cases h2 : n > hi
    · rw [bifT (dec_true h2), if_pos (.inr h2)]
    · rw [bifF (dec_false h2), if_neg (by omega)]

theorem when_eq (c : Bool) (e : Int) : basin_when c e = (bif c then e else 0, ()) := by
  unfold basin_when
  cases c <;> rfl

theorem within_eq (n lo hi : Int) : basin_within n lo hi = (ckR n lo hi, ()) := by
  unfold basin_within ckR
  by_cases h1 : n < lo
  · rw [bifT (dec_true h1), when_eq, cond_true, if_pos (.inl h1)]
  · rw [bifF (dec_false h1), when_eq]
    by_cases h2 : n > hi
    · rw [dec_true h2, cond_true, if_pos (.inr h2)]
    · rw [dec_false h2, cond_false, if_neg (by omega)]

theorem find_first (l : List Int) : l.findSome? (fun e => if e != 0 then some (e, ()) else none) = (l.find? (· != 0)).map fun e => (e, ()) := by
  induction l with
  | nil => rfl
  | cons e l ih =>
    rw [List.findSome?_cons, List.find?_cons]
    cases he : (e != 0) with
    | true => rfl
    | false => simpa using ih

theorem bfirst_eq (l : List Int) (h : l.length < lenMax) : basin_first_M l = some (firstE l, ()) := by
  unfold basin_first_M
  rw [bifT (dec_true h), loopL_find (fun e => if e != 0 then some (e, ()) else none) l 0 (fun i e _ => by
    unfold basin_first_b0
    cases he : (e != 0) <;> rfl), find_first]
  unfold firstE basin_first_f0
  cases l.find? (· != 0) <;> rfl

theorem idx_nat {α : Type} (l : List α) (i : Nat) : idx l (i : Int) = l[i]? := by
  unfold idx
  rw [if_pos (Int.natCast_nonneg i)]
  rfl

/-- The first element of which something is said, its place at hand. -/
theorem loopL_findI {α β : Type} {body : Int → α → Unit → Option (β ⊕ Unit)} {fin : Unit → Option β} (xs : List α) (p : α → Option β) :
    ∀ (l done : List α), xs = done ++ l → (∀ (i : Nat) e, xs[i]? = some e → body (i : Int) e () = some (match p e with | some y => .inl y | none => .inr ())) →
      loopL body fin (done.length : Int) l () = match l.findSome? p with | some y => some y | none => fin ()
  | [], done, _, _ => rfl
  | e :: l, done, hx, h => by
    rw [loopL_cons, h done.length e (by rw [hx]; simp), List.findSome?_cons]
    cases p e with
    | none =>
      have := loopL_findI (body := body) (fin := fin) xs p l (done ++ [e]) (by rw [hx]; simp) h
      simp only [List.length_append, List.length_cons, List.length_nil] at this
      exact this
    | some y => rfl

theorem rfirst_eq (l : List Int) (h : l.length < lenMax) : ref01_First_M l = some (firstE l, ()) := by
  unfold ref01_First_M
  have := loopL_findI (body := fun i__ e__ s__ => ref01_First_b0 l i__ e__) (fin := fun s__ => ref01_First_f0 l) l (fun e => if e != 0 then some (e, ()) else none) l [] rfl (fun i e hi => by
    unfold ref01_First_b0
    cases he : (e != 0) with
    | true => rw [idx_nat, hi]; rfl
    | false => rfl)
  rw [bifT (dec_true h)]
  refine this.trans ?_
  rw [find_first]
  unfold firstE ref01_First_f0
  cases l.find? (· != 0) <;> rfl

/-! ### Names -/
def letterN (c : Nat) : Bool := decide (65 ≤ c ∧ c ≤ 90 ∨ 97 ≤ c ∧ c ≤ 122)
def otherN (c : Nat) : Bool := decide (48 ≤ c ∧ c ≤ 57 ∨ c = 95)
def nmOk : Bool → List UInt8 → Bool
  | _, [] => true
  | first, c :: l => (letterN c.toNat || (!first && otherN c.toNat)) && nmOk false l
def isNm (s : List UInt8) : Bool := nmOk true s && decide (0 < s.length ∧ s.length ≤ 24)

theorem rname_loop : ∀ (s0 s : List UInt8) (i : Int), 0 ≤ i → loopL (fun i__ e__ s__ => ref01_IsName_b2 s0 i__ e__) (fun s__ => ref01_IsName_f2 s0) i s () = some (nmOk (decide (i = 0)) s, ())
  | s0, [], i, _ => rfl
  | s0, c :: l, i, hi => by
    rw [loopL_cons]
    have ih := rname_loop s0 l (i + 1) (by omega)
    have e0 : decide (i + 1 = 0) = false := dec_false (by omega)
    rw [e0] at ih
    unfold nmOk
    have hb : ref01_IsName_b2 s0 i c = some (if (letterN c.toNat || (!decide (i = 0) && otherN c.toNat)) = true then .inr () else .inl (false, ())) := by
      unfold ref01_IsName_b2 ref01_IsName_s15 letterN otherN
      have g3 : (i == 0) = decide (i = 0) := by by_cases h : i = 0 <;> simp [h]
      have g4 : ((c.toNat : Int) != 95) = !decide ((c.toNat : Int) = 95) := by by_cases h : (c.toNat : Int) = 95 <;> simp [h]
      rw [g3, g4]
      by_cases h1 : (97 : Int) ≤ c.toNat <;> by_cases h2 : (c.toNat : Int) ≤ 122 <;> by_cases h3 : (65 : Int) ≤ c.toNat <;> by_cases h4 : (c.toNat : Int) ≤ 90 <;> by_cases h5 : (c.toNat : Int) < 48 <;> by_cases h6 : (c.toNat : Int) > 57 <;> by_cases h7 : (c.toNat : Int) = 95 <;> by_cases h8 : i = 0 <;>
        first
        | omega
        | (have g1 : (decide (65 ≤ c.toNat ∧ c.toNat ≤ 90 ∨ 97 ≤ c.toNat ∧ c.toNat ≤ 122)) = decide ((65 : Int) ≤ c.toNat ∧ (c.toNat : Int) ≤ 90 ∨ (97 : Int) ≤ c.toNat ∧ (c.toNat : Int) ≤ 122) := by
            apply decide_eq_decide.2; omega
           have g2 : (decide (48 ≤ c.toNat ∧ c.toNat ≤ 57 ∨ c.toNat = 95)) = decide (¬ (c.toNat : Int) < 48 ∧ ¬ (c.toNat : Int) > 57 ∨ (c.toNat : Int) = 95) := by
            apply decide_eq_decide.2; omega
           rw [g1, g2]
           simp [h1, h2, h3, h4, h5, h6, h7, h8])
    rw [hb]
    simp only [Option.bind_some]
    by_cases hc : (letterN c.toNat || (!decide (i = 0) && otherN c.toNat)) = true
    · rw [if_pos hc, hc, Bool.true_and]
      exact ih
    · rw [if_neg hc, Bool.eq_false_iff.2 hc]
      rfl

theorem rname_eq (s : List UInt8) : ref01_IsName_M s = some (isNm s, ()) := by
  unfold ref01_IsName_M isNm
  by_cases h0 : s.length = 0
  · have : ((s.length : Int) == 0) = true := by simp [h0]
    rw [bifT this, show decide (0 < s.length ∧ s.length ≤ 24) = false from dec_false (by omega), Bool.and_false]
  · have : ((s.length : Int) == 0) = false := by simpa using h0
    rw [bifF this]
    by_cases h1 : 24 < s.length
    · rw [bifT (dec_true (by omega)), show decide (0 < s.length ∧ s.length ≤ 24) = false from dec_false (by omega), Bool.and_false]
    · rw [bifF (dec_false (show ¬ ((s.length : Int) > 24) by omega)), bifT (dec_true (show s.length < lenMax by unfold lenMax; omega)), rname_loop s s 0 (by omega), dec_true rfl]
      rw [show decide (0 < s.length ∧ s.length ≤ 24) = true from dec_true ⟨by omega, by omega⟩, Bool.and_true]
end Go.Tw
