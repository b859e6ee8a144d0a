/- P1: plain laws: loops as functions of lists; ranges, first errors, names.
P2: commands: their errors, what is known of them, executed, and lost.
P3: charts: their errors, their events; the program's check is the reference's.
P4: charts: the program's check is the reference's; what a valid chart is.
P5: leaves, entering, what fits in a leaf, steps. -/
import Derived.Test.YtohhmdogfjmlcaaGreatBA
import Derived.Test.YtohhmdogfjmlcaaGreatBC

section
set_option linter.all false
set_option maxRecDepth 100000
namespace Go.Tw
open Go.Vx Go.Vx.B Go.Proofs

section
variable {α β γ σ : Type}

theorem loopL_nil {body : Int → α → σ → Option (β ⊕ σ)} {fin : σ → Option β} {i : Int} {s : σ} : loopL body fin i [] s = fin s := rfl
theorem loopL_cons {body : Int → α → σ → Option (β ⊕ σ)} {fin : σ → Option β} {i : Int} {e : α} {l : List α} {s : σ} : loopL body fin i (e :: l) s = (body i e s).bind fun z => match z with
    | .inl y => some y
    | .inr s' => loopL body fin (i + 1) l s' := rfl

/-- The first element of which something is said. -/
theorem loopL_find {body : Int → α → Unit → Option (β ⊕ Unit)} {fin : Unit → Option β} (p : α → Option β) :
    ∀ (l : List α) (i : Int), (∀ i e, e ∈ l → body i e () = some (match p e with | some y => .inl y | none => .inr ())) → loopL body fin i l () = match l.findSome? p with | some y => some y | none => fin ()
  | [], i, _ => rfl
  | e :: l, i, h => by
    rw [loopL_cons, h i e (by simp), List.findSome?_cons]
    cases p e with
    | none => exact loopL_find p l (i + 1) fun i e he => h i e (by simp [he])
    | some y => rfl

/-- A list is turned element by element. -/
theorem loopL_app {body : Int → α → List γ → Option (β ⊕ List γ)} {fin : List γ → Option β} (f : α → γ) :
    ∀ (l : List α) (i : Int) (s : List γ), s.length + l.length ≤ memMax → (∀ i e s, e ∈ l → s.length + 1 ≤ memMax → body i e s = some (.inr (s ++ [f e]))) → loopL body fin i l s = fin (s ++ l.map f)
  | [], i, s, _, _ => by simp [loopL_nil]
  | e :: l, i, s, hl, h => by
    simp only [List.length_cons] at hl
    rw [loopL_cons, h i e s (by simp) (by omega)]
    simp only [Option.bind_some]
    rw [loopL_app f l (i + 1) (s ++ [f e]) (by simp; omega) fun i e s he hs => h i e s (by simp [he]) hs]
    simp
end

theorem dec_true {p : Prop} [Decidable p] (h : p) : decide p = true := decide_eq_true h
theorem dec_false {p : Prop} [Decidable p] (h : ¬ p) : decide p = false := decide_eq_false h
theorem bifT {α : Type} {c : Bool} {a b : α} (h : c = true) : (bif c then a else b) = a := by rw [h]; rfl
theorem bifF {α : Type} {c : Bool} {a b : α} (h : c = false) : (bif c then a else b) = b := by rw [h]; rfl

/-! ### Ranges and first errors -/
def ckR (n lo hi : Int) : Int := if n < lo ∨ hi < n then 3 else 0
def firstE (l : List Int) : Int := (l.find? (· != 0)).getD 0

theorem checkRange_eq (n lo hi : Int) : ref01_CheckRange n lo hi = (ckR n lo hi, ()) := by
  unfold ref01_CheckRange ckR
  by_cases h1 : n < lo
  · rw [bifT (dec_true h1), if_pos (.inl h1)]
  · rw [bifF (dec_false h1)]
    by_cases h2 : n > hi
    · rw [bifT (dec_true h2), if_pos (.inr h2)]
    · rw [bifF (dec_false h2), if_neg (by omega)]

theorem when_eq (c : Bool) (e : Int) : gate_when c e = (bif c then e else 0, ()) := by
  unfold gate_when
  cases c <;> rfl

theorem within_eq (n lo hi : Int) : gate_within n lo hi = (ckR n lo hi, ()) := by
  unfold gate_within ckR
  by_cases h1 : n < lo
  · rw [bifT (dec_true h1), when_eq, cond_true, if_pos (.inl h1)]
  · rw [bifF (dec_false h1), when_eq]
    by_cases h2 : n > hi
    · rw [dec_true h2, cond_true, if_pos (.inr h2)]
    · rw [dec_false h2, cond_false, if_neg (by omega)]

theorem find_first (l : List Int) : l.findSome? (fun e => if e != 0 then some (e, ()) else none) = (l.find? (· != 0)).map fun e => (e, ()) := by
  induction l with
  | nil => rfl
  | cons e l ih =>
    rw [List.findSome?_cons, List.find?_cons]
    cases he : (e != 0) with
    | true => rfl
    | false => simpa using ih

theorem gfirst_eq (l : List Int) (h : l.length < lenMax) : gate_first_M l = some (firstE l, ()) := by
  unfold gate_first_M
  rw [bifT (dec_true h), loopL_find (fun e => if e != 0 then some (e, ()) else none) l 0 (fun i e _ => by
    unfold gate_first_b0
    cases he : (e != 0) <;> rfl), find_first]
  unfold firstE gate_first_f0
  cases l.find? (· != 0) <;> rfl

theorem idx_nat {α : Type} (l : List α) (i : Nat) : idx l (i : Int) = l[i]? := by
  unfold idx
  rw [if_pos (Int.natCast_nonneg i)]
  rfl

/-- The first element of which something is said, its place at hand. -/
theorem loopL_findI {α β : Type} {body : Int → α → Unit → Option (β ⊕ Unit)} {fin : Unit → Option β} (xs : List α) (p : α → Option β) :
    ∀ (l done : List α), xs = done ++ l → (∀ (i : Nat) e, xs[i]? = some e → body (i : Int) e () = some (match p e with | some y => .inl y | none => .inr ())) →
      loopL body fin (done.length : Int) l () = match l.findSome? p with | some y => some y | none => fin ()
  | [], done, _, _ => rfl
  | e :: l, done, hx, h => by
    rw [loopL_cons, h done.length e (by rw [hx]; simp), List.findSome?_cons]
    cases p e with
    | none =>
      have := loopL_findI (body := body) (fin := fin) xs p l (done ++ [e]) (by rw [hx]; simp) h
      simp only [List.length_append, List.length_cons, List.length_nil] at this
      exact this
    | some y => rfl

theorem rfirst_eq (l : List Int) (h : l.length < lenMax) : ref01_First_M l = some (firstE l, ()) := by
  unfold ref01_First_M
  have := loopL_findI (body := fun i__ e__ s__ => ref01_First_b0 l i__ e__) (fin := fun s__ => ref01_First_f0 l) l (fun e => if e != 0 then some (e, ()) else none) l [] rfl (fun i e hi => by
    unfold ref01_First_b0
    cases he : (e != 0) with
    | true => rw [idx_nat, hi]; rfl
    | false => rfl)
  rw [bifT (dec_true h)]
  refine this.trans ?_
  rw [find_first]
  unfold firstE ref01_First_f0
  cases l.find? (· != 0) <;> rfl

/-! ### Names -/
def letterN (c : Nat) : Bool := decide (65 ≤ c ∧ c ≤ 90 ∨ 97 ≤ c ∧ c ≤ 122)
def otherN (c : Nat) : Bool := decide (48 ≤ c ∧ c ≤ 57 ∨ c = 95)
def nmOk : Bool → List UInt8 → Bool
  | _, [] => true
  | first, c :: l => (letterN c.toNat || (!first && otherN c.toNat)) && nmOk false l
def isNm (s : List UInt8) : Bool := nmOk true s && decide (0 < s.length ∧ s.length ≤ 24)

theorem rname_loop : ∀ (s0 s : List UInt8) (i : Int), 0 ≤ i → loopL (fun i__ e__ s__ => ref01_IsName_b2 s0 i__ e__) (fun s__ => ref01_IsName_f2 s0) i s () = some (nmOk (decide (i = 0)) s, ())
  | s0, [], i, _ => rfl
  | s0, c :: l, i, hi => by
    rw [loopL_cons]
    have ih := rname_loop s0 l (i + 1) (by omega)
    have e0 : decide (i + 1 = 0) = false := dec_false (by omega)
    rw [e0] at ih
    unfold nmOk
    have hb : ref01_IsName_b2 s0 i c = some (if (letterN c.toNat || (!decide (i = 0) && otherN c.toNat)) = true then .inr () else .inl (false, ())) := by
      unfold ref01_IsName_b2 ref01_IsName_s15 letterN otherN
      have g3 : (i == 0) = decide (i = 0) := by by_cases h : i = 0 <;> simp [h]
      have g4 : ((c.toNat : Int) != 95) = !decide ((c.toNat : Int) = 95) := by by_cases h : (c.toNat : Int) = 95 <;> simp [h]
      rw [g3, g4]
      by_cases h1 : (97 : Int) ≤ c.toNat <;> by_cases h2 : (c.toNat : Int) ≤ 122 <;> by_cases h3 : (65 : Int) ≤ c.toNat <;> by_cases h4 : (c.toNat : Int) ≤ 90 <;> by_cases h5 : (c.toNat : Int) < 48 <;> by_cases h6 : (c.toNat : Int) > 57 <;> by_cases h7 : (c.toNat : Int) = 95 <;> by_cases h8 : i = 0 <;>
        first
        | omega
        | (have g1 : (decide (65 ≤ c.toNat ∧ c.toNat ≤ 90 ∨ 97 ≤ c.toNat ∧ c.toNat ≤ 122)) = decide ((65 : Int) ≤ c.toNat ∧ (c.toNat : Int) ≤ 90 ∨ (97 : Int) ≤ c.toNat ∧ (c.toNat : Int) ≤ 122) := by
            apply decide_eq_decide.2; omega
           have g2 : (decide (48 ≤ c.toNat ∧ c.toNat ≤ 57 ∨ c.toNat = 95)) = decide (¬ (c.toNat : Int) < 48 ∧ ¬ (c.toNat : Int) > 57 ∨ (c.toNat : Int) = 95) := by
            apply decide_eq_decide.2; omega
           rw [g1, g2]
           simp [h1, h2, h3, h4, h5, h6, h7, h8])
    rw [hb]
    simp only [Option.bind_some]
    by_cases hc : (letterN c.toNat || (!decide (i = 0) && otherN c.toNat)) = true
    · rw [if_pos hc, hc, Bool.true_and]
      exact ih
    · rw [if_neg hc, Bool.eq_false_iff.2 hc]
      rfl

theorem rname_eq (s : List UInt8) : ref01_IsName_M s = some (isNm s, ()) := by
  unfold ref01_IsName_M isNm
  by_cases h0 : s.length = 0
  · have : ((s.length : Int) == 0) = true := by simp [h0]
    rw [bifT this, show decide (0 < s.length ∧ s.length ≤ 24) = false from dec_false (by omega), Bool.and_false]
  · have : ((s.length : Int) == 0) = false := by simpa using h0
    rw [bifF this]
    by_cases h1 : 24 < s.length
    · rw [bifT (dec_true (by omega)), show decide (0 < s.length ∧ s.length ≤ 24) = false from dec_false (by omega), Bool.and_false]
    · rw [bifF (dec_false (show ¬ ((s.length : Int) > 24) by omega)), bifT (dec_true (show s.length < lenMax by unfold lenMax; omega)), rname_loop s s 0 (by omega), dec_true rfl]
      rw [show decide (0 < s.length ∧ s.length ≤ 24) = true from dec_true ⟨by omega, by omega⟩, Bool.and_true]
theorem get_at {bs : List UInt8} {i : Nat} {c : UInt8} (h : bs[i]? = some c) : (⟨bs.toArray⟩ : ByteArray).get! i = c := by
  show bs.toArray[i]! = c
  rw [getElem!_def]
  simp [h]

theorem rune_ascii {bs : List UInt8} {i : Nat} {c : UInt8} (h : bs[i]? = some c) (hc : c.toNat < 128) : runeAt bs (i : Int) = ((c.toNat : Int), (i : Int) + 1) := by
  unfold runeAt Utf8.decode
  have h0 : (⟨bs.toArray⟩ : ByteArray).get! ((i : Int).toNat + 0) = c := by rw [Int.toNat_natCast, Nat.add_zero]; exact get_at h
  simp only [h0]
  rw [if_pos hc]
  rfl

theorem rune_high {bs : List UInt8} {i : Nat} {c : UInt8} (h : bs[i]? = some c) (hc : 128 ≤ c.toNat) : 128 ≤ (runeAt bs (i : Int)).1 := by
  unfold runeAt Utf8.decode
  have h0 : (⟨bs.toArray⟩ : ByteArray).get! ((i : Int).toNat + 0) = c := by rw [Int.toNat_natCast, Nat.add_zero]; exact get_at h
  simp only [h0]
  rw [if_neg (by omega)]
  have he : Utf8.runeError = 65533 := rfl
  split
  · split
    · rename_i h2; show (128 : Int) ≤ ((_ : Nat) : Int); omega
    · rw [he]; decide
  · split
    · split
      · rename_i h2; simp only [Bool.and_eq_true, decide_eq_true_eq] at h2; show (128 : Int) ≤ ((_ : Nat) : Int); omega
      · rw [he]; decide
    · split
      · split
        · rename_i h2; simp only [Bool.and_eq_true, decide_eq_true_eq] at h2; show (128 : Int) ≤ ((_ : Nat) : Int); omega
        · rw [he]; decide
      · rw [he]; decide

def letterI (r : Int) : Bool := decide (65 ≤ r ∧ r ≤ 90 ∨ 97 ≤ r ∧ r ≤ 122)
def otherI (r : Int) : Bool := decide (48 ≤ r ∧ r ≤ 57 ∨ r = 95)

theorem gname_body (s str : List UInt8) (pos : Int) : gauge_IsName_b0 s str pos = some (if (letterI (runeAt str pos).1 || (!decide (pos = 0) && otherI (runeAt str pos).1)) = true then .inr () else .inl (false, ())) := by
  unfold gauge_IsName_b0 gauge_IsName_s15 gauge_IsName_s14 letterI otherI
  generalize (runeAt str pos).1 = r
  have g3 : (pos == 0) = decide (pos = 0) := by by_cases h : pos = 0 <;> simp [h]
  have g4 : (r == 95) = decide (r = 95) := by by_cases h : r = 95 <;> simp [h]
  rw [g3, g4]
  by_cases h1 : r ≥ 97 <;> by_cases h2 : r ≤ 122 <;> by_cases h3 : r ≥ 65 <;> by_cases h4 : r ≤ 90 <;> by_cases h5 : r ≥ 48 <;> by_cases h6 : r ≤ 57 <;> by_cases h7 : r = 95 <;> by_cases h8 : pos = 0 <;>
    first
    | omega
    | simp [h1, h2, h3, h4, h5, h6, h7, h8]

theorem gname_loop (s : List UInt8) : ∀ (m i : Nat), s.length ≤ i + m → i ≤ s.length →
    loopS s (fun i__ s__ => gauge_IsName_b0 s s i__) (fun s__ => gauge_IsName_f0 s s) m (i : Int) () = bif nmOk (decide (i = 0)) (s.drop i) then gauge_IsName_f0 s s else some (false, ())
  | m, i, hm, hi => by
    by_cases hl : i = s.length
    · have e1 : s.drop i = [] := List.drop_eq_nil_of_le (by omega)
      have e2 : decide ((i : Int) < (s.length : Int)) = false := dec_false (by omega)
      rw [e1]
      cases m <;> (unfold loopS; rw [bifF e2]; rfl)
    · have hlt : i < s.length := by omega
      obtain ⟨m, rfl⟩ : ∃ k, m = k + 1 := ⟨m - 1, by omega⟩
      have hd : s.drop i = s[i] :: s.drop (i + 1) := (List.getElem_cons_drop (h := hlt)).symm
      have hg : s[i]? = some s[i] := List.getElem?_eq_getElem hlt
      have e0 : decide ((i : Int) = 0) = decide (i = 0) := decide_eq_decide.2 (by omega)
      unfold loopS
      rw [bifT (dec_true (show (i : Int) < (s.length : Int) by omega)), gname_body, hd, e0]
      simp only [Option.bind_some]
      by_cases hc : s[i].toNat < 128
      · rw [rune_ascii hg hc]
        have e1 : letterI (s[i].toNat : Int) = letterN s[i].toNat := decide_eq_decide.2 (by omega)
        have e2 : otherI (s[i].toNat : Int) = otherN s[i].toNat := decide_eq_decide.2 (by omega)
        simp only [e1, e2, nmOk]
        by_cases hb : (letterN s[i].toNat || (!decide (i = 0) && otherN s[i].toNat)) = true
        · rw [if_pos hb, hb, Bool.true_and]
          have ih := gname_loop s m (i + 1) (by omega) (by omega)
          have e3 : decide (i + 1 = 0) = false := dec_false (by omega)
          rw [e3, show ((i + 1 : Nat) : Int) = (i : Int) + 1 by omega] at ih
          exact ih
        · rw [if_neg hb, Bool.eq_false_iff.2 hb, Bool.false_and]
          rfl
      · have h1 := rune_high hg (by omega)
        have e1 : letterI (runeAt s (i : Int)).1 = false := dec_false (by omega)
        have e2 : otherI (runeAt s (i : Int)).1 = false := dec_false (by omega)
        have e3 : letterN s[i].toNat = false := dec_false (by omega)
        have e4 : otherN s[i].toNat = false := dec_false (by omega)
        simp [e1, e2, nmOk, e3, e4]

theorem gname_eq (s : List UInt8) (h : s.length < lenMax) : gauge_IsName_M s = some (isNm s, ()) := by
  unfold gauge_IsName_M
  have := gname_loop s s.length 0 (by omega) (by omega)
  rw [List.drop_zero, show decide (0 = 0) = true from rfl] at this
  rw [bifT (dec_true h)]
  refine (show _ = _ from this).trans ?_
  unfold isNm gauge_IsName_f0
  cases hn : nmOk true s with
  | false => rfl
  | true =>
    rw [cond_true, Bool.true_and]
    cases s with
    | nil => rfl
    | cons c l =>
      have e : decide (((c :: l).length : Int) ≤ 24) = decide (0 < (c :: l).length ∧ (c :: l).length ≤ 24) := decide_eq_decide.2 (by simp only [List.length_cons]; omega)
      rw [← e]
      rfl

def firstOf (a b : Int) : Int := if a != 0 then a else b
theorem firstE_nil : firstE [] = 0 := rfl
theorem firstE_cons (a : Int) (l : List Int) : firstE (a :: l) = firstOf a (firstE l) := by
  unfold firstE firstOf
  rw [List.find?_cons]
  cases h : (a != 0) <;> rfl
theorem firstOf_zero (a : Int) : firstOf a 0 = a := by
  unfold firstOf
  by_cases h : a = 0 <;> simp [h]

theorem idx_mid {α : Type} (p : List α) (x : α) (r : List α) (i : Int) (hi : i = (p.length : Int)) : idx (p ++ x :: r) i = some x := by
  subst hi
  rw [idx_nat]
  simp

theorem loopL_same {α β : Type} {body : Int → α → Unit → Option (β ⊕ Unit)} {fin : Unit → Option β} (l : List α) (h : ∀ (p : List α) (x : α) (r : List α), l = p ++ x :: r → body (p.length : Int) x () = some (.inr ())) :
    ∀ (r p : List α) (i : Int), l = p ++ r → i = (p.length : Int) → loopL body fin i r () = fin ()
  | [], p, i, _, _ => rfl
  | x :: r, p, i, hl, hi => by
    rw [loopL_cons, hi, h p x r hl]
    simp only [Option.bind_some]
    exact loopL_same l h r (p ++ [x]) _ (by rw [hl]; simp) (by simp)

theorem rcheckName_eq (s : List UInt8) : ref01_CheckName_M s = some (bif isNm s then 0 else 8, ()) := by
  unfold ref01_CheckName_M ref01_CheckName_m
  rw [rname_eq]
  cases isNm s <;> rfl

theorem gcheckName_eq (s : List UInt8) (h : s.length < lenMax) : gate_checkName_M s = some (bif isNm s then 0 else 8, ()) := by
  unfold gate_checkName_M gate_checkName_m
  rw [gname_eq s h]
  simp only [Option.bind_some, when_eq]
  cases isNm s <;> rfl

/-! ### Maps -/
theorem wrapS {i : Int} (h0 : -9223372036854775808 ≤ i) (h1 : i ≤ 9223372036854775807) : IntKind.i64.wrap i = i := by
  unfold IntKind.wrap IntKind.bits IntKind.signed
  simp only [Nat.reduceSub, Int.reducePow, decide_eq_true_eq, Bool.true_and]
  split <;> omega
end Go.Tw
end

section
set_option linter.all false
set_option maxRecDepth 100000
namespace Go.Tw
open Go.Vx Go.Vx.B Go.Proofs

/-! ### Their errors -/
/-! ### What is known -/
/-! ### Executed -/
/-! ### Lost -/
end Go.Tw
end

section
set_option linter.all false
set_option maxRecDepth 100000
namespace Go.Tw
open Go.Vx Go.Vx.B Go.Proofs

abbrev nmE (s : List UInt8) : Int := bif isNm s then 0 else 8
def evF (s : List (List UInt8)) (t : Tra) : List (List UInt8) := bif s.contains t.2.1 then s else s ++ [t.2.1]
def evts (l : List Tra) : List (List UInt8) := l.foldl evF []

/-! ### Loops that gather -/
section
variable {α β σ : Type}
end

/-! ### Words and numbers in lists -/
/-! ### Events -/
/-! ### The reference's check -/
theorem firstOf_nz {a : Int} (h : a ≠ 0) (x : Int) : firstOf a x = a := by
  unfold firstOf
  rw [if_pos (by simpa using h)]

/-- An error ends all; without one it goes on. -/
def seqE (e : Int) (k : Option (Int × Unit)) : Option (Int × Unit) := bif e != 0 then some (e, ()) else k
theorem seqE_nz {a : Int} (h : a ≠ 0) (k : Option (Int × Unit)) : seqE a k = some (a, ()) := bifT (by simpa using h)
theorem seqE_some (a b : Int) : seqE a (some (b, ())) = some (firstOf a b, ()) := by
  by_cases h : a = 0
  · subst h; rfl
  · rw [firstOf_nz h, seqE_nz h]
theorem loopL_seq {α : Type} {body : Int → α → Unit → Option ((Int × Unit) ⊕ Unit)} {fin : Unit → Option (Int × Unit)} {i : Int} {e : α} {l : List α} {a : Int} (hb : body i e () = some (bif a != 0 then .inl (a, ()) else .inr ())) :
    loopL body fin i (e :: l) () = seqE a (loopL body fin (i + 1) l ()) := by
  rw [loopL_cons, hb]
  unfold seqE
  cases (a != 0) <;> rfl

end Go.Tw
end

section
set_option linter.all false
set_option maxRecDepth 100000
namespace Go.Tw
open Go.Vx Go.Vx.B Go.Proofs

/-! ### Transitions -/
/-! ### Valid charts -/
structure Valid (c : Cha) : Prop where
  pos : 0 < c.1.length
  few : c.1.length ≤ 16
  parent : ∀ (i : Nat) (s : Sta), c.1[i]? = some s → -1 ≤ s.2.1 ∧ s.2.1 < i
  initial : ∀ (i : Nat) (s : Sta), c.1[i]? = some s → s.2.2.1 = -1 ∨ ((i : Int) < s.2.2.1 ∧ s.2.2.1 < c.1.length)
  moves : c.2.1.length ≤ 48
  tra : ∀ t ∈ c.2.1, 0 ≤ t.1 ∧ t.1 < c.1.length ∧ 0 ≤ t.2.2.1 ∧ t.2.2.1 < c.1.length ∧ isNm t.2.1 = true ∧ 0 ≤ t.2.2.2.1 ∧ t.2.2.2.1 ≤ 15 ∧ 0 ≤ t.2.2.2.2.1 ∧ t.2.2.2.2.1 ≤ 15
  kinds : (evts c.2.1).length ≤ 8

end Go.Tw
end

section
set_option linter.all false
set_option maxRecDepth 100000
namespace Go.Tw
open Go.Vx Go.Vx.B Go.Proofs

section
variable {α β γ σ : Type}
/-- The elements that are kept. -/
theorem loopL_filter {body : Int → α → List α → Option (β ⊕ List α)} {fin : List α → Option β} (p : α → Bool) :
    ∀ (l : List α) (i : Int) (s : List α), s.length + l.length ≤ memMax → (∀ i e s, e ∈ l → s.length + 1 ≤ memMax → body i e s = some (.inr (bif p e then s ++ [e] else s))) → loopL body fin i l s = fin (s ++ l.filter p)
  | [], i, s, _, _ => by simp [loopL_nil]
  | e :: l, i, s, hl, h => by
    simp only [List.length_cons] at hl
    rw [loopL_cons, h i e s (by simp) (by omega)]
    simp only [Option.bind_some]
    cases hp : p e with
    | true =>
      rw [cond_true, loopL_filter p l (i + 1) (s ++ [e]) (by simp; omega) fun i e s he hs => h i e s (by simp [he]) hs]
      simp [List.filter_cons, hp]
    | false =>
      rw [cond_false, loopL_filter p l (i + 1) s (by omega) fun i e s he hs => h i e s (by simp [he]) hs]
      simp [List.filter_cons, hp]
end

/-! ### Leaves -/
/-! ### Entering -/
/-! ### What fits -/
end Go.Tw
end
