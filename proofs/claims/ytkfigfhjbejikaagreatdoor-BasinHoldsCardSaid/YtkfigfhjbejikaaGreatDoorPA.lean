/- P1: plain laws: loops as functions of lists; ranges, first errors, names.
P2: names of the program: runes and bytes; nodes, links, volumes, conditions: their errors.
P3: links, basins, volumes, conditions: their errors, in the program and in the reference.
P4: basins, volumes, conditions: their errors, in the program and in the reference.
P5: a step of the program and of the reference; until a level is reached.
P6: a step of the program is that of the reference.
P7: a step of the program is that of the reference (the loops together); until a level is reached.
P8: until a level is reached: the program is the reference; the law. -/
import Derived.Test.YtkfigfhjbejikaaGreatDoorBE

section
set_option linter.all false
set_option maxRecDepth 100000
namespace Go.Tw
open Go.Vx Go.Vx.B Go.Proofs

section
variable {α β γ σ : Type}

theorem loopL_nil {body : Int → α → σ → Option (β ⊕ σ)} {fin : σ → Option β} {i : Int} {s : σ} : loopL body fin i [] s = fin s := rfl
theorem loopL_cons {body : Int → α → σ → Option (β ⊕ σ)} {fin : σ → Option β} {i : Int} {e : α} {l : List α} {s : σ} : loopL body fin i (e :: l) s = (body i e s).bind fun z => match z with
    | .inl y => some y
    | .inr s' => loopL body fin (i + 1) l s' := rfl

/-- The first element of which something is said. -/
theorem loopL_find {body : Int → α → Unit → Option (β ⊕ Unit)} {fin : Unit → Option β} (p : α → Option β) :
    ∀ (l : List α) (i : Int), (∀ i e, e ∈ l → body i e () = some (match p e with | some y => .inl y | none => .inr ())) → loopL body fin i l () = match l.findSome? p with | some y => some y | none => fin ()
  | [], i, _ => rfl
  | e :: l, i, h => by
    rw [loopL_cons, h i e (by simp), List.findSome?_cons]
    cases p e with
    | none => exact loopL_find p l (i + 1) fun i e he => h i e (by simp [he])
    | some y => rfl

/-- A list is turned element by element. -/
theorem loopL_app {body : Int → α → List γ → Option (β ⊕ List γ)} {fin : List γ → Option β} (f : α → γ) :
    ∀ (l : List α) (i : Int) (s : List γ), s.length + l.length ≤ memMax → (∀ i e s, e ∈ l → s.length + 1 ≤ memMax → body i e s = some (.inr (s ++ [f e]))) → loopL body fin i l s = fin (s ++ l.map f)
  | [], i, s, _, _ => by simp [loopL_nil]
  | e :: l, i, s, hl, h => by
    simp only [List.length_cons] at hl
    rw [loopL_cons, h i e s (by simp) (by omega)]
    simp only [Option.bind_some]
    rw [loopL_app f l (i + 1) (s ++ [f e]) (by simp; omega) fun i e s he hs => h i e s (by simp [he]) hs]
    simp
end

theorem dec_true {p : Prop} [Decidable p] (h : p) : decide p = true := decide_eq_true h
theorem dec_false {p : Prop} [Decidable p] (h : ¬ p) : decide p = false := decide_eq_false h
theorem bifT {α : Type} {c : Bool} {a b : α} (h : c = true) : (bif c then a else b) = a := by rw [h]; rfl
theorem bifF {α : Type} {c : Bool} {a b : α} (h : c = false) : (bif c then a else b) = b := by rw [h]; rfl

theorem memMax_lt : memMax < lenMax := by decide

/-! ### Ranges and first errors -/
def ckR (n lo hi : Int) : Int := if n < lo ∨ hi < n then 3 else 0
def firstE (l : List Int) : Int := (l.find? (· != 0)).getD 0

theorem checkRange_eq (n lo hi : Int) : zp n lo hi = (ckR n lo hi, ()) := by
  unfold zp ckR
  by_cases h1 : n < lo
  · rw [bifT (dec_true h1), if_pos (.inl h1)]
  · rw [bifF (dec_false h1)]
    by_cases h2 : n > hi
    · rw [bifT (dec_true h2), if_pos (.inr h2)]
    · rw [bifF (dec_false h2), if_neg (by omega)]

theorem when_eq (c : Bool) (e : Int) : z0k c e = (bif c then e else 0, ()) := by
  unfold z0k
  cases c <;> rfl

theorem within_eq (n lo hi : Int) : z0I n lo hi = (ckR n lo hi, ()) := by
  unfold z0I ckR
  by_cases h1 : n < lo
  · rw [bifT (dec_true h1), when_eq, cond_true, if_pos (.inl h1)]
  · rw [bifF (dec_false h1), when_eq]
    by_cases h2 : n > hi
    · rw [dec_true h2, cond_true, if_pos (.inr h2)]
    · rw [dec_false h2, cond_false, if_neg (by omega)]

theorem find_first (l : List Int) : l.findSome? (fun e => if e != 0 then some (e, ()) else none) = (l.find? (· != 0)).map fun e => (e, ()) := by
  induction l with
  | nil => rfl
  | cons e l ih =>
    rw [List.findSome?_cons, List.find?_cons]
    cases he : (e != 0) with
    | true => rfl
    | false => simpa using ih

theorem bfirst_eq (l : List Int) (h : l.length < lenMax) : z0W_M l = some (firstE l, ()) := by
  unfold z0W_M
  rw [bifT (dec_true h), loopL_find (fun e => if e != 0 then some (e, ()) else none) l 0 (fun i e _ => by
    unfold z0W_b0
    cases he : (e != 0) <;> rfl), find_first]
  unfold firstE z0W_f0
  cases l.find? (· != 0) <;> rfl

theorem idx_nat {α : Type} (l : List α) (i : Nat) : idx l (i : Int) = l[i]? := by
  unfold idx
  rw [if_pos (Int.natCast_nonneg i)]
  rfl

/-- The first element of which something is said, its place at hand. -/
theorem loopL_findI {α β : Type} {body : Int → α → Unit → Option (β ⊕ Unit)} {fin : Unit → Option β} (xs : List α) (p : α → Option β) :
    ∀ (l done : List α), xs = done ++ l → (∀ (i : Nat) e, xs[i]? = some e → body (i : Int) e () = some (match p e with | some y => .inl y | none => .inr ())) →
      loopL body fin (done.length : Int) l () = match l.findSome? p with | some y => some y | none => fin ()
  | [], done, _, _ => rfl
  | e :: l, done, hx, h => by
    rw [loopL_cons, h done.length e (by rw [hx]; simp), List.findSome?_cons]
    cases p e with
    | none =>
      have := loopL_findI (body := body) (fin := fin) xs p l (done ++ [e]) (by rw [hx]; simp) h
      simp only [List.length_append, List.length_cons, List.length_nil] at this
      exact this
    | some y => rfl

theorem rfirst_eq (l : List Int) (h : l.length < lenMax) : z0b_M l = some (firstE l, ()) := by
  unfold z0b_M
  have := loopL_findI (body := fun i__ e__ s__ => z0b_b0 l i__ e__) (fin := fun s__ => z0b_f0 l) l (fun e => if e != 0 then some (e, ()) else none) l [] rfl (fun i e hi => by
    unfold z0b_b0
    cases he : (e != 0) with
    | true => rw [idx_nat, hi]; rfl
    | false => rfl)
  rw [bifT (dec_true h)]
  refine this.trans ?_
  rw [find_first]
  unfold firstE z0b_f0
  cases l.find? (· != 0) <;> rfl

/-! ### Names -/
def letterN (c : Nat) : Bool := decide (65 ≤ c ∧ c ≤ 90 ∨ 97 ≤ c ∧ c ≤ 122)
def otherN (c : Nat) : Bool := decide (48 ≤ c ∧ c ≤ 57 ∨ c = 95)
def nmOk : Bool → List UInt8 → Bool
  | _, [] => true
  | first, c :: l => (letterN c.toNat || (!first && otherN c.toNat)) && nmOk false l
def isNm (s : List UInt8) : Bool := nmOk true s && decide (0 < s.length ∧ s.length ≤ 24)

theorem rname_loop : ∀ (s0 s : List UInt8) (i : Int), 0 ≤ i → loopL (fun i__ e__ s__ => z0M_b2 s0 i__ e__) (fun s__ => z0M_f2 s0) i s () = some (nmOk (decide (i = 0)) s, ())
  | s0, [], i, _ => rfl
  | s0, c :: l, i, hi => by
    rw [loopL_cons]
    have ih := rname_loop s0 l (i + 1) (by omega)
    have e0 : decide (i + 1 = 0) = false := dec_false (by omega)
    rw [e0] at ih
    unfold nmOk
    have hb : z0M_b2 s0 i c = some (if (letterN c.toNat || (!decide (i = 0) && otherN c.toNat)) = true then .inr () else .inl (false, ())) := by
      unfold z0M_b2 z0M_s15 letterN otherN
      have g3 : (i == 0) = decide (i = 0) := by by_cases h : i = 0 <;> simp [h]
      have g4 : ((c.toNat : Int) != 95) = !decide ((c.toNat : Int) = 95) := by by_cases h : (c.toNat : Int) = 95 <;> simp [h]
      rw [g3, g4]
      by_cases h1 : (97 : Int) ≤ c.toNat <;> by_cases h2 : (c.toNat : Int) ≤ 122 <;> by_cases h3 : (65 : Int) ≤ c.toNat <;> by_cases h4 : (c.toNat : Int) ≤ 90 <;> by_cases h5 : (c.toNat : Int) < 48 <;> by_cases h6 : (c.toNat : Int) > 57 <;> by_cases h7 : (c.toNat : Int) = 95 <;> by_cases h8 : i = 0 <;>
        first
        | omega
        | (have g1 : (decide (65 ≤ c.toNat ∧ c.toNat ≤ 90 ∨ 97 ≤ c.toNat ∧ c.toNat ≤ 122)) = decide ((65 : Int) ≤ c.toNat ∧ (c.toNat : Int) ≤ 90 ∨ (97 : Int) ≤ c.toNat ∧ (c.toNat : Int) ≤ 122) := by
            apply decide_eq_decide.2; omega
           have g2 : (decide (48 ≤ c.toNat ∧ c.toNat ≤ 57 ∨ c.toNat = 95)) = decide (¬ (c.toNat : Int) < 48 ∧ ¬ (c.toNat : Int) > 57 ∨ (c.toNat : Int) = 95) := by
            apply decide_eq_decide.2; omega
           rw [g1, g2]
           simp [h1, h2, h3, h4, h5, h6, h7, h8])
    rw [hb]
    simp only [Option.bind_some]
    by_cases hc : (letterN c.toNat || (!decide (i = 0) && otherN c.toNat)) = true
    · rw [if_pos hc, hc, Bool.true_and]
      exact ih
    · rw [if_neg hc, Bool.eq_false_iff.2 hc]
      rfl

theorem rname_eq (s : List UInt8) : z0M_M s = some (isNm s, ()) := by
  unfold z0M_M isNm
  by_cases h0 : s.length = 0
  · have : ((s.length : Int) == 0) = true := by simp [h0]
    rw [bifT this, show decide (0 < s.length ∧ s.length ≤ 24) = false from dec_false (by omega), Bool.and_false]
  · have : ((s.length : Int) == 0) = false := by simpa using h0
    rw [bifF this]
    by_cases h1 : 24 < s.length
    · rw [bifT (dec_true (by omega)), show decide (0 < s.length ∧ s.length ≤ 24) = false from dec_false (by omega), Bool.and_false]
    · rw [bifF (dec_false (show ¬ ((s.length : Int) > 24) by omega)), bifT (dec_true (show s.length < lenMax by unfold lenMax; omega)), rname_loop s s 0 (by omega), dec_true rfl]
      rw [show decide (0 < s.length ∧ s.length ≤ 24) = true from dec_true ⟨by omega, by omega⟩, Bool.and_true]
end Go.Tw
end

section
set_option linter.all false
set_option maxRecDepth 100000
namespace Go.Tw
open Go.Vx Go.Vx.B Go.Proofs

theorem get_at {bs : List UInt8} {i : Nat} {c : UInt8} (h : bs[i]? = some c) : (⟨bs.toArray⟩ : ByteArray).get! i = c := by
  show bs.toArray[i]! = c
  rw [getElem!_def]
  simp [h]

theorem rune_ascii {bs : List UInt8} {i : Nat} {c : UInt8} (h : bs[i]? = some c) (hc : c.toNat < 128) : runeAt bs (i : Int) = ((c.toNat : Int), (i : Int) + 1) := by
  unfold runeAt Utf8.decode
  have h0 : (⟨bs.toArray⟩ : ByteArray).get! ((i : Int).toNat + 0) = c := by rw [Int.toNat_natCast, Nat.add_zero]; exact get_at h
  simp only [h0]
  rw [if_pos hc]
  rfl

theorem rune_high {bs : List UInt8} {i : Nat} {c : UInt8} (h : bs[i]? = some c) (hc : 128 ≤ c.toNat) : 128 ≤ (runeAt bs (i : Int)).1 := by
  unfold runeAt Utf8.decode
  have h0 : (⟨bs.toArray⟩ : ByteArray).get! ((i : Int).toNat + 0) = c := by rw [Int.toNat_natCast, Nat.add_zero]; exact get_at h
  simp only [h0]
  rw [if_neg (by omega)]
  have he : Utf8.runeError = 65533 := rfl
  split
  · split
    · rename_i h2; show (128 : Int) ≤ ((_ : Nat) : Int); omega
    · rw [he]; decide
  · split
    · split
      · rename_i h2; simp only [Bool.and_eq_true, decide_eq_true_eq] at h2; show (128 : Int) ≤ ((_ : Nat) : Int); omega
      · rw [he]; decide
    · split
      · split
        · rename_i h2; simp only [Bool.and_eq_true, decide_eq_true_eq] at h2; show (128 : Int) ≤ ((_ : Nat) : Int); omega
        · rw [he]; decide
      · rw [he]; decide

def letterI (r : Int) : Bool := decide (65 ≤ r ∧ r ≤ 90 ∨ 97 ≤ r ∧ r ≤ 122)
def otherI (r : Int) : Bool := decide (48 ≤ r ∧ r ≤ 57 ∨ r = 95)

theorem gname_body (s str : List UInt8) (pos : Int) : z0J_b0 s str pos = some (if (letterI (runeAt str pos).1 || (!decide (pos = 0) && otherI (runeAt str pos).1)) = true then .inr () else .inl (false, ())) := by
  unfold z0J_b0 z0J_s15 z0J_s14 letterI otherI
  generalize (runeAt str pos).1 = r
  have g3 : (pos == 0) = decide (pos = 0) := by by_cases h : pos = 0 <;> simp [h]
  have g4 : (r == 95) = decide (r = 95) := by by_cases h : r = 95 <;> simp [h]
  rw [g3, g4]
  by_cases h1 : r ≥ 97 <;> by_cases h2 : r ≤ 122 <;> by_cases h3 : r ≥ 65 <;> by_cases h4 : r ≤ 90 <;> by_cases h5 : r ≥ 48 <;> by_cases h6 : r ≤ 57 <;> by_cases h7 : r = 95 <;> by_cases h8 : pos = 0 <;>
    first
    | omega
    | simp [h1, h2, h3, h4, h5, h6, h7, h8]

theorem gname_loop (s : List UInt8) : ∀ (m i : Nat), s.length ≤ i + m → i ≤ s.length →
    loopS s (fun i__ s__ => z0J_b0 s s i__) (fun s__ => z0J_f0 s s) m (i : Int) () = bif nmOk (decide (i = 0)) (s.drop i) then z0J_f0 s s else some (false, ())
  | m, i, hm, hi => by
    by_cases hl : i = s.length
    · have e1 : s.drop i = [] := List.drop_eq_nil_of_le (by omega)
      have e2 : decide ((i : Int) < (s.length : Int)) = false := dec_false (by omega)
      rw [e1]
      cases m <;> (unfold loopS; rw [bifF e2]; rfl)
    · have hlt : i < s.length := by omega
      obtain ⟨m, rfl⟩ : ∃ k, m = k + 1 := ⟨m - 1, by omega⟩
      have hd : s.drop i = s[i] :: s.drop (i + 1) := (List.getElem_cons_drop (h := hlt)).symm
      have hg : s[i]? = some s[i] := List.getElem?_eq_getElem hlt
      have e0 : decide ((i : Int) = 0) = decide (i = 0) := decide_eq_decide.2 (by omega)
      unfold loopS
      rw [bifT (dec_true (show (i : Int) < (s.length : Int) by omega)), gname_body, hd, e0]
      simp only [Option.bind_some]
      by_cases hc : s[i].toNat < 128
      · rw [rune_ascii hg hc]
        have e1 : letterI (s[i].toNat : Int) = letterN s[i].toNat := decide_eq_decide.2 (by omega)
        have e2 : otherI (s[i].toNat : Int) = otherN s[i].toNat := decide_eq_decide.2 (by omega)
        simp only [e1, e2, nmOk]
        by_cases hb : (letterN s[i].toNat || (!decide (i = 0) && otherN s[i].toNat)) = true
        · rw [if_pos hb, hb, Bool.true_and]
          have ih := gname_loop s m (i + 1) (by omega) (by omega)
          have e3 : decide (i + 1 = 0) = false := dec_false (by omega)
          rw [e3, show ((i + 1 : Nat) : Int) = (i : Int) + 1 by omega] at ih
          exact ih
        · rw [if_neg hb, Bool.eq_false_iff.2 hb, Bool.false_and]
          rfl
      · have h1 := rune_high hg (by omega)
        have e1 : letterI (runeAt s (i : Int)).1 = false := dec_false (by omega)
        have e2 : otherI (runeAt s (i : Int)).1 = false := dec_false (by omega)
        have e3 : letterN s[i].toNat = false := dec_false (by omega)
        have e4 : otherN s[i].toNat = false := dec_false (by omega)
        simp [e1, e2, nmOk, e3, e4]

theorem gname_eq (s : List UInt8) (h : s.length < lenMax) : z0J_M s = some (isNm s, ()) := by
  unfold z0J_M
  have := gname_loop s s.length 0 (by omega) (by omega)
  rw [List.drop_zero, show decide (0 = 0) = true from rfl] at this
  rw [bifT (dec_true h)]
  refine (show _ = _ from this).trans ?_
  unfold isNm z0J_f0
  cases hn : nmOk true s with
  | false => rfl
  | true =>
    rw [cond_true, Bool.true_and]
    cases s with
    | nil => rfl
    | cons c l =>
      have e : decide (((c :: l).length : Int) ≤ 24) = decide (0 < (c :: l).length ∧ (c :: l).length ≤ 24) := decide_eq_decide.2 (by simp only [List.length_cons]; omega)
      rw [← e]
      rfl

/-! ### Nodes -/
def firstOf (a b : Int) : Int := if a != 0 then a else b
theorem firstE_nil : firstE [] = 0 := rfl
theorem firstE_cons (a : Int) (l : List Int) : firstE (a :: l) = firstOf a (firstE l) := by
  unfold firstE firstOf
  rw [List.find?_cons]
  cases h : (a != 0) <;> rfl
theorem firstOf_zero (a : Int) : firstOf a 0 = a := by
  unfold firstOf
  by_cases h : a = 0 <;> simp [h]

/-- The error of a node behind others. -/
def nodeE (done : List Nod) (n : Nod) : Int :=
  firstE [bif isNm n.1 then 0 else 8, bif done.any (fun d => d.1 == n.1) then 9 else 0, ckR n.2.1 1 1000, ckR n.2.2.1 0 1024]

def nodesE : List Nod → List Nod → Int
  | _, [] => 0
  | done, n :: l => firstOf (nodeE done n) (nodesE (done ++ [n]) l)

def ckNodes (l : List Nod) : Int := if l.length = 0 then 12 else if 8 < l.length then 5 else nodesE [] l

theorem twice_loop (l : List Nod) (i : Nat) (n : Nod) (hn : l[i]? = some n) {fin : Unit → Option ((Int × Unit) ⊕ Unit)} : ∀ (m k : Nat), k + m = i →
    loopN (fun i__ s__ => zr_b3 l (i : Int) i__) fin m (k : Int) () = if ((l.drop k).take m).any (fun d => d.1 == n.1) = true then some (.inl (9, ())) else fin ()
  | 0, k, _ => by simp [loopN]
  | m + 1, k, hk => by
    have hi : i < l.length := (List.getElem?_eq_some_iff.1 hn).1
    have hkl : k < l.length := by omega
    unfold loopN
    have hb : zr_b3 l (i : Int) (k : Int) = some (if (l[k].1 == n.1) = true then .inl (.inl (9, ())) else .inr ()) := by
      unfold zr_b3
      rw [idx_nat, idx_nat, hn, List.getElem?_eq_getElem hkl]
      simp only [Option.bind_some]
      cases (l[k].1 == n.1) <;> rfl
    rw [hb]
    simp only [Option.bind_some]
    have hd : (l.drop k).take (m + 1) = l[k] :: (l.drop (k + 1)).take m := by
      rw [← List.getElem_cons_drop (h := hkl), List.take_succ_cons]
    rw [hd, List.any_cons]
    cases h : (l[k].1 == n.1) with
    | true => rfl
    | false =>
      rw [if_neg (by simp), Bool.false_or]
      have ih := twice_loop l i n hn (fin := fin) m (k + 1) (by omega)
      rw [show ((k + 1 : Nat) : Int) = (k : Int) + 1 by omega] at ih
      exact ih

theorem rnodes_body (l : List Nod) (hl : l.length ≤ 8) (i : Nat) (n : Nod) (hn : l[i]? = some n) :
    zr_b0 l (i : Int) n = some (bif nodeE (l.take i) n != 0 then .inl (nodeE (l.take i) n, ()) else .inr ()) := by
  have hi : i < l.length := (List.getElem?_eq_some_iff.1 hn).1
  unfold zr_b0
  rw [rname_eq]
  simp only [Option.bind_some]
  unfold nodeE
  cases hnm : isNm n.1 with
  | false =>
    simp only [Bool.not_false, cond_true, firstE_cons]
    rfl
  | true =>
    simp only [Bool.not_true, cond_false]
    rw [bifT (dec_true (show (i : Int) ≤ 9223372036854775807 by omega))]
    have e1 : ((i : Int) - 0).toNat = i := by omega
    rw [e1]
    have := twice_loop l i n hn (fin := fun s__ => zr_f3 l (i : Int)) i 0 (by omega)
    rw [show ((0 : Nat) : Int) = 0 from rfl] at this
    rw [this, List.drop_zero]
    cases hany : (l.take i).any (fun d => d.1 == n.1) with
    | true =>
      rw [if_pos rfl]
      simp [firstE_cons, firstOf]
    | false =>
      rw [if_neg (by simp)]
      unfold zr_f3
      rw [idx_nat, hn]
      simp only [Option.bind_some, checkRange_eq]
      rw [rfirst_eq _ (by simp [lenMax])]
      simp only [Option.bind_some]
      have e2 : firstE [bif true then 0 else 8, bif false then 9 else 0, ckR n.2.1 1 1000, ckR n.2.2.1 0 1024] = firstE [ckR n.2.1 1 1000, ckR n.2.2.1 0 1024] := by
        simp [firstE_cons, firstOf]
      rw [e2]
      cases (firstE [ckR n.2.1 1 1000, ckR n.2.2.1 0 1024] != 0) <;> rfl

theorem rnodes_loop (xs : List Nod) (hl : xs.length ≤ 8) : ∀ (l done : List Nod), xs = done ++ l →
    loopL (fun i__ e__ s__ => zr_b0 xs i__ e__) (fun s__ => zr_f0 xs) (done.length : Int) l () = some (nodesE done l, ())
  | [], done, _ => rfl
  | n :: l, done, hx => by
    have hn : xs[done.length]? = some n := by rw [hx]; simp
    rw [loopL_cons, rnodes_body xs hl done.length n hn]
    have ht : xs.take done.length = done := by rw [hx]; simp
    rw [ht]
    simp only [Option.bind_some, nodesE, firstOf]
    cases h : (nodeE done n != 0) with
    | true => rfl
    | false =>
      have ih := rnodes_loop xs hl l (done ++ [n]) (by rw [hx]; simp)
      simp only [List.length_append, List.length_cons, List.length_nil] at ih
      exact ih

theorem rnodes_eq (l : List Nod) : zr_M l = some (ckNodes l, ()) := by
  unfold zr_M ckNodes
  by_cases h0 : l.length = 0
  · rw [bifT (show ((l.length : Int) == 0) = true by simp [h0]), if_pos h0]
  · rw [bifF (show ((l.length : Int) == 0) = false by simpa using h0), if_neg h0]
    by_cases h8 : 8 < l.length
    · rw [bifT (dec_true (show (l.length : Int) > 8 by omega)), if_pos h8]
    · rw [bifF (dec_false (show ¬ (l.length : Int) > 8 by omega)), if_neg h8, bifT (dec_true (show l.length < lenMax by unfold lenMax; omega))]
      exact rnodes_loop l (by omega) l [] rfl
end Go.Tw
end

section
set_option linter.all false
set_option maxRecDepth 100000
namespace Go.Tw
open Go.Vx Go.Vx.B Go.Proofs
def kB : List UInt8 := [98, 97, 114, 114, 105, 101, 114]
def kL : List UInt8 := [108, 101, 97, 107]
def kO : List UInt8 := [111, 117, 116, 102, 97, 108, 108]
def kP : List UInt8 := [112, 117, 109, 112]
def kW : List UInt8 := [119, 101, 105, 114]

/-- Which ends of a kind are the sea. -/
def endsOf (k : List UInt8) : Option (Bool × Bool) :=
  if k = kB then some (true, false) else if k = kL then some (true, false) else if k = kO then some (false, true) else if k = kP then some (false, false) else if k = kW then some (false, false) else none
def fitN (n nodes : Int) (sea : Bool) : Bool := bif sea then n == -1 else decide (0 ≤ n) && decide (n < nodes)

def ckLink (x : Lnk) (nodes : Int) : Int :=
  match endsOf x.1 with
  | none => 13
  | some (s, t) => bif fitN x.2.1 nodes s && fitN x.2.2.1 nodes t then
      firstE [bif x.2.1 == x.2.2.1 then 17 else 0, ckR x.2.2.2.1 0 (bif s then 0 else 1024), ckR x.2.2.2.2.1 1 1000] else 10

theorem kinds_cases (k : List UInt8) : k = kB ∨ k = kL ∨ k = kO ∨ k = kP ∨ k = kW ∨ (k ≠ kB ∧ k ≠ kL ∧ k ≠ kO ∧ k ≠ kP ∧ k ≠ kW) := by
  by_cases h1 : k = kB
  · exact .inl h1
  by_cases h2 : k = kL
  · exact .inr (.inl h2)
  by_cases h3 : k = kO
  · exact .inr (.inr (.inl h3))
  by_cases h4 : k = kP
  · exact .inr (.inr (.inr (.inl h4)))
  by_cases h5 : k = kW
  · exact .inr (.inr (.inr (.inr (.inl h5))))
  exact .inr (.inr (.inr (.inr (.inr ⟨h1, h2, h3, h4, h5⟩))))

theorem small3 (a b c : Int) : [a, b, c].length < lenMax := by simp [lenMax]

theorem blink_eq (x : Lnk) (nodes : Int) : zl_M x nodes = some (ckLink x nodes, ()) := by
  obtain ⟨k, f, t, a, r, u⟩ := x
  have fin : ∀ (m : Int), ((z0W_M [bif f == t then 17 else 0, ckR a 0 m, ckR r 1 1000]).bind fun v27 => some (v27.fst, ())) = some (firstE [bif f == t then 17 else 0, ckR a 0 m, ckR r 1 1000], ()) := fun m => by
    rw [bfirst_eq _ (small3 _ _ _)]; rfl
  have r2 : ∀ g : Nat → Bool, (List.range 2).all g = (g 0 && g 1) := fun g => by simp [List.range_succ]
  rcases kinds_cases k with rfl | rfl | rfl | rfl | rfl | ⟨h1, h2, h3, h4, h5⟩
  · simp only [ckLink, show endsOf kB = some (true, false) by decide, fitN]
    simp [zl_M, zl_m, zl_m_j20, z0Y, mapGet, eqV, kB, within_eq, when_eq, fin, r2]
    cases (f == -1) <;> cases (decide (0 ≤ t)) <;> cases (decide (t < nodes)) <;> rfl
  · simp only [ckLink, show endsOf kL = some (true, false) by decide, fitN]
    simp [zl_M, zl_m, zl_m_j20, z0Y, mapGet, eqV, kL, within_eq, when_eq, fin, r2]
    cases (f == -1) <;> cases (decide (0 ≤ t)) <;> cases (decide (t < nodes)) <;> rfl
  · simp only [ckLink, show endsOf kO = some (false, true) by decide, fitN]
    simp [zl_M, zl_m, zl_m_j20, z0Y, mapGet, eqV, kO, within_eq, when_eq, fin, r2]
    cases (t == -1) <;> cases (decide (0 ≤ f)) <;> cases (decide (f < nodes)) <;> rfl
  · simp only [ckLink, show endsOf kP = some (false, false) by decide, fitN]
    simp [zl_M, zl_m, zl_m_j20, z0Y, mapGet, eqV, kP, within_eq, when_eq, fin, r2]
    cases (decide (0 ≤ t)) <;> cases (decide (t < nodes)) <;> cases (decide (0 ≤ f)) <;> cases (decide (f < nodes)) <;> rfl
  · simp only [ckLink, show endsOf kW = some (false, false) by decide, fitN]
    simp [zl_M, zl_m, zl_m_j20, z0Y, mapGet, eqV, kW, within_eq, when_eq, fin, r2]
    cases (decide (0 ≤ t)) <;> cases (decide (t < nodes)) <;> cases (decide (0 ≤ f)) <;> cases (decide (f < nodes)) <;> rfl
  · have g1 : (k == [98, 97, 114, 114, 105, 101, 114]) = false := beq_eq_false_iff_ne.2 h1
    have g2 : (k == [108, 101, 97, 107]) = false := beq_eq_false_iff_ne.2 h2
    have g3 : (k == [111, 117, 116, 102, 97, 108, 108]) = false := beq_eq_false_iff_ne.2 h3
    have g4 : (k == [112, 117, 109, 112]) = false := beq_eq_false_iff_ne.2 h4
    have g5 : (k == [119, 101, 105, 114]) = false := beq_eq_false_iff_ne.2 h5
    simp only [ckLink, show endsOf k = none by simp [endsOf, h1, h2, h3, h4, h5]]
    simp only [zl_M, zl_m, z0Y, mapGet, eqV, g1, g2, g3, g4, g5]
    rfl

theorem hasWord_eq (k : List UInt8) : z0D_M z0e.1 k = some (decide (k = kB ∨ k = kL ∨ k = kO ∨ k = kP ∨ k = kW), ()) := by
  rcases kinds_cases k with rfl | rfl | rfl | rfl | rfl | ⟨h1, h2, h3, h4, h5⟩
  · decide
  · decide
  · decide
  · decide
  · decide
  · have g1 : ([98, 97, 114, 114, 105, 101, 114] == k) = false := beq_eq_false_iff_ne.2 (Ne.symm h1)
    have g2 : ([108, 101, 97, 107] == k) = false := beq_eq_false_iff_ne.2 (Ne.symm h2)
    have g3 : ([111, 117, 116, 102, 97, 108, 108] == k) = false := beq_eq_false_iff_ne.2 (Ne.symm h3)
    have g4 : ([112, 117, 109, 112] == k) = false := beq_eq_false_iff_ne.2 (Ne.symm h4)
    have g5 : ([119, 101, 105, 114] == k) = false := beq_eq_false_iff_ne.2 (Ne.symm h5)
    rw [decide_eq_false (by simp [h1, h2, h3, h4, h5])]
    unfold z0D_M
    rw [bifT (dec_true (show z0e.1.length < lenMax by decide))]
    rw [loopL_find (fun w => if (w == k) = true then some (true, ()) else none) _ 0 (fun i e _ => by
      unfold z0D_b0
      cases he : (e == k) <;> rfl)]
    have : z0e.1.findSome? (fun w => if (w == k) = true then some (true, ()) else none) = none := by
      show List.findSome? _ [[98, 97, 114, 114, 105, 101, 114], [108, 101, 97, 107], [111, 117, 116, 102, 97, 108, 108], [112, 117, 109, 112], [119, 101, 105, 114]] = none
      simp only [List.findSome?_cons, g1, g2, g3, g4, g5, List.findSome?_nil]
      rfl
    rw [this]
    rfl

theorem firstE_17 (c : Bool) (a b : Int) : (bif c then some (17, ()) else (z0b_M [a, b]).bind fun v4 => some (v4.fst, ())) = some (firstE [bif c then 17 else 0, a, b], ()) := by
  cases c with
  | true => rfl
  | false =>
    rw [rfirst_eq _ (by simp [lenMax])]
    simp only [cond_false, firstE_cons (0 : Int), firstOf]
    rfl

theorem rlink_eq (x : Lnk) (nodes : Int) : z00_M x nodes = some (ckLink x nodes, ()) := by
  obtain ⟨k, f, t, a, r, u⟩ := x
  rcases kinds_cases k with rfl | rfl | rfl | rfl | rfl | ⟨h1, h2, h3, h4, h5⟩
  · simp only [ckLink, show endsOf kB = some (true, false) by decide, fitN]
    simp only [z00_M, z00_m, hasWord_eq, show decide (kB = kB ∨ kB = kL ∨ kB = kO ∨ kB = kP ∨ kB = kW) = true by decide, Option.bind_some]
    simp [z0s, z0n, kB, checkRange_eq, firstE_17]
    cases (f == -1) <;> cases (decide (0 ≤ t)) <;> cases (decide (t < nodes)) <;> rfl
  · simp only [ckLink, show endsOf kL = some (true, false) by decide, fitN]
    simp only [z00_M, z00_m, hasWord_eq, show decide (kL = kB ∨ kL = kL ∨ kL = kO ∨ kL = kP ∨ kL = kW) = true by decide, Option.bind_some]
    simp [z0s, z0n, kL, checkRange_eq, firstE_17]
    cases (f == -1) <;> cases (decide (0 ≤ t)) <;> cases (decide (t < nodes)) <;> rfl
  · simp only [ckLink, show endsOf kO = some (false, true) by decide, fitN]
    simp only [z00_M, z00_m, hasWord_eq, show decide (kO = kB ∨ kO = kL ∨ kO = kO ∨ kO = kP ∨ kO = kW) = true by decide, Option.bind_some]
    simp [z0s, z0n, kO, checkRange_eq, firstE_17]
    cases (t == -1) <;> cases (decide (0 ≤ f)) <;> cases (decide (f < nodes)) <;> rfl
  · simp only [ckLink, show endsOf kP = some (false, false) by decide, fitN]
    simp only [z00_M, z00_m, hasWord_eq, show decide (kP = kB ∨ kP = kL ∨ kP = kO ∨ kP = kP ∨ kP = kW) = true by decide, Option.bind_some]
    simp [z0s, z0n, kP, checkRange_eq, firstE_17]
    cases (decide (0 ≤ t)) <;> cases (decide (t < nodes)) <;> cases (decide (0 ≤ f)) <;> cases (decide (f < nodes)) <;> rfl
  · simp only [ckLink, show endsOf kW = some (false, false) by decide, fitN]
    simp only [z00_M, z00_m, hasWord_eq, show decide (kW = kB ∨ kW = kL ∨ kW = kO ∨ kW = kP ∨ kW = kW) = true by decide, Option.bind_some]
    simp [z0s, z0n, kW, checkRange_eq, firstE_17]
    cases (decide (0 ≤ t)) <;> cases (decide (t < nodes)) <;> cases (decide (0 ≤ f)) <;> cases (decide (f < nodes)) <;> rfl
  · simp only [ckLink, show endsOf k = none by simp [endsOf, h1, h2, h3, h4, h5]]
    simp only [z00_M, z00_m, hasWord_eq, show decide (k = kB ∨ k = kL ∨ k = kO ∨ k = kP ∨ k = kW) = false by simp [h1, h2, h3, h4, h5], Option.bind_some]
    rfl
end Go.Tw
end

section
set_option linter.all false
set_option maxRecDepth 100000
namespace Go.Tw
open Go.Vx Go.Vx.B Go.Proofs

theorem loopL_err {α : Type} {body : Int → α → Unit → Option ((Int × Unit) ⊕ Unit)} {fin : Unit → Option (Int × Unit)} (g : α → Int) (l : List α) (i : Int) (hb : ∀ i e, e ∈ l → body i e () = some (bif g e != 0 then .inl (g e, ()) else .inr ())) (hf : fin () = some (0, ())) :
    loopL body fin i l () = some (firstE (l.map g), ()) := by
  rw [loopL_find (fun e => bif g e != 0 then some (g e, ()) else none) l i (fun i e he => by
    rw [hb i e he]
    cases (g e != 0) <;> rfl)]
  clear hb
  induction l with
  | nil => exact hf
  | cons e l ih =>
    rw [List.findSome?_cons, List.map_cons, firstE_cons, firstOf]
    cases (g e != 0) with
    | true => rfl
    | false => exact ih

/-! ### Mapped -/
theorem mapLink_eq (l : List Lnk) (of : Lnk × Unit → Option (Int × Unit)) (g : Lnk → Int) (h : ∀ e ∈ l, of (e, ()) = some (g e, ())) (hl : l.length ≤ memMax) : zB_M l of = some (l.map g, ()) := by
  unfold zB_M
  have hm := memMax_lt
  rw [bifT (dec_true (show l.length < lenMax by omega)), loopL_app g l 0 [] (by simpa using hl) (fun i e s he hs => by
    unfold zB_b0
    rw [show of ((e.fst, e.snd.fst, e.snd.snd.fst, e.snd.snd.snd.fst, e.snd.snd.snd.snd.fst, ()), ()) = of (e, ()) from rfl, h e he]
    simp only [Option.bind_some]
    rw [bifT (dec_true hs)])]
  rfl

theorem mapInt_eq (l : List Int) (of : Int × Unit → Option (Int × Unit)) (g : Int → Int) (h : ∀ e ∈ l, of (e, ()) = some (g e, ())) (hl : l.length ≤ memMax) : zH_M l of = some (l.map g, ()) := by
  unfold zH_M
  have hm := memMax_lt
  rw [bifT (dec_true (show l.length < lenMax by omega)), loopL_app g l 0 [] (by simpa using hl) (fun i e s he hs => by
    unfold zH_b0
    rw [h e he]
    simp only [Option.bind_some]
    rw [bifT (dec_true hs)])]
  rfl

/-! ### Basins -/
def ckBasin (b : Bas) : Int :=
  firstOf (ckNodes b.1) (bif decide (16 < b.2.1.length) then 5 else firstE (b.2.1.map fun x => ckLink x (b.1.length : Int)))

theorem rbasin_eq (b : Bas) : zq_M b = some (ckBasin b, ()) := by
  unfold zq_M ckBasin firstOf
  rw [rnodes_eq]
  simp only [Option.bind_some]
  cases h : (ckNodes b.1 != 0) with
  | true => rfl
  | false =>
    simp only [cond_false]
    rw [if_neg (by simp)]
    by_cases h16 : 16 < b.2.1.length
    · rw [bifT (dec_true (show (b.2.1.length : Int) > 16 by omega)), bifT (dec_true h16)]
    · rw [bifF (dec_false (show ¬ (b.2.1.length : Int) > 16 by omega)), bifF (dec_false h16), bifT (dec_true (show b.2.1.length < lenMax by unfold lenMax; omega))]
      exact loopL_err (fun x => ckLink x (b.1.length : Int)) _ 0 (fun i e _ => by
        unfold zq_b1
        rw [rlink_eq]
        simp only [Option.bind_some]
        cases (ckLink e (b.1.length : Int) != 0) <;> rfl) rfl

/-- What the program knows of names: those of the nodes before. -/
def Knows (m : List (List UInt8 × Bool)) (done : List Nod) : Prop := ∀ k, (mapGet .str .bool m k).getD false = done.any fun d => d.1 == k

theorem mapGet_put (m : List (List UInt8 × Bool)) (k k' : List UInt8) : (mapGet .str .bool (mapPut .str .bool m k true) k').getD false = ((k == k') || (mapGet .str .bool m k').getD false) := by
  induction m with
  | nil =>
    show (mapGet .str .bool [(k, true)] k').getD false = _
    simp only [mapGet, eqV]
    by_cases h : k' = k
    · subst h; simp
    · have h1 : (k' == k) = false := beq_eq_false_iff_ne.2 h
      have h2 : (k == k') = false := beq_eq_false_iff_ne.2 (Ne.symm h)
      show (bif (k' == k) then some true else none).getD false = _
      rw [h1, h2]; rfl
  | cons p m ih =>
    show (mapGet .str .bool (bif (k == p.1) then (k, true) :: m else p :: mapPut .str .bool m k true) k').getD false = _
    by_cases h : k = p.1
    · have h1 : (k == p.1) = true := by simp [h]
      rw [h1, cond_true]
      show (bif (k' == k) then some true else mapGet .str .bool m k').getD false = ((k == k') || (bif (k' == p.1) then some p.2 else mapGet .str .bool m k').getD false)
      by_cases h2 : k' = k
      · have e1 : (k' == k) = true := by simp [h2]
        have e2 : (k == k') = true := by simp [h2]
        rw [e1, e2]; rfl
      · have e1 : (k' == k) = false := beq_eq_false_iff_ne.2 h2
        have e2 : (k == k') = false := beq_eq_false_iff_ne.2 (Ne.symm h2)
        have e3 : (k' == p.1) = false := by rw [← h]; exact e1
        rw [e1, e2, e3]; rfl
    · have h1 : (k == p.1) = false := beq_eq_false_iff_ne.2 h
      rw [h1, cond_false]
      show (bif (k' == p.1) then some p.2 else mapGet .str .bool (mapPut .str .bool m k true) k').getD false = ((k == k') || (bif (k' == p.1) then some p.2 else mapGet .str .bool m k').getD false)
      by_cases h2 : k' = p.1
      · have e1 : (k' == p.1) = true := by simp [h2]
        have e2 : (k == k') = false := by rw [h2]; exact h1
        rw [e1, e2]; rfl
      · have e1 : (k' == p.1) = false := beq_eq_false_iff_ne.2 h2
        rw [e1]
        exact ih

theorem Knows.put {m : List (List UInt8 × Bool)} {done : List Nod} (h : Knows m done) (n : Nod) : Knows (mapPut .str .bool m n.1 true) (done ++ [n]) := by
  intro k
  rw [mapGet_put, h k, List.any_append]
  simp [Bool.or_comm]

theorem small4 (a b c d : Int) : [a, b, c, d].length < lenMax := by simp [lenMax]
theorem small2 (a b : Int) : [a, b].length < lenMax := by simp [lenMax]

theorem bnodes_loop (b : Bas) (hn : ∀ n ∈ b.1, n.1.length < lenMax) : ∀ (l done : List Nod) (i : Int) (m : List (List UInt8 × Bool)), (∀ n ∈ l, n.1.length < lenMax) → Knows m done →
    ∃ m', loopL (fun i__ e__ s__ => zj_b1 b b.1 i__ e__ s__) (fun s__ => zj_f1 b b.1 s__) i l m = bif nodesE done l != 0 then some (nodesE done l, ()) else zj_f1 b b.1 m'
  | [], done, i, m, _, _ => ⟨m, rfl⟩
  | n :: l, done, i, m, hl, hk => by
    have hb : zj_b1 b b.1 i n m = some (bif nodeE done n != 0 then .inl (nodeE done n, ()) else .inr (mapPut .str .bool m n.1 true)) := by
      unfold zj_b1
      rw [gname_eq n.1 (hl n (by simp))]
      simp only [Option.bind_some, when_eq, within_eq, hk n.1]
      rw [bfirst_eq _ (small4 _ _ _ _)]
      have e : firstE [bif !isNm n.1 then 8 else 0, bif done.any (fun d => d.1 == n.1) then 9 else 0, ckR n.2.1 1 1000, ckR n.2.2.1 0 1024] = nodeE done n := by
        unfold nodeE
        cases isNm n.1 <;> rfl
      simp only [Option.bind_some, e]
      cases (nodeE done n != 0) <;> rfl
    rw [loopL_cons, hb]
    simp only [Option.bind_some, nodesE, firstOf]
    cases h : (nodeE done n != 0) with
    | true => exact ⟨m, by simp [h]⟩
    | false =>
      obtain ⟨m', hm⟩ := bnodes_loop b hn l (done ++ [n]) (i + 1) (mapPut .str .bool m n.1 true) (fun x hx => hl x (by simp [hx])) (hk.put n)
      exact ⟨m', by rw [if_neg (by simp)]; exact hm⟩

theorem ckNodes_zero {l : List Nod} (h : ckNodes l = 0) : 0 < l.length ∧ l.length ≤ 8 ∧ nodesE [] l = 0 := by
  unfold ckNodes at h
  split at h
  · cases h
  · split at h
    · cases h
    · exact ⟨by omega, by omega, h⟩

theorem bbasin_eq (b : Bas) (hn : ∀ n ∈ b.1, n.1.length < lenMax) : zj_M b = some (ckBasin b, ()) := by
  unfold zj_M
  simp only [when_eq]
  rw [bfirst_eq _ (small2 _ _)]
  simp only [Option.bind_some]
  have fin : ∀ m, zj_f1 b b.1 m = some (bif decide (16 < b.2.1.length) then 5 else firstE (b.2.1.map fun x => ckLink x (b.1.length : Int)), ()) := fun m => by
    unfold zj_f1
    by_cases h16 : 16 < b.2.1.length
    · rw [bifT (dec_true (show (b.2.1.length : Int) > 16 by omega)), bifT (dec_true h16)]
    · rw [bifF (dec_false (show ¬ (b.2.1.length : Int) > 16 by omega)), bifF (dec_false h16)]
      rw [mapLink_eq b.2.1 _ (fun x => ckLink x (b.1.length : Int)) (fun e _ => by
        unfold zZ_M zZ_m
        rw [blink_eq]; rfl) (by unfold memMax; omega)]
      simp only [Option.bind_some]
      rw [bfirst_eq _ (by rw [List.length_map]; unfold lenMax; omega)]
      rfl
  unfold ckBasin ckNodes
  by_cases h0 : b.1.length = 0
  · have e1 : ((b.1.length : Int) == 0) = true := by simp [h0]
    rw [e1, if_pos h0]
    simp [firstE_cons, firstOf]
  · have e1 : ((b.1.length : Int) == 0) = false := by simpa using h0
    rw [e1, if_neg h0]
    by_cases h8 : 8 < b.1.length
    · rw [dec_true (show (b.1.length : Int) > 8 by omega), if_pos h8]
      simp [firstE_cons, firstOf]
    · rw [dec_false (show ¬ (b.1.length : Int) > 8 by omega), if_neg h8]
      have e2 : firstE [bif false then 12 else 0, bif false then 5 else 0] = 0 := by decide
      rw [e2]
      rw [bifF (show ((0 : Int) != 0) = false by decide), bifT (dec_true (show b.1.length < lenMax by unfold lenMax; omega))]
      obtain ⟨m', hm⟩ := bnodes_loop b hn b.1 [] 0 [] hn (fun k => rfl)
      refine (show _ = _ from hm).trans ?_
      rw [fin m', firstOf]
      cases (nodesE [] b.1 != 0) <;> rfl

/-! ### Volumes and conditions -/
def ckVols (b : Bas) (v : List Int) : Int := firstOf (bif (v.length : Int) != (b.1.length : Int) then 2 else 0) (firstE (v.map fun n => ckR n 0 100000000))
def ckCond (b : Bas) (c : Cnd) : Int := firstOf (ckR c.1 (-1024) 1024) (firstOf (bif (c.2.2.1.length : Int) != (b.1.length : Int) then 2 else 0) (firstE (c.2.2.1.map fun n => ckR n 0 100000)))

theorem bvols_eq (b : Bas) (v : List Int) (h : v.length ≤ memMax) : zJ_M b v = some (ckVols b v, ()) := by
  have hm := memMax_lt
  unfold zJ_M zJ_m
  rw [mapInt_eq v _ (fun n => ckR n 0 100000000) (fun e _ => by
    show some (zG e) = _
    unfold zG
    rw [within_eq]) h]
  simp only [Option.bind_some]
  rw [bfirst_eq _ (by rw [List.length_map]; omega)]
  simp only [Option.bind_some, when_eq]
  rw [bfirst_eq _ (small2 _ _)]
  simp only [Option.bind_some, firstE_cons, firstE_nil, firstOf_zero]
  rfl

theorem bcond_eq (b : Bas) (c : Cnd) (h : c.2.2.1.length ≤ memMax) : zF_M b c = some (ckCond b c, ()) := by
  have hm := memMax_lt
  unfold zF_M zF_m
  rw [mapInt_eq c.2.2.1 _ (fun n => ckR n 0 100000) (fun e _ => by
    show some (zf e) = _
    unfold zf
    rw [within_eq]) h]
  simp only [Option.bind_some]
  rw [bfirst_eq _ (by rw [List.length_map]; omega)]
  simp only [Option.bind_some, when_eq, zw, within_eq]
  rw [bfirst_eq _ (small3 _ _ _)]
  simp only [Option.bind_some, firstE_cons, firstE_nil, firstOf_zero]
  rfl

def ckCV (b : Bas) (v : List Int) : Int := firstOf (ckBasin b) (ckVols b v)

theorem bcv_eq (b : Bas) (v : List Int) (hn : ∀ n ∈ b.1, n.1.length < lenMax) (h : v.length ≤ memMax) : za_M b v = some (ckCV b v, ()) := by
  unfold za_M za_m
  rw [bbasin_eq b hn, Option.bind_some, bvols_eq b v h]
  simp only [Option.bind_some]
  rw [bfirst_eq _ (small2 _ _)]
  simp only [Option.bind_some, firstE_cons, firstE_nil, firstOf_zero]
  rfl
end Go.Tw
end

section
set_option linter.all false
set_option maxRecDepth 100000
namespace Go.Tw
open Go.Vx Go.Vx.B Go.Proofs

/-! ### Numbers -/
abbrev wr (a : Int) : Int := IntKind.i64.wrap a

theorem wrap_mod (a b : Int) (h : a % 18446744073709551616 = b % 18446744073709551616) : wr a = wr b := by
  unfold wr IntKind.wrap IntKind.bits IntKind.signed
  simp only
  rw [show (2 : Int) ^ 64 = 18446744073709551616 by decide, h]

theorem wrap_self (a : Int) : wr a % 18446744073709551616 = a % 18446744073709551616 := by
  unfold wr IntKind.wrap IntKind.bits IntKind.signed
  simp only [show (2 : Int) ^ 64 = 18446744073709551616 by decide]
  split <;> omega

theorem wrap_sub (a b : Int) : wr (a + wr (0 - b)) = wr (a - b) := by
  apply wrap_mod
  have := wrap_self (0 - b)
  omega

/-! ### Lists -/
theorem firstE_zero : ∀ {l : List Int}, firstE l = 0 → ∀ e ∈ l, e = 0
  | [], _, e, he => by simp at he
  | a :: l, h, e, he => by
    rw [firstE_cons] at h
    unfold firstOf at h
    by_cases ha : a = 0
    · rcases List.mem_cons.1 he with rfl | he
      · exact ha
      · rw [ha] at h; exact firstE_zero h e he
    · rw [if_pos (by simpa using ha)] at h; exact absurd h ha

theorem firstOf_eq0 {a b : Int} (h : firstOf a b = 0) : a = 0 ∧ b = 0 := by
  unfold firstOf at h
  by_cases ha : a = 0
  · subst ha; exact ⟨rfl, h⟩
  · rw [if_pos (by simpa using ha)] at h; exact absurd h ha

theorem ckR_zero {n lo hi : Int} (h : ckR n lo hi = 0) : lo ≤ n ∧ n ≤ hi := by
  unfold ckR at h
  split at h
  · cases h
  · omega

/-- What a valid link is. -/
structure LinkOK (x : Lnk) (N : Nat) : Prop where
  kind : endsOf x.1 ≠ none
  from_ : x.2.1 = -1 ∨ (0 ≤ x.2.1 ∧ x.2.1 < N)
  to_ : x.2.2.1 = -1 ∨ (0 ≤ x.2.2.1 ∧ x.2.2.1 < N)
  ne : x.2.1 ≠ x.2.2.1
  some_ : x.2.1 ≠ -1 ∨ x.2.2.1 ≠ -1
  at_ : 0 ≤ x.2.2.2.1 ∧ x.2.2.2.1 ≤ 1024
  rate : 1 ≤ x.2.2.2.2.1 ∧ x.2.2.2.2.1 ≤ 1000

theorem fitN_ok {n N : Int} {s : Bool} (h : fitN n N s = true) : (s = true ∧ n = -1) ∨ (s = false ∧ 0 ≤ n ∧ n < N) := by
  cases s with
  | true => exact .inl ⟨rfl, by simpa [fitN] using h⟩
  | false =>
    simp only [fitN, cond_false, Bool.and_eq_true, decide_eq_true_eq] at h
    exact .inr ⟨rfl, h⟩

theorem ckLink_zero {x : Lnk} {N : Nat} (h : ckLink x (N : Int) = 0) : LinkOK x N := by
  unfold ckLink at h
  split at h
  · cases h
  · rename_i s t he
    cases hf : (fitN x.2.1 (N : Int) s && fitN x.2.2.1 (N : Int) t) with
    | false => rw [hf] at h; cases h
    | true =>
      rw [hf] at h
      simp only [cond_true] at h
      simp only [Bool.and_eq_true] at hf
      have h1 := firstE_zero h _ (List.mem_cons_self ..)
      have h2 := ckR_zero (firstE_zero h _ (List.mem_cons_of_mem _ (List.mem_cons_self ..)))
      have h3 := ckR_zero (firstE_zero h _ (List.mem_cons_of_mem _ (List.mem_cons_of_mem _ (List.mem_cons_self ..))))
      have hne : x.2.1 ≠ x.2.2.1 := by
        intro e
        rw [show (x.2.1 == x.2.2.1) = true by simp [e]] at h1
        cases h1
      refine ⟨by rw [he]; simp, ?_, ?_, hne, ?_, ?_, h3⟩
      · rcases fitN_ok hf.1 with ⟨_, h⟩ | ⟨_, h⟩
        · exact .inl h
        · exact .inr h
      · rcases fitN_ok hf.2 with ⟨_, h⟩ | ⟨_, h⟩
        · exact .inl h
        · exact .inr h
      · rcases fitN_ok hf.1 with ⟨_, h⟩ | ⟨_, h⟩
        · rcases fitN_ok hf.2 with ⟨_, h'⟩ | ⟨_, h'⟩
          · exact absurd (h.trans h'.symm) hne
          · exact .inr (by omega)
        · exact .inl (by omega)
      · cases s
        · exact h2
        · have : (0 : Int) ≤ x.2.2.2.1 ∧ x.2.2.2.1 ≤ 0 := h2
          omega

/-- What a valid basin is. -/
structure BasOK (b : Bas) : Prop where
  pos : 0 < b.1.length
  nodes : b.1.length ≤ 8
  links : b.2.1.length ≤ 16
  area : ∀ n ∈ b.1, 1 ≤ n.2.1 ∧ n.2.1 ≤ 1000
  limit : ∀ n ∈ b.1, 0 ≤ n.2.2.1 ∧ n.2.2.1 ≤ 1024
  link : ∀ x ∈ b.2.1, LinkOK x b.1.length

theorem nodesE_zero : ∀ {l done : List Nod}, nodesE done l = 0 → ∀ n ∈ l, (1 ≤ n.2.1 ∧ n.2.1 ≤ 1000) ∧ 0 ≤ n.2.2.1 ∧ n.2.2.1 ≤ 1024
  | [], _, _, n, hn => by simp at hn
  | m :: l, done, h, n, hn => by
    obtain ⟨h1, h2⟩ := firstOf_eq0 (show firstOf (nodeE done m) (nodesE (done ++ [m]) l) = 0 from h)
    rcases List.mem_cons.1 hn with rfl | hn
    · exact ⟨ckR_zero (firstE_zero h1 _ (by simp)), ckR_zero (firstE_zero h1 _ (by simp))⟩
    · exact nodesE_zero h2 n hn

theorem ckBasin_zero {b : Bas} (h : ckBasin b = 0) : BasOK b := by
  obtain ⟨h1, h2⟩ := firstOf_eq0 h
  obtain ⟨g1, g2, g3⟩ := ckNodes_zero h1
  by_cases h16 : 16 < b.2.1.length
  · rw [dec_true h16] at h2; cases h2
  · rw [dec_false h16, cond_false] at h2
    exact ⟨g1, g2, by omega, fun n hn => (nodesE_zero g3 n hn).1, fun n hn => (nodesE_zero g3 n hn).2, fun x hx => ckLink_zero (firstE_zero h2 _ (List.mem_map.2 ⟨x, hx, rfl⟩))⟩

/-! ### Flows -/
theorem floor_same (a r : Int) : z0X_M a r = z0d_M a r := rfl

noncomputable def flo (a r : Int) : Int := bif decide (wr (wr (a.tdiv r) * r) > a) then wr (wr (a.tdiv r) - 1) else wr (a.tdiv r)
theorem floor_some (a r : Int) (h : r ≠ 0) : z0d_M a r = some (flo a r, ()) := by
  unfold z0d_M z0d_m flo
  rw [bifF (beq_eq_false_iff_ne.2 h)]
  cases decide (wr (wr (a.tdiv r) * r) > a) <;> rfl

def imax (a b : Int) : Int := if b > a then b else a
def imin (a b : Int) : Int := if b < a then b else a

/-- The flow of a link. -/
noncomputable def flowV (x : Lnk) (vol area tide : Int) (opn : Bool) : Int :=
  if x.1 = kB then (bif opn then imax (wr (0 - vol)) (flo (wr (wr (area * tide) - vol)) x.2.2.2.2.1) else 0)
  else if x.1 = kL then imax 0 (flo (wr (wr (area * tide) - vol)) x.2.2.2.2.1)
  else if x.1 = kO then imax 0 (flo (wr (vol - wr (area * imax tide x.2.2.2.1))) x.2.2.2.2.1)
  else if x.1 = kP then imax 0 (imin x.2.2.2.2.1 (wr (vol - wr (area * x.2.2.2.1))))
  else imax 0 (flo (wr (vol - wr (area * x.2.2.2.1))) x.2.2.2.2.1)

abbrev plT : Ty := .pair (.pair .str (.pair (.int .i64) (.pair (.int .i64) (.pair (.int .i64) (.pair (.int .i64) .unit))))) (.pair (.int .i64) (.pair (.int .i64) (.pair (.int .i64) (.pair .bool .unit))))
abbrev kindT : Ty := .pair (.arr 2 .bool) (.pair (.func (.pair plT .unit) (.pair (.int .i64) .unit)) .unit)
noncomputable def tabFlow (k : List UInt8) : (Lnk × Int × Int × Int × Bool × Unit) × Unit → Option (Int × Unit) :=
  ((mapGet .str kindT z0Y.1 k).getD ([false, false], fun _ => none, ())).2.1

theorem tabFlow_eq {x : Lnk} (hk : endsOf x.1 ≠ none) (hr : x.2.2.2.2.1 ≠ 0) (vol area tide : Int) (opn : Bool) : tabFlow x.1 ((x, vol, area, tide, opn, ()), ()) = some (flowV x vol area tide opn, ()) := by
  obtain ⟨k, f, t, a, r, u⟩ := x
  simp only at hk hr
  have hf := fun a => floor_some a r hr
  rcases kinds_cases k with rfl | rfl | rfl | rfl | rfl | ⟨h1, h2, h3, h4, h5⟩
  · show zT_M ((kB, f, t, a, r, u), vol, area, tide, opn, ()) = _
    simp only [zT_M, zT_m, zU_M, zU_m, floor_same, hf, flowV, Option.bind_some]
    cases opn <;> rfl
  · show z07_M ((kL, f, t, a, r, u), vol, area, tide, opn, ()) = _
    simp only [z07_M, z07_m, zU_M, zU_m, floor_same, hf, flowV, Option.bind_some]
    rfl
  · show z08_M ((kO, f, t, a, r, u), vol, area, tide, opn, ()) = _
    simp only [z08_M, z08_m, zn_M, zn_m, floor_same, hf, flowV, Option.bind_some]
    rfl
  · rfl
  · show z0A_M ((kW, f, t, a, r, u), vol, area, tide, opn, ()) = _
    simp only [z0A_M, z0A_m, zn_M, zn_m, floor_same, hf, flowV, Option.bind_some]
    rfl
  · exact absurd (by simp [endsOf, h1, h2, h3, h4, h5]) hk

theorem rflow_eq {x : Lnk} (hk : endsOf x.1 ≠ none) (hr : x.2.2.2.2.1 ≠ 0) (b : Bas) (v : List Int) (c : Cnd) (n : Nod) (vol j : Int) (hj : (if x.2.1 < 0 then x.2.2.1 else x.2.1) = j) (hn : idx b.1 j = some n) (hv : idx v j = some vol) :
    z0o_M b v c x = some (flowV x vol n.2.1 c.1 c.2.1, ()) := by
  obtain ⟨k, f, t, a, r, u⟩ := x
  simp only at hk hr hj
  have hf := fun a => floor_some a r hr
  have h0 : z0o_M b v c (k, f, t, a, r, u) = z0o_m_j12 0 b v c (k, f, t, a, r, u) j := by
    unfold z0o_M z0o_m
    subst hj
    by_cases hlt : f < 0
    · rw [bifT (dec_true hlt), if_pos hlt]
    · rw [bifF (dec_false hlt), if_neg hlt]
  rw [h0]
  unfold z0o_m_j12
  rw [hn, hv]
  simp only [Option.bind_some]
  rcases kinds_cases k with rfl | rfl | rfl | rfl | rfl | ⟨h1, h2, h3, h4, h5⟩
  · rw [bifT (show (kB == [98, 97, 114, 114, 105, 101, 114]) = true by decide)]
    simp only [hf, Option.bind_some, flowV]
    cases c.2.1 <;> rfl
  · rw [bifF (show (kL == [98, 97, 114, 114, 105, 101, 114]) = false by decide), bifT (show (kL == [108, 101, 97, 107]) = true by decide)]
    simp only [hf, Option.bind_some, flowV]
    rfl
  · rw [bifF (show (kO == [98, 97, 114, 114, 105, 101, 114]) = false by decide), bifF (show (kO == [108, 101, 97, 107]) = false by decide), bifT (show (kO == [111, 117, 116, 102, 97, 108, 108]) = true by decide)]
    simp only [hf, Option.bind_some, flowV]
    rfl
  · rw [bifF (show (kP == [98, 97, 114, 114, 105, 101, 114]) = false by decide), bifF (show (kP == [108, 101, 97, 107]) = false by decide), bifF (show (kP == [111, 117, 116, 102, 97, 108, 108]) = false by decide), bifT (show (kP == [112, 117, 109, 112]) = true by decide)]
    rfl
  · rw [bifF (show (kW == [98, 97, 114, 114, 105, 101, 114]) = false by decide), bifF (show (kW == [108, 101, 97, 107]) = false by decide), bifF (show (kW == [111, 117, 116, 102, 97, 108, 108]) = false by decide), bifF (show (kW == [112, 117, 109, 112]) = false by decide)]
    simp only [hf, Option.bind_some, flowV]
    rfl
  · exact absurd (by simp [endsOf, h1, h2, h3, h4, h5]) hk
end Go.Tw
end

section
set_option linter.all false
set_option maxRecDepth 100000
namespace Go.Tw
open Go.Vx Go.Vx.B Go.Proofs

def maxV : Int := 100000000
def fits8 (v : List Int) : Bool := v.all fun x => decide (x ≤ maxV)

theorem tooMuch_eq (v : List Int) (h : v.length < lenMax) : z0E_M v = some (!fits8 v, ()) := by
  unfold z0E_M
  rw [bifT (dec_true h), loopL_find (fun x => bif decide (x > 100000000) then some (true, ()) else none) v 0 (fun i e _ => by
    unfold z0E_b0
    cases decide (e > 100000000) <;> rfl)]
  unfold fits8 z0E_f0
  clear h
  induction v with
  | nil => rfl
  | cons x v ih =>
    rw [List.findSome?_cons, List.all_cons]
    by_cases hx : x ≤ maxV
    · rw [dec_true hx, dec_false (show ¬ x > 100000000 by unfold maxV at hx; omega)]
      exact ih
    · rw [dec_false hx, dec_true (show x > 100000000 by unfold maxV at hx; omega)]
      rfl

/-! ### What flows in -/
def inflow : List Int → List Int → List Int
  | x :: v, n :: l => wr (x + n) :: inflow v l
  | _, _ => []

theorem inflow_length : ∀ (v l : List Int), v.length = l.length → (inflow v l).length = v.length
  | [], [], _ => rfl
  | x :: v, n :: l, h => by simp [inflow, inflow_length v l (by simpa using h)]
  | [], _ :: _, h => by simp at h
  | _ :: _, [], h => by simp at h

theorem idx_mid {α : Type} (p : List α) (x : α) (r : List α) (i : Int) (hi : i = (p.length : Int)) : idx (p ++ x :: r) i = some x := by
  subst hi
  rw [idx_nat]
  simp

theorem set_mid {α : Type} (p : List α) (x y : α) (r : List α) (i : Int) (hi : i = (p.length : Int)) : (p ++ x :: r).set i.toNat y = p ++ y :: r := by
  subst hi
  simp

theorem get_mid {α : Type} (p : List α) (x : α) (r : List α) (i : Int) (hi : i = (p.length : Int)) : (p ++ x :: r)[i.toNat]? = some x := by
  subst hi
  simp

/-- The program's loop over what flows in. -/
theorem bin_loop (b : Bas) (c : Cnd) (t : List Int) : ∀ (l rest p : List Int) (i : Int) (fine : Bool), i = (p.length : Int) → rest.length = l.length →
    loopL (fun i__ e__ s__ => zi_b0 b c t i__ e__ s__.1 s__.2) (fun s__ => zi_f0 b c t s__.1 s__.2) i l (fine, p ++ rest) =
      zi_f0 b c t (fine && fits8 (inflow rest l)) (p ++ inflow rest l)
  | [], [], p, i, fine, _, _ => by
    rw [loopL_nil]
    simp [inflow, fits8]
  | n :: l, x :: rest, p, i, fine, hi, hl => by
    have hb : zi_b0 b c t i n fine (p ++ x :: rest) = some (.inr (fine && decide (wr (x + n) ≤ maxV), p ++ wr (x + n) :: rest)) := by
      unfold zi_b0
      rw [bifT (show (i != -1) = true by simp; omega)]
      rw [idx_mid p x rest i hi, get_mid p x rest i hi]
      simp only [Option.bind_some]
      cases fine with
      | true =>
        simp only [cond_true, set_mid p x _ rest i hi]
        rw [idx_mid p _ rest i hi, get_mid p _ rest i hi]
        rfl
      | false =>
        simp only [cond_false, set_mid p x _ rest i hi]
        rfl
    rw [loopL_cons, hb]
    simp only [Option.bind_some]
    have ih := bin_loop b c t l rest (p ++ [wr (x + n)]) (i + 1) (fine && decide (wr (x + n) ≤ maxV)) (by simp [hi]) (by simpa using hl)
    rw [show (p ++ [wr (x + n)]) ++ rest = p ++ wr (x + n) :: rest by simp] at ih
    rw [ih]
    simp [inflow, fits8, Bool.and_assoc]

/-- The reference's loop over what flows in. -/
theorem rin_loop (b : Bas) (c : Cnd) : ∀ (m : Nat) (l rest p q : List Int) (i : Int), i = (p.length : Int) → p.length = q.length → c.2.2.1 = q ++ l → rest.length = l.length → m = rest.length →
    loopG (fun s__ => (List.length s__ : Int)) (fun i__ s__ => z0f_b0 b c i__ s__) (fun s__ => z0f_f0 b c s__) m i (p ++ rest) = z0f_f0 b c (p ++ inflow rest l)
  | 0, l, rest, p, q, i, hi, hq, hc, hl, hm => by
    have e1 : rest = [] := List.eq_nil_of_length_eq_zero hm.symm
    subst e1
    unfold loopG
    have e2 : decide (i < (List.length (p ++ ([] : List Int)) : Int)) = false := dec_false (by simp; omega)
    rw [e2]
    simp [inflow]
  | m + 1, l, rest, p, q, i, hi, hq, hc, hl, hm => by
    match rest, l, hl, hm with
    | x :: rest, n :: l, hl, hm =>
      unfold loopG
      have e2 : decide (i < (List.length (p ++ x :: rest) : Int)) = true := dec_true (by simp; omega)
      rw [e2, cond_true]
      have hb : z0f_b0 b c i (p ++ x :: rest) = some (.inr (p ++ wr (x + n) :: rest)) := by
        unfold z0f_b0
        rw [idx_mid p x rest i hi, get_mid p x rest i hi, hc, idx_mid q n l i (by omega)]
        simp only [Option.bind_some, set_mid p x _ rest i hi]
      rw [hb]
      simp only [Option.bind_some]
      have ih := rin_loop b c m l rest (p ++ [wr (x + n)]) (q ++ [n]) (i + 1) (by simp [hi]) (by simp [hq]) (by simp [hc]) (by simpa using hl) (by simpa using hm)
      rw [show (p ++ [wr (x + n)]) ++ rest = p ++ wr (x + n) :: rest by simp] at ih
      rw [ih]
      simp [inflow]

/-! ### Links -/
/-- A node's volume changes, but not the sea's. -/
def addAt (out : List Int) (j n : Int) : List Int := if j = -1 then out else out.set j.toNat (wr (out.getD j.toNat 0 + n))
def okAt (out : List Int) (j : Int) : Bool := decide (j = -1) || decide (out.getD j.toNat 0 ≤ maxV)

theorem addAt_length (out : List Int) (j n : Int) : (addAt out j n).length = out.length := by unfold addAt; split <;> simp

theorem idx_getD {out : List Int} {j : Int} (h0 : 0 ≤ j) (h1 : j < out.length) : idx out j = some (out.getD j.toNat 0) ∧ out[j.toNat]? = some (out.getD j.toNat 0) := by
  have hj : j.toNat < out.length := by omega
  have h2 : out[j.toNat]? = some (out.getD j.toNat 0) := by simp [List.getD, List.getElem?_eq_getElem hj]
  refine ⟨?_, h2⟩
  unfold idx
  rw [if_pos h0]
  exact h2

/-- The node at a link: its first end, or the second where the first is the sea. -/
def atL (x : Lnk) : Int := if x.2.1 = -1 then x.2.2.1 else x.2.1

noncomputable def fl (b : Bas) (c : Cnd) (x : Lnk) (out : List Int) : Int := flowV x (out.getD (atL x).toNat 0) (b.1.getD (atL x).toNat ([], 0, 0, ())).2.1 c.1 c.2.1
noncomputable def mv (b : Bas) (c : Cnd) (x : Lnk) (out : List Int) : List Int := addAt (addAt out x.2.1 (wr (0 - fl b c x out))) x.2.2.1 (fl b c x out)
noncomputable def okL (b : Bas) (c : Cnd) (x : Lnk) (out : List Int) : Bool := okAt (addAt out x.2.1 (wr (0 - fl b c x out))) x.2.1 && okAt (mv b c x out) x.2.2.1

theorem node_eq (x : Lnk) : (zv (x.1, x.2.1, x.2.2.1, x.2.2.2.1, x.2.2.2.2.1, ())).1 = atL x := by
  unfold zv atL
  simp only
  by_cases h : x.2.1 = -1
  · rw [bifT (show (x.2.1 == -1) = true by simpa using h), if_pos h]
  · rw [bifF (show (x.2.1 == -1) = false by simpa using h), if_neg h]

theorem atL_in {x : Lnk} {N : Nat} (h : LinkOK x N) : 0 ≤ atL x ∧ atL x < N := by
  have h1 := h.from_; have h2 := h.to_; have h3 := h.some_
  unfold atL
  split <;> omega

/-- The second half of a link's turn: what comes to its second end. -/
theorem bto_eq (b : Bas) (c : Cnd) (all : List (List UInt8 × kindT.den)) (t : List Lnk) (i : Int) (fs : List Int) (x : Lnk) {N : Nat} (hx : LinkOK x N) (f : Int) (fine : Bool) (out : List Int) (hN : out.length = N) (hfs : fs.length + 1 ≤ memMax) :
    zi_s38 b c all t i fs x (f, ()) fine out = some (.inr (fine && okAt (addAt out x.2.2.1 f) x.2.2.1, fs ++ [f], addAt out x.2.2.1 f)) := by
  unfold zi_s38
  have hd : decide (fs.length + 1 ≤ memMax) = true := dec_true hfs
  by_cases ht : x.2.2.1 = -1
  · rw [bifF (show (x.2.2.1 != -1) = false by simpa using ht), bifT hd]
    unfold addAt okAt
    rw [if_pos ht, dec_true ht]
    simp
  · rw [bifT (show (x.2.2.1 != -1) = true by simpa using ht)]
    have hto : 0 ≤ x.2.2.1 ∧ x.2.2.1 < (out.length : Int) := by
      rcases hx.to_ with h | h
      · exact absurd h ht
      · rw [hN]; exact h
    obtain ⟨e1, e2⟩ := idx_getD hto.1 hto.2
    rw [e1, e2]
    simp only [Option.bind_some]
    have ea : addAt out x.2.2.1 f = out.set x.2.2.1.toNat (wr (out.getD x.2.2.1.toNat 0 + f)) := by unfold addAt; rw [if_neg ht]
    have hto2 : 0 ≤ x.2.2.1 ∧ x.2.2.1 < ((addAt out x.2.2.1 f).length : Int) := by rw [addAt_length]; exact hto
    obtain ⟨g1, g2⟩ := idx_getD hto2.1 hto2.2
    rw [ea] at g1 g2
    cases fine with
    | true =>
      simp only [cond_true]
      rw [g1, g2]
      simp only [Option.bind_some]
      rw [bifT hd]
      unfold okAt
      rw [dec_false ht, ea]
      rfl
    | false =>
      simp only [cond_false]
      rw [bifT hd, ea]
      rfl

theorem blink_body (b : Bas) (c : Cnd) (t : List Lnk) (i : Int) (x : Lnk) (hx : LinkOK x b.1.length) (fine : Bool) (fs out : List Int) (hN : out.length = b.1.length) (hfs : fs.length + 1 ≤ memMax) :
    zi_b12 b c z0Y.1 t i x fine fs out = some (.inr (fine && okL b c x out, fs ++ [fl b c x out], mv b c x out)) := by
  have hat := atL_in hx
  have e0 : zi_b12 b c z0Y.1 t i x fine fs out =
      ((idx out (zv (x.1, x.2.1, x.2.2.1, x.2.2.2.1, x.2.2.2.2.1, ())).1).bind fun v14 => (out[(zv (x.1, x.2.1, x.2.2.1, x.2.2.2.1, x.2.2.2.2.1, ())).1.toNat]?).bind fun v15 =>
        (idx b.1 (zv (x.1, x.2.1, x.2.2.1, x.2.2.2.1, x.2.2.2.2.1, ())).1).bind fun v16 => (tabFlow x.1 ((x, v15, v16.2.1, c.1, c.2.1, ()), ())).bind fun v17 =>
          bif x.2.1 != -1 then (idx out x.2.1).bind fun v18 => (out[x.2.1.toNat]?).bind fun v19 => (idx out x.2.1).bind fun v20 => (out[x.2.1.toNat]?).bind fun v21 =>
            bif fine then (idx (out.set x.2.1.toNat (wr (v19 + wr (0 - v17.1)))) x.2.1).bind fun v22 => ((out.set x.2.1.toNat (wr (v19 + wr (0 - v17.1))))[x.2.1.toNat]?).bind fun v23 =>
              zi_s38 b c z0Y.1 t i fs x v17 (decide (v23 ≤ 100000000)) (out.set x.2.1.toNat (wr (v19 + wr (0 - v17.1))))
            else zi_s38 b c z0Y.1 t i fs x v17 false (out.set x.2.1.toNat (wr (v19 + wr (0 - v17.1))))
          else zi_s38 b c z0Y.1 t i fs x v17 fine out) := rfl
  rw [e0, node_eq]
  obtain ⟨e1, e2⟩ := idx_getD (out := out) hat.1 (by rw [hN]; exact hat.2)
  have e3 : idx b.1 (atL x) = some (b.1.getD (atL x).toNat ([], 0, 0, ())) := by
    unfold idx
    rw [if_pos hat.1]
    have : (atL x).toNat < b.1.length := by omega
    simp [List.getD, List.getElem?_eq_getElem this]
  rw [e1, e2, e3]
  simp only [Option.bind_some]
  rw [tabFlow_eq hx.kind (by have := hx.rate; omega)]
  simp only [Option.bind_some]
  show (bif x.2.1 != -1 then _ else zi_s38 b c z0Y.1 t i fs x (fl b c x out, ()) fine out) = _
  change (bif x.2.1 != -1 then (idx out x.2.1).bind fun v18 => (out[x.2.1.toNat]?).bind fun v19 => (idx out x.2.1).bind fun v20 => (out[x.2.1.toNat]?).bind fun v21 =>
            bif fine then (idx (out.set x.2.1.toNat (wr (v19 + wr (0 - fl b c x out)))) x.2.1).bind fun v22 => ((out.set x.2.1.toNat (wr (v19 + wr (0 - fl b c x out))))[x.2.1.toNat]?).bind fun v23 =>
              zi_s38 b c z0Y.1 t i fs x (fl b c x out, ()) (decide (v23 ≤ 100000000)) (out.set x.2.1.toNat (wr (v19 + wr (0 - fl b c x out))))
            else zi_s38 b c z0Y.1 t i fs x (fl b c x out, ()) false (out.set x.2.1.toNat (wr (v19 + wr (0 - fl b c x out))))
          else zi_s38 b c z0Y.1 t i fs x (fl b c x out, ()) fine out) = _
  by_cases hf : x.2.1 = -1
  · rw [bifF (show (x.2.1 != -1) = false by simpa using hf), bto_eq b c _ t i fs x hx _ fine out hN hfs]
    unfold okL mv
    have e5 : ∀ n, addAt out x.2.1 n = out := fun n => by unfold addAt; rw [if_pos hf]
    have e6 : okAt out x.2.1 = true := by unfold okAt; rw [dec_true hf]; rfl
    rw [e5, e6, Bool.true_and]
  · rw [bifT (show (x.2.1 != -1) = true by simpa using hf)]
    have hfr : 0 ≤ x.2.1 ∧ x.2.1 < (out.length : Int) := by
      rcases hx.from_ with h | h
      · exact absurd h hf
      · rw [hN]; exact h
    obtain ⟨g1, g2⟩ := idx_getD hfr.1 hfr.2
    rw [g1, g2]
    simp only [Option.bind_some]
    have ea : addAt out x.2.1 (wr (0 - fl b c x out)) = out.set x.2.1.toNat (wr (out.getD x.2.1.toNat 0 + wr (0 - fl b c x out))) := by unfold addAt; rw [if_neg hf]
    have hfr2 : 0 ≤ x.2.1 ∧ x.2.1 < ((addAt out x.2.1 (wr (0 - fl b c x out))).length : Int) := by rw [addAt_length]; exact hfr
    obtain ⟨k1, k2⟩ := idx_getD hfr2.1 hfr2.2
    rw [← ea]
    cases fine with
    | true =>
      simp only [cond_true]
      rw [k1, k2]
      simp only [Option.bind_some]
      rw [bto_eq b c _ t i fs x hx _ _ _ (by rw [addAt_length]; exact hN) hfs]
      unfold okL mv
      have e6 : okAt (addAt out x.2.1 (wr (0 - fl b c x out))) x.2.1 = decide ((addAt out x.2.1 (wr (0 - fl b c x out))).getD x.2.1.toNat 0 ≤ 100000000) := by unfold okAt; rw [dec_false hf]; rfl
      rw [e6, Bool.true_and]
    | false =>
      simp only [cond_false]
      rw [bto_eq b c _ t i fs x hx _ _ _ (by rw [addAt_length]; exact hN) hfs]
      simp [mv]
end Go.Tw
end

section
set_option linter.all false
set_option maxRecDepth 100000
namespace Go.Tw
open Go.Vx Go.Vx.B Go.Proofs

theorem addAt_sea {out : List Int} {j n : Int} (h : j = -1) : addAt out j n = out := by unfold addAt; rw [if_pos h]
theorem addAt_node {out : List Int} {j n : Int} (h : ¬ j = -1) : addAt out j n = out.set j.toNat (wr (out.getD j.toNat 0 + n)) := by unfold addAt; rw [if_neg h]
theorem getD_get {v : List Int} {i : Nat} (h : i < v.length) : v[i]? = some (v.getD i 0) := by simp [List.getD, List.getElem?_eq_getElem h]

theorem fits8_get {v : List Int} (h : fits8 v = true) {i : Nat} {x : Int} (hi : v[i]? = some x) : x ≤ maxV := by
  have := List.all_eq_true.1 h x (List.mem_of_getElem? hi)
  simpa using this

theorem fits8_of {v : List Int} (h : ∀ (i : Nat) (x : Int), v[i]? = some x → x ≤ maxV) : fits8 v = true := by
  unfold fits8
  rw [List.all_eq_true]
  intro x hx
  obtain ⟨i, hi, rfl⟩ := List.getElem_of_mem hx
  exact decide_eq_true (h i _ (List.getElem?_eq_getElem hi))

theorem fits8_addAt {out : List Int} (h : fits8 out = true) (j n : Int) (hj : j = -1 ∨ (0 ≤ j ∧ j < out.length)) : fits8 (addAt out j n) = okAt (addAt out j n) j := by
  unfold okAt
  by_cases hm : j = -1
  · rw [dec_true hm, Bool.true_or]
    unfold addAt
    rw [if_pos hm]
    exact h
  · rw [dec_false hm, Bool.false_or]
    have hj := hj.resolve_left hm
    have hl : j.toNat < out.length := by omega
    have e : addAt out j n = out.set j.toNat (wr (out.getD j.toNat 0 + n)) := by unfold addAt; rw [if_neg hm]
    have e2 : (addAt out j n).getD j.toNat 0 = wr (out.getD j.toNat 0 + n) := by
      rw [e]; simp [List.getD, hl]
    rw [e2]
    by_cases hw : wr (out.getD j.toNat 0 + n) ≤ maxV
    · rw [dec_true hw]
      refine fits8_of fun i x hi => ?_
      rw [e, List.getElem?_set] at hi
      split at hi
      · cases hi; exact hw
      · exact fits8_get h hi
    · rw [dec_false hw]
      rw [Bool.eq_false_iff]
      intro hf
      exact hw (fits8_get hf (i := j.toNat) (by rw [e]; simp [hl]))

theorem fits8_mv (b : Bas) (c : Cnd) {x : Lnk} {N : Nat} (hx : LinkOK x N) {out : List Int} (hN : out.length = N) (h : fits8 out = true) : fits8 (mv b c x out) = okL b c x out := by
  unfold okL
  have hfr : x.2.1 = -1 ∨ (0 ≤ x.2.1 ∧ x.2.1 < (out.length : Int)) := by rw [hN]; exact hx.from_
  have hto : x.2.2.1 = -1 ∨ (0 ≤ x.2.2.1 ∧ x.2.2.1 < ((addAt out x.2.1 (wr (0 - fl b c x out))).length : Int)) := by rw [addAt_length, hN]; exact hx.to_
  have h1 := fits8_addAt h x.2.1 (wr (0 - fl b c x out)) hfr
  cases ho : okAt (addAt out x.2.1 (wr (0 - fl b c x out))) x.2.1 with
  | true =>
    rw [Bool.true_and]
    exact fits8_addAt (h1.trans ho) x.2.2.1 (fl b c x out) hto
  | false =>
    rw [Bool.false_and, Bool.eq_false_iff]
    intro hf
    unfold okAt at ho
    rw [Bool.or_eq_false_iff] at ho
    have hm : ¬ x.2.1 = -1 := of_decide_eq_false ho.1
    have hj := hfr.resolve_left hm
    have hw := of_decide_eq_false ho.2
    apply hw
    refine fits8_get hf (i := x.2.1.toNat) ?_
    have hl : x.2.1.toNat < (addAt out x.2.1 (wr (0 - fl b c x out))).length := by rw [addAt_length]; omega
    unfold mv
    by_cases ht : x.2.2.1 = -1
    · rw [addAt_sea ht]
      exact getD_get hl
    · have ht2 := hto.resolve_left ht
      have hne : x.2.2.1.toNat ≠ x.2.1.toNat := by have := hx.ne; omega
      rw [addAt_node ht, List.getElem?_set_ne hne]
      exact getD_get hl

theorem mv_length (b : Bas) (c : Cnd) (x : Lnk) (out : List Int) : (mv b c x out).length = out.length := by unfold mv; rw [addAt_length, addAt_length]

/-- A link's turn in the reference. -/
theorem rlink_body (b : Bas) (c : Cnd) (i : Int) (x : Lnk) (hx : LinkOK x b.1.length) (hN8 : b.1.length ≤ 8) (fs out : List Int) (hN : out.length = b.1.length) (hfs : fs.length + 1 ≤ memMax) :
    z0f_b7 b c i x out fs = some (bif fits8 (mv b c x out) then .inr (mv b c x out, fs ++ [fl b c x out]) else .inl ([], [], 4, ())) := by
  have hat := atL_in hx
  unfold z0f_b7
  obtain ⟨e1, e2⟩ := idx_getD (out := out) hat.1 (by rw [hN]; exact hat.2)
  have e3 : idx b.1 (atL x) = some (b.1.getD (atL x).toNat ([], 0, 0, ())) := by
    unfold idx
    rw [if_pos hat.1]
    have : (atL x).toNat < b.1.length := by omega
    simp [List.getD, List.getElem?_eq_getElem this]
  have hj : (if x.2.1 < 0 then x.2.2.1 else x.2.1) = atL x := by
    unfold atL
    have := hx.from_
    by_cases hm : x.2.1 = -1
    · rw [if_pos hm, if_pos (by omega)]
    · rw [if_neg hm, if_neg (by omega)]
  have hr := hx.rate
  rw [show z0o_M b out c (x.fst, x.snd.fst, x.snd.snd.fst, x.snd.snd.snd.fst, x.snd.snd.snd.snd.fst, ()) = z0o_M b out c x from rfl, rflow_eq hx.kind (by omega) b out c _ _ _ hj e3 e1]
  simp only [Option.bind_some]
  change (bif decide (x.2.1 ≥ 0) then (idx out x.2.1).bind fun v10 => (out[x.2.1.toNat]?).bind fun v11 => (idx out x.2.1).bind fun v12 => (out[x.2.1.toNat]?).bind fun v13 => z0f_s22 b c i fs x (fl b c x out, ()) (out.set x.2.1.toNat (wr (v11 - fl b c x out))) else z0f_s22 b c i fs x (fl b c x out, ()) out) = _
  have hfr : x.2.1 = -1 ∨ (0 ≤ x.2.1 ∧ x.2.1 < (out.length : Int)) := by rw [hN]; exact hx.from_
  have s22 : z0f_s22 b c i fs x (fl b c x out, ()) (addAt out x.2.1 (wr (0 - fl b c x out))) = some (bif fits8 (mv b c x out) then .inr (mv b c x out, fs ++ [fl b c x out]) else .inl ([], [], 4, ())) := by
    have s21 : z0f_s21 b c i fs (fl b c x out, ()) (mv b c x out) = some (bif fits8 (mv b c x out) then .inr (mv b c x out, fs ++ [fl b c x out]) else .inl ([], [], 4, ())) := by
      unfold z0f_s21
      rw [tooMuch_eq _ (by rw [mv_length, hN]; unfold lenMax; omega)]
      simp only [Option.bind_some]
      cases fits8 (mv b c x out) with
      | true =>
        simp only [Bool.not_true, cond_false, cond_true]
        rw [bifT (dec_true hfs)]
      | false => rfl
    unfold z0f_s22
    have hto : x.2.2.1 = -1 ∨ (0 ≤ x.2.2.1 ∧ x.2.2.1 < ((addAt out x.2.1 (wr (0 - fl b c x out))).length : Int)) := by rw [addAt_length, hN]; exact hx.to_
    by_cases ht : x.2.2.1 = -1
    · rw [bifF (dec_false (show ¬ x.2.2.1 ≥ 0 by omega))]
      have e : mv b c x out = addAt out x.2.1 (wr (0 - fl b c x out)) := by unfold mv; rw [addAt_sea ht]
      rw [← e]
      exact s21
    · have ht2 := hto.resolve_left ht
      rw [bifT (dec_true (show x.2.2.1 ≥ 0 by omega))]
      obtain ⟨g1, g2⟩ := idx_getD ht2.1 ht2.2
      rw [g1, g2]
      simp only [Option.bind_some]
      have e : mv b c x out = (addAt out x.2.1 (wr (0 - fl b c x out))).set x.2.2.1.toNat (wr ((addAt out x.2.1 (wr (0 - fl b c x out))).getD x.2.2.1.toNat 0 + fl b c x out)) := by unfold mv; rw [addAt_node ht]
      rw [show (addAt out x.2.1 (wr (0 - fl b c x out))).set x.2.2.1.toNat (IntKind.i64.wrap ((addAt out x.2.1 (wr (0 - fl b c x out))).getD x.2.2.1.toNat 0 + fl b c x out)) = mv b c x out from e.symm]
      exact s21
  by_cases hf : x.2.1 = -1
  · rw [bifF (dec_false (show ¬ x.2.1 ≥ 0 by omega))]
    have e : addAt out x.2.1 (wr (0 - fl b c x out)) = out := by unfold addAt; rw [if_pos hf]
    rw [e] at s22
    exact s22
  · have hf2 := hfr.resolve_left hf
    rw [bifT (dec_true (show x.2.1 ≥ 0 by omega))]
    obtain ⟨g1, g2⟩ := idx_getD hf2.1 hf2.2
    rw [g1, g2]
    simp only [Option.bind_some]
    have e : addAt out x.2.1 (wr (0 - fl b c x out)) = out.set x.2.1.toNat (wr (out.getD x.2.1.toNat 0 - fl b c x out)) := by unfold addAt; rw [if_neg hf, wrap_sub]
    rw [e] at s22
    exact s22

noncomputable abbrev bLoop (b : Bas) (c : Cnd) (i : Int) (l : List Lnk) (s : Bool × List Int × List Int) : Option (List Int × Option (List Int) × Bool × Unit) :=
  loopL (fun i__ e__ s__ => zi_b12 b c z0Y.1 b.2.1 i__ e__ s__.1 s__.2.1 s__.2.2) (fun s__ => zi_f12 b c z0Y.1 b.2.1 s__.1 s__.2.1 s__.2.2) i l s
noncomputable abbrev rLoop (b : Bas) (c : Cnd) (i : Int) (l : List Lnk) (s : List Int × List Int) : Option (List Int × List Int × Int × Unit) :=
  loopL (fun i__ e__ s__ => z0f_b7 b c i__ e__ s__.1 s__.2) (fun s__ => z0f_f7 b c s__.1 s__.2) i l s

theorem bLoop_bad (b : Bas) (c : Cnd) : ∀ (l : List Lnk) (i : Int) (fs out : List Int), (∀ x ∈ l, LinkOK x b.1.length) → out.length = b.1.length → fs.length + l.length ≤ memMax → ∃ fs' out', bLoop b c i l (false, fs, out) = some (fs', some out', false, ())
  | [], i, fs, out, _, _, _ => ⟨fs, out, rfl⟩
  | x :: l, i, fs, out, hx, hN, hl => by
    simp only [List.length_cons] at hl
    unfold bLoop
    rw [loopL_cons, blink_body b c _ i x (hx x (by simp)) false fs out hN (by omega)]
    simp only [Option.bind_some, Bool.false_and]
    exact bLoop_bad b c l (i + 1) (fs ++ [fl b c x out]) (mv b c x out) (fun y hy => hx y (by simp [hy])) (by rw [mv_length]; exact hN) (by simp; omega)

/-- All links, in the program and in the reference. -/
theorem links_same (b : Bas) (c : Cnd) (h8 : b.1.length ≤ 8) : ∀ (l : List Lnk) (i i' : Int) (fs out : List Int), (∀ x ∈ l, LinkOK x b.1.length) → out.length = b.1.length → fs.length + l.length ≤ memMax → fits8 out = true →
    ∃ fs' out', (rLoop b c i' l (out, fs) = some (fs', out', 0, ()) ∧ bLoop b c i l (true, fs, out) = some (fs', some out', true, ()) ∧ out'.length = b.1.length ∧ fits8 out' = true) ∨
      (rLoop b c i' l (out, fs) = some ([], [], 4, ()) ∧ bLoop b c i l (true, fs, out) = some (fs', some out', false, ()))
  | [], i, i', fs, out, _, hN, _, hf => ⟨fs, out, .inl ⟨rfl, rfl, hN, hf⟩⟩
  | x :: l, i, i', fs, out, hx, hN, hl, hf => by
    simp only [List.length_cons] at hl
    have hL := hx x (by simp)
    unfold rLoop bLoop
    rw [loopL_cons, loopL_cons, rlink_body b c i' x hL h8 fs out hN (by omega), blink_body b c _ i x hL true fs out hN (by omega)]
    simp only [Option.bind_some, Bool.true_and]
    have he := fits8_mv b c hL hN hf
    rw [← he]
    cases hm : fits8 (mv b c x out) with
    | true =>
      simp only [cond_true]
      exact links_same b c h8 l (i + 1) (i' + 1) (fs ++ [fl b c x out]) (mv b c x out) (fun y hy => hx y (by simp [hy])) (by rw [mv_length]; exact hN) (by simp; omega) hm
    | false =>
      simp only [cond_false]
      obtain ⟨fs', out', h⟩ := bLoop_bad b c l (i + 1) (fs ++ [fl b c x out]) (mv b c x out) (fun y hy => hx y (by simp [hy])) (by rw [mv_length]; exact hN) (by simp; omega)
      exact ⟨fs', out', .inr ⟨trivial, h⟩⟩

/-- A step, in the program and in the reference. -/
theorem step_same (b : Bas) (hb : BasOK b) (v : List Int) (c : Cnd) (hv : v.length = b.1.length) (hc : c.2.2.1.length = b.1.length) :
    ∃ fs out, (z0f_M b v c = some (fs, out, 0, ()) ∧ zi_M b v c = some (fs, some out, true, ()) ∧ out.length = b.1.length ∧ fits8 out = true) ∨
      (z0f_M b v c = some ([], [], 4, ()) ∧ zi_M b v c = some (fs, some out, false, ())) := by
  have h8 := hb.nodes
  have hl := hb.links
  have hin : (inflow v c.2.2.1).length = b.1.length := by rw [inflow_length v _ (by omega)]; exact hv
  have hmem : memMax = 68719476736 := rfl
  have hr : z0f_M b v c = z0f_f0 b c (inflow v c.2.2.1) := by
    unfold z0f_M
    rw [bifT (dec_true (show 0 + v.length ≤ memMax by omega)), bifT (dec_true (show (v.length : Int) ≤ 9223372036854775807 by omega))]
    have := rin_loop b c v.length c.2.2.1 v [] [] 0 rfl rfl rfl (by omega) rfl
    rw [List.nil_append, List.nil_append] at this
    rw [show ((v.length : Int) - 0).toNat = v.length by omega]
    exact this
  have hp : zi_M b v c = zi_f0 b c c.2.2.1 (fits8 (inflow v c.2.2.1)) (inflow v c.2.2.1) := by
    unfold zi_M
    have e1 : (true && decide ((0 : Int) ≤ (v.length : Int)) && decide ((v.length : Int) ≤ (memMax : Int)) && (v.length : Int) == (v.length : Int)) = true := by
      rw [dec_true (show (0 : Int) ≤ (v.length : Int) by omega), dec_true (show (v.length : Int) ≤ (memMax : Int) by omega)]; simp
    rw [bifT e1, bifT (dec_true (show c.2.2.1.length < lenMax by unfold lenMax; omega))]
    have e2 : List.take (List.replicate (v.length : Int).toNat (0 : Int)).length v ++ List.drop v.length (List.replicate (v.length : Int).toNat (0 : Int)) = v := by simp
    rw [e2]
    have := bin_loop b c c.2.2.1 c.2.2.1 v [] 0 true rfl (by omega)
    rw [List.nil_append, List.nil_append, Bool.true_and] at this
    exact this
  rw [hr, hp]
  have hlm : decide (List.length b.2.1 < lenMax) = true := dec_true (by unfold lenMax; omega)
  unfold z0f_f0 zi_f0
  rw [tooMuch_eq _ (by rw [hin]; unfold lenMax; omega)]
  simp only [Option.bind_some]
  rw [bifT hlm]
  cases hf : fits8 (inflow v c.2.2.1) with
  | false =>
    obtain ⟨fs', out', h⟩ := bLoop_bad b c b.2.1 0 [] (inflow v c.2.2.1) hb.link hin (by simp; omega)
    exact ⟨fs', out', .inr ⟨rfl, by rw [bifT hlm]; exact h⟩⟩
  | true =>
    simp only [Bool.not_true, cond_false]
    rw [bifT hlm]
    exact links_same b c h8 b.2.1 0 0 [] (inflow v c.2.2.1) hb.link hin (by simp; omega) hf
end Go.Tw
end

section
set_option linter.all false
set_option maxRecDepth 100000
namespace Go.Tw
open Go.Vx Go.Vx.B Go.Proofs

/-! ### Levels -/
def lvls : List Int → List Nod → List Int
  | x :: v, n :: l => wr (x.tdiv n.2.1) :: lvls v l
  | _, _ => []

theorem lvls_length : ∀ (v : List Int) (l : List Nod), v.length = l.length → (lvls v l).length = v.length
  | [], [], _ => rfl
  | x :: v, n :: l, h => by simp [lvls, lvls_length v l (by simpa using h)]
  | [], _ :: _, h => by simp at h
  | _ :: _, [], h => by simp at h

theorem rlevels_loop (b : Bas) (v0 : List Int) : ∀ (v : List Int) (l pn : List Nod) (i : Int) (s : List Int), b.1 = pn ++ l → i = (pn.length : Int) → v.length = l.length → (∀ n ∈ b.1, n.2.1 ≠ 0) → s.length + v.length ≤ memMax →
    loopL (fun i__ e__ s__ => z0N_b0 v0 b i__ e__ s__) (fun s__ => z0N_f0 v0 b s__) i v s = some (s ++ lvls v l, ())
  | [], [], pn, i, s, _, _, _, _, _ => by rw [loopL_nil]; simp [z0N_f0, lvls]
  | x :: v, n :: l, pn, i, s, hb, hi, hl, hn, hs => by
    simp only [List.length_cons] at hs
    have hbody : z0N_b0 v0 b i x s = some (.inr (s ++ [wr (x.tdiv n.2.1)])) := by
      unfold z0N_b0
      rw [hb, idx_mid pn n l i hi]
      simp only [Option.bind_some]
      rw [bifF (beq_eq_false_iff_ne.2 (hn n (by rw [hb]; simp))), bifT (dec_true (show s.length + 1 ≤ memMax by omega))]
    rw [loopL_cons, hbody]
    simp only [Option.bind_some]
    rw [rlevels_loop b v0 v l (pn ++ [n]) (i + 1) (s ++ [wr (x.tdiv n.2.1)]) (by rw [hb]; simp) (by simp [hi]) (by simpa using hl) hn (by simp; omega)]
    simp [lvls]
  | [], _ :: _, _, _, _, _, _, h, _, _ => by simp at h
  | _ :: _, [], _, _, _, _, _, h, _, _ => by simp at h

theorem rlevels_eq (b : Bas) (hb : BasOK b) (v : List Int) (hv : v.length = b.1.length) : z0N_M b v = some (lvls v b.1, ()) := by
  have h8 := hb.nodes
  have hmem : memMax = 68719476736 := rfl
  unfold z0N_M
  rw [bifT (dec_true (show v.length < lenMax by unfold lenMax; omega)), rlevels_loop b v v b.1 [] 0 [] rfl rfl hv (fun n hn => by have := (hb.area n hn).1; omega) (by simp; omega)]
  rfl

/-! ### Until -/
/-! ### The errors of the arguments -/
/-! ### Sizes -/
theorem findSome_none {α β : Type} {p : α → Option β} {l : List α} (h : l.findSome? p = none) : ∀ e ∈ l, p e = none := List.findSome?_eq_none_iff.1 h

theorem short_s9 (b : Bas) (hn : b.1.length < lenMax) (hl : b.2.1.length < lenMax) : ∃ s, z0g_s9 b = some (s, ()) ∧ (s = true → ∀ n ∈ b.1, n.1.length ≤ 60) := by
  unfold z0g_s9
  rw [bifT (dec_true hn), loopL_find (fun n => bif decide ((n.1.length : Int) > 60) then some (false, ()) else none) b.1 0 (fun i e _ => by
    unfold z0g_b5
    cases decide ((e.1.length : Int) > 60) <;> rfl)]
  cases hf : b.1.findSome? (fun n => bif decide ((n.1.length : Int) > 60) then some (false, ()) else none) with
  | some y =>
    obtain ⟨n, _, hy⟩ := List.exists_of_findSome?_eq_some hf
    cases hd : decide ((n.1.length : Int) > 60) with
    | true => rw [hd] at hy; cases hy; exact ⟨false, rfl, by simp⟩
    | false => rw [hd] at hy; cases hy
  | none =>
    have hall : ∀ n ∈ b.1, n.1.length ≤ 60 := fun n hn => by
      have := findSome_none hf n hn
      by_cases hd : (n.1.length : Int) > 60
      · rw [dec_true hd] at this; cases this
      · omega
    show ∃ s, z0g_f5 b = some (s, ()) ∧ _
    unfold z0g_f5
    rw [bifT (dec_true hl), loopL_find (fun n => bif decide ((n.1.length : Int) > 60) then some (false, ()) else none) b.2.1 0 (fun i e _ => by
      unfold z0g_b7
      cases decide ((e.1.length : Int) > 60) <;> rfl)]
    cases hg : b.2.1.findSome? (fun n => bif decide ((n.1.length : Int) > 60) then some (false, ()) else none) with
    | some y =>
      obtain ⟨n, _, hy⟩ := List.exists_of_findSome?_eq_some hg
      cases hd : decide ((n.1.length : Int) > 60) with
      | true => rw [hd] at hy; cases hy; exact ⟨false, rfl, by simp⟩
      | false => rw [hd] at hy; cases hy
    | none => exact ⟨true, rfl, fun _ => hall⟩

theorem short_eq (b : Bas) : ∃ s, z0g_M b = some (s, ()) ∧ (s = true → b.1.length ≤ 9 ∧ b.2.1.length ≤ 17 ∧ ∀ n ∈ b.1, n.1.length ≤ 60) := by
  unfold z0g_M
  by_cases h9 : b.1.length ≤ 9
  · rw [bifF (dec_false (show ¬ (b.1.length : Int) > 9 by omega))]
    by_cases h8 : b.2.1.length ≤ 8
    · rw [bifF (dec_false (show ¬ (b.2.1.length : Int) > 8 by omega))]
      obtain ⟨s, h1, h2⟩ := short_s9 b (by unfold lenMax; omega) (by unfold lenMax; omega)
      exact ⟨s, h1, fun hs => ⟨h9, by omega, h2 hs⟩⟩
    · rw [bifT (dec_true (show (b.2.1.length : Int) > 8 by omega))]
      by_cases h17 : b.2.1.length = 17
      · rw [bifF (show ((b.2.1.length : Int) != 17) = false by simp [h17])]
        obtain ⟨s, h1, h2⟩ := short_s9 b (by unfold lenMax; omega) (by unfold lenMax; omega)
        exact ⟨s, h1, fun hs => ⟨h9, by omega, h2 hs⟩⟩
      · rw [bifT (show ((b.2.1.length : Int) != 17) = true by simp; omega)]
        exact ⟨false, rfl, by simp⟩
  · rw [bifT (dec_true (show (b.1.length : Int) > 9 by omega))]
    exact ⟨false, rfl, by simp⟩

theorem given_eq (b : Bas) (h1 : b.1.length ≤ memMax) (h2 : b.2.1.length ≤ memMax) : z0a_M b = some (b, ()) := by
  have hm := memMax_lt
  unfold z0a_M
  rw [bifT (dec_true (show b.1.length < lenMax by omega)), loopL_app (fun n => n) b.1 0 [] (by simpa using h1) (fun i e s _ hs => by
    unfold z0a_b0
    rw [bifT (dec_true hs)])]
  simp only [List.map_id_fun', id_eq, List.nil_append]
  unfold z0a_f0
  rw [bifT (dec_true (show b.2.1.length < lenMax by omega)), loopL_app (fun n => n) b.2.1 0 [] (by simpa using h2) (fun i e s _ hs => by
    unfold z0a_b2
    rw [bifT (dec_true hs)])]
  simp only [List.map_id_fun', id_eq, List.nil_append]
  rfl

theorem ints_eq (l : List Int) (h : l.length ≤ memMax) : z0l_M l = some (l, ()) := by
  unfold z0l_M z0l_m
  rw [bifT (dec_true (show 0 + l.length ≤ memMax by omega))]

theorem awake_true : z0Z_M = some (true, ()) := by kernel_rfl

end Go.Tw
end
