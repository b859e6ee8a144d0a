/- P1: plain laws: loops as functions of lists; ranges, first errors, names.
P2: names of the program: runes and bytes; nodes, links, volumes, conditions: their errors.
P3: links, basins, volumes, conditions: their errors, in the program and in the reference.
P4: basins, volumes, conditions: their errors, in the program and in the reference.
P5: a step of the program and of the reference; until a level is reached.
P6: a step of the program is that of the reference.
P7: a step of the program is that of the reference (the loops together); until a level is reached.
P8: until a level is reached: the program is the reference; the law. -/
import Derived.Test.YtkfigfhjbejikaaGreatDoorBE

section
set_option linter.all false
set_option maxRecDepth 100000
namespace Go.Tw
open Go.Vx Go.Vx.B Go.Proofs

section
variable {α β γ σ : Type}

theorem loopL_nil {body : Int → α → σ → Option (β ⊕ σ)} {fin : σ → Option β} {i : Int} {s : σ} : loopL body fin i [] s = fin s := rfl
theorem loopL_cons {body : Int → α → σ → Option (β ⊕ σ)} {fin : σ → Option β} {i : Int} {e : α} {l : List α} {s : σ} : loopL body fin i (e :: l) s = (body i e s).bind fun z => match z with
    | .inl y => some y
    | .inr s' => loopL body fin (i + 1) l s' := rfl

/-- The first element of which something is said. -/
theorem loopL_find {body : Int → α → Unit → Option (β ⊕ Unit)} {fin : Unit → Option β} (p : α → Option β) :
    ∀ (l : List α) (i : Int), (∀ i e, e ∈ l → body i e () = some (match p e with | some y => .inl y | none => .inr ())) → loopL body fin i l () = match l.findSome? p with | some y => some y | none => fin ()
  | [], i, _ => rfl
  | e :: l, i, h => by
    rw [loopL_cons, h i e (by simp), List.findSome?_cons]
    cases p e with
    | none => exact loopL_find p l (i + 1) fun i e he => h i e (by simp [he])
    | some y => rfl

/-- A list is turned element by element. -/
theorem loopL_app {body : Int → α → List γ → Option (β ⊕ List γ)} {fin : List γ → Option β} (f : α → γ) :
    ∀ (l : List α) (i : Int) (s : List γ), s.length + l.length ≤ memMax → (∀ i e s, e ∈ l → s.length + 1 ≤ memMax → body i e s = some (.inr (s ++ [f e]))) → loopL body fin i l s = fin (s ++ l.map f)
  | [], i, s, _, _ => by simp [loopL_nil]
  | e :: l, i, s, hl, h => by
    simp only [List.length_cons] at hl
    rw [loopL_cons, h i e s (by simp) (by omega)]
    simp only [Option.bind_some]
    rw [loopL_app f l (i + 1) (s ++ [f e]) (by simp; omega) fun i e s he hs => h i e s (by simp [he]) hs]
    simp
end

theorem dec_true {p : Prop} [Decidable p] (h : p) : decide p = true := decide_eq_true h
theorem dec_false {p : Prop} [Decidable p] (h : ¬ p) : decide p = false := decide_eq_false h
theorem bifT {α : Type} {c : Bool} {a b : α} (h : c = true) : (bif c then a else b) = a := by rw [h]; rfl
theorem bifF {α : Type} {c : Bool} {a b : α} (h : c = false) : (bif c then a else b) = b := by rw [h]; rfl

theorem memMax_lt : memMax < lenMax := by decide

/-! ### Ranges and first errors -/
def ckR (n lo hi : Int) : Int := if n < lo ∨ hi < n then 3 else 0
def firstE (l : List Int) : Int := (l.find? (· != 0)).getD 0

theorem checkRange_eq (n lo hi : Int) : ref01_CheckRange n lo hi = (ckR n lo hi, ()) := by
  unfold ref01_CheckRange ckR
  by_cases h1 : n < lo
  · rw [bifT (dec_true h1), if_pos (.inl h1)]
  · rw [bifF (dec_false h1)]
    by_cases h2 : n > hi
    · rw [bifT (dec_true h2), if_pos (.inr h2)]
    · rw [bifF (dec_false h2), if_neg (by omega)]

theorem when_eq (c : Bool) (e : Int) : basin_when c e = (bif c then e else 0, ()) := by
  unfold basin_when
  cases c <;> rfl

theorem within_eq (n lo hi : Int) : basin_within n lo hi = (ckR n lo hi, ()) := by
  unfold basin_within ckR
  by_cases h1 : n < lo
  · rw [bifT (dec_true h1), when_eq, cond_true, if_pos (.inl h1)]
  · rw [bifF (dec_false h1), when_eq]
    by_cases h2 : n > hi
    · rw [dec_true h2, cond_true, if_pos (.inr h2)]
    · rw [dec_false h2, cond_false, if_neg (by omega)]

theorem find_first (l : List Int) : l.findSome? (fun e => if e != 0 then some (e, ()) else none) = (l.find? (· != 0)).map fun e => (e, ()) := by
  induction l with
  | nil => rfl
  | cons e l ih =>
    rw [List.findSome?_cons, List.find?_cons]
    cases he : (e != 0) with
    | true => rfl
    | false => simpa using ih

theorem bfirst_eq (l : List Int) (h : l.length < lenMax) : basin_first_M l = some (firstE l, ()) := by
  unfold basin_first_M
  rw [bifT (dec_true h), loopL_find (fun e => if e != 0 then some (e, ()) else none) l 0 (fun i e _ => by
    unfold basin_first_b0
    cases he : (e != 0) <;> rfl), find_first]
  unfold firstE basin_first_f0
  cases l.find? (· != 0) <;> rfl

theorem idx_nat {α : Type} (l : List α) (i : Nat) : idx l (i : Int) = l[i]? := by
  unfold idx
  rw [if_pos (Int.natCast_nonneg i)]
  rfl

/-- The first element of which something is said, its place at hand. -/
theorem loopL_findI {α β : Type} {body : Int → α → Unit → Option (β ⊕ Unit)} {fin : Unit → Option β} (xs : List α) (p : α → Option β) :
    ∀ (l done : List α), xs = done ++ l → (∀ (i : Nat) e, xs[i]? = some e → body (i : Int) e () = some (match p e with | some y => .inl y | none => .inr ())) →
      loopL body fin (done.length : Int) l () = match l.findSome? p with | some y => some y | none => fin ()
  | [], done, _, _ => rfl
  | e :: l, done, hx, h => by
    rw [loopL_cons, h done.length e (by rw [hx]; simp), List.findSome?_cons]
    cases p e with
    | none =>
      have := loopL_findI (body := body) (fin := fin) xs p l (done ++ [e]) (by rw [hx]; simp) h
      simp only [List.length_append, List.length_cons, List.length_nil] at this
      exact this
    | some y => rfl

theorem rfirst_eq (l : List Int) (h : l.length < lenMax) : ref01_First_M l = some (firstE l, ()) := by
  unfold ref01_First_M
  have := loopL_findI (body := fun i__ e__ s__ => ref01_First_b0 l i__ e__) (fin := fun s__ => ref01_First_f0 l) l (fun e => if e != 0 then some (e, ()) else none) l [] rfl (fun i e hi => by
    unfold ref01_First_b0
    cases he : (e != 0) with
    | true => rw [idx_nat, hi]; rfl
    | false => rfl)
  rw [bifT (dec_true h)]
  refine this.trans ?_
  rw [find_first]
  unfold firstE ref01_First_f0
  cases l.find? (· != 0) <;> rfl

/-! ### Names -/
def letterN (c : Nat) : Bool := decide (65 ≤ c ∧ c ≤ 90 ∨ 97 ≤ c ∧ c ≤ 122)
def otherN (c : Nat) : Bool := decide (48 ≤ c ∧ c ≤ 57 ∨ c = 95)
def nmOk : Bool → List UInt8 → Bool
  | _, [] => true
  | first, c :: l => (letterN c.toNat || (!first && otherN c.toNat)) && nmOk false l
def isNm (s : List UInt8) : Bool := nmOk true s && decide (0 < s.length ∧ s.length ≤ 24)

theorem rname_loop : ∀ (s0 s : List UInt8) (i : Int), 0 ≤ i → loopL (fun i__ e__ s__ => ref01_IsName_b2 s0 i__ e__) (fun s__ => ref01_IsName_f2 s0) i s () = some (nmOk (decide (i = 0)) s, ())
  | s0, [], i, _ => rfl
  | s0, c :: l, i, hi => by
    rw [loopL_cons]
    have ih := rname_loop s0 l (i + 1) (by omega)
    have e0 : decide (i + 1 = 0) = false := dec_false (by omega)
    rw [e0] at ih
    unfold nmOk
    have hb : ref01_IsName_b2 s0 i c = some (if (letterN c.toNat || (!decide (i = 0) && otherN c.toNat)) = true then .inr () else .inl (false, ())) := by
      unfold ref01_IsName_b2 ref01_IsName_s15 letterN otherN
      have g3 : (i == 0) = decide (i = 0) := by by_cases h : i = 0 <;> simp [h]
      have g4 : ((c.toNat : Int) != 95) = !decide ((c.toNat : Int) = 95) := by by_cases h : (c.toNat : Int) = 95 <;> simp [h]
      rw [g3, g4]
      by_cases h1 : (97 : Int) ≤ c.toNat <;> by_cases h2 : (c.toNat : Int) ≤ 122 <;> by_cases h3 : (65 : Int) ≤ c.toNat <;> by_cases h4 : (c.toNat : Int) ≤ 90 <;> by_cases h5 : (c.toNat : Int) < 48 <;> by_cases h6 : (c.toNat : Int) > 57 <;> by_cases h7 : (c.toNat : Int) = 95 <;> by_cases h8 : i = 0 <;>
        first
        | omega
        | (have g1 : (decide (65 ≤ c.toNat ∧ c.toNat ≤ 90 ∨ 97 ≤ c.toNat ∧ c.toNat ≤ 122)) = decide ((65 : Int) ≤ c.toNat ∧ (c.toNat : Int) ≤ 90 ∨ (97 : Int) ≤ c.toNat ∧ (c.toNat : Int) ≤ 122) := by
            apply decide_eq_decide.2; omega
           have g2 : (decide (48 ≤ c.toNat ∧ c.toNat ≤ 57 ∨ c.toNat = 95)) = decide (¬ (c.toNat : Int) < 48 ∧ ¬ (c.toNat : Int) > 57 ∨ (c.toNat : Int) = 95) := by
            apply decide_eq_decide.2; omega
           rw [g1, g2]
           simp [h1, h2, h3, h4, h5, h6, h7, h8])
    rw [hb]
    simp only [Option.bind_some]
    by_cases hc : (letterN c.toNat || (!decide (i = 0) && otherN c.toNat)) = true
    · rw [if_pos hc, hc, Bool.true_and]
      exact ih
    · rw [if_neg hc, Bool.eq_false_iff.2 hc]
      rfl

theorem rname_eq (s : List UInt8) : ref01_IsName_M s = some (isNm s, ()) := by
  unfold ref01_IsName_M isNm
  by_cases h0 : s.length = 0
  · have : ((s.length : Int) == 0) = true := by simp [h0]
    rw [bifT this, show decide (0 < s.length ∧ s.length ≤ 24) = false from dec_false (by omega), Bool.and_false]
  · have : ((s.length : Int) == 0) = false := by simpa using h0
    rw [bifF this]
    by_cases h1 : 24 < s.length
    · rw [bifT (dec_true (by omega)), show decide (0 < s.length ∧ s.length ≤ 24) = false from dec_false (by omega), Bool.and_false]
    · rw [bifF (dec_false (show ¬ ((s.length : Int) > 24) by omega)), bifT (dec_true (show s.length < lenMax by unfold lenMax; omega)), rname_loop s s 0 (by omega), dec_true rfl]
      rw [show decide (0 < s.length ∧ s.length ≤ 24) = true from dec_true ⟨by omega, by omega⟩, Bool.and_true]
end Go.Tw
end

section
set_option linter.all false
set_option maxRecDepth 100000
namespace Go.Tw
open Go.Vx Go.Vx.B Go.Proofs

theorem get_at {bs : List UInt8} {i : Nat} {c : UInt8} (h : bs[i]? = some c) : (⟨bs.toArray⟩ : ByteArray).get! i = c := by
  show bs.toArray[i]! = c
  rw [getElem!_def]
  simp [h]

theorem rune_ascii {bs : List UInt8} {i : Nat} {c : UInt8} (h : bs[i]? = some c) (hc : c.toNat < 128) : runeAt bs (i : Int) = ((c.toNat : Int), (i : Int) + 1) := by
  unfold runeAt Utf8.decode
  have h0 : (⟨bs.toArray⟩ : ByteArray).get! ((i : Int).toNat + 0) = c := by rw [Int.toNat_natCast, Nat.add_zero]; exact get_at h
  simp only [h0]
  rw [if_pos hc]
  rfl

theorem rune_high {bs : List UInt8} {i : Nat} {c : UInt8} (h : bs[i]? = some c) (hc : 128 ≤ c.toNat) : 128 ≤ (runeAt bs (i : Int)).1 := by
  unfold runeAt Utf8.decode
  have h0 : (⟨bs.toArray⟩ : ByteArray).get! ((i : Int).toNat + 0) = c := by rw [Int.toNat_natCast, Nat.add_zero]; exact get_at h
  simp only [h0]
  rw [if_neg (by omega)]
  have he : Utf8.runeError = 65533 := rfl
  split
  · split
    · rename_i h2; show (128 : Int) ≤ ((_ : Nat) : Int); omega
    · rw [he]; decide
  · split
    · split
      · rename_i h2; simp only [Bool.and_eq_true, decide_eq_true_eq] at h2; show (128 : Int) ≤ ((_ : Nat) : Int); omega
      · rw [he]; decide
    · split
      · split
        · rename_i h2; simp only [Bool.and_eq_true, decide_eq_true_eq] at h2; show (128 : Int) ≤ ((_ : Nat) : Int); omega
        · rw [he]; decide
      · rw [he]; decide

def letterI (r : Int) : Bool := decide (65 ≤ r ∧ r ≤ 90 ∨ 97 ≤ r ∧ r ≤ 122)
def otherI (r : Int) : Bool := decide (48 ≤ r ∧ r ≤ 57 ∨ r = 95)

theorem gname_body (s str : List UInt8) (pos : Int) : gauge_IsName_b0 s str pos = some (if (letterI (runeAt str pos).1 || (!decide (pos = 0) && otherI (runeAt str pos).1)) = true then .inr () else .inl (false, ())) := by
  unfold gauge_IsName_b0 gauge_IsName_s15 gauge_IsName_s14 letterI otherI
  generalize (runeAt str pos).1 = r
  have g3 : (pos == 0) = decide (pos = 0) := by by_cases h : pos = 0 <;> simp [h]
  have g4 : (r == 95) = decide (r = 95) := by by_cases h : r = 95 <;> simp [h]
  rw [g3, g4]
  by_cases h1 : r ≥ 97 <;> by_cases h2 : r ≤ 122 <;> by_cases h3 : r ≥ 65 <;> by_cases h4 : r ≤ 90 <;> by_cases h5 : r ≥ 48 <;> by_cases h6 : r ≤ 57 <;> by_cases h7 : r = 95 <;> by_cases h8 : pos = 0 <;>
    first
    | omega
    | simp [h1, h2, h3, h4, h5, h6, h7, h8]

theorem gname_loop (s : List UInt8) : ∀ (m i : Nat), s.length ≤ i + m → i ≤ s.length →
    loopS s (fun i__ s__ => gauge_IsName_b0 s s i__) (fun s__ => gauge_IsName_f0 s s) m (i : Int) () = bif nmOk (decide (i = 0)) (s.drop i) then gauge_IsName_f0 s s else some (false, ())
  | m, i, hm, hi => by
    by_cases hl : i = s.length
    · have e1 : s.drop i = [] := List.drop_eq_nil_of_le (by omega)
      have e2 : decide ((i : Int) < (s.length : Int)) = false := dec_false (by omega)
      rw [e1]
      cases m <;> (unfold loopS; rw [bifF e2]; rfl)
    · have hlt : i < s.length := by omega
      obtain ⟨m, rfl⟩ : ∃ k, m = k + 1 := ⟨m - 1, by omega⟩
      have hd : s.drop i = s[i] :: s.drop (i + 1) := (List.getElem_cons_drop (h := hlt)).symm
      have hg : s[i]? = some s[i] := List.getElem?_eq_getElem hlt
      have e0 : decide ((i : Int) = 0) = decide (i = 0) := decide_eq_decide.2 (by omega)
      unfold loopS
      rw [bifT (dec_true (show (i : Int) < (s.length : Int) by omega)), gname_body, hd, e0]
      simp only [Option.bind_some]
      by_cases hc : s[i].toNat < 128
      · rw [rune_ascii hg hc]
        have e1 : letterI (s[i].toNat : Int) = letterN s[i].toNat := decide_eq_decide.2 (by omega)
        have e2 : otherI (s[i].toNat : Int) = otherN s[i].toNat := decide_eq_decide.2 (by omega)
        simp only [e1, e2, nmOk]
        by_cases hb : (letterN s[i].toNat || (!decide (i = 0) && otherN s[i].toNat)) = true
        · rw [if_pos hb, hb, Bool.true_and]
          have ih := gname_loop s m (i + 1) (by omega) (by omega)
          have e3 : decide (i + 1 = 0) = false := dec_false (by omega)
          rw [e3, show ((i + 1 : Nat) : Int) = (i : Int) + 1 by omega] at ih
          exact ih
        · rw [if_neg hb, Bool.eq_false_iff.2 hb, Bool.false_and]
          rfl
      · have h1 := rune_high hg (by omega)
        have e1 : letterI (runeAt s (i : Int)).1 = false := dec_false (by omega)
        have e2 : otherI (runeAt s (i : Int)).1 = false := dec_false (by omega)
        have e3 : letterN s[i].toNat = false := dec_false (by omega)
        have e4 : otherN s[i].toNat = false := dec_false (by omega)
        simp [e1, e2, nmOk, e3, e4]

theorem gname_eq (s : List UInt8) (h : s.length < lenMax) : gauge_IsName_M s = some (isNm s, ()) := by
  unfold gauge_IsName_M
  have := gname_loop s s.length 0 (by omega) (by omega)
  rw [List.drop_zero, show decide (0 = 0) = true from rfl] at this
  rw [bifT (dec_true h)]
  refine (show _ = _ from this).trans ?_
  unfold isNm gauge_IsName_f0
  cases hn : nmOk true s with
  | false => rfl
  | true =>
    rw [cond_true, Bool.true_and]
    cases s with
    | nil => rfl
    | cons c l =>
      have e : decide (((c :: l).length : Int) ≤ 24) = decide (0 < (c :: l).length ∧ (c :: l).length ≤ 24) := decide_eq_decide.2 (by simp only [List.length_cons]; omega)
      rw [← e]
      rfl

/-! ### Nodes -/
def firstOf (a b : Int) : Int := if a != 0 then a else b
theorem firstE_nil : firstE [] = 0 := rfl
theorem firstE_cons (a : Int) (l : List Int) : firstE (a :: l) = firstOf a (firstE l) := by
  unfold firstE firstOf
  rw [List.find?_cons]
  cases h : (a != 0) <;> rfl
theorem firstOf_zero (a : Int) : firstOf a 0 = a := by
  unfold firstOf
  by_cases h : a = 0 <;> simp [h]

/-- The error of a node behind others. -/
def nodeE (done : List Nod) (n : Nod) : Int :=
  firstE [bif isNm n.1 then 0 else 8, bif done.any (fun d => d.1 == n.1) then 9 else 0, ckR n.2.1 1 1000, ckR n.2.2.1 0 1024]

def nodesE : List Nod → List Nod → Int
  | _, [] => 0
  | done, n :: l => firstOf (nodeE done n) (nodesE (done ++ [n]) l)

def ckNodes (l : List Nod) : Int := if l.length = 0 then 12 else if 8 < l.length then 5 else nodesE [] l

theorem twice_loop (l : List Nod) (i : Nat) (n : Nod) (hn : l[i]? = some n) {fin : Unit → Option ((Int × Unit) ⊕ Unit)} : ∀ (m k : Nat), k + m = i →
    loopN (fun i__ s__ => ref04_CheckNodes_b3 l (i : Int) i__) fin m (k : Int) () = if ((l.drop k).take m).any (fun d => d.1 == n.1) = true then some (.inl (9, ())) else fin ()
  | 0, k, _ => by simp [loopN]
  | m + 1, k, hk => by
    have hi : i < l.length := (List.getElem?_eq_some_iff.1 hn).1
    have hkl : k < l.length := by omega
    unfold loopN
    have hb : ref04_CheckNodes_b3 l (i : Int) (k : Int) = some (if (l[k].1 == n.1) = true then .inl (.inl (9, ())) else .inr ()) := by
      unfold ref04_CheckNodes_b3
      rw [idx_nat, idx_nat, hn, List.getElem?_eq_getElem hkl]
      simp only [Option.bind_some]
      cases (l[k].1 == n.1) <;> rfl
    rw [hb]
    simp only [Option.bind_some]
    have hd : (l.drop k).take (m + 1) = l[k] :: (l.drop (k + 1)).take m := by
      rw [← List.getElem_cons_drop (h := hkl), List.take_succ_cons]
    rw [hd, List.any_cons]
    cases h : (l[k].1 == n.1) with
    | true => rfl
    | false =>
      rw [if_neg (by simp), Bool.false_or]
      have ih := twice_loop l i n hn (fin := fin) m (k + 1) (by omega)
      rw [show ((k + 1 : Nat) : Int) = (k : Int) + 1 by omega] at ih
      exact ih

theorem rnodes_body (l : List Nod) (hl : l.length ≤ 8) (i : Nat) (n : Nod) (hn : l[i]? = some n) :
    ref04_CheckNodes_b0 l (i : Int) n = some (bif nodeE (l.take i) n != 0 then .inl (nodeE (l.take i) n, ()) else .inr ()) := by
  have hi : i < l.length := (List.getElem?_eq_some_iff.1 hn).1
  unfold ref04_CheckNodes_b0
  rw [rname_eq]
  simp only [Option.bind_some]
  unfold nodeE
  cases hnm : isNm n.1 with
  | false =>
    simp only [Bool.not_false, cond_true, firstE_cons]
    rfl
  | true =>
    simp only [Bool.not_true, cond_false]
    rw [bifT (dec_true (show (i : Int) ≤ 9223372036854775807 by omega))]
    have e1 : ((i : Int) - 0).toNat = i := by omega
    rw [e1]
    have := twice_loop l i n hn (fin := fun s__ => ref04_CheckNodes_f3 l (i : Int)) i 0 (by omega)
    rw [show ((0 : Nat) : Int) = 0 from rfl] at this
    rw [this, List.drop_zero]
    cases hany : (l.take i).any (fun d => d.1 == n.1) with
    | true =>
      rw [if_pos rfl]
      simp [firstE_cons, firstOf]
    | false =>
      rw [if_neg (by simp)]
      unfold ref04_CheckNodes_f3
      rw [idx_nat, hn]
      simp only [Option.bind_some, checkRange_eq]
      rw [rfirst_eq _ (by simp [lenMax])]
      simp only [Option.bind_some]
      have e2 : firstE [bif true then 0 else 8, bif false then 9 else 0, ckR n.2.1 1 1000, ckR n.2.2.1 0 1024] = firstE [ckR n.2.1 1 1000, ckR n.2.2.1 0 1024] := by
        simp [firstE_cons, firstOf]
      rw [e2]
      cases (firstE [ckR n.2.1 1 1000, ckR n.2.2.1 0 1024] != 0) <;> rfl

theorem rnodes_loop (xs : List Nod) (hl : xs.length ≤ 8) : ∀ (l done : List Nod), xs = done ++ l →
    loopL (fun i__ e__ s__ => ref04_CheckNodes_b0 xs i__ e__) (fun s__ => ref04_CheckNodes_f0 xs) (done.length : Int) l () = some (nodesE done l, ())
  | [], done, _ => rfl
  | n :: l, done, hx => by
    have hn : xs[done.length]? = some n := by rw [hx]; simp
    rw [loopL_cons, rnodes_body xs hl done.length n hn]
    have ht : xs.take done.length = done := by rw [hx]; simp
    rw [ht]
    simp only [Option.bind_some, nodesE, firstOf]
    cases h : (nodeE done n != 0) with
    | true => rfl
    | false =>
      have ih := rnodes_loop xs hl l (done ++ [n]) (by rw [hx]; simp)
      simp only [List.length_append, List.length_cons, List.length_nil] at ih
      exact ih

theorem rnodes_eq (l : List Nod) : ref04_CheckNodes_M l = some (ckNodes l, ()) := by
  unfold ref04_CheckNodes_M ckNodes
  by_cases h0 : l.length = 0
  · rw [bifT (show ((l.length : Int) == 0) = true by simp [h0]), if_pos h0]
  · rw [bifF (show ((l.length : Int) == 0) = false by simpa using h0), if_neg h0]
    by_cases h8 : 8 < l.length
    · rw [bifT (dec_true (show (l.length : Int) > 8 by omega)), if_pos h8]
    · rw [bifF (dec_false (show ¬ (l.length : Int) > 8 by omega)), if_neg h8, bifT (dec_true (show l.length < lenMax by unfold lenMax; omega))]
      exact rnodes_loop l (by omega) l [] rfl
end Go.Tw
end

section
set_option linter.all false
set_option maxRecDepth 100000
namespace Go.Tw
open Go.Vx Go.Vx.B Go.Proofs
def kB : List UInt8 := [98, 97, 114, 114, 105, 101, 114]
def kL : List UInt8 := [108, 101, 97, 107]
def kO : List UInt8 := [111, 117, 116, 102, 97, 108, 108]
def kP : List UInt8 := [112, 117, 109, 112]
def kW : List UInt8 := [119, 101, 105, 114]

/-- Which ends of a kind are the sea. -/
def endsOf (k : List UInt8) : Option (Bool × Bool) :=
  if k = kB then some (true, false) else if k = kL then some (true, false) else if k = kO then some (false, true) else if k = kP then some (false, false) else if k = kW then some (false, false) else none
def fitN (n nodes : Int) (sea : Bool) : Bool := bif sea then n == -1 else decide (0 ≤ n) && decide (n < nodes)

def ckLink (x : Lnk) (nodes : Int) : Int :=
  match endsOf x.1 with
  | none => 13
  | some (s, t) => bif fitN x.2.1 nodes s && fitN x.2.2.1 nodes t then
      firstE [bif x.2.1 == x.2.2.1 then 17 else 0, ckR x.2.2.2.1 0 (bif s then 0 else 1024), ckR x.2.2.2.2.1 1 1000] else 10

theorem kinds_cases (k : List UInt8) : k = kB ∨ k = kL ∨ k = kO ∨ k = kP ∨ k = kW ∨ (k ≠ kB ∧ k ≠ kL ∧ k ≠ kO ∧ k ≠ kP ∧ k ≠ kW) := by
  by_cases h1 : k = kB
  · exact .inl h1
  by_cases h2 : k = kL
  · exact .inr (.inl h2)
  by_cases h3 : k = kO
  · exact .inr (.inr (.inl h3))
  by_cases h4 : k = kP
  · exact .inr (.inr (.inr (.inl h4)))
  by_cases h5 : k = kW
  · exact .inr (.inr (.inr (.inr (.inl h5))))
  exact .inr (.inr (.inr (.inr (.inr ⟨h1, h2, h3, h4, h5⟩))))

theorem small3 (a b c : Int) : [a, b, c].length < lenMax := by simp [lenMax]

theorem blink_eq (x : Lnk) (nodes : Int) : basin_Link_check_M x nodes = some (ckLink x nodes, ()) := by
  obtain ⟨k, f, t, a, r, u⟩ := x
  have fin : ∀ (m : Int), ((basin_first_M [bif f == t then 17 else 0, ckR a 0 m, ckR r 1 1000]).bind fun v27 => some (v27.fst, ())) = some (firstE [bif f == t then 17 else 0, ckR a 0 m, ckR r 1 1000], ()) := fun m => by
    rw [bfirst_eq _ (small3 _ _ _)]; rfl
  have r2 : ∀ g : Nat → Bool, (List.range 2).all g = (g 0 && g 1) := fun g => by simp [List.range_succ]
  rcases kinds_cases k with rfl | rfl | rfl | rfl | rfl | ⟨h1, h2, h3, h4, h5⟩
  · simp only [ckLink, show endsOf kB = some (true, false) by decide, fitN]
    simp [basin_Link_check_M, basin_Link_check_m, basin_Link_check_m_j20, basin_table, mapGet, eqV, kB, within_eq, when_eq, fin, r2]
    cases (f == -1) <;> cases (decide (0 ≤ t)) <;> cases (decide (t < nodes)) <;> rfl
  · simp only [ckLink, show endsOf kL = some (true, false) by decide, fitN]
    simp [basin_Link_check_M, basin_Link_check_m, basin_Link_check_m_j20, basin_table, mapGet, eqV, kL, within_eq, when_eq, fin, r2]
    cases (f == -1) <;> cases (decide (0 ≤ t)) <;> cases (decide (t < nodes)) <;> rfl
  · simp only [ckLink, show endsOf kO = some (false, true) by decide, fitN]
    simp [basin_Link_check_M, basin_Link_check_m, basin_Link_check_m_j20, basin_table, mapGet, eqV, kO, within_eq, when_eq, fin, r2]
    cases (t == -1) <;> cases (decide (0 ≤ f)) <;> cases (decide (f < nodes)) <;> rfl
  · simp only [ckLink, show endsOf kP = some (false, false) by decide, fitN]
    simp [basin_Link_check_M, basin_Link_check_m, basin_Link_check_m_j20, basin_table, mapGet, eqV, kP, within_eq, when_eq, fin, r2]
    cases (decide (0 ≤ t)) <;> cases (decide (t < nodes)) <;> cases (decide (0 ≤ f)) <;> cases (decide (f < nodes)) <;> rfl
  · simp only [ckLink, show endsOf kW = some (false, false) by decide, fitN]
    simp [basin_Link_check_M, basin_Link_check_m, basin_Link_check_m_j20, basin_table, mapGet, eqV, kW, within_eq, when_eq, fin, r2]
    cases (decide (0 ≤ t)) <;> cases (decide (t < nodes)) <;> cases (decide (0 ≤ f)) <;> cases (decide (f < nodes)) <;> rfl
  · have g1 : (k == [98, 97, 114, 114, 105, 101, 114]) = false := beq_eq_false_iff_ne.2 h1
    have g2 : (k == [108, 101, 97, 107]) = false := beq_eq_false_iff_ne.2 h2
    have g3 : (k == [111, 117, 116, 102, 97, 108, 108]) = false := beq_eq_false_iff_ne.2 h3
    have g4 : (k == [112, 117, 109, 112]) = false := beq_eq_false_iff_ne.2 h4
    have g5 : (k == [119, 101, 105, 114]) = false := beq_eq_false_iff_ne.2 h5
    simp only [ckLink, show endsOf k = none by simp [endsOf, h1, h2, h3, h4, h5]]
    simp only [basin_Link_check_M, basin_Link_check_m, basin_table, mapGet, eqV, g1, g2, g3, g4, g5]
    rfl

theorem hasWord_eq (k : List UInt8) : ref01_HasWord_M ref04_Kinds.1 k = some (decide (k = kB ∨ k = kL ∨ k = kO ∨ k = kP ∨ k = kW), ()) := by
  rcases kinds_cases k with rfl | rfl | rfl | rfl | rfl | ⟨h1, h2, h3, h4, h5⟩
  · decide
  · decide
  · decide
  · decide
  · decide
  · have g1 : ([98, 97, 114, 114, 105, 101, 114] == k) = false := beq_eq_false_iff_ne.2 (Ne.symm h1)
    have g2 : ([108, 101, 97, 107] == k) = false := beq_eq_false_iff_ne.2 (Ne.symm h2)
    have g3 : ([111, 117, 116, 102, 97, 108, 108] == k) = false := beq_eq_false_iff_ne.2 (Ne.symm h3)
    have g4 : ([112, 117, 109, 112] == k) = false := beq_eq_false_iff_ne.2 (Ne.symm h4)
    have g5 : ([119, 101, 105, 114] == k) = false := beq_eq_false_iff_ne.2 (Ne.symm h5)
    rw [decide_eq_false (by simp [h1, h2, h3, h4, h5])]
    unfold ref01_HasWord_M
    rw [bifT (dec_true (show ref04_Kinds.1.length < lenMax by decide))]
    rw [loopL_find (fun w => if (w == k) = true then some (true, ()) else none) _ 0 (fun i e _ => by
      unfold ref01_HasWord_b0
      cases he : (e == k) <;> rfl)]
    have : ref04_Kinds.1.findSome? (fun w => if (w == k) = true then some (true, ()) else none) = none := by
      show List.findSome? _ [[98, 97, 114, 114, 105, 101, 114], [108, 101, 97, 107], [111, 117, 116, 102, 97, 108, 108], [112, 117, 109, 112], [119, 101, 105, 114]] = none
      simp only [List.findSome?_cons, g1, g2, g3, g4, g5, List.findSome?_nil]
      rfl
    rw [this]
    rfl

theorem firstE_17 (c : Bool) (a b : Int) : (bif c then some (17, ()) else (ref01_First_M [a, b]).bind fun v4 => some (v4.fst, ())) = some (firstE [bif c then 17 else 0, a, b], ()) := by
  cases c with
  | true => rfl
  | false =>
    rw [rfirst_eq _ (by simp [lenMax])]
    simp only [cond_false, firstE_cons (0 : Int), firstOf]
    rfl

theorem rlink_eq (x : Lnk) (nodes : Int) : ref04_checkLink_M x nodes = some (ckLink x nodes, ()) := by
  obtain ⟨k, f, t, a, r, u⟩ := x
  rcases kinds_cases k with rfl | rfl | rfl | rfl | rfl | ⟨h1, h2, h3, h4, h5⟩
  · simp only [ckLink, show endsOf kB = some (true, false) by decide, fitN]
    simp only [ref04_checkLink_M, ref04_checkLink_m, hasWord_eq, show decide (kB = kB ∨ kB = kL ∨ kB = kO ∨ kB = kP ∨ kB = kW) = true by decide, Option.bind_some]
    simp [ref04_sea, ref04_fits, kB, checkRange_eq, firstE_17]
    cases (f == -1) <;> cases (decide (0 ≤ t)) <;> cases (decide (t < nodes)) <;> rfl
  · simp only [ckLink, show endsOf kL = some (true, false) by decide, fitN]
    simp only [ref04_checkLink_M, ref04_checkLink_m, hasWord_eq, show decide (kL = kB ∨ kL = kL ∨ kL = kO ∨ kL = kP ∨ kL = kW) = true by decide, Option.bind_some]
    simp [ref04_sea, ref04_fits, kL, checkRange_eq, firstE_17]
    cases (f == -1) <;> cases (decide (0 ≤ t)) <;> cases (decide (t < nodes)) <;> rfl
  · simp only [ckLink, show endsOf kO = some (false, true) by decide, fitN]
    simp only [ref04_checkLink_M, ref04_checkLink_m, hasWord_eq, show decide (kO = kB ∨ kO = kL ∨ kO = kO ∨ kO = kP ∨ kO = kW) = true by decide, Option.bind_some]
    simp [ref04_sea, ref04_fits, kO, checkRange_eq, firstE_17]
    cases (t == -1) <;> cases (decide (0 ≤ f)) <;> cases (decide (f < nodes)) <;> rfl
  · simp only [ckLink, show endsOf kP = some (false, false) by decide, fitN]
    simp only [ref04_checkLink_M, ref04_checkLink_m, hasWord_eq, show decide (kP = kB ∨ kP = kL ∨ kP = kO ∨ kP = kP ∨ kP = kW) = true by decide, Option.bind_some]
    simp [ref04_sea, ref04_fits, kP, checkRange_eq, firstE_17]
    cases (decide (0 ≤ t)) <;> cases (decide (t < nodes)) <;> cases (decide (0 ≤ f)) <;> cases (decide (f < nodes)) <;> rfl
  · simp only [ckLink, show endsOf kW = some (false, false) by decide, fitN]
    simp only [ref04_checkLink_M, ref04_checkLink_m, hasWord_eq, show decide (kW = kB ∨ kW = kL ∨ kW = kO ∨ kW = kP ∨ kW = kW) = true by decide, Option.bind_some]
    simp [ref04_sea, ref04_fits, kW, checkRange_eq, firstE_17]
    cases (decide (0 ≤ t)) <;> cases (decide (t < nodes)) <;> cases (decide (0 ≤ f)) <;> cases (decide (f < nodes)) <;> rfl
  · simp only [ckLink, show endsOf k = none by simp [endsOf, h1, h2, h3, h4, h5]]
    simp only [ref04_checkLink_M, ref04_checkLink_m, hasWord_eq, show decide (k = kB ∨ k = kL ∨ k = kO ∨ k = kP ∨ k = kW) = false by simp [h1, h2, h3, h4, h5], Option.bind_some]
    rfl
end Go.Tw
end

section
set_option linter.all false
set_option maxRecDepth 100000
namespace Go.Tw
open Go.Vx Go.Vx.B Go.Proofs

theorem loopL_err {α : Type} {body : Int → α → Unit → Option ((Int × Unit) ⊕ Unit)} {fin : Unit → Option (Int × Unit)} (g : α → Int) (l : List α) (i : Int) (hb : ∀ i e, e ∈ l → body i e () = some (bif g e != 0 then .inl (g e, ()) else .inr ())) (hf : fin () = some (0, ())) :
    loopL body fin i l () = some (firstE (l.map g), ()) := by
  rw [loopL_find (fun e => bif g e != 0 then some (g e, ()) else none) l i (fun i e he => by
    rw [hb i e he]
    cases (g e != 0) <;> rfl)]
  clear hb
  induction l with
  | nil => exact hf
  | cons e l ih =>
    rw [List.findSome?_cons, List.map_cons, firstE_cons, firstOf]
    cases (g e != 0) with
    | true => rfl
    | false => exact ih

/-! ### Mapped -/
theorem mapLink_eq (l : List Lnk) (of : Lnk × Unit → Option (Int × Unit)) (g : Lnk → Int) (h : ∀ e ∈ l, of (e, ()) = some (g e, ())) (hl : l.length ≤ memMax) : basin_mapped_basin_Link_api_Errno_M l of = some (l.map g, ()) := by
  unfold basin_mapped_basin_Link_api_Errno_M
  have hm := memMax_lt
  rw [bifT (dec_true (show l.length < lenMax by omega)), loopL_app g l 0 [] (by simpa using hl) (fun i e s he hs => by
    unfold basin_mapped_basin_Link_api_Errno_b0
    rw [show of ((e.fst, e.snd.fst, e.snd.snd.fst, e.snd.snd.snd.fst, e.snd.snd.snd.snd.fst, ()), ()) = of (e, ()) from rfl, h e he]
    simp only [Option.bind_some]
    rw [bifT (dec_true hs)])]
  rfl

theorem mapInt_eq (l : List Int) (of : Int × Unit → Option (Int × Unit)) (g : Int → Int) (h : ∀ e ∈ l, of (e, ()) = some (g e, ())) (hl : l.length ≤ memMax) : basin_mapped_int_api_Errno_M l of = some (l.map g, ()) := by
  unfold basin_mapped_int_api_Errno_M
  have hm := memMax_lt
  rw [bifT (dec_true (show l.length < lenMax by omega)), loopL_app g l 0 [] (by simpa using hl) (fun i e s he hs => by
    unfold basin_mapped_int_api_Errno_b0
    rw [h e he]
    simp only [Option.bind_some]
    rw [bifT (dec_true hs)])]
  rfl

/-! ### Basins -/
def ckBasin (b : Bas) : Int :=
  firstOf (ckNodes b.1) (bif decide (16 < b.2.1.length) then 5 else firstE (b.2.1.map fun x => ckLink x (b.1.length : Int)))

theorem rbasin_eq (b : Bas) : ref04_CheckBasin_M b = some (ckBasin b, ()) := by
  unfold ref04_CheckBasin_M ckBasin firstOf
  rw [rnodes_eq]
  simp only [Option.bind_some]
  cases h : (ckNodes b.1 != 0) with
  | true => rfl
  | false =>
    simp only [cond_false]
    rw [if_neg (by simp)]
    by_cases h16 : 16 < b.2.1.length
    · rw [bifT (dec_true (show (b.2.1.length : Int) > 16 by omega)), bifT (dec_true h16)]
    · rw [bifF (dec_false (show ¬ (b.2.1.length : Int) > 16 by omega)), bifF (dec_false h16), bifT (dec_true (show b.2.1.length < lenMax by unfold lenMax; omega))]
      exact loopL_err (fun x => ckLink x (b.1.length : Int)) _ 0 (fun i e _ => by
        unfold ref04_CheckBasin_b1
        rw [rlink_eq]
        simp only [Option.bind_some]
        cases (ckLink e (b.1.length : Int) != 0) <;> rfl) rfl

/-- What the program knows of names: those of the nodes before. -/
def Knows (m : List (List UInt8 × Bool)) (done : List Nod) : Prop := ∀ k, (mapGet .str .bool m k).getD false = done.any fun d => d.1 == k

theorem mapGet_put (m : List (List UInt8 × Bool)) (k k' : List UInt8) : (mapGet .str .bool (mapPut .str .bool m k true) k').getD false = ((k == k') || (mapGet .str .bool m k').getD false) := by
  induction m with
  | nil =>
    show (mapGet .str .bool [(k, true)] k').getD false = _
    simp only [mapGet, eqV]
    by_cases h : k' = k
    · subst h; simp
    · have h1 : (k' == k) = false := beq_eq_false_iff_ne.2 h
      have h2 : (k == k') = false := beq_eq_false_iff_ne.2 (Ne.symm h)
      show (bif (k' == k) then some true else none).getD false = _
      rw [h1, h2]; rfl
  | cons p m ih =>
    show (mapGet .str .bool (bif (k == p.1) then (k, true) :: m else p :: mapPut .str .bool m k true) k').getD false = _
    by_cases h : k = p.1
    · have h1 : (k == p.1) = true := by simp [h]
      rw [h1, cond_true]
      show (bif (k' == k) then some true else mapGet .str .bool m k').getD false = ((k == k') || (bif (k' == p.1) then some p.2 else mapGet .str .bool m k').getD false)
      by_cases h2 : k' = k
      · have e1 : (k' == k) = true := by simp [h2]
        have e2 : (k == k') = true := by simp [h2]
        rw [e1, e2]; rfl
      · have e1 : (k' == k) = false := beq_eq_false_iff_ne.2 h2
        have e2 : (k == k') = false := beq_eq_false_iff_ne.2 (Ne.symm h2)
        have e3 : (k' == p.1) = false := by rw [← h]; exact e1
        rw [e1, e2, e3]; rfl
    · have h1 : (k == p.1) = false := beq_eq_false_iff_ne.2 h
      rw [h1, cond_false]
      show (bif (k' == p.1) then some p.2 else mapGet .str .bool (mapPut .str .bool m k true) k').getD false = ((k == k') || (bif (k' == p.1) then some p.2 else mapGet .str .bool m k').getD false)
      by_cases h2 : k' = p.1
      · have e1 : (k' == p.1) = true := by simp [h2]
        have e2 : (k == k') = false := by rw [h2]; exact h1
        rw [e1, e2]; rfl
      · have e1 : (k' == p.1) = false := beq_eq_false_iff_ne.2 h2
        rw [e1]
        exact ih

theorem Knows.put {m : List (List UInt8 × Bool)} {done : List Nod} (h : Knows m done) (n : Nod) : Knows (mapPut .str .bool m n.1 true) (done ++ [n]) := by
  intro k
  rw [mapGet_put, h k, List.any_append]
  simp [Bool.or_comm]

theorem small4 (a b c d : Int) : [a, b, c, d].length < lenMax := by simp [lenMax]
theorem small2 (a b : Int) : [a, b].length < lenMax := by simp [lenMax]

theorem bnodes_loop (b : Bas) (hn : ∀ n ∈ b.1, n.1.length < lenMax) : ∀ (l done : List Nod) (i : Int) (m : List (List UInt8 × Bool)), (∀ n ∈ l, n.1.length < lenMax) → Knows m done →
    ∃ m', loopL (fun i__ e__ s__ => basin_CheckBasin_b1 b b.1 i__ e__ s__) (fun s__ => basin_CheckBasin_f1 b b.1 s__) i l m = bif nodesE done l != 0 then some (nodesE done l, ()) else basin_CheckBasin_f1 b b.1 m'
  | [], done, i, m, _, _ => ⟨m, rfl⟩
  | n :: l, done, i, m, hl, hk => by
    have hb : basin_CheckBasin_b1 b b.1 i n m = some (bif nodeE done n != 0 then .inl (nodeE done n, ()) else .inr (mapPut .str .bool m n.1 true)) := by
      unfold basin_CheckBasin_b1
      rw [gname_eq n.1 (hl n (by simp))]
      simp only [Option.bind_some, when_eq, within_eq, hk n.1]
      rw [bfirst_eq _ (small4 _ _ _ _)]
      have e : firstE [bif !isNm n.1 then 8 else 0, bif done.any (fun d => d.1 == n.1) then 9 else 0, ckR n.2.1 1 1000, ckR n.2.2.1 0 1024] = nodeE done n := by
        unfold nodeE
        cases isNm n.1 <;> rfl
      simp only [Option.bind_some, e]
      cases (nodeE done n != 0) <;> rfl
    rw [loopL_cons, hb]
    simp only [Option.bind_some, nodesE, firstOf]
    cases h : (nodeE done n != 0) with
    | true => exact ⟨m, by simp [h]⟩
    | false =>
      obtain ⟨m', hm⟩ := bnodes_loop b hn l (done ++ [n]) (i + 1) (mapPut .str .bool m n.1 true) (fun x hx => hl x (by simp [hx])) (hk.put n)
      exact ⟨m', by rw [if_neg (by simp)]; exact hm⟩

theorem ckNodes_zero {l : List Nod} (h : ckNodes l = 0) : 0 < l.length ∧ l.length ≤ 8 ∧ nodesE [] l = 0 := by
  unfold ckNodes at h
  split at h
  · cases h
  · split at h
    · cases h
    · exact ⟨by omega, by omega, h⟩

theorem bbasin_eq (b : Bas) (hn : ∀ n ∈ b.1, n.1.length < lenMax) : basin_CheckBasin_M b = some (ckBasin b, ()) := by
  unfold basin_CheckBasin_M
  simp only [when_eq]
  rw [bfirst_eq _ (small2 _ _)]
  simp only [Option.bind_some]
  have fin : ∀ m, basin_CheckBasin_f1 b b.1 m = some (bif decide (16 < b.2.1.length) then 5 else firstE (b.2.1.map fun x => ckLink x (b.1.length : Int)), ()) := fun m => by
    unfold basin_CheckBasin_f1
    by_cases h16 : 16 < b.2.1.length
    · rw [bifT (dec_true (show (b.2.1.length : Int) > 16 by omega)), bifT (dec_true h16)]
    · rw [bifF (dec_false (show ¬ (b.2.1.length : Int) > 16 by omega)), bifF (dec_false h16)]
      rw [mapLink_eq b.2.1 _ (fun x => ckLink x (b.1.length : Int)) (fun e _ => by
        unfold basin_CheckBasin_1_M basin_CheckBasin_1_m
        rw [blink_eq]; rfl) (by unfold memMax; omega)]
      simp only [Option.bind_some]
      rw [bfirst_eq _ (by rw [List.length_map]; unfold lenMax; omega)]
      rfl
  unfold ckBasin ckNodes
  by_cases h0 : b.1.length = 0
  · have e1 : ((b.1.length : Int) == 0) = true := by simp [h0]
    rw [e1, if_pos h0]
    simp [firstE_cons, firstOf]
  · have e1 : ((b.1.length : Int) == 0) = false := by simpa using h0
    rw [e1, if_neg h0]
    by_cases h8 : 8 < b.1.length
    · rw [dec_true (show (b.1.length : Int) > 8 by omega), if_pos h8]
      simp [firstE_cons, firstOf]
    · rw [dec_false (show ¬ (b.1.length : Int) > 8 by omega), if_neg h8]
      have e2 : firstE [bif false then 12 else 0, bif false then 5 else 0] = 0 := by decide
      rw [e2]
      rw [bifF (show ((0 : Int) != 0) = false by decide), bifT (dec_true (show b.1.length < lenMax by unfold lenMax; omega))]
      obtain ⟨m', hm⟩ := bnodes_loop b hn b.1 [] 0 [] hn (fun k => rfl)
      refine (show _ = _ from hm).trans ?_
      rw [fin m', firstOf]
      cases (nodesE [] b.1 != 0) <;> rfl

/-! ### Volumes and conditions -/
def ckVols (b : Bas) (v : List Int) : Int := firstOf (bif (v.length : Int) != (b.1.length : Int) then 2 else 0) (firstE (v.map fun n => ckR n 0 100000000))
theorem rvols_eq (b : Bas) (v : List Int) (h : v.length < lenMax) : ref04_OnlyVolumes_M b v = some (ckVols b v, ()) := by
  unfold ref04_OnlyVolumes_M ckVols firstOf
  cases ((v.length : Int) != (b.1.length : Int)) with
  | true => rfl
  | false =>
    simp only [cond_false]
    rw [bifT (dec_true h), if_neg (by decide)]
    exact loopL_err (fun n => ckR n 0 100000000) v 0 (fun i e _ => by
      unfold ref04_OnlyVolumes_b0
      rw [checkRange_eq]
      cases (ckR e 0 100000000 != 0) <;> rfl) rfl

theorem bvols_eq (b : Bas) (v : List Int) (h : v.length ≤ memMax) : basin_Basin_checkVolumes_M b v = some (ckVols b v, ()) := by
  have hm := memMax_lt
  unfold basin_Basin_checkVolumes_M basin_Basin_checkVolumes_m
  rw [mapInt_eq v _ (fun n => ckR n 0 100000000) (fun e _ => by
    show some (basin_Basin_checkVolumes_1 e) = _
    unfold basin_Basin_checkVolumes_1
    rw [within_eq]) h]
  simp only [Option.bind_some]
  rw [bfirst_eq _ (by rw [List.length_map]; omega)]
  simp only [Option.bind_some, when_eq]
  rw [bfirst_eq _ (small2 _ _)]
  simp only [Option.bind_some, firstE_cons, firstE_nil, firstOf_zero]
  rfl

def ckCV (b : Bas) (v : List Int) : Int := firstOf (ckBasin b) (ckVols b v)

theorem rcv_eq (b : Bas) (v : List Int) (h : v.length < lenMax) : ref04_CheckVolumes_M b v = some (ckCV b v, ()) := by
  unfold ref04_CheckVolumes_M ref04_CheckVolumes_m ckCV firstOf
  rw [rbasin_eq]
  simp only [Option.bind_some]
  cases (ckBasin b != 0) with
  | true => rfl
  | false =>
    simp only [cond_false]
    rw [rvols_eq b v h, if_neg (by simp)]
    rfl

theorem bcv_eq (b : Bas) (v : List Int) (hn : ∀ n ∈ b.1, n.1.length < lenMax) (h : v.length ≤ memMax) : basin_CheckVolumes_M b v = some (ckCV b v, ()) := by
  unfold basin_CheckVolumes_M basin_CheckVolumes_m
  rw [bbasin_eq b hn, Option.bind_some, bvols_eq b v h]
  simp only [Option.bind_some]
  rw [bfirst_eq _ (small2 _ _)]
  simp only [Option.bind_some, firstE_cons, firstE_nil, firstOf_zero]
  rfl
end Go.Tw
end

section
set_option linter.all false
set_option maxRecDepth 100000
namespace Go.Tw
open Go.Vx Go.Vx.B Go.Proofs

/-! ### Numbers -/
abbrev wr (a : Int) : Int := IntKind.i64.wrap a

/-! ### Lists -/
theorem firstE_zero : ∀ {l : List Int}, firstE l = 0 → ∀ e ∈ l, e = 0
  | [], _, e, he => by simp at he
  | a :: l, h, e, he => by
    rw [firstE_cons] at h
    unfold firstOf at h
    by_cases ha : a = 0
    · rcases List.mem_cons.1 he with rfl | he
      · exact ha
      · rw [ha] at h; exact firstE_zero h e he
    · rw [if_pos (by simpa using ha)] at h; exact absurd h ha

theorem firstOf_eq0 {a b : Int} (h : firstOf a b = 0) : a = 0 ∧ b = 0 := by
  unfold firstOf at h
  by_cases ha : a = 0
  · subst ha; exact ⟨rfl, h⟩
  · rw [if_pos (by simpa using ha)] at h; exact absurd h ha

theorem ckR_zero {n lo hi : Int} (h : ckR n lo hi = 0) : lo ≤ n ∧ n ≤ hi := by
  unfold ckR at h
  split at h
  · cases h
  · omega

/-- What a valid link is. -/
structure LinkOK (x : Lnk) (N : Nat) : Prop where
  kind : endsOf x.1 ≠ none
  from_ : x.2.1 = -1 ∨ (0 ≤ x.2.1 ∧ x.2.1 < N)
  to_ : x.2.2.1 = -1 ∨ (0 ≤ x.2.2.1 ∧ x.2.2.1 < N)
  ne : x.2.1 ≠ x.2.2.1
  some_ : x.2.1 ≠ -1 ∨ x.2.2.1 ≠ -1
  at_ : 0 ≤ x.2.2.2.1 ∧ x.2.2.2.1 ≤ 1024
  rate : 1 ≤ x.2.2.2.2.1 ∧ x.2.2.2.2.1 ≤ 1000

theorem fitN_ok {n N : Int} {s : Bool} (h : fitN n N s = true) : (s = true ∧ n = -1) ∨ (s = false ∧ 0 ≤ n ∧ n < N) := by
  cases s with
  | true => exact .inl ⟨rfl, by simpa [fitN] using h⟩
  | false =>
    simp only [fitN, cond_false, Bool.and_eq_true, decide_eq_true_eq] at h
    exact .inr ⟨rfl, h⟩

theorem ckLink_zero {x : Lnk} {N : Nat} (h : ckLink x (N : Int) = 0) : LinkOK x N := by
  unfold ckLink at h
  split at h
  · cases h
  · rename_i s t he
    cases hf : (fitN x.2.1 (N : Int) s && fitN x.2.2.1 (N : Int) t) with
    | false => rw [hf] at h; cases h
    | true =>
      rw [hf] at h
      simp only [cond_true] at h
      simp only [Bool.and_eq_true] at hf
      have h1 := firstE_zero h _ (List.mem_cons_self ..)
      have h2 := ckR_zero (firstE_zero h _ (List.mem_cons_of_mem _ (List.mem_cons_self ..)))
      have h3 := ckR_zero (firstE_zero h _ (List.mem_cons_of_mem _ (List.mem_cons_of_mem _ (List.mem_cons_self ..))))
      have hne : x.2.1 ≠ x.2.2.1 := by
        intro e
        rw [show (x.2.1 == x.2.2.1) = true by simp [e]] at h1
        cases h1
      refine ⟨by rw [he]; simp, ?_, ?_, hne, ?_, ?_, h3⟩
      · rcases fitN_ok hf.1 with ⟨_, h⟩ | ⟨_, h⟩
        · exact .inl h
        · exact .inr h
      · rcases fitN_ok hf.2 with ⟨_, h⟩ | ⟨_, h⟩
        · exact .inl h
        · exact .inr h
      · rcases fitN_ok hf.1 with ⟨_, h⟩ | ⟨_, h⟩
        · rcases fitN_ok hf.2 with ⟨_, h'⟩ | ⟨_, h'⟩
          · exact absurd (h.trans h'.symm) hne
          · exact .inr (by omega)
        · exact .inl (by omega)
      · cases s
        · exact h2
        · have : (0 : Int) ≤ x.2.2.2.1 ∧ x.2.2.2.1 ≤ 0 := h2
          omega

/-- What a valid basin is. -/
structure BasOK (b : Bas) : Prop where
  pos : 0 < b.1.length
  nodes : b.1.length ≤ 8
  links : b.2.1.length ≤ 16
  area : ∀ n ∈ b.1, 1 ≤ n.2.1 ∧ n.2.1 ≤ 1000
  limit : ∀ n ∈ b.1, 0 ≤ n.2.2.1 ∧ n.2.2.1 ≤ 1024
  link : ∀ x ∈ b.2.1, LinkOK x b.1.length

theorem nodesE_zero : ∀ {l done : List Nod}, nodesE done l = 0 → ∀ n ∈ l, (1 ≤ n.2.1 ∧ n.2.1 ≤ 1000) ∧ 0 ≤ n.2.2.1 ∧ n.2.2.1 ≤ 1024
  | [], _, _, n, hn => by simp at hn
  | m :: l, done, h, n, hn => by
    obtain ⟨h1, h2⟩ := firstOf_eq0 (show firstOf (nodeE done m) (nodesE (done ++ [m]) l) = 0 from h)
    rcases List.mem_cons.1 hn with rfl | hn
    · exact ⟨ckR_zero (firstE_zero h1 _ (by simp)), ckR_zero (firstE_zero h1 _ (by simp))⟩
    · exact nodesE_zero h2 n hn

theorem ckBasin_zero {b : Bas} (h : ckBasin b = 0) : BasOK b := by
  obtain ⟨h1, h2⟩ := firstOf_eq0 h
  obtain ⟨g1, g2, g3⟩ := ckNodes_zero h1
  by_cases h16 : 16 < b.2.1.length
  · rw [dec_true h16] at h2; cases h2
  · rw [dec_false h16, cond_false] at h2
    exact ⟨g1, g2, by omega, fun n hn => (nodesE_zero g3 n hn).1, fun n hn => (nodesE_zero g3 n hn).2, fun x hx => ckLink_zero (firstE_zero h2 _ (List.mem_map.2 ⟨x, hx, rfl⟩))⟩

/-! ### Flows -/
noncomputable def flo (a r : Int) : Int := bif decide (wr (wr (a.tdiv r) * r) > a) then wr (wr (a.tdiv r) - 1) else wr (a.tdiv r)
def imax (a b : Int) : Int := if b > a then b else a
def imin (a b : Int) : Int := if b < a then b else a

/-- The flow of a link. -/
noncomputable def flowV (x : Lnk) (vol area tide : Int) (opn : Bool) : Int :=
  if x.1 = kB then (bif opn then imax (wr (0 - vol)) (flo (wr (wr (area * tide) - vol)) x.2.2.2.2.1) else 0)
  else if x.1 = kL then imax 0 (flo (wr (wr (area * tide) - vol)) x.2.2.2.2.1)
  else if x.1 = kO then imax 0 (flo (wr (vol - wr (area * imax tide x.2.2.2.1))) x.2.2.2.2.1)
  else if x.1 = kP then imax 0 (imin x.2.2.2.2.1 (wr (vol - wr (area * x.2.2.2.1))))
  else imax 0 (flo (wr (vol - wr (area * x.2.2.2.1))) x.2.2.2.2.1)

end Go.Tw
end

section
set_option linter.all false
set_option maxRecDepth 100000
namespace Go.Tw
open Go.Vx Go.Vx.B Go.Proofs

/-! ### What flows in -/
theorem idx_mid {α : Type} (p : List α) (x : α) (r : List α) (i : Int) (hi : i = (p.length : Int)) : idx (p ++ x :: r) i = some x := by
  subst hi
  rw [idx_nat]
  simp

theorem set_mid {α : Type} (p : List α) (x y : α) (r : List α) (i : Int) (hi : i = (p.length : Int)) : (p ++ x :: r).set i.toNat y = p ++ y :: r := by
  subst hi
  simp

theorem get_mid {α : Type} (p : List α) (x : α) (r : List α) (i : Int) (hi : i = (p.length : Int)) : (p ++ x :: r)[i.toNat]? = some x := by
  subst hi
  simp

/-! ### Links -/
/-- The node at a link: its first end, or the second where the first is the sea. -/
def atL (x : Lnk) : Int := if x.2.1 = -1 then x.2.2.1 else x.2.1

noncomputable def fl (b : Bas) (c : Cnd) (x : Lnk) (out : List Int) : Int := flowV x (out.getD (atL x).toNat 0) (b.1.getD (atL x).toNat ([], 0, 0, ())).2.1 c.1 c.2.1
end Go.Tw
end

section
set_option linter.all false
set_option maxRecDepth 100000
namespace Go.Tw
open Go.Vx Go.Vx.B Go.Proofs

end Go.Tw
end

section
set_option linter.all false
set_option maxRecDepth 100000
namespace Go.Tw
open Go.Vx Go.Vx.B Go.Proofs

/-! ### Levels -/
def lvls : List Int → List Nod → List Int
  | x :: v, n :: l => wr (x.tdiv n.2.1) :: lvls v l
  | _, _ => []

theorem lvls_length : ∀ (v : List Int) (l : List Nod), v.length = l.length → (lvls v l).length = v.length
  | [], [], _ => rfl
  | x :: v, n :: l, h => by simp [lvls, lvls_length v l (by simpa using h)]
  | [], _ :: _, h => by simp at h
  | _ :: _, [], h => by simp at h

theorem rlevels_loop (b : Bas) (v0 : List Int) : ∀ (v : List Int) (l pn : List Nod) (i : Int) (s : List Int), b.1 = pn ++ l → i = (pn.length : Int) → v.length = l.length → (∀ n ∈ b.1, n.2.1 ≠ 0) → s.length + v.length ≤ memMax →
    loopL (fun i__ e__ s__ => ref04_Levels_b0 v0 b i__ e__ s__) (fun s__ => ref04_Levels_f0 v0 b s__) i v s = some (s ++ lvls v l, ())
  | [], [], pn, i, s, _, _, _, _, _ => by rw [loopL_nil]; simp [ref04_Levels_f0, lvls]
  | x :: v, n :: l, pn, i, s, hb, hi, hl, hn, hs => by
    simp only [List.length_cons] at hs
    have hbody : ref04_Levels_b0 v0 b i x s = some (.inr (s ++ [wr (x.tdiv n.2.1)])) := by
      unfold ref04_Levels_b0
      rw [hb, idx_mid pn n l i hi]
      simp only [Option.bind_some]
      rw [bifF (beq_eq_false_iff_ne.2 (hn n (by rw [hb]; simp))), bifT (dec_true (show s.length + 1 ≤ memMax by omega))]
    rw [loopL_cons, hbody]
    simp only [Option.bind_some]
    rw [rlevels_loop b v0 v l (pn ++ [n]) (i + 1) (s ++ [wr (x.tdiv n.2.1)]) (by rw [hb]; simp) (by simp [hi]) (by simpa using hl) hn (by simp; omega)]
    simp [lvls]
  | [], _ :: _, _, _, _, _, _, h, _, _ => by simp at h
  | _ :: _, [], _, _, _, _, _, h, _, _ => by simp at h

theorem rlevels_eq (b : Bas) (hb : BasOK b) (v : List Int) (hv : v.length = b.1.length) : ref04_Levels_M b v = some (lvls v b.1, ()) := by
  have h8 := hb.nodes
  have hmem : memMax = 68719476736 := rfl
  unfold ref04_Levels_M
  rw [bifT (dec_true (show v.length < lenMax by unfold lenMax; omega)), rlevels_loop b v v b.1 [] 0 [] rfl rfl hv (fun n hn => by have := (hb.area n hn).1; omega) (by simp; omega)]
  rfl

/-! ### Until -/
/-! ### The errors of the arguments -/
/-! ### Sizes -/
theorem findSome_none {α β : Type} {p : α → Option β} {l : List α} (h : l.findSome? p = none) : ∀ e ∈ l, p e = none := List.findSome?_eq_none_iff.1 h

theorem short_s9 (b : Bas) (hn : b.1.length < lenMax) (hl : b.2.1.length < lenMax) : ∃ s, ref04_Short_s9 b = some (s, ()) ∧ (s = true → ∀ n ∈ b.1, n.1.length ≤ 60) := by
  unfold ref04_Short_s9
  rw [bifT (dec_true hn), loopL_find (fun n => bif decide ((n.1.length : Int) > 60) then some (false, ()) else none) b.1 0 (fun i e _ => by
    unfold ref04_Short_b5
    cases decide ((e.1.length : Int) > 60) <;> rfl)]
  cases hf : b.1.findSome? (fun n => bif decide ((n.1.length : Int) > 60) then some (false, ()) else none) with
  | some y =>
    obtain ⟨n, _, hy⟩ := List.exists_of_findSome?_eq_some hf
    cases hd : decide ((n.1.length : Int) > 60) with
    | true => rw [hd] at hy; cases hy; exact ⟨false, rfl, by simp⟩
    | false => rw [hd] at hy; cases hy
  | none =>
    have hall : ∀ n ∈ b.1, n.1.length ≤ 60 := fun n hn => by
      have := findSome_none hf n hn
      by_cases hd : (n.1.length : Int) > 60
      · rw [dec_true hd] at this; cases this
      · omega
    show ∃ s, ref04_Short_f5 b = some (s, ()) ∧ _
    unfold ref04_Short_f5
    rw [bifT (dec_true hl), loopL_find (fun n => bif decide ((n.1.length : Int) > 60) then some (false, ()) else none) b.2.1 0 (fun i e _ => by
      unfold ref04_Short_b7
      cases decide ((e.1.length : Int) > 60) <;> rfl)]
    cases hg : b.2.1.findSome? (fun n => bif decide ((n.1.length : Int) > 60) then some (false, ()) else none) with
    | some y =>
      obtain ⟨n, _, hy⟩ := List.exists_of_findSome?_eq_some hg
      cases hd : decide ((n.1.length : Int) > 60) with
      | true => rw [hd] at hy; cases hy; exact ⟨false, rfl, by simp⟩
      | false => rw [hd] at hy; cases hy
    | none => exact ⟨true, rfl, fun _ => hall⟩

theorem short_eq (b : Bas) : ∃ s, ref04_Short_M b = some (s, ()) ∧ (s = true → b.1.length ≤ 9 ∧ b.2.1.length ≤ 17 ∧ ∀ n ∈ b.1, n.1.length ≤ 60) := by
  unfold ref04_Short_M
  by_cases h9 : b.1.length ≤ 9
  · rw [bifF (dec_false (show ¬ (b.1.length : Int) > 9 by omega))]
    by_cases h8 : b.2.1.length ≤ 8
    · rw [bifF (dec_false (show ¬ (b.2.1.length : Int) > 8 by omega))]
      obtain ⟨s, h1, h2⟩ := short_s9 b (by unfold lenMax; omega) (by unfold lenMax; omega)
      exact ⟨s, h1, fun hs => ⟨h9, by omega, h2 hs⟩⟩
    · rw [bifT (dec_true (show (b.2.1.length : Int) > 8 by omega))]
      by_cases h17 : b.2.1.length = 17
      · rw [bifF (show ((b.2.1.length : Int) != 17) = false by simp [h17])]
        obtain ⟨s, h1, h2⟩ := short_s9 b (by unfold lenMax; omega) (by unfold lenMax; omega)
        exact ⟨s, h1, fun hs => ⟨h9, by omega, h2 hs⟩⟩
      · rw [bifT (show ((b.2.1.length : Int) != 17) = true by simp; omega)]
        exact ⟨false, rfl, by simp⟩
  · rw [bifT (dec_true (show (b.1.length : Int) > 9 by omega))]
    exact ⟨false, rfl, by simp⟩

theorem given_eq (b : Bas) (h1 : b.1.length ≤ memMax) (h2 : b.2.1.length ≤ memMax) : law04_given_M b = some (b, ()) := by
  have hm := memMax_lt
  unfold law04_given_M
  rw [bifT (dec_true (show b.1.length < lenMax by omega)), loopL_app (fun n => n) b.1 0 [] (by simpa using h1) (fun i e s _ hs => by
    unfold law04_given_b0
    rw [bifT (dec_true hs)])]
  simp only [List.map_id_fun', id_eq, List.nil_append]
  unfold law04_given_f0
  rw [bifT (dec_true (show b.2.1.length < lenMax by omega)), loopL_app (fun n => n) b.2.1 0 [] (by simpa using h2) (fun i e s _ hs => by
    unfold law04_given_b2
    rw [bifT (dec_true hs)])]
  simp only [List.map_id_fun', id_eq, List.nil_append]
  rfl

theorem ints_eq (l : List Int) (h : l.length ≤ memMax) : law04_ints_M l = some (l, ()) := by
  unfold law04_ints_M law04_ints_m
  rw [bifT (dec_true (show 0 + l.length ≤ memMax by omega))]

theorem awake_true : law04_awake_M = some (true, ()) := by kernel_rfl

end Go.Tw
end
