/- P2: names of the program: runes and bytes; nodes, links, volumes, conditions: their errors. -/
import Derived.Test.YtkfigfhjbejikaaGreatDoorP1
set_option linter.all false
set_option maxRecDepth 100000
namespace Go.Tw
open Go.Vx Go.Vx.B Go.Proofs

theorem get_at {bs : List UInt8} {i : Nat} {c : UInt8} (h : bs[i]? = some c) : (⟨bs.toArray⟩ : ByteArray).get! i = c := by
  show bs.toArray[i]! = c
  rw [getElem!_def]
  simp [h]

theorem rune_ascii {bs : List UInt8} {i : Nat} {c : UInt8} (h : bs[i]? = some c) (hc : c.toNat < 128) : runeAt bs (i : Int) = ((c.toNat : Int), (i : Int) + 1) := by
  unfold runeAt Utf8.decode
  have h0 : (⟨bs.toArray⟩ : ByteArray).get! ((i : Int).toNat + 0) = c := by rw [Int.toNat_natCast, Nat.add_zero]; exact get_at h
  simp only [h0]
  rw [if_pos hc]
  rfl

theorem rune_high {bs : List UInt8} {i : Nat} {c : UInt8} (h : bs[i]? = some c) (hc : 128 ≤ c.toNat) : 128 ≤ (runeAt bs (i : Int)).1 := by
  unfold runeAt Utf8.decode
  have h0 : (⟨bs.toArray⟩ : ByteArray).get! ((i : Int).toNat + 0) = c := by rw [Int.toNat_natCast, Nat.add_zero]; exact get_at h
  simp only [h0]
  rw [if_neg (by omega)]
  have he : Utf8.runeError = 65533 := rfl
  split
  · split
    · rename_i h2; show (128 : Int) ≤ ((_ : Nat) : Int); omega
    · rw [he]; decide
  · split
    · split
      · rename_i h2; simp only [Bool.and_eq_true, decide_eq_true_eq] at h2; show (128 : Int) ≤ ((_ : Nat) : Int); omega
      · rw [he]; decide
    · split
      · split
        · rename_i h2; simp only [Bool.and_eq_true, decide_eq_true_eq] at h2; show (128 : Int) ≤ ((_ : Nat) : Int); omega
        · rw [he]; decide
      · rw [he]; decide

def letterI (r : Int) : Bool := decide (65 ≤ r ∧ r ≤ 90 ∨ 97 ≤ r ∧ r ≤ 122)
def otherI (r : Int) : Bool := decide (48 ≤ r ∧ r ≤ 57 ∨ r = 95)

theorem gname_body (s str : List UInt8) (pos : Int) : gauge_IsName_b0 s str pos = some (if (letterI (runeAt str pos).1 || (!decide (pos = 0) && otherI (runeAt str pos).1)) = true then .inr () else .inl (false, ())) := by
  unfold gauge_IsName_b0 gauge_IsName_s15 gauge_IsName_s14 letterI otherI
  generalize (runeAt str pos).1 = r
  have g3 : (pos == 0) = decide (pos = 0) := by by_cases h : pos = 0 <;> simp [h]
  have g4 : (r == 95) = decide (r = 95) := by by_cases h : r = 95 <;> simp [h]
  rw [g3, g4]
  by_cases h1 : r ≥ 97 <;> by_cases h2 : r ≤ 122 <;> by_cases h3 : r ≥ 65 <;> by_cases h4 : r ≤ 90 <;> by_cases h5 : r ≥ 48 <;> by_cases h6 : r ≤ 57 <;> by_cases h7 : r = 95 <;> by_cases h8 : pos = 0 <;>
    first
    | omega
    | simp [h1, h2, h3, h4, h5, h6, h7, h8]

theorem gname_loop (s : List UInt8) : ∀ (m i : Nat), s.length ≤ i + m → i ≤ s.length →
    loopS s (fun i__ s__ => gauge_IsName_b0 s s i__) (fun s__ => gauge_IsName_f0 s s) m (i : Int) () = bif nmOk (decide (i = 0)) (s.drop i) then gauge_IsName_f0 s s else some (false, ())
  | m, i, hm, hi => by
    by_cases hl : i = s.length
    · have e1 : s.drop i = [] := List.drop_eq_nil_of_le (by omega)
      have e2 : decide ((i : Int) < (s.length : Int)) = false := dec_false (by omega)
      rw [e1]
      cases m <;> (unfold loopS; rw [bifF e2]; rfl)
    · have hlt : i < s.length := by omega
      obtain ⟨m, rfl⟩ : ∃ k, m = k + 1 := ⟨m - 1, by omega⟩
      have hd : s.drop i = s[i] :: s.drop (i + 1) := (List.getElem_cons_drop (h := hlt)).symm
      have hg : s[i]? = some s[i] := List.getElem?_eq_getElem hlt
      have e0 : decide ((i : Int) = 0) = decide (i = 0) := decide_eq_decide.2 (by omega)
      unfold loopS
      rw [bifT (dec_true (show (i : Int) < (s.length : Int) by omega)), gname_body, hd, e0]
      simp only [Option.bind_some]
      by_cases hc : s[i].toNat < 128
      · rw [rune_ascii hg hc]
        have e1 : letterI (s[i].toNat : Int) = letterN s[i].toNat := decide_eq_decide.2 (by omega)
        have e2 : otherI (s[i].toNat : Int) = otherN s[i].toNat := decide_eq_decide.2 (by omega)
        simp only [e1, e2, nmOk]
        by_cases hb : (letterN s[i].toNat || (!decide (i = 0) && otherN s[i].toNat)) = true
        · rw [if_pos hb, hb, Bool.true_and]
          have ih := gname_loop s m (i + 1) (by omega) (by omega)
          have e3 : decide (i + 1 = 0) = false := dec_false (by omega)
          rw [e3, show ((i + 1 : Nat) : Int) = (i : Int) + 1 by omega] at ih
          exact ih
        · rw [if_neg hb, Bool.eq_false_iff.2 hb, Bool.false_and]
          rfl
      · have h1 := rune_high hg (by omega)
        have e1 : letterI (runeAt s (i : Int)).1 = false := dec_false (by omega)
        have e2 : otherI (runeAt s (i : Int)).1 = false := dec_false (by omega)
        have e3 : letterN s[i].toNat = false := dec_false (by omega)
        have e4 : otherN s[i].toNat = false := dec_false (by omega)
        simp [e1, e2, nmOk, e3, e4]

theorem gname_eq (s : List UInt8) (h : s.length < lenMax) : gauge_IsName_M s = some (isNm s, ()) := by
  unfold gauge_IsName_M
  have := gname_loop s s.length 0 (by omega) (by omega)
  rw [List.drop_zero, show decide (0 = 0) = true from rfl] at this
  rw [bifT (dec_true h)]
  refine (show _ = _ from this).trans ?_
  unfold isNm gauge_IsName_f0
  cases hn : nmOk true s with
  | false => rfl
  | true =>
    rw [cond_true, Bool.true_and]
    cases s with
    | nil => rfl
    | cons c l =>
      have e : decide (((c :: l).length : Int) ≤ 24) = decide (0 < (c :: l).length ∧ (c :: l).length ≤ 24) := decide_eq_decide.2 (by simp only [List.length_cons]; omega)
      rw [← e]
      rfl

/-! ### Nodes -/
def firstOf (a b : Int) : Int := if a != 0 then a else b
theorem firstE_nil : firstE [] = 0 := rfl
theorem firstE_cons (a : Int) (l : List Int) : firstE (a :: l) = firstOf a (firstE l) := by
  unfold firstE firstOf
  rw [List.find?_cons]
  cases h : (a != 0) <;> rfl
theorem firstOf_zero (a : Int) : firstOf a 0 = a := by
  unfold firstOf
  by_cases h : a = 0 <;> simp [h]

/-- The error of a node behind others. -/
def nodeE (done : List Nod) (n : Nod) : Int :=
  firstE [bif isNm n.1 then 0 else 8, bif done.any (fun d => d.1 == n.1) then 9 else 0, ckR n.2.1 1 1000, ckR n.2.2.1 0 1024]

def nodesE : List Nod → List Nod → Int
  | _, [] => 0
  | done, n :: l => firstOf (nodeE done n) (nodesE (done ++ [n]) l)

def ckNodes (l : List Nod) : Int := if l.length = 0 then 12 else if 8 < l.length then 5 else nodesE [] l

theorem twice_loop (l : List Nod) (i : Nat) (n : Nod) (hn : l[i]? = some n) {fin : Unit → Option ((Int × Unit) ⊕ Unit)} : ∀ (m k : Nat), k + m = i →
    loopN (fun i__ s__ => ref04_CheckNodes_b3 l (i : Int) i__) fin m (k : Int) () = if ((l.drop k).take m).any (fun d => d.1 == n.1) = true then some (.inl (9, ())) else fin ()
  | 0, k, _ => by simp [loopN]
  | m + 1, k, hk => by
    have hi : i < l.length := (List.getElem?_eq_some_iff.1 hn).1
    have hkl : k < l.length := by omega
    unfold loopN
    have hb : ref04_CheckNodes_b3 l (i : Int) (k : Int) = some (if (l[k].1 == n.1) = true then .inl (.inl (9, ())) else .inr ()) := by
      unfold ref04_CheckNodes_b3
      rw [idx_nat, idx_nat, hn, List.getElem?_eq_getElem hkl]
      simp only [Option.bind_some]
      cases (l[k].1 == n.1) <;> rfl
    rw [hb]
    simp only [Option.bind_some]
    have hd : (l.drop k).take (m + 1) = l[k] :: (l.drop (k + 1)).take m := by
      rw [← List.getElem_cons_drop (h := hkl), List.take_succ_cons]
    rw [hd, List.any_cons]
    cases h : (l[k].1 == n.1) with
    | true => rfl
    | false =>
      rw [if_neg (by simp), Bool.false_or]
      have ih := twice_loop l i n hn (fin := fin) m (k + 1) (by omega)
      rw [show ((k + 1 : Nat) : Int) = (k : Int) + 1 by omega] at ih
      exact ih

theorem rnodes_body (l : List Nod) (hl : l.length ≤ 8) (i : Nat) (n : Nod) (hn : l[i]? = some n) :
    ref04_CheckNodes_b0 l (i : Int) n = some (bif nodeE (l.take i) n != 0 then .inl (nodeE (l.take i) n, ()) else .inr ()) := by
  have hi : i < l.length := (List.getElem?_eq_some_iff.1 hn).1
  unfold ref04_CheckNodes_b0
  rw [rname_eq]
  simp only [Option.bind_some]
  unfold nodeE
  cases hnm : isNm n.1 with
  | false =>
    simp only [Bool.not_false, cond_true, firstE_cons]
    rfl
  | true =>
    simp only [Bool.not_true, cond_false]
    rw [bifT (dec_true (show (i : Int) ≤ 9223372036854775807 by omega))]
    have e1 : ((i : Int) - 0).toNat = i := by omega
    rw [e1]
    have := twice_loop l i n hn (fin := fun s__ => ref04_CheckNodes_f3 l (i : Int)) i 0 (by omega)
    rw [show ((0 : Nat) : Int) = 0 from rfl] at this
    rw [this, List.drop_zero]
    cases hany : (l.take i).any (fun d => d.1 == n.1) with
    | true =>
      rw [if_pos rfl]
      simp [firstE_cons, firstOf]
    | false =>
      rw [if_neg (by simp)]
      unfold ref04_CheckNodes_f3
      rw [idx_nat, hn]
      simp only [Option.bind_some, checkRange_eq]
      rw [rfirst_eq _ (by simp [lenMax])]
      simp only [Option.bind_some]
      have e2 : firstE [bif true then 0 else 8, bif false then 9 else 0, ckR n.2.1 1 1000, ckR n.2.2.1 0 1024] = firstE [ckR n.2.1 1 1000, ckR n.2.2.1 0 1024] := by
        simp [firstE_cons, firstOf]
      rw [e2]
      cases (firstE [ckR n.2.1 1 1000, ckR n.2.2.1 0 1024] != 0) <;> rfl

theorem rnodes_loop (xs : List Nod) (hl : xs.length ≤ 8) : ∀ (l done : List Nod), xs = done ++ l →
    loopL (fun i__ e__ s__ => ref04_CheckNodes_b0 xs i__ e__) (fun s__ => ref04_CheckNodes_f0 xs) (done.length : Int) l () = some (nodesE done l, ())
  | [], done, _ => rfl
  | n :: l, done, hx => by
    have hn : xs[done.length]? = some n := by rw [hx]; simp
    rw [loopL_cons, rnodes_body xs hl done.length n hn]
    have ht : xs.take done.length = done := by rw [hx]; simp
    rw [ht]
    simp only [Option.bind_some, nodesE, firstOf]
    cases h : (nodeE done n != 0) with
    | true => rfl
    | false =>
      have ih := rnodes_loop xs hl l (done ++ [n]) (by rw [hx]; simp)
      simp only [List.length_append, List.length_cons, List.length_nil] at ih
      exact ih

theorem rnodes_eq (l : List Nod) : ref04_CheckNodes_M l = some (ckNodes l, ()) := by
  unfold ref04_CheckNodes_M ckNodes
  by_cases h0 : l.length = 0
  · rw [bifT (show ((l.length : Int) == 0) = true by simp [h0]), if_pos h0]
  · rw [bifF (show ((l.length : Int) == 0) = false by simpa using h0), if_neg h0]
    by_cases h8 : 8 < l.length
    · rw [bifT (dec_true (show (l.length : Int) > 8 by omega)), if_pos h8]
    · rw [bifF (dec_false (show ¬ (l.length : Int) > 8 by omega)), if_neg h8, bifT (dec_true (show l.length < lenMax by unfold lenMax; omega))]
      exact rnodes_loop l (by omega) l [] rfl
end Go.Tw
