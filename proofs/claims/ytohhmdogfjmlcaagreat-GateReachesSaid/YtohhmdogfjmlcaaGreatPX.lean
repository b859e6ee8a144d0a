import Derived.Test.YtohhmdogfjmlcaaGreatBB
import Derived.Test.YtohhmdogfjmlcaaGreatBC
section
set_option linter.all false
set_option maxRecDepth 100000
namespace Go.Tw
open Go.Vx Go.Vx.B Go.Proofs
section
variable {α β γ σ : Type}
theorem loopL_nil {body : Int → α → σ → Option (β ⊕ σ)} {fin : σ → Option β} {i : Int} {s : σ} : loopL body fin i [] s = fin s := rfl
theorem loopL_cons {body : Int → α → σ → Option (β ⊕ σ)} {fin : σ → Option β} {i : Int} {e : α} {l : List α} {s : σ} : loopL body fin i (e :: l) s = (body i e s).bind fun z => match z with
    | .inl y => some y
    | .inr s' => loopL body fin (i + 1) l s' := rfl
theorem loopL_find {body : Int → α → Unit → Option (β ⊕ Unit)} {fin : Unit → Option β} (p : α → Option β) :
    ∀ (l : List α) (i : Int), (∀ i e, e ∈ l → body i e () = some (match p e with | some y => .inl y | none => .inr ())) → loopL body fin i l () = match l.findSome? p with | some y => some y | none => fin ()
  | [], i, _ => rfl
  | e :: l, i, h => by
    rw [loopL_cons, h i e (by simp), List.findSome?_cons]
    cases p e with
    | none => exact loopL_find p l (i + 1) fun i e he => h i e (by simp [he])
    | some y => rfl
theorem loopL_app {body : Int → α → List γ → Option (β ⊕ List γ)} {fin : List γ → Option β} (f : α → γ) :
    ∀ (l : List α) (i : Int) (s : List γ), s.length + l.length ≤ memMax → (∀ i e s, e ∈ l → s.length + 1 ≤ memMax → body i e s = some (.inr (s ++ [f e]))) → loopL body fin i l s = fin (s ++ l.map f)
  | [], i, s, _, _ => by simp [loopL_nil]
  | e :: l, i, s, hl, h => by
    simp only [List.length_cons] at hl
    rw [loopL_cons, h i e s (by simp) (by omega)]
    simp only [Option.bind_some]
    rw [loopL_app f l (i + 1) (s ++ [f e]) (by simp; omega) fun i e s he hs => h i e s (by simp [he]) hs]
    simp
end
theorem dec_true {p : Prop} [Decidable p] (h : p) : decide p = true := decide_eq_true h
theorem dec_false {p : Prop} [Decidable p] (h : ¬ p) : decide p = false := decide_eq_false h
theorem bifT {α : Type} {c : Bool} {a b : α} (h : c = true) : (bif c then a else b) = a := by rw [h]; rfl
theorem bifF {α : Type} {c : Bool} {a b : α} (h : c = false) : (bif c then a else b) = b := by rw [h]; rfl
def ckR (n lo hi : Int) : Int := if n < lo ∨ hi < n then 3 else 0
def firstE (l : List Int) : Int := (l.find? (· != 0)).getD 0
theorem checkRange_eq (n lo hi : Int) : zm n lo hi = (ckR n lo hi, ()) := by
  unfold zm ckR
  by_cases h1 : n < lo
  · rw [bifT (dec_true h1), if_pos (.inl h1)]
  · rw [bifF (dec_false h1)]
    by_cases h2 : n > hi
    · rw [bifT (dec_true h2), if_pos (.inr h2)]
    · rw [bifF (dec_false h2), if_neg (by omega)]
theorem when_eq (c : Bool) (e : Int) : z0d c e = (bif c then e else 0, ()) := by
  unfold z0d
  cases c <;> rfl
theorem within_eq (n lo hi : Int) : z0N n lo hi = (ckR n lo hi, ()) := by
  unfold z0N ckR
  by_cases h1 : n < lo
  · rw [bifT (dec_true h1), when_eq, cond_true, if_pos (.inl h1)]
  · rw [bifF (dec_false h1), when_eq]
    by_cases h2 : n > hi
    · rw [dec_true h2, cond_true, if_pos (.inr h2)]
    · rw [dec_false h2, cond_false, if_neg (by omega)]
theorem find_first (l : List Int) : l.findSome? (fun e => if e != 0 then some (e, ()) else none) = (l.find? (· != 0)).map fun e => (e, ()) := by
  induction l with
  | nil => rfl
  | cons e l ih =>
    rw [List.findSome?_cons, List.find?_cons]
    cases he : (e != 0) with
    | true => rfl
    | false => simpa using ih
theorem gfirst_eq (l : List Int) (h : l.length < lenMax) : z0U_M l = some (firstE l, ()) := by
  unfold z0U_M
  rw [bifT (dec_true h), loopL_find (fun e => if e != 0 then some (e, ()) else none) l 0 (fun i e _ => by
    unfold z0U_b0
    cases he : (e != 0) <;> rfl), find_first]
  unfold firstE z0U_f0
  cases l.find? (· != 0) <;> rfl
theorem idx_nat {α : Type} (l : List α) (i : Nat) : idx l (i : Int) = l[i]? := by
  unfold idx
  rw [if_pos (Int.natCast_nonneg i)]
  rfl
theorem loopL_findI {α β : Type} {body : Int → α → Unit → Option (β ⊕ Unit)} {fin : Unit → Option β} (xs : List α) (p : α → Option β) :
    ∀ (l done : List α), xs = done ++ l → (∀ (i : Nat) e, xs[i]? = some e → body (i : Int) e () = some (match p e with | some y => .inl y | none => .inr ())) →
      loopL body fin (done.length : Int) l () = match l.findSome? p with | some y => some y | none => fin ()
  | [], done, _, _ => rfl
  | e :: l, done, hx, h => by
    rw [loopL_cons, h done.length e (by rw [hx]; simp), List.findSome?_cons]
    cases p e with
    | none =>
      have := loopL_findI (body := body) (fin := fin) xs p l (done ++ [e]) (by rw [hx]; simp) h
      simp only [List.length_append, List.length_cons, List.length_nil] at this
      exact this
    | some y => rfl
theorem rfirst_eq (l : List Int) (h : l.length < lenMax) : z0Q_M l = some (firstE l, ()) := by
  unfold z0Q_M
  have := loopL_findI (body := fun i__ e__ s__ => z0Q_b0 l i__ e__) (fin := fun s__ => z0Q_f0 l) l (fun e => if e != 0 then some (e, ()) else none) l [] rfl (fun i e hi => by
    unfold z0Q_b0
    cases he : (e != 0) with
    | true => rw [idx_nat, hi]; rfl
    | false => rfl)
  rw [bifT (dec_true h)]
  refine this.trans ?_
  rw [find_first]
  unfold firstE z0Q_f0
  cases l.find? (· != 0) <;> rfl
def letterN (c : Nat) : Bool := decide (65 ≤ c ∧ c ≤ 90 ∨ 97 ≤ c ∧ c ≤ 122)
def otherN (c : Nat) : Bool := decide (48 ≤ c ∧ c ≤ 57 ∨ c = 95)
def nmOk : Bool → List UInt8 → Bool
  | _, [] => true
  | first, c :: l => (letterN c.toNat || (!first && otherN c.toNat)) && nmOk false l
def isNm (s : List UInt8) : Bool := nmOk true s && decide (0 < s.length ∧ s.length ≤ 24)
theorem rname_loop : ∀ (s0 s : List UInt8) (i : Int), 0 ≤ i → loopL (fun i__ e__ s__ => z0G_b2 s0 i__ e__) (fun s__ => z0G_f2 s0) i s () = some (nmOk (decide (i = 0)) s, ())
  | s0, [], i, _ => rfl
  | s0, c :: l, i, hi => by
    rw [loopL_cons]
    have ih := rname_loop s0 l (i + 1) (by omega)
    have e0 : decide (i + 1 = 0) = false := dec_false (by omega)
    rw [e0] at ih
    unfold nmOk
    have hb : z0G_b2 s0 i c = some (if (letterN c.toNat || (!decide (i = 0) && otherN c.toNat)) = true then .inr () else .inl (false, ())) := by
      unfold z0G_b2 z0G_s15 letterN otherN
      have g3 : (i == 0) = decide (i = 0) := by by_cases h : i = 0 <;> simp [h]
      have g4 : ((c.toNat : Int) != 95) = !decide ((c.toNat : Int) = 95) := by by_cases h : (c.toNat : Int) = 95 <;> simp [h]
      rw [g3, g4]
      by_cases h1 : (97 : Int) ≤ c.toNat <;> by_cases h2 : (c.toNat : Int) ≤ 122 <;> by_cases h3 : (65 : Int) ≤ c.toNat <;> by_cases h4 : (c.toNat : Int) ≤ 90 <;> by_cases h5 : (c.toNat : Int) < 48 <;> by_cases h6 : (c.toNat : Int) > 57 <;> by_cases h7 : (c.toNat : Int) = 95 <;> by_cases h8 : i = 0 <;>
        first
        | omega
        | (have g1 : (decide (65 ≤ c.toNat ∧ c.toNat ≤ 90 ∨ 97 ≤ c.toNat ∧ c.toNat ≤ 122)) = decide ((65 : Int) ≤ c.toNat ∧ (c.toNat : Int) ≤ 90 ∨ (97 : Int) ≤ c.toNat ∧ (c.toNat : Int) ≤ 122) := by
            apply decide_eq_decide.2; omega
           have g2 : (decide (48 ≤ c.toNat ∧ c.toNat ≤ 57 ∨ c.toNat = 95)) = decide (¬ (c.toNat : Int) < 48 ∧ ¬ (c.toNat : Int) > 57 ∨ (c.toNat : Int) = 95) := by
            apply decide_eq_decide.2; omega
           rw [g1, g2]
           simp [h1, h2, h3, h4, h5, h6, h7, h8])
    rw [hb]
    simp only [Option.bind_some]
    by_cases hc : (letterN c.toNat || (!decide (i = 0) && otherN c.toNat)) = true
    · rw [if_pos hc, hc, Bool.true_and]
      exact ih
    · rw [if_neg hc, Bool.eq_false_iff.2 hc]
      rfl
theorem rname_eq (s : List UInt8) : z0G_M s = some (isNm s, ()) := by
  unfold z0G_M isNm
  by_cases h0 : s.length = 0
  · have : ((s.length : Int) == 0) = true := by simp [h0]
    rw [bifT this, show decide (0 < s.length ∧ s.length ≤ 24) = false from dec_false (by omega), Bool.and_false]
  · have : ((s.length : Int) == 0) = false := by simpa using h0
    rw [bifF this]
    by_cases h1 : 24 < s.length
    · rw [bifT (dec_true (by omega)), show decide (0 < s.length ∧ s.length ≤ 24) = false from dec_false (by omega), Bool.and_false]
    · rw [bifF (dec_false (show ¬ ((s.length : Int) > 24) by omega)), bifT (dec_true (show s.length < lenMax by unfold lenMax; omega)), rname_loop s s 0 (by omega), dec_true rfl]
      rw [show decide (0 < s.length ∧ s.length ≤ 24) = true from dec_true ⟨by omega, by omega⟩, Bool.and_true]
theorem get_at {bs : List UInt8} {i : Nat} {c : UInt8} (h : bs[i]? = some c) : (⟨bs.toArray⟩ : ByteArray).get! i = c := by
  show bs.toArray[i]! = c
  rw [getElem!_def]
  simp [h]
theorem rune_ascii {bs : List UInt8} {i : Nat} {c : UInt8} (h : bs[i]? = some c) (hc : c.toNat < 128) : runeAt bs (i : Int) = ((c.toNat : Int), (i : Int) + 1) := by
  unfold runeAt Utf8.decode
  have h0 : (⟨bs.toArray⟩ : ByteArray).get! ((i : Int).toNat + 0) = c := by rw [Int.toNat_natCast, Nat.add_zero]; exact get_at h
  simp only [h0]
  rw [if_pos hc]
  rfl
theorem rune_high {bs : List UInt8} {i : Nat} {c : UInt8} (h : bs[i]? = some c) (hc : 128 ≤ c.toNat) : 128 ≤ (runeAt bs (i : Int)).1 := by
  unfold runeAt Utf8.decode
  have h0 : (⟨bs.toArray⟩ : ByteArray).get! ((i : Int).toNat + 0) = c := by rw [Int.toNat_natCast, Nat.add_zero]; exact get_at h
  simp only [h0]
  rw [if_neg (by omega)]
  have he : Utf8.runeError = 65533 := rfl
  split
  · split
    · rename_i h2; show (128 : Int) ≤ ((_ : Nat) : Int); omega
    · rw [he]; decide
  · split
    · split
      · rename_i h2; simp only [Bool.and_eq_true, decide_eq_true_eq] at h2; show (128 : Int) ≤ ((_ : Nat) : Int); omega
      · rw [he]; decide
    · split
      · split
        · rename_i h2; simp only [Bool.and_eq_true, decide_eq_true_eq] at h2; show (128 : Int) ≤ ((_ : Nat) : Int); omega
        · rw [he]; decide
      · rw [he]; decide
def letterI (r : Int) : Bool := decide (65 ≤ r ∧ r ≤ 90 ∨ 97 ≤ r ∧ r ≤ 122)
def otherI (r : Int) : Bool := decide (48 ≤ r ∧ r ≤ 57 ∨ r = 95)
theorem gname_body (s str : List UInt8) (pos : Int) : z0D_b0 s str pos = some (if (letterI (runeAt str pos).1 || (!decide (pos = 0) && otherI (runeAt str pos).1)) = true then .inr () else .inl (false, ())) := by
  unfold z0D_b0 z0D_s15 z0D_s14 letterI otherI
  generalize (runeAt str pos).1 = r
  have g3 : (pos == 0) = decide (pos = 0) := by by_cases h : pos = 0 <;> simp [h]
  have g4 : (r == 95) = decide (r = 95) := by by_cases h : r = 95 <;> simp [h]
  rw [g3, g4]
  by_cases h1 : r ≥ 97 <;> by_cases h2 : r ≤ 122 <;> by_cases h3 : r ≥ 65 <;> by_cases h4 : r ≤ 90 <;> by_cases h5 : r ≥ 48 <;> by_cases h6 : r ≤ 57 <;> by_cases h7 : r = 95 <;> by_cases h8 : pos = 0 <;>
    first
    | omega
    | simp [h1, h2, h3, h4, h5, h6, h7, h8]
theorem gname_loop (s : List UInt8) : ∀ (m i : Nat), s.length ≤ i + m → i ≤ s.length →
    loopS s (fun i__ s__ => z0D_b0 s s i__) (fun s__ => z0D_f0 s s) m (i : Int) () = bif nmOk (decide (i = 0)) (s.drop i) then z0D_f0 s s else some (false, ())
  | m, i, hm, hi => by
    by_cases hl : i = s.length
    · have e1 : s.drop i = [] := List.drop_eq_nil_of_le (by omega)
      have e2 : decide ((i : Int) < (s.length : Int)) = false := dec_false (by omega)
      rw [e1]
      cases m <;> (unfold loopS; rw [bifF e2]; rfl)
    · have hlt : i < s.length := by omega
      obtain ⟨m, rfl⟩ : ∃ k, m = k + 1 := ⟨m - 1, by omega⟩
      have hd : s.drop i = s[i] :: s.drop (i + 1) := (List.getElem_cons_drop (h := hlt)).symm
      have hg : s[i]? = some s[i] := List.getElem?_eq_getElem hlt
      have e0 : decide ((i : Int) = 0) = decide (i = 0) := decide_eq_decide.2 (by omega)
      unfold loopS
      rw [bifT (dec_true (show (i : Int) < (s.length : Int) by omega)), gname_body, hd, e0]
      simp only [Option.bind_some]
      by_cases hc : s[i].toNat < 128
      · rw [rune_ascii hg hc]
        have e1 : letterI (s[i].toNat : Int) = letterN s[i].toNat := decide_eq_decide.2 (by omega)
        have e2 : otherI (s[i].toNat : Int) = otherN s[i].toNat := decide_eq_decide.2 (by omega)
        simp only [e1, e2, nmOk]
        by_cases hb : (letterN s[i].toNat || (!decide (i = 0) && otherN s[i].toNat)) = true
        · rw [if_pos hb, hb, Bool.true_and]
          have ih := gname_loop s m (i + 1) (by omega) (by omega)
          have e3 : decide (i + 1 = 0) = false := dec_false (by omega)
          rw [e3, show ((i + 1 : Nat) : Int) = (i : Int) + 1 by omega] at ih
          exact ih
        · rw [if_neg hb, Bool.eq_false_iff.2 hb, Bool.false_and]
          rfl
      · have h1 := rune_high hg (by omega)
        have e1 : letterI (runeAt s (i : Int)).1 = false := dec_false (by omega)
        have e2 : otherI (runeAt s (i : Int)).1 = false := dec_false (by omega)
        have e3 : letterN s[i].toNat = false := dec_false (by omega)
        have e4 : otherN s[i].toNat = false := dec_false (by omega)
        simp [e1, e2, nmOk, e3, e4]
theorem gname_eq (s : List UInt8) (h : s.length < lenMax) : z0D_M s = some (isNm s, ()) := by
  unfold z0D_M
  have := gname_loop s s.length 0 (by omega) (by omega)
  rw [List.drop_zero, show decide (0 = 0) = true from rfl] at this
  rw [bifT (dec_true h)]
  refine (show _ = _ from this).trans ?_
  unfold isNm z0D_f0
  cases hn : nmOk true s with
  | false => rfl
  | true =>
    rw [cond_true, Bool.true_and]
    cases s with
    | nil => rfl
    | cons c l =>
      have e : decide (((c :: l).length : Int) ≤ 24) = decide (0 < (c :: l).length ∧ (c :: l).length ≤ 24) := decide_eq_decide.2 (by simp only [List.length_cons]; omega)
      rw [← e]
      rfl
def firstOf (a b : Int) : Int := if a != 0 then a else b
theorem firstE_nil : firstE [] = 0 := rfl
theorem firstE_cons (a : Int) (l : List Int) : firstE (a :: l) = firstOf a (firstE l) := by
  unfold firstE firstOf
  rw [List.find?_cons]
  cases h : (a != 0) <;> rfl
theorem firstOf_zero (a : Int) : firstOf a 0 = a := by
  unfold firstOf
  by_cases h : a = 0 <;> simp [h]
theorem idx_mid {α : Type} (p : List α) (x : α) (r : List α) (i : Int) (hi : i = (p.length : Int)) : idx (p ++ x :: r) i = some x := by
  subst hi
  rw [idx_nat]
  simp
theorem loopL_same {α β : Type} {body : Int → α → Unit → Option (β ⊕ Unit)} {fin : Unit → Option β} (l : List α) (h : ∀ (p : List α) (x : α) (r : List α), l = p ++ x :: r → body (p.length : Int) x () = some (.inr ())) :
    ∀ (r p : List α) (i : Int), l = p ++ r → i = (p.length : Int) → loopL body fin i r () = fin ()
  | [], p, i, _, _ => rfl
  | x :: r, p, i, hl, hi => by
    rw [loopL_cons, hi, h p x r hl]
    simp only [Option.bind_some]
    exact loopL_same l h r (p ++ [x]) _ (by rw [hl]; simp) (by simp)
theorem firstOf_assoc (a b c : Int) : firstOf (firstOf a b) c = firstOf a (firstOf b c) := by
  unfold firstOf
  by_cases ha : a = 0 <;> by_cases hb : b = 0 <;> simp [ha, hb]
theorem rcheckName_eq (s : List UInt8) : zu_M s = some (bif isNm s then 0 else 8, ()) := by
  unfold zu_M zu_m
  rw [rname_eq]
  cases isNm s <;> rfl
theorem gcheckName_eq (s : List UInt8) (h : s.length < lenMax) : zz_M s = some (bif isNm s then 0 else 8, ()) := by
  unfold zz_M zz_m
  rw [gname_eq s h]
  simp only [Option.bind_some, when_eq]
  cases isNm s <;> rfl
theorem mapGet_put {k v : Ty} (hk : ∀ x y : k.den, eqV k x y = true ↔ x = y) : ∀ (m : List (k.den × v.den)) (x : k.den) (y : v.den) (n : k.den), mapGet k v (mapPut k v m x y) n = bif eqV k n x then some y else mapGet k v m n
  | [], x, y, n => rfl
  | p :: m, x, y, n => by
    unfold mapPut
    cases h : eqV k x p.1 with
    | true =>
      have hx := (hk _ _).1 h
      simp only [cond_true, mapGet]
      cases hn : eqV k n x with
      | true => rfl
      | false => rw [hx] at hn; rw [hn]; rfl
    | false =>
      simp only [cond_false, mapGet]
      rw [mapGet_put hk m x y n]
      cases hp : eqV k n p.1 with
      | false => rfl
      | true =>
        have e := (hk _ _).1 hp
        cases hn : eqV k n x with
        | false => rfl
        | true =>
          have e2 := (hk _ _).1 hn
          rw [(hk _ _).2 (e2.symm.trans e)] at h
          cases h
theorem intKey : ∀ x y : (Ty.int .i64).den, eqV (.int .i64) x y = true ↔ x = y := fun x y => by
  show ((x : Int) == y) = true ↔ x = y
  exact beq_iff_eq
theorem strKey : ∀ x y : Ty.str.den, eqV .str x y = true ↔ x = y := fun x y => by
  show ((x : List UInt8) == y) = true ↔ x = y
  exact beq_iff_eq
theorem wrapS {i : Int} (h0 : -9223372036854775808 ≤ i) (h1 : i ≤ 9223372036854775807) : IntKind.i64.wrap i = i := by
  unfold IntKind.wrap IntKind.bits IntKind.signed
  simp only [Nat.reduceSub, Int.reducePow, decide_eq_true_eq, Bool.true_and]
  split <;> omega
end Go.Tw
end
section
set_option linter.all false
set_option maxRecDepth 100000
namespace Go.Tw
open Go.Vx Go.Vx.B Go.Proofs
def ev (l : List Cmd) (n : Int) : Option (List UInt8) := (l.find? fun c => c.1 == n).map fun c => c.2.2.1
end Go.Tw
end
section
set_option linter.all false
set_option maxRecDepth 100000
namespace Go.Tw
open Go.Vx Go.Vx.B Go.Proofs
abbrev nmE (s : List UInt8) : Int := bif isNm s then 0 else 8
def stE (done : List Sta) (s : Sta) : Int :=
  firstE [nmE s.1, bif done.any (fun d => d.1 == s.1) then 9 else 0, bif decide (s.2.1 < -1) || decide ((done.length : Int) ≤ s.2.1) then 11 else 0]
def stsE : List Sta → List Sta → Int
  | _, [] => 0
  | done, s :: l => firstOf (stE done s) (stsE (done ++ [s]) l)
def kids (p : Int) : Int → List Sta → List Int
  | _, [] => []
  | k, s :: l => (if (s.2.1 == p) = true then [k] else []) ++ kids p (k + 1) l
def fmE (ks : List Int) (s : Sta) : Int :=
  bif ks.length == 0 then (bif s.2.2.1 != -1 then 1 else 0) else (bif s.2.2.2.1 || !ks.contains s.2.2.1 then 1 else 0)
def fmsE (xs : List Sta) : Int → List Sta → Int
  | _, [] => 0
  | i, s :: l => firstOf (fmE (kids i 0 xs) s) (fmsE xs (i + 1) l)
def trE (n : Int) (t : Tra) : Int :=
  firstE [bif decide (t.1 < 0) || decide (n ≤ t.1) || decide (t.2.2.1 < 0) || decide (n ≤ t.2.2.1) then 10 else 0, nmE t.2.1, ckR t.2.2.2.1 0 15, ckR t.2.2.2.2.1 0 15,
    bif bitsOp .i64 .and t.2.2.2.2.1 t.2.2.2.1 != t.2.2.2.2.1 then 1 else 0]
def trsE (n : Int) : List Tra → Int
  | [] => 0
  | t :: l => firstOf (trE n t) (trsE n l)
def evF (s : List (List UInt8)) (t : Tra) : List (List UInt8) := bif s.contains t.2.1 then s else s ++ [t.2.1]
def evts (l : List Tra) : List (List UInt8) := l.foldl evF []
def ckChart (c : Cha) : Int :=
  if c.1.length = 0 then 12 else if 16 < c.1.length then 5 else
  firstOf (stsE [] c.1) (firstOf (fmsE c.1 0 c.1) (firstOf (bif decide (48 < c.2.1.length) then 5 else 0) (firstOf (trsE c.1.length c.2.1) (bif decide (8 < (evts c.2.1).length) then 5 else 0))))
section
variable {α β σ : Type}
theorem loopL_fold {body : Int → α → σ → Option (β ⊕ σ)} {fin : σ → Option β} (xs : List α) (Q : Nat → σ → Prop) (g : σ → α → σ) :
    ∀ (l done : List α) (s : σ), xs = done ++ l → Q done.length s → (∀ (i : Nat) e s, xs[i]? = some e → Q i s → body (i : Int) e s = some (.inr (g s e)) ∧ Q (i + 1) (g s e)) →
      loopL body fin (done.length : Int) l s = fin (l.foldl g s) ∧ Q xs.length (l.foldl g s)
  | [], done, s, hx, hq, _ => ⟨rfl, by rw [hx]; simpa using hq⟩
  | e :: l, done, s, hx, hq, h => by
    obtain ⟨h1, h2⟩ := h done.length e s (by rw [hx]; simp) hq
    have ih := loopL_fold (body := body) (fin := fin) xs Q g l (done ++ [e]) (g s e) (by rw [hx]; simp) (by simpa using h2) h
    simp only [List.length_append, List.length_cons, List.length_nil] at ih
    rw [loopL_cons, h1]
    exact ih
end
theorem any_find {α β : Type} (p : α → Bool) (y : β) (l : List α) : l.findSome? (fun e => if p e = true then some y else none) = if l.any p = true then some y else none := by
  induction l with
  | nil => rfl
  | cons e l ih =>
    rw [List.findSome?_cons, List.any_cons, ih]
    cases p e <;> simp
theorem hasWord_eq (l : List (List UInt8)) (s : List UInt8) (h : l.length < lenMax) : z05_M l s = some (l.contains s, ()) := by
  unfold z05_M
  rw [bifT (dec_true h), loopL_find (fun e => if (e == s) = true then some (true, ()) else none) l 0 (fun i e _ => by
    unfold z05_b0
    cases (e == s) <;> rfl), any_find]
  have : l.any (fun e => e == s) = l.contains s := by rw [List.contains_eq_any_beq]; congr 1; funext x; exact Bool.beq_comm
  rw [this]
  cases l.contains s <;> rfl
theorem index_loopI (xs : List Int) (v : Int) : ∀ (l : List Int) (i : Int), 0 ≤ i → ∃ k, loopL (fun i__ e__ s__ => zS_b0 xs v i__ e__) (fun s__ => zS_f0 xs v) i l () = some (k, ()) ∧ decide (k ≥ 0) = l.contains v
  | [], i, _ => ⟨-1, rfl, rfl⟩
  | e :: l, i, hi => by
    rw [loopL_cons]
    unfold zS_b0
    rw [List.contains_cons]
    cases h : (v == e) with
    | true => exact ⟨i, rfl, by rw [Bool.true_or]; exact dec_true hi⟩
    | false =>
      obtain ⟨k, h1, h2⟩ := index_loopI xs v l (i + 1) (by omega)
      exact ⟨k, h1, by rw [h2]; simp⟩
theorem index_loopW (xs : List (List UInt8)) (v : List UInt8) : ∀ (l : List (List UInt8)) (i : Int), 0 ≤ i → ∃ k, loopL (fun i__ e__ s__ => zD_b0 xs v i__ e__) (fun s__ => zD_f0 xs v) i l () = some (k, ()) ∧ decide (k ≥ 0) = l.contains v
  | [], i, _ => ⟨-1, rfl, rfl⟩
  | e :: l, i, hi => by
    rw [loopL_cons]
    unfold zD_b0
    rw [List.contains_cons]
    cases h : (v == e) with
    | true => exact ⟨i, rfl, by rw [Bool.true_or]; exact dec_true hi⟩
    | false =>
      obtain ⟨k, h1, h2⟩ := index_loopW xs v l (i + 1) (by omega)
      exact ⟨k, h1, by rw [h2]; simp⟩
theorem containsI_eq (l : List Int) (v : Int) (h : l.length < lenMax) : zH_M l v = some (l.contains v, ()) := by
  unfold zH_M zH_m zS_M
  obtain ⟨k, h1, h2⟩ := index_loopI l v l 0 (by omega)
  rw [bifT (dec_true h), h1]
  simp only [Option.bind_some]
  rw [h2]
theorem containsW_eq (l : List (List UInt8)) (v : List UInt8) (h : l.length < lenMax) : zA_M l v = some (l.contains v, ()) := by
  unfold zA_M zA_m zD_M
  obtain ⟨k, h1, h2⟩ := index_loopW l v l 0 (by omega)
  rw [bifT (dec_true h), h1]
  simp only [Option.bind_some]
  rw [h2]
theorem evF_length (s : List (List UInt8)) (t : Tra) : (evF s t).length ≤ s.length + 1 := by
  unfold evF
  cases s.contains t.2.1 <;> simp
theorem evts_length (l : List Tra) : (evts l).length ≤ l.length := by
  have : ∀ (l : List Tra) (s : List (List UInt8)), (l.foldl evF s).length ≤ s.length + l.length := by
    intro l
    induction l with
    | nil => intro s; simp
    | cons t l ih =>
      intro s
      have h1 := ih (evF s t)
      have h2 := evF_length s t
      simp only [List.foldl_cons, List.length_cons]
      omega
  have h := this l []
  rw [List.length_nil, Nat.zero_add] at h
  exact h
theorem revents_eq (c : Cha) (h : c.2.1.length ≤ 1000) : z0H_M c = some (evts c.2.1, ()) := by
  have hmem : memMax = 68719476736 := rfl
  unfold z0H_M
  rw [bifT (dec_true (show c.2.1.length < lenMax by unfold lenMax; omega))]
  have := (loopL_fold (body := fun i__ e__ s__ => z0H_b0 c i__ e__ s__) (fin := fun s__ => z0H_f0 c s__) c.2.1 (fun i s => s.length ≤ i) evF c.2.1 [] [] rfl (Nat.le_refl _) (fun i e s he hs => by
    have hi := (List.getElem?_eq_some_iff.1 he).1
    refine ⟨?_, by have := evF_length s e; omega⟩
    unfold z0H_b0 evF
    rw [hasWord_eq s _ (by unfold lenMax; omega)]
    simp only [Option.bind_some]
    cases s.contains e.2.1 with
    | true => rfl
    | false =>
      rw [idx_nat, he]
      simp only [Bool.not_false, cond_true, Option.bind_some, cond_false]
      rw [bifT (dec_true (show s.length + 1 ≤ memMax by omega))])).1
  exact this
theorem gevents_eq (c : Cha) (h : c.2.1.length ≤ 1000) : zX_M c = some (evts c.2.1, ()) := by
  have hmem : memMax = 68719476736 := rfl
  unfold zX_M
  rw [bifT (dec_true (show c.2.1.length < lenMax by unfold lenMax; omega))]
  have := (loopL_fold (body := fun i__ e__ s__ => zX_b0 c.2.1 i__ e__ s__) (fin := fun s__ => zX_f0 c.2.1 s__) c.2.1 (fun i s => s.length ≤ i) evF c.2.1 [] [] rfl (Nat.le_refl _) (fun i e s he hs => by
    have hi := (List.getElem?_eq_some_iff.1 he).1
    refine ⟨?_, by have := evF_length s e; omega⟩
    unfold zX_b0 evF
    rw [containsW_eq s _ (by unfold lenMax; omega)]
    simp only [Option.bind_some]
    cases s.contains e.2.1 with
    | true => rfl
    | false =>
      simp only [Bool.not_false, cond_true, cond_false]
      rw [bifT (dec_true (show s.length + 1 ≤ memMax by omega))])).1
  exact this
theorem rtwice_loop (c : Cha) (i : Nat) (a0 : List UInt8) (a1 a2 : Int) (a3 : Bool) (hi : i ≤ c.1.length) {fin : Unit → Option ((Int × Unit) ⊕ Unit)} : ∀ (m k : Nat), k + m = i →
    loopN (fun i__ s__ => zn_b3 c (i : Int) a0 a1 a2 a3 i__) fin m (k : Int) () = if ((c.1.drop k).take m).any (fun d => d.1 == a0) = true then some (.inl (9, ())) else fin ()
  | 0, k, _ => by simp [loopN]
  | m + 1, k, hk => by
    have hkl : k < c.1.length := by omega
    unfold loopN
    have hb : zn_b3 c (i : Int) a0 a1 a2 a3 (k : Int) = some (if (c.1[k].1 == a0) = true then .inl (.inl (9, ())) else .inr ()) := by
      unfold zn_b3
      simp only [idx_nat, List.getElem?_eq_getElem hkl, Option.bind_some]
      cases (c.1[k].1 == a0) <;> rfl
    rw [hb]
    simp only [Option.bind_some]
    have hd : (c.1.drop k).take (m + 1) = c.1[k] :: (c.1.drop (k + 1)).take m := by
      rw [← List.getElem_cons_drop (h := hkl), List.take_succ_cons]
    rw [hd, List.any_cons]
    cases h : (c.1[k].1 == a0) with
    | true => rfl
    | false =>
      rw [if_neg (by simp), Bool.false_or]
      have ih := rtwice_loop c i a0 a1 a2 a3 hi (fin := fin) m (k + 1) (by omega)
      rw [show ((k + 1 : Nat) : Int) = (k : Int) + 1 by omega] at ih
      exact ih
theorem rst_body (c : Cha) (hl : c.1.length ≤ 16) (i : Nat) (s : Sta) (hs : c.1[i]? = some s) :
    zn_b0 c (i : Int) s = some (bif stE (c.1.take i) s != 0 then .inl (stE (c.1.take i) s, ()) else .inr ()) := by
  have hi : i < c.1.length := (List.getElem?_eq_some_iff.1 hs).1
  have hlen : (c.1.take i).length = i := by rw [List.length_take]; omega
  unfold zn_b0 stE
  rw [rcheckName_eq]
  simp only [Option.bind_some, firstE_cons, firstE_nil, firstOf_zero, hlen]
  change (bif nmE s.1 != 0 then _ else _) = _
  rw [firstOf]
  cases hnm : (nmE s.1 != 0) with
  | true => rw [cond_true, if_pos rfl, hnm]; rfl
  | false =>
    rw [cond_false, if_neg (by simp), bifT (dec_true (show (i : Int) ≤ 9223372036854775807 by omega))]
    have e1 : ((i : Int) - 0).toNat = i := by omega
    rw [e1]
    have := rtwice_loop c i s.1 s.2.1 s.2.2.1 s.2.2.2.1 (by omega) (fin := fun s__ => zn_f3 c (i : Int) s.1 s.2.1 s.2.2.1 s.2.2.2.1) i 0 (by omega)
    rw [show ((0 : Nat) : Int) = 0 from rfl] at this
    rw [this, List.drop_zero]
    cases hany : (c.1.take i).any (fun d => d.1 == s.1) with
    | true => rw [if_pos rfl]; rfl
    | false =>
      rw [if_neg (by simp)]
      unfold zn_f3
      have e2 : decide (s.2.1 ≥ (i : Int)) = decide ((i : Int) ≤ s.2.1) := rfl
      rw [e2]
      cases decide (s.2.1 < -1) <;> cases decide ((i : Int) ≤ s.2.1) <;> rfl
theorem firstOf_z (x : Int) : firstOf 0 x = x := rfl
theorem firstOf_nz {a : Int} (h : a ≠ 0) (x : Int) : firstOf a x = a := by
  unfold firstOf
  rw [if_pos (by simpa using h)]
def seqE (e : Int) (k : Option (Int × Unit)) : Option (Int × Unit) := bif e != 0 then some (e, ()) else k
theorem seqE_z (k : Option (Int × Unit)) : seqE 0 k = k := rfl
theorem seqE_nz {a : Int} (h : a ≠ 0) (k : Option (Int × Unit)) : seqE a k = some (a, ()) := bifT (by simpa using h)
theorem seqE_first (a b : Int) (k : Option (Int × Unit)) : seqE (firstOf a b) k = seqE a (seqE b k) := by
  by_cases h : a = 0
  · subst h; rfl
  · rw [firstOf_nz h, seqE_nz h, seqE_nz h]
theorem seqE_some (a b : Int) : seqE a (some (b, ())) = some (firstOf a b, ()) := by
  by_cases h : a = 0
  · subst h; rfl
  · rw [firstOf_nz h, seqE_nz h]
theorem loopL_seq {α : Type} {body : Int → α → Unit → Option ((Int × Unit) ⊕ Unit)} {fin : Unit → Option (Int × Unit)} {i : Int} {e : α} {l : List α} {a : Int} (hb : body i e () = some (bif a != 0 then .inl (a, ()) else .inr ())) :
    loopL body fin i (e :: l) () = seqE a (loopL body fin (i + 1) l ()) := by
  rw [loopL_cons, hb]
  unfold seqE
  cases (a != 0) <;> rfl
theorem rst_loop (c : Cha) (hl : c.1.length ≤ 16) : ∀ (l done : List Sta), c.1 = done ++ l →
    loopL (fun i__ e__ s__ => zn_b0 c i__ e__) (fun s__ => zn_f0 c) (done.length : Int) l () = seqE (stsE done l) (zn_f0 c)
  | [], done, _ => rfl
  | s :: l, done, hx => by
    have hn : c.1[done.length]? = some s := by rw [hx]; simp
    have ht : c.1.take done.length = done := by rw [hx]; simp
    have ih := rst_loop c hl l (done ++ [s]) (by rw [hx]; simp)
    simp only [List.length_append, List.length_cons, List.length_nil] at ih
    have hb := rst_body c hl done.length s hn
    rw [ht] at hb
    rw [loopL_seq hb]
    show _ = seqE (firstOf _ _) _
    rw [seqE_first]
    exact congrArg (seqE _) ih
theorem kids_length (p : Int) : ∀ (l : List Sta) (k : Int), (kids p k l).length ≤ l.length
  | [], k => Nat.le_refl _
  | s :: l, k => by
    have := kids_length p l (k + 1)
    unfold kids
    rw [List.length_append, List.length_cons]
    split <;> simp <;> omega
theorem rkids_loop (c : Cha) (p x : Int) : ∀ (l : List Sta) (k n : Int) (b : Bool), 0 ≤ n → n + l.length ≤ 1000 →
    loopL (fun i__ e__ s__ => z02_b0 p x c i__ e__ s__.1 s__.2) (fun s__ => z02_f0 p x c s__.1 s__.2) k l (n, b) = some (n + (kids p k l).length, b || (kids p k l).contains x, ())
  | [], k, n, b, _, _ => by
    show some (n, b, ()) = some (n + 0, b || false, ())
    simp
  | s :: l, k, n, b, h0, hn => by
    simp only [List.length_cons] at hn
    have hw : IntKind.i64.wrap (n + 1) = n + 1 := wrapS (by omega) (by omega)
    have hb : z02_b0 p x c k s n b = some (.inr (if (s.2.1 == p) = true then (n + 1, b || (x == k)) else (n, b))) := by
      unfold z02_b0
      rw [hw, show (k == x) = (x == k) by rw [Bool.beq_comm]]
      cases (s.2.1 == p) <;> cases b <;> rfl
    rw [loopL_cons]
    simp only [hb, Option.bind_some]
    unfold kids
    cases h : (s.2.1 == p) with
    | true =>
      rw [if_pos rfl, if_pos rfl, rkids_loop c p x l (k + 1) (n + 1) _ (by omega) (by omega), List.singleton_append, List.length_cons, List.contains_cons, Bool.or_assoc]
      congr 2
      omega
    | false =>
      rw [if_neg (by simp), if_neg (by simp), rkids_loop c p x l (k + 1) n b h0 (by omega), List.nil_append]
theorem rkids_eq (c : Cha) (p x : Int) (hl : c.1.length ≤ 16) : z02_M c p x = some (((kids p 0 c.1).length : Int), (kids p 0 c.1).contains x, ()) := by
  unfold z02_M
  rw [bifT (dec_true (show c.1.length < lenMax by unfold lenMax; omega)), rkids_loop c p x c.1 0 0 false (by omega) (by omega)]
  simp
theorem rfm_body (c : Cha) (hl : c.1.length ≤ 16) (i : Int) (s : Sta) :
    zn_b7 c i s = some (bif fmE (kids i 0 c.1) s != 0 then .inl (fmE (kids i 0 c.1) s, ()) else .inr ()) := by
  unfold zn_b7 fmE
  rw [rkids_eq c i _ hl]
  simp only [Option.bind_some]
  by_cases h0 : (kids i 0 c.1).length = 0
  · rw [h0]
    simp only [bifF (show decide (((0 : Nat) : Int) > 0) = false from rfl), bifT (show (((0 : Nat) : Int) == 0) = true from rfl), bifT (show ((0 : Nat) == 0) = true from rfl)]
    cases (s.2.2.1 != -1) <;> rfl
  · rw [bifT (dec_true (show (((kids i 0 c.1).length : Nat) : Int) > 0 by omega)), bifF (show ((kids i 0 c.1).length == 0) = false by simpa using h0), bifF (show ((((kids i 0 c.1).length : Nat) : Int) == 0) = false by simpa using h0)]
    cases (kids i 0 c.1).contains s.2.2.1 <;> cases s.2.2.2.1 <;> rfl
theorem rfm_loop (c : Cha) (hl : c.1.length ≤ 16) : ∀ (l : List Sta) (i : Int),
    loopL (fun i__ e__ s__ => zn_b7 c i__ e__) (fun s__ => zn_f7 c) i l () = seqE (fmsE c.1 i l) (zn_f7 c)
  | [], i => rfl
  | s :: l, i => by
    rw [loopL_seq (rfm_body c hl i s)]
    show _ = seqE (firstOf _ _) _
    rw [seqE_first]
    exact congrArg (seqE _) (rfm_loop c hl l (i + 1))
theorem rtr_body (c : Cha) (h0 : 1 ≤ c.1.length) (hl : c.1.length ≤ 16) (i : Int) (t : Tra) :
    zn_b19 c i t = some (bif trE c.1.length t != 0 then .inl (trE c.1.length t, ()) else .inr ()) := by
  have hw : IntKind.i64.wrap ((c.1.length : Int) - 1) = (c.1.length : Int) - 1 := wrapS (by omega) (by omega)
  unfold zn_b19 trE
  simp only [checkRange_eq, hw, rcheckName_eq, Option.bind_some]
  rw [rfirst_eq _ (by simp [lenMax])]
  simp only [firstE_cons, firstE_nil, firstOf_zero, Option.bind_some]
  have e1 : ckR t.1 0 ((c.1.length : Int) - 1) = if t.1 < 0 ∨ (c.1.length : Int) ≤ t.1 then 3 else 0 := by
    unfold ckR
    by_cases h : t.1 < 0 ∨ (c.1.length : Int) ≤ t.1
    · rw [if_pos h, if_pos (by omega)]
    · rw [if_neg h, if_neg (by omega)]
  have e2 : ckR t.2.2.1 0 ((c.1.length : Int) - 1) = if t.2.2.1 < 0 ∨ (c.1.length : Int) ≤ t.2.2.1 then 3 else 0 := by
    unfold ckR
    by_cases h : t.2.2.1 < 0 ∨ (c.1.length : Int) ≤ t.2.2.1
    · rw [if_pos h, if_pos (by omega)]
    · rw [if_neg h, if_neg (by omega)]
  rw [e1, e2]
  by_cases h1 : t.1 < 0 ∨ (c.1.length : Int) ≤ t.1
  · rw [if_pos h1]
    have : (decide (t.1 < 0) || decide ((c.1.length : Int) ≤ t.1) || decide (t.2.2.1 < 0) || decide ((c.1.length : Int) ≤ t.2.2.1)) = true := by
      rcases h1 with h | h <;> simp [h]
    rw [this]
    rfl
  · rw [if_neg h1]
    by_cases h2 : t.2.2.1 < 0 ∨ (c.1.length : Int) ≤ t.2.2.1
    · rw [if_pos h2]
      have : (decide (t.1 < 0) || decide ((c.1.length : Int) ≤ t.1) || decide (t.2.2.1 < 0) || decide ((c.1.length : Int) ≤ t.2.2.1)) = true := by
        rcases h2 with h | h <;> simp [h]
      rw [this]
      rfl
    · rw [if_neg h2]
      have : (decide (t.1 < 0) || decide ((c.1.length : Int) ≤ t.1) || decide (t.2.2.1 < 0) || decide ((c.1.length : Int) ≤ t.2.2.1)) = false := by
        rw [not_or] at h1 h2
        simp [h1.1, h1.2, h2.1, h2.2]
      rw [this]
      unfold z0Y
      simp only [cond_false]
      have e3 : firstOf 0 = fun x => x := by funext x; unfold firstOf; rfl
      rw [e3]
      have e4 (b : Bool) : (bif b then ((1 : Int), ()) else (0, ())).fst = bif b then 1 else 0 := by cases b <;> rfl
      rw [e4]
      cases (firstOf (nmE t.2.1) (firstOf (ckR t.2.2.2.1 0 15) (firstOf (ckR t.2.2.2.2.1 0 15) (bif bitsOp .i64 .and t.2.2.2.2.1 t.2.2.2.1 != t.2.2.2.2.1 then 1 else 0))) != 0) <;> rfl
theorem rtr_loop (c : Cha) (h0 : 1 ≤ c.1.length) (hl : c.1.length ≤ 16) : ∀ (l : List Tra) (i : Int),
    loopL (fun i__ e__ s__ => zn_b19 c i__ e__) (fun s__ => zn_f19 c) i l () = seqE (trsE c.1.length l) (zn_f19 c)
  | [], i => rfl
  | s :: l, i => by
    rw [loopL_seq (rtr_body c h0 hl i s)]
    show _ = seqE (firstOf _ _) _
    rw [seqE_first]
    exact congrArg (seqE _) (rtr_loop c h0 hl l (i + 1))
theorem rchart_eq (c : Cha) : zn_M c = some (ckChart c, ()) := by
  unfold zn_M ckChart
  by_cases h0 : c.1.length = 0
  · rw [bifT (show ((c.1.length : Int) == 0) = true by simp [h0]), if_pos h0]
  rw [bifF (show ((c.1.length : Int) == 0) = false by simpa using h0), if_neg h0]
  by_cases h8 : 16 < c.1.length
  · rw [bifT (dec_true (show (c.1.length : Int) > 16 by omega)), if_pos h8]
  rw [bifF (dec_false (show ¬ (c.1.length : Int) > 16 by omega)), if_neg h8, bifT (dec_true (show c.1.length < lenMax by unfold lenMax; omega))]
  have h1 := rst_loop c (by omega) c.1 [] rfl
  rw [show (([] : List Sta).length : Int) = 0 from rfl] at h1
  rw [h1, ← seqE_some, ← seqE_some, ← seqE_some, ← seqE_some]
  refine congrArg (seqE _) ?_
  unfold zn_f0
  rw [bifT (dec_true (show c.1.length < lenMax by unfold lenMax; omega)), rfm_loop c (by omega)]
  refine congrArg (seqE _) ?_
  unfold zn_f7
  by_cases h4 : 48 < c.2.1.length
  · rw [bifT (dec_true (show (c.2.1.length : Int) > 48 by omega)), dec_true h4]
    rfl
  · rw [bifF (dec_false (show ¬ (c.2.1.length : Int) > 48 by omega)), dec_false h4, bifT (dec_true (show c.2.1.length < lenMax by unfold lenMax; omega)), rtr_loop c (by omega) (by omega), cond_false, seqE_z]
    refine congrArg (seqE _) ?_
    unfold zn_f19
    rw [revents_eq c (by omega)]
    simp only [Option.bind_some]
    unfold z0Y
    have e5 : decide (((evts c.2.1).length : Int) > 8) = decide (8 < (evts c.2.1).length) := decide_eq_decide.2 (by omega)
    rw [e5]
    cases decide (8 < (evts c.2.1).length) <;> rfl
end Go.Tw
end
section
set_option linter.all false
set_option maxRecDepth 100000
namespace Go.Tw
open Go.Vx Go.Vx.B Go.Proofs
theorem kids_snoc (p : Int) (s : Sta) : ∀ (l : List Sta) (k : Int), kids p k (l ++ [s]) = kids p k l ++ (if (s.2.1 == p) = true then [k + l.length] else [])
  | [], k => by simp [kids]
  | x :: l, k => by
    rw [List.cons_append]
    unfold kids
    have e : k + 1 + (l.length : Int) = k + ((x :: l).length : Int) := by simp only [List.length_cons]; omega
    rw [kids_snoc p s l (k + 1), List.append_assoc, e]
abbrev evN (m : List (List UInt8 × Bool)) (n : List UInt8) : Bool := (mapGet .str .bool m n).getD false
abbrev evK (m : List (Int × List Int)) (n : Int) : List Int := (mapGet (.int .i64) (.slice (.int .i64)) m n).getD []
theorem gst_body (c : Cha) (xs done : List Sta) (s : Sta) (m0 : List (List UInt8 × Bool)) (m1 : List (Int × List Int)) (hs : s.1.length < lenMax) (hd : done.length ≤ 1000)
    (h0 : ∀ n, evN m0 n = done.any fun d => d.1 == n) (h1 : ∀ p, evK m1 p = kids p 0 done) :
    (stE done s ≠ 0 ∧ zJ_b0 c xs (done.length : Int) s m0 m1 = some (.inl (stE done s, ()))) ∨
    (stE done s = 0 ∧ ∃ m0' m1', zJ_b0 c xs (done.length : Int) s m0 m1 = some (.inr (m0', m1')) ∧ (∀ n, evN m0' n = (done ++ [s]).any fun d => d.1 == n) ∧ ∀ p, evK m1' p = kids p 0 (done ++ [s])) := by
  have hmem : memMax = 68719476736 := rfl
  have hk := kids_length s.2.1 done 0
  have h0s := h0 s.1
  have h1s := h1 s.2.1
  unfold evN at h0s
  unfold evK at h1s
  have e19 : zJ_s19 c xs (done.length : Int) m0 m1 s = some (.inr (mapPut .str .bool m0 s.1 true, mapPut (.int .i64) (.slice (.int .i64)) m1 s.2.1 (kids s.2.1 0 done ++ [(done.length : Int)]))) := by
    unfold zJ_s19
    rw [h1s, bifT (show eqKey (.int .i64) s.2.1 s.2.1 = true from beq_self_eq_true (α := Int) s.2.1), bifT (dec_true (show (kids s.2.1 0 done).length + 1 ≤ memMax by omega)), bifT (show eqKey (.int .i64) s.2.1 s.2.1 = true from beq_self_eq_true (α := Int) s.2.1)]
  have key : zJ_b0 c xs (done.length : Int) s m0 m1 = bif stE done s != 0 then some (.inl (stE done s, ())) else zJ_s19 c xs (done.length : Int) m0 m1 s := by
    unfold zJ_b0 stE
    rw [gcheckName_eq _ hs]
    simp only [Option.bind_some, when_eq]
    rw [h0s]
    by_cases h : s.2.1 < -1
    · rw [bifT (dec_true h), gfirst_eq _ (by simp [lenMax]), dec_true h, Bool.true_or]
      simp only [Option.bind_some]
    · rw [bifF (dec_false h), gfirst_eq _ (by simp [lenMax]), dec_false h, Bool.false_or, show decide (s.2.1 ≥ (done.length : Int)) = decide ((done.length : Int) ≤ s.2.1) from rfl]
      simp only [Option.bind_some]
  rw [key]
  cases hx : (stE done s != 0) with
  | true => exact .inl ⟨by simpa using hx, rfl⟩
  | false =>
    refine .inr ⟨by simpa using hx, _, _, by rw [cond_false]; exact e19, fun n => ?_, fun p => ?_⟩
    · have hn := h0 n
      unfold evN at hn ⊢
      rw [mapGet_put strKey, List.any_append, ← hn]
      show (bif (n == s.1) then some true else mapGet .str .bool m0 n).getD false = ((mapGet .str .bool m0 n).getD false || ((s.1 == n) || false))
      by_cases e : n = s.1
      · subst e; simp
      · rw [show (n == s.1) = false by simpa using e, show (s.1 == n) = false by simpa using fun h => e h.symm]
        simp
    · have hp := h1 p
      unfold evK at hp ⊢
      rw [mapGet_put intKey, kids_snoc, ← hp]
      show (bif (p == s.2.1) then some (kids s.2.1 0 done ++ [(done.length : Int)]) else mapGet (.int .i64) (.slice (.int .i64)) m1 p).getD [] = _
      by_cases e : p = s.2.1
      · subst e
        rw [beq_self_eq_true, cond_true, if_pos rfl, h1s, Option.getD_some, Int.zero_add]
      · rw [show (p == s.2.1) = false by simpa using e, show (s.2.1 == p) = false by simpa using fun h => e h.symm]
        simp
theorem gst_loop (c : Cha) (xs : List Sta) (hl : xs.length ≤ 1000) : ∀ (l done : List Sta) (m0 : List (List UInt8 × Bool)) (m1 : List (Int × List Int)), xs = done ++ l → (∀ s ∈ l, s.1.length < lenMax) →
    (∀ n, evN m0 n = done.any fun d => d.1 == n) → (∀ p, evK m1 p = kids p 0 done) →
    (stsE done l ≠ 0 ∧ loopL (fun i__ e__ s__ => zJ_b0 c xs i__ e__ s__.1 s__.2) (fun s__ => zJ_f0 c xs s__.1 s__.2) (done.length : Int) l (m0, m1) = some (stsE done l, ())) ∨
    (stsE done l = 0 ∧ ∃ m0' m1', (∀ p, evK m1' p = kids p 0 xs) ∧ loopL (fun i__ e__ s__ => zJ_b0 c xs i__ e__ s__.1 s__.2) (fun s__ => zJ_f0 c xs s__.1 s__.2) (done.length : Int) l (m0, m1) = zJ_f0 c xs m0' m1')
  | [], done, m0, m1, hx, _, h0, h1 => .inr ⟨rfl, m0, m1, by rw [hx, List.append_nil]; exact h1, rfl⟩
  | s :: l, done, m0, m1, hx, hs, h0, h1 => by
    have hd : done.length ≤ 1000 := by rw [hx] at hl; simp at hl; omega
    rw [loopL_cons]
    simp only [stsE, firstOf]
    rcases gst_body c xs done s m0 m1 (hs s (by simp)) hd h0 h1 with ⟨h2, h3⟩ | ⟨h2, m0', m1', h3, h4, h5⟩
    · rw [h3]
      refine .inl ?_
      rw [if_pos (by simpa using h2)]
      exact ⟨h2, rfl⟩
    · rw [h3, h2]
      have ih := gst_loop c xs hl l (done ++ [s]) m0' m1' (by rw [hx]; simp) (fun x hx => hs x (by simp [hx])) h4 h5
      simp only [List.length_append, List.length_cons, List.length_nil] at ih
      simpa using ih
theorem gfm_body (m1 : List (Int × List Int)) (xs ys : List Sta) (i : Int) (s : Sta) (hx : xs.length ≤ 1000) (h1 : ∀ p, evK m1 p = kids p 0 xs) :
    zJ_b20 m1 ys i s = some (bif fmE (kids i 0 xs) s != 0 then .inl (fmE (kids i 0 xs) s, ()) else .inr ()) := by
  have hk := kids_length i xs 0
  have h1s := h1 i
  unfold evK at h1s
  unfold zJ_b20 fmE
  rw [h1s, containsI_eq _ _ (by unfold lenMax; omega)]
  by_cases h0 : (kids i 0 xs).length = 0
  · rw [bifT (show (((kids i 0 xs).length : Int) == 0) = true by simp [h0]), bifT (show ((kids i 0 xs).length == 0) = true by simp [h0]), show (!((kids i 0 xs).length : Int) == 0) = false by simp [h0]]
    cases (s.2.2.1 != -1) <;> rfl
  · rw [bifF (show (((kids i 0 xs).length : Int) == 0) = false by simpa using h0), bifF (show ((kids i 0 xs).length == 0) = false by simpa using h0), show (!((kids i 0 xs).length : Int) == 0) = true by simpa using h0]
    cases s.2.2.2.1 <;> cases (kids i 0 xs).contains s.2.2.1 <;> rfl
theorem gfm_loop (m1 : List (Int × List Int)) (xs ys : List Sta) (hx : xs.length ≤ 1000) (h1 : ∀ p, evK m1 p = kids p 0 xs) : ∀ (l : List Sta) (i : Int),
    loopL (fun i__ e__ s__ => zJ_b20 m1 ys i__ e__) (fun s__ => zJ_f20 m1 ys) i l () = some (fmsE xs i l, ())
  | [], i => rfl
  | s :: l, i => by
    rw [loopL_cons, gfm_body m1 xs ys i s hx h1]
    simp only [Option.bind_some, fmsE, firstOf]
    cases h : (fmE (kids i 0 xs) s != 0) with
    | true => simp
    | false => simpa using gfm_loop m1 xs ys hx h1 l (i + 1)
def Words (c : Cha) : Prop := (∀ s ∈ c.1, s.1.length < lenMax) ∧ ∀ t ∈ c.2.1, t.2.1.length < lenMax
theorem gstates_eq (c : Cha) (hl : c.1.length ≤ 1000) (hw : Words c) : zJ_M c = some (firstOf (stsE [] c.1) (fmsE c.1 0 c.1), ()) := by
  have hlm : c.1.length < lenMax := by unfold lenMax; omega
  have hL := gst_loop c c.1 hl c.1 [] [] [] rfl hw.1 (fun n => rfl) (fun p => rfl)
  rw [show (([] : List Sta).length : Int) = 0 from rfl] at hL
  unfold zJ_M
  rw [bifT (dec_true hlm)]
  rcases hL with ⟨h1, h2⟩ | ⟨h1, m0', m1', h2, h3⟩
  · rw [firstOf_nz h1]
    exact h2
  · rw [h1, firstOf_z, h3]
    unfold zJ_f0
    rw [bifT (dec_true hlm)]
    exact gfm_loop m1' c.1 c.1 hl h2 c.1 0
theorem bits_eq : ∀ v m : Fin 16, (bitsOp .i64 .andNot (v.val : Int) (m.val : Int) != 0) = (bitsOp .i64 .and (v.val : Int) (m.val : Int) != (v.val : Int)) := by decide +kernel
theorem bits_range {v m : Int} (hv : 0 ≤ v ∧ v ≤ 15) (hm : 0 ≤ m ∧ m ≤ 15) : (bitsOp .i64 .andNot v m != 0) = (bitsOp .i64 .and v m != v) := by
  have := bits_eq ⟨v.toNat, by omega⟩ ⟨m.toNat, by omega⟩
  simp only at this
  rw [Int.toNat_of_nonneg hv.1, Int.toNat_of_nonneg hm.1] at this
  exact this
theorem ckR_zero {n lo hi : Int} (h : ckR n lo hi = 0) : lo ≤ n ∧ n ≤ hi := by
  unfold ckR at h
  split at h
  · cases h
  · omega
theorem gtr_eq (t : Tra) (n : Int) (hw : t.2.1.length < lenMax) : zM_M t n = some (trE n t, ()) := by
  unfold zM_M zM_m trE
  have elow : decide ((if Bool.false = Bool.true then if t.2.2.1 > t.1 then t.2.2.1 else t.1 else if t.2.2.1 < t.1 then t.2.2.1 else t.1) < (0 : Int)) = (decide (t.1 < 0) || decide (t.2.2.1 < 0)) := by
    rw [if_neg (by decide)]
    rw [← Bool.decide_or]
    apply decide_eq_decide.2
    split <;> omega
  have ehigh : decide ((if Bool.true = Bool.true then if t.2.2.1 > t.1 then t.2.2.1 else t.1 else if t.2.2.1 < t.1 then t.2.2.1 else t.1) ≥ n) = (decide (n ≤ t.1) || decide (n ≤ t.2.2.1)) := by
    rw [if_pos rfl]
    rw [← Bool.decide_or]
    apply decide_eq_decide.2
    split <;> omega
  rw [elow, ehigh]
  rw [gcheckName_eq _ hw]
  simp only [Option.bind_some, when_eq, zR, within_eq]
  rw [gfirst_eq _ (by simp [lenMax])]
  simp only [Option.bind_some, firstE_cons, firstE_nil, firstOf_zero]
  have eall : (decide (t.1 < 0) || decide (n ≤ t.1) || decide (t.2.2.1 < 0) || decide (n ≤ t.2.2.1)) = ((decide (t.1 < 0) || decide (t.2.2.1 < 0)) || (decide (n ≤ t.1) || decide (n ≤ t.2.2.1))) := by
    cases decide (t.1 < 0) <;> cases decide (n ≤ t.1) <;> cases decide (t.2.2.1 < 0) <;> cases decide (n ≤ t.2.2.1) <;> rfl
  rw [eall]
  cases hlow : (decide (t.1 < 0) || decide (t.2.2.1 < 0)) with
  | true =>
    simp only [cond_true, Bool.true_or]
    rw [firstOf_nz (by decide)]
  | false =>
    rw [cond_false, Bool.false_or]
    congr 2
    cases hhigh : (decide (n ≤ t.1) || decide (n ≤ t.2.2.1)) with
    | true => rw [cond_true, firstOf_nz (by decide), firstOf_nz (by decide)]
    | false =>
      by_cases hm : ckR t.2.2.2.1 0 15 = 0
      · by_cases hv : ckR t.2.2.2.2.1 0 15 = 0
        · rw [bits_range (ckR_zero hv) (ckR_zero hm)]
        · simp only [firstOf, bne_iff_ne, ne_eq, hm, hv, not_true_eq_false, if_false, not_false_eq_true, if_true]
      · simp only [firstOf, bne_iff_ne, ne_eq, hm, not_false_eq_true, if_true]
theorem gtrs_eq (c : Cha) (hl : c.2.1.length ≤ 1000) (hw : Words c) : (z6_M c.2.1 fun (x : Tra × Unit) => zc_M x.fst c) = some (c.2.1.map (trE c.1.length), ()) := by
  have hmem : memMax = 68719476736 := rfl
  unfold z6_M
  rw [bifT (dec_true (show c.2.1.length < lenMax by unfold lenMax; omega))]
  refine (loopL_app (trE c.1.length) c.2.1 0 [] (by simp; omega) fun i e s he hs => ?_).trans ?_
  · unfold z6_b0 zc_M zc_m
    simp only
    rw [show (e.1, e.2.1, e.2.2.1, e.2.2.2.1, e.2.2.2.2.1, ()) = e from rfl, gtr_eq e _ (hw.2 e he)]
    simp only [Option.bind_some]
    rw [bifT (dec_true hs)]
  · rw [List.nil_append]; rfl
theorem firstE_map (n : Int) : ∀ l : List Tra, firstE (l.map (trE n)) = trsE n l
  | [] => rfl
  | t :: l => by rw [List.map_cons, firstE_cons, firstE_map n l]; rfl
theorem gchart_eq (c : Cha) (h1 : c.1.length ≤ 1000) (h2 : c.2.1.length ≤ 1000) (hw : Words c) : zr_M c = some (ckChart c, ()) := by
  have hlm : c.2.1.length < lenMax := by unfold lenMax; omega
  unfold zr_M zr_m ckChart
  simp only [when_eq]
  rw [gfirst_eq _ (by simp [lenMax])]
  simp only [Option.bind_some, firstE_cons, firstE_nil, firstOf_zero]
  by_cases h0 : c.1.length = 0
  · rw [show ((c.1.length : Int) == 0) = true by simp [h0], if_pos h0]
    rfl
  rw [show ((c.1.length : Int) == 0) = false by simpa using h0, if_neg h0]
  by_cases h8 : 16 < c.1.length
  · rw [dec_true (show (c.1.length : Int) > 16 by omega), if_pos h8]
    rfl
  rw [dec_false (show ¬ (c.1.length : Int) > 16 by omega), if_neg h8]
  simp only [cond_false]
  rw [bifF (show (firstOf 0 0 != 0) = false from rfl), gstates_eq c h1 hw]
  simp only [Option.bind_some]
  rw [gfirst_eq _ (by simp [lenMax])]
  simp only [Option.bind_some, firstE_cons, firstE_nil, firstOf_zero]
  rw [← firstOf_assoc, ← firstOf_assoc]
  have e4 : decide ((c.2.1.length : Int) > 48) = decide (48 < c.2.1.length) := decide_eq_decide.2 (by omega)
  rw [e4]
  generalize firstOf (firstOf (stsE [] c.1) (fmsE c.1 0 c.1)) (bif decide (48 < c.2.1.length) then 5 else 0) = x
  by_cases hx : x = 0
  · rw [hx, firstOf_z, bifF (show ((0 : Int) != 0) = false from rfl), gtrs_eq c h2 hw]
    simp only [Option.bind_some]
    rw [gfirst_eq _ (by rw [List.length_map]; exact hlm), firstE_map]
    simp only [Option.bind_some]
    rw [gevents_eq c h2]
    simp only [Option.bind_some]
    rw [gfirst_eq _ (by simp [lenMax])]
    simp only [Option.bind_some, firstE_cons, firstE_nil, firstOf_zero]
    have e5 : decide (((evts c.2.1).length : Int) > 8) = decide (8 < (evts c.2.1).length) := decide_eq_decide.2 (by omega)
    rw [e5]
  · rw [firstOf_nz hx, bifT (by simpa using hx)]
theorem firstOf_eq_zero {a b : Int} : firstOf a b = 0 ↔ a = 0 ∧ b = 0 := by
  unfold firstOf
  by_cases h : a = 0 <;> simp [h]
structure Valid (c : Cha) : Prop where
  pos : 0 < c.1.length
  few : c.1.length ≤ 16
  parent : ∀ (i : Nat) (s : Sta), c.1[i]? = some s → -1 ≤ s.2.1 ∧ s.2.1 < i
  initial : ∀ (i : Nat) (s : Sta), c.1[i]? = some s → s.2.2.1 = -1 ∨ ((i : Int) < s.2.2.1 ∧ s.2.2.1 < c.1.length)
  moves : c.2.1.length ≤ 48
  tra : ∀ t ∈ c.2.1, 0 ≤ t.1 ∧ t.1 < c.1.length ∧ 0 ≤ t.2.2.1 ∧ t.2.2.1 < c.1.length ∧ isNm t.2.1 = true ∧ 0 ≤ t.2.2.2.1 ∧ t.2.2.2.1 ≤ 15 ∧ 0 ≤ t.2.2.2.2.1 ∧ t.2.2.2.2.1 ≤ 15
  kinds : (evts c.2.1).length ≤ 8
theorem stsE_zero : ∀ (l done : List Sta), stsE done l = 0 → ∀ (k : Nat) (s : Sta), l[k]? = some s → stE (done ++ l.take k) s = 0
  | [], done, _, k, s, hk => by simp at hk
  | x :: l, done, h, k, s, hk => by
    simp only [stsE, firstOf_eq_zero] at h
    cases k with
    | zero => simp at hk; subst hk; simpa using h.1
    | succ k =>
      have := stsE_zero l (done ++ [x]) h.2 k s (by simpa using hk)
      simpa using this
theorem fmsE_zero (xs : List Sta) : ∀ (l : List Sta) (i : Int), fmsE xs i l = 0 → ∀ (k : Nat) (s : Sta), l[k]? = some s → fmE (kids (i + k) 0 xs) s = 0
  | [], i, _, k, s, hk => by simp at hk
  | x :: l, i, h, k, s, hk => by
    simp only [fmsE, firstOf_eq_zero] at h
    cases k with
    | zero => simp at hk; subst hk; simpa using h.1
    | succ k =>
      have := fmsE_zero xs l (i + 1) h.2 k s (by simpa using hk)
      rw [show i + ((k + 1 : Nat) : Int) = i + 1 + (k : Int) by omega]
      exact this
theorem trsE_zero (n : Int) : ∀ (l : List Tra), trsE n l = 0 → ∀ t ∈ l, trE n t = 0
  | [], _, t, ht => by cases ht
  | x :: l, h, t, ht => by
    simp only [trsE, firstOf_eq_zero] at h
    rcases List.mem_cons.1 ht with rfl | ht
    · exact h.1
    · exact trsE_zero n l h.2 t ht
theorem kids_mem (p : Int) : ∀ (l : List Sta) (k : Int) (x : Int), x ∈ kids p k l → ∃ (j : Nat) (s : Sta), x = k + j ∧ l[j]? = some s ∧ s.2.1 = p
  | [], k, x, h => by cases h
  | s :: l, k, x, h => by
    unfold kids at h
    rcases List.mem_append.1 h with h | h
    · split at h
      · rename_i hp
        rw [List.mem_singleton] at h
        exact ⟨0, s, by simpa using h, rfl, by simpa using hp⟩
      · cases h
    · obtain ⟨j, t, h1, h2, h3⟩ := kids_mem p l (k + 1) x h
      exact ⟨j + 1, t, by omega, by simpa using h2, h3⟩
theorem valid_of (c : Cha) (h : ckChart c = 0) : Valid c := by
  unfold ckChart at h
  split at h
  · cases h
  split at h
  · cases h
  rename_i h0 h16
  simp only [firstOf_eq_zero] at h
  obtain ⟨h1, h2, h3, h4, h5⟩ := h
  have hpar : ∀ (i : Nat) (s : Sta), c.1[i]? = some s → -1 ≤ s.2.1 ∧ s.2.1 < i := by
    intro i s hs
    have hi := (List.getElem?_eq_some_iff.1 hs).1
    have := stsE_zero c.1 [] h1 i s hs
    unfold stE at this
    simp only [firstE_cons, firstE_nil, firstOf_zero, firstOf_eq_zero, List.nil_append, List.length_take] at this
    have h3 := this.2.2
    cases hb : (decide (s.2.1 < -1) || decide (((min i c.1.length : Nat) : Int) ≤ s.2.1)) with
    | true => rw [hb] at h3; cases h3
    | false =>
      simp only [Bool.or_eq_false_iff, decide_eq_false_iff_not] at hb
      omega
  refine ⟨by omega, by omega, hpar, fun i s hs => ?_, ?_, fun t ht => ?_, ?_⟩
  · have := fmsE_zero c.1 c.1 0 h2 i s hs
    rw [Int.zero_add] at this
    unfold fmE at this
    cases hk : ((kids (i : Int) 0 c.1).length == 0) with
    | true =>
      rw [hk, cond_true] at this
      left
      cases hb : (s.2.2.1 != -1) with
      | true => rw [hb] at this; cases this
      | false => simpa using hb
    | false =>
      rw [hk, cond_false] at this
      right
      cases hb : (s.2.2.2.1 || !(kids (i : Int) 0 c.1).contains s.2.2.1) with
      | true => rw [hb] at this; cases this
      | false =>
        simp only [Bool.or_eq_false_iff, Bool.not_eq_false'] at hb
        have hm : s.2.2.1 ∈ kids (i : Int) 0 c.1 := List.contains_iff_mem.1 hb.2
        obtain ⟨j, s', e1, e2, e3⟩ := kids_mem _ _ _ _ hm
        have hj := (List.getElem?_eq_some_iff.1 e2).1
        have := (hpar j s' e2).2
        omega
  · cases hb : decide (48 < c.2.1.length) with
    | true => rw [hb] at h3; cases h3
    | false => simpa using hb
  · have := trsE_zero _ _ h4 t ht
    unfold trE at this
    simp only [firstE_cons, firstE_nil, firstOf_zero, firstOf_eq_zero] at this
    obtain ⟨a, b, d, e, _⟩ := this
    have hm := ckR_zero d
    have hv := ckR_zero e
    cases hb : (decide (t.1 < 0) || decide ((c.1.length : Int) ≤ t.1) || decide (t.2.2.1 < 0) || decide ((c.1.length : Int) ≤ t.2.2.1)) with
    | true => rw [hb] at a; cases a
    | false =>
      simp only [Bool.or_eq_false_iff, decide_eq_false_iff_not] at hb
      refine ⟨by omega, by omega, by omega, by omega, ?_, hm.1, hm.2, hv.1, hv.2⟩
      cases hn : isNm t.2.1 with
      | true => rfl
      | false => unfold nmE at b; rw [hn] at b; cases b
  · cases hb : decide (8 < (evts c.2.1).length) with
    | true => rw [hb] at h5; cases h5
    | false => simpa using hb
end Go.Tw
end
section
set_option linter.all false
set_option maxRecDepth 100000
namespace Go.Tw
open Go.Vx Go.Vx.B Go.Proofs
section
variable {α β γ σ : Type}
theorem loopL_filter {body : Int → α → List α → Option (β ⊕ List α)} {fin : List α → Option β} (p : α → Bool) :
    ∀ (l : List α) (i : Int) (s : List α), s.length + l.length ≤ memMax → (∀ i e s, e ∈ l → s.length + 1 ≤ memMax → body i e s = some (.inr (bif p e then s ++ [e] else s))) → loopL body fin i l s = fin (s ++ l.filter p)
  | [], i, s, _, _ => by simp [loopL_nil]
  | e :: l, i, s, hl, h => by
    simp only [List.length_cons] at hl
    rw [loopL_cons, h i e s (by simp) (by omega)]
    simp only [Option.bind_some]
    cases hp : p e with
    | true =>
      rw [cond_true, loopL_filter p l (i + 1) (s ++ [e]) (by simp; omega) fun i e s he hs => h i e s (by simp [he]) hs]
      simp [List.filter_cons, hp]
    | false =>
      rw [cond_false, loopL_filter p l (i + 1) s (by omega) fun i e s he hs => h i e s (by simp [he]) hs]
      simp [List.filter_cons, hp]
end
def ent (c : Cha) : Nat → Int → Int
  | 0, i => i
  | k + 1, i => match c.1[i.toNat]? with
    | some s => if s.2.2.1 = -1 then i else ent c k s.2.2.1
    | none => i
def entr (c : Cha) (i : Int) : Int := ent c 17 i
def IsLf (c : Cha) (i : Int) : Prop := 0 ≤ i ∧ i < c.1.length ∧ ∃ s, c.1[i.toNat]? = some s ∧ s.2.2.1 = -1
theorem idx_int {α : Type} (l : List α) {i : Int} (h : 0 ≤ i) : idx l i = l[i.toNat]? := by unfold idx; rw [if_pos h]
theorem enter_loop (c : Cha) (hc : Valid c) : ∀ (k r : Nat) (i : Int), 0 ≤ i → i < c.1.length → (c.1.length : Int) - i ≤ k → (c.1.length : Int) - i ≤ r →
    loopW (fun s__ => zi_b0 c s__) r i = some (ent c k i, ()) ∧ IsLf c (ent c k i)
  | 0, r, i, h0, h1, hk, hr => by omega
  | k + 1, 0, i, h0, h1, hk, hr => by omega
  | k + 1, r + 1, i, h0, h1, hk, hr => by
    have hlt : i.toNat < c.1.length := by omega
    have hg : c.1[i.toNat]? = some c.1[i.toNat] := List.getElem?_eq_getElem hlt
    have hin := hc.initial i.toNat _ hg
    unfold loopW zi_b0 ent
    rw [idx_int _ h0, hg]
    simp only [Option.bind_some]
    by_cases h : c.1[i.toNat].2.2.1 = -1
    · rw [if_pos h, bifF (show (c.1[i.toNat].2.2.1 != -1) = false by simp [h])]
      exact ⟨rfl, h0, h1, _, hg, h⟩
    · rw [if_neg h, bifT (show (c.1[i.toNat].2.2.1 != -1) = true by simpa using h)]
      simp only [Option.bind_some]
      exact enter_loop c hc k r c.1[i.toNat].2.2.1 (by omega) (by omega) (by omega) (by omega)
theorem genter_eq (c : Cha) (hc : Valid c) (i : Int) (h0 : 0 ≤ i) (h1 : i < c.1.length) : zi_M c i = some (entr c i, ()) := by
  have := hc.few
  unfold zi_M entr
  exact (enter_loop c hc 17 wMax i h0 h1 (by omega) (by unfold wMax; omega)).1
theorem entr_leaf (c : Cha) (hc : Valid c) (i : Int) (h0 : 0 ≤ i) (h1 : i < c.1.length) : IsLf c (entr c i) := by
  have := hc.few
  unfold entr
  exact (enter_loop c hc 17 wMax i h0 h1 (by omega) (by unfold wMax; omega)).2
def fitB (s : Int) (e : List UInt8) (v : Int) (t : Tra) : Bool := t.1 == s && t.2.1 == e && bitsOp .i64 .and v t.2.2.2.1 == t.2.2.2.2.1
def tk (c : Cha) (e : List UInt8) (v : Int) : Nat → Int → List Tra
  | 0, _ => []
  | k + 1, s => if s < 0 then [] else match c.1[s.toNat]? with
    | none => []
    | some st => if (c.2.1.filter (fitB s e v)).length = 0 then tk c e v k st.2.1 else c.2.1.filter (fitB s e v)
def takes (c : Cha) (leaf : Int) (e : List UInt8) (v : Int) : List Tra := tk c e v 17 leaf
theorem and_range : ∀ v m : Fin 16, 0 ≤ bitsOp .i64 .and (v.val : Int) (m.val : Int) ∧ bitsOp .i64 .and (v.val : Int) (m.val : Int) ≤ 15 := by decide +kernel
theorem bits4_eq : ∀ v m : Fin 16, eqV (.arr 4 .bool) (z0M (v.val : Int)).1 (z0M (m.val : Int)).1 = ((v.val : Int) == (m.val : Int)) := by
  unfold z0M
  decide +kernel
theorem met_eq {v m x : Int} (hv : 0 ≤ v ∧ v ≤ 15) (hm : 0 ≤ m ∧ m ≤ 15) (hx : 0 ≤ x ∧ x ≤ 15) : eqV (.arr 4 .bool) (z0M (bitsOp .i64 .and v m)).1 (z0M x).1 = (bitsOp .i64 .and v m == x) := by
  have h1 := and_range ⟨v.toNat, by omega⟩ ⟨m.toNat, by omega⟩
  simp only at h1
  rw [Int.toNat_of_nonneg hv.1, Int.toNat_of_nonneg hm.1] at h1
  have h2 := bits4_eq ⟨(bitsOp .i64 .and v m).toNat, by omega⟩ ⟨x.toNat, by omega⟩
  simp only at h2
  rw [Int.toNat_of_nonneg h1.1, Int.toNat_of_nonneg hx.1] at h2
  exact h2
theorem takes_mem (c : Cha) (e : List UInt8) (v : Int) : ∀ (k : Nat) (s : Int) (t : Tra), t ∈ tk c e v k s → t ∈ c.2.1
  | 0, s, t, h => by cases h
  | k + 1, s, t, h => by
    unfold tk at h
    split at h
    · cases h
    · split at h
      · cases h
      · split at h
        · exact takes_mem c e v k _ t h
        · exact (List.mem_filter.1 h).1
def stp (c : Cha) (leaf : Int) (e : List UInt8) (v : Int) : Int × Int :=
  match takes c leaf e v with
  | [] => (leaf, 0)
  | [t] => (entr c t.2.2.1, 0)
  | _ => (0, 30)
theorem gfits_eq (c : Cha) (hc : Valid c) (s : Int) (p2 : Inp) (hv : 0 ≤ p2.2.1 ∧ p2.2.1 ≤ 15) :
    (zE_M c.2.1 fun (x : Tra × Unit) => zb_M x.fst s p2) = some (c.2.1.filter (fitB s p2.1 p2.2.1), ()) := by
  have hmem : memMax = 68719476736 := rfl
  have hm := hc.moves
  unfold zE_M
  rw [bifT (dec_true (show c.2.1.length < lenMax by unfold lenMax; omega))]
  refine (loopL_filter (fitB s p2.1 p2.2.1) c.2.1 0 [] (by simp; omega) fun i t xs ht hs => ?_).trans ?_
  · have h := hc.tra t ht
    have hmet := met_eq hv ⟨h.2.2.2.2.2.1, h.2.2.2.2.2.2.1⟩ h.2.2.2.2.2.2.2
    unfold zE_b0
    have hb : zb t s p2 = (fitB s p2.1 p2.2.1 t, ()) := by
      unfold zb zU fitB
      simp only
      rw [hmet]
      cases (t.1 == s) <;> cases (t.2.1 == p2.1) <;> rfl
    show (Option.bind (some (zb t s p2)) _) = _
    rw [hb]
    simp only [Option.bind_some]
    cases fitB s p2.1 p2.2.1 t with
    | true => rw [cond_true, bifT (dec_true hs)]; rfl
    | false => rfl
  · rw [List.nil_append]; rfl
theorem gstep_body (c : Cha) (hc : Valid c) (leaf : Int) (p2 : Inp) (hv : 0 ≤ p2.2.1 ∧ p2.2.1 ≤ 15) (s : Int) (st : Sta) (h0 : 0 ≤ s) (hg : c.1[s.toNat]? = some st) :
    zq_b0 leaf c p2 0 false false s = some (match c.2.1.filter (fitB s p2.1 p2.2.1) with
      | [] => .inr st.2.1
      | [t] => .inl ((entr c t.2.2.1, false, false, ()), ())
      | _ => .inl ((leaf, false, true, ()), ())) := by
  have hall : ∀ t ∈ c.2.1.filter (fitB s p2.1 p2.2.1), t ∈ c.2.1 := fun t ht => (List.mem_filter.1 ht).1
  unfold zq_b0
  rw [bifT (show (s != -1) = true by simp; omega), gfits_eq c hc s p2 hv, idx_int _ h0, hg]
  simp only [Option.bind_some]
  generalize c.2.1.filter (fitB s p2.1 p2.2.1) = fs at hall
  match fs with
  | [] => rfl
  | [t] =>
    have ht := hc.tra t (hall t (by simp))
    have e : idx [t] 0 = some t := rfl
    simp only [List.length_cons, List.length_nil]
    rw [bifF (by rfl), bifT (by rfl), e]
    simp only [Option.bind_some]
    rw [genter_eq c hc _ ht.2.2.1 ht.2.2.2.1]
    simp only [Option.bind_some]
  | t :: u :: l =>
    simp only [List.length_cons]
    rw [bifF (beq_eq_false_iff_ne.2 (by omega)), bifF (beq_eq_false_iff_ne.2 (by omega))]
theorem gstep_loop (c : Cha) (hc : Valid c) (leaf : Int) (p2 : Inp) (hv : 0 ≤ p2.2.1 ∧ p2.2.1 ≤ 15) : ∀ (k r : Nat) (s : Int), -1 ≤ s → s < c.1.length → s + 1 ≤ k → s + 1 < r →
    loopW (fun s__ => zq_b0 leaf c p2 0 false false s__) r s = some (match tk c p2.1 p2.2.1 k s with
      | [] => ((leaf, true, false, ()), ())
      | [t] => ((entr c t.2.2.1, false, false, ()), ())
      | _ => ((leaf, false, true, ()), ()))
  | k, 0, s, h0, h1, hk, hr => by omega
  | k, r + 1, s, h0, h1, hk, hr => by
    unfold loopW
    by_cases hs : s < 0
    · have : tk c p2.1 p2.2.1 k s = [] := by cases k <;> simp [tk, hs]
      have hb : zq_b0 leaf c p2 0 false false s = some (.inl ((leaf, true, false, ()), ())) := by
        unfold zq_b0
        rw [bifF (show (s != -1) = false by simp; omega)]
      rw [this, hb]
      rfl
    · obtain ⟨k, rfl⟩ : ∃ j, k = j + 1 := ⟨k - 1, by omega⟩
      have hlt : s.toNat < c.1.length := by omega
      have hg : c.1[s.toNat]? = some c.1[s.toNat] := List.getElem?_eq_getElem hlt
      have hp := hc.parent s.toNat _ hg
      have hb := gstep_body c hc leaf p2 hv s _ (by omega) hg
      unfold tk
      rw [if_neg hs, hg]
      simp only [hb, Option.bind_some]
      generalize c.2.1.filter (fitB s p2.1 p2.2.1) = fs
      match fs with
      | [] =>
        simp only [List.length_nil, if_true]
        exact gstep_loop c hc leaf p2 hv k r c.1[s.toNat].2.1 (by omega) (by omega) (by omega) (by omega)
      | [t] => rfl
      | t :: u :: l => rfl
theorem gstep_eq (c : Cha) (hc : Valid c) (leaf : Int) (p2 : Inp) (h0 : 0 ≤ leaf) (h1 : leaf < c.1.length) (hv : 0 ≤ p2.2.1 ∧ p2.2.1 ≤ 15) :
    zq_M c leaf p2 = some (match takes c leaf p2.1 p2.2.1 with
      | [] => ((leaf, true, false, ()), ())
      | [t] => ((entr c t.2.2.1, false, false, ()), ())
      | _ => ((leaf, false, true, ()), ())) := by
  have := hc.few
  unfold zq_M takes
  exact gstep_loop c hc leaf p2 hv 17 wMax leaf (by omega) h1 (by omega) (by unfold wMax; omega)
end Go.Tw
end
