import Derived.Test.YtohhmdogfjmlcaaGreatBB
import Derived.Test.YtohhmdogfjmlcaaGreatBC
section
set_option linter.all false
set_option maxRecDepth 100000
namespace Go.Tw
open Go.Vx Go.Vx.B Go.Proofs
section
variable {α β γ σ : Type}
theorem loopL_nil {body : Int → α → σ → Option (β ⊕ σ)} {fin : σ → Option β} {i : Int} {s : σ} : loopL body fin i [] s = fin s := rfl
theorem loopL_cons {body : Int → α → σ → Option (β ⊕ σ)} {fin : σ → Option β} {i : Int} {e : α} {l : List α} {s : σ} : loopL body fin i (e :: l) s = (body i e s).bind fun z => match z with
    | .inl y => some y
    | .inr s' => loopL body fin (i + 1) l s' := rfl
theorem loopL_find {body : Int → α → Unit → Option (β ⊕ Unit)} {fin : Unit → Option β} (p : α → Option β) :
    ∀ (l : List α) (i : Int), (∀ i e, e ∈ l → body i e () = some (match p e with | some y => .inl y | none => .inr ())) → loopL body fin i l () = match l.findSome? p with | some y => some y | none => fin ()
  | [], i, _ => rfl
  | e :: l, i, h => by
    rw [loopL_cons, h i e (by simp), List.findSome?_cons]
    cases p e with
    | none => exact loopL_find p l (i + 1) fun i e he => h i e (by simp [he])
    | some y => rfl
theorem loopL_app {body : Int → α → List γ → Option (β ⊕ List γ)} {fin : List γ → Option β} (f : α → γ) :
    ∀ (l : List α) (i : Int) (s : List γ), s.length + l.length ≤ memMax → (∀ i e s, e ∈ l → s.length + 1 ≤ memMax → body i e s = some (.inr (s ++ [f e]))) → loopL body fin i l s = fin (s ++ l.map f)
  | [], i, s, _, _ => by simp [loopL_nil]
  | e :: l, i, s, hl, h => by
    simp only [List.length_cons] at hl
    rw [loopL_cons, h i e s (by simp) (by omega)]
    simp only [Option.bind_some]
    rw [loopL_app f l (i + 1) (s ++ [f e]) (by simp; omega) fun i e s he hs => h i e s (by simp [he]) hs]
    simp
end
theorem dec_true {p : Prop} [Decidable p] (h : p) : decide p = true := decide_eq_true h
theorem dec_false {p : Prop} [Decidable p] (h : ¬ p) : decide p = false := decide_eq_false h
theorem bifT {α : Type} {c : Bool} {a b : α} (h : c = true) : (bif c then a else b) = a := by rw [h]; rfl
theorem bifF {α : Type} {c : Bool} {a b : α} (h : c = false) : (bif c then a else b) = b := by rw [h]; rfl
def ckR (n lo hi : Int) : Int := if n < lo ∨ hi < n then 3 else 0
def firstE (l : List Int) : Int := (l.find? (· != 0)).getD 0
theorem checkRange_eq (n lo hi : Int) : zo n lo hi = (ckR n lo hi, ()) := by
  unfold zo ckR
  by_cases h1 : n < lo
  · rw [bifT (dec_true h1), if_pos (.inl h1)]
  · rw [bifF (dec_false h1)]
    by_cases h2 : n > hi
    · rw [bifT (dec_true h2), if_pos (.inr h2)]
    · rw [bifF (dec_false h2), if_neg (by omega)]
theorem when_eq (c : Bool) (e : Int) : z0b c e = (bif c then e else 0, ()) := by
  unfold z0b
  cases c <;> rfl
theorem within_eq (n lo hi : Int) : z0L n lo hi = (ckR n lo hi, ()) := by
  unfold z0L ckR
  by_cases h1 : n < lo
  · rw [bifT (dec_true h1), when_eq, cond_true, if_pos (.inl h1)]
  · rw [bifF (dec_false h1), when_eq]
    by_cases h2 : n > hi
    · rw [dec_true h2, cond_true, if_pos (.inr h2)]
    · rw [dec_false h2, cond_false, if_neg (by omega)]
theorem find_first (l : List Int) : l.findSome? (fun e => if e != 0 then some (e, ()) else none) = (l.find? (· != 0)).map fun e => (e, ()) := by
  induction l with
  | nil => rfl
  | cons e l ih =>
    rw [List.findSome?_cons, List.find?_cons]
    cases he : (e != 0) with
    | true => rfl
    | false => simpa using ih
theorem gfirst_eq (l : List Int) (h : l.length < lenMax) : z0Q_M l = some (firstE l, ()) := by
  unfold z0Q_M
  rw [bifT (dec_true h), loopL_find (fun e => if e != 0 then some (e, ()) else none) l 0 (fun i e _ => by
    unfold z0Q_b0
    cases he : (e != 0) <;> rfl), find_first]
  unfold firstE z0Q_f0
  cases l.find? (· != 0) <;> rfl
theorem idx_nat {α : Type} (l : List α) (i : Nat) : idx l (i : Int) = l[i]? := by
  unfold idx
  rw [if_pos (Int.natCast_nonneg i)]
  rfl
theorem loopL_findI {α β : Type} {body : Int → α → Unit → Option (β ⊕ Unit)} {fin : Unit → Option β} (xs : List α) (p : α → Option β) :
    ∀ (l done : List α), xs = done ++ l → (∀ (i : Nat) e, xs[i]? = some e → body (i : Int) e () = some (match p e with | some y => .inl y | none => .inr ())) →
      loopL body fin (done.length : Int) l () = match l.findSome? p with | some y => some y | none => fin ()
  | [], done, _, _ => rfl
  | e :: l, done, hx, h => by
    rw [loopL_cons, h done.length e (by rw [hx]; simp), List.findSome?_cons]
    cases p e with
    | none =>
      have := loopL_findI (body := body) (fin := fin) xs p l (done ++ [e]) (by rw [hx]; simp) h
      simp only [List.length_append, List.length_cons, List.length_nil] at this
      exact this
    | some y => rfl
theorem rfirst_eq (l : List Int) (h : l.length < lenMax) : z0N_M l = some (firstE l, ()) := by
  unfold z0N_M
  have := loopL_findI (body := fun i__ e__ s__ => z0N_b0 l i__ e__) (fin := fun s__ => z0N_f0 l) l (fun e => if e != 0 then some (e, ()) else none) l [] rfl (fun i e hi => by
    unfold z0N_b0
    cases he : (e != 0) with
    | true => rw [idx_nat, hi]; rfl
    | false => rfl)
  rw [bifT (dec_true h)]
  refine this.trans ?_
  rw [find_first]
  unfold firstE z0N_f0
  cases l.find? (· != 0) <;> rfl
def letterN (c : Nat) : Bool := decide (65 ≤ c ∧ c ≤ 90 ∨ 97 ≤ c ∧ c ≤ 122)
def otherN (c : Nat) : Bool := decide (48 ≤ c ∧ c ≤ 57 ∨ c = 95)
def nmOk : Bool → List UInt8 → Bool
  | _, [] => true
  | first, c :: l => (letterN c.toNat || (!first && otherN c.toNat)) && nmOk false l
def isNm (s : List UInt8) : Bool := nmOk true s && decide (0 < s.length ∧ s.length ≤ 24)
theorem rname_loop : ∀ (s0 s : List UInt8) (i : Int), 0 ≤ i → loopL (fun i__ e__ s__ => z0F_b2 s0 i__ e__) (fun s__ => z0F_f2 s0) i s () = some (nmOk (decide (i = 0)) s, ())
  | s0, [], i, _ => rfl
  | s0, c :: l, i, hi => by
    rw [loopL_cons]
    have ih := rname_loop s0 l (i + 1) (by omega)
    have e0 : decide (i + 1 = 0) = false := dec_false (by omega)
    rw [e0] at ih
    unfold nmOk
    have hb : z0F_b2 s0 i c = some (if (letterN c.toNat || (!decide (i = 0) && otherN c.toNat)) = true then .inr () else .inl (false, ())) := by
      unfold z0F_b2 z0F_s15 letterN otherN
      have g3 : (i == 0) = decide (i = 0) := by by_cases h : i = 0 <;> simp [h]
      have g4 : ((c.toNat : Int) != 95) = !decide ((c.toNat : Int) = 95) := by by_cases h : (c.toNat : Int) = 95 <;> simp [h]
      rw [g3, g4]
      by_cases h1 : (97 : Int) ≤ c.toNat <;> by_cases h2 : (c.toNat : Int) ≤ 122 <;> by_cases h3 : (65 : Int) ≤ c.toNat <;> by_cases h4 : (c.toNat : Int) ≤ 90 <;> by_cases h5 : (c.toNat : Int) < 48 <;> by_cases h6 : (c.toNat : Int) > 57 <;> by_cases h7 : (c.toNat : Int) = 95 <;> by_cases h8 : i = 0 <;>
        first
        | omega
        | (have g1 : (decide (65 ≤ c.toNat ∧ c.toNat ≤ 90 ∨ 97 ≤ c.toNat ∧ c.toNat ≤ 122)) = decide ((65 : Int) ≤ c.toNat ∧ (c.toNat : Int) ≤ 90 ∨ (97 : Int) ≤ c.toNat ∧ (c.toNat : Int) ≤ 122) := by
            apply decide_eq_decide.2; omega
           have g2 : (decide (48 ≤ c.toNat ∧ c.toNat ≤ 57 ∨ c.toNat = 95)) = decide (¬ (c.toNat : Int) < 48 ∧ ¬ (c.toNat : Int) > 57 ∨ (c.toNat : Int) = 95) := by
            apply decide_eq_decide.2; omega
           rw [g1, g2]
           simp [h1, h2, h3, h4, h5, h6, h7, h8])
    rw [hb]
    simp only [Option.bind_some]
    by_cases hc : (letterN c.toNat || (!decide (i = 0) && otherN c.toNat)) = true
    · rw [if_pos hc, hc, Bool.true_and]
      exact ih
    · rw [if_neg hc, Bool.eq_false_iff.2 hc]
      rfl
theorem rname_eq (s : List UInt8) : z0F_M s = some (isNm s, ()) := by
  unfold z0F_M isNm
  by_cases h0 : s.length = 0
  · have : ((s.length : Int) == 0) = true := by simp [h0]
    rw [bifT this, show decide (0 < s.length ∧ s.length ≤ 24) = false from dec_false (by omega), Bool.and_false]
  · have : ((s.length : Int) == 0) = false := by simpa using h0
    rw [bifF this]
    by_cases h1 : 24 < s.length
    · rw [bifT (dec_true (by omega)), show decide (0 < s.length ∧ s.length ≤ 24) = false from dec_false (by omega), Bool.and_false]
    · rw [bifF (dec_false (show ¬ ((s.length : Int) > 24) by omega)), bifT (dec_true (show s.length < lenMax by unfold lenMax; omega)), rname_loop s s 0 (by omega), dec_true rfl]
      rw [show decide (0 < s.length ∧ s.length ≤ 24) = true from dec_true ⟨by omega, by omega⟩, Bool.and_true]
theorem get_at {bs : List UInt8} {i : Nat} {c : UInt8} (h : bs[i]? = some c) : (⟨bs.toArray⟩ : ByteArray).get! i = c := by
  show bs.toArray[i]! = c
  rw [getElem!_def]
  simp [h]
theorem rune_ascii {bs : List UInt8} {i : Nat} {c : UInt8} (h : bs[i]? = some c) (hc : c.toNat < 128) : runeAt bs (i : Int) = ((c.toNat : Int), (i : Int) + 1) := by
  unfold runeAt Utf8.decode
  have h0 : (⟨bs.toArray⟩ : ByteArray).get! ((i : Int).toNat + 0) = c := by rw [Int.toNat_natCast, Nat.add_zero]; exact get_at h
  simp only [h0]
  rw [if_pos hc]
  rfl
theorem rune_high {bs : List UInt8} {i : Nat} {c : UInt8} (h : bs[i]? = some c) (hc : 128 ≤ c.toNat) : 128 ≤ (runeAt bs (i : Int)).1 := by
  unfold runeAt Utf8.decode
  have h0 : (⟨bs.toArray⟩ : ByteArray).get! ((i : Int).toNat + 0) = c := by rw [Int.toNat_natCast, Nat.add_zero]; exact get_at h
  simp only [h0]
  rw [if_neg (by omega)]
  have he : Utf8.runeError = 65533 := rfl
  split
  · split
    · rename_i h2; show (128 : Int) ≤ ((_ : Nat) : Int); omega
    · rw [he]; decide
  · split
    · split
      · rename_i h2; simp only [Bool.and_eq_true, decide_eq_true_eq] at h2; show (128 : Int) ≤ ((_ : Nat) : Int); omega
      · rw [he]; decide
    · split
      · split
        · rename_i h2; simp only [Bool.and_eq_true, decide_eq_true_eq] at h2; show (128 : Int) ≤ ((_ : Nat) : Int); omega
        · rw [he]; decide
      · rw [he]; decide
def letterI (r : Int) : Bool := decide (65 ≤ r ∧ r ≤ 90 ∨ 97 ≤ r ∧ r ≤ 122)
def otherI (r : Int) : Bool := decide (48 ≤ r ∧ r ≤ 57 ∨ r = 95)
theorem gname_body (s str : List UInt8) (pos : Int) : z0D_b0 s str pos = some (if (letterI (runeAt str pos).1 || (!decide (pos = 0) && otherI (runeAt str pos).1)) = true then .inr () else .inl (false, ())) := by
  unfold z0D_b0 z0D_s15 z0D_s14 letterI otherI
  generalize (runeAt str pos).1 = r
  have g3 : (pos == 0) = decide (pos = 0) := by by_cases h : pos = 0 <;> simp [h]
  have g4 : (r == 95) = decide (r = 95) := by by_cases h : r = 95 <;> simp [h]
  rw [g3, g4]
  by_cases h1 : r ≥ 97 <;> by_cases h2 : r ≤ 122 <;> by_cases h3 : r ≥ 65 <;> by_cases h4 : r ≤ 90 <;> by_cases h5 : r ≥ 48 <;> by_cases h6 : r ≤ 57 <;> by_cases h7 : r = 95 <;> by_cases h8 : pos = 0 <;>
    first
    | omega
    | simp [h1, h2, h3, h4, h5, h6, h7, h8]
theorem gname_loop (s : List UInt8) : ∀ (m i : Nat), s.length ≤ i + m → i ≤ s.length →
    loopS s (fun i__ s__ => z0D_b0 s s i__) (fun s__ => z0D_f0 s s) m (i : Int) () = bif nmOk (decide (i = 0)) (s.drop i) then z0D_f0 s s else some (false, ())
  | m, i, hm, hi => by
    by_cases hl : i = s.length
    · have e1 : s.drop i = [] := List.drop_eq_nil_of_le (by omega)
      have e2 : decide ((i : Int) < (s.length : Int)) = false := dec_false (by omega)
      rw [e1]
      cases m <;> (unfold loopS; rw [bifF e2]; rfl)
    · have hlt : i < s.length := by omega
      obtain ⟨m, rfl⟩ : ∃ k, m = k + 1 := ⟨m - 1, by omega⟩
      have hd : s.drop i = s[i] :: s.drop (i + 1) := (List.getElem_cons_drop (h := hlt)).symm
      have hg : s[i]? = some s[i] := List.getElem?_eq_getElem hlt
      have e0 : decide ((i : Int) = 0) = decide (i = 0) := decide_eq_decide.2 (by omega)
      unfold loopS
      rw [bifT (dec_true (show (i : Int) < (s.length : Int) by omega)), gname_body, hd, e0]
      simp only [Option.bind_some]
      by_cases hc : s[i].toNat < 128
      · rw [rune_ascii hg hc]
        have e1 : letterI (s[i].toNat : Int) = letterN s[i].toNat := decide_eq_decide.2 (by omega)
        have e2 : otherI (s[i].toNat : Int) = otherN s[i].toNat := decide_eq_decide.2 (by omega)
        simp only [e1, e2, nmOk]
        by_cases hb : (letterN s[i].toNat || (!decide (i = 0) && otherN s[i].toNat)) = true
        · rw [if_pos hb, hb, Bool.true_and]
          have ih := gname_loop s m (i + 1) (by omega) (by omega)
          have e3 : decide (i + 1 = 0) = false := dec_false (by omega)
          rw [e3, show ((i + 1 : Nat) : Int) = (i : Int) + 1 by omega] at ih
          exact ih
        · rw [if_neg hb, Bool.eq_false_iff.2 hb, Bool.false_and]
          rfl
      · have h1 := rune_high hg (by omega)
        have e1 : letterI (runeAt s (i : Int)).1 = false := dec_false (by omega)
        have e2 : otherI (runeAt s (i : Int)).1 = false := dec_false (by omega)
        have e3 : letterN s[i].toNat = false := dec_false (by omega)
        have e4 : otherN s[i].toNat = false := dec_false (by omega)
        simp [e1, e2, nmOk, e3, e4]
theorem gname_eq (s : List UInt8) (h : s.length < lenMax) : z0D_M s = some (isNm s, ()) := by
  unfold z0D_M
  have := gname_loop s s.length 0 (by omega) (by omega)
  rw [List.drop_zero, show decide (0 = 0) = true from rfl] at this
  rw [bifT (dec_true h)]
  refine (show _ = _ from this).trans ?_
  unfold isNm z0D_f0
  cases hn : nmOk true s with
  | false => rfl
  | true =>
    rw [cond_true, Bool.true_and]
    cases s with
    | nil => rfl
    | cons c l =>
      have e : decide (((c :: l).length : Int) ≤ 24) = decide (0 < (c :: l).length ∧ (c :: l).length ≤ 24) := decide_eq_decide.2 (by simp only [List.length_cons]; omega)
      rw [← e]
      rfl
def firstOf (a b : Int) : Int := if a != 0 then a else b
theorem firstE_nil : firstE [] = 0 := rfl
theorem firstE_cons (a : Int) (l : List Int) : firstE (a :: l) = firstOf a (firstE l) := by
  unfold firstE firstOf
  rw [List.find?_cons]
  cases h : (a != 0) <;> rfl
theorem firstOf_zero (a : Int) : firstOf a 0 = a := by
  unfold firstOf
  by_cases h : a = 0 <;> simp [h]
theorem idx_mid {α : Type} (p : List α) (x : α) (r : List α) (i : Int) (hi : i = (p.length : Int)) : idx (p ++ x :: r) i = some x := by
  subst hi
  rw [idx_nat]
  simp
theorem loopL_same {α β : Type} {body : Int → α → Unit → Option (β ⊕ Unit)} {fin : Unit → Option β} (l : List α) (h : ∀ (p : List α) (x : α) (r : List α), l = p ++ x :: r → body (p.length : Int) x () = some (.inr ())) :
    ∀ (r p : List α) (i : Int), l = p ++ r → i = (p.length : Int) → loopL body fin i r () = fin ()
  | [], p, i, _, _ => rfl
  | x :: r, p, i, hl, hi => by
    rw [loopL_cons, hi, h p x r hl]
    simp only [Option.bind_some]
    exact loopL_same l h r (p ++ [x]) _ (by rw [hl]; simp) (by simp)
theorem sameInts_refl (l : List Int) (h : l.length < lenMax) : z02_M l l = some (true, ()) := by
  unfold z02_M
  rw [bifF (show ((l.length : Int) != (l.length : Int)) = false by simp), bifT (dec_true h), loopL_same l (fun p x r e => by
    unfold z02_b0
    rw [e, idx_mid p x r _ rfl]
    simp only [Option.bind_some]
    rw [bifF (show (x != x) = false by simp)]) l [] 0 rfl rfl]
  rfl
theorem sameWords_refl (l : List (List UInt8)) (h : l.length < lenMax) : zv_M l l = some (true, ()) := by
  unfold zv_M
  rw [bifF (show ((l.length : Int) != (l.length : Int)) = false by simp), bifT (dec_true h), loopL_same l (fun p x r e => by
    unfold zv_b0
    rw [e, idx_mid p x r _ rfl]
    simp only [Option.bind_some]
    rw [show (!x == x) = false by simp]
    rfl) l [] 0 rfl rfl]
  rfl
theorem firstOf_assoc (a b c : Int) : firstOf (firstOf a b) c = firstOf a (firstOf b c) := by
  unfold firstOf
  by_cases ha : a = 0 <;> by_cases hb : b = 0 <;> simp [ha, hb]
theorem rcheckName_eq (s : List UInt8) : zu_M s = some (bif isNm s then 0 else 8, ()) := by
  unfold zu_M zu_m
  rw [rname_eq]
  cases isNm s <;> rfl
theorem gcheckName_eq (s : List UInt8) (h : s.length < lenMax) : zz_M s = some (bif isNm s then 0 else 8, ()) := by
  unfold zz_M zz_m
  rw [gname_eq s h]
  simp only [Option.bind_some, when_eq]
  cases isNm s <;> rfl
theorem mapGet_put {k v : Ty} (hk : ∀ x y : k.den, eqV k x y = true ↔ x = y) : ∀ (m : List (k.den × v.den)) (x : k.den) (y : v.den) (n : k.den), mapGet k v (mapPut k v m x y) n = bif eqV k n x then some y else mapGet k v m n
  | [], x, y, n => rfl
  | p :: m, x, y, n => by
    unfold mapPut
    cases h : eqV k x p.1 with
    | true =>
      have hx := (hk _ _).1 h
      simp only [cond_true, mapGet]
      cases hn : eqV k n x with
      | true => rfl
      | false => rw [hx] at hn; rw [hn]; rfl
    | false =>
      simp only [cond_false, mapGet]
      rw [mapGet_put hk m x y n]
      cases hp : eqV k n p.1 with
      | false => rfl
      | true =>
        have e := (hk _ _).1 hp
        cases hn : eqV k n x with
        | false => rfl
        | true =>
          have e2 := (hk _ _).1 hn
          rw [(hk _ _).2 (e2.symm.trans e)] at h
          cases h
theorem intKey : ∀ x y : (Ty.int .i64).den, eqV (.int .i64) x y = true ↔ x = y := fun x y => by
  show ((x : Int) == y) = true ↔ x = y
  exact beq_iff_eq
theorem wrapS {i : Int} (h0 : -9223372036854775808 ≤ i) (h1 : i ≤ 9223372036854775807) : IntKind.i64.wrap i = i := by
  unfold IntKind.wrap IntKind.bits IntKind.signed
  simp only [Nat.reduceSub, Int.reducePow, decide_eq_true_eq, Bool.true_and]
  split <;> omega
end Go.Tw
end
section
set_option linter.all false
set_option maxRecDepth 100000
namespace Go.Tw
open Go.Vx Go.Vx.B Go.Proofs
def ev (l : List Cmd) (n : Int) : Option (List UInt8) := (l.find? fun c => c.1 == n).map fun c => c.2.2.1
def clash (done : List Cmd) (c : Cmd) : Bool := done.any fun d => d.1 == c.1 && !(d.2.2.1 == c.2.2.1)
def cmdF (c : Cmd) : Int := firstE [ckR c.1 1 999999999, ckR c.2.1 0 1, bif isNm c.2.2.1 then 0 else 8]
def cmdE (done : List Cmd) (c : Cmd) : Int := firstOf (cmdF c) (bif clash done c then 30 else 0)
def cmdsE : List Cmd → List Cmd → Int
  | _, [] => 0
  | done, c :: l => firstOf (cmdE done c) (cmdsE (done ++ [c]) l)
def ckCmds (l : List Cmd) : Int := if 256 < l.length then 5 else cmdsE [] l
theorem find_eq (l : List Cmd) (hl : l.length < lenMax) (n : Int) : z0W_M l n = some (match ev l n with | some e => (e, true, ()) | none => ([], false, ())) := by
  unfold z0W_M
  rw [bifT (dec_true hl)]
  have := loopL_findI (body := fun i__ e__ s__ => z0W_b0 l n i__ e__) (fin := fun s__ => z0W_f0 l n) l (fun c => if (c.1 == n) = true then some (c.2.2.1, true, ()) else none) l [] rfl (fun i e hi => by
    unfold z0W_b0
    cases h : (e.1 == n) with
    | true => rw [idx_nat, hi]; rfl
    | false => rfl)
  refine this.trans ?_
  have h2 : ∀ l : List Cmd, l.findSome? (fun c => if (c.1 == n) = true then some (c.2.2.1, true, ()) else none) = (ev l n).map fun e => (e, true, ()) := by
    intro l
    induction l with
    | nil => rfl
    | cons c l ih =>
      rw [List.findSome?_cons]
      unfold ev at ih ⊢
      rw [List.find?_cons]
      cases h : (c.1 == n) with
      | true => rfl
      | false => rw [if_neg (by simp)]; exact ih
  rw [h2]
  cases ev l n <;> rfl
theorem clash_loop (l : List Cmd) (i : Nat) (n : Cmd) (hn : l[i]? = some n) {fin : Unit → Option ((Int × Unit) ⊕ Unit)} : ∀ (m k : Nat), k + m = i →
    loopN (fun i__ s__ => zX_b6 l (i : Int) i__) fin m (k : Int) () = if clash ((l.drop k).take m) n = true then some (.inl (30, ())) else fin ()
  | 0, k, _ => by simp [loopN, clash]
  | m + 1, k, hk => by
    have hi : i < l.length := (List.getElem?_eq_some_iff.1 hn).1
    have hkl : k < l.length := by omega
    unfold loopN
    have hb : zX_b6 l (i : Int) (k : Int) = some (if (l[k].1 == n.1 && !(l[k].2.2.1 == n.2.2.1)) = true then .inl (.inl (30, ())) else .inr ()) := by
      unfold zX_b6
      simp only [idx_nat, hn, List.getElem?_eq_getElem hkl, Option.bind_some]
      cases (l[k].1 == n.1) <;> cases (l[k].2.2.1 == n.2.2.1) <;> rfl
    rw [hb]
    simp only [Option.bind_some]
    have hd : (l.drop k).take (m + 1) = l[k] :: (l.drop (k + 1)).take m := by
      rw [← List.getElem_cons_drop (h := hkl), List.take_succ_cons]
    rw [hd]
    unfold clash
    rw [List.any_cons]
    cases h : (l[k].1 == n.1 && !(l[k].2.2.1 == n.2.2.1)) with
    | true => rfl
    | false =>
      rw [if_neg (by simp), Bool.false_or]
      have ih := clash_loop l i n hn (fin := fin) m (k + 1) (by omega)
      rw [show ((k + 1 : Nat) : Int) = (k : Int) + 1 by omega] at ih
      exact ih
theorem rcmd_body (l : List Cmd) (hl : l.length ≤ 256) (i : Nat) (c : Cmd) (hc : l[i]? = some c) :
    zX_b0 l (i : Int) c = some (bif cmdE (l.take i) c != 0 then .inl (cmdE (l.take i) c, ()) else .inr ()) := by
  have hi : i < l.length := (List.getElem?_eq_some_iff.1 hc).1
  unfold zX_b0
  simp only [idx_nat, hc, Option.bind_some, rcheckName_eq, checkRange_eq]
  rw [rfirst_eq _ (by simp [lenMax])]
  simp only [Option.bind_some]
  change (bif cmdF c != 0 then _ else _) = _
  unfold cmdE firstOf
  cases h : (cmdF c != 0) with
  | true => rw [cond_true, if_pos rfl, h, cond_true]; rfl
  | false =>
    rw [cond_false, if_neg (by simp), bifT (dec_true (show (i : Int) ≤ 9223372036854775807 by omega))]
    have e1 : ((i : Int) - 0).toNat = i := by omega
    rw [e1]
    have := clash_loop l i c hc (fin := fun s__ => zX_f6 l (i : Int)) i 0 (by omega)
    rw [show ((0 : Nat) : Int) = 0 from rfl] at this
    rw [this, List.drop_zero]
    cases clash (l.take i) c <;> rfl
theorem rcmds_loop (xs : List Cmd) (hl : xs.length ≤ 256) : ∀ (l done : List Cmd), xs = done ++ l →
    loopL (fun i__ e__ s__ => zX_b0 xs i__ e__) (fun s__ => zX_f0 xs) (done.length : Int) l () = some (cmdsE done l, ())
  | [], done, _ => rfl
  | n :: l, done, hx => by
    have hn : xs[done.length]? = some n := by rw [hx]; simp
    rw [loopL_cons, rcmd_body xs hl done.length n hn]
    have ht : xs.take done.length = done := by rw [hx]; simp
    rw [ht]
    simp only [Option.bind_some, cmdsE]
    rw [firstOf]
    cases h : (cmdE done n != 0) with
    | true => rfl
    | false =>
      have ih := rcmds_loop xs hl l (done ++ [n]) (by rw [hx]; simp)
      simp only [List.length_append, List.length_cons, List.length_nil] at ih
      exact ih
theorem rcmds_eq (l : List Cmd) : zX_M l = some (ckCmds l, ()) := by
  unfold zX_M ckCmds
  by_cases h8 : 256 < l.length
  · rw [bifT (dec_true (show (l.length : Int) > 256 by omega)), if_pos h8]
  · rw [bifF (dec_false (show ¬ (l.length : Int) > 256 by omega)), if_neg h8, bifT (dec_true (show l.length < lenMax by unfold lenMax; omega))]
    exact rcmds_loop l (by omega) l [] rfl
theorem ev_snoc (done : List Cmd) (c : Cmd) (n : Int) : ev (done ++ [c]) n = (ev done n).or (if (c.1 == n) = true then some c.2.2.1 else none) := by
  unfold ev
  rw [List.find?_append]
  cases done.find? (fun c => c.1 == n) with
  | some d => rfl
  | none =>
    simp only [Option.none_or, List.find?_cons, List.find?_nil, Option.map_none]
    cases (c.1 == n) <;> rfl
theorem ev_mem {l : List Cmd} {n : Int} {e : List UInt8} (h : ev l n = some e) : ∃ d ∈ l, d.1 = n ∧ d.2.2.1 = e := by
  unfold ev at h
  cases hf : l.find? (fun c => c.1 == n) with
  | none => rw [hf] at h; cases h
  | some d =>
    rw [hf] at h
    cases h
    exact ⟨d, List.mem_of_find?_eq_some hf, by simpa using List.find?_some hf, rfl⟩
def Cons (done : List Cmd) : Prop := ∀ d ∈ done, ev done d.1 = some d.2.2.1
theorem clash_ev {done : List Cmd} (h : Cons done) (c : Cmd) : clash done c = match ev done c.1 with | some e => !(e == c.2.2.1) | none => false := by
  unfold clash
  cases he : ev done c.1 with
  | none =>
    rw [List.any_eq_false]
    intro d hd hx
    simp only [Bool.and_eq_true, beq_iff_eq] at hx
    have := h d hd
    rw [hx.1, he] at this
    cases this
  | some e =>
    simp only
    cases hx : (e == c.2.2.1) with
    | true =>
      rw [Bool.not_true, List.any_eq_false]
      intro d hd hy
      simp only [Bool.and_eq_true, beq_iff_eq, Bool.not_eq_true'] at hy
      have := h d hd
      rw [hy.1, he] at this
      cases this
      rw [hy.2] at hx
      cases hx
    | false =>
      rw [Bool.not_false, List.any_eq_true]
      obtain ⟨d, hd, h1, h2⟩ := ev_mem he
      refine ⟨d, hd, ?_⟩
      rw [h1, h2, hx]
      simp
theorem Cons.snoc {done : List Cmd} (h : Cons done) {c : Cmd} (hc : clash done c = false) : Cons (done ++ [c]) := by
  intro d hd
  rw [ev_snoc]
  rw [clash_ev h] at hc
  rcases List.mem_append.1 hd with hd | hd
  · rw [h d hd]; rfl
  · rw [List.mem_singleton] at hd
    subst hd
    cases he : ev done d.1 with
    | none => simp
    | some e =>
      rw [he] at hc
      have : e = d.2.2.1 := by simpa using hc
      rw [this]; rfl
abbrev evG (m : List (Int × List UInt8)) (n : Int) : Option (List UInt8) := mapGet (.int .i64) .str m n
theorem gknown_body (xs done : List Cmd) (i : Int) (c : Cmd) (m : List (Int × List UInt8)) (h : Cons done) (hm : ∀ n, evG m n = ev done n) (hs : c.2.2.1.length < lenMax) :
    z0S_b0 xs i c m = some (bif cmdE done c != 0 then .inl ([], cmdE done c, ()) else .inr (mapPut (.int .i64) .str m c.1 c.2.2.1)) := by
  have hc := clash_ev h c
  have hmc := hm c.1
  unfold evG at hmc
  have e0 : cmdE done c = firstE [ckR c.1 1 999999999, ckR c.2.1 0 1, bif isNm c.2.2.1 then 0 else 8, bif clash done c then 30 else 0] := by
    unfold cmdE cmdF
    simp only [firstE_cons, firstE_nil, firstOf_zero, firstOf_assoc]
  unfold z0S_b0
  simp only [gcheckName_eq _ hs, Option.bind_some, within_eq, when_eq]
  rw [hmc]
  cases he : ev done c.1 with
  | none =>
    rw [he] at hc
    rw [hc] at e0
    simp only [Option.isSome_none, cond_false]
    rw [gfirst_eq _ (by simp [lenMax]), e0]
    simp only [Option.bind_some, cond_false]
    cases (firstE _ != 0) <;> rfl
  | some e =>
    rw [he] at hc
    simp only at hc
    rw [hc] at e0
    simp only [Option.isSome_some, cond_true, Option.getD_some]
    rw [gfirst_eq _ (by simp [lenMax]), e0]
    simp only [Option.bind_some]
    cases (firstE _ != 0) <;> rfl
theorem gknown_loop (xs : List Cmd) : ∀ (l done : List Cmd) (i : Int) (m : List (Int × List UInt8)), Cons done → (∀ n, evG m n = ev done n) → (∀ c ∈ l, c.2.2.1.length < lenMax) →
    (cmdsE done l ≠ 0 ∧ loopL (fun i__ e__ s__ => z0S_b0 xs i__ e__ s__) (fun s__ => z0S_f0 xs s__) i l m = some ([], cmdsE done l, ())) ∨
    (cmdsE done l = 0 ∧ ∃ m', (∀ n, evG m' n = ev (done ++ l) n) ∧ loopL (fun i__ e__ s__ => z0S_b0 xs i__ e__ s__) (fun s__ => z0S_f0 xs s__) i l m = some (m', 0, ()))
  | [], done, i, m, h, hm, hs => .inr ⟨rfl, m, by simpa using hm, rfl⟩
  | c :: l, done, i, m, h, hm, hs => by
    rw [loopL_cons, gknown_body xs done i c m h hm (hs c (by simp))]
    simp only [Option.bind_some, cmdsE]
    rw [firstOf]
    cases hx : (cmdE done c != 0) with
    | true => exact .inl ⟨by simpa using hx, rfl⟩
    | false =>
      have hcl : clash done c = false := by
        have : cmdE done c = 0 := by simpa using hx
        unfold cmdE firstOf at this
        cases hq : clash done c with
        | false => rfl
        | true =>
          rw [hq] at this
          by_cases h0 : cmdF c = 0
          · simp [h0] at this
          · simp [h0] at this
      have ih := gknown_loop xs l (done ++ [c]) (i + 1) (mapPut (.int .i64) .str m c.1 c.2.2.1) (h.snoc hcl) (fun n => by
        unfold evG
        rw [mapGet_put intKey, ev_snoc]
        have hmn := hm n
        unfold evG at hmn
        rw [hmn]
        have hcc := clash_ev h c
        rw [hcl] at hcc
        show (bif (n == c.1) then some c.2.2.1 else ev done n) = _
        by_cases hn : n = c.1
        · subst hn
          rw [beq_self_eq_true, cond_true, if_pos rfl]
          cases he : ev done c.1 with
          | none => rfl
          | some e =>
            rw [he] at hcc
            have : e = c.2.2.1 := by simpa using hcc.symm
            rw [this]; rfl
        · rw [show (n == c.1) = false by simpa using hn, show (c.1 == n) = false by simpa using fun e => hn e.symm]
          simp) (fun c hc => hs c (by simp [hc]))
      rw [List.append_assoc, List.singleton_append] at ih
      exact ih
theorem gknown_eq (l : List Cmd) (hs : ∀ c ∈ l, c.2.2.1.length < lenMax) :
    (ckCmds l ≠ 0 ∧ z0S_M l = some ([], ckCmds l, ())) ∨ (ckCmds l = 0 ∧ l.length ≤ 256 ∧ ∃ m', (∀ n, evG m' n = ev l n) ∧ z0S_M l = some (m', 0, ())) := by
  unfold z0S_M ckCmds
  by_cases h8 : 256 < l.length
  · rw [bifT (dec_true (show (l.length : Int) > 256 by omega)), if_pos h8]
    exact .inl ⟨by decide, rfl⟩
  · rw [bifF (dec_false (show ¬ (l.length : Int) > 256 by omega)), if_neg h8, bifT (dec_true (show l.length < lenMax by unfold lenMax; omega))]
    rcases gknown_loop l l [] 0 [] (fun d hd => by cases hd) (fun n => rfl) hs with h | ⟨h1, m', h2, h3⟩
    · exact .inl h
    · exact .inr ⟨h1, by omega, m', by simpa using h2, h3⟩
theorem pig : ∀ (n : Nat) (xs : List Int), (∀ k : Nat, k < n → ((k : Int) + 1) ∈ xs) → n ≤ xs.length
  | 0, _, _ => Nat.zero_le _
  | n + 1, xs, h => by
    have h1 := h n (by omega)
    have ih := pig n (xs.erase ((n : Int) + 1)) (fun k hk => (List.mem_erase_of_ne (by omega)).2 (h k (by omega)))
    have := List.length_erase_of_mem h1
    have := List.length_pos_of_mem h1
    omega
theorem ev_pig (l : List Cmd) (n : Nat) (h : ∀ k : Nat, k < n → (ev l ((k : Int) + 1)).isSome = true) : n ≤ l.length := by
  have := pig n (l.map fun c => c.1) (fun k hk => by
    have hs := h k hk
    cases he : ev l ((k : Int) + 1) with
    | none => rw [he] at hs; cases hs
    | some e =>
      obtain ⟨d, hd, h1, _⟩ := ev_mem he
      exact List.mem_map.2 ⟨d, hd, h1⟩)
  simpa using this
def evs (l : List Cmd) (n : Nat) : List (List UInt8) := (List.range n).map fun (k : Nat) => (ev l ((k : Int) + 1)).getD []
theorem evs_length (l : List Cmd) (n : Nat) : (evs l n).length = n := by simp [evs]
theorem evs_succ (l : List Cmd) (n : Nat) : evs l (n + 1) = evs l n ++ [(ev l ((n : Int) + 1)).getD []] := by simp [evs, List.range_succ]
def Aw (l : List Cmd) (n : Nat) : Prop := n ≤ l.length ∧ (∀ k : Nat, k < n → (ev l ((k : Int) + 1)).isSome = true) ∧ ev l ((n : Int) + 1) = none
theorem exec_loop (l : List Cmd) (hl : l.length ≤ 1000) (m' : List (Int × List UInt8)) (hm : ∀ n, evG m' n = ev l n) : ∀ (r k : Nat), (∀ j : Nat, j < k → (ev l ((j : Int) + 1)).isSome = true) → l.length + 2 ≤ k + r →
    ∃ n : Nat, Aw l n ∧ loopW (fun s__ => z05_b0 l s__.1 s__.2) r ((k : Int) + 1, evs l k) = some (evs l n, (n : Int) + 1, ()) ∧
      loopW (fun s__ => z07_b1 m' s__.1 s__.2.1 s__.2.2.1 s__.2.2.2) r ((k : Int) + 1, (ev l ((k : Int) + 1)).getD [], (ev l ((k : Int) + 1)).isSome, evs l k) = some (evs l n, (n : Int) + 1, 0, ())
  | 0, k, h, hr => by
    have := ev_pig l k h
    omega
  | r + 1, k, h, hr => by
    have hk := ev_pig l k h
    have hmem : memMax = 68719476736 := rfl
    have hlen : l.length < lenMax := by unfold lenMax; omega
    have hwr : IntKind.i64.wrap ((k : Int) + 1 + 1) = (k : Int) + 1 + 1 := wrapS (by omega) (by omega)
    have hr : z05_b0 l ((k : Int) + 1) (evs l k) = match ev l ((k : Int) + 1) with
        | some e => some (.inr ((k : Int) + 1 + 1, evs l k ++ [e]))
        | none => some (.inl (evs l k, (k : Int) + 1, ())) := by
      have hel := evs_length l k
      unfold z05_b0
      rw [find_eq l hlen, hwr]
      cases ev l ((k : Int) + 1) with
      | none => rfl
      | some e =>
        simp only [Option.bind_some, Bool.not_true, cond_false]
        rw [bifT (dec_true (show (evs l k).length + 1 ≤ memMax by omega))]
    simp only [loopW, hr]
    have hg : z07_b1 m' ((k : Int) + 1) ((ev l ((k : Int) + 1)).getD []) ((ev l ((k : Int) + 1)).isSome) (evs l k) = match ev l ((k : Int) + 1) with
        | some e => some (.inr ((k : Int) + 1 + 1, (ev l ((k : Int) + 1 + 1)).getD [], (ev l ((k : Int) + 1 + 1)).isSome, evs l k ++ [e]))
        | none => some (.inl (evs l k, (k : Int) + 1, 0, ())) := by
      have hel := evs_length l k
      have hmk := hm ((k : Int) + 1 + 1)
      unfold evG at hmk
      unfold z07_b1
      rw [hwr, hmk]
      cases ev l ((k : Int) + 1) with
      | none => rfl
      | some e =>
        simp only [Option.isSome_some, cond_true, Option.getD_some]
        rw [bifT (dec_true (show (evs l k).length + 1 ≤ memMax by omega))]
    rw [hg]
    cases he : ev l ((k : Int) + 1) with
    | none => exact ⟨k, ⟨hk, h, he⟩, rfl, rfl⟩
    | some e =>
      simp only [Option.bind_some]
      have ih := exec_loop l hl m' hm r (k + 1) (fun j hj => by
        by_cases hjk : j = k
        · subst hjk; rw [he]; rfl
        · exact h j (by omega)) (by omega)
      have ec : ((k + 1 : Nat) : Int) = (k : Int) + 1 := by omega
      rw [evs_succ, he, Option.getD_some, ec] at ih
      exact ih
theorem exec_eq (l : List Cmd) (hs : ∀ c ∈ l, c.2.2.1.length < lenMax) :
    (ckCmds l ≠ 0 ∧ z07_M l = some ([], 0, ckCmds l, ())) ∨
    (ckCmds l = 0 ∧ l.length ≤ 256 ∧ ∃ n, Aw l n ∧ z05_M l = some (evs l n, (n : Int) + 1, ()) ∧ z07_M l = some (evs l n, (n : Int) + 1, 0, ())) := by
  rcases gknown_eq l hs with ⟨h0, hk⟩ | ⟨h0, hl, m', hm, hk⟩
  · refine .inl ⟨h0, ?_⟩
    unfold z07_M
    rw [hk, Option.bind_some, bifT (show ((([] : List (Int × List UInt8)), ckCmds l, ()).2.1 != 0) = true by simpa using h0)]
  · refine .inr ⟨h0, hl, ?_⟩
    obtain ⟨n, h1, h2, h3⟩ := exec_loop l (by omega) m' hm wMax 0 (fun j hj => by omega) (by unfold wMax; omega)
    rw [show ((0 : Nat) : Int) + 1 = 1 by rfl, show evs l 0 = [] from rfl] at h2 h3
    refine ⟨n, h1, by unfold z05_M; exact h2, ?_⟩
    unfold z07_M
    have hm1 := hm 1
    unfold evG at hm1
    rw [hk, Option.bind_some, bifF (show ((m', (0 : Int), ()).2.1 != 0) = false from rfl), hm1]
    exact h3
def lostL (l : List Cmd) : Nat → Nat → List Int
  | _, 0 => []
  | k, m + 1 => (if (ev l ((k : Int) + 1)).isNone = true then [(k : Int) + 1] else []) ++ lostL l (k + 1) m
theorem glost_loop (l : List Cmd) (m' : List (Int × List UInt8)) (hm : ∀ n, evG m' n = ev l n) (last : Int) : ∀ (m k : Nat) (s : List Int), s.length + m ≤ 1000 → k + m ≤ 1000 →
    loopN (fun i__ s__ => z0X_b2 m' last i__ s__) (fun s__ => z0X_f2 m' last s__) m (k : Int) s = some (s ++ lostL l k m, 0, ())
  | 0, k, s, _, _ => by simp [loopN, lostL, z0X_f2]
  | m + 1, k, s, hs, hk => by
    have hmem : memMax = 68719476736 := rfl
    have hwr : IntKind.i64.wrap ((k : Int) + 1) = (k : Int) + 1 := wrapS (by omega) (by omega)
    have hb : z0X_b2 m' last (k : Int) s = some (.inr (s ++ (if (ev l ((k : Int) + 1)).isNone = true then [(k : Int) + 1] else []))) := by
      unfold z0X_b2
      have hmk := hm ((k : Int) + 1)
      unfold evG at hmk
      rw [hwr, hmk]
      cases he : ev l ((k : Int) + 1) with
      | none =>
        simp only [Option.isSome_none, Bool.not_false, cond_true]
        rw [bifT (dec_true (show s.length + 1 ≤ memMax by omega))]
        rfl
      | some e => simp
    unfold loopN
    simp only [hb, Option.bind_some]
    have ih := glost_loop l m' hm last m (k + 1) (s ++ (if (ev l ((k : Int) + 1)).isNone = true then [(k : Int) + 1] else [])) (by
      rw [List.length_append]
      split <;> simp <;> omega) (by omega)
    rw [show ((k + 1 : Nat) : Int) = (k : Int) + 1 by omega] at ih
    refine ih.trans ?_
    rw [List.append_assoc]
    rfl
theorem glost_eq (l : List Cmd) (last : Int) (hs : ∀ c ∈ l, c.2.2.1.length < lenMax) :
    z0X_M l last = some (if firstOf (ckCmds l) (ckR last 0 256) = 0 then (lostL l 0 last.toNat, 0, ()) else ([], firstOf (ckCmds l) (ckR last 0 256), ())) := by
  have hbad (v : List (Int × List UInt8)) (x : Int) (h : firstOf x (ckR last 0 256) ≠ 0) : (Option.bind (z0Q_M [x, (z0L last 0 256).fst]) fun (v1 : Int × Unit) => (bif v1.fst != (0 : Int) then (some (([], v1.fst, ()))) else (bif decide ((last) ≤ (9223372036854775807 : Int)) then loopN (fun i__ s__ => z0X_b2 v (last) i__ s__) (fun s__ => z0X_f2 v (last) s__) ((last) - 0).toNat 0 ([]) else none))) = some (([] : List Int), firstOf x (ckR last 0 256), ()) := by
    rw [within_eq, gfirst_eq _ (by simp [lenMax])]
    simp only [Option.bind_some, firstE_cons, firstE_nil, firstOf_zero]
    rw [bifT (by simpa using h)]
  unfold z0X_M
  rcases gknown_eq l hs with ⟨h0, hk⟩ | ⟨h0, hl, m', hm, hk⟩
  · have hne : firstOf (ckCmds l) (ckR last 0 256) ≠ 0 := by
      unfold firstOf
      rw [if_pos (by simpa using h0)]
      exact h0
    rw [hk, if_neg hne]
    exact hbad _ _ hne
  · rw [hk, h0]
    by_cases hne : firstOf 0 (ckR last 0 256) = 0
    · rw [if_pos hne]
      have hr : 0 ≤ last ∧ last ≤ 256 := by
        have : ckR last 0 256 = 0 := by unfold firstOf at hne; simpa using hne
        unfold ckR at this
        split at this
        · cases this
        · omega
      simp only [Option.bind_some]
      rw [within_eq, gfirst_eq _ (by simp [lenMax])]
      simp only [Option.bind_some, firstE_cons, firstE_nil, firstOf_zero, hne]
      rw [bifF (show ((0 : Int) != 0) = false from rfl), bifT (dec_true (by omega))]
      have := glost_loop l m' hm last last.toNat 0 [] (by simp; omega) (by omega)
      rw [show ((0 : Nat) : Int) = 0 from rfl, List.nil_append] at this
      rw [show (last - 0).toNat = last.toNat by omega]
      exact this
    · rw [if_neg hne]
      exact hbad _ _ hne
end Go.Tw
end
section
set_option linter.all false
set_option maxRecDepth 100000
namespace Go.Tw
open Go.Vx Go.Vx.B Go.Proofs
def evF (s : List (List UInt8)) (t : Tra) : List (List UInt8) := bif s.contains t.2.1 then s else s ++ [t.2.1]
def evts (l : List Tra) : List (List UInt8) := l.foldl evF []
section
variable {α β σ : Type}
end
theorem firstOf_nz {a : Int} (h : a ≠ 0) (x : Int) : firstOf a x = a := by
  unfold firstOf
  rw [if_pos (by simpa using h)]
def seqE (e : Int) (k : Option (Int × Unit)) : Option (Int × Unit) := bif e != 0 then some (e, ()) else k
theorem seqE_nz {a : Int} (h : a ≠ 0) (k : Option (Int × Unit)) : seqE a k = some (a, ()) := bifT (by simpa using h)
theorem seqE_some (a b : Int) : seqE a (some (b, ())) = some (firstOf a b, ()) := by
  by_cases h : a = 0
  · subst h; rfl
  · rw [firstOf_nz h, seqE_nz h]
theorem loopL_seq {α : Type} {body : Int → α → Unit → Option ((Int × Unit) ⊕ Unit)} {fin : Unit → Option (Int × Unit)} {i : Int} {e : α} {l : List α} {a : Int} (hb : body i e () = some (bif a != 0 then .inl (a, ()) else .inr ())) :
    loopL body fin i (e :: l) () = seqE a (loopL body fin (i + 1) l ()) := by
  rw [loopL_cons, hb]
  unfold seqE
  cases (a != 0) <;> rfl
end Go.Tw
end
section
set_option linter.all false
set_option maxRecDepth 100000
namespace Go.Tw
open Go.Vx Go.Vx.B Go.Proofs
theorem ckR_zero {n lo hi : Int} (h : ckR n lo hi = 0) : lo ≤ n ∧ n ≤ hi := by
  unfold ckR at h
  split at h
  · cases h
  · omega
theorem firstOf_eq_zero {a b : Int} : firstOf a b = 0 ↔ a = 0 ∧ b = 0 := by
  unfold firstOf
  by_cases h : a = 0 <;> simp [h]
structure Valid (c : Cha) : Prop where
  pos : 0 < c.1.length
  few : c.1.length ≤ 16
  parent : ∀ (i : Nat) (s : Sta), c.1[i]? = some s → -1 ≤ s.2.1 ∧ s.2.1 < i
  initial : ∀ (i : Nat) (s : Sta), c.1[i]? = some s → s.2.2.1 = -1 ∨ ((i : Int) < s.2.2.1 ∧ s.2.2.1 < c.1.length)
  moves : c.2.1.length ≤ 48
  tra : ∀ t ∈ c.2.1, 0 ≤ t.1 ∧ t.1 < c.1.length ∧ 0 ≤ t.2.2.1 ∧ t.2.2.1 < c.1.length ∧ isNm t.2.1 = true ∧ 0 ≤ t.2.2.2.1 ∧ t.2.2.2.1 ≤ 15 ∧ 0 ≤ t.2.2.2.2.1 ∧ t.2.2.2.2.1 ≤ 15
  kinds : (evts c.2.1).length ≤ 8
end Go.Tw
end
section
set_option linter.all false
set_option maxRecDepth 100000
namespace Go.Tw
open Go.Vx Go.Vx.B Go.Proofs
section
variable {α β γ σ : Type}
theorem loopL_filter {body : Int → α → List α → Option (β ⊕ List α)} {fin : List α → Option β} (p : α → Bool) :
    ∀ (l : List α) (i : Int) (s : List α), s.length + l.length ≤ memMax → (∀ i e s, e ∈ l → s.length + 1 ≤ memMax → body i e s = some (.inr (bif p e then s ++ [e] else s))) → loopL body fin i l s = fin (s ++ l.filter p)
  | [], i, s, _, _ => by simp [loopL_nil]
  | e :: l, i, s, hl, h => by
    simp only [List.length_cons] at hl
    rw [loopL_cons, h i e s (by simp) (by omega)]
    simp only [Option.bind_some]
    cases hp : p e with
    | true =>
      rw [cond_true, loopL_filter p l (i + 1) (s ++ [e]) (by simp; omega) fun i e s he hs => h i e s (by simp [he]) hs]
      simp [List.filter_cons, hp]
    | false =>
      rw [cond_false, loopL_filter p l (i + 1) s (by omega) fun i e s he hs => h i e s (by simp [he]) hs]
      simp [List.filter_cons, hp]
end
end Go.Tw
end
