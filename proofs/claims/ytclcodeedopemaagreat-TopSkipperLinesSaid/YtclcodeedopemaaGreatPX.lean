import Derived.Test.YtclcodeedopemaaGreatBB
import Derived.Test.YtclcodeedopemaaGreatBC
section
set_option linter.all false
set_option maxRecDepth 100000
namespace Go.Tw
open Go.Vx Go.Vx.B Go.Proofs
section
variable {α β γ σ : Type}
theorem y24 {body : Int → α → σ → Option (β ⊕ σ)} {fin : σ → Option β} {i : Int} {s : σ} : yE body fin i [] s = fin s := rfl
theorem yZ {body : Int → α → σ → Option (β ⊕ σ)} {fin : σ → Option β} {i : Int} {e : α} {l : List α} {s : σ} : yE body fin i (e :: l) s = (body i e s).bind fun z => match z with
    | .inl y => some y
    | .inr s' => yE body fin (i + 1) l s' := rfl
theorem y26 {body : Int → α → Unit → Option (β ⊕ Unit)} {fin : Unit → Option β} (p : α → Option β) :
    ∀ (l : List α) (i : Int), (∀ i e, e ∈ l → body i e () = some (match p e with | some y => .inl y | none => .inr ())) → yE body fin i l () = match l.findSome? p with | some y => some y | none => fin ()
  | [], i, _ => rfl
  | e :: l, i, h => by
    rw [yZ, h i e (by simp), List.findSome?_cons]
    cases p e with
    | none => exact y26 p l (i + 1) fun i e he => h i e (by simp [he])
    | some y => rfl
theorem y1z {body : Int → α → List γ → Option (β ⊕ List γ)} {fin : List γ → Option β} (f : α → γ) :
    ∀ (l : List α) (i : Int) (s : List γ), s.length + l.length ≤ memMax → (∀ i e s, e ∈ l → s.length + 1 ≤ memMax → body i e s = some (.inr (s ++ [f e]))) → yE body fin i l s = fin (s ++ l.map f)
  | [], i, s, _, _ => by simp [y24]
  | e :: l, i, s, hl, h => by
    simp only [List.length_cons] at hl
    rw [yZ, h i e s (by simp) (by omega)]
    simp only [Option.bind_some]
    rw [y1z f l (i + 1) (s ++ [f e]) (by simp; omega) fun i e s he hs => h i e s (by simp [he]) hs]
    simp
end
theorem y6 {p : Prop} [Decidable p] (h : p) : decide p = true := decide_eq_true h
theorem yF {p : Prop} [Decidable p] (h : ¬ p) : decide p = false := decide_eq_false h
theorem bifT {α : Type} {c : Bool} {a b : α} (h : c = true) : (bif c then a else b) = a := by rw [h]; rfl
theorem bifF {α : Type} {c : Bool} {a b : α} (h : c = false) : (bif c then a else b) = b := by rw [h]; rfl
def ckR (n lo hi : Int) : Int := if n < lo ∨ hi < n then 3 else 0
def y0x (l : List Int) : Int := (l.find? (· != 0)).getD 0
theorem y49 (n lo hi : Int) : za n lo hi = (ckR n lo hi, ()) := by
  unfold za ckR
  by_cases h1 : n < lo
  · rw [bifT (y6 h1), if_pos (.inl h1)]
  · rw [bifF (yF h1)]
    by_cases h2 : n > hi
    · rw [bifT (y6 h2), if_pos (.inr h2)]
    · rw [bifF (yF h2), if_neg (by omega)]
theorem y2k (c : Bool) (e : Int) : z0L c e = (bif c then e else 0, ()) := by
  unfold z0L
  cases c <;> rfl
theorem y2y (n lo hi : Int) : z07 n lo hi = (ckR n lo hi, ()) := by
  unfold z07 ckR
  by_cases h1 : n < lo
  · rw [bifT (y6 h1), y2k, cond_true, if_pos (.inl h1)]
  · rw [bifF (yF h1), y2k]
    by_cases h2 : n > hi
    · rw [y6 h2, cond_true, if_pos (.inr h2)]
    · rw [yF h2, cond_false, if_neg (by omega)]
theorem y4x (l : List Int) : l.findSome? (fun e => if e != 0 then some (e, ()) else none) = (l.find? (· != 0)).map fun e => (e, ()) := by
  induction l with
  | nil => rfl
  | cons e l ih =>
    rw [List.findSome?_cons, List.find?_cons]
    cases he : (e != 0) with
    | true => rfl
    | false => simpa using ih
theorem y01 (l : List Int) (h : l.length < lenMax) : y0s l = some (y0x l, ()) := by
  unfold y0s
  rw [bifT (y6 h), y26 (fun e => if e != 0 then some (e, ()) else none) l 0 (fun i e _ => by
    unfold yDH
    cases he : (e != 0) <;> rfl), y4x]
  unfold y0x yCK
  cases l.find? (· != 0) <;> rfl
theorem y1l {α : Type} (l : List α) (i : Nat) : idx l (i : Int) = l[i]? := by
  unfold idx
  rw [if_pos (Int.natCast_nonneg i)]
  rfl
theorem y6N {α β : Type} {body : Int → α → Unit → Option (β ⊕ Unit)} {fin : Unit → Option β} (xs : List α) (p : α → Option β) :
    ∀ (l done : List α), xs = done ++ l → (∀ (i : Nat) e, xs[i]? = some e → body (i : Int) e () = some (match p e with | some y => .inl y | none => .inr ())) →
      yE body fin (done.length : Int) l () = match l.findSome? p with | some y => some y | none => fin ()
  | [], done, _, _ => rfl
  | e :: l, done, hx, h => by
    rw [yZ, h done.length e (by rw [hx]; simp), List.findSome?_cons]
    cases p e with
    | none =>
      have := y6N (body := body) (fin := fin) xs p l (done ++ [e]) (by rw [hx]; simp) h
      simp only [List.length_append, List.length_cons, List.length_nil] at this
      exact this
    | some y => rfl
theorem y9r (l : List Int) (h : l.length < lenMax) : y9g l = some (y0x l, ()) := by
  unfold y9g
  have := y6N (body := fun i__ e__ s__ => y9z l i__ e__) (fin := fun s__ => yAl l) l (fun e => if e != 0 then some (e, ()) else none) l [] rfl (fun i e hi => by
    unfold y9z
    cases he : (e != 0) with
    | true => rw [y1l, hi]; rfl
    | false => rfl)
  rw [bifT (y6 h)]
  refine this.trans ?_
  rw [y4x]
  unfold y0x yAl
  cases l.find? (· != 0) <;> rfl
def y3z (c : Nat) : Bool := decide (65 ≤ c ∧ c ≤ 90 ∨ 97 ≤ c ∧ c ≤ 122)
def y6J (c : Nat) : Bool := decide (48 ≤ c ∧ c ≤ 57 ∨ c = 95)
def nmOk : Bool → List UInt8 → Bool
  | _, [] => true
  | first, c :: l => (y3z c.toNat || (!first && y6J c.toNat)) && nmOk false l
def isNm (s : List UInt8) : Bool := nmOk true s && decide (0 < s.length ∧ s.length ≤ 24)
theorem y7q : ∀ (s0 s : List UInt8) (i : Int), 0 ≤ i → yE (fun i__ e__ s__ => y81 s0 i__ e__) (fun s__ => yD7 s0) i s () = some (nmOk (decide (i = 0)) s, ())
  | s0, [], i, _ => rfl
  | s0, c :: l, i, hi => by
    rw [yZ]
    have ih := y7q s0 l (i + 1) (by omega)
    have e0 : decide (i + 1 = 0) = false := yF (by omega)
    rw [e0] at ih
    unfold nmOk
    have hb : y81 s0 i c = some (if (y3z c.toNat || (!decide (i = 0) && y6J c.toNat)) = true then .inr () else .inl (false, ())) := by
      unfold y81 y4z y3z y6J
      have g3 : (i == 0) = decide (i = 0) := by by_cases h : i = 0 <;> simp [h]
      have g4 : ((c.toNat : Int) != 95) = !decide ((c.toNat : Int) = 95) := by by_cases h : (c.toNat : Int) = 95 <;> simp [h]
      rw [g3, g4]
      by_cases h1 : (97 : Int) ≤ c.toNat <;> by_cases h2 : (c.toNat : Int) ≤ 122 <;> by_cases h3 : (65 : Int) ≤ c.toNat <;> by_cases h4 : (c.toNat : Int) ≤ 90 <;> by_cases h5 : (c.toNat : Int) < 48 <;> by_cases h6 : (c.toNat : Int) > 57 <;> by_cases h7 : (c.toNat : Int) = 95 <;> by_cases h8 : i = 0 <;>
        first
        | omega
        | (have g1 : (decide (65 ≤ c.toNat ∧ c.toNat ≤ 90 ∨ 97 ≤ c.toNat ∧ c.toNat ≤ 122)) = decide ((65 : Int) ≤ c.toNat ∧ (c.toNat : Int) ≤ 90 ∨ (97 : Int) ≤ c.toNat ∧ (c.toNat : Int) ≤ 122) := by
            apply decide_eq_decide.2; omega
           have g2 : (decide (48 ≤ c.toNat ∧ c.toNat ≤ 57 ∨ c.toNat = 95)) = decide (¬ (c.toNat : Int) < 48 ∧ ¬ (c.toNat : Int) > 57 ∨ (c.toNat : Int) = 95) := by
            apply decide_eq_decide.2; omega
           rw [g1, g2]
           simp [h1, h2, h3, h4, h5, h6, h7, h8])
    rw [hb]
    simp only [Option.bind_some]
    by_cases hc : (y3z c.toNat || (!decide (i = 0) && y6J c.toNat)) = true
    · rw [if_pos hc, hc, Bool.true_and]
      exact ih
    · rw [if_neg hc, Bool.eq_false_iff.2 hc]
      rfl
theorem yI4 (s : List UInt8) : yBe s = some (isNm s, ()) := by
  unfold yBe isNm
  by_cases h0 : s.length = 0
  · have : ((s.length : Int) == 0) = true := by simp [h0]
    rw [bifT this, show decide (0 < s.length ∧ s.length ≤ 24) = false from yF (by omega), Bool.and_false]
  · have : ((s.length : Int) == 0) = false := by simpa using h0
    rw [bifF this]
    by_cases h1 : 24 < s.length
    · rw [bifT (y6 (by omega)), show decide (0 < s.length ∧ s.length ≤ 24) = false from yF (by omega), Bool.and_false]
    · rw [bifF (yF (show ¬ ((s.length : Int) > 24) by omega)), bifT (y6 (show s.length < lenMax by unfold lenMax; omega)), y7q s s 0 (by omega), y6 rfl]
      rw [show decide (0 < s.length ∧ s.length ≤ 24) = true from y6 ⟨by omega, by omega⟩, Bool.and_true]
theorem yJX {bs : List UInt8} {i : Nat} {c : UInt8} (h : bs[i]? = some c) : (⟨bs.toArray⟩ : ByteArray).get! i = c := by
  show bs.toArray[i]! = c
  rw [getElem!_def]
  simp [h]
theorem yF5 {bs : List UInt8} {i : Nat} {c : UInt8} (h : bs[i]? = some c) (hc : c.toNat < 128) : yg bs (i : Int) = ((c.toNat : Int), (i : Int) + 1) := by
  unfold yg Utf8.decode
  have h0 : (⟨bs.toArray⟩ : ByteArray).get! ((i : Int).toNat + 0) = c := by rw [Int.toNat_natCast, Nat.add_zero]; exact yJX h
  simp only [h0]
  rw [if_pos hc]
  rfl
theorem yGR {bs : List UInt8} {i : Nat} {c : UInt8} (h : bs[i]? = some c) (hc : 128 ≤ c.toNat) : 128 ≤ (yg bs (i : Int)).1 := by
  unfold yg Utf8.decode
  have h0 : (⟨bs.toArray⟩ : ByteArray).get! ((i : Int).toNat + 0) = c := by rw [Int.toNat_natCast, Nat.add_zero]; exact yJX h
  simp only [h0]
  rw [if_neg (by omega)]
  have he : Utf8.runeError = 65533 := rfl
  split
  · split
    · rename_i h2; show (128 : Int) ≤ ((_ : Nat) : Int); omega
    · rw [he]; decide
  · split
    · split
      · rename_i h2; simp only [Bool.and_eq_true, decide_eq_true_eq] at h2; show (128 : Int) ≤ ((_ : Nat) : Int); omega
      · rw [he]; decide
    · split
      · split
        · rename_i h2; simp only [Bool.and_eq_true, decide_eq_true_eq] at h2; show (128 : Int) ≤ ((_ : Nat) : Int); omega
        · rw [he]; decide
      · rw [he]; decide
def y9d (r : Int) : Bool := decide (65 ≤ r ∧ r ≤ 90 ∨ 97 ≤ r ∧ r ≤ 122)
def yCI (r : Int) : Bool := decide (48 ≤ r ∧ r ≤ 57 ∨ r = 95)
theorem yDd (s str : List UInt8) (pos : Int) : yEe s str pos = some (if (y9d (yg str pos).1 || (!decide (pos = 0) && yCI (yg str pos).1)) = true then .inr () else .inl (false, ())) := by
  unfold yEe y6D yA9 y9d yCI
  generalize (yg str pos).1 = r
  have g3 : (pos == 0) = decide (pos = 0) := by by_cases h : pos = 0 <;> simp [h]
  have g4 : (r == 95) = decide (r = 95) := by by_cases h : r = 95 <;> simp [h]
  rw [g3, g4]
  by_cases h1 : r ≥ 97 <;> by_cases h2 : r ≤ 122 <;> by_cases h3 : r ≥ 65 <;> by_cases h4 : r ≤ 90 <;> by_cases h5 : r ≥ 48 <;> by_cases h6 : r ≤ 57 <;> by_cases h7 : r = 95 <;> by_cases h8 : pos = 0 <;>
    first
    | omega
    | simp [h1, h2, h3, h4, h5, h6, h7, h8]
theorem y8E (s : List UInt8) : ∀ (m i : Nat), s.length ≤ i + m → i ≤ s.length →
    y7E s (fun i__ s__ => yEe s s i__) (fun s__ => yE7 s s) m (i : Int) () = bif nmOk (decide (i = 0)) (s.drop i) then yE7 s s else some (false, ())
  | m, i, hm, hi => by
    by_cases hl : i = s.length
    · have e1 : s.drop i = [] := List.drop_eq_nil_of_le (by omega)
      have e2 : decide ((i : Int) < (s.length : Int)) = false := yF (by omega)
      rw [e1]
      cases m <;> (unfold y7E; rw [bifF e2]; rfl)
    · have hlt : i < s.length := by omega
      obtain ⟨m, rfl⟩ : ∃ k, m = k + 1 := ⟨m - 1, by omega⟩
      have hd : s.drop i = s[i] :: s.drop (i + 1) := (List.getElem_cons_drop (h := hlt)).symm
      have hg : s[i]? = some s[i] := List.getElem?_eq_getElem hlt
      have e0 : decide ((i : Int) = 0) = decide (i = 0) := decide_eq_decide.2 (by omega)
      unfold y7E
      rw [bifT (y6 (show (i : Int) < (s.length : Int) by omega)), yDd, hd, e0]
      simp only [Option.bind_some]
      by_cases hc : s[i].toNat < 128
      · rw [yF5 hg hc]
        have e1 : y9d (s[i].toNat : Int) = y3z s[i].toNat := decide_eq_decide.2 (by omega)
        have e2 : yCI (s[i].toNat : Int) = y6J s[i].toNat := decide_eq_decide.2 (by omega)
        simp only [e1, e2, nmOk]
        by_cases hb : (y3z s[i].toNat || (!decide (i = 0) && y6J s[i].toNat)) = true
        · rw [if_pos hb, hb, Bool.true_and]
          have ih := y8E s m (i + 1) (by omega) (by omega)
          have e3 : decide (i + 1 = 0) = false := yF (by omega)
          rw [e3, show ((i + 1 : Nat) : Int) = (i : Int) + 1 by omega] at ih
          exact ih
        · rw [if_neg hb, Bool.eq_false_iff.2 hb, Bool.false_and]
          rfl
      · have h1 := yGR hg (by omega)
        have e1 : y9d (yg s (i : Int)).1 = false := yF (by omega)
        have e2 : yCI (yg s (i : Int)).1 = false := yF (by omega)
        have e3 : y3z s[i].toNat = false := yF (by omega)
        have e4 : y6J s[i].toNat = false := yF (by omega)
        simp [e1, e2, nmOk, e3, e4]
theorem yHx (s : List UInt8) (h : s.length < lenMax) : zz_M s = some (isNm s, ()) := by
  unfold zz_M
  have := y8E s s.length 0 (by omega) (by omega)
  rw [List.drop_zero, show decide (0 = 0) = true from rfl] at this
  rw [bifT (y6 h)]
  refine (show _ = _ from this).trans ?_
  unfold isNm yE7
  cases hn : nmOk true s with
  | false => rfl
  | true =>
    rw [cond_true, Bool.true_and]
    cases s with
    | nil => rfl
    | cons c l =>
      have e : decide (((c :: l).length : Int) ≤ 24) = decide (0 < (c :: l).length ∧ (c :: l).length ≤ 24) := decide_eq_decide.2 (by simp only [List.length_cons]; omega)
      rw [← e]
      rfl
def yC (a b : Int) : Int := if a != 0 then a else b
theorem yk : y0x [] = 0 := rfl
theorem yQ (a : Int) (l : List Int) : y0x (a :: l) = yC a (y0x l) := by
  unfold y0x yC
  rw [List.find?_cons]
  cases h : (a != 0) <;> rfl
theorem yX (a : Int) : yC a 0 = a := by
  unfold yC
  by_cases h : a = 0 <;> simp [h]
theorem yKL {α : Type} (p : List α) (x : α) (r : List α) (i : Int) (hi : i = (p.length : Int)) : idx (p ++ x :: r) i = some x := by
  subst hi
  rw [y1l]
  simp
theorem y7h {α β : Type} {body : Int → α → Unit → Option (β ⊕ Unit)} {fin : Unit → Option β} (l : List α) (h : ∀ (p : List α) (x : α) (r : List α), l = p ++ x :: r → body (p.length : Int) x () = some (.inr ())) :
    ∀ (r p : List α) (i : Int), l = p ++ r → i = (p.length : Int) → yE body fin i r () = fin ()
  | [], p, i, _, _ => rfl
  | x :: r, p, i, hl, hi => by
    rw [yZ, hi, h p x r hl]
    simp only [Option.bind_some]
    exact y7h l h r (p ++ [x]) _ (by rw [hl]; simp) (by simp)
theorem y4f (l : List Int) (h : l.length < lenMax) : zn_M l l = some (true, ()) := by
  unfold zn_M
  rw [bifF (show ((l.length : Int) != (l.length : Int)) = false by simp), bifT (y6 h), y7h l (fun p x r e => by
    unfold yHX
    rw [e, yKL p x r _ rfl]
    simp only [Option.bind_some]
    rw [bifF (show (x != x) = false by simp)]) l [] 0 rfl rfl]
  rfl
theorem y2P (a b c : Int) : yC (yC a b) c = yC a (yC b c) := by
  unfold yC
  by_cases ha : a = 0 <;> by_cases hb : b = 0 <;> simp [ha, hb]
theorem y2H (s : List UInt8) : zi_M s = some (bif isNm s then 0 else 8, ()) := by
  unfold zi_M zi_m
  rw [yI4]
  cases isNm s <;> rfl
theorem y1O (s : List UInt8) (h : s.length < lenMax) : zm_M s = some (bif isNm s then 0 else 8, ()) := by
  unfold zm_M zm_m
  rw [yHx s h]
  simp only [Option.bind_some, y2k]
  cases isNm s <;> rfl
theorem y3b {k v : Ty} (hk : ∀ x y : k.den, eqV k x y = true ↔ x = y) : ∀ (m : List (k.den × v.den)) (x : k.den) (y : v.den) (n : k.den), yO k v (yx k v m x y) n = bif eqV k n x then some y else yO k v m n
  | [], x, y, n => rfl
  | p :: m, x, y, n => by
    unfold yx
    cases h : eqV k x p.1 with
    | true =>
      have hx := (hk _ _).1 h
      simp only [cond_true, yO]
      cases hn : eqV k n x with
      | true => rfl
      | false => rw [hx] at hn; rw [hn]; rfl
    | false =>
      simp only [cond_false, yO]
      rw [y3b hk m x y n]
      cases hp : eqV k n p.1 with
      | false => rfl
      | true =>
        have e := (hk _ _).1 hp
        cases hn : eqV k n x with
        | false => rfl
        | true =>
          have e2 := (hk _ _).1 hn
          rw [(hk _ _).2 (e2.symm.trans e)] at h
          cases h
theorem yJ0 : ∀ x y : (Ty.int .i64).den, eqV (.int .i64) x y = true ↔ x = y := fun x y => by
  show ((x : Int) == y) = true ↔ x = y
  exact beq_iff_eq
theorem yOY : ∀ x y : Ty.str.den, eqV .str x y = true ↔ x = y := fun x y => by
  show ((x : List UInt8) == y) = true ↔ x = y
  exact beq_iff_eq
theorem y2e {i : Int} (h0 : -9223372036854775808 ≤ i) (h1 : i ≤ 9223372036854775807) : IntKind.i64.wrap i = i := by
  unfold IntKind.wrap IntKind.bits IntKind.signed
  simp only [Nat.reduceSub, Int.reducePow, decide_eq_true_eq, Bool.true_and]
  split <;> omega
end Go.Tw
end
section
set_option linter.all false
set_option maxRecDepth 100000
namespace Go.Tw
open Go.Vx Go.Vx.B Go.Proofs
def ev (l : List Cmd) (n : Int) : Option (List UInt8) := (l.find? fun c => c.1 == n).map fun c => c.2.2.1
def y5W (done : List Cmd) (c : Cmd) : Bool := done.any fun d => d.1 == c.1 && !(d.2.2.1 == c.2.2.1)
def cmdF (c : Cmd) : Int := y0x [ckR c.1 1 999999999, ckR c.2.1 0 1, bif isNm c.2.2.1 then 0 else 8]
def cmdE (done : List Cmd) (c : Cmd) : Int := yC (cmdF c) (bif y5W done c then 30 else 0)
def y8a : List Cmd → List Cmd → Int
  | _, [] => 0
  | done, c :: l => yC (cmdE done c) (y8a (done ++ [c]) l)
def y2m (l : List Cmd) : Int := if 256 < l.length then 5 else y8a [] l
theorem yFJ (done : List Cmd) (c : Cmd) (n : Int) : ev (done ++ [c]) n = (ev done n).or (if (c.1 == n) = true then some c.2.2.1 else none) := by
  unfold ev
  rw [List.find?_append]
  cases done.find? (fun c => c.1 == n) with
  | some d => rfl
  | none =>
    simp only [Option.none_or, List.find?_cons, List.find?_nil, Option.map_none]
    cases (c.1 == n) <;> rfl
theorem yFC {l : List Cmd} {n : Int} {e : List UInt8} (h : ev l n = some e) : ∃ d ∈ l, d.1 = n ∧ d.2.2.1 = e := by
  unfold ev at h
  cases hf : l.find? (fun c => c.1 == n) with
  | none => rw [hf] at h; cases h
  | some d =>
    rw [hf] at h
    cases h
    exact ⟨d, List.mem_of_find?_eq_some hf, by simpa using List.find?_some hf, rfl⟩
def Cons (done : List Cmd) : Prop := ∀ d ∈ done, ev done d.1 = some d.2.2.1
theorem y8T {done : List Cmd} (h : Cons done) (c : Cmd) : y5W done c = match ev done c.1 with | some e => !(e == c.2.2.1) | none => false := by
  unfold y5W
  cases he : ev done c.1 with
  | none =>
    rw [List.any_eq_false]
    intro d hd hx
    simp only [Bool.and_eq_true, beq_iff_eq] at hx
    have := h d hd
    rw [hx.1, he] at this
    cases this
  | some e =>
    simp only
    cases hx : (e == c.2.2.1) with
    | true =>
      rw [Bool.not_true, List.any_eq_false]
      intro d hd hy
      simp only [Bool.and_eq_true, beq_iff_eq, Bool.not_eq_true'] at hy
      have := h d hd
      rw [hy.1, he] at this
      cases this
      rw [hy.2] at hx
      cases hx
    | false =>
      rw [Bool.not_false, List.any_eq_true]
      obtain ⟨d, hd, h1, h2⟩ := yFC he
      refine ⟨d, hd, ?_⟩
      rw [h1, h2, hx]
      simp
theorem Cons.snoc {done : List Cmd} (h : Cons done) {c : Cmd} (hc : y5W done c = false) : Cons (done ++ [c]) := by
  intro d hd
  rw [yFJ]
  rw [y8T h] at hc
  rcases List.mem_append.1 hd with hd | hd
  · rw [h d hd]; rfl
  · rw [List.mem_singleton] at hd
    subst hd
    cases he : ev done d.1 with
    | none => simp
    | some e =>
      rw [he] at hc
      have : e = d.2.2.1 := by simpa using hc
      rw [this]; rfl
abbrev evG (m : List (Int × List UInt8)) (n : Int) : Option (List UInt8) := yO (.int .i64) .str m n
theorem yBb (xs done : List Cmd) (i : Int) (c : Cmd) (m : List (Int × List UInt8)) (h : Cons done) (hm : ∀ n, evG m n = ev done n) (hs : c.2.2.1.length < lenMax) :
    y70 xs i c m = some (bif cmdE done c != 0 then .inl ([], cmdE done c, ()) else .inr (yx (.int .i64) .str m c.1 c.2.2.1)) := by
  have hc := y8T h c
  have hmc := hm c.1
  unfold evG at hmc
  have e0 : cmdE done c = y0x [ckR c.1 1 999999999, ckR c.2.1 0 1, bif isNm c.2.2.1 then 0 else 8, bif y5W done c then 30 else 0] := by
    unfold cmdE cmdF
    simp only [yQ, yk, yX, y2P]
  unfold y70
  simp only [y1O _ hs, Option.bind_some, y2y, y2k]
  rw [hmc]
  cases he : ev done c.1 with
  | none =>
    rw [he] at hc
    rw [hc] at e0
    simp only [Option.isSome_none, cond_false]
    rw [y01 _ (by simp [lenMax]), e0]
    simp only [Option.bind_some, cond_false]
    cases (y0x _ != 0) <;> rfl
  | some e =>
    rw [he] at hc
    simp only at hc
    rw [hc] at e0
    simp only [Option.isSome_some, cond_true, Option.getD_some]
    rw [y01 _ (by simp [lenMax]), e0]
    simp only [Option.bind_some]
    cases (y0x _ != 0) <;> rfl
theorem y6q (xs : List Cmd) : ∀ (l done : List Cmd) (i : Int) (m : List (Int × List UInt8)), Cons done → (∀ n, evG m n = ev done n) → (∀ c ∈ l, c.2.2.1.length < lenMax) →
    (y8a done l ≠ 0 ∧ yE (fun i__ e__ s__ => y70 xs i__ e__ s__) (fun s__ => yAD xs s__) i l m = some ([], y8a done l, ())) ∨
    (y8a done l = 0 ∧ ∃ m', (∀ n, evG m' n = ev (done ++ l) n) ∧ yE (fun i__ e__ s__ => y70 xs i__ e__ s__) (fun s__ => yAD xs s__) i l m = some (m', 0, ()))
  | [], done, i, m, h, hm, hs => .inr ⟨rfl, m, by simpa using hm, rfl⟩
  | c :: l, done, i, m, h, hm, hs => by
    rw [yZ, yBb xs done i c m h hm (hs c (by simp))]
    simp only [Option.bind_some, y8a]
    rw [yC]
    cases hx : (cmdE done c != 0) with
    | true => exact .inl ⟨by simpa using hx, rfl⟩
    | false =>
      have hcl : y5W done c = false := by
        have : cmdE done c = 0 := by simpa using hx
        unfold cmdE yC at this
        cases hq : y5W done c with
        | false => rfl
        | true =>
          rw [hq] at this
          by_cases h0 : cmdF c = 0
          · simp [h0] at this
          · simp [h0] at this
      have ih := y6q xs l (done ++ [c]) (i + 1) (yx (.int .i64) .str m c.1 c.2.2.1) (h.snoc hcl) (fun n => by
        unfold evG
        rw [y3b yJ0, yFJ]
        have hmn := hm n
        unfold evG at hmn
        rw [hmn]
        have hcc := y8T h c
        rw [hcl] at hcc
        show (bif (n == c.1) then some c.2.2.1 else ev done n) = _
        by_cases hn : n = c.1
        · subst hn
          rw [beq_self_eq_true, cond_true, if_pos rfl]
          cases he : ev done c.1 with
          | none => rfl
          | some e =>
            rw [he] at hcc
            have : e = c.2.2.1 := by simpa using hcc.symm
            rw [this]; rfl
        · rw [show (n == c.1) = false by simpa using hn, show (c.1 == n) = false by simpa using fun e => hn e.symm]
          simp) (fun c hc => hs c (by simp [hc]))
      rw [List.append_assoc, List.singleton_append] at ih
      exact ih
theorem yAa (l : List Cmd) (hs : ∀ c ∈ l, c.2.2.1.length < lenMax) :
    (y2m l ≠ 0 ∧ y6K l = some ([], y2m l, ())) ∨ (y2m l = 0 ∧ l.length ≤ 256 ∧ ∃ m', (∀ n, evG m' n = ev l n) ∧ y6K l = some (m', 0, ())) := by
  unfold y6K y2m
  by_cases h8 : 256 < l.length
  · rw [bifT (y6 (show (l.length : Int) > 256 by omega)), if_pos h8]
    exact .inl ⟨by decide, rfl⟩
  · rw [bifF (yF (show ¬ (l.length : Int) > 256 by omega)), if_neg h8, bifT (y6 (show l.length < lenMax by unfold lenMax; omega))]
    rcases y6q l l [] 0 [] (fun d hd => by cases hd) (fun n => rfl) hs with h | ⟨h1, m', h2, h3⟩
    · exact .inl h
    · exact .inr ⟨h1, by omega, m', by simpa using h2, h3⟩
theorem pig : ∀ (n : Nat) (xs : List Int), (∀ k : Nat, k < n → ((k : Int) + 1) ∈ xs) → n ≤ xs.length
  | 0, _, _ => Nat.zero_le _
  | n + 1, xs, h => by
    have h1 := h n (by omega)
    have ih := pig n (xs.erase ((n : Int) + 1)) (fun k hk => (List.mem_erase_of_ne (by omega)).2 (h k (by omega)))
    have := List.length_erase_of_mem h1
    have := List.length_pos_of_mem h1
    omega
theorem yJW (l : List Cmd) (n : Nat) (h : ∀ k : Nat, k < n → (ev l ((k : Int) + 1)).isSome = true) : n ≤ l.length := by
  have := pig n (l.map fun c => c.1) (fun k hk => by
    have hs := h k hk
    cases he : ev l ((k : Int) + 1) with
    | none => rw [he] at hs; cases hs
    | some e =>
      obtain ⟨d, hd, h1, _⟩ := yFC he
      exact List.mem_map.2 ⟨d, hd, h1⟩)
  simpa using this
def evs (l : List Cmd) (n : Nat) : List (List UInt8) := (List.range n).map fun (k : Nat) => (ev l ((k : Int) + 1)).getD []
theorem y7l (l : List Cmd) (n : Nat) : (evs l n).length = n := by simp [evs]
theorem yI7 (l : List Cmd) (n : Nat) : evs l (n + 1) = evs l n ++ [(ev l ((n : Int) + 1)).getD []] := by simp [evs, List.range_succ]
def Aw (l : List Cmd) (n : Nat) : Prop := n ≤ l.length ∧ (∀ k : Nat, k < n → (ev l ((k : Int) + 1)).isSome = true) ∧ ev l ((n : Int) + 1) = none
def yE5 (l : List Cmd) : Nat → Nat → List Int
  | _, 0 => []
  | k, m + 1 => (if (ev l ((k : Int) + 1)).isNone = true then [(k : Int) + 1] else []) ++ yE5 l (k + 1) m
theorem y7i (l : List Cmd) (m' : List (Int × List UInt8)) (hm : ∀ n, evG m' n = ev l n) (last : Int) : ∀ (m k : Nat) (s : List Int), s.length + m ≤ 1000 → k + m ≤ 1000 →
    y0D (fun i__ s__ => y6R m' last i__ s__) (fun s__ => y7f m' last s__) m (k : Int) s = some (s ++ yE5 l k m, 0, ())
  | 0, k, s, _, _ => by simp [y0D, yE5, y7f]
  | m + 1, k, s, hs, hk => by
    have hmem : memMax = 68719476736 := rfl
    have hwr : IntKind.i64.wrap ((k : Int) + 1) = (k : Int) + 1 := y2e (by omega) (by omega)
    have hb : y6R m' last (k : Int) s = some (.inr (s ++ (if (ev l ((k : Int) + 1)).isNone = true then [(k : Int) + 1] else []))) := by
      unfold y6R
      have hmk := hm ((k : Int) + 1)
      unfold evG at hmk
      rw [hwr, hmk]
      cases he : ev l ((k : Int) + 1) with
      | none =>
        simp only [Option.isSome_none, Bool.not_false, cond_true]
        rw [bifT (y6 (show s.length + 1 ≤ memMax by omega))]
        rfl
      | some e => simp
    unfold y0D
    simp only [hb, Option.bind_some]
    have ih := y7i l m' hm last m (k + 1) (s ++ (if (ev l ((k : Int) + 1)).isNone = true then [(k : Int) + 1] else [])) (by
      rw [List.length_append]
      split <;> simp <;> omega) (by omega)
    rw [show ((k + 1 : Nat) : Int) = (k : Int) + 1 by omega] at ih
    refine ih.trans ?_
    rw [List.append_assoc]
    rfl
theorem yIY (l : List Cmd) (last : Int) (hs : ∀ c ∈ l, c.2.2.1.length < lenMax) :
    yAX l last = some (if yC (y2m l) (ckR last 0 256) = 0 then (yE5 l 0 last.toNat, 0, ()) else ([], yC (y2m l) (ckR last 0 256), ())) := by
  have hbad (v : List (Int × List UInt8)) (x : Int) (h : yC x (ckR last 0 256) ≠ 0) : (Option.bind (y0s [x, (z07 last 0 256).fst]) fun (v1 : Int × Unit) => (bif v1.fst != (0 : Int) then (some (([], v1.fst, ()))) else (bif decide ((last) ≤ (9223372036854775807 : Int)) then y0D (fun i__ s__ => y6R v (last) i__ s__) (fun s__ => y7f v (last) s__) ((last) - 0).toNat 0 ([]) else none))) = some (([] : List Int), yC x (ckR last 0 256), ()) := by
    rw [y2y, y01 _ (by simp [lenMax])]
    simp only [Option.bind_some, yQ, yk, yX]
    rw [bifT (by simpa using h)]
  unfold yAX
  rcases yAa l hs with ⟨h0, hk⟩ | ⟨h0, hl, m', hm, hk⟩
  · have hne : yC (y2m l) (ckR last 0 256) ≠ 0 := by
      unfold yC
      rw [if_pos (by simpa using h0)]
      exact h0
    rw [hk, if_neg hne]
    exact hbad _ _ hne
  · rw [hk, h0]
    by_cases hne : yC 0 (ckR last 0 256) = 0
    · rw [if_pos hne]
      have hr : 0 ≤ last ∧ last ≤ 256 := by
        have : ckR last 0 256 = 0 := by unfold yC at hne; simpa using hne
        unfold ckR at this
        split at this
        · cases this
        · omega
      simp only [Option.bind_some]
      rw [y2y, y01 _ (by simp [lenMax])]
      simp only [Option.bind_some, yQ, yk, yX, hne]
      rw [bifF (show ((0 : Int) != 0) = false from rfl), bifT (y6 (by omega))]
      have := y7i l m' hm last last.toNat 0 [] (by simp; omega) (by omega)
      rw [show ((0 : Nat) : Int) = 0 from rfl, List.nil_append] at this
      rw [show (last - 0).toNat = last.toNat by omega]
      exact this
    · rw [if_neg hne]
      exact hbad _ _ hne
end Go.Tw
end
section
set_option linter.all false
set_option maxRecDepth 100000
namespace Go.Tw
open Go.Vx Go.Vx.B Go.Proofs
abbrev nmE (s : List UInt8) : Int := bif isNm s then 0 else 8
def stE (done : List Sta) (s : Sta) : Int :=
  y0x [nmE s.1, bif done.any (fun d => d.1 == s.1) then 9 else 0, bif decide (s.2.1 < -1) || decide ((done.length : Int) ≤ s.2.1) then 11 else 0]
def stsE : List Sta → List Sta → Int
  | _, [] => 0
  | done, s :: l => yC (stE done s) (stsE (done ++ [s]) l)
def kids (p : Int) : Int → List Sta → List Int
  | _, [] => []
  | k, s :: l => (if (s.2.1 == p) = true then [k] else []) ++ kids p (k + 1) l
def fmE (ks : List Int) (s : Sta) : Int :=
  bif ks.length == 0 then (bif s.2.2.1 != -1 then 1 else 0) else (bif s.2.2.2.1 || !ks.contains s.2.2.1 then 1 else 0)
def fmsE (xs : List Sta) : Int → List Sta → Int
  | _, [] => 0
  | i, s :: l => yC (fmE (kids i 0 xs) s) (fmsE xs (i + 1) l)
def trE (n : Int) (t : Tra) : Int :=
  y0x [bif decide (t.1 < 0) || decide (n ≤ t.1) || decide (t.2.2.1 < 0) || decide (n ≤ t.2.2.1) then 10 else 0, nmE t.2.1, ckR t.2.2.2.1 0 15, ckR t.2.2.2.2.1 0 15,
    bif yb .i64 .and t.2.2.2.2.1 t.2.2.2.1 != t.2.2.2.2.1 then 1 else 0]
def trsE (n : Int) : List Tra → Int
  | [] => 0
  | t :: l => yC (trE n t) (trsE n l)
def evF (s : List (List UInt8)) (t : Tra) : List (List UInt8) := bif s.contains t.2.1 then s else s ++ [t.2.1]
def evts (l : List Tra) : List (List UInt8) := l.foldl evF []
def y0m (c : Cha) : Int :=
  if c.1.length = 0 then 12 else if 16 < c.1.length then 5 else
  yC (stsE [] c.1) (yC (fmsE c.1 0 c.1) (yC (bif decide (48 < c.2.1.length) then 5 else 0) (yC (trsE c.1.length c.2.1) (bif decide (8 < (evts c.2.1).length) then 5 else 0))))
section
variable {α β σ : Type}
theorem y3d {body : Int → α → σ → Option (β ⊕ σ)} {fin : σ → Option β} (xs : List α) (Q : Nat → σ → Prop) (g : σ → α → σ) :
    ∀ (l done : List α) (s : σ), xs = done ++ l → Q done.length s → (∀ (i : Nat) e s, xs[i]? = some e → Q i s → body (i : Int) e s = some (.inr (g s e)) ∧ Q (i + 1) (g s e)) →
      yE body fin (done.length : Int) l s = fin (l.foldl g s) ∧ Q xs.length (l.foldl g s)
  | [], done, s, hx, hq, _ => ⟨rfl, by rw [hx]; simpa using hq⟩
  | e :: l, done, s, hx, hq, h => by
    obtain ⟨h1, h2⟩ := h done.length e s (by rw [hx]; simp) hq
    have ih := y3d (body := body) (fin := fin) xs Q g l (done ++ [e]) (g s e) (by rw [hx]; simp) (by simpa using h2) h
    simp only [List.length_append, List.length_cons, List.length_nil] at ih
    rw [yZ, h1]
    exact ih
end
theorem yHg {α β : Type} (p : α → Bool) (y : β) (l : List α) : l.findSome? (fun e => if p e = true then some y else none) = if l.any p = true then some y else none := by
  induction l with
  | nil => rfl
  | cons e l ih =>
    rw [List.findSome?_cons, List.any_cons, ih]
    cases p e <;> simp
theorem yDk (l : List (List UInt8)) (s : List UInt8) (h : l.length < lenMax) : zq_M l s = some (l.contains s, ()) := by
  unfold zq_M
  rw [bifT (y6 h), y26 (fun e => if (e == s) = true then some (true, ()) else none) l 0 (fun i e _ => by
    unfold yIP
    cases (e == s) <;> rfl), yHg]
  have : l.any (fun e => e == s) = l.contains s := by rw [List.contains_eq_any_beq]; congr 1; funext x; exact Bool.beq_comm
  rw [this]
  cases l.contains s <;> rfl
theorem y6U (xs : List Int) (v : Int) : ∀ (l : List Int) (i : Int), 0 ≤ i → ∃ k, yE (fun i__ e__ s__ => yFy xs v i__ e__) (fun s__ => yIW xs v) i l () = some (k, ()) ∧ decide (k ≥ 0) = l.contains v
  | [], i, _ => ⟨-1, rfl, rfl⟩
  | e :: l, i, hi => by
    rw [yZ]
    unfold yFy
    rw [List.contains_cons]
    cases h : (v == e) with
    | true => exact ⟨i, rfl, by rw [Bool.true_or]; exact y6 hi⟩
    | false =>
      obtain ⟨k, h1, h2⟩ := y6U xs v l (i + 1) (by omega)
      exact ⟨k, h1, by rw [h2]; simp⟩
theorem y6S (xs : List (List UInt8)) (v : List UInt8) : ∀ (l : List (List UInt8)) (i : Int), 0 ≤ i → ∃ k, yE (fun i__ e__ s__ => yG8 xs v i__ e__) (fun s__ => yIR xs v) i l () = some (k, ()) ∧ decide (k ≥ 0) = l.contains v
  | [], i, _ => ⟨-1, rfl, rfl⟩
  | e :: l, i, hi => by
    rw [yZ]
    unfold yG8
    rw [List.contains_cons]
    cases h : (v == e) with
    | true => exact ⟨i, rfl, by rw [Bool.true_or]; exact y6 hi⟩
    | false =>
      obtain ⟨k, h1, h2⟩ := y6S xs v l (i + 1) (by omega)
      exact ⟨k, h1, by rw [h2]; simp⟩
theorem yBD (l : List Int) (v : Int) (h : l.length < lenMax) : zE_M l v = some (l.contains v, ()) := by
  unfold zE_M zE_m zK_M
  obtain ⟨k, h1, h2⟩ := y6U l v l 0 (by omega)
  rw [bifT (y6 h), h1]
  simp only [Option.bind_some]
  rw [h2]
theorem yA3 (l : List (List UInt8)) (v : List UInt8) (h : l.length < lenMax) : zA_M l v = some (l.contains v, ()) := by
  unfold zA_M zA_m zB_M
  obtain ⟨k, h1, h2⟩ := y6S l v l 0 (by omega)
  rw [bifT (y6 h), h1]
  simp only [Option.bind_some]
  rw [h2]
theorem y4m (s : List (List UInt8)) (t : Tra) : (evF s t).length ≤ s.length + 1 := by
  unfold evF
  cases s.contains t.2.1 <;> simp
theorem yBn (l : List Tra) : (evts l).length ≤ l.length := by
  have : ∀ (l : List Tra) (s : List (List UInt8)), (l.foldl evF s).length ≤ s.length + l.length := by
    intro l
    induction l with
    | nil => intro s; simp
    | cons t l ih =>
      intro s
      have h1 := ih (evF s t)
      have h2 := y4m s t
      simp only [List.foldl_cons, List.length_cons]
      omega
  have h := this l []
  rw [List.length_nil, Nat.zero_add] at h
  exact h
theorem y7Y (c : Cha) (h : c.2.1.length ≤ 1000) : y7P c = some (evts c.2.1, ()) := by
  have hmem : memMax = 68719476736 := rfl
  unfold y7P
  rw [bifT (y6 (show c.2.1.length < lenMax by unfold lenMax; omega))]
  have := (y3d (body := fun i__ e__ s__ => y9u c i__ e__ s__) (fin := fun s__ => yD8 c s__) c.2.1 (fun i s => s.length ≤ i) evF c.2.1 [] [] rfl (Nat.le_refl _) (fun i e s he hs => by
    have hi := (List.getElem?_eq_some_iff.1 he).1
    refine ⟨?_, by have := y4m s e; omega⟩
    unfold y9u evF
    rw [yDk s _ (by unfold lenMax; omega)]
    simp only [Option.bind_some]
    cases s.contains e.2.1 with
    | true => rfl
    | false =>
      rw [y1l, he]
      simp only [Bool.not_false, cond_true, Option.bind_some, cond_false]
      rw [bifT (y6 (show s.length + 1 ≤ memMax by omega))])).1
  exact this
theorem yEh (c : Cha) (h : c.2.1.length ≤ 1000) : zN_M c = some (evts c.2.1, ()) := by
  have hmem : memMax = 68719476736 := rfl
  unfold zN_M
  rw [bifT (y6 (show c.2.1.length < lenMax by unfold lenMax; omega))]
  have := (y3d (body := fun i__ e__ s__ => yFS c.2.1 i__ e__ s__) (fin := fun s__ => yIE c.2.1 s__) c.2.1 (fun i s => s.length ≤ i) evF c.2.1 [] [] rfl (Nat.le_refl _) (fun i e s he hs => by
    have hi := (List.getElem?_eq_some_iff.1 he).1
    refine ⟨?_, by have := y4m s e; omega⟩
    unfold yFS evF
    rw [yA3 s _ (by unfold lenMax; omega)]
    simp only [Option.bind_some]
    cases s.contains e.2.1 with
    | true => rfl
    | false =>
      simp only [Bool.not_false, cond_true, cond_false]
      rw [bifT (y6 (show s.length + 1 ≤ memMax by omega))])).1
  exact this
theorem y6O (c : Cha) (i : Nat) (a0 : List UInt8) (a1 a2 : Int) (a3 : Bool) (hi : i ≤ c.1.length) {fin : Unit → Option ((Int × Unit) ⊕ Unit)} : ∀ (m k : Nat), k + m = i →
    y0D (fun i__ s__ => yDz c (i : Int) a0 a1 a2 a3 i__) fin m (k : Int) () = if ((c.1.drop k).take m).any (fun d => d.1 == a0) = true then some (.inl (9, ())) else fin ()
  | 0, k, _ => by simp [y0D]
  | m + 1, k, hk => by
    have hkl : k < c.1.length := by omega
    unfold y0D
    have hb : yDz c (i : Int) a0 a1 a2 a3 (k : Int) = some (if (c.1[k].1 == a0) = true then .inl (.inl (9, ())) else .inr ()) := by
      unfold yDz
      simp only [y1l, List.getElem?_eq_getElem hkl, Option.bind_some]
      cases (c.1[k].1 == a0) <;> rfl
    rw [hb]
    simp only [Option.bind_some]
    have hd : (c.1.drop k).take (m + 1) = c.1[k] :: (c.1.drop (k + 1)).take m := by
      rw [← List.getElem_cons_drop (h := hkl), List.take_succ_cons]
    rw [hd, List.any_cons]
    cases h : (c.1[k].1 == a0) with
    | true => rfl
    | false =>
      rw [if_neg (by simp), Bool.false_or]
      have ih := y6O c i a0 a1 a2 a3 hi (fin := fin) m (k + 1) (by omega)
      rw [show ((k + 1 : Nat) : Int) = (k : Int) + 1 by omega] at ih
      exact ih
theorem yII (c : Cha) (hl : c.1.length ≤ 16) (i : Nat) (s : Sta) (hs : c.1[i]? = some s) :
    yEb c (i : Int) s = some (bif stE (c.1.take i) s != 0 then .inl (stE (c.1.take i) s, ()) else .inr ()) := by
  have hi : i < c.1.length := (List.getElem?_eq_some_iff.1 hs).1
  have hlen : (c.1.take i).length = i := by rw [List.length_take]; omega
  unfold yEb stE
  rw [y2H]
  simp only [Option.bind_some, yQ, yk, yX, hlen]
  change (bif nmE s.1 != 0 then _ else _) = _
  rw [yC]
  cases hnm : (nmE s.1 != 0) with
  | true => rw [cond_true, if_pos rfl, hnm]; rfl
  | false =>
    rw [cond_false, if_neg (by simp), bifT (y6 (show (i : Int) ≤ 9223372036854775807 by omega))]
    have e1 : ((i : Int) - 0).toNat = i := by omega
    rw [e1]
    have := y6O c i s.1 s.2.1 s.2.2.1 s.2.2.2.1 (by omega) (fin := fun s__ => yH8 c (i : Int) s.1 s.2.1 s.2.2.1 s.2.2.2.1) i 0 (by omega)
    rw [show ((0 : Nat) : Int) = 0 from rfl] at this
    rw [this, List.drop_zero]
    cases hany : (c.1.take i).any (fun d => d.1 == s.1) with
    | true => rw [if_pos rfl]; rfl
    | false =>
      rw [if_neg (by simp)]
      unfold yH8
      have e2 : decide (s.2.1 ≥ (i : Int)) = decide ((i : Int) ≤ s.2.1) := rfl
      rw [e2]
      cases decide (s.2.1 < -1) <;> cases decide ((i : Int) ≤ s.2.1) <;> rfl
theorem y6c (x : Int) : yC 0 x = x := rfl
theorem y13 {a : Int} (h : a ≠ 0) (x : Int) : yC a x = a := by
  unfold yC
  rw [if_pos (by simpa using h)]
def seqE (e : Int) (k : Option (Int × Unit)) : Option (Int × Unit) := bif e != 0 then some (e, ()) else k
theorem yM5 (k : Option (Int × Unit)) : seqE 0 k = k := rfl
theorem yBc {a : Int} (h : a ≠ 0) (k : Option (Int × Unit)) : seqE a k = some (a, ()) := bifT (by simpa using h)
theorem y51 (a b : Int) (k : Option (Int × Unit)) : seqE (yC a b) k = seqE a (seqE b k) := by
  by_cases h : a = 0
  · subst h; rfl
  · rw [y13 h, yBc h, yBc h]
theorem y30 (a b : Int) : seqE a (some (b, ())) = some (yC a b, ()) := by
  by_cases h : a = 0
  · subst h; rfl
  · rw [y13 h, yBc h]
theorem y4c {α : Type} {body : Int → α → Unit → Option ((Int × Unit) ⊕ Unit)} {fin : Unit → Option (Int × Unit)} {i : Int} {e : α} {l : List α} {a : Int} (hb : body i e () = some (bif a != 0 then .inl (a, ()) else .inr ())) :
    yE body fin i (e :: l) () = seqE a (yE body fin (i + 1) l ()) := by
  rw [yZ, hb]
  unfold seqE
  cases (a != 0) <;> rfl
theorem yDN (c : Cha) (hl : c.1.length ≤ 16) : ∀ (l done : List Sta), c.1 = done ++ l →
    yE (fun i__ e__ s__ => yEb c i__ e__) (fun s__ => yE3 c) (done.length : Int) l () = seqE (stsE done l) (yE3 c)
  | [], done, _ => rfl
  | s :: l, done, hx => by
    have hn : c.1[done.length]? = some s := by rw [hx]; simp
    have ht : c.1.take done.length = done := by rw [hx]; simp
    have ih := yDN c hl l (done ++ [s]) (by rw [hx]; simp)
    simp only [List.length_append, List.length_cons, List.length_nil] at ih
    have hb := yII c hl done.length s hn
    rw [ht] at hb
    rw [y4c hb]
    show _ = seqE (yC _ _) _
    rw [y51]
    exact congrArg (seqE _) ih
theorem y3q (p : Int) : ∀ (l : List Sta) (k : Int), (kids p k l).length ≤ l.length
  | [], k => Nat.le_refl _
  | s :: l, k => by
    have := y3q p l (k + 1)
    unfold kids
    rw [List.length_append, List.length_cons]
    split <;> simp <;> omega
theorem y4o (c : Cha) (p x : Int) : ∀ (l : List Sta) (k n : Int) (b : Bool), 0 ≤ n → n + l.length ≤ 1000 →
    yE (fun i__ e__ s__ => yEG p x c i__ e__ s__.1 s__.2) (fun s__ => yIZ p x c s__.1 s__.2) k l (n, b) = some (n + (kids p k l).length, b || (kids p k l).contains x, ())
  | [], k, n, b, _, _ => by
    show some (n, b, ()) = some (n + 0, b || false, ())
    simp
  | s :: l, k, n, b, h0, hn => by
    simp only [List.length_cons] at hn
    have hw : IntKind.i64.wrap (n + 1) = n + 1 := y2e (by omega) (by omega)
    have hb : yEG p x c k s n b = some (.inr (if (s.2.1 == p) = true then (n + 1, b || (x == k)) else (n, b))) := by
      unfold yEG
      rw [hw, show (k == x) = (x == k) by rw [Bool.beq_comm]]
      cases (s.2.1 == p) <;> cases b <;> rfl
    rw [yZ]
    simp only [hb, Option.bind_some]
    unfold kids
    cases h : (s.2.1 == p) with
    | true =>
      rw [if_pos rfl, if_pos rfl, y4o c p x l (k + 1) (n + 1) _ (by omega) (by omega), List.singleton_append, List.length_cons, List.contains_cons, Bool.or_assoc]
      congr 2
      omega
    | false =>
      rw [if_neg (by simp), if_neg (by simp), y4o c p x l (k + 1) n b h0 (by omega), List.nil_append]
theorem yId (c : Cha) (p x : Int) (hl : c.1.length ≤ 16) : zo_M c p x = some (((kids p 0 c.1).length : Int), (kids p 0 c.1).contains x, ()) := by
  unfold zo_M
  rw [bifT (y6 (show c.1.length < lenMax by unfold lenMax; omega)), y4o c p x c.1 0 0 false (by omega) (by omega)]
  simp
theorem yHl (c : Cha) (hl : c.1.length ≤ 16) (i : Int) (s : Sta) :
    yEU c i s = some (bif fmE (kids i 0 c.1) s != 0 then .inl (fmE (kids i 0 c.1) s, ()) else .inr ()) := by
  unfold yEU fmE
  rw [yId c i _ hl]
  simp only [Option.bind_some]
  by_cases h0 : (kids i 0 c.1).length = 0
  · rw [h0]
    simp only [bifF (show decide (((0 : Nat) : Int) > 0) = false from rfl), bifT (show (((0 : Nat) : Int) == 0) = true from rfl), bifT (show ((0 : Nat) == 0) = true from rfl)]
    cases (s.2.2.1 != -1) <;> rfl
  · rw [bifT (y6 (show (((kids i 0 c.1).length : Nat) : Int) > 0 by omega)), bifF (show ((kids i 0 c.1).length == 0) = false by simpa using h0), bifF (show ((((kids i 0 c.1).length : Nat) : Int) == 0) = false by simpa using h0)]
    cases (kids i 0 c.1).contains s.2.2.1 <;> cases s.2.2.2.1 <;> rfl
theorem yDG (c : Cha) (hl : c.1.length ≤ 16) : ∀ (l : List Sta) (i : Int),
    yE (fun i__ e__ s__ => yEU c i__ e__) (fun s__ => yE9 c) i l () = seqE (fmsE c.1 i l) (yE9 c)
  | [], i => rfl
  | s :: l, i => by
    rw [y4c (yHl c hl i s)]
    show _ = seqE (yC _ _) _
    rw [y51]
    exact congrArg (seqE _) (yDG c hl l (i + 1))
theorem yHz (c : Cha) (h0 : 1 ≤ c.1.length) (hl : c.1.length ≤ 16) (i : Int) (t : Tra) :
    y7Z c i t = some (bif trE c.1.length t != 0 then .inl (trE c.1.length t, ()) else .inr ()) := by
  have hw : IntKind.i64.wrap ((c.1.length : Int) - 1) = (c.1.length : Int) - 1 := y2e (by omega) (by omega)
  unfold y7Z trE
  simp only [y49, hw, y2H, Option.bind_some]
  rw [y9r _ (by simp [lenMax])]
  simp only [yQ, yk, yX, Option.bind_some]
  have e1 : ckR t.1 0 ((c.1.length : Int) - 1) = if t.1 < 0 ∨ (c.1.length : Int) ≤ t.1 then 3 else 0 := by
    unfold ckR
    by_cases h : t.1 < 0 ∨ (c.1.length : Int) ≤ t.1
    · rw [if_pos h, if_pos (by omega)]
    · rw [if_neg h, if_neg (by omega)]
  have e2 : ckR t.2.2.1 0 ((c.1.length : Int) - 1) = if t.2.2.1 < 0 ∨ (c.1.length : Int) ≤ t.2.2.1 then 3 else 0 := by
    unfold ckR
    by_cases h : t.2.2.1 < 0 ∨ (c.1.length : Int) ≤ t.2.2.1
    · rw [if_pos h, if_pos (by omega)]
    · rw [if_neg h, if_neg (by omega)]
  rw [e1, e2]
  by_cases h1 : t.1 < 0 ∨ (c.1.length : Int) ≤ t.1
  · rw [if_pos h1]
    have : (decide (t.1 < 0) || decide ((c.1.length : Int) ≤ t.1) || decide (t.2.2.1 < 0) || decide ((c.1.length : Int) ≤ t.2.2.1)) = true := by
      rcases h1 with h | h <;> simp [h]
    rw [this]
    rfl
  · rw [if_neg h1]
    by_cases h2 : t.2.2.1 < 0 ∨ (c.1.length : Int) ≤ t.2.2.1
    · rw [if_pos h2]
      have : (decide (t.1 < 0) || decide ((c.1.length : Int) ≤ t.1) || decide (t.2.2.1 < 0) || decide ((c.1.length : Int) ≤ t.2.2.1)) = true := by
        rcases h2 with h | h <;> simp [h]
      rw [this]
      rfl
    · rw [if_neg h2]
      have : (decide (t.1 < 0) || decide ((c.1.length : Int) ≤ t.1) || decide (t.2.2.1 < 0) || decide ((c.1.length : Int) ≤ t.2.2.1)) = false := by
        rw [not_or] at h1 h2
        simp [h1.1, h1.2, h2.1, h2.2]
      rw [this]
      unfold z0I
      simp only [cond_false]
      have e3 : yC 0 = fun x => x := by funext x; unfold yC; rfl
      rw [e3]
      have e4 (b : Bool) : (bif b then ((1 : Int), ()) else (0, ())).fst = bif b then 1 else 0 := by cases b <;> rfl
      rw [e4]
      cases (yC (nmE t.2.1) (yC (ckR t.2.2.2.1 0 15) (yC (ckR t.2.2.2.2.1 0 15) (bif yb .i64 .and t.2.2.2.2.1 t.2.2.2.1 != t.2.2.2.2.1 then 1 else 0))) != 0) <;> rfl
theorem yDB (c : Cha) (h0 : 1 ≤ c.1.length) (hl : c.1.length ≤ 16) : ∀ (l : List Tra) (i : Int),
    yE (fun i__ e__ s__ => y7Z c i__ e__) (fun s__ => y7t c) i l () = seqE (trsE c.1.length l) (y7t c)
  | [], i => rfl
  | s :: l, i => by
    rw [y4c (yHz c h0 hl i s)]
    show _ = seqE (yC _ _) _
    rw [y51]
    exact congrArg (seqE _) (yDB c h0 hl l (i + 1))
theorem yFg (c : Cha) : zb_M c = some (y0m c, ()) := by
  unfold zb_M y0m
  by_cases h0 : c.1.length = 0
  · rw [bifT (show ((c.1.length : Int) == 0) = true by simp [h0]), if_pos h0]
  rw [bifF (show ((c.1.length : Int) == 0) = false by simpa using h0), if_neg h0]
  by_cases h8 : 16 < c.1.length
  · rw [bifT (y6 (show (c.1.length : Int) > 16 by omega)), if_pos h8]
  rw [bifF (yF (show ¬ (c.1.length : Int) > 16 by omega)), if_neg h8, bifT (y6 (show c.1.length < lenMax by unfold lenMax; omega))]
  have h1 := yDN c (by omega) c.1 [] rfl
  rw [show (([] : List Sta).length : Int) = 0 from rfl] at h1
  rw [h1, ← y30, ← y30, ← y30, ← y30]
  refine congrArg (seqE _) ?_
  unfold yE3
  rw [bifT (y6 (show c.1.length < lenMax by unfold lenMax; omega)), yDG c (by omega)]
  refine congrArg (seqE _) ?_
  unfold yE9
  by_cases h4 : 48 < c.2.1.length
  · rw [bifT (y6 (show (c.2.1.length : Int) > 48 by omega)), y6 h4]
    rfl
  · rw [bifF (yF (show ¬ (c.2.1.length : Int) > 48 by omega)), yF h4, bifT (y6 (show c.2.1.length < lenMax by unfold lenMax; omega)), yDB c (by omega) (by omega), cond_false, yM5]
    refine congrArg (seqE _) ?_
    unfold y7t
    rw [y7Y c (by omega)]
    simp only [Option.bind_some]
    unfold z0I
    have e5 : decide (((evts c.2.1).length : Int) > 8) = decide (8 < (evts c.2.1).length) := decide_eq_decide.2 (by omega)
    rw [e5]
    cases decide (8 < (evts c.2.1).length) <;> rfl
end Go.Tw
end
section
set_option linter.all false
set_option maxRecDepth 100000
namespace Go.Tw
open Go.Vx Go.Vx.B Go.Proofs
theorem yB6 (p : Int) (s : Sta) : ∀ (l : List Sta) (k : Int), kids p k (l ++ [s]) = kids p k l ++ (if (s.2.1 == p) = true then [k + l.length] else [])
  | [], k => by simp [kids]
  | x :: l, k => by
    rw [List.cons_append]
    unfold kids
    have e : k + 1 + (l.length : Int) = k + ((x :: l).length : Int) := by simp only [List.length_cons]; omega
    rw [yB6 p s l (k + 1), List.append_assoc, e]
abbrev evN (m : List (List UInt8 × Bool)) (n : List UInt8) : Bool := (yO .str .bool m n).getD false
abbrev evK (m : List (Int × List Int)) (n : Int) : List Int := (yO (.int .i64) (.slice (.int .i64)) m n).getD []
theorem yHW (c : Cha) (xs done : List Sta) (s : Sta) (m0 : List (List UInt8 × Bool)) (m1 : List (Int × List Int)) (hs : s.1.length < lenMax) (hd : done.length ≤ 1000)
    (h0 : ∀ n, evN m0 n = done.any fun d => d.1 == n) (h1 : ∀ p, evK m1 p = kids p 0 done) :
    (stE done s ≠ 0 ∧ y94 c xs (done.length : Int) s m0 m1 = some (.inl (stE done s, ()))) ∨
    (stE done s = 0 ∧ ∃ m0' m1', y94 c xs (done.length : Int) s m0 m1 = some (.inr (m0', m1')) ∧ (∀ n, evN m0' n = (done ++ [s]).any fun d => d.1 == n) ∧ ∀ p, evK m1' p = kids p 0 (done ++ [s])) := by
  have hmem : memMax = 68719476736 := rfl
  have hk := y3q s.2.1 done 0
  have h0s := h0 s.1
  have h1s := h1 s.2.1
  unfold evN at h0s
  unfold evK at h1s
  have e19 : y8Q c xs (done.length : Int) m0 m1 s = some (.inr (yx .str .bool m0 s.1 true, yx (.int .i64) (.slice (.int .i64)) m1 s.2.1 (kids s.2.1 0 done ++ [(done.length : Int)]))) := by
    unfold y8Q
    rw [h1s, bifT (show y2S (.int .i64) s.2.1 s.2.1 = true from beq_self_eq_true (α := Int) s.2.1), bifT (y6 (show (kids s.2.1 0 done).length + 1 ≤ memMax by omega)), bifT (show y2S (.int .i64) s.2.1 s.2.1 = true from beq_self_eq_true (α := Int) s.2.1)]
  have key : y94 c xs (done.length : Int) s m0 m1 = bif stE done s != 0 then some (.inl (stE done s, ())) else y8Q c xs (done.length : Int) m0 m1 s := by
    unfold y94 stE
    rw [y1O _ hs]
    simp only [Option.bind_some, y2k]
    rw [h0s]
    by_cases h : s.2.1 < -1
    · rw [bifT (y6 h), y01 _ (by simp [lenMax]), y6 h, Bool.true_or]
      simp only [Option.bind_some]
    · rw [bifF (yF h), y01 _ (by simp [lenMax]), yF h, Bool.false_or, show decide (s.2.1 ≥ (done.length : Int)) = decide ((done.length : Int) ≤ s.2.1) from rfl]
      simp only [Option.bind_some]
  rw [key]
  cases hx : (stE done s != 0) with
  | true => exact .inl ⟨by simpa using hx, rfl⟩
  | false =>
    refine .inr ⟨by simpa using hx, _, _, by rw [cond_false]; exact e19, fun n => ?_, fun p => ?_⟩
    · have hn := h0 n
      unfold evN at hn ⊢
      rw [y3b yOY, List.any_append, ← hn]
      show (bif (n == s.1) then some true else yO .str .bool m0 n).getD false = ((yO .str .bool m0 n).getD false || ((s.1 == n) || false))
      by_cases e : n = s.1
      · subst e; simp
      · rw [show (n == s.1) = false by simpa using e, show (s.1 == n) = false by simpa using fun h => e h.symm]
        simp
    · have hp := h1 p
      unfold evK at hp ⊢
      rw [y3b yJ0, yB6, ← hp]
      show (bif (p == s.2.1) then some (kids s.2.1 0 done ++ [(done.length : Int)]) else yO (.int .i64) (.slice (.int .i64)) m1 p).getD [] = _
      by_cases e : p = s.2.1
      · subst e
        rw [beq_self_eq_true, cond_true, if_pos rfl, h1s, Option.getD_some, Int.zero_add]
      · rw [show (p == s.2.1) = false by simpa using e, show (s.2.1 == p) = false by simpa using fun h => e h.symm]
        simp
theorem yCn (c : Cha) (xs : List Sta) (hl : xs.length ≤ 1000) : ∀ (l done : List Sta) (m0 : List (List UInt8 × Bool)) (m1 : List (Int × List Int)), xs = done ++ l → (∀ s ∈ l, s.1.length < lenMax) →
    (∀ n, evN m0 n = done.any fun d => d.1 == n) → (∀ p, evK m1 p = kids p 0 done) →
    (stsE done l ≠ 0 ∧ yE (fun i__ e__ s__ => y94 c xs i__ e__ s__.1 s__.2) (fun s__ => yCG c xs s__.1 s__.2) (done.length : Int) l (m0, m1) = some (stsE done l, ())) ∨
    (stsE done l = 0 ∧ ∃ m0' m1', (∀ p, evK m1' p = kids p 0 xs) ∧ yE (fun i__ e__ s__ => y94 c xs i__ e__ s__.1 s__.2) (fun s__ => yCG c xs s__.1 s__.2) (done.length : Int) l (m0, m1) = yCG c xs m0' m1')
  | [], done, m0, m1, hx, _, h0, h1 => .inr ⟨rfl, m0, m1, by rw [hx, List.append_nil]; exact h1, rfl⟩
  | s :: l, done, m0, m1, hx, hs, h0, h1 => by
    have hd : done.length ≤ 1000 := by rw [hx] at hl; simp at hl; omega
    rw [yZ]
    simp only [stsE, yC]
    rcases yHW c xs done s m0 m1 (hs s (by simp)) hd h0 h1 with ⟨h2, h3⟩ | ⟨h2, m0', m1', h3, h4, h5⟩
    · rw [h3]
      refine .inl ?_
      rw [if_pos (by simpa using h2)]
      exact ⟨h2, rfl⟩
    · rw [h3, h2]
      have ih := yCn c xs hl l (done ++ [s]) m0' m1' (by rw [hx]; simp) (fun x hx => hs x (by simp [hx])) h4 h5
      simp only [List.length_append, List.length_cons, List.length_nil] at ih
      simpa using ih
theorem yIH (m1 : List (Int × List Int)) (xs ys : List Sta) (i : Int) (s : Sta) (hx : xs.length ≤ 1000) (h1 : ∀ p, evK m1 p = kids p 0 xs) :
    y86 m1 ys i s = some (bif fmE (kids i 0 xs) s != 0 then .inl (fmE (kids i 0 xs) s, ()) else .inr ()) := by
  have hk := y3q i xs 0
  have h1s := h1 i
  unfold evK at h1s
  unfold y86 fmE
  rw [h1s, yBD _ _ (by unfold lenMax; omega)]
  by_cases h0 : (kids i 0 xs).length = 0
  · rw [bifT (show (((kids i 0 xs).length : Int) == 0) = true by simp [h0]), bifT (show ((kids i 0 xs).length == 0) = true by simp [h0]), show (!((kids i 0 xs).length : Int) == 0) = false by simp [h0]]
    cases (s.2.2.1 != -1) <;> rfl
  · rw [bifF (show (((kids i 0 xs).length : Int) == 0) = false by simpa using h0), bifF (show ((kids i 0 xs).length == 0) = false by simpa using h0), show (!((kids i 0 xs).length : Int) == 0) = true by simpa using h0]
    cases s.2.2.2.1 <;> cases (kids i 0 xs).contains s.2.2.1 <;> rfl
theorem yCJ (m1 : List (Int × List Int)) (xs ys : List Sta) (hx : xs.length ≤ 1000) (h1 : ∀ p, evK m1 p = kids p 0 xs) : ∀ (l : List Sta) (i : Int),
    yE (fun i__ e__ s__ => y86 m1 ys i__ e__) (fun s__ => yCN m1 ys) i l () = some (fmsE xs i l, ())
  | [], i => rfl
  | s :: l, i => by
    rw [yZ, yIH m1 xs ys i s hx h1]
    simp only [Option.bind_some, fmsE, yC]
    cases h : (fmE (kids i 0 xs) s != 0) with
    | true => simp
    | false => simpa using yCJ m1 xs ys hx h1 l (i + 1)
def yI6 (c : Cha) : Prop := (∀ s ∈ c.1, s.1.length < lenMax) ∧ ∀ t ∈ c.2.1, t.2.1.length < lenMax
theorem yDo (c : Cha) (hl : c.1.length ≤ 1000) (hw : yI6 c) : zF_M c = some (yC (stsE [] c.1) (fmsE c.1 0 c.1), ()) := by
  have hlm : c.1.length < lenMax := by unfold lenMax; omega
  have hL := yCn c c.1 hl c.1 [] [] [] rfl hw.1 (fun n => rfl) (fun p => rfl)
  rw [show (([] : List Sta).length : Int) = 0 from rfl] at hL
  unfold zF_M
  rw [bifT (y6 hlm)]
  rcases hL with ⟨h1, h2⟩ | ⟨h1, m0', m1', h2, h3⟩
  · rw [y13 h1]
    exact h2
  · rw [h1, y6c, h3]
    unfold yCG
    rw [bifT (y6 hlm)]
    exact yCJ m1' c.1 c.1 hl h2 c.1 0
theorem yK2 : ∀ v m : Fin 16, (yb .i64 .andNot (v.val : Int) (m.val : Int) != 0) = (yb .i64 .and (v.val : Int) (m.val : Int) != (v.val : Int)) := by decide +kernel
theorem yEd {v m : Int} (hv : 0 ≤ v ∧ v ≤ 15) (hm : 0 ≤ m ∧ m ≤ 15) : (yb .i64 .andNot v m != 0) = (yb .i64 .and v m != v) := by
  have := yK2 ⟨v.toNat, by omega⟩ ⟨m.toNat, by omega⟩
  simp only at this
  rw [Int.toNat_of_nonneg hv.1, Int.toNat_of_nonneg hm.1] at this
  exact this
theorem y4g {n lo hi : Int} (h : ckR n lo hi = 0) : lo ≤ n ∧ n ≤ hi := by
  unfold ckR at h
  split at h
  · cases h
  · omega
theorem yO9 (t : Tra) (n : Int) (hw : t.2.1.length < lenMax) : zH_M t n = some (trE n t, ()) := by
  unfold zH_M zH_m trE
  have elow : decide ((if Bool.false = Bool.true then if t.2.2.1 > t.1 then t.2.2.1 else t.1 else if t.2.2.1 < t.1 then t.2.2.1 else t.1) < (0 : Int)) = (decide (t.1 < 0) || decide (t.2.2.1 < 0)) := by
    rw [if_neg (by decide)]
    rw [← Bool.decide_or]
    apply decide_eq_decide.2
    split <;> omega
  have ehigh : decide ((if Bool.true = Bool.true then if t.2.2.1 > t.1 then t.2.2.1 else t.1 else if t.2.2.1 < t.1 then t.2.2.1 else t.1) ≥ n) = (decide (n ≤ t.1) || decide (n ≤ t.2.2.1)) := by
    rw [if_pos rfl]
    rw [← Bool.decide_or]
    apply decide_eq_decide.2
    split <;> omega
  rw [elow, ehigh]
  rw [y1O _ hw]
  simp only [Option.bind_some, y2k, zJ, y2y]
  rw [y01 _ (by simp [lenMax])]
  simp only [Option.bind_some, yQ, yk, yX]
  have eall : (decide (t.1 < 0) || decide (n ≤ t.1) || decide (t.2.2.1 < 0) || decide (n ≤ t.2.2.1)) = ((decide (t.1 < 0) || decide (t.2.2.1 < 0)) || (decide (n ≤ t.1) || decide (n ≤ t.2.2.1))) := by
    cases decide (t.1 < 0) <;> cases decide (n ≤ t.1) <;> cases decide (t.2.2.1 < 0) <;> cases decide (n ≤ t.2.2.1) <;> rfl
  rw [eall]
  cases hlow : (decide (t.1 < 0) || decide (t.2.2.1 < 0)) with
  | true =>
    simp only [cond_true, Bool.true_or]
    rw [y13 (by decide)]
  | false =>
    rw [cond_false, Bool.false_or]
    congr 2
    cases hhigh : (decide (n ≤ t.1) || decide (n ≤ t.2.2.1)) with
    | true => rw [cond_true, y13 (by decide), y13 (by decide)]
    | false =>
      by_cases hm : ckR t.2.2.2.1 0 15 = 0
      · by_cases hv : ckR t.2.2.2.2.1 0 15 = 0
        · rw [yEd (y4g hv) (y4g hm)]
        · simp only [yC, bne_iff_ne, ne_eq, hm, hv, not_true_eq_false, if_false, not_false_eq_true, if_true]
      · simp only [yC, bne_iff_ne, ne_eq, hm, not_false_eq_true, if_true]
theorem yL1 (c : Cha) (hl : c.2.1.length ≤ 1000) (hw : yI6 c) : (z6_M c.2.1 fun (x : Tra × Unit) => zQ_M x.fst c) = some (c.2.1.map (trE c.1.length), ()) := by
  have hmem : memMax = 68719476736 := rfl
  unfold z6_M
  rw [bifT (y6 (show c.2.1.length < lenMax by unfold lenMax; omega))]
  refine (y1z (trE c.1.length) c.2.1 0 [] (by simp; omega) fun i e s he hs => ?_).trans ?_
  · unfold yI9 zQ_M zQ_m
    simp only
    rw [show (e.1, e.2.1, e.2.2.1, e.2.2.2.1, e.2.2.2.2.1, ()) = e from rfl, yO9 e _ (hw.2 e he)]
    simp only [Option.bind_some]
    rw [bifT (y6 hs)]
  · rw [List.nil_append]; rfl
theorem y7o (n : Int) : ∀ l : List Tra, y0x (l.map (trE n)) = trsE n l
  | [] => rfl
  | t :: l => by rw [List.map_cons, yQ, y7o n l]; rfl
theorem yFh (c : Cha) (h1 : c.1.length ≤ 1000) (h2 : c.2.1.length ≤ 1000) (hw : yI6 c) : zh_M c = some (y0m c, ()) := by
  have hlm : c.2.1.length < lenMax := by unfold lenMax; omega
  unfold zh_M zh_m y0m
  simp only [y2k]
  rw [y01 _ (by simp [lenMax])]
  simp only [Option.bind_some, yQ, yk, yX]
  by_cases h0 : c.1.length = 0
  · rw [show ((c.1.length : Int) == 0) = true by simp [h0], if_pos h0]
    rfl
  rw [show ((c.1.length : Int) == 0) = false by simpa using h0, if_neg h0]
  by_cases h8 : 16 < c.1.length
  · rw [y6 (show (c.1.length : Int) > 16 by omega), if_pos h8]
    rfl
  rw [yF (show ¬ (c.1.length : Int) > 16 by omega), if_neg h8]
  simp only [cond_false]
  rw [bifF (show (yC 0 0 != 0) = false from rfl), yDo c h1 hw]
  simp only [Option.bind_some]
  rw [y01 _ (by simp [lenMax])]
  simp only [Option.bind_some, yQ, yk, yX]
  rw [← y2P, ← y2P]
  have e4 : decide ((c.2.1.length : Int) > 48) = decide (48 < c.2.1.length) := decide_eq_decide.2 (by omega)
  rw [e4]
  generalize yC (yC (stsE [] c.1) (fmsE c.1 0 c.1)) (bif decide (48 < c.2.1.length) then 5 else 0) = x
  by_cases hx : x = 0
  · rw [hx, y6c, bifF (show ((0 : Int) != 0) = false from rfl), yL1 c h2 hw]
    simp only [Option.bind_some]
    rw [y01 _ (by rw [List.length_map]; exact hlm), y7o]
    simp only [Option.bind_some]
    rw [yEh c h2]
    simp only [Option.bind_some]
    rw [y01 _ (by simp [lenMax])]
    simp only [Option.bind_some, yQ, yk, yX]
    have e5 : decide (((evts c.2.1).length : Int) > 8) = decide (8 < (evts c.2.1).length) := decide_eq_decide.2 (by omega)
    rw [e5]
  · rw [y13 hx, bifT (by simpa using hx)]
theorem yM {a b : Int} : yC a b = 0 ↔ a = 0 ∧ b = 0 := by
  unfold yC
  by_cases h : a = 0 <;> simp [h]
structure Valid (c : Cha) : Prop where
  pos : 0 < c.1.length
  few : c.1.length ≤ 16
  parent : ∀ (i : Nat) (s : Sta), c.1[i]? = some s → -1 ≤ s.2.1 ∧ s.2.1 < i
  initial : ∀ (i : Nat) (s : Sta), c.1[i]? = some s → s.2.2.1 = -1 ∨ ((i : Int) < s.2.2.1 ∧ s.2.2.1 < c.1.length)
  moves : c.2.1.length ≤ 48
  tra : ∀ t ∈ c.2.1, 0 ≤ t.1 ∧ t.1 < c.1.length ∧ 0 ≤ t.2.2.1 ∧ t.2.2.1 < c.1.length ∧ isNm t.2.1 = true ∧ 0 ≤ t.2.2.2.1 ∧ t.2.2.2.1 ≤ 15 ∧ 0 ≤ t.2.2.2.2.1 ∧ t.2.2.2.2.1 ≤ 15
  kinds : (evts c.2.1).length ≤ 8
theorem yB1 : ∀ (l done : List Sta), stsE done l = 0 → ∀ (k : Nat) (s : Sta), l[k]? = some s → stE (done ++ l.take k) s = 0
  | [], done, _, k, s, hk => by simp at hk
  | x :: l, done, h, k, s, hk => by
    simp only [stsE, yM] at h
    cases k with
    | zero => simp at hk; subst hk; simpa using h.1
    | succ k =>
      have := yB1 l (done ++ [x]) h.2 k s (by simpa using hk)
      simpa using this
theorem yAf (xs : List Sta) : ∀ (l : List Sta) (i : Int), fmsE xs i l = 0 → ∀ (k : Nat) (s : Sta), l[k]? = some s → fmE (kids (i + k) 0 xs) s = 0
  | [], i, _, k, s, hk => by simp at hk
  | x :: l, i, h, k, s, hk => by
    simp only [fmsE, yM] at h
    cases k with
    | zero => simp at hk; subst hk; simpa using h.1
    | succ k =>
      have := yAf xs l (i + 1) h.2 k s (by simpa using hk)
      rw [show i + ((k + 1 : Nat) : Int) = i + 1 + (k : Int) by omega]
      exact this
theorem y9x (n : Int) : ∀ (l : List Tra), trsE n l = 0 → ∀ t ∈ l, trE n t = 0
  | [], _, t, ht => by cases ht
  | x :: l, h, t, ht => by
    simp only [trsE, yM] at h
    rcases List.mem_cons.1 ht with rfl | ht
    · exact h.1
    · exact y9x n l h.2 t ht
theorem yCq (p : Int) : ∀ (l : List Sta) (k : Int) (x : Int), x ∈ kids p k l → ∃ (j : Nat) (s : Sta), x = k + j ∧ l[j]? = some s ∧ s.2.1 = p
  | [], k, x, h => by cases h
  | s :: l, k, x, h => by
    unfold kids at h
    rcases List.mem_append.1 h with h | h
    · split at h
      · rename_i hp
        rw [List.mem_singleton] at h
        exact ⟨0, s, by simpa using h, rfl, by simpa using hp⟩
      · cases h
    · obtain ⟨j, t, h1, h2, h3⟩ := yCq p l (k + 1) x h
      exact ⟨j + 1, t, by omega, by simpa using h2, h3⟩
theorem yDI (c : Cha) (h : y0m c = 0) : Valid c := by
  unfold y0m at h
  split at h
  · cases h
  split at h
  · cases h
  rename_i h0 h16
  simp only [yM] at h
  obtain ⟨h1, h2, h3, h4, h5⟩ := h
  have hpar : ∀ (i : Nat) (s : Sta), c.1[i]? = some s → -1 ≤ s.2.1 ∧ s.2.1 < i := by
    intro i s hs
    have hi := (List.getElem?_eq_some_iff.1 hs).1
    have := yB1 c.1 [] h1 i s hs
    unfold stE at this
    simp only [yQ, yk, yX, yM, List.nil_append, List.length_take] at this
    have h3 := this.2.2
    cases hb : (decide (s.2.1 < -1) || decide (((min i c.1.length : Nat) : Int) ≤ s.2.1)) with
    | true => rw [hb] at h3; cases h3
    | false =>
      simp only [Bool.or_eq_false_iff, decide_eq_false_iff_not] at hb
      omega
  refine ⟨by omega, by omega, hpar, fun i s hs => ?_, ?_, fun t ht => ?_, ?_⟩
  · have := yAf c.1 c.1 0 h2 i s hs
    rw [Int.zero_add] at this
    unfold fmE at this
    cases hk : ((kids (i : Int) 0 c.1).length == 0) with
    | true =>
      rw [hk, cond_true] at this
      left
      cases hb : (s.2.2.1 != -1) with
      | true => rw [hb] at this; cases this
      | false => simpa using hb
    | false =>
      rw [hk, cond_false] at this
      right
      cases hb : (s.2.2.2.1 || !(kids (i : Int) 0 c.1).contains s.2.2.1) with
      | true => rw [hb] at this; cases this
      | false =>
        simp only [Bool.or_eq_false_iff, Bool.not_eq_false'] at hb
        have hm : s.2.2.1 ∈ kids (i : Int) 0 c.1 := List.contains_iff_mem.1 hb.2
        obtain ⟨j, s', e1, e2, e3⟩ := yCq _ _ _ _ hm
        have hj := (List.getElem?_eq_some_iff.1 e2).1
        have := (hpar j s' e2).2
        omega
  · cases hb : decide (48 < c.2.1.length) with
    | true => rw [hb] at h3; cases h3
    | false => simpa using hb
  · have := y9x _ _ h4 t ht
    unfold trE at this
    simp only [yQ, yk, yX, yM] at this
    obtain ⟨a, b, d, e, _⟩ := this
    have hm := y4g d
    have hv := y4g e
    cases hb : (decide (t.1 < 0) || decide ((c.1.length : Int) ≤ t.1) || decide (t.2.2.1 < 0) || decide ((c.1.length : Int) ≤ t.2.2.1)) with
    | true => rw [hb] at a; cases a
    | false =>
      simp only [Bool.or_eq_false_iff, decide_eq_false_iff_not] at hb
      refine ⟨by omega, by omega, by omega, by omega, ?_, hm.1, hm.2, hv.1, hv.2⟩
      cases hn : isNm t.2.1 with
      | true => rfl
      | false => unfold nmE at b; rw [hn] at b; cases b
  · cases hb : decide (8 < (evts c.2.1).length) with
    | true => rw [hb] at h5; cases h5
    | false => simpa using hb
end Go.Tw
end
section
set_option linter.all false
set_option maxRecDepth 100000
namespace Go.Tw
open Go.Vx Go.Vx.B Go.Proofs
section
variable {α β γ σ : Type}
theorem y2r {body : Int → α → List α → Option (β ⊕ List α)} {fin : List α → Option β} (p : α → Bool) :
    ∀ (l : List α) (i : Int) (s : List α), s.length + l.length ≤ memMax → (∀ i e s, e ∈ l → s.length + 1 ≤ memMax → body i e s = some (.inr (bif p e then s ++ [e] else s))) → yE body fin i l s = fin (s ++ l.filter p)
  | [], i, s, _, _ => by simp [y24]
  | e :: l, i, s, hl, h => by
    simp only [List.length_cons] at hl
    rw [yZ, h i e s (by simp) (by omega)]
    simp only [Option.bind_some]
    cases hp : p e with
    | true =>
      rw [cond_true, y2r p l (i + 1) (s ++ [e]) (by simp; omega) fun i e s he hs => h i e s (by simp [he]) hs]
      simp [List.filter_cons, hp]
    | false =>
      rw [cond_false, y2r p l (i + 1) s (by omega) fun i e s he hs => h i e s (by simp [he]) hs]
      simp [List.filter_cons, hp]
end
def y0V : Int → List Sta → List Int
  | _, [] => []
  | k, s :: l => (if (s.2.2.1 == -1) = true then [k] else []) ++ y0V (k + 1) l
theorem y75 (c : Cha) (i : Nat) (s : Sta) (h : c.1[i]? = some s) : yEo c (i : Int) = some (s.2.2.1 == -1, ()) := by
  unfold yEo yHZ
  rw [y1l, h]
  rfl
def ent (c : Cha) : Nat → Int → Int
  | 0, i => i
  | k + 1, i => match c.1[i.toNat]? with
    | some s => if s.2.2.1 = -1 then i else ent c k s.2.2.1
    | none => i
def entr (c : Cha) (i : Int) : Int := ent c 17 i
def IsLf (c : Cha) (i : Int) : Prop := 0 ≤ i ∧ i < c.1.length ∧ ∃ s, c.1[i.toNat]? = some s ∧ s.2.2.1 = -1
theorem y4s {α : Type} (l : List α) {i : Int} (h : 0 ≤ i) : idx l i = l[i.toNat]? := by unfold idx; rw [if_pos h]
theorem y53 (c : Cha) (hc : Valid c) : ∀ (k r : Nat) (i : Int), 0 ≤ i → i < c.1.length → (c.1.length : Int) - i ≤ k → (c.1.length : Int) - i ≤ r →
    y0k (fun s__ => yFj c s__) r i = some (ent c k i, ()) ∧ IsLf c (ent c k i)
  | 0, r, i, h0, h1, hk, hr => by omega
  | k + 1, 0, i, h0, h1, hk, hr => by omega
  | k + 1, r + 1, i, h0, h1, hk, hr => by
    have hlt : i.toNat < c.1.length := by omega
    have hg : c.1[i.toNat]? = some c.1[i.toNat] := List.getElem?_eq_getElem hlt
    have hin := hc.initial i.toNat _ hg
    unfold y0k yFj ent
    rw [y4s _ h0, hg]
    simp only [Option.bind_some]
    by_cases h : c.1[i.toNat].2.2.1 = -1
    · rw [if_pos h, bifF (show (c.1[i.toNat].2.2.1 != -1) = false by simp [h])]
      exact ⟨rfl, h0, h1, _, hg, h⟩
    · rw [if_neg h, bifT (show (c.1[i.toNat].2.2.1 != -1) = true by simpa using h)]
      simp only [Option.bind_some]
      exact y53 c hc k r c.1[i.toNat].2.2.1 (by omega) (by omega) (by omega) (by omega)
theorem yAb (c : Cha) (hc : Valid c) (i : Int) (h0 : 0 ≤ i) (h1 : i < c.1.length) : zW_M c i = some (entr c i, ()) := by
  have := hc.few
  unfold zW_M entr
  exact (y53 c hc 17 wMax i h0 h1 (by omega) (by unfold wMax; omega)).1
theorem y4i (c : Cha) (hc : Valid c) (i : Int) (h0 : 0 ≤ i) (h1 : i < c.1.length) : IsLf c (entr c i) := by
  have := hc.few
  unfold entr
  exact (y53 c hc 17 wMax i h0 h1 (by omega) (by unfold wMax; omega)).2
def fitB (s : Int) (e : List UInt8) (v : Int) (t : Tra) : Bool := t.1 == s && t.2.1 == e && yb .i64 .and v t.2.2.2.1 == t.2.2.2.2.1
def tk (c : Cha) (e : List UInt8) (v : Int) : Nat → Int → List Tra
  | 0, _ => []
  | k + 1, s => if s < 0 then [] else match c.1[s.toNat]? with
    | none => []
    | some st => if (c.2.1.filter (fitB s e v)).length = 0 then tk c e v k st.2.1 else c.2.1.filter (fitB s e v)
def y3f (c : Cha) (leaf : Int) (e : List UInt8) (v : Int) : List Tra := tk c e v 17 leaf
theorem yFT : ∀ v m : Fin 16, 0 ≤ yb .i64 .and (v.val : Int) (m.val : Int) ∧ yb .i64 .and (v.val : Int) (m.val : Int) ≤ 15 := by decide +kernel
theorem yIa : ∀ v m : Fin 16, eqV (.arr 4 .bool) (z06 (v.val : Int)).1 (z06 (m.val : Int)).1 = ((v.val : Int) == (m.val : Int)) := by
  unfold z06
  decide +kernel
theorem yNH {v m x : Int} (hv : 0 ≤ v ∧ v ≤ 15) (hm : 0 ≤ m ∧ m ≤ 15) (hx : 0 ≤ x ∧ x ≤ 15) : eqV (.arr 4 .bool) (z06 (yb .i64 .and v m)).1 (z06 x).1 = (yb .i64 .and v m == x) := by
  have h1 := yFT ⟨v.toNat, by omega⟩ ⟨m.toNat, by omega⟩
  simp only at h1
  rw [Int.toNat_of_nonneg hv.1, Int.toNat_of_nonneg hm.1] at h1
  have h2 := yIa ⟨(yb .i64 .and v m).toNat, by omega⟩ ⟨x.toNat, by omega⟩
  simp only at h2
  rw [Int.toNat_of_nonneg h1.1, Int.toNat_of_nonneg hx.1] at h2
  exact h2
def tup5 (t : Tra) : Int × List UInt8 × Int × Int × Int := (t.1, t.2.1, t.2.2.1, t.2.2.2.1, t.2.2.2.2.1)
def fitF (s : Int) (e : List UInt8) (v : Int) (x : Int × Int × List UInt8 × Int × Int × Int) (t : Tra) : Int × Int × List UInt8 × Int × Int × Int := bif fitB s e v t then (x.1 + 1, tup5 t) else x
theorem y6t (s : Int) (e : List UInt8) (v : Int) : ∀ (l : List Tra) (n : Int) (d : Tra), l.foldl (fitF s e v) (n, tup5 d) = (n + (l.filter (fitB s e v)).length, tup5 ((l.filter (fitB s e v)).getLastD d))
  | [], n, d => by simp
  | t :: l, n, d => by
    rw [List.foldl_cons, List.filter_cons]
    unfold fitF
    cases h : fitB s e v t with
    | true =>
      rw [cond_true, if_pos rfl]
      refine (y6t s e v l (n + 1) t).trans ?_
      rw [List.length_cons, List.getLastD_cons]
      congr 1
      omega
    | false =>
      rw [cond_false, if_neg (by simp)]
      exact y6t s e v l n d
def tra0 : Tra := (0, [], 0, 0, 0, ())
theorem yHA (c : Cha) (hl : c.2.1.length ≤ 1000) (p2 : Inp) (s : Int) :
    yE (fun i__ e__ s__ => y8J c p2 s 0 [] 0 0 0 i__ e__ s__.1 s__.2.1 s__.2.2.1 s__.2.2.2.1 s__.2.2.2.2.1 s__.2.2.2.2.2) (fun s__ => y80 c p2 s 0 [] 0 0 0 s__.1 s__.2.1 s__.2.2.1 s__.2.2.2.1 s__.2.2.2.2.1 s__.2.2.2.2.2) 0 c.2.1 (0, 0, [], 0, 0, 0) =
      bif (c.2.1.filter (fitB s p2.1 p2.2.1)).length == 0 then (Option.bind (idx c.1 s) fun (v17 : Sta) => (some (Sum.inr (v17.2.1)))) else some (.inl (((c.2.1.filter (fitB s p2.1 p2.2.1)).length : Int), (c.2.1.filter (fitB s p2.1 p2.2.1)).getLastD tra0, ())) := by
  have h := (y3d (body := fun i__ e__ s__ => y8J c p2 s 0 [] 0 0 0 i__ e__ s__.1 s__.2.1 s__.2.2.1 s__.2.2.2.1 s__.2.2.2.2.1 s__.2.2.2.2.2) (fin := fun s__ => y80 c p2 s 0 [] 0 0 0 s__.1 s__.2.1 s__.2.2.1 s__.2.2.2.1 s__.2.2.2.2.1 s__.2.2.2.2.2) c.2.1
    (fun i x => 0 ≤ x.1 ∧ x.1 ≤ i) (fitF s p2.1 p2.2.1) c.2.1 [] (0, tup5 tra0) rfl (by simp) (fun i e x he hx => by
      have hi := (List.getElem?_eq_some_iff.1 he).1
      have hw : IntKind.i64.wrap (x.1 + 1) = x.1 + 1 := y2e (by omega) (by omega)
      refine ⟨?_, ?_⟩
      · unfold y8J fitF fitB
        rw [hw]
        cases (e.1 == s) <;> cases (e.2.1 == p2.1) <;> cases (yb .i64 .and p2.2.1 e.2.2.2.1 == e.2.2.2.2.1) <;> rfl
      · unfold fitF
        cases fitB s p2.1 p2.2.1 e with
        | true => simp only [cond_true]; omega
        | false => simp only [cond_false]; omega)).1
  refine (show _ = _ from h).trans ?_
  rw [y6t, Int.zero_add]
  unfold y80
  by_cases h0 : (c.2.1.filter (fitB s p2.1 p2.2.1)).length = 0
  · rw [bifT (show ((c.2.1.filter (fitB s p2.1 p2.2.1)).length == 0) = true by simp [h0]), bifF (yF (by simp only; omega))]
  · rw [bifF (show ((c.2.1.filter (fitB s p2.1 p2.2.1)).length == 0) = false by simpa using h0), bifT (y6 (by simp only; omega))]
    rfl
theorem y7b (c : Cha) (hc : Valid c) (p2 : Inp) : ∀ (k r : Nat) (s : Int), -1 ≤ s → s < c.1.length → s + 1 ≤ k → s + 1 < r →
    y0k (fun s__ => yAW c p2 0 [] 0 0 0 s__) r s = some (((tk c p2.1 p2.2.1 k s).length : Int), (tk c p2.1 p2.2.1 k s).getLastD tra0, ())
  | k, 0, s, h0, h1, hk, hr => by omega
  | k, r + 1, s, h0, h1, hk, hr => by
    unfold y0k yAW
    by_cases hs : s < 0
    · have : tk c p2.1 p2.2.1 k s = [] := by cases k <;> simp [tk, hs]
      rw [this, bifF (yF (show ¬ s ≥ 0 by omega))]
      rfl
    · obtain ⟨k, rfl⟩ : ∃ j, k = j + 1 := ⟨k - 1, by omega⟩
      have hlt : s.toNat < c.1.length := by omega
      have hg : c.1[s.toNat]? = some c.1[s.toNat] := List.getElem?_eq_getElem hlt
      have hp := hc.parent s.toNat _ hg
      have hm := hc.moves
      rw [bifT (y6 (show s ≥ 0 by omega)), bifT (y6 (show c.2.1.length < lenMax by unfold lenMax; omega)), yHA c (by omega)]
      unfold tk
      rw [if_neg hs, hg]
      simp only
      by_cases hz : (c.2.1.filter (fitB s p2.1 p2.2.1)).length = 0
      · rw [bifT (show ((c.2.1.filter (fitB s p2.1 p2.2.1)).length == 0) = true by simp [hz]), if_pos hz, y4s _ (by omega), hg]
        simp only [Option.bind_some]
        exact y7b c hc p2 k r c.1[s.toNat].2.1 (by omega) (by omega) (by omega) (by omega)
      · rw [bifF (show ((c.2.1.filter (fitB s p2.1 p2.2.1)).length == 0) = false by simpa using hz), if_neg hz]
        rfl
theorem yH6 (c : Cha) (hc : Valid c) (leaf : Int) (p2 : Inp) (h0 : -1 ≤ leaf) (h1 : leaf < c.1.length) : yAT c leaf p2 = some (((y3f c leaf p2.1 p2.2.1).length : Int), (y3f c leaf p2.1 p2.2.1).getLastD tra0, ()) := by
  have := hc.few
  unfold yAT y3f
  exact y7b c hc p2 17 wMax leaf h0 h1 (by omega) (by unfold wMax; omega)
theorem y6A (c : Cha) (e : List UInt8) (v : Int) : ∀ (k : Nat) (s : Int) (t : Tra), t ∈ tk c e v k s → t ∈ c.2.1
  | 0, s, t, h => by cases h
  | k + 1, s, t, h => by
    unfold tk at h
    split at h
    · cases h
    · split at h
      · cases h
      · split at h
        · exact y6A c e v k _ t h
        · exact (List.mem_filter.1 h).1
def stp (c : Cha) (leaf : Int) (e : List UInt8) (v : Int) : Int × Int :=
  match y3f c leaf e v with
  | [] => (leaf, 0)
  | [t] => (entr c t.2.2.1, 0)
  | _ => (0, 30)
theorem yIe (c : Cha) (hc : Valid c) (s : Int) (p2 : Inp) (hv : 0 ≤ p2.2.1 ∧ p2.2.1 ≤ 15) :
    (zC_M c.2.1 fun (x : Tra × Unit) => zP_M x.fst s p2) = some (c.2.1.filter (fitB s p2.1 p2.2.1), ()) := by
  have hmem : memMax = 68719476736 := rfl
  have hm := hc.moves
  unfold zC_M
  rw [bifT (y6 (show c.2.1.length < lenMax by unfold lenMax; omega))]
  refine (y2r (fitB s p2.1 p2.2.1) c.2.1 0 [] (by simp; omega) fun i t xs ht hs => ?_).trans ?_
  · have h := hc.tra t ht
    have hmet := yNH hv ⟨h.2.2.2.2.2.1, h.2.2.2.2.2.2.1⟩ h.2.2.2.2.2.2.2
    unfold yHv
    have hb : zP t s p2 = (fitB s p2.1 p2.2.1 t, ()) := by
      unfold zP zL fitB
      simp only
      rw [hmet]
      cases (t.1 == s) <;> cases (t.2.1 == p2.1) <;> rfl
    show (Option.bind (some (zP t s p2)) _) = _
    rw [hb]
    simp only [Option.bind_some]
    cases fitB s p2.1 p2.2.1 t with
    | true => rw [cond_true, bifT (y6 hs)]; rfl
    | false => rfl
  · rw [List.nil_append]; rfl
theorem yEj (c : Cha) (hc : Valid c) (leaf : Int) (p2 : Inp) (hv : 0 ≤ p2.2.1 ∧ p2.2.1 ≤ 15) (s : Int) (st : Sta) (h0 : 0 ≤ s) (hg : c.1[s.toNat]? = some st) :
    y9t leaf c p2 0 false false s = some (match c.2.1.filter (fitB s p2.1 p2.2.1) with
      | [] => .inr st.2.1
      | [t] => .inl ((entr c t.2.2.1, false, false, ()), ())
      | _ => .inl ((leaf, false, true, ()), ())) := by
  have hall : ∀ t ∈ c.2.1.filter (fitB s p2.1 p2.2.1), t ∈ c.2.1 := fun t ht => (List.mem_filter.1 ht).1
  unfold y9t
  rw [bifT (show (s != -1) = true by simp; omega), yIe c hc s p2 hv, y4s _ h0, hg]
  simp only [Option.bind_some]
  generalize c.2.1.filter (fitB s p2.1 p2.2.1) = fs at hall
  match fs with
  | [] => rfl
  | [t] =>
    have ht := hc.tra t (hall t (by simp))
    have e : idx [t] 0 = some t := rfl
    simp only [List.length_cons, List.length_nil]
    rw [bifF (by rfl), bifT (by rfl), e]
    simp only [Option.bind_some]
    rw [yAb c hc _ ht.2.2.1 ht.2.2.2.1]
    simp only [Option.bind_some]
  | t :: u :: l =>
    simp only [List.length_cons]
    rw [bifF (beq_eq_false_iff_ne.2 (by omega)), bifF (beq_eq_false_iff_ne.2 (by omega))]
theorem y7y (c : Cha) (hc : Valid c) (leaf : Int) (p2 : Inp) (hv : 0 ≤ p2.2.1 ∧ p2.2.1 ≤ 15) : ∀ (k r : Nat) (s : Int), -1 ≤ s → s < c.1.length → s + 1 ≤ k → s + 1 < r →
    y0k (fun s__ => y9t leaf c p2 0 false false s__) r s = some (match tk c p2.1 p2.2.1 k s with
      | [] => ((leaf, true, false, ()), ())
      | [t] => ((entr c t.2.2.1, false, false, ()), ())
      | _ => ((leaf, false, true, ()), ()))
  | k, 0, s, h0, h1, hk, hr => by omega
  | k, r + 1, s, h0, h1, hk, hr => by
    unfold y0k
    by_cases hs : s < 0
    · have : tk c p2.1 p2.2.1 k s = [] := by cases k <;> simp [tk, hs]
      have hb : y9t leaf c p2 0 false false s = some (.inl ((leaf, true, false, ()), ())) := by
        unfold y9t
        rw [bifF (show (s != -1) = false by simp; omega)]
      rw [this, hb]
      rfl
    · obtain ⟨k, rfl⟩ : ∃ j, k = j + 1 := ⟨k - 1, by omega⟩
      have hlt : s.toNat < c.1.length := by omega
      have hg : c.1[s.toNat]? = some c.1[s.toNat] := List.getElem?_eq_getElem hlt
      have hp := hc.parent s.toNat _ hg
      have hb := yEj c hc leaf p2 hv s _ (by omega) hg
      unfold tk
      rw [if_neg hs, hg]
      simp only [hb, Option.bind_some]
      generalize c.2.1.filter (fitB s p2.1 p2.2.1) = fs
      match fs with
      | [] =>
        simp only [List.length_nil, if_true]
        exact y7y c hc leaf p2 hv k r c.1[s.toNat].2.1 (by omega) (by omega) (by omega) (by omega)
      | [t] => rfl
      | t :: u :: l => rfl
theorem yHw (c : Cha) (hc : Valid c) (leaf : Int) (p2 : Inp) (h0 : 0 ≤ leaf) (h1 : leaf < c.1.length) (hv : 0 ≤ p2.2.1 ∧ p2.2.1 ≤ 15) :
    zg_M c leaf p2 = some (match y3f c leaf p2.1 p2.2.1 with
      | [] => ((leaf, true, false, ()), ())
      | [t] => ((entr c t.2.2.1, false, false, ()), ())
      | _ => ((leaf, false, true, ()), ())) := by
  have := hc.few
  unfold zg_M y3f
  exact y7y c hc leaf p2 hv 17 wMax leaf (by omega) h1 (by omega) (by unfold wMax; omega)
end Go.Tw
end
