import Derived.Test.YtclcodeedopemaaGreatBB
import Derived.Test.YtclcodeedopemaaGreatBC
section
set_option linter.all false
set_option maxRecDepth 100000
namespace Go.Tw
open Go.Vx Go.Vx.B Go.Proofs
section
variable {α β γ σ : Type}
theorem y35 {body : Int → α → σ → Option (β ⊕ σ)} {fin : σ → Option β} {i : Int} {s : σ} : yH body fin i [] s = fin s := rfl
theorem yf {body : Int → α → σ → Option (β ⊕ σ)} {fin : σ → Option β} {i : Int} {e : α} {l : List α} {s : σ} : yH body fin i (e :: l) s = (body i e s).bind fun z => match z with
    | .inl y => some y
    | .inr s' => yH body fin (i + 1) l s' := rfl
theorem y1V {body : Int → α → Unit → Option (β ⊕ Unit)} {fin : Unit → Option β} (p : α → Option β) :
    ∀ (l : List α) (i : Int), (∀ i e, e ∈ l → body i e () = some (match p e with | some y => .inl y | none => .inr ())) → yH body fin i l () = match l.findSome? p with | some y => some y | none => fin ()
  | [], i, _ => rfl
  | e :: l, i, h => by
    rw [yf, h i e (by simp), List.findSome?_cons]
    cases p e with
    | none => exact y1V p l (i + 1) fun i e he => h i e (by simp [he])
    | some y => rfl
theorem y1b {body : Int → α → List γ → Option (β ⊕ List γ)} {fin : List γ → Option β} (f : α → γ) :
    ∀ (l : List α) (i : Int) (s : List γ), s.length + l.length ≤ memMax → (∀ i e s, e ∈ l → s.length + 1 ≤ memMax → body i e s = some (.inr (s ++ [f e]))) → yH body fin i l s = fin (s ++ l.map f)
  | [], i, s, _, _ => by simp [y35]
  | e :: l, i, s, hl, h => by
    simp only [List.length_cons] at hl
    rw [yf, h i e s (by simp) (by omega)]
    simp only [Option.bind_some]
    rw [y1b f l (i + 1) (s ++ [f e]) (by simp; omega) fun i e s he hs => h i e s (by simp [he]) hs]
    simp
end
theorem y6 {p : Prop} [Decidable p] (h : p) : decide p = true := decide_eq_true h
theorem yG {p : Prop} [Decidable p] (h : ¬ p) : decide p = false := decide_eq_false h
theorem bifT {α : Type} {c : Bool} {a b : α} (h : c = true) : (bif c then a else b) = a := by rw [h]; rfl
theorem bifF {α : Type} {c : Bool} {a b : α} (h : c = false) : (bif c then a else b) = b := by rw [h]; rfl
def ckR (n lo hi : Int) : Int := if n < lo ∨ hi < n then 3 else 0
def y2r (l : List Int) : Int := (l.find? (· != 0)).getD 0
theorem y4S (n lo hi : Int) : zf n lo hi = (ckR n lo hi, ()) := by
  unfold zf ckR
  by_cases h1 : n < lo
  · rw [bifT (y6 h1), if_pos (.inl h1)]
  · rw [bifF (yG h1)]
    by_cases h2 : n > hi
    · rw [bifT (y6 h2), if_pos (.inr h2)]
    · rw [bifF (yG h2), if_neg (by omega)]
theorem y2l (c : Bool) (e : Int) : z0Y c e = (bif c then e else 0, ()) := by
  unfold z0Y
  cases c <;> rfl
theorem y73 (n lo hi : Int) : z0I n lo hi = (ckR n lo hi, ()) := by
  unfold z0I ckR
  by_cases h1 : n < lo
  · rw [bifT (y6 h1), y2l, cond_true, if_pos (.inl h1)]
  · rw [bifF (yG h1), y2l]
    by_cases h2 : n > hi
    · rw [y6 h2, cond_true, if_pos (.inr h2)]
    · rw [yG h2, cond_false, if_neg (by omega)]
theorem y7k (l : List Int) : l.findSome? (fun e => if e != 0 then some (e, ()) else none) = (l.find? (· != 0)).map fun e => (e, ()) := by
  induction l with
  | nil => rfl
  | cons e l ih =>
    rw [List.findSome?_cons, List.find?_cons]
    cases he : (e != 0) with
    | true => rfl
    | false => simpa using ih
theorem y0C (l : List Int) (h : l.length < lenMax) : y0k l = some (y2r l, ()) := by
  unfold y0k
  rw [bifT (y6 h), y1V (fun e => if e != 0 then some (e, ()) else none) l 0 (fun i e _ => by
    unfold yDR
    cases he : (e != 0) <;> rfl), y7k]
  unfold y2r yEF
  cases l.find? (· != 0) <;> rfl
theorem y1v {α : Type} (l : List α) (i : Nat) : idx l (i : Int) = l[i]? := by
  unfold idx
  rw [if_pos (Int.natCast_nonneg i)]
  rfl
theorem y6r {α β : Type} {body : Int → α → Unit → Option (β ⊕ Unit)} {fin : Unit → Option β} (xs : List α) (p : α → Option β) :
    ∀ (l done : List α), xs = done ++ l → (∀ (i : Nat) e, xs[i]? = some e → body (i : Int) e () = some (match p e with | some y => .inl y | none => .inr ())) →
      yH body fin (done.length : Int) l () = match l.findSome? p with | some y => some y | none => fin ()
  | [], done, _, _ => rfl
  | e :: l, done, hx, h => by
    rw [yf, h done.length e (by rw [hx]; simp), List.findSome?_cons]
    cases p e with
    | none =>
      have := y6r (body := body) (fin := fin) xs p l (done ++ [e]) (by rw [hx]; simp) h
      simp only [List.length_append, List.length_cons, List.length_nil] at this
      exact this
    | some y => rfl
theorem yAR (l : List Int) (h : l.length < lenMax) : y9F l = some (y2r l, ()) := by
  unfold y9F
  have := y6r (body := fun i__ e__ s__ => yBE l i__ e__) (fin := fun s__ => yBJ l) l (fun e => if e != 0 then some (e, ()) else none) l [] rfl (fun i e hi => by
    unfold yBE
    cases he : (e != 0) with
    | true => rw [y1v, hi]; rfl
    | false => rfl)
  rw [bifT (y6 h)]
  refine this.trans ?_
  rw [y7k]
  unfold y2r yBJ
  cases l.find? (· != 0) <;> rfl
def y41 (c : Nat) : Bool := decide (65 ≤ c ∧ c ≤ 90 ∨ 97 ≤ c ∧ c ≤ 122)
def y6a (c : Nat) : Bool := decide (48 ≤ c ∧ c ≤ 57 ∨ c = 95)
def nmOk : Bool → List UInt8 → Bool
  | _, [] => true
  | first, c :: l => (y41 c.toNat || (!first && y6a c.toNat)) && nmOk false l
def isNm (s : List UInt8) : Bool := nmOk true s && decide (0 < s.length ∧ s.length ≤ 24)
theorem y8b : ∀ (s0 s : List UInt8) (i : Int), 0 ≤ i → yH (fun i__ e__ s__ => y7j s0 i__ e__) (fun s__ => yCq s0) i s () = some (nmOk (decide (i = 0)) s, ())
  | s0, [], i, _ => rfl
  | s0, c :: l, i, hi => by
    rw [yf]
    have ih := y8b s0 l (i + 1) (by omega)
    have e0 : decide (i + 1 = 0) = false := yG (by omega)
    rw [e0] at ih
    unfold nmOk
    have hb : y7j s0 i c = some (if (y41 c.toNat || (!decide (i = 0) && y6a c.toNat)) = true then .inr () else .inl (false, ())) := by
      unfold y7j y5B y41 y6a
      have g3 : (i == 0) = decide (i = 0) := by by_cases h : i = 0 <;> simp [h]
      have g4 : ((c.toNat : Int) != 95) = !decide ((c.toNat : Int) = 95) := by by_cases h : (c.toNat : Int) = 95 <;> simp [h]
      rw [g3, g4]
      by_cases h1 : (97 : Int) ≤ c.toNat <;> by_cases h2 : (c.toNat : Int) ≤ 122 <;> by_cases h3 : (65 : Int) ≤ c.toNat <;> by_cases h4 : (c.toNat : Int) ≤ 90 <;> by_cases h5 : (c.toNat : Int) < 48 <;> by_cases h6 : (c.toNat : Int) > 57 <;> by_cases h7 : (c.toNat : Int) = 95 <;> by_cases h8 : i = 0 <;>
        first
        | omega
        | (have g1 : (decide (65 ≤ c.toNat ∧ c.toNat ≤ 90 ∨ 97 ≤ c.toNat ∧ c.toNat ≤ 122)) = decide ((65 : Int) ≤ c.toNat ∧ (c.toNat : Int) ≤ 90 ∨ (97 : Int) ≤ c.toNat ∧ (c.toNat : Int) ≤ 122) := by
            apply decide_eq_decide.2; omega
           have g2 : (decide (48 ≤ c.toNat ∧ c.toNat ≤ 57 ∨ c.toNat = 95)) = decide (¬ (c.toNat : Int) < 48 ∧ ¬ (c.toNat : Int) > 57 ∨ (c.toNat : Int) = 95) := by
            apply decide_eq_decide.2; omega
           rw [g1, g2]
           simp [h1, h2, h3, h4, h5, h6, h7, h8])
    rw [hb]
    simp only [Option.bind_some]
    by_cases hc : (y41 c.toNat || (!decide (i = 0) && y6a c.toNat)) = true
    · rw [if_pos hc, hc, Bool.true_and]
      exact ih
    · rw [if_neg hc, Bool.eq_false_iff.2 hc]
      rfl
theorem yKk (s : List UInt8) : yCT s = some (isNm s, ()) := by
  unfold yCT isNm
  by_cases h0 : s.length = 0
  · have : ((s.length : Int) == 0) = true := by simp [h0]
    rw [bifT this, show decide (0 < s.length ∧ s.length ≤ 24) = false from yG (by omega), Bool.and_false]
  · have : ((s.length : Int) == 0) = false := by simpa using h0
    rw [bifF this]
    by_cases h1 : 24 < s.length
    · rw [bifT (y6 (by omega)), show decide (0 < s.length ∧ s.length ≤ 24) = false from yG (by omega), Bool.and_false]
    · rw [bifF (yG (show ¬ ((s.length : Int) > 24) by omega)), bifT (y6 (show s.length < lenMax by unfold lenMax; omega)), y8b s s 0 (by omega), y6 rfl]
      rw [show decide (0 < s.length ∧ s.length ≤ 24) = true from y6 ⟨by omega, by omega⟩, Bool.and_true]
theorem yLI {bs : List UInt8} {i : Nat} {c : UInt8} (h : bs[i]? = some c) : (⟨bs.toArray⟩ : ByteArray).get! i = c := by
  show bs.toArray[i]! = c
  rw [getElem!_def]
  simp [h]
theorem yEV {bs : List UInt8} {i : Nat} {c : UInt8} (h : bs[i]? = some c) (hc : c.toNat < 128) : yl bs (i : Int) = ((c.toNat : Int), (i : Int) + 1) := by
  unfold yl Utf8.decode
  have h0 : (⟨bs.toArray⟩ : ByteArray).get! ((i : Int).toNat + 0) = c := by rw [Int.toNat_natCast, Nat.add_zero]; exact yLI h
  simp only [h0]
  rw [if_pos hc]
  rfl
theorem yGT {bs : List UInt8} {i : Nat} {c : UInt8} (h : bs[i]? = some c) (hc : 128 ≤ c.toNat) : 128 ≤ (yl bs (i : Int)).1 := by
  unfold yl Utf8.decode
  have h0 : (⟨bs.toArray⟩ : ByteArray).get! ((i : Int).toNat + 0) = c := by rw [Int.toNat_natCast, Nat.add_zero]; exact yLI h
  simp only [h0]
  rw [if_neg (by omega)]
  have he : Utf8.runeError = 65533 := rfl
  split
  · split
    · rename_i h2; show (128 : Int) ≤ ((_ : Nat) : Int); omega
    · rw [he]; decide
  · split
    · split
      · rename_i h2; simp only [Bool.and_eq_true, decide_eq_true_eq] at h2; show (128 : Int) ≤ ((_ : Nat) : Int); omega
      · rw [he]; decide
    · split
      · split
        · rename_i h2; simp only [Bool.and_eq_true, decide_eq_true_eq] at h2; show (128 : Int) ≤ ((_ : Nat) : Int); omega
        · rw [he]; decide
      · rw [he]; decide
def y92 (r : Int) : Bool := decide (65 ≤ r ∧ r ≤ 90 ∨ 97 ≤ r ∧ r ≤ 122)
def yD1 (r : Int) : Bool := decide (48 ≤ r ∧ r ≤ 57 ∨ r = 95)
theorem yFb (s str : List UInt8) (pos : Int) : y8J s str pos = some (if (y92 (yl str pos).1 || (!decide (pos = 0) && yD1 (yl str pos).1)) = true then .inr () else .inl (false, ())) := by
  unfold y8J y46 y6R y92 yD1
  generalize (yl str pos).1 = r
  have g3 : (pos == 0) = decide (pos = 0) := by by_cases h : pos = 0 <;> simp [h]
  have g4 : (r == 95) = decide (r = 95) := by by_cases h : r = 95 <;> simp [h]
  rw [g3, g4]
  by_cases h1 : r ≥ 97 <;> by_cases h2 : r ≤ 122 <;> by_cases h3 : r ≥ 65 <;> by_cases h4 : r ≤ 90 <;> by_cases h5 : r ≥ 48 <;> by_cases h6 : r ≤ 57 <;> by_cases h7 : r = 95 <;> by_cases h8 : pos = 0 <;>
    first
    | omega
    | simp [h1, h2, h3, h4, h5, h6, h7, h8]
theorem y7l (s : List UInt8) : ∀ (m i : Nat), s.length ≤ i + m → i ≤ s.length →
    y7Z s (fun i__ s__ => y8J s s i__) (fun s__ => y8P s s) m (i : Int) () = bif nmOk (decide (i = 0)) (s.drop i) then y8P s s else some (false, ())
  | m, i, hm, hi => by
    by_cases hl : i = s.length
    · have e1 : s.drop i = [] := List.drop_eq_nil_of_le (by omega)
      have e2 : decide ((i : Int) < (s.length : Int)) = false := yG (by omega)
      rw [e1]
      cases m <;> (unfold y7Z; rw [bifF e2]; rfl)
    · have hlt : i < s.length := by omega
      obtain ⟨m, rfl⟩ : ∃ k, m = k + 1 := ⟨m - 1, by omega⟩
      have hd : s.drop i = s[i] :: s.drop (i + 1) := (List.getElem_cons_drop (h := hlt)).symm
      have hg : s[i]? = some s[i] := List.getElem?_eq_getElem hlt
      have e0 : decide ((i : Int) = 0) = decide (i = 0) := decide_eq_decide.2 (by omega)
      unfold y7Z
      rw [bifT (y6 (show (i : Int) < (s.length : Int) by omega)), yFb, hd, e0]
      simp only [Option.bind_some]
      by_cases hc : s[i].toNat < 128
      · rw [yEV hg hc]
        have e1 : y92 (s[i].toNat : Int) = y41 s[i].toNat := decide_eq_decide.2 (by omega)
        have e2 : yD1 (s[i].toNat : Int) = y6a s[i].toNat := decide_eq_decide.2 (by omega)
        simp only [e1, e2, nmOk]
        by_cases hb : (y41 s[i].toNat || (!decide (i = 0) && y6a s[i].toNat)) = true
        · rw [if_pos hb, hb, Bool.true_and]
          have ih := y7l s m (i + 1) (by omega) (by omega)
          have e3 : decide (i + 1 = 0) = false := yG (by omega)
          rw [e3, show ((i + 1 : Nat) : Int) = (i : Int) + 1 by omega] at ih
          exact ih
        · rw [if_neg hb, Bool.eq_false_iff.2 hb, Bool.false_and]
          rfl
      · have h1 := yGT hg (by omega)
        have e1 : y92 (yl s (i : Int)).1 = false := yG (by omega)
        have e2 : yD1 (yl s (i : Int)).1 = false := yG (by omega)
        have e3 : y41 s[i].toNat = false := yG (by omega)
        have e4 : y6a s[i].toNat = false := yG (by omega)
        simp [e1, e2, nmOk, e3, e4]
theorem yJ3 (s : List UInt8) (h : s.length < lenMax) : yCF s = some (isNm s, ()) := by
  unfold yCF
  have := y7l s s.length 0 (by omega) (by omega)
  rw [List.drop_zero, show decide (0 = 0) = true from rfl] at this
  rw [bifT (y6 h)]
  refine (show _ = _ from this).trans ?_
  unfold isNm y8P
  cases hn : nmOk true s with
  | false => rfl
  | true =>
    rw [cond_true, Bool.true_and]
    cases s with
    | nil => rfl
    | cons c l =>
      have e : decide (((c :: l).length : Int) ≤ 24) = decide (0 < (c :: l).length ∧ (c :: l).length ≤ 24) := decide_eq_decide.2 (by simp only [List.length_cons]; omega)
      rw [← e]
      rfl
def yF (a b : Int) : Int := if a != 0 then a else b
theorem yw : y2r [] = 0 := rfl
theorem yc (a : Int) (l : List Int) : y2r (a :: l) = yF a (y2r l) := by
  unfold y2r yF
  rw [List.find?_cons]
  cases h : (a != 0) <;> rfl
theorem yZ (a : Int) : yF a 0 = a := by
  unfold yF
  by_cases h : a = 0 <;> simp [h]
theorem y2N (a b c : Int) : yF (yF a b) c = yF a (yF b c) := by
  unfold yF
  by_cases ha : a = 0 <;> by_cases hb : b = 0 <;> simp [ha, hb]
theorem y2i (s : List UInt8) : zo_M s = some (bif isNm s then 0 else 8, ()) := by
  unfold zo_M zo_m
  rw [yKk]
  cases isNm s <;> rfl
theorem y2j (s : List UInt8) (h : s.length < lenMax) : zu_M s = some (bif isNm s then 0 else 8, ()) := by
  unfold zu_M zu_m
  rw [yJ3 s h]
  simp only [Option.bind_some, y2l]
  cases isNm s <;> rfl
theorem y20 {k v : Ty} (hk : ∀ x y : k.den, eqV k x y = true ↔ x = y) : ∀ (m : List (k.den × v.den)) (x : k.den) (y : v.den) (n : k.den), yM k v (yp k v m x y) n = bif eqV k n x then some y else yM k v m n
  | [], x, y, n => rfl
  | p :: m, x, y, n => by
    unfold yp
    cases h : eqV k x p.1 with
    | true =>
      have hx := (hk _ _).1 h
      simp only [cond_true, yM]
      cases hn : eqV k n x with
      | true => rfl
      | false => rw [hx] at hn; rw [hn]; rfl
    | false =>
      simp only [cond_false, yM]
      rw [y20 hk m x y n]
      cases hp : eqV k n p.1 with
      | false => rfl
      | true =>
        have e := (hk _ _).1 hp
        cases hn : eqV k n x with
        | false => rfl
        | true =>
          have e2 := (hk _ _).1 hn
          rw [(hk _ _).2 (e2.symm.trans e)] at h
          cases h
theorem yLE : ∀ x y : (Ty.int .i64).den, eqV (.int .i64) x y = true ↔ x = y := fun x y => by
  show ((x : Int) == y) = true ↔ x = y
  exact beq_iff_eq
theorem yRI : ∀ x y : Ty.str.den, eqV .str x y = true ↔ x = y := fun x y => by
  show ((x : List UInt8) == y) = true ↔ x = y
  exact beq_iff_eq
theorem yB0 {i : Int} (h0 : -9223372036854775808 ≤ i) (h1 : i ≤ 9223372036854775807) : IntKind.i64.wrap i = i := by
  unfold IntKind.wrap IntKind.bits IntKind.signed
  simp only [Nat.reduceSub, Int.reducePow, decide_eq_true_eq, Bool.true_and]
  split <;> omega
end Go.Tw
end
section
set_option linter.all false
set_option maxRecDepth 100000
namespace Go.Tw
open Go.Vx Go.Vx.B Go.Proofs
def ev (l : List Cmd) (n : Int) : Option (List UInt8) := (l.find? fun c => c.1 == n).map fun c => c.2.2.1
end Go.Tw
end
section
set_option linter.all false
set_option maxRecDepth 100000
namespace Go.Tw
open Go.Vx Go.Vx.B Go.Proofs
abbrev nmE (s : List UInt8) : Int := bif isNm s then 0 else 8
def stE (done : List Sta) (s : Sta) : Int :=
  y2r [nmE s.1, bif done.any (fun d => d.1 == s.1) then 9 else 0, bif decide (s.2.1 < -1) || decide ((done.length : Int) ≤ s.2.1) then 11 else 0]
def stsE : List Sta → List Sta → Int
  | _, [] => 0
  | done, s :: l => yF (stE done s) (stsE (done ++ [s]) l)
def kids (p : Int) : Int → List Sta → List Int
  | _, [] => []
  | k, s :: l => (if (s.2.1 == p) = true then [k] else []) ++ kids p (k + 1) l
def fmE (ks : List Int) (s : Sta) : Int :=
  bif ks.length == 0 then (bif s.2.2.1 != -1 then 1 else 0) else (bif s.2.2.2.1 || !ks.contains s.2.2.1 then 1 else 0)
def fmsE (xs : List Sta) : Int → List Sta → Int
  | _, [] => 0
  | i, s :: l => yF (fmE (kids i 0 xs) s) (fmsE xs (i + 1) l)
def trE (n : Int) (t : Tra) : Int :=
  y2r [bif decide (t.1 < 0) || decide (n ≤ t.1) || decide (t.2.2.1 < 0) || decide (n ≤ t.2.2.1) then 10 else 0, nmE t.2.1, ckR t.2.2.2.1 0 15, ckR t.2.2.2.2.1 0 15,
    bif yP .i64 .and t.2.2.2.2.1 t.2.2.2.1 != t.2.2.2.2.1 then 1 else 0]
def trsE (n : Int) : List Tra → Int
  | [] => 0
  | t :: l => yF (trE n t) (trsE n l)
def evF (s : List (List UInt8)) (t : Tra) : List (List UInt8) := bif s.contains t.2.1 then s else s ++ [t.2.1]
def evts (l : List Tra) : List (List UInt8) := l.foldl evF []
def yQ (c : Cha) : Int :=
  if c.1.length = 0 then 12 else if 16 < c.1.length then 5 else
  yF (stsE [] c.1) (yF (fmsE c.1 0 c.1) (yF (bif decide (48 < c.2.1.length) then 5 else 0) (yF (trsE c.1.length c.2.1) (bif decide (8 < (evts c.2.1).length) then 5 else 0))))
section
variable {α β σ : Type}
theorem y3i {body : Int → α → σ → Option (β ⊕ σ)} {fin : σ → Option β} (xs : List α) (Q : Nat → σ → Prop) (g : σ → α → σ) :
    ∀ (l done : List α) (s : σ), xs = done ++ l → Q done.length s → (∀ (i : Nat) e s, xs[i]? = some e → Q i s → body (i : Int) e s = some (.inr (g s e)) ∧ Q (i + 1) (g s e)) →
      yH body fin (done.length : Int) l s = fin (l.foldl g s) ∧ Q xs.length (l.foldl g s)
  | [], done, s, hx, hq, _ => ⟨rfl, by rw [hx]; simpa using hq⟩
  | e :: l, done, s, hx, hq, h => by
    obtain ⟨h1, h2⟩ := h done.length e s (by rw [hx]; simp) hq
    have ih := y3i (body := body) (fin := fin) xs Q g l (done ++ [e]) (g s e) (by rw [hx]; simp) (by simpa using h2) h
    simp only [List.length_append, List.length_cons, List.length_nil] at ih
    rw [yf, h1]
    exact ih
end
theorem yD5 {α β : Type} (p : α → Bool) (y : β) (l : List α) : l.findSome? (fun e => if p e = true then some y else none) = if l.any p = true then some y else none := by
  induction l with
  | nil => rfl
  | cons e l ih =>
    rw [List.findSome?_cons, List.any_cons, ih]
    cases p e <;> simp
theorem y7t (l : List (List UInt8)) (s : List UInt8) (h : l.length < lenMax) : y5m l s = some (l.contains s, ()) := by
  unfold y5m
  rw [bifT (y6 h), y1V (fun e => if (e == s) = true then some (true, ()) else none) l 0 (fun i e _ => by
    unfold yEB
    cases (e == s) <;> rfl), yD5]
  have : l.any (fun e => e == s) = l.contains s := by rw [List.contains_eq_any_beq]; congr 1; funext x; exact Bool.beq_comm
  rw [this]
  cases l.contains s <;> rfl
theorem yGZ (l : List Int) (s : Int) (h : l.length < lenMax) : yBF l s = some (l.contains s, ()) := by
  unfold yBF
  rw [bifT (y6 h), y1V (fun e => if (e == s) = true then some (true, ()) else none) l 0 (fun i e _ => by
    unfold yDy
    cases (e == s) <;> rfl), yD5]
  have : l.any (fun e => e == s) = l.contains s := by rw [List.contains_eq_any_beq]; congr 1; funext x; exact Bool.beq_comm
  rw [this]
  cases l.contains s <;> rfl
theorem y6l (xs : List Int) (v : Int) : ∀ (l : List Int) (i : Int), 0 ≤ i → ∃ k, yH (fun i__ e__ s__ => yHL xs v i__ e__) (fun s__ => yKL xs v) i l () = some (k, ()) ∧ decide (k ≥ 0) = l.contains v
  | [], i, _ => ⟨-1, rfl, rfl⟩
  | e :: l, i, hi => by
    rw [yf]
    unfold yHL
    rw [List.contains_cons]
    cases h : (v == e) with
    | true => exact ⟨i, rfl, by rw [Bool.true_or]; exact y6 hi⟩
    | false =>
      obtain ⟨k, h1, h2⟩ := y6l xs v l (i + 1) (by omega)
      exact ⟨k, h1, by rw [h2]; simp⟩
theorem y6Z (xs : List (List UInt8)) (v : List UInt8) : ∀ (l : List (List UInt8)) (i : Int), 0 ≤ i → ∃ k, yH (fun i__ e__ s__ => yHJ xs v i__ e__) (fun s__ => yK9 xs v) i l () = some (k, ()) ∧ decide (k ≥ 0) = l.contains v
  | [], i, _ => ⟨-1, rfl, rfl⟩
  | e :: l, i, hi => by
    rw [yf]
    unfold yHJ
    rw [List.contains_cons]
    cases h : (v == e) with
    | true => exact ⟨i, rfl, by rw [Bool.true_or]; exact y6 hi⟩
    | false =>
      obtain ⟨k, h1, h2⟩ := y6Z xs v l (i + 1) (by omega)
      exact ⟨k, h1, by rw [h2]; simp⟩
theorem y3J (l : List Int) (v : Int) (h : l.length < lenMax) : zG_M l v = some (l.contains v, ()) := by
  unfold zG_M zG_m zO_M
  obtain ⟨k, h1, h2⟩ := y6l l v l 0 (by omega)
  rw [bifT (y6 h), h1]
  simp only [Option.bind_some]
  rw [h2]
theorem yB5 (l : List (List UInt8)) (v : List UInt8) (h : l.length < lenMax) : zA_M l v = some (l.contains v, ()) := by
  unfold zA_M zA_m zC_M
  obtain ⟨k, h1, h2⟩ := y6Z l v l 0 (by omega)
  rw [bifT (y6 h), h1]
  simp only [Option.bind_some]
  rw [h2]
theorem y58 (s : List (List UInt8)) (t : Tra) : (evF s t).length ≤ s.length + 1 := by
  unfold evF
  cases s.contains t.2.1 <;> simp
theorem y4D (l : List Tra) : (evts l).length ≤ l.length := by
  have : ∀ (l : List Tra) (s : List (List UInt8)), (l.foldl evF s).length ≤ s.length + l.length := by
    intro l
    induction l with
    | nil => intro s; simp
    | cons t l ih =>
      intro s
      have h1 := ih (evF s t)
      have h2 := y58 s t
      simp only [List.foldl_cons, List.length_cons]
      omega
  have h := this l []
  rw [List.length_nil, Nat.zero_add] at h
  exact h
theorem y8Z (c : Cha) (h : c.2.1.length ≤ 1000) : y7M c = some (evts c.2.1, ()) := by
  have hmem : memMax = 68719476736 := rfl
  unfold y7M
  rw [bifT (y6 (show c.2.1.length < lenMax by unfold lenMax; omega))]
  have := (y3i (body := fun i__ e__ s__ => yAn c i__ e__ s__) (fin := fun s__ => yE4 c s__) c.2.1 (fun i s => s.length ≤ i) evF c.2.1 [] [] rfl (Nat.le_refl _) (fun i e s he hs => by
    have hi := (List.getElem?_eq_some_iff.1 he).1
    refine ⟨?_, by have := y58 s e; omega⟩
    unfold yAn evF
    rw [y7t s _ (by unfold lenMax; omega)]
    simp only [Option.bind_some]
    cases s.contains e.2.1 with
    | true => rfl
    | false =>
      rw [y1v, he]
      simp only [Bool.not_false, cond_true, Option.bind_some, cond_false]
      rw [bifT (y6 (show s.length + 1 ≤ memMax by omega))])).1
  exact this
theorem y3c (c : Cha) (h : c.2.1.length ≤ 1000) : zS_M c = some (evts c.2.1, ()) := by
  have hmem : memMax = 68719476736 := rfl
  unfold zS_M
  rw [bifT (y6 (show c.2.1.length < lenMax by unfold lenMax; omega))]
  have := (y3i (body := fun i__ e__ s__ => yHf c.2.1 i__ e__ s__) (fin := fun s__ => yJj c.2.1 s__) c.2.1 (fun i s => s.length ≤ i) evF c.2.1 [] [] rfl (Nat.le_refl _) (fun i e s he hs => by
    have hi := (List.getElem?_eq_some_iff.1 he).1
    refine ⟨?_, by have := y58 s e; omega⟩
    unfold yHf evF
    rw [yB5 s _ (by unfold lenMax; omega)]
    simp only [Option.bind_some]
    cases s.contains e.2.1 with
    | true => rfl
    | false =>
      simp only [Bool.not_false, cond_true, cond_false]
      rw [bifT (y6 (show s.length + 1 ≤ memMax by omega))])).1
  exact this
theorem y6o (c : Cha) (i : Nat) (a0 : List UInt8) (a1 a2 : Int) (a3 : Bool) (hi : i ≤ c.1.length) {fin : Unit → Option ((Int × Unit) ⊕ Unit)} : ∀ (m k : Nat), k + m = i →
    yy (fun i__ s__ => yFp c (i : Int) a0 a1 a2 a3 i__) fin m (k : Int) () = if ((c.1.drop k).take m).any (fun d => d.1 == a0) = true then some (.inl (9, ())) else fin ()
  | 0, k, _ => by simp [yy]
  | m + 1, k, hk => by
    have hkl : k < c.1.length := by omega
    unfold yy
    have hb : yFp c (i : Int) a0 a1 a2 a3 (k : Int) = some (if (c.1[k].1 == a0) = true then .inl (.inl (9, ())) else .inr ()) := by
      unfold yFp
      simp only [y1v, List.getElem?_eq_getElem hkl, Option.bind_some]
      cases (c.1[k].1 == a0) <;> rfl
    rw [hb]
    simp only [Option.bind_some]
    have hd : (c.1.drop k).take (m + 1) = c.1[k] :: (c.1.drop (k + 1)).take m := by
      rw [← List.getElem_cons_drop (h := hkl), List.take_succ_cons]
    rw [hd, List.any_cons]
    cases h : (c.1[k].1 == a0) with
    | true => rfl
    | false =>
      rw [if_neg (by simp), Bool.false_or]
      have ih := y6o c i a0 a1 a2 a3 hi (fin := fin) m (k + 1) (by omega)
      rw [show ((k + 1 : Nat) : Int) = (k : Int) + 1 by omega] at ih
      exact ih
theorem yJn (c : Cha) (hl : c.1.length ≤ 16) (i : Nat) (s : Sta) (hs : c.1[i]? = some s) :
    yFd c (i : Int) s = some (bif stE (c.1.take i) s != 0 then .inl (stE (c.1.take i) s, ()) else .inr ()) := by
  have hi : i < c.1.length := (List.getElem?_eq_some_iff.1 hs).1
  have hlen : (c.1.take i).length = i := by rw [List.length_take]; omega
  unfold yFd stE
  rw [y2i]
  simp only [Option.bind_some, yc, yw, yZ, hlen]
  change (bif nmE s.1 != 0 then _ else _) = _
  rw [yF]
  cases hnm : (nmE s.1 != 0) with
  | true => rw [cond_true, if_pos rfl, hnm]; rfl
  | false =>
    rw [cond_false, if_neg (by simp), bifT (y6 (show (i : Int) ≤ 9223372036854775807 by omega))]
    have e1 : ((i : Int) - 0).toNat = i := by omega
    rw [e1]
    have := y6o c i s.1 s.2.1 s.2.2.1 s.2.2.2.1 (by omega) (fin := fun s__ => yIF c (i : Int) s.1 s.2.1 s.2.2.1 s.2.2.2.1) i 0 (by omega)
    rw [show ((0 : Nat) : Int) = 0 from rfl] at this
    rw [this, List.drop_zero]
    cases hany : (c.1.take i).any (fun d => d.1 == s.1) with
    | true => rw [if_pos rfl]; rfl
    | false =>
      rw [if_neg (by simp)]
      unfold yIF
      have e2 : decide (s.2.1 ≥ (i : Int)) = decide ((i : Int) ≤ s.2.1) := rfl
      rw [e2]
      cases decide (s.2.1 < -1) <;> cases decide ((i : Int) ≤ s.2.1) <;> rfl
theorem y2L (x : Int) : yF 0 x = x := rfl
theorem y0O {a : Int} (h : a ≠ 0) (x : Int) : yF a x = a := by
  unfold yF
  rw [if_pos (by simpa using h)]
def seqE (e : Int) (k : Option (Int × Unit)) : Option (Int × Unit) := bif e != 0 then some (e, ()) else k
theorem yS3 (k : Option (Int × Unit)) : seqE 0 k = k := rfl
theorem yBq {a : Int} (h : a ≠ 0) (k : Option (Int × Unit)) : seqE a k = some (a, ()) := bifT (by simpa using h)
theorem y55 (a b : Int) (k : Option (Int × Unit)) : seqE (yF a b) k = seqE a (seqE b k) := by
  by_cases h : a = 0
  · subst h; rfl
  · rw [y0O h, yBq h, yBq h]
theorem y3T (a b : Int) : seqE a (some (b, ())) = some (yF a b, ()) := by
  by_cases h : a = 0
  · subst h; rfl
  · rw [y0O h, yBq h]
theorem y4t {α : Type} {body : Int → α → Unit → Option ((Int × Unit) ⊕ Unit)} {fin : Unit → Option (Int × Unit)} {i : Int} {e : α} {l : List α} {a : Int} (hb : body i e () = some (bif a != 0 then .inl (a, ()) else .inr ())) :
    yH body fin i (e :: l) () = seqE a (yH body fin (i + 1) l ()) := by
  rw [yf, hb]
  unfold seqE
  cases (a != 0) <;> rfl
theorem yDC (c : Cha) (hl : c.1.length ≤ 16) : ∀ (l done : List Sta), c.1 = done ++ l →
    yH (fun i__ e__ s__ => yFd c i__ e__) (fun s__ => yFR c) (done.length : Int) l () = seqE (stsE done l) (yFR c)
  | [], done, _ => rfl
  | s :: l, done, hx => by
    have hn : c.1[done.length]? = some s := by rw [hx]; simp
    have ht : c.1.take done.length = done := by rw [hx]; simp
    have ih := yDC c hl l (done ++ [s]) (by rw [hx]; simp)
    simp only [List.length_append, List.length_cons, List.length_nil] at ih
    have hb := yJn c hl done.length s hn
    rw [ht] at hb
    rw [y4t hb]
    show _ = seqE (yF _ _) _
    rw [y55]
    exact congrArg (seqE _) ih
theorem y43 (p : Int) : ∀ (l : List Sta) (k : Int), (kids p k l).length ≤ l.length
  | [], k => Nat.le_refl _
  | s :: l, k => by
    have := y43 p l (k + 1)
    unfold kids
    rw [List.length_append, List.length_cons]
    split <;> simp <;> omega
theorem y5D (c : Cha) (p x : Int) : ∀ (l : List Sta) (k n : Int) (b : Bool), 0 ≤ n → n + l.length ≤ 1000 →
    yH (fun i__ e__ s__ => yFa p x c i__ e__ s__.1 s__.2) (fun s__ => yJr p x c s__.1 s__.2) k l (n, b) = some (n + (kids p k l).length, b || (kids p k l).contains x, ())
  | [], k, n, b, _, _ => by
    show some (n, b, ()) = some (n + 0, b || false, ())
    simp
  | s :: l, k, n, b, h0, hn => by
    simp only [List.length_cons] at hn
    have hw : IntKind.i64.wrap (n + 1) = n + 1 := yB0 (by omega) (by omega)
    have hb : yFa p x c k s n b = some (.inr (if (s.2.1 == p) = true then (n + 1, b || (x == k)) else (n, b))) := by
      unfold yFa
      rw [hw, show (k == x) = (x == k) by rw [Bool.beq_comm]]
      cases (s.2.1 == p) <;> cases b <;> rfl
    rw [yf]
    simp only [hb, Option.bind_some]
    unfold kids
    cases h : (s.2.1 == p) with
    | true =>
      rw [if_pos rfl, if_pos rfl, y5D c p x l (k + 1) (n + 1) _ (by omega) (by omega), List.singleton_append, List.length_cons, List.contains_cons, Bool.or_assoc]
      congr 2
      omega
    | false =>
      rw [if_neg (by simp), if_neg (by simp), y5D c p x l (k + 1) n b h0 (by omega), List.nil_append]
theorem yJz (c : Cha) (p x : Int) (hl : c.1.length ≤ 16) : zw_M c p x = some (((kids p 0 c.1).length : Int), (kids p 0 c.1).contains x, ()) := by
  unfold zw_M
  rw [bifT (y6 (show c.1.length < lenMax by unfold lenMax; omega)), y5D c p x c.1 0 0 false (by omega) (by omega)]
  simp
theorem yKd (c : Cha) (hl : c.1.length ≤ 16) (i : Int) (s : Sta) :
    yFB c i s = some (bif fmE (kids i 0 c.1) s != 0 then .inl (fmE (kids i 0 c.1) s, ()) else .inr ()) := by
  unfold yFB fmE
  rw [yJz c i _ hl]
  simp only [Option.bind_some]
  by_cases h0 : (kids i 0 c.1).length = 0
  · rw [h0]
    simp only [bifF (show decide (((0 : Nat) : Int) > 0) = false from rfl), bifT (show (((0 : Nat) : Int) == 0) = true from rfl), bifT (show ((0 : Nat) == 0) = true from rfl)]
    cases (s.2.2.1 != -1) <;> rfl
  · rw [bifT (y6 (show (((kids i 0 c.1).length : Nat) : Int) > 0 by omega)), bifF (show ((kids i 0 c.1).length == 0) = false by simpa using h0), bifF (show ((((kids i 0 c.1).length : Nat) : Int) == 0) = false by simpa using h0)]
    cases (kids i 0 c.1).contains s.2.2.1 <;> cases s.2.2.2.1 <;> rfl
theorem yDG (c : Cha) (hl : c.1.length ≤ 16) : ∀ (l : List Sta) (i : Int),
    yH (fun i__ e__ s__ => yFB c i__ e__) (fun s__ => yFN c) i l () = seqE (fmsE c.1 i l) (yFN c)
  | [], i => rfl
  | s :: l, i => by
    rw [y4t (yKd c hl i s)]
    show _ = seqE (yF _ _) _
    rw [y55]
    exact congrArg (seqE _) (yDG c hl l (i + 1))
theorem yJR (c : Cha) (h0 : 1 ≤ c.1.length) (hl : c.1.length ≤ 16) (i : Int) (t : Tra) :
    y7r c i t = some (bif trE c.1.length t != 0 then .inl (trE c.1.length t, ()) else .inr ()) := by
  have hw : IntKind.i64.wrap ((c.1.length : Int) - 1) = (c.1.length : Int) - 1 := yB0 (by omega) (by omega)
  unfold y7r trE
  simp only [y4S, hw, y2i, Option.bind_some]
  rw [yAR _ (by simp [lenMax])]
  simp only [yc, yw, yZ, Option.bind_some]
  have e1 : ckR t.1 0 ((c.1.length : Int) - 1) = if t.1 < 0 ∨ (c.1.length : Int) ≤ t.1 then 3 else 0 := by
    unfold ckR
    by_cases h : t.1 < 0 ∨ (c.1.length : Int) ≤ t.1
    · rw [if_pos h, if_pos (by omega)]
    · rw [if_neg h, if_neg (by omega)]
  have e2 : ckR t.2.2.1 0 ((c.1.length : Int) - 1) = if t.2.2.1 < 0 ∨ (c.1.length : Int) ≤ t.2.2.1 then 3 else 0 := by
    unfold ckR
    by_cases h : t.2.2.1 < 0 ∨ (c.1.length : Int) ≤ t.2.2.1
    · rw [if_pos h, if_pos (by omega)]
    · rw [if_neg h, if_neg (by omega)]
  rw [e1, e2]
  by_cases h1 : t.1 < 0 ∨ (c.1.length : Int) ≤ t.1
  · rw [if_pos h1]
    have : (decide (t.1 < 0) || decide ((c.1.length : Int) ≤ t.1) || decide (t.2.2.1 < 0) || decide ((c.1.length : Int) ≤ t.2.2.1)) = true := by
      rcases h1 with h | h <;> simp [h]
    rw [this]
    rfl
  · rw [if_neg h1]
    by_cases h2 : t.2.2.1 < 0 ∨ (c.1.length : Int) ≤ t.2.2.1
    · rw [if_pos h2]
      have : (decide (t.1 < 0) || decide ((c.1.length : Int) ≤ t.1) || decide (t.2.2.1 < 0) || decide ((c.1.length : Int) ≤ t.2.2.1)) = true := by
        rcases h2 with h | h <;> simp [h]
      rw [this]
      rfl
    · rw [if_neg h2]
      have : (decide (t.1 < 0) || decide ((c.1.length : Int) ≤ t.1) || decide (t.2.2.1 < 0) || decide ((c.1.length : Int) ≤ t.2.2.1)) = false := by
        rw [not_or] at h1 h2
        simp [h1.1, h1.2, h2.1, h2.2]
      rw [this]
      unfold z0V
      simp only [cond_false]
      have e3 : yF 0 = fun x => x := by funext x; unfold yF; rfl
      rw [e3]
      have e4 (b : Bool) : (bif b then ((1 : Int), ()) else (0, ())).fst = bif b then 1 else 0 := by cases b <;> rfl
      rw [e4]
      cases (yF (nmE t.2.1) (yF (ckR t.2.2.2.1 0 15) (yF (ckR t.2.2.2.2.1 0 15) (bif yP .i64 .and t.2.2.2.2.1 t.2.2.2.1 != t.2.2.2.2.1 then 1 else 0))) != 0) <;> rfl
theorem yD2 (c : Cha) (h0 : 1 ≤ c.1.length) (hl : c.1.length ≤ 16) : ∀ (l : List Tra) (i : Int),
    yH (fun i__ e__ s__ => y7r c i__ e__) (fun s__ => y8Q c) i l () = seqE (trsE c.1.length l) (y8Q c)
  | [], i => rfl
  | s :: l, i => by
    rw [y4t (yJR c h0 hl i s)]
    show _ = seqE (yF _ _) _
    rw [y55]
    exact congrArg (seqE _) (yD2 c h0 hl l (i + 1))
theorem yHM (c : Cha) : zg_M c = some (yQ c, ()) := by
  unfold zg_M yQ
  by_cases h0 : c.1.length = 0
  · rw [bifT (show ((c.1.length : Int) == 0) = true by simp [h0]), if_pos h0]
  rw [bifF (show ((c.1.length : Int) == 0) = false by simpa using h0), if_neg h0]
  by_cases h8 : 16 < c.1.length
  · rw [bifT (y6 (show (c.1.length : Int) > 16 by omega)), if_pos h8]
  rw [bifF (yG (show ¬ (c.1.length : Int) > 16 by omega)), if_neg h8, bifT (y6 (show c.1.length < lenMax by unfold lenMax; omega))]
  have h1 := yDC c (by omega) c.1 [] rfl
  rw [show (([] : List Sta).length : Int) = 0 from rfl] at h1
  rw [h1, ← y3T, ← y3T, ← y3T, ← y3T]
  refine congrArg (seqE _) ?_
  unfold yFR
  rw [bifT (y6 (show c.1.length < lenMax by unfold lenMax; omega)), yDG c (by omega)]
  refine congrArg (seqE _) ?_
  unfold yFN
  by_cases h4 : 48 < c.2.1.length
  · rw [bifT (y6 (show (c.2.1.length : Int) > 48 by omega)), y6 h4]
    rfl
  · rw [bifF (yG (show ¬ (c.2.1.length : Int) > 48 by omega)), yG h4, bifT (y6 (show c.2.1.length < lenMax by unfold lenMax; omega)), yD2 c (by omega) (by omega), cond_false, yS3]
    refine congrArg (seqE _) ?_
    unfold y8Q
    rw [y8Z c (by omega)]
    simp only [Option.bind_some]
    unfold z0V
    have e5 : decide (((evts c.2.1).length : Int) > 8) = decide (8 < (evts c.2.1).length) := decide_eq_decide.2 (by omega)
    rw [e5]
    cases decide (8 < (evts c.2.1).length) <;> rfl
end Go.Tw
end
section
set_option linter.all false
set_option maxRecDepth 100000
namespace Go.Tw
open Go.Vx Go.Vx.B Go.Proofs
theorem yBY (p : Int) (s : Sta) : ∀ (l : List Sta) (k : Int), kids p k (l ++ [s]) = kids p k l ++ (if (s.2.1 == p) = true then [k + l.length] else [])
  | [], k => by simp [kids]
  | x :: l, k => by
    rw [List.cons_append]
    unfold kids
    have e : k + 1 + (l.length : Int) = k + ((x :: l).length : Int) := by simp only [List.length_cons]; omega
    rw [yBY p s l (k + 1), List.append_assoc, e]
abbrev evN (m : List (List UInt8 × Bool)) (n : List UInt8) : Bool := (yM .str .bool m n).getD false
abbrev evK (m : List (Int × List Int)) (n : Int) : List Int := (yM (.int .i64) (.slice (.int .i64)) m n).getD []
theorem yJb (c : Cha) (xs done : List Sta) (s : Sta) (m0 : List (List UInt8 × Bool)) (m1 : List (Int × List Int)) (hs : s.1.length < lenMax) (hd : done.length ≤ 1000)
    (h0 : ∀ n, evN m0 n = done.any fun d => d.1 == n) (h1 : ∀ p, evK m1 p = kids p 0 done) :
    (stE done s ≠ 0 ∧ y8s c xs (done.length : Int) s m0 m1 = some (.inl (stE done s, ()))) ∨
    (stE done s = 0 ∧ ∃ m0' m1', y8s c xs (done.length : Int) s m0 m1 = some (.inr (m0', m1')) ∧ (∀ n, evN m0' n = (done ++ [s]).any fun d => d.1 == n) ∧ ∀ p, evK m1' p = kids p 0 (done ++ [s])) := by
  have hmem : memMax = 68719476736 := rfl
  have hk := y43 s.2.1 done 0
  have h0s := h0 s.1
  have h1s := h1 s.2.1
  unfold evN at h0s
  unfold evK at h1s
  have e19 : y7q c xs (done.length : Int) m0 m1 s = some (.inr (yp .str .bool m0 s.1 true, yp (.int .i64) (.slice (.int .i64)) m1 s.2.1 (kids s.2.1 0 done ++ [(done.length : Int)]))) := by
    unfold y7q
    rw [h1s, bifT (show y2Z (.int .i64) s.2.1 s.2.1 = true from beq_self_eq_true (α := Int) s.2.1), bifT (y6 (show (kids s.2.1 0 done).length + 1 ≤ memMax by omega)), bifT (show y2Z (.int .i64) s.2.1 s.2.1 = true from beq_self_eq_true (α := Int) s.2.1)]
  have key : y8s c xs (done.length : Int) s m0 m1 = bif stE done s != 0 then some (.inl (stE done s, ())) else y7q c xs (done.length : Int) m0 m1 s := by
    unfold y8s stE
    rw [y2j _ hs]
    simp only [Option.bind_some, y2l]
    rw [h0s]
    by_cases h : s.2.1 < -1
    · rw [bifT (y6 h), y0C _ (by simp [lenMax]), y6 h, Bool.true_or]
      simp only [Option.bind_some]
    · rw [bifF (yG h), y0C _ (by simp [lenMax]), yG h, Bool.false_or, show decide (s.2.1 ≥ (done.length : Int)) = decide ((done.length : Int) ≤ s.2.1) from rfl]
      simp only [Option.bind_some]
  rw [key]
  cases hx : (stE done s != 0) with
  | true => exact .inl ⟨by simpa using hx, rfl⟩
  | false =>
    refine .inr ⟨by simpa using hx, _, _, by rw [cond_false]; exact e19, fun n => ?_, fun p => ?_⟩
    · have hn := h0 n
      unfold evN at hn ⊢
      rw [y20 yRI, List.any_append, ← hn]
      show (bif (n == s.1) then some true else yM .str .bool m0 n).getD false = ((yM .str .bool m0 n).getD false || ((s.1 == n) || false))
      by_cases e : n = s.1
      · subst e; simp
      · rw [show (n == s.1) = false by simpa using e, show (s.1 == n) = false by simpa using fun h => e h.symm]
        simp
    · have hp := h1 p
      unfold evK at hp ⊢
      rw [y20 yLE, yBY, ← hp]
      show (bif (p == s.2.1) then some (kids s.2.1 0 done ++ [(done.length : Int)]) else yM (.int .i64) (.slice (.int .i64)) m1 p).getD [] = _
      by_cases e : p = s.2.1
      · subst e
        rw [beq_self_eq_true, cond_true, if_pos rfl, h1s, Option.getD_some, Int.zero_add]
      · rw [show (p == s.2.1) = false by simpa using e, show (s.2.1 == p) = false by simpa using fun h => e h.symm]
        simp
theorem yDT (c : Cha) (xs : List Sta) (hl : xs.length ≤ 1000) : ∀ (l done : List Sta) (m0 : List (List UInt8 × Bool)) (m1 : List (Int × List Int)), xs = done ++ l → (∀ s ∈ l, s.1.length < lenMax) →
    (∀ n, evN m0 n = done.any fun d => d.1 == n) → (∀ p, evK m1 p = kids p 0 done) →
    (stsE done l ≠ 0 ∧ yH (fun i__ e__ s__ => y8s c xs i__ e__ s__.1 s__.2) (fun s__ => yBw c xs s__.1 s__.2) (done.length : Int) l (m0, m1) = some (stsE done l, ())) ∨
    (stsE done l = 0 ∧ ∃ m0' m1', (∀ p, evK m1' p = kids p 0 xs) ∧ yH (fun i__ e__ s__ => y8s c xs i__ e__ s__.1 s__.2) (fun s__ => yBw c xs s__.1 s__.2) (done.length : Int) l (m0, m1) = yBw c xs m0' m1')
  | [], done, m0, m1, hx, _, h0, h1 => .inr ⟨rfl, m0, m1, by rw [hx, List.append_nil]; exact h1, rfl⟩
  | s :: l, done, m0, m1, hx, hs, h0, h1 => by
    have hd : done.length ≤ 1000 := by rw [hx] at hl; simp at hl; omega
    rw [yf]
    simp only [stsE, yF]
    rcases yJb c xs done s m0 m1 (hs s (by simp)) hd h0 h1 with ⟨h2, h3⟩ | ⟨h2, m0', m1', h3, h4, h5⟩
    · rw [h3]
      refine .inl ?_
      rw [if_pos (by simpa using h2)]
      exact ⟨h2, rfl⟩
    · rw [h3, h2]
      have ih := yDT c xs hl l (done ++ [s]) m0' m1' (by rw [hx]; simp) (fun x hx => hs x (by simp [hx])) h4 h5
      simp only [List.length_append, List.length_cons, List.length_nil] at ih
      simpa using ih
theorem yJT (m1 : List (Int × List Int)) (xs ys : List Sta) (i : Int) (s : Sta) (hx : xs.length ≤ 1000) (h1 : ∀ p, evK m1 p = kids p 0 xs) :
    y8T m1 ys i s = some (bif fmE (kids i 0 xs) s != 0 then .inl (fmE (kids i 0 xs) s, ()) else .inr ()) := by
  have hk := y43 i xs 0
  have h1s := h1 i
  unfold evK at h1s
  unfold y8T fmE
  rw [h1s, y3J _ _ (by unfold lenMax; omega)]
  by_cases h0 : (kids i 0 xs).length = 0
  · rw [bifT (show (((kids i 0 xs).length : Int) == 0) = true by simp [h0]), bifT (show ((kids i 0 xs).length == 0) = true by simp [h0]), show (!((kids i 0 xs).length : Int) == 0) = false by simp [h0]]
    cases (s.2.2.1 != -1) <;> rfl
  · rw [bifF (show (((kids i 0 xs).length : Int) == 0) = false by simpa using h0), bifF (show ((kids i 0 xs).length == 0) = false by simpa using h0), show (!((kids i 0 xs).length : Int) == 0) = true by simpa using h0]
    cases s.2.2.2.1 <;> cases (kids i 0 xs).contains s.2.2.1 <;> rfl
theorem yDA (m1 : List (Int × List Int)) (xs ys : List Sta) (hx : xs.length ≤ 1000) (h1 : ∀ p, evK m1 p = kids p 0 xs) : ∀ (l : List Sta) (i : Int),
    yH (fun i__ e__ s__ => y8T m1 ys i__ e__) (fun s__ => yE8 m1 ys) i l () = some (fmsE xs i l, ())
  | [], i => rfl
  | s :: l, i => by
    rw [yf, yJT m1 xs ys i s hx h1]
    simp only [Option.bind_some, fmsE, yF]
    cases h : (fmE (kids i 0 xs) s != 0) with
    | true => simp
    | false => simpa using yDA m1 xs ys hx h1 l (i + 1)
def yKE (c : Cha) : Prop := (∀ s ∈ c.1, s.1.length < lenMax) ∧ ∀ t ∈ c.2.1, t.2.1.length < lenMax
theorem yEY (c : Cha) (hl : c.1.length ≤ 1000) (hw : yKE c) : zI_M c = some (yF (stsE [] c.1) (fmsE c.1 0 c.1), ()) := by
  have hlm : c.1.length < lenMax := by unfold lenMax; omega
  have hL := yDT c c.1 hl c.1 [] [] [] rfl hw.1 (fun n => rfl) (fun p => rfl)
  rw [show (([] : List Sta).length : Int) = 0 from rfl] at hL
  unfold zI_M
  rw [bifT (y6 hlm)]
  rcases hL with ⟨h1, h2⟩ | ⟨h1, m0', m1', h2, h3⟩
  · rw [y0O h1]
    exact h2
  · rw [h1, y2L, h3]
    unfold yBw
    rw [bifT (y6 hlm)]
    exact yDA m1' c.1 c.1 hl h2 c.1 0
theorem yM7 : ∀ v m : Fin 16, (yP .i64 .andNot (v.val : Int) (m.val : Int) != 0) = (yP .i64 .and (v.val : Int) (m.val : Int) != (v.val : Int)) := by decide +kernel
theorem yEe {v m : Int} (hv : 0 ≤ v ∧ v ≤ 15) (hm : 0 ≤ m ∧ m ≤ 15) : (yP .i64 .andNot v m != 0) = (yP .i64 .and v m != v) := by
  have := yM7 ⟨v.toNat, by omega⟩ ⟨m.toNat, by omega⟩
  simp only at this
  rw [Int.toNat_of_nonneg hv.1, Int.toNat_of_nonneg hm.1] at this
  exact this
theorem y1C {n lo hi : Int} (h : ckR n lo hi = 0) : lo ≤ n ∧ n ≤ hi := by
  unfold ckR at h
  split at h
  · cases h
  · omega
theorem yPR (t : Tra) (n : Int) (hw : t.2.1.length < lenMax) : zK_M t n = some (trE n t, ()) := by
  unfold zK_M zK_m trE
  have elow : decide ((if Bool.false = Bool.true then if t.2.2.1 > t.1 then t.2.2.1 else t.1 else if t.2.2.1 < t.1 then t.2.2.1 else t.1) < (0 : Int)) = (decide (t.1 < 0) || decide (t.2.2.1 < 0)) := by
    rw [if_neg (by decide)]
    rw [← Bool.decide_or]
    apply decide_eq_decide.2
    split <;> omega
  have ehigh : decide ((if Bool.true = Bool.true then if t.2.2.1 > t.1 then t.2.2.1 else t.1 else if t.2.2.1 < t.1 then t.2.2.1 else t.1) ≥ n) = (decide (n ≤ t.1) || decide (n ≤ t.2.2.1)) := by
    rw [if_pos rfl]
    rw [← Bool.decide_or]
    apply decide_eq_decide.2
    split <;> omega
  rw [elow, ehigh]
  rw [y2j _ hw]
  simp only [Option.bind_some, y2l, zN, y73]
  rw [y0C _ (by simp [lenMax])]
  simp only [Option.bind_some, yc, yw, yZ]
  have eall : (decide (t.1 < 0) || decide (n ≤ t.1) || decide (t.2.2.1 < 0) || decide (n ≤ t.2.2.1)) = ((decide (t.1 < 0) || decide (t.2.2.1 < 0)) || (decide (n ≤ t.1) || decide (n ≤ t.2.2.1))) := by
    cases decide (t.1 < 0) <;> cases decide (n ≤ t.1) <;> cases decide (t.2.2.1 < 0) <;> cases decide (n ≤ t.2.2.1) <;> rfl
  rw [eall]
  cases hlow : (decide (t.1 < 0) || decide (t.2.2.1 < 0)) with
  | true =>
    simp only [cond_true, Bool.true_or]
    rw [y0O (by decide)]
  | false =>
    rw [cond_false, Bool.false_or]
    congr 2
    cases hhigh : (decide (n ≤ t.1) || decide (n ≤ t.2.2.1)) with
    | true => rw [cond_true, y0O (by decide), y0O (by decide)]
    | false =>
      by_cases hm : ckR t.2.2.2.1 0 15 = 0
      · by_cases hv : ckR t.2.2.2.2.1 0 15 = 0
        · rw [yEe (y1C hv) (y1C hm)]
        · simp only [yF, bne_iff_ne, ne_eq, hm, hv, not_true_eq_false, if_false, not_false_eq_true, if_true]
      · simp only [yF, bne_iff_ne, ne_eq, hm, not_false_eq_true, if_true]
theorem yLn (c : Cha) (hl : c.2.1.length ≤ 1000) (hw : yKE c) : (z6_M c.2.1 fun (x : Tra × Unit) => zV_M x.fst c) = some (c.2.1.map (trE c.1.length), ()) := by
  have hmem : memMax = 68719476736 := rfl
  unfold z6_M
  rw [bifT (y6 (show c.2.1.length < lenMax by unfold lenMax; omega))]
  refine (y1b (trE c.1.length) c.2.1 0 [] (by simp; omega) fun i e s he hs => ?_).trans ?_
  · unfold yJg zV_M zV_m
    simp only
    rw [show (e.1, e.2.1, e.2.2.1, e.2.2.2.1, e.2.2.2.2.1, ()) = e from rfl, yPR e _ (hw.2 e he)]
    simp only [Option.bind_some]
    rw [bifT (y6 hs)]
  · rw [List.nil_append]; rfl
theorem y8E (n : Int) : ∀ l : List Tra, y2r (l.map (trE n)) = trsE n l
  | [] => rfl
  | t :: l => by rw [List.map_cons, yc, y8E n l]; rfl
theorem yHD (c : Cha) (h1 : c.1.length ≤ 1000) (h2 : c.2.1.length ≤ 1000) (hw : yKE c) : zm_M c = some (yQ c, ()) := by
  have hlm : c.2.1.length < lenMax := by unfold lenMax; omega
  unfold zm_M zm_m yQ
  simp only [y2l]
  rw [y0C _ (by simp [lenMax])]
  simp only [Option.bind_some, yc, yw, yZ]
  by_cases h0 : c.1.length = 0
  · rw [show ((c.1.length : Int) == 0) = true by simp [h0], if_pos h0]
    rfl
  rw [show ((c.1.length : Int) == 0) = false by simpa using h0, if_neg h0]
  by_cases h8 : 16 < c.1.length
  · rw [y6 (show (c.1.length : Int) > 16 by omega), if_pos h8]
    rfl
  rw [yG (show ¬ (c.1.length : Int) > 16 by omega), if_neg h8]
  simp only [cond_false]
  rw [bifF (show (yF 0 0 != 0) = false from rfl), yEY c h1 hw]
  simp only [Option.bind_some]
  rw [y0C _ (by simp [lenMax])]
  simp only [Option.bind_some, yc, yw, yZ]
  rw [← y2N, ← y2N]
  have e4 : decide ((c.2.1.length : Int) > 48) = decide (48 < c.2.1.length) := decide_eq_decide.2 (by omega)
  rw [e4]
  generalize yF (yF (stsE [] c.1) (fmsE c.1 0 c.1)) (bif decide (48 < c.2.1.length) then 5 else 0) = x
  by_cases hx : x = 0
  · rw [hx, y2L, bifF (show ((0 : Int) != 0) = false from rfl), yLn c h2 hw]
    simp only [Option.bind_some]
    rw [y0C _ (by rw [List.length_map]; exact hlm), y8E]
    simp only [Option.bind_some]
    rw [y3c c h2]
    simp only [Option.bind_some]
    rw [y0C _ (by simp [lenMax])]
    simp only [Option.bind_some, yc, yw, yZ]
    have e5 : decide (((evts c.2.1).length : Int) > 8) = decide (8 < (evts c.2.1).length) := decide_eq_decide.2 (by omega)
    rw [e5]
  · rw [y0O hx, bifT (by simpa using hx)]
theorem yD {a b : Int} : yF a b = 0 ↔ a = 0 ∧ b = 0 := by
  unfold yF
  by_cases h : a = 0 <;> simp [h]
structure Valid (c : Cha) : Prop where
  pos : 0 < c.1.length
  few : c.1.length ≤ 16
  parent : ∀ (i : Nat) (s : Sta), c.1[i]? = some s → -1 ≤ s.2.1 ∧ s.2.1 < i
  initial : ∀ (i : Nat) (s : Sta), c.1[i]? = some s → s.2.2.1 = -1 ∨ ((i : Int) < s.2.2.1 ∧ s.2.2.1 < c.1.length)
  moves : c.2.1.length ≤ 48
  tra : ∀ t ∈ c.2.1, 0 ≤ t.1 ∧ t.1 < c.1.length ∧ 0 ≤ t.2.2.1 ∧ t.2.2.1 < c.1.length ∧ isNm t.2.1 = true ∧ 0 ≤ t.2.2.2.1 ∧ t.2.2.2.1 ≤ 15 ∧ 0 ≤ t.2.2.2.2.1 ∧ t.2.2.2.2.1 ≤ 15
  kinds : (evts c.2.1).length ≤ 8
theorem yAm : ∀ (l done : List Sta), stsE done l = 0 → ∀ (k : Nat) (s : Sta), l[k]? = some s → stE (done ++ l.take k) s = 0
  | [], done, _, k, s, hk => by simp at hk
  | x :: l, done, h, k, s, hk => by
    simp only [stsE, yD] at h
    cases k with
    | zero => simp at hk; subst hk; simpa using h.1
    | succ k =>
      have := yAm l (done ++ [x]) h.2 k s (by simpa using hk)
      simpa using this
theorem yBA (xs : List Sta) : ∀ (l : List Sta) (i : Int), fmsE xs i l = 0 → ∀ (k : Nat) (s : Sta), l[k]? = some s → fmE (kids (i + k) 0 xs) s = 0
  | [], i, _, k, s, hk => by simp at hk
  | x :: l, i, h, k, s, hk => by
    simp only [fmsE, yD] at h
    cases k with
    | zero => simp at hk; subst hk; simpa using h.1
    | succ k =>
      have := yBA xs l (i + 1) h.2 k s (by simpa using hk)
      rw [show i + ((k + 1 : Nat) : Int) = i + 1 + (k : Int) by omega]
      exact this
theorem yA9 (n : Int) : ∀ (l : List Tra), trsE n l = 0 → ∀ t ∈ l, trE n t = 0
  | [], _, t, ht => by cases ht
  | x :: l, h, t, ht => by
    simp only [trsE, yD] at h
    rcases List.mem_cons.1 ht with rfl | ht
    · exact h.1
    · exact yA9 n l h.2 t ht
theorem yDj (p : Int) : ∀ (l : List Sta) (k : Int) (x : Int), x ∈ kids p k l → ∃ (j : Nat) (s : Sta), x = k + j ∧ l[j]? = some s ∧ s.2.1 = p
  | [], k, x, h => by cases h
  | s :: l, k, x, h => by
    unfold kids at h
    rcases List.mem_append.1 h with h | h
    · split at h
      · rename_i hp
        rw [List.mem_singleton] at h
        exact ⟨0, s, by simpa using h, rfl, by simpa using hp⟩
      · cases h
    · obtain ⟨j, t, h1, h2, h3⟩ := yDj p l (k + 1) x h
      exact ⟨j + 1, t, by omega, by simpa using h2, h3⟩
theorem y0i (c : Cha) (h : yQ c = 0) : Valid c := by
  unfold yQ at h
  split at h
  · cases h
  split at h
  · cases h
  rename_i h0 h16
  simp only [yD] at h
  obtain ⟨h1, h2, h3, h4, h5⟩ := h
  have hpar : ∀ (i : Nat) (s : Sta), c.1[i]? = some s → -1 ≤ s.2.1 ∧ s.2.1 < i := by
    intro i s hs
    have hi := (List.getElem?_eq_some_iff.1 hs).1
    have := yAm c.1 [] h1 i s hs
    unfold stE at this
    simp only [yc, yw, yZ, yD, List.nil_append, List.length_take] at this
    have h3 := this.2.2
    cases hb : (decide (s.2.1 < -1) || decide (((min i c.1.length : Nat) : Int) ≤ s.2.1)) with
    | true => rw [hb] at h3; cases h3
    | false =>
      simp only [Bool.or_eq_false_iff, decide_eq_false_iff_not] at hb
      omega
  refine ⟨by omega, by omega, hpar, fun i s hs => ?_, ?_, fun t ht => ?_, ?_⟩
  · have := yBA c.1 c.1 0 h2 i s hs
    rw [Int.zero_add] at this
    unfold fmE at this
    cases hk : ((kids (i : Int) 0 c.1).length == 0) with
    | true =>
      rw [hk, cond_true] at this
      left
      cases hb : (s.2.2.1 != -1) with
      | true => rw [hb] at this; cases this
      | false => simpa using hb
    | false =>
      rw [hk, cond_false] at this
      right
      cases hb : (s.2.2.2.1 || !(kids (i : Int) 0 c.1).contains s.2.2.1) with
      | true => rw [hb] at this; cases this
      | false =>
        simp only [Bool.or_eq_false_iff, Bool.not_eq_false'] at hb
        have hm : s.2.2.1 ∈ kids (i : Int) 0 c.1 := List.contains_iff_mem.1 hb.2
        obtain ⟨j, s', e1, e2, e3⟩ := yDj _ _ _ _ hm
        have hj := (List.getElem?_eq_some_iff.1 e2).1
        have := (hpar j s' e2).2
        omega
  · cases hb : decide (48 < c.2.1.length) with
    | true => rw [hb] at h3; cases h3
    | false => simpa using hb
  · have := yA9 _ _ h4 t ht
    unfold trE at this
    simp only [yc, yw, yZ, yD] at this
    obtain ⟨a, b, d, e, _⟩ := this
    have hm := y1C d
    have hv := y1C e
    cases hb : (decide (t.1 < 0) || decide ((c.1.length : Int) ≤ t.1) || decide (t.2.2.1 < 0) || decide ((c.1.length : Int) ≤ t.2.2.1)) with
    | true => rw [hb] at a; cases a
    | false =>
      simp only [Bool.or_eq_false_iff, decide_eq_false_iff_not] at hb
      refine ⟨by omega, by omega, by omega, by omega, ?_, hm.1, hm.2, hv.1, hv.2⟩
      cases hn : isNm t.2.1 with
      | true => rfl
      | false => unfold nmE at b; rw [hn] at b; cases b
  · cases hb : decide (8 < (evts c.2.1).length) with
    | true => rw [hb] at h5; cases h5
    | false => simpa using hb
end Go.Tw
end
section
set_option linter.all false
set_option maxRecDepth 100000
namespace Go.Tw
open Go.Vx Go.Vx.B Go.Proofs
section
variable {α β γ σ : Type}
theorem y3F {body : Int → α → List α → Option (β ⊕ List α)} {fin : List α → Option β} (p : α → Bool) :
    ∀ (l : List α) (i : Int) (s : List α), s.length + l.length ≤ memMax → (∀ i e s, e ∈ l → s.length + 1 ≤ memMax → body i e s = some (.inr (bif p e then s ++ [e] else s))) → yH body fin i l s = fin (s ++ l.filter p)
  | [], i, s, _, _ => by simp [y35]
  | e :: l, i, s, hl, h => by
    simp only [List.length_cons] at hl
    rw [yf, h i e s (by simp) (by omega)]
    simp only [Option.bind_some]
    cases hp : p e with
    | true =>
      rw [cond_true, y3F p l (i + 1) (s ++ [e]) (by simp; omega) fun i e s he hs => h i e s (by simp [he]) hs]
      simp [List.filter_cons, hp]
    | false =>
      rw [cond_false, y3F p l (i + 1) s (by omega) fun i e s he hs => h i e s (by simp [he]) hs]
      simp [List.filter_cons, hp]
end
def y0c : Int → List Sta → List Int
  | _, [] => []
  | k, s :: l => (if (s.2.2.1 == -1) = true then [k] else []) ++ y0c (k + 1) l
theorem y7B (c : Cha) (i : Nat) (s : Sta) (h : c.1[i]? = some s) : yEf c (i : Int) = some (s.2.2.1 == -1, ()) := by
  unfold yEf yJB
  rw [y1v, h]
  rfl
def ent (c : Cha) : Nat → Int → Int
  | 0, i => i
  | k + 1, i => match c.1[i.toNat]? with
    | some s => if s.2.2.1 = -1 then i else ent c k s.2.2.1
    | none => i
def entr (c : Cha) (i : Int) : Int := ent c 17 i
def IsLf (c : Cha) (i : Int) : Prop := 0 ≤ i ∧ i < c.1.length ∧ ∃ s, c.1[i.toNat]? = some s ∧ s.2.2.1 = -1
theorem y9J {α : Type} (l : List α) {i : Int} (h : 0 ≤ i) : idx l i = l[i.toNat]? := by unfold idx; rw [if_pos h]
theorem y56 (c : Cha) (hc : Valid c) : ∀ (k r : Nat) (i : Int), 0 ≤ i → i < c.1.length → (c.1.length : Int) - i ≤ k → (c.1.length : Int) - i ≤ r →
    y1N (fun s__ => yHi c s__) r i = some (ent c k i, ()) ∧ IsLf c (ent c k i)
  | 0, r, i, h0, h1, hk, hr => by omega
  | k + 1, 0, i, h0, h1, hk, hr => by omega
  | k + 1, r + 1, i, h0, h1, hk, hr => by
    have hlt : i.toNat < c.1.length := by omega
    have hg : c.1[i.toNat]? = some c.1[i.toNat] := List.getElem?_eq_getElem hlt
    have hin := hc.initial i.toNat _ hg
    unfold y1N yHi ent
    rw [y9J _ h0, hg]
    simp only [Option.bind_some]
    by_cases h : c.1[i.toNat].2.2.1 = -1
    · rw [if_pos h, bifF (show (c.1[i.toNat].2.2.1 != -1) = false by simp [h])]
      exact ⟨rfl, h0, h1, _, hg, h⟩
    · rw [if_neg h, bifT (show (c.1[i.toNat].2.2.1 != -1) = true by simpa using h)]
      simp only [Option.bind_some]
      exact y56 c hc k r c.1[i.toNat].2.2.1 (by omega) (by omega) (by omega) (by omega)
theorem y2I (c : Cha) (hc : Valid c) (i : Int) (h0 : 0 ≤ i) (h1 : i < c.1.length) : zb_M c i = some (entr c i, ()) := by
  have := hc.few
  unfold zb_M entr
  exact (y56 c hc 17 wMax i h0 h1 (by omega) (by unfold wMax; omega)).1
theorem y1e (c : Cha) (hc : Valid c) (i : Int) (h0 : 0 ≤ i) (h1 : i < c.1.length) : IsLf c (entr c i) := by
  have := hc.few
  unfold entr
  exact (y56 c hc 17 wMax i h0 h1 (by omega) (by unfold wMax; omega)).2
def fitB (s : Int) (e : List UInt8) (v : Int) (t : Tra) : Bool := t.1 == s && t.2.1 == e && yP .i64 .and v t.2.2.2.1 == t.2.2.2.2.1
def tk (c : Cha) (e : List UInt8) (v : Int) : Nat → Int → List Tra
  | 0, _ => []
  | k + 1, s => if s < 0 then [] else match c.1[s.toNat]? with
    | none => []
    | some st => if (c.2.1.filter (fitB s e v)).length = 0 then tk c e v k st.2.1 else c.2.1.filter (fitB s e v)
def y1j (c : Cha) (leaf : Int) (e : List UInt8) (v : Int) : List Tra := tk c e v 17 leaf
theorem yGd : ∀ v m : Fin 16, 0 ≤ yP .i64 .and (v.val : Int) (m.val : Int) ∧ yP .i64 .and (v.val : Int) (m.val : Int) ≤ 15 := by decide +kernel
theorem yJD : ∀ v m : Fin 16, eqV (.arr 4 .bool) (z0H (v.val : Int)).1 (z0H (m.val : Int)).1 = ((v.val : Int) == (m.val : Int)) := by
  unfold z0H
  decide +kernel
theorem yNZ {v m x : Int} (hv : 0 ≤ v ∧ v ≤ 15) (hm : 0 ≤ m ∧ m ≤ 15) (hx : 0 ≤ x ∧ x ≤ 15) : eqV (.arr 4 .bool) (z0H (yP .i64 .and v m)).1 (z0H x).1 = (yP .i64 .and v m == x) := by
  have h1 := yGd ⟨v.toNat, by omega⟩ ⟨m.toNat, by omega⟩
  simp only at h1
  rw [Int.toNat_of_nonneg hv.1, Int.toNat_of_nonneg hm.1] at h1
  have h2 := yJD ⟨(yP .i64 .and v m).toNat, by omega⟩ ⟨x.toNat, by omega⟩
  simp only at h2
  rw [Int.toNat_of_nonneg h1.1, Int.toNat_of_nonneg hx.1] at h2
  exact h2
def tup5 (t : Tra) : Int × List UInt8 × Int × Int × Int := (t.1, t.2.1, t.2.2.1, t.2.2.2.1, t.2.2.2.2.1)
def fitF (s : Int) (e : List UInt8) (v : Int) (x : Int × Int × List UInt8 × Int × Int × Int) (t : Tra) : Int × Int × List UInt8 × Int × Int × Int := bif fitB s e v t then (x.1 + 1, tup5 t) else x
theorem y71 (s : Int) (e : List UInt8) (v : Int) : ∀ (l : List Tra) (n : Int) (d : Tra), l.foldl (fitF s e v) (n, tup5 d) = (n + (l.filter (fitB s e v)).length, tup5 ((l.filter (fitB s e v)).getLastD d))
  | [], n, d => by simp
  | t :: l, n, d => by
    rw [List.foldl_cons, List.filter_cons]
    unfold fitF
    cases h : fitB s e v t with
    | true =>
      rw [cond_true, if_pos rfl]
      refine (y71 s e v l (n + 1) t).trans ?_
      rw [List.length_cons, List.getLastD_cons]
      congr 1
      omega
    | false =>
      rw [cond_false, if_neg (by simp)]
      exact y71 s e v l n d
def tra0 : Tra := (0, [], 0, 0, 0, ())
theorem yIj (c : Cha) (hl : c.2.1.length ≤ 1000) (p2 : Inp) (s : Int) :
    yH (fun i__ e__ s__ => y7v c p2 s 0 [] 0 0 0 i__ e__ s__.1 s__.2.1 s__.2.2.1 s__.2.2.2.1 s__.2.2.2.2.1 s__.2.2.2.2.2) (fun s__ => y8W c p2 s 0 [] 0 0 0 s__.1 s__.2.1 s__.2.2.1 s__.2.2.2.1 s__.2.2.2.2.1 s__.2.2.2.2.2) 0 c.2.1 (0, 0, [], 0, 0, 0) =
      bif (c.2.1.filter (fitB s p2.1 p2.2.1)).length == 0 then (Option.bind (idx c.1 s) fun (v17 : Sta) => (some (Sum.inr (v17.2.1)))) else some (.inl (((c.2.1.filter (fitB s p2.1 p2.2.1)).length : Int), (c.2.1.filter (fitB s p2.1 p2.2.1)).getLastD tra0, ())) := by
  have h := (y3i (body := fun i__ e__ s__ => y7v c p2 s 0 [] 0 0 0 i__ e__ s__.1 s__.2.1 s__.2.2.1 s__.2.2.2.1 s__.2.2.2.2.1 s__.2.2.2.2.2) (fin := fun s__ => y8W c p2 s 0 [] 0 0 0 s__.1 s__.2.1 s__.2.2.1 s__.2.2.2.1 s__.2.2.2.2.1 s__.2.2.2.2.2) c.2.1
    (fun i x => 0 ≤ x.1 ∧ x.1 ≤ i) (fitF s p2.1 p2.2.1) c.2.1 [] (0, tup5 tra0) rfl (by simp) (fun i e x he hx => by
      have hi := (List.getElem?_eq_some_iff.1 he).1
      have hw : IntKind.i64.wrap (x.1 + 1) = x.1 + 1 := yB0 (by omega) (by omega)
      refine ⟨?_, ?_⟩
      · unfold y7v fitF fitB
        rw [hw]
        cases (e.1 == s) <;> cases (e.2.1 == p2.1) <;> cases (yP .i64 .and p2.2.1 e.2.2.2.1 == e.2.2.2.2.1) <;> rfl
      · unfold fitF
        cases fitB s p2.1 p2.2.1 e with
        | true => simp only [cond_true]; omega
        | false => simp only [cond_false]; omega)).1
  refine (show _ = _ from h).trans ?_
  rw [y71, Int.zero_add]
  unfold y8W
  by_cases h0 : (c.2.1.filter (fitB s p2.1 p2.2.1)).length = 0
  · rw [bifT (show ((c.2.1.filter (fitB s p2.1 p2.2.1)).length == 0) = true by simp [h0]), bifF (yG (by simp only; omega))]
  · rw [bifF (show ((c.2.1.filter (fitB s p2.1 p2.2.1)).length == 0) = false by simpa using h0), bifT (y6 (by simp only; omega))]
    rfl
theorem y8G (c : Cha) (hc : Valid c) (p2 : Inp) : ∀ (k r : Nat) (s : Int), -1 ≤ s → s < c.1.length → s + 1 ≤ k → s + 1 < r →
    y1N (fun s__ => yBZ c p2 0 [] 0 0 0 s__) r s = some (((tk c p2.1 p2.2.1 k s).length : Int), (tk c p2.1 p2.2.1 k s).getLastD tra0, ())
  | k, 0, s, h0, h1, hk, hr => by omega
  | k, r + 1, s, h0, h1, hk, hr => by
    unfold y1N yBZ
    by_cases hs : s < 0
    · have : tk c p2.1 p2.2.1 k s = [] := by cases k <;> simp [tk, hs]
      rw [this, bifF (yG (show ¬ s ≥ 0 by omega))]
      rfl
    · obtain ⟨k, rfl⟩ : ∃ j, k = j + 1 := ⟨k - 1, by omega⟩
      have hlt : s.toNat < c.1.length := by omega
      have hg : c.1[s.toNat]? = some c.1[s.toNat] := List.getElem?_eq_getElem hlt
      have hp := hc.parent s.toNat _ hg
      have hm := hc.moves
      rw [bifT (y6 (show s ≥ 0 by omega)), bifT (y6 (show c.2.1.length < lenMax by unfold lenMax; omega)), yIj c (by omega)]
      unfold tk
      rw [if_neg hs, hg]
      simp only
      by_cases hz : (c.2.1.filter (fitB s p2.1 p2.2.1)).length = 0
      · rw [bifT (show ((c.2.1.filter (fitB s p2.1 p2.2.1)).length == 0) = true by simp [hz]), if_pos hz, y9J _ (by omega), hg]
        simp only [Option.bind_some]
        exact y8G c hc p2 k r c.1[s.toNat].2.1 (by omega) (by omega) (by omega) (by omega)
      · rw [bifF (show ((c.2.1.filter (fitB s p2.1 p2.2.1)).length == 0) = false by simpa using hz), if_neg hz]
        rfl
theorem yGG (c : Cha) (hc : Valid c) (leaf : Int) (p2 : Inp) (h0 : -1 ≤ leaf) (h1 : leaf < c.1.length) : yBW c leaf p2 = some (((y1j c leaf p2.1 p2.2.1).length : Int), (y1j c leaf p2.1 p2.2.1).getLastD tra0, ()) := by
  have := hc.few
  unfold yBW y1j
  exact y8G c hc p2 17 wMax leaf h0 h1 (by omega) (by unfold wMax; omega)
theorem y6e (c : Cha) (e : List UInt8) (v : Int) : ∀ (k : Nat) (s : Int) (t : Tra), t ∈ tk c e v k s → t ∈ c.2.1
  | 0, s, t, h => by cases h
  | k + 1, s, t, h => by
    unfold tk at h
    split at h
    · cases h
    · split at h
      · cases h
      · split at h
        · exact y6e c e v k _ t h
        · exact (List.mem_filter.1 h).1
def stp (c : Cha) (leaf : Int) (e : List UInt8) (v : Int) : Int × Int :=
  match y1j c leaf e v with
  | [] => (leaf, 0)
  | [t] => (entr c t.2.2.1, 0)
  | _ => (0, 30)
theorem yKo (c : Cha) (hc : Valid c) (s : Int) (p2 : Inp) (hv : 0 ≤ p2.2.1 ∧ p2.2.1 ≤ 15) :
    (zD_M c.2.1 fun (x : Tra × Unit) => zU_M x.fst s p2) = some (c.2.1.filter (fitB s p2.1 p2.2.1), ()) := by
  have hmem : memMax = 68719476736 := rfl
  have hm := hc.moves
  unfold zD_M
  rw [bifT (y6 (show c.2.1.length < lenMax by unfold lenMax; omega))]
  refine (y3F (fitB s p2.1 p2.2.1) c.2.1 0 [] (by simp; omega) fun i t xs ht hs => ?_).trans ?_
  · have h := hc.tra t ht
    have hmet := yNZ hv ⟨h.2.2.2.2.2.1, h.2.2.2.2.2.2.1⟩ h.2.2.2.2.2.2.2
    unfold yK4
    have hb : zU t s p2 = (fitB s p2.1 p2.2.1 t, ()) := by
      unfold zU zQ fitB
      simp only
      rw [hmet]
      cases (t.1 == s) <;> cases (t.2.1 == p2.1) <;> rfl
    show (Option.bind (some (zU t s p2)) _) = _
    rw [hb]
    simp only [Option.bind_some]
    cases fitB s p2.1 p2.2.1 t with
    | true => rw [cond_true, bifT (y6 hs)]; rfl
    | false => rfl
  · rw [List.nil_append]; rfl
theorem yFf (c : Cha) (hc : Valid c) (leaf : Int) (p2 : Inp) (hv : 0 ≤ p2.2.1 ∧ p2.2.1 ≤ 15) (s : Int) (st : Sta) (h0 : 0 ≤ s) (hg : c.1[s.toNat]? = some st) :
    yB1 leaf c p2 0 false false s = some (match c.2.1.filter (fitB s p2.1 p2.2.1) with
      | [] => .inr st.2.1
      | [t] => .inl ((entr c t.2.2.1, false, false, ()), ())
      | _ => .inl ((leaf, false, true, ()), ())) := by
  have hall : ∀ t ∈ c.2.1.filter (fitB s p2.1 p2.2.1), t ∈ c.2.1 := fun t ht => (List.mem_filter.1 ht).1
  unfold yB1
  rw [bifT (show (s != -1) = true by simp; omega), yKo c hc s p2 hv, y9J _ h0, hg]
  simp only [Option.bind_some]
  generalize c.2.1.filter (fitB s p2.1 p2.2.1) = fs at hall
  match fs with
  | [] => rfl
  | [t] =>
    have ht := hc.tra t (hall t (by simp))
    have e : idx [t] 0 = some t := rfl
    simp only [List.length_cons, List.length_nil]
    rw [bifF (by rfl), bifT (by rfl), e]
    simp only [Option.bind_some]
    rw [y2I c hc _ ht.2.2.1 ht.2.2.2.1]
    simp only [Option.bind_some]
  | t :: u :: l =>
    simp only [List.length_cons]
    rw [bifF (beq_eq_false_iff_ne.2 (by omega)), bifF (beq_eq_false_iff_ne.2 (by omega))]
theorem y84 (c : Cha) (hc : Valid c) (leaf : Int) (p2 : Inp) (hv : 0 ≤ p2.2.1 ∧ p2.2.1 ≤ 15) : ∀ (k r : Nat) (s : Int), -1 ≤ s → s < c.1.length → s + 1 ≤ k → s + 1 < r →
    y1N (fun s__ => yB1 leaf c p2 0 false false s__) r s = some (match tk c p2.1 p2.2.1 k s with
      | [] => ((leaf, true, false, ()), ())
      | [t] => ((entr c t.2.2.1, false, false, ()), ())
      | _ => ((leaf, false, true, ()), ()))
  | k, 0, s, h0, h1, hk, hr => by omega
  | k, r + 1, s, h0, h1, hk, hr => by
    unfold y1N
    by_cases hs : s < 0
    · have : tk c p2.1 p2.2.1 k s = [] := by cases k <;> simp [tk, hs]
      have hb : yB1 leaf c p2 0 false false s = some (.inl ((leaf, true, false, ()), ())) := by
        unfold yB1
        rw [bifF (show (s != -1) = false by simp; omega)]
      rw [this, hb]
      rfl
    · obtain ⟨k, rfl⟩ : ∃ j, k = j + 1 := ⟨k - 1, by omega⟩
      have hlt : s.toNat < c.1.length := by omega
      have hg : c.1[s.toNat]? = some c.1[s.toNat] := List.getElem?_eq_getElem hlt
      have hp := hc.parent s.toNat _ hg
      have hb := yFf c hc leaf p2 hv s _ (by omega) hg
      unfold tk
      rw [if_neg hs, hg]
      simp only [hb, Option.bind_some]
      generalize c.2.1.filter (fitB s p2.1 p2.2.1) = fs
      match fs with
      | [] =>
        simp only [List.length_nil, if_true]
        exact y84 c hc leaf p2 hv k r c.1[s.toNat].2.1 (by omega) (by omega) (by omega) (by omega)
      | [t] => rfl
      | t :: u :: l => rfl
theorem y9X (c : Cha) (hc : Valid c) (leaf : Int) (p2 : Inp) (h0 : 0 ≤ leaf) (h1 : leaf < c.1.length) (hv : 0 ≤ p2.2.1 ∧ p2.2.1 ≤ 15) :
    zl_M c leaf p2 = some (match y1j c leaf p2.1 p2.2.1 with
      | [] => ((leaf, true, false, ()), ())
      | [t] => ((entr c t.2.2.1, false, false, ()), ())
      | _ => ((leaf, false, true, ()), ())) := by
  have := hc.few
  unfold zl_M y1j
  exact y84 c hc leaf p2 hv 17 wMax leaf (by omega) h1 (by omega) (by unfold wMax; omega)
end Go.Tw
end
