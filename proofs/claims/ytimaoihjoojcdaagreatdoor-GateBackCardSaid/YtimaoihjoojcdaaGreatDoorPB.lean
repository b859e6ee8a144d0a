import Derived.Test.YtimaoihjoojcdaaGreatDoorBC
import Derived.Test.YtimaoihjoojcdaaGreatDoorBD
set_option linter.all false
section
set_option maxRecDepth 100000
namespace Go.Tw
open Go.Vx Go.Vx.B Go.Proofs
section
variable {α β γ σ : Type}
theorem yBA {body : Int → α → σ → Option (β ⊕ σ)} {fin : σ → Option β} {i : Int} {s : σ} : yI body fin i [] s = fin s := rfl
theorem y04 {body : Int → α → σ → Option (β ⊕ σ)} {fin : σ → Option β} {i : Int} {e : α} {l : List α} {s : σ} : yI body fin i (e :: l) s = (body i e s).bind fun z => match z with
    | .inl y => some y
    | .inr s' => yI body fin (i + 1) l s' := rfl
theorem y6E {body : Int → α → Unit → Option (β ⊕ Unit)} {fin : Unit → Option β} (p : α → Option β) :
    ∀ (l : List α) (i : Int),(∀ i e,e ∈ l → body i e () = some (match p e with | some y => .inl y | none => .inr ())) → yI body fin i l () = match l.findSome? p with | some y => some y | none => fin ()
  | [],i,_ => rfl
  | e :: l,i,h => by
    rw [y04,h i e (by simp),List.findSome?_cons]
    cases p e with
    | none => exact y6E p l (i + 1) fun i e he => h i e (by simp [he])
    | some y => rfl
theorem y5R {body : Int → α → List γ → Option (β ⊕ List γ)} {fin : List γ → Option β} (f : α → γ) :
    ∀ (l : List α) (i : Int) (s : List γ),s.length + l.length ≤ memMax → (∀ i e s,e ∈ l → s.length + 1 ≤ memMax → body i e s = some (.inr (s ++ [f e]))) → yI body fin i l s = fin (s ++ l.map f)
  | [],i,s,_,_ => by simp [yBA]
  | e :: l,i,s,hl,h => by
    simp only [List.length_cons] at hl;rw [y04,h i e s (by simp) (by omega)]
    simp only [Option.bind_some];rw [y5R f l (i + 1) (s ++ [f e]) (by simp; omega) fun i e s he hs => h i e s (by simp [he]) hs]
    simp
end
theorem yF {p : Prop} [Decidable p] (h : p) : decide p = true := decide_eq_true h
theorem yb {p : Prop} [Decidable p] (h : ¬ p) : decide p = false := decide_eq_false h
theorem bifT {α : Type} {c : Bool} {a b : α} (h : c = true) : (bif c then a else b) = a := by rw [h]; rfl
theorem bifF {α : Type} {c : Bool} {a b : α} (h : c = false) : (bif c then a else b) = b := by rw [h]; rfl
theorem yBR : memMax < lenMax := by decide
def ckR (n lo hi : Int) : Int := if n < lo ∨ hi < n then 3 else 0
def y49 (l : List Int) : Int := (l.find? (· != 0)).getD 0
theorem yAR (n lo hi : Int) : zt n lo hi = (ckR n lo hi,()) := by
  unfold zt ckR;by_cases h1 : n < lo
  · rw [bifT (yF h1),if_pos (.inl h1)]
  · rw [bifF (yb h1)];by_cases h2 : n > hi
    · rw [bifT (yF h2),if_pos (.inr h2)]
    · rw [bifF (yb h2),if_neg (by omega)]
theorem y6B (c : Bool) (e : Int) : z0y c e = (bif c then e else 0,()) := by
  unfold z0y;cases c <;> rfl
theorem yHm (n lo hi : Int) : z0c n lo hi = (ckR n lo hi,()) := by
  unfold z0c ckR;by_cases h1 : n < lo
  · rw [bifT (yF h1),y6B,cond_true,if_pos (.inl h1)]
  · rw [bifF (yb h1),y6B];by_cases h2 : n > hi
    · rw [yF h2,cond_true,if_pos (.inr h2)]
    · rw [yb h2,cond_false,if_neg (by omega)]
theorem y9u (l : List Int) : l.findSome? (fun e => if e != 0 then some (e,()) else none) = (l.find? (· != 0)).map fun e => (e,()) := by
  induction l with
  | nil => rfl
  | cons e l ih =>
    rw [List.findSome?_cons,List.find?_cons];cases he : (e != 0) with
    | true => rfl
    | false => simpa using ih
theorem y2H (l : List Int) (h : l.length < lenMax) : y1S l = some (y49 l,()) := by
  unfold y1S;rw [bifT (yF h),y6E (fun e => if e != 0 then some (e,()) else none) l 0 (fun i e _ => by
    unfold yGy;cases he : (e != 0) <;> rfl),y9u]
  unfold y49 yI4;cases l.find? (· != 0) <;> rfl
theorem yDo {α : Type} (l : List α) (i : Nat) : idx l (i : Int) = l[i]? := by
  unfold idx;rw [if_pos (Int.natCast_nonneg i)];rfl
theorem y8g {α β : Type} {body : Int → α → Unit → Option (β ⊕ Unit)} {fin : Unit → Option β} (xs : List α) (p : α → Option β) :
    ∀ (l done : List α),xs = done ++ l → (∀ (i : Nat) e,xs[i]? = some e → body (i : Int) e () = some (match p e with | some y => .inl y | none => .inr ())) →
      yI body fin (done.length : Int) l () = match l.findSome? p with | some y => some y | none => fin ()
  | [],done,_,_ => rfl
  | e :: l,done,hx,h => by
    rw [y04,h done.length e (by rw [hx]; simp),List.findSome?_cons]
    cases p e with
    | none =>
      have := y8g (body := body) (fin := fin) xs p l (done ++ [e]) (by rw [hx]; simp) h
      simp only [List.length_append,List.length_cons,List.length_nil] at this;exact this
    | some y => rfl
theorem yHK (l : List Int) (h : l.length < lenMax) : yIl l = some (y49 l,()) := by
  unfold yIl;have := y8g (body := fun i__ e__ s__ => yEm l i__ e__) (fin := fun s__ => yE3 l) l (fun e => if e != 0 then some (e,()) else none) l [] rfl (fun i e hi => by
    unfold yEm;cases he : (e != 0) with
    | true => rw [yDo,hi]; rfl
    | false => rfl)
  rw [bifT (yF h)];refine this.trans ?_
  rw [y9u];unfold y49 yE3;cases l.find? (· != 0) <;> rfl
def y3j (c : Nat) : Bool := decide (65 ≤ c ∧ c ≤ 90 ∨ 97 ≤ c ∧ c ≤ 122)
def y6R (c : Nat) : Bool := decide (48 ≤ c ∧ c ≤ 57 ∨ c = 95)
def nmOk : Bool → List UInt8 → Bool
  | _,[] => true
  | first,c :: l => (y3j c.toNat || (!first && y6R c.toNat)) && nmOk false l
def isNm (s : List UInt8) : Bool := nmOk true s && decide (0 < s.length ∧ s.length ≤ 24)
theorem y9s : ∀ (s0 s : List UInt8) (i : Int),0 ≤ i → yI (fun i__ e__ s__ => yBU s0 i__ e__) (fun s__ => yIW s0) i s () = some (nmOk (decide (i = 0)) s,())
  | s0,[],i,_ => rfl
  | s0,c :: l,i,hi => by
    rw [y04];have ih := y9s s0 l (i + 1) (by omega)
    have e0 : decide (i + 1 = 0) = false := yb (by omega)
    rw [e0] at ih;unfold nmOk;have hb : yBU s0 i c = some (if (y3j c.toNat || (!decide (i = 0) && y6R c.toNat)) = true then .inr () else .inl (false,())) := by
      unfold yBU y6A y3j y6R;have g3 : (i == 0) = decide (i = 0) := by by_cases h : i = 0 <;> simp [h]
      have g4 : ((c.toNat : Int) != 95) = !decide ((c.toNat : Int) = 95) := by by_cases h : (c.toNat : Int) = 95 <;> simp [h]
      rw [g3,g4];by_cases h1 : (97 : Int) ≤ c.toNat <;> by_cases h2 : (c.toNat : Int) ≤ 122 <;> by_cases h3 : (65 : Int) ≤ c.toNat <;> by_cases h4 : (c.toNat : Int) ≤ 90 <;> by_cases h5 : (c.toNat : Int) < 48 <;> by_cases h6 : (c.toNat : Int) > 57 <;> by_cases h7 : (c.toNat : Int) = 95 <;> by_cases h8 : i = 0 <;>
        first
        | omega
        | (have g1 : (decide (65 ≤ c.toNat ∧ c.toNat ≤ 90 ∨ 97 ≤ c.toNat ∧ c.toNat ≤ 122)) = decide ((65 : Int) ≤ c.toNat ∧ (c.toNat : Int) ≤ 90 ∨ (97 : Int) ≤ c.toNat ∧ (c.toNat : Int) ≤ 122) := by
            apply decide_eq_decide.2; omega
           have g2 : (decide (48 ≤ c.toNat ∧ c.toNat ≤ 57 ∨ c.toNat = 95)) = decide (¬ (c.toNat : Int) < 48 ∧ ¬ (c.toNat : Int) > 57 ∨ (c.toNat : Int) = 95) := by
            apply decide_eq_decide.2; omega
           rw [g1,g2];simp [h1,h2,h3,h4,h5,h6,h7,h8])
    rw [hb];simp only [Option.bind_some];by_cases hc : (y3j c.toNat || (!decide (i = 0) && y6R c.toNat)) = true
    · rw [if_pos hc,hc,Bool.true_and];exact ih
    · rw [if_neg hc,Bool.eq_false_iff.2 hc];rfl
theorem yK2 (s : List UInt8) : yKH s = some (isNm s,()) := by
  unfold yKH isNm;by_cases h0 : s.length = 0
  · have : ((s.length : Int) == 0) = true := by simp [h0]
    rw [bifT this,show decide (0 < s.length ∧ s.length ≤ 24) = false from yb (by omega),Bool.and_false]
  · have : ((s.length : Int) == 0) = false := by simpa using h0
    rw [bifF this];by_cases h1 : 24 < s.length
    · rw [bifT (yF (by omega)),show decide (0 < s.length ∧ s.length ≤ 24) = false from yb (by omega),Bool.and_false]
    · rw [bifF (yb (show ¬ ((s.length : Int) > 24) by omega)),bifT (yF (show s.length < lenMax by unfold lenMax; omega)),y9s s s 0 (by omega),yF rfl]
      rw [show decide (0 < s.length ∧ s.length ≤ 24) = true from yF ⟨by omega,by omega⟩,Bool.and_true]
theorem yKz {bs : List UInt8} {i : Nat} {c : UInt8} (h : bs[i]? = some c) : (⟨bs.toArray⟩ : ByteArray).get! i = c := by
  show bs.toArray[i]! = c
  rw [getElem!_def];simp [h]
theorem y9c {bs : List UInt8} {i : Nat} {c : UInt8} (h : bs[i]? = some c) (hc : c.toNat < 128) : yg bs (i : Int) = ((c.toNat : Int),(i : Int) + 1) := by
  unfold yg Utf8.decode;have h0 : (⟨bs.toArray⟩ : ByteArray).get! ((i : Int).toNat + 0) = c := by rw [Int.toNat_natCast,Nat.add_zero]; exact yKz h
  simp only [h0];rw [if_pos hc];rfl
theorem yCH {bs : List UInt8} {i : Nat} {c : UInt8} (h : bs[i]? = some c) (hc : 128 ≤ c.toNat) : 128 ≤ (yg bs (i : Int)).1 := by
  unfold yg Utf8.decode;have h0 : (⟨bs.toArray⟩ : ByteArray).get! ((i : Int).toNat + 0) = c := by rw [Int.toNat_natCast,Nat.add_zero]; exact yKz h
  simp only [h0];rw [if_neg (by omega)]
  have he : Utf8.runeError = 65533 := rfl;split
  · split
    · rename_i h2; show (128 : Int) ≤ ((_ : Nat) : Int); omega
    · rw [he]; decide
  · split
    · split
      · rename_i h2; simp only [Bool.and_eq_true,decide_eq_true_eq] at h2; show (128 : Int) ≤ ((_ : Nat) : Int); omega
      · rw [he]; decide
    · split
      · split
        · rename_i h2; simp only [Bool.and_eq_true,decide_eq_true_eq] at h2; show (128 : Int) ≤ ((_ : Nat) : Int); omega
        · rw [he]; decide
      · rw [he]; decide
def yA9 (r : Int) : Bool := decide (65 ≤ r ∧ r ≤ 90 ∨ 97 ≤ r ∧ r ≤ 122)
def yF8 (r : Int) : Bool := decide (48 ≤ r ∧ r ≤ 57 ∨ r = 95)
theorem yG9 (s str : List UInt8) (pos : Int) : yBy s str pos = some (if (yA9 (yg str pos).1 || (!decide (pos = 0) && yF8 (yg str pos).1)) = true then .inr () else .inl (false,())) := by
  unfold yBy y4x y8e yA9 yF8;generalize (yg str pos).1 = r;have g3 : (pos == 0) = decide (pos = 0) := by by_cases h : pos = 0 <;> simp [h]
  have g4 : (r == 95) = decide (r = 95) := by by_cases h : r = 95 <;> simp [h]
  rw [g3,g4];by_cases h1 : r ≥ 97 <;> by_cases h2 : r ≤ 122 <;> by_cases h3 : r ≥ 65 <;> by_cases h4 : r ≤ 90 <;> by_cases h5 : r ≥ 48 <;> by_cases h6 : r ≤ 57 <;> by_cases h7 : r = 95 <;> by_cases h8 : pos = 0 <;>
    first
    | omega
    | simp [h1,h2,h3,h4,h5,h6,h7,h8]
theorem y9F (s : List UInt8) : ∀ (m i : Nat),s.length ≤ i + m → i ≤ s.length →
    y3W s (fun i__ s__ => yBy s s i__) (fun s__ => yBi s s) m (i : Int) () = bif nmOk (decide (i = 0)) (s.drop i) then yBi s s else some (false,())
  | m,i,hm,hi => by
    by_cases hl : i = s.length
    · have e1 : s.drop i = [] := List.drop_eq_nil_of_le (by omega)
      have e2 : decide ((i : Int) < (s.length : Int)) = false := yb (by omega)
      rw [e1];cases m <;> (unfold y3W; rw [bifF e2]; rfl)
    · have hlt : i < s.length := by omega
      obtain ⟨m,rfl⟩ : ∃ k,m = k + 1 := ⟨m - 1,by omega⟩
      have hd : s.drop i = s[i] :: s.drop (i + 1) := (List.getElem_cons_drop (h := hlt)).symm;have hg : s[i]? = some s[i] := List.getElem?_eq_getElem hlt;have e0 : decide ((i : Int) = 0) = decide (i = 0) := decide_eq_decide.2 (by omega)
      unfold y3W;rw [bifT (yF (show (i : Int) < (s.length : Int) by omega)),yG9,hd,e0]
      simp only [Option.bind_some];by_cases hc : s[i].toNat < 128
      · rw [y9c hg hc];have e1 : yA9 (s[i].toNat : Int) = y3j s[i].toNat := decide_eq_decide.2 (by omega)
        have e2 : yF8 (s[i].toNat : Int) = y6R s[i].toNat := decide_eq_decide.2 (by omega)
        simp only [e1,e2,nmOk];by_cases hb : (y3j s[i].toNat || (!decide (i = 0) && y6R s[i].toNat)) = true
        · rw [if_pos hb,hb,Bool.true_and];have ih := y9F s m (i + 1) (by omega) (by omega)
          have e3 : decide (i + 1 = 0) = false := yb (by omega)
          rw [e3,show ((i + 1 : Nat) : Int) = (i : Int) + 1 by omega] at ih
          exact ih
        · rw [if_neg hb,Bool.eq_false_iff.2 hb,Bool.false_and];rfl
      · have h1 := yCH hg (by omega)
        have e1 : yA9 (yg s (i : Int)).1 = false := yb (by omega)
        have e2 : yF8 (yg s (i : Int)).1 = false := yb (by omega)
        have e3 : y3j s[i].toNat = false := yb (by omega)
        have e4 : y6R s[i].toNat = false := yb (by omega)
        simp [e1,e2,nmOk,e3,e4]
theorem yJI (s : List UInt8) (h : s.length < lenMax) : yKG s = some (isNm s,()) := by
  unfold yKG;have := y9F s s.length 0 (by omega) (by omega)
  rw [List.drop_zero,show decide (0 = 0) = true from rfl] at this
  rw [bifT (yF h)];refine (show _ = _ from this).trans ?_
  unfold isNm yBi;cases hn : nmOk true s with
  | false => rfl
  | true =>
    rw [cond_true,Bool.true_and];cases s with
    | nil => rfl
    | cons c l =>
      have e : decide (((c :: l).length : Int) ≤ 24) = decide (0 < (c :: l).length ∧ (c :: l).length ≤ 24) := decide_eq_decide.2 (by simp only [List.length_cons]; omega)
      rw [← e];rfl
def yS (a b : Int) : Int := if a != 0 then a else b
theorem y0r : y49 [] = 0 := rfl
theorem y0E (a : Int) (l : List Int) : y49 (a :: l) = yS a (y49 l) := by
  unfold y49 yS;rw [List.find?_cons];cases h : (a != 0) <;> rfl
theorem y0D (a : Int) : yS a 0 = a := by
  unfold yS;by_cases h : a = 0 <;> simp [h]
theorem y5H (a b c : Int) : yS (yS a b) c = yS a (yS b c) := by
  unfold yS;by_cases ha : a = 0 <;> by_cases hb : b = 0 <;> simp [ha,hb]
theorem y5E (s : List UInt8) : yD4 s = some (bif isNm s then 0 else 8,()) := by
  unfold yD4 yNM;rw [yK2];cases isNm s <;> rfl
theorem y5k (s : List UInt8) (h : s.length < lenMax) : y92 s = some (bif isNm s then 0 else 8,()) := by
  unfold y92 yN7;rw [yJI s h];simp only [Option.bind_some,y6B];cases isNm s <;> rfl
theorem y69 {k v : Ty} (hk : ∀ x y : k.den,eqV k x y = true ↔ x = y) : ∀ (m : List (k.den × v.den)) (x : k.den) (y : v.den) (n : k.den),yN k v (y03 k v m x y) n = bif eqV k n x then some y else yN k v m n
  | [],x,y,n => rfl
  | p :: m,x,y,n => by
    unfold y03;cases h : eqV k x p.1 with
    | true =>
      have hx := (hk _ _).1 h;simp only [cond_true,yN];cases hn : eqV k n x with
      | true => rfl
      | false => rw [hx] at hn; rw [hn]; rfl
    | false =>
      simp only [cond_false,yN];rw [y69 hk m x y n];cases hp : eqV k n p.1 with
      | false => rfl
      | true =>
        have e := (hk _ _).1 hp;cases hn : eqV k n x with
        | false => rfl
        | true =>
          have e2 := (hk _ _).1 hn;rw [(hk _ _).2 (e2.symm.trans e)] at h;cases h
theorem yPA : ∀ x y : (Ty.int .i64).den,eqV (.int .i64) x y = true ↔ x = y := fun x y => by
  show ((x : Int) == y) = true ↔ x = y
  exact beq_iff_eq
theorem yQ8 : ∀ x y : Ty.str.den,eqV .str x y = true ↔ x = y := fun x y => by
  show ((x : List UInt8) == y) = true ↔ x = y
  exact beq_iff_eq
theorem yRG {i : Int} (h0 : -9223372036854775808 ≤ i) (h1 : i ≤ 9223372036854775807) : IntKind.i64.wrap i = i := by
  unfold IntKind.wrap IntKind.bits IntKind.signed;simp only [Nat.reduceSub,Int.reducePow,decide_eq_true_eq,Bool.true_and];split <;> omega
end Go.Tw
end
section
set_option maxRecDepth 100000
namespace Go.Tw
open Go.Vx Go.Vx.B Go.Proofs
end Go.Tw
end
section
set_option maxRecDepth 100000
namespace Go.Tw
open Go.Vx Go.Vx.B Go.Proofs
abbrev nmE (s : List UInt8) : Int := bif isNm s then 0 else 8
def stE (done : List Sta) (s : Sta) : Int :=
  y49 [nmE s.1,bif done.any (fun d => d.1 == s.1) then 9 else 0,bif decide (s.2.1 < -1) || decide ((done.length : Int) ≤ s.2.1) then 11 else 0]
def stsE : List Sta → List Sta → Int
  | _,[] => 0
  | done,s :: l => yS (stE done s) (stsE (done ++ [s]) l)
def kids (p : Int) : Int → List Sta → List Int
  | _,[] => []
  | k,s :: l => (if (s.2.1 == p) = true then [k] else []) ++ kids p (k + 1) l
def fmE (ks : List Int) (s : Sta) : Int :=
  bif ks.length == 0 then (bif s.2.2.1 != -1 then 1 else 0) else (bif s.2.2.2.1 || !ks.contains s.2.2.1 then 1 else 0)
def fmsE (xs : List Sta) : Int → List Sta → Int
  | _,[] => 0
  | i,s :: l => yS (fmE (kids i 0 xs) s) (fmsE xs (i + 1) l)
def trE (n : Int) (t : Tra) : Int :=
  y49 [bif decide (t.1 < 0) || decide (n ≤ t.1) || decide (t.2.2.1 < 0) || decide (n ≤ t.2.2.1) then 10 else 0,nmE t.2.1,ckR t.2.2.2.1 0 15,ckR t.2.2.2.2.1 0 15,
    bif y0N .i64 .and t.2.2.2.2.1 t.2.2.2.1 != t.2.2.2.2.1 then 1 else 0]
def trsE (n : Int) : List Tra → Int
  | [] => 0
  | t :: l => yS (trE n t) (trsE n l)
def evF (s : List (List UInt8)) (t : Tra) : List (List UInt8) := bif s.contains t.2.1 then s else s ++ [t.2.1]
def evts (l : List Tra) : List (List UInt8) := l.foldl evF []
def yk (c : Cha) : Int :=
  if c.1.length = 0 then 12 else if 16 < c.1.length then 5 else
  yS (stsE [] c.1) (yS (fmsE c.1 0 c.1) (yS (bif decide (48 < c.2.1.length) then 5 else 0) (yS (trsE c.1.length c.2.1) (bif decide (8 < (evts c.2.1).length) then 5 else 0))))
section
variable {α β σ : Type}
theorem y6L {body : Int → α → σ → Option (β ⊕ σ)} {fin : σ → Option β} (xs : List α) (Q : Nat → σ → Prop) (g : σ → α → σ) :
    ∀ (l done : List α) (s : σ),xs = done ++ l → Q done.length s → (∀ (i : Nat) e s,xs[i]? = some e → Q i s → body (i : Int) e s = some (.inr (g s e)) ∧ Q (i + 1) (g s e)) →
      yI body fin (done.length : Int) l s = fin (l.foldl g s) ∧ Q xs.length (l.foldl g s)
  | [],done,s,hx,hq,_ => ⟨rfl,by rw [hx]; simpa using hq⟩
  | e :: l,done,s,hx,hq,h => by
    obtain ⟨h1,h2⟩ := h done.length e s (by rw [hx]; simp) hq
    have ih := y6L (body := body) (fin := fin) xs Q g l (done ++ [e]) (g s e) (by rw [hx]; simp) (by simpa using h2) h
    simp only [List.length_append,List.length_cons,List.length_nil] at ih;rw [y04,h1];exact ih
end
theorem yKs {α β : Type} (p : α → Bool) (y : β) (l : List α) : l.findSome? (fun e => if p e = true then some y else none) = if l.any p = true then some y else none := by
  induction l with
  | nil => rfl
  | cons e l ih =>
    rw [List.findSome?_cons,List.any_cons,ih];cases p e <;> simp
theorem yGA (l : List (List UInt8)) (s : List UInt8) (h : l.length < lenMax) : yHt l s = some (l.contains s,()) := by
  unfold yHt;rw [bifT (yF h),y6E (fun e => if (e == s) = true then some (true,()) else none) l 0 (fun i e _ => by
    unfold yHZ;cases (e == s) <;> rfl),yKs]
  have : l.any (fun e => e == s) = l.contains s := by rw [List.contains_eq_any_beq]; congr 1; funext x; exact Bool.beq_comm
  rw [this];cases l.contains s <;> rfl
theorem y8E (xs : List Int) (v : Int) : ∀ (l : List Int) (i : Int),0 ≤ i → ∃ k,yI (fun i__ e__ s__ => yK7 xs v i__ e__) (fun s__ => yNz xs v) i l () = some (k,()) ∧ decide (k ≥ 0) = l.contains v
  | [],i,_ => ⟨-1,rfl,rfl⟩
  | e :: l,i,hi => by
    rw [y04];unfold yK7;rw [List.contains_cons];cases h : (v == e) with
    | true => exact ⟨i,rfl,by rw [Bool.true_or]; exact yF hi⟩
    | false =>
      obtain ⟨k,h1,h2⟩ := y8E xs v l (i + 1) (by omega)
      exact ⟨k,h1,by rw [h2]; simp⟩
theorem y7x (xs : List (List UInt8)) (v : List UInt8) : ∀ (l : List (List UInt8)) (i : Int),0 ≤ i → ∃ k,yI (fun i__ e__ s__ => yKv xs v i__ e__) (fun s__ => yNc xs v) i l () = some (k,()) ∧ decide (k ≥ 0) = l.contains v
  | [],i,_ => ⟨-1,rfl,rfl⟩
  | e :: l,i,hi => by
    rw [y04];unfold yKv;rw [List.contains_cons];cases h : (v == e) with
    | true => exact ⟨i,rfl,by rw [Bool.true_or]; exact yF hi⟩
    | false =>
      obtain ⟨k,h1,h2⟩ := y7x xs v l (i + 1) (by omega)
      exact ⟨k,h1,by rw [h2]; simp⟩
theorem yCi (l : List Int) (v : Int) (h : l.length < lenMax) : zL_M l v = some (l.contains v,()) := by
  unfold zL_M zL_m zW_M;obtain ⟨k,h1,h2⟩ := y8E l v l 0 (by omega)
  rw [bifT (yF h),h1];simp only [Option.bind_some];rw [h2]
theorem yBH (l : List (List UInt8)) (v : List UInt8) (h : l.length < lenMax) : zE_M l v = some (l.contains v,()) := by
  unfold zE_M zE_m zH_M;obtain ⟨k,h1,h2⟩ := y7x l v l 0 (by omega)
  rw [bifT (yF h),h1];simp only [Option.bind_some];rw [h2]
theorem y9C (s : List (List UInt8)) (t : Tra) : (evF s t).length ≤ s.length + 1 := by
  unfold evF;cases s.contains t.2.1 <;> simp
theorem yFq (c : Cha) (h : c.2.1.length ≤ 1000) : yHX c = some (evts c.2.1,()) := by
  have hmem : memMax = 68719476736 := rfl;unfold yHX;rw [bifT (yF (show c.2.1.length < lenMax by unfold lenMax; omega))]
  have := (y6L (body := fun i__ e__ s__ => yFO c i__ e__ s__) (fin := fun s__ => yHs c s__) c.2.1 (fun i s => s.length ≤ i) evF c.2.1 [] [] rfl (Nat.le_refl _) (fun i e s he hs => by
    have hi := (List.getElem?_eq_some_iff.1 he).1;refine ⟨?_,by have := y9C s e; omega⟩
    unfold yFO evF;rw [yGA s _ (by unfold lenMax; omega)]
    simp only [Option.bind_some];cases s.contains e.2.1 with
    | true => rfl
    | false =>
      rw [yDo,he];simp only [Bool.not_false,cond_true,Option.bind_some,cond_false];rw [bifT (yF (show s.length + 1 ≤ memMax by omega))])).1
  exact this
theorem yGN (c : Cha) (h : c.2.1.length ≤ 1000) : zb_M c = some (evts c.2.1,()) := by
  have hmem : memMax = 68719476736 := rfl;unfold zb_M;rw [bifT (yF (show c.2.1.length < lenMax by unfold lenMax; omega))]
  have := (y6L (body := fun i__ e__ s__ => yKQ c.2.1 i__ e__ s__) (fin := fun s__ => yO2 c.2.1 s__) c.2.1 (fun i s => s.length ≤ i) evF c.2.1 [] [] rfl (Nat.le_refl _) (fun i e s he hs => by
    have hi := (List.getElem?_eq_some_iff.1 he).1;refine ⟨?_,by have := y9C s e; omega⟩
    unfold yKQ evF;rw [yBH s _ (by unfold lenMax; omega)]
    simp only [Option.bind_some];cases s.contains e.2.1 with
    | true => rfl
    | false =>
      simp only [Bool.not_false,cond_true,cond_false];rw [bifT (yF (show s.length + 1 ≤ memMax by omega))])).1
  exact this
theorem y7r (c : Cha) (i : Nat) (a0 : List UInt8) (a1 a2 : Int) (a3 : Bool) (hi : i ≤ c.1.length) {fin : Unit → Option ((Int × Unit) ⊕ Unit)} : ∀ (m k : Nat),k + m = i →
    y44 (fun i__ s__ => yGK c (i : Int) a0 a1 a2 a3 i__) fin m (k : Int) () = if ((c.1.drop k).take m).any (fun d => d.1 == a0) = true then some (.inl (9,())) else fin ()
  | 0,k,_ => by simp [y44]
  | m + 1,k,hk => by
    have hkl : k < c.1.length := by omega
    unfold y44;have hb : yGK c (i : Int) a0 a1 a2 a3 (k : Int) = some (if (c.1[k].1 == a0) = true then .inl (.inl (9,())) else .inr ()) := by
      unfold yGK;simp only [yDo,List.getElem?_eq_getElem hkl,Option.bind_some];cases (c.1[k].1 == a0) <;> rfl
    rw [hb];simp only [Option.bind_some];have hd : (c.1.drop k).take (m + 1) = c.1[k] :: (c.1.drop (k + 1)).take m := by
      rw [← List.getElem_cons_drop (h := hkl),List.take_succ_cons]
    rw [hd,List.any_cons];cases h : (c.1[k].1 == a0) with
    | true => rfl
    | false =>
      rw [if_neg (by simp),Bool.false_or]
      have ih := y7r c i a0 a1 a2 a3 hi (fin := fin) m (k + 1) (by omega)
      rw [show ((k + 1 : Nat) : Int) = (k : Int) + 1 by omega] at ih
      exact ih
theorem yKU (c : Cha) (hl : c.1.length ≤ 16) (i : Nat) (s : Sta) (hs : c.1[i]? = some s) :
    yJD c (i : Int) s = some (bif stE (c.1.take i) s != 0 then .inl (stE (c.1.take i) s,()) else .inr ()) := by
  have hi : i < c.1.length := (List.getElem?_eq_some_iff.1 hs).1;have hlen : (c.1.take i).length = i := by rw [List.length_take]; omega
  unfold yJD stE;rw [y5E];simp only [Option.bind_some,y0E,y0r,y0D,hlen];change (bif nmE s.1 != 0 then _ else _) = _
  rw [yS];cases hnm : (nmE s.1 != 0) with
  | true => rw [cond_true,if_pos rfl,hnm]; rfl
  | false =>
    rw [cond_false,if_neg (by simp),bifT (yF (show (i : Int) ≤ 9223372036854775807 by omega))]
    have e1 : ((i : Int) - 0).toNat = i := by omega
    rw [e1];have := y7r c i s.1 s.2.1 s.2.2.1 s.2.2.2.1 (by omega) (fin := fun s__ => yHT c (i : Int) s.1 s.2.1 s.2.2.1 s.2.2.2.1) i 0 (by omega)
    rw [show ((0 : Nat) : Int) = 0 from rfl] at this
    rw [this,List.drop_zero];cases hany : (c.1.take i).any (fun d => d.1 == s.1) with
    | true => rw [if_pos rfl]; rfl
    | false =>
      rw [if_neg (by simp)]
      unfold yHT;have e2 : decide (s.2.1 ≥ (i : Int)) = decide ((i : Int) ≤ s.2.1) := rfl;rw [e2];cases decide (s.2.1 < -1) <;> cases decide ((i : Int) ≤ s.2.1) <;> rfl
theorem yBh (x : Int) : yS 0 x = x := rfl
theorem y1c {a : Int} (h : a ≠ 0) (x : Int) : yS a x = a := by
  unfold yS;rw [if_pos (by simpa using h)]
def seqE (e : Int) (k : Option (Int × Unit)) : Option (Int × Unit) := bif e != 0 then some (e,()) else k
theorem yQB (k : Option (Int × Unit)) : seqE 0 k = k := rfl
theorem yCu {a : Int} (h : a ≠ 0) (k : Option (Int × Unit)) : seqE a k = some (a,()) := bifT (by simpa using h)
theorem y67 (a b : Int) (k : Option (Int × Unit)) : seqE (yS a b) k = seqE a (seqE b k) := by
  by_cases h : a = 0
  · subst h; rfl
  · rw [y1c h,yCu h,yCu h]
theorem y5T (a b : Int) : seqE a (some (b,())) = some (yS a b,()) := by
  by_cases h : a = 0
  · subst h; rfl
  · rw [y1c h,yCu h]
theorem y7d {α : Type} {body : Int → α → Unit → Option ((Int × Unit) ⊕ Unit)} {fin : Unit → Option (Int × Unit)} {i : Int} {e : α} {l : List α} {a : Int} (hb : body i e () = some (bif a != 0 then .inl (a,()) else .inr ())) :
    yI body fin i (e :: l) () = seqE a (yI body fin (i + 1) l ()) := by
  rw [y04,hb];unfold seqE;cases (a != 0) <;> rfl
theorem yFE (c : Cha) (hl : c.1.length ≤ 16) : ∀ (l done : List Sta),c.1 = done ++ l →
    yI (fun i__ e__ s__ => yJD c i__ e__) (fun s__ => yH1 c) (done.length : Int) l () = seqE (stsE done l) (yH1 c)
  | [],done,_ => rfl
  | s :: l,done,hx => by
    have hn : c.1[done.length]? = some s := by rw [hx]; simp
    have ht : c.1.take done.length = done := by rw [hx]; simp
    have ih := yFE c hl l (done ++ [s]) (by rw [hx]; simp)
    simp only [List.length_append,List.length_cons,List.length_nil] at ih;have hb := yKU c hl done.length s hn;rw [ht] at hb;rw [y7d hb];show _ = seqE (yS _ _) _
    rw [y67];exact congrArg (seqE _) ih
theorem y4m (p : Int) : ∀ (l : List Sta) (k : Int),(kids p k l).length ≤ l.length
  | [],k => Nat.le_refl _
  | s :: l,k => by
    have := y4m p l (k + 1);unfold kids;rw [List.length_append,List.length_cons];split <;> simp <;> omega
theorem y5z (c : Cha) (p x : Int) : ∀ (l : List Sta) (k n : Int) (b : Bool),0 ≤ n → n + l.length ≤ 1000 →
    yI (fun i__ e__ s__ => yC7 p x c i__ e__ s__.1 s__.2) (fun s__ => yIA p x c s__.1 s__.2) k l (n,b) = some (n + (kids p k l).length,b || (kids p k l).contains x,())
  | [],k,n,b,_,_ => by
    show some (n,b,()) = some (n + 0,b || false,())
    simp
  | s :: l,k,n,b,h0,hn => by
    simp only [List.length_cons] at hn;have hw : IntKind.i64.wrap (n + 1) = n + 1 := yRG (by omega) (by omega)
    have hb : yC7 p x c k s n b = some (.inr (if (s.2.1 == p) = true then (n + 1,b || (x == k)) else (n,b))) := by
      unfold yC7;rw [hw,show (k == x) = (x == k) by rw [Bool.beq_comm]]
      cases (s.2.1 == p) <;> cases b <;> rfl
    rw [y04];simp only [hb,Option.bind_some];unfold kids;cases h : (s.2.1 == p) with
    | true =>
      rw [if_pos rfl,if_pos rfl,y5z c p x l (k + 1) (n + 1) _ (by omega) (by omega),List.singleton_append,List.length_cons,List.contains_cons,Bool.or_assoc]
      congr 2
      omega
    | false =>
      rw [if_neg (by simp),if_neg (by simp),y5z c p x l (k + 1) n b h0 (by omega),List.nil_append]
theorem yKY (c : Cha) (p x : Int) (hl : c.1.length ≤ 16) : yHS c p x = some (((kids p 0 c.1).length : Int),(kids p 0 c.1).contains x,()) := by
  unfold yHS;rw [bifT (yF (show c.1.length < lenMax by unfold lenMax; omega)),y5z c p x c.1 0 0 false (by omega) (by omega)]
  simp
theorem yJE (c : Cha) (hl : c.1.length ≤ 16) (i : Int) (s : Sta) :
    yIX c i s = some (bif fmE (kids i 0 c.1) s != 0 then .inl (fmE (kids i 0 c.1) s,()) else .inr ()) := by
  unfold yIX fmE;rw [yKY c i _ hl];simp only [Option.bind_some];by_cases h0 : (kids i 0 c.1).length = 0
  · rw [h0];simp only [bifF (show decide (((0 : Nat) : Int) > 0) = false from rfl),bifT (show (((0 : Nat) : Int) == 0) = true from rfl),bifT (show ((0 : Nat) == 0) = true from rfl)]
    cases (s.2.2.1 != -1) <;> rfl
  · rw [bifT (yF (show (((kids i 0 c.1).length : Nat) : Int) > 0 by omega)),bifF (show ((kids i 0 c.1).length == 0) = false by simpa using h0),bifF (show ((((kids i 0 c.1).length : Nat) : Int) == 0) = false by simpa using h0)]
    cases (kids i 0 c.1).contains s.2.2.1 <;> cases s.2.2.2.1 <;> rfl
theorem yEs (c : Cha) (hl : c.1.length ≤ 16) : ∀ (l : List Sta) (i : Int),
    yI (fun i__ e__ s__ => yIX c i__ e__) (fun s__ => yHH c) i l () = seqE (fmsE c.1 i l) (yHH c)
  | [],i => rfl
  | s :: l,i => by
    rw [y7d (yJE c hl i s)];show _ = seqE (yS _ _) _
    rw [y67];exact congrArg (seqE _) (yEs c hl l (i + 1))
theorem yK1 (c : Cha) (h0 : 1 ≤ c.1.length) (hl : c.1.length ≤ 16) (i : Int) (t : Tra) :
    yBP c i t = some (bif trE c.1.length t != 0 then .inl (trE c.1.length t,()) else .inr ()) := by
  have hw : IntKind.i64.wrap ((c.1.length : Int) - 1) = (c.1.length : Int) - 1 := yRG (by omega) (by omega)
  unfold yBP trE;simp only [yAR,hw,y5E,Option.bind_some];rw [yHK _ (by simp [lenMax])]
  simp only [y0E,y0r,y0D,Option.bind_some];have e1 : ckR t.1 0 ((c.1.length : Int) - 1) = if t.1 < 0 ∨ (c.1.length : Int) ≤ t.1 then 3 else 0 := by
    unfold ckR;by_cases h : t.1 < 0 ∨ (c.1.length : Int) ≤ t.1
    · rw [if_pos h,if_pos (by omega)]
    · rw [if_neg h,if_neg (by omega)]
  have e2 : ckR t.2.2.1 0 ((c.1.length : Int) - 1) = if t.2.2.1 < 0 ∨ (c.1.length : Int) ≤ t.2.2.1 then 3 else 0 := by
    unfold ckR;by_cases h : t.2.2.1 < 0 ∨ (c.1.length : Int) ≤ t.2.2.1
    · rw [if_pos h,if_pos (by omega)]
    · rw [if_neg h,if_neg (by omega)]
  rw [e1,e2];by_cases h1 : t.1 < 0 ∨ (c.1.length : Int) ≤ t.1
  · rw [if_pos h1];have : (decide (t.1 < 0) || decide ((c.1.length : Int) ≤ t.1) || decide (t.2.2.1 < 0) || decide ((c.1.length : Int) ≤ t.2.2.1)) = true := by
      rcases h1 with h | h <;> simp [h]
    rw [this];rfl
  · rw [if_neg h1];by_cases h2 : t.2.2.1 < 0 ∨ (c.1.length : Int) ≤ t.2.2.1
    · rw [if_pos h2];have : (decide (t.1 < 0) || decide ((c.1.length : Int) ≤ t.1) || decide (t.2.2.1 < 0) || decide ((c.1.length : Int) ≤ t.2.2.1)) = true := by
        rcases h2 with h | h <;> simp [h]
      rw [this];rfl
    · rw [if_neg h2];have : (decide (t.1 < 0) || decide ((c.1.length : Int) ≤ t.1) || decide (t.2.2.1 < 0) || decide ((c.1.length : Int) ≤ t.2.2.1)) = false := by
        rw [not_or] at h1 h2;simp [h1.1,h1.2,h2.1,h2.2]
      rw [this];unfold z0t;simp only [cond_false];have e3 : yS 0 = fun x => x := by funext x; unfold yS; rfl
      rw [e3];have e4 (b : Bool) : (bif b then ((1 : Int),()) else (0,())).fst = bif b then 1 else 0 := by cases b <;> rfl
      rw [e4];cases (yS (nmE t.2.1) (yS (ckR t.2.2.2.1 0 15) (yS (ckR t.2.2.2.2.1 0 15) (bif y0N .i64 .and t.2.2.2.2.1 t.2.2.2.1 != t.2.2.2.2.1 then 1 else 0))) != 0) <;> rfl
theorem yEz (c : Cha) (h0 : 1 ≤ c.1.length) (hl : c.1.length ≤ 16) : ∀ (l : List Tra) (i : Int),
    yI (fun i__ e__ s__ => yBP c i__ e__) (fun s__ => yCY c) i l () = seqE (trsE c.1.length l) (yCY c)
  | [],i => rfl
  | s :: l,i => by
    rw [y7d (yK1 c h0 hl i s)];show _ = seqE (yS _ _) _
    rw [y67];exact congrArg (seqE _) (yEz c h0 hl l (i + 1))
theorem yHq (c : Cha) : zu_M c = some (yk c,()) := by
  unfold zu_M yk;by_cases h0 : c.1.length = 0
  · rw [bifT (show ((c.1.length : Int) == 0) = true by simp [h0]),if_pos h0]
  rw [bifF (show ((c.1.length : Int) == 0) = false by simpa using h0),if_neg h0]
  by_cases h8 : 16 < c.1.length
  · rw [bifT (yF (show (c.1.length : Int) > 16 by omega)),if_pos h8]
  rw [bifF (yb (show ¬ (c.1.length : Int) > 16 by omega)),if_neg h8,bifT (yF (show c.1.length < lenMax by unfold lenMax; omega))]
  have h1 := yFE c (by omega) c.1 [] rfl
  rw [show (([] : List Sta).length : Int) = 0 from rfl] at h1
  rw [h1,← y5T,← y5T,← y5T,← y5T];refine congrArg (seqE _) ?_
  unfold yH1;rw [bifT (yF (show c.1.length < lenMax by unfold lenMax; omega)),yEs c (by omega)]
  refine congrArg (seqE _) ?_
  unfold yHH;by_cases h4 : 48 < c.2.1.length
  · rw [bifT (yF (show (c.2.1.length : Int) > 48 by omega)),yF h4]
    rfl
  · rw [bifF (yb (show ¬ (c.2.1.length : Int) > 48 by omega)),yb h4,bifT (yF (show c.2.1.length < lenMax by unfold lenMax; omega)),yEz c (by omega) (by omega),cond_false,yQB]
    refine congrArg (seqE _) ?_
    unfold yCY;rw [yFq c (by omega)]
    simp only [Option.bind_some];unfold z0t;have e5 : decide (((evts c.2.1).length : Int) > 8) = decide (8 < (evts c.2.1).length) := decide_eq_decide.2 (by omega)
    rw [e5];cases decide (8 < (evts c.2.1).length) <;> rfl
end Go.Tw
end
section
set_option maxRecDepth 100000
namespace Go.Tw
open Go.Vx Go.Vx.B Go.Proofs
theorem yBT (p : Int) (s : Sta) : ∀ (l : List Sta) (k : Int),kids p k (l ++ [s]) = kids p k l ++ (if (s.2.1 == p) = true then [k + l.length] else [])
  | [],k => by simp [kids]
  | x :: l,k => by
    rw [List.cons_append];unfold kids;have e : k + 1 + (l.length : Int) = k + ((x :: l).length : Int) := by simp only [List.length_cons]; omega
    rw [yBT p s l (k + 1),List.append_assoc,e]
abbrev evN (m : List (List UInt8 × Bool)) (n : List UInt8) : Bool := (yN .str .bool m n).getD false
abbrev evK (m : List (Int × List Int)) (n : Int) : List Int := (yN (.int .i64) (.slice (.int .i64)) m n).getD []
theorem yKb (c : Cha) (xs done : List Sta) (s : Sta) (m0 : List (List UInt8 × Bool)) (m1 : List (Int × List Int)) (hs : s.1.length < lenMax) (hd : done.length ≤ 1000)
    (h0 : ∀ n,evN m0 n = done.any fun d => d.1 == n) (h1 : ∀ p,evK m1 p = kids p 0 done) :
    (stE done s ≠ 0 ∧ yBZ c xs (done.length : Int) s m0 m1 = some (.inl (stE done s,()))) ∨
    (stE done s = 0 ∧ ∃ m0' m1',yBZ c xs (done.length : Int) s m0 m1 = some (.inr (m0',m1')) ∧ (∀ n,evN m0' n = (done ++ [s]).any fun d => d.1 == n) ∧ ∀ p,evK m1' p = kids p 0 (done ++ [s])) := by
  have hmem : memMax = 68719476736 := rfl;have hk := y4m s.2.1 done 0;have h0s := h0 s.1;have h1s := h1 s.2.1;unfold evN at h0s;unfold evK at h1s;have e19 : y98 c xs (done.length : Int) m0 m1 s = some (.inr (y03 .str .bool m0 s.1 true,y03 (.int .i64) (.slice (.int .i64)) m1 s.2.1 (kids s.2.1 0 done ++ [(done.length : Int)]))) := by
    unfold y98;rw [h1s,bifT (show y3E (.int .i64) s.2.1 s.2.1 = true from beq_self_eq_true (α := Int) s.2.1),bifT (yF (show (kids s.2.1 0 done).length + 1 ≤ memMax by omega)),bifT (show y3E (.int .i64) s.2.1 s.2.1 = true from beq_self_eq_true (α := Int) s.2.1)]
  have key : yBZ c xs (done.length : Int) s m0 m1 = bif stE done s != 0 then some (.inl (stE done s,())) else y98 c xs (done.length : Int) m0 m1 s := by
    unfold yBZ stE;rw [y5k _ hs];simp only [Option.bind_some,y6B];rw [h0s];by_cases h : s.2.1 < -1
    · rw [bifT (yF h),y2H _ (by simp [lenMax]),yF h,Bool.true_or]
      simp only [Option.bind_some]
    · rw [bifF (yb h),y2H _ (by simp [lenMax]),yb h,Bool.false_or,show decide (s.2.1 ≥ (done.length : Int)) = decide ((done.length : Int) ≤ s.2.1) from rfl]
      simp only [Option.bind_some]
  rw [key];cases hx : (stE done s != 0) with
  | true => exact .inl ⟨by simpa using hx,rfl⟩
  | false =>
    refine .inr ⟨by simpa using hx,_,_,by rw [cond_false]; exact e19,fun n => ?_,fun p => ?_⟩
    · have hn := h0 n;unfold evN at hn ⊢;rw [y69 yQ8,List.any_append,← hn];show (bif (n == s.1) then some true else yN .str .bool m0 n).getD false = ((yN .str .bool m0 n).getD false || ((s.1 == n) || false))
      by_cases e : n = s.1
      · subst e; simp
      · rw [show (n == s.1) = false by simpa using e,show (s.1 == n) = false by simpa using fun h => e h.symm]
        simp
    · have hp := h1 p;unfold evK at hp ⊢;rw [y69 yPA,yBT,← hp];show (bif (p == s.2.1) then some (kids s.2.1 0 done ++ [(done.length : Int)]) else yN (.int .i64) (.slice (.int .i64)) m1 p).getD [] = _
      by_cases e : p = s.2.1
      · subst e;rw [beq_self_eq_true,cond_true,if_pos rfl,h1s,Option.getD_some,Int.zero_add]
      · rw [show (p == s.2.1) = false by simpa using e,show (s.2.1 == p) = false by simpa using fun h => e h.symm]
        simp
theorem yF2 (c : Cha) (xs : List Sta) (hl : xs.length ≤ 1000) : ∀ (l done : List Sta) (m0 : List (List UInt8 × Bool)) (m1 : List (Int × List Int)),xs = done ++ l → (∀ s ∈ l,s.1.length < lenMax) →
    (∀ n,evN m0 n = done.any fun d => d.1 == n) → (∀ p,evK m1 p = kids p 0 done) →
    (stsE done l ≠ 0 ∧ yI (fun i__ e__ s__ => yBZ c xs i__ e__ s__.1 s__.2) (fun s__ => yG1 c xs s__.1 s__.2) (done.length : Int) l (m0,m1) = some (stsE done l,())) ∨
    (stsE done l = 0 ∧ ∃ m0' m1',(∀ p,evK m1' p = kids p 0 xs) ∧ yI (fun i__ e__ s__ => yBZ c xs i__ e__ s__.1 s__.2) (fun s__ => yG1 c xs s__.1 s__.2) (done.length : Int) l (m0,m1) = yG1 c xs m0' m1')
  | [],done,m0,m1,hx,_,h0,h1 => .inr ⟨rfl,m0,m1,by rw [hx,List.append_nil]; exact h1,rfl⟩
  | s :: l,done,m0,m1,hx,hs,h0,h1 => by
    have hd : done.length ≤ 1000 := by rw [hx] at hl; simp at hl; omega
    rw [y04];simp only [stsE,yS];rcases yKb c xs done s m0 m1 (hs s (by simp)) hd h0 h1 with ⟨h2,h3⟩ | ⟨h2,m0',m1',h3,h4,h5⟩
    · rw [h3];refine .inl ?_
      rw [if_pos (by simpa using h2)]
      exact ⟨h2,rfl⟩
    · rw [h3,h2];have ih := yF2 c xs hl l (done ++ [s]) m0' m1' (by rw [hx]; simp) (fun x hx => hs x (by simp [hx])) h4 h5
      simp only [List.length_append,List.length_cons,List.length_nil] at ih;simpa using ih
theorem yK5 (m1 : List (Int × List Int)) (xs ys : List Sta) (i : Int) (s : Sta) (hx : xs.length ≤ 1000) (h1 : ∀ p,evK m1 p = kids p 0 xs) :
    yBw m1 ys i s = some (bif fmE (kids i 0 xs) s != 0 then .inl (fmE (kids i 0 xs) s,()) else .inr ()) := by
  have hk := y4m i xs 0;have h1s := h1 i;unfold evK at h1s;unfold yBw fmE;rw [h1s,yCi _ _ (by unfold lenMax; omega)]
  by_cases h0 : (kids i 0 xs).length = 0
  · rw [bifT (show (((kids i 0 xs).length : Int) == 0) = true by simp [h0]),bifT (show ((kids i 0 xs).length == 0) = true by simp [h0]),show (!((kids i 0 xs).length : Int) == 0) = false by simp [h0]]
    cases (s.2.2.1 != -1) <;> rfl
  · rw [bifF (show (((kids i 0 xs).length : Int) == 0) = false by simpa using h0),bifF (show ((kids i 0 xs).length == 0) = false by simpa using h0),show (!((kids i 0 xs).length : Int) == 0) = true by simpa using h0]
    cases s.2.2.2.1 <;> cases (kids i 0 xs).contains s.2.2.1 <;> rfl
theorem yEO (m1 : List (Int × List Int)) (xs ys : List Sta) (hx : xs.length ≤ 1000) (h1 : ∀ p,evK m1 p = kids p 0 xs) : ∀ (l : List Sta) (i : Int),
    yI (fun i__ e__ s__ => yBw m1 ys i__ e__) (fun s__ => yI1 m1 ys) i l () = some (fmsE xs i l,())
  | [],i => rfl
  | s :: l,i => by
    rw [y04,yK5 m1 xs ys i s hx h1];simp only [Option.bind_some,fmsE,yS];cases h : (fmE (kids i 0 xs) s != 0) with
    | true => simp
    | false => simpa using yEO m1 xs ys hx h1 l (i + 1)
def yID (c : Cha) : Prop := (∀ s ∈ c.1,s.1.length < lenMax) ∧ ∀ t ∈ c.2.1,t.2.1.length < lenMax
theorem yFk (c : Cha) (hl : c.1.length ≤ 1000) (hw : yID c) : zN_M c = some (yS (stsE [] c.1) (fmsE c.1 0 c.1),()) := by
  have hlm : c.1.length < lenMax := by unfold lenMax; omega
  have hL := yF2 c c.1 hl c.1 [] [] [] rfl hw.1 (fun n => rfl) (fun p => rfl)
  rw [show (([] : List Sta).length : Int) = 0 from rfl] at hL
  unfold zN_M;rw [bifT (yF hlm)];rcases hL with ⟨h1,h2⟩ | ⟨h1,m0',m1',h2,h3⟩
  · rw [y1c h1];exact h2
  · rw [h1,yBh,h3];unfold yG1;rw [bifT (yF hlm)];exact yEO m1' c.1 c.1 hl h2 c.1 0
theorem yMk : ∀ v m : Fin 16,(y0N .i64 .andNot (v.val : Int) (m.val : Int) != 0) = (y0N .i64 .and (v.val : Int) (m.val : Int) != (v.val : Int)) := by decide +kernel
theorem yG8 {v m : Int} (hv : 0 ≤ v ∧ v ≤ 15) (hm : 0 ≤ m ∧ m ≤ 15) : (y0N .i64 .andNot v m != 0) = (y0N .i64 .and v m != v) := by
  have := yMk ⟨v.toNat,by omega⟩ ⟨m.toNat,by omega⟩
  simp only at this;rw [Int.toNat_of_nonneg hv.1,Int.toNat_of_nonneg hm.1] at this;exact this
theorem y7B {n lo hi : Int} (h : ckR n lo hi = 0) : lo ≤ n ∧ n ≤ hi := by
  unfold ckR at h;split at h
  · cases h
  · omega
theorem yOU (t : Tra) (n : Int) (hw : t.2.1.length < lenMax) : zQ_M t n = some (trE n t,()) := by
  unfold zQ_M zQ_m trE;have eF : ∀ a b : Int,(if Bool.false = Bool.true then a else b) = b := fun a b => if_neg (by decide)
  have eT : ∀ a b : Int,(if Bool.true = Bool.true then a else b) = a := fun a b => if_pos rfl
  have elow : decide ((if t.2.2.1 < t.1 then t.2.2.1 else t.1) < (0 : Int)) = (decide (t.1 < 0) || decide (t.2.2.1 < 0)) := by
    rw [← Bool.decide_or];apply decide_eq_decide.2;split <;> omega
  have ehigh : decide ((if t.2.2.1 > t.1 then t.2.2.1 else t.1) ≥ n) = (decide (n ≤ t.1) || decide (n ≤ t.2.2.1)) := by
    rw [← Bool.decide_or];apply decide_eq_decide.2;split <;> omega
  try rw [eF]
  try rw [eT]
  rw [elow,ehigh];rw [y5k _ hw];simp only [Option.bind_some,y6B,zV,yHm];rw [y2H _ (by simp [lenMax])]
  simp only [Option.bind_some,y0E,y0r,y0D];have eall : (decide (t.1 < 0) || decide (n ≤ t.1) || decide (t.2.2.1 < 0) || decide (n ≤ t.2.2.1)) = ((decide (t.1 < 0) || decide (t.2.2.1 < 0)) || (decide (n ≤ t.1) || decide (n ≤ t.2.2.1))) := by
    cases decide (t.1 < 0) <;> cases decide (n ≤ t.1) <;> cases decide (t.2.2.1 < 0) <;> cases decide (n ≤ t.2.2.1) <;> rfl
  rw [eall];cases hlow : (decide (t.1 < 0) || decide (t.2.2.1 < 0)) with
  | true =>
    simp only [cond_true,Bool.true_or];rw [y1c (by decide)]
  | false =>
    rw [cond_false,Bool.false_or];congr 2
    cases hhigh : (decide (n ≤ t.1) || decide (n ≤ t.2.2.1)) with
    | true => rw [cond_true,y1c (by decide),y1c (by decide)]
    | false =>
      by_cases hm : ckR t.2.2.2.1 0 15 = 0
      · by_cases hv : ckR t.2.2.2.2.1 0 15 = 0
        · rw [yG8 (y7B hv) (y7B hm)]
        · simp only [yS,bne_iff_ne,ne_eq,hm,hv,not_true_eq_false,if_false,not_false_eq_true,if_true]
      · simp only [yS,bne_iff_ne,ne_eq,hm,not_false_eq_true,if_true]
theorem yMg (c : Cha) (hl : c.2.1.length ≤ 1000) (hw : yID c) : (z6_M c.2.1 fun (x : Tra × Unit) => zg_M x.fst c) = some (c.2.1.map (trE c.1.length),()) := by
  have hmem : memMax = 68719476736 := rfl;unfold z6_M;rw [bifT (yF (show c.2.1.length < lenMax by unfold lenMax; omega))]
  refine (y5R (trE c.1.length) c.2.1 0 [] (by simp; omega) fun i e s he hs => ?_).trans ?_
  · unfold yNi zg_M zg_m;simp only;rw [show (e.1,e.2.1,e.2.2.1,e.2.2.2.1,e.2.2.2.2.1,()) = e from rfl,yOU e _ (hw.2 e he)]
    simp only [Option.bind_some];rw [bifT (yF hs)]
  · rw [List.nil_append]; rfl
theorem y9U (n : Int) : ∀ l : List Tra,y49 (l.map (trE n)) = trsE n l
  | [] => rfl
  | t :: l => by rw [List.map_cons,y0E,y9U n l]; rfl
theorem yAz (c : Cha) (h1 : c.1.length ≤ 1000) (h2 : c.2.1.length ≤ 1000) (hw : yID c) : zy_M c = some (yk c,()) := by
  have hlm : c.2.1.length < lenMax := by unfold lenMax; omega
  unfold zy_M zy_m yk;simp only [y6B];rw [y2H _ (by simp [lenMax])]
  simp only [Option.bind_some,y0E,y0r,y0D];by_cases h0 : c.1.length = 0
  · rw [show ((c.1.length : Int) == 0) = true by simp [h0],if_pos h0]
    rfl
  rw [show ((c.1.length : Int) == 0) = false by simpa using h0,if_neg h0]
  by_cases h8 : 16 < c.1.length
  · rw [yF (show (c.1.length : Int) > 16 by omega),if_pos h8]
    rfl
  rw [yb (show ¬ (c.1.length : Int) > 16 by omega),if_neg h8]
  simp only [cond_false];rw [bifF (show (yS 0 0 != 0) = false from rfl),yFk c h1 hw]
  simp only [Option.bind_some];rw [y2H _ (by simp [lenMax])]
  simp only [Option.bind_some,y0E,y0r,y0D];rw [← y5H,← y5H];have e4 : decide ((c.2.1.length : Int) > 48) = decide (48 < c.2.1.length) := decide_eq_decide.2 (by omega)
  rw [e4];generalize yS (yS (stsE [] c.1) (fmsE c.1 0 c.1)) (bif decide (48 < c.2.1.length) then 5 else 0) = x
  by_cases hx : x = 0
  · rw [hx,yBh,bifF (show ((0 : Int) != 0) = false from rfl),yMg c h2 hw]
    simp only [Option.bind_some];rw [y2H _ (by rw [List.length_map]; exact hlm),y9U]
    simp only [Option.bind_some];rw [yGN c h2];simp only [Option.bind_some];rw [y2H _ (by simp [lenMax])]
    simp only [Option.bind_some,y0E,y0r,y0D];have e5 : decide (((evts c.2.1).length : Int) > 8) = decide (8 < (evts c.2.1).length) := decide_eq_decide.2 (by omega)
    rw [e5]
  · rw [y1c hx,bifT (by simpa using hx)]
theorem yx {a b : Int} : yS a b = 0 ↔ a = 0 ∧ b = 0 := by
  unfold yS;by_cases h : a = 0 <;> simp [h]
structure Valid (c : Cha) : Prop where
  pos : 0 < c.1.length
  few : c.1.length ≤ 16
  parent : ∀ (i : Nat) (s : Sta),c.1[i]? = some s → -1 ≤ s.2.1 ∧ s.2.1 < i
  initial : ∀ (i : Nat) (s : Sta),c.1[i]? = some s → s.2.2.1 = -1 ∨ ((i : Int) < s.2.2.1 ∧ s.2.2.1 < c.1.length)
  moves : c.2.1.length ≤ 48
  tra : ∀ t ∈ c.2.1,0 ≤ t.1 ∧ t.1 < c.1.length ∧ 0 ≤ t.2.2.1 ∧ t.2.2.1 < c.1.length ∧ isNm t.2.1 = true ∧ 0 ≤ t.2.2.2.1 ∧ t.2.2.2.1 ≤ 15 ∧ 0 ≤ t.2.2.2.2.1 ∧ t.2.2.2.2.1 ≤ 15
  kinds : (evts c.2.1).length ≤ 8
theorem y8B : ∀ (l done : List Sta),stsE done l = 0 → ∀ (k : Nat) (s : Sta),l[k]? = some s → stE (done ++ l.take k) s = 0
  | [],done,_,k,s,hk => by simp at hk
  | x :: l,done,h,k,s,hk => by
    simp only [stsE,yx] at h;cases k with
    | zero => simp at hk; subst hk; simpa using h.1
    | succ k =>
      have := y8B l (done ++ [x]) h.2 k s (by simpa using hk)
      simpa using this
theorem yBc (xs : List Sta) : ∀ (l : List Sta) (i : Int),fmsE xs i l = 0 → ∀ (k : Nat) (s : Sta),l[k]? = some s → fmE (kids (i + k) 0 xs) s = 0
  | [],i,_,k,s,hk => by simp at hk
  | x :: l,i,h,k,s,hk => by
    simp only [fmsE,yx] at h;cases k with
    | zero => simp at hk; subst hk; simpa using h.1
    | succ k =>
      have := yBc xs l (i + 1) h.2 k s (by simpa using hk)
      rw [show i + ((k + 1 : Nat) : Int) = i + 1 + (k : Int) by omega]
      exact this
theorem yCP (n : Int) : ∀ (l : List Tra),trsE n l = 0 → ∀ t ∈ l,trE n t = 0
  | [],_,t,ht => by cases ht
  | x :: l,h,t,ht => by
    simp only [trsE,yx] at h;rcases List.mem_cons.1 ht with rfl | ht
    · exact h.1
    · exact yCP n l h.2 t ht
theorem yEf (p : Int) : ∀ (l : List Sta) (k : Int) (x : Int),x ∈ kids p k l → ∃ (j : Nat) (s : Sta),x = k + j ∧ l[j]? = some s ∧ s.2.1 = p
  | [],k,x,h => by cases h
  | s :: l,k,x,h => by
    unfold kids at h;rcases List.mem_append.1 h with h | h
    · split at h
      · rename_i hp;rw [List.mem_singleton] at h;exact ⟨0,s,by simpa using h,rfl,by simpa using hp⟩
      · cases h
    · obtain ⟨j,t,h1,h2,h3⟩ := yEf p l (k + 1) x h;exact ⟨j + 1,t,by omega,by simpa using h2,h3⟩
theorem y4I (c : Cha) (h : yk c = 0) : Valid c := by
  unfold yk at h;split at h
  · cases h
  split at h
  · cases h
  rename_i h0 h16;simp only [yx] at h;obtain ⟨h1,h2,h3,h4,h5⟩ := h;have hpar : ∀ (i : Nat) (s : Sta),c.1[i]? = some s → -1 ≤ s.2.1 ∧ s.2.1 < i := by
    intro i s hs;have hi := (List.getElem?_eq_some_iff.1 hs).1;have := y8B c.1 [] h1 i s hs;unfold stE at this;simp only [y0E,y0r,y0D,yx,List.nil_append,List.length_take] at this;have h3 := this.2.2;cases hb : (decide (s.2.1 < -1) || decide (((min i c.1.length : Nat) : Int) ≤ s.2.1)) with
    | true => rw [hb] at h3; cases h3
    | false =>
      simp only [Bool.or_eq_false_iff,decide_eq_false_iff_not] at hb;omega
  refine ⟨by omega,by omega,hpar,fun i s hs => ?_,?_,fun t ht => ?_,?_⟩
  · have := yBc c.1 c.1 0 h2 i s hs;rw [Int.zero_add] at this;unfold fmE at this;cases hk : ((kids (i : Int) 0 c.1).length == 0) with
    | true =>
      rw [hk,cond_true] at this;left
      cases hb : (s.2.2.1 != -1) with
      | true => rw [hb] at this; cases this
      | false => simpa using hb
    | false =>
      rw [hk,cond_false] at this;right
      cases hb : (s.2.2.2.1 || !(kids (i : Int) 0 c.1).contains s.2.2.1) with
      | true => rw [hb] at this; cases this
      | false =>
        simp only [Bool.or_eq_false_iff,Bool.not_eq_false'] at hb;have hm : s.2.2.1 ∈ kids (i : Int) 0 c.1 := List.contains_iff_mem.1 hb.2;obtain ⟨j,s',e1,e2,e3⟩ := yEf _ _ _ _ hm;have hj := (List.getElem?_eq_some_iff.1 e2).1;have := (hpar j s' e2).2;omega
  · cases hb : decide (48 < c.2.1.length) with
    | true => rw [hb] at h3; cases h3
    | false => simpa using hb
  · have := yCP _ _ h4 t ht;unfold trE at this;simp only [y0E,y0r,y0D,yx] at this;obtain ⟨a,b,d,e,_⟩ := this;have hm := y7B d;have hv := y7B e;cases hb : (decide (t.1 < 0) || decide ((c.1.length : Int) ≤ t.1) || decide (t.2.2.1 < 0) || decide ((c.1.length : Int) ≤ t.2.2.1)) with
    | true => rw [hb] at a; cases a
    | false =>
      simp only [Bool.or_eq_false_iff,decide_eq_false_iff_not] at hb;refine ⟨by omega,by omega,by omega,by omega,?_,hm.1,hm.2,hv.1,hv.2⟩
      cases hn : isNm t.2.1 with
      | true => rfl
      | false => unfold nmE at b; rw [hn] at b; cases b
  · cases hb : decide (8 < (evts c.2.1).length) with
    | true => rw [hb] at h5; cases h5
    | false => simpa using hb
end Go.Tw
end
section
set_option maxRecDepth 100000
namespace Go.Tw
open Go.Vx Go.Vx.B Go.Proofs
theorem yFn : yPf = some (true,()) := by kernel_rfl
end Go.Tw
end
section
set_option maxRecDepth 100000
namespace Go.Tw
open Go.Vx Go.Vx.B Go.Proofs
theorem y7t (c : Cha) : ∀ (l : List Tra) (i : Int),∃ s,yI (fun i__ e__ s__ => yAl c i__ e__) (fun s__ => yDs c) i l () = some (s,()) ∧ (s = true → ∀ t ∈ l,t.2.1.length ≤ 40)
  | [],i => ⟨true,rfl,fun _ t ht => by cases ht⟩
  | x :: l,i => by
    rw [y04];unfold yAl;by_cases h : (x.2.1.length : Int) > 40
    · exact ⟨false,by rw [bifT (yF h)]; rfl,fun h => by cases h⟩
    · obtain ⟨s,h1,h2⟩ := y7t c l (i + 1);refine ⟨s,by rw [bifF (yb h)]; exact h1,fun hs t ht => ?_⟩
      rcases List.mem_cons.1 ht with rfl | ht
      · omega
      · exact h2 hs t ht
theorem y80 (c : Cha) (hl : c.2.1.length < lenMax) : ∀ (l : List Sta) (i : Int),∃ s,yI (fun i__ e__ s__ => yEc c i__ e__) (fun s__ => yFF c) i l () = some (s,()) ∧ (s = true → (∀ t ∈ l,t.1.length ≤ 40) ∧ ∀ t ∈ c.2.1,t.2.1.length ≤ 40)
  | [],i => by
    obtain ⟨s,h1,h2⟩ := y7t c c.2.1 0;refine ⟨s,?_,fun hs => ⟨fun t ht => (by cases ht),h2 hs⟩⟩
    rw [yBA];unfold yFF;rw [bifT (yF hl)];exact h1
  | x :: l,i => by
    rw [y04];unfold yEc;by_cases h : (x.1.length : Int) > 40
    · exact ⟨false,by rw [bifT (yF h)]; rfl,fun h => by cases h⟩
    · obtain ⟨s,h1,h2⟩ := y80 c hl l (i + 1);refine ⟨s,by rw [bifF (yb h)]; exact h1,fun hs => ⟨fun t ht => ?_,(h2 hs).2⟩⟩
      rcases List.mem_cons.1 ht with rfl | ht
      · omega
      · exact (h2 hs).1 t ht
structure Sh (c : Cha) : Prop where
  sts : c.1.length ≤ 17
  tras : c.2.1.length ≤ 49
  words : yID c
theorem yKT (c : Cha) : ∃ s,yMm c = some (s,()) ∧ (s = true → Sh c) := by
  have key : c.1.length ≤ 17 → c.2.1.length ≤ 49 → ∃ s,y3N c = some (s,()) ∧ (s = true → Sh c) := by
    intro h1 h2;obtain ⟨s,h3,h4⟩ := y80 c (by unfold lenMax; omega) c.1 0
    refine ⟨s,?_,fun hs => ⟨h1,h2,fun t ht => ?_,fun t ht => ?_⟩⟩
    · unfold y3N;rw [bifT (yF (show c.1.length < lenMax by unfold lenMax; omega))]
      exact h3
    · have := (h4 hs).1 t ht; unfold lenMax; omega
    · have := (h4 hs).2 t ht; unfold lenMax; omega
  have key2 : c.1.length ≤ 17 → ∃ s,(bif decide ((c.2.1.length : Int) > 12) then (bif (c.2.1.length : Int) != 49 then (some ((false,()))) else (y3N c)) else (y3N c)) = some (s,()) ∧ (s = true → Sh c) := by
    intro h1;by_cases h2 : (c.2.1.length : Int) > 12
    · rw [bifT (yF h2)];by_cases h3 : (c.2.1.length : Int) = 49
      · rw [bifF (show ((c.2.1.length : Int) != 49) = false by simp [h3])]
        exact key h1 (by omega)
      · exact ⟨false,by rw [bifT (show ((c.2.1.length : Int) != 49) = true by simpa using h3)],fun h => by cases h⟩
    · rw [bifF (yb h2)];exact key h1 (by omega)
  unfold yMm;by_cases h2 : (c.1.length : Int) > 7
  · rw [bifT (yF h2)];by_cases h3 : (c.1.length : Int) = 17
    · rw [bifF (show ((c.1.length : Int) != 17) = false by simp [h3])]
      exact key2 (by omega)
    · exact ⟨false,by rw [bifT (show ((c.1.length : Int) != 17) = true by simpa using h3)],fun h => by cases h⟩
  · rw [bifF (yb h2)];exact key2 (by omega)
theorem yJF (c : Cha) (hc : Sh c) : yMQ c = some (c,()) := by
  have hmem : memMax = 68719476736 := rfl;have h1 := hc.sts;have h2 := hc.tras;unfold yMQ;rw [bifT (yF (show c.1.length < lenMax by unfold lenMax; omega))]
  refine (y5R (fun x : Sta => x) c.1 0 [] (by simp; omega) fun i e s he hs => ?_).trans ?_
  · unfold yHg;rw [bifT (yF hs)]
  rw [List.map_id',List.nil_append];unfold yHN;rw [bifT (yF (show c.2.1.length < lenMax by unfold lenMax; omega))]
  refine (y5R (fun x : Tra => x) c.2.1 0 [] (by simp; omega) fun i e s he hs => ?_).trans ?_
  · unfold yHx;rw [bifT (yF hs)]
  rw [List.map_id',List.nil_append];rfl
end Go.Tw
end
