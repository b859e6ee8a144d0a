import Derived.Test.YtkfigfhjbejikaaGreatDoorBE
set_option linter.all false
section
set_option maxRecDepth 100000
namespace Go.Tw
open Go.Vx Go.Vx.B Go.Proofs
section
variable {α β γ σ : Type}
theorem y33 {body : Int → α → σ → Option (β ⊕ σ)} {fin : σ → Option β} {i : Int} {s : σ} : yK body fin i [] s = fin s := rfl
theorem yg {body : Int → α → σ → Option (β ⊕ σ)} {fin : σ → Option β} {i : Int} {e : α} {l : List α} {s : σ} : yK body fin i (e :: l) s = (body i e s).bind fun z => match z with
    | .inl y => some y
    | .inr s' => yK body fin (i + 1) l s' := rfl
theorem y1d {body : Int → α → Unit → Option (β ⊕ Unit)} {fin : Unit → Option β} (p : α → Option β) :
    ∀ (l : List α) (i : Int),(∀ i e,e ∈ l → body i e () = some (match p e with | some y => .inl y | none => .inr ())) → yK body fin i l () = match l.findSome? p with | some y => some y | none => fin ()
  | [],i,_ => rfl
  | e :: l,i,h => by
    rw [yg,h i e (by simp),List.findSome?_cons]
    cases p e with
    | none => exact y1d p l (i + 1) fun i e he => h i e (by simp [he])
    | some y => rfl
theorem y0Z {body : Int → α → List γ → Option (β ⊕ List γ)} {fin : List γ → Option β} (f : α → γ) :
    ∀ (l : List α) (i : Int) (s : List γ),s.length + l.length ≤ memMax → (∀ i e s,e ∈ l → s.length + 1 ≤ memMax → body i e s = some (.inr (s ++ [f e]))) → yK body fin i l s = fin (s ++ l.map f)
  | [],i,s,_,_ => by simp [y33]
  | e :: l,i,s,hl,h => by
    simp only [List.length_cons] at hl;rw [yg,h i e s (by simp) (by omega)]
    simp only [Option.bind_some];rw [y0Z f l (i + 1) (s ++ [f e]) (by simp; omega) fun i e s he hs => h i e s (by simp [he]) hs]
    simp
end
theorem yA {p : Prop} [Decidable p] (h : p) : decide p = true := decide_eq_true h
theorem yG {p : Prop} [Decidable p] (h : ¬ p) : decide p = false := decide_eq_false h
theorem bifT {α : Type} {c : Bool} {a b : α} (h : c = true) : (bif c then a else b) = a := by rw [h]; rfl
theorem bifF {α : Type} {c : Bool} {a b : α} (h : c = false) : (bif c then a else b) = b := by rw [h]; rfl
theorem y0X : memMax < lenMax := by decide
def ckR (n lo hi : Int) : Int := if n < lo ∨ hi < n then 3 else 0
def y0Y (l : List Int) : Int := (l.find? (· != 0)).getD 0
theorem y0V (n lo hi : Int) : zo n lo hi = (ckR n lo hi,()) := by
  unfold zo ckR;by_cases h1 : n < lo
  · rw [bifT (yA h1),if_pos (.inl h1)]
  · rw [bifF (yG h1)];by_cases h2 : n > hi
    · rw [bifT (yA h2),if_pos (.inr h2)]
    · rw [bifF (yG h2),if_neg (by omega)]
theorem y1e (c : Bool) (e : Int) : z0e c e = (bif c then e else 0,()) := by
  unfold z0e;cases c <;> rfl
theorem y1P (n lo hi : Int) : z0E n lo hi = (ckR n lo hi,()) := by
  unfold z0E ckR;by_cases h1 : n < lo
  · rw [bifT (yA h1),y1e,cond_true,if_pos (.inl h1)]
  · rw [bifF (yG h1),y1e];by_cases h2 : n > hi
    · rw [yA h2,cond_true,if_pos (.inr h2)]
    · rw [yG h2,cond_false,if_neg (by omega)]
theorem y9S (l : List Int) : l.findSome? (fun e => if e != 0 then some (e,()) else none) = (l.find? (· != 0)).map fun e => (e,()) := by
  induction l with
  | nil => rfl
  | cons e l ih =>
    rw [List.findSome?_cons,List.find?_cons];cases he : (e != 0) with
    | true => rfl
    | false => simpa using ih
theorem y0k (l : List Int) (h : l.length < lenMax) : y0c l = some (y0Y l,()) := by
  unfold y0c;rw [bifT (yA h),y1d (fun e => if e != 0 then some (e,()) else none) l 0 (fun i e _ => by
    unfold yEC;cases he : (e != 0) <;> rfl),y9S]
  unfold y0Y yFG;cases l.find? (· != 0) <;> rfl
theorem y8K {α : Type} (l : List α) (i : Nat) : idx l (i : Int) = l[i]? := by
  unfold idx;rw [if_pos (Int.natCast_nonneg i)];rfl
theorem y7k {α β : Type} {body : Int → α → Unit → Option (β ⊕ Unit)} {fin : Unit → Option β} (xs : List α) (p : α → Option β) :
    ∀ (l done : List α),xs = done ++ l → (∀ (i : Nat) e,xs[i]? = some e → body (i : Int) e () = some (match p e with | some y => .inl y | none => .inr ())) →
      yK body fin (done.length : Int) l () = match l.findSome? p with | some y => some y | none => fin ()
  | [],done,_,_ => rfl
  | e :: l,done,hx,h => by
    rw [yg,h done.length e (by rw [hx]; simp),List.findSome?_cons]
    cases p e with
    | none =>
      have := y7k (body := body) (fin := fin) xs p l (done ++ [e]) (by rw [hx]; simp) h
      simp only [List.length_append,List.length_cons,List.length_nil] at this;exact this
    | some y => rfl
theorem y5L (l : List Int) (h : l.length < lenMax) : y5o l = some (y0Y l,()) := by
  unfold y5o;have := y7k (body := fun i__ e__ s__ => yBp l i__ e__) (fin := fun s__ => yC2 l) l (fun e => if e != 0 then some (e,()) else none) l [] rfl (fun i e hi => by
    unfold yBp;cases he : (e != 0) with
    | true => rw [y8K,hi]; rfl
    | false => rfl)
  rw [bifT (yA h)];refine this.trans ?_
  rw [y9S];unfold y0Y yC2;cases l.find? (· != 0) <;> rfl
def y4l (c : Nat) : Bool := decide (65 ≤ c ∧ c ≤ 90 ∨ 97 ≤ c ∧ c ≤ 122)
def y8f (c : Nat) : Bool := decide (48 ≤ c ∧ c ≤ 57 ∨ c = 95)
def nmOk : Bool → List UInt8 → Bool
  | _,[] => true
  | first,c :: l => (y4l c.toNat || (!first && y8f c.toNat)) && nmOk false l
def isNm (s : List UInt8) : Bool := nmOk true s && decide (0 < s.length ∧ s.length ≤ 24)
theorem y9P : ∀ (s0 s : List UInt8) (i : Int),0 ≤ i → yK (fun i__ e__ s__ => y9d s0 i__ e__) (fun s__ => yFF s0) i s () = some (nmOk (decide (i = 0)) s,())
  | s0,[],i,_ => rfl
  | s0,c :: l,i,hi => by
    rw [yg];have ih := y9P s0 l (i + 1) (by omega)
    have e0 : decide (i + 1 = 0) = false := yG (by omega)
    rw [e0] at ih;unfold nmOk;have hb : y9d s0 i c = some (if (y4l c.toNat || (!decide (i = 0) && y8f c.toNat)) = true then .inr () else .inl (false,())) := by
      unfold y9d y6B y4l y8f;have g3 : (i == 0) = decide (i = 0) := by by_cases h : i = 0 <;> simp [h]
      have g4 : ((c.toNat : Int) != 95) = !decide ((c.toNat : Int) = 95) := by by_cases h : (c.toNat : Int) = 95 <;> simp [h]
      rw [g3,g4];by_cases h1 : (97 : Int) ≤ c.toNat <;> by_cases h2 : (c.toNat : Int) ≤ 122 <;> by_cases h3 : (65 : Int) ≤ c.toNat <;> by_cases h4 : (c.toNat : Int) ≤ 90 <;> by_cases h5 : (c.toNat : Int) < 48 <;> by_cases h6 : (c.toNat : Int) > 57 <;> by_cases h7 : (c.toNat : Int) = 95 <;> by_cases h8 : i = 0 <;>
        first
        | omega
        | (have g1 : (decide (65 ≤ c.toNat ∧ c.toNat ≤ 90 ∨ 97 ≤ c.toNat ∧ c.toNat ≤ 122)) = decide ((65 : Int) ≤ c.toNat ∧ (c.toNat : Int) ≤ 90 ∨ (97 : Int) ≤ c.toNat ∧ (c.toNat : Int) ≤ 122) := by
            apply decide_eq_decide.2; omega
           have g2 : (decide (48 ≤ c.toNat ∧ c.toNat ≤ 57 ∨ c.toNat = 95)) = decide (¬ (c.toNat : Int) < 48 ∧ ¬ (c.toNat : Int) > 57 ∨ (c.toNat : Int) = 95) := by
            apply decide_eq_decide.2; omega
           rw [g1,g2];simp [h1,h2,h3,h4,h5,h6,h7,h8])
    rw [hb];simp only [Option.bind_some];by_cases hc : (y4l c.toNat || (!decide (i = 0) && y8f c.toNat)) = true
    · rw [if_pos hc,hc,Bool.true_and];exact ih
    · rw [if_neg hc,Bool.eq_false_iff.2 hc];rfl
theorem yL4 (s : List UInt8) : yCM s = some (isNm s,()) := by
  unfold yCM isNm;by_cases h0 : s.length = 0
  · have : ((s.length : Int) == 0) = true := by simp [h0]
    rw [bifT this,show decide (0 < s.length ∧ s.length ≤ 24) = false from yG (by omega),Bool.and_false]
  · have : ((s.length : Int) == 0) = false := by simpa using h0
    rw [bifF this];by_cases h1 : 24 < s.length
    · rw [bifT (yA (by omega)),show decide (0 < s.length ∧ s.length ≤ 24) = false from yG (by omega),Bool.and_false]
    · rw [bifF (yG (show ¬ ((s.length : Int) > 24) by omega)),bifT (yA (show s.length < lenMax by unfold lenMax; omega)),y9P s s 0 (by omega),yA rfl]
      rw [show decide (0 < s.length ∧ s.length ≤ 24) = true from yA ⟨by omega,by omega⟩,Bool.and_true]
end Go.Tw
end
section
set_option maxRecDepth 100000
namespace Go.Tw
open Go.Vx Go.Vx.B Go.Proofs
theorem yLx {bs : List UInt8} {i : Nat} {c : UInt8} (h : bs[i]? = some c) : (⟨bs.toArray⟩ : ByteArray).get! i = c := by
  show bs.toArray[i]! = c
  rw [getElem!_def];simp [h]
theorem yGX {bs : List UInt8} {i : Nat} {c : UInt8} (h : bs[i]? = some c) (hc : c.toNat < 128) : yo bs (i : Int) = ((c.toNat : Int),(i : Int) + 1) := by
  unfold yo Utf8.decode;have h0 : (⟨bs.toArray⟩ : ByteArray).get! ((i : Int).toNat + 0) = c := by rw [Int.toNat_natCast,Nat.add_zero]; exact yLx h
  simp only [h0];rw [if_pos hc];rfl
theorem yJ1 {bs : List UInt8} {i : Nat} {c : UInt8} (h : bs[i]? = some c) (hc : 128 ≤ c.toNat) : 128 ≤ (yo bs (i : Int)).1 := by
  unfold yo Utf8.decode;have h0 : (⟨bs.toArray⟩ : ByteArray).get! ((i : Int).toNat + 0) = c := by rw [Int.toNat_natCast,Nat.add_zero]; exact yLx h
  simp only [h0];rw [if_neg (by omega)]
  have he : Utf8.runeError = 65533 := rfl;split
  · split
    · rename_i h2; show (128 : Int) ≤ ((_ : Nat) : Int); omega
    · rw [he]; decide
  · split
    · split
      · rename_i h2; simp only [Bool.and_eq_true,decide_eq_true_eq] at h2; show (128 : Int) ≤ ((_ : Nat) : Int); omega
      · rw [he]; decide
    · split
      · split
        · rename_i h2; simp only [Bool.and_eq_true,decide_eq_true_eq] at h2; show (128 : Int) ≤ ((_ : Nat) : Int); omega
        · rw [he]; decide
      · rw [he]; decide
def yAL (r : Int) : Bool := decide (65 ≤ r ∧ r ≤ 90 ∨ 97 ≤ r ∧ r ≤ 122)
def yFC (r : Int) : Bool := decide (48 ≤ r ∧ r ≤ 57 ∨ r = 95)
theorem yGL (s str : List UInt8) (pos : Int) : y9A s str pos = some (if (yAL (yo str pos).1 || (!decide (pos = 0) && yFC (yo str pos).1)) = true then .inr () else .inl (false,())) := by
  unfold y9A y4k y7b yAL yFC;generalize (yo str pos).1 = r;have g3 : (pos == 0) = decide (pos = 0) := by by_cases h : pos = 0 <;> simp [h]
  have g4 : (r == 95) = decide (r = 95) := by by_cases h : r = 95 <;> simp [h]
  rw [g3,g4];by_cases h1 : r ≥ 97 <;> by_cases h2 : r ≤ 122 <;> by_cases h3 : r ≥ 65 <;> by_cases h4 : r ≤ 90 <;> by_cases h5 : r ≥ 48 <;> by_cases h6 : r ≤ 57 <;> by_cases h7 : r = 95 <;> by_cases h8 : pos = 0 <;>
    first
    | omega
    | simp [h1,h2,h3,h4,h5,h6,h7,h8]
theorem yA3 (s : List UInt8) : ∀ (m i : Nat),s.length ≤ i + m → i ≤ s.length →
    y8z s (fun i__ s__ => y9A s s i__) (fun s__ => y9e s s) m (i : Int) () = bif nmOk (decide (i = 0)) (s.drop i) then y9e s s else some (false,())
  | m,i,hm,hi => by
    by_cases hl : i = s.length
    · have e1 : s.drop i = [] := List.drop_eq_nil_of_le (by omega)
      have e2 : decide ((i : Int) < (s.length : Int)) = false := yG (by omega)
      rw [e1];cases m <;> (unfold y8z; rw [bifF e2]; rfl)
    · have hlt : i < s.length := by omega
      obtain ⟨m,rfl⟩ : ∃ k,m = k + 1 := ⟨m - 1,by omega⟩
      have hd : s.drop i = s[i] :: s.drop (i + 1) := (List.getElem_cons_drop (h := hlt)).symm;have hg : s[i]? = some s[i] := List.getElem?_eq_getElem hlt;have e0 : decide ((i : Int) = 0) = decide (i = 0) := decide_eq_decide.2 (by omega)
      unfold y8z;rw [bifT (yA (show (i : Int) < (s.length : Int) by omega)),yGL,hd,e0]
      simp only [Option.bind_some];by_cases hc : s[i].toNat < 128
      · rw [yGX hg hc];have e1 : yAL (s[i].toNat : Int) = y4l s[i].toNat := decide_eq_decide.2 (by omega)
        have e2 : yFC (s[i].toNat : Int) = y8f s[i].toNat := decide_eq_decide.2 (by omega)
        simp only [e1,e2,nmOk];by_cases hb : (y4l s[i].toNat || (!decide (i = 0) && y8f s[i].toNat)) = true
        · rw [if_pos hb,hb,Bool.true_and];have ih := yA3 s m (i + 1) (by omega) (by omega)
          have e3 : decide (i + 1 = 0) = false := yG (by omega)
          rw [e3,show ((i + 1 : Nat) : Int) = (i : Int) + 1 by omega] at ih
          exact ih
        · rw [if_neg hb,Bool.eq_false_iff.2 hb,Bool.false_and];rfl
      · have h1 := yJ1 hg (by omega)
        have e1 : yAL (yo s (i : Int)).1 = false := yG (by omega)
        have e2 : yFC (yo s (i : Int)).1 = false := yG (by omega)
        have e3 : y4l s[i].toNat = false := yG (by omega)
        have e4 : y8f s[i].toNat = false := yG (by omega)
        simp [e1,e2,nmOk,e3,e4]
theorem yLK (s : List UInt8) (h : s.length < lenMax) : yCY s = some (isNm s,()) := by
  unfold yCY;have := yA3 s s.length 0 (by omega) (by omega)
  rw [List.drop_zero,show decide (0 = 0) = true from rfl] at this
  rw [bifT (yA h)];refine (show _ = _ from this).trans ?_
  unfold isNm y9e;cases hn : nmOk true s with
  | false => rfl
  | true =>
    rw [cond_true,Bool.true_and];cases s with
    | nil => rfl
    | cons c l =>
      have e : decide (((c :: l).length : Int) ≤ 24) = decide (0 < (c :: l).length ∧ (c :: l).length ≤ 24) := decide_eq_decide.2 (by simp only [List.length_cons]; omega)
      rw [← e];rfl
def yR (a b : Int) : Int := if a != 0 then a else b
theorem y27 : y0Y [] = 0 := rfl
theorem yk (a : Int) (l : List Int) : y0Y (a :: l) = yR a (y0Y l) := by
  unfold y0Y yR;rw [List.find?_cons];cases h : (a != 0) <;> rfl
theorem y1H (a : Int) : yR a 0 = a := by
  unfold yR;by_cases h : a = 0 <;> simp [h]
def y6m (done : List Nod) (n : Nod) : Int :=
  y0Y [bif isNm n.1 then 0 else 8,bif done.any (fun d => d.1 == n.1) then 9 else 0,ckR n.2.1 1 1000,ckR n.2.2.1 0 1024]
def y46 : List Nod → List Nod → Int
  | _,[] => 0
  | done,n :: l => yR (y6m done n) (y46 (done ++ [n]) l)
def y4z (l : List Nod) : Int := if l.length = 0 then 12 else if 8 < l.length then 5 else y46 [] l
theorem y9s (l : List Nod) (i : Nat) (n : Nod) (hn : l[i]? = some n) {fin : Unit → Option ((Int × Unit) ⊕ Unit)} : ∀ (m k : Nat),k + m = i →
    y0G (fun i__ s__ => yGT l (i : Int) i__) fin m (k : Int) () = if ((l.drop k).take m).any (fun d => d.1 == n.1) = true then some (.inl (9,())) else fin ()
  | 0,k,_ => by simp [y0G]
  | m + 1,k,hk => by
    have hi : i < l.length := (List.getElem?_eq_some_iff.1 hn).1;have hkl : k < l.length := by omega
    unfold y0G;have hb : yGT l (i : Int) (k : Int) = some (if (l[k].1 == n.1) = true then .inl (.inl (9,())) else .inr ()) := by
      unfold yGT;rw [y8K,y8K,hn,List.getElem?_eq_getElem hkl];simp only [Option.bind_some];cases (l[k].1 == n.1) <;> rfl
    rw [hb];simp only [Option.bind_some];have hd : (l.drop k).take (m + 1) = l[k] :: (l.drop (k + 1)).take m := by
      rw [← List.getElem_cons_drop (h := hkl),List.take_succ_cons]
    rw [hd,List.any_cons];cases h : (l[k].1 == n.1) with
    | true => rfl
    | false =>
      rw [if_neg (by simp),Bool.false_or]
      have ih := y9s l i n hn (fin := fin) m (k + 1) (by omega)
      rw [show ((k + 1 : Nat) : Int) = (k : Int) + 1 by omega] at ih
      exact ih
theorem yDW (l : List Nod) (hl : l.length ≤ 8) (i : Nat) (n : Nod) (hn : l[i]? = some n) :
    yGI l (i : Int) n = some (bif y6m (l.take i) n != 0 then .inl (y6m (l.take i) n,()) else .inr ()) := by
  have hi : i < l.length := (List.getElem?_eq_some_iff.1 hn).1;unfold yGI;rw [yL4];simp only [Option.bind_some];unfold y6m;cases hnm : isNm n.1 with
  | false =>
    simp only [Bool.not_false,cond_true,yk];rfl
  | true =>
    simp only [Bool.not_true,cond_false];rw [bifT (yA (show (i : Int) ≤ 9223372036854775807 by omega))]
    have e1 : ((i : Int) - 0).toNat = i := by omega
    rw [e1];have := y9s l i n hn (fin := fun s__ => yHh l (i : Int)) i 0 (by omega)
    rw [show ((0 : Nat) : Int) = 0 from rfl] at this
    rw [this,List.drop_zero];cases hany : (l.take i).any (fun d => d.1 == n.1) with
    | true =>
      rw [if_pos rfl];simp [yk,yR]
    | false =>
      rw [if_neg (by simp)]
      unfold yHh;rw [y8K,hn];simp only [Option.bind_some,y0V];rw [y5L _ (by simp [lenMax])]
      simp only [Option.bind_some];have e2 : y0Y [bif true then 0 else 8,bif false then 9 else 0,ckR n.2.1 1 1000,ckR n.2.2.1 0 1024] = y0Y [ckR n.2.1 1 1000,ckR n.2.2.1 0 1024] := by
        simp [yk,yR]
      rw [e2];cases (y0Y [ckR n.2.1 1 1000,ckR n.2.2.1 0 1024] != 0) <;> rfl
theorem y7x (xs : List Nod) (hl : xs.length ≤ 8) : ∀ (l done : List Nod),xs = done ++ l →
    yK (fun i__ e__ s__ => yGI xs i__ e__) (fun s__ => yKz xs) (done.length : Int) l () = some (y46 done l,())
  | [],done,_ => rfl
  | n :: l,done,hx => by
    have hn : xs[done.length]? = some n := by rw [hx]; simp
    rw [yg,yDW xs hl done.length n hn];have ht : xs.take done.length = done := by rw [hx]; simp
    rw [ht];simp only [Option.bind_some,y46,yR];cases h : (y6m done n != 0) with
    | true => rfl
    | false =>
      have ih := y7x xs hl l (done ++ [n]) (by rw [hx]; simp)
      simp only [List.length_append,List.length_cons,List.length_nil] at ih;exact ih
theorem yI4 (l : List Nod) : zq_M l = some (y4z l,()) := by
  unfold zq_M y4z;by_cases h0 : l.length = 0
  · rw [bifT (show ((l.length : Int) == 0) = true by simp [h0]),if_pos h0]
  · rw [bifF (show ((l.length : Int) == 0) = false by simpa using h0),if_neg h0]
    by_cases h8 : 8 < l.length
    · rw [bifT (yA (show (l.length : Int) > 8 by omega)),if_pos h8]
    · rw [bifF (yG (show ¬ (l.length : Int) > 8 by omega)),if_neg h8,bifT (yA (show l.length < lenMax by unfold lenMax; omega))]
      exact y7x l (by omega) l [] rfl
end Go.Tw
end
section
set_option maxRecDepth 100000
namespace Go.Tw
open Go.Vx Go.Vx.B Go.Proofs
def kB : List UInt8 := [98,97,114,114,105,101,114]
def kL : List UInt8 := [108,101,97,107]
def kO : List UInt8 := [111,117,116,102,97,108,108]
def kP : List UInt8 := [112,117,109,112]
def kW : List UInt8 := [119,101,105,114]
def y0R (k : List UInt8) : Option (Bool × Bool) :=
  if k = kB then some (true,false) else if k = kL then some (true,false) else if k = kO then some (false,true) else if k = kP then some (false,false) else if k = kW then some (false,false) else none
def fitN (n nodes : Int) (sea : Bool) : Bool := bif sea then n == -1 else decide (0 ≤ n) && decide (n < nodes)
def y0j (x : Lnk) (nodes : Int) : Int :=
  match y0R x.1 with
  | none => 13
  | some (s,t) => bif fitN x.2.1 nodes s && fitN x.2.2.1 nodes t then
      y0Y [bif x.2.1 == x.2.2.1 then 17 else 0,ckR x.2.2.2.1 0 (bif s then 0 else 1024),ckR x.2.2.2.2.1 1 1000] else 10
theorem y1i (k : List UInt8) : k = kB ∨ k = kL ∨ k = kO ∨ k = kP ∨ k = kW ∨ (k ≠ kB ∧ k ≠ kL ∧ k ≠ kO ∧ k ≠ kP ∧ k ≠ kW) := by
  by_cases h1 : k = kB
  · exact .inl h1
  by_cases h2 : k = kL
  · exact .inr (.inl h2)
  by_cases h3 : k = kO
  · exact .inr (.inr (.inl h3))
  by_cases h4 : k = kP
  · exact .inr (.inr (.inr (.inl h4)))
  by_cases h5 : k = kW
  · exact .inr (.inr (.inr (.inr (.inl h5))))
  exact .inr (.inr (.inr (.inr (.inr ⟨h1,h2,h3,h4,h5⟩))))
theorem yQo (a b c : Int) : [a,b,c].length < lenMax := by simp [lenMax]
theorem yK5 (x : Lnk) (nodes : Int) : zk_M x nodes = some (y0j x nodes,()) := by
  obtain ⟨k,f,t,a,r,u⟩ := x;have fin : ∀ (m : Int),((y0c [bif f == t then 17 else 0,ckR a 0 m,ckR r 1 1000]).bind fun v27 => some (v27.fst,())) = some (y0Y [bif f == t then 17 else 0,ckR a 0 m,ckR r 1 1000],()) := fun m => by
    rw [y0k _ (yQo _ _ _)]; rfl
  have r2 : ∀ g : Nat → Bool,(List.range 2).all g = (g 0 && g 1) := fun g => by simp [List.range_succ]
  rcases y1i k with rfl | rfl | rfl | rfl | rfl | ⟨h1,h2,h3,h4,h5⟩
  · simp only [y0j,show y0R kB = some (true,false) by decide,fitN]
    simp [zk_M,zk_m,y18,z0S,yZ,eqV,kB,y1P,y1e,fin,r2];cases (f == -1) <;> cases (decide (0 ≤ t)) <;> cases (decide (t < nodes)) <;> rfl
  · simp only [y0j,show y0R kL = some (true,false) by decide,fitN]
    simp [zk_M,zk_m,y18,z0S,yZ,eqV,kL,y1P,y1e,fin,r2];cases (f == -1) <;> cases (decide (0 ≤ t)) <;> cases (decide (t < nodes)) <;> rfl
  · simp only [y0j,show y0R kO = some (false,true) by decide,fitN]
    simp [zk_M,zk_m,y18,z0S,yZ,eqV,kO,y1P,y1e,fin,r2];cases (t == -1) <;> cases (decide (0 ≤ f)) <;> cases (decide (f < nodes)) <;> rfl
  · simp only [y0j,show y0R kP = some (false,false) by decide,fitN]
    simp [zk_M,zk_m,y18,z0S,yZ,eqV,kP,y1P,y1e,fin,r2];cases (decide (0 ≤ t)) <;> cases (decide (t < nodes)) <;> cases (decide (0 ≤ f)) <;> cases (decide (f < nodes)) <;> rfl
  · simp only [y0j,show y0R kW = some (false,false) by decide,fitN]
    simp [zk_M,zk_m,y18,z0S,yZ,eqV,kW,y1P,y1e,fin,r2];cases (decide (0 ≤ t)) <;> cases (decide (t < nodes)) <;> cases (decide (0 ≤ f)) <;> cases (decide (f < nodes)) <;> rfl
  · have g1 : (k == [98,97,114,114,105,101,114]) = false := beq_eq_false_iff_ne.2 h1;have g2 : (k == [108,101,97,107]) = false := beq_eq_false_iff_ne.2 h2;have g3 : (k == [111,117,116,102,97,108,108]) = false := beq_eq_false_iff_ne.2 h3;have g4 : (k == [112,117,109,112]) = false := beq_eq_false_iff_ne.2 h4;have g5 : (k == [119,101,105,114]) = false := beq_eq_false_iff_ne.2 h5;simp only [y0j,show y0R k = none by simp [y0R,h1,h2,h3,h4,h5]]
    simp only [zk_M,zk_m,z0S,yZ,eqV,g1,g2,g3,g4,g5];rfl
theorem y28 (k : List UInt8) : yDd z0Y.1 k = some (decide (k = kB ∨ k = kL ∨ k = kO ∨ k = kP ∨ k = kW),()) := by
  rcases y1i k with rfl | rfl | rfl | rfl | rfl | ⟨h1,h2,h3,h4,h5⟩
  · decide
  · decide
  · decide
  · decide
  · decide
  · have g1 : ([98,97,114,114,105,101,114] == k) = false := beq_eq_false_iff_ne.2 (Ne.symm h1);have g2 : ([108,101,97,107] == k) = false := beq_eq_false_iff_ne.2 (Ne.symm h2);have g3 : ([111,117,116,102,97,108,108] == k) = false := beq_eq_false_iff_ne.2 (Ne.symm h3);have g4 : ([112,117,109,112] == k) = false := beq_eq_false_iff_ne.2 (Ne.symm h4);have g5 : ([119,101,105,114] == k) = false := beq_eq_false_iff_ne.2 (Ne.symm h5);rw [decide_eq_false (by simp [h1,h2,h3,h4,h5])]
    unfold yDd;rw [bifT (yA (show z0Y.1.length < lenMax by decide))]
    rw [y1d (fun w => if (w == k) = true then some (true,()) else none) _ 0 (fun i e _ => by
      unfold yEK;cases he : (e == k) <;> rfl)]
    have : z0Y.1.findSome? (fun w => if (w == k) = true then some (true,()) else none) = none := by
      show List.findSome? _ [[98,97,114,114,105,101,114],[108,101,97,107],[111,117,116,102,97,108,108],[112,117,109,112],[119,101,105,114]] = none
      simp only [List.findSome?_cons,g1,g2,g3,g4,g5,List.findSome?_nil];rfl
    rw [this];rfl
theorem y3v (c : Bool) (a b : Int) : (bif c then some (17,()) else (y5o [a,b]).bind fun v4 => some (v4.fst,())) = some (y0Y [bif c then 17 else 0,a,b],()) := by
  cases c with
  | true => rfl
  | false =>
    rw [y5L _ (by simp [lenMax])]
    simp only [cond_false,yk (0 : Int),yR];rfl
theorem yK4 (x : Lnk) (nodes : Int) : zz_M x nodes = some (y0j x nodes,()) := by
  obtain ⟨k,f,t,a,r,u⟩ := x;rcases y1i k with rfl | rfl | rfl | rfl | rfl | ⟨h1,h2,h3,h4,h5⟩
  · simp only [y0j,show y0R kB = some (true,false) by decide,fitN]
    simp only [zz_M,zz_m,y28,show decide (kB = kB ∨ kB = kL ∨ kB = kO ∨ kB = kP ∨ kB = kW) = true by decide,Option.bind_some]
    simp [z0l,z0g,kB,y0V,y3v];cases (f == -1) <;> cases (decide (0 ≤ t)) <;> cases (decide (t < nodes)) <;> rfl
  · simp only [y0j,show y0R kL = some (true,false) by decide,fitN]
    simp only [zz_M,zz_m,y28,show decide (kL = kB ∨ kL = kL ∨ kL = kO ∨ kL = kP ∨ kL = kW) = true by decide,Option.bind_some]
    simp [z0l,z0g,kL,y0V,y3v];cases (f == -1) <;> cases (decide (0 ≤ t)) <;> cases (decide (t < nodes)) <;> rfl
  · simp only [y0j,show y0R kO = some (false,true) by decide,fitN]
    simp only [zz_M,zz_m,y28,show decide (kO = kB ∨ kO = kL ∨ kO = kO ∨ kO = kP ∨ kO = kW) = true by decide,Option.bind_some]
    simp [z0l,z0g,kO,y0V,y3v];cases (t == -1) <;> cases (decide (0 ≤ f)) <;> cases (decide (f < nodes)) <;> rfl
  · simp only [y0j,show y0R kP = some (false,false) by decide,fitN]
    simp only [zz_M,zz_m,y28,show decide (kP = kB ∨ kP = kL ∨ kP = kO ∨ kP = kP ∨ kP = kW) = true by decide,Option.bind_some]
    simp [z0l,z0g,kP,y0V,y3v];cases (decide (0 ≤ t)) <;> cases (decide (t < nodes)) <;> cases (decide (0 ≤ f)) <;> cases (decide (f < nodes)) <;> rfl
  · simp only [y0j,show y0R kW = some (false,false) by decide,fitN]
    simp only [zz_M,zz_m,y28,show decide (kW = kB ∨ kW = kL ∨ kW = kO ∨ kW = kP ∨ kW = kW) = true by decide,Option.bind_some]
    simp [z0l,z0g,kW,y0V,y3v];cases (decide (0 ≤ t)) <;> cases (decide (t < nodes)) <;> cases (decide (0 ≤ f)) <;> cases (decide (f < nodes)) <;> rfl
  · simp only [y0j,show y0R k = none by simp [y0R,h1,h2,h3,h4,h5]]
    simp only [zz_M,zz_m,y28,show decide (k = kB ∨ k = kL ∨ k = kO ∨ k = kP ∨ k = kW) = false by simp [h1,h2,h3,h4,h5],Option.bind_some]
    rfl
end Go.Tw
end
section
set_option maxRecDepth 100000
namespace Go.Tw
open Go.Vx Go.Vx.B Go.Proofs
theorem y8X {α : Type} {body : Int → α → Unit → Option ((Int × Unit) ⊕ Unit)} {fin : Unit → Option (Int × Unit)} (g : α → Int) (l : List α) (i : Int) (hb : ∀ i e,e ∈ l → body i e () = some (bif g e != 0 then .inl (g e,()) else .inr ())) (hf : fin () = some (0,())) :
    yK body fin i l () = some (y0Y (l.map g),()) := by
  rw [y1d (fun e => bif g e != 0 then some (g e,()) else none) l i (fun i e he => by
    rw [hb i e he];cases (g e != 0) <;> rfl)]
  clear hb;induction l with
  | nil => exact hf
  | cons e l ih =>
    rw [List.findSome?_cons,List.map_cons,yk,yR];cases (g e != 0) with
    | true => rfl
    | false => exact ih
theorem yH1 (l : List Lnk) (of : Lnk × Unit → Option (Int × Unit)) (g : Lnk → Int) (h : ∀ e ∈ l,of (e,()) = some (g e,())) (hl : l.length ≤ memMax) : zB_M l of = some (l.map g,()) := by
  unfold zB_M;have hm := y0X;rw [bifT (yA (show l.length < lenMax by omega)),y0Z g l 0 [] (by simpa using hl) (fun i e s he hs => by
    unfold yKJ;rw [show of ((e.fst,e.snd.fst,e.snd.snd.fst,e.snd.snd.snd.fst,e.snd.snd.snd.snd.fst,()),()) = of (e,()) from rfl,h e he]
    simp only [Option.bind_some];rw [bifT (yA hs)])]
  rfl
def y0A (b : Bas) : Int :=
  yR (y4z b.1) (bif decide (16 < b.2.1.length) then 5 else y0Y (b.2.1.map fun x => y0j x (b.1.length : Int)))
theorem yIV (b : Bas) : zp_M b = some (y0A b,()) := by
  unfold zp_M y0A yR;rw [yI4];simp only [Option.bind_some];cases h : (y4z b.1 != 0) with
  | true => rfl
  | false =>
    simp only [cond_false];rw [if_neg (by simp)]
    by_cases h16 : 16 < b.2.1.length
    · rw [bifT (yA (show (b.2.1.length : Int) > 16 by omega)),bifT (yA h16)]
    · rw [bifF (yG (show ¬ (b.2.1.length : Int) > 16 by omega)),bifF (yG h16),bifT (yA (show b.2.1.length < lenMax by unfold lenMax; omega))]
      exact y8X (fun x => y0j x (b.1.length : Int)) _ 0 (fun i e _ => by
        unfold yK1;rw [yK4];simp only [Option.bind_some];cases (y0j e (b.1.length : Int) != 0) <;> rfl) rfl
def yLE (m : List (List UInt8 × Bool)) (done : List Nod) : Prop := ∀ k,(yZ .str .bool m k).getD false = done.any fun d => d.1 == k
theorem yH7 (m : List (List UInt8 × Bool)) (k k' : List UInt8) : (yZ .str .bool (y0Q .str .bool m k true) k').getD false = ((k == k') || (yZ .str .bool m k').getD false) := by
  induction m with
  | nil =>
    show (yZ .str .bool [(k,true)] k').getD false = _
    simp only [yZ,eqV];by_cases h : k' = k
    · subst h; simp
    · have h1 : (k' == k) = false := beq_eq_false_iff_ne.2 h;have h2 : (k == k') = false := beq_eq_false_iff_ne.2 (Ne.symm h);show (bif (k' == k) then some true else none).getD false = _
      rw [h1,h2]; rfl
  | cons p m ih =>
    show (yZ .str .bool (bif (k == p.1) then (k,true) :: m else p :: y0Q .str .bool m k true) k').getD false = _
    by_cases h : k = p.1
    · have h1 : (k == p.1) = true := by simp [h]
      rw [h1,cond_true];show (bif (k' == k) then some true else yZ .str .bool m k').getD false = ((k == k') || (bif (k' == p.1) then some p.2 else yZ .str .bool m k').getD false)
      by_cases h2 : k' = k
      · have e1 : (k' == k) = true := by simp [h2]
        have e2 : (k == k') = true := by simp [h2]
        rw [e1,e2]; rfl
      · have e1 : (k' == k) = false := beq_eq_false_iff_ne.2 h2;have e2 : (k == k') = false := beq_eq_false_iff_ne.2 (Ne.symm h2);have e3 : (k' == p.1) = false := by rw [← h]; exact e1
        rw [e1,e2,e3]; rfl
    · have h1 : (k == p.1) = false := beq_eq_false_iff_ne.2 h;rw [h1,cond_false];show (bif (k' == p.1) then some p.2 else yZ .str .bool (y0Q .str .bool m k true) k').getD false = ((k == k') || (bif (k' == p.1) then some p.2 else yZ .str .bool m k').getD false)
      by_cases h2 : k' = p.1
      · have e1 : (k' == p.1) = true := by simp [h2]
        have e2 : (k == k') = false := by rw [h2]; exact h1
        rw [e1,e2]; rfl
      · have e1 : (k' == p.1) = false := beq_eq_false_iff_ne.2 h2;rw [e1];exact ih
theorem yLE.put {m : List (List UInt8 × Bool)} {done : List Nod} (h : yLE m done) (n : Nod) : yLE (y0Q .str .bool m n.1 true) (done ++ [n]) := by
  intro k;rw [yH7,h k,List.any_append];simp [Bool.or_comm]
theorem yPh (a b c d : Int) : [a,b,c,d].length < lenMax := by simp [lenMax]
theorem yTK (a b : Int) : [a,b].length < lenMax := by simp [lenMax]
theorem y82 (b : Bas) (hn : ∀ n ∈ b.1,n.1.length < lenMax) : ∀ (l done : List Nod) (i : Int) (m : List (List UInt8 × Bool)),(∀ n ∈ l,n.1.length < lenMax) → yLE m done →
    ∃ m',yK (fun i__ e__ s__ => yGA b b.1 i__ e__ s__) (fun s__ => yCy b b.1 s__) i l m = bif y46 done l != 0 then some (y46 done l,()) else yCy b b.1 m'
  | [],done,i,m,_,_ => ⟨m,rfl⟩
  | n :: l,done,i,m,hl,hk => by
    have hb : yGA b b.1 i n m = some (bif y6m done n != 0 then .inl (y6m done n,()) else .inr (y0Q .str .bool m n.1 true)) := by
      unfold yGA;rw [yLK n.1 (hl n (by simp))]
      simp only [Option.bind_some,y1e,y1P,hk n.1];rw [y0k _ (yPh _ _ _ _)];have e : y0Y [bif !isNm n.1 then 8 else 0,bif done.any (fun d => d.1 == n.1) then 9 else 0,ckR n.2.1 1 1000,ckR n.2.2.1 0 1024] = y6m done n := by
        unfold y6m;cases isNm n.1 <;> rfl
      simp only [Option.bind_some,e];cases (y6m done n != 0) <;> rfl
    rw [yg,hb];simp only [Option.bind_some,y46,yR];cases h : (y6m done n != 0) with
    | true => exact ⟨m,by simp [h]⟩
    | false =>
      obtain ⟨m',hm⟩ := y82 b hn l (done ++ [n]) (i + 1) (y0Q .str .bool m n.1 true) (fun x hx => hl x (by simp [hx])) (hk.put n)
      exact ⟨m',by rw [if_neg (by simp)]; exact hm⟩
theorem yBk {l : List Nod} (h : y4z l = 0) : 0 < l.length ∧ l.length ≤ 8 ∧ y46 [] l = 0 := by
  unfold y4z at h;split at h
  · cases h
  · split at h
    · cases h
    · exact ⟨by omega,by omega,h⟩
theorem yJY (b : Bas) (hn : ∀ n ∈ b.1,n.1.length < lenMax) : zj_M b = some (y0A b,()) := by
  unfold zj_M;simp only [y1e];rw [y0k _ (yTK _ _)];simp only [Option.bind_some];have fin : ∀ m,yCy b b.1 m = some (bif decide (16 < b.2.1.length) then 5 else y0Y (b.2.1.map fun x => y0j x (b.1.length : Int)),()) := fun m => by
    unfold yCy;by_cases h16 : 16 < b.2.1.length
    · rw [bifT (yA (show (b.2.1.length : Int) > 16 by omega)),bifT (yA h16)]
    · rw [bifF (yG (show ¬ (b.2.1.length : Int) > 16 by omega)),bifF (yG h16)]
      rw [yH1 b.2.1 _ (fun x => y0j x (b.1.length : Int)) (fun e _ => by
        unfold zZ_M zZ_m;rw [yK5]; rfl) (by unfold memMax; omega)]
      simp only [Option.bind_some];rw [y0k _ (by rw [List.length_map]; unfold lenMax; omega)]
      rfl
  unfold y0A y4z;by_cases h0 : b.1.length = 0
  · have e1 : ((b.1.length : Int) == 0) = true := by simp [h0]
    rw [e1,if_pos h0];simp [yk,yR]
  · have e1 : ((b.1.length : Int) == 0) = false := by simpa using h0
    rw [e1,if_neg h0];by_cases h8 : 8 < b.1.length
    · rw [yA (show (b.1.length : Int) > 8 by omega),if_pos h8]
      simp [yk,yR]
    · rw [yG (show ¬ (b.1.length : Int) > 8 by omega),if_neg h8]
      have e2 : y0Y [bif false then 12 else 0,bif false then 5 else 0] = 0 := by decide
      rw [e2];rw [bifF (show ((0 : Int) != 0) = false by decide),bifT (yA (show b.1.length < lenMax by unfold lenMax; omega))]
      obtain ⟨m',hm⟩ := y82 b hn b.1 [] 0 [] hn (fun k => rfl)
      refine (show _ = _ from hm).trans ?_
      rw [fin m',yR];cases (y46 [] b.1 != 0) <;> rfl
def y9C (b : Bas) (c : Cnd) : Int := yR (ckR c.1 (-1024) 1024) (yR (bif (c.2.2.1.length : Int) != (b.1.length : Int) then 2 else 0) (y0Y (c.2.2.1.map fun n => ckR n 0 100000)))
end Go.Tw
end
section
set_option maxRecDepth 100000
namespace Go.Tw
open Go.Vx Go.Vx.B Go.Proofs
abbrev wr (a : Int) : Int := IntKind.i64.wrap a
theorem yKh (a b : Int) (h : a % 18446744073709551616 = b % 18446744073709551616) : wr a = wr b := by
  unfold wr IntKind.wrap IntKind.bits IntKind.signed;simp only;rw [show (2 : Int) ^ 64 = 18446744073709551616 by decide,h]
theorem yHZ (a : Int) : wr a % 18446744073709551616 = a % 18446744073709551616 := by
  unfold wr IntKind.wrap IntKind.bits IntKind.signed;simp only [show (2 : Int) ^ 64 = 18446744073709551616 by decide]
  split <;> omega
theorem yKx (a b : Int) : wr (a + wr (0 - b)) = wr (a - b) := by
  apply yKh;have := yHZ (0 - b);omega
theorem y07 : ∀ {l : List Int},y0Y l = 0 → ∀ e ∈ l,e = 0
  | [],_,e,he => by simp at he
  | a :: l,h,e,he => by
    rw [yk] at h;unfold yR at h;by_cases ha : a = 0
    · rcases List.mem_cons.1 he with rfl | he
      · exact ha
      · rw [ha] at h; exact y07 h e he
    · rw [if_pos (by simpa using ha)] at h; exact absurd h ha
theorem yb {a b : Int} (h : yR a b = 0) : a = 0 ∧ b = 0 := by
  unfold yR at h;by_cases ha : a = 0
  · subst ha; exact ⟨rfl,h⟩
  · rw [if_pos (by simpa using ha)] at h; exact absurd h ha
theorem y2T {n lo hi : Int} (h : ckR n lo hi = 0) : lo ≤ n ∧ n ≤ hi := by
  unfold ckR at h;split at h
  · cases h
  · omega
structure LinkOK (x : Lnk) (N : Nat) : Prop where
  kind : y0R x.1 ≠ none
  from_ : x.2.1 = -1 ∨ (0 ≤ x.2.1 ∧ x.2.1 < N)
  to_ : x.2.2.1 = -1 ∨ (0 ≤ x.2.2.1 ∧ x.2.2.1 < N)
  ne : x.2.1 ≠ x.2.2.1
  some_ : x.2.1 ≠ -1 ∨ x.2.2.1 ≠ -1
  at_ : 0 ≤ x.2.2.2.1 ∧ x.2.2.2.1 ≤ 1024
  rate : 1 ≤ x.2.2.2.2.1 ∧ x.2.2.2.2.1 ≤ 1000
theorem yAU {n N : Int} {s : Bool} (h : fitN n N s = true) : (s = true ∧ n = -1) ∨ (s = false ∧ 0 ≤ n ∧ n < N) := by
  cases s with
  | true => exact .inl ⟨rfl,by simpa [fitN] using h⟩
  | false =>
    simp only [fitN,cond_false,Bool.and_eq_true,decide_eq_true_eq] at h;exact .inr ⟨rfl,h⟩
theorem yD9 {x : Lnk} {N : Nat} (h : y0j x (N : Int) = 0) : LinkOK x N := by
  unfold y0j at h;split at h
  · cases h
  · rename_i s t he;cases hf : (fitN x.2.1 (N : Int) s && fitN x.2.2.1 (N : Int) t) with
    | false => rw [hf] at h; cases h
    | true =>
      rw [hf] at h;simp only [cond_true] at h;simp only [Bool.and_eq_true] at hf;have h1 := y07 h _ (List.mem_cons_self ..);have h2 := y2T (y07 h _ (List.mem_cons_of_mem _ (List.mem_cons_self ..)));have h3 := y2T (y07 h _ (List.mem_cons_of_mem _ (List.mem_cons_of_mem _ (List.mem_cons_self ..))));have hne : x.2.1 ≠ x.2.2.1 := by
        intro e;rw [show (x.2.1 == x.2.2.1) = true by simp [e]] at h1
        cases h1
      refine ⟨by rw [he]; simp,?_,?_,hne,?_,?_,h3⟩
      · rcases yAU hf.1 with ⟨_,h⟩ | ⟨_,h⟩
        · exact .inl h
        · exact .inr h
      · rcases yAU hf.2 with ⟨_,h⟩ | ⟨_,h⟩
        · exact .inl h
        · exact .inr h
      · rcases yAU hf.1 with ⟨_,h⟩ | ⟨_,h⟩
        · rcases yAU hf.2 with ⟨_,h'⟩ | ⟨_,h'⟩
          · exact absurd (h.trans h'.symm) hne
          · exact .inr (by omega)
        · exact .inl (by omega)
      · cases s
        · exact h2
        · have : (0 : Int) ≤ x.2.2.2.1 ∧ x.2.2.2.1 ≤ 0 := h2;omega
structure BasOK (b : Bas) : Prop where
  pos : 0 < b.1.length
  nodes : b.1.length ≤ 8
  links : b.2.1.length ≤ 16
  area : ∀ n ∈ b.1,1 ≤ n.2.1 ∧ n.2.1 ≤ 1000
  limit : ∀ n ∈ b.1,0 ≤ n.2.2.1 ∧ n.2.2.1 ≤ 1024
  link : ∀ x ∈ b.2.1,LinkOK x b.1.length
theorem y4n : ∀ {l done : List Nod},y46 done l = 0 → ∀ n ∈ l,(1 ≤ n.2.1 ∧ n.2.1 ≤ 1000) ∧ 0 ≤ n.2.2.1 ∧ n.2.2.1 ≤ 1024
  | [],_,_,n,hn => by simp at hn
  | m :: l,done,h,n,hn => by
    obtain ⟨h1,h2⟩ := yb (show yR (y6m done m) (y46 (done ++ [m]) l) = 0 from h)
    rcases List.mem_cons.1 hn with rfl | hn
    · exact ⟨y2T (y07 h1 _ (by simp)),y2T (y07 h1 _ (by simp))⟩
    · exact y4n h2 n hn
theorem y04 {b : Bas} (h : y0A b = 0) : BasOK b := by
  obtain ⟨h1,h2⟩ := yb h;obtain ⟨g1,g2,g3⟩ := yBk h1;by_cases h16 : 16 < b.2.1.length
  · rw [yA h16] at h2; cases h2
  · rw [yG h16,cond_false] at h2;exact ⟨g1,g2,by omega,fun n hn => (y4n g3 n hn).1,fun n hn => (y4n g3 n hn).2,fun x hx => yD9 (y07 h2 _ (List.mem_map.2 ⟨x,hx,rfl⟩))⟩
theorem y4K (a r : Int) : yHa a r = yE2 a r := rfl
noncomputable def flo (a r : Int) : Int := bif decide (wr (wr (a.tdiv r) * r) > a) then wr (wr (a.tdiv r) - 1) else wr (a.tdiv r)
theorem y99 (a r : Int) (h : r ≠ 0) : yE2 a r = some (flo a r,()) := by
  unfold yE2 ySp flo;rw [bifF (beq_eq_false_iff_ne.2 h)];cases decide (wr (wr (a.tdiv r) * r) > a) <;> rfl
def imax (a b : Int) : Int := if b > a then b else a
def imin (a b : Int) : Int := if b < a then b else a
noncomputable def y5y (x : Lnk) (vol area tide : Int) (opn : Bool) : Int :=
  if x.1 = kB then (bif opn then imax (wr (0 - vol)) (flo (wr (wr (area * tide) - vol)) x.2.2.2.2.1) else 0)
  else if x.1 = kL then imax 0 (flo (wr (wr (area * tide) - vol)) x.2.2.2.2.1)
  else if x.1 = kO then imax 0 (flo (wr (vol - wr (area * imax tide x.2.2.2.1))) x.2.2.2.2.1)
  else if x.1 = kP then imax 0 (imin x.2.2.2.2.1 (wr (vol - wr (area * x.2.2.2.1))))
  else imax 0 (flo (wr (vol - wr (area * x.2.2.2.1))) x.2.2.2.2.1)
abbrev plT : Ty := .pair (.pair .str (.pair (.int .i64) (.pair (.int .i64) (.pair (.int .i64) (.pair (.int .i64) .unit))))) (.pair (.int .i64) (.pair (.int .i64) (.pair (.int .i64) (.pair .bool .unit))))
abbrev yQE : Ty := .pair (.arr 2 .bool) (.pair (.func (.pair plT .unit) (.pair (.int .i64) .unit)) .unit)
noncomputable def yI7 (k : List UInt8) : (Lnk × Int × Int × Int × Bool × Unit) × Unit → Option (Int × Unit) :=
  ((yZ .str yQE z0S.1 k).getD ([false,false],fun _ => none,())).2.1
theorem yFn {x : Lnk} (hk : y0R x.1 ≠ none) (hr : x.2.2.2.2.1 ≠ 0) (vol area tide : Int) (opn : Bool) : yI7 x.1 ((x,vol,area,tide,opn,()),()) = some (y5y x vol area tide opn,()) := by
  obtain ⟨k,f,t,a,r,u⟩ := x;simp only at hk hr;have hf := fun a => y99 a r hr
  rcases y1i k with rfl | rfl | rfl | rfl | rfl | ⟨h1,h2,h3,h4,h5⟩
  · show zT_M ((kB,f,t,a,r,u),vol,area,tide,opn,()) = _
    simp only [zT_M,zT_m,zU_M,zU_m,y4K,hf,y5y,Option.bind_some];cases opn <;> rfl
  · show yGR ((kL,f,t,a,r,u),vol,area,tide,opn,()) = _
    simp only [yGR,yKL,zU_M,zU_m,y4K,hf,y5y,Option.bind_some];rfl
  · show yGw ((kO,f,t,a,r,u),vol,area,tide,opn,()) = _
    simp only [yGw,yKw,zm_M,zm_m,y4K,hf,y5y,Option.bind_some];rfl
  · rfl
  · show yH4 ((kW,f,t,a,r,u),vol,area,tide,opn,()) = _
    simp only [yH4,yLa,zm_M,zm_m,y4K,hf,y5y,Option.bind_some];rfl
  · exact absurd (by simp [y0R,h1,h2,h3,h4,h5]) hk
theorem yKY {x : Lnk} (hk : y0R x.1 ≠ none) (hr : x.2.2.2.2.1 ≠ 0) (b : Bas) (v : List Int) (c : Cnd) (n : Nod) (vol j : Int) (hj : (if x.2.1 < 0 then x.2.2.1 else x.2.1) = j) (hn : idx b.1 j = some n) (hv : idx v j = some vol) :
    yGs b v c x = some (y5y x vol n.2.1 c.1 c.2.1,()) := by
  obtain ⟨k,f,t,a,r,u⟩ := x;simp only at hk hr hj;have hf := fun a => y99 a r hr
  have h0 : yGs b v c (k,f,t,a,r,u) = y5a 0 b v c (k,f,t,a,r,u) j := by
    unfold yGs yTt;subst hj;by_cases hlt : f < 0
    · rw [bifT (yA hlt),if_pos hlt]
    · rw [bifF (yG hlt),if_neg hlt]
  rw [h0];unfold y5a;rw [hn,hv];simp only [Option.bind_some];rcases y1i k with rfl | rfl | rfl | rfl | rfl | ⟨h1,h2,h3,h4,h5⟩
  · rw [bifT (show (kB == [98,97,114,114,105,101,114]) = true by decide)]
    simp only [hf,Option.bind_some,y5y];cases c.2.1 <;> rfl
  · rw [bifF (show (kL == [98,97,114,114,105,101,114]) = false by decide),bifT (show (kL == [108,101,97,107]) = true by decide)]
    simp only [hf,Option.bind_some,y5y];rfl
  · rw [bifF (show (kO == [98,97,114,114,105,101,114]) = false by decide),bifF (show (kO == [108,101,97,107]) = false by decide),bifT (show (kO == [111,117,116,102,97,108,108]) = true by decide)]
    simp only [hf,Option.bind_some,y5y];rfl
  · rw [bifF (show (kP == [98,97,114,114,105,101,114]) = false by decide),bifF (show (kP == [108,101,97,107]) = false by decide),bifF (show (kP == [111,117,116,102,97,108,108]) = false by decide),bifT (show (kP == [112,117,109,112]) = true by decide)]
    rfl
  · rw [bifF (show (kW == [98,97,114,114,105,101,114]) = false by decide),bifF (show (kW == [108,101,97,107]) = false by decide),bifF (show (kW == [111,117,116,102,97,108,108]) = false by decide),bifF (show (kW == [112,117,109,112]) = false by decide)]
    simp only [hf,Option.bind_some,y5y];rfl
  · exact absurd (by simp [y0R,h1,h2,h3,h4,h5]) hk
end Go.Tw
end
section
set_option maxRecDepth 100000
namespace Go.Tw
open Go.Vx Go.Vx.B Go.Proofs
def maxV : Int := 100000000
def y0r (v : List Int) : Bool := v.all fun x => decide (x ≤ maxV)
theorem y5t (v : List Int) (h : v.length < lenMax) : yLh v = some (!y0r v,()) := by
  unfold yLh;rw [bifT (yA h),y1d (fun x => bif decide (x > 100000000) then some (true,()) else none) v 0 (fun i e _ => by
    unfold yMD;cases decide (e > 100000000) <;> rfl)]
  unfold y0r yLq;clear h;induction v with
  | nil => rfl
  | cons x v ih =>
    rw [List.findSome?_cons,List.all_cons];by_cases hx : x ≤ maxV
    · rw [yA hx,yG (show ¬ x > 100000000 by unfold maxV at hx; omega)]
      exact ih
    · rw [yG hx,yA (show x > 100000000 by unfold maxV at hx; omega)]
      rfl
def y0E : List Int → List Int → List Int
  | x :: v,n :: l => wr (x + n) :: y0E v l
  | _,_ => []
theorem y1U : ∀ (v l : List Int),v.length = l.length → (y0E v l).length = v.length
  | [],[],_ => rfl
  | x :: v,n :: l,h => by simp [y0E,y1U v l (by simpa using h)]
  | [],_ :: _,h => by simp at h
  | _ :: _,[],h => by simp at h
theorem y0x {α : Type} (p : List α) (x : α) (r : List α) (i : Int) (hi : i = (p.length : Int)) : idx (p ++ x :: r) i = some x := by
  subst hi;rw [y8K];simp
theorem y3H {α : Type} (p : List α) (x y : α) (r : List α) (i : Int) (hi : i = (p.length : Int)) : (p ++ x :: r).set i.toNat y = p ++ y :: r := by
  subst hi;simp
theorem y3L {α : Type} (p : List α) (x : α) (r : List α) (i : Int) (hi : i = (p.length : Int)) : (p ++ x :: r)[i.toNat]? = some x := by
  subst hi;simp
theorem yF9 (b : Bas) (c : Cnd) (t : List Int) : ∀ (l rest p : List Int) (i : Int) (fine : Bool),i = (p.length : Int) → rest.length = l.length →
    yK (fun i__ e__ s__ => yGP b c t i__ e__ s__.1 s__.2) (fun s__ => yDA b c t s__.1 s__.2) i l (fine,p ++ rest) =
      yDA b c t (fine && y0r (y0E rest l)) (p ++ y0E rest l)
  | [],[],p,i,fine,_,_ => by
    rw [y33];simp [y0E,y0r]
  | n :: l,x :: rest,p,i,fine,hi,hl => by
    have hb : yGP b c t i n fine (p ++ x :: rest) = some (.inr (fine && decide (wr (x + n) ≤ maxV),p ++ wr (x + n) :: rest)) := by
      unfold yGP;rw [bifT (show (i != -1) = true by simp; omega)]
      rw [y0x p x rest i hi,y3L p x rest i hi];simp only [Option.bind_some];cases fine with
      | true =>
        simp only [cond_true,y3H p x _ rest i hi];rw [y0x p _ rest i hi,y3L p _ rest i hi];rfl
      | false =>
        simp only [cond_false,y3H p x _ rest i hi];rfl
    rw [yg,hb];simp only [Option.bind_some];have ih := yF9 b c t l rest (p ++ [wr (x + n)]) (i + 1) (fine && decide (wr (x + n) ≤ maxV)) (by simp [hi]) (by simpa using hl)
    rw [show (p ++ [wr (x + n)]) ++ rest = p ++ wr (x + n) :: rest by simp] at ih
    rw [ih];simp [y0E,y0r,Bool.and_assoc]
theorem yAW (b : Bas) (c : Cnd) : ∀ (m : Nat) (l rest p q : List Int) (i : Int),i = (p.length : Int) → p.length = q.length → c.2.2.1 = q ++ l → rest.length = l.length → m = rest.length →
    yJH (fun s__ => (List.length s__ : Int)) (fun i__ s__ => yEL b c i__ s__) (fun s__ => y8P b c s__) m i (p ++ rest) = y8P b c (p ++ y0E rest l)
  | 0,l,rest,p,q,i,hi,hq,hc,hl,hm => by
    have e1 : rest = [] := List.eq_nil_of_length_eq_zero hm.symm;subst e1;unfold yJH;have e2 : decide (i < (List.length (p ++ ([] : List Int)) : Int)) = false := yG (by simp; omega)
    rw [e2];simp [y0E]
  | m + 1,l,rest,p,q,i,hi,hq,hc,hl,hm => by
    match rest,l,hl,hm with
    | x :: rest,n :: l,hl,hm =>
      unfold yJH;have e2 : decide (i < (List.length (p ++ x :: rest) : Int)) = true := yA (by simp; omega)
      rw [e2,cond_true];have hb : yEL b c i (p ++ x :: rest) = some (.inr (p ++ wr (x + n) :: rest)) := by
        unfold yEL;rw [y0x p x rest i hi,y3L p x rest i hi,hc,y0x q n l i (by omega)]
        simp only [Option.bind_some,y3H p x _ rest i hi]
      rw [hb];simp only [Option.bind_some];have ih := yAW b c m l rest (p ++ [wr (x + n)]) (q ++ [n]) (i + 1) (by simp [hi]) (by simp [hq]) (by simp [hc]) (by simpa using hl) (by simpa using hm)
      rw [show (p ++ [wr (x + n)]) ++ rest = p ++ wr (x + n) :: rest by simp] at ih
      rw [ih];simp [y0E]
def y0I (out : List Int) (j n : Int) : List Int := if j = -1 then out else out.set j.toNat (wr (out.getD j.toNat 0 + n))
def okAt (out : List Int) (j : Int) : Bool := decide (j = -1) || decide (out.getD j.toNat 0 ≤ maxV)
theorem y08 (out : List Int) (j n : Int) : (y0I out j n).length = out.length := by unfold y0I; split <;> simp
theorem y2S {out : List Int} {j : Int} (h0 : 0 ≤ j) (h1 : j < out.length) : idx out j = some (out.getD j.toNat 0) ∧ out[j.toNat]? = some (out.getD j.toNat 0) := by
  have hj : j.toNat < out.length := by omega
  have h2 : out[j.toNat]? = some (out.getD j.toNat 0) := by simp [List.getD,List.getElem?_eq_getElem hj]
  refine ⟨?_,h2⟩;unfold idx;rw [if_pos h0];exact h2
def atL (x : Lnk) : Int := if x.2.1 = -1 then x.2.2.1 else x.2.1
noncomputable def fl (b : Bas) (c : Cnd) (x : Lnk) (out : List Int) : Int := y5y x (out.getD (atL x).toNat 0) (b.1.getD (atL x).toNat ([],0,0,())).2.1 c.1 c.2.1
noncomputable def mv (b : Bas) (c : Cnd) (x : Lnk) (out : List Int) : List Int := y0I (y0I out x.2.1 (wr (0 - fl b c x out))) x.2.2.1 (fl b c x out)
noncomputable def okL (b : Bas) (c : Cnd) (x : Lnk) (out : List Int) : Bool := okAt (y0I out x.2.1 (wr (0 - fl b c x out))) x.2.1 && okAt (mv b c x out) x.2.2.1
theorem yNS (x : Lnk) : (zu (x.1,x.2.1,x.2.2.1,x.2.2.2.1,x.2.2.2.2.1,())).1 = atL x := by
  unfold zu atL;simp only;by_cases h : x.2.1 = -1
  · rw [bifT (show (x.2.1 == -1) = true by simpa using h),if_pos h]
  · rw [bifF (show (x.2.1 == -1) = false by simpa using h),if_neg h]
theorem yF6 {x : Lnk} {N : Nat} (h : LinkOK x N) : 0 ≤ atL x ∧ atL x < N := by
  have h1 := h.from_; have h2 := h.to_; have h3 := h.some_;unfold atL;split <;> omega
theorem yIW (b : Bas) (c : Cnd) (all : List (List UInt8 × yQE.den)) (t : List Lnk) (i : Int) (fs : List Int) (x : Lnk) {N : Nat} (hx : LinkOK x N) (f : Int) (fine : Bool) (out : List Int) (hN : out.length = N) (hfs : fs.length + 1 ≤ memMax) :
    y2n b c all t i fs x (f,()) fine out = some (.inr (fine && okAt (y0I out x.2.2.1 f) x.2.2.1,fs ++ [f],y0I out x.2.2.1 f)) := by
  unfold y2n;have hd : decide (fs.length + 1 ≤ memMax) = true := yA hfs;by_cases ht : x.2.2.1 = -1
  · rw [bifF (show (x.2.2.1 != -1) = false by simpa using ht),bifT hd]
    unfold y0I okAt;rw [if_pos ht,yA ht];simp
  · rw [bifT (show (x.2.2.1 != -1) = true by simpa using ht)]
    have hto : 0 ≤ x.2.2.1 ∧ x.2.2.1 < (out.length : Int) := by
      rcases hx.to_ with h | h
      · exact absurd h ht
      · rw [hN]; exact h
    obtain ⟨e1,e2⟩ := y2S hto.1 hto.2;rw [e1,e2];simp only [Option.bind_some];have ea : y0I out x.2.2.1 f = out.set x.2.2.1.toNat (wr (out.getD x.2.2.1.toNat 0 + f)) := by unfold y0I; rw [if_neg ht]
    have hto2 : 0 ≤ x.2.2.1 ∧ x.2.2.1 < ((y0I out x.2.2.1 f).length : Int) := by rw [y08]; exact hto
    obtain ⟨g1,g2⟩ := y2S hto2.1 hto2.2;rw [ea] at g1 g2;cases fine with
    | true =>
      simp only [cond_true];rw [g1,g2];simp only [Option.bind_some];rw [bifT hd];unfold okAt;rw [yG ht,ea];rfl
    | false =>
      simp only [cond_false];rw [bifT hd,ea];rfl
theorem y9i (b : Bas) (c : Cnd) (t : List Lnk) (i : Int) (x : Lnk) (hx : LinkOK x b.1.length) (fine : Bool) (fs out : List Int) (hN : out.length = b.1.length) (hfs : fs.length + 1 ≤ memMax) :
    y9U b c z0S.1 t i x fine fs out = some (.inr (fine && okL b c x out,fs ++ [fl b c x out],mv b c x out)) := by
  have hat := yF6 hx;have e0 : y9U b c z0S.1 t i x fine fs out =
      ((idx out (zu (x.1,x.2.1,x.2.2.1,x.2.2.2.1,x.2.2.2.2.1,())).1).bind fun v14 => (out[(zu (x.1,x.2.1,x.2.2.1,x.2.2.2.1,x.2.2.2.2.1,())).1.toNat]?).bind fun v15 =>
        (idx b.1 (zu (x.1,x.2.1,x.2.2.1,x.2.2.2.1,x.2.2.2.2.1,())).1).bind fun v16 => (yI7 x.1 ((x,v15,v16.2.1,c.1,c.2.1,()),())).bind fun v17 =>
          bif x.2.1 != -1 then (idx out x.2.1).bind fun v18 => (out[x.2.1.toNat]?).bind fun v19 => (idx out x.2.1).bind fun v20 => (out[x.2.1.toNat]?).bind fun v21 =>
            bif fine then (idx (out.set x.2.1.toNat (wr (v19 + wr (0 - v17.1)))) x.2.1).bind fun v22 => ((out.set x.2.1.toNat (wr (v19 + wr (0 - v17.1))))[x.2.1.toNat]?).bind fun v23 =>
              y2n b c z0S.1 t i fs x v17 (decide (v23 ≤ 100000000)) (out.set x.2.1.toNat (wr (v19 + wr (0 - v17.1))))
            else y2n b c z0S.1 t i fs x v17 false (out.set x.2.1.toNat (wr (v19 + wr (0 - v17.1))))
          else y2n b c z0S.1 t i fs x v17 fine out) := rfl
  rw [e0,yNS];obtain ⟨e1,e2⟩ := y2S (out := out) hat.1 (by rw [hN]; exact hat.2)
  have e3 : idx b.1 (atL x) = some (b.1.getD (atL x).toNat ([],0,0,())) := by
    unfold idx;rw [if_pos hat.1];have : (atL x).toNat < b.1.length := by omega
    simp [List.getD,List.getElem?_eq_getElem this]
  rw [e1,e2,e3];simp only [Option.bind_some];rw [yFn hx.kind (by have := hx.rate; omega)]
  simp only [Option.bind_some];show (bif x.2.1 != -1 then _ else y2n b c z0S.1 t i fs x (fl b c x out,()) fine out) = _
  change (bif x.2.1 != -1 then (idx out x.2.1).bind fun v18 => (out[x.2.1.toNat]?).bind fun v19 => (idx out x.2.1).bind fun v20 => (out[x.2.1.toNat]?).bind fun v21 =>
            bif fine then (idx (out.set x.2.1.toNat (wr (v19 + wr (0 - fl b c x out)))) x.2.1).bind fun v22 => ((out.set x.2.1.toNat (wr (v19 + wr (0 - fl b c x out))))[x.2.1.toNat]?).bind fun v23 =>
              y2n b c z0S.1 t i fs x (fl b c x out,()) (decide (v23 ≤ 100000000)) (out.set x.2.1.toNat (wr (v19 + wr (0 - fl b c x out))))
            else y2n b c z0S.1 t i fs x (fl b c x out,()) false (out.set x.2.1.toNat (wr (v19 + wr (0 - fl b c x out))))
          else y2n b c z0S.1 t i fs x (fl b c x out,()) fine out) = _
  by_cases hf : x.2.1 = -1
  · rw [bifF (show (x.2.1 != -1) = false by simpa using hf),yIW b c _ t i fs x hx _ fine out hN hfs]
    unfold okL mv;have e5 : ∀ n,y0I out x.2.1 n = out := fun n => by unfold y0I; rw [if_pos hf]
    have e6 : okAt out x.2.1 = true := by unfold okAt; rw [yA hf]; rfl
    rw [e5,e6,Bool.true_and]
  · rw [bifT (show (x.2.1 != -1) = true by simpa using hf)]
    have hfr : 0 ≤ x.2.1 ∧ x.2.1 < (out.length : Int) := by
      rcases hx.from_ with h | h
      · exact absurd h hf
      · rw [hN]; exact h
    obtain ⟨g1,g2⟩ := y2S hfr.1 hfr.2;rw [g1,g2];simp only [Option.bind_some];have ea : y0I out x.2.1 (wr (0 - fl b c x out)) = out.set x.2.1.toNat (wr (out.getD x.2.1.toNat 0 + wr (0 - fl b c x out))) := by unfold y0I; rw [if_neg hf]
    have hfr2 : 0 ≤ x.2.1 ∧ x.2.1 < ((y0I out x.2.1 (wr (0 - fl b c x out))).length : Int) := by rw [y08]; exact hfr
    obtain ⟨k1,k2⟩ := y2S hfr2.1 hfr2.2;rw [← ea];cases fine with
    | true =>
      simp only [cond_true];rw [k1,k2];simp only [Option.bind_some];rw [yIW b c _ t i fs x hx _ _ _ (by rw [y08]; exact hN) hfs]
      unfold okL mv;have e6 : okAt (y0I out x.2.1 (wr (0 - fl b c x out))) x.2.1 = decide ((y0I out x.2.1 (wr (0 - fl b c x out))).getD x.2.1.toNat 0 ≤ 100000000) := by unfold okAt; rw [yG hf]; rfl
      rw [e6,Bool.true_and]
    | false =>
      simp only [cond_false];rw [yIW b c _ t i fs x hx _ _ _ (by rw [y08]; exact hN) hfs]
      simp [mv]
end Go.Tw
end
section
set_option maxRecDepth 100000
namespace Go.Tw
open Go.Vx Go.Vx.B Go.Proofs
theorem yC9 {out : List Int} {j n : Int} (h : j = -1) : y0I out j n = out := by unfold y0I; rw [if_pos h]
theorem y9p {out : List Int} {j n : Int} (h : ¬ j = -1) : y0I out j n = out.set j.toNat (wr (out.getD j.toNat 0 + n)) := by unfold y0I; rw [if_neg h]
theorem yEa {v : List Int} {i : Nat} (h : i < v.length) : v[i]? = some (v.getD i 0) := by simp [List.getD,List.getElem?_eq_getElem h]
theorem y7y {v : List Int} (h : y0r v = true) {i : Nat} {x : Int} (hi : v[i]? = some x) : x ≤ maxV := by
  have := List.all_eq_true.1 h x (List.mem_of_getElem? hi);simpa using this
theorem yKM {v : List Int} (h : ∀ (i : Nat) (x : Int),v[i]? = some x → x ≤ maxV) : y0r v = true := by
  unfold y0r;rw [List.all_eq_true];intro x hx;obtain ⟨i,hi,rfl⟩ := List.getElem_of_mem hx;exact decide_eq_true (h i _ (List.getElem?_eq_getElem hi))
theorem y8N {out : List Int} (h : y0r out = true) (j n : Int) (hj : j = -1 ∨ (0 ≤ j ∧ j < out.length)) : y0r (y0I out j n) = okAt (y0I out j n) j := by
  unfold okAt;by_cases hm : j = -1
  · rw [yA hm,Bool.true_or];unfold y0I;rw [if_pos hm];exact h
  · rw [yG hm,Bool.false_or];have hj := hj.resolve_left hm;have hl : j.toNat < out.length := by omega
    have e : y0I out j n = out.set j.toNat (wr (out.getD j.toNat 0 + n)) := by unfold y0I; rw [if_neg hm]
    have e2 : (y0I out j n).getD j.toNat 0 = wr (out.getD j.toNat 0 + n) := by
      rw [e]; simp [List.getD,hl]
    rw [e2];by_cases hw : wr (out.getD j.toNat 0 + n) ≤ maxV
    · rw [yA hw];refine yKM fun i x hi => ?_
      rw [e,List.getElem?_set] at hi;split at hi
      · cases hi; exact hw
      · exact y7y h hi
    · rw [yG hw];rw [Bool.eq_false_iff];intro hf;exact hw (y7y hf (i := j.toNat) (by rw [e]; simp [hl]))
theorem yKU (b : Bas) (c : Cnd) {x : Lnk} {N : Nat} (hx : LinkOK x N) {out : List Int} (hN : out.length = N) (h : y0r out = true) : y0r (mv b c x out) = okL b c x out := by
  unfold okL;have hfr : x.2.1 = -1 ∨ (0 ≤ x.2.1 ∧ x.2.1 < (out.length : Int)) := by rw [hN]; exact hx.from_
  have hto : x.2.2.1 = -1 ∨ (0 ≤ x.2.2.1 ∧ x.2.2.1 < ((y0I out x.2.1 (wr (0 - fl b c x out))).length : Int)) := by rw [y08,hN]; exact hx.to_
  have h1 := y8N h x.2.1 (wr (0 - fl b c x out)) hfr;cases ho : okAt (y0I out x.2.1 (wr (0 - fl b c x out))) x.2.1 with
  | true =>
    rw [Bool.true_and];exact y8N (h1.trans ho) x.2.2.1 (fl b c x out) hto
  | false =>
    rw [Bool.false_and,Bool.eq_false_iff];intro hf;unfold okAt at ho;rw [Bool.or_eq_false_iff] at ho;have hm : ¬ x.2.1 = -1 := of_decide_eq_false ho.1;have hj := hfr.resolve_left hm;have hw := of_decide_eq_false ho.2;apply hw;refine y7y hf (i := x.2.1.toNat) ?_
    have hl : x.2.1.toNat < (y0I out x.2.1 (wr (0 - fl b c x out))).length := by rw [y08]; omega
    unfold mv;by_cases ht : x.2.2.1 = -1
    · rw [yC9 ht];exact yEa hl
    · have ht2 := hto.resolve_left ht;have hne : x.2.2.1.toNat ≠ x.2.1.toNat := by have := hx.ne; omega
      rw [y9p ht,List.getElem?_set_ne hne];exact yEa hl
theorem y2C (b : Bas) (c : Cnd) (x : Lnk) (out : List Int) : (mv b c x out).length = out.length := by unfold mv; rw [y08,y08]
theorem yA0 (b : Bas) (c : Cnd) (i : Int) (x : Lnk) (hx : LinkOK x b.1.length) (hN8 : b.1.length ≤ 8) (fs out : List Int) (hN : out.length = b.1.length) (hfs : fs.length + 1 ≤ memMax) :
    yFX b c i x out fs = some (bif y0r (mv b c x out) then .inr (mv b c x out,fs ++ [fl b c x out]) else .inl ([],[],4,())) := by
  have hat := yF6 hx;unfold yFX;obtain ⟨e1,e2⟩ := y2S (out := out) hat.1 (by rw [hN]; exact hat.2)
  have e3 : idx b.1 (atL x) = some (b.1.getD (atL x).toNat ([],0,0,())) := by
    unfold idx;rw [if_pos hat.1];have : (atL x).toNat < b.1.length := by omega
    simp [List.getD,List.getElem?_eq_getElem this]
  have hj : (if x.2.1 < 0 then x.2.2.1 else x.2.1) = atL x := by
    unfold atL;have := hx.from_;by_cases hm : x.2.1 = -1
    · rw [if_pos hm,if_pos (by omega)]
    · rw [if_neg hm,if_neg (by omega)]
  have hr := hx.rate;rw [show yGs b out c (x.fst,x.snd.fst,x.snd.snd.fst,x.snd.snd.snd.fst,x.snd.snd.snd.snd.fst,()) = yGs b out c x from rfl,yKY hx.kind (by omega) b out c _ _ _ hj e3 e1]
  simp only [Option.bind_some];change (bif decide (x.2.1 ≥ 0) then (idx out x.2.1).bind fun v10 => (out[x.2.1.toNat]?).bind fun v11 => (idx out x.2.1).bind fun v12 => (out[x.2.1.toNat]?).bind fun v13 => y6E b c i fs x (fl b c x out,()) (out.set x.2.1.toNat (wr (v11 - fl b c x out))) else y6E b c i fs x (fl b c x out,()) out) = _
  have hfr : x.2.1 = -1 ∨ (0 ≤ x.2.1 ∧ x.2.1 < (out.length : Int)) := by rw [hN]; exact hx.from_
  have s22 : y6E b c i fs x (fl b c x out,()) (y0I out x.2.1 (wr (0 - fl b c x out))) = some (bif y0r (mv b c x out) then .inr (mv b c x out,fs ++ [fl b c x out]) else .inl ([],[],4,())) := by
    have s21 : yAJ b c i fs (fl b c x out,()) (mv b c x out) = some (bif y0r (mv b c x out) then .inr (mv b c x out,fs ++ [fl b c x out]) else .inl ([],[],4,())) := by
      unfold yAJ;rw [y5t _ (by rw [y2C,hN]; unfold lenMax; omega)]
      simp only [Option.bind_some];cases y0r (mv b c x out) with
      | true =>
        simp only [Bool.not_true,cond_false,cond_true];rw [bifT (yA hfs)]
      | false => rfl
    unfold y6E;have hto : x.2.2.1 = -1 ∨ (0 ≤ x.2.2.1 ∧ x.2.2.1 < ((y0I out x.2.1 (wr (0 - fl b c x out))).length : Int)) := by rw [y08,hN]; exact hx.to_
    by_cases ht : x.2.2.1 = -1
    · rw [bifF (yG (show ¬ x.2.2.1 ≥ 0 by omega))]
      have e : mv b c x out = y0I out x.2.1 (wr (0 - fl b c x out)) := by unfold mv; rw [yC9 ht]
      rw [← e];exact s21
    · have ht2 := hto.resolve_left ht;rw [bifT (yA (show x.2.2.1 ≥ 0 by omega))]
      obtain ⟨g1,g2⟩ := y2S ht2.1 ht2.2;rw [g1,g2];simp only [Option.bind_some];have e : mv b c x out = (y0I out x.2.1 (wr (0 - fl b c x out))).set x.2.2.1.toNat (wr ((y0I out x.2.1 (wr (0 - fl b c x out))).getD x.2.2.1.toNat 0 + fl b c x out)) := by unfold mv; rw [y9p ht]
      rw [show (y0I out x.2.1 (wr (0 - fl b c x out))).set x.2.2.1.toNat (IntKind.i64.wrap ((y0I out x.2.1 (wr (0 - fl b c x out))).getD x.2.2.1.toNat 0 + fl b c x out)) = mv b c x out from e.symm]
      exact s21
  by_cases hf : x.2.1 = -1
  · rw [bifF (yG (show ¬ x.2.1 ≥ 0 by omega))]
    have e : y0I out x.2.1 (wr (0 - fl b c x out)) = out := by unfold y0I; rw [if_pos hf]
    rw [e] at s22;exact s22
  · have hf2 := hfr.resolve_left hf;rw [bifT (yA (show x.2.1 ≥ 0 by omega))]
    obtain ⟨g1,g2⟩ := y2S hf2.1 hf2.2;rw [g1,g2];simp only [Option.bind_some];have e : y0I out x.2.1 (wr (0 - fl b c x out)) = out.set x.2.1.toNat (wr (out.getD x.2.1.toNat 0 - fl b c x out)) := by unfold y0I; rw [if_neg hf,yKx]
    rw [e] at s22;exact s22
noncomputable abbrev yHi (b : Bas) (c : Cnd) (i : Int) (l : List Lnk) (s : Bool × List Int × List Int) : Option (List Int × Option (List Int) × Bool × Unit) :=
  yK (fun i__ e__ s__ => y9U b c z0S.1 b.2.1 i__ e__ s__.1 s__.2.1 s__.2.2) (fun s__ => yF2 b c z0S.1 b.2.1 s__.1 s__.2.1 s__.2.2) i l s
noncomputable abbrev yJp (b : Bas) (c : Cnd) (i : Int) (l : List Lnk) (s : List Int × List Int) : Option (List Int × List Int × Int × Unit) :=
  yK (fun i__ e__ s__ => yFX b c i__ e__ s__.1 s__.2) (fun s__ => yMN b c s__.1 s__.2) i l s
theorem y7o (b : Bas) (c : Cnd) : ∀ (l : List Lnk) (i : Int) (fs out : List Int),(∀ x ∈ l,LinkOK x b.1.length) → out.length = b.1.length → fs.length + l.length ≤ memMax → ∃ fs' out',yHi b c i l (false,fs,out) = some (fs',some out',false,())
  | [],i,fs,out,_,_,_ => ⟨fs,out,rfl⟩
  | x :: l,i,fs,out,hx,hN,hl => by
    simp only [List.length_cons] at hl;unfold yHi;rw [yg,y9i b c _ i x (hx x (by simp)) false fs out hN (by omega)]
    simp only [Option.bind_some,Bool.false_and];exact y7o b c l (i + 1) (fs ++ [fl b c x out]) (mv b c x out) (fun y hy => hx y (by simp [hy])) (by rw [y2C]; exact hN) (by simp; omega)
theorem y9a (b : Bas) (c : Cnd) (h8 : b.1.length ≤ 8) : ∀ (l : List Lnk) (i i' : Int) (fs out : List Int),(∀ x ∈ l,LinkOK x b.1.length) → out.length = b.1.length → fs.length + l.length ≤ memMax → y0r out = true →
    ∃ fs' out',(yJp b c i' l (out,fs) = some (fs',out',0,()) ∧ yHi b c i l (true,fs,out) = some (fs',some out',true,()) ∧ out'.length = b.1.length ∧ y0r out' = true) ∨
      (yJp b c i' l (out,fs) = some ([],[],4,()) ∧ yHi b c i l (true,fs,out) = some (fs',some out',false,()))
  | [],i,i',fs,out,_,hN,_,hf => ⟨fs,out,.inl ⟨rfl,rfl,hN,hf⟩⟩
  | x :: l,i,i',fs,out,hx,hN,hl,hf => by
    simp only [List.length_cons] at hl;have hL := hx x (by simp)
    unfold yJp yHi;rw [yg,yg,yA0 b c i' x hL h8 fs out hN (by omega),y9i b c _ i x hL true fs out hN (by omega)]
    simp only [Option.bind_some,Bool.true_and];have he := yKU b c hL hN hf;rw [← he];cases hm : y0r (mv b c x out) with
    | true =>
      simp only [cond_true];exact y9a b c h8 l (i + 1) (i' + 1) (fs ++ [fl b c x out]) (mv b c x out) (fun y hy => hx y (by simp [hy])) (by rw [y2C]; exact hN) (by simp; omega) hm
    | false =>
      simp only [cond_false];obtain ⟨fs',out',h⟩ := y7o b c l (i + 1) (fs ++ [fl b c x out]) (mv b c x out) (fun y hy => hx y (by simp [hy])) (by rw [y2C]; exact hN) (by simp; omega)
      exact ⟨fs',out',.inr ⟨trivial,h⟩⟩
theorem yJt (b : Bas) (hb : BasOK b) (v : List Int) (c : Cnd) (hv : v.length = b.1.length) (hc : c.2.2.1.length = b.1.length) :
    ∃ fs out,(y97 b v c = some (fs,out,0,()) ∧ zi_M b v c = some (fs,some out,true,()) ∧ out.length = b.1.length ∧ y0r out = true) ∨
      (y97 b v c = some ([],[],4,()) ∧ zi_M b v c = some (fs,some out,false,())) := by
  have h8 := hb.nodes;have hl := hb.links;have hin : (y0E v c.2.2.1).length = b.1.length := by rw [y1U v _ (by omega)]; exact hv
  have hmem : memMax = 68719476736 := rfl;have hr : y97 b v c = y8P b c (y0E v c.2.2.1) := by
    unfold y97;rw [bifT (yA (show 0 + v.length ≤ memMax by omega)),bifT (yA (show (v.length : Int) ≤ 9223372036854775807 by omega))]
    have := yAW b c v.length c.2.2.1 v [] [] 0 rfl rfl rfl (by omega) rfl
    rw [List.nil_append,List.nil_append] at this;rw [show ((v.length : Int) - 0).toNat = v.length by omega]
    exact this
  have hp : zi_M b v c = yDA b c c.2.2.1 (y0r (y0E v c.2.2.1)) (y0E v c.2.2.1) := by
    unfold zi_M;have e1 : (true && decide ((0 : Int) ≤ (v.length : Int)) && decide ((v.length : Int) ≤ (memMax : Int)) && (v.length : Int) == (v.length : Int)) = true := by
      rw [yA (show (0 : Int) ≤ (v.length : Int) by omega),yA (show (v.length : Int) ≤ (memMax : Int) by omega)]; simp
    rw [bifT e1,bifT (yA (show c.2.2.1.length < lenMax by unfold lenMax; omega))]
    have e2 : List.take (List.replicate (v.length : Int).toNat (0 : Int)).length v ++ List.drop v.length (List.replicate (v.length : Int).toNat (0 : Int)) = v := by simp
    rw [e2];have := yF9 b c c.2.2.1 c.2.2.1 v [] 0 true rfl (by omega)
    rw [List.nil_append,List.nil_append,Bool.true_and] at this;exact this
  rw [hr,hp];have hlm : decide (List.length b.2.1 < lenMax) = true := yA (by unfold lenMax; omega)
  unfold y8P yDA;rw [y5t _ (by rw [hin]; unfold lenMax; omega)]
  simp only [Option.bind_some];rw [bifT hlm];cases hf : y0r (y0E v c.2.2.1) with
  | false =>
    obtain ⟨fs',out',h⟩ := y7o b c b.2.1 0 [] (y0E v c.2.2.1) hb.link hin (by simp; omega)
    exact ⟨fs',out',.inr ⟨rfl,by rw [bifT hlm]; exact h⟩⟩
  | true =>
    simp only [Bool.not_true,cond_false];rw [bifT hlm];exact y9a b c h8 b.2.1 0 0 [] (y0E v c.2.2.1) hb.link hin (by simp; omega) hf
end Go.Tw
end
section
set_option maxRecDepth 100000
namespace Go.Tw
open Go.Vx Go.Vx.B Go.Proofs
def lvls : List Int → List Nod → List Int
  | x :: v,n :: l => wr (x.tdiv n.2.1) :: lvls v l
  | _,_ => []
theorem y7v : ∀ (v : List Int) (l : List Nod),v.length = l.length → (lvls v l).length = v.length
  | [],[],_ => rfl
  | x :: v,n :: l,h => by simp [lvls,y7v v l (by simpa using h)]
  | [],_ :: _,h => by simp at h
  | _ :: _,[],h => by simp at h
theorem y6T (b : Bas) (v0 : List Int) : ∀ (v : List Int) (l pn : List Nod) (i : Int) (s : List Int),b.1 = pn ++ l → i = (pn.length : Int) → v.length = l.length → (∀ n ∈ b.1,n.2.1 ≠ 0) → s.length + v.length ≤ memMax →
    yK (fun i__ e__ s__ => yEm v0 b i__ e__ s__) (fun s__ => yIk v0 b s__) i v s = some (s ++ lvls v l,())
  | [],[],pn,i,s,_,_,_,_,_ => by rw [y33]; simp [yIk,lvls]
  | x :: v,n :: l,pn,i,s,hb,hi,hl,hn,hs => by
    simp only [List.length_cons] at hs;have hbody : yEm v0 b i x s = some (.inr (s ++ [wr (x.tdiv n.2.1)])) := by
      unfold yEm;rw [hb,y0x pn n l i hi];simp only [Option.bind_some];rw [bifF (beq_eq_false_iff_ne.2 (hn n (by rw [hb]; simp))),bifT (yA (show s.length + 1 ≤ memMax by omega))]
    rw [yg,hbody];simp only [Option.bind_some];rw [y6T b v0 v l (pn ++ [n]) (i + 1) (s ++ [wr (x.tdiv n.2.1)]) (by rw [hb]; simp) (by simp [hi]) (by simpa using hl) hn (by simp; omega)]
    simp [lvls]
  | [],_ :: _,_,_,_,_,_,h,_,_ => by simp at h
  | _ :: _,[],_,_,_,_,_,h,_,_ => by simp at h
theorem yGF (b : Bas) (hb : BasOK b) (v : List Int) (hv : v.length = b.1.length) : yMy b v = some (lvls v b.1,()) := by
  have h8 := hb.nodes;have hmem : memMax = 68719476736 := rfl;unfold yMy;rw [bifT (yA (show v.length < lenMax by unfold lenMax; omega)),y6T b v v b.1 [] 0 [] rfl rfl hv (fun n hn => by have := (hb.area n hn).1; omega) (by simp; omega)]
  rfl
theorem yBK {α β : Type} {p : α → Option β} {l : List α} (h : l.findSome? p = none) : ∀ e ∈ l,p e = none := List.findSome?_eq_none_iff.1 h
theorem yEf (b : Bas) (hn : b.1.length < lenMax) (hl : b.2.1.length < lenMax) : ∃ s,yBi b = some (s,()) ∧ (s = true → ∀ n ∈ b.1,n.1.length ≤ 60) := by
  unfold yBi;rw [bifT (yA hn),y1d (fun n => bif decide ((n.1.length : Int) > 60) then some (false,()) else none) b.1 0 (fun i e _ => by
    unfold yFW;cases decide ((e.1.length : Int) > 60) <;> rfl)]
  cases hf : b.1.findSome? (fun n => bif decide ((n.1.length : Int) > 60) then some (false,()) else none) with
  | some y =>
    obtain ⟨n,_,hy⟩ := List.exists_of_findSome?_eq_some hf;cases hd : decide ((n.1.length : Int) > 60) with
    | true => rw [hd] at hy; cases hy; exact ⟨false,rfl,by simp⟩
    | false => rw [hd] at hy; cases hy
  | none =>
    have hall : ∀ n ∈ b.1,n.1.length ≤ 60 := fun n hn => by
      have := yBK hf n hn;by_cases hd : (n.1.length : Int) > 60
      · rw [yA hd] at this; cases this
      · omega
    show ∃ s,yBu b = some (s,()) ∧ _
    unfold yBu;rw [bifT (yA hl),y1d (fun n => bif decide ((n.1.length : Int) > 60) then some (false,()) else none) b.2.1 0 (fun i e _ => by
      unfold yFJ;cases decide ((e.1.length : Int) > 60) <;> rfl)]
    cases hg : b.2.1.findSome? (fun n => bif decide ((n.1.length : Int) > 60) then some (false,()) else none) with
    | some y =>
      obtain ⟨n,_,hy⟩ := List.exists_of_findSome?_eq_some hg;cases hd : decide ((n.1.length : Int) > 60) with
      | true => rw [hd] at hy; cases hy; exact ⟨false,rfl,by simp⟩
      | false => rw [hd] at hy; cases hy
    | none => exact ⟨true,rfl,fun _ => hall⟩
theorem yKB (b : Bas) : ∃ s,yBz b = some (s,()) ∧ (s = true → b.1.length ≤ 9 ∧ b.2.1.length ≤ 17 ∧ ∀ n ∈ b.1,n.1.length ≤ 60) := by
  unfold yBz;by_cases h9 : b.1.length ≤ 9
  · rw [bifF (yG (show ¬ (b.1.length : Int) > 9 by omega))]
    by_cases h8 : b.2.1.length ≤ 8
    · rw [bifF (yG (show ¬ (b.2.1.length : Int) > 8 by omega))]
      obtain ⟨s,h1,h2⟩ := yEf b (by unfold lenMax; omega) (by unfold lenMax; omega)
      exact ⟨s,h1,fun hs => ⟨h9,by omega,h2 hs⟩⟩
    · rw [bifT (yA (show (b.2.1.length : Int) > 8 by omega))]
      by_cases h17 : b.2.1.length = 17
      · rw [bifF (show ((b.2.1.length : Int) != 17) = false by simp [h17])]
        obtain ⟨s,h1,h2⟩ := yEf b (by unfold lenMax; omega) (by unfold lenMax; omega)
        exact ⟨s,h1,fun hs => ⟨h9,by omega,h2 hs⟩⟩
      · rw [bifT (show ((b.2.1.length : Int) != 17) = true by simp; omega)]
        exact ⟨false,rfl,by simp⟩
  · rw [bifT (yA (show (b.1.length : Int) > 9 by omega))]
    exact ⟨false,rfl,by simp⟩
theorem y7R (b : Bas) (h1 : b.1.length ≤ memMax) (h2 : b.2.1.length ≤ memMax) : y4Z b = some (b,()) := by
  have hm := y0X;unfold y4Z;rw [bifT (yA (show b.1.length < lenMax by omega)),y0Z (fun n => n) b.1 0 [] (by simpa using h1) (fun i e s _ hs => by
    unfold yEN;rw [bifT (yA hs)])]
  simp only [List.map_id_fun',id_eq,List.nil_append];unfold yEJ;rw [bifT (yA (show b.2.1.length < lenMax by omega)),y0Z (fun n => n) b.2.1 0 [] (by simpa using h2) (fun i e s _ hs => by
    unfold yFh;rw [bifT (yA hs)])]
  simp only [List.map_id_fun',id_eq,List.nil_append];rfl
theorem y4N : y22 = some (true,()) := by kernel_rfl
end Go.Tw
end
