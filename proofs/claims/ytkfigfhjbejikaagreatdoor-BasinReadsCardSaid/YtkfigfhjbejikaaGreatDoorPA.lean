import Derived.Test.YtkfigfhjbejikaaGreatDoorBE
set_option linter.all false
section
set_option maxRecDepth 100000
namespace Go.Tw
open Go.Vx Go.Vx.B Go.Proofs
section
variable {α β γ σ : Type}
theorem yBL {body : Int → α → σ → Option (β ⊕ σ)} {fin : σ → Option β} {i : Int} {s : σ} : yK body fin i [] s = fin s := rfl
theorem y19 {body : Int → α → σ → Option (β ⊕ σ)} {fin : σ → Option β} {i : Int} {e : α} {l : List α} {s : σ} : yK body fin i (e :: l) s = (body i e s).bind fun z => match z with
    | .inl y => some y
    | .inr s' => yK body fin (i + 1) l s' := rfl
theorem y1u {body : Int → α → Unit → Option (β ⊕ Unit)} {fin : Unit → Option β} (p : α → Option β) :
    ∀ (l : List α) (i : Int),(∀ i e,e ∈ l → body i e () = some (match p e with | some y => .inl y | none => .inr ())) → yK body fin i l () = match l.findSome? p with | some y => some y | none => fin ()
  | [],i,_ => rfl
  | e :: l,i,h => by
    rw [y19,h i e (by simp),List.findSome?_cons]
    cases p e with
    | none => exact y1u p l (i + 1) fun i e he => h i e (by simp [he])
    | some y => rfl
theorem y3l {body : Int → α → List γ → Option (β ⊕ List γ)} {fin : List γ → Option β} (f : α → γ) :
    ∀ (l : List α) (i : Int) (s : List γ),s.length + l.length ≤ memMax → (∀ i e s,e ∈ l → s.length + 1 ≤ memMax → body i e s = some (.inr (s ++ [f e]))) → yK body fin i l s = fin (s ++ l.map f)
  | [],i,s,_,_ => by simp [yBL]
  | e :: l,i,s,hl,h => by
    simp only [List.length_cons] at hl;rw [y19,h i e s (by simp) (by omega)]
    simp only [Option.bind_some];rw [y3l f l (i + 1) (s ++ [f e]) (by simp; omega) fun i e s he hs => h i e s (by simp [he]) hs]
    simp
end
theorem yH {p : Prop} [Decidable p] (h : p) : decide p = true := decide_eq_true h
theorem ya {p : Prop} [Decidable p] (h : ¬ p) : decide p = false := decide_eq_false h
theorem bifT {α : Type} {c : Bool} {a b : α} (h : c = true) : (bif c then a else b) = a := by rw [h]; rfl
theorem bifF {α : Type} {c : Bool} {a b : α} (h : c = false) : (bif c then a else b) = b := by rw [h]; rfl
theorem y28 : memMax < lenMax := by decide
def ckR (n lo hi : Int) : Int := if n < lo ∨ hi < n then 3 else 0
def y0c (l : List Int) : Int := (l.find? (· != 0)).getD 0
theorem y0L (n lo hi : Int) : zp n lo hi = (ckR n lo hi,()) := by
  unfold zp ckR;by_cases h1 : n < lo
  · rw [bifT (yH h1),if_pos (.inl h1)]
  · rw [bifF (ya h1)];by_cases h2 : n > hi
    · rw [bifT (yH h2),if_pos (.inr h2)]
    · rw [bifF (ya h2),if_neg (by omega)]
theorem y2d (c : Bool) (e : Int) : z0f c e = (bif c then e else 0,()) := by
  unfold z0f;cases c <;> rfl
theorem y2H (n lo hi : Int) : z0D n lo hi = (ckR n lo hi,()) := by
  unfold z0D ckR;by_cases h1 : n < lo
  · rw [bifT (yH h1),y2d,cond_true,if_pos (.inl h1)]
  · rw [bifF (ya h1),y2d];by_cases h2 : n > hi
    · rw [yH h2,cond_true,if_pos (.inr h2)]
    · rw [ya h2,cond_false,if_neg (by omega)]
theorem y96 (l : List Int) : l.findSome? (fun e => if e != 0 then some (e,()) else none) = (l.find? (· != 0)).map fun e => (e,()) := by
  induction l with
  | nil => rfl
  | cons e l ih =>
    rw [List.findSome?_cons,List.find?_cons];cases he : (e != 0) with
    | true => rfl
    | false => simpa using ih
theorem y2E (l : List Int) (h : l.length < lenMax) : y0n l = some (y0c l,()) := by
  unfold y0n;rw [bifT (yH h),y1u (fun e => if e != 0 then some (e,()) else none) l 0 (fun i e _ => by
    unfold yGU;cases he : (e != 0) <;> rfl),y96]
  unfold y0c yHZ;cases l.find? (· != 0) <;> rfl
theorem y7H {α : Type} (l : List α) (i : Nat) : idx l (i : Int) = l[i]? := by
  unfold idx;rw [if_pos (Int.natCast_nonneg i)];rfl
theorem y7N {α β : Type} {body : Int → α → Unit → Option (β ⊕ Unit)} {fin : Unit → Option β} (xs : List α) (p : α → Option β) :
    ∀ (l done : List α),xs = done ++ l → (∀ (i : Nat) e,xs[i]? = some e → body (i : Int) e () = some (match p e with | some y => .inl y | none => .inr ())) →
      yK body fin (done.length : Int) l () = match l.findSome? p with | some y => some y | none => fin ()
  | [],done,_,_ => rfl
  | e :: l,done,hx,h => by
    rw [y19,h done.length e (by rw [hx]; simp),List.findSome?_cons]
    cases p e with
    | none =>
      have := y7N (body := body) (fin := fin) xs p l (done ++ [e]) (by rw [hx]; simp) h
      simp only [List.length_append,List.length_cons,List.length_nil] at this;exact this
    | some y => rfl
theorem yBr (l : List Int) (h : l.length < lenMax) : yBX l = some (y0c l,()) := by
  unfold yBX;have := y7N (body := fun i__ e__ s__ => yEX l i__ e__) (fin := fun s__ => yEA l) l (fun e => if e != 0 then some (e,()) else none) l [] rfl (fun i e hi => by
    unfold yEX;cases he : (e != 0) with
    | true => rw [y7H,hi]; rfl
    | false => rfl)
  rw [bifT (yH h)];refine this.trans ?_
  rw [y96];unfold y0c yEA;cases l.find? (· != 0) <;> rfl
def y46 (c : Nat) : Bool := decide (65 ≤ c ∧ c ≤ 90 ∨ 97 ≤ c ∧ c ≤ 122)
def y66 (c : Nat) : Bool := decide (48 ≤ c ∧ c ≤ 57 ∨ c = 95)
def nmOk : Bool → List UInt8 → Bool
  | _,[] => true
  | first,c :: l => (y46 c.toNat || (!first && y66 c.toNat)) && nmOk false l
def isNm (s : List UInt8) : Bool := nmOk true s && decide (0 < s.length ∧ s.length ≤ 24)
theorem y8s : ∀ (s0 s : List UInt8) (i : Int),0 ≤ i → yK (fun i__ e__ s__ => yBG s0 i__ e__) (fun s__ => yHH s0) i s () = some (nmOk (decide (i = 0)) s,())
  | s0,[],i,_ => rfl
  | s0,c :: l,i,hi => by
    rw [y19];have ih := y8s s0 l (i + 1) (by omega)
    have e0 : decide (i + 1 = 0) = false := ya (by omega)
    rw [e0] at ih;unfold nmOk;have hb : yBG s0 i c = some (if (y46 c.toNat || (!decide (i = 0) && y66 c.toNat)) = true then .inr () else .inl (false,())) := by
      unfold yBG y5k y46 y66;have g3 : (i == 0) = decide (i = 0) := by by_cases h : i = 0 <;> simp [h]
      have g4 : ((c.toNat : Int) != 95) = !decide ((c.toNat : Int) = 95) := by by_cases h : (c.toNat : Int) = 95 <;> simp [h]
      rw [g3,g4];by_cases h1 : (97 : Int) ≤ c.toNat <;> by_cases h2 : (c.toNat : Int) ≤ 122 <;> by_cases h3 : (65 : Int) ≤ c.toNat <;> by_cases h4 : (c.toNat : Int) ≤ 90 <;> by_cases h5 : (c.toNat : Int) < 48 <;> by_cases h6 : (c.toNat : Int) > 57 <;> by_cases h7 : (c.toNat : Int) = 95 <;> by_cases h8 : i = 0 <;>
        first
        | omega
        | (have g1 : (decide (65 ≤ c.toNat ∧ c.toNat ≤ 90 ∨ 97 ≤ c.toNat ∧ c.toNat ≤ 122)) = decide ((65 : Int) ≤ c.toNat ∧ (c.toNat : Int) ≤ 90 ∨ (97 : Int) ≤ c.toNat ∧ (c.toNat : Int) ≤ 122) := by
            apply decide_eq_decide.2; omega
           have g2 : (decide (48 ≤ c.toNat ∧ c.toNat ≤ 57 ∨ c.toNat = 95)) = decide (¬ (c.toNat : Int) < 48 ∧ ¬ (c.toNat : Int) > 57 ∨ (c.toNat : Int) = 95) := by
            apply decide_eq_decide.2; omega
           rw [g1,g2];simp [h1,h2,h3,h4,h5,h6,h7,h8])
    rw [hb];simp only [Option.bind_some];by_cases hc : (y46 c.toNat || (!decide (i = 0) && y66 c.toNat)) = true
    · rw [if_pos hc,hc,Bool.true_and];exact ih
    · rw [if_neg hc,Bool.eq_false_iff.2 hc];rfl
theorem yKV (s : List UInt8) : yIG s = some (isNm s,()) := by
  unfold yIG isNm;by_cases h0 : s.length = 0
  · have : ((s.length : Int) == 0) = true := by simp [h0]
    rw [bifT this,show decide (0 < s.length ∧ s.length ≤ 24) = false from ya (by omega),Bool.and_false]
  · have : ((s.length : Int) == 0) = false := by simpa using h0
    rw [bifF this];by_cases h1 : 24 < s.length
    · rw [bifT (yH (by omega)),show decide (0 < s.length ∧ s.length ≤ 24) = false from ya (by omega),Bool.and_false]
    · rw [bifF (ya (show ¬ ((s.length : Int) > 24) by omega)),bifT (yH (show s.length < lenMax by unfold lenMax; omega)),y8s s s 0 (by omega),yH rfl]
      rw [show decide (0 < s.length ∧ s.length ≤ 24) = true from yH ⟨by omega,by omega⟩,Bool.and_true]
end Go.Tw
end
section
set_option maxRecDepth 100000
namespace Go.Tw
open Go.Vx Go.Vx.B Go.Proofs
theorem yKZ {bs : List UInt8} {i : Nat} {c : UInt8} (h : bs[i]? = some c) : (⟨bs.toArray⟩ : ByteArray).get! i = c := by
  show bs.toArray[i]! = c
  rw [getElem!_def];simp [h]
theorem yFy {bs : List UInt8} {i : Nat} {c : UInt8} (h : bs[i]? = some c) (hc : c.toNat < 128) : yk bs (i : Int) = ((c.toNat : Int),(i : Int) + 1) := by
  unfold yk Utf8.decode;have h0 : (⟨bs.toArray⟩ : ByteArray).get! ((i : Int).toNat + 0) = c := by rw [Int.toNat_natCast,Nat.add_zero]; exact yKZ h
  simp only [h0];rw [if_pos hc];rfl
theorem yGS {bs : List UInt8} {i : Nat} {c : UInt8} (h : bs[i]? = some c) (hc : 128 ≤ c.toNat) : 128 ≤ (yk bs (i : Int)).1 := by
  unfold yk Utf8.decode;have h0 : (⟨bs.toArray⟩ : ByteArray).get! ((i : Int).toNat + 0) = c := by rw [Int.toNat_natCast,Nat.add_zero]; exact yKZ h
  simp only [h0];rw [if_neg (by omega)]
  have he : Utf8.runeError = 65533 := rfl;split
  · split
    · rename_i h2; show (128 : Int) ≤ ((_ : Nat) : Int); omega
    · rw [he]; decide
  · split
    · split
      · rename_i h2; simp only [Bool.and_eq_true,decide_eq_true_eq] at h2; show (128 : Int) ≤ ((_ : Nat) : Int); omega
      · rw [he]; decide
    · split
      · split
        · rename_i h2; simp only [Bool.and_eq_true,decide_eq_true_eq] at h2; show (128 : Int) ≤ ((_ : Nat) : Int); omega
        · rw [he]; decide
      · rw [he]; decide
def yAg (r : Int) : Bool := decide (65 ≤ r ∧ r ≤ 90 ∨ 97 ≤ r ∧ r ≤ 122)
def yEU (r : Int) : Bool := decide (48 ≤ r ∧ r ≤ 57 ∨ r = 95)
theorem yG3 (s str : List UInt8) (pos : Int) : yCD s str pos = some (if (yAg (yk str pos).1 || (!decide (pos = 0) && yEU (yk str pos).1)) = true then .inr () else .inl (false,())) := by
  unfold yCD y4f y76 yAg yEU;generalize (yk str pos).1 = r;have g3 : (pos == 0) = decide (pos = 0) := by by_cases h : pos = 0 <;> simp [h]
  have g4 : (r == 95) = decide (r = 95) := by by_cases h : r = 95 <;> simp [h]
  rw [g3,g4];by_cases h1 : r ≥ 97 <;> by_cases h2 : r ≤ 122 <;> by_cases h3 : r ≥ 65 <;> by_cases h4 : r ≤ 90 <;> by_cases h5 : r ≥ 48 <;> by_cases h6 : r ≤ 57 <;> by_cases h7 : r = 95 <;> by_cases h8 : pos = 0 <;>
    first
    | omega
    | simp [h1,h2,h3,h4,h5,h6,h7,h8]
theorem y8q (s : List UInt8) : ∀ (m i : Nat),s.length ≤ i + m → i ≤ s.length →
    y8d s (fun i__ s__ => yCD s s i__) (fun s__ => yBf s s) m (i : Int) () = bif nmOk (decide (i = 0)) (s.drop i) then yBf s s else some (false,())
  | m,i,hm,hi => by
    by_cases hl : i = s.length
    · have e1 : s.drop i = [] := List.drop_eq_nil_of_le (by omega)
      have e2 : decide ((i : Int) < (s.length : Int)) = false := ya (by omega)
      rw [e1];cases m <;> (unfold y8d; rw [bifF e2]; rfl)
    · have hlt : i < s.length := by omega
      obtain ⟨m,rfl⟩ : ∃ k,m = k + 1 := ⟨m - 1,by omega⟩
      have hd : s.drop i = s[i] :: s.drop (i + 1) := (List.getElem_cons_drop (h := hlt)).symm;have hg : s[i]? = some s[i] := List.getElem?_eq_getElem hlt;have e0 : decide ((i : Int) = 0) = decide (i = 0) := decide_eq_decide.2 (by omega)
      unfold y8d;rw [bifT (yH (show (i : Int) < (s.length : Int) by omega)),yG3,hd,e0]
      simp only [Option.bind_some];by_cases hc : s[i].toNat < 128
      · rw [yFy hg hc];have e1 : yAg (s[i].toNat : Int) = y46 s[i].toNat := decide_eq_decide.2 (by omega)
        have e2 : yEU (s[i].toNat : Int) = y66 s[i].toNat := decide_eq_decide.2 (by omega)
        simp only [e1,e2,nmOk];by_cases hb : (y46 s[i].toNat || (!decide (i = 0) && y66 s[i].toNat)) = true
        · rw [if_pos hb,hb,Bool.true_and];have ih := y8q s m (i + 1) (by omega) (by omega)
          have e3 : decide (i + 1 = 0) = false := ya (by omega)
          rw [e3,show ((i + 1 : Nat) : Int) = (i : Int) + 1 by omega] at ih
          exact ih
        · rw [if_neg hb,Bool.eq_false_iff.2 hb,Bool.false_and];rfl
      · have h1 := yGS hg (by omega)
        have e1 : yAg (yk s (i : Int)).1 = false := ya (by omega)
        have e2 : yEU (yk s (i : Int)).1 = false := ya (by omega)
        have e3 : y46 s[i].toNat = false := ya (by omega)
        have e4 : y66 s[i].toNat = false := ya (by omega)
        simp [e1,e2,nmOk,e3,e4]
theorem yJP (s : List UInt8) (h : s.length < lenMax) : yI2 s = some (isNm s,()) := by
  unfold yI2;have := y8q s s.length 0 (by omega) (by omega)
  rw [List.drop_zero,show decide (0 = 0) = true from rfl] at this
  rw [bifT (yH h)];refine (show _ = _ from this).trans ?_
  unfold isNm yBf;cases hn : nmOk true s with
  | false => rfl
  | true =>
    rw [cond_true,Bool.true_and];cases s with
    | nil => rfl
    | cons c l =>
      have e : decide (((c :: l).length : Int) ≤ 24) = decide (0 < (c :: l).length ∧ (c :: l).length ≤ 24) := decide_eq_decide.2 (by simp only [List.length_cons]; omega)
      rw [← e];rfl
def yx (a b : Int) : Int := if a != 0 then a else b
theorem y8m : y0c [] = 0 := rfl
theorem y01 (a : Int) (l : List Int) : y0c (a :: l) = yx a (y0c l) := by
  unfold y0c yx;rw [List.find?_cons];cases h : (a != 0) <;> rfl
theorem y6N (a : Int) : yx a 0 = a := by
  unfold yx;by_cases h : a = 0 <;> simp [h]
def y5m (done : List Nod) (n : Nod) : Int :=
  y0c [bif isNm n.1 then 0 else 8,bif done.any (fun d => d.1 == n.1) then 9 else 0,ckR n.2.1 1 1000,ckR n.2.2.1 0 1024]
def y2g : List Nod → List Nod → Int
  | _,[] => 0
  | done,n :: l => yx (y5m done n) (y2g (done ++ [n]) l)
def y4e (l : List Nod) : Int := if l.length = 0 then 12 else if 8 < l.length then 5 else y2g [] l
theorem y8x (l : List Nod) (i : Nat) (n : Nod) (hn : l[i]? = some n) {fin : Unit → Option ((Int × Unit) ⊕ Unit)} : ∀ (m k : Nat),k + m = i →
    y1R (fun i__ s__ => yFx l (i : Int) i__) fin m (k : Int) () = if ((l.drop k).take m).any (fun d => d.1 == n.1) = true then some (.inl (9,())) else fin ()
  | 0,k,_ => by simp [y1R]
  | m + 1,k,hk => by
    have hi : i < l.length := (List.getElem?_eq_some_iff.1 hn).1;have hkl : k < l.length := by omega
    unfold y1R;have hb : yFx l (i : Int) (k : Int) = some (if (l[k].1 == n.1) = true then .inl (.inl (9,())) else .inr ()) := by
      unfold yFx;rw [y7H,y7H,hn,List.getElem?_eq_getElem hkl];simp only [Option.bind_some];cases (l[k].1 == n.1) <;> rfl
    rw [hb];simp only [Option.bind_some];have hd : (l.drop k).take (m + 1) = l[k] :: (l.drop (k + 1)).take m := by
      rw [← List.getElem_cons_drop (h := hkl),List.take_succ_cons]
    rw [hd,List.any_cons];cases h : (l[k].1 == n.1) with
    | true => rfl
    | false =>
      rw [if_neg (by simp),Bool.false_or]
      have ih := y8x l i n hn (fin := fin) m (k + 1) (by omega)
      rw [show ((k + 1 : Nat) : Int) = (k : Int) + 1 by omega] at ih
      exact ih
theorem yCX (l : List Nod) (hl : l.length ≤ 8) (i : Nat) (n : Nod) (hn : l[i]? = some n) :
    yIC l (i : Int) n = some (bif y5m (l.take i) n != 0 then .inl (y5m (l.take i) n,()) else .inr ()) := by
  have hi : i < l.length := (List.getElem?_eq_some_iff.1 hn).1;unfold yIC;rw [yKV];simp only [Option.bind_some];unfold y5m;cases hnm : isNm n.1 with
  | false =>
    simp only [Bool.not_false,cond_true,y01];rfl
  | true =>
    simp only [Bool.not_true,cond_false];rw [bifT (yH (show (i : Int) ≤ 9223372036854775807 by omega))]
    have e1 : ((i : Int) - 0).toNat = i := by omega
    rw [e1];have := y8x l i n hn (fin := fun s__ => yI7 l (i : Int)) i 0 (by omega)
    rw [show ((0 : Nat) : Int) = 0 from rfl] at this
    rw [this,List.drop_zero];cases hany : (l.take i).any (fun d => d.1 == n.1) with
    | true =>
      rw [if_pos rfl];simp [y01,yx]
    | false =>
      rw [if_neg (by simp)]
      unfold yI7;rw [y7H,hn];simp only [Option.bind_some,y0L];rw [yBr _ (by simp [lenMax])]
      simp only [Option.bind_some];have e2 : y0c [bif true then 0 else 8,bif false then 9 else 0,ckR n.2.1 1 1000,ckR n.2.2.1 0 1024] = y0c [ckR n.2.1 1 1000,ckR n.2.2.1 0 1024] := by
        simp [y01,yx]
      rw [e2];cases (y0c [ckR n.2.1 1 1000,ckR n.2.2.1 0 1024] != 0) <;> rfl
theorem y7i (xs : List Nod) (hl : xs.length ≤ 8) : ∀ (l done : List Nod),xs = done ++ l →
    yK (fun i__ e__ s__ => yIC xs i__ e__) (fun s__ => yMf xs) (done.length : Int) l () = some (y2g done l,())
  | [],done,_ => rfl
  | n :: l,done,hx => by
    have hn : xs[done.length]? = some n := by rw [hx]; simp
    rw [y19,yCX xs hl done.length n hn];have ht : xs.take done.length = done := by rw [hx]; simp
    rw [ht];simp only [Option.bind_some,y2g,yx];cases h : (y5m done n != 0) with
    | true => rfl
    | false =>
      have ih := y7i xs hl l (done ++ [n]) (by rw [hx]; simp)
      simp only [List.length_append,List.length_cons,List.length_nil] at ih;exact ih
theorem yGR (l : List Nod) : zr_M l = some (y4e l,()) := by
  unfold zr_M y4e;by_cases h0 : l.length = 0
  · rw [bifT (show ((l.length : Int) == 0) = true by simp [h0]),if_pos h0]
  · rw [bifF (show ((l.length : Int) == 0) = false by simpa using h0),if_neg h0]
    by_cases h8 : 8 < l.length
    · rw [bifT (yH (show (l.length : Int) > 8 by omega)),if_pos h8]
    · rw [bifF (ya (show ¬ (l.length : Int) > 8 by omega)),if_neg h8,bifT (yH (show l.length < lenMax by unfold lenMax; omega))]
      exact y7i l (by omega) l [] rfl
end Go.Tw
end
section
set_option maxRecDepth 100000
namespace Go.Tw
open Go.Vx Go.Vx.B Go.Proofs
def kB : List UInt8 := [98,97,114,114,105,101,114]
def kL : List UInt8 := [108,101,97,107]
def kO : List UInt8 := [111,117,116,102,97,108,108]
def kP : List UInt8 := [112,117,109,112]
def kW : List UInt8 := [119,101,105,114]
def y0x (k : List UInt8) : Option (Bool × Bool) :=
  if k = kB then some (true,false) else if k = kL then some (true,false) else if k = kO then some (false,true) else if k = kP then some (false,false) else if k = kW then some (false,false) else none
def fitN (n nodes : Int) (sea : Bool) : Bool := bif sea then n == -1 else decide (0 ≤ n) && decide (n < nodes)
def y0y (x : Lnk) (nodes : Int) : Int :=
  match y0x x.1 with
  | none => 13
  | some (s,t) => bif fitN x.2.1 nodes s && fitN x.2.2.1 nodes t then
      y0c [bif x.2.1 == x.2.2.1 then 17 else 0,ckR x.2.2.2.1 0 (bif s then 0 else 1024),ckR x.2.2.2.2.1 1 1000] else 10
theorem y35 (k : List UInt8) : k = kB ∨ k = kL ∨ k = kO ∨ k = kP ∨ k = kW ∨ (k ≠ kB ∧ k ≠ kL ∧ k ≠ kO ∧ k ≠ kP ∧ k ≠ kW) := by
  by_cases h1 : k = kB
  · exact .inl h1
  by_cases h2 : k = kL
  · exact .inr (.inl h2)
  by_cases h3 : k = kO
  · exact .inr (.inr (.inl h3))
  by_cases h4 : k = kP
  · exact .inr (.inr (.inr (.inl h4)))
  by_cases h5 : k = kW
  · exact .inr (.inr (.inr (.inr (.inl h5))))
  exact .inr (.inr (.inr (.inr (.inr ⟨h1,h2,h3,h4,h5⟩))))
theorem yOZ (a b c : Int) : [a,b,c].length < lenMax := by simp [lenMax]
theorem yJq (x : Lnk) (nodes : Int) : zk_M x nodes = some (y0y x nodes,()) := by
  obtain ⟨k,f,t,a,r,u⟩ := x;have fin : ∀ (m : Int),((y0n [bif f == t then 17 else 0,ckR a 0 m,ckR r 1 1000]).bind fun v27 => some (v27.fst,())) = some (y0c [bif f == t then 17 else 0,ckR a 0 m,ckR r 1 1000],()) := fun m => by
    rw [y2E _ (yOZ _ _ _)]; rfl
  have r2 : ∀ g : Nat → Bool,(List.range 2).all g = (g 0 && g 1) := fun g => by simp [List.range_succ]
  rcases y35 k with rfl | rfl | rfl | rfl | rfl | ⟨h1,h2,h3,h4,h5⟩
  · simp only [y0y,show y0x kB = some (true,false) by decide,fitN]
    simp [zk_M,zk_m,y11,z0U,yY,eqV,kB,y2H,y2d,fin,r2];cases (f == -1) <;> cases (decide (0 ≤ t)) <;> cases (decide (t < nodes)) <;> rfl
  · simp only [y0y,show y0x kL = some (true,false) by decide,fitN]
    simp [zk_M,zk_m,y11,z0U,yY,eqV,kL,y2H,y2d,fin,r2];cases (f == -1) <;> cases (decide (0 ≤ t)) <;> cases (decide (t < nodes)) <;> rfl
  · simp only [y0y,show y0x kO = some (false,true) by decide,fitN]
    simp [zk_M,zk_m,y11,z0U,yY,eqV,kO,y2H,y2d,fin,r2];cases (t == -1) <;> cases (decide (0 ≤ f)) <;> cases (decide (f < nodes)) <;> rfl
  · simp only [y0y,show y0x kP = some (false,false) by decide,fitN]
    simp [zk_M,zk_m,y11,z0U,yY,eqV,kP,y2H,y2d,fin,r2];cases (decide (0 ≤ t)) <;> cases (decide (t < nodes)) <;> cases (decide (0 ≤ f)) <;> cases (decide (f < nodes)) <;> rfl
  · simp only [y0y,show y0x kW = some (false,false) by decide,fitN]
    simp [zk_M,zk_m,y11,z0U,yY,eqV,kW,y2H,y2d,fin,r2];cases (decide (0 ≤ t)) <;> cases (decide (t < nodes)) <;> cases (decide (0 ≤ f)) <;> cases (decide (f < nodes)) <;> rfl
  · have g1 : (k == [98,97,114,114,105,101,114]) = false := beq_eq_false_iff_ne.2 h1;have g2 : (k == [108,101,97,107]) = false := beq_eq_false_iff_ne.2 h2;have g3 : (k == [111,117,116,102,97,108,108]) = false := beq_eq_false_iff_ne.2 h3;have g4 : (k == [112,117,109,112]) = false := beq_eq_false_iff_ne.2 h4;have g5 : (k == [119,101,105,114]) = false := beq_eq_false_iff_ne.2 h5;simp only [y0y,show y0x k = none by simp [y0x,h1,h2,h3,h4,h5]]
    simp only [zk_M,zk_m,z0U,yY,eqV,g1,g2,g3,g4,g5];rfl
theorem y20 (k : List UInt8) : yKS z0Z.1 k = some (decide (k = kB ∨ k = kL ∨ k = kO ∨ k = kP ∨ k = kW),()) := by
  rcases y35 k with rfl | rfl | rfl | rfl | rfl | ⟨h1,h2,h3,h4,h5⟩
  · decide
  · decide
  · decide
  · decide
  · decide
  · have g1 : ([98,97,114,114,105,101,114] == k) = false := beq_eq_false_iff_ne.2 (Ne.symm h1);have g2 : ([108,101,97,107] == k) = false := beq_eq_false_iff_ne.2 (Ne.symm h2);have g3 : ([111,117,116,102,97,108,108] == k) = false := beq_eq_false_iff_ne.2 (Ne.symm h3);have g4 : ([112,117,109,112] == k) = false := beq_eq_false_iff_ne.2 (Ne.symm h4);have g5 : ([119,101,105,114] == k) = false := beq_eq_false_iff_ne.2 (Ne.symm h5);rw [decide_eq_false (by simp [h1,h2,h3,h4,h5])]
    unfold yKS;rw [bifT (yH (show z0Z.1.length < lenMax by decide))]
    rw [y1u (fun w => if (w == k) = true then some (true,()) else none) _ 0 (fun i e _ => by
      unfold yGf;cases he : (e == k) <;> rfl)]
    have : z0Z.1.findSome? (fun w => if (w == k) = true then some (true,()) else none) = none := by
      show List.findSome? _ [[98,97,114,114,105,101,114],[108,101,97,107],[111,117,116,102,97,108,108],[112,117,109,112],[119,101,105,114]] = none
      simp only [List.findSome?_cons,g1,g2,g3,g4,g5,List.findSome?_nil];rfl
    rw [this];rfl
theorem y49 (c : Bool) (a b : Int) : (bif c then some (17,()) else (yBX [a,b]).bind fun v4 => some (v4.fst,())) = some (y0c [bif c then 17 else 0,a,b],()) := by
  cases c with
  | true => rfl
  | false =>
    rw [yBr _ (by simp [lenMax])]
    simp only [cond_false,y01 (0 : Int),yx];rfl
theorem yKP (x : Lnk) (nodes : Int) : zy_M x nodes = some (y0y x nodes,()) := by
  obtain ⟨k,f,t,a,r,u⟩ := x;rcases y35 k with rfl | rfl | rfl | rfl | rfl | ⟨h1,h2,h3,h4,h5⟩
  · simp only [y0y,show y0x kB = some (true,false) by decide,fitN]
    simp only [zy_M,zy_m,y20,show decide (kB = kB ∨ kB = kL ∨ kB = kO ∨ kB = kP ∨ kB = kW) = true by decide,Option.bind_some]
    simp [z0n,z0k,kB,y0L,y49];cases (f == -1) <;> cases (decide (0 ≤ t)) <;> cases (decide (t < nodes)) <;> rfl
  · simp only [y0y,show y0x kL = some (true,false) by decide,fitN]
    simp only [zy_M,zy_m,y20,show decide (kL = kB ∨ kL = kL ∨ kL = kO ∨ kL = kP ∨ kL = kW) = true by decide,Option.bind_some]
    simp [z0n,z0k,kL,y0L,y49];cases (f == -1) <;> cases (decide (0 ≤ t)) <;> cases (decide (t < nodes)) <;> rfl
  · simp only [y0y,show y0x kO = some (false,true) by decide,fitN]
    simp only [zy_M,zy_m,y20,show decide (kO = kB ∨ kO = kL ∨ kO = kO ∨ kO = kP ∨ kO = kW) = true by decide,Option.bind_some]
    simp [z0n,z0k,kO,y0L,y49];cases (t == -1) <;> cases (decide (0 ≤ f)) <;> cases (decide (f < nodes)) <;> rfl
  · simp only [y0y,show y0x kP = some (false,false) by decide,fitN]
    simp only [zy_M,zy_m,y20,show decide (kP = kB ∨ kP = kL ∨ kP = kO ∨ kP = kP ∨ kP = kW) = true by decide,Option.bind_some]
    simp [z0n,z0k,kP,y0L,y49];cases (decide (0 ≤ t)) <;> cases (decide (t < nodes)) <;> cases (decide (0 ≤ f)) <;> cases (decide (f < nodes)) <;> rfl
  · simp only [y0y,show y0x kW = some (false,false) by decide,fitN]
    simp only [zy_M,zy_m,y20,show decide (kW = kB ∨ kW = kL ∨ kW = kO ∨ kW = kP ∨ kW = kW) = true by decide,Option.bind_some]
    simp [z0n,z0k,kW,y0L,y49];cases (decide (0 ≤ t)) <;> cases (decide (t < nodes)) <;> cases (decide (0 ≤ f)) <;> cases (decide (f < nodes)) <;> rfl
  · simp only [y0y,show y0x k = none by simp [y0x,h1,h2,h3,h4,h5]]
    simp only [zy_M,zy_m,y20,show decide (k = kB ∨ k = kL ∨ k = kO ∨ k = kP ∨ k = kW) = false by simp [h1,h2,h3,h4,h5],Option.bind_some]
    rfl
end Go.Tw
end
section
set_option maxRecDepth 100000
namespace Go.Tw
open Go.Vx Go.Vx.B Go.Proofs
theorem yBN {α : Type} {body : Int → α → Unit → Option ((Int × Unit) ⊕ Unit)} {fin : Unit → Option (Int × Unit)} (g : α → Int) (l : List α) (i : Int) (hb : ∀ i e,e ∈ l → body i e () = some (bif g e != 0 then .inl (g e,()) else .inr ())) (hf : fin () = some (0,())) :
    yK body fin i l () = some (y0c (l.map g),()) := by
  rw [y1u (fun e => bif g e != 0 then some (g e,()) else none) l i (fun i e he => by
    rw [hb i e he];cases (g e != 0) <;> rfl)]
  clear hb;induction l with
  | nil => exact hf
  | cons e l ih =>
    rw [List.findSome?_cons,List.map_cons,y01,yx];cases (g e != 0) with
    | true => rfl
    | false => exact ih
theorem yFh (l : List Lnk) (of : Lnk × Unit → Option (Int × Unit)) (g : Lnk → Int) (h : ∀ e ∈ l,of (e,()) = some (g e,())) (hl : l.length ≤ memMax) : zB_M l of = some (l.map g,()) := by
  unfold zB_M;have hm := y28;rw [bifT (yH (show l.length < lenMax by omega)),y3l g l 0 [] (by simpa using hl) (fun i e s he hs => by
    unfold yLT;rw [show of ((e.fst,e.snd.fst,e.snd.snd.fst,e.snd.snd.snd.fst,e.snd.snd.snd.snd.fst,()),()) = of (e,()) from rfl,h e he]
    simp only [Option.bind_some];rw [bifT (yH hs)])]
  rfl
theorem yGg (l : List Int) (of : Int × Unit → Option (Int × Unit)) (g : Int → Int) (h : ∀ e ∈ l,of (e,()) = some (g e,())) (hl : l.length ≤ memMax) : zI_M l of = some (l.map g,()) := by
  unfold zI_M;have hm := y28;rw [bifT (yH (show l.length < lenMax by omega)),y3l g l 0 [] (by simpa using hl) (fun i e s he hs => by
    unfold yM6;rw [h e he];simp only [Option.bind_some];rw [bifT (yH hs)])]
  rfl
def yv (b : Bas) : Int :=
  yx (y4e b.1) (bif decide (16 < b.2.1.length) then 5 else y0c (b.2.1.map fun x => y0y x (b.1.length : Int)))
theorem yGr (b : Bas) : zq_M b = some (yv b,()) := by
  unfold zq_M yv yx;rw [yGR];simp only [Option.bind_some];cases h : (y4e b.1 != 0) with
  | true => rfl
  | false =>
    simp only [cond_false];rw [if_neg (by simp)]
    by_cases h16 : 16 < b.2.1.length
    · rw [bifT (yH (show (b.2.1.length : Int) > 16 by omega)),bifT (yH h16)]
    · rw [bifF (ya (show ¬ (b.2.1.length : Int) > 16 by omega)),bifF (ya h16),bifT (yH (show b.2.1.length < lenMax by unfold lenMax; omega))]
      exact yBN (fun x => y0y x (b.1.length : Int)) _ 0 (fun i e _ => by
        unfold yLf;rw [yKP];simp only [Option.bind_some];cases (y0y e (b.1.length : Int) != 0) <;> rfl) rfl
def yJf (m : List (List UInt8 × Bool)) (done : List Nod) : Prop := ∀ k,(yY .str .bool m k).getD false = done.any fun d => d.1 == k
theorem yFp (m : List (List UInt8 × Bool)) (k k' : List UInt8) : (yY .str .bool (y1D .str .bool m k true) k').getD false = ((k == k') || (yY .str .bool m k').getD false) := by
  induction m with
  | nil =>
    show (yY .str .bool [(k,true)] k').getD false = _
    simp only [yY,eqV];by_cases h : k' = k
    · subst h; simp
    · have h1 : (k' == k) = false := beq_eq_false_iff_ne.2 h;have h2 : (k == k') = false := beq_eq_false_iff_ne.2 (Ne.symm h);show (bif (k' == k) then some true else none).getD false = _
      rw [h1,h2]; rfl
  | cons p m ih =>
    show (yY .str .bool (bif (k == p.1) then (k,true) :: m else p :: y1D .str .bool m k true) k').getD false = _
    by_cases h : k = p.1
    · have h1 : (k == p.1) = true := by simp [h]
      rw [h1,cond_true];show (bif (k' == k) then some true else yY .str .bool m k').getD false = ((k == k') || (bif (k' == p.1) then some p.2 else yY .str .bool m k').getD false)
      by_cases h2 : k' = k
      · have e1 : (k' == k) = true := by simp [h2]
        have e2 : (k == k') = true := by simp [h2]
        rw [e1,e2]; rfl
      · have e1 : (k' == k) = false := beq_eq_false_iff_ne.2 h2;have e2 : (k == k') = false := beq_eq_false_iff_ne.2 (Ne.symm h2);have e3 : (k' == p.1) = false := by rw [← h]; exact e1
        rw [e1,e2,e3]; rfl
    · have h1 : (k == p.1) = false := beq_eq_false_iff_ne.2 h;rw [h1,cond_false];show (bif (k' == p.1) then some p.2 else yY .str .bool (y1D .str .bool m k true) k').getD false = ((k == k') || (bif (k' == p.1) then some p.2 else yY .str .bool m k').getD false)
      by_cases h2 : k' = p.1
      · have e1 : (k' == p.1) = true := by simp [h2]
        have e2 : (k == k') = false := by rw [h2]; exact h1
        rw [e1,e2]; rfl
      · have e1 : (k' == p.1) = false := beq_eq_false_iff_ne.2 h2;rw [e1];exact ih
theorem yJf.put {m : List (List UInt8 × Bool)} {done : List Nod} (h : yJf m done) (n : Nod) : yJf (y1D .str .bool m n.1 true) (done ++ [n]) := by
  intro k;rw [yFp,h k,List.any_append];simp [Bool.or_comm]
theorem yOY (a b c d : Int) : [a,b,c,d].length < lenMax := by simp [lenMax]
theorem yHV (a b : Int) : [a,b].length < lenMax := by simp [lenMax]
theorem y7A (b : Bas) (hn : ∀ n ∈ b.1,n.1.length < lenMax) : ∀ (l done : List Nod) (i : Int) (m : List (List UInt8 × Bool)),(∀ n ∈ l,n.1.length < lenMax) → yJf m done →
    ∃ m',yK (fun i__ e__ s__ => yGT b b.1 i__ e__ s__) (fun s__ => yFL b b.1 s__) i l m = bif y2g done l != 0 then some (y2g done l,()) else yFL b b.1 m'
  | [],done,i,m,_,_ => ⟨m,rfl⟩
  | n :: l,done,i,m,hl,hk => by
    have hb : yGT b b.1 i n m = some (bif y5m done n != 0 then .inl (y5m done n,()) else .inr (y1D .str .bool m n.1 true)) := by
      unfold yGT;rw [yJP n.1 (hl n (by simp))]
      simp only [Option.bind_some,y2d,y2H,hk n.1];rw [y2E _ (yOY _ _ _ _)];have e : y0c [bif !isNm n.1 then 8 else 0,bif done.any (fun d => d.1 == n.1) then 9 else 0,ckR n.2.1 1 1000,ckR n.2.2.1 0 1024] = y5m done n := by
        unfold y5m;cases isNm n.1 <;> rfl
      simp only [Option.bind_some,e];cases (y5m done n != 0) <;> rfl
    rw [y19,hb];simp only [Option.bind_some,y2g,yx];cases h : (y5m done n != 0) with
    | true => exact ⟨m,by simp [h]⟩
    | false =>
      obtain ⟨m',hm⟩ := y7A b hn l (done ++ [n]) (i + 1) (y1D .str .bool m n.1 true) (fun x hx => hl x (by simp [hx])) (hk.put n)
      exact ⟨m',by rw [if_neg (by simp)]; exact hm⟩
theorem y68 {l : List Nod} (h : y4e l = 0) : 0 < l.length ∧ l.length ≤ 8 ∧ y2g [] l = 0 := by
  unfold y4e at h;split at h
  · cases h
  · split at h
    · cases h
    · exact ⟨by omega,by omega,h⟩
theorem y7c (b : Bas) (hn : ∀ n ∈ b.1,n.1.length < lenMax) : zj_M b = some (yv b,()) := by
  unfold zj_M;simp only [y2d];rw [y2E _ (yHV _ _)];simp only [Option.bind_some];have fin : ∀ m,yFL b b.1 m = some (bif decide (16 < b.2.1.length) then 5 else y0c (b.2.1.map fun x => y0y x (b.1.length : Int)),()) := fun m => by
    unfold yFL;by_cases h16 : 16 < b.2.1.length
    · rw [bifT (yH (show (b.2.1.length : Int) > 16 by omega)),bifT (yH h16)]
    · rw [bifF (ya (show ¬ (b.2.1.length : Int) > 16 by omega)),bifF (ya h16)]
      rw [yFh b.2.1 _ (fun x => y0y x (b.1.length : Int)) (fun e _ => by
        unfold zW_M zW_m;rw [yJq]; rfl) (by unfold memMax; omega)]
      simp only [Option.bind_some];rw [y2E _ (by rw [List.length_map]; unfold lenMax; omega)]
      rfl
  unfold yv y4e;by_cases h0 : b.1.length = 0
  · have e1 : ((b.1.length : Int) == 0) = true := by simp [h0]
    rw [e1,if_pos h0];simp [y01,yx]
  · have e1 : ((b.1.length : Int) == 0) = false := by simpa using h0
    rw [e1,if_neg h0];by_cases h8 : 8 < b.1.length
    · rw [yH (show (b.1.length : Int) > 8 by omega),if_pos h8]
      simp [y01,yx]
    · rw [ya (show ¬ (b.1.length : Int) > 8 by omega),if_neg h8]
      have e2 : y0c [bif false then 12 else 0,bif false then 5 else 0] = 0 := by decide
      rw [e2];rw [bifF (show ((0 : Int) != 0) = false by decide),bifT (yH (show b.1.length < lenMax by unfold lenMax; omega))]
      obtain ⟨m',hm⟩ := y7A b hn b.1 [] 0 [] hn (fun k => rfl)
      refine (show _ = _ from hm).trans ?_
      rw [fin m',yx];cases (y2g [] b.1 != 0) <;> rfl
def yCH (b : Bas) (v : List Int) : Int := yx (bif (v.length : Int) != (b.1.length : Int) then 2 else 0) (y0c (v.map fun n => ckR n 0 100000000))
theorem yK8 (b : Bas) (v : List Int) (h : v.length < lenMax) : zf_M b v = some (yCH b v,()) := by
  unfold zf_M yCH yx;cases ((v.length : Int) != (b.1.length : Int)) with
  | true => rfl
  | false =>
    simp only [cond_false];rw [bifT (yH h),if_neg (by decide)]
    exact yBN (fun n => ckR n 0 100000000) v 0 (fun i e _ => by
      unfold yMO;rw [y0L];cases (ckR e 0 100000000 != 0) <;> rfl) rfl
theorem yKD (b : Bas) (v : List Int) (h : v.length ≤ memMax) : zK_M b v = some (yCH b v,()) := by
  have hm := y28;unfold zK_M zK_m;rw [yGg v _ (fun n => ckR n 0 100000000) (fun e _ => by
    show some (zH e) = _
    unfold zH;rw [y2H]) h]
  simp only [Option.bind_some];rw [y2E _ (by rw [List.length_map]; omega)]
  simp only [Option.bind_some,y2d];rw [y2E _ (yHV _ _)];simp only [Option.bind_some,y01,y8m,y6N];rfl
def ckCV (b : Bas) (v : List Int) : Int := yx (yv b) (yCH b v)
theorem yOU (b : Bas) (v : List Int) (h : v.length < lenMax) : za_M b v = some (ckCV b v,()) := by
  unfold za_M za_m ckCV yx;rw [yGr];simp only [Option.bind_some];cases (yv b != 0) with
  | true => rfl
  | false =>
    simp only [cond_false];rw [yK8 b v h,if_neg (by simp)]
    rfl
theorem yLA (b : Bas) (v : List Int) (hn : ∀ n ∈ b.1,n.1.length < lenMax) (h : v.length ≤ memMax) : zX_M b v = some (ckCV b v,()) := by
  unfold zX_M zX_m;rw [y7c b hn,Option.bind_some,yKD b v h];simp only [Option.bind_some];rw [y2E _ (yHV _ _)];simp only [Option.bind_some,y01,y8m,y6N];rfl
end Go.Tw
end
section
set_option maxRecDepth 100000
namespace Go.Tw
open Go.Vx Go.Vx.B Go.Proofs
abbrev wr (a : Int) : Int := IntKind.i64.wrap a
theorem y0N : ∀ {l : List Int},y0c l = 0 → ∀ e ∈ l,e = 0
  | [],_,e,he => by simp at he
  | a :: l,h,e,he => by
    rw [y01] at h;unfold yx at h;by_cases ha : a = 0
    · rcases List.mem_cons.1 he with rfl | he
      · exact ha
      · rw [ha] at h; exact y0N h e he
    · rw [if_pos (by simpa using ha)] at h; exact absurd h ha
theorem y0d {a b : Int} (h : yx a b = 0) : a = 0 ∧ b = 0 := by
  unfold yx at h;by_cases ha : a = 0
  · subst ha; exact ⟨rfl,h⟩
  · rw [if_pos (by simpa using ha)] at h; exact absurd h ha
theorem y5G {n lo hi : Int} (h : ckR n lo hi = 0) : lo ≤ n ∧ n ≤ hi := by
  unfold ckR at h;split at h
  · cases h
  · omega
structure LinkOK (x : Lnk) (N : Nat) : Prop where
  kind : y0x x.1 ≠ none
  from_ : x.2.1 = -1 ∨ (0 ≤ x.2.1 ∧ x.2.1 < N)
  to_ : x.2.2.1 = -1 ∨ (0 ≤ x.2.2.1 ∧ x.2.2.1 < N)
  ne : x.2.1 ≠ x.2.2.1
  some_ : x.2.1 ≠ -1 ∨ x.2.2.1 ≠ -1
  at_ : 0 ≤ x.2.2.2.1 ∧ x.2.2.2.1 ≤ 1024
  rate : 1 ≤ x.2.2.2.2.1 ∧ x.2.2.2.2.1 ≤ 1000
theorem yA1 {n N : Int} {s : Bool} (h : fitN n N s = true) : (s = true ∧ n = -1) ∨ (s = false ∧ 0 ≤ n ∧ n < N) := by
  cases s with
  | true => exact .inl ⟨rfl,by simpa [fitN] using h⟩
  | false =>
    simp only [fitN,cond_false,Bool.and_eq_true,decide_eq_true_eq] at h;exact .inr ⟨rfl,h⟩
theorem yCb {x : Lnk} {N : Nat} (h : y0y x (N : Int) = 0) : LinkOK x N := by
  unfold y0y at h;split at h
  · cases h
  · rename_i s t he;cases hf : (fitN x.2.1 (N : Int) s && fitN x.2.2.1 (N : Int) t) with
    | false => rw [hf] at h; cases h
    | true =>
      rw [hf] at h;simp only [cond_true] at h;simp only [Bool.and_eq_true] at hf;have h1 := y0N h _ (List.mem_cons_self ..);have h2 := y5G (y0N h _ (List.mem_cons_of_mem _ (List.mem_cons_self ..)));have h3 := y5G (y0N h _ (List.mem_cons_of_mem _ (List.mem_cons_of_mem _ (List.mem_cons_self ..))));have hne : x.2.1 ≠ x.2.2.1 := by
        intro e;rw [show (x.2.1 == x.2.2.1) = true by simp [e]] at h1
        cases h1
      refine ⟨by rw [he]; simp,?_,?_,hne,?_,?_,h3⟩
      · rcases yA1 hf.1 with ⟨_,h⟩ | ⟨_,h⟩
        · exact .inl h
        · exact .inr h
      · rcases yA1 hf.2 with ⟨_,h⟩ | ⟨_,h⟩
        · exact .inl h
        · exact .inr h
      · rcases yA1 hf.1 with ⟨_,h⟩ | ⟨_,h⟩
        · rcases yA1 hf.2 with ⟨_,h'⟩ | ⟨_,h'⟩
          · exact absurd (h.trans h'.symm) hne
          · exact .inr (by omega)
        · exact .inl (by omega)
      · cases s
        · exact h2
        · have : (0 : Int) ≤ x.2.2.2.1 ∧ x.2.2.2.1 ≤ 0 := h2;omega
structure BasOK (b : Bas) : Prop where
  pos : 0 < b.1.length
  nodes : b.1.length ≤ 8
  links : b.2.1.length ≤ 16
  area : ∀ n ∈ b.1,1 ≤ n.2.1 ∧ n.2.1 ≤ 1000
  limit : ∀ n ∈ b.1,0 ≤ n.2.2.1 ∧ n.2.2.1 ≤ 1024
  link : ∀ x ∈ b.2.1,LinkOK x b.1.length
theorem y4d : ∀ {l done : List Nod},y2g done l = 0 → ∀ n ∈ l,(1 ≤ n.2.1 ∧ n.2.1 ≤ 1000) ∧ 0 ≤ n.2.2.1 ∧ n.2.2.1 ≤ 1024
  | [],_,_,n,hn => by simp at hn
  | m :: l,done,h,n,hn => by
    obtain ⟨h1,h2⟩ := y0d (show yx (y5m done m) (y2g (done ++ [m]) l) = 0 from h)
    rcases List.mem_cons.1 hn with rfl | hn
    · exact ⟨y5G (y0N h1 _ (by simp)),y5G (y0N h1 _ (by simp))⟩
    · exact y4d h2 n hn
theorem y15 {b : Bas} (h : yv b = 0) : BasOK b := by
  obtain ⟨h1,h2⟩ := y0d h;obtain ⟨g1,g2,g3⟩ := y68 h1;by_cases h16 : 16 < b.2.1.length
  · rw [yH h16] at h2; cases h2
  · rw [ya h16,cond_false] at h2;exact ⟨g1,g2,by omega,fun n hn => (y4d g3 n hn).1,fun n hn => (y4d g3 n hn).2,fun x hx => yCb (y0N h2 _ (List.mem_map.2 ⟨x,hx,rfl⟩))⟩
noncomputable def flo (a r : Int) : Int := bif decide (wr (wr (a.tdiv r) * r) > a) then wr (wr (a.tdiv r) - 1) else wr (a.tdiv r)
def imax (a b : Int) : Int := if b > a then b else a
def imin (a b : Int) : Int := if b < a then b else a
noncomputable def yQW (x : Lnk) (vol area tide : Int) (opn : Bool) : Int :=
  if x.1 = kB then (bif opn then imax (wr (0 - vol)) (flo (wr (wr (area * tide) - vol)) x.2.2.2.2.1) else 0)
  else if x.1 = kL then imax 0 (flo (wr (wr (area * tide) - vol)) x.2.2.2.2.1)
  else if x.1 = kO then imax 0 (flo (wr (vol - wr (area * imax tide x.2.2.2.1))) x.2.2.2.2.1)
  else if x.1 = kP then imax 0 (imin x.2.2.2.2.1 (wr (vol - wr (area * x.2.2.2.1))))
  else imax 0 (flo (wr (vol - wr (area * x.2.2.2.1))) x.2.2.2.2.1)
end Go.Tw
end
section
set_option maxRecDepth 100000
namespace Go.Tw
open Go.Vx Go.Vx.B Go.Proofs
theorem yGb {α : Type} (p : List α) (x : α) (r : List α) (i : Int) (hi : i = (p.length : Int)) : idx (p ++ x :: r) i = some x := by
  subst hi;rw [y7H];simp
theorem yMb {α : Type} (p : List α) (x y : α) (r : List α) (i : Int) (hi : i = (p.length : Int)) : (p ++ x :: r).set i.toNat y = p ++ y :: r := by
  subst hi;simp
theorem yMd {α : Type} (p : List α) (x : α) (r : List α) (i : Int) (hi : i = (p.length : Int)) : (p ++ x :: r)[i.toNat]? = some x := by
  subst hi;simp
def atL (x : Lnk) : Int := if x.2.1 = -1 then x.2.2.1 else x.2.1
noncomputable def fl (b : Bas) (c : Cnd) (x : Lnk) (out : List Int) : Int := yQW x (out.getD (atL x).toNat 0) (b.1.getD (atL x).toNat ([],0,0,())).2.1 c.1 c.2.1
end Go.Tw
end
section
set_option maxRecDepth 100000
namespace Go.Tw
open Go.Vx Go.Vx.B Go.Proofs
end Go.Tw
end
section
set_option maxRecDepth 100000
namespace Go.Tw
open Go.Vx Go.Vx.B Go.Proofs
def lvls : List Int → List Nod → List Int
  | x :: v,n :: l => wr (x.tdiv n.2.1) :: lvls v l
  | _,_ => []
theorem yDf : ∀ (v : List Int) (l : List Nod) (i : Nat) (x : Int) (n : Nod),v[i]? = some x → l[i]? = some n → (lvls v l)[i]? = some (wr (x.tdiv n.2.1))
  | y :: v,m :: l,0,x,n,hx,hn => by simp at hx hn; subst hx hn; rfl
  | y :: v,m :: l,i + 1,x,n,hx,hn => by simpa [lvls] using yDf v l i x n (by simpa using hx) (by simpa using hn)
  | [],_,i,x,n,hx,_ => by simp at hx
  | _ :: _,[],i,x,n,_,hn => by simp at hn
theorem y7k : ∀ (v : List Int) (l : List Nod),v.length = l.length → (lvls v l).length = v.length
  | [],[],_ => rfl
  | x :: v,n :: l,h => by simp [lvls,y7k v l (by simpa using h)]
  | [],_ :: _,h => by simp at h
  | _ :: _,[],h => by simp at h
theorem yAR {α β : Type} {p : α → Option β} {l : List α} (h : l.findSome? p = none) : ∀ e ∈ l,p e = none := List.findSome?_eq_none_iff.1 h
theorem yEG (b : Bas) (hn : b.1.length < lenMax) (hl : b.2.1.length < lenMax) : ∃ s,yC2 b = some (s,()) ∧ (s = true → ∀ n ∈ b.1,n.1.length ≤ 60) := by
  unfold yC2;rw [bifT (yH hn),y1u (fun n => bif decide ((n.1.length : Int) > 60) then some (false,()) else none) b.1 0 (fun i e _ => by
    unfold yGc;cases decide ((e.1.length : Int) > 60) <;> rfl)]
  cases hf : b.1.findSome? (fun n => bif decide ((n.1.length : Int) > 60) then some (false,()) else none) with
  | some y =>
    obtain ⟨n,_,hy⟩ := List.exists_of_findSome?_eq_some hf;cases hd : decide ((n.1.length : Int) > 60) with
    | true => rw [hd] at hy; cases hy; exact ⟨false,rfl,by simp⟩
    | false => rw [hd] at hy; cases hy
  | none =>
    have hall : ∀ n ∈ b.1,n.1.length ≤ 60 := fun n hn => by
      have := yAR hf n hn;by_cases hd : (n.1.length : Int) > 60
      · rw [yH hd] at this; cases this
      · omega
    show ∃ s,yEY b = some (s,()) ∧ _
    unfold yEY;rw [bifT (yH hl),y1u (fun n => bif decide ((n.1.length : Int) > 60) then some (false,()) else none) b.2.1 0 (fun i e _ => by
      unfold yGt;cases decide ((e.1.length : Int) > 60) <;> rfl)]
    cases hg : b.2.1.findSome? (fun n => bif decide ((n.1.length : Int) > 60) then some (false,()) else none) with
    | some y =>
      obtain ⟨n,_,hy⟩ := List.exists_of_findSome?_eq_some hg;cases hd : decide ((n.1.length : Int) > 60) with
      | true => rw [hd] at hy; cases hy; exact ⟨false,rfl,by simp⟩
      | false => rw [hd] at hy; cases hy
    | none => exact ⟨true,rfl,fun _ => hall⟩
theorem yKM (b : Bas) : ∃ s,yMj b = some (s,()) ∧ (s = true → b.1.length ≤ 9 ∧ b.2.1.length ≤ 17 ∧ ∀ n ∈ b.1,n.1.length ≤ 60) := by
  unfold yMj;by_cases h9 : b.1.length ≤ 9
  · rw [bifF (ya (show ¬ (b.1.length : Int) > 9 by omega))]
    by_cases h8 : b.2.1.length ≤ 8
    · rw [bifF (ya (show ¬ (b.2.1.length : Int) > 8 by omega))]
      obtain ⟨s,h1,h2⟩ := yEG b (by unfold lenMax; omega) (by unfold lenMax; omega)
      exact ⟨s,h1,fun hs => ⟨h9,by omega,h2 hs⟩⟩
    · rw [bifT (yH (show (b.2.1.length : Int) > 8 by omega))]
      by_cases h17 : b.2.1.length = 17
      · rw [bifF (show ((b.2.1.length : Int) != 17) = false by simp [h17])]
        obtain ⟨s,h1,h2⟩ := yEG b (by unfold lenMax; omega) (by unfold lenMax; omega)
        exact ⟨s,h1,fun hs => ⟨h9,by omega,h2 hs⟩⟩
      · rw [bifT (show ((b.2.1.length : Int) != 17) = true by simp; omega)]
        exact ⟨false,rfl,by simp⟩
  · rw [bifT (yH (show (b.1.length : Int) > 9 by omega))]
    exact ⟨false,rfl,by simp⟩
theorem yDk (b : Bas) (h1 : b.1.length ≤ memMax) (h2 : b.2.1.length ≤ memMax) : yMI b = some (b,()) := by
  have hm := y28;unfold yMI;rw [bifT (yH (show b.1.length < lenMax by omega)),y3l (fun n => n) b.1 0 [] (by simpa using h1) (fun i e s _ hs => by
    unfold yGs;rw [bifT (yH hs)])]
  simp only [List.map_id_fun',id_eq,List.nil_append];unfold yH0;rw [bifT (yH (show b.2.1.length < lenMax by omega)),y3l (fun n => n) b.2.1 0 [] (by simpa using h2) (fun i e s _ hs => by
    unfold yHn;rw [bifT (yH hs)])]
  simp only [List.map_id_fun',id_eq,List.nil_append];rfl
theorem yMr (l : List Int) (h : l.length ≤ memMax) : yLt l = some (l,()) := by
  unfold yLt yMl;rw [bifT (yH (show 0 + l.length ≤ memMax by omega))]
theorem y4N : yP0 = some (true,()) := by kernel_rfl
end Go.Tw
end
