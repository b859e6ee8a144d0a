import Derived.Test.YtimaoihjoojcdaaGreatDoorPX
import Derived.Test.YtimaoihjoojcdaaGreatDoorPB
import Derived.Test.YtimaoihjoojcdaaGreatDoorXB
set_option linter.all false
section
set_option maxRecDepth 1000000
namespace Go.Tw
open Go.Vx Go.Vx.B Go.S Go.SA Go.Lib
def y5W : Str := [115,116,97,116,101]
def MOVE : Str := [109,111,118,101]
def Z0 : Cha := ([],[],())
def rdL (c : List Sta × List Tra) (w : List Str) : Option (List Sta × List Tra) :=
  match w with
  | [k,a,b,d,e] => if k = y5W ∧ c.2 = [] ∧ a ≠ [] ∧ (e = [48] ∨ e = [49]) then (sgn 9 b).bind fun x => (sgn 9 d).map fun y => (c.1 ++ [(a,x,y,e == [49],())],c.2) else none
  | [k,a,b,d,e,f] => if k = MOVE ∧ b ≠ [] then (sgn 9 a).bind fun x => (sgn 9 d).bind fun y => (sgn 9 e).bind fun z => (sgn 9 f).map fun u => (c.1,c.2 ++ [(x,b,y,z,u,())]) else none
  | _ => none
def prsL (n : Nat) (c : List Sta × List Tra) : List Str → Cha × Int × Int × Unit
  | [] => (Z0,n,26,())
  | [t] => if t = [] then (if y09 (c.1,c.2,()) = 0 then ((c.1,c.2,()),0,0,()) else (Z0,n,y09 (c.1,c.2,()),())) else (Z0,n,26,())
  | l :: t :: ls => match rdL c (yg 32 l) with
    | none => (Z0,n,26,())
    | some c' => prsL (n + 1) c' (t :: ls)
def prs (s : Str) : Cha × Int × Int × Unit := prsL 0 ([],[]) (yg 10 s)
theorem y7e (n : Nat) (c : List Sta × List Tra) (l : Str) {r : List Str} (h : r ≠ []) : prsL n c (l :: r) = (match rdL c (yg 32 l) with | none => (Z0,(n : Int),26,()) | some c' => prsL (n + 1) c' r) := by
  cases r with
  | nil => exact absurd rfl h
  | cons t ls => rfl
theorem w32 {n : Int} (h1 : 0 ≤ n) (h2 : n < 2147483648) : IntKind.i32.wrap n = n := by
  unfold IntKind.wrap IntKind.bits IntKind.signed;have h3 : n % 2 ^ 32 = n := Int.emod_eq_of_lt h1 (by omega)
  simp only [h3];have h4 : ¬ (n ≥ 2 ^ (32 - 1)) := by omega
  simp [h4];omega
theorem yGV (s : Str) : zk_M (45 :: s) [45] = some (s,true,()) := by
  unfold zk_M zk_m zA_M zA_m zC_M zC_m;have e2 : (([(45 : UInt8)] : List UInt8).length : Int) = 1 := rfl;rw [e2,bT (dT (by simp only [List.length_cons]; omega)),bT (by rw [dT (by omega),dT (by simp only [List.length_cons]; omega)]; rfl)]
  rw [show (List.take (Int.toNat 1) ((45 : UInt8) :: s) == [45]) = true by rfl]
  simp only [Option.bind_some];rw [bF (by rfl),bT (by rw [dT (by omega),dT (by simp only [List.length_cons]; omega)]; rfl)]
  rfl
theorem yEE (s : Str) (h : s.head? ≠ some 45) : zk_M s [45] = some (s,false,()) := by
  unfold zk_M zk_m zA_M zA_m;have : zC_M s [45] = some (false,()) := by
    unfold zC_M zC_m;have e2 : (([(45 : UInt8)] : List UInt8).length : Int) = 1 := rfl;rw [e2];cases s with
    | nil => rw [bF (dF (by simp))]
    | cons b l =>
      rw [bT (dT (by simp only [List.length_cons]; omega)),bT (by rw [dT (by omega),dT (by simp only [List.length_cons]; omega)]; rfl)]
      simp only [List.head?_cons,ne_eq,Option.some.injEq] at h;have : (List.take (Int.toNat 1) (b :: l) == [45]) = false := by
        rw [beq_eq_false_iff_ne];intro e;have : [b] = [(45 : UInt8)] := e;simp at this;exact h this
      rw [this]
  rw [this,Option.bind_some,bT (by rfl),Option.bind_some]
theorem yCm (w : Str) (mn : Bool) (h9 : w.length ≤ 9) : ∀ (m i u : Nat),w.length ≤ i + m → i ≤ w.length → u < 10 ^ i →
    y3Z w (fun i__ s__ => y1v w mn w i__ s__) (fun s__ => y53 w mn w s__) m (i : Int) (u : Int) = (match decFrom u (w.drop i) with | some n => y53 w mn w (n : Int) | none => some (0,false,()))
  | m,i,u,hm,hi,hu => by
    by_cases hl : i = w.length
    · have e1 : w.drop i = [] := List.drop_eq_nil_of_le (by omega)
      have e2 : decide ((i : Int) < (w.length : Int)) = false := dF (by omega)
      rw [e1];cases m <;> (unfold y3Z; rw [bF e2]; rfl)
    · have hlt : i < w.length := by omega
      obtain ⟨m,rfl⟩ : ∃ k,m = k + 1 := ⟨m - 1,by omega⟩
      have hd : w.drop i = w[i] :: w.drop (i + 1) := (List.getElem_cons_drop (h := hlt)).symm;have hg : w[i]? = some w[i] := List.getElem?_eq_getElem hlt;have hub : u < 10 ^ 9 := Nat.lt_of_lt_of_le hu (Nat.pow_le_pow_right (by decide) (by omega))
      unfold y3Z;rw [bT (dT (show (i : Int) < (w.length : Int) by omega)),hd]
      simp only [decFrom];by_cases hc : w[i].toNat < 128
      · have hr := y9B hg hc;by_cases h1 : w[i].toNat < 48
        · have hb : y1v w mn w (i : Int) (u : Int) = some (.inl (0,false,())) := by
            unfold y1v;rw [hr,bT (dT (by show ((w[i].toNat : Nat) : Int) < 48; omega))]
          have hdv : digitVal w[i] = none := by unfold digitVal; rw [if_neg (by omega)]
          rw [hb,hdv];rfl
        · by_cases h2 : 57 < w[i].toNat
          · have hb : y1v w mn w (i : Int) (u : Int) = some (.inl (0,false,())) := by
              unfold y1v;rw [hr,bF (dF (by show ¬ ((w[i].toNat : Nat) : Int) < 48; omega)),bT (dT (by show ((w[i].toNat : Nat) : Int) > 57; omega))]
            have hdv : digitVal w[i] = none := by unfold digitVal; rw [if_neg (by omega)]
            rw [hb,hdv];rfl
          · have hb : y1v w mn w (i : Int) (u : Int) = some (.inr ((u * 10 + (w[i].toNat - 48) : Nat) : Int)) := by
              unfold y1v;rw [hr,bF (dF (by show ¬ ((w[i].toNat : Nat) : Int) < 48; omega)),bF (dF (by show ¬ ((w[i].toNat : Nat) : Int) > 57; omega)),bF (dF (by omega))]
              dsimp only;rw [w32 (by omega) (by omega),w64 (n := 10 * (u : Int)) (by omega) (by omega),w64 (n := (w[i].toNat : Int) - 48) (by omega) (by omega),w64 (by omega) (by omega)]
              congr 2
              omega
            have hdv : digitVal w[i] = some (w[i].toNat - 48) := by unfold digitVal; rw [if_pos (by omega)]
            rw [hb,hdv,hr];simp only [Option.bind_some];have ih := yCm w mn h9 m (i + 1) (u * 10 + (w[i].toNat - 48)) (by omega) (by omega) (by rw [Nat.pow_succ]; omega)
            rw [show ((i + 1 : Nat) : Int) = (i : Int) + 1 by omega] at ih
            exact ih
      · have hr := yBs hg (by omega)
        have hb : y1v w mn w (i : Int) (u : Int) = some (.inl (0,false,())) := by
          unfold y1v;rw [bF (dF (by omega)),bT (dT (by omega))]
        have hdv : digitVal w[i] = none := by unfold digitVal; rw [if_neg (by omega)]
        rw [hb,hdv];rfl
theorem y8V (w : Str) (mn : Bool) (hw : w.length < lenMax) : ∃ v,y3Z w (fun i__ s__ => y1v w mn w i__ s__) (fun s__ => y53 w mn w s__) w.length 0 0 = some (v,(match numb 9 w with | some n => !mn || decide (0 < n) | none => false),()) ∧
    ∀ n,numb 9 w = some n → v = if mn then -(n : Int) else n := by
  unfold numb;by_cases h0 : w.length = 0
  · have hw0 : w = [] := List.eq_nil_of_length_eq_zero h0;subst hw0;rw [if_pos (.inl rfl)];have hlp : y3Z [] (fun i__ s__ => y1v [] mn [] i__ s__) (fun s__ => y53 [] mn [] s__) 0 (0 : Int) (0 : Int) = y53 [] mn [] 0 := rfl
    cases mn with
    | false => exact ⟨0,hlp,fun n hn => by cases hn⟩
    | true => exact ⟨IntKind.i64.wrap (0 - 0),hlp,fun n hn => by cases hn⟩
  · by_cases h9 : 9 < w.length
    · rw [if_pos (.inr (.inl h9))];refine ⟨0,?_,fun n hn => by cases hn⟩
      obtain ⟨k,hk⟩ : ∃ k,w.length = k + 1 := ⟨w.length - 1,by omega⟩
      rw [hk];unfold y3Z;rw [bT (dT (by omega))]
      have hb : y1v w mn w 0 0 = some (.inl (0,false,())) := by
        unfold y1v;by_cases h1 : (yh w 0).1 < 48
        · rw [bT (dT h1)]
        · rw [bF (dF h1)];by_cases h2 : (yh w 0).1 > 57
          · rw [bT (dT h2)]
          · rw [bF (dF h2),bT (dT (by omega))]
      rw [hb];rfl
    · have hl := yCm w mn (by omega) w.length 0 0 (by omega) (Nat.zero_le _) (by decide)
      rw [show ((0 : Nat) : Int) = 0 from rfl,List.drop_zero] at hl
      rw [hl];cases w with
      | nil => simp at h0
      | cons b l =>
        have hg : idx (b :: l) (0 : Int) = some b := y3y (b :: l) 0;cases hd : decFrom 0 (b :: l) with
        | none =>
          have : (if (b :: l).length = 0 ∨ 9 < (b :: l).length ∨ 1 < (b :: l).length ∧ (b :: l).head? = some 48 then (none : Option Nat) else none) = none := by split <;> rfl
          rw [this];exact ⟨0,rfl,fun n hn => by cases hn⟩
        | some n =>
          have hlt : n < 10 ^ 9 := by
            have := decFrom_lt (b :: l) 0 n hd;have h3 : (10 : Nat) ^ (b :: l).length ≤ 10 ^ 9 := Nat.pow_le_pow_right (by decide) (by omega)
            omega
          dsimp only;unfold y53;rw [bT (by rfl)]
          by_cases h1 : (b :: l).length = 1
          · rw [bT (by rw [h1]; rfl),if_neg (by omega)]
            cases mn with
            | true =>
              rw [cond_true,w64 (by omega) (by omega)]
              refine ⟨-(n : Int),?_,fun m hm => by cases hm; rfl⟩
              show some (0 - (n : Int),decide ((n : Int) > 0),()) = some (-(n : Int),!true || decide (0 < n),())
              have e : decide ((n : Int) > 0) = decide (0 < n) := by by_cases hp : 0 < n; rw [dT hp,dT (show (n : Int) > 0 by omega)]; rw [dF hp,dF (show ¬ (n : Int) > 0 by omega)]
              rw [e,Int.zero_sub]; rfl
            | false => rw [cond_false]; exact ⟨_,rfl,fun m hm => by cases hm; rfl⟩
          · rw [bF (by rw [beq_eq_false_iff_ne]; omega),hg,Option.bind_some]
            by_cases hz : b = 48
            · subst hz;rw [if_pos (.inr (.inr ⟨by omega,rfl⟩))]
              cases mn with
              | true => rw [cond_true,bF (by rfl)]; exact ⟨_,rfl,fun m hm => by cases hm⟩
              | false => rw [cond_false]; exact ⟨_,rfl,fun m hm => by cases hm⟩
            · have hne : (((b.toNat : Nat) : Int) != 48) = true := by rw [bne_iff_ne]; intro e; exact hz (y9Q (Int.ofNat.inj e))
              rw [if_neg (by rintro (h | h | ⟨_,h⟩); exact h0 h; exact h9 h; simp only [List.head?_cons,Option.some.injEq] at h; exact hz h)]
              cases mn with
              | true =>
                rw [cond_true,bT hne,w64 (by omega) (by omega)]
                refine ⟨-(n : Int),?_,fun m hm => by cases hm; rfl⟩
                show some (0 - (n : Int),decide ((n : Int) > 0),()) = some (-(n : Int),!true || decide (0 < n),())
                have e : decide ((n : Int) > 0) = decide (0 < n) := by by_cases hp : 0 < n; rw [dT hp,dT (show (n : Int) > 0 by omega)]; rw [dF hp,dF (show ¬ (n : Int) > 0 by omega)]
                rw [e,Int.zero_sub]; rfl
              | false => rw [cond_false,hne]; exact ⟨_,rfl,fun m hm => by cases hm; rfl⟩
theorem yHL (w : Str) (hw : w.length < lenMax) : ∃ v,yCE w = some (v,(sgn 9 w).isSome,()) ∧ ∀ x,sgn 9 w = some x → v = x := by
  unfold yCE;cases w with
  | nil =>
    rw [yEE [] (by simp),Option.bind_some,bT (dT hw)]
    obtain ⟨v,h1,h2⟩ := y8V [] false hw;exact ⟨v,h1,fun x hx => by cases hx⟩
  | cons b l =>
    by_cases hb : b = 45
    · subst hb;rw [yGV,Option.bind_some];simp only [List.length_cons] at hw;rw [bT (dT (by show l.length < lenMax; omega))]
      obtain ⟨v,h1,h2⟩ := y8V l true (by omega)
      rw [yHO];refine ⟨v,h1.trans ?_,fun x hx => ?_⟩
      · cases hn : numb 9 l with
        | none => rfl
        | some n =>
          dsimp only;by_cases hp : 0 < n
          · rw [if_pos hp,dT hp]; rfl
          · rw [if_neg hp,dF hp]; rfl
      · cases hn : numb 9 l with
        | none => rw [hn] at hx; cases hx
        | some n =>
          rw [hn] at hx;dsimp only at hx;split at hx
          · cases hx;rw [h2 n hn,if_pos rfl]
          · cases hx
    · rw [yEE (b :: l) (by simpa using hb),Option.bind_some,bT (dT hw)]
      obtain ⟨v,h1,h2⟩ := y8V (b :: l) false hw;rw [yIn 9 hb];refine ⟨v,h1.trans ?_,fun x hx => ?_⟩
      · cases hn : numb 9 (b :: l) with
        | none => rfl
        | some n => rfl
      · obtain ⟨n,hn,rfl⟩ := Option.map_eq_some_iff.1 hx;rw [h2 n hn,if_neg (by decide)]
noncomputable def gv (w : Str) : Int := ((yCE w).map fun y => y.1).getD 0
theorem y60 (w : Str) (hw : w.length < lenMax) : yCE w = some (gv w,(sgn 9 w).isSome,()) := by
  obtain ⟨v,h1,_⟩ := yHL w hw;have : gv w = v := by unfold gv; rw [h1]; rfl
  rw [this,h1]
theorem y9X (w : Str) (hw : w.length < lenMax) : sgn 9 w = if (sgn 9 w).isSome then some (gv w) else none := by
  obtain ⟨v,h1,h2⟩ := yHL w hw;have : gv w = v := by unfold gv; rw [h1]; rfl
  cases hs : sgn 9 w with
  | none => rfl
  | some x => rw [this,h2 x hs]; rfl
abbrev Out := (Cha × Int × Int × Unit) ⊕ (List UInt8 × Int × List Sta × List Tra)
def bad (n : Nat) : Out := .inl (Z0,(n : Int),26,())
theorem yLH (n : Nat) (hn : n ≤ 5000) (c1 : List Sta) (c2 : List Tra) (hm : c1.length + 1 ≤ memMax) (j1 a : Str) (x y : Int) (q : Bool) (e : Str) :
    y8H 0 0 (n : Int) c1 c2 j1 a x y q e = some (if q = false ∧ (e = [48] ∨ e = [49]) then .inr (j1,((n + 1 : Nat) : Int),c1 ++ [(a,x,y,e == [49],())],c2) else bad n) := by
  unfold y8H;rw [bT (dT hm),y2N (by omega) (by omega)]
  cases q with
  | true => rw [bF (by rfl),if_neg (by rintro ⟨h,_⟩; cases h)]; rfl
  | false =>
    rw [bT (by rfl)]
    by_cases h0 : e = [48]
    · rw [bT (by rw [h0]; rfl),if_pos ⟨rfl,.inl h0⟩]; rfl
    · rw [bF (by rw [beq_eq_false_iff_ne]; exact h0)]
      by_cases h1 : e = [49]
      · rw [bF (by rw [h1]; rfl),if_pos ⟨rfl,.inr h1⟩]; rfl
      · rw [bT (by rw [Bool.not_eq_true',beq_eq_false_iff_ne]; exact h1),if_neg (by rintro ⟨_,h | h⟩; exact h0 h; exact h1 h)]; rfl
theorem yKs (n : Nat) (hn : n ≤ 5000) (c1 : List Sta) (c2 : List Tra) (hm : c1.length + 1 ≤ memMax) (j1 k a b d e : Str) (x y : Int) (q : Bool) :
    y5z 0 0 (n : Int) c1 c2 j1 ([k,a,b,d,e],()) a x q y = some (if q = false ∧ (e = [48] ∨ e = [49]) then .inr (j1,((n + 1 : Nat) : Int),c1 ++ [(a,x,y,e == [49],())],c2) else bad n) := by
  unfold y5z;rw [show idx (List.drop (Int.toNat (1 : Int)) (List.drop (Int.toNat (1 : Int)) (List.drop (Int.toNat (1 : Int)) (List.drop (Int.toNat (1 : Int)) ([k,a,b,d,e],()).1)))) (0 : Int) = some e from rfl,Option.bind_some,bT (by rfl),
    yLH n hn c1 c2 hm,yLH n hn c1 c2 hm]
  cases q with
  | true => rfl
  | false =>
    rw [cond_false];by_cases he : e = []
    · subst he; rfl
    · rw [show (e == []) = false by rw [beq_eq_false_iff_ne]; exact he]
theorem yL7 (n : Nat) (hn : n ≤ 5000) (c1 : List Sta) (c2 : List Tra) (hm : c1.length + 1 ≤ memMax) (j1 k a b d e : Str) (hd : d.length < lenMax) (x : Int) (q : Bool) :
    y6K 0 0 (n : Int) c1 c2 j1 ([k,a,b,d,e],()) a q x = some (if (q || !(sgn 9 d).isSome) = false ∧ (e = [48] ∨ e = [49]) then .inr (j1,((n + 1 : Nat) : Int),c1 ++ [(a,x,gv d,e == [49],())],c2) else bad n) := by
  unfold y6K;rw [show idx (List.drop (Int.toNat (1 : Int)) (List.drop (Int.toNat (1 : Int)) (List.drop (Int.toNat (1 : Int)) ([k,a,b,d,e],()).1))) (0 : Int) = some d from rfl,Option.bind_some,bT (by rfl),y60 d hd]
  simp only [Option.bind_some];rw [yKs n hn c1 c2 hm,yKs n hn c1 c2 hm];cases q with
  | true => rfl
  | false =>
    rw [cond_false];by_cases he : d = []
    · subst he; rfl
    · rw [bF (by rw [beq_eq_false_iff_ne]; exact he),Bool.false_or]
theorem yHD (n : Nat) (hn : n ≤ 5000) (c1 : List Sta) (c2 : List Tra) (hm : c2.length + 1 ≤ memMax) (j1 k a b d e f : Str) (hf : f.length < lenMax) (x : Int × Bool × Unit) (y z : Int) (q : Bool) :
    y4R 0 0 (n : Int) c1 c2 j1 ([k,a,b,d,e,f],()) x b y q z = some (if (q || !(sgn 9 f).isSome) = false then .inr (j1,((n + 1 : Nat) : Int),c1,c2 ++ [(x.1,b,y,z,gv f,())]) else bad n) := by
  unfold y4R;rw [show idx (List.drop (Int.toNat (1 : Int)) (List.drop (Int.toNat (1 : Int)) (List.drop (Int.toNat (1 : Int)) (List.drop (Int.toNat (1 : Int)) (List.drop (Int.toNat (1 : Int)) ([k,a,b,d,e,f],()).1))))) (0 : Int) = some f from rfl,Option.bind_some,bT (by rfl),y60 f hf]
  simp only [Option.bind_some];have hmm : ∀ A B : Option Out,(bif decide (c2.length + 1 ≤ memMax) then A else B) = A := fun A B => bT (dT hm)
  rw [hmm,hmm,y2N (by omega) (by omega)]
  cases q with
  | true => rfl
  | false =>
    rw [cond_false];by_cases he : f = []
    · subst he; rfl
    · rw [bF (by rw [beq_eq_false_iff_ne]; exact he),Bool.false_or]
      cases (sgn 9 f).isSome <;> rfl
theorem yJ6 (n : Nat) (hn : n ≤ 5000) (c1 : List Sta) (c2 : List Tra) (hm : c2.length + 1 ≤ memMax) (j1 k a b d e f : Str) (he : e.length < lenMax) (hf : f.length < lenMax) (x : Int × Bool × Unit) (y : Int) (q : Bool) :
    y4F 0 0 (n : Int) c1 c2 j1 ([k,a,b,d,e,f],()) x b q y = some (if (q || !(sgn 9 e).isSome || !(sgn 9 f).isSome) = false then .inr (j1,((n + 1 : Nat) : Int),c1,c2 ++ [(x.1,b,y,gv e,gv f,())]) else bad n) := by
  unfold y4F;rw [show idx (List.drop (Int.toNat (1 : Int)) (List.drop (Int.toNat (1 : Int)) (List.drop (Int.toNat (1 : Int)) (List.drop (Int.toNat (1 : Int)) ([k,a,b,d,e,f],()).1)))) (0 : Int) = some e from rfl,Option.bind_some,bT (by rfl),y60 e he]
  simp only [Option.bind_some];rw [yHD n hn c1 c2 hm j1 k a b d e f hf,yHD n hn c1 c2 hm j1 k a b d e f hf];cases q with
  | true => rfl
  | false =>
    rw [cond_false];by_cases h0 : e = []
    · subst h0; rfl
    · rw [bF (by rw [beq_eq_false_iff_ne]; exact h0),Bool.false_or]
theorem yIE (n : Nat) (hn : n ≤ 5000) (c1 : List Sta) (c2 : List Tra) (hm : c2.length + 1 ≤ memMax) (j1 k a b d e f : Str) (hd : d.length < lenMax) (he : e.length < lenMax) (hf : f.length < lenMax) (x : Int × Bool × Unit) (q : Bool) :
    y5d 0 0 (n : Int) c1 c2 j1 ([k,a,b,d,e,f],()) x q b = some (if (q || !(sgn 9 d).isSome || !(sgn 9 e).isSome || !(sgn 9 f).isSome) = false then .inr (j1,((n + 1 : Nat) : Int),c1,c2 ++ [(x.1,b,gv d,gv e,gv f,())]) else bad n) := by
  unfold y5d;rw [show idx (List.drop (Int.toNat (1 : Int)) (List.drop (Int.toNat (1 : Int)) (List.drop (Int.toNat (1 : Int)) ([k,a,b,d,e,f],()).1))) (0 : Int) = some d from rfl,Option.bind_some,bT (by rfl),y60 d hd]
  simp only [Option.bind_some];rw [yJ6 n hn c1 c2 hm j1 k a b d e f he hf,yJ6 n hn c1 c2 hm j1 k a b d e f he hf];cases q with
  | true => rfl
  | false =>
    rw [cond_false];by_cases h0 : d = []
    · subst h0; rfl
    · rw [bF (by rw [beq_eq_false_iff_ne]; exact h0),Bool.false_or]
theorem yHU (n : Nat) (hn : n ≤ 5000) (c1 : List Sta) (c2 : List Tra) (hm : c2.length + 1 ≤ memMax) (j1 k a b d e f : Str) (hd : d.length < lenMax) (he : e.length < lenMax) (hf : f.length < lenMax) (x : Int × Bool × Unit) (q : Bool) :
    y5K 0 0 (n : Int) c1 c2 j1 ([k,a,b,d,e,f],()) q x = some (if (q || (b == []) || !(sgn 9 d).isSome || !(sgn 9 e).isSome || !(sgn 9 f).isSome) = false then .inr (j1,((n + 1 : Nat) : Int),c1,c2 ++ [(x.1,b,gv d,gv e,gv f,())]) else bad n) := by
  unfold y5K;rw [show idx (List.drop (Int.toNat (1 : Int)) (List.drop (Int.toNat (1 : Int)) ([k,a,b,d,e,f],()).1)) (0 : Int) = some b from rfl,Option.bind_some,bT (by rfl),
    yIE n hn c1 c2 hm j1 k a b d e f hd he hf,yIE n hn c1 c2 hm j1 k a b d e f hd he hf]
  cases q <;> rfl
theorem yMk (n : Nat) (hn : n ≤ 5000) (c : List Sta × List Tra) (x j1 : Str) (hx : x.length ≤ 5000) (h1 : c.1.length ≤ 5000) (h2 : c.2.length ≤ 5000) :
    y4X 0 0 (n : Int) c.1 c.2 j1 (x ++ [10]) = some (match rdL c (yg 32 x) with | none => bad n | some c' => .inr (j1,((n + 1 : Nat) : Int),c'.1,c'.2)) := by
  have hlm : (281474976710656 : Nat) < lenMax := by decide
  have hmm : (5000 : Nat) < memMax := by decide
  have hlen : ∀ w ∈ yg 32 x,w.length < lenMax := fun w hw => by
    have := y2I 32 x w hw;omega
  unfold y4X;rw [yI7 x (by omega),Option.bind_some,bF (by rfl),yHr 32 x (by omega),Option.bind_some]
  cases hs : yg 32 x with
  | nil => exact absurd hs (y2L 32 x)
  | cons k r =>
    rw [hs] at hlen;have e0 : idx (k :: r) (0 : Int) = some k := y3y (k :: r) 0;rw [bT (by rw [dT (by omega),dT (by simp only [List.length_cons]; omega)]; rfl)]
    simp only [e0,Option.bind_some];have move : y3L 0 0 (n : Int) c.1 c.2 j1 (k :: r,()) false = some (match (match k :: r with | [k,a,b,d,e,f] => (if k = MOVE ∧ b ≠ [] then (sgn 9 a).bind fun x => (sgn 9 d).bind fun y => (sgn 9 e).bind fun z => (sgn 9 f).map fun u => (c.1,c.2 ++ [(x,b,y,z,u,())]) else none : Option (List Sta × List Tra)) | _ => none) with | none => bad n | some c' => .inr (j1,((n + 1 : Nat) : Int),c'.1,c'.2)) := by
      unfold y3L;rw [cond_false];simp only [e0,Option.bind_some];have no : y4J 0 0 (n : Int) c.1 c.2 j1 (k :: r,()) false = some (bad n) := by unfold y4J; rfl
      by_cases hk : k = MOVE
      · rw [bT (by rw [hk]; rfl)]
        have e6 : ∀ r : List Str,r.length ≠ 5 → (((((k :: r : List Str),()) : List Str × Unit).1.length : Int) == 6) = false := fun r h => by rw [beq_eq_false_iff_ne]; simp only [List.length_cons]; omega
        match r,hlen with
        | [],_ => rw [e6 _ (by simp),no]
        | [_],_ => rw [e6 _ (by simp),no]
        | [_,_],_ => rw [e6 _ (by simp),no]
        | [_,_,_],_ => rw [e6 _ (by simp),no]
        | [_,_,_,_],_ => rw [e6 _ (by simp),no]
        | _ :: _ :: _ :: _ :: _ :: _ :: r,_ => rw [e6 _ (by simp),no]
        | [a,b,d,e,f],hlen =>
          have ha := hlen a (by simp)
          have hb := hlen b (by simp)
          have hd := hlen d (by simp)
          have he := hlen e (by simp)
          have hf := hlen f (by simp)
          rw [show ((((([k,a,b,d,e,f] : List Str),()) : List Str × Unit).1.length : Int) == 6) = true from rfl]
          unfold y4J;rw [cond_true,show idx (List.drop (Int.toNat (1 : Int)) (([k,a,b,d,e,f],()) : List Str × Unit).1) (0 : Int) = some a from rfl,Option.bind_some,bT (by rfl),y60 a ha]
          simp only [Option.bind_some];rw [yHU n hn c.1 c.2 (by omega) j1 k a b d e f hd he hf,yHU n hn c.1 c.2 (by omega) j1 k a b d e f hd he hf]
          have hX : ∀ X : Bool → Option Out,(bif a == [] then X true else X (!(sgn 9 a).isSome)) = X (!(sgn 9 a).isSome) := fun X => by
            by_cases h : a = []
            · subst h; rfl
            · rw [bF (by rw [beq_eq_false_iff_ne]; exact h)]
          refine (hX fun q => some (if (q || (b == []) || !(sgn 9 d).isSome || !(sgn 9 e).isSome || !(sgn 9 f).isSome) = false then .inr (j1,((n + 1 : Nat) : Int),c.1,c.2 ++ [(gv a,b,gv d,gv e,gv f,())]) else bad n)).trans ?_
          rw [y9X a ha,y9X d hd,y9X e he,y9X f hf];by_cases hb0 : b = []
          · rw [if_neg (show ¬ (k = MOVE ∧ b ≠ []) from fun h => h.2 hb0),hb0]
            cases (sgn 9 a).isSome <;> cases (sgn 9 d).isSome <;> cases (sgn 9 e).isSome <;> cases (sgn 9 f).isSome <;> rfl
          · rw [if_pos (show k = MOVE ∧ b ≠ [] from ⟨hk,hb0⟩),show (b == []) = false by rw [beq_eq_false_iff_ne]; exact hb0]
            cases (sgn 9 a).isSome <;> cases (sgn 9 d).isSome <;> cases (sgn 9 e).isSome <;> cases (sgn 9 f).isSome <;> rfl
      · rw [bF (by rw [beq_eq_false_iff_ne]; exact hk),no]
        match r with
        | [] => rfl
        | [_] => rfl
        | [_,_] => rfl
        | [_,_,_] => rfl
        | [_,_,_,_] => rfl
        | [_,_,_,_,_] => dsimp only; rw [if_neg (fun h => hk h.1)]
        | _ :: _ :: _ :: _ :: _ :: _ :: r => rfl
    have eA : ∀ A B : Option Out,(bif k == [(115 : UInt8),116,97,116,101] then A else B) = if k = y5W then A else B := fun A B => by
      by_cases h : k = y5W
      · rw [bT (by rw [h]; rfl),if_pos h]
      · rw [bF (by rw [beq_eq_false_iff_ne]; exact h),if_neg h]
    rw [eA];by_cases hk : k = y5W
    · rw [if_pos hk];match r,hlen,move with
      | [],_,move => rw [bF (by rfl),move]; rfl
      | [_],_,move => rw [bF (by rfl),move]; rfl
      | [_,_],_,move => rw [bF (by rfl),move]; rfl
      | [_,_,_],_,move => rw [bF (by rfl),move]; rfl
      | [_,_,_,_,_],_,move => rw [bF (by rfl),move]; rfl
      | _ :: _ :: _ :: _ :: _ :: _ :: r,_,move => rw [bF (by rw [beq_eq_false_iff_ne]; simp only [List.length_cons]; omega),move]; rfl
      | [a,b,d,e],hlen,move =>
        have hb := hlen b (by simp)
        have hd := hlen d (by simp)
        rw [bT (by rfl)]
        by_cases hc : c.2 = []
        · rw [show ((c.2.length : Int) == 0) = true by rw [hc]; rfl]
          unfold y3L;rw [cond_true,show idx (List.drop (Int.toNat (1 : Int)) (([k,a,b,d,e],()) : List Str × Unit).1) (0 : Int) = some a from rfl,Option.bind_some,bT (by rfl),
            show idx (List.drop (Int.toNat (1 : Int)) (List.drop (Int.toNat (1 : Int)) (([k,a,b,d,e],()) : List Str × Unit).1)) (0 : Int) = some b from rfl,Option.bind_some,bT (by rfl),y60 b hb]
          simp only [Option.bind_some];rw [yL7 n hn c.1 c.2 (by omega) j1 k a b d e hd,yL7 n hn c.1 c.2 (by omega) j1 k a b d e hd]
          unfold rdL;dsimp only;have ea : ∀ (w : Str) (A B : Option Out),(bif w == [] then A else B) = if w = [] then A else B := fun w A B => by
            by_cases h : w = []
            · rw [bT (by rw [h]; rfl),if_pos h]
            · rw [bF (by rw [beq_eq_false_iff_ne]; exact h),if_neg h]
          rw [ea,ea];by_cases ha : a = []
          · rw [if_pos ha,if_neg (show ¬ ((true || !(sgn 9 d).isSome) = false ∧ (e = [48] ∨ e = [49])) by simp),if_neg (show ¬ (k = y5W ∧ c.2 = [] ∧ a ≠ [] ∧ (e = [48] ∨ e = [49])) from fun h => h.2.2.1 ha)]
          · rw [if_neg ha];have hX : ∀ X : Bool → Option Out,(if b = [] then X true else X (!(sgn 9 b).isSome)) = X (!(sgn 9 b).isSome) := fun X => by
              by_cases h : b = []
              · subst h; rfl
              · rw [if_neg h]
            refine (hX fun q => some (if (q || !(sgn 9 d).isSome) = false ∧ (e = [48] ∨ e = [49]) then .inr (j1,((n + 1 : Nat) : Int),c.1 ++ [(a,gv b,gv d,e == [49],())],c.2) else bad n)).trans ?_
            by_cases he : e = [48] ∨ e = [49]
            · rw [if_pos (show k = y5W ∧ c.2 = [] ∧ a ≠ [] ∧ (e = [48] ∨ e = [49]) from ⟨hk,hc,ha,he⟩),y9X d hd,y9X b hb]
              cases (sgn 9 b).isSome <;> cases (sgn 9 d).isSome <;> simp [he]
            · rw [if_neg (show ¬ (k = y5W ∧ c.2 = [] ∧ a ≠ [] ∧ (e = [48] ∨ e = [49])) from fun h => he h.2.2.2)]
              dsimp only;rw [if_neg (fun h => he h.2)]
        · rw [show ((c.2.length : Int) == 0) = false by
            rw [beq_eq_false_iff_ne];have := List.length_pos_iff.2 hc;omega,move]
          unfold rdL;dsimp only;rw [if_neg (fun h => hc h.2.1)]
    · rw [if_neg hk,move];unfold rdL;match r with
      | [] => rfl
      | [_] => rfl
      | [_,_] => rfl
      | [_,_,_] => rfl
      | [_,_,_,_] => dsimp only; rw [if_neg (fun h => hk h.1)]
      | [_,_,_,_,_] => rfl
      | _ :: _ :: _ :: _ :: _ :: _ :: r => rfl
end Go.Tw
end
section
set_option maxRecDepth 1000000
namespace Go.Tw
open Go.Vx Go.Vx.B Go.S Go.SA Go.Lib
def Inv (n : Nat) (c : List Sta × List Tra) (m : Nat) : Prop := n + m ≤ 4999 ∧ 5 * (c.1.length + c.2.length) + m ≤ 4999 ∧ (∀ x ∈ c.1,x.1.length ≤ 4999) ∧ ∀ x ∈ c.2,x.2.1.length ≤ 4999
theorem yIP {n m L : Nat} {c c' : List Sta × List Tra} {w : List Str} (h : Inv n c (L + 1 + m)) (hw : ∀ x ∈ w,x.length ≤ L) (hr : rdL c w = some c') : Inv (n + 1) c' m := by
  obtain ⟨h1,h2,h3,h4⟩ := h;unfold rdL at hr;split at hr
  · rename_i k a b d e;split at hr
    · rename_i hk;obtain ⟨x,_,hr⟩ := Option.bind_eq_some_iff.1 hr;obtain ⟨y,_,rfl⟩ := Option.map_eq_some_iff.1 hr;have hk1 := hw k (by simp)
      rw [hk.1] at hk1;have hk2 : y5W.length = 5 := rfl;have ha := hw a (by simp)
      refine ⟨by omega,by simp only [List.length_append,List.length_singleton]; omega,fun z hz => ?_,h4⟩
      rcases List.mem_append.1 hz with hz | hz
      · exact h3 z hz
      · rw [List.mem_singleton] at hz; subst hz; show a.length ≤ 4999; omega
    · cases hr
  · rename_i k a b d e f;split at hr
    · rename_i hk;obtain ⟨x,_,hr⟩ := Option.bind_eq_some_iff.1 hr;obtain ⟨y,_,hr⟩ := Option.bind_eq_some_iff.1 hr;obtain ⟨z,_,hr⟩ := Option.bind_eq_some_iff.1 hr;obtain ⟨u,_,rfl⟩ := Option.map_eq_some_iff.1 hr;have hk1 := hw k (by simp)
      rw [hk.1] at hk1;have hk2 : MOVE.length = 4 := rfl;have ha := hw b (by simp)
      refine ⟨by omega,by simp only [List.length_append,List.length_singleton]; omega,h3,fun z hz => ?_⟩
      rcases List.mem_append.1 hz with hz | hz
      · exact h4 z hz
      · rw [List.mem_singleton] at hz; subst hz; show b.length ≤ 4999; omega
    · cases hr
  · cases hr
theorem y8R : ∀ (m : Nat) (s : Str) (n : Nat) (c : List Sta × List Tra),s.length < m → Inv n c s.length →
    yDi (fun s__ => y4e 0 0 s__.1 s__.2.1 s__.2.2.1 s__.2.2.2) m (s,(n : Int),c.1,c.2) = some (prsL n c (yg 10 s))
  | 0,s,n,c,h,_ => by omega
  | m + 1,s,n,c,h,hI => by
    obtain ⟨h1,h2,h3,h4⟩ := hI;have hlm : lenMax = 9223372036854775808 := rfl;simp only [yDi];by_cases h0 : s = []
    · subst h0;have hb : y4e 0 0 [] (n : Int) c.1 c.2 = some (.inl (prsL n c (yg 10 []))) := by
        unfold y4e;rw [bF (dF (by simp)),yCe (c.1,c.2,()) (show c.1.length ≤ 1000 by omega) (show c.2.length ≤ 1000 by omega) ⟨fun x hx => by have := h3 x hx; omega,fun x hx => by have := h4 x hx; omega⟩,Option.bind_some]
        unfold yg prsL;rw [if_pos rfl];by_cases he : y09 (c.1,c.2,()) = 0
        · rw [bF (by rw [he]; rfl),if_pos he]
        · rw [bT (by rw [bne_iff_ne]; exact he),if_neg he]; rfl
      rw [hb];rfl
    · have hpos : 0 < s.length := List.length_pos_iff.2 h0;have e10 : (Int.toNat (10 : Int)).toUInt8 = 10 := rfl;rcases yAo s 10 with ⟨hi,hno⟩ | ⟨x,t,rfl,hno,hi⟩
      · have hb : y4e 0 0 s (n : Int) c.1 c.2 = some (.inl (prsL n c (yg 10 s))) := by
          unfold y4e;rw [bT (dT (by omega)),e10,hi,bF (dF (by omega))]
          unfold y4X;rw [yLw s (by omega) hno,Option.bind_some,bT (by rfl),y34 10 s hno]
          unfold prsL;rw [if_neg h0];rfl
        rw [hb];rfl
      · have hlen : (x ++ 10 :: t).length = x.length + 1 + t.length := by simp; omega
        rw [hlen] at h h1 h2;have hb : y4e 0 0 (x ++ 10 :: t) (n : Int) c.1 c.2 = some (match rdL c (yg 32 x) with | none => bad n | some c' => .inr (t,((n + 1 : Nat) : Int),c'.1,c'.2)) := by
          unfold y4e;rw [bT (dT (by omega)),e10,hi,bT (dT (by omega)),y2N (by omega) (by omega),
            bT (by rw [dT (by omega),dT (by rw [hlen]; omega)]; rfl),bT (by rw [dT (by omega),dT (by rw [hlen]; omega)]; rfl),show ((x.length : Int) + 1).toNat = x.length + 1 by omega]
          have e1 : List.drop (x.length + 1) (x ++ 10 :: t) = t := by rw [← List.drop_drop,List.drop_left]; rfl
          have e2 : List.take (x.length + 1) (x ++ 10 :: t) = x ++ [10] := by rw [show x ++ 10 :: t = (x ++ [10]) ++ t by simp,show x.length + 1 = (x ++ [10]).length by simp,List.take_left]
          rw [e1,e2];exact yMk n (by omega) c x t (by omega) (by omega) (by omega)
        rw [hb,y4I 10 x t hno,y7e n c x (y2L 10 t)];cases hr : rdL c (yg 32 x) with
        | none => rfl
        | some c' =>
          simp only [Option.bind_some];exact y8R m t (n + 1) c' (by omega) (yIP (L := x.length) ⟨h1,h2,h3,h4⟩ (fun w hw => y2I 32 x w hw) hr)
theorem inv0 (s : Str) (h : s.length ≤ 4999) : Inv 0 ([],[]) s.length := ⟨by omega,by simp; omega,(fun x hx => by cases hx),(fun x hx => by cases hx)⟩
theorem yIT (s : Str) (h : s.length ≤ 4999) : yGk s = some (prs s) := by
  unfold yGk prs;rw [bF (dF (by omega))]
  exact y8R wMax s 0 ([],[]) (by simp only [wMax]; omega) (inv0 s h)
def sgns : List Str → Option (List Int)
  | [] => some []
  | w :: r => (sgn 9 w).bind fun x => (sgns r).map fun l => x :: l
theorem y98 (w0 : List Str) : ∀ (l : List Str) (i : Int) (acc : List Int),acc.length + l.length ≤ memMax →
    yI (fun i__ e__ s__ => y6b w0 i__ e__ s__) (fun s__ => yBS w0 s__) i l acc = some (match sgns l with | some r => (acc ++ r,true,()) | none => ([],false,()))
  | [],i,acc,_ => by simp [yI,yBS,sgns]
  | w :: l,i,acc,h => by
    obtain ⟨v,hv,hx⟩ := yHK w;simp only [List.length_cons] at h;simp only [yI,sgns];cases hs : sgn 9 w with
    | none =>
      have hb : y6b w0 i w acc = some (.inl ([],false,())) := by
        unfold y6b;rw [hv,Option.bind_some,hs];rfl
      rw [hb];rfl
    | some x =>
      have hb : y6b w0 i w acc = some (.inr (acc ++ [x])) := by
        unfold y6b;rw [hv,Option.bind_some,hs,hx x hs,bF (by rfl),bT (dT (by omega))]
      rw [hb];simp only [Option.bind_some];rw [y98 w0 l (i + 1) (acc ++ [x]) (by simp; omega)]
      cases sgns l with
      | none => rfl
      | some r => simp
theorem yFE (l : List Str) (h : l.length ≤ memMax) : yFl l = some (match sgns l with | some r => (r,true,()) | none => ([],false,())) := by
  unfold yFl;have := y7n;rw [bT (dT (by omega)),y98 l l 0 [] (by simpa using h)]
  simp
theorem yJp (L : List Str) (i : Int) (l : Str) (hl : idx L i = some l) (hi : i ≠ IntKind.i64.wrap ((L.length : Int) - 1)) (hlen : l.length ≤ 5000) (c : List Sta × List Tra) (h1 : c.1.length ≤ 5000) (h2 : c.2.length ≤ 5000) :
    y4i L i c.1 c.2 = some (match rdL c (yg 32 l) with | none => .inl (Z0,i,26,()) | some c' => .inr (c'.1,c'.2)) := by
  have hmem : (5000 : Nat) < memMax := by decide
  unfold y4i;have hsp := yB3 32 l (by omega)
  rw [show (((32 : UInt8).toNat : Nat) : Int) = 32 from rfl] at hsp
  rw [bF (beq_eq_false_iff_ne.2 hi),hl,Option.bind_some,hsp,Option.bind_some];generalize yg 32 l = ws;have no6 : ∀ ws : List Str,ws.length ≠ 6 → y1r L i c.1 c.2 (ws,()) false = some (.inl (Z0,i,26,())) := fun ws h => by
    unfold y1r;rw [cond_false,bT (by rw [bne_iff_ne]; show (ws.length : Int) ≠ 6; omega)]
    rfl
  match ws with
  | [] => rw [bF (by rfl),no6 _ (by simp)]; rfl
  | [_] => rw [bF (by rfl),no6 _ (by simp)]; rfl
  | [_,_] => rw [bF (by rfl),no6 _ (by simp)]; rfl
  | [_,_,_] => rw [bF (by rfl),no6 _ (by simp)]; rfl
  | [_,_,_,_] => rw [bF (by rfl),no6 _ (by simp)]; rfl
  | _ :: _ :: _ :: _ :: _ :: _ :: _ :: r => rw [bF (by rw [beq_eq_false_iff_ne]; simp only [List.length_cons]; omega),no6 _ (by simp)]; rfl
  | [k,a,b,d,e,f] =>
    rw [bF (by rfl)]
    unfold y1r;rw [cond_false,bF (by rfl)]
    simp only [show idx [k,a,b,d,e,f] (0 : Int) = some k from rfl,show idx [k,a,b,d,e,f] (1 : Int) = some a from rfl,show idx [k,a,b,d,e,f] (2 : Int) = some b from rfl,show idx [k,a,b,d,e,f] (3 : Int) = some d from rfl,show idx [k,a,b,d,e,f] (4 : Int) = some e from rfl,show idx [k,a,b,d,e,f] (5 : Int) = some f from rfl,Option.bind_some]
    unfold rdL;dsimp only;by_cases hk : k = MOVE
    · rw [bF (by rw [hk]; rfl)]
      by_cases hb0 : b = []
      · rw [bT (by rw [hb0]; rfl),if_neg (fun h => h.2 hb0)]; rfl
      · rw [bF (by rw [beq_eq_false_iff_ne]; exact hb0),if_pos (show k = MOVE ∧ b ≠ [] from ⟨hk,hb0⟩),yFE [a,d,e,f] (by show 4 ≤ memMax; decide),Option.bind_some]
        unfold sgns sgns sgns sgns sgns;cases sgn 9 a with
        | none => rfl
        | some x =>
          cases sgn 9 d with
          | none => rfl
          | some y =>
            cases sgn 9 e with
            | none => rfl
            | some z =>
              cases sgn 9 f with
              | none => rfl
              | some u =>
                simp only [Option.bind_some,Option.map_some,Bool.not_true,cond_false,show idx [x,y,z,u] (0 : Int) = some x from rfl,show idx [x,y,z,u] (1 : Int) = some y from rfl,show idx [x,y,z,u] (2 : Int) = some z from rfl,show idx [x,y,z,u] (3 : Int) = some u from rfl]
                rw [bT (dT (by omega))]
    · rw [bT (by rw [Bool.not_eq_true',beq_eq_false_iff_ne]; exact hk),if_neg (fun h => hk h.1)]; rfl
  | [k,a,b,d,e] =>
    rw [bT (by rfl)]
    simp only [show idx [k,a,b,d,e] (0 : Int) = some k from rfl,show idx [k,a,b,d,e] (1 : Int) = some a from rfl,show idx [k,a,b,d,e] (4 : Int) = some e from rfl,Option.bind_some,no6 [k,a,b,d,e] (by simp)]
    have yes : k = y5W → a ≠ [] → e = [48] ∨ e = [49] → y1r L i c.1 c.2 ([k,a,b,d,e],()) ((c.2.length : Int) == 0) = some (match rdL c [k,a,b,d,e] with | none => .inl (Z0,i,26,()) | some c' => .inr (c'.1,c'.2)) := fun hk ha he => by
      unfold rdL;dsimp only;by_cases hc : c.2 = []
      · rw [if_pos (show k = y5W ∧ c.2 = [] ∧ a ≠ [] ∧ (e = [48] ∨ e = [49]) from ⟨hk,hc,ha,he⟩),show ((c.2.length : Int) == 0) = true by rw [hc]; rfl]
        unfold y1r;rw [cond_true,bT (by rfl),show List.drop (Int.toNat (2 : Int)) (List.take (Int.toNat (4 : Int)) (([k,a,b,d,e],()) : List Str × Unit).1) = [b,d] from rfl,yFE [b,d] (by show 2 ≤ memMax; decide),Option.bind_some]
        unfold sgns sgns sgns;cases sgn 9 b with
        | none => rfl
        | some x =>
          cases sgn 9 d with
          | none => rfl
          | some y =>
            simp only [Option.bind_some,Option.map_some,Bool.not_true,cond_false,show idx [k,a,b,d,e] (1 : Int) = some a from rfl,show idx [k,a,b,d,e] (4 : Int) = some e from rfl,show idx [x,y] (0 : Int) = some x from rfl,show idx [x,y] (1 : Int) = some y from rfl]
            rw [bT (dT (by omega))]
      · rw [if_neg (fun h => hc h.2.1),show ((c.2.length : Int) == 0) = false by
          rw [beq_eq_false_iff_ne];have := List.length_pos_iff.2 hc;omega,no6 _ (by simp)]
    by_cases hk : k = y5W
    · rw [bT (by rw [hk]; rfl)]
      by_cases ha : a = []
      · rw [bF (by rw [ha]; rfl)]
        unfold rdL;dsimp only;rw [if_neg (fun h => h.2.2.1 ha)]
      · rw [bT (by rw [Bool.not_eq_true',beq_eq_false_iff_ne]; exact ha)]
        by_cases h48 : e = [48]
        · rw [bT (by rw [h48]; rfl),yes hk ha (.inl h48)]
        · rw [bF (by rw [beq_eq_false_iff_ne]; exact h48)]
          by_cases h49 : e = [49]
          · rw [bT (by rw [h49]; rfl),yes hk ha (.inr h49)]
          · rw [bF (by rw [beq_eq_false_iff_ne]; exact h49)]
            unfold rdL;dsimp only;rw [if_neg (fun h => h.2.2.2.elim h48 h49)]
    · rw [bF (by rw [beq_eq_false_iff_ne]; exact hk)]
      unfold rdL;dsimp only;rw [if_neg (fun h => hk h.1)]
theorem y8T (L : List Str) (hL : L.length ≤ 5000) (hw : ∀ l ∈ L,l.length ≤ 4999) : ∀ (rest pre : List Str) (c : List Sta × List Tra),L = pre ++ rest → rest ≠ [] → Inv pre.length c (y1e 10 rest).length →
    y21 (fun i__ s__ => y4i L i__ s__.1 s__.2) (fun s__ => yBA L s__.1 s__.2) rest.length (pre.length : Int) (c.1,c.2) = some (prsL pre.length c rest)
  | [],_,_,_,h,_ => absurd rfl h
  | [t],pre,c,h,_,hI => by
    obtain ⟨h1,h2,h3,h4⟩ := hI;have hlast : IntKind.i64.wrap ((L.length : Int) - 1) = (pre.length : Int) := by rw [w64 (by omega) (by omega),h]; simp
    have hg : idx L (pre.length : Int) = some t := by rw [y3y,h]; simp
    simp only [List.length_singleton,y21];unfold prsL;by_cases ht : t = []
    · have hb : y4i L (pre.length : Int) c.1 c.2 = some (.inr (c.1,c.2)) := by
        unfold y4i;rw [hlast,bT (by simp),hg,Option.bind_some,bF (by rw [ht]; rfl)]
      rw [hb];simp only [Option.bind_some];unfold yBA;rw [yBC,Option.bind_some,hlast,if_pos ht];by_cases he : y09 (c.1,c.2,()) = 0
      · rw [bF (by rw [he]; rfl),if_pos he]
      · rw [bT (by rw [bne_iff_ne]; exact he),if_neg he]; rfl
    · have hb : y4i L (pre.length : Int) c.1 c.2 = some (.inl (Z0,(pre.length : Int),26,())) := by
        unfold y4i;rw [hlast,bT (by simp),hg,Option.bind_some,bT (by rw [Bool.not_eq_true',beq_eq_false_iff_ne]; exact ht)]
        rfl
      rw [hb,if_neg ht];rfl
  | l :: t :: ls,pre,c,h,_,hI => by
    have hI' := hI;obtain ⟨h1,h2,h3,h4⟩ := hI;have hg : idx L (pre.length : Int) = some l := by rw [y3y,h]; simp
    have hl := hw l (by rw [h]; simp)
    have hlast : (pre.length : Int) ≠ IntKind.i64.wrap ((L.length : Int) - 1) := by
      rw [w64 (by omega) (by omega),h]
      simp only [List.length_append,List.length_cons];omega
    rw [y6C 10 l (by simp)] at hI'
    have e : (l ++ 10 :: y1e 10 (t :: ls)).length = l.length + 1 + (y1e 10 (t :: ls)).length := by simp only [List.length_append,List.length_cons]; omega
    rw [e] at hI';rw [show (l :: t :: ls).length = (t :: ls).length + 1 from rfl]
    simp only [y21];rw [yJp L _ l hg hlast (by omega) c (by omega) (by omega),y7e _ c l (by simp)]
    cases hr : rdL c (yg 32 l) with
    | none => rfl
    | some c' =>
      simp only [Option.bind_some];have ih := y8T L hL hw (t :: ls) (pre ++ [l]) c' (by rw [h]; simp) (by simp) (by
        rw [List.length_append,List.length_singleton];exact yIP hI' (fun w hw' => y2I 32 l w hw') hr)
      simp only [List.length_append,List.length_singleton] at ih;exact ih
theorem yHf (s : Str) (h : s.length ≤ 4999) : yFp s = some (prs s) := by
  unfold yFp prs;have hsp := yB3 10 s (by simp only [memMax]; omega)
  rw [show (((10 : UInt8).toNat : Nat) : Int) = 10 from rfl] at hsp
  rw [bF (dF (by omega)),hsp,Option.bind_some]
  have hcount := y1z 10 s;have hcl : s.count 10 ≤ s.length := List.count_le_length;rw [bT (dT (show ((yg 10 s).length : Int) ≤ 9223372036854775807 by omega)),Int.sub_zero,Int.toNat_natCast]
  exact y8T (yg 10 s) (by omega) (fun l hl' => by have := y2I 10 s l hl'; omega) (yg 10 s) [] ([],[]) rfl (y2L 10 s) (by rw [y8K]; exact inv0 s h)
end Go.Tw
end
section
set_option maxRecDepth 1000000
namespace Go.Tw
open Go.Vx Go.Vx.B Go.S Go.SA Go.Lib
def lnS (x : Sta) : Str := y1e 32 [y5W,x.1,itoa x.2.1,itoa x.2.2.1,bif x.2.2.2.1 then [49] else [48]]
def lnT (x : Tra) : Str := y1e 32 [MOVE,itoa x.1,x.2.1,itoa x.2.2.1,itoa x.2.2.2.1,itoa x.2.2.2.2.1]
def ends : List Str → Str
  | [] => []
  | l :: r => l ++ 10 :: ends r
def prn (c : Cha) : Str := ends (c.1.map lnS ++ c.2.1.map lnT)
theorem yAq : ∀ (a b : List Str),ends (a ++ b) = ends a ++ ends b
  | [],b => rfl
  | l :: a,b => by simp [ends,yAq a b]
def N9 (n : Int) : Prop := n.natAbs < 10 ^ 9
theorem N9.i64 {n : Int} (h : N9 n) : I64 n := by unfold N9 at h; unfold I64; omega
theorem N9.len {n : Int} (h : N9 n) : (itoa n).length ≤ 10 := by
  have := yDA 8 n.natAbs h;unfold itoa;split
  · simp only [List.length_cons,decDigits_length]; omega
  · rw [decDigits_length,show n.toNat = n.natAbs by omega]; omega
structure SmallS (x : Sta) : Prop where
  name : x.1.length ≤ 24
  n1 : N9 x.2.1
  n2 : N9 x.2.2.1
structure SmallT (x : Tra) : Prop where
  event : x.2.1.length ≤ 24
  n1 : N9 x.1
  n2 : N9 x.2.2.1
  n3 : N9 x.2.2.2.1
  n4 : N9 x.2.2.2.2.1
theorem yHX (b : Bool) : (bif b then [(49 : UInt8)] else [48]).length = 1 := by cases b <;> rfl
theorem SmallS.len {x : Sta} (h : SmallS x) : (lnS x).length ≤ 60 := by
  have h1 := h.n1.len;have h2 := h.n2.len;have h3 := h.name;have h4 := yHX x.2.2.2.1;unfold lnS y1e y1e y1e y1e y1e;simp only [List.length_append,List.length_cons,show y5W.length = 5 from rfl]
  omega
theorem SmallT.len {x : Tra} (h : SmallT x) : (lnT x).length ≤ 74 := by
  have h1 := h.n1.len;have h2 := h.n2.len;have h3 := h.n3.len;have h4 := h.n4.len;have h5 := h.event;unfold lnT y1e y1e y1e y1e y1e y1e;simp only [List.length_append,List.length_cons,show MOVE.length = 4 from rfl]
  omega
theorem yAI {c : Nat} : ∀ {l : List Str},(∀ x ∈ l,x.length ≤ c) → (ends l).length ≤ l.length * (c + 1)
  | [],_ => by simp [ends]
  | x :: l,h => by
    have h1 := h x (List.mem_cons_self ..);have h2 := yAI (l := l) fun y hy => h y (List.mem_cons_of_mem _ hy)
    simp only [ends,List.length_append,List.length_cons,Nat.succ_mul];omega
theorem y2p {α β σ : Type} {body : Int → α → σ → Option (β ⊕ σ)} {fin : σ → Option β} (g : Str → σ) (f : α → Str) (K B : Nat) : ∀ (l : List α) (i : Int) (s : Str),
    (∀ i e s,e ∈ l → s.length ≤ B → body i e (g s) = some (.inr (g (s ++ f e ++ [10])))) → (∀ e ∈ l,(f e).length ≤ K) → s.length + l.length * (K + 1) ≤ B →
    yI body fin i l (g s) = fin (g (s ++ ends (l.map f)))
  | [],i,s,_,_,_ => by simp [yI,ends]
  | e :: l,i,s,hb,hf,hl => by
    simp only [List.length_cons,Nat.succ_mul] at hl;have h1 := hf e (List.mem_cons_self ..);simp only [yI];rw [hb i e s (List.mem_cons_self ..) (by omega)]
    simp only [Option.bind_some];rw [y2p g f K B l (i + 1) (s ++ f e ++ [10]) (fun i e s he => hb i e s (List.mem_cons_of_mem _ he)) (fun e he => hf e (List.mem_cons_of_mem _ he)) (by simp only [List.length_append,List.length_singleton]; omega)]
    simp [ends]
theorem y3F (s : Str) : (yo s).length = s.length := by simp [yo]
theorem yPH (c : Cha) (T : List Sta) (i : Int) (e : Sta) (s : Str) (he : SmallS e) (hs : s.length ≤ 1000000) (q : Str) (hq : q = bif e.2.2.2.1 then [49] else [48]) : yBt c T i (yo s) e q = some (.inr (yo (s ++ lnS e ++ [10]))) := by
  have hlen := he.len;have hmm : (1000000 : Nat) + 1000 < memMax := by decide
  have hsm : (1000000 : Nat) + 1000 < strMax := by decide
  unfold yBt;rw [y4W _ he.n1.i64,Option.bind_some,y4W _ he.n2.i64,Option.bind_some];have hj : yDC [[(115 : UInt8),116,97,116,101],e.1,itoa e.2.1,itoa e.2.2.1,q] [32] = some (lnS e,()) := by
    rw [hq];exact yFG _ (by show 5 ≤ 140737488355328; decide) (by show (lnS e).length ≤ _; omega)
  rw [hj,Option.bind_some,bT (dT (by show (lnS e).length + 1 < strMax; omega)),bT (dT (by rw [y3F]; show s.length + (lnS e ++ [10]).length ≤ memMax; simp only [List.length_append,List.length_singleton]; omega)),yEK,List.append_assoc]
theorem yJK (c : Cha) (T : List Sta) (i : Int) (e : Sta) (s : Str) (he : SmallS e) (hs : s.length ≤ 1000000) : y8N c T i e (yo s) = some (.inr (yo (s ++ lnS e ++ [10]))) := by
  unfold y8N;cases hb : e.2.2.2.1 with
  | true => exact yPH c T i e s he hs [49] (by rw [hb]; rfl)
  | false => exact yPH c T i e s he hs [48] (by rw [hb]; rfl)
theorem yJM (T : List Tra) (i : Int) (e : Tra) (s : Str) (he : SmallT e) (hs : s.length ≤ 1000000) : y9F T i e (yo s) = some (.inr (yo (s ++ lnT e ++ [10]))) := by
  have hlen := he.len;have hmm : (1000000 : Nat) + 1000 < memMax := by decide
  have hsm : (1000000 : Nat) + 1000 < strMax := by decide
  unfold y9F;rw [y4W _ he.n1.i64,Option.bind_some,y4W _ he.n2.i64,Option.bind_some,y4W _ he.n3.i64,Option.bind_some,y4W _ he.n4.i64,Option.bind_some];have hj : yDC [[(109 : UInt8),111,118,101],itoa e.1,e.2.1,itoa e.2.2.1,itoa e.2.2.2.1,itoa e.2.2.2.2.1] [32] = some (lnT e,()) := yFG _ (by show 6 ≤ 140737488355328; decide) (by show (lnT e).length ≤ _; omega)
  rw [hj,Option.bind_some,bT (dT (by show (lnT e).length + 1 < strMax; omega)),bT (dT (by rw [y3F]; show s.length + (lnT e ++ [10]).length ≤ memMax; simp only [List.length_append,List.length_singleton]; omega)),yEK,List.append_assoc]
structure SmallC (c : Cha) : Prop where
  pos : 0 < c.1.length
  sts : c.1.length ≤ 16
  tras : c.2.1.length ≤ 48
  sta : ∀ x ∈ c.1,SmallS x
  tra : ∀ x ∈ c.2.1,SmallT x
theorem yHa {c : Cha} (h : 0 < c.1.length) : 0 < (prn c).length := by
  unfold prn;cases hc : c.1 with
  | nil => rw [hc] at h; simp at h
  | cons x l => simp [ends]; omega
theorem yBz (c : Cha) (h : SmallC c) : (bif decide (List.length (c.fst) < lenMax) then yI (fun i__ e__ s__ => y8N (c) (c.fst) i__ e__ s__) (fun s__ => y7d (c) (c.fst) s__) 0 (c.fst) ([]) else none) = some (prn c,0,()) := by
  have h1 := h.sts;have h2 := h.tras;have hlm : (1000 : Nat) < lenMax := by decide
  have hN := y2p (body := fun i__ e__ s__ => y8N c c.1 i__ e__ s__) (fin := fun s__ => y7d c c.1 s__) yo lnS 60 1000000 c.1 0 [] (fun i e s he hs => yJK c c.1 i e s (h.sta e he) hs) (fun e he => (h.sta e he).len) (by simp; omega)
  rw [bT (dT (by omega))]
  refine hN.trans ?_
  show y7d c c.1 (yo ([] ++ ends (c.1.map lnS))) = _
  rw [List.nil_append];unfold y7d;have hlen := yAI (c := 60) (l := c.1.map lnS) (fun x hx => by obtain ⟨y,hy,rfl⟩ := List.mem_map.1 hx; exact (h.sta y hy).len)
  simp only [List.length_map] at hlen;have hL := y2p (body := fun i__ e__ s__ => y9F c.2.1 i__ e__ s__) (fin := fun s__ => y9u c.2.1 s__) yo lnT 74 1000000 c.2.1 0 (ends (c.1.map lnS)) (fun i e s he hs => yJM c.2.1 i e s (h.tra e he) hs) (fun e he => (h.tra e he).len) (by omega)
  rw [bT (dT (by omega))]
  refine hL.trans ?_
  have e : ends (c.1.map lnS) ++ ends (c.2.1.map lnT) = prn c := by unfold prn; rw [yAq]
  show y9u c.2.1 (yo (ends (c.1.map lnS) ++ ends (c.2.1.map lnT))) = _
  rw [e];unfold y9u;rw [bT (dT (by rw [y3F]; exact yHa h.pos)),bT (by rw [yBw,dT (by rw [y3F]; exact yHa h.pos)]; simp),yGi]
theorem y22 (n : Int) (h : I64 n) : yJZ n = some (itoa n,()) := by
  unfold yJZ yJF;rw [yMn n h];rfl
theorem yKu (c : Cha) (i : Int) (e : Sta) (s : Str) (he : SmallS e) (hs : s.length ≤ 1000000) (q : Str) (hq : q = bif e.2.2.2.1 then [49] else [48]) : yBK c s i e q = some (.inr (s ++ lnS e ++ [10])) := by
  have h1 := he.n1.len;have h2 := he.n2.len;have h3 := he.name;have h4 := yHX e.2.2.2.1;rw [← hq] at h4;have hsm : (1000000 : Nat) + 1000 < strMax := by decide
  unfold yBK;rw [y22 _ he.n1.i64,y22 _ he.n2.i64];simp only [Option.bind_some,List.length_append,List.length_cons,List.length_nil];rw [bT (dT (by omega)),bT (dT (by omega)),bT (dT (by omega)),bT (dT (by omega)),bT (dT (by omega)),bT (dT (by omega)),bT (dT (by omega)),bT (dT (by omega)),bT (dT (by omega))]
  rw [hq];simp [lnS,y1e,y5W]
theorem yKL (c : Cha) (i : Int) (e : Sta) (s : Str) (he : SmallS e) (hs : s.length ≤ 1000000) : y9S c i e s = some (.inr (s ++ lnS e ++ [10])) := by
  unfold y9S;cases hb : e.2.2.2.1 with
  | true => exact yKu c i e s he hs [49] (by rw [hb]; rfl)
  | false => exact yKu c i e s he hs [48] (by rw [hb]; rfl)
theorem yKA (c : Cha) (i : Int) (e : Tra) (s : Str) (he : SmallT e) (hs : s.length ≤ 1000000) : y9M c i e s = some (.inr (s ++ lnT e ++ [10])) := by
  have h1 := he.n1.len;have h2 := he.n2.len;have h3 := he.n3.len;have h4 := he.n4.len;have h5 := he.event;have hsm : (1000000 : Nat) + 1000 < strMax := by decide
  unfold y9M;rw [y22 _ he.n1.i64,y22 _ he.n2.i64,y22 _ he.n3.i64,y22 _ he.n4.i64];simp only [Option.bind_some,List.length_append,List.length_cons,List.length_nil];rw [bT (dT (by omega)),bT (dT (by omega)),bT (dT (by omega)),bT (dT (by omega)),bT (dT (by omega)),bT (dT (by omega)),bT (dT (by omega)),bT (dT (by omega)),bT (dT (by omega)),bT (dT (by omega)),bT (dT (by omega))]
  simp [lnT,y1e,MOVE]
theorem yIF (c : Cha) (h : SmallC c) : yG3 c = some (prn c,()) := by
  have h1 := h.sts;have h2 := h.tras;have hlm : (1000 : Nat) < lenMax := by decide
  unfold yG3;have hN := y2p (body := fun i__ e__ s__ => y9S c i__ e__ s__) (fin := fun s__ => y9Z c s__) (fun s => s) lnS 60 1000000 c.1 0 [] (fun i e s he hs => yKL c i e s (h.sta e he) hs) (fun e he => (h.sta e he).len) (by simp; omega)
  rw [bT (dT (by omega))]
  refine hN.trans ?_
  show y9Z c ([] ++ ends (c.1.map lnS)) = _
  rw [List.nil_append];unfold y9Z;have hlen := yAI (c := 60) (l := c.1.map lnS) (fun x hx => by obtain ⟨y,hy,rfl⟩ := List.mem_map.1 hx; exact (h.sta y hy).len)
  simp only [List.length_map] at hlen;have hL := y2p (body := fun i__ e__ s__ => y9M c i__ e__ s__) (fin := fun s__ => yBF c s__) (fun s => s) lnT 74 1000000 c.2.1 0 (ends (c.1.map lnS)) (fun i e s he hs => yKA c i e s (h.tra e he) hs) (fun e he => (h.tra e he).len) (by omega)
  rw [bT (dT (by omega))]
  refine hL.trans ?_
  have e : ends (c.1.map lnS) ++ ends (c.2.1.map lnT) = prn c := by unfold prn; rw [yAq]
  show yBF c (ends (c.1.map lnS) ++ ends (c.2.1.map lnT)) = _
  rw [e];rfl
theorem yEw {s : Str} (h : isNm s = true) : 0 < s.length ∧ s.length ≤ 24 := by
  unfold isNm at h;simp only [Bool.and_eq_true,decide_eq_true_eq] at h;exact h.2
theorem yKK {c : Cha} (h : y09 c = 0) : ∀ s ∈ c.1,isNm s.1 = true := by
  unfold y09 at h;split at h
  · cases h
  split at h
  · cases h
  simp only [yx] at h;intro s hs;obtain ⟨i,hi,rfl⟩ := List.mem_iff_getElem.1 hs;have := y7h c.1 [] h.1 i c.1[i] (List.getElem?_eq_getElem hi);unfold stE at this;simp only [y0I,y0n,y0D,yx] at this;have b := this.1;cases hn : isNm c.1[i].1 with
  | true => rfl
  | false => unfold nmE at b; rw [hn] at b; cases b
theorem yEs {c : Cha} (h : y09 c = 0) : SmallC c := by
  have hv := yF6 c h;have hp := hv.few;refine ⟨hv.pos,hv.few,hv.moves,fun x hx => ?_,fun x hx => ?_⟩
  · obtain ⟨i,hi,rfl⟩ := List.mem_iff_getElem.1 hx;have g := List.getElem?_eq_getElem hi;have h1 := hv.parent i _ g;have h2 := hv.initial i _ g;refine ⟨(yEw (yKK h _ (List.getElem_mem hi))).2,?_,?_⟩ <;> unfold N9 <;> omega
  · obtain ⟨h1,h2,h3,h4,h5,h6,h7,h8,h9⟩ := hv.tra x hx;refine ⟨(yEw h5).2,?_,?_,?_,?_⟩ <;> unfold N9 <;> omega
theorem yGv (c : Cha) (h1 : c.1.length ≤ 1000) (h2 : c.2.1.length ≤ 1000) (hw : yIJ c) : yDw c = some (if y09 c = 0 then (prn c,0,()) else ([],y09 c,())) := by
  unfold yDw;rw [yCe c h1 h2 hw,Option.bind_some];by_cases h : y09 c = 0
  · rw [bF (by rw [h]; rfl),if_pos h]
    exact yBz c (yEs h)
  · rw [bT (by rw [bne_iff_ne]; exact h),if_neg h]
theorem yC6 (T : List Tra) (c2 : List Sta) : ∀ (l : List Tra) (i : Int) (acc : List Tra),acc.length + l.length ≤ memMax →
    yI (fun i__ e__ s__ => y9t T c2 i__ e__ s__) (fun s__ => yBi T c2 s__) i l acc = some ((c2,acc ++ l,()),())
  | [],i,acc,_ => by simp [yI,yBi]
  | x :: l,i,acc,h => by
    simp only [List.length_cons] at h;simp only [yI];have hb : y9t T c2 i x acc = some (.inr (acc ++ [x])) := by
      unfold y9t;rw [bT (dT (by omega))]
    rw [hb];simp only [Option.bind_some];rw [yC6 T c2 l (i + 1) (acc ++ [x]) (by simp; omega)]
    simp
theorem yC2 (b : Cha) (h2 : b.2.1.length ≤ memMax) (T : List Sta) : ∀ (l : List Sta) (i : Int) (acc : List Sta),acc.length + l.length ≤ memMax →
    yI (fun i__ e__ s__ => y9D b T [] i__ e__ s__) (fun s__ => yCW b T [] s__) i l acc = some ((acc ++ l,b.2.1,()),())
  | [],i,acc,_ => by
    have := y7n;simp only [yI,yCW];rw [bT (dT (by omega)),yC6 b.2.1 acc b.2.1 0 [] (by simpa using h2)]
    simp
  | x :: l,i,acc,h => by
    simp only [List.length_cons] at h;simp only [yI];have hb : y9D b T [] i x acc = some (.inr (acc ++ [x])) := by
      unfold y9D;rw [bT (dT (by omega))]
    rw [hb];simp only [Option.bind_some];rw [yC2 b h2 T l (i + 1) (acc ++ [x]) (by simp; omega)]
    simp
theorem yNo (b : Cha) (h1 : b.1.length ≤ memMax) (h2 : b.2.1.length ≤ memMax) : yGa b = some (b,()) := by
  unfold yGa;have := y7n;rw [bT (dT (by omega)),yC2 b h2 b.1 b.1 0 [] (by simpa using h1)]
  rfl
theorem yHe (b : Cha) (h1 : b.1.length < lenMax) (h2 : b.2.1.length < lenMax) : yFm b b = some (true,()) := by
  have links : ∀ (l pre : List Tra),b.2.1 = pre ++ l → yI (fun i__ e__ s__ => y99 b b i__ e__) (fun s__ => yEN b b) (pre.length : Int) l () = some (true,()) := by
    intro l;induction l with
    | nil => intro pre _; rfl
    | cons x l ih =>
      intro pre h;simp only [yI];have hg : idx b.2.1 (pre.length : Int) = some x := by rw [y3y,h]; simp
      have hb : y99 b b (pre.length : Int) x = some (.inr ()) := by
        unfold y99;rw [hg,Option.bind_some,bF (by simp [eqV])]
      rw [hb];simp only [Option.bind_some];have := ih (pre ++ [x]) (by rw [h]; simp)
      rw [show ((pre ++ [x]).length : Int) = (pre.length : Int) + 1 by simp] at this
      exact this
  have nodes : ∀ (l pre : List Sta),b.1 = pre ++ l → yI (fun i__ e__ s__ => y9j b b i__ e__) (fun s__ => yB7 b b) (pre.length : Int) l () = some (true,()) := by
    intro l;induction l with
    | nil =>
      intro pre _;simp only [yI];unfold yB7;rw [bT (dT h2)];exact links b.2.1 [] rfl
    | cons x l ih =>
      intro pre h;simp only [yI];have hg : idx b.1 (pre.length : Int) = some x := by rw [y3y,h]; simp
      have hb : y9j b b (pre.length : Int) x = some (.inr ()) := by
        unfold y9j;rw [hg,Option.bind_some,bF (by simp [eqV])]
      rw [hb];simp only [Option.bind_some];have := ih (pre ++ [x]) (by rw [h]; simp)
      rw [show ((pre ++ [x]).length : Int) = (pre.length : Int) + 1 by simp] at this
      exact this
  unfold yFm;rw [bF (by simp),bF (by simp),bT (dT h1)]
  exact nodes b.1 [] rfl
theorem yIy : ∀ (ls : List Str) (n : Nat) (c : List Sta × List Tra),(prsL n c ls).1 = Z0 ∨ y09 (prsL n c ls).1 = 0
  | [],n,c => .inl rfl
  | [t],n,c => by
    unfold prsL;split
    · split
      · rename_i h; exact .inr h
      · exact .inl rfl
    · exact .inl rfl
  | l :: t :: ls,n,c => by
    rw [y7e n c l (by simp)]
    split
    · exact .inl rfl
    · exact yIy (t :: ls) (n + 1) _
theorem yJP (s : Str) : (prs s).1.1.length ≤ 16 ∧ (prs s).1.2.1.length ≤ 48 := by
  rcases yIy (yg 10 s) 0 ([],[]) with h | h
  · have : (prs s).1 = Z0 := h;rw [this];exact ⟨Nat.zero_le _,Nat.zero_le _⟩
  · have hv := yF6 _ h;exact ⟨hv.few,hv.moves⟩
theorem yIZ (c : Cha) (hc : Sh c) : yDw c = some (if y09 c = 0 then (prn c,0,()) else ([],y09 c,())) :=
  yGv c (by have := hc.sts; omega) (by have := hc.tras; omega) hc.words
theorem yJi (c : Cha) (s : Str) : zz_M c s = some (true,()) := by
  obtain ⟨sh,h1,h2⟩ := yJd c;unfold zz_M zz_m;rw [yGm,Option.bind_some,bF (by rfl),h1,Option.bind_some]
  cases sh with
  | false => rw [bT (by rfl)]; rfl
  | true =>
    have hc := h2 rfl;rw [bF (by rfl)]
    by_cases hl : (s.length : Int) > 400
    · rw [bT (dT hl)]; rfl
    · have hmm : (5000 : Nat) < memMax := by decide
      have hlm : (5000 : Nat) < lenMax := by decide
      have hz := yJP s;have fin : ∀ t : Str,y76 0 s (t,y09 c,()) (prs s) (y09 c,()) t = some (true,()) := fun t => by
        unfold y76;rw [yHf s (by omega),Option.bind_some,bT (by simp),bT (by simp)]
        have ht := yNo ((prs s).1.1,(prs s).1.2.1,()) (by show (prs s).1.1.length ≤ _; omega) (by show (prs s).1.2.1.length ≤ _; omega)
        have hsame := yHe ((prs s).1.1,(prs s).1.2.1,()) (by show (prs s).1.1.length < _; omega) (by show (prs s).1.2.1.length < _; omega)
        rw [ht,Option.bind_some,hsame,Option.bind_some,bT (by rfl),bT (by simp)]
        simp
      rw [bF (dF hl),yKf c hc,Option.bind_some,yIZ c hc,Option.bind_some,yIT s (by omega),Option.bind_some,yBC,Option.bind_some]
      by_cases h0 : y09 c = 0
      · rw [bT (by rw [h0]; rfl),yIF c (yEs h0),Option.bind_some,if_pos h0]
        have := fin (prn c);rw [h0] at this ⊢;exact this
      · rw [bF (by rw [beq_eq_false_iff_ne]; exact h0),if_neg h0]
        exact fin []
end Go.Tw
end
