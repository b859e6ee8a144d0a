import Derived.Test.YtimaoihjoojcdaaGreatDoorPX
import Derived.Test.YtimaoihjoojcdaaGreatDoorPB
import Derived.Test.YtimaoihjoojcdaaGreatDoorXB
set_option linter.all false
section
set_option maxRecDepth 1000000
namespace Go.Tw
open Go.Vx Go.Vx.B Go.S Go.SA Go.Lib
def y5U : Str := [115,116,97,116,101]
def MOVE : Str := [109,111,118,101]
def Z0 : Cha := ([],[],())
def rdL (c : List Sta × List Tra) (w : List Str) : Option (List Sta × List Tra) :=
  match w with
  | [k,a,b,d,e] => if k = y5U ∧ c.2 = [] ∧ a ≠ [] ∧ (e = [48] ∨ e = [49]) then (sgn 9 b).bind fun x => (sgn 9 d).map fun y => (c.1 ++ [(a,x,y,e == [49],())],c.2) else none
  | [k,a,b,d,e,f] => if k = MOVE ∧ b ≠ [] then (sgn 9 a).bind fun x => (sgn 9 d).bind fun y => (sgn 9 e).bind fun z => (sgn 9 f).map fun u => (c.1,c.2 ++ [(x,b,y,z,u,())]) else none
  | _ => none
def prsL (n : Nat) (c : List Sta × List Tra) : List Str → Cha × Int × Int × Unit
  | [] => (Z0,n,26,())
  | [t] => if t = [] then (if yk (c.1,c.2,()) = 0 then ((c.1,c.2,()),0,0,()) else (Z0,n,yk (c.1,c.2,()),())) else (Z0,n,26,())
  | l :: t :: ls => match rdL c (yf 32 l) with
    | none => (Z0,n,26,())
    | some c' => prsL (n + 1) c' (t :: ls)
def prs (s : Str) : Cha × Int × Int × Unit := prsL 0 ([],[]) (yf 10 s)
theorem y5W (n : Nat) (c : List Sta × List Tra) (l : Str) {r : List Str} (h : r ≠ []) : prsL n c (l :: r) = (match rdL c (yf 32 l) with | none => (Z0,(n : Int),26,()) | some c' => prsL (n + 1) c' r) := by
  cases r with
  | nil => exact absurd rfl h
  | cons t ls => rfl
theorem w32 {n : Int} (h1 : 0 ≤ n) (h2 : n < 2147483648) : IntKind.i32.wrap n = n := by
  unfold IntKind.wrap IntKind.bits IntKind.signed;have h3 : n % 2 ^ 32 = n := Int.emod_eq_of_lt h1 (by omega)
  simp only [h3];have h4 : ¬ (n ≥ 2 ^ (32 - 1)) := by omega
  simp [h4];omega
theorem yG5 (s : Str) : zk_M (45 :: s) [45] = some (s,true,()) := by
  unfold zk_M zk_m zA_M zA_m zC_M zC_m;have e2 : (([(45 : UInt8)] : List UInt8).length : Int) = 1 := rfl;rw [e2,bT (dT (by simp only [List.length_cons]; omega)),bT (by rw [dT (by omega),dT (by simp only [List.length_cons]; omega)]; rfl)]
  rw [show (List.take (Int.toNat 1) ((45 : UInt8) :: s) == [45]) = true by rfl]
  simp only [Option.bind_some];rw [bF (by rfl),bT (by rw [dT (by omega),dT (by simp only [List.length_cons]; omega)]; rfl)]
  rfl
theorem yEw (s : Str) (h : s.head? ≠ some 45) : zk_M s [45] = some (s,false,()) := by
  unfold zk_M zk_m zA_M zA_m;have : zC_M s [45] = some (false,()) := by
    unfold zC_M zC_m;have e2 : (([(45 : UInt8)] : List UInt8).length : Int) = 1 := rfl;rw [e2];cases s with
    | nil => rw [bF (dF (by simp))]
    | cons b l =>
      rw [bT (dT (by simp only [List.length_cons]; omega)),bT (by rw [dT (by omega),dT (by simp only [List.length_cons]; omega)]; rfl)]
      simp only [List.head?_cons,ne_eq,Option.some.injEq] at h;have : (List.take (Int.toNat 1) (b :: l) == [45]) = false := by
        rw [beq_eq_false_iff_ne];intro e;have : [b] = [(45 : UInt8)] := e;simp at this;exact h this
      rw [this]
  rw [this,Option.bind_some,bT (by rfl),Option.bind_some]
theorem yCA (w : Str) (mn : Bool) (h9 : w.length ≤ 9) : ∀ (m i u : Nat),w.length ≤ i + m → i ≤ w.length → u < 10 ^ i →
    y3W w (fun i__ s__ => y1u w mn w i__ s__) (fun s__ => y5Q w mn w s__) m (i : Int) (u : Int) = (match decFrom u (w.drop i) with | some n => y5Q w mn w (n : Int) | none => some (0,false,()))
  | m,i,u,hm,hi,hu => by
    by_cases hl : i = w.length
    · have e1 : w.drop i = [] := List.drop_eq_nil_of_le (by omega)
      have e2 : decide ((i : Int) < (w.length : Int)) = false := dF (by omega)
      rw [e1];cases m <;> (unfold y3W; rw [bF e2]; rfl)
    · have hlt : i < w.length := by omega
      obtain ⟨m,rfl⟩ : ∃ k,m = k + 1 := ⟨m - 1,by omega⟩
      have hd : w.drop i = w[i] :: w.drop (i + 1) := (List.getElem_cons_drop (h := hlt)).symm;have hg : w[i]? = some w[i] := List.getElem?_eq_getElem hlt;have hub : u < 10 ^ 9 := Nat.lt_of_lt_of_le hu (Nat.pow_le_pow_right (by decide) (by omega))
      unfold y3W;rw [bT (dT (show (i : Int) < (w.length : Int) by omega)),hd]
      simp only [decFrom];by_cases hc : w[i].toNat < 128
      · have hr := y9c hg hc;by_cases h1 : w[i].toNat < 48
        · have hb : y1u w mn w (i : Int) (u : Int) = some (.inl (0,false,())) := by
            unfold y1u;rw [hr,bT (dT (by show ((w[i].toNat : Nat) : Int) < 48; omega))]
          have hdv : digitVal w[i] = none := by unfold digitVal; rw [if_neg (by omega)]
          rw [hb,hdv];rfl
        · by_cases h2 : 57 < w[i].toNat
          · have hb : y1u w mn w (i : Int) (u : Int) = some (.inl (0,false,())) := by
              unfold y1u;rw [hr,bF (dF (by show ¬ ((w[i].toNat : Nat) : Int) < 48; omega)),bT (dT (by show ((w[i].toNat : Nat) : Int) > 57; omega))]
            have hdv : digitVal w[i] = none := by unfold digitVal; rw [if_neg (by omega)]
            rw [hb,hdv];rfl
          · have hb : y1u w mn w (i : Int) (u : Int) = some (.inr ((u * 10 + (w[i].toNat - 48) : Nat) : Int)) := by
              unfold y1u;rw [hr,bF (dF (by show ¬ ((w[i].toNat : Nat) : Int) < 48; omega)),bF (dF (by show ¬ ((w[i].toNat : Nat) : Int) > 57; omega)),bF (dF (by omega))]
              dsimp only;rw [w32 (by omega) (by omega),w64 (n := 10 * (u : Int)) (by omega) (by omega),w64 (n := (w[i].toNat : Int) - 48) (by omega) (by omega),w64 (by omega) (by omega)]
              congr 2
              omega
            have hdv : digitVal w[i] = some (w[i].toNat - 48) := by unfold digitVal; rw [if_pos (by omega)]
            rw [hb,hdv,hr];simp only [Option.bind_some];have ih := yCA w mn h9 m (i + 1) (u * 10 + (w[i].toNat - 48)) (by omega) (by omega) (by rw [Nat.pow_succ]; omega)
            rw [show ((i + 1 : Nat) : Int) = (i : Int) + 1 by omega] at ih
            exact ih
      · have hr := yCH hg (by omega)
        have hb : y1u w mn w (i : Int) (u : Int) = some (.inl (0,false,())) := by
          unfold y1u;rw [bF (dF (by omega)),bT (dT (by omega))]
        have hdv : digitVal w[i] = none := by unfold digitVal; rw [if_neg (by omega)]
        rw [hb,hdv];rfl
theorem y7v (w : Str) (mn : Bool) (hw : w.length < lenMax) : ∃ v,y3W w (fun i__ s__ => y1u w mn w i__ s__) (fun s__ => y5Q w mn w s__) w.length 0 0 = some (v,(match numb 9 w with | some n => !mn || decide (0 < n) | none => false),()) ∧
    ∀ n,numb 9 w = some n → v = if mn then -(n : Int) else n := by
  unfold numb;by_cases h0 : w.length = 0
  · have hw0 : w = [] := List.eq_nil_of_length_eq_zero h0;subst hw0;rw [if_pos (.inl rfl)];have hlp : y3W [] (fun i__ s__ => y1u [] mn [] i__ s__) (fun s__ => y5Q [] mn [] s__) 0 (0 : Int) (0 : Int) = y5Q [] mn [] 0 := rfl
    cases mn with
    | false => exact ⟨0,hlp,fun n hn => by cases hn⟩
    | true => exact ⟨IntKind.i64.wrap (0 - 0),hlp,fun n hn => by cases hn⟩
  · by_cases h9 : 9 < w.length
    · rw [if_pos (.inr (.inl h9))];refine ⟨0,?_,fun n hn => by cases hn⟩
      obtain ⟨k,hk⟩ : ∃ k,w.length = k + 1 := ⟨w.length - 1,by omega⟩
      rw [hk];unfold y3W;rw [bT (dT (by omega))]
      have hb : y1u w mn w 0 0 = some (.inl (0,false,())) := by
        unfold y1u;by_cases h1 : (yg w 0).1 < 48
        · rw [bT (dT h1)]
        · rw [bF (dF h1)];by_cases h2 : (yg w 0).1 > 57
          · rw [bT (dT h2)]
          · rw [bF (dF h2),bT (dT (by omega))]
      rw [hb];rfl
    · have hl := yCA w mn (by omega) w.length 0 0 (by omega) (Nat.zero_le _) (by decide)
      rw [show ((0 : Nat) : Int) = 0 from rfl,List.drop_zero] at hl
      rw [hl];cases w with
      | nil => simp at h0
      | cons b l =>
        have hg : idx (b :: l) (0 : Int) = some b := yBk (b :: l) 0;cases hd : decFrom 0 (b :: l) with
        | none =>
          have : (if (b :: l).length = 0 ∨ 9 < (b :: l).length ∨ 1 < (b :: l).length ∧ (b :: l).head? = some 48 then (none : Option Nat) else none) = none := by split <;> rfl
          rw [this];exact ⟨0,rfl,fun n hn => by cases hn⟩
        | some n =>
          have hlt : n < 10 ^ 9 := by
            have := decFrom_lt (b :: l) 0 n hd;have h3 : (10 : Nat) ^ (b :: l).length ≤ 10 ^ 9 := Nat.pow_le_pow_right (by decide) (by omega)
            omega
          dsimp only;unfold y5Q;rw [bT (by rfl)]
          by_cases h1 : (b :: l).length = 1
          · rw [bT (by rw [h1]; rfl),if_neg (by omega)]
            cases mn with
            | true =>
              rw [cond_true,w64 (by omega) (by omega)]
              refine ⟨-(n : Int),?_,fun m hm => by cases hm; rfl⟩
              show some (0 - (n : Int),decide ((n : Int) > 0),()) = some (-(n : Int),!true || decide (0 < n),())
              have e : decide ((n : Int) > 0) = decide (0 < n) := by by_cases hp : 0 < n; rw [dT hp,dT (show (n : Int) > 0 by omega)]; rw [dF hp,dF (show ¬ (n : Int) > 0 by omega)]
              rw [e,Int.zero_sub]; rfl
            | false => rw [cond_false]; exact ⟨_,rfl,fun m hm => by cases hm; rfl⟩
          · rw [bF (by rw [beq_eq_false_iff_ne]; omega),hg,Option.bind_some]
            by_cases hz : b = 48
            · subst hz;rw [if_pos (.inr (.inr ⟨by omega,rfl⟩))]
              cases mn with
              | true => rw [cond_true,bF (by rfl)]; exact ⟨_,rfl,fun m hm => by cases hm⟩
              | false => rw [cond_false]; exact ⟨_,rfl,fun m hm => by cases hm⟩
            · have hne : (((b.toNat : Nat) : Int) != 48) = true := by rw [bne_iff_ne]; intro e; exact hz (yHC (Int.ofNat.inj e))
              rw [if_neg (by rintro (h | h | ⟨_,h⟩); exact h0 h; exact h9 h; simp only [List.head?_cons,Option.some.injEq] at h; exact hz h)]
              cases mn with
              | true =>
                rw [cond_true,bT hne,w64 (by omega) (by omega)]
                refine ⟨-(n : Int),?_,fun m hm => by cases hm; rfl⟩
                show some (0 - (n : Int),decide ((n : Int) > 0),()) = some (-(n : Int),!true || decide (0 < n),())
                have e : decide ((n : Int) > 0) = decide (0 < n) := by by_cases hp : 0 < n; rw [dT hp,dT (show (n : Int) > 0 by omega)]; rw [dF hp,dF (show ¬ (n : Int) > 0 by omega)]
                rw [e,Int.zero_sub]; rfl
              | false => rw [cond_false,hne]; exact ⟨_,rfl,fun m hm => by cases hm; rfl⟩
theorem yH0 (w : Str) (hw : w.length < lenMax) : ∃ v,yBM w = some (v,(sgn 9 w).isSome,()) ∧ ∀ x,sgn 9 w = some x → v = x := by
  unfold yBM;cases w with
  | nil =>
    rw [yEw [] (by simp),Option.bind_some,bT (dT hw)]
    obtain ⟨v,h1,h2⟩ := y7v [] false hw;exact ⟨v,h1,fun x hx => by cases hx⟩
  | cons b l =>
    by_cases hb : b = 45
    · subst hb;rw [yG5,Option.bind_some];simp only [List.length_cons] at hw;rw [bT (dT (by show l.length < lenMax; omega))]
      obtain ⟨v,h1,h2⟩ := y7v l true (by omega)
      rw [yCw];refine ⟨v,h1.trans ?_,fun x hx => ?_⟩
      · cases hn : numb 9 l with
        | none => rfl
        | some n =>
          dsimp only;by_cases hp : 0 < n
          · rw [if_pos hp,dT hp]; rfl
          · rw [if_neg hp,dF hp]; rfl
      · cases hn : numb 9 l with
        | none => rw [hn] at hx; cases hx
        | some n =>
          rw [hn] at hx;dsimp only at hx;split at hx
          · cases hx;rw [h2 n hn,if_pos rfl]
          · cases hx
    · rw [yEw (b :: l) (by simpa using hb),Option.bind_some,bT (dT hw)]
      obtain ⟨v,h1,h2⟩ := y7v (b :: l) false hw;rw [yCk 9 hb];refine ⟨v,h1.trans ?_,fun x hx => ?_⟩
      · cases hn : numb 9 (b :: l) with
        | none => rfl
        | some n => rfl
      · obtain ⟨n,hn,rfl⟩ := Option.map_eq_some_iff.1 hx;rw [h2 n hn,if_neg (by decide)]
noncomputable def gv (w : Str) : Int := ((yBM w).map fun y => y.1).getD 0
theorem y66 (w : Str) (hw : w.length < lenMax) : yBM w = some (gv w,(sgn 9 w).isSome,()) := by
  obtain ⟨v,h1,_⟩ := yH0 w hw;have : gv w = v := by unfold gv; rw [h1]; rfl
  rw [this,h1]
theorem y9N (w : Str) (hw : w.length < lenMax) : sgn 9 w = if (sgn 9 w).isSome then some (gv w) else none := by
  obtain ⟨v,h1,h2⟩ := yH0 w hw;have : gv w = v := by unfold gv; rw [h1]; rfl
  cases hs : sgn 9 w with
  | none => rfl
  | some x => rw [this,h2 x hs]; rfl
abbrev Out := (Cha × Int × Int × Unit) ⊕ (List UInt8 × Int × List Sta × List Tra)
def bad (n : Nat) : Out := .inl (Z0,(n : Int),26,())
theorem yLg (n : Nat) (hn : n ≤ 5000) (c1 : List Sta) (c2 : List Tra) (hm : c1.length + 1 ≤ memMax) (j1 a : Str) (x y : Int) (q : Bool) (e : Str) :
    y8i 0 0 (n : Int) c1 c2 j1 a x y q e = some (if q = false ∧ (e = [48] ∨ e = [49]) then .inr (j1,((n + 1 : Nat) : Int),c1 ++ [(a,x,y,e == [49],())],c2) else bad n) := by
  unfold y8i;rw [bT (dT hm),y4A (by omega) (by omega)]
  cases q with
  | true => rw [bF (by rfl),if_neg (by rintro ⟨h,_⟩; cases h)]; rfl
  | false =>
    rw [bT (by rfl)]
    by_cases h0 : e = [48]
    · rw [bT (by rw [h0]; rfl),if_pos ⟨rfl,.inl h0⟩]; rfl
    · rw [bF (by rw [beq_eq_false_iff_ne]; exact h0)]
      by_cases h1 : e = [49]
      · rw [bF (by rw [h1]; rfl),if_pos ⟨rfl,.inr h1⟩]; rfl
      · rw [bT (by rw [Bool.not_eq_true',beq_eq_false_iff_ne]; exact h1),if_neg (by rintro ⟨_,h | h⟩; exact h0 h; exact h1 h)]; rfl
theorem yLZ (n : Nat) (hn : n ≤ 5000) (c1 : List Sta) (c2 : List Tra) (hm : c1.length + 1 ≤ memMax) (j1 k a b d e : Str) (x y : Int) (q : Bool) :
    y5w 0 0 (n : Int) c1 c2 j1 ([k,a,b,d,e],()) a x q y = some (if q = false ∧ (e = [48] ∨ e = [49]) then .inr (j1,((n + 1 : Nat) : Int),c1 ++ [(a,x,y,e == [49],())],c2) else bad n) := by
  unfold y5w;rw [show idx (List.drop (Int.toNat (1 : Int)) (List.drop (Int.toNat (1 : Int)) (List.drop (Int.toNat (1 : Int)) (List.drop (Int.toNat (1 : Int)) ([k,a,b,d,e],()).1)))) (0 : Int) = some e from rfl,Option.bind_some,bT (by rfl),
    yLg n hn c1 c2 hm,yLg n hn c1 c2 hm]
  cases q with
  | true => rfl
  | false =>
    rw [cond_false];by_cases he : e = []
    · subst he; rfl
    · rw [show (e == []) = false by rw [beq_eq_false_iff_ne]; exact he]
theorem yL7 (n : Nat) (hn : n ≤ 5000) (c1 : List Sta) (c2 : List Tra) (hm : c1.length + 1 ≤ memMax) (j1 k a b d e : Str) (hd : d.length < lenMax) (x : Int) (q : Bool) :
    y62 0 0 (n : Int) c1 c2 j1 ([k,a,b,d,e],()) a q x = some (if (q || !(sgn 9 d).isSome) = false ∧ (e = [48] ∨ e = [49]) then .inr (j1,((n + 1 : Nat) : Int),c1 ++ [(a,x,gv d,e == [49],())],c2) else bad n) := by
  unfold y62;rw [show idx (List.drop (Int.toNat (1 : Int)) (List.drop (Int.toNat (1 : Int)) (List.drop (Int.toNat (1 : Int)) ([k,a,b,d,e],()).1))) (0 : Int) = some d from rfl,Option.bind_some,bT (by rfl),y66 d hd]
  simp only [Option.bind_some];rw [yLZ n hn c1 c2 hm,yLZ n hn c1 c2 hm];cases q with
  | true => rfl
  | false =>
    rw [cond_false];by_cases he : d = []
    · subst he; rfl
    · rw [bF (by rw [beq_eq_false_iff_ne]; exact he),Bool.false_or]
theorem yIY (n : Nat) (hn : n ≤ 5000) (c1 : List Sta) (c2 : List Tra) (hm : c2.length + 1 ≤ memMax) (j1 k a b d e f : Str) (hf : f.length < lenMax) (x : Int × Bool × Unit) (y z : Int) (q : Bool) :
    y4V 0 0 (n : Int) c1 c2 j1 ([k,a,b,d,e,f],()) x b y q z = some (if (q || !(sgn 9 f).isSome) = false then .inr (j1,((n + 1 : Nat) : Int),c1,c2 ++ [(x.1,b,y,z,gv f,())]) else bad n) := by
  unfold y4V;rw [show idx (List.drop (Int.toNat (1 : Int)) (List.drop (Int.toNat (1 : Int)) (List.drop (Int.toNat (1 : Int)) (List.drop (Int.toNat (1 : Int)) (List.drop (Int.toNat (1 : Int)) ([k,a,b,d,e,f],()).1))))) (0 : Int) = some f from rfl,Option.bind_some,bT (by rfl),y66 f hf]
  simp only [Option.bind_some];have hmm : ∀ A B : Option Out,(bif decide (c2.length + 1 ≤ memMax) then A else B) = A := fun A B => bT (dT hm)
  rw [hmm,hmm,y4A (by omega) (by omega)]
  cases q with
  | true => rfl
  | false =>
    rw [cond_false];by_cases he : f = []
    · subst he; rfl
    · rw [bF (by rw [beq_eq_false_iff_ne]; exact he),Bool.false_or]
      cases (sgn 9 f).isSome <;> rfl
theorem yHP (n : Nat) (hn : n ≤ 5000) (c1 : List Sta) (c2 : List Tra) (hm : c2.length + 1 ≤ memMax) (j1 k a b d e f : Str) (he : e.length < lenMax) (hf : f.length < lenMax) (x : Int × Bool × Unit) (y : Int) (q : Bool) :
    y4C 0 0 (n : Int) c1 c2 j1 ([k,a,b,d,e,f],()) x b q y = some (if (q || !(sgn 9 e).isSome || !(sgn 9 f).isSome) = false then .inr (j1,((n + 1 : Nat) : Int),c1,c2 ++ [(x.1,b,y,gv e,gv f,())]) else bad n) := by
  unfold y4C;rw [show idx (List.drop (Int.toNat (1 : Int)) (List.drop (Int.toNat (1 : Int)) (List.drop (Int.toNat (1 : Int)) (List.drop (Int.toNat (1 : Int)) ([k,a,b,d,e,f],()).1)))) (0 : Int) = some e from rfl,Option.bind_some,bT (by rfl),y66 e he]
  simp only [Option.bind_some];rw [yIY n hn c1 c2 hm j1 k a b d e f hf,yIY n hn c1 c2 hm j1 k a b d e f hf];cases q with
  | true => rfl
  | false =>
    rw [cond_false];by_cases h0 : e = []
    · subst h0; rfl
    · rw [bF (by rw [beq_eq_false_iff_ne]; exact h0),Bool.false_or]
theorem yIR (n : Nat) (hn : n ≤ 5000) (c1 : List Sta) (c2 : List Tra) (hm : c2.length + 1 ≤ memMax) (j1 k a b d e f : Str) (hd : d.length < lenMax) (he : e.length < lenMax) (hf : f.length < lenMax) (x : Int × Bool × Unit) (q : Bool) :
    y5A 0 0 (n : Int) c1 c2 j1 ([k,a,b,d,e,f],()) x q b = some (if (q || !(sgn 9 d).isSome || !(sgn 9 e).isSome || !(sgn 9 f).isSome) = false then .inr (j1,((n + 1 : Nat) : Int),c1,c2 ++ [(x.1,b,gv d,gv e,gv f,())]) else bad n) := by
  unfold y5A;rw [show idx (List.drop (Int.toNat (1 : Int)) (List.drop (Int.toNat (1 : Int)) (List.drop (Int.toNat (1 : Int)) ([k,a,b,d,e,f],()).1))) (0 : Int) = some d from rfl,Option.bind_some,bT (by rfl),y66 d hd]
  simp only [Option.bind_some];rw [yHP n hn c1 c2 hm j1 k a b d e f he hf,yHP n hn c1 c2 hm j1 k a b d e f he hf];cases q with
  | true => rfl
  | false =>
    rw [cond_false];by_cases h0 : d = []
    · subst h0; rfl
    · rw [bF (by rw [beq_eq_false_iff_ne]; exact h0),Bool.false_or]
theorem yIF (n : Nat) (hn : n ≤ 5000) (c1 : List Sta) (c2 : List Tra) (hm : c2.length + 1 ≤ memMax) (j1 k a b d e f : Str) (hd : d.length < lenMax) (he : e.length < lenMax) (hf : f.length < lenMax) (x : Int × Bool × Unit) (q : Bool) :
    y5l 0 0 (n : Int) c1 c2 j1 ([k,a,b,d,e,f],()) q x = some (if (q || (b == []) || !(sgn 9 d).isSome || !(sgn 9 e).isSome || !(sgn 9 f).isSome) = false then .inr (j1,((n + 1 : Nat) : Int),c1,c2 ++ [(x.1,b,gv d,gv e,gv f,())]) else bad n) := by
  unfold y5l;rw [show idx (List.drop (Int.toNat (1 : Int)) (List.drop (Int.toNat (1 : Int)) ([k,a,b,d,e,f],()).1)) (0 : Int) = some b from rfl,Option.bind_some,bT (by rfl),
    yIR n hn c1 c2 hm j1 k a b d e f hd he hf,yIR n hn c1 c2 hm j1 k a b d e f hd he hf]
  cases q <;> rfl
theorem yLp (n : Nat) (hn : n ≤ 5000) (c : List Sta × List Tra) (x j1 : Str) (hx : x.length ≤ 5000) (h1 : c.1.length ≤ 5000) (h2 : c.2.length ≤ 5000) :
    y4H 0 0 (n : Int) c.1 c.2 j1 (x ++ [10]) = some (match rdL c (yf 32 x) with | none => bad n | some c' => .inr (j1,((n + 1 : Nat) : Int),c'.1,c'.2)) := by
  have hlm : (281474976710656 : Nat) < lenMax := by decide
  have hmm : (5000 : Nat) < memMax := by decide
  have hlen : ∀ w ∈ yf 32 x,w.length < lenMax := fun w hw => by
    have := y4B 32 x w hw;omega
  unfold y4H;rw [yGm x (by omega),Option.bind_some,bF (by rfl),yIh 32 x (by omega),Option.bind_some]
  cases hs : yf 32 x with
  | nil => exact absurd hs (y2A 32 x)
  | cons k r =>
    rw [hs] at hlen;have e0 : idx (k :: r) (0 : Int) = some k := yBk (k :: r) 0;rw [bT (by rw [dT (by omega),dT (by simp only [List.length_cons]; omega)]; rfl)]
    simp only [e0,Option.bind_some];have move : y3M 0 0 (n : Int) c.1 c.2 j1 (k :: r,()) false = some (match (match k :: r with | [k,a,b,d,e,f] => (if k = MOVE ∧ b ≠ [] then (sgn 9 a).bind fun x => (sgn 9 d).bind fun y => (sgn 9 e).bind fun z => (sgn 9 f).map fun u => (c.1,c.2 ++ [(x,b,y,z,u,())]) else none : Option (List Sta × List Tra)) | _ => none) with | none => bad n | some c' => .inr (j1,((n + 1 : Nat) : Int),c'.1,c'.2)) := by
      unfold y3M;rw [cond_false];simp only [e0,Option.bind_some];have no : y4N 0 0 (n : Int) c.1 c.2 j1 (k :: r,()) false = some (bad n) := by unfold y4N; rfl
      by_cases hk : k = MOVE
      · rw [bT (by rw [hk]; rfl)]
        have e6 : ∀ r : List Str,r.length ≠ 5 → (((((k :: r : List Str),()) : List Str × Unit).1.length : Int) == 6) = false := fun r h => by rw [beq_eq_false_iff_ne]; simp only [List.length_cons]; omega
        match r,hlen with
        | [],_ => rw [e6 _ (by simp),no]
        | [_],_ => rw [e6 _ (by simp),no]
        | [_,_],_ => rw [e6 _ (by simp),no]
        | [_,_,_],_ => rw [e6 _ (by simp),no]
        | [_,_,_,_],_ => rw [e6 _ (by simp),no]
        | _ :: _ :: _ :: _ :: _ :: _ :: r,_ => rw [e6 _ (by simp),no]
        | [a,b,d,e,f],hlen =>
          have ha := hlen a (by simp)
          have hb := hlen b (by simp)
          have hd := hlen d (by simp)
          have he := hlen e (by simp)
          have hf := hlen f (by simp)
          rw [show ((((([k,a,b,d,e,f] : List Str),()) : List Str × Unit).1.length : Int) == 6) = true from rfl]
          unfold y4N;rw [cond_true,show idx (List.drop (Int.toNat (1 : Int)) (([k,a,b,d,e,f],()) : List Str × Unit).1) (0 : Int) = some a from rfl,Option.bind_some,bT (by rfl),y66 a ha]
          simp only [Option.bind_some];rw [yIF n hn c.1 c.2 (by omega) j1 k a b d e f hd he hf,yIF n hn c.1 c.2 (by omega) j1 k a b d e f hd he hf]
          have hX : ∀ X : Bool → Option Out,(bif a == [] then X true else X (!(sgn 9 a).isSome)) = X (!(sgn 9 a).isSome) := fun X => by
            by_cases h : a = []
            · subst h; rfl
            · rw [bF (by rw [beq_eq_false_iff_ne]; exact h)]
          refine (hX fun q => some (if (q || (b == []) || !(sgn 9 d).isSome || !(sgn 9 e).isSome || !(sgn 9 f).isSome) = false then .inr (j1,((n + 1 : Nat) : Int),c.1,c.2 ++ [(gv a,b,gv d,gv e,gv f,())]) else bad n)).trans ?_
          rw [y9N a ha,y9N d hd,y9N e he,y9N f hf];by_cases hb0 : b = []
          · rw [if_neg (show ¬ (k = MOVE ∧ b ≠ []) from fun h => h.2 hb0),hb0]
            cases (sgn 9 a).isSome <;> cases (sgn 9 d).isSome <;> cases (sgn 9 e).isSome <;> cases (sgn 9 f).isSome <;> rfl
          · rw [if_pos (show k = MOVE ∧ b ≠ [] from ⟨hk,hb0⟩),show (b == []) = false by rw [beq_eq_false_iff_ne]; exact hb0]
            cases (sgn 9 a).isSome <;> cases (sgn 9 d).isSome <;> cases (sgn 9 e).isSome <;> cases (sgn 9 f).isSome <;> rfl
      · rw [bF (by rw [beq_eq_false_iff_ne]; exact hk),no]
        match r with
        | [] => rfl
        | [_] => rfl
        | [_,_] => rfl
        | [_,_,_] => rfl
        | [_,_,_,_] => rfl
        | [_,_,_,_,_] => dsimp only; rw [if_neg (fun h => hk h.1)]
        | _ :: _ :: _ :: _ :: _ :: _ :: r => rfl
    have eA : ∀ A B : Option Out,(bif k == [(115 : UInt8),116,97,116,101] then A else B) = if k = y5U then A else B := fun A B => by
      by_cases h : k = y5U
      · rw [bT (by rw [h]; rfl),if_pos h]
      · rw [bF (by rw [beq_eq_false_iff_ne]; exact h),if_neg h]
    rw [eA];by_cases hk : k = y5U
    · rw [if_pos hk];match r,hlen,move with
      | [],_,move => rw [bF (by rfl),move]; rfl
      | [_],_,move => rw [bF (by rfl),move]; rfl
      | [_,_],_,move => rw [bF (by rfl),move]; rfl
      | [_,_,_],_,move => rw [bF (by rfl),move]; rfl
      | [_,_,_,_,_],_,move => rw [bF (by rfl),move]; rfl
      | _ :: _ :: _ :: _ :: _ :: _ :: r,_,move => rw [bF (by rw [beq_eq_false_iff_ne]; simp only [List.length_cons]; omega),move]; rfl
      | [a,b,d,e],hlen,move =>
        have hb := hlen b (by simp)
        have hd := hlen d (by simp)
        rw [bT (by rfl)]
        by_cases hc : c.2 = []
        · rw [show ((c.2.length : Int) == 0) = true by rw [hc]; rfl]
          unfold y3M;rw [cond_true,show idx (List.drop (Int.toNat (1 : Int)) (([k,a,b,d,e],()) : List Str × Unit).1) (0 : Int) = some a from rfl,Option.bind_some,bT (by rfl),
            show idx (List.drop (Int.toNat (1 : Int)) (List.drop (Int.toNat (1 : Int)) (([k,a,b,d,e],()) : List Str × Unit).1)) (0 : Int) = some b from rfl,Option.bind_some,bT (by rfl),y66 b hb]
          simp only [Option.bind_some];rw [yL7 n hn c.1 c.2 (by omega) j1 k a b d e hd,yL7 n hn c.1 c.2 (by omega) j1 k a b d e hd]
          unfold rdL;dsimp only;have ea : ∀ (w : Str) (A B : Option Out),(bif w == [] then A else B) = if w = [] then A else B := fun w A B => by
            by_cases h : w = []
            · rw [bT (by rw [h]; rfl),if_pos h]
            · rw [bF (by rw [beq_eq_false_iff_ne]; exact h),if_neg h]
          rw [ea,ea];by_cases ha : a = []
          · rw [if_pos ha,if_neg (show ¬ ((true || !(sgn 9 d).isSome) = false ∧ (e = [48] ∨ e = [49])) by simp),if_neg (show ¬ (k = y5U ∧ c.2 = [] ∧ a ≠ [] ∧ (e = [48] ∨ e = [49])) from fun h => h.2.2.1 ha)]
          · rw [if_neg ha];have hX : ∀ X : Bool → Option Out,(if b = [] then X true else X (!(sgn 9 b).isSome)) = X (!(sgn 9 b).isSome) := fun X => by
              by_cases h : b = []
              · subst h; rfl
              · rw [if_neg h]
            refine (hX fun q => some (if (q || !(sgn 9 d).isSome) = false ∧ (e = [48] ∨ e = [49]) then .inr (j1,((n + 1 : Nat) : Int),c.1 ++ [(a,gv b,gv d,e == [49],())],c.2) else bad n)).trans ?_
            by_cases he : e = [48] ∨ e = [49]
            · rw [if_pos (show k = y5U ∧ c.2 = [] ∧ a ≠ [] ∧ (e = [48] ∨ e = [49]) from ⟨hk,hc,ha,he⟩),y9N d hd,y9N b hb]
              cases (sgn 9 b).isSome <;> cases (sgn 9 d).isSome <;> simp [he]
            · rw [if_neg (show ¬ (k = y5U ∧ c.2 = [] ∧ a ≠ [] ∧ (e = [48] ∨ e = [49])) from fun h => he h.2.2.2)]
              dsimp only;rw [if_neg (fun h => he h.2)]
        · rw [show ((c.2.length : Int) == 0) = false by
            rw [beq_eq_false_iff_ne];have := List.length_pos_iff.2 hc;omega,move]
          unfold rdL;dsimp only;rw [if_neg (fun h => hc h.2.1)]
    · rw [if_neg hk,move];unfold rdL;match r with
      | [] => rfl
      | [_] => rfl
      | [_,_] => rfl
      | [_,_,_] => rfl
      | [_,_,_,_] => dsimp only; rw [if_neg (fun h => hk h.1)]
      | [_,_,_,_,_] => rfl
      | _ :: _ :: _ :: _ :: _ :: _ :: r => rfl
end Go.Tw
end
section
set_option maxRecDepth 1000000
namespace Go.Tw
open Go.Vx Go.Vx.B Go.S Go.SA Go.Lib
def Inv (n : Nat) (c : List Sta × List Tra) (m : Nat) : Prop := n + m ≤ 4999 ∧ 5 * (c.1.length + c.2.length) + m ≤ 4999 ∧ (∀ x ∈ c.1,x.1.length ≤ 4999) ∧ ∀ x ∈ c.2,x.2.1.length ≤ 4999
theorem yLl {n m L : Nat} {c c' : List Sta × List Tra} {w : List Str} (h : Inv n c (L + 1 + m)) (hw : ∀ x ∈ w,x.length ≤ L) (hr : rdL c w = some c') : Inv (n + 1) c' m := by
  obtain ⟨h1,h2,h3,h4⟩ := h;unfold rdL at hr;split at hr
  · rename_i k a b d e;split at hr
    · rename_i hk;obtain ⟨x,_,hr⟩ := Option.bind_eq_some_iff.1 hr;obtain ⟨y,_,rfl⟩ := Option.map_eq_some_iff.1 hr;have hk1 := hw k (by simp)
      rw [hk.1] at hk1;have hk2 : y5U.length = 5 := rfl;have ha := hw a (by simp)
      refine ⟨by omega,by simp only [List.length_append,List.length_singleton]; omega,fun z hz => ?_,h4⟩
      rcases List.mem_append.1 hz with hz | hz
      · exact h3 z hz
      · rw [List.mem_singleton] at hz; subst hz; show a.length ≤ 4999; omega
    · cases hr
  · rename_i k a b d e f;split at hr
    · rename_i hk;obtain ⟨x,_,hr⟩ := Option.bind_eq_some_iff.1 hr;obtain ⟨y,_,hr⟩ := Option.bind_eq_some_iff.1 hr;obtain ⟨z,_,hr⟩ := Option.bind_eq_some_iff.1 hr;obtain ⟨u,_,rfl⟩ := Option.map_eq_some_iff.1 hr;have hk1 := hw k (by simp)
      rw [hk.1] at hk1;have hk2 : MOVE.length = 4 := rfl;have ha := hw b (by simp)
      refine ⟨by omega,by simp only [List.length_append,List.length_singleton]; omega,h3,fun z hz => ?_⟩
      rcases List.mem_append.1 hz with hz | hz
      · exact h4 z hz
      · rw [List.mem_singleton] at hz; subst hz; show b.length ≤ 4999; omega
    · cases hr
  · cases hr
theorem y8R : ∀ (m : Nat) (s : Str) (n : Nat) (c : List Sta × List Tra),s.length < m → Inv n c s.length →
    yDk (fun s__ => y4k 0 0 s__.1 s__.2.1 s__.2.2.1 s__.2.2.2) m (s,(n : Int),c.1,c.2) = some (prsL n c (yf 10 s))
  | 0,s,n,c,h,_ => by omega
  | m + 1,s,n,c,h,hI => by
    obtain ⟨h1,h2,h3,h4⟩ := hI;have hlm : lenMax = 9223372036854775808 := rfl;simp only [yDk];by_cases h0 : s = []
    · subst h0;have hb : y4k 0 0 [] (n : Int) c.1 c.2 = some (.inl (prsL n c (yf 10 []))) := by
        unfold y4k;rw [bF (dF (by simp)),yAz (c.1,c.2,()) (show c.1.length ≤ 1000 by omega) (show c.2.length ≤ 1000 by omega) ⟨fun x hx => by have := h3 x hx; omega,fun x hx => by have := h4 x hx; omega⟩,Option.bind_some]
        unfold yf prsL;rw [if_pos rfl];by_cases he : yk (c.1,c.2,()) = 0
        · rw [bF (by rw [he]; rfl),if_pos he]
        · rw [bT (by rw [bne_iff_ne]; exact he),if_neg he]; rfl
      rw [hb];rfl
    · have hpos : 0 < s.length := List.length_pos_iff.2 h0;have e10 : (Int.toNat (10 : Int)).toUInt8 = 10 := rfl;rcases yAZ s 10 with ⟨hi,hno⟩ | ⟨x,t,rfl,hno,hi⟩
      · have hb : y4k 0 0 s (n : Int) c.1 c.2 = some (.inl (prsL n c (yf 10 s))) := by
          unfold y4k;rw [bT (dT (by omega)),e10,hi,bF (dF (by omega))]
          unfold y4H;rw [yNl s (by omega) hno,Option.bind_some,bT (by rfl),y3J 10 s hno]
          unfold prsL;rw [if_neg h0];rfl
        rw [hb];rfl
      · have hlen : (x ++ 10 :: t).length = x.length + 1 + t.length := by simp; omega
        rw [hlen] at h h1 h2;have hb : y4k 0 0 (x ++ 10 :: t) (n : Int) c.1 c.2 = some (match rdL c (yf 32 x) with | none => bad n | some c' => .inr (t,((n + 1 : Nat) : Int),c'.1,c'.2)) := by
          unfold y4k;rw [bT (dT (by omega)),e10,hi,bT (dT (by omega)),y4A (by omega) (by omega),
            bT (by rw [dT (by omega),dT (by rw [hlen]; omega)]; rfl),bT (by rw [dT (by omega),dT (by rw [hlen]; omega)]; rfl),show ((x.length : Int) + 1).toNat = x.length + 1 by omega]
          have e1 : List.drop (x.length + 1) (x ++ 10 :: t) = t := by rw [← List.drop_drop,List.drop_left]; rfl
          have e2 : List.take (x.length + 1) (x ++ 10 :: t) = x ++ [10] := by rw [show x ++ 10 :: t = (x ++ [10]) ++ t by simp,show x.length + 1 = (x ++ [10]).length by simp,List.take_left]
          rw [e1,e2];exact yLp n (by omega) c x t (by omega) (by omega) (by omega)
        rw [hb,y2g 10 x t hno,y5W n c x (y2A 10 t)];cases hr : rdL c (yf 32 x) with
        | none => rfl
        | some c' =>
          simp only [Option.bind_some];exact y8R m t (n + 1) c' (by omega) (yLl (L := x.length) ⟨h1,h2,h3,h4⟩ (fun w hw => y4B 32 x w hw) hr)
theorem inv0 (s : Str) (h : s.length ≤ 4999) : Inv 0 ([],[]) s.length := ⟨by omega,by simp; omega,(fun x hx => by cases hx),(fun x hx => by cases hx)⟩
theorem y7l (s : Str) (h : s.length ≤ 4999) : yFe s = some (prs s) := by
  unfold yFe prs;rw [bF (dF (by omega))]
  exact y8R wMax s 0 ([],[]) (by simp only [wMax]; omega) (inv0 s h)
end Go.Tw
end
section
set_option maxRecDepth 1000000
namespace Go.Tw
open Go.Vx Go.Vx.B Go.S Go.SA Go.Lib
def lnS (x : Sta) : Str := y0a 32 [y5U,x.1,itoa x.2.1,itoa x.2.2.1,bif x.2.2.2.1 then [49] else [48]]
def lnT (x : Tra) : Str := y0a 32 [MOVE,itoa x.1,x.2.1,itoa x.2.2.1,itoa x.2.2.2.1,itoa x.2.2.2.2.1]
def ends : List Str → Str
  | [] => []
  | l :: r => l ++ 10 :: ends r
def prn (c : Cha) : Str := ends (c.1.map lnS ++ c.2.1.map lnT)
theorem y5o : ∀ (a b : List Str),ends (a ++ b) = ends a ++ ends b
  | [],b => rfl
  | l :: a,b => by simp [ends,y5o a b]
def N9 (n : Int) : Prop := n.natAbs < 10 ^ 9
theorem N9.i64 {n : Int} (h : N9 n) : I64 n := by unfold N9 at h; unfold I64; omega
theorem N9.len {n : Int} (h : N9 n) : (itoa n).length ≤ 10 := by
  have := yMe 8 n.natAbs h;unfold itoa;split
  · simp only [List.length_cons,decDigits_length]; omega
  · rw [decDigits_length,show n.toNat = n.natAbs by omega]; omega
structure SmallS (x : Sta) : Prop where
  name : x.1.length ≤ 24
  n1 : N9 x.2.1
  n2 : N9 x.2.2.1
structure SmallT (x : Tra) : Prop where
  event : x.2.1.length ≤ 24
  n1 : N9 x.1
  n2 : N9 x.2.2.1
  n3 : N9 x.2.2.2.1
  n4 : N9 x.2.2.2.2.1
theorem yMP (b : Bool) : (bif b then [(49 : UInt8)] else [48]).length = 1 := by cases b <;> rfl
theorem SmallS.len {x : Sta} (h : SmallS x) : (lnS x).length ≤ 60 := by
  have h1 := h.n1.len;have h2 := h.n2.len;have h3 := h.name;have h4 := yMP x.2.2.2.1;unfold lnS y0a y0a y0a y0a y0a;simp only [List.length_append,List.length_cons,show y5U.length = 5 from rfl]
  omega
theorem SmallT.len {x : Tra} (h : SmallT x) : (lnT x).length ≤ 74 := by
  have h1 := h.n1.len;have h2 := h.n2.len;have h3 := h.n3.len;have h4 := h.n4.len;have h5 := h.event;unfold lnT y0a y0a y0a y0a y0a y0a;simp only [List.length_append,List.length_cons,show MOVE.length = 4 from rfl]
  omega
theorem y7G {c : Nat} : ∀ {l : List Str},(∀ x ∈ l,x.length ≤ c) → (ends l).length ≤ l.length * (c + 1)
  | [],_ => by simp [ends]
  | x :: l,h => by
    have h1 := h x (List.mem_cons_self ..);have h2 := y7G (l := l) fun y hy => h y (List.mem_cons_of_mem _ hy)
    simp only [ends,List.length_append,List.length_cons,Nat.succ_mul];omega
theorem y6M {α β σ : Type} {body : Int → α → σ → Option (β ⊕ σ)} {fin : σ → Option β} (g : Str → σ) (f : α → Str) (K B : Nat) : ∀ (l : List α) (i : Int) (s : Str),
    (∀ i e s,e ∈ l → s.length ≤ B → body i e (g s) = some (.inr (g (s ++ f e ++ [10])))) → (∀ e ∈ l,(f e).length ≤ K) → s.length + l.length * (K + 1) ≤ B →
    yI body fin i l (g s) = fin (g (s ++ ends (l.map f)))
  | [],i,s,_,_,_ => by simp [yI,ends]
  | e :: l,i,s,hb,hf,hl => by
    simp only [List.length_cons,Nat.succ_mul] at hl;have h1 := hf e (List.mem_cons_self ..);simp only [yI];rw [hb i e s (List.mem_cons_self ..) (by omega)]
    simp only [Option.bind_some];rw [y6M g f K B l (i + 1) (s ++ f e ++ [10]) (fun i e s he => hb i e s (List.mem_cons_of_mem _ he)) (fun e he => hf e (List.mem_cons_of_mem _ he)) (by simp only [List.length_append,List.length_singleton]; omega)]
    simp [ends]
theorem y3O (s : Str) : (yn s).length = s.length := by simp [yn]
theorem yPJ (c : Cha) (T : List Sta) (i : Int) (e : Sta) (s : Str) (he : SmallS e) (hs : s.length ≤ 1000000) (q : Str) (hq : q = bif e.2.2.2.1 then [49] else [48]) : yBr c T i (yn s) e q = some (.inr (yn (s ++ lnS e ++ [10]))) := by
  have hlen := he.len;have hmm : (1000000 : Nat) + 1000 < memMax := by decide
  have hsm : (1000000 : Nat) + 1000 < strMax := by decide
  unfold yBr;rw [y4J _ he.n1.i64,Option.bind_some,y4J _ he.n2.i64,Option.bind_some];have hj : yDL [[(115 : UInt8),116,97,116,101],e.1,itoa e.2.1,itoa e.2.2.1,q] [32] = some (lnS e,()) := by
    rw [hq];exact yEh _ (by show 5 ≤ 140737488355328; decide) (by show (lnS e).length ≤ _; omega)
  rw [hj,Option.bind_some,bT (dT (by show (lnS e).length + 1 < strMax; omega)),bT (dT (by rw [y3O]; show s.length + (lnS e ++ [10]).length ≤ memMax; simp only [List.length_append,List.length_singleton]; omega)),yEN,List.append_assoc]
theorem yJx (c : Cha) (T : List Sta) (i : Int) (e : Sta) (s : Str) (he : SmallS e) (hs : s.length ≤ 1000000) : y8j c T i e (yn s) = some (.inr (yn (s ++ lnS e ++ [10]))) := by
  unfold y8j;cases hb : e.2.2.2.1 with
  | true => exact yPJ c T i e s he hs [49] (by rw [hb]; rfl)
  | false => exact yPJ c T i e s he hs [48] (by rw [hb]; rfl)
theorem yJs (T : List Tra) (i : Int) (e : Tra) (s : Str) (he : SmallT e) (hs : s.length ≤ 1000000) : y9k T i e (yn s) = some (.inr (yn (s ++ lnT e ++ [10]))) := by
  have hlen := he.len;have hmm : (1000000 : Nat) + 1000 < memMax := by decide
  have hsm : (1000000 : Nat) + 1000 < strMax := by decide
  unfold y9k;rw [y4J _ he.n1.i64,Option.bind_some,y4J _ he.n2.i64,Option.bind_some,y4J _ he.n3.i64,Option.bind_some,y4J _ he.n4.i64,Option.bind_some];have hj : yDL [[(109 : UInt8),111,118,101],itoa e.1,e.2.1,itoa e.2.2.1,itoa e.2.2.2.1,itoa e.2.2.2.2.1] [32] = some (lnT e,()) := yEh _ (by show 6 ≤ 140737488355328; decide) (by show (lnT e).length ≤ _; omega)
  rw [hj,Option.bind_some,bT (dT (by show (lnT e).length + 1 < strMax; omega)),bT (dT (by rw [y3O]; show s.length + (lnT e ++ [10]).length ≤ memMax; simp only [List.length_append,List.length_singleton]; omega)),yEN,List.append_assoc]
structure SmallC (c : Cha) : Prop where
  pos : 0 < c.1.length
  sts : c.1.length ≤ 16
  tras : c.2.1.length ≤ 48
  sta : ∀ x ∈ c.1,SmallS x
  tra : ∀ x ∈ c.2.1,SmallT x
theorem yIE {c : Cha} (h : 0 < c.1.length) : 0 < (prn c).length := by
  unfold prn;cases hc : c.1 with
  | nil => rw [hc] at h; simp at h
  | cons x l => simp [ends]; omega
theorem yIy {c : Cha} (h : SmallC c) : (prn c).length ≤ 4900 := by
  unfold prn;rw [y5o,List.length_append];have h1 := y7G (c := 60) (l := c.1.map lnS) (fun x hx => by obtain ⟨y,hy,rfl⟩ := List.mem_map.1 hx; exact (h.sta y hy).len)
  have h2 := y7G (c := 74) (l := c.2.1.map lnT) (fun x hx => by obtain ⟨y,hy,rfl⟩ := List.mem_map.1 hx; exact (h.tra y hy).len)
  have h3 := h.sts;have h4 := h.tras;simp only [List.length_map] at h1 h2;omega
theorem yBv (c : Cha) (h : SmallC c) : (bif decide (List.length (c.fst) < lenMax) then yI (fun i__ e__ s__ => y8j (c) (c.fst) i__ e__ s__) (fun s__ => y8O (c) (c.fst) s__) 0 (c.fst) ([]) else none) = some (prn c,0,()) := by
  have h1 := h.sts;have h2 := h.tras;have hlm : (1000 : Nat) < lenMax := by decide
  have hN := y6M (body := fun i__ e__ s__ => y8j c c.1 i__ e__ s__) (fin := fun s__ => y8O c c.1 s__) yn lnS 60 1000000 c.1 0 [] (fun i e s he hs => yJx c c.1 i e s (h.sta e he) hs) (fun e he => (h.sta e he).len) (by simp; omega)
  rw [bT (dT (by omega))]
  refine hN.trans ?_
  show y8O c c.1 (yn ([] ++ ends (c.1.map lnS))) = _
  rw [List.nil_append];unfold y8O;have hlen := y7G (c := 60) (l := c.1.map lnS) (fun x hx => by obtain ⟨y,hy,rfl⟩ := List.mem_map.1 hx; exact (h.sta y hy).len)
  simp only [List.length_map] at hlen;have hL := y6M (body := fun i__ e__ s__ => y9k c.2.1 i__ e__ s__) (fin := fun s__ => y9W c.2.1 s__) yn lnT 74 1000000 c.2.1 0 (ends (c.1.map lnS)) (fun i e s he hs => yJs c.2.1 i e s (h.tra e he) hs) (fun e he => (h.tra e he).len) (by omega)
  rw [bT (dT (by omega))]
  refine hL.trans ?_
  have e : ends (c.1.map lnS) ++ ends (c.2.1.map lnT) = prn c := by unfold prn; rw [y5o]
  show y9W c.2.1 (yn (ends (c.1.map lnS) ++ ends (c.2.1.map lnT))) = _
  rw [e];unfold y9W;rw [bT (dT (by rw [y3O]; exact yIE h.pos)),bT (by rw [yB2,dT (by rw [y3O]; exact yIE h.pos)]; simp),yGd]
theorem yAt {s : Str} (h : isNm s = true) : 0 < s.length ∧ s.length ≤ 24 := by
  unfold isNm at h;simp only [Bool.and_eq_true,decide_eq_true_eq] at h;exact h.2
theorem yAT {c : Cha} (h : yk c = 0) : ∀ s ∈ c.1,isNm s.1 = true := by
  unfold yk at h;split at h
  · cases h
  split at h
  · cases h
  simp only [yx] at h;intro s hs;obtain ⟨i,hi,rfl⟩ := List.mem_iff_getElem.1 hs;have := y8B c.1 [] h.1 i c.1[i] (List.getElem?_eq_getElem hi);unfold stE at this;simp only [y0E,y0r,y0D,yx] at this;have b := this.1;cases hn : isNm c.1[i].1 with
  | true => rfl
  | false => unfold nmE at b; rw [hn] at b; cases b
theorem y5I {c : Cha} (h : yk c = 0) : SmallC c := by
  have hv := y4I c h;have hp := hv.few;refine ⟨hv.pos,hv.few,hv.moves,fun x hx => ?_,fun x hx => ?_⟩
  · obtain ⟨i,hi,rfl⟩ := List.mem_iff_getElem.1 hx;have g := List.getElem?_eq_getElem hi;have h1 := hv.parent i _ g;have h2 := hv.initial i _ g;refine ⟨(yAt (yAT h _ (List.getElem_mem hi))).2,?_,?_⟩ <;> unfold N9 <;> omega
  · obtain ⟨h1,h2,h3,h4,h5,h6,h7,h8,h9⟩ := hv.tra x hx;refine ⟨(yAt h5).2,?_,?_,?_,?_⟩ <;> unfold N9 <;> omega
theorem yCM (c : Cha) (h1 : c.1.length ≤ 1000) (h2 : c.2.1.length ≤ 1000) (hw : yID c) : yDK c = some (if yk c = 0 then (prn c,0,()) else ([],yk c,())) := by
  unfold yDK;rw [yAz c h1 h2 hw,Option.bind_some];by_cases h : yk c = 0
  · rw [bF (by rw [h]; rfl),if_pos h]
    exact yBv c (y5I h)
  · rw [bT (by rw [bne_iff_ne]; exact h),if_neg h]
theorem yBu (T : List Tra) (c2 : List Sta) : ∀ (l : List Tra) (i : Int) (acc : List Tra),acc.length + l.length ≤ memMax →
    yI (fun i__ e__ s__ => y96 T c2 i__ e__ s__) (fun s__ => yBa T c2 s__) i l acc = some ((c2,acc ++ l,()),())
  | [],i,acc,_ => by simp [yI,yBa]
  | x :: l,i,acc,h => by
    simp only [List.length_cons] at h;simp only [yI];have hb : y96 T c2 i x acc = some (.inr (acc ++ [x])) := by
      unfold y96;rw [bT (dT (by omega))]
    rw [hb];simp only [Option.bind_some];rw [yBu T c2 l (i + 1) (acc ++ [x]) (by simp; omega)]
    simp
theorem yCZ (b : Cha) (h2 : b.2.1.length ≤ memMax) (T : List Sta) : ∀ (l : List Sta) (i : Int) (acc : List Sta),acc.length + l.length ≤ memMax →
    yI (fun i__ e__ s__ => y9E b T [] i__ e__ s__) (fun s__ => yCD b T [] s__) i l acc = some ((acc ++ l,b.2.1,()),())
  | [],i,acc,_ => by
    have := yBR;simp only [yI,yCD];rw [bT (dT (by omega)),yBu b.2.1 acc b.2.1 0 [] (by simpa using h2)]
    simp
  | x :: l,i,acc,h => by
    simp only [List.length_cons] at h;simp only [yI];have hb : y9E b T [] i x acc = some (.inr (acc ++ [x])) := by
      unfold y9E;rw [bT (dT (by omega))]
    rw [hb];simp only [Option.bind_some];rw [yCZ b h2 T l (i + 1) (acc ++ [x]) (by simp; omega)]
    simp
theorem yOW (b : Cha) (h1 : b.1.length ≤ memMax) (h2 : b.2.1.length ≤ memMax) : yFu b = some (b,()) := by
  unfold yFu;have := yBR;rw [bT (dT (by omega)),yCZ b h2 b.1 b.1 0 [] (by simpa using h1)]
  rfl
theorem yHA (b : Cha) (h1 : b.1.length < lenMax) (h2 : b.2.1.length < lenMax) : yD0 b b = some (true,()) := by
  have links : ∀ (l pre : List Tra),b.2.1 = pre ++ l → yI (fun i__ e__ s__ => y9i b b i__ e__) (fun s__ => yEP b b) (pre.length : Int) l () = some (true,()) := by
    intro l;induction l with
    | nil => intro pre _; rfl
    | cons x l ih =>
      intro pre h;simp only [yI];have hg : idx b.2.1 (pre.length : Int) = some x := by rw [yBk,h]; simp
      have hb : y9i b b (pre.length : Int) x = some (.inr ()) := by
        unfold y9i;rw [hg,Option.bind_some,bF (by simp [eqV])]
      rw [hb];simp only [Option.bind_some];have := ih (pre ++ [x]) (by rw [h]; simp)
      rw [show ((pre ++ [x]).length : Int) = (pre.length : Int) + 1 by simp] at this
      exact this
  have nodes : ∀ (l pre : List Sta),b.1 = pre ++ l → yI (fun i__ e__ s__ => y9M b b i__ e__) (fun s__ => yCV b b) (pre.length : Int) l () = some (true,()) := by
    intro l;induction l with
    | nil =>
      intro pre _;simp only [yI];unfold yCV;rw [bT (dT h2)];exact links b.2.1 [] rfl
    | cons x l ih =>
      intro pre h;simp only [yI];have hg : idx b.1 (pre.length : Int) = some x := by rw [yBk,h]; simp
      have hb : y9M b b (pre.length : Int) x = some (.inr ()) := by
        unfold y9M;rw [hg,Option.bind_some,bF (by simp [eqV])]
      rw [hb];simp only [Option.bind_some];have := ih (pre ++ [x]) (by rw [h]; simp)
      rw [show ((pre ++ [x]).length : Int) = (pre.length : Int) + 1 by simp] at this
      exact this
  unfold yD0;rw [bF (by simp),bF (by simp),bT (dT h1)]
  exact nodes b.1 [] rfl
theorem yHG : ∀ (ls : List Str) (n : Nat) (c : List Sta × List Tra),(prsL n c ls).1 = Z0 ∨ yk (prsL n c ls).1 = 0
  | [],n,c => .inl rfl
  | [t],n,c => by
    unfold prsL;split
    · split
      · rename_i h; exact .inr h
      · exact .inl rfl
    · exact .inl rfl
  | l :: t :: ls,n,c => by
    rw [y5W n c l (by simp)]
    split
    · exact .inl rfl
    · exact yHG (t :: ls) (n + 1) _
theorem yJi (s : Str) : (prs s).1.1.length ≤ 16 ∧ (prs s).1.2.1.length ≤ 48 := by
  rcases yHG (yf 10 s) 0 ([],[]) with h | h
  · have : (prs s).1 = Z0 := h;rw [this];exact ⟨Nat.zero_le _,Nat.zero_le _⟩
  · have hv := y4I _ h;exact ⟨hv.few,hv.moves⟩
theorem yIC (c : Cha) (hc : Sh c) : yDK c = some (if yk c = 0 then (prn c,0,()) else ([],yk c,())) :=
  yCM c (by have := hc.sts; omega) (by have := hc.tras; omega) hc.words
end Go.Tw
end
section
set_option maxRecDepth 1000000
namespace Go.Tw
open Go.Vx Go.Vx.B Go.S Go.SA Go.Lib
theorem yO9 (c1 : List Sta) (x : Sta) : prn (c1 ++ [x],[],()) = prn (c1,[],()) ++ lnS x ++ [10] := by
  unfold prn;simp only [List.map_append,List.map_cons,List.map_nil,List.append_nil,y5o,ends];simp
theorem yN9 (c1 : List Sta) (c2 : List Tra) (x : Tra) : prn (c1,c2 ++ [x],()) = prn (c1,c2,()) ++ lnT x ++ [10] := by
  unfold prn;simp only [List.map_append,List.map_cons,List.map_nil,y5o,ends];simp
theorem yMb {c c' : List Sta × List Tra} {w : List Str} (hr : rdL c w = some c') : prn (c'.1,c'.2,()) = prn (c.1,c.2,()) ++ y0a 32 w ++ [10] := by
  unfold rdL at hr;split at hr
  · rename_i k a b d e;split at hr
    · rename_i hk;obtain ⟨x,hx,hr⟩ := Option.bind_eq_some_iff.1 hr;obtain ⟨y,hy,rfl⟩ := Option.map_eq_some_iff.1 hr;obtain ⟨rfl,h2,ha,he⟩ := hk;dsimp only;rw [h2,yO9];unfold lnS;rw [(y4a hx).1,(y4a hy).1];rcases he with rfl | rfl <;> rfl
    · cases hr
  · rename_i k a b d e f;split at hr
    · rename_i hk;obtain ⟨x,hx,hr⟩ := Option.bind_eq_some_iff.1 hr;obtain ⟨y,hy,hr⟩ := Option.bind_eq_some_iff.1 hr;obtain ⟨z,hz,hr⟩ := Option.bind_eq_some_iff.1 hr;obtain ⟨u,hu,rfl⟩ := Option.map_eq_some_iff.1 hr;obtain ⟨rfl,hb⟩ := hk;dsimp only;rw [yN9];unfold lnT;rw [(y4a hx).1,(y4a hy).1,(y4a hz).1,(y4a hu).1]
    · cases hr
  · cases hr
theorem yEB : ∀ (ls : List Str) (n : Nat) (c : List Sta × List Tra),ls ≠ [] → (prsL n c ls).2.2.1 = 0 → yk (prsL n c ls).1 = 0 ∧ prn (prsL n c ls).1 = prn (c.1,c.2,()) ++ y0a 10 ls
  | [],_,_,h,_ => absurd rfl h
  | [t],n,c,_,h => by
    unfold prsL at h ⊢;split at h
    · rename_i ht;rw [if_pos ht];split at h
      · rename_i h0;rw [if_pos h0,ht];exact ⟨h0,by simp [y0a]⟩
      · rename_i h0; exact absurd h h0
    · exact absurd h (by show ¬ (26 : Int) = 0; decide)
  | l :: t :: ls,n,c,_,h => by
    rw [y5W n c l (by simp)] at h ⊢
    split at h
    · exact absurd h (by show ¬ (26 : Int) = 0; decide)
    · rename_i c' hr;obtain ⟨h1,h2⟩ := yEB (t :: ls) (n + 1) c' (by simp) h
      refine ⟨h1,?_⟩;rw [h2,yMb hr,y4o,y25 10 l (by simp)]
      simp
theorem yM4 (s : Str) (h : (prs s).2.2.1 = 0) : yk (prs s).1 = 0 ∧ prn (prs s).1 = s := by
  obtain ⟨h1,h2⟩ := yEB (yf 10 s) 0 ([],[]) (y2A 10 s) h;refine ⟨h1,?_⟩;have h3 : prn (prs s).1 = prn ([],[],()) ++ y0a 10 (yf 10 s) := h2;rw [h3,y4o];rfl
def y5X : List Sta × List Tra → List Str → Option (List Sta × List Tra)
  | c,[] => some c
  | c,l :: ls => (rdL c (yf 32 l)).bind fun c' => y5X c' ls
theorem y8S : ∀ (a b : List Str) (c : List Sta × List Tra),y5X c (a ++ b) = (y5X c a).bind fun c' => y5X c' b
  | [],_,_ => rfl
  | l :: a,b,c => by
    simp only [List.cons_append,y5X];cases rdL c (yf 32 l) with
    | none => rfl
    | some c' => simp only [Option.bind_some]; exact y8S a b c'
theorem yAs : ∀ (a r : List Str) (n : Nat) (c c' : List Sta × List Tra),r ≠ [] → y5X c a = some c' → prsL n c (a ++ r) = prsL (n + a.length) c' r
  | [],r,n,c,c',_,h => by cases h; rfl
  | l :: a,r,n,c,c',hr,h => by
    simp only [y5X] at h;obtain ⟨d,hd,h⟩ := Option.bind_eq_some_iff.1 h;rw [List.cons_append,y5W n c l (by simp [hr]),hd]
    dsimp only;rw [yAs a r (n + 1) d c' hr h,List.length_cons,show n + 1 + a.length = n + (a.length + 1) by omega]
theorem yA2 {s : Str} (h : isNm s = true) : s ≠ [] ∧ (32 : UInt8) ∉ s ∧ (10 : UInt8) ∉ s := by
  have hl := (yAt h).1;unfold isNm at h;simp only [Bool.and_eq_true] at h;have key : ∀ (b : Bool) (l : List UInt8),nmOk b l = true → ∀ c ∈ l,y3j c.toNat = true ∨ y6R c.toNat = true := by
    intro b l;induction l generalizing b with
    | nil => intro _ c hc; cases hc
    | cons a l ih =>
      intro hh c hc;unfold nmOk at hh;simp only [Bool.and_eq_true,Bool.or_eq_true] at hh;rcases List.mem_cons.1 hc with rfl | hc
      · rcases hh.1 with h1 | h1
        · exact .inl h1
        · exact .inr h1.2
      · exact ih _ hh.2 c hc
  have := key _ _ h.1;refine ⟨by intro e; subst e; simp at hl,fun hm => ?_,fun hm => ?_⟩
  · rcases this _ hm with h1 | h1 <;> exact absurd h1 (by decide)
  · rcases this _ hm with h1 | h1 <;> exact absurd h1 (by decide)
theorem y0U (v : Int) : (32 : UInt8) ∉ itoa v ∧ (10 : UInt8) ∉ itoa v := by
  refine ⟨fun h => ?_,fun h => ?_⟩
  · rcases yEo h with h | h
    · exact absurd h (by decide)
    · exact absurd h (by decide)
  · rcases yEo h with h | h
    · exact absurd h (by decide)
    · exact absurd h (by decide)
theorem y6O {c d : UInt8} (hd : d ≠ c) : ∀ {l : List Str},(∀ x ∈ l,c ∉ x) → c ∉ y0a d l
  | [],_ => by simp [y0a]
  | [x],h => h x (List.mem_cons_self ..)
  | x :: y :: r,h => by
    rw [y25 d x (by simp)]
    simp only [List.mem_append,List.mem_cons,not_or];exact ⟨h x (List.mem_cons_self ..),fun e => hd e.symm,y6O hd fun z hz => h z (List.mem_cons_of_mem _ hz)⟩
theorem sgn9 {v : Int} (h : N9 v) : sgn 9 (itoa v) = some v := yJh (mx := 8) h
theorem yEj (b : Bool) : (32 : UInt8) ∉ (bif b then [(49 : UInt8)] else [48]) ∧ (10 : UInt8) ∉ (bif b then [(49 : UInt8)] else [48]) := by cases b <;> decide
theorem yOj (c1 : List Sta) (x : Sta) (hx : SmallS x) (hn : isNm x.1 = true) : rdL (c1,[]) (yf 32 (lnS x)) = some (c1 ++ [x],[]) := by
  obtain ⟨h1,h2,_⟩ := yA2 hn;unfold lnS;rw [y31 32 _ (by simp) (by
    intro y hy;simp only [List.mem_cons,List.not_mem_nil,or_false] at hy;rcases hy with rfl | rfl | rfl | rfl | rfl
    · decide
    · exact h2
    · exact (y0U _).1
    · exact (y0U _).1
    · exact (yEj _).1)]
  unfold rdL;dsimp only;have hq : (bif x.2.2.2.1 then [(49 : UInt8)] else [48]) = [48] ∨ (bif x.2.2.2.1 then [(49 : UInt8)] else [48]) = [49] := by cases x.2.2.2.1; exact .inl rfl; exact .inr rfl
  rw [if_pos (show y5U = y5U ∧ ([] : List Tra) = [] ∧ x.1 ≠ [] ∧ _ from ⟨rfl,rfl,h1,hq⟩),sgn9 hx.n1,sgn9 hx.n2]
  obtain ⟨x1,x2,x3,x4,x5⟩ := x;cases x4 <;> rfl
theorem yPu (c1 : List Sta) (c2 : List Tra) (x : Tra) (hx : SmallT x) (hn : isNm x.2.1 = true) : rdL (c1,c2) (yf 32 (lnT x)) = some (c1,c2 ++ [x]) := by
  obtain ⟨h1,h2,_⟩ := yA2 hn;unfold lnT;rw [y31 32 _ (by simp) (by
    intro y hy;simp only [List.mem_cons,List.not_mem_nil,or_false] at hy;rcases hy with rfl | rfl | rfl | rfl | rfl | rfl
    · decide
    · exact (y0U _).1
    · exact h2
    · exact (y0U _).1
    · exact (y0U _).1
    · exact (y0U _).1)]
  unfold rdL;dsimp only;rw [if_pos (show MOVE = MOVE ∧ x.2.1 ≠ [] from ⟨rfl,h1⟩),sgn9 hx.n1,sgn9 hx.n2,sgn9 hx.n3,sgn9 hx.n4]
  rfl
theorem yGt : ∀ (l c1 : List Sta),(∀ x ∈ l,SmallS x ∧ isNm x.1 = true) → y5X (c1,[]) (l.map lnS) = some (c1 ++ l,[])
  | [],c1,_ => by simp [y5X]
  | x :: l,c1,h => by
    obtain ⟨h1,h2⟩ := h x (List.mem_cons_self ..);simp only [List.map_cons,y5X];rw [yOj c1 x h1 h2,Option.bind_some,yGt l (c1 ++ [x]) fun y hy => h y (List.mem_cons_of_mem _ hy)]
    simp
theorem yGr (c1 : List Sta) : ∀ (l c2 : List Tra),(∀ x ∈ l,SmallT x ∧ isNm x.2.1 = true) → y5X (c1,c2) (l.map lnT) = some (c1,c2 ++ l)
  | [],c2,_ => by simp [y5X]
  | x :: l,c2,h => by
    obtain ⟨h1,h2⟩ := h x (List.mem_cons_self ..);simp only [List.map_cons,y5X];rw [yPu c1 c2 x h1 h2,Option.bind_some,yGr c1 l (c2 ++ [x]) fun y hy => h y (List.mem_cons_of_mem _ hy)]
    simp
def lns (b : Cha) : List Str := b.1.map lnS ++ b.2.1.map lnT
theorem yLT {b : Cha} (h : yk b = 0) : y5X ([],[]) (lns b) = some (b.1,b.2.1) := by
  have hs := y5I h;have hv := y4I b h;unfold lns;rw [y8S,yGt b.1 [] fun x hx => ⟨hs.sta x hx,yAT h x hx⟩,Option.bind_some,List.nil_append,yGr b.1 b.2.1 [] fun x hx => ⟨hs.tra x hx,(hv.tra x hx).2.2.2.2.1⟩,List.nil_append]
theorem yAa {b : Cha} (h : yk b = 0) : ∀ l ∈ lns b,(10 : UInt8) ∉ l ∧ l ≠ [] := by
  have hv := y4I b h;intro l hl;rcases List.mem_append.1 hl with hl | hl
  · obtain ⟨x,hx,rfl⟩ := List.mem_map.1 hl;obtain ⟨h1,h2,h3⟩ := yA2 (yAT h x hx);refine ⟨y6O (by decide) fun y hy => ?_,by simp [lnS,y0a,y5U]⟩
    simp only [List.mem_cons,List.not_mem_nil,or_false] at hy;rcases hy with rfl | rfl | rfl | rfl | rfl
    · decide
    · exact h3
    · exact (y0U _).2
    · exact (y0U _).2
    · exact (yEj _).2
  · obtain ⟨x,hx,rfl⟩ := List.mem_map.1 hl;obtain ⟨h1,h2,h3⟩ := yA2 (hv.tra x hx).2.2.2.2.1;refine ⟨y6O (by decide) fun y hy => ?_,by simp [lnT,y0a,MOVE]⟩
    simp only [List.mem_cons,List.not_mem_nil,or_false] at hy;rcases hy with rfl | rfl | rfl | rfl | rfl | rfl
    · decide
    · exact (y0U _).2
    · exact h3
    · exact (y0U _).2
    · exact (y0U _).2
    · exact (y0U _).2
theorem y99 : ∀ (l : List Str),(∀ x ∈ l,(10 : UInt8) ∉ x) → yf 10 (ends l) = l ++ [[]]
  | [],_ => rfl
  | x :: l,h => by
    unfold ends;rw [y2g 10 x _ (h x (List.mem_cons_self ..)),y99 l fun y hy => h y (List.mem_cons_of_mem _ hy)]
    rfl
theorem yCF : ∀ (l : List Str),l ≠ [] → ends l = y0a 10 l ++ [10]
  | [],h => absurd rfl h
  | [x],_ => by simp [ends,y0a]
  | x :: y :: r,_ => by
    rw [y25 10 x (by simp)]
    unfold ends;rw [yCF (y :: r) (by simp)]
    simp
theorem yHL {b : Cha} (h : yk b = 0) : yf 10 (prn b) = lns b ++ [[]] := y99 (lns b) fun l hl => (yAa h l hl).1
theorem yG0 {b : Cha} (h : yk b = 0) : prs (prn b) = (b,0,0,()) := by
  unfold prs;rw [yHL h,yAs (lns b) [[]] 0 ([],[]) (b.1,b.2.1) (by simp) (yLT h)]
  unfold prsL;rw [if_pos rfl];show (if yk b = 0 then _ else _) = _
  rw [if_pos h]
theorem yOC {b : Cha} (h : yk b = 0) : lns b ≠ [] := by
  have := (y4I b h).pos;unfold lns;cases hb : b.1 with
  | nil => rw [hb] at this; simp at this
  | cons x l => simp
theorem yND (b : Cha) : (lns b).length = b.1.length + b.2.1.length := by simp [lns]
theorem yLx {b : Cha} (h : yk b = 0) : prs ((prn b).take ((prn b).length - 1)) = (Z0,((b.1.length + b.2.1.length - 1 : Nat) : Int),26,()) := by
  have hne := yOC h;have e1 : prn b = y0a 10 (lns b) ++ [10] := yCF (lns b) hne;have e2 : (prn b).take ((prn b).length - 1) = y0a 10 (lns b) := by
    rw [e1,List.length_append,List.length_singleton,Nat.add_sub_cancel,List.take_left]
  rw [e2];unfold prs;rw [y31 10 (lns b) hne fun l hl => (yAa h l hl).1]
  obtain ⟨a,t,ht⟩ : ∃ a t,lns b = a ++ [t] := ⟨(lns b).dropLast,(lns b).getLast hne,(List.dropLast_concat_getLast hne).symm⟩;have hr := yLT h;rw [ht,y8S] at hr;obtain ⟨c',hc,_⟩ := Option.bind_eq_some_iff.1 hr;have htn : t ≠ [] := (yAa h t (by rw [ht]; simp)).2
  have hlen := yND b;rw [ht,yAs a [t] 0 ([],[]) c' (by simp) hc]
  rw [ht,List.length_append,List.length_singleton] at hlen;unfold prsL;rw [if_neg htn,show 0 + a.length = b.1.length + b.2.1.length - 1 by omega]
theorem yIa {c : Cha} (h : yk c = 0) : 10 ≤ (prn c).length := by
  have hp := (y4I c h).pos;unfold prn;cases hc : c.1 with
  | nil => rw [hc] at hp; simp at hp
  | cons x l =>
    have h1 := List.length_pos_iff.2 (yH2 x.2.1);have h2 := List.length_pos_iff.2 (yH2 x.2.2.1);simp only [List.map_cons,List.cons_append,ends,lnS,y0a,List.length_append,List.length_cons,show y5U.length = 5 from rfl]
    omega
theorem yFK (c : Cha) (hc : yk c = 0) : y5h 0 c (prn c,0,()) = some (true,()) := by
  have hs := y5I hc;have hlen := yIy hs;have hten := yIa hc;have h1 := hs.sts;have h2 := hs.tras;have h3 := hs.pos;unfold y5h;dsimp only;rw [w64 (n := ((prn c).length : Int) - 1) (by omega) (by omega),bT (by rw [dT (by omega),dT (by omega)]; rfl),show (((prn c).length : Int) - 1).toNat = (prn c).length - 1 by omega,y7l _ (by simp; omega),Option.bind_some,yLx hc]
  dsimp only;rw [bT (by rfl),w64 (n := (c.1.length : Int) + (c.2.1.length : Int)) (by omega) (by omega),w64 (by omega) (by omega)]
  have : (((c.1.length + c.2.1.length - 1 : Nat) : Int) == (c.1.length : Int) + (c.2.1.length : Int) - 1) = true := by rw [beq_iff_eq]; omega
  rw [this]
theorem yLF (c : Cha) (s : Str) : yJO c s = some (true,()) := by
  obtain ⟨sh,h1,h2⟩ := yKT c;unfold yJO yKp;rw [yFn,Option.bind_some,bF (by rfl),h1,Option.bind_some]
  cases sh with
  | false => rw [bT (by rfl)]; rfl
  | true =>
    have hc := h2 rfl;rw [bF (by rfl),yHq,Option.bind_some]
    by_cases h0 : yk c = 0
    · have hmm : (5000 : Nat) < memMax := by decide
      have hlm : (5000 : Nat) < lenMax := by decide
      have hs := y5I h0;have hlen := yIy hs;have hten := yIa h0;have g1 := hs.sts;have g2 := hs.tras;rw [bF (by rw [h0]; rfl)]
      by_cases hl : (s.length : Int) > 400
      · rw [bT (dT hl)]; rfl
      · rw [bF (dF hl),yJF c hc,Option.bind_some,yIC c hc,Option.bind_some,if_pos h0,y7l (prn c) (by omega),Option.bind_some,yG0 h0]
        dsimp only;rw [bF (by rfl),bF (by rfl),bF (by rfl)]
        have ht := yOW (c.1,c.2.1,()) (show c.1.length ≤ memMax by omega) (show c.2.1.length ≤ memMax by omega)
        rw [ht,Option.bind_some,show yD0 ((c.1,c.2.1,()),()).1 c = some (true,()) from yHA c (by omega) (by omega),Option.bind_some,bF (by rfl),bF (dF (by omega)),y7l s (by omega),Option.bind_some]
        by_cases he : (prs s).2.2.1 = 0
        · obtain ⟨e1,e2⟩ := yM4 s he;rw [bT (by rw [he]; rfl)]
          have hz := yJi s;have hsm := y5I e1;have hp := yCM ((prs s).1.1,(prs s).1.2.1,()) (show (prs s).1.1.length ≤ 1000 by omega) (show (prs s).1.2.1.length ≤ 1000 by omega) ⟨fun x hx => by have := (hsm.sta x hx).name; omega,fun x hx => by have := (hsm.tra x hx).event; omega⟩
          have e1' : yk ((prs s).1.1,(prs s).1.2.1,()) = 0 := e1;have e2' : prn ((prs s).1.1,(prs s).1.2.1,()) = s := e2;rw [hp,Option.bind_some,if_pos e1',bF (by rfl),e2',bF (by simp)]
          exact yFK c h0
        · rw [bF (by rw [beq_eq_false_iff_ne]; exact he)]
          exact yFK c h0
    · rw [bT (by rw [bne_iff_ne]; exact h0)]; rfl
end Go.Tw
end
