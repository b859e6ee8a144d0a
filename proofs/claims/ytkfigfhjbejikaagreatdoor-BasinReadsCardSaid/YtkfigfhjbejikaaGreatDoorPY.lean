import Derived.Test.YtkfigfhjbejikaaGreatDoorPX
import Derived.Test.YtkfigfhjbejikaaGreatDoorPA
import Derived.Test.YtkfigfhjbejikaaGreatDoorXB
set_option linter.all false
section
set_option maxRecDepth 1000000
namespace Go.Tw
open Go.Vx Go.Vx.B Go.S Go.SA Go.Lib
def NODE : Str := [110,111,100,101]
def Z0 : Bas := ([],[],())
def rdL (c : List Nod × List Lnk) (w : List Str) : Option (List Nod × List Lnk) :=
  match w with
  | [] => none
  | k :: r => if k = NODE then (match r with
      | [nm,x,y] => if nm = [] ∨ 0 < c.2.length then none else (sgn 9 x).bind fun x => (sgn 9 y).map fun y => (c.1 ++ [(nm,x,y,())],c.2)
      | _ => none)
    else (match r with
      | [x,y,z,u] => if k = [] then none else (sgn 9 x).bind fun x => (sgn 9 y).bind fun y => (sgn 9 z).bind fun z => (sgn 9 u).map fun u => (c.1,c.2 ++ [(k,x,y,z,u,())])
      | _ => none)
def prsL (n : Nat) (c : List Nod × List Lnk) : List Str → Bas × Int × Int × Unit
  | [] => (Z0,n,26,())
  | [t] => if t = [] then (if yv (c.1,c.2,()) = 0 then ((c.1,c.2,()),0,0,()) else (Z0,n,yv (c.1,c.2,()),())) else (Z0,n,26,())
  | l :: t :: ls => match rdL c (yc 32 l) with
    | none => (Z0,n,26,())
    | some c' => prsL (n + 1) c' (t :: ls)
def prs (s : Str) : Bas × Int × Int × Unit := if 4096 < s.length then (Z0,0,27,()) else prsL 0 ([],[]) (yc 10 s)
theorem y8E (n : Nat) (c : List Nod × List Lnk) (l : Str) {r : List Str} (h : r ≠ []) : prsL n c (l :: r) = (match rdL c (yc 32 l) with | none => (Z0,(n : Int),26,()) | some c' => prsL (n + 1) c' r) := by
  cases r with
  | nil => exact absurd rfl h
  | cons t ls => rfl
def bad (n : Nat) : (Bas × Int × Int × Unit) ⊕ (List UInt8 × Int × List Nod × List Lnk) := .inl (Z0,(n : Int),26,())
theorem yNL (n : Nat) (hn : n ≤ 5000) (c1 : List Nod) (c2 : List Lnk) (j1 k w1 w2 w3 : Str) (h3 : w3.length ≤ 281474976710656) (hm : c1.length + 1 ≤ memMax) (j : Bool) (a : Int × Bool × Unit) :
    y5e 0 0 (n : Int) c1 c2 j1 ([k,w1,w2,w3],()) j a = some (if (j || wrg w3) = true then bad n else .inr (j1,((n + 1 : Nat) : Int),c1 ++ [(w1,a.1,atv w3,())],c2)) := by
  have e3 : idx (List.drop (Int.toNat (1 : Int)) (List.drop (Int.toNat (2 : Int)) [k,w1,w2,w3])) (0 : Int) = some w3 := rfl;have e1 : idx [k,w1,w2,w3] (1 : Int) = some w1 := rfl;have el : (decide ((0 : Int) ≤ 1) && decide ((1 : Int) ≤ ((List.drop (Int.toNat (1 : Int)) (List.drop (Int.toNat (2 : Int)) [k,w1,w2,w3])).length : Int))) = true := rfl;unfold y5e;simp only [e3,Option.bind_some,e1];rw [bT el,yAD w3 h3,Option.bind_some];simp only [Option.bind_some,y6w _ (yIi w3)];have hmm : ∀ A B : Option ((Bas × Int × Int × Unit) ⊕ (List UInt8 × Int × List Nod × List Lnk)),(bif decide (c1.length + 1 ≤ memMax) then A else B) = A := fun A B => bT (dT hm)
  cases j with
  | true => simp only [cond_true,Bool.true_or,if_true]; rw [hmm]; rfl
  | false =>
    simp only [cond_false,Bool.false_or];unfold wrg;cases atk w3 with
    | false => simp only [Bool.not_false,cond_true,Bool.true_or,if_true]; rw [hmm]; rfl
    | true =>
      simp only [Bool.not_true,cond_false,Bool.false_or];cases (itoa (atv w3) == w3) with
      | false => simp only [Bool.not_false,cond_true,Bool.true_or,if_true]; rw [hmm]; rfl
      | true =>
        simp only [Bool.not_true,cond_false,Bool.false_or];rw [hmm];by_cases h9 : 9 < (trimPrefix w3 [45]).length
        · rw [dT (by omega),dT h9]; rfl
        · rw [dF (by omega),dF h9]
          simp only [Bool.not_false,Bool.not_true,cond_false];rw [y29 (by omega) (by omega)]
          rfl
theorem yEB (ws : List Str) (n : Nat) (j1 k18 : Str) (c1 : List Nod) (c2 : List Lnk) (i : Nat) (w : Str) (rest : List Str) (wr : Bool) (arr : List Int) (hw : w.length ≤ 281474976710656) (hi : i < 4) (ha : arr.length = 4) :
    y7Y ws 0 0 (n : Int) j1 c1 c2 k18 false (i : Int) (w :: rest) wr arr = some (.inr (rest,wr || wrg w,arr.set i (atv w))) := by
  have e0 : idx (w :: rest) (0 : Int) = some w := y4U (w :: rest) 0;have el : (decide ((0 : Int) ≤ 1) && decide ((1 : Int) ≤ (((w :: rest).length : Nat) : Int))) = true := by rw [dT (by omega),dT (by simp only [List.length_cons]; omega)]; rfl
  have eb : (decide ((0 : Int) ≤ (i : Int)) && decide ((i : Int) < ((4 : Nat) : Int))) = true := by rw [dT (by omega),dT (by omega)]; rfl
  have ea : arr[i]? = some arr[i] := List.getElem?_eq_getElem (by omega)
  unfold y7Y;rw [e0,Option.bind_some,bT el,yAD w hw];simp only [Option.bind_some,y6w _ (yIi w),Int.toNat_natCast,ea,List.drop_succ_cons,List.drop_zero,show Int.toNat (1 : Int) = 1 from rfl]
  cases wr with
  | true => simp only [cond_true,Bool.true_or]; rw [bT eb]
  | false =>
    simp only [cond_false,Bool.false_or];unfold wrg;cases atk w with
    | false => simp only [Bool.not_false,cond_true,Bool.true_or]; rw [bT eb]
    | true =>
      simp only [Bool.not_true,cond_false,Bool.false_or];cases (itoa (atv w) == w) with
      | false => simp only [Bool.not_false,cond_true,Bool.true_or]; rw [bT eb]
      | true =>
        simp only [Bool.not_true,cond_false,Bool.false_or];rw [bT eb];by_cases h9 : 9 < (trimPrefix w [45]).length
        · rw [dT (by omega),dT h9]
        · rw [dF (by omega),dF h9]
theorem yNC (k : Str) (ws : List Str) (n : Nat) (hn : n ≤ 5000) (j1 k18 : Str) (c1 : List Nod) (c2 : List Lnk) (hm : c2.length + 1 ≤ memMax) (w : List Str) (wr : Bool) (x y z u : Int) :
    y7J (k :: ws) 0 0 (n : Int) j1 c1 c2 k18 false w wr [x,y,z,u] = some (if wr = true then bad n else .inr (j1,((n + 1 : Nat) : Int),c1,c2 ++ [(k,x,y,z,u,())])) := by
  have e0 : idx (k :: ws) (0 : Int) = some k := y4U (k :: ws) 0;unfold y7J;rw [e0];simp only [show ([x,y,z,u] : List Int)[Int.toNat (0 : Int)]? = some x from rfl,show ([x,y,z,u] : List Int)[Int.toNat (1 : Int)]? = some y from rfl,show ([x,y,z,u] : List Int)[Int.toNat (2 : Int)]? = some z from rfl,
    show ([x,y,z,u] : List Int)[Int.toNat (3 : Int)]? = some u from rfl,Option.bind_some]
  rw [bT (dT hm),cond_false];cases wr with
  | true => rfl
  | false =>
    simp only [Bool.not_false,Bool.not_true,cond_false];rw [y29 (by omega) (by omega)]
    rfl
theorem yOz (n : Nat) (hn : n ≤ 5000) (c : List Nod × List Lnk) (x j1 : Str) (hx : x.length ≤ 5000) (h1 : c.1.length ≤ 5000) (h2 : c.2.length ≤ 5000) :
    y5r 0 0 (n : Int) c.1 c.2 j1 (x ++ [10]) = some (match rdL c (yc 32 x) with | none => bad n | some c' => .inr (j1,((n + 1 : Nat) : Int),c'.1,c'.2)) := by
  have hlen : ∀ w ∈ yc 32 x,w.length ≤ 281474976710656 := fun w hw => by
    have := y3v 32 x w hw;omega
  unfold y5r;rw [yGe x (by omega),Option.bind_some,yBK 32 x (by omega),Option.bind_some,bF (by rfl)]
  cases hs : yc 32 x with
  | nil => exact absurd hs (y2K 32 x)
  | cons k r =>
    rw [hs] at hlen;have e0 : idx (k :: r) (0 : Int) = some k := y4U (k :: r) 0;simp only [e0,Option.bind_some];by_cases hk : k = NODE
    · rw [bT (by rw [hk]; rfl)]
      unfold rdL;dsimp only;rw [if_pos hk];match r,hlen with
      | [],_ => rw [bT (by rfl)]; rfl
      | [_],_ => rw [bT (by rfl)]; rfl
      | [_,_],_ => rw [bT (by rfl)]; rfl
      | _ :: _ :: _ :: _ :: r,_ =>
        rw [bT (by rw [bne_iff_ne]; simp only [List.length_cons]; omega)]; rfl
      | [w1,w2,w3],hlen =>
        have hw2 := hlen w2 (by simp)
        have hw3 := hlen w3 (by simp)
        rw [bF (by rfl),show idx [k,w1,w2,w3] (1 : Int) = some w1 from rfl,Option.bind_some]
        dsimp only;by_cases hn0 : w1 = []
        · rw [bT (by rw [hn0]; rfl),if_pos (.inl hn0)]; rfl
        · rw [bF (by rw [beq_eq_false_iff_ne]; exact hn0)]
          by_cases hl : 0 < c.2.length
          · rw [bT (dT (by omega)),if_pos (.inr hl)]; rfl
          · rw [bF (dF (by omega)),if_neg (by rintro (h | h); exact hn0 h; exact hl h),bT (by rfl),show idx (List.drop (Int.toNat (2 : Int)) [k,w1,w2,w3]) (0 : Int) = some w2 from rfl,Option.bind_some,bT (by rfl),yAD w2 hw2]
            simp only [Option.bind_some,y6w _ (yIi w2),yNL n hn c.1 c.2 j1 k w1 w2 w3 hw3 (by simp only [memMax]; omega),Bool.true_or,if_true]
            rw [y5i w2,y5i w3];have key : ∀ q : Bool,(some (if (q || wrg w3) = true then bad n else Sum.inr (j1,((n + 1 : Nat) : Int),c.1 ++ [(w1,atv w2,atv w3,())],c.2)) : Option ((Bas × Int × Int × Unit) ⊕ (List UInt8 × Int × List Nod × List Lnk))) =
                some (match ((if q = true then none else some (atv w2)).bind fun x => (if wrg w3 = true then none else some (atv w3)).map fun y => (c.1 ++ [(w1,x,y,())],c.2)) with | none => bad n | some c' => .inr (j1,((n + 1 : Nat) : Int),c'.1,c'.2)) := fun q => by
              cases q <;> cases wrg w3 <;> rfl
            rw [← key];unfold wrg;cases atk w2 with
            | false => rfl
            | true =>
              simp only [Bool.not_true,cond_false,Bool.false_or];cases (itoa (atv w2) == w2) with
              | false => rfl
              | true =>
                simp only [Bool.not_true,cond_false,Bool.false_or];by_cases h9 : 9 < (trimPrefix w2 [45]).length
                · rw [dT (show ((trimPrefix w2 [45]).length : Int) > 9 by omega),dT h9]
                · rw [dF (show ¬ ((trimPrefix w2 [45]).length : Int) > 9 by omega),dF h9]
    · rw [bF (by rw [beq_eq_false_iff_ne]; exact hk)]
      unfold rdL;dsimp only;rw [if_neg hk];match r,hlen with
      | [],_ => rw [bT (by rfl)]; rfl
      | [_],_ => rw [bT (by rfl)]; rfl
      | [_,_],_ => rw [bT (by rfl)]; rfl
      | [_,_,_],_ => rw [bT (by rfl)]; rfl
      | _ :: _ :: _ :: _ :: _ :: r,_ =>
        rw [bT (by rw [bne_iff_ne]; simp only [List.length_cons]; omega)]; rfl
      | [w1,w2,w3,w4],hlen =>
        have hw1 := hlen w1 (by simp)
        have hw2 := hlen w2 (by simp)
        have hw3 := hlen w3 (by simp)
        have hw4 := hlen w4 (by simp)
        rw [bF (by rfl)]
        by_cases hk0 : k = []
        · rw [bT (by rw [hk0]; rfl)]
          dsimp only;rw [if_pos hk0];rfl
        · rw [bF (by rw [beq_eq_false_iff_ne]; exact hk0),bT (by rfl),bT (by rfl),show ((4 : Int) - 0).toNat = 4 from rfl,show List.drop (Int.toNat (1 : Int)) [k,w1,w2,w3,w4] = [w1,w2,w3,w4] from rfl]
          dsimp only;rw [if_neg hk0];simp only [y1R];have g1 := yEB [k,w1,w2,w3,w4] n j1 (x ++ [10]) c.1 c.2 0 w1 [w2,w3,w4] false [0,0,0,0] hw1 (by decide) rfl
          have g2 := yEB [k,w1,w2,w3,w4] n j1 (x ++ [10]) c.1 c.2 1 w2 [w3,w4] (false || wrg w1) ([0,0,0,0].set 0 (atv w1)) hw2 (by decide) rfl
          have g3 := yEB [k,w1,w2,w3,w4] n j1 (x ++ [10]) c.1 c.2 2 w3 [w4] (false || wrg w1 || wrg w2) (([0,0,0,0].set 0 (atv w1)).set 1 (atv w2)) hw3 (by decide) rfl
          have g4 := yEB [k,w1,w2,w3,w4] n j1 (x ++ [10]) c.1 c.2 3 w4 [] (false || wrg w1 || wrg w2 || wrg w3) ((([0,0,0,0].set 0 (atv w1)).set 1 (atv w2)).set 2 (atv w3)) hw4 (by decide) rfl
          rw [show ((0 : Nat) : Int) = 0 from rfl] at g1
          rw [g1];simp only [Option.bind_some];rw [show (0 : Int) + 1 = ((1 : Nat) : Int) from rfl,g2]
          simp only [Option.bind_some];rw [show ((1 : Nat) : Int) + 1 = ((2 : Nat) : Int) from rfl,g3]
          simp only [Option.bind_some];rw [show ((2 : Nat) : Int) + 1 = ((3 : Nat) : Int) from rfl,g4]
          simp only [Option.bind_some];rw [show ((([0,0,0,0].set 0 (atv w1)).set 1 (atv w2)).set 2 (atv w3)).set 3 (atv w4) = [atv w1,atv w2,atv w3,atv w4] from rfl,yNC k [w1,w2,w3,w4] n hn j1 (x ++ [10]) c.1 c.2 (by simp only [memMax]; omega),
            y5i w1,y5i w2,y5i w3,y5i w4]
          cases wrg w1 <;> cases wrg w2 <;> cases wrg w3 <;> cases wrg w4 <;> rfl
def Inv (n : Nat) (c : List Nod × List Lnk) (m : Nat) : Prop := c.1.length ≤ n ∧ c.2.length ≤ n ∧ n + m ≤ 4097 ∧ ∀ x ∈ c.1,x.1.length ≤ 4097
theorem yMD {n m : Nat} {c c' : List Nod × List Lnk} {w : List Str} (h : Inv n c (m + 1)) (hw : ∀ x ∈ w,x.length ≤ 4097) (hr : rdL c w = some c') : Inv (n + 1) c' m := by
  obtain ⟨h1,h2,h3,h4⟩ := h;unfold rdL at hr;split at hr
  · cases hr
  · rename_i k r;split at hr
    · split at hr
      · rename_i nm x y;split at hr
        · cases hr
        · obtain ⟨a,_,hr⟩ := Option.bind_eq_some_iff.1 hr;obtain ⟨b,_,rfl⟩ := Option.map_eq_some_iff.1 hr;refine ⟨by simp; omega,by show c.2.length ≤ n + 1; omega,by omega,fun z hz => ?_⟩
          rcases List.mem_append.1 hz with hz | hz
          · exact h4 z hz
          · rw [List.mem_singleton] at hz; subst hz; exact hw nm (by simp)
      · cases hr
    · split at hr
      · split at hr
        · cases hr
        · obtain ⟨a,_,hr⟩ := Option.bind_eq_some_iff.1 hr;obtain ⟨b,_,hr⟩ := Option.bind_eq_some_iff.1 hr;obtain ⟨d,_,hr⟩ := Option.bind_eq_some_iff.1 hr;obtain ⟨e,_,rfl⟩ := Option.map_eq_some_iff.1 hr;exact ⟨by show c.1.length ≤ n + 1; omega,by simp; omega,by omega,h4⟩
      · cases hr
theorem y79 : ∀ (m : Nat) (s : Str) (n : Nat) (c : List Nod × List Lnk),s.length < m → Inv n c s.length →
    yDO (fun s__ => y4b 0 0 s__.1 s__.2.1 s__.2.2.1 s__.2.2.2) m (s,(n : Int),c.1,c.2) = some (prsL n c (yc 10 s))
  | 0,s,n,c,h,_ => by omega
  | m + 1,s,n,c,h,hI => by
    obtain ⟨h1,h2,h3,h4⟩ := hI;simp only [yDO];by_cases h0 : s = []
    · subst h0;have hb : y4b 0 0 [] (n : Int) c.1 c.2 = some (.inl (prsL n c (yc 10 []))) := by
        unfold y4b;rw [bF (dF (by simp)),y7c (c.1,c.2,()) (fun x hx => by have := h4 x hx; simp only [lenMax]; omega),Option.bind_some]
        unfold yc prsL;rw [if_pos rfl];by_cases he : yv (c.1,c.2,()) = 0
        · rw [bF (by rw [he]; rfl),if_pos he]
        · rw [bT (by rw [bne_iff_ne]; exact he),if_neg he]; rfl
      rw [hb];rfl
    · have hpos : 0 < s.length := List.length_pos_iff.2 h0;have e10 : (Int.toNat (10 : Int)).toUInt8 = 10 := rfl;rcases yAb s 10 with ⟨hi,hno⟩ | ⟨x,t,rfl,hno,hi⟩
      · have hb : y4b 0 0 s (n : Int) c.1 c.2 = some (.inl (prsL n c (yc 10 s))) := by
          unfold y4b;rw [bT (dT (by omega)),e10,hi,bF (dF (by omega))]
          unfold y5r;rw [yLr s (by omega) hno,Option.bind_some,yBK 32 s (by omega),Option.bind_some,bT (by rfl),y2B 10 s hno]
          unfold prsL;rw [if_neg h0];rfl
        rw [hb];rfl
      · have hlen : (x ++ 10 :: t).length = x.length + 1 + t.length := by simp; omega
        rw [hlen] at h h3;have hb : y4b 0 0 (x ++ 10 :: t) (n : Int) c.1 c.2 = some (match rdL c (yc 32 x) with | none => bad n | some c' => .inr (t,((n + 1 : Nat) : Int),c'.1,c'.2)) := by
          unfold y4b;rw [bT (dT (by omega)),e10,hi,bT (dT (by omega)),y29 (by omega) (by omega),
            bT (by rw [dT (by omega),dT (by rw [hlen]; omega)]; rfl),bT (by rw [dT (by omega),dT (by rw [hlen]; omega)]; rfl),show ((x.length : Int) + 1).toNat = x.length + 1 by omega]
          have e1 : List.drop (x.length + 1) (x ++ 10 :: t) = t := by rw [← List.drop_drop,List.drop_left]; rfl
          have e2 : List.take (x.length + 1) (x ++ 10 :: t) = x ++ [10] := by rw [show x ++ 10 :: t = (x ++ [10]) ++ t by simp,show x.length + 1 = (x ++ [10]).length by simp,List.take_left]
          rw [e1,e2];exact yOz n (by omega) c x t (by omega) (by omega) (by omega)
        rw [hb,y24 10 x t hno,y8E n c x (y2K 10 t)];cases hr : rdL c (yc 32 x) with
        | none => rfl
        | some c' =>
          simp only [Option.bind_some];exact y79 m t (n + 1) c' (by omega) (yMD (m := x.length + t.length) ⟨h1,h2,by omega,h4⟩ (fun w hw => by have := y3v 32 x w hw; omega) hr |> fun ⟨a,b,d,e⟩ => ⟨a,b,by omega,e⟩)
theorem y78 (s : Str) (h : s.length < lenMax) : yFo s = some (prs s) := by
  unfold yFo prs;by_cases hl : 4096 < s.length
  · rw [bT (dT (by omega)),if_pos hl]; rfl
  · rw [bF (dF (by omega)),if_neg hl]
    exact y79 wMax s 0 ([],[]) (by simp only [wMax]; omega) ⟨Nat.le_refl _,Nat.le_refl _,by omega,fun x hx => by cases hx⟩
end Go.Tw
end
section
set_option maxRecDepth 1000000
namespace Go.Tw
open Go.Vx Go.Vx.B Go.S Go.SA Go.Lib
def lnN (x : Nod) : Str := y0s 32 [NODE,x.1,itoa x.2.1,itoa x.2.2.1]
def lnL (x : Lnk) : Str := y0s 32 [x.1,itoa x.2.1,itoa x.2.2.1,itoa x.2.2.2.1,itoa x.2.2.2.2.1]
def ends : List Str → Str
  | [] => []
  | l :: r => l ++ 10 :: ends r
def prn (b : Bas) : Str := ends (b.1.map lnN ++ b.2.1.map lnL)
theorem y6d : ∀ (a b : List Str),ends (a ++ b) = ends a ++ ends b
  | [],b => rfl
  | l :: a,b => by simp [ends,y6d a b]
def N9 (n : Int) : Prop := n.natAbs < 10 ^ 9
theorem N9.i64 {n : Int} (h : N9 n) : I64 n := by unfold N9 at h; unfold I64; omega
theorem N9.len {n : Int} (h : N9 n) : (itoa n).length ≤ 10 := by
  have := yFT 8 n.natAbs h;unfold itoa;split
  · simp only [List.length_cons,decDigits_length]; omega
  · rw [decDigits_length,show n.toNat = n.natAbs by omega]; omega
structure SmallN (x : Nod) : Prop where
  name : x.1.length ≤ 60
  area : N9 x.2.1
  limit : N9 x.2.2.1
structure SmallL (x : Lnk) : Prop where
  kind : x.1.length ≤ 60
  n1 : N9 x.2.1
  n2 : N9 x.2.2.1
  n3 : N9 x.2.2.2.1
  n4 : N9 x.2.2.2.2.1
theorem SmallN.len {x : Nod} (h : SmallN x) : (lnN x).length ≤ 100 := by
  have h1 := h.area.len;have h2 := h.limit.len;have h3 := h.name;unfold lnN y0s y0s y0s y0s;simp only [List.length_append,List.length_cons,show NODE.length = 4 from rfl]
  omega
theorem SmallL.len {x : Lnk} (h : SmallL x) : (lnL x).length ≤ 120 := by
  have h1 := h.n1.len;have h2 := h.n2.len;have h3 := h.n3.len;have h4 := h.n4.len;have h5 := h.kind;unfold lnL y0s y0s y0s y0s y0s;simp only [List.length_append,List.length_cons];omega
theorem yAA {c : Nat} : ∀ {l : List Str},(∀ x ∈ l,x.length ≤ c) → (ends l).length ≤ l.length * (c + 1)
  | [],_ => by simp [ends]
  | x :: l,h => by
    have h1 := h x (List.mem_cons_self ..);have h2 := yAA (l := l) fun y hy => h y (List.mem_cons_of_mem _ hy)
    simp only [ends,List.length_append,List.length_cons,Nat.succ_mul];omega
theorem y62 (of : Int × Unit → Option (List UInt8 × Unit)) (L : List Int) (h : ∀ n,I64 n → of (n,()) = some (itoa n,())) : ∀ (l : List Int) (i : Int) (acc : List Str),(∀ n ∈ l,I64 n) → acc.length + l.length ≤ memMax →
    yK (fun i__ e__ s__ => yI5 of L i__ e__ s__) (fun s__ => yJu of L s__) i l acc = some (acc ++ l.map itoa,())
  | [],i,acc,_,_ => by simp [yK,yJu]
  | n :: l,i,acc,hn,hl => by
    simp only [List.length_cons] at hl;simp only [yK];have hb : yI5 of L i n acc = some (.inr (acc ++ [itoa n])) := by
      unfold yI5;rw [h n (hn n (List.mem_cons_self ..)),Option.bind_some,bT (dT (by omega))]
    rw [hb];simp only [Option.bind_some];rw [y62 of L h l (i + 1) (acc ++ [itoa n]) (fun m hm => hn m (List.mem_cons_of_mem _ hm)) (by simp; omega)]
    simp
theorem y90 (l : List Int) (hn : ∀ n ∈ l,I64 n) (hl : l.length ≤ memMax) : zM_M l (fun (x : Int × Unit) => y9n x.1) = some (l.map itoa,()) := by
  unfold zM_M;have := y28;rw [bT (dT (by omega)),y62 _ l (fun n h => y6w n h) l 0 [] hn (by simpa using hl)]
  rfl
theorem y5h {α β σ : Type} {body : Int → α → σ → Option (β ⊕ σ)} {fin : σ → Option β} (g : Str → σ) (f : α → Str) (K B : Nat) : ∀ (l : List α) (i : Int) (s : Str),
    (∀ i e s,e ∈ l → s.length ≤ B → body i e (g s) = some (.inr (g (s ++ f e ++ [10])))) → (∀ e ∈ l,(f e).length ≤ K) → s.length + l.length * (K + 1) ≤ B →
    yK body fin i l (g s) = fin (g (s ++ ends (l.map f)))
  | [],i,s,_,_,_ => by simp [yK,ends]
  | e :: l,i,s,hb,hf,hl => by
    simp only [List.length_cons,Nat.succ_mul] at hl;have h1 := hf e (List.mem_cons_self ..);simp only [yK];rw [hb i e s (List.mem_cons_self ..) (by omega)]
    simp only [Option.bind_some];rw [y5h g f K B l (i + 1) (s ++ f e ++ [10]) (fun i e s he => hb i e s (List.mem_cons_of_mem _ he)) (fun e he => hf e (List.mem_cons_of_mem _ he)) (by simp only [List.length_append,List.length_singleton]; omega)]
    simp [ends]
theorem y3H (s : Str) : (yf s).length = s.length := by simp [yf]
theorem yJ5 (b : Bas) (T : List Nod) (i : Int) (e : Nod) (s : Str) (he : SmallN e) (hs : s.length ≤ 1000000) : y9B b T i e (yf s) = some (.inr (yf (s ++ lnN e ++ [10]))) := by
  have hlen := he.len;have hmm : (1000000 : Nat) + 1000 < memMax := by decide
  have hsm : (1000000 : Nat) + 1000 < strMax := by decide
  unfold y9B;rw [y90 _ (by intro n hn; simp only [List.mem_cons,List.not_mem_nil,or_false] at hn; rcases hn with rfl | rfl; exact he.area.i64; exact he.limit.i64) (by show 2 ≤ memMax; decide),Option.bind_some,
    bT (dT (by show 2 + 2 ≤ memMax; decide))]
  have hj : y7t ([[(110 : UInt8),111,100,101],e.1] ++ [e.2.1,e.2.2.1].map itoa) [32] = some (lnN e,()) := yET _ (by show 4 ≤ 140737488355328; decide) (by show (lnN e).length ≤ _; omega)
  rw [hj,Option.bind_some,bT (dT (by show (lnN e).length + 1 < strMax; omega)),bT (dT (by rw [y3H]; show s.length + (lnN e ++ [10]).length ≤ memMax; simp only [List.length_append,List.length_singleton]; omega)),yE2,List.append_assoc]
theorem yKC (T : List Lnk) (i : Int) (e : Lnk) (s : Str) (he : SmallL e) (hs : s.length ≤ 1000000) : yBo T i e (yf s) = some (.inr (yf (s ++ lnL e ++ [10]))) := by
  have hlen := he.len;have hmm : (1000000 : Nat) + 1000 < memMax := by decide
  have hsm : (1000000 : Nat) + 1000 < strMax := by decide
  unfold yBo;rw [y90 _ (by intro n hn; simp only [List.mem_cons,List.not_mem_nil,or_false] at hn; rcases hn with rfl | rfl | rfl | rfl; exact he.n1.i64; exact he.n2.i64; exact he.n3.i64; exact he.n4.i64) (by show 4 ≤ memMax; decide),Option.bind_some,
    bT (dT (by show 1 + 4 ≤ memMax; decide))]
  have hj : y7t ([e.1] ++ [e.2.1,e.2.2.1,e.2.2.2.1,e.2.2.2.2.1].map itoa) [32] = some (lnL e,()) := yET _ (by show 5 ≤ 140737488355328; decide) (by show (lnL e).length ≤ _; omega)
  rw [hj,Option.bind_some,bT (dT (by show (lnL e).length + 1 < strMax; omega)),bT (dT (by rw [y3H]; show s.length + (lnL e ++ [10]).length ≤ memMax; simp only [List.length_append,List.length_singleton]; omega)),yE2,List.append_assoc]
structure SmallB (b : Bas) : Prop where
  pos : 0 < b.1.length
  nodes : b.1.length ≤ 20
  links : b.2.1.length ≤ 20
  node : ∀ x ∈ b.1,SmallN x
  link : ∀ x ∈ b.2.1,SmallL x
theorem yDR {b : Bas} (h : 0 < b.1.length) : 0 < (prn b).length := by
  unfold prn;cases hb : b.1 with
  | nil => rw [hb] at h; simp at h
  | cons x l => simp [ends]; omega
theorem yBO (b : Bas) (h : SmallB b) : (bif decide (List.length (b.fst) < lenMax) then yK (fun i__ e__ s__ => y9B (b) (b.fst) i__ e__ s__) (fun s__ => y8f (b) (b.fst) s__) 0 (b.fst) ([]) else none) = some (prn b,0,()) := by
  have h1 := h.nodes;have h2 := h.links;have hlm : (1000 : Nat) < lenMax := by decide
  have hN := y5h (body := fun i__ e__ s__ => y9B b b.1 i__ e__ s__) (fin := fun s__ => y8f b b.1 s__) yf lnN 100 1000000 b.1 0 [] (fun i e s he hs => yJ5 b b.1 i e s (h.node e he) hs) (fun e he => (h.node e he).len) (by simp; omega)
  rw [bT (dT (by omega))]
  refine hN.trans ?_
  show y8f b b.1 (yf ([] ++ ends (b.1.map lnN))) = _
  rw [List.nil_append];unfold y8f;have hlen := yAA (c := 100) (l := b.1.map lnN) (fun x hx => by obtain ⟨y,hy,rfl⟩ := List.mem_map.1 hx; exact (h.node y hy).len)
  simp only [List.length_map] at hlen;have hL := y5h (body := fun i__ e__ s__ => yBo b.2.1 i__ e__ s__) (fin := fun s__ => yAm b.2.1 s__) yf lnL 120 1000000 b.2.1 0 (ends (b.1.map lnN)) (fun i e s he hs => yKC b.2.1 i e s (h.link e he) hs) (fun e he => (h.link e he).len) (by omega)
  rw [bT (dT (by omega))]
  refine hL.trans ?_
  have e : ends (b.1.map lnN) ++ ends (b.2.1.map lnL) = prn b := by unfold prn; rw [y6d]
  show yAm b.2.1 (yf (ends (b.1.map lnN) ++ ends (b.2.1.map lnL))) = _
  rw [e];unfold yAm;rw [bT (dT (by rw [y3H]; exact yDR h.pos)),bT (by rw [yB6,dT (by rw [y3H]; exact yDR h.pos)]; simp),yFF]
theorem y7P : ∀ {l done : List Nod},y2g done l = 0 → ∀ n ∈ l,isNm n.1 = true
  | [],_,_,n,hn => by simp at hn
  | m :: l,done,h,n,hn => by
    obtain ⟨h1,h2⟩ := y0d (show yx (y5m done m) (y2g (done ++ [m]) l) = 0 from h)
    rcases List.mem_cons.1 hn with rfl | hn
    · have := y0N h1 _ (List.mem_cons_self ..);cases hi : isNm n.1 with
      | true => rfl
      | false => rw [hi] at this; cases this
    · exact y7P h2 n hn
theorem y6n {b : Bas} (h : yv b = 0) : ∀ n ∈ b.1,isNm n.1 = true := by
  obtain ⟨h1,_⟩ := y0d h;obtain ⟨_,_,g3⟩ := y68 h1;exact y7P g3
theorem yAB {s : Str} (h : isNm s = true) : 0 < s.length ∧ s.length ≤ 24 := by
  unfold isNm at h;simp only [Bool.and_eq_true,decide_eq_true_eq] at h;exact h.2
theorem y9U {k : Str} (h : y0x k ≠ none) : k = kB ∨ k = kL ∨ k = kO ∨ k = kP ∨ k = kW := by
  rcases y35 k with h1 | h1 | h1 | h1 | h1 | ⟨h1,h2,h3,h4,h5⟩
  · exact .inl h1
  · exact .inr (.inl h1)
  · exact .inr (.inr (.inl h1))
  · exact .inr (.inr (.inr (.inl h1)))
  · exact .inr (.inr (.inr (.inr h1)))
  · unfold y0x at h;rw [if_neg h1,if_neg h2,if_neg h3,if_neg h4,if_neg h5] at h;exact absurd rfl h
theorem yAh {b : Bas} (h : yv b = 0) : SmallB b := by
  have hb := y15 h;have h8 := hb.nodes;refine ⟨hb.pos,by omega,by have := hb.links; omega,fun x hx => ⟨by have := yAB (y6n h x hx); omega,by have := hb.area x hx; unfold N9; omega,by have := hb.limit x hx; unfold N9; omega⟩,fun x hx => ?_⟩
  have hl := hb.link x hx;refine ⟨?_,by have := hl.from_; unfold N9; omega,by have := hl.to_; unfold N9; omega,by have := hl.at_; unfold N9; omega,by have := hl.rate; unfold N9; omega⟩
  rcases y9U hl.kind with e | e | e | e | e <;> rw [e] <;> decide
theorem yBn (b : Bas) (hn : ∀ n ∈ b.1,n.1.length < lenMax) : yIw b = some (if yv b = 0 then (prn b,0,()) else ([],yv b,())) := by
  unfold yIw;rw [y7c b hn,Option.bind_some];by_cases h : yv b = 0
  · rw [bF (by rw [h]; rfl),if_pos h]
    exact yBO b (yAh h)
  · rw [bT (by rw [bne_iff_ne]; exact h),if_neg h]
theorem y9X (T : List Lnk) (c2 : List Nod) : ∀ (l : List Lnk) (i : Int) (acc : List Lnk),acc.length + l.length ≤ memMax →
    yK (fun i__ e__ s__ => y8j T c2 i__ e__ s__) (fun s__ => yBd T c2 s__) i l acc = some ((c2,acc ++ l,()),())
  | [],i,acc,_ => by simp [yK,yBd]
  | x :: l,i,acc,h => by
    simp only [List.length_cons] at h;simp only [yK];have hb : y8j T c2 i x acc = some (.inr (acc ++ [x])) := by
      unfold y8j;rw [bT (dT (by omega))]
    rw [hb];simp only [Option.bind_some];rw [y9X T c2 l (i + 1) (acc ++ [x]) (by simp; omega)]
    simp
theorem y8o (b : Bas) (h2 : b.2.1.length ≤ memMax) (T : List Nod) : ∀ (l : List Nod) (i : Int) (acc : List Nod),acc.length + l.length ≤ memMax →
    yK (fun i__ e__ s__ => y9N b T [] i__ e__ s__) (fun s__ => yC7 b T [] s__) i l acc = some ((acc ++ l,b.2.1,()),())
  | [],i,acc,_ => by
    have := y28;simp only [yK,yC7];rw [bT (dT (by omega)),y9X b.2.1 acc b.2.1 0 [] (by simpa using h2)]
    simp
  | x :: l,i,acc,h => by
    simp only [List.length_cons] at h;simp only [yK];have hb : y9N b T [] i x acc = some (.inr (acc ++ [x])) := by
      unfold y9N;rw [bT (dT (by omega))]
    rw [hb];simp only [Option.bind_some];rw [y8o b h2 T l (i + 1) (acc ++ [x]) (by simp; omega)]
    simp
theorem yMi (b : Bas) (h1 : b.1.length ≤ memMax) (h2 : b.2.1.length ≤ memMax) : yGE b = some (b,()) := by
  unfold yGE;have := y28;rw [bT (dT (by omega)),y8o b h2 b.1 b.1 0 [] (by simpa using h1)]
  rfl
theorem yGa (b : Bas) (h1 : b.1.length < lenMax) (h2 : b.2.1.length < lenMax) : zx_M b b = some (true,()) := by
  have links : ∀ (l pre : List Lnk),b.2.1 = pre ++ l → yK (fun i__ e__ s__ => yFi b b i__ e__) (fun s__ => yK0 b b) (pre.length : Int) l () = some (true,()) := by
    intro l;induction l with
    | nil => intro pre _; rfl
    | cons x l ih =>
      intro pre h;simp only [yK];have hg : idx b.2.1 (pre.length : Int) = some x := by rw [y4U,h]; simp
      have hb : yFi b b (pre.length : Int) x = some (.inr ()) := by
        unfold yFi;rw [hg,Option.bind_some,bF (by simp [eqV])]
      rw [hb];simp only [Option.bind_some];have := ih (pre ++ [x]) (by rw [h]; simp)
      rw [show ((pre ++ [x]).length : Int) = (pre.length : Int) + 1 by simp] at this
      exact this
  have nodes : ∀ (l pre : List Nod),b.1 = pre ++ l → yK (fun i__ e__ s__ => yG2 b b i__ e__) (fun s__ => yHF b b) (pre.length : Int) l () = some (true,()) := by
    intro l;induction l with
    | nil =>
      intro pre _;simp only [yK];unfold yHF;rw [bT (dT h2)];exact links b.2.1 [] rfl
    | cons x l ih =>
      intro pre h;simp only [yK];have hg : idx b.1 (pre.length : Int) = some x := by rw [y4U,h]; simp
      have hb : yG2 b b (pre.length : Int) x = some (.inr ()) := by
        unfold yG2;rw [hg,Option.bind_some,bF (by simp [eqV])]
      rw [hb];simp only [Option.bind_some];have := ih (pre ++ [x]) (by rw [h]; simp)
      rw [show ((pre ++ [x]).length : Int) = (pre.length : Int) + 1 by simp] at this
      exact this
  unfold zx_M;rw [bF (by simp),bF (by simp),bT (dT h1)]
  exact nodes b.1 [] rfl
end Go.Tw
end
section
set_option maxRecDepth 1000000
namespace Go.Tw
open Go.Vx Go.Vx.B Go.S Go.SA Go.Lib
theorem yIs (c1 : List Nod) (x : Nod) : prn (c1 ++ [x],[],()) = prn (c1,[],()) ++ lnN x ++ [10] := by
  unfold prn;simp only [List.map_append,List.map_cons,List.map_nil,List.append_nil,y6d,ends];simp
theorem yIx (c1 : List Nod) (c2 : List Lnk) (x : Lnk) : prn (c1,c2 ++ [x],()) = prn (c1,c2,()) ++ lnL x ++ [10] := by
  unfold prn;simp only [List.map_append,List.map_cons,List.map_nil,y6d,ends];simp
theorem yMo {c c' : List Nod × List Lnk} {w : List Str} (hr : rdL c w = some c') : prn (c'.1,c'.2,()) = prn (c.1,c.2,()) ++ y0s 32 w ++ [10] := by
  unfold rdL at hr;split at hr
  · cases hr
  · rename_i k r;split at hr
    · rename_i hk;subst hk;split at hr
      · rename_i nm x y;split at hr
        · cases hr
        · rename_i hn;obtain ⟨a,ha,hr⟩ := Option.bind_eq_some_iff.1 hr;obtain ⟨b,hb,rfl⟩ := Option.map_eq_some_iff.1 hr;have h2 : c.2 = [] := List.eq_nil_of_length_eq_zero (by
            rcases Nat.eq_zero_or_pos c.2.length with h | h
            · exact h
            · exact absurd (.inr h) hn)
          dsimp only;rw [h2,yIs];unfold lnN;rw [(y1t ha).1,(y1t hb).1]
      · cases hr
    · split at hr
      · split at hr
        · cases hr
        · obtain ⟨a,ha,hr⟩ := Option.bind_eq_some_iff.1 hr;obtain ⟨b,hb,hr⟩ := Option.bind_eq_some_iff.1 hr;obtain ⟨d,hd,hr⟩ := Option.bind_eq_some_iff.1 hr;obtain ⟨e,he,rfl⟩ := Option.map_eq_some_iff.1 hr;dsimp only;rw [yIx];unfold lnL;rw [(y1t ha).1,(y1t hb).1,(y1t hd).1,(y1t he).1]
      · cases hr
theorem yEk : ∀ (ls : List Str) (n : Nat) (c : List Nod × List Lnk),ls ≠ [] → (prsL n c ls).2.2.1 = 0 → yv (prsL n c ls).1 = 0 ∧ prn (prsL n c ls).1 = prn (c.1,c.2,()) ++ y0s 10 ls
  | [],_,_,h,_ => absurd rfl h
  | [t],n,c,_,h => by
    unfold prsL at h ⊢;split at h
    · rename_i ht;rw [if_pos ht];split at h
      · rename_i h0;rw [if_pos h0,ht];exact ⟨h0,by simp [y0s]⟩
      · rename_i h0; exact absurd h h0
    · exact absurd h (by show ¬ (26 : Int) = 0; decide)
  | l :: t :: ls,n,c,_,h => by
    rw [y8E n c l (by simp)] at h ⊢
    split at h
    · exact absurd h (by show ¬ (26 : Int) = 0; decide)
    · rename_i c' hr;obtain ⟨h1,h2⟩ := yEk (t :: ls) (n + 1) c' (by simp) h
      refine ⟨h1,?_⟩;rw [h2,yMo hr,y4v,y1x 10 l (by simp)]
      simp
theorem yMh (s : Str) (h : (prs s).2.2.1 = 0) : yv (prs s).1 = 0 ∧ prn (prs s).1 = s := by
  unfold prs at h ⊢;split at h
  · exact absurd h (by decide)
  · rename_i hl;rw [if_neg hl];obtain ⟨h1,h2⟩ := yEk (yc 10 s) 0 ([],[]) (y2K 10 s) h;refine ⟨h1,?_⟩;rw [h2,y4v];rfl
def y5R : List Nod × List Lnk → List Str → Option (List Nod × List Lnk)
  | c,[] => some c
  | c,l :: ls => (rdL c (yc 32 l)).bind fun c' => y5R c' ls
theorem y7Z : ∀ (a b : List Str) (c : List Nod × List Lnk),y5R c (a ++ b) = (y5R c a).bind fun c' => y5R c' b
  | [],_,_ => rfl
  | l :: a,b,c => by
    simp only [List.cons_append,y5R];cases rdL c (yc 32 l) with
    | none => rfl
    | some c' => simp only [Option.bind_some]; exact y7Z a b c'
theorem y9d : ∀ (a r : List Str) (n : Nat) (c c' : List Nod × List Lnk),r ≠ [] → y5R c a = some c' → prsL n c (a ++ r) = prsL (n + a.length) c' r
  | [],r,n,c,c',_,h => by cases h; rfl
  | l :: a,r,n,c,c',hr,h => by
    simp only [y5R] at h;obtain ⟨d,hd,h⟩ := Option.bind_eq_some_iff.1 h;rw [List.cons_append,y8E n c l (by simp [hr]),hd]
    dsimp only;rw [y9d a r (n + 1) d c' hr h,List.length_cons,show n + 1 + a.length = n + (a.length + 1) by omega]
theorem yID {s : Str} (h : isNm s = true) : s ≠ [] ∧ (32 : UInt8) ∉ s ∧ (10 : UInt8) ∉ s := by
  have hl := (yAB h).1;unfold isNm at h;simp only [Bool.and_eq_true] at h;have key : ∀ (b : Bool) (l : List UInt8),nmOk b l = true → ∀ c ∈ l,y46 c.toNat = true ∨ y66 c.toNat = true := by
    intro b l;induction l generalizing b with
    | nil => intro _ c hc; cases hc
    | cons a l ih =>
      intro hh c hc;unfold nmOk at hh;simp only [Bool.and_eq_true,Bool.or_eq_true] at hh;rcases List.mem_cons.1 hc with rfl | hc
      · rcases hh.1 with h1 | h1
        · exact .inl h1
        · exact .inr h1.2
      · exact ih _ hh.2 c hc
  have := key _ _ h.1;refine ⟨by intro e; subst e; simp at hl,fun hm => ?_,fun hm => ?_⟩
  · rcases this _ hm with h1 | h1 <;> exact absurd h1 (by decide)
  · rcases this _ hm with h1 | h1 <;> exact absurd h1 (by decide)
theorem y0Q (v : Int) : (32 : UInt8) ∉ itoa v ∧ (10 : UInt8) ∉ itoa v := by
  refine ⟨fun h => ?_,fun h => ?_⟩
  · rcases yDb h with h | h
    · exact absurd h (by decide)
    · exact absurd h (by decide)
  · rcases yDb h with h | h
    · exact absurd h (by decide)
    · exact absurd h (by decide)
theorem y5g {c d : UInt8} (hd : d ≠ c) : ∀ {l : List Str},(∀ x ∈ l,c ∉ x) → c ∉ y0s d l
  | [],_ => by simp [y0s]
  | [x],h => h x (List.mem_cons_self ..)
  | x :: y :: r,h => by
    rw [y1x d x (by simp)]
    simp only [List.mem_append,List.mem_cons,not_or];exact ⟨h x (List.mem_cons_self ..),fun e => hd e.symm,y5g hd fun z hz => h z (List.mem_cons_of_mem _ hz)⟩
theorem sgn9 {v : Int} (h : N9 v) : sgn 9 (itoa v) = some v := yDm (mx := 8) h
theorem yMm (c1 : List Nod) (x : Nod) (hx : SmallN x) (hn : isNm x.1 = true) : rdL (c1,[]) (yc 32 (lnN x)) = some (c1 ++ [x],[]) := by
  obtain ⟨h1,h2,_⟩ := yID hn;unfold lnN;rw [y3N 32 _ (by simp) (by
    intro y hy;simp only [List.mem_cons,List.not_mem_nil,or_false] at hy;rcases hy with rfl | rfl | rfl | rfl
    · decide
    · exact h2
    · exact (y0Q _).1
    · exact (y0Q _).1)]
  unfold rdL;dsimp only;rw [if_pos rfl,if_neg (by rintro (h | h); exact h1 h; exact absurd h (by simp)),sgn9 hx.area,sgn9 hx.limit]
  rfl
theorem yBJ {k : Str} (h : y0x k ≠ none) : k ≠ [] ∧ k ≠ NODE ∧ (32 : UInt8) ∉ k ∧ (10 : UInt8) ∉ k := by
  rcases y9U h with e | e | e | e | e <;> rw [e] <;> decide
theorem yMq (c1 : List Nod) (c2 : List Lnk) (x : Lnk) (hx : SmallL x) (hk : y0x x.1 ≠ none) : rdL (c1,c2) (yc 32 (lnL x)) = some (c1,c2 ++ [x]) := by
  obtain ⟨h1,h2,h3,_⟩ := yBJ hk;unfold lnL;rw [y3N 32 _ (by simp) (by
    intro y hy;simp only [List.mem_cons,List.not_mem_nil,or_false] at hy;rcases hy with rfl | rfl | rfl | rfl | rfl
    · exact h3
    · exact (y0Q _).1
    · exact (y0Q _).1
    · exact (y0Q _).1
    · exact (y0Q _).1)]
  unfold rdL;dsimp only;rw [if_neg h2,if_neg h1,sgn9 hx.n1,sgn9 hx.n2,sgn9 hx.n3,sgn9 hx.n4];rfl
theorem yEh : ∀ (l c1 : List Nod),(∀ x ∈ l,SmallN x ∧ isNm x.1 = true) → y5R (c1,[]) (l.map lnN) = some (c1 ++ l,[])
  | [],c1,_ => by simp [y5R]
  | x :: l,c1,h => by
    obtain ⟨h1,h2⟩ := h x (List.mem_cons_self ..);simp only [List.map_cons,y5R];rw [yMm c1 x h1 h2,Option.bind_some,yEh l (c1 ++ [x]) fun y hy => h y (List.mem_cons_of_mem _ hy)]
    simp
theorem yEM (c1 : List Nod) : ∀ (l c2 : List Lnk),(∀ x ∈ l,SmallL x ∧ y0x x.1 ≠ none) → y5R (c1,c2) (l.map lnL) = some (c1,c2 ++ l)
  | [],c2,_ => by simp [y5R]
  | x :: l,c2,h => by
    obtain ⟨h1,h2⟩ := h x (List.mem_cons_self ..);simp only [List.map_cons,y5R];rw [yMq c1 c2 x h1 h2,Option.bind_some,yEM c1 l (c2 ++ [x]) fun y hy => h y (List.mem_cons_of_mem _ hy)]
    simp
def lns (b : Bas) : List Str := b.1.map lnN ++ b.2.1.map lnL
theorem yKo {b : Bas} (h : yv b = 0) : y5R ([],[]) (lns b) = some (b.1,b.2.1) := by
  have hs := yAh h;have hb := y15 h;unfold lns;rw [y7Z,yEh b.1 [] fun x hx => ⟨hs.node x hx,y6n h x hx⟩,Option.bind_some,List.nil_append,yEM b.1 b.2.1 [] fun x hx => ⟨hs.link x hx,(hb.link x hx).kind⟩,List.nil_append]
theorem y9o {b : Bas} (h : yv b = 0) : ∀ l ∈ lns b,(10 : UInt8) ∉ l ∧ l ≠ [] := by
  have hb := y15 h;intro l hl;rcases List.mem_append.1 hl with hl | hl
  · obtain ⟨x,hx,rfl⟩ := List.mem_map.1 hl;obtain ⟨h1,h2,h3⟩ := yID (y6n h x hx);refine ⟨y5g (by decide) fun y hy => ?_,by simp [lnN,y0s,NODE]⟩
    simp only [List.mem_cons,List.not_mem_nil,or_false] at hy;rcases hy with rfl | rfl | rfl | rfl
    · decide
    · exact h3
    · exact (y0Q _).2
    · exact (y0Q _).2
  · obtain ⟨x,hx,rfl⟩ := List.mem_map.1 hl;obtain ⟨h1,h2,h3,h4⟩ := yBJ (hb.link x hx).kind;refine ⟨y5g (by decide) fun y hy => ?_,by simp [lnL,y0s]⟩
    simp only [List.mem_cons,List.not_mem_nil,or_false] at hy;rcases hy with rfl | rfl | rfl | rfl | rfl
    · exact h4
    · exact (y0Q _).2
    · exact (y0Q _).2
    · exact (y0Q _).2
    · exact (y0Q _).2
theorem y8k : ∀ (l : List Str),(∀ x ∈ l,(10 : UInt8) ∉ x) → yc 10 (ends l) = l ++ [[]]
  | [],_ => rfl
  | x :: l,h => by
    unfold ends;rw [y24 10 x _ (h x (List.mem_cons_self ..)),y8k l fun y hy => h y (List.mem_cons_of_mem _ hy)]
    rfl
theorem yBp : ∀ (l : List Str),l ≠ [] → ends l = y0s 10 l ++ [10]
  | [],h => absurd rfl h
  | [x],_ => by simp [ends,y0s]
  | x :: y :: r,_ => by
    rw [y1x 10 x (by simp)]
    unfold ends;rw [yBp (y :: r) (by simp)]
    simp
theorem y84 {b : Bas} (h : yv b = 0) : (prn b).length ≤ 4000 := by
  have hs := yAh h;have hb := y15 h;have h1 := yAA (c := 120) (l := b.1.map lnN ++ b.2.1.map lnL) (fun x hx => by
    rcases List.mem_append.1 hx with hx | hx
    · obtain ⟨y,hy,rfl⟩ := List.mem_map.1 hx;have := (hs.node y hy).len; omega
    · obtain ⟨y,hy,rfl⟩ := List.mem_map.1 hx;exact (hs.link y hy).len)
  have h2 := hb.nodes;have h3 := hb.links;simp only [List.length_append,List.length_map] at h1;have h4 := Nat.mul_le_mul_right 121 (show b.1.length + b.2.1.length ≤ 24 by omega)
  unfold prn;omega
theorem yAq {b : Bas} (h : yv b = 0) : yc 10 (prn b) = lns b ++ [[]] := y8k (lns b) fun l hl => (y9o h l hl).1
theorem yFC {b : Bas} (h : yv b = 0) : prs (prn b) = (b,0,0,()) := by
  have hl := y84 h;unfold prs;rw [if_neg (by omega),yAq h,y9d (lns b) [[]] 0 ([],[]) (b.1,b.2.1) (by simp) (yKo h)]
  unfold prsL;rw [if_pos rfl];show (if yv b = 0 then _ else _) = _
  rw [if_pos h]
theorem yNp {b : Bas} (h : yv b = 0) : lns b ≠ [] := by
  have := (y15 h).pos;unfold lns;cases hb : b.1 with
  | nil => rw [hb] at this; simp at this
  | cons x l => simp
theorem yIN (b : Bas) : (lns b).length = b.1.length + b.2.1.length := by simp [lns]
theorem yLz {b : Bas} (h : yv b = 0) : prs ((prn b).take ((prn b).length - 1)) = (Z0,((b.1.length + b.2.1.length - 1 : Nat) : Int),26,()) := by
  have hl := y84 h;have hne := yNp h;have e1 : prn b = y0s 10 (lns b) ++ [10] := yBp (lns b) hne;have e2 : (prn b).take ((prn b).length - 1) = y0s 10 (lns b) := by
    rw [e1,List.length_append,List.length_singleton,Nat.add_sub_cancel,List.take_left]
  have e3 : (y0s 10 (lns b)).length ≤ 4000 := by
    have := congrArg List.length e1;simp only [List.length_append,List.length_singleton] at this;omega
  rw [e2];unfold prs;rw [if_neg (by omega),y3N 10 (lns b) hne fun l hl => (y9o h l hl).1]
  obtain ⟨a,t,ht⟩ : ∃ a t,lns b = a ++ [t] := ⟨(lns b).dropLast,(lns b).getLast hne,(List.dropLast_concat_getLast hne).symm⟩;have hr := yKo h;rw [ht,y7Z] at hr;obtain ⟨c',hc,_⟩ := Option.bind_eq_some_iff.1 hr;have htn : t ≠ [] := (y9o h t (by rw [ht]; simp)).2
  have hlen := yIN b;rw [ht,y9d a [t] 0 ([],[]) c' (by simp) hc]
  rw [ht,List.length_append,List.length_singleton] at hlen;unfold prsL;rw [if_neg htn,show 0 + a.length = b.1.length + b.2.1.length - 1 by omega]
theorem y32 {b : Bas} {v : List Int} (h : ckCV b v = 0) : BasOK b ∧ v.length = b.1.length ∧ ∀ x ∈ v,0 ≤ x ∧ x ≤ 100000000 := by
  obtain ⟨h1,h2⟩ := y0d h;obtain ⟨h3,h4⟩ := y0d h2;refine ⟨y15 h1,?_,fun x hx => y5G (y0N h4 _ (List.mem_map.2 ⟨x,hx,rfl⟩))⟩
  cases he : ((v.length : Int) != (b.1.length : Int)) with
  | true => rw [he] at h3; cases h3
  | false => have h11 : (v.length : Int) = (b.1.length : Int) := by simpa using he
             omega
theorem y6J : ∀ (l : List Nod) (L : List Nod) (i : Int) (p v : List Int),i = (p.length : Int) → v.length = l.length → (∀ n ∈ l,n.2.1 ≠ 0) →
    yK (fun i__ e__ s__ => yHM L i__ e__ s__) (fun s__ => yJv L s__) i l (p ++ v) = some (p ++ lvls v l,())
  | [],L,i,p,[],hi,hv,hn => by rw [yBL]; simp [yJv,lvls]
  | n :: l,L,i,p,x :: v,hi,hv,hn => by
    have hbody : yHM L i n (p ++ x :: v) = some (.inr (p ++ wr (x.tdiv n.2.1) :: v)) := by
      unfold yHM;rw [yGb p x v i hi,yMd p x v i hi];simp only [Option.bind_some];have e5 : zl_M (n.1,n.2.1,n.2.2.1,()) x = some (wr (x.tdiv n.2.1),()) := by
        unfold zl_M zl_m;rw [bifF (beq_eq_false_iff_ne.2 (hn n (by simp)))]
      rw [e5];simp only [Option.bind_some];rw [yMb p x _ v i hi]
    rw [y19,hbody];simp only [Option.bind_some];have := y6J l L (i + 1) (p ++ [wr (x.tdiv n.2.1)]) v (by simp [hi]) (by simpa using hv) (fun n hn' => hn n (by simp [hn']))
    rw [List.append_assoc] at this;simp only [List.singleton_append] at this;rw [this];simp [lvls]
  | [],L,i,p,_ :: _,hi,hv,hn => by simp at hv
  | _ :: _,L,i,p,[],hi,hv,hn => by simp at hv
theorem yGD (b : Bas) (hb : BasOK b) (v : List Int) (hv : v.length = b.1.length) : zV_M b v = some (lvls v b.1,()) := by
  have h8 := hb.nodes;have hmem : memMax = 68719476736 := rfl;unfold zV_M;have e1 : (true && decide ((0 : Int) ≤ (v.length : Int)) && decide ((v.length : Int) ≤ (memMax : Int)) && (v.length : Int) == (v.length : Int)) = true := by
    rw [yH (show (0 : Int) ≤ (v.length : Int) by omega),yH (show (v.length : Int) ≤ (memMax : Int) by omega)]; simp
  rw [bifT e1,bifT (yH (show b.1.length < lenMax by unfold lenMax; omega))]
  have e2 : List.take (List.replicate (v.length : Int).toNat (0 : Int)).length v ++ List.drop v.length (List.replicate (v.length : Int).toNat (0 : Int)) = v := by simp
  rw [e2];exact y6J b.1 b.1 0 [] v rfl hv (fun n hn => by have := (hb.area n hn).1; omega)
def abv : List Nod → List Int → Nat → List Int
  | n :: ns,x :: xs,i => if x > n.2.2.1 then (i : Int) :: abv ns xs (i + 1) else abv ns xs (i + 1)
  | _,_,_ => []
theorem yGj : ∀ (ns : List Nod) (xs : List Int) (i : Nat),(abv ns xs i).length ≤ ns.length
  | [],_,_ => by simp [abv]
  | _ :: _,[],_ => by simp [abv]
  | n :: ns,x :: xs,i => by
    have := yGj ns xs (i + 1);unfold abv;split <;> simp <;> omega
theorem yIQ : ∀ (ns : List Nod) (xs : List Int) (i j : Nat) (n : Nod) (x : Int),i ≤ j → ns[j - i]? = some n → xs[j - i]? = some x → ((j : Int) ∈ abv ns xs i ↔ x > n.2.2.1)
  | [],_,i,j,n,x,_,hn,_ => by simp at hn
  | _ :: _,[],i,j,n,x,_,_,hx => by simp at hx
  | m :: ns,y :: xs,i,j,n,x,hij,hn,hx => by
    have later : ∀ (ns : List Nod) (xs : List Int) (k : Nat),i < k → (i : Int) ∉ abv ns xs k := by
      intro ns;induction ns with
      | nil => intro xs k _; simp [abv]
      | cons a ns ih =>
        intro xs k hk;cases xs with
        | nil => simp [abv]
        | cons z xs =>
          unfold abv;split
          · simp only [List.mem_cons,not_or];exact ⟨by omega,ih xs (k + 1) (by omega)⟩
          · exact ih xs (k + 1) (by omega)
    by_cases he : j = i
    · subst he;simp only [Nat.sub_self,List.getElem?_cons_zero,Option.some.injEq] at hn hx;subst hn hx;unfold abv;split
      · rename_i h; simp [h]
      · rename_i h;exact ⟨fun hm => absurd hm (later ns xs (j + 1) (by omega)),fun hh => absurd hh h⟩
    · have h1 : j - i = (j - (i + 1)) + 1 := by omega
      rw [h1] at hn hx;simp only [List.getElem?_cons_succ] at hn hx;have ih := yIQ ns xs (i + 1) j n x (by omega) hn hx
      unfold abv;split
      · rw [List.mem_cons,ih];exact ⟨fun h => h.resolve_left (by omega),.inr⟩
      · exact ih
theorem y88 (b : Bas) (T : List Int) : ∀ (ns : List Nod) (l : List Int) (pre : List Nod) (s : List Int),b.1 = pre ++ ns → l.length = ns.length → s.length + l.length ≤ memMax →
    yK (fun i__ e__ s__ => yD9 b T i__ e__ s__) (fun s__ => yJB b T s__) (pre.length : Int) l s = some (s ++ abv ns l pre.length,())
  | [],[],pre,s,_,_,_ => by simp [yK,yJB,abv]
  | [],_ :: _,_,_,_,h,_ => by simp at h
  | _ :: _,[],_,_,_,h,_ => by simp at h
  | n :: ns,x :: l,pre,s,hb,hl,hm => by
    simp only [List.length_cons] at hl hm;have hg : idx b.1 (pre.length : Int) = some n := by rw [y4U,hb]; simp
    have ih := fun s' hs' => y88 b T ns l (pre ++ [n]) s' (by rw [hb]; simp) (by omega) hs'
    simp only [List.length_append,List.length_singleton] at ih;simp only [yK];unfold abv;by_cases hx : x > n.2.2.1
    · have hbody : yD9 b T (pre.length : Int) x s = some (.inr (s ++ [(pre.length : Int)])) := by
        unfold yD9;rw [hg,Option.bind_some,bT (dT hx),bT (dT (by omega))]
      rw [hbody,if_pos hx];simp only [Option.bind_some];have := ih (s ++ [(pre.length : Int)]) (by simp; omega)
      refine (show _ = _ from this).trans ?_
      simp
    · have hbody : yD9 b T (pre.length : Int) x s = some (.inr s) := by
        unfold yD9;rw [hg,Option.bind_some,bF (dF hx)]
      rw [hbody,if_neg hx];simp only [Option.bind_some];exact ih s (by omega)
theorem y7L (b : Bas) (v : List Int) (hn : ∀ n ∈ b.1,n.1.length < lenMax) (h0 : ckCV b v = 0) : yKA b v = some (abv b.1 (lvls v b.1) 0,0,()) := by
  obtain ⟨hb,hv,_⟩ := y32 h0;have h8 := hb.nodes;have hmem : memMax = 68719476736 := rfl;have hll := y7k v b.1 hv;unfold yKA yLJ;rw [yLA b v hn (by omega),h0]
  simp only [Option.bind_some];rw [bF (by rfl)]
  unfold zc_M;rw [yGD b hb v hv,Option.bind_some,bT (dT (by show (lvls v b.1).length < lenMax; unfold lenMax; omega))]
  have := y88 b (lvls v b.1) b.1 (lvls v b.1) [] [] rfl (by omega) (by simp; omega)
  simp only [List.length_nil,List.nil_append] at this;rw [show ((0 : Nat) : Int) = 0 from rfl] at this
  rw [this];rfl
noncomputable def yDG (n : Nod) (x : Int) : Int :=
  if Bool.true = Bool.true then if Go.IntKind.i64.wrap (Go.IntKind.i64.wrap (Go.IntKind.i64.wrap (n.snd.fst * Go.IntKind.i64.wrap (n.snd.snd.fst + (1 : Int))) - (1 : Int)) - x) > (-1 : Int) then Go.IntKind.i64.wrap (Go.IntKind.i64.wrap (Go.IntKind.i64.wrap (n.snd.fst * Go.IntKind.i64.wrap (n.snd.snd.fst + (1 : Int))) - (1 : Int)) - x) else (-1 : Int) else if Go.IntKind.i64.wrap (Go.IntKind.i64.wrap (Go.IntKind.i64.wrap (n.snd.fst * Go.IntKind.i64.wrap (n.snd.snd.fst + (1 : Int))) - (1 : Int)) - x) < (-1 : Int) then Go.IntKind.i64.wrap (Go.IntKind.i64.wrap (Go.IntKind.i64.wrap (n.snd.fst * Go.IntKind.i64.wrap (n.snd.snd.fst + (1 : Int))) - (1 : Int)) - x) else (-1 : Int)
noncomputable def y5t (l : List Nod) (v : List Int) : List Int := List.zipWith yDG l v
theorem y8i (V : List Int) (L : List Nod) : ∀ (l : List Nod) (p v : List Int) (i : Int) (s : List Int),V = p ++ v → i = (p.length : Int) → v.length = l.length → s.length + l.length ≤ memMax →
    yK (fun i__ e__ s__ => yBy V L i__ e__ s__) (fun s__ => yHq V L s__) i l s = some (s ++ y5t l v,0,())
  | [],p,[],i,s,_,_,_,_ => by show some (s,0,()) = _; simp [y5t]
  | n :: l,p,x :: v,i,s,hV,hi,hl,hs => by
    simp only [List.length_cons] at hs hl;have hbody : yBy V L i n s = some (.inr (s ++ [yDG n x])) := by
      unfold yBy;rw [hV,yGb p x v i hi];simp only [Option.bind_some];rw [bifT (yH (show s.length + 1 ≤ memMax by omega))]
      rfl
    rw [y19,hbody];simp only [Option.bind_some];rw [y8i V L l (p ++ [x]) v (i + 1) _ (by rw [hV]; simp) (by simp [hi]) (by omega) (by simp; omega)]
    simp [y5t]
  | [],_,_ :: _,_,_,_,_,h,_ => by simp at h
  | _ :: _,_,[],_,_,_,_,h,_ => by simp at h
theorem yK1 (b : Bas) (v : List Int) (hn : ∀ n ∈ b.1,n.1.length < lenMax) (h0 : ckCV b v = 0) : yJ7 b v = some (y5t b.1 v,0,()) := by
  obtain ⟨hb,hv,_⟩ := y32 h0;have h8 := hb.nodes;have hmem : memMax = 68719476736 := rfl;unfold yJ7;rw [yLA b v hn (by omega),h0]
  simp only [Option.bind_some];rw [bF (by rfl),bT (dT (show b.1.length < lenMax by unfold lenMax; omega))]
  exact y8i v b.1 b.1 [] v 0 [] rfl rfl hv (by simp; omega)
theorem yKO (n : Nod) (x : Int) (h1 : 1 ≤ n.2.1) (h2 : n.2.1 ≤ 1000) (h3 : 0 ≤ n.2.2.1) (h4 : n.2.2.1 ≤ 1024) (h5 : 0 ≤ x) (h6 : x ≤ 100000000) :
    yDG n x = if n.2.1 * (n.2.2.1 + 1) - 1 - x > -1 then n.2.1 * (n.2.2.1 + 1) - 1 - x else -1 := by
  have hp : 0 ≤ n.2.1 * (n.2.2.1 + 1) := Int.mul_nonneg (by omega) (by omega)
  have hq : n.2.1 * (n.2.2.1 + 1) ≤ 1000 * 1025 := Int.mul_le_mul h2 (by omega) (by omega) (by omega)
  unfold yDG;rw [w64 (n := n.2.2.1 + 1) (by omega) (by omega)]
  generalize n.2.1 * (n.2.2.1 + 1) = p at hp hq ⊢;rw [w64 (n := p) (by omega) (by omega),w64 (n := p - 1) (by omega) (by omega),w64 (n := p - 1 - x) (by omega) (by omega)]
  simp
theorem yIU {a l x : Int} (ha : 1 ≤ a) (hx : 0 ≤ x) (hx2 : x < 9223372036854775808) : wr (x.tdiv a) > l ↔ a * (l + 1) ≤ x := by
  have hd : x.tdiv a = x / a := Int.tdiv_eq_ediv_of_nonneg hx;have h1 : x / a ≤ x := by
    have := Int.ediv_le_self a hx;exact this
  have h0 : 0 ≤ x / a := Int.ediv_nonneg hx (by omega)
  show IntKind.i64.wrap (x.tdiv a) > l ↔ _
  rw [hd,w64 (by omega) (by omega)]
  constructor
  · intro h;have h2 : l + 1 ≤ x / a := by omega
    have h3 := Int.mul_le_mul_of_nonneg_left h2 (show (0 : Int) ≤ a by omega)
    have h4 := Int.mul_ediv_self_le (x := x) (k := a) (by omega)
    omega
  · intro h;have h2 : l + 1 ≤ x / a := (Int.le_ediv_iff_mul_le (by omega)).2 (by rw [Int.mul_comm]; exact h)
    omega
theorem y7C (l : List Int) (h : l.length < lenMax) (n : Int) : yFg l n = some (decide (n ∈ l),()) := by
  have loop : ∀ (r : List Int) (i : Int),yK (fun i__ e__ s__ => y6C l n i__ e__) (fun s__ => yDU l n) i r () = some (decide (n ∈ r),()) := by
    intro r;induction r with
    | nil => intro i; rfl
    | cons x r ih =>
      intro i;simp only [yK];by_cases hx : x = n
      · have hb : y6C l n i x = some (.inl (true,())) := by unfold y6C; rw [bT (by simp [hx])]
        rw [hb];simp [hx]
      · have hb : y6C l n i x = some (.inr ()) := by unfold y6C; rw [bF (by simpa using hx)]
        rw [hb];simp only [Option.bind_some];rw [ih (i + 1)];congr 2
        simp only [List.mem_cons];have : ¬ n = x := fun e => hx e.symm
        simp [this]
  unfold yFg;rw [bT (dT h)];exact loop l 0
theorem y7F : ∀ {l : List Int},(∀ e ∈ l,e = 0) → y0c l = 0
  | [],_ => rfl
  | a :: l,h => by rw [y01,h a (by simp),y7F (fun e he => h e (by simp [he]))]; rfl
theorem yDy {b : Bas} {v : List Int} (h : ckCV b v = 0) (i : Nat) (y : Int) (h0 : 0 ≤ y) (h1 : y ≤ 100000000) : ckCV b (v.set i y) = 0 := by
  obtain ⟨hb,hv,hr⟩ := y32 h;obtain ⟨h2,_⟩ := y0d h;have ck : ∀ n,0 ≤ n → n ≤ 100000000 → ckR n 0 100000000 = 0 := fun n a b => by unfold ckR; rw [if_neg (by omega)]
  unfold ckCV yCH;rw [h2,bF (by rw [List.length_set,hv]; simp),y7F (fun e he => by
    obtain ⟨n,hn,rfl⟩ := List.mem_map.1 he;rcases List.mem_or_eq_of_mem_set hn with hn | rfl
    · exact ck n (hr n hn).1 (hr n hn).2
    · exact ck _ h0 h1)]
  rfl
theorem y9A (b : Bas) (v : List Int) (hn : ∀ n ∈ b.1,n.1.length < lenMax) (h0 : ckCV b v = 0) : ∀ (k i : Nat),i + k = v.length →
    y1R (fun i__ s__ => y9K v b (y5t b.1 v) (abv b.1 (lvls v b.1) 0) (v.length : Int) i__) (fun s__ => y93 v b (y5t b.1 v) (abv b.1 (lvls v b.1) 0) (v.length : Int)) k (i : Int) () = some (true,())
  | 0,i,_ => by
    show y93 v b (y5t b.1 v) (abv b.1 (lvls v b.1) 0) (v.length : Int) = _
    unfold y93;rw [y4N];rfl
  | k + 1,i,hi => by
    obtain ⟨hb,hv,hr⟩ := y32 h0;have h8 := hb.nodes;have hl := hb.links;have hmem : memMax = 68719476736 := rfl;have hlm : lenMax = 9223372036854775808 := rfl;have hiv : i < v.length := by omega
    have hin : i < b.1.length := by omega
    have gv : v[i]? = some v[i] := List.getElem?_eq_getElem hiv;have gn : b.1[i]? = some b.1[i] := List.getElem?_eq_getElem hin;have ha := hb.area b.1[i] (List.getElem_mem hin);have hm := hb.limit b.1[i] (List.getElem_mem hin);have hx := hr v[i] (List.getElem_mem hiv);have gr : (y5t b.1 v)[i]? = some (yDG b.1[i] v[i]) := by
      unfold y5t;rw [List.getElem?_zipWith,gn,gv]
    have hroom := yKO b.1[i] v[i] ha.1 ha.2 hm.1 hm.2 hx.1 hx.2;have hP0 : 0 ≤ b.1[i].2.1 * (b.1[i].2.2.1 + 1) := Int.mul_nonneg (by omega) (by omega)
    have hP1 : b.1[i].2.1 * (b.1[i].2.2.1 + 1) ≤ 1000 * 1025 := Int.mul_le_mul ha.2 (by omega) (by omega) (by omega)
    have memA : ∀ (w : List Int) (x : Int),w.length = b.1.length → w[i]? = some x → 0 ≤ x → x ≤ 100000000 → ((i : Int) ∈ abv b.1 (lvls w b.1) 0 ↔ b.1[i].2.1 * (b.1[i].2.2.1 + 1) ≤ x) := fun w x hw gw hx0 hx1 => by
      rw [yIQ b.1 (lvls w b.1) 0 i b.1[i] (wr (x.tdiv b.1[i].2.1)) (Nat.zero_le _) (by simpa using gn) (by simpa using yDf w b.1 i x b.1[i] gw gn)]
      exact yIU ha.1 hx0 (by omega)
    have alen := fun w => yGj b.1 (lvls w b.1) 0
    have gi : idx (y5t b.1 v) (i : Int) = some (yDG b.1[i] v[i]) := by rw [y4U,gr]
    have giv : idx v (i : Int) = some v[i] := by rw [y4U,gv]
    have hbody : y9K v b (y5t b.1 v) (abv b.1 (lvls v b.1) 0) (v.length : Int) (i : Int) = some (.inr ()) := by
      unfold y9K;have hA := memA v v[i] hv gv hx.1 hx.2;simp only [gi,giv,Option.bind_some,y7C _ (show (abv b.1 (lvls v b.1) 0).length < lenMax by have := alen v; omega)]
      generalize b.1[i].2.1 * (b.1[i].2.2.1 + 1) = p at hroom hP0 hP1 hA memA;generalize yDG b.1[i] v[i] = r at hroom;generalize v[i] = x at hx hroom hA gv giv;by_cases hc : p ≤ x
      · have hr1 : r = -1 := by rw [hroom,if_neg (by omega)]
        subst hr1;rw [bF (by rw [dT (hA.2 hc)]; rfl),bF (dF (by omega)),bF (dF (by omega)),bT (dT (by omega))]
      · have hr1 : r = p - 1 - x := by rw [hroom,if_pos (by omega)]
        subst hr1;rw [bF (by rw [dF (fun h => hc (hA.1 h)),dF (by omega)]; rfl),bF (dF (by omega)),bF (dF (by omega)),bF (dF (by omega)),w64 (n := x + (p - 1 - x)) (by omega) (by omega)]
        by_cases hM : x + (p - 1 - x) ≥ 100000000
        · rw [bT (dT hM)]
        · rw [bF (dF hM),bT (dT (by omega)),bT (dT (by omega))]
          have e1 : x + (p - 1 - x) = p - 1 := by omega
          have f1 := yDy h0 i (p - 1) (by omega) (by omega)
          have f2 := yDy h0 i p (by omega) (by omega)
          have g1 : (v.set i (p - 1))[i]? = some (p - 1) := by rw [List.getElem?_set_self hiv]
          have g2 : (v.set i p)[i]? = some p := by rw [List.getElem?_set_self hiv]
          have m1 := memA (v.set i (p - 1)) (p - 1) (by rw [List.length_set]; exact hv) g1 (by omega) (by omega)
          have m2 := memA (v.set i p) p (by rw [List.length_set]; exact hv) g2 (by omega) (by omega)
          simp only [Int.toNat_natCast,gv,Option.bind_some,e1,yDk b (show b.1.length ≤ memMax by omega) (show b.2.1.length ≤ memMax by omega),show p - 1 + 1 = p by omega,w64 (n := p) (by omega) (by omega),
            y7L b _ hn f1,y7L b _ hn f2]
          rw [bF (by rfl),bF (by rfl),y7C _ (by have := alen (v.set i (p - 1)); omega),Option.bind_some,bF (dF (fun h => by have := m1.1 h; omega)),y7C _ (by have := alen (v.set i p); omega),Option.bind_some,
            bF (by rw [dT (m2.2 (Int.le_refl _))]; rfl)]
    simp only [y1R];rw [hbody];simp only [Option.bind_some];exact y9A b v hn h0 k (i + 1) (by omega)
theorem yFu (b : Bas) (v : List Int) (hs1 : b.1.length ≤ 9) (hs2 : b.2.1.length ≤ 17) (hn : ∀ n ∈ b.1,n.1.length ≤ 60) (hv : v.length < lenMax) : yBe b v = some (true,()) := by
  have hmem : memMax = 68719476736 := rfl;have hlm : lenMax = 9223372036854775808 := rfl;have hnn : ∀ n ∈ b.1,n.1.length < lenMax := fun n hx => by have := hn n hx; omega
  unfold yBe;rw [yOU b v hv,Option.bind_some];by_cases h0 : ckCV b v = 0
  · obtain ⟨hb,hvl,hr⟩ := y32 h0;have hck : yv b = 0 := (y0d h0).1;have hlen := y84 hck;have hpos := yDR hb.pos;have h8 := hb.nodes;have hlk := hb.links;rw [bF (by rw [h0]; rfl),yDk b (by omega) (by omega)]
    simp only [Option.bind_some,yBn b hnn,if_pos hck,y78 (prn b) (by omega),yFC hck,yMr v (by omega),yK1 b v hnn h0,y7L b v hnn h0]
    rw [bF (by rfl),bF (by rfl)]
    have ht := yMi (b.1,b.2.1,()) (show b.1.length ≤ memMax by omega) (show b.2.1.length ≤ memMax by omega)
    rw [ht,Option.bind_some];have hsame := yGa b (by omega) (by omega)
    rw [show zx_M ((b.1,b.2.1,()),()).1 b = some (true,()) from hsame,Option.bind_some,bF (by rfl)]
    have hsp := yHP 10 (prn b) (by omega)
    rw [show (((10 : UInt8).toNat : Nat) : Int) = 10 from rfl] at hsp
    have hll := yIN b;rw [hsp,Option.bind_some,yAq hck,w64 (n := (b.1.length : Int) + (b.2.1.length : Int)) (by omega) (by omega),w64 (by omega) (by omega),
      bF (by rw [bne_eq_false_iff_eq]; simp only [List.length_append,List.length_singleton,hll]; omega)]
    have hrl : (y5t b.1 v).length = v.length := by unfold y5t; simp; omega
    rw [bF (by rw [bne_eq_false_iff_eq,hrl]),bF (by rw [beq_eq_false_iff_ne]; omega),w64 (n := ((prn b).length : Int) - 1) (by omega) (by omega),bT (by rw [dT (by omega),dT (by omega)]; rfl),
      show (((prn b).length : Int) - 1).toNat = (prn b).length - 1 by omega,y78 _ (by simp; omega),Option.bind_some,yLz hck,bF (by rfl),w64 (by omega) (by omega),bF (by rw [bne_eq_false_iff_eq]; show ((b.1.length + b.2.1.length - 1 : Nat) : Int) = _; have := hb.pos; omega),
      bT (dT (by omega)),show ((v.length : Int) - 0).toNat = v.length by omega]
    exact y9A b v hnn h0 v.length 0 (by omega)
  · rw [bT (by rw [bne_iff_ne]; exact h0),y4N]
    rfl
theorem yIm (b : Bas) (v : List Int) (s : Str) (hv : v.length < lenMax) : zn_M b v s = some (true,()) := by
  obtain ⟨sh,h1,h2⟩ := yKM b;unfold zn_M;rw [h1,Option.bind_some];cases sh with
  | false => rw [bT (by rfl),y4N]; rfl
  | true =>
    obtain ⟨g1,g2,g3⟩ := h2 rfl;rw [bF (by rfl)]
    by_cases hl : (s.length : Int) > 300
    · rw [bT (dT hl),y4N]; rfl
    · have hlm : lenMax = 9223372036854775808 := rfl;rw [bF (dF hl),y78 s (by omega),Option.bind_some]
      have main := yFu b v g1 g2 g3 hv;by_cases he : (prs s).2.2.1 = 0
      · obtain ⟨e1,e2⟩ := yMh s he;rw [bT (by rw [he]; rfl)]
        have hp := yBn ((prs s).1.1,(prs s).1.2.1,()) (fun n hx => by have := yAB (y6n e1 n hx); omega)
        have e1' : yv ((prs s).1.1,(prs s).1.2.1,()) = 0 := e1;have e2' : prn ((prs s).1.1,(prs s).1.2.1,()) = s := e2;rw [hp,Option.bind_some,if_pos e1',bF (by rfl),e2',bF (by simp)]
        exact main
      · rw [bF (by rw [beq_eq_false_iff_ne]; exact he)]
        exact main
end Go.Tw
end
