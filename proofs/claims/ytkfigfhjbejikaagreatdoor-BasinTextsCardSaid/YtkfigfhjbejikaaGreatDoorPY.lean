import Derived.Test.YtkfigfhjbejikaaGreatDoorPX
import Derived.Test.YtkfigfhjbejikaaGreatDoorPA
import Derived.Test.YtkfigfhjbejikaaGreatDoorXB
set_option linter.all false
section
set_option maxRecDepth 1000000
namespace Go.Tw
open Go.Vx Go.Vx.B Go.S Go.SA Go.Lib
def NODE : Str := [110,111,100,101]
def Z0 : Bas := ([],[],())
def rdL (c : List Nod × List Lnk) (w : List Str) : Option (List Nod × List Lnk) :=
  match w with
  | [] => none
  | k :: r => if k = NODE then (match r with
      | [nm,x,y] => if nm = [] ∨ 0 < c.2.length then none else (sgn 9 x).bind fun x => (sgn 9 y).map fun y => (c.1 ++ [(nm,x,y,())],c.2)
      | _ => none)
    else (match r with
      | [x,y,z,u] => if k = [] then none else (sgn 9 x).bind fun x => (sgn 9 y).bind fun y => (sgn 9 z).bind fun z => (sgn 9 u).map fun u => (c.1,c.2 ++ [(k,x,y,z,u,())])
      | _ => none)
def prsL (n : Nat) (c : List Nod × List Lnk) : List Str → Bas × Int × Int × Unit
  | [] => (Z0,n,26,())
  | [t] => if t = [] then (if y0b (c.1,c.2,()) = 0 then ((c.1,c.2,()),0,0,()) else (Z0,n,y0b (c.1,c.2,()),())) else (Z0,n,26,())
  | l :: t :: ls => match rdL c (yg 32 l) with
    | none => (Z0,n,26,())
    | some c' => prsL (n + 1) c' (t :: ls)
def prs (s : Str) : Bas × Int × Int × Unit := if 4096 < s.length then (Z0,0,27,()) else prsL 0 ([],[]) (yg 10 s)
theorem y7C (n : Nat) (c : List Nod × List Lnk) (l : Str) {r : List Str} (h : r ≠ []) : prsL n c (l :: r) = (match rdL c (yg 32 l) with | none => (Z0,(n : Int),26,()) | some c' => prsL (n + 1) c' r) := by
  cases r with
  | nil => exact absurd rfl h
  | cons t ls => rfl
def bad (n : Nat) : (Bas × Int × Int × Unit) ⊕ (List UInt8 × Int × List Nod × List Lnk) := .inl (Z0,(n : Int),26,())
theorem yMF (n : Nat) (hn : n ≤ 5000) (c1 : List Nod) (c2 : List Lnk) (j1 k w1 w2 w3 : Str) (h3 : w3.length ≤ 281474976710656) (hm : c1.length + 1 ≤ memMax) (j : Bool) (a : Int × Bool × Unit) :
    y5Z 0 0 (n : Int) c1 c2 j1 ([k,w1,w2,w3],()) j a = some (if (j || wrg w3) = true then bad n else .inr (j1,((n + 1 : Nat) : Int),c1 ++ [(w1,a.1,atv w3,())],c2)) := by
  have e3 : idx (List.drop (Int.toNat (1 : Int)) (List.drop (Int.toNat (2 : Int)) [k,w1,w2,w3])) (0 : Int) = some w3 := rfl;have e1 : idx [k,w1,w2,w3] (1 : Int) = some w1 := rfl;have el : (decide ((0 : Int) ≤ 1) && decide ((1 : Int) ≤ ((List.drop (Int.toNat (1 : Int)) (List.drop (Int.toNat (2 : Int)) [k,w1,w2,w3])).length : Int))) = true := rfl;unfold y5Z;simp only [e3,Option.bind_some,e1];rw [bT el,yAK w3 h3,Option.bind_some];simp only [Option.bind_some,y6m _ (yG7 w3)];have hmm : ∀ A B : Option ((Bas × Int × Int × Unit) ⊕ (List UInt8 × Int × List Nod × List Lnk)),(bif decide (c1.length + 1 ≤ memMax) then A else B) = A := fun A B => bT (dT hm)
  cases j with
  | true => simp only [cond_true,Bool.true_or,if_true]; rw [hmm]; rfl
  | false =>
    simp only [cond_false,Bool.false_or];unfold wrg;cases atk w3 with
    | false => simp only [Bool.not_false,cond_true,Bool.true_or,if_true]; rw [hmm]; rfl
    | true =>
      simp only [Bool.not_true,cond_false,Bool.false_or];cases (itoa (atv w3) == w3) with
      | false => simp only [Bool.not_false,cond_true,Bool.true_or,if_true]; rw [hmm]; rfl
      | true =>
        simp only [Bool.not_true,cond_false,Bool.false_or];rw [hmm];by_cases h9 : 9 < (trimPrefix w3 [45]).length
        · rw [dT (by omega),dT h9]; rfl
        · rw [dF (by omega),dF h9]
          simp only [Bool.not_false,Bool.not_true,cond_false];rw [y2D (by omega) (by omega)]
          rfl
theorem yDt (ws : List Str) (n : Nat) (j1 k18 : Str) (c1 : List Nod) (c2 : List Lnk) (i : Nat) (w : Str) (rest : List Str) (wr : Bool) (arr : List Int) (hw : w.length ≤ 281474976710656) (hi : i < 4) (ha : arr.length = 4) :
    y7A ws 0 0 (n : Int) j1 c1 c2 k18 false (i : Int) (w :: rest) wr arr = some (.inr (rest,wr || wrg w,arr.set i (atv w))) := by
  have e0 : idx (w :: rest) (0 : Int) = some w := y2z (w :: rest) 0;have el : (decide ((0 : Int) ≤ 1) && decide ((1 : Int) ≤ (((w :: rest).length : Nat) : Int))) = true := by rw [dT (by omega),dT (by simp only [List.length_cons]; omega)]; rfl
  have eb : (decide ((0 : Int) ≤ (i : Int)) && decide ((i : Int) < ((4 : Nat) : Int))) = true := by rw [dT (by omega),dT (by omega)]; rfl
  have ea : arr[i]? = some arr[i] := List.getElem?_eq_getElem (by omega)
  unfold y7A;rw [e0,Option.bind_some,bT el,yAK w hw];simp only [Option.bind_some,y6m _ (yG7 w),Int.toNat_natCast,ea,List.drop_succ_cons,List.drop_zero,show Int.toNat (1 : Int) = 1 from rfl]
  cases wr with
  | true => simp only [cond_true,Bool.true_or]; rw [bT eb]
  | false =>
    simp only [cond_false,Bool.false_or];unfold wrg;cases atk w with
    | false => simp only [Bool.not_false,cond_true,Bool.true_or]; rw [bT eb]
    | true =>
      simp only [Bool.not_true,cond_false,Bool.false_or];cases (itoa (atv w) == w) with
      | false => simp only [Bool.not_false,cond_true,Bool.true_or]; rw [bT eb]
      | true =>
        simp only [Bool.not_true,cond_false,Bool.false_or];rw [bT eb];by_cases h9 : 9 < (trimPrefix w [45]).length
        · rw [dT (by omega),dT h9]
        · rw [dF (by omega),dF h9]
theorem yM9 (k : Str) (ws : List Str) (n : Nat) (hn : n ≤ 5000) (j1 k18 : Str) (c1 : List Nod) (c2 : List Lnk) (hm : c2.length + 1 ≤ memMax) (w : List Str) (wr : Bool) (x y z u : Int) :
    y73 (k :: ws) 0 0 (n : Int) j1 c1 c2 k18 false w wr [x,y,z,u] = some (if wr = true then bad n else .inr (j1,((n + 1 : Nat) : Int),c1,c2 ++ [(k,x,y,z,u,())])) := by
  have e0 : idx (k :: ws) (0 : Int) = some k := y2z (k :: ws) 0;unfold y73;rw [e0];simp only [show ([x,y,z,u] : List Int)[Int.toNat (0 : Int)]? = some x from rfl,show ([x,y,z,u] : List Int)[Int.toNat (1 : Int)]? = some y from rfl,show ([x,y,z,u] : List Int)[Int.toNat (2 : Int)]? = some z from rfl,
    show ([x,y,z,u] : List Int)[Int.toNat (3 : Int)]? = some u from rfl,Option.bind_some]
  rw [bT (dT hm),cond_false];cases wr with
  | true => rfl
  | false =>
    simp only [Bool.not_false,Bool.not_true,cond_false];rw [y2D (by omega) (by omega)]
    rfl
theorem yMr (n : Nat) (hn : n ≤ 5000) (c : List Nod × List Lnk) (x j1 : Str) (hx : x.length ≤ 5000) (h1 : c.1.length ≤ 5000) (h2 : c.2.length ≤ 5000) :
    y5h 0 0 (n : Int) c.1 c.2 j1 (x ++ [10]) = some (match rdL c (yg 32 x) with | none => bad n | some c' => .inr (j1,((n + 1 : Nat) : Int),c'.1,c'.2)) := by
  have hlen : ∀ w ∈ yg 32 x,w.length ≤ 281474976710656 := fun w hw => by
    have := y28 32 x w hw;omega
  unfold y5h;rw [yHW x (by omega),Option.bind_some,yBS 32 x (by omega),Option.bind_some,bF (by rfl)]
  cases hs : yg 32 x with
  | nil => exact absurd hs (y2y 32 x)
  | cons k r =>
    rw [hs] at hlen;have e0 : idx (k :: r) (0 : Int) = some k := y2z (k :: r) 0;simp only [e0,Option.bind_some];by_cases hk : k = NODE
    · rw [bT (by rw [hk]; rfl)]
      unfold rdL;dsimp only;rw [if_pos hk];match r,hlen with
      | [],_ => rw [bT (by rfl)]; rfl
      | [_],_ => rw [bT (by rfl)]; rfl
      | [_,_],_ => rw [bT (by rfl)]; rfl
      | _ :: _ :: _ :: _ :: r,_ =>
        rw [bT (by rw [bne_iff_ne]; simp only [List.length_cons]; omega)]; rfl
      | [w1,w2,w3],hlen =>
        have hw2 := hlen w2 (by simp)
        have hw3 := hlen w3 (by simp)
        rw [bF (by rfl),show idx [k,w1,w2,w3] (1 : Int) = some w1 from rfl,Option.bind_some]
        dsimp only;by_cases hn0 : w1 = []
        · rw [bT (by rw [hn0]; rfl),if_pos (.inl hn0)]; rfl
        · rw [bF (by rw [beq_eq_false_iff_ne]; exact hn0)]
          by_cases hl : 0 < c.2.length
          · rw [bT (dT (by omega)),if_pos (.inr hl)]; rfl
          · rw [bF (dF (by omega)),if_neg (by rintro (h | h); exact hn0 h; exact hl h),bT (by rfl),show idx (List.drop (Int.toNat (2 : Int)) [k,w1,w2,w3]) (0 : Int) = some w2 from rfl,Option.bind_some,bT (by rfl),yAK w2 hw2]
            simp only [Option.bind_some,y6m _ (yG7 w2),yMF n hn c.1 c.2 j1 k w1 w2 w3 hw3 (by simp only [memMax]; omega),Bool.true_or,if_true]
            rw [y5s w2,y5s w3];have key : ∀ q : Bool,(some (if (q || wrg w3) = true then bad n else Sum.inr (j1,((n + 1 : Nat) : Int),c.1 ++ [(w1,atv w2,atv w3,())],c.2)) : Option ((Bas × Int × Int × Unit) ⊕ (List UInt8 × Int × List Nod × List Lnk))) =
                some (match ((if q = true then none else some (atv w2)).bind fun x => (if wrg w3 = true then none else some (atv w3)).map fun y => (c.1 ++ [(w1,x,y,())],c.2)) with | none => bad n | some c' => .inr (j1,((n + 1 : Nat) : Int),c'.1,c'.2)) := fun q => by
              cases q <;> cases wrg w3 <;> rfl
            rw [← key];unfold wrg;cases atk w2 with
            | false => rfl
            | true =>
              simp only [Bool.not_true,cond_false,Bool.false_or];cases (itoa (atv w2) == w2) with
              | false => rfl
              | true =>
                simp only [Bool.not_true,cond_false,Bool.false_or];by_cases h9 : 9 < (trimPrefix w2 [45]).length
                · rw [dT (show ((trimPrefix w2 [45]).length : Int) > 9 by omega),dT h9]
                · rw [dF (show ¬ ((trimPrefix w2 [45]).length : Int) > 9 by omega),dF h9]
    · rw [bF (by rw [beq_eq_false_iff_ne]; exact hk)]
      unfold rdL;dsimp only;rw [if_neg hk];match r,hlen with
      | [],_ => rw [bT (by rfl)]; rfl
      | [_],_ => rw [bT (by rfl)]; rfl
      | [_,_],_ => rw [bT (by rfl)]; rfl
      | [_,_,_],_ => rw [bT (by rfl)]; rfl
      | _ :: _ :: _ :: _ :: _ :: r,_ =>
        rw [bT (by rw [bne_iff_ne]; simp only [List.length_cons]; omega)]; rfl
      | [w1,w2,w3,w4],hlen =>
        have hw1 := hlen w1 (by simp)
        have hw2 := hlen w2 (by simp)
        have hw3 := hlen w3 (by simp)
        have hw4 := hlen w4 (by simp)
        rw [bF (by rfl)]
        by_cases hk0 : k = []
        · rw [bT (by rw [hk0]; rfl)]
          dsimp only;rw [if_pos hk0];rfl
        · rw [bF (by rw [beq_eq_false_iff_ne]; exact hk0),bT (by rfl),bT (by rfl),show ((4 : Int) - 0).toNat = 4 from rfl,show List.drop (Int.toNat (1 : Int)) [k,w1,w2,w3,w4] = [w1,w2,w3,w4] from rfl]
          dsimp only;rw [if_neg hk0];simp only [y1a];have g1 := yDt [k,w1,w2,w3,w4] n j1 (x ++ [10]) c.1 c.2 0 w1 [w2,w3,w4] false [0,0,0,0] hw1 (by decide) rfl
          have g2 := yDt [k,w1,w2,w3,w4] n j1 (x ++ [10]) c.1 c.2 1 w2 [w3,w4] (false || wrg w1) ([0,0,0,0].set 0 (atv w1)) hw2 (by decide) rfl
          have g3 := yDt [k,w1,w2,w3,w4] n j1 (x ++ [10]) c.1 c.2 2 w3 [w4] (false || wrg w1 || wrg w2) (([0,0,0,0].set 0 (atv w1)).set 1 (atv w2)) hw3 (by decide) rfl
          have g4 := yDt [k,w1,w2,w3,w4] n j1 (x ++ [10]) c.1 c.2 3 w4 [] (false || wrg w1 || wrg w2 || wrg w3) ((([0,0,0,0].set 0 (atv w1)).set 1 (atv w2)).set 2 (atv w3)) hw4 (by decide) rfl
          rw [show ((0 : Nat) : Int) = 0 from rfl] at g1
          rw [g1];simp only [Option.bind_some];rw [show (0 : Int) + 1 = ((1 : Nat) : Int) from rfl,g2]
          simp only [Option.bind_some];rw [show ((1 : Nat) : Int) + 1 = ((2 : Nat) : Int) from rfl,g3]
          simp only [Option.bind_some];rw [show ((2 : Nat) : Int) + 1 = ((3 : Nat) : Int) from rfl,g4]
          simp only [Option.bind_some];rw [show ((([0,0,0,0].set 0 (atv w1)).set 1 (atv w2)).set 2 (atv w3)).set 3 (atv w4) = [atv w1,atv w2,atv w3,atv w4] from rfl,yM9 k [w1,w2,w3,w4] n hn j1 (x ++ [10]) c.1 c.2 (by simp only [memMax]; omega),
            y5s w1,y5s w2,y5s w3,y5s w4]
          cases wrg w1 <;> cases wrg w2 <;> cases wrg w3 <;> cases wrg w4 <;> rfl
def Inv (n : Nat) (c : List Nod × List Lnk) (m : Nat) : Prop := c.1.length ≤ n ∧ c.2.length ≤ n ∧ n + m ≤ 4097 ∧ ∀ x ∈ c.1,x.1.length ≤ 4097
theorem yHm {n m : Nat} {c c' : List Nod × List Lnk} {w : List Str} (h : Inv n c (m + 1)) (hw : ∀ x ∈ w,x.length ≤ 4097) (hr : rdL c w = some c') : Inv (n + 1) c' m := by
  obtain ⟨h1,h2,h3,h4⟩ := h;unfold rdL at hr;split at hr
  · cases hr
  · rename_i k r;split at hr
    · split at hr
      · rename_i nm x y;split at hr
        · cases hr
        · obtain ⟨a,_,hr⟩ := Option.bind_eq_some_iff.1 hr;obtain ⟨b,_,rfl⟩ := Option.map_eq_some_iff.1 hr;refine ⟨by simp; omega,by show c.2.length ≤ n + 1; omega,by omega,fun z hz => ?_⟩
          rcases List.mem_append.1 hz with hz | hz
          · exact h4 z hz
          · rw [List.mem_singleton] at hz; subst hz; exact hw nm (by simp)
      · cases hr
    · split at hr
      · split at hr
        · cases hr
        · obtain ⟨a,_,hr⟩ := Option.bind_eq_some_iff.1 hr;obtain ⟨b,_,hr⟩ := Option.bind_eq_some_iff.1 hr;obtain ⟨d,_,hr⟩ := Option.bind_eq_some_iff.1 hr;obtain ⟨e,_,rfl⟩ := Option.map_eq_some_iff.1 hr;exact ⟨by show c.1.length ≤ n + 1; omega,by simp; omega,by omega,h4⟩
      · cases hr
theorem y7J : ∀ (m : Nat) (s : Str) (n : Nat) (c : List Nod × List Lnk),s.length < m → Inv n c s.length →
    yD6 (fun s__ => y4S 0 0 s__.1 s__.2.1 s__.2.2.1 s__.2.2.2) m (s,(n : Int),c.1,c.2) = some (prsL n c (yg 10 s))
  | 0,s,n,c,h,_ => by omega
  | m + 1,s,n,c,h,hI => by
    obtain ⟨h1,h2,h3,h4⟩ := hI;simp only [yD6];by_cases h0 : s = []
    · subst h0;have hb : y4S 0 0 [] (n : Int) c.1 c.2 = some (.inl (prsL n c (yg 10 []))) := by
        unfold y4S;rw [bF (dF (by simp)),yC6 (c.1,c.2,()) (fun x hx => by have := h4 x hx; simp only [lenMax]; omega),Option.bind_some]
        unfold yg prsL;rw [if_pos rfl];by_cases he : y0b (c.1,c.2,()) = 0
        · rw [bF (by rw [he]; rfl),if_pos he]
        · rw [bT (by rw [bne_iff_ne]; exact he),if_neg he]; rfl
      rw [hb];rfl
    · have hpos : 0 < s.length := List.length_pos_iff.2 h0;have e10 : (Int.toNat (10 : Int)).toUInt8 = 10 := rfl;rcases yAC s 10 with ⟨hi,hno⟩ | ⟨x,t,rfl,hno,hi⟩
      · have hb : y4S 0 0 s (n : Int) c.1 c.2 = some (.inl (prsL n c (yg 10 s))) := by
          unfold y4S;rw [bT (dT (by omega)),e10,hi,bF (dF (by omega))]
          unfold y5h;rw [yL5 s (by omega) hno,Option.bind_some,yBS 32 s (by omega),Option.bind_some,bT (by rfl),y3R 10 s hno]
          unfold prsL;rw [if_neg h0];rfl
        rw [hb];rfl
      · have hlen : (x ++ 10 :: t).length = x.length + 1 + t.length := by simp; omega
        rw [hlen] at h h3;have hb : y4S 0 0 (x ++ 10 :: t) (n : Int) c.1 c.2 = some (match rdL c (yg 32 x) with | none => bad n | some c' => .inr (t,((n + 1 : Nat) : Int),c'.1,c'.2)) := by
          unfold y4S;rw [bT (dT (by omega)),e10,hi,bT (dT (by omega)),y2D (by omega) (by omega),
            bT (by rw [dT (by omega),dT (by rw [hlen]; omega)]; rfl),bT (by rw [dT (by omega),dT (by rw [hlen]; omega)]; rfl),show ((x.length : Int) + 1).toNat = x.length + 1 by omega]
          have e1 : List.drop (x.length + 1) (x ++ 10 :: t) = t := by rw [← List.drop_drop,List.drop_left]; rfl
          have e2 : List.take (x.length + 1) (x ++ 10 :: t) = x ++ [10] := by rw [show x ++ 10 :: t = (x ++ [10]) ++ t by simp,show x.length + 1 = (x ++ [10]).length by simp,List.take_left]
          rw [e1,e2];exact yMr n (by omega) c x t (by omega) (by omega) (by omega)
        rw [hb,y4F 10 x t hno,y7C n c x (y2y 10 t)];cases hr : rdL c (yg 32 x) with
        | none => rfl
        | some c' =>
          simp only [Option.bind_some];exact y7J m t (n + 1) c' (by omega) (yHm (m := x.length + t.length) ⟨h1,h2,by omega,h4⟩ (fun w hw => by have := y28 32 x w hw; omega) hr |> fun ⟨a,b,d,e⟩ => ⟨a,b,by omega,e⟩)
theorem yGH (s : Str) (h : s.length < lenMax) : yF0 s = some (prs s) := by
  unfold yF0 prs;by_cases hl : 4096 < s.length
  · rw [bT (dT (by omega)),if_pos hl]; rfl
  · rw [bF (dF (by omega)),if_neg hl]
    exact y7J wMax s 0 ([],[]) (by simp only [wMax]; omega) ⟨Nat.le_refl _,Nat.le_refl _,by omega,fun x hx => by cases hx⟩
def sgns : List Str → Option (List Int)
  | [] => some []
  | w :: r => (sgn 9 w).bind fun x => (sgns r).map fun l => x :: l
theorem y8b (w0 : List Str) : ∀ (l : List Str) (i : Int) (acc : List Int),acc.length + l.length ≤ memMax →
    yJ (fun i__ e__ s__ => yBZ w0 i__ e__ s__) (fun s__ => yHk w0 s__) i l acc = some (match sgns l with | some r => (acc ++ r,true,()) | none => ([],false,()))
  | [],i,acc,_ => by simp [yJ,yHk,sgns]
  | w :: l,i,acc,h => by
    obtain ⟨v,hv,hx⟩ := yGt w;simp only [List.length_cons] at h;simp only [yJ,sgns];cases hs : sgn 9 w with
    | none =>
      have hb : yBZ w0 i w acc = some (.inl ([],false,())) := by
        unfold yBZ;rw [hv,Option.bind_some,hs];rfl
      rw [hb];rfl
    | some x =>
      have hb : yBZ w0 i w acc = some (.inr (acc ++ [x])) := by
        unfold yBZ;rw [hv,Option.bind_some,hs,hx x hs,bF (by rfl),bT (dT (by omega))]
      rw [hb];simp only [Option.bind_some];rw [y8b w0 l (i + 1) (acc ++ [x]) (by simp; omega)]
      cases sgns l with
      | none => rfl
      | some r => simp
theorem yDz (l : List Str) (h : l.length ≤ memMax) : zy_M l = some (match sgns l with | some r => (r,true,()) | none => ([],false,())) := by
  unfold zy_M;have := y2x;rw [bT (dT (by omega)),y8b l l 0 [] (by simpa using h)]
  simp
theorem yIF (L : List Str) (last i : Int) (l : Str) (hl : idx L i = some l) (hlen : l.length ≤ 5000) (c : List Nod × List Lnk) (h1 : c.1.length ≤ 5000) (h2 : c.2.length ≤ 5000) :
    y8o L last i c.1 c.2 = some (match rdL c (yg 32 l) with | none => .inl (Z0,i,26,()) | some c' => .inr (c'.1,c'.2)) := by
  have hmem : (5000 : Nat) < memMax := by decide
  unfold y8o;have hsp := yBt 32 l (by omega)
  rw [show (((32 : UInt8).toNat : Nat) : Int) = 32 from rfl] at hsp
  rw [hl,Option.bind_some,hsp,Option.bind_some];have hcount := y0n 32 l;have hcl : l.count 32 ≤ l.length := List.count_le_length;cases hs : yg 32 l with
  | nil => exact absurd hs (y2y 32 l)
  | cons k r =>
    rw [hs] at hcount;simp only [List.length_cons] at hcount;have e0 : idx (k :: r) (0 : Int) = some k := y2z (k :: r) 0;simp only [e0,Option.bind_some];by_cases hk : k = NODE
    · rw [bT (by rw [hk]; rfl)]
      unfold rdL;dsimp only;rw [if_pos hk];by_cases hc : 0 < c.2.length
      · rw [bT (dT (by omega))]
        match r with
        | [] => rfl
        | [_] => rfl
        | [_,_] => rfl
        | _ :: _ :: _ :: _ :: _ => rfl
        | [w1,w2,w3] => dsimp only; rw [if_pos (.inr hc)]; rfl
      · rw [bF (dF (by omega))]
        match r with
        | [] => rfl
        | [_] => rfl
        | [_,_] => rfl
        | _ :: _ :: _ :: _ :: r => rw [bT (by rw [bne_iff_ne]; simp only [List.length_cons]; omega)]; rfl
        | [w1,w2,w3] =>
          rw [bF (by rfl),show idx [k,w1,w2,w3] (1 : Int) = some w1 from rfl,Option.bind_some]
          dsimp only;by_cases hn0 : w1 = []
          · rw [bT (by rw [hn0]; rfl),if_pos (.inl hn0)]; rfl
          · rw [bF (by rw [beq_eq_false_iff_ne]; exact hn0),if_neg (by rintro (h | h); exact hn0 h; exact hc h),bT (by rfl),show List.drop (Int.toNat (2 : Int)) [k,w1,w2,w3] = [w2,w3] from rfl,yDz [w2,w3] (by show 2 ≤ memMax; decide),Option.bind_some]
            unfold sgns sgns sgns;cases sgn 9 w2 with
            | none => rfl
            | some a =>
              cases sgn 9 w3 with
              | none => rfl
              | some b =>
                simp only [Option.bind_some,Option.map_some,Bool.not_true,cond_false,show idx [a,b] (0 : Int) = some a from rfl,show idx [a,b] (1 : Int) = some b from rfl]
                rw [bT (dT (by omega))]
    · rw [bF (by rw [beq_eq_false_iff_ne]; exact hk),bT (by rw [dT (by omega),dT (by simp only [List.length_cons]; omega)]; rfl),show List.drop (Int.toNat (1 : Int)) (k :: r) = r from rfl,yDz r (by omega),Option.bind_some]
      unfold rdL;dsimp only;rw [if_neg hk];by_cases hk0 : k = []
      · rw [bT (by rw [hk0]; rfl)]
        match r with
        | [] => rfl
        | [_] => rfl
        | [_,_] => rfl
        | [_,_,_] => rfl
        | _ :: _ :: _ :: _ :: _ :: _ => rfl
        | [_,_,_,_] => dsimp only; rw [if_pos hk0]; rfl
      · rw [bF (by rw [beq_eq_false_iff_ne]; exact hk0)]
        match r with
        | [] => rw [bT (by rfl)]; rfl
        | [_] => rw [bT (by rfl)]; rfl
        | [_,_] => rw [bT (by rfl)]; rfl
        | [_,_,_] => rw [bT (by rfl)]; rfl
        | _ :: _ :: _ :: _ :: _ :: r => rw [bT (by rw [bne_iff_ne]; simp only [List.length_cons]; omega)]; rfl
        | [w1,w2,w3,w4] =>
          rw [bF (by rfl)]
          dsimp only;rw [if_neg hk0];unfold sgns sgns sgns sgns sgns;cases sgn 9 w1 with
          | none => rfl
          | some a =>
            cases sgn 9 w2 with
            | none => rfl
            | some b =>
              cases sgn 9 w3 with
              | none => rfl
              | some d =>
                cases sgn 9 w4 with
                | none => rfl
                | some e =>
                  simp only [Option.bind_some,Option.map_some,Bool.not_true,cond_false,show idx [a,b,d,e] (0 : Int) = some a from rfl,show idx [a,b,d,e] (1 : Int) = some b from rfl,show idx [a,b,d,e] (2 : Int) = some d from rfl,show idx [a,b,d,e] (3 : Int) = some e from rfl]
                  rw [bT (dT (by omega))]
theorem y86 (L : List Str) (hL : ∀ l ∈ L,l.length ≤ 4097) : ∀ (rest pre : List Str) (c : List Nod × List Lnk),L = pre ++ rest → rest ≠ [] → Inv pre.length c (rest.length - 1) →
    y1a (fun i__ s__ => y8o L ((L.length - 1 : Nat) : Int) i__ s__.1 s__.2) (fun s__ => yBC L ((L.length - 1 : Nat) : Int) s__.1 s__.2) (rest.length - 1) (pre.length : Int) (c.1,c.2) = some (prsL pre.length c rest)
  | [],_,_,_,h,_ => absurd rfl h
  | [t],pre,c,h,_,hI => by
    obtain ⟨h1,h2,h3,h4⟩ := hI;have hlast : L.length - 1 = pre.length := by rw [h]; simp
    have hg : idx L (pre.length : Int) = some t := by rw [y2z,h]; simp
    simp only [List.length_singleton,Nat.sub_self,y1a];unfold yBC;rw [hlast,hg,Option.bind_some];unfold prsL;by_cases ht : t = []
    · rw [bF (by rw [ht]; rfl),yB5,Option.bind_some,if_pos ht]
      by_cases he : y0b (c.1,c.2,()) = 0
      · rw [bF (by rw [he]; rfl),if_pos he]
      · rw [bT (by rw [bne_iff_ne]; exact he),if_neg he]; rfl
    · rw [bT (by rw [Bool.not_eq_true',beq_eq_false_iff_ne]; exact ht),if_neg ht]; rfl
  | l :: t :: ls,pre,c,h,_,hI => by
    have hI' := hI;obtain ⟨h1,h2,h3,h4⟩ := hI;have hg : idx L (pre.length : Int) = some l := by rw [y2z,h]; simp
    have hl := hL l (by rw [h]; simp)
    simp only [List.length_cons,Nat.add_sub_cancel,y1a];rw [yIF L _ _ l hg (by omega) c (by omega) (by omega),y7C _ c l (by simp)]
    cases hr : rdL c (yg 32 l) with
    | none => rfl
    | some c' =>
      simp only [Option.bind_some];have ih := y86 L hL (t :: ls) (pre ++ [l]) c' (by rw [h]; simp) (by simp) (by
        rw [List.length_append,List.length_singleton];exact yHm (m := ls.length) (by simpa using hI') (fun w hw => by have := y28 32 l w hw; omega) hr)
      simp only [List.length_append,List.length_singleton,List.length_cons,Nat.add_sub_cancel] at ih;exact ih
theorem yHS (s : Str) (h : s.length < lenMax) : yEh s = some (prs s) := by
  unfold yEh prs;by_cases hl : 4096 < s.length
  · rw [bT (dT (by omega)),if_pos hl]; rfl
  · have hsp := yBt 10 s (by simp only [memMax]; omega)
    rw [show (((10 : UInt8).toNat : Nat) : Int) = 10 from rfl] at hsp
    rw [bF (dF (by omega)),if_neg hl,hsp,Option.bind_some]
    have hcount := y0n 10 s;have hcl : s.count 10 ≤ s.length := List.count_le_length;have hw : IntKind.i64.wrap (((yg 10 s).length : Int) - 1) = (((yg 10 s).length - 1 : Nat) : Int) := by rw [w64 (by omega) (by omega)]; omega
    simp only [hw];rw [bT (dT (by omega)),Int.sub_zero,Int.toNat_natCast]
    exact y86 (yg 10 s) (fun l hl' => by have := y28 10 s l hl'; omega) (yg 10 s) [] ([],[]) rfl (y2y 10 s) ⟨Nat.le_refl _,Nat.le_refl _,by simp; omega,fun x hx => by cases hx⟩
end Go.Tw
end
section
set_option maxRecDepth 1000000
namespace Go.Tw
open Go.Vx Go.Vx.B Go.S Go.SA Go.Lib
def lnN (x : Nod) : Str := y2Q 32 [NODE,x.1,itoa x.2.1,itoa x.2.2.1]
def lnL (x : Lnk) : Str := y2Q 32 [x.1,itoa x.2.1,itoa x.2.2.1,itoa x.2.2.2.1,itoa x.2.2.2.2.1]
def ends : List Str → Str
  | [] => []
  | l :: r => l ++ 10 :: ends r
def prn (b : Bas) : Str := ends (b.1.map lnN ++ b.2.1.map lnL)
theorem yAJ : ∀ (a b : List Str),ends (a ++ b) = ends a ++ ends b
  | [],b => rfl
  | l :: a,b => by simp [ends,yAJ a b]
def N9 (n : Int) : Prop := n.natAbs < 10 ^ 9
theorem N9.i64 {n : Int} (h : N9 n) : I64 n := by unfold N9 at h; unfold I64; omega
theorem N9.len {n : Int} (h : N9 n) : (itoa n).length ≤ 10 := by
  have := y7f 8 n.natAbs h;unfold itoa;split
  · simp only [List.length_cons,decDigits_length]; omega
  · rw [decDigits_length,show n.toNat = n.natAbs by omega]; omega
structure SmallN (x : Nod) : Prop where
  name : x.1.length ≤ 60
  area : N9 x.2.1
  limit : N9 x.2.2.1
structure SmallL (x : Lnk) : Prop where
  kind : x.1.length ≤ 60
  n1 : N9 x.2.1
  n2 : N9 x.2.2.1
  n3 : N9 x.2.2.2.1
  n4 : N9 x.2.2.2.2.1
theorem SmallN.len {x : Nod} (h : SmallN x) : (lnN x).length ≤ 100 := by
  have h1 := h.area.len;have h2 := h.limit.len;have h3 := h.name;unfold lnN y2Q y2Q y2Q y2Q;simp only [List.length_append,List.length_cons,show NODE.length = 4 from rfl]
  omega
theorem SmallL.len {x : Lnk} (h : SmallL x) : (lnL x).length ≤ 120 := by
  have h1 := h.n1.len;have h2 := h.n2.len;have h3 := h.n3.len;have h4 := h.n4.len;have h5 := h.kind;unfold lnL y2Q y2Q y2Q y2Q y2Q;simp only [List.length_append,List.length_cons];omega
theorem y9o {c : Nat} : ∀ {l : List Str},(∀ x ∈ l,x.length ≤ c) → (ends l).length ≤ l.length * (c + 1)
  | [],_ => by simp [ends]
  | x :: l,h => by
    have h1 := h x (List.mem_cons_self ..);have h2 := y9o (l := l) fun y hy => h y (List.mem_cons_of_mem _ hy)
    simp only [ends,List.length_append,List.length_cons,Nat.succ_mul];omega
theorem y6B (of : Int × Unit → Option (List UInt8 × Unit)) (L : List Int) (h : ∀ n,I64 n → of (n,()) = some (itoa n,())) : ∀ (l : List Int) (i : Int) (acc : List Str),(∀ n ∈ l,I64 n) → acc.length + l.length ≤ memMax →
    yJ (fun i__ e__ s__ => yGW of L i__ e__ s__) (fun s__ => yIf of L s__) i l acc = some (acc ++ l.map itoa,())
  | [],i,acc,_,_ => by simp [yJ,yIf]
  | n :: l,i,acc,hn,hl => by
    simp only [List.length_cons] at hl;simp only [yJ];have hb : yGW of L i n acc = some (.inr (acc ++ [itoa n])) := by
      unfold yGW;rw [h n (hn n (List.mem_cons_self ..)),Option.bind_some,bT (dT (by omega))]
    rw [hb];simp only [Option.bind_some];rw [y6B of L h l (i + 1) (acc ++ [itoa n]) (fun m hm => hn m (List.mem_cons_of_mem _ hm)) (by simp; omega)]
    simp
theorem y9J (l : List Int) (hn : ∀ n ∈ l,I64 n) (hl : l.length ≤ memMax) : zM_M l (fun (x : Int × Unit) => yAA x.1) = some (l.map itoa,()) := by
  unfold zM_M;have := y2x;rw [bT (dT (by omega)),y6B _ l (fun n h => y6m n h) l 0 [] hn (by simpa using hl)]
  rfl
theorem y2t {α β σ : Type} {body : Int → α → σ → Option (β ⊕ σ)} {fin : σ → Option β} (g : Str → σ) (f : α → Str) (K B : Nat) : ∀ (l : List α) (i : Int) (s : Str),
    (∀ i e s,e ∈ l → s.length ≤ B → body i e (g s) = some (.inr (g (s ++ f e ++ [10])))) → (∀ e ∈ l,(f e).length ≤ K) → s.length + l.length * (K + 1) ≤ B →
    yJ body fin i l (g s) = fin (g (s ++ ends (l.map f)))
  | [],i,s,_,_,_ => by simp [yJ,ends]
  | e :: l,i,s,hb,hf,hl => by
    simp only [List.length_cons,Nat.succ_mul] at hl;have h1 := hf e (List.mem_cons_self ..);simp only [yJ];rw [hb i e s (List.mem_cons_self ..) (by omega)]
    simp only [Option.bind_some];rw [y2t g f K B l (i + 1) (s ++ f e ++ [10]) (fun i e s he => hb i e s (List.mem_cons_of_mem _ he)) (fun e he => hf e (List.mem_cons_of_mem _ he)) (by simp only [List.length_append,List.length_singleton]; omega)]
    simp [ends]
theorem y3B (s : Str) : (yh s).length = s.length := by simp [yh]
theorem yIJ (b : Bas) (T : List Nod) (i : Int) (e : Nod) (s : Str) (he : SmallN e) (hs : s.length ≤ 1000000) : y9O b T i e (yh s) = some (.inr (yh (s ++ lnN e ++ [10]))) := by
  have hlen := he.len;have hmm : (1000000 : Nat) + 1000 < memMax := by decide
  have hsm : (1000000 : Nat) + 1000 < strMax := by decide
  unfold y9O;rw [y9J _ (by intro n hn; simp only [List.mem_cons,List.not_mem_nil,or_false] at hn; rcases hn with rfl | rfl; exact he.area.i64; exact he.limit.i64) (by show 2 ≤ memMax; decide),Option.bind_some,
    bT (dT (by show 2 + 2 ≤ memMax; decide))]
  have hj : y76 ([[(110 : UInt8),111,100,101],e.1] ++ [e.2.1,e.2.2.1].map itoa) [32] = some (lnN e,()) := yEL _ (by show 4 ≤ 140737488355328; decide) (by show (lnN e).length ≤ _; omega)
  rw [hj,Option.bind_some,bT (dT (by show (lnN e).length + 1 < strMax; omega)),bT (dT (by rw [y3B]; show s.length + (lnN e ++ [10]).length ≤ memMax; simp only [List.length_append,List.length_singleton]; omega)),yE1,List.append_assoc]
theorem yIH (T : List Lnk) (i : Int) (e : Lnk) (s : Str) (he : SmallL e) (hs : s.length ≤ 1000000) : yCD T i e (yh s) = some (.inr (yh (s ++ lnL e ++ [10]))) := by
  have hlen := he.len;have hmm : (1000000 : Nat) + 1000 < memMax := by decide
  have hsm : (1000000 : Nat) + 1000 < strMax := by decide
  unfold yCD;rw [y9J _ (by intro n hn; simp only [List.mem_cons,List.not_mem_nil,or_false] at hn; rcases hn with rfl | rfl | rfl | rfl; exact he.n1.i64; exact he.n2.i64; exact he.n3.i64; exact he.n4.i64) (by show 4 ≤ memMax; decide),Option.bind_some,
    bT (dT (by show 1 + 4 ≤ memMax; decide))]
  have hj : y76 ([e.1] ++ [e.2.1,e.2.2.1,e.2.2.2.1,e.2.2.2.2.1].map itoa) [32] = some (lnL e,()) := yEL _ (by show 5 ≤ 140737488355328; decide) (by show (lnL e).length ≤ _; omega)
  rw [hj,Option.bind_some,bT (dT (by show (lnL e).length + 1 < strMax; omega)),bT (dT (by rw [y3B]; show s.length + (lnL e ++ [10]).length ≤ memMax; simp only [List.length_append,List.length_singleton]; omega)),yE1,List.append_assoc]
structure SmallB (b : Bas) : Prop where
  pos : 0 < b.1.length
  nodes : b.1.length ≤ 20
  links : b.2.1.length ≤ 20
  node : ∀ x ∈ b.1,SmallN x
  link : ∀ x ∈ b.2.1,SmallL x
theorem yGY {b : Bas} (h : 0 < b.1.length) : 0 < (prn b).length := by
  unfold prn;cases hb : b.1 with
  | nil => rw [hb] at h; simp at h
  | cons x l => simp [ends]; omega
theorem yCA (b : Bas) (h : SmallB b) : (bif decide (List.length (b.fst) < lenMax) then yJ (fun i__ e__ s__ => y9O (b) (b.fst) i__ e__ s__) (fun s__ => y96 (b) (b.fst) s__) 0 (b.fst) ([]) else none) = some (prn b,0,()) := by
  have h1 := h.nodes;have h2 := h.links;have hlm : (1000 : Nat) < lenMax := by decide
  have hN := y2t (body := fun i__ e__ s__ => y9O b b.1 i__ e__ s__) (fin := fun s__ => y96 b b.1 s__) yh lnN 100 1000000 b.1 0 [] (fun i e s he hs => yIJ b b.1 i e s (h.node e he) hs) (fun e he => (h.node e he).len) (by simp; omega)
  rw [bT (dT (by omega))]
  refine hN.trans ?_
  show y96 b b.1 (yh ([] ++ ends (b.1.map lnN))) = _
  rw [List.nil_append];unfold y96;have hlen := y9o (c := 100) (l := b.1.map lnN) (fun x hx => by obtain ⟨y,hy,rfl⟩ := List.mem_map.1 hx; exact (h.node y hy).len)
  simp only [List.length_map] at hlen;have hL := y2t (body := fun i__ e__ s__ => yCD b.2.1 i__ e__ s__) (fin := fun s__ => yBF b.2.1 s__) yh lnL 120 1000000 b.2.1 0 (ends (b.1.map lnN)) (fun i e s he hs => yIH b.2.1 i e s (h.link e he) hs) (fun e he => (h.link e he).len) (by omega)
  rw [bT (dT (by omega))]
  refine hL.trans ?_
  have e : ends (b.1.map lnN) ++ ends (b.2.1.map lnL) = prn b := by unfold prn; rw [yAJ]
  show yBF b.2.1 (yh (ends (b.1.map lnN) ++ ends (b.2.1.map lnL))) = _
  rw [e];unfold yBF;rw [bT (dT (by rw [y3B]; exact yGY h.pos)),bT (by rw [yAm,dT (by rw [y3B]; exact yGY h.pos)]; simp),yFY]
theorem yJD (b : Bas) (i : Int) (e : Nod) (s : Str) (he : SmallN e) (hs : s.length ≤ 1000000) : y9I b i e s = some (.inr (s ++ lnN e ++ [10])) := by
  have h1 := he.area.len;have h2 := he.limit.len;have h3 := he.name;have hsm : (1000000 : Nat) + 1000 < strMax := by decide
  unfold y9I;rw [y5v _ he.area.i64,y5v _ he.limit.i64];simp only [Option.bind_some,List.length_append,List.length_cons,List.length_nil];rw [bT (dT (by omega)),bT (dT (by omega)),bT (dT (by omega)),bT (dT (by omega)),bT (dT (by omega)),bT (dT (by omega)),bT (dT (by omega))]
  simp [lnN,y2Q,NODE]
theorem yIX (b : Bas) (i : Int) (e : Lnk) (s : Str) (he : SmallL e) (hs : s.length ≤ 1000000) : y9N b i e s = some (.inr (s ++ lnL e ++ [10])) := by
  have h1 := he.n1.len;have h2 := he.n2.len;have h3 := he.n3.len;have h4 := he.n4.len;have h5 := he.kind;have hsm : (1000000 : Nat) + 1000 < strMax := by decide
  unfold y9N;rw [y5v _ he.n1.i64,y5v _ he.n2.i64,y5v _ he.n3.i64,y5v _ he.n4.i64];simp only [Option.bind_some,List.length_append,List.length_cons,List.length_nil];rw [bT (dT (by omega)),bT (dT (by omega)),bT (dT (by omega)),bT (dT (by omega)),bT (dT (by omega)),bT (dT (by omega)),bT (dT (by omega)),bT (dT (by omega)),bT (dT (by omega)),bT (dT (by omega))]
  simp [lnL,y2Q]
theorem yHh (b : Bas) (h : SmallB b) : yFZ b = some (prn b,()) := by
  have h1 := h.nodes;have h2 := h.links;have hlm : (1000 : Nat) < lenMax := by decide
  unfold yFZ;have hN := y2t (body := fun i__ e__ s__ => y9I b i__ e__ s__) (fin := fun s__ => y8f b s__) (fun s => s) lnN 100 1000000 b.1 0 [] (fun i e s he hs => yJD b i e s (h.node e he) hs) (fun e he => (h.node e he).len) (by simp; omega)
  rw [bT (dT (by omega))]
  refine hN.trans ?_
  show y8f b ([] ++ ends (b.1.map lnN)) = _
  rw [List.nil_append];unfold y8f;have hlen := y9o (c := 100) (l := b.1.map lnN) (fun x hx => by obtain ⟨y,hy,rfl⟩ := List.mem_map.1 hx; exact (h.node y hy).len)
  simp only [List.length_map] at hlen;have hL := y2t (body := fun i__ e__ s__ => y9N b i__ e__ s__) (fin := fun s__ => yAj b s__) (fun s => s) lnL 120 1000000 b.2.1 0 (ends (b.1.map lnN)) (fun i e s he hs => yIX b i e s (h.link e he) hs) (fun e he => (h.link e he).len) (by omega)
  rw [bT (dT (by omega))]
  refine hL.trans ?_
  have e : ends (b.1.map lnN) ++ ends (b.2.1.map lnL) = prn b := by unfold prn; rw [yAJ]
  show yAj b (ends (b.1.map lnN) ++ ends (b.2.1.map lnL)) = _
  rw [e];rfl
theorem y7K : ∀ {l done : List Nod},y2a done l = 0 → ∀ n ∈ l,isNm n.1 = true
  | [],_,_,n,hn => by simp at hn
  | m :: l,done,h,n,hn => by
    obtain ⟨h1,h2⟩ := y3T (show y0N (y5l done m) (y2a (done ++ [m]) l) = 0 from h)
    rcases List.mem_cons.1 hn with rfl | hn
    · have := y0W h1 _ (List.mem_cons_self ..);cases hi : isNm n.1 with
      | true => rfl
      | false => rw [hi] at this; cases this
    · exact y7K h2 n hn
theorem yJT {b : Bas} (h : y0b b = 0) : ∀ n ∈ b.1,isNm n.1 = true := by
  obtain ⟨h1,_⟩ := y3T h;obtain ⟨_,_,g3⟩ := y6H h1;exact y7K g3
theorem yJM {s : Str} (h : isNm s = true) : 0 < s.length ∧ s.length ≤ 24 := by
  unfold isNm at h;simp only [Bool.and_eq_true,decide_eq_true_eq] at h;exact h.2
theorem yFD {k : Str} (h : y1U k ≠ none) : k = kB ∨ k = kL ∨ k = kO ∨ k = kP ∨ k = kW := by
  rcases y3H k with h1 | h1 | h1 | h1 | h1 | ⟨h1,h2,h3,h4,h5⟩
  · exact .inl h1
  · exact .inr (.inl h1)
  · exact .inr (.inr (.inl h1))
  · exact .inr (.inr (.inr (.inl h1)))
  · exact .inr (.inr (.inr (.inr h1)))
  · unfold y1U at h;rw [if_neg h1,if_neg h2,if_neg h3,if_neg h4,if_neg h5] at h;exact absurd rfl h
theorem yDh {b : Bas} (h : y0b b = 0) : SmallB b := by
  have hb := yAg h;have h8 := hb.nodes;refine ⟨hb.pos,by omega,by have := hb.links; omega,fun x hx => ⟨by have := yJM (yJT h x hx); omega,by have := hb.area x hx; unfold N9; omega,by have := hb.limit x hx; unfold N9; omega⟩,fun x hx => ?_⟩
  have hl := hb.link x hx;refine ⟨?_,by have := hl.from_; unfold N9; omega,by have := hl.to_; unfold N9; omega,by have := hl.at_; unfold N9; omega,by have := hl.rate; unfold N9; omega⟩
  rcases yFD hl.kind with e | e | e | e | e <;> rw [e] <;> decide
theorem yHx (b : Bas) (hn : ∀ n ∈ b.1,n.1.length < lenMax) : yI7 b = some (if y0b b = 0 then (prn b,0,()) else ([],y0b b,())) := by
  unfold yI7;rw [yC6 b hn,Option.bind_some];by_cases h : y0b b = 0
  · rw [bF (by rw [h]; rfl),if_pos h]
    exact yCA b (yDh h)
  · rw [bT (by rw [bne_iff_ne]; exact h),if_neg h]
theorem y95 (T : List Lnk) (c2 : List Nod) : ∀ (l : List Lnk) (i : Int) (acc : List Lnk),acc.length + l.length ≤ memMax →
    yJ (fun i__ e__ s__ => y98 T c2 i__ e__ s__) (fun s__ => yAw T c2 s__) i l acc = some ((c2,acc ++ l,()),())
  | [],i,acc,_ => by simp [yJ,yAw]
  | x :: l,i,acc,h => by
    simp only [List.length_cons] at h;simp only [yJ];have hb : y98 T c2 i x acc = some (.inr (acc ++ [x])) := by
      unfold y98;rw [bT (dT (by omega))]
    rw [hb];simp only [Option.bind_some];rw [y95 T c2 l (i + 1) (acc ++ [x]) (by simp; omega)]
    simp
theorem y8z (b : Bas) (h2 : b.2.1.length ≤ memMax) (T : List Nod) : ∀ (l : List Nod) (i : Int) (acc : List Nod),acc.length + l.length ≤ memMax →
    yJ (fun i__ e__ s__ => y8w b T [] i__ e__ s__) (fun s__ => yAk b T [] s__) i l acc = some ((acc ++ l,b.2.1,()),())
  | [],i,acc,_ => by
    have := y2x;simp only [yJ,yAk];rw [bT (dT (by omega)),y95 b.2.1 acc b.2.1 0 [] (by simpa using h2)]
    simp
  | x :: l,i,acc,h => by
    simp only [List.length_cons] at h;simp only [yJ];have hb : y8w b T [] i x acc = some (.inr (acc ++ [x])) := by
      unfold y8w;rw [bT (dT (by omega))]
    rw [hb];simp only [Option.bind_some];rw [y8z b h2 T l (i + 1) (acc ++ [x]) (by simp; omega)]
    simp
theorem yKC (b : Bas) (h1 : b.1.length ≤ memMax) (h2 : b.2.1.length ≤ memMax) : yEr b = some (b,()) := by
  unfold yEr;have := y2x;rw [bT (dT (by omega)),y8z b h2 b.1 b.1 0 [] (by simpa using h1)]
  rfl
theorem yHB (b : Bas) (h1 : b.1.length < lenMax) (h2 : b.2.1.length < lenMax) : zu_M b b = some (true,()) := by
  have links : ∀ (l pre : List Lnk),b.2.1 = pre ++ l → yJ (fun i__ e__ s__ => yEY b b i__ e__) (fun s__ => yIs b b) (pre.length : Int) l () = some (true,()) := by
    intro l;induction l with
    | nil => intro pre _; rfl
    | cons x l ih =>
      intro pre h;simp only [yJ];have hg : idx b.2.1 (pre.length : Int) = some x := by rw [y2z,h]; simp
      have hb : yEY b b (pre.length : Int) x = some (.inr ()) := by
        unfold yEY;rw [hg,Option.bind_some,bF (by simp [eqV])]
      rw [hb];simp only [Option.bind_some];have := ih (pre ++ [x]) (by rw [h]; simp)
      rw [show ((pre ++ [x]).length : Int) = (pre.length : Int) + 1 by simp] at this
      exact this
  have nodes : ∀ (l pre : List Nod),b.1 = pre ++ l → yJ (fun i__ e__ s__ => yF7 b b i__ e__) (fun s__ => yGk b b) (pre.length : Int) l () = some (true,()) := by
    intro l;induction l with
    | nil =>
      intro pre _;simp only [yJ];unfold yGk;rw [bT (dT h2)];exact links b.2.1 [] rfl
    | cons x l ih =>
      intro pre h;simp only [yJ];have hg : idx b.1 (pre.length : Int) = some x := by rw [y2z,h]; simp
      have hb : yF7 b b (pre.length : Int) x = some (.inr ()) := by
        unfold yF7;rw [hg,Option.bind_some,bF (by simp [eqV])]
      rw [hb];simp only [Option.bind_some];have := ih (pre ++ [x]) (by rw [h]; simp)
      rw [show ((pre ++ [x]).length : Int) = (pre.length : Int) + 1 by simp] at this
      exact this
  unfold zu_M;rw [bF (by simp),bF (by simp),bT (dT h1)]
  exact nodes b.1 [] rfl
theorem yIy {c c' : List Nod × List Lnk} {w : List Str} (hr : rdL c w = some c') : c'.1.length ≤ c.1.length + 1 ∧ c'.2.length ≤ c.2.length + 1 := by
  unfold rdL at hr;split at hr
  · cases hr
  · split at hr
    · split at hr
      · split at hr
        · cases hr
        · obtain ⟨a,_,hr⟩ := Option.bind_eq_some_iff.1 hr;obtain ⟨b,_,rfl⟩ := Option.map_eq_some_iff.1 hr;simp
      · cases hr
    · split at hr
      · split at hr
        · cases hr
        · obtain ⟨a,_,hr⟩ := Option.bind_eq_some_iff.1 hr;obtain ⟨b,_,hr⟩ := Option.bind_eq_some_iff.1 hr;obtain ⟨d,_,hr⟩ := Option.bind_eq_some_iff.1 hr;obtain ⟨e,_,rfl⟩ := Option.map_eq_some_iff.1 hr;simp
      · cases hr
theorem yBB : ∀ (ls : List Str) (n : Nat) (c : List Nod × List Lnk),(prsL n c ls).1.1.length ≤ c.1.length + ls.length ∧ (prsL n c ls).1.2.1.length ≤ c.2.length + ls.length
  | [],n,c => by simp [prsL,Z0]
  | [t],n,c => by
    unfold prsL;split
    · split
      · simp
      · simp [Z0]
    · simp [Z0]
  | l :: t :: ls,n,c => by
    rw [y7C n c l (by simp)]
    split
    · simp [Z0]
    · rename_i c' hr;have h1 := yIy hr;have h2 := yBB (t :: ls) (n + 1) c';simp only [List.length_cons] at h2 ⊢;omega
theorem yIP (s : Str) : (prs s).1.1.length ≤ 4097 ∧ (prs s).1.2.1.length ≤ 4097 := by
  unfold prs;split
  · simp [Z0]
  · have h1 := yBB (yg 10 s) 0 ([],[]);have h2 := y0n 10 s;have h3 : s.count 10 ≤ s.length := List.count_le_length;simp only [List.length_nil] at h1;omega
theorem y9P (b : Bas) (hs1 : b.1.length ≤ 9) (hs2 : b.2.1.length ≤ 17) (hn : ∀ n ∈ b.1,n.1.length ≤ 60) (s : Str) (h : s.length ≤ 4097) : y6U 0 b s = some (true,()) := by
  have hmm : (5000 : Nat) < memMax := by decide
  have hlm : (5000 : Nat) < lenMax := by decide
  have hz := yIP s;have fin : ∀ t : Str,y6p 0 s (t,y0b b,()) (prs s) (y0b b,()) t = some (true,()) := fun t => by
    unfold y6p;rw [yHS s (by omega),Option.bind_some,bT (by simp),bT (by simp)]
    have ht := yKC ((prs s).1.1,(prs s).1.2.1,()) (by show (prs s).1.1.length ≤ _; omega) (by show (prs s).1.2.1.length ≤ _; omega)
    have hsame := yHB ((prs s).1.1,(prs s).1.2.1,()) (by show (prs s).1.1.length < _; omega) (by show (prs s).1.2.1.length < _; omega)
    rw [ht,Option.bind_some,hsame,Option.bind_some,bT (by rfl),bT (by simp),bT (by simp),y5a]
    rfl
  unfold y6U;rw [yIa b (by omega) (by omega),Option.bind_some,yHx b (fun n hx => by have := hn n hx; omega),Option.bind_some,yGH s (by omega),Option.bind_some,yB5,Option.bind_some]
  by_cases hc : y0b b = 0
  · rw [bT (by rw [hc]; rfl),yHh b (yDh hc),Option.bind_some,if_pos hc]
    have := fin (prn b);rw [hc] at this ⊢;exact this
  · rw [bF (by rw [beq_eq_false_iff_ne]; exact hc),if_neg hc]
    exact fin []
theorem yHy (b : Bas) (s : Str) : zl_M b s = some (true,()) := by
  obtain ⟨sh,h1,h2⟩ := yIx b;unfold zl_M zl_m;rw [h1,Option.bind_some];cases sh with
  | false => rw [bT (by rfl),y5a]; rfl
  | true =>
    obtain ⟨g1,g2,g3⟩ := h2 rfl;rw [bF (by rfl)]
    by_cases hl : (s.length : Int) > 300
    · rw [bT (dT hl)];by_cases h7 : (s.length : Int) = 4097
      · rw [bF (by rw [h7]; rfl)]
        exact y9P b g1 g2 g3 s (by omega)
      · rw [bT (by rw [bne_iff_ne]; exact h7),y5a]; rfl
    · rw [bF (dF hl)];exact y9P b g1 g2 g3 s (by omega)
end Go.Tw
end
