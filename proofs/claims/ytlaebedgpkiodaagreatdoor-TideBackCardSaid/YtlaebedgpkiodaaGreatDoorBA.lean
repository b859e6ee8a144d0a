import Derived.Test.YtlaebedgpkiodaaGreatDoorBT
import Derived.Test.YtlaebedgpkiodaaGreatDoorB0
import Derived.Test.YtlaebedgpkiodaaGreatDoorSA
import Derived.Test.YtlaebedgpkiodaaGreatDoorLZ
set_option linter.all false
open Go.IntKind (i64)
section
set_option maxRecDepth 1000000
namespace Go.Tw
open Go.Vx Go.Vx.B Go.Proofs
noncomputable section
def yFO(n:Nat)(r0:List Int->Int->Option (Int×Unit))(av:List Int)(bw:Int):Option (Int×Unit):=
  (bif decide (bw < (↑av.length:Int))then ((idx av bw).bind λ v1=>(bif v1 != 0 then ((idx av bw).bind λ v2=>some (v2,()))else r0 av (i64.wrap (bw+1))))else some ((0:Int),()))
def y7c(n:Nat)(k:Nat)(av:List Int)(bw:Int):Option (Int×Unit):=
  iter (λ r y=>yFO n (λ av bw=>r ((av,(bw,())),((),()))) y.1.1 y.1.2.1) k ((av,(bw,())),((),()))
def yRE(n:Nat)(l:List Int):Option (Int×Unit):=
  (y7c n n (l) ((0:Int)))
def yEC(av:List Int)(bw:Int)(v1:Int):Option ((Int×Unit)⊕Unit):=
  (bif v1 != 0 then ((idx av bw).bind λ v2=>(some (Sum.inl ((v2,())))))else (some (Sum.inr ())))
def yEF(av:List Int):Option (Int×Unit):=
  (some (((0:Int),())))
theorem yDl(n:Nat)(hn:big<=n)(av:List Int)(hx:List.length (av) < lenMax):LeF some (yS (λ al aN af=>yEC av al aN) (λ af=>yEF av) 0 (av) ()) (y7c n n av 0):=by
  refine yf (f:=some) (W:=λ aH al af=>y7c n aH av al) (λ aH al af=>?_) hx () n (by unfold big at hn;unfold lenMax at hx;omega)
  show LeF _ _ (yFO n (y7c n aH) av al)
  exact y5 (yC λ v1=>(y5 (yC λ v2=>(y8 rfl)) (y8 rfl))) (y16 (y8 rfl))
def yGR(l:List Int):Option (Int×Unit):=
  (bif decide (List.length (l) < lenMax)then yS (λ al aN af=>yEC (l) al aN) (λ af=>yEF (l)) 0 (l) ()else none)
abbrev z0Q_e:Entry:={ f:=43,args:=.pair t88 .unit,rS:=.pair t3 .unit,m:=λ x=>yGR x.1 }
theorem yLl:FnOK Tryz.prog z0Q_e:=fB Tryz.f43 (λ n x=>yRE n x.1) [[0,3]] eNil λ n hn x=>(yd λ hx=>by apply yDl n hn;exact hx)
def yJ5(n:Nat)(r0:List (Q4)->List (Q4)->Int->Option (Bool×Unit))(ak:List (Q4))(am:List (Q4))(aq:Int):Option (Bool×Unit):=
  (bif decide (aq < (↑ak.length:Int))then ((idx ak aq).bind λ v1=>((idx am aq).bind λ v2=>(bif !eqV ((Ty.int i64).pair ((Ty.int i64).pair Ty.unit)) v1 v2 then some (Bool.false,())else r0 ak am (i64.wrap (aq+1)))))else some (Bool.true,()))
def yAB(n:Nat)(k:Nat)(ak:List (Q4))(am:List (Q4))(aq:Int):Option (Bool×Unit):=
  iter (λ r y=>yJ5 n (λ ak am aq=>r ((ak,(am,(aq,()))),((),()))) y.1.1 y.1.2.1 y.1.2.2.1) k ((ak,(am,(aq,()))),((),()))
def zW_m(n:Nat)(a:List (Q4))(b:List (Q4)):Option (Bool×Unit):=
  (bif (↑a.length:Int) != (↑b.length:Int)then some (Bool.false,())else (yAB n n (a) (b) ((0:Int))))
def yMg(ak:List (Q4))(am:List (Q4))(aq:Int)(v1:Q4):Option ((Bool×Unit)⊕Unit):=
  ((idx am aq).bind λ v2=>(bif !eqV ((Ty.int i64).pair ((Ty.int i64).pair Ty.unit)) v1 v2 then (some (Sum.inl ((Bool.false,()))))else (some (Sum.inr ()))))
def yPr(ak:List (Q4))(am:List (Q4)):Option (Bool×Unit):=
  (some ((Bool.true,())))
theorem yGJ(n:Nat)(hn:big<=n)(ak:List (Q4))(am:List (Q4))(hx:List.length (ak) < lenMax):LeF some (yS (λ al aN af=>yMg ak am al aN) (λ af=>yPr ak am) 0 (ak) ()) (yAB n n ak am 0):=by
  refine yf (f:=some) (W:=λ aH al af=>yAB n aH ak am al) (λ aH al af=>?_) hx () n (by unfold big at hn;unfold lenMax at hx;omega)
  show LeF _ _ (yJ5 n (yAB n aH) ak am al)
  exact y5 (yC λ v1=>(yC λ v2=>(y5 (y8 rfl) (y8 rfl)))) (y16 (y8 rfl))
def zW_M(a:List (Q4))(b:List (Q4)):Option (Bool×Unit):=
  (bif (↑a.length:Int) != (↑b.length:Int)then (some ((Bool.false,())))else (bif decide (List.length (a) < lenMax)then yS (λ al aN af=>yMg (a) (b) al aN) (λ af=>yPr (a) (b)) 0 (a) ()else none))
abbrev zW_e:Entry:={ f:=31,args:=.pair t30 (.pair t30 .unit),rS:=.pair t4 .unit,m:=λ x=>zW_M x.1 x.2.1 }
theorem yNS:FnOK Tryz.prog zW_e:=fB Tryz.f31 (λ n x=>zW_m n x.1 x.2.1) [[0,1,5]] eNil λ n hn x=>(y5 (y8 rfl) (yd λ hx=>by apply yGJ n hn;exact hx))
def yNK(n:Nat)(r0:List Nat->List Nat->Int->Option (Bool×Unit))(ak:List Nat)(am:List Nat)(aq:Int):Option (Bool×Unit):=
  (bif decide (aq < (↑ak.length:Int))then ((idx ak aq).bind λ v1=>((idx am aq).bind λ v2=>(bif y1K BinOp.neq FloatKind.f32 v1 v2 then some (Bool.false,())else r0 ak am (i64.wrap (aq+1)))))else some (Bool.true,()))
def yN0(n:Nat)(k:Nat)(ak:List Nat)(am:List Nat)(aq:Int):Option (Bool×Unit):=
  iter (λ r y=>yNK n (λ ak am aq=>r ((ak,(am,(aq,()))),((),()))) y.1.1 y.1.2.1 y.1.2.2.1) k ((ak,(am,(aq,()))),((),()))
def zb_m(n:Nat)(a:List Nat)(b:List Nat):Option (Bool×Unit):=
  (bif (↑a.length:Int) != (↑b.length:Int)then some (Bool.false,())else (yN0 n n (a) (b) ((0:Int))))
def zb_M(a:List Nat)(b:List Nat):Option (Bool×Unit):=zb_m 1000 a b
abbrev zb_e:Entry:={ f:=40,args:=.pair t37 (.pair t37 .unit),rS:=.pair t4 .unit,m:=λ x=>zb_M x.1 x.2.1 }
theorem yQQ:FnOK Tryz.prog zb_e:=fF 1000 Tryz.f40 (λ n x=>zb_m n x.1 x.2.1) [[0,1,5]] eNil
def yIC(n:Nat)(r0:List (Q3)->Int->Option (Bool×Unit))(av:List (Q3))(bw:Int):Option (Bool×Unit):=
  (bif decide (bw < (↑av.length:Int))then ((idx av bw).bind λ v1=>(bif decide ((↑v1.1.length:Int) > 60)then some (Bool.false,())else r0 av (i64.wrap (bw+1))))else some (decide ((↑av.length:Int)<=5),()))
def yAj(n:Nat)(k:Nat)(av:List (Q3))(bw:Int):Option (Bool×Unit):=
  iter (λ r y=>yIC n (λ av bw=>r ((av,(bw,())),((),()))) y.1.1 y.1.2.1) k ((av,(bw,())),((),()))
def zl_m(n:Nat)(l:List (Q3)):Option (Bool×Unit):=
  (yAj n n (l) ((0:Int)))
def yMs(av:List (Q3))(bw:Int)(v1:Q3):Option ((Bool×Unit)⊕Unit):=
  (bif decide ((↑v1.1.length:Int) > 60)then (some (Sum.inl ((Bool.false,()))))else (some (Sum.inr ())))
def yK1(av:List (Q3)):Option (Bool×Unit):=
  (some ((decide ((↑av.length:Int)<=5),())))
theorem yFo(n:Nat)(hn:big<=n)(av:List (Q3))(hx:List.length (av) < lenMax):LeF some (yS (λ al aN af=>yMs av al aN) (λ af=>yK1 av) 0 (av) ()) (yAj n n av 0):=by
  refine yf (f:=some) (W:=λ aH al af=>yAj n aH av al) (λ aH al af=>?_) hx () n (by unfold big at hn;unfold lenMax at hx;omega)
  show LeF _ _ (yIC n (yAj n aH) av al)
  exact y5 (yC λ v1=>(y5 (y8 rfl) (y8 rfl))) (y16 (y8 rfl))
def zl_M(l:List (Q3)):Option (Bool×Unit):=
  (bif decide (List.length (l) < lenMax)then yS (λ al aN af=>yMs (l) al aN) (λ af=>yK1 (l)) 0 (l) ()else none)
abbrev zl_e:Entry:={ f:=7,args:=.pair t22 .unit,rS:=.pair t4 .unit,m:=λ x=>zl_M x.1 }
theorem yRH:FnOK Tryz.prog zl_e:=fB Tryz.f7 (λ n x=>zl_m n x.1) [[0,3]] eNil λ n hn x=>(yd λ hx=>by apply yFo n hn;exact hx)
def yEW(n:Nat)(r0:List (Q3)->Int->Int->List (Q3)->Option (List (Q3)×Unit))(aA:List (Q3))(au:Int)(a7:Int)(aF:List (Q3)):Option (List (Q3)×Unit):=
  (bif decide (a7 < au)then ((idx aA a7).bind λ v1=>(bif decide (aF.length+(1:Nat)<=memMax)then r0 aA au (i64.wrap (a7+1)) (aF++[(v1.1,v1.2.1,v1.2.2.1,())])else none))else some (aF,()))
def y7V(n:Nat)(k:Nat)(aA:List (Q3))(au:Int)(a7:Int)(aF:List (Q3)):Option (List (Q3)×Unit):=
  iter (λ r y=>yEW n (λ aA au a7 aF=>r ((aA,(au,(a7,()))),((aF,()),()))) y.1.1 y.1.2.1 y.1.2.2.1 y.2.1.1) k ((aA,(au,(a7,()))),((aF,()),()))
def yQs(n:Nat)(l:List (Q3)):Option (List (Q3)×Unit):=
  (y7V n n (l) ((↑l.length:Int)) ((0:Int)) ([]))
def yGx(aA:List (Q3))(a7:Int)(v1:Q3)(aF:List (Q3)):Option ((List (Q3)×Unit)⊕(List (Q3))):=
  (bif decide (aF.length+(1:Nat)<=memMax)then (some (Sum.inr (aF++[(v1.1,v1.2.1,v1.2.2.1,())])))else none)
def yLp(aA:List (Q3))(aF:List (Q3)):Option (List (Q3)×Unit):=
  (some ((aF,())))
theorem yD8(n:Nat)(hn:big<=n)(aA:List (Q3))(aF:List (Q3))(hx:List.length (aA) < lenMax):LeF some (yS (λ al aN af=>yGx aA al aN af) (λ af=>yLp aA af) 0 (aA) aF) (y7V n n aA (List.length (aA):Int) 0 aF):=by
  refine yf (f:=some) (W:=λ aH al af=>y7V n aH aA (List.length (aA):Int) al af) (λ aH al af=>?_) hx aF n (by unfold big at hn;unfold lenMax at hx;omega)
  show LeF _ _ (yEW n (y7V n aH) aA (List.length (aA):Int) al af)
  exact y5 (yC λ v1=>(y5 (y8 rfl) yK)) (y16 (y8 rfl))
def yKS(l:List (Q3)):Option (List (Q3)×Unit):=
  (bif decide (List.length (l) < lenMax)then yS (λ al aN af=>yGx (l) al aN af) (λ af=>yLp (l) af) 0 (l) ([])else none)
abbrev z0g_e:Entry:={ f:=9,args:=.pair t22 .unit,rS:=.pair t28 .unit,m:=λ x=>yKS x.1 }
theorem yPw:FnOK Tryz.prog z0g_e:=fB (mu:=[3]) Tryz.f9 (λ n x=>yQs n x.1) [[3,6,7,8]] eNil λ n hn x=>(yd λ hx=>by apply yD8 n hn;exact hx)
def yEs(n:Nat)(r0:List (Q3)->Int->Int->Int->List (Q4)->Int->List (Q3)->Option ((Q2)×Unit))(aI:List (Q3))(aM:Int)(aw:Int)(b9:Int)(ac:List (Q4))(aU:Int)(bi:List (Q3)):Option ((Q2)×Unit):=
  (bif decide (aw < aM)then ((idx aI aw).bind λ v1=>(bif decide (bi.length+(1:Nat)<=memMax)then r0 aI aM (i64.wrap (aw+1)) b9 ac aU (bi++[(v1.1,v1.2.1,v1.2.2.1,())])else none))else some ((bi,ac,aU,()),()))
def y7Z(n:Nat)(k:Nat)(aI:List (Q3))(aM:Int)(aw:Int)(b9:Int)(ac:List (Q4))(aU:Int)(bi:List (Q3)):Option ((Q2)×Unit):=
  iter (λ r y=>yEs n (λ aI aM aw b9 ac aU bi=>r ((aI,(aM,(aw,()))),(((b9,()),((ac,(aU,())),(bi,()))),()))) y.1.1 y.1.2.1 y.1.2.2.1 y.2.1.1.1 y.2.1.2.1.1 y.2.1.2.1.2.1 y.2.1.2.2.1) k ((aI,(aM,(aw,()))),(((b9,()),((ac,(aU,())),(bi,()))),()))
def yQy(n:Nat)(t:Q2):Option ((Q2)×Unit):=
  (y7Z n n (t.1) ((↑t.1.length:Int)) ((0:Int)) ((0:Int)) (t.2.1) (t.2.2.1) ([]))
def yIX(aI:List (Q3))(b9:Int)(ac:List (Q4))(aU:Int)(aw:Int)(v1:Q3)(bi:List (Q3)):Option (((Q2)×Unit)⊕(List (Q3))):=
  (bif decide (bi.length+(1:Nat)<=memMax)then (some (Sum.inr (bi++[(v1.1,v1.2.1,v1.2.2.1,())])))else none)
def yLL(aI:List (Q3))(b9:Int)(ac:List (Q4))(aU:Int)(bi:List (Q3)):Option ((Q2)×Unit):=
  (some (((bi,ac,aU,()),())))
theorem yDm(n:Nat)(hn:big<=n)(aI:List (Q3))(b9:Int)(ac:List (Q4))(aU:Int)(bi:List (Q3))(hx:List.length (aI) < lenMax):LeF some (yS (λ al aN af=>yIX aI b9 ac aU al aN af) (λ af=>yLL aI b9 ac aU af) 0 (aI) bi) (y7Z n n aI (List.length (aI):Int) 0 b9 ac aU bi):=by
  refine yf (f:=some) (W:=λ aH al af=>y7Z n aH aI (List.length (aI):Int) al b9 ac aU af) (λ aH al af=>?_) hx bi n (by unfold big at hn;unfold lenMax at hx;omega)
  show LeF _ _ (yEs n (y7Z n aH) aI (List.length (aI):Int) al b9 ac aU af)
  exact y5 (yC λ v1=>(y5 (y8 rfl) yK)) (y16 (y8 rfl))
def yDj(t:Q2):Option ((Q2)×Unit):=
  (bif decide (List.length (t.1) < lenMax)then yS (λ al aN af=>yIX (t.1) ((0:Int)) (t.2.1) (t.2.2.1) al aN af) (λ af=>yLL (t.1) ((0:Int)) (t.2.1) (t.2.2.1) af) 0 (t.1) ([])else none)
abbrev z0i_e:Entry:={ f:=16,args:=.pair t32 .unit,rS:=.pair t58 .unit,m:=λ x=>yDj x.1 }
theorem yLC:FnOK Tryz.prog z0i_e:=fB (mu:=[3,10]) Tryz.f16 (λ n x=>yQy n x.1) [[2,3,12,13,14]] eNil λ n hn x=>(yd λ hx=>by apply yDm n hn;exact hx)
def za_m(n:Nat)(np:Int)(low:Int)(high:Int):Option (Int×Unit):=
  (bif decide (np < low)then some ((3:Int),())else (bif decide (np > high)then some ((3:Int),())else some ((0:Int),())))
def za(np:Int)(low:Int)(high:Int):(Int×Unit):=
  (bif decide (np < low)then ((3:Int),())else (bif decide (np > high)then ((3:Int),())else ((0:Int),())))
abbrev za_M (np:Int) (low:Int) (high:Int):Option (Int×Unit):=some (za np low high)
abbrev za_e:Entry:={ f:=45,args:=.pair t3 (.pair t3 (.pair t3 .unit)),rS:=.pair t3 .unit,m:=λ x=>za_M x.1 x.2.1 x.2.2.1 }
theorem yN4:FnOK Tryz.prog za_e:=fF (hm:=by intro x;show some (za x.1 x.2.1 x.2.2.1)=za_m 0 x.1 x.2.1 x.2.2.1;unfold za_m za;first|rfl|simp only[yr]) 0 Tryz.f45 (λ n x=>za_m n x.1 x.2.1 x.2.2.1) [] eNil
def yJ0(n:Nat)(r0:List (Nat×Nat)->List (Nat×Nat)->Int->Option (Bool×Unit))(ak:List (Nat×Nat))(am:List (Nat×Nat))(aq:Int):Option (Bool×Unit):=
  (bif decide (aq < (↑ak.length:Int))then ((idx ak aq).bind λ v1=>((idx am aq).bind λ v2=>(bif !y9X FloatKind.f32 v1 v2 then some (Bool.false,())else r0 ak am (i64.wrap (aq+1)))))else some (Bool.true,()))
def yAC(n:Nat)(k:Nat)(ak:List (Nat×Nat))(am:List (Nat×Nat))(aq:Int):Option (Bool×Unit):=
  iter (λ r y=>yJ0 n (λ ak am aq=>r ((ak,(am,(aq,()))),((),()))) y.1.1 y.1.2.1 y.1.2.2.1) k ((ak,(am,(aq,()))),((),()))
def zt_m(n:Nat)(a:List (Nat×Nat))(b:List (Nat×Nat)):Option (Bool×Unit):=
  (bif (↑a.length:Int) != (↑b.length:Int)then some (Bool.false,())else (yAC n n (a) (b) ((0:Int))))
def yO1(ak:List (Nat×Nat))(am:List (Nat×Nat))(aq:Int)(v1:Nat×Nat):Option ((Bool×Unit)⊕Unit):=
  ((idx am aq).bind λ v2=>(bif !y9X FloatKind.f32 v1 v2 then (some (Sum.inl ((Bool.false,()))))else (some (Sum.inr ()))))
def yNb(ak:List (Nat×Nat))(am:List (Nat×Nat)):Option (Bool×Unit):=
  (some ((Bool.true,())))
theorem yFh(n:Nat)(hn:big<=n)(ak:List (Nat×Nat))(am:List (Nat×Nat))(hx:List.length (ak) < lenMax):LeF some (yS (λ al aN af=>yO1 ak am al aN) (λ af=>yNb ak am) 0 (ak) ()) (yAC n n ak am 0):=by
  refine yf (f:=some) (W:=λ aH al af=>yAC n aH ak am al) (λ aH al af=>?_) hx () n (by unfold big at hn;unfold lenMax at hx;omega)
  show LeF _ _ (yJ0 n (yAC n aH) ak am al)
  exact y5 (yC λ v1=>(yC λ v2=>(y5 (y8 rfl) (y8 rfl)))) (y16 (y8 rfl))
def zt_M(a:List (Nat×Nat))(b:List (Nat×Nat)):Option (Bool×Unit):=
  (bif (↑a.length:Int) != (↑b.length:Int)then (some ((Bool.false,())))else (bif decide (List.length (a) < lenMax)then yS (λ al aN af=>yO1 (a) (b) al aN) (λ af=>yNb (a) (b)) 0 (a) ()else none))
abbrev zt_e:Entry:={ f:=42,args:=.pair t92 (.pair t92 .unit),rS:=.pair t4 .unit,m:=λ x=>zt_M x.1 x.2.1 }
theorem yQI:FnOK Tryz.prog zt_e:=fB Tryz.f42 (λ n x=>zt_m n x.1 x.2.1) [[0,1,5]] eNil λ n hn x=>(y5 (y8 rfl) (yd λ hx=>by apply yFh n hn;exact hx))
def yMp(n:Nat)(r0:List (List Int)->List (List Int)->Int->Option (Bool×Unit))(ak:List (List Int))(am:List (List Int))(aq:Int):Option (Bool×Unit):=
  (bif decide (aq < (↑ak.length:Int))then ((idx ak aq).bind λ v1=>((idx am aq).bind λ v2=>(bif !eqV (Ty.arr (2:Nat) (Ty.int i64)) v1 v2 then some (Bool.false,())else r0 ak am (i64.wrap (aq+1)))))else some (Bool.true,()))
def yMd(n:Nat)(k:Nat)(ak:List (List Int))(am:List (List Int))(aq:Int):Option (Bool×Unit):=
  iter (λ r y=>yMp n (λ ak am aq=>r ((ak,(am,(aq,()))),((),()))) y.1.1 y.1.2.1 y.1.2.2.1) k ((ak,(am,(aq,()))),((),()))
def zk_m(n:Nat)(a:List (List Int))(b:List (List Int)):Option (Bool×Unit):=
  (bif (↑a.length:Int) != (↑b.length:Int)then some (Bool.false,())else (yMd n n (a) (b) ((0:Int))))
def zk_M(a:List (List Int))(b:List (List Int)):Option (Bool×Unit):=zk_m 1000 a b
abbrev zk_e:Entry:={ f:=39,args:=.pair t84 (.pair t84 .unit),rS:=.pair t4 .unit,m:=λ x=>zk_M x.1 x.2.1 }
theorem yQb:FnOK Tryz.prog zk_e:=fF 1000 Tryz.f39 (λ n x=>zk_m n x.1 x.2.1) [[0,1,5]] eNil
def yMI(n:Nat)(r0:List Int->List Int->Int->Option (Bool×Unit))(ak:List Int)(am:List Int)(aq:Int):Option (Bool×Unit):=
  (bif decide (aq < (↑ak.length:Int))then ((idx ak aq).bind λ v1=>((idx am aq).bind λ v2=>(bif v1 != v2 then some (Bool.false,())else r0 ak am (i64.wrap (aq+1)))))else some (Bool.true,()))
def yMM(n:Nat)(k:Nat)(ak:List Int)(am:List Int)(aq:Int):Option (Bool×Unit):=
  iter (λ r y=>yMI n (λ ak am aq=>r ((ak,(am,(aq,()))),((),()))) y.1.1 y.1.2.1 y.1.2.2.1) k ((ak,(am,(aq,()))),((),()))
def zq_m(n:Nat)(a:List Int)(b:List Int):Option (Bool×Unit):=
  (bif (↑a.length:Int) != (↑b.length:Int)then some (Bool.false,())else (yMM n n (a) (b) ((0:Int))))
def zq_M(a:List Int)(b:List Int):Option (Bool×Unit):=zq_m 1000 a b
abbrev zq_e:Entry:={ f:=41,args:=.pair t88 (.pair t88 .unit),rS:=.pair t4 .unit,m:=λ x=>zq_M x.1 x.2.1 }
theorem yQH:FnOK Tryz.prog zq_e:=fF 1000 Tryz.f41 (λ n x=>zq_m n x.1 x.2.1) [[0,1,5]] eNil
def yN5(n:Nat)(l:List (Q4)):Option (List (Q4)×Unit):=
  (bif decide ((0:Nat)+l.length<=memMax)then some (l,())else none)
def yNJ(l:List (Q4)):Option (List (Q4)×Unit):=yN5 0 l
abbrev z01_e:Entry:={ f:=68,args:=.pair t30 .unit,rS:=.pair t30 .unit,m:=λ x=>yNJ x.1 }
theorem yNj:FnOK Tryz.prog z01_e:=fF (mu:=[3]) 0 Tryz.f68 (λ n x=>yN5 n x.1) [] eNil
def yM0(n:Nat)(gaps:List (Q4)):Option ((Q1)×Unit):=
  some (([(103:UInt8)],(0:Int),[nat_lit 1065353216,nat_lit 0,nat_lit 3212836864,nat_lit 0],gaps,()),())
def z0j(gaps:List (Q4)):((Q1)×Unit):=
  (([(103:UInt8)],(0:Int),[nat_lit 1065353216,nat_lit 0,nat_lit 3212836864,nat_lit 0],gaps,()),())
abbrev yRF (gaps:List (Q4)):Option ((Q1)×Unit):=some (z0j gaps)
abbrev z0j_e:Entry:={ f:=27,args:=.pair t41 .unit,rS:=.pair t43 .unit,m:=λ x=>yRF x.1 }
theorem yNu:FnOK Tryz.prog z0j_e:=fF (mu:=[3,5]) (hm:=by intro x;show some (z0j x.1)=yM0 0 x.1;unfold yM0 z0j;first|rfl|simp only[yr]) 0 Tryz.f27 (λ n x=>yM0 n x.1) [] eNil
def yKy(n:Nat)(r0:List (Q3)->List UInt8->Int->Option (List (Q3)×Unit))(aF:List (Q3))(str1__0:List UInt8)(pos1__0:Int):Option (List (Q3)×Unit):=
  (bif decide (pos1__0 < (↑str1__0.length:Int))then (bif (yV str1__0 pos1__0).1==72 then (bif decide (aF.length+(1:Nat)<=memMax)then r0 (aF++[(y4d (yV str1__0 pos1__0).1,(1:Int),(2:Int),())]) str1__0 (yV str1__0 pos1__0).2 else none)else (bif (yV str1__0 pos1__0).1==81 then (bif decide (aF.length+(1:Nat)<=memMax)then r0 (aF++[(y4d (yV str1__0 pos1__0).1,(1:Int),(1:Int),())]) str1__0 (yV str1__0 pos1__0).2 else none)else (bif (yV str1__0 pos1__0).1==82 then (bif decide (aF.length+(1:Nat)<=memMax)then r0 (aF++[(y4d (yV str1__0 pos1__0).1,(1:Int),(3:Int),())]) str1__0 (yV str1__0 pos1__0).2 else none)else (bif decide (aF.length+(1:Nat)<=memMax)then r0 (aF++[(y4d (yV str1__0 pos1__0).1,(1:Int),(0:Int),())]) str1__0 (yV str1__0 pos1__0).2 else none))))else some (aF,()))
def yKV(n:Nat)(k:Nat)(aF:List (Q3))(str1__0:List UInt8)(pos1__0:Int):Option (List (Q3)×Unit):=
  iter (λ r y=>yKy n (λ aF str1__0 pos1__0=>r ((),((aF,((str1__0,pos1__0),())),()))) y.2.1.1 y.2.1.2.1.1 y.2.1.2.1.2) k ((),((aF,((str1__0,pos1__0),())),()))
def yOF(n:Nat)(names:List UInt8):Option (List (Q3)×Unit):=
  (yKV n n ([]) (names) ((0:Int)))
def y7I(names:List UInt8):Option (List (Q3)×Unit):=yOF 1000 names
abbrev z0P_e:Entry:={ f:=28,args:=.pair t9 .unit,rS:=.pair t28 .unit,m:=λ x=>y7I x.1 }
theorem yOk:FnOK Tryz.prog z0P_e:=fF (mu:=[3]) 1000 Tryz.f28 (λ n x=>yOF n x.1) [[3,8]] eNil
def yF6(n:Nat)(r0:List Int->Int->Int->Option (Int×Unit))(be:List Int)(aA:Int)(au:Int):Option (Int×Unit):=
  (bif decide (au < aA)then ((idx be au).bind λ v1=>(bif v1 != 0 then some (v1,())else r0 be aA (i64.wrap (au+1))))else some ((0:Int),()))
def y7W(n:Nat)(k:Nat)(be:List Int)(aA:Int)(au:Int):Option (Int×Unit):=
  iter (λ r y=>yF6 n (λ be aA au=>r ((be,(aA,(au,()))),((),()))) y.1.1 y.1.2.1 y.1.2.2.1) k ((be,(aA,(au,()))),((),()))
def yQn(n:Nat)(l:List Int):Option (Int×Unit):=
  (y7W n n (l) ((↑l.length:Int)) ((0:Int)))
def yJG(be:List Int)(au:Int)(v1:Int):Option ((Int×Unit)⊕Unit):=
  (bif v1 != 0 then (some (Sum.inl ((v1,()))))else (some (Sum.inr ())))
def yIV(be:List Int):Option (Int×Unit):=
  (some (((0:Int),())))
theorem yE0(n:Nat)(hn:big<=n)(be:List Int)(hx:List.length (be) < lenMax):LeF some (yS (λ al aN af=>yJG be al aN) (λ af=>yIV be) 0 (be) ()) (y7W n n be (List.length (be):Int) 0):=by
  refine yf (f:=some) (W:=λ aH al af=>y7W n aH be (List.length (be):Int) al) (λ aH al af=>?_) hx () n (by unfold big at hn;unfold lenMax at hx;omega)
  show LeF _ _ (yF6 n (y7W n aH) be (List.length (be):Int) al)
  exact y5 (yC λ v1=>(y5 (y8 rfl) (y8 rfl))) (y16 (y8 rfl))
def y3h(l:List Int):Option (Int×Unit):=
  (bif decide (List.length (l) < lenMax)then yS (λ al aN af=>yJG (l) al aN) (λ af=>yIV (l)) 0 (l) ()else none)
abbrev z0t_e:Entry:={ f:=57,args:=.pair t168 .unit,rS:=.pair t38 .unit,m:=λ x=>y3h x.1 }
theorem y5A:FnOK Tryz.prog z0t_e:=fB Tryz.f57 (λ n x=>yQn n x.1) [[5,6,7]] eNil λ n hn x=>(yd λ hx=>by apply yE0 n hn;exact hx)
def yNw(n:Nat)(a:Int)(b:Int):Option (Int×Unit):=
  (bif i64.wrap ((2:Int) * b)==0 then none else (bif i64.wrap ((2:Int) * b)==0 then none else (bif decide ((i64.wrap (i64.wrap ((2:Int) * a)+b)).tmod (i64.wrap ((2:Int) * b)) < 0)then some (i64.wrap (i64.wrap ((i64.wrap (i64.wrap ((2:Int) * a)+b)).tdiv (i64.wrap ((2:Int) * b))) - (1:Int)),())else some (i64.wrap ((i64.wrap (i64.wrap ((2:Int) * a)+b)).tdiv (i64.wrap ((2:Int) * b))),()))))
def yPk(a:Int)(b:Int):Option (Int×Unit):=yNw 0 a b
abbrev z0K_e:Entry:={ f:=46,args:=.pair t3 (.pair t3 .unit),rS:=.pair t3 .unit,m:=λ x=>yPk x.1 x.2.1 }
theorem yOr:FnOK Tryz.prog z0K_e:=fF 0 Tryz.f46 (λ n x=>yNw n x.1 x.2.1) [] eNil
def yNO(n:Nat)(np:Int):Option (Int×Unit):=
  some (if i64.wrap ((0:Int) - np) > np then i64.wrap ((0:Int) - np)else np,())
def z06(np:Int):(Int×Unit):=
  (if i64.wrap ((0:Int) - np) > np then i64.wrap ((0:Int) - np)else np,())
abbrev yRG (np:Int):Option (Int×Unit):=some (z06 np)
abbrev z06_e:Entry:={ f:=47,args:=.pair t3 .unit,rS:=.pair t3 .unit,m:=λ x=>yRG x.1 }
theorem yCy:FnOK Tryz.prog z06_e:=fF (hm:=by intro x;show some (z06 x.1)=yNO 0 x.1;unfold yNO z06;first|rfl|simp only[yr]) 0 Tryz.f47 (λ n x=>yNO n x.1) [] eNil
def yMq(n:Nat)(holds:Bool)(e:Int):Option (Int×Unit):=
  (bif holds then some (e,())else some ((0:Int),()))
def z16(holds:Bool)(e:Int):(Int×Unit):=
  (bif holds then (e,())else ((0:Int),()))
abbrev yRI (holds:Bool) (e:Int):Option (Int×Unit):=some (z16 holds e)
abbrev z16_e:Entry:={ f:=60,args:=.pair t4 (.pair t38 .unit),rS:=.pair t38 .unit,m:=λ x=>yRI x.1 x.2.1 }
theorem y77:FnOK Tryz.prog z16_e:=fF (hm:=by intro x;show some (z16 x.1 x.2.1)=yMq 0 x.1 x.2.1;unfold yMq z16;first|rfl|simp only[yr]) 0 Tryz.f60 (λ n x=>yMq n x.1 x.2.1) [] eNil
def yJ8(n:Nat)(r0:((Q4)×Unit->Option (Int×Unit))->List (Q4)->Int->Int->List Int->Option (List Int×Unit))(a8:(Q4)×Unit->Option (Int×Unit))(a7:List (Q4))(ai:Int)(aa:Int)(ae:List Int):Option (List Int×Unit):=
  (bif decide (aa < ai)then ((idx a7 aa).bind λ v1=>((a8 ((v1.1,v1.2.1,()),())).bind λ v2=>(bif decide (ae.length+(1:Nat)<=memMax)then r0 a8 a7 ai (i64.wrap (aa+1)) (ae++[v2.1])else none)))else some (ae,()))
def yAa(n:Nat)(k:Nat)(a8:(Q4)×Unit->Option (Int×Unit))(a7:List (Q4))(ai:Int)(aa:Int)(ae:List Int):Option (List Int×Unit):=
  iter (λ r y=>yJ8 n (λ a8 a7 ai aa ae=>r ((a8,(a7,(ai,(aa,())))),((ae,()),()))) y.1.1 y.1.2.1 y.1.2.2.1 y.1.2.2.2.1 y.2.1.1) k ((a8,(a7,(ai,(aa,())))),((ae,()),()))
def zF_m(n:Nat)(l:List (Q4))(of:(Q4)×Unit->Option (Int×Unit)):Option (List Int×Unit):=
  (yAa n n (of) (l) ((↑l.length:Int)) ((0:Int)) ([]))
def yMb(a8:(Q4)×Unit->Option (Int×Unit))(a7:List (Q4))(aa:Int)(v1:Q4)(ae:List Int):Option ((List Int×Unit)⊕(List Int)):=
  ((a8 ((v1.1,v1.2.1,()),())).bind λ v2=>(bif decide (ae.length+(1:Nat)<=memMax)then (some (Sum.inr (ae++[v2.1])))else none))
def yNo(a8:(Q4)×Unit->Option (Int×Unit))(a7:List (Q4))(ae:List Int):Option (List Int×Unit):=
  (some ((ae,())))
theorem yFs(n:Nat)(hn:big<=n)(a8:(Q4)×Unit->Option (Int×Unit))(a7:List (Q4))(ae:List Int)(hx:List.length (a7) < lenMax):LeF some (yS (λ al aN af=>yMb a8 a7 al aN af) (λ af=>yNo a8 a7 af) 0 (a7) ae) (yAa n n a8 a7 (List.length (a7):Int) 0 ae):=by
  refine yf (f:=some) (W:=λ aH al af=>yAa n aH a8 a7 (List.length (a7):Int) al af) (λ aH al af=>?_) hx ae n (by unfold big at hn;unfold lenMax at hx;omega)
  show LeF _ _ (yJ8 n (yAa n aH) a8 a7 (List.length (a7):Int) al af)
  exact y5 (yC λ v1=>(yC λ v2=>(y5 (y8 rfl) yK))) (y16 (y8 rfl))
def zF_M(l:List (Q4))(of:(Q4)×Unit->Option (Int×Unit)):Option (List Int×Unit):=
  (bif decide (List.length (l) < lenMax)then yS (λ al aN af=>yMb (of) (l) al aN af) (λ af=>yNo (of) (l) af) 0 (l) ([])else none)
abbrev zF_e:Entry:={ f:=90,args:=.pair t30 (.pair t167 .unit),rS:=.pair t168 .unit,m:=λ x=>zF_M x.1 x.2.1 }
theorem yPs:FnOK Tryz.prog zF_e:=fB (mu:=[5]) Tryz.f90 (λ n x=>zF_m n x.1 x.2.1) [[1,5,8,9,10]] eNil λ n hn x=>(yd λ hx=>by apply yFs n hn;exact hx)
def yNZ(n:Nat)(a:Q4)(b:Q4):Option ((Q4)×Unit):=
  some ((i64.wrap (i64.wrap (a.1 * b.1) - i64.wrap (a.2.1 * b.2.1)),i64.wrap (i64.wrap (a.1 * b.2.1)+i64.wrap (a.2.1 * b.1)),()),())
def z0z(a:Q4)(b:Q4):((Q4)×Unit):=
  ((i64.wrap (i64.wrap (a.1 * b.1) - i64.wrap (a.2.1 * b.2.1)),i64.wrap (i64.wrap (a.1 * b.2.1)+i64.wrap (a.2.1 * b.1)),()),())
abbrev yQU (a:Q4) (b:Q4):Option ((Q4)×Unit):=some (z0z a b)
abbrev z0z_e:Entry:={ f:=54,args:=.pair t36 (.pair t36 .unit),rS:=.pair t36 .unit,m:=λ x=>yQU x.1 x.2.1 }
theorem yEX:FnOK Tryz.prog z0z_e:=fF (hm:=by intro x;show some (z0z x.1 x.2.1)=yNZ 0 x.1 x.2.1;unfold yNZ z0z;first|rfl|simp only[yr]) 0 Tryz.f54 (λ n x=>yNZ n x.1 x.2.1) [] eNil
def zx_m(n:Nat)(a:Q4):Option ((Q4)×Unit):=
  some ((a.1,i64.wrap ((0:Int) - a.2.1),()),())
def zx(a:Q4):((Q4)×Unit):=
  ((a.1,i64.wrap ((0:Int) - a.2.1),()),())
abbrev zx_M (a:Q4):Option ((Q4)×Unit):=some (zx a)
abbrev zx_e:Entry:={ f:=55,args:=.pair t36 .unit,rS:=.pair t36 .unit,m:=λ x=>zx_M x.1 }
theorem yNC:FnOK Tryz.prog zx_e:=fF (hm:=by intro x;show some (zx x.1)=zx_m 0 x.1;unfold zx_m zx;first|rfl|simp only[yr]) 0 Tryz.f55 (λ n x=>zx_m n x.1) [] eNil
def yHQ(n:Nat)(r0:((Q3)×Unit->Option ((Q3)×Unit))->List (Q3)->Int->Int->List (Q3)->Option (List (Q3)×Unit))(a8:(Q3)×Unit->Option ((Q3)×Unit))(a7:List (Q3))(ai:Int)(aa:Int)(ae:List (Q3)):Option (List (Q3)×Unit):=
  (bif decide (aa < ai)then ((idx a7 aa).bind λ v1=>((a8 ((v1.1,v1.2.1,v1.2.2.1,()),())).bind λ v2=>(bif decide (ae.length+(1:Nat)<=memMax)then r0 a8 a7 ai (i64.wrap (aa+1)) (ae++[v2.1])else none)))else some (ae,()))
def yA9(n:Nat)(k:Nat)(a8:(Q3)×Unit->Option ((Q3)×Unit))(a7:List (Q3))(ai:Int)(aa:Int)(ae:List (Q3)):Option (List (Q3)×Unit):=
  iter (λ r y=>yHQ n (λ a8 a7 ai aa ae=>r ((a8,(a7,(ai,(aa,())))),((ae,()),()))) y.1.1 y.1.2.1 y.1.2.2.1 y.1.2.2.2.1 y.2.1.1) k ((a8,(a7,(ai,(aa,())))),((ae,()),()))
def z7_m(n:Nat)(l:List (Q3))(of:(Q3)×Unit->Option ((Q3)×Unit)):Option (List (Q3)×Unit):=
  (yA9 n n (of) (l) ((↑l.length:Int)) ((0:Int)) ([]))
def yOL(a8:(Q3)×Unit->Option ((Q3)×Unit))(a7:List (Q3))(aa:Int)(v1:Q3)(ae:List (Q3)):Option ((List (Q3)×Unit)⊕(List (Q3))):=
  ((a8 ((v1.1,v1.2.1,v1.2.2.1,()),())).bind λ v2=>(bif decide (ae.length+(1:Nat)<=memMax)then (some (Sum.inr (ae++[v2.1])))else none))
def yPZ(a8:(Q3)×Unit->Option ((Q3)×Unit))(a7:List (Q3))(ae:List (Q3)):Option (List (Q3)×Unit):=
  (some ((ae,())))
theorem yGZ(n:Nat)(hn:big<=n)(a8:(Q3)×Unit->Option ((Q3)×Unit))(a7:List (Q3))(ae:List (Q3))(hx:List.length (a7) < lenMax):LeF some (yS (λ al aN af=>yOL a8 a7 al aN af) (λ af=>yPZ a8 a7 af) 0 (a7) ae) (yA9 n n a8 a7 (List.length (a7):Int) 0 ae):=by
  refine yf (f:=some) (W:=λ aH al af=>yA9 n aH a8 a7 (List.length (a7):Int) al af) (λ aH al af=>?_) hx ae n (by unfold big at hn;unfold lenMax at hx;omega)
  show LeF _ _ (yHQ n (yA9 n aH) a8 a7 (List.length (a7):Int) al af)
  exact y5 (yC λ v1=>(yC λ v2=>(y5 (y8 rfl) yK))) (y16 (y8 rfl))
def z7_M(l:List (Q3))(of:(Q3)×Unit->Option ((Q3)×Unit)):Option (List (Q3)×Unit):=
  (bif decide (List.length (l) < lenMax)then yS (λ al aN af=>yOL (of) (l) al aN af) (λ af=>yPZ (of) (l) af) 0 (l) ([])else none)
abbrev z7_e:Entry:={ f:=99,args:=.pair t28 (.pair t175 .unit),rS:=.pair t28 .unit,m:=λ x=>z7_M x.1 x.2.1 }
theorem yQi:FnOK Tryz.prog z7_e:=fB (mu:=[5]) Tryz.f99 (λ n x=>z7_m n x.1 x.2.1) [[1,5,8,9,10]] eNil λ n hn x=>(yd λ hx=>by apply yGZ n hn;exact hx)
def yHJ(n:Nat)(r0:((Q4)×Unit->Option ((Q4)×Unit))->List (Q4)->Int->Int->List (Q4)->Option (List (Q4)×Unit))(a8:(Q4)×Unit->Option ((Q4)×Unit))(a7:List (Q4))(ai:Int)(aa:Int)(ae:List (Q4)):Option (List (Q4)×Unit):=
  (bif decide (aa < ai)then ((idx a7 aa).bind λ v1=>((a8 ((v1.1,v1.2.1,()),())).bind λ v2=>(bif decide (ae.length+(1:Nat)<=memMax)then r0 a8 a7 ai (i64.wrap (aa+1)) (ae++[v2.1])else none)))else some (ae,()))
def yAl(n:Nat)(k:Nat)(a8:(Q4)×Unit->Option ((Q4)×Unit))(a7:List (Q4))(ai:Int)(aa:Int)(ae:List (Q4)):Option (List (Q4)×Unit):=
  iter (λ r y=>yHJ n (λ a8 a7 ai aa ae=>r ((a8,(a7,(ai,(aa,())))),((ae,()),()))) y.1.1 y.1.2.1 y.1.2.2.1 y.1.2.2.2.1 y.2.1.1) k ((a8,(a7,(ai,(aa,())))),((ae,()),()))
def zG_m(n:Nat)(l:List (Q4))(of:(Q4)×Unit->Option ((Q4)×Unit)):Option (List (Q4)×Unit):=
  (yAl n n (of) (l) ((↑l.length:Int)) ((0:Int)) ([]))
def yOq(a8:(Q4)×Unit->Option ((Q4)×Unit))(a7:List (Q4))(aa:Int)(v1:Q4)(ae:List (Q4)):Option ((List (Q4)×Unit)⊕(List (Q4))):=
  ((a8 ((v1.1,v1.2.1,()),())).bind λ v2=>(bif decide (ae.length+(1:Nat)<=memMax)then (some (Sum.inr (ae++[v2.1])))else none))
def yNv(a8:(Q4)×Unit->Option ((Q4)×Unit))(a7:List (Q4))(ae:List (Q4)):Option (List (Q4)×Unit):=
  (some ((ae,())))
theorem yGF(n:Nat)(hn:big<=n)(a8:(Q4)×Unit->Option ((Q4)×Unit))(a7:List (Q4))(ae:List (Q4))(hx:List.length (a7) < lenMax):LeF some (yS (λ al aN af=>yOq a8 a7 al aN af) (λ af=>yNv a8 a7 af) 0 (a7) ae) (yAl n n a8 a7 (List.length (a7):Int) 0 ae):=by
  refine yf (f:=some) (W:=λ aH al af=>yAl n aH a8 a7 (List.length (a7):Int) al af) (λ aH al af=>?_) hx ae n (by unfold big at hn;unfold lenMax at hx;omega)
  show LeF _ _ (yHJ n (yAl n aH) a8 a7 (List.length (a7):Int) al af)
  exact y5 (yC λ v1=>(yC λ v2=>(y5 (y8 rfl) yK))) (y16 (y8 rfl))
def zG_M(l:List (Q4))(of:(Q4)×Unit->Option ((Q4)×Unit)):Option (List (Q4)×Unit):=
  (bif decide (List.length (l) < lenMax)then yS (λ al aN af=>yOq (of) (l) al aN af) (λ af=>yNv (of) (l) af) 0 (l) ([])else none)
abbrev zG_e:Entry:={ f:=101,args:=.pair t30 (.pair t118 .unit),rS:=.pair t30 .unit,m:=λ x=>zG_M x.1 x.2.1 }
theorem yQh:FnOK Tryz.prog zG_e:=fB (mu:=[5]) Tryz.f101 (λ n x=>zG_m n x.1 x.2.1) [[1,5,8,9,10]] eNil λ n hn x=>(yd λ hx=>by apply yGF n hn;exact hx)
def yM6(n:Nat)(a:Q4)(np:Int):Option ((Q4)×Unit):=
  some ((i64.wrap (np * a.1),i64.wrap (np * a.2.1),()),())
def z0c(a:Q4)(np:Int):((Q4)×Unit):=
  ((i64.wrap (np * a.1),i64.wrap (np * a.2.1),()),())
abbrev yQJ (a:Q4) (np:Int):Option ((Q4)×Unit):=some (z0c a np)
abbrev z0c_e:Entry:={ f:=84,args:=.pair t36 (.pair t3 .unit),rS:=.pair t36 .unit,m:=λ x=>yQJ x.1 x.2.1 }
theorem yJD:FnOK Tryz.prog z0c_e:=fF (hm:=by intro x;show some (z0c x.1 x.2.1)=yM6 0 x.1 x.2.1;unfold yM6 z0c;first|rfl|simp only[yr]) 0 Tryz.f84 (λ n x=>yM6 n x.1 x.2.1) [] eNil
def yN3(n:Nat)(a:Q4)(b:Q4):Option ((Q4)×Unit):=
  some ((i64.wrap (a.1+b.1),i64.wrap (a.2.1+b.2.1),()),())
def z15(a:Q4)(b:Q4):((Q4)×Unit):=
  ((i64.wrap (a.1+b.1),i64.wrap (a.2.1+b.2.1),()),())
abbrev yRD (a:Q4) (b:Q4):Option ((Q4)×Unit):=some (z15 a b)
abbrev z15_e:Entry:={ f:=96,args:=.pair t36 (.pair t36 .unit),rS:=.pair t36 .unit,m:=λ x=>yRD x.1 x.2.1 }
theorem yEP:FnOK Tryz.prog z15_e:=fF (hm:=by intro x;show some (z15 x.1 x.2.1)=yN3 0 x.1 x.2.1;unfold yN3 z15;first|rfl|simp only[yr]) 0 Tryz.f96 (λ n x=>yN3 n x.1 x.2.1) [] eNil
def yIT(n:Nat)(r0:((Q4)×Unit->Option ((Nat×Nat)×Unit))->List (Q4)->Int->Int->List (Nat×Nat)->Option (List (Nat×Nat)×Unit))(a8:(Q4)×Unit->Option ((Nat×Nat)×Unit))(a7:List (Q4))(ai:Int)(aa:Int)(ae:List (Nat×Nat)):Option (List (Nat×Nat)×Unit):=
  (bif decide (aa < ai)then ((idx a7 aa).bind λ v1=>((a8 ((v1.1,v1.2.1,()),())).bind λ v2=>(bif decide (ae.length+(1:Nat)<=memMax)then r0 a8 a7 ai (i64.wrap (aa+1)) (ae++[v2.1])else none)))else some (ae,()))
def yAQ(n:Nat)(k:Nat)(a8:(Q4)×Unit->Option ((Nat×Nat)×Unit))(a7:List (Q4))(ai:Int)(aa:Int)(ae:List (Nat×Nat)):Option (List (Nat×Nat)×Unit):=
  iter (λ r y=>yIT n (λ a8 a7 ai aa ae=>r ((a8,(a7,(ai,(aa,())))),((ae,()),()))) y.1.1 y.1.2.1 y.1.2.2.1 y.1.2.2.2.1 y.2.1.1) k ((a8,(a7,(ai,(aa,())))),((ae,()),()))
def zH_m(n:Nat)(l:List (Q4))(of:(Q4)×Unit->Option ((Nat×Nat)×Unit)):Option (List (Nat×Nat)×Unit):=
  (yAQ n n (of) (l) ((↑l.length:Int)) ((0:Int)) ([]))
def yOM(a8:(Q4)×Unit->Option ((Nat×Nat)×Unit))(a7:List (Q4))(aa:Int)(v1:Q4)(ae:List (Nat×Nat)):Option ((List (Nat×Nat)×Unit)⊕(List (Nat×Nat))):=
  ((a8 ((v1.1,v1.2.1,()),())).bind λ v2=>(bif decide (ae.length+(1:Nat)<=memMax)then (some (Sum.inr (ae++[v2.1])))else none))
def yPm(a8:(Q4)×Unit->Option ((Nat×Nat)×Unit))(a7:List (Q4))(ae:List (Nat×Nat)):Option (List (Nat×Nat)×Unit):=
  (some ((ae,())))
theorem yGb(n:Nat)(hn:big<=n)(a8:(Q4)×Unit->Option ((Nat×Nat)×Unit))(a7:List (Q4))(ae:List (Nat×Nat))(hx:List.length (a7) < lenMax):LeF some (yS (λ al aN af=>yOM a8 a7 al aN af) (λ af=>yPm a8 a7 af) 0 (a7) ae) (yAQ n n a8 a7 (List.length (a7):Int) 0 ae):=by
  refine yf (f:=some) (W:=λ aH al af=>yAQ n aH a8 a7 (List.length (a7):Int) al af) (λ aH al af=>?_) hx ae n (by unfold big at hn;unfold lenMax at hx;omega)
  show LeF _ _ (yIT n (yAQ n aH) a8 a7 (List.length (a7):Int) al af)
  exact y5 (yC λ v1=>(yC λ v2=>(y5 (y8 rfl) yK))) (y16 (y8 rfl))
def zH_M(l:List (Q4))(of:(Q4)×Unit->Option ((Nat×Nat)×Unit)):Option (List (Nat×Nat)×Unit):=
  (bif decide (List.length (l) < lenMax)then yS (λ al aN af=>yOM (of) (l) al aN af) (λ af=>yPm (of) (l) af) 0 (l) ([])else none)
abbrev zH_e:Entry:={ f:=91,args:=.pair t30 (.pair t171 .unit),rS:=.pair t92 .unit,m:=λ x=>zH_M x.1 x.2.1 }
theorem yQG:FnOK Tryz.prog zH_e:=fB (mu:=[5]) Tryz.f91 (λ n x=>zH_m n x.1 x.2.1) [[1,5,8,9,10]] eNil λ n hn x=>(yd λ hx=>by apply yGb n hn;exact hx)
def yMD(n:Nat)(z:Q4)(p1:Nat×Nat):Option ((Nat×Nat)×Unit):=
  some ((y2C BinOp.quo FloatKind.f32 (y1g FloatKind.f32 z.1) p1.1,y2C BinOp.quo FloatKind.f32 (y1g FloatKind.f32 z.2.1) p1.1),())
def z0Z(z:Q4)(p1:Nat×Nat):((Nat×Nat)×Unit):=
  ((y2C BinOp.quo FloatKind.f32 (y1g FloatKind.f32 z.1) p1.1,y2C BinOp.quo FloatKind.f32 (y1g FloatKind.f32 z.2.1) p1.1),())
abbrev yPO (z:Q4) (p1:Nat×Nat):Option ((Nat×Nat)×Unit):=some (z0Z z p1)
abbrev z0Z_e:Entry:={ f:=92,args:=.pair t36 (.pair (.ref t100) .unit),rS:=.pair t100 .unit,m:=λ x=>yPO x.1 x.2.1 }
theorem yPX:FnOK Tryz.prog z0Z_e:=fF (hm:=by intro x;show some (z0Z x.1 x.2.1)=yMD 0 x.1 x.2.1;unfold yMD z0Z;first|rfl|simp only[yr]) 0 Tryz.f92 (λ n x=>yMD n x.1 x.2.1) [] eNil
def il53:Inl:={ f:=53,fn:=Tryz.f53,keep:=[],mU:=[],fz:=[] }
theorem y8D:y33 Tryz.prog il53:=⟨by kernel_rfl,by kernel_rfl,λ e0 h=>by cases (show (none:Option LibK)=some e0 from h)⟩
def il107:Inl:={ f:=107,fn:=Tryz.f107,keep:=[[0,1,3,9,10,11],[0,1,3,4,5,9,10,11]],mU:=[],fz:=[] }
theorem y6B:y33 Tryz.prog il107:=⟨by kernel_rfl,by kernel_rfl,λ e0 h=>by cases (show (none:Option LibK)=some e0 from h)⟩
def yC0(n:Nat)(r0:Q1->List (Q4)->List Nat->Int->Int->Q1->Q1->Q1->Q1->List Int->Q1->Q1->Q1->Q1->Option (List Int×Unit))(j8:Q1)(j9:List (Q4))(j10:Int)(j11:Nat)(j12:List Nat)(j13:Int)(j14:Int)(j15:Q1)(j16:Q1)(j17:Q1)(j18:Q1)(j19:List Int)(j20:Q1)(j21:Q1)(j22:Q1)(j23:Q1):Option (List Int×Unit):=
  (bif decide ((↑j9.length:Int) > 0)then ((idx j9 (0:Int)).bind λ v24=>(bif decide (v24.1<=j10)then r0 j8 j9 j12 j13 (i64.wrap (j14+1)) j15 j16 j17 j18 j19 j20 j21 j22 j23 else ((y0e FloatKind.f32 (y2C BinOp.mul FloatKind.f32 j11 (nat_lit 1098907648)) i64).bind λ v29=>(bif decide (j19.length+(1:Nat)<=memMax)then r0 j8 j9 j12 j13 (i64.wrap (j14+1)) j15 j16 j17 j18 (j19++[i64.wrap (j8.2.1+j10)]) j20 j21 j22 j23 else none))))else ((y0e FloatKind.f32 (y2C BinOp.mul FloatKind.f32 j11 (nat_lit 1098907648)) i64).bind λ v30=>(bif decide (j19.length+(1:Nat)<=memMax)then r0 j8 j9 j12 j13 (i64.wrap (j14+1)) j15 j16 j17 j18 (j19++[i64.wrap (j8.2.1+j10)]) j20 j21 j22 j23 else none)))
def yJy(n:Nat)(r0:Q1->List (Q4)->List Nat->Int->Int->Q1->Q1->Q1->Q1->List Int->Q1->Q1->Q1->Q1->Option (List Int×Unit))(r2:Q1->List (Q4)->Int->Nat->List Nat->Int->Int->Q1->Q1->Q1->Q1->List Int->Q1->Q1->Q1->Q1->Option (List Int×Unit))(bl:Q1)(aj:List (Q4))(bf:Int)(bm:Nat)(aJ:List Nat)(aO:Int)(aP:Int)(aB:Q1)(aC:Q1)(aV:Q1)(bn:Q1)(co:List Int)(bp:Q1)(bq:Q1)(bI:Q1)(bJ:Q1):Option (List Int×Unit):=
  (bif decide ((↑aj.length:Int) > 0)then ((idx aj (0:Int)).bind λ v3=>(bif decide (v3.2.1<=bf)then (bif decide ((0:Int)<=1) && decide ((1:Int)<=(↑aj.length:Int))then r2 bl (List.drop (Int.toNat (1:Int)) aj) bf bm aJ aO aP aB aC aV bn co bp bq bI bJ else none)else (yC0 n r0 (bl) (aj) (bf) (bm) (aJ) (aO) (aP) (aB) (aC) (aV) (bn) (co) (bp) (bq) (bI) (bJ))))else (yC0 n r0 (bl) (aj) (bf) (bm) (aJ) (aO) (aP) (aB) (aC) (aV) (bn) (co) (bp) (bq) (bI) (bJ)))
def yJi(n:Nat)(r0:Q1->List (Q4)->List Nat->Int->Int->Q1->Q1->Q1->Q1->List Int->Q1->Q1->Q1->Q1->Option (List Int×Unit))(k:Nat)(bl:Q1)(aj:List (Q4))(bf:Int)(bm:Nat)(aJ:List Nat)(aO:Int)(aP:Int)(aB:Q1)(aC:Q1)(aV:Q1)(bn:Q1)(co:List Int)(bp:Q1)(bq:Q1)(bI:Q1)(bJ:Q1):Option (List Int×Unit):=
  iter (λ r y=>yJy n r0 (λ bl aj bf bm aJ aO aP aB aC aV bn co bp bq bI bJ=>r ((bl,(aj,(bf,(bm,(aJ,(aO,(aP,()))))))),(((aB,(aC,(aV,((bn,()),())))),((),(co,()))),(bp,(bq,(bI,((bJ,()),()))))))) y.1.1 y.1.2.1 y.1.2.2.1 y.1.2.2.2.1 y.1.2.2.2.2.1 y.1.2.2.2.2.2.1 y.1.2.2.2.2.2.2.1 y.2.1.1.1 y.2.1.1.2.1 y.2.1.1.2.2.1 y.2.1.1.2.2.2.1.1 y.2.1.2.2.1 y.2.2.1 y.2.2.2.1 y.2.2.2.2.1 y.2.2.2.2.2.1.1) k ((bl,(aj,(bf,(bm,(aJ,(aO,(aP,()))))))),(((aB,(aC,(aV,((bn,()),())))),((),(co,()))),(bp,(bq,(bI,((bJ,()),()))))))
def yKm(n:Nat)(r0:Q1->List (Q4)->List Nat->Int->Int->Q1->Q1->Q1->Q1->List Int->Q1->Q1->Q1->Q1->Option (List Int×Unit))(aT:Q1)(aG:List (Q4))(ai:List Nat)(aa:Int)(ar:Int)(aQ:Q1)(aR:Q1)(br:Q1)(bB:Q1)(cy:List Int)(bC:Q1)(bD:Q1)(cb:Q1)(cc:Q1):Option (List Int×Unit):=
  (bif decide (ar < aa)then ((idx ai ar).bind λ v1=>(yJi n r0 n (aT) (aG) (ar) (v1) (ai) (aa) (ar) (aQ) (aR) (br) (bB) (cy) (bC) (bD) (cb) (cc)))else some (cy,()))
def yJZ(n:Nat)(k:Nat)(aT:Q1)(aG:List (Q4))(ai:List Nat)(aa:Int)(ar:Int)(aQ:Q1)(aR:Q1)(br:Q1)(bB:Q1)(cy:List Int)(bC:Q1)(bD:Q1)(cb:Q1)(cc:Q1):Option (List Int×Unit):=
  iter (λ r y=>yKm n (λ aT aG ai aa ar aQ aR br bB cy bC bD cb cc=>r ((aT,(aG,(ai,(aa,(ar,()))))),(((aQ,(aR,(br,((bB,()),())))),((),(cy,()))),(bC,(bD,(cb,((cc,()),()))))))) y.1.1 y.1.2.1 y.1.2.2.1 y.1.2.2.2.1 y.1.2.2.2.2.1 y.2.1.1.1 y.2.1.1.2.1 y.2.1.1.2.2.1 y.2.1.1.2.2.2.1.1 y.2.1.2.2.1 y.2.2.1 y.2.2.2.1 y.2.2.2.2.1 y.2.2.2.2.2.1.1) k ((aT,(aG,(ai,(aa,(ar,()))))),(((aQ,(aR,(br,((bB,()),())))),((),(cy,()))),(bC,(bD,(cb,((cc,()),()))))))
def yPE(n:Nat)(rp:Q1):Option (List Int×Unit):=
  (yJZ n n (rp) (rp.2.2.2.1) (rp.2.2.1) ((↑rp.2.2.1.length:Int)) ((0:Int)) (rp) (rp) (rp) (rp) ([]) (rp) (rp) (rp) (rp))
def yMN(rp:Q1):Option (List Int×Unit):=yPE 1000 rp
abbrev z0y_e:Entry:={ f:=78,args:=.pair t43 .unit,rS:=.pair t88 .unit,m:=λ x=>yMN x.1 }
theorem yLr:FnOK Tryz.prog z0y_e:=fFI (mu:=[3]) 1000 Tryz.f78 (λ n x=>yPE n x.1) [] [il53,il107] 3 eNil (y3p y8D (y3p y6B iNil))
def zR_m(n:Nat)(c:Q3)(tick:Int):Option ((Q4)×Unit):=
  (bif c.2.1==0 then none else ((idx [((1:Int),(0:Int),()),((0:Int),(1:Int),()),((-1:Int),(0:Int),()),((0:Int),(-1:Int),())] ((i64.wrap (c.2.2.1 * i64.wrap (tick.tdiv c.2.1))).tmod (4:Int))).bind λ v0=>some ((v0.1,v0.2.1,()),())))
def zR_M(c:Q3)(tick:Int):Option ((Q4)×Unit):=zR_m 0 c tick
abbrev zR_e:Entry:={ f:=97,args:=.pair t34 (.pair t3 .unit),rS:=.pair t36 .unit,m:=λ x=>zR_M x.1 x.2.1 }
theorem yMW:FnOK Tryz.prog zR_e:=fF 0 Tryz.f97 (λ n x=>zR_m n x.1 x.2.1) [] eNil
def yNH(n:Nat)(r0:((Q3)×Unit->Option ((Q4)×Unit))->List (Q3)->Int->Int->List (Q4)->Option (List (Q4)×Unit))(a8:(Q3)×Unit->Option ((Q4)×Unit))(a7:List (Q3))(ai:Int)(aa:Int)(ae:List (Q4)):Option (List (Q4)×Unit):=
  (bif decide (aa < ai)then ((idx a7 aa).bind λ v1=>((a8 ((v1.1,v1.2.1,v1.2.2.1,()),())).bind λ v2=>(bif decide (ae.length+(1:Nat)<=memMax)then r0 a8 a7 ai (i64.wrap (aa+1)) (ae++[v2.1])else none)))else some (ae,()))
def yNE(n:Nat)(k:Nat)(a8:(Q3)×Unit->Option ((Q4)×Unit))(a7:List (Q3))(ai:Int)(aa:Int)(ae:List (Q4)):Option (List (Q4)×Unit):=
  iter (λ r y=>yNH n (λ a8 a7 ai aa ae=>r ((a8,(a7,(ai,(aa,())))),((ae,()),()))) y.1.1 y.1.2.1 y.1.2.2.1 y.1.2.2.2.1 y.2.1.1) k ((a8,(a7,(ai,(aa,())))),((ae,()),()))
def zA_m(n:Nat)(l:List (Q3))(of:(Q3)×Unit->Option ((Q4)×Unit)):Option (List (Q4)×Unit):=
  (yNE n n (of) (l) ((↑l.length:Int)) ((0:Int)) ([]))
def zA_M(l:List (Q3))(of:(Q3)×Unit->Option ((Q4)×Unit)):Option (List (Q4)×Unit):=zA_m 1000 l of
abbrev zA_e:Entry:={ f:=81,args:=.pair t28 (.pair t160 .unit),rS:=.pair t30 .unit,m:=λ x=>zA_M x.1 x.2.1 }
theorem yMz:FnOK Tryz.prog zA_e:=fF (mu:=[5]) 1000 Tryz.f81 (λ n x=>zA_m n x.1 x.2.1) [[1,5,8,9,10]] eNil
def yMw(n:Nat)(r0:List (List (Q4))->Int->List (Q4)->Int->Int->List (List (Q4))->Option (List (List (Q4))×Unit))(bg:List (List (Q4)))(b5:Int)(bj:List (Q4))(aM:Int)(aw:Int)(ae:List (List (Q4))):Option (List (List (Q4))×Unit):=
  (bif decide (aw < aM)then ((idx bg aw).bind λ v1=>(bif Bool.true && decide ((0:Int)<=(↑v1.length:Int)) && decide ((↑v1.length:Int)<=(↑memMax:Int)) && (↑v1.length:Int)==(↑v1.length:Int)then ((idx ae aw).bind λ v2=>((ae[aw.toNat]?).bind λ v3=>((idx (ae.set aw.toNat (List.replicate ((↑v1.length:Int).toNat) (((0:Int),(0:Int),())):List (Q4))) aw).bind λ v4=>(((ae.set aw.toNat (List.replicate ((↑v1.length:Int).toNat) (((0:Int),(0:Int),())):List (Q4)))[aw.toNat]?).bind λ v5=>((idx bg aw).bind λ v6=>(((ae.set aw.toNat (List.replicate ((↑v1.length:Int).toNat) (((0:Int),(0:Int),())):List (Q4)))[aw.toNat]?).bind λ v7=>(bif decide (v6.length=v7.length)then ((idx ((ae.set aw.toNat (List.replicate ((↑v1.length:Int).toNat) (((0:Int),(0:Int),())):List (Q4))).set aw.toNat v6) aw).bind λ v8=>((((ae.set aw.toNat (List.replicate ((↑v1.length:Int).toNat) (((0:Int),(0:Int),())):List (Q4))).set aw.toNat v6)[aw.toNat]?).bind λ v9=>((idx bj aw).bind λ v10=>((((ae.set aw.toNat (List.replicate ((↑v1.length:Int).toNat) (((0:Int),(0:Int),())):List (Q4))).set aw.toNat v6)[aw.toNat]?).bind λ v11=>((idx v11 b5).bind λ v12=>((((ae.set aw.toNat (List.replicate ((↑v1.length:Int).toNat) (((0:Int),(0:Int),())):List (Q4))).set aw.toNat v6)[aw.toNat]?).bind λ v13=>((v13[b5.toNat]?).bind λ v14=>r0 bg b5 bj aM (i64.wrap (aw+1)) (((ae.set aw.toNat (List.replicate ((↑v1.length:Int).toNat) (((0:Int),(0:Int),())):List (Q4))).set aw.toNat v6).set aw.toNat (v13.set b5.toNat v10)))))))))else none)))))))else none))else some (ae,()))
def yNT(n:Nat)(k:Nat)(bg:List (List (Q4)))(b5:Int)(bj:List (Q4))(aM:Int)(aw:Int)(ae:List (List (Q4))):Option (List (List (Q4))×Unit):=
  iter (λ r y=>yMw n (λ bg b5 bj aM aw ae=>r ((bg,(b5,(bj,(aM,(aw,()))))),((ae,()),()))) y.1.1 y.1.2.1 y.1.2.2.1 y.1.2.2.2.1 y.1.2.2.2.2.1 y.2.1.1) k ((bg,(b5,(bj,(aM,(aw,()))))),((ae,()),()))
def ze_m(n:Nat)(m:List (List (Q4)))(column:Int)(values:List (Q4)):Option (List (List (Q4))×Unit):=
  (bif Bool.true && decide ((0:Int)<=(↑m.length:Int)) && decide ((↑m.length:Int)<=(↑memMax:Int)) && (↑m.length:Int)==(↑m.length:Int)then (yNT n n (m) (column) (values) ((↑m.length:Int)) ((0:Int)) ((List.replicate ((↑m.length:Int).toNat) ([]):List (List (Q4)))))else none)
def ze_M(m:List (List (Q4)))(column:Int)(values:List (Q4)):Option (List (List (Q4))×Unit):=ze_m 1000 m column values
abbrev ze_e:Entry:={ f:=83,args:=.pair t111 (.pair t3 (.pair t30 .unit)),rS:=.pair t111 .unit,m:=λ x=>ze_M x.1 x.2.1 x.2.2.1 }
theorem yOn:FnOK Tryz.prog ze_e:=fF (fz:=[11]) 1000 Tryz.f83 (λ n x=>ze_m n x.1 x.2.1 x.2.2.1) [[0,1,2,7,13,14]] eNil
def yJ9(n:Nat)(r0:(Int×Unit->Option (List UInt8×Unit))->List Int->Int->Int->List (List UInt8)->Option (List (List UInt8)×Unit))(a8:Int×Unit->Option (List UInt8×Unit))(a7:List Int)(ai:Int)(aa:Int)(ae:List (List UInt8)):Option (List (List UInt8)×Unit):=
  (bif decide (aa < ai)then ((idx a7 aa).bind λ v1=>((a8 (v1,())).bind λ v2=>(bif decide (ae.length+(1:Nat)<=memMax)then r0 a8 a7 ai (i64.wrap (aa+1)) (ae++[v2.1])else none)))else some (ae,()))
def yAg(n:Nat)(k:Nat)(a8:Int×Unit->Option (List UInt8×Unit))(a7:List Int)(ai:Int)(aa:Int)(ae:List (List UInt8)):Option (List (List UInt8)×Unit):=
  iter (λ r y=>yJ9 n (λ a8 a7 ai aa ae=>r ((a8,(a7,(ai,(aa,())))),((ae,()),()))) y.1.1 y.1.2.1 y.1.2.2.1 y.1.2.2.2.1 y.2.1.1) k ((a8,(a7,(ai,(aa,())))),((ae,()),()))
def zN_m(n:Nat)(l:List Int)(of:Int×Unit->Option (List UInt8×Unit)):Option (List (List UInt8)×Unit):=
  (yAg n n (of) (l) ((↑l.length:Int)) ((0:Int)) ([]))
def yIN(a8:Int×Unit->Option (List UInt8×Unit))(a7:List Int)(aa:Int)(v1:Int)(ae:List (List UInt8)):Option ((List (List UInt8)×Unit)⊕(List (List UInt8))):=
  ((a8 (v1,())).bind λ v2=>(bif decide (ae.length+(1:Nat)<=memMax)then (some (Sum.inr (ae++[v2.1])))else none))
def yKR(a8:Int×Unit->Option (List UInt8×Unit))(a7:List Int)(ae:List (List UInt8)):Option (List (List UInt8)×Unit):=
  (some ((ae,())))
theorem yFu(n:Nat)(hn:big<=n)(a8:Int×Unit->Option (List UInt8×Unit))(a7:List Int)(ae:List (List UInt8))(hx:List.length (a7) < lenMax):LeF some (yS (λ al aN af=>yIN a8 a7 al aN af) (λ af=>yKR a8 a7 af) 0 (a7) ae) (yAg n n a8 a7 (List.length (a7):Int) 0 ae):=by
  refine yf (f:=some) (W:=λ aH al af=>yAg n aH a8 a7 (List.length (a7):Int) al af) (λ aH al af=>?_) hx ae n (by unfold big at hn;unfold lenMax at hx;omega)
  show LeF _ _ (yJ9 n (yAg n aH) a8 a7 (List.length (a7):Int) al af)
  exact y5 (yC λ v1=>(yC λ v2=>(y5 (y8 rfl) yK))) (y16 (y8 rfl))
def zN_M(l:List Int)(of:Int×Unit->Option (List UInt8×Unit)):Option (List (List UInt8)×Unit):=
  (bif decide (List.length (l) < lenMax)then yS (λ al aN af=>yIN (of) (l) al aN af) (λ af=>yKR (of) (l) af) 0 (l) ([])else none)
abbrev zN_e:Entry:={ f:=65,args:=.pair t88 (.pair t133 .unit),rS:=.pair t73 .unit,m:=λ x=>zN_M x.1 x.2.1 }
theorem yQV:FnOK Tryz.prog zN_e:=fB (mu:=[5]) Tryz.f65 (λ n x=>zN_m n x.1 x.2.1) [[1,5,8,9,10]] eNil λ n hn x=>(yd λ hx=>by apply yFu n hn;exact hx)
def yEN(n:Nat)(r0:Int->Int->Option (Int×Unit))(ak:Int)(am:Int):Option (Int×Unit):=
  (bif am != 0 then (bif am==0 then none else r0 am (ak.tmod am))else some (ak,()))
def y7a(n:Nat)(k:Nat)(ak:Int)(am:Int):Option (Int×Unit):=
  iter (λ r y=>yEN n (λ ak am=>r ((ak,(am,())),((),()))) y.1.1 y.1.2.1) k ((ak,(am,())),((),()))
def yQp(n:Nat)(a:Int)(b:Int):Option (Int×Unit):=
  (y7a n n (a) (b))
def yEc(ak:Int)(am:Int):Option ((Int×Unit)⊕(Int×Int)):=
  (bif am != 0 then (bif am==0 then none else (some (Sum.inr ((am),(ak.tmod am)))))else (some (Sum.inl ((ak,())))))
theorem yDk(n:Nat)(hn:big<=n)(ak:Int)(am:Int):LeF some (y5d (λ af=>yEc af.1 af.2) wMax (ak,am)) (y7a n n ak am):=by
  refine yAD (f:=some) (W:=λ aH af=>y7a n aH af.1 af.2) (λ aH af=>?_) wMax n (ak,am) (by unfold big at hn;unfold wMax;omega)
  show LeF _ _ (yEN n (y7a n aH) af.1 af.2)
  exact (y5 (y5 yK (y8 rfl)) (y8 rfl))
def yCz(a:Int)(b:Int):Option (Int×Unit):=
  (y5d (λ af=>yEc af.1 af.2) wMax ((a),(b)))
abbrev z02_e:Entry:={ f:=120,args:=.pair t3 (.pair t3 .unit),rS:=.pair t3 .unit,m:=λ x=>yCz x.1 x.2.1 }
theorem yNa:FnOK Tryz.prog z02_e:=fB Tryz.f120 (λ n x=>yQp n x.1 x.2.1) [[0,1]] eNil λ n hn x=>(by apply yDk n hn)
def y47(n:Nat)(r2:List UInt8->Int->Option (Bool×Unit))(aS:List UInt8)(b7:Int)(v3:UInt8):Option (Bool×Unit):=
  (bif b7==0 then some (Bool.false,())else (bif (↑v3.toNat:Int) != 95 then (bif decide ((↑v3.toNat:Int) < 48)then some (Bool.false,())else (bif decide ((↑v3.toNat:Int) > 57)then some (Bool.false,())else r2 aS (i64.wrap (b7+1))))else r2 aS (i64.wrap (b7+1))))
def yE9(n:Nat)(r2:List UInt8->Int->Option (Bool×Unit))(aS:List UInt8)(b7:Int):Option (Bool×Unit):=
  (bif decide (b7 < (↑aS.length:Int))then ((idx aS b7).bind λ v3=>(bif decide ((↑v3.toNat:Int) >= 97)then (bif decide ((↑v3.toNat:Int)<=122)then r2 aS (i64.wrap (b7+1))else (bif decide ((↑v3.toNat:Int) >= 65)then (bif decide ((↑v3.toNat:Int)<=90)then r2 aS (i64.wrap (b7+1))else (y47 n r2 aS b7 v3))else (y47 n r2 aS b7 v3)))else (bif decide ((↑v3.toNat:Int) >= 65)then (bif decide ((↑v3.toNat:Int)<=90)then r2 aS (i64.wrap (b7+1))else (y47 n r2 aS b7 v3))else (y47 n r2 aS b7 v3))))else some (Bool.true,()))
def y7l(n:Nat)(k:Nat)(aS:List UInt8)(b7:Int):Option (Bool×Unit):=
  iter (λ r y=>yE9 n (λ aS b7=>r ((aS,(b7,())),((),()))) y.1.1 y.1.2.1) k ((aS,(b7,())),((),()))
def yRM(n:Nat)(s:List UInt8):Option (Bool×Unit):=
  (bif (↑s.length:Int)==0 then some (Bool.false,())else (bif decide ((↑s.length:Int) > 24)then some (Bool.false,())else (y7l n n (s) ((0:Int)))))
def y6Q(aS:List UInt8)(b7:Int)(v3:UInt8):Option ((Bool×Unit)⊕Unit):=
  (bif b7==0 then (some (Sum.inl ((Bool.false,()))))else (bif (↑v3.toNat:Int) != 95 then (bif decide ((↑v3.toNat:Int) < 48)then (some (Sum.inl ((Bool.false,()))))else (bif decide ((↑v3.toNat:Int) > 57)then (some (Sum.inl ((Bool.false,()))))else (some (Sum.inr ()))))else (some (Sum.inr ()))))
theorem y0S(n:Nat)(hn:big<=n)(r2:List UInt8->Int->Option (Bool×Unit))(aS:List UInt8)(b7:Int)(v3:UInt8):LeF (elim some λ (af:Unit)=>r2 aS (i64.wrap (b7+1))) (y6Q aS b7 v3) (y47 n r2 aS b7 v3):=
  (y5 (y8 rfl) (y5 (y5 (y8 rfl) (y5 (y8 rfl) (y8 rfl))) (y8 rfl)))
def yCZ(aS:List UInt8)(b7:Int)(v3:UInt8):Option ((Bool×Unit)⊕Unit):=
  (bif decide ((↑v3.toNat:Int) >= 97)then (bif decide ((↑v3.toNat:Int)<=122)then (some (Sum.inr ()))else (bif decide ((↑v3.toNat:Int) >= 65)then (bif decide ((↑v3.toNat:Int)<=90)then (some (Sum.inr ()))else (y6Q aS b7 v3))else (y6Q aS b7 v3)))else (bif decide ((↑v3.toNat:Int) >= 65)then (bif decide ((↑v3.toNat:Int)<=90)then (some (Sum.inr ()))else (y6Q aS b7 v3))else (y6Q aS b7 v3)))
def yIh(aS:List UInt8):Option (Bool×Unit):=
  (some ((Bool.true,())))
theorem yD7(n:Nat)(hn:big<=n)(aS:List UInt8)(hx:List.length (aS) < lenMax):LeF some (yS (λ al aN af=>yCZ aS al aN) (λ af=>yIh aS) 0 (aS) ()) (y7l n n aS 0):=by
  refine yf (f:=some) (W:=λ aH al af=>y7l n aH aS al) (λ aH al af=>?_) hx () n (by unfold big at hn;unfold lenMax at hx;omega)
  show LeF _ _ (yE9 n (y7l n aH) aS al)
  exact y5 (yC λ v3=>(y5 (y5 (y8 rfl) (y5 (y5 (y8 rfl) (by apply y0S n hn)) (by apply y0S n hn))) (y5 (y5 (y8 rfl) (by apply y0S n hn)) (by apply y0S n hn)))) (y16 (y8 rfl))
def yL6(s:List UInt8):Option (Bool×Unit):=
  (bif (↑s.length:Int)==0 then (some ((Bool.false,())))else (bif decide ((↑s.length:Int) > 24)then (some ((Bool.false,())))else (bif decide (List.length (s) < lenMax)then yS (λ al aN af=>yCZ (s) al aN) (λ af=>yIh (s)) 0 (s) ()else none)))
abbrev z0A_e:Entry:={ f:=93,args:=.pair t9 .unit,rS:=.pair t4 .unit,m:=λ x=>yL6 x.1 }
theorem yOC:FnOK Tryz.prog z0A_e:=fB Tryz.f93 (λ n x=>yRM n x.1) [[0,3]] eNil λ n hn x=>(y5 (y8 rfl) (y5 (y8 rfl) (yd λ hx=>by apply yD7 n hn;exact hx)))
def zz_m(n:Nat)(c:Q3):Option ((Q3)×Unit):=
  some ((c.1,c.2.1,c.2.2.1,()),())
def zz(c:Q3):((Q3)×Unit):=
  ((c.1,c.2.1,c.2.2.1,()),())
abbrev zz_M (c:Q3):Option ((Q3)×Unit):=some (zz c)
abbrev zz_e:Entry:={ f:=100,args:=.pair t34 .unit,rS:=.pair t34 .unit,m:=λ x=>zz_M x.1 }
theorem yR9:FnOK Tryz.prog zz_e:=fF (hm:=by intro x;show some (zz x.1)=zz_m 0 x.1;unfold zz_m zz;first|rfl|simp only[yr]) 0 Tryz.f100 (λ n x=>zz_m n x.1) [] eNil
def yPN(n:Nat)(z:Q4)(p1:Int):Option ((Q4)×Unit):=
  (bif p1==0 then none else (bif p1==0 then none else some ((i64.wrap (z.1.tdiv p1),i64.wrap (z.2.1.tdiv p1),()),())))
def yPA(z:Q4)(p1:Int):Option ((Q4)×Unit):=yPN 0 z p1
abbrev z00_e:Entry:={ f:=102,args:=.pair t36 (.pair (.ref t3) .unit),rS:=.pair t36 .unit,m:=λ x=>yPA x.1 x.2.1 }
theorem yOl:FnOK Tryz.prog z00_e:=fF 0 Tryz.f102 (λ n x=>yPN n x.1 x.2.1) [] eNil
def yMO(n:Nat)(r0:((Q3)×Unit->Option (List (Q4)×Unit))->List (Q3)->Int->Int->List (List (Q4))->Option (List (List (Q4))×Unit))(a8:(Q3)×Unit->Option (List (Q4)×Unit))(a7:List (Q3))(ai:Int)(aa:Int)(ae:List (List (Q4))):Option (List (List (Q4))×Unit):=
  (bif decide (aa < ai)then ((idx a7 aa).bind λ v1=>((a8 ((v1.1,v1.2.1,v1.2.2.1,()),())).bind λ v2=>(bif decide (ae.length+(1:Nat)<=memMax)then r0 a8 a7 ai (i64.wrap (aa+1)) (ae++[v2.1])else none)))else some (ae,()))
def yMi(n:Nat)(k:Nat)(a8:(Q3)×Unit->Option (List (Q4)×Unit))(a7:List (Q3))(ai:Int)(aa:Int)(ae:List (List (Q4))):Option (List (List (Q4))×Unit):=
  iter (λ r y=>yMO n (λ a8 a7 ai aa ae=>r ((a8,(a7,(ai,(aa,())))),((ae,()),()))) y.1.1 y.1.2.1 y.1.2.2.1 y.1.2.2.2.1 y.2.1.1) k ((a8,(a7,(ai,(aa,())))),((ae,()),()))
def z8_m(n:Nat)(l:List (Q3))(of:(Q3)×Unit->Option (List (Q4)×Unit)):Option (List (List (Q4))×Unit):=
  (yMi n n (of) (l) ((↑l.length:Int)) ((0:Int)) ([]))
def z8_M(l:List (Q3))(of:(Q3)×Unit->Option (List (Q4)×Unit)):Option (List (List (Q4))×Unit):=z8_m 1000 l of
abbrev z8_e:Entry:={ f:=103,args:=.pair t28 (.pair t178 .unit),rS:=.pair t75 .unit,m:=λ x=>z8_M x.1 x.2.1 }
theorem yRK:FnOK Tryz.prog z8_e:=fF (mu:=[5]) 1000 Tryz.f103 (λ n x=>z8_m n x.1 x.2.1) [[1,5,8,9,10]] eNil
def yMH(n:Nat)(r0:(Nat×Unit->Option (Int×Unit))->List Nat->Int->Int->List Int->Option (List Int×Unit))(a8:Nat×Unit->Option (Int×Unit))(a7:List Nat)(ai:Int)(aa:Int)(ae:List Int):Option (List Int×Unit):=
  (bif decide (aa < ai)then ((idx a7 aa).bind λ v1=>((a8 (v1,())).bind λ v2=>(bif decide (ae.length+(1:Nat)<=memMax)then r0 a8 a7 ai (i64.wrap (aa+1)) (ae++[v2.1])else none)))else some (ae,()))
def yMn(n:Nat)(k:Nat)(a8:Nat×Unit->Option (Int×Unit))(a7:List Nat)(ai:Int)(aa:Int)(ae:List Int):Option (List Int×Unit):=
  iter (λ r y=>yMH n (λ a8 a7 ai aa ae=>r ((a8,(a7,(ai,(aa,())))),((ae,()),()))) y.1.1 y.1.2.1 y.1.2.2.1 y.1.2.2.2.1 y.2.1.1) k ((a8,(a7,(ai,(aa,())))),((ae,()),()))
def zI_m(n:Nat)(l:List Nat)(of:Nat×Unit->Option (Int×Unit)):Option (List Int×Unit):=
  (yMn n n (of) (l) ((↑l.length:Int)) ((0:Int)) ([]))
def zI_M(l:List Nat)(of:Nat×Unit->Option (Int×Unit)):Option (List Int×Unit):=zI_m 1000 l of
abbrev zI_e:Entry:={ f:=121,args:=.pair t37 (.pair t188 .unit),rS:=.pair t168 .unit,m:=λ x=>zI_M x.1 x.2.1 }
theorem yQv:FnOK Tryz.prog zI_e:=fF (mu:=[5]) 1000 Tryz.f121 (λ n x=>zI_m n x.1 x.2.1) [[1,5,8,9,10]] eNil
def yKO(n:Nat)(r0:List Int->Int->Int->Option (Int×Unit))(be:List Int)(aA:Int)(au:Int):Option (Int×Unit):=
  (bif decide (au < aA)then ((idx be au).bind λ v1=>(bif v1 != 0 then some (v1,())else r0 be aA (i64.wrap (au+1))))else some ((0:Int),()))
def yKM(n:Nat)(k:Nat)(be:List Int)(aA:Int)(au:Int):Option (Int×Unit):=
  iter (λ r y=>yKO n (λ be aA au=>r ((be,(aA,(au,()))),((),()))) y.1.1 y.1.2.1 y.1.2.2.1) k ((be,(aA,(au,()))),((),()))
def yPQ(n:Nat)(l:List Int):Option (Int×Unit):=
  (yKM n n (l) ((↑l.length:Int)) ((0:Int)))
def yIO(l:List Int):Option (Int×Unit):=yPQ 1000 l
abbrev z0N_e:Entry:={ f:=124,args:=.pair t168 .unit,rS:=.pair t38 .unit,m:=λ x=>yIO x.1 }
theorem yLY:FnOK Tryz.prog z0N_e:=fF 1000 Tryz.f124 (λ n x=>yPQ n x.1) [[5,6,7]] eNil
def yND(n:Nat)(holds:Bool)(e:Int):Option (Int×Unit):=
  (bif holds then some (e,())else some ((0:Int),()))
def z0f(holds:Bool)(e:Int):(Int×Unit):=
  (bif holds then (e,())else ((0:Int),()))
abbrev yQZ (holds:Bool) (e:Int):Option (Int×Unit):=some (z0f holds e)
abbrev z0f_e:Entry:={ f:=125,args:=.pair t4 (.pair t38 .unit),rS:=.pair t38 .unit,m:=λ x=>yQZ x.1 x.2.1 }
theorem yBa:FnOK Tryz.prog z0f_e:=fF (hm:=by intro x;show some (z0f x.1 x.2.1)=yND 0 x.1 x.2.1;unfold yND z0f;first|rfl|simp only[yr]) 0 Tryz.f125 (λ n x=>yND n x.1 x.2.1) [] eNil
def y5b(n:Nat)(r0:List UInt8->List UInt8->Int->Option (Bool×Unit))(ax:List UInt8)(str0__0:List UInt8)(pos0__0:Int)(j2:Bool)(j7:Bool):Option (Bool×Unit):=
  (bif !j2 then (bif pos0__0==0 then some (Bool.false,())else (bif !j7 then some (Bool.false,())else r0 ax str0__0 (yV str0__0 pos0__0).2))else r0 ax str0__0 (yV str0__0 pos0__0).2)
def y3D(n:Nat)(r0:List UInt8->List UInt8->Int->Option (Bool×Unit))(ax:List UInt8)(str0__0:List UInt8)(pos0__0:Int)(j2:Bool):Option (Bool×Unit):=
  (bif decide ((yV str0__0 pos0__0).1 >= 48)then (bif decide ((yV str0__0 pos0__0).1<=57)then (y5b n r0 ax str0__0 pos0__0 j2 (Bool.true))else (y5b n r0 ax str0__0 pos0__0 j2 ((yV str0__0 pos0__0).1==95)))else (y5b n r0 ax str0__0 pos0__0 j2 ((yV str0__0 pos0__0).1==95)))
def yED(n:Nat)(r0:List UInt8->List UInt8->Int->Option (Bool×Unit))(ax:List UInt8)(str0__0:List UInt8)(pos0__0:Int):Option (Bool×Unit):=
  (bif decide (pos0__0 < (↑str0__0.length:Int))then (bif decide ((yV str0__0 pos0__0).1 >= 65)then (bif decide ((yV str0__0 pos0__0).1<=90)then (y3D n r0 ax str0__0 pos0__0 (Bool.true))else (bif decide ((yV str0__0 pos0__0).1 >= 97)then (y3D n r0 ax str0__0 pos0__0 (decide ((yV str0__0 pos0__0).1<=122)))else (y3D n r0 ax str0__0 pos0__0 (Bool.false))))else (bif decide ((yV str0__0 pos0__0).1 >= 97)then (y3D n r0 ax str0__0 pos0__0 (decide ((yV str0__0 pos0__0).1<=122)))else (y3D n r0 ax str0__0 pos0__0 (Bool.false))))else (bif !ax==[]then some (decide ((↑ax.length:Int)<=24),())else some (Bool.false,())))
def y7b(n:Nat)(k:Nat)(ax:List UInt8)(str0__0:List UInt8)(pos0__0:Int):Option (Bool×Unit):=
  iter (λ r y=>yED n (λ ax str0__0 pos0__0=>r ((ax,()),(((str0__0,pos0__0),()),()))) y.1.1 y.2.1.1.1 y.2.1.1.2) k ((ax,()),(((str0__0,pos0__0),()),()))
def yRP(n:Nat)(s:List UInt8):Option (Bool×Unit):=
  (y7b n n (s) (s) ((0:Int)))
def y7v(ax:List UInt8)(str0__0:List UInt8)(pos0__0:Int)(j2:Bool)(j7:Bool):Option ((Bool×Unit)⊕Unit):=
  (bif !j2 then (bif pos0__0==0 then (some (Sum.inl ((Bool.false,()))))else (bif !j7 then (some (Sum.inl ((Bool.false,()))))else (some (Sum.inr ()))))else (some (Sum.inr ())))
theorem y1F(n:Nat)(hn:big<=n)(r0:List UInt8->List UInt8->Int->Option (Bool×Unit))(ax:List UInt8)(str0__0:List UInt8)(pos0__0:Int)(j2:Bool)(j7:Bool):LeF (elim some λ (af:Unit)=>r0 ax str0__0 (yV (str0__0) pos0__0).2) (y7v ax str0__0 pos0__0 j2 j7) (y5b n r0 ax str0__0 pos0__0 j2 j7):=
  (y5 (y5 (y8 rfl) (y5 (y8 rfl) (y8 rfl))) (y8 rfl))
def y5V(ax:List UInt8)(str0__0:List UInt8)(pos0__0:Int)(j2:Bool):Option ((Bool×Unit)⊕Unit):=
  (bif decide ((yV str0__0 pos0__0).1 >= 48)then (bif decide ((yV str0__0 pos0__0).1<=57)then (y7v ax str0__0 pos0__0 j2 (Bool.true))else (y7v ax str0__0 pos0__0 j2 ((yV str0__0 pos0__0).1==95)))else (y7v ax str0__0 pos0__0 j2 ((yV str0__0 pos0__0).1==95)))
theorem y05(n:Nat)(hn:big<=n)(r0:List UInt8->List UInt8->Int->Option (Bool×Unit))(ax:List UInt8)(str0__0:List UInt8)(pos0__0:Int)(j2:Bool):LeF (elim some λ (af:Unit)=>r0 ax str0__0 (yV (str0__0) pos0__0).2) (y5V ax str0__0 pos0__0 j2) (y3D n r0 ax str0__0 pos0__0 j2):=
  (y5 (y5 (by apply y1F n hn) (by apply y1F n hn)) (by apply y1F n hn))
def yBy(ax:List UInt8)(str0__0:List UInt8)(pos0__0:Int):Option ((Bool×Unit)⊕Unit):=
  (bif decide ((yV str0__0 pos0__0).1 >= 65)then (bif decide ((yV str0__0 pos0__0).1<=90)then (y5V ax str0__0 pos0__0 (Bool.true))else (bif decide ((yV str0__0 pos0__0).1 >= 97)then (y5V ax str0__0 pos0__0 (decide ((yV str0__0 pos0__0).1<=122)))else (y5V ax str0__0 pos0__0 (Bool.false))))else (bif decide ((yV str0__0 pos0__0).1 >= 97)then (y5V ax str0__0 pos0__0 (decide ((yV str0__0 pos0__0).1<=122)))else (y5V ax str0__0 pos0__0 (Bool.false))))
def yCw(ax:List UInt8)(str0__0:List UInt8):Option (Bool×Unit):=
  (bif !ax==[]then (some ((decide ((↑ax.length:Int)<=24),())))else (some ((Bool.false,()))))
theorem yDx(n:Nat)(hn:big<=n)(ax:List UInt8)(str0__0:List UInt8)(hx:List.length (str0__0) < lenMax):LeF some (y9C (str0__0) (λ al af=>yBy ax str0__0 al) (λ af=>yCw ax str0__0) (List.length (str0__0)) 0 ()) (y7b n n ax str0__0 0):=by
  refine yKa (f:=some) (W:=λ aH al af=>y7b n aH ax str0__0 al) (λ aH al af=>?_) () n (by unfold big at hn;unfold lenMax at hx;omega)
  show LeF _ _ (yED n (y7b n aH) ax str0__0 al)
  exact y5 (y5 (y5 (by apply y05 n hn) (y5 (by apply y05 n hn) (by apply y05 n hn))) (y5 (by apply y05 n hn) (by apply y05 n hn))) (y16 (y5 (y8 rfl) (y8 rfl)))
def yH8(s:List UInt8):Option (Bool×Unit):=
  (bif decide (List.length (s) < lenMax)then y9C (s) (λ al af=>yBy (s) (s) al) (λ af=>yCw (s) (s)) (List.length (s)) 0 ()else none)
abbrev z08_e:Entry:={ f:=126,args:=.pair t9 .unit,rS:=.pair t4 .unit,m:=λ x=>yH8 x.1 }
theorem yLe:FnOK Tryz.prog z08_e:=fB Tryz.f126 (λ n x=>yRP n x.1) [[0,8]] eNil λ n hn x=>(yd λ hx=>by apply yDx n hn;exact hx)
def zP_m(n:Nat)(s:Q4)(p1:Q1):Option (Bool×Unit):=
  some (decide (s.2.1 > (↑p1.2.2.1.length:Int)),())
def zP(s:Q4)(p1:Q1):(Bool×Unit):=
  (decide (s.2.1 > (↑p1.2.2.1.length:Int)),())
abbrev zP_M (s:Q4) (p1:Q1):Option (Bool×Unit):=some (zP s p1)
abbrev zP_e:Entry:={ f:=131,args:=.pair t46 (.pair (.ref t43) .unit),rS:=.pair t4 .unit,m:=λ x=>zP_M x.1 x.2.1 }
theorem yQR:FnOK Tryz.prog zP_e:=fF (hm:=by intro x;show some (zP x.1 x.2.1)=zP_m 0 x.1 x.2.1;unfold zP_m zP;first|rfl|simp only[yr]) 0 Tryz.f131 (λ n x=>zP_m n x.1 x.2.1) [] eNil
def zO_m(n:Nat)(xp:Nat):Option (Bool×Unit):=
  some (y1K BinOp.neq FloatKind.f32 xp (nat_lit 0),())
def zO(xp:Nat):(Bool×Unit):=
  (y1K BinOp.neq FloatKind.f32 xp (nat_lit 0),())
abbrev zO_M (xp:Nat):Option (Bool×Unit):=some (zO xp)
abbrev zO_e:Entry:={ f:=134,args:=.pair t44 .unit,rS:=.pair t4 .unit,m:=λ x=>zO_M x.1 }
theorem yQt:FnOK Tryz.prog zO_e:=fF (hm:=by intro x;show some (zO x.1)=zO_m 0 x.1;unfold zO_m zO;first|rfl|simp only[yr]) 0 Tryz.f134 (λ n x=>zO_m n x.1) [] eNil
def zZ_m(n:Nat)(xp:Nat):Option (Int×Unit):=
  ((y0e FloatKind.f32 (y2C BinOp.mul FloatKind.f32 xp (nat_lit 1098907648)) i64).bind λ v0=>some (v0,()))
def zZ_M(xp:Nat):Option (Int×Unit):=zZ_m 0 xp
abbrev zZ_e:Entry:={ f:=144,args:=.pair t44 .unit,rS:=.pair t3 .unit,m:=λ x=>zZ_M x.1 }
theorem yQa:FnOK Tryz.prog zZ_e:=fF 0 Tryz.f144 (λ n x=>zZ_m n x.1) [] eNil
def yM9(n:Nat)(r0:List (Q4)->((Q4)×Unit->Option (Bool×Unit))->Int->Int->Option (Int×Unit))(ax:List (Q4))(bZ:(Q4)×Unit->Option (Bool×Unit))(au:Int)(a7:Int):Option (Int×Unit):=
  (bif decide (a7 < au)then ((idx ax a7).bind λ v1=>((bZ (v1,())).bind λ v2=>(bif v2.1 then some (a7,())else r0 ax bZ au (i64.wrap (a7+1)))))else some ((-1:Int),()))
def yN9(n:Nat)(k:Nat)(ax:List (Q4))(bZ:(Q4)×Unit->Option (Bool×Unit))(au:Int)(a7:Int):Option (Int×Unit):=
  iter (λ r y=>yM9 n (λ ax bZ au a7=>r ((ax,(bZ,(au,(a7,())))),((),()))) y.1.1 y.1.2.1 y.1.2.2.1 y.1.2.2.2.1) k ((ax,(bZ,(au,(a7,())))),((),()))
def zD_m(n:Nat)(s:List (Q4))(f:(Q4)×Unit->Option (Bool×Unit)):Option (Int×Unit):=
  (yN9 n n (s) (f) ((↑s.length:Int)) ((0:Int)))
def zD_M(s:List (Q4))(f:(Q4)×Unit->Option (Bool×Unit)):Option (Int×Unit):=zD_m 1000 s f
abbrev zD_e:Entry:={ f:=146,args:=.pair t41 (.pair t195 .unit),rS:=.pair t3 .unit,m:=λ x=>zD_M x.1 x.2.1 }
theorem yQP:FnOK Tryz.prog zD_e:=fF 1000 Tryz.f146 (λ n x=>zD_m n x.1 x.2.1) [[0,1,7,8]] eNil
def yLz(n:Nat)(r0:List Nat->(Nat×Unit->Option (Bool×Unit))->Int->Int->Option (Int×Unit))(ax:List Nat)(bZ:Nat×Unit->Option (Bool×Unit))(au:Int)(a7:Int):Option (Int×Unit):=
  (bif decide (a7 < au)then ((idx ax a7).bind λ v1=>((bZ (v1,())).bind λ v2=>(bif v2.1 then some (a7,())else r0 ax bZ au (i64.wrap (a7+1)))))else some ((-1:Int),()))
def yMP(n:Nat)(k:Nat)(ax:List Nat)(bZ:Nat×Unit->Option (Bool×Unit))(au:Int)(a7:Int):Option (Int×Unit):=
  iter (λ r y=>yLz n (λ ax bZ au a7=>r ((ax,(bZ,(au,(a7,())))),((),()))) y.1.1 y.1.2.1 y.1.2.2.1 y.1.2.2.2.1) k ((ax,(bZ,(au,(a7,())))),((),()))
def zE_m(n:Nat)(s:List Nat)(f:Nat×Unit->Option (Bool×Unit)):Option (Int×Unit):=
  (yMP n n (s) (f) ((↑s.length:Int)) ((0:Int)))
def zE_M(s:List Nat)(f:Nat×Unit->Option (Bool×Unit)):Option (Int×Unit):=zE_m 1000 s f
abbrev zE_e:Entry:={ f:=147,args:=.pair t37 (.pair t197 .unit),rS:=.pair t3 .unit,m:=λ x=>zE_M x.1 x.2.1 }
theorem yR3:FnOK Tryz.prog zE_e:=fF 1000 Tryz.f147 (λ n x=>zE_m n x.1 x.2.1) [[0,1,7,8]] eNil
end
end Go.Tw
end
section
set_option maxRecDepth 1000000
namespace Go.Tw
open Go.Vx Go.Vx.B Go.Proofs
noncomputable section
def zm_m(n:Nat)(t:Q2):Option (Bool×Unit):=
  ((zl_M t.1).bind λ v0=>(bif v0.1 then some (decide ((↑t.2.1.length:Int)<=5),())else some (Bool.false,())))
def zm_M(t:Q2):Option (Bool×Unit):=zm_m 0 t
abbrev zm_e:Entry:={ f:=17,args:=.pair t58 .unit,rS:=.pair t4 .unit,m:=λ x=>zm_M x.1 }
theorem yQ9:FnOK Tryz.prog zm_e:=fF 0 Tryz.f17 (λ n x=>zm_m n x.1) [] (y7 yRH eNil)
def yMY(n:Nat)(t:Q2):Option ((Q2)×Unit):=
  ((yKS t.1).bind λ v0=>((yNJ t.2.1).bind λ v1=>some ((v0.1,v1.1,t.2.2.1,()),())))
def yMT(t:Q2):Option ((Q2)×Unit):=yMY 0 t
abbrev z11_e:Entry:={ f:=19,args:=.pair t58 .unit,rS:=.pair t32 .unit,m:=λ x=>yMT x.1 }
theorem yLj:FnOK Tryz.prog z11_e:=fF 0 Tryz.f19 (λ n x=>yMY n x.1) [] (y7 yPw (y7 yNj eNil))
def yEz(n:Nat)(r2:Q2->Q2->Int->Option (Bool×Unit))(bx:Q2)(bE:Q2)(cm:Int):Option (Bool×Unit):=
  (bif decide (cm < (↑bx.1.length:Int))then ((idx bx.1 cm).bind λ v3=>((idx bE.1 cm).bind λ v4=>(bif !eqV (Ty.str.pair ((Ty.int i64).pair ((Ty.int i64).pair Ty.unit))) v3 v4 then some (Bool.false,())else r2 bx bE (i64.wrap (cm+1)))))else ((zW_M bx.2.1 bE.2.1).bind λ v5=>some (v5.1,())))
def y7d(n:Nat)(k:Nat)(bx:Q2)(bE:Q2)(cm:Int):Option (Bool×Unit):=
  iter (λ r y=>yEz n (λ bx bE cm=>r ((bx,(bE,(cm,()))),((),()))) y.1.1 y.1.2.1 y.1.2.2.1) k ((bx,(bE,(cm,()))),((),()))
def yQe(n:Nat)(a:Q2)(b:Q2):Option (Bool×Unit):=
  (bif a.2.2.1 != b.2.2.1 then some (Bool.false,())else (bif (↑a.1.length:Int) != (↑b.1.length:Int)then some (Bool.false,())else (y7d n n (a) (b) ((0:Int)))))
def yHW(bx:Q2)(bE:Q2)(cm:Int)(v3:Q3):Option ((Bool×Unit)⊕Unit):=
  ((idx bE.1 cm).bind λ v4=>(bif !eqV (Ty.str.pair ((Ty.int i64).pair ((Ty.int i64).pair Ty.unit))) v3 v4 then (some (Sum.inl ((Bool.false,()))))else (some (Sum.inr ()))))
def yHA(bx:Q2)(bE:Q2):Option (Bool×Unit):=
  ((zW_M bx.2.1 bE.2.1).bind λ v5=>(some ((v5.1,()))))
theorem yDu(n:Nat)(hn:big<=n)(bx:Q2)(bE:Q2)(hx:List.length (bx.1) < lenMax):LeF some (yS (λ al aN af=>yHW bx bE al aN) (λ af=>yHA bx bE) 0 (bx.1) ()) (y7d n n bx bE 0):=by
  refine yf (f:=some) (W:=λ aH al af=>y7d n aH bx bE al) (λ aH al af=>?_) hx () n (by unfold big at hn;unfold lenMax at hx;omega)
  show LeF _ _ (yEz n (y7d n aH) bx bE al)
  exact y5 (yC λ v3=>(yC λ v4=>(y5 (y8 rfl) (y8 rfl)))) (y16 (yC λ v5=>(y8 rfl)))
def yHc(a:Q2)(b:Q2):Option (Bool×Unit):=
  (bif a.2.2.1 != b.2.2.1 then (some ((Bool.false,())))else (bif (↑a.1.length:Int) != (↑b.1.length:Int)then (some ((Bool.false,())))else (bif decide (List.length (a.1) < lenMax)then yS (λ al aN af=>yHW (a) (b) al aN) (λ af=>yHA (a) (b)) 0 (a.1) ()else none)))
abbrev z0l_e:Entry:={ f:=15,args:=.pair t58 (.pair t58 .unit),rS:=.pair t4 .unit,m:=λ x=>yHc x.1 x.2.1 }
theorem yLg:FnOK Tryz.prog z0l_e:=fB Tryz.f15 (λ n x=>yQe n x.1 x.2.1) [[2,3,5]] (y7 yNS eNil) λ n hn x=>(y5 (y8 rfl) (y5 (y8 rfl) (yd λ hx=>by apply yDu n hn;exact hx)))
def yM2(n:Nat)(r0:List (List (Q4))->List (List (Q4))->Int->Option (Bool×Unit))(ak:List (List (Q4)))(am:List (List (Q4)))(aq:Int):Option (Bool×Unit):=
  (bif decide (aq < (↑ak.length:Int))then ((idx ak aq).bind λ v1=>((idx am aq).bind λ v2=>((zW_M v1 v2).bind λ v3=>(bif !v3.1 then some (Bool.false,())else r0 ak am (i64.wrap (aq+1))))))else some (Bool.true,()))
def yMc(n:Nat)(k:Nat)(ak:List (List (Q4)))(am:List (List (Q4)))(aq:Int):Option (Bool×Unit):=
  iter (λ r y=>yM2 n (λ ak am aq=>r ((ak,(am,(aq,()))),((),()))) y.1.1 y.1.2.1 y.1.2.2.1) k ((ak,(am,(aq,()))),((),()))
def zr_m(n:Nat)(a:List (List (Q4)))(b:List (List (Q4))):Option (Bool×Unit):=
  (bif (↑a.length:Int) != (↑b.length:Int)then some (Bool.false,())else (yMc n n (a) (b) ((0:Int))))
def zr_M(a:List (List (Q4)))(b:List (List (Q4))):Option (Bool×Unit):=zr_m 1000 a b
abbrev zr_e:Entry:={ f:=30,args:=.pair t75 (.pair t75 .unit),rS:=.pair t4 .unit,m:=λ x=>zr_M x.1 x.2.1 }
theorem yR5:FnOK Tryz.prog zr_e:=fF 1000 Tryz.f30 (λ n x=>zr_m n x.1 x.2.1) [[0,1,5]] (y7 yNS eNil)
def zi_m(n:Nat)(z:Q4):Option (Int×Unit):=
  ((yGR [(za z.1 (-8796093022208:Int) (8796093022208:Int)).1,(za z.2.1 (-8796093022208:Int) (8796093022208:Int)).1]).bind λ v0=>some (v0.1,()))
def zi_M(z:Q4):Option (Int×Unit):=zi_m 0 z
abbrev zi_e:Entry:={ f:=73,args:=.pair t36 .unit,rS:=.pair t3 .unit,m:=λ x=>zi_M x.1 }
theorem yQc:FnOK Tryz.prog zi_e:=fF 0 Tryz.f73 (λ n x=>zi_m n x.1) [] (y7 yN4 (y7 yLl eNil))
def yEa(n:Nat)(r0:List (Q4)->Int->Int->Option (Int×Unit))(av:List (Q4))(b6:Int)(aq:Int):Option (Int×Unit):=
  (bif decide (aq < (↑av.length:Int))then ((idx av aq).bind λ v1=>((idx av aq).bind λ v2=>((yCz b6 (if i64.wrap ((0:Int) - v2.1) > v1.1 then i64.wrap ((0:Int) - v2.1)else v1.1)).bind λ v3=>((idx av aq).bind λ v4=>((idx av aq).bind λ v5=>((yCz v3.1 (if i64.wrap ((0:Int) - v5.2.1) > v4.2.1 then i64.wrap ((0:Int) - v5.2.1)else v4.2.1)).bind λ v6=>r0 av v6.1 (i64.wrap (aq+1))))))))else some (b6,()))
def y7g(n:Nat)(k:Nat)(av:List (Q4))(b6:Int)(aq:Int):Option (Int×Unit):=
  iter (λ r y=>yEa n (λ av b6 aq=>r ((av,(b6,(aq,()))),((),()))) y.1.1 y.1.2.1 y.1.2.2.1) k ((av,(b6,(aq,()))),((),()))
def yQg(n:Nat)(l:List (Q4))(den:Int):Option (Int×Unit):=
  (y7g n n (l) (den) ((0:Int)))
def yCQ(av:List (Q4))(aq:Int)(v1:Q4)(b6:Int):Option ((Int×Unit)⊕(Int)):=
  ((idx av aq).bind λ v2=>((yCz b6 (if i64.wrap ((0:Int) - v2.1) > v1.1 then i64.wrap ((0:Int) - v2.1)else v1.1)).bind λ v3=>((idx av aq).bind λ v4=>((idx av aq).bind λ v5=>((yCz v3.1 (if i64.wrap ((0:Int) - v5.2.1) > v4.2.1 then i64.wrap ((0:Int) - v5.2.1)else v4.2.1)).bind λ v6=>(some (Sum.inr (v6.1))))))))
def yJ7(av:List (Q4))(b6:Int):Option (Int×Unit):=
  (some ((b6,())))
theorem yE8(n:Nat)(hn:big<=n)(av:List (Q4))(b6:Int)(hx:List.length (av) < lenMax):LeF some (yS (λ al aN af=>yCQ av al aN af) (λ af=>yJ7 av af) 0 (av) b6) (y7g n n av b6 0):=by
  refine yf (f:=some) (W:=λ aH al af=>y7g n aH av af al) (λ aH al af=>?_) hx b6 n (by unfold big at hn;unfold lenMax at hx;omega)
  show LeF _ _ (yEa n (y7g n aH) av af al)
  exact y5 (yC λ v1=>(yC λ v2=>(yC λ v3=>(yC λ v4=>(yC λ v5=>(yC λ v6=>(y8 rfl))))))) (y16 (y8 rfl))
def yI8(l:List (Q4))(den:Int):Option (Int×Unit):=
  (bif decide (List.length (l) < lenMax)then yS (λ al aN af=>yCQ (l) al aN af) (λ af=>yJ7 (l) af) 0 (l) (den)else none)
abbrev z0B_e:Entry:={ f:=74,args:=.pair t30 (.pair t3 .unit),rS:=.pair t3 .unit,m:=λ x=>yI8 x.1 x.2.1 }
theorem yOm:FnOK Tryz.prog z0B_e:=fB Tryz.f74 (λ n x=>yQg n x.1 x.2.1) [[0,1,5]] (y7 yNa eNil) λ n hn x=>(yd λ hx=>by apply yE8 n hn;exact hx)
def yNG(n:Nat)(np:Int)(least:Int)(most:Int):Option (Int×Unit):=
  (bif decide (np < least)then some ((z16 Bool.true (3:Int)).1,())else some ((z16 (decide (np > most)) (3:Int)).1,()))
def z0e(np:Int)(least:Int)(most:Int):(Int×Unit):=
  (bif decide (np < least)then ((z16 Bool.true (3:Int)).1,())else ((z16 (decide (np > most)) (3:Int)).1,()))
abbrev yQO (np:Int) (least:Int) (most:Int):Option (Int×Unit):=some (z0e np least most)
abbrev z0e_e:Entry:={ f:=87,args:=.pair t3 (.pair t3 (.pair t3 .unit)),rS:=.pair t38 .unit,m:=λ x=>yQO x.1 x.2.1 x.2.2.1 }
theorem yC5:FnOK Tryz.prog z0e_e:=fF (hm:=by intro x;show some (z0e x.1 x.2.1 x.2.2.1)=yNG 0 x.1 x.2.1 x.2.2.1;unfold yNG z0e;first|rfl|simp only[yr]) 0 Tryz.f87 (λ n x=>yNG n x.1 x.2.1 x.2.2.1) [] (y7 y77 eNil)
def zh_m(n:Nat)(s:List UInt8):Option (Int×Unit):=
  ((yL6 s).bind λ v0=>(bif !v0.1 then some ((8:Int),())else some ((0:Int),())))
def zh_M(s:List UInt8):Option (Int×Unit):=zh_m 0 s
abbrev zh_e:Entry:={ f:=44,args:=.pair t9 .unit,rS:=.pair t3 .unit,m:=λ x=>zh_M x.1 }
theorem yR7:FnOK Tryz.prog zh_e:=fF 0 Tryz.f44 (λ n x=>zh_m n x.1) [] (y7 yOC eNil)
def yIR(n:Nat)(r0:Q2->List (Q4)->Int->Int->Option (Bool×Unit))(aT:Q2)(aA:List (Q4))(au:Int)(a7:Int):Option (Bool×Unit):=
  (bif decide (a7 < au)then ((idx aA a7).bind λ v1=>(bif decide ((if (z06 v1.2.1).1 > (z06 v1.1).1 then (z06 v1.2.1).1 else (z06 v1.1).1) > 4194304)then some (Bool.false,())else r0 aT aA au (i64.wrap (a7+1))))else some (decide (aT.2.2.1<=4096),()))
def yAF(n:Nat)(k:Nat)(aT:Q2)(aA:List (Q4))(au:Int)(a7:Int):Option (Bool×Unit):=
  iter (λ r y=>yIR n (λ aT aA au a7=>r ((aT,(aA,(au,(a7,())))),((),()))) y.1.1 y.1.2.1 y.1.2.2.1 y.1.2.2.2.1) k ((aT,(aA,(au,(a7,())))),((),()))
def zn_m(n:Nat)(t:Q2):Option (Bool×Unit):=
  (yAF n n (t) (t.2.1) ((↑t.2.1.length:Int)) ((0:Int)))
def yPL(aT:Q2)(aA:List (Q4))(a7:Int)(v1:Q4):Option ((Bool×Unit)⊕Unit):=
  (bif decide ((if (z06 v1.2.1).1 > (z06 v1.1).1 then (z06 v1.2.1).1 else (z06 v1.1).1) > 4194304)then (some (Sum.inl ((Bool.false,()))))else (some (Sum.inr ())))
def yQ3(aT:Q2)(aA:List (Q4)):Option (Bool×Unit):=
  (some ((decide (aT.2.2.1<=4096),())))
theorem yGm(n:Nat)(hn:big<=n)(aT:Q2)(aA:List (Q4))(hx:List.length (aA) < lenMax):LeF some (yS (λ al aN af=>yPL aT aA al aN) (λ af=>yQ3 aT aA) 0 (aA) ()) (yAF n n aT aA (List.length (aA):Int) 0):=by
  refine yf (f:=some) (W:=λ aH al af=>yAF n aH aT aA (List.length (aA):Int) al) (λ aH al af=>?_) hx () n (by unfold big at hn;unfold lenMax at hx;omega)
  show LeF _ _ (yIR n (yAF n aH) aT aA (List.length (aA):Int) al)
  exact y5 (yC λ v1=>(y5 (y8 rfl) (y8 rfl))) (y16 (y8 rfl))
def zn_M(t:Q2):Option (Bool×Unit):=
  (bif decide (List.length (t.2.1) < lenMax)then yS (λ al aN af=>yPL (t) (t.2.1) al aN) (λ af=>yQ3 (t) (t.2.1)) 0 (t.2.1) ()else none)
abbrev zn_e:Entry:={ f:=61,args:=.pair t32 .unit,rS:=.pair t4 .unit,m:=λ x=>zn_M x.1 }
theorem yQk:FnOK Tryz.prog zn_e:=fB Tryz.f61 (λ n x=>zn_m n x.1) [[1,6,7,8]] (y7 yCy eNil) λ n hn x=>(yd λ hx=>by apply yGm n hn;exact hx)
def yNX(n:Nat)(z:Q4):Option (Int×Unit):=
  some ((z16 (decide ((if (z06 z.2.1).1 > (z06 z.1).1 then (z06 z.2.1).1 else (z06 z.1).1) > 16777216)) (1:Int)).1,())
def z0Y(z:Q4):(Int×Unit):=
  ((z16 (decide ((if (z06 z.2.1).1 > (z06 z.1).1 then (z06 z.2.1).1 else (z06 z.1).1) > 16777216)) (1:Int)).1,())
abbrev yOy (z:Q4):Option (Int×Unit):=some (z0Y z)
abbrev z0Y_e:Entry:={ f:=89,args:=.pair t36 .unit,rS:=.pair t38 .unit,m:=λ x=>yOy x.1 }
theorem yOD:FnOK Tryz.prog z0Y_e:=fF (hm:=by intro x;show some (z0Y x.1)=yNX 0 x.1;unfold yNX z0Y;first|rfl|simp only[yr]) 0 Tryz.f89 (λ n x=>yNX n x.1) [] (y7 yCy (y7 y77 eNil))
def yBK(n:Nat)(r0:Q1->List (Q4)->List Nat->Int->Int->Q1->Q3->Q3->Q1->Q3->Q3->Q4->Q1->Q1->Int->Int->Int->Int->Q1->Q3->Q3->Q1->Q3->Q3->Q4->Q1->Q1->Option ((Q4)×Unit))(j8:Q1)(j9:List (Q4))(j10:Int)(j11:Nat)(j12:List Nat)(j13:Int)(j14:Int)(j15:Q1)(j16:Q3)(j17:Q3)(j18:Q1)(j19:Q3)(j20:Q3)(j21:Q4)(j22:Q1)(j23:Q1)(j24:Int)(j25:Int)(j26:Int)(j27:Int)(j28:Q1)(j29:Q3)(j30:Q3)(j31:Q1)(j32:Q3)(j33:Q3)(j34:Q4)(j35:Q1)(j36:Q1):Option ((Q4)×Unit):=
  (bif decide ((↑j9.length:Int) > 0)then ((idx j9 (0:Int)).bind λ v37=>(bif decide (v37.1<=j10)then r0 j8 j9 j12 j13 (i64.wrap (j14+1)) j15 j16 j17 j18 j19 j20 j21 j22 j23 j24 j25 j26 j27 j28 j29 j30 j31 j32 j33 j34 j35 j36 else ((y0e FloatKind.f32 (y2C BinOp.mul FloatKind.f32 j11 (nat_lit 1098907648)) i64).bind λ v42=>((zR_M j19 (i64.wrap (j8.2.1+j10))).bind λ v43=>((zR_M j20 (i64.wrap (j8.2.1+j10))).bind λ v44=>r0 j8 j9 j12 j13 (i64.wrap (j14+1)) j15 j16 j17 j18 j19 j20 j21 j22 j23 j24 j25 (z15 (j26,j27,()) (z0z (zx v43.1).1 v44.1).1).1.1 (z15 (j26,j27,()) (z0z (zx v43.1).1 v44.1).1).1.2.1 j28 j29 j30 j31 j32 j33 j34 j35 j36)))))else ((y0e FloatKind.f32 (y2C BinOp.mul FloatKind.f32 j11 (nat_lit 1098907648)) i64).bind λ v45=>((zR_M j19 (i64.wrap (j8.2.1+j10))).bind λ v46=>((zR_M j20 (i64.wrap (j8.2.1+j10))).bind λ v47=>r0 j8 j9 j12 j13 (i64.wrap (j14+1)) j15 j16 j17 j18 j19 j20 j21 j22 j23 j24 j25 (z15 (j26,j27,()) (z0z (zx v46.1).1 v47.1).1).1.1 (z15 (j26,j27,()) (z0z (zx v46.1).1 v47.1).1).1.2.1 j28 j29 j30 j31 j32 j33 j34 j35 j36))))
def yKk(n:Nat)(r0:Q1->List (Q4)->List Nat->Int->Int->Q1->Q3->Q3->Q1->Q3->Q3->Q4->Q1->Q1->Int->Int->Int->Int->Q1->Q3->Q3->Q1->Q3->Q3->Q4->Q1->Q1->Option ((Q4)×Unit))(r2:Q1->List (Q4)->Int->Nat->List Nat->Int->Int->Q1->Q3->Q3->Q1->Q3->Q3->Q4->Q1->Q1->Int->Int->Int->Int->Q1->Q3->Q3->Q1->Q3->Q3->Q4->Q1->Q1->Option ((Q4)×Unit))(bl:Q1)(aj:List (Q4))(bf:Int)(bm:Nat)(aJ:List Nat)(aO:Int)(aP:Int)(aB:Q1)(aC:Q3)(aW:Q3)(bK:Q1)(bL:Q3)(aV:Q3)(bM:Q4)(bz:Q1)(ba:Q1)(aX:Int)(aY:Int)(aZ:Int)(b4:Int)(bp:Q1)(bq:Q3)(bN:Q3)(cp:Q1)(cr:Q3)(bI:Q3)(cu:Q4)(cd:Q1)(bA:Q1):Option ((Q4)×Unit):=
  (bif decide ((↑aj.length:Int) > 0)then ((idx aj (0:Int)).bind λ v3=>(bif decide (v3.2.1<=bf)then (bif decide ((0:Int)<=1) && decide ((1:Int)<=(↑aj.length:Int))then r2 bl (List.drop (Int.toNat (1:Int)) aj) bf bm aJ aO aP aB aC aW bK bL aV bM bz ba aX aY aZ b4 bp bq bN cp cr bI cu cd bA else none)else (yBK n r0 (bl) (aj) (bf) (bm) (aJ) (aO) (aP) (aB) (aC) (aW) (bK) (bL) (aV) (bM) (bz) (ba) (aX) (aY) (aZ) (b4) (bp) (bq) (bN) (cp) (cr) (bI) (cu) (cd) (bA))))else (yBK n r0 (bl) (aj) (bf) (bm) (aJ) (aO) (aP) (aB) (aC) (aW) (bK) (bL) (aV) (bM) (bz) (ba) (aX) (aY) (aZ) (b4) (bp) (bq) (bN) (cp) (cr) (bI) (cu) (cd) (bA)))
def yKZ(n:Nat)(r0:Q1->List (Q4)->List Nat->Int->Int->Q1->Q3->Q3->Q1->Q3->Q3->Q4->Q1->Q1->Int->Int->Int->Int->Q1->Q3->Q3->Q1->Q3->Q3->Q4->Q1->Q1->Option ((Q4)×Unit))(k:Nat)(bl:Q1)(aj:List (Q4))(bf:Int)(bm:Nat)(aJ:List Nat)(aO:Int)(aP:Int)(aB:Q1)(aC:Q3)(aW:Q3)(bK:Q1)(bL:Q3)(aV:Q3)(bM:Q4)(bz:Q1)(ba:Q1)(aX:Int)(aY:Int)(aZ:Int)(b4:Int)(bp:Q1)(bq:Q3)(bN:Q3)(cp:Q1)(cr:Q3)(bI:Q3)(cu:Q4)(cd:Q1)(bA:Q1):Option ((Q4)×Unit):=
  iter (λ r y=>yKk n r0 (λ bl aj bf bm aJ aO aP aB aC aW bK bL aV bM bz ba aX aY aZ b4 bp bq bN cp cr bI cu cd bA=>r ((bl,(aj,(bf,(bm,(aJ,(aO,(aP,()))))))),(((aB,(aC,(aW,(bK,(bL,(aV,(bM,(bz,((ba,()),()))))))))),((aX,(aY,())),((aZ,(b4,())),()))),(bp,(bq,(bN,(cp,(cr,(bI,(cu,(cd,((bA,()),())))))))))))) y.1.1 y.1.2.1 y.1.2.2.1 y.1.2.2.2.1 y.1.2.2.2.2.1 y.1.2.2.2.2.2.1 y.1.2.2.2.2.2.2.1 y.2.1.1.1 y.2.1.1.2.1 y.2.1.1.2.2.1 y.2.1.1.2.2.2.1 y.2.1.1.2.2.2.2.1 y.2.1.1.2.2.2.2.2.1 y.2.1.1.2.2.2.2.2.2.1 y.2.1.1.2.2.2.2.2.2.2.1 y.2.1.1.2.2.2.2.2.2.2.2.1.1 y.2.1.2.1.1 y.2.1.2.1.2.1 y.2.1.2.2.1.1 y.2.1.2.2.1.2.1 y.2.2.1 y.2.2.2.1 y.2.2.2.2.1 y.2.2.2.2.2.1 y.2.2.2.2.2.2.1 y.2.2.2.2.2.2.2.1 y.2.2.2.2.2.2.2.2.1 y.2.2.2.2.2.2.2.2.2.1 y.2.2.2.2.2.2.2.2.2.2.1.1) k ((bl,(aj,(bf,(bm,(aJ,(aO,(aP,()))))))),(((aB,(aC,(aW,(bK,(bL,(aV,(bM,(bz,((ba,()),()))))))))),((aX,(aY,())),((aZ,(b4,())),()))),(bp,(bq,(bN,(cp,(cr,(bI,(cu,(cd,((bA,()),())))))))))))
def yJf(n:Nat)(r0:Q1->List (Q4)->List Nat->Int->Int->Q1->Q3->Q3->Q1->Q3->Q3->Q4->Q1->Q1->Int->Int->Int->Int->Q1->Q3->Q3->Q1->Q3->Q3->Q4->Q1->Q1->Option ((Q4)×Unit))(aT:Q1)(aG:List (Q4))(ai:List Nat)(aa:Int)(ar:Int)(aQ:Q1)(aR:Q3)(bt:Q3)(ce:Q1)(cf:Q3)(br:Q3)(cg:Q4)(bW:Q1)(bv:Q1)(ah:Int)(ac:Int)(bc:Int)(bd:Int)(bC:Q1)(bD:Q3)(ci:Q3)(cz:Q1)(cA:Q3)(cb:Q3)(cB:Q4)(cn:Q1)(bX:Q1):Option ((Q4)×Unit):=
  (bif decide (ar < aa)then ((idx ai ar).bind λ v1=>(yKZ n r0 n (aT) (aG) (ar) (v1) (ai) (aa) (ar) (aQ) (aR) (bt) (ce) (cf) (br) (cg) (bW) (bv) (ah) (ac) (bc) (bd) (bC) (bD) (ci) (cz) (cA) (cb) (cB) (cn) (bX)))else some ((bc,bd,()),()))
def yKu(n:Nat)(k:Nat)(aT:Q1)(aG:List (Q4))(ai:List Nat)(aa:Int)(ar:Int)(aQ:Q1)(aR:Q3)(bt:Q3)(ce:Q1)(cf:Q3)(br:Q3)(cg:Q4)(bW:Q1)(bv:Q1)(ah:Int)(ac:Int)(bc:Int)(bd:Int)(bC:Q1)(bD:Q3)(ci:Q3)(cz:Q1)(cA:Q3)(cb:Q3)(cB:Q4)(cn:Q1)(bX:Q1):Option ((Q4)×Unit):=
  iter (λ r y=>yJf n (λ aT aG ai aa ar aQ aR bt ce cf br cg bW bv ah ac bc bd bC bD ci cz cA cb cB cn bX=>r ((aT,(aG,(ai,(aa,(ar,()))))),(((aQ,(aR,(bt,(ce,(cf,(br,(cg,(bW,((bv,()),()))))))))),((ah,(ac,())),((bc,(bd,())),()))),(bC,(bD,(ci,(cz,(cA,(cb,(cB,(cn,((bX,()),())))))))))))) y.1.1 y.1.2.1 y.1.2.2.1 y.1.2.2.2.1 y.1.2.2.2.2.1 y.2.1.1.1 y.2.1.1.2.1 y.2.1.1.2.2.1 y.2.1.1.2.2.2.1 y.2.1.1.2.2.2.2.1 y.2.1.1.2.2.2.2.2.1 y.2.1.1.2.2.2.2.2.2.1 y.2.1.1.2.2.2.2.2.2.2.1 y.2.1.1.2.2.2.2.2.2.2.2.1.1 y.2.1.2.1.1 y.2.1.2.1.2.1 y.2.1.2.2.1.1 y.2.1.2.2.1.2.1 y.2.2.1 y.2.2.2.1 y.2.2.2.2.1 y.2.2.2.2.2.1 y.2.2.2.2.2.2.1 y.2.2.2.2.2.2.2.1 y.2.2.2.2.2.2.2.2.1 y.2.2.2.2.2.2.2.2.2.1 y.2.2.2.2.2.2.2.2.2.2.1.1) k ((aT,(aG,(ai,(aa,(ar,()))))),(((aQ,(aR,(bt,(ce,(cf,(br,(cg,(bW,((bv,()),()))))))))),((ah,(ac,())),((bc,(bd,())),()))),(bC,(bD,(ci,(cz,(cA,(cb,(cB,(cn,((bX,()),())))))))))))
def yOv(n:Nat)(rp:Q1)(a:Q3)(b:Q3):Option ((Q4)×Unit):=
  (yKu n n (rp) (rp.2.2.2.1) (rp.2.2.1) ((↑rp.2.2.1.length:Int)) ((0:Int)) (rp) (a) (b) (rp) (a) (b) (((0:Int),(0:Int),())) (rp) (rp) ((0:Int)) ((0:Int)) ((0:Int)) ((0:Int)) (rp) (a) (b) (rp) (a) (b) (((0:Int),(0:Int),())) (rp) (rp))
def yK2(rp:Q1)(a:Q3)(b:Q3):Option ((Q4)×Unit):=yOv 1000 rp a b
abbrev z0u_e:Entry:={ f:=79,args:=.pair t43 (.pair t34 (.pair t34 .unit)),rS:=.pair t36 .unit,m:=λ x=>yK2 x.1 x.2.1 x.2.2.1 }
theorem yHM:FnOK Tryz.prog z0u_e:=fFI 1000 Tryz.f79 (λ n x=>yOv n x.1 x.2.1 x.2.2.1) [] [il53,il107] 3 (y7 yMW (y7 yNC (y7 yEX (y7 yEP eNil)))) (y3p y8D (y3p y6B iNil))
def yFS(n:Nat)(r0:List (Q4)->Int->List (Q3)->Int->Int->Int->Int->Int->Int->Option ((Q4)×Unit))(bO:List (Q4))(aK:Int)(ar:List (Q3))(aI:Int)(aM:Int)(ay:Int)(az:Int)(ah:Int)(ac:Int):Option ((Q4)×Unit):=
  (bif decide (aM < aI)then ((idx ar aM).bind λ v1=>((idx bO aM).bind λ v2=>((zR_M (v1.1,v1.2.1,v1.2.2.1,()) aK).bind λ v3=>r0 bO aK ar aI (i64.wrap (aM+1)) ay az (z15 (ah,ac,()) (z0z v2 v3.1).1).1.1 (z15 (ah,ac,()) (z0z v2 v3.1).1).1.2.1)))else some ((ah,ac,()),()))
def y7N(n:Nat)(k:Nat)(bO:List (Q4))(aK:Int)(ar:List (Q3))(aI:Int)(aM:Int)(ay:Int)(az:Int)(ah:Int)(ac:Int):Option ((Q4)×Unit):=
  iter (λ r y=>yFS n (λ bO aK ar aI aM ay az ah ac=>r ((bO,(aK,(ar,(aI,(aM,()))))),(((ay,(az,())),((ah,(ac,())),())),()))) y.1.1 y.1.2.1 y.1.2.2.1 y.1.2.2.2.1 y.1.2.2.2.2.1 y.2.1.1.1 y.2.1.1.2.1 y.2.1.2.1.1 y.2.1.2.1.2.1) k ((bO,(aK,(ar,(aI,(aM,()))))),(((ay,(az,())),((ah,(ac,())),())),()))
def yQw(n:Nat)(l:List (Q3))(v:List (Q4))(tick:Int):Option ((Q4)×Unit):=
  (y7N n n (v) (tick) (l) ((↑l.length:Int)) ((0:Int)) ((0:Int)) ((0:Int)) ((0:Int)) ((0:Int)))
def yLH(bO:List (Q4))(aK:Int)(ar:List (Q3))(ay:Int)(az:Int)(aM:Int)(v1:Q3)(ah:Int)(ac:Int):Option (((Q4)×Unit)⊕(Int×Int)):=
  ((idx bO aM).bind λ v2=>((zR_M (v1.1,v1.2.1,v1.2.2.1,()) aK).bind λ v3=>(some (Sum.inr (((z15 (ah,ac,()) (z0z v2 v3.1).1).1.1),((z15 (ah,ac,()) (z0z v2 v3.1).1).1.2.1))))))
def yLG(bO:List (Q4))(aK:Int)(ar:List (Q3))(ay:Int)(az:Int)(ah:Int)(ac:Int):Option ((Q4)×Unit):=
  (some (((ah,ac,()),())))
theorem yD9(n:Nat)(hn:big<=n)(bO:List (Q4))(aK:Int)(ar:List (Q3))(ay:Int)(az:Int)(ah:Int)(ac:Int)(hx:List.length (ar) < lenMax):LeF some (yS (λ al aN af=>yLH bO aK ar ay az al aN af.1 af.2) (λ af=>yLG bO aK ar ay az af.1 af.2) 0 (ar) (ah,ac)) (y7N n n bO aK ar (List.length (ar):Int) 0 ay az ah ac):=by
  refine yf (f:=some) (W:=λ aH al af=>y7N n aH bO aK ar (List.length (ar):Int) al ay az af.1 af.2) (λ aH al af=>?_) hx (ah,ac) n (by unfold big at hn;unfold lenMax at hx;omega)
  show LeF _ _ (yFS n (y7N n aH) bO aK ar (List.length (ar):Int) al ay az af.1 af.2)
  exact y5 (yC λ v1=>(yC λ v2=>(yC λ v3=>(y8 rfl)))) (y16 (y8 rfl))
def yOO(l:List (Q3))(v:List (Q4))(tick:Int):Option ((Q4)×Unit):=
  (bif decide (List.length (l) < lenMax)then yS (λ al aN af=>yLH (v) (tick) (l) ((0:Int)) ((0:Int)) al aN af.1 af.2) (λ af=>yLG (v) (tick) (l) ((0:Int)) ((0:Int)) af.1 af.2) 0 (l) (((0:Int)),((0:Int)))else none)
abbrev z10_e:Entry:={ f:=111,args:=.pair t28 (.pair t30 (.pair t3 .unit)),rS:=.pair t36 .unit,m:=λ x=>yOO x.1 x.2.1 x.2.2.1 }
theorem yP2:FnOK Tryz.prog z10_e:=fB Tryz.f111 (λ n x=>yQw n x.1 x.2.1 x.2.2.1) [[1,2,6,7,11,12,13]] (y7 yMW (y7 yEX (y7 yEP eNil))) λ n hn x=>(yd λ hx=>by apply yD9 n hn;exact hx)
def yFF(n:Nat)(r0:Int->List Int->Int->Int->Option (Int×Unit))(r2:Int->Int->List Int->Int->Int->Option (Int×Unit))(ca:Int)(bG:Int)(bQ:List Int)(bR:Int)(aJ:Int):Option (Int×Unit):=
  (bif bG != 0 then (bif bG==0 then none else r2 bG (ca.tmod bG) bQ bR aJ)else r0 ca bQ bR (i64.wrap (aJ+1)))
def y7T(n:Nat)(r0:Int->List Int->Int->Int->Option (Int×Unit))(k:Nat)(ca:Int)(bG:Int)(bQ:List Int)(bR:Int)(aJ:Int):Option (Int×Unit):=
  iter (λ r y=>yFF n r0 (λ ca bG bQ bR aJ=>r ((ca,(bG,(bQ,(bR,(aJ,()))))),((),()))) y.1.1 y.1.2.1 y.1.2.2.1 y.1.2.2.2.1 y.1.2.2.2.2.1) k ((ca,(bG,(bQ,(bR,(aJ,()))))),((),()))
def yEJ(n:Nat)(r0:Int->List Int->Int->Int->Option (Int×Unit))(bY:Int)(au:List Int)(a7:Int)(ai:Int):Option (Int×Unit):=
  (bif decide (ai < a7)then ((idx au ai).bind λ v1=>(y7T n r0 n (bY) ((z06 v1).1) (au) (a7) (ai)))else some (bY,()))
def y7j(n:Nat)(k:Nat)(bY:Int)(au:List Int)(a7:Int)(ai:Int):Option (Int×Unit):=
  iter (λ r y=>yEJ n (λ bY au a7 ai=>r ((bY,(au,(a7,(ai,())))),((),()))) y.1.1 y.1.2.1 y.1.2.2.1 y.1.2.2.2.1) k ((bY,(au,(a7,(ai,())))),((),()))
def yQM(n:Nat)(np:Int)(l:List Int):Option (Int×Unit):=
  (y7j n n (np) (l) ((↑l.length:Int)) ((0:Int)))
def yCF(bQ:List Int)(bR:Int)(aJ:Int)(ca:Int)(bG:Int):Option (((Int×Unit)⊕(Int))⊕(Int×Int)):=
  (bif bG != 0 then (bif bG==0 then none else (some (Sum.inr ((bG),(ca.tmod bG)))))else (some (Sum.inl (Sum.inr (ca)))))
theorem yDT(n:Nat)(hn:big<=n)(r0:Int->List Int->Int->Int->Option (Int×Unit))(bQ:List Int)(bR:Int)(aJ:Int)(ca:Int)(bG:Int):LeF (elim some λ (af:(Int))=>r0 af bQ bR (i64.wrap (aJ+1))) (y5d (λ af=>yCF bQ bR aJ af.1 af.2) wMax (ca,bG)) (y7T n r0 n ca bG bQ bR aJ):=by
  refine yAD (f:=(elim some λ (af:(Int))=>r0 af bQ bR (i64.wrap (aJ+1)))) (W:=λ aH af=>y7T n r0 aH af.1 af.2 bQ bR aJ) (body:=(λ af=>yCF bQ bR aJ af.1 af.2)) (λ aH af=>?_) wMax n (ca,bG) (by unfold big at hn;unfold wMax;omega)
  show LeF _ _ (yFF n r0 (y7T n r0 aH) af.1 af.2 bQ bR aJ)
  exact (y5 (y5 yK (y8 rfl)) (y8 rfl))
def yEt(au:List Int)(ai:Int)(v1:Int)(bY:Int):Option ((Int×Unit)⊕(Int)):=
  (y5d (λ af=>yCF (au) ((↑au.length:Int)) (ai) af.1 af.2) wMax ((bY),((z06 v1).1)))
def yLU(au:List Int)(bY:Int):Option (Int×Unit):=
  (some ((bY,())))
theorem yDL(n:Nat)(hn:big<=n)(au:List Int)(bY:Int)(hx:List.length (au) < lenMax):LeF some (yS (λ al aN af=>yEt au al aN af) (λ af=>yLU au af) 0 (au) bY) (y7j n n bY au (List.length (au):Int) 0):=by
  refine yf (f:=some) (W:=λ aH al af=>y7j n aH af au (List.length (au):Int) al) (λ aH al af=>?_) hx bY n (by unfold big at hn;unfold lenMax at hx;omega)
  show LeF _ _ (yEJ n (y7j n aH) af au (List.length (au):Int) al)
  exact y5 (yC λ v1=>(by apply yDT n hn)) (y16 (y8 rfl))
def yFw(np:Int)(l:List Int):Option (Int×Unit):=
  (bif decide (List.length (l) < lenMax)then yS (λ al aN af=>yEt (l) al aN af) (λ af=>yLU (l) af) 0 (l) (np)else none)
abbrev z0J_e:Entry:={ f:=108,args:=.pair t3 (.pair t88 .unit),rS:=.pair t3 .unit,m:=λ x=>yFw x.1 x.2.1 }
theorem yLV:FnOK Tryz.prog z0J_e:=fB Tryz.f108 (λ n x=>yQM n x.1 x.2.1) [[0,7,8,9],[0,6,7,8,9]] (y7 yCy eNil) λ n hn x=>(yd λ hx=>by apply yDL n hn;exact hx)
def yBu(n:Nat)(r0:Q1->List (Q4)->List Nat->Int->Int->Q3->Q1->Q3->Q4->Q1->Q1->Int->Int->Int->Int->Q3->Q1->Q3->Q4->Q1->Q1->Option ((Q4)×Unit))(j8:Q1)(j9:List (Q4))(j10:Int)(j11:Nat)(j12:List Nat)(j13:Int)(j14:Int)(j15:Q3)(j16:Q1)(j17:Q3)(j18:Q4)(j19:Q1)(j20:Q1)(j21:Int)(j22:Int)(j23:Int)(j24:Int)(j25:Q3)(j26:Q1)(j27:Q3)(j28:Q4)(j29:Q1)(j30:Q1):Option ((Q4)×Unit):=
  (bif decide ((↑j9.length:Int) > 0)then ((idx j9 (0:Int)).bind λ v31=>(bif decide (v31.1<=j10)then r0 j8 j9 j12 j13 (i64.wrap (j14+1)) j15 j16 j17 j18 j19 j20 j21 j22 j23 j24 j25 j26 j27 j28 j29 j30 else ((y0e FloatKind.f32 (y2C BinOp.mul FloatKind.f32 j11 (nat_lit 1098907648)) i64).bind λ v36=>((zR_M j17 (i64.wrap (j8.2.1+j10))).bind λ v37=>r0 j8 j9 j12 j13 (i64.wrap (j14+1)) j15 j16 j17 j18 j19 j20 j21 j22 (z15 (j23,j24,()) (z0c (zx v37.1).1 v36).1).1.1 (z15 (j23,j24,()) (z0c (zx v37.1).1 v36).1).1.2.1 j25 j26 j27 j28 j29 j30))))else ((y0e FloatKind.f32 (y2C BinOp.mul FloatKind.f32 j11 (nat_lit 1098907648)) i64).bind λ v38=>((zR_M j17 (i64.wrap (j8.2.1+j10))).bind λ v39=>r0 j8 j9 j12 j13 (i64.wrap (j14+1)) j15 j16 j17 j18 j19 j20 j21 j22 (z15 (j23,j24,()) (z0c (zx v39.1).1 v38).1).1.1 (z15 (j23,j24,()) (z0c (zx v39.1).1 v38).1).1.2.1 j25 j26 j27 j28 j29 j30)))
def yKA(n:Nat)(r0:Q1->List (Q4)->List Nat->Int->Int->Q3->Q1->Q3->Q4->Q1->Q1->Int->Int->Int->Int->Q3->Q1->Q3->Q4->Q1->Q1->Option ((Q4)×Unit))(r2:Q1->List (Q4)->Int->Nat->List Nat->Int->Int->Q3->Q1->Q3->Q4->Q1->Q1->Int->Int->Int->Int->Q3->Q1->Q3->Q4->Q1->Q1->Option ((Q4)×Unit))(bl:Q1)(aj:List (Q4))(bf:Int)(bm:Nat)(aJ:List Nat)(aO:Int)(aP:Int)(aB:Q3)(aC:Q1)(aW:Q3)(bS:Q4)(bU:Q1)(bu:Q1)(aX:Int)(aY:Int)(aZ:Int)(b4:Int)(bp:Q3)(bq:Q1)(bN:Q3)(cw:Q4)(cx:Q1)(bV:Q1):Option ((Q4)×Unit):=
  (bif decide ((↑aj.length:Int) > 0)then ((idx aj (0:Int)).bind λ v3=>(bif decide (v3.2.1<=bf)then (bif decide ((0:Int)<=1) && decide ((1:Int)<=(↑aj.length:Int))then r2 bl (List.drop (Int.toNat (1:Int)) aj) bf bm aJ aO aP aB aC aW bS bU bu aX aY aZ b4 bp bq bN cw cx bV else none)else (yBu n r0 (bl) (aj) (bf) (bm) (aJ) (aO) (aP) (aB) (aC) (aW) (bS) (bU) (bu) (aX) (aY) (aZ) (b4) (bp) (bq) (bN) (cw) (cx) (bV))))else (yBu n r0 (bl) (aj) (bf) (bm) (aJ) (aO) (aP) (aB) (aC) (aW) (bS) (bU) (bu) (aX) (aY) (aZ) (b4) (bp) (bq) (bN) (cw) (cx) (bV)))
def yKH(n:Nat)(r0:Q1->List (Q4)->List Nat->Int->Int->Q3->Q1->Q3->Q4->Q1->Q1->Int->Int->Int->Int->Q3->Q1->Q3->Q4->Q1->Q1->Option ((Q4)×Unit))(k:Nat)(bl:Q1)(aj:List (Q4))(bf:Int)(bm:Nat)(aJ:List Nat)(aO:Int)(aP:Int)(aB:Q3)(aC:Q1)(aW:Q3)(bS:Q4)(bU:Q1)(bu:Q1)(aX:Int)(aY:Int)(aZ:Int)(b4:Int)(bp:Q3)(bq:Q1)(bN:Q3)(cw:Q4)(cx:Q1)(bV:Q1):Option ((Q4)×Unit):=
  iter (λ r y=>yKA n r0 (λ bl aj bf bm aJ aO aP aB aC aW bS bU bu aX aY aZ b4 bp bq bN cw cx bV=>r ((bl,(aj,(bf,(bm,(aJ,(aO,(aP,()))))))),(((aB,(aC,(aW,(bS,(bU,((bu,()),())))))),((aX,(aY,())),((aZ,(b4,())),()))),(bp,(bq,(bN,(cw,(cx,((bV,()),()))))))))) y.1.1 y.1.2.1 y.1.2.2.1 y.1.2.2.2.1 y.1.2.2.2.2.1 y.1.2.2.2.2.2.1 y.1.2.2.2.2.2.2.1 y.2.1.1.1 y.2.1.1.2.1 y.2.1.1.2.2.1 y.2.1.1.2.2.2.1 y.2.1.1.2.2.2.2.1 y.2.1.1.2.2.2.2.2.1.1 y.2.1.2.1.1 y.2.1.2.1.2.1 y.2.1.2.2.1.1 y.2.1.2.2.1.2.1 y.2.2.1 y.2.2.2.1 y.2.2.2.2.1 y.2.2.2.2.2.1 y.2.2.2.2.2.2.1 y.2.2.2.2.2.2.2.1.1) k ((bl,(aj,(bf,(bm,(aJ,(aO,(aP,()))))))),(((aB,(aC,(aW,(bS,(bU,((bu,()),())))))),((aX,(aY,())),((aZ,(b4,())),()))),(bp,(bq,(bN,(cw,(cx,((bV,()),()))))))))
def yKw(n:Nat)(r0:Q1->List (Q4)->List Nat->Int->Int->Q3->Q1->Q3->Q4->Q1->Q1->Int->Int->Int->Int->Q3->Q1->Q3->Q4->Q1->Q1->Option ((Q4)×Unit))(aT:Q1)(aG:List (Q4))(ai:List Nat)(aa:Int)(ar:Int)(aQ:Q3)(aR:Q1)(bt:Q3)(cj:Q4)(ck:Q1)(bH:Q1)(ah:Int)(ac:Int)(bc:Int)(bd:Int)(bC:Q3)(bD:Q1)(ci:Q3)(cC:Q4)(cD:Q1)(cl:Q1):Option ((Q4)×Unit):=
  (bif decide (ar < aa)then ((idx ai ar).bind λ v1=>(yKH n r0 n (aT) (aG) (ar) (v1) (ai) (aa) (ar) (aQ) (aR) (bt) (cj) (ck) (bH) (ah) (ac) (bc) (bd) (bC) (bD) (ci) (cC) (cD) (cl)))else some ((bc,bd,()),()))
def yKW(n:Nat)(k:Nat)(aT:Q1)(aG:List (Q4))(ai:List Nat)(aa:Int)(ar:Int)(aQ:Q3)(aR:Q1)(bt:Q3)(cj:Q4)(ck:Q1)(bH:Q1)(ah:Int)(ac:Int)(bc:Int)(bd:Int)(bC:Q3)(bD:Q1)(ci:Q3)(cC:Q4)(cD:Q1)(cl:Q1):Option ((Q4)×Unit):=
  iter (λ r y=>yKw n (λ aT aG ai aa ar aQ aR bt cj ck bH ah ac bc bd bC bD ci cC cD cl=>r ((aT,(aG,(ai,(aa,(ar,()))))),(((aQ,(aR,(bt,(cj,(ck,((bH,()),())))))),((ah,(ac,())),((bc,(bd,())),()))),(bC,(bD,(ci,(cC,(cD,((cl,()),()))))))))) y.1.1 y.1.2.1 y.1.2.2.1 y.1.2.2.2.1 y.1.2.2.2.2.1 y.2.1.1.1 y.2.1.1.2.1 y.2.1.1.2.2.1 y.2.1.1.2.2.2.1 y.2.1.1.2.2.2.2.1 y.2.1.1.2.2.2.2.2.1.1 y.2.1.2.1.1 y.2.1.2.1.2.1 y.2.1.2.2.1.1 y.2.1.2.2.1.2.1 y.2.2.1 y.2.2.2.1 y.2.2.2.2.1 y.2.2.2.2.2.1 y.2.2.2.2.2.2.1 y.2.2.2.2.2.2.2.1.1) k ((aT,(aG,(ai,(aa,(ar,()))))),(((aQ,(aR,(bt,(cj,(ck,((bH,()),())))))),((ah,(ac,())),((bc,(bd,())),()))),(bC,(bD,(ci,(cC,(cD,((cl,()),()))))))))
def yOJ(n:Nat)(c:Q3)(p1:Q1):Option ((Q4)×Unit):=
  (yKW n n (p1) (p1.2.2.2.1) (p1.2.2.1) ((↑p1.2.2.1.length:Int)) ((0:Int)) (c) (p1) (c) (((0:Int),(0:Int),())) (p1) (p1) ((0:Int)) ((0:Int)) ((0:Int)) ((0:Int)) (c) (p1) (c) (((0:Int),(0:Int),())) (p1) (p1))
def yOi(c:Q3)(p1:Q1):Option ((Q4)×Unit):=yOJ 1000 c p1
abbrev z0M_e:Entry:={ f:=95,args:=.pair t34 (.pair (.ref t43) .unit),rS:=.pair t36 .unit,m:=λ x=>yOi x.1 x.2.1 }
theorem yNt:FnOK Tryz.prog z0M_e:=fFI 1000 Tryz.f95 (λ n x=>yOJ n x.1 x.2.1) [] [il53,il107] 3 (y7 yMW (y7 yNC (y7 yJD (y7 yEP eNil)))) (y3p y8D (y3p y6B iNil))
abbrev zT_a:Ty:=.pair t111 (.pair t3 (.pair t3 .unit))
abbrev zT_r:Ty:=.pair t36 .unit
class tide_matrix_expand_Rec where
  f:zT_a.den->Option zT_r.den
section
variable [tide_matrix_expand_Rec]
def y4J:Entry:={ f:=106,args:=zT_a,rS:=zT_r,m:=λ x=>tide_matrix_expand_Rec.f x }
def zT_g:G:={ T:=T,E:=[y4J,z0z_e,z0c_e,z15_e],mU:=[],fz:=[] }
def zT_k:List (List Nat):=[[0,1,2,6,7,8,18,19]]
def yOt(n:Nat):Ann:={ keep:=zT_k,fuel:=n,inl:=[],deep:=0 }
def yIo(n:Nat)(r0:List (List (Q4))->Int->Int->Int->Int->Int->Int->Int->Int->Int->Option ((Q4)×Unit))(bg:List (List (Q4)))(aL:Int)(aD:Int)(aE:Int)(bh:Int)(b8:Int)(ay:Int)(az:Int)(ah:Int)(ac:Int):Option ((Q4)×Unit):=
  (bif decide (b8 < bh)then (bif decide (b8 < 0)then none else (bif y6E i64 BinOp.and (aD.fdiv ((2:Int) ^ Min.min b8.toNat i64.bits)) (1:Int)==1 then r0 bg aL aD aE bh (i64.wrap (b8+1)) ay az ah ac else ((idx bg aL).bind λ v1=>((idx v1 b8).bind λ v2=>(bif decide (b8 < 0)then none else ((tide_matrix_expand_Rec.f (bg,i64.wrap (aL+1),y6E i64 BinOp.or aD (i64.wrap ((1:Int) * 2 ^ Min.min b8.toNat i64.bits)),())).bind λ v3=>r0 bg aL aD (i64.wrap ((0:Int) - aE)) bh (i64.wrap (b8+1)) ay az (z15 (ah,ac,()) (z0c (z0z v2 v3.1).1 aE).1).1.1 (z15 (ah,ac,()) (z0c (z0z v2 v3.1).1 aE).1).1.2.1))))))else some ((ah,ac,()),()))
def yAA(n:Nat)(k:Nat)(bg:List (List (Q4)))(aL:Int)(aD:Int)(aE:Int)(bh:Int)(b8:Int)(ay:Int)(az:Int)(ah:Int)(ac:Int):Option ((Q4)×Unit):=
  iter (λ r y=>yIo n (λ bg aL aD aE bh b8 ay az ah ac=>r ((bg,(aL,(aD,(aE,(bh,(b8,())))))),(((ay,(az,())),((ah,(ac,())),())),()))) y.1.1 y.1.2.1 y.1.2.2.1 y.1.2.2.2.1 y.1.2.2.2.2.1 y.1.2.2.2.2.2.1 y.2.1.1.1 y.2.1.1.2.1 y.2.1.2.1.1 y.2.1.2.1.2.1) k ((bg,(aL,(aD,(aE,(bh,(b8,())))))),(((ay,(az,())),((ah,(ac,())),())),()))
def zT_m(n:Nat)(m:List (List (Q4)))(row:Int)(used:Int):Option ((Q4)×Unit):=
  (bif row==(↑m.length:Int)then some (((1:Int),(0:Int),()),())else (yAA n n (m) (row) (used) ((1:Int)) ((↑m.length:Int)) ((0:Int)) ((0:Int)) ((0:Int)) ((0:Int)) ((0:Int))))
theorem yRN(n:Nat)(x:zT_a.den):runF zT_g (yOt n) Tryz.f106 zT_a zT_r x=zT_m n x.1 x.2.1 x.2.2.1:=by kernel_rfl
def yPT(bg:List (List (Q4)))(aL:Int)(aD:Int)(bh:Int)(ay:Int)(az:Int)(b8:Int)(aE:Int)(ah:Int)(ac:Int):Option (((Q4)×Unit)⊕(Int×Int×Int)):=
  (bif decide (b8 < 0)then none else (bif y6E i64 BinOp.and (aD.fdiv ((2:Int) ^ Min.min b8.toNat i64.bits)) (1:Int)==1 then (some (Sum.inr ((aE),(ah),(ac))))else ((idx bg aL).bind λ v1=>((idx v1 b8).bind λ v2=>(bif decide (b8 < 0)then none else ((tide_matrix_expand_Rec.f (bg,i64.wrap (aL+1),y6E i64 BinOp.or aD (i64.wrap ((1:Int) * 2 ^ Min.min b8.toNat i64.bits)),())).bind λ v3=>(some (Sum.inr ((i64.wrap ((0:Int) - aE)),((z15 (ah,ac,()) (z0c (z0z v2 v3.1).1 aE).1).1.1),((z15 (ah,ac,()) (z0c (z0z v2 v3.1).1 aE).1).1.2.1))))))))))
def yP6(bg:List (List (Q4)))(aL:Int)(aD:Int)(bh:Int)(ay:Int)(az:Int)(aE:Int)(ah:Int)(ac:Int):Option ((Q4)×Unit):=
  (some (((ah,ac,()),())))
theorem yFY(n:Nat)(hn:big<=n)(bg:List (List (Q4)))(aL:Int)(aD:Int)(bh:Int)(ay:Int)(az:Int)(aE:Int)(ah:Int)(ac:Int)(hx:(bh)<=9223372036854775807):LeF some (y2D (λ al af=>yPT bg aL aD bh ay az al af.1 af.2.1 af.2.2) (λ af=>yP6 bg aL aD bh ay az af.1 af.2.1 af.2.2) ((bh) - 0).toNat 0 (aE,ah,ac)) (yAA n n bg aL aD aE bh 0 ay az ah ac):=by
  refine y4n (f:=some) (W:=λ aH al af=>yAA n aH bg aL aD af.1 bh al ay az af.2.1 af.2.2) (λ aH al af=>?_) hx (aE,ah,ac) n 0 (by decide) (by unfold big at hn;omega)
  show LeF _ _ (yIo n (yAA n aH) bg aL aD af.1 bh al ay az af.2.1 af.2.2)
  exact y5 (y5 yK (y5 (y8 rfl) (yC λ v1=>(yC λ v2=>(y5 yK (yC λ v3=>(y8 rfl))))))) (y16 (y8 rfl))
def zT_M(m:List (List (Q4)))(row:Int)(used:Int):Option ((Q4)×Unit):=
  (bif row==(↑m.length:Int)then (some ((((1:Int),(0:Int),()),())))else (bif decide (((↑m.length:Int))<=9223372036854775807)then y2D (λ al af=>yPT (m) (row) (used) ((↑m.length:Int)) ((0:Int)) ((0:Int)) al af.1 af.2.1 af.2.2) (λ af=>yP6 (m) (row) (used) ((↑m.length:Int)) ((0:Int)) ((0:Int)) af.1 af.2.1 af.2.2) (((↑m.length:Int)) - 0).toNat 0 (((1:Int)),((0:Int)),((0:Int)))else none))
theorem yP3(m:List (List (Q4)))(row:Int)(used:Int)(y:(Q4)×Unit)(h:zT_M m row used=some y):∃ n,zT_m n m row used=some y:=
  ⟨big,LeF.top (show LeF some (zT_M m row used) (zT_m big m row used)from (λ (n:Nat) (hn:big<=n)=>show LeF some (zT_M m row used) (zT_m n m row used)from (y5 (y8 rfl) (yd λ hx=>by apply yFY n hn;exact hx))) big (Nat.le_refl _)) h⟩
end
def yx(d:Nat):zT_a.den->Option zT_r.den:=Nat.rec (motive:=λ _=>zT_a.den->Option zT_r.den) (λ _=>none) (λ _ ih x=>@zT_M ⟨ih⟩ x.1 x.2.1 x.2.2.1) d
def y0i(d:Nat):Entry:={ f:=106,args:=zT_a,rS:=zT_r,m:=yx d }
theorem y1k:(d:Nat)->FnOK Tryz.prog (y0i d)
  |0=>FnOK.none (fn:=Tryz.f106) (by kernel_rfl) (by kernel_rfl) (by kernel_rfl)
  |d+1=>yDe (g:=@zT_g ⟨yx d⟩) (fn:=Tryz.f106) (e:=y0i (d+1)) y5r yC6 (y7 (y1k d) (y7 yEX (y7 yJD (y7 yEP eNil)))) (by kernel_rfl) (by kernel_rfl) (by kernel_rfl) (λ x y h=>let ⟨n,hn⟩:=@yP3 ⟨yx d⟩ x.1 x.2.1 x.2.2.1 y h;⟨yOt n,iNil,(@yRN ⟨yx d⟩ n x).trans hn⟩)
def zT_e:Entry:=y0i 8
theorem yRC:FnOK Tryz.prog zT_e:=y1k 8
def zX_m(n:Nat)(xp:Nat):Option (Int×Unit):=
  (bif y1K BinOp.neq FloatKind.f32 (y2C BinOp.sub FloatKind.f32 xp xp) (nat_lit 0)then some ((1:Int),())else (bif y1K BinOp.lss FloatKind.f32 xp (nat_lit 3263168512)then some ((3:Int),())else (bif y1K BinOp.gtr FloatKind.f32 xp (nat_lit 1115684864)then some ((3:Int),())else ((zZ_M xp).bind λ v2=>some ((z0f (y1K BinOp.neq FloatKind.f32 (y1g FloatKind.f32 v2.1) (y2C BinOp.mul FloatKind.f32 xp (nat_lit 1098907648))) (3:Int)).1,())))))
def zX_M(xp:Nat):Option (Int×Unit):=zX_m 0 xp
abbrev zX_e:Entry:={ f:=122,args:=.pair t44 .unit,rS:=.pair t38 .unit,m:=λ x=>zX_M x.1 }
theorem yPy:FnOK Tryz.prog zX_e:=fF 0 Tryz.f122 (λ n x=>zX_m n x.1) [] (y7 yQa (y7 yBa eNil))
def yMy(n:Nat)(np:Int)(least:Int)(most:Int):Option (Int×Unit):=
  (bif decide (np < least)then some ((z0f Bool.true (3:Int)).1,())else some ((z0f (decide (np > most)) (3:Int)).1,()))
def z09(np:Int)(least:Int)(most:Int):(Int×Unit):=
  (bif decide (np < least)then ((z0f Bool.true (3:Int)).1,())else ((z0f (decide (np > most)) (3:Int)).1,()))
abbrev yR0 (np:Int) (least:Int) (most:Int):Option (Int×Unit):=some (z09 np least most)
abbrev z09_e:Entry:={ f:=127,args:=.pair t3 (.pair t3 (.pair t3 .unit)),rS:=.pair t38 .unit,m:=λ x=>yR0 x.1 x.2.1 x.2.2.1 }
theorem yNy:FnOK Tryz.prog z09_e:=fF (hm:=by intro x;show some (z09 x.1 x.2.1 x.2.2.1)=yMy 0 x.1 x.2.1 x.2.2.1;unfold yMy z09;first|rfl|simp only[yr]) 0 Tryz.f127 (λ n x=>yMy n x.1 x.2.1 x.2.2.1) [] (y7 yBa eNil)
def zB_m(n:Nat)(s:List (Q4))(f:(Q4)×Unit->Option (Bool×Unit)):Option (Bool×Unit):=
  ((zD_M s f).bind λ v0=>some (decide (v0.1 >= 0),()))
def zB_M(s:List (Q4))(f:(Q4)×Unit->Option (Bool×Unit)):Option (Bool×Unit):=zB_m 0 s f
abbrev zB_e:Entry:={ f:=130,args:=.pair t41 (.pair t195 .unit),rS:=.pair t4 .unit,m:=λ x=>zB_M x.1 x.2.1 }
theorem yR4:FnOK Tryz.prog zB_e:=fF 0 Tryz.f130 (λ n x=>zB_m n x.1 x.2.1) [] (y7 yQP eNil)
def zC_m(n:Nat)(s:List Nat)(f:Nat×Unit->Option (Bool×Unit)):Option (Bool×Unit):=
  ((zE_M s f).bind λ v0=>some (decide (v0.1 >= 0),()))
def zC_M(s:List Nat)(f:Nat×Unit->Option (Bool×Unit)):Option (Bool×Unit):=zC_m 0 s f
abbrev zC_e:Entry:={ f:=133,args:=.pair t37 (.pair t197 .unit),rS:=.pair t4 .unit,m:=λ x=>zC_M x.1 x.2.1 }
theorem yQY:FnOK Tryz.prog zC_e:=fF 0 Tryz.f133 (λ n x=>zC_m n x.1 x.2.1) [] (y7 yR3 eNil)
def zf_m(n:Nat)(s:Q4):Option (Int×Unit):=
  (bif decide (s.1 < 0)then some ((z0f Bool.true (14:Int)).1,())else (bif decide (s.1 >= s.2.1)then some ((z0f Bool.true (14:Int)).1,())else some ((z0f (decide (s.2.1 > 100000)) (14:Int)).1,())))
def zf(s:Q4):(Int×Unit):=
  (bif decide (s.1 < 0)then ((z0f Bool.true (14:Int)).1,())else (bif decide (s.1 >= s.2.1)then ((z0f Bool.true (14:Int)).1,())else ((z0f (decide (s.2.1 > 100000)) (14:Int)).1,())))
abbrev zf_M (s:Q4):Option (Int×Unit):=some (zf s)
abbrev zf_e:Entry:={ f:=145,args:=.pair t46 .unit,rS:=.pair t38 .unit,m:=λ x=>zf_M x.1 }
theorem yRS:FnOK Tryz.prog zf_e:=fF (hm:=by intro x;show some (zf x.1)=zf_m 0 x.1;unfold zf_m zf;first|rfl|simp only[yr]) 0 Tryz.f145 (λ n x=>zf_m n x.1) [] (y7 yBa eNil)
end
end Go.Tw
end
