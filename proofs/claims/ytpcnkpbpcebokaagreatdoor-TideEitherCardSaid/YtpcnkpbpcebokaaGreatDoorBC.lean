import Derived.Test.YtpcnkpbpcebokaaGreatDoorBT
import Derived.Test.YtpcnkpbpcebokaaGreatDoorB0
import Derived.Test.YtpcnkpbpcebokaaGreatDoorBS
import Derived.Test.YtpcnkpbpcebokaaGreatDoorLQ
import Derived.Test.YtpcnkpbpcebokaaGreatDoorBA
import Derived.Test.YtpcnkpbpcebokaaGreatDoorLR
set_option linter.all false
open Go.IntKind (i64)
section
set_option maxRecDepth 1000000
namespace Go.Tw
open Go.Vx Go.Vx.B Go.Proofs
noncomputable section
def yIO(n:Nat)(r0:List (Q3)->Int->Option (Int×Unit))(r6:List (Q3)->Int->Int->Option (Int×Unit))(au:List (Q3))(aq:Int)(aJ:Int):Option (Int×Unit):=
  (bif decide (aJ < aq)then ((idx au aJ).bind λ v7=>((idx au aq).bind λ v8=>(bif v7.1==v8.1 then some ((9:Int),())else r6 au aq (i64.wrap (aJ+1)))))else r0 au (i64.wrap (aq+1)))
def yAo(n:Nat)(r0:List (Q3)->Int->Option (Int×Unit))(k:Nat)(au:List (Q3))(aq:Int)(aJ:Int):Option (Int×Unit):=
  iter (λ r y=>yIO n r0 (λ au aq aJ=>r ((au,(aq,(aJ,()))),((),()))) y.1.1 y.1.2.1 y.1.2.2.1) k ((au,(aq,(aJ,()))),((),()))
def yJN(n:Nat)(r0:List (Q3)->Int->Option (Int×Unit))(a8:List (Q3))(ay:Int):Option (Int×Unit):=
  (bif decide (ay < (↑a8.length:Int))then ((idx a8 ay).bind λ v1=>((zp_M v1.1).bind λ v2=>((idx a8 ay).bind λ v3=>((idx a8 ay).bind λ v4=>((yBr [v2.1,(zg v3.2.1 (1:Int) (96:Int)).1,(zg v4.2.2.1 (0:Int) (3:Int)).1]).bind λ v5=>(bif v5.1 != 0 then some (v5.1,())else (yAo n r0 n (a8) (ay) ((0:Int)))))))))else some ((0:Int),()))
def yBL(n:Nat)(k:Nat)(a8:List (Q3))(ay:Int):Option (Int×Unit):=
  iter (λ r y=>yJN n (λ a8 ay=>r ((a8,(ay,())),((),()))) y.1.1 y.1.2.1) k ((a8,(ay,())),((),()))
def zL_m(n:Nat)(l:List (Q3)):Option (Int×Unit):=
  (bif (↑l.length:Int)==0 then some ((12:Int),())else (bif decide ((↑l.length:Int) > 4)then some ((5:Int),())else (yBL n n (l) ((0:Int)))))
def yHS(au:List (Q3))(aq:Int)(aJ:Int):Option (((Int×Unit)⊕Unit)⊕Unit):=
  ((idx au aJ).bind λ v7=>((idx au aq).bind λ v8=>(bif v7.1==v8.1 then (some (Sum.inl (Sum.inl (((9:Int),())))))else (some (Sum.inr ())))))
def yMs(au:List (Q3))(aq:Int):Option ((Int×Unit)⊕Unit):=
  (some (Sum.inr ()))
theorem yHK(n:Nat)(hn:big<=n)(r0:List (Q3)->Int->Option (Int×Unit))(au:List (Q3))(aq:Int)(hx:(aq)<=9223372036854775807):LeF (elim some λ (ae:Unit)=>r0 au (i64.wrap (aq+1))) (y0b (λ ak ae=>yHS au aq ak) (λ ae=>yMs au aq) ((aq) - 0).toNat 0 ()) (yAo n r0 n au aq 0):=by
  refine y1y (f:=(elim some λ (ae:Unit)=>r0 au (i64.wrap (aq+1)))) (W:=λ aB ak ae=>yAo n r0 aB au aq ak) (body:=(λ ak ae=>yHS au aq ak)) (fin:=(λ ae=>yMs au aq)) (λ aB ak ae=>?_) hx () n 0 (by decide) (by unfold big at hn;omega)
  show LeF _ _ (yIO n r0 (yAo n r0 aB) au aq ak)
  exact y3 (y7 λ v7=>(y7 λ v8=>(y3 (y5 rfl) (y5 rfl)))) (ym (y5 rfl))
def yIF(a8:List (Q3))(ay:Int)(v1:Q3):Option ((Int×Unit)⊕Unit):=
  ((zp_M v1.1).bind λ v2=>((idx a8 ay).bind λ v3=>((idx a8 ay).bind λ v4=>((yBr [v2.1,(zg v3.2.1 (1:Int) (96:Int)).1,(zg v4.2.2.1 (0:Int) (3:Int)).1]).bind λ v5=>(bif v5.1 != 0 then (some (Sum.inl ((v5.1,()))))else (bif decide ((ay)<=9223372036854775807)then y0b (λ ak ae=>yHS (a8) (ay) ak) (λ ae=>yMs (a8) (ay)) ((ay) - 0).toNat 0 ()else none))))))
def yOR(a8:List (Q3)):Option (Int×Unit):=
  (some (((0:Int),())))
theorem yHf(n:Nat)(hn:big<=n)(a8:List (Q3))(hx:List.length (a8) < lenMax):LeF some (yJ (λ ak aK ae=>yIF a8 ak aK) (λ ae=>yOR a8) 0 (a8) ()) (yBL n n a8 0):=by
  refine yK (f:=some) (W:=λ aB ak ae=>yBL n aB a8 ak) (λ aB ak ae=>?_) hx () n (by unfold big at hn;unfold lenMax at hx;omega)
  show LeF _ _ (yJN n (yBL n aB) a8 ak)
  exact y3 (y7 λ v1=>(y7 λ v2=>(y7 λ v3=>(y7 λ v4=>(y7 λ v5=>(y3 (y5 rfl) (yL λ hx=>by apply yHK n hn;exact hx))))))) (ym (y5 rfl))
def zL_M(l:List (Q3)):Option (Int×Unit):=
  (bif (↑l.length:Int)==0 then (some (((12:Int),())))else (bif decide ((↑l.length:Int) > 4)then (some (((5:Int),())))else (bif decide (List.length (l) < lenMax)then yJ (λ ak aK ae=>yIF (l) ak aK) (λ ae=>yOR (l)) 0 (l) ()else none)))
abbrev zL_e:Entry:={ f:=32,args:=.pair t22 .unit,rS:=.pair t3 .unit,m:=λ x=>zL_M x.1 }
theorem ySq:FnOK Tryz.prog zL_e:=fB Tryz.f32 (λ n x=>zL_m n x.1) [[0,3],[0,3,5]] (yB yQe (yB yRt (yB yLG eNil))) λ n hn x=>(y3 (y5 rfl) (y3 (y5 rfl) (yL λ hx=>by apply yHf n hn;exact hx)))
def yGP(n:Nat)(r0:Q1->Int->List Int->Option (List Int×Unit))(av:Q1)(aD:Int)(ax:List Int):Option (List Int×Unit):=
  (bif decide (aD < (↑av.2.2.1.length:Int))then ((zw_M av aD).bind λ v1=>(bif v1.1 then (bif decide (ax.length+(1:Nat)<=memMax)then r0 av (i64.wrap (aD+1)) (ax++[i64.wrap (av.2.1+aD)])else none)else r0 av (i64.wrap (aD+1)) ax))else some (ax,()))
def y6x(n:Nat)(k:Nat)(av:Q1)(aD:Int)(ax:List Int):Option (List Int×Unit):=
  iter (λ r y=>yGP n (λ av aD ax=>r ((av,(aD,())),((ax,()),()))) y.1.1 y.1.2.1 y.2.1.1) k ((av,(aD,())),((ax,()),()))
def yTS(n:Nat)(rp:Q1):Option (List Int×Unit):=
  (y6x n n (rp) ((0:Int)) ([]))
def yFQ(av:Q1)(aD:Int)(ax:List Int):Option ((List Int×Unit)⊕(List Int)):=
  ((zw_M av aD).bind λ v1=>(bif v1.1 then (bif decide (ax.length+(1:Nat)<=memMax)then (some (Sum.inr (ax++[i64.wrap (av.2.1+aD)])))else none)else (some (Sum.inr (ax)))))
def yCi(av:Q1)(ax:List Int):Option (List Int×Unit):=
  (some ((ax,())))
theorem yEU(n:Nat)(hn:big<=n)(av:Q1)(ax:List Int)(hx:((↑av.2.2.1.length:Int))<=9223372036854775807):LeF some (y0b (λ ak ae=>yFQ av ak ae) (λ ae=>yCi av ae) (((↑av.2.2.1.length:Int)) - 0).toNat 0 ax) (y6x n n av 0 ax):=by
  refine y1y (f:=some) (W:=λ aB ak ae=>y6x n aB av ak ae) (λ aB ak ae=>?_) hx ax n 0 (by decide) (by unfold big at hn;omega)
  show LeF _ _ (yGP n (y6x n aB) av ak ae)
  exact y3 (y7 λ v1=>(y3 (y3 (y5 rfl) yw) (y5 rfl))) (ym (y5 rfl))
def yKu(rp:Q1):Option (List Int×Unit):=
  (bif decide (((↑rp.2.2.1.length:Int))<=9223372036854775807)then y0b (λ ak ae=>yFQ (rp) ak ae) (λ ae=>yCi (rp) ae) (((↑rp.2.2.1.length:Int)) - 0).toNat 0 ([])else none)
abbrev z0X_e:Entry:={ f:=77,args:=.pair t94 .unit,rS:=.pair t41 .unit,m:=λ x=>yKu x.1 }
theorem yNy:FnOK Tryz.prog z0X_e:=fB (mu:=[3]) Tryz.f77 (λ n x=>yTS n x.1) [[1,3,4]] (yB ySi eNil) λ n hn x=>(yL λ hx=>by apply yEU n hn;exact hx)
def yPA(n:Nat)(a:List (Q4))(b:List (Q4)):Option (List (Q4)×Unit):=
  ((yMJ a b [(1:Int),(2:Int),(3:Int)]).bind λ v0=>some (v0.1,()))
def yLe(a:List (Q4))(b:List (Q4)):Option (List (Q4)×Unit):=yPA 0 a b
abbrev z0p_e:Entry:={ f:=93,args:=.pair t58 (.pair t58 .unit),rS:=.pair t58 .unit,m:=λ x=>yLe x.1 x.2.1 }
theorem yQr:FnOK Tryz.prog z0p_e:=fF 0 Tryz.f93 (λ n x=>yPA n x.1 x.2.1) [] (yB yS5 eNil)
def yR0(n:Nat)(p0:Int)(np:Int):Option (Int×Unit):=
  ((y2I [(z0h p0 (0:Int) (100000:Int)).1,(z0h np (0:Int) (4096:Int)).1]).bind λ v0=>(bif v0.1 != 0 then some (v0.1,())else some ((z0h (i64.wrap (p0+np)) (0:Int) (100000:Int)).1,())))
def yPE(p0:Int)(np:Int):Option (Int×Unit):=yR0 0 p0 np
abbrev z02_e:Entry:={ f:=105,args:=.pair t3 (.pair t3 .unit),rS:=.pair t28 .unit,m:=λ x=>yPE x.1 x.2.1 }
theorem yQa:FnOK Tryz.prog z02_e:=fF 0 Tryz.f105 (λ n x=>yR0 n x.1 x.2.1) [] (yB yBy (yB y46 eNil))
def yQf(n:Nat)(t:Q2)(tick:Int):Option ((Q4)×Unit):=
  ((yBo t.1 t.2.1 tick).bind λ v0=>some ((v0.1.1,v0.1.2.1,()),()))
def yL3(t:Q2)(tick:Int):Option ((Q4)×Unit):=yQf 0 t tick
abbrev z0N_e:Entry:={ f:=106,args:=.pair t33 (.pair t3 .unit),rS:=.pair t57 .unit,m:=λ x=>yL3 x.1 x.2.1 }
theorem yNF:FnOK Tryz.prog z0N_e:=fF 0 Tryz.f106 (λ n x=>yQf n x.1 x.2.1) [] (yB yNe eNil)
def yOE(n:Nat)(z:Q4):Option (Int×Unit):=
  ((y2I [(z0h z.1 (-8796093022208:Int) (8796093022208:Int)).1,(z0h z.2.1 (-8796093022208:Int) (8796093022208:Int)).1]).bind λ v0=>some (v0.1,()))
def yCx(z:Q4):Option (Int×Unit):=yOE 0 z
abbrev z01_e:Entry:={ f:=116,args:=.pair t57 .unit,rS:=.pair t28 .unit,m:=λ x=>yCx x.1 }
theorem yND:FnOK Tryz.prog z01_e:=fF 0 Tryz.f116 (λ n x=>yOE n x.1) [] (yB yBy (yB y46 eNil))
def yFu(n:Nat)(r0:Int->List (Q4)->Int->Int->Option (Int×Unit))(af:Int)(am:List (Q4))(az:Int)(ah:Int):Option (Int×Unit):=
  (bif decide (ah < az)then ((idx am ah).bind λ v1=>((yMp af [v1.1,v1.2.1]).bind λ v2=>r0 v2.1 am az (i64.wrap (ah+1))))else some (af,()))
def y75(n:Nat)(k:Nat)(af:Int)(am:List (Q4))(az:Int)(ah:Int):Option (Int×Unit):=
  iter (λ r y=>yFu n (λ af am az ah=>r ((af,(am,(az,(ah,())))),((),()))) y.1.1 y.1.2.1 y.1.2.2.1 y.1.2.2.2.1) k ((af,(am,(az,(ah,())))),((),()))
def yTP(n:Nat)(l:List (Q4))(den:Int):Option (Int×Unit):=
  (y75 n n (den) (l) ((↑l.length:Int)) ((0:Int)))
def yNq(am:List (Q4))(ah:Int)(v1:Q4)(af:Int):Option ((Int×Unit)⊕(Int)):=
  ((yMp af [v1.1,v1.2.1]).bind λ v2=>(some (Sum.inr (v2.1))))
def yNY(am:List (Q4))(af:Int):Option (Int×Unit):=
  (some ((af,())))
theorem yEo(n:Nat)(hn:big<=n)(am:List (Q4))(af:Int)(hx:List.length (am) < lenMax):LeF some (yJ (λ ak aK ae=>yNq am ak aK ae) (λ ae=>yNY am ae) 0 (am) af) (y75 n n af am (List.length (am):Int) 0):=by
  refine yK (f:=some) (W:=λ aB ak ae=>y75 n aB ae am (List.length (am):Int) ak) (λ aB ak ae=>?_) hx af n (by unfold big at hn;unfold lenMax at hx;omega)
  show LeF _ _ (yFu n (y75 n aB) ae am (List.length (am):Int) ak)
  exact y3 (y7 λ v1=>(y7 λ v2=>(y5 rfl))) (ym (y5 rfl))
def yOO(l:List (Q4))(den:Int):Option (Int×Unit):=
  (bif decide (List.length (l) < lenMax)then yJ (λ ak aK ae=>yNq (l) ak aK ae) (λ ae=>yNY (l) ae) 0 (l) (den)else none)
abbrev z0d_e:Entry:={ f:=117,args:=.pair t23 (.pair t3 .unit),rS:=.pair t3 .unit,m:=λ x=>yOO x.1 x.2.1 }
theorem yNl:FnOK Tryz.prog z0d_e:=fB Tryz.f117 (λ n x=>yTP n x.1 x.2.1) [[1,7,8,9]] (yB yNR eNil) λ n hn x=>(yL λ hx=>by apply yEo n hn;exact hx)
def zM_m(n:Nat)(m:List (List (Q4))):Option ((Q4)×Unit):=
  ((yN (8:Nat) (m,(0:Int),(0:Int),())).bind λ v0=>some ((v0.1.1,v0.1.2.1,()),()))
def zM_M(m:List (List (Q4))):Option ((Q4)×Unit):=zM_m 0 m
abbrev zM_e:Entry:={ f:=123,args:=.pair t183 .unit,rS:=.pair t57 .unit,m:=λ x=>zM_M x.1 }
theorem yMO:FnOK Tryz.prog zM_e:=fF 0 Tryz.f123 (λ n x=>zM_m n x.1) [] (yB ySw eNil)
def yRm(n:Nat)(num:Int)(den:Int):Option ((Q4)×Unit):=
  ((yMp den [num]).bind λ v0=>(bif v0.1==0 then none else (bif v0.1==0 then none else some ((i64.wrap (num.tdiv v0.1),i64.wrap (den.tdiv v0.1),()),()))))
def yJ0(num:Int)(den:Int):Option ((Q4)×Unit):=yRm 0 num den
abbrev z0z_e:Entry:={ f:=127,args:=.pair t3 (.pair t3 .unit),rS:=.pair t69 .unit,m:=λ x=>yJ0 x.1 x.2.1 }
theorem yLE:FnOK Tryz.prog z0z_e:=fF 0 Tryz.f127 (λ n x=>yRm n x.1 x.2.1) [] (yB yNR eNil)
def yMX(n:Nat)(r2:List Nat->Nat->Int->Int->List Int->Option (List Int×Int×Unit))(aF:List Nat)(a7:Nat)(ar:Int)(aE:Int)(aH:List Int):Option (List Int×Int×Unit):=
  (bif decide (aE < (↑aF.length:Int))then ((idx aF aE).bind λ v3=>((idx aF (i64.wrap (aE - (1:Int)))).bind λ v4=>(bif yT BinOp.gtr FloatKind.f32 (y05 BinOp.mul FloatKind.f32 a7 (y05 BinOp.sub FloatKind.f32 v3 v4)) (nat_lit 0)then r2 aF a7 aE (i64.wrap (aE+1)) aH else (bif yT BinOp.lss FloatKind.f32 (y05 BinOp.mul FloatKind.f32 a7 (y05 BinOp.sub FloatKind.f32 v3 v4)) (nat_lit 0)then (bif decide (ar >= 0)then (bif decide (aH.length+(1:Nat)<=memMax)then r2 aF a7 (-1:Int) (i64.wrap (aE+1)) (aH++[ar])else none)else r2 aF a7 (-1:Int) (i64.wrap (aE+1)) aH)else r2 aF a7 ar (i64.wrap (aE+1)) aH))))else some (aH,(0:Int),()))
def yM2(n:Nat)(k:Nat)(aF:List Nat)(a7:Nat)(ar:Int)(aE:Int)(aH:List Int):Option (List Int×Int×Unit):=
  iter (λ r y=>yMX n (λ aF a7 ar aE aH=>r ((aF,(a7,(ar,(aE,())))),((aH,()),()))) y.1.1 y.1.2.1 y.1.2.2.1 y.1.2.2.2.1 y.2.1.1) k ((aF,(a7,(ar,(aE,())))),((aH,()),()))
def yQ5(n:Nat)(l:List Nat)(direction:Nat):Option (List Int×Int×Unit):=
  (bif decide ((↑l.length:Int) > 4096)then some ([],(5:Int),())else ((zK_M l λ (x:Nat×Unit)=>zb_M x.1).bind λ v0=>((y2I v0.1).bind λ v1=>(bif v1.1 != 0 then some ([],v1.1,())else (yM2 n n (l) (direction) ((-1:Int)) ((1:Int)) ([]))))))
def yP5(l:List Nat)(direction:Nat):Option (List Int×Int×Unit):=yQ5 1000 l direction
abbrev z0g_e:Entry:={ f:=154,args:=.pair t35 (.pair t61 .unit),rS:=.pair t41 (.pair t28 .unit),m:=λ x=>yP5 x.1 x.2.1 }
theorem yO5:FnOK Tryz.prog z0g_e:=fF (mu:=[7]) 1000 Tryz.f154 (λ n x=>yQ5 n x.1 x.2.1) [[0,1,7,8,9]] (yB yTX (yB yQ6 (yB y46 eNil)))
def zO_m(n:Nat)(c:Q3):Option (Int×Unit):=
  ((yLH c.1).bind λ v0=>((y2I [(z1B (!v0.1) (8:Int)).1,(z0h c.2.1 (1:Int) (96:Int)).1,(z0h c.2.2.1 (0:Int) (3:Int)).1]).bind λ v1=>some (v1.1,())))
def zO_M(c:Q3):Option (Int×Unit):=zO_m 0 c
abbrev zO_e:Entry:={ f:=160,args:=.pair t55 .unit,rS:=.pair t28 .unit,m:=λ x=>zO_M x.1 }
theorem yTa:FnOK Tryz.prog zO_e:=fF 0 Tryz.f160 (λ n x=>zO_m n x.1) [] (yB yNw (yB y59 (yB yBy (yB y46 eNil))))
def yPr(n:Nat)(c:Q3)(p1:Q1)(p2:List (Q3))(p3:Int):Option ((Q4)×Unit):=
  ((idx p2 p3).bind λ v0=>((yEd p1 c v0).bind λ v1=>some ((v1.1.1,v1.1.2.1,()),())))
def yH7(c:Q3)(p1:Q1)(p2:List (Q3))(p3:Int):Option ((Q4)×Unit):=yPr 0 c p1 p2 p3
abbrev z08_e:Entry:={ f:=163,args:=.pair t55 (.pair (.ref t60) (.pair (.ref t31) (.pair (.ref t3) .unit))),rS:=.pair t57 .unit,m:=λ x=>yH7 x.1 x.2.1 x.2.2.1 x.2.2.2.1 }
theorem yRq:FnOK Tryz.prog z08_e:=fF 0 Tryz.f163 (λ n x=>yPr n x.1 x.2.1 x.2.2.1 x.2.2.2.1) [] (yB yKW eNil)
def yOr(n:Nat)(f:Nat)(sign:Int):Option (Bool×Unit):=
  (bif sign==0 then ((absM f).bind λ v0=>some (yT BinOp.gtr FloatKind.f64 v0.1 (nat_lit 9218868437227405311),()))else (bif decide (sign < 0)then some (yT BinOp.gtr FloatKind.f64 (yF8 FloatKind.f64 f) (nat_lit 9218868437227405311),())else some (yT BinOp.gtr FloatKind.f64 f (nat_lit 9218868437227405311),())))
def yML(f:Nat)(sign:Int):Option (Bool×Unit):=yOr 0 f sign
abbrev z0n_e:Entry:={ f:=172,args:=.pair t210 (.pair t3 .unit),rS:=.pair t4 .unit,m:=λ x=>yML x.1 x.2.1 }
theorem yRX:FnOK Tryz.prog z0n_e:=fF 0 Tryz.f172 (λ n x=>yOr n x.1 x.2.1) [] (yB yRE eNil)
def zv_m(n:Nat)(b:Q3)(p1:Q1)(p2:Q3):Option ((Q4)×Unit):=
  ((yEd p1 p2 b).bind λ v0=>some ((v0.1.1,v0.1.2.1,()),()))
def zv_M(b:Q3)(p1:Q1)(p2:Q3):Option ((Q4)×Unit):=zv_m 0 b p1 p2
abbrev zv_e:Entry:={ f:=193,args:=.pair t55 (.pair (.ref t60) (.pair (.ref t55) .unit)),rS:=.pair t57 .unit,m:=λ x=>zv_M x.1 x.2.1 x.2.2.1 }
theorem yTj:FnOK Tryz.prog zv_e:=fF 0 Tryz.f193 (λ n x=>zv_m n x.1 x.2.1 x.2.2.1) [] (yB yKW eNil)
def yJg(n:Nat)(r0:Int->List Nat->Int->Int->Option (Int×Unit))(aa:Int)(aw:List Nat)(am:Int)(az:Int):Option (Int×Unit):=
  (bif decide (az < am)then ((idx aw az).bind λ v1=>((zb_M v1).bind λ v2=>(bif v2.1 != 0 then some (v2.1,())else r0 v2.1 aw am (i64.wrap (az+1)))))else some (aa,()))
def yBO(n:Nat)(k:Nat)(aa:Int)(aw:List Nat)(am:Int)(az:Int):Option (Int×Unit):=
  iter (λ r y=>yJg n (λ aa aw am az=>r ((aa,(aw,(am,(az,())))),((),()))) y.1.1 y.1.2.1 y.1.2.2.1 y.1.2.2.2.1) k ((aa,(aw,(am,(az,())))),((),()))
def zX_m(n:Nat)(l:List Nat):Option (Int×Unit):=
  (yBO n n ((0:Int)) (l) ((↑l.length:Int)) ((0:Int)))
def yLa(aw:List Nat)(az:Int)(v1:Nat)(aa:Int):Option ((Int×Unit)⊕(Int)):=
  ((zb_M v1).bind λ v2=>(bif v2.1 != 0 then (some (Sum.inl ((v2.1,()))))else (some (Sum.inr (v2.1)))))
def yPw(aw:List Nat)(aa:Int):Option (Int×Unit):=
  (some ((aa,())))
theorem yH1(n:Nat)(hn:big<=n)(aw:List Nat)(aa:Int)(hx:List.length (aw) < lenMax):LeF some (yJ (λ ak aK ae=>yLa aw ak aK ae) (λ ae=>yPw aw ae) 0 (aw) aa) (yBO n n aa aw (List.length (aw):Int) 0):=by
  refine yK (f:=some) (W:=λ aB ak ae=>yBO n aB ae aw (List.length (aw):Int) ak) (λ aB ak ae=>?_) hx aa n (by unfold big at hn;unfold lenMax at hx;omega)
  show LeF _ _ (yJg n (yBO n aB) ae aw (List.length (aw):Int) ak)
  exact y3 (y7 λ v1=>(y7 λ v2=>(y3 (y5 rfl) (y5 rfl)))) (ym (y5 rfl))
def zX_M(l:List Nat):Option (Int×Unit):=
  (bif decide (List.length (l) < lenMax)then yJ (λ ak aK ae=>yLa (l) ak aK ae) (λ ae=>yPw (l) ae) 0 (l) ((0:Int))else none)
abbrev zX_e:Entry:={ f:=202,args:=.pair t35 .unit,rS:=.pair t28 .unit,m:=λ x=>zX_M x.1 }
theorem yST:FnOK Tryz.prog zX_e:=fB Tryz.f202 (λ n x=>zX_m n x.1) [[3,6,7,8]] (yB yQ6 eNil) λ n hn x=>(yL λ hx=>by apply yH1 n hn;exact hx)
def yIx(n:Nat)(r0:List (Q4)->List (Q4)->Int->Int->Option (Int×Unit))(a8:List (Q4))(ah:List (Q4))(aG:Int)(ai:Int):Option (Int×Unit):=
  (bif decide (ai < aG)then ((idx ah ai).bind λ v1=>(bif decide (ai > 0)then ((idx a8 (if Bool.true=Bool.true then if i64.wrap (ai - (1:Int)) > 0 then i64.wrap (ai - (1:Int))else (0:Int)else if i64.wrap (ai - (1:Int)) < 0 then i64.wrap (ai - (1:Int))else (0:Int))).bind λ v2=>((yB3 [(zo (v1.1,v1.2.1,())).1,(z0i (decide (v1.1<=v2.2.1)) (11:Int)).1]).bind λ v3=>(bif v3.1 != 0 then some (v3.1,())else r0 a8 ah aG (i64.wrap (ai+1)))))else ((yB3 [(zo (v1.1,v1.2.1,())).1,(z0i Bool.false (11:Int)).1]).bind λ v4=>(bif v4.1 != 0 then some (v4.1,())else r0 a8 ah aG (i64.wrap (ai+1))))))else some ((0:Int),()))
def yAe(n:Nat)(k:Nat)(a8:List (Q4))(ah:List (Q4))(aG:Int)(ai:Int):Option (Int×Unit):=
  iter (λ r y=>yIx n (λ a8 ah aG ai=>r ((a8,(ah,(aG,(ai,())))),((),()))) y.1.1 y.1.2.1 y.1.2.2.1 y.1.2.2.2.1) k ((a8,(ah,(aG,(ai,())))),((),()))
def zc_m(n:Nat)(l:List (Q4)):Option (Int×Unit):=
  (bif decide ((↑l.length:Int) > 2048)then some ((5:Int),())else (yAe n n (l) (l) ((↑l.length:Int)) ((0:Int))))
def yLl(a8:List (Q4))(ah:List (Q4))(ai:Int)(v1:Q4):Option ((Int×Unit)⊕Unit):=
  (bif decide (ai > 0)then ((idx a8 (if Bool.true=Bool.true then if i64.wrap (ai - (1:Int)) > 0 then i64.wrap (ai - (1:Int))else (0:Int)else if i64.wrap (ai - (1:Int)) < 0 then i64.wrap (ai - (1:Int))else (0:Int))).bind λ v2=>((yB3 [(zo (v1.1,v1.2.1,())).1,(z0i (decide (v1.1<=v2.2.1)) (11:Int)).1]).bind λ v3=>(bif v3.1 != 0 then (some (Sum.inl ((v3.1,()))))else (some (Sum.inr ())))))else ((yB3 [(zo (v1.1,v1.2.1,())).1,(z0i Bool.false (11:Int)).1]).bind λ v4=>(bif v4.1 != 0 then (some (Sum.inl ((v4.1,()))))else (some (Sum.inr ())))))
def yPs(a8:List (Q4))(ah:List (Q4)):Option (Int×Unit):=
  (some (((0:Int),())))
theorem yGp(n:Nat)(hn:big<=n)(a8:List (Q4))(ah:List (Q4))(hx:List.length (ah) < lenMax):LeF some (yJ (λ ak aK ae=>yLl a8 ah ak aK) (λ ae=>yPs a8 ah) 0 (ah) ()) (yAe n n a8 ah (List.length (ah):Int) 0):=by
  refine yK (f:=some) (W:=λ aB ak ae=>yAe n aB a8 ah (List.length (ah):Int) ak) (λ aB ak ae=>?_) hx () n (by unfold big at hn;unfold lenMax at hx;omega)
  show LeF _ _ (yIx n (yAe n aB) a8 ah (List.length (ah):Int) ak)
  exact y3 (y7 λ v1=>(y3 (y7 λ v2=>(y7 λ v3=>(y3 (y5 rfl) (y5 rfl)))) (y7 λ v4=>(y3 (y5 rfl) (y5 rfl))))) (ym (y5 rfl))
def zc_M(l:List (Q4)):Option (Int×Unit):=
  (bif decide ((↑l.length:Int) > 2048)then (some (((5:Int),())))else (bif decide (List.length (l) < lenMax)then yJ (λ ak aK ae=>yLl (l) (l) ak aK) (λ ae=>yPs (l) (l)) 0 (l) ()else none))
abbrev zc_e:Entry:={ f:=203,args:=.pair t58 .unit,rS:=.pair t28 .unit,m:=λ x=>zc_M x.1 }
theorem yTv:FnOK Tryz.prog zc_e:=fB Tryz.f203 (λ n x=>zc_m n x.1) [[0,9,10,11]] (yB ySV (yB yCb (yB yNc eNil))) λ n hn x=>(y3 (y5 rfl) (yL λ hx=>by apply yGp n hn;exact hx))
def zS_m(n:Nat)(s:Q4)(p1:Q1):Option (Bool×Unit):=
  (bif decide ((0:Int)<=s.1) && decide (s.1<=s.2.1) && decide (s.2.1<=(↑p1.2.2.1.length:Int))then ((zE_M (List.drop s.1.toNat (List.take s.2.1.toNat p1.2.2.1)) λ (x:Nat×Unit)=>zQ_M x.1).bind λ v0=>some (v0.1,()))else none)
def zS_M(s:Q4)(p1:Q1):Option (Bool×Unit):=zS_m 0 s p1
abbrev zS_e:Entry:={ f:=206,args:=.pair t63 (.pair (.ref t60) .unit),rS:=.pair t4 .unit,m:=λ x=>zS_M x.1 x.2.1 }
theorem yTq:FnOK Tryz.prog zS_e:=fF 0 Tryz.f206 (λ n x=>zS_m n x.1 x.2.1) [] (yB yTm (yB yTA eNil))
end
end Go.Tw
end
section
set_option maxRecDepth 1000000
namespace Go.Tw
open Go.Vx Go.Vx.B Go.Proofs
noncomputable section
def yS4(n:Nat)(l:List Nat):Option (List Int×Int×Unit):=
  ((yP5 l (nat_lit 1065353216)).bind λ v0=>some (v0.1,v0.2.1,()))
def yQC(l:List Nat):Option (List Int×Int×Unit):=yS4 0 l
abbrev z0r_e:Entry:={ f:=71,args:=.pair t35 .unit,rS:=.pair t41 (.pair t28 .unit),m:=λ x=>yQC x.1 }
theorem yRA:FnOK Tryz.prog z0r_e:=fF 0 Tryz.f71 (λ n x=>yS4 n x.1) [] (yB yO5 eNil)
def yQQ(n:Nat)(l:List Nat):Option (List Int×Int×Unit):=
  ((yP5 l (nat_lit 3212836864)).bind λ v0=>some (v0.1,v0.2.1,()))
def ySM(l:List Nat):Option (List Int×Int×Unit):=yQQ 0 l
abbrev z17_e:Entry:={ f:=72,args:=.pair t35 .unit,rS:=.pair t41 (.pair t28 .unit),m:=λ x=>ySM x.1 }
theorem yQJ:FnOK Tryz.prog z17_e:=fF 0 Tryz.f72 (λ n x=>yQQ n x.1) [] (yB yO5 eNil)
def yIf(n:Nat)(r1:List (Q3)->Int->Int->List (List UInt8×Bool)->Option (Int×Unit))(aj:List (Q3))(aI:Int)(aC:Int)(aA:List (List UInt8×Bool)):Option (Int×Unit):=
  (bif decide (aC < aI)then ((idx aj aC).bind λ v2=>((zO_M (v2.1,v2.2.1,v2.2.2.1,())).bind λ v3=>((y2I [v3.1,(z1B ((y0N Ty.str Ty.bool aA v2.1).getD Bool.false) (9:Int)).1]).bind λ v4=>(bif v4.1 != 0 then some (v4.1,())else r1 aj aI (i64.wrap (aC+1)) (y1I Ty.str Ty.bool aA v2.1 Bool.true)))))else some ((0:Int),()))
def yAl(n:Nat)(k:Nat)(aj:List (Q3))(aI:Int)(aC:Int)(aA:List (List UInt8×Bool)):Option (Int×Unit):=
  iter (λ r y=>yIf n (λ aj aI aC aA=>r ((aj,(aI,(aC,()))),((aA,()),()))) y.1.1 y.1.2.1 y.1.2.2.1 y.2.1.1) k ((aj,(aI,(aC,()))),((aA,()),()))
def zN_m(n:Nat)(l:List (Q3)):Option (Int×Unit):=
  ((y2I [(z1B ((↑l.length:Int)==0) (12:Int)).1,(z1B (decide ((↑l.length:Int) > 4)) (5:Int)).1]).bind λ v0=>(bif v0.1 != 0 then some (v0.1,())else (yAl n n (l) ((↑l.length:Int)) ((0:Int)) ([]))))
def yLM(aj:List (Q3))(aC:Int)(v2:Q3)(aA:List (List UInt8×Bool)):Option ((Int×Unit)⊕(List (List UInt8×Bool))):=
  ((zO_M (v2.1,v2.2.1,v2.2.2.1,())).bind λ v3=>((y2I [v3.1,(z1B ((y0N Ty.str Ty.bool aA v2.1).getD Bool.false) (9:Int)).1]).bind λ v4=>(bif v4.1 != 0 then (some (Sum.inl ((v4.1,()))))else (some (Sum.inr (y1I Ty.str Ty.bool aA v2.1 Bool.true))))))
def yPD(aj:List (Q3))(aA:List (List UInt8×Bool)):Option (Int×Unit):=
  (some (((0:Int),())))
theorem yGm(n:Nat)(hn:big<=n)(aj:List (Q3))(aA:List (List UInt8×Bool))(hx:List.length (aj) < lenMax):LeF some (yJ (λ ak aK ae=>yLM aj ak aK ae) (λ ae=>yPD aj ae) 0 (aj) aA) (yAl n n aj (List.length (aj):Int) 0 aA):=by
  refine yK (f:=some) (W:=λ aB ak ae=>yAl n aB aj (List.length (aj):Int) ak ae) (λ aB ak ae=>?_) hx aA n (by unfold big at hn;unfold lenMax at hx;omega)
  show LeF _ _ (yIf n (yAl n aB) aj (List.length (aj):Int) ak ae)
  exact y3 (y7 λ v2=>(y7 λ v3=>(y7 λ v4=>(y3 (y5 rfl) (y5 rfl))))) (ym (y5 rfl))
def zN_M(l:List (Q3)):Option (Int×Unit):=
  ((y2I [(z1B ((↑l.length:Int)==0) (12:Int)).1,(z1B (decide ((↑l.length:Int) > 4)) (5:Int)).1]).bind λ v0=>(bif v0.1 != 0 then (some ((v0.1,())))else (bif decide (List.length (l) < lenMax)then yJ (λ ak aK ae=>yLM (l) ak aK ae) (λ ae=>yPD (l) ae) 0 (l) ([])else none)))
abbrev zN_e:Entry:={ f:=88,args:=.pair t31 .unit,rS:=.pair t28 .unit,m:=λ x=>zN_M x.1 }
theorem yQB:FnOK Tryz.prog zN_e:=fB (mu:=[21]) Tryz.f88 (λ n x=>zN_m n x.1) [[4,22,23,24]] (yB y59 (yB y46 (yB yTa eNil))) λ n hn x=>(y7 λ v0=>(y3 (y5 rfl) (yL λ hx=>by apply yGm n hn;exact hx)))
def zf_m(n:Nat)(xp:Nat):Option (Int×Unit):=
  ((y1j FloatKind.f32 xp FloatKind.f64).bind λ v0=>(bif (z0o v0).1 then some ((1:Int),())else ((yML v0 (0:Int)).bind λ v1=>(bif v1.1 then some ((1:Int),())else (bif yT BinOp.gtr FloatKind.f64 v0 (nat_lit 4634204016564240384)then some ((3:Int),())else (bif yT BinOp.lss FloatKind.f64 v0 (nat_lit 13857576053419016192)then some ((3:Int),())else ((y7h (y05 BinOp.mul FloatKind.f64 (nat_lit 4625196817309499392) v0)).bind λ v4=>(bif yT BinOp.neq FloatKind.f64 (y05 BinOp.mul FloatKind.f64 (nat_lit 4625196817309499392) v0) v4.1 then some ((3:Int),())else some ((0:Int),())))))))))
def zf_M(xp:Nat):Option (Int×Unit):=zf_m 0 xp
abbrev zf_e:Entry:={ f:=96,args:=.pair t61 .unit,rS:=.pair t3 .unit,m:=λ x=>zf_M x.1 }
theorem yTF:FnOK Tryz.prog zf_e:=fF 0 Tryz.f96 (λ n x=>zf_m n x.1) [] (yB ySI (yB yRX (yB yR9 eNil)))
def yS9(n:Nat)(l:List (Q3))(amplitudes:List (Q4))(den:Int):Option ((Q2)×Unit):=
  ((yOO amplitudes den).bind λ v0=>((z7_M l λ (x:(Q3)×Unit)=>yRj x.1).bind λ v1=>((zI_M amplitudes λ (x:(Q4)×Unit)=>yRy x.1 v0.1).bind λ v2=>(bif v0.1==0 then none else some ((v1.1,v2.1,i64.wrap (den.tdiv v0.1),()),())))))
def yQI(l:List (Q3))(amplitudes:List (Q4))(den:Int):Option ((Q2)×Unit):=yS9 0 l amplitudes den
abbrev z0Q_e:Entry:={ f:=121,args:=.pair t31 (.pair t23 (.pair t3 .unit)),rS:=.pair t33 .unit,m:=λ x=>yQI x.1 x.2.1 x.2.2.1 }
theorem yQ4:FnOK Tryz.prog z0Q_e:=fF (fz:=[7]) 0 Tryz.f121 (λ n x=>yS9 n x.1 x.2.1 x.2.2.1) [] (yB yNl (yB yTL (yB yQk (yB yQh (yB yTO eNil)))))
def yRC(n:Nat)(year:Int):Option ((Q4)×Unit):=
  ((yJ0 (i64.wrap ((104:Int) - (z0A (i64.wrap (year.tmod (16:Int) - (8:Int)))).1)) (100:Int)).bind λ v0=>some ((v0.1.1,v0.1.2.1,()),()))
def yRW(year:Int):Option ((Q4)×Unit):=yRC 0 year
abbrev z0y_e:Entry:={ f:=136,args:=.pair t3 .unit,rS:=.pair t69 .unit,m:=λ x=>yRW x.1 }
theorem yRI:FnOK Tryz.prog z0y_e:=fF 0 Tryz.f136 (λ n x=>yRC n x.1) [] (yB yCl (yB yLE eNil))
def zW_m(n:Nat)(rp:Q1):Option (Int×Unit):=
  ((yLH rp.1).bind λ v0=>((yB3 [(z0i (!v0.1) (8:Int)).1,(z0D rp.2.1 (0:Int) (100000:Int)).1,(z0i (decide ((↑rp.2.2.1.length:Int) > 4096)) (5:Int)).1]).bind λ v1=>(bif v1.1 != 0 then some (v1.1,())else ((zX_M rp.2.2.1).bind λ v2=>((zc_M rp.2.2.2.1).bind λ v3=>((yB3 [v2.1,v3.1]).bind λ v4=>(bif v4.1 != 0 then some (v4.1,())else ((zC_M rp.2.2.2.1 λ (x:(Q4)×Unit)=>zR_M x.1 rp).bind λ v5=>(bif v5.1 then some ((14:Int),())else ((zC_M rp.2.2.2.1 λ (x:(Q4)×Unit)=>zS_M x.1 rp).bind λ v6=>some ((z0i v6.1 (1:Int)).1,())))))))))))
def zW_M(rp:Q1):Option (Int×Unit):=zW_m 0 rp
abbrev zW_e:Entry:={ f:=157,args:=.pair t60 .unit,rS:=.pair t28 .unit,m:=λ x=>zW_M x.1 }
theorem yTo:FnOK Tryz.prog zW_e:=fF 0 Tryz.f157 (λ n x=>zW_m n x.1) [] (yB yNw (yB yCb (yB ySP (yB yNc (yB yST (yB yTv (yB ySe (yB ySr (yB yTq eNil)))))))))
def yPh(n:Nat)(a:Q3)(p1:List (Q3))(p2:Q1):Option (List (Q4)×Unit):=
  ((zB_M p1 λ (x:(Q3)×Unit)=>zv_M x.1 p2 a).bind λ v0=>some (v0.1,()))
def yJT(a:Q3)(p1:List (Q3))(p2:Q1):Option (List (Q4)×Unit):=yPh 0 a p1 p2
abbrev z0B_e:Entry:={ f:=192,args:=.pair t55 (.pair (.ref t31) (.pair (.ref t60) .unit)),rS:=.pair t23 .unit,m:=λ x=>yJT x.1 x.2.1 x.2.2.1 }
theorem yRl:FnOK Tryz.prog z0B_e:=fF 0 Tryz.f192 (λ n x=>yPh n x.1 x.2.1 x.2.2.1) [] (yB yTj (yB yPo eNil))
end
end Go.Tw
end
