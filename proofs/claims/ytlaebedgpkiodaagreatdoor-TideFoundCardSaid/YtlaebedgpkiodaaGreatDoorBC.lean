import Derived.Test.YtlaebedgpkiodaaGreatDoorBT
import Derived.Test.YtlaebedgpkiodaaGreatDoorB0
import Derived.Test.YtlaebedgpkiodaaGreatDoorBS
import Derived.Test.YtlaebedgpkiodaaGreatDoorBS2
import Derived.Test.YtlaebedgpkiodaaGreatDoorLZ
import Derived.Test.YtlaebedgpkiodaaGreatDoorBA
set_option linter.all false
open Go.IntKind (i64)
section
set_option maxRecDepth 1000000
namespace Go.Tw
open Go.Vx Go.Vx.B Go.Proofs
noncomputable section
def yM6(n:Nat)(r0:List (Q3)->Int->Option (Int×Unit))(r6:List (Q3)->Int->Int->Option (Int×Unit))(ar:List (Q3))(am:Int)(aE:Int):Option (Int×Unit):=
  (bif decide (aE < am)then ((idx ar aE).bind λ v7=>((idx ar am).bind λ v8=>(bif v7.1==v8.1 then some ((9:Int),())else r6 ar am (i64.wrap (aE+1)))))else r0 ar (i64.wrap (am+1)))
def yBO(n:Nat)(r0:List (Q3)->Int->Option (Int×Unit))(k:Nat)(ar:List (Q3))(am:Int)(aE:Int):Option (Int×Unit):=
  iter (λ r y=>yM6 n r0 (λ ar am aE=>r ((ar,(am,(aE,()))),((),()))) y.1.1 y.1.2.1 y.1.2.2.1) k ((ar,(am,(aE,()))),((),()))
def yL6(n:Nat)(r0:List (Q3)->Int->Option (Int×Unit))(aa:List (Q3))(aw:Int):Option (Int×Unit):=
  (bif decide (aw < (↑aa.length:Int))then ((idx aa aw).bind λ v1=>((zg_M v1.1).bind λ v2=>((idx aa aw).bind λ v3=>((idx aa aw).bind λ v4=>((yKz [v2.1,(zZ v3.2.1 (1:Int) (96:Int)).1,(zZ v4.2.2.1 (0:Int) (3:Int)).1]).bind λ v5=>(bif v5.1 != 0 then some (v5.1,())else (yBO n r0 n (aa) (aw) ((0:Int)))))))))else some ((0:Int),()))
def yBe(n:Nat)(k:Nat)(aa:List (Q3))(aw:Int):Option (Int×Unit):=
  iter (λ r y=>yL6 n (λ aa aw=>r ((aa,(aw,())),((),()))) y.1.1 y.1.2.1) k ((aa,(aw,())),((),()))
def zJ_m(n:Nat)(l:List (Q3)):Option (Int×Unit):=
  (bif (↑l.length:Int)==0 then some ((12:Int),())else (bif decide ((↑l.length:Int) > 4)then some ((5:Int),())else (yBe n n (l) ((0:Int)))))
def yHe(ar:List (Q3))(am:Int)(aE:Int):Option (((Int×Unit)⊕Unit)⊕Unit):=
  ((idx ar aE).bind λ v7=>((idx ar am).bind λ v8=>(bif v7.1==v8.1 then (some (Sum.inl (Sum.inl (((9:Int),())))))else (some (Sum.inr ())))))
def yN3(ar:List (Q3))(am:Int):Option ((Int×Unit)⊕Unit):=
  (some (Sum.inr ()))
theorem yI8(n:Nat)(hn:big<=n)(r0:List (Q3)->Int->Option (Int×Unit))(ar:List (Q3))(am:Int)(hx:(am)<=9223372036854775807):LeF (elim some λ (ae:Unit)=>r0 ar (i64.wrap (am+1))) (y1r (λ ak ae=>yHe ar am ak) (λ ae=>yN3 ar am) ((am) - 0).toNat 0 ()) (yBO n r0 n ar am 0):=by
  refine y3h (f:=(elim some λ (ae:Unit)=>r0 ar (i64.wrap (am+1)))) (W:=λ aA ak ae=>yBO n r0 aA ar am ak) (body:=(λ ak ae=>yHe ar am ak)) (fin:=(λ ae=>yN3 ar am)) (λ aA ak ae=>?_) hx () n 0 (by decide) (by unfold big at hn;omega)
  show LeF _ _ (yM6 n r0 (yBO n r0 aA) ar am ak)
  exact y7 (y9 λ v7=>(y9 λ v8=>(y7 (y8 rfl) (y8 rfl)))) (yz (y8 rfl))
def yLW(aa:List (Q3))(aw:Int)(v1:Q3):Option ((Int×Unit)⊕Unit):=
  ((zg_M v1.1).bind λ v2=>((idx aa aw).bind λ v3=>((idx aa aw).bind λ v4=>((yKz [v2.1,(zZ v3.2.1 (1:Int) (96:Int)).1,(zZ v4.2.2.1 (0:Int) (3:Int)).1]).bind λ v5=>(bif v5.1 != 0 then (some (Sum.inl ((v5.1,()))))else (bif decide ((aw)<=9223372036854775807)then y1r (λ ak ae=>yHe (aa) (aw) ak) (λ ae=>yN3 (aa) (aw)) ((aw) - 0).toNat 0 ()else none))))))
def yP3(aa:List (Q3)):Option (Int×Unit):=
  (some (((0:Int),())))
theorem yIJ(n:Nat)(hn:big<=n)(aa:List (Q3))(hx:List.length (aa) < lenMax):LeF some (yL (λ ak aF ae=>yLW aa ak aF) (λ ae=>yP3 aa) 0 (aa) ()) (yBe n n aa 0):=by
  refine yS (f:=some) (W:=λ aA ak ae=>yBe n aA aa ak) (λ aA ak ae=>?_) hx () n (by unfold big at hn;unfold lenMax at hx;omega)
  show LeF _ _ (yL6 n (yBe n aA) aa ak)
  exact y7 (y9 λ v1=>(y9 λ v2=>(y9 λ v3=>(y9 λ v4=>(y9 λ v5=>(y7 (y8 rfl) (yT λ hx=>by apply yI8 n hn;exact hx))))))) (yz (y8 rfl))
def zJ_M(l:List (Q3)):Option (Int×Unit):=
  (bif (↑l.length:Int)==0 then (some (((12:Int),())))else (bif decide ((↑l.length:Int) > 4)then (some (((5:Int),())))else (bif decide (List.length (l) < lenMax)then yL (λ ak aF ae=>yLW (l) ak aF) (λ ae=>yP3 (l)) 0 (l) ()else none)))
abbrev zJ_e:Entry:={ f:=8,args:=.pair t22 .unit,rS:=.pair t3 .unit,m:=λ x=>zJ_M x.1 }
theorem ySu:FnOK Tryz.prog zJ_e:=fB Tryz.f8 (λ n x=>zJ_m n x.1) [[0,3],[0,3,5]] (yG yT1 (yG yTa (yG yS4 eNil))) λ n hn x=>(y7 (y8 rfl) (y7 (y8 rfl) (yT λ hx=>by apply yIJ n hn;exact hx)))
def zq_m(n:Nat)(p0:Int)(np:Int):Option (Int×Unit):=
  ((y2z [(z0P p0 (0:Int) (100000:Int)).1,(z0P np (0:Int) (4096:Int)).1]).bind λ v0=>(bif v0.1 != 0 then some (v0.1,())else some ((z0P (i64.wrap (p0+np)) (0:Int) (100000:Int)).1,())))
def zq_M(p0:Int)(np:Int):Option (Int×Unit):=zq_m 0 p0 np
abbrev zq_e:Entry:={ f:=77,args:=.pair t3 (.pair t3 .unit),rS:=.pair t38 .unit,m:=λ x=>zq_M x.1 x.2.1 }
theorem yTZ:FnOK Tryz.prog zq_e:=fF 0 Tryz.f77 (λ n x=>zq_m n x.1 x.2.1) [] (yG yDM (yG y59 eNil))
def yPG(n:Nat)(t:Q2)(tick:Int):Option ((Q4)×Unit):=
  ((yNG t.1 t.2.1 tick).bind λ v0=>some ((v0.1.1,v0.1.2.1,()),()))
def yAh(t:Q2)(tick:Int):Option ((Q4)×Unit):=yPG 0 t tick
abbrev z07_e:Entry:={ f:=62,args:=.pair t32 (.pair t3 .unit),rS:=.pair t36 .unit,m:=λ x=>yAh x.1 x.2.1 }
theorem yNy:FnOK Tryz.prog z07_e:=fF 0 Tryz.f62 (λ n x=>yPG n x.1 x.2.1) [] (yG yRS eNil)
def zp_m(n:Nat)(z:Q4):Option (Int×Unit):=
  ((y2z [(z0P z.1 (-8796093022208:Int) (8796093022208:Int)).1,(z0P z.2.1 (-8796093022208:Int) (8796093022208:Int)).1]).bind λ v0=>some (v0.1,()))
def zp_M(z:Q4):Option (Int×Unit):=zp_m 0 z
abbrev zp_e:Entry:={ f:=110,args:=.pair t36 .unit,rS:=.pair t38 .unit,m:=λ x=>zp_M x.1 }
theorem yTJ:FnOK Tryz.prog zp_e:=fF 0 Tryz.f110 (λ n x=>zp_m n x.1) [] (yG yDM (yG y59 eNil))
def yGG(n:Nat)(r0:Int->List (Q4)->Int->Int->Option (Int×Unit))(af:Int)(al:List (Q4))(ay:Int)(ah:Int):Option (Int×Unit):=
  (bif decide (ah < ay)then ((idx al ah).bind λ v1=>((y9e af [v1.1,v1.2.1]).bind λ v2=>r0 v2.1 al ay (i64.wrap (ah+1))))else some (af,()))
def y7l(n:Nat)(k:Nat)(af:Int)(al:List (Q4))(ay:Int)(ah:Int):Option (Int×Unit):=
  iter (λ r y=>yGG n (λ af al ay ah=>r ((af,(al,(ay,(ah,())))),((),()))) y.1.1 y.1.2.1 y.1.2.2.1 y.1.2.2.2.1) k ((af,(al,(ay,(ah,())))),((),()))
def yTk(n:Nat)(l:List (Q4))(den:Int):Option (Int×Unit):=
  (y7l n n (den) (l) ((↑l.length:Int)) ((0:Int)))
def y9A(al:List (Q4))(ah:Int)(v1:Q4)(af:Int):Option ((Int×Unit)⊕(Int)):=
  ((y9e af [v1.1,v1.2.1]).bind λ v2=>(some (Sum.inr (v2.1))))
def yG8(al:List (Q4))(af:Int):Option (Int×Unit):=
  (some ((af,())))
theorem yED(n:Nat)(hn:big<=n)(al:List (Q4))(af:Int)(hx:List.length (al) < lenMax):LeF some (yL (λ ak aF ae=>y9A al ak aF ae) (λ ae=>yG8 al ae) 0 (al) af) (y7l n n af al (List.length (al):Int) 0):=by
  refine yS (f:=some) (W:=λ aA ak ae=>y7l n aA ae al (List.length (al):Int) ak) (λ aA ak ae=>?_) hx af n (by unfold big at hn;unfold lenMax at hx;omega)
  show LeF _ _ (yGG n (y7l n aA) ae al (List.length (al):Int) ak)
  exact y7 (y9 λ v1=>(y9 λ v2=>(y8 rfl))) (yz (y8 rfl))
def yF1(l:List (Q4))(den:Int):Option (Int×Unit):=
  (bif decide (List.length (l) < lenMax)then yL (λ ak aF ae=>y9A (l) ak aF ae) (λ ae=>yG8 (l) ae) 0 (l) (den)else none)
abbrev z0L_e:Entry:={ f:=98,args:=.pair t30 (.pair t3 .unit),rS:=.pair t3 .unit,m:=λ x=>yF1 x.1 x.2.1 }
theorem yOa:FnOK Tryz.prog z0L_e:=fB Tryz.f98 (λ n x=>yTk n x.1 x.2.1) [[1,7,8,9]] (yG yO0 eNil) λ n hn x=>(yT λ hx=>by apply yED n hn;exact hx)
def zK_m(n:Nat)(m:List (List (Q4))):Option ((Q4)×Unit):=
  ((yO (8:Nat) (m,(0:Int),(0:Int),())).bind λ v0=>some ((v0.1.1,v0.1.2.1,()),()))
def zK_M(m:List (List (Q4))):Option ((Q4)×Unit):=zK_m 0 m
abbrev zK_e:Entry:={ f:=52,args:=.pair t111 .unit,rS:=.pair t36 .unit,m:=λ x=>zK_M x.1 }
theorem yMc:FnOK Tryz.prog zK_e:=fF 0 Tryz.f52 (λ n x=>zK_m n x.1) [] (yG yTs eNil)
def yPg(n:Nat)(num:Int)(den:Int):Option ((Q4)×Unit):=
  ((y9e den [num]).bind λ v0=>(bif v0.1==0 then none else (bif v0.1==0 then none else some ((i64.wrap (num.tdiv v0.1),i64.wrap (den.tdiv v0.1),()),()))))
def y9d(num:Int)(den:Int):Option ((Q4)×Unit):=yPg 0 num den
abbrev z0e_e:Entry:={ f:=56,args:=.pair t3 (.pair t3 .unit),rS:=.pair t52 .unit,m:=λ x=>y9d x.1 x.2.1 }
theorem yLi:FnOK Tryz.prog z0e_e:=fF 0 Tryz.f56 (λ n x=>yPg n x.1 x.2.1) [] (yG yO0 eNil)
def yFU(n:Nat)(r2:List Nat->Nat->Int->Int->List Int->Option (List Int×Int×Unit))(aq:List Nat)(a7:Nat)(a8:Int)(ax:Int)(au:List Int):Option (List Int×Int×Unit):=
  (bif decide (ax < (↑aq.length:Int))then ((idx aq ax).bind λ v3=>((idx aq (i64.wrap (ax - (1:Int)))).bind λ v4=>(bif y03 BinOp.gtr FloatKind.f32 (yv BinOp.mul FloatKind.f32 a7 (yv BinOp.sub FloatKind.f32 v3 v4)) (nat_lit 0)then r2 aq a7 ax (i64.wrap (ax+1)) au else (bif y03 BinOp.lss FloatKind.f32 (yv BinOp.mul FloatKind.f32 a7 (yv BinOp.sub FloatKind.f32 v3 v4)) (nat_lit 0)then (bif decide (a8 >= 0)then (bif decide (au.length+(1:Nat)<=memMax)then r2 aq a7 (-1:Int) (i64.wrap (ax+1)) (au++[a8])else none)else r2 aq a7 (-1:Int) (i64.wrap (ax+1)) au)else r2 aq a7 a8 (i64.wrap (ax+1)) au))))else some (au,(0:Int),()))
def y7X(n:Nat)(k:Nat)(aq:List Nat)(a7:Nat)(a8:Int)(ax:Int)(au:List Int):Option (List Int×Int×Unit):=
  iter (λ r y=>yFU n (λ aq a7 a8 ax au=>r ((aq,(a7,(a8,(ax,())))),((au,()),()))) y.1.1 y.1.2.1 y.1.2.2.1 y.1.2.2.2.1 y.2.1.1) k ((aq,(a7,(a8,(ax,())))),((au,()),()))
def ySx(n:Nat)(l:List Nat)(direction:Nat):Option (List Int×Int×Unit):=
  (bif decide ((↑l.length:Int) > 4096)then some ([],(5:Int),())else ((zI_M l λ (x:Nat×Unit)=>zW_M x.1).bind λ v0=>((y2z v0.1).bind λ v1=>(bif v1.1 != 0 then some ([],v1.1,())else (y7X n n (l) (direction) ((-1:Int)) ((1:Int)) ([]))))))
def yOM(aq:List Nat)(a7:Nat)(ax:Int)(a8:Int)(au:List Int):Option ((List Int×Int×Unit)⊕(Int×List Int)):=
  ((idx aq ax).bind λ v3=>((idx aq (i64.wrap (ax - (1:Int)))).bind λ v4=>(bif y03 BinOp.gtr FloatKind.f32 (yv BinOp.mul FloatKind.f32 a7 (yv BinOp.sub FloatKind.f32 v3 v4)) (nat_lit 0)then (some (Sum.inr ((ax),(au))))else (bif y03 BinOp.lss FloatKind.f32 (yv BinOp.mul FloatKind.f32 a7 (yv BinOp.sub FloatKind.f32 v3 v4)) (nat_lit 0)then (bif decide (a8 >= 0)then (bif decide (au.length+(1:Nat)<=memMax)then (some (Sum.inr (((-1:Int)),(au++[a8]))))else none)else (some (Sum.inr (((-1:Int)),(au)))))else (some (Sum.inr ((a8),(au))))))))
def yOT(aq:List Nat)(a7:Nat)(a8:Int)(au:List Int):Option (List Int×Int×Unit):=
  (some ((au,(0:Int),())))
theorem yEv(n:Nat)(hn:big<=n)(aq:List Nat)(a7:Nat)(a8:Int)(au:List Int)(hx:((↑aq.length:Int))<=9223372036854775807):LeF some (y1r (λ ak ae=>yOM aq a7 ak ae.1 ae.2) (λ ae=>yOT aq a7 ae.1 ae.2) (((↑aq.length:Int)) - 1).toNat 1 (a8,au)) (y7X n n aq a7 a8 1 au):=by
  refine y3h (f:=some) (W:=λ aA ak ae=>y7X n aA aq a7 ae.1 ak ae.2) (λ aA ak ae=>?_) hx (a8,au) n 1 (by decide) (by unfold big at hn;omega)
  show LeF _ _ (yFU n (y7X n aA) aq a7 ae.1 ak ae.2)
  exact y7 (y9 λ v3=>(y9 λ v4=>(y7 (y8 rfl) (y7 (y7 (y7 (y8 rfl) yo) (y8 rfl)) (y8 rfl))))) (yz (y8 rfl))
def yPy(l:List Nat)(direction:Nat):Option (List Int×Int×Unit):=
  (bif decide ((↑l.length:Int) > 4096)then (some (([],(5:Int),())))else ((zI_M l λ (x:Nat×Unit)=>zW_M x.1).bind λ v0=>((y2z v0.1).bind λ v1=>(bif v1.1 != 0 then (some (([],v1.1,())))else (bif decide (((↑l.length:Int))<=9223372036854775807)then y1r (λ ak ae=>yOM (l) (direction) ak ae.1 ae.2) (λ ae=>yOT (l) (direction) ae.1 ae.2) (((↑l.length:Int)) - 1).toNat 1 (((-1:Int)),([]))else none)))))
abbrev z0O_e:Entry:={ f:=86,args:=.pair t37 (.pair t44 .unit),rS:=.pair t88 (.pair t38 .unit),m:=λ x=>yPy x.1 x.2.1 }
theorem yO8:FnOK Tryz.prog z0O_e:=fB (mu:=[7]) Tryz.f86 (λ n x=>ySx n x.1 x.2.1) [[0,1,7,8,9]] (yG yTn (yG yRk (yG y59 eNil))) λ n hn x=>(y7 (y8 rfl) (y9 λ v0=>(y9 λ v1=>(y7 (y8 rfl) (yT λ hx=>by apply yEv n hn;exact hx)))))
def zM_m(n:Nat)(c:Q3):Option (Int×Unit):=
  ((yLS c.1).bind λ v0=>((y2z [(z0n (!v0.1) (8:Int)).1,(z0P c.2.1 (1:Int) (96:Int)).1,(z0P c.2.2.1 (0:Int) (3:Int)).1]).bind λ v1=>some (v1.1,())))
def zM_M(c:Q3):Option (Int×Unit):=zM_m 0 c
abbrev zM_e:Entry:={ f:=123,args:=.pair t34 .unit,rS:=.pair t38 .unit,m:=λ x=>zM_M x.1 }
theorem yTR:FnOK Tryz.prog zM_e:=fF 0 Tryz.f123 (λ n x=>zM_m n x.1) [] (yG yNu (yG y72 (yG yDM (yG y59 eNil))))
def zw_m(n:Nat)(c:Q3)(p1:Q1)(p2:List (Q3))(p3:Int):Option ((Q4)×Unit):=
  ((idx p2 p3).bind λ v0=>((yIB p1 c v0).bind λ v1=>some ((v1.1.1,v1.1.2.1,()),())))
def zw_M(c:Q3)(p1:Q1)(p2:List (Q3))(p3:Int):Option ((Q4)×Unit):=zw_m 0 c p1 p2 p3
abbrev zw_e:Entry:={ f:=82,args:=.pair t34 (.pair (.ref t43) (.pair (.ref t28) (.pair (.ref t3) .unit))),rS:=.pair t36 .unit,m:=λ x=>zw_M x.1 x.2.1 x.2.2.1 x.2.2.2.1 }
theorem yTx:FnOK Tryz.prog zw_e:=fF 0 Tryz.f82 (λ n x=>zw_m n x.1 x.2.1 x.2.2.1 x.2.2.2.1) [] (yG yMB eNil)
def zk_m(n:Nat)(b:Q3)(p1:Q1)(p2:Q3):Option ((Q4)×Unit):=
  ((yIB p1 p2 b).bind λ v0=>some ((v0.1.1,v0.1.2.1,()),()))
def zk_M(b:Q3)(p1:Q1)(p2:Q3):Option ((Q4)×Unit):=zk_m 0 b p1 p2
abbrev zk_e:Entry:={ f:=105,args:=.pair t34 (.pair (.ref t43) (.pair (.ref t34) .unit)),rS:=.pair t36 .unit,m:=λ x=>zk_M x.1 x.2.1 x.2.2.1 }
theorem yTf:FnOK Tryz.prog zk_e:=fF 0 Tryz.f105 (λ n x=>zk_m n x.1 x.2.1 x.2.2.1) [] (yG yMB eNil)
def yJB(n:Nat)(r0:Int->List Nat->Int->Int->Option (Int×Unit))(ac:Int)(av:List Nat)(al:Int)(ay:Int):Option (Int×Unit):=
  (bif decide (ay < al)then ((idx av ay).bind λ v1=>((zW_M v1).bind λ v2=>(bif v2.1 != 0 then some (v2.1,())else r0 v2.1 av al (i64.wrap (ay+1)))))else some (ac,()))
def yC0(n:Nat)(k:Nat)(ac:Int)(av:List Nat)(al:Int)(ay:Int):Option (Int×Unit):=
  iter (λ r y=>yJB n (λ ac av al ay=>r ((ac,(av,(al,(ay,())))),((),()))) y.1.1 y.1.2.1 y.1.2.2.1 y.1.2.2.2.1) k ((ac,(av,(al,(ay,())))),((),()))
def zU_m(n:Nat)(l:List Nat):Option (Int×Unit):=
  (yC0 n n ((0:Int)) (l) ((↑l.length:Int)) ((0:Int)))
def yNA(av:List Nat)(ay:Int)(v1:Nat)(ac:Int):Option ((Int×Unit)⊕(Int)):=
  ((zW_M v1).bind λ v2=>(bif v2.1 != 0 then (some (Sum.inl ((v2.1,()))))else (some (Sum.inr (v2.1)))))
def yPz(av:List Nat)(ac:Int):Option (Int×Unit):=
  (some ((ac,())))
theorem yHS(n:Nat)(hn:big<=n)(av:List Nat)(ac:Int)(hx:List.length (av) < lenMax):LeF some (yL (λ ak aF ae=>yNA av ak aF ae) (λ ae=>yPz av ae) 0 (av) ac) (yC0 n n ac av (List.length (av):Int) 0):=by
  refine yS (f:=some) (W:=λ aA ak ae=>yC0 n aA ae av (List.length (av):Int) ak) (λ aA ak ae=>?_) hx ac n (by unfold big at hn;unfold lenMax at hx;omega)
  show LeF _ _ (yJB n (yC0 n aA) ae av (List.length (av):Int) ak)
  exact y7 (y9 λ v1=>(y9 λ v2=>(y7 (y8 rfl) (y8 rfl)))) (yz (y8 rfl))
def zU_M(l:List Nat):Option (Int×Unit):=
  (bif decide (List.length (l) < lenMax)then yL (λ ak aF ae=>yNA (l) ak aF ae) (λ ae=>yPz (l) ae) 0 (l) ((0:Int))else none)
abbrev zU_e:Entry:={ f:=128,args:=.pair t37 .unit,rS:=.pair t38 .unit,m:=λ x=>zU_M x.1 }
theorem ySp:FnOK Tryz.prog zU_e:=fB Tryz.f128 (λ n x=>zU_m n x.1) [[3,6,7,8]] (yG yRk eNil) λ n hn x=>(yT λ hx=>by apply yHS n hn;exact hx)
def yKs(n:Nat)(r0:List (Q4)->List (Q4)->Int->Int->Option (Int×Unit))(aa:List (Q4))(ah:List (Q4))(aC:Int)(ai:Int):Option (Int×Unit):=
  (bif decide (ai < aC)then ((idx ah ai).bind λ v1=>(bif decide (ai > 0)then ((idx aa (if Bool.true=Bool.true then if i64.wrap (ai - (1:Int)) > 0 then i64.wrap (ai - (1:Int))else (0:Int)else if i64.wrap (ai - (1:Int)) < 0 then i64.wrap (ai - (1:Int))else (0:Int))).bind λ v2=>((yBH [(ze (v1.1,v1.2.1,())).1,(z0Q (decide (v1.1<=v2.2.1)) (11:Int)).1]).bind λ v3=>(bif v3.1 != 0 then some (v3.1,())else r0 aa ah aC (i64.wrap (ai+1)))))else ((yBH [(ze (v1.1,v1.2.1,())).1,(z0Q Bool.false (11:Int)).1]).bind λ v4=>(bif v4.1 != 0 then some (v4.1,())else r0 aa ah aC (i64.wrap (ai+1))))))else some ((0:Int),()))
def yBI(n:Nat)(k:Nat)(aa:List (Q4))(ah:List (Q4))(aC:Int)(ai:Int):Option (Int×Unit):=
  iter (λ r y=>yKs n (λ aa ah aC ai=>r ((aa,(ah,(aC,(ai,())))),((),()))) y.1.1 y.1.2.1 y.1.2.2.1 y.1.2.2.2.1) k ((aa,(ah,(aC,(ai,())))),((),()))
def zX_m(n:Nat)(l:List (Q4)):Option (Int×Unit):=
  (bif decide ((↑l.length:Int) > 2048)then some ((5:Int),())else (yBI n n (l) (l) ((↑l.length:Int)) ((0:Int))))
def yMO(aa:List (Q4))(ah:List (Q4))(ai:Int)(v1:Q4):Option ((Int×Unit)⊕Unit):=
  (bif decide (ai > 0)then ((idx aa (if Bool.true=Bool.true then if i64.wrap (ai - (1:Int)) > 0 then i64.wrap (ai - (1:Int))else (0:Int)else if i64.wrap (ai - (1:Int)) < 0 then i64.wrap (ai - (1:Int))else (0:Int))).bind λ v2=>((yBH [(ze (v1.1,v1.2.1,())).1,(z0Q (decide (v1.1<=v2.2.1)) (11:Int)).1]).bind λ v3=>(bif v3.1 != 0 then (some (Sum.inl ((v3.1,()))))else (some (Sum.inr ())))))else ((yBH [(ze (v1.1,v1.2.1,())).1,(z0Q Bool.false (11:Int)).1]).bind λ v4=>(bif v4.1 != 0 then (some (Sum.inl ((v4.1,()))))else (some (Sum.inr ())))))
def yPs(aa:List (Q4))(ah:List (Q4)):Option (Int×Unit):=
  (some (((0:Int),())))
theorem yHu(n:Nat)(hn:big<=n)(aa:List (Q4))(ah:List (Q4))(hx:List.length (ah) < lenMax):LeF some (yL (λ ak aF ae=>yMO aa ah ak aF) (λ ae=>yPs aa ah) 0 (ah) ()) (yBI n n aa ah (List.length (ah):Int) 0):=by
  refine yS (f:=some) (W:=λ aA ak ae=>yBI n aA aa ah (List.length (ah):Int) ak) (λ aA ak ae=>?_) hx () n (by unfold big at hn;unfold lenMax at hx;omega)
  show LeF _ _ (yKs n (yBI n aA) aa ah (List.length (ah):Int) ak)
  exact y7 (y9 λ v1=>(y7 (y9 λ v2=>(y9 λ v3=>(y7 (y8 rfl) (y8 rfl)))) (y9 λ v4=>(y7 (y8 rfl) (y8 rfl))))) (yz (y8 rfl))
def zX_M(l:List (Q4)):Option (Int×Unit):=
  (bif decide ((↑l.length:Int) > 2048)then (some (((5:Int),())))else (bif decide (List.length (l) < lenMax)then yL (λ ak aF ae=>yMO (l) (l) ak aF) (λ ae=>yPs (l) (l)) 0 (l) ()else none))
abbrev zX_e:Entry:={ f:=129,args:=.pair t41 .unit,rS:=.pair t38 .unit,m:=λ x=>zX_M x.1 }
theorem yUL:FnOK Tryz.prog zX_e:=fB Tryz.f129 (λ n x=>zX_m n x.1) [[0,9,10,11]] (yG ySe (yG yDf (yG yOW eNil))) λ n hn x=>(y7 (y8 rfl) (yT λ hx=>by apply yHu n hn;exact hx))
def zQ_m(n:Nat)(s:Q4)(p1:Q1):Option (Bool×Unit):=
  (bif decide ((0:Int)<=s.1) && decide (s.1<=s.2.1) && decide (s.2.1<=(↑p1.2.2.1.length:Int))then ((zC_M (List.drop s.1.toNat (List.take s.2.1.toNat p1.2.2.1)) λ (x:Nat×Unit)=>zO_M x.1).bind λ v0=>some (v0.1,()))else none)
def zQ_M(s:Q4)(p1:Q1):Option (Bool×Unit):=zQ_m 0 s p1
abbrev zQ_e:Entry:={ f:=132,args:=.pair t46 (.pair (.ref t43) .unit),rS:=.pair t4 .unit,m:=λ x=>zQ_M x.1 x.2.1 }
theorem ySf:FnOK Tryz.prog zQ_e:=fF 0 Tryz.f132 (λ n x=>zQ_m n x.1 x.2.1) [] (yG yUI (yG yU8 eNil))
end
end Go.Tw
end
section
set_option maxRecDepth 1000000
namespace Go.Tw
open Go.Vx Go.Vx.B Go.Proofs
noncomputable section
def yQo(n:Nat)(l:List Nat):Option (List Int×Int×Unit):=
  ((yPy l (nat_lit 1065353216)).bind λ v0=>some (v0.1,v0.2.1,()))
def yR4(l:List Nat):Option (List Int×Int×Unit):=yQo 0 l
abbrev z0W_e:Entry:={ f:=35,args:=.pair t37 .unit,rS:=.pair t88 (.pair t38 .unit),m:=λ x=>yR4 x.1 }
theorem yRa:FnOK Tryz.prog z0W_e:=fF 0 Tryz.f35 (λ n x=>yQo n x.1) [] (yG yO8 eNil)
def yQd(n:Nat)(l:List Nat):Option (List Int×Int×Unit):=
  ((yPy l (nat_lit 3212836864)).bind λ v0=>some (v0.1,v0.2.1,()))
def yRc(l:List Nat):Option (List Int×Int×Unit):=yQd 0 l
abbrev z0j_e:Entry:={ f:=36,args:=.pair t37 .unit,rS:=.pair t88 (.pair t38 .unit),m:=λ x=>yRc x.1 }
theorem ySK:FnOK Tryz.prog z0j_e:=fF 0 Tryz.f36 (λ n x=>yQd n x.1) [] (yG yO8 eNil)
def yL9(n:Nat)(r1:List (Q3)->Int->Int->List (List UInt8×Bool)->Option (Int×Unit))(aj:List (Q3))(aD:Int)(aB:Int)(az:List (List UInt8×Bool)):Option (Int×Unit):=
  (bif decide (aB < aD)then ((idx aj aB).bind λ v2=>((zM_M (v2.1,v2.2.1,v2.2.2.1,())).bind λ v3=>((y2z [v3.1,(z0n ((y0Z Ty.str Ty.bool az v2.1).getD Bool.false) (9:Int)).1]).bind λ v4=>(bif v4.1 != 0 then some (v4.1,())else r1 aj aD (i64.wrap (aB+1)) (y1Z Ty.str Ty.bool az v2.1 Bool.true)))))else some ((0:Int),()))
def yAt(n:Nat)(k:Nat)(aj:List (Q3))(aD:Int)(aB:Int)(az:List (List UInt8×Bool)):Option (Int×Unit):=
  iter (λ r y=>yL9 n (λ aj aD aB az=>r ((aj,(aD,(aB,()))),((az,()),()))) y.1.1 y.1.2.1 y.1.2.2.1 y.2.1.1) k ((aj,(aD,(aB,()))),((az,()),()))
def zL_m(n:Nat)(l:List (Q3)):Option (Int×Unit):=
  ((y2z [(z0n ((↑l.length:Int)==0) (12:Int)).1,(z0n (decide ((↑l.length:Int) > 4)) (5:Int)).1]).bind λ v0=>(bif v0.1 != 0 then some (v0.1,())else (yAt n n (l) ((↑l.length:Int)) ((0:Int)) ([]))))
def yM7(aj:List (Q3))(aB:Int)(v2:Q3)(az:List (List UInt8×Bool)):Option ((Int×Unit)⊕(List (List UInt8×Bool))):=
  ((zM_M (v2.1,v2.2.1,v2.2.2.1,())).bind λ v3=>((y2z [v3.1,(z0n ((y0Z Ty.str Ty.bool az v2.1).getD Bool.false) (9:Int)).1]).bind λ v4=>(bif v4.1 != 0 then (some (Sum.inl ((v4.1,()))))else (some (Sum.inr (y1Z Ty.str Ty.bool az v2.1 Bool.true))))))
def yPX(aj:List (Q3))(az:List (List UInt8×Bool)):Option (Int×Unit):=
  (some (((0:Int),())))
theorem yHm(n:Nat)(hn:big<=n)(aj:List (Q3))(az:List (List UInt8×Bool))(hx:List.length (aj) < lenMax):LeF some (yL (λ ak aF ae=>yM7 aj ak aF ae) (λ ae=>yPX aj ae) 0 (aj) az) (yAt n n aj (List.length (aj):Int) 0 az):=by
  refine yS (f:=some) (W:=λ aA ak ae=>yAt n aA aj (List.length (aj):Int) ak ae) (λ aA ak ae=>?_) hx az n (by unfold big at hn;unfold lenMax at hx;omega)
  show LeF _ _ (yL9 n (yAt n aA) aj (List.length (aj):Int) ak ae)
  exact y7 (y9 λ v2=>(y9 λ v3=>(y9 λ v4=>(y7 (y8 rfl) (y8 rfl))))) (yz (y8 rfl))
def zL_M(l:List (Q3)):Option (Int×Unit):=
  ((y2z [(z0n ((↑l.length:Int)==0) (12:Int)).1,(z0n (decide ((↑l.length:Int) > 4)) (5:Int)).1]).bind λ v0=>(bif v0.1 != 0 then (some ((v0.1,())))else (bif decide (List.length (l) < lenMax)then yL (λ ak aF ae=>yM7 (l) ak aF ae) (λ ae=>yPX (l) ae) 0 (l) ([])else none)))
abbrev zL_e:Entry:={ f:=94,args:=.pair t28 .unit,rS:=.pair t38 .unit,m:=λ x=>zL_M x.1 }
theorem ySZ:FnOK Tryz.prog zL_e:=fB (mu:=[21]) Tryz.f94 (λ n x=>zL_m n x.1) [[4,22,23,24]] (yG y72 (yG y59 (yG yTR eNil))) λ n hn x=>(y9 λ v0=>(y7 (y8 rfl) (yT λ hx=>by apply yHm n hn;exact hx)))
def yPH(n:Nat)(l:List (Q3))(amplitudes:List (Q4))(den:Int):Option ((Q2)×Unit):=
  ((yF1 amplitudes den).bind λ v0=>((z7_M l λ (x:(Q3)×Unit)=>zu_M x.1).bind λ v1=>((zG_M amplitudes λ (x:(Q4)×Unit)=>zv_M x.1 v0.1).bind λ v2=>(bif v0.1==0 then none else some ((v1.1,v2.1,i64.wrap (den.tdiv v0.1),()),())))))
def yJP(l:List (Q3))(amplitudes:List (Q4))(den:Int):Option ((Q2)×Unit):=yPH 0 l amplitudes den
abbrev z0A_e:Entry:={ f:=50,args:=.pair t28 (.pair t30 (.pair t3 .unit)),rS:=.pair t32 .unit,m:=λ x=>yJP x.1 x.2.1 x.2.2.1 }
theorem yRD:FnOK Tryz.prog z0A_e:=fF (fz:=[7]) 0 Tryz.f50 (λ n x=>yPH n x.1 x.2.1 x.2.2.1) [] (yG yOa (yG yTG (yG yTO (yG yTW (yG yU7 eNil)))))
def yR3(n:Nat)(year:Int):Option ((Q4)×Unit):=
  ((y9d (i64.wrap ((104:Int) - (zy (i64.wrap (year.tmod (16:Int) - (8:Int)))).1)) (100:Int)).bind λ v0=>some ((v0.1.1,v0.1.2.1,()),()))
def yRy(year:Int):Option ((Q4)×Unit):=yR3 0 year
abbrev z0d_e:Entry:={ f:=88,args:=.pair t3 .unit,rS:=.pair t52 .unit,m:=λ x=>yRy x.1 }
theorem yQr:FnOK Tryz.prog z0d_e:=fF 0 Tryz.f88 (λ n x=>yR3 n x.1) [] (yG yHg (yG yLi eNil))
def zT_m(n:Nat)(rp:Q1):Option (Int×Unit):=
  ((yLS rp.1).bind λ v0=>((yBH [(z0Q (!v0.1) (8:Int)).1,(z01 rp.2.1 (0:Int) (100000:Int)).1,(z0Q (decide ((↑rp.2.2.1.length:Int) > 4096)) (5:Int)).1]).bind λ v1=>(bif v1.1 != 0 then some (v1.1,())else ((zU_M rp.2.2.1).bind λ v2=>((zX_M rp.2.2.2.1).bind λ v3=>((yBH [v2.1,v3.1]).bind λ v4=>(bif v4.1 != 0 then some (v4.1,())else ((zB_M rp.2.2.2.1 λ (x:(Q4)×Unit)=>zP_M x.1 rp).bind λ v5=>(bif v5.1 then some ((14:Int),())else ((zB_M rp.2.2.2.1 λ (x:(Q4)×Unit)=>zQ_M x.1 rp).bind λ v6=>some ((z0Q v6.1 (1:Int)).1,())))))))))))
def zT_M(rp:Q1):Option (Int×Unit):=zT_m 0 rp
abbrev zT_e:Entry:={ f:=109,args:=.pair t43 .unit,rS:=.pair t38 .unit,m:=λ x=>zT_M x.1 }
theorem ySq:FnOK Tryz.prog zT_e:=fF 0 Tryz.f109 (λ n x=>zT_m n x.1) [] (yG yNu (yG yDf (yG yR6 (yG yOW (yG ySp (yG yUL (yG yUJ (yG yTM (yG ySf eNil)))))))))
def zz_m(n:Nat)(a:Q3)(p1:List (Q3))(p2:Q1):Option (List (Q4)×Unit):=
  ((zA_M p1 λ (x:(Q3)×Unit)=>zk_M x.1 p2 a).bind λ v0=>some (v0.1,()))
def zz_M(a:Q3)(p1:List (Q3))(p2:Q1):Option (List (Q4)×Unit):=zz_m 0 a p1 p2
abbrev zz_e:Entry:={ f:=104,args:=.pair t34 (.pair (.ref t28) (.pair (.ref t43) .unit)),rS:=.pair t30 .unit,m:=λ x=>zz_M x.1 x.2.1 x.2.2.1 }
theorem yTC:FnOK Tryz.prog zz_e:=fF 0 Tryz.f104 (λ n x=>zz_m n x.1 x.2.1 x.2.2.1) [] (yG yTf (yG yPk eNil))
end
end Go.Tw
end
