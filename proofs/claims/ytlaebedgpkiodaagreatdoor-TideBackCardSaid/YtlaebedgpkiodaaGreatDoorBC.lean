import Derived.Test.YtlaebedgpkiodaaGreatDoorBT
import Derived.Test.YtlaebedgpkiodaaGreatDoorB0
import Derived.Test.YtlaebedgpkiodaaGreatDoorSA
import Derived.Test.YtlaebedgpkiodaaGreatDoorLZ
import Derived.Test.YtlaebedgpkiodaaGreatDoorBA
set_option linter.all false
open Go.IntKind (i64)
section
set_option maxRecDepth 1000000
namespace Go.Tw
open Go.Vx Go.Vx.B Go.Proofs
noncomputable section
def yIb(n:Nat)(r0:List (Q3)->Int->Option (Int×Unit))(r6:List (Q3)->Int->Int->Option (Int×Unit))(ai:List (Q3))(af:Int)(aD:Int):Option (Int×Unit):=
  (bif decide (aD < af)then ((idx ai aD).bind λ v7=>((idx ai af).bind λ v8=>(bif v7.1==v8.1 then some ((9:Int),())else r6 ai af (i64.wrap (aD+1)))))else r0 ai (i64.wrap (af+1)))
def yAi(n:Nat)(r0:List (Q3)->Int->Option (Int×Unit))(k:Nat)(ai:List (Q3))(af:Int)(aD:Int):Option (Int×Unit):=
  iter (λ r y=>yIb n r0 (λ ai af aD=>r ((ai,(af,(aD,()))),((),()))) y.1.1 y.1.2.1 y.1.2.2.1) k ((ai,(af,(aD,()))),((),()))
def yHx(n:Nat)(r0:List (Q3)->Int->Option (Int×Unit))(a8:List (Q3))(ar:Int):Option (Int×Unit):=
  (bif decide (ar < (↑a8.length:Int))then ((idx a8 ar).bind λ v1=>((zh_M v1.1).bind λ v2=>((idx a8 ar).bind λ v3=>((idx a8 ar).bind λ v4=>((yGR [v2.1,(za v3.2.1 (1:Int) (96:Int)).1,(za v4.2.2.1 (0:Int) (3:Int)).1]).bind λ v5=>(bif v5.1 != 0 then some (v5.1,())else (yAi n r0 n (a8) (ar) ((0:Int)))))))))else some ((0:Int),()))
def yAd(n:Nat)(k:Nat)(a8:List (Q3))(ar:Int):Option (Int×Unit):=
  iter (λ r y=>yHx n (λ a8 ar=>r ((a8,(ar,())),((),()))) y.1.1 y.1.2.1) k ((a8,(ar,())),((),()))
def zJ_m(n:Nat)(l:List (Q3)):Option (Int×Unit):=
  (bif (↑l.length:Int)==0 then some ((12:Int),())else (bif decide ((↑l.length:Int) > 4)then some ((5:Int),())else (yAd n n (l) ((0:Int)))))
def yFd(ai:List (Q3))(af:Int)(aD:Int):Option (((Int×Unit)⊕Unit)⊕Unit):=
  ((idx ai aD).bind λ v7=>((idx ai af).bind λ v8=>(bif v7.1==v8.1 then (some (Sum.inl (Sum.inl (((9:Int),())))))else (some (Sum.inr ())))))
def yKe(ai:List (Q3))(af:Int):Option ((Int×Unit)⊕Unit):=
  (some (Sum.inr ()))
theorem yGP(n:Nat)(hn:big<=n)(r0:List (Q3)->Int->Option (Int×Unit))(ai:List (Q3))(af:Int)(hx:(af)<=9223372036854775807):LeF (elim some λ (aj:Unit)=>r0 ai (i64.wrap (af+1))) (y2D (λ al aj=>yFd ai af al) (λ aj=>yKe ai af) ((af) - 0).toNat 0 ()) (yAi n r0 n ai af 0):=by
  refine y4n (f:=(elim some λ (aj:Unit)=>r0 ai (i64.wrap (af+1)))) (W:=λ aE al aj=>yAi n r0 aE ai af al) (body:=(λ al aj=>yFd ai af al)) (fin:=(λ aj=>yKe ai af)) (λ aE al aj=>?_) hx () n 0 (by decide) (by unfold big at hn;omega)
  show LeF _ _ (yIb n r0 (yAi n r0 aE) ai af al)
  exact y5 (yC λ v7=>(yC λ v8=>(y5 (y8 rfl) (y8 rfl)))) (y16 (y8 rfl))
def yHU(a8:List (Q3))(ar:Int)(v1:Q3):Option ((Int×Unit)⊕Unit):=
  ((zh_M v1.1).bind λ v2=>((idx a8 ar).bind λ v3=>((idx a8 ar).bind λ v4=>((yGR [v2.1,(za v3.2.1 (1:Int) (96:Int)).1,(za v4.2.2.1 (0:Int) (3:Int)).1]).bind λ v5=>(bif v5.1 != 0 then (some (Sum.inl ((v5.1,()))))else (bif decide ((ar)<=9223372036854775807)then y2D (λ al aj=>yFd (a8) (ar) al) (λ aj=>yKe (a8) (ar)) ((ar) - 0).toNat 0 ()else none))))))
def yLw(a8:List (Q3)):Option (Int×Unit):=
  (some (((0:Int),())))
theorem yGX(n:Nat)(hn:big<=n)(a8:List (Q3))(hx:List.length (a8) < lenMax):LeF some (yS (λ al aG aj=>yHU a8 al aG) (λ aj=>yLw a8) 0 (a8) ()) (yAd n n a8 0):=by
  refine yf (f:=some) (W:=λ aE al aj=>yAd n aE a8 al) (λ aE al aj=>?_) hx () n (by unfold big at hn;unfold lenMax at hx;omega)
  show LeF _ _ (yHx n (yAd n aE) a8 al)
  exact y5 (yC λ v1=>(yC λ v2=>(yC λ v3=>(yC λ v4=>(yC λ v5=>(y5 (y8 rfl) (yd λ hx=>by apply yGP n hn;exact hx))))))) (y16 (y8 rfl))
def zJ_M(l:List (Q3)):Option (Int×Unit):=
  (bif (↑l.length:Int)==0 then (some (((12:Int),())))else (bif decide ((↑l.length:Int) > 4)then (some (((5:Int),())))else (bif decide (List.length (l) < lenMax)then yS (λ al aG aj=>yHU (l) al aG) (λ aj=>yLw (l)) 0 (l) ()else none)))
abbrev zJ_e:Entry:={ f:=8,args:=.pair t22 .unit,rS:=.pair t3 .unit,m:=λ x=>zJ_M x.1 }
theorem yR8:FnOK Tryz.prog zJ_e:=fB Tryz.f8 (λ n x=>zJ_m n x.1) [[0,3],[0,3,5]] (y7 yR7 (y7 yN4 (y7 yLl eNil))) λ n hn x=>(y5 (y8 rfl) (y5 (y8 rfl) (yd λ hx=>by apply yGX n hn;exact hx)))
def yPD(n:Nat)(p0:Q2)(e:Int)(bad:Int)(want:Q2):Option (Bool×Unit):=
  (bif bad != 0 then (bif e==bad then ((yDj p0).bind λ v3=>((yHc v3.1 ([],[],(0:Int),())).bind λ v4=>some (v4.1,())))else some (Bool.false,()))else (bif e==bad then ((yDj p0).bind λ v8=>((yHc v8.1 (want.1,want.2.1,want.2.2.1,())).bind λ v9=>some (v9.1,())))else some (Bool.false,())))
def yQX(p0:Q2)(e:Int)(bad:Int)(want:Q2):Option (Bool×Unit):=yPD 0 p0 e bad want
abbrev z0h_e:Entry:={ f:=24,args:=.pair t32 (.pair t38 (.pair t3 (.pair t58 .unit))),rS:=.pair t4 .unit,m:=λ x=>yQX x.1 x.2.1 x.2.2.1 x.2.2.2.1 }
theorem yNg:FnOK Tryz.prog z0h_e:=fF (mu:=[7]) 0 Tryz.f24 (λ n x=>yPD n x.1 x.2.1 x.2.2.1 x.2.2.2.1) [] (y7 yLC (y7 yLg eNil))
def zw_m(n:Nat)(p0:Int)(np:Int):Option (Int×Unit):=
  ((y3h [(z0e p0 (0:Int) (100000:Int)).1,(z0e np (0:Int) (4096:Int)).1]).bind λ v0=>(bif v0.1 != 0 then some (v0.1,())else some ((z0e (i64.wrap (p0+np)) (0:Int) (100000:Int)).1,())))
def zw_M(p0:Int)(np:Int):Option (Int×Unit):=zw_m 0 p0 np
abbrev zw_e:Entry:={ f:=77,args:=.pair t3 (.pair t3 .unit),rS:=.pair t38 .unit,m:=λ x=>zw_M x.1 x.2.1 }
theorem yQN:FnOK Tryz.prog zw_e:=fF 0 Tryz.f77 (λ n x=>zw_m n x.1 x.2.1) [] (y7 yC5 (y7 y5A eNil))
def yOj(n:Nat)(t:Q2)(tick:Int):Option ((Q4)×Unit):=
  ((yOO t.1 t.2.1 tick).bind λ v0=>some ((v0.1.1,v0.1.2.1,()),()))
def yIH(t:Q2)(tick:Int):Option ((Q4)×Unit):=yOj 0 t tick
abbrev z0I_e:Entry:={ f:=62,args:=.pair t32 (.pair t3 .unit),rS:=.pair t36 .unit,m:=λ x=>yIH x.1 x.2.1 }
theorem yLo:FnOK Tryz.prog z0I_e:=fF 0 Tryz.f62 (λ n x=>yOj n x.1 x.2.1) [] (y7 yP2 eNil)
def zv_m(n:Nat)(z:Q4):Option (Int×Unit):=
  ((y3h [(z0e z.1 (-8796093022208:Int) (8796093022208:Int)).1,(z0e z.2.1 (-8796093022208:Int) (8796093022208:Int)).1]).bind λ v0=>some (v0.1,()))
def zv_M(z:Q4):Option (Int×Unit):=zv_m 0 z
abbrev zv_e:Entry:={ f:=110,args:=.pair t36 .unit,rS:=.pair t38 .unit,m:=λ x=>zv_M x.1 }
theorem yQL:FnOK Tryz.prog zv_e:=fF 0 Tryz.f110 (λ n x=>zv_m n x.1) [] (y7 yC5 (y7 y5A eNil))
def yEy(n:Nat)(r0:Int->List (Q4)->Int->Int->Option (Int×Unit))(aa:Int)(ae:List (Q4))(av:Int)(au:Int):Option (Int×Unit):=
  (bif decide (au < av)then ((idx ae au).bind λ v1=>((yFw aa [v1.1,v1.2.1]).bind λ v2=>r0 v2.1 ae av (i64.wrap (au+1))))else some (aa,()))
def y7f(n:Nat)(k:Nat)(aa:Int)(ae:List (Q4))(av:Int)(au:Int):Option (Int×Unit):=
  iter (λ r y=>yEy n (λ aa ae av au=>r ((aa,(ae,(av,(au,())))),((),()))) y.1.1 y.1.2.1 y.1.2.2.1 y.1.2.2.2.1) k ((aa,(ae,(av,(au,())))),((),()))
def yQd(n:Nat)(l:List (Q4))(den:Int):Option (Int×Unit):=
  (y7f n n (den) (l) ((↑l.length:Int)) ((0:Int)))
def yEb(ae:List (Q4))(au:Int)(v1:Q4)(aa:Int):Option ((Int×Unit)⊕(Int)):=
  ((yFw aa [v1.1,v1.2.1]).bind λ v2=>(some (Sum.inr (v2.1))))
def yIY(ae:List (Q4))(aa:Int):Option (Int×Unit):=
  (some ((aa,())))
theorem yD3(n:Nat)(hn:big<=n)(ae:List (Q4))(aa:Int)(hx:List.length (ae) < lenMax):LeF some (yS (λ al aG aj=>yEb ae al aG aj) (λ aj=>yIY ae aj) 0 (ae) aa) (y7f n n aa ae (List.length (ae):Int) 0):=by
  refine yf (f:=some) (W:=λ aE al aj=>y7f n aE aj ae (List.length (ae):Int) al) (λ aE al aj=>?_) hx aa n (by unfold big at hn;unfold lenMax at hx;omega)
  show LeF _ _ (yEy n (y7f n aE) aj ae (List.length (ae):Int) al)
  exact y5 (yC λ v1=>(yC λ v2=>(y8 rfl))) (y16 (y8 rfl))
def yHO(l:List (Q4))(den:Int):Option (Int×Unit):=
  (bif decide (List.length (l) < lenMax)then yS (λ al aG aj=>yEb (l) al aG aj) (λ aj=>yIY (l) aj) 0 (l) (den)else none)
abbrev z0a_e:Entry:={ f:=98,args:=.pair t30 (.pair t3 .unit),rS:=.pair t3 .unit,m:=λ x=>yHO x.1 x.2.1 }
theorem yLE:FnOK Tryz.prog z0a_e:=fB Tryz.f98 (λ n x=>yQd n x.1 x.2.1) [[1,7,8,9]] (y7 yLV eNil) λ n hn x=>(yd λ hx=>by apply yD3 n hn;exact hx)
def zK_m(n:Nat)(m:List (List (Q4))):Option ((Q4)×Unit):=
  ((yx (8:Nat) (m,(0:Int),(0:Int),())).bind λ v0=>some ((v0.1.1,v0.1.2.1,()),()))
def zK_M(m:List (List (Q4))):Option ((Q4)×Unit):=zK_m 0 m
abbrev zK_e:Entry:={ f:=52,args:=.pair t111 .unit,rS:=.pair t36 .unit,m:=λ x=>zK_M x.1 }
theorem yKI:FnOK Tryz.prog zK_e:=fF 0 Tryz.f52 (λ n x=>zK_m n x.1) [] (y7 yRC eNil)
def yOG(n:Nat)(num:Int)(den:Int):Option ((Q4)×Unit):=
  ((yFw den [num]).bind λ v0=>(bif v0.1==0 then none else (bif v0.1==0 then none else some ((i64.wrap (num.tdiv v0.1),i64.wrap (den.tdiv v0.1),()),()))))
def yKX(num:Int)(den:Int):Option ((Q4)×Unit):=yOG 0 num den
abbrev z0w_e:Entry:={ f:=56,args:=.pair t3 (.pair t3 .unit),rS:=.pair t52 .unit,m:=λ x=>yKX x.1 x.2.1 }
theorem yIp:FnOK Tryz.prog z0w_e:=fF 0 Tryz.f56 (λ n x=>yOG n x.1 x.2.1) [] (y7 yLV eNil)
def yKl(n:Nat)(r2:List Nat->Nat->Int->Int->List Int->Option (List Int×Int×Unit))(az:List Nat)(a7:Nat)(ah:Int)(ay:Int)(aB:List Int):Option (List Int×Int×Unit):=
  (bif decide (ay < (↑az.length:Int))then ((idx az ay).bind λ v3=>((idx az (i64.wrap (ay - (1:Int)))).bind λ v4=>(bif y1K BinOp.gtr FloatKind.f32 (y2C BinOp.mul FloatKind.f32 a7 (y2C BinOp.sub FloatKind.f32 v3 v4)) (nat_lit 0)then r2 az a7 ay (i64.wrap (ay+1)) aB else (bif y1K BinOp.lss FloatKind.f32 (y2C BinOp.mul FloatKind.f32 a7 (y2C BinOp.sub FloatKind.f32 v3 v4)) (nat_lit 0)then (bif decide (ah >= 0)then (bif decide (aB.length+(1:Nat)<=memMax)then r2 az a7 (-1:Int) (i64.wrap (ay+1)) (aB++[ah])else none)else r2 az a7 (-1:Int) (i64.wrap (ay+1)) aB)else r2 az a7 ah (i64.wrap (ay+1)) aB))))else some (aB,(0:Int),()))
def yKp(n:Nat)(k:Nat)(az:List Nat)(a7:Nat)(ah:Int)(ay:Int)(aB:List Int):Option (List Int×Int×Unit):=
  iter (λ r y=>yKl n (λ az a7 ah ay aB=>r ((az,(a7,(ah,(ay,())))),((aB,()),()))) y.1.1 y.1.2.1 y.1.2.2.1 y.1.2.2.2.1 y.2.1.1) k ((az,(a7,(ah,(ay,())))),((aB,()),()))
def yPC(n:Nat)(l:List Nat)(direction:Nat):Option (List Int×Int×Unit):=
  (bif decide ((↑l.length:Int) > 4096)then some ([],(5:Int),())else ((zI_M l λ (x:Nat×Unit)=>zX_M x.1).bind λ v0=>((y3h v0.1).bind λ v1=>(bif v1.1 != 0 then some ([],v1.1,())else (yKp n n (l) (direction) ((-1:Int)) ((1:Int)) ([]))))))
def yLv(l:List Nat)(direction:Nat):Option (List Int×Int×Unit):=yPC 1000 l direction
abbrev z0d_e:Entry:={ f:=86,args:=.pair t37 (.pair t44 .unit),rS:=.pair t88 (.pair t38 .unit),m:=λ x=>yLv x.1 x.2.1 }
theorem yLk:FnOK Tryz.prog z0d_e:=fF (mu:=[7]) 1000 Tryz.f86 (λ n x=>yPC n x.1 x.2.1) [[0,1,7,8,9]] (y7 yQv (y7 yPy (y7 y5A eNil)))
def zM_m(n:Nat)(c:Q3):Option (Int×Unit):=
  ((yH8 c.1).bind λ v0=>((y3h [(z16 (!v0.1) (8:Int)).1,(z0e c.2.1 (1:Int) (96:Int)).1,(z0e c.2.2.1 (0:Int) (3:Int)).1]).bind λ v1=>some (v1.1,())))
def zM_M(c:Q3):Option (Int×Unit):=zM_m 0 c
abbrev zM_e:Entry:={ f:=123,args:=.pair t34 .unit,rS:=.pair t38 .unit,m:=λ x=>zM_M x.1 }
theorem yRL:FnOK Tryz.prog zM_e:=fF 0 Tryz.f123 (λ n x=>zM_m n x.1) [] (y7 yLe (y7 y77 (y7 yC5 (y7 y5A eNil))))
def yPi(n:Nat)(c:Q3)(p1:Q1)(p2:List (Q3))(p3:Int):Option ((Q4)×Unit):=
  ((idx p2 p3).bind λ v0=>((yK2 p1 c v0).bind λ v1=>some ((v1.1.1,v1.1.2.1,()),())))
def yNm(c:Q3)(p1:Q1)(p2:List (Q3))(p3:Int):Option ((Q4)×Unit):=yPi 0 c p1 p2 p3
abbrev z04_e:Entry:={ f:=82,args:=.pair t34 (.pair (.ref t43) (.pair (.ref t28) (.pair (.ref t3) .unit))),rS:=.pair t36 .unit,m:=λ x=>yNm x.1 x.2.1 x.2.2.1 x.2.2.2.1 }
theorem yNf:FnOK Tryz.prog z04_e:=fF 0 Tryz.f82 (λ n x=>yPi n x.1 x.2.1 x.2.2.1 x.2.2.2.1) [] (y7 yHM eNil)
def zo_m(n:Nat)(b:Q3)(p1:Q1)(p2:Q3):Option ((Q4)×Unit):=
  ((yK2 p1 p2 b).bind λ v0=>some ((v0.1.1,v0.1.2.1,()),()))
def zo_M(b:Q3)(p1:Q1)(p2:Q3):Option ((Q4)×Unit):=zo_m 0 b p1 p2
abbrev zo_e:Entry:={ f:=105,args:=.pair t34 (.pair (.ref t43) (.pair (.ref t34) .unit)),rS:=.pair t36 .unit,m:=λ x=>zo_M x.1 x.2.1 x.2.2.1 }
theorem yQW:FnOK Tryz.prog zo_e:=fF 0 Tryz.f105 (λ n x=>zo_m n x.1 x.2.1 x.2.2.1) [] (y7 yHM eNil)
def yNP(n:Nat)(r0:Int->List Nat->Int->Int->Option (Int×Unit))(aq:Int)(aH:List Nat)(ae:Int)(av:Int):Option (Int×Unit):=
  (bif decide (av < ae)then ((idx aH av).bind λ v1=>((zX_M v1).bind λ v2=>(bif v2.1 != 0 then some (v2.1,())else r0 v2.1 aH ae (i64.wrap (av+1)))))else some (aq,()))
def yNL(n:Nat)(k:Nat)(aq:Int)(aH:List Nat)(ae:Int)(av:Int):Option (Int×Unit):=
  iter (λ r y=>yNP n (λ aq aH ae av=>r ((aq,(aH,(ae,(av,())))),((),()))) y.1.1 y.1.2.1 y.1.2.2.1 y.1.2.2.2.1) k ((aq,(aH,(ae,(av,())))),((),()))
def zV_m(n:Nat)(l:List Nat):Option (Int×Unit):=
  (yNL n n ((0:Int)) (l) ((↑l.length:Int)) ((0:Int)))
def zV_M(l:List Nat):Option (Int×Unit):=zV_m 1000 l
abbrev zV_e:Entry:={ f:=128,args:=.pair t37 .unit,rS:=.pair t38 .unit,m:=λ x=>zV_M x.1 }
theorem yQS:FnOK Tryz.prog zV_e:=fF 1000 Tryz.f128 (λ n x=>zV_m n x.1) [[3,6,7,8]] (y7 yPy eNil)
def yML(n:Nat)(r0:List (Q4)->List (Q4)->Int->Int->Option (Int×Unit))(a8:List (Q4))(au:List (Q4))(aA:Int)(am:Int):Option (Int×Unit):=
  (bif decide (am < aA)then ((idx au am).bind λ v1=>(bif decide (am > 0)then ((idx a8 (if Bool.true=Bool.true then if i64.wrap (am - (1:Int)) > 0 then i64.wrap (am - (1:Int))else (0:Int)else if i64.wrap (am - (1:Int)) < 0 then i64.wrap (am - (1:Int))else (0:Int))).bind λ v2=>((yIO [(zf (v1.1,v1.2.1,())).1,(z0f (decide (v1.1<=v2.2.1)) (11:Int)).1]).bind λ v3=>(bif v3.1 != 0 then some (v3.1,())else r0 a8 au aA (i64.wrap (am+1)))))else ((yIO [(zf (v1.1,v1.2.1,())).1,(z0f Bool.false (11:Int)).1]).bind λ v4=>(bif v4.1 != 0 then some (v4.1,())else r0 a8 au aA (i64.wrap (am+1))))))else some ((0:Int),()))
def yMu(n:Nat)(k:Nat)(a8:List (Q4))(au:List (Q4))(aA:Int)(am:Int):Option (Int×Unit):=
  iter (λ r y=>yML n (λ a8 au aA am=>r ((a8,(au,(aA,(am,())))),((),()))) y.1.1 y.1.2.1 y.1.2.2.1 y.1.2.2.2.1) k ((a8,(au,(aA,(am,())))),((),()))
def zY_m(n:Nat)(l:List (Q4)):Option (Int×Unit):=
  (bif decide ((↑l.length:Int) > 2048)then some ((5:Int),())else (yMu n n (l) (l) ((↑l.length:Int)) ((0:Int))))
def zY_M(l:List (Q4)):Option (Int×Unit):=zY_m 1000 l
abbrev zY_e:Entry:={ f:=129,args:=.pair t41 .unit,rS:=.pair t38 .unit,m:=λ x=>zY_M x.1 }
theorem yRA:FnOK Tryz.prog zY_e:=fF 1000 Tryz.f129 (λ n x=>zY_m n x.1) [[0,9,10,11]] (y7 yRS (y7 yBa (y7 yLY eNil)))
def zQ_m(n:Nat)(s:Q4)(p1:Q1):Option (Bool×Unit):=
  (bif decide ((0:Int)<=s.1) && decide (s.1<=s.2.1) && decide (s.2.1<=(↑p1.2.2.1.length:Int))then ((zC_M (List.drop s.1.toNat (List.take s.2.1.toNat p1.2.2.1)) λ (x:Nat×Unit)=>zO_M x.1).bind λ v0=>some (v0.1,()))else none)
def zQ_M(s:Q4)(p1:Q1):Option (Bool×Unit):=zQ_m 0 s p1
abbrev zQ_e:Entry:={ f:=132,args:=.pair t46 (.pair (.ref t43) .unit),rS:=.pair t4 .unit,m:=λ x=>zQ_M x.1 x.2.1 }
theorem yR1:FnOK Tryz.prog zQ_e:=fF 0 Tryz.f132 (λ n x=>zQ_m n x.1 x.2.1) [] (y7 yQY (y7 yQt eNil))
end
end Go.Tw
end
section
set_option maxRecDepth 1000000
namespace Go.Tw
open Go.Vx Go.Vx.B Go.Proofs
noncomputable section
def yH1(n:Nat)(r1:Q2->Int->Option (Int×Unit))(ak:Q2)(aF:Int):Option (Int×Unit):=
  (bif decide (aF < (↑ak.2.1.length:Int))then ((idx ak.2.1 aF).bind λ v2=>((zi_M v2).bind λ v3=>(bif v3.1 != 0 then some (v3.1,())else r1 ak (i64.wrap (aF+1)))))else ((yI8 ak.2.1 ak.2.2.1).bind λ v4=>(bif v4.1 != 1 then some ((1:Int),())else some ((0:Int),()))))
def yAt(n:Nat)(k:Nat)(ak:Q2)(aF:Int):Option (Int×Unit):=
  iter (λ r y=>yH1 n (λ ak aF=>r ((ak,(aF,())),((),()))) y.1.1 y.1.2.1) k ((ak,(aF,())),((),()))
def zj_m(n:Nat)(t:Q2):Option (Int×Unit):=
  ((zJ_M t.1).bind λ v0=>(bif v0.1 != 0 then some (v0.1,())else (bif (↑t.2.1.length:Int) != (↑t.1.length:Int)then some ((2:Int),())else (bif (za t.2.2.1 (1:Int) (268435456:Int)).1 != 0 then some ((za t.2.2.1 (1:Int) (268435456:Int)).1,())else (yAt n n (t) ((0:Int)))))))
def yK8(ak:Q2)(aF:Int)(v2:Q4):Option ((Int×Unit)⊕Unit):=
  ((zi_M v2).bind λ v3=>(bif v3.1 != 0 then (some (Sum.inl ((v3.1,()))))else (some (Sum.inr ()))))
def yHB(ak:Q2):Option (Int×Unit):=
  ((yI8 ak.2.1 ak.2.2.1).bind λ v4=>(bif v4.1 != 1 then (some (((1:Int),())))else (some (((0:Int),())))))
theorem yFk(n:Nat)(hn:big<=n)(ak:Q2)(hx:List.length (ak.2.1) < lenMax):LeF some (yS (λ al aG aj=>yK8 ak al aG) (λ aj=>yHB ak) 0 (ak.2.1) ()) (yAt n n ak 0):=by
  refine yf (f:=some) (W:=λ aE al aj=>yAt n aE ak al) (λ aE al aj=>?_) hx () n (by unfold big at hn;unfold lenMax at hx;omega)
  show LeF _ _ (yH1 n (yAt n aE) ak al)
  exact y5 (yC λ v2=>(yC λ v3=>(y5 (y8 rfl) (y8 rfl)))) (y16 (yC λ v4=>(y5 (y8 rfl) (y8 rfl))))
def zj_M(t:Q2):Option (Int×Unit):=
  ((zJ_M t.1).bind λ v0=>(bif v0.1 != 0 then (some ((v0.1,())))else (bif (↑t.2.1.length:Int) != (↑t.1.length:Int)then (some (((2:Int),())))else (bif (za t.2.2.1 (1:Int) (268435456:Int)).1 != 0 then (some (((za t.2.2.1 (1:Int) (268435456:Int)).1,())))else (bif decide (List.length (t.2.1) < lenMax)then yS (λ al aG aj=>yK8 (t) al aG) (λ aj=>yHB (t)) 0 (t.2.1) ()else none)))))
abbrev zj_e:Entry:={ f:=21,args:=.pair t58 .unit,rS:=.pair t3 .unit,m:=λ x=>zj_M x.1 }
theorem yMk:FnOK Tryz.prog zj_e:=fB Tryz.f21 (λ n x=>zj_m n x.1) [[1,5]] (y7 yR8 (y7 yN4 (y7 yQc (y7 yOm eNil)))) λ n hn x=>(yC λ v0=>(y5 (y8 rfl) (y5 (y8 rfl) (y5 (y8 rfl) (yd λ hx=>by apply yFk n hn;exact hx)))))
def yNc(n:Nat)(l:List Nat):Option (List Int×Int×Unit):=
  ((yLv l (nat_lit 1065353216)).bind λ v0=>some (v0.1,v0.2.1,()))
def yNi(l:List Nat):Option (List Int×Int×Unit):=yNc 0 l
abbrev z0n_e:Entry:={ f:=35,args:=.pair t37 .unit,rS:=.pair t88 (.pair t38 .unit),m:=λ x=>yNi x.1 }
theorem yOe:FnOK Tryz.prog z0n_e:=fF 0 Tryz.f35 (λ n x=>yNc n x.1) [] (y7 yLk eNil)
def yQ4(n:Nat)(l:List Nat):Option (List Int×Int×Unit):=
  ((yLv l (nat_lit 3212836864)).bind λ v0=>some (v0.1,v0.2.1,()))
def yQ1(l:List Nat):Option (List Int×Int×Unit):=yQ4 0 l
abbrev z12_e:Entry:={ f:=36,args:=.pair t37 .unit,rS:=.pair t88 (.pair t38 .unit),m:=λ x=>yQ1 x.1 }
theorem yOY:FnOK Tryz.prog z12_e:=fF 0 Tryz.f36 (λ n x=>yQ4 n x.1) [] (y7 yLk eNil)
def yIZ(n:Nat)(r1:List (Q3)->Int->Int->List (List UInt8×Bool)->Option (Int×Unit))(ac:List (Q3))(aC:Int)(ax:Int)(aw:List (List UInt8×Bool)):Option (Int×Unit):=
  (bif decide (ax < aC)then ((idx ac ax).bind λ v2=>((zM_M (v2.1,v2.2.1,v2.2.2.1,())).bind λ v3=>((y3h [v3.1,(z16 ((y0N Ty.str Ty.bool aw v2.1).getD Bool.false) (9:Int)).1]).bind λ v4=>(bif v4.1 != 0 then some (v4.1,())else r1 ac aC (i64.wrap (ax+1)) (y1S Ty.str Ty.bool aw v2.1 Bool.true)))))else some ((0:Int),()))
def yBB(n:Nat)(k:Nat)(ac:List (Q3))(aC:Int)(ax:Int)(aw:List (List UInt8×Bool)):Option (Int×Unit):=
  iter (λ r y=>yIZ n (λ ac aC ax aw=>r ((ac,(aC,(ax,()))),((aw,()),()))) y.1.1 y.1.2.1 y.1.2.2.1 y.2.1.1) k ((ac,(aC,(ax,()))),((aw,()),()))
def zL_m(n:Nat)(l:List (Q3)):Option (Int×Unit):=
  ((y3h [(z16 ((↑l.length:Int)==0) (12:Int)).1,(z16 (decide ((↑l.length:Int) > 4)) (5:Int)).1]).bind λ v0=>(bif v0.1 != 0 then some (v0.1,())else (yBB n n (l) ((↑l.length:Int)) ((0:Int)) ([]))))
def yIq(ac:List (Q3))(ax:Int)(v2:Q3)(aw:List (List UInt8×Bool)):Option ((Int×Unit)⊕(List (List UInt8×Bool))):=
  ((zM_M (v2.1,v2.2.1,v2.2.2.1,())).bind λ v3=>((y3h [v3.1,(z16 ((y0N Ty.str Ty.bool aw v2.1).getD Bool.false) (9:Int)).1]).bind λ v4=>(bif v4.1 != 0 then (some (Sum.inl ((v4.1,()))))else (some (Sum.inr (y1S Ty.str Ty.bool aw v2.1 Bool.true))))))
def yNM(ac:List (Q3))(aw:List (List UInt8×Bool)):Option (Int×Unit):=
  (some (((0:Int),())))
theorem yGf(n:Nat)(hn:big<=n)(ac:List (Q3))(aw:List (List UInt8×Bool))(hx:List.length (ac) < lenMax):LeF some (yS (λ al aG aj=>yIq ac al aG aj) (λ aj=>yNM ac aj) 0 (ac) aw) (yBB n n ac (List.length (ac):Int) 0 aw):=by
  refine yf (f:=some) (W:=λ aE al aj=>yBB n aE ac (List.length (ac):Int) al aj) (λ aE al aj=>?_) hx aw n (by unfold big at hn;unfold lenMax at hx;omega)
  show LeF _ _ (yIZ n (yBB n aE) ac (List.length (ac):Int) al aj)
  exact y5 (yC λ v2=>(yC λ v3=>(yC λ v4=>(y5 (y8 rfl) (y8 rfl))))) (y16 (y8 rfl))
def zL_M(l:List (Q3)):Option (Int×Unit):=
  ((y3h [(z16 ((↑l.length:Int)==0) (12:Int)).1,(z16 (decide ((↑l.length:Int) > 4)) (5:Int)).1]).bind λ v0=>(bif v0.1 != 0 then (some ((v0.1,())))else (bif decide (List.length (l) < lenMax)then yS (λ al aG aj=>yIq (l) al aG aj) (λ aj=>yNM (l) aj) 0 (l) ([])else none)))
abbrev zL_e:Entry:={ f:=94,args:=.pair t28 .unit,rS:=.pair t38 .unit,m:=λ x=>zL_M x.1 }
theorem yQ6:FnOK Tryz.prog zL_e:=fB (mu:=[21]) Tryz.f94 (λ n x=>zL_m n x.1) [[4,22,23,24]] (y7 y77 (y7 y5A (y7 yRL eNil))) λ n hn x=>(yC λ v0=>(y5 (y8 rfl) (yd λ hx=>by apply yGf n hn;exact hx)))
def yNx(n:Nat)(l:List (Q3))(amplitudes:List (Q4))(den:Int):Option ((Q2)×Unit):=
  ((yHO amplitudes den).bind λ v0=>((z7_M l λ (x:(Q3)×Unit)=>zz_M x.1).bind λ v1=>((zG_M amplitudes λ (x:(Q4)×Unit)=>yPA x.1 v0.1).bind λ v2=>(bif v0.1==0 then none else some ((v1.1,v2.1,i64.wrap (den.tdiv v0.1),()),())))))
def yPb(l:List (Q3))(amplitudes:List (Q4))(den:Int):Option ((Q2)×Unit):=yNx 0 l amplitudes den
abbrev z0L_e:Entry:={ f:=50,args:=.pair t28 (.pair t30 (.pair t3 .unit)),rS:=.pair t32 .unit,m:=λ x=>yPb x.1 x.2.1 x.2.2.1 }
theorem yNp:FnOK Tryz.prog z0L_e:=fF (fz:=[7]) 0 Tryz.f50 (λ n x=>yNx n x.1 x.2.1 x.2.2.1) [] (y7 yLE (y7 yQi (y7 yR9 (y7 yOl (y7 yQh eNil)))))
def yP1(n:Nat)(year:Int):Option ((Q4)×Unit):=
  ((yKX (i64.wrap ((104:Int) - (z06 (i64.wrap (year.tmod (16:Int) - (8:Int)))).1)) (100:Int)).bind λ v0=>some ((v0.1.1,v0.1.2.1,()),()))
def yPS(year:Int):Option ((Q4)×Unit):=yP1 0 year
abbrev z0v_e:Entry:={ f:=88,args:=.pair t3 .unit,rS:=.pair t52 .unit,m:=λ x=>yPS x.1 }
theorem yPh:FnOK Tryz.prog z0v_e:=fF 0 Tryz.f88 (λ n x=>yP1 n x.1) [] (y7 yCy (y7 yIp eNil))
def zU_m(n:Nat)(rp:Q1):Option (Int×Unit):=
  ((yH8 rp.1).bind λ v0=>((yIO [(z0f (!v0.1) (8:Int)).1,(z09 rp.2.1 (0:Int) (100000:Int)).1,(z0f (decide ((↑rp.2.2.1.length:Int) > 4096)) (5:Int)).1]).bind λ v1=>(bif v1.1 != 0 then some (v1.1,())else ((zV_M rp.2.2.1).bind λ v2=>((zY_M rp.2.2.2.1).bind λ v3=>((yIO [v2.1,v3.1]).bind λ v4=>(bif v4.1 != 0 then some (v4.1,())else ((zB_M rp.2.2.2.1 λ (x:(Q4)×Unit)=>zP_M x.1 rp).bind λ v5=>(bif v5.1 then some ((14:Int),())else ((zB_M rp.2.2.2.1 λ (x:(Q4)×Unit)=>zQ_M x.1 rp).bind λ v6=>some ((z0f v6.1 (1:Int)).1,())))))))))))
def zU_M(rp:Q1):Option (Int×Unit):=zU_m 0 rp
abbrev zU_e:Entry:={ f:=109,args:=.pair t43 .unit,rS:=.pair t38 .unit,m:=λ x=>zU_M x.1 }
theorem yQz:FnOK Tryz.prog zU_e:=fF 0 Tryz.f109 (λ n x=>zU_m n x.1) [] (y7 yLe (y7 yBa (y7 yNy (y7 yLY (y7 yQS (y7 yRA (y7 yQR (y7 yR4 (y7 yR1 eNil)))))))))
def yQA(n:Nat)(a:Q3)(p1:List (Q3))(p2:Q1):Option (List (Q4)×Unit):=
  ((zA_M p1 λ (x:(Q3)×Unit)=>zo_M x.1 p2 a).bind λ v0=>some (v0.1,()))
def yPU(a:Q3)(p1:List (Q3))(p2:Q1):Option (List (Q4)×Unit):=yQA 0 a p1 p2
abbrev z07_e:Entry:={ f:=104,args:=.pair t34 (.pair (.ref t28) (.pair (.ref t43) .unit)),rS:=.pair t30 .unit,m:=λ x=>yPU x.1 x.2.1 x.2.2.1 }
theorem yPa:FnOK Tryz.prog z07_e:=fF 0 Tryz.f104 (λ n x=>yQA n x.1 x.2.1 x.2.2.1) [] (y7 yQW (y7 yMz eNil))
end
end Go.Tw
end
