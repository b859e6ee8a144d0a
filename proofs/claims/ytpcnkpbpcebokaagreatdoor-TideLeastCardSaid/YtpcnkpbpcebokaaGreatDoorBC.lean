import Derived.Test.YtpcnkpbpcebokaaGreatDoorBT
import Derived.Test.YtpcnkpbpcebokaaGreatDoorB0
import Derived.Test.YtpcnkpbpcebokaaGreatDoorBS
import Derived.Test.YtpcnkpbpcebokaaGreatDoorLP
import Derived.Test.YtpcnkpbpcebokaaGreatDoorBA
set_option linter.all false
open Go.IntKind (i64)
section
set_option maxRecDepth 1000000
namespace Go.Tw
open Go.Vx Go.Vx.B Go.Proofs
noncomputable section
def yK2(n:Nat)(r0:List (Q3)->Int->Option (Int×Unit))(r6:List (Q3)->Int->Int->Option (Int×Unit))(ay:List (Q3))(aw:Int)(aM:Int):Option (Int×Unit):=
  (bif decide (aM < aw)then ((idx ay aM).bind λ v7=>((idx ay aw).bind λ v8=>(bif v7.1==v8.1 then some ((9:Int),())else r6 ay aw (i64.wrap (aM+1)))))else r0 ay (i64.wrap (aw+1)))
def yBB(n:Nat)(r0:List (Q3)->Int->Option (Int×Unit))(k:Nat)(ay:List (Q3))(aw:Int)(aM:Int):Option (Int×Unit):=
  iter (λ r y=>yK2 n r0 (λ ay aw aM=>r ((ay,(aw,(aM,()))),((),()))) y.1.1 y.1.2.1 y.1.2.2.1) k ((ay,(aw,(aM,()))),((),()))
def yJz(n:Nat)(r0:List (Q3)->Int->Option (Int×Unit))(aj:List (Q3))(aD:Int):Option (Int×Unit):=
  (bif decide (aD < (↑aj.length:Int))then ((idx aj aD).bind λ v1=>((zl_M v1.1).bind λ v2=>((idx aj aD).bind λ v3=>((idx aj aD).bind λ v4=>((yDK [v2.1,(zc v3.2.1 (1:Int) (96:Int)).1,(zc v4.2.2.1 (0:Int) (3:Int)).1]).bind λ v5=>(bif v5.1 != 0 then some (v5.1,())else (yBB n r0 n (aj) (aD) ((0:Int)))))))))else some ((0:Int),()))
def yAu(n:Nat)(k:Nat)(aj:List (Q3))(aD:Int):Option (Int×Unit):=
  iter (λ r y=>yJz n (λ aj aD=>r ((aj,(aD,())),((),()))) y.1.1 y.1.2.1) k ((aj,(aD,())),((),()))
def zJ_m(n:Nat)(l:List (Q3)):Option (Int×Unit):=
  (bif (↑l.length:Int)==0 then some ((12:Int),())else (bif decide ((↑l.length:Int) > 4)then some ((5:Int),())else (yAu n n (l) ((0:Int)))))
def yHM(ay:List (Q3))(aw:Int)(aM:Int):Option (((Int×Unit)⊕Unit)⊕Unit):=
  ((idx ay aM).bind λ v7=>((idx ay aw).bind λ v8=>(bif v7.1==v8.1 then (some (Sum.inl (Sum.inl (((9:Int),())))))else (some (Sum.inr ())))))
def yNB(ay:List (Q3))(aw:Int):Option ((Int×Unit)⊕Unit):=
  (some (Sum.inr ()))
theorem yIm(n:Nat)(hn:big<=n)(r0:List (Q3)->Int->Option (Int×Unit))(ay:List (Q3))(aw:Int)(hx:(aw)<=9223372036854775807):LeF (elim some λ (ai:Unit)=>r0 ay (i64.wrap (aw+1))) (y0e (λ al ai=>yHM ay aw al) (λ ai=>yNB ay aw) ((aw) - 0).toNat 0 ()) (yBB n r0 n ay aw 0):=by
  refine y1L (f:=(elim some λ (ai:Unit)=>r0 ay (i64.wrap (aw+1)))) (W:=λ aF al ai=>yBB n r0 aF ay aw al) (body:=(λ al ai=>yHM ay aw al)) (fin:=(λ ai=>yNB ay aw)) (λ aF al ai=>?_) hx () n 0 (by decide) (by unfold big at hn;omega)
  show LeF _ _ (yK2 n r0 (yBB n r0 aF) ay aw al)
  exact y4 (y8 λ v7=>(y8 λ v8=>(y4 (y5 rfl) (y5 rfl)))) (yl (y5 rfl))
def yKd(aj:List (Q3))(aD:Int)(v1:Q3):Option ((Int×Unit)⊕Unit):=
  ((zl_M v1.1).bind λ v2=>((idx aj aD).bind λ v3=>((idx aj aD).bind λ v4=>((yDK [v2.1,(zc v3.2.1 (1:Int) (96:Int)).1,(zc v4.2.2.1 (0:Int) (3:Int)).1]).bind λ v5=>(bif v5.1 != 0 then (some (Sum.inl ((v5.1,()))))else (bif decide ((aD)<=9223372036854775807)then y0e (λ al ai=>yHM (aj) (aD) al) (λ ai=>yNB (aj) (aD)) ((aD) - 0).toNat 0 ()else none))))))
def yP9(aj:List (Q3)):Option (Int×Unit):=
  (some (((0:Int),())))
theorem yIL(n:Nat)(hn:big<=n)(aj:List (Q3))(hx:List.length (aj) < lenMax):LeF some (yH (λ al aN ai=>yKd aj al aN) (λ ai=>yP9 aj) 0 (aj) ()) (yAu n n aj 0):=by
  refine yK (f:=some) (W:=λ aF al ai=>yAu n aF aj al) (λ aF al ai=>?_) hx () n (by unfold big at hn;unfold lenMax at hx;omega)
  show LeF _ _ (yJz n (yAu n aF) aj al)
  exact y4 (y8 λ v1=>(y8 λ v2=>(y8 λ v3=>(y8 λ v4=>(y8 λ v5=>(y4 (y5 rfl) (yL λ hx=>by apply yIm n hn;exact hx))))))) (yl (y5 rfl))
def zJ_M(l:List (Q3)):Option (Int×Unit):=
  (bif (↑l.length:Int)==0 then (some (((12:Int),())))else (bif decide ((↑l.length:Int) > 4)then (some (((5:Int),())))else (bif decide (List.length (l) < lenMax)then yH (λ al aN ai=>yKd (l) al aN) (λ ai=>yP9 (l)) 0 (l) ()else none)))
abbrev zJ_e:Entry:={ f:=32,args:=.pair t22 .unit,rS:=.pair t3 .unit,m:=λ x=>zJ_M x.1 }
theorem yUc:FnOK Tryz.prog zJ_e:=fB Tryz.f32 (λ n x=>zJ_m n x.1) [[0,3],[0,3,5]] (yC ySU (yC ySu (yC yLD eNil))) λ n hn x=>(y4 (y5 rfl) (y4 (y5 rfl) (yL λ hx=>by apply yIL n hn;exact hx)))
def yG5(n:Nat)(r0:Q1->Int->List Int->Option (List Int×Unit))(aA:Q1)(aJ:Int)(aC:List Int):Option (List Int×Unit):=
  (bif decide (aJ < (↑aA.2.2.1.length:Int))then ((zu_M aA aJ).bind λ v1=>(bif v1.1 then (bif decide (aC.length+(1:Nat)<=memMax)then r0 aA (i64.wrap (aJ+1)) (aC++[i64.wrap (aA.2.1+aJ)])else none)else r0 aA (i64.wrap (aJ+1)) aC))else some (aC,()))
def y79(n:Nat)(k:Nat)(aA:Q1)(aJ:Int)(aC:List Int):Option (List Int×Unit):=
  iter (λ r y=>yG5 n (λ aA aJ aC=>r ((aA,(aJ,())),((aC,()),()))) y.1.1 y.1.2.1 y.2.1.1) k ((aA,(aJ,())),((aC,()),()))
def yU3(n:Nat)(rp:Q1):Option (List Int×Unit):=
  (y79 n n (rp) ((0:Int)) ([]))
def yGS(aA:Q1)(aJ:Int)(aC:List Int):Option ((List Int×Unit)⊕(List Int)):=
  ((zu_M aA aJ).bind λ v1=>(bif v1.1 then (bif decide (aC.length+(1:Nat)<=memMax)then (some (Sum.inr (aC++[i64.wrap (aA.2.1+aJ)])))else none)else (some (Sum.inr (aC)))))
def yDG(aA:Q1)(aC:List Int):Option (List Int×Unit):=
  (some ((aC,())))
theorem yEH(n:Nat)(hn:big<=n)(aA:Q1)(aC:List Int)(hx:((↑aA.2.2.1.length:Int))<=9223372036854775807):LeF some (y0e (λ al ai=>yGS aA al ai) (λ ai=>yDG aA ai) (((↑aA.2.2.1.length:Int)) - 0).toNat 0 aC) (y79 n n aA 0 aC):=by
  refine y1L (f:=some) (W:=λ aF al ai=>y79 n aF aA al ai) (λ aF al ai=>?_) hx aC n 0 (by decide) (by unfold big at hn;omega)
  show LeF _ _ (yG5 n (y79 n aF) aA al ai)
  exact y4 (y8 λ v1=>(y4 (y4 (y5 rfl) y02) (y5 rfl))) (yl (y5 rfl))
def yN1(rp:Q1):Option (List Int×Unit):=
  (bif decide (((↑rp.2.2.1.length:Int))<=9223372036854775807)then y0e (λ al ai=>yGS (rp) al ai) (λ ai=>yDG (rp) ai) (((↑rp.2.2.1.length:Int)) - 0).toNat 0 ([])else none)
abbrev z0S_e:Entry:={ f:=77,args:=.pair t94 .unit,rS:=.pair t41 .unit,m:=λ x=>yN1 x.1 }
theorem yNj:FnOK Tryz.prog z0S_e:=fB (mu:=[3]) Tryz.f77 (λ n x=>yU3 n x.1) [[1,3,4]] (yC yUU eNil) λ n hn x=>(yL λ hx=>by apply yEH n hn;exact hx)
def yQx(n:Nat)(p0:Int)(np:Int):Option (Int×Unit):=
  ((y2h [(z0c p0 (0:Int) (100000:Int)).1,(z0c np (0:Int) (4096:Int)).1]).bind λ v0=>(bif v0.1 != 0 then some (v0.1,())else some ((z0c (i64.wrap (p0+np)) (0:Int) (100000:Int)).1,())))
def yPh(p0:Int)(np:Int):Option (Int×Unit):=yQx 0 p0 np
abbrev z00_e:Entry:={ f:=105,args:=.pair t3 (.pair t3 .unit),rS:=.pair t28 .unit,m:=λ x=>yPh x.1 x.2.1 }
theorem yR1:FnOK Tryz.prog z00_e:=fF 0 Tryz.f105 (λ n x=>yQx n x.1 x.2.1) [] (yC yDE (yC y4z eNil))
def yQM(n:Nat)(t:Q2)(tick:Int):Option ((Q4)×Unit):=
  ((yNP t.1 t.2.1 tick).bind λ v0=>some ((v0.1.1,v0.1.2.1,()),()))
def yAM(t:Q2)(tick:Int):Option ((Q4)×Unit):=yQM 0 t tick
abbrev z0I_e:Entry:={ f:=106,args:=.pair t33 (.pair t3 .unit),rS:=.pair t57 .unit,m:=λ x=>yAM x.1 x.2.1 }
theorem yOG:FnOK Tryz.prog z0I_e:=fF 0 Tryz.f106 (λ n x=>yQM n x.1 x.2.1) [] (yC yRP eNil)
def zz_m(n:Nat)(z:Q4):Option (Int×Unit):=
  ((y2h [(z0c z.1 (-8796093022208:Int) (8796093022208:Int)).1,(z0c z.2.1 (-8796093022208:Int) (8796093022208:Int)).1]).bind λ v0=>some (v0.1,()))
def zz_M(z:Q4):Option (Int×Unit):=zz_m 0 z
abbrev zz_e:Entry:={ f:=116,args:=.pair t57 .unit,rS:=.pair t28 .unit,m:=λ x=>zz_M x.1 }
theorem yUl:FnOK Tryz.prog zz_e:=fF 0 Tryz.f116 (λ n x=>zz_m n x.1) [] (yC yDE (yC y4z eNil))
def yFo(n:Nat)(r0:Int->List (Q4)->Int->Int->Option (Int×Unit))(am:Int)(av:List (Q4))(aG:Int)(aq:Int):Option (Int×Unit):=
  (bif decide (aq < aG)then ((idx av aq).bind λ v1=>((y9U am [v1.1,v1.2.1]).bind λ v2=>r0 v2.1 av aG (i64.wrap (aq+1))))else some (am,()))
def y7l(n:Nat)(k:Nat)(am:Int)(av:List (Q4))(aG:Int)(aq:Int):Option (Int×Unit):=
  iter (λ r y=>yFo n (λ am av aG aq=>r ((am,(av,(aG,(aq,())))),((),()))) y.1.1 y.1.2.1 y.1.2.2.1 y.1.2.2.2.1) k ((am,(av,(aG,(aq,())))),((),()))
def yUT(n:Nat)(l:List (Q4))(den:Int):Option (Int×Unit):=
  (y7l n n (den) (l) ((↑l.length:Int)) ((0:Int)))
def y8C(av:List (Q4))(aq:Int)(v1:Q4)(am:Int):Option ((Int×Unit)⊕(Int)):=
  ((y9U am [v1.1,v1.2.1]).bind λ v2=>(some (Sum.inr (v2.1))))
def yH4(av:List (Q4))(am:Int):Option (Int×Unit):=
  (some ((am,())))
theorem yFM(n:Nat)(hn:big<=n)(av:List (Q4))(am:Int)(hx:List.length (av) < lenMax):LeF some (yH (λ al aN ai=>y8C av al aN ai) (λ ai=>yH4 av ai) 0 (av) am) (y7l n n am av (List.length (av):Int) 0):=by
  refine yK (f:=some) (W:=λ aF al ai=>y7l n aF ai av (List.length (av):Int) al) (λ aF al ai=>?_) hx am n (by unfold big at hn;unfold lenMax at hx;omega)
  show LeF _ _ (yFo n (y7l n aF) ai av (List.length (av):Int) al)
  exact y4 (y8 λ v1=>(y8 λ v2=>(y5 rfl))) (yl (y5 rfl))
def yFI(l:List (Q4))(den:Int):Option (Int×Unit):=
  (bif decide (List.length (l) < lenMax)then yH (λ al aN ai=>y8C (l) al aN ai) (λ ai=>yH4 (l) ai) 0 (l) (den)else none)
abbrev z0Y_e:Entry:={ f:=117,args:=.pair t23 (.pair t3 .unit),rS:=.pair t3 .unit,m:=λ x=>yFI x.1 x.2.1 }
theorem yOY:FnOK Tryz.prog z0Y_e:=fB Tryz.f117 (λ n x=>yUT n x.1 x.2.1) [[1,7,8,9]] (yC yNy eNil) λ n hn x=>(yL λ hx=>by apply yFM n hn;exact hx)
def zK_m(n:Nat)(m:List (List (Q4))):Option ((Q4)×Unit):=
  ((yO (8:Nat) (m,(0:Int),(0:Int),())).bind λ v0=>some ((v0.1.1,v0.1.2.1,()),()))
def zK_M(m:List (List (Q4))):Option ((Q4)×Unit):=zK_m 0 m
abbrev zK_e:Entry:={ f:=123,args:=.pair t183 .unit,rS:=.pair t57 .unit,m:=λ x=>zK_M x.1 }
theorem yMN:FnOK Tryz.prog zK_e:=fF 0 Tryz.f123 (λ n x=>zK_m n x.1) [] (yC yTp eNil)
def yQg(n:Nat)(num:Int)(den:Int):Option ((Q4)×Unit):=
  ((y9U den [num]).bind λ v0=>(bif v0.1==0 then none else (bif v0.1==0 then none else some ((i64.wrap (num.tdiv v0.1),i64.wrap (den.tdiv v0.1),()),()))))
def y9B(num:Int)(den:Int):Option ((Q4)×Unit):=yQg 0 num den
abbrev z0w_e:Entry:={ f:=127,args:=.pair t3 (.pair t3 .unit),rS:=.pair t69 .unit,m:=λ x=>y9B x.1 x.2.1 }
theorem yM8:FnOK Tryz.prog z0w_e:=fF 0 Tryz.f127 (λ n x=>yQg n x.1 x.2.1) [] (yC yNy eNil)
def yH5(n:Nat)(r2:List Nat->Nat->Int->Int->List Int->Option (List Int×Int×Unit))(ax:List Nat)(ae:Nat)(af:Int)(aE:Int)(az:List Int):Option (List Int×Int×Unit):=
  (bif decide (aE < (↑ax.length:Int))then ((idx ax aE).bind λ v3=>((idx ax (i64.wrap (aE - (1:Int)))).bind λ v4=>(bif yT BinOp.gtr FloatKind.f32 (yu BinOp.mul FloatKind.f32 ae (yu BinOp.sub FloatKind.f32 v3 v4)) (nat_lit 0)then r2 ax ae aE (i64.wrap (aE+1)) az else (bif yT BinOp.lss FloatKind.f32 (yu BinOp.mul FloatKind.f32 ae (yu BinOp.sub FloatKind.f32 v3 v4)) (nat_lit 0)then (bif decide (af >= 0)then (bif decide (az.length+(1:Nat)<=memMax)then r2 ax ae (-1:Int) (i64.wrap (aE+1)) (az++[af])else none)else r2 ax ae (-1:Int) (i64.wrap (aE+1)) az)else r2 ax ae af (i64.wrap (aE+1)) az))))else some (az,(0:Int),()))
def y7Q(n:Nat)(k:Nat)(ax:List Nat)(ae:Nat)(af:Int)(aE:Int)(az:List Int):Option (List Int×Int×Unit):=
  iter (λ r y=>yH5 n (λ ax ae af aE az=>r ((ax,(ae,(af,(aE,())))),((az,()),()))) y.1.1 y.1.2.1 y.1.2.2.1 y.1.2.2.2.1 y.2.1.1) k ((ax,(ae,(af,(aE,())))),((az,()),()))
def yTk(n:Nat)(l:List Nat)(direction:Nat):Option (List Int×Int×Unit):=
  (bif decide ((↑l.length:Int) > 4096)then some ([],(5:Int),())else ((zI_M l λ (x:Nat×Unit)=>zY_M x.1).bind λ v0=>((y2h v0.1).bind λ v1=>(bif v1.1 != 0 then some ([],v1.1,())else (y7Q n n (l) (direction) ((-1:Int)) ((1:Int)) ([]))))))
def yNt(ax:List Nat)(ae:Nat)(aE:Int)(af:Int)(az:List Int):Option ((List Int×Int×Unit)⊕(Int×List Int)):=
  ((idx ax aE).bind λ v3=>((idx ax (i64.wrap (aE - (1:Int)))).bind λ v4=>(bif yT BinOp.gtr FloatKind.f32 (yu BinOp.mul FloatKind.f32 ae (yu BinOp.sub FloatKind.f32 v3 v4)) (nat_lit 0)then (some (Sum.inr ((aE),(az))))else (bif yT BinOp.lss FloatKind.f32 (yu BinOp.mul FloatKind.f32 ae (yu BinOp.sub FloatKind.f32 v3 v4)) (nat_lit 0)then (bif decide (af >= 0)then (bif decide (az.length+(1:Nat)<=memMax)then (some (Sum.inr (((-1:Int)),(az++[af]))))else none)else (some (Sum.inr (((-1:Int)),(az)))))else (some (Sum.inr ((af),(az))))))))
def yOP(ax:List Nat)(ae:Nat)(af:Int)(az:List Int):Option (List Int×Int×Unit):=
  (some ((az,(0:Int),())))
theorem yEY(n:Nat)(hn:big<=n)(ax:List Nat)(ae:Nat)(af:Int)(az:List Int)(hx:((↑ax.length:Int))<=9223372036854775807):LeF some (y0e (λ al ai=>yNt ax ae al ai.1 ai.2) (λ ai=>yOP ax ae ai.1 ai.2) (((↑ax.length:Int)) - 1).toNat 1 (af,az)) (y7Q n n ax ae af 1 az):=by
  refine y1L (f:=some) (W:=λ aF al ai=>y7Q n aF ax ae ai.1 al ai.2) (λ aF al ai=>?_) hx (af,az) n 1 (by decide) (by unfold big at hn;omega)
  show LeF _ _ (yH5 n (y7Q n aF) ax ae ai.1 al ai.2)
  exact y4 (y8 λ v3=>(y8 λ v4=>(y4 (y5 rfl) (y4 (y4 (y4 (y5 rfl) y02) (y5 rfl)) (y5 rfl))))) (yl (y5 rfl))
def yPw(l:List Nat)(direction:Nat):Option (List Int×Int×Unit):=
  (bif decide ((↑l.length:Int) > 4096)then (some (([],(5:Int),())))else ((zI_M l λ (x:Nat×Unit)=>zY_M x.1).bind λ v0=>((y2h v0.1).bind λ v1=>(bif v1.1 != 0 then (some (([],v1.1,())))else (bif decide (((↑l.length:Int))<=9223372036854775807)then y0e (λ al ai=>yNt (l) (direction) al ai.1 ai.2) (λ ai=>yOP (l) (direction) ai.1 ai.2) (((↑l.length:Int)) - 1).toNat 1 (((-1:Int)),([]))else none)))))
abbrev z0b_e:Entry:={ f:=154,args:=.pair t35 (.pair t61 .unit),rS:=.pair t41 (.pair t28 .unit),m:=λ x=>yPw x.1 x.2.1 }
theorem yOD:FnOK Tryz.prog z0b_e:=fB (mu:=[7]) Tryz.f154 (λ n x=>yTk n x.1 x.2.1) [[0,1,7,8,9]] (yC yUS (yC yRD (yC y4z eNil))) λ n hn x=>(y4 (y5 rfl) (y8 λ v0=>(y8 λ v1=>(y4 (y5 rfl) (yL λ hx=>by apply yEY n hn;exact hx)))))
def zM_m(n:Nat)(c:Q3):Option (Int×Unit):=
  ((yJ0 c.1).bind λ v0=>((y2h [(z18 (!v0.1) (8:Int)).1,(z0c c.2.1 (1:Int) (96:Int)).1,(z0c c.2.2.1 (0:Int) (3:Int)).1]).bind λ v1=>some (v1.1,())))
def zM_M(c:Q3):Option (Int×Unit):=zM_m 0 c
abbrev zM_e:Entry:={ f:=160,args:=.pair t55 .unit,rS:=.pair t28 .unit,m:=λ x=>zM_M x.1 }
theorem yU8:FnOK Tryz.prog zM_e:=fF 0 Tryz.f160 (λ n x=>zM_m n x.1) [] (yC yOb (yC y6u (yC yDE (yC y4z eNil))))
def yQv(n:Nat)(c:Q3)(p1:Q1)(p2:List (Q3))(p3:Int):Option ((Q4)×Unit):=
  ((idx p2 p3).bind λ v0=>((yF3 p1 c v0).bind λ v1=>some ((v1.1.1,v1.1.2.1,()),())))
def yP0(c:Q3)(p1:Q1)(p2:List (Q3))(p3:Int):Option ((Q4)×Unit):=yQv 0 c p1 p2 p3
abbrev z06_e:Entry:={ f:=163,args:=.pair t55 (.pair (.ref t60) (.pair (.ref t31) (.pair (.ref t3) .unit))),rS:=.pair t57 .unit,m:=λ x=>yP0 x.1 x.2.1 x.2.2.1 x.2.2.2.1 }
theorem yT4:FnOK Tryz.prog z06_e:=fF 0 Tryz.f163 (λ n x=>yQv n x.1 x.2.1 x.2.2.1 x.2.2.2.1) [] (yC yIv eNil)
def yPp(n:Nat)(f:Nat)(sign:Int):Option (Bool×Unit):=
  (bif sign==0 then ((absM f).bind λ v0=>some (yT BinOp.gtr FloatKind.f64 v0.1 (nat_lit 9218868437227405311),()))else (bif decide (sign < 0)then some (yT BinOp.gtr FloatKind.f64 (yFr FloatKind.f64 f) (nat_lit 9218868437227405311),())else some (yT BinOp.gtr FloatKind.f64 f (nat_lit 9218868437227405311),())))
def yMv(f:Nat)(sign:Int):Option (Bool×Unit):=yPp 0 f sign
abbrev z0i_e:Entry:={ f:=172,args:=.pair t210 (.pair t3 .unit),rS:=.pair t4 .unit,m:=λ x=>yMv x.1 x.2.1 }
theorem ySz:FnOK Tryz.prog z0i_e:=fF 0 Tryz.f172 (λ n x=>yPp n x.1 x.2.1) [] (yC yS9 eNil)
def zt_m(n:Nat)(b:Q3)(p1:Q1)(p2:Q3):Option ((Q4)×Unit):=
  ((yF3 p1 p2 b).bind λ v0=>some ((v0.1.1,v0.1.2.1,()),()))
def zt_M(b:Q3)(p1:Q1)(p2:Q3):Option ((Q4)×Unit):=zt_m 0 b p1 p2
abbrev zt_e:Entry:={ f:=193,args:=.pair t55 (.pair (.ref t60) (.pair (.ref t55) .unit)),rS:=.pair t57 .unit,m:=λ x=>zt_M x.1 x.2.1 x.2.2.1 }
theorem yUb:FnOK Tryz.prog zt_e:=fF 0 Tryz.f193 (λ n x=>zt_m n x.1 x.2.1 x.2.2.1) [] (yC yIv eNil)
def yM4(n:Nat)(r0:Int->List Nat->Int->Int->Option (Int×Unit))(ak:Int)(aB:List Nat)(av:Int)(aG:Int):Option (Int×Unit):=
  (bif decide (aG < av)then ((idx aB aG).bind λ v1=>((zY_M v1).bind λ v2=>(bif v2.1 != 0 then some (v2.1,())else r0 v2.1 aB av (i64.wrap (aG+1)))))else some (ak,()))
def yAh(n:Nat)(k:Nat)(ak:Int)(aB:List Nat)(av:Int)(aG:Int):Option (Int×Unit):=
  iter (λ r y=>yM4 n (λ ak aB av aG=>r ((ak,(aB,(av,(aG,())))),((),()))) y.1.1 y.1.2.1 y.1.2.2.1 y.1.2.2.2.1) k ((ak,(aB,(av,(aG,())))),((),()))
def zU_m(n:Nat)(l:List Nat):Option (Int×Unit):=
  (yAh n n ((0:Int)) (l) ((↑l.length:Int)) ((0:Int)))
def yMH(aB:List Nat)(aG:Int)(v1:Nat)(ak:Int):Option ((Int×Unit)⊕(Int)):=
  ((zY_M v1).bind λ v2=>(bif v2.1 != 0 then (some (Sum.inl ((v2.1,()))))else (some (Sum.inr (v2.1)))))
def yQS(aB:List Nat)(ak:Int):Option (Int×Unit):=
  (some ((ak,())))
theorem yHT(n:Nat)(hn:big<=n)(aB:List Nat)(ak:Int)(hx:List.length (aB) < lenMax):LeF some (yH (λ al aN ai=>yMH aB al aN ai) (λ ai=>yQS aB ai) 0 (aB) ak) (yAh n n ak aB (List.length (aB):Int) 0):=by
  refine yK (f:=some) (W:=λ aF al ai=>yAh n aF ai aB (List.length (aB):Int) al) (λ aF al ai=>?_) hx ak n (by unfold big at hn;unfold lenMax at hx;omega)
  show LeF _ _ (yM4 n (yAh n aF) ai aB (List.length (aB):Int) al)
  exact y4 (y8 λ v1=>(y8 λ v2=>(y4 (y5 rfl) (y5 rfl)))) (yl (y5 rfl))
def zU_M(l:List Nat):Option (Int×Unit):=
  (bif decide (List.length (l) < lenMax)then yH (λ al aN ai=>yMH (l) al aN ai) (λ ai=>yQS (l) ai) 0 (l) ((0:Int))else none)
abbrev zU_e:Entry:={ f:=202,args:=.pair t35 .unit,rS:=.pair t28 .unit,m:=λ x=>zU_M x.1 }
theorem yTR:FnOK Tryz.prog zU_e:=fB Tryz.f202 (λ n x=>zU_m n x.1) [[3,6,7,8]] (yC yRD eNil) λ n hn x=>(yL λ hx=>by apply yHT n hn;exact hx)
def yKP(n:Nat)(r0:List (Q4)->List (Q4)->Int->Int->Option (Int×Unit))(aj:List (Q4))(aq:List (Q4))(aK:Int)(ar:Int):Option (Int×Unit):=
  (bif decide (ar < aK)then ((idx aq ar).bind λ v1=>(bif decide (ar > 0)then ((idx aj (if Bool.true=Bool.true then if i64.wrap (ar - (1:Int)) > 0 then i64.wrap (ar - (1:Int))else (0:Int)else if i64.wrap (ar - (1:Int)) < 0 then i64.wrap (ar - (1:Int))else (0:Int))).bind λ v2=>((yBm [(zj (v1.1,v1.2.1,())).1,(z0d (decide (v1.1<=v2.2.1)) (11:Int)).1]).bind λ v3=>(bif v3.1 != 0 then some (v3.1,())else r0 aj aq aK (i64.wrap (ar+1)))))else ((yBm [(zj (v1.1,v1.2.1,())).1,(z0d Bool.false (11:Int)).1]).bind λ v4=>(bif v4.1 != 0 then some (v4.1,())else r0 aj aq aK (i64.wrap (ar+1))))))else some ((0:Int),()))
def yBE(n:Nat)(k:Nat)(aj:List (Q4))(aq:List (Q4))(aK:Int)(ar:Int):Option (Int×Unit):=
  iter (λ r y=>yKP n (λ aj aq aK ar=>r ((aj,(aq,(aK,(ar,())))),((),()))) y.1.1 y.1.2.1 y.1.2.2.1 y.1.2.2.2.1) k ((aj,(aq,(aK,(ar,())))),((),()))
def zZ_m(n:Nat)(l:List (Q4)):Option (Int×Unit):=
  (bif decide ((↑l.length:Int) > 2048)then some ((5:Int),())else (yBE n n (l) (l) ((↑l.length:Int)) ((0:Int))))
def yML(aj:List (Q4))(aq:List (Q4))(ar:Int)(v1:Q4):Option ((Int×Unit)⊕Unit):=
  (bif decide (ar > 0)then ((idx aj (if Bool.true=Bool.true then if i64.wrap (ar - (1:Int)) > 0 then i64.wrap (ar - (1:Int))else (0:Int)else if i64.wrap (ar - (1:Int)) < 0 then i64.wrap (ar - (1:Int))else (0:Int))).bind λ v2=>((yBm [(zj (v1.1,v1.2.1,())).1,(z0d (decide (v1.1<=v2.2.1)) (11:Int)).1]).bind λ v3=>(bif v3.1 != 0 then (some (Sum.inl ((v3.1,()))))else (some (Sum.inr ())))))else ((yBm [(zj (v1.1,v1.2.1,())).1,(z0d Bool.false (11:Int)).1]).bind λ v4=>(bif v4.1 != 0 then (some (Sum.inl ((v4.1,()))))else (some (Sum.inr ())))))
def yPH(aj:List (Q4))(aq:List (Q4)):Option (Int×Unit):=
  (some (((0:Int),())))
theorem yIM(n:Nat)(hn:big<=n)(aj:List (Q4))(aq:List (Q4))(hx:List.length (aq) < lenMax):LeF some (yH (λ al aN ai=>yML aj aq al aN) (λ ai=>yPH aj aq) 0 (aq) ()) (yBE n n aj aq (List.length (aq):Int) 0):=by
  refine yK (f:=some) (W:=λ aF al ai=>yBE n aF aj aq (List.length (aq):Int) al) (λ aF al ai=>?_) hx () n (by unfold big at hn;unfold lenMax at hx;omega)
  show LeF _ _ (yKP n (yBE n aF) aj aq (List.length (aq):Int) al)
  exact y4 (y8 λ v1=>(y4 (y8 λ v2=>(y8 λ v3=>(y4 (y5 rfl) (y5 rfl)))) (y8 λ v4=>(y4 (y5 rfl) (y5 rfl))))) (yl (y5 rfl))
def zZ_M(l:List (Q4)):Option (Int×Unit):=
  (bif decide ((↑l.length:Int) > 2048)then (some (((5:Int),())))else (bif decide (List.length (l) < lenMax)then yH (λ al aN ai=>yML (l) (l) al aN) (λ ai=>yPH (l) (l)) 0 (l) ()else none))
abbrev zZ_e:Entry:={ f:=203,args:=.pair t58 .unit,rS:=.pair t28 .unit,m:=λ x=>zZ_M x.1 }
theorem yV0:FnOK Tryz.prog zZ_e:=fB Tryz.f203 (λ n x=>zZ_m n x.1) [[0,9,10,11]] (yC yTd (yC yCP (yC yON eNil))) λ n hn x=>(y4 (y5 rfl) (yL λ hx=>by apply yIM n hn;exact hx))
def zQ_m(n:Nat)(s:Q4)(p1:Q1):Option (Bool×Unit):=
  (bif decide ((0:Int)<=s.1) && decide (s.1<=s.2.1) && decide (s.2.1<=(↑p1.2.2.1.length:Int))then ((zC_M (List.drop s.1.toNat (List.take s.2.1.toNat p1.2.2.1)) λ (x:Nat×Unit)=>zO_M x.1).bind λ v0=>some (v0.1,()))else none)
def zQ_M(s:Q4)(p1:Q1):Option (Bool×Unit):=zQ_m 0 s p1
abbrev zQ_e:Entry:={ f:=206,args:=.pair t63 (.pair (.ref t60) .unit),rS:=.pair t4 .unit,m:=λ x=>zQ_M x.1 x.2.1 }
theorem yTe:FnOK Tryz.prog zQ_e:=fF 0 Tryz.f206 (λ n x=>zQ_m n x.1 x.2.1) [] (yC yTZ (yC yTJ eNil))
end
end Go.Tw
end
section
set_option maxRecDepth 1000000
namespace Go.Tw
open Go.Vx Go.Vx.B Go.Proofs
noncomputable section
def yRf(n:Nat)(l:List Nat):Option (List Int×Int×Unit):=
  ((yPw l (nat_lit 1065353216)).bind λ v0=>some (v0.1,v0.2.1,()))
def ySL(l:List Nat):Option (List Int×Int×Unit):=yRf 0 l
abbrev z0o_e:Entry:={ f:=71,args:=.pair t35 .unit,rS:=.pair t41 (.pair t28 .unit),m:=λ x=>ySL x.1 }
theorem ySN:FnOK Tryz.prog z0o_e:=fF 0 Tryz.f71 (λ n x=>yRf n x.1) [] (yC yOD eNil)
def ySg(n:Nat)(l:List Nat):Option (List Int×Int×Unit):=
  ((yPw l (nat_lit 3212836864)).bind λ v0=>some (v0.1,v0.2.1,()))
def yRl(l:List Nat):Option (List Int×Int×Unit):=ySg 0 l
abbrev z14_e:Entry:={ f:=72,args:=.pair t35 .unit,rS:=.pair t41 (.pair t28 .unit),m:=λ x=>yRl x.1 }
theorem yR3:FnOK Tryz.prog z14_e:=fF 0 Tryz.f72 (λ n x=>ySg n x.1) [] (yC yOD eNil)
def yJn(n:Nat)(r1:List (Q3)->Int->Int->List (List UInt8×Bool)->Option (Int×Unit))(au:List (Q3))(aL:Int)(aI:Int)(aH:List (List UInt8×Bool)):Option (Int×Unit):=
  (bif decide (aI < aL)then ((idx au aI).bind λ v2=>((zM_M (v2.1,v2.2.1,v2.2.2.1,())).bind λ v3=>((y2h [v3.1,(z18 ((y0T Ty.str Ty.bool aH v2.1).getD Bool.false) (9:Int)).1]).bind λ v4=>(bif v4.1 != 0 then some (v4.1,())else r1 au aL (i64.wrap (aI+1)) (y1X Ty.str Ty.bool aH v2.1 Bool.true)))))else some ((0:Int),()))
def yBJ(n:Nat)(k:Nat)(au:List (Q3))(aL:Int)(aI:Int)(aH:List (List UInt8×Bool)):Option (Int×Unit):=
  iter (λ r y=>yJn n (λ au aL aI aH=>r ((au,(aL,(aI,()))),((aH,()),()))) y.1.1 y.1.2.1 y.1.2.2.1 y.2.1.1) k ((au,(aL,(aI,()))),((aH,()),()))
def zL_m(n:Nat)(l:List (Q3)):Option (Int×Unit):=
  ((y2h [(z18 ((↑l.length:Int)==0) (12:Int)).1,(z18 (decide ((↑l.length:Int) > 4)) (5:Int)).1]).bind λ v0=>(bif v0.1 != 0 then some (v0.1,())else (yBJ n n (l) ((↑l.length:Int)) ((0:Int)) ([]))))
def yKZ(au:List (Q3))(aI:Int)(v2:Q3)(aH:List (List UInt8×Bool)):Option ((Int×Unit)⊕(List (List UInt8×Bool))):=
  ((zM_M (v2.1,v2.2.1,v2.2.2.1,())).bind λ v3=>((y2h [v3.1,(z18 ((y0T Ty.str Ty.bool aH v2.1).getD Bool.false) (9:Int)).1]).bind λ v4=>(bif v4.1 != 0 then (some (Sum.inl ((v4.1,()))))else (some (Sum.inr (y1X Ty.str Ty.bool aH v2.1 Bool.true))))))
def yOs(au:List (Q3))(aH:List (List UInt8×Bool)):Option (Int×Unit):=
  (some (((0:Int),())))
theorem yHz(n:Nat)(hn:big<=n)(au:List (Q3))(aH:List (List UInt8×Bool))(hx:List.length (au) < lenMax):LeF some (yH (λ al aN ai=>yKZ au al aN ai) (λ ai=>yOs au ai) 0 (au) aH) (yBJ n n au (List.length (au):Int) 0 aH):=by
  refine yK (f:=some) (W:=λ aF al ai=>yBJ n aF au (List.length (au):Int) al ai) (λ aF al ai=>?_) hx aH n (by unfold big at hn;unfold lenMax at hx;omega)
  show LeF _ _ (yJn n (yBJ n aF) au (List.length (au):Int) al ai)
  exact y4 (y8 λ v2=>(y8 λ v3=>(y8 λ v4=>(y4 (y5 rfl) (y5 rfl))))) (yl (y5 rfl))
def zL_M(l:List (Q3)):Option (Int×Unit):=
  ((y2h [(z18 ((↑l.length:Int)==0) (12:Int)).1,(z18 (decide ((↑l.length:Int) > 4)) (5:Int)).1]).bind λ v0=>(bif v0.1 != 0 then (some ((v0.1,())))else (bif decide (List.length (l) < lenMax)then yH (λ al aN ai=>yKZ (l) al aN ai) (λ ai=>yOs (l) ai) 0 (l) ([])else none)))
abbrev zL_e:Entry:={ f:=88,args:=.pair t31 .unit,rS:=.pair t28 .unit,m:=λ x=>zL_M x.1 }
theorem yRr:FnOK Tryz.prog zL_e:=fB (mu:=[21]) Tryz.f88 (λ n x=>zL_m n x.1) [[4,22,23,24]] (yC y6u (yC y4z (yC yU8 eNil))) λ n hn x=>(y8 λ v0=>(y4 (y5 rfl) (yL λ hx=>by apply yHz n hn;exact hx)))
def zb_m(n:Nat)(xp:Nat):Option (Int×Unit):=
  ((y1n FloatKind.f32 xp FloatKind.f64).bind λ v0=>(bif (z0j v0).1 then some ((1:Int),())else ((yMv v0 (0:Int)).bind λ v1=>(bif v1.1 then some ((1:Int),())else (bif yT BinOp.gtr FloatKind.f64 v0 (nat_lit 4634204016564240384)then some ((3:Int),())else (bif yT BinOp.lss FloatKind.f64 v0 (nat_lit 13857576053419016192)then some ((3:Int),())else ((y90 (yu BinOp.mul FloatKind.f64 (nat_lit 4625196817309499392) v0)).bind λ v4=>(bif yT BinOp.neq FloatKind.f64 (yu BinOp.mul FloatKind.f64 (nat_lit 4625196817309499392) v0) v4.1 then some ((3:Int),())else some ((0:Int),())))))))))
def zb_M(xp:Nat):Option (Int×Unit):=zb_m 0 xp
abbrev zb_e:Entry:={ f:=96,args:=.pair t61 .unit,rS:=.pair t3 .unit,m:=λ x=>zb_M x.1 }
theorem yTb:FnOK Tryz.prog zb_e:=fF 0 Tryz.f96 (λ n x=>zb_m n x.1) [] (yC ySs (yC ySz (yC yRa eNil)))
def yQE(n:Nat)(l:List (Q3))(amplitudes:List (Q4))(den:Int):Option ((Q2)×Unit):=
  ((yFI amplitudes den).bind λ v0=>((z7_M l λ (x:(Q3)×Unit)=>yPv x.1).bind λ v1=>((zG_M amplitudes λ (x:(Q4)×Unit)=>yNS x.1 v0.1).bind λ v2=>(bif v0.1==0 then none else some ((v1.1,v2.1,i64.wrap (den.tdiv v0.1),()),())))))
def yL0(l:List (Q3))(amplitudes:List (Q4))(den:Int):Option ((Q2)×Unit):=yQE 0 l amplitudes den
abbrev z0L_e:Entry:={ f:=121,args:=.pair t31 (.pair t23 (.pair t3 .unit)),rS:=.pair t33 .unit,m:=λ x=>yL0 x.1 x.2.1 x.2.2.1 }
theorem yRi:FnOK Tryz.prog z0L_e:=fF (fz:=[7]) 0 Tryz.f121 (λ n x=>yQE n x.1 x.2.1 x.2.2.1) [] (yC yOY (yC yTQ (yC yRV (yC ySH (yC yTI eNil)))))
def yQn(n:Nat)(year:Int):Option ((Q4)×Unit):=
  ((y9B (i64.wrap ((104:Int) - (z08 (i64.wrap (year.tmod (16:Int) - (8:Int)))).1)) (100:Int)).bind λ v0=>some ((v0.1.1,v0.1.2.1,()),()))
def ySr(year:Int):Option ((Q4)×Unit):=yQn 0 year
abbrev z0v_e:Entry:={ f:=136,args:=.pair t3 .unit,rS:=.pair t69 .unit,m:=λ x=>ySr x.1 }
theorem ySf:FnOK Tryz.prog z0v_e:=fF 0 Tryz.f136 (λ n x=>yQn n x.1) [] (yC yCZ (yC yM8 eNil))
def zT_m(n:Nat)(rp:Q1):Option (Int×Unit):=
  ((yJ0 rp.1).bind λ v0=>((yBm [(z0d (!v0.1) (8:Int)).1,(z0B rp.2.1 (0:Int) (100000:Int)).1,(z0d (decide ((↑rp.2.2.1.length:Int) > 4096)) (5:Int)).1]).bind λ v1=>(bif v1.1 != 0 then some (v1.1,())else ((zU_M rp.2.2.1).bind λ v2=>((zZ_M rp.2.2.2.1).bind λ v3=>((yBm [v2.1,v3.1]).bind λ v4=>(bif v4.1 != 0 then some (v4.1,())else ((zB_M rp.2.2.2.1 λ (x:(Q4)×Unit)=>zP_M x.1 rp).bind λ v5=>(bif v5.1 then some ((14:Int),())else ((zB_M rp.2.2.2.1 λ (x:(Q4)×Unit)=>zQ_M x.1 rp).bind λ v6=>some ((z0d v6.1 (1:Int)).1,())))))))))))
def zT_M(rp:Q1):Option (Int×Unit):=zT_m 0 rp
abbrev zT_e:Entry:={ f:=157,args:=.pair t60 .unit,rS:=.pair t28 .unit,m:=λ x=>zT_M x.1 }
theorem yUV:FnOK Tryz.prog zT_e:=fF 0 Tryz.f157 (λ n x=>zT_m n x.1) [] (yC yOb (yC yCP (yC yRb (yC yON (yC yTR (yC yV0 (yC yUK (yC yUm (yC yTe eNil)))))))))
def yPt(n:Nat)(a:Q3)(p1:List (Q3))(p2:Q1):Option (List (Q4)×Unit):=
  ((zA_M p1 λ (x:(Q3)×Unit)=>zt_M x.1 p2 a).bind λ v0=>some (v0.1,()))
def yIx(a:Q3)(p1:List (Q3))(p2:Q1):Option (List (Q4)×Unit):=yPt 0 a p1 p2
abbrev z09_e:Entry:={ f:=192,args:=.pair t55 (.pair (.ref t31) (.pair (.ref t60) .unit)),rS:=.pair t23 .unit,m:=λ x=>yIx x.1 x.2.1 x.2.2.1 }
theorem yQp:FnOK Tryz.prog z09_e:=fF 0 Tryz.f192 (λ n x=>yPt n x.1 x.2.1 x.2.2.1) [] (yC yUb (yC yOg eNil))
end
end Go.Tw
end
