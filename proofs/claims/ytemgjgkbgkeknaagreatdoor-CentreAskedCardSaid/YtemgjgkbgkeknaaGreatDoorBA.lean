import Derived.Test.YtemgjgkbgkeknaaGreatDoorBT
import Derived.Test.YtemgjgkbgkeknaaGreatDoorB0
import Derived.Test.YtemgjgkbgkeknaaGreatDoorSB
import Derived.Test.YtemgjgkbgkeknaaGreatDoorLZ
set_option linter.all false
open Go.IntKind (i64)
section
set_option maxRecDepth 1000000
namespace Go.Tw
open Go.Vx Go.Vx.B Go.Proofs
noncomputable section
def yE6(n:Nat)(r0:List (Q2)->Int->Option (Bool×Unit))(r11:List (Q2)->Int->Int->Option (Bool×Unit))(bQ:List (Q2))(bR cM:Int):Option (Bool×Unit):=
  ((idx bQ bR).bind λ v12=>(bif decide (cM < (↑v12.2.2.1.length:Int))then ((idx bQ bR).bind λ v13=>((idx v13.2.2.1 cM).bind λ v14=>(bif decide ((↑v14.length:Int) > 40)then some (Bool.false,())else r11 bQ bR (i64.wrap (cM+1)))))else r0 bQ (i64.wrap (bR+1))))
def y7M(n:Nat)(r0:List (Q2)->Int->Option (Bool×Unit))(k:Nat)(bQ:List (Q2))(bR cM:Int):Option (Bool×Unit):=
  iter (λ r y=>yE6 n r0 (λ bQ bR cM=>r ((bQ,(bR,(cM,()))),((),()))) y.1.1 y.1.2.1 y.1.2.2.1) k ((bQ,(bR,(cM,()))),((),()))
def yHd(n:Nat)(r0:List (Q2)->Int->Option (Bool×Unit))(aB:List (Q2))(bd:Int):Option (Bool×Unit):=
  (bif decide (bd < (↑aB.length:Int))then ((idx aB bd).bind λ v1=>(bif decide ((↑v1.2.1.length:Int) > 40)then some (Bool.false,())else ((idx aB bd).bind λ v2=>(bif decide ((↑v2.2.2.1.length:Int) > 6)then some (Bool.false,())else ((idx aB bd).bind λ v3=>(bif decide ((↑v3.2.2.2.1.length:Int) > 8)then some (Bool.false,())else ((idx aB bd).bind λ v4=>(bif decide ((↑v4.2.2.2.2.1.length:Int) > 200)then some (Bool.false,())else (y7M n r0 n (aB) (bd) ((0:Int)))))))))))else some (Bool.true,()))
def yAk(n k:Nat)(aB:List (Q2))(bd:Int):Option (Bool×Unit):=
  iter (λ r y=>yHd n (λ aB bd=>r ((aB,(bd,())),((),()))) y.1.1 y.1.2.1) k ((aB,(bd,())),((),()))
def zq_m(n:Nat)(l:List (Q2))(np:Int):Option (Bool×Unit):=
  (bif decide ((↑l.length:Int) > np)then some (Bool.false,())else (yAk n n (l) ((0:Int))))
def yEq(bQ:List (Q2))(bR:Int)(v12:Q2)(cM:Int):Option (((Bool×Unit)⊕Unit)⊕Unit):=
  ((idx bQ bR).bind λ v13=>((idx v13.2.2.1 cM).bind λ v14=>(bif decide ((↑v14.length:Int) > 40)then (some (Sum.inl (Sum.inl ((Bool.false,())))))else (some (Sum.inr ())))))
def yHa(bQ:List (Q2))(bR:Int)(v12:Q2):Option ((Bool×Unit)⊕Unit):=
  (some (Sum.inr ()))
theorem yDB(n:Nat)(hn:big<=n)(r0:List (Q2)->Int->Option (Bool×Unit))(bQ:List (Q2))(bR:Int)(v12:Q2)(h0__:(idx bQ bR)=some v12)(hx:((↑v12.2.2.1.length:Int))<=9223372036854775807):LeF (elim some λ (ae:Unit)=>r0 bQ (i64.wrap (bR+1))) (y2s (λ ai ae=>yEq bQ bR v12 ai) (λ ae=>yHa bQ bR v12) (((↑v12.2.2.1.length:Int)) - 0).toNat 0 ()) (y7M n r0 n bQ bR 0):=by
  refine y4V (f:=(elim some λ (ae:Unit)=>r0 bQ (i64.wrap (bR+1)))) (W:=λ bC ai ae=>y7M n r0 bC bQ bR ai) (body:=(λ ai ae=>yEq bQ bR v12 ai)) (fin:=(λ ae=>yHa bQ bR v12)) (λ bC ai ae=>?_) hx () n 0 (by decide) (by unfold big at hn;omega)
  show LeF _ _ (yE6 n r0 (y7M n r0 bC) bQ bR ai)
  exact leAt h0__ (yB (yO λ v13=>(yO λ v14=>(yB (yD rfl) (yD rfl)))) (y2o (yD rfl)))
def yFj(aB:List (Q2))(bd:Int)(v1:Q2):Option ((Bool×Unit)⊕Unit):=
  (bif decide ((↑v1.2.1.length:Int) > 40)then (some (Sum.inl ((Bool.false,()))))else ((idx aB bd).bind λ v2=>(bif decide ((↑v2.2.2.1.length:Int) > 6)then (some (Sum.inl ((Bool.false,()))))else ((idx aB bd).bind λ v3=>(bif decide ((↑v3.2.2.2.1.length:Int) > 8)then (some (Sum.inl ((Bool.false,()))))else ((idx aB bd).bind λ v4=>(bif decide ((↑v4.2.2.2.2.1.length:Int) > 200)then (some (Sum.inl ((Bool.false,()))))else ((idx aB bd).bind λ v12=>(bif decide (((↑v12.2.2.1.length:Int))<=9223372036854775807)then y2s (λ ai ae=>yEq (aB) (bd) v12 ai) (λ ae=>yHa (aB) (bd) v12) (((↑v12.2.2.1.length:Int)) - 0).toNat 0 ()else none)))))))))
def yLP(aB:List (Q2)):Option (Bool×Unit):=
  (some ((Bool.true,())))
theorem yFe(n:Nat)(hn:big<=n)(aB:List (Q2))(hx:List.length (aB) < yF):LeF some (ym (λ ai cB ae=>yFj aB ai cB) (λ ae=>yLP aB) 0 (aB) ()) (yAk n n aB 0):=by
  refine y0l (f:=some) (W:=λ bC ai ae=>yAk n bC aB ai) (λ bC ai ae=>?_) hx () n (by unfold big at hn;unfold yF at hx;omega)
  show LeF _ _ (yHd n (yAk n bC) aB ai)
  exact yB (yO λ v1=>(yB (yD rfl) (yO λ v2=>(yB (yD rfl) (yO λ v3=>(yB (yD rfl) (yO λ v4=>(yB (yD rfl) (yMk λ v12 h0__=>(y0N λ hx=>by apply yDB n hn;exact h0__;exact hx)))))))))) (y2o (yD rfl))
def zq_M(l:List (Q2))(np:Int):Option (Bool×Unit):=
  (bif decide ((↑l.length:Int) > np)then (some ((Bool.false,())))else (bif decide (List.length (l) < yF)then ym (λ ai cB ae=>yFj (l) ai cB) (λ ae=>yLP (l)) 0 (l) ()else none))
abbrev zq_e:Entry:={ f:=14,args:=.pair t22 (.pair t3 .unit),rS:=.pair t4 .unit,m:=λ x=>zq_M x.1 x.2.1 }
theorem yQ1:FnOK Tryz.prog zq_e:=fB Tryz.f14 (λ n x=>zq_m n x.1 x.2.1) [[0,5],[0,5,6]] eNil λ n hn x=>(yB (yD rfl) (y0N λ hx=>by apply yFe n hn;exact hx))
def yMY(n:Nat)(holds:Bool)(e:Int):Option (Int×Unit):=
  (bif holds then some (e,())else some ((0:Int),()))
def z0k(holds:Bool)(e:Int):(Int×Unit):=
  (bif holds then (e,())else ((0:Int),()))
abbrev yPw (holds:Bool)(e:Int):Option (Int×Unit):=some (z0k holds e)
abbrev z0k_e:Entry:={ f:=39,args:=.pair t4 (.pair t3 .unit),rS:=.pair t3 .unit,m:=λ x=>yPw x.1 x.2.1 }
theorem yOr:FnOK Tryz.prog z0k_e:=fF (hm:=by intro x;show some (z0k x.1 x.2.1)=yMY 0 x.1 x.2.1;unfold yMY z0k;first|rfl|(simp only[yE];done)|(simp only[yE];rfl)) 0 Tryz.f39 (λ n x=>yMY n x.1 x.2.1) [] eNil
def y3f(n:Nat)(r2:List UInt8->Int->Option (Bool×Unit))(bD:List UInt8)(cx:Int)(v3:UInt8):Option (Bool×Unit):=
  (bif cx==0 then some (Bool.false,())else (bif (↑v3.toNat:Int) != 95 then (bif decide ((↑v3.toNat:Int) < 48)then some (Bool.false,())else (bif decide ((↑v3.toNat:Int) > 57)then some (Bool.false,())else r2 bD (i64.wrap (cx+1))))else r2 bD (i64.wrap (cx+1))))
def yEo(n:Nat)(r2:List UInt8->Int->Option (Bool×Unit))(bD:List UInt8)(cx:Int):Option (Bool×Unit):=
  (bif decide (cx < (↑bD.length:Int))then ((idx bD cx).bind λ v3=>(bif decide ((↑v3.toNat:Int) >= 97)then (bif decide ((↑v3.toNat:Int)<=122)then r2 bD (i64.wrap (cx+1))else (bif decide ((↑v3.toNat:Int) >= 65)then (bif decide ((↑v3.toNat:Int)<=90)then r2 bD (i64.wrap (cx+1))else (y3f n r2 bD cx v3))else (y3f n r2 bD cx v3)))else (bif decide ((↑v3.toNat:Int) >= 65)then (bif decide ((↑v3.toNat:Int)<=90)then r2 bD (i64.wrap (cx+1))else (y3f n r2 bD cx v3))else (y3f n r2 bD cx v3))))else some (Bool.true,()))
def y7B(n k:Nat)(bD:List UInt8)(cx:Int):Option (Bool×Unit):=
  iter (λ r y=>yEo n (λ bD cx=>r ((bD,(cx,())),((),()))) y.1.1 y.1.2.1) k ((bD,(cx,())),((),()))
def yPm(n:Nat)(s:List UInt8):Option (Bool×Unit):=
  (bif (↑s.length:Int)==0 then some (Bool.false,())else (bif decide ((↑s.length:Int) > 24)then some (Bool.false,())else (y7B n n (s) ((0:Int)))))
def y68(bD:List UInt8)(cx:Int)(v3:UInt8):Option ((Bool×Unit)⊕Unit):=
  (bif cx==0 then (some (Sum.inl ((Bool.false,()))))else (bif (↑v3.toNat:Int) != 95 then (bif decide ((↑v3.toNat:Int) < 48)then (some (Sum.inl ((Bool.false,()))))else (bif decide ((↑v3.toNat:Int) > 57)then (some (Sum.inl ((Bool.false,()))))else (some (Sum.inr ()))))else (some (Sum.inr ()))))
theorem y0d(n:Nat)(hn:big<=n)(r2:List UInt8->Int->Option (Bool×Unit))(bD:List UInt8)(cx:Int)(v3:UInt8):LeF (elim some λ (ae:Unit)=>r2 bD (i64.wrap (cx+1))) (y68 bD cx v3) (y3f n r2 bD cx v3):=
  (yB (yD rfl) (yB (yB (yD rfl) (yB (yD rfl) (yD rfl))) (yD rfl)))
def yBI(bD:List UInt8)(cx:Int)(v3:UInt8):Option ((Bool×Unit)⊕Unit):=
  (bif decide ((↑v3.toNat:Int) >= 97)then (bif decide ((↑v3.toNat:Int)<=122)then (some (Sum.inr ()))else (bif decide ((↑v3.toNat:Int) >= 65)then (bif decide ((↑v3.toNat:Int)<=90)then (some (Sum.inr ()))else (y68 bD cx v3))else (y68 bD cx v3)))else (bif decide ((↑v3.toNat:Int) >= 65)then (bif decide ((↑v3.toNat:Int)<=90)then (some (Sum.inr ()))else (y68 bD cx v3))else (y68 bD cx v3)))
def yGK(bD:List UInt8):Option (Bool×Unit):=
  (some ((Bool.true,())))
theorem yDR(n:Nat)(hn:big<=n)(bD:List UInt8)(hx:List.length (bD) < yF):LeF some (ym (λ ai cB ae=>yBI bD ai cB) (λ ae=>yGK bD) 0 (bD) ()) (y7B n n bD 0):=by
  refine y0l (f:=some) (W:=λ bC ai ae=>y7B n bC bD ai) (λ bC ai ae=>?_) hx () n (by unfold big at hn;unfold yF at hx;omega)
  show LeF _ _ (yEo n (y7B n bC) bD ai)
  exact yB (yO λ v3=>(yB (yB (yD rfl) (yB (yB (yD rfl) (by apply y0d n hn)) (by apply y0d n hn))) (yB (yB (yD rfl) (by apply y0d n hn)) (by apply y0d n hn)))) (y2o (yD rfl))
def yHG(s:List UInt8):Option (Bool×Unit):=
  (bif (↑s.length:Int)==0 then (some ((Bool.false,())))else (bif decide ((↑s.length:Int) > 24)then (some ((Bool.false,())))else (bif decide (List.length (s) < yF)then ym (λ ai cB ae=>yBI (s) ai cB) (λ ae=>yGK (s)) 0 (s) ()else none)))
abbrev z0O_e:Entry:={ f:=55,args:=.pair t9 .unit,rS:=.pair t4 .unit,m:=λ x=>yHG x.1 }
theorem yKz:FnOK Tryz.prog z0O_e:=fB Tryz.f55 (λ n x=>yPm n x.1) [[0,3]] eNil λ n hn x=>(yB (yD rfl) (yB (yD rfl) (y0N λ hx=>by apply yDR n hn;exact hx)))
def y5Y(n:Nat)(rp:Q1):Option (List UInt8×Unit):=
  (bif rp.2.2.2.2.2.2.1==[(99:UInt8),108,111,115,101]then (bif decide (rp.2.2.2.2.1<=rp.2.1.2.1)then (bif decide (rp.2.2.2.2.1<=rp.2.2.2.2.2.1)then some ([(111:UInt8),112,101,110],())else some ([(119:UInt8),97,105,116],()))else some ([(119:UInt8),97,105,116],()))else some ([(119:UInt8),97,105,116],()))
def yMF(n:Nat)(rp:Q1):Option (List UInt8×Unit):=
  (bif rp.2.2.2.2.2.2.1==[(111:UInt8),112,101,110]then (bif decide (rp.2.1.1 > 0)then (bif decide (rp.2.2.2.1 >= rp.2.1.1)then some ([(99:UInt8),108,111,115,101],())else (y5Y n rp))else (y5Y n rp))else (y5Y n rp))
def y0E(rp:Q1):(List UInt8×Unit):=
  (bif rp.2.2.2.2.2.2.1==[(99:UInt8),108,111,115,101]then (bif decide (rp.2.2.2.2.1<=rp.2.1.2.1)then (bif decide (rp.2.2.2.2.1<=rp.2.2.2.2.2.1)then ([(111:UInt8),112,101,110],())else ([(119:UInt8),97,105,116],()))else ([(119:UInt8),97,105,116],()))else ([(119:UInt8),97,105,116],()))
def z0P(rp:Q1):(List UInt8×Unit):=
  (bif rp.2.2.2.2.2.2.1==[(111:UInt8),112,101,110]then (bif decide (rp.2.1.1 > 0)then (bif decide (rp.2.2.2.1 >= rp.2.1.1)then ([(99:UInt8),108,111,115,101],())else (y0E rp))else (y0E rp))else (y0E rp))
abbrev yQO (rp:Q1):Option (List UInt8×Unit):=some (z0P rp)
abbrev z0P_e:Entry:={ f:=56,args:=.pair t41 .unit,rS:=.pair t9 .unit,m:=λ x=>yQO x.1 }
theorem yLH:FnOK Tryz.prog z0P_e:=fF (hm:=by intro x;show some (z0P x.1)=yMF 0 x.1;unfold yMF z0P y5Y y0E;first|rfl|(simp only[yE];done)|(simp only[yE];rfl)) 0 Tryz.f56 (λ n x=>yMF n x.1) [] eNil
def yEg(n:Nat)(r0:List UInt8->Q1->Int->Option (Int×Unit))(bf:List UInt8)(bB:Q1)(bd:Int):Option (Int×Unit):=
  (bif decide (bd < (↑bB.2.2.2.2.2.2.2.2.2.2.1.length:Int))then ((idx bB.2.2.2.2.2.2.2.2.2.2.1 bd).bind λ v1=>(bif v1.1==bf then ((idx bB.2.2.2.2.2.2.2.2.2.2.1 bd).bind λ v2=>some (v2.2.1,()))else r0 bf bB (i64.wrap (bd+1))))else some ((0:Int),()))
def y7A(n k:Nat)(bf:List UInt8)(bB:Q1)(bd:Int):Option (Int×Unit):=
  iter (λ r y=>yEg n (λ bf bB bd=>r ((bf,(bB,(bd,()))),((),()))) y.1.1 y.1.2.1 y.1.2.2.1) k ((bf,(bB,(bd,()))),((),()))
def yQC(n:Nat)(rp:Q1)(thing:List UInt8):Option (Int×Unit):=
  (y7A n n (thing) (rp) ((0:Int)))
def yBP(bf:List UInt8)(bB:Q1)(bd:Int)(v1:Q6):Option ((Int×Unit)⊕Unit):=
  (bif v1.1==bf then ((idx bB.2.2.2.2.2.2.2.2.2.2.1 bd).bind λ v2=>(some (Sum.inl ((v2.2.1,())))))else (some (Sum.inr ())))
def yH2(bf:List UInt8)(bB:Q1):Option (Int×Unit):=
  (some (((0:Int),())))
theorem yD1(n:Nat)(hn:big<=n)(bf:List UInt8)(bB:Q1)(hx:List.length (bB.2.2.2.2.2.2.2.2.2.2.1) < yF):LeF some (ym (λ ai cB ae=>yBP bf bB ai cB) (λ ae=>yH2 bf bB) 0 (bB.2.2.2.2.2.2.2.2.2.2.1) ()) (y7A n n bf bB 0):=by
  refine y0l (f:=some) (W:=λ bC ai ae=>y7A n bC bf bB ai) (λ bC ai ae=>?_) hx () n (by unfold big at hn;unfold yF at hx;omega)
  show LeF _ _ (yEg n (y7A n bC) bf bB ai)
  exact yB (yO λ v1=>(yB (yO λ v2=>(yD rfl)) (yD rfl))) (y2o (yD rfl))
def yJi(rp:Q1)(thing:List UInt8):Option (Int×Unit):=
  (bif decide (List.length (rp.2.2.2.2.2.2.2.2.2.2.1) < yF)then ym (λ ai cB ae=>yBP (thing) (rp) ai cB) (λ ae=>yH2 (thing) (rp)) 0 (rp.2.2.2.2.2.2.2.2.2.2.1) ()else none)
abbrev z0E_e:Entry:={ f:=58,args:=.pair t41 (.pair t9 .unit),rS:=.pair t3 .unit,m:=λ x=>yJi x.1 x.2.1 }
theorem yNr:FnOK Tryz.prog z0E_e:=fB Tryz.f58 (λ n x=>yQC n x.1 x.2.1) [[1,2,5]] eNil λ n hn x=>(y0N λ hx=>by apply yD1 n hn;exact hx)
def yDx(n:Nat)(r0:List Int->Int->Int->Option (Int×Unit))(cC:List Int)(cT bx:Int):Option (Int×Unit):=
  (bif decide (bx < cT)then ((idx cC bx).bind λ v1=>(bif v1 != 0 then some (v1,())else r0 cC cT (i64.wrap (bx+1))))else some ((0:Int),()))
def y79(n k:Nat)(cC:List Int)(cT bx:Int):Option (Int×Unit):=
  iter (λ r y=>yDx n (λ cC cT bx=>r ((cC,(cT,(bx,()))),((),()))) y.1.1 y.1.2.1 y.1.2.2.1) k ((cC,(cT,(bx,()))),((),()))
def yPu(n:Nat)(l:List Int):Option (Int×Unit):=
  (y79 n n (l) ((↑l.length:Int)) ((0:Int)))
def yHQ(cC:List Int)(bx v1:Int):Option ((Int×Unit)⊕Unit):=
  (bif v1 != 0 then (some (Sum.inl ((v1,()))))else (some (Sum.inr ())))
def yHn(cC:List Int):Option (Int×Unit):=
  (some (((0:Int),())))
theorem yCa(n:Nat)(hn:big<=n)(cC:List Int)(hx:List.length (cC) < yF):LeF some (ym (λ ai cB ae=>yHQ cC ai cB) (λ ae=>yHn cC) 0 (cC) ()) (y79 n n cC (List.length (cC):Int) 0):=by
  refine y0l (f:=some) (W:=λ bC ai ae=>y79 n bC cC (List.length (cC):Int) ai) (λ bC ai ae=>?_) hx () n (by unfold big at hn;unfold yF at hx;omega)
  show LeF _ _ (yDx n (y79 n bC) cC (List.length (cC):Int) ai)
  exact yB (yO λ v1=>(yB (yD rfl) (yD rfl))) (y2o (yD rfl))
def y12(l:List Int):Option (Int×Unit):=
  (bif decide (List.length (l) < yF)then ym (λ ai cB ae=>yHQ (l) ai cB) (λ ae=>yHn (l)) 0 (l) ()else none)
abbrev z0I_e:Entry:={ f:=63,args:=.pair t185 .unit,rS:=.pair t29 .unit,m:=λ x=>y12 x.1 }
theorem y5L:FnOK Tryz.prog z0I_e:=fB Tryz.f63 (λ n x=>yPu n x.1) [[5,6,7]] eNil λ n hn x=>(y0N λ hx=>by apply yCa n hn;exact hx)
def yMM(n:Nat)(holds:Bool)(e:Int):Option (Int×Unit):=
  (bif holds then some (e,())else some ((0:Int),()))
def z0b(holds:Bool)(e:Int):(Int×Unit):=
  (bif holds then (e,())else ((0:Int),()))
abbrev yPX (holds:Bool)(e:Int):Option (Int×Unit):=some (z0b holds e)
abbrev z0b_e:Entry:={ f:=65,args:=.pair t4 (.pair t29 .unit),rS:=.pair t29 .unit,m:=λ x=>yPX x.1 x.2.1 }
theorem y2z:FnOK Tryz.prog z0b_e:=fF (hm:=by intro x;show some (z0b x.1 x.2.1)=yMM 0 x.1 x.2.1;unfold yMM z0b;first|rfl|(simp only[yE];done)|(simp only[yE];rfl)) 0 Tryz.f65 (λ n x=>yMM n x.1 x.2.1) [] eNil
def yMI(n:Nat)(e:Q2):Option (Bool×Unit):=
  (bif e.2.1==[(100:UInt8),101,99,105,100,101]then some (Bool.true,())else some (e.2.1==[(111:UInt8),118,101,114,114,105,100,101],()))
def z02(e:Q2):(Bool×Unit):=
  (bif e.2.1==[(100:UInt8),101,99,105,100,101]then (Bool.true,())else (e.2.1==[(111:UInt8),118,101,114,114,105,100,101],()))
abbrev yQ4 (e:Q2):Option (Bool×Unit):=some (z02 e)
abbrev z02_e:Entry:={ f:=66,args:=.pair t56 .unit,rS:=.pair t4 .unit,m:=λ x=>yQ4 x.1 }
theorem yO1:FnOK Tryz.prog z02_e:=fF (hm:=by intro x;show some (z02 x.1)=yMI 0 x.1;unfold yMI z02;first|rfl|(simp only[yE];done)|(simp only[yE];rfl)) 0 Tryz.f66 (λ n x=>yMI n x.1) [] eNil
def y7H(n:Nat)(rp:Q1)(j0:Bool):Option (List UInt8×Unit):=
  (bif j0 then some ([(99:UInt8),108,111,115,101],())else (bif rp.2.2.2.2.2.2.1==[(99:UInt8),108,111,115,101]then (bif decide (rp.2.2.2.2.1<=rp.2.1.2.1)then (bif decide (rp.2.2.2.2.1<=rp.2.2.2.2.2.1)then some ([(111:UInt8),112,101,110],())else some ([(119:UInt8),97,105,116],()))else some ([(119:UInt8),97,105,116],()))else some ([(119:UInt8),97,105,116],())))
def zM_m(n:Nat)(rp:Q1):Option (List UInt8×Unit):=
  (bif rp.2.2.2.2.2.2.1==[(111:UInt8),112,101,110]then (bif decide (rp.2.1.1 > 0)then (y7H n rp (decide (rp.2.2.2.1 >= rp.2.1.1)))else (y7H n rp (Bool.false)))else (y7H n rp (Bool.false)))
def yc(rp:Q1)(j0:Bool):(List UInt8×Unit):=
  (bif j0 then ([(99:UInt8),108,111,115,101],())else (bif rp.2.2.2.2.2.2.1==[(99:UInt8),108,111,115,101]then (bif decide (rp.2.2.2.2.1<=rp.2.1.2.1)then (bif decide (rp.2.2.2.2.1<=rp.2.2.2.2.2.1)then ([(111:UInt8),112,101,110],())else ([(119:UInt8),97,105,116],()))else ([(119:UInt8),97,105,116],()))else ([(119:UInt8),97,105,116],())))
def zM(rp:Q1):(List UInt8×Unit):=
  (bif rp.2.2.2.2.2.2.1==[(111:UInt8),112,101,110]then (bif decide (rp.2.1.1 > 0)then (yc rp (decide (rp.2.2.2.1 >= rp.2.1.1)))else (yc rp (Bool.false)))else (yc rp (Bool.false)))
abbrev zM_M (rp:Q1):Option (List UInt8×Unit):=some (zM rp)
abbrev zM_e:Entry:={ f:=67,args:=.pair t60 .unit,rS:=.pair t9 .unit,m:=λ x=>zM_M x.1 }
theorem yKi:FnOK Tryz.prog zM_e:=fF (hm:=by intro x;show some (zM x.1)=zM_m 0 x.1;unfold zM_m zM y7H yc;first|rfl|(simp only[yE];done)|(simp only[yE];rfl)) 0 Tryz.f67 (λ n x=>zM_m n x.1) [] eNil
def yEf(n:Nat)(r0:List Int->Int->Option (Int×Unit))(aB:List Int)(cP:Int):Option (Int×Unit):=
  (bif decide (cP < (↑aB.length:Int))then ((idx aB cP).bind λ v1=>(bif v1 != 0 then ((idx aB cP).bind λ v2=>some (v2,()))else r0 aB (i64.wrap (cP+1))))else some ((0:Int),()))
def y7I(n k:Nat)(aB:List Int)(cP:Int):Option (Int×Unit):=
  iter (λ r y=>yEf n (λ aB cP=>r ((aB,(cP,())),((),()))) y.1.1 y.1.2.1) k ((aB,(cP,())),((),()))
def yQK(n:Nat)(l:List Int):Option (Int×Unit):=
  (y7I n n (l) ((0:Int)))
def yDl(aB:List Int)(cP v1:Int):Option ((Int×Unit)⊕Unit):=
  (bif v1 != 0 then ((idx aB cP).bind λ v2=>(some (Sum.inl ((v2,())))))else (some (Sum.inr ())))
def yEE(aB:List Int):Option (Int×Unit):=
  (some (((0:Int),())))
theorem yCd(n:Nat)(hn:big<=n)(aB:List Int)(hx:List.length (aB) < yF):LeF some (ym (λ ai cB ae=>yDl aB ai cB) (λ ae=>yEE aB) 0 (aB) ()) (y7I n n aB 0):=by
  refine y0l (f:=some) (W:=λ bC ai ae=>y7I n bC aB ai) (λ bC ai ae=>?_) hx () n (by unfold big at hn;unfold yF at hx;omega)
  show LeF _ _ (yEf n (y7I n bC) aB ai)
  exact yB (yO λ v1=>(yB (yO λ v2=>(yD rfl)) (yD rfl))) (y2o (yD rfl))
def yKK(l:List Int):Option (Int×Unit):=
  (bif decide (List.length (l) < yF)then ym (λ ai cB ae=>yDl (l) ai cB) (λ ae=>yEE (l)) 0 (l) ()else none)
abbrev z0e_e:Entry:={ f:=71,args:=.pair t34 .unit,rS:=.pair t3 .unit,m:=λ x=>yKK x.1 }
theorem yNV:FnOK Tryz.prog z0e_e:=fB Tryz.f71 (λ n x=>yQK n x.1) [[0,3]] eNil λ n hn x=>(y0N λ hx=>by apply yCd n hn;exact hx)
def yNR(n:Nat)(np low high:Int):Option (Bool×Unit):=
  (bif decide (np < low)then some (Bool.true,())else some (decide (np > high),()))
def z0D(np low high:Int):(Bool×Unit):=
  (bif decide (np < low)then (Bool.true,())else (decide (np > high),()))
abbrev yQY (np low high:Int):Option (Bool×Unit):=some (z0D np low high)
abbrev z0D_e:Entry:={ f:=72,args:=.pair t3 (.pair t3 (.pair t3 .unit)),rS:=.pair t4 .unit,m:=λ x=>yQY x.1 x.2.1 x.2.2.1 }
theorem yLJ:FnOK Tryz.prog z0D_e:=fF (hm:=by intro x;show some (z0D x.1 x.2.1 x.2.2.1)=yNR 0 x.1 x.2.1 x.2.2.1;unfold yNR z0D;first|rfl|(simp only[yE];done)|(simp only[yE];rfl)) 0 Tryz.f72 (λ n x=>yNR n x.1 x.2.1 x.2.2.1) [] eNil
abbrev yLY:Ty:=.unit
abbrev yP9:Ty:=.pair t41 .unit
def yPK:G:={ T:=T,E:=[],mU:=[],fz:=[] }
def yPT:List (List Nat):=[]
def yL6(n:Nat):Ann:={ keep:=yPT,fuel:=n,inl:=[],deep:=0 }
def yJU(n:Nat)  : Option ((Q1)×Unit):=
  some (((0:Int),((0:Int),(0:Int),()),(0:Int),(0:Int),(0:Int),(0:Int),[(111:UInt8),112,101,110],(0:Int),[],[],[],()),())
theorem yPG(n:Nat)(x:yLY.den):runF yPK (yL6 n) Tryz.f73 yLY yP9 x=yJU n:=by kernel_rfl
def z0f  : ((Q1)×Unit):=
  (((0:Int),((0:Int),(0:Int),()),(0:Int),(0:Int),(0:Int),(0:Int),[(111:UInt8),112,101,110],(0:Int),[],[],[],()),())
abbrev yOa  : Option ((Q1)×Unit):=some (z0f)
theorem yLg(y:(Q1)×Unit)(h:yOa=some y):∃ n,yJU n=some y:=
  ⟨0,by rw[<- h];show yJU 0=some (z0f);unfold yJU z0f;first|rfl|(simp only[yE];done)|(simp only[yE];rfl)⟩
def z0f_e:Entry:={ f:=73,args:=yLY,rS:=yP9,m:=λ x=>yOa }
theorem yO7:FnOK Tryz.prog z0f_e:=yD7 (g:=yPK) (fn:=Tryz.f73) y1c y74 eNil (by kernel_rfl) (by kernel_rfl) (by kernel_rfl) (λ x y h=>let ⟨n,hn⟩:=yLg y h;⟨yL6 n,iNil,(yPG n x).trans hn⟩)
def yLe(n:Nat)(rp:Q1)(decision:List UInt8):Option ((Q1)×Unit):=
  (bif decision==[(99:UInt8),108,111,115,101]then (bif !rp.2.2.2.2.2.2.1==[(99:UInt8),108,111,115,101]then (bif !decision==[(119:UInt8),97,105,116]then some ((rp.1,rp.2.1,rp.2.2.1,rp.2.2.2.1,rp.2.2.2.2.1,rp.2.2.2.2.2.1,decision,i64.wrap (rp.2.2.2.2.2.2.2.1+1),rp.2.2.2.2.2.2.2.2),())else some ((rp.1,rp.2.1,rp.2.2.1,rp.2.2.2.1,rp.2.2.2.2.1,rp.2.2.2.2.2.1,rp.2.2.2.2.2.2.1,i64.wrap (rp.2.2.2.2.2.2.2.1+1),rp.2.2.2.2.2.2.2.2),()))else (bif !decision==[(119:UInt8),97,105,116]then some ((rp.1,rp.2.1,rp.2.2.1,rp.2.2.2.1,rp.2.2.2.2.1,rp.2.2.2.2.2.1,decision,rp.2.2.2.2.2.2.2),())else some (rp,())))else (bif !decision==[(119:UInt8),97,105,116]then some ((rp.1,rp.2.1,rp.2.2.1,rp.2.2.2.1,rp.2.2.2.2.1,rp.2.2.2.2.2.1,decision,rp.2.2.2.2.2.2.2),())else some (rp,())))
def z0F(rp:Q1)(decision:List UInt8):((Q1)×Unit):=
  (bif decision==[(99:UInt8),108,111,115,101]then (bif !rp.2.2.2.2.2.2.1==[(99:UInt8),108,111,115,101]then (bif !decision==[(119:UInt8),97,105,116]then ((rp.1,rp.2.1,rp.2.2.1,rp.2.2.2.1,rp.2.2.2.2.1,rp.2.2.2.2.2.1,decision,i64.wrap (rp.2.2.2.2.2.2.2.1+1),rp.2.2.2.2.2.2.2.2),())else ((rp.1,rp.2.1,rp.2.2.1,rp.2.2.2.1,rp.2.2.2.2.1,rp.2.2.2.2.2.1,rp.2.2.2.2.2.2.1,i64.wrap (rp.2.2.2.2.2.2.2.1+1),rp.2.2.2.2.2.2.2.2),()))else (bif !decision==[(119:UInt8),97,105,116]then ((rp.1,rp.2.1,rp.2.2.1,rp.2.2.2.1,rp.2.2.2.2.1,rp.2.2.2.2.2.1,decision,rp.2.2.2.2.2.2.2),())else (rp,())))else (bif !decision==[(119:UInt8),97,105,116]then ((rp.1,rp.2.1,rp.2.2.1,rp.2.2.2.1,rp.2.2.2.2.1,rp.2.2.2.2.2.1,decision,rp.2.2.2.2.2.2.2),())else (rp,())))
abbrev yQZ (rp:Q1)(decision:List UInt8):Option ((Q1)×Unit):=some (z0F rp decision)
abbrev z0F_e:Entry:={ f:=75,args:=.pair t41 (.pair t9 .unit),rS:=.pair t41 .unit,m:=λ x=>yQZ x.1 x.2.1 }
theorem yOL:FnOK Tryz.prog z0F_e:=fF (mu:=[2]) (hm:=by intro x;show some (z0F x.1 x.2.1)=yLe 0 x.1 x.2.1;unfold yLe z0F;first|rfl|(simp only[yE];done)|(simp only[yE];rfl)) 0 Tryz.f75 (λ n x=>yLe n x.1 x.2.1) [] eNil
def yAv(n:Nat)(kind:List UInt8)(j1:Bool):Option ((Int×Int×Bool×Unit)×Unit):=
  (bif j1 then some (((0:Int),(3:Int),Bool.true,()),())else (bif kind==[(108:UInt8),101,118,101,108]then some (((1:Int),(2:Int),Bool.true,()),())else (bif kind==[(99:UInt8),111,109,109,97,110,100]then some (((2:Int),(2:Int),Bool.true,()),())else (bif kind==[(108:UInt8),111,99,107]then (bif kind==[(108:UInt8),111,99,107]then some (((2:Int),(1:Int),Bool.true,()),())else (bif kind==[(117:UInt8),110,100,111]then some (((0:Int),(0:Int),Bool.true,()),())else some (((0:Int),(0:Int),Bool.false,()),())))else (bif kind==[(117:UInt8),110,108,111,99,107]then some (((2:Int),(1:Int),Bool.true,()),())else (bif kind==[(117:UInt8),110,100,111]then some (((0:Int),(0:Int),Bool.true,()),())else some (((0:Int),(0:Int),Bool.false,()),())))))))
def y3Q(n:Nat)(kind:List UInt8)(j0:Bool):Option ((Int×Int×Bool×Unit)×Unit):=
  (bif j0 then some (((1:Int),(1:Int),Bool.true,()),())else (bif kind==[(114:UInt8),117,108,101]then (yAv n kind (kind==[(114:UInt8),117,108,101]))else (yAv n kind (kind==[(102:UInt8),111,114,101,99,97,115,116]))))
def yLW(n:Nat)(kind:List UInt8):Option ((Int×Int×Bool×Unit)×Unit):=
  (bif kind==[(103:UInt8),97,116,101]then (y3Q n kind (kind==[(103:UInt8),97,116,101]))else (bif kind==[(100:UInt8),101,99,105,100,101]then (y3Q n kind (kind==[(100:UInt8),101,99,105,100,101]))else (bif kind==[(111:UInt8),118,101,114,114,105,100,101]then (y3Q n kind (kind==[(111:UInt8),118,101,114,114,105,100,101]))else (bif kind==[(101:UInt8),110,116,101,114]then (y3Q n kind (kind==[(101:UInt8),110,116,101,114]))else (bif kind==[(108:UInt8),101,97,118,101]then (y3Q n kind (kind==[(108:UInt8),101,97,118,101]))else (y3Q n kind (kind==[(105:UInt8),115,115,117,101])))))))
def y23(kind:List UInt8)(j1:Bool):((Int×Int×Bool×Unit)×Unit):=
  (bif j1 then (((0:Int),(3:Int),Bool.true,()),())else (bif kind==[(108:UInt8),101,118,101,108]then (((1:Int),(2:Int),Bool.true,()),())else (bif kind==[(99:UInt8),111,109,109,97,110,100]then (((2:Int),(2:Int),Bool.true,()),())else (bif kind==[(108:UInt8),111,99,107]then (bif kind==[(108:UInt8),111,99,107]then (((2:Int),(1:Int),Bool.true,()),())else (bif kind==[(117:UInt8),110,100,111]then (((0:Int),(0:Int),Bool.true,()),())else (((0:Int),(0:Int),Bool.false,()),())))else (bif kind==[(117:UInt8),110,108,111,99,107]then (((2:Int),(1:Int),Bool.true,()),())else (bif kind==[(117:UInt8),110,100,111]then (((0:Int),(0:Int),Bool.true,()),())else (((0:Int),(0:Int),Bool.false,()),())))))))
def y0G(kind:List UInt8)(j0:Bool):((Int×Int×Bool×Unit)×Unit):=
  (bif j0 then (((1:Int),(1:Int),Bool.true,()),())else (bif kind==[(114:UInt8),117,108,101]then (y23 kind (kind==[(114:UInt8),117,108,101]))else (y23 kind (kind==[(102:UInt8),111,114,101,99,97,115,116]))))
def z0m(kind:List UInt8):((Int×Int×Bool×Unit)×Unit):=
  (bif kind==[(103:UInt8),97,116,101]then (y0G kind (kind==[(103:UInt8),97,116,101]))else (bif kind==[(100:UInt8),101,99,105,100,101]then (y0G kind (kind==[(100:UInt8),101,99,105,100,101]))else (bif kind==[(111:UInt8),118,101,114,114,105,100,101]then (y0G kind (kind==[(111:UInt8),118,101,114,114,105,100,101]))else (bif kind==[(101:UInt8),110,116,101,114]then (y0G kind (kind==[(101:UInt8),110,116,101,114]))else (bif kind==[(108:UInt8),101,97,118,101]then (y0G kind (kind==[(108:UInt8),101,97,118,101]))else (y0G kind (kind==[(105:UInt8),115,115,117,101])))))))
abbrev yPo (kind:List UInt8):Option ((Int×Int×Bool×Unit)×Unit):=some (z0m kind)
abbrev z0m_e:Entry:={ f:=83,args:=.pair t9 .unit,rS:=.pair t157 .unit,m:=λ x=>yPo x.1 }
theorem yOX:FnOK Tryz.prog z0m_e:=fF (hm:=by intro x;show some (z0m x.1)=yLW 0 x.1;unfold yLW z0m y3Q y0G yAv y23;first|rfl|(simp only[yE];done)|(simp only[yE];rfl)) 0 Tryz.f83 (λ n x=>yLW n x.1) [] eNil
def yMD(n:Nat)(r0:((Q2)×Unit->Option ((Q2)×Unit))->List (Q2)->Int->Int->List (Q2)->Option (List (Q2)×Unit))(b6:(Q2)×Unit->Option ((Q2)×Unit))(aa:List (Q2))(bO aD:Int)(aY:List (Q2)):Option (List (Q2)×Unit):=
  (bif decide (aD < bO)then ((idx aa aD).bind λ v1=>((b6 (v1,())).bind λ v2=>(bif decide (aY.length+(1:Nat)<=memMax)then r0 b6 aa bO (i64.wrap (aD+1)) (aY++[v2.1])else none)))else some (aY,()))
def yML(n k:Nat)(b6:(Q2)×Unit->Option ((Q2)×Unit))(aa:List (Q2))(bO aD:Int)(aY:List (Q2)):Option (List (Q2)×Unit):=
  iter (λ r y=>yMD n (λ b6 aa bO aD aY=>r ((b6,(aa,(bO,(aD,())))),((aY,()),()))) y.1.1 y.1.2.1 y.1.2.2.1 y.1.2.2.2.1 y.2.1.1) k ((b6,(aa,(bO,(aD,())))),((aY,()),()))
def z8_m(n:Nat)(l:List (Q2))(f:(Q2)×Unit->Option ((Q2)×Unit)):Option (List (Q2)×Unit):=
  (yML n n (f) (l) ((↑l.length:Int)) ((0:Int)) ([]))
def z8_M(l:List (Q2))(f:(Q2)×Unit->Option ((Q2)×Unit)):Option (List (Q2)×Unit):=z8_m 1000 l f
abbrev z8_e:Entry:={ f:=96,args:=.pair t22 (.pair t182 .unit),rS:=.pair t22 .unit,m:=λ x=>z8_M x.1 x.2.1 }
theorem yQ0:FnOK Tryz.prog z8_e:=fF (mu:=[5]) 1000 Tryz.f96 (λ n x=>z8_m n x.1 x.2.1) [[1,5,8,9,10]] eNil
def yNA(n:Nat)(e:Q2):Option ((Q2)×Unit):=
  ((bif decide (e.2.2.1.length<=memMax)then some (e.2.2.1,())else Option.none).bind λ v0=>((bif decide (e.2.2.2.1.length<=memMax)then some (e.2.2.2.1,())else Option.none).bind λ v1=>some ((e.1,e.2.1,v0.1,v1.1,e.2.2.2.2.1,()),())))
def yF4(e:Q2):Option ((Q2)×Unit):=yNA 0 e
abbrev z0K_e:Entry:={ f:=97,args:=.pair t56 .unit,rS:=.pair t56 .unit,m:=λ x=>yF4 x.1 }
theorem yLO:FnOK Tryz.prog z0K_e:=fF (mu:=[1]) 0 Tryz.f97 (λ n x=>yNA n x.1) [] (y8 yNE (y8 yPd eNil))
def yMg(n:Nat)(r0:((Q2)×Unit->Option (List UInt8×Unit))->List (Q2)->Int->Int->List (List UInt8)->Option (List (List UInt8)×Unit))(b6:(Q2)×Unit->Option (List UInt8×Unit))(aa:List (Q2))(bO aD:Int)(aY:List (List UInt8)):Option (List (List UInt8)×Unit):=
  (bif decide (aD < bO)then ((idx aa aD).bind λ v1=>((b6 (v1,())).bind λ v2=>(bif decide (aY.length+(1:Nat)<=memMax)then r0 b6 aa bO (i64.wrap (aD+1)) (aY++[v2.1])else none)))else some (aY,()))
def yMB(n k:Nat)(b6:(Q2)×Unit->Option (List UInt8×Unit))(aa:List (Q2))(bO aD:Int)(aY:List (List UInt8)):Option (List (List UInt8)×Unit):=
  iter (λ r y=>yMg n (λ b6 aa bO aD aY=>r ((b6,(aa,(bO,(aD,())))),((aY,()),()))) y.1.1 y.1.2.1 y.1.2.2.1 y.1.2.2.2.1 y.2.1.1) k ((b6,(aa,(bO,(aD,())))),((aY,()),()))
def zB_m(n:Nat)(l:List (Q2))(f:(Q2)×Unit->Option (List UInt8×Unit)):Option (List (List UInt8)×Unit):=
  (yMB n n (f) (l) ((↑l.length:Int)) ((0:Int)) ([]))
def zB_M(l:List (Q2))(f:(Q2)×Unit->Option (List UInt8×Unit)):Option (List (List UInt8)×Unit):=zB_m 1000 l f
abbrev zB_e:Entry:={ f:=99,args:=.pair t22 (.pair t106 .unit),rS:=.pair t38 .unit,m:=λ x=>zB_M x.1 x.2.1 }
theorem yQS:FnOK Tryz.prog zB_e:=fF (mu:=[5]) 1000 Tryz.f99 (λ n x=>zB_m n x.1 x.2.1) [[1,5,8,9,10]] eNil
def yI6(n:Nat)(r0:(List UInt8×Unit->Option (Int×Unit))->List (List UInt8)->Int->Int->List Int->Option (List Int×Unit))(b6:List UInt8×Unit->Option (Int×Unit))(aa:List (List UInt8))(bO aD:Int)(aY:List Int):Option (List Int×Unit):=
  (bif decide (aD < bO)then ((idx aa aD).bind λ v1=>((b6 (v1,())).bind λ v2=>(bif decide (aY.length+(1:Nat)<=memMax)then r0 b6 aa bO (i64.wrap (aD+1)) (aY++[v2.1])else none)))else some (aY,()))
def yAh(n k:Nat)(b6:List UInt8×Unit->Option (Int×Unit))(aa:List (List UInt8))(bO aD:Int)(aY:List Int):Option (List Int×Unit):=
  iter (λ r y=>yI6 n (λ b6 aa bO aD aY=>r ((b6,(aa,(bO,(aD,())))),((aY,()),()))) y.1.1 y.1.2.1 y.1.2.2.1 y.1.2.2.2.1 y.2.1.1) k ((b6,(aa,(bO,(aD,())))),((aY,()),()))
def zC_m(n:Nat)(l:List (List UInt8))(f:List UInt8×Unit->Option (Int×Unit)):Option (List Int×Unit):=
  (yAh n n (f) (l) ((↑l.length:Int)) ((0:Int)) ([]))
def yN8(b6:List UInt8×Unit->Option (Int×Unit))(aa:List (List UInt8))(aD:Int)(v1:List UInt8)(aY:List Int):Option ((List Int×Unit)⊕(List Int)):=
  ((b6 (v1,())).bind λ v2=>(bif decide (aY.length+(1:Nat)<=memMax)then (some (Sum.inr (aY++[v2.1])))else none))
def yPF(b6:List UInt8×Unit->Option (Int×Unit))(aa:List (List UInt8))(aY:List Int):Option (List Int×Unit):=
  (some ((aY,())))
theorem yGB(n:Nat)(hn:big<=n)(b6:List UInt8×Unit->Option (Int×Unit))(aa:List (List UInt8))(aY:List Int)(hx:List.length (aa) < yF):LeF some (ym (λ ai cB ae=>yN8 b6 aa ai cB ae) (λ ae=>yPF b6 aa ae) 0 (aa) aY) (yAh n n b6 aa (List.length (aa):Int) 0 aY):=by
  refine y0l (f:=some) (W:=λ bC ai ae=>yAh n bC b6 aa (List.length (aa):Int) ai ae) (λ bC ai ae=>?_) hx aY n (by unfold big at hn;unfold yF at hx;omega)
  show LeF _ _ (yI6 n (yAh n bC) b6 aa (List.length (aa):Int) ai ae)
  exact yB (yO λ v1=>(yO λ v2=>(yB (yD rfl) y0a))) (y2o (yD rfl))
def zC_M(l:List (List UInt8))(f:List UInt8×Unit->Option (Int×Unit)):Option (List Int×Unit):=
  (bif decide (List.length (l) < yF)then ym (λ ai cB ae=>yN8 (f) (l) ai cB ae) (λ ae=>yPF (f) (l) ae) 0 (l) ([])else none)
abbrev zC_e:Entry:={ f:=100,args:=.pair t38 (.pair t187 .unit),rS:=.pair t185 .unit,m:=λ x=>zC_M x.1 x.2.1 }
theorem yQD:FnOK Tryz.prog zC_e:=fB (mu:=[5]) Tryz.f100 (λ n x=>zC_m n x.1 x.2.1) [[1,5,8,9,10]] eNil λ n hn x=>(y0N λ hx=>by apply yGB n hn;exact hx)
def y5u(n:Nat)(r0:List UInt8->List UInt8->Int->Option (Bool×Unit))(aN str0__0:List UInt8)(pos0__0:Int)(j2 j7:Bool):Option (Bool×Unit):=
  (bif !j2 then (bif pos0__0==0 then some (Bool.false,())else (bif !j7 then some (Bool.false,())else r0 aN str0__0 (yd str0__0 pos0__0).2))else r0 aN str0__0 (yd str0__0 pos0__0).2)
def y3E(n:Nat)(r0:List UInt8->List UInt8->Int->Option (Bool×Unit))(aN str0__0:List UInt8)(pos0__0:Int)(j2:Bool):Option (Bool×Unit):=
  (bif decide ((yd str0__0 pos0__0).1 >= 48)then (bif decide ((yd str0__0 pos0__0).1<=57)then (y5u n r0 aN str0__0 pos0__0 j2 (Bool.true))else (y5u n r0 aN str0__0 pos0__0 j2 ((yd str0__0 pos0__0).1==95)))else (y5u n r0 aN str0__0 pos0__0 j2 ((yd str0__0 pos0__0).1==95)))
def yE3(n:Nat)(r0:List UInt8->List UInt8->Int->Option (Bool×Unit))(aN str0__0:List UInt8)(pos0__0:Int):Option (Bool×Unit):=
  (bif decide (pos0__0 < (↑str0__0.length:Int))then (bif decide ((yd str0__0 pos0__0).1 >= 65)then (bif decide ((yd str0__0 pos0__0).1<=90)then (y3E n r0 aN str0__0 pos0__0 (Bool.true))else (bif decide ((yd str0__0 pos0__0).1 >= 97)then (y3E n r0 aN str0__0 pos0__0 (decide ((yd str0__0 pos0__0).1<=122)))else (y3E n r0 aN str0__0 pos0__0 (Bool.false))))else (bif decide ((yd str0__0 pos0__0).1 >= 97)then (y3E n r0 aN str0__0 pos0__0 (decide ((yd str0__0 pos0__0).1<=122)))else (y3E n r0 aN str0__0 pos0__0 (Bool.false))))else (bif !aN==[]then some (decide ((↑aN.length:Int)<=24),())else some (Bool.false,())))
def y76(n k:Nat)(aN str0__0:List UInt8)(pos0__0:Int):Option (Bool×Unit):=
  iter (λ r y=>yE3 n (λ aN str0__0 pos0__0=>r ((aN,()),(((str0__0,pos0__0),()),()))) y.1.1 y.2.1.1.1 y.2.1.1.2) k ((aN,()),(((str0__0,pos0__0),()),()))
def yPP(n:Nat)(s:List UInt8):Option (Bool×Unit):=
  (y76 n n (s) (s) ((0:Int)))
def y8e(aN str0__0:List UInt8)(pos0__0:Int)(j2 j7:Bool):Option ((Bool×Unit)⊕Unit):=
  (bif !j2 then (bif pos0__0==0 then (some (Sum.inl ((Bool.false,()))))else (bif !j7 then (some (Sum.inl ((Bool.false,()))))else (some (Sum.inr ()))))else (some (Sum.inr ())))
theorem y1E(n:Nat)(hn:big<=n)(r0:List UInt8->List UInt8->Int->Option (Bool×Unit))(aN str0__0:List UInt8)(pos0__0:Int)(j2 j7:Bool):LeF (elim some λ (ae:Unit)=>r0 aN str0__0 (yd (str0__0) pos0__0).2) (y8e aN str0__0 pos0__0 j2 j7) (y5u n r0 aN str0__0 pos0__0 j2 j7):=
  (yB (yB (yD rfl) (yB (yD rfl) (yD rfl))) (yD rfl))
def y50(aN str0__0:List UInt8)(pos0__0:Int)(j2:Bool):Option ((Bool×Unit)⊕Unit):=
  (bif decide ((yd str0__0 pos0__0).1 >= 48)then (bif decide ((yd str0__0 pos0__0).1<=57)then (y8e aN str0__0 pos0__0 j2 (Bool.true))else (y8e aN str0__0 pos0__0 j2 ((yd str0__0 pos0__0).1==95)))else (y8e aN str0__0 pos0__0 j2 ((yd str0__0 pos0__0).1==95)))
theorem y09(n:Nat)(hn:big<=n)(r0:List UInt8->List UInt8->Int->Option (Bool×Unit))(aN str0__0:List UInt8)(pos0__0:Int)(j2:Bool):LeF (elim some λ (ae:Unit)=>r0 aN str0__0 (yd (str0__0) pos0__0).2) (y50 aN str0__0 pos0__0 j2) (y3E n r0 aN str0__0 pos0__0 j2):=
  (yB (yB (by apply y1E n hn) (by apply y1E n hn)) (by apply y1E n hn))
def yCG(aN str0__0:List UInt8)(pos0__0:Int):Option ((Bool×Unit)⊕Unit):=
  (bif decide ((yd str0__0 pos0__0).1 >= 65)then (bif decide ((yd str0__0 pos0__0).1<=90)then (y50 aN str0__0 pos0__0 (Bool.true))else (bif decide ((yd str0__0 pos0__0).1 >= 97)then (y50 aN str0__0 pos0__0 (decide ((yd str0__0 pos0__0).1<=122)))else (y50 aN str0__0 pos0__0 (Bool.false))))else (bif decide ((yd str0__0 pos0__0).1 >= 97)then (y50 aN str0__0 pos0__0 (decide ((yd str0__0 pos0__0).1<=122)))else (y50 aN str0__0 pos0__0 (Bool.false))))
def yBQ(aN str0__0:List UInt8):Option (Bool×Unit):=
  (bif !aN==[]then (some ((decide ((↑aN.length:Int)<=24),())))else (some ((Bool.false,()))))
theorem yDJ(n:Nat)(hn:big<=n)(aN str0__0:List UInt8)(hx:List.length (str0__0) < yF):LeF some (y8s (str0__0) (λ ai ae=>yCG aN str0__0 ai) (λ ae=>yBQ aN str0__0) (List.length (str0__0)) 0 ()) (y76 n n aN str0__0 0):=by
  refine yKZ (f:=some) (W:=λ bC ai ae=>y76 n bC aN str0__0 ai) (λ bC ai ae=>?_) () n (by unfold big at hn;unfold yF at hx;omega)
  show LeF _ _ (yE3 n (y76 n bC) aN str0__0 ai)
  exact yB (yB (yB (by apply y09 n hn) (yB (by apply y09 n hn) (by apply y09 n hn))) (yB (by apply y09 n hn) (by apply y09 n hn))) (y2o (yB (yD rfl) (yD rfl)))
def yFp(s:List UInt8):Option (Bool×Unit):=
  (bif decide (List.length (s) < yF)then y8s (s) (λ ai ae=>yCG (s) (s) ai) (λ ae=>yBQ (s) (s)) (List.length (s)) 0 ()else none)
abbrev z0N_e:Entry:={ f:=102,args:=.pair t9 .unit,rS:=.pair t4 .unit,m:=λ x=>yFp x.1 }
theorem yEr:FnOK Tryz.prog z0N_e:=fB Tryz.f102 (λ n x=>yPP n x.1) [[0,8]] eNil λ n hn x=>(y0N λ hx=>by apply yDJ n hn;exact hx)
def yHg(n:Nat)(r0:(Int×Unit->Option (Int×Unit))->List Int->Int->Int->List Int->Option (List Int×Unit))(b6:Int×Unit->Option (Int×Unit))(aa:List Int)(bO aD:Int)(aY:List Int):Option (List Int×Unit):=
  (bif decide (aD < bO)then ((idx aa aD).bind λ v1=>((b6 (v1,())).bind λ v2=>(bif decide (aY.length+(1:Nat)<=memMax)then r0 b6 aa bO (i64.wrap (aD+1)) (aY++[v2.1])else none)))else some (aY,()))
def yAS(n k:Nat)(b6:Int×Unit->Option (Int×Unit))(aa:List Int)(bO aD:Int)(aY:List Int):Option (List Int×Unit):=
  iter (λ r y=>yHg n (λ b6 aa bO aD aY=>r ((b6,(aa,(bO,(aD,())))),((aY,()),()))) y.1.1 y.1.2.1 y.1.2.2.1 y.1.2.2.2.1 y.2.1.1) k ((b6,(aa,(bO,(aD,())))),((aY,()),()))
def zE_m(n:Nat)(l:List Int)(f:Int×Unit->Option (Int×Unit)):Option (List Int×Unit):=
  (yAS n n (f) (l) ((↑l.length:Int)) ((0:Int)) ([]))
def yMc(b6:Int×Unit->Option (Int×Unit))(aa:List Int)(aD v1:Int)(aY:List Int):Option ((List Int×Unit)⊕(List Int)):=
  ((b6 (v1,())).bind λ v2=>(bif decide (aY.length+(1:Nat)<=memMax)then (some (Sum.inr (aY++[v2.1])))else none))
def yOD(b6:Int×Unit->Option (Int×Unit))(aa aY:List Int):Option (List Int×Unit):=
  (some ((aY,())))
theorem yFg(n:Nat)(hn:big<=n)(b6:Int×Unit->Option (Int×Unit))(aa aY:List Int)(hx:List.length (aa) < yF):LeF some (ym (λ ai cB ae=>yMc b6 aa ai cB ae) (λ ae=>yOD b6 aa ae) 0 (aa) aY) (yAS n n b6 aa (List.length (aa):Int) 0 aY):=by
  refine y0l (f:=some) (W:=λ bC ai ae=>yAS n bC b6 aa (List.length (aa):Int) ai ae) (λ bC ai ae=>?_) hx aY n (by unfold big at hn;unfold yF at hx;omega)
  show LeF _ _ (yHg n (yAS n bC) b6 aa (List.length (aa):Int) ai ae)
  exact yB (yO λ v1=>(yO λ v2=>(yB (yD rfl) y0a))) (y2o (yD rfl))
def zE_M(l:List Int)(f:Int×Unit->Option (Int×Unit)):Option (List Int×Unit):=
  (bif decide (List.length (l) < yF)then ym (λ ai cB ae=>yMc (f) (l) ai cB ae) (λ ae=>yOD (f) (l) ae) 0 (l) ([])else none)
abbrev zE_e:Entry:={ f:=103,args:=.pair t34 (.pair t189 .unit),rS:=.pair t185 .unit,m:=λ x=>zE_M x.1 x.2.1 }
theorem yPl:FnOK Tryz.prog zE_e:=fB (mu:=[5]) Tryz.f103 (λ n x=>zE_m n x.1 x.2.1) [[1,5,8,9,10]] eNil λ n hn x=>(y0N λ hx=>by apply yFg n hn;exact hx)
def yEM(n:Nat)(r0:List UInt8->Q1->Int->Option (Int×Unit))(bz:List UInt8)(bB:Q1)(bd:Int):Option (Int×Unit):=
  (bif decide (bd < (↑bB.2.2.2.2.2.2.2.2.1.length:Int))then ((idx bB.2.2.2.2.2.2.2.2.1 bd).bind λ v1=>(bif v1.1==bz then some (bd,())else r0 bz bB (i64.wrap (bd+1))))else some ((-1:Int),()))
def y7D(n k:Nat)(bz:List UInt8)(bB:Q1)(bd:Int):Option (Int×Unit):=
  iter (λ r y=>yEM n (λ bz bB bd=>r ((bz,(bB,(bd,()))),((),()))) y.1.1 y.1.2.1 y.1.2.2.1) k ((bz,(bB,(bd,()))),((),()))
def yQR(n:Nat)(rp:Q1)(name:List UInt8):Option (Int×Unit):=
  (y7D n n (name) (rp) ((0:Int)))
def yH3(bz:List UInt8)(bB:Q1)(bd:Int)(v1:Q3):Option ((Int×Unit)⊕Unit):=
  (bif v1.1==bz then (some (Sum.inl ((bd,()))))else (some (Sum.inr ())))
def yKy(bz:List UInt8)(bB:Q1):Option (Int×Unit):=
  (some (((-1:Int),())))
theorem yD9(n:Nat)(hn:big<=n)(bz:List UInt8)(bB:Q1)(hx:List.length (bB.2.2.2.2.2.2.2.2.1) < yF):LeF some (ym (λ ai cB ae=>yH3 bz bB ai cB) (λ ae=>yKy bz bB) 0 (bB.2.2.2.2.2.2.2.2.1) ()) (y7D n n bz bB 0):=by
  refine y0l (f:=some) (W:=λ bC ai ae=>y7D n bC bz bB ai) (λ bC ai ae=>?_) hx () n (by unfold big at hn;unfold yF at hx;omega)
  show LeF _ _ (yEM n (y7D n bC) bz bB ai)
  exact yB (yO λ v1=>(yB (yD rfl) (yD rfl))) (y2o (yD rfl))
def yBv(rp:Q1)(name:List UInt8):Option (Int×Unit):=
  (bif decide (List.length (rp.2.2.2.2.2.2.2.2.1) < yF)then ym (λ ai cB ae=>yH3 (name) (rp) ai cB) (λ ae=>yKy (name) (rp)) 0 (rp.2.2.2.2.2.2.2.2.1) ()else none)
abbrev z0Q_e:Entry:={ f:=110,args:=.pair t41 (.pair t9 .unit),rS:=.pair t3 .unit,m:=λ x=>yBv x.1 x.2.1 }
theorem yDi:FnOK Tryz.prog z0Q_e:=fB Tryz.f110 (λ n x=>yQR n x.1 x.2.1) [[1,2,5]] eNil λ n hn x=>(y0N λ hx=>by apply yD9 n hn;exact hx)
def zy_m(n:Nat)(s:List UInt8):Option (Bool×Unit):=
  (bif s==[(108:UInt8),111,119,101,114]then some (Bool.true,())else some (s==[(114:UInt8),97,105,115,101],()))
def zy(s:List UInt8):(Bool×Unit):=
  (bif s==[(108:UInt8),111,119,101,114]then (Bool.true,())else (s==[(114:UInt8),97,105,115,101],()))
abbrev zy_M (s:List UInt8):Option (Bool×Unit):=some (zy s)
abbrev zy_e:Entry:={ f:=111,args:=.pair t9 .unit,rS:=.pair t4 .unit,m:=λ x=>zy_M x.1 }
theorem yNn:FnOK Tryz.prog zy_e:=fF (hm:=by intro x;show some (zy x.1)=zy_m 0 x.1;unfold zy_m zy;first|rfl|(simp only[yE];done)|(simp only[yE];rfl)) 0 Tryz.f111 (λ n x=>zy_m n x.1) [] eNil
def yLd(n:Nat)(rp:Q1)(g:Q3)(command:List UInt8):Option (Int×Unit):=
  (bif !g.2.2.2.2.1==[]then some ((33:Int),())else (bif decide ((↑rp.2.2.2.2.2.2.2.2.2.1.length:Int) > 0)then some ((34:Int),())else (bif command==[(108:UInt8),111,119,101,114]then (bif rp.2.2.2.2.2.2.1==[(111:UInt8),112,101,110]then some ((19:Int),())else (bif command==[(114:UInt8),97,105,115,101]then (bif rp.2.2.2.2.2.2.1==[(99:UInt8),108,111,115,101]then some ((19:Int),())else some ((0:Int),()))else some ((0:Int),())))else (bif command==[(114:UInt8),97,105,115,101]then (bif rp.2.2.2.2.2.2.1==[(99:UInt8),108,111,115,101]then some ((19:Int),())else some ((0:Int),()))else some ((0:Int),())))))
def z0g(rp:Q1)(g:Q3)(command:List UInt8):(Int×Unit):=
  (bif !g.2.2.2.2.1==[]then ((33:Int),())else (bif decide ((↑rp.2.2.2.2.2.2.2.2.2.1.length:Int) > 0)then ((34:Int),())else (bif command==[(108:UInt8),111,119,101,114]then (bif rp.2.2.2.2.2.2.1==[(111:UInt8),112,101,110]then ((19:Int),())else (bif command==[(114:UInt8),97,105,115,101]then (bif rp.2.2.2.2.2.2.1==[(99:UInt8),108,111,115,101]then ((19:Int),())else ((0:Int),()))else ((0:Int),())))else (bif command==[(114:UInt8),97,105,115,101]then (bif rp.2.2.2.2.2.2.1==[(99:UInt8),108,111,115,101]then ((19:Int),())else ((0:Int),()))else ((0:Int),())))))
abbrev yPW (rp:Q1)(g:Q3)(command:List UInt8):Option (Int×Unit):=some (z0g rp g command)
abbrev z0g_e:Entry:={ f:=112,args:=.pair t41 (.pair t148 (.pair t9 .unit)),rS:=.pair t3 .unit,m:=λ x=>yPW x.1 x.2.1 x.2.2.1 }
theorem yKn:FnOK Tryz.prog z0g_e:=fF (hm:=by intro x;show some (z0g x.1 x.2.1 x.2.2.1)=yLd 0 x.1 x.2.1 x.2.2.1;unfold yLd z0g;first|rfl|(simp only[yE];done)|(simp only[yE];rfl)) 0 Tryz.f112 (λ n x=>yLd n x.1 x.2.1 x.2.2.1) [] eNil
def zv_m(n:Nat)(s:List UInt8):Option (Bool×Unit):=
  (bif s==[(99:UInt8),108,111,115,101]then some (Bool.true,())else (bif s==[(111:UInt8),112,101,110]then some (Bool.true,())else some (s==[(119:UInt8),97,105,116],())))
def zv(s:List UInt8):(Bool×Unit):=
  (bif s==[(99:UInt8),108,111,115,101]then (Bool.true,())else (bif s==[(111:UInt8),112,101,110]then (Bool.true,())else (s==[(119:UInt8),97,105,116],())))
abbrev zv_M (s:List UInt8):Option (Bool×Unit):=some (zv s)
abbrev zv_e:Entry:={ f:=117,args:=.pair t9 .unit,rS:=.pair t4 .unit,m:=λ x=>zv_M x.1 }
theorem yQ3:FnOK Tryz.prog zv_e:=fF (hm:=by intro x;show some (zv x.1)=zv_m 0 x.1;unfold zv_m zv;first|rfl|(simp only[yE];done)|(simp only[yE];rfl)) 0 Tryz.f117 (λ n x=>zv_m n x.1) [] eNil
def y87(n:Nat)(cy:Q2)(bA:Bool)(aO aP aQ aR aS aT aU:Int)(aV:List UInt8)(aW:Int)(aX:List (Q3))(af:List (List UInt8))(bE:List (Q6)):Option ((Q1)×Int×Unit):=
  (bif !bA then ((idx cy.2.2.1 (0:Int)).bind λ v14=>(bif decide (bE.length+(1:Nat)<=memMax)then some ((aO,(aP,aQ,()),aR,aS,aT,aU,aV,aW,aX,af,bE++[(v14,(1:Int),())],()),(0:Int),())else none))else some ((aO,(aP,aQ,()),aR,aS,aT,aU,aV,aW,aX,af,bE,()),(0:Int),()))
def yE8(n:Nat)(r0:Q2->Bool->Int->Int->Int->Int->Int->Int->Int->Int->List UInt8->Int->List (Q3)->List (List UInt8)->List (Q6)->Int->Int->Int->Int->Int->Int->Int->List UInt8->Int->List (Q6)->Option ((Q1)×Int×Unit))(cy:Q2)(bA:Bool)(cQ aO aP aQ aR aS aT aU:Int)(aV:List UInt8)(aW:Int)(aX:List (Q3))(af:List (List UInt8))(b7:List (Q6))(ca cb cc cd ce cf cg:Int)(ci:List UInt8)(cj:Int)(bE:List (Q6)):Option ((Q1)×Int×Unit):=
  (bif decide (cQ < (↑b7.length:Int))then ((idx b7 cQ).bind λ v1=>((idx cy.2.2.1 (0:Int)).bind λ v2=>(bif v1.1==v2 then (bif decide (bE.length+(1:Nat)<=memMax)then r0 cy Bool.true (i64.wrap (cQ+1)) aO aP aQ aR aS aT aU aV aW aX af b7 ca cb cc cd ce cf cg ci cj (bE++[(v1.1,i64.wrap (v1.2.1+1),())])else none)else (bif decide (bE.length+(1:Nat)<=memMax)then r0 cy bA (i64.wrap (cQ+1)) aO aP aQ aR aS aT aU aV aW aX af b7 ca cb cc cd ce cf cg ci cj (bE++[(v1.1,v1.2.1,())])else none))))else (bif !bA then (bif decide ((↑bE.length:Int) >= 64)then some ((aO,(aP,aQ,()),aR,aS,aT,aU,aV,aW,aX,af,b7,()),(5:Int),())else (y87 n cy bA aO aP aQ aR aS aT aU aV aW aX af bE))else (y87 n cy bA aO aP aQ aR aS aT aU aV aW aX af bE)))
def y7J(n k:Nat)(cy:Q2)(bA:Bool)(cQ aO aP aQ aR aS aT aU:Int)(aV:List UInt8)(aW:Int)(aX:List (Q3))(af:List (List UInt8))(b7:List (Q6))(ca cb cc cd ce cf cg:Int)(ci:List UInt8)(cj:Int)(bE:List (Q6)):Option ((Q1)×Int×Unit):=
  iter (λ r y=>yE8 n (λ cy bA cQ aO aP aQ aR aS aT aU aV aW aX af b7 ca cb cc cd ce cf cg ci cj bE=>r ((cy,(bA,(cQ,()))),(((aO,(aP,(aQ,(aR,(aS,(aT,(aU,(aV,(aW,(aX,(af,(b7,())))))))))))),((ca,(cb,(cc,(cd,(ce,(cf,(cg,(ci,(cj,()))))))))),(bE,()))),()))) y.1.1 y.1.2.1 y.1.2.2.1 y.2.1.1.1 y.2.1.1.2.1 y.2.1.1.2.2.1 y.2.1.1.2.2.2.1 y.2.1.1.2.2.2.2.1 y.2.1.1.2.2.2.2.2.1 y.2.1.1.2.2.2.2.2.2.1 y.2.1.1.2.2.2.2.2.2.2.1 y.2.1.1.2.2.2.2.2.2.2.2.1 y.2.1.1.2.2.2.2.2.2.2.2.2.1 y.2.1.1.2.2.2.2.2.2.2.2.2.2.1 y.2.1.1.2.2.2.2.2.2.2.2.2.2.2.1 y.2.1.2.1.1 y.2.1.2.1.2.1 y.2.1.2.1.2.2.1 y.2.1.2.1.2.2.2.1 y.2.1.2.1.2.2.2.2.1 y.2.1.2.1.2.2.2.2.2.1 y.2.1.2.1.2.2.2.2.2.2.1 y.2.1.2.1.2.2.2.2.2.2.2.1 y.2.1.2.1.2.2.2.2.2.2.2.2.1 y.2.1.2.2.1) k ((cy,(bA,(cQ,()))),(((aO,(aP,(aQ,(aR,(aS,(aT,(aU,(aV,(aW,(aX,(af,(b7,())))))))))))),((ca,(cb,(cc,(cd,(ce,(cf,(cg,(ci,(cj,()))))))))),(bE,()))),()))
def yQX(n:Nat)(rp:Q1)(e:Q2):Option ((Q1)×Int×Unit):=
  (y7J n n (e) (Bool.false) ((0:Int)) (rp.1) (rp.2.1.1) (rp.2.1.2.1) (rp.2.2.1) (rp.2.2.2.1) (rp.2.2.2.2.1) (rp.2.2.2.2.2.1) (rp.2.2.2.2.2.2.1) (rp.2.2.2.2.2.2.2.1) (rp.2.2.2.2.2.2.2.2.1) (rp.2.2.2.2.2.2.2.2.2.1) (rp.2.2.2.2.2.2.2.2.2.2.1) ((0:Int)) ((0:Int)) ((0:Int)) ((0:Int)) ((0:Int)) ((0:Int)) ((0:Int)) ([]) ((0:Int)) ([]))
def yAo(cy:Q2)(bA:Bool)(aO aP aQ aR aS aT aU:Int)(aV:List UInt8)(aW:Int)(aX:List (Q3))(af:List (List UInt8))(bE:List (Q6)):Option ((Q1)×Int×Unit):=
  (bif !bA then ((idx cy.2.2.1 (0:Int)).bind λ v14=>(bif decide (bE.length+(1:Nat)<=memMax)then (some (((aO,(aP,aQ,()),aR,aS,aT,aU,aV,aW,aX,af,bE++[(v14,(1:Int),())],()),(0:Int),())))else none))else (some (((aO,(aP,aQ,()),aR,aS,aT,aU,aV,aW,aX,af,bE,()),(0:Int),()))))
theorem y2T(n:Nat)(hn:big<=n)(cy:Q2)(bA:Bool)(aO aP aQ aR aS aT aU:Int)(aV:List UInt8)(aW:Int)(aX:List (Q3))(af:List (List UInt8))(bE:List (Q6)):LeF some (yAo cy bA aO aP aQ aR aS aT aU aV aW aX af bE) (y87 n cy bA aO aP aQ aR aS aT aU aV aW aX af bE):=
  (yB (yO λ v14=>(yB (yD rfl) y0a)) (yD rfl))
def yGa(cy:Q2)(aO aP aQ aR aS aT aU:Int)(aV:List UInt8)(aW:Int)(aX:List (Q3))(af:List (List UInt8))(b7:List (Q6))(ca cb cc cd ce cf cg:Int)(ci:List UInt8)(cj cQ:Int)(v1:Q6)(bA:Bool)(bE:List (Q6)):Option (((Q1)×Int×Unit)⊕(Bool×(List (Q6)))):=
  ((idx cy.2.2.1 (0:Int)).bind λ v2=>(bif v1.1==v2 then (bif decide (bE.length+(1:Nat)<=memMax)then (some (Sum.inr ((Bool.true),(bE++[(v1.1,i64.wrap (v1.2.1+1),())]))))else none)else (bif decide (bE.length+(1:Nat)<=memMax)then (some (Sum.inr ((bA),(bE++[(v1.1,v1.2.1,())]))))else none)))
def yHe(cy:Q2)(aO aP aQ aR aS aT aU:Int)(aV:List UInt8)(aW:Int)(aX:List (Q3))(af:List (List UInt8))(b7:List (Q6))(ca cb cc cd ce cf cg:Int)(ci:List UInt8)(cj:Int)(bA:Bool)(bE:List (Q6)):Option ((Q1)×Int×Unit):=
  (bif !bA then (bif decide ((↑bE.length:Int) >= 64)then (some (((aO,(aP,aQ,()),aR,aS,aT,aU,aV,aW,aX,af,b7,()),(5:Int),())))else (yAo cy bA aO aP aQ aR aS aT aU aV aW aX af bE))else (yAo cy bA aO aP aQ aR aS aT aU aV aW aX af bE))
theorem yDC(n:Nat)(hn:big<=n)(cy:Q2)(aO aP aQ aR aS aT aU:Int)(aV:List UInt8)(aW:Int)(aX:List (Q3))(af:List (List UInt8))(b7:List (Q6))(ca cb cc cd ce cf cg:Int)(ci:List UInt8)(cj:Int)(bA:Bool)(bE:List (Q6))(hx:List.length (b7) < yF):LeF some (ym (λ ai cB ae=>yGa cy aO aP aQ aR aS aT aU aV aW aX af b7 ca cb cc cd ce cf cg ci cj ai cB ae.1 ae.2) (λ ae=>yHe cy aO aP aQ aR aS aT aU aV aW aX af b7 ca cb cc cd ce cf cg ci cj ae.1 ae.2) 0 (b7) (bA,bE)) (y7J n n cy bA 0 aO aP aQ aR aS aT aU aV aW aX af b7 ca cb cc cd ce cf cg ci cj bE):=by
  refine y0l (f:=some) (W:=λ bC ai ae=>y7J n bC cy ae.1 ai aO aP aQ aR aS aT aU aV aW aX af b7 ca cb cc cd ce cf cg ci cj ae.2) (λ bC ai ae=>?_) hx (bA,bE) n (by unfold big at hn;unfold yF at hx;omega)
  show LeF _ _ (yE8 n (y7J n bC) cy ae.1 ai aO aP aQ aR aS aT aU aV aW aX af b7 ca cb cc cd ce cf cg ci cj ae.2)
  exact yB (yO λ v1=>(yO λ v2=>(yB (yB (yD rfl) y0a) (yB (yD rfl) y0a)))) (y2o (yB (yB (yD rfl) (by apply y2T n hn)) (by apply y2T n hn)))
def yHc(rp:Q1)(e:Q2):Option ((Q1)×Int×Unit):=
  (bif decide (List.length (rp.2.2.2.2.2.2.2.2.2.2.1) < yF)then ym (λ ai cB ae=>yGa (e) (rp.1) (rp.2.1.1) (rp.2.1.2.1) (rp.2.2.1) (rp.2.2.2.1) (rp.2.2.2.2.1) (rp.2.2.2.2.2.1) (rp.2.2.2.2.2.2.1) (rp.2.2.2.2.2.2.2.1) (rp.2.2.2.2.2.2.2.2.1) (rp.2.2.2.2.2.2.2.2.2.1) (rp.2.2.2.2.2.2.2.2.2.2.1) ((0:Int)) ((0:Int)) ((0:Int)) ((0:Int)) ((0:Int)) ((0:Int)) ((0:Int)) ([]) ((0:Int)) ai cB ae.1 ae.2) (λ ae=>yHe (e) (rp.1) (rp.2.1.1) (rp.2.1.2.1) (rp.2.2.1) (rp.2.2.2.1) (rp.2.2.2.2.1) (rp.2.2.2.2.2.1) (rp.2.2.2.2.2.2.1) (rp.2.2.2.2.2.2.2.1) (rp.2.2.2.2.2.2.2.2.1) (rp.2.2.2.2.2.2.2.2.2.1) (rp.2.2.2.2.2.2.2.2.2.2.1) ((0:Int)) ((0:Int)) ((0:Int)) ((0:Int)) ((0:Int)) ((0:Int)) ((0:Int)) ([]) ((0:Int)) ae.1 ae.2) 0 (rp.2.2.2.2.2.2.2.2.2.2.1) ((Bool.false),([]))else none)
abbrev z0S_e:Entry:={ f:=121,args:=.pair t41 (.pair t56 .unit),rS:=.pair t41 (.pair t3 .unit),m:=λ x=>yHc x.1 x.2.1 }
theorem yOg:FnOK Tryz.prog z0S_e:=fB (mu:=[2,6]) Tryz.f121 (λ n x=>yQX n x.1 x.2.1) [[2,3,4,6,7,8]] eNil λ n hn x=>(y0N λ hx=>by apply yDC n hn;exact hx)
abbrev yDK:Ty:=.pair t3 .unit
abbrev yFN:Ty:=.pair t9 .unit
class ref01_Text_Rec where
  f:yDK.den->Option yFN.den
section
variable [ref01_Text_Rec]
def yAw:Entry:={ f:=132,args:=yDK,rS:=yFN,m:=λ x=>ref01_Text_Rec.f x }
def yOI:G:={ T:=T,E:=[yAw],mU:=[],fz:=[] }
def yQE:List (List Nat):=[]
def yLC(n:Nat):Ann:={ keep:=yQE,fuel:=n,inl:=[],deep:=0 }
def yN7(n:Nat)(np:Int):Option (List UInt8×Unit):=
  (bif decide (np > 9)then ((ref01_Text_Rec.f (i64.wrap (np.tdiv (10:Int)),())).bind λ v0=>((ref01_Text_Rec.f (np.tmod (10:Int),())).bind λ v1=>(bif decide (v0.1.length+v1.1.length < strMax)then some (v0.1++v1.1,())else none)))else (bif decide (np < (-9:Int))then ((ref01_Text_Rec.f (i64.wrap (np.tdiv (10:Int)),())).bind λ v2=>((ref01_Text_Rec.f (i64.wrap ((0:Int) - np.tmod (10:Int)),())).bind λ v3=>(bif decide (v2.1.length+v3.1.length < strMax)then some (v2.1++v3.1,())else none)))else (bif decide (np < 0)then ((ref01_Text_Rec.f (i64.wrap ((0:Int) - np),())).bind λ v4=>(bif decide ((1:Nat)+v4.1.length < strMax)then some ([(45:UInt8)]++v4.1,())else none))else some (y16 [IntKind.u8.wrap (i64.wrap ((48:Int)+np))],()))))
theorem yOu(n:Nat)(x:yDK.den):runF yOI (yLC n) Tryz.f132 yDK yFN x=yN7 n x.1:=by kernel_rfl
def yOt(np:Int):Option (List UInt8×Unit):=yN7 0 np
theorem yMt(np:Int)(y:List UInt8×Unit)(h:yOt np=some y):∃ n,yN7 n np=some y:=⟨0,h⟩
end
def y2k(d:Nat):yDK.den->Option yFN.den:=Nat.rec (motive:=λ _=>yDK.den->Option yFN.den) (λ _=>none) (λ _ ih x=>@yOt ⟨ih⟩ x.1) d
def y3O(d:Nat):Entry:={ f:=132,args:=yDK,rS:=yFN,m:=y2k d }
theorem y4m:(d:Nat)->FnOK Tryz.prog (y3O d)
  |0=>FnOK.none (fn:=Tryz.f132) (by kernel_rfl) (by kernel_rfl) (by kernel_rfl)
  |d+1=>yD7 (g:=@yOI ⟨y2k d⟩) (fn:=Tryz.f132) (e:=y3O (d+1)) y1c y74 (y8 (y4m d) eNil) (by kernel_rfl) (by kernel_rfl) (by kernel_rfl) (λ x y h=>let ⟨n,hn⟩:=@yMt ⟨y2k d⟩ x.1 y h;⟨yLC n,iNil,(@yOu ⟨y2k d⟩ n x).trans hn⟩)
def z0l_e:Entry:=y3O 24
theorem yOi:FnOK Tryz.prog z0l_e:=y4m 24
def yNW(n:Nat)(l:List (List UInt8)):Option (Q6):=
  ((yH4 l [(32:UInt8)]).bind λ v0=>some (v0.1,(0:Int),()))
def yFu(l:List (List UInt8)):Option (Q6):=yNW 0 l
abbrev z0a_e:Entry:={ f:=135,args:=.pair t38 .unit,rS:=.pair t9 (.pair t29 .unit),m:=λ x=>yFu x.1 }
theorem y9v:FnOK Tryz.prog z0a_e:=fF 0 Tryz.f135 (λ n x=>yNW n x.1) [] (y8 yGc eNil)
def zO_m(n:Nat)(g:Q3):Option (Bool×Unit):=
  some (g.2.1,())
def zO(g:Q3):(Bool×Unit):=
  (g.2.1,())
abbrev zO_M (g:Q3):Option (Bool×Unit):=some (zO g)
abbrev zO_e:Entry:={ f:=138,args:=.pair t64 .unit,rS:=.pair t4 .unit,m:=λ x=>zO_M x.1 }
theorem yMX:FnOK Tryz.prog zO_e:=fF (hm:=by intro x;show some (zO x.1)=zO_m 0 x.1;unfold zO_m zO;first|rfl|(simp only[yE];done)|(simp only[yE];rfl)) 0 Tryz.f138 (λ n x=>zO_m n x.1) [] eNil
def zb_m(n:Nat)(g:Q3):Option (Bool×Unit):=
  some (!g.2.2.2.2.1==[],())
def zb(g:Q3):(Bool×Unit):=
  (!g.2.2.2.2.1==[],())
abbrev zb_M (g:Q3):Option (Bool×Unit):=some (zb g)
abbrev zb_e:Entry:={ f:=141,args:=.pair t64 .unit,rS:=.pair t4 .unit,m:=λ x=>zb_M x.1 }
theorem yPJ:FnOK Tryz.prog zb_e:=fF (hm:=by intro x;show some (zb x.1)=zb_m 0 x.1;unfold zb_m zb;first|rfl|(simp only[yE];done)|(simp only[yE];rfl)) 0 Tryz.f141 (λ n x=>zb_m n x.1) [] eNil
def yHf(n:Nat)(g:Q3)(j0:List UInt8):Option (List UInt8×Unit):=
  ((yBB g.2.2.1).bind λ v1=>(bif decide (v1.1.length+(1:Nat) < strMax)then (bif decide ((v1.1++[(32:UInt8)]).length+j0.length < strMax)then some (v1.1++[(32:UInt8)]++j0,())else none)else none))
def zr_m(n:Nat)(g:Q3):Option (List UInt8×Unit):=
  (bif g.2.2.2.1==[]then (yHf n g ([(110:UInt8),111,110,101]))else (yHf n g (g.2.2.2.1)))
def zr_M(g:Q3):Option (List UInt8×Unit):=zr_m 0 g
abbrev zr_e:Entry:={ f:=146,args:=.pair t64 .unit,rS:=.pair t9 .unit,m:=λ x=>zr_M x.1 }
theorem yNm:FnOK Tryz.prog zr_e:=fF 0 Tryz.f146 (λ n x=>zr_m n x.1) [] (y8 y9d eNil)
def yJZ(n:Nat)(r8:Int->List UInt8->Int->Option (Int×Bool×Unit))(cU:Int)(str0__8:List UInt8)(pos0__8:Int):Option (Int×Bool×Unit):=
  (bif decide (pos0__8 < (↑str0__8.length:Int))then (bif decide ((yd str0__8 pos0__8).1 < 48)then some ((0:Int),Bool.false,())else (bif decide ((yd str0__8 pos0__8).1 > 57)then some ((0:Int),Bool.false,())else r8 (i64.wrap (i64.wrap ((10:Int) * cU)+i64.wrap (IntKind.i32.wrap ((yd str0__8 pos0__8).1 - (48:Int))))) str0__8 (yd str0__8 pos0__8).2))else some (cU,Bool.true,()))
def yK7(n k:Nat)(cU:Int)(str0__8:List UInt8)(pos0__8:Int):Option (Int×Bool×Unit):=
  iter (λ r y=>yJZ n (λ cU str0__8 pos0__8=>r ((cU,()),(((str0__8,pos0__8),()),()))) y.1.1 y.2.1.1.1 y.2.1.1.2) k ((cU,()),(((str0__8,pos0__8),()),()))
def yCL(n:Nat)(s:List UInt8):Option (Int×Bool×Unit):=
  (yK7 n n ((0:Int)) (s) ((0:Int)))
def yNa(n:Nat)(s:List UInt8):Option (Int×Bool×Unit):=
  (bif s==[]then some ((0:Int),Bool.false,())else (bif decide ((↑s.length:Int) > 9)then some ((0:Int),Bool.false,())else (bif decide ((↑s.length:Int) > 1)then ((idx s (0:Int)).bind λ v0=>(bif (↑v0.toNat:Int)==48 then some ((0:Int),Bool.false,())else (yCL n s)))else (yCL n s))))
def yLh(s:List UInt8):Option (Int×Bool×Unit):=yNa 1000 s
abbrev z03_e:Entry:={ f:=163,args:=.pair t9 .unit,rS:=.pair t3 (.pair t4 .unit),m:=λ x=>yLh x.1 }
theorem yL1:FnOK Tryz.prog z03_e:=fF 1000 Tryz.f163 (λ n x=>yNa n x.1) [[4,25]] eNil
def yEX(n:Nat)(r0:(Int×Unit->Option (Bool×Unit))->Int->Int->Int->Option (Int×Unit))(bg:Int×Unit->Option (Bool×Unit))(bh bx aa:Int):Option (Int×Unit):=
  (bif decide (aa < bx)then ((bg (aa,())).bind λ v1=>(bif v1.1 then some (aa,())else r0 bg bh bx (i64.wrap (aa+1))))else some (bh,()))
def y7L(n k:Nat)(bg:Int×Unit->Option (Bool×Unit))(bh bx aa:Int):Option (Int×Unit):=
  iter (λ r y=>yEX n (λ bg bh bx aa=>r ((bg,(bh,(bx,(aa,())))),((),()))) y.1.1 y.1.2.1 y.1.2.2.1 y.1.2.2.2.1) k ((bg,(bh,(bx,(aa,())))),((),()))
def yPn(n:Nat)(np:Int)(holds:Int×Unit->Option (Bool×Unit)):Option (Int×Unit):=
  (y7L n n (holds) ((-1:Int)) (np) ((0:Int)))
def yH5(bg:Int×Unit->Option (Bool×Unit))(bh bx aa:Int):Option ((Int×Unit)⊕Unit):=
  ((bg (aa,())).bind λ v1=>(bif v1.1 then (some (Sum.inl ((aa,()))))else (some (Sum.inr ()))))
def yLM(bg:Int×Unit->Option (Bool×Unit))(bh bx:Int):Option (Int×Unit):=
  (some ((bh,())))
theorem yCc(n:Nat)(hn:big<=n)(bg:Int×Unit->Option (Bool×Unit))(bh bx:Int)(hx:(bx)<=9223372036854775807):LeF some (y2s (λ ai ae=>yH5 bg bh bx ai) (λ ae=>yLM bg bh bx) ((bx) - 0).toNat 0 ()) (y7L n n bg bh bx 0):=by
  refine y4V (f:=some) (W:=λ bC ai ae=>y7L n bC bg bh bx ai) (λ bC ai ae=>?_) hx () n 0 (by decide) (by unfold big at hn;omega)
  show LeF _ _ (yEX n (y7L n bC) bg bh bx ai)
  exact yB (yO λ v1=>(yB (yD rfl) (yD rfl))) (y2o (yD rfl))
def yIt(np:Int)(holds:Int×Unit->Option (Bool×Unit)):Option (Int×Unit):=
  (bif decide ((np)<=9223372036854775807)then y2s (λ ai ae=>yH5 (holds) ((-1:Int)) (np) ai) (λ ae=>yLM (holds) ((-1:Int)) (np)) ((np) - 0).toNat 0 ()else none)
abbrev z0Y_e:Entry:={ f:=173,args:=.pair t3 (.pair t227 .unit),rS:=.pair t3 .unit,m:=λ x=>yIt x.1 x.2.1 }
theorem yKp:FnOK Tryz.prog z0Y_e:=fB Tryz.f173 (λ n x=>yPn n x.1 x.2.1) [[1,5,7,8]] eNil λ n hn x=>(y0N λ hx=>by apply yCc n hn;exact hx)
def zN_m(n:Nat)(i:Int)(p1:Q1)(p2:List UInt8):Option (Bool×Unit):=
  ((idx p1.2.2.2.2.2.2.2.2.1 i).bind λ v0=>some (v0.1==p2,()))
def zN_M(i:Int)(p1:Q1)(p2:List UInt8):Option (Bool×Unit):=zN_m 0 i p1 p2
abbrev zN_e:Entry:={ f:=174,args:=.pair t3 (.pair (.ref t60) (.pair (.ref t9) .unit)),rS:=.pair t4 .unit,m:=λ x=>zN_M x.1 x.2.1 x.2.2.1 }
theorem yPg:FnOK Tryz.prog zN_e:=fF 0 Tryz.f174 (λ n x=>zN_m n x.1 x.2.1 x.2.2.1) [] eNil
def yMy(n:Nat)(rp:Q1)(p1:Int)(xp:Q3):Option ((Q1)×Unit):=
  (bif decide ((0:Nat)+rp.2.2.2.2.2.2.2.2.1.length<=memMax)then ((idx rp.2.2.2.2.2.2.2.2.1 p1).bind λ v0=>((rp.2.2.2.2.2.2.2.2.1[p1.toNat]?).bind λ v1=>some ((rp.1,rp.2.1,rp.2.2.1,rp.2.2.2.1,rp.2.2.2.2.1,rp.2.2.2.2.2.1,rp.2.2.2.2.2.2.1,rp.2.2.2.2.2.2.2.1,rp.2.2.2.2.2.2.2.2.1.set p1.toNat xp,rp.2.2.2.2.2.2.2.2.2),())))else none)
def yFZ(rp:Q1)(p1:Int)(xp:Q3):Option ((Q1)×Unit):=yMy 0 rp p1 xp
abbrev z05_e:Entry:={ f:=176,args:=.pair t41 (.pair t3 (.pair t148 .unit)),rS:=.pair t41 .unit,m:=λ x=>yFZ x.1 x.2.1 x.2.2.1 }
theorem yLD:FnOK Tryz.prog z05_e:=fF (mu:=[3,7]) 0 Tryz.f176 (λ n x=>yMy n x.1 x.2.1 x.2.2.1) [] eNil
def yDm(n:Nat)(r0:List (List UInt8)->List UInt8->Int->Option (Bool×Unit))(aB:List (List UInt8))(cL:List UInt8)(bd:Int):Option (Bool×Unit):=
  (bif decide (bd < (↑aB.length:Int))then ((idx aB bd).bind λ v1=>(bif v1==cL then some (Bool.true,())else r0 aB cL (i64.wrap (bd+1))))else some (Bool.false,()))
def y7K(n k:Nat)(aB:List (List UInt8))(cL:List UInt8)(bd:Int):Option (Bool×Unit):=
  iter (λ r y=>yDm n (λ aB cL bd=>r ((aB,(cL,(bd,()))),((),()))) y.1.1 y.1.2.1 y.1.2.2.1) k ((aB,(cL,(bd,()))),((),()))
def yQG(n:Nat)(l:List (List UInt8))(s:List UInt8):Option (Bool×Unit):=
  (y7K n n (l) (s) ((0:Int)))
def yHT(aB:List (List UInt8))(cL:List UInt8)(bd:Int)(v1:List UInt8):Option ((Bool×Unit)⊕Unit):=
  (bif v1==cL then (some (Sum.inl ((Bool.true,()))))else (some (Sum.inr ())))
def yKr(aB:List (List UInt8))(cL:List UInt8):Option (Bool×Unit):=
  (some ((Bool.false,())))
theorem yDI(n:Nat)(hn:big<=n)(aB:List (List UInt8))(cL:List UInt8)(hx:List.length (aB) < yF):LeF some (ym (λ ai cB ae=>yHT aB cL ai cB) (λ ae=>yKr aB cL) 0 (aB) ()) (y7K n n aB cL 0):=by
  refine y0l (f:=some) (W:=λ bC ai ae=>y7K n bC aB cL ai) (λ bC ai ae=>?_) hx () n (by unfold big at hn;unfold yF at hx;omega)
  show LeF _ _ (yDm n (y7K n bC) aB cL ai)
  exact yB (yO λ v1=>(yB (yD rfl) (yD rfl))) (y2o (yD rfl))
def yDQ(l:List (List UInt8))(s:List UInt8):Option (Bool×Unit):=
  (bif decide (List.length (l) < yF)then ym (λ ai cB ae=>yHT (l) (s) ai cB) (λ ae=>yKr (l) (s)) 0 (l) ()else none)
abbrev z0C_e:Entry:={ f:=177,args:=.pair t38 (.pair t9 .unit),rS:=.pair t4 .unit,m:=λ x=>yDQ x.1 x.2.1 }
theorem yOw:FnOK Tryz.prog z0C_e:=fB Tryz.f177 (λ n x=>yQG n x.1 x.2.1) [[0,1,5]] eNil λ n hn x=>(y0N λ hx=>by apply yDI n hn;exact hx)
def yNB(n:Nat)(r0:(Int×Unit->Option (List UInt8×Unit))->List Int->Int->Int->List (List UInt8)->Option (List (List UInt8)×Unit))(b6:Int×Unit->Option (List UInt8×Unit))(aa:List Int)(bO aD:Int)(aY:List (List UInt8)):Option (List (List UInt8)×Unit):=
  (bif decide (aD < bO)then ((idx aa aD).bind λ v1=>((b6 (v1,())).bind λ v2=>(bif decide (aY.length+(1:Nat)<=memMax)then r0 b6 aa bO (i64.wrap (aD+1)) (aY++[v2.1])else none)))else some (aY,()))
def yNI(n k:Nat)(b6:Int×Unit->Option (List UInt8×Unit))(aa:List Int)(bO aD:Int)(aY:List (List UInt8)):Option (List (List UInt8)×Unit):=
  iter (λ r y=>yNB n (λ b6 aa bO aD aY=>r ((b6,(aa,(bO,(aD,())))),((aY,()),()))) y.1.1 y.1.2.1 y.1.2.2.1 y.1.2.2.2.1 y.2.1.1) k ((b6,(aa,(bO,(aD,())))),((aY,()),()))
def zJ_m(n:Nat)(l:List Int)(f:Int×Unit->Option (List UInt8×Unit)):Option (List (List UInt8)×Unit):=
  (yNI n n (f) (l) ((↑l.length:Int)) ((0:Int)) ([]))
def zJ_M(l:List Int)(f:Int×Unit->Option (List UInt8×Unit)):Option (List (List UInt8)×Unit):=zJ_m 1000 l f
abbrev zJ_e:Entry:={ f:=178,args:=.pair t34 (.pair t166 .unit),rS:=.pair t38 .unit,m:=λ x=>zJ_M x.1 x.2.1 }
theorem yNy:FnOK Tryz.prog zJ_e:=fF (mu:=[5]) 1000 Tryz.f178 (λ n x=>zJ_m n x.1 x.2.1) [[1,5,8,9,10]] eNil
def zn_m(n:Nat)(g:Q3):Option (List UInt8×Unit):=
  some (g.1,())
def zn(g:Q3):(List UInt8×Unit):=
  (g.1,())
abbrev zn_M (g:Q3):Option (List UInt8×Unit):=some (zn g)
abbrev zn_e:Entry:={ f:=183,args:=.pair t64 .unit,rS:=.pair t9 .unit,m:=λ x=>zn_M x.1 }
theorem yPe:FnOK Tryz.prog zn_e:=fF (hm:=by intro x;show some (zn x.1)=zn_m 0 x.1;unfold zn_m zn;first|rfl|(simp only[yE];done)|(simp only[yE];rfl)) 0 Tryz.f183 (λ n x=>zn_m n x.1) [] eNil
def yM8(n:Nat)(r0:List (List UInt8)->List UInt8->Int->Int->Option (Int×Unit))(aN:List (List UInt8))(cV:List UInt8)(bx aa:Int):Option (Int×Unit):=
  (bif decide (aa < bx)then ((idx aN aa).bind λ v1=>(bif cV==v1 then some (aa,())else r0 aN cV bx (i64.wrap (aa+1))))else some ((-1:Int),()))
def yLq(n k:Nat)(aN:List (List UInt8))(cV:List UInt8)(bx aa:Int):Option (Int×Unit):=
  iter (λ r y=>yM8 n (λ aN cV bx aa=>r ((aN,(cV,(bx,(aa,())))),((),()))) y.1.1 y.1.2.1 y.1.2.2.1 y.1.2.2.2.1) k ((aN,(cV,(bx,(aa,())))),((),()))
def zG_m(n:Nat)(s:List (List UInt8))(v:List UInt8):Option (Int×Unit):=
  (yLq n n (s) (v) ((↑s.length:Int)) ((0:Int)))
def zG_M(s:List (List UInt8))(v:List UInt8):Option (Int×Unit):=zG_m 1000 s v
abbrev zG_e:Entry:={ f:=184,args:=.pair t38 (.pair t9 .unit),rS:=.pair t3 .unit,m:=λ x=>zG_M x.1 x.2.1 }
theorem yPr:FnOK Tryz.prog zG_e:=fF 1000 Tryz.f184 (λ n x=>zG_m n x.1 x.2.1) [[0,1,7,8]] eNil
def zK_m(n:Nat)(i:Int)(p1:Q1)(p2:List UInt8):Option (Bool×Unit):=
  ((idx p1.2.2.2.2.2.2.2.2.2.2.1 i).bind λ v0=>some (v0.1==p2,()))
def zK_M(i:Int)(p1:Q1)(p2:List UInt8):Option (Bool×Unit):=zK_m 0 i p1 p2
abbrev zK_e:Entry:={ f:=203,args:=.pair t3 (.pair (.ref t60) (.pair (.ref t9) .unit)),rS:=.pair t4 .unit,m:=λ x=>zK_M x.1 x.2.1 x.2.2.1 }
theorem yPf:FnOK Tryz.prog zK_e:=fF 0 Tryz.f203 (λ n x=>zK_m n x.1 x.2.1 x.2.2.1) [] eNil
end
end Go.Tw
end
section
set_option maxRecDepth 1000000
namespace Go.Tw
open Go.Vx Go.Vx.B Go.Proofs
noncomputable section
def yLr(n:Nat)(l:List Int):Option (Int×Unit):=
  ((yKK l).bind λ v0=>some (v0.1,()))
def yNM(l:List Int):Option (Int×Unit):=yLr 0 l
abbrev z0d_e:Entry:={ f:=20,args:=.pair t34 .unit,rS:=.pair t3 .unit,m:=λ x=>yNM x.1 }
theorem yOn:FnOK Tryz.prog z0d_e:=fF 0 Tryz.f20 (λ n x=>yLr n x.1) [] (y8 yNV eNil)
def zx_m(n:Nat)(xp:Int×Int×Unit):Option (Int×Unit):=
  (bif (z0D xp.1 (0:Int) (4096:Int)).1 then some ((3:Int),())else (bif (z0D xp.2.1 (0:Int) (4096:Int)).1 then some ((3:Int),())else (bif decide (xp.2.1 > xp.1)then some ((11:Int),())else some ((0:Int),()))))
def zx(xp:Int×Int×Unit):(Int×Unit):=
  (bif (z0D xp.1 (0:Int) (4096:Int)).1 then ((3:Int),())else (bif (z0D xp.2.1 (0:Int) (4096:Int)).1 then ((3:Int),())else (bif decide (xp.2.1 > xp.1)then ((11:Int),())else ((0:Int),()))))
abbrev zx_M (xp:Int×Int×Unit):Option (Int×Unit):=some (zx xp)
abbrev zx_e:Entry:={ f:=22,args:=.pair t25 .unit,rS:=.pair t3 .unit,m:=λ x=>zx_M x.1 }
theorem yQF:FnOK Tryz.prog zx_e:=fF (hm:=by intro x;show some (zx x.1)=zx_m 0 x.1;unfold zx_m zx;first|rfl|(simp only[yE];done)|(simp only[yE];rfl)) 0 Tryz.f22 (λ n x=>zx_m n x.1) [] (y8 yLJ eNil)
def yH7(n:Nat)(r5:Q2->Int->Int->Int->Bool->Option (Int×Unit))(cF:Q2)(cR cz bS:Int)(cA:Bool):Option (Int×Unit):=
  (bif decide (cR < bS)then ((idx cF.2.2.2.1 cR).bind λ v6=>(bif (z0D v6 (0:Int) (999999999:Int)).1 then some ((3:Int),())else r5 cF (i64.wrap (cR+1)) cz bS cA))else (bif !cF.2.2.2.2.1==[]then some ((1:Int),())else some ((0:Int),())))
def yAX(n k:Nat)(cF:Q2)(cR cz bS:Int)(cA:Bool):Option (Int×Unit):=
  iter (λ r y=>yH7 n (λ cF cR cz bS cA=>r ((cF,(cR,())),(((cz,(bS,(cA,()))),()),()))) y.1.1 y.1.2.1 y.2.1.1.1 y.2.1.1.2.1 y.2.1.1.2.2.1) k ((cF,(cR,())),(((cz,(bS,(cA,()))),()),()))
def yGw(n:Nat)(r2:Q2->Int->Int->Int->Bool->Option (Int×Unit))(cD:Q2)(cS ah az:Int)(aA:Bool):Option (Int×Unit):=
  (bif decide (cS < ah)then ((idx cD.2.2.1 cS).bind λ v3=>((yHG v3).bind λ v4=>(bif !v4.1 then some ((8:Int),())else r2 cD (i64.wrap (cS+1)) ah az aA)))else (yAX n n (cD) ((0:Int)) (ah) (az) (aA)))
def yAd(n k:Nat)(cD:Q2)(cS ah az:Int)(aA:Bool):Option (Int×Unit):=
  iter (λ r y=>yGw n (λ cD cS ah az aA=>r ((cD,(cS,())),(((ah,(az,(aA,()))),()),()))) y.1.1 y.1.2.1 y.2.1.1.1 y.2.1.1.2.1 y.2.1.1.2.2.1) k ((cD,(cS,())),(((ah,(az,(aA,()))),()),()))
def zu_m(n:Nat)(e:Q2):Option (Int×Unit):=
  (bif (z0D e.1 (1:Int) (1000:Int)).1 then some ((3:Int),())else (bif !(z0m e.2.1).1.2.2.1 then some ((13:Int),())else (bif (↑e.2.2.1.length:Int) != (z0m e.2.1).1.1 then some ((2:Int),())else (bif (↑e.2.2.2.1.length:Int) != (z0m e.2.1).1.2.1 then some ((2:Int),())else (yAd n n (e) ((0:Int)) ((z0m e.2.1).1.1) ((z0m e.2.1).1.2.1) ((z0m e.2.1).1.2.2.1))))))
def yNG(cF:Q2)(cz bS:Int)(cA:Bool)(cR:Int):Option ((Int×Unit)⊕Unit):=
  ((idx cF.2.2.2.1 cR).bind λ v6=>(bif (z0D v6 (0:Int) (999999999:Int)).1 then (some (Sum.inl (((3:Int),()))))else (some (Sum.inr ()))))
def yMK(cF:Q2)(cz bS:Int)(cA:Bool):Option (Int×Unit):=
  (bif !cF.2.2.2.2.1==[]then (some (((1:Int),())))else (some (((0:Int),()))))
theorem yFs(n:Nat)(hn:big<=n)(cF:Q2)(cz bS:Int)(cA:Bool)(hx:(bS)<=9223372036854775807):LeF some (y2s (λ ai ae=>yNG cF cz bS cA ai) (λ ae=>yMK cF cz bS cA) ((bS) - 0).toNat 0 ()) (yAX n n cF 0 cz bS cA):=by
  refine y4V (f:=some) (W:=λ bC ai ae=>yAX n bC cF ai cz bS cA) (λ bC ai ae=>?_) hx () n 0 (by decide) (by unfold big at hn;omega)
  show LeF _ _ (yH7 n (yAX n bC) cF ai cz bS cA)
  exact yB (yO λ v6=>(yB (yD rfl) (yD rfl))) (y2o (yB (yD rfl) (yD rfl)))
def yMG(cD:Q2)(ah az:Int)(aA:Bool)(cS:Int):Option ((Int×Unit)⊕Unit):=
  ((idx cD.2.2.1 cS).bind λ v3=>((yHG v3).bind λ v4=>(bif !v4.1 then (some (Sum.inl (((8:Int),()))))else (some (Sum.inr ())))))
def yLp(cD:Q2)(ah az:Int)(aA:Bool):Option (Int×Unit):=
  (bif decide ((az)<=9223372036854775807)then y2s (λ ai ae=>yNG (cD) (ah) (az) (aA) ai) (λ ae=>yMK (cD) (ah) (az) (aA)) ((az) - 0).toNat 0 ()else none)
theorem yF6(n:Nat)(hn:big<=n)(cD:Q2)(ah az:Int)(aA:Bool)(hx:(ah)<=9223372036854775807):LeF some (y2s (λ ai ae=>yMG cD ah az aA ai) (λ ae=>yLp cD ah az aA) ((ah) - 0).toNat 0 ()) (yAd n n cD 0 ah az aA):=by
  refine y4V (f:=some) (W:=λ bC ai ae=>yAd n bC cD ai ah az aA) (λ bC ai ae=>?_) hx () n 0 (by decide) (by unfold big at hn;omega)
  show LeF _ _ (yGw n (yAd n bC) cD ai ah az aA)
  exact yB (yO λ v3=>(yO λ v4=>(yB (yD rfl) (yD rfl)))) (y2o (y0N λ hx=>by apply yFs n hn;exact hx))
def zu_M(e:Q2):Option (Int×Unit):=
  (bif (z0D e.1 (1:Int) (1000:Int)).1 then (some (((3:Int),())))else (bif !(z0m e.2.1).1.2.2.1 then (some (((13:Int),())))else (bif (↑e.2.2.1.length:Int) != (z0m e.2.1).1.1 then (some (((2:Int),())))else (bif (↑e.2.2.2.1.length:Int) != (z0m e.2.1).1.2.1 then (some (((2:Int),())))else (bif decide (((z0m e.2.1).1.1)<=9223372036854775807)then y2s (λ ai ae=>yMG (e) ((z0m e.2.1).1.1) ((z0m e.2.1).1.2.1) ((z0m e.2.1).1.2.2.1) ai) (λ ae=>yLp (e) ((z0m e.2.1).1.1) ((z0m e.2.1).1.2.1) ((z0m e.2.1).1.2.2.1)) (((z0m e.2.1).1.1) - 0).toNat 0 ()else none)))))
abbrev zu_e:Entry:={ f:=38,args:=.pair t56 .unit,rS:=.pair t3 .unit,m:=λ x=>zu_M x.1 }
theorem yPx:FnOK Tryz.prog zu_e:=fB Tryz.f38 (λ n x=>zu_m n x.1) [[1,3,4],[1,3,5]] (y8 yLJ (y8 yOX (y8 yKz eNil))) λ n hn x=>(yB (yD rfl) (yB (yD rfl) (yB (yD rfl) (yB (yD rfl) (y0N λ hx=>by apply yF6 n hn;exact hx)))))
def yNF(n:Nat)(rp:Q1)(gate command:List UInt8):Option (Int×Unit):=
  ((yBv rp gate).bind λ v0=>(bif decide (v0.1 < 0)then some ((10:Int),())else (bif !(zy command).1 then some ((13:Int),())else ((idx rp.2.2.2.2.2.2.2.2.1 v0.1).bind λ v1=>some ((z0g rp v1 command).1,())))))
def yJk(rp:Q1)(gate command:List UInt8):Option (Int×Unit):=yNF 0 rp gate command
abbrev z0h_e:Entry:={ f:=57,args:=.pair t41 (.pair t9 (.pair t9 .unit)),rS:=.pair t3 .unit,m:=λ x=>yJk x.1 x.2.1 x.2.2.1 }
theorem yOj:FnOK Tryz.prog z0h_e:=fF 0 Tryz.f57 (λ n x=>yNF n x.1 x.2.1 x.2.2.1) [] (y8 yDi (y8 yNn (y8 yKn eNil)))
def yN6(n:Nat)(np low high:Int):Option (Int×Unit):=
  (bif decide (np < low)then some ((z0b Bool.true (3:Int)).1,())else some ((z0b (decide (np > high)) (3:Int)).1,()))
def z0B(np low high:Int):(Int×Unit):=
  (bif decide (np < low)then ((z0b Bool.true (3:Int)).1,())else ((z0b (decide (np > high)) (3:Int)).1,()))
abbrev yPq (np low high:Int):Option (Int×Unit):=some (z0B np low high)
abbrev z0B_e:Entry:={ f:=64,args:=.pair t3 (.pair t3 (.pair t3 .unit)),rS:=.pair t29 .unit,m:=λ x=>yPq x.1 x.2.1 x.2.2.1 }
theorem yEs:FnOK Tryz.prog z0B_e:=fF (hm:=by intro x;show some (z0B x.1 x.2.1 x.2.2.1)=yN6 0 x.1 x.2.1 x.2.2.1;unfold yN6 z0B;first|rfl|(simp only[yE];done)|(simp only[yE];rfl)) 0 Tryz.f64 (λ n x=>yN6 n x.1 x.2.1 x.2.2.1) [] (y8 y2z eNil)
def zY_m(n:Nat)(s:List UInt8):Option (Int×Unit):=
  ((yFp s).bind λ v0=>some ((z0b (!v0.1) (8:Int)).1,()))
def zY_M(s:List UInt8):Option (Int×Unit):=zY_m 0 s
abbrev zY_e:Entry:={ f:=101,args:=.pair t9 .unit,rS:=.pair t29 .unit,m:=λ x=>zY_M x.1 }
theorem yQH:FnOK Tryz.prog zY_e:=fF 0 Tryz.f101 (λ n x=>zY_m n x.1) [] (y8 yEr (y8 y2z eNil))
def zT_m(n:Nat)(rp:Q1)(name:List UInt8):Option (Int×Unit):=
  ((yIt (↑rp.2.2.2.2.2.2.2.2.1.length:Int) λ (x:Int×Unit)=>zN_M x.1 rp name).bind λ v0=>some (v0.1,()))
def zT_M(rp:Q1)(name:List UInt8):Option (Int×Unit):=zT_m 0 rp name
abbrev zT_e:Entry:={ f:=106,args:=.pair t60 (.pair t9 .unit),rS:=.pair t3 .unit,m:=λ x=>zT_M x.1 x.2.1 }
theorem yJc:FnOK Tryz.prog zT_e:=fF 0 Tryz.f106 (λ n x=>zT_m n x.1 x.2.1) [] (y8 yPg (y8 yKp eNil))
def za_m(n:Nat)(s:List UInt8):Option (Int×Unit):=
  (bif !s==[(108:UInt8),111,119,101,114]then some ((z0b (!s==[(114:UInt8),97,105,115,101]) (13:Int)).1,())else some ((z0b Bool.false (13:Int)).1,()))
def za(s:List UInt8):(Int×Unit):=
  (bif !s==[(108:UInt8),111,119,101,114]then ((z0b (!s==[(114:UInt8),97,105,115,101]) (13:Int)).1,())else ((z0b Bool.false (13:Int)).1,()))
abbrev za_M (s:List UInt8):Option (Int×Unit):=some (za s)
abbrev za_e:Entry:={ f:=107,args:=.pair t9 .unit,rS:=.pair t29 .unit,m:=λ x=>za_M x.1 }
theorem yPA:FnOK Tryz.prog za_e:=fF (hm:=by intro x;show some (za x.1)=za_m 0 x.1;unfold za_m za;first|rfl|(simp only[yE];done)|(simp only[yE];rfl)) 0 Tryz.f107 (λ n x=>za_m n x.1) [] (y8 y2z eNil)
def zQ_m(n:Nat)(rp:Q1)(g:Q3)(s:List UInt8):Option (Int×Unit):=
  (bif s==[(108:UInt8),111,119,101,114]then (bif rp.2.2.2.2.2.2.1==[(111:UInt8),112,101,110]then ((y12 [(z0b (!g.2.2.2.2.1==[]) (33:Int)).1,(z0b (decide ((↑rp.2.2.2.2.2.2.2.2.2.1.length:Int) > 0)) (34:Int)).1,(z0b Bool.true (19:Int)).1]).bind λ v5=>some (v5.1,()))else (bif s==[(114:UInt8),97,105,115,101]then ((y12 [(z0b (!g.2.2.2.2.1==[]) (33:Int)).1,(z0b (decide ((↑rp.2.2.2.2.2.2.2.2.2.1.length:Int) > 0)) (34:Int)).1,(z0b (rp.2.2.2.2.2.2.1==[(99:UInt8),108,111,115,101]) (19:Int)).1]).bind λ v6=>some (v6.1,()))else ((y12 [(z0b (!g.2.2.2.2.1==[]) (33:Int)).1,(z0b (decide ((↑rp.2.2.2.2.2.2.2.2.2.1.length:Int) > 0)) (34:Int)).1,(z0b Bool.false (19:Int)).1]).bind λ v7=>some (v7.1,()))))else (bif s==[(114:UInt8),97,105,115,101]then ((y12 [(z0b (!g.2.2.2.2.1==[]) (33:Int)).1,(z0b (decide ((↑rp.2.2.2.2.2.2.2.2.2.1.length:Int) > 0)) (34:Int)).1,(z0b (rp.2.2.2.2.2.2.1==[(99:UInt8),108,111,115,101]) (19:Int)).1]).bind λ v8=>some (v8.1,()))else ((y12 [(z0b (!g.2.2.2.2.1==[]) (33:Int)).1,(z0b (decide ((↑rp.2.2.2.2.2.2.2.2.2.1.length:Int) > 0)) (34:Int)).1,(z0b Bool.false (19:Int)).1]).bind λ v9=>some (v9.1,()))))
def zQ_M(rp:Q1)(g:Q3)(s:List UInt8):Option (Int×Unit):=zQ_m 0 rp g s
abbrev zQ_e:Entry:={ f:=108,args:=.pair t60 (.pair t64 (.pair t9 .unit)),rS:=.pair t29 .unit,m:=λ x=>zQ_M x.1 x.2.1 x.2.2.1 }
theorem yNv:FnOK Tryz.prog zQ_e:=fF 0 Tryz.f108 (λ n x=>zQ_m n x.1 x.2.1 x.2.2.1) [] (y8 y2z (y8 y5L eNil))
def zz_m(n:Nat)(rp:Q1)(e:Q2):Option ((Q1)×Int×Unit):=
  ((idx e.2.2.1 (0:Int)).bind λ v0=>((yBv rp v0).bind λ v1=>((idx e.2.2.1 (1:Int)).bind λ v2=>((idx e.2.2.2.1 (1:Int)).bind λ v3=>(bif decide (v1.1 < 0)then some (rp,(10:Int),())else (bif !(zy v2).1 then some (rp,(13:Int),())else ((idx rp.2.2.2.2.2.2.2.2.1 v1.1).bind λ v4=>(bif v3==0 then some (rp,(6:Int),())else (bif decide (v3 < v4.2.2.1)then some (rp,(11:Int),())else (bif v3==v4.2.2.1 then (bif !v2==v4.2.2.2.1 then some (rp,(30:Int),())else some (rp,(0:Int),()))else (bif (z0g rp v4 v2).1 != 0 then some (rp,(z0g rp v4 v2).1,())else ((yFZ rp v1.1 (v4.1,v2==[(108:UInt8),111,119,101,114],v3,v2,v4.2.2.2.2.1,())).bind λ v5=>some (v5.1,(0:Int),())))))))))))))
def zz_M(rp:Q1)(e:Q2):Option ((Q1)×Int×Unit):=zz_m 0 rp e
abbrev zz_e:Entry:={ f:=118,args:=.pair t41 (.pair t56 .unit),rS:=.pair t41 (.pair t3 .unit),m:=λ x=>zz_M x.1 x.2.1 }
theorem yPh:FnOK Tryz.prog zz_e:=fF 0 Tryz.f118 (λ n x=>zz_m n x.1 x.2.1) [] (y8 yDi (y8 yNn (y8 yKn (y8 yLD eNil))))
def yJt(n:Nat)(rp:Q1)(e:Q2):Option ((Q1)×Int×Unit):=
  ((idx e.2.2.1 (0:Int)).bind λ v0=>((yBv rp v0).bind λ v1=>(bif decide (v1.1 < 0)then some (rp,(10:Int),())else ((idx rp.2.2.2.2.2.2.2.2.1 v1.1).bind λ v2=>(bif e.2.1==[(108:UInt8),111,99,107]then (bif !v2.2.2.2.2.1==[]then some (rp,(33:Int),())else ((idx e.2.2.1 (1:Int)).bind λ v3=>((yFZ rp v1.1 (v2.1,v2.2.1,v2.2.2.1,v2.2.2.2.1,v3,())).bind λ v6=>some (v6.1,(0:Int),()))))else ((idx e.2.2.1 (1:Int)).bind λ v4=>(bif !v2.2.2.2.2.1==v4 then some (rp,(33:Int),())else ((yFZ rp v1.1 (v2.1,v2.2.1,v2.2.2.1,v2.2.2.2.1,[],())).bind λ v7=>some (v7.1,(0:Int),())))))))))
def yG2(rp:Q1)(e:Q2):Option ((Q1)×Int×Unit):=yJt 0 rp e
abbrev z0T_e:Entry:={ f:=119,args:=.pair t41 (.pair t56 .unit),rS:=.pair t41 (.pair t3 .unit),m:=λ x=>yG2 x.1 x.2.1 }
theorem yOU:FnOK Tryz.prog z0T_e:=fF 0 Tryz.f119 (λ n x=>yJt n x.1 x.2.1) [] (y8 yDi (y8 yLD eNil))
def yEa(n:Nat)(r2:Q2->Int->Int->Int->Int->Int->Int->Int->Int->List UInt8->Int->List (Q3)->List (List UInt8)->List (Q6)->Int->Int->Int->Int->Int->Int->Int->List UInt8->Int->List (List UInt8)->Option ((Q1)×Int×Unit))(cI:Q2)(cO ah az aA bT bU bV bW:Int)(bX:List UInt8)(bY:Int)(bZ:List (Q3))(b8:List (List UInt8))(bw:List (Q6))(ck cl cm cn co cp cr:Int)(cu:List UInt8)(cw:Int)(cE:List (List UInt8)):Option ((Q1)×Int×Unit):=
  (bif decide (cO < (↑b8.length:Int))then ((idx b8 cO).bind λ v3=>((idx cI.2.2.1 (0:Int)).bind λ v4=>(bif !v3==v4 then ((idx b8 cO).bind λ v5=>(bif decide (cE.length+(1:Nat)<=memMax)then r2 cI (i64.wrap (cO+1)) ah az aA bT bU bV bW bX bY bZ b8 bw ck cl cm cn co cp cr cu cw (cE++[v5])else none))else r2 cI (i64.wrap (cO+1)) ah az aA bT bU bV bW bX bY bZ b8 bw ck cl cm cn co cp cr cu cw cE)))else some ((ah,(az,aA,()),bT,bU,bV,bW,bX,bY,bZ,cE,bw,()),(0:Int),()))
def y7E(n k:Nat)(cI:Q2)(cO ah az aA bT bU bV bW:Int)(bX:List UInt8)(bY:Int)(bZ:List (Q3))(b8:List (List UInt8))(bw:List (Q6))(ck cl cm cn co cp cr:Int)(cu:List UInt8)(cw:Int)(cE:List (List UInt8)):Option ((Q1)×Int×Unit):=
  iter (λ r y=>yEa n (λ cI cO ah az aA bT bU bV bW bX bY bZ b8 bw ck cl cm cn co cp cr cu cw cE=>r ((cI,(cO,())),(((ah,(az,(aA,(bT,(bU,(bV,(bW,(bX,(bY,(bZ,(b8,(bw,())))))))))))),((ck,(cl,(cm,(cn,(co,(cp,(cr,(cu,(cw,()))))))))),(cE,()))),()))) y.1.1 y.1.2.1 y.2.1.1.1 y.2.1.1.2.1 y.2.1.1.2.2.1 y.2.1.1.2.2.2.1 y.2.1.1.2.2.2.2.1 y.2.1.1.2.2.2.2.2.1 y.2.1.1.2.2.2.2.2.2.1 y.2.1.1.2.2.2.2.2.2.2.1 y.2.1.1.2.2.2.2.2.2.2.2.1 y.2.1.1.2.2.2.2.2.2.2.2.2.1 y.2.1.1.2.2.2.2.2.2.2.2.2.2.1 y.2.1.1.2.2.2.2.2.2.2.2.2.2.2.1 y.2.1.2.1.1 y.2.1.2.1.2.1 y.2.1.2.1.2.2.1 y.2.1.2.1.2.2.2.1 y.2.1.2.1.2.2.2.2.1 y.2.1.2.1.2.2.2.2.2.1 y.2.1.2.1.2.2.2.2.2.2.1 y.2.1.2.1.2.2.2.2.2.2.2.1 y.2.1.2.1.2.2.2.2.2.2.2.2.1 y.2.1.2.2.1) k ((cI,(cO,())),(((ah,(az,(aA,(bT,(bU,(bV,(bW,(bX,(bY,(bZ,(b8,(bw,())))))))))))),((ck,(cl,(cm,(cn,(co,(cp,(cr,(cu,(cw,()))))))))),(cE,()))),()))
def y8M(n:Nat)(r11:Q2->Bool->Int->Int->Int->Int->Int->Int->Int->Int->List UInt8->Int->List (Q3)->List (List UInt8)->List (Q6)->Int->Int->Int->Int->Int->Int->Int->List UInt8->Int->List (List UInt8)->Option ((Q1)×Int×Unit))(bi:Q2)(a8:Bool)(bc aj ak am aq ar au av:Int)(aw:List UInt8)(ax:Int)(ay:List (Q3))(a7:List (List UInt8))(ac:List (Q6))(aE aF aG aH aI aJ aK:Int)(aL:List UInt8)(aM:Int)(b4:List (List UInt8))(j15:Bool):Option ((Q1)×Int×Unit):=
  (bif j15 then ((idx bi.2.2.1 (0:Int)).bind λ v16=>(bif decide (b4.length+(1:Nat)<=memMax)then ((idx a7 bc).bind λ v18=>(bif decide ((b4++[v16]).length+(1:Nat)<=memMax)then r11 bi Bool.true (i64.wrap (bc+1)) aj ak am aq ar au av aw ax ay a7 ac aE aF aG aH aI aJ aK aL aM (b4++[v16]++[v18])else none))else none))else ((idx a7 bc).bind λ v19=>(bif decide (b4.length+(1:Nat)<=memMax)then r11 bi a8 (i64.wrap (bc+1)) aj ak am aq ar au av aw ax ay a7 ac aE aF aG aH aI aJ aK aL aM (b4++[v19])else none)))
def yBS(n:Nat)(r11:Q2->Bool->Int->Int->Int->Int->Int->Int->Int->Int->List UInt8->Int->List (Q3)->List (List UInt8)->List (Q6)->Int->Int->Int->Int->Int->Int->Int->List UInt8->Int->List (List UInt8)->Option ((Q1)×Int×Unit))(bi:Q2)(a8:Bool)(bc aj ak am aq ar au av:Int)(aw:List UInt8)(ax:Int)(ay:List (Q3))(a7:List (List UInt8))(ac:List (Q6))(aE aF aG aH aI aJ aK:Int)(aL:List UInt8)(aM:Int)(b4:List (List UInt8)):Option ((Q1)×Int×Unit):=
  (bif decide (bc < (↑a7.length:Int))then (bif !a8 then ((idx bi.2.2.1 (0:Int)).bind λ v12=>((idx a7 bc).bind λ v13=>(y8M n r11 bi a8 bc aj ak am aq ar au av aw ax ay a7 ac aE aF aG aH aI aJ aK aL aM b4 (Go.Op.bytesLess v12 v13))))else (y8M n r11 bi a8 bc aj ak am aq ar au av aw ax ay a7 ac aE aF aG aH aI aJ aK aL aM b4 (Bool.false)))else (bif !a8 then ((idx bi.2.2.1 (0:Int)).bind λ v20=>(bif decide (b4.length+(1:Nat)<=memMax)then some ((aj,(ak,am,()),aq,ar,au,av,aw,ax,ay,b4++[v20],ac,()),(0:Int),())else none))else some ((aj,(ak,am,()),aq,ar,au,av,aw,ax,ay,b4,ac,()),(0:Int),())))
def y5j(n k:Nat)(bi:Q2)(a8:Bool)(bc aj ak am aq ar au av:Int)(aw:List UInt8)(ax:Int)(ay:List (Q3))(a7:List (List UInt8))(ac:List (Q6))(aE aF aG aH aI aJ aK:Int)(aL:List UInt8)(aM:Int)(b4:List (List UInt8)):Option ((Q1)×Int×Unit):=
  iter (λ r y=>yBS n (λ bi a8 bc aj ak am aq ar au av aw ax ay a7 ac aE aF aG aH aI aJ aK aL aM b4=>r ((bi,(a8,(bc,()))),(((aj,(ak,(am,(aq,(ar,(au,(av,(aw,(ax,(ay,(a7,(ac,())))))))))))),((aE,(aF,(aG,(aH,(aI,(aJ,(aK,(aL,(aM,()))))))))),(b4,()))),()))) y.1.1 y.1.2.1 y.1.2.2.1 y.2.1.1.1 y.2.1.1.2.1 y.2.1.1.2.2.1 y.2.1.1.2.2.2.1 y.2.1.1.2.2.2.2.1 y.2.1.1.2.2.2.2.2.1 y.2.1.1.2.2.2.2.2.2.1 y.2.1.1.2.2.2.2.2.2.2.1 y.2.1.1.2.2.2.2.2.2.2.2.1 y.2.1.1.2.2.2.2.2.2.2.2.2.1 y.2.1.1.2.2.2.2.2.2.2.2.2.2.1 y.2.1.1.2.2.2.2.2.2.2.2.2.2.2.1 y.2.1.2.1.1 y.2.1.2.1.2.1 y.2.1.2.1.2.2.1 y.2.1.2.1.2.2.2.1 y.2.1.2.1.2.2.2.2.1 y.2.1.2.1.2.2.2.2.2.1 y.2.1.2.1.2.2.2.2.2.2.1 y.2.1.2.1.2.2.2.2.2.2.2.1 y.2.1.2.1.2.2.2.2.2.2.2.2.1 y.2.1.2.2.1) k ((bi,(a8,(bc,()))),(((aj,(ak,(am,(aq,(ar,(au,(av,(aw,(ax,(ay,(a7,(ac,())))))))))))),((aE,(aF,(aG,(aH,(aI,(aJ,(aK,(aL,(aM,()))))))))),(b4,()))),()))
def yDu(n:Nat)(r6:Q2->Bool->Int->Int->Int->Int->Int->Int->Int->Int->List UInt8->Int->List (Q3)->List (List UInt8)->List (Q6)->Int->Int->Int->Int->Int->Int->Int->List UInt8->Int->List (List UInt8)->Option ((Q1)×Int×Unit))(cG:Q2)(b9:Bool)(cK bj bl bm bn bp bq br:Int)(bu:List UInt8)(bv:Int)(b5:List (Q3))(aC:List (List UInt8))(aZ:List (Q6))(bF bG bH bI bJ bK bL:Int)(bM:List UInt8)(bN:Int)(cJ:List (List UInt8)):Option ((Q1)×Int×Unit):=
  (bif decide (cK < (↑b5.length:Int))then (bif b9 then r6 cG Bool.true (i64.wrap (cK+1)) bj bl bm bn bp bq br bu bv b5 aC aZ bF bG bH bI bJ bK bL bM bN cJ else ((idx b5 cK).bind λ v7=>r6 cG v7.2.1 (i64.wrap (cK+1)) bj bl bm bn bp bq br bu bv b5 aC aZ bF bG bH bI bJ bK bL bM bN cJ))else (bif b9 then some ((bj,(bl,bm,()),bn,bp,bq,br,bu,bv,b5,aC,aZ,()),(20:Int),())else (bif decide ((↑aC.length:Int) >= 16)then some ((bj,(bl,bm,()),bn,bp,bq,br,bu,bv,b5,aC,aZ,()),(5:Int),())else (y5j n n (cG) (Bool.false) ((0:Int)) (bj) (bl) (bm) (bn) (bp) (bq) (br) (bu) (bv) (b5) (aC) (aZ) (bF) (bG) (bH) (bI) (bJ) (bK) (bL) (bM) (bN) (cJ)))))
def y7O(n k:Nat)(cG:Q2)(b9:Bool)(cK bj bl bm bn bp bq br:Int)(bu:List UInt8)(bv:Int)(b5:List (Q3))(aC:List (List UInt8))(aZ:List (Q6))(bF bG bH bI bJ bK bL:Int)(bM:List UInt8)(bN:Int)(cJ:List (List UInt8)):Option ((Q1)×Int×Unit):=
  iter (λ r y=>yDu n (λ cG b9 cK bj bl bm bn bp bq br bu bv b5 aC aZ bF bG bH bI bJ bK bL bM bN cJ=>r ((cG,(b9,(cK,()))),(((bj,(bl,(bm,(bn,(bp,(bq,(br,(bu,(bv,(b5,(aC,(aZ,())))))))))))),((bF,(bG,(bH,(bI,(bJ,(bK,(bL,(bM,(bN,()))))))))),(cJ,()))),()))) y.1.1 y.1.2.1 y.1.2.2.1 y.2.1.1.1 y.2.1.1.2.1 y.2.1.1.2.2.1 y.2.1.1.2.2.2.1 y.2.1.1.2.2.2.2.1 y.2.1.1.2.2.2.2.2.1 y.2.1.1.2.2.2.2.2.2.1 y.2.1.1.2.2.2.2.2.2.2.1 y.2.1.1.2.2.2.2.2.2.2.2.1 y.2.1.1.2.2.2.2.2.2.2.2.2.1 y.2.1.1.2.2.2.2.2.2.2.2.2.2.1 y.2.1.1.2.2.2.2.2.2.2.2.2.2.2.1 y.2.1.2.1.1 y.2.1.2.1.2.1 y.2.1.2.1.2.2.1 y.2.1.2.1.2.2.2.1 y.2.1.2.1.2.2.2.2.1 y.2.1.2.1.2.2.2.2.2.1 y.2.1.2.1.2.2.2.2.2.2.1 y.2.1.2.1.2.2.2.2.2.2.2.1 y.2.1.2.1.2.2.2.2.2.2.2.2.1 y.2.1.2.2.1) k ((cG,(b9,(cK,()))),(((bj,(bl,(bm,(bn,(bp,(bq,(br,(bu,(bv,(b5,(aC,(aZ,())))))))))))),((bF,(bG,(bH,(bI,(bJ,(bK,(bL,(bM,(bN,()))))))))),(cJ,()))),()))
def yPi(n:Nat)(rp:Q1)(e:Q2):Option ((Q1)×Int×Unit):=
  ((idx e.2.2.1 (0:Int)).bind λ v0=>((yDQ rp.2.2.2.2.2.2.2.2.2.1 v0).bind λ v1=>(bif e.2.1==[(108:UInt8),101,97,118,101]then (bif !v1.1 then some (rp,(10:Int),())else (y7E n n (e) ((0:Int)) (rp.1) (rp.2.1.1) (rp.2.1.2.1) (rp.2.2.1) (rp.2.2.2.1) (rp.2.2.2.2.1) (rp.2.2.2.2.2.1) (rp.2.2.2.2.2.2.1) (rp.2.2.2.2.2.2.2.1) (rp.2.2.2.2.2.2.2.2.1) (rp.2.2.2.2.2.2.2.2.2.1) (rp.2.2.2.2.2.2.2.2.2.2.1) ((0:Int)) ((0:Int)) ((0:Int)) ((0:Int)) ((0:Int)) ((0:Int)) ((0:Int)) ([]) ((0:Int)) ([])))else (bif v1.1 then some (rp,(9:Int),())else (y7O n n (e) (rp.2.2.2.2.2.2.1==[(99:UInt8),108,111,115,101]) ((0:Int)) (rp.1) (rp.2.1.1) (rp.2.1.2.1) (rp.2.2.1) (rp.2.2.2.1) (rp.2.2.2.2.1) (rp.2.2.2.2.2.1) (rp.2.2.2.2.2.2.1) (rp.2.2.2.2.2.2.2.1) (rp.2.2.2.2.2.2.2.2.1) (rp.2.2.2.2.2.2.2.2.2.1) (rp.2.2.2.2.2.2.2.2.2.2.1) ((0:Int)) ((0:Int)) ((0:Int)) ((0:Int)) ((0:Int)) ((0:Int)) ((0:Int)) ([]) ((0:Int)) ([]))))))
def yHJ(cI:Q2)(ah az aA bT bU bV bW:Int)(bX:List UInt8)(bY:Int)(bZ:List (Q3))(b8:List (List UInt8))(bw:List (Q6))(ck cl cm cn co cp cr:Int)(cu:List UInt8)(cw cO:Int)(v3:List UInt8)(cE:List (List UInt8)):Option (((Q1)×Int×Unit)⊕(List (List UInt8))):=
  ((idx cI.2.2.1 (0:Int)).bind λ v4=>(bif !v3==v4 then ((idx b8 cO).bind λ v5=>(bif decide (cE.length+(1:Nat)<=memMax)then (some (Sum.inr (cE++[v5])))else none))else (some (Sum.inr (cE)))))
def yLL(cI:Q2)(ah az aA bT bU bV bW:Int)(bX:List UInt8)(bY:Int)(bZ:List (Q3))(b8:List (List UInt8))(bw:List (Q6))(ck cl cm cn co cp cr:Int)(cu:List UInt8)(cw:Int)(cE:List (List UInt8)):Option ((Q1)×Int×Unit):=
  (some (((ah,(az,aA,()),bT,bU,bV,bW,bX,bY,bZ,cE,bw,()),(0:Int),())))
theorem yDN(n:Nat)(hn:big<=n)(cI:Q2)(ah az aA bT bU bV bW:Int)(bX:List UInt8)(bY:Int)(bZ:List (Q3))(b8:List (List UInt8))(bw:List (Q6))(ck cl cm cn co cp cr:Int)(cu:List UInt8)(cw:Int)(cE:List (List UInt8))(hx:List.length (b8) < yF):LeF some (ym (λ ai cB ae=>yHJ cI ah az aA bT bU bV bW bX bY bZ b8 bw ck cl cm cn co cp cr cu cw ai cB ae) (λ ae=>yLL cI ah az aA bT bU bV bW bX bY bZ b8 bw ck cl cm cn co cp cr cu cw ae) 0 (b8) cE) (y7E n n cI 0 ah az aA bT bU bV bW bX bY bZ b8 bw ck cl cm cn co cp cr cu cw cE):=by
  refine y0l (f:=some) (W:=λ bC ai ae=>y7E n bC cI ai ah az aA bT bU bV bW bX bY bZ b8 bw ck cl cm cn co cp cr cu cw ae) (λ bC ai ae=>?_) hx cE n (by unfold big at hn;unfold yF at hx;omega)
  show LeF _ _ (yEa n (y7E n bC) cI ai ah az aA bT bU bV bW bX bY bZ b8 bw ck cl cm cn co cp cr cu cw ae)
  exact yB (yO λ v3=>(yO λ v4=>(yB (yO λ v5=>(yB (yD rfl) y0a)) (yD rfl)))) (y2o (yD rfl))
def yA8(bi:Q2)(a8:Bool)(bc aj ak am aq ar au av:Int)(aw:List UInt8)(ax:Int)(ay:List (Q3))(a7:List (List UInt8))(ac:List (Q6))(aE aF aG aH aI aJ aK:Int)(aL:List UInt8)(aM:Int)(b4:List (List UInt8))(j15:Bool):Option (((Q1)×Int×Unit)⊕(Bool×List (List UInt8))):=
  (bif j15 then ((idx bi.2.2.1 (0:Int)).bind λ v16=>(bif decide (b4.length+(1:Nat)<=memMax)then ((idx a7 bc).bind λ v18=>(bif decide ((b4++[v16]).length+(1:Nat)<=memMax)then (some (Sum.inr ((Bool.true),(b4++[v16]++[v18]))))else none))else none))else ((idx a7 bc).bind λ v19=>(bif decide (b4.length+(1:Nat)<=memMax)then (some (Sum.inr ((a8),(b4++[v19]))))else none)))
theorem y2J(n:Nat)(hn:big<=n)(r11:Q2->Bool->Int->Int->Int->Int->Int->Int->Int->Int->List UInt8->Int->List (Q3)->List (List UInt8)->List (Q6)->Int->Int->Int->Int->Int->Int->Int->List UInt8->Int->List (List UInt8)->Option ((Q1)×Int×Unit))(bi:Q2)(a8:Bool)(bc aj ak am aq ar au av:Int)(aw:List UInt8)(ax:Int)(ay:List (Q3))(a7:List (List UInt8))(ac:List (Q6))(aE aF aG aH aI aJ aK:Int)(aL:List UInt8)(aM:Int)(b4:List (List UInt8))(j15:Bool):LeF (elim some λ (ae:(Bool×List (List UInt8)))=>r11 bi ae.1 (i64.wrap (bc+1)) aj ak am aq ar au av aw ax ay a7 ac aE aF aG aH aI aJ aK aL aM ae.2) (yA8 bi a8 bc aj ak am aq ar au av aw ax ay a7 ac aE aF aG aH aI aJ aK aL aM b4 j15) (y8M n r11 bi a8 bc aj ak am aq ar au av aw ax ay a7 ac aE aF aG aH aI aJ aK aL aM b4 j15):=
  (yB (yO λ v16=>(yB (yO λ v18=>(yB (yD rfl) y0a)) y0a)) (yO λ v19=>(yB (yD rfl) y0a)))
def yCe(bi:Q2)(aj ak am aq ar au av:Int)(aw:List UInt8)(ax:Int)(ay:List (Q3))(a7:List (List UInt8))(ac:List (Q6))(aE aF aG aH aI aJ aK:Int)(aL:List UInt8)(aM bc:Int)(a8:Bool)(b4:List (List UInt8)):Option (((Q1)×Int×Unit)⊕(Bool×List (List UInt8))):=
  (bif !a8 then ((idx bi.2.2.1 (0:Int)).bind λ v12=>((idx a7 bc).bind λ v13=>(yA8 bi a8 bc aj ak am aq ar au av aw ax ay a7 ac aE aF aG aH aI aJ aK aL aM b4 (Go.Op.bytesLess v12 v13))))else (yA8 bi a8 bc aj ak am aq ar au av aw ax ay a7 ac aE aF aG aH aI aJ aK aL aM b4 (Bool.false)))
def yDV(bi:Q2)(aj ak am aq ar au av:Int)(aw:List UInt8)(ax:Int)(ay:List (Q3))(a7:List (List UInt8))(ac:List (Q6))(aE aF aG aH aI aJ aK:Int)(aL:List UInt8)(aM:Int)(a8:Bool)(b4:List (List UInt8)):Option ((Q1)×Int×Unit):=
  (bif !a8 then ((idx bi.2.2.1 (0:Int)).bind λ v20=>(bif decide (b4.length+(1:Nat)<=memMax)then (some (((aj,(ak,am,()),aq,ar,au,av,aw,ax,ay,b4++[v20],ac,()),(0:Int),())))else none))else (some (((aj,(ak,am,()),aq,ar,au,av,aw,ax,ay,b4,ac,()),(0:Int),()))))
theorem yB9(n:Nat)(hn:big<=n)(bi:Q2)(aj ak am aq ar au av:Int)(aw:List UInt8)(ax:Int)(ay:List (Q3))(a7:List (List UInt8))(ac:List (Q6))(aE aF aG aH aI aJ aK:Int)(aL:List UInt8)(aM:Int)(a8:Bool)(b4:List (List UInt8))(hx:((↑a7.length:Int))<=9223372036854775807):LeF some (y2s (λ ai ae=>yCe bi aj ak am aq ar au av aw ax ay a7 ac aE aF aG aH aI aJ aK aL aM ai ae.1 ae.2) (λ ae=>yDV bi aj ak am aq ar au av aw ax ay a7 ac aE aF aG aH aI aJ aK aL aM ae.1 ae.2) (((↑a7.length:Int)) - 0).toNat 0 (a8,b4)) (y5j n n bi a8 0 aj ak am aq ar au av aw ax ay a7 ac aE aF aG aH aI aJ aK aL aM b4):=by
  refine y4V (f:=some) (W:=λ bC ai ae=>y5j n bC bi ae.1 ai aj ak am aq ar au av aw ax ay a7 ac aE aF aG aH aI aJ aK aL aM ae.2) (λ bC ai ae=>?_) hx (a8,b4) n 0 (by decide) (by unfold big at hn;omega)
  show LeF _ _ (yBS n (y5j n bC) bi ae.1 ai aj ak am aq ar au av aw ax ay a7 ac aE aF aG aH aI aJ aK aL aM ae.2)
  exact yB (yB (yO λ v12=>(yO λ v13=>(by apply y2J n hn))) (by apply y2J n hn)) (y2o (yB (yO λ v20=>(yB (yD rfl) y0a)) (yD rfl)))
def yHR(cG:Q2)(bj bl bm bn bp bq br:Int)(bu:List UInt8)(bv:Int)(b5:List (Q3))(aC:List (List UInt8))(aZ:List (Q6))(bF bG bH bI bJ bK bL:Int)(bM:List UInt8)(bN:Int)(cJ:List (List UInt8))(cK:Int)(b9:Bool):Option (((Q1)×Int×Unit)⊕(Bool)):=
  (bif b9 then (some (Sum.inr (Bool.true)))else ((idx b5 cK).bind λ v7=>(some (Sum.inr (v7.2.1)))))
def yGp(cG:Q2)(bj bl bm bn bp bq br:Int)(bu:List UInt8)(bv:Int)(b5:List (Q3))(aC:List (List UInt8))(aZ:List (Q6))(bF bG bH bI bJ bK bL:Int)(bM:List UInt8)(bN:Int)(cJ:List (List UInt8))(b9:Bool):Option ((Q1)×Int×Unit):=
  (bif b9 then (some (((bj,(bl,bm,()),bn,bp,bq,br,bu,bv,b5,aC,aZ,()),(20:Int),())))else (bif decide ((↑aC.length:Int) >= 16)then (some (((bj,(bl,bm,()),bn,bp,bq,br,bu,bv,b5,aC,aZ,()),(5:Int),())))else (bif decide (((↑aC.length:Int))<=9223372036854775807)then y2s (λ ai ae=>yCe (cG) (bj) (bl) (bm) (bn) (bp) (bq) (br) (bu) (bv) (b5) (aC) (aZ) (bF) (bG) (bH) (bI) (bJ) (bK) (bL) (bM) (bN) ai ae.1 ae.2) (λ ae=>yDV (cG) (bj) (bl) (bm) (bn) (bp) (bq) (br) (bu) (bv) (b5) (aC) (aZ) (bF) (bG) (bH) (bI) (bJ) (bK) (bL) (bM) (bN) ae.1 ae.2) (((↑aC.length:Int)) - 0).toNat 0 ((Bool.false),(cJ))else none)))
theorem yCn(n:Nat)(hn:big<=n)(cG:Q2)(bj bl bm bn bp bq br:Int)(bu:List UInt8)(bv:Int)(b5:List (Q3))(aC:List (List UInt8))(aZ:List (Q6))(bF bG bH bI bJ bK bL:Int)(bM:List UInt8)(bN:Int)(cJ:List (List UInt8))(b9:Bool)(hx:((↑b5.length:Int))<=9223372036854775807):LeF some (y2s (λ ai ae=>yHR cG bj bl bm bn bp bq br bu bv b5 aC aZ bF bG bH bI bJ bK bL bM bN cJ ai ae) (λ ae=>yGp cG bj bl bm bn bp bq br bu bv b5 aC aZ bF bG bH bI bJ bK bL bM bN cJ ae) (((↑b5.length:Int)) - 0).toNat 0 b9) (y7O n n cG b9 0 bj bl bm bn bp bq br bu bv b5 aC aZ bF bG bH bI bJ bK bL bM bN cJ):=by
  refine y4V (f:=some) (W:=λ bC ai ae=>y7O n bC cG ae ai bj bl bm bn bp bq br bu bv b5 aC aZ bF bG bH bI bJ bK bL bM bN cJ) (λ bC ai ae=>?_) hx b9 n 0 (by decide) (by unfold big at hn;omega)
  show LeF _ _ (yDu n (y7O n bC) cG ae ai bj bl bm bn bp bq br bu bv b5 aC aZ bF bG bH bI bJ bK bL bM bN cJ)
  exact yB (yB (yD rfl) (yO λ v7=>(yD rfl))) (y2o (yB (yD rfl) (yB (yD rfl) (y0N λ hx=>by apply yB9 n hn;exact hx))))
def yDA(rp:Q1)(e:Q2):Option ((Q1)×Int×Unit):=
  ((idx e.2.2.1 (0:Int)).bind λ v0=>((yDQ rp.2.2.2.2.2.2.2.2.2.1 v0).bind λ v1=>(bif e.2.1==[(108:UInt8),101,97,118,101]then (bif !v1.1 then (some ((rp,(10:Int),())))else (bif decide (List.length (rp.2.2.2.2.2.2.2.2.2.1) < yF)then ym (λ ai cB ae=>yHJ (e) (rp.1) (rp.2.1.1) (rp.2.1.2.1) (rp.2.2.1) (rp.2.2.2.1) (rp.2.2.2.2.1) (rp.2.2.2.2.2.1) (rp.2.2.2.2.2.2.1) (rp.2.2.2.2.2.2.2.1) (rp.2.2.2.2.2.2.2.2.1) (rp.2.2.2.2.2.2.2.2.2.1) (rp.2.2.2.2.2.2.2.2.2.2.1) ((0:Int)) ((0:Int)) ((0:Int)) ((0:Int)) ((0:Int)) ((0:Int)) ((0:Int)) ([]) ((0:Int)) ai cB ae) (λ ae=>yLL (e) (rp.1) (rp.2.1.1) (rp.2.1.2.1) (rp.2.2.1) (rp.2.2.2.1) (rp.2.2.2.2.1) (rp.2.2.2.2.2.1) (rp.2.2.2.2.2.2.1) (rp.2.2.2.2.2.2.2.1) (rp.2.2.2.2.2.2.2.2.1) (rp.2.2.2.2.2.2.2.2.2.1) (rp.2.2.2.2.2.2.2.2.2.2.1) ((0:Int)) ((0:Int)) ((0:Int)) ((0:Int)) ((0:Int)) ((0:Int)) ((0:Int)) ([]) ((0:Int)) ae) 0 (rp.2.2.2.2.2.2.2.2.2.1) ([])else none))else (bif v1.1 then (some ((rp,(9:Int),())))else (bif decide (((↑rp.2.2.2.2.2.2.2.2.1.length:Int))<=9223372036854775807)then y2s (λ ai ae=>yHR (e) (rp.1) (rp.2.1.1) (rp.2.1.2.1) (rp.2.2.1) (rp.2.2.2.1) (rp.2.2.2.2.1) (rp.2.2.2.2.2.1) (rp.2.2.2.2.2.2.1) (rp.2.2.2.2.2.2.2.1) (rp.2.2.2.2.2.2.2.2.1) (rp.2.2.2.2.2.2.2.2.2.1) (rp.2.2.2.2.2.2.2.2.2.2.1) ((0:Int)) ((0:Int)) ((0:Int)) ((0:Int)) ((0:Int)) ((0:Int)) ((0:Int)) ([]) ((0:Int)) ([]) ai ae) (λ ae=>yGp (e) (rp.1) (rp.2.1.1) (rp.2.1.2.1) (rp.2.2.1) (rp.2.2.2.1) (rp.2.2.2.2.1) (rp.2.2.2.2.2.1) (rp.2.2.2.2.2.2.1) (rp.2.2.2.2.2.2.2.1) (rp.2.2.2.2.2.2.2.2.1) (rp.2.2.2.2.2.2.2.2.2.1) (rp.2.2.2.2.2.2.2.2.2.2.1) ((0:Int)) ((0:Int)) ((0:Int)) ((0:Int)) ((0:Int)) ((0:Int)) ((0:Int)) ([]) ((0:Int)) ([]) ae) (((↑rp.2.2.2.2.2.2.2.2.1.length:Int)) - 0).toNat 0 (rp.2.2.2.2.2.2.1==[(99:UInt8),108,111,115,101])else none)))))
abbrev z0U_e:Entry:={ f:=120,args:=.pair t41 (.pair t56 .unit),rS:=.pair t41 (.pair t3 .unit),m:=λ x=>yDA x.1 x.2.1 }
theorem yOC:FnOK Tryz.prog z0U_e:=fB (mu:=[2,7]) Tryz.f120 (λ n x=>yPi n x.1 x.2.1) [[2,3,4,7,8],[2,3,4,7,9,10],[2,3,4,7,11,12]] (y8 yOw eNil) λ n hn x=>(yO λ v0=>(yO λ v1=>(yB (yB (yD rfl) (y0N λ hx=>by apply yDN n hn;exact hx)) (yB (yD rfl) (y0N λ hx=>by apply yCn n hn;exact hx)))))
def yOc(n:Nat)(e:Q2):Option (List UInt8×Unit):=
  ((yBB e.1).bind λ v0=>(bif decide ((2:Nat)+e.2.2.1.length<=memMax)then ((zJ_M e.2.2.2.1 λ (x:Int×Unit)=>yBB x.1).bind λ v1=>(bif decide (([v0.1,e.2.1]++e.2.2.1).length+v1.1.length<=memMax)then ((yH4 ([v0.1,e.2.1]++e.2.2.1++v1.1) [(32:UInt8)]).bind λ v2=>some (v2.1,()))else none))else none))
def yOe(e:Q2):Option (List UInt8×Unit):=yOc 0 e
abbrev z0X_e:Entry:={ f:=122,args:=.pair t56 .unit,rS:=.pair t9 .unit,m:=λ x=>yOe x.1 }
theorem yOB:FnOK Tryz.prog z0X_e:=fF (mu:=[9]) 0 Tryz.f122 (λ n x=>yOc n x.1) [] (y8 y9d (y8 yNy (y8 yGc eNil)))
def ze_m(n:Nat)(rp:Q1)(p1:List (List UInt8)):Option (Q6):=
  some ((zM rp).1,(0:Int),())
def ze(rp:Q1)(p1:List (List UInt8)):(Q6):=
  ((zM rp).1,(0:Int),())
abbrev ze_M (rp:Q1)(p1:List (List UInt8)):Option (Q6):=some (ze rp p1)
abbrev ze_e:Entry:={ f:=133,args:=.pair t60 (.pair t38 .unit),rS:=.pair t9 (.pair t29 .unit),m:=λ x=>ze_M x.1 x.2.1 }
theorem yPZ:FnOK Tryz.prog ze_e:=fF (hm:=by intro x;show some (ze x.1 x.2.1)=ze_m 0 x.1 x.2.1;unfold ze_m ze;first|rfl|(simp only[yE];done)|(simp only[yE];rfl)) 0 Tryz.f133 (λ n x=>ze_m n x.1 x.2.1) [] (y8 yKi eNil)
def zf_m(n:Nat)(rp:Q1)(p1:List (List UInt8)):Option (Q6):=
  ((yBB rp.2.2.2.2.2.2.2.1).bind λ v0=>((yFu [rp.2.2.2.2.2.2.1,v0.1]).bind λ v1=>some (v1.1,v1.2.1,())))
def zf_M(rp:Q1)(p1:List (List UInt8)):Option (Q6):=zf_m 0 rp p1
abbrev zf_e:Entry:={ f:=134,args:=.pair t60 (.pair t38 .unit),rS:=.pair t9 (.pair t29 .unit),m:=λ x=>zf_M x.1 x.2.1 }
theorem yPa:FnOK Tryz.prog zf_e:=fF 0 Tryz.f134 (λ n x=>zf_m n x.1 x.2.1) [] (y8 y9d (y8 y9v eNil))
def zh_m(n:Nat)(rp:Q1)(p1:List (List UInt8)):Option (Q6):=
  ((yFu rp.2.2.2.2.2.2.2.2.2.1).bind λ v0=>some (v0.1,v0.2.1,()))
def zh_M(rp:Q1)(p1:List (List UInt8)):Option (Q6):=zh_m 0 rp p1
abbrev zh_e:Entry:={ f:=139,args:=.pair t60 (.pair t38 .unit),rS:=.pair t9 (.pair t29 .unit),m:=λ x=>zh_M x.1 x.2.1 }
theorem yPU:FnOK Tryz.prog zh_e:=fF 0 Tryz.f139 (λ n x=>zh_m n x.1 x.2.1) [] (y8 y9v eNil)
def yPB(n:Nat)(l:List Int):Option (Q6):=
  ((zJ_M l λ (x:Int×Unit)=>yBB x.1).bind λ v0=>((yFu v0.1).bind λ v1=>some (v1.1,v1.2.1,())))
def yLv(l:List Int):Option (Q6):=yPB 0 l
abbrev z04_e:Entry:={ f:=143,args:=.pair t34 .unit,rS:=.pair t9 (.pair t29 .unit),m:=λ x=>yLv x.1 }
theorem yGI:FnOK Tryz.prog z04_e:=fF 0 Tryz.f143 (λ n x=>yPB n x.1) [] (y8 yNy (y8 y9d (y8 y9v eNil)))
def zD_m(n:Nat)(s:List (List UInt8))(v:List UInt8):Option (Bool×Unit):=
  ((zG_M s v).bind λ v0=>some (decide (v0.1 >= 0),()))
def zD_M(s:List (List UInt8))(v:List UInt8):Option (Bool×Unit):=zD_m 0 s v
abbrev zD_e:Entry:={ f:=147,args:=.pair t38 (.pair t9 .unit),rS:=.pair t4 .unit,m:=λ x=>zD_M x.1 x.2.1 }
theorem yNY:FnOK Tryz.prog zD_e:=fF 0 Tryz.f147 (λ n x=>zD_m n x.1 x.2.1) [] (y8 yPr eNil)
def zS_m(n:Nat)(rp:Q1)(name:List UInt8):Option (Int×Unit):=
  ((yIt (↑rp.2.2.2.2.2.2.2.2.2.2.1.length:Int) λ (x:Int×Unit)=>zK_M x.1 rp name).bind λ v0=>some (v0.1,()))
def zS_M(rp:Q1)(name:List UInt8):Option (Int×Unit):=zS_m 0 rp name
abbrev zS_e:Entry:={ f:=175,args:=.pair t60 (.pair t9 .unit),rS:=.pair t3 .unit,m:=λ x=>zS_M x.1 x.2.1 }
theorem yOx:FnOK Tryz.prog zS_e:=fF 0 Tryz.f175 (λ n x=>zS_m n x.1 x.2.1) [] (y8 yPf (y8 yKp eNil))
def zV_m(n:Nat)(s:List UInt8):Option (Int×Unit):=
  (bif !s==[(99:UInt8),108,111,115,101]then (bif !s==[(111:UInt8),112,101,110]then some ((z0b (!s==[(119:UInt8),97,105,116]) (13:Int)).1,())else some ((z0b Bool.false (13:Int)).1,()))else some ((z0b Bool.false (13:Int)).1,()))
def zV(s:List UInt8):(Int×Unit):=
  (bif !s==[(99:UInt8),108,111,115,101]then (bif !s==[(111:UInt8),112,101,110]then ((z0b (!s==[(119:UInt8),97,105,116]) (13:Int)).1,())else ((z0b Bool.false (13:Int)).1,()))else ((z0b Bool.false (13:Int)).1,()))
abbrev zV_M (s:List UInt8):Option (Int×Unit):=some (zV s)
abbrev zV_e:Entry:={ f:=186,args:=.pair t9 .unit,rS:=.pair t29 .unit,m:=λ x=>zV_M x.1 }
theorem yPk:FnOK Tryz.prog zV_e:=fF (hm:=by intro x;show some (zV x.1)=zV_m 0 x.1;unfold zV_m zV;first|rfl|(simp only[yE];done)|(simp only[yE];rfl)) 0 Tryz.f186 (λ n x=>zV_m n x.1) [] (y8 y2z eNil)
def yN4(n:Nat)(r0:List UInt8->Int->Int->Int->Option (List UInt8×Unit))(aN:List UInt8)(cW bx aa:Int):Option (List UInt8×Unit):=
  (bif decide (aa < bx)then ((idx aN aa).bind λ v1=>r0 aN ((i64.wrap (i64.wrap ((317:Int) * cW)+i64.wrap (↑v1.toNat:Int))).tmod (9999877:Int)) bx (i64.wrap (aa+1)))else ((yBB cW).bind λ v2=>((yA3 [(48:UInt8)] (i64.wrap ((7:Int) - (↑v2.1.length:Int)))).bind λ v3=>(bif decide (v3.1.length+v2.1.length < strMax)then some (v3.1++v2.1,())else none))))
def yLk(n k:Nat)(aN:List UInt8)(cW bx aa:Int):Option (List UInt8×Unit):=
  iter (λ r y=>yN4 n (λ aN cW bx aa=>r ((aN,(cW,(bx,(aa,())))),((),()))) y.1.1 y.1.2.1 y.1.2.2.1 y.1.2.2.2.1) k ((aN,(cW,(bx,(aa,())))),((),()))
def zw_m(n:Nat)(s:List UInt8):Option (List UInt8×Unit):=
  (yLk n n (s) ((1:Int)) ((↑s.length:Int)) ((0:Int)))
def zw_M(s:List UInt8):Option (List UInt8×Unit):=zw_m 1000 s
abbrev zw_e:Entry:={ f:=123,args:=.pair t9 .unit,rS:=.pair t9 .unit,m:=λ x=>zw_M x.1 }
theorem yPE:FnOK Tryz.prog zw_e:=fF 1000 Tryz.f123 (λ n x=>zw_m n x.1) [[0,3,7,8]] (y8 y9d (y8 yOd eNil))
end
end Go.Tw
end
