import Derived.Test.YtemgjgkbgkeknaaGreatDoorBT
import Derived.Test.YtemgjgkbgkeknaaGreatDoorB0
import Derived.Test.YtemgjgkbgkeknaaGreatDoorSB
import Derived.Test.YtemgjgkbgkeknaaGreatDoorLZ
set_option linter.all false
open Go.IntKind (i64)
section
set_option maxRecDepth 1000000
namespace Go.Tw
open Go.Vx Go.Vx.B Go.Proofs
noncomputable section
def yEF(n:Nat)(r0:List (Q2)->Int->Option (Bool×Unit))(r11:List (Q2)->Int->Int->Option (Bool×Unit))(cr:List (Q2))(cu d4:Int):Option (Bool×Unit):=
  ((idx cr cu).bind λ v12=>(bif decide (d4 < (↑v12.2.2.1.length:Int))then ((idx cr cu).bind λ v13=>((idx v13.2.2.1 d4).bind λ v14=>(bif decide ((↑v14.length:Int) > 40)then some (Bool.false,())else r11 cr cu (i64.wrap (d4+1)))))else r0 cr (i64.wrap (cu+1))))
def y7L(n:Nat)(r0:List (Q2)->Int->Option (Bool×Unit))(k:Nat)(cr:List (Q2))(cu d4:Int):Option (Bool×Unit):=
  iter (λ r y=>yEF n r0 (λ cr cu d4=>r ((cr,(cu,(d4,()))),((),()))) y.1.1 y.1.2.1 y.1.2.2.1) k ((cr,(cu,(d4,()))),((),()))
def yIR(n:Nat)(r0:List (Q2)->Int->Option (Bool×Unit))(bL:List (Q2))(bH:Int):Option (Bool×Unit):=
  (bif decide (bH < (↑bL.length:Int))then ((idx bL bH).bind λ v1=>(bif decide ((↑v1.2.1.length:Int) > 40)then some (Bool.false,())else ((idx bL bH).bind λ v2=>(bif decide ((↑v2.2.2.1.length:Int) > 6)then some (Bool.false,())else ((idx bL bH).bind λ v3=>(bif decide ((↑v3.2.2.2.1.length:Int) > 8)then some (Bool.false,())else ((idx bL bH).bind λ v4=>(bif decide ((↑v4.2.2.2.2.1.length:Int) > 200)then some (Bool.false,())else (y7L n r0 n (bL) (bH) ((0:Int)))))))))))else some (Bool.true,()))
def yAE(n k:Nat)(bL:List (Q2))(bH:Int):Option (Bool×Unit):=
  iter (λ r y=>yIR n (λ bL bH=>r ((bL,(bH,())),((),()))) y.1.1 y.1.2.1) k ((bL,(bH,())),((),()))
def zr_m(n:Nat)(l:List (Q2))(np:Int):Option (Bool×Unit):=
  (bif decide ((↑l.length:Int) > np)then some (Bool.false,())else (yAE n n (l) ((0:Int))))
def yEU(cr:List (Q2))(cu:Int)(v12:Q2)(d4:Int):Option (((Bool×Unit)⊕Unit)⊕Unit):=
  ((idx cr cu).bind λ v13=>((idx v13.2.2.1 d4).bind λ v14=>(bif decide ((↑v14.length:Int) > 40)then (some (Sum.inl (Sum.inl ((Bool.false,())))))else (some (Sum.inr ())))))
def yIo(cr:List (Q2))(cu:Int)(v12:Q2):Option ((Bool×Unit)⊕Unit):=
  (some (Sum.inr ()))
theorem yCr(n:Nat)(hn:big<=n)(r0:List (Q2)->Int->Option (Bool×Unit))(cr:List (Q2))(cu:Int)(v12:Q2)(h0__:(idx cr cu)=some v12)(hx:((↑v12.2.2.1.length:Int))<=9223372036854775807):LeF (elim some λ (ac:Unit)=>r0 cr (i64.wrap (cu+1))) (y2n (λ ay ac=>yEU cr cu v12 ay) (λ ac=>yIo cr cu v12) (((↑v12.2.2.1.length:Int)) - 0).toNat 0 ()) (y7L n r0 n cr cu 0):=by
  refine y4V (f:=(elim some λ (ac:Unit)=>r0 cr (i64.wrap (cu+1)))) (W:=λ bY ay ac=>y7L n r0 bY cr cu ay) (body:=(λ ay ac=>yEU cr cu v12 ay)) (fin:=(λ ac=>yIo cr cu v12)) (λ bY ay ac=>?_) hx () n 0 (by decide) (by unfold big at hn;omega)
  show LeF _ _ (yEF n r0 (y7L n r0 bY) cr cu ay)
  exact leAt h0__ (y6 (yE λ v13=>(yE λ v14=>(y6 (y8 rfl) (y8 rfl)))) (y1z (y8 rfl)))
def yFU(bL:List (Q2))(bH:Int)(v1:Q2):Option ((Bool×Unit)⊕Unit):=
  (bif decide ((↑v1.2.1.length:Int) > 40)then (some (Sum.inl ((Bool.false,()))))else ((idx bL bH).bind λ v2=>(bif decide ((↑v2.2.2.1.length:Int) > 6)then (some (Sum.inl ((Bool.false,()))))else ((idx bL bH).bind λ v3=>(bif decide ((↑v3.2.2.2.1.length:Int) > 8)then (some (Sum.inl ((Bool.false,()))))else ((idx bL bH).bind λ v4=>(bif decide ((↑v4.2.2.2.2.1.length:Int) > 200)then (some (Sum.inl ((Bool.false,()))))else ((idx bL bH).bind λ v12=>(bif decide (((↑v12.2.2.1.length:Int))<=9223372036854775807)then y2n (λ ay ac=>yEU (bL) (bH) v12 ay) (λ ac=>yIo (bL) (bH) v12) (((↑v12.2.2.1.length:Int)) - 0).toNat 0 ()else none)))))))))
def yM4(bL:List (Q2)):Option (Bool×Unit):=
  (some ((Bool.true,())))
theorem yFa(n:Nat)(hn:big<=n)(bL:List (Q2))(hx:List.length (bL) < lenMax):LeF some (yd (λ ay cD ac=>yFU bL ay cD) (λ ac=>yM4 bL) 0 (bL) ()) (yAE n n bL 0):=by
  refine y0D (f:=some) (W:=λ bY ay ac=>yAE n bY bL ay) (λ bY ay ac=>?_) hx () n (by unfold big at hn;unfold lenMax at hx;omega)
  show LeF _ _ (yIR n (yAE n bY) bL ay)
  exact y6 (yE λ v1=>(y6 (y8 rfl) (yE λ v2=>(y6 (y8 rfl) (yE λ v3=>(y6 (y8 rfl) (yE λ v4=>(y6 (y8 rfl) (yMD λ v12 h0__=>(y03 λ hx=>by apply yCr n hn;exact h0__;exact hx)))))))))) (y1z (y8 rfl))
def zr_M(l:List (Q2))(np:Int):Option (Bool×Unit):=
  (bif decide ((↑l.length:Int) > np)then (some ((Bool.false,())))else (bif decide (List.length (l) < lenMax)then yd (λ ay cD ac=>yFU (l) ay cD) (λ ac=>yM4 (l)) 0 (l) ()else none))
abbrev zr_e:Entry:={ f:=14,args:=.pair t22 (.pair t3 .unit),rS:=.pair t4 .unit,m:=λ x=>zr_M x.1 x.2.1 }
theorem yQo:FnOK Tryz.prog zr_e:=fB Tryz.f14 (λ n x=>zr_m n x.1 x.2.1) [[0,5],[0,5,6]] eNil λ n hn x=>(y6 (y8 rfl) (y03 λ hx=>by apply yFa n hn;exact hx))
def y3t(n:Nat)(r2:List UInt8->Int->Option (Bool×Unit))(cd:List UInt8)(cB:Int)(v3:UInt8):Option (Bool×Unit):=
  (bif cB==0 then some (Bool.false,())else (bif (↑v3.toNat:Int) != 95 then (bif decide ((↑v3.toNat:Int) < 48)then some (Bool.false,())else (bif decide ((↑v3.toNat:Int) > 57)then some (Bool.false,())else r2 cd (i64.wrap (cB+1))))else r2 cd (i64.wrap (cB+1))))
def yEY(n:Nat)(r2:List UInt8->Int->Option (Bool×Unit))(cd:List UInt8)(cB:Int):Option (Bool×Unit):=
  (bif decide (cB < (↑cd.length:Int))then ((idx cd cB).bind λ v3=>(bif decide ((↑v3.toNat:Int) >= 97)then (bif decide ((↑v3.toNat:Int)<=122)then r2 cd (i64.wrap (cB+1))else (bif decide ((↑v3.toNat:Int) >= 65)then (bif decide ((↑v3.toNat:Int)<=90)then r2 cd (i64.wrap (cB+1))else (y3t n r2 cd cB v3))else (y3t n r2 cd cB v3)))else (bif decide ((↑v3.toNat:Int) >= 65)then (bif decide ((↑v3.toNat:Int)<=90)then r2 cd (i64.wrap (cB+1))else (y3t n r2 cd cB v3))else (y3t n r2 cd cB v3))))else some (Bool.true,()))
def y7C(n k:Nat)(cd:List UInt8)(cB:Int):Option (Bool×Unit):=
  iter (λ r y=>yEY n (λ cd cB=>r ((cd,(cB,())),((),()))) y.1.1 y.1.2.1) k ((cd,(cB,())),((),()))
def yQB(n:Nat)(s:List UInt8):Option (Bool×Unit):=
  (bif (↑s.length:Int)==0 then some (Bool.false,())else (bif decide ((↑s.length:Int) > 24)then some (Bool.false,())else (y7C n n (s) ((0:Int)))))
def y6R(cd:List UInt8)(cB:Int)(v3:UInt8):Option ((Bool×Unit)⊕Unit):=
  (bif cB==0 then (some (Sum.inl ((Bool.false,()))))else (bif (↑v3.toNat:Int) != 95 then (bif decide ((↑v3.toNat:Int) < 48)then (some (Sum.inl ((Bool.false,()))))else (bif decide ((↑v3.toNat:Int) > 57)then (some (Sum.inl ((Bool.false,()))))else (some (Sum.inr ()))))else (some (Sum.inr ()))))
theorem y0e(n:Nat)(hn:big<=n)(r2:List UInt8->Int->Option (Bool×Unit))(cd:List UInt8)(cB:Int)(v3:UInt8):LeF (elim some λ (ac:Unit)=>r2 cd (i64.wrap (cB+1))) (y6R cd cB v3) (y3t n r2 cd cB v3):=
  (y6 (y8 rfl) (y6 (y6 (y8 rfl) (y6 (y8 rfl) (y8 rfl))) (y8 rfl)))
def yBq(cd:List UInt8)(cB:Int)(v3:UInt8):Option ((Bool×Unit)⊕Unit):=
  (bif decide ((↑v3.toNat:Int) >= 97)then (bif decide ((↑v3.toNat:Int)<=122)then (some (Sum.inr ()))else (bif decide ((↑v3.toNat:Int) >= 65)then (bif decide ((↑v3.toNat:Int)<=90)then (some (Sum.inr ()))else (y6R cd cB v3))else (y6R cd cB v3)))else (bif decide ((↑v3.toNat:Int) >= 65)then (bif decide ((↑v3.toNat:Int)<=90)then (some (Sum.inr ()))else (y6R cd cB v3))else (y6R cd cB v3)))
def yHe(cd:List UInt8):Option (Bool×Unit):=
  (some ((Bool.true,())))
theorem yDf(n:Nat)(hn:big<=n)(cd:List UInt8)(hx:List.length (cd) < lenMax):LeF some (yd (λ ay cD ac=>yBq cd ay cD) (λ ac=>yHe cd) 0 (cd) ()) (y7C n n cd 0):=by
  refine y0D (f:=some) (W:=λ bY ay ac=>y7C n bY cd ay) (λ bY ay ac=>?_) hx () n (by unfold big at hn;unfold lenMax at hx;omega)
  show LeF _ _ (yEY n (y7C n bY) cd ay)
  exact y6 (yE λ v3=>(y6 (y6 (y8 rfl) (y6 (y6 (y8 rfl) (by apply y0e n hn)) (by apply y0e n hn))) (y6 (y6 (y8 rfl) (by apply y0e n hn)) (by apply y0e n hn)))) (y1z (y8 rfl))
def yHn(s:List UInt8):Option (Bool×Unit):=
  (bif (↑s.length:Int)==0 then (some ((Bool.false,())))else (bif decide ((↑s.length:Int) > 24)then (some ((Bool.false,())))else (bif decide (List.length (s) < lenMax)then yd (λ ay cD ac=>yBq (s) ay cD) (λ ac=>yHe (s)) 0 (s) ()else none)))
abbrev z0P_e:Entry:={ f:=55,args:=.pair t9 .unit,rS:=.pair t4 .unit,m:=λ x=>yHn x.1 }
theorem yNp:FnOK Tryz.prog z0P_e:=fB Tryz.f55 (λ n x=>yQB n x.1) [[0,3]] eNil λ n hn x=>(y6 (y8 rfl) (y6 (y8 rfl) (y03 λ hx=>by apply yDf n hn;exact hx)))
def y62(n:Nat)(rp:Q1):Option (List UInt8×Unit):=
  (bif rp.2.2.2.2.2.2.1==[(99:UInt8),108,111,115,101]then (bif decide (rp.2.2.2.2.1<=rp.2.1.2.1)then (bif decide (rp.2.2.2.2.1<=rp.2.2.2.2.2.1)then some ([(111:UInt8),112,101,110],())else some ([(119:UInt8),97,105,116],()))else some ([(119:UInt8),97,105,116],()))else some ([(119:UInt8),97,105,116],()))
def yNY(n:Nat)(rp:Q1):Option (List UInt8×Unit):=
  (bif rp.2.2.2.2.2.2.1==[(111:UInt8),112,101,110]then (bif decide (rp.2.1.1 > 0)then (bif decide (rp.2.2.2.1 >= rp.2.1.1)then some ([(99:UInt8),108,111,115,101],())else (y62 n rp))else (y62 n rp))else (y62 n rp))
def y0H(rp:Q1):(List UInt8×Unit):=
  (bif rp.2.2.2.2.2.2.1==[(99:UInt8),108,111,115,101]then (bif decide (rp.2.2.2.2.1<=rp.2.1.2.1)then (bif decide (rp.2.2.2.2.1<=rp.2.2.2.2.2.1)then ([(111:UInt8),112,101,110],())else ([(119:UInt8),97,105,116],()))else ([(119:UInt8),97,105,116],()))else ([(119:UInt8),97,105,116],()))
def z0Q(rp:Q1):(List UInt8×Unit):=
  (bif rp.2.2.2.2.2.2.1==[(111:UInt8),112,101,110]then (bif decide (rp.2.1.1 > 0)then (bif decide (rp.2.2.2.1 >= rp.2.1.1)then ([(99:UInt8),108,111,115,101],())else (y0H rp))else (y0H rp))else (y0H rp))
abbrev yQu (rp:Q1):Option (List UInt8×Unit):=some (z0Q rp)
abbrev z0Q_e:Entry:={ f:=56,args:=.pair t41 .unit,rS:=.pair t9 .unit,m:=λ x=>yQu x.1 }
theorem yPD:FnOK Tryz.prog z0Q_e:=fF (hm:=by intro x;show some (z0Q x.1)=yNY 0 x.1;unfold yNY z0Q y62 y0H;first|rfl|(simp only[yF];done)|(simp only[yF];rfl)) 0 Tryz.f56 (λ n x=>yNY n x.1) [] eNil
def yEC(n:Nat)(r0:List Int->Int->Int->Option (Int×Unit))(cK:List Int)(df bZ:Int):Option (Int×Unit):=
  (bif decide (bZ < df)then ((idx cK bZ).bind λ v1=>(bif v1 != 0 then some (v1,())else r0 cK df (i64.wrap (bZ+1))))else some ((0:Int),()))
def y7B(n k:Nat)(cK:List Int)(df bZ:Int):Option (Int×Unit):=
  iter (λ r y=>yEC n (λ cK df bZ=>r ((cK,(df,(bZ,()))),((),()))) y.1.1 y.1.2.1 y.1.2.2.1) k ((cK,(df,(bZ,()))),((),()))
def yQ5(n:Nat)(l:List Int):Option (Int×Unit):=
  (y7B n n (l) ((↑l.length:Int)) ((0:Int)))
def yGi(cK:List Int)(bZ v1:Int):Option ((Int×Unit)⊕Unit):=
  (bif v1 != 0 then (some (Sum.inl ((v1,()))))else (some (Sum.inr ())))
def yIe(cK:List Int):Option (Int×Unit):=
  (some (((0:Int),())))
theorem yDD(n:Nat)(hn:big<=n)(cK:List Int)(hx:List.length (cK) < lenMax):LeF some (yd (λ ay cD ac=>yGi cK ay cD) (λ ac=>yIe cK) 0 (cK) ()) (y7B n n cK (List.length (cK):Int) 0):=by
  refine y0D (f:=some) (W:=λ bY ay ac=>y7B n bY cK (List.length (cK):Int) ay) (λ bY ay ac=>?_) hx () n (by unfold big at hn;unfold lenMax at hx;omega)
  show LeF _ _ (yEC n (y7B n bY) cK (List.length (cK):Int) ay)
  exact y6 (yE λ v1=>(y6 (y8 rfl) (y8 rfl))) (y1z (y8 rfl))
def y07(l:List Int):Option (Int×Unit):=
  (bif decide (List.length (l) < lenMax)then yd (λ ay cD ac=>yGi (l) ay cD) (λ ac=>yIe (l)) 0 (l) ()else none)
abbrev z0J_e:Entry:={ f:=63,args:=.pair t185 .unit,rS:=.pair t29 .unit,m:=λ x=>y07 x.1 }
theorem y6s:FnOK Tryz.prog z0J_e:=fB Tryz.f63 (λ n x=>yQ5 n x.1) [[5,6,7]] eNil λ n hn x=>(y03 λ hx=>by apply yDD n hn;exact hx)
def yN6(n:Nat)(holds:Bool)(e:Int):Option (Int×Unit):=
  (bif holds then some (e,())else some ((0:Int),()))
def z0c(holds:Bool)(e:Int):(Int×Unit):=
  (bif holds then (e,())else ((0:Int),()))
abbrev yQq (holds:Bool)(e:Int):Option (Int×Unit):=some (z0c holds e)
abbrev z0c_e:Entry:={ f:=65,args:=.pair t4 (.pair t29 .unit),rS:=.pair t29 .unit,m:=λ x=>yQq x.1 x.2.1 }
theorem y3Z:FnOK Tryz.prog z0c_e:=fF (hm:=by intro x;show some (z0c x.1 x.2.1)=yN6 0 x.1 x.2.1;unfold yN6 z0c;first|rfl|(simp only[yF];done)|(simp only[yF];rfl)) 0 Tryz.f65 (λ n x=>yN6 n x.1 x.2.1) [] eNil
def yM6(n:Nat)(e:Q2):Option (Bool×Unit):=
  (bif e.2.1==[(100:UInt8),101,99,105,100,101]then some (Bool.true,())else some (e.2.1==[(111:UInt8),118,101,114,114,105,100,101],()))
def z04(e:Q2):(Bool×Unit):=
  (bif e.2.1==[(100:UInt8),101,99,105,100,101]then (Bool.true,())else (e.2.1==[(111:UInt8),118,101,114,114,105,100,101],()))
abbrev yQU (e:Q2):Option (Bool×Unit):=some (z04 e)
abbrev z04_e:Entry:={ f:=66,args:=.pair t56 .unit,rS:=.pair t4 .unit,m:=λ x=>yQU x.1 }
theorem yOe:FnOK Tryz.prog z04_e:=fF (hm:=by intro x;show some (z04 x.1)=yM6 0 x.1;unfold yM6 z04;first|rfl|(simp only[yF];done)|(simp only[yF];rfl)) 0 Tryz.f66 (λ n x=>yM6 n x.1) [] eNil
def y7V(n:Nat)(rp:Q1)(j0:Bool):Option (List UInt8×Unit):=
  (bif j0 then some ([(99:UInt8),108,111,115,101],())else (bif rp.2.2.2.2.2.2.1==[(99:UInt8),108,111,115,101]then (bif decide (rp.2.2.2.2.1<=rp.2.1.2.1)then (bif decide (rp.2.2.2.2.1<=rp.2.2.2.2.2.1)then some ([(111:UInt8),112,101,110],())else some ([(119:UInt8),97,105,116],()))else some ([(119:UInt8),97,105,116],()))else some ([(119:UInt8),97,105,116],())))
def zM_m(n:Nat)(rp:Q1):Option (List UInt8×Unit):=
  (bif rp.2.2.2.2.2.2.1==[(111:UInt8),112,101,110]then (bif decide (rp.2.1.1 > 0)then (y7V n rp (decide (rp.2.2.2.1 >= rp.2.1.1)))else (y7V n rp (Bool.false)))else (y7V n rp (Bool.false)))
def ye(rp:Q1)(j0:Bool):(List UInt8×Unit):=
  (bif j0 then ([(99:UInt8),108,111,115,101],())else (bif rp.2.2.2.2.2.2.1==[(99:UInt8),108,111,115,101]then (bif decide (rp.2.2.2.2.1<=rp.2.1.2.1)then (bif decide (rp.2.2.2.2.1<=rp.2.2.2.2.2.1)then ([(111:UInt8),112,101,110],())else ([(119:UInt8),97,105,116],()))else ([(119:UInt8),97,105,116],()))else ([(119:UInt8),97,105,116],())))
def zM(rp:Q1):(List UInt8×Unit):=
  (bif rp.2.2.2.2.2.2.1==[(111:UInt8),112,101,110]then (bif decide (rp.2.1.1 > 0)then (ye rp (decide (rp.2.2.2.1 >= rp.2.1.1)))else (ye rp (Bool.false)))else (ye rp (Bool.false)))
abbrev zM_M (rp:Q1):Option (List UInt8×Unit):=some (zM rp)
abbrev zM_e:Entry:={ f:=67,args:=.pair t60 .unit,rS:=.pair t9 .unit,m:=λ x=>zM_M x.1 }
theorem yMT:FnOK Tryz.prog zM_e:=fF (hm:=by intro x;show some (zM x.1)=zM_m 0 x.1;unfold zM_m zM y7V ye;first|rfl|(simp only[yF];done)|(simp only[yF];rfl)) 0 Tryz.f67 (λ n x=>zM_m n x.1) [] eNil
def yMf(n:Nat)(np low high:Int):Option (Bool×Unit):=
  (bif decide (np < low)then some (Bool.true,())else some (decide (np > high),()))
def z0G(np low high:Int):(Bool×Unit):=
  (bif decide (np < low)then (Bool.true,())else (decide (np > high),()))
abbrev yQN (np low high:Int):Option (Bool×Unit):=some (z0G np low high)
abbrev z0G_e:Entry:={ f:=72,args:=.pair t3 (.pair t3 (.pair t3 .unit)),rS:=.pair t4 .unit,m:=λ x=>yQN x.1 x.2.1 x.2.2.1 }
theorem yLO:FnOK Tryz.prog z0G_e:=fF (hm:=by intro x;show some (z0G x.1 x.2.1 x.2.2.1)=yMf 0 x.1 x.2.1 x.2.2.1;unfold yMf z0G;first|rfl|(simp only[yF];done)|(simp only[yF];rfl)) 0 Tryz.f72 (λ n x=>yMf n x.1 x.2.1 x.2.2.1) [] eNil
abbrev yMa:Ty:=.unit
abbrev yOL:Ty:=.pair t41 .unit
def yNq:G:={ T:=T,E:=[],mU:=[],fz:=[] }
def yPp:List (List Nat):=[]
def yLb(n:Nat):Ann:={ keep:=yPp,fuel:=n,inl:=[],deep:=0 }
def yK5(n:Nat)  : Option ((Q1)×Unit):=
  some (((0:Int),((0:Int),(0:Int),()),(0:Int),(0:Int),(0:Int),(0:Int),[(111:UInt8),112,101,110],(0:Int),[],[],[],()),())
theorem yOh(n:Nat)(x:yMa.den):runF yNq (yLb n) Tryz.f73 yMa yOL x=yK5 n:=by kernel_rfl
def z0e  : ((Q1)×Unit):=
  (((0:Int),((0:Int),(0:Int),()),(0:Int),(0:Int),(0:Int),(0:Int),[(111:UInt8),112,101,110],(0:Int),[],[],[],()),())
abbrev yO2  : Option ((Q1)×Unit):=some (z0e)
theorem yNC(y:(Q1)×Unit)(h:yO2=some y):∃ n,yK5 n=some y:=
  ⟨0,by rw[<- h];show yK5 0=some (z0e);unfold yK5 z0e;first|rfl|(simp only[yF];done)|(simp only[yF];rfl)⟩
def z0e_e:Entry:={ f:=73,args:=yMa,rS:=yOL,m:=λ x=>yO2 }
theorem yNm:FnOK Tryz.prog z0e_e:=yD4 (g:=yNq) (fn:=Tryz.f73) y1Z y75 eNil (by kernel_rfl) (by kernel_rfl) (by kernel_rfl) (λ x y h=>let ⟨n,hn⟩:=yNC y h;⟨yLb n,iNil,(yOh n x).trans hn⟩)
def yM8(n:Nat)(rp:Q1)(decision:List UInt8):Option ((Q1)×Unit):=
  (bif decision==[(99:UInt8),108,111,115,101]then (bif !rp.2.2.2.2.2.2.1==[(99:UInt8),108,111,115,101]then (bif !decision==[(119:UInt8),97,105,116]then some ((rp.1,rp.2.1,rp.2.2.1,rp.2.2.2.1,rp.2.2.2.2.1,rp.2.2.2.2.2.1,decision,i64.wrap (rp.2.2.2.2.2.2.2.1+1),rp.2.2.2.2.2.2.2.2),())else some ((rp.1,rp.2.1,rp.2.2.1,rp.2.2.2.1,rp.2.2.2.2.1,rp.2.2.2.2.2.1,rp.2.2.2.2.2.2.1,i64.wrap (rp.2.2.2.2.2.2.2.1+1),rp.2.2.2.2.2.2.2.2),()))else (bif !decision==[(119:UInt8),97,105,116]then some ((rp.1,rp.2.1,rp.2.2.1,rp.2.2.2.1,rp.2.2.2.2.1,rp.2.2.2.2.2.1,decision,rp.2.2.2.2.2.2.2),())else some (rp,())))else (bif !decision==[(119:UInt8),97,105,116]then some ((rp.1,rp.2.1,rp.2.2.1,rp.2.2.2.1,rp.2.2.2.2.1,rp.2.2.2.2.2.1,decision,rp.2.2.2.2.2.2.2),())else some (rp,())))
def z0H(rp:Q1)(decision:List UInt8):((Q1)×Unit):=
  (bif decision==[(99:UInt8),108,111,115,101]then (bif !rp.2.2.2.2.2.2.1==[(99:UInt8),108,111,115,101]then (bif !decision==[(119:UInt8),97,105,116]then ((rp.1,rp.2.1,rp.2.2.1,rp.2.2.2.1,rp.2.2.2.2.1,rp.2.2.2.2.2.1,decision,i64.wrap (rp.2.2.2.2.2.2.2.1+1),rp.2.2.2.2.2.2.2.2),())else ((rp.1,rp.2.1,rp.2.2.1,rp.2.2.2.1,rp.2.2.2.2.1,rp.2.2.2.2.2.1,rp.2.2.2.2.2.2.1,i64.wrap (rp.2.2.2.2.2.2.2.1+1),rp.2.2.2.2.2.2.2.2),()))else (bif !decision==[(119:UInt8),97,105,116]then ((rp.1,rp.2.1,rp.2.2.1,rp.2.2.2.1,rp.2.2.2.2.1,rp.2.2.2.2.2.1,decision,rp.2.2.2.2.2.2.2),())else (rp,())))else (bif !decision==[(119:UInt8),97,105,116]then ((rp.1,rp.2.1,rp.2.2.1,rp.2.2.2.1,rp.2.2.2.2.1,rp.2.2.2.2.2.1,decision,rp.2.2.2.2.2.2.2),())else (rp,())))
abbrev yQp (rp:Q1)(decision:List UInt8):Option ((Q1)×Unit):=some (z0H rp decision)
abbrev z0H_e:Entry:={ f:=75,args:=.pair t41 (.pair t9 .unit),rS:=.pair t41 .unit,m:=λ x=>yQp x.1 x.2.1 }
theorem yOy:FnOK Tryz.prog z0H_e:=fF (mu:=[2]) (hm:=by intro x;show some (z0H x.1 x.2.1)=yM8 0 x.1 x.2.1;unfold yM8 z0H;first|rfl|(simp only[yF];done)|(simp only[yF];rfl)) 0 Tryz.f75 (λ n x=>yM8 n x.1 x.2.1) [] eNil
def yIx(n:Nat)(r0:List (List UInt8)->List (List UInt8)->Int->Option (Bool×Unit))(cO cY:List (List UInt8))(bH:Int):Option (Bool×Unit):=
  (bif decide (bH < (↑cO.length:Int))then ((idx cO bH).bind λ v1=>((idx cY bH).bind λ v2=>(bif !v1==v2 then some (Bool.false,())else r0 cO cY (i64.wrap (bH+1)))))else some (Bool.true,()))
def yAw(n k:Nat)(cO cY:List (List UInt8))(bH:Int):Option (Bool×Unit):=
  iter (λ r y=>yIx n (λ cO cY bH=>r ((cO,(cY,(bH,()))),((),()))) y.1.1 y.1.2.1 y.1.2.2.1) k ((cO,(cY,(bH,()))),((),()))
def zy_m(n:Nat)(a b:List (List UInt8)):Option (Bool×Unit):=
  (bif (↑a.length:Int) != (↑b.length:Int)then some (Bool.false,())else (yAw n n (a) (b) ((0:Int))))
def yML(cO cY:List (List UInt8))(bH:Int)(v1:List UInt8):Option ((Bool×Unit)⊕Unit):=
  ((idx cY bH).bind λ v2=>(bif !v1==v2 then (some (Sum.inl ((Bool.false,()))))else (some (Sum.inr ()))))
def yOK(cO cY:List (List UInt8)):Option (Bool×Unit):=
  (some ((Bool.true,())))
theorem yF9(n:Nat)(hn:big<=n)(cO cY:List (List UInt8))(hx:List.length (cO) < lenMax):LeF some (yd (λ ay cD ac=>yML cO cY ay cD) (λ ac=>yOK cO cY) 0 (cO) ()) (yAw n n cO cY 0):=by
  refine y0D (f:=some) (W:=λ bY ay ac=>yAw n bY cO cY ay) (λ bY ay ac=>?_) hx () n (by unfold big at hn;unfold lenMax at hx;omega)
  show LeF _ _ (yIx n (yAw n bY) cO cY ay)
  exact y6 (yE λ v1=>(yE λ v2=>(y6 (y8 rfl) (y8 rfl)))) (y1z (y8 rfl))
def zy_M(a b:List (List UInt8)):Option (Bool×Unit):=
  (bif (↑a.length:Int) != (↑b.length:Int)then (some ((Bool.false,())))else (bif decide (List.length (a) < lenMax)then yd (λ ay cD ac=>yML (a) (b) ay cD) (λ ac=>yOK (a) (b)) 0 (a) ()else none))
abbrev zy_e:Entry:={ f:=78,args:=.pair t38 (.pair t38 .unit),rS:=.pair t4 .unit,m:=λ x=>zy_M x.1 x.2.1 }
theorem yQ6:FnOK Tryz.prog zy_e:=fB Tryz.f78 (λ n x=>zy_m n x.1 x.2.1) [[0,1,5]] eNil λ n hn x=>(y6 (y8 rfl) (y03 λ hx=>by apply yF9 n hn;exact hx))
def yAy(n:Nat)(kind:List UInt8)(j1:Bool):Option ((Int×Int×Bool×Unit)×Unit):=
  (bif j1 then some (((0:Int),(3:Int),Bool.true,()),())else (bif kind==[(108:UInt8),101,118,101,108]then some (((1:Int),(2:Int),Bool.true,()),())else (bif kind==[(99:UInt8),111,109,109,97,110,100]then some (((2:Int),(2:Int),Bool.true,()),())else (bif kind==[(108:UInt8),111,99,107]then (bif kind==[(108:UInt8),111,99,107]then some (((2:Int),(1:Int),Bool.true,()),())else (bif kind==[(117:UInt8),110,100,111]then some (((0:Int),(0:Int),Bool.true,()),())else some (((0:Int),(0:Int),Bool.false,()),())))else (bif kind==[(117:UInt8),110,108,111,99,107]then some (((2:Int),(1:Int),Bool.true,()),())else (bif kind==[(117:UInt8),110,100,111]then some (((0:Int),(0:Int),Bool.true,()),())else some (((0:Int),(0:Int),Bool.false,()),())))))))
def y3U(n:Nat)(kind:List UInt8)(j0:Bool):Option ((Int×Int×Bool×Unit)×Unit):=
  (bif j0 then some (((1:Int),(1:Int),Bool.true,()),())else (bif kind==[(114:UInt8),117,108,101]then (yAy n kind (kind==[(114:UInt8),117,108,101]))else (yAy n kind (kind==[(102:UInt8),111,114,101,99,97,115,116]))))
def yLi(n:Nat)(kind:List UInt8):Option ((Int×Int×Bool×Unit)×Unit):=
  (bif kind==[(103:UInt8),97,116,101]then (y3U n kind (kind==[(103:UInt8),97,116,101]))else (bif kind==[(100:UInt8),101,99,105,100,101]then (y3U n kind (kind==[(100:UInt8),101,99,105,100,101]))else (bif kind==[(111:UInt8),118,101,114,114,105,100,101]then (y3U n kind (kind==[(111:UInt8),118,101,114,114,105,100,101]))else (bif kind==[(101:UInt8),110,116,101,114]then (y3U n kind (kind==[(101:UInt8),110,116,101,114]))else (bif kind==[(108:UInt8),101,97,118,101]then (y3U n kind (kind==[(108:UInt8),101,97,118,101]))else (y3U n kind (kind==[(105:UInt8),115,115,117,101])))))))
def y24(kind:List UInt8)(j1:Bool):((Int×Int×Bool×Unit)×Unit):=
  (bif j1 then (((0:Int),(3:Int),Bool.true,()),())else (bif kind==[(108:UInt8),101,118,101,108]then (((1:Int),(2:Int),Bool.true,()),())else (bif kind==[(99:UInt8),111,109,109,97,110,100]then (((2:Int),(2:Int),Bool.true,()),())else (bif kind==[(108:UInt8),111,99,107]then (bif kind==[(108:UInt8),111,99,107]then (((2:Int),(1:Int),Bool.true,()),())else (bif kind==[(117:UInt8),110,100,111]then (((0:Int),(0:Int),Bool.true,()),())else (((0:Int),(0:Int),Bool.false,()),())))else (bif kind==[(117:UInt8),110,108,111,99,107]then (((2:Int),(1:Int),Bool.true,()),())else (bif kind==[(117:UInt8),110,100,111]then (((0:Int),(0:Int),Bool.true,()),())else (((0:Int),(0:Int),Bool.false,()),())))))))
def y0K(kind:List UInt8)(j0:Bool):((Int×Int×Bool×Unit)×Unit):=
  (bif j0 then (((1:Int),(1:Int),Bool.true,()),())else (bif kind==[(114:UInt8),117,108,101]then (y24 kind (kind==[(114:UInt8),117,108,101]))else (y24 kind (kind==[(102:UInt8),111,114,101,99,97,115,116]))))
def z0j(kind:List UInt8):((Int×Int×Bool×Unit)×Unit):=
  (bif kind==[(103:UInt8),97,116,101]then (y0K kind (kind==[(103:UInt8),97,116,101]))else (bif kind==[(100:UInt8),101,99,105,100,101]then (y0K kind (kind==[(100:UInt8),101,99,105,100,101]))else (bif kind==[(111:UInt8),118,101,114,114,105,100,101]then (y0K kind (kind==[(111:UInt8),118,101,114,114,105,100,101]))else (bif kind==[(101:UInt8),110,116,101,114]then (y0K kind (kind==[(101:UInt8),110,116,101,114]))else (bif kind==[(108:UInt8),101,97,118,101]then (y0K kind (kind==[(108:UInt8),101,97,118,101]))else (y0K kind (kind==[(105:UInt8),115,115,117,101])))))))
abbrev yQ0 (kind:List UInt8):Option ((Int×Int×Bool×Unit)×Unit):=some (z0j kind)
abbrev z0j_e:Entry:={ f:=83,args:=.pair t9 .unit,rS:=.pair t157 .unit,m:=λ x=>yQ0 x.1 }
theorem yP2:FnOK Tryz.prog z0j_e:=fF (hm:=by intro x;show some (z0j x.1)=yLi 0 x.1;unfold yLi z0j y3U y0K yAy y24;first|rfl|(simp only[yF];done)|(simp only[yF];rfl)) 0 Tryz.f83 (λ n x=>yLi n x.1) [] eNil
def yNA(n:Nat)(r0:((Q2)×Unit->Option ((Q2)×Unit))->List (Q2)->Int->Int->List (Q2)->Option (List (Q2)×Unit))(bC:(Q2)×Unit->Option ((Q2)×Unit))(aw:List (Q2))(co aU:Int)(bw:List (Q2)):Option (List (Q2)×Unit):=
  (bif decide (aU < co)then ((idx aw aU).bind λ v1=>((bC (v1,())).bind λ v2=>(bif decide (bw.length+(1:Nat)<=memMax)then r0 bC aw co (i64.wrap (aU+1)) (bw++[v2.1])else none)))else some (bw,()))
def yMO(n k:Nat)(bC:(Q2)×Unit->Option ((Q2)×Unit))(aw:List (Q2))(co aU:Int)(bw:List (Q2)):Option (List (Q2)×Unit):=
  iter (λ r y=>yNA n (λ bC aw co aU bw=>r ((bC,(aw,(co,(aU,())))),((bw,()),()))) y.1.1 y.1.2.1 y.1.2.2.1 y.1.2.2.2.1 y.2.1.1) k ((bC,(aw,(co,(aU,())))),((bw,()),()))
def z8_m(n:Nat)(l:List (Q2))(f:(Q2)×Unit->Option ((Q2)×Unit)):Option (List (Q2)×Unit):=
  (yMO n n (f) (l) ((↑l.length:Int)) ((0:Int)) ([]))
def z8_M(l:List (Q2))(f:(Q2)×Unit->Option ((Q2)×Unit)):Option (List (Q2)×Unit):=z8_m 1000 l f
abbrev z8_e:Entry:={ f:=96,args:=.pair t22 (.pair t182 .unit),rS:=.pair t22 .unit,m:=λ x=>z8_M x.1 x.2.1 }
theorem yPm:FnOK Tryz.prog z8_e:=fF (mu:=[5]) 1000 Tryz.f96 (λ n x=>z8_m n x.1 x.2.1) [[1,5,8,9,10]] eNil
def yM1(n:Nat)(e:Q2):Option ((Q2)×Unit):=
  ((bif decide (e.2.2.1.length<=memMax)then some (e.2.2.1,())else Option.none).bind λ v0=>((bif decide (e.2.2.2.1.length<=memMax)then some (e.2.2.2.1,())else Option.none).bind λ v1=>some ((e.1,e.2.1,v0.1,v1.1,e.2.2.2.2.1,()),())))
def y3M(e:Q2):Option ((Q2)×Unit):=yM1 0 e
abbrev z0L_e:Entry:={ f:=97,args:=.pair t56 .unit,rS:=.pair t56 .unit,m:=λ x=>y3M x.1 }
theorem yIq:FnOK Tryz.prog z0L_e:=fF (mu:=[1]) 0 Tryz.f97 (λ n x=>yM1 n x.1) [] (yC yLu (yC yPy eNil))
def yMx(n:Nat)(r0:((Q2)×Unit->Option (List UInt8×Unit))->List (Q2)->Int->Int->List (List UInt8)->Option (List (List UInt8)×Unit))(bC:(Q2)×Unit->Option (List UInt8×Unit))(aw:List (Q2))(co aU:Int)(bw:List (List UInt8)):Option (List (List UInt8)×Unit):=
  (bif decide (aU < co)then ((idx aw aU).bind λ v1=>((bC (v1,())).bind λ v2=>(bif decide (bw.length+(1:Nat)<=memMax)then r0 bC aw co (i64.wrap (aU+1)) (bw++[v2.1])else none)))else some (bw,()))
def yMF(n k:Nat)(bC:(Q2)×Unit->Option (List UInt8×Unit))(aw:List (Q2))(co aU:Int)(bw:List (List UInt8)):Option (List (List UInt8)×Unit):=
  iter (λ r y=>yMx n (λ bC aw co aU bw=>r ((bC,(aw,(co,(aU,())))),((bw,()),()))) y.1.1 y.1.2.1 y.1.2.2.1 y.1.2.2.2.1 y.2.1.1) k ((bC,(aw,(co,(aU,())))),((bw,()),()))
def zB_m(n:Nat)(l:List (Q2))(f:(Q2)×Unit->Option (List UInt8×Unit)):Option (List (List UInt8)×Unit):=
  (yMF n n (f) (l) ((↑l.length:Int)) ((0:Int)) ([]))
def zB_M(l:List (Q2))(f:(Q2)×Unit->Option (List UInt8×Unit)):Option (List (List UInt8)×Unit):=zB_m 1000 l f
abbrev zB_e:Entry:={ f:=99,args:=.pair t22 (.pair t106 .unit),rS:=.pair t38 .unit,m:=λ x=>zB_M x.1 x.2.1 }
theorem yQn:FnOK Tryz.prog zB_e:=fF (mu:=[5]) 1000 Tryz.f99 (λ n x=>zB_m n x.1 x.2.1) [[1,5,8,9,10]] eNil
def yIH(n:Nat)(r0:(List UInt8×Unit->Option (Int×Unit))->List (List UInt8)->Int->Int->List Int->Option (List Int×Unit))(bC:List UInt8×Unit->Option (Int×Unit))(aw:List (List UInt8))(co aU:Int)(bw:List Int):Option (List Int×Unit):=
  (bif decide (aU < co)then ((idx aw aU).bind λ v1=>((bC (v1,())).bind λ v2=>(bif decide (bw.length+(1:Nat)<=memMax)then r0 bC aw co (i64.wrap (aU+1)) (bw++[v2.1])else none)))else some (bw,()))
def yAa(n k:Nat)(bC:List UInt8×Unit->Option (Int×Unit))(aw:List (List UInt8))(co aU:Int)(bw:List Int):Option (List Int×Unit):=
  iter (λ r y=>yIH n (λ bC aw co aU bw=>r ((bC,(aw,(co,(aU,())))),((bw,()),()))) y.1.1 y.1.2.1 y.1.2.2.1 y.1.2.2.2.1 y.2.1.1) k ((bC,(aw,(co,(aU,())))),((bw,()),()))
def zC_m(n:Nat)(l:List (List UInt8))(f:List UInt8×Unit->Option (Int×Unit)):Option (List Int×Unit):=
  (yAa n n (f) (l) ((↑l.length:Int)) ((0:Int)) ([]))
def yNB(bC:List UInt8×Unit->Option (Int×Unit))(aw:List (List UInt8))(aU:Int)(v1:List UInt8)(bw:List Int):Option ((List Int×Unit)⊕(List Int)):=
  ((bC (v1,())).bind λ v2=>(bif decide (bw.length+(1:Nat)<=memMax)then (some (Sum.inr (bw++[v2.1])))else none))
def yPV(bC:List UInt8×Unit->Option (Int×Unit))(aw:List (List UInt8))(bw:List Int):Option (List Int×Unit):=
  (some ((bw,())))
theorem yGI(n:Nat)(hn:big<=n)(bC:List UInt8×Unit->Option (Int×Unit))(aw:List (List UInt8))(bw:List Int)(hx:List.length (aw) < lenMax):LeF some (yd (λ ay cD ac=>yNB bC aw ay cD ac) (λ ac=>yPV bC aw ac) 0 (aw) bw) (yAa n n bC aw (List.length (aw):Int) 0 bw):=by
  refine y0D (f:=some) (W:=λ bY ay ac=>yAa n bY bC aw (List.length (aw):Int) ay ac) (λ bY ay ac=>?_) hx bw n (by unfold big at hn;unfold lenMax at hx;omega)
  show LeF _ _ (yIH n (yAa n bY) bC aw (List.length (aw):Int) ay ac)
  exact y6 (yE λ v1=>(yE λ v2=>(y6 (y8 rfl) yY))) (y1z (y8 rfl))
def zC_M(l:List (List UInt8))(f:List UInt8×Unit->Option (Int×Unit)):Option (List Int×Unit):=
  (bif decide (List.length (l) < lenMax)then yd (λ ay cD ac=>yNB (f) (l) ay cD ac) (λ ac=>yPV (f) (l) ac) 0 (l) ([])else none)
abbrev zC_e:Entry:={ f:=100,args:=.pair t38 (.pair t187 .unit),rS:=.pair t185 .unit,m:=λ x=>zC_M x.1 x.2.1 }
theorem yQs:FnOK Tryz.prog zC_e:=fB (mu:=[5]) Tryz.f100 (λ n x=>zC_m n x.1 x.2.1) [[1,5,8,9,10]] eNil λ n hn x=>(y03 λ hx=>by apply yGI n hn;exact hx)
def y5O(n:Nat)(r0:List UInt8->List UInt8->Int->Option (Bool×Unit))(bu str0__0:List UInt8)(pos0__0:Int)(j2 j7:Bool):Option (Bool×Unit):=
  (bif !j2 then (bif pos0__0==0 then some (Bool.false,())else (bif !j7 then some (Bool.false,())else r0 bu str0__0 (yc str0__0 pos0__0).2))else r0 bu str0__0 (yc str0__0 pos0__0).2)
def y3B(n:Nat)(r0:List UInt8->List UInt8->Int->Option (Bool×Unit))(bu str0__0:List UInt8)(pos0__0:Int)(j2:Bool):Option (Bool×Unit):=
  (bif decide ((yc str0__0 pos0__0).1 >= 48)then (bif decide ((yc str0__0 pos0__0).1<=57)then (y5O n r0 bu str0__0 pos0__0 j2 (Bool.true))else (y5O n r0 bu str0__0 pos0__0 j2 ((yc str0__0 pos0__0).1==95)))else (y5O n r0 bu str0__0 pos0__0 j2 ((yc str0__0 pos0__0).1==95)))
def yEX(n:Nat)(r0:List UInt8->List UInt8->Int->Option (Bool×Unit))(bu str0__0:List UInt8)(pos0__0:Int):Option (Bool×Unit):=
  (bif decide (pos0__0 < (↑str0__0.length:Int))then (bif decide ((yc str0__0 pos0__0).1 >= 65)then (bif decide ((yc str0__0 pos0__0).1<=90)then (y3B n r0 bu str0__0 pos0__0 (Bool.true))else (bif decide ((yc str0__0 pos0__0).1 >= 97)then (y3B n r0 bu str0__0 pos0__0 (decide ((yc str0__0 pos0__0).1<=122)))else (y3B n r0 bu str0__0 pos0__0 (Bool.false))))else (bif decide ((yc str0__0 pos0__0).1 >= 97)then (y3B n r0 bu str0__0 pos0__0 (decide ((yc str0__0 pos0__0).1<=122)))else (y3B n r0 bu str0__0 pos0__0 (Bool.false))))else (bif !bu==[]then some (decide ((↑bu.length:Int)<=24),())else some (Bool.false,())))
def y7M(n k:Nat)(bu str0__0:List UInt8)(pos0__0:Int):Option (Bool×Unit):=
  iter (λ r y=>yEX n (λ bu str0__0 pos0__0=>r ((bu,()),(((str0__0,pos0__0),()),()))) y.1.1 y.2.1.1.1 y.2.1.1.2) k ((bu,()),(((str0__0,pos0__0),()),()))
def yQC(n:Nat)(s:List UInt8):Option (Bool×Unit):=
  (y7M n n (s) (s) ((0:Int)))
def y88(bu str0__0:List UInt8)(pos0__0:Int)(j2 j7:Bool):Option ((Bool×Unit)⊕Unit):=
  (bif !j2 then (bif pos0__0==0 then (some (Sum.inl ((Bool.false,()))))else (bif !j7 then (some (Sum.inl ((Bool.false,()))))else (some (Sum.inr ()))))else (some (Sum.inr ())))
theorem y17(n:Nat)(hn:big<=n)(r0:List UInt8->List UInt8->Int->Option (Bool×Unit))(bu str0__0:List UInt8)(pos0__0:Int)(j2 j7:Bool):LeF (elim some λ (ac:Unit)=>r0 bu str0__0 (yc (str0__0) pos0__0).2) (y88 bu str0__0 pos0__0 j2 j7) (y5O n r0 bu str0__0 pos0__0 j2 j7):=
  (y6 (y6 (y8 rfl) (y6 (y8 rfl) (y8 rfl))) (y8 rfl))
def y5B(bu str0__0:List UInt8)(pos0__0:Int)(j2:Bool):Option ((Bool×Unit)⊕Unit):=
  (bif decide ((yc str0__0 pos0__0).1 >= 48)then (bif decide ((yc str0__0 pos0__0).1<=57)then (y88 bu str0__0 pos0__0 j2 (Bool.true))else (y88 bu str0__0 pos0__0 j2 ((yc str0__0 pos0__0).1==95)))else (y88 bu str0__0 pos0__0 j2 ((yc str0__0 pos0__0).1==95)))
theorem y08(n:Nat)(hn:big<=n)(r0:List UInt8->List UInt8->Int->Option (Bool×Unit))(bu str0__0:List UInt8)(pos0__0:Int)(j2:Bool):LeF (elim some λ (ac:Unit)=>r0 bu str0__0 (yc (str0__0) pos0__0).2) (y5B bu str0__0 pos0__0 j2) (y3B n r0 bu str0__0 pos0__0 j2):=
  (y6 (y6 (by apply y17 n hn) (by apply y17 n hn)) (by apply y17 n hn))
def yCM(bu str0__0:List UInt8)(pos0__0:Int):Option ((Bool×Unit)⊕Unit):=
  (bif decide ((yc str0__0 pos0__0).1 >= 65)then (bif decide ((yc str0__0 pos0__0).1<=90)then (y5B bu str0__0 pos0__0 (Bool.true))else (bif decide ((yc str0__0 pos0__0).1 >= 97)then (y5B bu str0__0 pos0__0 (decide ((yc str0__0 pos0__0).1<=122)))else (y5B bu str0__0 pos0__0 (Bool.false))))else (bif decide ((yc str0__0 pos0__0).1 >= 97)then (y5B bu str0__0 pos0__0 (decide ((yc str0__0 pos0__0).1<=122)))else (y5B bu str0__0 pos0__0 (Bool.false))))
def yCW(bu str0__0:List UInt8):Option (Bool×Unit):=
  (bif !bu==[]then (some ((decide ((↑bu.length:Int)<=24),())))else (some ((Bool.false,()))))
theorem yDw(n:Nat)(hn:big<=n)(bu str0__0:List UInt8)(hx:List.length (str0__0) < lenMax):LeF some (y9F (str0__0) (λ ay ac=>yCM bu str0__0 ay) (λ ac=>yCW bu str0__0) (List.length (str0__0)) 0 ()) (y7M n n bu str0__0 0):=by
  refine yKc (f:=some) (W:=λ bY ay ac=>y7M n bY bu str0__0 ay) (λ bY ay ac=>?_) () n (by unfold big at hn;unfold lenMax at hx;omega)
  show LeF _ _ (yEX n (y7M n bY) bu str0__0 ay)
  exact y6 (y6 (y6 (by apply y08 n hn) (y6 (by apply y08 n hn) (by apply y08 n hn))) (y6 (by apply y08 n hn) (by apply y08 n hn))) (y1z (y6 (y8 rfl) (y8 rfl)))
def yHp(s:List UInt8):Option (Bool×Unit):=
  (bif decide (List.length (s) < lenMax)then y9F (s) (λ ay ac=>yCM (s) (s) ay) (λ ac=>yCW (s) (s)) (List.length (s)) 0 ()else none)
abbrev z0O_e:Entry:={ f:=102,args:=.pair t9 .unit,rS:=.pair t4 .unit,m:=λ x=>yHp x.1 }
theorem yHU:FnOK Tryz.prog z0O_e:=fB Tryz.f102 (λ n x=>yQC n x.1) [[0,8]] eNil λ n hn x=>(y03 λ hx=>by apply yDw n hn;exact hx)
def yI2(n:Nat)(r0:(Int×Unit->Option (Int×Unit))->List Int->Int->Int->List Int->Option (List Int×Unit))(bC:Int×Unit->Option (Int×Unit))(aw:List Int)(co aU:Int)(bw:List Int):Option (List Int×Unit):=
  (bif decide (aU < co)then ((idx aw aU).bind λ v1=>((bC (v1,())).bind λ v2=>(bif decide (bw.length+(1:Nat)<=memMax)then r0 bC aw co (i64.wrap (aU+1)) (bw++[v2.1])else none)))else some (bw,()))
def yAd(n k:Nat)(bC:Int×Unit->Option (Int×Unit))(aw:List Int)(co aU:Int)(bw:List Int):Option (List Int×Unit):=
  iter (λ r y=>yI2 n (λ bC aw co aU bw=>r ((bC,(aw,(co,(aU,())))),((bw,()),()))) y.1.1 y.1.2.1 y.1.2.2.1 y.1.2.2.2.1 y.2.1.1) k ((bC,(aw,(co,(aU,())))),((bw,()),()))
def zE_m(n:Nat)(l:List Int)(f:Int×Unit->Option (Int×Unit)):Option (List Int×Unit):=
  (yAd n n (f) (l) ((↑l.length:Int)) ((0:Int)) ([]))
def yNX(bC:Int×Unit->Option (Int×Unit))(aw:List Int)(aU v1:Int)(bw:List Int):Option ((List Int×Unit)⊕(List Int)):=
  ((bC (v1,())).bind λ v2=>(bif decide (bw.length+(1:Nat)<=memMax)then (some (Sum.inr (bw++[v2.1])))else none))
def yNv(bC:Int×Unit->Option (Int×Unit))(aw bw:List Int):Option (List Int×Unit):=
  (some ((bw,())))
theorem yFf(n:Nat)(hn:big<=n)(bC:Int×Unit->Option (Int×Unit))(aw bw:List Int)(hx:List.length (aw) < lenMax):LeF some (yd (λ ay cD ac=>yNX bC aw ay cD ac) (λ ac=>yNv bC aw ac) 0 (aw) bw) (yAd n n bC aw (List.length (aw):Int) 0 bw):=by
  refine y0D (f:=some) (W:=λ bY ay ac=>yAd n bY bC aw (List.length (aw):Int) ay ac) (λ bY ay ac=>?_) hx bw n (by unfold big at hn;unfold lenMax at hx;omega)
  show LeF _ _ (yI2 n (yAd n bY) bC aw (List.length (aw):Int) ay ac)
  exact y6 (yE λ v1=>(yE λ v2=>(y6 (y8 rfl) yY))) (y1z (y8 rfl))
def zE_M(l:List Int)(f:Int×Unit->Option (Int×Unit)):Option (List Int×Unit):=
  (bif decide (List.length (l) < lenMax)then yd (λ ay cD ac=>yNX (f) (l) ay cD ac) (λ ac=>yNv (f) (l) ac) 0 (l) ([])else none)
abbrev zE_e:Entry:={ f:=103,args:=.pair t34 (.pair t189 .unit),rS:=.pair t185 .unit,m:=λ x=>zE_M x.1 x.2.1 }
theorem yPk:FnOK Tryz.prog zE_e:=fB (mu:=[5]) Tryz.f103 (λ n x=>zE_m n x.1 x.2.1) [[1,5,8,9,10]] eNil λ n hn x=>(y03 λ hx=>by apply yFf n hn;exact hx)
def yEf(n:Nat)(r0:List UInt8->Q1->Int->Option (Int×Unit))(ca:List UInt8)(cP:Q1)(bH:Int):Option (Int×Unit):=
  (bif decide (bH < (↑cP.2.2.2.2.2.2.2.2.1.length:Int))then ((idx cP.2.2.2.2.2.2.2.2.1 bH).bind λ v1=>(bif v1.1==ca then some (bH,())else r0 ca cP (i64.wrap (bH+1))))else some ((-1:Int),()))
def y7I(n k:Nat)(ca:List UInt8)(cP:Q1)(bH:Int):Option (Int×Unit):=
  iter (λ r y=>yEf n (λ ca cP bH=>r ((ca,(cP,(bH,()))),((),()))) y.1.1 y.1.2.1 y.1.2.2.1) k ((ca,(cP,(bH,()))),((),()))
def yQG(n:Nat)(rp:Q1)(name:List UInt8):Option (Int×Unit):=
  (y7I n n (name) (rp) ((0:Int)))
def yH4(ca:List UInt8)(cP:Q1)(bH:Int)(v1:Q3):Option ((Int×Unit)⊕Unit):=
  (bif v1.1==ca then (some (Sum.inl ((bH,()))))else (some (Sum.inr ())))
def yLC(ca:List UInt8)(cP:Q1):Option (Int×Unit):=
  (some (((-1:Int),())))
theorem yDt(n:Nat)(hn:big<=n)(ca:List UInt8)(cP:Q1)(hx:List.length (cP.2.2.2.2.2.2.2.2.1) < lenMax):LeF some (yd (λ ay cD ac=>yH4 ca cP ay cD) (λ ac=>yLC ca cP) 0 (cP.2.2.2.2.2.2.2.2.1) ()) (y7I n n ca cP 0):=by
  refine y0D (f:=some) (W:=λ bY ay ac=>y7I n bY ca cP ay) (λ bY ay ac=>?_) hx () n (by unfold big at hn;unfold lenMax at hx;omega)
  show LeF _ _ (yEf n (y7I n bY) ca cP ay)
  exact y6 (yE λ v1=>(y6 (y8 rfl) (y8 rfl))) (y1z (y8 rfl))
def yCo(rp:Q1)(name:List UInt8):Option (Int×Unit):=
  (bif decide (List.length (rp.2.2.2.2.2.2.2.2.1) < lenMax)then yd (λ ay cD ac=>yH4 (name) (rp) ay cD) (λ ac=>yLC (name) (rp)) 0 (rp.2.2.2.2.2.2.2.2.1) ()else none)
abbrev z0R_e:Entry:={ f:=110,args:=.pair t41 (.pair t9 .unit),rS:=.pair t3 .unit,m:=λ x=>yCo x.1 x.2.1 }
theorem yH0:FnOK Tryz.prog z0R_e:=fB Tryz.f110 (λ n x=>yQG n x.1 x.2.1) [[1,2,5]] eNil λ n hn x=>(y03 λ hx=>by apply yDt n hn;exact hx)
def yLn(n:Nat)(s:List UInt8):Option (Bool×Unit):=
  (bif s==[(108:UInt8),111,119,101,114]then some (Bool.true,())else some (s==[(114:UInt8),97,105,115,101],()))
def z00(s:List UInt8):(Bool×Unit):=
  (bif s==[(108:UInt8),111,119,101,114]then (Bool.true,())else (s==[(114:UInt8),97,105,115,101],()))
abbrev yPr (s:List UInt8):Option (Bool×Unit):=some (z00 s)
abbrev z00_e:Entry:={ f:=111,args:=.pair t9 .unit,rS:=.pair t4 .unit,m:=λ x=>yPr x.1 }
theorem yOc:FnOK Tryz.prog z00_e:=fF (hm:=by intro x;show some (z00 x.1)=yLn 0 x.1;unfold yLn z00;first|rfl|(simp only[yF];done)|(simp only[yF];rfl)) 0 Tryz.f111 (λ n x=>yLn n x.1) [] eNil
def yNS(n:Nat)(rp:Q1)(g:Q3)(command:List UInt8):Option (Int×Unit):=
  (bif !g.2.2.2.2.1==[]then some ((33:Int),())else (bif decide ((↑rp.2.2.2.2.2.2.2.2.2.1.length:Int) > 0)then some ((34:Int),())else (bif command==[(108:UInt8),111,119,101,114]then (bif rp.2.2.2.2.2.2.1==[(111:UInt8),112,101,110]then some ((19:Int),())else (bif command==[(114:UInt8),97,105,115,101]then (bif rp.2.2.2.2.2.2.1==[(99:UInt8),108,111,115,101]then some ((19:Int),())else some ((0:Int),()))else some ((0:Int),())))else (bif command==[(114:UInt8),97,105,115,101]then (bif rp.2.2.2.2.2.2.1==[(99:UInt8),108,111,115,101]then some ((19:Int),())else some ((0:Int),()))else some ((0:Int),())))))
def z0f(rp:Q1)(g:Q3)(command:List UInt8):(Int×Unit):=
  (bif !g.2.2.2.2.1==[]then ((33:Int),())else (bif decide ((↑rp.2.2.2.2.2.2.2.2.2.1.length:Int) > 0)then ((34:Int),())else (bif command==[(108:UInt8),111,119,101,114]then (bif rp.2.2.2.2.2.2.1==[(111:UInt8),112,101,110]then ((19:Int),())else (bif command==[(114:UInt8),97,105,115,101]then (bif rp.2.2.2.2.2.2.1==[(99:UInt8),108,111,115,101]then ((19:Int),())else ((0:Int),()))else ((0:Int),())))else (bif command==[(114:UInt8),97,105,115,101]then (bif rp.2.2.2.2.2.2.1==[(99:UInt8),108,111,115,101]then ((19:Int),())else ((0:Int),()))else ((0:Int),())))))
abbrev yQa (rp:Q1)(g:Q3)(command:List UInt8):Option (Int×Unit):=some (z0f rp g command)
abbrev z0f_e:Entry:={ f:=112,args:=.pair t41 (.pair t148 (.pair t9 .unit)),rS:=.pair t3 .unit,m:=λ x=>yQa x.1 x.2.1 x.2.2.1 }
theorem yPS:FnOK Tryz.prog z0f_e:=fF (hm:=by intro x;show some (z0f x.1 x.2.1 x.2.2.1)=yNS 0 x.1 x.2.1 x.2.2.1;unfold yNS z0f;first|rfl|(simp only[yF];done)|(simp only[yF];rfl)) 0 Tryz.f112 (λ n x=>yNS n x.1 x.2.1 x.2.2.1) [] eNil
def zw_m(n:Nat)(s:List UInt8):Option (Bool×Unit):=
  (bif s==[(99:UInt8),108,111,115,101]then some (Bool.true,())else (bif s==[(111:UInt8),112,101,110]then some (Bool.true,())else some (s==[(119:UInt8),97,105,116],())))
def zw(s:List UInt8):(Bool×Unit):=
  (bif s==[(99:UInt8),108,111,115,101]then (Bool.true,())else (bif s==[(111:UInt8),112,101,110]then (Bool.true,())else (s==[(119:UInt8),97,105,116],())))
abbrev zw_M (s:List UInt8):Option (Bool×Unit):=some (zw s)
abbrev zw_e:Entry:={ f:=117,args:=.pair t9 .unit,rS:=.pair t4 .unit,m:=λ x=>zw_M x.1 }
theorem yQ2:FnOK Tryz.prog zw_e:=fF (hm:=by intro x;show some (zw x.1)=zw_m 0 x.1;unfold zw_m zw;first|rfl|(simp only[yF];done)|(simp only[yF];rfl)) 0 Tryz.f117 (λ n x=>zw_m n x.1) [] eNil
def y7Z(n:Nat)(cE:Q2)(cc:Bool)(af ah ai aj ak am aq:Int)(ar:List UInt8)(au:Int)(bv:List (Q3))(az:List (List UInt8))(bz:List (Q6)):Option ((Q1)×Int×Unit):=
  (bif !cc then ((idx cE.2.2.1 (0:Int)).bind λ v14=>(bif decide (bz.length+(1:Nat)<=memMax)then some ((af,(ah,ai,()),aj,ak,am,aq,ar,au,bv,az,bz++[(v14,(1:Int),())],()),(0:Int),())else none))else some ((af,(ah,ai,()),aj,ak,am,aq,ar,au,bv,az,bz,()),(0:Int),()))
def yET(n:Nat)(r0:Q2->Bool->Int->Int->Int->Int->Int->Int->Int->Int->List UInt8->Int->List (Q3)->List (List UInt8)->List (Q6)->Int->Int->Int->Int->Int->Int->Int->List UInt8->Int->List (Q6)->Option ((Q1)×Int×Unit))(cE:Q2)(cc:Bool)(da af ah ai aj ak am aq:Int)(ar:List UInt8)(au:Int)(bv:List (Q3))(az:List (List UInt8))(bD:List (Q6))(aL aM aN aO aP aQ aR:Int)(aS:List UInt8)(aT:Int)(bz:List (Q6)):Option ((Q1)×Int×Unit):=
  (bif decide (da < (↑bD.length:Int))then ((idx bD da).bind λ v1=>((idx cE.2.2.1 (0:Int)).bind λ v2=>(bif v1.1==v2 then (bif decide (bz.length+(1:Nat)<=memMax)then r0 cE Bool.true (i64.wrap (da+1)) af ah ai aj ak am aq ar au bv az bD aL aM aN aO aP aQ aR aS aT (bz++[(v1.1,i64.wrap (v1.2.1+1),())])else none)else (bif decide (bz.length+(1:Nat)<=memMax)then r0 cE cc (i64.wrap (da+1)) af ah ai aj ak am aq ar au bv az bD aL aM aN aO aP aQ aR aS aT (bz++[(v1.1,v1.2.1,())])else none))))else (bif !cc then (bif decide ((↑bz.length:Int) >= 64)then some ((af,(ah,ai,()),aj,ak,am,aq,ar,au,bv,az,bD,()),(5:Int),())else (y7Z n cE cc af ah ai aj ak am aq ar au bv az bz))else (y7Z n cE cc af ah ai aj ak am aq ar au bv az bz)))
def y7F(n k:Nat)(cE:Q2)(cc:Bool)(da af ah ai aj ak am aq:Int)(ar:List UInt8)(au:Int)(bv:List (Q3))(az:List (List UInt8))(bD:List (Q6))(aL aM aN aO aP aQ aR:Int)(aS:List UInt8)(aT:Int)(bz:List (Q6)):Option ((Q1)×Int×Unit):=
  iter (λ r y=>yET n (λ cE cc da af ah ai aj ak am aq ar au bv az bD aL aM aN aO aP aQ aR aS aT bz=>r ((cE,(cc,(da,()))),(((af,(ah,(ai,(aj,(ak,(am,(aq,(ar,(au,(bv,(az,(bD,())))))))))))),((aL,(aM,(aN,(aO,(aP,(aQ,(aR,(aS,(aT,()))))))))),(bz,()))),()))) y.1.1 y.1.2.1 y.1.2.2.1 y.2.1.1.1 y.2.1.1.2.1 y.2.1.1.2.2.1 y.2.1.1.2.2.2.1 y.2.1.1.2.2.2.2.1 y.2.1.1.2.2.2.2.2.1 y.2.1.1.2.2.2.2.2.2.1 y.2.1.1.2.2.2.2.2.2.2.1 y.2.1.1.2.2.2.2.2.2.2.2.1 y.2.1.1.2.2.2.2.2.2.2.2.2.1 y.2.1.1.2.2.2.2.2.2.2.2.2.2.1 y.2.1.1.2.2.2.2.2.2.2.2.2.2.2.1 y.2.1.2.1.1 y.2.1.2.1.2.1 y.2.1.2.1.2.2.1 y.2.1.2.1.2.2.2.1 y.2.1.2.1.2.2.2.2.1 y.2.1.2.1.2.2.2.2.2.1 y.2.1.2.1.2.2.2.2.2.2.1 y.2.1.2.1.2.2.2.2.2.2.2.1 y.2.1.2.1.2.2.2.2.2.2.2.2.1 y.2.1.2.2.1) k ((cE,(cc,(da,()))),(((af,(ah,(ai,(aj,(ak,(am,(aq,(ar,(au,(bv,(az,(bD,())))))))))))),((aL,(aM,(aN,(aO,(aP,(aQ,(aR,(aS,(aT,()))))))))),(bz,()))),()))
def yPg(n:Nat)(rp:Q1)(e:Q2):Option ((Q1)×Int×Unit):=
  (y7F n n (e) (Bool.false) ((0:Int)) (rp.1) (rp.2.1.1) (rp.2.1.2.1) (rp.2.2.1) (rp.2.2.2.1) (rp.2.2.2.2.1) (rp.2.2.2.2.2.1) (rp.2.2.2.2.2.2.1) (rp.2.2.2.2.2.2.2.1) (rp.2.2.2.2.2.2.2.2.1) (rp.2.2.2.2.2.2.2.2.2.1) (rp.2.2.2.2.2.2.2.2.2.2.1) ((0:Int)) ((0:Int)) ((0:Int)) ((0:Int)) ((0:Int)) ((0:Int)) ((0:Int)) ([]) ((0:Int)) ([]))
def yAZ(cE:Q2)(cc:Bool)(af ah ai aj ak am aq:Int)(ar:List UInt8)(au:Int)(bv:List (Q3))(az:List (List UInt8))(bz:List (Q6)):Option ((Q1)×Int×Unit):=
  (bif !cc then ((idx cE.2.2.1 (0:Int)).bind λ v14=>(bif decide (bz.length+(1:Nat)<=memMax)then (some (((af,(ah,ai,()),aj,ak,am,aq,ar,au,bv,az,bz++[(v14,(1:Int),())],()),(0:Int),())))else none))else (some (((af,(ah,ai,()),aj,ak,am,aq,ar,au,bv,az,bz,()),(0:Int),()))))
theorem y2U(n:Nat)(hn:big<=n)(cE:Q2)(cc:Bool)(af ah ai aj ak am aq:Int)(ar:List UInt8)(au:Int)(bv:List (Q3))(az:List (List UInt8))(bz:List (Q6)):LeF some (yAZ cE cc af ah ai aj ak am aq ar au bv az bz) (y7Z n cE cc af ah ai aj ak am aq ar au bv az bz):=
  (y6 (yE λ v14=>(y6 (y8 rfl) yY)) (y8 rfl))
def yHo(cE:Q2)(af ah ai aj ak am aq:Int)(ar:List UInt8)(au:Int)(bv:List (Q3))(az:List (List UInt8))(bD:List (Q6))(aL aM aN aO aP aQ aR:Int)(aS:List UInt8)(aT da:Int)(v1:Q6)(cc:Bool)(bz:List (Q6)):Option (((Q1)×Int×Unit)⊕(Bool×(List (Q6)))):=
  ((idx cE.2.2.1 (0:Int)).bind λ v2=>(bif v1.1==v2 then (bif decide (bz.length+(1:Nat)<=memMax)then (some (Sum.inr ((Bool.true),(bz++[(v1.1,i64.wrap (v1.2.1+1),())]))))else none)else (bif decide (bz.length+(1:Nat)<=memMax)then (some (Sum.inr ((cc),(bz++[(v1.1,v1.2.1,())]))))else none)))
def yHM(cE:Q2)(af ah ai aj ak am aq:Int)(ar:List UInt8)(au:Int)(bv:List (Q3))(az:List (List UInt8))(bD:List (Q6))(aL aM aN aO aP aQ aR:Int)(aS:List UInt8)(aT:Int)(cc:Bool)(bz:List (Q6)):Option ((Q1)×Int×Unit):=
  (bif !cc then (bif decide ((↑bz.length:Int) >= 64)then (some (((af,(ah,ai,()),aj,ak,am,aq,ar,au,bv,az,bD,()),(5:Int),())))else (yAZ cE cc af ah ai aj ak am aq ar au bv az bz))else (yAZ cE cc af ah ai aj ak am aq ar au bv az bz))
theorem yDQ(n:Nat)(hn:big<=n)(cE:Q2)(af ah ai aj ak am aq:Int)(ar:List UInt8)(au:Int)(bv:List (Q3))(az:List (List UInt8))(bD:List (Q6))(aL aM aN aO aP aQ aR:Int)(aS:List UInt8)(aT:Int)(cc:Bool)(bz:List (Q6))(hx:List.length (bD) < lenMax):LeF some (yd (λ ay cD ac=>yHo cE af ah ai aj ak am aq ar au bv az bD aL aM aN aO aP aQ aR aS aT ay cD ac.1 ac.2) (λ ac=>yHM cE af ah ai aj ak am aq ar au bv az bD aL aM aN aO aP aQ aR aS aT ac.1 ac.2) 0 (bD) (cc,bz)) (y7F n n cE cc 0 af ah ai aj ak am aq ar au bv az bD aL aM aN aO aP aQ aR aS aT bz):=by
  refine y0D (f:=some) (W:=λ bY ay ac=>y7F n bY cE ac.1 ay af ah ai aj ak am aq ar au bv az bD aL aM aN aO aP aQ aR aS aT ac.2) (λ bY ay ac=>?_) hx (cc,bz) n (by unfold big at hn;unfold lenMax at hx;omega)
  show LeF _ _ (yET n (y7F n bY) cE ac.1 ay af ah ai aj ak am aq ar au bv az bD aL aM aN aO aP aQ aR aS aT ac.2)
  exact y6 (yE λ v1=>(yE λ v2=>(y6 (y6 (y8 rfl) yY) (y6 (y8 rfl) yY)))) (y1z (y6 (y6 (y8 rfl) (by apply y2U n hn)) (by apply y2U n hn)))
def yHb(rp:Q1)(e:Q2):Option ((Q1)×Int×Unit):=
  (bif decide (List.length (rp.2.2.2.2.2.2.2.2.2.2.1) < lenMax)then yd (λ ay cD ac=>yHo (e) (rp.1) (rp.2.1.1) (rp.2.1.2.1) (rp.2.2.1) (rp.2.2.2.1) (rp.2.2.2.2.1) (rp.2.2.2.2.2.1) (rp.2.2.2.2.2.2.1) (rp.2.2.2.2.2.2.2.1) (rp.2.2.2.2.2.2.2.2.1) (rp.2.2.2.2.2.2.2.2.2.1) (rp.2.2.2.2.2.2.2.2.2.2.1) ((0:Int)) ((0:Int)) ((0:Int)) ((0:Int)) ((0:Int)) ((0:Int)) ((0:Int)) ([]) ((0:Int)) ay cD ac.1 ac.2) (λ ac=>yHM (e) (rp.1) (rp.2.1.1) (rp.2.1.2.1) (rp.2.2.1) (rp.2.2.2.1) (rp.2.2.2.2.1) (rp.2.2.2.2.2.1) (rp.2.2.2.2.2.2.1) (rp.2.2.2.2.2.2.2.1) (rp.2.2.2.2.2.2.2.2.1) (rp.2.2.2.2.2.2.2.2.2.1) (rp.2.2.2.2.2.2.2.2.2.2.1) ((0:Int)) ((0:Int)) ((0:Int)) ((0:Int)) ((0:Int)) ((0:Int)) ((0:Int)) ([]) ((0:Int)) ac.1 ac.2) 0 (rp.2.2.2.2.2.2.2.2.2.2.1) ((Bool.false),([]))else none)
abbrev z0T_e:Entry:={ f:=121,args:=.pair t41 (.pair t56 .unit),rS:=.pair t41 (.pair t3 .unit),m:=λ x=>yHb x.1 x.2.1 }
theorem yO8:FnOK Tryz.prog z0T_e:=fB (mu:=[2,6]) Tryz.f121 (λ n x=>yPg n x.1 x.2.1) [[2,3,4,6,7,8]] eNil λ n hn x=>(y03 λ hx=>by apply yDQ n hn;exact hx)
abbrev yDK:Ty:=.pair t3 .unit
abbrev yFR:Ty:=.pair t9 .unit
class ref01_Text_Rec where
  f:yDK.den->Option yFR.den
section
variable [ref01_Text_Rec]
def yA8:Entry:={ f:=132,args:=yDK,rS:=yFR,m:=λ x=>ref01_Text_Rec.f x }
def yOm:G:={ T:=T,E:=[yA8],mU:=[],fz:=[] }
def yQ3:List (List Nat):=[]
def yLD(n:Nat):Ann:={ keep:=yQ3,fuel:=n,inl:=[],deep:=0 }
def yMy(n:Nat)(np:Int):Option (List UInt8×Unit):=
  (bif decide (np > 9)then ((ref01_Text_Rec.f (i64.wrap (np.tdiv (10:Int)),())).bind λ v0=>((ref01_Text_Rec.f (np.tmod (10:Int),())).bind λ v1=>(bif decide (v0.1.length+v1.1.length < strMax)then some (v0.1++v1.1,())else none)))else (bif decide (np < (-9:Int))then ((ref01_Text_Rec.f (i64.wrap (np.tdiv (10:Int)),())).bind λ v2=>((ref01_Text_Rec.f (i64.wrap ((0:Int) - np.tmod (10:Int)),())).bind λ v3=>(bif decide (v2.1.length+v3.1.length < strMax)then some (v2.1++v3.1,())else none)))else (bif decide (np < 0)then ((ref01_Text_Rec.f (i64.wrap ((0:Int) - np),())).bind λ v4=>(bif decide ((1:Nat)+v4.1.length < strMax)then some ([(45:UInt8)]++v4.1,())else none))else some (y10 [IntKind.u8.wrap (i64.wrap ((48:Int)+np))],()))))
theorem yOH(n:Nat)(x:yDK.den):runF yOm (yLD n) Tryz.f132 yDK yFR x=yMy n x.1:=by kernel_rfl
def yOn(np:Int):Option (List UInt8×Unit):=yMy 0 np
theorem yMP(np:Int)(y:List UInt8×Unit)(h:yOn np=some y):∃ n,yMy n np=some y:=⟨0,h⟩
end
def y2j(d:Nat):yDK.den->Option yFR.den:=Nat.rec (motive:=λ _=>yDK.den->Option yFR.den) (λ _=>none) (λ _ ih x=>@yOn ⟨ih⟩ x.1) d
def y3R(d:Nat):Entry:={ f:=132,args:=yDK,rS:=yFR,m:=y2j d }
theorem y4s:(d:Nat)->FnOK Tryz.prog (y3R d)
  |0=>FnOK.none (fn:=Tryz.f132) (by kernel_rfl) (by kernel_rfl) (by kernel_rfl)
  |d+1=>yD4 (g:=@yOm ⟨y2j d⟩) (fn:=Tryz.f132) (e:=y3R (d+1)) y1Z y75 (yC (y4s d) eNil) (by kernel_rfl) (by kernel_rfl) (by kernel_rfl) (λ x y h=>let ⟨n,hn⟩:=@yMP ⟨y2j d⟩ x.1 y h;⟨yLD n,iNil,(@yOH ⟨y2j d⟩ n x).trans hn⟩)
def z0i_e:Entry:=y3R 24
theorem yPF:FnOK Tryz.prog z0i_e:=y4s 24
def yOr(n:Nat)(l:List (List UInt8)):Option (Q6):=
  ((yIl l [(32:UInt8)]).bind λ v0=>some (v0.1,(0:Int),()))
def yFB(l:List (List UInt8)):Option (Q6):=yOr 0 l
abbrev z0b_e:Entry:={ f:=135,args:=.pair t38 .unit,rS:=.pair t9 (.pair t29 .unit),m:=λ x=>yFB x.1 }
theorem y9a:FnOK Tryz.prog z0b_e:=fF 0 Tryz.f135 (λ n x=>yOr n x.1) [] (yC yHP eNil)
def zO_m(n:Nat)(g:Q3):Option (Bool×Unit):=
  some (g.2.1,())
def zO(g:Q3):(Bool×Unit):=
  (g.2.1,())
abbrev zO_M (g:Q3):Option (Bool×Unit):=some (zO g)
abbrev zO_e:Entry:={ f:=138,args:=.pair t64 .unit,rS:=.pair t4 .unit,m:=λ x=>zO_M x.1 }
theorem yNW:FnOK Tryz.prog zO_e:=fF (hm:=by intro x;show some (zO x.1)=zO_m 0 x.1;unfold zO_m zO;first|rfl|(simp only[yF];done)|(simp only[yF];rfl)) 0 Tryz.f138 (λ n x=>zO_m n x.1) [] eNil
def zc_m(n:Nat)(g:Q3):Option (Bool×Unit):=
  some (!g.2.2.2.2.1==[],())
def zc(g:Q3):(Bool×Unit):=
  (!g.2.2.2.2.1==[],())
abbrev zc_M (g:Q3):Option (Bool×Unit):=some (zc g)
abbrev zc_e:Entry:={ f:=141,args:=.pair t64 .unit,rS:=.pair t4 .unit,m:=λ x=>zc_M x.1 }
theorem yPO:FnOK Tryz.prog zc_e:=fF (hm:=by intro x;show some (zc x.1)=zc_m 0 x.1;unfold zc_m zc;first|rfl|(simp only[yF];done)|(simp only[yF];rfl)) 0 Tryz.f141 (λ n x=>zc_m n x.1) [] eNil
def yJ7(n:Nat)(g:Q3)(j0:List UInt8):Option (List UInt8×Unit):=
  ((yCP g.2.2.1).bind λ v1=>(bif decide (v1.1.length+(1:Nat) < strMax)then (bif decide ((v1.1++[(32:UInt8)]).length+j0.length < strMax)then some (v1.1++[(32:UInt8)]++j0,())else none)else none))
def zt_m(n:Nat)(g:Q3):Option (List UInt8×Unit):=
  (bif g.2.2.2.1==[]then (yJ7 n g ([(110:UInt8),111,110,101]))else (yJ7 n g (g.2.2.2.1)))
def zt_M(g:Q3):Option (List UInt8×Unit):=zt_m 0 g
abbrev zt_e:Entry:={ f:=146,args:=.pair t64 .unit,rS:=.pair t9 .unit,m:=λ x=>zt_M x.1 }
theorem yP9:FnOK Tryz.prog zt_e:=fF 0 Tryz.f146 (λ n x=>zt_m n x.1) [] (yC y9I eNil)
def yJZ(n:Nat)(r8:Int->List UInt8->Int->Option (Int×Bool×Unit))(dg:Int)(str0__8:List UInt8)(pos0__8:Int):Option (Int×Bool×Unit):=
  (bif decide (pos0__8 < (↑str0__8.length:Int))then (bif decide ((yc str0__8 pos0__8).1 < 48)then some ((0:Int),Bool.false,())else (bif decide ((yc str0__8 pos0__8).1 > 57)then some ((0:Int),Bool.false,())else r8 (i64.wrap (i64.wrap ((10:Int) * dg)+i64.wrap (IntKind.i32.wrap ((yc str0__8 pos0__8).1 - (48:Int))))) str0__8 (yc str0__8 pos0__8).2))else some (dg,Bool.true,()))
def yJI(n k:Nat)(dg:Int)(str0__8:List UInt8)(pos0__8:Int):Option (Int×Bool×Unit):=
  iter (λ r y=>yJZ n (λ dg str0__8 pos0__8=>r ((dg,()),(((str0__8,pos0__8),()),()))) y.1.1 y.2.1.1.1 y.2.1.1.2) k ((dg,()),(((str0__8,pos0__8),()),()))
def yBz(n:Nat)(s:List UInt8):Option (Int×Bool×Unit):=
  (yJI n n ((0:Int)) (s) ((0:Int)))
def yP0(n:Nat)(s:List UInt8):Option (Int×Bool×Unit):=
  (bif s==[]then some ((0:Int),Bool.false,())else (bif decide ((↑s.length:Int) > 9)then some ((0:Int),Bool.false,())else (bif decide ((↑s.length:Int) > 1)then ((idx s (0:Int)).bind λ v0=>(bif (↑v0.toNat:Int)==48 then some ((0:Int),Bool.false,())else (yBz n s)))else (yBz n s))))
def yMh(s:List UInt8):Option (Int×Bool×Unit):=yP0 1000 s
abbrev z05_e:Entry:={ f:=163,args:=.pair t9 .unit,rS:=.pair t3 (.pair t4 .unit),m:=λ x=>yMh x.1 }
theorem yLL:FnOK Tryz.prog z05_e:=fF 1000 Tryz.f163 (λ n x=>yP0 n x.1) [[4,25]] eNil
def yE1(n:Nat)(r0:(Int×Unit->Option (Bool×Unit))->Int->Int->Int->Option (Int×Unit))(bI:Int×Unit->Option (Bool×Unit))(bJ bZ aw:Int):Option (Int×Unit):=
  (bif decide (aw < bZ)then ((bI (aw,())).bind λ v1=>(bif v1.1 then some (aw,())else r0 bI bJ bZ (i64.wrap (aw+1))))else some (bJ,()))
def y7N(n k:Nat)(bI:Int×Unit->Option (Bool×Unit))(bJ bZ aw:Int):Option (Int×Unit):=
  iter (λ r y=>yE1 n (λ bI bJ bZ aw=>r ((bI,(bJ,(bZ,(aw,())))),((),()))) y.1.1 y.1.2.1 y.1.2.2.1 y.1.2.2.2.1) k ((bI,(bJ,(bZ,(aw,())))),((),()))
def yQh(n:Nat)(np:Int)(holds:Int×Unit->Option (Bool×Unit)):Option (Int×Unit):=
  (y7N n n (holds) ((-1:Int)) (np) ((0:Int)))
def yHm(bI:Int×Unit->Option (Bool×Unit))(bJ bZ aw:Int):Option ((Int×Unit)⊕Unit):=
  ((bI (aw,())).bind λ v1=>(bif v1.1 then (some (Sum.inl ((aw,()))))else (some (Sum.inr ()))))
def yLY(bI:Int×Unit->Option (Bool×Unit))(bJ bZ:Int):Option (Int×Unit):=
  (some ((bJ,())))
theorem yD8(n:Nat)(hn:big<=n)(bI:Int×Unit->Option (Bool×Unit))(bJ bZ:Int)(hx:(bZ)<=9223372036854775807):LeF some (y2n (λ ay ac=>yHm bI bJ bZ ay) (λ ac=>yLY bI bJ bZ) ((bZ) - 0).toNat 0 ()) (y7N n n bI bJ bZ 0):=by
  refine y4V (f:=some) (W:=λ bY ay ac=>y7N n bY bI bJ bZ ay) (λ bY ay ac=>?_) hx () n 0 (by decide) (by unfold big at hn;omega)
  show LeF _ _ (yE1 n (y7N n bY) bI bJ bZ ay)
  exact y6 (yE λ v1=>(y6 (y8 rfl) (y8 rfl))) (y1z (y8 rfl))
def yIz(np:Int)(holds:Int×Unit->Option (Bool×Unit)):Option (Int×Unit):=
  (bif decide ((np)<=9223372036854775807)then y2n (λ ay ac=>yHm (holds) ((-1:Int)) (np) ay) (λ ac=>yLY (holds) ((-1:Int)) (np)) ((np) - 0).toNat 0 ()else none)
abbrev z0Z_e:Entry:={ f:=173,args:=.pair t3 (.pair t227 .unit),rS:=.pair t3 .unit,m:=λ x=>yIz x.1 x.2.1 }
theorem yLZ:FnOK Tryz.prog z0Z_e:=fB Tryz.f173 (λ n x=>yQh n x.1 x.2.1) [[1,5,7,8]] eNil λ n hn x=>(y03 λ hx=>by apply yD8 n hn;exact hx)
def zN_m(n:Nat)(i:Int)(p1:Q1)(p2:List UInt8):Option (Bool×Unit):=
  ((idx p1.2.2.2.2.2.2.2.2.1 i).bind λ v0=>some (v0.1==p2,()))
def zN_M(i:Int)(p1:Q1)(p2:List UInt8):Option (Bool×Unit):=zN_m 0 i p1 p2
abbrev zN_e:Entry:={ f:=174,args:=.pair t3 (.pair (.ref t60) (.pair (.ref t9) .unit)),rS:=.pair t4 .unit,m:=λ x=>zN_M x.1 x.2.1 x.2.2.1 }
theorem yQm:FnOK Tryz.prog zN_e:=fF 0 Tryz.f174 (λ n x=>zN_m n x.1 x.2.1 x.2.2.1) [] eNil
def yMN(n:Nat)(rp:Q1)(p1:Int)(xp:Q3):Option ((Q1)×Unit):=
  (bif decide ((0:Nat)+rp.2.2.2.2.2.2.2.2.1.length<=memMax)then ((idx rp.2.2.2.2.2.2.2.2.1 p1).bind λ v0=>((rp.2.2.2.2.2.2.2.2.1[p1.toNat]?).bind λ v1=>some ((rp.1,rp.2.1,rp.2.2.1,rp.2.2.2.1,rp.2.2.2.2.1,rp.2.2.2.2.2.1,rp.2.2.2.2.2.2.1,rp.2.2.2.2.2.2.2.1,rp.2.2.2.2.2.2.2.2.1.set p1.toNat xp,rp.2.2.2.2.2.2.2.2.2),())))else none)
def yFL(rp:Q1)(p1:Int)(xp:Q3):Option ((Q1)×Unit):=yMN 0 rp p1 xp
abbrev z08_e:Entry:={ f:=176,args:=.pair t41 (.pair t3 (.pair t148 .unit)),rS:=.pair t41 .unit,m:=λ x=>yFL x.1 x.2.1 x.2.2.1 }
theorem yLJ:FnOK Tryz.prog z08_e:=fF (mu:=[3,7]) 0 Tryz.f176 (λ n x=>yMN n x.1 x.2.1 x.2.2.1) [] eNil
def yEB(n:Nat)(r0:List (List UInt8)->List UInt8->Int->Option (Bool×Unit))(bL:List (List UInt8))(cZ:List UInt8)(bH:Int):Option (Bool×Unit):=
  (bif decide (bH < (↑bL.length:Int))then ((idx bL bH).bind λ v1=>(bif v1==cZ then some (Bool.true,())else r0 bL cZ (i64.wrap (bH+1))))else some (Bool.false,()))
def y7G(n k:Nat)(bL:List (List UInt8))(cZ:List UInt8)(bH:Int):Option (Bool×Unit):=
  iter (λ r y=>yEB n (λ bL cZ bH=>r ((bL,(cZ,(bH,()))),((),()))) y.1.1 y.1.2.1 y.1.2.2.1) k ((bL,(cZ,(bH,()))),((),()))
def yPj(n:Nat)(l:List (List UInt8))(s:List UInt8):Option (Bool×Unit):=
  (y7G n n (l) (s) ((0:Int)))
def yHt(bL:List (List UInt8))(cZ:List UInt8)(bH:Int)(v1:List UInt8):Option ((Bool×Unit)⊕Unit):=
  (bif v1==cZ then (some (Sum.inl ((Bool.true,()))))else (some (Sum.inr ())))
def yLK(bL:List (List UInt8))(cZ:List UInt8):Option (Bool×Unit):=
  (some ((Bool.false,())))
theorem yDu(n:Nat)(hn:big<=n)(bL:List (List UInt8))(cZ:List UInt8)(hx:List.length (bL) < lenMax):LeF some (yd (λ ay cD ac=>yHt bL cZ ay cD) (λ ac=>yLK bL cZ) 0 (bL) ()) (y7G n n bL cZ 0):=by
  refine y0D (f:=some) (W:=λ bY ay ac=>y7G n bY bL cZ ay) (λ bY ay ac=>?_) hx () n (by unfold big at hn;unfold lenMax at hx;omega)
  show LeF _ _ (yEB n (y7G n bY) bL cZ ay)
  exact y6 (yE λ v1=>(y6 (y8 rfl) (y8 rfl))) (y1z (y8 rfl))
def yD2(l:List (List UInt8))(s:List UInt8):Option (Bool×Unit):=
  (bif decide (List.length (l) < lenMax)then yd (λ ay cD ac=>yHt (l) (s) ay cD) (λ ac=>yLK (l) (s)) 0 (l) ()else none)
abbrev z0E_e:Entry:={ f:=177,args:=.pair t38 (.pair t9 .unit),rS:=.pair t4 .unit,m:=λ x=>yD2 x.1 x.2.1 }
theorem yP6:FnOK Tryz.prog z0E_e:=fB Tryz.f177 (λ n x=>yPj n x.1 x.2.1) [[0,1,5]] eNil λ n hn x=>(y03 λ hx=>by apply yDu n hn;exact hx)
def yMo(n:Nat)(r0:(Int×Unit->Option (List UInt8×Unit))->List Int->Int->Int->List (List UInt8)->Option (List (List UInt8)×Unit))(bC:Int×Unit->Option (List UInt8×Unit))(aw:List Int)(co aU:Int)(bw:List (List UInt8)):Option (List (List UInt8)×Unit):=
  (bif decide (aU < co)then ((idx aw aU).bind λ v1=>((bC (v1,())).bind λ v2=>(bif decide (bw.length+(1:Nat)<=memMax)then r0 bC aw co (i64.wrap (aU+1)) (bw++[v2.1])else none)))else some (bw,()))
def yMp(n k:Nat)(bC:Int×Unit->Option (List UInt8×Unit))(aw:List Int)(co aU:Int)(bw:List (List UInt8)):Option (List (List UInt8)×Unit):=
  iter (λ r y=>yMo n (λ bC aw co aU bw=>r ((bC,(aw,(co,(aU,())))),((bw,()),()))) y.1.1 y.1.2.1 y.1.2.2.1 y.1.2.2.2.1 y.2.1.1) k ((bC,(aw,(co,(aU,())))),((bw,()),()))
def zJ_m(n:Nat)(l:List Int)(f:Int×Unit->Option (List UInt8×Unit)):Option (List (List UInt8)×Unit):=
  (yMp n n (f) (l) ((↑l.length:Int)) ((0:Int)) ([]))
def zJ_M(l:List Int)(f:Int×Unit->Option (List UInt8×Unit)):Option (List (List UInt8)×Unit):=zJ_m 1000 l f
abbrev zJ_e:Entry:={ f:=178,args:=.pair t34 (.pair t166 .unit),rS:=.pair t38 .unit,m:=λ x=>zJ_M x.1 x.2.1 }
theorem yP1:FnOK Tryz.prog zJ_e:=fF (mu:=[5]) 1000 Tryz.f178 (λ n x=>zJ_m n x.1 x.2.1) [[1,5,8,9,10]] eNil
def zp_m(n:Nat)(g:Q3):Option (List UInt8×Unit):=
  some (g.1,())
def zp(g:Q3):(List UInt8×Unit):=
  (g.1,())
abbrev zp_M (g:Q3):Option (List UInt8×Unit):=some (zp g)
abbrev zp_e:Entry:={ f:=183,args:=.pair t64 .unit,rS:=.pair t9 .unit,m:=λ x=>zp_M x.1 }
theorem yQE:FnOK Tryz.prog zp_e:=fF (hm:=by intro x;show some (zp x.1)=zp_m 0 x.1;unfold zp_m zp;first|rfl|(simp only[yF];done)|(simp only[yF];rfl)) 0 Tryz.f183 (λ n x=>zp_m n x.1) [] eNil
def yMm(n:Nat)(r0:List (List UInt8)->List UInt8->Int->Int->Option (Int×Unit))(bu:List (List UInt8))(dl:List UInt8)(bZ aw:Int):Option (Int×Unit):=
  (bif decide (aw < bZ)then ((idx bu aw).bind λ v1=>(bif dl==v1 then some (aw,())else r0 bu dl bZ (i64.wrap (aw+1))))else some ((-1:Int),()))
def yM7(n k:Nat)(bu:List (List UInt8))(dl:List UInt8)(bZ aw:Int):Option (Int×Unit):=
  iter (λ r y=>yMm n (λ bu dl bZ aw=>r ((bu,(dl,(bZ,(aw,())))),((),()))) y.1.1 y.1.2.1 y.1.2.2.1 y.1.2.2.2.1) k ((bu,(dl,(bZ,(aw,())))),((),()))
def zG_m(n:Nat)(s:List (List UInt8))(v:List UInt8):Option (Int×Unit):=
  (yM7 n n (s) (v) ((↑s.length:Int)) ((0:Int)))
def zG_M(s:List (List UInt8))(v:List UInt8):Option (Int×Unit):=zG_m 1000 s v
abbrev zG_e:Entry:={ f:=184,args:=.pair t38 (.pair t9 .unit),rS:=.pair t3 .unit,m:=λ x=>zG_M x.1 x.2.1 }
theorem yQI:FnOK Tryz.prog zG_e:=fF 1000 Tryz.f184 (λ n x=>zG_m n x.1 x.2.1) [[0,1,7,8]] eNil
def zK_m(n:Nat)(i:Int)(p1:Q1)(p2:List UInt8):Option (Bool×Unit):=
  ((idx p1.2.2.2.2.2.2.2.2.2.2.1 i).bind λ v0=>some (v0.1==p2,()))
def zK_M(i:Int)(p1:Q1)(p2:List UInt8):Option (Bool×Unit):=zK_m 0 i p1 p2
abbrev zK_e:Entry:={ f:=203,args:=.pair t3 (.pair (.ref t60) (.pair (.ref t9) .unit)),rS:=.pair t4 .unit,m:=λ x=>zK_M x.1 x.2.1 x.2.2.1 }
theorem yPf:FnOK Tryz.prog zK_e:=fF 0 Tryz.f203 (λ n x=>zK_m n x.1 x.2.1 x.2.2.1) [] eNil
end
end Go.Tw
end
section
set_option maxRecDepth 1000000
namespace Go.Tw
open Go.Vx Go.Vx.B Go.Proofs
noncomputable section
def zz_m(n:Nat)(xp:Int×Int×Unit):Option (Int×Unit):=
  (bif (z0G xp.1 (0:Int) (4096:Int)).1 then some ((3:Int),())else (bif (z0G xp.2.1 (0:Int) (4096:Int)).1 then some ((3:Int),())else (bif decide (xp.2.1 > xp.1)then some ((11:Int),())else some ((0:Int),()))))
def zz(xp:Int×Int×Unit):(Int×Unit):=
  (bif (z0G xp.1 (0:Int) (4096:Int)).1 then ((3:Int),())else (bif (z0G xp.2.1 (0:Int) (4096:Int)).1 then ((3:Int),())else (bif decide (xp.2.1 > xp.1)then ((11:Int),())else ((0:Int),()))))
abbrev zz_M (xp:Int×Int×Unit):Option (Int×Unit):=some (zz xp)
abbrev zz_e:Entry:={ f:=22,args:=.pair t25 .unit,rS:=.pair t3 .unit,m:=λ x=>zz_M x.1 }
theorem yQ9:FnOK Tryz.prog zz_e:=fF (hm:=by intro x;show some (zz x.1)=zz_m 0 x.1;unfold zz_m zz;first|rfl|(simp only[yF];done)|(simp only[yF];rfl)) 0 Tryz.f22 (λ n x=>zz_m n x.1) [] (yC yLO eNil)
def yCF(n:Nat)(r24:Q1->Q1->Int->Option (Bool×Unit))(cI cJ:Q1)(cV:Int):Option (Bool×Unit):=
  (bif decide (cV < (↑cI.2.2.2.2.2.2.2.2.2.2.1.length:Int))then ((idx cI.2.2.2.2.2.2.2.2.2.2.1 cV).bind λ v25=>((idx cJ.2.2.2.2.2.2.2.2.2.2.1 cV).bind λ v26=>(bif !eqV (Ty.str.pair ((Ty.int i64).pair Ty.unit)) v25 v26 then some (Bool.false,())else r24 cI cJ (i64.wrap (cV+1)))))else some (Bool.true,()))
def y65(n k:Nat)(cI cJ:Q1)(cV:Int):Option (Bool×Unit):=
  iter (λ r y=>yCF n (λ cI cJ cV=>r ((cI,(cJ,(cV,()))),((),()))) y.1.1 y.1.2.1 y.1.2.2.1) k ((cI,(cJ,(cV,()))),((),()))
def yBY(n:Nat)(r21:Q1->Q1->Int->Option (Bool×Unit))(cw cC:Q1)(cW:Int):Option (Bool×Unit):=
  (bif decide (cW < (↑cw.2.2.2.2.2.2.2.2.1.length:Int))then ((idx cw.2.2.2.2.2.2.2.2.1 cW).bind λ v22=>((idx cC.2.2.2.2.2.2.2.2.1 cW).bind λ v23=>(bif !eqV (Ty.str.pair (Ty.bool.pair ((Ty.int i64).pair (Ty.str.pair (Ty.str.pair Ty.unit))))) v22 v23 then some (Bool.false,())else r21 cw cC (i64.wrap (cW+1)))))else (y65 n n (cw) (cC) ((0:Int))))
def y5w(n k:Nat)(cw cC:Q1)(cW:Int):Option (Bool×Unit):=
  iter (λ r y=>yBY n (λ cw cC cW=>r ((cw,(cC,(cW,()))),((),()))) y.1.1 y.1.2.1 y.1.2.2.1) k ((cw,(cC,(cW,()))),((),()))
def yPo(n:Nat)(a b:Q1):Option (Bool×Unit):=
  (bif a.1 != b.1 then some (Bool.false,())else (bif !eqV ((Ty.int i64).pair ((Ty.int i64).pair Ty.unit)) a.2.1 b.2.1 then some (Bool.false,())else (bif a.2.2.1 != b.2.2.1 then some (Bool.false,())else (bif a.2.2.2.1 != b.2.2.2.1 then some (Bool.false,())else (bif a.2.2.2.2.1 != b.2.2.2.2.1 then some (Bool.false,())else (bif a.2.2.2.2.2.1 != b.2.2.2.2.2.1 then some (Bool.false,())else (bif !a.2.2.2.2.2.2.1==b.2.2.2.2.2.2.1 then some (Bool.false,())else (bif a.2.2.2.2.2.2.2.1 != b.2.2.2.2.2.2.2.1 then some (Bool.false,())else (bif (↑a.2.2.2.2.2.2.2.2.1.length:Int) != (↑b.2.2.2.2.2.2.2.2.1.length:Int)then some (Bool.false,())else ((zy_M a.2.2.2.2.2.2.2.2.2.1 b.2.2.2.2.2.2.2.2.2.1).bind λ v0=>(bif !v0.1 then some (Bool.false,())else (bif (↑a.2.2.2.2.2.2.2.2.2.2.1.length:Int) != (↑b.2.2.2.2.2.2.2.2.2.2.1.length:Int)then some (Bool.false,())else (y5w n n (a) (b) ((0:Int)))))))))))))))
def yD9(cI cJ:Q1)(cV:Int)(v25:Q6):Option ((Bool×Unit)⊕Unit):=
  ((idx cJ.2.2.2.2.2.2.2.2.2.2.1 cV).bind λ v26=>(bif !eqV (Ty.str.pair ((Ty.int i64).pair Ty.unit)) v25 v26 then (some (Sum.inl ((Bool.false,()))))else (some (Sum.inr ()))))
def yIZ(cI cJ:Q1):Option (Bool×Unit):=
  (some ((Bool.true,())))
theorem yCf(n:Nat)(hn:big<=n)(cI cJ:Q1)(hx:List.length (cI.2.2.2.2.2.2.2.2.2.2.1) < lenMax):LeF some (yd (λ ay cD ac=>yD9 cI cJ ay cD) (λ ac=>yIZ cI cJ) 0 (cI.2.2.2.2.2.2.2.2.2.2.1) ()) (y65 n n cI cJ 0):=by
  refine y0D (f:=some) (W:=λ bY ay ac=>y65 n bY cI cJ ay) (λ bY ay ac=>?_) hx () n (by unfold big at hn;unfold lenMax at hx;omega)
  show LeF _ _ (yCF n (y65 n bY) cI cJ ay)
  exact y6 (yE λ v25=>(yE λ v26=>(y6 (y8 rfl) (y8 rfl)))) (y1z (y8 rfl))
def yD3(cw cC:Q1)(cW:Int)(v22:Q3):Option ((Bool×Unit)⊕Unit):=
  ((idx cC.2.2.2.2.2.2.2.2.1 cW).bind λ v23=>(bif !eqV (Ty.str.pair (Ty.bool.pair ((Ty.int i64).pair (Ty.str.pair (Ty.str.pair Ty.unit))))) v22 v23 then (some (Sum.inl ((Bool.false,()))))else (some (Sum.inr ()))))
def yDm(cw cC:Q1):Option (Bool×Unit):=
  (bif decide (List.length (cw.2.2.2.2.2.2.2.2.2.2.1) < lenMax)then yd (λ ay cD ac=>yD9 (cw) (cC) ay cD) (λ ac=>yIZ (cw) (cC)) 0 (cw.2.2.2.2.2.2.2.2.2.2.1) ()else none)
theorem yBx(n:Nat)(hn:big<=n)(cw cC:Q1)(hx:List.length (cw.2.2.2.2.2.2.2.2.1) < lenMax):LeF some (yd (λ ay cD ac=>yD3 cw cC ay cD) (λ ac=>yDm cw cC) 0 (cw.2.2.2.2.2.2.2.2.1) ()) (y5w n n cw cC 0):=by
  refine y0D (f:=some) (W:=λ bY ay ac=>y5w n bY cw cC ay) (λ bY ay ac=>?_) hx () n (by unfold big at hn;unfold lenMax at hx;omega)
  show LeF _ _ (yBY n (y5w n bY) cw cC ay)
  exact y6 (yE λ v22=>(yE λ v23=>(y6 (y8 rfl) (y8 rfl)))) (y1z (y03 λ hx=>by apply yCf n hn;exact hx))
def yJL(a b:Q1):Option (Bool×Unit):=
  (bif a.1 != b.1 then (some ((Bool.false,())))else (bif !eqV ((Ty.int i64).pair ((Ty.int i64).pair Ty.unit)) a.2.1 b.2.1 then (some ((Bool.false,())))else (bif a.2.2.1 != b.2.2.1 then (some ((Bool.false,())))else (bif a.2.2.2.1 != b.2.2.2.1 then (some ((Bool.false,())))else (bif a.2.2.2.2.1 != b.2.2.2.2.1 then (some ((Bool.false,())))else (bif a.2.2.2.2.2.1 != b.2.2.2.2.2.1 then (some ((Bool.false,())))else (bif !a.2.2.2.2.2.2.1==b.2.2.2.2.2.2.1 then (some ((Bool.false,())))else (bif a.2.2.2.2.2.2.2.1 != b.2.2.2.2.2.2.2.1 then (some ((Bool.false,())))else (bif (↑a.2.2.2.2.2.2.2.2.1.length:Int) != (↑b.2.2.2.2.2.2.2.2.1.length:Int)then (some ((Bool.false,())))else ((zy_M a.2.2.2.2.2.2.2.2.2.1 b.2.2.2.2.2.2.2.2.2.1).bind λ v0=>(bif !v0.1 then (some ((Bool.false,())))else (bif (↑a.2.2.2.2.2.2.2.2.2.2.1.length:Int) != (↑b.2.2.2.2.2.2.2.2.2.2.1.length:Int)then (some ((Bool.false,())))else (bif decide (List.length (a.2.2.2.2.2.2.2.2.1) < lenMax)then yd (λ ay cD ac=>yD3 (a) (b) ay cD) (λ ac=>yDm (a) (b)) 0 (a.2.2.2.2.2.2.2.2.1) ()else none)))))))))))))
abbrev z0k_e:Entry:={ f:=31,args:=.pair t41 (.pair t41 .unit),rS:=.pair t4 .unit,m:=λ x=>yJL x.1 x.2.1 }
theorem yPU:FnOK Tryz.prog z0k_e:=fB Tryz.f31 (λ n x=>yPo n x.1 x.2.1) [[2,3,5],[2,3,6]] (yC yQ6 eNil) λ n hn x=>(y6 (y8 rfl) (y6 (y8 rfl) (y6 (y8 rfl) (y6 (y8 rfl) (y6 (y8 rfl) (y6 (y8 rfl) (y6 (y8 rfl) (y6 (y8 rfl) (y6 (y8 rfl) (yE λ v0=>(y6 (y8 rfl) (y6 (y8 rfl) (y03 λ hx=>by apply yBx n hn;exact hx)))))))))))))
def yHd(n:Nat)(r5:Q2->Int->Int->Int->Bool->Option (Int×Unit))(cQ:Q2)(db cF cx:Int)(cG:Bool):Option (Int×Unit):=
  (bif decide (db < cx)then ((idx cQ.2.2.2.1 db).bind λ v6=>(bif (z0G v6 (0:Int) (999999999:Int)).1 then some ((3:Int),())else r5 cQ (i64.wrap (db+1)) cF cx cG))else (bif !cQ.2.2.2.2.1==[]then some ((1:Int),())else some ((0:Int),())))
def yB5(n k:Nat)(cQ:Q2)(db cF cx:Int)(cG:Bool):Option (Int×Unit):=
  iter (λ r y=>yHd n (λ cQ db cF cx cG=>r ((cQ,(db,())),(((cF,(cx,(cG,()))),()),()))) y.1.1 y.1.2.1 y.2.1.1.1 y.2.1.1.2.1 y.2.1.1.2.2.1) k ((cQ,(db,())),(((cF,(cx,(cG,()))),()),()))
def yHu(n:Nat)(r2:Q2->Int->Int->Int->Bool->Option (Int×Unit))(cM:Q2)(dc a7 aa:Int)(ae:Bool):Option (Int×Unit):=
  (bif decide (dc < a7)then ((idx cM.2.2.1 dc).bind λ v3=>((yHn v3).bind λ v4=>(bif !v4.1 then some ((8:Int),())else r2 cM (i64.wrap (dc+1)) a7 aa ae)))else (yB5 n n (cM) ((0:Int)) (a7) (aa) (ae)))
def yA9(n k:Nat)(cM:Q2)(dc a7 aa:Int)(ae:Bool):Option (Int×Unit):=
  iter (λ r y=>yHu n (λ cM dc a7 aa ae=>r ((cM,(dc,())),(((a7,(aa,(ae,()))),()),()))) y.1.1 y.1.2.1 y.2.1.1.1 y.2.1.1.2.1 y.2.1.1.2.2.1) k ((cM,(dc,())),(((a7,(aa,(ae,()))),()),()))
def zv_m(n:Nat)(e:Q2):Option (Int×Unit):=
  (bif (z0G e.1 (1:Int) (1000:Int)).1 then some ((3:Int),())else (bif !(z0j e.2.1).1.2.2.1 then some ((13:Int),())else (bif (↑e.2.2.1.length:Int) != (z0j e.2.1).1.1 then some ((2:Int),())else (bif (↑e.2.2.2.1.length:Int) != (z0j e.2.1).1.2.1 then some ((2:Int),())else (yA9 n n (e) ((0:Int)) ((z0j e.2.1).1.1) ((z0j e.2.1).1.2.1) ((z0j e.2.1).1.2.2.1))))))
def yMA(cQ:Q2)(cF cx:Int)(cG:Bool)(db:Int):Option ((Int×Unit)⊕Unit):=
  ((idx cQ.2.2.2.1 db).bind λ v6=>(bif (z0G v6 (0:Int) (999999999:Int)).1 then (some (Sum.inl (((3:Int),()))))else (some (Sum.inr ()))))
def yNU(cQ:Q2)(cF cx:Int)(cG:Bool):Option (Int×Unit):=
  (bif !cQ.2.2.2.2.1==[]then (some (((1:Int),())))else (some (((0:Int),()))))
theorem yFX(n:Nat)(hn:big<=n)(cQ:Q2)(cF cx:Int)(cG:Bool)(hx:(cx)<=9223372036854775807):LeF some (y2n (λ ay ac=>yMA cQ cF cx cG ay) (λ ac=>yNU cQ cF cx cG) ((cx) - 0).toNat 0 ()) (yB5 n n cQ 0 cF cx cG):=by
  refine y4V (f:=some) (W:=λ bY ay ac=>yB5 n bY cQ ay cF cx cG) (λ bY ay ac=>?_) hx () n 0 (by decide) (by unfold big at hn;omega)
  show LeF _ _ (yHd n (yB5 n bY) cQ ay cF cx cG)
  exact y6 (yE λ v6=>(y6 (y8 rfl) (y8 rfl))) (y1z (y6 (y8 rfl) (y8 rfl)))
def yMY(cM:Q2)(a7 aa:Int)(ae:Bool)(dc:Int):Option ((Int×Unit)⊕Unit):=
  ((idx cM.2.2.1 dc).bind λ v3=>((yHn v3).bind λ v4=>(bif !v4.1 then (some (Sum.inl (((8:Int),()))))else (some (Sum.inr ())))))
def yMZ(cM:Q2)(a7 aa:Int)(ae:Bool):Option (Int×Unit):=
  (bif decide ((aa)<=9223372036854775807)then y2n (λ ay ac=>yMA (cM) (a7) (aa) (ae) ay) (λ ac=>yNU (cM) (a7) (aa) (ae)) ((aa) - 0).toNat 0 ()else none)
theorem yFl(n:Nat)(hn:big<=n)(cM:Q2)(a7 aa:Int)(ae:Bool)(hx:(a7)<=9223372036854775807):LeF some (y2n (λ ay ac=>yMY cM a7 aa ae ay) (λ ac=>yMZ cM a7 aa ae) ((a7) - 0).toNat 0 ()) (yA9 n n cM 0 a7 aa ae):=by
  refine y4V (f:=some) (W:=λ bY ay ac=>yA9 n bY cM ay a7 aa ae) (λ bY ay ac=>?_) hx () n 0 (by decide) (by unfold big at hn;omega)
  show LeF _ _ (yHu n (yA9 n bY) cM ay a7 aa ae)
  exact y6 (yE λ v3=>(yE λ v4=>(y6 (y8 rfl) (y8 rfl)))) (y1z (y03 λ hx=>by apply yFX n hn;exact hx))
def zv_M(e:Q2):Option (Int×Unit):=
  (bif (z0G e.1 (1:Int) (1000:Int)).1 then (some (((3:Int),())))else (bif !(z0j e.2.1).1.2.2.1 then (some (((13:Int),())))else (bif (↑e.2.2.1.length:Int) != (z0j e.2.1).1.1 then (some (((2:Int),())))else (bif (↑e.2.2.2.1.length:Int) != (z0j e.2.1).1.2.1 then (some (((2:Int),())))else (bif decide (((z0j e.2.1).1.1)<=9223372036854775807)then y2n (λ ay ac=>yMY (e) ((z0j e.2.1).1.1) ((z0j e.2.1).1.2.1) ((z0j e.2.1).1.2.2.1) ay) (λ ac=>yMZ (e) ((z0j e.2.1).1.1) ((z0j e.2.1).1.2.1) ((z0j e.2.1).1.2.2.1)) (((z0j e.2.1).1.1) - 0).toNat 0 ()else none)))))
abbrev zv_e:Entry:={ f:=38,args:=.pair t56 .unit,rS:=.pair t3 .unit,m:=λ x=>zv_M x.1 }
theorem yMq:FnOK Tryz.prog zv_e:=fB Tryz.f38 (λ n x=>zv_m n x.1) [[1,3,4],[1,3,5]] (yC yLO (yC yP2 (yC yNp eNil))) λ n hn x=>(y6 (y8 rfl) (y6 (y8 rfl) (y6 (y8 rfl) (y6 (y8 rfl) (y03 λ hx=>by apply yFl n hn;exact hx)))))
def yMR(n:Nat)(np low high:Int):Option (Int×Unit):=
  (bif decide (np < low)then some ((z0c Bool.true (3:Int)).1,())else some ((z0c (decide (np > high)) (3:Int)).1,()))
def z0D(np low high:Int):(Int×Unit):=
  (bif decide (np < low)then ((z0c Bool.true (3:Int)).1,())else ((z0c (decide (np > high)) (3:Int)).1,()))
abbrev yQF (np low high:Int):Option (Int×Unit):=some (z0D np low high)
abbrev z0D_e:Entry:={ f:=64,args:=.pair t3 (.pair t3 (.pair t3 .unit)),rS:=.pair t29 .unit,m:=λ x=>yQF x.1 x.2.1 x.2.2.1 }
theorem yEI:FnOK Tryz.prog z0D_e:=fF (hm:=by intro x;show some (z0D x.1 x.2.1 x.2.2.1)=yMR 0 x.1 x.2.1 x.2.2.1;unfold yMR z0D;first|rfl|(simp only[yF];done)|(simp only[yF];rfl)) 0 Tryz.f64 (λ n x=>yMR n x.1 x.2.1 x.2.2.1) [] (yC y3Z eNil)
def zY_m(n:Nat)(s:List UInt8):Option (Int×Unit):=
  ((yHp s).bind λ v0=>some ((z0c (!v0.1) (8:Int)).1,()))
def zY_M(s:List UInt8):Option (Int×Unit):=zY_m 0 s
abbrev zY_e:Entry:={ f:=101,args:=.pair t9 .unit,rS:=.pair t29 .unit,m:=λ x=>zY_M x.1 }
theorem yQD:FnOK Tryz.prog zY_e:=fF 0 Tryz.f101 (λ n x=>zY_m n x.1) [] (yC yHU (yC y3Z eNil))
def zT_m(n:Nat)(rp:Q1)(name:List UInt8):Option (Int×Unit):=
  ((yIz (↑rp.2.2.2.2.2.2.2.2.1.length:Int) λ (x:Int×Unit)=>zN_M x.1 rp name).bind λ v0=>some (v0.1,()))
def zT_M(rp:Q1)(name:List UInt8):Option (Int×Unit):=zT_m 0 rp name
abbrev zT_e:Entry:={ f:=106,args:=.pair t60 (.pair t9 .unit),rS:=.pair t3 .unit,m:=λ x=>zT_M x.1 x.2.1 }
theorem yN2:FnOK Tryz.prog zT_e:=fF 0 Tryz.f106 (λ n x=>zT_m n x.1 x.2.1) [] (yC yQm (yC yLZ eNil))
def za_m(n:Nat)(s:List UInt8):Option (Int×Unit):=
  (bif !s==[(108:UInt8),111,119,101,114]then some ((z0c (!s==[(114:UInt8),97,105,115,101]) (13:Int)).1,())else some ((z0c Bool.false (13:Int)).1,()))
def za(s:List UInt8):(Int×Unit):=
  (bif !s==[(108:UInt8),111,119,101,114]then ((z0c (!s==[(114:UInt8),97,105,115,101]) (13:Int)).1,())else ((z0c Bool.false (13:Int)).1,()))
abbrev za_M (s:List UInt8):Option (Int×Unit):=some (za s)
abbrev za_e:Entry:={ f:=107,args:=.pair t9 .unit,rS:=.pair t29 .unit,m:=λ x=>za_M x.1 }
theorem yQw:FnOK Tryz.prog za_e:=fF (hm:=by intro x;show some (za x.1)=za_m 0 x.1;unfold za_m za;first|rfl|(simp only[yF];done)|(simp only[yF];rfl)) 0 Tryz.f107 (λ n x=>za_m n x.1) [] (yC y3Z eNil)
def zQ_m(n:Nat)(rp:Q1)(g:Q3)(s:List UInt8):Option (Int×Unit):=
  (bif s==[(108:UInt8),111,119,101,114]then (bif rp.2.2.2.2.2.2.1==[(111:UInt8),112,101,110]then ((y07 [(z0c (!g.2.2.2.2.1==[]) (33:Int)).1,(z0c (decide ((↑rp.2.2.2.2.2.2.2.2.2.1.length:Int) > 0)) (34:Int)).1,(z0c Bool.true (19:Int)).1]).bind λ v5=>some (v5.1,()))else (bif s==[(114:UInt8),97,105,115,101]then ((y07 [(z0c (!g.2.2.2.2.1==[]) (33:Int)).1,(z0c (decide ((↑rp.2.2.2.2.2.2.2.2.2.1.length:Int) > 0)) (34:Int)).1,(z0c (rp.2.2.2.2.2.2.1==[(99:UInt8),108,111,115,101]) (19:Int)).1]).bind λ v6=>some (v6.1,()))else ((y07 [(z0c (!g.2.2.2.2.1==[]) (33:Int)).1,(z0c (decide ((↑rp.2.2.2.2.2.2.2.2.2.1.length:Int) > 0)) (34:Int)).1,(z0c Bool.false (19:Int)).1]).bind λ v7=>some (v7.1,()))))else (bif s==[(114:UInt8),97,105,115,101]then ((y07 [(z0c (!g.2.2.2.2.1==[]) (33:Int)).1,(z0c (decide ((↑rp.2.2.2.2.2.2.2.2.2.1.length:Int) > 0)) (34:Int)).1,(z0c (rp.2.2.2.2.2.2.1==[(99:UInt8),108,111,115,101]) (19:Int)).1]).bind λ v8=>some (v8.1,()))else ((y07 [(z0c (!g.2.2.2.2.1==[]) (33:Int)).1,(z0c (decide ((↑rp.2.2.2.2.2.2.2.2.2.1.length:Int) > 0)) (34:Int)).1,(z0c Bool.false (19:Int)).1]).bind λ v9=>some (v9.1,()))))
def zQ_M(rp:Q1)(g:Q3)(s:List UInt8):Option (Int×Unit):=zQ_m 0 rp g s
abbrev zQ_e:Entry:={ f:=108,args:=.pair t60 (.pair t64 (.pair t9 .unit)),rS:=.pair t29 .unit,m:=λ x=>zQ_M x.1 x.2.1 x.2.2.1 }
theorem yQg:FnOK Tryz.prog zQ_e:=fF 0 Tryz.f108 (λ n x=>zQ_m n x.1 x.2.1 x.2.2.1) [] (yC y3Z (yC y6s eNil))
def yLv(n:Nat)(rp:Q1)(e:Q2):Option ((Q1)×Int×Unit):=
  ((idx e.2.2.1 (0:Int)).bind λ v0=>((yCo rp v0).bind λ v1=>((idx e.2.2.1 (1:Int)).bind λ v2=>((idx e.2.2.2.1 (1:Int)).bind λ v3=>(bif decide (v1.1 < 0)then some (rp,(10:Int),())else (bif !(z00 v2).1 then some (rp,(13:Int),())else ((idx rp.2.2.2.2.2.2.2.2.1 v1.1).bind λ v4=>(bif v3==0 then some (rp,(6:Int),())else (bif decide (v3 < v4.2.2.1)then some (rp,(11:Int),())else (bif v3==v4.2.2.1 then (bif !v2==v4.2.2.2.1 then some (rp,(30:Int),())else some (rp,(0:Int),()))else (bif (z0f rp v4 v2).1 != 0 then some (rp,(z0f rp v4 v2).1,())else ((yFL rp v1.1 (v4.1,v2==[(108:UInt8),111,119,101,114],v3,v2,v4.2.2.2.2.1,())).bind λ v5=>some (v5.1,(0:Int),())))))))))))))
def yJQ(rp:Q1)(e:Q2):Option ((Q1)×Int×Unit):=yLv 0 rp e
abbrev z01_e:Entry:={ f:=118,args:=.pair t41 (.pair t56 .unit),rS:=.pair t41 (.pair t3 .unit),m:=λ x=>yJQ x.1 x.2.1 }
theorem yPC:FnOK Tryz.prog z01_e:=fF 0 Tryz.f118 (λ n x=>yLv n x.1 x.2.1) [] (yC yH0 (yC yOc (yC yPS (yC yLJ eNil))))
def yJm(n:Nat)(rp:Q1)(e:Q2):Option ((Q1)×Int×Unit):=
  ((idx e.2.2.1 (0:Int)).bind λ v0=>((yCo rp v0).bind λ v1=>(bif decide (v1.1 < 0)then some (rp,(10:Int),())else ((idx rp.2.2.2.2.2.2.2.2.1 v1.1).bind λ v2=>(bif e.2.1==[(108:UInt8),111,99,107]then (bif !v2.2.2.2.2.1==[]then some (rp,(33:Int),())else ((idx e.2.2.1 (1:Int)).bind λ v3=>((yFL rp v1.1 (v2.1,v2.2.1,v2.2.2.1,v2.2.2.2.1,v3,())).bind λ v6=>some (v6.1,(0:Int),()))))else ((idx e.2.2.1 (1:Int)).bind λ v4=>(bif !v2.2.2.2.2.1==v4 then some (rp,(33:Int),())else ((yFL rp v1.1 (v2.1,v2.2.1,v2.2.2.1,v2.2.2.2.1,[],())).bind λ v7=>some (v7.1,(0:Int),())))))))))
def yG4(rp:Q1)(e:Q2):Option ((Q1)×Int×Unit):=yJm 0 rp e
abbrev z0U_e:Entry:={ f:=119,args:=.pair t41 (.pair t56 .unit),rS:=.pair t41 (.pair t3 .unit),m:=λ x=>yG4 x.1 x.2.1 }
theorem yOB:FnOK Tryz.prog z0U_e:=fF 0 Tryz.f119 (λ n x=>yJm n x.1 x.2.1) [] (yC yH0 (yC yLJ eNil))
def yEv(n:Nat)(r2:Q2->Int->Int->Int->Int->Int->Int->Int->Int->List UInt8->Int->List (Q3)->List (List UInt8)->List (Q6)->Int->Int->Int->Int->Int->Int->Int->List UInt8->Int->List (List UInt8)->Option ((Q1)×Int×Unit))(cS:Q2)(d7 a7 aa ae b8 b9 bc bd:Int)(bf:List UInt8)(bg:Int)(cy:List (Q3))(bE:List (List UInt8))(bW:List (Q6))(bh bi bj bl bm bn bp:Int)(bq:List UInt8)(br:Int)(cp:List (List UInt8)):Option ((Q1)×Int×Unit):=
  (bif decide (d7 < (↑bE.length:Int))then ((idx bE d7).bind λ v3=>((idx cS.2.2.1 (0:Int)).bind λ v4=>(bif !v3==v4 then ((idx bE d7).bind λ v5=>(bif decide (cp.length+(1:Nat)<=memMax)then r2 cS (i64.wrap (d7+1)) a7 aa ae b8 b9 bc bd bf bg cy bE bW bh bi bj bl bm bn bp bq br (cp++[v5])else none))else r2 cS (i64.wrap (d7+1)) a7 aa ae b8 b9 bc bd bf bg cy bE bW bh bi bj bl bm bn bp bq br cp)))else some ((a7,(aa,ae,()),b8,b9,bc,bd,bf,bg,cy,cp,bW,()),(0:Int),()))
def y7E(n k:Nat)(cS:Q2)(d7 a7 aa ae b8 b9 bc bd:Int)(bf:List UInt8)(bg:Int)(cy:List (Q3))(bE:List (List UInt8))(bW:List (Q6))(bh bi bj bl bm bn bp:Int)(bq:List UInt8)(br:Int)(cp:List (List UInt8)):Option ((Q1)×Int×Unit):=
  iter (λ r y=>yEv n (λ cS d7 a7 aa ae b8 b9 bc bd bf bg cy bE bW bh bi bj bl bm bn bp bq br cp=>r ((cS,(d7,())),(((a7,(aa,(ae,(b8,(b9,(bc,(bd,(bf,(bg,(cy,(bE,(bW,())))))))))))),((bh,(bi,(bj,(bl,(bm,(bn,(bp,(bq,(br,()))))))))),(cp,()))),()))) y.1.1 y.1.2.1 y.2.1.1.1 y.2.1.1.2.1 y.2.1.1.2.2.1 y.2.1.1.2.2.2.1 y.2.1.1.2.2.2.2.1 y.2.1.1.2.2.2.2.2.1 y.2.1.1.2.2.2.2.2.2.1 y.2.1.1.2.2.2.2.2.2.2.1 y.2.1.1.2.2.2.2.2.2.2.2.1 y.2.1.1.2.2.2.2.2.2.2.2.2.1 y.2.1.1.2.2.2.2.2.2.2.2.2.2.1 y.2.1.1.2.2.2.2.2.2.2.2.2.2.2.1 y.2.1.2.1.1 y.2.1.2.1.2.1 y.2.1.2.1.2.2.1 y.2.1.2.1.2.2.2.1 y.2.1.2.1.2.2.2.2.1 y.2.1.2.1.2.2.2.2.2.1 y.2.1.2.1.2.2.2.2.2.2.1 y.2.1.2.1.2.2.2.2.2.2.2.1 y.2.1.2.1.2.2.2.2.2.2.2.2.1 y.2.1.2.2.1) k ((cS,(d7,())),(((a7,(aa,(ae,(b8,(b9,(bc,(bd,(bf,(bg,(cy,(bE,(bW,())))))))))))),((bh,(bi,(bj,(bl,(bm,(bn,(bp,(bq,(br,()))))))))),(cp,()))),()))
def y8O(n:Nat)(r11:Q2->Bool->Int->Int->Int->Int->Int->Int->Int->Int->List UInt8->Int->List (Q3)->List (List UInt8)->List (Q6)->Int->Int->Int->Int->Int->Int->Int->List UInt8->Int->List (List UInt8)->Option ((Q1)×Int×Unit))(bK:Q2)(av:Bool)(bG aA aB aC aD aE aF aG:Int)(aH:List UInt8)(aI:Int)(aJ:List (Q3))(a8:List (List UInt8))(ax:List (Q6))(aV aW aX aY aZ b4 b5:Int)(b6:List UInt8)(b7:Int)(bA:List (List UInt8))(j15:Bool):Option ((Q1)×Int×Unit):=
  (bif j15 then ((idx bK.2.2.1 (0:Int)).bind λ v16=>(bif decide (bA.length+(1:Nat)<=memMax)then ((idx a8 bG).bind λ v18=>(bif decide ((bA++[v16]).length+(1:Nat)<=memMax)then r11 bK Bool.true (i64.wrap (bG+1)) aA aB aC aD aE aF aG aH aI aJ a8 ax aV aW aX aY aZ b4 b5 b6 b7 (bA++[v16]++[v18])else none))else none))else ((idx a8 bG).bind λ v19=>(bif decide (bA.length+(1:Nat)<=memMax)then r11 bK av (i64.wrap (bG+1)) aA aB aC aD aE aF aG aH aI aJ a8 ax aV aW aX aY aZ b4 b5 b6 b7 (bA++[v19])else none)))
def yCD(n:Nat)(r11:Q2->Bool->Int->Int->Int->Int->Int->Int->Int->Int->List UInt8->Int->List (Q3)->List (List UInt8)->List (Q6)->Int->Int->Int->Int->Int->Int->Int->List UInt8->Int->List (List UInt8)->Option ((Q1)×Int×Unit))(bK:Q2)(av:Bool)(bG aA aB aC aD aE aF aG:Int)(aH:List UInt8)(aI:Int)(aJ:List (Q3))(a8:List (List UInt8))(ax:List (Q6))(aV aW aX aY aZ b4 b5:Int)(b6:List UInt8)(b7:Int)(bA:List (List UInt8)):Option ((Q1)×Int×Unit):=
  (bif decide (bG < (↑a8.length:Int))then (bif !av then ((idx bK.2.2.1 (0:Int)).bind λ v12=>((idx a8 bG).bind λ v13=>(y8O n r11 bK av bG aA aB aC aD aE aF aG aH aI aJ a8 ax aV aW aX aY aZ b4 b5 b6 b7 bA (Go.Op.bytesLess v12 v13))))else (y8O n r11 bK av bG aA aB aC aD aE aF aG aH aI aJ a8 ax aV aW aX aY aZ b4 b5 b6 b7 bA (Bool.false)))else (bif !av then ((idx bK.2.2.1 (0:Int)).bind λ v20=>(bif decide (bA.length+(1:Nat)<=memMax)then some ((aA,(aB,aC,()),aD,aE,aF,aG,aH,aI,aJ,bA++[v20],ax,()),(0:Int),())else none))else some ((aA,(aB,aC,()),aD,aE,aF,aG,aH,aI,aJ,bA,ax,()),(0:Int),())))
def y5q(n k:Nat)(bK:Q2)(av:Bool)(bG aA aB aC aD aE aF aG:Int)(aH:List UInt8)(aI:Int)(aJ:List (Q3))(a8:List (List UInt8))(ax:List (Q6))(aV aW aX aY aZ b4 b5:Int)(b6:List UInt8)(b7:Int)(bA:List (List UInt8)):Option ((Q1)×Int×Unit):=
  iter (λ r y=>yCD n (λ bK av bG aA aB aC aD aE aF aG aH aI aJ a8 ax aV aW aX aY aZ b4 b5 b6 b7 bA=>r ((bK,(av,(bG,()))),(((aA,(aB,(aC,(aD,(aE,(aF,(aG,(aH,(aI,(aJ,(a8,(ax,())))))))))))),((aV,(aW,(aX,(aY,(aZ,(b4,(b5,(b6,(b7,()))))))))),(bA,()))),()))) y.1.1 y.1.2.1 y.1.2.2.1 y.2.1.1.1 y.2.1.1.2.1 y.2.1.1.2.2.1 y.2.1.1.2.2.2.1 y.2.1.1.2.2.2.2.1 y.2.1.1.2.2.2.2.2.1 y.2.1.1.2.2.2.2.2.2.1 y.2.1.1.2.2.2.2.2.2.2.1 y.2.1.1.2.2.2.2.2.2.2.2.1 y.2.1.1.2.2.2.2.2.2.2.2.2.1 y.2.1.1.2.2.2.2.2.2.2.2.2.2.1 y.2.1.1.2.2.2.2.2.2.2.2.2.2.2.1 y.2.1.2.1.1 y.2.1.2.1.2.1 y.2.1.2.1.2.2.1 y.2.1.2.1.2.2.2.1 y.2.1.2.1.2.2.2.2.1 y.2.1.2.1.2.2.2.2.2.1 y.2.1.2.1.2.2.2.2.2.2.1 y.2.1.2.1.2.2.2.2.2.2.2.1 y.2.1.2.1.2.2.2.2.2.2.2.2.1 y.2.1.2.2.1) k ((bK,(av,(bG,()))),(((aA,(aB,(aC,(aD,(aE,(aF,(aG,(aH,(aI,(aJ,(a8,(ax,())))))))))))),((aV,(aW,(aX,(aY,(aZ,(b4,(b5,(b6,(b7,()))))))))),(bA,()))),()))
def yEZ(n:Nat)(r6:Q2->Bool->Int->Int->Int->Int->Int->Int->Int->Int->List UInt8->Int->List (Q3)->List (List UInt8)->List (Q6)->Int->Int->Int->Int->Int->Int->Int->List UInt8->Int->List (List UInt8)->Option ((Q1)×Int×Unit))(cR:Q2)(bF:Bool)(cX bM bN bO bQ bR bS bT:Int)(bU:List UInt8)(bV:Int)(bB:List (Q3))(aK:List (List UInt8))(bx:List (Q6))(ce cf cg ci cj ck cl:Int)(cm:List UInt8)(cn:Int)(cT:List (List UInt8)):Option ((Q1)×Int×Unit):=
  (bif decide (cX < (↑bB.length:Int))then (bif bF then r6 cR Bool.true (i64.wrap (cX+1)) bM bN bO bQ bR bS bT bU bV bB aK bx ce cf cg ci cj ck cl cm cn cT else ((idx bB cX).bind λ v7=>r6 cR v7.2.1 (i64.wrap (cX+1)) bM bN bO bQ bR bS bT bU bV bB aK bx ce cf cg ci cj ck cl cm cn cT))else (bif bF then some ((bM,(bN,bO,()),bQ,bR,bS,bT,bU,bV,bB,aK,bx,()),(20:Int),())else (bif decide ((↑aK.length:Int) >= 16)then some ((bM,(bN,bO,()),bQ,bR,bS,bT,bU,bV,bB,aK,bx,()),(5:Int),())else (y5q n n (cR) (Bool.false) ((0:Int)) (bM) (bN) (bO) (bQ) (bR) (bS) (bT) (bU) (bV) (bB) (aK) (bx) (ce) (cf) (cg) (ci) (cj) (ck) (cl) (cm) (cn) (cT)))))
def y7S(n k:Nat)(cR:Q2)(bF:Bool)(cX bM bN bO bQ bR bS bT:Int)(bU:List UInt8)(bV:Int)(bB:List (Q3))(aK:List (List UInt8))(bx:List (Q6))(ce cf cg ci cj ck cl:Int)(cm:List UInt8)(cn:Int)(cT:List (List UInt8)):Option ((Q1)×Int×Unit):=
  iter (λ r y=>yEZ n (λ cR bF cX bM bN bO bQ bR bS bT bU bV bB aK bx ce cf cg ci cj ck cl cm cn cT=>r ((cR,(bF,(cX,()))),(((bM,(bN,(bO,(bQ,(bR,(bS,(bT,(bU,(bV,(bB,(aK,(bx,())))))))))))),((ce,(cf,(cg,(ci,(cj,(ck,(cl,(cm,(cn,()))))))))),(cT,()))),()))) y.1.1 y.1.2.1 y.1.2.2.1 y.2.1.1.1 y.2.1.1.2.1 y.2.1.1.2.2.1 y.2.1.1.2.2.2.1 y.2.1.1.2.2.2.2.1 y.2.1.1.2.2.2.2.2.1 y.2.1.1.2.2.2.2.2.2.1 y.2.1.1.2.2.2.2.2.2.2.1 y.2.1.1.2.2.2.2.2.2.2.2.1 y.2.1.1.2.2.2.2.2.2.2.2.2.1 y.2.1.1.2.2.2.2.2.2.2.2.2.2.1 y.2.1.1.2.2.2.2.2.2.2.2.2.2.2.1 y.2.1.2.1.1 y.2.1.2.1.2.1 y.2.1.2.1.2.2.1 y.2.1.2.1.2.2.2.1 y.2.1.2.1.2.2.2.2.1 y.2.1.2.1.2.2.2.2.2.1 y.2.1.2.1.2.2.2.2.2.2.1 y.2.1.2.1.2.2.2.2.2.2.2.1 y.2.1.2.1.2.2.2.2.2.2.2.2.1 y.2.1.2.2.1) k ((cR,(bF,(cX,()))),(((bM,(bN,(bO,(bQ,(bR,(bS,(bT,(bU,(bV,(bB,(aK,(bx,())))))))))))),((ce,(cf,(cg,(ci,(cj,(ck,(cl,(cm,(cn,()))))))))),(cT,()))),()))
def yPq(n:Nat)(rp:Q1)(e:Q2):Option ((Q1)×Int×Unit):=
  ((idx e.2.2.1 (0:Int)).bind λ v0=>((yD2 rp.2.2.2.2.2.2.2.2.2.1 v0).bind λ v1=>(bif e.2.1==[(108:UInt8),101,97,118,101]then (bif !v1.1 then some (rp,(10:Int),())else (y7E n n (e) ((0:Int)) (rp.1) (rp.2.1.1) (rp.2.1.2.1) (rp.2.2.1) (rp.2.2.2.1) (rp.2.2.2.2.1) (rp.2.2.2.2.2.1) (rp.2.2.2.2.2.2.1) (rp.2.2.2.2.2.2.2.1) (rp.2.2.2.2.2.2.2.2.1) (rp.2.2.2.2.2.2.2.2.2.1) (rp.2.2.2.2.2.2.2.2.2.2.1) ((0:Int)) ((0:Int)) ((0:Int)) ((0:Int)) ((0:Int)) ((0:Int)) ((0:Int)) ([]) ((0:Int)) ([])))else (bif v1.1 then some (rp,(9:Int),())else (y7S n n (e) (rp.2.2.2.2.2.2.1==[(99:UInt8),108,111,115,101]) ((0:Int)) (rp.1) (rp.2.1.1) (rp.2.1.2.1) (rp.2.2.1) (rp.2.2.2.1) (rp.2.2.2.2.1) (rp.2.2.2.2.2.1) (rp.2.2.2.2.2.2.1) (rp.2.2.2.2.2.2.2.1) (rp.2.2.2.2.2.2.2.2.1) (rp.2.2.2.2.2.2.2.2.2.1) (rp.2.2.2.2.2.2.2.2.2.2.1) ((0:Int)) ((0:Int)) ((0:Int)) ((0:Int)) ((0:Int)) ((0:Int)) ((0:Int)) ([]) ((0:Int)) ([]))))))
def yH8(cS:Q2)(a7 aa ae b8 b9 bc bd:Int)(bf:List UInt8)(bg:Int)(cy:List (Q3))(bE:List (List UInt8))(bW:List (Q6))(bh bi bj bl bm bn bp:Int)(bq:List UInt8)(br d7:Int)(v3:List UInt8)(cp:List (List UInt8)):Option (((Q1)×Int×Unit)⊕(List (List UInt8))):=
  ((idx cS.2.2.1 (0:Int)).bind λ v4=>(bif !v3==v4 then ((idx bE d7).bind λ v5=>(bif decide (cp.length+(1:Nat)<=memMax)then (some (Sum.inr (cp++[v5])))else none))else (some (Sum.inr (cp)))))
def yLA(cS:Q2)(a7 aa ae b8 b9 bc bd:Int)(bf:List UInt8)(bg:Int)(cy:List (Q3))(bE:List (List UInt8))(bW:List (Q6))(bh bi bj bl bm bn bp:Int)(bq:List UInt8)(br:Int)(cp:List (List UInt8)):Option ((Q1)×Int×Unit):=
  (some (((a7,(aa,ae,()),b8,b9,bc,bd,bf,bg,cy,cp,bW,()),(0:Int),())))
theorem yCp(n:Nat)(hn:big<=n)(cS:Q2)(a7 aa ae b8 b9 bc bd:Int)(bf:List UInt8)(bg:Int)(cy:List (Q3))(bE:List (List UInt8))(bW:List (Q6))(bh bi bj bl bm bn bp:Int)(bq:List UInt8)(br:Int)(cp:List (List UInt8))(hx:List.length (bE) < lenMax):LeF some (yd (λ ay cD ac=>yH8 cS a7 aa ae b8 b9 bc bd bf bg cy bE bW bh bi bj bl bm bn bp bq br ay cD ac) (λ ac=>yLA cS a7 aa ae b8 b9 bc bd bf bg cy bE bW bh bi bj bl bm bn bp bq br ac) 0 (bE) cp) (y7E n n cS 0 a7 aa ae b8 b9 bc bd bf bg cy bE bW bh bi bj bl bm bn bp bq br cp):=by
  refine y0D (f:=some) (W:=λ bY ay ac=>y7E n bY cS ay a7 aa ae b8 b9 bc bd bf bg cy bE bW bh bi bj bl bm bn bp bq br ac) (λ bY ay ac=>?_) hx cp n (by unfold big at hn;unfold lenMax at hx;omega)
  show LeF _ _ (yEv n (y7E n bY) cS ay a7 aa ae b8 b9 bc bd bf bg cy bE bW bh bi bj bl bm bn bp bq br ac)
  exact y6 (yE λ v3=>(yE λ v4=>(y6 (yE λ v5=>(y6 (y8 rfl) yY)) (y8 rfl)))) (y1z (y8 rfl))
def yAU(bK:Q2)(av:Bool)(bG aA aB aC aD aE aF aG:Int)(aH:List UInt8)(aI:Int)(aJ:List (Q3))(a8:List (List UInt8))(ax:List (Q6))(aV aW aX aY aZ b4 b5:Int)(b6:List UInt8)(b7:Int)(bA:List (List UInt8))(j15:Bool):Option (((Q1)×Int×Unit)⊕(Bool×List (List UInt8))):=
  (bif j15 then ((idx bK.2.2.1 (0:Int)).bind λ v16=>(bif decide (bA.length+(1:Nat)<=memMax)then ((idx a8 bG).bind λ v18=>(bif decide ((bA++[v16]).length+(1:Nat)<=memMax)then (some (Sum.inr ((Bool.true),(bA++[v16]++[v18]))))else none))else none))else ((idx a8 bG).bind λ v19=>(bif decide (bA.length+(1:Nat)<=memMax)then (some (Sum.inr ((av),(bA++[v19]))))else none)))
theorem y2M(n:Nat)(hn:big<=n)(r11:Q2->Bool->Int->Int->Int->Int->Int->Int->Int->Int->List UInt8->Int->List (Q3)->List (List UInt8)->List (Q6)->Int->Int->Int->Int->Int->Int->Int->List UInt8->Int->List (List UInt8)->Option ((Q1)×Int×Unit))(bK:Q2)(av:Bool)(bG aA aB aC aD aE aF aG:Int)(aH:List UInt8)(aI:Int)(aJ:List (Q3))(a8:List (List UInt8))(ax:List (Q6))(aV aW aX aY aZ b4 b5:Int)(b6:List UInt8)(b7:Int)(bA:List (List UInt8))(j15:Bool):LeF (elim some λ (ac:(Bool×List (List UInt8)))=>r11 bK ac.1 (i64.wrap (bG+1)) aA aB aC aD aE aF aG aH aI aJ a8 ax aV aW aX aY aZ b4 b5 b6 b7 ac.2) (yAU bK av bG aA aB aC aD aE aF aG aH aI aJ a8 ax aV aW aX aY aZ b4 b5 b6 b7 bA j15) (y8O n r11 bK av bG aA aB aC aD aE aF aG aH aI aJ a8 ax aV aW aX aY aZ b4 b5 b6 b7 bA j15):=
  (y6 (yE λ v16=>(y6 (yE λ v18=>(y6 (y8 rfl) yY)) yY)) (yE λ v19=>(y6 (y8 rfl) yY)))
def yCq(bK:Q2)(aA aB aC aD aE aF aG:Int)(aH:List UInt8)(aI:Int)(aJ:List (Q3))(a8:List (List UInt8))(ax:List (Q6))(aV aW aX aY aZ b4 b5:Int)(b6:List UInt8)(b7 bG:Int)(av:Bool)(bA:List (List UInt8)):Option (((Q1)×Int×Unit)⊕(Bool×List (List UInt8))):=
  (bif !av then ((idx bK.2.2.1 (0:Int)).bind λ v12=>((idx a8 bG).bind λ v13=>(yAU bK av bG aA aB aC aD aE aF aG aH aI aJ a8 ax aV aW aX aY aZ b4 b5 b6 b7 bA (Go.Op.bytesLess v12 v13))))else (yAU bK av bG aA aB aC aD aE aF aG aH aI aJ a8 ax aV aW aX aY aZ b4 b5 b6 b7 bA (Bool.false)))
def yDS(bK:Q2)(aA aB aC aD aE aF aG:Int)(aH:List UInt8)(aI:Int)(aJ:List (Q3))(a8:List (List UInt8))(ax:List (Q6))(aV aW aX aY aZ b4 b5:Int)(b6:List UInt8)(b7:Int)(av:Bool)(bA:List (List UInt8)):Option ((Q1)×Int×Unit):=
  (bif !av then ((idx bK.2.2.1 (0:Int)).bind λ v20=>(bif decide (bA.length+(1:Nat)<=memMax)then (some (((aA,(aB,aC,()),aD,aE,aF,aG,aH,aI,aJ,bA++[v20],ax,()),(0:Int),())))else none))else (some (((aA,(aB,aC,()),aD,aE,aF,aG,aH,aI,aJ,bA,ax,()),(0:Int),()))))
theorem yBE(n:Nat)(hn:big<=n)(bK:Q2)(aA aB aC aD aE aF aG:Int)(aH:List UInt8)(aI:Int)(aJ:List (Q3))(a8:List (List UInt8))(ax:List (Q6))(aV aW aX aY aZ b4 b5:Int)(b6:List UInt8)(b7:Int)(av:Bool)(bA:List (List UInt8))(hx:((↑a8.length:Int))<=9223372036854775807):LeF some (y2n (λ ay ac=>yCq bK aA aB aC aD aE aF aG aH aI aJ a8 ax aV aW aX aY aZ b4 b5 b6 b7 ay ac.1 ac.2) (λ ac=>yDS bK aA aB aC aD aE aF aG aH aI aJ a8 ax aV aW aX aY aZ b4 b5 b6 b7 ac.1 ac.2) (((↑a8.length:Int)) - 0).toNat 0 (av,bA)) (y5q n n bK av 0 aA aB aC aD aE aF aG aH aI aJ a8 ax aV aW aX aY aZ b4 b5 b6 b7 bA):=by
  refine y4V (f:=some) (W:=λ bY ay ac=>y5q n bY bK ac.1 ay aA aB aC aD aE aF aG aH aI aJ a8 ax aV aW aX aY aZ b4 b5 b6 b7 ac.2) (λ bY ay ac=>?_) hx (av,bA) n 0 (by decide) (by unfold big at hn;omega)
  show LeF _ _ (yCD n (y5q n bY) bK ac.1 ay aA aB aC aD aE aF aG aH aI aJ a8 ax aV aW aX aY aZ b4 b5 b6 b7 ac.2)
  exact y6 (y6 (yE λ v12=>(yE λ v13=>(by apply y2M n hn))) (by apply y2M n hn)) (y1z (y6 (yE λ v20=>(y6 (y8 rfl) yY)) (y8 rfl)))
def yGx(cR:Q2)(bM bN bO bQ bR bS bT:Int)(bU:List UInt8)(bV:Int)(bB:List (Q3))(aK:List (List UInt8))(bx:List (Q6))(ce cf cg ci cj ck cl:Int)(cm:List UInt8)(cn:Int)(cT:List (List UInt8))(cX:Int)(bF:Bool):Option (((Q1)×Int×Unit)⊕(Bool)):=
  (bif bF then (some (Sum.inr (Bool.true)))else ((idx bB cX).bind λ v7=>(some (Sum.inr (v7.2.1)))))
def yHC(cR:Q2)(bM bN bO bQ bR bS bT:Int)(bU:List UInt8)(bV:Int)(bB:List (Q3))(aK:List (List UInt8))(bx:List (Q6))(ce cf cg ci cj ck cl:Int)(cm:List UInt8)(cn:Int)(cT:List (List UInt8))(bF:Bool):Option ((Q1)×Int×Unit):=
  (bif bF then (some (((bM,(bN,bO,()),bQ,bR,bS,bT,bU,bV,bB,aK,bx,()),(20:Int),())))else (bif decide ((↑aK.length:Int) >= 16)then (some (((bM,(bN,bO,()),bQ,bR,bS,bT,bU,bV,bB,aK,bx,()),(5:Int),())))else (bif decide (((↑aK.length:Int))<=9223372036854775807)then y2n (λ ay ac=>yCq (cR) (bM) (bN) (bO) (bQ) (bR) (bS) (bT) (bU) (bV) (bB) (aK) (bx) (ce) (cf) (cg) (ci) (cj) (ck) (cl) (cm) (cn) ay ac.1 ac.2) (λ ac=>yDS (cR) (bM) (bN) (bO) (bQ) (bR) (bS) (bT) (bU) (bV) (bB) (aK) (bx) (ce) (cf) (cg) (ci) (cj) (ck) (cl) (cm) (cn) ac.1 ac.2) (((↑aK.length:Int)) - 0).toNat 0 ((Bool.false),(cT))else none)))
theorem yDz(n:Nat)(hn:big<=n)(cR:Q2)(bM bN bO bQ bR bS bT:Int)(bU:List UInt8)(bV:Int)(bB:List (Q3))(aK:List (List UInt8))(bx:List (Q6))(ce cf cg ci cj ck cl:Int)(cm:List UInt8)(cn:Int)(cT:List (List UInt8))(bF:Bool)(hx:((↑bB.length:Int))<=9223372036854775807):LeF some (y2n (λ ay ac=>yGx cR bM bN bO bQ bR bS bT bU bV bB aK bx ce cf cg ci cj ck cl cm cn cT ay ac) (λ ac=>yHC cR bM bN bO bQ bR bS bT bU bV bB aK bx ce cf cg ci cj ck cl cm cn cT ac) (((↑bB.length:Int)) - 0).toNat 0 bF) (y7S n n cR bF 0 bM bN bO bQ bR bS bT bU bV bB aK bx ce cf cg ci cj ck cl cm cn cT):=by
  refine y4V (f:=some) (W:=λ bY ay ac=>y7S n bY cR ac ay bM bN bO bQ bR bS bT bU bV bB aK bx ce cf cg ci cj ck cl cm cn cT) (λ bY ay ac=>?_) hx bF n 0 (by decide) (by unfold big at hn;omega)
  show LeF _ _ (yEZ n (y7S n bY) cR ac ay bM bN bO bQ bR bS bT bU bV bB aK bx ce cf cg ci cj ck cl cm cn cT)
  exact y6 (y6 (y8 rfl) (yE λ v7=>(y8 rfl))) (y1z (y6 (y8 rfl) (y6 (y8 rfl) (y03 λ hx=>by apply yBE n hn;exact hx))))
def yDU(rp:Q1)(e:Q2):Option ((Q1)×Int×Unit):=
  ((idx e.2.2.1 (0:Int)).bind λ v0=>((yD2 rp.2.2.2.2.2.2.2.2.2.1 v0).bind λ v1=>(bif e.2.1==[(108:UInt8),101,97,118,101]then (bif !v1.1 then (some ((rp,(10:Int),())))else (bif decide (List.length (rp.2.2.2.2.2.2.2.2.2.1) < lenMax)then yd (λ ay cD ac=>yH8 (e) (rp.1) (rp.2.1.1) (rp.2.1.2.1) (rp.2.2.1) (rp.2.2.2.1) (rp.2.2.2.2.1) (rp.2.2.2.2.2.1) (rp.2.2.2.2.2.2.1) (rp.2.2.2.2.2.2.2.1) (rp.2.2.2.2.2.2.2.2.1) (rp.2.2.2.2.2.2.2.2.2.1) (rp.2.2.2.2.2.2.2.2.2.2.1) ((0:Int)) ((0:Int)) ((0:Int)) ((0:Int)) ((0:Int)) ((0:Int)) ((0:Int)) ([]) ((0:Int)) ay cD ac) (λ ac=>yLA (e) (rp.1) (rp.2.1.1) (rp.2.1.2.1) (rp.2.2.1) (rp.2.2.2.1) (rp.2.2.2.2.1) (rp.2.2.2.2.2.1) (rp.2.2.2.2.2.2.1) (rp.2.2.2.2.2.2.2.1) (rp.2.2.2.2.2.2.2.2.1) (rp.2.2.2.2.2.2.2.2.2.1) (rp.2.2.2.2.2.2.2.2.2.2.1) ((0:Int)) ((0:Int)) ((0:Int)) ((0:Int)) ((0:Int)) ((0:Int)) ((0:Int)) ([]) ((0:Int)) ac) 0 (rp.2.2.2.2.2.2.2.2.2.1) ([])else none))else (bif v1.1 then (some ((rp,(9:Int),())))else (bif decide (((↑rp.2.2.2.2.2.2.2.2.1.length:Int))<=9223372036854775807)then y2n (λ ay ac=>yGx (e) (rp.1) (rp.2.1.1) (rp.2.1.2.1) (rp.2.2.1) (rp.2.2.2.1) (rp.2.2.2.2.1) (rp.2.2.2.2.2.1) (rp.2.2.2.2.2.2.1) (rp.2.2.2.2.2.2.2.1) (rp.2.2.2.2.2.2.2.2.1) (rp.2.2.2.2.2.2.2.2.2.1) (rp.2.2.2.2.2.2.2.2.2.2.1) ((0:Int)) ((0:Int)) ((0:Int)) ((0:Int)) ((0:Int)) ((0:Int)) ((0:Int)) ([]) ((0:Int)) ([]) ay ac) (λ ac=>yHC (e) (rp.1) (rp.2.1.1) (rp.2.1.2.1) (rp.2.2.1) (rp.2.2.2.1) (rp.2.2.2.2.1) (rp.2.2.2.2.2.1) (rp.2.2.2.2.2.2.1) (rp.2.2.2.2.2.2.2.1) (rp.2.2.2.2.2.2.2.2.1) (rp.2.2.2.2.2.2.2.2.2.1) (rp.2.2.2.2.2.2.2.2.2.2.1) ((0:Int)) ((0:Int)) ((0:Int)) ((0:Int)) ((0:Int)) ((0:Int)) ((0:Int)) ([]) ((0:Int)) ([]) ac) (((↑rp.2.2.2.2.2.2.2.2.1.length:Int)) - 0).toNat 0 (rp.2.2.2.2.2.2.1==[(99:UInt8),108,111,115,101])else none)))))
abbrev z0V_e:Entry:={ f:=120,args:=.pair t41 (.pair t56 .unit),rS:=.pair t41 (.pair t3 .unit),m:=λ x=>yDU x.1 x.2.1 }
theorem yO3:FnOK Tryz.prog z0V_e:=fB (mu:=[2,7]) Tryz.f120 (λ n x=>yPq n x.1 x.2.1) [[2,3,4,7,8],[2,3,4,7,9,10],[2,3,4,7,11,12]] (yC yP6 eNil) λ n hn x=>(yE λ v0=>(yE λ v1=>(y6 (y6 (y8 rfl) (y03 λ hx=>by apply yCp n hn;exact hx)) (y6 (y8 rfl) (y03 λ hx=>by apply yDz n hn;exact hx)))))
def yP3(n:Nat)(e:Q2):Option (List UInt8×Unit):=
  ((yCP e.1).bind λ v0=>(bif decide ((2:Nat)+e.2.2.1.length<=memMax)then ((zJ_M e.2.2.2.1 λ (x:Int×Unit)=>yCP x.1).bind λ v1=>(bif decide (([v0.1,e.2.1]++e.2.2.1).length+v1.1.length<=memMax)then ((yIl ([v0.1,e.2.1]++e.2.2.1++v1.1) [(32:UInt8)]).bind λ v2=>some (v2.1,()))else none))else none))
def yOA(e:Q2):Option (List UInt8×Unit):=yP3 0 e
abbrev z0Y_e:Entry:={ f:=122,args:=.pair t56 .unit,rS:=.pair t9 .unit,m:=λ x=>yOA x.1 }
theorem yO6:FnOK Tryz.prog z0Y_e:=fF (mu:=[9]) 0 Tryz.f122 (λ n x=>yP3 n x.1) [] (yC y9I (yC yP1 (yC yHP eNil)))
def zf_m(n:Nat)(rp:Q1)(p1:List (List UInt8)):Option (Q6):=
  some ((zM rp).1,(0:Int),())
def zf(rp:Q1)(p1:List (List UInt8)):(Q6):=
  ((zM rp).1,(0:Int),())
abbrev zf_M (rp:Q1)(p1:List (List UInt8)):Option (Q6):=some (zf rp p1)
abbrev zf_e:Entry:={ f:=133,args:=.pair t60 (.pair t38 .unit),rS:=.pair t9 (.pair t29 .unit),m:=λ x=>zf_M x.1 x.2.1 }
theorem yQj:FnOK Tryz.prog zf_e:=fF (hm:=by intro x;show some (zf x.1 x.2.1)=zf_m 0 x.1 x.2.1;unfold zf_m zf;first|rfl|(simp only[yF];done)|(simp only[yF];rfl)) 0 Tryz.f133 (λ n x=>zf_m n x.1 x.2.1) [] (yC yMT eNil)
def zg_m(n:Nat)(rp:Q1)(p1:List (List UInt8)):Option (Q6):=
  ((yCP rp.2.2.2.2.2.2.2.1).bind λ v0=>((yFB [rp.2.2.2.2.2.2.1,v0.1]).bind λ v1=>some (v1.1,v1.2.1,())))
def zg_M(rp:Q1)(p1:List (List UInt8)):Option (Q6):=zg_m 0 rp p1
abbrev zg_e:Entry:={ f:=134,args:=.pair t60 (.pair t38 .unit),rS:=.pair t9 (.pair t29 .unit),m:=λ x=>zg_M x.1 x.2.1 }
theorem yQZ:FnOK Tryz.prog zg_e:=fF 0 Tryz.f134 (λ n x=>zg_m n x.1 x.2.1) [] (yC y9I (yC y9a eNil))
def zi_m(n:Nat)(rp:Q1)(p1:List (List UInt8)):Option (Q6):=
  ((yFB rp.2.2.2.2.2.2.2.2.2.1).bind λ v0=>some (v0.1,v0.2.1,()))
def zi_M(rp:Q1)(p1:List (List UInt8)):Option (Q6):=zi_m 0 rp p1
abbrev zi_e:Entry:={ f:=139,args:=.pair t60 (.pair t38 .unit),rS:=.pair t9 (.pair t29 .unit),m:=λ x=>zi_M x.1 x.2.1 }
theorem yQl:FnOK Tryz.prog zi_e:=fF 0 Tryz.f139 (λ n x=>zi_m n x.1 x.2.1) [] (yC y9a eNil)
def yOp(n:Nat)(l:List Int):Option (Q6):=
  ((zJ_M l λ (x:Int×Unit)=>yCP x.1).bind λ v0=>((yFB v0.1).bind λ v1=>some (v1.1,v1.2.1,())))
def yMC(l:List Int):Option (Q6):=yOp 0 l
abbrev z06_e:Entry:={ f:=143,args:=.pair t34 .unit,rS:=.pair t9 (.pair t29 .unit),m:=λ x=>yMC x.1 }
theorem yId:FnOK Tryz.prog z06_e:=fF 0 Tryz.f143 (λ n x=>yOp n x.1) [] (yC yP1 (yC y9I (yC y9a eNil)))
def zD_m(n:Nat)(s:List (List UInt8))(v:List UInt8):Option (Bool×Unit):=
  ((zG_M s v).bind λ v0=>some (decide (v0.1 >= 0),()))
def zD_M(s:List (List UInt8))(v:List UInt8):Option (Bool×Unit):=zD_m 0 s v
abbrev zD_e:Entry:={ f:=147,args:=.pair t38 (.pair t9 .unit),rS:=.pair t4 .unit,m:=λ x=>zD_M x.1 x.2.1 }
theorem yON:FnOK Tryz.prog zD_e:=fF 0 Tryz.f147 (λ n x=>zD_m n x.1 x.2.1) [] (yC yQI eNil)
def zS_m(n:Nat)(rp:Q1)(name:List UInt8):Option (Int×Unit):=
  ((yIz (↑rp.2.2.2.2.2.2.2.2.2.2.1.length:Int) λ (x:Int×Unit)=>zK_M x.1 rp name).bind λ v0=>some (v0.1,()))
def zS_M(rp:Q1)(name:List UInt8):Option (Int×Unit):=zS_m 0 rp name
abbrev zS_e:Entry:={ f:=175,args:=.pair t60 (.pair t9 .unit),rS:=.pair t3 .unit,m:=λ x=>zS_M x.1 x.2.1 }
theorem yOv:FnOK Tryz.prog zS_e:=fF 0 Tryz.f175 (λ n x=>zS_m n x.1 x.2.1) [] (yC yPf (yC yLZ eNil))
def zV_m(n:Nat)(s:List UInt8):Option (Int×Unit):=
  (bif !s==[(99:UInt8),108,111,115,101]then (bif !s==[(111:UInt8),112,101,110]then some ((z0c (!s==[(119:UInt8),97,105,116]) (13:Int)).1,())else some ((z0c Bool.false (13:Int)).1,()))else some ((z0c Bool.false (13:Int)).1,()))
def zV(s:List UInt8):(Int×Unit):=
  (bif !s==[(99:UInt8),108,111,115,101]then (bif !s==[(111:UInt8),112,101,110]then ((z0c (!s==[(119:UInt8),97,105,116]) (13:Int)).1,())else ((z0c Bool.false (13:Int)).1,()))else ((z0c Bool.false (13:Int)).1,()))
abbrev zV_M (s:List UInt8):Option (Int×Unit):=some (zV s)
abbrev zV_e:Entry:={ f:=186,args:=.pair t9 .unit,rS:=.pair t29 .unit,m:=λ x=>zV_M x.1 }
theorem yQL:FnOK Tryz.prog zV_e:=fF (hm:=by intro x;show some (zV x.1)=zV_m 0 x.1;unfold zV_m zV;first|rfl|(simp only[yF];done)|(simp only[yF];rfl)) 0 Tryz.f186 (λ n x=>zV_m n x.1) [] (yC y3Z eNil)
abbrev yNI:Ty:=.pair t60 .unit
abbrev yOJ:Ty:=.pair t41 .unit
def yOO:G:={ T:=T,E:=[],mU:=[3,26],fz:=[],on:=[26] }
def yPw:List (List Nat):=[[1,2,3,28,29,30],[2,3,42,43,44]]
def yPL(n:Nat):Ann:={ keep:=yPw,fuel:=n,inl:=[],deep:=0 }
def yE3(n:Nat)(r2:List (Q6)->Int->Int->Int->Int->Int->Int->Int->Int->Int->List UInt8->Int->Int->Int->Int->Int->Int->Int->Int->List UInt8->Int->List (List UInt8)->List (Q3)->List (Q6)->Option ((Q1)×Unit))(cz:List (Q6))(d8 d5 a7 aa ae b8 b9 bc bd:Int)(bf:List UInt8)(bg bh bi bj bl bm bn bp:Int)(bq:List UInt8)(br:Int)(cb:List (List UInt8))(cp:List (Q3))(cU:List (Q6)):Option ((Q1)×Unit):=
  (bif decide (d5 < d8)then ((idx cz d5).bind λ v3=>(bif decide (cU.length+(1:Nat)<=memMax)then r2 cz d8 (i64.wrap (d5+1)) a7 aa ae b8 b9 bc bd bf bg bh bi bj bl bm bn bp bq br cb cp (cU++[(v3.1,v3.2.1,())])else none))else some ((bh,(bi,bj,()),bl,bm,bn,bp,bq,br,cp,cb,cU,()),()))
def y7U(n k:Nat)(cz:List (Q6))(d8 d5 a7 aa ae b8 b9 bc bd:Int)(bf:List UInt8)(bg bh bi bj bl bm bn bp:Int)(bq:List UInt8)(br:Int)(cb:List (List UInt8))(cp:List (Q3))(cU:List (Q6)):Option ((Q1)×Unit):=
  iter (λ r y=>yE3 n (λ cz d8 d5 a7 aa ae b8 b9 bc bd bf bg bh bi bj bl bm bn bp bq br cb cp cU=>r ((cz,(d8,(d5,()))),(((a7,(aa,(ae,(b8,(b9,(bc,(bd,(bf,(bg,()))))))))),((bh,(bi,(bj,(bl,(bm,(bn,(bp,(bq,(br,(cb,())))))))))),(cp,(cU,())))),()))) y.1.1 y.1.2.1 y.1.2.2.1 y.2.1.1.1 y.2.1.1.2.1 y.2.1.1.2.2.1 y.2.1.1.2.2.2.1 y.2.1.1.2.2.2.2.1 y.2.1.1.2.2.2.2.2.1 y.2.1.1.2.2.2.2.2.2.1 y.2.1.1.2.2.2.2.2.2.2.1 y.2.1.1.2.2.2.2.2.2.2.2.1 y.2.1.2.1.1 y.2.1.2.1.2.1 y.2.1.2.1.2.2.1 y.2.1.2.1.2.2.2.1 y.2.1.2.1.2.2.2.2.1 y.2.1.2.1.2.2.2.2.2.1 y.2.1.2.1.2.2.2.2.2.2.1 y.2.1.2.1.2.2.2.2.2.2.2.1 y.2.1.2.1.2.2.2.2.2.2.2.2.1 y.2.1.2.1.2.2.2.2.2.2.2.2.2.1 y.2.1.2.2.1 y.2.1.2.2.2.1) k ((cz,(d8,(d5,()))),(((a7,(aa,(ae,(b8,(b9,(bc,(bd,(bf,(bg,()))))))))),((bh,(bi,(bj,(bl,(bm,(bn,(bp,(bq,(br,(cb,())))))))))),(cp,(cU,())))),()))
def yE7(n:Nat)(r0:Q1->List (Q3)->Int->Int->Int->Int->Int->Int->Int->Int->Int->List UInt8->Int->Int->Int->Int->Int->Int->Int->Int->List UInt8->Int->List (List UInt8)->List (Q3)->List (Q6)->Option ((Q1)×Unit))(cL:Q1)(cA:List (Q3))(d9 d6 af ah ai aj ak am aq:Int)(ar:List UInt8)(au aL aM aN aO aP aQ aR:Int)(aS:List UInt8)(aT:Int)(bX:List (List UInt8))(bz:List (Q3))(d3:List (Q6)):Option ((Q1)×Unit):=
  (bif decide (d6 < d9)then ((idx cA d6).bind λ v1=>(bif decide (bz.length+(1:Nat)<=memMax)then r0 cL cA d9 (i64.wrap (d6+1)) af ah ai aj ak am aq ar au aL aM aN aO aP aQ aR aS aT bX (bz++[v1]) d3 else none))else (y7U n n (cL.2.2.2.2.2.2.2.2.2.2.1) ((↑cL.2.2.2.2.2.2.2.2.2.2.1.length:Int)) ((0:Int)) (af) (ah) (ai) (aj) (ak) (am) (aq) (ar) (au) (aL) (aM) (aN) (aO) (aP) (aQ) (aR) (aS) (aT) (bX) (bz) (d3)))
def y7P(n k:Nat)(cL:Q1)(cA:List (Q3))(d9 d6 af ah ai aj ak am aq:Int)(ar:List UInt8)(au aL aM aN aO aP aQ aR:Int)(aS:List UInt8)(aT:Int)(bX:List (List UInt8))(bz:List (Q3))(d3:List (Q6)):Option ((Q1)×Unit):=
  iter (λ r y=>yE7 n (λ cL cA d9 d6 af ah ai aj ak am aq ar au aL aM aN aO aP aQ aR aS aT bX bz d3=>r ((cL,(cA,(d9,(d6,())))),(((af,(ah,(ai,(aj,(ak,(am,(aq,(ar,(au,()))))))))),((aL,(aM,(aN,(aO,(aP,(aQ,(aR,(aS,(aT,(bX,())))))))))),(bz,(d3,())))),()))) y.1.1 y.1.2.1 y.1.2.2.1 y.1.2.2.2.1 y.2.1.1.1 y.2.1.1.2.1 y.2.1.1.2.2.1 y.2.1.1.2.2.2.1 y.2.1.1.2.2.2.2.1 y.2.1.1.2.2.2.2.2.1 y.2.1.1.2.2.2.2.2.2.1 y.2.1.1.2.2.2.2.2.2.2.1 y.2.1.1.2.2.2.2.2.2.2.2.1 y.2.1.2.1.1 y.2.1.2.1.2.1 y.2.1.2.1.2.2.1 y.2.1.2.1.2.2.2.1 y.2.1.2.1.2.2.2.2.1 y.2.1.2.1.2.2.2.2.2.1 y.2.1.2.1.2.2.2.2.2.2.1 y.2.1.2.1.2.2.2.2.2.2.2.1 y.2.1.2.1.2.2.2.2.2.2.2.2.1 y.2.1.2.1.2.2.2.2.2.2.2.2.2.1 y.2.1.2.2.1 y.2.1.2.2.2.1) k ((cL,(cA,(d9,(d6,())))),(((af,(ah,(ai,(aj,(ak,(am,(aq,(ar,(au,()))))))))),((aL,(aM,(aN,(aO,(aP,(aQ,(aR,(aS,(aT,(bX,())))))))))),(bz,(d3,())))),()))
def yQi(n:Nat)(rp:Q1):Option ((Q1)×Unit):=
  (y7P n n (rp) (rp.2.2.2.2.2.2.2.2.1) ((↑rp.2.2.2.2.2.2.2.2.1.length:Int)) ((0:Int)) ((0:Int)) ((0:Int)) ((0:Int)) ((0:Int)) ((0:Int)) ((0:Int)) ((0:Int)) ([]) ((0:Int)) (rp.1) (rp.2.1.1) (rp.2.1.2.1) (rp.2.2.1) (rp.2.2.2.1) (rp.2.2.2.2.1) (rp.2.2.2.2.2.1) (rp.2.2.2.2.2.2.1) (rp.2.2.2.2.2.2.2.1) (rp.2.2.2.2.2.2.2.2.2.1) ([]) ([]))
theorem yOT(n:Nat)(x:yNI.den):runF yOO (yPL n) Tryz.f32 yNI yOJ x=yQi n x.1:=by kernel_rfl
def yHW(cz:List (Q6))(a7 aa ae b8 b9 bc bd:Int)(bf:List UInt8)(bg bh bi bj bl bm bn bp:Int)(bq:List UInt8)(br:Int)(cb:List (List UInt8))(cp:List (Q3))(d5:Int)(v3:Q6)(cU:List (Q6)):Option (((Q1)×Unit)⊕(List (Q6))):=
  (bif decide (cU.length+(1:Nat)<=memMax)then (some (Sum.inr (cU++[(v3.1,v3.2.1,())])))else none)
def yGw(cz:List (Q6))(a7 aa ae b8 b9 bc bd:Int)(bf:List UInt8)(bg bh bi bj bl bm bn bp:Int)(bq:List UInt8)(br:Int)(cb:List (List UInt8))(cp:List (Q3))(cU:List (Q6)):Option ((Q1)×Unit):=
  (some (((bh,(bi,bj,()),bl,bm,bn,bp,bq,br,cp,cb,cU,()),())))
theorem yD0(n:Nat)(hn:big<=n)(cz:List (Q6))(a7 aa ae b8 b9 bc bd:Int)(bf:List UInt8)(bg bh bi bj bl bm bn bp:Int)(bq:List UInt8)(br:Int)(cb:List (List UInt8))(cp:List (Q3))(cU:List (Q6))(hx:List.length (cz) < lenMax):LeF some (yd (λ ay cD ac=>yHW cz a7 aa ae b8 b9 bc bd bf bg bh bi bj bl bm bn bp bq br cb cp ay cD ac) (λ ac=>yGw cz a7 aa ae b8 b9 bc bd bf bg bh bi bj bl bm bn bp bq br cb cp ac) 0 (cz) cU) (y7U n n cz (List.length (cz):Int) 0 a7 aa ae b8 b9 bc bd bf bg bh bi bj bl bm bn bp bq br cb cp cU):=by
  refine y0D (f:=some) (W:=λ bY ay ac=>y7U n bY cz (List.length (cz):Int) ay a7 aa ae b8 b9 bc bd bf bg bh bi bj bl bm bn bp bq br cb cp ac) (λ bY ay ac=>?_) hx cU n (by unfold big at hn;unfold lenMax at hx;omega)
  show LeF _ _ (yE3 n (y7U n bY) cz (List.length (cz):Int) ay a7 aa ae b8 b9 bc bd bf bg bh bi bj bl bm bn bp bq br cb cp ac)
  exact y6 (yE λ v3=>(y6 (y8 rfl) yY)) (y1z (y8 rfl))
def yHa(cL:Q1)(cA:List (Q3))(af ah ai aj ak am aq:Int)(ar:List UInt8)(au aL aM aN aO aP aQ aR:Int)(aS:List UInt8)(aT:Int)(bX:List (List UInt8))(d3:List (Q6))(d6:Int)(v1:Q3)(bz:List (Q3)):Option (((Q1)×Unit)⊕(List (Q3))):=
  (bif decide (bz.length+(1:Nat)<=memMax)then (some (Sum.inr (bz++[v1])))else none)
def yIr(cL:Q1)(cA:List (Q3))(af ah ai aj ak am aq:Int)(ar:List UInt8)(au aL aM aN aO aP aQ aR:Int)(aS:List UInt8)(aT:Int)(bX:List (List UInt8))(d3:List (Q6))(bz:List (Q3)):Option ((Q1)×Unit):=
  (bif decide (List.length (cL.2.2.2.2.2.2.2.2.2.2.1) < lenMax)then yd (λ ay cD ac=>yHW (cL.2.2.2.2.2.2.2.2.2.2.1) (af) (ah) (ai) (aj) (ak) (am) (aq) (ar) (au) (aL) (aM) (aN) (aO) (aP) (aQ) (aR) (aS) (aT) (bX) (bz) ay cD ac) (λ ac=>yGw (cL.2.2.2.2.2.2.2.2.2.2.1) (af) (ah) (ai) (aj) (ak) (am) (aq) (ar) (au) (aL) (aM) (aN) (aO) (aP) (aQ) (aR) (aS) (aT) (bX) (bz) ac) 0 (cL.2.2.2.2.2.2.2.2.2.2.1) (d3)else none)
theorem yDO(n:Nat)(hn:big<=n)(cL:Q1)(cA:List (Q3))(af ah ai aj ak am aq:Int)(ar:List UInt8)(au aL aM aN aO aP aQ aR:Int)(aS:List UInt8)(aT:Int)(bX:List (List UInt8))(d3:List (Q6))(bz:List (Q3))(hx:List.length (cA) < lenMax):LeF some (yd (λ ay cD ac=>yHa cL cA af ah ai aj ak am aq ar au aL aM aN aO aP aQ aR aS aT bX d3 ay cD ac) (λ ac=>yIr cL cA af ah ai aj ak am aq ar au aL aM aN aO aP aQ aR aS aT bX d3 ac) 0 (cA) bz) (y7P n n cL cA (List.length (cA):Int) 0 af ah ai aj ak am aq ar au aL aM aN aO aP aQ aR aS aT bX bz d3):=by
  refine y0D (f:=some) (W:=λ bY ay ac=>y7P n bY cL cA (List.length (cA):Int) ay af ah ai aj ak am aq ar au aL aM aN aO aP aQ aR aS aT bX ac d3) (λ bY ay ac=>?_) hx bz n (by unfold big at hn;unfold lenMax at hx;omega)
  show LeF _ _ (yE7 n (y7P n bY) cL cA (List.length (cA):Int) ay af ah ai aj ak am aq ar au aL aM aN aO aP aQ aR aS aT bX ac d3)
  exact y6 (yE λ v1=>(y6 (y8 rfl) yY)) (y1z (y03 λ hx=>by apply yD0 n hn;exact hx))
def yKM(rp:Q1):Option ((Q1)×Unit):=
  (bif decide (List.length (rp.2.2.2.2.2.2.2.2.1) < lenMax)then yd (λ ay cD ac=>yHa (rp) (rp.2.2.2.2.2.2.2.2.1) ((0:Int)) ((0:Int)) ((0:Int)) ((0:Int)) ((0:Int)) ((0:Int)) ((0:Int)) ([]) ((0:Int)) (rp.1) (rp.2.1.1) (rp.2.1.2.1) (rp.2.2.1) (rp.2.2.2.1) (rp.2.2.2.2.1) (rp.2.2.2.2.2.1) (rp.2.2.2.2.2.2.1) (rp.2.2.2.2.2.2.2.1) (rp.2.2.2.2.2.2.2.2.2.1) ([]) ay cD ac) (λ ac=>yIr (rp) (rp.2.2.2.2.2.2.2.2.1) ((0:Int)) ((0:Int)) ((0:Int)) ((0:Int)) ((0:Int)) ((0:Int)) ((0:Int)) ([]) ((0:Int)) (rp.1) (rp.2.1.1) (rp.2.1.2.1) (rp.2.2.1) (rp.2.2.2.1) (rp.2.2.2.2.1) (rp.2.2.2.2.2.1) (rp.2.2.2.2.2.2.1) (rp.2.2.2.2.2.2.2.1) (rp.2.2.2.2.2.2.2.2.2.1) ([]) ac) 0 (rp.2.2.2.2.2.2.2.2.1) ([])else none)
def z07_e:Entry:={ f:=32,args:=yNI,rS:=yOJ,m:=λ x=>yKM x.1 }
theorem yNk:FnOK Tryz.prog z07_e:=yLH (g:=yOO) (fn:=Tryz.f32) eNil (λ _=>iNil) yOT λ n hn x=>(y03 λ hx=>by apply yDO n hn;exact hx)
def yMe(n:Nat)(r0:List UInt8->Int->Int->Int->Option (List UInt8×Unit))(bu:List UInt8)(dm bZ aw:Int):Option (List UInt8×Unit):=
  (bif decide (aw < bZ)then ((idx bu aw).bind λ v1=>r0 bu ((i64.wrap (i64.wrap ((317:Int) * dm)+i64.wrap (↑v1.toNat:Int))).tmod (9999877:Int)) bZ (i64.wrap (aw+1)))else ((yCP dm).bind λ v2=>((yAi [(48:UInt8)] (i64.wrap ((7:Int) - (↑v2.1.length:Int)))).bind λ v3=>(bif decide (v3.1.length+v2.1.length < strMax)then some (v3.1++v2.1,())else none))))
def yNP(n k:Nat)(bu:List UInt8)(dm bZ aw:Int):Option (List UInt8×Unit):=
  iter (λ r y=>yMe n (λ bu dm bZ aw=>r ((bu,(dm,(bZ,(aw,())))),((),()))) y.1.1 y.1.2.1 y.1.2.2.1 y.1.2.2.2.1) k ((bu,(dm,(bZ,(aw,())))),((),()))
def zx_m(n:Nat)(s:List UInt8):Option (List UInt8×Unit):=
  (yNP n n (s) ((1:Int)) ((↑s.length:Int)) ((0:Int)))
def zx_M(s:List UInt8):Option (List UInt8×Unit):=zx_m 1000 s
abbrev zx_e:Entry:={ f:=123,args:=.pair t9 .unit,rS:=.pair t9 .unit,m:=λ x=>zx_M x.1 }
theorem yNr:FnOK Tryz.prog zx_e:=fF 1000 Tryz.f123 (λ n x=>zx_m n x.1) [[0,3,7,8]] (yC y9I (yC yOG eNil))
end
end Go.Tw
end
