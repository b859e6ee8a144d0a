import Derived.Test.YtemgjgkbgkeknaaGreatDoorBT
import Derived.Test.YtemgjgkbgkeknaaGreatDoorB0
import Derived.Test.YtemgjgkbgkeknaaGreatDoorSB
import Derived.Test.YtemgjgkbgkeknaaGreatDoorLZ
set_option linter.all false
open Go.IntKind (i64)
section
set_option maxRecDepth 1000000
namespace Go.Tw
open Go.Vx Go.Vx.B Go.Proofs
noncomputable section
def yEy(n:Nat)(r0:List (Q2)->Int->Option (Bool×Unit))(r11:List (Q2)->Int->Int->Option (Bool×Unit))(cr:List (Q2))(cu d4:Int):Option (Bool×Unit):=
  ((idx cr cu).bind λ v12=>(bif decide (d4 < (↑v12.2.2.1.length:Int))then ((idx cr cu).bind λ v13=>((idx v13.2.2.1 d4).bind λ v14=>(bif decide ((↑v14.length:Int) > 40)then some (Bool.false,())else r11 cr cu (i64.wrap (d4+1)))))else r0 cr (i64.wrap (cu+1))))
def y7I(n:Nat)(r0:List (Q2)->Int->Option (Bool×Unit))(k:Nat)(cr:List (Q2))(cu d4:Int):Option (Bool×Unit):=
  iter (λ r y=>yEy n r0 (λ cr cu d4=>r ((cr,(cu,(d4,()))),((),()))) y.1.1 y.1.2.1 y.1.2.2.1) k ((cr,(cu,(d4,()))),((),()))
def yGt(n:Nat)(r0:List (Q2)->Int->Option (Bool×Unit))(bL:List (Q2))(bH:Int):Option (Bool×Unit):=
  (bif decide (bH < (↑bL.length:Int))then ((idx bL bH).bind λ v1=>(bif decide ((↑v1.2.1.length:Int) > 40)then some (Bool.false,())else ((idx bL bH).bind λ v2=>(bif decide ((↑v2.2.2.1.length:Int) > 6)then some (Bool.false,())else ((idx bL bH).bind λ v3=>(bif decide ((↑v3.2.2.2.1.length:Int) > 8)then some (Bool.false,())else ((idx bL bH).bind λ v4=>(bif decide ((↑v4.2.2.2.2.1.length:Int) > 200)then some (Bool.false,())else (y7I n r0 n (bL) (bH) ((0:Int)))))))))))else some (Bool.true,()))
def yB7(n k:Nat)(bL:List (Q2))(bH:Int):Option (Bool×Unit):=
  iter (λ r y=>yGt n (λ bL bH=>r ((bL,(bH,())),((),()))) y.1.1 y.1.2.1) k ((bL,(bH,())),((),()))
def zq_m(n:Nat)(l:List (Q2))(np:Int):Option (Bool×Unit):=
  (bif decide ((↑l.length:Int) > np)then some (Bool.false,())else (yB7 n n (l) ((0:Int))))
def yEb(cr:List (Q2))(cu:Int)(v12:Q2)(d4:Int):Option (((Bool×Unit)⊕Unit)⊕Unit):=
  ((idx cr cu).bind λ v13=>((idx v13.2.2.1 d4).bind λ v14=>(bif decide ((↑v14.length:Int) > 40)then (some (Sum.inl (Sum.inl ((Bool.false,())))))else (some (Sum.inr ())))))
def yIP(cr:List (Q2))(cu:Int)(v12:Q2):Option ((Bool×Unit)⊕Unit):=
  (some (Sum.inr ()))
theorem yD1(n:Nat)(hn:big<=n)(r0:List (Q2)->Int->Option (Bool×Unit))(cr:List (Q2))(cu:Int)(v12:Q2)(h0__:(idx cr cu)=some v12)(hx:((↑v12.2.2.1.length:Int))<=9223372036854775807):LeF (elim some λ (ac:Unit)=>r0 cr (i64.wrap (cu+1))) (y2t (λ ay ac=>yEb cr cu v12 ay) (λ ac=>yIP cr cu v12) (((↑v12.2.2.1.length:Int)) - 0).toNat 0 ()) (y7I n r0 n cr cu 0):=by
  refine y4f (f:=(elim some λ (ac:Unit)=>r0 cr (i64.wrap (cu+1)))) (W:=λ bY ay ac=>y7I n r0 bY cr cu ay) (body:=(λ ay ac=>yEb cr cu v12 ay)) (fin:=(λ ac=>yIP cr cu v12)) (λ bY ay ac=>?_) hx () n 0 (by decide) (by unfold big at hn;omega)
  show LeF _ _ (yEy n r0 (y7I n r0 bY) cr cu ay)
  exact leAt h0__ (y7 (yI λ v13=>(yI λ v14=>(y7 (y9 rfl) (y9 rfl)))) (y1l (y9 rfl)))
def yFn(bL:List (Q2))(bH:Int)(v1:Q2):Option ((Bool×Unit)⊕Unit):=
  (bif decide ((↑v1.2.1.length:Int) > 40)then (some (Sum.inl ((Bool.false,()))))else ((idx bL bH).bind λ v2=>(bif decide ((↑v2.2.2.1.length:Int) > 6)then (some (Sum.inl ((Bool.false,()))))else ((idx bL bH).bind λ v3=>(bif decide ((↑v3.2.2.2.1.length:Int) > 8)then (some (Sum.inl ((Bool.false,()))))else ((idx bL bH).bind λ v4=>(bif decide ((↑v4.2.2.2.2.1.length:Int) > 200)then (some (Sum.inl ((Bool.false,()))))else ((idx bL bH).bind λ v12=>(bif decide (((↑v12.2.2.1.length:Int))<=9223372036854775807)then y2t (λ ay ac=>yEb (bL) (bH) v12 ay) (λ ac=>yIP (bL) (bH) v12) (((↑v12.2.2.1.length:Int)) - 0).toNat 0 ()else none)))))))))
def yO9(bL:List (Q2)):Option (Bool×Unit):=
  (some ((Bool.true,())))
theorem yGg(n:Nat)(hn:big<=n)(bL:List (Q2))(hx:List.length (bL) < yD):LeF some (yd (λ ay cD ac=>yFn bL ay cD) (λ ac=>yO9 bL) 0 (bL) ()) (yB7 n n bL 0):=by
  refine y04 (f:=some) (W:=λ bY ay ac=>yB7 n bY bL ay) (λ bY ay ac=>?_) hx () n (by unfold big at hn;unfold yD at hx;omega)
  show LeF _ _ (yGt n (yB7 n bY) bL ay)
  exact y7 (yI λ v1=>(y7 (y9 rfl) (yI λ v2=>(y7 (y9 rfl) (yI λ v3=>(y7 (y9 rfl) (yI λ v4=>(y7 (y9 rfl) (yNb λ v12 h0__=>(yy λ hx=>by apply yD1 n hn;exact h0__;exact hx)))))))))) (y1l (y9 rfl))
def zq_M(l:List (Q2))(np:Int):Option (Bool×Unit):=
  (bif decide ((↑l.length:Int) > np)then (some ((Bool.false,())))else (bif decide (List.length (l) < yD)then yd (λ ay cD ac=>yFn (l) ay cD) (λ ac=>yO9 (l)) 0 (l) ()else none))
abbrev zq_e:Entry:={ f:=14,args:=.pair t22 (.pair t3 .unit),rS:=.pair t4 .unit,m:=λ x=>zq_M x.1 x.2.1 }
theorem yQV:FnOK Tryz.prog zq_e:=fB Tryz.f14 (λ n x=>zq_m n x.1 x.2.1) [[0,5],[0,5,6]] eNil λ n hn x=>(y7 (y9 rfl) (yy λ hx=>by apply yGg n hn;exact hx))
def y4Q(n:Nat)(r2:List UInt8->Int->Option (Bool×Unit))(cd:List UInt8)(cB:Int)(v3:UInt8):Option (Bool×Unit):=
  (bif cB==0 then some (Bool.false,())else (bif (↑v3.toNat:Int) != 95 then (bif decide ((↑v3.toNat:Int) < 48)then some (Bool.false,())else (bif decide ((↑v3.toNat:Int) > 57)then some (Bool.false,())else r2 cd (i64.wrap (cB+1))))else r2 cd (i64.wrap (cB+1))))
def yFC(n:Nat)(r2:List UInt8->Int->Option (Bool×Unit))(cd:List UInt8)(cB:Int):Option (Bool×Unit):=
  (bif decide (cB < (↑cd.length:Int))then ((idx cd cB).bind λ v3=>(bif decide ((↑v3.toNat:Int) >= 97)then (bif decide ((↑v3.toNat:Int)<=122)then r2 cd (i64.wrap (cB+1))else (bif decide ((↑v3.toNat:Int) >= 65)then (bif decide ((↑v3.toNat:Int)<=90)then r2 cd (i64.wrap (cB+1))else (y4Q n r2 cd cB v3))else (y4Q n r2 cd cB v3)))else (bif decide ((↑v3.toNat:Int) >= 65)then (bif decide ((↑v3.toNat:Int)<=90)then r2 cd (i64.wrap (cB+1))else (y4Q n r2 cd cB v3))else (y4Q n r2 cd cB v3))))else some (Bool.true,()))
def y7P(n k:Nat)(cd:List UInt8)(cB:Int):Option (Bool×Unit):=
  iter (λ r y=>yFC n (λ cd cB=>r ((cd,(cB,())),((),()))) y.1.1 y.1.2.1) k ((cd,(cB,())),((),()))
def yQt(n:Nat)(s:List UInt8):Option (Bool×Unit):=
  (bif (↑s.length:Int)==0 then some (Bool.false,())else (bif decide ((↑s.length:Int) > 24)then some (Bool.false,())else (y7P n n (s) ((0:Int)))))
def y6A(cd:List UInt8)(cB:Int)(v3:UInt8):Option ((Bool×Unit)⊕Unit):=
  (bif cB==0 then (some (Sum.inl ((Bool.false,()))))else (bif (↑v3.toNat:Int) != 95 then (bif decide ((↑v3.toNat:Int) < 48)then (some (Sum.inl ((Bool.false,()))))else (bif decide ((↑v3.toNat:Int) > 57)then (some (Sum.inl ((Bool.false,()))))else (some (Sum.inr ()))))else (some (Sum.inr ()))))
theorem y0c(n:Nat)(hn:big<=n)(r2:List UInt8->Int->Option (Bool×Unit))(cd:List UInt8)(cB:Int)(v3:UInt8):LeF (elim some λ (ac:Unit)=>r2 cd (i64.wrap (cB+1))) (y6A cd cB v3) (y4Q n r2 cd cB v3):=
  (y7 (y9 rfl) (y7 (y7 (y9 rfl) (y7 (y9 rfl) (y9 rfl))) (y9 rfl)))
def yCl(cd:List UInt8)(cB:Int)(v3:UInt8):Option ((Bool×Unit)⊕Unit):=
  (bif decide ((↑v3.toNat:Int) >= 97)then (bif decide ((↑v3.toNat:Int)<=122)then (some (Sum.inr ()))else (bif decide ((↑v3.toNat:Int) >= 65)then (bif decide ((↑v3.toNat:Int)<=90)then (some (Sum.inr ()))else (y6A cd cB v3))else (y6A cd cB v3)))else (bif decide ((↑v3.toNat:Int) >= 65)then (bif decide ((↑v3.toNat:Int)<=90)then (some (Sum.inr ()))else (y6A cd cB v3))else (y6A cd cB v3)))
def yHr(cd:List UInt8):Option (Bool×Unit):=
  (some ((Bool.true,())))
theorem yD2(n:Nat)(hn:big<=n)(cd:List UInt8)(hx:List.length (cd) < yD):LeF some (yd (λ ay cD ac=>yCl cd ay cD) (λ ac=>yHr cd) 0 (cd) ()) (y7P n n cd 0):=by
  refine y04 (f:=some) (W:=λ bY ay ac=>y7P n bY cd ay) (λ bY ay ac=>?_) hx () n (by unfold big at hn;unfold yD at hx;omega)
  show LeF _ _ (yFC n (y7P n bY) cd ay)
  exact y7 (yI λ v3=>(y7 (y7 (y9 rfl) (y7 (y7 (y9 rfl) (by apply y0c n hn)) (by apply y0c n hn))) (y7 (y7 (y9 rfl) (by apply y0c n hn)) (by apply y0c n hn)))) (y1l (y9 rfl))
def yJb(s:List UInt8):Option (Bool×Unit):=
  (bif (↑s.length:Int)==0 then (some ((Bool.false,())))else (bif decide ((↑s.length:Int) > 24)then (some ((Bool.false,())))else (bif decide (List.length (s) < yD)then yd (λ ay cD ac=>yCl (s) ay cD) (λ ac=>yHr (s)) 0 (s) ()else none)))
abbrev z0O_e:Entry:={ f:=55,args:=.pair t9 .unit,rS:=.pair t4 .unit,m:=λ x=>yJb x.1 }
theorem yOU:FnOK Tryz.prog z0O_e:=fB Tryz.f55 (λ n x=>yQt n x.1) [[0,3]] eNil λ n hn x=>(y7 (y9 rfl) (y7 (y9 rfl) (yy λ hx=>by apply yD2 n hn;exact hx)))
def y5h(n:Nat)(rp:Q1):Option (List UInt8×Unit):=
  (bif rp.2.2.2.2.2.2.1==[(99:UInt8),108,111,115,101]then (bif decide (rp.2.2.2.2.1<=rp.2.1.2.1)then (bif decide (rp.2.2.2.2.1<=rp.2.2.2.2.2.1)then some ([(111:UInt8),112,101,110],())else some ([(119:UInt8),97,105,116],()))else some ([(119:UInt8),97,105,116],()))else some ([(119:UInt8),97,105,116],()))
def yNQ(n:Nat)(rp:Q1):Option (List UInt8×Unit):=
  (bif rp.2.2.2.2.2.2.1==[(111:UInt8),112,101,110]then (bif decide (rp.2.1.1 > 0)then (bif decide (rp.2.2.2.1 >= rp.2.1.1)then some ([(99:UInt8),108,111,115,101],())else (y5h n rp))else (y5h n rp))else (y5h n rp))
def y0H(rp:Q1):(List UInt8×Unit):=
  (bif rp.2.2.2.2.2.2.1==[(99:UInt8),108,111,115,101]then (bif decide (rp.2.2.2.2.1<=rp.2.1.2.1)then (bif decide (rp.2.2.2.2.1<=rp.2.2.2.2.2.1)then ([(111:UInt8),112,101,110],())else ([(119:UInt8),97,105,116],()))else ([(119:UInt8),97,105,116],()))else ([(119:UInt8),97,105,116],()))
def z0P(rp:Q1):(List UInt8×Unit):=
  (bif rp.2.2.2.2.2.2.1==[(111:UInt8),112,101,110]then (bif decide (rp.2.1.1 > 0)then (bif decide (rp.2.2.2.1 >= rp.2.1.1)then ([(99:UInt8),108,111,115,101],())else (y0H rp))else (y0H rp))else (y0H rp))
abbrev yRI (rp:Q1):Option (List UInt8×Unit):=some (z0P rp)
abbrev z0P_e:Entry:={ f:=56,args:=.pair t41 .unit,rS:=.pair t9 .unit,m:=λ x=>yRI x.1 }
theorem yOW:FnOK Tryz.prog z0P_e:=fF (hm:=by intro x;show some (z0P x.1)=yNQ 0 x.1;unfold yNQ z0P y5h y0H;first|rfl|(simp only[yG];done)|(simp only[yG];rfl)) 0 Tryz.f56 (λ n x=>yNQ n x.1) [] eNil
def yEu(n:Nat)(r0:List Int->Int->Int->Option (Int×Unit))(cK:List Int)(df bZ:Int):Option (Int×Unit):=
  (bif decide (bZ < df)then ((idx cK bZ).bind λ v1=>(bif v1 != 0 then some (v1,())else r0 cK df (i64.wrap (bZ+1))))else some ((0:Int),()))
def y7D(n k:Nat)(cK:List Int)(df bZ:Int):Option (Int×Unit):=
  iter (λ r y=>yEu n (λ cK df bZ=>r ((cK,(df,(bZ,()))),((),()))) y.1.1 y.1.2.1 y.1.2.2.1) k ((cK,(df,(bZ,()))),((),()))
def yQm(n:Nat)(l:List Int):Option (Int×Unit):=
  (y7D n n (l) ((↑l.length:Int)) ((0:Int)))
def yHj(cK:List Int)(bZ v1:Int):Option ((Int×Unit)⊕Unit):=
  (bif v1 != 0 then (some (Sum.inl ((v1,()))))else (some (Sum.inr ())))
def yHc(cK:List Int):Option (Int×Unit):=
  (some (((0:Int),())))
theorem yDt(n:Nat)(hn:big<=n)(cK:List Int)(hx:List.length (cK) < yD):LeF some (yd (λ ay cD ac=>yHj cK ay cD) (λ ac=>yHc cK) 0 (cK) ()) (y7D n n cK (List.length (cK):Int) 0):=by
  refine y04 (f:=some) (W:=λ bY ay ac=>y7D n bY cK (List.length (cK):Int) ay) (λ bY ay ac=>?_) hx () n (by unfold big at hn;unfold yD at hx;omega)
  show LeF _ _ (yEu n (y7D n bY) cK (List.length (cK):Int) ay)
  exact y7 (yI λ v1=>(y7 (y9 rfl) (y9 rfl))) (y1l (y9 rfl))
def y1K(l:List Int):Option (Int×Unit):=
  (bif decide (List.length (l) < yD)then yd (λ ay cD ac=>yHj (l) ay cD) (λ ac=>yHc (l)) 0 (l) ()else none)
abbrev z0I_e:Entry:={ f:=63,args:=.pair t185 .unit,rS:=.pair t29 .unit,m:=λ x=>y1K x.1 }
theorem y7X:FnOK Tryz.prog z0I_e:=fB Tryz.f63 (λ n x=>yQm n x.1) [[5,6,7]] eNil λ n hn x=>(yy λ hx=>by apply yDt n hn;exact hx)
def yNI(n:Nat)(holds:Bool)(e:Int):Option (Int×Unit):=
  (bif holds then some (e,())else some ((0:Int),()))
def z0b(holds:Bool)(e:Int):(Int×Unit):=
  (bif holds then (e,())else ((0:Int),()))
abbrev yR0 (holds:Bool)(e:Int):Option (Int×Unit):=some (z0b holds e)
abbrev z0b_e:Entry:={ f:=65,args:=.pair t4 (.pair t29 .unit),rS:=.pair t29 .unit,m:=λ x=>yR0 x.1 x.2.1 }
theorem y4C:FnOK Tryz.prog z0b_e:=fF (hm:=by intro x;show some (z0b x.1 x.2.1)=yNI 0 x.1 x.2.1;unfold yNI z0b;first|rfl|(simp only[yG];done)|(simp only[yG];rfl)) 0 Tryz.f65 (λ n x=>yNI n x.1 x.2.1) [] eNil
def yMY(n:Nat)(e:Q2):Option (Bool×Unit):=
  (bif e.2.1==[(100:UInt8),101,99,105,100,101]then some (Bool.true,())else some (e.2.1==[(111:UInt8),118,101,114,114,105,100,101],()))
def z03(e:Q2):(Bool×Unit):=
  (bif e.2.1==[(100:UInt8),101,99,105,100,101]then (Bool.true,())else (e.2.1==[(111:UInt8),118,101,114,114,105,100,101],()))
abbrev yQd (e:Q2):Option (Bool×Unit):=some (z03 e)
abbrev z03_e:Entry:={ f:=66,args:=.pair t56 .unit,rS:=.pair t4 .unit,m:=λ x=>yQd x.1 }
theorem yPH:FnOK Tryz.prog z03_e:=fF (hm:=by intro x;show some (z03 x.1)=yMY 0 x.1;unfold yMY z03;first|rfl|(simp only[yG];done)|(simp only[yG];rfl)) 0 Tryz.f66 (λ n x=>yMY n x.1) [] eNil
def y7F(n:Nat)(rp:Q1)(j0:Bool):Option (List UInt8×Unit):=
  (bif j0 then some ([(99:UInt8),108,111,115,101],())else (bif rp.2.2.2.2.2.2.1==[(99:UInt8),108,111,115,101]then (bif decide (rp.2.2.2.2.1<=rp.2.1.2.1)then (bif decide (rp.2.2.2.2.1<=rp.2.2.2.2.2.1)then some ([(111:UInt8),112,101,110],())else some ([(119:UInt8),97,105,116],()))else some ([(119:UInt8),97,105,116],()))else some ([(119:UInt8),97,105,116],())))
def zM_m(n:Nat)(rp:Q1):Option (List UInt8×Unit):=
  (bif rp.2.2.2.2.2.2.1==[(111:UInt8),112,101,110]then (bif decide (rp.2.1.1 > 0)then (y7F n rp (decide (rp.2.2.2.1 >= rp.2.1.1)))else (y7F n rp (Bool.false)))else (y7F n rp (Bool.false)))
def ye(rp:Q1)(j0:Bool):(List UInt8×Unit):=
  (bif j0 then ([(99:UInt8),108,111,115,101],())else (bif rp.2.2.2.2.2.2.1==[(99:UInt8),108,111,115,101]then (bif decide (rp.2.2.2.2.1<=rp.2.1.2.1)then (bif decide (rp.2.2.2.2.1<=rp.2.2.2.2.2.1)then ([(111:UInt8),112,101,110],())else ([(119:UInt8),97,105,116],()))else ([(119:UInt8),97,105,116],()))else ([(119:UInt8),97,105,116],())))
def zM(rp:Q1):(List UInt8×Unit):=
  (bif rp.2.2.2.2.2.2.1==[(111:UInt8),112,101,110]then (bif decide (rp.2.1.1 > 0)then (ye rp (decide (rp.2.2.2.1 >= rp.2.1.1)))else (ye rp (Bool.false)))else (ye rp (Bool.false)))
abbrev zM_M (rp:Q1):Option (List UInt8×Unit):=some (zM rp)
abbrev zM_e:Entry:={ f:=67,args:=.pair t60 .unit,rS:=.pair t9 .unit,m:=λ x=>zM_M x.1 }
theorem yMy:FnOK Tryz.prog zM_e:=fF (hm:=by intro x;show some (zM x.1)=zM_m 0 x.1;unfold zM_m zM y7F ye;first|rfl|(simp only[yG];done)|(simp only[yG];rfl)) 0 Tryz.f67 (λ n x=>zM_m n x.1) [] eNil
def yMM(n:Nat)(np low high:Int):Option (Bool×Unit):=
  (bif decide (np < low)then some (Bool.true,())else some (decide (np > high),()))
def z0F(np low high:Int):(Bool×Unit):=
  (bif decide (np < low)then (Bool.true,())else (decide (np > high),()))
abbrev yQN (np low high:Int):Option (Bool×Unit):=some (z0F np low high)
abbrev z0F_e:Entry:={ f:=72,args:=.pair t3 (.pair t3 (.pair t3 .unit)),rS:=.pair t4 .unit,m:=λ x=>yQN x.1 x.2.1 x.2.2.1 }
theorem yLj:FnOK Tryz.prog z0F_e:=fF (hm:=by intro x;show some (z0F x.1 x.2.1 x.2.2.1)=yMM 0 x.1 x.2.1 x.2.2.1;unfold yMM z0F;first|rfl|(simp only[yG];done)|(simp only[yG];rfl)) 0 Tryz.f72 (λ n x=>yMM n x.1 x.2.1 x.2.2.1) [] eNil
abbrev yMK:Ty:=.unit
abbrev yPb:Ty:=.pair t41 .unit
def yQ2:G:={ T:=T,E:=[],mU:=[],fz:=[] }
def yRC:List (List Nat):=[]
def yLy(n:Nat):Ann:={ keep:=yRC,fuel:=n,inl:=[],deep:=0 }
def yKk(n:Nat)  : Option ((Q1)×Unit):=
  some (((0:Int),((0:Int),(0:Int),()),(0:Int),(0:Int),(0:Int),(0:Int),[(111:UInt8),112,101,110],(0:Int),[],[],[],()),())
theorem yPz(n:Nat)(x:yMK.den):runF yQ2 (yLy n) Tryz.f73 yMK yPb x=yKk n:=by kernel_rfl
def z0d  : ((Q1)×Unit):=
  (((0:Int),((0:Int),(0:Int),()),(0:Int),(0:Int),(0:Int),(0:Int),[(111:UInt8),112,101,110],(0:Int),[],[],[],()),())
abbrev yPa  : Option ((Q1)×Unit):=some (z0d)
theorem yN3(y:(Q1)×Unit)(h:yPa=some y):∃ n,yKk n=some y:=
  ⟨0,by rw[<- h];show yKk 0=some (z0d);unfold yKk z0d;first|rfl|(simp only[yG];done)|(simp only[yG];rfl)⟩
def z0d_e:Entry:={ f:=73,args:=yMK,rS:=yPb,m:=λ x=>yPa }
theorem yPn:FnOK Tryz.prog z0d_e:=yE8 (g:=yQ2) (fn:=Tryz.f73) y1f y72 eNil (by kernel_rfl) (by kernel_rfl) (by kernel_rfl) (λ x y h=>let ⟨n,hn⟩:=yN3 y h;⟨yLy n,iNil,(yPz n x).trans hn⟩)
def yMu(n:Nat)(rp:Q1)(decision:List UInt8):Option ((Q1)×Unit):=
  (bif decision==[(99:UInt8),108,111,115,101]then (bif !rp.2.2.2.2.2.2.1==[(99:UInt8),108,111,115,101]then (bif !decision==[(119:UInt8),97,105,116]then some ((rp.1,rp.2.1,rp.2.2.1,rp.2.2.2.1,rp.2.2.2.2.1,rp.2.2.2.2.2.1,decision,i64.wrap (rp.2.2.2.2.2.2.2.1+1),rp.2.2.2.2.2.2.2.2),())else some ((rp.1,rp.2.1,rp.2.2.1,rp.2.2.2.1,rp.2.2.2.2.1,rp.2.2.2.2.2.1,rp.2.2.2.2.2.2.1,i64.wrap (rp.2.2.2.2.2.2.2.1+1),rp.2.2.2.2.2.2.2.2),()))else (bif !decision==[(119:UInt8),97,105,116]then some ((rp.1,rp.2.1,rp.2.2.1,rp.2.2.2.1,rp.2.2.2.2.1,rp.2.2.2.2.2.1,decision,rp.2.2.2.2.2.2.2),())else some (rp,())))else (bif !decision==[(119:UInt8),97,105,116]then some ((rp.1,rp.2.1,rp.2.2.1,rp.2.2.2.1,rp.2.2.2.2.1,rp.2.2.2.2.2.1,decision,rp.2.2.2.2.2.2.2),())else some (rp,())))
def z0G(rp:Q1)(decision:List UInt8):((Q1)×Unit):=
  (bif decision==[(99:UInt8),108,111,115,101]then (bif !rp.2.2.2.2.2.2.1==[(99:UInt8),108,111,115,101]then (bif !decision==[(119:UInt8),97,105,116]then ((rp.1,rp.2.1,rp.2.2.1,rp.2.2.2.1,rp.2.2.2.2.1,rp.2.2.2.2.2.1,decision,i64.wrap (rp.2.2.2.2.2.2.2.1+1),rp.2.2.2.2.2.2.2.2),())else ((rp.1,rp.2.1,rp.2.2.1,rp.2.2.2.1,rp.2.2.2.2.1,rp.2.2.2.2.2.1,rp.2.2.2.2.2.2.1,i64.wrap (rp.2.2.2.2.2.2.2.1+1),rp.2.2.2.2.2.2.2.2),()))else (bif !decision==[(119:UInt8),97,105,116]then ((rp.1,rp.2.1,rp.2.2.1,rp.2.2.2.1,rp.2.2.2.2.1,rp.2.2.2.2.2.1,decision,rp.2.2.2.2.2.2.2),())else (rp,())))else (bif !decision==[(119:UInt8),97,105,116]then ((rp.1,rp.2.1,rp.2.2.1,rp.2.2.2.1,rp.2.2.2.2.1,rp.2.2.2.2.2.1,decision,rp.2.2.2.2.2.2.2),())else (rp,())))
abbrev yQk (rp:Q1)(decision:List UInt8):Option ((Q1)×Unit):=some (z0G rp decision)
abbrev z0G_e:Entry:={ f:=75,args:=.pair t41 (.pair t9 .unit),rS:=.pair t41 .unit,m:=λ x=>yQk x.1 x.2.1 }
theorem yPC:FnOK Tryz.prog z0G_e:=fF (mu:=[2]) (hm:=by intro x;show some (z0G x.1 x.2.1)=yMu 0 x.1 x.2.1;unfold yMu z0G;first|rfl|(simp only[yG];done)|(simp only[yG];rfl)) 0 Tryz.f75 (λ n x=>yMu n x.1 x.2.1) [] eNil
def yHW(n:Nat)(r0:List (List UInt8)->List (List UInt8)->Int->Option (Bool×Unit))(cO cY:List (List UInt8))(bH:Int):Option (Bool×Unit):=
  (bif decide (bH < (↑cO.length:Int))then ((idx cO bH).bind λ v1=>((idx cY bH).bind λ v2=>(bif !v1==v2 then some (Bool.false,())else r0 cO cY (i64.wrap (bH+1)))))else some (Bool.true,()))
def yB3(n k:Nat)(cO cY:List (List UInt8))(bH:Int):Option (Bool×Unit):=
  iter (λ r y=>yHW n (λ cO cY bH=>r ((cO,(cY,(bH,()))),((),()))) y.1.1 y.1.2.1 y.1.2.2.1) k ((cO,(cY,(bH,()))),((),()))
def zy_m(n:Nat)(a b:List (List UInt8)):Option (Bool×Unit):=
  (bif (↑a.length:Int) != (↑b.length:Int)then some (Bool.false,())else (yB3 n n (a) (b) ((0:Int))))
def yMJ(cO cY:List (List UInt8))(bH:Int)(v1:List UInt8):Option ((Bool×Unit)⊕Unit):=
  ((idx cY bH).bind λ v2=>(bif !v1==v2 then (some (Sum.inl ((Bool.false,()))))else (some (Sum.inr ()))))
def yPs(cO cY:List (List UInt8)):Option (Bool×Unit):=
  (some ((Bool.true,())))
theorem yG7(n:Nat)(hn:big<=n)(cO cY:List (List UInt8))(hx:List.length (cO) < yD):LeF some (yd (λ ay cD ac=>yMJ cO cY ay cD) (λ ac=>yPs cO cY) 0 (cO) ()) (yB3 n n cO cY 0):=by
  refine y04 (f:=some) (W:=λ bY ay ac=>yB3 n bY cO cY ay) (λ bY ay ac=>?_) hx () n (by unfold big at hn;unfold yD at hx;omega)
  show LeF _ _ (yHW n (yB3 n bY) cO cY ay)
  exact y7 (yI λ v1=>(yI λ v2=>(y7 (y9 rfl) (y9 rfl)))) (y1l (y9 rfl))
def zy_M(a b:List (List UInt8)):Option (Bool×Unit):=
  (bif (↑a.length:Int) != (↑b.length:Int)then (some ((Bool.false,())))else (bif decide (List.length (a) < yD)then yd (λ ay cD ac=>yMJ (a) (b) ay cD) (λ ac=>yPs (a) (b)) 0 (a) ()else none))
abbrev zy_e:Entry:={ f:=78,args:=.pair t38 (.pair t38 .unit),rS:=.pair t4 .unit,m:=λ x=>zy_M x.1 x.2.1 }
theorem yQn:FnOK Tryz.prog zy_e:=fB Tryz.f78 (λ n x=>zy_m n x.1 x.2.1) [[0,1,5]] eNil λ n hn x=>(y7 (y9 rfl) (yy λ hx=>by apply yG7 n hn;exact hx))
def yAb(n:Nat)(kind:List UInt8)(j1:Bool):Option ((Int×Int×Bool×Unit)×Unit):=
  (bif j1 then some (((0:Int),(3:Int),Bool.true,()),())else (bif kind==[(108:UInt8),101,118,101,108]then some (((1:Int),(2:Int),Bool.true,()),())else (bif kind==[(99:UInt8),111,109,109,97,110,100]then some (((2:Int),(2:Int),Bool.true,()),())else (bif kind==[(108:UInt8),111,99,107]then (bif kind==[(108:UInt8),111,99,107]then some (((2:Int),(1:Int),Bool.true,()),())else (bif kind==[(117:UInt8),110,100,111]then some (((0:Int),(0:Int),Bool.true,()),())else some (((0:Int),(0:Int),Bool.false,()),())))else (bif kind==[(117:UInt8),110,108,111,99,107]then some (((2:Int),(1:Int),Bool.true,()),())else (bif kind==[(117:UInt8),110,100,111]then some (((0:Int),(0:Int),Bool.true,()),())else some (((0:Int),(0:Int),Bool.false,()),())))))))
def y3J(n:Nat)(kind:List UInt8)(j0:Bool):Option ((Int×Int×Bool×Unit)×Unit):=
  (bif j0 then some (((1:Int),(1:Int),Bool.true,()),())else (bif kind==[(114:UInt8),117,108,101]then (yAb n kind (kind==[(114:UInt8),117,108,101]))else (yAb n kind (kind==[(102:UInt8),111,114,101,99,97,115,116]))))
def yN9(n:Nat)(kind:List UInt8):Option ((Int×Int×Bool×Unit)×Unit):=
  (bif kind==[(103:UInt8),97,116,101]then (y3J n kind (kind==[(103:UInt8),97,116,101]))else (bif kind==[(100:UInt8),101,99,105,100,101]then (y3J n kind (kind==[(100:UInt8),101,99,105,100,101]))else (bif kind==[(111:UInt8),118,101,114,114,105,100,101]then (y3J n kind (kind==[(111:UInt8),118,101,114,114,105,100,101]))else (bif kind==[(101:UInt8),110,116,101,114]then (y3J n kind (kind==[(101:UInt8),110,116,101,114]))else (bif kind==[(108:UInt8),101,97,118,101]then (y3J n kind (kind==[(108:UInt8),101,97,118,101]))else (y3J n kind (kind==[(105:UInt8),115,115,117,101])))))))
def y2C(kind:List UInt8)(j1:Bool):((Int×Int×Bool×Unit)×Unit):=
  (bif j1 then (((0:Int),(3:Int),Bool.true,()),())else (bif kind==[(108:UInt8),101,118,101,108]then (((1:Int),(2:Int),Bool.true,()),())else (bif kind==[(99:UInt8),111,109,109,97,110,100]then (((2:Int),(2:Int),Bool.true,()),())else (bif kind==[(108:UInt8),111,99,107]then (bif kind==[(108:UInt8),111,99,107]then (((2:Int),(1:Int),Bool.true,()),())else (bif kind==[(117:UInt8),110,100,111]then (((0:Int),(0:Int),Bool.true,()),())else (((0:Int),(0:Int),Bool.false,()),())))else (bif kind==[(117:UInt8),110,108,111,99,107]then (((2:Int),(1:Int),Bool.true,()),())else (bif kind==[(117:UInt8),110,100,111]then (((0:Int),(0:Int),Bool.true,()),())else (((0:Int),(0:Int),Bool.false,()),())))))))
def y0N(kind:List UInt8)(j0:Bool):((Int×Int×Bool×Unit)×Unit):=
  (bif j0 then (((1:Int),(1:Int),Bool.true,()),())else (bif kind==[(114:UInt8),117,108,101]then (y2C kind (kind==[(114:UInt8),117,108,101]))else (y2C kind (kind==[(102:UInt8),111,114,101,99,97,115,116]))))
def z0i(kind:List UInt8):((Int×Int×Bool×Unit)×Unit):=
  (bif kind==[(103:UInt8),97,116,101]then (y0N kind (kind==[(103:UInt8),97,116,101]))else (bif kind==[(100:UInt8),101,99,105,100,101]then (y0N kind (kind==[(100:UInt8),101,99,105,100,101]))else (bif kind==[(111:UInt8),118,101,114,114,105,100,101]then (y0N kind (kind==[(111:UInt8),118,101,114,114,105,100,101]))else (bif kind==[(101:UInt8),110,116,101,114]then (y0N kind (kind==[(101:UInt8),110,116,101,114]))else (bif kind==[(108:UInt8),101,97,118,101]then (y0N kind (kind==[(108:UInt8),101,97,118,101]))else (y0N kind (kind==[(105:UInt8),115,115,117,101])))))))
abbrev yQa (kind:List UInt8):Option ((Int×Int×Bool×Unit)×Unit):=some (z0i kind)
abbrev z0i_e:Entry:={ f:=83,args:=.pair t9 .unit,rS:=.pair t157 .unit,m:=λ x=>yQa x.1 }
theorem yOK:FnOK Tryz.prog z0i_e:=fF (hm:=by intro x;show some (z0i x.1)=yN9 0 x.1;unfold yN9 z0i y3J y0N yAb y2C;first|rfl|(simp only[yG];done)|(simp only[yG];rfl)) 0 Tryz.f83 (λ n x=>yN9 n x.1) [] eNil
def yMl(n:Nat)(r0:((Q2)×Unit->Option ((Q2)×Unit))->List (Q2)->Int->Int->List (Q2)->Option (List (Q2)×Unit))(bC:(Q2)×Unit->Option ((Q2)×Unit))(aw:List (Q2))(co aU:Int)(bw:List (Q2)):Option (List (Q2)×Unit):=
  (bif decide (aU < co)then ((idx aw aU).bind λ v1=>((bC (v1,())).bind λ v2=>(bif decide (bw.length+(1:Nat)<=memMax)then r0 bC aw co (i64.wrap (aU+1)) (bw++[v2.1])else none)))else some (bw,()))
def yMp(n k:Nat)(bC:(Q2)×Unit->Option ((Q2)×Unit))(aw:List (Q2))(co aU:Int)(bw:List (Q2)):Option (List (Q2)×Unit):=
  iter (λ r y=>yMl n (λ bC aw co aU bw=>r ((bC,(aw,(co,(aU,())))),((bw,()),()))) y.1.1 y.1.2.1 y.1.2.2.1 y.1.2.2.2.1 y.2.1.1) k ((bC,(aw,(co,(aU,())))),((bw,()),()))
def z8_m(n:Nat)(l:List (Q2))(f:(Q2)×Unit->Option ((Q2)×Unit)):Option (List (Q2)×Unit):=
  (yMp n n (f) (l) ((↑l.length:Int)) ((0:Int)) ([]))
def z8_M(l:List (Q2))(f:(Q2)×Unit->Option ((Q2)×Unit)):Option (List (Q2)×Unit):=z8_m 1000 l f
abbrev z8_e:Entry:={ f:=96,args:=.pair t22 (.pair t182 .unit),rS:=.pair t22 .unit,m:=λ x=>z8_M x.1 x.2.1 }
theorem yQS:FnOK Tryz.prog z8_e:=fF (mu:=[5]) 1000 Tryz.f96 (λ n x=>z8_m n x.1 x.2.1) [[1,5,8,9,10]] eNil
def yNw(n:Nat)(e:Q2):Option ((Q2)×Unit):=
  ((bif decide (e.2.2.1.length<=memMax)then some (e.2.2.1,())else Option.none).bind λ v0=>((bif decide (e.2.2.2.1.length<=memMax)then some (e.2.2.2.1,())else Option.none).bind λ v1=>some ((e.1,e.2.1,v0.1,v1.1,e.2.2.2.2.1,()),())))
def yFh(e:Q2):Option ((Q2)×Unit):=yNw 0 e
abbrev z0K_e:Entry:={ f:=97,args:=.pair t56 .unit,rS:=.pair t56 .unit,m:=λ x=>yFh x.1 }
theorem yM3:FnOK Tryz.prog z0K_e:=fF (mu:=[1]) 0 Tryz.f97 (λ n x=>yNw n x.1) [] (yE yMh (yE yQW eNil))
def yMR(n:Nat)(r0:((Q2)×Unit->Option (List UInt8×Unit))->List (Q2)->Int->Int->List (List UInt8)->Option (List (List UInt8)×Unit))(bC:(Q2)×Unit->Option (List UInt8×Unit))(aw:List (Q2))(co aU:Int)(bw:List (List UInt8)):Option (List (List UInt8)×Unit):=
  (bif decide (aU < co)then ((idx aw aU).bind λ v1=>((bC (v1,())).bind λ v2=>(bif decide (bw.length+(1:Nat)<=memMax)then r0 bC aw co (i64.wrap (aU+1)) (bw++[v2.1])else none)))else some (bw,()))
def yO1(n k:Nat)(bC:(Q2)×Unit->Option (List UInt8×Unit))(aw:List (Q2))(co aU:Int)(bw:List (List UInt8)):Option (List (List UInt8)×Unit):=
  iter (λ r y=>yMR n (λ bC aw co aU bw=>r ((bC,(aw,(co,(aU,())))),((bw,()),()))) y.1.1 y.1.2.1 y.1.2.2.1 y.1.2.2.2.1 y.2.1.1) k ((bC,(aw,(co,(aU,())))),((bw,()),()))
def zB_m(n:Nat)(l:List (Q2))(f:(Q2)×Unit->Option (List UInt8×Unit)):Option (List (List UInt8)×Unit):=
  (yO1 n n (f) (l) ((↑l.length:Int)) ((0:Int)) ([]))
def zB_M(l:List (Q2))(f:(Q2)×Unit->Option (List UInt8×Unit)):Option (List (List UInt8)×Unit):=zB_m 1000 l f
abbrev zB_e:Entry:={ f:=99,args:=.pair t22 (.pair t106 .unit),rS:=.pair t38 .unit,m:=λ x=>zB_M x.1 x.2.1 }
theorem yQj:FnOK Tryz.prog zB_e:=fF (mu:=[5]) 1000 Tryz.f99 (λ n x=>zB_m n x.1 x.2.1) [[1,5,8,9,10]] eNil
def yH6(n:Nat)(r0:(List UInt8×Unit->Option (Int×Unit))->List (List UInt8)->Int->Int->List Int->Option (List Int×Unit))(bC:List UInt8×Unit->Option (Int×Unit))(aw:List (List UInt8))(co aU:Int)(bw:List Int):Option (List Int×Unit):=
  (bif decide (aU < co)then ((idx aw aU).bind λ v1=>((bC (v1,())).bind λ v2=>(bif decide (bw.length+(1:Nat)<=memMax)then r0 bC aw co (i64.wrap (aU+1)) (bw++[v2.1])else none)))else some (bw,()))
def yAO(n k:Nat)(bC:List UInt8×Unit->Option (Int×Unit))(aw:List (List UInt8))(co aU:Int)(bw:List Int):Option (List Int×Unit):=
  iter (λ r y=>yH6 n (λ bC aw co aU bw=>r ((bC,(aw,(co,(aU,())))),((bw,()),()))) y.1.1 y.1.2.1 y.1.2.2.1 y.1.2.2.2.1 y.2.1.1) k ((bC,(aw,(co,(aU,())))),((bw,()),()))
def zC_m(n:Nat)(l:List (List UInt8))(f:List UInt8×Unit->Option (Int×Unit)):Option (List Int×Unit):=
  (yAO n n (f) (l) ((↑l.length:Int)) ((0:Int)) ([]))
def yNX(bC:List UInt8×Unit->Option (Int×Unit))(aw:List (List UInt8))(aU:Int)(v1:List UInt8)(bw:List Int):Option ((List Int×Unit)⊕(List Int)):=
  ((bC (v1,())).bind λ v2=>(bif decide (bw.length+(1:Nat)<=memMax)then (some (Sum.inr (bw++[v2.1])))else none))
def yPg(bC:List UInt8×Unit->Option (Int×Unit))(aw:List (List UInt8))(bw:List Int):Option (List Int×Unit):=
  (some ((bw,())))
theorem yGB(n:Nat)(hn:big<=n)(bC:List UInt8×Unit->Option (Int×Unit))(aw:List (List UInt8))(bw:List Int)(hx:List.length (aw) < yD):LeF some (yd (λ ay cD ac=>yNX bC aw ay cD ac) (λ ac=>yPg bC aw ac) 0 (aw) bw) (yAO n n bC aw (List.length (aw):Int) 0 bw):=by
  refine y04 (f:=some) (W:=λ bY ay ac=>yAO n bY bC aw (List.length (aw):Int) ay ac) (λ bY ay ac=>?_) hx bw n (by unfold big at hn;unfold yD at hx;omega)
  show LeF _ _ (yH6 n (yAO n bY) bC aw (List.length (aw):Int) ay ac)
  exact y7 (yI λ v1=>(yI λ v2=>(y7 (y9 rfl) y01))) (y1l (y9 rfl))
def zC_M(l:List (List UInt8))(f:List UInt8×Unit->Option (Int×Unit)):Option (List Int×Unit):=
  (bif decide (List.length (l) < yD)then yd (λ ay cD ac=>yNX (f) (l) ay cD ac) (λ ac=>yPg (f) (l) ac) 0 (l) ([])else none)
abbrev zC_e:Entry:={ f:=100,args:=.pair t38 (.pair t187 .unit),rS:=.pair t185 .unit,m:=λ x=>zC_M x.1 x.2.1 }
theorem yRD:FnOK Tryz.prog zC_e:=fB (mu:=[5]) Tryz.f100 (λ n x=>zC_m n x.1 x.2.1) [[1,5,8,9,10]] eNil λ n hn x=>(yy λ hx=>by apply yGB n hn;exact hx)
def y5H(n:Nat)(r0:List UInt8->List UInt8->Int->Option (Bool×Unit))(bu str0__0:List UInt8)(pos0__0:Int)(j2 j7:Bool):Option (Bool×Unit):=
  (bif !j2 then (bif pos0__0==0 then some (Bool.false,())else (bif !j7 then some (Bool.false,())else r0 bu str0__0 (yf str0__0 pos0__0).2))else r0 bu str0__0 (yf str0__0 pos0__0).2)
def y3B(n:Nat)(r0:List UInt8->List UInt8->Int->Option (Bool×Unit))(bu str0__0:List UInt8)(pos0__0:Int)(j2:Bool):Option (Bool×Unit):=
  (bif decide ((yf str0__0 pos0__0).1 >= 48)then (bif decide ((yf str0__0 pos0__0).1<=57)then (y5H n r0 bu str0__0 pos0__0 j2 (Bool.true))else (y5H n r0 bu str0__0 pos0__0 j2 ((yf str0__0 pos0__0).1==95)))else (y5H n r0 bu str0__0 pos0__0 j2 ((yf str0__0 pos0__0).1==95)))
def yEv(n:Nat)(r0:List UInt8->List UInt8->Int->Option (Bool×Unit))(bu str0__0:List UInt8)(pos0__0:Int):Option (Bool×Unit):=
  (bif decide (pos0__0 < (↑str0__0.length:Int))then (bif decide ((yf str0__0 pos0__0).1 >= 65)then (bif decide ((yf str0__0 pos0__0).1<=90)then (y3B n r0 bu str0__0 pos0__0 (Bool.true))else (bif decide ((yf str0__0 pos0__0).1 >= 97)then (y3B n r0 bu str0__0 pos0__0 (decide ((yf str0__0 pos0__0).1<=122)))else (y3B n r0 bu str0__0 pos0__0 (Bool.false))))else (bif decide ((yf str0__0 pos0__0).1 >= 97)then (y3B n r0 bu str0__0 pos0__0 (decide ((yf str0__0 pos0__0).1<=122)))else (y3B n r0 bu str0__0 pos0__0 (Bool.false))))else (bif !bu==[]then some (decide ((↑bu.length:Int)<=24),())else some (Bool.false,())))
def y7U(n k:Nat)(bu str0__0:List UInt8)(pos0__0:Int):Option (Bool×Unit):=
  iter (λ r y=>yEv n (λ bu str0__0 pos0__0=>r ((bu,()),(((str0__0,pos0__0),()),()))) y.1.1 y.2.1.1.1 y.2.1.1.2) k ((bu,()),(((str0__0,pos0__0),()),()))
def yQb(n:Nat)(s:List UInt8):Option (Bool×Unit):=
  (y7U n n (s) (s) ((0:Int)))
def y8E(bu str0__0:List UInt8)(pos0__0:Int)(j2 j7:Bool):Option ((Bool×Unit)⊕Unit):=
  (bif !j2 then (bif pos0__0==0 then (some (Sum.inl ((Bool.false,()))))else (bif !j7 then (some (Sum.inl ((Bool.false,()))))else (some (Sum.inr ()))))else (some (Sum.inr ())))
theorem y1C(n:Nat)(hn:big<=n)(r0:List UInt8->List UInt8->Int->Option (Bool×Unit))(bu str0__0:List UInt8)(pos0__0:Int)(j2 j7:Bool):LeF (elim some λ (ac:Unit)=>r0 bu str0__0 (yf (str0__0) pos0__0).2) (y8E bu str0__0 pos0__0 j2 j7) (y5H n r0 bu str0__0 pos0__0 j2 j7):=
  (y7 (y7 (y9 rfl) (y7 (y9 rfl) (y9 rfl))) (y9 rfl))
def y59(bu str0__0:List UInt8)(pos0__0:Int)(j2:Bool):Option ((Bool×Unit)⊕Unit):=
  (bif decide ((yf str0__0 pos0__0).1 >= 48)then (bif decide ((yf str0__0 pos0__0).1<=57)then (y8E bu str0__0 pos0__0 j2 (Bool.true))else (y8E bu str0__0 pos0__0 j2 ((yf str0__0 pos0__0).1==95)))else (y8E bu str0__0 pos0__0 j2 ((yf str0__0 pos0__0).1==95)))
theorem y0C(n:Nat)(hn:big<=n)(r0:List UInt8->List UInt8->Int->Option (Bool×Unit))(bu str0__0:List UInt8)(pos0__0:Int)(j2:Bool):LeF (elim some λ (ac:Unit)=>r0 bu str0__0 (yf (str0__0) pos0__0).2) (y59 bu str0__0 pos0__0 j2) (y3B n r0 bu str0__0 pos0__0 j2):=
  (y7 (y7 (by apply y1C n hn) (by apply y1C n hn)) (by apply y1C n hn))
def yCq(bu str0__0:List UInt8)(pos0__0:Int):Option ((Bool×Unit)⊕Unit):=
  (bif decide ((yf str0__0 pos0__0).1 >= 65)then (bif decide ((yf str0__0 pos0__0).1<=90)then (y59 bu str0__0 pos0__0 (Bool.true))else (bif decide ((yf str0__0 pos0__0).1 >= 97)then (y59 bu str0__0 pos0__0 (decide ((yf str0__0 pos0__0).1<=122)))else (y59 bu str0__0 pos0__0 (Bool.false))))else (bif decide ((yf str0__0 pos0__0).1 >= 97)then (y59 bu str0__0 pos0__0 (decide ((yf str0__0 pos0__0).1<=122)))else (y59 bu str0__0 pos0__0 (Bool.false))))
def yBk(bu str0__0:List UInt8):Option (Bool×Unit):=
  (bif !bu==[]then (some ((decide ((↑bu.length:Int)<=24),())))else (some ((Bool.false,()))))
theorem yDf(n:Nat)(hn:big<=n)(bu str0__0:List UInt8)(hx:List.length (str0__0) < yD):LeF some (y9G (str0__0) (λ ay ac=>yCq bu str0__0 ay) (λ ac=>yBk bu str0__0) (List.length (str0__0)) 0 ()) (y7U n n bu str0__0 0):=by
  refine yJv (f:=some) (W:=λ bY ay ac=>y7U n bY bu str0__0 ay) (λ bY ay ac=>?_) () n (by unfold big at hn;unfold yD at hx;omega)
  show LeF _ _ (yEv n (y7U n bY) bu str0__0 ay)
  exact y7 (y7 (y7 (by apply y0C n hn) (y7 (by apply y0C n hn) (by apply y0C n hn))) (y7 (by apply y0C n hn) (by apply y0C n hn))) (y1l (y7 (y9 rfl) (y9 rfl)))
def yJU(s:List UInt8):Option (Bool×Unit):=
  (bif decide (List.length (s) < yD)then y9G (s) (λ ay ac=>yCq (s) (s) ay) (λ ac=>yBk (s) (s)) (List.length (s)) 0 ()else none)
abbrev z0N_e:Entry:={ f:=102,args:=.pair t9 .unit,rS:=.pair t4 .unit,m:=λ x=>yJU x.1 }
theorem yIh:FnOK Tryz.prog z0N_e:=fB Tryz.f102 (λ n x=>yQb n x.1) [[0,8]] eNil λ n hn x=>(yy λ hx=>by apply yDf n hn;exact hx)
def yIt(n:Nat)(r0:(Int×Unit->Option (Int×Unit))->List Int->Int->Int->List Int->Option (List Int×Unit))(bC:Int×Unit->Option (Int×Unit))(aw:List Int)(co aU:Int)(bw:List Int):Option (List Int×Unit):=
  (bif decide (aU < co)then ((idx aw aU).bind λ v1=>((bC (v1,())).bind λ v2=>(bif decide (bw.length+(1:Nat)<=memMax)then r0 bC aw co (i64.wrap (aU+1)) (bw++[v2.1])else none)))else some (bw,()))
def yAA(n k:Nat)(bC:Int×Unit->Option (Int×Unit))(aw:List Int)(co aU:Int)(bw:List Int):Option (List Int×Unit):=
  iter (λ r y=>yIt n (λ bC aw co aU bw=>r ((bC,(aw,(co,(aU,())))),((bw,()),()))) y.1.1 y.1.2.1 y.1.2.2.1 y.1.2.2.2.1 y.2.1.1) k ((bC,(aw,(co,(aU,())))),((bw,()),()))
def zE_m(n:Nat)(l:List Int)(f:Int×Unit->Option (Int×Unit)):Option (List Int×Unit):=
  (yAA n n (f) (l) ((↑l.length:Int)) ((0:Int)) ([]))
def yO5(bC:Int×Unit->Option (Int×Unit))(aw:List Int)(aU v1:Int)(bw:List Int):Option ((List Int×Unit)⊕(List Int)):=
  ((bC (v1,())).bind λ v2=>(bif decide (bw.length+(1:Nat)<=memMax)then (some (Sum.inr (bw++[v2.1])))else none))
def yOQ(bC:Int×Unit->Option (Int×Unit))(aw bw:List Int):Option (List Int×Unit):=
  (some ((bw,())))
theorem yGH(n:Nat)(hn:big<=n)(bC:Int×Unit->Option (Int×Unit))(aw bw:List Int)(hx:List.length (aw) < yD):LeF some (yd (λ ay cD ac=>yO5 bC aw ay cD ac) (λ ac=>yOQ bC aw ac) 0 (aw) bw) (yAA n n bC aw (List.length (aw):Int) 0 bw):=by
  refine y04 (f:=some) (W:=λ bY ay ac=>yAA n bY bC aw (List.length (aw):Int) ay ac) (λ bY ay ac=>?_) hx bw n (by unfold big at hn;unfold yD at hx;omega)
  show LeF _ _ (yIt n (yAA n bY) bC aw (List.length (aw):Int) ay ac)
  exact y7 (yI λ v1=>(yI λ v2=>(y7 (y9 rfl) y01))) (y1l (y9 rfl))
def zE_M(l:List Int)(f:Int×Unit->Option (Int×Unit)):Option (List Int×Unit):=
  (bif decide (List.length (l) < yD)then yd (λ ay cD ac=>yO5 (f) (l) ay cD ac) (λ ac=>yOQ (f) (l) ac) 0 (l) ([])else none)
abbrev zE_e:Entry:={ f:=103,args:=.pair t34 (.pair t189 .unit),rS:=.pair t185 .unit,m:=λ x=>zE_M x.1 x.2.1 }
theorem yRB:FnOK Tryz.prog zE_e:=fB (mu:=[5]) Tryz.f103 (λ n x=>zE_m n x.1 x.2.1) [[1,5,8,9,10]] eNil λ n hn x=>(yy λ hx=>by apply yGH n hn;exact hx)
def yEY(n:Nat)(r0:List UInt8->Q1->Int->Option (Int×Unit))(ca:List UInt8)(cP:Q1)(bH:Int):Option (Int×Unit):=
  (bif decide (bH < (↑cP.2.2.2.2.2.2.2.2.1.length:Int))then ((idx cP.2.2.2.2.2.2.2.2.1 bH).bind λ v1=>(bif v1.1==ca then some (bH,())else r0 ca cP (i64.wrap (bH+1))))else some ((-1:Int),()))
def y7H(n k:Nat)(ca:List UInt8)(cP:Q1)(bH:Int):Option (Int×Unit):=
  iter (λ r y=>yEY n (λ ca cP bH=>r ((ca,(cP,(bH,()))),((),()))) y.1.1 y.1.2.1 y.1.2.2.1) k ((ca,(cP,(bH,()))),((),()))
def yRE(n:Nat)(rp:Q1)(name:List UInt8):Option (Int×Unit):=
  (y7H n n (name) (rp) ((0:Int)))
def yHi(ca:List UInt8)(cP:Q1)(bH:Int)(v1:Q3):Option ((Int×Unit)⊕Unit):=
  (bif v1.1==ca then (some (Sum.inl ((bH,()))))else (some (Sum.inr ())))
def yM9(ca:List UInt8)(cP:Q1):Option (Int×Unit):=
  (some (((-1:Int),())))
theorem yD4(n:Nat)(hn:big<=n)(ca:List UInt8)(cP:Q1)(hx:List.length (cP.2.2.2.2.2.2.2.2.1) < yD):LeF some (yd (λ ay cD ac=>yHi ca cP ay cD) (λ ac=>yM9 ca cP) 0 (cP.2.2.2.2.2.2.2.2.1) ()) (y7H n n ca cP 0):=by
  refine y04 (f:=some) (W:=λ bY ay ac=>y7H n bY ca cP ay) (λ bY ay ac=>?_) hx () n (by unfold big at hn;unfold yD at hx;omega)
  show LeF _ _ (yEY n (y7H n bY) ca cP ay)
  exact y7 (yI λ v1=>(y7 (y9 rfl) (y9 rfl))) (y1l (y9 rfl))
def yE3(rp:Q1)(name:List UInt8):Option (Int×Unit):=
  (bif decide (List.length (rp.2.2.2.2.2.2.2.2.1) < yD)then yd (λ ay cD ac=>yHi (name) (rp) ay cD) (λ ac=>yM9 (name) (rp)) 0 (rp.2.2.2.2.2.2.2.2.1) ()else none)
abbrev z0Q_e:Entry:={ f:=110,args:=.pair t41 (.pair t9 .unit),rS:=.pair t3 .unit,m:=λ x=>yE3 x.1 x.2.1 }
theorem yIR:FnOK Tryz.prog z0Q_e:=fB Tryz.f110 (λ n x=>yRE n x.1 x.2.1) [[1,2,5]] eNil λ n hn x=>(yy λ hx=>by apply yD4 n hn;exact hx)
def yMI(n:Nat)(s:List UInt8):Option (Bool×Unit):=
  (bif s==[(108:UInt8),111,119,101,114]then some (Bool.true,())else some (s==[(114:UInt8),97,105,115,101],()))
def z00(s:List UInt8):(Bool×Unit):=
  (bif s==[(108:UInt8),111,119,101,114]then (Bool.true,())else (s==[(114:UInt8),97,105,115,101],()))
abbrev yQf (s:List UInt8):Option (Bool×Unit):=some (z00 s)
abbrev z00_e:Entry:={ f:=111,args:=.pair t9 .unit,rS:=.pair t4 .unit,m:=λ x=>yQf x.1 }
theorem yOv:FnOK Tryz.prog z00_e:=fF (hm:=by intro x;show some (z00 x.1)=yMI 0 x.1;unfold yMI z00;first|rfl|(simp only[yG];done)|(simp only[yG];rfl)) 0 Tryz.f111 (λ n x=>yMI n x.1) [] eNil
def yMe(n:Nat)(rp:Q1)(g:Q3)(command:List UInt8):Option (Int×Unit):=
  (bif !g.2.2.2.2.1==[]then some ((33:Int),())else (bif decide ((↑rp.2.2.2.2.2.2.2.2.2.1.length:Int) > 0)then some ((34:Int),())else (bif command==[(108:UInt8),111,119,101,114]then (bif rp.2.2.2.2.2.2.1==[(111:UInt8),112,101,110]then some ((19:Int),())else (bif command==[(114:UInt8),97,105,115,101]then (bif rp.2.2.2.2.2.2.1==[(99:UInt8),108,111,115,101]then some ((19:Int),())else some ((0:Int),()))else some ((0:Int),())))else (bif command==[(114:UInt8),97,105,115,101]then (bif rp.2.2.2.2.2.2.1==[(99:UInt8),108,111,115,101]then some ((19:Int),())else some ((0:Int),()))else some ((0:Int),())))))
def z0e(rp:Q1)(g:Q3)(command:List UInt8):(Int×Unit):=
  (bif !g.2.2.2.2.1==[]then ((33:Int),())else (bif decide ((↑rp.2.2.2.2.2.2.2.2.2.1.length:Int) > 0)then ((34:Int),())else (bif command==[(108:UInt8),111,119,101,114]then (bif rp.2.2.2.2.2.2.1==[(111:UInt8),112,101,110]then ((19:Int),())else (bif command==[(114:UInt8),97,105,115,101]then (bif rp.2.2.2.2.2.2.1==[(99:UInt8),108,111,115,101]then ((19:Int),())else ((0:Int),()))else ((0:Int),())))else (bif command==[(114:UInt8),97,105,115,101]then (bif rp.2.2.2.2.2.2.1==[(99:UInt8),108,111,115,101]then ((19:Int),())else ((0:Int),()))else ((0:Int),())))))
abbrev yQK (rp:Q1)(g:Q3)(command:List UInt8):Option (Int×Unit):=some (z0e rp g command)
abbrev z0e_e:Entry:={ f:=112,args:=.pair t41 (.pair t148 (.pair t9 .unit)),rS:=.pair t3 .unit,m:=λ x=>yQK x.1 x.2.1 x.2.2.1 }
theorem yOS:FnOK Tryz.prog z0e_e:=fF (hm:=by intro x;show some (z0e x.1 x.2.1 x.2.2.1)=yMe 0 x.1 x.2.1 x.2.2.1;unfold yMe z0e;first|rfl|(simp only[yG];done)|(simp only[yG];rfl)) 0 Tryz.f112 (λ n x=>yMe n x.1 x.2.1 x.2.2.1) [] eNil
def zw_m(n:Nat)(s:List UInt8):Option (Bool×Unit):=
  (bif s==[(99:UInt8),108,111,115,101]then some (Bool.true,())else (bif s==[(111:UInt8),112,101,110]then some (Bool.true,())else some (s==[(119:UInt8),97,105,116],())))
def zw(s:List UInt8):(Bool×Unit):=
  (bif s==[(99:UInt8),108,111,115,101]then (Bool.true,())else (bif s==[(111:UInt8),112,101,110]then (Bool.true,())else (s==[(119:UInt8),97,105,116],())))
abbrev zw_M (s:List UInt8):Option (Bool×Unit):=some (zw s)
abbrev zw_e:Entry:={ f:=117,args:=.pair t9 .unit,rS:=.pair t4 .unit,m:=λ x=>zw_M x.1 }
theorem yQJ:FnOK Tryz.prog zw_e:=fF (hm:=by intro x;show some (zw x.1)=zw_m 0 x.1;unfold zw_m zw;first|rfl|(simp only[yG];done)|(simp only[yG];rfl)) 0 Tryz.f117 (λ n x=>zw_m n x.1) [] eNil
def y7j(n:Nat)(cE:Q2)(cc:Bool)(af ah ai aj ak am aq:Int)(ar:List UInt8)(au:Int)(bv:List (Q3))(az:List (List UInt8))(bz:List (Q6)):Option ((Q1)×Int×Unit):=
  (bif !cc then ((idx cE.2.2.1 (0:Int)).bind λ v14=>(bif decide (bz.length+(1:Nat)<=memMax)then some ((af,(ah,ai,()),aj,ak,am,aq,ar,au,bv,az,bz++[(v14,(1:Int),())],()),(0:Int),())else none))else some ((af,(ah,ai,()),aj,ak,am,aq,ar,au,bv,az,bz,()),(0:Int),()))
def yEw(n:Nat)(r0:Q2->Bool->Int->Int->Int->Int->Int->Int->Int->Int->List UInt8->Int->List (Q3)->List (List UInt8)->List (Q6)->Int->Int->Int->Int->Int->Int->Int->List UInt8->Int->List (Q6)->Option ((Q1)×Int×Unit))(cE:Q2)(cc:Bool)(da af ah ai aj ak am aq:Int)(ar:List UInt8)(au:Int)(bv:List (Q3))(az:List (List UInt8))(bD:List (Q6))(aL aM aN aO aP aQ aR:Int)(aS:List UInt8)(aT:Int)(bz:List (Q6)):Option ((Q1)×Int×Unit):=
  (bif decide (da < (↑bD.length:Int))then ((idx bD da).bind λ v1=>((idx cE.2.2.1 (0:Int)).bind λ v2=>(bif v1.1==v2 then (bif decide (bz.length+(1:Nat)<=memMax)then r0 cE Bool.true (i64.wrap (da+1)) af ah ai aj ak am aq ar au bv az bD aL aM aN aO aP aQ aR aS aT (bz++[(v1.1,i64.wrap (v1.2.1+1),())])else none)else (bif decide (bz.length+(1:Nat)<=memMax)then r0 cE cc (i64.wrap (da+1)) af ah ai aj ak am aq ar au bv az bD aL aM aN aO aP aQ aR aS aT (bz++[(v1.1,v1.2.1,())])else none))))else (bif !cc then (bif decide ((↑bz.length:Int) >= 64)then some ((af,(ah,ai,()),aj,ak,am,aq,ar,au,bv,az,bD,()),(5:Int),())else (y7j n cE cc af ah ai aj ak am aq ar au bv az bz))else (y7j n cE cc af ah ai aj ak am aq ar au bv az bz)))
def y7C(n k:Nat)(cE:Q2)(cc:Bool)(da af ah ai aj ak am aq:Int)(ar:List UInt8)(au:Int)(bv:List (Q3))(az:List (List UInt8))(bD:List (Q6))(aL aM aN aO aP aQ aR:Int)(aS:List UInt8)(aT:Int)(bz:List (Q6)):Option ((Q1)×Int×Unit):=
  iter (λ r y=>yEw n (λ cE cc da af ah ai aj ak am aq ar au bv az bD aL aM aN aO aP aQ aR aS aT bz=>r ((cE,(cc,(da,()))),(((af,(ah,(ai,(aj,(ak,(am,(aq,(ar,(au,(bv,(az,(bD,())))))))))))),((aL,(aM,(aN,(aO,(aP,(aQ,(aR,(aS,(aT,()))))))))),(bz,()))),()))) y.1.1 y.1.2.1 y.1.2.2.1 y.2.1.1.1 y.2.1.1.2.1 y.2.1.1.2.2.1 y.2.1.1.2.2.2.1 y.2.1.1.2.2.2.2.1 y.2.1.1.2.2.2.2.2.1 y.2.1.1.2.2.2.2.2.2.1 y.2.1.1.2.2.2.2.2.2.2.1 y.2.1.1.2.2.2.2.2.2.2.2.1 y.2.1.1.2.2.2.2.2.2.2.2.2.1 y.2.1.1.2.2.2.2.2.2.2.2.2.2.1 y.2.1.1.2.2.2.2.2.2.2.2.2.2.2.1 y.2.1.2.1.1 y.2.1.2.1.2.1 y.2.1.2.1.2.2.1 y.2.1.2.1.2.2.2.1 y.2.1.2.1.2.2.2.2.1 y.2.1.2.1.2.2.2.2.2.1 y.2.1.2.1.2.2.2.2.2.2.1 y.2.1.2.1.2.2.2.2.2.2.2.1 y.2.1.2.1.2.2.2.2.2.2.2.2.1 y.2.1.2.2.1) k ((cE,(cc,(da,()))),(((af,(ah,(ai,(aj,(ak,(am,(aq,(ar,(au,(bv,(az,(bD,())))))))))))),((aL,(aM,(aN,(aO,(aP,(aQ,(aR,(aS,(aT,()))))))))),(bz,()))),()))
def yQO(n:Nat)(rp:Q1)(e:Q2):Option ((Q1)×Int×Unit):=
  (y7C n n (e) (Bool.false) ((0:Int)) (rp.1) (rp.2.1.1) (rp.2.1.2.1) (rp.2.2.1) (rp.2.2.2.1) (rp.2.2.2.2.1) (rp.2.2.2.2.2.1) (rp.2.2.2.2.2.2.1) (rp.2.2.2.2.2.2.2.1) (rp.2.2.2.2.2.2.2.2.1) (rp.2.2.2.2.2.2.2.2.2.1) (rp.2.2.2.2.2.2.2.2.2.2.1) ((0:Int)) ((0:Int)) ((0:Int)) ((0:Int)) ((0:Int)) ((0:Int)) ((0:Int)) ([]) ((0:Int)) ([]))
def yAm(cE:Q2)(cc:Bool)(af ah ai aj ak am aq:Int)(ar:List UInt8)(au:Int)(bv:List (Q3))(az:List (List UInt8))(bz:List (Q6)):Option ((Q1)×Int×Unit):=
  (bif !cc then ((idx cE.2.2.1 (0:Int)).bind λ v14=>(bif decide (bz.length+(1:Nat)<=memMax)then (some (((af,(ah,ai,()),aj,ak,am,aq,ar,au,bv,az,bz++[(v14,(1:Int),())],()),(0:Int),())))else none))else (some (((af,(ah,ai,()),aj,ak,am,aq,ar,au,bv,az,bz,()),(0:Int),()))))
theorem y2S(n:Nat)(hn:big<=n)(cE:Q2)(cc:Bool)(af ah ai aj ak am aq:Int)(ar:List UInt8)(au:Int)(bv:List (Q3))(az:List (List UInt8))(bz:List (Q6)):LeF some (yAm cE cc af ah ai aj ak am aq ar au bv az bz) (y7j n cE cc af ah ai aj ak am aq ar au bv az bz):=
  (y7 (yI λ v14=>(y7 (y9 rfl) y01)) (y9 rfl))
def yHv(cE:Q2)(af ah ai aj ak am aq:Int)(ar:List UInt8)(au:Int)(bv:List (Q3))(az:List (List UInt8))(bD:List (Q6))(aL aM aN aO aP aQ aR:Int)(aS:List UInt8)(aT da:Int)(v1:Q6)(cc:Bool)(bz:List (Q6)):Option (((Q1)×Int×Unit)⊕(Bool×(List (Q6)))):=
  ((idx cE.2.2.1 (0:Int)).bind λ v2=>(bif v1.1==v2 then (bif decide (bz.length+(1:Nat)<=memMax)then (some (Sum.inr ((Bool.true),(bz++[(v1.1,i64.wrap (v1.2.1+1),())]))))else none)else (bif decide (bz.length+(1:Nat)<=memMax)then (some (Sum.inr ((cc),(bz++[(v1.1,v1.2.1,())]))))else none)))
def yHI(cE:Q2)(af ah ai aj ak am aq:Int)(ar:List UInt8)(au:Int)(bv:List (Q3))(az:List (List UInt8))(bD:List (Q6))(aL aM aN aO aP aQ aR:Int)(aS:List UInt8)(aT:Int)(cc:Bool)(bz:List (Q6)):Option ((Q1)×Int×Unit):=
  (bif !cc then (bif decide ((↑bz.length:Int) >= 64)then (some (((af,(ah,ai,()),aj,ak,am,aq,ar,au,bv,az,bD,()),(5:Int),())))else (yAm cE cc af ah ai aj ak am aq ar au bv az bz))else (yAm cE cc af ah ai aj ak am aq ar au bv az bz))
theorem yDS(n:Nat)(hn:big<=n)(cE:Q2)(af ah ai aj ak am aq:Int)(ar:List UInt8)(au:Int)(bv:List (Q3))(az:List (List UInt8))(bD:List (Q6))(aL aM aN aO aP aQ aR:Int)(aS:List UInt8)(aT:Int)(cc:Bool)(bz:List (Q6))(hx:List.length (bD) < yD):LeF some (yd (λ ay cD ac=>yHv cE af ah ai aj ak am aq ar au bv az bD aL aM aN aO aP aQ aR aS aT ay cD ac.1 ac.2) (λ ac=>yHI cE af ah ai aj ak am aq ar au bv az bD aL aM aN aO aP aQ aR aS aT ac.1 ac.2) 0 (bD) (cc,bz)) (y7C n n cE cc 0 af ah ai aj ak am aq ar au bv az bD aL aM aN aO aP aQ aR aS aT bz):=by
  refine y04 (f:=some) (W:=λ bY ay ac=>y7C n bY cE ac.1 ay af ah ai aj ak am aq ar au bv az bD aL aM aN aO aP aQ aR aS aT ac.2) (λ bY ay ac=>?_) hx (cc,bz) n (by unfold big at hn;unfold yD at hx;omega)
  show LeF _ _ (yEw n (y7C n bY) cE ac.1 ay af ah ai aj ak am aq ar au bv az bD aL aM aN aO aP aQ aR aS aT ac.2)
  exact y7 (yI λ v1=>(yI λ v2=>(y7 (y7 (y9 rfl) y01) (y7 (y9 rfl) y01)))) (y1l (y7 (y7 (y9 rfl) (by apply y2S n hn)) (by apply y2S n hn)))
def yIp(rp:Q1)(e:Q2):Option ((Q1)×Int×Unit):=
  (bif decide (List.length (rp.2.2.2.2.2.2.2.2.2.2.1) < yD)then yd (λ ay cD ac=>yHv (e) (rp.1) (rp.2.1.1) (rp.2.1.2.1) (rp.2.2.1) (rp.2.2.2.1) (rp.2.2.2.2.1) (rp.2.2.2.2.2.1) (rp.2.2.2.2.2.2.1) (rp.2.2.2.2.2.2.2.1) (rp.2.2.2.2.2.2.2.2.1) (rp.2.2.2.2.2.2.2.2.2.1) (rp.2.2.2.2.2.2.2.2.2.2.1) ((0:Int)) ((0:Int)) ((0:Int)) ((0:Int)) ((0:Int)) ((0:Int)) ((0:Int)) ([]) ((0:Int)) ay cD ac.1 ac.2) (λ ac=>yHI (e) (rp.1) (rp.2.1.1) (rp.2.1.2.1) (rp.2.2.1) (rp.2.2.2.1) (rp.2.2.2.2.1) (rp.2.2.2.2.2.1) (rp.2.2.2.2.2.2.1) (rp.2.2.2.2.2.2.2.1) (rp.2.2.2.2.2.2.2.2.1) (rp.2.2.2.2.2.2.2.2.2.1) (rp.2.2.2.2.2.2.2.2.2.2.1) ((0:Int)) ((0:Int)) ((0:Int)) ((0:Int)) ((0:Int)) ((0:Int)) ((0:Int)) ([]) ((0:Int)) ac.1 ac.2) 0 (rp.2.2.2.2.2.2.2.2.2.2.1) ((Bool.false),([]))else none)
abbrev z0S_e:Entry:={ f:=121,args:=.pair t41 (.pair t56 .unit),rS:=.pair t41 (.pair t3 .unit),m:=λ x=>yIp x.1 x.2.1 }
theorem yPS:FnOK Tryz.prog z0S_e:=fB (mu:=[2,6]) Tryz.f121 (λ n x=>yQO n x.1 x.2.1) [[2,3,4,6,7,8]] eNil λ n hn x=>(yy λ hx=>by apply yDS n hn;exact hx)
abbrev yDl:Ty:=.pair t3 .unit
abbrev yG8:Ty:=.pair t9 .unit
class ref01_Text_Rec where
  f:yDl.den->Option yG8.den
section
variable [ref01_Text_Rec]
def yAu:Entry:={ f:=132,args:=yDl,rS:=yG8,m:=λ x=>ref01_Text_Rec.f x }
def yOd:G:={ T:=T,E:=[yAu],mU:=[],fz:=[] }
def yQT:List (List Nat):=[]
def yM1(n:Nat):Ann:={ keep:=yQT,fuel:=n,inl:=[],deep:=0 }
def yMc(n:Nat)(np:Int):Option (List UInt8×Unit):=
  (bif decide (np > 9)then ((ref01_Text_Rec.f (i64.wrap (np.tdiv (10:Int)),())).bind λ v0=>((ref01_Text_Rec.f (np.tmod (10:Int),())).bind λ v1=>(bif decide (v0.1.length+v1.1.length < strMax)then some (v0.1++v1.1,())else none)))else (bif decide (np < (-9:Int))then ((ref01_Text_Rec.f (i64.wrap (np.tdiv (10:Int)),())).bind λ v2=>((ref01_Text_Rec.f (i64.wrap ((0:Int) - np.tmod (10:Int)),())).bind λ v3=>(bif decide (v2.1.length+v3.1.length < strMax)then some (v2.1++v3.1,())else none)))else (bif decide (np < 0)then ((ref01_Text_Rec.f (i64.wrap ((0:Int) - np),())).bind λ v4=>(bif decide ((1:Nat)+v4.1.length < strMax)then some ([(45:UInt8)]++v4.1,())else none))else some (y14 [IntKind.u8.wrap (i64.wrap ((48:Int)+np))],()))))
theorem yPK(n:Nat)(x:yDl.den):runF yOd (yM1 n) Tryz.f132 yDl yG8 x=yMc n x.1:=by kernel_rfl
def yPF(np:Int):Option (List UInt8×Unit):=yMc 0 np
theorem yNF(np:Int)(y:List UInt8×Unit)(h:yPF np=some y):∃ n,yMc n np=some y:=⟨0,h⟩
end
def y2l(d:Nat):yDl.den->Option yG8.den:=Nat.rec (motive:=λ _=>yDl.den->Option yG8.den) (λ _=>none) (λ _ ih x=>@yPF ⟨ih⟩ x.1) d
def y3K(d:Nat):Entry:={ f:=132,args:=yDl,rS:=yG8,m:=y2l d }
theorem y4u:(d:Nat)->FnOK Tryz.prog (y3K d)
  |0=>FnOK.none (fn:=Tryz.f132) (by kernel_rfl) (by kernel_rfl) (by kernel_rfl)
  |d+1=>yE8 (g:=@yOd ⟨y2l d⟩) (fn:=Tryz.f132) (e:=y3K (d+1)) y1f y72 (yE (y4u d) eNil) (by kernel_rfl) (by kernel_rfl) (by kernel_rfl) (λ x y h=>let ⟨n,hn⟩:=@yNF ⟨y2l d⟩ x.1 y h;⟨yM1 n,iNil,(@yPK ⟨y2l d⟩ n x).trans hn⟩)
def z0h_e:Entry:=y3K 24
theorem yP8:FnOK Tryz.prog z0h_e:=y4u 24
def yPO(n:Nat)(l:List (List UInt8)):Option (Q6):=
  ((yIy l [(32:UInt8)]).bind λ v0=>some (v0.1,(0:Int),()))
def yG6(l:List (List UInt8)):Option (Q6):=yPO 0 l
abbrev z0a_e:Entry:={ f:=135,args:=.pair t38 .unit,rS:=.pair t9 (.pair t29 .unit),m:=λ x=>yG6 x.1 }
theorem y9U:FnOK Tryz.prog z0a_e:=fF 0 Tryz.f135 (λ n x=>yPO n x.1) [] (yE yJ4 eNil)
def zO_m(n:Nat)(g:Q3):Option (Bool×Unit):=
  some (g.2.1,())
def zO(g:Q3):(Bool×Unit):=
  (g.2.1,())
abbrev zO_M (g:Q3):Option (Bool×Unit):=some (zO g)
abbrev zO_e:Entry:={ f:=138,args:=.pair t64 .unit,rS:=.pair t4 .unit,m:=λ x=>zO_M x.1 }
theorem yOA:FnOK Tryz.prog zO_e:=fF (hm:=by intro x;show some (zO x.1)=zO_m 0 x.1;unfold zO_m zO;first|rfl|(simp only[yG];done)|(simp only[yG];rfl)) 0 Tryz.f138 (λ n x=>zO_m n x.1) [] eNil
def zc_m(n:Nat)(g:Q3):Option (Bool×Unit):=
  some (!g.2.2.2.2.1==[],())
def zc(g:Q3):(Bool×Unit):=
  (!g.2.2.2.2.1==[],())
abbrev zc_M (g:Q3):Option (Bool×Unit):=some (zc g)
abbrev zc_e:Entry:={ f:=141,args:=.pair t64 .unit,rS:=.pair t4 .unit,m:=λ x=>zc_M x.1 }
theorem yOe:FnOK Tryz.prog zc_e:=fF (hm:=by intro x;show some (zc x.1)=zc_m 0 x.1;unfold zc_m zc;first|rfl|(simp only[yG];done)|(simp only[yG];rfl)) 0 Tryz.f141 (λ n x=>zc_m n x.1) [] eNil
def yIr(n:Nat)(g:Q3)(j0:List UInt8):Option (List UInt8×Unit):=
  ((yCk g.2.2.1).bind λ v1=>(bif decide (v1.1.length+(1:Nat) < strMax)then (bif decide ((v1.1++[(32:UInt8)]).length+j0.length < strMax)then some (v1.1++[(32:UInt8)]++j0,())else none)else none))
def zr_m(n:Nat)(g:Q3):Option (List UInt8×Unit):=
  (bif g.2.2.2.1==[]then (yIr n g ([(110:UInt8),111,110,101]))else (yIr n g (g.2.2.2.1)))
def zr_M(g:Q3):Option (List UInt8×Unit):=zr_m 0 g
abbrev zr_e:Entry:={ f:=146,args:=.pair t64 .unit,rS:=.pair t9 .unit,m:=λ x=>zr_M x.1 }
theorem yOa:FnOK Tryz.prog zr_e:=fF 0 Tryz.f146 (λ n x=>zr_m n x.1) [] (yE y9O eNil)
def yLY(n:Nat)(r8:Int->List UInt8->Int->Option (Int×Bool×Unit))(dg:Int)(str0__8:List UInt8)(pos0__8:Int):Option (Int×Bool×Unit):=
  (bif decide (pos0__8 < (↑str0__8.length:Int))then (bif decide ((yf str0__8 pos0__8).1 < 48)then some ((0:Int),Bool.false,())else (bif decide ((yf str0__8 pos0__8).1 > 57)then some ((0:Int),Bool.false,())else r8 (i64.wrap (i64.wrap ((10:Int) * dg)+i64.wrap (IntKind.i32.wrap ((yf str0__8 pos0__8).1 - (48:Int))))) str0__8 (yf str0__8 pos0__8).2))else some (dg,Bool.true,()))
def yJp(n k:Nat)(dg:Int)(str0__8:List UInt8)(pos0__8:Int):Option (Int×Bool×Unit):=
  iter (λ r y=>yLY n (λ dg str0__8 pos0__8=>r ((dg,()),(((str0__8,pos0__8),()),()))) y.1.1 y.2.1.1.1 y.2.1.1.2) k ((dg,()),(((str0__8,pos0__8),()),()))
def yBq(n:Nat)(s:List UInt8):Option (Int×Bool×Unit):=
  (yJp n n ((0:Int)) (s) ((0:Int)))
def yOr(n:Nat)(s:List UInt8):Option (Int×Bool×Unit):=
  (bif s==[]then some ((0:Int),Bool.false,())else (bif decide ((↑s.length:Int) > 9)then some ((0:Int),Bool.false,())else (bif decide ((↑s.length:Int) > 1)then ((idx s (0:Int)).bind λ v0=>(bif (↑v0.toNat:Int)==48 then some ((0:Int),Bool.false,())else (yBq n s)))else (yBq n s))))
def yMg(s:List UInt8):Option (Int×Bool×Unit):=yOr 1000 s
abbrev z04_e:Entry:={ f:=163,args:=.pair t9 .unit,rS:=.pair t3 (.pair t4 .unit),m:=λ x=>yMg x.1 }
theorem yLz:FnOK Tryz.prog z04_e:=fF 1000 Tryz.f163 (λ n x=>yOr n x.1) [[4,25]] eNil
def yEc(n:Nat)(r0:(Int×Unit->Option (Bool×Unit))->Int->Int->Int->Option (Int×Unit))(bI:Int×Unit->Option (Bool×Unit))(bJ bZ aw:Int):Option (Int×Unit):=
  (bif decide (aw < bZ)then ((bI (aw,())).bind λ v1=>(bif v1.1 then some (aw,())else r0 bI bJ bZ (i64.wrap (aw+1))))else some (bJ,()))
def y7T(n k:Nat)(bI:Int×Unit->Option (Bool×Unit))(bJ bZ aw:Int):Option (Int×Unit):=
  iter (λ r y=>yEc n (λ bI bJ bZ aw=>r ((bI,(bJ,(bZ,(aw,())))),((),()))) y.1.1 y.1.2.1 y.1.2.2.1 y.1.2.2.2.1) k ((bI,(bJ,(bZ,(aw,())))),((),()))
def yQg(n:Nat)(np:Int)(holds:Int×Unit->Option (Bool×Unit)):Option (Int×Unit):=
  (y7T n n (holds) ((-1:Int)) (np) ((0:Int)))
def yI7(bI:Int×Unit->Option (Bool×Unit))(bJ bZ aw:Int):Option ((Int×Unit)⊕Unit):=
  ((bI (aw,())).bind λ v1=>(bif v1.1 then (some (Sum.inl ((aw,()))))else (some (Sum.inr ()))))
def yLs(bI:Int×Unit->Option (Bool×Unit))(bJ bZ:Int):Option (Int×Unit):=
  (some ((bJ,())))
theorem yDu(n:Nat)(hn:big<=n)(bI:Int×Unit->Option (Bool×Unit))(bJ bZ:Int)(hx:(bZ)<=9223372036854775807):LeF some (y2t (λ ay ac=>yI7 bI bJ bZ ay) (λ ac=>yLs bI bJ bZ) ((bZ) - 0).toNat 0 ()) (y7T n n bI bJ bZ 0):=by
  refine y4f (f:=some) (W:=λ bY ay ac=>y7T n bY bI bJ bZ ay) (λ bY ay ac=>?_) hx () n 0 (by decide) (by unfold big at hn;omega)
  show LeF _ _ (yEc n (y7T n bY) bI bJ bZ ay)
  exact y7 (yI λ v1=>(y7 (y9 rfl) (y9 rfl))) (y1l (y9 rfl))
def yHK(np:Int)(holds:Int×Unit->Option (Bool×Unit)):Option (Int×Unit):=
  (bif decide ((np)<=9223372036854775807)then y2t (λ ay ac=>yI7 (holds) ((-1:Int)) (np) ay) (λ ac=>yLs (holds) ((-1:Int)) (np)) ((np) - 0).toNat 0 ()else none)
abbrev z0Y_e:Entry:={ f:=173,args:=.pair t3 (.pair t227 .unit),rS:=.pair t3 .unit,m:=λ x=>yHK x.1 x.2.1 }
theorem yLm:FnOK Tryz.prog z0Y_e:=fB Tryz.f173 (λ n x=>yQg n x.1 x.2.1) [[1,5,7,8]] eNil λ n hn x=>(yy λ hx=>by apply yDu n hn;exact hx)
def zN_m(n:Nat)(i:Int)(p1:Q1)(p2:List UInt8):Option (Bool×Unit):=
  ((idx p1.2.2.2.2.2.2.2.2.1 i).bind λ v0=>some (v0.1==p2,()))
def zN_M(i:Int)(p1:Q1)(p2:List UInt8):Option (Bool×Unit):=zN_m 0 i p1 p2
abbrev zN_e:Entry:={ f:=174,args:=.pair t3 (.pair (.ref t60) (.pair (.ref t9) .unit)),rS:=.pair t4 .unit,m:=λ x=>zN_M x.1 x.2.1 x.2.2.1 }
theorem yRT:FnOK Tryz.prog zN_e:=fF 0 Tryz.f174 (λ n x=>zN_m n x.1 x.2.1 x.2.2.1) [] eNil
def yNo(n:Nat)(rp:Q1)(p1:Int)(xp:Q3):Option ((Q1)×Unit):=
  (bif decide ((0:Nat)+rp.2.2.2.2.2.2.2.2.1.length<=memMax)then ((idx rp.2.2.2.2.2.2.2.2.1 p1).bind λ v0=>((rp.2.2.2.2.2.2.2.2.1[p1.toNat]?).bind λ v1=>some ((rp.1,rp.2.1,rp.2.2.1,rp.2.2.2.1,rp.2.2.2.2.1,rp.2.2.2.2.2.1,rp.2.2.2.2.2.2.1,rp.2.2.2.2.2.2.2.1,rp.2.2.2.2.2.2.2.2.1.set p1.toNat xp,rp.2.2.2.2.2.2.2.2.2),())))else none)
def yFo(rp:Q1)(p1:Int)(xp:Q3):Option ((Q1)×Unit):=yNo 0 rp p1 xp
abbrev z08_e:Entry:={ f:=176,args:=.pair t41 (.pair t3 (.pair t148 .unit)),rS:=.pair t41 .unit,m:=λ x=>yFo x.1 x.2.1 x.2.2.1 }
theorem yLu:FnOK Tryz.prog z08_e:=fF (mu:=[3,7]) 0 Tryz.f176 (λ n x=>yNo n x.1 x.2.1 x.2.2.1) [] eNil
def yET(n:Nat)(r0:List (List UInt8)->List UInt8->Int->Option (Bool×Unit))(bL:List (List UInt8))(cZ:List UInt8)(bH:Int):Option (Bool×Unit):=
  (bif decide (bH < (↑bL.length:Int))then ((idx bL bH).bind λ v1=>(bif v1==cZ then some (Bool.true,())else r0 bL cZ (i64.wrap (bH+1))))else some (Bool.false,()))
def y7O(n k:Nat)(bL:List (List UInt8))(cZ:List UInt8)(bH:Int):Option (Bool×Unit):=
  iter (λ r y=>yET n (λ bL cZ bH=>r ((bL,(cZ,(bH,()))),((),()))) y.1.1 y.1.2.1 y.1.2.2.1) k ((bL,(cZ,(bH,()))),((),()))
def yR7(n:Nat)(l:List (List UInt8))(s:List UInt8):Option (Bool×Unit):=
  (y7O n n (l) (s) ((0:Int)))
def yHz(bL:List (List UInt8))(cZ:List UInt8)(bH:Int)(v1:List UInt8):Option ((Bool×Unit)⊕Unit):=
  (bif v1==cZ then (some (Sum.inl ((Bool.true,()))))else (some (Sum.inr ())))
def yLt(bL:List (List UInt8))(cZ:List UInt8):Option (Bool×Unit):=
  (some ((Bool.false,())))
theorem yDx(n:Nat)(hn:big<=n)(bL:List (List UInt8))(cZ:List UInt8)(hx:List.length (bL) < yD):LeF some (yd (λ ay cD ac=>yHz bL cZ ay cD) (λ ac=>yLt bL cZ) 0 (bL) ()) (y7O n n bL cZ 0):=by
  refine y04 (f:=some) (W:=λ bY ay ac=>y7O n bY bL cZ ay) (λ bY ay ac=>?_) hx () n (by unfold big at hn;unfold yD at hx;omega)
  show LeF _ _ (yET n (y7O n bY) bL cZ ay)
  exact y7 (yI λ v1=>(y7 (y9 rfl) (y9 rfl))) (y1l (y9 rfl))
def yDr(l:List (List UInt8))(s:List UInt8):Option (Bool×Unit):=
  (bif decide (List.length (l) < yD)then yd (λ ay cD ac=>yHz (l) (s) ay cD) (λ ac=>yLt (l) (s)) 0 (l) ()else none)
abbrev z0E_e:Entry:={ f:=177,args:=.pair t38 (.pair t9 .unit),rS:=.pair t4 .unit,m:=λ x=>yDr x.1 x.2.1 }
theorem yOw:FnOK Tryz.prog z0E_e:=fB Tryz.f177 (λ n x=>yR7 n x.1 x.2.1) [[0,1,5]] eNil λ n hn x=>(yy λ hx=>by apply yDx n hn;exact hx)
def yMO(n:Nat)(r0:(Int×Unit->Option (List UInt8×Unit))->List Int->Int->Int->List (List UInt8)->Option (List (List UInt8)×Unit))(bC:Int×Unit->Option (List UInt8×Unit))(aw:List Int)(co aU:Int)(bw:List (List UInt8)):Option (List (List UInt8)×Unit):=
  (bif decide (aU < co)then ((idx aw aU).bind λ v1=>((bC (v1,())).bind λ v2=>(bif decide (bw.length+(1:Nat)<=memMax)then r0 bC aw co (i64.wrap (aU+1)) (bw++[v2.1])else none)))else some (bw,()))
def yMk(n k:Nat)(bC:Int×Unit->Option (List UInt8×Unit))(aw:List Int)(co aU:Int)(bw:List (List UInt8)):Option (List (List UInt8)×Unit):=
  iter (λ r y=>yMO n (λ bC aw co aU bw=>r ((bC,(aw,(co,(aU,())))),((bw,()),()))) y.1.1 y.1.2.1 y.1.2.2.1 y.1.2.2.2.1 y.2.1.1) k ((bC,(aw,(co,(aU,())))),((bw,()),()))
def zJ_m(n:Nat)(l:List Int)(f:Int×Unit->Option (List UInt8×Unit)):Option (List (List UInt8)×Unit):=
  (yMk n n (f) (l) ((↑l.length:Int)) ((0:Int)) ([]))
def zJ_M(l:List Int)(f:Int×Unit->Option (List UInt8×Unit)):Option (List (List UInt8)×Unit):=zJ_m 1000 l f
abbrev zJ_e:Entry:={ f:=178,args:=.pair t34 (.pair t166 .unit),rS:=.pair t38 .unit,m:=λ x=>zJ_M x.1 x.2.1 }
theorem yPG:FnOK Tryz.prog zJ_e:=fF (mu:=[5]) 1000 Tryz.f178 (λ n x=>zJ_m n x.1 x.2.1) [[1,5,8,9,10]] eNil
def zo_m(n:Nat)(g:Q3):Option (List UInt8×Unit):=
  some (g.1,())
def zo(g:Q3):(List UInt8×Unit):=
  (g.1,())
abbrev zo_M (g:Q3):Option (List UInt8×Unit):=some (zo g)
abbrev zo_e:Entry:={ f:=183,args:=.pair t64 .unit,rS:=.pair t9 .unit,m:=λ x=>zo_M x.1 }
theorem yR3:FnOK Tryz.prog zo_e:=fF (hm:=by intro x;show some (zo x.1)=zo_m 0 x.1;unfold zo_m zo;first|rfl|(simp only[yG];done)|(simp only[yG];rfl)) 0 Tryz.f183 (λ n x=>zo_m n x.1) [] eNil
def yND(n:Nat)(r0:List (List UInt8)->List UInt8->Int->Int->Option (Int×Unit))(bu:List (List UInt8))(dl:List UInt8)(bZ aw:Int):Option (Int×Unit):=
  (bif decide (aw < bZ)then ((idx bu aw).bind λ v1=>(bif dl==v1 then some (aw,())else r0 bu dl bZ (i64.wrap (aw+1))))else some ((-1:Int),()))
def yNv(n k:Nat)(bu:List (List UInt8))(dl:List UInt8)(bZ aw:Int):Option (Int×Unit):=
  iter (λ r y=>yND n (λ bu dl bZ aw=>r ((bu,(dl,(bZ,(aw,())))),((),()))) y.1.1 y.1.2.1 y.1.2.2.1 y.1.2.2.2.1) k ((bu,(dl,(bZ,(aw,())))),((),()))
def zG_m(n:Nat)(s:List (List UInt8))(v:List UInt8):Option (Int×Unit):=
  (yNv n n (s) (v) ((↑s.length:Int)) ((0:Int)))
def zG_M(s:List (List UInt8))(v:List UInt8):Option (Int×Unit):=zG_m 1000 s v
abbrev zG_e:Entry:={ f:=184,args:=.pair t38 (.pair t9 .unit),rS:=.pair t3 .unit,m:=λ x=>zG_M x.1 x.2.1 }
theorem yQq:FnOK Tryz.prog zG_e:=fF 1000 Tryz.f184 (λ n x=>zG_m n x.1 x.2.1) [[0,1,7,8]] eNil
def zK_m(n:Nat)(i:Int)(p1:Q1)(p2:List UInt8):Option (Bool×Unit):=
  ((idx p1.2.2.2.2.2.2.2.2.2.2.1 i).bind λ v0=>some (v0.1==p2,()))
def zK_M(i:Int)(p1:Q1)(p2:List UInt8):Option (Bool×Unit):=zK_m 0 i p1 p2
abbrev zK_e:Entry:={ f:=203,args:=.pair t3 (.pair (.ref t60) (.pair (.ref t9) .unit)),rS:=.pair t4 .unit,m:=λ x=>zK_M x.1 x.2.1 x.2.2.1 }
theorem yRS:FnOK Tryz.prog zK_e:=fF 0 Tryz.f203 (λ n x=>zK_m n x.1 x.2.1 x.2.2.1) [] eNil
end
end Go.Tw
end
section
set_option maxRecDepth 1000000
namespace Go.Tw
open Go.Vx Go.Vx.B Go.Proofs
noncomputable section
def zz_m(n:Nat)(xp:Int×Int×Unit):Option (Int×Unit):=
  (bif (z0F xp.1 (0:Int) (4096:Int)).1 then some ((3:Int),())else (bif (z0F xp.2.1 (0:Int) (4096:Int)).1 then some ((3:Int),())else (bif decide (xp.2.1 > xp.1)then some ((11:Int),())else some ((0:Int),()))))
def zz(xp:Int×Int×Unit):(Int×Unit):=
  (bif (z0F xp.1 (0:Int) (4096:Int)).1 then ((3:Int),())else (bif (z0F xp.2.1 (0:Int) (4096:Int)).1 then ((3:Int),())else (bif decide (xp.2.1 > xp.1)then ((11:Int),())else ((0:Int),()))))
abbrev zz_M (xp:Int×Int×Unit):Option (Int×Unit):=some (zz xp)
abbrev zz_e:Entry:={ f:=22,args:=.pair t25 .unit,rS:=.pair t3 .unit,m:=λ x=>zz_M x.1 }
theorem yQx:FnOK Tryz.prog zz_e:=fF (hm:=by intro x;show some (zz x.1)=zz_m 0 x.1;unfold zz_m zz;first|rfl|(simp only[yG];done)|(simp only[yG];rfl)) 0 Tryz.f22 (λ n x=>zz_m n x.1) [] (yE yLj eNil)
def yCb(n:Nat)(r24:Q1->Q1->Int->Option (Bool×Unit))(cI cJ:Q1)(cV:Int):Option (Bool×Unit):=
  (bif decide (cV < (↑cI.2.2.2.2.2.2.2.2.2.2.1.length:Int))then ((idx cI.2.2.2.2.2.2.2.2.2.2.1 cV).bind λ v25=>((idx cJ.2.2.2.2.2.2.2.2.2.2.1 cV).bind λ v26=>(bif !eqV (Ty.str.pair ((Ty.int i64).pair Ty.unit)) v25 v26 then some (Bool.false,())else r24 cI cJ (i64.wrap (cV+1)))))else some (Bool.true,()))
def y5b(n k:Nat)(cI cJ:Q1)(cV:Int):Option (Bool×Unit):=
  iter (λ r y=>yCb n (λ cI cJ cV=>r ((cI,(cJ,(cV,()))),((),()))) y.1.1 y.1.2.1 y.1.2.2.1) k ((cI,(cJ,(cV,()))),((),()))
def yCf(n:Nat)(r21:Q1->Q1->Int->Option (Bool×Unit))(cw cC:Q1)(cW:Int):Option (Bool×Unit):=
  (bif decide (cW < (↑cw.2.2.2.2.2.2.2.2.1.length:Int))then ((idx cw.2.2.2.2.2.2.2.2.1 cW).bind λ v22=>((idx cC.2.2.2.2.2.2.2.2.1 cW).bind λ v23=>(bif !eqV (Ty.str.pair (Ty.bool.pair ((Ty.int i64).pair (Ty.str.pair (Ty.str.pair Ty.unit))))) v22 v23 then some (Bool.false,())else r21 cw cC (i64.wrap (cW+1)))))else (y5b n n (cw) (cC) ((0:Int))))
def y61(n k:Nat)(cw cC:Q1)(cW:Int):Option (Bool×Unit):=
  iter (λ r y=>yCf n (λ cw cC cW=>r ((cw,(cC,(cW,()))),((),()))) y.1.1 y.1.2.1 y.1.2.2.1) k ((cw,(cC,(cW,()))),((),()))
def yQP(n:Nat)(a b:Q1):Option (Bool×Unit):=
  (bif a.1 != b.1 then some (Bool.false,())else (bif !eqV ((Ty.int i64).pair ((Ty.int i64).pair Ty.unit)) a.2.1 b.2.1 then some (Bool.false,())else (bif a.2.2.1 != b.2.2.1 then some (Bool.false,())else (bif a.2.2.2.1 != b.2.2.2.1 then some (Bool.false,())else (bif a.2.2.2.2.1 != b.2.2.2.2.1 then some (Bool.false,())else (bif a.2.2.2.2.2.1 != b.2.2.2.2.2.1 then some (Bool.false,())else (bif !a.2.2.2.2.2.2.1==b.2.2.2.2.2.2.1 then some (Bool.false,())else (bif a.2.2.2.2.2.2.2.1 != b.2.2.2.2.2.2.2.1 then some (Bool.false,())else (bif (↑a.2.2.2.2.2.2.2.2.1.length:Int) != (↑b.2.2.2.2.2.2.2.2.1.length:Int)then some (Bool.false,())else ((zy_M a.2.2.2.2.2.2.2.2.2.1 b.2.2.2.2.2.2.2.2.2.1).bind λ v0=>(bif !v0.1 then some (Bool.false,())else (bif (↑a.2.2.2.2.2.2.2.2.2.2.1.length:Int) != (↑b.2.2.2.2.2.2.2.2.2.2.1.length:Int)then some (Bool.false,())else (y61 n n (a) (b) ((0:Int)))))))))))))))
def yDR(cI cJ:Q1)(cV:Int)(v25:Q6):Option ((Bool×Unit)⊕Unit):=
  ((idx cJ.2.2.2.2.2.2.2.2.2.2.1 cV).bind λ v26=>(bif !eqV (Ty.str.pair ((Ty.int i64).pair Ty.unit)) v25 v26 then (some (Sum.inl ((Bool.false,()))))else (some (Sum.inr ()))))
def yJ5(cI cJ:Q1):Option (Bool×Unit):=
  (some ((Bool.true,())))
theorem yBQ(n:Nat)(hn:big<=n)(cI cJ:Q1)(hx:List.length (cI.2.2.2.2.2.2.2.2.2.2.1) < yD):LeF some (yd (λ ay cD ac=>yDR cI cJ ay cD) (λ ac=>yJ5 cI cJ) 0 (cI.2.2.2.2.2.2.2.2.2.2.1) ()) (y5b n n cI cJ 0):=by
  refine y04 (f:=some) (W:=λ bY ay ac=>y5b n bY cI cJ ay) (λ bY ay ac=>?_) hx () n (by unfold big at hn;unfold yD at hx;omega)
  show LeF _ _ (yCb n (y5b n bY) cI cJ ay)
  exact y7 (yI λ v25=>(yI λ v26=>(y7 (y9 rfl) (y9 rfl)))) (y1l (y9 rfl))
def yD8(cw cC:Q1)(cW:Int)(v22:Q3):Option ((Bool×Unit)⊕Unit):=
  ((idx cC.2.2.2.2.2.2.2.2.1 cW).bind λ v23=>(bif !eqV (Ty.str.pair (Ty.bool.pair ((Ty.int i64).pair (Ty.str.pair (Ty.str.pair Ty.unit))))) v22 v23 then (some (Sum.inl ((Bool.false,()))))else (some (Sum.inr ()))))
def yEF(cw cC:Q1):Option (Bool×Unit):=
  (bif decide (List.length (cw.2.2.2.2.2.2.2.2.2.2.1) < yD)then yd (λ ay cD ac=>yDR (cw) (cC) ay cD) (λ ac=>yJ5 (cw) (cC)) 0 (cw.2.2.2.2.2.2.2.2.2.2.1) ()else none)
theorem yBX(n:Nat)(hn:big<=n)(cw cC:Q1)(hx:List.length (cw.2.2.2.2.2.2.2.2.1) < yD):LeF some (yd (λ ay cD ac=>yD8 cw cC ay cD) (λ ac=>yEF cw cC) 0 (cw.2.2.2.2.2.2.2.2.1) ()) (y61 n n cw cC 0):=by
  refine y04 (f:=some) (W:=λ bY ay ac=>y61 n bY cw cC ay) (λ bY ay ac=>?_) hx () n (by unfold big at hn;unfold yD at hx;omega)
  show LeF _ _ (yCf n (y61 n bY) cw cC ay)
  exact y7 (yI λ v22=>(yI λ v23=>(y7 (y9 rfl) (y9 rfl)))) (y1l (yy λ hx=>by apply yBQ n hn;exact hx))
def yNR(a b:Q1):Option (Bool×Unit):=
  (bif a.1 != b.1 then (some ((Bool.false,())))else (bif !eqV ((Ty.int i64).pair ((Ty.int i64).pair Ty.unit)) a.2.1 b.2.1 then (some ((Bool.false,())))else (bif a.2.2.1 != b.2.2.1 then (some ((Bool.false,())))else (bif a.2.2.2.1 != b.2.2.2.1 then (some ((Bool.false,())))else (bif a.2.2.2.2.1 != b.2.2.2.2.1 then (some ((Bool.false,())))else (bif a.2.2.2.2.2.1 != b.2.2.2.2.2.1 then (some ((Bool.false,())))else (bif !a.2.2.2.2.2.2.1==b.2.2.2.2.2.2.1 then (some ((Bool.false,())))else (bif a.2.2.2.2.2.2.2.1 != b.2.2.2.2.2.2.2.1 then (some ((Bool.false,())))else (bif (↑a.2.2.2.2.2.2.2.2.1.length:Int) != (↑b.2.2.2.2.2.2.2.2.1.length:Int)then (some ((Bool.false,())))else ((zy_M a.2.2.2.2.2.2.2.2.2.1 b.2.2.2.2.2.2.2.2.2.1).bind λ v0=>(bif !v0.1 then (some ((Bool.false,())))else (bif (↑a.2.2.2.2.2.2.2.2.2.2.1.length:Int) != (↑b.2.2.2.2.2.2.2.2.2.2.1.length:Int)then (some ((Bool.false,())))else (bif decide (List.length (a.2.2.2.2.2.2.2.2.1) < yD)then yd (λ ay cD ac=>yD8 (a) (b) ay cD) (λ ac=>yEF (a) (b)) 0 (a.2.2.2.2.2.2.2.2.1) ()else none)))))))))))))
abbrev z0j_e:Entry:={ f:=31,args:=.pair t41 (.pair t41 .unit),rS:=.pair t4 .unit,m:=λ x=>yNR x.1 x.2.1 }
theorem yQ5:FnOK Tryz.prog z0j_e:=fB Tryz.f31 (λ n x=>yQP n x.1 x.2.1) [[2,3,5],[2,3,6]] (yE yQn eNil) λ n hn x=>(y7 (y9 rfl) (y7 (y9 rfl) (y7 (y9 rfl) (y7 (y9 rfl) (y7 (y9 rfl) (y7 (y9 rfl) (y7 (y9 rfl) (y7 (y9 rfl) (y7 (y9 rfl) (yI λ v0=>(y7 (y9 rfl) (y7 (y9 rfl) (yy λ hx=>by apply yBX n hn;exact hx)))))))))))))
def yIE(n:Nat)(r5:Q2->Int->Int->Int->Bool->Option (Int×Unit))(cQ:Q2)(db cF cx:Int)(cG:Bool):Option (Int×Unit):=
  (bif decide (db < cx)then ((idx cQ.2.2.2.1 db).bind λ v6=>(bif (z0F v6 (0:Int) (999999999:Int)).1 then some ((3:Int),())else r5 cQ (i64.wrap (db+1)) cF cx cG))else (bif !cQ.2.2.2.2.1==[]then some ((1:Int),())else some ((0:Int),())))
def yB6(n k:Nat)(cQ:Q2)(db cF cx:Int)(cG:Bool):Option (Int×Unit):=
  iter (λ r y=>yIE n (λ cQ db cF cx cG=>r ((cQ,(db,())),(((cF,(cx,(cG,()))),()),()))) y.1.1 y.1.2.1 y.2.1.1.1 y.2.1.1.2.1 y.2.1.1.2.2.1) k ((cQ,(db,())),(((cF,(cx,(cG,()))),()),()))
def yH0(n:Nat)(r2:Q2->Int->Int->Int->Bool->Option (Int×Unit))(cM:Q2)(dc a7 aa:Int)(ae:Bool):Option (Int×Unit):=
  (bif decide (dc < a7)then ((idx cM.2.2.1 dc).bind λ v3=>((yJb v3).bind λ v4=>(bif !v4.1 then some ((8:Int),())else r2 cM (i64.wrap (dc+1)) a7 aa ae)))else (yB6 n n (cM) ((0:Int)) (a7) (aa) (ae)))
def yAl(n k:Nat)(cM:Q2)(dc a7 aa:Int)(ae:Bool):Option (Int×Unit):=
  iter (λ r y=>yH0 n (λ cM dc a7 aa ae=>r ((cM,(dc,())),(((a7,(aa,(ae,()))),()),()))) y.1.1 y.1.2.1 y.2.1.1.1 y.2.1.1.2.1 y.2.1.1.2.2.1) k ((cM,(dc,())),(((a7,(aa,(ae,()))),()),()))
def zv_m(n:Nat)(e:Q2):Option (Int×Unit):=
  (bif (z0F e.1 (1:Int) (1000:Int)).1 then some ((3:Int),())else (bif !(z0i e.2.1).1.2.2.1 then some ((13:Int),())else (bif (↑e.2.2.1.length:Int) != (z0i e.2.1).1.1 then some ((2:Int),())else (bif (↑e.2.2.2.1.length:Int) != (z0i e.2.1).1.2.1 then some ((2:Int),())else (yAl n n (e) ((0:Int)) ((z0i e.2.1).1.1) ((z0i e.2.1).1.2.1) ((z0i e.2.1).1.2.2.1))))))
def yMQ(cQ:Q2)(cF cx:Int)(cG:Bool)(db:Int):Option ((Int×Unit)⊕Unit):=
  ((idx cQ.2.2.2.1 db).bind λ v6=>(bif (z0F v6 (0:Int) (999999999:Int)).1 then (some (Sum.inl (((3:Int),()))))else (some (Sum.inr ()))))
def yNO(cQ:Q2)(cF cx:Int)(cG:Bool):Option (Int×Unit):=
  (bif !cQ.2.2.2.2.1==[]then (some (((1:Int),())))else (some (((0:Int),()))))
theorem yFX(n:Nat)(hn:big<=n)(cQ:Q2)(cF cx:Int)(cG:Bool)(hx:(cx)<=9223372036854775807):LeF some (y2t (λ ay ac=>yMQ cQ cF cx cG ay) (λ ac=>yNO cQ cF cx cG) ((cx) - 0).toNat 0 ()) (yB6 n n cQ 0 cF cx cG):=by
  refine y4f (f:=some) (W:=λ bY ay ac=>yB6 n bY cQ ay cF cx cG) (λ bY ay ac=>?_) hx () n 0 (by decide) (by unfold big at hn;omega)
  show LeF _ _ (yIE n (yB6 n bY) cQ ay cF cx cG)
  exact y7 (yI λ v6=>(y7 (y9 rfl) (y9 rfl))) (y1l (y7 (y9 rfl) (y9 rfl)))
def yN6(cM:Q2)(a7 aa:Int)(ae:Bool)(dc:Int):Option ((Int×Unit)⊕Unit):=
  ((idx cM.2.2.1 dc).bind λ v3=>((yJb v3).bind λ v4=>(bif !v4.1 then (some (Sum.inl (((8:Int),()))))else (some (Sum.inr ())))))
def yNM(cM:Q2)(a7 aa:Int)(ae:Bool):Option (Int×Unit):=
  (bif decide ((aa)<=9223372036854775807)then y2t (λ ay ac=>yMQ (cM) (a7) (aa) (ae) ay) (λ ac=>yNO (cM) (a7) (aa) (ae)) ((aa) - 0).toNat 0 ()else none)
theorem yGl(n:Nat)(hn:big<=n)(cM:Q2)(a7 aa:Int)(ae:Bool)(hx:(a7)<=9223372036854775807):LeF some (y2t (λ ay ac=>yN6 cM a7 aa ae ay) (λ ac=>yNM cM a7 aa ae) ((a7) - 0).toNat 0 ()) (yAl n n cM 0 a7 aa ae):=by
  refine y4f (f:=some) (W:=λ bY ay ac=>yAl n bY cM ay a7 aa ae) (λ bY ay ac=>?_) hx () n 0 (by decide) (by unfold big at hn;omega)
  show LeF _ _ (yH0 n (yAl n bY) cM ay a7 aa ae)
  exact y7 (yI λ v3=>(yI λ v4=>(y7 (y9 rfl) (y9 rfl)))) (y1l (yy λ hx=>by apply yFX n hn;exact hx))
def zv_M(e:Q2):Option (Int×Unit):=
  (bif (z0F e.1 (1:Int) (1000:Int)).1 then (some (((3:Int),())))else (bif !(z0i e.2.1).1.2.2.1 then (some (((13:Int),())))else (bif (↑e.2.2.1.length:Int) != (z0i e.2.1).1.1 then (some (((2:Int),())))else (bif (↑e.2.2.2.1.length:Int) != (z0i e.2.1).1.2.1 then (some (((2:Int),())))else (bif decide (((z0i e.2.1).1.1)<=9223372036854775807)then y2t (λ ay ac=>yN6 (e) ((z0i e.2.1).1.1) ((z0i e.2.1).1.2.1) ((z0i e.2.1).1.2.2.1) ay) (λ ac=>yNM (e) ((z0i e.2.1).1.1) ((z0i e.2.1).1.2.1) ((z0i e.2.1).1.2.2.1)) (((z0i e.2.1).1.1) - 0).toNat 0 ()else none)))))
abbrev zv_e:Entry:={ f:=38,args:=.pair t56 .unit,rS:=.pair t3 .unit,m:=λ x=>zv_M x.1 }
theorem yR6:FnOK Tryz.prog zv_e:=fB Tryz.f38 (λ n x=>zv_m n x.1) [[1,3,4],[1,3,5]] (yE yLj (yE yOK (yE yOU eNil))) λ n hn x=>(y7 (y9 rfl) (y7 (y9 rfl) (y7 (y9 rfl) (y7 (y9 rfl) (yy λ hx=>by apply yGl n hn;exact hx)))))
def yMf(n:Nat)(np low high:Int):Option (Int×Unit):=
  (bif decide (np < low)then some ((z0b Bool.true (3:Int)).1,())else some ((z0b (decide (np > high)) (3:Int)).1,()))
def z0D(np low high:Int):(Int×Unit):=
  (bif decide (np < low)then ((z0b Bool.true (3:Int)).1,())else ((z0b (decide (np > high)) (3:Int)).1,()))
abbrev yQY (np low high:Int):Option (Int×Unit):=some (z0D np low high)
abbrev z0D_e:Entry:={ f:=64,args:=.pair t3 (.pair t3 (.pair t3 .unit)),rS:=.pair t29 .unit,m:=λ x=>yQY x.1 x.2.1 x.2.2.1 }
theorem yFG:FnOK Tryz.prog z0D_e:=fF (hm:=by intro x;show some (z0D x.1 x.2.1 x.2.2.1)=yMf 0 x.1 x.2.1 x.2.2.1;unfold yMf z0D;first|rfl|(simp only[yG];done)|(simp only[yG];rfl)) 0 Tryz.f64 (λ n x=>yMf n x.1 x.2.1 x.2.2.1) [] (yE y4C eNil)
def zY_m(n:Nat)(s:List UInt8):Option (Int×Unit):=
  ((yJU s).bind λ v0=>some ((z0b (!v0.1) (8:Int)).1,()))
def zY_M(s:List UInt8):Option (Int×Unit):=zY_m 0 s
abbrev zY_e:Entry:={ f:=101,args:=.pair t9 .unit,rS:=.pair t29 .unit,m:=λ x=>zY_M x.1 }
theorem yRL:FnOK Tryz.prog zY_e:=fF 0 Tryz.f101 (λ n x=>zY_m n x.1) [] (yE yIh (yE y4C eNil))
def zT_m(n:Nat)(rp:Q1)(name:List UInt8):Option (Int×Unit):=
  ((yHK (↑rp.2.2.2.2.2.2.2.2.1.length:Int) λ (x:Int×Unit)=>zN_M x.1 rp name).bind λ v0=>some (v0.1,()))
def zT_M(rp:Q1)(name:List UInt8):Option (Int×Unit):=zT_m 0 rp name
abbrev zT_e:Entry:={ f:=106,args:=.pair t60 (.pair t9 .unit),rS:=.pair t3 .unit,m:=λ x=>zT_M x.1 x.2.1 }
theorem yN7:FnOK Tryz.prog zT_e:=fF 0 Tryz.f106 (λ n x=>zT_m n x.1 x.2.1) [] (yE yRT (yE yLm eNil))
def za_m(n:Nat)(s:List UInt8):Option (Int×Unit):=
  (bif !s==[(108:UInt8),111,119,101,114]then some ((z0b (!s==[(114:UInt8),97,105,115,101]) (13:Int)).1,())else some ((z0b Bool.false (13:Int)).1,()))
def za(s:List UInt8):(Int×Unit):=
  (bif !s==[(108:UInt8),111,119,101,114]then ((z0b (!s==[(114:UInt8),97,105,115,101]) (13:Int)).1,())else ((z0b Bool.false (13:Int)).1,()))
abbrev za_M (s:List UInt8):Option (Int×Unit):=some (za s)
abbrev za_e:Entry:={ f:=107,args:=.pair t9 .unit,rS:=.pair t29 .unit,m:=λ x=>za_M x.1 }
theorem yRN:FnOK Tryz.prog za_e:=fF (hm:=by intro x;show some (za x.1)=za_m 0 x.1;unfold za_m za;first|rfl|(simp only[yG];done)|(simp only[yG];rfl)) 0 Tryz.f107 (λ n x=>za_m n x.1) [] (yE y4C eNil)
def zQ_m(n:Nat)(rp:Q1)(g:Q3)(s:List UInt8):Option (Int×Unit):=
  (bif s==[(108:UInt8),111,119,101,114]then (bif rp.2.2.2.2.2.2.1==[(111:UInt8),112,101,110]then ((y1K [(z0b (!g.2.2.2.2.1==[]) (33:Int)).1,(z0b (decide ((↑rp.2.2.2.2.2.2.2.2.2.1.length:Int) > 0)) (34:Int)).1,(z0b Bool.true (19:Int)).1]).bind λ v5=>some (v5.1,()))else (bif s==[(114:UInt8),97,105,115,101]then ((y1K [(z0b (!g.2.2.2.2.1==[]) (33:Int)).1,(z0b (decide ((↑rp.2.2.2.2.2.2.2.2.2.1.length:Int) > 0)) (34:Int)).1,(z0b (rp.2.2.2.2.2.2.1==[(99:UInt8),108,111,115,101]) (19:Int)).1]).bind λ v6=>some (v6.1,()))else ((y1K [(z0b (!g.2.2.2.2.1==[]) (33:Int)).1,(z0b (decide ((↑rp.2.2.2.2.2.2.2.2.2.1.length:Int) > 0)) (34:Int)).1,(z0b Bool.false (19:Int)).1]).bind λ v7=>some (v7.1,()))))else (bif s==[(114:UInt8),97,105,115,101]then ((y1K [(z0b (!g.2.2.2.2.1==[]) (33:Int)).1,(z0b (decide ((↑rp.2.2.2.2.2.2.2.2.2.1.length:Int) > 0)) (34:Int)).1,(z0b (rp.2.2.2.2.2.2.1==[(99:UInt8),108,111,115,101]) (19:Int)).1]).bind λ v8=>some (v8.1,()))else ((y1K [(z0b (!g.2.2.2.2.1==[]) (33:Int)).1,(z0b (decide ((↑rp.2.2.2.2.2.2.2.2.2.1.length:Int) > 0)) (34:Int)).1,(z0b Bool.false (19:Int)).1]).bind λ v9=>some (v9.1,()))))
def zQ_M(rp:Q1)(g:Q3)(s:List UInt8):Option (Int×Unit):=zQ_m 0 rp g s
abbrev zQ_e:Entry:={ f:=108,args:=.pair t60 (.pair t64 (.pair t9 .unit)),rS:=.pair t29 .unit,m:=λ x=>zQ_M x.1 x.2.1 x.2.2.1 }
theorem yQu:FnOK Tryz.prog zQ_e:=fF 0 Tryz.f108 (λ n x=>zQ_m n x.1 x.2.1 x.2.2.1) [] (yE y4C (yE y7X eNil))
def yNW(n:Nat)(rp:Q1)(e:Q2):Option ((Q1)×Int×Unit):=
  ((idx e.2.2.1 (0:Int)).bind λ v0=>((yE3 rp v0).bind λ v1=>((idx e.2.2.1 (1:Int)).bind λ v2=>((idx e.2.2.2.1 (1:Int)).bind λ v3=>(bif decide (v1.1 < 0)then some (rp,(10:Int),())else (bif !(z00 v2).1 then some (rp,(13:Int),())else ((idx rp.2.2.2.2.2.2.2.2.1 v1.1).bind λ v4=>(bif v3==0 then some (rp,(6:Int),())else (bif decide (v3 < v4.2.2.1)then some (rp,(11:Int),())else (bif v3==v4.2.2.1 then (bif !v2==v4.2.2.2.1 then some (rp,(30:Int),())else some (rp,(0:Int),()))else (bif (z0e rp v4 v2).1 != 0 then some (rp,(z0e rp v4 v2).1,())else ((yFo rp v1.1 (v4.1,v2==[(108:UInt8),111,119,101,114],v3,v2,v4.2.2.2.2.1,())).bind λ v5=>some (v5.1,(0:Int),())))))))))))))
def yKM(rp:Q1)(e:Q2):Option ((Q1)×Int×Unit):=yNW 0 rp e
abbrev z01_e:Entry:={ f:=118,args:=.pair t41 (.pair t56 .unit),rS:=.pair t41 (.pair t3 .unit),m:=λ x=>yKM x.1 x.2.1 }
theorem yQ4:FnOK Tryz.prog z01_e:=fF 0 Tryz.f118 (λ n x=>yNW n x.1 x.2.1) [] (yE yIR (yE yOv (yE yOS (yE yLu eNil))))
def yKm(n:Nat)(rp:Q1)(e:Q2):Option ((Q1)×Int×Unit):=
  ((idx e.2.2.1 (0:Int)).bind λ v0=>((yE3 rp v0).bind λ v1=>(bif decide (v1.1 < 0)then some (rp,(10:Int),())else ((idx rp.2.2.2.2.2.2.2.2.1 v1.1).bind λ v2=>(bif e.2.1==[(108:UInt8),111,99,107]then (bif !v2.2.2.2.2.1==[]then some (rp,(33:Int),())else ((idx e.2.2.1 (1:Int)).bind λ v3=>((yFo rp v1.1 (v2.1,v2.2.1,v2.2.2.1,v2.2.2.2.1,v3,())).bind λ v6=>some (v6.1,(0:Int),()))))else ((idx e.2.2.1 (1:Int)).bind λ v4=>(bif !v2.2.2.2.2.1==v4 then some (rp,(33:Int),())else ((yFo rp v1.1 (v2.1,v2.2.1,v2.2.2.1,v2.2.2.2.1,[],())).bind λ v7=>some (v7.1,(0:Int),())))))))))
def yGD(rp:Q1)(e:Q2):Option ((Q1)×Int×Unit):=yKm 0 rp e
abbrev z0T_e:Entry:={ f:=119,args:=.pair t41 (.pair t56 .unit),rS:=.pair t41 (.pair t3 .unit),m:=λ x=>yGD x.1 x.2.1 }
theorem yOT:FnOK Tryz.prog z0T_e:=fF 0 Tryz.f119 (λ n x=>yKm n x.1 x.2.1) [] (yE yIR (yE yLu eNil))
def yEQ(n:Nat)(r2:Q2->Int->Int->Int->Int->Int->Int->Int->Int->List UInt8->Int->List (Q3)->List (List UInt8)->List (Q6)->Int->Int->Int->Int->Int->Int->Int->List UInt8->Int->List (List UInt8)->Option ((Q1)×Int×Unit))(cS:Q2)(d7 a7 aa ae b8 b9 bc bd:Int)(bf:List UInt8)(bg:Int)(cy:List (Q3))(bE:List (List UInt8))(bW:List (Q6))(bh bi bj bl bm bn bp:Int)(bq:List UInt8)(br:Int)(cp:List (List UInt8)):Option ((Q1)×Int×Unit):=
  (bif decide (d7 < (↑bE.length:Int))then ((idx bE d7).bind λ v3=>((idx cS.2.2.1 (0:Int)).bind λ v4=>(bif !v3==v4 then ((idx bE d7).bind λ v5=>(bif decide (cp.length+(1:Nat)<=memMax)then r2 cS (i64.wrap (d7+1)) a7 aa ae b8 b9 bc bd bf bg cy bE bW bh bi bj bl bm bn bp bq br (cp++[v5])else none))else r2 cS (i64.wrap (d7+1)) a7 aa ae b8 b9 bc bd bf bg cy bE bW bh bi bj bl bm bn bp bq br cp)))else some ((a7,(aa,ae,()),b8,b9,bc,bd,bf,bg,cy,cp,bW,()),(0:Int),()))
def y7B(n k:Nat)(cS:Q2)(d7 a7 aa ae b8 b9 bc bd:Int)(bf:List UInt8)(bg:Int)(cy:List (Q3))(bE:List (List UInt8))(bW:List (Q6))(bh bi bj bl bm bn bp:Int)(bq:List UInt8)(br:Int)(cp:List (List UInt8)):Option ((Q1)×Int×Unit):=
  iter (λ r y=>yEQ n (λ cS d7 a7 aa ae b8 b9 bc bd bf bg cy bE bW bh bi bj bl bm bn bp bq br cp=>r ((cS,(d7,())),(((a7,(aa,(ae,(b8,(b9,(bc,(bd,(bf,(bg,(cy,(bE,(bW,())))))))))))),((bh,(bi,(bj,(bl,(bm,(bn,(bp,(bq,(br,()))))))))),(cp,()))),()))) y.1.1 y.1.2.1 y.2.1.1.1 y.2.1.1.2.1 y.2.1.1.2.2.1 y.2.1.1.2.2.2.1 y.2.1.1.2.2.2.2.1 y.2.1.1.2.2.2.2.2.1 y.2.1.1.2.2.2.2.2.2.1 y.2.1.1.2.2.2.2.2.2.2.1 y.2.1.1.2.2.2.2.2.2.2.2.1 y.2.1.1.2.2.2.2.2.2.2.2.2.1 y.2.1.1.2.2.2.2.2.2.2.2.2.2.1 y.2.1.1.2.2.2.2.2.2.2.2.2.2.2.1 y.2.1.2.1.1 y.2.1.2.1.2.1 y.2.1.2.1.2.2.1 y.2.1.2.1.2.2.2.1 y.2.1.2.1.2.2.2.2.1 y.2.1.2.1.2.2.2.2.2.1 y.2.1.2.1.2.2.2.2.2.2.1 y.2.1.2.1.2.2.2.2.2.2.2.1 y.2.1.2.1.2.2.2.2.2.2.2.2.1 y.2.1.2.2.1) k ((cS,(d7,())),(((a7,(aa,(ae,(b8,(b9,(bc,(bd,(bf,(bg,(cy,(bE,(bW,())))))))))))),((bh,(bi,(bj,(bl,(bm,(bn,(bp,(bq,(br,()))))))))),(cp,()))),()))
def y7s(n:Nat)(r11:Q2->Bool->Int->Int->Int->Int->Int->Int->Int->Int->List UInt8->Int->List (Q3)->List (List UInt8)->List (Q6)->Int->Int->Int->Int->Int->Int->Int->List UInt8->Int->List (List UInt8)->Option ((Q1)×Int×Unit))(bK:Q2)(av:Bool)(bG aA aB aC aD aE aF aG:Int)(aH:List UInt8)(aI:Int)(aJ:List (Q3))(a8:List (List UInt8))(ax:List (Q6))(aV aW aX aY aZ b4 b5:Int)(b6:List UInt8)(b7:Int)(bA:List (List UInt8))(j15:Bool):Option ((Q1)×Int×Unit):=
  (bif j15 then ((idx bK.2.2.1 (0:Int)).bind λ v16=>(bif decide (bA.length+(1:Nat)<=memMax)then ((idx a8 bG).bind λ v18=>(bif decide ((bA++[v16]).length+(1:Nat)<=memMax)then r11 bK Bool.true (i64.wrap (bG+1)) aA aB aC aD aE aF aG aH aI aJ a8 ax aV aW aX aY aZ b4 b5 b6 b7 (bA++[v16]++[v18])else none))else none))else ((idx a8 bG).bind λ v19=>(bif decide (bA.length+(1:Nat)<=memMax)then r11 bK av (i64.wrap (bG+1)) aA aB aC aD aE aF aG aH aI aJ a8 ax aV aW aX aY aZ b4 b5 b6 b7 (bA++[v19])else none)))
def yBe(n:Nat)(r11:Q2->Bool->Int->Int->Int->Int->Int->Int->Int->Int->List UInt8->Int->List (Q3)->List (List UInt8)->List (Q6)->Int->Int->Int->Int->Int->Int->Int->List UInt8->Int->List (List UInt8)->Option ((Q1)×Int×Unit))(bK:Q2)(av:Bool)(bG aA aB aC aD aE aF aG:Int)(aH:List UInt8)(aI:Int)(aJ:List (Q3))(a8:List (List UInt8))(ax:List (Q6))(aV aW aX aY aZ b4 b5:Int)(b6:List UInt8)(b7:Int)(bA:List (List UInt8)):Option ((Q1)×Int×Unit):=
  (bif decide (bG < (↑a8.length:Int))then (bif !av then ((idx bK.2.2.1 (0:Int)).bind λ v12=>((idx a8 bG).bind λ v13=>(y7s n r11 bK av bG aA aB aC aD aE aF aG aH aI aJ a8 ax aV aW aX aY aZ b4 b5 b6 b7 bA (Go.Op.bytesLess v12 v13))))else (y7s n r11 bK av bG aA aB aC aD aE aF aG aH aI aJ a8 ax aV aW aX aY aZ b4 b5 b6 b7 bA (Bool.false)))else (bif !av then ((idx bK.2.2.1 (0:Int)).bind λ v20=>(bif decide (bA.length+(1:Nat)<=memMax)then some ((aA,(aB,aC,()),aD,aE,aF,aG,aH,aI,aJ,bA++[v20],ax,()),(0:Int),())else none))else some ((aA,(aB,aC,()),aD,aE,aF,aG,aH,aI,aJ,bA,ax,()),(0:Int),())))
def y5c(n k:Nat)(bK:Q2)(av:Bool)(bG aA aB aC aD aE aF aG:Int)(aH:List UInt8)(aI:Int)(aJ:List (Q3))(a8:List (List UInt8))(ax:List (Q6))(aV aW aX aY aZ b4 b5:Int)(b6:List UInt8)(b7:Int)(bA:List (List UInt8)):Option ((Q1)×Int×Unit):=
  iter (λ r y=>yBe n (λ bK av bG aA aB aC aD aE aF aG aH aI aJ a8 ax aV aW aX aY aZ b4 b5 b6 b7 bA=>r ((bK,(av,(bG,()))),(((aA,(aB,(aC,(aD,(aE,(aF,(aG,(aH,(aI,(aJ,(a8,(ax,())))))))))))),((aV,(aW,(aX,(aY,(aZ,(b4,(b5,(b6,(b7,()))))))))),(bA,()))),()))) y.1.1 y.1.2.1 y.1.2.2.1 y.2.1.1.1 y.2.1.1.2.1 y.2.1.1.2.2.1 y.2.1.1.2.2.2.1 y.2.1.1.2.2.2.2.1 y.2.1.1.2.2.2.2.2.1 y.2.1.1.2.2.2.2.2.2.1 y.2.1.1.2.2.2.2.2.2.2.1 y.2.1.1.2.2.2.2.2.2.2.2.1 y.2.1.1.2.2.2.2.2.2.2.2.2.1 y.2.1.1.2.2.2.2.2.2.2.2.2.2.1 y.2.1.1.2.2.2.2.2.2.2.2.2.2.2.1 y.2.1.2.1.1 y.2.1.2.1.2.1 y.2.1.2.1.2.2.1 y.2.1.2.1.2.2.2.1 y.2.1.2.1.2.2.2.2.1 y.2.1.2.1.2.2.2.2.2.1 y.2.1.2.1.2.2.2.2.2.2.1 y.2.1.2.1.2.2.2.2.2.2.2.1 y.2.1.2.1.2.2.2.2.2.2.2.2.1 y.2.1.2.2.1) k ((bK,(av,(bG,()))),(((aA,(aB,(aC,(aD,(aE,(aF,(aG,(aH,(aI,(aJ,(a8,(ax,())))))))))))),((aV,(aW,(aX,(aY,(aZ,(b4,(b5,(b6,(b7,()))))))))),(bA,()))),()))
def yEM(n:Nat)(r6:Q2->Bool->Int->Int->Int->Int->Int->Int->Int->Int->List UInt8->Int->List (Q3)->List (List UInt8)->List (Q6)->Int->Int->Int->Int->Int->Int->Int->List UInt8->Int->List (List UInt8)->Option ((Q1)×Int×Unit))(cR:Q2)(bF:Bool)(cX bM bN bO bQ bR bS bT:Int)(bU:List UInt8)(bV:Int)(bB:List (Q3))(aK:List (List UInt8))(bx:List (Q6))(ce cf cg ci cj ck cl:Int)(cm:List UInt8)(cn:Int)(cT:List (List UInt8)):Option ((Q1)×Int×Unit):=
  (bif decide (cX < (↑bB.length:Int))then (bif bF then r6 cR Bool.true (i64.wrap (cX+1)) bM bN bO bQ bR bS bT bU bV bB aK bx ce cf cg ci cj ck cl cm cn cT else ((idx bB cX).bind λ v7=>r6 cR v7.2.1 (i64.wrap (cX+1)) bM bN bO bQ bR bS bT bU bV bB aK bx ce cf cg ci cj ck cl cm cn cT))else (bif bF then some ((bM,(bN,bO,()),bQ,bR,bS,bT,bU,bV,bB,aK,bx,()),(20:Int),())else (bif decide ((↑aK.length:Int) >= 16)then some ((bM,(bN,bO,()),bQ,bR,bS,bT,bU,bV,bB,aK,bx,()),(5:Int),())else (y5c n n (cR) (Bool.false) ((0:Int)) (bM) (bN) (bO) (bQ) (bR) (bS) (bT) (bU) (bV) (bB) (aK) (bx) (ce) (cf) (cg) (ci) (cj) (ck) (cl) (cm) (cn) (cT)))))
def y7E(n k:Nat)(cR:Q2)(bF:Bool)(cX bM bN bO bQ bR bS bT:Int)(bU:List UInt8)(bV:Int)(bB:List (Q3))(aK:List (List UInt8))(bx:List (Q6))(ce cf cg ci cj ck cl:Int)(cm:List UInt8)(cn:Int)(cT:List (List UInt8)):Option ((Q1)×Int×Unit):=
  iter (λ r y=>yEM n (λ cR bF cX bM bN bO bQ bR bS bT bU bV bB aK bx ce cf cg ci cj ck cl cm cn cT=>r ((cR,(bF,(cX,()))),(((bM,(bN,(bO,(bQ,(bR,(bS,(bT,(bU,(bV,(bB,(aK,(bx,())))))))))))),((ce,(cf,(cg,(ci,(cj,(ck,(cl,(cm,(cn,()))))))))),(cT,()))),()))) y.1.1 y.1.2.1 y.1.2.2.1 y.2.1.1.1 y.2.1.1.2.1 y.2.1.1.2.2.1 y.2.1.1.2.2.2.1 y.2.1.1.2.2.2.2.1 y.2.1.1.2.2.2.2.2.1 y.2.1.1.2.2.2.2.2.2.1 y.2.1.1.2.2.2.2.2.2.2.1 y.2.1.1.2.2.2.2.2.2.2.2.1 y.2.1.1.2.2.2.2.2.2.2.2.2.1 y.2.1.1.2.2.2.2.2.2.2.2.2.2.1 y.2.1.1.2.2.2.2.2.2.2.2.2.2.2.1 y.2.1.2.1.1 y.2.1.2.1.2.1 y.2.1.2.1.2.2.1 y.2.1.2.1.2.2.2.1 y.2.1.2.1.2.2.2.2.1 y.2.1.2.1.2.2.2.2.2.1 y.2.1.2.1.2.2.2.2.2.2.1 y.2.1.2.1.2.2.2.2.2.2.2.1 y.2.1.2.1.2.2.2.2.2.2.2.2.1 y.2.1.2.2.1) k ((cR,(bF,(cX,()))),(((bM,(bN,(bO,(bQ,(bR,(bS,(bT,(bU,(bV,(bB,(aK,(bx,())))))))))))),((ce,(cf,(cg,(ci,(cj,(ck,(cl,(cm,(cn,()))))))))),(cT,()))),()))
def yRJ(n:Nat)(rp:Q1)(e:Q2):Option ((Q1)×Int×Unit):=
  ((idx e.2.2.1 (0:Int)).bind λ v0=>((yDr rp.2.2.2.2.2.2.2.2.2.1 v0).bind λ v1=>(bif e.2.1==[(108:UInt8),101,97,118,101]then (bif !v1.1 then some (rp,(10:Int),())else (y7B n n (e) ((0:Int)) (rp.1) (rp.2.1.1) (rp.2.1.2.1) (rp.2.2.1) (rp.2.2.2.1) (rp.2.2.2.2.1) (rp.2.2.2.2.2.1) (rp.2.2.2.2.2.2.1) (rp.2.2.2.2.2.2.2.1) (rp.2.2.2.2.2.2.2.2.1) (rp.2.2.2.2.2.2.2.2.2.1) (rp.2.2.2.2.2.2.2.2.2.2.1) ((0:Int)) ((0:Int)) ((0:Int)) ((0:Int)) ((0:Int)) ((0:Int)) ((0:Int)) ([]) ((0:Int)) ([])))else (bif v1.1 then some (rp,(9:Int),())else (y7E n n (e) (rp.2.2.2.2.2.2.1==[(99:UInt8),108,111,115,101]) ((0:Int)) (rp.1) (rp.2.1.1) (rp.2.1.2.1) (rp.2.2.1) (rp.2.2.2.1) (rp.2.2.2.2.1) (rp.2.2.2.2.2.1) (rp.2.2.2.2.2.2.1) (rp.2.2.2.2.2.2.2.1) (rp.2.2.2.2.2.2.2.2.1) (rp.2.2.2.2.2.2.2.2.2.1) (rp.2.2.2.2.2.2.2.2.2.2.1) ((0:Int)) ((0:Int)) ((0:Int)) ((0:Int)) ((0:Int)) ((0:Int)) ((0:Int)) ([]) ((0:Int)) ([]))))))
def yJW(cS:Q2)(a7 aa ae b8 b9 bc bd:Int)(bf:List UInt8)(bg:Int)(cy:List (Q3))(bE:List (List UInt8))(bW:List (Q6))(bh bi bj bl bm bn bp:Int)(bq:List UInt8)(br d7:Int)(v3:List UInt8)(cp:List (List UInt8)):Option (((Q1)×Int×Unit)⊕(List (List UInt8))):=
  ((idx cS.2.2.1 (0:Int)).bind λ v4=>(bif !v3==v4 then ((idx bE d7).bind λ v5=>(bif decide (cp.length+(1:Nat)<=memMax)then (some (Sum.inr (cp++[v5])))else none))else (some (Sum.inr (cp)))))
def yLk(cS:Q2)(a7 aa ae b8 b9 bc bd:Int)(bf:List UInt8)(bg:Int)(cy:List (Q3))(bE:List (List UInt8))(bW:List (Q6))(bh bi bj bl bm bn bp:Int)(bq:List UInt8)(br:Int)(cp:List (List UInt8)):Option ((Q1)×Int×Unit):=
  (some (((a7,(aa,ae,()),b8,b9,bc,bd,bf,bg,cy,cp,bW,()),(0:Int),())))
theorem yD9(n:Nat)(hn:big<=n)(cS:Q2)(a7 aa ae b8 b9 bc bd:Int)(bf:List UInt8)(bg:Int)(cy:List (Q3))(bE:List (List UInt8))(bW:List (Q6))(bh bi bj bl bm bn bp:Int)(bq:List UInt8)(br:Int)(cp:List (List UInt8))(hx:List.length (bE) < yD):LeF some (yd (λ ay cD ac=>yJW cS a7 aa ae b8 b9 bc bd bf bg cy bE bW bh bi bj bl bm bn bp bq br ay cD ac) (λ ac=>yLk cS a7 aa ae b8 b9 bc bd bf bg cy bE bW bh bi bj bl bm bn bp bq br ac) 0 (bE) cp) (y7B n n cS 0 a7 aa ae b8 b9 bc bd bf bg cy bE bW bh bi bj bl bm bn bp bq br cp):=by
  refine y04 (f:=some) (W:=λ bY ay ac=>y7B n bY cS ay a7 aa ae b8 b9 bc bd bf bg cy bE bW bh bi bj bl bm bn bp bq br ac) (λ bY ay ac=>?_) hx cp n (by unfold big at hn;unfold yD at hx;omega)
  show LeF _ _ (yEQ n (y7B n bY) cS ay a7 aa ae b8 b9 bc bd bf bg cy bE bW bh bi bj bl bm bn bp bq br ac)
  exact y7 (yI λ v3=>(yI λ v4=>(y7 (yI λ v5=>(y7 (y9 rfl) y01)) (y9 rfl)))) (y1l (y9 rfl))
def yB2(bK:Q2)(av:Bool)(bG aA aB aC aD aE aF aG:Int)(aH:List UInt8)(aI:Int)(aJ:List (Q3))(a8:List (List UInt8))(ax:List (Q6))(aV aW aX aY aZ b4 b5:Int)(b6:List UInt8)(b7:Int)(bA:List (List UInt8))(j15:Bool):Option (((Q1)×Int×Unit)⊕(Bool×List (List UInt8))):=
  (bif j15 then ((idx bK.2.2.1 (0:Int)).bind λ v16=>(bif decide (bA.length+(1:Nat)<=memMax)then ((idx a8 bG).bind λ v18=>(bif decide ((bA++[v16]).length+(1:Nat)<=memMax)then (some (Sum.inr ((Bool.true),(bA++[v16]++[v18]))))else none))else none))else ((idx a8 bG).bind λ v19=>(bif decide (bA.length+(1:Nat)<=memMax)then (some (Sum.inr ((av),(bA++[v19]))))else none)))
theorem y2Y(n:Nat)(hn:big<=n)(r11:Q2->Bool->Int->Int->Int->Int->Int->Int->Int->Int->List UInt8->Int->List (Q3)->List (List UInt8)->List (Q6)->Int->Int->Int->Int->Int->Int->Int->List UInt8->Int->List (List UInt8)->Option ((Q1)×Int×Unit))(bK:Q2)(av:Bool)(bG aA aB aC aD aE aF aG:Int)(aH:List UInt8)(aI:Int)(aJ:List (Q3))(a8:List (List UInt8))(ax:List (Q6))(aV aW aX aY aZ b4 b5:Int)(b6:List UInt8)(b7:Int)(bA:List (List UInt8))(j15:Bool):LeF (elim some λ (ac:(Bool×List (List UInt8)))=>r11 bK ac.1 (i64.wrap (bG+1)) aA aB aC aD aE aF aG aH aI aJ a8 ax aV aW aX aY aZ b4 b5 b6 b7 ac.2) (yB2 bK av bG aA aB aC aD aE aF aG aH aI aJ a8 ax aV aW aX aY aZ b4 b5 b6 b7 bA j15) (y7s n r11 bK av bG aA aB aC aD aE aF aG aH aI aJ a8 ax aV aW aX aY aZ b4 b5 b6 b7 bA j15):=
  (y7 (yI λ v16=>(y7 (yI λ v18=>(y7 (y9 rfl) y01)) y01)) (yI λ v19=>(y7 (y9 rfl) y01)))
def yDC(bK:Q2)(aA aB aC aD aE aF aG:Int)(aH:List UInt8)(aI:Int)(aJ:List (Q3))(a8:List (List UInt8))(ax:List (Q6))(aV aW aX aY aZ b4 b5:Int)(b6:List UInt8)(b7 bG:Int)(av:Bool)(bA:List (List UInt8)):Option (((Q1)×Int×Unit)⊕(Bool×List (List UInt8))):=
  (bif !av then ((idx bK.2.2.1 (0:Int)).bind λ v12=>((idx a8 bG).bind λ v13=>(yB2 bK av bG aA aB aC aD aE aF aG aH aI aJ a8 ax aV aW aX aY aZ b4 b5 b6 b7 bA (Go.Op.bytesLess v12 v13))))else (yB2 bK av bG aA aB aC aD aE aF aG aH aI aJ a8 ax aV aW aX aY aZ b4 b5 b6 b7 bA (Bool.false)))
def yE6(bK:Q2)(aA aB aC aD aE aF aG:Int)(aH:List UInt8)(aI:Int)(aJ:List (Q3))(a8:List (List UInt8))(ax:List (Q6))(aV aW aX aY aZ b4 b5:Int)(b6:List UInt8)(b7:Int)(av:Bool)(bA:List (List UInt8)):Option ((Q1)×Int×Unit):=
  (bif !av then ((idx bK.2.2.1 (0:Int)).bind λ v20=>(bif decide (bA.length+(1:Nat)<=memMax)then (some (((aA,(aB,aC,()),aD,aE,aF,aG,aH,aI,aJ,bA++[v20],ax,()),(0:Int),())))else none))else (some (((aA,(aB,aC,()),aD,aE,aF,aG,aH,aI,aJ,bA,ax,()),(0:Int),()))))
theorem yBx(n:Nat)(hn:big<=n)(bK:Q2)(aA aB aC aD aE aF aG:Int)(aH:List UInt8)(aI:Int)(aJ:List (Q3))(a8:List (List UInt8))(ax:List (Q6))(aV aW aX aY aZ b4 b5:Int)(b6:List UInt8)(b7:Int)(av:Bool)(bA:List (List UInt8))(hx:((↑a8.length:Int))<=9223372036854775807):LeF some (y2t (λ ay ac=>yDC bK aA aB aC aD aE aF aG aH aI aJ a8 ax aV aW aX aY aZ b4 b5 b6 b7 ay ac.1 ac.2) (λ ac=>yE6 bK aA aB aC aD aE aF aG aH aI aJ a8 ax aV aW aX aY aZ b4 b5 b6 b7 ac.1 ac.2) (((↑a8.length:Int)) - 0).toNat 0 (av,bA)) (y5c n n bK av 0 aA aB aC aD aE aF aG aH aI aJ a8 ax aV aW aX aY aZ b4 b5 b6 b7 bA):=by
  refine y4f (f:=some) (W:=λ bY ay ac=>y5c n bY bK ac.1 ay aA aB aC aD aE aF aG aH aI aJ a8 ax aV aW aX aY aZ b4 b5 b6 b7 ac.2) (λ bY ay ac=>?_) hx (av,bA) n 0 (by decide) (by unfold big at hn;omega)
  show LeF _ _ (yBe n (y5c n bY) bK ac.1 ay aA aB aC aD aE aF aG aH aI aJ a8 ax aV aW aX aY aZ b4 b5 b6 b7 ac.2)
  exact y7 (y7 (yI λ v12=>(yI λ v13=>(by apply y2Y n hn))) (by apply y2Y n hn)) (y1l (y7 (yI λ v20=>(y7 (y9 rfl) y01)) (y9 rfl)))
def yIl(cR:Q2)(bM bN bO bQ bR bS bT:Int)(bU:List UInt8)(bV:Int)(bB:List (Q3))(aK:List (List UInt8))(bx:List (Q6))(ce cf cg ci cj ck cl:Int)(cm:List UInt8)(cn:Int)(cT:List (List UInt8))(cX:Int)(bF:Bool):Option (((Q1)×Int×Unit)⊕(Bool)):=
  (bif bF then (some (Sum.inr (Bool.true)))else ((idx bB cX).bind λ v7=>(some (Sum.inr (v7.2.1)))))
def yII(cR:Q2)(bM bN bO bQ bR bS bT:Int)(bU:List UInt8)(bV:Int)(bB:List (Q3))(aK:List (List UInt8))(bx:List (Q6))(ce cf cg ci cj ck cl:Int)(cm:List UInt8)(cn:Int)(cT:List (List UInt8))(bF:Bool):Option ((Q1)×Int×Unit):=
  (bif bF then (some (((bM,(bN,bO,()),bQ,bR,bS,bT,bU,bV,bB,aK,bx,()),(20:Int),())))else (bif decide ((↑aK.length:Int) >= 16)then (some (((bM,(bN,bO,()),bQ,bR,bS,bT,bU,bV,bB,aK,bx,()),(5:Int),())))else (bif decide (((↑aK.length:Int))<=9223372036854775807)then y2t (λ ay ac=>yDC (cR) (bM) (bN) (bO) (bQ) (bR) (bS) (bT) (bU) (bV) (bB) (aK) (bx) (ce) (cf) (cg) (ci) (cj) (ck) (cl) (cm) (cn) ay ac.1 ac.2) (λ ac=>yE6 (cR) (bM) (bN) (bO) (bQ) (bR) (bS) (bT) (bU) (bV) (bB) (aK) (bx) (ce) (cf) (cg) (ci) (cj) (ck) (cl) (cm) (cn) ac.1 ac.2) (((↑aK.length:Int)) - 0).toNat 0 ((Bool.false),(cT))else none)))
theorem yDE(n:Nat)(hn:big<=n)(cR:Q2)(bM bN bO bQ bR bS bT:Int)(bU:List UInt8)(bV:Int)(bB:List (Q3))(aK:List (List UInt8))(bx:List (Q6))(ce cf cg ci cj ck cl:Int)(cm:List UInt8)(cn:Int)(cT:List (List UInt8))(bF:Bool)(hx:((↑bB.length:Int))<=9223372036854775807):LeF some (y2t (λ ay ac=>yIl cR bM bN bO bQ bR bS bT bU bV bB aK bx ce cf cg ci cj ck cl cm cn cT ay ac) (λ ac=>yII cR bM bN bO bQ bR bS bT bU bV bB aK bx ce cf cg ci cj ck cl cm cn cT ac) (((↑bB.length:Int)) - 0).toNat 0 bF) (y7E n n cR bF 0 bM bN bO bQ bR bS bT bU bV bB aK bx ce cf cg ci cj ck cl cm cn cT):=by
  refine y4f (f:=some) (W:=λ bY ay ac=>y7E n bY cR ac ay bM bN bO bQ bR bS bT bU bV bB aK bx ce cf cg ci cj ck cl cm cn cT) (λ bY ay ac=>?_) hx bF n 0 (by decide) (by unfold big at hn;omega)
  show LeF _ _ (yEM n (y7E n bY) cR ac ay bM bN bO bQ bR bS bT bU bV bB aK bx ce cf cg ci cj ck cl cm cn cT)
  exact y7 (y7 (y9 rfl) (yI λ v7=>(y9 rfl))) (y1l (y7 (y9 rfl) (y7 (y9 rfl) (yy λ hx=>by apply yBx n hn;exact hx))))
def yEA(rp:Q1)(e:Q2):Option ((Q1)×Int×Unit):=
  ((idx e.2.2.1 (0:Int)).bind λ v0=>((yDr rp.2.2.2.2.2.2.2.2.2.1 v0).bind λ v1=>(bif e.2.1==[(108:UInt8),101,97,118,101]then (bif !v1.1 then (some ((rp,(10:Int),())))else (bif decide (List.length (rp.2.2.2.2.2.2.2.2.2.1) < yD)then yd (λ ay cD ac=>yJW (e) (rp.1) (rp.2.1.1) (rp.2.1.2.1) (rp.2.2.1) (rp.2.2.2.1) (rp.2.2.2.2.1) (rp.2.2.2.2.2.1) (rp.2.2.2.2.2.2.1) (rp.2.2.2.2.2.2.2.1) (rp.2.2.2.2.2.2.2.2.1) (rp.2.2.2.2.2.2.2.2.2.1) (rp.2.2.2.2.2.2.2.2.2.2.1) ((0:Int)) ((0:Int)) ((0:Int)) ((0:Int)) ((0:Int)) ((0:Int)) ((0:Int)) ([]) ((0:Int)) ay cD ac) (λ ac=>yLk (e) (rp.1) (rp.2.1.1) (rp.2.1.2.1) (rp.2.2.1) (rp.2.2.2.1) (rp.2.2.2.2.1) (rp.2.2.2.2.2.1) (rp.2.2.2.2.2.2.1) (rp.2.2.2.2.2.2.2.1) (rp.2.2.2.2.2.2.2.2.1) (rp.2.2.2.2.2.2.2.2.2.1) (rp.2.2.2.2.2.2.2.2.2.2.1) ((0:Int)) ((0:Int)) ((0:Int)) ((0:Int)) ((0:Int)) ((0:Int)) ((0:Int)) ([]) ((0:Int)) ac) 0 (rp.2.2.2.2.2.2.2.2.2.1) ([])else none))else (bif v1.1 then (some ((rp,(9:Int),())))else (bif decide (((↑rp.2.2.2.2.2.2.2.2.1.length:Int))<=9223372036854775807)then y2t (λ ay ac=>yIl (e) (rp.1) (rp.2.1.1) (rp.2.1.2.1) (rp.2.2.1) (rp.2.2.2.1) (rp.2.2.2.2.1) (rp.2.2.2.2.2.1) (rp.2.2.2.2.2.2.1) (rp.2.2.2.2.2.2.2.1) (rp.2.2.2.2.2.2.2.2.1) (rp.2.2.2.2.2.2.2.2.2.1) (rp.2.2.2.2.2.2.2.2.2.2.1) ((0:Int)) ((0:Int)) ((0:Int)) ((0:Int)) ((0:Int)) ((0:Int)) ((0:Int)) ([]) ((0:Int)) ([]) ay ac) (λ ac=>yII (e) (rp.1) (rp.2.1.1) (rp.2.1.2.1) (rp.2.2.1) (rp.2.2.2.1) (rp.2.2.2.2.1) (rp.2.2.2.2.2.1) (rp.2.2.2.2.2.2.1) (rp.2.2.2.2.2.2.2.1) (rp.2.2.2.2.2.2.2.2.1) (rp.2.2.2.2.2.2.2.2.2.1) (rp.2.2.2.2.2.2.2.2.2.2.1) ((0:Int)) ((0:Int)) ((0:Int)) ((0:Int)) ((0:Int)) ((0:Int)) ((0:Int)) ([]) ((0:Int)) ([]) ac) (((↑rp.2.2.2.2.2.2.2.2.1.length:Int)) - 0).toNat 0 (rp.2.2.2.2.2.2.1==[(99:UInt8),108,111,115,101])else none)))))
abbrev z0U_e:Entry:={ f:=120,args:=.pair t41 (.pair t56 .unit),rS:=.pair t41 (.pair t3 .unit),m:=λ x=>yEA x.1 x.2.1 }
theorem yPY:FnOK Tryz.prog z0U_e:=fB (mu:=[2,7]) Tryz.f120 (λ n x=>yRJ n x.1 x.2.1) [[2,3,4,7,8],[2,3,4,7,9,10],[2,3,4,7,11,12]] (yE yOw eNil) λ n hn x=>(yI λ v0=>(yI λ v1=>(y7 (y7 (y9 rfl) (yy λ hx=>by apply yD9 n hn;exact hx)) (y7 (y9 rfl) (yy λ hx=>by apply yDE n hn;exact hx)))))
def yOJ(n:Nat)(e:Q2):Option (List UInt8×Unit):=
  ((yCk e.1).bind λ v0=>(bif decide ((2:Nat)+e.2.2.1.length<=memMax)then ((zJ_M e.2.2.2.1 λ (x:Int×Unit)=>yCk x.1).bind λ v1=>(bif decide (([v0.1,e.2.1]++e.2.2.1).length+v1.1.length<=memMax)then ((yIy ([v0.1,e.2.1]++e.2.2.1++v1.1) [(32:UInt8)]).bind λ v2=>some (v2.1,()))else none))else none))
def yPU(e:Q2):Option (List UInt8×Unit):=yOJ 0 e
abbrev z0X_e:Entry:={ f:=122,args:=.pair t56 .unit,rS:=.pair t9 .unit,m:=λ x=>yPU x.1 }
theorem yPQ:FnOK Tryz.prog z0X_e:=fF (mu:=[9]) 0 Tryz.f122 (λ n x=>yOJ n x.1) [] (yE y9O (yE yPG (yE yJ4 eNil)))
def zf_m(n:Nat)(rp:Q1)(p1:List (List UInt8)):Option (Q6):=
  some ((zM rp).1,(0:Int),())
def zf(rp:Q1)(p1:List (List UInt8)):(Q6):=
  ((zM rp).1,(0:Int),())
abbrev zf_M (rp:Q1)(p1:List (List UInt8)):Option (Q6):=some (zf rp p1)
abbrev zf_e:Entry:={ f:=133,args:=.pair t60 (.pair t38 .unit),rS:=.pair t9 (.pair t29 .unit),m:=λ x=>zf_M x.1 x.2.1 }
theorem yQh:FnOK Tryz.prog zf_e:=fF (hm:=by intro x;show some (zf x.1 x.2.1)=zf_m 0 x.1 x.2.1;unfold zf_m zf;first|rfl|(simp only[yG];done)|(simp only[yG];rfl)) 0 Tryz.f133 (λ n x=>zf_m n x.1 x.2.1) [] (yE yMy eNil)
def zg_m(n:Nat)(rp:Q1)(p1:List (List UInt8)):Option (Q6):=
  ((yCk rp.2.2.2.2.2.2.2.1).bind λ v0=>((yG6 [rp.2.2.2.2.2.2.1,v0.1]).bind λ v1=>some (v1.1,v1.2.1,())))
def zg_M(rp:Q1)(p1:List (List UInt8)):Option (Q6):=zg_m 0 rp p1
abbrev zg_e:Entry:={ f:=134,args:=.pair t60 (.pair t38 .unit),rS:=.pair t9 (.pair t29 .unit),m:=λ x=>zg_M x.1 x.2.1 }
theorem yQI:FnOK Tryz.prog zg_e:=fF 0 Tryz.f134 (λ n x=>zg_m n x.1 x.2.1) [] (yE y9O (yE y9U eNil))
def zi_m(n:Nat)(rp:Q1)(p1:List (List UInt8)):Option (Q6):=
  ((yG6 rp.2.2.2.2.2.2.2.2.2.1).bind λ v0=>some (v0.1,v0.2.1,()))
def zi_M(rp:Q1)(p1:List (List UInt8)):Option (Q6):=zi_m 0 rp p1
abbrev zi_e:Entry:={ f:=139,args:=.pair t60 (.pair t38 .unit),rS:=.pair t9 (.pair t29 .unit),m:=λ x=>zi_M x.1 x.2.1 }
theorem yQD:FnOK Tryz.prog zi_e:=fF 0 Tryz.f139 (λ n x=>zi_m n x.1 x.2.1) [] (yE y9U eNil)
def yPM(n:Nat)(l:List Int):Option (Q6):=
  ((zJ_M l λ (x:Int×Unit)=>yCk x.1).bind λ v0=>((yG6 v0.1).bind λ v1=>some (v1.1,v1.2.1,())))
def yMi(l:List Int):Option (Q6):=yPM 0 l
abbrev z05_e:Entry:={ f:=143,args:=.pair t34 .unit,rS:=.pair t9 (.pair t29 .unit),m:=λ x=>yMi x.1 }
theorem yIX:FnOK Tryz.prog z05_e:=fF 0 Tryz.f143 (λ n x=>yPM n x.1) [] (yE yPG (yE y9O (yE y9U eNil)))
def zD_m(n:Nat)(s:List (List UInt8))(v:List UInt8):Option (Bool×Unit):=
  ((zG_M s v).bind λ v0=>some (decide (v0.1 >= 0),()))
def zD_M(s:List (List UInt8))(v:List UInt8):Option (Bool×Unit):=zD_m 0 s v
abbrev zD_e:Entry:={ f:=147,args:=.pair t38 (.pair t9 .unit),rS:=.pair t4 .unit,m:=λ x=>zD_M x.1 x.2.1 }
theorem yPB:FnOK Tryz.prog zD_e:=fF 0 Tryz.f147 (λ n x=>zD_m n x.1 x.2.1) [] (yE yQq eNil)
def zS_m(n:Nat)(rp:Q1)(name:List UInt8):Option (Int×Unit):=
  ((yHK (↑rp.2.2.2.2.2.2.2.2.2.2.1.length:Int) λ (x:Int×Unit)=>zK_M x.1 rp name).bind λ v0=>some (v0.1,()))
def zS_M(rp:Q1)(name:List UInt8):Option (Int×Unit):=zS_m 0 rp name
abbrev zS_e:Entry:={ f:=175,args:=.pair t60 (.pair t9 .unit),rS:=.pair t3 .unit,m:=λ x=>zS_M x.1 x.2.1 }
theorem yOj:FnOK Tryz.prog zS_e:=fF 0 Tryz.f175 (λ n x=>zS_m n x.1 x.2.1) [] (yE yRS (yE yLm eNil))
def zV_m(n:Nat)(s:List UInt8):Option (Int×Unit):=
  (bif !s==[(99:UInt8),108,111,115,101]then (bif !s==[(111:UInt8),112,101,110]then some ((z0b (!s==[(119:UInt8),97,105,116]) (13:Int)).1,())else some ((z0b Bool.false (13:Int)).1,()))else some ((z0b Bool.false (13:Int)).1,()))
def zV(s:List UInt8):(Int×Unit):=
  (bif !s==[(99:UInt8),108,111,115,101]then (bif !s==[(111:UInt8),112,101,110]then ((z0b (!s==[(119:UInt8),97,105,116]) (13:Int)).1,())else ((z0b Bool.false (13:Int)).1,()))else ((z0b Bool.false (13:Int)).1,()))
abbrev zV_M (s:List UInt8):Option (Int×Unit):=some (zV s)
abbrev zV_e:Entry:={ f:=186,args:=.pair t9 .unit,rS:=.pair t29 .unit,m:=λ x=>zV_M x.1 }
theorem yQQ:FnOK Tryz.prog zV_e:=fF (hm:=by intro x;show some (zV x.1)=zV_m 0 x.1;unfold zV_m zV;first|rfl|(simp only[yG];done)|(simp only[yG];rfl)) 0 Tryz.f186 (λ n x=>zV_m n x.1) [] (yE y4C eNil)
abbrev yNd:Ty:=.pair t60 .unit
abbrev yOp:Ty:=.pair t41 .unit
def yOR:G:={ T:=T,E:=[],mU:=[3,26],fz:=[],on:=[26] }
def yQR:List (List Nat):=[[1,2,3,28,29,30],[2,3,42,43,44]]
def yOq(n:Nat):Ann:={ keep:=yQR,fuel:=n,inl:=[],deep:=0 }
def yEW(n:Nat)(r2:List (Q6)->Int->Int->Int->Int->Int->Int->Int->Int->Int->List UInt8->Int->Int->Int->Int->Int->Int->Int->Int->List UInt8->Int->List (List UInt8)->List (Q3)->List (Q6)->Option ((Q1)×Unit))(cz:List (Q6))(d8 d5 a7 aa ae b8 b9 bc bd:Int)(bf:List UInt8)(bg bh bi bj bl bm bn bp:Int)(bq:List UInt8)(br:Int)(cb:List (List UInt8))(cp:List (Q3))(cU:List (Q6)):Option ((Q1)×Unit):=
  (bif decide (d5 < d8)then ((idx cz d5).bind λ v3=>(bif decide (cU.length+(1:Nat)<=memMax)then r2 cz d8 (i64.wrap (d5+1)) a7 aa ae b8 b9 bc bd bf bg bh bi bj bl bm bn bp bq br cb cp (cU++[(v3.1,v3.2.1,())])else none))else some ((bh,(bi,bj,()),bl,bm,bn,bp,bq,br,cp,cb,cU,()),()))
def y7A(n k:Nat)(cz:List (Q6))(d8 d5 a7 aa ae b8 b9 bc bd:Int)(bf:List UInt8)(bg bh bi bj bl bm bn bp:Int)(bq:List UInt8)(br:Int)(cb:List (List UInt8))(cp:List (Q3))(cU:List (Q6)):Option ((Q1)×Unit):=
  iter (λ r y=>yEW n (λ cz d8 d5 a7 aa ae b8 b9 bc bd bf bg bh bi bj bl bm bn bp bq br cb cp cU=>r ((cz,(d8,(d5,()))),(((a7,(aa,(ae,(b8,(b9,(bc,(bd,(bf,(bg,()))))))))),((bh,(bi,(bj,(bl,(bm,(bn,(bp,(bq,(br,(cb,())))))))))),(cp,(cU,())))),()))) y.1.1 y.1.2.1 y.1.2.2.1 y.2.1.1.1 y.2.1.1.2.1 y.2.1.1.2.2.1 y.2.1.1.2.2.2.1 y.2.1.1.2.2.2.2.1 y.2.1.1.2.2.2.2.2.1 y.2.1.1.2.2.2.2.2.2.1 y.2.1.1.2.2.2.2.2.2.2.1 y.2.1.1.2.2.2.2.2.2.2.2.1 y.2.1.2.1.1 y.2.1.2.1.2.1 y.2.1.2.1.2.2.1 y.2.1.2.1.2.2.2.1 y.2.1.2.1.2.2.2.2.1 y.2.1.2.1.2.2.2.2.2.1 y.2.1.2.1.2.2.2.2.2.2.1 y.2.1.2.1.2.2.2.2.2.2.2.1 y.2.1.2.1.2.2.2.2.2.2.2.2.1 y.2.1.2.1.2.2.2.2.2.2.2.2.2.1 y.2.1.2.2.1 y.2.1.2.2.2.1) k ((cz,(d8,(d5,()))),(((a7,(aa,(ae,(b8,(b9,(bc,(bd,(bf,(bg,()))))))))),((bh,(bi,(bj,(bl,(bm,(bn,(bp,(bq,(br,(cb,())))))))))),(cp,(cU,())))),()))
def yEO(n:Nat)(r0:Q1->List (Q3)->Int->Int->Int->Int->Int->Int->Int->Int->Int->List UInt8->Int->Int->Int->Int->Int->Int->Int->Int->List UInt8->Int->List (List UInt8)->List (Q3)->List (Q6)->Option ((Q1)×Unit))(cL:Q1)(cA:List (Q3))(d9 d6 af ah ai aj ak am aq:Int)(ar:List UInt8)(au aL aM aN aO aP aQ aR:Int)(aS:List UInt8)(aT:Int)(bX:List (List UInt8))(bz:List (Q3))(d3:List (Q6)):Option ((Q1)×Unit):=
  (bif decide (d6 < d9)then ((idx cA d6).bind λ v1=>(bif decide (bz.length+(1:Nat)<=memMax)then r0 cL cA d9 (i64.wrap (d6+1)) af ah ai aj ak am aq ar au aL aM aN aO aP aQ aR aS aT bX (bz++[v1]) d3 else none))else (y7A n n (cL.2.2.2.2.2.2.2.2.2.2.1) ((↑cL.2.2.2.2.2.2.2.2.2.2.1.length:Int)) ((0:Int)) (af) (ah) (ai) (aj) (ak) (am) (aq) (ar) (au) (aL) (aM) (aN) (aO) (aP) (aQ) (aR) (aS) (aT) (bX) (bz) (d3)))
def y7L(n k:Nat)(cL:Q1)(cA:List (Q3))(d9 d6 af ah ai aj ak am aq:Int)(ar:List UInt8)(au aL aM aN aO aP aQ aR:Int)(aS:List UInt8)(aT:Int)(bX:List (List UInt8))(bz:List (Q3))(d3:List (Q6)):Option ((Q1)×Unit):=
  iter (λ r y=>yEO n (λ cL cA d9 d6 af ah ai aj ak am aq ar au aL aM aN aO aP aQ aR aS aT bX bz d3=>r ((cL,(cA,(d9,(d6,())))),(((af,(ah,(ai,(aj,(ak,(am,(aq,(ar,(au,()))))))))),((aL,(aM,(aN,(aO,(aP,(aQ,(aR,(aS,(aT,(bX,())))))))))),(bz,(d3,())))),()))) y.1.1 y.1.2.1 y.1.2.2.1 y.1.2.2.2.1 y.2.1.1.1 y.2.1.1.2.1 y.2.1.1.2.2.1 y.2.1.1.2.2.2.1 y.2.1.1.2.2.2.2.1 y.2.1.1.2.2.2.2.2.1 y.2.1.1.2.2.2.2.2.2.1 y.2.1.1.2.2.2.2.2.2.2.1 y.2.1.1.2.2.2.2.2.2.2.2.1 y.2.1.2.1.1 y.2.1.2.1.2.1 y.2.1.2.1.2.2.1 y.2.1.2.1.2.2.2.1 y.2.1.2.1.2.2.2.2.1 y.2.1.2.1.2.2.2.2.2.1 y.2.1.2.1.2.2.2.2.2.2.1 y.2.1.2.1.2.2.2.2.2.2.2.1 y.2.1.2.1.2.2.2.2.2.2.2.2.1 y.2.1.2.1.2.2.2.2.2.2.2.2.2.1 y.2.1.2.2.1 y.2.1.2.2.2.1) k ((cL,(cA,(d9,(d6,())))),(((af,(ah,(ai,(aj,(ak,(am,(aq,(ar,(au,()))))))))),((aL,(aM,(aN,(aO,(aP,(aQ,(aR,(aS,(aT,(bX,())))))))))),(bz,(d3,())))),()))
def yRK(n:Nat)(rp:Q1):Option ((Q1)×Unit):=
  (y7L n n (rp) (rp.2.2.2.2.2.2.2.2.1) ((↑rp.2.2.2.2.2.2.2.2.1.length:Int)) ((0:Int)) ((0:Int)) ((0:Int)) ((0:Int)) ((0:Int)) ((0:Int)) ((0:Int)) ((0:Int)) ([]) ((0:Int)) (rp.1) (rp.2.1.1) (rp.2.1.2.1) (rp.2.2.1) (rp.2.2.2.1) (rp.2.2.2.2.1) (rp.2.2.2.2.2.1) (rp.2.2.2.2.2.2.1) (rp.2.2.2.2.2.2.2.1) (rp.2.2.2.2.2.2.2.2.2.1) ([]) ([]))
theorem yPV(n:Nat)(x:yNd.den):runF yOR (yOq n) Tryz.f32 yNd yOp x=yRK n x.1:=by kernel_rfl
def yJQ(cz:List (Q6))(a7 aa ae b8 b9 bc bd:Int)(bf:List UInt8)(bg bh bi bj bl bm bn bp:Int)(bq:List UInt8)(br:Int)(cb:List (List UInt8))(cp:List (Q3))(d5:Int)(v3:Q6)(cU:List (Q6)):Option (((Q1)×Unit)⊕(List (Q6))):=
  (bif decide (cU.length+(1:Nat)<=memMax)then (some (Sum.inr (cU++[(v3.1,v3.2.1,())])))else none)
def yHm(cz:List (Q6))(a7 aa ae b8 b9 bc bd:Int)(bf:List UInt8)(bg bh bi bj bl bm bn bp:Int)(bq:List UInt8)(br:Int)(cb:List (List UInt8))(cp:List (Q3))(cU:List (Q6)):Option ((Q1)×Unit):=
  (some (((bh,(bi,bj,()),bl,bm,bn,bp,bq,br,cp,cb,cU,()),())))
theorem yD6(n:Nat)(hn:big<=n)(cz:List (Q6))(a7 aa ae b8 b9 bc bd:Int)(bf:List UInt8)(bg bh bi bj bl bm bn bp:Int)(bq:List UInt8)(br:Int)(cb:List (List UInt8))(cp:List (Q3))(cU:List (Q6))(hx:List.length (cz) < yD):LeF some (yd (λ ay cD ac=>yJQ cz a7 aa ae b8 b9 bc bd bf bg bh bi bj bl bm bn bp bq br cb cp ay cD ac) (λ ac=>yHm cz a7 aa ae b8 b9 bc bd bf bg bh bi bj bl bm bn bp bq br cb cp ac) 0 (cz) cU) (y7A n n cz (List.length (cz):Int) 0 a7 aa ae b8 b9 bc bd bf bg bh bi bj bl bm bn bp bq br cb cp cU):=by
  refine y04 (f:=some) (W:=λ bY ay ac=>y7A n bY cz (List.length (cz):Int) ay a7 aa ae b8 b9 bc bd bf bg bh bi bj bl bm bn bp bq br cb cp ac) (λ bY ay ac=>?_) hx cU n (by unfold big at hn;unfold yD at hx;omega)
  show LeF _ _ (yEW n (y7A n bY) cz (List.length (cz):Int) ay a7 aa ae b8 b9 bc bd bf bg bh bi bj bl bm bn bp bq br cb cp ac)
  exact y7 (yI λ v3=>(y7 (y9 rfl) y01)) (y1l (y9 rfl))
def yId(cL:Q1)(cA:List (Q3))(af ah ai aj ak am aq:Int)(ar:List UInt8)(au aL aM aN aO aP aQ aR:Int)(aS:List UInt8)(aT:Int)(bX:List (List UInt8))(d3:List (Q6))(d6:Int)(v1:Q3)(bz:List (Q3)):Option (((Q1)×Unit)⊕(List (Q3))):=
  (bif decide (bz.length+(1:Nat)<=memMax)then (some (Sum.inr (bz++[v1])))else none)
def yIb(cL:Q1)(cA:List (Q3))(af ah ai aj ak am aq:Int)(ar:List UInt8)(au aL aM aN aO aP aQ aR:Int)(aS:List UInt8)(aT:Int)(bX:List (List UInt8))(d3:List (Q6))(bz:List (Q3)):Option ((Q1)×Unit):=
  (bif decide (List.length (cL.2.2.2.2.2.2.2.2.2.2.1) < yD)then yd (λ ay cD ac=>yJQ (cL.2.2.2.2.2.2.2.2.2.2.1) (af) (ah) (ai) (aj) (ak) (am) (aq) (ar) (au) (aL) (aM) (aN) (aO) (aP) (aQ) (aR) (aS) (aT) (bX) (bz) ay cD ac) (λ ac=>yHm (cL.2.2.2.2.2.2.2.2.2.2.1) (af) (ah) (ai) (aj) (ak) (am) (aq) (ar) (au) (aL) (aM) (aN) (aO) (aP) (aQ) (aR) (aS) (aT) (bX) (bz) ac) 0 (cL.2.2.2.2.2.2.2.2.2.2.1) (d3)else none)
theorem yDz(n:Nat)(hn:big<=n)(cL:Q1)(cA:List (Q3))(af ah ai aj ak am aq:Int)(ar:List UInt8)(au aL aM aN aO aP aQ aR:Int)(aS:List UInt8)(aT:Int)(bX:List (List UInt8))(d3:List (Q6))(bz:List (Q3))(hx:List.length (cA) < yD):LeF some (yd (λ ay cD ac=>yId cL cA af ah ai aj ak am aq ar au aL aM aN aO aP aQ aR aS aT bX d3 ay cD ac) (λ ac=>yIb cL cA af ah ai aj ak am aq ar au aL aM aN aO aP aQ aR aS aT bX d3 ac) 0 (cA) bz) (y7L n n cL cA (List.length (cA):Int) 0 af ah ai aj ak am aq ar au aL aM aN aO aP aQ aR aS aT bX bz d3):=by
  refine y04 (f:=some) (W:=λ bY ay ac=>y7L n bY cL cA (List.length (cA):Int) ay af ah ai aj ak am aq ar au aL aM aN aO aP aQ aR aS aT bX ac d3) (λ bY ay ac=>?_) hx bz n (by unfold big at hn;unfold yD at hx;omega)
  show LeF _ _ (yEO n (y7L n bY) cL cA (List.length (cA):Int) ay af ah ai aj ak am aq ar au aL aM aN aO aP aQ aR aS aT bX ac d3)
  exact y7 (yI λ v1=>(y7 (y9 rfl) y01)) (y1l (yy λ hx=>by apply yD6 n hn;exact hx))
def yJo(rp:Q1):Option ((Q1)×Unit):=
  (bif decide (List.length (rp.2.2.2.2.2.2.2.2.1) < yD)then yd (λ ay cD ac=>yId (rp) (rp.2.2.2.2.2.2.2.2.1) ((0:Int)) ((0:Int)) ((0:Int)) ((0:Int)) ((0:Int)) ((0:Int)) ((0:Int)) ([]) ((0:Int)) (rp.1) (rp.2.1.1) (rp.2.1.2.1) (rp.2.2.1) (rp.2.2.2.1) (rp.2.2.2.2.1) (rp.2.2.2.2.2.1) (rp.2.2.2.2.2.2.1) (rp.2.2.2.2.2.2.2.1) (rp.2.2.2.2.2.2.2.2.2.1) ([]) ay cD ac) (λ ac=>yIb (rp) (rp.2.2.2.2.2.2.2.2.1) ((0:Int)) ((0:Int)) ((0:Int)) ((0:Int)) ((0:Int)) ((0:Int)) ((0:Int)) ([]) ((0:Int)) (rp.1) (rp.2.1.1) (rp.2.1.2.1) (rp.2.2.1) (rp.2.2.2.1) (rp.2.2.2.2.1) (rp.2.2.2.2.2.1) (rp.2.2.2.2.2.2.1) (rp.2.2.2.2.2.2.2.1) (rp.2.2.2.2.2.2.2.2.2.1) ([]) ac) 0 (rp.2.2.2.2.2.2.2.2.1) ([])else none)
def z07_e:Entry:={ f:=32,args:=yNd,rS:=yOp,m:=λ x=>yJo x.1 }
theorem yP5:FnOK Tryz.prog z07_e:=yM0 (g:=yOR) (fn:=Tryz.f32) eNil (λ _=>iNil) yPV λ n hn x=>(yy λ hx=>by apply yDz n hn;exact hx)
def yNy(n:Nat)(r0:List UInt8->Int->Int->Int->Option (List UInt8×Unit))(bu:List UInt8)(dm bZ aw:Int):Option (List UInt8×Unit):=
  (bif decide (aw < bZ)then ((idx bu aw).bind λ v1=>r0 bu ((i64.wrap (i64.wrap ((317:Int) * dm)+i64.wrap (↑v1.toNat:Int))).tmod (9999877:Int)) bZ (i64.wrap (aw+1)))else ((yCk dm).bind λ v2=>((yAQ [(48:UInt8)] (i64.wrap ((7:Int) - (↑v2.1.length:Int)))).bind λ v3=>(bif decide (v3.1.length+v2.1.length < strMax)then some (v3.1++v2.1,())else none))))
def yNp(n k:Nat)(bu:List UInt8)(dm bZ aw:Int):Option (List UInt8×Unit):=
  iter (λ r y=>yNy n (λ bu dm bZ aw=>r ((bu,(dm,(bZ,(aw,())))),((),()))) y.1.1 y.1.2.1 y.1.2.2.1 y.1.2.2.2.1) k ((bu,(dm,(bZ,(aw,())))),((),()))
def zx_m(n:Nat)(s:List UInt8):Option (List UInt8×Unit):=
  (yNp n n (s) ((1:Int)) ((↑s.length:Int)) ((0:Int)))
def zx_M(s:List UInt8):Option (List UInt8×Unit):=zx_m 1000 s
abbrev zx_e:Entry:={ f:=123,args:=.pair t9 .unit,rS:=.pair t9 .unit,m:=λ x=>zx_M x.1 }
theorem yPf:FnOK Tryz.prog zx_e:=fF 1000 Tryz.f123 (λ n x=>zx_m n x.1) [[0,3,7,8]] (yE y9O (yE yON eNil))
end
end Go.Tw
end
