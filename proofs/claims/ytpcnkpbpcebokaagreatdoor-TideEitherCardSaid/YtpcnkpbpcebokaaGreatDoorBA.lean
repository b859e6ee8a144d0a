import Derived.Test.YtpcnkpbpcebokaaGreatDoorBT
import Derived.Test.YtpcnkpbpcebokaaGreatDoorB0
import Derived.Test.YtpcnkpbpcebokaaGreatDoorBS
import Derived.Test.YtpcnkpbpcebokaaGreatDoorLQ
set_option linter.all false
open Go.IntKind (i64)
section
set_option maxRecDepth 1000000
namespace Go.Tw
open Go.Vx Go.Vx.B Go.Proofs
noncomputable section
def yFD(n:Nat)(r0:List Int->Int->Option (Int×Unit))(aw:List Int)(bU:Int):Option (Int×Unit):=
  (bif decide (bU < (↑aw.length:Int))then ((idx aw bU).bind λ v1=>(bif v1 != 0 then ((idx aw bU).bind λ v2=>some (v2,()))else r0 aw (i64.wrap (bU+1))))else some ((0:Int),()))
def y7R(n:Nat)(k:Nat)(aw:List Int)(bU:Int):Option (Int×Unit):=
  iter (λ r y=>yFD n (λ aw bU=>r ((aw,(bU,())),((),()))) y.1.1 y.1.2.1) k ((aw,(bU,())),((),()))
def yTC(n:Nat)(l:List Int):Option (Int×Unit):=
  (y7R n n (l) ((0:Int)))
def yFN(aw:List Int)(bU:Int)(v1:Int):Option ((Int×Unit)⊕Unit):=
  (bif v1 != 0 then ((idx aw bU).bind λ v2=>(some (Sum.inl ((v2,())))))else (some (Sum.inr ())))
def yGW(aw:List Int):Option (Int×Unit):=
  (some (((0:Int),())))
theorem yEP(n:Nat)(hn:big<=n)(aw:List Int)(hx:List.length (aw) < lenMax):LeF some (yJ (λ ai b6 a7=>yFN aw ai b6) (λ a7=>yGW aw) 0 (aw) ()) (y7R n n aw 0):=by
  refine yK (f:=some) (W:=λ aH ai a7=>y7R n aH aw ai) (λ aH ai a7=>?_) hx () n (by unfold big at hn;unfold lenMax at hx;omega)
  show LeF _ _ (yFD n (y7R n aH) aw ai)
  exact y3 (y7 λ v1=>(y3 (y7 λ v2=>(y5 rfl)) (y5 rfl))) (ym (y5 rfl))
def yBr(l:List Int):Option (Int×Unit):=
  (bif decide (List.length (l) < lenMax)then yJ (λ ai b6 a7=>yFN (l) ai b6) (λ a7=>yGW (l)) 0 (l) ()else none)
abbrev z0V_e:Entry:={ f:=24,args:=.pair t41 .unit,rS:=.pair t3 .unit,m:=λ x=>yBr x.1 }
theorem yLG:FnOK Tryz.prog z0V_e:=fB Tryz.f24 (λ n x=>yTC n x.1) [[0,3]] eNil λ n hn x=>(yL λ hx=>by apply yEP n hn;exact hx)
def yJ3(n:Nat)(r0:List (Q4)->List (Q4)->Int->Option (Bool×Unit))(aB:List (Q4))(aJ:List (Q4))(aG:Int):Option (Bool×Unit):=
  (bif decide (aG < (↑aB.length:Int))then ((idx aB aG).bind λ v1=>((idx aJ aG).bind λ v2=>(bif !eqV ((Ty.int i64).pair ((Ty.int i64).pair Ty.unit)) v1 v2 then some (Bool.false,())else r0 aB aJ (i64.wrap (aG+1)))))else some (Bool.true,()))
def yAd(n:Nat)(k:Nat)(aB:List (Q4))(aJ:List (Q4))(aG:Int):Option (Bool×Unit):=
  iter (λ r y=>yJ3 n (λ aB aJ aG=>r ((aB,(aJ,(aG,()))),((),()))) y.1.1 y.1.2.1 y.1.2.2.1) k ((aB,(aJ,(aG,()))),((),()))
def za_m(n:Nat)(a:List (Q4))(b:List (Q4)):Option (Bool×Unit):=
  (bif (↑a.length:Int) != (↑b.length:Int)then some (Bool.false,())else (yAd n n (a) (b) ((0:Int))))
def yRd(aB:List (Q4))(aJ:List (Q4))(aG:Int)(v1:Q4):Option ((Bool×Unit)⊕Unit):=
  ((idx aJ aG).bind λ v2=>(bif !eqV ((Ty.int i64).pair ((Ty.int i64).pair Ty.unit)) v1 v2 then (some (Sum.inl ((Bool.false,()))))else (some (Sum.inr ()))))
def ySA(aB:List (Q4))(aJ:List (Q4)):Option (Bool×Unit):=
  (some ((Bool.true,())))
theorem yI9(n:Nat)(hn:big<=n)(aB:List (Q4))(aJ:List (Q4))(hx:List.length (aB) < lenMax):LeF some (yJ (λ ai b6 a7=>yRd aB aJ ai b6) (λ a7=>ySA aB aJ) 0 (aB) ()) (yAd n n aB aJ 0):=by
  refine yK (f:=some) (W:=λ aH ai a7=>yAd n aH aB aJ ai) (λ aH ai a7=>?_) hx () n (by unfold big at hn;unfold lenMax at hx;omega)
  show LeF _ _ (yJ3 n (yAd n aH) aB aJ ai)
  exact y3 (y7 λ v1=>(y7 λ v2=>(y3 (y5 rfl) (y5 rfl)))) (ym (y5 rfl))
def za_M(a:List (Q4))(b:List (Q4)):Option (Bool×Unit):=
  (bif (↑a.length:Int) != (↑b.length:Int)then (some ((Bool.false,())))else (bif decide (List.length (a) < lenMax)then yJ (λ ai b6 a7=>yRd (a) (b) ai b6) (λ a7=>ySA (a) (b)) 0 (a) ()else none))
abbrev za_e:Entry:={ f:=29,args:=.pair t23 (.pair t23 .unit),rS:=.pair t4 .unit,m:=λ x=>za_M x.1 x.2.1 }
theorem yQq:FnOK Tryz.prog za_e:=fB Tryz.f29 (λ n x=>za_m n x.1 x.2.1) [[0,1,5]] eNil λ n hn x=>(y3 (y5 rfl) (yL λ hx=>by apply yI9 n hn;exact hx))
def yOV(n:Nat)(r0:List Nat->List Nat->Int->Option (Bool×Unit))(aB:List Nat)(aJ:List Nat)(aG:Int):Option (Bool×Unit):=
  (bif decide (aG < (↑aB.length:Int))then ((idx aB aG).bind λ v1=>((idx aJ aG).bind λ v2=>(bif yT BinOp.neq FloatKind.f32 v1 v2 then some (Bool.false,())else r0 aB aJ (i64.wrap (aG+1)))))else some (Bool.true,()))
def yP1(n:Nat)(k:Nat)(aB:List Nat)(aJ:List Nat)(aG:Int):Option (Bool×Unit):=
  iter (λ r y=>yOV n (λ aB aJ aG=>r ((aB,(aJ,(aG,()))),((),()))) y.1.1 y.1.2.1 y.1.2.2.1) k ((aB,(aJ,(aG,()))),((),()))
def zi_m(n:Nat)(a:List Nat)(b:List Nat):Option (Bool×Unit):=
  (bif (↑a.length:Int) != (↑b.length:Int)then some (Bool.false,())else (yP1 n n (a) (b) ((0:Int))))
def zi_M(a:List Nat)(b:List Nat):Option (Bool×Unit):=zi_m 1000 a b
abbrev zi_e:Entry:={ f:=30,args:=.pair t35 (.pair t35 .unit),rS:=.pair t4 .unit,m:=λ x=>zi_M x.1 x.2.1 }
theorem yT4:FnOK Tryz.prog zi_e:=fF 1000 Tryz.f30 (λ n x=>zi_m n x.1 x.2.1) [[0,1,5]] eNil
def yKJ(n:Nat)(r0:List (Q3)->Int->Option (Bool×Unit))(aw:List (Q3))(bU:Int):Option (Bool×Unit):=
  (bif decide (bU < (↑aw.length:Int))then ((idx aw bU).bind λ v1=>(bif decide ((↑v1.1.length:Int) > 60)then some (Bool.false,())else r0 aw (i64.wrap (bU+1))))else some (decide ((↑aw.length:Int)<=5),()))
def yAa(n:Nat)(k:Nat)(aw:List (Q3))(bU:Int):Option (Bool×Unit):=
  iter (λ r y=>yKJ n (λ aw bU=>r ((aw,(bU,())),((),()))) y.1.1 y.1.2.1) k ((aw,(bU,())),((),()))
def zt_m(n:Nat)(l:List (Q3)):Option (Bool×Unit):=
  (yAa n n (l) ((0:Int)))
def yOG(aw:List (Q3))(bU:Int)(v1:Q3):Option ((Bool×Unit)⊕Unit):=
  (bif decide ((↑v1.1.length:Int) > 60)then (some (Sum.inl ((Bool.false,()))))else (some (Sum.inr ())))
def yMg(aw:List (Q3)):Option (Bool×Unit):=
  (some ((decide ((↑aw.length:Int)<=5),())))
theorem yHB(n:Nat)(hn:big<=n)(aw:List (Q3))(hx:List.length (aw) < lenMax):LeF some (yJ (λ ai b6 a7=>yOG aw ai b6) (λ a7=>yMg aw) 0 (aw) ()) (yAa n n aw 0):=by
  refine yK (f:=some) (W:=λ aH ai a7=>yAa n aH aw ai) (λ aH ai a7=>?_) hx () n (by unfold big at hn;unfold lenMax at hx;omega)
  show LeF _ _ (yKJ n (yAa n aH) aw ai)
  exact y3 (y7 λ v1=>(y3 (y5 rfl) (y5 rfl))) (ym (y5 rfl))
def zt_M(l:List (Q3)):Option (Bool×Unit):=
  (bif decide (List.length (l) < lenMax)then yJ (λ ai b6 a7=>yOG (l) ai b6) (λ a7=>yMg (l)) 0 (l) ()else none)
abbrev zt_e:Entry:={ f:=31,args:=.pair t22 .unit,rS:=.pair t4 .unit,m:=λ x=>zt_M x.1 }
theorem yU2:FnOK Tryz.prog zt_e:=fB Tryz.f31 (λ n x=>zt_m n x.1) [[0,3]] eNil λ n hn x=>(yL λ hx=>by apply yHB n hn;exact hx)
def yFp(n:Nat)(r0:List (Q3)->Int->Int->List (Q3)->Option (List (Q3)×Unit))(bn:List (Q3))(aP:Int)(a8:Int)(bz:List (Q3)):Option (List (Q3)×Unit):=
  (bif decide (a8 < aP)then ((idx bn a8).bind λ v1=>(bif decide (bz.length+(1:Nat)<=memMax)then r0 bn aP (i64.wrap (a8+1)) (bz++[(v1.1,v1.2.1,v1.2.2.1,())])else none))else some (bz,()))
def y6v(n:Nat)(k:Nat)(bn:List (Q3))(aP:Int)(a8:Int)(bz:List (Q3)):Option (List (Q3)×Unit):=
  iter (λ r y=>yFp n (λ bn aP a8 bz=>r ((bn,(aP,(a8,()))),((bz,()),()))) y.1.1 y.1.2.1 y.1.2.2.1 y.2.1.1) k ((bn,(aP,(a8,()))),((bz,()),()))
def yTe(n:Nat)(l:List (Q3)):Option (List (Q3)×Unit):=
  (y6v n n (l) ((↑l.length:Int)) ((0:Int)) ([]))
def yKK(bn:List (Q3))(a8:Int)(v1:Q3)(bz:List (Q3)):Option ((List (Q3)×Unit)⊕(List (Q3))):=
  (bif decide (bz.length+(1:Nat)<=memMax)then (some (Sum.inr (bz++[(v1.1,v1.2.1,v1.2.2.1,())])))else none)
def yNH(bn:List (Q3))(bz:List (Q3)):Option (List (Q3)×Unit):=
  (some ((bz,())))
theorem yEp(n:Nat)(hn:big<=n)(bn:List (Q3))(bz:List (Q3))(hx:List.length (bn) < lenMax):LeF some (yJ (λ ai b6 a7=>yKK bn ai b6 a7) (λ a7=>yNH bn a7) 0 (bn) bz) (y6v n n bn (List.length (bn):Int) 0 bz):=by
  refine yK (f:=some) (W:=λ aH ai a7=>y6v n aH bn (List.length (bn):Int) ai a7) (λ aH ai a7=>?_) hx bz n (by unfold big at hn;unfold lenMax at hx;omega)
  show LeF _ _ (yFp n (y6v n aH) bn (List.length (bn):Int) ai a7)
  exact y3 (y7 λ v1=>(y3 (y5 rfl) yw)) (ym (y5 rfl))
def yMk(l:List (Q3)):Option (List (Q3)×Unit):=
  (bif decide (List.length (l) < lenMax)then yJ (λ ai b6 a7=>yKK (l) ai b6 a7) (λ a7=>yNH (l) a7) 0 (l) ([])else none)
abbrev z0k_e:Entry:={ f:=33,args:=.pair t22 .unit,rS:=.pair t31 .unit,m:=λ x=>yMk x.1 }
theorem ySO:FnOK Tryz.prog z0k_e:=fB (mu:=[3]) Tryz.f33 (λ n x=>yTe n x.1) [[3,6,7,8]] eNil λ n hn x=>(yL λ hx=>by apply yEp n hn;exact hx)
def zg_m(n:Nat)(n1:Int)(low:Int)(high:Int):Option (Int×Unit):=
  (bif decide (n1 < low)then some ((3:Int),())else (bif decide (n1 > high)then some ((3:Int),())else some ((0:Int),())))
def zg(n1:Int)(low:Int)(high:Int):(Int×Unit):=
  (bif decide (n1 < low)then ((3:Int),())else (bif decide (n1 > high)then ((3:Int),())else ((0:Int),())))
abbrev zg_M (n1:Int) (low:Int) (high:Int):Option (Int×Unit):=some (zg n1 low high)
abbrev zg_e:Entry:={ f:=44,args:=.pair t3 (.pair t3 (.pair t3 .unit)),rS:=.pair t3 .unit,m:=λ x=>zg_M x.1 x.2.1 x.2.2.1 }
theorem yRt:FnOK Tryz.prog zg_e:=fF (hm:=by intro x;show some (zg x.1 x.2.1 x.2.2.1)=zg_m 0 x.1 x.2.1 x.2.2.1;unfold zg_m zg;first|rfl|simp only[yp]) 0 Tryz.f44 (λ n x=>zg_m n x.1 x.2.1 x.2.2.1) [] eNil
def yJX(n:Nat)(r0:List (Nat×Nat)->List (Nat×Nat)->Int->Option (Bool×Unit))(aB:List (Nat×Nat))(aJ:List (Nat×Nat))(aG:Int):Option (Bool×Unit):=
  (bif decide (aG < (↑aB.length:Int))then ((idx aB aG).bind λ v1=>((idx aJ aG).bind λ v2=>(bif !y9R FloatKind.f32 v1 v2 then some (Bool.false,())else r0 aB aJ (i64.wrap (aG+1)))))else some (Bool.true,()))
def yAy(n:Nat)(k:Nat)(aB:List (Nat×Nat))(aJ:List (Nat×Nat))(aG:Int):Option (Bool×Unit):=
  iter (λ r y=>yJX n (λ aB aJ aG=>r ((aB,(aJ,(aG,()))),((),()))) y.1.1 y.1.2.1 y.1.2.2.1) k ((aB,(aJ,(aG,()))),((),()))
def zz_m(n:Nat)(a:List (Nat×Nat))(b:List (Nat×Nat)):Option (Bool×Unit):=
  (bif (↑a.length:Int) != (↑b.length:Int)then some (Bool.false,())else (yAy n n (a) (b) ((0:Int))))
def yQD(aB:List (Nat×Nat))(aJ:List (Nat×Nat))(aG:Int)(v1:Nat×Nat):Option ((Bool×Unit)⊕Unit):=
  ((idx aJ aG).bind λ v2=>(bif !y9R FloatKind.f32 v1 v2 then (some (Sum.inl ((Bool.false,()))))else (some (Sum.inr ()))))
def yQz(aB:List (Nat×Nat))(aJ:List (Nat×Nat)):Option (Bool×Unit):=
  (some ((Bool.true,())))
theorem yHZ(n:Nat)(hn:big<=n)(aB:List (Nat×Nat))(aJ:List (Nat×Nat))(hx:List.length (aB) < lenMax):LeF some (yJ (λ ai b6 a7=>yQD aB aJ ai b6) (λ a7=>yQz aB aJ) 0 (aB) ()) (yAy n n aB aJ 0):=by
  refine yK (f:=some) (W:=λ aH ai a7=>yAy n aH aB aJ ai) (λ aH ai a7=>?_) hx () n (by unfold big at hn;unfold lenMax at hx;omega)
  show LeF _ _ (yJX n (yAy n aH) aB aJ ai)
  exact y3 (y7 λ v1=>(y7 λ v2=>(y3 (y5 rfl) (y5 rfl)))) (ym (y5 rfl))
def zz_M(a:List (Nat×Nat))(b:List (Nat×Nat)):Option (Bool×Unit):=
  (bif (↑a.length:Int) != (↑b.length:Int)then (some ((Bool.false,())))else (bif decide (List.length (a) < lenMax)then yJ (λ ai b6 a7=>yQD (a) (b) ai b6) (λ a7=>yQz (a) (b)) 0 (a) ()else none))
abbrev zz_e:Entry:={ f:=53,args:=.pair t79 (.pair t79 .unit),rS:=.pair t4 .unit,m:=λ x=>zz_M x.1 x.2.1 }
theorem yTt:FnOK Tryz.prog zz_e:=fB Tryz.f53 (λ n x=>zz_m n x.1 x.2.1) [[0,1,5]] eNil λ n hn x=>(y3 (y5 rfl) (yL λ hx=>by apply yHZ n hn;exact hx))
def yOz(n:Nat)(r1:Q1):Option ((Q1)×Unit):=
  (bif decide ((0:Nat)+r1.2.2.1.length<=memMax)then (bif decide ((0:Nat)+r1.2.2.2.1.length<=memMax)then some ((r1.1,r1.2.1,r1.2.2.1,r1.2.2.2.1,()),())else none)else none)
def yOF(r1:Q1):Option ((Q1)×Unit):=yOz 0 r1
abbrev z0E_e:Entry:={ f:=56,args:=.pair t94 .unit,rS:=.pair t60 .unit,m:=λ x=>yOF x.1 }
theorem yQU:FnOK Tryz.prog z0E_e:=fF (mu:=[7,11]) 0 Tryz.f56 (λ n x=>yOz n x.1) [] eNil
def yKH(n:Nat)(r0:List (List Int)->List (List Int)->Int->Option (Bool×Unit))(aB:List (List Int))(aJ:List (List Int))(aG:Int):Option (Bool×Unit):=
  (bif decide (aG < (↑aB.length:Int))then ((idx aB aG).bind λ v1=>((idx aJ aG).bind λ v2=>(bif !eqV (Ty.arr (2:Nat) (Ty.int i64)) v1 v2 then some (Bool.false,())else r0 aB aJ (i64.wrap (aG+1)))))else some (Bool.true,()))
def yB5(n:Nat)(k:Nat)(aB:List (List Int))(aJ:List (List Int))(aG:Int):Option (Bool×Unit):=
  iter (λ r y=>yKH n (λ aB aJ aG=>r ((aB,(aJ,(aG,()))),((),()))) y.1.1 y.1.2.1 y.1.2.2.1) k ((aB,(aJ,(aG,()))),((),()))
def zr_m(n:Nat)(a:List (List Int))(b:List (List Int)):Option (Bool×Unit):=
  (bif (↑a.length:Int) != (↑b.length:Int)then some (Bool.false,())else (yB5 n n (a) (b) ((0:Int))))
def ySE(aB:List (List Int))(aJ:List (List Int))(aG:Int)(v1:List Int):Option ((Bool×Unit)⊕Unit):=
  ((idx aJ aG).bind λ v2=>(bif !eqV (Ty.arr (2:Nat) (Ty.int i64)) v1 v2 then (some (Sum.inl ((Bool.false,()))))else (some (Sum.inr ()))))
def yQP(aB:List (List Int))(aJ:List (List Int)):Option (Bool×Unit):=
  (some ((Bool.true,())))
theorem yI5(n:Nat)(hn:big<=n)(aB:List (List Int))(aJ:List (List Int))(hx:List.length (aB) < lenMax):LeF some (yJ (λ ai b6 a7=>ySE aB aJ ai b6) (λ a7=>yQP aB aJ) 0 (aB) ()) (yB5 n n aB aJ 0):=by
  refine yK (f:=some) (W:=λ aH ai a7=>yB5 n aH aB aJ ai) (λ aH ai a7=>?_) hx () n (by unfold big at hn;unfold lenMax at hx;omega)
  show LeF _ _ (yKH n (yB5 n aH) aB aJ ai)
  exact y3 (y7 λ v1=>(y7 λ v2=>(y3 (y5 rfl) (y5 rfl)))) (ym (y5 rfl))
def zr_M(a:List (List Int))(b:List (List Int)):Option (Bool×Unit):=
  (bif (↑a.length:Int) != (↑b.length:Int)then (some ((Bool.false,())))else (bif decide (List.length (a) < lenMax)then yJ (λ ai b6 a7=>ySE (a) (b) ai b6) (λ a7=>yQP (a) (b)) 0 (a) ()else none))
abbrev zr_e:Entry:={ f:=66,args:=.pair t100 (.pair t100 .unit),rS:=.pair t4 .unit,m:=λ x=>zr_M x.1 x.2.1 }
theorem yTd:FnOK Tryz.prog zr_e:=fB Tryz.f66 (λ n x=>zr_m n x.1 x.2.1) [[0,1,5]] eNil λ n hn x=>(y3 (y5 rfl) (yL λ hx=>by apply yI5 n hn;exact hx))
def yPN(n:Nat)(r0:List Int->List Int->Int->Option (Bool×Unit))(aB:List Int)(aJ:List Int)(aG:Int):Option (Bool×Unit):=
  (bif decide (aG < (↑aB.length:Int))then ((idx aB aG).bind λ v1=>((idx aJ aG).bind λ v2=>(bif v1 != v2 then some (Bool.false,())else r0 aB aJ (i64.wrap (aG+1)))))else some (Bool.true,()))
def yPp(n:Nat)(k:Nat)(aB:List Int)(aJ:List Int)(aG:Int):Option (Bool×Unit):=
  iter (λ r y=>yPN n (λ aB aJ aG=>r ((aB,(aJ,(aG,()))),((),()))) y.1.1 y.1.2.1 y.1.2.2.1) k ((aB,(aJ,(aG,()))),((),()))
def zx_m(n:Nat)(a:List Int)(b:List Int):Option (Bool×Unit):=
  (bif (↑a.length:Int) != (↑b.length:Int)then some (Bool.false,())else (yPp n n (a) (b) ((0:Int))))
def zx_M(a:List Int)(b:List Int):Option (Bool×Unit):=zx_m 1000 a b
abbrev zx_e:Entry:={ f:=75,args:=.pair t41 (.pair t41 .unit),rS:=.pair t4 .unit,m:=λ x=>zx_M x.1 x.2.1 }
theorem yTf:FnOK Tryz.prog zx_e:=fF 1000 Tryz.f75 (λ n x=>zx_m n x.1 x.2.1) [[0,1,5]] eNil
def zj_m(n:Nat)(x1:Nat):Option (Int×Unit):=
  ((y1j FloatKind.f32 x1 FloatKind.f64).bind λ v0=>((yf FloatKind.f64 (y05 BinOp.mul FloatKind.f64 (nat_lit 4625196817309499392) v0) i64).bind λ v1=>some (v1,())))
def zj_M(x1:Nat):Option (Int×Unit):=zj_m 0 x1
def yOM(n:Nat)(a:Q4)(b:Q4):Option ((Q4)×Unit):=
  some ((i64.wrap (i64.wrap (a.1 * b.1) - i64.wrap (a.2.1 * b.2.1)),i64.wrap (i64.wrap (a.1 * b.2.1)+i64.wrap (a.2.1 * b.1)),()),())
def z0W(a:Q4)(b:Q4):((Q4)×Unit):=
  ((i64.wrap (i64.wrap (a.1 * b.1) - i64.wrap (a.2.1 * b.2.1)),i64.wrap (i64.wrap (a.1 * b.2.1)+i64.wrap (a.2.1 * b.1)),()),())
abbrev yT0 (a:Q4) (b:Q4):Option ((Q4)×Unit):=some (z0W a b)
abbrev z0W_e:Entry:={ f:=80,args:=.pair t57 (.pair t57 .unit),rS:=.pair t57 .unit,m:=λ x=>yT0 x.1 x.2.1 }
theorem yQv:FnOK Tryz.prog z0W_e:=fF (hm:=by intro x;show some (z0W x.1 x.2.1)=yOM 0 x.1 x.2.1;unfold yOM z0W;first|rfl|simp only[yp]) 0 Tryz.f80 (λ n x=>yOM n x.1 x.2.1) [] eNil
def yPt(n:Nat)(l:List (Q4)):Option (List (Q4)×Unit):=
  (bif decide ((0:Nat)+l.length<=memMax)then some (l,())else none)
def yOt(l:List (Q4)):Option (List (Q4)×Unit):=yPt 0 l
abbrev z07_e:Entry:={ f:=84,args:=.pair t23 .unit,rS:=.pair t23 .unit,m:=λ x=>yOt x.1 }
theorem yRa:FnOK Tryz.prog z07_e:=fF (mu:=[3]) 0 Tryz.f84 (λ n x=>yPt n x.1) [] eNil
def yQ0(n:Nat)(gaps:List (Q4)):Option ((Q1)×Unit):=
  some (([(103:UInt8)],(0:Int),[nat_lit 1065353216,nat_lit 0,nat_lit 3212836864,nat_lit 0],gaps,()),())
def z0l(gaps:List (Q4)):((Q1)×Unit):=
  (([(103:UInt8)],(0:Int),[nat_lit 1065353216,nat_lit 0,nat_lit 3212836864,nat_lit 0],gaps,()),())
abbrev ySZ (gaps:List (Q4)):Option ((Q1)×Unit):=some (z0l gaps)
abbrev z0l_e:Entry:={ f:=102,args:=.pair t58 .unit,rS:=.pair t60 .unit,m:=λ x=>ySZ x.1 }
theorem yRR:FnOK Tryz.prog z0l_e:=fF (hm:=by intro x;show some (z0l x.1)=yQ0 0 x.1;unfold yQ0 z0l;first|rfl|simp only[yp]) 0 Tryz.f102 (λ n x=>yQ0 n x.1) [] eNil
def yLb(n:Nat)(r0:List (Q3)->List UInt8->Int->Option (List (Q3)×Unit))(bz:List (Q3))(str1__0:List UInt8)(pos1__0:Int):Option (List (Q3)×Unit):=
  (bif decide (pos1__0 < (↑str1__0.length:Int))then (bif (yd str1__0 pos1__0).1==72 then (bif decide (bz.length+(1:Nat)<=memMax)then r0 (bz++[(y3e (yd str1__0 pos1__0).1,(1:Int),(2:Int),())]) str1__0 (yd str1__0 pos1__0).2 else none)else (bif (yd str1__0 pos1__0).1==81 then (bif decide (bz.length+(1:Nat)<=memMax)then r0 (bz++[(y3e (yd str1__0 pos1__0).1,(1:Int),(1:Int),())]) str1__0 (yd str1__0 pos1__0).2 else none)else (bif (yd str1__0 pos1__0).1==82 then (bif decide (bz.length+(1:Nat)<=memMax)then r0 (bz++[(y3e (yd str1__0 pos1__0).1,(1:Int),(3:Int),())]) str1__0 (yd str1__0 pos1__0).2 else none)else (bif decide (bz.length+(1:Nat)<=memMax)then r0 (bz++[(y3e (yd str1__0 pos1__0).1,(1:Int),(0:Int),())]) str1__0 (yd str1__0 pos1__0).2 else none))))else some (bz,()))
def yN7(n:Nat)(k:Nat)(bz:List (Q3))(str1__0:List UInt8)(pos1__0:Int):Option (List (Q3)×Unit):=
  iter (λ r y=>yLb n (λ bz str1__0 pos1__0=>r ((),((bz,((str1__0,pos1__0),())),()))) y.2.1.1 y.2.1.2.1.1 y.2.1.2.1.2) k ((),((bz,((str1__0,pos1__0),())),()))
def yRs(n:Nat)(names:List UInt8):Option (List (Q3)×Unit):=
  (yN7 n n ([]) (names) ((0:Int)))
def y6m(names:List UInt8):Option (List (Q3)×Unit):=yRs 1000 names
abbrev z0U_e:Entry:={ f:=103,args:=.pair t9 .unit,rS:=.pair t31 .unit,m:=λ x=>y6m x.1 }
theorem yS1:FnOK Tryz.prog z0U_e:=fF (mu:=[3]) 1000 Tryz.f103 (λ n x=>yRs n x.1) [[3,8]] eNil
def yGC(n:Nat)(r0:List Int->Int->Int->Option (Int×Unit))(bG:List Int)(bn:Int)(aP:Int):Option (Int×Unit):=
  (bif decide (aP < bn)then ((idx bG aP).bind λ v1=>(bif v1 != 0 then some (v1,())else r0 bG bn (i64.wrap (aP+1))))else some ((0:Int),()))
def y73(n:Nat)(k:Nat)(bG:List Int)(bn:Int)(aP:Int):Option (Int×Unit):=
  iter (λ r y=>yGC n (λ bG bn aP=>r ((bG,(bn,(aP,()))),((),()))) y.1.1 y.1.2.1 y.1.2.2.1) k ((bG,(bn,(aP,()))),((),()))
def yTK(n:Nat)(l:List Int):Option (Int×Unit):=
  (y73 n n (l) ((↑l.length:Int)) ((0:Int)))
def yJO(bG:List Int)(aP:Int)(v1:Int):Option ((Int×Unit)⊕Unit):=
  (bif v1 != 0 then (some (Sum.inl ((v1,()))))else (some (Sum.inr ())))
def yIM(bG:List Int):Option (Int×Unit):=
  (some (((0:Int),())))
theorem yEh(n:Nat)(hn:big<=n)(bG:List Int)(hx:List.length (bG) < lenMax):LeF some (yJ (λ ai b6 a7=>yJO bG ai b6) (λ a7=>yIM bG) 0 (bG) ()) (y73 n n bG (List.length (bG):Int) 0):=by
  refine yK (f:=some) (W:=λ aH ai a7=>y73 n aH bG (List.length (bG):Int) ai) (λ aH ai a7=>?_) hx () n (by unfold big at hn;unfold lenMax at hx;omega)
  show LeF _ _ (yGC n (y73 n aH) bG (List.length (bG):Int) ai)
  exact y3 (y7 λ v1=>(y3 (y5 rfl) (y5 rfl))) (ym (y5 rfl))
def y2I(l:List Int):Option (Int×Unit):=
  (bif decide (List.length (l) < lenMax)then yJ (λ ai b6 a7=>yJO (l) ai b6) (λ a7=>yIM (l)) 0 (l) ()else none)
abbrev z0w_e:Entry:={ f:=104,args:=.pair t175 .unit,rS:=.pair t28 .unit,m:=λ x=>y2I x.1 }
theorem y46:FnOK Tryz.prog z0w_e:=fB Tryz.f104 (λ n x=>yTK n x.1) [[5,6,7]] eNil λ n hn x=>(yL λ hx=>by apply yEh n hn;exact hx)
def yQ3(n:Nat)(a:Int)(b:Int):Option (Int×Unit):=
  (bif i64.wrap ((2:Int) * b)==0 then none else (bif i64.wrap ((2:Int) * b)==0 then none else (bif decide ((i64.wrap (i64.wrap ((2:Int) * a)+b)).tmod (i64.wrap ((2:Int) * b)) < 0)then some (i64.wrap (i64.wrap ((i64.wrap (i64.wrap ((2:Int) * a)+b)).tdiv (i64.wrap ((2:Int) * b))) - (1:Int)),())else some (i64.wrap ((i64.wrap (i64.wrap ((2:Int) * a)+b)).tdiv (i64.wrap ((2:Int) * b))),()))))
def yQj(a:Int)(b:Int):Option (Int×Unit):=yQ3 0 a b
abbrev z0P_e:Entry:={ f:=107,args:=.pair t3 (.pair t3 .unit),rS:=.pair t3 .unit,m:=λ x=>yQj x.1 x.2.1 }
theorem ySC:FnOK Tryz.prog z0P_e:=fF 0 Tryz.f107 (λ n x=>yQ3 n x.1 x.2.1) [] eNil
def yPS(n:Nat)(n1:Int):Option (Int×Unit):=
  some (if i64.wrap ((0:Int) - n1) > n1 then i64.wrap ((0:Int) - n1)else n1,())
def z0A(n1:Int):(Int×Unit):=
  (if i64.wrap ((0:Int) - n1) > n1 then i64.wrap ((0:Int) - n1)else n1,())
abbrev yTk (n1:Int):Option (Int×Unit):=some (z0A n1)
abbrev z0A_e:Entry:={ f:=108,args:=.pair t3 .unit,rS:=.pair t3 .unit,m:=λ x=>yTk x.1 }
theorem yCl:FnOK Tryz.prog z0A_e:=fF (hm:=by intro x;show some (z0A x.1)=yPS 0 x.1;unfold yPS z0A;first|rfl|simp only[yp]) 0 Tryz.f108 (λ n x=>yPS n x.1) [] eNil
def yOf(n:Nat)(holds:Bool)(e:Int):Option (Int×Unit):=
  (bif holds then some (e,())else some ((0:Int),()))
def z1B(holds:Bool)(e:Int):(Int×Unit):=
  (bif holds then (e,())else ((0:Int),()))
abbrev yTW (holds:Bool) (e:Int):Option (Int×Unit):=some (z1B holds e)
abbrev z1B_e:Entry:={ f:=113,args:=.pair t4 (.pair t28 .unit),rS:=.pair t28 .unit,m:=λ x=>yTW x.1 x.2.1 }
theorem y59:FnOK Tryz.prog z1B_e:=fF (hm:=by intro x;show some (z1B x.1 x.2.1)=yOf 0 x.1 x.2.1;unfold yOf z1B;first|rfl|simp only[yp]) 0 Tryz.f113 (λ n x=>yOf n x.1 x.2.1) [] eNil
def yIU(n:Nat)(r0:((Q4)×Unit->Option (Int×Unit))->List (Q4)->Int->Int->List Int->Option (List Int×Unit))(ae:(Q4)×Unit->Option (Int×Unit))(a8:List (Q4))(aj:Int)(ah:Int)(aa:List Int):Option (List Int×Unit):=
  (bif decide (ah < aj)then ((idx a8 ah).bind λ v1=>((ae ((v1.1,v1.2.1,()),())).bind λ v2=>(bif decide (aa.length+(1:Nat)<=memMax)then r0 ae a8 aj (i64.wrap (ah+1)) (aa++[v2.1])else none)))else some (aa,()))
def yBE(n:Nat)(k:Nat)(ae:(Q4)×Unit->Option (Int×Unit))(a8:List (Q4))(aj:Int)(ah:Int)(aa:List Int):Option (List Int×Unit):=
  iter (λ r y=>yIU n (λ ae a8 aj ah aa=>r ((ae,(a8,(aj,(ah,())))),((aa,()),()))) y.1.1 y.1.2.1 y.1.2.2.1 y.1.2.2.2.1 y.2.1.1) k ((ae,(a8,(aj,(ah,())))),((aa,()),()))
def zH_m(n:Nat)(l:List (Q4))(of:(Q4)×Unit->Option (Int×Unit)):Option (List Int×Unit):=
  (yBE n n (of) (l) ((↑l.length:Int)) ((0:Int)) ([]))
def yPz(ae:(Q4)×Unit->Option (Int×Unit))(a8:List (Q4))(ah:Int)(v1:Q4)(aa:List Int):Option ((List Int×Unit)⊕(List Int)):=
  ((ae ((v1.1,v1.2.1,()),())).bind λ v2=>(bif decide (aa.length+(1:Nat)<=memMax)then (some (Sum.inr (aa++[v2.1])))else none))
def yRH(ae:(Q4)×Unit->Option (Int×Unit))(a8:List (Q4))(aa:List Int):Option (List Int×Unit):=
  (some ((aa,())))
theorem yGz(n:Nat)(hn:big<=n)(ae:(Q4)×Unit->Option (Int×Unit))(a8:List (Q4))(aa:List Int)(hx:List.length (a8) < lenMax):LeF some (yJ (λ ai b6 a7=>yPz ae a8 ai b6 a7) (λ a7=>yRH ae a8 a7) 0 (a8) aa) (yBE n n ae a8 (List.length (a8):Int) 0 aa):=by
  refine yK (f:=some) (W:=λ aH ai a7=>yBE n aH ae a8 (List.length (a8):Int) ai a7) (λ aH ai a7=>?_) hx aa n (by unfold big at hn;unfold lenMax at hx;omega)
  show LeF _ _ (yIU n (yBE n aH) ae a8 (List.length (a8):Int) ai a7)
  exact y3 (y7 λ v1=>(y7 λ v2=>(y3 (y5 rfl) yw))) (ym (y5 rfl))
def zH_M(l:List (Q4))(of:(Q4)×Unit->Option (Int×Unit)):Option (List Int×Unit):=
  (bif decide (List.length (l) < lenMax)then yJ (λ ai b6 a7=>yPz (of) (l) ai b6 a7) (λ a7=>yRH (of) (l) a7) 0 (l) ([])else none)
abbrev zH_e:Entry:={ f:=115,args:=.pair t23 (.pair t177 .unit),rS:=.pair t175 .unit,m:=λ x=>zH_M x.1 x.2.1 }
theorem yOg:FnOK Tryz.prog zH_e:=fB (mu:=[5]) Tryz.f115 (λ n x=>zH_m n x.1 x.2.1) [[1,5,8,9,10]] eNil λ n hn x=>(yL λ hx=>by apply yGz n hn;exact hx)
def yPX(n:Nat)(a:Q4)(b:Q4):Option ((Q4)×Unit):=
  some ((i64.wrap (i64.wrap (a.1 * b.1) - i64.wrap (a.2.1 * b.2.1)),i64.wrap (i64.wrap (a.1 * b.2.1)+i64.wrap (a.2.1 * b.1)),()),())
def z12(a:Q4)(b:Q4):((Q4)×Unit):=
  ((i64.wrap (i64.wrap (a.1 * b.1) - i64.wrap (a.2.1 * b.2.1)),i64.wrap (i64.wrap (a.1 * b.2.1)+i64.wrap (a.2.1 * b.1)),()),())
abbrev yT3 (a:Q4) (b:Q4):Option ((Q4)×Unit):=some (z12 a b)
abbrev z12_e:Entry:={ f:=125,args:=.pair t57 (.pair t57 .unit),rS:=.pair t57 .unit,m:=λ x=>yT3 x.1 x.2.1 }
theorem yGY:FnOK Tryz.prog z12_e:=fF (hm:=by intro x;show some (z12 x.1 x.2.1)=yPX 0 x.1 x.2.1;unfold yPX z12;first|rfl|simp only[yp]) 0 Tryz.f125 (λ n x=>yPX n x.1 x.2.1) [] eNil
def yOw(n:Nat)(a:Q4):Option ((Q4)×Unit):=
  some ((a.1,i64.wrap ((0:Int) - a.2.1),()),())
def z03(a:Q4):((Q4)×Unit):=
  ((a.1,i64.wrap ((0:Int) - a.2.1),()),())
abbrev ySj (a:Q4):Option ((Q4)×Unit):=some (z03 a)
abbrev z03_e:Entry:={ f:=126,args:=.pair t57 .unit,rS:=.pair t57 .unit,m:=λ x=>ySj x.1 }
theorem yKI:FnOK Tryz.prog z03_e:=fF (hm:=by intro x;show some (z03 x.1)=yOw 0 x.1;unfold yOw z03;first|rfl|simp only[yp]) 0 Tryz.f126 (λ n x=>yOw n x.1) [] eNil
def yKT(n:Nat)(r0:((Q3)×Unit->Option ((Q3)×Unit))->List (Q3)->Int->Int->List (Q3)->Option (List (Q3)×Unit))(ae:(Q3)×Unit->Option ((Q3)×Unit))(a8:List (Q3))(aj:Int)(ah:Int)(aa:List (Q3)):Option (List (Q3)×Unit):=
  (bif decide (ah < aj)then ((idx a8 ah).bind λ v1=>((ae ((v1.1,v1.2.1,v1.2.2.1,()),())).bind λ v2=>(bif decide (aa.length+(1:Nat)<=memMax)then r0 ae a8 aj (i64.wrap (ah+1)) (aa++[v2.1])else none)))else some (aa,()))
def yB0(n:Nat)(k:Nat)(ae:(Q3)×Unit->Option ((Q3)×Unit))(a8:List (Q3))(aj:Int)(ah:Int)(aa:List (Q3)):Option (List (Q3)×Unit):=
  iter (λ r y=>yKT n (λ ae a8 aj ah aa=>r ((ae,(a8,(aj,(ah,())))),((aa,()),()))) y.1.1 y.1.2.1 y.1.2.2.1 y.1.2.2.2.1 y.2.1.1) k ((ae,(a8,(aj,(ah,())))),((aa,()),()))
def z7_m(n:Nat)(l:List (Q3))(of:(Q3)×Unit->Option ((Q3)×Unit)):Option (List (Q3)×Unit):=
  (yB0 n n (of) (l) ((↑l.length:Int)) ((0:Int)) ([]))
def ySQ(ae:(Q3)×Unit->Option ((Q3)×Unit))(a8:List (Q3))(ah:Int)(v1:Q3)(aa:List (Q3)):Option ((List (Q3)×Unit)⊕(List (Q3))):=
  ((ae ((v1.1,v1.2.1,v1.2.2.1,()),())).bind λ v2=>(bif decide (aa.length+(1:Nat)<=memMax)then (some (Sum.inr (aa++[v2.1])))else none))
def yR1(ae:(Q3)×Unit->Option ((Q3)×Unit))(a8:List (Q3))(aa:List (Q3)):Option (List (Q3)×Unit):=
  (some ((aa,())))
theorem yHd(n:Nat)(hn:big<=n)(ae:(Q3)×Unit->Option ((Q3)×Unit))(a8:List (Q3))(aa:List (Q3))(hx:List.length (a8) < lenMax):LeF some (yJ (λ ai b6 a7=>ySQ ae a8 ai b6 a7) (λ a7=>yR1 ae a8 a7) 0 (a8) aa) (yB0 n n ae a8 (List.length (a8):Int) 0 aa):=by
  refine yK (f:=some) (W:=λ aH ai a7=>yB0 n aH ae a8 (List.length (a8):Int) ai a7) (λ aH ai a7=>?_) hx aa n (by unfold big at hn;unfold lenMax at hx;omega)
  show LeF _ _ (yKT n (yB0 n aH) ae a8 (List.length (a8):Int) ai a7)
  exact y3 (y7 λ v1=>(y7 λ v2=>(y3 (y5 rfl) yw))) (ym (y5 rfl))
def z7_M(l:List (Q3))(of:(Q3)×Unit->Option ((Q3)×Unit)):Option (List (Q3)×Unit):=
  (bif decide (List.length (l) < lenMax)then yJ (λ ai b6 a7=>ySQ (of) (l) ai b6 a7) (λ a7=>yR1 (of) (l) a7) 0 (l) ([])else none)
abbrev z7_e:Entry:={ f:=130,args:=.pair t31 (.pair t192 .unit),rS:=.pair t31 .unit,m:=λ x=>z7_M x.1 x.2.1 }
theorem yTL:FnOK Tryz.prog z7_e:=fB (mu:=[5]) Tryz.f130 (λ n x=>z7_m n x.1 x.2.1) [[1,5,8,9,10]] eNil λ n hn x=>(yL λ hx=>by apply yHd n hn;exact hx)
def yKi(n:Nat)(r0:((Q4)×Unit->Option ((Q4)×Unit))->List (Q4)->Int->Int->List (Q4)->Option (List (Q4)×Unit))(ae:(Q4)×Unit->Option ((Q4)×Unit))(a8:List (Q4))(aj:Int)(ah:Int)(aa:List (Q4)):Option (List (Q4)×Unit):=
  (bif decide (ah < aj)then ((idx a8 ah).bind λ v1=>((ae ((v1.1,v1.2.1,()),())).bind λ v2=>(bif decide (aa.length+(1:Nat)<=memMax)then r0 ae a8 aj (i64.wrap (ah+1)) (aa++[v2.1])else none)))else some (aa,()))
def yAm(n:Nat)(k:Nat)(ae:(Q4)×Unit->Option ((Q4)×Unit))(a8:List (Q4))(aj:Int)(ah:Int)(aa:List (Q4)):Option (List (Q4)×Unit):=
  iter (λ r y=>yKi n (λ ae a8 aj ah aa=>r ((ae,(a8,(aj,(ah,())))),((aa,()),()))) y.1.1 y.1.2.1 y.1.2.2.1 y.1.2.2.2.1 y.2.1.1) k ((ae,(a8,(aj,(ah,())))),((aa,()),()))
def zI_m(n:Nat)(l:List (Q4))(of:(Q4)×Unit->Option ((Q4)×Unit)):Option (List (Q4)×Unit):=
  (yAm n n (of) (l) ((↑l.length:Int)) ((0:Int)) ([]))
def yQZ(ae:(Q4)×Unit->Option ((Q4)×Unit))(a8:List (Q4))(ah:Int)(v1:Q4)(aa:List (Q4)):Option ((List (Q4)×Unit)⊕(List (Q4))):=
  ((ae ((v1.1,v1.2.1,()),())).bind λ v2=>(bif decide (aa.length+(1:Nat)<=memMax)then (some (Sum.inr (aa++[v2.1])))else none))
def yQt(ae:(Q4)×Unit->Option ((Q4)×Unit))(a8:List (Q4))(aa:List (Q4)):Option (List (Q4)×Unit):=
  (some ((aa,())))
theorem yHP(n:Nat)(hn:big<=n)(ae:(Q4)×Unit->Option ((Q4)×Unit))(a8:List (Q4))(aa:List (Q4))(hx:List.length (a8) < lenMax):LeF some (yJ (λ ai b6 a7=>yQZ ae a8 ai b6 a7) (λ a7=>yQt ae a8 a7) 0 (a8) aa) (yAm n n ae a8 (List.length (a8):Int) 0 aa):=by
  refine yK (f:=some) (W:=λ aH ai a7=>yAm n aH ae a8 (List.length (a8):Int) ai a7) (λ aH ai a7=>?_) hx aa n (by unfold big at hn;unfold lenMax at hx;omega)
  show LeF _ _ (yKi n (yAm n aH) ae a8 (List.length (a8):Int) ai a7)
  exact y3 (y7 λ v1=>(y7 λ v2=>(y3 (y5 rfl) yw))) (ym (y5 rfl))
def zI_M(l:List (Q4))(of:(Q4)×Unit->Option ((Q4)×Unit)):Option (List (Q4)×Unit):=
  (bif decide (List.length (l) < lenMax)then yJ (λ ai b6 a7=>yQZ (of) (l) ai b6 a7) (λ a7=>yQt (of) (l) a7) 0 (l) ([])else none)
abbrev zI_e:Entry:={ f:=132,args:=.pair t23 (.pair t129 .unit),rS:=.pair t23 .unit,m:=λ x=>zI_M x.1 x.2.1 }
theorem yTO:FnOK Tryz.prog zI_e:=fB (mu:=[5]) Tryz.f132 (λ n x=>zI_m n x.1 x.2.1) [[1,5,8,9,10]] eNil λ n hn x=>(yL λ hx=>by apply yHP n hn;exact hx)
def yOs(n:Nat)(a:Q4)(n1:Int):Option ((Q4)×Unit):=
  some ((i64.wrap (n1 * a.1),i64.wrap (n1 * a.2.1),()),())
def z0f(a:Q4)(n1:Int):((Q4)×Unit):=
  ((i64.wrap (n1 * a.1),i64.wrap (n1 * a.2.1),()),())
abbrev ySW (a:Q4) (n1:Int):Option ((Q4)×Unit):=some (z0f a n1)
abbrev z0f_e:Entry:={ f:=134,args:=.pair t57 (.pair t3 .unit),rS:=.pair t57 .unit,m:=λ x=>ySW x.1 x.2.1 }
theorem yKd:FnOK Tryz.prog z0f_e:=fF (hm:=by intro x;show some (z0f x.1 x.2.1)=yOs 0 x.1 x.2.1;unfold yOs z0f;first|rfl|simp only[yp]) 0 Tryz.f134 (λ n x=>yOs n x.1 x.2.1) [] eNil
def yOC(n:Nat)(a:Q4)(b:Q4):Option ((Q4)×Unit):=
  some ((i64.wrap (a.1+b.1),i64.wrap (a.2.1+b.2.1),()),())
def z1A(a:Q4)(b:Q4):((Q4)×Unit):=
  ((i64.wrap (a.1+b.1),i64.wrap (a.2.1+b.2.1),()),())
abbrev ySc (a:Q4) (b:Q4):Option ((Q4)×Unit):=some (z1A a b)
abbrev z1A_e:Entry:={ f:=135,args:=.pair t57 (.pair t57 .unit),rS:=.pair t57 .unit,m:=λ x=>ySc x.1 x.2.1 }
theorem yG5:FnOK Tryz.prog z1A_e:=fF (hm:=by intro x;show some (z1A x.1 x.2.1)=yOC 0 x.1 x.2.1;unfold yOC z1A;first|rfl|simp only[yp]) 0 Tryz.f135 (λ n x=>yOC n x.1 x.2.1) [] eNil
def yJ6(n:Nat)(r0:((Q4)×Unit->Option ((Nat×Nat)×Unit))->List (Q4)->Int->Int->List (Nat×Nat)->Option (List (Nat×Nat)×Unit))(ae:(Q4)×Unit->Option ((Nat×Nat)×Unit))(a8:List (Q4))(aj:Int)(ah:Int)(aa:List (Nat×Nat)):Option (List (Nat×Nat)×Unit):=
  (bif decide (ah < aj)then ((idx a8 ah).bind λ v1=>((ae ((v1.1,v1.2.1,()),())).bind λ v2=>(bif decide (aa.length+(1:Nat)<=memMax)then r0 ae a8 aj (i64.wrap (ah+1)) (aa++[v2.1])else none)))else some (aa,()))
def yBR(n:Nat)(k:Nat)(ae:(Q4)×Unit->Option ((Nat×Nat)×Unit))(a8:List (Q4))(aj:Int)(ah:Int)(aa:List (Nat×Nat)):Option (List (Nat×Nat)×Unit):=
  iter (λ r y=>yJ6 n (λ ae a8 aj ah aa=>r ((ae,(a8,(aj,(ah,())))),((aa,()),()))) y.1.1 y.1.2.1 y.1.2.2.1 y.1.2.2.2.1 y.2.1.1) k ((ae,(a8,(aj,(ah,())))),((aa,()),()))
def zJ_m(n:Nat)(l:List (Q4))(of:(Q4)×Unit->Option ((Nat×Nat)×Unit)):Option (List (Nat×Nat)×Unit):=
  (yBR n n (of) (l) ((↑l.length:Int)) ((0:Int)) ([]))
def yRO(ae:(Q4)×Unit->Option ((Nat×Nat)×Unit))(a8:List (Q4))(ah:Int)(v1:Q4)(aa:List (Nat×Nat)):Option ((List (Nat×Nat)×Unit)⊕(List (Nat×Nat))):=
  ((ae ((v1.1,v1.2.1,()),())).bind λ v2=>(bif decide (aa.length+(1:Nat)<=memMax)then (some (Sum.inr (aa++[v2.1])))else none))
def yQG(ae:(Q4)×Unit->Option ((Nat×Nat)×Unit))(a8:List (Q4))(aa:List (Nat×Nat)):Option (List (Nat×Nat)×Unit):=
  (some ((aa,())))
theorem yH5(n:Nat)(hn:big<=n)(ae:(Q4)×Unit->Option ((Nat×Nat)×Unit))(a8:List (Q4))(aa:List (Nat×Nat))(hx:List.length (a8) < lenMax):LeF some (yJ (λ ai b6 a7=>yRO ae a8 ai b6 a7) (λ a7=>yQG ae a8 a7) 0 (a8) aa) (yBR n n ae a8 (List.length (a8):Int) 0 aa):=by
  refine yK (f:=some) (W:=λ aH ai a7=>yBR n aH ae a8 (List.length (a8):Int) ai a7) (λ aH ai a7=>?_) hx aa n (by unfold big at hn;unfold lenMax at hx;omega)
  show LeF _ _ (yJ6 n (yBR n aH) ae a8 (List.length (a8):Int) ai a7)
  exact y3 (y7 λ v1=>(y7 λ v2=>(y3 (y5 rfl) yw))) (ym (y5 rfl))
def zJ_M(l:List (Q4))(of:(Q4)×Unit->Option ((Nat×Nat)×Unit)):Option (List (Nat×Nat)×Unit):=
  (bif decide (List.length (l) < lenMax)then yJ (λ ai b6 a7=>yRO (of) (l) ai b6 a7) (λ a7=>yQG (of) (l) a7) 0 (l) ([])else none)
abbrev zJ_e:Entry:={ f:=139,args:=.pair t23 (.pair t196 .unit),rS:=.pair t79 .unit,m:=λ x=>zJ_M x.1 x.2.1 }
theorem ySd:FnOK Tryz.prog zJ_e:=fB (mu:=[5]) Tryz.f139 (λ n x=>zJ_m n x.1 x.2.1) [[1,5,8,9,10]] eNil λ n hn x=>(yL λ hx=>by apply yH5 n hn;exact hx)
def yP4(n:Nat)(z:Q4)(p1:Nat×Nat):Option ((Nat×Nat)×Unit):=
  some ((y05 BinOp.quo FloatKind.f32 (y14 FloatKind.f32 z.1) p1.1,y05 BinOp.quo FloatKind.f32 (y14 FloatKind.f32 z.2.1) p1.1),())
def z0c(z:Q4)(p1:Nat×Nat):((Nat×Nat)×Unit):=
  ((y05 BinOp.quo FloatKind.f32 (y14 FloatKind.f32 z.1) p1.1,y05 BinOp.quo FloatKind.f32 (y14 FloatKind.f32 z.2.1) p1.1),())
abbrev yQX (z:Q4) (p1:Nat×Nat):Option ((Nat×Nat)×Unit):=some (z0c z p1)
abbrev z0c_e:Entry:={ f:=140,args:=.pair t57 (.pair (.ref t165) .unit),rS:=.pair t165 .unit,m:=λ x=>yQX x.1 x.2.1 }
theorem yS2:FnOK Tryz.prog z0c_e:=fF (hm:=by intro x;show some (z0c x.1 x.2.1)=yP4 0 x.1 x.2.1;unfold yP4 z0c;first|rfl|simp only[yp]) 0 Tryz.f140 (λ n x=>yP4 n x.1 x.2.1) [] eNil
def il124:Inl:={ f:=124,fn:=Tryz.f124,keep:=[],mU:=[],fz:=[] }
theorem y4I:y3b Tryz.prog il124:=⟨by kernel_rfl,by kernel_rfl,λ e0 h=>by cases (show (none:Option LibK)=some e0 from h)⟩
def il195:Inl:={ f:=195,fn:=Tryz.f195,keep:=[[0,1,3,9,10,11],[0,1,3,4,5,9,10,11]],mU:=[],fz:=[] }
theorem y4E:y3b Tryz.prog il195:=⟨by kernel_rfl,by kernel_rfl,λ e0 h=>by cases (show (none:Option LibK)=some e0 from h)⟩
def y7v(n:Nat)(r0:Q1->List (Q4)->List Nat->Int->Int->Q1->Q1->Q1->Q1->List Int->Q1->Q1->Q1->Q1->Option (List Int×Unit))(j8:Q1)(j9:List (Q4))(j10:Int)(j11:Nat)(j12:List Nat)(j13:Int)(j14:Int)(j15:Q1)(j16:Q1)(j17:Q1)(j18:Q1)(j19:List Int)(j20:Q1)(j21:Q1)(j22:Q1)(j23:Q1):Option (List Int×Unit):=
  (bif decide ((↑j9.length:Int) > 0)then ((idx j9 (0:Int)).bind λ v24=>(bif decide (v24.1<=j10)then r0 j8 j9 j12 j13 (i64.wrap (j14+1)) j15 j16 j17 j18 j19 j20 j21 j22 j23 else ((yf FloatKind.f32 (y05 BinOp.mul FloatKind.f32 j11 (nat_lit 1098907648)) i64).bind λ v29=>(bif decide (j19.length+(1:Nat)<=memMax)then r0 j8 j9 j12 j13 (i64.wrap (j14+1)) j15 j16 j17 j18 (j19++[i64.wrap (j8.2.1+j10)]) j20 j21 j22 j23 else none))))else ((yf FloatKind.f32 (y05 BinOp.mul FloatKind.f32 j11 (nat_lit 1098907648)) i64).bind λ v30=>(bif decide (j19.length+(1:Nat)<=memMax)then r0 j8 j9 j12 j13 (i64.wrap (j14+1)) j15 j16 j17 j18 (j19++[i64.wrap (j8.2.1+j10)]) j20 j21 j22 j23 else none)))
def yGA(n:Nat)(r0:Q1->List (Q4)->List Nat->Int->Int->Q1->Q1->Q1->Q1->List Int->Q1->Q1->Q1->Q1->Option (List Int×Unit))(r2:Q1->List (Q4)->Int->Nat->List Nat->Int->Int->Q1->Q1->Q1->Q1->List Int->Q1->Q1->Q1->Q1->Option (List Int×Unit))(bg:Q1)(af:List (Q4))(bh:Int)(bq:Nat)(aS:List Nat)(aD:Int)(aE:Int)(ar:Q1)(au:Q1)(aL:Q1)(bi:Q1)(cV:List Int)(aQ:Q1)(aR:Q1)(bI:Q1)(bJ:Q1):Option (List Int×Unit):=
  (bif decide ((↑af.length:Int) > 0)then ((idx af (0:Int)).bind λ v3=>(bif decide (v3.2.1<=bh)then (bif decide ((0:Int)<=1) && decide ((1:Int)<=(↑af.length:Int))then r2 bg (List.drop (Int.toNat (1:Int)) af) bh bq aS aD aE ar au aL bi cV aQ aR bI bJ else none)else (y7v n r0 (bg) (af) (bh) (bq) (aS) (aD) (aE) (ar) (au) (aL) (bi) (cV) (aQ) (aR) (bI) (bJ))))else (y7v n r0 (bg) (af) (bh) (bq) (aS) (aD) (aE) (ar) (au) (aL) (bi) (cV) (aQ) (aR) (bI) (bJ)))
def y7F(n:Nat)(r0:Q1->List (Q4)->List Nat->Int->Int->Q1->Q1->Q1->Q1->List Int->Q1->Q1->Q1->Q1->Option (List Int×Unit))(k:Nat)(bg:Q1)(af:List (Q4))(bh:Int)(bq:Nat)(aS:List Nat)(aD:Int)(aE:Int)(ar:Q1)(au:Q1)(aL:Q1)(bi:Q1)(cV:List Int)(aQ:Q1)(aR:Q1)(bI:Q1)(bJ:Q1):Option (List Int×Unit):=
  iter (λ r y=>yGA n r0 (λ bg af bh bq aS aD aE ar au aL bi cV aQ aR bI bJ=>r ((bg,(af,(bh,(bq,(aS,(aD,(aE,()))))))),(((ar,(au,(aL,((bi,()),())))),((),(cV,()))),(aQ,(aR,(bI,((bJ,()),()))))))) y.1.1 y.1.2.1 y.1.2.2.1 y.1.2.2.2.1 y.1.2.2.2.2.1 y.1.2.2.2.2.2.1 y.1.2.2.2.2.2.2.1 y.2.1.1.1 y.2.1.1.2.1 y.2.1.1.2.2.1 y.2.1.1.2.2.2.1.1 y.2.1.2.2.1 y.2.2.1 y.2.2.2.1 y.2.2.2.2.1 y.2.2.2.2.2.1.1) k ((bg,(af,(bh,(bq,(aS,(aD,(aE,()))))))),(((ar,(au,(aL,((bi,()),())))),((),(cV,()))),(aQ,(aR,(bI,((bJ,()),()))))))
def yFj(n:Nat)(r0:Q1->List (Q4)->List Nat->Int->Int->Q1->Q1->Q1->Q1->List Int->Q1->Q1->Q1->Q1->Option (List Int×Unit))(aI:Q1)(ax:List (Q4))(aj:List Nat)(ah:Int)(aF:Int)(ay:Q1)(az:Q1)(b8:Q1)(bB:Q1)(cZ:List Int)(aZ:Q1)(aT:Q1)(bZ:Q1)(ca:Q1):Option (List Int×Unit):=
  (bif decide (aF < ah)then ((idx aj aF).bind λ v1=>(y7F n r0 n (aI) (ax) (aF) (v1) (aj) (ah) (aF) (ay) (az) (b8) (bB) (cZ) (aZ) (aT) (bZ) (ca)))else some (cZ,()))
def y7E(n:Nat)(k:Nat)(aI:Q1)(ax:List (Q4))(aj:List Nat)(ah:Int)(aF:Int)(ay:Q1)(az:Q1)(b8:Q1)(bB:Q1)(cZ:List Int)(aZ:Q1)(aT:Q1)(bZ:Q1)(ca:Q1):Option (List Int×Unit):=
  iter (λ r y=>yFj n (λ aI ax aj ah aF ay az b8 bB cZ aZ aT bZ ca=>r ((aI,(ax,(aj,(ah,(aF,()))))),(((ay,(az,(b8,((bB,()),())))),((),(cZ,()))),(aZ,(aT,(bZ,((ca,()),()))))))) y.1.1 y.1.2.1 y.1.2.2.1 y.1.2.2.2.1 y.1.2.2.2.2.1 y.2.1.1.1 y.2.1.1.2.1 y.2.1.1.2.2.1 y.2.1.1.2.2.2.1.1 y.2.1.2.2.1 y.2.2.1 y.2.2.2.1 y.2.2.2.2.1 y.2.2.2.2.2.1.1) k ((aI,(ax,(aj,(ah,(aF,()))))),(((ay,(az,(b8,((bB,()),())))),((),(cZ,()))),(aZ,(aT,(bZ,((ca,()),()))))))
def yTM(n:Nat)(r1:Q1):Option (List Int×Unit):=
  (y7E n n (r1) (r1.2.2.2.1) (r1.2.2.1) ((↑r1.2.2.1.length:Int)) ((0:Int)) (r1) (r1) (r1) (r1) ([]) (r1) (r1) (r1) (r1))
def yAH(j8:Q1)(j9:List (Q4))(j10:Int)(j11:Nat)(j12:List Nat)(j13:Int)(j14:Int)(j15:Q1)(j16:Q1)(j17:Q1)(j18:Q1)(j19:List Int)(j20:Q1)(j21:Q1)(j22:Q1)(j23:Q1):Option ((List Int×Unit)⊕((List (Q4))×List Int)):=
  (bif decide ((↑j9.length:Int) > 0)then ((idx j9 (0:Int)).bind λ v24=>(bif decide (v24.1<=j10)then (some (Sum.inr ((j9),(j19))))else ((yf FloatKind.f32 (y05 BinOp.mul FloatKind.f32 j11 (nat_lit 1098907648)) i64).bind λ v29=>(bif decide (j19.length+(1:Nat)<=memMax)then (some (Sum.inr ((j9),(j19++[i64.wrap (j8.2.1+j10)]))))else none))))else ((yf FloatKind.f32 (y05 BinOp.mul FloatKind.f32 j11 (nat_lit 1098907648)) i64).bind λ v30=>(bif decide (j19.length+(1:Nat)<=memMax)then (some (Sum.inr ((j9),(j19++[i64.wrap (j8.2.1+j10)]))))else none)))
theorem y30(n:Nat)(hn:big<=n)(r0:Q1->List (Q4)->List Nat->Int->Int->Q1->Q1->Q1->Q1->List Int->Q1->Q1->Q1->Q1->Option (List Int×Unit))(j8:Q1)(j9:List (Q4))(j10:Int)(j11:Nat)(j12:List Nat)(j13:Int)(j14:Int)(j15:Q1)(j16:Q1)(j17:Q1)(j18:Q1)(j19:List Int)(j20:Q1)(j21:Q1)(j22:Q1)(j23:Q1):LeF (elim some λ (a7:((List (Q4))×List Int))=>r0 j8 a7.1 j12 j13 (i64.wrap (j14+1)) j15 j16 j17 j18 a7.2 j20 j21 j22 j23) (yAH j8 j9 j10 j11 j12 j13 j14 j15 j16 j17 j18 j19 j20 j21 j22 j23) (y7v n r0 j8 j9 j10 j11 j12 j13 j14 j15 j16 j17 j18 j19 j20 j21 j22 j23):=
  (y3 (y7 λ v24=>(y3 (y5 rfl) (y7 λ v29=>(y3 (y5 rfl) yw)))) (y7 λ v30=>(y3 (y5 rfl) yw)))
def yJ5(bg:Q1)(bh:Int)(bq:Nat)(aS:List Nat)(aD:Int)(aE:Int)(ar:Q1)(au:Q1)(aL:Q1)(bi:Q1)(cV:List Int)(aQ:Q1)(aR:Q1)(bI:Q1)(bJ:Q1)(af:List (Q4)):Option (((List Int×Unit)⊕((List (Q4))×List Int))⊕(List (Q4))):=
  (bif decide ((↑af.length:Int) > 0)then ((idx af (0:Int)).bind λ v3=>(bif decide (v3.2.1<=bh)then (bif decide ((0:Int)<=1) && decide ((1:Int)<=(↑af.length:Int))then (some (Sum.inr (List.drop (Int.toNat (1:Int)) af)))else none)else (Option.map Sum.inl (yAH (bg) (af) (bh) (bq) (aS) (aD) (aE) (ar) (au) (aL) (bi) (cV) (aQ) (aR) (bI) (bJ)))))else (Option.map Sum.inl (yAH (bg) (af) (bh) (bq) (aS) (aD) (aE) (ar) (au) (aL) (bi) (cV) (aQ) (aR) (bI) (bJ))))
theorem yE8(n:Nat)(hn:big<=n)(r0:Q1->List (Q4)->List Nat->Int->Int->Q1->Q1->Q1->Q1->List Int->Q1->Q1->Q1->Q1->Option (List Int×Unit))(bg:Q1)(bh:Int)(bq:Nat)(aS:List Nat)(aD:Int)(aE:Int)(ar:Q1)(au:Q1)(aL:Q1)(bi:Q1)(cV:List Int)(aQ:Q1)(aR:Q1)(bI:Q1)(bJ:Q1)(af:List (Q4)):LeF (elim some λ (a7:((List (Q4))×List Int))=>r0 bg a7.1 aS aD (i64.wrap (aE+1)) ar au aL bi a7.2 aQ aR bI bJ) (y1v (λ a7=>yJ5 bg bh bq aS aD aE ar au aL bi cV aQ aR bI bJ a7) wMax af) (y7F n r0 n bg af bh bq aS aD aE ar au aL bi cV aQ aR bI bJ):=by
  refine y2R (f:=(elim some λ (a7:((List (Q4))×List Int))=>r0 bg a7.1 aS aD (i64.wrap (aE+1)) ar au aL bi a7.2 aQ aR bI bJ)) (W:=λ aH a7=>y7F n r0 aH bg a7 bh bq aS aD aE ar au aL bi cV aQ aR bI bJ) (body:=(λ a7=>yJ5 bg bh bq aS aD aE ar au aL bi cV aQ aR bI bJ a7)) (λ aH a7=>?_) wMax n af (by unfold big at hn;unfold wMax;omega)
  show LeF _ _ (yGA n r0 (y7F n r0 aH) bg a7 bh bq aS aD aE ar au aL bi cV aQ aR bI bJ)
  exact (y3 (y7 λ v3=>(y3 (y3 (y5 rfl) yw) (ym (by apply y30 n hn)))) (ym (by apply y30 n hn)))
def yIV(aI:Q1)(aj:List Nat)(ay:Q1)(az:Q1)(b8:Q1)(bB:Q1)(aZ:Q1)(aT:Q1)(bZ:Q1)(ca:Q1)(aF:Int)(v1:Nat)(ax:List (Q4))(cZ:List Int):Option ((List Int×Unit)⊕((List (Q4))×List Int)):=
  (y1v (λ a7=>yJ5 (aI) (aF) (v1) (aj) ((↑aj.length:Int)) (aF) (ay) (az) (b8) (bB) (cZ) (aZ) (aT) (bZ) (ca) a7) wMax (ax))
def yNm(aI:Q1)(aj:List Nat)(ay:Q1)(az:Q1)(b8:Q1)(bB:Q1)(aZ:Q1)(aT:Q1)(bZ:Q1)(ca:Q1)(ax:List (Q4))(cZ:List Int):Option (List Int×Unit):=
  (some ((cZ,())))
theorem yDj(n:Nat)(hn:big<=n)(aI:Q1)(aj:List Nat)(ay:Q1)(az:Q1)(b8:Q1)(bB:Q1)(aZ:Q1)(aT:Q1)(bZ:Q1)(ca:Q1)(ax:List (Q4))(cZ:List Int)(hx:List.length (aj) < lenMax):LeF some (yJ (λ ai b6 a7=>yIV aI aj ay az b8 bB aZ aT bZ ca ai b6 a7.1 a7.2) (λ a7=>yNm aI aj ay az b8 bB aZ aT bZ ca a7.1 a7.2) 0 (aj) (ax,cZ)) (y7E n n aI ax aj (List.length (aj):Int) 0 ay az b8 bB cZ aZ aT bZ ca):=by
  refine yK (f:=some) (W:=λ aH ai a7=>y7E n aH aI a7.1 aj (List.length (aj):Int) ai ay az b8 bB a7.2 aZ aT bZ ca) (λ aH ai a7=>?_) hx (ax,cZ) n (by unfold big at hn;unfold lenMax at hx;omega)
  show LeF _ _ (yFj n (y7E n aH) aI a7.1 aj (List.length (aj):Int) ai ay az b8 bB a7.2 aZ aT bZ ca)
  exact y3 (y7 λ v1=>(by apply yE8 n hn)) (ym (y5 rfl))
def yIB(r1:Q1):Option (List Int×Unit):=
  (bif decide (List.length (r1.2.2.1) < lenMax)then yJ (λ ai b6 a7=>yIV (r1) (r1.2.2.1) (r1) (r1) (r1) (r1) (r1) (r1) (r1) (r1) ai b6 a7.1 a7.2) (λ a7=>yNm (r1) (r1.2.2.1) (r1) (r1) (r1) (r1) (r1) (r1) (r1) (r1) a7.1 a7.2) 0 (r1.2.2.1) ((r1.2.2.2.1),([]))else none)
abbrev z11_e:Entry:={ f:=147,args:=.pair t60 .unit,rS:=.pair t41 .unit,m:=λ x=>yIB x.1 }
theorem yNC:FnOK Tryz.prog z11_e:=fBI (mu:=[3]) Tryz.f147 (λ n x=>yTM n x.1) [] [il124,il195] 3 eNil (y3a y4I (y3a y4E iNil)) λ n hn x=>(yL λ hx=>by apply yDj n hn;exact hx)
def z0H(a:Q4):(Int×Unit):=
  (i64.wrap (i64.wrap (a.1 * a.1)+i64.wrap (a.2.1 * a.2.1)),())
def yGQ(n:Nat)(r0:List (Q4)->Int->Int->Option (Bool×Unit))(aw:List (Q4))(aI:Int)(aG:Int):Option (Bool×Unit):=
  (bif decide (aG < (↑aw.length:Int))then ((idx aw aG).bind λ v1=>(bif decide (aI >= v1.1)then ((idx aw aG).bind λ v2=>(bif decide (aI < v2.2.1)then some (Bool.true,())else r0 aw aI (i64.wrap (aG+1))))else r0 aw aI (i64.wrap (aG+1))))else some (Bool.false,()))
def y7J(n:Nat)(k:Nat)(aw:List (Q4))(aI:Int)(aG:Int):Option (Bool×Unit):=
  iter (λ r y=>yGQ n (λ aw aI aG=>r ((aw,(aI,(aG,()))),((),()))) y.1.1 y.1.2.1 y.1.2.2.1) k ((aw,(aI,(aG,()))),((),()))
def yU4(n:Nat)(l:List (Q4))(t:Int):Option (Bool×Unit):=
  (y7J n n (l) (t) ((0:Int)))
def yFF(aw:List (Q4))(aI:Int)(aG:Int)(v1:Q4):Option ((Bool×Unit)⊕Unit):=
  (bif decide (aI >= v1.1)then ((idx aw aG).bind λ v2=>(bif decide (aI < v2.2.1)then (some (Sum.inl ((Bool.true,()))))else (some (Sum.inr ()))))else (some (Sum.inr ())))
def yJR(aw:List (Q4))(aI:Int):Option (Bool×Unit):=
  (some ((Bool.false,())))
theorem yEA(n:Nat)(hn:big<=n)(aw:List (Q4))(aI:Int)(hx:List.length (aw) < lenMax):LeF some (yJ (λ ai b6 a7=>yFF aw aI ai b6) (λ a7=>yJR aw aI) 0 (aw) ()) (y7J n n aw aI 0):=by
  refine yK (f:=some) (W:=λ aH ai a7=>y7J n aH aw aI ai) (λ aH ai a7=>?_) hx () n (by unfold big at hn;unfold lenMax at hx;omega)
  show LeF _ _ (yGQ n (y7J n aH) aw aI ai)
  exact y3 (y7 λ v1=>(y3 (y7 λ v2=>(y3 (y5 rfl) (y5 rfl))) (y5 rfl))) (ym (y5 rfl))
def yHs(l:List (Q4))(t:Int):Option (Bool×Unit):=
  (bif decide (List.length (l) < lenMax)then yJ (λ ai b6 a7=>yFF (l) (t) ai b6) (λ a7=>yJR (l) (t)) 0 (l) ()else none)
abbrev z15_e:Entry:={ f:=159,args:=.pair t58 (.pair t3 .unit),rS:=.pair t4 .unit,m:=λ x=>yHs x.1 x.2.1 }
theorem yO1:FnOK Tryz.prog z15_e:=fB Tryz.f159 (λ n x=>yU4 n x.1 x.2.1) [[0,1,5]] eNil λ n hn x=>(yL λ hx=>by apply yEA n hn;exact hx)
def zT_m(n:Nat)(c:Q3)(tick:Int):Option ((Q4)×Unit):=
  (bif c.2.1==0 then none else ((idx [((1:Int),(0:Int),()),((0:Int),(1:Int),()),((-1:Int),(0:Int),()),((0:Int),(-1:Int),())] ((i64.wrap (c.2.2.1 * i64.wrap (tick.tdiv c.2.1))).tmod (4:Int))).bind λ v0=>some ((v0.1,v0.2.1,()),())))
def zT_M(c:Q3)(tick:Int):Option ((Q4)×Unit):=zT_m 0 c tick
abbrev zT_e:Entry:={ f:=161,args:=.pair t55 (.pair t3 .unit),rS:=.pair t57 .unit,m:=λ x=>zT_M x.1 x.2.1 }
theorem yPU:FnOK Tryz.prog zT_e:=fF 0 Tryz.f161 (λ n x=>zT_m n x.1 x.2.1) [] eNil
def yKv(n:Nat)(r0:((Q3)×Unit->Option ((Q4)×Unit))->List (Q3)->Int->Int->List (Q4)->Option (List (Q4)×Unit))(ae:(Q3)×Unit->Option ((Q4)×Unit))(a8:List (Q3))(aj:Int)(ah:Int)(aa:List (Q4)):Option (List (Q4)×Unit):=
  (bif decide (ah < aj)then ((idx a8 ah).bind λ v1=>((ae ((v1.1,v1.2.1,v1.2.2.1,()),())).bind λ v2=>(bif decide (aa.length+(1:Nat)<=memMax)then r0 ae a8 aj (i64.wrap (ah+1)) (aa++[v2.1])else none)))else some (aa,()))
def yB6(n:Nat)(k:Nat)(ae:(Q3)×Unit->Option ((Q4)×Unit))(a8:List (Q3))(aj:Int)(ah:Int)(aa:List (Q4)):Option (List (Q4)×Unit):=
  iter (λ r y=>yKv n (λ ae a8 aj ah aa=>r ((ae,(a8,(aj,(ah,())))),((aa,()),()))) y.1.1 y.1.2.1 y.1.2.2.1 y.1.2.2.2.1 y.2.1.1) k ((ae,(a8,(aj,(ah,())))),((aa,()),()))
def zB_m(n:Nat)(l:List (Q3))(of:(Q3)×Unit->Option ((Q4)×Unit)):Option (List (Q4)×Unit):=
  (yB6 n n (of) (l) ((↑l.length:Int)) ((0:Int)) ([]))
def yLh(ae:(Q3)×Unit->Option ((Q4)×Unit))(a8:List (Q3))(ah:Int)(v1:Q3)(aa:List (Q4)):Option ((List (Q4)×Unit)⊕(List (Q4))):=
  ((ae ((v1.1,v1.2.1,v1.2.2.1,()),())).bind λ v2=>(bif decide (aa.length+(1:Nat)<=memMax)then (some (Sum.inr (aa++[v2.1])))else none))
def yS0(ae:(Q3)×Unit->Option ((Q4)×Unit))(a8:List (Q3))(aa:List (Q4)):Option (List (Q4)×Unit):=
  (some ((aa,())))
theorem yI6(n:Nat)(hn:big<=n)(ae:(Q3)×Unit->Option ((Q4)×Unit))(a8:List (Q3))(aa:List (Q4))(hx:List.length (a8) < lenMax):LeF some (yJ (λ ai b6 a7=>yLh ae a8 ai b6 a7) (λ a7=>yS0 ae a8 a7) 0 (a8) aa) (yB6 n n ae a8 (List.length (a8):Int) 0 aa):=by
  refine yK (f:=some) (W:=λ aH ai a7=>yB6 n aH ae a8 (List.length (a8):Int) ai a7) (λ aH ai a7=>?_) hx aa n (by unfold big at hn;unfold lenMax at hx;omega)
  show LeF _ _ (yKv n (yB6 n aH) ae a8 (List.length (a8):Int) ai a7)
  exact y3 (y7 λ v1=>(y7 λ v2=>(y3 (y5 rfl) yw))) (ym (y5 rfl))
def zB_M(l:List (Q3))(of:(Q3)×Unit->Option ((Q4)×Unit)):Option (List (Q4)×Unit):=
  (bif decide (List.length (l) < lenMax)then yJ (λ ai b6 a7=>yLh (of) (l) ai b6 a7) (λ a7=>yS0 (of) (l) a7) 0 (l) ([])else none)
abbrev zB_e:Entry:={ f:=162,args:=.pair t31 (.pair t215 .unit),rS:=.pair t23 .unit,m:=λ x=>zB_M x.1 x.2.1 }
theorem yPo:FnOK Tryz.prog zB_e:=fB (mu:=[5]) Tryz.f162 (λ n x=>zB_m n x.1 x.2.1) [[1,5,8,9,10]] eNil λ n hn x=>(yL λ hx=>by apply yI6 n hn;exact hx)
def yJe(n:Nat)(r0:List (List (Q4))->Int->List (Q4)->Int->Int->List (List (Q4))->Option (List (List (Q4))×Unit))(bF:List (List (Q4)))(aU:Int)(bl:List (Q4))(cw:Int)(aA:Int)(aa:List (List (Q4))):Option (List (List (Q4))×Unit):=
  (bif decide (aA < cw)then ((idx bF aA).bind λ v1=>(bif Bool.true && decide ((0:Int)<=(↑v1.length:Int)) && decide ((↑v1.length:Int)<=(↑memMax:Int)) && (↑v1.length:Int)==(↑v1.length:Int)then ((idx aa aA).bind λ v2=>((aa[aA.toNat]?).bind λ v3=>((idx (aa.set aA.toNat (List.replicate ((↑v1.length:Int).toNat) (((0:Int),(0:Int),())):List (Q4))) aA).bind λ v4=>(((aa.set aA.toNat (List.replicate ((↑v1.length:Int).toNat) (((0:Int),(0:Int),())):List (Q4)))[aA.toNat]?).bind λ v5=>((idx bF aA).bind λ v6=>(((aa.set aA.toNat (List.replicate ((↑v1.length:Int).toNat) (((0:Int),(0:Int),())):List (Q4)))[aA.toNat]?).bind λ v7=>(bif decide (v6.length=v7.length)then ((idx ((aa.set aA.toNat (List.replicate ((↑v1.length:Int).toNat) (((0:Int),(0:Int),())):List (Q4))).set aA.toNat v6) aA).bind λ v8=>((((aa.set aA.toNat (List.replicate ((↑v1.length:Int).toNat) (((0:Int),(0:Int),())):List (Q4))).set aA.toNat v6)[aA.toNat]?).bind λ v9=>((idx bl aA).bind λ v10=>((((aa.set aA.toNat (List.replicate ((↑v1.length:Int).toNat) (((0:Int),(0:Int),())):List (Q4))).set aA.toNat v6)[aA.toNat]?).bind λ v11=>((idx v11 aU).bind λ v12=>((((aa.set aA.toNat (List.replicate ((↑v1.length:Int).toNat) (((0:Int),(0:Int),())):List (Q4))).set aA.toNat v6)[aA.toNat]?).bind λ v13=>((v13[aU.toNat]?).bind λ v14=>r0 bF aU bl cw (i64.wrap (aA+1)) (((aa.set aA.toNat (List.replicate ((↑v1.length:Int).toNat) (((0:Int),(0:Int),())):List (Q4))).set aA.toNat v6).set aA.toNat (v13.set aU.toNat v10)))))))))else none)))))))else none))else some (aa,()))
def yBK(n:Nat)(k:Nat)(bF:List (List (Q4)))(aU:Int)(bl:List (Q4))(cw:Int)(aA:Int)(aa:List (List (Q4))):Option (List (List (Q4))×Unit):=
  iter (λ r y=>yJe n (λ bF aU bl cw aA aa=>r ((bF,(aU,(bl,(cw,(aA,()))))),((aa,()),()))) y.1.1 y.1.2.1 y.1.2.2.1 y.1.2.2.2.1 y.1.2.2.2.2.1 y.2.1.1) k ((bF,(aU,(bl,(cw,(aA,()))))),((aa,()),()))
def zn_m(n:Nat)(m:List (List (Q4)))(column:Int)(values:List (Q4)):Option (List (List (Q4))×Unit):=
  (bif Bool.true && decide ((0:Int)<=(↑m.length:Int)) && decide ((↑m.length:Int)<=(↑memMax:Int)) && (↑m.length:Int)==(↑m.length:Int)then (yBK n n (m) (column) (values) ((↑m.length:Int)) ((0:Int)) ((List.replicate ((↑m.length:Int).toNat) ([]):List (List (Q4)))))else none)
def yKG(bF:List (List (Q4)))(aU:Int)(bl:List (Q4))(aA:Int)(v1:List (Q4))(aa:List (List (Q4))):Option ((List (List (Q4))×Unit)⊕(List (List (Q4)))):=
  (bif Bool.true && decide ((0:Int)<=(↑v1.length:Int)) && decide ((↑v1.length:Int)<=(↑memMax:Int)) && (↑v1.length:Int)==(↑v1.length:Int)then ((idx aa aA).bind λ v2=>((aa[aA.toNat]?).bind λ v3=>((idx (aa.set aA.toNat (List.replicate ((↑v1.length:Int).toNat) (((0:Int),(0:Int),())):List (Q4))) aA).bind λ v4=>(((aa.set aA.toNat (List.replicate ((↑v1.length:Int).toNat) (((0:Int),(0:Int),())):List (Q4)))[aA.toNat]?).bind λ v5=>((idx bF aA).bind λ v6=>(((aa.set aA.toNat (List.replicate ((↑v1.length:Int).toNat) (((0:Int),(0:Int),())):List (Q4)))[aA.toNat]?).bind λ v7=>(bif decide (v6.length=v7.length)then ((idx ((aa.set aA.toNat (List.replicate ((↑v1.length:Int).toNat) (((0:Int),(0:Int),())):List (Q4))).set aA.toNat v6) aA).bind λ v8=>((((aa.set aA.toNat (List.replicate ((↑v1.length:Int).toNat) (((0:Int),(0:Int),())):List (Q4))).set aA.toNat v6)[aA.toNat]?).bind λ v9=>((idx bl aA).bind λ v10=>((((aa.set aA.toNat (List.replicate ((↑v1.length:Int).toNat) (((0:Int),(0:Int),())):List (Q4))).set aA.toNat v6)[aA.toNat]?).bind λ v11=>((idx v11 aU).bind λ v12=>((((aa.set aA.toNat (List.replicate ((↑v1.length:Int).toNat) (((0:Int),(0:Int),())):List (Q4))).set aA.toNat v6)[aA.toNat]?).bind λ v13=>((v13[aU.toNat]?).bind λ v14=>(some (Sum.inr (((aa.set aA.toNat (List.replicate ((↑v1.length:Int).toNat) (((0:Int),(0:Int),())):List (Q4))).set aA.toNat v6).set aA.toNat (v13.set aU.toNat v10)))))))))))else none)))))))else none)
def yLg(bF:List (List (Q4)))(aU:Int)(bl:List (Q4))(aa:List (List (Q4))):Option (List (List (Q4))×Unit):=
  (some ((aa,())))
theorem yHA(n:Nat)(hn:big<=n)(bF:List (List (Q4)))(aU:Int)(bl:List (Q4))(aa:List (List (Q4)))(hx:List.length (bF) < lenMax):LeF some (yJ (λ ai b6 a7=>yKG bF aU bl ai b6 a7) (λ a7=>yLg bF aU bl a7) 0 (bF) aa) (yBK n n bF aU bl (List.length (bF):Int) 0 aa):=by
  refine yK (f:=some) (W:=λ aH ai a7=>yBK n aH bF aU bl (List.length (bF):Int) ai a7) (λ aH ai a7=>?_) hx aa n (by unfold big at hn;unfold lenMax at hx;omega)
  show LeF _ _ (yJe n (yBK n aH) bF aU bl (List.length (bF):Int) ai a7)
  exact y3 (y7 λ v1=>(y3 (y7 λ v2=>(y7 λ v3=>(y7 λ v4=>(y7 λ v5=>(y7 λ v6=>(y7 λ v7=>(y3 (y7 λ v8=>(y7 λ v9=>(y7 λ v10=>(y7 λ v11=>(y7 λ v12=>(y7 λ v13=>(y7 λ v14=>(y5 rfl)))))))) yw))))))) yw)) (ym (y5 rfl))
def zn_M(m:List (List (Q4)))(column:Int)(values:List (Q4)):Option (List (List (Q4))×Unit):=
  (bif Bool.true && decide ((0:Int)<=(↑m.length:Int)) && decide ((↑m.length:Int)<=(↑memMax:Int)) && (↑m.length:Int)==(↑m.length:Int)then (bif decide (List.length (m) < lenMax)then yJ (λ ai b6 a7=>yKG (m) (column) (values) ai b6 a7) (λ a7=>yLg (m) (column) (values) a7) 0 (m) ((List.replicate ((↑m.length:Int).toNat) ([]):List (List (Q4))))else none)else none)
abbrev zn_e:Entry:={ f:=164,args:=.pair t183 (.pair t3 (.pair t23 .unit)),rS:=.pair t183 .unit,m:=λ x=>zn_M x.1 x.2.1 x.2.2.1 }
theorem yR7:FnOK Tryz.prog zn_e:=fB (fz:=[11]) Tryz.f164 (λ n x=>zn_m n x.1 x.2.1 x.2.2.1) [[0,1,2,7,13,14]] eNil λ n hn x=>(y3 (yL λ hx=>by apply yHA n hn;exact hx) yw)
def zU_m(n:Nat)(z:Q4):Option (Bool×Unit):=
  some (!eqV ((Ty.int i64).pair ((Ty.int i64).pair Ty.unit)) z ((0:Int),(0:Int),()),())
def zU(z:Q4):(Bool×Unit):=
  (!eqV ((Ty.int i64).pair ((Ty.int i64).pair Ty.unit)) z ((0:Int),(0:Int),()),())
abbrev zU_M (z:Q4):Option (Bool×Unit):=some (zU z)
abbrev zU_e:Entry:={ f:=166,args:=.pair t57 .unit,rS:=.pair t4 .unit,m:=λ x=>zU_M x.1 }
theorem yTT:FnOK Tryz.prog zU_e:=fF (hm:=by intro x;show some (zU x.1)=zU_m 0 x.1;unfold zU_m zU;first|rfl|simp only[yp]) 0 Tryz.f166 (λ n x=>zU_m n x.1) [] eNil
def yPV(n:Nat)(f:Nat):Option (Bool×Unit):=
  some (yT BinOp.neq FloatKind.f64 f f,())
def z0o(f:Nat):(Bool×Unit):=
  (yT BinOp.neq FloatKind.f64 f f,())
abbrev yTZ (f:Nat):Option (Bool×Unit):=some (z0o f)
abbrev z0o_e:Entry:={ f:=171,args:=.pair t210 .unit,rS:=.pair t4 .unit,m:=λ x=>yTZ x.1 }
theorem ySI:FnOK Tryz.prog z0o_e:=fF (hm:=by intro x;show some (z0o x.1)=yPV 0 x.1;unfold yPV z0o;first|rfl|simp only[yp]) 0 Tryz.f171 (λ n x=>yPV n x.1) [] eNil
def yQ1(n:Nat)(r0:(Int×Unit->Option (List UInt8×Unit))->List Int->Int->Int->List (List UInt8)->Option (List (List UInt8)×Unit))(ae:Int×Unit->Option (List UInt8×Unit))(a8:List Int)(aj:Int)(ah:Int)(aa:List (List UInt8)):Option (List (List UInt8)×Unit):=
  (bif decide (ah < aj)then ((idx a8 ah).bind λ v1=>((ae (v1,())).bind λ v2=>(bif decide (aa.length+(1:Nat)<=memMax)then r0 ae a8 aj (i64.wrap (ah+1)) (aa++[v2.1])else none)))else some (aa,()))
def yOD(n:Nat)(k:Nat)(ae:Int×Unit->Option (List UInt8×Unit))(a8:List Int)(aj:Int)(ah:Int)(aa:List (List UInt8)):Option (List (List UInt8)×Unit):=
  iter (λ r y=>yQ1 n (λ ae a8 aj ah aa=>r ((ae,(a8,(aj,(ah,())))),((aa,()),()))) y.1.1 y.1.2.1 y.1.2.2.1 y.1.2.2.2.1 y.2.1.1) k ((ae,(a8,(aj,(ah,())))),((aa,()),()))
def zP_m(n:Nat)(l:List Int)(of:Int×Unit->Option (List UInt8×Unit)):Option (List (List UInt8)×Unit):=
  (yOD n n (of) (l) ((↑l.length:Int)) ((0:Int)) ([]))
def zP_M(l:List Int)(of:Int×Unit->Option (List UInt8×Unit)):Option (List (List UInt8)×Unit):=zP_m 1000 l of
abbrev zP_e:Entry:={ f:=176,args:=.pair t41 (.pair t233 .unit),rS:=.pair t161 .unit,m:=λ x=>zP_M x.1 x.2.1 }
theorem yTU:FnOK Tryz.prog zP_e:=fF (mu:=[5]) 1000 Tryz.f176 (λ n x=>zP_m n x.1 x.2.1) [[1,5,8,9,10]] eNil
def y3o(n:Nat)(r2:List UInt8->Int->Option (Bool×Unit))(bV:List UInt8)(ck:Int)(v3:UInt8):Option (Bool×Unit):=
  (bif ck==0 then some (Bool.false,())else (bif (↑v3.toNat:Int) != 95 then (bif decide ((↑v3.toNat:Int) < 48)then some (Bool.false,())else (bif decide ((↑v3.toNat:Int) > 57)then some (Bool.false,())else r2 bV (i64.wrap (ck+1))))else r2 bV (i64.wrap (ck+1))))
def yFC(n:Nat)(r2:List UInt8->Int->Option (Bool×Unit))(bV:List UInt8)(ck:Int):Option (Bool×Unit):=
  (bif decide (ck < (↑bV.length:Int))then ((idx bV ck).bind λ v3=>(bif decide ((↑v3.toNat:Int) >= 97)then (bif decide ((↑v3.toNat:Int)<=122)then r2 bV (i64.wrap (ck+1))else (bif decide ((↑v3.toNat:Int) >= 65)then (bif decide ((↑v3.toNat:Int)<=90)then r2 bV (i64.wrap (ck+1))else (y3o n r2 bV ck v3))else (y3o n r2 bV ck v3)))else (bif decide ((↑v3.toNat:Int) >= 65)then (bif decide ((↑v3.toNat:Int)<=90)then r2 bV (i64.wrap (ck+1))else (y3o n r2 bV ck v3))else (y3o n r2 bV ck v3))))else some (Bool.true,()))
def y7O(n:Nat)(k:Nat)(bV:List UInt8)(ck:Int):Option (Bool×Unit):=
  iter (λ r y=>yFC n (λ bV ck=>r ((bV,(ck,())),((),()))) y.1.1 y.1.2.1) k ((bV,(ck,())),((),()))
def yTl(n:Nat)(s:List UInt8):Option (Bool×Unit):=
  (bif (↑s.length:Int)==0 then some (Bool.false,())else (bif decide ((↑s.length:Int) > 24)then some (Bool.false,())else (y7O n n (s) ((0:Int)))))
def y6E(bV:List UInt8)(ck:Int)(v3:UInt8):Option ((Bool×Unit)⊕Unit):=
  (bif ck==0 then (some (Sum.inl ((Bool.false,()))))else (bif (↑v3.toNat:Int) != 95 then (bif decide ((↑v3.toNat:Int) < 48)then (some (Sum.inl ((Bool.false,()))))else (bif decide ((↑v3.toNat:Int) > 57)then (some (Sum.inl ((Bool.false,()))))else (some (Sum.inr ()))))else (some (Sum.inr ()))))
theorem y0S(n:Nat)(hn:big<=n)(r2:List UInt8->Int->Option (Bool×Unit))(bV:List UInt8)(ck:Int)(v3:UInt8):LeF (elim some λ (a7:Unit)=>r2 bV (i64.wrap (ck+1))) (y6E bV ck v3) (y3o n r2 bV ck v3):=
  (y3 (y5 rfl) (y3 (y3 (y5 rfl) (y3 (y5 rfl) (y5 rfl))) (y5 rfl)))
def yD7(bV:List UInt8)(ck:Int)(v3:UInt8):Option ((Bool×Unit)⊕Unit):=
  (bif decide ((↑v3.toNat:Int) >= 97)then (bif decide ((↑v3.toNat:Int)<=122)then (some (Sum.inr ()))else (bif decide ((↑v3.toNat:Int) >= 65)then (bif decide ((↑v3.toNat:Int)<=90)then (some (Sum.inr ()))else (y6E bV ck v3))else (y6E bV ck v3)))else (bif decide ((↑v3.toNat:Int) >= 65)then (bif decide ((↑v3.toNat:Int)<=90)then (some (Sum.inr ()))else (y6E bV ck v3))else (y6E bV ck v3)))
def yKh(bV:List UInt8):Option (Bool×Unit):=
  (some ((Bool.true,())))
theorem yEc(n:Nat)(hn:big<=n)(bV:List UInt8)(hx:List.length (bV) < lenMax):LeF some (yJ (λ ai b6 a7=>yD7 bV ai b6) (λ a7=>yKh bV) 0 (bV) ()) (y7O n n bV 0):=by
  refine yK (f:=some) (W:=λ aH ai a7=>y7O n aH bV ai) (λ aH ai a7=>?_) hx () n (by unfold big at hn;unfold lenMax at hx;omega)
  show LeF _ _ (yFC n (y7O n aH) bV ai)
  exact y3 (y7 λ v3=>(y3 (y3 (y5 rfl) (y3 (y3 (y5 rfl) (by apply y0S n hn)) (by apply y0S n hn))) (y3 (y3 (y5 rfl) (by apply y0S n hn)) (by apply y0S n hn)))) (ym (y5 rfl))
def yMt(s:List UInt8):Option (Bool×Unit):=
  (bif (↑s.length:Int)==0 then (some ((Bool.false,())))else (bif decide ((↑s.length:Int) > 24)then (some ((Bool.false,())))else (bif decide (List.length (s) < lenMax)then yJ (λ ai b6 a7=>yD7 (s) ai b6) (λ a7=>yKh (s)) 0 (s) ()else none)))
abbrev z0G_e:Entry:={ f:=187,args:=.pair t9 .unit,rS:=.pair t4 .unit,m:=λ x=>yMt x.1 }
theorem yQV:FnOK Tryz.prog z0G_e:=fB Tryz.f187 (λ n x=>yTl n x.1) [[0,3]] eNil λ n hn x=>(y3 (y5 rfl) (y3 (y5 rfl) (yL λ hx=>by apply yEc n hn;exact hx)))
def yOK(n:Nat)(c:Q3):Option ((Q3)×Unit):=
  some ((c.1,c.2.1,c.2.2.1,()),())
def z05(c:Q3):((Q3)×Unit):=
  ((c.1,c.2.1,c.2.2.1,()),())
abbrev yRj (c:Q3):Option ((Q3)×Unit):=some (z05 c)
abbrev z05_e:Entry:={ f:=189,args:=.pair t55 .unit,rS:=.pair t55 .unit,m:=λ x=>yRj x.1 }
theorem yQk:FnOK Tryz.prog z05_e:=fF (hm:=by intro x;show some (z05 x.1)=yOK 0 x.1;unfold yOK z05;first|rfl|simp only[yp]) 0 Tryz.f189 (λ n x=>yOK n x.1) [] eNil
def ySH(n:Nat)(z:Q4)(p1:Int):Option ((Q4)×Unit):=
  (bif p1==0 then none else (bif p1==0 then none else some ((i64.wrap (z.1.tdiv p1),i64.wrap (z.2.1.tdiv p1),()),())))
def yRy(z:Q4)(p1:Int):Option ((Q4)×Unit):=ySH 0 z p1
abbrev z06_e:Entry:={ f:=190,args:=.pair t57 (.pair (.ref t3) .unit),rS:=.pair t57 .unit,m:=λ x=>yRy x.1 x.2.1 }
theorem yQh:FnOK Tryz.prog z06_e:=fF 0 Tryz.f190 (λ n x=>ySH n x.1 x.2.1) [] eNil
def yIi(n:Nat)(r0:((Q3)×Unit->Option (List (Q4)×Unit))->List (Q3)->Int->Int->List (List (Q4))->Option (List (List (Q4))×Unit))(ae:(Q3)×Unit->Option (List (Q4)×Unit))(a8:List (Q3))(aj:Int)(ah:Int)(aa:List (List (Q4))):Option (List (List (Q4))×Unit):=
  (bif decide (ah < aj)then ((idx a8 ah).bind λ v1=>((ae ((v1.1,v1.2.1,v1.2.2.1,()),())).bind λ v2=>(bif decide (aa.length+(1:Nat)<=memMax)then r0 ae a8 aj (i64.wrap (ah+1)) (aa++[v2.1])else none)))else some (aa,()))
def yA6(n:Nat)(k:Nat)(ae:(Q3)×Unit->Option (List (Q4)×Unit))(a8:List (Q3))(aj:Int)(ah:Int)(aa:List (List (Q4))):Option (List (List (Q4))×Unit):=
  iter (λ r y=>yIi n (λ ae a8 aj ah aa=>r ((ae,(a8,(aj,(ah,())))),((aa,()),()))) y.1.1 y.1.2.1 y.1.2.2.1 y.1.2.2.2.1 y.2.1.1) k ((ae,(a8,(aj,(ah,())))),((aa,()),()))
def z8_m(n:Nat)(l:List (Q3))(of:(Q3)×Unit->Option (List (Q4)×Unit)):Option (List (List (Q4))×Unit):=
  (yA6 n n (of) (l) ((↑l.length:Int)) ((0:Int)) ([]))
def yPO(ae:(Q3)×Unit->Option (List (Q4)×Unit))(a8:List (Q3))(ah:Int)(v1:Q3)(aa:List (List (Q4))):Option ((List (List (Q4))×Unit)⊕(List (List (Q4)))):=
  ((ae ((v1.1,v1.2.1,v1.2.2.1,()),())).bind λ v2=>(bif decide (aa.length+(1:Nat)<=memMax)then (some (Sum.inr (aa++[v2.1])))else none))
def yRK(ae:(Q3)×Unit->Option (List (Q4)×Unit))(a8:List (Q3))(aa:List (List (Q4))):Option (List (List (Q4))×Unit):=
  (some ((aa,())))
theorem yH9(n:Nat)(hn:big<=n)(ae:(Q3)×Unit->Option (List (Q4)×Unit))(a8:List (Q3))(aa:List (List (Q4)))(hx:List.length (a8) < lenMax):LeF some (yJ (λ ai b6 a7=>yPO ae a8 ai b6 a7) (λ a7=>yRK ae a8 a7) 0 (a8) aa) (yA6 n n ae a8 (List.length (a8):Int) 0 aa):=by
  refine yK (f:=some) (W:=λ aH ai a7=>yA6 n aH ae a8 (List.length (a8):Int) ai a7) (λ aH ai a7=>?_) hx aa n (by unfold big at hn;unfold lenMax at hx;omega)
  show LeF _ _ (yIi n (yA6 n aH) ae a8 (List.length (a8):Int) ai a7)
  exact y3 (y7 λ v1=>(y7 λ v2=>(y3 (y5 rfl) yw))) (ym (y5 rfl))
def z8_M(l:List (Q3))(of:(Q3)×Unit->Option (List (Q4)×Unit)):Option (List (List (Q4))×Unit):=
  (bif decide (List.length (l) < lenMax)then yJ (λ ai b6 a7=>yPO (of) (l) ai b6 a7) (λ a7=>yRK (of) (l) a7) 0 (l) ([])else none)
abbrev z8_e:Entry:={ f:=191,args:=.pair t31 (.pair t255 .unit),rS:=.pair t96 .unit,m:=λ x=>z8_M x.1 x.2.1 }
theorem ySX:FnOK Tryz.prog z8_e:=fB (mu:=[5]) Tryz.f191 (λ n x=>z8_m n x.1 x.2.1) [[1,5,8,9,10]] eNil λ n hn x=>(yL λ hx=>by apply yH9 n hn;exact hx)
def yP2(n:Nat)(r0:(Nat×Unit->Option (Int×Unit))->List Nat->Int->Int->List Int->Option (List Int×Unit))(ae:Nat×Unit->Option (Int×Unit))(a8:List Nat)(aj:Int)(ah:Int)(aa:List Int):Option (List Int×Unit):=
  (bif decide (ah < aj)then ((idx a8 ah).bind λ v1=>((ae (v1,())).bind λ v2=>(bif decide (aa.length+(1:Nat)<=memMax)then r0 ae a8 aj (i64.wrap (ah+1)) (aa++[v2.1])else none)))else some (aa,()))
def yOm(n:Nat)(k:Nat)(ae:Nat×Unit->Option (Int×Unit))(a8:List Nat)(aj:Int)(ah:Int)(aa:List Int):Option (List Int×Unit):=
  iter (λ r y=>yP2 n (λ ae a8 aj ah aa=>r ((ae,(a8,(aj,(ah,())))),((aa,()),()))) y.1.1 y.1.2.1 y.1.2.2.1 y.1.2.2.2.1 y.2.1.1) k ((ae,(a8,(aj,(ah,())))),((aa,()),()))
def zK_m(n:Nat)(l:List Nat)(of:Nat×Unit->Option (Int×Unit)):Option (List Int×Unit):=
  (yOm n n (of) (l) ((↑l.length:Int)) ((0:Int)) ([]))
def zK_M(l:List Nat)(of:Nat×Unit->Option (Int×Unit)):Option (List Int×Unit):=zK_m 1000 l of
abbrev zK_e:Entry:={ f:=196,args:=.pair t35 (.pair t259 .unit),rS:=.pair t175 .unit,m:=λ x=>zK_M x.1 x.2.1 }
theorem yTX:FnOK Tryz.prog zK_e:=fF (mu:=[5]) 1000 Tryz.f196 (λ n x=>zK_m n x.1 x.2.1) [[1,5,8,9,10]] eNil
def yFz(n:Nat)(r0:List Int->Int->Int->Option (Int×Unit))(bG:List Int)(bn:Int)(aP:Int):Option (Int×Unit):=
  (bif decide (aP < bn)then ((idx bG aP).bind λ v1=>(bif v1 != 0 then some (v1,())else r0 bG bn (i64.wrap (aP+1))))else some ((0:Int),()))
def y7T(n:Nat)(k:Nat)(bG:List Int)(bn:Int)(aP:Int):Option (Int×Unit):=
  iter (λ r y=>yFz n (λ bG bn aP=>r ((bG,(bn,(aP,()))),((),()))) y.1.1 y.1.2.1 y.1.2.2.1) k ((bG,(bn,(aP,()))),((),()))
def ySU(n:Nat)(l:List Int):Option (Int×Unit):=
  (y7T n n (l) ((↑l.length:Int)) ((0:Int)))
def yL7(bG:List Int)(aP:Int)(v1:Int):Option ((Int×Unit)⊕Unit):=
  (bif v1 != 0 then (some (Sum.inl ((v1,()))))else (some (Sum.inr ())))
def yKg(bG:List Int):Option (Int×Unit):=
  (some (((0:Int),())))
theorem yDs(n:Nat)(hn:big<=n)(bG:List Int)(hx:List.length (bG) < lenMax):LeF some (yJ (λ ai b6 a7=>yL7 bG ai b6) (λ a7=>yKg bG) 0 (bG) ()) (y7T n n bG (List.length (bG):Int) 0):=by
  refine yK (f:=some) (W:=λ aH ai a7=>y7T n aH bG (List.length (bG):Int) ai) (λ aH ai a7=>?_) hx () n (by unfold big at hn;unfold lenMax at hx;omega)
  show LeF _ _ (yFz n (y7T n aH) bG (List.length (bG):Int) ai)
  exact y3 (y7 λ v1=>(y3 (y5 rfl) (y5 rfl))) (ym (y5 rfl))
def yB3(l:List Int):Option (Int×Unit):=
  (bif decide (List.length (l) < lenMax)then yJ (λ ai b6 a7=>yL7 (l) ai b6) (λ a7=>yKg (l)) 0 (l) ()else none)
abbrev z0S_e:Entry:={ f:=198,args:=.pair t175 .unit,rS:=.pair t28 .unit,m:=λ x=>yB3 x.1 }
theorem yNc:FnOK Tryz.prog z0S_e:=fB Tryz.f198 (λ n x=>ySU n x.1) [[5,6,7]] eNil λ n hn x=>(yL λ hx=>by apply yDs n hn;exact hx)
def yPc(n:Nat)(holds:Bool)(e:Int):Option (Int×Unit):=
  (bif holds then some (e,())else some ((0:Int),()))
def z0i(holds:Bool)(e:Int):(Int×Unit):=
  (bif holds then (e,())else ((0:Int),()))
abbrev yTG (holds:Bool) (e:Int):Option (Int×Unit):=some (z0i holds e)
abbrev z0i_e:Entry:={ f:=199,args:=.pair t4 (.pair t28 .unit),rS:=.pair t28 .unit,m:=λ x=>yTG x.1 x.2.1 }
theorem yCb:FnOK Tryz.prog z0i_e:=fF (hm:=by intro x;show some (z0i x.1 x.2.1)=yPc 0 x.1 x.2.1;unfold yPc z0i;first|rfl|simp only[yp]) 0 Tryz.f199 (λ n x=>yPc n x.1 x.2.1) [] eNil
def y5P(n:Nat)(r0:List UInt8->List UInt8->Int->Option (Bool×Unit))(av:List UInt8)(str0__0:List UInt8)(pos0__0:Int)(j2:Bool)(j7:Bool):Option (Bool×Unit):=
  (bif !j2 then (bif pos0__0==0 then some (Bool.false,())else (bif !j7 then some (Bool.false,())else r0 av str0__0 (yd str0__0 pos0__0).2))else r0 av str0__0 (yd str0__0 pos0__0).2)
def y2y(n:Nat)(r0:List UInt8->List UInt8->Int->Option (Bool×Unit))(av:List UInt8)(str0__0:List UInt8)(pos0__0:Int)(j2:Bool):Option (Bool×Unit):=
  (bif decide ((yd str0__0 pos0__0).1 >= 48)then (bif decide ((yd str0__0 pos0__0).1<=57)then (y5P n r0 av str0__0 pos0__0 j2 (Bool.true))else (y5P n r0 av str0__0 pos0__0 j2 ((yd str0__0 pos0__0).1==95)))else (y5P n r0 av str0__0 pos0__0 j2 ((yd str0__0 pos0__0).1==95)))
def yFP(n:Nat)(r0:List UInt8->List UInt8->Int->Option (Bool×Unit))(av:List UInt8)(str0__0:List UInt8)(pos0__0:Int):Option (Bool×Unit):=
  (bif decide (pos0__0 < (↑str0__0.length:Int))then (bif decide ((yd str0__0 pos0__0).1 >= 65)then (bif decide ((yd str0__0 pos0__0).1<=90)then (y2y n r0 av str0__0 pos0__0 (Bool.true))else (bif decide ((yd str0__0 pos0__0).1 >= 97)then (y2y n r0 av str0__0 pos0__0 (decide ((yd str0__0 pos0__0).1<=122)))else (y2y n r0 av str0__0 pos0__0 (Bool.false))))else (bif decide ((yd str0__0 pos0__0).1 >= 97)then (y2y n r0 av str0__0 pos0__0 (decide ((yd str0__0 pos0__0).1<=122)))else (y2y n r0 av str0__0 pos0__0 (Bool.false))))else (bif !av==[]then some (decide ((↑av.length:Int)<=24),())else some (Bool.false,())))
def y78(n:Nat)(k:Nat)(av:List UInt8)(str0__0:List UInt8)(pos0__0:Int):Option (Bool×Unit):=
  iter (λ r y=>yFP n (λ av str0__0 pos0__0=>r ((av,()),(((str0__0,pos0__0),()),()))) y.1.1 y.2.1.1.1 y.2.1.1.2) k ((av,()),(((str0__0,pos0__0),()),()))
def yTs(n:Nat)(s:List UInt8):Option (Bool×Unit):=
  (y78 n n (s) (s) ((0:Int)))
def y8A(av:List UInt8)(str0__0:List UInt8)(pos0__0:Int)(j2:Bool)(j7:Bool):Option ((Bool×Unit)⊕Unit):=
  (bif !j2 then (bif pos0__0==0 then (some (Sum.inl ((Bool.false,()))))else (bif !j7 then (some (Sum.inl ((Bool.false,()))))else (some (Sum.inr ()))))else (some (Sum.inr ())))
theorem y17(n:Nat)(hn:big<=n)(r0:List UInt8->List UInt8->Int->Option (Bool×Unit))(av:List UInt8)(str0__0:List UInt8)(pos0__0:Int)(j2:Bool)(j7:Bool):LeF (elim some λ (a7:Unit)=>r0 av str0__0 (yd (str0__0) pos0__0).2) (y8A av str0__0 pos0__0 j2 j7) (y5P n r0 av str0__0 pos0__0 j2 j7):=
  (y3 (y3 (y5 rfl) (y3 (y5 rfl) (y5 rfl))) (y5 rfl))
def y4x(av:List UInt8)(str0__0:List UInt8)(pos0__0:Int)(j2:Bool):Option ((Bool×Unit)⊕Unit):=
  (bif decide ((yd str0__0 pos0__0).1 >= 48)then (bif decide ((yd str0__0 pos0__0).1<=57)then (y8A av str0__0 pos0__0 j2 (Bool.true))else (y8A av str0__0 pos0__0 j2 ((yd str0__0 pos0__0).1==95)))else (y8A av str0__0 pos0__0 j2 ((yd str0__0 pos0__0).1==95)))
theorem y09(n:Nat)(hn:big<=n)(r0:List UInt8->List UInt8->Int->Option (Bool×Unit))(av:List UInt8)(str0__0:List UInt8)(pos0__0:Int)(j2:Bool):LeF (elim some λ (a7:Unit)=>r0 av str0__0 (yd (str0__0) pos0__0).2) (y4x av str0__0 pos0__0 j2) (y2y n r0 av str0__0 pos0__0 j2):=
  (y3 (y3 (by apply y17 n hn) (by apply y17 n hn)) (by apply y17 n hn))
def yC5(av:List UInt8)(str0__0:List UInt8)(pos0__0:Int):Option ((Bool×Unit)⊕Unit):=
  (bif decide ((yd str0__0 pos0__0).1 >= 65)then (bif decide ((yd str0__0 pos0__0).1<=90)then (y4x av str0__0 pos0__0 (Bool.true))else (bif decide ((yd str0__0 pos0__0).1 >= 97)then (y4x av str0__0 pos0__0 (decide ((yd str0__0 pos0__0).1<=122)))else (y4x av str0__0 pos0__0 (Bool.false))))else (bif decide ((yd str0__0 pos0__0).1 >= 97)then (y4x av str0__0 pos0__0 (decide ((yd str0__0 pos0__0).1<=122)))else (y4x av str0__0 pos0__0 (Bool.false))))
def yCc(av:List UInt8)(str0__0:List UInt8):Option (Bool×Unit):=
  (bif !av==[]then (some ((decide ((↑av.length:Int)<=24),())))else (some ((Bool.false,()))))
theorem yEr(n:Nat)(hn:big<=n)(av:List UInt8)(str0__0:List UInt8)(hx:List.length (str0__0) < lenMax):LeF some (y95 (str0__0) (λ ai a7=>yC5 av str0__0 ai) (λ a7=>yCc av str0__0) (List.length (str0__0)) 0 ()) (y78 n n av str0__0 0):=by
  refine yMi (f:=some) (W:=λ aH ai a7=>y78 n aH av str0__0 ai) (λ aH ai a7=>?_) () n (by unfold big at hn;unfold lenMax at hx;omega)
  show LeF _ _ (yFP n (y78 n aH) av str0__0 ai)
  exact y3 (y3 (y3 (by apply y09 n hn) (y3 (by apply y09 n hn) (by apply y09 n hn))) (y3 (by apply y09 n hn) (by apply y09 n hn))) (ym (y3 (y5 rfl) (y5 rfl)))
def yLH(s:List UInt8):Option (Bool×Unit):=
  (bif decide (List.length (s) < lenMax)then y95 (s) (λ ai a7=>yC5 (s) (s) ai) (λ a7=>yCc (s) (s)) (List.length (s)) 0 ()else none)
abbrev z0C_e:Entry:={ f:=200,args:=.pair t9 .unit,rS:=.pair t4 .unit,m:=λ x=>yLH x.1 }
theorem yNw:FnOK Tryz.prog z0C_e:=fB Tryz.f200 (λ n x=>yTs n x.1) [[0,8]] eNil λ n hn x=>(yL λ hx=>by apply yEr n hn;exact hx)
def zR_m(n:Nat)(s:Q4)(p1:Q1):Option (Bool×Unit):=
  some (decide (s.2.1 > (↑p1.2.2.1.length:Int)),())
def zR(s:Q4)(p1:Q1):(Bool×Unit):=
  (decide (s.2.1 > (↑p1.2.2.1.length:Int)),())
abbrev zR_M (s:Q4) (p1:Q1):Option (Bool×Unit):=some (zR s p1)
abbrev zR_e:Entry:={ f:=205,args:=.pair t63 (.pair (.ref t60) .unit),rS:=.pair t4 .unit,m:=λ x=>zR_M x.1 x.2.1 }
theorem ySe:FnOK Tryz.prog zR_e:=fF (hm:=by intro x;show some (zR x.1 x.2.1)=zR_m 0 x.1 x.2.1;unfold zR_m zR;first|rfl|simp only[yp]) 0 Tryz.f205 (λ n x=>zR_m n x.1 x.2.1) [] eNil
def zQ_m(n:Nat)(x1:Nat):Option (Bool×Unit):=
  some (yT BinOp.neq FloatKind.f32 x1 (nat_lit 0),())
def zQ(x1:Nat):(Bool×Unit):=
  (yT BinOp.neq FloatKind.f32 x1 (nat_lit 0),())
abbrev zQ_M (x1:Nat):Option (Bool×Unit):=some (zQ x1)
abbrev zQ_e:Entry:={ f:=208,args:=.pair t61 .unit,rS:=.pair t4 .unit,m:=λ x=>zQ_M x.1 }
theorem yTA:FnOK Tryz.prog zQ_e:=fF (hm:=by intro x;show some (zQ x.1)=zQ_m 0 x.1;unfold zQ_m zQ;first|rfl|simp only[yp]) 0 Tryz.f208 (λ n x=>zQ_m n x.1) [] eNil
def zq_m(n:Nat)(s:Q4):Option (Int×Unit):=
  (bif decide (s.1 < 0)then some ((14:Int),())else (bif decide (s.2.1<=s.1)then some ((14:Int),())else (bif decide (s.2.1 > 100000)then some ((14:Int),())else some ((0:Int),()))))
def zq(s:Q4):(Int×Unit):=
  (bif decide (s.1 < 0)then ((14:Int),())else (bif decide (s.2.1<=s.1)then ((14:Int),())else (bif decide (s.2.1 > 100000)then ((14:Int),())else ((0:Int),()))))
abbrev zq_M (s:Q4):Option (Int×Unit):=some (zq s)
abbrev zq_e:Entry:={ f:=209,args:=.pair t63 .unit,rS:=.pair t3 .unit,m:=λ x=>zq_M x.1 }
theorem ySl:FnOK Tryz.prog zq_e:=fF (hm:=by intro x;show some (zq x.1)=zq_m 0 x.1;unfold zq_m zq;first|rfl|simp only[yp]) 0 Tryz.f209 (λ n x=>zq_m n x.1) [] eNil
def yIG(n:Nat)(r0:List (Q4)->((Q4)×Unit->Option (Bool×Unit))->Int->Int->Option (Int×Unit))(av:List (Q4))(br:(Q4)×Unit->Option (Bool×Unit))(aP:Int)(a8:Int):Option (Int×Unit):=
  (bif decide (a8 < aP)then ((idx av a8).bind λ v1=>((br (v1,())).bind λ v2=>(bif v2.1 then some (a8,())else r0 av br aP (i64.wrap (a8+1)))))else some ((-1:Int),()))
def y9z(n:Nat)(k:Nat)(av:List (Q4))(br:(Q4)×Unit->Option (Bool×Unit))(aP:Int)(a8:Int):Option (Int×Unit):=
  iter (λ r y=>yIG n (λ av br aP a8=>r ((av,(br,(aP,(a8,())))),((),()))) y.1.1 y.1.2.1 y.1.2.2.1 y.1.2.2.2.1) k ((av,(br,(aP,(a8,())))),((),()))
def zD_m(n:Nat)(s:List (Q4))(f:(Q4)×Unit->Option (Bool×Unit)):Option (Int×Unit):=
  (y9z n n (s) (f) ((↑s.length:Int)) ((0:Int)))
def yLu(av:List (Q4))(br:(Q4)×Unit->Option (Bool×Unit))(a8:Int)(v1:Q4):Option ((Int×Unit)⊕Unit):=
  ((br (v1,())).bind λ v2=>(bif v2.1 then (some (Sum.inl ((a8,()))))else (some (Sum.inr ()))))
def yPa(av:List (Q4))(br:(Q4)×Unit->Option (Bool×Unit)):Option (Int×Unit):=
  (some (((-1:Int),())))
theorem yHq(n:Nat)(hn:big<=n)(av:List (Q4))(br:(Q4)×Unit->Option (Bool×Unit))(hx:List.length (av) < lenMax):LeF some (yJ (λ ai b6 a7=>yLu av br ai b6) (λ a7=>yPa av br) 0 (av) ()) (y9z n n av br (List.length (av):Int) 0):=by
  refine yK (f:=some) (W:=λ aH ai a7=>y9z n aH av br (List.length (av):Int) ai) (λ aH ai a7=>?_) hx () n (by unfold big at hn;unfold lenMax at hx;omega)
  show LeF _ _ (yIG n (y9z n aH) av br (List.length (av):Int) ai)
  exact y3 (y7 λ v1=>(y7 λ v2=>(y3 (y5 rfl) (y5 rfl)))) (ym (y5 rfl))
def zD_M(s:List (Q4))(f:(Q4)×Unit->Option (Bool×Unit)):Option (Int×Unit):=
  (bif decide (List.length (s) < lenMax)then yJ (λ ai b6 a7=>yLu (s) (f) ai b6) (λ a7=>yPa (s) (f)) 0 (s) ()else none)
abbrev zD_e:Entry:={ f:=210,args:=.pair t23 (.pair t149 .unit),rS:=.pair t3 .unit,m:=λ x=>zD_M x.1 x.2.1 }
theorem yTV:FnOK Tryz.prog zD_e:=fB Tryz.f210 (λ n x=>zD_m n x.1 x.2.1) [[0,1,7,8]] eNil λ n hn x=>(yL λ hx=>by apply yHq n hn;exact hx)
def yFS(n:Nat)(r0:List Int->Int->Int->Option (Bool×Unit))(aw:List Int)(cW:Int)(aG:Int):Option (Bool×Unit):=
  (bif decide (aG < (↑aw.length:Int))then ((idx aw aG).bind λ v1=>(bif v1==cW then some (Bool.true,())else r0 aw cW (i64.wrap (aG+1))))else some (Bool.false,()))
def y6z(n:Nat)(k:Nat)(aw:List Int)(cW:Int)(aG:Int):Option (Bool×Unit):=
  iter (λ r y=>yFS n (λ aw cW aG=>r ((aw,(cW,(aG,()))),((),()))) y.1.1 y.1.2.1 y.1.2.2.1) k ((aw,(cW,(aG,()))),((),()))
def yTI(n:Nat)(l:List Int)(n1:Int):Option (Bool×Unit):=
  (y6z n n (l) (n1) ((0:Int)))
def yNI(aw:List Int)(cW:Int)(aG:Int)(v1:Int):Option ((Bool×Unit)⊕Unit):=
  (bif v1==cW then (some (Sum.inl ((Bool.true,()))))else (some (Sum.inr ())))
def yNG(aw:List Int)(cW:Int):Option (Bool×Unit):=
  (some ((Bool.false,())))
theorem yEH(n:Nat)(hn:big<=n)(aw:List Int)(cW:Int)(hx:List.length (aw) < lenMax):LeF some (yJ (λ ai b6 a7=>yNI aw cW ai b6) (λ a7=>yNG aw cW) 0 (aw) ()) (y6z n n aw cW 0):=by
  refine yK (f:=some) (W:=λ aH ai a7=>y6z n aH aw cW ai) (λ aH ai a7=>?_) hx () n (by unfold big at hn;unfold lenMax at hx;omega)
  show LeF _ _ (yFS n (y6z n aH) aw cW ai)
  exact y3 (y7 λ v1=>(y3 (y5 rfl) (y5 rfl))) (ym (y5 rfl))
def yMx(l:List Int)(n1:Int):Option (Bool×Unit):=
  (bif decide (List.length (l) < lenMax)then yJ (λ ai b6 a7=>yNI (l) (n1) ai b6) (λ a7=>yNG (l) (n1)) 0 (l) ()else none)
abbrev z0F_e:Entry:={ f:=212,args:=.pair t41 (.pair t3 .unit),rS:=.pair t4 .unit,m:=λ x=>yMx x.1 x.2.1 }
theorem yQg:FnOK Tryz.prog z0F_e:=fB Tryz.f212 (λ n x=>yTI n x.1 x.2.1) [[0,1,5]] eNil λ n hn x=>(yL λ hx=>by apply yEH n hn;exact hx)
def zd_m(n:Nat)(x1:Nat):Option (Int×Unit):=
  ((yf FloatKind.f32 (y05 BinOp.mul FloatKind.f32 x1 (nat_lit 1098907648)) i64).bind λ v0=>some (v0,()))
def zd_M(x1:Nat):Option (Int×Unit):=zd_m 0 x1
abbrev zd_e:Entry:={ f:=224,args:=.pair t61 .unit,rS:=.pair t3 .unit,m:=λ x=>zd_M x.1 }
theorem yTB:FnOK Tryz.prog zd_e:=fF 0 Tryz.f224 (λ n x=>zd_m n x.1) [] eNil
def yJA(n:Nat)(r0:List (Q4)->((Q4)×Unit->Option (Bool×Unit))->Int->Int->Option (Int×Unit))(av:List (Q4))(br:(Q4)×Unit->Option (Bool×Unit))(aP:Int)(a8:Int):Option (Int×Unit):=
  (bif decide (a8 < aP)then ((idx av a8).bind λ v1=>((br (v1,())).bind λ v2=>(bif v2.1 then some (a8,())else r0 av br aP (i64.wrap (a8+1)))))else some ((-1:Int),()))
def yBV(n:Nat)(k:Nat)(av:List (Q4))(br:(Q4)×Unit->Option (Bool×Unit))(aP:Int)(a8:Int):Option (Int×Unit):=
  iter (λ r y=>yJA n (λ av br aP a8=>r ((av,(br,(aP,(a8,())))),((),()))) y.1.1 y.1.2.1 y.1.2.2.1 y.1.2.2.2.1) k ((av,(br,(aP,(a8,())))),((),()))
def zF_m(n:Nat)(s:List (Q4))(f:(Q4)×Unit->Option (Bool×Unit)):Option (Int×Unit):=
  (yBV n n (s) (f) ((↑s.length:Int)) ((0:Int)))
def yLU(av:List (Q4))(br:(Q4)×Unit->Option (Bool×Unit))(a8:Int)(v1:Q4):Option ((Int×Unit)⊕Unit):=
  ((br (v1,())).bind λ v2=>(bif v2.1 then (some (Sum.inl ((a8,()))))else (some (Sum.inr ()))))
def yPn(av:List (Q4))(br:(Q4)×Unit->Option (Bool×Unit)):Option (Int×Unit):=
  (some (((-1:Int),())))
theorem yGn(n:Nat)(hn:big<=n)(av:List (Q4))(br:(Q4)×Unit->Option (Bool×Unit))(hx:List.length (av) < lenMax):LeF some (yJ (λ ai b6 a7=>yLU av br ai b6) (λ a7=>yPn av br) 0 (av) ()) (yBV n n av br (List.length (av):Int) 0):=by
  refine yK (f:=some) (W:=λ aH ai a7=>yBV n aH av br (List.length (av):Int) ai) (λ aH ai a7=>?_) hx () n (by unfold big at hn;unfold lenMax at hx;omega)
  show LeF _ _ (yJA n (yBV n aH) av br (List.length (av):Int) ai)
  exact y3 (y7 λ v1=>(y7 λ v2=>(y3 (y5 rfl) (y5 rfl)))) (ym (y5 rfl))
def zF_M(s:List (Q4))(f:(Q4)×Unit->Option (Bool×Unit)):Option (Int×Unit):=
  (bif decide (List.length (s) < lenMax)then yJ (λ ai b6 a7=>yLU (s) (f) ai b6) (λ a7=>yPn (s) (f)) 0 (s) ()else none)
abbrev zF_e:Entry:={ f:=226,args:=.pair t58 (.pair t263 .unit),rS:=.pair t3 .unit,m:=λ x=>zF_M x.1 x.2.1 }
theorem yTz:FnOK Tryz.prog zF_e:=fB Tryz.f226 (λ n x=>zF_m n x.1 x.2.1) [[0,1,7,8]] eNil λ n hn x=>(yL λ hx=>by apply yGn n hn;exact hx)
def yJ7(n:Nat)(r0:List Nat->(Nat×Unit->Option (Bool×Unit))->Int->Int->Option (Int×Unit))(av:List Nat)(br:Nat×Unit->Option (Bool×Unit))(aP:Int)(a8:Int):Option (Int×Unit):=
  (bif decide (a8 < aP)then ((idx av a8).bind λ v1=>((br (v1,())).bind λ v2=>(bif v2.1 then some (a8,())else r0 av br aP (i64.wrap (a8+1)))))else some ((-1:Int),()))
def yAg(n:Nat)(k:Nat)(av:List Nat)(br:Nat×Unit->Option (Bool×Unit))(aP:Int)(a8:Int):Option (Int×Unit):=
  iter (λ r y=>yJ7 n (λ av br aP a8=>r ((av,(br,(aP,(a8,())))),((),()))) y.1.1 y.1.2.1 y.1.2.2.1 y.1.2.2.2.1) k ((av,(br,(aP,(a8,())))),((),()))
def zG_m(n:Nat)(s:List Nat)(f:Nat×Unit->Option (Bool×Unit)):Option (Int×Unit):=
  (yAg n n (s) (f) ((↑s.length:Int)) ((0:Int)))
def yMN(av:List Nat)(br:Nat×Unit->Option (Bool×Unit))(a8:Int)(v1:Nat):Option ((Int×Unit)⊕Unit):=
  ((br (v1,())).bind λ v2=>(bif v2.1 then (some (Sum.inl ((a8,()))))else (some (Sum.inr ()))))
def yOl(av:List Nat)(br:Nat×Unit->Option (Bool×Unit)):Option (Int×Unit):=
  (some (((-1:Int),())))
theorem yHH(n:Nat)(hn:big<=n)(av:List Nat)(br:Nat×Unit->Option (Bool×Unit))(hx:List.length (av) < lenMax):LeF some (yJ (λ ai b6 a7=>yMN av br ai b6) (λ a7=>yOl av br) 0 (av) ()) (yAg n n av br (List.length (av):Int) 0):=by
  refine yK (f:=some) (W:=λ aH ai a7=>yAg n aH av br (List.length (av):Int) ai) (λ aH ai a7=>?_) hx () n (by unfold big at hn;unfold lenMax at hx;omega)
  show LeF _ _ (yJ7 n (yAg n aH) av br (List.length (av):Int) ai)
  exact y3 (y7 λ v1=>(y7 λ v2=>(y3 (y5 rfl) (y5 rfl)))) (ym (y5 rfl))
def zG_M(s:List Nat)(f:Nat×Unit->Option (Bool×Unit)):Option (Int×Unit):=
  (bif decide (List.length (s) < lenMax)then yJ (λ ai b6 a7=>yMN (s) (f) ai b6) (λ a7=>yOl (s) (f)) 0 (s) ()else none)
abbrev zG_e:Entry:={ f:=227,args:=.pair t35 (.pair t265 .unit),rS:=.pair t3 .unit,m:=λ x=>zG_M x.1 x.2.1 }
theorem yTr:FnOK Tryz.prog zG_e:=fB Tryz.f227 (λ n x=>zG_m n x.1 x.2.1) [[0,1,7,8]] eNil λ n hn x=>(yL λ hx=>by apply yHH n hn;exact hx)
end
end Go.Tw
end
section
set_option maxRecDepth 1000000
namespace Go.Tw
open Go.Vx Go.Vx.B Go.Proofs
noncomputable section
def yIH(n:Nat)(r0:List (List (Q4))->List (List (Q4))->Int->Option (Bool×Unit))(aB:List (List (Q4)))(aJ:List (List (Q4)))(aG:Int):Option (Bool×Unit):=
  (bif decide (aG < (↑aB.length:Int))then ((idx aB aG).bind λ v1=>((idx aJ aG).bind λ v2=>((za_M v1 v2).bind λ v3=>(bif !v3.1 then some (Bool.false,())else r0 aB aJ (i64.wrap (aG+1))))))else some (Bool.true,()))
def yAN(n:Nat)(k:Nat)(aB:List (List (Q4)))(aJ:List (List (Q4)))(aG:Int):Option (Bool×Unit):=
  iter (λ r y=>yIH n (λ aB aJ aG=>r ((aB,(aJ,(aG,()))),((),()))) y.1.1 y.1.2.1 y.1.2.2.1) k ((aB,(aJ,(aG,()))),((),()))
def zy_m(n:Nat)(a:List (List (Q4)))(b:List (List (Q4))):Option (Bool×Unit):=
  (bif (↑a.length:Int) != (↑b.length:Int)then some (Bool.false,())else (yAN n n (a) (b) ((0:Int))))
def ySN(aB:List (List (Q4)))(aJ:List (List (Q4)))(aG:Int)(v1:List (Q4)):Option ((Bool×Unit)⊕Unit):=
  ((idx aJ aG).bind λ v2=>((za_M v1 v2).bind λ v3=>(bif !v3.1 then (some (Sum.inl ((Bool.false,()))))else (some (Sum.inr ())))))
def yR8(aB:List (List (Q4)))(aJ:List (List (Q4))):Option (Bool×Unit):=
  (some ((Bool.true,())))
theorem yGi(n:Nat)(hn:big<=n)(aB:List (List (Q4)))(aJ:List (List (Q4)))(hx:List.length (aB) < lenMax):LeF some (yJ (λ ai b6 a7=>ySN aB aJ ai b6) (λ a7=>yR8 aB aJ) 0 (aB) ()) (yAN n n aB aJ 0):=by
  refine yK (f:=some) (W:=λ aH ai a7=>yAN n aH aB aJ ai) (λ aH ai a7=>?_) hx () n (by unfold big at hn;unfold lenMax at hx;omega)
  show LeF _ _ (yIH n (yAN n aH) aB aJ ai)
  exact y3 (y7 λ v1=>(y7 λ v2=>(y7 λ v3=>(y3 (y5 rfl) (y5 rfl))))) (ym (y5 rfl))
def zy_M(a:List (List (Q4)))(b:List (List (Q4))):Option (Bool×Unit):=
  (bif (↑a.length:Int) != (↑b.length:Int)then (some ((Bool.false,())))else (bif decide (List.length (a) < lenMax)then yJ (λ ai b6 a7=>ySN (a) (b) ai b6) (λ a7=>yR8 (a) (b)) 0 (a) ()else none))
abbrev zy_e:Entry:={ f:=64,args:=.pair t96 (.pair t96 .unit),rS:=.pair t4 .unit,m:=λ x=>zy_M x.1 x.2.1 }
theorem yU1:FnOK Tryz.prog zy_e:=fB Tryz.f64 (λ n x=>zy_m n x.1 x.2.1) [[0,1,5]] (yB yQq eNil) λ n hn x=>(y3 (y5 rfl) (yL λ hx=>by apply yGi n hn;exact hx))
def yQ2(n:Nat)(n1:Int)(least:Int)(most:Int):Option (Int×Unit):=
  (bif decide (n1 < least)then some ((z1B Bool.true (3:Int)).1,())else some ((z1B (decide (n1 > most)) (3:Int)).1,()))
def z0h(n1:Int)(least:Int)(most:Int):(Int×Unit):=
  (bif decide (n1 < least)then ((z1B Bool.true (3:Int)).1,())else ((z1B (decide (n1 > most)) (3:Int)).1,()))
abbrev yT9 (n1:Int) (least:Int) (most:Int):Option (Int×Unit):=some (z0h n1 least most)
abbrev z0h_e:Entry:={ f:=114,args:=.pair t3 (.pair t3 (.pair t3 .unit)),rS:=.pair t28 .unit,m:=λ x=>yT9 x.1 x.2.1 x.2.2.1 }
theorem yBy:FnOK Tryz.prog z0h_e:=fF (hm:=by intro x;show some (z0h x.1 x.2.1 x.2.2.1)=yQ2 0 x.1 x.2.1 x.2.2.1;unfold yQ2 z0h;first|rfl|simp only[yp]) 0 Tryz.f114 (λ n x=>yQ2 n x.1 x.2.1 x.2.2.1) [] (yB y59 eNil)
def zp_m(n:Nat)(s:List UInt8):Option (Int×Unit):=
  ((yMt s).bind λ v0=>(bif !v0.1 then some ((8:Int),())else some ((0:Int),())))
def zp_M(s:List UInt8):Option (Int×Unit):=zp_m 0 s
abbrev zp_e:Entry:={ f:=118,args:=.pair t9 .unit,rS:=.pair t3 .unit,m:=λ x=>zp_M x.1 }
theorem yQe:FnOK Tryz.prog zp_e:=fF 0 Tryz.f118 (λ n x=>zp_m n x.1) [] (yB yQV eNil)
def yJM(n:Nat)(r0:Q2->List (Q4)->Int->Int->Option (Bool×Unit))(aI:Q2)(bn:List (Q4))(aP:Int)(a8:Int):Option (Bool×Unit):=
  (bif decide (a8 < aP)then ((idx bn a8).bind λ v1=>(bif decide ((if (z0A v1.2.1).1 > (z0A v1.1).1 then (z0A v1.2.1).1 else (z0A v1.1).1) > 4194304)then some (Bool.false,())else r0 aI bn aP (i64.wrap (a8+1))))else some (decide (aI.2.2.1<=4096),()))
def yBS(n:Nat)(k:Nat)(aI:Q2)(bn:List (Q4))(aP:Int)(a8:Int):Option (Bool×Unit):=
  iter (λ r y=>yJM n (λ aI bn aP a8=>r ((aI,(bn,(aP,(a8,())))),((),()))) y.1.1 y.1.2.1 y.1.2.2.1 y.1.2.2.2.1) k ((aI,(bn,(aP,(a8,())))),((),()))
def zu_m(n:Nat)(t:Q2):Option (Bool×Unit):=
  (yBS n n (t) (t.2.1) ((↑t.2.1.length:Int)) ((0:Int)))
def yR6(aI:Q2)(bn:List (Q4))(a8:Int)(v1:Q4):Option ((Bool×Unit)⊕Unit):=
  (bif decide ((if (z0A v1.2.1).1 > (z0A v1.1).1 then (z0A v1.2.1).1 else (z0A v1.1).1) > 4194304)then (some (Sum.inl ((Bool.false,()))))else (some (Sum.inr ())))
def yRZ(aI:Q2)(bn:List (Q4)):Option (Bool×Unit):=
  (some ((decide (aI.2.2.1<=4096),())))
theorem yHi(n:Nat)(hn:big<=n)(aI:Q2)(bn:List (Q4))(hx:List.length (bn) < lenMax):LeF some (yJ (λ ai b6 a7=>yR6 aI bn ai b6) (λ a7=>yRZ aI bn) 0 (bn) ()) (yBS n n aI bn (List.length (bn):Int) 0):=by
  refine yK (f:=some) (W:=λ aH ai a7=>yBS n aH aI bn (List.length (bn):Int) ai) (λ aH ai a7=>?_) hx () n (by unfold big at hn;unfold lenMax at hx;omega)
  show LeF _ _ (yJM n (yBS n aH) aI bn (List.length (bn):Int) ai)
  exact y3 (y7 λ v1=>(y3 (y5 rfl) (y5 rfl))) (ym (y5 rfl))
def zu_M(t:Q2):Option (Bool×Unit):=
  (bif decide (List.length (t.2.1) < lenMax)then yJ (λ ai b6 a7=>yR6 (t) (t.2.1) ai b6) (λ a7=>yRZ (t) (t.2.1)) 0 (t.2.1) ()else none)
abbrev zu_e:Entry:={ f:=129,args:=.pair t33 .unit,rS:=.pair t4 .unit,m:=λ x=>zu_M x.1 }
theorem yTy:FnOK Tryz.prog zu_e:=fB Tryz.f129 (λ n x=>zu_m n x.1) [[1,6,7,8]] (yB yCl eNil) λ n hn x=>(yL λ hx=>by apply yHi n hn;exact hx)
def yOW(n:Nat)(z:Q4):Option (Int×Unit):=
  some ((z1B (decide ((if (z0A z.2.1).1 > (z0A z.1).1 then (z0A z.2.1).1 else (z0A z.1).1) > 16777216)) (1:Int)).1,())
def z0b(z:Q4):(Int×Unit):=
  ((z1B (decide ((if (z0A z.2.1).1 > (z0A z.1).1 then (z0A z.2.1).1 else (z0A z.1).1) > 16777216)) (1:Int)).1,())
abbrev yRL (z:Q4):Option (Int×Unit):=some (z0b z)
abbrev z0b_e:Entry:={ f:=138,args:=.pair t57 .unit,rS:=.pair t28 .unit,m:=λ x=>yRL x.1 }
theorem yQx:FnOK Tryz.prog z0b_e:=fF (hm:=by intro x;show some (z0b x.1)=yOW 0 x.1;unfold yOW z0b;first|rfl|simp only[yp]) 0 Tryz.f138 (λ n x=>yOW n x.1) [] (yB yCl (yB y59 eNil))
def y7x(n:Nat)(r0:Q1->List (Q4)->List Nat->Int->Int->Q1->Q3->Q3->Q1->Q3->Q3->Q4->Q1->Q1->Int->Int->Int->Int->Q1->Q3->Q3->Q1->Q3->Q3->Q4->Q1->Q1->Option ((Q4)×Unit))(j8:Q1)(j9:List (Q4))(j10:Int)(j11:Nat)(j12:List Nat)(j13:Int)(j14:Int)(j15:Q1)(j16:Q3)(j17:Q3)(j18:Q1)(j19:Q3)(j20:Q3)(j21:Q4)(j22:Q1)(j23:Q1)(j24:Int)(j25:Int)(j26:Int)(j27:Int)(j28:Q1)(j29:Q3)(j30:Q3)(j31:Q1)(j32:Q3)(j33:Q3)(j34:Q4)(j35:Q1)(j36:Q1):Option ((Q4)×Unit):=
  (bif decide ((↑j9.length:Int) > 0)then ((idx j9 (0:Int)).bind λ v37=>(bif decide (v37.1<=j10)then r0 j8 j9 j12 j13 (i64.wrap (j14+1)) j15 j16 j17 j18 j19 j20 j21 j22 j23 j24 j25 j26 j27 j28 j29 j30 j31 j32 j33 j34 j35 j36 else ((yf FloatKind.f32 (y05 BinOp.mul FloatKind.f32 j11 (nat_lit 1098907648)) i64).bind λ v42=>((zT_M j19 (i64.wrap (j8.2.1+j10))).bind λ v43=>((zT_M j20 (i64.wrap (j8.2.1+j10))).bind λ v44=>r0 j8 j9 j12 j13 (i64.wrap (j14+1)) j15 j16 j17 j18 j19 j20 j21 j22 j23 j24 j25 (z1A (j26,j27,()) (z12 (z03 v43.1).1 v44.1).1).1.1 (z1A (j26,j27,()) (z12 (z03 v43.1).1 v44.1).1).1.2.1 j28 j29 j30 j31 j32 j33 j34 j35 j36)))))else ((yf FloatKind.f32 (y05 BinOp.mul FloatKind.f32 j11 (nat_lit 1098907648)) i64).bind λ v45=>((zT_M j19 (i64.wrap (j8.2.1+j10))).bind λ v46=>((zT_M j20 (i64.wrap (j8.2.1+j10))).bind λ v47=>r0 j8 j9 j12 j13 (i64.wrap (j14+1)) j15 j16 j17 j18 j19 j20 j21 j22 j23 j24 j25 (z1A (j26,j27,()) (z12 (z03 v46.1).1 v47.1).1).1.1 (z1A (j26,j27,()) (z12 (z03 v46.1).1 v47.1).1).1.2.1 j28 j29 j30 j31 j32 j33 j34 j35 j36))))
def yGd(n:Nat)(r0:Q1->List (Q4)->List Nat->Int->Int->Q1->Q3->Q3->Q1->Q3->Q3->Q4->Q1->Q1->Int->Int->Int->Int->Q1->Q3->Q3->Q1->Q3->Q3->Q4->Q1->Q1->Option ((Q4)×Unit))(r2:Q1->List (Q4)->Int->Nat->List Nat->Int->Int->Q1->Q3->Q3->Q1->Q3->Q3->Q4->Q1->Q1->Int->Int->Int->Int->Q1->Q3->Q3->Q1->Q3->Q3->Q4->Q1->Q1->Option ((Q4)×Unit))(bg:Q1)(af:List (Q4))(bh:Int)(bq:Nat)(aS:List Nat)(aD:Int)(aE:Int)(ar:Q1)(au:Q3)(aM:Q3)(bK:Q1)(bL:Q3)(aL:Q3)(bM:Q4)(bu:Q1)(aY:Q1)(aN:Int)(aO:Int)(aW:Int)(aX:Int)(aQ:Q1)(aR:Q3)(bm:Q3)(cL:Q1)(cM:Q3)(bI:Q3)(cO:Q4)(cm:Q1)(bv:Q1):Option ((Q4)×Unit):=
  (bif decide ((↑af.length:Int) > 0)then ((idx af (0:Int)).bind λ v3=>(bif decide (v3.2.1<=bh)then (bif decide ((0:Int)<=1) && decide ((1:Int)<=(↑af.length:Int))then r2 bg (List.drop (Int.toNat (1:Int)) af) bh bq aS aD aE ar au aM bK bL aL bM bu aY aN aO aW aX aQ aR bm cL cM bI cO cm bv else none)else (y7x n r0 (bg) (af) (bh) (bq) (aS) (aD) (aE) (ar) (au) (aM) (bK) (bL) (aL) (bM) (bu) (aY) (aN) (aO) (aW) (aX) (aQ) (aR) (bm) (cL) (cM) (bI) (cO) (cm) (bv))))else (y7x n r0 (bg) (af) (bh) (bq) (aS) (aD) (aE) (ar) (au) (aM) (bK) (bL) (aL) (bM) (bu) (aY) (aN) (aO) (aW) (aX) (aQ) (aR) (bm) (cL) (cM) (bI) (cO) (cm) (bv)))
def y7N(n:Nat)(r0:Q1->List (Q4)->List Nat->Int->Int->Q1->Q3->Q3->Q1->Q3->Q3->Q4->Q1->Q1->Int->Int->Int->Int->Q1->Q3->Q3->Q1->Q3->Q3->Q4->Q1->Q1->Option ((Q4)×Unit))(k:Nat)(bg:Q1)(af:List (Q4))(bh:Int)(bq:Nat)(aS:List Nat)(aD:Int)(aE:Int)(ar:Q1)(au:Q3)(aM:Q3)(bK:Q1)(bL:Q3)(aL:Q3)(bM:Q4)(bu:Q1)(aY:Q1)(aN:Int)(aO:Int)(aW:Int)(aX:Int)(aQ:Q1)(aR:Q3)(bm:Q3)(cL:Q1)(cM:Q3)(bI:Q3)(cO:Q4)(cm:Q1)(bv:Q1):Option ((Q4)×Unit):=
  iter (λ r y=>yGd n r0 (λ bg af bh bq aS aD aE ar au aM bK bL aL bM bu aY aN aO aW aX aQ aR bm cL cM bI cO cm bv=>r ((bg,(af,(bh,(bq,(aS,(aD,(aE,()))))))),(((ar,(au,(aM,(bK,(bL,(aL,(bM,(bu,((aY,()),()))))))))),((aN,(aO,())),((aW,(aX,())),()))),(aQ,(aR,(bm,(cL,(cM,(bI,(cO,(cm,((bv,()),())))))))))))) y.1.1 y.1.2.1 y.1.2.2.1 y.1.2.2.2.1 y.1.2.2.2.2.1 y.1.2.2.2.2.2.1 y.1.2.2.2.2.2.2.1 y.2.1.1.1 y.2.1.1.2.1 y.2.1.1.2.2.1 y.2.1.1.2.2.2.1 y.2.1.1.2.2.2.2.1 y.2.1.1.2.2.2.2.2.1 y.2.1.1.2.2.2.2.2.2.1 y.2.1.1.2.2.2.2.2.2.2.1 y.2.1.1.2.2.2.2.2.2.2.2.1.1 y.2.1.2.1.1 y.2.1.2.1.2.1 y.2.1.2.2.1.1 y.2.1.2.2.1.2.1 y.2.2.1 y.2.2.2.1 y.2.2.2.2.1 y.2.2.2.2.2.1 y.2.2.2.2.2.2.1 y.2.2.2.2.2.2.2.1 y.2.2.2.2.2.2.2.2.1 y.2.2.2.2.2.2.2.2.2.1 y.2.2.2.2.2.2.2.2.2.2.1.1) k ((bg,(af,(bh,(bq,(aS,(aD,(aE,()))))))),(((ar,(au,(aM,(bK,(bL,(aL,(bM,(bu,((aY,()),()))))))))),((aN,(aO,())),((aW,(aX,())),()))),(aQ,(aR,(bm,(cL,(cM,(bI,(cO,(cm,((bv,()),())))))))))))
def yFw(n:Nat)(r0:Q1->List (Q4)->List Nat->Int->Int->Q1->Q3->Q3->Q1->Q3->Q3->Q4->Q1->Q1->Int->Int->Int->Int->Q1->Q3->Q3->Q1->Q3->Q3->Q4->Q1->Q1->Option ((Q4)×Unit))(aI:Q1)(ax:List (Q4))(aj:List Nat)(ah:Int)(aF:Int)(ay:Q1)(az:Q3)(b9:Q3)(cb:Q1)(cc:Q3)(b8:Q3)(cd:Q4)(bS:Q1)(bp:Q1)(ak:Int)(am:Int)(ba:Int)(bc:Int)(aZ:Q1)(aT:Q3)(bt:Q3)(d5:Q1)(d6:Q3)(bZ:Q3)(d7:Q4)(cF:Q1)(bT:Q1):Option ((Q4)×Unit):=
  (bif decide (aF < ah)then ((idx aj aF).bind λ v1=>(y7N n r0 n (aI) (ax) (aF) (v1) (aj) (ah) (aF) (ay) (az) (b9) (cb) (cc) (b8) (cd) (bS) (bp) (ak) (am) (ba) (bc) (aZ) (aT) (bt) (d5) (d6) (bZ) (d7) (cF) (bT)))else some ((ba,bc,()),()))
def y70(n:Nat)(k:Nat)(aI:Q1)(ax:List (Q4))(aj:List Nat)(ah:Int)(aF:Int)(ay:Q1)(az:Q3)(b9:Q3)(cb:Q1)(cc:Q3)(b8:Q3)(cd:Q4)(bS:Q1)(bp:Q1)(ak:Int)(am:Int)(ba:Int)(bc:Int)(aZ:Q1)(aT:Q3)(bt:Q3)(d5:Q1)(d6:Q3)(bZ:Q3)(d7:Q4)(cF:Q1)(bT:Q1):Option ((Q4)×Unit):=
  iter (λ r y=>yFw n (λ aI ax aj ah aF ay az b9 cb cc b8 cd bS bp ak am ba bc aZ aT bt d5 d6 bZ d7 cF bT=>r ((aI,(ax,(aj,(ah,(aF,()))))),(((ay,(az,(b9,(cb,(cc,(b8,(cd,(bS,((bp,()),()))))))))),((ak,(am,())),((ba,(bc,())),()))),(aZ,(aT,(bt,(d5,(d6,(bZ,(d7,(cF,((bT,()),())))))))))))) y.1.1 y.1.2.1 y.1.2.2.1 y.1.2.2.2.1 y.1.2.2.2.2.1 y.2.1.1.1 y.2.1.1.2.1 y.2.1.1.2.2.1 y.2.1.1.2.2.2.1 y.2.1.1.2.2.2.2.1 y.2.1.1.2.2.2.2.2.1 y.2.1.1.2.2.2.2.2.2.1 y.2.1.1.2.2.2.2.2.2.2.1 y.2.1.1.2.2.2.2.2.2.2.2.1.1 y.2.1.2.1.1 y.2.1.2.1.2.1 y.2.1.2.2.1.1 y.2.1.2.2.1.2.1 y.2.2.1 y.2.2.2.1 y.2.2.2.2.1 y.2.2.2.2.2.1 y.2.2.2.2.2.2.1 y.2.2.2.2.2.2.2.1 y.2.2.2.2.2.2.2.2.1 y.2.2.2.2.2.2.2.2.2.1 y.2.2.2.2.2.2.2.2.2.2.1.1) k ((aI,(ax,(aj,(ah,(aF,()))))),(((ay,(az,(b9,(cb,(cc,(b8,(cd,(bS,((bp,()),()))))))))),((ak,(am,())),((ba,(bc,())),()))),(aZ,(aT,(bt,(d5,(d6,(bZ,(d7,(cF,((bT,()),())))))))))))
def yTR(n:Nat)(r1:Q1)(a:Q3)(b:Q3):Option ((Q4)×Unit):=
  (y70 n n (r1) (r1.2.2.2.1) (r1.2.2.1) ((↑r1.2.2.1.length:Int)) ((0:Int)) (r1) (a) (b) (r1) (a) (b) (((0:Int),(0:Int),())) (r1) (r1) ((0:Int)) ((0:Int)) ((0:Int)) ((0:Int)) (r1) (a) (b) (r1) (a) (b) (((0:Int),(0:Int),())) (r1) (r1))
def yBJ(j8:Q1)(j9:List (Q4))(j10:Int)(j11:Nat)(j12:List Nat)(j13:Int)(j14:Int)(j15:Q1)(j16:Q3)(j17:Q3)(j18:Q1)(j19:Q3)(j20:Q3)(j21:Q4)(j22:Q1)(j23:Q1)(j24:Int)(j25:Int)(j26:Int)(j27:Int)(j28:Q1)(j29:Q3)(j30:Q3)(j31:Q1)(j32:Q3)(j33:Q3)(j34:Q4)(j35:Q1)(j36:Q1):Option (((Q4)×Unit)⊕((List (Q4))×Int×Int)):=
  (bif decide ((↑j9.length:Int) > 0)then ((idx j9 (0:Int)).bind λ v37=>(bif decide (v37.1<=j10)then (some (Sum.inr ((j9),(j26),(j27))))else ((yf FloatKind.f32 (y05 BinOp.mul FloatKind.f32 j11 (nat_lit 1098907648)) i64).bind λ v42=>((zT_M j19 (i64.wrap (j8.2.1+j10))).bind λ v43=>((zT_M j20 (i64.wrap (j8.2.1+j10))).bind λ v44=>(some (Sum.inr ((j9),((z1A (j26,j27,()) (z12 (z03 v43.1).1 v44.1).1).1.1),((z1A (j26,j27,()) (z12 (z03 v43.1).1 v44.1).1).1.2.1)))))))))else ((yf FloatKind.f32 (y05 BinOp.mul FloatKind.f32 j11 (nat_lit 1098907648)) i64).bind λ v45=>((zT_M j19 (i64.wrap (j8.2.1+j10))).bind λ v46=>((zT_M j20 (i64.wrap (j8.2.1+j10))).bind λ v47=>(some (Sum.inr ((j9),((z1A (j26,j27,()) (z12 (z03 v46.1).1 v47.1).1).1.1),((z1A (j26,j27,()) (z12 (z03 v46.1).1 v47.1).1).1.2.1))))))))
theorem y2u(n:Nat)(hn:big<=n)(r0:Q1->List (Q4)->List Nat->Int->Int->Q1->Q3->Q3->Q1->Q3->Q3->Q4->Q1->Q1->Int->Int->Int->Int->Q1->Q3->Q3->Q1->Q3->Q3->Q4->Q1->Q1->Option ((Q4)×Unit))(j8:Q1)(j9:List (Q4))(j10:Int)(j11:Nat)(j12:List Nat)(j13:Int)(j14:Int)(j15:Q1)(j16:Q3)(j17:Q3)(j18:Q1)(j19:Q3)(j20:Q3)(j21:Q4)(j22:Q1)(j23:Q1)(j24:Int)(j25:Int)(j26:Int)(j27:Int)(j28:Q1)(j29:Q3)(j30:Q3)(j31:Q1)(j32:Q3)(j33:Q3)(j34:Q4)(j35:Q1)(j36:Q1):LeF (elim some λ (a7:((List (Q4))×Int×Int))=>r0 j8 a7.1 j12 j13 (i64.wrap (j14+1)) j15 j16 j17 j18 j19 j20 j21 j22 j23 j24 j25 a7.2.1 a7.2.2 j28 j29 j30 j31 j32 j33 j34 j35 j36) (yBJ j8 j9 j10 j11 j12 j13 j14 j15 j16 j17 j18 j19 j20 j21 j22 j23 j24 j25 j26 j27 j28 j29 j30 j31 j32 j33 j34 j35 j36) (y7x n r0 j8 j9 j10 j11 j12 j13 j14 j15 j16 j17 j18 j19 j20 j21 j22 j23 j24 j25 j26 j27 j28 j29 j30 j31 j32 j33 j34 j35 j36):=
  (y3 (y7 λ v37=>(y3 (y5 rfl) (y7 λ v42=>(y7 λ v43=>(y7 λ v44=>(y5 rfl)))))) (y7 λ v45=>(y7 λ v46=>(y7 λ v47=>(y5 rfl)))))
def yK4(bg:Q1)(bh:Int)(bq:Nat)(aS:List Nat)(aD:Int)(aE:Int)(ar:Q1)(au:Q3)(aM:Q3)(bK:Q1)(bL:Q3)(aL:Q3)(bM:Q4)(bu:Q1)(aY:Q1)(aN:Int)(aO:Int)(aW:Int)(aX:Int)(aQ:Q1)(aR:Q3)(bm:Q3)(cL:Q1)(cM:Q3)(bI:Q3)(cO:Q4)(cm:Q1)(bv:Q1)(af:List (Q4)):Option ((((Q4)×Unit)⊕((List (Q4))×Int×Int))⊕(List (Q4))):=
  (bif decide ((↑af.length:Int) > 0)then ((idx af (0:Int)).bind λ v3=>(bif decide (v3.2.1<=bh)then (bif decide ((0:Int)<=1) && decide ((1:Int)<=(↑af.length:Int))then (some (Sum.inr (List.drop (Int.toNat (1:Int)) af)))else none)else (Option.map Sum.inl (yBJ (bg) (af) (bh) (bq) (aS) (aD) (aE) (ar) (au) (aM) (bK) (bL) (aL) (bM) (bu) (aY) (aN) (aO) (aW) (aX) (aQ) (aR) (bm) (cL) (cM) (bI) (cO) (cm) (bv)))))else (Option.map Sum.inl (yBJ (bg) (af) (bh) (bq) (aS) (aD) (aE) (ar) (au) (aM) (bK) (bL) (aL) (bM) (bu) (aY) (aN) (aO) (aW) (aX) (aQ) (aR) (bm) (cL) (cM) (bI) (cO) (cm) (bv))))
theorem yEj(n:Nat)(hn:big<=n)(r0:Q1->List (Q4)->List Nat->Int->Int->Q1->Q3->Q3->Q1->Q3->Q3->Q4->Q1->Q1->Int->Int->Int->Int->Q1->Q3->Q3->Q1->Q3->Q3->Q4->Q1->Q1->Option ((Q4)×Unit))(bg:Q1)(bh:Int)(bq:Nat)(aS:List Nat)(aD:Int)(aE:Int)(ar:Q1)(au:Q3)(aM:Q3)(bK:Q1)(bL:Q3)(aL:Q3)(bM:Q4)(bu:Q1)(aY:Q1)(aN:Int)(aO:Int)(aW:Int)(aX:Int)(aQ:Q1)(aR:Q3)(bm:Q3)(cL:Q1)(cM:Q3)(bI:Q3)(cO:Q4)(cm:Q1)(bv:Q1)(af:List (Q4)):LeF (elim some λ (a7:((List (Q4))×Int×Int))=>r0 bg a7.1 aS aD (i64.wrap (aE+1)) ar au aM bK bL aL bM bu aY aN aO a7.2.1 a7.2.2 aQ aR bm cL cM bI cO cm bv) (y1v (λ a7=>yK4 bg bh bq aS aD aE ar au aM bK bL aL bM bu aY aN aO aW aX aQ aR bm cL cM bI cO cm bv a7) wMax af) (y7N n r0 n bg af bh bq aS aD aE ar au aM bK bL aL bM bu aY aN aO aW aX aQ aR bm cL cM bI cO cm bv):=by
  refine y2R (f:=(elim some λ (a7:((List (Q4))×Int×Int))=>r0 bg a7.1 aS aD (i64.wrap (aE+1)) ar au aM bK bL aL bM bu aY aN aO a7.2.1 a7.2.2 aQ aR bm cL cM bI cO cm bv)) (W:=λ aH a7=>y7N n r0 aH bg a7 bh bq aS aD aE ar au aM bK bL aL bM bu aY aN aO aW aX aQ aR bm cL cM bI cO cm bv) (body:=(λ a7=>yK4 bg bh bq aS aD aE ar au aM bK bL aL bM bu aY aN aO aW aX aQ aR bm cL cM bI cO cm bv a7)) (λ aH a7=>?_) wMax n af (by unfold big at hn;unfold wMax;omega)
  show LeF _ _ (yGd n r0 (y7N n r0 aH) bg a7 bh bq aS aD aE ar au aM bK bL aL bM bu aY aN aO aW aX aQ aR bm cL cM bI cO cm bv)
  exact (y3 (y7 λ v3=>(y3 (y3 (y5 rfl) yw) (ym (by apply y2u n hn)))) (ym (by apply y2u n hn)))
def yIZ(aI:Q1)(aj:List Nat)(ay:Q1)(az:Q3)(b9:Q3)(cb:Q1)(cc:Q3)(b8:Q3)(cd:Q4)(bS:Q1)(bp:Q1)(ak:Int)(am:Int)(aZ:Q1)(aT:Q3)(bt:Q3)(d5:Q1)(d6:Q3)(bZ:Q3)(d7:Q4)(cF:Q1)(bT:Q1)(aF:Int)(v1:Nat)(ax:List (Q4))(ba:Int)(bc:Int):Option (((Q4)×Unit)⊕((List (Q4))×Int×Int)):=
  (y1v (λ a7=>yK4 (aI) (aF) (v1) (aj) ((↑aj.length:Int)) (aF) (ay) (az) (b9) (cb) (cc) (b8) (cd) (bS) (bp) (ak) (am) (ba) (bc) (aZ) (aT) (bt) (d5) (d6) (bZ) (d7) (cF) (bT) a7) wMax (ax))
def yNr(aI:Q1)(aj:List Nat)(ay:Q1)(az:Q3)(b9:Q3)(cb:Q1)(cc:Q3)(b8:Q3)(cd:Q4)(bS:Q1)(bp:Q1)(ak:Int)(am:Int)(aZ:Q1)(aT:Q3)(bt:Q3)(d5:Q1)(d6:Q3)(bZ:Q3)(d7:Q4)(cF:Q1)(bT:Q1)(ax:List (Q4))(ba:Int)(bc:Int):Option ((Q4)×Unit):=
  (some (((ba,bc,()),())))
theorem yEx(n:Nat)(hn:big<=n)(aI:Q1)(aj:List Nat)(ay:Q1)(az:Q3)(b9:Q3)(cb:Q1)(cc:Q3)(b8:Q3)(cd:Q4)(bS:Q1)(bp:Q1)(ak:Int)(am:Int)(aZ:Q1)(aT:Q3)(bt:Q3)(d5:Q1)(d6:Q3)(bZ:Q3)(d7:Q4)(cF:Q1)(bT:Q1)(ax:List (Q4))(ba:Int)(bc:Int)(hx:List.length (aj) < lenMax):LeF some (yJ (λ ai b6 a7=>yIZ aI aj ay az b9 cb cc b8 cd bS bp ak am aZ aT bt d5 d6 bZ d7 cF bT ai b6 a7.1 a7.2.1 a7.2.2) (λ a7=>yNr aI aj ay az b9 cb cc b8 cd bS bp ak am aZ aT bt d5 d6 bZ d7 cF bT a7.1 a7.2.1 a7.2.2) 0 (aj) (ax,ba,bc)) (y70 n n aI ax aj (List.length (aj):Int) 0 ay az b9 cb cc b8 cd bS bp ak am ba bc aZ aT bt d5 d6 bZ d7 cF bT):=by
  refine yK (f:=some) (W:=λ aH ai a7=>y70 n aH aI a7.1 aj (List.length (aj):Int) ai ay az b9 cb cc b8 cd bS bp ak am a7.2.1 a7.2.2 aZ aT bt d5 d6 bZ d7 cF bT) (λ aH ai a7=>?_) hx (ax,ba,bc) n (by unfold big at hn;unfold lenMax at hx;omega)
  show LeF _ _ (yFw n (y70 n aH) aI a7.1 aj (List.length (aj):Int) ai ay az b9 cb cc b8 cd bS bp ak am a7.2.1 a7.2.2 aZ aT bt d5 d6 bZ d7 cF bT)
  exact y3 (y7 λ v1=>(by apply yEj n hn)) (ym (y5 rfl))
def yEd(r1:Q1)(a:Q3)(b:Q3):Option ((Q4)×Unit):=
  (bif decide (List.length (r1.2.2.1) < lenMax)then yJ (λ ai b6 a7=>yIZ (r1) (r1.2.2.1) (r1) (a) (b) (r1) (a) (b) (((0:Int),(0:Int),())) (r1) (r1) ((0:Int)) ((0:Int)) (r1) (a) (b) (r1) (a) (b) (((0:Int),(0:Int),())) (r1) (r1) ai b6 a7.1 a7.2.1 a7.2.2) (λ a7=>yNr (r1) (r1.2.2.1) (r1) (a) (b) (r1) (a) (b) (((0:Int),(0:Int),())) (r1) (r1) ((0:Int)) ((0:Int)) (r1) (a) (b) (r1) (a) (b) (((0:Int),(0:Int),())) (r1) (r1) a7.1 a7.2.1 a7.2.2) 0 (r1.2.2.1) ((r1.2.2.2.1),((0:Int)),((0:Int)))else none)
abbrev z0x_e:Entry:={ f:=148,args:=.pair t60 (.pair t55 (.pair t55 .unit)),rS:=.pair t57 .unit,m:=λ x=>yEd x.1 x.2.1 x.2.2.1 }
theorem yKW:FnOK Tryz.prog z0x_e:=fBI Tryz.f148 (λ n x=>yTR n x.1 x.2.1 x.2.2.1) [] [il124,il195] 3 (yB yPU (yB yKI (yB yGY (yB yG5 eNil)))) (y3a y4I (y3a y4E iNil)) λ n hn x=>(yL λ hx=>by apply yEx n hn;exact hx)
abbrev yTh:Ty:=.pair t96 .unit
abbrev ySY:Ty:=.pair t57 .unit
class ref02_det_Rec where
  f:yTh.den->Option ySY.den
section
variable [ref02_det_Rec]
end
def zw_m(n:Nat)(r1:Q1)(i:Int):Option (Bool×Unit):=
  (bif decide (i >= 0)then (bif decide (i < (↑r1.2.2.1.length:Int))then ((yHs r1.2.2.2.1 i).bind λ v0=>some (!v0.1,()))else some (Bool.false,()))else some (Bool.false,()))
def zw_M(r1:Q1)(i:Int):Option (Bool×Unit):=zw_m 0 r1 i
abbrev zw_e:Entry:={ f:=155,args:=.pair t94 (.pair t3 .unit),rS:=.pair t4 .unit,m:=λ x=>zw_M x.1 x.2.1 }
theorem ySi:FnOK Tryz.prog zw_e:=fF 0 Tryz.f155 (λ n x=>zw_m n x.1 x.2.1) [] (yB yO1 eNil)
def yJk(n:Nat)(r0:List (Q4)->Int->Option (Int×Unit))(aw:List (Q4))(bU:Int):Option (Int×Unit):=
  (bif decide (bU < (↑aw.length:Int))then ((idx aw bU).bind λ v1=>(bif (zq v1).1 != 0 then some ((14:Int),())else (bif decide (bU > 0)then ((idx aw bU).bind λ v2=>((idx aw (i64.wrap (bU - (1:Int)))).bind λ v3=>(bif decide (v2.1<=v3.2.1)then some ((11:Int),())else r0 aw (i64.wrap (bU+1)))))else r0 aw (i64.wrap (bU+1)))))else some ((0:Int),()))
def yA1(n:Nat)(k:Nat)(aw:List (Q4))(bU:Int):Option (Int×Unit):=
  iter (λ r y=>yJk n (λ aw bU=>r ((aw,(bU,())),((),()))) y.1.1 y.1.2.1) k ((aw,(bU,())),((),()))
def zh_m(n:Nat)(l:List (Q4)):Option (Int×Unit):=
  (bif decide ((↑l.length:Int) > 2048)then some ((5:Int),())else (yA1 n n (l) ((0:Int))))
def yLz(aw:List (Q4))(bU:Int)(v1:Q4):Option ((Int×Unit)⊕Unit):=
  (bif (zq v1).1 != 0 then (some (Sum.inl (((14:Int),()))))else (bif decide (bU > 0)then ((idx aw bU).bind λ v2=>((idx aw (i64.wrap (bU - (1:Int)))).bind λ v3=>(bif decide (v2.1<=v3.2.1)then (some (Sum.inl (((11:Int),()))))else (some (Sum.inr ())))))else (some (Sum.inr ()))))
def yPI(aw:List (Q4)):Option (Int×Unit):=
  (some (((0:Int),())))
theorem yH2(n:Nat)(hn:big<=n)(aw:List (Q4))(hx:List.length (aw) < lenMax):LeF some (yJ (λ ai b6 a7=>yLz aw ai b6) (λ a7=>yPI aw) 0 (aw) ()) (yA1 n n aw 0):=by
  refine yK (f:=some) (W:=λ aH ai a7=>yA1 n aH aw ai) (λ aH ai a7=>?_) hx () n (by unfold big at hn;unfold lenMax at hx;omega)
  show LeF _ _ (yJk n (yA1 n aH) aw ai)
  exact y3 (y7 λ v1=>(y3 (y5 rfl) (y3 (y7 λ v2=>(y7 λ v3=>(y3 (y5 rfl) (y5 rfl)))) (y5 rfl)))) (ym (y5 rfl))
def zh_M(l:List (Q4)):Option (Int×Unit):=
  (bif decide ((↑l.length:Int) > 2048)then (some (((5:Int),())))else (bif decide (List.length (l) < lenMax)then yJ (λ ai b6 a7=>yLz (l) ai b6) (λ a7=>yPI (l)) 0 (l) ()else none))
abbrev zh_e:Entry:={ f:=158,args:=.pair t58 .unit,rS:=.pair t3 .unit,m:=λ x=>zh_M x.1 }
theorem ySb:FnOK Tryz.prog zh_e:=fB Tryz.f158 (λ n x=>zh_m n x.1) [[0,3]] (yB ySl eNil) λ n hn x=>(y3 (y5 rfl) (yL λ hx=>by apply yH2 n hn;exact hx))
def zA_m(n:Nat)(s:List (Q4))(f:(Q4)×Unit->Option (Bool×Unit)):Option (Bool×Unit):=
  ((zD_M s f).bind λ v0=>some (decide (v0.1 >= 0),()))
def zA_M(s:List (Q4))(f:(Q4)×Unit->Option (Bool×Unit)):Option (Bool×Unit):=zA_m 0 s f
abbrev zA_e:Entry:={ f:=165,args:=.pair t23 (.pair t149 .unit),rS:=.pair t4 .unit,m:=λ x=>zA_M x.1 x.2.1 }
theorem ySo:FnOK Tryz.prog zA_e:=fF 0 Tryz.f165 (λ n x=>zA_m n x.1 x.2.1) [] (yB yTV eNil)
def yGf(n:Nat)(r0:List (Q4)->Int->List (Q3)->Int->Int->Int->Int->Int->Int->Option ((Q4)×Unit))(cX:List (Q4))(bH:Int)(aF:List (Q3))(dl:Int)(cw:Int)(be:Int)(bf:Int)(ak:Int)(am:Int):Option ((Q4)×Unit):=
  (bif decide (cw < dl)then ((idx aF cw).bind λ v1=>((idx cX cw).bind λ v2=>((zT_M (v1.1,v1.2.1,v1.2.2.1,()) bH).bind λ v3=>r0 cX bH aF dl (i64.wrap (cw+1)) be bf (z1A (ak,am,()) (z12 v2 v3.1).1).1.1 (z1A (ak,am,()) (z12 v2 v3.1).1).1.2.1)))else some ((ak,am,()),()))
def y7P(n:Nat)(k:Nat)(cX:List (Q4))(bH:Int)(aF:List (Q3))(dl:Int)(cw:Int)(be:Int)(bf:Int)(ak:Int)(am:Int):Option ((Q4)×Unit):=
  iter (λ r y=>yGf n (λ cX bH aF dl cw be bf ak am=>r ((cX,(bH,(aF,(dl,(cw,()))))),(((be,(bf,())),((ak,(am,())),())),()))) y.1.1 y.1.2.1 y.1.2.2.1 y.1.2.2.2.1 y.1.2.2.2.2.1 y.2.1.1.1 y.2.1.1.2.1 y.2.1.2.1.1 y.2.1.2.1.2.1) k ((cX,(bH,(aF,(dl,(cw,()))))),(((be,(bf,())),((ak,(am,())),())),()))
def yTQ(n:Nat)(l:List (Q3))(v:List (Q4))(tick:Int):Option ((Q4)×Unit):=
  (y7P n n (v) (tick) (l) ((↑l.length:Int)) ((0:Int)) ((0:Int)) ((0:Int)) ((0:Int)) ((0:Int)))
def yBs(cX:List (Q4))(bH:Int)(aF:List (Q3))(be:Int)(bf:Int)(cw:Int)(v1:Q3)(ak:Int)(am:Int):Option (((Q4)×Unit)⊕(Int×Int)):=
  ((idx cX cw).bind λ v2=>((zT_M (v1.1,v1.2.1,v1.2.2.1,()) bH).bind λ v3=>(some (Sum.inr (((z1A (ak,am,()) (z12 v2 v3.1).1).1.1),((z1A (ak,am,()) (z12 v2 v3.1).1).1.2.1))))))
def yLR(cX:List (Q4))(bH:Int)(aF:List (Q3))(be:Int)(bf:Int)(ak:Int)(am:Int):Option ((Q4)×Unit):=
  (some (((ak,am,()),())))
theorem yEY(n:Nat)(hn:big<=n)(cX:List (Q4))(bH:Int)(aF:List (Q3))(be:Int)(bf:Int)(ak:Int)(am:Int)(hx:List.length (aF) < lenMax):LeF some (yJ (λ ai b6 a7=>yBs cX bH aF be bf ai b6 a7.1 a7.2) (λ a7=>yLR cX bH aF be bf a7.1 a7.2) 0 (aF) (ak,am)) (y7P n n cX bH aF (List.length (aF):Int) 0 be bf ak am):=by
  refine yK (f:=some) (W:=λ aH ai a7=>y7P n aH cX bH aF (List.length (aF):Int) ai be bf a7.1 a7.2) (λ aH ai a7=>?_) hx (ak,am) n (by unfold big at hn;unfold lenMax at hx;omega)
  show LeF _ _ (yGf n (y7P n aH) cX bH aF (List.length (aF):Int) ai be bf a7.1 a7.2)
  exact y3 (y7 λ v1=>(y7 λ v2=>(y7 λ v3=>(y5 rfl)))) (ym (y5 rfl))
def yBo(l:List (Q3))(v:List (Q4))(tick:Int):Option ((Q4)×Unit):=
  (bif decide (List.length (l) < lenMax)then yJ (λ ai b6 a7=>yBs (v) (tick) (l) ((0:Int)) ((0:Int)) ai b6 a7.1 a7.2) (λ a7=>yLR (v) (tick) (l) ((0:Int)) ((0:Int)) a7.1 a7.2) 0 (l) (((0:Int)),((0:Int)))else none)
abbrev z13_e:Entry:={ f:=167,args:=.pair t31 (.pair t23 (.pair t3 .unit)),rS:=.pair t57 .unit,m:=λ x=>yBo x.1 x.2.1 x.2.2.1 }
theorem yNe:FnOK Tryz.prog z13_e:=fB Tryz.f167 (λ n x=>yTQ n x.1 x.2.1 x.2.2.1) [[1,2,6,7,11,12,13]] (yB yPU (yB yGY (yB yG5 eNil))) λ n hn x=>(yL λ hx=>by apply yEY n hn;exact hx)
def il211:Inl:={ f:=211,fn:=Tryz.f211,keep:=[[0,1,2,6],[0,1,2,6,7]],mU:=[],fz:=[] }
theorem yLi:y3b Tryz.prog il211:=⟨by kernel_rfl,by kernel_rfl,λ e0 h=>by cases (show (none:Option LibK)=some e0 from h)⟩
def yFO(n:Nat)(r0:List (Q4)->Int->Int->List Int->List (Q4)->List (Q4)->List Int->List (Q4)->Option (List (Q4)×Unit))(r2:List (Q4)->Int->Int->Int->List Int->List (Q4)->List (Q4)->List Int->List (Q4)->Option (List (Q4)×Unit))(cP:List (Q4))(cK:Int)(cQ:Int)(bA:Int)(cu:List Int)(aQ:List (Q4))(aR:List (Q4))(bm:List Int)(cA:List (Q4)):Option (List (Q4)×Unit):=
  ((idx cP cQ).bind λ v3=>(bif decide (bA < v3.2.1)then ((idx cu bA).bind λ v4=>((cu[bA.toNat]?).bind λ v5=>(bif y0V i64 BinOp.and v5 cK==0 then ((idx cu bA).bind λ v6=>((cu[bA.toNat]?).bind λ v7=>((idx cu bA).bind λ v8=>((cu[bA.toNat]?).bind λ v9=>r2 cP cK cQ (i64.wrap (bA+1)) (cu.set bA.toNat (i64.wrap (v7+cK))) aQ aR bm cA))))else r2 cP cK cQ (i64.wrap (bA+1)) cu aQ aR bm cA)))else r0 cP cK (i64.wrap (cQ+1)) cu aQ aR bm cA))
def y7A(n:Nat)(r0:List (Q4)->Int->Int->List Int->List (Q4)->List (Q4)->List Int->List (Q4)->Option (List (Q4)×Unit))(k:Nat)(cP:List (Q4))(cK:Int)(cQ:Int)(bA:Int)(cu:List Int)(aQ:List (Q4))(aR:List (Q4))(bm:List Int)(cA:List (Q4)):Option (List (Q4)×Unit):=
  iter (λ r y=>yFO n r0 (λ cP cK cQ bA cu aQ aR bm cA=>r ((cP,(cK,(cQ,(bA,())))),((cu,()),(aQ,(aR,(bm,(cA,()))))))) y.1.1 y.1.2.1 y.1.2.2.1 y.1.2.2.2.1 y.2.1.1 y.2.2.1 y.2.2.2.1 y.2.2.2.2.1 y.2.2.2.2.2.1) k ((cP,(cK,(cQ,(bA,())))),((cu,()),(aQ,(aR,(bm,(cA,()))))))
def yCr(n:Nat)(r11:List (Q4)->Int->Int->List Int->List (Q4)->List (Q4)->List Int->List (Q4)->List (Q4)->Option (List (Q4)×Unit))(r13:List (Q4)->Int->Int->Int->List Int->List (Q4)->List (Q4)->List Int->List (Q4)->List (Q4)->Option (List (Q4)×Unit))(cn:List (Q4))(bY:Int)(co:Int)(bC:Int)(bE:List Int)(cB:List (Q4))(cC:List (Q4))(cD:List Int)(bW:List (Q4))(bX:List (Q4)):Option (List (Q4)×Unit):=
  ((idx cn co).bind λ v14=>(bif decide (bC < v14.2.1)then ((idx bE bC).bind λ v15=>((bE[bC.toNat]?).bind λ v16=>(bif y0V i64 BinOp.and v16 bY==0 then ((idx bE bC).bind λ v17=>((bE[bC.toNat]?).bind λ v18=>((idx bE bC).bind λ v19=>((bE[bC.toNat]?).bind λ v20=>r13 cn bY co (i64.wrap (bC+1)) (bE.set bC.toNat (i64.wrap (v18+bY))) cB cC cD bW bX))))else r13 cn bY co (i64.wrap (bC+1)) bE cB cC cD bW bX)))else r11 cn bY (i64.wrap (co+1)) bE cB cC cD bW bX))
def y5Y(n:Nat)(r11:List (Q4)->Int->Int->List Int->List (Q4)->List (Q4)->List Int->List (Q4)->List (Q4)->Option (List (Q4)×Unit))(k:Nat)(cn:List (Q4))(bY:Int)(co:Int)(bC:Int)(bE:List Int)(cB:List (Q4))(cC:List (Q4))(cD:List Int)(bW:List (Q4))(bX:List (Q4)):Option (List (Q4)×Unit):=
  iter (λ r y=>yCr n r11 (λ cn bY co bC bE cB cC cD bW bX=>r ((cn,(bY,(co,(bC,())))),((bE,()),(cB,(cC,(cD,(bW,(bX,())))))))) y.1.1 y.1.2.1 y.1.2.2.1 y.1.2.2.2.1 y.2.1.1 y.2.2.1 y.2.2.2.1 y.2.2.2.2.1 y.2.2.2.2.2.1 y.2.2.2.2.2.2.1) k ((cn,(bY,(co,(bC,())))),((bE,()),(cB,(cC,(cD,(bW,(bX,())))))))
def y5q(n:Nat)(r22:List Int->Int->Int->List Int->List (Q4)->Option (List (Q4)×Unit))(aq:List Int)(aC:Int)(aV:List Int)(b7:List (Q4))(j28:Bool)(j33:Int):Option (List (Q4)×Unit):=
  (bif !j28 then (bif decide (j33 >= 0)then (bif decide (b7.length+(1:Nat)<=memMax)then r22 aq (-1:Int) (i64.wrap (aC+1)) aV (b7++[(j33,aC,())])else none)else r22 aq j33 (i64.wrap (aC+1)) aV b7)else r22 aq j33 (i64.wrap (aC+1)) aV b7)
def y7Z(n:Nat)(r22:List Int->Int->Int->List Int->List (Q4)->Option (List (Q4)×Unit))(aq:List Int)(aK:Int)(aC:Int)(aV:List Int)(b7:List (Q4))(j28:Bool):Option (List (Q4)×Unit):=
  (bif j28 then (bif decide (aK < 0)then (y5q n r22 aq aC aV b7 j28 (aC))else (y5q n r22 aq aC aV b7 j28 (aK)))else (y5q n r22 aq aC aV b7 j28 (aK)))
def yDC(n:Nat)(r22:List Int->Int->Int->List Int->List (Q4)->Option (List (Q4)×Unit))(aq:List Int)(aK:Int)(aC:Int)(aV:List Int)(b7:List (Q4)):Option (List (Q4)×Unit):=
  (bif decide (aC<=100000)then ((idx aV aC).bind λ v23=>((aV[aC.toNat]?).bind λ v24=>(bif v24 != 0 then ((idx aV aC).bind λ v25=>((aV[aC.toNat]?).bind λ v26=>((yMx aq v26).bind λ v27=>(y7Z n r22 aq aK aC aV b7 (v27.1)))))else (y7Z n r22 aq aK aC aV b7 (Bool.false)))))else some (b7,()))
def y5k(n:Nat)(k:Nat)(aq:List Int)(aK:Int)(aC:Int)(aV:List Int)(b7:List (Q4)):Option (List (Q4)×Unit):=
  iter (λ r y=>yDC n (λ aq aK aC aV b7=>r ((aq,(aK,(aC,()))),((aV,(b7,())),()))) y.1.1 y.1.2.1 y.1.2.2.1 y.2.1.1 y.2.1.2.1) k ((aq,(aK,(aC,()))),((aV,(b7,())),()))
def yCH(n:Nat)(r11:List (Q4)->Int->Int->List Int->List (Q4)->List (Q4)->List Int->List (Q4)->List (Q4)->Option (List (Q4)×Unit))(cp:List (Q4))(cG:Int)(d8:Int)(cE:List Int)(cI:List (Q4))(cJ:List (Q4))(cx:List Int)(ce:List (Q4))(cf:List (Q4)):Option (List (Q4)×Unit):=
  (bif decide (d8 < (↑cp.length:Int))then ((idx cp d8).bind λ v12=>(y5Y n r11 n (cp) (cG) (d8) (v12.1) (cE) (cI) (cJ) (cx) (ce) (cf)))else (y5k n n (cx) ((-1:Int)) ((0:Int)) (cE) ([])))
def y5r(n:Nat)(k:Nat)(cp:List (Q4))(cG:Int)(d8:Int)(cE:List Int)(cI:List (Q4))(cJ:List (Q4))(cx:List Int)(ce:List (Q4))(cf:List (Q4)):Option (List (Q4)×Unit):=
  iter (λ r y=>yCH n (λ cp cG d8 cE cI cJ cx ce cf=>r ((cp,(cG,(d8,()))),((cE,()),(cI,(cJ,(cx,(ce,(cf,())))))))) y.1.1 y.1.2.1 y.1.2.2.1 y.2.1.1 y.2.2.1 y.2.2.2.1 y.2.2.2.2.1 y.2.2.2.2.2.1 y.2.2.2.2.2.2.1) k ((cp,(cG,(d8,()))),((cE,()),(cI,(cJ,(cx,(ce,(cf,())))))))
def yFR(n:Nat)(r0:List (Q4)->Int->Int->List Int->List (Q4)->List (Q4)->List Int->List (Q4)->Option (List (Q4)×Unit))(cR:List (Q4))(d9:Int)(dm:Int)(aa:List Int)(aZ:List (Q4))(aT:List (Q4))(bt:List Int)(cy:List (Q4)):Option (List (Q4)×Unit):=
  (bif decide (dm < (↑cR.length:Int))then ((idx cR dm).bind λ v1=>(y7A n r0 n (cR) (d9) (dm) (v1.1) (aa) (aZ) (aT) (bt) (cy)))else (y5r n n (aT) ((2:Int)) ((0:Int)) (aa) (aZ) (aT) (bt) (cy) (aT)))
def y7D(n:Nat)(k:Nat)(cR:List (Q4))(d9:Int)(dm:Int)(aa:List Int)(aZ:List (Q4))(aT:List (Q4))(bt:List Int)(cy:List (Q4)):Option (List (Q4)×Unit):=
  iter (λ r y=>yFR n (λ cR d9 dm aa aZ aT bt cy=>r ((cR,(d9,(dm,()))),((aa,()),(aZ,(aT,(bt,(cy,()))))))) y.1.1 y.1.2.1 y.1.2.2.1 y.2.1.1 y.2.2.1 y.2.2.2.1 y.2.2.2.2.1 y.2.2.2.2.2.1) k ((cR,(d9,(dm,()))),((aa,()),(aZ,(aT,(bt,(cy,()))))))
def yTJ(n:Nat)(a:List (Q4))(b:List (Q4))(want:List Int):Option (List (Q4)×Unit):=
  (y7D n n (a) ((1:Int)) ((0:Int)) ((List.replicate (Int.toNat (100001:Int)) ((0:Int)):List (Int))) (a) (b) (want) (a))
def yGg(cP:List (Q4))(cK:Int)(cQ:Int)(aQ:List (Q4))(aR:List (Q4))(bm:List Int)(cA:List (Q4))(bA:Int)(cu:List Int):Option (((List (Q4)×Unit)⊕(List Int))⊕(Int×List Int)):=
  ((idx cP cQ).bind λ v3=>(bif decide (bA < v3.2.1)then ((idx cu bA).bind λ v4=>((cu[bA.toNat]?).bind λ v5=>(bif y0V i64 BinOp.and v5 cK==0 then ((idx cu bA).bind λ v6=>((cu[bA.toNat]?).bind λ v7=>((idx cu bA).bind λ v8=>((cu[bA.toNat]?).bind λ v9=>(some (Sum.inr ((i64.wrap (bA+1)),(cu.set bA.toNat (i64.wrap (v7+cK))))))))))else (some (Sum.inr ((i64.wrap (bA+1)),(cu)))))))else (some (Sum.inl (Sum.inr (cu))))))
theorem yDk(n:Nat)(hn:big<=n)(r0:List (Q4)->Int->Int->List Int->List (Q4)->List (Q4)->List Int->List (Q4)->Option (List (Q4)×Unit))(cP:List (Q4))(cK:Int)(cQ:Int)(aQ:List (Q4))(aR:List (Q4))(bm:List Int)(cA:List (Q4))(bA:Int)(cu:List Int):LeF (elim some λ (a7:(List Int))=>r0 cP cK (i64.wrap (cQ+1)) a7 aQ aR bm cA) (y1v (λ a7=>yGg cP cK cQ aQ aR bm cA a7.1 a7.2) wMax (bA,cu)) (y7A n r0 n cP cK cQ bA cu aQ aR bm cA):=by
  refine y2R (f:=(elim some λ (a7:(List Int))=>r0 cP cK (i64.wrap (cQ+1)) a7 aQ aR bm cA)) (W:=λ aH a7=>y7A n r0 aH cP cK cQ a7.1 a7.2 aQ aR bm cA) (body:=(λ a7=>yGg cP cK cQ aQ aR bm cA a7.1 a7.2)) (λ aH a7=>?_) wMax n (bA,cu) (by unfold big at hn;unfold wMax;omega)
  show LeF _ _ (yFO n r0 (y7A n r0 aH) cP cK cQ a7.1 a7.2 aQ aR bm cA)
  exact (y7 λ v3=>(y3 (y7 λ v4=>(y7 λ v5=>(y3 (y7 λ v6=>(y7 λ v7=>(y7 λ v8=>(y7 λ v9=>(y5 rfl))))) (y5 rfl)))) (y5 rfl)))
def yAv(cn:List (Q4))(bY:Int)(co:Int)(cB:List (Q4))(cC:List (Q4))(cD:List Int)(bW:List (Q4))(bX:List (Q4))(bC:Int)(bE:List Int):Option (((List (Q4)×Unit)⊕(List Int))⊕(Int×List Int)):=
  ((idx cn co).bind λ v14=>(bif decide (bC < v14.2.1)then ((idx bE bC).bind λ v15=>((bE[bC.toNat]?).bind λ v16=>(bif y0V i64 BinOp.and v16 bY==0 then ((idx bE bC).bind λ v17=>((bE[bC.toNat]?).bind λ v18=>((idx bE bC).bind λ v19=>((bE[bC.toNat]?).bind λ v20=>(some (Sum.inr ((i64.wrap (bC+1)),(bE.set bC.toNat (i64.wrap (v18+bY))))))))))else (some (Sum.inr ((i64.wrap (bC+1)),(bE)))))))else (some (Sum.inl (Sum.inr (bE))))))
theorem yDF(n:Nat)(hn:big<=n)(r11:List (Q4)->Int->Int->List Int->List (Q4)->List (Q4)->List Int->List (Q4)->List (Q4)->Option (List (Q4)×Unit))(cn:List (Q4))(bY:Int)(co:Int)(cB:List (Q4))(cC:List (Q4))(cD:List Int)(bW:List (Q4))(bX:List (Q4))(bC:Int)(bE:List Int):LeF (elim some λ (a7:(List Int))=>r11 cn bY (i64.wrap (co+1)) a7 cB cC cD bW bX) (y1v (λ a7=>yAv cn bY co cB cC cD bW bX a7.1 a7.2) wMax (bC,bE)) (y5Y n r11 n cn bY co bC bE cB cC cD bW bX):=by
  refine y2R (f:=(elim some λ (a7:(List Int))=>r11 cn bY (i64.wrap (co+1)) a7 cB cC cD bW bX)) (W:=λ aH a7=>y5Y n r11 aH cn bY co a7.1 a7.2 cB cC cD bW bX) (body:=(λ a7=>yAv cn bY co cB cC cD bW bX a7.1 a7.2)) (λ aH a7=>?_) wMax n (bC,bE) (by unfold big at hn;unfold wMax;omega)
  show LeF _ _ (yCr n r11 (y5Y n r11 aH) cn bY co a7.1 a7.2 cB cC cD bW bX)
  exact (y7 λ v14=>(y3 (y7 λ v15=>(y7 λ v16=>(y3 (y7 λ v17=>(y7 λ v18=>(y7 λ v19=>(y7 λ v20=>(y5 rfl))))) (y5 rfl)))) (y5 rfl)))
def y64(aq:List Int)(aC:Int)(aV:List Int)(b7:List (Q4))(j28:Bool)(j33:Int):Option ((List (Q4)×Unit)⊕(Int×(List (Q4)))):=
  (bif !j28 then (bif decide (j33 >= 0)then (bif decide (b7.length+(1:Nat)<=memMax)then (some (Sum.inr (((-1:Int)),(b7++[(j33,aC,())]))))else none)else (some (Sum.inr ((j33),(b7)))))else (some (Sum.inr ((j33),(b7)))))
theorem y18(n:Nat)(hn:big<=n)(r22:List Int->Int->Int->List Int->List (Q4)->Option (List (Q4)×Unit))(aq:List Int)(aC:Int)(aV:List Int)(b7:List (Q4))(j28:Bool)(j33:Int):LeF (elim some λ (a7:(Int×(List (Q4))))=>r22 aq a7.1 (i64.wrap (aC+1)) aV a7.2) (y64 aq aC aV b7 j28 j33) (y5q n r22 aq aC aV b7 j28 j33):=
  (y3 (y3 (y3 (y5 rfl) yw) (y5 rfl)) (y5 rfl))
def y8g(aq:List Int)(aK:Int)(aC:Int)(aV:List Int)(b7:List (Q4))(j28:Bool):Option ((List (Q4)×Unit)⊕(Int×(List (Q4)))):=
  (bif j28 then (bif decide (aK < 0)then (y64 aq aC aV b7 j28 (aC))else (y64 aq aC aV b7 j28 (aK)))else (y64 aq aC aV b7 j28 (aK)))
theorem y2A(n:Nat)(hn:big<=n)(r22:List Int->Int->Int->List Int->List (Q4)->Option (List (Q4)×Unit))(aq:List Int)(aK:Int)(aC:Int)(aV:List Int)(b7:List (Q4))(j28:Bool):LeF (elim some λ (a7:(Int×(List (Q4))))=>r22 aq a7.1 (i64.wrap (aC+1)) aV a7.2) (y8g aq aK aC aV b7 j28) (y7Z n r22 aq aK aC aV b7 j28):=
  (y3 (y3 (by apply y18 n hn) (by apply y18 n hn)) (by apply y18 n hn))
def y8h(aq:List Int)(aV:List Int)(aC:Int)(aK:Int)(b7:List (Q4)):Option ((List (Q4)×Unit)⊕(Int×(List (Q4)))):=
  ((idx aV aC).bind λ v23=>((aV[aC.toNat]?).bind λ v24=>(bif v24 != 0 then ((idx aV aC).bind λ v25=>((aV[aC.toNat]?).bind λ v26=>((yMx aq v26).bind λ v27=>(y8g aq aK aC aV b7 (v27.1)))))else (y8g aq aK aC aV b7 (Bool.false)))))
def yEz(aq:List Int)(aV:List Int)(aK:Int)(b7:List (Q4)):Option (List (Q4)×Unit):=
  (some ((b7,())))
theorem yCn(n:Nat)(hn:big<=n)(aq:List Int)(aV:List Int)(aK:Int)(b7:List (Q4))(hx:((100000:Int))<=9223372036854775806):LeF some (y0b (λ ai a7=>y8h aq aV ai a7.1 a7.2) (λ a7=>yEz aq aV a7.1 a7.2) (((100000:Int))+1 - 0).toNat 0 (aK,b7)) (y5k n n aq aK 0 aV b7):=by
  refine yIT (f:=some) (W:=λ aH ai a7=>y5k n aH aq a7.1 ai aV a7.2) (λ aH ai a7=>?_) hx (aK,b7) n 0 (by decide) (by unfold big at hn;omega)
  show LeF _ _ (yDC n (y5k n aH) aq a7.1 ai aV a7.2)
  exact y3 (y7 λ v23=>(y7 λ v24=>(y3 (y7 λ v25=>(y7 λ v26=>(y7 λ v27=>(by apply y2A n hn)))) (by apply y2A n hn)))) (ym (y5 rfl))
def yEI(cp:List (Q4))(cG:Int)(cI:List (Q4))(cJ:List (Q4))(cx:List Int)(ce:List (Q4))(cf:List (Q4))(d8:Int)(v12:Q4)(cE:List Int):Option ((List (Q4)×Unit)⊕(List Int)):=
  (y1v (λ a7=>yAv (cp) (cG) (d8) (cI) (cJ) (cx) (ce) (cf) a7.1 a7.2) wMax ((v12.1),(cE)))
def yAS(cp:List (Q4))(cG:Int)(cI:List (Q4))(cJ:List (Q4))(cx:List Int)(ce:List (Q4))(cf:List (Q4))(cE:List Int):Option (List (Q4)×Unit):=
  (bif decide (((100000:Int))<=9223372036854775806)then y0b (λ ai a7=>y8h (cx) (cE) ai a7.1 a7.2) (λ a7=>yEz (cx) (cE) a7.1 a7.2) (((100000:Int))+1 - 0).toNat 0 (((-1:Int)),([]))else none)
theorem yBn(n:Nat)(hn:big<=n)(cp:List (Q4))(cG:Int)(cI:List (Q4))(cJ:List (Q4))(cx:List Int)(ce:List (Q4))(cf:List (Q4))(cE:List Int)(hx:List.length (cp) < lenMax):LeF some (yJ (λ ai b6 a7=>yEI cp cG cI cJ cx ce cf ai b6 a7) (λ a7=>yAS cp cG cI cJ cx ce cf a7) 0 (cp) cE) (y5r n n cp cG 0 cE cI cJ cx ce cf):=by
  refine yK (f:=some) (W:=λ aH ai a7=>y5r n aH cp cG ai a7 cI cJ cx ce cf) (λ aH ai a7=>?_) hx cE n (by unfold big at hn;unfold lenMax at hx;omega)
  show LeF _ _ (yCH n (y5r n aH) cp cG ai a7 cI cJ cx ce cf)
  exact y3 (y7 λ v12=>(by apply yDF n hn)) (ym (yL λ hx=>by apply yCn n hn;exact hx))
def yKn(cR:List (Q4))(d9:Int)(aZ:List (Q4))(aT:List (Q4))(bt:List Int)(cy:List (Q4))(dm:Int)(v1:Q4)(aa:List Int):Option ((List (Q4)×Unit)⊕(List Int)):=
  (y1v (λ a7=>yGg (cR) (d9) (dm) (aZ) (aT) (bt) (cy) a7.1 a7.2) wMax ((v1.1),(aa)))
def yFH(cR:List (Q4))(d9:Int)(aZ:List (Q4))(aT:List (Q4))(bt:List Int)(cy:List (Q4))(aa:List Int):Option (List (Q4)×Unit):=
  (bif decide (List.length (aT) < lenMax)then yJ (λ ai b6 a7=>yEI (aT) ((2:Int)) (aZ) (aT) (bt) (cy) (aT) ai b6 a7) (λ a7=>yAS (aT) ((2:Int)) (aZ) (aT) (bt) (cy) (aT) a7) 0 (aT) (aa)else none)
theorem yDi(n:Nat)(hn:big<=n)(cR:List (Q4))(d9:Int)(aZ:List (Q4))(aT:List (Q4))(bt:List Int)(cy:List (Q4))(aa:List Int)(hx:List.length (cR) < lenMax):LeF some (yJ (λ ai b6 a7=>yKn cR d9 aZ aT bt cy ai b6 a7) (λ a7=>yFH cR d9 aZ aT bt cy a7) 0 (cR) aa) (y7D n n cR d9 0 aa aZ aT bt cy):=by
  refine yK (f:=some) (W:=λ aH ai a7=>y7D n aH cR d9 ai a7 aZ aT bt cy) (λ aH ai a7=>?_) hx aa n (by unfold big at hn;unfold lenMax at hx;omega)
  show LeF _ _ (yFR n (y7D n aH) cR d9 ai a7 aZ aT bt cy)
  exact y3 (y7 λ v1=>(by apply yDk n hn)) (ym (yL λ hx=>by apply yBn n hn;exact hx))
def yMJ(a:List (Q4))(b:List (Q4))(want:List Int):Option (List (Q4)×Unit):=
  (bif decide (List.length (a) < lenMax)then yJ (λ ai b6 a7=>yKn (a) ((1:Int)) (a) (b) (want) (a) ai b6 a7) (λ a7=>yFH (a) ((1:Int)) (a) (b) (want) (a) a7) 0 (a) ((List.replicate (Int.toNat (100001:Int)) ((0:Int)):List (Int)))else none)
abbrev z0I_e:Entry:={ f:=170,args:=.pair t58 (.pair t58 (.pair t41 .unit)),rS:=.pair t58 .unit,m:=λ x=>yMJ x.1 x.2.1 x.2.2.1 }
theorem yS5:FnOK Tryz.prog z0I_e:=fBI (mu:=[8]) Tryz.f170 (λ n x=>yTJ n x.1 x.2.1 x.2.2.1) [[2,7,8,9,10]] [il211] 3 (yB yQg eNil) (y3a yLi iNil) λ n hn x=>(yL λ hx=>by apply yDi n hn;exact hx)
def yFe(n:Nat)(r0:Int->List Int->Int->Int->Option (Int×Unit))(r2:Int->Int->List Int->Int->Int->Option (Int×Unit))(dg:Int)(cU:Int)(bA:List Int)(cY:Int)(aS:Int):Option (Int×Unit):=
  (bif cU != 0 then (bif cU==0 then none else r2 cU (dg.tmod cU) bA cY aS)else r0 dg bA cY (i64.wrap (aS+1)))
def y7Q(n:Nat)(r0:Int->List Int->Int->Int->Option (Int×Unit))(k:Nat)(dg:Int)(cU:Int)(bA:List Int)(cY:Int)(aS:Int):Option (Int×Unit):=
  iter (λ r y=>yFe n r0 (λ dg cU bA cY aS=>r ((dg,(cU,(bA,(cY,(aS,()))))),((),()))) y.1.1 y.1.2.1 y.1.2.2.1 y.1.2.2.2.1 y.1.2.2.2.2.1) k ((dg,(cU,(bA,(cY,(aS,()))))),((),()))
def yG9(n:Nat)(r0:Int->List Int->Int->Int->Option (Int×Unit))(db:Int)(aP:List Int)(a8:Int)(aj:Int):Option (Int×Unit):=
  (bif decide (aj < a8)then ((idx aP aj).bind λ v1=>(y7Q n r0 n (db) ((z0A v1).1) (aP) (a8) (aj)))else some (db,()))
def y6y(n:Nat)(k:Nat)(db:Int)(aP:List Int)(a8:Int)(aj:Int):Option (Int×Unit):=
  iter (λ r y=>yG9 n (λ db aP a8 aj=>r ((db,(aP,(a8,(aj,())))),((),()))) y.1.1 y.1.2.1 y.1.2.2.1 y.1.2.2.2.1) k ((db,(aP,(a8,(aj,())))),((),()))
def ySn(n:Nat)(n1:Int)(l:List Int):Option (Int×Unit):=
  (y6y n n (n1) (l) ((↑l.length:Int)) ((0:Int)))
def yKc(bA:List Int)(cY:Int)(aS:Int)(dg:Int)(cU:Int):Option (((Int×Unit)⊕(Int))⊕(Int×Int)):=
  (bif cU != 0 then (bif cU==0 then none else (some (Sum.inr ((cU),(dg.tmod cU)))))else (some (Sum.inl (Sum.inr (dg)))))
theorem yEC(n:Nat)(hn:big<=n)(r0:Int->List Int->Int->Int->Option (Int×Unit))(bA:List Int)(cY:Int)(aS:Int)(dg:Int)(cU:Int):LeF (elim some λ (a7:(Int))=>r0 a7 bA cY (i64.wrap (aS+1))) (y1v (λ a7=>yKc bA cY aS a7.1 a7.2) wMax (dg,cU)) (y7Q n r0 n dg cU bA cY aS):=by
  refine y2R (f:=(elim some λ (a7:(Int))=>r0 a7 bA cY (i64.wrap (aS+1)))) (W:=λ aH a7=>y7Q n r0 aH a7.1 a7.2 bA cY aS) (body:=(λ a7=>yKc bA cY aS a7.1 a7.2)) (λ aH a7=>?_) wMax n (dg,cU) (by unfold big at hn;unfold wMax;omega)
  show LeF _ _ (yFe n r0 (y7Q n r0 aH) a7.1 a7.2 bA cY aS)
  exact (y3 (y3 yw (y5 rfl)) (y5 rfl))
def yNP(aP:List Int)(aj:Int)(v1:Int)(db:Int):Option ((Int×Unit)⊕(Int)):=
  (y1v (λ a7=>yKc (aP) ((↑aP.length:Int)) (aj) a7.1 a7.2) wMax ((db),((z0A v1).1)))
def yO2(aP:List Int)(db:Int):Option (Int×Unit):=
  (some ((db,())))
theorem yEy(n:Nat)(hn:big<=n)(aP:List Int)(db:Int)(hx:List.length (aP) < lenMax):LeF some (yJ (λ ai b6 a7=>yNP aP ai b6 a7) (λ a7=>yO2 aP a7) 0 (aP) db) (y6y n n db aP (List.length (aP):Int) 0):=by
  refine yK (f:=some) (W:=λ aH ai a7=>y6y n aH a7 aP (List.length (aP):Int) ai) (λ aH ai a7=>?_) hx db n (by unfold big at hn;unfold lenMax at hx;omega)
  show LeF _ _ (yG9 n (y6y n aH) a7 aP (List.length (aP):Int) ai)
  exact y3 (y7 λ v1=>(by apply yEC n hn)) (ym (y5 rfl))
def yMp(n1:Int)(l:List Int):Option (Int×Unit):=
  (bif decide (List.length (l) < lenMax)then yJ (λ ai b6 a7=>yNP (l) ai b6 a7) (λ a7=>yO2 (l) a7) 0 (l) (n1)else none)
abbrev z0O_e:Entry:={ f:=186,args:=.pair t3 (.pair t41 .unit),rS:=.pair t3 .unit,m:=λ x=>yMp x.1 x.2.1 }
theorem yNR:FnOK Tryz.prog z0O_e:=fB Tryz.f186 (λ n x=>ySn n x.1 x.2.1) [[0,7,8,9],[0,6,7,8,9]] (yB yCl eNil) λ n hn x=>(yL λ hx=>by apply yEy n hn;exact hx)
def y8P(n:Nat)(r0:Q1->List (Q4)->List Nat->Int->Int->Q3->Q1->Q3->Q4->Q1->Q1->Int->Int->Int->Int->Q3->Q1->Q3->Q4->Q1->Q1->Option ((Q4)×Unit))(j8:Q1)(j9:List (Q4))(j10:Int)(j11:Nat)(j12:List Nat)(j13:Int)(j14:Int)(j15:Q3)(j16:Q1)(j17:Q3)(j18:Q4)(j19:Q1)(j20:Q1)(j21:Int)(j22:Int)(j23:Int)(j24:Int)(j25:Q3)(j26:Q1)(j27:Q3)(j28:Q4)(j29:Q1)(j30:Q1):Option ((Q4)×Unit):=
  (bif decide ((↑j9.length:Int) > 0)then ((idx j9 (0:Int)).bind λ v31=>(bif decide (v31.1<=j10)then r0 j8 j9 j12 j13 (i64.wrap (j14+1)) j15 j16 j17 j18 j19 j20 j21 j22 j23 j24 j25 j26 j27 j28 j29 j30 else ((yf FloatKind.f32 (y05 BinOp.mul FloatKind.f32 j11 (nat_lit 1098907648)) i64).bind λ v36=>((zT_M j17 (i64.wrap (j8.2.1+j10))).bind λ v37=>r0 j8 j9 j12 j13 (i64.wrap (j14+1)) j15 j16 j17 j18 j19 j20 j21 j22 (z1A (j23,j24,()) (z0f (z03 v37.1).1 v36).1).1.1 (z1A (j23,j24,()) (z0f (z03 v37.1).1 v36).1).1.2.1 j25 j26 j27 j28 j29 j30))))else ((yf FloatKind.f32 (y05 BinOp.mul FloatKind.f32 j11 (nat_lit 1098907648)) i64).bind λ v38=>((zT_M j17 (i64.wrap (j8.2.1+j10))).bind λ v39=>r0 j8 j9 j12 j13 (i64.wrap (j14+1)) j15 j16 j17 j18 j19 j20 j21 j22 (z1A (j23,j24,()) (z0f (z03 v39.1).1 v38).1).1.1 (z1A (j23,j24,()) (z0f (z03 v39.1).1 v38).1).1.2.1 j25 j26 j27 j28 j29 j30)))
def yF9(n:Nat)(r0:Q1->List (Q4)->List Nat->Int->Int->Q3->Q1->Q3->Q4->Q1->Q1->Int->Int->Int->Int->Q3->Q1->Q3->Q4->Q1->Q1->Option ((Q4)×Unit))(r2:Q1->List (Q4)->Int->Nat->List Nat->Int->Int->Q3->Q1->Q3->Q4->Q1->Q1->Int->Int->Int->Int->Q3->Q1->Q3->Q4->Q1->Q1->Option ((Q4)×Unit))(bg:Q1)(af:List (Q4))(bh:Int)(bq:Nat)(aS:List Nat)(aD:Int)(aE:Int)(ar:Q3)(au:Q1)(aM:Q3)(bN:Q4)(bO:Q1)(bj:Q1)(aN:Int)(aO:Int)(aW:Int)(aX:Int)(aQ:Q3)(aR:Q1)(bm:Q3)(cS:Q4)(cT:Q1)(bQ:Q1):Option ((Q4)×Unit):=
  (bif decide ((↑af.length:Int) > 0)then ((idx af (0:Int)).bind λ v3=>(bif decide (v3.2.1<=bh)then (bif decide ((0:Int)<=1) && decide ((1:Int)<=(↑af.length:Int))then r2 bg (List.drop (Int.toNat (1:Int)) af) bh bq aS aD aE ar au aM bN bO bj aN aO aW aX aQ aR bm cS cT bQ else none)else (y8P n r0 (bg) (af) (bh) (bq) (aS) (aD) (aE) (ar) (au) (aM) (bN) (bO) (bj) (aN) (aO) (aW) (aX) (aQ) (aR) (bm) (cS) (cT) (bQ))))else (y8P n r0 (bg) (af) (bh) (bq) (aS) (aD) (aE) (ar) (au) (aM) (bN) (bO) (bj) (aN) (aO) (aW) (aX) (aQ) (aR) (bm) (cS) (cT) (bQ)))
def y7M(n:Nat)(r0:Q1->List (Q4)->List Nat->Int->Int->Q3->Q1->Q3->Q4->Q1->Q1->Int->Int->Int->Int->Q3->Q1->Q3->Q4->Q1->Q1->Option ((Q4)×Unit))(k:Nat)(bg:Q1)(af:List (Q4))(bh:Int)(bq:Nat)(aS:List Nat)(aD:Int)(aE:Int)(ar:Q3)(au:Q1)(aM:Q3)(bN:Q4)(bO:Q1)(bj:Q1)(aN:Int)(aO:Int)(aW:Int)(aX:Int)(aQ:Q3)(aR:Q1)(bm:Q3)(cS:Q4)(cT:Q1)(bQ:Q1):Option ((Q4)×Unit):=
  iter (λ r y=>yF9 n r0 (λ bg af bh bq aS aD aE ar au aM bN bO bj aN aO aW aX aQ aR bm cS cT bQ=>r ((bg,(af,(bh,(bq,(aS,(aD,(aE,()))))))),(((ar,(au,(aM,(bN,(bO,((bj,()),())))))),((aN,(aO,())),((aW,(aX,())),()))),(aQ,(aR,(bm,(cS,(cT,((bQ,()),()))))))))) y.1.1 y.1.2.1 y.1.2.2.1 y.1.2.2.2.1 y.1.2.2.2.2.1 y.1.2.2.2.2.2.1 y.1.2.2.2.2.2.2.1 y.2.1.1.1 y.2.1.1.2.1 y.2.1.1.2.2.1 y.2.1.1.2.2.2.1 y.2.1.1.2.2.2.2.1 y.2.1.1.2.2.2.2.2.1.1 y.2.1.2.1.1 y.2.1.2.1.2.1 y.2.1.2.2.1.1 y.2.1.2.2.1.2.1 y.2.2.1 y.2.2.2.1 y.2.2.2.2.1 y.2.2.2.2.2.1 y.2.2.2.2.2.2.1 y.2.2.2.2.2.2.2.1.1) k ((bg,(af,(bh,(bq,(aS,(aD,(aE,()))))))),(((ar,(au,(aM,(bN,(bO,((bj,()),())))))),((aN,(aO,())),((aW,(aX,())),()))),(aQ,(aR,(bm,(cS,(cT,((bQ,()),()))))))))
def yFJ(n:Nat)(r0:Q1->List (Q4)->List Nat->Int->Int->Q3->Q1->Q3->Q4->Q1->Q1->Int->Int->Int->Int->Q3->Q1->Q3->Q4->Q1->Q1->Option ((Q4)×Unit))(aI:Q1)(ax:List (Q4))(aj:List Nat)(ah:Int)(aF:Int)(ay:Q3)(az:Q1)(b9:Q3)(cg:Q4)(ci:Q1)(bD:Q1)(ak:Int)(am:Int)(ba:Int)(bc:Int)(aZ:Q3)(aT:Q1)(bt:Q3)(dc:Q4)(df:Q1)(cj:Q1):Option ((Q4)×Unit):=
  (bif decide (aF < ah)then ((idx aj aF).bind λ v1=>(y7M n r0 n (aI) (ax) (aF) (v1) (aj) (ah) (aF) (ay) (az) (b9) (cg) (ci) (bD) (ak) (am) (ba) (bc) (aZ) (aT) (bt) (dc) (df) (cj)))else some ((ba,bc,()),()))
def y7B(n:Nat)(k:Nat)(aI:Q1)(ax:List (Q4))(aj:List Nat)(ah:Int)(aF:Int)(ay:Q3)(az:Q1)(b9:Q3)(cg:Q4)(ci:Q1)(bD:Q1)(ak:Int)(am:Int)(ba:Int)(bc:Int)(aZ:Q3)(aT:Q1)(bt:Q3)(dc:Q4)(df:Q1)(cj:Q1):Option ((Q4)×Unit):=
  iter (λ r y=>yFJ n (λ aI ax aj ah aF ay az b9 cg ci bD ak am ba bc aZ aT bt dc df cj=>r ((aI,(ax,(aj,(ah,(aF,()))))),(((ay,(az,(b9,(cg,(ci,((bD,()),())))))),((ak,(am,())),((ba,(bc,())),()))),(aZ,(aT,(bt,(dc,(df,((cj,()),()))))))))) y.1.1 y.1.2.1 y.1.2.2.1 y.1.2.2.2.1 y.1.2.2.2.2.1 y.2.1.1.1 y.2.1.1.2.1 y.2.1.1.2.2.1 y.2.1.1.2.2.2.1 y.2.1.1.2.2.2.2.1 y.2.1.1.2.2.2.2.2.1.1 y.2.1.2.1.1 y.2.1.2.1.2.1 y.2.1.2.2.1.1 y.2.1.2.2.1.2.1 y.2.2.1 y.2.2.2.1 y.2.2.2.2.1 y.2.2.2.2.2.1 y.2.2.2.2.2.2.1 y.2.2.2.2.2.2.2.1.1) k ((aI,(ax,(aj,(ah,(aF,()))))),(((ay,(az,(b9,(cg,(ci,((bD,()),())))))),((ak,(am,())),((ba,(bc,())),()))),(aZ,(aT,(bt,(dc,(df,((cj,()),()))))))))
def ySv(n:Nat)(c:Q3)(p1:Q1):Option ((Q4)×Unit):=
  (y7B n n (p1) (p1.2.2.2.1) (p1.2.2.1) ((↑p1.2.2.1.length:Int)) ((0:Int)) (c) (p1) (c) (((0:Int),(0:Int),())) (p1) (p1) ((0:Int)) ((0:Int)) ((0:Int)) ((0:Int)) (c) (p1) (c) (((0:Int),(0:Int),())) (p1) (p1))
def yEa(j8:Q1)(j9:List (Q4))(j10:Int)(j11:Nat)(j12:List Nat)(j13:Int)(j14:Int)(j15:Q3)(j16:Q1)(j17:Q3)(j18:Q4)(j19:Q1)(j20:Q1)(j21:Int)(j22:Int)(j23:Int)(j24:Int)(j25:Q3)(j26:Q1)(j27:Q3)(j28:Q4)(j29:Q1)(j30:Q1):Option (((Q4)×Unit)⊕((List (Q4))×Int×Int)):=
  (bif decide ((↑j9.length:Int) > 0)then ((idx j9 (0:Int)).bind λ v31=>(bif decide (v31.1<=j10)then (some (Sum.inr ((j9),(j23),(j24))))else ((yf FloatKind.f32 (y05 BinOp.mul FloatKind.f32 j11 (nat_lit 1098907648)) i64).bind λ v36=>((zT_M j17 (i64.wrap (j8.2.1+j10))).bind λ v37=>(some (Sum.inr ((j9),((z1A (j23,j24,()) (z0f (z03 v37.1).1 v36).1).1.1),((z1A (j23,j24,()) (z0f (z03 v37.1).1 v36).1).1.2.1))))))))else ((yf FloatKind.f32 (y05 BinOp.mul FloatKind.f32 j11 (nat_lit 1098907648)) i64).bind λ v38=>((zT_M j17 (i64.wrap (j8.2.1+j10))).bind λ v39=>(some (Sum.inr ((j9),((z1A (j23,j24,()) (z0f (z03 v39.1).1 v38).1).1.1),((z1A (j23,j24,()) (z0f (z03 v39.1).1 v38).1).1.2.1)))))))
theorem y2C(n:Nat)(hn:big<=n)(r0:Q1->List (Q4)->List Nat->Int->Int->Q3->Q1->Q3->Q4->Q1->Q1->Int->Int->Int->Int->Q3->Q1->Q3->Q4->Q1->Q1->Option ((Q4)×Unit))(j8:Q1)(j9:List (Q4))(j10:Int)(j11:Nat)(j12:List Nat)(j13:Int)(j14:Int)(j15:Q3)(j16:Q1)(j17:Q3)(j18:Q4)(j19:Q1)(j20:Q1)(j21:Int)(j22:Int)(j23:Int)(j24:Int)(j25:Q3)(j26:Q1)(j27:Q3)(j28:Q4)(j29:Q1)(j30:Q1):LeF (elim some λ (a7:((List (Q4))×Int×Int))=>r0 j8 a7.1 j12 j13 (i64.wrap (j14+1)) j15 j16 j17 j18 j19 j20 j21 j22 a7.2.1 a7.2.2 j25 j26 j27 j28 j29 j30) (yEa j8 j9 j10 j11 j12 j13 j14 j15 j16 j17 j18 j19 j20 j21 j22 j23 j24 j25 j26 j27 j28 j29 j30) (y8P n r0 j8 j9 j10 j11 j12 j13 j14 j15 j16 j17 j18 j19 j20 j21 j22 j23 j24 j25 j26 j27 j28 j29 j30):=
  (y3 (y7 λ v31=>(y3 (y5 rfl) (y7 λ v36=>(y7 λ v37=>(y5 rfl))))) (y7 λ v38=>(y7 λ v39=>(y5 rfl))))
def yJL(bg:Q1)(bh:Int)(bq:Nat)(aS:List Nat)(aD:Int)(aE:Int)(ar:Q3)(au:Q1)(aM:Q3)(bN:Q4)(bO:Q1)(bj:Q1)(aN:Int)(aO:Int)(aW:Int)(aX:Int)(aQ:Q3)(aR:Q1)(bm:Q3)(cS:Q4)(cT:Q1)(bQ:Q1)(af:List (Q4)):Option ((((Q4)×Unit)⊕((List (Q4))×Int×Int))⊕(List (Q4))):=
  (bif decide ((↑af.length:Int) > 0)then ((idx af (0:Int)).bind λ v3=>(bif decide (v3.2.1<=bh)then (bif decide ((0:Int)<=1) && decide ((1:Int)<=(↑af.length:Int))then (some (Sum.inr (List.drop (Int.toNat (1:Int)) af)))else none)else (Option.map Sum.inl (yEa (bg) (af) (bh) (bq) (aS) (aD) (aE) (ar) (au) (aM) (bN) (bO) (bj) (aN) (aO) (aW) (aX) (aQ) (aR) (bm) (cS) (cT) (bQ)))))else (Option.map Sum.inl (yEa (bg) (af) (bh) (bq) (aS) (aD) (aE) (ar) (au) (aM) (bN) (bO) (bj) (aN) (aO) (aW) (aX) (aQ) (aR) (bm) (cS) (cT) (bQ))))
theorem yE1(n:Nat)(hn:big<=n)(r0:Q1->List (Q4)->List Nat->Int->Int->Q3->Q1->Q3->Q4->Q1->Q1->Int->Int->Int->Int->Q3->Q1->Q3->Q4->Q1->Q1->Option ((Q4)×Unit))(bg:Q1)(bh:Int)(bq:Nat)(aS:List Nat)(aD:Int)(aE:Int)(ar:Q3)(au:Q1)(aM:Q3)(bN:Q4)(bO:Q1)(bj:Q1)(aN:Int)(aO:Int)(aW:Int)(aX:Int)(aQ:Q3)(aR:Q1)(bm:Q3)(cS:Q4)(cT:Q1)(bQ:Q1)(af:List (Q4)):LeF (elim some λ (a7:((List (Q4))×Int×Int))=>r0 bg a7.1 aS aD (i64.wrap (aE+1)) ar au aM bN bO bj aN aO a7.2.1 a7.2.2 aQ aR bm cS cT bQ) (y1v (λ a7=>yJL bg bh bq aS aD aE ar au aM bN bO bj aN aO aW aX aQ aR bm cS cT bQ a7) wMax af) (y7M n r0 n bg af bh bq aS aD aE ar au aM bN bO bj aN aO aW aX aQ aR bm cS cT bQ):=by
  refine y2R (f:=(elim some λ (a7:((List (Q4))×Int×Int))=>r0 bg a7.1 aS aD (i64.wrap (aE+1)) ar au aM bN bO bj aN aO a7.2.1 a7.2.2 aQ aR bm cS cT bQ)) (W:=λ aH a7=>y7M n r0 aH bg a7 bh bq aS aD aE ar au aM bN bO bj aN aO aW aX aQ aR bm cS cT bQ) (body:=(λ a7=>yJL bg bh bq aS aD aE ar au aM bN bO bj aN aO aW aX aQ aR bm cS cT bQ a7)) (λ aH a7=>?_) wMax n af (by unfold big at hn;unfold wMax;omega)
  show LeF _ _ (yF9 n r0 (y7M n r0 aH) bg a7 bh bq aS aD aE ar au aM bN bO bj aN aO aW aX aQ aR bm cS cT bQ)
  exact (y3 (y7 λ v3=>(y3 (y3 (y5 rfl) yw) (ym (by apply y2C n hn)))) (ym (by apply y2C n hn)))
def yNd(aI:Q1)(aj:List Nat)(ay:Q3)(az:Q1)(b9:Q3)(cg:Q4)(ci:Q1)(bD:Q1)(ak:Int)(am:Int)(aZ:Q3)(aT:Q1)(bt:Q3)(dc:Q4)(df:Q1)(cj:Q1)(aF:Int)(v1:Nat)(ax:List (Q4))(ba:Int)(bc:Int):Option (((Q4)×Unit)⊕((List (Q4))×Int×Int)):=
  (y1v (λ a7=>yJL (aI) (aF) (v1) (aj) ((↑aj.length:Int)) (aF) (ay) (az) (b9) (cg) (ci) (bD) (ak) (am) (ba) (bc) (aZ) (aT) (bt) (dc) (df) (cj) a7) wMax (ax))
def yO3(aI:Q1)(aj:List Nat)(ay:Q3)(az:Q1)(b9:Q3)(cg:Q4)(ci:Q1)(bD:Q1)(ak:Int)(am:Int)(aZ:Q3)(aT:Q1)(bt:Q3)(dc:Q4)(df:Q1)(cj:Q1)(ax:List (Q4))(ba:Int)(bc:Int):Option ((Q4)×Unit):=
  (some (((ba,bc,()),())))
theorem yDm(n:Nat)(hn:big<=n)(aI:Q1)(aj:List Nat)(ay:Q3)(az:Q1)(b9:Q3)(cg:Q4)(ci:Q1)(bD:Q1)(ak:Int)(am:Int)(aZ:Q3)(aT:Q1)(bt:Q3)(dc:Q4)(df:Q1)(cj:Q1)(ax:List (Q4))(ba:Int)(bc:Int)(hx:List.length (aj) < lenMax):LeF some (yJ (λ ai b6 a7=>yNd aI aj ay az b9 cg ci bD ak am aZ aT bt dc df cj ai b6 a7.1 a7.2.1 a7.2.2) (λ a7=>yO3 aI aj ay az b9 cg ci bD ak am aZ aT bt dc df cj a7.1 a7.2.1 a7.2.2) 0 (aj) (ax,ba,bc)) (y7B n n aI ax aj (List.length (aj):Int) 0 ay az b9 cg ci bD ak am ba bc aZ aT bt dc df cj):=by
  refine yK (f:=some) (W:=λ aH ai a7=>y7B n aH aI a7.1 aj (List.length (aj):Int) ai ay az b9 cg ci bD ak am a7.2.1 a7.2.2 aZ aT bt dc df cj) (λ aH ai a7=>?_) hx (ax,ba,bc) n (by unfold big at hn;unfold lenMax at hx;omega)
  show LeF _ _ (yFJ n (y7B n aH) aI a7.1 aj (List.length (aj):Int) ai ay az b9 cg ci bD ak am a7.2.1 a7.2.2 aZ aT bt dc df cj)
  exact y3 (y7 λ v1=>(by apply yE1 n hn)) (ym (y5 rfl))
def yPG(c:Q3)(p1:Q1):Option ((Q4)×Unit):=
  (bif decide (List.length (p1.2.2.1) < lenMax)then yJ (λ ai b6 a7=>yNd (p1) (p1.2.2.1) (c) (p1) (c) (((0:Int),(0:Int),())) (p1) (p1) ((0:Int)) ((0:Int)) (c) (p1) (c) (((0:Int),(0:Int),())) (p1) (p1) ai b6 a7.1 a7.2.1 a7.2.2) (λ a7=>yO3 (p1) (p1.2.2.1) (c) (p1) (c) (((0:Int),(0:Int),())) (p1) (p1) ((0:Int)) ((0:Int)) (c) (p1) (c) (((0:Int),(0:Int),())) (p1) (p1) a7.1 a7.2.1 a7.2.2) 0 (p1.2.2.1) ((p1.2.2.2.1),((0:Int)),((0:Int)))else none)
abbrev z0R_e:Entry:={ f:=188,args:=.pair t55 (.pair (.ref t60) .unit),rS:=.pair t57 .unit,m:=λ x=>yPG x.1 x.2.1 }
theorem yQN:FnOK Tryz.prog z0R_e:=fBI Tryz.f188 (λ n x=>ySv n x.1 x.2.1) [] [il124,il195] 3 (yB yPU (yB yKI (yB yKd (yB yG5 eNil)))) (y3a y4I (y3a y4E iNil)) λ n hn x=>(yL λ hx=>by apply yDm n hn;exact hx)
abbrev zV_a:Ty:=.pair t183 (.pair t3 (.pair t3 .unit))
abbrev zV_r:Ty:=.pair t57 .unit
class tide_matrix_expand_Rec where
  f:zV_a.den->Option zV_r.den
section
variable [tide_matrix_expand_Rec]
def y3r:Entry:={ f:=194,args:=zV_a,rS:=zV_r,m:=λ x=>tide_matrix_expand_Rec.f x }
def zV_g:G:={ T:=T,E:=[y3r,z12_e,z0f_e,z1A_e],mU:=[],fz:=[] }
def zV_k:List (List Nat):=[[0,1,2,6,7,8,18,19]]
def yQb(n:Nat):Ann:={ keep:=zV_k,fuel:=n,inl:=[],deep:=0 }
def yIL(n:Nat)(r0:List (List (Q4))->Int->Int->Int->Int->Int->Int->Int->Int->Int->Option ((Q4)×Unit))(bF:List (List (Q4)))(bR:Int)(bw:Int)(bx:Int)(cz:Int)(cr:Int)(be:Int)(bf:Int)(ak:Int)(am:Int):Option ((Q4)×Unit):=
  (bif decide (cr < cz)then (bif decide (cr < 0)then none else (bif y0V i64 BinOp.and (bw.fdiv ((2:Int) ^ Min.min cr.toNat i64.bits)) (1:Int)==1 then r0 bF bR bw bx cz (i64.wrap (cr+1)) be bf ak am else ((idx bF bR).bind λ v1=>((idx v1 cr).bind λ v2=>(bif decide (cr < 0)then none else ((tide_matrix_expand_Rec.f (bF,i64.wrap (bR+1),y0V i64 BinOp.or bw (i64.wrap ((1:Int) * 2 ^ Min.min cr.toNat i64.bits)),())).bind λ v3=>r0 bF bR bw (i64.wrap ((0:Int) - bx)) cz (i64.wrap (cr+1)) be bf (z1A (ak,am,()) (z0f (z12 v2 v3.1).1 bx).1).1.1 (z1A (ak,am,()) (z0f (z12 v2 v3.1).1 bx).1).1.2.1))))))else some ((ak,am,()),()))
def yBQ(n:Nat)(k:Nat)(bF:List (List (Q4)))(bR:Int)(bw:Int)(bx:Int)(cz:Int)(cr:Int)(be:Int)(bf:Int)(ak:Int)(am:Int):Option ((Q4)×Unit):=
  iter (λ r y=>yIL n (λ bF bR bw bx cz cr be bf ak am=>r ((bF,(bR,(bw,(bx,(cz,(cr,())))))),(((be,(bf,())),((ak,(am,())),())),()))) y.1.1 y.1.2.1 y.1.2.2.1 y.1.2.2.2.1 y.1.2.2.2.2.1 y.1.2.2.2.2.2.1 y.2.1.1.1 y.2.1.1.2.1 y.2.1.2.1.1 y.2.1.2.1.2.1) k ((bF,(bR,(bw,(bx,(cz,(cr,())))))),(((be,(bf,())),((ak,(am,())),())),()))
def zV_m(n:Nat)(m:List (List (Q4)))(row:Int)(used:Int):Option ((Q4)×Unit):=
  (bif row==(↑m.length:Int)then some (((1:Int),(0:Int),()),())else (yBQ n n (m) (row) (used) ((1:Int)) ((↑m.length:Int)) ((0:Int)) ((0:Int)) ((0:Int)) ((0:Int)) ((0:Int))))
theorem yTc(n:Nat)(x:zV_a.den):runF zV_g (yQb n) Tryz.f194 zV_a zV_r x=zV_m n x.1 x.2.1 x.2.2.1:=by kernel_rfl
def yEG(bF:List (List (Q4)))(bR:Int)(bw:Int)(cz:Int)(be:Int)(bf:Int)(cr:Int)(bx:Int)(ak:Int)(am:Int):Option (((Q4)×Unit)⊕(Int×Int×Int)):=
  (bif decide (cr < 0)then none else (bif y0V i64 BinOp.and (bw.fdiv ((2:Int) ^ Min.min cr.toNat i64.bits)) (1:Int)==1 then (some (Sum.inr ((bx),(ak),(am))))else ((idx bF bR).bind λ v1=>((idx v1 cr).bind λ v2=>(bif decide (cr < 0)then none else ((tide_matrix_expand_Rec.f (bF,i64.wrap (bR+1),y0V i64 BinOp.or bw (i64.wrap ((1:Int) * 2 ^ Min.min cr.toNat i64.bits)),())).bind λ v3=>(some (Sum.inr ((i64.wrap ((0:Int) - bx)),((z1A (ak,am,()) (z0f (z12 v2 v3.1).1 bx).1).1.1),((z1A (ak,am,()) (z0f (z12 v2 v3.1).1 bx).1).1.2.1))))))))))
def yOx(bF:List (List (Q4)))(bR:Int)(bw:Int)(cz:Int)(be:Int)(bf:Int)(bx:Int)(ak:Int)(am:Int):Option ((Q4)×Unit):=
  (some (((ak,am,()),())))
theorem yH0(n:Nat)(hn:big<=n)(bF:List (List (Q4)))(bR:Int)(bw:Int)(cz:Int)(be:Int)(bf:Int)(bx:Int)(ak:Int)(am:Int)(hx:(cz)<=9223372036854775807):LeF some (y0b (λ ai a7=>yEG bF bR bw cz be bf ai a7.1 a7.2.1 a7.2.2) (λ a7=>yOx bF bR bw cz be bf a7.1 a7.2.1 a7.2.2) ((cz) - 0).toNat 0 (bx,ak,am)) (yBQ n n bF bR bw bx cz 0 be bf ak am):=by
  refine y1y (f:=some) (W:=λ aH ai a7=>yBQ n aH bF bR bw a7.1 cz ai be bf a7.2.1 a7.2.2) (λ aH ai a7=>?_) hx (bx,ak,am) n 0 (by decide) (by unfold big at hn;omega)
  show LeF _ _ (yIL n (yBQ n aH) bF bR bw a7.1 cz ai be bf a7.2.1 a7.2.2)
  exact y3 (y3 yw (y3 (y5 rfl) (y7 λ v1=>(y7 λ v2=>(y3 yw (y7 λ v3=>(y5 rfl))))))) (ym (y5 rfl))
def zV_M(m:List (List (Q4)))(row:Int)(used:Int):Option ((Q4)×Unit):=
  (bif row==(↑m.length:Int)then (some ((((1:Int),(0:Int),()),())))else (bif decide (((↑m.length:Int))<=9223372036854775807)then y0b (λ ai a7=>yEG (m) (row) (used) ((↑m.length:Int)) ((0:Int)) ((0:Int)) ai a7.1 a7.2.1 a7.2.2) (λ a7=>yOx (m) (row) (used) ((↑m.length:Int)) ((0:Int)) ((0:Int)) a7.1 a7.2.1 a7.2.2) (((↑m.length:Int)) - 0).toNat 0 (((1:Int)),((0:Int)),((0:Int)))else none))
theorem yS6(m:List (List (Q4)))(row:Int)(used:Int)(y:(Q4)×Unit)(h:zV_M m row used=some y):∃ n,zV_m n m row used=some y:=
  ⟨big,LeF.top (show LeF some (zV_M m row used) (zV_m big m row used)from (λ (n:Nat) (hn:big<=n)=>show LeF some (zV_M m row used) (zV_m n m row used)from (y3 (y5 rfl) (yL λ hx=>by apply yH0 n hn;exact hx))) big (Nat.le_refl _)) h⟩
end
def yN(d:Nat):zV_a.den->Option zV_r.den:=Nat.rec (motive:=λ _=>zV_a.den->Option zV_r.den) (λ _=>none) (λ _ ih x=>@zV_M ⟨ih⟩ x.1 x.2.1 x.2.2.1) d
def y0g(d:Nat):Entry:={ f:=194,args:=zV_a,rS:=zV_r,m:=yN d }
theorem y1Z:(d:Nat)->FnOK Tryz.prog (y0g d)
  |0=>FnOK.none (fn:=Tryz.f194) (by kernel_rfl) (by kernel_rfl) (by kernel_rfl)
  |d+1=>yOv (g:=@zV_g ⟨yN d⟩) (fn:=Tryz.f194) (e:=y0g (d+1)) y7y yMn (yB (y1Z d) (yB yGY (yB yKd (yB yG5 eNil)))) (by kernel_rfl) (by kernel_rfl) (by kernel_rfl) (λ x y h=>let ⟨n,hn⟩:=@yS6 ⟨yN d⟩ x.1 x.2.1 x.2.2.1 y h;⟨yQb n,iNil,(@yTc ⟨yN d⟩ n x).trans hn⟩)
def zV_e:Entry:=y0g 8
theorem ySw:FnOK Tryz.prog zV_e:=y1Z 8
def zb_m(n:Nat)(x1:Nat):Option (Int×Unit):=
  (bif yT BinOp.neq FloatKind.f32 (y05 BinOp.sub FloatKind.f32 x1 x1) (nat_lit 0)then some ((1:Int),())else (bif yT BinOp.lss FloatKind.f32 x1 (nat_lit 3263168512)then some ((3:Int),())else (bif yT BinOp.gtr FloatKind.f32 x1 (nat_lit 1115684864)then some ((3:Int),())else ((zd_M x1).bind λ v2=>some ((z0i (yT BinOp.neq FloatKind.f32 (y14 FloatKind.f32 v2.1) (y05 BinOp.mul FloatKind.f32 x1 (nat_lit 1098907648))) (3:Int)).1,())))))
def zb_M(x1:Nat):Option (Int×Unit):=zb_m 0 x1
abbrev zb_e:Entry:={ f:=197,args:=.pair t61 .unit,rS:=.pair t28 .unit,m:=λ x=>zb_M x.1 }
theorem yQ6:FnOK Tryz.prog zb_e:=fF 0 Tryz.f197 (λ n x=>zb_m n x.1) [] (yB yTB (yB yCb eNil))
def yOn(n:Nat)(n1:Int)(least:Int)(most:Int):Option (Int×Unit):=
  (bif decide (n1 < least)then some ((z0i Bool.true (3:Int)).1,())else some ((z0i (decide (n1 > most)) (3:Int)).1,()))
def z0D(n1:Int)(least:Int)(most:Int):(Int×Unit):=
  (bif decide (n1 < least)then ((z0i Bool.true (3:Int)).1,())else ((z0i (decide (n1 > most)) (3:Int)).1,()))
abbrev yTD (n1:Int) (least:Int) (most:Int):Option (Int×Unit):=some (z0D n1 least most)
abbrev z0D_e:Entry:={ f:=201,args:=.pair t3 (.pair t3 (.pair t3 .unit)),rS:=.pair t28 .unit,m:=λ x=>yTD x.1 x.2.1 x.2.2.1 }
theorem ySP:FnOK Tryz.prog z0D_e:=fF (hm:=by intro x;show some (z0D x.1 x.2.1 x.2.2.1)=yOn 0 x.1 x.2.1 x.2.2.1;unfold yOn z0D;first|rfl|simp only[yp]) 0 Tryz.f201 (λ n x=>yOn n x.1 x.2.1 x.2.2.1) [] (yB yCb eNil)
def zC_m(n:Nat)(s:List (Q4))(f:(Q4)×Unit->Option (Bool×Unit)):Option (Bool×Unit):=
  ((zF_M s f).bind λ v0=>some (decide (v0.1 >= 0),()))
def zC_M(s:List (Q4))(f:(Q4)×Unit->Option (Bool×Unit)):Option (Bool×Unit):=zC_m 0 s f
abbrev zC_e:Entry:={ f:=204,args:=.pair t58 (.pair t263 .unit),rS:=.pair t4 .unit,m:=λ x=>zC_M x.1 x.2.1 }
theorem ySr:FnOK Tryz.prog zC_e:=fF 0 Tryz.f204 (λ n x=>zC_m n x.1 x.2.1) [] (yB yTz eNil)
def zE_m(n:Nat)(s:List Nat)(f:Nat×Unit->Option (Bool×Unit)):Option (Bool×Unit):=
  ((zG_M s f).bind λ v0=>some (decide (v0.1 >= 0),()))
def zE_M(s:List Nat)(f:Nat×Unit->Option (Bool×Unit)):Option (Bool×Unit):=zE_m 0 s f
abbrev zE_e:Entry:={ f:=207,args:=.pair t35 (.pair t265 .unit),rS:=.pair t4 .unit,m:=λ x=>zE_M x.1 x.2.1 }
theorem yTm:FnOK Tryz.prog zE_e:=fF 0 Tryz.f207 (λ n x=>zE_m n x.1 x.2.1) [] (yB yTr eNil)
def zo_m(n:Nat)(s:Q4):Option (Int×Unit):=
  (bif decide (s.1 < 0)then some ((z0i Bool.true (14:Int)).1,())else (bif decide (s.1 >= s.2.1)then some ((z0i Bool.true (14:Int)).1,())else some ((z0i (decide (s.2.1 > 100000)) (14:Int)).1,())))
def zo(s:Q4):(Int×Unit):=
  (bif decide (s.1 < 0)then ((z0i Bool.true (14:Int)).1,())else (bif decide (s.1 >= s.2.1)then ((z0i Bool.true (14:Int)).1,())else ((z0i (decide (s.2.1 > 100000)) (14:Int)).1,())))
abbrev zo_M (s:Q4):Option (Int×Unit):=some (zo s)
abbrev zo_e:Entry:={ f:=225,args:=.pair t63 .unit,rS:=.pair t28 .unit,m:=λ x=>zo_M x.1 }
theorem ySV:FnOK Tryz.prog zo_e:=fF (hm:=by intro x;show some (zo x.1)=zo_m 0 x.1;unfold zo_m zo;first|rfl|simp only[yp]) 0 Tryz.f225 (λ n x=>zo_m n x.1) [] (yB yCb eNil)
end
end Go.Tw
end
