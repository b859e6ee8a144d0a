import Derived.Test.YtpcnkpbpcebokaaGreatDoorBT
import Derived.Test.YtpcnkpbpcebokaaGreatDoorB0
import Derived.Test.YtpcnkpbpcebokaaGreatDoorBS
import Derived.Test.YtpcnkpbpcebokaaGreatDoorLP
set_option linter.all false
open Go.IntKind (i64)
section
set_option maxRecDepth 1000000
namespace Go.Tw
open Go.Vx Go.Vx.B Go.Proofs
noncomputable section
def yFW(n:Nat)(r0:List Int->Int->Option (Int×Unit))(aI:List Int)(bR:Int):Option (Int×Unit):=
  (bif decide (bR < (↑aI.length:Int))then ((idx aI bR).bind λ v1=>(bif v1 != 0 then ((idx aI bR).bind λ v2=>some (v2,()))else r0 aI (i64.wrap (bR+1))))else some ((0:Int),()))
def y7j(n:Nat)(k:Nat)(aI:List Int)(bR:Int):Option (Int×Unit):=
  iter (λ r y=>yFW n (λ aI bR=>r ((aI,(bR,())),((),()))) y.1.1 y.1.2.1) k ((aI,(bR,())),((),()))
def yTL(n:Nat)(l:List Int):Option (Int×Unit):=
  (y7j n n (l) ((0:Int)))
def yFt(aI:List Int)(bR:Int)(v1:Int):Option ((Int×Unit)⊕Unit):=
  (bif v1 != 0 then ((idx aI bR).bind λ v2=>(some (Sum.inl ((v2,())))))else (some (Sum.inr ())))
def yFz(aI:List Int):Option (Int×Unit):=
  (some (((0:Int),())))
theorem yFD(n:Nat)(hn:big<=n)(aI:List Int)(hx:List.length (aI) < lenMax):LeF some (yH (λ ar aX ae=>yFt aI ar aX) (λ ae=>yFz aI) 0 (aI) ()) (y7j n n aI 0):=by
  refine yK (f:=some) (W:=λ aQ ar ae=>y7j n aQ aI ar) (λ aQ ar ae=>?_) hx () n (by unfold big at hn;unfold lenMax at hx;omega)
  show LeF _ _ (yFW n (y7j n aQ) aI ar)
  exact y4 (y8 λ v1=>(y4 (y8 λ v2=>(y5 rfl)) (y5 rfl))) (yl (y5 rfl))
def yDK(l:List Int):Option (Int×Unit):=
  (bif decide (List.length (l) < lenMax)then yH (λ ar aX ae=>yFt (l) ar aX) (λ ae=>yFz (l)) 0 (l) ()else none)
abbrev z0Q_e:Entry:={ f:=24,args:=.pair t41 .unit,rS:=.pair t3 .unit,m:=λ x=>yDK x.1 }
theorem yLD:FnOK Tryz.prog z0Q_e:=fB Tryz.f24 (λ n x=>yTL n x.1) [[0,3]] eNil λ n hn x=>(yL λ hx=>by apply yFD n hn;exact hx)
def yKL(n:Nat)(r0:List (Q4)->List (Q4)->Int->Option (Bool×Unit))(ax:List (Q4))(az:List (Q4))(aL:Int):Option (Bool×Unit):=
  (bif decide (aL < (↑ax.length:Int))then ((idx ax aL).bind λ v1=>((idx az aL).bind λ v2=>(bif !eqV ((Ty.int i64).pair ((Ty.int i64).pair Ty.unit)) v1 v2 then some (Bool.false,())else r0 ax az (i64.wrap (aL+1)))))else some (Bool.true,()))
def yAy(n:Nat)(k:Nat)(ax:List (Q4))(az:List (Q4))(aL:Int):Option (Bool×Unit):=
  iter (λ r y=>yKL n (λ ax az aL=>r ((ax,(az,(aL,()))),((),()))) y.1.1 y.1.2.1 y.1.2.2.1) k ((ax,(az,(aL,()))),((),()))
def zX_m(n:Nat)(a:List (Q4))(b:List (Q4)):Option (Bool×Unit):=
  (bif (↑a.length:Int) != (↑b.length:Int)then some (Bool.false,())else (yAy n n (a) (b) ((0:Int))))
def ySS(ax:List (Q4))(az:List (Q4))(aL:Int)(v1:Q4):Option ((Bool×Unit)⊕Unit):=
  ((idx az aL).bind λ v2=>(bif !eqV ((Ty.int i64).pair ((Ty.int i64).pair Ty.unit)) v1 v2 then (some (Sum.inl ((Bool.false,()))))else (some (Sum.inr ()))))
def yR9(ax:List (Q4))(az:List (Q4)):Option (Bool×Unit):=
  (some ((Bool.true,())))
theorem yHm(n:Nat)(hn:big<=n)(ax:List (Q4))(az:List (Q4))(hx:List.length (ax) < lenMax):LeF some (yH (λ ar aX ae=>ySS ax az ar aX) (λ ae=>yR9 ax az) 0 (ax) ()) (yAy n n ax az 0):=by
  refine yK (f:=some) (W:=λ aQ ar ae=>yAy n aQ ax az ar) (λ aQ ar ae=>?_) hx () n (by unfold big at hn;unfold lenMax at hx;omega)
  show LeF _ _ (yKL n (yAy n aQ) ax az ar)
  exact y4 (y8 λ v1=>(y8 λ v2=>(y4 (y5 rfl) (y5 rfl)))) (yl (y5 rfl))
def zX_M(a:List (Q4))(b:List (Q4)):Option (Bool×Unit):=
  (bif (↑a.length:Int) != (↑b.length:Int)then (some ((Bool.false,())))else (bif decide (List.length (a) < lenMax)then yH (λ ar aX ae=>ySS (a) (b) ar aX) (λ ae=>yR9 (a) (b)) 0 (a) ()else none))
abbrev zX_e:Entry:={ f:=29,args:=.pair t23 (.pair t23 .unit),rS:=.pair t4 .unit,m:=λ x=>zX_M x.1 x.2.1 }
theorem yTA:FnOK Tryz.prog zX_e:=fB Tryz.f29 (λ n x=>zX_m n x.1 x.2.1) [[0,1,5]] eNil λ n hn x=>(y4 (y5 rfl) (yL λ hx=>by apply yHm n hn;exact hx))
def yKc(n:Nat)(r0:List Nat->List Nat->Int->Option (Bool×Unit))(ax:List Nat)(az:List Nat)(aL:Int):Option (Bool×Unit):=
  (bif decide (aL < (↑ax.length:Int))then ((idx ax aL).bind λ v1=>((idx az aL).bind λ v2=>(bif yT BinOp.neq FloatKind.f32 v1 v2 then some (Bool.false,())else r0 ax az (i64.wrap (aL+1)))))else some (Bool.true,()))
def yAj(n:Nat)(k:Nat)(ax:List Nat)(az:List Nat)(aL:Int):Option (Bool×Unit):=
  iter (λ r y=>yKc n (λ ax az aL=>r ((ax,(az,(aL,()))),((),()))) y.1.1 y.1.2.1 y.1.2.2.1) k ((ax,(az,(aL,()))),((),()))
def ze_m(n:Nat)(a:List Nat)(b:List Nat):Option (Bool×Unit):=
  (bif (↑a.length:Int) != (↑b.length:Int)then some (Bool.false,())else (yAj n n (a) (b) ((0:Int))))
def yR5(ax:List Nat)(az:List Nat)(aL:Int)(v1:Nat):Option ((Bool×Unit)⊕Unit):=
  ((idx az aL).bind λ v2=>(bif yT BinOp.neq FloatKind.f32 v1 v2 then (some (Sum.inl ((Bool.false,()))))else (some (Sum.inr ()))))
def ySy(ax:List Nat)(az:List Nat):Option (Bool×Unit):=
  (some ((Bool.true,())))
theorem yId(n:Nat)(hn:big<=n)(ax:List Nat)(az:List Nat)(hx:List.length (ax) < lenMax):LeF some (yH (λ ar aX ae=>yR5 ax az ar aX) (λ ae=>ySy ax az) 0 (ax) ()) (yAj n n ax az 0):=by
  refine yK (f:=some) (W:=λ aQ ar ae=>yAj n aQ ax az ar) (λ aQ ar ae=>?_) hx () n (by unfold big at hn;unfold lenMax at hx;omega)
  show LeF _ _ (yKc n (yAj n aQ) ax az ar)
  exact y4 (y8 λ v1=>(y8 λ v2=>(y4 (y5 rfl) (y5 rfl)))) (yl (y5 rfl))
def ze_M(a:List Nat)(b:List Nat):Option (Bool×Unit):=
  (bif (↑a.length:Int) != (↑b.length:Int)then (some ((Bool.false,())))else (bif decide (List.length (a) < lenMax)then yH (λ ar aX ae=>yR5 (a) (b) ar aX) (λ ae=>ySy (a) (b)) 0 (a) ()else none))
abbrev ze_e:Entry:={ f:=30,args:=.pair t35 (.pair t35 .unit),rS:=.pair t4 .unit,m:=λ x=>ze_M x.1 x.2.1 }
theorem yU7:FnOK Tryz.prog ze_e:=fB Tryz.f30 (λ n x=>ze_m n x.1 x.2.1) [[0,1,5]] eNil λ n hn x=>(y4 (y5 rfl) (yL λ hx=>by apply yId n hn;exact hx))
def yKD(n:Nat)(r0:List (Q3)->Int->Option (Bool×Unit))(aI:List (Q3))(bR:Int):Option (Bool×Unit):=
  (bif decide (bR < (↑aI.length:Int))then ((idx aI bR).bind λ v1=>(bif decide ((↑v1.1.length:Int) > 60)then some (Bool.false,())else r0 aI (i64.wrap (bR+1))))else some (decide ((↑aI.length:Int)<=5),()))
def yC1(n:Nat)(k:Nat)(aI:List (Q3))(bR:Int):Option (Bool×Unit):=
  iter (λ r y=>yKD n (λ aI bR=>r ((aI,(bR,())),((),()))) y.1.1 y.1.2.1) k ((aI,(bR,())),((),()))
def zq_m(n:Nat)(l:List (Q3)):Option (Bool×Unit):=
  (yC1 n n (l) ((0:Int)))
def yQT(aI:List (Q3))(bR:Int)(v1:Q3):Option ((Bool×Unit)⊕Unit):=
  (bif decide ((↑v1.1.length:Int) > 60)then (some (Sum.inl ((Bool.false,()))))else (some (Sum.inr ())))
def yNI(aI:List (Q3)):Option (Bool×Unit):=
  (some ((decide ((↑aI.length:Int)<=5),())))
theorem yIe(n:Nat)(hn:big<=n)(aI:List (Q3))(hx:List.length (aI) < lenMax):LeF some (yH (λ ar aX ae=>yQT aI ar aX) (λ ae=>yNI aI) 0 (aI) ()) (yC1 n n aI 0):=by
  refine yK (f:=some) (W:=λ aQ ar ae=>yC1 n aQ aI ar) (λ aQ ar ae=>?_) hx () n (by unfold big at hn;unfold lenMax at hx;omega)
  show LeF _ _ (yKD n (yC1 n aQ) aI ar)
  exact y4 (y8 λ v1=>(y4 (y5 rfl) (y5 rfl))) (yl (y5 rfl))
def zq_M(l:List (Q3)):Option (Bool×Unit):=
  (bif decide (List.length (l) < lenMax)then yH (λ ar aX ae=>yQT (l) ar aX) (λ ae=>yNI (l)) 0 (l) ()else none)
abbrev zq_e:Entry:={ f:=31,args:=.pair t22 .unit,rS:=.pair t4 .unit,m:=λ x=>zq_M x.1 }
theorem yTE:FnOK Tryz.prog zq_e:=fB Tryz.f31 (λ n x=>zq_m n x.1) [[0,3]] eNil λ n hn x=>(yL λ hx=>by apply yIe n hn;exact hx)
def yGx(n:Nat)(r0:List (Q3)->Int->Int->List (Q3)->Option (List (Q3)×Unit))(bl:List (Q3))(aT:Int)(af:Int)(bu:List (Q3)):Option (List (Q3)×Unit):=
  (bif decide (af < aT)then ((idx bl af).bind λ v1=>(bif decide (bu.length+(1:Nat)<=memMax)then r0 bl aT (i64.wrap (af+1)) (bu++[(v1.1,v1.2.1,v1.2.2.1,())])else none))else some (bu,()))
def y76(n:Nat)(k:Nat)(bl:List (Q3))(aT:Int)(af:Int)(bu:List (Q3)):Option (List (Q3)×Unit):=
  iter (λ r y=>yGx n (λ bl aT af bu=>r ((bl,(aT,(af,()))),((bu,()),()))) y.1.1 y.1.2.1 y.1.2.2.1 y.2.1.1) k ((bl,(aT,(af,()))),((bu,()),()))
def yUn(n:Nat)(l:List (Q3)):Option (List (Q3)×Unit):=
  (y76 n n (l) ((↑l.length:Int)) ((0:Int)) ([]))
def yJk(bl:List (Q3))(af:Int)(v1:Q3)(bu:List (Q3)):Option ((List (Q3)×Unit)⊕(List (Q3))):=
  (bif decide (bu.length+(1:Nat)<=memMax)then (some (Sum.inr (bu++[(v1.1,v1.2.1,v1.2.2.1,())])))else none)
def yNn(bl:List (Q3))(bu:List (Q3)):Option (List (Q3)×Unit):=
  (some ((bu,())))
theorem yF9(n:Nat)(hn:big<=n)(bl:List (Q3))(bu:List (Q3))(hx:List.length (bl) < lenMax):LeF some (yH (λ ar aX ae=>yJk bl ar aX ae) (λ ae=>yNn bl ae) 0 (bl) bu) (y76 n n bl (List.length (bl):Int) 0 bu):=by
  refine yK (f:=some) (W:=λ aQ ar ae=>y76 n aQ bl (List.length (bl):Int) ar ae) (λ aQ ar ae=>?_) hx bu n (by unfold big at hn;unfold lenMax at hx;omega)
  show LeF _ _ (yGx n (y76 n aQ) bl (List.length (bl):Int) ar ae)
  exact y4 (y8 λ v1=>(y4 (y5 rfl) y02)) (yl (y5 rfl))
def yQ5(l:List (Q3)):Option (List (Q3)×Unit):=
  (bif decide (List.length (l) < lenMax)then yH (λ ar aX ae=>yJk (l) ar aX ae) (λ ae=>yNn (l) ae) 0 (l) ([])else none)
abbrev z0f_e:Entry:={ f:=33,args:=.pair t22 .unit,rS:=.pair t31 .unit,m:=λ x=>yQ5 x.1 }
theorem ySx:FnOK Tryz.prog z0f_e:=fB (mu:=[3]) Tryz.f33 (λ n x=>yUn n x.1) [[3,6,7,8]] eNil λ n hn x=>(yL λ hx=>by apply yF9 n hn;exact hx)
def zc_m(n:Nat)(n1:Int)(low:Int)(high:Int):Option (Int×Unit):=
  (bif decide (n1 < low)then some ((3:Int),())else (bif decide (n1 > high)then some ((3:Int),())else some ((0:Int),())))
def zc(n1:Int)(low:Int)(high:Int):(Int×Unit):=
  (bif decide (n1 < low)then ((3:Int),())else (bif decide (n1 > high)then ((3:Int),())else ((0:Int),())))
abbrev zc_M (n1:Int) (low:Int) (high:Int):Option (Int×Unit):=some (zc n1 low high)
abbrev zc_e:Entry:={ f:=44,args:=.pair t3 (.pair t3 (.pair t3 .unit)),rS:=.pair t3 .unit,m:=λ x=>zc_M x.1 x.2.1 x.2.2.1 }
theorem ySu:FnOK Tryz.prog zc_e:=fF (hm:=by intro x;show some (zc x.1 x.2.1 x.2.2.1)=zc_m 0 x.1 x.2.1 x.2.2.1;unfold zc_m zc;first|rfl|simp only[ym]) 0 Tryz.f44 (λ n x=>zc_m n x.1 x.2.1 x.2.2.1) [] eNil
def yJg(n:Nat)(r0:List (Nat×Nat)->List (Nat×Nat)->Int->Option (Bool×Unit))(ax:List (Nat×Nat))(az:List (Nat×Nat))(aL:Int):Option (Bool×Unit):=
  (bif decide (aL < (↑ax.length:Int))then ((idx ax aL).bind λ v1=>((idx az aL).bind λ v2=>(bif !y9r FloatKind.f32 v1 v2 then some (Bool.false,())else r0 ax az (i64.wrap (aL+1)))))else some (Bool.true,()))
def yC0(n:Nat)(k:Nat)(ax:List (Nat×Nat))(az:List (Nat×Nat))(aL:Int):Option (Bool×Unit):=
  iter (λ r y=>yJg n (λ ax az aL=>r ((ax,(az,(aL,()))),((),()))) y.1.1 y.1.2.1 y.1.2.2.1) k ((ax,(az,(aL,()))),((),()))
def zx_m(n:Nat)(a:List (Nat×Nat))(b:List (Nat×Nat)):Option (Bool×Unit):=
  (bif (↑a.length:Int) != (↑b.length:Int)then some (Bool.false,())else (yC0 n n (a) (b) ((0:Int))))
def yRM(ax:List (Nat×Nat))(az:List (Nat×Nat))(aL:Int)(v1:Nat×Nat):Option ((Bool×Unit)⊕Unit):=
  ((idx az aL).bind λ v2=>(bif !y9r FloatKind.f32 v1 v2 then (some (Sum.inl ((Bool.false,()))))else (some (Sum.inr ()))))
def yQu(ax:List (Nat×Nat))(az:List (Nat×Nat)):Option (Bool×Unit):=
  (some ((Bool.true,())))
theorem yIR(n:Nat)(hn:big<=n)(ax:List (Nat×Nat))(az:List (Nat×Nat))(hx:List.length (ax) < lenMax):LeF some (yH (λ ar aX ae=>yRM ax az ar aX) (λ ae=>yQu ax az) 0 (ax) ()) (yC0 n n ax az 0):=by
  refine yK (f:=some) (W:=λ aQ ar ae=>yC0 n aQ ax az ar) (λ aQ ar ae=>?_) hx () n (by unfold big at hn;unfold lenMax at hx;omega)
  show LeF _ _ (yJg n (yC0 n aQ) ax az ar)
  exact y4 (y8 λ v1=>(y8 λ v2=>(y4 (y5 rfl) (y5 rfl)))) (yl (y5 rfl))
def zx_M(a:List (Nat×Nat))(b:List (Nat×Nat)):Option (Bool×Unit):=
  (bif (↑a.length:Int) != (↑b.length:Int)then (some ((Bool.false,())))else (bif decide (List.length (a) < lenMax)then yH (λ ar aX ae=>yRM (a) (b) ar aX) (λ ae=>yQu (a) (b)) 0 (a) ()else none))
abbrev zx_e:Entry:={ f:=53,args:=.pair t79 (.pair t79 .unit),rS:=.pair t4 .unit,m:=λ x=>zx_M x.1 x.2.1 }
theorem yUa:FnOK Tryz.prog zx_e:=fB Tryz.f53 (λ n x=>zx_m n x.1 x.2.1) [[0,1,5]] eNil λ n hn x=>(y4 (y5 rfl) (yL λ hx=>by apply yIR n hn;exact hx))
def yPJ(n:Nat)(r1:Q1):Option ((Q1)×Unit):=
  (bif decide ((0:Nat)+r1.2.2.1.length<=memMax)then (bif decide ((0:Nat)+r1.2.2.2.1.length<=memMax)then some ((r1.1,r1.2.1,r1.2.2.1,r1.2.2.2.1,()),())else none)else none)
def yPP(r1:Q1):Option ((Q1)×Unit):=yPJ 0 r1
abbrev z0C_e:Entry:={ f:=56,args:=.pair t94 .unit,rS:=.pair t60 .unit,m:=λ x=>yPP x.1 }
theorem ySV:FnOK Tryz.prog z0C_e:=fF (mu:=[7,11]) 0 Tryz.f56 (λ n x=>yPJ n x.1) [] eNil
def yM6(n:Nat)(r0:List (List Int)->List (List Int)->Int->Option (Bool×Unit))(ax:List (List Int))(az:List (List Int))(aL:Int):Option (Bool×Unit):=
  (bif decide (aL < (↑ax.length:Int))then ((idx ax aL).bind λ v1=>((idx az aL).bind λ v2=>(bif !eqV (Ty.arr (2:Nat) (Ty.int i64)) v1 v2 then some (Bool.false,())else r0 ax az (i64.wrap (aL+1)))))else some (Bool.true,()))
def yBp(n:Nat)(k:Nat)(ax:List (List Int))(az:List (List Int))(aL:Int):Option (Bool×Unit):=
  iter (λ r y=>yM6 n (λ ax az aL=>r ((ax,(az,(aL,()))),((),()))) y.1.1 y.1.2.1 y.1.2.2.1) k ((ax,(az,(aL,()))),((),()))
def zp_m(n:Nat)(a:List (List Int))(b:List (List Int)):Option (Bool×Unit):=
  (bif (↑a.length:Int) != (↑b.length:Int)then some (Bool.false,())else (yBp n n (a) (b) ((0:Int))))
def ySM(ax:List (List Int))(az:List (List Int))(aL:Int)(v1:List Int):Option ((Bool×Unit)⊕Unit):=
  ((idx az aL).bind λ v2=>(bif !eqV (Ty.arr (2:Nat) (Ty.int i64)) v1 v2 then (some (Sum.inl ((Bool.false,()))))else (some (Sum.inr ()))))
def yRA(ax:List (List Int))(az:List (List Int)):Option (Bool×Unit):=
  (some ((Bool.true,())))
theorem yIX(n:Nat)(hn:big<=n)(ax:List (List Int))(az:List (List Int))(hx:List.length (ax) < lenMax):LeF some (yH (λ ar aX ae=>ySM ax az ar aX) (λ ae=>yRA ax az) 0 (ax) ()) (yBp n n ax az 0):=by
  refine yK (f:=some) (W:=λ aQ ar ae=>yBp n aQ ax az ar) (λ aQ ar ae=>?_) hx () n (by unfold big at hn;unfold lenMax at hx;omega)
  show LeF _ _ (yM6 n (yBp n aQ) ax az ar)
  exact y4 (y8 λ v1=>(y8 λ v2=>(y4 (y5 rfl) (y5 rfl)))) (yl (y5 rfl))
def zp_M(a:List (List Int))(b:List (List Int)):Option (Bool×Unit):=
  (bif (↑a.length:Int) != (↑b.length:Int)then (some ((Bool.false,())))else (bif decide (List.length (a) < lenMax)then yH (λ ar aX ae=>ySM (a) (b) ar aX) (λ ae=>yRA (a) (b)) 0 (a) ()else none))
abbrev zp_e:Entry:={ f:=66,args:=.pair t100 (.pair t100 .unit),rS:=.pair t4 .unit,m:=λ x=>zp_M x.1 x.2.1 }
theorem yTK:FnOK Tryz.prog zp_e:=fB Tryz.f66 (λ n x=>zp_m n x.1 x.2.1) [[0,1,5]] eNil λ n hn x=>(y4 (y5 rfl) (yL λ hx=>by apply yIX n hn;exact hx))
def yLZ(n:Nat)(r0:List Int->List Int->Int->Option (Bool×Unit))(ax:List Int)(az:List Int)(aL:Int):Option (Bool×Unit):=
  (bif decide (aL < (↑ax.length:Int))then ((idx ax aL).bind λ v1=>((idx az aL).bind λ v2=>(bif v1 != v2 then some (Bool.false,())else r0 ax az (i64.wrap (aL+1)))))else some (Bool.true,()))
def yAc(n:Nat)(k:Nat)(ax:List Int)(az:List Int)(aL:Int):Option (Bool×Unit):=
  iter (λ r y=>yLZ n (λ ax az aL=>r ((ax,(az,(aL,()))),((),()))) y.1.1 y.1.2.1 y.1.2.2.1) k ((ax,(az,(aL,()))),((),()))
def zv_m(n:Nat)(a:List Int)(b:List Int):Option (Bool×Unit):=
  (bif (↑a.length:Int) != (↑b.length:Int)then some (Bool.false,())else (yAc n n (a) (b) ((0:Int))))
def yRd(ax:List Int)(az:List Int)(aL:Int)(v1:Int):Option ((Bool×Unit)⊕Unit):=
  ((idx az aL).bind λ v2=>(bif v1 != v2 then (some (Sum.inl ((Bool.false,()))))else (some (Sum.inr ()))))
def yRn(ax:List Int)(az:List Int):Option (Bool×Unit):=
  (some ((Bool.true,())))
theorem yIk(n:Nat)(hn:big<=n)(ax:List Int)(az:List Int)(hx:List.length (ax) < lenMax):LeF some (yH (λ ar aX ae=>yRd ax az ar aX) (λ ae=>yRn ax az) 0 (ax) ()) (yAc n n ax az 0):=by
  refine yK (f:=some) (W:=λ aQ ar ae=>yAc n aQ ax az ar) (λ aQ ar ae=>?_) hx () n (by unfold big at hn;unfold lenMax at hx;omega)
  show LeF _ _ (yLZ n (yAc n aQ) ax az ar)
  exact y4 (y8 λ v1=>(y8 λ v2=>(y4 (y5 rfl) (y5 rfl)))) (yl (y5 rfl))
def zv_M(a:List Int)(b:List Int):Option (Bool×Unit):=
  (bif (↑a.length:Int) != (↑b.length:Int)then (some ((Bool.false,())))else (bif decide (List.length (a) < lenMax)then yH (λ ar aX ae=>yRd (a) (b) ar aX) (λ ae=>yRn (a) (b)) 0 (a) ()else none))
abbrev zv_e:Entry:={ f:=75,args:=.pair t41 (.pair t41 .unit),rS:=.pair t4 .unit,m:=λ x=>zv_M x.1 x.2.1 }
theorem yUN:FnOK Tryz.prog zv_e:=fB Tryz.f75 (λ n x=>zv_m n x.1 x.2.1) [[0,1,5]] eNil λ n hn x=>(y4 (y5 rfl) (yL λ hx=>by apply yIk n hn;exact hx))
def zf_m(n:Nat)(x1:Nat):Option (Int×Unit):=
  ((y1n FloatKind.f32 x1 FloatKind.f64).bind λ v0=>((yk FloatKind.f64 (yu BinOp.mul FloatKind.f64 (nat_lit 4625196817309499392) v0) i64).bind λ v1=>some (v1,())))
def zf_M(x1:Nat):Option (Int×Unit):=zf_m 0 x1
abbrev zf_e:Entry:={ f:=78,args:=.pair t61 .unit,rS:=.pair t3 .unit,m:=λ x=>zf_M x.1 }
theorem yTU:FnOK Tryz.prog zf_e:=fF 0 Tryz.f78 (λ n x=>zf_m n x.1) [] eNil
def yQQ(n:Nat)(a:Q4)(b:Q4):Option ((Q4)×Unit):=
  some ((i64.wrap (a.1 - b.1),i64.wrap (a.2.1 - b.2.1),()),())
def z0k(a:Q4)(b:Q4):((Q4)×Unit):=
  ((i64.wrap (a.1 - b.1),i64.wrap (a.2.1 - b.2.1),()),())
abbrev yTB (a:Q4) (b:Q4):Option ((Q4)×Unit):=some (z0k a b)
abbrev z0k_e:Entry:={ f:=79,args:=.pair t57 (.pair t57 .unit),rS:=.pair t57 .unit,m:=λ x=>yTB x.1 x.2.1 }
theorem ySb:FnOK Tryz.prog z0k_e:=fF (hm:=by intro x;show some (z0k x.1 x.2.1)=yQQ 0 x.1 x.2.1;unfold yQQ z0k;first|rfl|simp only[ym]) 0 Tryz.f79 (λ n x=>yQQ n x.1 x.2.1) [] eNil
def yQ7(n:Nat)(a:Q4)(b:Q4):Option ((Q4)×Unit):=
  some ((i64.wrap (i64.wrap (a.1 * b.1) - i64.wrap (a.2.1 * b.2.1)),i64.wrap (i64.wrap (a.1 * b.2.1)+i64.wrap (a.2.1 * b.1)),()),())
def z0R(a:Q4)(b:Q4):((Q4)×Unit):=
  ((i64.wrap (i64.wrap (a.1 * b.1) - i64.wrap (a.2.1 * b.2.1)),i64.wrap (i64.wrap (a.1 * b.2.1)+i64.wrap (a.2.1 * b.1)),()),())
abbrev yV4 (a:Q4) (b:Q4):Option ((Q4)×Unit):=some (z0R a b)
abbrev z0R_e:Entry:={ f:=80,args:=.pair t57 (.pair t57 .unit),rS:=.pair t57 .unit,m:=λ x=>yV4 x.1 x.2.1 }
theorem yRy:FnOK Tryz.prog z0R_e:=fF (hm:=by intro x;show some (z0R x.1 x.2.1)=yQ7 0 x.1 x.2.1;unfold yQ7 z0R;first|rfl|simp only[ym]) 0 Tryz.f80 (λ n x=>yQ7 n x.1 x.2.1) [] eNil
def yPV(n:Nat)(a:Q4)(b:Q4):Option ((Q4)×Unit):=
  some ((i64.wrap (a.1+b.1),i64.wrap (a.2.1+b.2.1),()),())
def z0l(a:Q4)(b:Q4):((Q4)×Unit):=
  ((i64.wrap (a.1+b.1),i64.wrap (a.2.1+b.2.1),()),())
abbrev yTo (a:Q4) (b:Q4):Option ((Q4)×Unit):=some (z0l a b)
abbrev z0l_e:Entry:={ f:=82,args:=.pair t57 (.pair t57 .unit),rS:=.pair t57 .unit,m:=λ x=>yTo x.1 x.2.1 }
theorem yQz:FnOK Tryz.prog z0l_e:=fF (hm:=by intro x;show some (z0l x.1 x.2.1)=yPV 0 x.1 x.2.1;unfold yPV z0l;first|rfl|simp only[ym]) 0 Tryz.f82 (λ n x=>yPV n x.1 x.2.1) [] eNil
def zn_m(n:Nat)(a:Q4):Option ((Q4)×Unit):=
  some ((a.1,i64.wrap ((0:Int) - a.2.1),()),())
def zn(a:Q4):((Q4)×Unit):=
  ((a.1,i64.wrap ((0:Int) - a.2.1),()),())
abbrev zn_M (a:Q4):Option ((Q4)×Unit):=some (zn a)
abbrev zn_e:Entry:={ f:=83,args:=.pair t57 .unit,rS:=.pair t57 .unit,m:=λ x=>zn_M x.1 }
theorem yUJ:FnOK Tryz.prog zn_e:=fF (hm:=by intro x;show some (zn x.1)=zn_m 0 x.1;unfold zn_m zn;first|rfl|simp only[ym]) 0 Tryz.f83 (λ n x=>zn_m n x.1) [] eNil
def yQh(n:Nat)(l:List (Q4)):Option (List (Q4)×Unit):=
  (bif decide ((0:Nat)+l.length<=memMax)then some (l,())else none)
def yQi(l:List (Q4)):Option (List (Q4)×Unit):=yQh 0 l
abbrev z05_e:Entry:={ f:=84,args:=.pair t23 .unit,rS:=.pair t23 .unit,m:=λ x=>yQi x.1 }
theorem yRE:FnOK Tryz.prog z05_e:=fF (mu:=[3]) 0 Tryz.f84 (λ n x=>yQh n x.1) [] eNil
def yPs(n:Nat)(gaps:List (Q4)):Option ((Q1)×Unit):=
  some (([(103:UInt8)],(0:Int),[nat_lit 1065353216,nat_lit 0,nat_lit 3212836864,nat_lit 0],gaps,()),())
def z0g(gaps:List (Q4)):((Q1)×Unit):=
  (([(103:UInt8)],(0:Int),[nat_lit 1065353216,nat_lit 0,nat_lit 3212836864,nat_lit 0],gaps,()),())
abbrev yUF (gaps:List (Q4)):Option ((Q1)×Unit):=some (z0g gaps)
abbrev z0g_e:Entry:={ f:=102,args:=.pair t58 .unit,rS:=.pair t60 .unit,m:=λ x=>yUF x.1 }
theorem yT9:FnOK Tryz.prog z0g_e:=fF (hm:=by intro x;show some (z0g x.1)=yPs 0 x.1;unfold yPs z0g;first|rfl|simp only[ym]) 0 Tryz.f102 (λ n x=>yPs n x.1) [] eNil
def yMn(n:Nat)(r0:List (Q3)->List UInt8->Int->Option (List (Q3)×Unit))(bu:List (Q3))(str1__0:List UInt8)(pos1__0:Int):Option (List (Q3)×Unit):=
  (bif decide (pos1__0 < (↑str1__0.length:Int))then (bif (yf str1__0 pos1__0).1==72 then (bif decide (bu.length+(1:Nat)<=memMax)then r0 (bu++[(y44 (yf str1__0 pos1__0).1,(1:Int),(2:Int),())]) str1__0 (yf str1__0 pos1__0).2 else none)else (bif (yf str1__0 pos1__0).1==81 then (bif decide (bu.length+(1:Nat)<=memMax)then r0 (bu++[(y44 (yf str1__0 pos1__0).1,(1:Int),(1:Int),())]) str1__0 (yf str1__0 pos1__0).2 else none)else (bif (yf str1__0 pos1__0).1==82 then (bif decide (bu.length+(1:Nat)<=memMax)then r0 (bu++[(y44 (yf str1__0 pos1__0).1,(1:Int),(3:Int),())]) str1__0 (yf str1__0 pos1__0).2 else none)else (bif decide (bu.length+(1:Nat)<=memMax)then r0 (bu++[(y44 (yf str1__0 pos1__0).1,(1:Int),(0:Int),())]) str1__0 (yf str1__0 pos1__0).2 else none))))else some (bu,()))
def yMx(n:Nat)(k:Nat)(bu:List (Q3))(str1__0:List UInt8)(pos1__0:Int):Option (List (Q3)×Unit):=
  iter (λ r y=>yMn n (λ bu str1__0 pos1__0=>r ((),((bu,((str1__0,pos1__0),())),()))) y.2.1.1 y.2.1.2.1.1 y.2.1.2.1.2) k ((),((bu,((str1__0,pos1__0),())),()))
def yS4(n:Nat)(names:List UInt8):Option (List (Q3)×Unit):=
  (yMx n n ([]) (names) ((0:Int)))
def y6z(names:List UInt8):Option (List (Q3)×Unit):=yS4 1000 names
abbrev z0P_e:Entry:={ f:=103,args:=.pair t9 .unit,rS:=.pair t31 .unit,m:=λ x=>y6z x.1 }
theorem yRL:FnOK Tryz.prog z0P_e:=fF (mu:=[3]) 1000 Tryz.f103 (λ n x=>yS4 n x.1) [[3,8]] eNil
def yH2(n:Nat)(r0:List Int->Int->Int->Option (Int×Unit))(bB:List Int)(bl:Int)(aT:Int):Option (Int×Unit):=
  (bif decide (aT < bl)then ((idx bB aT).bind λ v1=>(bif v1 != 0 then some (v1,())else r0 bB bl (i64.wrap (aT+1))))else some ((0:Int),()))
def y7a(n:Nat)(k:Nat)(bB:List Int)(bl:Int)(aT:Int):Option (Int×Unit):=
  iter (λ r y=>yH2 n (λ bB bl aT=>r ((bB,(bl,(aT,()))),((),()))) y.1.1 y.1.2.1 y.1.2.2.1) k ((bB,(bl,(aT,()))),((),()))
def yTv(n:Nat)(l:List Int):Option (Int×Unit):=
  (y7a n n (l) ((↑l.length:Int)) ((0:Int)))
def yKG(bB:List Int)(aT:Int)(v1:Int):Option ((Int×Unit)⊕Unit):=
  (bif v1 != 0 then (some (Sum.inl ((v1,()))))else (some (Sum.inr ())))
def yKC(bB:List Int):Option (Int×Unit):=
  (some (((0:Int),())))
theorem yEu(n:Nat)(hn:big<=n)(bB:List Int)(hx:List.length (bB) < lenMax):LeF some (yH (λ ar aX ae=>yKG bB ar aX) (λ ae=>yKC bB) 0 (bB) ()) (y7a n n bB (List.length (bB):Int) 0):=by
  refine yK (f:=some) (W:=λ aQ ar ae=>y7a n aQ bB (List.length (bB):Int) ar) (λ aQ ar ae=>?_) hx () n (by unfold big at hn;unfold lenMax at hx;omega)
  show LeF _ _ (yH2 n (y7a n aQ) bB (List.length (bB):Int) ar)
  exact y4 (y8 λ v1=>(y4 (y5 rfl) (y5 rfl))) (yl (y5 rfl))
def y2h(l:List Int):Option (Int×Unit):=
  (bif decide (List.length (l) < lenMax)then yH (λ ar aX ae=>yKG (l) ar aX) (λ ae=>yKC (l)) 0 (l) ()else none)
abbrev z0t_e:Entry:={ f:=104,args:=.pair t175 .unit,rS:=.pair t28 .unit,m:=λ x=>y2h x.1 }
theorem y4z:FnOK Tryz.prog z0t_e:=fB Tryz.f104 (λ n x=>yTv n x.1) [[5,6,7]] eNil λ n hn x=>(yL λ hx=>by apply yEu n hn;exact hx)
def yR2(n:Nat)(a:Int)(b:Int):Option (Int×Unit):=
  (bif i64.wrap ((2:Int) * b)==0 then none else (bif i64.wrap ((2:Int) * b)==0 then none else (bif decide ((i64.wrap (i64.wrap ((2:Int) * a)+b)).tmod (i64.wrap ((2:Int) * b)) < 0)then some (i64.wrap (i64.wrap ((i64.wrap (i64.wrap ((2:Int) * a)+b)).tdiv (i64.wrap ((2:Int) * b))) - (1:Int)),())else some (i64.wrap ((i64.wrap (i64.wrap ((2:Int) * a)+b)).tdiv (i64.wrap ((2:Int) * b))),()))))
def yPo(a:Int)(b:Int):Option (Int×Unit):=yR2 0 a b
abbrev z0K_e:Entry:={ f:=107,args:=.pair t3 (.pair t3 .unit),rS:=.pair t3 .unit,m:=λ x=>yPo x.1 x.2.1 }
theorem ySA:FnOK Tryz.prog z0K_e:=fF 0 Tryz.f107 (λ n x=>yR2 n x.1 x.2.1) [] eNil
def yQO(n:Nat)(n1:Int):Option (Int×Unit):=
  some (if i64.wrap ((0:Int) - n1) > n1 then i64.wrap ((0:Int) - n1)else n1,())
def z08(n1:Int):(Int×Unit):=
  (if i64.wrap ((0:Int) - n1) > n1 then i64.wrap ((0:Int) - n1)else n1,())
abbrev yUO (n1:Int):Option (Int×Unit):=some (z08 n1)
abbrev z08_e:Entry:={ f:=108,args:=.pair t3 .unit,rS:=.pair t3 .unit,m:=λ x=>yUO x.1 }
theorem yCZ:FnOK Tryz.prog z08_e:=fF (hm:=by intro x;show some (z08 x.1)=yQO 0 x.1;unfold yQO z08;first|rfl|simp only[ym]) 0 Tryz.f108 (λ n x=>yQO n x.1) [] eNil
def yP7(n:Nat)(holds:Bool)(e:Int):Option (Int×Unit):=
  (bif holds then some (e,())else some ((0:Int),()))
def z18(holds:Bool)(e:Int):(Int×Unit):=
  (bif holds then (e,())else ((0:Int),()))
abbrev yUI (holds:Bool) (e:Int):Option (Int×Unit):=some (z18 holds e)
abbrev z18_e:Entry:={ f:=113,args:=.pair t4 (.pair t28 .unit),rS:=.pair t28 .unit,m:=λ x=>yUI x.1 x.2.1 }
theorem y6u:FnOK Tryz.prog z18_e:=fF (hm:=by intro x;show some (z18 x.1 x.2.1)=yP7 0 x.1 x.2.1;unfold yP7 z18;first|rfl|simp only[ym]) 0 Tryz.f113 (λ n x=>yP7 n x.1 x.2.1) [] eNil
def yLH(n:Nat)(r0:((Q4)×Unit->Option (Int×Unit))->List (Q4)->Int->Int->List Int->Option (List Int×Unit))(ai:(Q4)×Unit->Option (Int×Unit))(af:List (Q4))(au:Int)(aq:Int)(ak:List Int):Option (List Int×Unit):=
  (bif decide (aq < au)then ((idx af aq).bind λ v1=>((ai ((v1.1,v1.2.1,()),())).bind λ v2=>(bif decide (ak.length+(1:Nat)<=memMax)then r0 ai af au (i64.wrap (aq+1)) (ak++[v2.1])else none)))else some (ak,()))
def yBH(n:Nat)(k:Nat)(ai:(Q4)×Unit->Option (Int×Unit))(af:List (Q4))(au:Int)(aq:Int)(ak:List Int):Option (List Int×Unit):=
  iter (λ r y=>yLH n (λ ai af au aq ak=>r ((ai,(af,(au,(aq,())))),((ak,()),()))) y.1.1 y.1.2.1 y.1.2.2.1 y.1.2.2.2.1 y.2.1.1) k ((ai,(af,(au,(aq,())))),((ak,()),()))
def zF_m(n:Nat)(l:List (Q4))(of:(Q4)×Unit->Option (Int×Unit)):Option (List Int×Unit):=
  (yBH n n (of) (l) ((↑l.length:Int)) ((0:Int)) ([]))
def yPD(ai:(Q4)×Unit->Option (Int×Unit))(af:List (Q4))(aq:Int)(v1:Q4)(ak:List Int):Option ((List Int×Unit)⊕(List Int)):=
  ((ai ((v1.1,v1.2.1,()),())).bind λ v2=>(bif decide (ak.length+(1:Nat)<=memMax)then (some (Sum.inr (ak++[v2.1])))else none))
def yRJ(ai:(Q4)×Unit->Option (Int×Unit))(af:List (Q4))(ak:List Int):Option (List Int×Unit):=
  (some ((ak,())))
theorem yIi(n:Nat)(hn:big<=n)(ai:(Q4)×Unit->Option (Int×Unit))(af:List (Q4))(ak:List Int)(hx:List.length (af) < lenMax):LeF some (yH (λ ar aX ae=>yPD ai af ar aX ae) (λ ae=>yRJ ai af ae) 0 (af) ak) (yBH n n ai af (List.length (af):Int) 0 ak):=by
  refine yK (f:=some) (W:=λ aQ ar ae=>yBH n aQ ai af (List.length (af):Int) ar ae) (λ aQ ar ae=>?_) hx ak n (by unfold big at hn;unfold lenMax at hx;omega)
  show LeF _ _ (yLH n (yBH n aQ) ai af (List.length (af):Int) ar ae)
  exact y4 (y8 λ v1=>(y8 λ v2=>(y4 (y5 rfl) y02))) (yl (y5 rfl))
def zF_M(l:List (Q4))(of:(Q4)×Unit->Option (Int×Unit)):Option (List Int×Unit):=
  (bif decide (List.length (l) < lenMax)then yH (λ ar aX ae=>yPD (of) (l) ar aX ae) (λ ae=>yRJ (of) (l) ae) 0 (l) ([])else none)
abbrev zF_e:Entry:={ f:=115,args:=.pair t23 (.pair t177 .unit),rS:=.pair t175 .unit,m:=λ x=>zF_M x.1 x.2.1 }
theorem ySc:FnOK Tryz.prog zF_e:=fB (mu:=[5]) Tryz.f115 (λ n x=>zF_m n x.1 x.2.1) [[1,5,8,9,10]] eNil λ n hn x=>(yL λ hx=>by apply yIi n hn;exact hx)
def yQY(n:Nat)(a:Q4)(b:Q4):Option ((Q4)×Unit):=
  some ((i64.wrap (i64.wrap (a.1 * b.1) - i64.wrap (a.2.1 * b.2.1)),i64.wrap (i64.wrap (a.1 * b.2.1)+i64.wrap (a.2.1 * b.1)),()),())
def z0z(a:Q4)(b:Q4):((Q4)×Unit):=
  ((i64.wrap (i64.wrap (a.1 * b.1) - i64.wrap (a.2.1 * b.2.1)),i64.wrap (i64.wrap (a.1 * b.2.1)+i64.wrap (a.2.1 * b.1)),()),())
abbrev yTN (a:Q4) (b:Q4):Option ((Q4)×Unit):=some (z0z a b)
abbrev z0z_e:Entry:={ f:=125,args:=.pair t57 (.pair t57 .unit),rS:=.pair t57 .unit,m:=λ x=>yTN x.1 x.2.1 }
theorem yFy:FnOK Tryz.prog z0z_e:=fF (hm:=by intro x;show some (z0z x.1 x.2.1)=yQY 0 x.1 x.2.1;unfold yQY z0z;first|rfl|simp only[ym]) 0 Tryz.f125 (λ n x=>yQY n x.1 x.2.1) [] eNil
def yPK(n:Nat)(a:Q4):Option ((Q4)×Unit):=
  some ((a.1,i64.wrap ((0:Int) - a.2.1),()),())
def z01(a:Q4):((Q4)×Unit):=
  ((a.1,i64.wrap ((0:Int) - a.2.1),()),())
abbrev yTD (a:Q4):Option ((Q4)×Unit):=some (z01 a)
abbrev z01_e:Entry:={ f:=126,args:=.pair t57 .unit,rS:=.pair t57 .unit,m:=λ x=>yTD x.1 }
theorem yLf:FnOK Tryz.prog z01_e:=fF (hm:=by intro x;show some (z01 x.1)=yPK 0 x.1;unfold yPK z01;first|rfl|simp only[ym]) 0 Tryz.f126 (λ n x=>yPK n x.1) [] eNil
def yKA(n:Nat)(r0:((Q3)×Unit->Option ((Q3)×Unit))->List (Q3)->Int->Int->List (Q3)->Option (List (Q3)×Unit))(ai:(Q3)×Unit->Option ((Q3)×Unit))(af:List (Q3))(au:Int)(aq:Int)(ak:List (Q3)):Option (List (Q3)×Unit):=
  (bif decide (aq < au)then ((idx af aq).bind λ v1=>((ai ((v1.1,v1.2.1,v1.2.2.1,()),())).bind λ v2=>(bif decide (ak.length+(1:Nat)<=memMax)then r0 ai af au (i64.wrap (aq+1)) (ak++[v2.1])else none)))else some (ak,()))
def yBY(n:Nat)(k:Nat)(ai:(Q3)×Unit->Option ((Q3)×Unit))(af:List (Q3))(au:Int)(aq:Int)(ak:List (Q3)):Option (List (Q3)×Unit):=
  iter (λ r y=>yKA n (λ ai af au aq ak=>r ((ai,(af,(au,(aq,())))),((ak,()),()))) y.1.1 y.1.2.1 y.1.2.2.1 y.1.2.2.2.1 y.2.1.1) k ((ai,(af,(au,(aq,())))),((ak,()),()))
def z7_m(n:Nat)(l:List (Q3))(of:(Q3)×Unit->Option ((Q3)×Unit)):Option (List (Q3)×Unit):=
  (yBY n n (of) (l) ((↑l.length:Int)) ((0:Int)) ([]))
def yQC(ai:(Q3)×Unit->Option ((Q3)×Unit))(af:List (Q3))(aq:Int)(v1:Q3)(ak:List (Q3)):Option ((List (Q3)×Unit)⊕(List (Q3))):=
  ((ai ((v1.1,v1.2.1,v1.2.2.1,()),())).bind λ v2=>(bif decide (ak.length+(1:Nat)<=memMax)then (some (Sum.inr (ak++[v2.1])))else none))
def yT7(ai:(Q3)×Unit->Option ((Q3)×Unit))(af:List (Q3))(ak:List (Q3)):Option (List (Q3)×Unit):=
  (some ((ak,())))
theorem yIo(n:Nat)(hn:big<=n)(ai:(Q3)×Unit->Option ((Q3)×Unit))(af:List (Q3))(ak:List (Q3))(hx:List.length (af) < lenMax):LeF some (yH (λ ar aX ae=>yQC ai af ar aX ae) (λ ae=>yT7 ai af ae) 0 (af) ak) (yBY n n ai af (List.length (af):Int) 0 ak):=by
  refine yK (f:=some) (W:=λ aQ ar ae=>yBY n aQ ai af (List.length (af):Int) ar ae) (λ aQ ar ae=>?_) hx ak n (by unfold big at hn;unfold lenMax at hx;omega)
  show LeF _ _ (yKA n (yBY n aQ) ai af (List.length (af):Int) ar ae)
  exact y4 (y8 λ v1=>(y8 λ v2=>(y4 (y5 rfl) y02))) (yl (y5 rfl))
def z7_M(l:List (Q3))(of:(Q3)×Unit->Option ((Q3)×Unit)):Option (List (Q3)×Unit):=
  (bif decide (List.length (l) < lenMax)then yH (λ ar aX ae=>yQC (of) (l) ar aX ae) (λ ae=>yT7 (of) (l) ae) 0 (l) ([])else none)
abbrev z7_e:Entry:={ f:=130,args:=.pair t31 (.pair t192 .unit),rS:=.pair t31 .unit,m:=λ x=>z7_M x.1 x.2.1 }
theorem yTQ:FnOK Tryz.prog z7_e:=fB (mu:=[5]) Tryz.f130 (λ n x=>z7_m n x.1 x.2.1) [[1,5,8,9,10]] eNil λ n hn x=>(yL λ hx=>by apply yIo n hn;exact hx)
def yLz(n:Nat)(r0:((Q4)×Unit->Option ((Q4)×Unit))->List (Q4)->Int->Int->List (Q4)->Option (List (Q4)×Unit))(ai:(Q4)×Unit->Option ((Q4)×Unit))(af:List (Q4))(au:Int)(aq:Int)(ak:List (Q4)):Option (List (Q4)×Unit):=
  (bif decide (aq < au)then ((idx af aq).bind λ v1=>((ai ((v1.1,v1.2.1,()),())).bind λ v2=>(bif decide (ak.length+(1:Nat)<=memMax)then r0 ai af au (i64.wrap (aq+1)) (ak++[v2.1])else none)))else some (ak,()))
def yBI(n:Nat)(k:Nat)(ai:(Q4)×Unit->Option ((Q4)×Unit))(af:List (Q4))(au:Int)(aq:Int)(ak:List (Q4)):Option (List (Q4)×Unit):=
  iter (λ r y=>yLz n (λ ai af au aq ak=>r ((ai,(af,(au,(aq,())))),((ak,()),()))) y.1.1 y.1.2.1 y.1.2.2.1 y.1.2.2.2.1 y.2.1.1) k ((ai,(af,(au,(aq,())))),((ak,()),()))
def zG_m(n:Nat)(l:List (Q4))(of:(Q4)×Unit->Option ((Q4)×Unit)):Option (List (Q4)×Unit):=
  (yBI n n (of) (l) ((↑l.length:Int)) ((0:Int)) ([]))
def yPI(ai:(Q4)×Unit->Option ((Q4)×Unit))(af:List (Q4))(aq:Int)(v1:Q4)(ak:List (Q4)):Option ((List (Q4)×Unit)⊕(List (Q4))):=
  ((ai ((v1.1,v1.2.1,()),())).bind λ v2=>(bif decide (ak.length+(1:Nat)<=memMax)then (some (Sum.inr (ak++[v2.1])))else none))
def yRT(ai:(Q4)×Unit->Option ((Q4)×Unit))(af:List (Q4))(ak:List (Q4)):Option (List (Q4)×Unit):=
  (some ((ak,())))
theorem yHv(n:Nat)(hn:big<=n)(ai:(Q4)×Unit->Option ((Q4)×Unit))(af:List (Q4))(ak:List (Q4))(hx:List.length (af) < lenMax):LeF some (yH (λ ar aX ae=>yPI ai af ar aX ae) (λ ae=>yRT ai af ae) 0 (af) ak) (yBI n n ai af (List.length (af):Int) 0 ak):=by
  refine yK (f:=some) (W:=λ aQ ar ae=>yBI n aQ ai af (List.length (af):Int) ar ae) (λ aQ ar ae=>?_) hx ak n (by unfold big at hn;unfold lenMax at hx;omega)
  show LeF _ _ (yLz n (yBI n aQ) ai af (List.length (af):Int) ar ae)
  exact y4 (y8 λ v1=>(y8 λ v2=>(y4 (y5 rfl) y02))) (yl (y5 rfl))
def zG_M(l:List (Q4))(of:(Q4)×Unit->Option ((Q4)×Unit)):Option (List (Q4)×Unit):=
  (bif decide (List.length (l) < lenMax)then yH (λ ar aX ae=>yPI (of) (l) ar aX ae) (λ ae=>yRT (of) (l) ae) 0 (l) ([])else none)
abbrev zG_e:Entry:={ f:=132,args:=.pair t23 (.pair t129 .unit),rS:=.pair t23 .unit,m:=λ x=>zG_M x.1 x.2.1 }
theorem yTI:FnOK Tryz.prog zG_e:=fB (mu:=[5]) Tryz.f132 (λ n x=>zG_m n x.1 x.2.1) [[1,5,8,9,10]] eNil λ n hn x=>(yL λ hx=>by apply yHv n hn;exact hx)
def yPy(n:Nat)(a:Q4)(n1:Int):Option ((Q4)×Unit):=
  some ((i64.wrap (n1 * a.1),i64.wrap (n1 * a.2.1),()),())
def z0a(a:Q4)(n1:Int):((Q4)×Unit):=
  ((i64.wrap (n1 * a.1),i64.wrap (n1 * a.2.1),()),())
abbrev yTH (a:Q4) (n1:Int):Option ((Q4)×Unit):=some (z0a a n1)
abbrev z0a_e:Entry:={ f:=134,args:=.pair t57 (.pair t3 .unit),rS:=.pair t57 .unit,m:=λ x=>yTH x.1 x.2.1 }
theorem yLt:FnOK Tryz.prog z0a_e:=fF (hm:=by intro x;show some (z0a x.1 x.2.1)=yPy 0 x.1 x.2.1;unfold yPy z0a;first|rfl|simp only[ym]) 0 Tryz.f134 (λ n x=>yPy n x.1 x.2.1) [] eNil
def yPU(n:Nat)(a:Q4)(b:Q4):Option ((Q4)×Unit):=
  some ((i64.wrap (a.1+b.1),i64.wrap (a.2.1+b.2.1),()),())
def z17(a:Q4)(b:Q4):((Q4)×Unit):=
  ((i64.wrap (a.1+b.1),i64.wrap (a.2.1+b.2.1),()),())
abbrev yTc (a:Q4) (b:Q4):Option ((Q4)×Unit):=some (z17 a b)
abbrev z17_e:Entry:={ f:=135,args:=.pair t57 (.pair t57 .unit),rS:=.pair t57 .unit,m:=λ x=>yTc x.1 x.2.1 }
theorem yGH:FnOK Tryz.prog z17_e:=fF (hm:=by intro x;show some (z17 x.1 x.2.1)=yPU 0 x.1 x.2.1;unfold yPU z17;first|rfl|simp only[ym]) 0 Tryz.f135 (λ n x=>yPU n x.1 x.2.1) [] eNil
def yJB(n:Nat)(r0:((Q4)×Unit->Option ((Nat×Nat)×Unit))->List (Q4)->Int->Int->List (Nat×Nat)->Option (List (Nat×Nat)×Unit))(ai:(Q4)×Unit->Option ((Nat×Nat)×Unit))(af:List (Q4))(au:Int)(aq:Int)(ak:List (Nat×Nat)):Option (List (Nat×Nat)×Unit):=
  (bif decide (aq < au)then ((idx af aq).bind λ v1=>((ai ((v1.1,v1.2.1,()),())).bind λ v2=>(bif decide (ak.length+(1:Nat)<=memMax)then r0 ai af au (i64.wrap (aq+1)) (ak++[v2.1])else none)))else some (ak,()))
def yBj(n:Nat)(k:Nat)(ai:(Q4)×Unit->Option ((Nat×Nat)×Unit))(af:List (Q4))(au:Int)(aq:Int)(ak:List (Nat×Nat)):Option (List (Nat×Nat)×Unit):=
  iter (λ r y=>yJB n (λ ai af au aq ak=>r ((ai,(af,(au,(aq,())))),((ak,()),()))) y.1.1 y.1.2.1 y.1.2.2.1 y.1.2.2.2.1 y.2.1.1) k ((ai,(af,(au,(aq,())))),((ak,()),()))
def zH_m(n:Nat)(l:List (Q4))(of:(Q4)×Unit->Option ((Nat×Nat)×Unit)):Option (List (Nat×Nat)×Unit):=
  (yBj n n (of) (l) ((↑l.length:Int)) ((0:Int)) ([]))
def ySZ(ai:(Q4)×Unit->Option ((Nat×Nat)×Unit))(af:List (Q4))(aq:Int)(v1:Q4)(ak:List (Nat×Nat)):Option ((List (Nat×Nat)×Unit)⊕(List (Nat×Nat))):=
  ((ai ((v1.1,v1.2.1,()),())).bind λ v2=>(bif decide (ak.length+(1:Nat)<=memMax)then (some (Sum.inr (ak++[v2.1])))else none))
def yRQ(ai:(Q4)×Unit->Option ((Nat×Nat)×Unit))(af:List (Q4))(ak:List (Nat×Nat)):Option (List (Nat×Nat)×Unit):=
  (some ((ak,())))
theorem yIH(n:Nat)(hn:big<=n)(ai:(Q4)×Unit->Option ((Nat×Nat)×Unit))(af:List (Q4))(ak:List (Nat×Nat))(hx:List.length (af) < lenMax):LeF some (yH (λ ar aX ae=>ySZ ai af ar aX ae) (λ ae=>yRQ ai af ae) 0 (af) ak) (yBj n n ai af (List.length (af):Int) 0 ak):=by
  refine yK (f:=some) (W:=λ aQ ar ae=>yBj n aQ ai af (List.length (af):Int) ar ae) (λ aQ ar ae=>?_) hx ak n (by unfold big at hn;unfold lenMax at hx;omega)
  show LeF _ _ (yJB n (yBj n aQ) ai af (List.length (af):Int) ar ae)
  exact y4 (y8 λ v1=>(y8 λ v2=>(y4 (y5 rfl) y02))) (yl (y5 rfl))
def zH_M(l:List (Q4))(of:(Q4)×Unit->Option ((Nat×Nat)×Unit)):Option (List (Nat×Nat)×Unit):=
  (bif decide (List.length (l) < lenMax)then yH (λ ar aX ae=>ySZ (of) (l) ar aX ae) (λ ae=>yRQ (of) (l) ae) 0 (l) ([])else none)
abbrev zH_e:Entry:={ f:=139,args:=.pair t23 (.pair t196 .unit),rS:=.pair t79 .unit,m:=λ x=>zH_M x.1 x.2.1 }
theorem yUG:FnOK Tryz.prog zH_e:=fB (mu:=[5]) Tryz.f139 (λ n x=>zH_m n x.1 x.2.1) [[1,5,8,9,10]] eNil λ n hn x=>(yL λ hx=>by apply yIH n hn;exact hx)
def yPT(n:Nat)(z:Q4)(p1:Nat×Nat):Option ((Nat×Nat)×Unit):=
  some ((yu BinOp.quo FloatKind.f32 (y0v FloatKind.f32 z.1) p1.1,yu BinOp.quo FloatKind.f32 (y0v FloatKind.f32 z.2.1) p1.1),())
def z0X(z:Q4)(p1:Nat×Nat):((Nat×Nat)×Unit):=
  ((yu BinOp.quo FloatKind.f32 (y0v FloatKind.f32 z.1) p1.1,yu BinOp.quo FloatKind.f32 (y0v FloatKind.f32 z.2.1) p1.1),())
abbrev yRN (z:Q4) (p1:Nat×Nat):Option ((Nat×Nat)×Unit):=some (z0X z p1)
abbrev z0X_e:Entry:={ f:=140,args:=.pair t57 (.pair (.ref t165) .unit),rS:=.pair t165 .unit,m:=λ x=>yRN x.1 x.2.1 }
theorem yRO:FnOK Tryz.prog z0X_e:=fF (hm:=by intro x;show some (z0X x.1 x.2.1)=yPT 0 x.1 x.2.1;unfold yPT z0X;first|rfl|simp only[ym]) 0 Tryz.f140 (λ n x=>yPT n x.1 x.2.1) [] eNil
def il124:Inl:={ f:=124,fn:=Tryz.f124,keep:=[],mU:=[],fz:=[] }
theorem y61:y4p Tryz.prog il124:=⟨by kernel_rfl,by kernel_rfl,λ e0 h=>by cases (show (none:Option LibK)=some e0 from h)⟩
def il195:Inl:={ f:=195,fn:=Tryz.f195,keep:=[[0,1,3,9,10,11],[0,1,3,4,5,9,10,11]],mU:=[],fz:=[] }
theorem y5K:y4p Tryz.prog il195:=⟨by kernel_rfl,by kernel_rfl,λ e0 h=>by cases (show (none:Option LibK)=some e0 from h)⟩
def y7y(n:Nat)(r0:Q1->List (Q4)->List Nat->Int->Int->Q1->Q1->Q1->Q1->List Int->Q1->Q1->Q1->Q1->Option (List Int×Unit))(j8:Q1)(j9:List (Q4))(j10:Int)(j11:Nat)(j12:List Nat)(j13:Int)(j14:Int)(j15:Q1)(j16:Q1)(j17:Q1)(j18:Q1)(j19:List Int)(j20:Q1)(j21:Q1)(j22:Q1)(j23:Q1):Option (List Int×Unit):=
  (bif decide ((↑j9.length:Int) > 0)then ((idx j9 (0:Int)).bind λ v24=>(bif decide (v24.1<=j10)then r0 j8 j9 j12 j13 (i64.wrap (j14+1)) j15 j16 j17 j18 j19 j20 j21 j22 j23 else ((yk FloatKind.f32 (yu BinOp.mul FloatKind.f32 j11 (nat_lit 1098907648)) i64).bind λ v29=>(bif decide (j19.length+(1:Nat)<=memMax)then r0 j8 j9 j12 j13 (i64.wrap (j14+1)) j15 j16 j17 j18 (j19++[i64.wrap (j8.2.1+j10)]) j20 j21 j22 j23 else none))))else ((yk FloatKind.f32 (yu BinOp.mul FloatKind.f32 j11 (nat_lit 1098907648)) i64).bind λ v30=>(bif decide (j19.length+(1:Nat)<=memMax)then r0 j8 j9 j12 j13 (i64.wrap (j14+1)) j15 j16 j17 j18 (j19++[i64.wrap (j8.2.1+j10)]) j20 j21 j22 j23 else none)))
def yFX(n:Nat)(r0:Q1->List (Q4)->List Nat->Int->Int->Q1->Q1->Q1->Q1->List Int->Q1->Q1->Q1->Q1->Option (List Int×Unit))(r2:Q1->List (Q4)->Int->Nat->List Nat->Int->Int->Q1->Q1->Q1->Q1->List Int->Q1->Q1->Q1->Q1->Option (List Int×Unit))(b8:Q1)(aj:List (Q4))(b9:Int)(bn:Nat)(aR:List Nat)(aG:Int)(aH:Int)(av:Q1)(aw:Q1)(aM:Q1)(be:Q1)(cw:List Int)(bf:Q1)(bg:Q1)(bD:Q1)(bE:Q1):Option (List Int×Unit):=
  (bif decide ((↑aj.length:Int) > 0)then ((idx aj (0:Int)).bind λ v3=>(bif decide (v3.2.1<=b9)then (bif decide ((0:Int)<=1) && decide ((1:Int)<=(↑aj.length:Int))then r2 b8 (List.drop (Int.toNat (1:Int)) aj) b9 bn aR aG aH av aw aM be cw bf bg bD bE else none)else (y7y n r0 (b8) (aj) (b9) (bn) (aR) (aG) (aH) (av) (aw) (aM) (be) (cw) (bf) (bg) (bD) (bE))))else (y7y n r0 (b8) (aj) (b9) (bn) (aR) (aG) (aH) (av) (aw) (aM) (be) (cw) (bf) (bg) (bD) (bE)))
def y78(n:Nat)(r0:Q1->List (Q4)->List Nat->Int->Int->Q1->Q1->Q1->Q1->List Int->Q1->Q1->Q1->Q1->Option (List Int×Unit))(k:Nat)(b8:Q1)(aj:List (Q4))(b9:Int)(bn:Nat)(aR:List Nat)(aG:Int)(aH:Int)(av:Q1)(aw:Q1)(aM:Q1)(be:Q1)(cw:List Int)(bf:Q1)(bg:Q1)(bD:Q1)(bE:Q1):Option (List Int×Unit):=
  iter (λ r y=>yFX n r0 (λ b8 aj b9 bn aR aG aH av aw aM be cw bf bg bD bE=>r ((b8,(aj,(b9,(bn,(aR,(aG,(aH,()))))))),(((av,(aw,(aM,((be,()),())))),((),(cw,()))),(bf,(bg,(bD,((bE,()),()))))))) y.1.1 y.1.2.1 y.1.2.2.1 y.1.2.2.2.1 y.1.2.2.2.2.1 y.1.2.2.2.2.2.1 y.1.2.2.2.2.2.2.1 y.2.1.1.1 y.2.1.1.2.1 y.2.1.1.2.2.1 y.2.1.1.2.2.2.1.1 y.2.1.2.2.1 y.2.2.1 y.2.2.2.1 y.2.2.2.2.1 y.2.2.2.2.2.1.1) k ((b8,(aj,(b9,(bn,(aR,(aG,(aH,()))))))),(((av,(aw,(aM,((be,()),())))),((),(cw,()))),(bf,(bg,(bD,((bE,()),()))))))
def yGr(n:Nat)(r0:Q1->List (Q4)->List Nat->Int->Int->Q1->Q1->Q1->Q1->List Int->Q1->Q1->Q1->Q1->Option (List Int×Unit))(aK:Q1)(ay:List (Q4))(au:List Nat)(aq:Int)(aJ:Int)(aA:Q1)(aB:Q1)(aY:Q1)(bv:Q1)(cB:List Int)(bw:Q1)(bx:Q1)(bF:Q1)(bU:Q1):Option (List Int×Unit):=
  (bif decide (aJ < aq)then ((idx au aJ).bind λ v1=>(y78 n r0 n (aK) (ay) (aJ) (v1) (au) (aq) (aJ) (aA) (aB) (aY) (bv) (cB) (bw) (bx) (bF) (bU)))else some (cB,()))
def y7F(n:Nat)(k:Nat)(aK:Q1)(ay:List (Q4))(au:List Nat)(aq:Int)(aJ:Int)(aA:Q1)(aB:Q1)(aY:Q1)(bv:Q1)(cB:List Int)(bw:Q1)(bx:Q1)(bF:Q1)(bU:Q1):Option (List Int×Unit):=
  iter (λ r y=>yGr n (λ aK ay au aq aJ aA aB aY bv cB bw bx bF bU=>r ((aK,(ay,(au,(aq,(aJ,()))))),(((aA,(aB,(aY,((bv,()),())))),((),(cB,()))),(bw,(bx,(bF,((bU,()),()))))))) y.1.1 y.1.2.1 y.1.2.2.1 y.1.2.2.2.1 y.1.2.2.2.2.1 y.2.1.1.1 y.2.1.1.2.1 y.2.1.1.2.2.1 y.2.1.1.2.2.2.1.1 y.2.1.2.2.1 y.2.2.1 y.2.2.2.1 y.2.2.2.2.1 y.2.2.2.2.2.1.1) k ((aK,(ay,(au,(aq,(aJ,()))))),(((aA,(aB,(aY,((bv,()),())))),((),(cB,()))),(bw,(bx,(bF,((bU,()),()))))))
def yU0(n:Nat)(r1:Q1):Option (List Int×Unit):=
  (y7F n n (r1) (r1.2.2.2.1) (r1.2.2.1) ((↑r1.2.2.1.length:Int)) ((0:Int)) (r1) (r1) (r1) (r1) ([]) (r1) (r1) (r1) (r1))
def yB3(j8:Q1)(j9:List (Q4))(j10:Int)(j11:Nat)(j12:List Nat)(j13:Int)(j14:Int)(j15:Q1)(j16:Q1)(j17:Q1)(j18:Q1)(j19:List Int)(j20:Q1)(j21:Q1)(j22:Q1)(j23:Q1):Option ((List Int×Unit)⊕((List (Q4))×List Int)):=
  (bif decide ((↑j9.length:Int) > 0)then ((idx j9 (0:Int)).bind λ v24=>(bif decide (v24.1<=j10)then (some (Sum.inr ((j9),(j19))))else ((yk FloatKind.f32 (yu BinOp.mul FloatKind.f32 j11 (nat_lit 1098907648)) i64).bind λ v29=>(bif decide (j19.length+(1:Nat)<=memMax)then (some (Sum.inr ((j9),(j19++[i64.wrap (j8.2.1+j10)]))))else none))))else ((yk FloatKind.f32 (yu BinOp.mul FloatKind.f32 j11 (nat_lit 1098907648)) i64).bind λ v30=>(bif decide (j19.length+(1:Nat)<=memMax)then (some (Sum.inr ((j9),(j19++[i64.wrap (j8.2.1+j10)]))))else none)))
theorem y34(n:Nat)(hn:big<=n)(r0:Q1->List (Q4)->List Nat->Int->Int->Q1->Q1->Q1->Q1->List Int->Q1->Q1->Q1->Q1->Option (List Int×Unit))(j8:Q1)(j9:List (Q4))(j10:Int)(j11:Nat)(j12:List Nat)(j13:Int)(j14:Int)(j15:Q1)(j16:Q1)(j17:Q1)(j18:Q1)(j19:List Int)(j20:Q1)(j21:Q1)(j22:Q1)(j23:Q1):LeF (elim some λ (ae:((List (Q4))×List Int))=>r0 j8 ae.1 j12 j13 (i64.wrap (j14+1)) j15 j16 j17 j18 ae.2 j20 j21 j22 j23) (yB3 j8 j9 j10 j11 j12 j13 j14 j15 j16 j17 j18 j19 j20 j21 j22 j23) (y7y n r0 j8 j9 j10 j11 j12 j13 j14 j15 j16 j17 j18 j19 j20 j21 j22 j23):=
  (y4 (y8 λ v24=>(y4 (y5 rfl) (y8 λ v29=>(y4 (y5 rfl) y02)))) (y8 λ v30=>(y4 (y5 rfl) y02)))
def yIz(b8:Q1)(b9:Int)(bn:Nat)(aR:List Nat)(aG:Int)(aH:Int)(av:Q1)(aw:Q1)(aM:Q1)(be:Q1)(cw:List Int)(bf:Q1)(bg:Q1)(bD:Q1)(bE:Q1)(aj:List (Q4)):Option (((List Int×Unit)⊕((List (Q4))×List Int))⊕(List (Q4))):=
  (bif decide ((↑aj.length:Int) > 0)then ((idx aj (0:Int)).bind λ v3=>(bif decide (v3.2.1<=b9)then (bif decide ((0:Int)<=1) && decide ((1:Int)<=(↑aj.length:Int))then (some (Sum.inr (List.drop (Int.toNat (1:Int)) aj)))else none)else (Option.map Sum.inl (yB3 (b8) (aj) (b9) (bn) (aR) (aG) (aH) (av) (aw) (aM) (be) (cw) (bf) (bg) (bD) (bE)))))else (Option.map Sum.inl (yB3 (b8) (aj) (b9) (bn) (aR) (aG) (aH) (av) (aw) (aM) (be) (cw) (bf) (bg) (bD) (bE))))
theorem yEW(n:Nat)(hn:big<=n)(r0:Q1->List (Q4)->List Nat->Int->Int->Q1->Q1->Q1->Q1->List Int->Q1->Q1->Q1->Q1->Option (List Int×Unit))(b8:Q1)(b9:Int)(bn:Nat)(aR:List Nat)(aG:Int)(aH:Int)(av:Q1)(aw:Q1)(aM:Q1)(be:Q1)(cw:List Int)(bf:Q1)(bg:Q1)(bD:Q1)(bE:Q1)(aj:List (Q4)):LeF (elim some λ (ae:((List (Q4))×List Int))=>r0 b8 ae.1 aR aG (i64.wrap (aH+1)) av aw aM be ae.2 bf bg bD bE) (y26 (λ ae=>yIz b8 b9 bn aR aG aH av aw aM be cw bf bg bD bE ae) wMax aj) (y78 n r0 n b8 aj b9 bn aR aG aH av aw aM be cw bf bg bD bE):=by
  refine y4a (f:=(elim some λ (ae:((List (Q4))×List Int))=>r0 b8 ae.1 aR aG (i64.wrap (aH+1)) av aw aM be ae.2 bf bg bD bE)) (W:=λ aQ ae=>y78 n r0 aQ b8 ae b9 bn aR aG aH av aw aM be cw bf bg bD bE) (body:=(λ ae=>yIz b8 b9 bn aR aG aH av aw aM be cw bf bg bD bE ae)) (λ aQ ae=>?_) wMax n aj (by unfold big at hn;unfold wMax;omega)
  show LeF _ _ (yFX n r0 (y78 n r0 aQ) b8 ae b9 bn aR aG aH av aw aM be cw bf bg bD bE)
  exact (y4 (y8 λ v3=>(y4 (y4 (y5 rfl) y02) (yl (by apply y34 n hn)))) (yl (by apply y34 n hn)))
def yKE(aK:Q1)(au:List Nat)(aA:Q1)(aB:Q1)(aY:Q1)(bv:Q1)(bw:Q1)(bx:Q1)(bF:Q1)(bU:Q1)(aJ:Int)(v1:Nat)(ay:List (Q4))(cB:List Int):Option ((List Int×Unit)⊕((List (Q4))×List Int)):=
  (y26 (λ ae=>yIz (aK) (aJ) (v1) (au) ((↑au.length:Int)) (aJ) (aA) (aB) (aY) (bv) (cB) (bw) (bx) (bF) (bU) ae) wMax (ay))
def yOB(aK:Q1)(au:List Nat)(aA:Q1)(aB:Q1)(aY:Q1)(bv:Q1)(bw:Q1)(bx:Q1)(bF:Q1)(bU:Q1)(ay:List (Q4))(cB:List Int):Option (List Int×Unit):=
  (some ((cB,())))
theorem yEJ(n:Nat)(hn:big<=n)(aK:Q1)(au:List Nat)(aA:Q1)(aB:Q1)(aY:Q1)(bv:Q1)(bw:Q1)(bx:Q1)(bF:Q1)(bU:Q1)(ay:List (Q4))(cB:List Int)(hx:List.length (au) < lenMax):LeF some (yH (λ ar aX ae=>yKE aK au aA aB aY bv bw bx bF bU ar aX ae.1 ae.2) (λ ae=>yOB aK au aA aB aY bv bw bx bF bU ae.1 ae.2) 0 (au) (ay,cB)) (y7F n n aK ay au (List.length (au):Int) 0 aA aB aY bv cB bw bx bF bU):=by
  refine yK (f:=some) (W:=λ aQ ar ae=>y7F n aQ aK ae.1 au (List.length (au):Int) ar aA aB aY bv ae.2 bw bx bF bU) (λ aQ ar ae=>?_) hx (ay,cB) n (by unfold big at hn;unfold lenMax at hx;omega)
  show LeF _ _ (yGr n (y7F n aQ) aK ae.1 au (List.length (au):Int) ar aA aB aY bv ae.2 bw bx bF bU)
  exact y4 (y8 λ v1=>(by apply yEW n hn)) (yl (y5 rfl))
def yHn(r1:Q1):Option (List Int×Unit):=
  (bif decide (List.length (r1.2.2.1) < lenMax)then yH (λ ar aX ae=>yKE (r1) (r1.2.2.1) (r1) (r1) (r1) (r1) (r1) (r1) (r1) (r1) ar aX ae.1 ae.2) (λ ae=>yOB (r1) (r1.2.2.1) (r1) (r1) (r1) (r1) (r1) (r1) (r1) (r1) ae.1 ae.2) 0 (r1.2.2.1) ((r1.2.2.2.1),([]))else none)
abbrev z0y_e:Entry:={ f:=147,args:=.pair t60 .unit,rS:=.pair t41 .unit,m:=λ x=>yHn x.1 }
theorem yOV:FnOK Tryz.prog z0y_e:=fBI (mu:=[3]) Tryz.f147 (λ n x=>yU0 n x.1) [] [il124,il195] 3 eNil (y5t y61 (y5t y5K iNil)) λ n hn x=>(yL λ hx=>by apply yEJ n hn;exact hx)
def yH3(n:Nat)(r0:Int->Int->Int->Int->Int->Int->Option ((Q4)×Unit))(cx:Int)(bF:Int)(aD:Int)(aE:Int)(al:Int)(am:Int):Option ((Q4)×Unit):=
  (bif decide (bF < (i64.wrap (cx.tmod (4:Int)+4)).tmod (4:Int))then r0 cx (i64.wrap (bF+1)) (i64.wrap ((0:Int) - aE)) aD al am else some ((aD,aE,()),()))
def y7R(n:Nat)(k:Nat)(cx:Int)(bF:Int)(aD:Int)(aE:Int)(al:Int)(am:Int):Option ((Q4)×Unit):=
  iter (λ r y=>yH3 n (λ cx bF aD aE al am=>r ((cx,(bF,())),(((aD,(aE,())),((al,(am,())),())),()))) y.1.1 y.1.2.1 y.2.1.1.1 y.2.1.1.2.1 y.2.1.2.1.1 y.2.1.2.1.2.1) k ((cx,(bF,())),(((aD,(aE,())),((al,(am,())),())),()))
def yTj(n:Nat)(a:Q4)(n1:Int):Option ((Q4)×Unit):=
  (y7R n n (n1) ((0:Int)) (a.1) (a.2.1) ((0:Int)) ((0:Int)))
def yOE(cx:Int)(al:Int)(am:Int)(bF:Int)(aD:Int)(aE:Int):Option (((Q4)×Unit)⊕(Int×Int)):=
  (some (Sum.inr ((i64.wrap ((0:Int) - aE)),(aD))))
def yO4(cx:Int)(al:Int)(am:Int)(aD:Int)(aE:Int):Option ((Q4)×Unit):=
  (some (((aD,aE,()),())))
theorem yEA(n:Nat)(hn:big<=n)(cx:Int)(al:Int)(am:Int)(aD:Int)(aE:Int)(hx:((i64.wrap (cx.tmod (4:Int)+4)).tmod (4:Int))<=9223372036854775807):LeF some (y0e (λ ar ae=>yOE cx al am ar ae.1 ae.2) (λ ae=>yO4 cx al am ae.1 ae.2) (((i64.wrap (cx.tmod (4:Int)+4)).tmod (4:Int)) - 0).toNat 0 (aD,aE)) (y7R n n cx 0 aD aE al am):=by
  refine y1L (f:=some) (W:=λ aQ ar ae=>y7R n aQ cx ar ae.1 ae.2 al am) (λ aQ ar ae=>?_) hx (aD,aE) n 0 (by decide) (by unfold big at hn;omega)
  show LeF _ _ (yH3 n (y7R n aQ) cx ar ae.1 ae.2 al am)
  exact y4 (y5 rfl) (yl (y5 rfl))
def yMP(a:Q4)(n1:Int):Option ((Q4)×Unit):=
  (bif decide (((i64.wrap (n1.tmod (4:Int)+4)).tmod (4:Int))<=9223372036854775807)then y0e (λ ar ae=>yOE (n1) ((0:Int)) ((0:Int)) ar ae.1 ae.2) (λ ae=>yO4 (n1) ((0:Int)) ((0:Int)) ae.1 ae.2) (((i64.wrap (n1.tmod (4:Int)+4)).tmod (4:Int)) - 0).toNat 0 ((a.1),(a.2.1))else none)
abbrev z0m_e:Entry:={ f:=156,args:=.pair t57 (.pair t3 .unit),rS:=.pair t57 .unit,m:=λ x=>yMP x.1 x.2.1 }
theorem ySl:FnOK Tryz.prog z0m_e:=fB (mu:=[2]) Tryz.f156 (λ n x=>yTj n x.1 x.2.1) [[1,2,4,5]] eNil λ n hn x=>(yL λ hx=>by apply yEA n hn;exact hx)
def yGc(n:Nat)(r0:List (Q4)->Int->Int->Option (Bool×Unit))(aI:List (Q4))(aK:Int)(aL:Int):Option (Bool×Unit):=
  (bif decide (aL < (↑aI.length:Int))then ((idx aI aL).bind λ v1=>(bif decide (aK >= v1.1)then ((idx aI aL).bind λ v2=>(bif decide (aK < v2.2.1)then some (Bool.true,())else r0 aI aK (i64.wrap (aL+1))))else r0 aI aK (i64.wrap (aL+1))))else some (Bool.false,()))
def y7G(n:Nat)(k:Nat)(aI:List (Q4))(aK:Int)(aL:Int):Option (Bool×Unit):=
  iter (λ r y=>yGc n (λ aI aK aL=>r ((aI,(aK,(aL,()))),((),()))) y.1.1 y.1.2.1 y.1.2.2.1) k ((aI,(aK,(aL,()))),((),()))
def yTs(n:Nat)(l:List (Q4))(t:Int):Option (Bool×Unit):=
  (y7G n n (l) (t) ((0:Int)))
def yFx(aI:List (Q4))(aK:Int)(aL:Int)(v1:Q4):Option ((Bool×Unit)⊕Unit):=
  (bif decide (aK >= v1.1)then ((idx aI aL).bind λ v2=>(bif decide (aK < v2.2.1)then (some (Sum.inl ((Bool.true,()))))else (some (Sum.inr ()))))else (some (Sum.inr ())))
def yJq(aI:List (Q4))(aK:Int):Option (Bool×Unit):=
  (some ((Bool.false,())))
theorem yF2(n:Nat)(hn:big<=n)(aI:List (Q4))(aK:Int)(hx:List.length (aI) < lenMax):LeF some (yH (λ ar aX ae=>yFx aI aK ar aX) (λ ae=>yJq aI aK) 0 (aI) ()) (y7G n n aI aK 0):=by
  refine yK (f:=some) (W:=λ aQ ar ae=>y7G n aQ aI aK ar) (λ aQ ar ae=>?_) hx () n (by unfold big at hn;unfold lenMax at hx;omega)
  show LeF _ _ (yGc n (y7G n aQ) aI aK ar)
  exact y4 (y8 λ v1=>(y4 (y8 λ v2=>(y4 (y5 rfl) (y5 rfl))) (y5 rfl))) (yl (y5 rfl))
def yI1(l:List (Q4))(t:Int):Option (Bool×Unit):=
  (bif decide (List.length (l) < lenMax)then yH (λ ar aX ae=>yFx (l) (t) ar aX) (λ ae=>yJq (l) (t)) 0 (l) ()else none)
abbrev z12_e:Entry:={ f:=159,args:=.pair t58 (.pair t3 .unit),rS:=.pair t4 .unit,m:=λ x=>yI1 x.1 x.2.1 }
theorem yNz:FnOK Tryz.prog z12_e:=fB Tryz.f159 (λ n x=>yTs n x.1 x.2.1) [[0,1,5]] eNil λ n hn x=>(yL λ hx=>by apply yF2 n hn;exact hx)
def zR_m(n:Nat)(c:Q3)(tick:Int):Option ((Q4)×Unit):=
  (bif c.2.1==0 then none else ((idx [((1:Int),(0:Int),()),((0:Int),(1:Int),()),((-1:Int),(0:Int),()),((0:Int),(-1:Int),())] ((i64.wrap (c.2.2.1 * i64.wrap (tick.tdiv c.2.1))).tmod (4:Int))).bind λ v0=>some ((v0.1,v0.2.1,()),())))
def zR_M(c:Q3)(tick:Int):Option ((Q4)×Unit):=zR_m 0 c tick
abbrev zR_e:Entry:={ f:=161,args:=.pair t55 (.pair t3 .unit),rS:=.pair t57 .unit,m:=λ x=>zR_M x.1 x.2.1 }
theorem yPY:FnOK Tryz.prog zR_e:=fF 0 Tryz.f161 (λ n x=>zR_m n x.1 x.2.1) [] eNil
def yL5(n:Nat)(r0:((Q3)×Unit->Option ((Q4)×Unit))->List (Q3)->Int->Int->List (Q4)->Option (List (Q4)×Unit))(ai:(Q3)×Unit->Option ((Q4)×Unit))(af:List (Q3))(au:Int)(aq:Int)(ak:List (Q4)):Option (List (Q4)×Unit):=
  (bif decide (aq < au)then ((idx af aq).bind λ v1=>((ai ((v1.1,v1.2.1,v1.2.2.1,()),())).bind λ v2=>(bif decide (ak.length+(1:Nat)<=memMax)then r0 ai af au (i64.wrap (aq+1)) (ak++[v2.1])else none)))else some (ak,()))
def yBr(n:Nat)(k:Nat)(ai:(Q3)×Unit->Option ((Q4)×Unit))(af:List (Q3))(au:Int)(aq:Int)(ak:List (Q4)):Option (List (Q4)×Unit):=
  iter (λ r y=>yL5 n (λ ai af au aq ak=>r ((ai,(af,(au,(aq,())))),((ak,()),()))) y.1.1 y.1.2.1 y.1.2.2.1 y.1.2.2.2.1 y.2.1.1) k ((ai,(af,(au,(aq,())))),((ak,()),()))
def zA_m(n:Nat)(l:List (Q3))(of:(Q3)×Unit->Option ((Q4)×Unit)):Option (List (Q4)×Unit):=
  (yBr n n (of) (l) ((↑l.length:Int)) ((0:Int)) ([]))
def yMI(ai:(Q3)×Unit->Option ((Q4)×Unit))(af:List (Q3))(aq:Int)(v1:Q3)(ak:List (Q4)):Option ((List (Q4)×Unit)⊕(List (Q4))):=
  ((ai ((v1.1,v1.2.1,v1.2.2.1,()),())).bind λ v2=>(bif decide (ak.length+(1:Nat)<=memMax)then (some (Sum.inr (ak++[v2.1])))else none))
def yOq(ai:(Q3)×Unit->Option ((Q4)×Unit))(af:List (Q3))(ak:List (Q4)):Option (List (Q4)×Unit):=
  (some ((ak,())))
theorem yHd(n:Nat)(hn:big<=n)(ai:(Q3)×Unit->Option ((Q4)×Unit))(af:List (Q3))(ak:List (Q4))(hx:List.length (af) < lenMax):LeF some (yH (λ ar aX ae=>yMI ai af ar aX ae) (λ ae=>yOq ai af ae) 0 (af) ak) (yBr n n ai af (List.length (af):Int) 0 ak):=by
  refine yK (f:=some) (W:=λ aQ ar ae=>yBr n aQ ai af (List.length (af):Int) ar ae) (λ aQ ar ae=>?_) hx ak n (by unfold big at hn;unfold lenMax at hx;omega)
  show LeF _ _ (yL5 n (yBr n aQ) ai af (List.length (af):Int) ar ae)
  exact y4 (y8 λ v1=>(y8 λ v2=>(y4 (y5 rfl) y02))) (yl (y5 rfl))
def zA_M(l:List (Q3))(of:(Q3)×Unit->Option ((Q4)×Unit)):Option (List (Q4)×Unit):=
  (bif decide (List.length (l) < lenMax)then yH (λ ar aX ae=>yMI (of) (l) ar aX ae) (λ ae=>yOq (of) (l) ae) 0 (l) ([])else none)
abbrev zA_e:Entry:={ f:=162,args:=.pair t31 (.pair t215 .unit),rS:=.pair t23 .unit,m:=λ x=>zA_M x.1 x.2.1 }
theorem yOg:FnOK Tryz.prog zA_e:=fB (mu:=[5]) Tryz.f162 (λ n x=>zA_m n x.1 x.2.1) [[1,5,8,9,10]] eNil λ n hn x=>(yL λ hx=>by apply yHd n hn;exact hx)
def yJx(n:Nat)(r0:List (List (Q4))->Int->List (Q4)->Int->Int->List (List (Q4))->Option (List (List (Q4))×Unit))(bA:List (List (Q4)))(aS:Int)(bj:List (Q4))(cj:Int)(aC:Int)(ak:List (List (Q4))):Option (List (List (Q4))×Unit):=
  (bif decide (aC < cj)then ((idx bA aC).bind λ v1=>(bif Bool.true && decide ((0:Int)<=(↑v1.length:Int)) && decide ((↑v1.length:Int)<=(↑memMax:Int)) && (↑v1.length:Int)==(↑v1.length:Int)then ((idx ak aC).bind λ v2=>((ak[aC.toNat]?).bind λ v3=>((idx (ak.set aC.toNat (List.replicate ((↑v1.length:Int).toNat) (((0:Int),(0:Int),())):List (Q4))) aC).bind λ v4=>(((ak.set aC.toNat (List.replicate ((↑v1.length:Int).toNat) (((0:Int),(0:Int),())):List (Q4)))[aC.toNat]?).bind λ v5=>((idx bA aC).bind λ v6=>(((ak.set aC.toNat (List.replicate ((↑v1.length:Int).toNat) (((0:Int),(0:Int),())):List (Q4)))[aC.toNat]?).bind λ v7=>(bif decide (v6.length=v7.length)then ((idx ((ak.set aC.toNat (List.replicate ((↑v1.length:Int).toNat) (((0:Int),(0:Int),())):List (Q4))).set aC.toNat v6) aC).bind λ v8=>((((ak.set aC.toNat (List.replicate ((↑v1.length:Int).toNat) (((0:Int),(0:Int),())):List (Q4))).set aC.toNat v6)[aC.toNat]?).bind λ v9=>((idx bj aC).bind λ v10=>((((ak.set aC.toNat (List.replicate ((↑v1.length:Int).toNat) (((0:Int),(0:Int),())):List (Q4))).set aC.toNat v6)[aC.toNat]?).bind λ v11=>((idx v11 aS).bind λ v12=>((((ak.set aC.toNat (List.replicate ((↑v1.length:Int).toNat) (((0:Int),(0:Int),())):List (Q4))).set aC.toNat v6)[aC.toNat]?).bind λ v13=>((v13[aS.toNat]?).bind λ v14=>r0 bA aS bj cj (i64.wrap (aC+1)) (((ak.set aC.toNat (List.replicate ((↑v1.length:Int).toNat) (((0:Int),(0:Int),())):List (Q4))).set aC.toNat v6).set aC.toNat (v13.set aS.toNat v10)))))))))else none)))))))else none))else some (ak,()))
def yAO(n:Nat)(k:Nat)(bA:List (List (Q4)))(aS:Int)(bj:List (Q4))(cj:Int)(aC:Int)(ak:List (List (Q4))):Option (List (List (Q4))×Unit):=
  iter (λ r y=>yJx n (λ bA aS bj cj aC ak=>r ((bA,(aS,(bj,(cj,(aC,()))))),((ak,()),()))) y.1.1 y.1.2.1 y.1.2.2.1 y.1.2.2.2.1 y.1.2.2.2.2.1 y.2.1.1) k ((bA,(aS,(bj,(cj,(aC,()))))),((ak,()),()))
def zi_m(n:Nat)(m:List (List (Q4)))(column:Int)(values:List (Q4)):Option (List (List (Q4))×Unit):=
  (bif Bool.true && decide ((0:Int)<=(↑m.length:Int)) && decide ((↑m.length:Int)<=(↑memMax:Int)) && (↑m.length:Int)==(↑m.length:Int)then (yAO n n (m) (column) (values) ((↑m.length:Int)) ((0:Int)) ((List.replicate ((↑m.length:Int).toNat) ([]):List (List (Q4)))))else none)
def yIs(bA:List (List (Q4)))(aS:Int)(bj:List (Q4))(aC:Int)(v1:List (Q4))(ak:List (List (Q4))):Option ((List (List (Q4))×Unit)⊕(List (List (Q4)))):=
  (bif Bool.true && decide ((0:Int)<=(↑v1.length:Int)) && decide ((↑v1.length:Int)<=(↑memMax:Int)) && (↑v1.length:Int)==(↑v1.length:Int)then ((idx ak aC).bind λ v2=>((ak[aC.toNat]?).bind λ v3=>((idx (ak.set aC.toNat (List.replicate ((↑v1.length:Int).toNat) (((0:Int),(0:Int),())):List (Q4))) aC).bind λ v4=>(((ak.set aC.toNat (List.replicate ((↑v1.length:Int).toNat) (((0:Int),(0:Int),())):List (Q4)))[aC.toNat]?).bind λ v5=>((idx bA aC).bind λ v6=>(((ak.set aC.toNat (List.replicate ((↑v1.length:Int).toNat) (((0:Int),(0:Int),())):List (Q4)))[aC.toNat]?).bind λ v7=>(bif decide (v6.length=v7.length)then ((idx ((ak.set aC.toNat (List.replicate ((↑v1.length:Int).toNat) (((0:Int),(0:Int),())):List (Q4))).set aC.toNat v6) aC).bind λ v8=>((((ak.set aC.toNat (List.replicate ((↑v1.length:Int).toNat) (((0:Int),(0:Int),())):List (Q4))).set aC.toNat v6)[aC.toNat]?).bind λ v9=>((idx bj aC).bind λ v10=>((((ak.set aC.toNat (List.replicate ((↑v1.length:Int).toNat) (((0:Int),(0:Int),())):List (Q4))).set aC.toNat v6)[aC.toNat]?).bind λ v11=>((idx v11 aS).bind λ v12=>((((ak.set aC.toNat (List.replicate ((↑v1.length:Int).toNat) (((0:Int),(0:Int),())):List (Q4))).set aC.toNat v6)[aC.toNat]?).bind λ v13=>((v13[aS.toNat]?).bind λ v14=>(some (Sum.inr (((ak.set aC.toNat (List.replicate ((↑v1.length:Int).toNat) (((0:Int),(0:Int),())):List (Q4))).set aC.toNat v6).set aC.toNat (v13.set aS.toNat v10)))))))))))else none)))))))else none)
def yNa(bA:List (List (Q4)))(aS:Int)(bj:List (Q4))(ak:List (List (Q4))):Option (List (List (Q4))×Unit):=
  (some ((ak,())))
theorem yI3(n:Nat)(hn:big<=n)(bA:List (List (Q4)))(aS:Int)(bj:List (Q4))(ak:List (List (Q4)))(hx:List.length (bA) < lenMax):LeF some (yH (λ ar aX ae=>yIs bA aS bj ar aX ae) (λ ae=>yNa bA aS bj ae) 0 (bA) ak) (yAO n n bA aS bj (List.length (bA):Int) 0 ak):=by
  refine yK (f:=some) (W:=λ aQ ar ae=>yAO n aQ bA aS bj (List.length (bA):Int) ar ae) (λ aQ ar ae=>?_) hx ak n (by unfold big at hn;unfold lenMax at hx;omega)
  show LeF _ _ (yJx n (yAO n aQ) bA aS bj (List.length (bA):Int) ar ae)
  exact y4 (y8 λ v1=>(y4 (y8 λ v2=>(y8 λ v3=>(y8 λ v4=>(y8 λ v5=>(y8 λ v6=>(y8 λ v7=>(y4 (y8 λ v8=>(y8 λ v9=>(y8 λ v10=>(y8 λ v11=>(y8 λ v12=>(y8 λ v13=>(y8 λ v14=>(y5 rfl)))))))) y02))))))) y02)) (yl (y5 rfl))
def zi_M(m:List (List (Q4)))(column:Int)(values:List (Q4)):Option (List (List (Q4))×Unit):=
  (bif Bool.true && decide ((0:Int)<=(↑m.length:Int)) && decide ((↑m.length:Int)<=(↑memMax:Int)) && (↑m.length:Int)==(↑m.length:Int)then (bif decide (List.length (m) < lenMax)then yH (λ ar aX ae=>yIs (m) (column) (values) ar aX ae) (λ ae=>yNa (m) (column) (values) ae) 0 (m) ((List.replicate ((↑m.length:Int).toNat) ([]):List (List (Q4))))else none)else none)
abbrev zi_e:Entry:={ f:=164,args:=.pair t183 (.pair t3 (.pair t23 .unit)),rS:=.pair t183 .unit,m:=λ x=>zi_M x.1 x.2.1 x.2.2.1 }
theorem yS3:FnOK Tryz.prog zi_e:=fB (fz:=[11]) Tryz.f164 (λ n x=>zi_m n x.1 x.2.1 x.2.2.1) [[0,1,2,7,13,14]] eNil λ n hn x=>(y4 (yL λ hx=>by apply yI3 n hn;exact hx) y02)
def yP6(n:Nat)(f:Nat):Option (Bool×Unit):=
  some (yT BinOp.neq FloatKind.f64 f f,())
def z0j(f:Nat):(Bool×Unit):=
  (yT BinOp.neq FloatKind.f64 f f,())
abbrev yTa (f:Nat):Option (Bool×Unit):=some (z0j f)
abbrev z0j_e:Entry:={ f:=171,args:=.pair t210 .unit,rS:=.pair t4 .unit,m:=λ x=>yTa x.1 }
theorem ySs:FnOK Tryz.prog z0j_e:=fF (hm:=by intro x;show some (z0j x.1)=yP6 0 x.1;unfold yP6 z0j;first|rfl|simp only[ym]) 0 Tryz.f171 (λ n x=>yP6 n x.1) [] eNil
def yP4(n:Nat)(r0:(Int×Unit->Option (List UInt8×Unit))->List Int->Int->Int->List (List UInt8)->Option (List (List UInt8)×Unit))(ai:Int×Unit->Option (List UInt8×Unit))(af:List Int)(au:Int)(aq:Int)(ak:List (List UInt8)):Option (List (List UInt8)×Unit):=
  (bif decide (aq < au)then ((idx af aq).bind λ v1=>((ai (v1,())).bind λ v2=>(bif decide (ak.length+(1:Nat)<=memMax)then r0 ai af au (i64.wrap (aq+1)) (ak++[v2.1])else none)))else some (ak,()))
def yPk(n:Nat)(k:Nat)(ai:Int×Unit->Option (List UInt8×Unit))(af:List Int)(au:Int)(aq:Int)(ak:List (List UInt8)):Option (List (List UInt8)×Unit):=
  iter (λ r y=>yP4 n (λ ai af au aq ak=>r ((ai,(af,(au,(aq,())))),((ak,()),()))) y.1.1 y.1.2.1 y.1.2.2.1 y.1.2.2.2.1 y.2.1.1) k ((ai,(af,(au,(aq,())))),((ak,()),()))
def zN_m(n:Nat)(l:List Int)(of:Int×Unit->Option (List UInt8×Unit)):Option (List (List UInt8)×Unit):=
  (yPk n n (of) (l) ((↑l.length:Int)) ((0:Int)) ([]))
def zN_M(l:List Int)(of:Int×Unit->Option (List UInt8×Unit)):Option (List (List UInt8)×Unit):=zN_m 1000 l of
abbrev zN_e:Entry:={ f:=176,args:=.pair t41 (.pair t233 .unit),rS:=.pair t161 .unit,m:=λ x=>zN_M x.1 x.2.1 }
theorem yTF:FnOK Tryz.prog zN_e:=fF (mu:=[5]) 1000 Tryz.f176 (λ n x=>zN_m n x.1 x.2.1) [[1,5,8,9,10]] eNil
def y42(n:Nat)(r2:List UInt8->Int->Option (Bool×Unit))(bS:List UInt8)(cf:Int)(v3:UInt8):Option (Bool×Unit):=
  (bif cf==0 then some (Bool.false,())else (bif (↑v3.toNat:Int) != 95 then (bif decide ((↑v3.toNat:Int) < 48)then some (Bool.false,())else (bif decide ((↑v3.toNat:Int) > 57)then some (Bool.false,())else r2 bS (i64.wrap (cf+1))))else r2 bS (i64.wrap (cf+1))))
def yGe(n:Nat)(r2:List UInt8->Int->Option (Bool×Unit))(bS:List UInt8)(cf:Int):Option (Bool×Unit):=
  (bif decide (cf < (↑bS.length:Int))then ((idx bS cf).bind λ v3=>(bif decide ((↑v3.toNat:Int) >= 97)then (bif decide ((↑v3.toNat:Int)<=122)then r2 bS (i64.wrap (cf+1))else (bif decide ((↑v3.toNat:Int) >= 65)then (bif decide ((↑v3.toNat:Int)<=90)then r2 bS (i64.wrap (cf+1))else (y42 n r2 bS cf v3))else (y42 n r2 bS cf v3)))else (bif decide ((↑v3.toNat:Int) >= 65)then (bif decide ((↑v3.toNat:Int)<=90)then r2 bS (i64.wrap (cf+1))else (y42 n r2 bS cf v3))else (y42 n r2 bS cf v3))))else some (Bool.true,()))
def y7H(n:Nat)(k:Nat)(bS:List UInt8)(cf:Int):Option (Bool×Unit):=
  iter (λ r y=>yGe n (λ bS cf=>r ((bS,(cf,())),((),()))) y.1.1 y.1.2.1) k ((bS,(cf,())),((),()))
def yUW(n:Nat)(s:List UInt8):Option (Bool×Unit):=
  (bif (↑s.length:Int)==0 then some (Bool.false,())else (bif decide ((↑s.length:Int) > 24)then some (Bool.false,())else (y7H n n (s) ((0:Int)))))
def y6H(bS:List UInt8)(cf:Int)(v3:UInt8):Option ((Bool×Unit)⊕Unit):=
  (bif cf==0 then (some (Sum.inl ((Bool.false,()))))else (bif (↑v3.toNat:Int) != 95 then (bif decide ((↑v3.toNat:Int) < 48)then (some (Sum.inl ((Bool.false,()))))else (bif decide ((↑v3.toNat:Int) > 57)then (some (Sum.inl ((Bool.false,()))))else (some (Sum.inr ()))))else (some (Sum.inr ()))))
theorem y0X(n:Nat)(hn:big<=n)(r2:List UInt8->Int->Option (Bool×Unit))(bS:List UInt8)(cf:Int)(v3:UInt8):LeF (elim some λ (ae:Unit)=>r2 bS (i64.wrap (cf+1))) (y6H bS cf v3) (y42 n r2 bS cf v3):=
  (y4 (y5 rfl) (y4 (y4 (y5 rfl) (y4 (y5 rfl) (y5 rfl))) (y5 rfl)))
def yD1(bS:List UInt8)(cf:Int)(v3:UInt8):Option ((Bool×Unit)⊕Unit):=
  (bif decide ((↑v3.toNat:Int) >= 97)then (bif decide ((↑v3.toNat:Int)<=122)then (some (Sum.inr ()))else (bif decide ((↑v3.toNat:Int) >= 65)then (bif decide ((↑v3.toNat:Int)<=90)then (some (Sum.inr ()))else (y6H bS cf v3))else (y6H bS cf v3)))else (bif decide ((↑v3.toNat:Int) >= 65)then (bif decide ((↑v3.toNat:Int)<=90)then (some (Sum.inr ()))else (y6H bS cf v3))else (y6H bS cf v3)))
def yKh(bS:List UInt8):Option (Bool×Unit):=
  (some ((Bool.true,())))
theorem yF6(n:Nat)(hn:big<=n)(bS:List UInt8)(hx:List.length (bS) < lenMax):LeF some (yH (λ ar aX ae=>yD1 bS ar aX) (λ ae=>yKh bS) 0 (bS) ()) (y7H n n bS 0):=by
  refine yK (f:=some) (W:=λ aQ ar ae=>y7H n aQ bS ar) (λ aQ ar ae=>?_) hx () n (by unfold big at hn;unfold lenMax at hx;omega)
  show LeF _ _ (yGe n (y7H n aQ) bS ar)
  exact y4 (y8 λ v3=>(y4 (y4 (y5 rfl) (y4 (y4 (y5 rfl) (by apply y0X n hn)) (by apply y0X n hn))) (y4 (y4 (y5 rfl) (by apply y0X n hn)) (by apply y0X n hn)))) (yl (y5 rfl))
def yMc(s:List UInt8):Option (Bool×Unit):=
  (bif (↑s.length:Int)==0 then (some ((Bool.false,())))else (bif decide ((↑s.length:Int) > 24)then (some ((Bool.false,())))else (bif decide (List.length (s) < lenMax)then yH (λ ar aX ae=>yD1 (s) ar aX) (λ ae=>yKh (s)) 0 (s) ()else none)))
abbrev z0D_e:Entry:={ f:=187,args:=.pair t9 .unit,rS:=.pair t4 .unit,m:=λ x=>yMc x.1 }
theorem ySw:FnOK Tryz.prog z0D_e:=fB Tryz.f187 (λ n x=>yUW n x.1) [[0,3]] eNil λ n hn x=>(y4 (y5 rfl) (y4 (y5 rfl) (yL λ hx=>by apply yF6 n hn;exact hx)))
def yQd(n:Nat)(c:Q3):Option ((Q3)×Unit):=
  some ((c.1,c.2.1,c.2.2.1,()),())
def z03(c:Q3):((Q3)×Unit):=
  ((c.1,c.2.1,c.2.2.1,()),())
abbrev yPv (c:Q3):Option ((Q3)×Unit):=some (z03 c)
abbrev z03_e:Entry:={ f:=189,args:=.pair t55 .unit,rS:=.pair t55 .unit,m:=λ x=>yPv x.1 }
theorem yRV:FnOK Tryz.prog z03_e:=fF (hm:=by intro x;show some (z03 x.1)=yQd 0 x.1;unfold yQd z03;first|rfl|simp only[ym]) 0 Tryz.f189 (λ n x=>yQd n x.1) [] eNil
def yPO(n:Nat)(z:Q4)(p1:Int):Option ((Q4)×Unit):=
  (bif p1==0 then none else (bif p1==0 then none else some ((i64.wrap (z.1.tdiv p1),i64.wrap (z.2.1.tdiv p1),()),())))
def yNS(z:Q4)(p1:Int):Option ((Q4)×Unit):=yPO 0 z p1
abbrev z04_e:Entry:={ f:=190,args:=.pair t57 (.pair (.ref t3) .unit),rS:=.pair t57 .unit,m:=λ x=>yNS x.1 x.2.1 }
theorem ySH:FnOK Tryz.prog z04_e:=fF 0 Tryz.f190 (λ n x=>yPO n x.1 x.2.1) [] eNil
def yJt(n:Nat)(r0:((Q3)×Unit->Option (List (Q4)×Unit))->List (Q3)->Int->Int->List (List (Q4))->Option (List (List (Q4))×Unit))(ai:(Q3)×Unit->Option (List (Q4)×Unit))(af:List (Q3))(au:Int)(aq:Int)(ak:List (List (Q4))):Option (List (List (Q4))×Unit):=
  (bif decide (aq < au)then ((idx af aq).bind λ v1=>((ai ((v1.1,v1.2.1,v1.2.2.1,()),())).bind λ v2=>(bif decide (ak.length+(1:Nat)<=memMax)then r0 ai af au (i64.wrap (aq+1)) (ak++[v2.1])else none)))else some (ak,()))
def yAx(n:Nat)(k:Nat)(ai:(Q3)×Unit->Option (List (Q4)×Unit))(af:List (Q3))(au:Int)(aq:Int)(ak:List (List (Q4))):Option (List (List (Q4))×Unit):=
  iter (λ r y=>yJt n (λ ai af au aq ak=>r ((ai,(af,(au,(aq,())))),((ak,()),()))) y.1.1 y.1.2.1 y.1.2.2.1 y.1.2.2.2.1 y.2.1.1) k ((ai,(af,(au,(aq,())))),((ak,()),()))
def z8_m(n:Nat)(l:List (Q3))(of:(Q3)×Unit->Option (List (Q4)×Unit)):Option (List (List (Q4))×Unit):=
  (yAx n n (of) (l) ((↑l.length:Int)) ((0:Int)) ([]))
def yPg(ai:(Q3)×Unit->Option (List (Q4)×Unit))(af:List (Q3))(aq:Int)(v1:Q3)(ak:List (List (Q4))):Option ((List (List (Q4))×Unit)⊕(List (List (Q4)))):=
  ((ai ((v1.1,v1.2.1,v1.2.2.1,()),())).bind λ v2=>(bif decide (ak.length+(1:Nat)<=memMax)then (some (Sum.inr (ak++[v2.1])))else none))
def ySW(ai:(Q3)×Unit->Option (List (Q4)×Unit))(af:List (Q3))(ak:List (List (Q4))):Option (List (List (Q4))×Unit):=
  (some ((ak,())))
theorem yI7(n:Nat)(hn:big<=n)(ai:(Q3)×Unit->Option (List (Q4)×Unit))(af:List (Q3))(ak:List (List (Q4)))(hx:List.length (af) < lenMax):LeF some (yH (λ ar aX ae=>yPg ai af ar aX ae) (λ ae=>ySW ai af ae) 0 (af) ak) (yAx n n ai af (List.length (af):Int) 0 ak):=by
  refine yK (f:=some) (W:=λ aQ ar ae=>yAx n aQ ai af (List.length (af):Int) ar ae) (λ aQ ar ae=>?_) hx ak n (by unfold big at hn;unfold lenMax at hx;omega)
  show LeF _ _ (yJt n (yAx n aQ) ai af (List.length (af):Int) ar ae)
  exact y4 (y8 λ v1=>(y8 λ v2=>(y4 (y5 rfl) y02))) (yl (y5 rfl))
def z8_M(l:List (Q3))(of:(Q3)×Unit->Option (List (Q4)×Unit)):Option (List (List (Q4))×Unit):=
  (bif decide (List.length (l) < lenMax)then yH (λ ar aX ae=>yPg (of) (l) ar aX ae) (λ ae=>ySW (of) (l) ae) 0 (l) ([])else none)
abbrev z8_e:Entry:={ f:=191,args:=.pair t31 (.pair t255 .unit),rS:=.pair t96 .unit,m:=λ x=>z8_M x.1 x.2.1 }
theorem yUz:FnOK Tryz.prog z8_e:=fB (mu:=[5]) Tryz.f191 (λ n x=>z8_m n x.1 x.2.1) [[1,5,8,9,10]] eNil λ n hn x=>(yL λ hx=>by apply yI7 n hn;exact hx)
def yLJ(n:Nat)(r0:(Nat×Unit->Option (Int×Unit))->List Nat->Int->Int->List Int->Option (List Int×Unit))(ai:Nat×Unit->Option (Int×Unit))(af:List Nat)(au:Int)(aq:Int)(ak:List Int):Option (List Int×Unit):=
  (bif decide (aq < au)then ((idx af aq).bind λ v1=>((ai (v1,())).bind λ v2=>(bif decide (ak.length+(1:Nat)<=memMax)then r0 ai af au (i64.wrap (aq+1)) (ak++[v2.1])else none)))else some (ak,()))
def yBe(n:Nat)(k:Nat)(ai:Nat×Unit->Option (Int×Unit))(af:List Nat)(au:Int)(aq:Int)(ak:List Int):Option (List Int×Unit):=
  iter (λ r y=>yLJ n (λ ai af au aq ak=>r ((ai,(af,(au,(aq,())))),((ak,()),()))) y.1.1 y.1.2.1 y.1.2.2.1 y.1.2.2.2.1 y.2.1.1) k ((ai,(af,(au,(aq,())))),((ak,()),()))
def zI_m(n:Nat)(l:List Nat)(of:Nat×Unit->Option (Int×Unit)):Option (List Int×Unit):=
  (yBe n n (of) (l) ((↑l.length:Int)) ((0:Int)) ([]))
def yS2(ai:Nat×Unit->Option (Int×Unit))(af:List Nat)(aq:Int)(v1:Nat)(ak:List Int):Option ((List Int×Unit)⊕(List Int)):=
  ((ai (v1,())).bind λ v2=>(bif decide (ak.length+(1:Nat)<=memMax)then (some (Sum.inr (ak++[v2.1])))else none))
def ySm(ai:Nat×Unit->Option (Int×Unit))(af:List Nat)(ak:List Int):Option (List Int×Unit):=
  (some ((ak,())))
theorem yIS(n:Nat)(hn:big<=n)(ai:Nat×Unit->Option (Int×Unit))(af:List Nat)(ak:List Int)(hx:List.length (af) < lenMax):LeF some (yH (λ ar aX ae=>yS2 ai af ar aX ae) (λ ae=>ySm ai af ae) 0 (af) ak) (yBe n n ai af (List.length (af):Int) 0 ak):=by
  refine yK (f:=some) (W:=λ aQ ar ae=>yBe n aQ ai af (List.length (af):Int) ar ae) (λ aQ ar ae=>?_) hx ak n (by unfold big at hn;unfold lenMax at hx;omega)
  show LeF _ _ (yLJ n (yBe n aQ) ai af (List.length (af):Int) ar ae)
  exact y4 (y8 λ v1=>(y8 λ v2=>(y4 (y5 rfl) y02))) (yl (y5 rfl))
def zI_M(l:List Nat)(of:Nat×Unit->Option (Int×Unit)):Option (List Int×Unit):=
  (bif decide (List.length (l) < lenMax)then yH (λ ar aX ae=>yS2 (of) (l) ar aX ae) (λ ae=>ySm (of) (l) ae) 0 (l) ([])else none)
abbrev zI_e:Entry:={ f:=196,args:=.pair t35 (.pair t259 .unit),rS:=.pair t175 .unit,m:=λ x=>zI_M x.1 x.2.1 }
theorem yUS:FnOK Tryz.prog zI_e:=fB (mu:=[5]) Tryz.f196 (λ n x=>zI_m n x.1 x.2.1) [[1,5,8,9,10]] eNil λ n hn x=>(yL λ hx=>by apply yIS n hn;exact hx)
def yFb(n:Nat)(r0:List Int->Int->Int->Option (Int×Unit))(bB:List Int)(bl:Int)(aT:Int):Option (Int×Unit):=
  (bif decide (aT < bl)then ((idx bB aT).bind λ v1=>(bif v1 != 0 then some (v1,())else r0 bB bl (i64.wrap (aT+1))))else some ((0:Int),()))
def y7m(n:Nat)(k:Nat)(bB:List Int)(bl:Int)(aT:Int):Option (Int×Unit):=
  iter (λ r y=>yFb n (λ bB bl aT=>r ((bB,(bl,(aT,()))),((),()))) y.1.1 y.1.2.1 y.1.2.2.1) k ((bB,(bl,(aT,()))),((),()))
def yUx(n:Nat)(l:List Int):Option (Int×Unit):=
  (y7m n n (l) ((↑l.length:Int)) ((0:Int)))
def yKr(bB:List Int)(aT:Int)(v1:Int):Option ((Int×Unit)⊕Unit):=
  (bif v1 != 0 then (some (Sum.inl ((v1,()))))else (some (Sum.inr ())))
def yIt(bB:List Int):Option (Int×Unit):=
  (some (((0:Int),())))
theorem yEM(n:Nat)(hn:big<=n)(bB:List Int)(hx:List.length (bB) < lenMax):LeF some (yH (λ ar aX ae=>yKr bB ar aX) (λ ae=>yIt bB) 0 (bB) ()) (y7m n n bB (List.length (bB):Int) 0):=by
  refine yK (f:=some) (W:=λ aQ ar ae=>y7m n aQ bB (List.length (bB):Int) ar) (λ aQ ar ae=>?_) hx () n (by unfold big at hn;unfold lenMax at hx;omega)
  show LeF _ _ (yFb n (y7m n aQ) bB (List.length (bB):Int) ar)
  exact y4 (y8 λ v1=>(y4 (y5 rfl) (y5 rfl))) (yl (y5 rfl))
def yBm(l:List Int):Option (Int×Unit):=
  (bif decide (List.length (l) < lenMax)then yH (λ ar aX ae=>yKr (l) ar aX) (λ ae=>yIt (l)) 0 (l) ()else none)
abbrev z0N_e:Entry:={ f:=198,args:=.pair t175 .unit,rS:=.pair t28 .unit,m:=λ x=>yBm x.1 }
theorem yON:FnOK Tryz.prog z0N_e:=fB Tryz.f198 (λ n x=>yUx n x.1) [[5,6,7]] eNil λ n hn x=>(yL λ hx=>by apply yEM n hn;exact hx)
def yQW(n:Nat)(holds:Bool)(e:Int):Option (Int×Unit):=
  (bif holds then some (e,())else some ((0:Int),()))
def z0d(holds:Bool)(e:Int):(Int×Unit):=
  (bif holds then (e,())else ((0:Int),()))
abbrev yUr (holds:Bool) (e:Int):Option (Int×Unit):=some (z0d holds e)
abbrev z0d_e:Entry:={ f:=199,args:=.pair t4 (.pair t28 .unit),rS:=.pair t28 .unit,m:=λ x=>yUr x.1 x.2.1 }
theorem yCP:FnOK Tryz.prog z0d_e:=fF (hm:=by intro x;show some (z0d x.1 x.2.1)=yQW 0 x.1 x.2.1;unfold yQW z0d;first|rfl|simp only[ym]) 0 Tryz.f199 (λ n x=>yQW n x.1 x.2.1) [] eNil
def y5d(n:Nat)(r0:List UInt8->List UInt8->Int->Option (Bool×Unit))(aF:List UInt8)(str0__0:List UInt8)(pos0__0:Int)(j2:Bool)(j7:Bool):Option (Bool×Unit):=
  (bif !j2 then (bif pos0__0==0 then some (Bool.false,())else (bif !j7 then some (Bool.false,())else r0 aF str0__0 (yf str0__0 pos0__0).2))else r0 aF str0__0 (yf str0__0 pos0__0).2)
def y2q(n:Nat)(r0:List UInt8->List UInt8->Int->Option (Bool×Unit))(aF:List UInt8)(str0__0:List UInt8)(pos0__0:Int)(j2:Bool):Option (Bool×Unit):=
  (bif decide ((yf str0__0 pos0__0).1 >= 48)then (bif decide ((yf str0__0 pos0__0).1<=57)then (y5d n r0 aF str0__0 pos0__0 j2 (Bool.true))else (y5d n r0 aF str0__0 pos0__0 j2 ((yf str0__0 pos0__0).1==95)))else (y5d n r0 aF str0__0 pos0__0 j2 ((yf str0__0 pos0__0).1==95)))
def yGj(n:Nat)(r0:List UInt8->List UInt8->Int->Option (Bool×Unit))(aF:List UInt8)(str0__0:List UInt8)(pos0__0:Int):Option (Bool×Unit):=
  (bif decide (pos0__0 < (↑str0__0.length:Int))then (bif decide ((yf str0__0 pos0__0).1 >= 65)then (bif decide ((yf str0__0 pos0__0).1<=90)then (y2q n r0 aF str0__0 pos0__0 (Bool.true))else (bif decide ((yf str0__0 pos0__0).1 >= 97)then (y2q n r0 aF str0__0 pos0__0 (decide ((yf str0__0 pos0__0).1<=122)))else (y2q n r0 aF str0__0 pos0__0 (Bool.false))))else (bif decide ((yf str0__0 pos0__0).1 >= 97)then (y2q n r0 aF str0__0 pos0__0 (decide ((yf str0__0 pos0__0).1<=122)))else (y2q n r0 aF str0__0 pos0__0 (Bool.false))))else (bif !aF==[]then some (decide ((↑aF.length:Int)<=24),())else some (Bool.false,())))
def y7g(n:Nat)(k:Nat)(aF:List UInt8)(str0__0:List UInt8)(pos0__0:Int):Option (Bool×Unit):=
  iter (λ r y=>yGj n (λ aF str0__0 pos0__0=>r ((aF,()),(((str0__0,pos0__0),()),()))) y.1.1 y.2.1.1.1 y.2.1.1.2) k ((aF,()),(((str0__0,pos0__0),()),()))
def yU4(n:Nat)(s:List UInt8):Option (Bool×Unit):=
  (y7g n n (s) (s) ((0:Int)))
def y8K(aF:List UInt8)(str0__0:List UInt8)(pos0__0:Int)(j2:Bool)(j7:Bool):Option ((Bool×Unit)⊕Unit):=
  (bif !j2 then (bif pos0__0==0 then (some (Sum.inl ((Bool.false,()))))else (bif !j7 then (some (Sum.inl ((Bool.false,()))))else (some (Sum.inr ()))))else (some (Sum.inr ())))
theorem y1A(n:Nat)(hn:big<=n)(r0:List UInt8->List UInt8->Int->Option (Bool×Unit))(aF:List UInt8)(str0__0:List UInt8)(pos0__0:Int)(j2:Bool)(j7:Bool):LeF (elim some λ (ae:Unit)=>r0 aF str0__0 (yf (str0__0) pos0__0).2) (y8K aF str0__0 pos0__0 j2 j7) (y5d n r0 aF str0__0 pos0__0 j2 j7):=
  (y4 (y4 (y5 rfl) (y4 (y5 rfl) (y5 rfl))) (y5 rfl))
def y51(aF:List UInt8)(str0__0:List UInt8)(pos0__0:Int)(j2:Bool):Option ((Bool×Unit)⊕Unit):=
  (bif decide ((yf str0__0 pos0__0).1 >= 48)then (bif decide ((yf str0__0 pos0__0).1<=57)then (y8K aF str0__0 pos0__0 j2 (Bool.true))else (y8K aF str0__0 pos0__0 j2 ((yf str0__0 pos0__0).1==95)))else (y8K aF str0__0 pos0__0 j2 ((yf str0__0 pos0__0).1==95)))
theorem y0C(n:Nat)(hn:big<=n)(r0:List UInt8->List UInt8->Int->Option (Bool×Unit))(aF:List UInt8)(str0__0:List UInt8)(pos0__0:Int)(j2:Bool):LeF (elim some λ (ae:Unit)=>r0 aF str0__0 (yf (str0__0) pos0__0).2) (y51 aF str0__0 pos0__0 j2) (y2q n r0 aF str0__0 pos0__0 j2):=
  (y4 (y4 (by apply y1A n hn) (by apply y1A n hn)) (by apply y1A n hn))
def yDZ(aF:List UInt8)(str0__0:List UInt8)(pos0__0:Int):Option ((Bool×Unit)⊕Unit):=
  (bif decide ((yf str0__0 pos0__0).1 >= 65)then (bif decide ((yf str0__0 pos0__0).1<=90)then (y51 aF str0__0 pos0__0 (Bool.true))else (bif decide ((yf str0__0 pos0__0).1 >= 97)then (y51 aF str0__0 pos0__0 (decide ((yf str0__0 pos0__0).1<=122)))else (y51 aF str0__0 pos0__0 (Bool.false))))else (bif decide ((yf str0__0 pos0__0).1 >= 97)then (y51 aF str0__0 pos0__0 (decide ((yf str0__0 pos0__0).1<=122)))else (y51 aF str0__0 pos0__0 (Bool.false))))
def yDs(aF:List UInt8)(str0__0:List UInt8):Option (Bool×Unit):=
  (bif !aF==[]then (some ((decide ((↑aF.length:Int)<=24),())))else (some ((Bool.false,()))))
theorem yET(n:Nat)(hn:big<=n)(aF:List UInt8)(str0__0:List UInt8)(hx:List.length (str0__0) < lenMax):LeF some (y9G (str0__0) (λ ar ae=>yDZ aF str0__0 ar) (λ ae=>yDs aF str0__0) (List.length (str0__0)) 0 ()) (y7g n n aF str0__0 0):=by
  refine yN4 (f:=some) (W:=λ aQ ar ae=>y7g n aQ aF str0__0 ar) (λ aQ ar ae=>?_) () n (by unfold big at hn;unfold lenMax at hx;omega)
  show LeF _ _ (yGj n (y7g n aQ) aF str0__0 ar)
  exact y4 (y4 (y4 (by apply y0C n hn) (y4 (by apply y0C n hn) (by apply y0C n hn))) (y4 (by apply y0C n hn) (by apply y0C n hn))) (yl (y4 (y5 rfl) (y5 rfl)))
def yJ0(s:List UInt8):Option (Bool×Unit):=
  (bif decide (List.length (s) < lenMax)then y9G (s) (λ ar ae=>yDZ (s) (s) ar) (λ ae=>yDs (s) (s)) (List.length (s)) 0 ()else none)
abbrev z0A_e:Entry:={ f:=200,args:=.pair t9 .unit,rS:=.pair t4 .unit,m:=λ x=>yJ0 x.1 }
theorem yOb:FnOK Tryz.prog z0A_e:=fB Tryz.f200 (λ n x=>yU4 n x.1) [[0,8]] eNil λ n hn x=>(yL λ hx=>by apply yET n hn;exact hx)
def zP_m(n:Nat)(s:Q4)(p1:Q1):Option (Bool×Unit):=
  some (decide (s.2.1 > (↑p1.2.2.1.length:Int)),())
def zP(s:Q4)(p1:Q1):(Bool×Unit):=
  (decide (s.2.1 > (↑p1.2.2.1.length:Int)),())
abbrev zP_M (s:Q4) (p1:Q1):Option (Bool×Unit):=some (zP s p1)
abbrev zP_e:Entry:={ f:=205,args:=.pair t63 (.pair (.ref t60) .unit),rS:=.pair t4 .unit,m:=λ x=>zP_M x.1 x.2.1 }
theorem yUK:FnOK Tryz.prog zP_e:=fF (hm:=by intro x;show some (zP x.1 x.2.1)=zP_m 0 x.1 x.2.1;unfold zP_m zP;first|rfl|simp only[ym]) 0 Tryz.f205 (λ n x=>zP_m n x.1 x.2.1) [] eNil
def zO_m(n:Nat)(x1:Nat):Option (Bool×Unit):=
  some (yT BinOp.neq FloatKind.f32 x1 (nat_lit 0),())
def zO(x1:Nat):(Bool×Unit):=
  (yT BinOp.neq FloatKind.f32 x1 (nat_lit 0),())
abbrev zO_M (x1:Nat):Option (Bool×Unit):=some (zO x1)
abbrev zO_e:Entry:={ f:=208,args:=.pair t61 .unit,rS:=.pair t4 .unit,m:=λ x=>zO_M x.1 }
theorem yTJ:FnOK Tryz.prog zO_e:=fF (hm:=by intro x;show some (zO x.1)=zO_m 0 x.1;unfold zO_m zO;first|rfl|simp only[ym]) 0 Tryz.f208 (λ n x=>zO_m n x.1) [] eNil
def zm_m(n:Nat)(s:Q4):Option (Int×Unit):=
  (bif decide (s.1 < 0)then some ((14:Int),())else (bif decide (s.2.1<=s.1)then some ((14:Int),())else (bif decide (s.2.1 > 100000)then some ((14:Int),())else some ((0:Int),()))))
def zm(s:Q4):(Int×Unit):=
  (bif decide (s.1 < 0)then ((14:Int),())else (bif decide (s.2.1<=s.1)then ((14:Int),())else (bif decide (s.2.1 > 100000)then ((14:Int),())else ((0:Int),()))))
abbrev zm_M (s:Q4):Option (Int×Unit):=some (zm s)
abbrev zm_e:Entry:={ f:=209,args:=.pair t63 .unit,rS:=.pair t3 .unit,m:=λ x=>zm_M x.1 }
theorem yUw:FnOK Tryz.prog zm_e:=fF (hm:=by intro x;show some (zm x.1)=zm_m 0 x.1;unfold zm_m zm;first|rfl|simp only[ym]) 0 Tryz.f209 (λ n x=>zm_m n x.1) [] eNil
def za_m(n:Nat)(x1:Nat):Option (Int×Unit):=
  ((yk FloatKind.f32 (yu BinOp.mul FloatKind.f32 x1 (nat_lit 1098907648)) i64).bind λ v0=>some (v0,()))
def za_M(x1:Nat):Option (Int×Unit):=za_m 0 x1
abbrev za_e:Entry:={ f:=224,args:=.pair t61 .unit,rS:=.pair t3 .unit,m:=λ x=>za_M x.1 }
theorem yUQ:FnOK Tryz.prog za_e:=fF 0 Tryz.f224 (λ n x=>za_m n x.1) [] eNil
def yKS(n:Nat)(r0:List (Q4)->((Q4)×Unit->Option (Bool×Unit))->Int->Int->Option (Int×Unit))(aF:List (Q4))(bT:(Q4)×Unit->Option (Bool×Unit))(aT:Int)(af:Int):Option (Int×Unit):=
  (bif decide (af < aT)then ((idx aF af).bind λ v1=>((bT (v1,())).bind λ v2=>(bif v2.1 then some (af,())else r0 aF bT aT (i64.wrap (af+1)))))else some ((-1:Int),()))
def yB7(n:Nat)(k:Nat)(aF:List (Q4))(bT:(Q4)×Unit->Option (Bool×Unit))(aT:Int)(af:Int):Option (Int×Unit):=
  iter (λ r y=>yKS n (λ aF bT aT af=>r ((aF,(bT,(aT,(af,())))),((),()))) y.1.1 y.1.2.1 y.1.2.2.1 y.1.2.2.2.1) k ((aF,(bT,(aT,(af,())))),((),()))
def zD_m(n:Nat)(s:List (Q4))(f:(Q4)×Unit->Option (Bool×Unit)):Option (Int×Unit):=
  (yB7 n n (s) (f) ((↑s.length:Int)) ((0:Int)))
def yMu(aF:List (Q4))(bT:(Q4)×Unit->Option (Bool×Unit))(af:Int)(v1:Q4):Option ((Int×Unit)⊕Unit):=
  ((bT (v1,())).bind λ v2=>(bif v2.1 then (some (Sum.inl ((af,()))))else (some (Sum.inr ()))))
def yPM(aF:List (Q4))(bT:(Q4)×Unit->Option (Bool×Unit)):Option (Int×Unit):=
  (some (((-1:Int),())))
theorem yHr(n:Nat)(hn:big<=n)(aF:List (Q4))(bT:(Q4)×Unit->Option (Bool×Unit))(hx:List.length (aF) < lenMax):LeF some (yH (λ ar aX ae=>yMu aF bT ar aX) (λ ae=>yPM aF bT) 0 (aF) ()) (yB7 n n aF bT (List.length (aF):Int) 0):=by
  refine yK (f:=some) (W:=λ aQ ar ae=>yB7 n aQ aF bT (List.length (aF):Int) ar) (λ aQ ar ae=>?_) hx () n (by unfold big at hn;unfold lenMax at hx;omega)
  show LeF _ _ (yKS n (yB7 n aQ) aF bT (List.length (aF):Int) ar)
  exact y4 (y8 λ v1=>(y8 λ v2=>(y4 (y5 rfl) (y5 rfl)))) (yl (y5 rfl))
def zD_M(s:List (Q4))(f:(Q4)×Unit->Option (Bool×Unit)):Option (Int×Unit):=
  (bif decide (List.length (s) < lenMax)then yH (λ ar aX ae=>yMu (s) (f) ar aX) (λ ae=>yPM (s) (f)) 0 (s) ()else none)
abbrev zD_e:Entry:={ f:=226,args:=.pair t58 (.pair t263 .unit),rS:=.pair t3 .unit,m:=λ x=>zD_M x.1 x.2.1 }
theorem yUL:FnOK Tryz.prog zD_e:=fB Tryz.f226 (λ n x=>zD_m n x.1 x.2.1) [[0,1,7,8]] eNil λ n hn x=>(yL λ hx=>by apply yHr n hn;exact hx)
def yJe(n:Nat)(r0:List Nat->(Nat×Unit->Option (Bool×Unit))->Int->Int->Option (Int×Unit))(aF:List Nat)(bT:Nat×Unit->Option (Bool×Unit))(aT:Int)(af:Int):Option (Int×Unit):=
  (bif decide (af < aT)then ((idx aF af).bind λ v1=>((bT (v1,())).bind λ v2=>(bif v2.1 then some (af,())else r0 aF bT aT (i64.wrap (af+1)))))else some ((-1:Int),()))
def yAN(n:Nat)(k:Nat)(aF:List Nat)(bT:Nat×Unit->Option (Bool×Unit))(aT:Int)(af:Int):Option (Int×Unit):=
  iter (λ r y=>yJe n (λ aF bT aT af=>r ((aF,(bT,(aT,(af,())))),((),()))) y.1.1 y.1.2.1 y.1.2.2.1 y.1.2.2.2.1) k ((aF,(bT,(aT,(af,())))),((),()))
def zE_m(n:Nat)(s:List Nat)(f:Nat×Unit->Option (Bool×Unit)):Option (Int×Unit):=
  (yAN n n (s) (f) ((↑s.length:Int)) ((0:Int)))
def yNA(aF:List Nat)(bT:Nat×Unit->Option (Bool×Unit))(af:Int)(v1:Nat):Option ((Int×Unit)⊕Unit):=
  ((bT (v1,())).bind λ v2=>(bif v2.1 then (some (Sum.inl ((af,()))))else (some (Sum.inr ()))))
def yP5(aF:List Nat)(bT:Nat×Unit->Option (Bool×Unit)):Option (Int×Unit):=
  (some (((-1:Int),())))
theorem yHx(n:Nat)(hn:big<=n)(aF:List Nat)(bT:Nat×Unit->Option (Bool×Unit))(hx:List.length (aF) < lenMax):LeF some (yH (λ ar aX ae=>yNA aF bT ar aX) (λ ae=>yP5 aF bT) 0 (aF) ()) (yAN n n aF bT (List.length (aF):Int) 0):=by
  refine yK (f:=some) (W:=λ aQ ar ae=>yAN n aQ aF bT (List.length (aF):Int) ar) (λ aQ ar ae=>?_) hx () n (by unfold big at hn;unfold lenMax at hx;omega)
  show LeF _ _ (yJe n (yAN n aQ) aF bT (List.length (aF):Int) ar)
  exact y4 (y8 λ v1=>(y8 λ v2=>(y4 (y5 rfl) (y5 rfl)))) (yl (y5 rfl))
def zE_M(s:List Nat)(f:Nat×Unit->Option (Bool×Unit)):Option (Int×Unit):=
  (bif decide (List.length (s) < lenMax)then yH (λ ar aX ae=>yNA (s) (f) ar aX) (λ ae=>yP5 (s) (f)) 0 (s) ()else none)
abbrev zE_e:Entry:={ f:=227,args:=.pair t35 (.pair t265 .unit),rS:=.pair t3 .unit,m:=λ x=>zE_M x.1 x.2.1 }
theorem yUs:FnOK Tryz.prog zE_e:=fB Tryz.f227 (λ n x=>zE_m n x.1 x.2.1) [[0,1,7,8]] eNil λ n hn x=>(yL λ hx=>by apply yHx n hn;exact hx)
end
end Go.Tw
end
section
set_option maxRecDepth 1000000
namespace Go.Tw
open Go.Vx Go.Vx.B Go.Proofs
noncomputable section
def yLb(n:Nat)(r0:List (List (Q4))->List (List (Q4))->Int->Option (Bool×Unit))(ax:List (List (Q4)))(az:List (List (Q4)))(aL:Int):Option (Bool×Unit):=
  (bif decide (aL < (↑ax.length:Int))then ((idx ax aL).bind λ v1=>((idx az aL).bind λ v2=>((zX_M v1 v2).bind λ v3=>(bif !v3.1 then some (Bool.false,())else r0 ax az (i64.wrap (aL+1))))))else some (Bool.true,()))
def yB1(n:Nat)(k:Nat)(ax:List (List (Q4)))(az:List (List (Q4)))(aL:Int):Option (Bool×Unit):=
  iter (λ r y=>yLb n (λ ax az aL=>r ((ax,(az,(aL,()))),((),()))) y.1.1 y.1.2.1 y.1.2.2.1) k ((ax,(az,(aL,()))),((),()))
def zw_m(n:Nat)(a:List (List (Q4)))(b:List (List (Q4))):Option (Bool×Unit):=
  (bif (↑a.length:Int) != (↑b.length:Int)then some (Bool.false,())else (yB1 n n (a) (b) ((0:Int))))
def yS6(ax:List (List (Q4)))(az:List (List (Q4)))(aL:Int)(v1:List (Q4)):Option ((Bool×Unit)⊕Unit):=
  ((idx az aL).bind λ v2=>((zX_M v1 v2).bind λ v3=>(bif !v3.1 then (some (Sum.inl ((Bool.false,()))))else (some (Sum.inr ())))))
def yT8(ax:List (List (Q4)))(az:List (List (Q4))):Option (Bool×Unit):=
  (some ((Bool.true,())))
theorem yHR(n:Nat)(hn:big<=n)(ax:List (List (Q4)))(az:List (List (Q4)))(hx:List.length (ax) < lenMax):LeF some (yH (λ ar aX ae=>yS6 ax az ar aX) (λ ae=>yT8 ax az) 0 (ax) ()) (yB1 n n ax az 0):=by
  refine yK (f:=some) (W:=λ aQ ar ae=>yB1 n aQ ax az ar) (λ aQ ar ae=>?_) hx () n (by unfold big at hn;unfold lenMax at hx;omega)
  show LeF _ _ (yLb n (yB1 n aQ) ax az ar)
  exact y4 (y8 λ v1=>(y8 λ v2=>(y8 λ v3=>(y4 (y5 rfl) (y5 rfl))))) (yl (y5 rfl))
def zw_M(a:List (List (Q4)))(b:List (List (Q4))):Option (Bool×Unit):=
  (bif (↑a.length:Int) != (↑b.length:Int)then (some ((Bool.false,())))else (bif decide (List.length (a) < lenMax)then yH (λ ar aX ae=>yS6 (a) (b) ar aX) (λ ae=>yT8 (a) (b)) 0 (a) ()else none))
abbrev zw_e:Entry:={ f:=64,args:=.pair t96 (.pair t96 .unit),rS:=.pair t4 .unit,m:=λ x=>zw_M x.1 x.2.1 }
theorem yUM:FnOK Tryz.prog zw_e:=fB Tryz.f64 (λ n x=>zw_m n x.1 x.2.1) [[0,1,5]] (yC yTA eNil) λ n hn x=>(y4 (y5 rfl) (yL λ hx=>by apply yHR n hn;exact hx))
def zo_m(n:Nat)(c:Q3)(tick:Int):Option ((Q4)×Unit):=
  (bif c.2.1==0 then none else ((yMP ((1:Int),(0:Int),()) (i64.wrap (c.2.2.1 * i64.wrap (tick.tdiv c.2.1)))).bind λ v0=>some ((v0.1.1,v0.1.2.1,()),())))
def zo_M(c:Q3)(tick:Int):Option ((Q4)×Unit):=zo_m 0 c tick
abbrev zo_e:Entry:={ f:=81,args:=.pair t126 (.pair t3 .unit),rS:=.pair t57 .unit,m:=λ x=>zo_M x.1 x.2.1 }
theorem yUi:FnOK Tryz.prog zo_e:=fF 0 Tryz.f81 (λ n x=>zo_m n x.1 x.2.1) [] (yC ySl eNil)
def yQf(n:Nat)(n1:Int)(least:Int)(most:Int):Option (Int×Unit):=
  (bif decide (n1 < least)then some ((z18 Bool.true (3:Int)).1,())else some ((z18 (decide (n1 > most)) (3:Int)).1,()))
def z0c(n1:Int)(least:Int)(most:Int):(Int×Unit):=
  (bif decide (n1 < least)then ((z18 Bool.true (3:Int)).1,())else ((z18 (decide (n1 > most)) (3:Int)).1,()))
abbrev yUf (n1:Int) (least:Int) (most:Int):Option (Int×Unit):=some (z0c n1 least most)
abbrev z0c_e:Entry:={ f:=114,args:=.pair t3 (.pair t3 (.pair t3 .unit)),rS:=.pair t28 .unit,m:=λ x=>yUf x.1 x.2.1 x.2.2.1 }
theorem yDE:FnOK Tryz.prog z0c_e:=fF (hm:=by intro x;show some (z0c x.1 x.2.1 x.2.2.1)=yQf 0 x.1 x.2.1 x.2.2.1;unfold yQf z0c;first|rfl|simp only[ym]) 0 Tryz.f114 (λ n x=>yQf n x.1 x.2.1 x.2.2.1) [] (yC y6u eNil)
def zl_m(n:Nat)(s:List UInt8):Option (Int×Unit):=
  ((yMc s).bind λ v0=>(bif !v0.1 then some ((8:Int),())else some ((0:Int),())))
def zl_M(s:List UInt8):Option (Int×Unit):=zl_m 0 s
abbrev zl_e:Entry:={ f:=118,args:=.pair t9 .unit,rS:=.pair t3 .unit,m:=λ x=>zl_M x.1 }
theorem ySU:FnOK Tryz.prog zl_e:=fF 0 Tryz.f118 (λ n x=>zl_m n x.1) [] (yC ySw eNil)
def yJs(n:Nat)(r0:Q2->List (Q4)->Int->Int->Option (Bool×Unit))(aK:Q2)(bl:List (Q4))(aT:Int)(af:Int):Option (Bool×Unit):=
  (bif decide (af < aT)then ((idx bl af).bind λ v1=>(bif decide ((if (z08 v1.2.1).1 > (z08 v1.1).1 then (z08 v1.2.1).1 else (z08 v1.1).1) > 4194304)then some (Bool.false,())else r0 aK bl aT (i64.wrap (af+1))))else some (decide (aK.2.2.1<=4096),()))
def yBz(n:Nat)(k:Nat)(aK:Q2)(bl:List (Q4))(aT:Int)(af:Int):Option (Bool×Unit):=
  iter (λ r y=>yJs n (λ aK bl aT af=>r ((aK,(bl,(aT,(af,())))),((),()))) y.1.1 y.1.2.1 y.1.2.2.1 y.1.2.2.2.1) k ((aK,(bl,(aT,(af,())))),((),()))
def zr_m(n:Nat)(t:Q2):Option (Bool×Unit):=
  (yBz n n (t) (t.2.1) ((↑t.2.1.length:Int)) ((0:Int)))
def yQ6(aK:Q2)(bl:List (Q4))(af:Int)(v1:Q4):Option ((Bool×Unit)⊕Unit):=
  (bif decide ((if (z08 v1.2.1).1 > (z08 v1.1).1 then (z08 v1.2.1).1 else (z08 v1.1).1) > 4194304)then (some (Sum.inl ((Bool.false,()))))else (some (Sum.inr ())))
def yRg(aK:Q2)(bl:List (Q4)):Option (Bool×Unit):=
  (some ((decide (aK.2.2.1<=4096),())))
theorem yHy(n:Nat)(hn:big<=n)(aK:Q2)(bl:List (Q4))(hx:List.length (bl) < lenMax):LeF some (yH (λ ar aX ae=>yQ6 aK bl ar aX) (λ ae=>yRg aK bl) 0 (bl) ()) (yBz n n aK bl (List.length (bl):Int) 0):=by
  refine yK (f:=some) (W:=λ aQ ar ae=>yBz n aQ aK bl (List.length (bl):Int) ar) (λ aQ ar ae=>?_) hx () n (by unfold big at hn;unfold lenMax at hx;omega)
  show LeF _ _ (yJs n (yBz n aQ) aK bl (List.length (bl):Int) ar)
  exact y4 (y8 λ v1=>(y4 (y5 rfl) (y5 rfl))) (yl (y5 rfl))
def zr_M(t:Q2):Option (Bool×Unit):=
  (bif decide (List.length (t.2.1) < lenMax)then yH (λ ar aX ae=>yQ6 (t) (t.2.1) ar aX) (λ ae=>yRg (t) (t.2.1)) 0 (t.2.1) ()else none)
abbrev zr_e:Entry:={ f:=129,args:=.pair t33 .unit,rS:=.pair t4 .unit,m:=λ x=>zr_M x.1 }
theorem yTO:FnOK Tryz.prog zr_e:=fB Tryz.f129 (λ n x=>zr_m n x.1) [[1,6,7,8]] (yC yCZ eNil) λ n hn x=>(yL λ hx=>by apply yHy n hn;exact hx)
def yPL(n:Nat)(z:Q4):Option (Int×Unit):=
  some ((z18 (decide ((if (z08 z.2.1).1 > (z08 z.1).1 then (z08 z.2.1).1 else (z08 z.1).1) > 16777216)) (1:Int)).1,())
def z0W(z:Q4):(Int×Unit):=
  ((z18 (decide ((if (z08 z.2.1).1 > (z08 z.1).1 then (z08 z.2.1).1 else (z08 z.1).1) > 16777216)) (1:Int)).1,())
abbrev ySY (z:Q4):Option (Int×Unit):=some (z0W z)
abbrev z0W_e:Entry:={ f:=138,args:=.pair t57 .unit,rS:=.pair t28 .unit,m:=λ x=>ySY x.1 }
theorem ySo:FnOK Tryz.prog z0W_e:=fF (hm:=by intro x;show some (z0W x.1)=yPL 0 x.1;unfold yPL z0W;first|rfl|simp only[ym]) 0 Tryz.f138 (λ n x=>yPL n x.1) [] (yC yCZ (yC y6u eNil))
def y7t(n:Nat)(r0:Q1->List (Q4)->List Nat->Int->Int->Q1->Q3->Q3->Q1->Q3->Q3->Q4->Q1->Q1->Int->Int->Int->Int->Q1->Q3->Q3->Q1->Q3->Q3->Q4->Q1->Q1->Option ((Q4)×Unit))(j8:Q1)(j9:List (Q4))(j10:Int)(j11:Nat)(j12:List Nat)(j13:Int)(j14:Int)(j15:Q1)(j16:Q3)(j17:Q3)(j18:Q1)(j19:Q3)(j20:Q3)(j21:Q4)(j22:Q1)(j23:Q1)(j24:Int)(j25:Int)(j26:Int)(j27:Int)(j28:Q1)(j29:Q3)(j30:Q3)(j31:Q1)(j32:Q3)(j33:Q3)(j34:Q4)(j35:Q1)(j36:Q1):Option ((Q4)×Unit):=
  (bif decide ((↑j9.length:Int) > 0)then ((idx j9 (0:Int)).bind λ v37=>(bif decide (v37.1<=j10)then r0 j8 j9 j12 j13 (i64.wrap (j14+1)) j15 j16 j17 j18 j19 j20 j21 j22 j23 j24 j25 j26 j27 j28 j29 j30 j31 j32 j33 j34 j35 j36 else ((yk FloatKind.f32 (yu BinOp.mul FloatKind.f32 j11 (nat_lit 1098907648)) i64).bind λ v42=>((zR_M j19 (i64.wrap (j8.2.1+j10))).bind λ v43=>((zR_M j20 (i64.wrap (j8.2.1+j10))).bind λ v44=>r0 j8 j9 j12 j13 (i64.wrap (j14+1)) j15 j16 j17 j18 j19 j20 j21 j22 j23 j24 j25 (z17 (j26,j27,()) (z0z (z01 v43.1).1 v44.1).1).1.1 (z17 (j26,j27,()) (z0z (z01 v43.1).1 v44.1).1).1.2.1 j28 j29 j30 j31 j32 j33 j34 j35 j36)))))else ((yk FloatKind.f32 (yu BinOp.mul FloatKind.f32 j11 (nat_lit 1098907648)) i64).bind λ v45=>((zR_M j19 (i64.wrap (j8.2.1+j10))).bind λ v46=>((zR_M j20 (i64.wrap (j8.2.1+j10))).bind λ v47=>r0 j8 j9 j12 j13 (i64.wrap (j14+1)) j15 j16 j17 j18 j19 j20 j21 j22 j23 j24 j25 (z17 (j26,j27,()) (z0z (z01 v46.1).1 v47.1).1).1.1 (z17 (j26,j27,()) (z0z (z01 v46.1).1 v47.1).1).1.2.1 j28 j29 j30 j31 j32 j33 j34 j35 j36))))
def yFT(n:Nat)(r0:Q1->List (Q4)->List Nat->Int->Int->Q1->Q3->Q3->Q1->Q3->Q3->Q4->Q1->Q1->Int->Int->Int->Int->Q1->Q3->Q3->Q1->Q3->Q3->Q4->Q1->Q1->Option ((Q4)×Unit))(r2:Q1->List (Q4)->Int->Nat->List Nat->Int->Int->Q1->Q3->Q3->Q1->Q3->Q3->Q4->Q1->Q1->Int->Int->Int->Int->Q1->Q3->Q3->Q1->Q3->Q3->Q4->Q1->Q1->Option ((Q4)×Unit))(b8:Q1)(aj:List (Q4))(b9:Int)(bn:Nat)(aR:List Nat)(aG:Int)(aH:Int)(av:Q1)(aw:Q3)(aN:Q3)(bG:Q1)(bH:Q3)(aM:Q3)(bI:Q4)(bp:Q1)(aW:Q1)(aO:Int)(aP:Int)(aU:Int)(aV:Int)(bf:Q1)(bg:Q3)(bJ:Q3)(cm:Q1)(cn:Q3)(bD:Q3)(co:Q4)(cg:Q1)(bq:Q1):Option ((Q4)×Unit):=
  (bif decide ((↑aj.length:Int) > 0)then ((idx aj (0:Int)).bind λ v3=>(bif decide (v3.2.1<=b9)then (bif decide ((0:Int)<=1) && decide ((1:Int)<=(↑aj.length:Int))then r2 b8 (List.drop (Int.toNat (1:Int)) aj) b9 bn aR aG aH av aw aN bG bH aM bI bp aW aO aP aU aV bf bg bJ cm cn bD co cg bq else none)else (y7t n r0 (b8) (aj) (b9) (bn) (aR) (aG) (aH) (av) (aw) (aN) (bG) (bH) (aM) (bI) (bp) (aW) (aO) (aP) (aU) (aV) (bf) (bg) (bJ) (cm) (cn) (bD) (co) (cg) (bq))))else (y7t n r0 (b8) (aj) (b9) (bn) (aR) (aG) (aH) (av) (aw) (aN) (bG) (bH) (aM) (bI) (bp) (aW) (aO) (aP) (aU) (aV) (bf) (bg) (bJ) (cm) (cn) (bD) (co) (cg) (bq)))
def y7Z(n:Nat)(r0:Q1->List (Q4)->List Nat->Int->Int->Q1->Q3->Q3->Q1->Q3->Q3->Q4->Q1->Q1->Int->Int->Int->Int->Q1->Q3->Q3->Q1->Q3->Q3->Q4->Q1->Q1->Option ((Q4)×Unit))(k:Nat)(b8:Q1)(aj:List (Q4))(b9:Int)(bn:Nat)(aR:List Nat)(aG:Int)(aH:Int)(av:Q1)(aw:Q3)(aN:Q3)(bG:Q1)(bH:Q3)(aM:Q3)(bI:Q4)(bp:Q1)(aW:Q1)(aO:Int)(aP:Int)(aU:Int)(aV:Int)(bf:Q1)(bg:Q3)(bJ:Q3)(cm:Q1)(cn:Q3)(bD:Q3)(co:Q4)(cg:Q1)(bq:Q1):Option ((Q4)×Unit):=
  iter (λ r y=>yFT n r0 (λ b8 aj b9 bn aR aG aH av aw aN bG bH aM bI bp aW aO aP aU aV bf bg bJ cm cn bD co cg bq=>r ((b8,(aj,(b9,(bn,(aR,(aG,(aH,()))))))),(((av,(aw,(aN,(bG,(bH,(aM,(bI,(bp,((aW,()),()))))))))),((aO,(aP,())),((aU,(aV,())),()))),(bf,(bg,(bJ,(cm,(cn,(bD,(co,(cg,((bq,()),())))))))))))) y.1.1 y.1.2.1 y.1.2.2.1 y.1.2.2.2.1 y.1.2.2.2.2.1 y.1.2.2.2.2.2.1 y.1.2.2.2.2.2.2.1 y.2.1.1.1 y.2.1.1.2.1 y.2.1.1.2.2.1 y.2.1.1.2.2.2.1 y.2.1.1.2.2.2.2.1 y.2.1.1.2.2.2.2.2.1 y.2.1.1.2.2.2.2.2.2.1 y.2.1.1.2.2.2.2.2.2.2.1 y.2.1.1.2.2.2.2.2.2.2.2.1.1 y.2.1.2.1.1 y.2.1.2.1.2.1 y.2.1.2.2.1.1 y.2.1.2.2.1.2.1 y.2.2.1 y.2.2.2.1 y.2.2.2.2.1 y.2.2.2.2.2.1 y.2.2.2.2.2.2.1 y.2.2.2.2.2.2.2.1 y.2.2.2.2.2.2.2.2.1 y.2.2.2.2.2.2.2.2.2.1 y.2.2.2.2.2.2.2.2.2.2.1.1) k ((b8,(aj,(b9,(bn,(aR,(aG,(aH,()))))))),(((av,(aw,(aN,(bG,(bH,(aM,(bI,(bp,((aW,()),()))))))))),((aO,(aP,())),((aU,(aV,())),()))),(bf,(bg,(bJ,(cm,(cn,(bD,(co,(cg,((bq,()),())))))))))))
def yGJ(n:Nat)(r0:Q1->List (Q4)->List Nat->Int->Int->Q1->Q3->Q3->Q1->Q3->Q3->Q4->Q1->Q1->Int->Int->Int->Int->Q1->Q3->Q3->Q1->Q3->Q3->Q4->Q1->Q1->Option ((Q4)×Unit))(aK:Q1)(ay:List (Q4))(au:List Nat)(aq:Int)(aJ:Int)(aA:Q1)(aB:Q3)(aZ:Q3)(bV:Q1)(bW:Q3)(aY:Q3)(bX:Q4)(bO:Q1)(bm:Q1)(al:Int)(am:Int)(b6:Int)(b7:Int)(bw:Q1)(bx:Q3)(bY:Q3)(cC:Q1)(cD:Q3)(bF:Q3)(cE:Q4)(cl:Q1)(bQ:Q1):Option ((Q4)×Unit):=
  (bif decide (aJ < aq)then ((idx au aJ).bind λ v1=>(y7Z n r0 n (aK) (ay) (aJ) (v1) (au) (aq) (aJ) (aA) (aB) (aZ) (bV) (bW) (aY) (bX) (bO) (bm) (al) (am) (b6) (b7) (bw) (bx) (bY) (cC) (cD) (bF) (cE) (cl) (bQ)))else some ((b6,b7,()),()))
def y7h(n:Nat)(k:Nat)(aK:Q1)(ay:List (Q4))(au:List Nat)(aq:Int)(aJ:Int)(aA:Q1)(aB:Q3)(aZ:Q3)(bV:Q1)(bW:Q3)(aY:Q3)(bX:Q4)(bO:Q1)(bm:Q1)(al:Int)(am:Int)(b6:Int)(b7:Int)(bw:Q1)(bx:Q3)(bY:Q3)(cC:Q1)(cD:Q3)(bF:Q3)(cE:Q4)(cl:Q1)(bQ:Q1):Option ((Q4)×Unit):=
  iter (λ r y=>yGJ n (λ aK ay au aq aJ aA aB aZ bV bW aY bX bO bm al am b6 b7 bw bx bY cC cD bF cE cl bQ=>r ((aK,(ay,(au,(aq,(aJ,()))))),(((aA,(aB,(aZ,(bV,(bW,(aY,(bX,(bO,((bm,()),()))))))))),((al,(am,())),((b6,(b7,())),()))),(bw,(bx,(bY,(cC,(cD,(bF,(cE,(cl,((bQ,()),())))))))))))) y.1.1 y.1.2.1 y.1.2.2.1 y.1.2.2.2.1 y.1.2.2.2.2.1 y.2.1.1.1 y.2.1.1.2.1 y.2.1.1.2.2.1 y.2.1.1.2.2.2.1 y.2.1.1.2.2.2.2.1 y.2.1.1.2.2.2.2.2.1 y.2.1.1.2.2.2.2.2.2.1 y.2.1.1.2.2.2.2.2.2.2.1 y.2.1.1.2.2.2.2.2.2.2.2.1.1 y.2.1.2.1.1 y.2.1.2.1.2.1 y.2.1.2.2.1.1 y.2.1.2.2.1.2.1 y.2.2.1 y.2.2.2.1 y.2.2.2.2.1 y.2.2.2.2.2.1 y.2.2.2.2.2.2.1 y.2.2.2.2.2.2.2.1 y.2.2.2.2.2.2.2.2.1 y.2.2.2.2.2.2.2.2.2.1 y.2.2.2.2.2.2.2.2.2.2.1.1) k ((aK,(ay,(au,(aq,(aJ,()))))),(((aA,(aB,(aZ,(bV,(bW,(aY,(bX,(bO,((bm,()),()))))))))),((al,(am,())),((b6,(b7,())),()))),(bw,(bx,(bY,(cC,(cD,(bF,(cE,(cl,((bQ,()),())))))))))))
def yUh(n:Nat)(r1:Q1)(a:Q3)(b:Q3):Option ((Q4)×Unit):=
  (y7h n n (r1) (r1.2.2.2.1) (r1.2.2.1) ((↑r1.2.2.1.length:Int)) ((0:Int)) (r1) (a) (b) (r1) (a) (b) (((0:Int),(0:Int),())) (r1) (r1) ((0:Int)) ((0:Int)) ((0:Int)) ((0:Int)) (r1) (a) (b) (r1) (a) (b) (((0:Int),(0:Int),())) (r1) (r1))
def yAS(j8:Q1)(j9:List (Q4))(j10:Int)(j11:Nat)(j12:List Nat)(j13:Int)(j14:Int)(j15:Q1)(j16:Q3)(j17:Q3)(j18:Q1)(j19:Q3)(j20:Q3)(j21:Q4)(j22:Q1)(j23:Q1)(j24:Int)(j25:Int)(j26:Int)(j27:Int)(j28:Q1)(j29:Q3)(j30:Q3)(j31:Q1)(j32:Q3)(j33:Q3)(j34:Q4)(j35:Q1)(j36:Q1):Option (((Q4)×Unit)⊕((List (Q4))×Int×Int)):=
  (bif decide ((↑j9.length:Int) > 0)then ((idx j9 (0:Int)).bind λ v37=>(bif decide (v37.1<=j10)then (some (Sum.inr ((j9),(j26),(j27))))else ((yk FloatKind.f32 (yu BinOp.mul FloatKind.f32 j11 (nat_lit 1098907648)) i64).bind λ v42=>((zR_M j19 (i64.wrap (j8.2.1+j10))).bind λ v43=>((zR_M j20 (i64.wrap (j8.2.1+j10))).bind λ v44=>(some (Sum.inr ((j9),((z17 (j26,j27,()) (z0z (z01 v43.1).1 v44.1).1).1.1),((z17 (j26,j27,()) (z0z (z01 v43.1).1 v44.1).1).1.2.1)))))))))else ((yk FloatKind.f32 (yu BinOp.mul FloatKind.f32 j11 (nat_lit 1098907648)) i64).bind λ v45=>((zR_M j19 (i64.wrap (j8.2.1+j10))).bind λ v46=>((zR_M j20 (i64.wrap (j8.2.1+j10))).bind λ v47=>(some (Sum.inr ((j9),((z17 (j26,j27,()) (z0z (z01 v46.1).1 v47.1).1).1.1),((z17 (j26,j27,()) (z0z (z01 v46.1).1 v47.1).1).1.2.1))))))))
theorem y33(n:Nat)(hn:big<=n)(r0:Q1->List (Q4)->List Nat->Int->Int->Q1->Q3->Q3->Q1->Q3->Q3->Q4->Q1->Q1->Int->Int->Int->Int->Q1->Q3->Q3->Q1->Q3->Q3->Q4->Q1->Q1->Option ((Q4)×Unit))(j8:Q1)(j9:List (Q4))(j10:Int)(j11:Nat)(j12:List Nat)(j13:Int)(j14:Int)(j15:Q1)(j16:Q3)(j17:Q3)(j18:Q1)(j19:Q3)(j20:Q3)(j21:Q4)(j22:Q1)(j23:Q1)(j24:Int)(j25:Int)(j26:Int)(j27:Int)(j28:Q1)(j29:Q3)(j30:Q3)(j31:Q1)(j32:Q3)(j33:Q3)(j34:Q4)(j35:Q1)(j36:Q1):LeF (elim some λ (ae:((List (Q4))×Int×Int))=>r0 j8 ae.1 j12 j13 (i64.wrap (j14+1)) j15 j16 j17 j18 j19 j20 j21 j22 j23 j24 j25 ae.2.1 ae.2.2 j28 j29 j30 j31 j32 j33 j34 j35 j36) (yAS j8 j9 j10 j11 j12 j13 j14 j15 j16 j17 j18 j19 j20 j21 j22 j23 j24 j25 j26 j27 j28 j29 j30 j31 j32 j33 j34 j35 j36) (y7t n r0 j8 j9 j10 j11 j12 j13 j14 j15 j16 j17 j18 j19 j20 j21 j22 j23 j24 j25 j26 j27 j28 j29 j30 j31 j32 j33 j34 j35 j36):=
  (y4 (y8 λ v37=>(y4 (y5 rfl) (y8 λ v42=>(y8 λ v43=>(y8 λ v44=>(y5 rfl)))))) (y8 λ v45=>(y8 λ v46=>(y8 λ v47=>(y5 rfl)))))
def yL3(b8:Q1)(b9:Int)(bn:Nat)(aR:List Nat)(aG:Int)(aH:Int)(av:Q1)(aw:Q3)(aN:Q3)(bG:Q1)(bH:Q3)(aM:Q3)(bI:Q4)(bp:Q1)(aW:Q1)(aO:Int)(aP:Int)(aU:Int)(aV:Int)(bf:Q1)(bg:Q3)(bJ:Q3)(cm:Q1)(cn:Q3)(bD:Q3)(co:Q4)(cg:Q1)(bq:Q1)(aj:List (Q4)):Option ((((Q4)×Unit)⊕((List (Q4))×Int×Int))⊕(List (Q4))):=
  (bif decide ((↑aj.length:Int) > 0)then ((idx aj (0:Int)).bind λ v3=>(bif decide (v3.2.1<=b9)then (bif decide ((0:Int)<=1) && decide ((1:Int)<=(↑aj.length:Int))then (some (Sum.inr (List.drop (Int.toNat (1:Int)) aj)))else none)else (Option.map Sum.inl (yAS (b8) (aj) (b9) (bn) (aR) (aG) (aH) (av) (aw) (aN) (bG) (bH) (aM) (bI) (bp) (aW) (aO) (aP) (aU) (aV) (bf) (bg) (bJ) (cm) (cn) (bD) (co) (cg) (bq)))))else (Option.map Sum.inl (yAS (b8) (aj) (b9) (bn) (aR) (aG) (aH) (av) (aw) (aN) (bG) (bH) (aM) (bI) (bp) (aW) (aO) (aP) (aU) (aV) (bf) (bg) (bJ) (cm) (cn) (bD) (co) (cg) (bq))))
theorem yE6(n:Nat)(hn:big<=n)(r0:Q1->List (Q4)->List Nat->Int->Int->Q1->Q3->Q3->Q1->Q3->Q3->Q4->Q1->Q1->Int->Int->Int->Int->Q1->Q3->Q3->Q1->Q3->Q3->Q4->Q1->Q1->Option ((Q4)×Unit))(b8:Q1)(b9:Int)(bn:Nat)(aR:List Nat)(aG:Int)(aH:Int)(av:Q1)(aw:Q3)(aN:Q3)(bG:Q1)(bH:Q3)(aM:Q3)(bI:Q4)(bp:Q1)(aW:Q1)(aO:Int)(aP:Int)(aU:Int)(aV:Int)(bf:Q1)(bg:Q3)(bJ:Q3)(cm:Q1)(cn:Q3)(bD:Q3)(co:Q4)(cg:Q1)(bq:Q1)(aj:List (Q4)):LeF (elim some λ (ae:((List (Q4))×Int×Int))=>r0 b8 ae.1 aR aG (i64.wrap (aH+1)) av aw aN bG bH aM bI bp aW aO aP ae.2.1 ae.2.2 bf bg bJ cm cn bD co cg bq) (y26 (λ ae=>yL3 b8 b9 bn aR aG aH av aw aN bG bH aM bI bp aW aO aP aU aV bf bg bJ cm cn bD co cg bq ae) wMax aj) (y7Z n r0 n b8 aj b9 bn aR aG aH av aw aN bG bH aM bI bp aW aO aP aU aV bf bg bJ cm cn bD co cg bq):=by
  refine y4a (f:=(elim some λ (ae:((List (Q4))×Int×Int))=>r0 b8 ae.1 aR aG (i64.wrap (aH+1)) av aw aN bG bH aM bI bp aW aO aP ae.2.1 ae.2.2 bf bg bJ cm cn bD co cg bq)) (W:=λ aQ ae=>y7Z n r0 aQ b8 ae b9 bn aR aG aH av aw aN bG bH aM bI bp aW aO aP aU aV bf bg bJ cm cn bD co cg bq) (body:=(λ ae=>yL3 b8 b9 bn aR aG aH av aw aN bG bH aM bI bp aW aO aP aU aV bf bg bJ cm cn bD co cg bq ae)) (λ aQ ae=>?_) wMax n aj (by unfold big at hn;unfold wMax;omega)
  show LeF _ _ (yFT n r0 (y7Z n r0 aQ) b8 ae b9 bn aR aG aH av aw aN bG bH aM bI bp aW aO aP aU aV bf bg bJ cm cn bD co cg bq)
  exact (y4 (y8 λ v3=>(y4 (y4 (y5 rfl) y02) (yl (by apply y33 n hn)))) (yl (by apply y33 n hn)))
def yLx(aK:Q1)(au:List Nat)(aA:Q1)(aB:Q3)(aZ:Q3)(bV:Q1)(bW:Q3)(aY:Q3)(bX:Q4)(bO:Q1)(bm:Q1)(al:Int)(am:Int)(bw:Q1)(bx:Q3)(bY:Q3)(cC:Q1)(cD:Q3)(bF:Q3)(cE:Q4)(cl:Q1)(bQ:Q1)(aJ:Int)(v1:Nat)(ay:List (Q4))(b6:Int)(b7:Int):Option (((Q4)×Unit)⊕((List (Q4))×Int×Int)):=
  (y26 (λ ae=>yL3 (aK) (aJ) (v1) (au) ((↑au.length:Int)) (aJ) (aA) (aB) (aZ) (bV) (bW) (aY) (bX) (bO) (bm) (al) (am) (b6) (b7) (bw) (bx) (bY) (cC) (cD) (bF) (cE) (cl) (bQ) ae) wMax (ay))
def yOR(aK:Q1)(au:List Nat)(aA:Q1)(aB:Q3)(aZ:Q3)(bV:Q1)(bW:Q3)(aY:Q3)(bX:Q4)(bO:Q1)(bm:Q1)(al:Int)(am:Int)(bw:Q1)(bx:Q3)(bY:Q3)(cC:Q1)(cD:Q3)(bF:Q3)(cE:Q4)(cl:Q1)(bQ:Q1)(ay:List (Q4))(b6:Int)(b7:Int):Option ((Q4)×Unit):=
  (some (((b6,b7,()),())))
theorem yEx(n:Nat)(hn:big<=n)(aK:Q1)(au:List Nat)(aA:Q1)(aB:Q3)(aZ:Q3)(bV:Q1)(bW:Q3)(aY:Q3)(bX:Q4)(bO:Q1)(bm:Q1)(al:Int)(am:Int)(bw:Q1)(bx:Q3)(bY:Q3)(cC:Q1)(cD:Q3)(bF:Q3)(cE:Q4)(cl:Q1)(bQ:Q1)(ay:List (Q4))(b6:Int)(b7:Int)(hx:List.length (au) < lenMax):LeF some (yH (λ ar aX ae=>yLx aK au aA aB aZ bV bW aY bX bO bm al am bw bx bY cC cD bF cE cl bQ ar aX ae.1 ae.2.1 ae.2.2) (λ ae=>yOR aK au aA aB aZ bV bW aY bX bO bm al am bw bx bY cC cD bF cE cl bQ ae.1 ae.2.1 ae.2.2) 0 (au) (ay,b6,b7)) (y7h n n aK ay au (List.length (au):Int) 0 aA aB aZ bV bW aY bX bO bm al am b6 b7 bw bx bY cC cD bF cE cl bQ):=by
  refine yK (f:=some) (W:=λ aQ ar ae=>y7h n aQ aK ae.1 au (List.length (au):Int) ar aA aB aZ bV bW aY bX bO bm al am ae.2.1 ae.2.2 bw bx bY cC cD bF cE cl bQ) (λ aQ ar ae=>?_) hx (ay,b6,b7) n (by unfold big at hn;unfold lenMax at hx;omega)
  show LeF _ _ (yGJ n (y7h n aQ) aK ae.1 au (List.length (au):Int) ar aA aB aZ bV bW aY bX bO bm al am ae.2.1 ae.2.2 bw bx bY cC cD bF cE cl bQ)
  exact y4 (y8 λ v1=>(by apply yE6 n hn)) (yl (y5 rfl))
def yF3(r1:Q1)(a:Q3)(b:Q3):Option ((Q4)×Unit):=
  (bif decide (List.length (r1.2.2.1) < lenMax)then yH (λ ar aX ae=>yLx (r1) (r1.2.2.1) (r1) (a) (b) (r1) (a) (b) (((0:Int),(0:Int),())) (r1) (r1) ((0:Int)) ((0:Int)) (r1) (a) (b) (r1) (a) (b) (((0:Int),(0:Int),())) (r1) (r1) ar aX ae.1 ae.2.1 ae.2.2) (λ ae=>yOR (r1) (r1.2.2.1) (r1) (a) (b) (r1) (a) (b) (((0:Int),(0:Int),())) (r1) (r1) ((0:Int)) ((0:Int)) (r1) (a) (b) (r1) (a) (b) (((0:Int),(0:Int),())) (r1) (r1) ae.1 ae.2.1 ae.2.2) 0 (r1.2.2.1) ((r1.2.2.2.1),((0:Int)),((0:Int)))else none)
abbrev z0u_e:Entry:={ f:=148,args:=.pair t60 (.pair t55 (.pair t55 .unit)),rS:=.pair t57 .unit,m:=λ x=>yF3 x.1 x.2.1 x.2.2.1 }
theorem yIv:FnOK Tryz.prog z0u_e:=fBI Tryz.f148 (λ n x=>yUh n x.1 x.2.1 x.2.2.1) [] [il124,il195] 3 (yC yPY (yC yLf (yC yFy (yC yGH eNil)))) (y5t y61 (y5t y5K iNil)) λ n hn x=>(yL λ hx=>by apply yEx n hn;exact hx)
abbrev yUX:Ty:=.pair t96 .unit
abbrev yUo:Ty:=.pair t57 .unit
class ref02_det_Rec where
  f:yUX.den->Option yUo.den
section
variable [ref02_det_Rec]
end
def zu_m(n:Nat)(r1:Q1)(i:Int):Option (Bool×Unit):=
  (bif decide (i >= 0)then (bif decide (i < (↑r1.2.2.1.length:Int))then ((yI1 r1.2.2.2.1 i).bind λ v0=>some (!v0.1,()))else some (Bool.false,()))else some (Bool.false,()))
def zu_M(r1:Q1)(i:Int):Option (Bool×Unit):=zu_m 0 r1 i
abbrev zu_e:Entry:={ f:=155,args:=.pair t94 (.pair t3 .unit),rS:=.pair t4 .unit,m:=λ x=>zu_M x.1 x.2.1 }
theorem yUU:FnOK Tryz.prog zu_e:=fF 0 Tryz.f155 (λ n x=>zu_m n x.1 x.2.1) [] (yC yNz eNil)
def yK9(n:Nat)(r0:List (Q4)->Int->Option (Int×Unit))(aI:List (Q4))(bR:Int):Option (Int×Unit):=
  (bif decide (bR < (↑aI.length:Int))then ((idx aI bR).bind λ v1=>(bif (zm v1).1 != 0 then some ((14:Int),())else (bif decide (bR > 0)then ((idx aI bR).bind λ v2=>((idx aI (i64.wrap (bR - (1:Int)))).bind λ v3=>(bif decide (v2.1<=v3.2.1)then some ((11:Int),())else r0 aI (i64.wrap (bR+1)))))else r0 aI (i64.wrap (bR+1)))))else some ((0:Int),()))
def yAd(n:Nat)(k:Nat)(aI:List (Q4))(bR:Int):Option (Int×Unit):=
  iter (λ r y=>yK9 n (λ aI bR=>r ((aI,(bR,())),((),()))) y.1.1 y.1.2.1) k ((aI,(bR,())),((),()))
def zd_m(n:Nat)(l:List (Q4)):Option (Int×Unit):=
  (bif decide ((↑l.length:Int) > 2048)then some ((5:Int),())else (yAd n n (l) ((0:Int))))
def yNc(aI:List (Q4))(bR:Int)(v1:Q4):Option ((Int×Unit)⊕Unit):=
  (bif (zm v1).1 != 0 then (some (Sum.inl (((14:Int),()))))else (bif decide (bR > 0)then ((idx aI bR).bind λ v2=>((idx aI (i64.wrap (bR - (1:Int)))).bind λ v3=>(bif decide (v2.1<=v3.2.1)then (some (Sum.inl (((11:Int),()))))else (some (Sum.inr ())))))else (some (Sum.inr ()))))
def yQ4(aI:List (Q4)):Option (Int×Unit):=
  (some (((0:Int),())))
theorem yHL(n:Nat)(hn:big<=n)(aI:List (Q4))(hx:List.length (aI) < lenMax):LeF some (yH (λ ar aX ae=>yNc aI ar aX) (λ ae=>yQ4 aI) 0 (aI) ()) (yAd n n aI 0):=by
  refine yK (f:=some) (W:=λ aQ ar ae=>yAd n aQ aI ar) (λ aQ ar ae=>?_) hx () n (by unfold big at hn;unfold lenMax at hx;omega)
  show LeF _ _ (yK9 n (yAd n aQ) aI ar)
  exact y4 (y8 λ v1=>(y4 (y5 rfl) (y4 (y8 λ v2=>(y8 λ v3=>(y4 (y5 rfl) (y5 rfl)))) (y5 rfl)))) (yl (y5 rfl))
def zd_M(l:List (Q4)):Option (Int×Unit):=
  (bif decide ((↑l.length:Int) > 2048)then (some (((5:Int),())))else (bif decide (List.length (l) < lenMax)then yH (λ ar aX ae=>yNc (l) ar aX) (λ ae=>yQ4 (l)) 0 (l) ()else none))
abbrev zd_e:Entry:={ f:=158,args:=.pair t58 .unit,rS:=.pair t3 .unit,m:=λ x=>zd_M x.1 }
theorem yTw:FnOK Tryz.prog zd_e:=fB Tryz.f158 (λ n x=>zd_m n x.1) [[0,3]] (yC yUw eNil) λ n hn x=>(y4 (y5 rfl) (yL λ hx=>by apply yHL n hn;exact hx))
def yGb(n:Nat)(r0:List (Q4)->Int->List (Q3)->Int->Int->Int->Int->Int->Int->Option ((Q4)×Unit))(cy:List (Q4))(bC:Int)(aJ:List (Q3))(cK:Int)(cj:Int)(aD:Int)(aE:Int)(al:Int)(am:Int):Option ((Q4)×Unit):=
  (bif decide (cj < cK)then ((idx aJ cj).bind λ v1=>((idx cy cj).bind λ v2=>((zR_M (v1.1,v1.2.1,v1.2.2.1,()) bC).bind λ v3=>r0 cy bC aJ cK (i64.wrap (cj+1)) aD aE (z17 (al,am,()) (z0z v2 v3.1).1).1.1 (z17 (al,am,()) (z0z v2 v3.1).1).1.2.1)))else some ((al,am,()),()))
def y7c(n:Nat)(k:Nat)(cy:List (Q4))(bC:Int)(aJ:List (Q3))(cK:Int)(cj:Int)(aD:Int)(aE:Int)(al:Int)(am:Int):Option ((Q4)×Unit):=
  iter (λ r y=>yGb n (λ cy bC aJ cK cj aD aE al am=>r ((cy,(bC,(aJ,(cK,(cj,()))))),(((aD,(aE,())),((al,(am,())),())),()))) y.1.1 y.1.2.1 y.1.2.2.1 y.1.2.2.2.1 y.1.2.2.2.2.1 y.2.1.1.1 y.2.1.1.2.1 y.2.1.2.1.1 y.2.1.2.1.2.1) k ((cy,(bC,(aJ,(cK,(cj,()))))),(((aD,(aE,())),((al,(am,())),())),()))
def yTz(n:Nat)(l:List (Q3))(v:List (Q4))(tick:Int):Option ((Q4)×Unit):=
  (y7c n n (v) (tick) (l) ((↑l.length:Int)) ((0:Int)) ((0:Int)) ((0:Int)) ((0:Int)) ((0:Int)))
def yDV(cy:List (Q4))(bC:Int)(aJ:List (Q3))(aD:Int)(aE:Int)(cj:Int)(v1:Q3)(al:Int)(am:Int):Option (((Q4)×Unit)⊕(Int×Int)):=
  ((idx cy cj).bind λ v2=>((zR_M (v1.1,v1.2.1,v1.2.2.1,()) bC).bind λ v3=>(some (Sum.inr (((z17 (al,am,()) (z0z v2 v3.1).1).1.1),((z17 (al,am,()) (z0z v2 v3.1).1).1.2.1))))))
def yKf(cy:List (Q4))(bC:Int)(aJ:List (Q3))(aD:Int)(aE:Int)(al:Int)(am:Int):Option ((Q4)×Unit):=
  (some (((al,am,()),())))
theorem yER(n:Nat)(hn:big<=n)(cy:List (Q4))(bC:Int)(aJ:List (Q3))(aD:Int)(aE:Int)(al:Int)(am:Int)(hx:List.length (aJ) < lenMax):LeF some (yH (λ ar aX ae=>yDV cy bC aJ aD aE ar aX ae.1 ae.2) (λ ae=>yKf cy bC aJ aD aE ae.1 ae.2) 0 (aJ) (al,am)) (y7c n n cy bC aJ (List.length (aJ):Int) 0 aD aE al am):=by
  refine yK (f:=some) (W:=λ aQ ar ae=>y7c n aQ cy bC aJ (List.length (aJ):Int) ar aD aE ae.1 ae.2) (λ aQ ar ae=>?_) hx (al,am) n (by unfold big at hn;unfold lenMax at hx;omega)
  show LeF _ _ (yGb n (y7c n aQ) cy bC aJ (List.length (aJ):Int) ar aD aE ae.1 ae.2)
  exact y4 (y8 λ v1=>(y8 λ v2=>(y8 λ v3=>(y5 rfl)))) (yl (y5 rfl))
def yNP(l:List (Q3))(v:List (Q4))(tick:Int):Option ((Q4)×Unit):=
  (bif decide (List.length (l) < lenMax)then yH (λ ar aX ae=>yDV (v) (tick) (l) ((0:Int)) ((0:Int)) ar aX ae.1 ae.2) (λ ae=>yKf (v) (tick) (l) ((0:Int)) ((0:Int)) ae.1 ae.2) 0 (l) (((0:Int)),((0:Int)))else none)
abbrev z10_e:Entry:={ f:=167,args:=.pair t31 (.pair t23 (.pair t3 .unit)),rS:=.pair t57 .unit,m:=λ x=>yNP x.1 x.2.1 x.2.2.1 }
theorem yRP:FnOK Tryz.prog z10_e:=fB Tryz.f167 (λ n x=>yTz n x.1 x.2.1 x.2.2.1) [[1,2,6,7,11,12,13]] (yC yPY (yC yFy (yC yGH eNil))) λ n hn x=>(yL λ hx=>by apply yER n hn;exact hx)
def yFw(n:Nat)(r0:Int->List Int->Int->Int->Option (Int×Unit))(r2:Int->Int->List Int->Int->Int->Option (Int×Unit))(cJ:Int)(cu:Int)(cz:List Int)(cA:Int)(aR:Int):Option (Int×Unit):=
  (bif cu != 0 then (bif cu==0 then none else r2 cu (cJ.tmod cu) cz cA aR)else r0 cJ cz cA (i64.wrap (aR+1)))
def y7J(n:Nat)(r0:Int->List Int->Int->Int->Option (Int×Unit))(k:Nat)(cJ:Int)(cu:Int)(cz:List Int)(cA:Int)(aR:Int):Option (Int×Unit):=
  iter (λ r y=>yFw n r0 (λ cJ cu cz cA aR=>r ((cJ,(cu,(cz,(cA,(aR,()))))),((),()))) y.1.1 y.1.2.1 y.1.2.2.1 y.1.2.2.2.1 y.1.2.2.2.2.1) k ((cJ,(cu,(cz,(cA,(aR,()))))),((),()))
def yGB(n:Nat)(r0:Int->List Int->Int->Int->Option (Int×Unit))(cF:Int)(aT:List Int)(af:Int)(au:Int):Option (Int×Unit):=
  (bif decide (au < af)then ((idx aT au).bind λ v1=>(y7J n r0 n (cF) ((z08 v1).1) (aT) (af) (au)))else some (cF,()))
def y7T(n:Nat)(k:Nat)(cF:Int)(aT:List Int)(af:Int)(au:Int):Option (Int×Unit):=
  iter (λ r y=>yGB n (λ cF aT af au=>r ((cF,(aT,(af,(au,())))),((),()))) y.1.1 y.1.2.1 y.1.2.2.1 y.1.2.2.2.1) k ((cF,(aT,(af,(au,())))),((),()))
def yTn(n:Nat)(n1:Int)(l:List Int):Option (Int×Unit):=
  (y7T n n (n1) (l) ((↑l.length:Int)) ((0:Int)))
def y5m(cz:List Int)(cA:Int)(aR:Int)(cJ:Int)(cu:Int):Option (((Int×Unit)⊕(Int))⊕(Int×Int)):=
  (bif cu != 0 then (bif cu==0 then none else (some (Sum.inr ((cu),(cJ.tmod cu)))))else (some (Sum.inl (Sum.inr (cJ)))))
theorem yFA(n:Nat)(hn:big<=n)(r0:Int->List Int->Int->Int->Option (Int×Unit))(cz:List Int)(cA:Int)(aR:Int)(cJ:Int)(cu:Int):LeF (elim some λ (ae:(Int))=>r0 ae cz cA (i64.wrap (aR+1))) (y26 (λ ae=>y5m cz cA aR ae.1 ae.2) wMax (cJ,cu)) (y7J n r0 n cJ cu cz cA aR):=by
  refine y4a (f:=(elim some λ (ae:(Int))=>r0 ae cz cA (i64.wrap (aR+1)))) (W:=λ aQ ae=>y7J n r0 aQ ae.1 ae.2 cz cA aR) (body:=(λ ae=>y5m cz cA aR ae.1 ae.2)) (λ aQ ae=>?_) wMax n (cJ,cu) (by unfold big at hn;unfold wMax;omega)
  show LeF _ _ (yFw n r0 (y7J n r0 aQ) ae.1 ae.2 cz cA aR)
  exact (y4 (y4 y02 (y5 rfl)) (y5 rfl))
def y7z(aT:List Int)(au:Int)(v1:Int)(cF:Int):Option ((Int×Unit)⊕(Int)):=
  (y26 (λ ae=>y5m (aT) ((↑aT.length:Int)) (au) ae.1 ae.2) wMax ((cF),((z08 v1).1)))
def yNx(aT:List Int)(cF:Int):Option (Int×Unit):=
  (some ((cF,())))
theorem yF1(n:Nat)(hn:big<=n)(aT:List Int)(cF:Int)(hx:List.length (aT) < lenMax):LeF some (yH (λ ar aX ae=>y7z aT ar aX ae) (λ ae=>yNx aT ae) 0 (aT) cF) (y7T n n cF aT (List.length (aT):Int) 0):=by
  refine yK (f:=some) (W:=λ aQ ar ae=>y7T n aQ ae aT (List.length (aT):Int) ar) (λ aQ ar ae=>?_) hx cF n (by unfold big at hn;unfold lenMax at hx;omega)
  show LeF _ _ (yGB n (y7T n aQ) ae aT (List.length (aT):Int) ar)
  exact y4 (y8 λ v1=>(by apply yFA n hn)) (yl (y5 rfl))
def y9U(n1:Int)(l:List Int):Option (Int×Unit):=
  (bif decide (List.length (l) < lenMax)then yH (λ ar aX ae=>y7z (l) ar aX ae) (λ ae=>yNx (l) ae) 0 (l) (n1)else none)
abbrev z0J_e:Entry:={ f:=186,args:=.pair t3 (.pair t41 .unit),rS:=.pair t3 .unit,m:=λ x=>y9U x.1 x.2.1 }
theorem yNy:FnOK Tryz.prog z0J_e:=fB Tryz.f186 (λ n x=>yTn n x.1 x.2.1) [[0,7,8,9],[0,6,7,8,9]] (yC yCZ eNil) λ n hn x=>(yL λ hx=>by apply yF1 n hn;exact hx)
def y8U(n:Nat)(r0:Q1->List (Q4)->List Nat->Int->Int->Q3->Q1->Q3->Q4->Q1->Q1->Int->Int->Int->Int->Q3->Q1->Q3->Q4->Q1->Q1->Option ((Q4)×Unit))(j8:Q1)(j9:List (Q4))(j10:Int)(j11:Nat)(j12:List Nat)(j13:Int)(j14:Int)(j15:Q3)(j16:Q1)(j17:Q3)(j18:Q4)(j19:Q1)(j20:Q1)(j21:Int)(j22:Int)(j23:Int)(j24:Int)(j25:Q3)(j26:Q1)(j27:Q3)(j28:Q4)(j29:Q1)(j30:Q1):Option ((Q4)×Unit):=
  (bif decide ((↑j9.length:Int) > 0)then ((idx j9 (0:Int)).bind λ v31=>(bif decide (v31.1<=j10)then r0 j8 j9 j12 j13 (i64.wrap (j14+1)) j15 j16 j17 j18 j19 j20 j21 j22 j23 j24 j25 j26 j27 j28 j29 j30 else ((yk FloatKind.f32 (yu BinOp.mul FloatKind.f32 j11 (nat_lit 1098907648)) i64).bind λ v36=>((zR_M j17 (i64.wrap (j8.2.1+j10))).bind λ v37=>r0 j8 j9 j12 j13 (i64.wrap (j14+1)) j15 j16 j17 j18 j19 j20 j21 j22 (z17 (j23,j24,()) (z0a (z01 v37.1).1 v36).1).1.1 (z17 (j23,j24,()) (z0a (z01 v37.1).1 v36).1).1.2.1 j25 j26 j27 j28 j29 j30))))else ((yk FloatKind.f32 (yu BinOp.mul FloatKind.f32 j11 (nat_lit 1098907648)) i64).bind λ v38=>((zR_M j17 (i64.wrap (j8.2.1+j10))).bind λ v39=>r0 j8 j9 j12 j13 (i64.wrap (j14+1)) j15 j16 j17 j18 j19 j20 j21 j22 (z17 (j23,j24,()) (z0a (z01 v39.1).1 v38).1).1.1 (z17 (j23,j24,()) (z0a (z01 v39.1).1 v38).1).1.2.1 j25 j26 j27 j28 j29 j30)))
def yHC(n:Nat)(r0:Q1->List (Q4)->List Nat->Int->Int->Q3->Q1->Q3->Q4->Q1->Q1->Int->Int->Int->Int->Q3->Q1->Q3->Q4->Q1->Q1->Option ((Q4)×Unit))(r2:Q1->List (Q4)->Int->Nat->List Nat->Int->Int->Q3->Q1->Q3->Q4->Q1->Q1->Int->Int->Int->Int->Q3->Q1->Q3->Q4->Q1->Q1->Option ((Q4)×Unit))(b8:Q1)(aj:List (Q4))(b9:Int)(bn:Nat)(aR:List Nat)(aG:Int)(aH:Int)(av:Q3)(aw:Q1)(aN:Q3)(bK:Q4)(bL:Q1)(bi:Q1)(aO:Int)(aP:Int)(aU:Int)(aV:Int)(bf:Q3)(bg:Q1)(bJ:Q3)(cp:Q4)(cr:Q1)(bM:Q1):Option ((Q4)×Unit):=
  (bif decide ((↑aj.length:Int) > 0)then ((idx aj (0:Int)).bind λ v3=>(bif decide (v3.2.1<=b9)then (bif decide ((0:Int)<=1) && decide ((1:Int)<=(↑aj.length:Int))then r2 b8 (List.drop (Int.toNat (1:Int)) aj) b9 bn aR aG aH av aw aN bK bL bi aO aP aU aV bf bg bJ cp cr bM else none)else (y8U n r0 (b8) (aj) (b9) (bn) (aR) (aG) (aH) (av) (aw) (aN) (bK) (bL) (bi) (aO) (aP) (aU) (aV) (bf) (bg) (bJ) (cp) (cr) (bM))))else (y8U n r0 (b8) (aj) (b9) (bn) (aR) (aG) (aH) (av) (aw) (aN) (bK) (bL) (bi) (aO) (aP) (aU) (aV) (bf) (bg) (bJ) (cp) (cr) (bM)))
def y7B(n:Nat)(r0:Q1->List (Q4)->List Nat->Int->Int->Q3->Q1->Q3->Q4->Q1->Q1->Int->Int->Int->Int->Q3->Q1->Q3->Q4->Q1->Q1->Option ((Q4)×Unit))(k:Nat)(b8:Q1)(aj:List (Q4))(b9:Int)(bn:Nat)(aR:List Nat)(aG:Int)(aH:Int)(av:Q3)(aw:Q1)(aN:Q3)(bK:Q4)(bL:Q1)(bi:Q1)(aO:Int)(aP:Int)(aU:Int)(aV:Int)(bf:Q3)(bg:Q1)(bJ:Q3)(cp:Q4)(cr:Q1)(bM:Q1):Option ((Q4)×Unit):=
  iter (λ r y=>yHC n r0 (λ b8 aj b9 bn aR aG aH av aw aN bK bL bi aO aP aU aV bf bg bJ cp cr bM=>r ((b8,(aj,(b9,(bn,(aR,(aG,(aH,()))))))),(((av,(aw,(aN,(bK,(bL,((bi,()),())))))),((aO,(aP,())),((aU,(aV,())),()))),(bf,(bg,(bJ,(cp,(cr,((bM,()),()))))))))) y.1.1 y.1.2.1 y.1.2.2.1 y.1.2.2.2.1 y.1.2.2.2.2.1 y.1.2.2.2.2.2.1 y.1.2.2.2.2.2.2.1 y.2.1.1.1 y.2.1.1.2.1 y.2.1.1.2.2.1 y.2.1.1.2.2.2.1 y.2.1.1.2.2.2.2.1 y.2.1.1.2.2.2.2.2.1.1 y.2.1.2.1.1 y.2.1.2.1.2.1 y.2.1.2.2.1.1 y.2.1.2.2.1.2.1 y.2.2.1 y.2.2.2.1 y.2.2.2.2.1 y.2.2.2.2.2.1 y.2.2.2.2.2.2.1 y.2.2.2.2.2.2.2.1.1) k ((b8,(aj,(b9,(bn,(aR,(aG,(aH,()))))))),(((av,(aw,(aN,(bK,(bL,((bi,()),())))))),((aO,(aP,())),((aU,(aV,())),()))),(bf,(bg,(bJ,(cp,(cr,((bM,()),()))))))))
def yG4(n:Nat)(r0:Q1->List (Q4)->List Nat->Int->Int->Q3->Q1->Q3->Q4->Q1->Q1->Int->Int->Int->Int->Q3->Q1->Q3->Q4->Q1->Q1->Option ((Q4)×Unit))(aK:Q1)(ay:List (Q4))(au:List Nat)(aq:Int)(aJ:Int)(aA:Q3)(aB:Q1)(aZ:Q3)(bZ:Q4)(cd:Q1)(bz:Q1)(al:Int)(am:Int)(b6:Int)(b7:Int)(bw:Q3)(bx:Q1)(bY:Q3)(cG:Q4)(cI:Q1)(ce:Q1):Option ((Q4)×Unit):=
  (bif decide (aJ < aq)then ((idx au aJ).bind λ v1=>(y7B n r0 n (aK) (ay) (aJ) (v1) (au) (aq) (aJ) (aA) (aB) (aZ) (bZ) (cd) (bz) (al) (am) (b6) (b7) (bw) (bx) (bY) (cG) (cI) (ce)))else some ((b6,b7,()),()))
def y77(n:Nat)(k:Nat)(aK:Q1)(ay:List (Q4))(au:List Nat)(aq:Int)(aJ:Int)(aA:Q3)(aB:Q1)(aZ:Q3)(bZ:Q4)(cd:Q1)(bz:Q1)(al:Int)(am:Int)(b6:Int)(b7:Int)(bw:Q3)(bx:Q1)(bY:Q3)(cG:Q4)(cI:Q1)(ce:Q1):Option ((Q4)×Unit):=
  iter (λ r y=>yG4 n (λ aK ay au aq aJ aA aB aZ bZ cd bz al am b6 b7 bw bx bY cG cI ce=>r ((aK,(ay,(au,(aq,(aJ,()))))),(((aA,(aB,(aZ,(bZ,(cd,((bz,()),())))))),((al,(am,())),((b6,(b7,())),()))),(bw,(bx,(bY,(cG,(cI,((ce,()),()))))))))) y.1.1 y.1.2.1 y.1.2.2.1 y.1.2.2.2.1 y.1.2.2.2.2.1 y.2.1.1.1 y.2.1.1.2.1 y.2.1.1.2.2.1 y.2.1.1.2.2.2.1 y.2.1.1.2.2.2.2.1 y.2.1.1.2.2.2.2.2.1.1 y.2.1.2.1.1 y.2.1.2.1.2.1 y.2.1.2.2.1.1 y.2.1.2.2.1.2.1 y.2.2.1 y.2.2.2.1 y.2.2.2.2.1 y.2.2.2.2.2.1 y.2.2.2.2.2.2.1 y.2.2.2.2.2.2.2.1.1) k ((aK,(ay,(au,(aq,(aJ,()))))),(((aA,(aB,(aZ,(bZ,(cd,((bz,()),())))))),((al,(am,())),((b6,(b7,())),()))),(bw,(bx,(bY,(cG,(cI,((ce,()),()))))))))
def yV3(n:Nat)(c:Q3)(p1:Q1):Option ((Q4)×Unit):=
  (y77 n n (p1) (p1.2.2.2.1) (p1.2.2.1) ((↑p1.2.2.1.length:Int)) ((0:Int)) (c) (p1) (c) (((0:Int),(0:Int),())) (p1) (p1) ((0:Int)) ((0:Int)) ((0:Int)) ((0:Int)) (c) (p1) (c) (((0:Int),(0:Int),())) (p1) (p1))
def yAm(j8:Q1)(j9:List (Q4))(j10:Int)(j11:Nat)(j12:List Nat)(j13:Int)(j14:Int)(j15:Q3)(j16:Q1)(j17:Q3)(j18:Q4)(j19:Q1)(j20:Q1)(j21:Int)(j22:Int)(j23:Int)(j24:Int)(j25:Q3)(j26:Q1)(j27:Q3)(j28:Q4)(j29:Q1)(j30:Q1):Option (((Q4)×Unit)⊕((List (Q4))×Int×Int)):=
  (bif decide ((↑j9.length:Int) > 0)then ((idx j9 (0:Int)).bind λ v31=>(bif decide (v31.1<=j10)then (some (Sum.inr ((j9),(j23),(j24))))else ((yk FloatKind.f32 (yu BinOp.mul FloatKind.f32 j11 (nat_lit 1098907648)) i64).bind λ v36=>((zR_M j17 (i64.wrap (j8.2.1+j10))).bind λ v37=>(some (Sum.inr ((j9),((z17 (j23,j24,()) (z0a (z01 v37.1).1 v36).1).1.1),((z17 (j23,j24,()) (z0a (z01 v37.1).1 v36).1).1.2.1))))))))else ((yk FloatKind.f32 (yu BinOp.mul FloatKind.f32 j11 (nat_lit 1098907648)) i64).bind λ v38=>((zR_M j17 (i64.wrap (j8.2.1+j10))).bind λ v39=>(some (Sum.inr ((j9),((z17 (j23,j24,()) (z0a (z01 v39.1).1 v38).1).1.1),((z17 (j23,j24,()) (z0a (z01 v39.1).1 v38).1).1.2.1)))))))
theorem y2Q(n:Nat)(hn:big<=n)(r0:Q1->List (Q4)->List Nat->Int->Int->Q3->Q1->Q3->Q4->Q1->Q1->Int->Int->Int->Int->Q3->Q1->Q3->Q4->Q1->Q1->Option ((Q4)×Unit))(j8:Q1)(j9:List (Q4))(j10:Int)(j11:Nat)(j12:List Nat)(j13:Int)(j14:Int)(j15:Q3)(j16:Q1)(j17:Q3)(j18:Q4)(j19:Q1)(j20:Q1)(j21:Int)(j22:Int)(j23:Int)(j24:Int)(j25:Q3)(j26:Q1)(j27:Q3)(j28:Q4)(j29:Q1)(j30:Q1):LeF (elim some λ (ae:((List (Q4))×Int×Int))=>r0 j8 ae.1 j12 j13 (i64.wrap (j14+1)) j15 j16 j17 j18 j19 j20 j21 j22 ae.2.1 ae.2.2 j25 j26 j27 j28 j29 j30) (yAm j8 j9 j10 j11 j12 j13 j14 j15 j16 j17 j18 j19 j20 j21 j22 j23 j24 j25 j26 j27 j28 j29 j30) (y8U n r0 j8 j9 j10 j11 j12 j13 j14 j15 j16 j17 j18 j19 j20 j21 j22 j23 j24 j25 j26 j27 j28 j29 j30):=
  (y4 (y8 λ v31=>(y4 (y5 rfl) (y8 λ v36=>(y8 λ v37=>(y5 rfl))))) (y8 λ v38=>(y8 λ v39=>(y5 rfl))))
def yL2(b8:Q1)(b9:Int)(bn:Nat)(aR:List Nat)(aG:Int)(aH:Int)(av:Q3)(aw:Q1)(aN:Q3)(bK:Q4)(bL:Q1)(bi:Q1)(aO:Int)(aP:Int)(aU:Int)(aV:Int)(bf:Q3)(bg:Q1)(bJ:Q3)(cp:Q4)(cr:Q1)(bM:Q1)(aj:List (Q4)):Option ((((Q4)×Unit)⊕((List (Q4))×Int×Int))⊕(List (Q4))):=
  (bif decide ((↑aj.length:Int) > 0)then ((idx aj (0:Int)).bind λ v3=>(bif decide (v3.2.1<=b9)then (bif decide ((0:Int)<=1) && decide ((1:Int)<=(↑aj.length:Int))then (some (Sum.inr (List.drop (Int.toNat (1:Int)) aj)))else none)else (Option.map Sum.inl (yAm (b8) (aj) (b9) (bn) (aR) (aG) (aH) (av) (aw) (aN) (bK) (bL) (bi) (aO) (aP) (aU) (aV) (bf) (bg) (bJ) (cp) (cr) (bM)))))else (Option.map Sum.inl (yAm (b8) (aj) (b9) (bn) (aR) (aG) (aH) (av) (aw) (aN) (bK) (bL) (bi) (aO) (aP) (aU) (aV) (bf) (bg) (bJ) (cp) (cr) (bM))))
theorem yEb(n:Nat)(hn:big<=n)(r0:Q1->List (Q4)->List Nat->Int->Int->Q3->Q1->Q3->Q4->Q1->Q1->Int->Int->Int->Int->Q3->Q1->Q3->Q4->Q1->Q1->Option ((Q4)×Unit))(b8:Q1)(b9:Int)(bn:Nat)(aR:List Nat)(aG:Int)(aH:Int)(av:Q3)(aw:Q1)(aN:Q3)(bK:Q4)(bL:Q1)(bi:Q1)(aO:Int)(aP:Int)(aU:Int)(aV:Int)(bf:Q3)(bg:Q1)(bJ:Q3)(cp:Q4)(cr:Q1)(bM:Q1)(aj:List (Q4)):LeF (elim some λ (ae:((List (Q4))×Int×Int))=>r0 b8 ae.1 aR aG (i64.wrap (aH+1)) av aw aN bK bL bi aO aP ae.2.1 ae.2.2 bf bg bJ cp cr bM) (y26 (λ ae=>yL2 b8 b9 bn aR aG aH av aw aN bK bL bi aO aP aU aV bf bg bJ cp cr bM ae) wMax aj) (y7B n r0 n b8 aj b9 bn aR aG aH av aw aN bK bL bi aO aP aU aV bf bg bJ cp cr bM):=by
  refine y4a (f:=(elim some λ (ae:((List (Q4))×Int×Int))=>r0 b8 ae.1 aR aG (i64.wrap (aH+1)) av aw aN bK bL bi aO aP ae.2.1 ae.2.2 bf bg bJ cp cr bM)) (W:=λ aQ ae=>y7B n r0 aQ b8 ae b9 bn aR aG aH av aw aN bK bL bi aO aP aU aV bf bg bJ cp cr bM) (body:=(λ ae=>yL2 b8 b9 bn aR aG aH av aw aN bK bL bi aO aP aU aV bf bg bJ cp cr bM ae)) (λ aQ ae=>?_) wMax n aj (by unfold big at hn;unfold wMax;omega)
  show LeF _ _ (yHC n r0 (y7B n r0 aQ) b8 ae b9 bn aR aG aH av aw aN bK bL bi aO aP aU aV bf bg bJ cp cr bM)
  exact (y4 (y8 λ v3=>(y4 (y4 (y5 rfl) y02) (yl (by apply y2Q n hn)))) (yl (by apply y2Q n hn)))
def yKH(aK:Q1)(au:List Nat)(aA:Q3)(aB:Q1)(aZ:Q3)(bZ:Q4)(cd:Q1)(bz:Q1)(al:Int)(am:Int)(bw:Q3)(bx:Q1)(bY:Q3)(cG:Q4)(cI:Q1)(ce:Q1)(aJ:Int)(v1:Nat)(ay:List (Q4))(b6:Int)(b7:Int):Option (((Q4)×Unit)⊕((List (Q4))×Int×Int)):=
  (y26 (λ ae=>yL2 (aK) (aJ) (v1) (au) ((↑au.length:Int)) (aJ) (aA) (aB) (aZ) (bZ) (cd) (bz) (al) (am) (b6) (b7) (bw) (bx) (bY) (cG) (cI) (ce) ae) wMax (ay))
def yNr(aK:Q1)(au:List Nat)(aA:Q3)(aB:Q1)(aZ:Q3)(bZ:Q4)(cd:Q1)(bz:Q1)(al:Int)(am:Int)(bw:Q3)(bx:Q1)(bY:Q3)(cG:Q4)(cI:Q1)(ce:Q1)(ay:List (Q4))(b6:Int)(b7:Int):Option ((Q4)×Unit):=
  (some (((b6,b7,()),())))
theorem yEV(n:Nat)(hn:big<=n)(aK:Q1)(au:List Nat)(aA:Q3)(aB:Q1)(aZ:Q3)(bZ:Q4)(cd:Q1)(bz:Q1)(al:Int)(am:Int)(bw:Q3)(bx:Q1)(bY:Q3)(cG:Q4)(cI:Q1)(ce:Q1)(ay:List (Q4))(b6:Int)(b7:Int)(hx:List.length (au) < lenMax):LeF some (yH (λ ar aX ae=>yKH aK au aA aB aZ bZ cd bz al am bw bx bY cG cI ce ar aX ae.1 ae.2.1 ae.2.2) (λ ae=>yNr aK au aA aB aZ bZ cd bz al am bw bx bY cG cI ce ae.1 ae.2.1 ae.2.2) 0 (au) (ay,b6,b7)) (y77 n n aK ay au (List.length (au):Int) 0 aA aB aZ bZ cd bz al am b6 b7 bw bx bY cG cI ce):=by
  refine yK (f:=some) (W:=λ aQ ar ae=>y77 n aQ aK ae.1 au (List.length (au):Int) ar aA aB aZ bZ cd bz al am ae.2.1 ae.2.2 bw bx bY cG cI ce) (λ aQ ar ae=>?_) hx (ay,b6,b7) n (by unfold big at hn;unfold lenMax at hx;omega)
  show LeF _ _ (yG4 n (y77 n aQ) aK ae.1 au (List.length (au):Int) ar aA aB aZ bZ cd bz al am ae.2.1 ae.2.2 bw bx bY cG cI ce)
  exact y4 (y8 λ v1=>(by apply yEb n hn)) (yl (y5 rfl))
def yHY(c:Q3)(p1:Q1):Option ((Q4)×Unit):=
  (bif decide (List.length (p1.2.2.1) < lenMax)then yH (λ ar aX ae=>yKH (p1) (p1.2.2.1) (c) (p1) (c) (((0:Int),(0:Int),())) (p1) (p1) ((0:Int)) ((0:Int)) (c) (p1) (c) (((0:Int),(0:Int),())) (p1) (p1) ar aX ae.1 ae.2.1 ae.2.2) (λ ae=>yNr (p1) (p1.2.2.1) (c) (p1) (c) (((0:Int),(0:Int),())) (p1) (p1) ((0:Int)) ((0:Int)) (c) (p1) (c) (((0:Int),(0:Int),())) (p1) (p1) ae.1 ae.2.1 ae.2.2) 0 (p1.2.2.1) ((p1.2.2.2.1),((0:Int)),((0:Int)))else none)
abbrev z0M_e:Entry:={ f:=188,args:=.pair t55 (.pair (.ref t60) .unit),rS:=.pair t57 .unit,m:=λ x=>yHY x.1 x.2.1 }
theorem yRB:FnOK Tryz.prog z0M_e:=fBI Tryz.f188 (λ n x=>yV3 n x.1 x.2.1) [] [il124,il195] 3 (yC yPY (yC yLf (yC yLt (yC yGH eNil)))) (y5t y61 (y5t y5K iNil)) λ n hn x=>(yL λ hx=>by apply yEV n hn;exact hx)
abbrev zS_a:Ty:=.pair t183 (.pair t3 (.pair t3 .unit))
abbrev zS_r:Ty:=.pair t57 .unit
class tide_matrix_expand_Rec where
  f:zS_a.den->Option zS_r.den
section
variable [tide_matrix_expand_Rec]
def y4D:Entry:={ f:=194,args:=zS_a,rS:=zS_r,m:=λ x=>tide_matrix_expand_Rec.f x }
def zS_g:G:={ T:=T,E:=[y4D,z0z_e,z0a_e,z17_e],mU:=[],fz:=[] }
def zS_k:List (List Nat):=[[0,1,2,6,7,8,18,19]]
def yQs(n:Nat):Ann:={ keep:=zS_k,fuel:=n,inl:=[],deep:=0 }
def yL9(n:Nat)(r0:List (List (Q4))->Int->Int->Int->Int->Int->Int->Int->Int->Int->Option ((Q4)×Unit))(bA:List (List (Q4)))(bN:Int)(br:Int)(bt:Int)(ck:Int)(ci:Int)(aD:Int)(aE:Int)(al:Int)(am:Int):Option ((Q4)×Unit):=
  (bif decide (ci < ck)then (bif decide (ci < 0)then none else (bif y23 i64 BinOp.and (br.fdiv ((2:Int) ^ Min.min ci.toNat i64.bits)) (1:Int)==1 then r0 bA bN br bt ck (i64.wrap (ci+1)) aD aE al am else ((idx bA bN).bind λ v1=>((idx v1 ci).bind λ v2=>(bif decide (ci < 0)then none else ((tide_matrix_expand_Rec.f (bA,i64.wrap (bN+1),y23 i64 BinOp.or br (i64.wrap ((1:Int) * 2 ^ Min.min ci.toNat i64.bits)),())).bind λ v3=>r0 bA bN br (i64.wrap ((0:Int) - bt)) ck (i64.wrap (ci+1)) aD aE (z17 (al,am,()) (z0a (z0z v2 v3.1).1 bt).1).1.1 (z17 (al,am,()) (z0a (z0z v2 v3.1).1 bt).1).1.2.1))))))else some ((al,am,()),()))
def yAw(n:Nat)(k:Nat)(bA:List (List (Q4)))(bN:Int)(br:Int)(bt:Int)(ck:Int)(ci:Int)(aD:Int)(aE:Int)(al:Int)(am:Int):Option ((Q4)×Unit):=
  iter (λ r y=>yL9 n (λ bA bN br bt ck ci aD aE al am=>r ((bA,(bN,(br,(bt,(ck,(ci,())))))),(((aD,(aE,())),((al,(am,())),())),()))) y.1.1 y.1.2.1 y.1.2.2.1 y.1.2.2.2.1 y.1.2.2.2.2.1 y.1.2.2.2.2.2.1 y.2.1.1.1 y.2.1.1.2.1 y.2.1.2.1.1 y.2.1.2.1.2.1) k ((bA,(bN,(br,(bt,(ck,(ci,())))))),(((aD,(aE,())),((al,(am,())),())),()))
def zS_m(n:Nat)(m:List (List (Q4)))(row:Int)(used:Int):Option ((Q4)×Unit):=
  (bif row==(↑m.length:Int)then some (((1:Int),(0:Int),()),())else (yAw n n (m) (row) (used) ((1:Int)) ((↑m.length:Int)) ((0:Int)) ((0:Int)) ((0:Int)) ((0:Int)) ((0:Int))))
theorem yTt(n:Nat)(x:zS_a.den):runF zS_g (yQs n) Tryz.f194 zS_a zS_r x=zS_m n x.1 x.2.1 x.2.2.1:=by kernel_rfl
def yEQ(bA:List (List (Q4)))(bN:Int)(br:Int)(ck:Int)(aD:Int)(aE:Int)(ci:Int)(bt:Int)(al:Int)(am:Int):Option (((Q4)×Unit)⊕(Int×Int×Int)):=
  (bif decide (ci < 0)then none else (bif y23 i64 BinOp.and (br.fdiv ((2:Int) ^ Min.min ci.toNat i64.bits)) (1:Int)==1 then (some (Sum.inr ((bt),(al),(am))))else ((idx bA bN).bind λ v1=>((idx v1 ci).bind λ v2=>(bif decide (ci < 0)then none else ((tide_matrix_expand_Rec.f (bA,i64.wrap (bN+1),y23 i64 BinOp.or br (i64.wrap ((1:Int) * 2 ^ Min.min ci.toNat i64.bits)),())).bind λ v3=>(some (Sum.inr ((i64.wrap ((0:Int) - bt)),((z17 (al,am,()) (z0a (z0z v2 v3.1).1 bt).1).1.1),((z17 (al,am,()) (z0a (z0z v2 v3.1).1 bt).1).1.2.1))))))))))
def yPj(bA:List (List (Q4)))(bN:Int)(br:Int)(ck:Int)(aD:Int)(aE:Int)(bt:Int)(al:Int)(am:Int):Option ((Q4)×Unit):=
  (some (((al,am,()),())))
theorem yIG(n:Nat)(hn:big<=n)(bA:List (List (Q4)))(bN:Int)(br:Int)(ck:Int)(aD:Int)(aE:Int)(bt:Int)(al:Int)(am:Int)(hx:(ck)<=9223372036854775807):LeF some (y0e (λ ar ae=>yEQ bA bN br ck aD aE ar ae.1 ae.2.1 ae.2.2) (λ ae=>yPj bA bN br ck aD aE ae.1 ae.2.1 ae.2.2) ((ck) - 0).toNat 0 (bt,al,am)) (yAw n n bA bN br bt ck 0 aD aE al am):=by
  refine y1L (f:=some) (W:=λ aQ ar ae=>yAw n aQ bA bN br ae.1 ck ar aD aE ae.2.1 ae.2.2) (λ aQ ar ae=>?_) hx (bt,al,am) n 0 (by decide) (by unfold big at hn;omega)
  show LeF _ _ (yL9 n (yAw n aQ) bA bN br ae.1 ck ar aD aE ae.2.1 ae.2.2)
  exact y4 (y4 y02 (y4 (y5 rfl) (y8 λ v1=>(y8 λ v2=>(y4 y02 (y8 λ v3=>(y5 rfl))))))) (yl (y5 rfl))
def zS_M(m:List (List (Q4)))(row:Int)(used:Int):Option ((Q4)×Unit):=
  (bif row==(↑m.length:Int)then (some ((((1:Int),(0:Int),()),())))else (bif decide (((↑m.length:Int))<=9223372036854775807)then y0e (λ ar ae=>yEQ (m) (row) (used) ((↑m.length:Int)) ((0:Int)) ((0:Int)) ar ae.1 ae.2.1 ae.2.2) (λ ae=>yPj (m) (row) (used) ((↑m.length:Int)) ((0:Int)) ((0:Int)) ae.1 ae.2.1 ae.2.2) (((↑m.length:Int)) - 0).toNat 0 (((1:Int)),((0:Int)),((0:Int)))else none))
theorem ySn(m:List (List (Q4)))(row:Int)(used:Int)(y:(Q4)×Unit)(h:zS_M m row used=some y):∃ n,zS_m n m row used=some y:=
  ⟨big,LeF.top (show LeF some (zS_M m row used) (zS_m big m row used)from (λ (n:Nat) (hn:big<=n)=>show LeF some (zS_M m row used) (zS_m n m row used)from (y4 (y5 rfl) (yL λ hx=>by apply yIG n hn;exact hx))) big (Nat.le_refl _)) h⟩
end
def yO(d:Nat):zS_a.den->Option zS_r.den:=Nat.rec (motive:=λ _=>zS_a.den->Option zS_r.den) (λ _=>none) (λ _ ih x=>@zS_M ⟨ih⟩ x.1 x.2.1 x.2.2.1) d
def y0h(d:Nat):Entry:={ f:=194,args:=zS_a,rS:=zS_r,m:=yO d }
theorem y1c:(d:Nat)->FnOK Tryz.prog (y0h d)
  |0=>FnOK.none (fn:=Tryz.f194) (by kernel_rfl) (by kernel_rfl) (by kernel_rfl)
  |d+1=>yPW (g:=@zS_g ⟨yO d⟩) (fn:=Tryz.f194) (e:=y0h (d+1)) y91 yMb (yC (y1c d) (yC yFy (yC yLt (yC yGH eNil)))) (by kernel_rfl) (by kernel_rfl) (by kernel_rfl) (λ x y h=>let ⟨n,hn⟩:=@ySn ⟨yO d⟩ x.1 x.2.1 x.2.2.1 y h;⟨yQs n,iNil,(@yTt ⟨yO d⟩ n x).trans hn⟩)
def zS_e:Entry:=y0h 8
theorem yTp:FnOK Tryz.prog zS_e:=y1c 8
def zY_m(n:Nat)(x1:Nat):Option (Int×Unit):=
  (bif yT BinOp.neq FloatKind.f32 (yu BinOp.sub FloatKind.f32 x1 x1) (nat_lit 0)then some ((1:Int),())else (bif yT BinOp.lss FloatKind.f32 x1 (nat_lit 3263168512)then some ((3:Int),())else (bif yT BinOp.gtr FloatKind.f32 x1 (nat_lit 1115684864)then some ((3:Int),())else ((za_M x1).bind λ v2=>some ((z0d (yT BinOp.neq FloatKind.f32 (y0v FloatKind.f32 v2.1) (yu BinOp.mul FloatKind.f32 x1 (nat_lit 1098907648))) (3:Int)).1,())))))
def zY_M(x1:Nat):Option (Int×Unit):=zY_m 0 x1
abbrev zY_e:Entry:={ f:=197,args:=.pair t61 .unit,rS:=.pair t28 .unit,m:=λ x=>zY_M x.1 }
theorem yRD:FnOK Tryz.prog zY_e:=fF 0 Tryz.f197 (λ n x=>zY_m n x.1) [] (yC yUQ (yC yCP eNil))
def yQb(n:Nat)(n1:Int)(least:Int)(most:Int):Option (Int×Unit):=
  (bif decide (n1 < least)then some ((z0d Bool.true (3:Int)).1,())else some ((z0d (decide (n1 > most)) (3:Int)).1,()))
def z0B(n1:Int)(least:Int)(most:Int):(Int×Unit):=
  (bif decide (n1 < least)then ((z0d Bool.true (3:Int)).1,())else ((z0d (decide (n1 > most)) (3:Int)).1,()))
abbrev yUq (n1:Int) (least:Int) (most:Int):Option (Int×Unit):=some (z0B n1 least most)
abbrev z0B_e:Entry:={ f:=201,args:=.pair t3 (.pair t3 (.pair t3 .unit)),rS:=.pair t28 .unit,m:=λ x=>yUq x.1 x.2.1 x.2.2.1 }
theorem yRb:FnOK Tryz.prog z0B_e:=fF (hm:=by intro x;show some (z0B x.1 x.2.1 x.2.2.1)=yQb 0 x.1 x.2.1 x.2.2.1;unfold yQb z0B;first|rfl|simp only[ym]) 0 Tryz.f201 (λ n x=>yQb n x.1 x.2.1 x.2.2.1) [] (yC yCP eNil)
def zB_m(n:Nat)(s:List (Q4))(f:(Q4)×Unit->Option (Bool×Unit)):Option (Bool×Unit):=
  ((zD_M s f).bind λ v0=>some (decide (v0.1 >= 0),()))
def zB_M(s:List (Q4))(f:(Q4)×Unit->Option (Bool×Unit)):Option (Bool×Unit):=zB_m 0 s f
abbrev zB_e:Entry:={ f:=204,args:=.pair t58 (.pair t263 .unit),rS:=.pair t4 .unit,m:=λ x=>zB_M x.1 x.2.1 }
theorem yUm:FnOK Tryz.prog zB_e:=fF 0 Tryz.f204 (λ n x=>zB_m n x.1 x.2.1) [] (yC yUL eNil)
def zC_m(n:Nat)(s:List Nat)(f:Nat×Unit->Option (Bool×Unit)):Option (Bool×Unit):=
  ((zE_M s f).bind λ v0=>some (decide (v0.1 >= 0),()))
def zC_M(s:List Nat)(f:Nat×Unit->Option (Bool×Unit)):Option (Bool×Unit):=zC_m 0 s f
abbrev zC_e:Entry:={ f:=207,args:=.pair t35 (.pair t265 .unit),rS:=.pair t4 .unit,m:=λ x=>zC_M x.1 x.2.1 }
theorem yTZ:FnOK Tryz.prog zC_e:=fF 0 Tryz.f207 (λ n x=>zC_m n x.1 x.2.1) [] (yC yUs eNil)
def zj_m(n:Nat)(s:Q4):Option (Int×Unit):=
  (bif decide (s.1 < 0)then some ((z0d Bool.true (14:Int)).1,())else (bif decide (s.1 >= s.2.1)then some ((z0d Bool.true (14:Int)).1,())else some ((z0d (decide (s.2.1 > 100000)) (14:Int)).1,())))
def zj(s:Q4):(Int×Unit):=
  (bif decide (s.1 < 0)then ((z0d Bool.true (14:Int)).1,())else (bif decide (s.1 >= s.2.1)then ((z0d Bool.true (14:Int)).1,())else ((z0d (decide (s.2.1 > 100000)) (14:Int)).1,())))
abbrev zj_M (s:Q4):Option (Int×Unit):=some (zj s)
abbrev zj_e:Entry:={ f:=225,args:=.pair t63 .unit,rS:=.pair t28 .unit,m:=λ x=>zj_M x.1 }
theorem yTd:FnOK Tryz.prog zj_e:=fF (hm:=by intro x;show some (zj x.1)=zj_m 0 x.1;unfold zj_m zj;first|rfl|simp only[ym]) 0 Tryz.f225 (λ n x=>zj_m n x.1) [] (yC yCP eNil)
end
end Go.Tw
end
