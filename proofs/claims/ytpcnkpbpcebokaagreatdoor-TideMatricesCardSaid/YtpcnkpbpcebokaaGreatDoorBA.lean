import Derived.Test.YtpcnkpbpcebokaaGreatDoorBT
import Derived.Test.YtpcnkpbpcebokaaGreatDoorB0
import Derived.Test.YtpcnkpbpcebokaaGreatDoorBS
import Derived.Test.YtpcnkpbpcebokaaGreatDoorLQ
set_option linter.all false
section
set_option maxRecDepth 1000000
namespace Go.Tw
open Go.Vx Go.Vx.B Go.Proofs
noncomputable section
abbrev yQc:Ty:=.pair t41 .unit
abbrev yVe:Ty:=.pair t3 .unit
def yXn:G:={ T:=T,E:=[],muts:=[],fz:=[] }
def ybA:List (List Nat):=[[0,3]]
def yP2(n:Nat):Ann:={ keep:=ybA,fuel:=n,inl:=[],deep:=0 }
def yFV(n:Nat)(r0:List Int->Int->Option (Int×Unit))(az:List Int)(bO:Int):Option (Int×Unit):=
  (bif decide (bO < (↑az.length:Int))then (Option.bind (idx az bO) λ v1=>(bif v1 != 0 then (Option.bind (idx az bO) λ v2=>some (v2,()))else r0 az (IntKind.i64.wrap (bO+1))))else some ((0:Int),()))
def y6n(n:Nat)(k:Nat)(az:List Int)(bO:Int):Option (Int×Unit):=
  iter (λ r y=>yFV n (λ az bO=>r ((az,(bO,())),((),()))) y.1.1 y.1.2.1) k ((az,(bO,())),((),()))
def yM7(n:Nat)(l:List Int):Option (Int×Unit):=
  (y6n n n (l) ((0:Int)))
theorem yU4(n:Nat)(x:yQc.den):runF yXn (yP2 n) Tryz.f24 yQc yVe x=yM7 n x.1:=by kernel_rfl
def yCl(az:List Int)(bO:Int)(v1:Int):Option ((Int×Unit)⊕Unit):=
  (bif v1 != 0 then (Option.bind (idx az bO) λ v2=>(some (Sum.inl ((v2,())))))else (some (Sum.inr ())))
def yBk(az:List Int):Option (Int×Unit):=
  (some (((0:Int),())))
theorem yEH(n:Nat)(hn:big<=n)(az:List Int)(hx:List.length (az) < lenMax):LeF some (yP (λ af aG a7=>yCl az af aG) (λ a7=>yBk az) 0 (az) ()) (y6n n n az 0):=by
  refine yS (f:=some) (W:=λ aM af a7=>y6n n aM az af) (body:=(λ af aG a7=>yCl az af aG)) (fin:=(λ a7=>yBk az)) (λ aM af a7=>?_) hx () n (by unfold big at hn;unfold lenMax at hx;omega)
  show LeF _ _ (yFV n (y6n n aM) az af)
  exact y5 (y8 λ v1=>(y5 (y8 λ v2=>(y6 rfl)) (y6 rfl))) (yp (y6 rfl))
def y80(l:List Int):Option (Int×Unit):=
  (bif decide (List.length (l) < lenMax)then yP (λ af aG a7=>yCl (l) af aG) (λ a7=>yBk (l)) 0 (l) ()else none)
theorem yTU(l:List Int)(y:Int×Unit)(h:y80 l=some y):∃ n,yM7 n l=some y:=
  ⟨big,LeF.top (show LeF some (y80 l) (yM7 big l)from (λ (n:Nat) (hn:big<=n)=>show LeF some (y80 l) (yM7 n l)from (yM λ hx=>by apply yEH n hn;exact hx)) big (Nat.le_refl _)) h⟩
def z0U_e:Entry:={ f:=24,args:=yQc,ress:=yVe,m:=λ x=>y80 x.1 }
theorem yIJ:FnOK Tryz.prog z0U_e:=yL (g:=yXn) (fn:=Tryz.f24) yC yK eNil (by kernel_rfl) (by kernel_rfl) (by kernel_rfl) (λ x y h=>let ⟨n,hn⟩:=yTU x.1 y h;⟨yP2 n,iNil,(yU4 n x).trans hn⟩)
abbrev zZ_a:Ty:=.pair t23 (.pair t23 .unit)
abbrev zZ_r:Ty:=.pair t4 .unit
def zZ_g:G:={ T:=T,E:=[],muts:=[],fz:=[] }
def zZ_k:List (List Nat):=[[0,1,5]]
def yWL(n:Nat):Ann:={ keep:=zZ_k,fuel:=n,inl:=[],deep:=0 }
def yLK(n:Nat)(r0:List (Q4)->List (Q4)->Int->Option (Bool×Unit))(ax:List (Q4))(aD:List (Q4))(aN:Int):Option (Bool×Unit):=
  (bif decide (aN < (↑ax.length:Int))then (Option.bind (idx ax aN) λ v1=>(Option.bind (idx aD aN) λ v2=>(bif !eqV ((Ty.int IntKind.i64).pair ((Ty.int IntKind.i64).pair Ty.unit)) v1 v2 then some (Bool.false,())else r0 ax aD (IntKind.i64.wrap (aN+1)))))else some (Bool.true,()))
def yA3(n:Nat)(k:Nat)(ax:List (Q4))(aD:List (Q4))(aN:Int):Option (Bool×Unit):=
  iter (λ r y=>yLK n (λ ax aD aN=>r ((ax,(aD,(aN,()))),((),()))) y.1.1 y.1.2.1 y.1.2.2.1) k ((ax,(aD,(aN,()))),((),()))
def zZ_m(n:Nat)(a:List (Q4))(b:List (Q4)):Option (Bool×Unit):=
  (bif (↑a.length:Int) != (↑b.length:Int)then some (Bool.false,())else (yA3 n n (a) (b) ((0:Int))))
theorem ybh(n:Nat)(x:zZ_a.den):runF zZ_g (yWL n) Tryz.f29 zZ_a zZ_r x=zZ_m n x.1 x.2.1:=by kernel_rfl
def yMN(ax:List (Q4))(aD:List (Q4))(aN:Int)(v1:Q4):Option ((Bool×Unit)⊕Unit):=
  (Option.bind (idx aD aN) λ v2=>(bif !eqV ((Ty.int IntKind.i64).pair ((Ty.int IntKind.i64).pair Ty.unit)) v1 v2 then (some (Sum.inl ((Bool.false,()))))else (some (Sum.inr ()))))
def yTT(ax:List (Q4))(aD:List (Q4)):Option (Bool×Unit):=
  (some ((Bool.true,())))
theorem yGd(n:Nat)(hn:big<=n)(ax:List (Q4))(aD:List (Q4))(hx:List.length (ax) < lenMax):LeF some (yP (λ af aG a7=>yMN ax aD af aG) (λ a7=>yTT ax aD) 0 (ax) ()) (yA3 n n ax aD 0):=by
  refine yS (f:=some) (W:=λ aM af a7=>yA3 n aM ax aD af) (body:=(λ af aG a7=>yMN ax aD af aG)) (fin:=(λ a7=>yTT ax aD)) (λ aM af a7=>?_) hx () n (by unfold big at hn;unfold lenMax at hx;omega)
  show LeF _ _ (yLK n (yA3 n aM) ax aD af)
  exact y5 (y8 λ v1=>(y8 λ v2=>(y5 (y6 rfl) (y6 rfl)))) (yp (y6 rfl))
def zZ_M(a:List (Q4))(b:List (Q4)):Option (Bool×Unit):=
  (bif (↑a.length:Int) != (↑b.length:Int)then (some ((Bool.false,())))else (bif decide (List.length (a) < lenMax)then yP (λ af aG a7=>yMN (a) (b) af aG) (λ a7=>yTT (a) (b)) 0 (a) ()else none))
theorem yXN(a:List (Q4))(b:List (Q4))(y:Bool×Unit)(h:zZ_M a b=some y):∃ n,zZ_m n a b=some y:=
  ⟨big,LeF.top (show LeF some (zZ_M a b) (zZ_m big a b)from (λ (n:Nat) (hn:big<=n)=>show LeF some (zZ_M a b) (zZ_m n a b)from (y5 (y6 rfl) (yM λ hx=>by apply yGd n hn;exact hx))) big (Nat.le_refl _)) h⟩
def zZ_e:Entry:={ f:=29,args:=zZ_a,ress:=zZ_r,m:=λ x=>zZ_M x.1 x.2.1 }
theorem yXD:FnOK Tryz.prog zZ_e:=yL (g:=zZ_g) (fn:=Tryz.f29) yC yK eNil (by kernel_rfl) (by kernel_rfl) (by kernel_rfl) (λ x y h=>let ⟨n,hn⟩:=yXN x.1 x.2.1 y h;⟨yWL n,iNil,(ybh n x).trans hn⟩)
abbrev zg_a:Ty:=.pair t35 (.pair t35 .unit)
abbrev zg_r:Ty:=.pair t4 .unit
def zg_g:G:={ T:=T,E:=[],muts:=[],fz:=[] }
def zg_k:List (List Nat):=[[0,1,5]]
def yXl(n:Nat):Ann:={ keep:=zg_k,fuel:=n,inl:=[],deep:=0 }
def yQz(n:Nat)(r0:List Nat->List Nat->Int->Option (Bool×Unit))(ax:List Nat)(aD:List Nat)(aN:Int):Option (Bool×Unit):=
  (bif decide (aN < (↑ax.length:Int))then (Option.bind (idx ax aN) λ v1=>(Option.bind (idx aD aN) λ v2=>(bif yr Go.BinOp.neq Go.FloatKind.f32 v1 v2 then some (Bool.false,())else r0 ax aD (IntKind.i64.wrap (aN+1)))))else some (Bool.true,()))
def yTA(n:Nat)(k:Nat)(ax:List Nat)(aD:List Nat)(aN:Int):Option (Bool×Unit):=
  iter (λ r y=>yQz n (λ ax aD aN=>r ((ax,(aD,(aN,()))),((),()))) y.1.1 y.1.2.1 y.1.2.2.1) k ((ax,(aD,(aN,()))),((),()))
def zg_m(n:Nat)(a:List Nat)(b:List Nat):Option (Bool×Unit):=
  (bif (↑a.length:Int) != (↑b.length:Int)then some (Bool.false,())else (yTA n n (a) (b) ((0:Int))))
theorem ycH(n:Nat)(x:zg_a.den):runF zg_g (yXl n) Tryz.f30 zg_a zg_r x=zg_m n x.1 x.2.1:=by kernel_rfl
def zg_M(a:List Nat)(b:List Nat):Option (Bool×Unit):=zg_m 1000 a b
theorem ya1(a:List Nat)(b:List Nat)(y:Bool×Unit)(h:zg_M a b=some y):∃ n,zg_m n a b=some y:=⟨1000,h⟩
def zg_e:Entry:={ f:=30,args:=zg_a,ress:=zg_r,m:=λ x=>zg_M x.1 x.2.1 }
theorem ybd:FnOK Tryz.prog zg_e:=yL (g:=zg_g) (fn:=Tryz.f30) yC yK eNil (by kernel_rfl) (by kernel_rfl) (by kernel_rfl) (λ x y h=>let ⟨n,hn⟩:=ya1 x.1 x.2.1 y h;⟨yXl n,iNil,(ycH n x).trans hn⟩)
abbrev zt_a:Ty:=.pair t22 .unit
abbrev zt_r:Ty:=.pair t4 .unit
def zt_g:G:={ T:=T,E:=[],muts:=[],fz:=[] }
def zt_k:List (List Nat):=[[0,3]]
def yZn(n:Nat):Ann:={ keep:=zt_k,fuel:=n,inl:=[],deep:=0 }
def yIw(n:Nat)(r0:List (Q3)->Int->Option (Bool×Unit))(az:List (Q3))(bO:Int):Option (Bool×Unit):=
  (bif decide (bO < (↑az.length:Int))then (Option.bind (idx az bO) λ v1=>(bif decide ((↑v1.1.length:Int) > 60)then some (Bool.false,())else r0 az (IntKind.i64.wrap (bO+1))))else some (decide ((↑az.length:Int)<=5),()))
def yAn(n:Nat)(k:Nat)(az:List (Q3))(bO:Int):Option (Bool×Unit):=
  iter (λ r y=>yIw n (λ az bO=>r ((az,(bO,())),((),()))) y.1.1 y.1.2.1) k ((az,(bO,())),((),()))
def zt_m(n:Nat)(l:List (Q3)):Option (Bool×Unit):=
  (yAn n n (l) ((0:Int)))
theorem ydu(n:Nat)(x:zt_a.den):runF zt_g (yZn n) Tryz.f31 zt_a zt_r x=zt_m n x.1:=by kernel_rfl
def yMb(az:List (Q3))(bO:Int)(v1:Q3):Option ((Bool×Unit)⊕Unit):=
  (bif decide ((↑v1.1.length:Int) > 60)then (some (Sum.inl ((Bool.false,()))))else (some (Sum.inr ())))
def yJB(az:List (Q3)):Option (Bool×Unit):=
  (some ((decide ((↑az.length:Int)<=5),())))
theorem yGe(n:Nat)(hn:big<=n)(az:List (Q3))(hx:List.length (az) < lenMax):LeF some (yP (λ af aG a7=>yMb az af aG) (λ a7=>yJB az) 0 (az) ()) (yAn n n az 0):=by
  refine yS (f:=some) (W:=λ aM af a7=>yAn n aM az af) (body:=(λ af aG a7=>yMb az af aG)) (fin:=(λ a7=>yJB az)) (λ aM af a7=>?_) hx () n (by unfold big at hn;unfold lenMax at hx;omega)
  show LeF _ _ (yIw n (yAn n aM) az af)
  exact y5 (y8 λ v1=>(y5 (y6 rfl) (y6 rfl))) (yp (y6 rfl))
def zt_M(l:List (Q3)):Option (Bool×Unit):=
  (bif decide (List.length (l) < lenMax)then yP (λ af aG a7=>yMb (l) af aG) (λ a7=>yJB (l)) 0 (l) ()else none)
theorem yZk(l:List (Q3))(y:Bool×Unit)(h:zt_M l=some y):∃ n,zt_m n l=some y:=
  ⟨big,LeF.top (show LeF some (zt_M l) (zt_m big l)from (λ (n:Nat) (hn:big<=n)=>show LeF some (zt_M l) (zt_m n l)from (yM λ hx=>by apply yGe n hn;exact hx)) big (Nat.le_refl _)) h⟩
def zt_e:Entry:={ f:=31,args:=zt_a,ress:=zt_r,m:=λ x=>zt_M x.1 }
theorem yby:FnOK Tryz.prog zt_e:=yL (g:=zt_g) (fn:=Tryz.f31) yC yK eNil (by kernel_rfl) (by kernel_rfl) (by kernel_rfl) (λ x y h=>let ⟨n,hn⟩:=yZk x.1 y h;⟨yZn n,iNil,(ydu n x).trans hn⟩)
abbrev yQp:Ty:=.pair t22 .unit
abbrev yUm:Ty:=.pair t31 .unit
def yXk:G:={ T:=T,E:=[],muts:=[3],fz:=[] }
def ydF:List (List Nat):=[[3,6,7,8]]
def yPX(n:Nat):Ann:={ keep:=ydF,fuel:=n,inl:=[],deep:=0 }
def yFi(n:Nat)(r0:List (Q3)->Int->Int->List (Q3)->Option (List (Q3)×Unit))(b6:List (Q3))(aP:Int)(ac:Int)(bt:List (Q3)):Option (List (Q3)×Unit):=
  (bif decide (ac < aP)then (Option.bind (idx b6 ac) λ v1=>(bif decide (bt.length+(1:Nat)<=memMax)then r0 b6 aP (IntKind.i64.wrap (ac+1)) (bt++[(v1.1,v1.2.1,v1.2.2.1,())])else none))else some (bt,()))
def y7G(n:Nat)(k:Nat)(b6:List (Q3))(aP:Int)(ac:Int)(bt:List (Q3)):Option (List (Q3)×Unit):=
  iter (λ r y=>yFi n (λ b6 aP ac bt=>r ((b6,(aP,(ac,()))),((bt,()),()))) y.1.1 y.1.2.1 y.1.2.2.1 y.2.1.1) k ((b6,(aP,(ac,()))),((bt,()),()))
def yMu(n:Nat)(l:List (Q3)):Option (List (Q3)×Unit):=
  (y7G n n (l) ((↑l.length:Int)) ((0:Int)) ([]))
theorem yZe(n:Nat)(x:yQp.den):runF yXk (yPX n) Tryz.f33 yQp yUm x=yMu n x.1:=by kernel_rfl
def yF4(b6:List (Q3))(ac:Int)(v1:Q3)(bt:List (Q3)):Option ((List (Q3)×Unit)⊕(List (Q3))):=
  (bif decide (bt.length+(1:Nat)<=memMax)then (some (Sum.inr (bt++[(v1.1,v1.2.1,v1.2.2.1,())])))else none)
def yKg(b6:List (Q3))(bt:List (Q3)):Option (List (Q3)×Unit):=
  (some ((bt,())))
theorem yDe(n:Nat)(hn:big<=n)(b6:List (Q3))(bt:List (Q3))(hx:List.length (b6) < lenMax):LeF some (yP (λ af aG a7=>yF4 b6 af aG a7) (λ a7=>yKg b6 a7) 0 (b6) bt) (y7G n n b6 (List.length (b6):Int) 0 bt):=by
  refine yS (f:=some) (W:=λ aM af a7=>y7G n aM b6 (List.length (b6):Int) af a7) (body:=(λ af aG a7=>yF4 b6 af aG a7)) (fin:=(λ a7=>yKg b6 a7)) (λ aM af a7=>?_) hx bt n (by unfold big at hn;unfold lenMax at hx;omega)
  show LeF _ _ (yFi n (y7G n aM) b6 (List.length (b6):Int) af a7)
  exact y5 (y8 λ v1=>(y5 (y6 rfl) yy)) (yp (y6 rfl))
def yHZ(l:List (Q3)):Option (List (Q3)×Unit):=
  (bif decide (List.length (l) < lenMax)then yP (λ af aG a7=>yF4 (l) af aG a7) (λ a7=>yKg (l) a7) 0 (l) ([])else none)
theorem yQ1(l:List (Q3))(y:List (Q3)×Unit)(h:yHZ l=some y):∃ n,yMu n l=some y:=
  ⟨big,LeF.top (show LeF some (yHZ l) (yMu big l)from (λ (n:Nat) (hn:big<=n)=>show LeF some (yHZ l) (yMu n l)from (yM λ hx=>by apply yDe n hn;exact hx)) big (Nat.le_refl _)) h⟩
def z0n_e:Entry:={ f:=33,args:=yQp,ress:=yUm,m:=λ x=>yHZ x.1 }
theorem yZQ:FnOK Tryz.prog z0n_e:=yL (g:=yXk) (fn:=Tryz.f33) yC yK eNil (by kernel_rfl) (by kernel_rfl) (by kernel_rfl) (λ x y h=>let ⟨n,hn⟩:=yQ1 x.1 y h;⟨yPX n,iNil,(yZe n x).trans hn⟩)
abbrev ze_a:Ty:=.pair t3 (.pair t3 (.pair t3 .unit))
abbrev ze_r:Ty:=.pair t3 .unit
def ze_g:G:={ T:=T,E:=[],muts:=[],fz:=[] }
def ze_k:List (List Nat):=[]
def yax(n:Nat):Ann:={ keep:=ze_k,fuel:=n,inl:=[],deep:=0 }
def ze_m(n:Nat)(n1:Int)(low:Int)(high:Int):Option (Int×Unit):=
  (bif decide (n1 < low)then some ((3:Int),())else (bif decide (n1 > high)then some ((3:Int),())else some ((0:Int),())))
theorem ycm(n:Nat)(x:ze_a.den):runF ze_g (yax n) Tryz.f44 ze_a ze_r x=ze_m n x.1 x.2.1 x.2.2.1:=by kernel_rfl
def ze(n1:Int)(low:Int)(high:Int):(Int×Unit):=
  (bif decide (n1 < low)then ((3:Int),())else (bif decide (n1 > high)then ((3:Int),())else ((0:Int),())))
abbrev ze_M (n1:Int) (low:Int) (high:Int):Option (Int×Unit):=some (ze n1 low high)
theorem yb3(n1:Int)(low:Int)(high:Int)(y:Int×Unit)(h:ze_M n1 low high=some y):∃ n,ze_m n n1 low high=some y:=
  ⟨0,by rw[<- h];show ze_m 0 n1 low high=some (ze n1 low high);unfold ze_m ze;first|rfl|(simp only[yG];done)|(simp only[yG];rfl)⟩
def ze_e:Entry:={ f:=44,args:=ze_a,ress:=ze_r,m:=λ x=>ze_M x.1 x.2.1 x.2.2.1 }
theorem yYA:FnOK Tryz.prog ze_e:=yL (g:=ze_g) (fn:=Tryz.f44) yC yK eNil (by kernel_rfl) (by kernel_rfl) (by kernel_rfl) (λ x y h=>let ⟨n,hn⟩:=yb3 x.1 x.2.1 x.2.2.1 y h;⟨yax n,iNil,(ycm n x).trans hn⟩)
abbrev zz_a:Ty:=.pair t79 (.pair t79 .unit)
abbrev zz_r:Ty:=.pair t4 .unit
def zz_g:G:={ T:=T,E:=[],muts:=[],fz:=[] }
def zz_k:List (List Nat):=[[0,1,5]]
def yZJ(n:Nat):Ann:={ keep:=zz_k,fuel:=n,inl:=[],deep:=0 }
def yIq(n:Nat)(r0:List (Nat×Nat)->List (Nat×Nat)->Int->Option (Bool×Unit))(ax:List (Nat×Nat))(aD:List (Nat×Nat))(aN:Int):Option (Bool×Unit):=
  (bif decide (aN < (↑ax.length:Int))then (Option.bind (idx ax aN) λ v1=>(Option.bind (idx aD aN) λ v2=>(bif !y9n Go.FloatKind.f32 v1 v2 then some (Bool.false,())else r0 ax aD (IntKind.i64.wrap (aN+1)))))else some (Bool.true,()))
def yAP(n:Nat)(k:Nat)(ax:List (Nat×Nat))(aD:List (Nat×Nat))(aN:Int):Option (Bool×Unit):=
  iter (λ r y=>yIq n (λ ax aD aN=>r ((ax,(aD,(aN,()))),((),()))) y.1.1 y.1.2.1 y.1.2.2.1) k ((ax,(aD,(aN,()))),((),()))
def zz_m(n:Nat)(a:List (Nat×Nat))(b:List (Nat×Nat)):Option (Bool×Unit):=
  (bif (↑a.length:Int) != (↑b.length:Int)then some (Bool.false,())else (yAP n n (a) (b) ((0:Int))))
theorem yb9(n:Nat)(x:zz_a.den):runF zz_g (yZJ n) Tryz.f53 zz_a zz_r x=zz_m n x.1 x.2.1:=by kernel_rfl
def yRz(ax:List (Nat×Nat))(aD:List (Nat×Nat))(aN:Int)(v1:Nat×Nat):Option ((Bool×Unit)⊕Unit):=
  (Option.bind (idx aD aN) λ v2=>(bif !y9n Go.FloatKind.f32 v1 v2 then (some (Sum.inl ((Bool.false,()))))else (some (Sum.inr ()))))
def yQU(ax:List (Nat×Nat))(aD:List (Nat×Nat)):Option (Bool×Unit):=
  (some ((Bool.true,())))
theorem yGg(n:Nat)(hn:big<=n)(ax:List (Nat×Nat))(aD:List (Nat×Nat))(hx:List.length (ax) < lenMax):LeF some (yP (λ af aG a7=>yRz ax aD af aG) (λ a7=>yQU ax aD) 0 (ax) ()) (yAP n n ax aD 0):=by
  refine yS (f:=some) (W:=λ aM af a7=>yAP n aM ax aD af) (body:=(λ af aG a7=>yRz ax aD af aG)) (fin:=(λ a7=>yQU ax aD)) (λ aM af a7=>?_) hx () n (by unfold big at hn;unfold lenMax at hx;omega)
  show LeF _ _ (yIq n (yAP n aM) ax aD af)
  exact y5 (y8 λ v1=>(y8 λ v2=>(y5 (y6 rfl) (y6 rfl)))) (yp (y6 rfl))
def zz_M(a:List (Nat×Nat))(b:List (Nat×Nat)):Option (Bool×Unit):=
  (bif (↑a.length:Int) != (↑b.length:Int)then (some ((Bool.false,())))else (bif decide (List.length (a) < lenMax)then yP (λ af aG a7=>yRz (a) (b) af aG) (λ a7=>yQU (a) (b)) 0 (a) ()else none))
theorem yXs(a:List (Nat×Nat))(b:List (Nat×Nat))(y:Bool×Unit)(h:zz_M a b=some y):∃ n,zz_m n a b=some y:=
  ⟨big,LeF.top (show LeF some (zz_M a b) (zz_m big a b)from (λ (n:Nat) (hn:big<=n)=>show LeF some (zz_M a b) (zz_m n a b)from (y5 (y6 rfl) (yM λ hx=>by apply yGg n hn;exact hx))) big (Nat.le_refl _)) h⟩
def zz_e:Entry:={ f:=53,args:=zz_a,ress:=zz_r,m:=λ x=>zz_M x.1 x.2.1 }
theorem ycy:FnOK Tryz.prog zz_e:=yL (g:=zz_g) (fn:=Tryz.f53) yC yK eNil (by kernel_rfl) (by kernel_rfl) (by kernel_rfl) (λ x y h=>let ⟨n,hn⟩:=yXs x.1 x.2.1 y h;⟨yZJ n,iNil,(yb9 n x).trans hn⟩)
abbrev yRl:Ty:=.pair t94 .unit
abbrev yVM:Ty:=.pair t60 .unit
def yYc:G:={ T:=T,E:=[],muts:=[7,11],fz:=[] }
def ycP:List (List Nat):=[]
def yPf(n:Nat):Ann:={ keep:=ycP,fuel:=n,inl:=[],deep:=0 }
def yNT(n:Nat)(r1:Q1):Option ((Q1)×Unit):=
  (bif decide ((0:Nat)+r1.2.2.1.length<=memMax)then (bif decide ((0:Nat)+r1.2.2.2.1.length<=memMax)then some ((r1.1,r1.2.1,r1.2.2.1,r1.2.2.2.1,()),())else none)else none)
theorem yVY(n:Nat)(x:yRl.den):runF yYc (yPf n) Tryz.f56 yRl yVM x=yNT n x.1:=by kernel_rfl
def yMa(r1:Q1):Option ((Q1)×Unit):=yNT 0 r1
theorem ySV(r1:Q1)(y:(Q1)×Unit)(h:yMa r1=some y):∃ n,yNT n r1=some y:=⟨0,h⟩
def z0E_e:Entry:={ f:=56,args:=yRl,ress:=yVM,m:=λ x=>yMa x.1 }
theorem yYr:FnOK Tryz.prog z0E_e:=yL (g:=yYc) (fn:=Tryz.f56) yC yK eNil (by kernel_rfl) (by kernel_rfl) (by kernel_rfl) (λ x y h=>let ⟨n,hn⟩:=ySV x.1 y h;⟨yPf n,iNil,(yVY n x).trans hn⟩)
abbrev yRP:Ty:=.pair t3 (.pair t28 (.pair t3 (.pair t3 .unit)))
abbrev yZI:Ty:=.pair t4 .unit
def yV2:G:={ T:=T,E:=[],muts:=[],fz:=[] }
def ydC:List (List Nat):=[]
def yPc(n:Nat):Ann:={ keep:=ydC,fuel:=n,inl:=[],deep:=0 }
def yNl(n:Nat)(p0:Int)(e:Int)(bad:Int)(want:Int):Option (Bool×Unit):=
  (bif e==bad then (bif bad != 0 then (bif p0==0 then some (Bool.true,())else (bif bad==0 then some (p0==want,())else some (Bool.false,())))else (bif bad==0 then some (p0==want,())else some (Bool.false,())))else some (Bool.false,()))
theorem yWI(n:Nat)(x:yRP.den):runF yV2 (yPc n) Tryz.f65 yRP yZI x=yNl n x.1 x.2.1 x.2.2.1 x.2.2.2.1:=by kernel_rfl
def z0D(p0:Int)(e:Int)(bad:Int)(want:Int):(Bool×Unit):=
  (bif e==bad then (bif bad != 0 then (bif p0==0 then (Bool.true,())else (bif bad==0 then (p0==want,())else (Bool.false,())))else (bif bad==0 then (p0==want,())else (Bool.false,())))else (Bool.false,()))
abbrev yUe (p0:Int) (e:Int) (bad:Int) (want:Int):Option (Bool×Unit):=some (z0D p0 e bad want)
theorem yRL(p0:Int)(e:Int)(bad:Int)(want:Int)(y:Bool×Unit)(h:yUe p0 e bad want=some y):∃ n,yNl n p0 e bad want=some y:=
  ⟨0,by rw[<- h];show yNl 0 p0 e bad want=some (z0D p0 e bad want);unfold yNl z0D;first|rfl|(simp only[yG];done)|(simp only[yG];rfl)⟩
def z0D_e:Entry:={ f:=65,args:=yRP,ress:=yZI,m:=λ x=>yUe x.1 x.2.1 x.2.2.1 x.2.2.2.1 }
theorem yaY:FnOK Tryz.prog z0D_e:=yL (g:=yV2) (fn:=Tryz.f65) yC yK eNil (by kernel_rfl) (by kernel_rfl) (by kernel_rfl) (λ x y h=>let ⟨n,hn⟩:=yRL x.1 x.2.1 x.2.2.1 x.2.2.2.1 y h;⟨yPc n,iNil,(yWI n x).trans hn⟩)
abbrev zr_a:Ty:=.pair t100 (.pair t100 .unit)
abbrev zr_r:Ty:=.pair t4 .unit
def zr_g:G:={ T:=T,E:=[],muts:=[],fz:=[] }
def zr_k:List (List Nat):=[[0,1,5]]
def yYb(n:Nat):Ann:={ keep:=zr_k,fuel:=n,inl:=[],deep:=0 }
def yKm(n:Nat)(r0:List (List Int)->List (List Int)->Int->Option (Bool×Unit))(ax:List (List Int))(aD:List (List Int))(aN:Int):Option (Bool×Unit):=
  (bif decide (aN < (↑ax.length:Int))then (Option.bind (idx ax aN) λ v1=>(Option.bind (idx aD aN) λ v2=>(bif !eqV (Ty.arr (2:Nat) (Ty.int IntKind.i64)) v1 v2 then some (Bool.false,())else r0 ax aD (IntKind.i64.wrap (aN+1)))))else some (Bool.true,()))
def yAQ(n:Nat)(k:Nat)(ax:List (List Int))(aD:List (List Int))(aN:Int):Option (Bool×Unit):=
  iter (λ r y=>yKm n (λ ax aD aN=>r ((ax,(aD,(aN,()))),((),()))) y.1.1 y.1.2.1 y.1.2.2.1) k ((ax,(aD,(aN,()))),((),()))
def zr_m(n:Nat)(a:List (List Int))(b:List (List Int)):Option (Bool×Unit):=
  (bif (↑a.length:Int) != (↑b.length:Int)then some (Bool.false,())else (yAQ n n (a) (b) ((0:Int))))
theorem ybm(n:Nat)(x:zr_a.den):runF zr_g (yYb n) Tryz.f66 zr_a zr_r x=zr_m n x.1 x.2.1:=by kernel_rfl
def yN8(ax:List (List Int))(aD:List (List Int))(aN:Int)(v1:List Int):Option ((Bool×Unit)⊕Unit):=
  (Option.bind (idx aD aN) λ v2=>(bif !eqV (Ty.arr (2:Nat) (Ty.int IntKind.i64)) v1 v2 then (some (Sum.inl ((Bool.false,()))))else (some (Sum.inr ()))))
def yTx(ax:List (List Int))(aD:List (List Int)):Option (Bool×Unit):=
  (some ((Bool.true,())))
theorem yHc(n:Nat)(hn:big<=n)(ax:List (List Int))(aD:List (List Int))(hx:List.length (ax) < lenMax):LeF some (yP (λ af aG a7=>yN8 ax aD af aG) (λ a7=>yTx ax aD) 0 (ax) ()) (yAQ n n ax aD 0):=by
  refine yS (f:=some) (W:=λ aM af a7=>yAQ n aM ax aD af) (body:=(λ af aG a7=>yN8 ax aD af aG)) (fin:=(λ a7=>yTx ax aD)) (λ aM af a7=>?_) hx () n (by unfold big at hn;unfold lenMax at hx;omega)
  show LeF _ _ (yKm n (yAQ n aM) ax aD af)
  exact y5 (y8 λ v1=>(y8 λ v2=>(y5 (y6 rfl) (y6 rfl)))) (yp (y6 rfl))
def zr_M(a:List (List Int))(b:List (List Int)):Option (Bool×Unit):=
  (bif (↑a.length:Int) != (↑b.length:Int)then (some ((Bool.false,())))else (bif decide (List.length (a) < lenMax)then yP (λ af aG a7=>yN8 (a) (b) af aG) (λ a7=>yTx (a) (b)) 0 (a) ()else none))
theorem yUb(a:List (List Int))(b:List (List Int))(y:Bool×Unit)(h:zr_M a b=some y):∃ n,zr_m n a b=some y:=
  ⟨big,LeF.top (show LeF some (zr_M a b) (zr_m big a b)from (λ (n:Nat) (hn:big<=n)=>show LeF some (zr_M a b) (zr_m n a b)from (y5 (y6 rfl) (yM λ hx=>by apply yHc n hn;exact hx))) big (Nat.le_refl _)) h⟩
def zr_e:Entry:={ f:=66,args:=zr_a,ress:=zr_r,m:=λ x=>zr_M x.1 x.2.1 }
theorem yas:FnOK Tryz.prog zr_e:=yL (g:=zr_g) (fn:=Tryz.f66) yC yK eNil (by kernel_rfl) (by kernel_rfl) (by kernel_rfl) (λ x y h=>let ⟨n,hn⟩:=yUb x.1 x.2.1 y h;⟨yYb n,iNil,(ybm n x).trans hn⟩)
abbrev zx_a:Ty:=.pair t41 (.pair t41 .unit)
abbrev zx_r:Ty:=.pair t4 .unit
def zx_g:G:={ T:=T,E:=[],muts:=[],fz:=[] }
def zx_k:List (List Nat):=[[0,1,5]]
def yZN(n:Nat):Ann:={ keep:=zx_k,fuel:=n,inl:=[],deep:=0 }
def yQf(n:Nat)(r0:List Int->List Int->Int->Option (Bool×Unit))(ax:List Int)(aD:List Int)(aN:Int):Option (Bool×Unit):=
  (bif decide (aN < (↑ax.length:Int))then (Option.bind (idx ax aN) λ v1=>(Option.bind (idx aD aN) λ v2=>(bif v1 != v2 then some (Bool.false,())else r0 ax aD (IntKind.i64.wrap (aN+1)))))else some (Bool.true,()))
def ySZ(n:Nat)(k:Nat)(ax:List Int)(aD:List Int)(aN:Int):Option (Bool×Unit):=
  iter (λ r y=>yQf n (λ ax aD aN=>r ((ax,(aD,(aN,()))),((),()))) y.1.1 y.1.2.1 y.1.2.2.1) k ((ax,(aD,(aN,()))),((),()))
def zx_m(n:Nat)(a:List Int)(b:List Int):Option (Bool×Unit):=
  (bif (↑a.length:Int) != (↑b.length:Int)then some (Bool.false,())else (ySZ n n (a) (b) ((0:Int))))
theorem ycK(n:Nat)(x:zx_a.den):runF zx_g (yZN n) Tryz.f75 zx_a zx_r x=zx_m n x.1 x.2.1:=by kernel_rfl
def zx_M(a:List Int)(b:List Int):Option (Bool×Unit):=zx_m 1000 a b
theorem yXH(a:List Int)(b:List Int)(y:Bool×Unit)(h:zx_M a b=some y):∃ n,zx_m n a b=some y:=⟨1000,h⟩
def zx_e:Entry:={ f:=75,args:=zx_a,ress:=zx_r,m:=λ x=>zx_M x.1 x.2.1 }
theorem yc1:FnOK Tryz.prog zx_e:=yL (g:=zx_g) (fn:=Tryz.f75) yC yK eNil (by kernel_rfl) (by kernel_rfl) (by kernel_rfl) (λ x y h=>let ⟨n,hn⟩:=yXH x.1 x.2.1 y h;⟨yZN n,iNil,(ycK n x).trans hn⟩)
def zi_m(n:Nat)(x1:Nat):Option (Int×Unit):=
  (Option.bind (y1e Go.FloatKind.f32 x1 Go.FloatKind.f64) λ v0=>(Option.bind (yo Go.FloatKind.f64 (y09 Go.BinOp.mul Go.FloatKind.f64 (nat_lit 4625196817309499392) v0) IntKind.i64) λ v1=>some (v1,())))
def zi_M(x1:Nat):Option (Int×Unit):=zi_m 0 x1
abbrev yTZ:Ty:=.pair t57 (.pair t57 .unit)
abbrev yXV:Ty:=.pair t57 .unit
def yU8:G:={ T:=T,E:=[],muts:=[],fz:=[] }
def ycE:List (List Nat):=[]
def yOx(n:Nat):Ann:={ keep:=ycE,fuel:=n,inl:=[],deep:=0 }
def yLi(n:Nat)(a:Q4)(b:Q4):Option ((Q4)×Unit):=
  some ((IntKind.i64.wrap (IntKind.i64.wrap (a.1 * b.1) - IntKind.i64.wrap (a.2.1 * b.2.1)),IntKind.i64.wrap (IntKind.i64.wrap (a.1 * b.2.1)+IntKind.i64.wrap (a.2.1 * b.1)),()),())
theorem yaS(n:Nat)(x:yTZ.den):runF yU8 (yOx n) Tryz.f80 yTZ yXV x=yLi n x.1 x.2.1:=by kernel_rfl
def z0V(a:Q4)(b:Q4):((Q4)×Unit):=
  ((IntKind.i64.wrap (IntKind.i64.wrap (a.1 * b.1) - IntKind.i64.wrap (a.2.1 * b.2.1)),IntKind.i64.wrap (IntKind.i64.wrap (a.1 * b.2.1)+IntKind.i64.wrap (a.2.1 * b.1)),()),())
abbrev yZY (a:Q4) (b:Q4):Option ((Q4)×Unit):=some (z0V a b)
theorem ySU(a:Q4)(b:Q4)(y:(Q4)×Unit)(h:yZY a b=some y):∃ n,yLi n a b=some y:=
  ⟨0,by rw[<- h];show yLi 0 a b=some (z0V a b);unfold yLi z0V;first|rfl|(simp only[yG];done)|(simp only[yG];rfl)⟩
def z0V_e:Entry:={ f:=80,args:=yTZ,ress:=yXV,m:=λ x=>yZY x.1 x.2.1 }
theorem yPb:FnOK Tryz.prog z0V_e:=yL (g:=yU8) (fn:=Tryz.f80) yC yK eNil (by kernel_rfl) (by kernel_rfl) (by kernel_rfl) (λ x y h=>let ⟨n,hn⟩:=ySU x.1 x.2.1 y h;⟨yOx n,iNil,(yaS n x).trans hn⟩)
abbrev yRD:Ty:=.pair t57 (.pair t57 .unit)
abbrev yVi:Ty:=.pair t57 .unit
def yXX:G:={ T:=T,E:=[],muts:=[],fz:=[] }
def ybV:List (List Nat):=[]
def yPC(n:Nat):Ann:={ keep:=ybV,fuel:=n,inl:=[],deep:=0 }
def yM0(n:Nat)(a:Q4)(b:Q4):Option ((Q4)×Unit):=
  some ((IntKind.i64.wrap (a.1+b.1),IntKind.i64.wrap (a.2.1+b.2.1),()),())
theorem yWD(n:Nat)(x:yRD.den):runF yXX (yPC n) Tryz.f82 yRD yVi x=yM0 n x.1 x.2.1:=by kernel_rfl
def z0s(a:Q4)(b:Q4):((Q4)×Unit):=
  ((IntKind.i64.wrap (a.1+b.1),IntKind.i64.wrap (a.2.1+b.2.1),()),())
abbrev yXc (a:Q4) (b:Q4):Option ((Q4)×Unit):=some (z0s a b)
theorem yR5(a:Q4)(b:Q4)(y:(Q4)×Unit)(h:yXc a b=some y):∃ n,yM0 n a b=some y:=
  ⟨0,by rw[<- h];show yM0 0 a b=some (z0s a b);unfold yM0 z0s;first|rfl|(simp only[yG];done)|(simp only[yG];rfl)⟩
def z0s_e:Entry:={ f:=82,args:=yRD,ress:=yVi,m:=λ x=>yXc x.1 x.2.1 }
theorem yOg:FnOK Tryz.prog z0s_e:=yL (g:=yXX) (fn:=Tryz.f82) yC yK eNil (by kernel_rfl) (by kernel_rfl) (by kernel_rfl) (λ x y h=>let ⟨n,hn⟩:=yR5 x.1 x.2.1 y h;⟨yPC n,iNil,(yWD n x).trans hn⟩)
abbrev zp_a:Ty:=.pair t57 .unit
abbrev zp_r:Ty:=.pair t57 .unit
def zp_g:G:={ T:=T,E:=[],muts:=[],fz:=[] }
def zp_k:List (List Nat):=[]
def yXo(n:Nat):Ann:={ keep:=zp_k,fuel:=n,inl:=[],deep:=0 }
def zp_m(n:Nat)(a:Q4):Option ((Q4)×Unit):=
  some ((a.1,IntKind.i64.wrap ((0:Int) - a.2.1),()),())
theorem ycu(n:Nat)(x:zp_a.den):runF zp_g (yXo n) Tryz.f83 zp_a zp_r x=zp_m n x.1:=by kernel_rfl
def zp(a:Q4):((Q4)×Unit):=
  ((a.1,IntKind.i64.wrap ((0:Int) - a.2.1),()),())
abbrev zp_M (a:Q4):Option ((Q4)×Unit):=some (zp a)
theorem yXx(a:Q4)(y:(Q4)×Unit)(h:zp_M a=some y):∃ n,zp_m n a=some y:=
  ⟨0,by rw[<- h];show zp_m 0 a=some (zp a);unfold zp_m zp;first|rfl|(simp only[yG];done)|(simp only[yG];rfl)⟩
def zp_e:Entry:={ f:=83,args:=zp_a,ress:=zp_r,m:=λ x=>zp_M x.1 }
theorem ydG:FnOK Tryz.prog zp_e:=yL (g:=zp_g) (fn:=Tryz.f83) yC yK eNil (by kernel_rfl) (by kernel_rfl) (by kernel_rfl) (λ x y h=>let ⟨n,hn⟩:=yXx x.1 y h;⟨yXo n,iNil,(ycu n x).trans hn⟩)
abbrev yPx:Ty:=.pair t58 .unit
abbrev yb0:Ty:=.pair t60 .unit
def yWS:G:={ T:=T,E:=[],muts:=[],fz:=[] }
def ydo:List (List Nat):=[]
def yOW(n:Nat):Ann:={ keep:=ydo,fuel:=n,inl:=[],deep:=0 }
def yMF(n:Nat)(gaps:List (Q4)):Option ((Q1)×Unit):=
  some (([(103:UInt8)],(0:Int),[nat_lit 1065353216,nat_lit 0,nat_lit 3212836864,nat_lit 0],gaps,()),())
theorem yYI(n:Nat)(x:yPx.den):runF yWS (yOW n) Tryz.f102 yPx yb0 x=yMF n x.1:=by kernel_rfl
def z0o(gaps:List (Q4)):((Q1)×Unit):=
  (([(103:UInt8)],(0:Int),[nat_lit 1065353216,nat_lit 0,nat_lit 3212836864,nat_lit 0],gaps,()),())
abbrev yWz (gaps:List (Q4)):Option ((Q1)×Unit):=some (z0o gaps)
theorem yQD(gaps:List (Q4))(y:(Q1)×Unit)(h:yWz gaps=some y):∃ n,yMF n gaps=some y:=
  ⟨0,by rw[<- h];show yMF 0 gaps=some (z0o gaps);unfold yMF z0o;first|rfl|(simp only[yG];done)|(simp only[yG];rfl)⟩
def z0o_e:Entry:={ f:=102,args:=yPx,ress:=yb0,m:=λ x=>yWz x.1 }
theorem yXB:FnOK Tryz.prog z0o_e:=yL (g:=yWS) (fn:=Tryz.f102) yC yK eNil (by kernel_rfl) (by kernel_rfl) (by kernel_rfl) (λ x y h=>let ⟨n,hn⟩:=yQD x.1 y h;⟨yOW n,iNil,(yYI n x).trans hn⟩)
abbrev ySn:Ty:=.pair t9 .unit
abbrev yUz:Ty:=.pair t31 .unit
def yWe:G:={ T:=T,E:=[],muts:=[3],fz:=[] }
def ybY:List (List Nat):=[[3,8]]
def yO1(n:Nat):Ann:={ keep:=ybY,fuel:=n,inl:=[],deep:=0 }
def yMv(n:Nat)(r0:List (Q3)->List UInt8->Int->Option (List (Q3)×Unit))(bt:List (Q3))(str1__0:List UInt8)(pos1__0:Int):Option (List (Q3)×Unit):=
  (bif decide (pos1__0 < (↑str1__0.length:Int))then (bif (ye str1__0 pos1__0).1==72 then (bif decide (bt.length+(1:Nat)<=memMax)then r0 (bt++[(y3q (ye str1__0 pos1__0).1,(1:Int),(2:Int),())]) str1__0 (ye str1__0 pos1__0).2 else none)else (bif (ye str1__0 pos1__0).1==81 then (bif decide (bt.length+(1:Nat)<=memMax)then r0 (bt++[(y3q (ye str1__0 pos1__0).1,(1:Int),(1:Int),())]) str1__0 (ye str1__0 pos1__0).2 else none)else (bif (ye str1__0 pos1__0).1==82 then (bif decide (bt.length+(1:Nat)<=memMax)then r0 (bt++[(y3q (ye str1__0 pos1__0).1,(1:Int),(3:Int),())]) str1__0 (ye str1__0 pos1__0).2 else none)else (bif decide (bt.length+(1:Nat)<=memMax)then r0 (bt++[(y3q (ye str1__0 pos1__0).1,(1:Int),(0:Int),())]) str1__0 (ye str1__0 pos1__0).2 else none))))else some (bt,()))
def yMz(n:Nat)(k:Nat)(bt:List (Q3))(str1__0:List UInt8)(pos1__0:Int):Option (List (Q3)×Unit):=
  iter (λ r y=>yMv n (λ bt str1__0 pos1__0=>r ((),((bt,((str1__0,pos1__0),())),()))) y.2.1.1 y.2.1.2.1.1 y.2.1.2.1.2) k ((),((bt,((str1__0,pos1__0),())),()))
def yQS(n:Nat)(names:List UInt8):Option (List (Q3)×Unit):=
  (yMz n n ([]) (names) ((0:Int)))
theorem yYO(n:Nat)(x:ySn.den):runF yWe (yO1 n) Tryz.f103 ySn yUz x=yQS n x.1:=by kernel_rfl
def y5t(names:List UInt8):Option (List (Q3)×Unit):=yQS 1000 names
theorem yQA(names:List UInt8)(y:List (Q3)×Unit)(h:y5t names=some y):∃ n,yQS n names=some y:=⟨1000,h⟩
def z0T_e:Entry:={ f:=103,args:=ySn,ress:=yUz,m:=λ x=>y5t x.1 }
theorem yaI:FnOK Tryz.prog z0T_e:=yL (g:=yWe) (fn:=Tryz.f103) yC yK eNil (by kernel_rfl) (by kernel_rfl) (by kernel_rfl) (λ x y h=>let ⟨n,hn⟩:=yQA x.1 y h;⟨yO1 n,iNil,(yYO n x).trans hn⟩)
abbrev ySo:Ty:=.pair t175 .unit
abbrev yUJ:Ty:=.pair t28 .unit
def yWZ:G:={ T:=T,E:=[],muts:=[],fz:=[] }
def ydc:List (List Nat):=[[5,6,7]]
def yOc(n:Nat):Ann:={ keep:=ydc,fuel:=n,inl:=[],deep:=0 }
def yEo(n:Nat)(r0:List Int->Int->Int->Option (Int×Unit))(bv:List Int)(b6:Int)(aP:Int):Option (Int×Unit):=
  (bif decide (aP < b6)then (Option.bind (idx bv aP) λ v1=>(bif v1 != 0 then some (v1,())else r0 bv b6 (IntKind.i64.wrap (aP+1))))else some ((0:Int),()))
def y6m(n:Nat)(k:Nat)(bv:List Int)(b6:Int)(aP:Int):Option (Int×Unit):=
  iter (λ r y=>yEo n (λ bv b6 aP=>r ((bv,(b6,(aP,()))),((),()))) y.1.1 y.1.2.1 y.1.2.2.1) k ((bv,(b6,(aP,()))),((),()))
def yLY(n:Nat)(l:List Int):Option (Int×Unit):=
  (y6m n n (l) ((↑l.length:Int)) ((0:Int)))
theorem yXa(n:Nat)(x:ySo.den):runF yWZ (yOc n) Tryz.f104 ySo yUJ x=yLY n x.1:=by kernel_rfl
def yEy(bv:List Int)(aP:Int)(v1:Int):Option ((Int×Unit)⊕Unit):=
  (bif v1 != 0 then (some (Sum.inl ((v1,()))))else (some (Sum.inr ())))
def yFJ(bv:List Int):Option (Int×Unit):=
  (some (((0:Int),())))
theorem yDy(n:Nat)(hn:big<=n)(bv:List Int)(hx:List.length (bv) < lenMax):LeF some (yP (λ af aG a7=>yEy bv af aG) (λ a7=>yFJ bv) 0 (bv) ()) (y6m n n bv (List.length (bv):Int) 0):=by
  refine yS (f:=some) (W:=λ aM af a7=>y6m n aM bv (List.length (bv):Int) af) (body:=(λ af aG a7=>yEy bv af aG)) (fin:=(λ a7=>yFJ bv)) (λ aM af a7=>?_) hx () n (by unfold big at hn;unfold lenMax at hx;omega)
  show LeF _ _ (yEo n (y6m n aM) bv (List.length (bv):Int) af)
  exact y5 (y8 λ v1=>(y5 (y6 rfl) (y6 rfl))) (yp (y6 rfl))
def y2H(l:List Int):Option (Int×Unit):=
  (bif decide (List.length (l) < lenMax)then yP (λ af aG a7=>yEy (l) af aG) (λ a7=>yFJ (l)) 0 (l) ()else none)
theorem yTk(l:List Int)(y:Int×Unit)(h:y2H l=some y):∃ n,yLY n l=some y:=
  ⟨big,LeF.top (show LeF some (y2H l) (yLY big l)from (λ (n:Nat) (hn:big<=n)=>show LeF some (y2H l) (yLY n l)from (yM λ hx=>by apply yDy n hn;exact hx)) big (Nat.le_refl _)) h⟩
def z11_e:Entry:={ f:=104,args:=ySo,ress:=yUJ,m:=λ x=>y2H x.1 }
theorem y4X:FnOK Tryz.prog z11_e:=yL (g:=yWZ) (fn:=Tryz.f104) yC yK eNil (by kernel_rfl) (by kernel_rfl) (by kernel_rfl) (λ x y h=>let ⟨n,hn⟩:=yTk x.1 y h;⟨yOc n,iNil,(yXa n x).trans hn⟩)
abbrev yRH:Ty:=.pair t3 (.pair t3 .unit)
abbrev yVJ:Ty:=.pair t3 .unit
def yYs:G:={ T:=T,E:=[],muts:=[],fz:=[] }
def ybi:List (List Nat):=[]
def yOM(n:Nat):Ann:={ keep:=ybi,fuel:=n,inl:=[],deep:=0 }
def yTF(n:Nat)(a:Int)(b:Int):Option (Int×Unit):=
  (bif IntKind.i64.wrap ((2:Int) * b)==0 then none else (bif IntKind.i64.wrap ((2:Int) * b)==0 then none else (bif decide ((IntKind.i64.wrap (IntKind.i64.wrap ((2:Int) * a)+b)).tmod (IntKind.i64.wrap ((2:Int) * b)) < 0)then some (IntKind.i64.wrap (IntKind.i64.wrap ((IntKind.i64.wrap (IntKind.i64.wrap ((2:Int) * a)+b)).tdiv (IntKind.i64.wrap ((2:Int) * b))) - (1:Int)),())else some (IntKind.i64.wrap ((IntKind.i64.wrap (IntKind.i64.wrap ((2:Int) * a)+b)).tdiv (IntKind.i64.wrap ((2:Int) * b))),()))))
theorem yb2(n:Nat)(x:yRH.den):runF yYs (yOM n) Tryz.f107 yRH yVJ x=yTF n x.1 x.2.1:=by kernel_rfl
def yRr(a:Int)(b:Int):Option (Int×Unit):=yTF 0 a b
theorem yTL(a:Int)(b:Int)(y:Int×Unit)(h:yRr a b=some y):∃ n,yTF n a b=some y:=⟨0,h⟩
def z0O_e:Entry:={ f:=107,args:=yRH,ress:=yVJ,m:=λ x=>yRr x.1 x.2.1 }
theorem yaF:FnOK Tryz.prog z0O_e:=yL (g:=yYs) (fn:=Tryz.f107) yC yK eNil (by kernel_rfl) (by kernel_rfl) (by kernel_rfl) (λ x y h=>let ⟨n,hn⟩:=yTL x.1 x.2.1 y h;⟨yOM n,iNil,(yb2 n x).trans hn⟩)
abbrev yPw:Ty:=.pair t3 .unit
abbrev yXm:Ty:=.pair t3 .unit
def yYt:G:={ T:=T,E:=[],muts:=[],fz:=[] }
def ydM:List (List Nat):=[]
def yPQ(n:Nat):Ann:={ keep:=ydM,fuel:=n,inl:=[],deep:=0 }
def yMm(n:Nat)(n1:Int):Option (Int×Unit):=
  some (if IntKind.i64.wrap ((0:Int) - n1) > n1 then IntKind.i64.wrap ((0:Int) - n1)else n1,())
theorem yZr(n:Nat)(x:yPw.den):runF yYt (yPQ n) Tryz.f108 yPw yXm x=yMm n x.1:=by kernel_rfl
def z09(n1:Int):(Int×Unit):=
  (if IntKind.i64.wrap ((0:Int) - n1) > n1 then IntKind.i64.wrap ((0:Int) - n1)else n1,())
abbrev yWu (n1:Int):Option (Int×Unit):=some (z09 n1)
theorem yQ3(n1:Int)(y:Int×Unit)(h:yWu n1=some y):∃ n,yMm n n1=some y:=
  ⟨0,by rw[<- h];show yMm 0 n1=some (z09 n1);unfold yMm z09;first|rfl|(simp only[yG];done)|(simp only[yG];rfl)⟩
def z09_e:Entry:={ f:=108,args:=yPw,ress:=yXm,m:=λ x=>yWu x.1 }
theorem yCd:FnOK Tryz.prog z09_e:=yL (g:=yYt) (fn:=Tryz.f108) yC yK eNil (by kernel_rfl) (by kernel_rfl) (by kernel_rfl) (λ x y h=>let ⟨n,hn⟩:=yQ3 x.1 y h;⟨yPQ n,iNil,(yZr n x).trans hn⟩)
abbrev yQE:Ty:=.pair t4 (.pair t28 .unit)
abbrev yaA:Ty:=.pair t28 .unit
def ya7:G:={ T:=T,E:=[],muts:=[],fz:=[] }
def ycd:List (List Nat):=[]
def yOi(n:Nat):Ann:={ keep:=ycd,fuel:=n,inl:=[],deep:=0 }
def yMZ(n:Nat)(holds:Bool)(e:Int):Option (Int×Unit):=
  (bif holds then some (e,())else some ((0:Int),()))
theorem yWm(n:Nat)(x:yQE.den):runF ya7 (yOi n) Tryz.f113 yQE yaA x=yMZ n x.1 x.2.1:=by kernel_rfl
def z1F(holds:Bool)(e:Int):(Int×Unit):=
  (bif holds then (e,())else ((0:Int),()))
abbrev yW9 (holds:Bool) (e:Int):Option (Int×Unit):=some (z1F holds e)
theorem yRe(holds:Bool)(e:Int)(y:Int×Unit)(h:yW9 holds e=some y):∃ n,yMZ n holds e=some y:=
  ⟨0,by rw[<- h];show yMZ 0 holds e=some (z1F holds e);unfold yMZ z1F;first|rfl|(simp only[yG];done)|(simp only[yG];rfl)⟩
def z1F_e:Entry:={ f:=113,args:=yQE,ress:=yaA,m:=λ x=>yW9 x.1 x.2.1 }
theorem y6G:FnOK Tryz.prog z1F_e:=yL (g:=ya7) (fn:=Tryz.f113) yC yK eNil (by kernel_rfl) (by kernel_rfl) (by kernel_rfl) (λ x y h=>let ⟨n,hn⟩:=yRe x.1 x.2.1 y h;⟨yOi n,iNil,(yWm n x).trans hn⟩)
abbrev zF_a:Ty:=.pair t23 (.pair t177 .unit)
abbrev zF_r:Ty:=.pair t175 .unit
def zF_g:G:={ T:=T,E:=[],muts:=[5],fz:=[] }
def zF_k:List (List Nat):=[[1,5,8,9,10]]
def yYE(n:Nat):Ann:={ keep:=zF_k,fuel:=n,inl:=[],deep:=0 }
def yL2(n:Nat)(r0:((Q4)×Unit->Option (Int×Unit))->List (Q4)->Int->Int->List Int->Option (List Int×Unit))(ae:(Q4)×Unit->Option (Int×Unit))(ac:List (Q4))(aj:Int)(ak:Int)(ai:List Int):Option (List Int×Unit):=
  (bif decide (ak < aj)then (Option.bind (idx ac ak) λ v1=>(Option.bind (ae ((v1.1,v1.2.1,()),())) λ v2=>(bif decide (ai.length+(1:Nat)<=memMax)then r0 ae ac aj (IntKind.i64.wrap (ak+1)) (ai++[v2.1])else none)))else some (ai,()))
def yBA(n:Nat)(k:Nat)(ae:(Q4)×Unit->Option (Int×Unit))(ac:List (Q4))(aj:Int)(ak:Int)(ai:List Int):Option (List Int×Unit):=
  iter (λ r y=>yL2 n (λ ae ac aj ak ai=>r ((ae,(ac,(aj,(ak,())))),((ai,()),()))) y.1.1 y.1.2.1 y.1.2.2.1 y.1.2.2.2.1 y.2.1.1) k ((ae,(ac,(aj,(ak,())))),((ai,()),()))
def zF_m(n:Nat)(l:List (Q4))(of:(Q4)×Unit->Option (Int×Unit)):Option (List Int×Unit):=
  (yBA n n (of) (l) ((↑l.length:Int)) ((0:Int)) ([]))
theorem yb8(n:Nat)(x:zF_a.den):runF zF_g (yYE n) Tryz.f115 zF_a zF_r x=zF_m n x.1 x.2.1:=by kernel_rfl
def yT0(ae:(Q4)×Unit->Option (Int×Unit))(ac:List (Q4))(ak:Int)(v1:Q4)(ai:List Int):Option ((List Int×Unit)⊕(List Int)):=
  (Option.bind (ae ((v1.1,v1.2.1,()),())) λ v2=>(bif decide (ai.length+(1:Nat)<=memMax)then (some (Sum.inr (ai++[v2.1])))else none))
def yTj(ae:(Q4)×Unit->Option (Int×Unit))(ac:List (Q4))(ai:List Int):Option (List Int×Unit):=
  (some ((ai,())))
theorem yIB(n:Nat)(hn:big<=n)(ae:(Q4)×Unit->Option (Int×Unit))(ac:List (Q4))(ai:List Int)(hx:List.length (ac) < lenMax):LeF some (yP (λ af aG a7=>yT0 ae ac af aG a7) (λ a7=>yTj ae ac a7) 0 (ac) ai) (yBA n n ae ac (List.length (ac):Int) 0 ai):=by
  refine yS (f:=some) (W:=λ aM af a7=>yBA n aM ae ac (List.length (ac):Int) af a7) (body:=(λ af aG a7=>yT0 ae ac af aG a7)) (fin:=(λ a7=>yTj ae ac a7)) (λ aM af a7=>?_) hx ai n (by unfold big at hn;unfold lenMax at hx;omega)
  show LeF _ _ (yL2 n (yBA n aM) ae ac (List.length (ac):Int) af a7)
  exact y5 (y8 λ v1=>(y8 λ v2=>(y5 (y6 rfl) yy))) (yp (y6 rfl))
def zF_M(l:List (Q4))(of:(Q4)×Unit->Option (Int×Unit)):Option (List Int×Unit):=
  (bif decide (List.length (l) < lenMax)then yP (λ af aG a7=>yT0 (of) (l) af aG a7) (λ a7=>yTj (of) (l) a7) 0 (l) ([])else none)
theorem yVU(l:List (Q4))(of:(Q4)×Unit->Option (Int×Unit))(y:List Int×Unit)(h:zF_M l of=some y):∃ n,zF_m n l of=some y:=
  ⟨big,LeF.top (show LeF some (zF_M l of) (zF_m big l of)from (λ (n:Nat) (hn:big<=n)=>show LeF some (zF_M l of) (zF_m n l of)from (yM λ hx=>by apply yIB n hn;exact hx)) big (Nat.le_refl _)) h⟩
def zF_e:Entry:={ f:=115,args:=zF_a,ress:=zF_r,m:=λ x=>zF_M x.1 x.2.1 }
theorem yae:FnOK Tryz.prog zF_e:=yL (g:=zF_g) (fn:=Tryz.f115) yC yK eNil (by kernel_rfl) (by kernel_rfl) (by kernel_rfl) (λ x y h=>let ⟨n,hn⟩:=yVU x.1 x.2.1 y h;⟨yYE n,iNil,(yb8 n x).trans hn⟩)
abbrev yQk:Ty:=.pair t57 (.pair t57 .unit)
abbrev yUD:Ty:=.pair t57 .unit
def yVN:G:={ T:=T,E:=[],muts:=[],fz:=[] }
def ydl:List (List Nat):=[]
def yPp(n:Nat):Ann:={ keep:=ydl,fuel:=n,inl:=[],deep:=0 }
def yNE(n:Nat)(a:Q4)(b:Q4):Option ((Q4)×Unit):=
  some ((IntKind.i64.wrap (IntKind.i64.wrap (a.1 * b.1) - IntKind.i64.wrap (a.2.1 * b.2.1)),IntKind.i64.wrap (IntKind.i64.wrap (a.1 * b.2.1)+IntKind.i64.wrap (a.2.1 * b.1)),()),())
theorem yVW(n:Nat)(x:yQk.den):runF yVN (yPp n) Tryz.f125 yQk yUD x=yNE n x.1 x.2.1:=by kernel_rfl
def z17(a:Q4)(b:Q4):((Q4)×Unit):=
  ((IntKind.i64.wrap (IntKind.i64.wrap (a.1 * b.1) - IntKind.i64.wrap (a.2.1 * b.2.1)),IntKind.i64.wrap (IntKind.i64.wrap (a.1 * b.2.1)+IntKind.i64.wrap (a.2.1 * b.1)),()),())
abbrev yU3 (a:Q4) (b:Q4):Option ((Q4)×Unit):=some (z17 a b)
theorem yQH(a:Q4)(b:Q4)(y:(Q4)×Unit)(h:yU3 a b=some y):∃ n,yNE n a b=some y:=
  ⟨0,by rw[<- h];show yNE 0 a b=some (z17 a b);unfold yNE z17;first|rfl|(simp only[yG];done)|(simp only[yG];rfl)⟩
def z17_e:Entry:={ f:=125,args:=yQk,ress:=yUD,m:=λ x=>yU3 x.1 x.2.1 }
theorem yFU:FnOK Tryz.prog z17_e:=yL (g:=yVN) (fn:=Tryz.f125) yC yK eNil (by kernel_rfl) (by kernel_rfl) (by kernel_rfl) (λ x y h=>let ⟨n,hn⟩:=yQH x.1 x.2.1 y h;⟨yPp n,iNil,(yVW n x).trans hn⟩)
abbrev ySy:Ty:=.pair t57 .unit
abbrev yYp:Ty:=.pair t57 .unit
def yZ9:G:={ T:=T,E:=[],muts:=[],fz:=[] }
def ybS:List (List Nat):=[]
def yOH(n:Nat):Ann:={ keep:=ybS,fuel:=n,inl:=[],deep:=0 }
def yMe(n:Nat)(a:Q4):Option ((Q4)×Unit):=
  some ((a.1,IntKind.i64.wrap ((0:Int) - a.2.1),()),())
theorem yYf(n:Nat)(x:ySy.den):runF yZ9 (yOH n) Tryz.f126 ySy yYp x=yMe n x.1:=by kernel_rfl
def z03(a:Q4):((Q4)×Unit):=
  ((a.1,IntKind.i64.wrap ((0:Int) - a.2.1),()),())
abbrev yWH (a:Q4):Option ((Q4)×Unit):=some (z03 a)
theorem yRi(a:Q4)(y:(Q4)×Unit)(h:yWH a=some y):∃ n,yMe n a=some y:=
  ⟨0,by rw[<- h];show yMe 0 a=some (z03 a);unfold yMe z03;first|rfl|(simp only[yG];done)|(simp only[yG];rfl)⟩
def z03_e:Entry:={ f:=126,args:=ySy,ress:=yYp,m:=λ x=>yWH x.1 }
theorem yIy:FnOK Tryz.prog z03_e:=yL (g:=yZ9) (fn:=Tryz.f126) yC yK eNil (by kernel_rfl) (by kernel_rfl) (by kernel_rfl) (λ x y h=>let ⟨n,hn⟩:=yRi x.1 y h;⟨yOH n,iNil,(yYf n x).trans hn⟩)
abbrev z7_a:Ty:=.pair t31 (.pair t192 .unit)
abbrev z7_r:Ty:=.pair t31 .unit
def z7_g:G:={ T:=T,E:=[],muts:=[5],fz:=[] }
def z7_k:List (List Nat):=[[1,5,8,9,10]]
def yWk(n:Nat):Ann:={ keep:=z7_k,fuel:=n,inl:=[],deep:=0 }
def yIm(n:Nat)(r0:((Q3)×Unit->Option ((Q3)×Unit))->List (Q3)->Int->Int->List (Q3)->Option (List (Q3)×Unit))(ae:(Q3)×Unit->Option ((Q3)×Unit))(ac:List (Q3))(aj:Int)(ak:Int)(ai:List (Q3)):Option (List (Q3)×Unit):=
  (bif decide (ak < aj)then (Option.bind (idx ac ak) λ v1=>(Option.bind (ae ((v1.1,v1.2.1,v1.2.2.1,()),())) λ v2=>(bif decide (ai.length+(1:Nat)<=memMax)then r0 ae ac aj (IntKind.i64.wrap (ak+1)) (ai++[v2.1])else none)))else some (ai,()))
def yA1(n:Nat)(k:Nat)(ae:(Q3)×Unit->Option ((Q3)×Unit))(ac:List (Q3))(aj:Int)(ak:Int)(ai:List (Q3)):Option (List (Q3)×Unit):=
  iter (λ r y=>yIm n (λ ae ac aj ak ai=>r ((ae,(ac,(aj,(ak,())))),((ai,()),()))) y.1.1 y.1.2.1 y.1.2.2.1 y.1.2.2.2.1 y.2.1.1) k ((ae,(ac,(aj,(ak,())))),((ai,()),()))
def z7_m(n:Nat)(l:List (Q3))(of:(Q3)×Unit->Option ((Q3)×Unit)):Option (List (Q3)×Unit):=
  (yA1 n n (of) (l) ((↑l.length:Int)) ((0:Int)) ([]))
theorem ycr(n:Nat)(x:z7_a.den):runF z7_g (yWk n) Tryz.f130 z7_a z7_r x=z7_m n x.1 x.2.1:=by kernel_rfl
def ySF(ae:(Q3)×Unit->Option ((Q3)×Unit))(ac:List (Q3))(ak:Int)(v1:Q3)(ai:List (Q3)):Option ((List (Q3)×Unit)⊕(List (Q3))):=
  (Option.bind (ae ((v1.1,v1.2.1,v1.2.2.1,()),())) λ v2=>(bif decide (ai.length+(1:Nat)<=memMax)then (some (Sum.inr (ai++[v2.1])))else none))
def yQ8(ae:(Q3)×Unit->Option ((Q3)×Unit))(ac:List (Q3))(ai:List (Q3)):Option (List (Q3)×Unit):=
  (some ((ai,())))
theorem yGo(n:Nat)(hn:big<=n)(ae:(Q3)×Unit->Option ((Q3)×Unit))(ac:List (Q3))(ai:List (Q3))(hx:List.length (ac) < lenMax):LeF some (yP (λ af aG a7=>ySF ae ac af aG a7) (λ a7=>yQ8 ae ac a7) 0 (ac) ai) (yA1 n n ae ac (List.length (ac):Int) 0 ai):=by
  refine yS (f:=some) (W:=λ aM af a7=>yA1 n aM ae ac (List.length (ac):Int) af a7) (body:=(λ af aG a7=>ySF ae ac af aG a7)) (fin:=(λ a7=>yQ8 ae ac a7)) (λ aM af a7=>?_) hx ai n (by unfold big at hn;unfold lenMax at hx;omega)
  show LeF _ _ (yIm n (yA1 n aM) ae ac (List.length (ac):Int) af a7)
  exact y5 (y8 λ v1=>(y8 λ v2=>(y5 (y6 rfl) yy))) (yp (y6 rfl))
def z7_M(l:List (Q3))(of:(Q3)×Unit->Option ((Q3)×Unit)):Option (List (Q3)×Unit):=
  (bif decide (List.length (l) < lenMax)then yP (λ af aG a7=>ySF (of) (l) af aG a7) (λ a7=>yQ8 (of) (l) a7) 0 (l) ([])else none)
theorem yW5(l:List (Q3))(of:(Q3)×Unit->Option ((Q3)×Unit))(y:List (Q3)×Unit)(h:z7_M l of=some y):∃ n,z7_m n l of=some y:=
  ⟨big,LeF.top (show LeF some (z7_M l of) (z7_m big l of)from (λ (n:Nat) (hn:big<=n)=>show LeF some (z7_M l of) (z7_m n l of)from (yM λ hx=>by apply yGo n hn;exact hx)) big (Nat.le_refl _)) h⟩
def z7_e:Entry:={ f:=130,args:=z7_a,ress:=z7_r,m:=λ x=>z7_M x.1 x.2.1 }
theorem ycg:FnOK Tryz.prog z7_e:=yL (g:=z7_g) (fn:=Tryz.f130) yC yK eNil (by kernel_rfl) (by kernel_rfl) (by kernel_rfl) (λ x y h=>let ⟨n,hn⟩:=yW5 x.1 x.2.1 y h;⟨yWk n,iNil,(ycr n x).trans hn⟩)
abbrev zG_a:Ty:=.pair t23 (.pair t129 .unit)
abbrev zG_r:Ty:=.pair t23 .unit
def zG_g:G:={ T:=T,E:=[],muts:=[5],fz:=[] }
def zG_k:List (List Nat):=[[1,5,8,9,10]]
def yX8(n:Nat):Ann:={ keep:=zG_k,fuel:=n,inl:=[],deep:=0 }
def yL7(n:Nat)(r0:((Q4)×Unit->Option ((Q4)×Unit))->List (Q4)->Int->Int->List (Q4)->Option (List (Q4)×Unit))(ae:(Q4)×Unit->Option ((Q4)×Unit))(ac:List (Q4))(aj:Int)(ak:Int)(ai:List (Q4)):Option (List (Q4)×Unit):=
  (bif decide (ak < aj)then (Option.bind (idx ac ak) λ v1=>(Option.bind (ae ((v1.1,v1.2.1,()),())) λ v2=>(bif decide (ai.length+(1:Nat)<=memMax)then r0 ae ac aj (IntKind.i64.wrap (ak+1)) (ai++[v2.1])else none)))else some (ai,()))
def y9z(n:Nat)(k:Nat)(ae:(Q4)×Unit->Option ((Q4)×Unit))(ac:List (Q4))(aj:Int)(ak:Int)(ai:List (Q4)):Option (List (Q4)×Unit):=
  iter (λ r y=>yL7 n (λ ae ac aj ak ai=>r ((ae,(ac,(aj,(ak,())))),((ai,()),()))) y.1.1 y.1.2.1 y.1.2.2.1 y.1.2.2.2.1 y.2.1.1) k ((ae,(ac,(aj,(ak,())))),((ai,()),()))
def zG_m(n:Nat)(l:List (Q4))(of:(Q4)×Unit->Option ((Q4)×Unit)):Option (List (Q4)×Unit):=
  (y9z n n (of) (l) ((↑l.length:Int)) ((0:Int)) ([]))
theorem ybH(n:Nat)(x:zG_a.den):runF zG_g (yX8 n) Tryz.f132 zG_a zG_r x=zG_m n x.1 x.2.1:=by kernel_rfl
def ySu(ae:(Q4)×Unit->Option ((Q4)×Unit))(ac:List (Q4))(ak:Int)(v1:Q4)(ai:List (Q4)):Option ((List (Q4)×Unit)⊕(List (Q4))):=
  (Option.bind (ae ((v1.1,v1.2.1,()),())) λ v2=>(bif decide (ai.length+(1:Nat)<=memMax)then (some (Sum.inr (ai++[v2.1])))else none))
def yRG(ae:(Q4)×Unit->Option ((Q4)×Unit))(ac:List (Q4))(ai:List (Q4)):Option (List (Q4)×Unit):=
  (some ((ai,())))
theorem yHl(n:Nat)(hn:big<=n)(ae:(Q4)×Unit->Option ((Q4)×Unit))(ac:List (Q4))(ai:List (Q4))(hx:List.length (ac) < lenMax):LeF some (yP (λ af aG a7=>ySu ae ac af aG a7) (λ a7=>yRG ae ac a7) 0 (ac) ai) (y9z n n ae ac (List.length (ac):Int) 0 ai):=by
  refine yS (f:=some) (W:=λ aM af a7=>y9z n aM ae ac (List.length (ac):Int) af a7) (body:=(λ af aG a7=>ySu ae ac af aG a7)) (fin:=(λ a7=>yRG ae ac a7)) (λ aM af a7=>?_) hx ai n (by unfold big at hn;unfold lenMax at hx;omega)
  show LeF _ _ (yL7 n (y9z n aM) ae ac (List.length (ac):Int) af a7)
  exact y5 (y8 λ v1=>(y8 λ v2=>(y5 (y6 rfl) yy))) (yp (y6 rfl))
def zG_M(l:List (Q4))(of:(Q4)×Unit->Option ((Q4)×Unit)):Option (List (Q4)×Unit):=
  (bif decide (List.length (l) < lenMax)then yP (λ af aG a7=>ySu (of) (l) af aG a7) (λ a7=>yRG (of) (l) a7) 0 (l) ([])else none)
theorem yXh(l:List (Q4))(of:(Q4)×Unit->Option ((Q4)×Unit))(y:List (Q4)×Unit)(h:zG_M l of=some y):∃ n,zG_m n l of=some y:=
  ⟨big,LeF.top (show LeF some (zG_M l of) (zG_m big l of)from (λ (n:Nat) (hn:big<=n)=>show LeF some (zG_M l of) (zG_m n l of)from (yM λ hx=>by apply yHl n hn;exact hx)) big (Nat.le_refl _)) h⟩
def zG_e:Entry:={ f:=132,args:=zG_a,ress:=zG_r,m:=λ x=>zG_M x.1 x.2.1 }
theorem yd0:FnOK Tryz.prog zG_e:=yL (g:=zG_g) (fn:=Tryz.f132) yC yK eNil (by kernel_rfl) (by kernel_rfl) (by kernel_rfl) (λ x y h=>let ⟨n,hn⟩:=yXh x.1 x.2.1 y h;⟨yX8 n,iNil,(ybH n x).trans hn⟩)
abbrev yQ7:Ty:=.pair t57 (.pair t3 .unit)
abbrev yZV:Ty:=.pair t57 .unit
def yZT:G:={ T:=T,E:=[],muts:=[],fz:=[] }
def yba:List (List Nat):=[]
def yOj(n:Nat):Ann:={ keep:=yba,fuel:=n,inl:=[],deep:=0 }
def yNV(n:Nat)(a:Q4)(n1:Int):Option ((Q4)×Unit):=
  some ((IntKind.i64.wrap (n1 * a.1),IntKind.i64.wrap (n1 * a.2.1),()),())
theorem yVH(n:Nat)(x:yQ7.den):runF yZT (yOj n) Tryz.f134 yQ7 yZV x=yNV n x.1 x.2.1:=by kernel_rfl
def z0i(a:Q4)(n1:Int):((Q4)×Unit):=
  ((IntKind.i64.wrap (n1 * a.1),IntKind.i64.wrap (n1 * a.2.1),()),())
abbrev yVA (a:Q4) (n1:Int):Option ((Q4)×Unit):=some (z0i a n1)
theorem yQs(a:Q4)(n1:Int)(y:(Q4)×Unit)(h:yVA a n1=some y):∃ n,yNV n a n1=some y:=
  ⟨0,by rw[<- h];show yNV 0 a n1=some (z0i a n1);unfold yNV z0i;first|rfl|(simp only[yG];done)|(simp only[yG];rfl)⟩
def z0i_e:Entry:={ f:=134,args:=yQ7,ress:=yZV,m:=λ x=>yVA x.1 x.2.1 }
theorem yKT:FnOK Tryz.prog z0i_e:=yL (g:=yZT) (fn:=Tryz.f134) yC yK eNil (by kernel_rfl) (by kernel_rfl) (by kernel_rfl) (λ x y h=>let ⟨n,hn⟩:=yQs x.1 x.2.1 y h;⟨yOj n,iNil,(yVH n x).trans hn⟩)
abbrev yRn:Ty:=.pair t57 (.pair t57 .unit)
abbrev yYh:Ty:=.pair t57 .unit
def yZv:G:={ T:=T,E:=[],muts:=[],fz:=[] }
def ycA:List (List Nat):=[]
def yOn(n:Nat):Ann:={ keep:=ycA,fuel:=n,inl:=[],deep:=0 }
def yNP(n:Nat)(a:Q4)(b:Q4):Option ((Q4)×Unit):=
  some ((IntKind.i64.wrap (a.1+b.1),IntKind.i64.wrap (a.2.1+b.2.1),()),())
theorem yYB(n:Nat)(x:yRn.den):runF yZv (yOn n) Tryz.f135 yRn yYh x=yNP n x.1 x.2.1:=by kernel_rfl
def z1E(a:Q4)(b:Q4):((Q4)×Unit):=
  ((IntKind.i64.wrap (a.1+b.1),IntKind.i64.wrap (a.2.1+b.2.1),()),())
abbrev yaU (a:Q4) (b:Q4):Option ((Q4)×Unit):=some (z1E a b)
theorem yS9(a:Q4)(b:Q4)(y:(Q4)×Unit)(h:yaU a b=some y):∃ n,yNP n a b=some y:=
  ⟨0,by rw[<- h];show yNP 0 a b=some (z1E a b);unfold yNP z1E;first|rfl|(simp only[yG];done)|(simp only[yG];rfl)⟩
def z1E_e:Entry:={ f:=135,args:=yRn,ress:=yYh,m:=λ x=>yaU x.1 x.2.1 }
theorem yEl:FnOK Tryz.prog z1E_e:=yL (g:=yZv) (fn:=Tryz.f135) yC yK eNil (by kernel_rfl) (by kernel_rfl) (by kernel_rfl) (λ x y h=>let ⟨n,hn⟩:=yS9 x.1 x.2.1 y h;⟨yOn n,iNil,(yYB n x).trans hn⟩)
abbrev zH_a:Ty:=.pair t23 (.pair t196 .unit)
abbrev zH_r:Ty:=.pair t79 .unit
def zH_g:G:={ T:=T,E:=[],muts:=[5],fz:=[] }
def zH_k:List (List Nat):=[[1,5,8,9,10]]
def yUK(n:Nat):Ann:={ keep:=zH_k,fuel:=n,inl:=[],deep:=0 }
def yJR(n:Nat)(r0:((Q4)×Unit->Option ((Nat×Nat)×Unit))->List (Q4)->Int->Int->List (Nat×Nat)->Option (List (Nat×Nat)×Unit))(ae:(Q4)×Unit->Option ((Nat×Nat)×Unit))(ac:List (Q4))(aj:Int)(ak:Int)(ai:List (Nat×Nat)):Option (List (Nat×Nat)×Unit):=
  (bif decide (ak < aj)then (Option.bind (idx ac ak) λ v1=>(Option.bind (ae ((v1.1,v1.2.1,()),())) λ v2=>(bif decide (ai.length+(1:Nat)<=memMax)then r0 ae ac aj (IntKind.i64.wrap (ak+1)) (ai++[v2.1])else none)))else some (ai,()))
def yAM(n:Nat)(k:Nat)(ae:(Q4)×Unit->Option ((Nat×Nat)×Unit))(ac:List (Q4))(aj:Int)(ak:Int)(ai:List (Nat×Nat)):Option (List (Nat×Nat)×Unit):=
  iter (λ r y=>yJR n (λ ae ac aj ak ai=>r ((ae,(ac,(aj,(ak,())))),((ai,()),()))) y.1.1 y.1.2.1 y.1.2.2.1 y.1.2.2.2.1 y.2.1.1) k ((ae,(ac,(aj,(ak,())))),((ai,()),()))
def zH_m(n:Nat)(l:List (Q4))(of:(Q4)×Unit->Option ((Nat×Nat)×Unit)):Option (List (Nat×Nat)×Unit):=
  (yAM n n (of) (l) ((↑l.length:Int)) ((0:Int)) ([]))
theorem ybQ(n:Nat)(x:zH_a.den):runF zH_g (yUK n) Tryz.f139 zH_a zH_r x=zH_m n x.1 x.2.1:=by kernel_rfl
def yTW(ae:(Q4)×Unit->Option ((Nat×Nat)×Unit))(ac:List (Q4))(ak:Int)(v1:Q4)(ai:List (Nat×Nat)):Option ((List (Nat×Nat)×Unit)⊕(List (Nat×Nat))):=
  (Option.bind (ae ((v1.1,v1.2.1,()),())) λ v2=>(bif decide (ai.length+(1:Nat)<=memMax)then (some (Sum.inr (ai++[v2.1])))else none))
def yRk(ae:(Q4)×Unit->Option ((Nat×Nat)×Unit))(ac:List (Q4))(ai:List (Nat×Nat)):Option (List (Nat×Nat)×Unit):=
  (some ((ai,())))
theorem yHv(n:Nat)(hn:big<=n)(ae:(Q4)×Unit->Option ((Nat×Nat)×Unit))(ac:List (Q4))(ai:List (Nat×Nat))(hx:List.length (ac) < lenMax):LeF some (yP (λ af aG a7=>yTW ae ac af aG a7) (λ a7=>yRk ae ac a7) 0 (ac) ai) (yAM n n ae ac (List.length (ac):Int) 0 ai):=by
  refine yS (f:=some) (W:=λ aM af a7=>yAM n aM ae ac (List.length (ac):Int) af a7) (body:=(λ af aG a7=>yTW ae ac af aG a7)) (fin:=(λ a7=>yRk ae ac a7)) (λ aM af a7=>?_) hx ai n (by unfold big at hn;unfold lenMax at hx;omega)
  show LeF _ _ (yJR n (yAM n aM) ae ac (List.length (ac):Int) af a7)
  exact y5 (y8 λ v1=>(y8 λ v2=>(y5 (y6 rfl) yy))) (yp (y6 rfl))
def zH_M(l:List (Q4))(of:(Q4)×Unit->Option ((Nat×Nat)×Unit)):Option (List (Nat×Nat)×Unit):=
  (bif decide (List.length (l) < lenMax)then yP (λ af aG a7=>yTW (of) (l) af aG a7) (λ a7=>yRk (of) (l) a7) 0 (l) ([])else none)
theorem yZE(l:List (Q4))(of:(Q4)×Unit->Option ((Nat×Nat)×Unit))(y:List (Nat×Nat)×Unit)(h:zH_M l of=some y):∃ n,zH_m n l of=some y:=
  ⟨big,LeF.top (show LeF some (zH_M l of) (zH_m big l of)from (λ (n:Nat) (hn:big<=n)=>show LeF some (zH_M l of) (zH_m n l of)from (yM λ hx=>by apply yHv n hn;exact hx)) big (Nat.le_refl _)) h⟩
def zH_e:Entry:={ f:=139,args:=zH_a,ress:=zH_r,m:=λ x=>zH_M x.1 x.2.1 }
theorem yce:FnOK Tryz.prog zH_e:=yL (g:=zH_g) (fn:=Tryz.f139) yC yK eNil (by kernel_rfl) (by kernel_rfl) (by kernel_rfl) (λ x y h=>let ⟨n,hn⟩:=yZE x.1 x.2.1 y h;⟨yUK n,iNil,(ybQ n x).trans hn⟩)
abbrev yQX:Ty:=.pair t57 (.pair (.ref t165) .unit)
abbrev yZL:Ty:=.pair t165 .unit
def yWp:G:={ T:=T,E:=[],muts:=[],fz:=[] }
def ycL:List (List Nat):=[]
def yON(n:Nat):Ann:={ keep:=ycL,fuel:=n,inl:=[],deep:=0 }
def yN2(n:Nat)(z:Q4)(p1:Nat×Nat):Option ((Nat×Nat)×Unit):=
  some ((y09 Go.BinOp.quo Go.FloatKind.f32 (y17 Go.FloatKind.f32 z.1) p1.1,y09 Go.BinOp.quo Go.FloatKind.f32 (y17 Go.FloatKind.f32 z.2.1) p1.1),())
theorem yZ2(n:Nat)(x:yQX.den):runF yWp (yON n) Tryz.f140 yQX yZL x=yN2 n x.1 x.2.1:=by kernel_rfl
def z0f(z:Q4)(p1:Nat×Nat):((Nat×Nat)×Unit):=
  ((y09 Go.BinOp.quo Go.FloatKind.f32 (y17 Go.FloatKind.f32 z.1) p1.1,y09 Go.BinOp.quo Go.FloatKind.f32 (y17 Go.FloatKind.f32 z.2.1) p1.1),())
abbrev yTn (z:Q4) (p1:Nat×Nat):Option ((Nat×Nat)×Unit):=some (z0f z p1)
theorem ySR(z:Q4)(p1:Nat×Nat)(y:(Nat×Nat)×Unit)(h:yTn z p1=some y):∃ n,yN2 n z p1=some y:=
  ⟨0,by rw[<- h];show yN2 0 z p1=some (z0f z p1);unfold yN2 z0f;first|rfl|(simp only[yG];done)|(simp only[yG];rfl)⟩
def z0f_e:Entry:={ f:=140,args:=yQX,ress:=yZL,m:=λ x=>yTn x.1 x.2.1 }
theorem yYU:FnOK Tryz.prog z0f_e:=yL (g:=yWp) (fn:=Tryz.f140) yC yK eNil (by kernel_rfl) (by kernel_rfl) (by kernel_rfl) (λ x y h=>let ⟨n,hn⟩:=ySR x.1 x.2.1 y h;⟨yON n,iNil,(yZ2 n x).trans hn⟩)
abbrev ySc:Ty:=.pair t3 .unit
abbrev yYV:Ty:=.pair t3 .unit
def yWV:G:={ T:=T,E:=[],muts:=[],fz:=[] }
def ybc:List (List Nat):=[[0,3,4]]
def yO8(n:Nat):Ann:={ keep:=ybc,fuel:=n,inl:=[],deep:=0 }
def yG7(n:Nat)(r0:Int->Int->Int->Option (Int×Unit))(bQ:Int)(bZ:Int)(cI:Int):Option (Int×Unit):=
  (bif decide (cI < bQ)then r0 bQ (IntKind.i64.wrap ((2:Int) * bZ)) (IntKind.i64.wrap (cI+1))else some (bZ,()))
def y6h(n:Nat)(k:Nat)(bQ:Int)(bZ:Int)(cI:Int):Option (Int×Unit):=
  iter (λ r y=>yG7 n (λ bQ bZ cI=>r ((bQ,(bZ,(cI,()))),((),()))) y.1.1 y.1.2.1 y.1.2.2.1) k ((bQ,(bZ,(cI,()))),((),()))
def yNS(n:Nat)(n1:Int):Option (Int×Unit):=
  (y6h n n (n1) ((1:Int)) ((0:Int)))
theorem yYM(n:Nat)(x:ySc.den):runF yWV (yO8 n) Tryz.f143 ySc yYV x=yNS n x.1:=by kernel_rfl
def yJu(bQ:Int)(cI:Int)(bZ:Int):Option ((Int×Unit)⊕(Int)):=
  (some (Sum.inr (IntKind.i64.wrap ((2:Int) * bZ))))
def yIl(bQ:Int)(bZ:Int):Option (Int×Unit):=
  (some ((bZ,())))
theorem yDF(n:Nat)(hn:big<=n)(bQ:Int)(bZ:Int)(hx:(bQ)<=9223372036854775807):LeF some (y06 (λ af a7=>yJu bQ af a7) (λ a7=>yIl bQ a7) ((bQ) - 0).toNat 0 bZ) (y6h n n bQ bZ 0):=by
  refine y0K (f:=some) (W:=λ aM af a7=>y6h n aM bQ a7 af) (body:=(λ af a7=>yJu bQ af a7)) (fin:=(λ a7=>yIl bQ a7)) (λ aM af a7=>?_) hx bZ n 0 (by decide) (by unfold big at hn;omega)
  show LeF _ _ (yG7 n (y6h n aM) bQ a7 af)
  exact y5 (y6 rfl) (yp (y6 rfl))
def y7e(n1:Int):Option (Int×Unit):=
  (bif decide ((n1)<=9223372036854775807)then y06 (λ af a7=>yJu (n1) af a7) (λ a7=>yIl (n1) a7) ((n1) - 0).toNat 0 ((1:Int))else none)
theorem yQi(n1:Int)(y:Int×Unit)(h:y7e n1=some y):∃ n,yNS n n1=some y:=
  ⟨big,LeF.top (show LeF some (y7e n1) (yNS big n1)from (λ (n:Nat) (hn:big<=n)=>show LeF some (y7e n1) (yNS n n1)from (yM λ hx=>by apply yDF n hn;exact hx)) big (Nat.le_refl _)) h⟩
def z0a_e:Entry:={ f:=143,args:=ySc,ress:=yYV,m:=λ x=>y7e x.1 }
theorem yU9:FnOK Tryz.prog z0a_e:=yL (g:=yWV) (fn:=Tryz.f143) yC yK eNil (by kernel_rfl) (by kernel_rfl) (by kernel_rfl) (λ x y h=>let ⟨n,hn⟩:=yQi x.1 y h;⟨yO8 n,iNil,(yYM n x).trans hn⟩)
abbrev zh_a:Ty:=.pair t58 (.pair t3 .unit)
abbrev zh_r:Ty:=.pair t4 .unit
def zh_g:G:={ T:=T,E:=[],muts:=[],fz:=[] }
def zh_k:List (List Nat):=[]
def yYd(n:Nat):Ann:={ keep:=zh_k,fuel:=n,inl:=[],deep:=0 }
def zh_m(n:Nat)(l:List (Q4))(n1:Int):Option (Bool×Unit):=
  (bif decide ((↑l.length:Int)<=n1)then some (Bool.true,())else some ((↑l.length:Int)==2049,()))
theorem ydr(n:Nat)(x:zh_a.den):runF zh_g (yYd n) Tryz.f144 zh_a zh_r x=zh_m n x.1 x.2.1:=by kernel_rfl
def zh(l:List (Q4))(n1:Int):(Bool×Unit):=
  (bif decide ((↑l.length:Int)<=n1)then (Bool.true,())else ((↑l.length:Int)==2049,()))
abbrev zh_M (l:List (Q4)) (n1:Int):Option (Bool×Unit):=some (zh l n1)
theorem yW0(l:List (Q4))(n1:Int)(y:Bool×Unit)(h:zh_M l n1=some y):∃ n,zh_m n l n1=some y:=
  ⟨0,by rw[<- h];show zh_m 0 l n1=some (zh l n1);unfold zh_m zh;first|rfl|(simp only[yG];done)|(simp only[yG];rfl)⟩
def zh_e:Entry:={ f:=144,args:=zh_a,ress:=zh_r,m:=λ x=>zh_M x.1 x.2.1 }
theorem yd5:FnOK Tryz.prog zh_e:=yL (g:=zh_g) (fn:=Tryz.f144) yC yK eNil (by kernel_rfl) (by kernel_rfl) (by kernel_rfl) (λ x y h=>let ⟨n,hn⟩:=yW0 x.1 x.2.1 y h;⟨yYd n,iNil,(ydr n x).trans hn⟩)
def il124:Inl:={ f:=124,fn:=Tryz.f124,keep:=[],muts:=[],fz:=[] }
theorem y5A:y6d Tryz.prog il124:=⟨by kernel_rfl,by kernel_rfl,λ e0 h=>by cases (show (none:Option LibK)=some e0 from h)⟩
def il195:Inl:={ f:=195,fn:=Tryz.f195,keep:=[[0,1,3,9,10,11],[0,1,3,4,5,9,10,11]],muts:=[],fz:=[] }
theorem y4s:y6d Tryz.prog il195:=⟨by kernel_rfl,by kernel_rfl,λ e0 h=>by cases (show (none:Option LibK)=some e0 from h)⟩
abbrev yPs:Ty:=.pair t60 .unit
abbrev yUu:Ty:=.pair t41 .unit
def ya2:G:={ T:=T,E:=[],muts:=[3],fz:=[] }
def yc5:List (List Nat):=[]
def yP9(n:Nat):Ann:={ keep:=yc5,fuel:=n,inl:=[il124,il195],deep:=3 }
def y8Y(n:Nat)(r0:Q1->List (Q4)->List Nat->Int->Int->Q1->Q1->Q1->Q1->List Int->Q1->Q1->Q1->Q1->Option (List Int×Unit))(j8:Q1)(j9:List (Q4))(j10:Int)(j11:Nat)(j12:List Nat)(j13:Int)(j14:Int)(j15:Q1)(j16:Q1)(j17:Q1)(j18:Q1)(j19:List Int)(j20:Q1)(j21:Q1)(j22:Q1)(j23:Q1):Option (List Int×Unit):=
  (bif decide ((↑j9.length:Int) > 0)then (Option.bind (idx j9 (0:Int)) λ v24=>(bif decide (v24.1<=j10)then r0 j8 j9 j12 j13 (IntKind.i64.wrap (j14+1)) j15 j16 j17 j18 j19 j20 j21 j22 j23 else (Option.bind (yo Go.FloatKind.f32 (y09 Go.BinOp.mul Go.FloatKind.f32 j11 (nat_lit 1098907648)) IntKind.i64) λ v29=>(bif decide (j19.length+(1:Nat)<=memMax)then r0 j8 j9 j12 j13 (IntKind.i64.wrap (j14+1)) j15 j16 j17 j18 (j19++[IntKind.i64.wrap (j8.2.1+j10)]) j20 j21 j22 j23 else none))))else (Option.bind (yo Go.FloatKind.f32 (y09 Go.BinOp.mul Go.FloatKind.f32 j11 (nat_lit 1098907648)) IntKind.i64) λ v30=>(bif decide (j19.length+(1:Nat)<=memMax)then r0 j8 j9 j12 j13 (IntKind.i64.wrap (j14+1)) j15 j16 j17 j18 (j19++[IntKind.i64.wrap (j8.2.1+j10)]) j20 j21 j22 j23 else none)))
def yFm(n:Nat)(r0:Q1->List (Q4)->List Nat->Int->Int->Q1->Q1->Q1->Q1->List Int->Q1->Q1->Q1->Q1->Option (List Int×Unit))(r2:Q1->List (Q4)->Int->Nat->List Nat->Int->Int->Q1->Q1->Q1->Q1->List Int->Q1->Q1->Q1->Q1->Option (List Int×Unit))(b7:Q1)(ah:List (Q4))(b8:Int)(bg:Nat)(aO:List Nat)(aE:Int)(aF:Int)(aq:Q1)(ar:Q1)(aI:Q1)(b9:Q1)(cw:List Int)(ba:Q1)(bc:Q1)(bE:Q1)(bF:Q1):Option (List Int×Unit):=
  (bif decide ((↑ah.length:Int) > 0)then (Option.bind (idx ah (0:Int)) λ v3=>(bif decide (v3.2.1<=b8)then (bif decide ((0:Int)<=1) && decide ((1:Int)<=(↑ah.length:Int))then r2 b7 (List.drop (Int.toNat (1:Int)) ah) b8 bg aO aE aF aq ar aI b9 cw ba bc bE bF else none)else (y8Y n r0 (b7) (ah) (b8) (bg) (aO) (aE) (aF) (aq) (ar) (aI) (b9) (cw) (ba) (bc) (bE) (bF))))else (y8Y n r0 (b7) (ah) (b8) (bg) (aO) (aE) (aF) (aq) (ar) (aI) (b9) (cw) (ba) (bc) (bE) (bF)))
def y6p(n:Nat)(r0:Q1->List (Q4)->List Nat->Int->Int->Q1->Q1->Q1->Q1->List Int->Q1->Q1->Q1->Q1->Option (List Int×Unit))(k:Nat)(b7:Q1)(ah:List (Q4))(b8:Int)(bg:Nat)(aO:List Nat)(aE:Int)(aF:Int)(aq:Q1)(ar:Q1)(aI:Q1)(b9:Q1)(cw:List Int)(ba:Q1)(bc:Q1)(bE:Q1)(bF:Q1):Option (List Int×Unit):=
  iter (λ r y=>yFm n r0 (λ b7 ah b8 bg aO aE aF aq ar aI b9 cw ba bc bE bF=>r ((b7,(ah,(b8,(bg,(aO,(aE,(aF,()))))))),(((aq,(ar,(aI,((b9,()),())))),((),(cw,()))),(ba,(bc,(bE,((bF,()),()))))))) y.1.1 y.1.2.1 y.1.2.2.1 y.1.2.2.2.1 y.1.2.2.2.2.1 y.1.2.2.2.2.2.1 y.1.2.2.2.2.2.2.1 y.2.1.1.1 y.2.1.1.2.1 y.2.1.1.2.2.1 y.2.1.1.2.2.2.1.1 y.2.1.2.2.1 y.2.2.1 y.2.2.2.1 y.2.2.2.2.1 y.2.2.2.2.2.1.1) k ((b7,(ah,(b8,(bg,(aO,(aE,(aF,()))))))),(((aq,(ar,(aI,((b9,()),())))),((),(cw,()))),(ba,(bc,(bE,((bF,()),()))))))
def yFR(n:Nat)(r0:Q1->List (Q4)->List Nat->Int->Int->Q1->Q1->Q1->Q1->List Int->Q1->Q1->Q1->Q1->Option (List Int×Unit))(aA:Q1)(aw:List (Q4))(aj:List Nat)(ak:Int)(aC:Int)(au:Q1)(av:Q1)(aQ:Q1)(bh:Q1)(cE:List Int)(bi:Q1)(bj:Q1)(bz:Q1)(bR:Q1):Option (List Int×Unit):=
  (bif decide (aC < ak)then (Option.bind (idx aj aC) λ v1=>(y6p n r0 n (aA) (aw) (aC) (v1) (aj) (ak) (aC) (au) (av) (aQ) (bh) (cE) (bi) (bj) (bz) (bR)))else some (cE,()))
def y6r(n:Nat)(k:Nat)(aA:Q1)(aw:List (Q4))(aj:List Nat)(ak:Int)(aC:Int)(au:Q1)(av:Q1)(aQ:Q1)(bh:Q1)(cE:List Int)(bi:Q1)(bj:Q1)(bz:Q1)(bR:Q1):Option (List Int×Unit):=
  iter (λ r y=>yFR n (λ aA aw aj ak aC au av aQ bh cE bi bj bz bR=>r ((aA,(aw,(aj,(ak,(aC,()))))),(((au,(av,(aQ,((bh,()),())))),((),(cE,()))),(bi,(bj,(bz,((bR,()),()))))))) y.1.1 y.1.2.1 y.1.2.2.1 y.1.2.2.2.1 y.1.2.2.2.2.1 y.2.1.1.1 y.2.1.1.2.1 y.2.1.1.2.2.1 y.2.1.1.2.2.2.1.1 y.2.1.2.2.1 y.2.2.1 y.2.2.2.1 y.2.2.2.2.1 y.2.2.2.2.2.1.1) k ((aA,(aw,(aj,(ak,(aC,()))))),(((au,(av,(aQ,((bh,()),())))),((),(cE,()))),(bi,(bj,(bz,((bR,()),()))))))
def yMR(n:Nat)(r1:Q1):Option (List Int×Unit):=
  (y6r n n (r1) (r1.2.2.2.1) (r1.2.2.1) ((↑r1.2.2.1.length:Int)) ((0:Int)) (r1) (r1) (r1) (r1) ([]) (r1) (r1) (r1) (r1))
theorem yY3(n:Nat)(x:yPs.den):runF ya2 (yP9 n) Tryz.f147 yPs yUu x=yMR n x.1:=by kernel_rfl
def yAF(j8:Q1)(j9:List (Q4))(j10:Int)(j11:Nat)(j12:List Nat)(j13:Int)(j14:Int)(j15:Q1)(j16:Q1)(j17:Q1)(j18:Q1)(j19:List Int)(j20:Q1)(j21:Q1)(j22:Q1)(j23:Q1):Option ((List Int×Unit)⊕((List (Q4))×List Int)):=
  (bif decide ((↑j9.length:Int) > 0)then (Option.bind (idx j9 (0:Int)) λ v24=>(bif decide (v24.1<=j10)then (some (Sum.inr ((j9),(j19))))else (Option.bind (yo Go.FloatKind.f32 (y09 Go.BinOp.mul Go.FloatKind.f32 j11 (nat_lit 1098907648)) IntKind.i64) λ v29=>(bif decide (j19.length+(1:Nat)<=memMax)then (some (Sum.inr ((j9),(j19++[IntKind.i64.wrap (j8.2.1+j10)]))))else none))))else (Option.bind (yo Go.FloatKind.f32 (y09 Go.BinOp.mul Go.FloatKind.f32 j11 (nat_lit 1098907648)) IntKind.i64) λ v30=>(bif decide (j19.length+(1:Nat)<=memMax)then (some (Sum.inr ((j9),(j19++[IntKind.i64.wrap (j8.2.1+j10)]))))else none)))
theorem y2h(n:Nat)(hn:big<=n)(r0:Q1->List (Q4)->List Nat->Int->Int->Q1->Q1->Q1->Q1->List Int->Q1->Q1->Q1->Q1->Option (List Int×Unit))(j8:Q1)(j9:List (Q4))(j10:Int)(j11:Nat)(j12:List Nat)(j13:Int)(j14:Int)(j15:Q1)(j16:Q1)(j17:Q1)(j18:Q1)(j19:List Int)(j20:Q1)(j21:Q1)(j22:Q1)(j23:Q1):LeF (elim some λ (a7:((List (Q4))×List Int))=>r0 j8 a7.1 j12 j13 (IntKind.i64.wrap (j14+1)) j15 j16 j17 j18 a7.2 j20 j21 j22 j23) (yAF j8 j9 j10 j11 j12 j13 j14 j15 j16 j17 j18 j19 j20 j21 j22 j23) (y8Y n r0 j8 j9 j10 j11 j12 j13 j14 j15 j16 j17 j18 j19 j20 j21 j22 j23):=
  (y5 (y8 λ v24=>(y5 (y6 rfl) (y8 λ v29=>(y5 (y6 rfl) yy)))) (y8 λ v30=>(y5 (y6 rfl) yy)))
def yLF(b7:Q1)(b8:Int)(bg:Nat)(aO:List Nat)(aE:Int)(aF:Int)(aq:Q1)(ar:Q1)(aI:Q1)(b9:Q1)(cw:List Int)(ba:Q1)(bc:Q1)(bE:Q1)(bF:Q1)(ah:List (Q4)):Option (((List Int×Unit)⊕((List (Q4))×List Int))⊕(List (Q4))):=
  (bif decide ((↑ah.length:Int) > 0)then (Option.bind (idx ah (0:Int)) λ v3=>(bif decide (v3.2.1<=b8)then (bif decide ((0:Int)<=1) && decide ((1:Int)<=(↑ah.length:Int))then (some (Sum.inr (List.drop (Int.toNat (1:Int)) ah)))else none)else (Option.map Sum.inl (yAF (b7) (ah) (b8) (bg) (aO) (aE) (aF) (aq) (ar) (aI) (b9) (cw) (ba) (bc) (bE) (bF)))))else (Option.map Sum.inl (yAF (b7) (ah) (b8) (bg) (aO) (aE) (aF) (aq) (ar) (aI) (b9) (cw) (ba) (bc) (bE) (bF))))
theorem yEL(n:Nat)(hn:big<=n)(r0:Q1->List (Q4)->List Nat->Int->Int->Q1->Q1->Q1->Q1->List Int->Q1->Q1->Q1->Q1->Option (List Int×Unit))(b7:Q1)(b8:Int)(bg:Nat)(aO:List Nat)(aE:Int)(aF:Int)(aq:Q1)(ar:Q1)(aI:Q1)(b9:Q1)(cw:List Int)(ba:Q1)(bc:Q1)(bE:Q1)(bF:Q1)(ah:List (Q4)):LeF (elim some λ (a7:((List (Q4))×List Int))=>r0 b7 a7.1 aO aE (IntKind.i64.wrap (aF+1)) aq ar aI b9 a7.2 ba bc bE bF) (y2Q (λ a7=>yLF b7 b8 bg aO aE aF aq ar aI b9 cw ba bc bE bF a7) wMax ah) (y6p n r0 n b7 ah b8 bg aO aE aF aq ar aI b9 cw ba bc bE bF):=by
  refine y4J (f:=(elim some λ (a7:((List (Q4))×List Int))=>r0 b7 a7.1 aO aE (IntKind.i64.wrap (aF+1)) aq ar aI b9 a7.2 ba bc bE bF)) (W:=λ aM a7=>y6p n r0 aM b7 a7 b8 bg aO aE aF aq ar aI b9 cw ba bc bE bF) (body:=(λ a7=>yLF b7 b8 bg aO aE aF aq ar aI b9 cw ba bc bE bF a7)) (λ aM a7=>?_) wMax n ah (by unfold big at hn;unfold wMax;omega)
  show LeF _ _ (yFm n r0 (y6p n r0 aM) b7 a7 b8 bg aO aE aF aq ar aI b9 cw ba bc bE bF)
  exact (y5 (y8 λ v3=>(y5 (y5 (y6 rfl) yy) (yp (by apply y2h n hn)))) (yp (by apply y2h n hn)))
def yFO(aA:Q1)(aj:List Nat)(au:Q1)(av:Q1)(aQ:Q1)(bh:Q1)(bi:Q1)(bj:Q1)(bz:Q1)(bR:Q1)(aC:Int)(v1:Nat)(aw:List (Q4))(cE:List Int):Option ((List Int×Unit)⊕((List (Q4))×List Int)):=
  (y2Q (λ a7=>yLF (aA) (aC) (v1) (aj) ((↑aj.length:Int)) (aC) (au) (av) (aQ) (bh) (cE) (bi) (bj) (bz) (bR) a7) wMax (aw))
def yJz(aA:Q1)(aj:List Nat)(au:Q1)(av:Q1)(aQ:Q1)(bh:Q1)(bi:Q1)(bj:Q1)(bz:Q1)(bR:Q1)(aw:List (Q4))(cE:List Int):Option (List Int×Unit):=
  (some ((cE,())))
theorem yEX(n:Nat)(hn:big<=n)(aA:Q1)(aj:List Nat)(au:Q1)(av:Q1)(aQ:Q1)(bh:Q1)(bi:Q1)(bj:Q1)(bz:Q1)(bR:Q1)(aw:List (Q4))(cE:List Int)(hx:List.length (aj) < lenMax):LeF some (yP (λ af aG a7=>yFO aA aj au av aQ bh bi bj bz bR af aG a7.1 a7.2) (λ a7=>yJz aA aj au av aQ bh bi bj bz bR a7.1 a7.2) 0 (aj) (aw,cE)) (y6r n n aA aw aj (List.length (aj):Int) 0 au av aQ bh cE bi bj bz bR):=by
  refine yS (f:=some) (W:=λ aM af a7=>y6r n aM aA a7.1 aj (List.length (aj):Int) af au av aQ bh a7.2 bi bj bz bR) (body:=(λ af aG a7=>yFO aA aj au av aQ bh bi bj bz bR af aG a7.1 a7.2)) (fin:=(λ a7=>yJz aA aj au av aQ bh bi bj bz bR a7.1 a7.2)) (λ aM af a7=>?_) hx (aw,cE) n (by unfold big at hn;unfold lenMax at hx;omega)
  show LeF _ _ (yFR n (y6r n aM) aA a7.1 aj (List.length (aj):Int) af au av aQ bh a7.2 bi bj bz bR)
  exact y5 (y8 λ v1=>(by apply yEL n hn)) (yp (y6 rfl))
def yAH(r1:Q1):Option (List Int×Unit):=
  (bif decide (List.length (r1.2.2.1) < lenMax)then yP (λ af aG a7=>yFO (r1) (r1.2.2.1) (r1) (r1) (r1) (r1) (r1) (r1) (r1) (r1) af aG a7.1 a7.2) (λ a7=>yJz (r1) (r1.2.2.1) (r1) (r1) (r1) (r1) (r1) (r1) (r1) (r1) a7.1 a7.2) 0 (r1.2.2.1) ((r1.2.2.2.1),([]))else none)
theorem yRW(r1:Q1)(y:List Int×Unit)(h:yAH r1=some y):∃ n,yMR n r1=some y:=
  ⟨big,LeF.top (show LeF some (yAH r1) (yMR big r1)from (λ (n:Nat) (hn:big<=n)=>show LeF some (yAH r1) (yMR n r1)from (yM λ hx=>by apply yEX n hn;exact hx)) big (Nat.le_refl _)) h⟩
def z16_e:Entry:={ f:=147,args:=yPs,ress:=yUu,m:=λ x=>yAH x.1 }
theorem yOd:FnOK Tryz.prog z16_e:=yL (g:=ya2) (fn:=Tryz.f147) yC yK eNil (by kernel_rfl) (by kernel_rfl) (by kernel_rfl) (λ x y h=>let ⟨n,hn⟩:=yRW x.1 y h;⟨yP9 n,(y58 y5A (y58 y4s iNil)),(yY3 n x).trans hn⟩)
abbrev yS5:Ty:=.pair t57 .unit
abbrev yUw:Ty:=.pair t3 .unit
def yZu:G:={ T:=T,E:=[],muts:=[],fz:=[] }
def ycb:List (List Nat):=[]
def yOy(n:Nat):Ann:={ keep:=ycb,fuel:=n,inl:=[],deep:=0 }
def yMr(n:Nat)(a:Q4):Option (Int×Unit):=
  some (IntKind.i64.wrap (IntKind.i64.wrap (a.1 * a.1)+IntKind.i64.wrap (a.2.1 * a.2.1)),())
theorem yX1(n:Nat)(x:yS5.den):runF yZu (yOy n) Tryz.f151 yS5 yUw x=yMr n x.1:=by kernel_rfl
def z0G(a:Q4):(Int×Unit):=
  (IntKind.i64.wrap (IntKind.i64.wrap (a.1 * a.1)+IntKind.i64.wrap (a.2.1 * a.2.1)),())
abbrev yZO (a:Q4):Option (Int×Unit):=some (z0G a)
theorem ySI(a:Q4)(y:Int×Unit)(h:yZO a=some y):∃ n,yMr n a=some y:=
  ⟨0,by rw[<- h];show yMr 0 a=some (z0G a);unfold yMr z0G;first|rfl|(simp only[yG];done)|(simp only[yG];rfl)⟩
def z0G_e:Entry:={ f:=151,args:=yS5,ress:=yUw,m:=λ x=>yZO x.1 }
theorem yYv:FnOK Tryz.prog z0G_e:=yL (g:=yZu) (fn:=Tryz.f151) yC yK eNil (by kernel_rfl) (by kernel_rfl) (by kernel_rfl) (λ x y h=>let ⟨n,hn⟩:=ySI x.1 y h;⟨yOy n,iNil,(yX1 n x).trans hn⟩)
abbrev yS7:Ty:=.pair t57 (.pair t3 .unit)
abbrev yaO:Ty:=.pair t57 .unit
def yYH:G:={ T:=T,E:=[],muts:=[2],fz:=[] }
def ybu:List (List Nat):=[[1,2,4,5]]
def yPi(n:Nat):Ann:={ keep:=ybu,fuel:=n,inl:=[],deep:=0 }
def yGN(n:Nat)(r0:Int->Int->Int->Int->Int->Int->Option ((Q4)×Unit))(cj:Int)(bz:Int)(al:Int)(am:Int)(a8:Int)(aa:Int):Option ((Q4)×Unit):=
  (bif decide (bz < (IntKind.i64.wrap (cj.tmod (4:Int)+4)).tmod (4:Int))then r0 cj (IntKind.i64.wrap (bz+1)) (IntKind.i64.wrap ((0:Int) - am)) al a8 aa else some ((al,am,()),()))
def y7I(n:Nat)(k:Nat)(cj:Int)(bz:Int)(al:Int)(am:Int)(a8:Int)(aa:Int):Option ((Q4)×Unit):=
  iter (λ r y=>yGN n (λ cj bz al am a8 aa=>r ((cj,(bz,())),(((al,(am,())),((a8,(aa,())),())),()))) y.1.1 y.1.2.1 y.2.1.1.1 y.2.1.1.2.1 y.2.1.2.1.1 y.2.1.2.1.2.1) k ((cj,(bz,())),(((al,(am,())),((a8,(aa,())),())),()))
def yLu(n:Nat)(a:Q4)(n1:Int):Option ((Q4)×Unit):=
  (y7I n n (n1) ((0:Int)) (a.1) (a.2.1) ((0:Int)) ((0:Int)))
theorem yXA(n:Nat)(x:yS7.den):runF yYH (yPi n) Tryz.f156 yS7 yaO x=yLu n x.1 x.2.1:=by kernel_rfl
def yIp(cj:Int)(a8:Int)(aa:Int)(bz:Int)(al:Int)(am:Int):Option (((Q4)×Unit)⊕(Int×Int)):=
  (some (Sum.inr ((IntKind.i64.wrap ((0:Int) - am)),(al))))
def yIV(cj:Int)(a8:Int)(aa:Int)(al:Int)(am:Int):Option ((Q4)×Unit):=
  (some (((al,am,()),())))
theorem yD7(n:Nat)(hn:big<=n)(cj:Int)(a8:Int)(aa:Int)(al:Int)(am:Int)(hx:((IntKind.i64.wrap (cj.tmod (4:Int)+4)).tmod (4:Int))<=9223372036854775807):LeF some (y06 (λ af a7=>yIp cj a8 aa af a7.1 a7.2) (λ a7=>yIV cj a8 aa a7.1 a7.2) (((IntKind.i64.wrap (cj.tmod (4:Int)+4)).tmod (4:Int)) - 0).toNat 0 (al,am)) (y7I n n cj 0 al am a8 aa):=by
  refine y0K (f:=some) (W:=λ aM af a7=>y7I n aM cj af a7.1 a7.2 a8 aa) (body:=(λ af a7=>yIp cj a8 aa af a7.1 a7.2)) (fin:=(λ a7=>yIV cj a8 aa a7.1 a7.2)) (λ aM af a7=>?_) hx (al,am) n 0 (by decide) (by unfold big at hn;omega)
  show LeF _ _ (yGN n (y7I n aM) cj af a7.1 a7.2 a8 aa)
  exact y5 (y6 rfl) (yp (y6 rfl))
def yEN(a:Q4)(n1:Int):Option ((Q4)×Unit):=
  (bif decide (((IntKind.i64.wrap (n1.tmod (4:Int)+4)).tmod (4:Int))<=9223372036854775807)then y06 (λ af a7=>yIp (n1) ((0:Int)) ((0:Int)) af a7.1 a7.2) (λ a7=>yIV (n1) ((0:Int)) ((0:Int)) a7.1 a7.2) (((IntKind.i64.wrap (n1.tmod (4:Int)+4)).tmod (4:Int)) - 0).toNat 0 ((a.1),(a.2.1))else none)
theorem yRX(a:Q4)(n1:Int)(y:(Q4)×Unit)(h:yEN a n1=some y):∃ n,yLu n a n1=some y:=
  ⟨big,LeF.top (show LeF some (yEN a n1) (yLu big a n1)from (λ (n:Nat) (hn:big<=n)=>show LeF some (yEN a n1) (yLu n a n1)from (yM λ hx=>by apply yD7 n hn;exact hx)) big (Nat.le_refl _)) h⟩
def z0t_e:Entry:={ f:=156,args:=yS7,ress:=yaO,m:=λ x=>yEN x.1 x.2.1 }
theorem yXY:FnOK Tryz.prog z0t_e:=yL (g:=yYH) (fn:=Tryz.f156) yC yK eNil (by kernel_rfl) (by kernel_rfl) (by kernel_rfl) (λ x y h=>let ⟨n,hn⟩:=yRX x.1 x.2.1 y h;⟨yPi n,iNil,(yXA n x).trans hn⟩)
abbrev yQY:Ty:=.pair t58 (.pair t3 .unit)
abbrev ya5:Ty:=.pair t4 .unit
def yaN:G:={ T:=T,E:=[],muts:=[],fz:=[] }
def ydK:List (List Nat):=[[0,1,5]]
def yOv(n:Nat):Ann:={ keep:=ydK,fuel:=n,inl:=[],deep:=0 }
def yFf(n:Nat)(r0:List (Q4)->Int->Int->Option (Bool×Unit))(az:List (Q4))(aA:Int)(aN:Int):Option (Bool×Unit):=
  (bif decide (aN < (↑az.length:Int))then (Option.bind (idx az aN) λ v1=>(bif decide (aA >= v1.1)then (Option.bind (idx az aN) λ v2=>(bif decide (aA < v2.2.1)then some (Bool.true,())else r0 az aA (IntKind.i64.wrap (aN+1))))else r0 az aA (IntKind.i64.wrap (aN+1))))else some (Bool.false,()))
def y7C(n:Nat)(k:Nat)(az:List (Q4))(aA:Int)(aN:Int):Option (Bool×Unit):=
  iter (λ r y=>yFf n (λ az aA aN=>r ((az,(aA,(aN,()))),((),()))) y.1.1 y.1.2.1 y.1.2.2.1) k ((az,(aA,(aN,()))),((),()))
def yNc(n:Nat)(l:List (Q4))(t:Int):Option (Bool×Unit):=
  (y7C n n (l) (t) ((0:Int)))
theorem yY7(n:Nat)(x:yQY.den):runF yaN (yOv n) Tryz.f159 yQY ya5 x=yNc n x.1 x.2.1:=by kernel_rfl
def yC8(az:List (Q4))(aA:Int)(aN:Int)(v1:Q4):Option ((Bool×Unit)⊕Unit):=
  (bif decide (aA >= v1.1)then (Option.bind (idx az aN) λ v2=>(bif decide (aA < v2.2.1)then (some (Sum.inl ((Bool.true,()))))else (some (Sum.inr ()))))else (some (Sum.inr ())))
def yFX(az:List (Q4))(aA:Int):Option (Bool×Unit):=
  (some ((Bool.false,())))
theorem yDX(n:Nat)(hn:big<=n)(az:List (Q4))(aA:Int)(hx:List.length (az) < lenMax):LeF some (yP (λ af aG a7=>yC8 az aA af aG) (λ a7=>yFX az aA) 0 (az) ()) (y7C n n az aA 0):=by
  refine yS (f:=some) (W:=λ aM af a7=>y7C n aM az aA af) (body:=(λ af aG a7=>yC8 az aA af aG)) (fin:=(λ a7=>yFX az aA)) (λ aM af a7=>?_) hx () n (by unfold big at hn;unfold lenMax at hx;omega)
  show LeF _ _ (yFf n (y7C n aM) az aA af)
  exact y5 (y8 λ v1=>(y5 (y8 λ v2=>(y5 (y6 rfl) (y6 rfl))) (y6 rfl))) (yp (y6 rfl))
def yAD(l:List (Q4))(t:Int):Option (Bool×Unit):=
  (bif decide (List.length (l) < lenMax)then yP (λ af aG a7=>yC8 (l) (t) af aG) (λ a7=>yFX (l) (t)) 0 (l) ()else none)
theorem yQP(l:List (Q4))(t:Int)(y:Bool×Unit)(h:yAD l t=some y):∃ n,yNc n l t=some y:=
  ⟨big,LeF.top (show LeF some (yAD l t) (yNc big l t)from (λ (n:Nat) (hn:big<=n)=>show LeF some (yAD l t) (yNc n l t)from (yM λ hx=>by apply yDX n hn;exact hx)) big (Nat.le_refl _)) h⟩
def z19_e:Entry:={ f:=159,args:=yQY,ress:=ya5,m:=λ x=>yAD x.1 x.2.1 }
theorem yOY:FnOK Tryz.prog z19_e:=yL (g:=yaN) (fn:=Tryz.f159) yC yK eNil (by kernel_rfl) (by kernel_rfl) (by kernel_rfl) (λ x y h=>let ⟨n,hn⟩:=yQP x.1 x.2.1 y h;⟨yOv n,iNil,(yY7 n x).trans hn⟩)
abbrev zR_a:Ty:=.pair t55 (.pair t3 .unit)
abbrev zR_r:Ty:=.pair t57 .unit
def zR_g:G:={ T:=T,E:=[],muts:=[],fz:=[] }
def zR_k:List (List Nat):=[]
def yU2(n:Nat):Ann:={ keep:=zR_k,fuel:=n,inl:=[],deep:=0 }
def zR_m(n:Nat)(c:Q3)(tick:Int):Option ((Q4)×Unit):=
  (bif c.2.1==0 then none else (Option.bind (idx [((1:Int),(0:Int),()),((0:Int),(1:Int),()),((-1:Int),(0:Int),()),((0:Int),(-1:Int),())] ((IntKind.i64.wrap (c.2.2.1 * IntKind.i64.wrap (tick.tdiv c.2.1))).tmod (4:Int))) λ v0=>some ((v0.1,v0.2.1,()),())))
theorem ybO(n:Nat)(x:zR_a.den):runF zR_g (yU2 n) Tryz.f161 zR_a zR_r x=zR_m n x.1 x.2.1:=by kernel_rfl
def zR_M(c:Q3)(tick:Int):Option ((Q4)×Unit):=zR_m 0 c tick
theorem yUE(c:Q3)(tick:Int)(y:(Q4)×Unit)(h:zR_M c tick=some y):∃ n,zR_m n c tick=some y:=⟨0,h⟩
def zR_e:Entry:={ f:=161,args:=zR_a,ress:=zR_r,m:=λ x=>zR_M x.1 x.2.1 }
theorem yR7:FnOK Tryz.prog zR_e:=yL (g:=zR_g) (fn:=Tryz.f161) yC yK eNil (by kernel_rfl) (by kernel_rfl) (by kernel_rfl) (λ x y h=>let ⟨n,hn⟩:=yUE x.1 x.2.1 y h;⟨yU2 n,iNil,(ybO n x).trans hn⟩)
abbrev zA_a:Ty:=.pair t31 (.pair t215 .unit)
abbrev zA_r:Ty:=.pair t23 .unit
def zA_g:G:={ T:=T,E:=[],muts:=[5],fz:=[] }
def zA_k:List (List Nat):=[[1,5,8,9,10]]
def yXT(n:Nat):Ann:={ keep:=zA_k,fuel:=n,inl:=[],deep:=0 }
def yIo(n:Nat)(r0:((Q3)×Unit->Option ((Q4)×Unit))->List (Q3)->Int->Int->List (Q4)->Option (List (Q4)×Unit))(ae:(Q3)×Unit->Option ((Q4)×Unit))(ac:List (Q3))(aj:Int)(ak:Int)(ai:List (Q4)):Option (List (Q4)×Unit):=
  (bif decide (ak < aj)then (Option.bind (idx ac ak) λ v1=>(Option.bind (ae ((v1.1,v1.2.1,v1.2.2.1,()),())) λ v2=>(bif decide (ai.length+(1:Nat)<=memMax)then r0 ae ac aj (IntKind.i64.wrap (ak+1)) (ai++[v2.1])else none)))else some (ai,()))
def yAc(n:Nat)(k:Nat)(ae:(Q3)×Unit->Option ((Q4)×Unit))(ac:List (Q3))(aj:Int)(ak:Int)(ai:List (Q4)):Option (List (Q4)×Unit):=
  iter (λ r y=>yIo n (λ ae ac aj ak ai=>r ((ae,(ac,(aj,(ak,())))),((ai,()),()))) y.1.1 y.1.2.1 y.1.2.2.1 y.1.2.2.2.1 y.2.1.1) k ((ae,(ac,(aj,(ak,())))),((ai,()),()))
def zA_m(n:Nat)(l:List (Q3))(of:(Q3)×Unit->Option ((Q4)×Unit)):Option (List (Q4)×Unit):=
  (yAc n n (of) (l) ((↑l.length:Int)) ((0:Int)) ([]))
theorem ycY(n:Nat)(x:zA_a.den):runF zA_g (yXT n) Tryz.f162 zA_a zA_r x=zA_m n x.1 x.2.1:=by kernel_rfl
def yMQ(ae:(Q3)×Unit->Option ((Q4)×Unit))(ac:List (Q3))(ak:Int)(v1:Q3)(ai:List (Q4)):Option ((List (Q4)×Unit)⊕(List (Q4))):=
  (Option.bind (ae ((v1.1,v1.2.1,v1.2.2.1,()),())) λ v2=>(bif decide (ai.length+(1:Nat)<=memMax)then (some (Sum.inr (ai++[v2.1])))else none))
def yS6(ae:(Q3)×Unit->Option ((Q4)×Unit))(ac:List (Q3))(ai:List (Q4)):Option (List (Q4)×Unit):=
  (some ((ai,())))
theorem yHr(n:Nat)(hn:big<=n)(ae:(Q3)×Unit->Option ((Q4)×Unit))(ac:List (Q3))(ai:List (Q4))(hx:List.length (ac) < lenMax):LeF some (yP (λ af aG a7=>yMQ ae ac af aG a7) (λ a7=>yS6 ae ac a7) 0 (ac) ai) (yAc n n ae ac (List.length (ac):Int) 0 ai):=by
  refine yS (f:=some) (W:=λ aM af a7=>yAc n aM ae ac (List.length (ac):Int) af a7) (body:=(λ af aG a7=>yMQ ae ac af aG a7)) (fin:=(λ a7=>yS6 ae ac a7)) (λ aM af a7=>?_) hx ai n (by unfold big at hn;unfold lenMax at hx;omega)
  show LeF _ _ (yIo n (yAc n aM) ae ac (List.length (ac):Int) af a7)
  exact y5 (y8 λ v1=>(y8 λ v2=>(y5 (y6 rfl) yy))) (yp (y6 rfl))
def zA_M(l:List (Q3))(of:(Q3)×Unit->Option ((Q4)×Unit)):Option (List (Q4)×Unit):=
  (bif decide (List.length (l) < lenMax)then yP (λ af aG a7=>yMQ (of) (l) af aG a7) (λ a7=>yS6 (of) (l) a7) 0 (l) ([])else none)
theorem yXb(l:List (Q3))(of:(Q3)×Unit->Option ((Q4)×Unit))(y:List (Q4)×Unit)(h:zA_M l of=some y):∃ n,zA_m n l of=some y:=
  ⟨big,LeF.top (show LeF some (zA_M l of) (zA_m big l of)from (λ (n:Nat) (hn:big<=n)=>show LeF some (zA_M l of) (zA_m n l of)from (yM λ hx=>by apply yHr n hn;exact hx)) big (Nat.le_refl _)) h⟩
def zA_e:Entry:={ f:=162,args:=zA_a,ress:=zA_r,m:=λ x=>zA_M x.1 x.2.1 }
theorem yRo:FnOK Tryz.prog zA_e:=yL (g:=zA_g) (fn:=Tryz.f162) yC yK eNil (by kernel_rfl) (by kernel_rfl) (by kernel_rfl) (λ x y h=>let ⟨n,hn⟩:=yXb x.1 x.2.1 y h;⟨yXT n,iNil,(ycY n x).trans hn⟩)
abbrev zl_a:Ty:=.pair t183 (.pair t3 (.pair t23 .unit))
abbrev zl_r:Ty:=.pair t183 .unit
def zl_g:G:={ T:=T,E:=[],muts:=[],fz:=[11] }
def zl_k:List (List Nat):=[[0,1,2,7,13,14]]
def yUh(n:Nat):Ann:={ keep:=zl_k,fuel:=n,inl:=[],deep:=0 }
def yKL(n:Nat)(r0:List (List (Q4))->Int->List (Q4)->Int->Int->List (List (Q4))->Option (List (List (Q4))×Unit))(aR:List (List (Q4)))(aH:Int)(aW:List (Q4))(cf:Int)(aB:Int)(ai:List (List (Q4))):Option (List (List (Q4))×Unit):=
  (bif decide (aB < cf)then (Option.bind (idx aR aB) λ v1=>(bif Bool.true && decide ((0:Int)<=(↑v1.length:Int)) && decide ((↑v1.length:Int)<=(↑memMax:Int)) && (↑v1.length:Int)==(↑v1.length:Int)then (Option.bind (idx ai aB) λ v2=>(Option.bind (ai[aB.toNat]?) λ v3=>(Option.bind (idx (ai.set aB.toNat (List.replicate ((↑v1.length:Int).toNat) (((0:Int),(0:Int),())):List (Q4))) aB) λ v4=>(Option.bind ((ai.set aB.toNat (List.replicate ((↑v1.length:Int).toNat) (((0:Int),(0:Int),())):List (Q4)))[aB.toNat]?) λ v5=>(Option.bind (idx aR aB) λ v6=>(Option.bind ((ai.set aB.toNat (List.replicate ((↑v1.length:Int).toNat) (((0:Int),(0:Int),())):List (Q4)))[aB.toNat]?) λ v7=>(bif decide (v6.length=v7.length)then (Option.bind (idx ((ai.set aB.toNat (List.replicate ((↑v1.length:Int).toNat) (((0:Int),(0:Int),())):List (Q4))).set aB.toNat v6) aB) λ v8=>(Option.bind (((ai.set aB.toNat (List.replicate ((↑v1.length:Int).toNat) (((0:Int),(0:Int),())):List (Q4))).set aB.toNat v6)[aB.toNat]?) λ v9=>(Option.bind (idx aW aB) λ v10=>(Option.bind (((ai.set aB.toNat (List.replicate ((↑v1.length:Int).toNat) (((0:Int),(0:Int),())):List (Q4))).set aB.toNat v6)[aB.toNat]?) λ v11=>(Option.bind (idx v11 aH) λ v12=>(Option.bind (((ai.set aB.toNat (List.replicate ((↑v1.length:Int).toNat) (((0:Int),(0:Int),())):List (Q4))).set aB.toNat v6)[aB.toNat]?) λ v13=>(Option.bind (v13[aH.toNat]?) λ v14=>r0 aR aH aW cf (IntKind.i64.wrap (aB+1)) (((ai.set aB.toNat (List.replicate ((↑v1.length:Int).toNat) (((0:Int),(0:Int),())):List (Q4))).set aB.toNat v6).set aB.toNat (v13.set aH.toNat v10)))))))))else none)))))))else none))else some (ai,()))
def yA4(n:Nat)(k:Nat)(aR:List (List (Q4)))(aH:Int)(aW:List (Q4))(cf:Int)(aB:Int)(ai:List (List (Q4))):Option (List (List (Q4))×Unit):=
  iter (λ r y=>yKL n (λ aR aH aW cf aB ai=>r ((aR,(aH,(aW,(cf,(aB,()))))),((ai,()),()))) y.1.1 y.1.2.1 y.1.2.2.1 y.1.2.2.2.1 y.1.2.2.2.2.1 y.2.1.1) k ((aR,(aH,(aW,(cf,(aB,()))))),((ai,()),()))
def zl_m(n:Nat)(m:List (List (Q4)))(column:Int)(values:List (Q4)):Option (List (List (Q4))×Unit):=
  (bif Bool.true && decide ((0:Int)<=(↑m.length:Int)) && decide ((↑m.length:Int)<=(↑memMax:Int)) && (↑m.length:Int)==(↑m.length:Int)then (yA4 n n (m) (column) (values) ((↑m.length:Int)) ((0:Int)) ((List.replicate ((↑m.length:Int).toNat) ([]):List (List (Q4)))))else none)
theorem ybX(n:Nat)(x:zl_a.den):runF zl_g (yUh n) Tryz.f164 zl_a zl_r x=zl_m n x.1 x.2.1 x.2.2.1:=by kernel_rfl
def yTI(aR:List (List (Q4)))(aH:Int)(aW:List (Q4))(aB:Int)(v1:List (Q4))(ai:List (List (Q4))):Option ((List (List (Q4))×Unit)⊕(List (List (Q4)))):=
  (bif Bool.true && decide ((0:Int)<=(↑v1.length:Int)) && decide ((↑v1.length:Int)<=(↑memMax:Int)) && (↑v1.length:Int)==(↑v1.length:Int)then (Option.bind (idx ai aB) λ v2=>(Option.bind (ai[aB.toNat]?) λ v3=>(Option.bind (idx (ai.set aB.toNat (List.replicate ((↑v1.length:Int).toNat) (((0:Int),(0:Int),())):List (Q4))) aB) λ v4=>(Option.bind ((ai.set aB.toNat (List.replicate ((↑v1.length:Int).toNat) (((0:Int),(0:Int),())):List (Q4)))[aB.toNat]?) λ v5=>(Option.bind (idx aR aB) λ v6=>(Option.bind ((ai.set aB.toNat (List.replicate ((↑v1.length:Int).toNat) (((0:Int),(0:Int),())):List (Q4)))[aB.toNat]?) λ v7=>(bif decide (v6.length=v7.length)then (Option.bind (idx ((ai.set aB.toNat (List.replicate ((↑v1.length:Int).toNat) (((0:Int),(0:Int),())):List (Q4))).set aB.toNat v6) aB) λ v8=>(Option.bind (((ai.set aB.toNat (List.replicate ((↑v1.length:Int).toNat) (((0:Int),(0:Int),())):List (Q4))).set aB.toNat v6)[aB.toNat]?) λ v9=>(Option.bind (idx aW aB) λ v10=>(Option.bind (((ai.set aB.toNat (List.replicate ((↑v1.length:Int).toNat) (((0:Int),(0:Int),())):List (Q4))).set aB.toNat v6)[aB.toNat]?) λ v11=>(Option.bind (idx v11 aH) λ v12=>(Option.bind (((ai.set aB.toNat (List.replicate ((↑v1.length:Int).toNat) (((0:Int),(0:Int),())):List (Q4))).set aB.toNat v6)[aB.toNat]?) λ v13=>(Option.bind (v13[aH.toNat]?) λ v14=>(some (Sum.inr (((ai.set aB.toNat (List.replicate ((↑v1.length:Int).toNat) (((0:Int),(0:Int),())):List (Q4))).set aB.toNat v6).set aB.toNat (v13.set aH.toNat v10)))))))))))else none)))))))else none)
def yTB(aR:List (List (Q4)))(aH:Int)(aW:List (Q4))(ai:List (List (Q4))):Option (List (List (Q4))×Unit):=
  (some ((ai,())))
theorem yH1(n:Nat)(hn:big<=n)(aR:List (List (Q4)))(aH:Int)(aW:List (Q4))(ai:List (List (Q4)))(hx:List.length (aR) < lenMax):LeF some (yP (λ af aG a7=>yTI aR aH aW af aG a7) (λ a7=>yTB aR aH aW a7) 0 (aR) ai) (yA4 n n aR aH aW (List.length (aR):Int) 0 ai):=by
  refine yS (f:=some) (W:=λ aM af a7=>yA4 n aM aR aH aW (List.length (aR):Int) af a7) (body:=(λ af aG a7=>yTI aR aH aW af aG a7)) (fin:=(λ a7=>yTB aR aH aW a7)) (λ aM af a7=>?_) hx ai n (by unfold big at hn;unfold lenMax at hx;omega)
  show LeF _ _ (yKL n (yA4 n aM) aR aH aW (List.length (aR):Int) af a7)
  exact y5 (y8 λ v1=>(y5 (y8 λ v2=>(y8 λ v3=>(y8 λ v4=>(y8 λ v5=>(y8 λ v6=>(y8 λ v7=>(y5 (y8 λ v8=>(y8 λ v9=>(y8 λ v10=>(y8 λ v11=>(y8 λ v12=>(y8 λ v13=>(y8 λ v14=>(y6 rfl)))))))) yy))))))) yy)) (yp (y6 rfl))
def zl_M(m:List (List (Q4)))(column:Int)(values:List (Q4)):Option (List (List (Q4))×Unit):=
  (bif Bool.true && decide ((0:Int)<=(↑m.length:Int)) && decide ((↑m.length:Int)<=(↑memMax:Int)) && (↑m.length:Int)==(↑m.length:Int)then (bif decide (List.length (m) < lenMax)then yP (λ af aG a7=>yTI (m) (column) (values) af aG a7) (λ a7=>yTB (m) (column) (values) a7) 0 (m) ((List.replicate ((↑m.length:Int).toNat) ([]):List (List (Q4))))else none)else none)
theorem yYW(m:List (List (Q4)))(column:Int)(values:List (Q4))(y:List (List (Q4))×Unit)(h:zl_M m column values=some y):∃ n,zl_m n m column values=some y:=
  ⟨big,LeF.top (show LeF some (zl_M m column values) (zl_m big m column values)from (λ (n:Nat) (hn:big<=n)=>show LeF some (zl_M m column values) (zl_m n m column values)from (y5 (yM λ hx=>by apply yH1 n hn;exact hx) yy)) big (Nat.le_refl _)) h⟩
def zl_e:Entry:={ f:=164,args:=zl_a,ress:=zl_r,m:=λ x=>zl_M x.1 x.2.1 x.2.2.1 }
theorem yWP:FnOK Tryz.prog zl_e:=yL (g:=zl_g) (fn:=Tryz.f164) yC yK eNil (by kernel_rfl) (by kernel_rfl) (by kernel_rfl) (λ x y h=>let ⟨n,hn⟩:=yYW x.1 x.2.1 x.2.2.1 y h;⟨yUh n,iNil,(ybX n x).trans hn⟩)
abbrev yQZ:Ty:=.pair t210 .unit
abbrev yWO:Ty:=.pair t4 .unit
def yWw:G:={ T:=T,E:=[],muts:=[],fz:=[] }
def yc7:List (List Nat):=[]
def yPR(n:Nat):Ann:={ keep:=yc7,fuel:=n,inl:=[],deep:=0 }
def yNr(n:Nat)(f:Nat):Option (Bool×Unit):=
  some (yr Go.BinOp.neq Go.FloatKind.f64 f f,())
theorem yUk(n:Nat)(x:yQZ.den):runF yWw (yPR n) Tryz.f171 yQZ yWO x=yNr n x.1:=by kernel_rfl
def z0r(f:Nat):(Bool×Unit):=
  (yr Go.BinOp.neq Go.FloatKind.f64 f f,())
abbrev yWK (f:Nat):Option (Bool×Unit):=some (z0r f)
theorem yTt(f:Nat)(y:Bool×Unit)(h:yWK f=some y):∃ n,yNr n f=some y:=
  ⟨0,by rw[<- h];show yNr 0 f=some (z0r f);unfold yNr z0r;first|rfl|(simp only[yG];done)|(simp only[yG];rfl)⟩
def z0r_e:Entry:={ f:=171,args:=yQZ,ress:=yWO,m:=λ x=>yWK x.1 }
theorem yUj:FnOK Tryz.prog z0r_e:=yL (g:=yWw) (fn:=Tryz.f171) yC yK eNil (by kernel_rfl) (by kernel_rfl) (by kernel_rfl) (λ x y h=>let ⟨n,hn⟩:=yTt x.1 y h;⟨yPR n,iNil,(yUk n x).trans hn⟩)
abbrev zN_a:Ty:=.pair t41 (.pair t233 .unit)
abbrev zN_r:Ty:=.pair t161 .unit
def zN_g:G:={ T:=T,E:=[],muts:=[5],fz:=[] }
def zN_k:List (List Nat):=[[1,5,8,9,10]]
def yYx(n:Nat):Ann:={ keep:=zN_k,fuel:=n,inl:=[],deep:=0 }
def ySH(n:Nat)(r0:(Int×Unit->Option (List UInt8×Unit))->List Int->Int->Int->List (List UInt8)->Option (List (List UInt8)×Unit))(ae:Int×Unit->Option (List UInt8×Unit))(ac:List Int)(aj:Int)(ak:Int)(ai:List (List UInt8)):Option (List (List UInt8)×Unit):=
  (bif decide (ak < aj)then (Option.bind (idx ac ak) λ v1=>(Option.bind (ae (v1,())) λ v2=>(bif decide (ai.length+(1:Nat)<=memMax)then r0 ae ac aj (IntKind.i64.wrap (ak+1)) (ai++[v2.1])else none)))else some (ai,()))
def ySX(n:Nat)(k:Nat)(ae:Int×Unit->Option (List UInt8×Unit))(ac:List Int)(aj:Int)(ak:Int)(ai:List (List UInt8)):Option (List (List UInt8)×Unit):=
  iter (λ r y=>ySH n (λ ae ac aj ak ai=>r ((ae,(ac,(aj,(ak,())))),((ai,()),()))) y.1.1 y.1.2.1 y.1.2.2.1 y.1.2.2.2.1 y.2.1.1) k ((ae,(ac,(aj,(ak,())))),((ai,()),()))
def zN_m(n:Nat)(l:List Int)(of:Int×Unit->Option (List UInt8×Unit)):Option (List (List UInt8)×Unit):=
  (ySX n n (of) (l) ((↑l.length:Int)) ((0:Int)) ([]))
theorem ycC(n:Nat)(x:zN_a.den):runF zN_g (yYx n) Tryz.f176 zN_a zN_r x=zN_m n x.1 x.2.1:=by kernel_rfl
def zN_M(l:List Int)(of:Int×Unit->Option (List UInt8×Unit)):Option (List (List UInt8)×Unit):=zN_m 1000 l of
theorem yZ5(l:List Int)(of:Int×Unit->Option (List UInt8×Unit))(y:List (List UInt8)×Unit)(h:zN_M l of=some y):∃ n,zN_m n l of=some y:=⟨1000,h⟩
def zN_e:Entry:={ f:=176,args:=zN_a,ress:=zN_r,m:=λ x=>zN_M x.1 x.2.1 }
theorem ycJ:FnOK Tryz.prog zN_e:=yL (g:=zN_g) (fn:=Tryz.f176) yC yK eNil (by kernel_rfl) (by kernel_rfl) (by kernel_rfl) (λ x y h=>let ⟨n,hn⟩:=yZ5 x.1 x.2.1 y h;⟨yYx n,iNil,(ycC n x).trans hn⟩)
abbrev yPt:Ty:=.pair t9 .unit
abbrev yVb:Ty:=.pair t4 .unit
def yaM:G:={ T:=T,E:=[],muts:=[],fz:=[] }
def ycq:List (List Nat):=[[0,3]]
def yPU(n:Nat):Ann:={ keep:=ycq,fuel:=n,inl:=[],deep:=0 }
def y3m(n:Nat)(r2:List UInt8->Int->Option (Bool×Unit))(bG:List UInt8)(cb:Int)(v3:UInt8):Option (Bool×Unit):=
  (bif cb==0 then some (Bool.false,())else (bif (↑v3.toNat:Int) != 95 then (bif decide ((↑v3.toNat:Int) < 48)then some (Bool.false,())else (bif decide ((↑v3.toNat:Int) > 57)then some (Bool.false,())else r2 bG (IntKind.i64.wrap (cb+1))))else r2 bG (IntKind.i64.wrap (cb+1))))
def yGP(n:Nat)(r2:List UInt8->Int->Option (Bool×Unit))(bG:List UInt8)(cb:Int):Option (Bool×Unit):=
  (bif decide (cb < (↑bG.length:Int))then (Option.bind (idx bG cb) λ v3=>(bif decide ((↑v3.toNat:Int) >= 97)then (bif decide ((↑v3.toNat:Int)<=122)then r2 bG (IntKind.i64.wrap (cb+1))else (bif decide ((↑v3.toNat:Int) >= 65)then (bif decide ((↑v3.toNat:Int)<=90)then r2 bG (IntKind.i64.wrap (cb+1))else (y3m n r2 bG cb v3))else (y3m n r2 bG cb v3)))else (bif decide ((↑v3.toNat:Int) >= 65)then (bif decide ((↑v3.toNat:Int)<=90)then r2 bG (IntKind.i64.wrap (cb+1))else (y3m n r2 bG cb v3))else (y3m n r2 bG cb v3))))else some (Bool.true,()))
def y7J(n:Nat)(k:Nat)(bG:List UInt8)(cb:Int):Option (Bool×Unit):=
  iter (λ r y=>yGP n (λ bG cb=>r ((bG,(cb,())),((),()))) y.1.1 y.1.2.1) k ((bG,(cb,())),((),()))
def yMn(n:Nat)(s:List UInt8):Option (Bool×Unit):=
  (bif (↑s.length:Int)==0 then some (Bool.false,())else (bif decide ((↑s.length:Int) > 24)then some (Bool.false,())else (y7J n n (s) ((0:Int)))))
theorem yZF(n:Nat)(x:yPt.den):runF yaM (yPU n) Tryz.f187 yPt yVb x=yMn n x.1:=by kernel_rfl
def y5w(bG:List UInt8)(cb:Int)(v3:UInt8):Option ((Bool×Unit)⊕Unit):=
  (bif cb==0 then (some (Sum.inl ((Bool.false,()))))else (bif (↑v3.toNat:Int) != 95 then (bif decide ((↑v3.toNat:Int) < 48)then (some (Sum.inl ((Bool.false,()))))else (bif decide ((↑v3.toNat:Int) > 57)then (some (Sum.inl ((Bool.false,()))))else (some (Sum.inr ()))))else (some (Sum.inr ()))))
theorem y0W(n:Nat)(hn:big<=n)(r2:List UInt8->Int->Option (Bool×Unit))(bG:List UInt8)(cb:Int)(v3:UInt8):LeF (elim some λ (a7:Unit)=>r2 bG (IntKind.i64.wrap (cb+1))) (y5w bG cb v3) (y3m n r2 bG cb v3):=
  (y5 (y6 rfl) (y5 (y5 (y6 rfl) (y5 (y6 rfl) (y6 rfl))) (y6 rfl)))
def y8z(bG:List UInt8)(cb:Int)(v3:UInt8):Option ((Bool×Unit)⊕Unit):=
  (bif decide ((↑v3.toNat:Int) >= 97)then (bif decide ((↑v3.toNat:Int)<=122)then (some (Sum.inr ()))else (bif decide ((↑v3.toNat:Int) >= 65)then (bif decide ((↑v3.toNat:Int)<=90)then (some (Sum.inr ()))else (y5w bG cb v3))else (y5w bG cb v3)))else (bif decide ((↑v3.toNat:Int) >= 65)then (bif decide ((↑v3.toNat:Int)<=90)then (some (Sum.inr ()))else (y5w bG cb v3))else (y5w bG cb v3)))
def yFl(bG:List UInt8):Option (Bool×Unit):=
  (some ((Bool.true,())))
theorem yEZ(n:Nat)(hn:big<=n)(bG:List UInt8)(hx:List.length (bG) < lenMax):LeF some (yP (λ af aG a7=>y8z bG af aG) (λ a7=>yFl bG) 0 (bG) ()) (y7J n n bG 0):=by
  refine yS (f:=some) (W:=λ aM af a7=>y7J n aM bG af) (body:=(λ af aG a7=>y8z bG af aG)) (fin:=(λ a7=>yFl bG)) (λ aM af a7=>?_) hx () n (by unfold big at hn;unfold lenMax at hx;omega)
  show LeF _ _ (yGP n (y7J n aM) bG af)
  exact y5 (y8 λ v3=>(y5 (y5 (y6 rfl) (y5 (y5 (y6 rfl) (by apply y0W n hn)) (by apply y0W n hn))) (y5 (y5 (y6 rfl) (by apply y0W n hn)) (by apply y0W n hn)))) (yp (y6 rfl))
def yDl(s:List UInt8):Option (Bool×Unit):=
  (bif (↑s.length:Int)==0 then (some ((Bool.false,())))else (bif decide ((↑s.length:Int) > 24)then (some ((Bool.false,())))else (bif decide (List.length (s) < lenMax)then yP (λ af aG a7=>y8z (s) af aG) (λ a7=>yFl (s)) 0 (s) ()else none)))
theorem yRq(s:List UInt8)(y:Bool×Unit)(h:yDl s=some y):∃ n,yMn n s=some y:=
  ⟨big,LeF.top (show LeF some (yDl s) (yMn big s)from (λ (n:Nat) (hn:big<=n)=>show LeF some (yDl s) (yMn n s)from (y5 (y6 rfl) (y5 (y6 rfl) (yM λ hx=>by apply yEZ n hn;exact hx)))) big (Nat.le_refl _)) h⟩
def z0F_e:Entry:={ f:=187,args:=yPt,ress:=yVb,m:=λ x=>yDl x.1 }
theorem yWo:FnOK Tryz.prog z0F_e:=yL (g:=yaM) (fn:=Tryz.f187) yC yK eNil (by kernel_rfl) (by kernel_rfl) (by kernel_rfl) (λ x y h=>let ⟨n,hn⟩:=yRq x.1 y h;⟨yPU n,iNil,(yZF n x).trans hn⟩)
abbrev ySg:Ty:=.pair t55 .unit
abbrev yVP:Ty:=.pair t55 .unit
def yXF:G:={ T:=T,E:=[],muts:=[],fz:=[] }
def ydU:List (List Nat):=[]
def yPj(n:Nat):Ann:={ keep:=ydU,fuel:=n,inl:=[],deep:=0 }
def yNI(n:Nat)(c:Q3):Option ((Q3)×Unit):=
  some ((c.1,c.2.1,c.2.2.1,()),())
theorem yW6(n:Nat)(x:ySg.den):runF yXF (yPj n) Tryz.f189 ySg yVP x=yNI n x.1:=by kernel_rfl
def z05(c:Q3):((Q3)×Unit):=
  ((c.1,c.2.1,c.2.2.1,()),())
abbrev yTr (c:Q3):Option ((Q3)×Unit):=some (z05 c)
theorem yRM(c:Q3)(y:(Q3)×Unit)(h:yTr c=some y):∃ n,yNI n c=some y:=
  ⟨0,by rw[<- h];show yNI 0 c=some (z05 c);unfold yNI z05;first|rfl|(simp only[yG];done)|(simp only[yG];rfl)⟩
def z05_e:Entry:={ f:=189,args:=ySg,ress:=yVP,m:=λ x=>yTr x.1 }
theorem yUR:FnOK Tryz.prog z05_e:=yL (g:=yXF) (fn:=Tryz.f189) yC yK eNil (by kernel_rfl) (by kernel_rfl) (by kernel_rfl) (λ x y h=>let ⟨n,hn⟩:=yRM x.1 y h;⟨yPj n,iNil,(yW6 n x).trans hn⟩)
abbrev ySe:Ty:=.pair t57 (.pair (.ref t3) .unit)
abbrev yVG:Ty:=.pair t57 .unit
def yYq:G:={ T:=T,E:=[],muts:=[],fz:=[] }
def yb7:List (List Nat):=[]
def yPq(n:Nat):Ann:={ keep:=yb7,fuel:=n,inl:=[],deep:=0 }
def ySK(n:Nat)(z:Q4)(p1:Int):Option ((Q4)×Unit):=
  (bif p1==0 then none else (bif p1==0 then none else some ((IntKind.i64.wrap (z.1.tdiv p1),IntKind.i64.wrap (z.2.1.tdiv p1),()),())))
theorem yWT(n:Nat)(x:ySe.den):runF yYq (yPq n) Tryz.f190 ySe yVG x=ySK n x.1 x.2.1:=by kernel_rfl
def yQW(z:Q4)(p1:Int):Option ((Q4)×Unit):=ySK 0 z p1
theorem yQT(z:Q4)(p1:Int)(y:(Q4)×Unit)(h:yQW z p1=some y):∃ n,ySK n z p1=some y:=⟨0,h⟩
def z06_e:Entry:={ f:=190,args:=ySe,ress:=yVG,m:=λ x=>yQW x.1 x.2.1 }
theorem yXe:FnOK Tryz.prog z06_e:=yL (g:=yYq) (fn:=Tryz.f190) yC yK eNil (by kernel_rfl) (by kernel_rfl) (by kernel_rfl) (λ x y h=>let ⟨n,hn⟩:=yQT x.1 x.2.1 y h;⟨yPq n,iNil,(yWT n x).trans hn⟩)
abbrev z8_a:Ty:=.pair t31 (.pair t255 .unit)
abbrev z8_r:Ty:=.pair t96 .unit
def z8_g:G:={ T:=T,E:=[],muts:=[5],fz:=[] }
def z8_k:List (List Nat):=[[1,5,8,9,10]]
def yZ3(n:Nat):Ann:={ keep:=z8_k,fuel:=n,inl:=[],deep:=0 }
def yL5(n:Nat)(r0:((Q3)×Unit->Option (List (Q4)×Unit))->List (Q3)->Int->Int->List (List (Q4))->Option (List (List (Q4))×Unit))(ae:(Q3)×Unit->Option (List (Q4)×Unit))(ac:List (Q3))(aj:Int)(ak:Int)(ai:List (List (Q4))):Option (List (List (Q4))×Unit):=
  (bif decide (ak < aj)then (Option.bind (idx ac ak) λ v1=>(Option.bind (ae ((v1.1,v1.2.1,v1.2.2.1,()),())) λ v2=>(bif decide (ai.length+(1:Nat)<=memMax)then r0 ae ac aj (IntKind.i64.wrap (ak+1)) (ai++[v2.1])else none)))else some (ai,()))
def yAX(n:Nat)(k:Nat)(ae:(Q3)×Unit->Option (List (Q4)×Unit))(ac:List (Q3))(aj:Int)(ak:Int)(ai:List (List (Q4))):Option (List (List (Q4))×Unit):=
  iter (λ r y=>yL5 n (λ ae ac aj ak ai=>r ((ae,(ac,(aj,(ak,())))),((ai,()),()))) y.1.1 y.1.2.1 y.1.2.2.1 y.1.2.2.2.1 y.2.1.1) k ((ae,(ac,(aj,(ak,())))),((ai,()),()))
def z8_m(n:Nat)(l:List (Q3))(of:(Q3)×Unit->Option (List (Q4)×Unit)):Option (List (List (Q4))×Unit):=
  (yAX n n (of) (l) ((↑l.length:Int)) ((0:Int)) ([]))
theorem ybk(n:Nat)(x:z8_a.den):runF z8_g (yZ3 n) Tryz.f191 z8_a z8_r x=z8_m n x.1 x.2.1:=by kernel_rfl
def yLp(ae:(Q3)×Unit->Option (List (Q4)×Unit))(ac:List (Q3))(ak:Int)(v1:Q3)(ai:List (List (Q4))):Option ((List (List (Q4))×Unit)⊕(List (List (Q4)))):=
  (Option.bind (ae ((v1.1,v1.2.1,v1.2.2.1,()),())) λ v2=>(bif decide (ai.length+(1:Nat)<=memMax)then (some (Sum.inr (ai++[v2.1])))else none))
def ySp(ae:(Q3)×Unit->Option (List (Q4)×Unit))(ac:List (Q3))(ai:List (List (Q4))):Option (List (List (Q4))×Unit):=
  (some ((ai,())))
theorem yHu(n:Nat)(hn:big<=n)(ae:(Q3)×Unit->Option (List (Q4)×Unit))(ac:List (Q3))(ai:List (List (Q4)))(hx:List.length (ac) < lenMax):LeF some (yP (λ af aG a7=>yLp ae ac af aG a7) (λ a7=>ySp ae ac a7) 0 (ac) ai) (yAX n n ae ac (List.length (ac):Int) 0 ai):=by
  refine yS (f:=some) (W:=λ aM af a7=>yAX n aM ae ac (List.length (ac):Int) af a7) (body:=(λ af aG a7=>yLp ae ac af aG a7)) (fin:=(λ a7=>ySp ae ac a7)) (λ aM af a7=>?_) hx ai n (by unfold big at hn;unfold lenMax at hx;omega)
  show LeF _ _ (yL5 n (yAX n aM) ae ac (List.length (ac):Int) af a7)
  exact y5 (y8 λ v1=>(y8 λ v2=>(y5 (y6 rfl) yy))) (yp (y6 rfl))
def z8_M(l:List (Q3))(of:(Q3)×Unit->Option (List (Q4)×Unit)):Option (List (List (Q4))×Unit):=
  (bif decide (List.length (l) < lenMax)then yP (λ af aG a7=>yLp (of) (l) af aG a7) (λ a7=>ySp (of) (l) a7) 0 (l) ([])else none)
theorem yVc(l:List (Q3))(of:(Q3)×Unit->Option (List (Q4)×Unit))(y:List (List (Q4))×Unit)(h:z8_M l of=some y):∃ n,z8_m n l of=some y:=
  ⟨big,LeF.top (show LeF some (z8_M l of) (z8_m big l of)from (λ (n:Nat) (hn:big<=n)=>show LeF some (z8_M l of) (z8_m n l of)from (yM λ hx=>by apply yHu n hn;exact hx)) big (Nat.le_refl _)) h⟩
def z8_e:Entry:={ f:=191,args:=z8_a,ress:=z8_r,m:=λ x=>z8_M x.1 x.2.1 }
theorem ycM:FnOK Tryz.prog z8_e:=yL (g:=z8_g) (fn:=Tryz.f191) yC yK eNil (by kernel_rfl) (by kernel_rfl) (by kernel_rfl) (λ x y h=>let ⟨n,hn⟩:=yVc x.1 x.2.1 y h;⟨yZ3 n,iNil,(ybk n x).trans hn⟩)
abbrev zI_a:Ty:=.pair t35 (.pair t259 .unit)
abbrev zI_r:Ty:=.pair t175 .unit
def zI_g:G:={ T:=T,E:=[],muts:=[5],fz:=[] }
def zI_k:List (List Nat):=[[1,5,8,9,10]]
def yZs(n:Nat):Ann:={ keep:=zI_k,fuel:=n,inl:=[],deep:=0 }
def yTo(n:Nat)(r0:(Nat×Unit->Option (Int×Unit))->List Nat->Int->Int->List Int->Option (List Int×Unit))(ae:Nat×Unit->Option (Int×Unit))(ac:List Nat)(aj:Int)(ak:Int)(ai:List Int):Option (List Int×Unit):=
  (bif decide (ak < aj)then (Option.bind (idx ac ak) λ v1=>(Option.bind (ae (v1,())) λ v2=>(bif decide (ai.length+(1:Nat)<=memMax)then r0 ae ac aj (IntKind.i64.wrap (ak+1)) (ai++[v2.1])else none)))else some (ai,()))
def yS2(n:Nat)(k:Nat)(ae:Nat×Unit->Option (Int×Unit))(ac:List Nat)(aj:Int)(ak:Int)(ai:List Int):Option (List Int×Unit):=
  iter (λ r y=>yTo n (λ ae ac aj ak ai=>r ((ae,(ac,(aj,(ak,())))),((ai,()),()))) y.1.1 y.1.2.1 y.1.2.2.1 y.1.2.2.2.1 y.2.1.1) k ((ae,(ac,(aj,(ak,())))),((ai,()),()))
def zI_m(n:Nat)(l:List Nat)(of:Nat×Unit->Option (Int×Unit)):Option (List Int×Unit):=
  (yS2 n n (of) (l) ((↑l.length:Int)) ((0:Int)) ([]))
theorem ybC(n:Nat)(x:zI_a.den):runF zI_g (yZs n) Tryz.f196 zI_a zI_r x=zI_m n x.1 x.2.1:=by kernel_rfl
def zI_M(l:List Nat)(of:Nat×Unit->Option (Int×Unit)):Option (List Int×Unit):=zI_m 1000 l of
theorem yVL(l:List Nat)(of:Nat×Unit->Option (Int×Unit))(y:List Int×Unit)(h:zI_M l of=some y):∃ n,zI_m n l of=some y:=⟨1000,h⟩
def zI_e:Entry:={ f:=196,args:=zI_a,ress:=zI_r,m:=λ x=>zI_M x.1 x.2.1 }
theorem ydT:FnOK Tryz.prog zI_e:=yL (g:=zI_g) (fn:=Tryz.f196) yC yK eNil (by kernel_rfl) (by kernel_rfl) (by kernel_rfl) (λ x y h=>let ⟨n,hn⟩:=yVL x.1 x.2.1 y h;⟨yZs n,iNil,(ybC n x).trans hn⟩)
abbrev yQw:Ty:=.pair t175 .unit
abbrev yah:Ty:=.pair t28 .unit
def yVs:G:={ T:=T,E:=[],muts:=[],fz:=[] }
def ydy:List (List Nat):=[[5,6,7]]
def yP3(n:Nat):Ann:={ keep:=ydy,fuel:=n,inl:=[],deep:=0 }
def yFD(n:Nat)(r0:List Int->Int->Int->Option (Int×Unit))(bv:List Int)(b6:Int)(aP:Int):Option (Int×Unit):=
  (bif decide (aP < b6)then (Option.bind (idx bv aP) λ v1=>(bif v1 != 0 then some (v1,())else r0 bv b6 (IntKind.i64.wrap (aP+1))))else some ((0:Int),()))
def y6l(n:Nat)(k:Nat)(bv:List Int)(b6:Int)(aP:Int):Option (Int×Unit):=
  iter (λ r y=>yFD n (λ bv b6 aP=>r ((bv,(b6,(aP,()))),((),()))) y.1.1 y.1.2.1 y.1.2.2.1) k ((bv,(b6,(aP,()))),((),()))
def yLl(n:Nat)(l:List Int):Option (Int×Unit):=
  (y6l n n (l) ((↑l.length:Int)) ((0:Int)))
theorem yVK(n:Nat)(x:yQw.den):runF yVs (yP3 n) Tryz.f198 yQw yah x=yLl n x.1:=by kernel_rfl
def yFN(bv:List Int)(aP:Int)(v1:Int):Option ((Int×Unit)⊕Unit):=
  (bif v1 != 0 then (some (Sum.inl ((v1,()))))else (some (Sum.inr ())))
def yGR(bv:List Int):Option (Int×Unit):=
  (some (((0:Int),())))
theorem yEP(n:Nat)(hn:big<=n)(bv:List Int)(hx:List.length (bv) < lenMax):LeF some (yP (λ af aG a7=>yFN bv af aG) (λ a7=>yGR bv) 0 (bv) ()) (y6l n n bv (List.length (bv):Int) 0):=by
  refine yS (f:=some) (W:=λ aM af a7=>y6l n aM bv (List.length (bv):Int) af) (body:=(λ af aG a7=>yFN bv af aG)) (fin:=(λ a7=>yGR bv)) (λ aM af a7=>?_) hx () n (by unfold big at hn;unfold lenMax at hx;omega)
  show LeF _ _ (yFD n (y6l n aM) bv (List.length (bv):Int) af)
  exact y5 (y8 λ v1=>(y5 (y6 rfl) (y6 rfl))) (yp (y6 rfl))
def y6W(l:List Int):Option (Int×Unit):=
  (bif decide (List.length (l) < lenMax)then yP (λ af aG a7=>yFN (l) af aG) (λ a7=>yGR (l)) 0 (l) ()else none)
theorem yT1(l:List Int)(y:Int×Unit)(h:y6W l=some y):∃ n,yLl n l=some y:=
  ⟨big,LeF.top (show LeF some (y6W l) (yLl big l)from (λ (n:Nat) (hn:big<=n)=>show LeF some (y6W l) (yLl n l)from (yM λ hx=>by apply yEP n hn;exact hx)) big (Nat.le_refl _)) h⟩
def z0R_e:Entry:={ f:=198,args:=yQw,ress:=yah,m:=λ x=>y6W x.1 }
theorem yOb:FnOK Tryz.prog z0R_e:=yL (g:=yVs) (fn:=Tryz.f198) yC yK eNil (by kernel_rfl) (by kernel_rfl) (by kernel_rfl) (λ x y h=>let ⟨n,hn⟩:=yT1 x.1 y h;⟨yP3 n,iNil,(yVK n x).trans hn⟩)
abbrev yRK:Ty:=.pair t4 (.pair t28 .unit)
abbrev yZg:Ty:=.pair t28 .unit
def yUP:G:={ T:=T,E:=[],muts:=[],fz:=[] }
def ycn:List (List Nat):=[]
def yP8(n:Nat):Ann:={ keep:=ycn,fuel:=n,inl:=[],deep:=0 }
def yLt(n:Nat)(holds:Bool)(e:Int):Option (Int×Unit):=
  (bif holds then some (e,())else some ((0:Int),()))
theorem yV8(n:Nat)(x:yRK.den):runF yUP (yP8 n) Tryz.f199 yRK yZg x=yLt n x.1 x.2.1:=by kernel_rfl
def z0l(holds:Bool)(e:Int):(Int×Unit):=
  (bif holds then (e,())else ((0:Int),()))
abbrev yX0 (holds:Bool) (e:Int):Option (Int×Unit):=some (z0l holds e)
theorem yQj(holds:Bool)(e:Int)(y:Int×Unit)(h:yX0 holds e=some y):∃ n,yLt n holds e=some y:=
  ⟨0,by rw[<- h];show yLt 0 holds e=some (z0l holds e);unfold yLt z0l;first|rfl|(simp only[yG];done)|(simp only[yG];rfl)⟩
def z0l_e:Entry:={ f:=199,args:=yRK,ress:=yZg,m:=λ x=>yX0 x.1 x.2.1 }
theorem yBM:FnOK Tryz.prog z0l_e:=yL (g:=yUP) (fn:=Tryz.f199) yC yK eNil (by kernel_rfl) (by kernel_rfl) (by kernel_rfl) (λ x y h=>let ⟨n,hn⟩:=yQj x.1 x.2.1 y h;⟨yP8 n,iNil,(yV8 n x).trans hn⟩)
abbrev ySJ:Ty:=.pair t9 .unit
abbrev yWX:Ty:=.pair t4 .unit
def yY4:G:={ T:=T,E:=[],muts:=[],fz:=[] }
def yd6:List (List Nat):=[[0,8]]
def yP7(n:Nat):Ann:={ keep:=yd6,fuel:=n,inl:=[],deep:=0 }
def y51(n:Nat)(r0:List UInt8->List UInt8->Int->Option (Bool×Unit))(ay:List UInt8)(str0__0:List UInt8)(pos0__0:Int)(j2:Bool)(j7:Bool):Option (Bool×Unit):=
  (bif !j2 then (bif pos0__0==0 then some (Bool.false,())else (bif !j7 then some (Bool.false,())else r0 ay str0__0 (ye str0__0 pos0__0).2))else r0 ay str0__0 (ye str0__0 pos0__0).2)
def y2n(n:Nat)(r0:List UInt8->List UInt8->Int->Option (Bool×Unit))(ay:List UInt8)(str0__0:List UInt8)(pos0__0:Int)(j2:Bool):Option (Bool×Unit):=
  (bif decide ((ye str0__0 pos0__0).1 >= 48)then (bif decide ((ye str0__0 pos0__0).1<=57)then (y51 n r0 ay str0__0 pos0__0 j2 (Bool.true))else (y51 n r0 ay str0__0 pos0__0 j2 ((ye str0__0 pos0__0).1==95)))else (y51 n r0 ay str0__0 pos0__0 j2 ((ye str0__0 pos0__0).1==95)))
def yFH(n:Nat)(r0:List UInt8->List UInt8->Int->Option (Bool×Unit))(ay:List UInt8)(str0__0:List UInt8)(pos0__0:Int):Option (Bool×Unit):=
  (bif decide (pos0__0 < (↑str0__0.length:Int))then (bif decide ((ye str0__0 pos0__0).1 >= 65)then (bif decide ((ye str0__0 pos0__0).1<=90)then (y2n n r0 ay str0__0 pos0__0 (Bool.true))else (bif decide ((ye str0__0 pos0__0).1 >= 97)then (y2n n r0 ay str0__0 pos0__0 (decide ((ye str0__0 pos0__0).1<=122)))else (y2n n r0 ay str0__0 pos0__0 (Bool.false))))else (bif decide ((ye str0__0 pos0__0).1 >= 97)then (y2n n r0 ay str0__0 pos0__0 (decide ((ye str0__0 pos0__0).1<=122)))else (y2n n r0 ay str0__0 pos0__0 (Bool.false))))else (bif !ay==[]then some (decide ((↑ay.length:Int)<=24),())else some (Bool.false,())))
def y6w(n:Nat)(k:Nat)(ay:List UInt8)(str0__0:List UInt8)(pos0__0:Int):Option (Bool×Unit):=
  iter (λ r y=>yFH n (λ ay str0__0 pos0__0=>r ((ay,()),(((str0__0,pos0__0),()),()))) y.1.1 y.2.1.1.1 y.2.1.1.2) k ((ay,()),(((str0__0,pos0__0),()),()))
def yMX(n:Nat)(s:List UInt8):Option (Bool×Unit):=
  (y6w n n (s) (s) ((0:Int)))
theorem yYL(n:Nat)(x:ySJ.den):runF yY4 (yP7 n) Tryz.f200 ySJ yWX x=yMX n x.1:=by kernel_rfl
def y8X(ay:List UInt8)(str0__0:List UInt8)(pos0__0:Int)(j2:Bool)(j7:Bool):Option ((Bool×Unit)⊕Unit):=
  (bif !j2 then (bif pos0__0==0 then (some (Sum.inl ((Bool.false,()))))else (bif !j7 then (some (Sum.inl ((Bool.false,()))))else (some (Sum.inr ()))))else (some (Sum.inr ())))
theorem y18(n:Nat)(hn:big<=n)(r0:List UInt8->List UInt8->Int->Option (Bool×Unit))(ay:List UInt8)(str0__0:List UInt8)(pos0__0:Int)(j2:Bool)(j7:Bool):LeF (elim some λ (a7:Unit)=>r0 ay str0__0 (ye (str0__0) pos0__0).2) (y8X ay str0__0 pos0__0 j2 j7) (y51 n r0 ay str0__0 pos0__0 j2 j7):=
  (y5 (y5 (y6 rfl) (y5 (y6 rfl) (y6 rfl))) (y6 rfl))
def y4Z(ay:List UInt8)(str0__0:List UInt8)(pos0__0:Int)(j2:Bool):Option ((Bool×Unit)⊕Unit):=
  (bif decide ((ye str0__0 pos0__0).1 >= 48)then (bif decide ((ye str0__0 pos0__0).1<=57)then (y8X ay str0__0 pos0__0 j2 (Bool.true))else (y8X ay str0__0 pos0__0 j2 ((ye str0__0 pos0__0).1==95)))else (y8X ay str0__0 pos0__0 j2 ((ye str0__0 pos0__0).1==95)))
theorem y0C(n:Nat)(hn:big<=n)(r0:List UInt8->List UInt8->Int->Option (Bool×Unit))(ay:List UInt8)(str0__0:List UInt8)(pos0__0:Int)(j2:Bool):LeF (elim some λ (a7:Unit)=>r0 ay str0__0 (ye (str0__0) pos0__0).2) (y4Z ay str0__0 pos0__0 j2) (y2n n r0 ay str0__0 pos0__0 j2):=
  (y5 (y5 (by apply y18 n hn) (by apply y18 n hn)) (by apply y18 n hn))
def y9o(ay:List UInt8)(str0__0:List UInt8)(pos0__0:Int):Option ((Bool×Unit)⊕Unit):=
  (bif decide ((ye str0__0 pos0__0).1 >= 65)then (bif decide ((ye str0__0 pos0__0).1<=90)then (y4Z ay str0__0 pos0__0 (Bool.true))else (bif decide ((ye str0__0 pos0__0).1 >= 97)then (y4Z ay str0__0 pos0__0 (decide ((ye str0__0 pos0__0).1<=122)))else (y4Z ay str0__0 pos0__0 (Bool.false))))else (bif decide ((ye str0__0 pos0__0).1 >= 97)then (y4Z ay str0__0 pos0__0 (decide ((ye str0__0 pos0__0).1<=122)))else (y4Z ay str0__0 pos0__0 (Bool.false))))
def y9k(ay:List UInt8)(str0__0:List UInt8):Option (Bool×Unit):=
  (bif !ay==[]then (some ((decide ((↑ay.length:Int)<=24),())))else (some ((Bool.false,()))))
theorem yDN(n:Nat)(hn:big<=n)(ay:List UInt8)(str0__0:List UInt8)(hx:List.length (str0__0) < lenMax):LeF some (y8Z (str0__0) (λ af a7=>y9o ay str0__0 af) (λ a7=>y9k ay str0__0) (List.length (str0__0)) 0 ()) (y6w n n ay str0__0 0):=by
  refine yNY (f:=some) (W:=λ aM af a7=>y6w n aM ay str0__0 af) (body:=(λ af a7=>y9o ay str0__0 af)) (fin:=(λ a7=>y9k ay str0__0)) (λ aM af a7=>?_) () n (by unfold big at hn;unfold lenMax at hx;omega)
  show LeF _ _ (yFH n (y6w n aM) ay str0__0 af)
  exact y5 (y5 (y5 (by apply y0C n hn) (y5 (by apply y0C n hn) (by apply y0C n hn))) (y5 (by apply y0C n hn) (by apply y0C n hn))) (yp (y5 (y6 rfl) (y6 rfl)))
def yC6(s:List UInt8):Option (Bool×Unit):=
  (bif decide (List.length (s) < lenMax)then y8Z (s) (λ af a7=>y9o (s) (s) af) (λ a7=>y9k (s) (s)) (List.length (s)) 0 ()else none)
theorem ySA(s:List UInt8)(y:Bool×Unit)(h:yC6 s=some y):∃ n,yMX n s=some y:=
  ⟨big,LeF.top (show LeF some (yC6 s) (yMX big s)from (λ (n:Nat) (hn:big<=n)=>show LeF some (yC6 s) (yMX n s)from (yM λ hx=>by apply yDN n hn;exact hx)) big (Nat.le_refl _)) h⟩
def z0B_e:Entry:={ f:=200,args:=ySJ,ress:=yWX,m:=λ x=>yC6 x.1 }
theorem yOe:FnOK Tryz.prog z0B_e:=yL (g:=yY4) (fn:=Tryz.f200) yC yK eNil (by kernel_rfl) (by kernel_rfl) (by kernel_rfl) (λ x y h=>let ⟨n,hn⟩:=ySA x.1 y h;⟨yP7 n,iNil,(yYL n x).trans hn⟩)
abbrev zP_a:Ty:=.pair t63 (.pair (.ref t60) .unit)
abbrev zP_r:Ty:=.pair t4 .unit
def zP_g:G:={ T:=T,E:=[],muts:=[],fz:=[] }
def zP_k:List (List Nat):=[]
def yXE(n:Nat):Ann:={ keep:=zP_k,fuel:=n,inl:=[],deep:=0 }
def zP_m(n:Nat)(s:Q4)(p1:Q1):Option (Bool×Unit):=
  some (decide (s.2.1 > (↑p1.2.2.1.length:Int)),())
theorem ybM(n:Nat)(x:zP_a.den):runF zP_g (yXE n) Tryz.f205 zP_a zP_r x=zP_m n x.1 x.2.1:=by kernel_rfl
def zP(s:Q4)(p1:Q1):(Bool×Unit):=
  (decide (s.2.1 > (↑p1.2.2.1.length:Int)),())
abbrev zP_M (s:Q4) (p1:Q1):Option (Bool×Unit):=some (zP s p1)
theorem yVF(s:Q4)(p1:Q1)(y:Bool×Unit)(h:zP_M s p1=some y):∃ n,zP_m n s p1=some y:=
  ⟨0,by rw[<- h];show zP_m 0 s p1=some (zP s p1);unfold zP_m zP;first|rfl|(simp only[yG];done)|(simp only[yG];rfl)⟩
def zP_e:Entry:={ f:=205,args:=zP_a,ress:=zP_r,m:=λ x=>zP_M x.1 x.2.1 }
theorem ydk:FnOK Tryz.prog zP_e:=yL (g:=zP_g) (fn:=Tryz.f205) yC yK eNil (by kernel_rfl) (by kernel_rfl) (by kernel_rfl) (λ x y h=>let ⟨n,hn⟩:=yVF x.1 x.2.1 y h;⟨yXE n,iNil,(ybM n x).trans hn⟩)
abbrev zO_a:Ty:=.pair t61 .unit
abbrev zO_r:Ty:=.pair t4 .unit
def zO_g:G:={ T:=T,E:=[],muts:=[],fz:=[] }
def zO_k:List (List Nat):=[]
def yau(n:Nat):Ann:={ keep:=zO_k,fuel:=n,inl:=[],deep:=0 }
def zO_m(n:Nat)(x1:Nat):Option (Bool×Unit):=
  some (yr Go.BinOp.neq Go.FloatKind.f32 x1 (nat_lit 0),())
theorem ycD(n:Nat)(x:zO_a.den):runF zO_g (yau n) Tryz.f208 zO_a zO_r x=zO_m n x.1:=by kernel_rfl
def zO(x1:Nat):(Bool×Unit):=
  (yr Go.BinOp.neq Go.FloatKind.f32 x1 (nat_lit 0),())
abbrev zO_M (x1:Nat):Option (Bool×Unit):=some (zO x1)
theorem yVg(x1:Nat)(y:Bool×Unit)(h:zO_M x1=some y):∃ n,zO_m n x1=some y:=
  ⟨0,by rw[<- h];show zO_m 0 x1=some (zO x1);unfold zO_m zO;first|rfl|(simp only[yG];done)|(simp only[yG];rfl)⟩
def zO_e:Entry:={ f:=208,args:=zO_a,ress:=zO_r,m:=λ x=>zO_M x.1 }
theorem ycF:FnOK Tryz.prog zO_e:=yL (g:=zO_g) (fn:=Tryz.f208) yC yK eNil (by kernel_rfl) (by kernel_rfl) (by kernel_rfl) (λ x y h=>let ⟨n,hn⟩:=yVg x.1 y h;⟨yau n,iNil,(ycD n x).trans hn⟩)
abbrev zo_a:Ty:=.pair t63 .unit
abbrev zo_r:Ty:=.pair t3 .unit
def zo_g:G:={ T:=T,E:=[],muts:=[],fz:=[] }
def zo_k:List (List Nat):=[]
def yXf(n:Nat):Ann:={ keep:=zo_k,fuel:=n,inl:=[],deep:=0 }
def zo_m(n:Nat)(s:Q4):Option (Int×Unit):=
  (bif decide (s.1 < 0)then some ((14:Int),())else (bif decide (s.2.1<=s.1)then some ((14:Int),())else (bif decide (s.2.1 > 100000)then some ((14:Int),())else some ((0:Int),()))))
theorem yda(n:Nat)(x:zo_a.den):runF zo_g (yXf n) Tryz.f209 zo_a zo_r x=zo_m n x.1:=by kernel_rfl
def zo(s:Q4):(Int×Unit):=
  (bif decide (s.1 < 0)then ((14:Int),())else (bif decide (s.2.1<=s.1)then ((14:Int),())else (bif decide (s.2.1 > 100000)then ((14:Int),())else ((0:Int),()))))
abbrev zo_M (s:Q4):Option (Int×Unit):=some (zo s)
theorem yWC(s:Q4)(y:Int×Unit)(h:zo_M s=some y):∃ n,zo_m n s=some y:=
  ⟨0,by rw[<- h];show zo_m 0 s=some (zo s);unfold zo_m zo;first|rfl|(simp only[yG];done)|(simp only[yG];rfl)⟩
def zo_e:Entry:={ f:=209,args:=zo_a,ress:=zo_r,m:=λ x=>zo_M x.1 }
theorem ybv:FnOK Tryz.prog zo_e:=yL (g:=zo_g) (fn:=Tryz.f209) yC yK eNil (by kernel_rfl) (by kernel_rfl) (by kernel_rfl) (λ x y h=>let ⟨n,hn⟩:=yWC x.1 y h;⟨yXf n,iNil,(yda n x).trans hn⟩)
abbrev zc_a:Ty:=.pair t61 .unit
abbrev zc_r:Ty:=.pair t3 .unit
def zc_g:G:={ T:=T,E:=[],muts:=[],fz:=[] }
def zc_k:List (List Nat):=[]
def yWd(n:Nat):Ann:={ keep:=zc_k,fuel:=n,inl:=[],deep:=0 }
def zc_m(n:Nat)(x1:Nat):Option (Int×Unit):=
  (Option.bind (yo Go.FloatKind.f32 (y09 Go.BinOp.mul Go.FloatKind.f32 x1 (nat_lit 1098907648)) IntKind.i64) λ v0=>some (v0,()))
theorem ye2(n:Nat)(x:zc_a.den):runF zc_g (yWd n) Tryz.f224 zc_a zc_r x=zc_m n x.1:=by kernel_rfl
def zc_M(x1:Nat):Option (Int×Unit):=zc_m 0 x1
theorem yZj(x1:Nat)(y:Int×Unit)(h:zc_M x1=some y):∃ n,zc_m n x1=some y:=⟨0,h⟩
def zc_e:Entry:={ f:=224,args:=zc_a,ress:=zc_r,m:=λ x=>zc_M x.1 }
theorem ycV:FnOK Tryz.prog zc_e:=yL (g:=zc_g) (fn:=Tryz.f224) yC yK eNil (by kernel_rfl) (by kernel_rfl) (by kernel_rfl) (λ x y h=>let ⟨n,hn⟩:=yZj x.1 y h;⟨yWd n,iNil,(ye2 n x).trans hn⟩)
abbrev zD_a:Ty:=.pair t58 (.pair t263 .unit)
abbrev zD_r:Ty:=.pair t3 .unit
def zD_g:G:={ T:=T,E:=[],muts:=[],fz:=[] }
def zD_k:List (List Nat):=[[0,1,7,8]]
def yXr(n:Nat):Ann:={ keep:=zD_k,fuel:=n,inl:=[],deep:=0 }
def yJA(n:Nat)(r0:List (Q4)->((Q4)×Unit->Option (Bool×Unit))->Int->Int->Option (Int×Unit))(ay:List (Q4))(bP:(Q4)×Unit->Option (Bool×Unit))(aP:Int)(ac:Int):Option (Int×Unit):=
  (bif decide (ac < aP)then (Option.bind (idx ay ac) λ v1=>(Option.bind (bP (v1,())) λ v2=>(bif v2.1 then some (ac,())else r0 ay bP aP (IntKind.i64.wrap (ac+1)))))else some ((-1:Int),()))
def yAz(n:Nat)(k:Nat)(ay:List (Q4))(bP:(Q4)×Unit->Option (Bool×Unit))(aP:Int)(ac:Int):Option (Int×Unit):=
  iter (λ r y=>yJA n (λ ay bP aP ac=>r ((ay,(bP,(aP,(ac,())))),((),()))) y.1.1 y.1.2.1 y.1.2.2.1 y.1.2.2.2.1) k ((ay,(bP,(aP,(ac,())))),((),()))
def zD_m(n:Nat)(s:List (Q4))(f:(Q4)×Unit->Option (Bool×Unit)):Option (Int×Unit):=
  (yAz n n (s) (f) ((↑s.length:Int)) ((0:Int)))
theorem ybU(n:Nat)(x:zD_a.den):runF zD_g (yXr n) Tryz.f226 zD_a zD_r x=zD_m n x.1 x.2.1:=by kernel_rfl
def yLD(ay:List (Q4))(bP:(Q4)×Unit->Option (Bool×Unit))(ac:Int)(v1:Q4):Option ((Int×Unit)⊕Unit):=
  (Option.bind (bP (v1,())) λ v2=>(bif v2.1 then (some (Sum.inl ((ac,()))))else (some (Sum.inr ()))))
def yNL(ay:List (Q4))(bP:(Q4)×Unit->Option (Bool×Unit)):Option (Int×Unit):=
  (some (((-1:Int),())))
theorem yHg(n:Nat)(hn:big<=n)(ay:List (Q4))(bP:(Q4)×Unit->Option (Bool×Unit))(hx:List.length (ay) < lenMax):LeF some (yP (λ af aG a7=>yLD ay bP af aG) (λ a7=>yNL ay bP) 0 (ay) ()) (yAz n n ay bP (List.length (ay):Int) 0):=by
  refine yS (f:=some) (W:=λ aM af a7=>yAz n aM ay bP (List.length (ay):Int) af) (body:=(λ af aG a7=>yLD ay bP af aG)) (fin:=(λ a7=>yNL ay bP)) (λ aM af a7=>?_) hx () n (by unfold big at hn;unfold lenMax at hx;omega)
  show LeF _ _ (yJA n (yAz n aM) ay bP (List.length (ay):Int) af)
  exact y5 (y8 λ v1=>(y8 λ v2=>(y5 (y6 rfl) (y6 rfl)))) (yp (y6 rfl))
def zD_M(s:List (Q4))(f:(Q4)×Unit->Option (Bool×Unit)):Option (Int×Unit):=
  (bif decide (List.length (s) < lenMax)then yP (λ af aG a7=>yLD (s) (f) af aG) (λ a7=>yNL (s) (f)) 0 (s) ()else none)
theorem yaT(s:List (Q4))(f:(Q4)×Unit->Option (Bool×Unit))(y:Int×Unit)(h:zD_M s f=some y):∃ n,zD_m n s f=some y:=
  ⟨big,LeF.top (show LeF some (zD_M s f) (zD_m big s f)from (λ (n:Nat) (hn:big<=n)=>show LeF some (zD_M s f) (zD_m n s f)from (yM λ hx=>by apply yHg n hn;exact hx)) big (Nat.le_refl _)) h⟩
def zD_e:Entry:={ f:=226,args:=zD_a,ress:=zD_r,m:=λ x=>zD_M x.1 x.2.1 }
theorem ye1:FnOK Tryz.prog zD_e:=yL (g:=zD_g) (fn:=Tryz.f226) yC yK eNil (by kernel_rfl) (by kernel_rfl) (by kernel_rfl) (λ x y h=>let ⟨n,hn⟩:=yaT x.1 x.2.1 y h;⟨yXr n,iNil,(ybU n x).trans hn⟩)
abbrev zE_a:Ty:=.pair t35 (.pair t265 .unit)
abbrev zE_r:Ty:=.pair t3 .unit
def zE_g:G:={ T:=T,E:=[],muts:=[],fz:=[] }
def zE_k:List (List Nat):=[[0,1,7,8]]
def yWj(n:Nat):Ann:={ keep:=zE_k,fuel:=n,inl:=[],deep:=0 }
def yKP(n:Nat)(r0:List Nat->(Nat×Unit->Option (Bool×Unit))->Int->Int->Option (Int×Unit))(ay:List Nat)(bP:Nat×Unit->Option (Bool×Unit))(aP:Int)(ac:Int):Option (Int×Unit):=
  (bif decide (ac < aP)then (Option.bind (idx ay ac) λ v1=>(Option.bind (bP (v1,())) λ v2=>(bif v2.1 then some (ac,())else r0 ay bP aP (IntKind.i64.wrap (ac+1)))))else some ((-1:Int),()))
def yB1(n:Nat)(k:Nat)(ay:List Nat)(bP:Nat×Unit->Option (Bool×Unit))(aP:Int)(ac:Int):Option (Int×Unit):=
  iter (λ r y=>yKP n (λ ay bP aP ac=>r ((ay,(bP,(aP,(ac,())))),((),()))) y.1.1 y.1.2.1 y.1.2.2.1 y.1.2.2.2.1) k ((ay,(bP,(aP,(ac,())))),((),()))
def zE_m(n:Nat)(s:List Nat)(f:Nat×Unit->Option (Bool×Unit)):Option (Int×Unit):=
  (yB1 n n (s) (f) ((↑s.length:Int)) ((0:Int)))
theorem ycW(n:Nat)(x:zE_a.den):runF zE_g (yWj n) Tryz.f227 zE_a zE_r x=zE_m n x.1 x.2.1:=by kernel_rfl
def yKz(ay:List Nat)(bP:Nat×Unit->Option (Bool×Unit))(ac:Int)(v1:Nat):Option ((Int×Unit)⊕Unit):=
  (Option.bind (bP (v1,())) λ v2=>(bif v2.1 then (some (Sum.inl ((ac,()))))else (some (Sum.inr ()))))
def yNv(ay:List Nat)(bP:Nat×Unit->Option (Bool×Unit)):Option (Int×Unit):=
  (some (((-1:Int),())))
theorem yHq(n:Nat)(hn:big<=n)(ay:List Nat)(bP:Nat×Unit->Option (Bool×Unit))(hx:List.length (ay) < lenMax):LeF some (yP (λ af aG a7=>yKz ay bP af aG) (λ a7=>yNv ay bP) 0 (ay) ()) (yB1 n n ay bP (List.length (ay):Int) 0):=by
  refine yS (f:=some) (W:=λ aM af a7=>yB1 n aM ay bP (List.length (ay):Int) af) (body:=(λ af aG a7=>yKz ay bP af aG)) (fin:=(λ a7=>yNv ay bP)) (λ aM af a7=>?_) hx () n (by unfold big at hn;unfold lenMax at hx;omega)
  show LeF _ _ (yKP n (yB1 n aM) ay bP (List.length (ay):Int) af)
  exact y5 (y8 λ v1=>(y8 λ v2=>(y5 (y6 rfl) (y6 rfl)))) (yp (y6 rfl))
def zE_M(s:List Nat)(f:Nat×Unit->Option (Bool×Unit)):Option (Int×Unit):=
  (bif decide (List.length (s) < lenMax)then yP (λ af aG a7=>yKz (s) (f) af aG) (λ a7=>yNv (s) (f)) 0 (s) ()else none)
theorem yVR(s:List Nat)(f:Nat×Unit->Option (Bool×Unit))(y:Int×Unit)(h:zE_M s f=some y):∃ n,zE_m n s f=some y:=
  ⟨big,LeF.top (show LeF some (zE_M s f) (zE_m big s f)from (λ (n:Nat) (hn:big<=n)=>show LeF some (zE_M s f) (zE_m n s f)from (yM λ hx=>by apply yHq n hn;exact hx)) big (Nat.le_refl _)) h⟩
def zE_e:Entry:={ f:=227,args:=zE_a,ress:=zE_r,m:=λ x=>zE_M x.1 x.2.1 }
theorem ydV:FnOK Tryz.prog zE_e:=yL (g:=zE_g) (fn:=Tryz.f227) yC yK eNil (by kernel_rfl) (by kernel_rfl) (by kernel_rfl) (λ x y h=>let ⟨n,hn⟩:=yVR x.1 x.2.1 y h;⟨yWj n,iNil,(ycW n x).trans hn⟩)
end
end Go.Tw
end
section
set_option maxRecDepth 1000000
namespace Go.Tw
open Go.Vx Go.Vx.B Go.Proofs
noncomputable section
abbrev yPz:Ty:=.pair t94 .unit
abbrev yWc:Ty:=.pair t4 .unit
def yYC:G:={ T:=T,E:=[zh_e],muts:=[],fz:=[] }
def yc2:List (List Nat):=[]
def yPY(n:Nat):Ann:={ keep:=yc2,fuel:=n,inl:=[],deep:=0 }
def yMW(n:Nat)(r1:Q1):Option (Bool×Unit):=
  (bif decide ((↑r1.1.length:Int)<=60)then (bif decide ((↑r1.2.2.1.length:Int)<=24)then some ((zh r1.2.2.2.1 (8:Int)).1,())else (bif (↑r1.2.2.1.length:Int)==130 then some ((zh r1.2.2.2.1 (8:Int)).1,())else (bif (↑r1.2.2.1.length:Int)==4097 then some ((zh r1.2.2.2.1 (8:Int)).1,())else some (Bool.false,()))))else some (Bool.false,()))
theorem yZ6(n:Nat)(x:yPz.den):runF yYC (yPY n) Tryz.f54 yPz yWc x=yMW n x.1:=by kernel_rfl
def z0X(r1:Q1):(Bool×Unit):=
  (bif decide ((↑r1.1.length:Int)<=60)then (bif decide ((↑r1.2.2.1.length:Int)<=24)then ((zh r1.2.2.2.1 (8:Int)).1,())else (bif (↑r1.2.2.1.length:Int)==130 then ((zh r1.2.2.2.1 (8:Int)).1,())else (bif (↑r1.2.2.1.length:Int)==4097 then ((zh r1.2.2.2.1 (8:Int)).1,())else (Bool.false,()))))else (Bool.false,()))
abbrev yY1 (r1:Q1):Option (Bool×Unit):=some (z0X r1)
theorem ySt(r1:Q1)(y:Bool×Unit)(h:yY1 r1=some y):∃ n,yMW n r1=some y:=
  ⟨0,by rw[<- h];show yMW 0 r1=some (z0X r1);unfold yMW z0X;first|rfl|(simp only[yG];done)|(simp only[yG];rfl)⟩
def z0X_e:Entry:={ f:=54,args:=yPz,ress:=yWc,m:=λ x=>yY1 x.1 }
theorem yXy:FnOK Tryz.prog z0X_e:=yL (g:=yYC) (fn:=Tryz.f54) yC yK (yA yd5 eNil) (by kernel_rfl) (by kernel_rfl) (by kernel_rfl) (λ x y h=>let ⟨n,hn⟩:=ySt x.1 y h;⟨yPY n,iNil,(yZ6 n x).trans hn⟩)
abbrev zy_a:Ty:=.pair t96 (.pair t96 .unit)
abbrev zy_r:Ty:=.pair t4 .unit
def zy_g:G:={ T:=T,E:=[zZ_e],muts:=[],fz:=[] }
def zy_k:List (List Nat):=[[0,1,5]]
def yYe(n:Nat):Ann:={ keep:=zy_k,fuel:=n,inl:=[],deep:=0 }
def yJI(n:Nat)(r0:List (List (Q4))->List (List (Q4))->Int->Option (Bool×Unit))(ax:List (List (Q4)))(aD:List (List (Q4)))(aN:Int):Option (Bool×Unit):=
  (bif decide (aN < (↑ax.length:Int))then (Option.bind (idx ax aN) λ v1=>(Option.bind (idx aD aN) λ v2=>(Option.bind (zZ_M v1 v2) λ v3=>(bif !v3.1 then some (Bool.false,())else r0 ax aD (IntKind.i64.wrap (aN+1))))))else some (Bool.true,()))
def yAr(n:Nat)(k:Nat)(ax:List (List (Q4)))(aD:List (List (Q4)))(aN:Int):Option (Bool×Unit):=
  iter (λ r y=>yJI n (λ ax aD aN=>r ((ax,(aD,(aN,()))),((),()))) y.1.1 y.1.2.1 y.1.2.2.1) k ((ax,(aD,(aN,()))),((),()))
def zy_m(n:Nat)(a:List (List (Q4)))(b:List (List (Q4))):Option (Bool×Unit):=
  (bif (↑a.length:Int) != (↑b.length:Int)then some (Bool.false,())else (yAr n n (a) (b) ((0:Int))))
theorem ycX(n:Nat)(x:zy_a.den):runF zy_g (yYe n) Tryz.f64 zy_a zy_r x=zy_m n x.1 x.2.1:=by kernel_rfl
def yMI(ax:List (List (Q4)))(aD:List (List (Q4)))(aN:Int)(v1:List (Q4)):Option ((Bool×Unit)⊕Unit):=
  (Option.bind (idx aD aN) λ v2=>(Option.bind (zZ_M v1 v2) λ v3=>(bif !v3.1 then (some (Sum.inl ((Bool.false,()))))else (some (Sum.inr ())))))
def yTY(ax:List (List (Q4)))(aD:List (List (Q4))):Option (Bool×Unit):=
  (some ((Bool.true,())))
theorem yI9(n:Nat)(hn:big<=n)(ax:List (List (Q4)))(aD:List (List (Q4)))(hx:List.length (ax) < lenMax):LeF some (yP (λ af aG a7=>yMI ax aD af aG) (λ a7=>yTY ax aD) 0 (ax) ()) (yAr n n ax aD 0):=by
  refine yS (f:=some) (W:=λ aM af a7=>yAr n aM ax aD af) (body:=(λ af aG a7=>yMI ax aD af aG)) (fin:=(λ a7=>yTY ax aD)) (λ aM af a7=>?_) hx () n (by unfold big at hn;unfold lenMax at hx;omega)
  show LeF _ _ (yJI n (yAr n aM) ax aD af)
  exact y5 (y8 λ v1=>(y8 λ v2=>(y8 λ v3=>(y5 (y6 rfl) (y6 rfl))))) (yp (y6 rfl))
def zy_M(a:List (List (Q4)))(b:List (List (Q4))):Option (Bool×Unit):=
  (bif (↑a.length:Int) != (↑b.length:Int)then (some ((Bool.false,())))else (bif decide (List.length (a) < lenMax)then yP (λ af aG a7=>yMI (a) (b) af aG) (λ a7=>yTY (a) (b)) 0 (a) ()else none))
theorem yU6(a:List (List (Q4)))(b:List (List (Q4)))(y:Bool×Unit)(h:zy_M a b=some y):∃ n,zy_m n a b=some y:=
  ⟨big,LeF.top (show LeF some (zy_M a b) (zy_m big a b)from (λ (n:Nat) (hn:big<=n)=>show LeF some (zy_M a b) (zy_m n a b)from (y5 (y6 rfl) (yM λ hx=>by apply yI9 n hn;exact hx))) big (Nat.le_refl _)) h⟩
def zy_e:Entry:={ f:=64,args:=zy_a,ress:=zy_r,m:=λ x=>zy_M x.1 x.2.1 }
theorem yUX:FnOK Tryz.prog zy_e:=yL (g:=zy_g) (fn:=Tryz.f64) yC yK (yA yXD eNil) (by kernel_rfl) (by kernel_rfl) (by kernel_rfl) (λ x y h=>let ⟨n,hn⟩:=yU6 x.1 x.2.1 y h;⟨yYe n,iNil,(ycX n x).trans hn⟩)
abbrev zq_a:Ty:=.pair t126 (.pair t3 .unit)
abbrev zq_r:Ty:=.pair t57 .unit
def zq_g:G:={ T:=T,E:=[z0t_e],muts:=[],fz:=[] }
def zq_k:List (List Nat):=[]
def yXq(n:Nat):Ann:={ keep:=zq_k,fuel:=n,inl:=[],deep:=0 }
def zq_m(n:Nat)(c:Q3)(tick:Int):Option ((Q4)×Unit):=
  (bif c.2.1==0 then none else (Option.bind (yEN ((1:Int),(0:Int),()) (IntKind.i64.wrap (c.2.2.1 * IntKind.i64.wrap (tick.tdiv c.2.1)))) λ v0=>some ((v0.1.1,v0.1.2.1,()),())))
theorem ybl(n:Nat)(x:zq_a.den):runF zq_g (yXq n) Tryz.f81 zq_a zq_r x=zq_m n x.1 x.2.1:=by kernel_rfl
def zq_M(c:Q3)(tick:Int):Option ((Q4)×Unit):=zq_m 0 c tick
theorem yZR(c:Q3)(tick:Int)(y:(Q4)×Unit)(h:zq_M c tick=some y):∃ n,zq_m n c tick=some y:=⟨0,h⟩
def zq_e:Entry:={ f:=81,args:=zq_a,ress:=zq_r,m:=λ x=>zq_M x.1 x.2.1 }
theorem ydJ:FnOK Tryz.prog zq_e:=yL (g:=zq_g) (fn:=Tryz.f81) yC yK (yA yXY eNil) (by kernel_rfl) (by kernel_rfl) (by kernel_rfl) (λ x y h=>let ⟨n,hn⟩:=yZR x.1 x.2.1 y h;⟨yXq n,iNil,(ybl n x).trans hn⟩)
abbrev yRh:Ty:=.pair t3 (.pair t3 (.pair t3 .unit))
abbrev yab:Ty:=.pair t28 .unit
def yYQ:G:={ T:=T,E:=[z1F_e],muts:=[],fz:=[] }
def ydN:List (List Nat):=[]
def yPB(n:Nat):Ann:={ keep:=ydN,fuel:=n,inl:=[],deep:=0 }
def yMV(n:Nat)(n1:Int)(least:Int)(most:Int):Option (Int×Unit):=
  (bif decide (n1 < least)then some ((z1F Bool.true (3:Int)).1,())else some ((z1F (decide (n1 > most)) (3:Int)).1,()))
theorem yYT(n:Nat)(x:yRh.den):runF yYQ (yPB n) Tryz.f114 yRh yab x=yMV n x.1 x.2.1 x.2.2.1:=by kernel_rfl
def z0k(n1:Int)(least:Int)(most:Int):(Int×Unit):=
  (bif decide (n1 < least)then ((z1F Bool.true (3:Int)).1,())else ((z1F (decide (n1 > most)) (3:Int)).1,()))
abbrev yaD (n1:Int) (least:Int) (most:Int):Option (Int×Unit):=some (z0k n1 least most)
theorem ySh(n1:Int)(least:Int)(most:Int)(y:Int×Unit)(h:yaD n1 least most=some y):∃ n,yMV n n1 least most=some y:=
  ⟨0,by rw[<- h];show yMV 0 n1 least most=some (z0k n1 least most);unfold yMV z0k;first|rfl|(simp only[yG];done)|(simp only[yG];rfl)⟩
def z0k_e:Entry:={ f:=114,args:=yRh,ress:=yab,m:=λ x=>yaD x.1 x.2.1 x.2.2.1 }
theorem yBX:FnOK Tryz.prog z0k_e:=yL (g:=yYQ) (fn:=Tryz.f114) yC yK (yA y6G eNil) (by kernel_rfl) (by kernel_rfl) (by kernel_rfl) (λ x y h=>let ⟨n,hn⟩:=ySh x.1 x.2.1 x.2.2.1 y h;⟨yPB n,iNil,(yYT n x).trans hn⟩)
abbrev zn_a:Ty:=.pair t9 .unit
abbrev zn_r:Ty:=.pair t3 .unit
def zn_g:G:={ T:=T,E:=[z0F_e],muts:=[],fz:=[] }
def zn_k:List (List Nat):=[]
def yad(n:Nat):Ann:={ keep:=zn_k,fuel:=n,inl:=[],deep:=0 }
def zn_m(n:Nat)(s:List UInt8):Option (Int×Unit):=
  (Option.bind (yDl s) λ v0=>(bif !v0.1 then some ((8:Int),())else some ((0:Int),())))
theorem ydW(n:Nat)(x:zn_a.den):runF zn_g (yad n) Tryz.f118 zn_a zn_r x=zn_m n x.1:=by kernel_rfl
def zn_M(s:List UInt8):Option (Int×Unit):=zn_m 0 s
theorem yZw(s:List UInt8)(y:Int×Unit)(h:zn_M s=some y):∃ n,zn_m n s=some y:=⟨0,h⟩
def zn_e:Entry:={ f:=118,args:=zn_a,ress:=zn_r,m:=λ x=>zn_M x.1 }
theorem yaR:FnOK Tryz.prog zn_e:=yL (g:=zn_g) (fn:=Tryz.f118) yC yK (yA yWo eNil) (by kernel_rfl) (by kernel_rfl) (by kernel_rfl) (λ x y h=>let ⟨n,hn⟩:=yZw x.1 y h;⟨yad n,iNil,(ydW n x).trans hn⟩)
abbrev zu_a:Ty:=.pair t33 .unit
abbrev zu_r:Ty:=.pair t4 .unit
def zu_g:G:={ T:=T,E:=[z09_e],muts:=[],fz:=[] }
def zu_k:List (List Nat):=[[1,6,7,8]]
def yV6(n:Nat):Ann:={ keep:=zu_k,fuel:=n,inl:=[],deep:=0 }
def yK5(n:Nat)(r0:Q2->List (Q4)->Int->Int->Option (Bool×Unit))(aA:Q2)(b6:List (Q4))(aP:Int)(ac:Int):Option (Bool×Unit):=
  (bif decide (ac < aP)then (Option.bind (idx b6 ac) λ v1=>(bif decide ((if (z09 v1.2.1).1 > (z09 v1.1).1 then (z09 v1.2.1).1 else (z09 v1.1).1) > 4194304)then some (Bool.false,())else r0 aA b6 aP (IntKind.i64.wrap (ac+1))))else some (decide (aA.2.2.1<=4096),()))
def yAG(n:Nat)(k:Nat)(aA:Q2)(b6:List (Q4))(aP:Int)(ac:Int):Option (Bool×Unit):=
  iter (λ r y=>yK5 n (λ aA b6 aP ac=>r ((aA,(b6,(aP,(ac,())))),((),()))) y.1.1 y.1.2.1 y.1.2.2.1 y.1.2.2.2.1) k ((aA,(b6,(aP,(ac,())))),((),()))
def zu_m(n:Nat)(t:Q2):Option (Bool×Unit):=
  (yAG n n (t) (t.2.1) ((↑t.2.1.length:Int)) ((0:Int)))
theorem yc8(n:Nat)(x:zu_a.den):runF zu_g (yV6 n) Tryz.f129 zu_a zu_r x=zu_m n x.1:=by kernel_rfl
def yQg(aA:Q2)(b6:List (Q4))(ac:Int)(v1:Q4):Option ((Bool×Unit)⊕Unit):=
  (bif decide ((if (z09 v1.2.1).1 > (z09 v1.1).1 then (z09 v1.2.1).1 else (z09 v1.1).1) > 4194304)then (some (Sum.inl ((Bool.false,()))))else (some (Sum.inr ())))
def yU0(aA:Q2)(b6:List (Q4)):Option (Bool×Unit):=
  (some ((decide (aA.2.2.1<=4096),())))
theorem yHf(n:Nat)(hn:big<=n)(aA:Q2)(b6:List (Q4))(hx:List.length (b6) < lenMax):LeF some (yP (λ af aG a7=>yQg aA b6 af aG) (λ a7=>yU0 aA b6) 0 (b6) ()) (yAG n n aA b6 (List.length (b6):Int) 0):=by
  refine yS (f:=some) (W:=λ aM af a7=>yAG n aM aA b6 (List.length (b6):Int) af) (body:=(λ af aG a7=>yQg aA b6 af aG)) (fin:=(λ a7=>yU0 aA b6)) (λ aM af a7=>?_) hx () n (by unfold big at hn;unfold lenMax at hx;omega)
  show LeF _ _ (yK5 n (yAG n aM) aA b6 (List.length (b6):Int) af)
  exact y5 (y8 λ v1=>(y5 (y6 rfl) (y6 rfl))) (yp (y6 rfl))
def zu_M(t:Q2):Option (Bool×Unit):=
  (bif decide (List.length (t.2.1) < lenMax)then yP (λ af aG a7=>yQg (t) (t.2.1) af aG) (λ a7=>yU0 (t) (t.2.1)) 0 (t.2.1) ()else none)
theorem yW8(t:Q2)(y:Bool×Unit)(h:zu_M t=some y):∃ n,zu_m n t=some y:=
  ⟨big,LeF.top (show LeF some (zu_M t) (zu_m big t)from (λ (n:Nat) (hn:big<=n)=>show LeF some (zu_M t) (zu_m n t)from (yM λ hx=>by apply yHf n hn;exact hx)) big (Nat.le_refl _)) h⟩
def zu_e:Entry:={ f:=129,args:=zu_a,ress:=zu_r,m:=λ x=>zu_M x.1 }
theorem ycp:FnOK Tryz.prog zu_e:=yL (g:=zu_g) (fn:=Tryz.f129) yC yK (yA yCd eNil) (by kernel_rfl) (by kernel_rfl) (by kernel_rfl) (λ x y h=>let ⟨n,hn⟩:=yW8 x.1 y h;⟨yV6 n,iNil,(yc8 n x).trans hn⟩)
abbrev yRE:Ty:=.pair t57 .unit
abbrev ya8:Ty:=.pair t28 .unit
def yWl:G:={ T:=T,E:=[z09_e,z1F_e],muts:=[],fz:=[] }
def ybI:List (List Nat):=[]
def yOV(n:Nat):Ann:={ keep:=ybI,fuel:=n,inl:=[],deep:=0 }
def yMC(n:Nat)(z:Q4):Option (Int×Unit):=
  some ((z1F (decide ((if (z09 z.2.1).1 > (z09 z.1).1 then (z09 z.2.1).1 else (z09 z.1).1) > 16777216)) (1:Int)).1,())
theorem yYD(n:Nat)(x:yRE.den):runF yWl (yOV n) Tryz.f138 yRE ya8 x=yMC n x.1:=by kernel_rfl
def z0e(z:Q4):(Int×Unit):=
  ((z1F (decide ((if (z09 z.2.1).1 > (z09 z.1).1 then (z09 z.2.1).1 else (z09 z.1).1) > 16777216)) (1:Int)).1,())
abbrev yRF (z:Q4):Option (Int×Unit):=some (z0e z)
theorem yTb(z:Q4)(y:Int×Unit)(h:yRF z=some y):∃ n,yMC n z=some y:=
  ⟨0,by rw[<- h];show yMC 0 z=some (z0e z);unfold yMC z0e;first|rfl|(simp only[yG];done)|(simp only[yG];rfl)⟩
def z0e_e:Entry:={ f:=138,args:=yRE,ress:=ya8,m:=λ x=>yRF x.1 }
theorem yXZ:FnOK Tryz.prog z0e_e:=yL (g:=yWl) (fn:=Tryz.f138) yC yK (yA yCd (yA y6G eNil)) (by kernel_rfl) (by kernel_rfl) (by kernel_rfl) (λ x y h=>let ⟨n,hn⟩:=yTb x.1 y h;⟨yOV n,iNil,(yYD n x).trans hn⟩)
abbrev yQt:Ty:=.pair t60 (.pair t55 (.pair t55 .unit))
abbrev yaK:Ty:=.pair t57 .unit
def yUL:G:={ T:=T,E:=[zR_e,z03_e,z17_e,z1E_e],muts:=[],fz:=[] }
def ydZ:List (List Nat):=[]
def yOC(n:Nat):Ann:={ keep:=ydZ,fuel:=n,inl:=[il124,il195],deep:=3 }
def y8K(n:Nat)(r0:Q1->List (Q4)->List Nat->Int->Int->Q1->Q3->Q3->Q1->Q3->Q3->Q4->Q1->Q1->Int->Int->Int->Int->Q1->Q3->Q3->Q1->Q3->Q3->Q4->Q1->Q1->Option ((Q4)×Unit))(j8:Q1)(j9:List (Q4))(j10:Int)(j11:Nat)(j12:List Nat)(j13:Int)(j14:Int)(j15:Q1)(j16:Q3)(j17:Q3)(j18:Q1)(j19:Q3)(j20:Q3)(j21:Q4)(j22:Q1)(j23:Q1)(j24:Int)(j25:Int)(j26:Int)(j27:Int)(j28:Q1)(j29:Q3)(j30:Q3)(j31:Q1)(j32:Q3)(j33:Q3)(j34:Q4)(j35:Q1)(j36:Q1):Option ((Q4)×Unit):=
  (bif decide ((↑j9.length:Int) > 0)then (Option.bind (idx j9 (0:Int)) λ v37=>(bif decide (v37.1<=j10)then r0 j8 j9 j12 j13 (IntKind.i64.wrap (j14+1)) j15 j16 j17 j18 j19 j20 j21 j22 j23 j24 j25 j26 j27 j28 j29 j30 j31 j32 j33 j34 j35 j36 else (Option.bind (yo Go.FloatKind.f32 (y09 Go.BinOp.mul Go.FloatKind.f32 j11 (nat_lit 1098907648)) IntKind.i64) λ v42=>(Option.bind (zR_M j19 (IntKind.i64.wrap (j8.2.1+j10))) λ v43=>(Option.bind (zR_M j20 (IntKind.i64.wrap (j8.2.1+j10))) λ v44=>r0 j8 j9 j12 j13 (IntKind.i64.wrap (j14+1)) j15 j16 j17 j18 j19 j20 j21 j22 j23 j24 j25 (z1E (j26,j27,()) (z17 (z03 v43.1).1 v44.1).1).1.1 (z1E (j26,j27,()) (z17 (z03 v43.1).1 v44.1).1).1.2.1 j28 j29 j30 j31 j32 j33 j34 j35 j36)))))else (Option.bind (yo Go.FloatKind.f32 (y09 Go.BinOp.mul Go.FloatKind.f32 j11 (nat_lit 1098907648)) IntKind.i64) λ v45=>(Option.bind (zR_M j19 (IntKind.i64.wrap (j8.2.1+j10))) λ v46=>(Option.bind (zR_M j20 (IntKind.i64.wrap (j8.2.1+j10))) λ v47=>r0 j8 j9 j12 j13 (IntKind.i64.wrap (j14+1)) j15 j16 j17 j18 j19 j20 j21 j22 j23 j24 j25 (z1E (j26,j27,()) (z17 (z03 v46.1).1 v47.1).1).1.1 (z1E (j26,j27,()) (z17 (z03 v46.1).1 v47.1).1).1.2.1 j28 j29 j30 j31 j32 j33 j34 j35 j36))))
def yG4(n:Nat)(r0:Q1->List (Q4)->List Nat->Int->Int->Q1->Q3->Q3->Q1->Q3->Q3->Q4->Q1->Q1->Int->Int->Int->Int->Q1->Q3->Q3->Q1->Q3->Q3->Q4->Q1->Q1->Option ((Q4)×Unit))(r2:Q1->List (Q4)->Int->Nat->List Nat->Int->Int->Q1->Q3->Q3->Q1->Q3->Q3->Q4->Q1->Q1->Int->Int->Int->Int->Q1->Q3->Q3->Q1->Q3->Q3->Q4->Q1->Q1->Option ((Q4)×Unit))(b7:Q1)(ah:List (Q4))(b8:Int)(bg:Nat)(aO:List Nat)(aE:Int)(aF:Int)(aq:Q1)(ar:Q3)(aJ:Q3)(bH:Q1)(bI:Q3)(aI:Q3)(bJ:Q4)(bp:Q1)(aV:Q1)(aK:Int)(aL:Int)(aS:Int)(aT:Int)(ba:Q1)(bc:Q3)(bK:Q3)(ck:Q1)(cm:Q3)(bE:Q3)(cn:Q4)(cd:Q1)(bq:Q1):Option ((Q4)×Unit):=
  (bif decide ((↑ah.length:Int) > 0)then (Option.bind (idx ah (0:Int)) λ v3=>(bif decide (v3.2.1<=b8)then (bif decide ((0:Int)<=1) && decide ((1:Int)<=(↑ah.length:Int))then r2 b7 (List.drop (Int.toNat (1:Int)) ah) b8 bg aO aE aF aq ar aJ bH bI aI bJ bp aV aK aL aS aT ba bc bK ck cm bE cn cd bq else none)else (y8K n r0 (b7) (ah) (b8) (bg) (aO) (aE) (aF) (aq) (ar) (aJ) (bH) (bI) (aI) (bJ) (bp) (aV) (aK) (aL) (aS) (aT) (ba) (bc) (bK) (ck) (cm) (bE) (cn) (cd) (bq))))else (y8K n r0 (b7) (ah) (b8) (bg) (aO) (aE) (aF) (aq) (ar) (aJ) (bH) (bI) (aI) (bJ) (bp) (aV) (aK) (aL) (aS) (aT) (ba) (bc) (bK) (ck) (cm) (bE) (cn) (cd) (bq)))
def y6z(n:Nat)(r0:Q1->List (Q4)->List Nat->Int->Int->Q1->Q3->Q3->Q1->Q3->Q3->Q4->Q1->Q1->Int->Int->Int->Int->Q1->Q3->Q3->Q1->Q3->Q3->Q4->Q1->Q1->Option ((Q4)×Unit))(k:Nat)(b7:Q1)(ah:List (Q4))(b8:Int)(bg:Nat)(aO:List Nat)(aE:Int)(aF:Int)(aq:Q1)(ar:Q3)(aJ:Q3)(bH:Q1)(bI:Q3)(aI:Q3)(bJ:Q4)(bp:Q1)(aV:Q1)(aK:Int)(aL:Int)(aS:Int)(aT:Int)(ba:Q1)(bc:Q3)(bK:Q3)(ck:Q1)(cm:Q3)(bE:Q3)(cn:Q4)(cd:Q1)(bq:Q1):Option ((Q4)×Unit):=
  iter (λ r y=>yG4 n r0 (λ b7 ah b8 bg aO aE aF aq ar aJ bH bI aI bJ bp aV aK aL aS aT ba bc bK ck cm bE cn cd bq=>r ((b7,(ah,(b8,(bg,(aO,(aE,(aF,()))))))),(((aq,(ar,(aJ,(bH,(bI,(aI,(bJ,(bp,((aV,()),()))))))))),((aK,(aL,())),((aS,(aT,())),()))),(ba,(bc,(bK,(ck,(cm,(bE,(cn,(cd,((bq,()),())))))))))))) y.1.1 y.1.2.1 y.1.2.2.1 y.1.2.2.2.1 y.1.2.2.2.2.1 y.1.2.2.2.2.2.1 y.1.2.2.2.2.2.2.1 y.2.1.1.1 y.2.1.1.2.1 y.2.1.1.2.2.1 y.2.1.1.2.2.2.1 y.2.1.1.2.2.2.2.1 y.2.1.1.2.2.2.2.2.1 y.2.1.1.2.2.2.2.2.2.1 y.2.1.1.2.2.2.2.2.2.2.1 y.2.1.1.2.2.2.2.2.2.2.2.1.1 y.2.1.2.1.1 y.2.1.2.1.2.1 y.2.1.2.2.1.1 y.2.1.2.2.1.2.1 y.2.2.1 y.2.2.2.1 y.2.2.2.2.1 y.2.2.2.2.2.1 y.2.2.2.2.2.2.1 y.2.2.2.2.2.2.2.1 y.2.2.2.2.2.2.2.2.1 y.2.2.2.2.2.2.2.2.2.1 y.2.2.2.2.2.2.2.2.2.2.1.1) k ((b7,(ah,(b8,(bg,(aO,(aE,(aF,()))))))),(((aq,(ar,(aJ,(bH,(bI,(aI,(bJ,(bp,((aV,()),()))))))))),((aK,(aL,())),((aS,(aT,())),()))),(ba,(bc,(bK,(ck,(cm,(bE,(cn,(cd,((bq,()),())))))))))))
def yEn(n:Nat)(r0:Q1->List (Q4)->List Nat->Int->Int->Q1->Q3->Q3->Q1->Q3->Q3->Q4->Q1->Q1->Int->Int->Int->Int->Q1->Q3->Q3->Q1->Q3->Q3->Q4->Q1->Q1->Option ((Q4)×Unit))(aA:Q1)(aw:List (Q4))(aj:List Nat)(ak:Int)(aC:Int)(au:Q1)(av:Q3)(aU:Q3)(bS:Q1)(bT:Q3)(aQ:Q3)(bU:Q4)(bw:Q1)(aZ:Q1)(a8:Int)(aa:Int)(aX:Int)(aY:Int)(bi:Q1)(bj:Q3)(bV:Q3)(cx:Q1)(cg:Q3)(bz:Q3)(cy:Q4)(ci:Q1)(bx:Q1):Option ((Q4)×Unit):=
  (bif decide (aC < ak)then (Option.bind (idx aj aC) λ v1=>(y6z n r0 n (aA) (aw) (aC) (v1) (aj) (ak) (aC) (au) (av) (aU) (bS) (bT) (aQ) (bU) (bw) (aZ) (a8) (aa) (aX) (aY) (bi) (bj) (bV) (cx) (cg) (bz) (cy) (ci) (bx)))else some ((aX,aY,()),()))
def y6t(n:Nat)(k:Nat)(aA:Q1)(aw:List (Q4))(aj:List Nat)(ak:Int)(aC:Int)(au:Q1)(av:Q3)(aU:Q3)(bS:Q1)(bT:Q3)(aQ:Q3)(bU:Q4)(bw:Q1)(aZ:Q1)(a8:Int)(aa:Int)(aX:Int)(aY:Int)(bi:Q1)(bj:Q3)(bV:Q3)(cx:Q1)(cg:Q3)(bz:Q3)(cy:Q4)(ci:Q1)(bx:Q1):Option ((Q4)×Unit):=
  iter (λ r y=>yEn n (λ aA aw aj ak aC au av aU bS bT aQ bU bw aZ a8 aa aX aY bi bj bV cx cg bz cy ci bx=>r ((aA,(aw,(aj,(ak,(aC,()))))),(((au,(av,(aU,(bS,(bT,(aQ,(bU,(bw,((aZ,()),()))))))))),((a8,(aa,())),((aX,(aY,())),()))),(bi,(bj,(bV,(cx,(cg,(bz,(cy,(ci,((bx,()),())))))))))))) y.1.1 y.1.2.1 y.1.2.2.1 y.1.2.2.2.1 y.1.2.2.2.2.1 y.2.1.1.1 y.2.1.1.2.1 y.2.1.1.2.2.1 y.2.1.1.2.2.2.1 y.2.1.1.2.2.2.2.1 y.2.1.1.2.2.2.2.2.1 y.2.1.1.2.2.2.2.2.2.1 y.2.1.1.2.2.2.2.2.2.2.1 y.2.1.1.2.2.2.2.2.2.2.2.1.1 y.2.1.2.1.1 y.2.1.2.1.2.1 y.2.1.2.2.1.1 y.2.1.2.2.1.2.1 y.2.2.1 y.2.2.2.1 y.2.2.2.2.1 y.2.2.2.2.2.1 y.2.2.2.2.2.2.1 y.2.2.2.2.2.2.2.1 y.2.2.2.2.2.2.2.2.1 y.2.2.2.2.2.2.2.2.2.1 y.2.2.2.2.2.2.2.2.2.2.1.1) k ((aA,(aw,(aj,(ak,(aC,()))))),(((au,(av,(aU,(bS,(bT,(aQ,(bU,(bw,((aZ,()),()))))))))),((a8,(aa,())),((aX,(aY,())),()))),(bi,(bj,(bV,(cx,(cg,(bz,(cy,(ci,((bx,()),())))))))))))
def yLq(n:Nat)(r1:Q1)(a:Q3)(b:Q3):Option ((Q4)×Unit):=
  (y6t n n (r1) (r1.2.2.2.1) (r1.2.2.1) ((↑r1.2.2.1.length:Int)) ((0:Int)) (r1) (a) (b) (r1) (a) (b) (((0:Int),(0:Int),())) (r1) (r1) ((0:Int)) ((0:Int)) ((0:Int)) ((0:Int)) (r1) (a) (b) (r1) (a) (b) (((0:Int),(0:Int),())) (r1) (r1))
theorem yXL(n:Nat)(x:yQt.den):runF yUL (yOC n) Tryz.f148 yQt yaK x=yLq n x.1 x.2.1 x.2.2.1:=by kernel_rfl
def yAS(j8:Q1)(j9:List (Q4))(j10:Int)(j11:Nat)(j12:List Nat)(j13:Int)(j14:Int)(j15:Q1)(j16:Q3)(j17:Q3)(j18:Q1)(j19:Q3)(j20:Q3)(j21:Q4)(j22:Q1)(j23:Q1)(j24:Int)(j25:Int)(j26:Int)(j27:Int)(j28:Q1)(j29:Q3)(j30:Q3)(j31:Q1)(j32:Q3)(j33:Q3)(j34:Q4)(j35:Q1)(j36:Q1):Option (((Q4)×Unit)⊕((List (Q4))×Int×Int)):=
  (bif decide ((↑j9.length:Int) > 0)then (Option.bind (idx j9 (0:Int)) λ v37=>(bif decide (v37.1<=j10)then (some (Sum.inr ((j9),(j26),(j27))))else (Option.bind (yo Go.FloatKind.f32 (y09 Go.BinOp.mul Go.FloatKind.f32 j11 (nat_lit 1098907648)) IntKind.i64) λ v42=>(Option.bind (zR_M j19 (IntKind.i64.wrap (j8.2.1+j10))) λ v43=>(Option.bind (zR_M j20 (IntKind.i64.wrap (j8.2.1+j10))) λ v44=>(some (Sum.inr ((j9),((z1E (j26,j27,()) (z17 (z03 v43.1).1 v44.1).1).1.1),((z1E (j26,j27,()) (z17 (z03 v43.1).1 v44.1).1).1.2.1)))))))))else (Option.bind (yo Go.FloatKind.f32 (y09 Go.BinOp.mul Go.FloatKind.f32 j11 (nat_lit 1098907648)) IntKind.i64) λ v45=>(Option.bind (zR_M j19 (IntKind.i64.wrap (j8.2.1+j10))) λ v46=>(Option.bind (zR_M j20 (IntKind.i64.wrap (j8.2.1+j10))) λ v47=>(some (Sum.inr ((j9),((z1E (j26,j27,()) (z17 (z03 v46.1).1 v47.1).1).1.1),((z1E (j26,j27,()) (z17 (z03 v46.1).1 v47.1).1).1.2.1))))))))
theorem y2i(n:Nat)(hn:big<=n)(r0:Q1->List (Q4)->List Nat->Int->Int->Q1->Q3->Q3->Q1->Q3->Q3->Q4->Q1->Q1->Int->Int->Int->Int->Q1->Q3->Q3->Q1->Q3->Q3->Q4->Q1->Q1->Option ((Q4)×Unit))(j8:Q1)(j9:List (Q4))(j10:Int)(j11:Nat)(j12:List Nat)(j13:Int)(j14:Int)(j15:Q1)(j16:Q3)(j17:Q3)(j18:Q1)(j19:Q3)(j20:Q3)(j21:Q4)(j22:Q1)(j23:Q1)(j24:Int)(j25:Int)(j26:Int)(j27:Int)(j28:Q1)(j29:Q3)(j30:Q3)(j31:Q1)(j32:Q3)(j33:Q3)(j34:Q4)(j35:Q1)(j36:Q1):LeF (elim some λ (a7:((List (Q4))×Int×Int))=>r0 j8 a7.1 j12 j13 (IntKind.i64.wrap (j14+1)) j15 j16 j17 j18 j19 j20 j21 j22 j23 j24 j25 a7.2.1 a7.2.2 j28 j29 j30 j31 j32 j33 j34 j35 j36) (yAS j8 j9 j10 j11 j12 j13 j14 j15 j16 j17 j18 j19 j20 j21 j22 j23 j24 j25 j26 j27 j28 j29 j30 j31 j32 j33 j34 j35 j36) (y8K n r0 j8 j9 j10 j11 j12 j13 j14 j15 j16 j17 j18 j19 j20 j21 j22 j23 j24 j25 j26 j27 j28 j29 j30 j31 j32 j33 j34 j35 j36):=
  (y5 (y8 λ v37=>(y5 (y6 rfl) (y8 λ v42=>(y8 λ v43=>(y8 λ v44=>(y6 rfl)))))) (y8 λ v45=>(y8 λ v46=>(y8 λ v47=>(y6 rfl)))))
def yKj(b7:Q1)(b8:Int)(bg:Nat)(aO:List Nat)(aE:Int)(aF:Int)(aq:Q1)(ar:Q3)(aJ:Q3)(bH:Q1)(bI:Q3)(aI:Q3)(bJ:Q4)(bp:Q1)(aV:Q1)(aK:Int)(aL:Int)(aS:Int)(aT:Int)(ba:Q1)(bc:Q3)(bK:Q3)(ck:Q1)(cm:Q3)(bE:Q3)(cn:Q4)(cd:Q1)(bq:Q1)(ah:List (Q4)):Option ((((Q4)×Unit)⊕((List (Q4))×Int×Int))⊕(List (Q4))):=
  (bif decide ((↑ah.length:Int) > 0)then (Option.bind (idx ah (0:Int)) λ v3=>(bif decide (v3.2.1<=b8)then (bif decide ((0:Int)<=1) && decide ((1:Int)<=(↑ah.length:Int))then (some (Sum.inr (List.drop (Int.toNat (1:Int)) ah)))else none)else (Option.map Sum.inl (yAS (b7) (ah) (b8) (bg) (aO) (aE) (aF) (aq) (ar) (aJ) (bH) (bI) (aI) (bJ) (bp) (aV) (aK) (aL) (aS) (aT) (ba) (bc) (bK) (ck) (cm) (bE) (cn) (cd) (bq)))))else (Option.map Sum.inl (yAS (b7) (ah) (b8) (bg) (aO) (aE) (aF) (aq) (ar) (aJ) (bH) (bI) (aI) (bJ) (bp) (aV) (aK) (aL) (aS) (aT) (ba) (bc) (bK) (ck) (cm) (bE) (cn) (cd) (bq))))
theorem yDO(n:Nat)(hn:big<=n)(r0:Q1->List (Q4)->List Nat->Int->Int->Q1->Q3->Q3->Q1->Q3->Q3->Q4->Q1->Q1->Int->Int->Int->Int->Q1->Q3->Q3->Q1->Q3->Q3->Q4->Q1->Q1->Option ((Q4)×Unit))(b7:Q1)(b8:Int)(bg:Nat)(aO:List Nat)(aE:Int)(aF:Int)(aq:Q1)(ar:Q3)(aJ:Q3)(bH:Q1)(bI:Q3)(aI:Q3)(bJ:Q4)(bp:Q1)(aV:Q1)(aK:Int)(aL:Int)(aS:Int)(aT:Int)(ba:Q1)(bc:Q3)(bK:Q3)(ck:Q1)(cm:Q3)(bE:Q3)(cn:Q4)(cd:Q1)(bq:Q1)(ah:List (Q4)):LeF (elim some λ (a7:((List (Q4))×Int×Int))=>r0 b7 a7.1 aO aE (IntKind.i64.wrap (aF+1)) aq ar aJ bH bI aI bJ bp aV aK aL a7.2.1 a7.2.2 ba bc bK ck cm bE cn cd bq) (y2Q (λ a7=>yKj b7 b8 bg aO aE aF aq ar aJ bH bI aI bJ bp aV aK aL aS aT ba bc bK ck cm bE cn cd bq a7) wMax ah) (y6z n r0 n b7 ah b8 bg aO aE aF aq ar aJ bH bI aI bJ bp aV aK aL aS aT ba bc bK ck cm bE cn cd bq):=by
  refine y4J (f:=(elim some λ (a7:((List (Q4))×Int×Int))=>r0 b7 a7.1 aO aE (IntKind.i64.wrap (aF+1)) aq ar aJ bH bI aI bJ bp aV aK aL a7.2.1 a7.2.2 ba bc bK ck cm bE cn cd bq)) (W:=λ aM a7=>y6z n r0 aM b7 a7 b8 bg aO aE aF aq ar aJ bH bI aI bJ bp aV aK aL aS aT ba bc bK ck cm bE cn cd bq) (body:=(λ a7=>yKj b7 b8 bg aO aE aF aq ar aJ bH bI aI bJ bp aV aK aL aS aT ba bc bK ck cm bE cn cd bq a7)) (λ aM a7=>?_) wMax n ah (by unfold big at hn;unfold wMax;omega)
  show LeF _ _ (yG4 n r0 (y6z n r0 aM) b7 a7 b8 bg aO aE aF aq ar aJ bH bI aI bJ bp aV aK aL aS aT ba bc bK ck cm bE cn cd bq)
  exact (y5 (y8 λ v3=>(y5 (y5 (y6 rfl) yy) (yp (by apply y2i n hn)))) (yp (by apply y2i n hn)))
def yG0(aA:Q1)(aj:List Nat)(au:Q1)(av:Q3)(aU:Q3)(bS:Q1)(bT:Q3)(aQ:Q3)(bU:Q4)(bw:Q1)(aZ:Q1)(a8:Int)(aa:Int)(bi:Q1)(bj:Q3)(bV:Q3)(cx:Q1)(cg:Q3)(bz:Q3)(cy:Q4)(ci:Q1)(bx:Q1)(aC:Int)(v1:Nat)(aw:List (Q4))(aX:Int)(aY:Int):Option (((Q4)×Unit)⊕((List (Q4))×Int×Int)):=
  (y2Q (λ a7=>yKj (aA) (aC) (v1) (aj) ((↑aj.length:Int)) (aC) (au) (av) (aU) (bS) (bT) (aQ) (bU) (bw) (aZ) (a8) (aa) (aX) (aY) (bi) (bj) (bV) (cx) (cg) (bz) (cy) (ci) (bx) a7) wMax (aw))
def yKM(aA:Q1)(aj:List Nat)(au:Q1)(av:Q3)(aU:Q3)(bS:Q1)(bT:Q3)(aQ:Q3)(bU:Q4)(bw:Q1)(aZ:Q1)(a8:Int)(aa:Int)(bi:Q1)(bj:Q3)(bV:Q3)(cx:Q1)(cg:Q3)(bz:Q3)(cy:Q4)(ci:Q1)(bx:Q1)(aw:List (Q4))(aX:Int)(aY:Int):Option ((Q4)×Unit):=
  (some (((aX,aY,()),())))
theorem yDY(n:Nat)(hn:big<=n)(aA:Q1)(aj:List Nat)(au:Q1)(av:Q3)(aU:Q3)(bS:Q1)(bT:Q3)(aQ:Q3)(bU:Q4)(bw:Q1)(aZ:Q1)(a8:Int)(aa:Int)(bi:Q1)(bj:Q3)(bV:Q3)(cx:Q1)(cg:Q3)(bz:Q3)(cy:Q4)(ci:Q1)(bx:Q1)(aw:List (Q4))(aX:Int)(aY:Int)(hx:List.length (aj) < lenMax):LeF some (yP (λ af aG a7=>yG0 aA aj au av aU bS bT aQ bU bw aZ a8 aa bi bj bV cx cg bz cy ci bx af aG a7.1 a7.2.1 a7.2.2) (λ a7=>yKM aA aj au av aU bS bT aQ bU bw aZ a8 aa bi bj bV cx cg bz cy ci bx a7.1 a7.2.1 a7.2.2) 0 (aj) (aw,aX,aY)) (y6t n n aA aw aj (List.length (aj):Int) 0 au av aU bS bT aQ bU bw aZ a8 aa aX aY bi bj bV cx cg bz cy ci bx):=by
  refine yS (f:=some) (W:=λ aM af a7=>y6t n aM aA a7.1 aj (List.length (aj):Int) af au av aU bS bT aQ bU bw aZ a8 aa a7.2.1 a7.2.2 bi bj bV cx cg bz cy ci bx) (body:=(λ af aG a7=>yG0 aA aj au av aU bS bT aQ bU bw aZ a8 aa bi bj bV cx cg bz cy ci bx af aG a7.1 a7.2.1 a7.2.2)) (fin:=(λ a7=>yKM aA aj au av aU bS bT aQ bU bw aZ a8 aa bi bj bV cx cg bz cy ci bx a7.1 a7.2.1 a7.2.2)) (λ aM af a7=>?_) hx (aw,aX,aY) n (by unfold big at hn;unfold lenMax at hx;omega)
  show LeF _ _ (yEn n (y6t n aM) aA a7.1 aj (List.length (aj):Int) af au av aU bS bT aQ bU bw aZ a8 aa a7.2.1 a7.2.2 bi bj bV cx cg bz cy ci bx)
  exact y5 (y8 λ v1=>(by apply yDO n hn)) (yp (y6 rfl))
def y8d(r1:Q1)(a:Q3)(b:Q3):Option ((Q4)×Unit):=
  (bif decide (List.length (r1.2.2.1) < lenMax)then yP (λ af aG a7=>yG0 (r1) (r1.2.2.1) (r1) (a) (b) (r1) (a) (b) (((0:Int),(0:Int),())) (r1) (r1) ((0:Int)) ((0:Int)) (r1) (a) (b) (r1) (a) (b) (((0:Int),(0:Int),())) (r1) (r1) af aG a7.1 a7.2.1 a7.2.2) (λ a7=>yKM (r1) (r1.2.2.1) (r1) (a) (b) (r1) (a) (b) (((0:Int),(0:Int),())) (r1) (r1) ((0:Int)) ((0:Int)) (r1) (a) (b) (r1) (a) (b) (((0:Int),(0:Int),())) (r1) (r1) a7.1 a7.2.1 a7.2.2) 0 (r1.2.2.1) ((r1.2.2.2.1),((0:Int)),((0:Int)))else none)
theorem ySM(r1:Q1)(a:Q3)(b:Q3)(y:(Q4)×Unit)(h:y8d r1 a b=some y):∃ n,yLq n r1 a b=some y:=
  ⟨big,LeF.top (show LeF some (y8d r1 a b) (yLq big r1 a b)from (λ (n:Nat) (hn:big<=n)=>show LeF some (y8d r1 a b) (yLq n r1 a b)from (yM λ hx=>by apply yDY n hn;exact hx)) big (Nat.le_refl _)) h⟩
def z12_e:Entry:={ f:=148,args:=yQt,ress:=yaK,m:=λ x=>y8d x.1 x.2.1 x.2.2.1 }
theorem yK1:FnOK Tryz.prog z12_e:=yL (g:=yUL) (fn:=Tryz.f148) yC yK (yA yR7 (yA yIy (yA yFU (yA yEl eNil)))) (by kernel_rfl) (by kernel_rfl) (by kernel_rfl) (λ x y h=>let ⟨n,hn⟩:=ySM x.1 x.2.1 x.2.2.1 y h;⟨yOC n,(y58 y5A (y58 y4s iNil)),(yXL n x).trans hn⟩)
abbrev yDR:Ty:=.pair t96 .unit
abbrev yHS:Ty:=.pair t57 .unit
class ref02_det_Rec where
  f:yDR.den->Option yHS.den
section
variable [ref02_det_Rec]
def yBt:Entry:={ f:=150,args:=yDR,ress:=yHS,m:=λ x=>ref02_det_Rec.f x }
def yZ7:G:={ T:=T,E:=[yBt,z0V_e,z0s_e],muts:=[5,25],fz:=[40] }
def ybz:List (List Nat):=[[0,2,3,4],[0,2,3,4,5,6]]
def yPa(n:Nat):Ann:={ keep:=ybz,fuel:=n,inl:=[],deep:=0 }
def yGO(n:Nat)(r0:List (List (Q4))->Int->Int->Int->Int->Int->Option ((Q4)×Unit))(r1:List (List (Q4))->Int->Int->Int->Int->Int->Int->List (List (Q4))->Option ((Q4)×Unit))(cc:List (List (Q4)))(bA:Int)(cG:Int)(bC:Int)(bD:Int)(bm:Int)(bn:Int)(cz:List (List (Q4))):Option ((Q4)×Unit):=
  (bif decide (cG < (↑cc.length:Int))then (Option.bind (idx cc cG) λ v2=>(bif decide ((0:Int)<=bA) && decide (bA<=(↑v2.length:Int))then (bif decide ((0:Nat)+(List.take bA.toNat v2).length<=memMax)then (Option.bind (idx cc cG) λ v3=>(bif decide ((0:Int)<=IntKind.i64.wrap (bA+1)) && decide (IntKind.i64.wrap (bA+1)<=(↑v3.length:Int))then (bif decide ((List.take bA.toNat v2).length+(List.drop (IntKind.i64.wrap (bA+1)).toNat v3).length<=memMax)then (bif decide (cz.length+(1:Nat)<=memMax)then r1 cc bA (IntKind.i64.wrap (cG+1)) bC bD bm bn (cz++[List.take bA.toNat v2++List.drop (IntKind.i64.wrap (bA+1)).toNat v3])else none)else none)else none))else none)else none))else (Option.bind (idx cc (0:Int)) λ v4=>(Option.bind (idx v4 bA) λ v5=>(Option.bind (ref02_det_Rec.f (cz,())) λ v6=>(bif bA.tmod (2:Int)==1 then r0 cc (IntKind.i64.wrap (bA+1)) bC bD (z0s (bm,bn,()) (IntKind.i64.wrap ((0:Int) - (z0V v5 v6.1).1.1),IntKind.i64.wrap ((0:Int) - (z0V v5 v6.1).1.2.1),())).1.1 (z0s (bm,bn,()) (IntKind.i64.wrap ((0:Int) - (z0V v5 v6.1).1.1),IntKind.i64.wrap ((0:Int) - (z0V v5 v6.1).1.2.1),())).1.2.1 else r0 cc (IntKind.i64.wrap (bA+1)) bC bD (z0s (bm,bn,()) ((z0V v5 v6.1).1.1,(z0V v5 v6.1).1.2.1,())).1.1 (z0s (bm,bn,()) ((z0V v5 v6.1).1.1,(z0V v5 v6.1).1.2.1,())).1.2.1)))))
def y6f(n:Nat)(r0:List (List (Q4))->Int->Int->Int->Int->Int->Option ((Q4)×Unit))(k:Nat)(cc:List (List (Q4)))(bA:Int)(cG:Int)(bC:Int)(bD:Int)(bm:Int)(bn:Int)(cz:List (List (Q4))):Option ((Q4)×Unit):=
  iter (λ r y=>yGO n r0 (λ cc bA cG bC bD bm bn cz=>r ((cc,(bA,(cG,()))),(((bC,(bD,())),((bm,(bn,())),(cz,()))),()))) y.1.1 y.1.2.1 y.1.2.2.1 y.2.1.1.1 y.2.1.1.2.1 y.2.1.2.1.1 y.2.1.2.1.2.1 y.2.1.2.2.1) k ((cc,(bA,(cG,()))),(((bC,(bD,())),((bm,(bn,())),(cz,()))),()))
def yEr(n:Nat)(r0:List (List (Q4))->Int->Int->Int->Int->Int->Option ((Q4)×Unit))(aR:List (List (Q4)))(cg:Int)(al:Int)(am:Int)(a8:Int)(aa:Int):Option ((Q4)×Unit):=
  (bif decide (cg < (↑aR.length:Int))then (y6f n r0 n (aR) (cg) ((1:Int)) (al) (am) (a8) (aa) ([]))else some ((a8,aa,()),()))
def y6v(n:Nat)(k:Nat)(aR:List (List (Q4)))(cg:Int)(al:Int)(am:Int)(a8:Int)(aa:Int):Option ((Q4)×Unit):=
  iter (λ r y=>yEr n (λ aR cg al am a8 aa=>r ((aR,(cg,())),(((al,(am,())),((a8,(aa,())),())),()))) y.1.1 y.1.2.1 y.2.1.1.1 y.2.1.1.2.1 y.2.1.2.1.1 y.2.1.2.1.2.1) k ((aR,(cg,())),(((al,(am,())),((a8,(aa,())),())),()))
def yMp(n:Nat)(m:List (List (Q4))):Option ((Q4)×Unit):=
  (bif (↑m.length:Int)==0 then some (((1:Int),(0:Int),()),())else (y6v n n (m) ((0:Int)) ((0:Int)) ((0:Int)) ((0:Int)) ((0:Int))))
theorem yaH(n:Nat)(x:yDR.den):runF yZ7 (yPa n) Tryz.f150 yDR yHS x=yMp n x.1:=by kernel_rfl
def yEs(cc:List (List (Q4)))(bA:Int)(bC:Int)(bD:Int)(bm:Int)(bn:Int)(cG:Int)(cz:List (List (Q4))):Option ((((Q4)×Unit)⊕(Int×Int))⊕(List (List (Q4)))):=
  (Option.bind (idx cc cG) λ v2=>(bif decide ((0:Int)<=bA) && decide (bA<=(↑v2.length:Int))then (bif decide ((0:Nat)+(List.take bA.toNat v2).length<=memMax)then (Option.bind (idx cc cG) λ v3=>(bif decide ((0:Int)<=IntKind.i64.wrap (bA+1)) && decide (IntKind.i64.wrap (bA+1)<=(↑v3.length:Int))then (bif decide ((List.take bA.toNat v2).length+(List.drop (IntKind.i64.wrap (bA+1)).toNat v3).length<=memMax)then (bif decide (cz.length+(1:Nat)<=memMax)then (some (Sum.inr (cz++[List.take bA.toNat v2++List.drop (IntKind.i64.wrap (bA+1)).toNat v3])))else none)else none)else none))else none)else none))
def yG9(cc:List (List (Q4)))(bA:Int)(bC:Int)(bD:Int)(bm:Int)(bn:Int)(cz:List (List (Q4))):Option (((Q4)×Unit)⊕(Int×Int)):=
  (Option.bind (idx cc (0:Int)) λ v4=>(Option.bind (idx v4 bA) λ v5=>(Option.bind (ref02_det_Rec.f (cz,())) λ v6=>(bif bA.tmod (2:Int)==1 then (some (Sum.inr (((z0s (bm,bn,()) (IntKind.i64.wrap ((0:Int) - (z0V v5 v6.1).1.1),IntKind.i64.wrap ((0:Int) - (z0V v5 v6.1).1.2.1),())).1.1),((z0s (bm,bn,()) (IntKind.i64.wrap ((0:Int) - (z0V v5 v6.1).1.1),IntKind.i64.wrap ((0:Int) - (z0V v5 v6.1).1.2.1),())).1.2.1))))else (some (Sum.inr (((z0s (bm,bn,()) ((z0V v5 v6.1).1.1,(z0V v5 v6.1).1.2.1,())).1.1),((z0s (bm,bn,()) ((z0V v5 v6.1).1.1,(z0V v5 v6.1).1.2.1,())).1.2.1))))))))
theorem yEe(n:Nat)(hn:big<=n)(r0:List (List (Q4))->Int->Int->Int->Int->Int->Option ((Q4)×Unit))(cc:List (List (Q4)))(bA:Int)(bC:Int)(bD:Int)(bm:Int)(bn:Int)(cz:List (List (Q4)))(hx:((↑cc.length:Int))<=9223372036854775807):LeF (elim some λ (a7:(Int×Int))=>r0 cc (IntKind.i64.wrap (bA+1)) bC bD a7.1 a7.2) (y06 (λ af a7=>yEs cc bA bC bD bm bn af a7) (λ a7=>yG9 cc bA bC bD bm bn a7) (((↑cc.length:Int)) - 1).toNat 1 cz) (y6f n r0 n cc bA 1 bC bD bm bn cz):=by
  refine y0K (f:=(elim some λ (a7:(Int×Int))=>r0 cc (IntKind.i64.wrap (bA+1)) bC bD a7.1 a7.2)) (W:=λ aM af a7=>y6f n r0 aM cc bA af bC bD bm bn a7) (body:=(λ af a7=>yEs cc bA bC bD bm bn af a7)) (fin:=(λ a7=>yG9 cc bA bC bD bm bn a7)) (λ aM af a7=>?_) hx cz n 1 (by decide) (by unfold big at hn;omega)
  show LeF _ _ (yGO n r0 (y6f n r0 aM) cc bA af bC bD bm bn a7)
  exact y5 (y8 λ v2=>(y5 (y5 (y8 λ v3=>(y5 (y5 (y5 (y6 rfl) yy) yy) yy)) yy) yy)) (yp (y8 λ v4=>(y8 λ v5=>(y8 λ v6=>(y5 (y6 rfl) (y6 rfl))))))
def y97(aR:List (List (Q4)))(al:Int)(am:Int)(cg:Int)(a8:Int)(aa:Int):Option (((Q4)×Unit)⊕(Int×Int)):=
  (bif decide (((↑aR.length:Int))<=9223372036854775807)then y06 (λ af a7=>yEs (aR) (cg) (al) (am) (a8) (aa) af a7) (λ a7=>yG9 (aR) (cg) (al) (am) (a8) (aa) a7) (((↑aR.length:Int)) - 1).toNat 1 ([])else none)
def yFb(aR:List (List (Q4)))(al:Int)(am:Int)(a8:Int)(aa:Int):Option ((Q4)×Unit):=
  (some (((a8,aa,()),())))
theorem yDa(n:Nat)(hn:big<=n)(aR:List (List (Q4)))(al:Int)(am:Int)(a8:Int)(aa:Int)(hx:((↑aR.length:Int))<=9223372036854775807):LeF some (y06 (λ af a7=>y97 aR al am af a7.1 a7.2) (λ a7=>yFb aR al am a7.1 a7.2) (((↑aR.length:Int)) - 0).toNat 0 (a8,aa)) (y6v n n aR 0 al am a8 aa):=by
  refine y0K (f:=some) (W:=λ aM af a7=>y6v n aM aR af al am a7.1 a7.2) (body:=(λ af a7=>y97 aR al am af a7.1 a7.2)) (fin:=(λ a7=>yFb aR al am a7.1 a7.2)) (λ aM af a7=>?_) hx (a8,aa) n 0 (by decide) (by unfold big at hn;omega)
  show LeF _ _ (yEr n (y6v n aM) aR af al am a7.1 a7.2)
  exact y5 (yM λ hx=>by apply yEe n hn;exact hx) (yp (y6 rfl))
def yGk(m:List (List (Q4))):Option ((Q4)×Unit):=
  (bif (↑m.length:Int)==0 then (some ((((1:Int),(0:Int),()),())))else (bif decide (((↑m.length:Int))<=9223372036854775807)then y06 (λ af a7=>y97 (m) ((0:Int)) ((0:Int)) af a7.1 a7.2) (λ a7=>yFb (m) ((0:Int)) ((0:Int)) a7.1 a7.2) (((↑m.length:Int)) - 0).toNat 0 (((0:Int)),((0:Int)))else none))
theorem yR3(m:List (List (Q4)))(y:(Q4)×Unit)(h:yGk m=some y):∃ n,yMp n m=some y:=
  ⟨big,LeF.top (show LeF some (yGk m) (yMp big m)from (λ (n:Nat) (hn:big<=n)=>show LeF some (yGk m) (yMp n m)from (y5 (y6 rfl) (yM λ hx=>by apply yDa n hn;exact hx))) big (Nat.le_refl _)) h⟩
end
def y0D(d:Nat):yDR.den->Option yHS.den:=Nat.rec (motive:=λ _=>yDR.den->Option yHS.den) (λ _=>none) (λ _ ih x=>@yGk ⟨ih⟩ x.1) d
def y3h(d:Nat):Entry:={ f:=150,args:=yDR,ress:=yHS,m:=y0D d }
theorem y52:(d:Nat)->FnOK Tryz.prog (y3h d)
  |0=>FnOK.none (fn:=Tryz.f150) (by kernel_rfl) (by kernel_rfl) (by kernel_rfl)
  |d+1=>yL (g:=@yZ7 ⟨y0D d⟩) (fn:=Tryz.f150) (e:=y3h (d+1)) yC yK (yA (y52 d) (yA yPb (yA yOg eNil))) (by kernel_rfl) (by kernel_rfl) (by kernel_rfl) (λ x y h=>let ⟨n,hn⟩:=@yR3 ⟨y0D d⟩ x.1 y h;⟨yPa n,iNil,(@yaH ⟨y0D d⟩ n x).trans hn⟩)
def z1A_e:Entry:=y3h 8
theorem yWq:FnOK Tryz.prog z1A_e:=y52 8
abbrev zw_a:Ty:=.pair t94 (.pair t3 .unit)
abbrev zw_r:Ty:=.pair t4 .unit
def zw_g:G:={ T:=T,E:=[z19_e],muts:=[],fz:=[] }
def zw_k:List (List Nat):=[]
def yWU(n:Nat):Ann:={ keep:=zw_k,fuel:=n,inl:=[],deep:=0 }
def zw_m(n:Nat)(r1:Q1)(i:Int):Option (Bool×Unit):=
  (bif decide (i >= 0)then (bif decide (i < (↑r1.2.2.1.length:Int))then (Option.bind (yAD r1.2.2.2.1 i) λ v0=>some (!v0.1,()))else some (Bool.false,()))else some (Bool.false,()))
theorem yb5(n:Nat)(x:zw_a.den):runF zw_g (yWU n) Tryz.f155 zw_a zw_r x=zw_m n x.1 x.2.1:=by kernel_rfl
def zw_M(r1:Q1)(i:Int):Option (Bool×Unit):=zw_m 0 r1 i
theorem yUY(r1:Q1)(i:Int)(y:Bool×Unit)(h:zw_M r1 i=some y):∃ n,zw_m n r1 i=some y:=⟨0,h⟩
def zw_e:Entry:={ f:=155,args:=zw_a,ress:=zw_r,m:=λ x=>zw_M x.1 x.2.1 }
theorem ycf:FnOK Tryz.prog zw_e:=yL (g:=zw_g) (fn:=Tryz.f155) yC yK (yA yOY eNil) (by kernel_rfl) (by kernel_rfl) (by kernel_rfl) (λ x y h=>let ⟨n,hn⟩:=yUY x.1 x.2.1 y h;⟨yWU n,iNil,(yb5 n x).trans hn⟩)
abbrev zf_a:Ty:=.pair t58 .unit
abbrev zf_r:Ty:=.pair t3 .unit
def zf_g:G:={ T:=T,E:=[zo_e],muts:=[],fz:=[] }
def zf_k:List (List Nat):=[[0,3]]
def yYn(n:Nat):Ann:={ keep:=zf_k,fuel:=n,inl:=[],deep:=0 }
def yJO(n:Nat)(r0:List (Q4)->Int->Option (Int×Unit))(az:List (Q4))(bO:Int):Option (Int×Unit):=
  (bif decide (bO < (↑az.length:Int))then (Option.bind (idx az bO) λ v1=>(bif (zo v1).1 != 0 then some ((14:Int),())else (bif decide (bO > 0)then (Option.bind (idx az bO) λ v2=>(Option.bind (idx az (IntKind.i64.wrap (bO - (1:Int)))) λ v3=>(bif decide (v2.1<=v3.2.1)then some ((11:Int),())else r0 az (IntKind.i64.wrap (bO+1)))))else r0 az (IntKind.i64.wrap (bO+1)))))else some ((0:Int),()))
def yBD(n:Nat)(k:Nat)(az:List (Q4))(bO:Int):Option (Int×Unit):=
  iter (λ r y=>yJO n (λ az bO=>r ((az,(bO,())),((),()))) y.1.1 y.1.2.1) k ((az,(bO,())),((),()))
def zf_m(n:Nat)(l:List (Q4)):Option (Int×Unit):=
  (bif decide ((↑l.length:Int) > 2048)then some ((5:Int),())else (yBD n n (l) ((0:Int))))
theorem ybs(n:Nat)(x:zf_a.den):runF zf_g (yYn n) Tryz.f158 zf_a zf_r x=zf_m n x.1:=by kernel_rfl
def yJa(az:List (Q4))(bO:Int)(v1:Q4):Option ((Int×Unit)⊕Unit):=
  (bif (zo v1).1 != 0 then (some (Sum.inl (((14:Int),()))))else (bif decide (bO > 0)then (Option.bind (idx az bO) λ v2=>(Option.bind (idx az (IntKind.i64.wrap (bO - (1:Int)))) λ v3=>(bif decide (v2.1<=v3.2.1)then (some (Sum.inl (((11:Int),()))))else (some (Sum.inr ())))))else (some (Sum.inr ()))))
def yMi(az:List (Q4)):Option (Int×Unit):=
  (some (((0:Int),())))
theorem yHb(n:Nat)(hn:big<=n)(az:List (Q4))(hx:List.length (az) < lenMax):LeF some (yP (λ af aG a7=>yJa az af aG) (λ a7=>yMi az) 0 (az) ()) (yBD n n az 0):=by
  refine yS (f:=some) (W:=λ aM af a7=>yBD n aM az af) (body:=(λ af aG a7=>yJa az af aG)) (fin:=(λ a7=>yMi az)) (λ aM af a7=>?_) hx () n (by unfold big at hn;unfold lenMax at hx;omega)
  show LeF _ _ (yJO n (yBD n aM) az af)
  exact y5 (y8 λ v1=>(y5 (y6 rfl) (y5 (y8 λ v2=>(y8 λ v3=>(y5 (y6 rfl) (y6 rfl)))) (y6 rfl)))) (yp (y6 rfl))
def zf_M(l:List (Q4)):Option (Int×Unit):=
  (bif decide ((↑l.length:Int) > 2048)then (some (((5:Int),())))else (bif decide (List.length (l) < lenMax)then yP (λ af aG a7=>yJa (l) af aG) (λ a7=>yMi (l)) 0 (l) ()else none))
theorem yW7(l:List (Q4))(y:Int×Unit)(h:zf_M l=some y):∃ n,zf_m n l=some y:=
  ⟨big,LeF.top (show LeF some (zf_M l) (zf_m big l)from (λ (n:Nat) (hn:big<=n)=>show LeF some (zf_M l) (zf_m n l)from (y5 (y6 rfl) (yM λ hx=>by apply yHb n hn;exact hx))) big (Nat.le_refl _)) h⟩
def zf_e:Entry:={ f:=158,args:=zf_a,ress:=zf_r,m:=λ x=>zf_M x.1 }
theorem ydv:FnOK Tryz.prog zf_e:=yL (g:=zf_g) (fn:=Tryz.f158) yC yK (yA ybv eNil) (by kernel_rfl) (by kernel_rfl) (by kernel_rfl) (λ x y h=>let ⟨n,hn⟩:=yW7 x.1 y h;⟨yYn n,iNil,(ybs n x).trans hn⟩)
abbrev yPv:Ty:=.pair t31 (.pair t23 (.pair t3 .unit))
abbrev yb1:Ty:=.pair t57 .unit
def yZP:G:={ T:=T,E:=[zR_e,z17_e,z1E_e],muts:=[],fz:=[] }
def yd3:List (List Nat):=[[1,2,6,7,11,12,13]]
def yOB(n:Nat):Ann:={ keep:=yd3,fuel:=n,inl:=[],deep:=0 }
def yFL(n:Nat)(r0:List (Q4)->Int->List (Q3)->Int->Int->Int->Int->Int->Int->Option ((Q4)×Unit))(cr:List (Q4))(bu:Int)(aC:List (Q3))(cH:Int)(cf:Int)(al:Int)(am:Int)(a8:Int)(aa:Int):Option ((Q4)×Unit):=
  (bif decide (cf < cH)then (Option.bind (idx aC cf) λ v1=>(Option.bind (idx cr cf) λ v2=>(Option.bind (zR_M (v1.1,v1.2.1,v1.2.2.1,()) bu) λ v3=>r0 cr bu aC cH (IntKind.i64.wrap (cf+1)) al am (z1E (a8,aa,()) (z17 v2 v3.1).1).1.1 (z1E (a8,aa,()) (z17 v2 v3.1).1).1.2.1)))else some ((a8,aa,()),()))
def y7E(n:Nat)(k:Nat)(cr:List (Q4))(bu:Int)(aC:List (Q3))(cH:Int)(cf:Int)(al:Int)(am:Int)(a8:Int)(aa:Int):Option ((Q4)×Unit):=
  iter (λ r y=>yFL n (λ cr bu aC cH cf al am a8 aa=>r ((cr,(bu,(aC,(cH,(cf,()))))),(((al,(am,())),((a8,(aa,())),())),()))) y.1.1 y.1.2.1 y.1.2.2.1 y.1.2.2.2.1 y.1.2.2.2.2.1 y.2.1.1.1 y.2.1.1.2.1 y.2.1.2.1.1 y.2.1.2.1.2.1) k ((cr,(bu,(aC,(cH,(cf,()))))),(((al,(am,())),((a8,(aa,())),())),()))
def yMx(n:Nat)(l:List (Q3))(v:List (Q4))(tick:Int):Option ((Q4)×Unit):=
  (y7E n n (v) (tick) (l) ((↑l.length:Int)) ((0:Int)) ((0:Int)) ((0:Int)) ((0:Int)) ((0:Int)))
theorem yWi(n:Nat)(x:yPv.den):runF yZP (yOB n) Tryz.f167 yPv yb1 x=yMx n x.1 x.2.1 x.2.2.1:=by kernel_rfl
def yJQ(cr:List (Q4))(bu:Int)(aC:List (Q3))(al:Int)(am:Int)(cf:Int)(v1:Q3)(a8:Int)(aa:Int):Option (((Q4)×Unit)⊕(Int×Int)):=
  (Option.bind (idx cr cf) λ v2=>(Option.bind (zR_M (v1.1,v1.2.1,v1.2.2.1,()) bu) λ v3=>(some (Sum.inr (((z1E (a8,aa,()) (z17 v2 v3.1).1).1.1),((z1E (a8,aa,()) (z17 v2 v3.1).1).1.2.1))))))
def yKJ(cr:List (Q4))(bu:Int)(aC:List (Q3))(al:Int)(am:Int)(a8:Int)(aa:Int):Option ((Q4)×Unit):=
  (some (((a8,aa,()),())))
theorem yDv(n:Nat)(hn:big<=n)(cr:List (Q4))(bu:Int)(aC:List (Q3))(al:Int)(am:Int)(a8:Int)(aa:Int)(hx:List.length (aC) < lenMax):LeF some (yP (λ af aG a7=>yJQ cr bu aC al am af aG a7.1 a7.2) (λ a7=>yKJ cr bu aC al am a7.1 a7.2) 0 (aC) (a8,aa)) (y7E n n cr bu aC (List.length (aC):Int) 0 al am a8 aa):=by
  refine yS (f:=some) (W:=λ aM af a7=>y7E n aM cr bu aC (List.length (aC):Int) af al am a7.1 a7.2) (body:=(λ af aG a7=>yJQ cr bu aC al am af aG a7.1 a7.2)) (fin:=(λ a7=>yKJ cr bu aC al am a7.1 a7.2)) (λ aM af a7=>?_) hx (a8,aa) n (by unfold big at hn;unfold lenMax at hx;omega)
  show LeF _ _ (yFL n (y7E n aM) cr bu aC (List.length (aC):Int) af al am a7.1 a7.2)
  exact y5 (y8 λ v1=>(y8 λ v2=>(y8 λ v3=>(y6 rfl)))) (yp (y6 rfl))
def yJm(l:List (Q3))(v:List (Q4))(tick:Int):Option ((Q4)×Unit):=
  (bif decide (List.length (l) < lenMax)then yP (λ af aG a7=>yJQ (v) (tick) (l) ((0:Int)) ((0:Int)) af aG a7.1 a7.2) (λ a7=>yKJ (v) (tick) (l) ((0:Int)) ((0:Int)) a7.1 a7.2) 0 (l) (((0:Int)),((0:Int)))else none)
theorem yRs(l:List (Q3))(v:List (Q4))(tick:Int)(y:(Q4)×Unit)(h:yJm l v tick=some y):∃ n,yMx n l v tick=some y:=
  ⟨big,LeF.top (show LeF some (yJm l v tick) (yMx big l v tick)from (λ (n:Nat) (hn:big<=n)=>show LeF some (yJm l v tick) (yMx n l v tick)from (yM λ hx=>by apply yDv n hn;exact hx)) big (Nat.le_refl _)) h⟩
def z18_e:Entry:={ f:=167,args:=yPv,ress:=yb1,m:=λ x=>yJm x.1 x.2.1 x.2.2.1 }
theorem yZZ:FnOK Tryz.prog z18_e:=yL (g:=yZP) (fn:=Tryz.f167) yC yK (yA yR7 (yA yFU (yA yEl eNil))) (by kernel_rfl) (by kernel_rfl) (by kernel_rfl) (λ x y h=>let ⟨n,hn⟩:=yRs x.1 x.2.1 x.2.2.1 y h;⟨yOB n,iNil,(yWi n x).trans hn⟩)
abbrev yTs:Ty:=.pair t3 (.pair t41 .unit)
abbrev yWG:Ty:=.pair t3 .unit
def yUx:G:={ T:=T,E:=[z09_e],muts:=[],fz:=[] }
def yc0:List (List Nat):=[[0,7,8,9],[0,6,7,8,9]]
def yPE(n:Nat):Ann:={ keep:=yc0,fuel:=n,inl:=[],deep:=0 }
def yGH(n:Nat)(r0:Int->List Int->Int->Int->Option (Int×Unit))(r2:Int->Int->List Int->Int->Int->Option (Int×Unit))(cF:Int)(cu:Int)(cC:List Int)(cD:Int)(aO:Int):Option (Int×Unit):=
  (bif cu != 0 then (bif cu==0 then none else r2 cu (cF.tmod cu) cC cD aO)else r0 cF cC cD (IntKind.i64.wrap (aO+1)))
def y6e(n:Nat)(r0:Int->List Int->Int->Int->Option (Int×Unit))(k:Nat)(cF:Int)(cu:Int)(cC:List Int)(cD:Int)(aO:Int):Option (Int×Unit):=
  iter (λ r y=>yGH n r0 (λ cF cu cC cD aO=>r ((cF,(cu,(cC,(cD,(aO,()))))),((),()))) y.1.1 y.1.2.1 y.1.2.2.1 y.1.2.2.2.1 y.1.2.2.2.2.1) k ((cF,(cu,(cC,(cD,(aO,()))))),((),()))
def yFM(n:Nat)(r0:Int->List Int->Int->Int->Option (Int×Unit))(bQ:Int)(aP:List Int)(ac:Int)(aj:Int):Option (Int×Unit):=
  (bif decide (aj < ac)then (Option.bind (idx aP aj) λ v1=>(y6e n r0 n (bQ) ((z09 v1).1) (aP) (ac) (aj)))else some (bQ,()))
def y7H(n:Nat)(k:Nat)(bQ:Int)(aP:List Int)(ac:Int)(aj:Int):Option (Int×Unit):=
  iter (λ r y=>yFM n (λ bQ aP ac aj=>r ((bQ,(aP,(ac,(aj,())))),((),()))) y.1.1 y.1.2.1 y.1.2.2.1 y.1.2.2.2.1) k ((bQ,(aP,(ac,(aj,())))),((),()))
def yLQ(n:Nat)(n1:Int)(l:List Int):Option (Int×Unit):=
  (y7H n n (n1) (l) ((↑l.length:Int)) ((0:Int)))
theorem yZz(n:Nat)(x:yTs.den):runF yUx (yPE n) Tryz.f186 yTs yWG x=yLQ n x.1 x.2.1:=by kernel_rfl
def yKS(cC:List Int)(cD:Int)(aO:Int)(cF:Int)(cu:Int):Option (((Int×Unit)⊕(Int))⊕(Int×Int)):=
  (bif cu != 0 then (bif cu==0 then none else (some (Sum.inr ((cu),(cF.tmod cu)))))else (some (Sum.inl (Sum.inr (cF)))))
theorem yEa(n:Nat)(hn:big<=n)(r0:Int->List Int->Int->Int->Option (Int×Unit))(cC:List Int)(cD:Int)(aO:Int)(cF:Int)(cu:Int):LeF (elim some λ (a7:(Int))=>r0 a7 cC cD (IntKind.i64.wrap (aO+1))) (y2Q (λ a7=>yKS cC cD aO a7.1 a7.2) wMax (cF,cu)) (y6e n r0 n cF cu cC cD aO):=by
  refine y4J (f:=(elim some λ (a7:(Int))=>r0 a7 cC cD (IntKind.i64.wrap (aO+1)))) (W:=λ aM a7=>y6e n r0 aM a7.1 a7.2 cC cD aO) (body:=(λ a7=>yKS cC cD aO a7.1 a7.2)) (λ aM a7=>?_) wMax n (cF,cu) (by unfold big at hn;unfold wMax;omega)
  show LeF _ _ (yGH n r0 (y6e n r0 aM) a7.1 a7.2 cC cD aO)
  exact (y5 (y5 yy (y6 rfl)) (y6 rfl))
def yK6(aP:List Int)(aj:Int)(v1:Int)(bQ:Int):Option ((Int×Unit)⊕(Int)):=
  (y2Q (λ a7=>yKS (aP) ((↑aP.length:Int)) (aj) a7.1 a7.2) wMax ((bQ),((z09 v1).1)))
def yJM(aP:List Int)(bQ:Int):Option (Int×Unit):=
  (some ((bQ,())))
theorem yEF(n:Nat)(hn:big<=n)(aP:List Int)(bQ:Int)(hx:List.length (aP) < lenMax):LeF some (yP (λ af aG a7=>yK6 aP af aG a7) (λ a7=>yJM aP a7) 0 (aP) bQ) (y7H n n bQ aP (List.length (aP):Int) 0):=by
  refine yS (f:=some) (W:=λ aM af a7=>y7H n aM a7 aP (List.length (aP):Int) af) (body:=(λ af aG a7=>yK6 aP af aG a7)) (fin:=(λ a7=>yJM aP a7)) (λ aM af a7=>?_) hx bQ n (by unfold big at hn;unfold lenMax at hx;omega)
  show LeF _ _ (yFM n (y7H n aM) a7 aP (List.length (aP):Int) af)
  exact y5 (y8 λ v1=>(by apply yEa n hn)) (yp (y6 rfl))
def yDr(n1:Int)(l:List Int):Option (Int×Unit):=
  (bif decide (List.length (l) < lenMax)then yP (λ af aG a7=>yK6 (l) af aG a7) (λ a7=>yJM (l) a7) 0 (l) (n1)else none)
theorem yR6(n1:Int)(l:List Int)(y:Int×Unit)(h:yDr n1 l=some y):∃ n,yLQ n n1 l=some y:=
  ⟨big,LeF.top (show LeF some (yDr n1 l) (yLQ big n1 l)from (λ (n:Nat) (hn:big<=n)=>show LeF some (yDr n1 l) (yLQ n n1 l)from (yM λ hx=>by apply yEF n hn;exact hx)) big (Nat.le_refl _)) h⟩
def z0N_e:Entry:={ f:=186,args:=yTs,ress:=yWG,m:=λ x=>yDr x.1 x.2.1 }
theorem yOZ:FnOK Tryz.prog z0N_e:=yL (g:=yUx) (fn:=Tryz.f186) yC yK (yA yCd eNil) (by kernel_rfl) (by kernel_rfl) (by kernel_rfl) (λ x y h=>let ⟨n,hn⟩:=yR6 x.1 x.2.1 y h;⟨yPE n,iNil,(yZz n x).trans hn⟩)
abbrev yQG:Ty:=.pair t55 (.pair (.ref t60) .unit)
abbrev yYF:Ty:=.pair t57 .unit
def yV5:G:={ T:=T,E:=[zR_e,z03_e,z0i_e,z1E_e],muts:=[],fz:=[] }
def ybp:List (List Nat):=[]
def yO9(n:Nat):Ann:={ keep:=ybp,fuel:=n,inl:=[il124,il195],deep:=3 }
def y8M(n:Nat)(r0:Q1->List (Q4)->List Nat->Int->Int->Q3->Q1->Q3->Q4->Q1->Q1->Int->Int->Int->Int->Q3->Q1->Q3->Q4->Q1->Q1->Option ((Q4)×Unit))(j8:Q1)(j9:List (Q4))(j10:Int)(j11:Nat)(j12:List Nat)(j13:Int)(j14:Int)(j15:Q3)(j16:Q1)(j17:Q3)(j18:Q4)(j19:Q1)(j20:Q1)(j21:Int)(j22:Int)(j23:Int)(j24:Int)(j25:Q3)(j26:Q1)(j27:Q3)(j28:Q4)(j29:Q1)(j30:Q1):Option ((Q4)×Unit):=
  (bif decide ((↑j9.length:Int) > 0)then (Option.bind (idx j9 (0:Int)) λ v31=>(bif decide (v31.1<=j10)then r0 j8 j9 j12 j13 (IntKind.i64.wrap (j14+1)) j15 j16 j17 j18 j19 j20 j21 j22 j23 j24 j25 j26 j27 j28 j29 j30 else (Option.bind (yo Go.FloatKind.f32 (y09 Go.BinOp.mul Go.FloatKind.f32 j11 (nat_lit 1098907648)) IntKind.i64) λ v36=>(Option.bind (zR_M j17 (IntKind.i64.wrap (j8.2.1+j10))) λ v37=>r0 j8 j9 j12 j13 (IntKind.i64.wrap (j14+1)) j15 j16 j17 j18 j19 j20 j21 j22 (z1E (j23,j24,()) (z0i (z03 v37.1).1 v36).1).1.1 (z1E (j23,j24,()) (z0i (z03 v37.1).1 v36).1).1.2.1 j25 j26 j27 j28 j29 j30))))else (Option.bind (yo Go.FloatKind.f32 (y09 Go.BinOp.mul Go.FloatKind.f32 j11 (nat_lit 1098907648)) IntKind.i64) λ v38=>(Option.bind (zR_M j17 (IntKind.i64.wrap (j8.2.1+j10))) λ v39=>r0 j8 j9 j12 j13 (IntKind.i64.wrap (j14+1)) j15 j16 j17 j18 j19 j20 j21 j22 (z1E (j23,j24,()) (z0i (z03 v39.1).1 v38).1).1.1 (z1E (j23,j24,()) (z0i (z03 v39.1).1 v38).1).1.2.1 j25 j26 j27 j28 j29 j30)))
def yFA(n:Nat)(r0:Q1->List (Q4)->List Nat->Int->Int->Q3->Q1->Q3->Q4->Q1->Q1->Int->Int->Int->Int->Q3->Q1->Q3->Q4->Q1->Q1->Option ((Q4)×Unit))(r2:Q1->List (Q4)->Int->Nat->List Nat->Int->Int->Q3->Q1->Q3->Q4->Q1->Q1->Int->Int->Int->Int->Q3->Q1->Q3->Q4->Q1->Q1->Option ((Q4)×Unit))(b7:Q1)(ah:List (Q4))(b8:Int)(bg:Nat)(aO:List Nat)(aE:Int)(aF:Int)(aq:Q3)(ar:Q1)(aJ:Q3)(bL:Q4)(bM:Q1)(be:Q1)(aK:Int)(aL:Int)(aS:Int)(aT:Int)(ba:Q3)(bc:Q1)(bK:Q3)(co:Q4)(cp:Q1)(bN:Q1):Option ((Q4)×Unit):=
  (bif decide ((↑ah.length:Int) > 0)then (Option.bind (idx ah (0:Int)) λ v3=>(bif decide (v3.2.1<=b8)then (bif decide ((0:Int)<=1) && decide ((1:Int)<=(↑ah.length:Int))then r2 b7 (List.drop (Int.toNat (1:Int)) ah) b8 bg aO aE aF aq ar aJ bL bM be aK aL aS aT ba bc bK co cp bN else none)else (y8M n r0 (b7) (ah) (b8) (bg) (aO) (aE) (aF) (aq) (ar) (aJ) (bL) (bM) (be) (aK) (aL) (aS) (aT) (ba) (bc) (bK) (co) (cp) (bN))))else (y8M n r0 (b7) (ah) (b8) (bg) (aO) (aE) (aF) (aq) (ar) (aJ) (bL) (bM) (be) (aK) (aL) (aS) (aT) (ba) (bc) (bK) (co) (cp) (bN)))
def y77(n:Nat)(r0:Q1->List (Q4)->List Nat->Int->Int->Q3->Q1->Q3->Q4->Q1->Q1->Int->Int->Int->Int->Q3->Q1->Q3->Q4->Q1->Q1->Option ((Q4)×Unit))(k:Nat)(b7:Q1)(ah:List (Q4))(b8:Int)(bg:Nat)(aO:List Nat)(aE:Int)(aF:Int)(aq:Q3)(ar:Q1)(aJ:Q3)(bL:Q4)(bM:Q1)(be:Q1)(aK:Int)(aL:Int)(aS:Int)(aT:Int)(ba:Q3)(bc:Q1)(bK:Q3)(co:Q4)(cp:Q1)(bN:Q1):Option ((Q4)×Unit):=
  iter (λ r y=>yFA n r0 (λ b7 ah b8 bg aO aE aF aq ar aJ bL bM be aK aL aS aT ba bc bK co cp bN=>r ((b7,(ah,(b8,(bg,(aO,(aE,(aF,()))))))),(((aq,(ar,(aJ,(bL,(bM,((be,()),())))))),((aK,(aL,())),((aS,(aT,())),()))),(ba,(bc,(bK,(co,(cp,((bN,()),()))))))))) y.1.1 y.1.2.1 y.1.2.2.1 y.1.2.2.2.1 y.1.2.2.2.2.1 y.1.2.2.2.2.2.1 y.1.2.2.2.2.2.2.1 y.2.1.1.1 y.2.1.1.2.1 y.2.1.1.2.2.1 y.2.1.1.2.2.2.1 y.2.1.1.2.2.2.2.1 y.2.1.1.2.2.2.2.2.1.1 y.2.1.2.1.1 y.2.1.2.1.2.1 y.2.1.2.2.1.1 y.2.1.2.2.1.2.1 y.2.2.1 y.2.2.2.1 y.2.2.2.2.1 y.2.2.2.2.2.1 y.2.2.2.2.2.2.1 y.2.2.2.2.2.2.2.1.1) k ((b7,(ah,(b8,(bg,(aO,(aE,(aF,()))))))),(((aq,(ar,(aJ,(bL,(bM,((be,()),())))))),((aK,(aL,())),((aS,(aT,())),()))),(ba,(bc,(bK,(co,(cp,((bN,()),()))))))))
def yGD(n:Nat)(r0:Q1->List (Q4)->List Nat->Int->Int->Q3->Q1->Q3->Q4->Q1->Q1->Int->Int->Int->Int->Q3->Q1->Q3->Q4->Q1->Q1->Option ((Q4)×Unit))(aA:Q1)(aw:List (Q4))(aj:List Nat)(ak:Int)(aC:Int)(au:Q3)(av:Q1)(aU:Q3)(bW:Q4)(bX:Q1)(bl:Q1)(a8:Int)(aa:Int)(aX:Int)(aY:Int)(bi:Q3)(bj:Q1)(bV:Q3)(cA:Q4)(cB:Q1)(bY:Q1):Option ((Q4)×Unit):=
  (bif decide (aC < ak)then (Option.bind (idx aj aC) λ v1=>(y77 n r0 n (aA) (aw) (aC) (v1) (aj) (ak) (aC) (au) (av) (aU) (bW) (bX) (bl) (a8) (aa) (aX) (aY) (bi) (bj) (bV) (cA) (cB) (bY)))else some ((aX,aY,()),()))
def y7K(n:Nat)(k:Nat)(aA:Q1)(aw:List (Q4))(aj:List Nat)(ak:Int)(aC:Int)(au:Q3)(av:Q1)(aU:Q3)(bW:Q4)(bX:Q1)(bl:Q1)(a8:Int)(aa:Int)(aX:Int)(aY:Int)(bi:Q3)(bj:Q1)(bV:Q3)(cA:Q4)(cB:Q1)(bY:Q1):Option ((Q4)×Unit):=
  iter (λ r y=>yGD n (λ aA aw aj ak aC au av aU bW bX bl a8 aa aX aY bi bj bV cA cB bY=>r ((aA,(aw,(aj,(ak,(aC,()))))),(((au,(av,(aU,(bW,(bX,((bl,()),())))))),((a8,(aa,())),((aX,(aY,())),()))),(bi,(bj,(bV,(cA,(cB,((bY,()),()))))))))) y.1.1 y.1.2.1 y.1.2.2.1 y.1.2.2.2.1 y.1.2.2.2.2.1 y.2.1.1.1 y.2.1.1.2.1 y.2.1.1.2.2.1 y.2.1.1.2.2.2.1 y.2.1.1.2.2.2.2.1 y.2.1.1.2.2.2.2.2.1.1 y.2.1.2.1.1 y.2.1.2.1.2.1 y.2.1.2.2.1.1 y.2.1.2.2.1.2.1 y.2.2.1 y.2.2.2.1 y.2.2.2.2.1 y.2.2.2.2.2.1 y.2.2.2.2.2.2.1 y.2.2.2.2.2.2.2.1.1) k ((aA,(aw,(aj,(ak,(aC,()))))),(((au,(av,(aU,(bW,(bX,((bl,()),())))))),((a8,(aa,())),((aX,(aY,())),()))),(bi,(bj,(bV,(cA,(cB,((bY,()),()))))))))
def yLm(n:Nat)(c:Q3)(p1:Q1):Option ((Q4)×Unit):=
  (y7K n n (p1) (p1.2.2.2.1) (p1.2.2.1) ((↑p1.2.2.1.length:Int)) ((0:Int)) (c) (p1) (c) (((0:Int),(0:Int),())) (p1) (p1) ((0:Int)) ((0:Int)) ((0:Int)) ((0:Int)) (c) (p1) (c) (((0:Int),(0:Int),())) (p1) (p1))
theorem yUg(n:Nat)(x:yQG.den):runF yV5 (yO9 n) Tryz.f188 yQG yYF x=yLm n x.1 x.2.1:=by kernel_rfl
def yEE(j8:Q1)(j9:List (Q4))(j10:Int)(j11:Nat)(j12:List Nat)(j13:Int)(j14:Int)(j15:Q3)(j16:Q1)(j17:Q3)(j18:Q4)(j19:Q1)(j20:Q1)(j21:Int)(j22:Int)(j23:Int)(j24:Int)(j25:Q3)(j26:Q1)(j27:Q3)(j28:Q4)(j29:Q1)(j30:Q1):Option (((Q4)×Unit)⊕((List (Q4))×Int×Int)):=
  (bif decide ((↑j9.length:Int) > 0)then (Option.bind (idx j9 (0:Int)) λ v31=>(bif decide (v31.1<=j10)then (some (Sum.inr ((j9),(j23),(j24))))else (Option.bind (yo Go.FloatKind.f32 (y09 Go.BinOp.mul Go.FloatKind.f32 j11 (nat_lit 1098907648)) IntKind.i64) λ v36=>(Option.bind (zR_M j17 (IntKind.i64.wrap (j8.2.1+j10))) λ v37=>(some (Sum.inr ((j9),((z1E (j23,j24,()) (z0i (z03 v37.1).1 v36).1).1.1),((z1E (j23,j24,()) (z0i (z03 v37.1).1 v36).1).1.2.1))))))))else (Option.bind (yo Go.FloatKind.f32 (y09 Go.BinOp.mul Go.FloatKind.f32 j11 (nat_lit 1098907648)) IntKind.i64) λ v38=>(Option.bind (zR_M j17 (IntKind.i64.wrap (j8.2.1+j10))) λ v39=>(some (Sum.inr ((j9),((z1E (j23,j24,()) (z0i (z03 v39.1).1 v38).1).1.1),((z1E (j23,j24,()) (z0i (z03 v39.1).1 v38).1).1.2.1)))))))
theorem y28(n:Nat)(hn:big<=n)(r0:Q1->List (Q4)->List Nat->Int->Int->Q3->Q1->Q3->Q4->Q1->Q1->Int->Int->Int->Int->Q3->Q1->Q3->Q4->Q1->Q1->Option ((Q4)×Unit))(j8:Q1)(j9:List (Q4))(j10:Int)(j11:Nat)(j12:List Nat)(j13:Int)(j14:Int)(j15:Q3)(j16:Q1)(j17:Q3)(j18:Q4)(j19:Q1)(j20:Q1)(j21:Int)(j22:Int)(j23:Int)(j24:Int)(j25:Q3)(j26:Q1)(j27:Q3)(j28:Q4)(j29:Q1)(j30:Q1):LeF (elim some λ (a7:((List (Q4))×Int×Int))=>r0 j8 a7.1 j12 j13 (IntKind.i64.wrap (j14+1)) j15 j16 j17 j18 j19 j20 j21 j22 a7.2.1 a7.2.2 j25 j26 j27 j28 j29 j30) (yEE j8 j9 j10 j11 j12 j13 j14 j15 j16 j17 j18 j19 j20 j21 j22 j23 j24 j25 j26 j27 j28 j29 j30) (y8M n r0 j8 j9 j10 j11 j12 j13 j14 j15 j16 j17 j18 j19 j20 j21 j22 j23 j24 j25 j26 j27 j28 j29 j30):=
  (y5 (y8 λ v31=>(y5 (y6 rfl) (y8 λ v36=>(y8 λ v37=>(y6 rfl))))) (y8 λ v38=>(y8 λ v39=>(y6 rfl))))
def yIQ(b7:Q1)(b8:Int)(bg:Nat)(aO:List Nat)(aE:Int)(aF:Int)(aq:Q3)(ar:Q1)(aJ:Q3)(bL:Q4)(bM:Q1)(be:Q1)(aK:Int)(aL:Int)(aS:Int)(aT:Int)(ba:Q3)(bc:Q1)(bK:Q3)(co:Q4)(cp:Q1)(bN:Q1)(ah:List (Q4)):Option ((((Q4)×Unit)⊕((List (Q4))×Int×Int))⊕(List (Q4))):=
  (bif decide ((↑ah.length:Int) > 0)then (Option.bind (idx ah (0:Int)) λ v3=>(bif decide (v3.2.1<=b8)then (bif decide ((0:Int)<=1) && decide ((1:Int)<=(↑ah.length:Int))then (some (Sum.inr (List.drop (Int.toNat (1:Int)) ah)))else none)else (Option.map Sum.inl (yEE (b7) (ah) (b8) (bg) (aO) (aE) (aF) (aq) (ar) (aJ) (bL) (bM) (be) (aK) (aL) (aS) (aT) (ba) (bc) (bK) (co) (cp) (bN)))))else (Option.map Sum.inl (yEE (b7) (ah) (b8) (bg) (aO) (aE) (aF) (aq) (ar) (aJ) (bL) (bM) (be) (aK) (aL) (aS) (aT) (ba) (bc) (bK) (co) (cp) (bN))))
theorem yEV(n:Nat)(hn:big<=n)(r0:Q1->List (Q4)->List Nat->Int->Int->Q3->Q1->Q3->Q4->Q1->Q1->Int->Int->Int->Int->Q3->Q1->Q3->Q4->Q1->Q1->Option ((Q4)×Unit))(b7:Q1)(b8:Int)(bg:Nat)(aO:List Nat)(aE:Int)(aF:Int)(aq:Q3)(ar:Q1)(aJ:Q3)(bL:Q4)(bM:Q1)(be:Q1)(aK:Int)(aL:Int)(aS:Int)(aT:Int)(ba:Q3)(bc:Q1)(bK:Q3)(co:Q4)(cp:Q1)(bN:Q1)(ah:List (Q4)):LeF (elim some λ (a7:((List (Q4))×Int×Int))=>r0 b7 a7.1 aO aE (IntKind.i64.wrap (aF+1)) aq ar aJ bL bM be aK aL a7.2.1 a7.2.2 ba bc bK co cp bN) (y2Q (λ a7=>yIQ b7 b8 bg aO aE aF aq ar aJ bL bM be aK aL aS aT ba bc bK co cp bN a7) wMax ah) (y77 n r0 n b7 ah b8 bg aO aE aF aq ar aJ bL bM be aK aL aS aT ba bc bK co cp bN):=by
  refine y4J (f:=(elim some λ (a7:((List (Q4))×Int×Int))=>r0 b7 a7.1 aO aE (IntKind.i64.wrap (aF+1)) aq ar aJ bL bM be aK aL a7.2.1 a7.2.2 ba bc bK co cp bN)) (W:=λ aM a7=>y77 n r0 aM b7 a7 b8 bg aO aE aF aq ar aJ bL bM be aK aL aS aT ba bc bK co cp bN) (body:=(λ a7=>yIQ b7 b8 bg aO aE aF aq ar aJ bL bM be aK aL aS aT ba bc bK co cp bN a7)) (λ aM a7=>?_) wMax n ah (by unfold big at hn;unfold wMax;omega)
  show LeF _ _ (yFA n r0 (y77 n r0 aM) b7 a7 b8 bg aO aE aF aq ar aJ bL bM be aK aL aS aT ba bc bK co cp bN)
  exact (y5 (y8 λ v3=>(y5 (y5 (y6 rfl) yy) (yp (by apply y28 n hn)))) (yp (by apply y28 n hn)))
def yK3(aA:Q1)(aj:List Nat)(au:Q3)(av:Q1)(aU:Q3)(bW:Q4)(bX:Q1)(bl:Q1)(a8:Int)(aa:Int)(bi:Q3)(bj:Q1)(bV:Q3)(cA:Q4)(cB:Q1)(bY:Q1)(aC:Int)(v1:Nat)(aw:List (Q4))(aX:Int)(aY:Int):Option (((Q4)×Unit)⊕((List (Q4))×Int×Int)):=
  (y2Q (λ a7=>yIQ (aA) (aC) (v1) (aj) ((↑aj.length:Int)) (aC) (au) (av) (aU) (bW) (bX) (bl) (a8) (aa) (aX) (aY) (bi) (bj) (bV) (cA) (cB) (bY) a7) wMax (aw))
def yKn(aA:Q1)(aj:List Nat)(au:Q3)(av:Q1)(aU:Q3)(bW:Q4)(bX:Q1)(bl:Q1)(a8:Int)(aa:Int)(bi:Q3)(bj:Q1)(bV:Q3)(cA:Q4)(cB:Q1)(bY:Q1)(aw:List (Q4))(aX:Int)(aY:Int):Option ((Q4)×Unit):=
  (some (((aX,aY,()),())))
theorem yE5(n:Nat)(hn:big<=n)(aA:Q1)(aj:List Nat)(au:Q3)(av:Q1)(aU:Q3)(bW:Q4)(bX:Q1)(bl:Q1)(a8:Int)(aa:Int)(bi:Q3)(bj:Q1)(bV:Q3)(cA:Q4)(cB:Q1)(bY:Q1)(aw:List (Q4))(aX:Int)(aY:Int)(hx:List.length (aj) < lenMax):LeF some (yP (λ af aG a7=>yK3 aA aj au av aU bW bX bl a8 aa bi bj bV cA cB bY af aG a7.1 a7.2.1 a7.2.2) (λ a7=>yKn aA aj au av aU bW bX bl a8 aa bi bj bV cA cB bY a7.1 a7.2.1 a7.2.2) 0 (aj) (aw,aX,aY)) (y7K n n aA aw aj (List.length (aj):Int) 0 au av aU bW bX bl a8 aa aX aY bi bj bV cA cB bY):=by
  refine yS (f:=some) (W:=λ aM af a7=>y7K n aM aA a7.1 aj (List.length (aj):Int) af au av aU bW bX bl a8 aa a7.2.1 a7.2.2 bi bj bV cA cB bY) (body:=(λ af aG a7=>yK3 aA aj au av aU bW bX bl a8 aa bi bj bV cA cB bY af aG a7.1 a7.2.1 a7.2.2)) (fin:=(λ a7=>yKn aA aj au av aU bW bX bl a8 aa bi bj bV cA cB bY a7.1 a7.2.1 a7.2.2)) (λ aM af a7=>?_) hx (aw,aX,aY) n (by unfold big at hn;unfold lenMax at hx;omega)
  show LeF _ _ (yGD n (y7K n aM) aA a7.1 aj (List.length (aj):Int) af au av aU bW bX bl a8 aa a7.2.1 a7.2.2 bi bj bV cA cB bY)
  exact y5 (y8 λ v1=>(by apply yEV n hn)) (yp (y6 rfl))
def yH3(c:Q3)(p1:Q1):Option ((Q4)×Unit):=
  (bif decide (List.length (p1.2.2.1) < lenMax)then yP (λ af aG a7=>yK3 (p1) (p1.2.2.1) (c) (p1) (c) (((0:Int),(0:Int),())) (p1) (p1) ((0:Int)) ((0:Int)) (c) (p1) (c) (((0:Int),(0:Int),())) (p1) (p1) af aG a7.1 a7.2.1 a7.2.2) (λ a7=>yKn (p1) (p1.2.2.1) (c) (p1) (c) (((0:Int),(0:Int),())) (p1) (p1) ((0:Int)) ((0:Int)) (c) (p1) (c) (((0:Int),(0:Int),())) (p1) (p1) a7.1 a7.2.1 a7.2.2) 0 (p1.2.2.1) ((p1.2.2.2.1),((0:Int)),((0:Int)))else none)
theorem yQr(c:Q3)(p1:Q1)(y:(Q4)×Unit)(h:yH3 c p1=some y):∃ n,yLm n c p1=some y:=
  ⟨big,LeF.top (show LeF some (yH3 c p1) (yLm big c p1)from (λ (n:Nat) (hn:big<=n)=>show LeF some (yH3 c p1) (yLm n c p1)from (yM λ hx=>by apply yE5 n hn;exact hx)) big (Nat.le_refl _)) h⟩
def z0Q_e:Entry:={ f:=188,args:=yQG,ress:=yYF,m:=λ x=>yH3 x.1 x.2.1 }
theorem yUT:FnOK Tryz.prog z0Q_e:=yL (g:=yV5) (fn:=Tryz.f188) yC yK (yA yR7 (yA yIy (yA yKT (yA yEl eNil)))) (by kernel_rfl) (by kernel_rfl) (by kernel_rfl) (λ x y h=>let ⟨n,hn⟩:=yQr x.1 x.2.1 y h;⟨yO9 n,(y58 y5A (y58 y4s iNil)),(yUg n x).trans hn⟩)
abbrev zT_a:Ty:=.pair t183 (.pair t3 (.pair t3 .unit))
abbrev zT_r:Ty:=.pair t57 .unit
class tide_matrix_expand_Rec where
  f:zT_a.den->Option zT_r.den
section
variable [tide_matrix_expand_Rec]
def y40:Entry:={ f:=194,args:=zT_a,ress:=zT_r,m:=λ x=>tide_matrix_expand_Rec.f x }
def zT_g:G:={ T:=T,E:=[y40,z17_e,z0i_e,z1E_e],muts:=[],fz:=[] }
def zT_k:List (List Nat):=[[0,1,2,6,7,8,18,19]]
def yUr(n:Nat):Ann:={ keep:=zT_k,fuel:=n,inl:=[],deep:=0 }
def yJo(n:Nat)(r0:List (List (Q4))->Int->Int->Int->Int->Int->Int->Int->Int->Int->Option ((Q4)×Unit))(aR:List (List (Q4)))(bB:Int)(bf:Int)(br:Int)(ca:Int)(ce:Int)(al:Int)(am:Int)(a8:Int)(aa:Int):Option ((Q4)×Unit):=
  (bif decide (ce < ca)then (bif decide (ce < 0)then none else (bif y1q IntKind.i64 Go.BinOp.and (bf.fdiv ((2:Int) ^ Min.min ce.toNat IntKind.i64.bits)) (1:Int)==1 then r0 aR bB bf br ca (IntKind.i64.wrap (ce+1)) al am a8 aa else (Option.bind (idx aR bB) λ v1=>(Option.bind (idx v1 ce) λ v2=>(bif decide (ce < 0)then none else (Option.bind (tide_matrix_expand_Rec.f (aR,IntKind.i64.wrap (bB+1),y1q IntKind.i64 Go.BinOp.or bf (IntKind.i64.wrap ((1:Int) * 2 ^ Min.min ce.toNat IntKind.i64.bits)),())) λ v3=>r0 aR bB bf (IntKind.i64.wrap ((0:Int) - br)) ca (IntKind.i64.wrap (ce+1)) al am (z1E (a8,aa,()) (z0i (z17 v2 v3.1).1 br).1).1.1 (z1E (a8,aa,()) (z0i (z17 v2 v3.1).1 br).1).1.2.1))))))else some ((a8,aa,()),()))
def yB7(n:Nat)(k:Nat)(aR:List (List (Q4)))(bB:Int)(bf:Int)(br:Int)(ca:Int)(ce:Int)(al:Int)(am:Int)(a8:Int)(aa:Int):Option ((Q4)×Unit):=
  iter (λ r y=>yJo n (λ aR bB bf br ca ce al am a8 aa=>r ((aR,(bB,(bf,(br,(ca,(ce,())))))),(((al,(am,())),((a8,(aa,())),())),()))) y.1.1 y.1.2.1 y.1.2.2.1 y.1.2.2.2.1 y.1.2.2.2.2.1 y.1.2.2.2.2.2.1 y.2.1.1.1 y.2.1.1.2.1 y.2.1.2.1.1 y.2.1.2.1.2.1) k ((aR,(bB,(bf,(br,(ca,(ce,())))))),(((al,(am,())),((a8,(aa,())),())),()))
def zT_m(n:Nat)(m:List (List (Q4)))(row:Int)(used:Int):Option ((Q4)×Unit):=
  (bif row==(↑m.length:Int)then some (((1:Int),(0:Int),()),())else (yB7 n n (m) (row) (used) ((1:Int)) ((↑m.length:Int)) ((0:Int)) ((0:Int)) ((0:Int)) ((0:Int)) ((0:Int))))
theorem yct(n:Nat)(x:zT_a.den):runF zT_g (yUr n) Tryz.f194 zT_a zT_r x=zT_m n x.1 x.2.1 x.2.2.1:=by kernel_rfl
def yD5(aR:List (List (Q4)))(bB:Int)(bf:Int)(ca:Int)(al:Int)(am:Int)(ce:Int)(br:Int)(a8:Int)(aa:Int):Option (((Q4)×Unit)⊕(Int×Int×Int)):=
  (bif decide (ce < 0)then none else (bif y1q IntKind.i64 Go.BinOp.and (bf.fdiv ((2:Int) ^ Min.min ce.toNat IntKind.i64.bits)) (1:Int)==1 then (some (Sum.inr ((br),(a8),(aa))))else (Option.bind (idx aR bB) λ v1=>(Option.bind (idx v1 ce) λ v2=>(bif decide (ce < 0)then none else (Option.bind (tide_matrix_expand_Rec.f (aR,IntKind.i64.wrap (bB+1),y1q IntKind.i64 Go.BinOp.or bf (IntKind.i64.wrap ((1:Int) * 2 ^ Min.min ce.toNat IntKind.i64.bits)),())) λ v3=>(some (Sum.inr ((IntKind.i64.wrap ((0:Int) - br)),((z1E (a8,aa,()) (z0i (z17 v2 v3.1).1 br).1).1.1),((z1E (a8,aa,()) (z0i (z17 v2 v3.1).1 br).1).1.2.1))))))))))
def yLx(aR:List (List (Q4)))(bB:Int)(bf:Int)(ca:Int)(al:Int)(am:Int)(br:Int)(a8:Int)(aa:Int):Option ((Q4)×Unit):=
  (some (((a8,aa,()),())))
theorem yH0(n:Nat)(hn:big<=n)(aR:List (List (Q4)))(bB:Int)(bf:Int)(ca:Int)(al:Int)(am:Int)(br:Int)(a8:Int)(aa:Int)(hx:(ca)<=9223372036854775807):LeF some (y06 (λ af a7=>yD5 aR bB bf ca al am af a7.1 a7.2.1 a7.2.2) (λ a7=>yLx aR bB bf ca al am a7.1 a7.2.1 a7.2.2) ((ca) - 0).toNat 0 (br,a8,aa)) (yB7 n n aR bB bf br ca 0 al am a8 aa):=by
  refine y0K (f:=some) (W:=λ aM af a7=>yB7 n aM aR bB bf a7.1 ca af al am a7.2.1 a7.2.2) (body:=(λ af a7=>yD5 aR bB bf ca al am af a7.1 a7.2.1 a7.2.2)) (fin:=(λ a7=>yLx aR bB bf ca al am a7.1 a7.2.1 a7.2.2)) (λ aM af a7=>?_) hx (br,a8,aa) n 0 (by decide) (by unfold big at hn;omega)
  show LeF _ _ (yJo n (yB7 n aM) aR bB bf a7.1 ca af al am a7.2.1 a7.2.2)
  exact y5 (y5 yy (y5 (y6 rfl) (y8 λ v1=>(y8 λ v2=>(y5 yy (y8 λ v3=>(y6 rfl))))))) (yp (y6 rfl))
def zT_M(m:List (List (Q4)))(row:Int)(used:Int):Option ((Q4)×Unit):=
  (bif row==(↑m.length:Int)then (some ((((1:Int),(0:Int),()),())))else (bif decide (((↑m.length:Int))<=9223372036854775807)then y06 (λ af a7=>yD5 (m) (row) (used) ((↑m.length:Int)) ((0:Int)) ((0:Int)) af a7.1 a7.2.1 a7.2.2) (λ a7=>yLx (m) (row) (used) ((↑m.length:Int)) ((0:Int)) ((0:Int)) a7.1 a7.2.1 a7.2.2) (((↑m.length:Int)) - 0).toNat 0 (((1:Int)),((0:Int)),((0:Int)))else none))
theorem yXC(m:List (List (Q4)))(row:Int)(used:Int)(y:(Q4)×Unit)(h:zT_M m row used=some y):∃ n,zT_m n m row used=some y:=
  ⟨big,LeF.top (show LeF some (zT_M m row used) (zT_m big m row used)from (λ (n:Nat) (hn:big<=n)=>show LeF some (zT_M m row used) (zT_m n m row used)from (y5 (y6 rfl) (yM λ hx=>by apply yH0 n hn;exact hx))) big (Nat.le_refl _)) h⟩
end
def yO(d:Nat):zT_a.den->Option zT_r.den:=Nat.rec (motive:=λ _=>zT_a.den->Option zT_r.den) (λ _=>none) (λ _ ih x=>@zT_M ⟨ih⟩ x.1 x.2.1 x.2.2.1) d
def y0h(d:Nat):Entry:={ f:=194,args:=zT_a,ress:=zT_r,m:=yO d }
theorem y1T:(d:Nat)->FnOK Tryz.prog (y0h d)
  |0=>FnOK.none (fn:=Tryz.f194) (by kernel_rfl) (by kernel_rfl) (by kernel_rfl)
  |d+1=>yL (g:=@zT_g ⟨yO d⟩) (fn:=Tryz.f194) (e:=y0h (d+1)) yC yK (yA (y1T d) (yA yFU (yA yKT (yA yEl eNil)))) (by kernel_rfl) (by kernel_rfl) (by kernel_rfl) (λ x y h=>let ⟨n,hn⟩:=@yXC ⟨yO d⟩ x.1 x.2.1 x.2.2.1 y h;⟨yUr n,iNil,(@yct ⟨yO d⟩ n x).trans hn⟩)
def zT_e:Entry:=y0h 8
theorem ydh:FnOK Tryz.prog zT_e:=y1T 8
abbrev za_a:Ty:=.pair t61 .unit
abbrev za_r:Ty:=.pair t28 .unit
def za_g:G:={ T:=T,E:=[zc_e,z0l_e],muts:=[],fz:=[] }
def za_k:List (List Nat):=[]
def yWM(n:Nat):Ann:={ keep:=za_k,fuel:=n,inl:=[],deep:=0 }
def za_m(n:Nat)(x1:Nat):Option (Int×Unit):=
  (bif yr Go.BinOp.neq Go.FloatKind.f32 (y09 Go.BinOp.sub Go.FloatKind.f32 x1 x1) (nat_lit 0)then some ((1:Int),())else (bif yr Go.BinOp.lss Go.FloatKind.f32 x1 (nat_lit 3263168512)then some ((3:Int),())else (bif yr Go.BinOp.gtr Go.FloatKind.f32 x1 (nat_lit 1115684864)then some ((3:Int),())else (Option.bind (zc_M x1) λ v2=>some ((z0l (yr Go.BinOp.neq Go.FloatKind.f32 (y17 Go.FloatKind.f32 v2.1) (y09 Go.BinOp.mul Go.FloatKind.f32 x1 (nat_lit 1098907648))) (3:Int)).1,())))))
theorem ybe(n:Nat)(x:za_a.den):runF za_g (yWM n) Tryz.f197 za_a za_r x=za_m n x.1:=by kernel_rfl
def za_M(x1:Nat):Option (Int×Unit):=za_m 0 x1
theorem yaX(x1:Nat)(y:Int×Unit)(h:za_M x1=some y):∃ n,za_m n x1=some y:=⟨0,h⟩
def za_e:Entry:={ f:=197,args:=za_a,ress:=za_r,m:=λ x=>za_M x.1 }
theorem yXW:FnOK Tryz.prog za_e:=yL (g:=za_g) (fn:=Tryz.f197) yC yK (yA ycV (yA yBM eNil)) (by kernel_rfl) (by kernel_rfl) (by kernel_rfl) (λ x y h=>let ⟨n,hn⟩:=yaX x.1 y h;⟨yWM n,iNil,(ybe n x).trans hn⟩)
abbrev yRp:Ty:=.pair t3 (.pair t3 (.pair t3 .unit))
abbrev yaQ:Ty:=.pair t28 .unit
def yZb:G:={ T:=T,E:=[z0l_e],muts:=[],fz:=[] }
def ydm:List (List Nat):=[]
def yOK(n:Nat):Ann:={ keep:=ydm,fuel:=n,inl:=[],deep:=0 }
def yNJ(n:Nat)(n1:Int)(least:Int)(most:Int):Option (Int×Unit):=
  (bif decide (n1 < least)then some ((z0l Bool.true (3:Int)).1,())else some ((z0l (decide (n1 > most)) (3:Int)).1,()))
theorem yVE(n:Nat)(x:yRp.den):runF yZb (yOK n) Tryz.f201 yRp yaQ x=yNJ n x.1 x.2.1 x.2.2.1:=by kernel_rfl
def z0C(n1:Int)(least:Int)(most:Int):(Int×Unit):=
  (bif decide (n1 < least)then ((z0l Bool.true (3:Int)).1,())else ((z0l (decide (n1 > most)) (3:Int)).1,()))
abbrev yWb (n1:Int) (least:Int) (most:Int):Option (Int×Unit):=some (z0C n1 least most)
theorem yRC(n1:Int)(least:Int)(most:Int)(y:Int×Unit)(h:yWb n1 least most=some y):∃ n,yNJ n n1 least most=some y:=
  ⟨0,by rw[<- h];show yNJ 0 n1 least most=some (z0C n1 least most);unfold yNJ z0C;first|rfl|(simp only[yG];done)|(simp only[yG];rfl)⟩
def z0C_e:Entry:={ f:=201,args:=yRp,ress:=yaQ,m:=λ x=>yWb x.1 x.2.1 x.2.2.1 }
theorem yUs:FnOK Tryz.prog z0C_e:=yL (g:=yZb) (fn:=Tryz.f201) yC yK (yA yBM eNil) (by kernel_rfl) (by kernel_rfl) (by kernel_rfl) (λ x y h=>let ⟨n,hn⟩:=yRC x.1 x.2.1 x.2.2.1 y h;⟨yOK n,iNil,(yVE n x).trans hn⟩)
abbrev zB_a:Ty:=.pair t58 (.pair t263 .unit)
abbrev zB_r:Ty:=.pair t4 .unit
def zB_g:G:={ T:=T,E:=[zD_e],muts:=[],fz:=[] }
def zB_k:List (List Nat):=[]
def yV4(n:Nat):Ann:={ keep:=zB_k,fuel:=n,inl:=[],deep:=0 }
def zB_m(n:Nat)(s:List (Q4))(f:(Q4)×Unit->Option (Bool×Unit)):Option (Bool×Unit):=
  (Option.bind (zD_M s f) λ v0=>some (decide (v0.1 >= 0),()))
theorem ydS(n:Nat)(x:zB_a.den):runF zB_g (yV4 n) Tryz.f204 zB_a zB_r x=zB_m n x.1 x.2.1:=by kernel_rfl
def zB_M(s:List (Q4))(f:(Q4)×Unit->Option (Bool×Unit)):Option (Bool×Unit):=zB_m 0 s f
theorem yZl(s:List (Q4))(f:(Q4)×Unit->Option (Bool×Unit))(y:Bool×Unit)(h:zB_M s f=some y):∃ n,zB_m n s f=some y:=⟨0,h⟩
def zB_e:Entry:={ f:=204,args:=zB_a,ress:=zB_r,m:=λ x=>zB_M x.1 x.2.1 }
theorem yc9:FnOK Tryz.prog zB_e:=yL (g:=zB_g) (fn:=Tryz.f204) yC yK (yA ye1 eNil) (by kernel_rfl) (by kernel_rfl) (by kernel_rfl) (λ x y h=>let ⟨n,hn⟩:=yZl x.1 x.2.1 y h;⟨yV4 n,iNil,(ydS n x).trans hn⟩)
abbrev zC_a:Ty:=.pair t35 (.pair t265 .unit)
abbrev zC_r:Ty:=.pair t4 .unit
def zC_g:G:={ T:=T,E:=[zE_e],muts:=[],fz:=[] }
def zC_k:List (List Nat):=[]
def yY0(n:Nat):Ann:={ keep:=zC_k,fuel:=n,inl:=[],deep:=0 }
def zC_m(n:Nat)(s:List Nat)(f:Nat×Unit->Option (Bool×Unit)):Option (Bool×Unit):=
  (Option.bind (zE_M s f) λ v0=>some (decide (v0.1 >= 0),()))
theorem ybD(n:Nat)(x:zC_a.den):runF zC_g (yY0 n) Tryz.f207 zC_a zC_r x=zC_m n x.1 x.2.1:=by kernel_rfl
def zC_M(s:List Nat)(f:Nat×Unit->Option (Bool×Unit)):Option (Bool×Unit):=zC_m 0 s f
theorem yVm(s:List Nat)(f:Nat×Unit->Option (Bool×Unit))(y:Bool×Unit)(h:zC_M s f=some y):∃ n,zC_m n s f=some y:=⟨0,h⟩
def zC_e:Entry:={ f:=207,args:=zC_a,ress:=zC_r,m:=λ x=>zC_M x.1 x.2.1 }
theorem ydE:FnOK Tryz.prog zC_e:=yL (g:=zC_g) (fn:=Tryz.f207) yC yK (yA ydV eNil) (by kernel_rfl) (by kernel_rfl) (by kernel_rfl) (λ x y h=>let ⟨n,hn⟩:=yVm x.1 x.2.1 y h;⟨yY0 n,iNil,(ybD n x).trans hn⟩)
abbrev zm_a:Ty:=.pair t63 .unit
abbrev zm_r:Ty:=.pair t28 .unit
def zm_g:G:={ T:=T,E:=[z0l_e],muts:=[],fz:=[] }
def zm_k:List (List Nat):=[]
def yUo(n:Nat):Ann:={ keep:=zm_k,fuel:=n,inl:=[],deep:=0 }
def zm_m(n:Nat)(s:Q4):Option (Int×Unit):=
  (bif decide (s.1 < 0)then some ((z0l Bool.true (14:Int)).1,())else (bif decide (s.1 >= s.2.1)then some ((z0l Bool.true (14:Int)).1,())else some ((z0l (decide (s.2.1 > 100000)) (14:Int)).1,())))
theorem ybK(n:Nat)(x:zm_a.den):runF zm_g (yUo n) Tryz.f225 zm_a zm_r x=zm_m n x.1:=by kernel_rfl
def zm(s:Q4):(Int×Unit):=
  (bif decide (s.1 < 0)then ((z0l Bool.true (14:Int)).1,())else (bif decide (s.1 >= s.2.1)then ((z0l Bool.true (14:Int)).1,())else ((z0l (decide (s.2.1 > 100000)) (14:Int)).1,())))
abbrev zm_M (s:Q4):Option (Int×Unit):=some (zm s)
theorem yZD(s:Q4)(y:Int×Unit)(h:zm_M s=some y):∃ n,zm_m n s=some y:=
  ⟨0,by rw[<- h];show zm_m 0 s=some (zm s);unfold zm_m zm;first|rfl|(simp only[yG];done)|(simp only[yG];rfl)⟩
def zm_e:Entry:={ f:=225,args:=zm_a,ress:=zm_r,m:=λ x=>zm_M x.1 }
theorem yco:FnOK Tryz.prog zm_e:=yL (g:=zm_g) (fn:=Tryz.f225) yC yK (yA yBM eNil) (by kernel_rfl) (by kernel_rfl) (by kernel_rfl) (λ x y h=>let ⟨n,hn⟩:=yZD x.1 y h;⟨yUo n,iNil,(ybK n x).trans hn⟩)
end
end Go.Tw
end
