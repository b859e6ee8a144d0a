import Derived.Test.YtpcnkpbpcebokaaGreatDoorBT
import Derived.Test.YtpcnkpbpcebokaaGreatDoorB0
import Derived.Test.YtpcnkpbpcebokaaGreatDoorBS
import Derived.Test.YtpcnkpbpcebokaaGreatDoorLQ
set_option linter.all false
section
set_option maxRecDepth 1000000
namespace Go.Tw
open Go.Vx Go.Vx.B Go.Proofs
noncomputable section
abbrev yM7:Ty:=.pair t41 .unit
abbrev yR6:Ty:=.pair t3 .unit
def yRu:G:={ T:=T,E:=[],muts:=[],fz:=[] }
def yXi:List (List Nat):=[[0,3]]
def yLF(n:Nat):Ann:={ keep:=yXi,fuel:=n,inl:=[],deep:=0 }
def yDM(n:Nat)(r0:List Int→Int→Option (Int×Unit))(ar:List Int)(aZ:Int):Option (Int×Unit) :=
  (bif decide (aZ < (↑ar.length:Int))then (Option.bind (idx ar aZ) fun v1=>(bif v1 != 0 then (Option.bind (idx ar aZ) fun v2=>some (v2,()))else r0 ar (IntKind.i64.wrap (aZ+1))))else some ((0:Int),()))
def y6Q(n:Nat)(k:Nat)(ar:List Int)(aZ:Int):Option (Int×Unit) :=
  iter (fun r y=>yDM n (fun ar aZ=>r ((ar,(aZ,())),((),()))) y.1.1 y.1.2.1) k ((ar,(aZ,())),((),()))
def yK1(n:Nat)(l:List Int):Option (Int×Unit) :=
  (y6Q n n (l) ((0:Int)))
theorem yUf(n:Nat)(x:yM7.den):runF yRu (yLF n) Tryz.f24 yM7 yR6 x=yK1 n x.1:=by kernel_rfl
def yBP(ar:List Int)(aZ:Int)(v1:Int):Option ((Int×Unit)⊕Unit) :=
  (bif v1 != 0 then (Option.bind (idx ar aZ) fun v2=>(some (Sum.inl ((v2,())))))else (some (Sum.inr ())))
def yA2(ar:List Int):Option (Int×Unit) :=
  (some (((0:Int),())))
theorem yCL(n:Nat)(hn:big≤n)(ar:List Int)(hx:List.length (ar) < lenMax):LeF some (yX (fun aj aK a7=>yBP ar aj aK) (fun a7=>yA2 ar) 0 (ar) ()) (y6Q n n ar 0):=by
  refine yk (f:=some) (W:=fun aS aj a7=>y6Q n aS ar aj) (body:=(fun aj aK a7=>yBP ar aj aK)) (fin:=(fun a7=>yA2 ar)) (fun aS aj a7=>?_) hx () n (by unfold big at hn;unfold lenMax at hx;omega)
  show LeF _ _ (yDM n (y6Q n aS) ar aj)
  exact yA (yE fun v1=>(yA (yE fun v2=>(y7 rfl)) (y7 rfl))) (y0a (y7 rfl))
def y70(l:List Int):Option (Int×Unit) :=
  (bif decide (List.length (l) < lenMax)then yX (fun aj aK a7=>yBP (l) aj aK) (fun a7=>yA2 (l)) 0 (l) ()else none)
theorem yNW(l:List Int)(y:Int×Unit)(h:y70 l=some y):∃ n,yK1 n l=some y :=
  ⟨big,LeF.top (show LeF some (y70 l) (yK1 big l)from (fun (n:Nat) (hn:big≤n)=>show LeF some (y70 l) (yK1 n l)from (yh fun hx=>by apply yCL n hn;exact hx)) big (Nat.le_refl _)) h⟩
def z0P_e:Entry:={ f:=24,args:=yM7,ress:=yR6,m:=fun x=>y70 x.1 }
theorem yFp:FnOK Tryz.prog z0P_e:=yK (g:=yRu) (fn:=Tryz.f24) yD yJ eNil (by kernel_rfl) (by kernel_rfl) (by kernel_rfl) (fun x y h=>let ⟨n,hn⟩:=yNW x.1 y h;⟨yLF n,iNil,(yUf n x).trans hn⟩)
abbrev zX_a:Ty:=.pair t23 (.pair t23 .unit)
abbrev zX_r:Ty:=.pair t4 .unit
def zX_g:G:={ T:=T,E:=[],muts:=[],fz:=[] }
def zX_k:List (List Nat):=[[0,1,5]]
def yV2(n:Nat):Ann:={ keep:=zX_k,fuel:=n,inl:=[],deep:=0 }
def yG7(n:Nat)(r0:List (Q4)→List (Q4)→Int→Option (Bool×Unit))(av:List (Q4))(aA:List (Q4))(aw:Int):Option (Bool×Unit) :=
  (bif decide (aw < (↑av.length:Int))then (Option.bind (idx av aw) fun v1=>(Option.bind (idx aA aw) fun v2=>(bif !eqV ((Ty.int IntKind.i64).pair ((Ty.int IntKind.i64).pair Ty.unit)) v1 v2 then some (Bool.false,())else r0 av aA (IntKind.i64.wrap (aw+1)))))else some (Bool.true,()))
def y9l(n:Nat)(k:Nat)(av:List (Q4))(aA:List (Q4))(aw:Int):Option (Bool×Unit) :=
  iter (fun r y=>yG7 n (fun av aA aw=>r ((av,(aA,(aw,()))),((),()))) y.1.1 y.1.2.1 y.1.2.2.1) k ((av,(aA,(aw,()))),((),()))
def zX_m(n:Nat)(a:List (Q4))(b:List (Q4)):Option (Bool×Unit) :=
  (bif (↑a.length:Int) != (↑b.length:Int)then some (Bool.false,())else (y9l n n (a) (b) ((0:Int))))
theorem yXb(n:Nat)(x:zX_a.den):runF zX_g (yV2 n) Tryz.f29 zX_a zX_r x=zX_m n x.1 x.2.1:=by kernel_rfl
def yO5(av:List (Q4))(aA:List (Q4))(aw:Int)(v1:Q4):Option ((Bool×Unit)⊕Unit) :=
  (Option.bind (idx aA aw) fun v2=>(bif !eqV ((Ty.int IntKind.i64).pair ((Ty.int IntKind.i64).pair Ty.unit)) v1 v2 then (some (Sum.inl ((Bool.false,()))))else (some (Sum.inr ()))))
def yOC(av:List (Q4))(aA:List (Q4)):Option (Bool×Unit) :=
  (some ((Bool.true,())))
theorem yEX(n:Nat)(hn:big≤n)(av:List (Q4))(aA:List (Q4))(hx:List.length (av) < lenMax):LeF some (yX (fun aj aK a7=>yO5 av aA aj aK) (fun a7=>yOC av aA) 0 (av) ()) (y9l n n av aA 0):=by
  refine yk (f:=some) (W:=fun aS aj a7=>y9l n aS av aA aj) (body:=(fun aj aK a7=>yO5 av aA aj aK)) (fin:=(fun a7=>yOC av aA)) (fun aS aj a7=>?_) hx () n (by unfold big at hn;unfold lenMax at hx;omega)
  show LeF _ _ (yG7 n (y9l n aS) av aA aj)
  exact yA (yE fun v1=>(yE fun v2=>(yA (y7 rfl) (y7 rfl)))) (y0a (y7 rfl))
def zX_M(a:List (Q4))(b:List (Q4)):Option (Bool×Unit) :=
  (bif (↑a.length:Int) != (↑b.length:Int)then (some ((Bool.false,())))else (bif decide (List.length (a) < lenMax)then yX (fun aj aK a7=>yO5 (a) (b) aj aK) (fun a7=>yOC (a) (b)) 0 (a) ()else none))
theorem yUc(a:List (Q4))(b:List (Q4))(y:Bool×Unit)(h:zX_M a b=some y):∃ n,zX_m n a b=some y :=
  ⟨big,LeF.top (show LeF some (zX_M a b) (zX_m big a b)from (fun (n:Nat) (hn:big≤n)=>show LeF some (zX_M a b) (zX_m n a b)from (yA (y7 rfl) (yh fun hx=>by apply yEX n hn;exact hx))) big (Nat.le_refl _)) h⟩
def zX_e:Entry:={ f:=29,args:=zX_a,ress:=zX_r,m:=fun x=>zX_M x.1 x.2.1 }
theorem ySw:FnOK Tryz.prog zX_e:=yK (g:=zX_g) (fn:=Tryz.f29) yD yJ eNil (by kernel_rfl) (by kernel_rfl) (by kernel_rfl) (fun x y h=>let ⟨n,hn⟩:=yUc x.1 x.2.1 y h;⟨yV2 n,iNil,(yXb n x).trans hn⟩)
abbrev ze_a:Ty:=.pair t35 (.pair t35 .unit)
abbrev ze_r:Ty:=.pair t4 .unit
def ze_g:G:={ T:=T,E:=[],muts:=[],fz:=[] }
def ze_k:List (List Nat):=[[0,1,5]]
def yT4(n:Nat):Ann:={ keep:=ze_k,fuel:=n,inl:=[],deep:=0 }
def yPG(n:Nat)(r0:List Nat→List Nat→Int→Option (Bool×Unit))(av:List Nat)(aA:List Nat)(aw:Int):Option (Bool×Unit) :=
  (bif decide (aw < (↑av.length:Int))then (Option.bind (idx av aw) fun v1=>(Option.bind (idx aA aw) fun v2=>(bif ye Go.BinOp.neq Go.FloatKind.f32 v1 v2 then some (Bool.false,())else r0 av aA (IntKind.i64.wrap (aw+1)))))else some (Bool.true,()))
def yPE(n:Nat)(k:Nat)(av:List Nat)(aA:List Nat)(aw:Int):Option (Bool×Unit) :=
  iter (fun r y=>yPG n (fun av aA aw=>r ((av,(aA,(aw,()))),((),()))) y.1.1 y.1.2.1 y.1.2.2.1) k ((av,(aA,(aw,()))),((),()))
def ze_m(n:Nat)(a:List Nat)(b:List Nat):Option (Bool×Unit) :=
  (bif (↑a.length:Int) != (↑b.length:Int)then some (Bool.false,())else (yPE n n (a) (b) ((0:Int))))
theorem yXU(n:Nat)(x:ze_a.den):runF ze_g (yT4 n) Tryz.f30 ze_a ze_r x=ze_m n x.1 x.2.1:=by kernel_rfl
def ze_M(a:List Nat)(b:List Nat):Option (Bool×Unit):=ze_m 1000 a b
theorem yUu(a:List Nat)(b:List Nat)(y:Bool×Unit)(h:ze_M a b=some y):∃ n,ze_m n a b=some y:=⟨1000,h⟩
def ze_e:Entry:={ f:=30,args:=ze_a,ress:=ze_r,m:=fun x=>ze_M x.1 x.2.1 }
theorem yW6:FnOK Tryz.prog ze_e:=yK (g:=ze_g) (fn:=Tryz.f30) yD yJ eNil (by kernel_rfl) (by kernel_rfl) (by kernel_rfl) (fun x y h=>let ⟨n,hn⟩:=yUu x.1 x.2.1 y h;⟨yT4 n,iNil,(yXU n x).trans hn⟩)
abbrev zp_a:Ty:=.pair t22 .unit
abbrev zp_r:Ty:=.pair t4 .unit
def zp_g:G:={ T:=T,E:=[],muts:=[],fz:=[] }
def zp_k:List (List Nat):=[[0,3]]
def yU4(n:Nat):Ann:={ keep:=zp_k,fuel:=n,inl:=[],deep:=0 }
def yGQ(n:Nat)(r0:List (Q3)→Int→Option (Bool×Unit))(ar:List (Q3))(aZ:Int):Option (Bool×Unit) :=
  (bif decide (aZ < (↑ar.length:Int))then (Option.bind (idx ar aZ) fun v1=>(bif decide ((↑v1.1.length:Int) > 60)then some (Bool.false,())else r0 ar (IntKind.i64.wrap (aZ+1))))else some (decide ((↑ar.length:Int)≤5),()))
def y9j(n:Nat)(k:Nat)(ar:List (Q3))(aZ:Int):Option (Bool×Unit) :=
  iter (fun r y=>yGQ n (fun ar aZ=>r ((ar,(aZ,())),((),()))) y.1.1 y.1.2.1) k ((ar,(aZ,())),((),()))
def zp_m(n:Nat)(l:List (Q3)):Option (Bool×Unit) :=
  (y9j n n (l) ((0:Int)))
theorem yWi(n:Nat)(x:zp_a.den):runF zp_g (yU4 n) Tryz.f31 zp_a zp_r x=zp_m n x.1:=by kernel_rfl
def yII(ar:List (Q3))(aZ:Int)(v1:Q3):Option ((Bool×Unit)⊕Unit) :=
  (bif decide ((↑v1.1.length:Int) > 60)then (some (Sum.inl ((Bool.false,()))))else (some (Sum.inr ())))
def yFc(ar:List (Q3)):Option (Bool×Unit) :=
  (some ((decide ((↑ar.length:Int)≤5),())))
theorem yEW(n:Nat)(hn:big≤n)(ar:List (Q3))(hx:List.length (ar) < lenMax):LeF some (yX (fun aj aK a7=>yII ar aj aK) (fun a7=>yFc ar) 0 (ar) ()) (y9j n n ar 0):=by
  refine yk (f:=some) (W:=fun aS aj a7=>y9j n aS ar aj) (body:=(fun aj aK a7=>yII ar aj aK)) (fin:=(fun a7=>yFc ar)) (fun aS aj a7=>?_) hx () n (by unfold big at hn;unfold lenMax at hx;omega)
  show LeF _ _ (yGQ n (y9j n aS) ar aj)
  exact yA (yE fun v1=>(yA (y7 rfl) (y7 rfl))) (y0a (y7 rfl))
def zp_M(l:List (Q3)):Option (Bool×Unit) :=
  (bif decide (List.length (l) < lenMax)then yX (fun aj aK a7=>yII (l) aj aK) (fun a7=>yFc (l)) 0 (l) ()else none)
theorem ySB(l:List (Q3))(y:Bool×Unit)(h:zp_M l=some y):∃ n,zp_m n l=some y :=
  ⟨big,LeF.top (show LeF some (zp_M l) (zp_m big l)from (fun (n:Nat) (hn:big≤n)=>show LeF some (zp_M l) (zp_m n l)from (yh fun hx=>by apply yEW n hn;exact hx)) big (Nat.le_refl _)) h⟩
def zp_e:Entry:={ f:=31,args:=zp_a,ress:=zp_r,m:=fun x=>zp_M x.1 }
theorem yWh:FnOK Tryz.prog zp_e:=yK (g:=zp_g) (fn:=Tryz.f31) yD yJ eNil (by kernel_rfl) (by kernel_rfl) (by kernel_rfl) (fun x y h=>let ⟨n,hn⟩:=ySB x.1 y h;⟨yU4 n,iNil,(yWi n x).trans hn⟩)
abbrev yMN:Ty:=.pair t22 .unit
abbrev ySX:Ty:=.pair t31 .unit
def yVA:G:={ T:=T,E:=[],muts:=[3],fz:=[] }
def yXN:List (List Nat):=[[3,6,7,8]]
def yKx(n:Nat):Ann:={ keep:=yXN,fuel:=n,inl:=[],deep:=0 }
def yCi(n:Nat)(r0:List (Q3)→Int→Int→List (Q3)→Option (List (Q3)×Unit))(aU:List (Q3))(ax:Int)(a8:Int)(aP:List (Q3)):Option (List (Q3)×Unit) :=
  (bif decide (a8 < ax)then (Option.bind (idx aU a8) fun v1=>(bif decide (aP.length+(1:Nat)≤memMax)then r0 aU ax (IntKind.i64.wrap (a8+1)) (aP++[(v1.1,v1.2.1,v1.2.2.1,())])else none))else some (aP,()))
def y6X(n:Nat)(k:Nat)(aU:List (Q3))(ax:Int)(a8:Int)(aP:List (Q3)):Option (List (Q3)×Unit) :=
  iter (fun r y=>yCi n (fun aU ax a8 aP=>r ((aU,(ax,(a8,()))),((aP,()),()))) y.1.1 y.1.2.1 y.1.2.2.1 y.2.1.1) k ((aU,(ax,(a8,()))),((aP,()),()))
def yJ1(n:Nat)(l:List (Q3)):Option (List (Q3)×Unit) :=
  (y6X n n (l) ((↑l.length:Int)) ((0:Int)) ([]))
theorem ySj(n:Nat)(x:yMN.den):runF yVA (yKx n) Tryz.f33 yMN ySX x=yJ1 n x.1:=by kernel_rfl
def yDN(aU:List (Q3))(a8:Int)(v1:Q3)(aP:List (Q3)):Option ((List (Q3)×Unit)⊕(List (Q3))) :=
  (bif decide (aP.length+(1:Nat)≤memMax)then (some (Sum.inr (aP++[(v1.1,v1.2.1,v1.2.2.1,())])))else none)
def yFX(aU:List (Q3))(aP:List (Q3)):Option (List (Q3)×Unit) :=
  (some ((aP,())))
theorem yCe(n:Nat)(hn:big≤n)(aU:List (Q3))(aP:List (Q3))(hx:List.length (aU) < lenMax):LeF some (yX (fun aj aK a7=>yDN aU aj aK a7) (fun a7=>yFX aU a7) 0 (aU) aP) (y6X n n aU (List.length (aU):Int) 0 aP):=by
  refine yk (f:=some) (W:=fun aS aj a7=>y6X n aS aU (List.length (aU):Int) aj a7) (body:=(fun aj aK a7=>yDN aU aj aK a7)) (fin:=(fun a7=>yFX aU a7)) (fun aS aj a7=>?_) hx aP n (by unfold big at hn;unfold lenMax at hx;omega)
  show LeF _ _ (yCi n (y6X n aS) aU (List.length (aU):Int) aj a7)
  exact yA (yE fun v1=>(yA (y7 rfl) y3A)) (y0a (y7 rfl))
def yF6(l:List (Q3)):Option (List (Q3)×Unit) :=
  (bif decide (List.length (l) < lenMax)then yX (fun aj aK a7=>yDN (l) aj aK a7) (fun a7=>yFX (l) a7) 0 (l) ([])else none)
theorem yMX(l:List (Q3))(y:List (Q3)×Unit)(h:yF6 l=some y):∃ n,yJ1 n l=some y :=
  ⟨big,LeF.top (show LeF some (yF6 l) (yJ1 big l)from (fun (n:Nat) (hn:big≤n)=>show LeF some (yF6 l) (yJ1 n l)from (yh fun hx=>by apply yCe n hn;exact hx)) big (Nat.le_refl _)) h⟩
def z0d_e:Entry:={ f:=33,args:=yMN,ress:=ySX,m:=fun x=>yF6 x.1 }
theorem yQi:FnOK Tryz.prog z0d_e:=yK (g:=yVA) (fn:=Tryz.f33) yD yJ eNil (by kernel_rfl) (by kernel_rfl) (by kernel_rfl) (fun x y h=>let ⟨n,hn⟩:=yMX x.1 y h;⟨yKx n,iNil,(ySj n x).trans hn⟩)
abbrev zc_a:Ty:=.pair t3 (.pair t3 (.pair t3 .unit))
abbrev zc_r:Ty:=.pair t3 .unit
def zc_g:G:={ T:=T,E:=[],muts:=[],fz:=[] }
def zc_k:List (List Nat):=[]
def yVO(n:Nat):Ann:={ keep:=zc_k,fuel:=n,inl:=[],deep:=0 }
def zc_m(n:Nat)(n1:Int)(low:Int)(high:Int):Option (Int×Unit) :=
  (bif decide (n1 < low)then some ((3:Int),())else (bif decide (n1 > high)then some ((3:Int),())else some ((0:Int),())))
theorem yY0(n:Nat)(x:zc_a.den):runF zc_g (yVO n) Tryz.f44 zc_a zc_r x=zc_m n x.1 x.2.1 x.2.2.1:=by kernel_rfl
def zc(n1:Int)(low:Int)(high:Int):(Int×Unit) :=
  (bif decide (n1 < low)then ((3:Int),())else (bif decide (n1 > high)then ((3:Int),())else ((0:Int),())))
abbrev zc_M (n1:Int) (low:Int) (high:Int):Option (Int×Unit):=some (zc n1 low high)
theorem yTh(n1:Int)(low:Int)(high:Int)(y:Int×Unit)(h:zc_M n1 low high=some y):∃ n,zc_m n n1 low high=some y :=
  ⟨0,by rw[← h];show zc_m 0 n1 low high=some (zc n1 low high);unfold zc_m zc;first|rfl|(simp only[yI];done)|(simp only[yI];rfl)⟩
def zc_e:Entry:={ f:=44,args:=zc_a,ress:=zc_r,m:=fun x=>zc_M x.1 x.2.1 x.2.2.1 }
theorem yOd:FnOK Tryz.prog zc_e:=yK (g:=zc_g) (fn:=Tryz.f44) yD yJ eNil (by kernel_rfl) (by kernel_rfl) (by kernel_rfl) (fun x y h=>let ⟨n,hn⟩:=yTh x.1 x.2.1 x.2.2.1 y h;⟨yVO n,iNil,(yY0 n x).trans hn⟩)
abbrev zw_a:Ty:=.pair t79 (.pair t79 .unit)
abbrev zw_r:Ty:=.pair t4 .unit
def zw_g:G:={ T:=T,E:=[],muts:=[],fz:=[] }
def zw_k:List (List Nat):=[[0,1,5]]
def yQu(n:Nat):Ann:={ keep:=zw_k,fuel:=n,inl:=[],deep:=0 }
def yPf(n:Nat)(r0:List (Nat×Nat)→List (Nat×Nat)→Int→Option (Bool×Unit))(av:List (Nat×Nat))(aA:List (Nat×Nat))(aw:Int):Option (Bool×Unit) :=
  (bif decide (aw < (↑av.length:Int))then (Option.bind (idx av aw) fun v1=>(Option.bind (idx aA aw) fun v2=>(bif !yA7 Go.FloatKind.f32 v1 v2 then some (Bool.false,())else r0 av aA (IntKind.i64.wrap (aw+1)))))else some (Bool.true,()))
def yMC(n:Nat)(k:Nat)(av:List (Nat×Nat))(aA:List (Nat×Nat))(aw:Int):Option (Bool×Unit) :=
  iter (fun r y=>yPf n (fun av aA aw=>r ((av,(aA,(aw,()))),((),()))) y.1.1 y.1.2.1 y.1.2.2.1) k ((av,(aA,(aw,()))),((),()))
def zw_m(n:Nat)(a:List (Nat×Nat))(b:List (Nat×Nat)):Option (Bool×Unit) :=
  (bif (↑a.length:Int) != (↑b.length:Int)then some (Bool.false,())else (yMC n n (a) (b) ((0:Int))))
theorem yWm(n:Nat)(x:zw_a.den):runF zw_g (yQu n) Tryz.f53 zw_a zw_r x=zw_m n x.1 x.2.1:=by kernel_rfl
def zw_M(a:List (Nat×Nat))(b:List (Nat×Nat)):Option (Bool×Unit):=zw_m 1000 a b
theorem ySg(a:List (Nat×Nat))(b:List (Nat×Nat))(y:Bool×Unit)(h:zw_M a b=some y):∃ n,zw_m n a b=some y:=⟨1000,h⟩
def zw_e:Entry:={ f:=53,args:=zw_a,ress:=zw_r,m:=fun x=>zw_M x.1 x.2.1 }
theorem yXl:FnOK Tryz.prog zw_e:=yK (g:=zw_g) (fn:=Tryz.f53) yD yJ eNil (by kernel_rfl) (by kernel_rfl) (by kernel_rfl) (fun x y h=>let ⟨n,hn⟩:=ySg x.1 x.2.1 y h;⟨yQu n,iNil,(yWm n x).trans hn⟩)
abbrev yN3:Ty:=.pair t94 .unit
abbrev yVP:Ty:=.pair t60 .unit
def yTK:G:={ T:=T,E:=[],muts:=[7,11],fz:=[] }
def yW0:List (List Nat):=[]
def yKW(n:Nat):Ann:={ keep:=yW0,fuel:=n,inl:=[],deep:=0 }
def yIR(n:Nat)(r1:Q1):Option ((Q1)×Unit) :=
  (bif decide ((0:Nat)+r1.2.2.1.length≤memMax)then (bif decide ((0:Nat)+r1.2.2.2.1.length≤memMax)then some ((r1.1,r1.2.1,r1.2.2.1,r1.2.2.2.1,()),())else none)else none)
theorem yQM(n:Nat)(x:yN3.den):runF yTK (yKW n) Tryz.f56 yN3 yVP x=yIR n x.1:=by kernel_rfl
def yI3(r1:Q1):Option ((Q1)×Unit):=yIR 0 r1
theorem yMc(r1:Q1)(y:(Q1)×Unit)(h:yI3 r1=some y):∃ n,yIR n r1=some y:=⟨0,h⟩
def z0B_e:Entry:={ f:=56,args:=yN3,ress:=yVP,m:=fun x=>yI3 x.1 }
theorem yUY:FnOK Tryz.prog z0B_e:=yK (g:=yTK) (fn:=Tryz.f56) yD yJ eNil (by kernel_rfl) (by kernel_rfl) (by kernel_rfl) (fun x y h=>let ⟨n,hn⟩:=yMc x.1 y h;⟨yKW n,iNil,(yQM n x).trans hn⟩)
abbrev zo_a:Ty:=.pair t100 (.pair t100 .unit)
abbrev zo_r:Ty:=.pair t4 .unit
def zo_g:G:={ T:=T,E:=[],muts:=[],fz:=[] }
def zo_k:List (List Nat):=[[0,1,5]]
def yUn(n:Nat):Ann:={ keep:=zo_k,fuel:=n,inl:=[],deep:=0 }
def yOr(n:Nat)(r0:List (List Int)→List (List Int)→Int→Option (Bool×Unit))(av:List (List Int))(aA:List (List Int))(aw:Int):Option (Bool×Unit) :=
  (bif decide (aw < (↑av.length:Int))then (Option.bind (idx av aw) fun v1=>(Option.bind (idx aA aw) fun v2=>(bif !eqV (Ty.arr (2:Nat) (Ty.int IntKind.i64)) v1 v2 then some (Bool.false,())else r0 av aA (IntKind.i64.wrap (aw+1)))))else some (Bool.true,()))
def yMb(n:Nat)(k:Nat)(av:List (List Int))(aA:List (List Int))(aw:Int):Option (Bool×Unit) :=
  iter (fun r y=>yOr n (fun av aA aw=>r ((av,(aA,(aw,()))),((),()))) y.1.1 y.1.2.1 y.1.2.2.1) k ((av,(aA,(aw,()))),((),()))
def zo_m(n:Nat)(a:List (List Int))(b:List (List Int)):Option (Bool×Unit) :=
  (bif (↑a.length:Int) != (↑b.length:Int)then some (Bool.false,())else (yMb n n (a) (b) ((0:Int))))
theorem yWx(n:Nat)(x:zo_a.den):runF zo_g (yUn n) Tryz.f66 zo_a zo_r x=zo_m n x.1 x.2.1:=by kernel_rfl
def zo_M(a:List (List Int))(b:List (List Int)):Option (Bool×Unit):=zo_m 1000 a b
theorem yUr(a:List (List Int))(b:List (List Int))(y:Bool×Unit)(h:zo_M a b=some y):∃ n,zo_m n a b=some y:=⟨1000,h⟩
def zo_e:Entry:={ f:=66,args:=zo_a,ress:=zo_r,m:=fun x=>zo_M x.1 x.2.1 }
theorem yXJ:FnOK Tryz.prog zo_e:=yK (g:=zo_g) (fn:=Tryz.f66) yD yJ eNil (by kernel_rfl) (by kernel_rfl) (by kernel_rfl) (fun x y h=>let ⟨n,hn⟩:=yUr x.1 x.2.1 y h;⟨yUn n,iNil,(yWx n x).trans hn⟩)
abbrev zu_a:Ty:=.pair t41 (.pair t41 .unit)
abbrev zu_r:Ty:=.pair t4 .unit
def zu_g:G:={ T:=T,E:=[],muts:=[],fz:=[] }
def zu_k:List (List Nat):=[[0,1,5]]
def yUJ(n:Nat):Ann:={ keep:=zu_k,fuel:=n,inl:=[],deep:=0 }
def yG9(n:Nat)(r0:List Int→List Int→Int→Option (Bool×Unit))(av:List Int)(aA:List Int)(aw:Int):Option (Bool×Unit) :=
  (bif decide (aw < (↑av.length:Int))then (Option.bind (idx av aw) fun v1=>(Option.bind (idx aA aw) fun v2=>(bif v1 != v2 then some (Bool.false,())else r0 av aA (IntKind.i64.wrap (aw+1)))))else some (Bool.true,()))
def y94(n:Nat)(k:Nat)(av:List Int)(aA:List Int)(aw:Int):Option (Bool×Unit) :=
  iter (fun r y=>yG9 n (fun av aA aw=>r ((av,(aA,(aw,()))),((),()))) y.1.1 y.1.2.1 y.1.2.2.1) k ((av,(aA,(aw,()))),((),()))
def zu_m(n:Nat)(a:List Int)(b:List Int):Option (Bool×Unit) :=
  (bif (↑a.length:Int) != (↑b.length:Int)then some (Bool.false,())else (y94 n n (a) (b) ((0:Int))))
theorem yXQ(n:Nat)(x:zu_a.den):runF zu_g (yUJ n) Tryz.f75 zu_a zu_r x=zu_m n x.1 x.2.1:=by kernel_rfl
def yJZ(av:List Int)(aA:List Int)(aw:Int)(v1:Int):Option ((Bool×Unit)⊕Unit) :=
  (Option.bind (idx aA aw) fun v2=>(bif v1 != v2 then (some (Sum.inl ((Bool.false,()))))else (some (Sum.inr ()))))
def yOO(av:List Int)(aA:List Int):Option (Bool×Unit) :=
  (some ((Bool.true,())))
theorem yEo(n:Nat)(hn:big≤n)(av:List Int)(aA:List Int)(hx:List.length (av) < lenMax):LeF some (yX (fun aj aK a7=>yJZ av aA aj aK) (fun a7=>yOO av aA) 0 (av) ()) (y94 n n av aA 0):=by
  refine yk (f:=some) (W:=fun aS aj a7=>y94 n aS av aA aj) (body:=(fun aj aK a7=>yJZ av aA aj aK)) (fin:=(fun a7=>yOO av aA)) (fun aS aj a7=>?_) hx () n (by unfold big at hn;unfold lenMax at hx;omega)
  show LeF _ _ (yG9 n (y94 n aS) av aA aj)
  exact yA (yE fun v1=>(yE fun v2=>(yA (y7 rfl) (y7 rfl)))) (y0a (y7 rfl))
def zu_M(a:List Int)(b:List Int):Option (Bool×Unit) :=
  (bif (↑a.length:Int) != (↑b.length:Int)then (some ((Bool.false,())))else (bif decide (List.length (a) < lenMax)then yX (fun aj aK a7=>yJZ (a) (b) aj aK) (fun a7=>yOO (a) (b)) 0 (a) ()else none))
theorem ySK(a:List Int)(b:List Int)(y:Bool×Unit)(h:zu_M a b=some y):∃ n,zu_m n a b=some y :=
  ⟨big,LeF.top (show LeF some (zu_M a b) (zu_m big a b)from (fun (n:Nat) (hn:big≤n)=>show LeF some (zu_M a b) (zu_m n a b)from (yA (y7 rfl) (yh fun hx=>by apply yEo n hn;exact hx))) big (Nat.le_refl _)) h⟩
def zu_e:Entry:={ f:=75,args:=zu_a,ress:=zu_r,m:=fun x=>zu_M x.1 x.2.1 }
theorem yS2:FnOK Tryz.prog zu_e:=yK (g:=zu_g) (fn:=Tryz.f75) yD yJ eNil (by kernel_rfl) (by kernel_rfl) (by kernel_rfl) (fun x y h=>let ⟨n,hn⟩:=ySK x.1 x.2.1 y h;⟨yUJ n,iNil,(yXQ n x).trans hn⟩)
def zg_m(n:Nat)(x1:Nat):Option (Int×Unit) :=
  (Option.bind (y1d Go.FloatKind.f32 x1 Go.FloatKind.f64) fun v0=>(Option.bind (y01 Go.FloatKind.f64 (yx Go.BinOp.mul Go.FloatKind.f64 (nat_lit 4625196817309499392) v0) IntKind.i64) fun v1=>some (v1,())))
def zg_M(x1:Nat):Option (Int×Unit):=zg_m 0 x1
abbrev yNk:Ty:=.pair t58 .unit
abbrev yVM:Ty:=.pair t60 .unit
def yRO:G:={ T:=T,E:=[],muts:=[],fz:=[] }
def yWa:List (List Nat):=[]
def yLX(n:Nat):Ann:={ keep:=yWa,fuel:=n,inl:=[],deep:=0 }
def yID(n:Nat)(gaps:List (Q4)):Option ((Q1)×Unit) :=
  some (([(103:UInt8)],(0:Int),[nat_lit 1065353216,nat_lit 0,nat_lit 3212836864,nat_lit 0],gaps,()),())
theorem yU8(n:Nat)(x:yNk.den):runF yRO (yLX n) Tryz.f102 yNk yVM x=yID n x.1:=by kernel_rfl
def z0e(gaps:List (Q4)):((Q1)×Unit) :=
  (([(103:UInt8)],(0:Int),[nat_lit 1065353216,nat_lit 0,nat_lit 3212836864,nat_lit 0],gaps,()),())
abbrev yTP (gaps:List (Q4)):Option ((Q1)×Unit):=some (z0e gaps)
theorem yOm(gaps:List (Q4))(y:(Q1)×Unit)(h:yTP gaps=some y):∃ n,yID n gaps=some y :=
  ⟨0,by rw[← h];show yID 0 gaps=some (z0e gaps);unfold yID z0e;first|rfl|(simp only[yI];done)|(simp only[yI];rfl)⟩
def z0e_e:Entry:={ f:=102,args:=yNk,ress:=yVM,m:=fun x=>yTP x.1 }
theorem yVY:FnOK Tryz.prog z0e_e:=yK (g:=yRO) (fn:=Tryz.f102) yD yJ eNil (by kernel_rfl) (by kernel_rfl) (by kernel_rfl) (fun x y h=>let ⟨n,hn⟩:=yOm x.1 y h;⟨yLX n,iNil,(yU8 n x).trans hn⟩)
abbrev yOE:Ty:=.pair t9 .unit
abbrev ySI:Ty:=.pair t31 .unit
def yQc:G:={ T:=T,E:=[],muts:=[3],fz:=[] }
def yWn:List (List Nat):=[[3,8]]
def yKP(n:Nat):Ann:={ keep:=yWn,fuel:=n,inl:=[],deep:=0 }
def yIu(n:Nat)(r0:List (Q3)→List UInt8→Int→Option (List (Q3)×Unit))(aP:List (Q3))(str1__0:List UInt8)(pos1__0:Int):Option (List (Q3)×Unit) :=
  (bif decide (pos1__0 < (↑str1__0.length:Int))then (bif (yZ str1__0 pos1__0).1==72 then (bif decide (aP.length+(1:Nat)≤memMax)then r0 (aP++[(y3o (yZ str1__0 pos1__0).1,(1:Int),(2:Int),())]) str1__0 (yZ str1__0 pos1__0).2 else none)else (bif (yZ str1__0 pos1__0).1==81 then (bif decide (aP.length+(1:Nat)≤memMax)then r0 (aP++[(y3o (yZ str1__0 pos1__0).1,(1:Int),(1:Int),())]) str1__0 (yZ str1__0 pos1__0).2 else none)else (bif (yZ str1__0 pos1__0).1==82 then (bif decide (aP.length+(1:Nat)≤memMax)then r0 (aP++[(y3o (yZ str1__0 pos1__0).1,(1:Int),(3:Int),())]) str1__0 (yZ str1__0 pos1__0).2 else none)else (bif decide (aP.length+(1:Nat)≤memMax)then r0 (aP++[(y3o (yZ str1__0 pos1__0).1,(1:Int),(0:Int),())]) str1__0 (yZ str1__0 pos1__0).2 else none))))else some (aP,()))
def yI0(n:Nat)(k:Nat)(aP:List (Q3))(str1__0:List UInt8)(pos1__0:Int):Option (List (Q3)×Unit) :=
  iter (fun r y=>yIu n (fun aP str1__0 pos1__0=>r ((),((aP,((str1__0,pos1__0),())),()))) y.2.1.1 y.2.1.2.1.1 y.2.1.2.1.2) k ((),((aP,((str1__0,pos1__0),())),()))
def yMm(n:Nat)(names:List UInt8):Option (List (Q3)×Unit) :=
  (yI0 n n ([]) (names) ((0:Int)))
theorem yUB(n:Nat)(x:yOE.den):runF yQc (yKP n) Tryz.f103 yOE ySI x=yMm n x.1:=by kernel_rfl
def y5Y(names:List UInt8):Option (List (Q3)×Unit):=yMm 1000 names
theorem yMB(names:List UInt8)(y:List (Q3)×Unit)(h:y5Y names=some y):∃ n,yMm n names=some y:=⟨1000,h⟩
def z0O_e:Entry:={ f:=103,args:=yOE,ress:=ySI,m:=fun x=>y5Y x.1 }
theorem yRd:FnOK Tryz.prog z0O_e:=yK (g:=yQc) (fn:=Tryz.f103) yD yJ eNil (by kernel_rfl) (by kernel_rfl) (by kernel_rfl) (fun x y h=>let ⟨n,hn⟩:=yMB x.1 y h;⟨yKP n,iNil,(yUB n x).trans hn⟩)
abbrev yO2:Ty:=.pair t175 .unit
abbrev yVI:Ty:=.pair t28 .unit
def yRC:G:={ T:=T,E:=[],muts:=[],fz:=[] }
def yWW:List (List Nat):=[[5,6,7]]
def yLW(n:Nat):Ann:={ keep:=yWW,fuel:=n,inl:=[],deep:=0 }
def yDu(n:Nat)(r0:List Int→Int→Int→Option (Int×Unit))(aT:List Int)(aU:Int)(ax:Int):Option (Int×Unit) :=
  (bif decide (ax < aU)then (Option.bind (idx aT ax) fun v1=>(bif v1 != 0 then some (v1,())else r0 aT aU (IntKind.i64.wrap (ax+1))))else some ((0:Int),()))
def y6B(n:Nat)(k:Nat)(aT:List Int)(aU:Int)(ax:Int):Option (Int×Unit) :=
  iter (fun r y=>yDu n (fun aT aU ax=>r ((aT,(aU,(ax,()))),((),()))) y.1.1 y.1.2.1 y.1.2.2.1) k ((aT,(aU,(ax,()))),((),()))
def yJr(n:Nat)(l:List Int):Option (Int×Unit) :=
  (y6B n n (l) ((↑l.length:Int)) ((0:Int)))
theorem yTS(n:Nat)(x:yO2.den):runF yRC (yLW n) Tryz.f104 yO2 yVI x=yJr n x.1:=by kernel_rfl
def yCl(aT:List Int)(ax:Int)(v1:Int):Option ((Int×Unit)⊕Unit) :=
  (bif v1 != 0 then (some (Sum.inl ((v1,()))))else (some (Sum.inr ())))
def yCv(aT:List Int):Option (Int×Unit) :=
  (some (((0:Int),())))
theorem yCH(n:Nat)(hn:big≤n)(aT:List Int)(hx:List.length (aT) < lenMax):LeF some (yX (fun aj aK a7=>yCl aT aj aK) (fun a7=>yCv aT) 0 (aT) ()) (y6B n n aT (List.length (aT):Int) 0):=by
  refine yk (f:=some) (W:=fun aS aj a7=>y6B n aS aT (List.length (aT):Int) aj) (body:=(fun aj aK a7=>yCl aT aj aK)) (fin:=(fun a7=>yCv aT)) (fun aS aj a7=>?_) hx () n (by unfold big at hn;unfold lenMax at hx;omega)
  show LeF _ _ (yDu n (y6B n aS) aT (List.length (aT):Int) aj)
  exact yA (yE fun v1=>(yA (y7 rfl) (y7 rfl))) (y0a (y7 rfl))
def y1p(l:List Int):Option (Int×Unit) :=
  (bif decide (List.length (l) < lenMax)then yX (fun aj aK a7=>yCl (l) aj aK) (fun a7=>yCv (l)) 0 (l) ()else none)
theorem yNX(l:List Int)(y:Int×Unit)(h:y1p l=some y):∃ n,yJr n l=some y :=
  ⟨big,LeF.top (show LeF some (y1p l) (yJr big l)from (fun (n:Nat) (hn:big≤n)=>show LeF some (y1p l) (yJr n l)from (yh fun hx=>by apply yCH n hn;exact hx)) big (Nat.le_refl _)) h⟩
def z0q_e:Entry:={ f:=104,args:=yO2,ress:=yVI,m:=fun x=>y1p x.1 }
theorem y3P:FnOK Tryz.prog z0q_e:=yK (g:=yRC) (fn:=Tryz.f104) yD yJ eNil (by kernel_rfl) (by kernel_rfl) (by kernel_rfl) (fun x y h=>let ⟨n,hn⟩:=yNX x.1 y h;⟨yLW n,iNil,(yTS n x).trans hn⟩)
abbrev yMj:Ty:=.pair t3 (.pair t3 .unit)
abbrev yVJ:Ty:=.pair t3 .unit
def yUL:G:={ T:=T,E:=[],muts:=[],fz:=[] }
def yWr:List (List Nat):=[]
def yKz(n:Nat):Ann:={ keep:=yWr,fuel:=n,inl:=[],deep:=0 }
def yMA(n:Nat)(a:Int)(b:Int):Option (Int×Unit) :=
  (bif IntKind.i64.wrap ((2:Int) * b)==0 then none else (bif IntKind.i64.wrap ((2:Int) * b)==0 then none else (bif decide ((IntKind.i64.wrap (IntKind.i64.wrap ((2:Int) * a)+b)).tmod (IntKind.i64.wrap ((2:Int) * b)) < 0)then some (IntKind.i64.wrap (IntKind.i64.wrap ((IntKind.i64.wrap (IntKind.i64.wrap ((2:Int) * a)+b)).tdiv (IntKind.i64.wrap ((2:Int) * b))) - (1:Int)),())else some (IntKind.i64.wrap ((IntKind.i64.wrap (IntKind.i64.wrap ((2:Int) * a)+b)).tdiv (IntKind.i64.wrap ((2:Int) * b))),()))))
theorem yTb(n:Nat)(x:yMj.den):runF yUL (yKz n) Tryz.f107 yMj yVJ x=yMA n x.1 x.2.1:=by kernel_rfl
def yNZ(a:Int)(b:Int):Option (Int×Unit):=yMA 0 a b
theorem yLw(a:Int)(b:Int)(y:Int×Unit)(h:yNZ a b=some y):∃ n,yMA n a b=some y:=⟨0,h⟩
def z0J_e:Entry:={ f:=107,args:=yMj,ress:=yVJ,m:=fun x=>yNZ x.1 x.2.1 }
theorem yT8:FnOK Tryz.prog z0J_e:=yK (g:=yUL) (fn:=Tryz.f107) yD yJ eNil (by kernel_rfl) (by kernel_rfl) (by kernel_rfl) (fun x y h=>let ⟨n,hn⟩:=yLw x.1 x.2.1 y h;⟨yKz n,iNil,(yTb n x).trans hn⟩)
abbrev yM2:Ty:=.pair t3 .unit
abbrev yPx:Ty:=.pair t3 .unit
def yVL:G:={ T:=T,E:=[],muts:=[],fz:=[] }
def yWf:List (List Nat):=[]
def yKQ(n:Nat):Ann:={ keep:=yWf,fuel:=n,inl:=[],deep:=0 }
def yJu(n:Nat)(n1:Int):Option (Int×Unit) :=
  some (if IntKind.i64.wrap ((0:Int) - n1) > n1 then IntKind.i64.wrap ((0:Int) - n1)else n1,())
theorem yVc(n:Nat)(x:yM2.den):runF yVL (yKQ n) Tryz.f108 yM2 yPx x=yJu n x.1:=by kernel_rfl
def z07(n1:Int):(Int×Unit) :=
  (if IntKind.i64.wrap ((0:Int) - n1) > n1 then IntKind.i64.wrap ((0:Int) - n1)else n1,())
abbrev yTo (n1:Int):Option (Int×Unit):=some (z07 n1)
theorem yMH(n1:Int)(y:Int×Unit)(h:yTo n1=some y):∃ n,yJu n n1=some y :=
  ⟨0,by rw[← h];show yJu 0 n1=some (z07 n1);unfold yJu z07;first|rfl|(simp only[yI];done)|(simp only[yI];rfl)⟩
def z07_e:Entry:={ f:=108,args:=yM2,ress:=yPx,m:=fun x=>yTo x.1 }
theorem yBF:FnOK Tryz.prog z07_e:=yK (g:=yVL) (fn:=Tryz.f108) yD yJ eNil (by kernel_rfl) (by kernel_rfl) (by kernel_rfl) (fun x y h=>let ⟨n,hn⟩:=yMH x.1 y h;⟨yKQ n,iNil,(yVc n x).trans hn⟩)
abbrev yNy:Ty:=.pair t4 (.pair t28 .unit)
abbrev yS8:Ty:=.pair t28 .unit
def yUZ:G:={ T:=T,E:=[],muts:=[],fz:=[] }
def yX8:List (List Nat):=[]
def yKR(n:Nat):Ann:={ keep:=yX8,fuel:=n,inl:=[],deep:=0 }
def yIH(n:Nat)(holds:Bool)(e:Int):Option (Int×Unit) :=
  (bif holds then some (e,())else some ((0:Int),()))
theorem ySS(n:Nat)(x:yNy.den):runF yUZ (yKR n) Tryz.f113 yNy yS8 x=yIH n x.1 x.2.1:=by kernel_rfl
def z14(holds:Bool)(e:Int):(Int×Unit) :=
  (bif holds then (e,())else ((0:Int),()))
abbrev yU9 (holds:Bool) (e:Int):Option (Int×Unit):=some (z14 holds e)
theorem yPF(holds:Bool)(e:Int)(y:Int×Unit)(h:yU9 holds e=some y):∃ n,yIH n holds e=some y :=
  ⟨0,by rw[← h];show yIH 0 holds e=some (z14 holds e);unfold yIH z14;first|rfl|(simp only[yI];done)|(simp only[yI];rfl)⟩
def z14_e:Entry:={ f:=113,args:=yNy,ress:=yS8,m:=fun x=>yU9 x.1 x.2.1 }
theorem y5u:FnOK Tryz.prog z14_e:=yK (g:=yUZ) (fn:=Tryz.f113) yD yJ eNil (by kernel_rfl) (by kernel_rfl) (by kernel_rfl) (fun x y h=>let ⟨n,hn⟩:=yPF x.1 x.2.1 y h;⟨yKR n,iNil,(ySS n x).trans hn⟩)
abbrev zF_a:Ty:=.pair t23 (.pair t177 .unit)
abbrev zF_r:Ty:=.pair t175 .unit
def zF_g:G:={ T:=T,E:=[],muts:=[5],fz:=[] }
def zF_k:List (List Nat):=[[1,5,8,9,10]]
def yT9(n:Nat):Ann:={ keep:=zF_k,fuel:=n,inl:=[],deep:=0 }
def yGF(n:Nat)(r0:((Q4)×Unit→Option (Int×Unit))→List (Q4)→Int→Int→List Int→Option (List Int×Unit))(af:(Q4)×Unit→Option (Int×Unit))(a8:List (Q4))(ai:Int)(aa:Int)(ak:List Int):Option (List Int×Unit) :=
  (bif decide (aa < ai)then (Option.bind (idx a8 aa) fun v1=>(Option.bind (af ((v1.1,v1.2.1,()),())) fun v2=>(bif decide (ak.length+(1:Nat)≤memMax)then r0 af a8 ai (IntKind.i64.wrap (aa+1)) (ak++[v2.1])else none)))else some (ak,()))
def y9b(n:Nat)(k:Nat)(af:(Q4)×Unit→Option (Int×Unit))(a8:List (Q4))(ai:Int)(aa:Int)(ak:List Int):Option (List Int×Unit) :=
  iter (fun r y=>yGF n (fun af a8 ai aa ak=>r ((af,(a8,(ai,(aa,())))),((ak,()),()))) y.1.1 y.1.2.1 y.1.2.2.1 y.1.2.2.2.1 y.2.1.1) k ((af,(a8,(ai,(aa,())))),((ak,()),()))
def zF_m(n:Nat)(l:List (Q4))(of:(Q4)×Unit→Option (Int×Unit)):Option (List Int×Unit) :=
  (y9b n n (of) (l) ((↑l.length:Int)) ((0:Int)) ([]))
theorem yWu(n:Nat)(x:zF_a.den):runF zF_g (yT9 n) Tryz.f115 zF_a zF_r x=zF_m n x.1 x.2.1:=by kernel_rfl
def yN0(af:(Q4)×Unit→Option (Int×Unit))(a8:List (Q4))(aa:Int)(v1:Q4)(ak:List Int):Option ((List Int×Unit)⊕(List Int)) :=
  (Option.bind (af ((v1.1,v1.2.1,()),())) fun v2=>(bif decide (ak.length+(1:Nat)≤memMax)then (some (Sum.inr (ak++[v2.1])))else none))
def yMo(af:(Q4)×Unit→Option (Int×Unit))(a8:List (Q4))(ak:List Int):Option (List Int×Unit) :=
  (some ((ak,())))
theorem yF3(n:Nat)(hn:big≤n)(af:(Q4)×Unit→Option (Int×Unit))(a8:List (Q4))(ak:List Int)(hx:List.length (a8) < lenMax):LeF some (yX (fun aj aK a7=>yN0 af a8 aj aK a7) (fun a7=>yMo af a8 a7) 0 (a8) ak) (y9b n n af a8 (List.length (a8):Int) 0 ak):=by
  refine yk (f:=some) (W:=fun aS aj a7=>y9b n aS af a8 (List.length (a8):Int) aj a7) (body:=(fun aj aK a7=>yN0 af a8 aj aK a7)) (fin:=(fun a7=>yMo af a8 a7)) (fun aS aj a7=>?_) hx ak n (by unfold big at hn;unfold lenMax at hx;omega)
  show LeF _ _ (yGF n (y9b n aS) af a8 (List.length (a8):Int) aj a7)
  exact yA (yE fun v1=>(yE fun v2=>(yA (y7 rfl) y3A))) (y0a (y7 rfl))
def zF_M(l:List (Q4))(of:(Q4)×Unit→Option (Int×Unit)):Option (List Int×Unit) :=
  (bif decide (List.length (l) < lenMax)then yX (fun aj aK a7=>yN0 (of) (l) aj aK a7) (fun a7=>yMo (of) (l) a7) 0 (l) ([])else none)
theorem yTL(l:List (Q4))(of:(Q4)×Unit→Option (Int×Unit))(y:List Int×Unit)(h:zF_M l of=some y):∃ n,zF_m n l of=some y :=
  ⟨big,LeF.top (show LeF some (zF_M l of) (zF_m big l of)from (fun (n:Nat) (hn:big≤n)=>show LeF some (zF_M l of) (zF_m n l of)from (yh fun hx=>by apply yF3 n hn;exact hx)) big (Nat.le_refl _)) h⟩
def zF_e:Entry:={ f:=115,args:=zF_a,ress:=zF_r,m:=fun x=>zF_M x.1 x.2.1 }
theorem yT7:FnOK Tryz.prog zF_e:=yK (g:=zF_g) (fn:=Tryz.f115) yD yJ eNil (by kernel_rfl) (by kernel_rfl) (by kernel_rfl) (fun x y h=>let ⟨n,hn⟩:=yTL x.1 x.2.1 y h;⟨yT9 n,iNil,(yWu n x).trans hn⟩)
abbrev yOT:Ty:=.pair t57 (.pair t57 .unit)
abbrev yVm:Ty:=.pair t57 .unit
def yRT:G:={ T:=T,E:=[],muts:=[],fz:=[] }
def yXD:List (List Nat):=[]
def yLe(n:Nat):Ann:={ keep:=yXD,fuel:=n,inl:=[],deep:=0 }
def yJ3(n:Nat)(a:Q4)(b:Q4):Option ((Q4)×Unit) :=
  some ((IntKind.i64.wrap (IntKind.i64.wrap (a.1 * b.1) - IntKind.i64.wrap (a.2.1 * b.2.1)),IntKind.i64.wrap (IntKind.i64.wrap (a.1 * b.2.1)+IntKind.i64.wrap (a.2.1 * b.1)),()),())
theorem yTc(n:Nat)(x:yOT.den):runF yRT (yLe n) Tryz.f125 yOT yVm x=yJ3 n x.1 x.2.1:=by kernel_rfl
def z0w(a:Q4)(b:Q4):((Q4)×Unit) :=
  ((IntKind.i64.wrap (IntKind.i64.wrap (a.1 * b.1) - IntKind.i64.wrap (a.2.1 * b.2.1)),IntKind.i64.wrap (IntKind.i64.wrap (a.1 * b.2.1)+IntKind.i64.wrap (a.2.1 * b.1)),()),())
abbrev yRo (a:Q4) (b:Q4):Option ((Q4)×Unit):=some (z0w a b)
theorem yM5(a:Q4)(b:Q4)(y:(Q4)×Unit)(h:yRo a b=some y):∃ n,yJ3 n a b=some y :=
  ⟨0,by rw[← h];show yJ3 0 a b=some (z0w a b);unfold yJ3 z0w;first|rfl|(simp only[yI];done)|(simp only[yI];rfl)⟩
def z0w_e:Entry:={ f:=125,args:=yOT,ress:=yVm,m:=fun x=>yRo x.1 x.2.1 }
theorem yCj:FnOK Tryz.prog z0w_e:=yK (g:=yRT) (fn:=Tryz.f125) yD yJ eNil (by kernel_rfl) (by kernel_rfl) (by kernel_rfl) (fun x y h=>let ⟨n,hn⟩:=yM5 x.1 x.2.1 y h;⟨yLe n,iNil,(yTc n x).trans hn⟩)
abbrev yMu:Ty:=.pair t57 .unit
abbrev yTq:Ty:=.pair t57 .unit
def yQ3:G:={ T:=T,E:=[],muts:=[],fz:=[] }
def yXo:List (List Nat):=[]
def yLT(n:Nat):Ann:={ keep:=yXo,fuel:=n,inl:=[],deep:=0 }
def yJ0(n:Nat)(a:Q4):Option ((Q4)×Unit) :=
  some ((a.1,IntKind.i64.wrap ((0:Int) - a.2.1),()),())
theorem yUW(n:Nat)(x:yMu.den):runF yQ3 (yLT n) Tryz.f126 yMu yTq x=yJ0 n x.1:=by kernel_rfl
def z01(a:Q4):((Q4)×Unit) :=
  ((a.1,IntKind.i64.wrap ((0:Int) - a.2.1),()),())
abbrev yTa (a:Q4):Option ((Q4)×Unit):=some (z01 a)
theorem yOZ(a:Q4)(y:(Q4)×Unit)(h:yTa a=some y):∃ n,yJ0 n a=some y :=
  ⟨0,by rw[← h];show yJ0 0 a=some (z01 a);unfold yJ0 z01;first|rfl|(simp only[yI];done)|(simp only[yI];rfl)⟩
def z01_e:Entry:={ f:=126,args:=yMu,ress:=yTq,m:=fun x=>yTa x.1 }
theorem yHt:FnOK Tryz.prog z01_e:=yK (g:=yQ3) (fn:=Tryz.f126) yD yJ eNil (by kernel_rfl) (by kernel_rfl) (by kernel_rfl) (fun x y h=>let ⟨n,hn⟩:=yOZ x.1 y h;⟨yLT n,iNil,(yUW n x).trans hn⟩)
abbrev z7_a:Ty:=.pair t31 (.pair t192 .unit)
abbrev z7_r:Ty:=.pair t31 .unit
def z7_g:G:={ T:=T,E:=[],muts:=[5],fz:=[] }
def z7_k:List (List Nat):=[[1,5,8,9,10]]
def yTN(n:Nat):Ann:={ keep:=z7_k,fuel:=n,inl:=[],deep:=0 }
def yOD(n:Nat)(r0:((Q3)×Unit→Option ((Q3)×Unit))→List (Q3)→Int→Int→List (Q3)→Option (List (Q3)×Unit))(af:(Q3)×Unit→Option ((Q3)×Unit))(a8:List (Q3))(ai:Int)(aa:Int)(ak:List (Q3)):Option (List (Q3)×Unit) :=
  (bif decide (aa < ai)then (Option.bind (idx a8 aa) fun v1=>(Option.bind (af ((v1.1,v1.2.1,v1.2.2.1,()),())) fun v2=>(bif decide (ak.length+(1:Nat)≤memMax)then r0 af a8 ai (IntKind.i64.wrap (aa+1)) (ak++[v2.1])else none)))else some (ak,()))
def yPV(n:Nat)(k:Nat)(af:(Q3)×Unit→Option ((Q3)×Unit))(a8:List (Q3))(ai:Int)(aa:Int)(ak:List (Q3)):Option (List (Q3)×Unit) :=
  iter (fun r y=>yOD n (fun af a8 ai aa ak=>r ((af,(a8,(ai,(aa,())))),((ak,()),()))) y.1.1 y.1.2.1 y.1.2.2.1 y.1.2.2.2.1 y.2.1.1) k ((af,(a8,(ai,(aa,())))),((ak,()),()))
def z7_m(n:Nat)(l:List (Q3))(of:(Q3)×Unit→Option ((Q3)×Unit)):Option (List (Q3)×Unit) :=
  (yPV n n (of) (l) ((↑l.length:Int)) ((0:Int)) ([]))
theorem yYD(n:Nat)(x:z7_a.den):runF z7_g (yTN n) Tryz.f130 z7_a z7_r x=z7_m n x.1 x.2.1:=by kernel_rfl
def z7_M(l:List (Q3))(of:(Q3)×Unit→Option ((Q3)×Unit)):Option (List (Q3)×Unit):=z7_m 1000 l of
theorem ySq(l:List (Q3))(of:(Q3)×Unit→Option ((Q3)×Unit))(y:List (Q3)×Unit)(h:z7_M l of=some y):∃ n,z7_m n l of=some y:=⟨1000,h⟩
def z7_e:Entry:={ f:=130,args:=z7_a,ress:=z7_r,m:=fun x=>z7_M x.1 x.2.1 }
theorem yYB:FnOK Tryz.prog z7_e:=yK (g:=z7_g) (fn:=Tryz.f130) yD yJ eNil (by kernel_rfl) (by kernel_rfl) (by kernel_rfl) (fun x y h=>let ⟨n,hn⟩:=ySq x.1 x.2.1 y h;⟨yTN n,iNil,(yYD n x).trans hn⟩)
abbrev zG_a:Ty:=.pair t23 (.pair t129 .unit)
abbrev zG_r:Ty:=.pair t23 .unit
def zG_g:G:={ T:=T,E:=[],muts:=[5],fz:=[] }
def zG_k:List (List Nat):=[[1,5,8,9,10]]
def yT5(n:Nat):Ann:={ keep:=zG_k,fuel:=n,inl:=[],deep:=0 }
def yNE(n:Nat)(r0:((Q4)×Unit→Option ((Q4)×Unit))→List (Q4)→Int→Int→List (Q4)→Option (List (Q4)×Unit))(af:(Q4)×Unit→Option ((Q4)×Unit))(a8:List (Q4))(ai:Int)(aa:Int)(ak:List (Q4)):Option (List (Q4)×Unit) :=
  (bif decide (aa < ai)then (Option.bind (idx a8 aa) fun v1=>(Option.bind (af ((v1.1,v1.2.1,()),())) fun v2=>(bif decide (ak.length+(1:Nat)≤memMax)then r0 af a8 ai (IntKind.i64.wrap (aa+1)) (ak++[v2.1])else none)))else some (ak,()))
def yMI(n:Nat)(k:Nat)(af:(Q4)×Unit→Option ((Q4)×Unit))(a8:List (Q4))(ai:Int)(aa:Int)(ak:List (Q4)):Option (List (Q4)×Unit) :=
  iter (fun r y=>yNE n (fun af a8 ai aa ak=>r ((af,(a8,(ai,(aa,())))),((ak,()),()))) y.1.1 y.1.2.1 y.1.2.2.1 y.1.2.2.2.1 y.2.1.1) k ((af,(a8,(ai,(aa,())))),((ak,()),()))
def zG_m(n:Nat)(l:List (Q4))(of:(Q4)×Unit→Option ((Q4)×Unit)):Option (List (Q4)×Unit) :=
  (yMI n n (of) (l) ((↑l.length:Int)) ((0:Int)) ([]))
theorem yXI(n:Nat)(x:zG_a.den):runF zG_g (yT5 n) Tryz.f132 zG_a zG_r x=zG_m n x.1 x.2.1:=by kernel_rfl
def zG_M(l:List (Q4))(of:(Q4)×Unit→Option ((Q4)×Unit)):Option (List (Q4)×Unit):=zG_m 1000 l of
theorem ySu(l:List (Q4))(of:(Q4)×Unit→Option ((Q4)×Unit))(y:List (Q4)×Unit)(h:zG_M l of=some y):∃ n,zG_m n l of=some y:=⟨1000,h⟩
def zG_e:Entry:={ f:=132,args:=zG_a,ress:=zG_r,m:=fun x=>zG_M x.1 x.2.1 }
theorem yXF:FnOK Tryz.prog zG_e:=yK (g:=zG_g) (fn:=Tryz.f132) yD yJ eNil (by kernel_rfl) (by kernel_rfl) (by kernel_rfl) (fun x y h=>let ⟨n,hn⟩:=ySu x.1 x.2.1 y h;⟨yT5 n,iNil,(yXI n x).trans hn⟩)
abbrev yNx:Ty:=.pair t57 (.pair t3 .unit)
abbrev yQ8:Ty:=.pair t57 .unit
def yQF:G:={ T:=T,E:=[],muts:=[],fz:=[] }
def yW8:List (List Nat):=[]
def yKN(n:Nat):Ann:={ keep:=yW8,fuel:=n,inl:=[],deep:=0 }
def yJX(n:Nat)(a:Q4)(n1:Int):Option ((Q4)×Unit) :=
  some ((IntKind.i64.wrap (n1 * a.1),IntKind.i64.wrap (n1 * a.2.1),()),())
theorem yVh(n:Nat)(x:yNx.den):runF yQF (yKN n) Tryz.f134 yNx yQ8 x=yJX n x.1 x.2.1:=by kernel_rfl
def z0Z(a:Q4)(n1:Int):((Q4)×Unit) :=
  ((IntKind.i64.wrap (n1 * a.1),IntKind.i64.wrap (n1 * a.2.1),()),())
abbrev yUk (a:Q4) (n1:Int):Option ((Q4)×Unit):=some (z0Z a n1)
theorem yNY(a:Q4)(n1:Int)(y:(Q4)×Unit)(h:yUk a n1=some y):∃ n,yJX n a n1=some y :=
  ⟨0,by rw[← h];show yJX 0 a n1=some (z0Z a n1);unfold yJX z0Z;first|rfl|(simp only[yI];done)|(simp only[yI];rfl)⟩
def z0Z_e:Entry:={ f:=134,args:=yNx,ress:=yQ8,m:=fun x=>yUk x.1 x.2.1 }
theorem yGa:FnOK Tryz.prog z0Z_e:=yK (g:=yQF) (fn:=Tryz.f134) yD yJ eNil (by kernel_rfl) (by kernel_rfl) (by kernel_rfl) (fun x y h=>let ⟨n,hn⟩:=yNY x.1 x.2.1 y h;⟨yKN n,iNil,(yVh n x).trans hn⟩)
abbrev yNI:Ty:=.pair t57 (.pair t57 .unit)
abbrev ySk:Ty:=.pair t57 .unit
def yQl:G:={ T:=T,E:=[],muts:=[],fz:=[] }
def yWC:List (List Nat):=[]
def yKk(n:Nat):Ann:={ keep:=yWC,fuel:=n,inl:=[],deep:=0 }
def yHy(n:Nat)(a:Q4)(b:Q4):Option ((Q4)×Unit) :=
  some ((IntKind.i64.wrap (a.1+b.1),IntKind.i64.wrap (a.2.1+b.2.1),()),())
theorem ySZ(n:Nat)(x:yNI.den):runF yQl (yKk n) Tryz.f135 yNI ySk x=yHy n x.1 x.2.1:=by kernel_rfl
def z13(a:Q4)(b:Q4):((Q4)×Unit) :=
  ((IntKind.i64.wrap (a.1+b.1),IntKind.i64.wrap (a.2.1+b.2.1),()),())
abbrev yVF (a:Q4) (b:Q4):Option ((Q4)×Unit):=some (z13 a b)
theorem yPU(a:Q4)(b:Q4)(y:(Q4)×Unit)(h:yVF a b=some y):∃ n,yHy n a b=some y :=
  ⟨0,by rw[← h];show yHy 0 a b=some (z13 a b);unfold yHy z13;first|rfl|(simp only[yI];done)|(simp only[yI];rfl)⟩
def z13_e:Entry:={ f:=135,args:=yNI,ress:=ySk,m:=fun x=>yVF x.1 x.2.1 }
theorem yDG:FnOK Tryz.prog z13_e:=yK (g:=yQl) (fn:=Tryz.f135) yD yJ eNil (by kernel_rfl) (by kernel_rfl) (by kernel_rfl) (fun x y h=>let ⟨n,hn⟩:=yPU x.1 x.2.1 y h;⟨yKk n,iNil,(ySZ n x).trans hn⟩)
abbrev zH_a:Ty:=.pair t23 (.pair t196 .unit)
abbrev zH_r:Ty:=.pair t79 .unit
def zH_g:G:={ T:=T,E:=[],muts:=[5],fz:=[] }
def zH_k:List (List Nat):=[[1,5,8,9,10]]
def yUS(n:Nat):Ann:={ keep:=zH_k,fuel:=n,inl:=[],deep:=0 }
def yN8(n:Nat)(r0:((Q4)×Unit→Option ((Nat×Nat)×Unit))→List (Q4)→Int→Int→List (Nat×Nat)→Option (List (Nat×Nat)×Unit))(af:(Q4)×Unit→Option ((Nat×Nat)×Unit))(a8:List (Q4))(ai:Int)(aa:Int)(ak:List (Nat×Nat)):Option (List (Nat×Nat)×Unit) :=
  (bif decide (aa < ai)then (Option.bind (idx a8 aa) fun v1=>(Option.bind (af ((v1.1,v1.2.1,()),())) fun v2=>(bif decide (ak.length+(1:Nat)≤memMax)then r0 af a8 ai (IntKind.i64.wrap (aa+1)) (ak++[v2.1])else none)))else some (ak,()))
def yNn(n:Nat)(k:Nat)(af:(Q4)×Unit→Option ((Nat×Nat)×Unit))(a8:List (Q4))(ai:Int)(aa:Int)(ak:List (Nat×Nat)):Option (List (Nat×Nat)×Unit) :=
  iter (fun r y=>yN8 n (fun af a8 ai aa ak=>r ((af,(a8,(ai,(aa,())))),((ak,()),()))) y.1.1 y.1.2.1 y.1.2.2.1 y.1.2.2.2.1 y.2.1.1) k ((af,(a8,(ai,(aa,())))),((ak,()),()))
def zH_m(n:Nat)(l:List (Q4))(of:(Q4)×Unit→Option ((Nat×Nat)×Unit)):Option (List (Nat×Nat)×Unit) :=
  (yNn n n (of) (l) ((↑l.length:Int)) ((0:Int)) ([]))
theorem yWq(n:Nat)(x:zH_a.den):runF zH_g (yUS n) Tryz.f139 zH_a zH_r x=zH_m n x.1 x.2.1:=by kernel_rfl
def zH_M(l:List (Q4))(of:(Q4)×Unit→Option ((Nat×Nat)×Unit)):Option (List (Nat×Nat)×Unit):=zH_m 1000 l of
theorem yUD(l:List (Q4))(of:(Q4)×Unit→Option ((Nat×Nat)×Unit))(y:List (Nat×Nat)×Unit)(h:zH_M l of=some y):∃ n,zH_m n l of=some y:=⟨1000,h⟩
def zH_e:Entry:={ f:=139,args:=zH_a,ress:=zH_r,m:=fun x=>zH_M x.1 x.2.1 }
theorem yYH:FnOK Tryz.prog zH_e:=yK (g:=zH_g) (fn:=Tryz.f139) yD yJ eNil (by kernel_rfl) (by kernel_rfl) (by kernel_rfl) (fun x y h=>let ⟨n,hn⟩:=yUD x.1 x.2.1 y h;⟨yUS n,iNil,(yWq n x).trans hn⟩)
abbrev yM0:Ty:=.pair t57 (.pair (.ref t165) .unit)
abbrev ySE:Ty:=.pair t165 .unit
def yVZ:G:={ T:=T,E:=[],muts:=[],fz:=[] }
def yXs:List (List Nat):=[]
def yLL(n:Nat):Ann:={ keep:=yXs,fuel:=n,inl:=[],deep:=0 }
def yJh(n:Nat)(z:Q4)(p1:Nat×Nat):Option ((Nat×Nat)×Unit) :=
  some ((yx Go.BinOp.quo Go.FloatKind.f32 (y11 Go.FloatKind.f32 z.1) p1.1,yx Go.BinOp.quo Go.FloatKind.f32 (y11 Go.FloatKind.f32 z.2.1) p1.1),())
theorem yQI(n:Nat)(x:yM0.den):runF yVZ (yLL n) Tryz.f140 yM0 ySE x=yJh n x.1 x.2.1:=by kernel_rfl
def z0W(z:Q4)(p1:Nat×Nat):((Nat×Nat)×Unit) :=
  ((yx Go.BinOp.quo Go.FloatKind.f32 (y11 Go.FloatKind.f32 z.1) p1.1,yx Go.BinOp.quo Go.FloatKind.f32 (y11 Go.FloatKind.f32 z.2.1) p1.1),())
abbrev yN5 (z:Q4) (p1:Nat×Nat):Option ((Nat×Nat)×Unit):=some (z0W z p1)
theorem yMR(z:Q4)(p1:Nat×Nat)(y:(Nat×Nat)×Unit)(h:yN5 z p1=some y):∃ n,yJh n z p1=some y :=
  ⟨0,by rw[← h];show yJh 0 z p1=some (z0W z p1);unfold yJh z0W;first|rfl|(simp only[yI];done)|(simp only[yI];rfl)⟩
def z0W_e:Entry:={ f:=140,args:=yM0,ress:=ySE,m:=fun x=>yN5 x.1 x.2.1 }
theorem yQV:FnOK Tryz.prog z0W_e:=yK (g:=yVZ) (fn:=Tryz.f140) yD yJ eNil (by kernel_rfl) (by kernel_rfl) (by kernel_rfl) (fun x y h=>let ⟨n,hn⟩:=yMR x.1 x.2.1 y h;⟨yLL n,iNil,(yQI n x).trans hn⟩)
abbrev zf_a:Ty:=.pair t58 (.pair t3 .unit)
abbrev zf_r:Ty:=.pair t4 .unit
def zf_g:G:={ T:=T,E:=[],muts:=[],fz:=[] }
def zf_k:List (List Nat):=[]
def yQf(n:Nat):Ann:={ keep:=zf_k,fuel:=n,inl:=[],deep:=0 }
def zf_m(n:Nat)(l:List (Q4))(n1:Int):Option (Bool×Unit) :=
  (bif decide ((↑l.length:Int)≤n1)then some (Bool.true,())else some ((↑l.length:Int)==2049,()))
theorem yWZ(n:Nat)(x:zf_a.den):runF zf_g (yQf n) Tryz.f144 zf_a zf_r x=zf_m n x.1 x.2.1:=by kernel_rfl
def zf(l:List (Q4))(n1:Int):(Bool×Unit) :=
  (bif decide ((↑l.length:Int)≤n1)then (Bool.true,())else ((↑l.length:Int)==2049,()))
abbrev zf_M (l:List (Q4)) (n1:Int):Option (Bool×Unit):=some (zf l n1)
theorem yUP(l:List (Q4))(n1:Int)(y:Bool×Unit)(h:zf_M l n1=some y):∃ n,zf_m n l n1=some y :=
  ⟨0,by rw[← h];show zf_m 0 l n1=some (zf l n1);unfold zf_m zf;first|rfl|(simp only[yI];done)|(simp only[yI];rfl)⟩
def zf_e:Entry:={ f:=144,args:=zf_a,ress:=zf_r,m:=fun x=>zf_M x.1 x.2.1 }
theorem yWS:FnOK Tryz.prog zf_e:=yK (g:=zf_g) (fn:=Tryz.f144) yD yJ eNil (by kernel_rfl) (by kernel_rfl) (by kernel_rfl) (fun x y h=>let ⟨n,hn⟩:=yUP x.1 x.2.1 y h;⟨yQf n,iNil,(yWZ n x).trans hn⟩)
def il124:Inl:={ f:=124,fn:=Tryz.f124,keep:=[],muts:=[],fz:=[] }
theorem y4u:y6A Tryz.prog il124:=⟨by kernel_rfl,by kernel_rfl,fun e0 h=>by cases (show (none:Option LibK)=some e0 from h)⟩
def il195:Inl:={ f:=195,fn:=Tryz.f195,keep:=[[0,1,3,9,10,11],[0,1,3,4,5,9,10,11]],muts:=[],fz:=[] }
theorem y57:y6A Tryz.prog il195:=⟨by kernel_rfl,by kernel_rfl,fun e0 h=>by cases (show (none:Option LibK)=some e0 from h)⟩
abbrev yP4:Ty:=.pair t60 .unit
abbrev yT6:Ty:=.pair t41 .unit
def yTe:G:={ T:=T,E:=[],muts:=[3],fz:=[] }
def yWy:List (List Nat):=[]
def yKh(n:Nat):Ann:={ keep:=yWy,fuel:=n,inl:=[il124,il195],deep:=3 }
def y6i(n:Nat)(r0:Q1→List (Q4)→List Nat→Int→Int→Q1→Q1→Q1→Q1→List Int→Q1→Q1→Q1→Q1→Option (List Int×Unit))(j8:Q1)(j9:List (Q4))(j10:Int)(j11:Nat)(j12:List Nat)(j13:Int)(j14:Int)(j15:Q1)(j16:Q1)(j17:Q1)(j18:Q1)(j19:List Int)(j20:Q1)(j21:Q1)(j22:Q1)(j23:Q1):Option (List Int×Unit) :=
  (bif decide ((↑j9.length:Int) > 0)then (Option.bind (idx j9 (0:Int)) fun v24=>(bif decide (v24.1≤j10)then r0 j8 j9 j12 j13 (IntKind.i64.wrap (j14+1)) j15 j16 j17 j18 j19 j20 j21 j22 j23 else (Option.bind (y01 Go.FloatKind.f32 (yx Go.BinOp.mul Go.FloatKind.f32 j11 (nat_lit 1098907648)) IntKind.i64) fun v29=>(bif decide (j19.length+(1:Nat)≤memMax)then r0 j8 j9 j12 j13 (IntKind.i64.wrap (j14+1)) j15 j16 j17 j18 (j19++[IntKind.i64.wrap (j8.2.1+j10)]) j20 j21 j22 j23 else none))))else (Option.bind (y01 Go.FloatKind.f32 (yx Go.BinOp.mul Go.FloatKind.f32 j11 (nat_lit 1098907648)) IntKind.i64) fun v30=>(bif decide (j19.length+(1:Nat)≤memMax)then r0 j8 j9 j12 j13 (IntKind.i64.wrap (j14+1)) j15 j16 j17 j18 (j19++[IntKind.i64.wrap (j8.2.1+j10)]) j20 j21 j22 j23 else none)))
def yDm(n:Nat)(r0:Q1→List (Q4)→List Nat→Int→Int→Q1→Q1→Q1→Q1→List Int→Q1→Q1→Q1→Q1→Option (List Int×Unit))(r2:Q1→List (Q4)→Int→Nat→List Nat→Int→Int→Q1→Q1→Q1→Q1→List Int→Q1→Q1→Q1→Q1→Option (List Int×Unit))(b7:Q1)(ah:List (Q4))(aY:Int)(bc:Nat)(aL:List Nat)(aH:Int)(aI:Int)(ay:Q1)(az:Q1)(aG:Q1)(aE:Q1)(bJ:List Int)(b8:Q1)(b9:Q1)(bw:Q1)(aW:Q1):Option (List Int×Unit) :=
  (bif decide ((↑ah.length:Int) > 0)then (Option.bind (idx ah (0:Int)) fun v3=>(bif decide (v3.2.1≤aY)then (bif decide ((0:Int)≤1) && decide ((1:Int)≤(↑ah.length:Int))then r2 b7 (List.drop (Int.toNat (1:Int)) ah) aY bc aL aH aI ay az aG aE bJ b8 b9 bw aW else none)else (y6i n r0 (b7) (ah) (aY) (bc) (aL) (aH) (aI) (ay) (az) (aG) (aE) (bJ) (b8) (b9) (bw) (aW))))else (y6i n r0 (b7) (ah) (aY) (bc) (aL) (aH) (aI) (ay) (az) (aG) (aE) (bJ) (b8) (b9) (bw) (aW)))
def y6D(n:Nat)(r0:Q1→List (Q4)→List Nat→Int→Int→Q1→Q1→Q1→Q1→List Int→Q1→Q1→Q1→Q1→Option (List Int×Unit))(k:Nat)(b7:Q1)(ah:List (Q4))(aY:Int)(bc:Nat)(aL:List Nat)(aH:Int)(aI:Int)(ay:Q1)(az:Q1)(aG:Q1)(aE:Q1)(bJ:List Int)(b8:Q1)(b9:Q1)(bw:Q1)(aW:Q1):Option (List Int×Unit) :=
  iter (fun r y=>yDm n r0 (fun b7 ah aY bc aL aH aI ay az aG aE bJ b8 b9 bw aW=>r ((b7,(ah,(aY,(bc,(aL,(aH,(aI,()))))))),(((ay,(az,(aG,((aE,()),())))),((),(bJ,()))),(b8,(b9,(bw,((aW,()),()))))))) y.1.1 y.1.2.1 y.1.2.2.1 y.1.2.2.2.1 y.1.2.2.2.2.1 y.1.2.2.2.2.2.1 y.1.2.2.2.2.2.2.1 y.2.1.1.1 y.2.1.1.2.1 y.2.1.1.2.2.1 y.2.1.1.2.2.2.1.1 y.2.1.2.2.1 y.2.2.1 y.2.2.2.1 y.2.2.2.2.1 y.2.2.2.2.2.1.1) k ((b7,(ah,(aY,(bc,(aL,(aH,(aI,()))))))),(((ay,(az,(aG,((aE,()),())))),((),(bJ,()))),(b8,(b9,(bw,((aW,()),()))))))
def yDJ(n:Nat)(r0:Q1→List (Q4)→List Nat→Int→Int→Q1→Q1→Q1→Q1→List Int→Q1→Q1→Q1→Q1→Option (List Int×Unit))(aF:Q1)(aB:List (Q4))(ai:List Nat)(aa:Int)(au:Int)(aC:Q1)(aD:Q1)(aQ:Q1)(aM:Q1)(bT:List Int)(bm:Q1)(bn:Q1)(bj:Q1)(ba:Q1):Option (List Int×Unit) :=
  (bif decide (au < aa)then (Option.bind (idx ai au) fun v1=>(y6D n r0 n (aF) (aB) (au) (v1) (ai) (aa) (au) (aC) (aD) (aQ) (aM) (bT) (bm) (bn) (bj) (ba)))else some (bT,()))
def y6M(n:Nat)(k:Nat)(aF:Q1)(aB:List (Q4))(ai:List Nat)(aa:Int)(au:Int)(aC:Q1)(aD:Q1)(aQ:Q1)(aM:Q1)(bT:List Int)(bm:Q1)(bn:Q1)(bj:Q1)(ba:Q1):Option (List Int×Unit) :=
  iter (fun r y=>yDJ n (fun aF aB ai aa au aC aD aQ aM bT bm bn bj ba=>r ((aF,(aB,(ai,(aa,(au,()))))),(((aC,(aD,(aQ,((aM,()),())))),((),(bT,()))),(bm,(bn,(bj,((ba,()),()))))))) y.1.1 y.1.2.1 y.1.2.2.1 y.1.2.2.2.1 y.1.2.2.2.2.1 y.2.1.1.1 y.2.1.1.2.1 y.2.1.1.2.2.1 y.2.1.1.2.2.2.1.1 y.2.1.2.2.1 y.2.2.1 y.2.2.2.1 y.2.2.2.2.1 y.2.2.2.2.2.1.1) k ((aF,(aB,(ai,(aa,(au,()))))),(((aC,(aD,(aQ,((aM,()),())))),((),(bT,()))),(bm,(bn,(bj,((ba,()),()))))))
def yI4(n:Nat)(r1:Q1):Option (List Int×Unit) :=
  (y6M n n (r1) (r1.2.2.2.1) (r1.2.2.1) ((↑r1.2.2.1.length:Int)) ((0:Int)) (r1) (r1) (r1) (r1) ([]) (r1) (r1) (r1) (r1))
theorem yVl(n:Nat)(x:yP4.den):runF yTe (yKh n) Tryz.f147 yP4 yT6 x=yI4 n x.1:=by kernel_rfl
def y97(j8:Q1)(j9:List (Q4))(j10:Int)(j11:Nat)(j12:List Nat)(j13:Int)(j14:Int)(j15:Q1)(j16:Q1)(j17:Q1)(j18:Q1)(j19:List Int)(j20:Q1)(j21:Q1)(j22:Q1)(j23:Q1):Option ((List Int×Unit)⊕((List (Q4))×List Int)) :=
  (bif decide ((↑j9.length:Int) > 0)then (Option.bind (idx j9 (0:Int)) fun v24=>(bif decide (v24.1≤j10)then (some (Sum.inr ((j9),(j19))))else (Option.bind (y01 Go.FloatKind.f32 (yx Go.BinOp.mul Go.FloatKind.f32 j11 (nat_lit 1098907648)) IntKind.i64) fun v29=>(bif decide (j19.length+(1:Nat)≤memMax)then (some (Sum.inr ((j9),(j19++[IntKind.i64.wrap (j8.2.1+j10)]))))else none))))else (Option.bind (y01 Go.FloatKind.f32 (yx Go.BinOp.mul Go.FloatKind.f32 j11 (nat_lit 1098907648)) IntKind.i64) fun v30=>(bif decide (j19.length+(1:Nat)≤memMax)then (some (Sum.inr ((j9),(j19++[IntKind.i64.wrap (j8.2.1+j10)]))))else none)))
theorem y2b(n:Nat)(hn:big≤n)(r0:Q1→List (Q4)→List Nat→Int→Int→Q1→Q1→Q1→Q1→List Int→Q1→Q1→Q1→Q1→Option (List Int×Unit))(j8:Q1)(j9:List (Q4))(j10:Int)(j11:Nat)(j12:List Nat)(j13:Int)(j14:Int)(j15:Q1)(j16:Q1)(j17:Q1)(j18:Q1)(j19:List Int)(j20:Q1)(j21:Q1)(j22:Q1)(j23:Q1):LeF (elim some fun (a7:((List (Q4))×List Int))=>r0 j8 a7.1 j12 j13 (IntKind.i64.wrap (j14+1)) j15 j16 j17 j18 a7.2 j20 j21 j22 j23) (y97 j8 j9 j10 j11 j12 j13 j14 j15 j16 j17 j18 j19 j20 j21 j22 j23) (y6i n r0 j8 j9 j10 j11 j12 j13 j14 j15 j16 j17 j18 j19 j20 j21 j22 j23) :=
  (yA (yE fun v24=>(yA (y7 rfl) (yE fun v29=>(yA (y7 rfl) y3A)))) (yE fun v30=>(yA (y7 rfl) y3A)))
def yHE(b7:Q1)(aY:Int)(bc:Nat)(aL:List Nat)(aH:Int)(aI:Int)(ay:Q1)(az:Q1)(aG:Q1)(aE:Q1)(bJ:List Int)(b8:Q1)(b9:Q1)(bw:Q1)(aW:Q1)(ah:List (Q4)):Option (((List Int×Unit)⊕((List (Q4))×List Int))⊕(List (Q4))) :=
  (bif decide ((↑ah.length:Int) > 0)then (Option.bind (idx ah (0:Int)) fun v3=>(bif decide (v3.2.1≤aY)then (bif decide ((0:Int)≤1) && decide ((1:Int)≤(↑ah.length:Int))then (some (Sum.inr (List.drop (Int.toNat (1:Int)) ah)))else none)else (Option.map Sum.inl (y97 (b7) (ah) (aY) (bc) (aL) (aH) (aI) (ay) (az) (aG) (aE) (bJ) (b8) (b9) (bw) (aW)))))else (Option.map Sum.inl (y97 (b7) (ah) (aY) (bc) (aL) (aH) (aI) (ay) (az) (aG) (aE) (bJ) (b8) (b9) (bw) (aW))))
theorem yBh(n:Nat)(hn:big≤n)(r0:Q1→List (Q4)→List Nat→Int→Int→Q1→Q1→Q1→Q1→List Int→Q1→Q1→Q1→Q1→Option (List Int×Unit))(b7:Q1)(aY:Int)(bc:Nat)(aL:List Nat)(aH:Int)(aI:Int)(ay:Q1)(az:Q1)(aG:Q1)(aE:Q1)(bJ:List Int)(b8:Q1)(b9:Q1)(bw:Q1)(aW:Q1)(ah:List (Q4)):LeF (elim some fun (a7:((List (Q4))×List Int))=>r0 b7 a7.1 aL aH (IntKind.i64.wrap (aI+1)) ay az aG aE a7.2 b8 b9 bw aW) (y82 (fun a7=>yHE b7 aY bc aL aH aI ay az aG aE bJ b8 b9 bw aW a7) wMax ah) (y6D n r0 n b7 ah aY bc aL aH aI ay az aG aE bJ b8 b9 bw aW):=by
  refine yDZ (f:=(elim some fun (a7:((List (Q4))×List Int))=>r0 b7 a7.1 aL aH (IntKind.i64.wrap (aI+1)) ay az aG aE a7.2 b8 b9 bw aW)) (W:=fun aS a7=>y6D n r0 aS b7 a7 aY bc aL aH aI ay az aG aE bJ b8 b9 bw aW) (body:=(fun a7=>yHE b7 aY bc aL aH aI ay az aG aE bJ b8 b9 bw aW a7)) (fun aS a7=>?_) wMax n ah (by unfold big at hn;unfold wMax;omega)
  show LeF _ _ (yDm n r0 (y6D n r0 aS) b7 a7 aY bc aL aH aI ay az aG aE bJ b8 b9 bw aW)
  exact (yA (yE fun v3=>(yA (yA (y7 rfl) y3A) (y0a (by apply y2b n hn)))) (y0a (by apply y2b n hn)))
def yDd(aF:Q1)(ai:List Nat)(aC:Q1)(aD:Q1)(aQ:Q1)(aM:Q1)(bm:Q1)(bn:Q1)(bj:Q1)(ba:Q1)(au:Int)(v1:Nat)(aB:List (Q4))(bT:List Int):Option ((List Int×Unit)⊕((List (Q4))×List Int)) :=
  (y82 (fun a7=>yHE (aF) (au) (v1) (ai) ((↑ai.length:Int)) (au) (aC) (aD) (aQ) (aM) (bT) (bm) (bn) (bj) (ba) a7) wMax (aB))
def yGi(aF:Q1)(ai:List Nat)(aC:Q1)(aD:Q1)(aQ:Q1)(aM:Q1)(bm:Q1)(bn:Q1)(bj:Q1)(ba:Q1)(aB:List (Q4))(bT:List Int):Option (List Int×Unit) :=
  (some ((bT,())))
theorem yCM(n:Nat)(hn:big≤n)(aF:Q1)(ai:List Nat)(aC:Q1)(aD:Q1)(aQ:Q1)(aM:Q1)(bm:Q1)(bn:Q1)(bj:Q1)(ba:Q1)(aB:List (Q4))(bT:List Int)(hx:List.length (ai) < lenMax):LeF some (yX (fun aj aK a7=>yDd aF ai aC aD aQ aM bm bn bj ba aj aK a7.1 a7.2) (fun a7=>yGi aF ai aC aD aQ aM bm bn bj ba a7.1 a7.2) 0 (ai) (aB,bT)) (y6M n n aF aB ai (List.length (ai):Int) 0 aC aD aQ aM bT bm bn bj ba):=by
  refine yk (f:=some) (W:=fun aS aj a7=>y6M n aS aF a7.1 ai (List.length (ai):Int) aj aC aD aQ aM a7.2 bm bn bj ba) (body:=(fun aj aK a7=>yDd aF ai aC aD aQ aM bm bn bj ba aj aK a7.1 a7.2)) (fin:=(fun a7=>yGi aF ai aC aD aQ aM bm bn bj ba a7.1 a7.2)) (fun aS aj a7=>?_) hx (aB,bT) n (by unfold big at hn;unfold lenMax at hx;omega)
  show LeF _ _ (yDJ n (y6M n aS) aF a7.1 ai (List.length (ai):Int) aj aC aD aQ aM a7.2 bm bn bj ba)
  exact yA (yE fun v1=>(by apply yBh n hn)) (y0a (y7 rfl))
def y9a(r1:Q1):Option (List Int×Unit) :=
  (bif decide (List.length (r1.2.2.1) < lenMax)then yX (fun aj aK a7=>yDd (r1) (r1.2.2.1) (r1) (r1) (r1) (r1) (r1) (r1) (r1) (r1) aj aK a7.1 a7.2) (fun a7=>yGi (r1) (r1.2.2.1) (r1) (r1) (r1) (r1) (r1) (r1) (r1) (r1) a7.1 a7.2) 0 (r1.2.2.1) ((r1.2.2.2.1),([]))else none)
theorem yOR(r1:Q1)(y:List Int×Unit)(h:y9a r1=some y):∃ n,yI4 n r1=some y :=
  ⟨big,LeF.top (show LeF some (y9a r1) (yI4 big r1)from (fun (n:Nat) (hn:big≤n)=>show LeF some (y9a r1) (yI4 n r1)from (yh fun hx=>by apply yCM n hn;exact hx)) big (Nat.le_refl _)) h⟩
def z0v_e:Entry:={ f:=147,args:=yP4,ress:=yT6,m:=fun x=>y9a x.1 }
theorem yFl:FnOK Tryz.prog z0v_e:=yK (g:=yTe) (fn:=Tryz.f147) yD yJ eNil (by kernel_rfl) (by kernel_rfl) (by kernel_rfl) (fun x y h=>let ⟨n,hn⟩:=yOR x.1 y h;⟨yKh n,(y53 y4u (y53 y57 iNil)),(yVl n x).trans hn⟩)
abbrev yNN:Ty:=.pair t57 (.pair t3 .unit)
abbrev yVj:Ty:=.pair t57 .unit
def yTO:G:={ T:=T,E:=[],muts:=[2],fz:=[] }
def yYI:List (List Nat):=[[1,2,4,5]]
def yLP(n:Nat):Ann:={ keep:=yYI,fuel:=n,inl:=[],deep:=0 }
def yCy(n:Nat)(r0:Int→Int→Int→Int→Int→Int→Option ((Q4)×Unit))(bF:Int)(bj:Int)(al:Int)(am:Int)(ac:Int)(ae:Int):Option ((Q4)×Unit) :=
  (bif decide (bj < (IntKind.i64.wrap (bF.tmod (4:Int)+4)).tmod (4:Int))then r0 bF (IntKind.i64.wrap (bj+1)) (IntKind.i64.wrap ((0:Int) - am)) al ac ae else some ((al,am,()),()))
def y6O(n:Nat)(k:Nat)(bF:Int)(bj:Int)(al:Int)(am:Int)(ac:Int)(ae:Int):Option ((Q4)×Unit) :=
  iter (fun r y=>yCy n (fun bF bj al am ac ae=>r ((bF,(bj,())),(((al,(am,())),((ac,(ae,())),())),()))) y.1.1 y.1.2.1 y.2.1.1.1 y.2.1.1.2.1 y.2.1.2.1.1 y.2.1.2.1.2.1) k ((bF,(bj,())),(((al,(am,())),((ac,(ae,())),())),()))
def yIj(n:Nat)(a:Q4)(n1:Int):Option ((Q4)×Unit) :=
  (y6O n n (n1) ((0:Int)) (a.1) (a.2.1) ((0:Int)) ((0:Int)))
theorem yVg(n:Nat)(x:yNN.den):runF yTO (yLP n) Tryz.f156 yNN yVj x=yIj n x.1 x.2.1:=by kernel_rfl
def yG6(bF:Int)(ac:Int)(ae:Int)(bj:Int)(al:Int)(am:Int):Option (((Q4)×Unit)⊕(Int×Int)) :=
  (some (Sum.inr ((IntKind.i64.wrap ((0:Int) - am)),(al))))
def yHM(bF:Int)(ac:Int)(ae:Int)(al:Int)(am:Int):Option ((Q4)×Unit) :=
  (some (((al,am,()),())))
theorem yCS(n:Nat)(hn:big≤n)(bF:Int)(ac:Int)(ae:Int)(al:Int)(am:Int)(hx:((IntKind.i64.wrap (bF.tmod (4:Int)+4)).tmod (4:Int))≤9223372036854775807):LeF some (y24 (fun aj a7=>yG6 bF ac ae aj a7.1 a7.2) (fun a7=>yHM bF ac ae a7.1 a7.2) (((IntKind.i64.wrap (bF.tmod (4:Int)+4)).tmod (4:Int)) - 0).toNat 0 (al,am)) (y6O n n bF 0 al am ac ae):=by
  refine y3u (f:=some) (W:=fun aS aj a7=>y6O n aS bF aj a7.1 a7.2 ac ae) (body:=(fun aj a7=>yG6 bF ac ae aj a7.1 a7.2)) (fin:=(fun a7=>yHM bF ac ae a7.1 a7.2)) (fun aS aj a7=>?_) hx (al,am) n 0 (by decide) (by unfold big at hn;omega)
  show LeF _ _ (yCy n (y6O n aS) bF aj a7.1 a7.2 ac ae)
  exact yA (y7 rfl) (y0a (y7 rfl))
def yCW(a:Q4)(n1:Int):Option ((Q4)×Unit) :=
  (bif decide (((IntKind.i64.wrap (n1.tmod (4:Int)+4)).tmod (4:Int))≤9223372036854775807)then y24 (fun aj a7=>yG6 (n1) ((0:Int)) ((0:Int)) aj a7.1 a7.2) (fun a7=>yHM (n1) ((0:Int)) ((0:Int)) a7.1 a7.2) (((IntKind.i64.wrap (n1.tmod (4:Int)+4)).tmod (4:Int)) - 0).toNat 0 ((a.1),(a.2.1))else none)
theorem yO1(a:Q4)(n1:Int)(y:(Q4)×Unit)(h:yCW a n1=some y):∃ n,yIj n a n1=some y :=
  ⟨big,LeF.top (show LeF some (yCW a n1) (yIj big a n1)from (fun (n:Nat) (hn:big≤n)=>show LeF some (yCW a n1) (yIj n a n1)from (yh fun hx=>by apply yCS n hn;exact hx)) big (Nat.le_refl _)) h⟩
def z0i_e:Entry:={ f:=156,args:=yNN,ress:=yVj,m:=fun x=>yCW x.1 x.2.1 }
theorem yPp:FnOK Tryz.prog z0i_e:=yK (g:=yTO) (fn:=Tryz.f156) yD yJ eNil (by kernel_rfl) (by kernel_rfl) (by kernel_rfl) (fun x y h=>let ⟨n,hn⟩:=yO1 x.1 x.2.1 y h;⟨yLP n,iNil,(yVg n x).trans hn⟩)
abbrev yPI:Ty:=.pair t58 (.pair t3 .unit)
abbrev yUM:Ty:=.pair t4 .unit
def yUl:G:={ T:=T,E:=[],muts:=[],fz:=[] }
def yXa:List (List Nat):=[[0,1,5]]
def yL5(n:Nat):Ann:={ keep:=yXa,fuel:=n,inl:=[],deep:=0 }
def yD4(n:Nat)(r0:List (Q4)→Int→Int→Option (Bool×Unit))(ar:List (Q4))(aF:Int)(aw:Int):Option (Bool×Unit) :=
  (bif decide (aw < (↑ar.length:Int))then (Option.bind (idx ar aw) fun v1=>(bif decide (aF ≥ v1.1)then (Option.bind (idx ar aw) fun v2=>(bif decide (aF < v2.2.1)then some (Bool.true,())else r0 ar aF (IntKind.i64.wrap (aw+1))))else r0 ar aF (IntKind.i64.wrap (aw+1))))else some (Bool.false,()))
def y6Z(n:Nat)(k:Nat)(ar:List (Q4))(aF:Int)(aw:Int):Option (Bool×Unit) :=
  iter (fun r y=>yD4 n (fun ar aF aw=>r ((ar,(aF,(aw,()))),((),()))) y.1.1 y.1.2.1 y.1.2.2.1) k ((ar,(aF,(aw,()))),((),()))
def yJp(n:Nat)(l:List (Q4))(t:Int):Option (Bool×Unit) :=
  (y6Z n n (l) (t) ((0:Int)))
theorem ySN(n:Nat)(x:yPI.den):runF yUl (yL5 n) Tryz.f159 yPI yUM x=yJp n x.1 x.2.1:=by kernel_rfl
def yAu(ar:List (Q4))(aF:Int)(aw:Int)(v1:Q4):Option ((Bool×Unit)⊕Unit) :=
  (bif decide (aF ≥ v1.1)then (Option.bind (idx ar aw) fun v2=>(bif decide (aF < v2.2.1)then (some (Sum.inl ((Bool.true,()))))else (some (Sum.inr ()))))else (some (Sum.inr ())))
def yDP(ar:List (Q4))(aF:Int):Option (Bool×Unit) :=
  (some ((Bool.false,())))
theorem yCN(n:Nat)(hn:big≤n)(ar:List (Q4))(aF:Int)(hx:List.length (ar) < lenMax):LeF some (yX (fun aj aK a7=>yAu ar aF aj aK) (fun a7=>yDP ar aF) 0 (ar) ()) (y6Z n n ar aF 0):=by
  refine yk (f:=some) (W:=fun aS aj a7=>y6Z n aS ar aF aj) (body:=(fun aj aK a7=>yAu ar aF aj aK)) (fin:=(fun a7=>yDP ar aF)) (fun aS aj a7=>?_) hx () n (by unfold big at hn;unfold lenMax at hx;omega)
  show LeF _ _ (yD4 n (y6Z n aS) ar aF aj)
  exact yA (yE fun v1=>(yA (yE fun v2=>(yA (y7 rfl) (y7 rfl))) (y7 rfl))) (y0a (y7 rfl))
def y9K(l:List (Q4))(t:Int):Option (Bool×Unit) :=
  (bif decide (List.length (l) < lenMax)then yX (fun aj aK a7=>yAu (l) (t) aj aK) (fun a7=>yDP (l) (t)) 0 (l) ()else none)
theorem yO7(l:List (Q4))(t:Int)(y:Bool×Unit)(h:y9K l t=some y):∃ n,yJp n l t=some y :=
  ⟨big,LeF.top (show LeF some (y9K l t) (yJp big l t)from (fun (n:Nat) (hn:big≤n)=>show LeF some (y9K l t) (yJp n l t)from (yh fun hx=>by apply yCN n hn;exact hx)) big (Nat.le_refl _)) h⟩
def z0y_e:Entry:={ f:=159,args:=yPI,ress:=yUM,m:=fun x=>y9K x.1 x.2.1 }
theorem yLC:FnOK Tryz.prog z0y_e:=yK (g:=yUl) (fn:=Tryz.f159) yD yJ eNil (by kernel_rfl) (by kernel_rfl) (by kernel_rfl) (fun x y h=>let ⟨n,hn⟩:=yO7 x.1 x.2.1 y h;⟨yL5 n,iNil,(ySN n x).trans hn⟩)
abbrev zS_a:Ty:=.pair t55 (.pair t3 .unit)
abbrev zS_r:Ty:=.pair t57 .unit
def zS_g:G:={ T:=T,E:=[],muts:=[],fz:=[] }
def zS_k:List (List Nat):=[]
def ySF(n:Nat):Ann:={ keep:=zS_k,fuel:=n,inl:=[],deep:=0 }
def zS_m(n:Nat)(c:Q3)(tick:Int):Option ((Q4)×Unit) :=
  (bif c.2.1==0 then none else (Option.bind (idx [((1:Int),(0:Int),()),((0:Int),(1:Int),()),((-1:Int),(0:Int),()),((0:Int),(-1:Int),())] ((IntKind.i64.wrap (c.2.2.1 * IntKind.i64.wrap (tick.tdiv c.2.1))).tmod (4:Int))) fun v0=>some ((v0.1,v0.2.1,()),())))
theorem yXw(n:Nat)(x:zS_a.den):runF zS_g (ySF n) Tryz.f161 zS_a zS_r x=zS_m n x.1 x.2.1:=by kernel_rfl
def zS_M(c:Q3)(tick:Int):Option ((Q4)×Unit):=zS_m 0 c tick
theorem yQn(c:Q3)(tick:Int)(y:(Q4)×Unit)(h:zS_M c tick=some y):∃ n,zS_m n c tick=some y:=⟨0,h⟩
def zS_e:Entry:={ f:=161,args:=zS_a,ress:=zS_r,m:=fun x=>zS_M x.1 x.2.1 }
theorem yJs:FnOK Tryz.prog zS_e:=yK (g:=zS_g) (fn:=Tryz.f161) yD yJ eNil (by kernel_rfl) (by kernel_rfl) (by kernel_rfl) (fun x y h=>let ⟨n,hn⟩:=yQn x.1 x.2.1 y h;⟨ySF n,iNil,(yXw n x).trans hn⟩)
abbrev zA_a:Ty:=.pair t31 (.pair t215 .unit)
abbrev zA_r:Ty:=.pair t23 .unit
def zA_g:G:={ T:=T,E:=[],muts:=[5],fz:=[] }
def zA_k:List (List Nat):=[[1,5,8,9,10]]
def yRm(n:Nat):Ann:={ keep:=zA_k,fuel:=n,inl:=[],deep:=0 }
def yMQ(n:Nat)(r0:((Q3)×Unit→Option ((Q4)×Unit))→List (Q3)→Int→Int→List (Q4)→Option (List (Q4)×Unit))(af:(Q3)×Unit→Option ((Q4)×Unit))(a8:List (Q3))(ai:Int)(aa:Int)(ak:List (Q4)):Option (List (Q4)×Unit) :=
  (bif decide (aa < ai)then (Option.bind (idx a8 aa) fun v1=>(Option.bind (af ((v1.1,v1.2.1,v1.2.2.1,()),())) fun v2=>(bif decide (ak.length+(1:Nat)≤memMax)then r0 af a8 ai (IntKind.i64.wrap (aa+1)) (ak++[v2.1])else none)))else some (ak,()))
def yP2(n:Nat)(k:Nat)(af:(Q3)×Unit→Option ((Q4)×Unit))(a8:List (Q3))(ai:Int)(aa:Int)(ak:List (Q4)):Option (List (Q4)×Unit) :=
  iter (fun r y=>yMQ n (fun af a8 ai aa ak=>r ((af,(a8,(ai,(aa,())))),((ak,()),()))) y.1.1 y.1.2.1 y.1.2.2.1 y.1.2.2.2.1 y.2.1.1) k ((af,(a8,(ai,(aa,())))),((ak,()),()))
def zA_m(n:Nat)(l:List (Q3))(of:(Q3)×Unit→Option ((Q4)×Unit)):Option (List (Q4)×Unit) :=
  (yP2 n n (of) (l) ((↑l.length:Int)) ((0:Int)) ([]))
theorem yWA(n:Nat)(x:zA_a.den):runF zA_g (yRm n) Tryz.f162 zA_a zA_r x=zA_m n x.1 x.2.1:=by kernel_rfl
def zA_M(l:List (Q3))(of:(Q3)×Unit→Option ((Q4)×Unit)):Option (List (Q4)×Unit):=zA_m 1000 l of
theorem yV3(l:List (Q3))(of:(Q3)×Unit→Option ((Q4)×Unit))(y:List (Q4)×Unit)(h:zA_M l of=some y):∃ n,zA_m n l of=some y:=⟨1000,h⟩
def zA_e:Entry:={ f:=162,args:=zA_a,ress:=zA_r,m:=fun x=>zA_M x.1 x.2.1 }
theorem yPT:FnOK Tryz.prog zA_e:=yK (g:=zA_g) (fn:=Tryz.f162) yD yJ eNil (by kernel_rfl) (by kernel_rfl) (by kernel_rfl) (fun x y h=>let ⟨n,hn⟩:=yV3 x.1 x.2.1 y h;⟨yRm n,iNil,(yWA n x).trans hn⟩)
abbrev zj_a:Ty:=.pair t183 (.pair t3 (.pair t23 .unit))
abbrev zj_r:Ty:=.pair t183 .unit
def zj_g:G:={ T:=T,E:=[],muts:=[],fz:=[11] }
def zj_k:List (List Nat):=[[0,1,2,7,13,14]]
def yTB(n:Nat):Ann:={ keep:=zj_k,fuel:=n,inl:=[],deep:=0 }
def yPd(n:Nat)(r0:List (List (Q4))→Int→List (Q4)→Int→Int→List (List (Q4))→Option (List (List (Q4))×Unit))(bp:List (List (Q4)))(bi:Int)(bz:List (Q4))(bx:Int)(aN:Int)(ak:List (List (Q4))):Option (List (List (Q4))×Unit) :=
  (bif decide (aN < bx)then (Option.bind (idx bp aN) fun v1=>(bif Bool.true && decide ((0:Int)≤(↑v1.length:Int)) && decide ((↑v1.length:Int)≤(↑memMax:Int)) && (↑v1.length:Int)==(↑v1.length:Int)then (Option.bind (idx ak aN) fun v2=>(Option.bind (ak[aN.toNat]?) fun v3=>(Option.bind (idx (ak.set aN.toNat (List.replicate ((↑v1.length:Int).toNat) (((0:Int),(0:Int),())):List (Q4))) aN) fun v4=>(Option.bind ((ak.set aN.toNat (List.replicate ((↑v1.length:Int).toNat) (((0:Int),(0:Int),())):List (Q4)))[aN.toNat]?) fun v5=>(Option.bind (idx bp aN) fun v6=>(Option.bind ((ak.set aN.toNat (List.replicate ((↑v1.length:Int).toNat) (((0:Int),(0:Int),())):List (Q4)))[aN.toNat]?) fun v7=>(bif decide (v6.length=v7.length)then (Option.bind (idx ((ak.set aN.toNat (List.replicate ((↑v1.length:Int).toNat) (((0:Int),(0:Int),())):List (Q4))).set aN.toNat v6) aN) fun v8=>(Option.bind (((ak.set aN.toNat (List.replicate ((↑v1.length:Int).toNat) (((0:Int),(0:Int),())):List (Q4))).set aN.toNat v6)[aN.toNat]?) fun v9=>(Option.bind (idx bz aN) fun v10=>(Option.bind (((ak.set aN.toNat (List.replicate ((↑v1.length:Int).toNat) (((0:Int),(0:Int),())):List (Q4))).set aN.toNat v6)[aN.toNat]?) fun v11=>(Option.bind (idx v11 bi) fun v12=>(Option.bind (((ak.set aN.toNat (List.replicate ((↑v1.length:Int).toNat) (((0:Int),(0:Int),())):List (Q4))).set aN.toNat v6)[aN.toNat]?) fun v13=>(Option.bind (v13[bi.toNat]?) fun v14=>r0 bp bi bz bx (IntKind.i64.wrap (aN+1)) (((ak.set aN.toNat (List.replicate ((↑v1.length:Int).toNat) (((0:Int),(0:Int),())):List (Q4))).set aN.toNat v6).set aN.toNat (v13.set bi.toNat v10)))))))))else none)))))))else none))else some (ak,()))
def yNb(n:Nat)(k:Nat)(bp:List (List (Q4)))(bi:Int)(bz:List (Q4))(bx:Int)(aN:Int)(ak:List (List (Q4))):Option (List (List (Q4))×Unit) :=
  iter (fun r y=>yPd n (fun bp bi bz bx aN ak=>r ((bp,(bi,(bz,(bx,(aN,()))))),((ak,()),()))) y.1.1 y.1.2.1 y.1.2.2.1 y.1.2.2.2.1 y.1.2.2.2.2.1 y.2.1.1) k ((bp,(bi,(bz,(bx,(aN,()))))),((ak,()),()))
def zj_m(n:Nat)(m:List (List (Q4)))(column:Int)(values:List (Q4)):Option (List (List (Q4))×Unit) :=
  (bif Bool.true && decide ((0:Int)≤(↑m.length:Int)) && decide ((↑m.length:Int)≤(↑memMax:Int)) && (↑m.length:Int)==(↑m.length:Int)then (yNb n n (m) (column) (values) ((↑m.length:Int)) ((0:Int)) ((List.replicate ((↑m.length:Int).toNat) ([]):List (List (Q4)))))else none)
theorem yXe(n:Nat)(x:zj_a.den):runF zj_g (yTB n) Tryz.f164 zj_a zj_r x=zj_m n x.1 x.2.1 x.2.2.1:=by kernel_rfl
def zj_M(m:List (List (Q4)))(column:Int)(values:List (Q4)):Option (List (List (Q4))×Unit):=zj_m 1000 m column values
theorem yR5(m:List (List (Q4)))(column:Int)(values:List (Q4))(y:List (List (Q4))×Unit)(h:zj_M m column values=some y):∃ n,zj_m n m column values=some y:=⟨1000,h⟩
def zj_e:Entry:={ f:=164,args:=zj_a,ress:=zj_r,m:=fun x=>zj_M x.1 x.2.1 x.2.2.1 }
theorem ySC:FnOK Tryz.prog zj_e:=yK (g:=zj_g) (fn:=Tryz.f164) yD yJ eNil (by kernel_rfl) (by kernel_rfl) (by kernel_rfl) (fun x y h=>let ⟨n,hn⟩:=yR5 x.1 x.2.1 x.2.2.1 y h;⟨yTB n,iNil,(yXe n x).trans hn⟩)
abbrev yNh:Ty:=.pair t210 .unit
abbrev yQX:Ty:=.pair t4 .unit
def yUK:G:={ T:=T,E:=[],muts:=[],fz:=[] }
def yWH:List (List Nat):=[]
def yKV(n:Nat):Ann:={ keep:=yWH,fuel:=n,inl:=[],deep:=0 }
def yKF(n:Nat)(f:Nat):Option (Bool×Unit) :=
  some (ye Go.BinOp.neq Go.FloatKind.f64 f f,())
theorem yTD(n:Nat)(x:yNh.den):runF yUK (yKV n) Tryz.f171 yNh yQX x=yKF n x.1:=by kernel_rfl
def z0h(f:Nat):(Bool×Unit) :=
  (ye Go.BinOp.neq Go.FloatKind.f64 f f,())
abbrev yPv (f:Nat):Option (Bool×Unit):=some (z0h f)
theorem yMs(f:Nat)(y:Bool×Unit)(h:yPv f=some y):∃ n,yKF n f=some y :=
  ⟨0,by rw[← h];show yKF 0 f=some (z0h f);unfold yKF z0h;first|rfl|(simp only[yI];done)|(simp only[yI];rfl)⟩
def z0h_e:Entry:={ f:=171,args:=yNh,ress:=yQX,m:=fun x=>yPv x.1 }
theorem yVS:FnOK Tryz.prog z0h_e:=yK (g:=yUK) (fn:=Tryz.f171) yD yJ eNil (by kernel_rfl) (by kernel_rfl) (by kernel_rfl) (fun x y h=>let ⟨n,hn⟩:=yMs x.1 y h;⟨yKV n,iNil,(yTD n x).trans hn⟩)
abbrev zN_a:Ty:=.pair t41 (.pair t233 .unit)
abbrev zN_r:Ty:=.pair t161 .unit
def zN_g:G:={ T:=T,E:=[],muts:=[5],fz:=[] }
def zN_k:List (List Nat):=[[1,5,8,9,10]]
def yQp(n:Nat):Ann:={ keep:=zN_k,fuel:=n,inl:=[],deep:=0 }
def yNH(n:Nat)(r0:(Int×Unit→Option (List UInt8×Unit))→List Int→Int→Int→List (List UInt8)→Option (List (List UInt8)×Unit))(af:Int×Unit→Option (List UInt8×Unit))(a8:List Int)(ai:Int)(aa:Int)(ak:List (List UInt8)):Option (List (List UInt8)×Unit) :=
  (bif decide (aa < ai)then (Option.bind (idx a8 aa) fun v1=>(Option.bind (af (v1,())) fun v2=>(bif decide (ak.length+(1:Nat)≤memMax)then r0 af a8 ai (IntKind.i64.wrap (aa+1)) (ak++[v2.1])else none)))else some (ak,()))
def yOn(n:Nat)(k:Nat)(af:Int×Unit→Option (List UInt8×Unit))(a8:List Int)(ai:Int)(aa:Int)(ak:List (List UInt8)):Option (List (List UInt8)×Unit) :=
  iter (fun r y=>yNH n (fun af a8 ai aa ak=>r ((af,(a8,(ai,(aa,())))),((ak,()),()))) y.1.1 y.1.2.1 y.1.2.2.1 y.1.2.2.2.1 y.2.1.1) k ((af,(a8,(ai,(aa,())))),((ak,()),()))
def zN_m(n:Nat)(l:List Int)(of:Int×Unit→Option (List UInt8×Unit)):Option (List (List UInt8)×Unit) :=
  (yOn n n (of) (l) ((↑l.length:Int)) ((0:Int)) ([]))
theorem yVx(n:Nat)(x:zN_a.den):runF zN_g (yQp n) Tryz.f176 zN_a zN_r x=zN_m n x.1 x.2.1:=by kernel_rfl
def zN_M(l:List Int)(of:Int×Unit→Option (List UInt8×Unit)):Option (List (List UInt8)×Unit):=zN_m 1000 l of
theorem yVG(l:List Int)(of:Int×Unit→Option (List UInt8×Unit))(y:List (List UInt8)×Unit)(h:zN_M l of=some y):∃ n,zN_m n l of=some y:=⟨1000,h⟩
def zN_e:Entry:={ f:=176,args:=zN_a,ress:=zN_r,m:=fun x=>zN_M x.1 x.2.1 }
theorem yWN:FnOK Tryz.prog zN_e:=yK (g:=zN_g) (fn:=Tryz.f176) yD yJ eNil (by kernel_rfl) (by kernel_rfl) (by kernel_rfl) (fun x y h=>let ⟨n,hn⟩:=yVG x.1 x.2.1 y h;⟨yQp n,iNil,(yVx n x).trans hn⟩)
abbrev yP1:Ty:=.pair t9 .unit
abbrev yUi:Ty:=.pair t4 .unit
def yVn:G:={ T:=T,E:=[],muts:=[],fz:=[] }
def yWl:List (List Nat):=[[0,3]]
def yLb(n:Nat):Ann:={ keep:=yWl,fuel:=n,inl:=[],deep:=0 }
def y3k(n:Nat)(r2:List UInt8→Int→Option (Bool×Unit))(aX:List UInt8)(bq:Int)(v3:UInt8):Option (Bool×Unit) :=
  (bif bq==0 then some (Bool.false,())else (bif (↑v3.toNat:Int) != 95 then (bif decide ((↑v3.toNat:Int) < 48)then some (Bool.false,())else (bif decide ((↑v3.toNat:Int) > 57)then some (Bool.false,())else r2 aX (IntKind.i64.wrap (bq+1))))else r2 aX (IntKind.i64.wrap (bq+1))))
def yCz(n:Nat)(r2:List UInt8→Int→Option (Bool×Unit))(aX:List UInt8)(bq:Int):Option (Bool×Unit) :=
  (bif decide (bq < (↑aX.length:Int))then (Option.bind (idx aX bq) fun v3=>(bif decide ((↑v3.toNat:Int) ≥ 97)then (bif decide ((↑v3.toNat:Int)≤122)then r2 aX (IntKind.i64.wrap (bq+1))else (bif decide ((↑v3.toNat:Int) ≥ 65)then (bif decide ((↑v3.toNat:Int)≤90)then r2 aX (IntKind.i64.wrap (bq+1))else (y3k n r2 aX bq v3))else (y3k n r2 aX bq v3)))else (bif decide ((↑v3.toNat:Int) ≥ 65)then (bif decide ((↑v3.toNat:Int)≤90)then r2 aX (IntKind.i64.wrap (bq+1))else (y3k n r2 aX bq v3))else (y3k n r2 aX bq v3))))else some (Bool.true,()))
def y6C(n:Nat)(k:Nat)(aX:List UInt8)(bq:Int):Option (Bool×Unit) :=
  iter (fun r y=>yCz n (fun aX bq=>r ((aX,(bq,())),((),()))) y.1.1 y.1.2.1) k ((aX,(bq,())),((),()))
def yIZ(n:Nat)(s:List UInt8):Option (Bool×Unit) :=
  (bif (↑s.length:Int)==0 then some (Bool.false,())else (bif decide ((↑s.length:Int) > 24)then some (Bool.false,())else (y6C n n (s) ((0:Int)))))
theorem yVB(n:Nat)(x:yP1.den):runF yVn (yLb n) Tryz.f187 yP1 yUi x=yIZ n x.1:=by kernel_rfl
def y5F(aX:List UInt8)(bq:Int)(v3:UInt8):Option ((Bool×Unit)⊕Unit) :=
  (bif bq==0 then (some (Sum.inl ((Bool.false,()))))else (bif (↑v3.toNat:Int) != 95 then (bif decide ((↑v3.toNat:Int) < 48)then (some (Sum.inl ((Bool.false,()))))else (bif decide ((↑v3.toNat:Int) > 57)then (some (Sum.inl ((Bool.false,()))))else (some (Sum.inr ()))))else (some (Sum.inr ()))))
theorem y0S(n:Nat)(hn:big≤n)(r2:List UInt8→Int→Option (Bool×Unit))(aX:List UInt8)(bq:Int)(v3:UInt8):LeF (elim some fun (a7:Unit)=>r2 aX (IntKind.i64.wrap (bq+1))) (y5F aX bq v3) (y3k n r2 aX bq v3) :=
  (yA (y7 rfl) (yA (yA (y7 rfl) (yA (y7 rfl) (y7 rfl))) (y7 rfl)))
def y8S(aX:List UInt8)(bq:Int)(v3:UInt8):Option ((Bool×Unit)⊕Unit) :=
  (bif decide ((↑v3.toNat:Int) ≥ 97)then (bif decide ((↑v3.toNat:Int)≤122)then (some (Sum.inr ()))else (bif decide ((↑v3.toNat:Int) ≥ 65)then (bif decide ((↑v3.toNat:Int)≤90)then (some (Sum.inr ()))else (y5F aX bq v3))else (y5F aX bq v3)))else (bif decide ((↑v3.toNat:Int) ≥ 65)then (bif decide ((↑v3.toNat:Int)≤90)then (some (Sum.inr ()))else (y5F aX bq v3))else (y5F aX bq v3)))
def yCw(aX:List UInt8):Option (Bool×Unit) :=
  (some ((Bool.true,())))
theorem yBp(n:Nat)(hn:big≤n)(aX:List UInt8)(hx:List.length (aX) < lenMax):LeF some (yX (fun aj aK a7=>y8S aX aj aK) (fun a7=>yCw aX) 0 (aX) ()) (y6C n n aX 0):=by
  refine yk (f:=some) (W:=fun aS aj a7=>y6C n aS aX aj) (body:=(fun aj aK a7=>y8S aX aj aK)) (fin:=(fun a7=>yCw aX)) (fun aS aj a7=>?_) hx () n (by unfold big at hn;unfold lenMax at hx;omega)
  show LeF _ _ (yCz n (y6C n aS) aX aj)
  exact yA (yE fun v3=>(yA (yA (y7 rfl) (yA (yA (y7 rfl) (by apply y0S n hn)) (by apply y0S n hn))) (yA (yA (y7 rfl) (by apply y0S n hn)) (by apply y0S n hn)))) (y0a (y7 rfl))
def yC0(s:List UInt8):Option (Bool×Unit) :=
  (bif (↑s.length:Int)==0 then (some ((Bool.false,())))else (bif decide ((↑s.length:Int) > 24)then (some ((Bool.false,())))else (bif decide (List.length (s) < lenMax)then yX (fun aj aK a7=>y8S (s) aj aK) (fun a7=>yCw (s)) 0 (s) ()else none)))
theorem yPM(s:List UInt8)(y:Bool×Unit)(h:yC0 s=some y):∃ n,yIZ n s=some y :=
  ⟨big,LeF.top (show LeF some (yC0 s) (yIZ big s)from (fun (n:Nat) (hn:big≤n)=>show LeF some (yC0 s) (yIZ n s)from (yA (y7 rfl) (yA (y7 rfl) (yh fun hx=>by apply yBp n hn;exact hx)))) big (Nat.le_refl _)) h⟩
def z0C_e:Entry:={ f:=187,args:=yP1,ress:=yUi,m:=fun x=>yC0 x.1 }
theorem yU1:FnOK Tryz.prog z0C_e:=yK (g:=yVn) (fn:=Tryz.f187) yD yJ eNil (by kernel_rfl) (by kernel_rfl) (by kernel_rfl) (fun x y h=>let ⟨n,hn⟩:=yPM x.1 y h;⟨yLb n,iNil,(yVB n x).trans hn⟩)
abbrev yND:Ty:=.pair t55 .unit
abbrev yTV:Ty:=.pair t55 .unit
def yV7:G:={ T:=T,E:=[],muts:=[],fz:=[] }
def yW4:List (List Nat):=[]
def yKl(n:Nat):Ann:={ keep:=yW4,fuel:=n,inl:=[],deep:=0 }
def yK5(n:Nat)(c:Q3):Option ((Q3)×Unit) :=
  some ((c.1,c.2.1,c.2.2.1,()),())
theorem ySP(n:Nat)(x:yND.den):runF yV7 (yKl n) Tryz.f189 yND yTV x=yK5 n x.1:=by kernel_rfl
def z03(c:Q3):((Q3)×Unit) :=
  ((c.1,c.2.1,c.2.2.1,()),())
abbrev yP3 (c:Q3):Option ((Q3)×Unit):=some (z03 c)
theorem yML(c:Q3)(y:(Q3)×Unit)(h:yP3 c=some y):∃ n,yK5 n c=some y :=
  ⟨0,by rw[← h];show yK5 0 c=some (z03 c);unfold yK5 z03;first|rfl|(simp only[yI];done)|(simp only[yI];rfl)⟩
def z03_e:Entry:={ f:=189,args:=yND,ress:=yTV,m:=fun x=>yP3 x.1 }
theorem yRb:FnOK Tryz.prog z03_e:=yK (g:=yV7) (fn:=Tryz.f189) yD yJ eNil (by kernel_rfl) (by kernel_rfl) (by kernel_rfl) (fun x y h=>let ⟨n,hn⟩:=yML x.1 y h;⟨yKl n,iNil,(ySP n x).trans hn⟩)
abbrev yN2:Ty:=.pair t57 (.pair (.ref t3) .unit)
abbrev ySM:Ty:=.pair t57 .unit
def yRe:G:={ T:=T,E:=[],muts:=[],fz:=[] }
def yYK:List (List Nat):=[]
def yL3(n:Nat):Ann:={ keep:=yYK,fuel:=n,inl:=[],deep:=0 }
def yNa(n:Nat)(z:Q4)(p1:Int):Option ((Q4)×Unit) :=
  (bif p1==0 then none else (bif p1==0 then none else some ((IntKind.i64.wrap (z.1.tdiv p1),IntKind.i64.wrap (z.2.1.tdiv p1),()),())))
theorem ySz(n:Nat)(x:yN2.den):runF yRe (yL3 n) Tryz.f190 yN2 ySM x=yNa n x.1 x.2.1:=by kernel_rfl
def yMg(z:Q4)(p1:Int):Option ((Q4)×Unit):=yNa 0 z p1
theorem yOg(z:Q4)(p1:Int)(y:(Q4)×Unit)(h:yMg z p1=some y):∃ n,yNa n z p1=some y:=⟨0,h⟩
def z04_e:Entry:={ f:=190,args:=yN2,ress:=ySM,m:=fun x=>yMg x.1 x.2.1 }
theorem yRR:FnOK Tryz.prog z04_e:=yK (g:=yRe) (fn:=Tryz.f190) yD yJ eNil (by kernel_rfl) (by kernel_rfl) (by kernel_rfl) (fun x y h=>let ⟨n,hn⟩:=yOg x.1 x.2.1 y h;⟨yL3 n,iNil,(ySz n x).trans hn⟩)
abbrev z8_a:Ty:=.pair t31 (.pair t255 .unit)
abbrev z8_r:Ty:=.pair t96 .unit
def z8_g:G:={ T:=T,E:=[],muts:=[5],fz:=[] }
def z8_k:List (List Nat):=[[1,5,8,9,10]]
def yQQ(n:Nat):Ann:={ keep:=z8_k,fuel:=n,inl:=[],deep:=0 }
def yNR(n:Nat)(r0:((Q3)×Unit→Option (List (Q4)×Unit))→List (Q3)→Int→Int→List (List (Q4))→Option (List (List (Q4))×Unit))(af:(Q3)×Unit→Option (List (Q4)×Unit))(a8:List (Q3))(ai:Int)(aa:Int)(ak:List (List (Q4))):Option (List (List (Q4))×Unit) :=
  (bif decide (aa < ai)then (Option.bind (idx a8 aa) fun v1=>(Option.bind (af ((v1.1,v1.2.1,v1.2.2.1,()),())) fun v2=>(bif decide (ak.length+(1:Nat)≤memMax)then r0 af a8 ai (IntKind.i64.wrap (aa+1)) (ak++[v2.1])else none)))else some (ak,()))
def yNC(n:Nat)(k:Nat)(af:(Q3)×Unit→Option (List (Q4)×Unit))(a8:List (Q3))(ai:Int)(aa:Int)(ak:List (List (Q4))):Option (List (List (Q4))×Unit) :=
  iter (fun r y=>yNR n (fun af a8 ai aa ak=>r ((af,(a8,(ai,(aa,())))),((ak,()),()))) y.1.1 y.1.2.1 y.1.2.2.1 y.1.2.2.2.1 y.2.1.1) k ((af,(a8,(ai,(aa,())))),((ak,()),()))
def z8_m(n:Nat)(l:List (Q3))(of:(Q3)×Unit→Option (List (Q4)×Unit)):Option (List (List (Q4))×Unit) :=
  (yNC n n (of) (l) ((↑l.length:Int)) ((0:Int)) ([]))
theorem yXx(n:Nat)(x:z8_a.den):runF z8_g (yQQ n) Tryz.f191 z8_a z8_r x=z8_m n x.1 x.2.1:=by kernel_rfl
def z8_M(l:List (Q3))(of:(Q3)×Unit→Option (List (Q4)×Unit)):Option (List (List (Q4))×Unit):=z8_m 1000 l of
theorem yQk(l:List (Q3))(of:(Q3)×Unit→Option (List (Q4)×Unit))(y:List (List (Q4))×Unit)(h:z8_M l of=some y):∃ n,z8_m n l of=some y:=⟨1000,h⟩
def z8_e:Entry:={ f:=191,args:=z8_a,ress:=z8_r,m:=fun x=>z8_M x.1 x.2.1 }
theorem yVw:FnOK Tryz.prog z8_e:=yK (g:=z8_g) (fn:=Tryz.f191) yD yJ eNil (by kernel_rfl) (by kernel_rfl) (by kernel_rfl) (fun x y h=>let ⟨n,hn⟩:=yQk x.1 x.2.1 y h;⟨yQQ n,iNil,(yXx n x).trans hn⟩)
abbrev zI_a:Ty:=.pair t35 (.pair t259 .unit)
abbrev zI_r:Ty:=.pair t175 .unit
def zI_g:G:={ T:=T,E:=[],muts:=[5],fz:=[] }
def zI_k:List (List Nat):=[[1,5,8,9,10]]
def yQ4(n:Nat):Ann:={ keep:=zI_k,fuel:=n,inl:=[],deep:=0 }
def yG8(n:Nat)(r0:(Nat×Unit→Option (Int×Unit))→List Nat→Int→Int→List Int→Option (List Int×Unit))(af:Nat×Unit→Option (Int×Unit))(a8:List Nat)(ai:Int)(aa:Int)(ak:List Int):Option (List Int×Unit) :=
  (bif decide (aa < ai)then (Option.bind (idx a8 aa) fun v1=>(Option.bind (af (v1,())) fun v2=>(bif decide (ak.length+(1:Nat)≤memMax)then r0 af a8 ai (IntKind.i64.wrap (aa+1)) (ak++[v2.1])else none)))else some (ak,()))
def y9O(n:Nat)(k:Nat)(af:Nat×Unit→Option (Int×Unit))(a8:List Nat)(ai:Int)(aa:Int)(ak:List Int):Option (List Int×Unit) :=
  iter (fun r y=>yG8 n (fun af a8 ai aa ak=>r ((af,(a8,(ai,(aa,())))),((ak,()),()))) y.1.1 y.1.2.1 y.1.2.2.1 y.1.2.2.2.1 y.2.1.1) k ((af,(a8,(ai,(aa,())))),((ak,()),()))
def zI_m(n:Nat)(l:List Nat)(of:Nat×Unit→Option (Int×Unit)):Option (List Int×Unit) :=
  (y9O n n (of) (l) ((↑l.length:Int)) ((0:Int)) ([]))
theorem yWD(n:Nat)(x:zI_a.den):runF zI_g (yQ4 n) Tryz.f196 zI_a zI_r x=zI_m n x.1 x.2.1:=by kernel_rfl
def yMP(af:Nat×Unit→Option (Int×Unit))(a8:List Nat)(aa:Int)(v1:Nat)(ak:List Int):Option ((List Int×Unit)⊕(List Int)) :=
  (Option.bind (af (v1,())) fun v2=>(bif decide (ak.length+(1:Nat)≤memMax)then (some (Sum.inr (ak++[v2.1])))else none))
def yM1(af:Nat×Unit→Option (Int×Unit))(a8:List Nat)(ak:List Int):Option (List Int×Unit) :=
  (some ((ak,())))
theorem yEa(n:Nat)(hn:big≤n)(af:Nat×Unit→Option (Int×Unit))(a8:List Nat)(ak:List Int)(hx:List.length (a8) < lenMax):LeF some (yX (fun aj aK a7=>yMP af a8 aj aK a7) (fun a7=>yM1 af a8 a7) 0 (a8) ak) (y9O n n af a8 (List.length (a8):Int) 0 ak):=by
  refine yk (f:=some) (W:=fun aS aj a7=>y9O n aS af a8 (List.length (a8):Int) aj a7) (body:=(fun aj aK a7=>yMP af a8 aj aK a7)) (fin:=(fun a7=>yM1 af a8 a7)) (fun aS aj a7=>?_) hx ak n (by unfold big at hn;unfold lenMax at hx;omega)
  show LeF _ _ (yG8 n (y9O n aS) af a8 (List.length (a8):Int) aj a7)
  exact yA (yE fun v1=>(yE fun v2=>(yA (y7 rfl) y3A))) (y0a (y7 rfl))
def zI_M(l:List Nat)(of:Nat×Unit→Option (Int×Unit)):Option (List Int×Unit) :=
  (bif decide (List.length (l) < lenMax)then yX (fun aj aK a7=>yMP (of) (l) aj aK a7) (fun a7=>yM1 (of) (l) a7) 0 (l) ([])else none)
theorem yTJ(l:List Nat)(of:Nat×Unit→Option (Int×Unit))(y:List Int×Unit)(h:zI_M l of=some y):∃ n,zI_m n l of=some y :=
  ⟨big,LeF.top (show LeF some (zI_M l of) (zI_m big l of)from (fun (n:Nat) (hn:big≤n)=>show LeF some (zI_M l of) (zI_m n l of)from (yh fun hx=>by apply yEa n hn;exact hx)) big (Nat.le_refl _)) h⟩
def zI_e:Entry:={ f:=196,args:=zI_a,ress:=zI_r,m:=fun x=>zI_M x.1 x.2.1 }
theorem yWX:FnOK Tryz.prog zI_e:=yK (g:=zI_g) (fn:=Tryz.f196) yD yJ eNil (by kernel_rfl) (by kernel_rfl) (by kernel_rfl) (fun x y h=>let ⟨n,hn⟩:=yTJ x.1 x.2.1 y h;⟨yQ4 n,iNil,(yWD n x).trans hn⟩)
abbrev yMt:Ty:=.pair t175 .unit
abbrev yR4:Ty:=.pair t28 .unit
def yTY:G:={ T:=T,E:=[],muts:=[],fz:=[] }
def yWz:List (List Nat):=[[5,6,7]]
def yL2(n:Nat):Ann:={ keep:=yWz,fuel:=n,inl:=[],deep:=0 }
def yDs(n:Nat)(r0:List Int→Int→Int→Option (Int×Unit))(aT:List Int)(aU:Int)(ax:Int):Option (Int×Unit) :=
  (bif decide (ax < aU)then (Option.bind (idx aT ax) fun v1=>(bif v1 != 0 then some (v1,())else r0 aT aU (IntKind.i64.wrap (ax+1))))else some ((0:Int),()))
def y6b(n:Nat)(k:Nat)(aT:List Int)(aU:Int)(ax:Int):Option (Int×Unit) :=
  iter (fun r y=>yDs n (fun aT aU ax=>r ((aT,(aU,(ax,()))),((),()))) y.1.1 y.1.2.1 y.1.2.2.1) k ((aT,(aU,(ax,()))),((),()))
def yJq(n:Nat)(l:List Int):Option (Int×Unit) :=
  (y6b n n (l) ((↑l.length:Int)) ((0:Int)))
theorem yTz(n:Nat)(x:yMt.den):runF yTY (yL2 n) Tryz.f198 yMt yR4 x=yJq n x.1:=by kernel_rfl
def yDF(aT:List Int)(ax:Int)(v1:Int):Option ((Int×Unit)⊕Unit) :=
  (bif v1 != 0 then (some (Sum.inl ((v1,()))))else (some (Sum.inr ())))
def yCn(aT:List Int):Option (Int×Unit) :=
  (some (((0:Int),())))
theorem yBs(n:Nat)(hn:big≤n)(aT:List Int)(hx:List.length (aT) < lenMax):LeF some (yX (fun aj aK a7=>yDF aT aj aK) (fun a7=>yCn aT) 0 (aT) ()) (y6b n n aT (List.length (aT):Int) 0):=by
  refine yk (f:=some) (W:=fun aS aj a7=>y6b n aS aT (List.length (aT):Int) aj) (body:=(fun aj aK a7=>yDF aT aj aK)) (fin:=(fun a7=>yCn aT)) (fun aS aj a7=>?_) hx () n (by unfold big at hn;unfold lenMax at hx;omega)
  show LeF _ _ (yDs n (y6b n aS) aT (List.length (aT):Int) aj)
  exact yA (yE fun v1=>(yA (y7 rfl) (y7 rfl))) (y0a (y7 rfl))
def y63(l:List Int):Option (Int×Unit) :=
  (bif decide (List.length (l) < lenMax)then yX (fun aj aK a7=>yDF (l) aj aK) (fun a7=>yCn (l)) 0 (l) ()else none)
theorem yNF(l:List Int)(y:Int×Unit)(h:y63 l=some y):∃ n,yJq n l=some y :=
  ⟨big,LeF.top (show LeF some (y63 l) (yJq big l)from (fun (n:Nat) (hn:big≤n)=>show LeF some (y63 l) (yJq n l)from (yh fun hx=>by apply yBs n hn;exact hx)) big (Nat.le_refl _)) h⟩
def z0M_e:Entry:={ f:=198,args:=yMt,ress:=yR4,m:=fun x=>y63 x.1 }
theorem yLk:FnOK Tryz.prog z0M_e:=yK (g:=yTY) (fn:=Tryz.f198) yD yJ eNil (by kernel_rfl) (by kernel_rfl) (by kernel_rfl) (fun x y h=>let ⟨n,hn⟩:=yNF x.1 y h;⟨yL2 n,iNil,(yTz n x).trans hn⟩)
abbrev yMp:Ty:=.pair t4 (.pair t28 .unit)
abbrev yTk:Ty:=.pair t28 .unit
def yV6:G:={ T:=T,E:=[],muts:=[],fz:=[] }
def yYS:List (List Nat):=[]
def yLB(n:Nat):Ann:={ keep:=yYS,fuel:=n,inl:=[],deep:=0 }
def yJG(n:Nat)(holds:Bool)(e:Int):Option (Int×Unit) :=
  (bif holds then some (e,())else some ((0:Int),()))
theorem yRr(n:Nat)(x:yMp.den):runF yV6 (yLB n) Tryz.f199 yMp yTk x=yJG n x.1 x.2.1:=by kernel_rfl
def z0c(holds:Bool)(e:Int):(Int×Unit) :=
  (bif holds then (e,())else ((0:Int),()))
abbrev yQR (holds:Bool) (e:Int):Option (Int×Unit):=some (z0c holds e)
theorem yN6(holds:Bool)(e:Int)(y:Int×Unit)(h:yQR holds e=some y):∃ n,yJG n holds e=some y :=
  ⟨0,by rw[← h];show yJG 0 holds e=some (z0c holds e);unfold yJG z0c;first|rfl|(simp only[yI];done)|(simp only[yI];rfl)⟩
def z0c_e:Entry:={ f:=199,args:=yMp,ress:=yTk,m:=fun x=>yQR x.1 x.2.1 }
theorem yAM:FnOK Tryz.prog z0c_e:=yK (g:=yV6) (fn:=Tryz.f199) yD yJ eNil (by kernel_rfl) (by kernel_rfl) (by kernel_rfl) (fun x y h=>let ⟨n,hn⟩:=yN6 x.1 x.2.1 y h;⟨yLB n,iNil,(yRr n x).trans hn⟩)
abbrev yON:Ty:=.pair t9 .unit
abbrev yUv:Ty:=.pair t4 .unit
def yR0:G:={ T:=T,E:=[],muts:=[],fz:=[] }
def yX2:List (List Nat):=[[0,8]]
def yLN(n:Nat):Ann:={ keep:=yX2,fuel:=n,inl:=[],deep:=0 }
def y4s(n:Nat)(r0:List UInt8→List UInt8→Int→Option (Bool×Unit))(aq:List UInt8)(str0__0:List UInt8)(pos0__0:Int)(j2:Bool)(j7:Bool):Option (Bool×Unit) :=
  (bif !j2 then (bif pos0__0==0 then some (Bool.false,())else (bif !j7 then some (Bool.false,())else r0 aq str0__0 (yZ str0__0 pos0__0).2))else r0 aq str0__0 (yZ str0__0 pos0__0).2)
def y2l(n:Nat)(r0:List UInt8→List UInt8→Int→Option (Bool×Unit))(aq:List UInt8)(str0__0:List UInt8)(pos0__0:Int)(j2:Bool):Option (Bool×Unit) :=
  (bif decide ((yZ str0__0 pos0__0).1 ≥ 48)then (bif decide ((yZ str0__0 pos0__0).1≤57)then (y4s n r0 aq str0__0 pos0__0 j2 (Bool.true))else (y4s n r0 aq str0__0 pos0__0 j2 ((yZ str0__0 pos0__0).1==95)))else (y4s n r0 aq str0__0 pos0__0 j2 ((yZ str0__0 pos0__0).1==95)))
def yDR(n:Nat)(r0:List UInt8→List UInt8→Int→Option (Bool×Unit))(aq:List UInt8)(str0__0:List UInt8)(pos0__0:Int):Option (Bool×Unit) :=
  (bif decide (pos0__0 < (↑str0__0.length:Int))then (bif decide ((yZ str0__0 pos0__0).1 ≥ 65)then (bif decide ((yZ str0__0 pos0__0).1≤90)then (y2l n r0 aq str0__0 pos0__0 (Bool.true))else (bif decide ((yZ str0__0 pos0__0).1 ≥ 97)then (y2l n r0 aq str0__0 pos0__0 (decide ((yZ str0__0 pos0__0).1≤122)))else (y2l n r0 aq str0__0 pos0__0 (Bool.false))))else (bif decide ((yZ str0__0 pos0__0).1 ≥ 97)then (y2l n r0 aq str0__0 pos0__0 (decide ((yZ str0__0 pos0__0).1≤122)))else (y2l n r0 aq str0__0 pos0__0 (Bool.false))))else (bif !aq==[]then some (decide ((↑aq.length:Int)≤24),())else some (Bool.false,())))
def y6J(n:Nat)(k:Nat)(aq:List UInt8)(str0__0:List UInt8)(pos0__0:Int):Option (Bool×Unit) :=
  iter (fun r y=>yDR n (fun aq str0__0 pos0__0=>r ((aq,()),(((str0__0,pos0__0),()),()))) y.1.1 y.2.1.1.1 y.2.1.1.2) k ((aq,()),(((str0__0,pos0__0),()),()))
def yKH(n:Nat)(s:List UInt8):Option (Bool×Unit) :=
  (y6J n n (s) (s) ((0:Int)))
theorem ySm(n:Nat)(x:yON.den):runF yR0 (yLN n) Tryz.f200 yON yUv x=yKH n x.1:=by kernel_rfl
def y7Z(aq:List UInt8)(str0__0:List UInt8)(pos0__0:Int)(j2:Bool)(j7:Bool):Option ((Bool×Unit)⊕Unit) :=
  (bif !j2 then (bif pos0__0==0 then (some (Sum.inl ((Bool.false,()))))else (bif !j7 then (some (Sum.inl ((Bool.false,()))))else (some (Sum.inr ()))))else (some (Sum.inr ())))
theorem y14(n:Nat)(hn:big≤n)(r0:List UInt8→List UInt8→Int→Option (Bool×Unit))(aq:List UInt8)(str0__0:List UInt8)(pos0__0:Int)(j2:Bool)(j7:Bool):LeF (elim some fun (a7:Unit)=>r0 aq str0__0 (yZ (str0__0) pos0__0).2) (y7Z aq str0__0 pos0__0 j2 j7) (y4s n r0 aq str0__0 pos0__0 j2 j7) :=
  (yA (yA (y7 rfl) (yA (y7 rfl) (y7 rfl))) (y7 rfl))
def y4F(aq:List UInt8)(str0__0:List UInt8)(pos0__0:Int)(j2:Bool):Option ((Bool×Unit)⊕Unit) :=
  (bif decide ((yZ str0__0 pos0__0).1 ≥ 48)then (bif decide ((yZ str0__0 pos0__0).1≤57)then (y7Z aq str0__0 pos0__0 j2 (Bool.true))else (y7Z aq str0__0 pos0__0 j2 ((yZ str0__0 pos0__0).1==95)))else (y7Z aq str0__0 pos0__0 j2 ((yZ str0__0 pos0__0).1==95)))
theorem y08(n:Nat)(hn:big≤n)(r0:List UInt8→List UInt8→Int→Option (Bool×Unit))(aq:List UInt8)(str0__0:List UInt8)(pos0__0:Int)(j2:Bool):LeF (elim some fun (a7:Unit)=>r0 aq str0__0 (yZ (str0__0) pos0__0).2) (y4F aq str0__0 pos0__0 j2) (y2l n r0 aq str0__0 pos0__0 j2) :=
  (yA (yA (by apply y14 n hn) (by apply y14 n hn)) (by apply y14 n hn))
def y8Z(aq:List UInt8)(str0__0:List UInt8)(pos0__0:Int):Option ((Bool×Unit)⊕Unit) :=
  (bif decide ((yZ str0__0 pos0__0).1 ≥ 65)then (bif decide ((yZ str0__0 pos0__0).1≤90)then (y4F aq str0__0 pos0__0 (Bool.true))else (bif decide ((yZ str0__0 pos0__0).1 ≥ 97)then (y4F aq str0__0 pos0__0 (decide ((yZ str0__0 pos0__0).1≤122)))else (y4F aq str0__0 pos0__0 (Bool.false))))else (bif decide ((yZ str0__0 pos0__0).1 ≥ 97)then (y4F aq str0__0 pos0__0 (decide ((yZ str0__0 pos0__0).1≤122)))else (y4F aq str0__0 pos0__0 (Bool.false))))
def y85(aq:List UInt8)(str0__0:List UInt8):Option (Bool×Unit) :=
  (bif !aq==[]then (some ((decide ((↑aq.length:Int)≤24),())))else (some ((Bool.false,()))))
theorem yCO(n:Nat)(hn:big≤n)(aq:List UInt8)(str0__0:List UInt8)(hx:List.length (str0__0) < lenMax):LeF some (y7s (str0__0) (fun aj a7=>y8Z aq str0__0 aj) (fun a7=>y85 aq str0__0) (List.length (str0__0)) 0 ()) (y6J n n aq str0__0 0):=by
  refine yJ9 (f:=some) (W:=fun aS aj a7=>y6J n aS aq str0__0 aj) (body:=(fun aj a7=>y8Z aq str0__0 aj)) (fin:=(fun a7=>y85 aq str0__0)) (fun aS aj a7=>?_) () n (by unfold big at hn;unfold lenMax at hx;omega)
  show LeF _ _ (yDR n (y6J n aS) aq str0__0 aj)
  exact yA (yA (yA (by apply y08 n hn) (yA (by apply y08 n hn) (by apply y08 n hn))) (yA (by apply y08 n hn) (by apply y08 n hn))) (y0a (yA (y7 rfl) (y7 rfl)))
def yAn(s:List UInt8):Option (Bool×Unit) :=
  (bif decide (List.length (s) < lenMax)then y7s (s) (fun aj a7=>y8Z (s) (s) aj) (fun a7=>y85 (s) (s)) (List.length (s)) 0 ()else none)
theorem yNS(s:List UInt8)(y:Bool×Unit)(h:yAn s=some y):∃ n,yKH n s=some y :=
  ⟨big,LeF.top (show LeF some (yAn s) (yKH big s)from (fun (n:Nat) (hn:big≤n)=>show LeF some (yAn s) (yKH n s)from (yh fun hx=>by apply yCO n hn;exact hx)) big (Nat.le_refl _)) h⟩
def z09_e:Entry:={ f:=200,args:=yON,ress:=yUv,m:=fun x=>yAn x.1 }
theorem yLR:FnOK Tryz.prog z09_e:=yK (g:=yR0) (fn:=Tryz.f200) yD yJ eNil (by kernel_rfl) (by kernel_rfl) (by kernel_rfl) (fun x y h=>let ⟨n,hn⟩:=yNS x.1 y h;⟨yLN n,iNil,(ySm n x).trans hn⟩)
abbrev zQ_a:Ty:=.pair t63 (.pair (.ref t60) .unit)
abbrev zQ_r:Ty:=.pair t4 .unit
def zQ_g:G:={ T:=T,E:=[],muts:=[],fz:=[] }
def zQ_k:List (List Nat):=[]
def yRw(n:Nat):Ann:={ keep:=zQ_k,fuel:=n,inl:=[],deep:=0 }
def zQ_m(n:Nat)(s:Q4)(p1:Q1):Option (Bool×Unit) :=
  some (decide (s.2.1 > (↑p1.2.2.1.length:Int)),())
theorem yXT(n:Nat)(x:zQ_a.den):runF zQ_g (yRw n) Tryz.f205 zQ_a zQ_r x=zQ_m n x.1 x.2.1:=by kernel_rfl
def zQ(s:Q4)(p1:Q1):(Bool×Unit) :=
  (decide (s.2.1 > (↑p1.2.2.1.length:Int)),())
abbrev zQ_M (s:Q4) (p1:Q1):Option (Bool×Unit):=some (zQ s p1)
theorem ySd(s:Q4)(p1:Q1)(y:Bool×Unit)(h:zQ_M s p1=some y):∃ n,zQ_m n s p1=some y :=
  ⟨0,by rw[← h];show zQ_m 0 s p1=some (zQ s p1);unfold zQ_m zQ;first|rfl|(simp only[yI];done)|(simp only[yI];rfl)⟩
def zQ_e:Entry:={ f:=205,args:=zQ_a,ress:=zQ_r,m:=fun x=>zQ_M x.1 x.2.1 }
theorem yYF:FnOK Tryz.prog zQ_e:=yK (g:=zQ_g) (fn:=Tryz.f205) yD yJ eNil (by kernel_rfl) (by kernel_rfl) (by kernel_rfl) (fun x y h=>let ⟨n,hn⟩:=ySd x.1 x.2.1 y h;⟨yRw n,iNil,(yXT n x).trans hn⟩)
abbrev zO_a:Ty:=.pair t61 .unit
abbrev zO_r:Ty:=.pair t4 .unit
def zO_g:G:={ T:=T,E:=[],muts:=[],fz:=[] }
def zO_k:List (List Nat):=[]
def yQT(n:Nat):Ann:={ keep:=zO_k,fuel:=n,inl:=[],deep:=0 }
def zO_m(n:Nat)(x1:Nat):Option (Bool×Unit) :=
  some (ye Go.BinOp.neq Go.FloatKind.f32 x1 (nat_lit 0),())
theorem yWo(n:Nat)(x:zO_a.den):runF zO_g (yQT n) Tryz.f208 zO_a zO_r x=zO_m n x.1:=by kernel_rfl
def zO(x1:Nat):(Bool×Unit) :=
  (ye Go.BinOp.neq Go.FloatKind.f32 x1 (nat_lit 0),())
abbrev zO_M (x1:Nat):Option (Bool×Unit):=some (zO x1)
theorem yTm(x1:Nat)(y:Bool×Unit)(h:zO_M x1=some y):∃ n,zO_m n x1=some y :=
  ⟨0,by rw[← h];show zO_m 0 x1=some (zO x1);unfold zO_m zO;first|rfl|(simp only[yI];done)|(simp only[yI];rfl)⟩
def zO_e:Entry:={ f:=208,args:=zO_a,ress:=zO_r,m:=fun x=>zO_M x.1 }
theorem yXf:FnOK Tryz.prog zO_e:=yK (g:=zO_g) (fn:=Tryz.f208) yD yJ eNil (by kernel_rfl) (by kernel_rfl) (by kernel_rfl) (fun x y h=>let ⟨n,hn⟩:=yTm x.1 y h;⟨yQT n,iNil,(yWo n x).trans hn⟩)
abbrev zm_a:Ty:=.pair t63 .unit
abbrev zm_r:Ty:=.pair t3 .unit
def zm_g:G:={ T:=T,E:=[],muts:=[],fz:=[] }
def zm_k:List (List Nat):=[]
def yTp(n:Nat):Ann:={ keep:=zm_k,fuel:=n,inl:=[],deep:=0 }
def zm_m(n:Nat)(s:Q4):Option (Int×Unit) :=
  (bif decide (s.1 < 0)then some ((14:Int),())else (bif decide (s.2.1≤s.1)then some ((14:Int),())else (bif decide (s.2.1 > 100000)then some ((14:Int),())else some ((0:Int),()))))
theorem yWL(n:Nat)(x:zm_a.den):runF zm_g (yTp n) Tryz.f209 zm_a zm_r x=zm_m n x.1:=by kernel_rfl
def zm(s:Q4):(Int×Unit) :=
  (bif decide (s.1 < 0)then ((14:Int),())else (bif decide (s.2.1≤s.1)then ((14:Int),())else (bif decide (s.2.1 > 100000)then ((14:Int),())else ((0:Int),()))))
abbrev zm_M (s:Q4):Option (Int×Unit):=some (zm s)
theorem yQN(s:Q4)(y:Int×Unit)(h:zm_M s=some y):∃ n,zm_m n s=some y :=
  ⟨0,by rw[← h];show zm_m 0 s=some (zm s);unfold zm_m zm;first|rfl|(simp only[yI];done)|(simp only[yI];rfl)⟩
def zm_e:Entry:={ f:=209,args:=zm_a,ress:=zm_r,m:=fun x=>zm_M x.1 }
theorem yXR:FnOK Tryz.prog zm_e:=yK (g:=zm_g) (fn:=Tryz.f209) yD yJ eNil (by kernel_rfl) (by kernel_rfl) (by kernel_rfl) (fun x y h=>let ⟨n,hn⟩:=yQN x.1 y h;⟨yTp n,iNil,(yWL n x).trans hn⟩)
abbrev za_a:Ty:=.pair t61 .unit
abbrev za_r:Ty:=.pair t3 .unit
def za_g:G:={ T:=T,E:=[],muts:=[],fz:=[] }
def za_k:List (List Nat):=[]
def yUU(n:Nat):Ann:={ keep:=za_k,fuel:=n,inl:=[],deep:=0 }
def za_m(n:Nat)(x1:Nat):Option (Int×Unit) :=
  (Option.bind (y01 Go.FloatKind.f32 (yx Go.BinOp.mul Go.FloatKind.f32 x1 (nat_lit 1098907648)) IntKind.i64) fun v0=>some (v0,()))
theorem yYP(n:Nat)(x:za_a.den):runF za_g (yUU n) Tryz.f224 za_a za_r x=za_m n x.1:=by kernel_rfl
def za_M(x1:Nat):Option (Int×Unit):=za_m 0 x1
theorem yVN(x1:Nat)(y:Int×Unit)(h:za_M x1=some y):∃ n,za_m n x1=some y:=⟨0,h⟩
def za_e:Entry:={ f:=224,args:=za_a,ress:=za_r,m:=fun x=>za_M x.1 }
theorem yWR:FnOK Tryz.prog za_e:=yK (g:=za_g) (fn:=Tryz.f224) yD yJ eNil (by kernel_rfl) (by kernel_rfl) (by kernel_rfl) (fun x y h=>let ⟨n,hn⟩:=yVN x.1 y h;⟨yUU n,iNil,(yYP n x).trans hn⟩)
abbrev zD_a:Ty:=.pair t58 (.pair t263 .unit)
abbrev zD_r:Ty:=.pair t3 .unit
def zD_g:G:={ T:=T,E:=[],muts:=[],fz:=[] }
def zD_k:List (List Nat):=[[0,1,7,8]]
def yRA(n:Nat):Ann:={ keep:=zD_k,fuel:=n,inl:=[],deep:=0 }
def yHg(n:Nat)(r0:List (Q4)→((Q4)×Unit→Option (Bool×Unit))→Int→Int→Option (Int×Unit))(aq:List (Q4))(b6:(Q4)×Unit→Option (Bool×Unit))(ax:Int)(a8:Int):Option (Int×Unit) :=
  (bif decide (a8 < ax)then (Option.bind (idx aq a8) fun v1=>(Option.bind (b6 (v1,())) fun v2=>(bif v2.1 then some (a8,())else r0 aq b6 ax (IntKind.i64.wrap (a8+1)))))else some ((-1:Int),()))
def y99(n:Nat)(k:Nat)(aq:List (Q4))(b6:(Q4)×Unit→Option (Bool×Unit))(ax:Int)(a8:Int):Option (Int×Unit) :=
  iter (fun r y=>yHg n (fun aq b6 ax a8=>r ((aq,(b6,(ax,(a8,())))),((),()))) y.1.1 y.1.2.1 y.1.2.2.1 y.1.2.2.2.1) k ((aq,(b6,(ax,(a8,())))),((),()))
def zD_m(n:Nat)(s:List (Q4))(f:(Q4)×Unit→Option (Bool×Unit)):Option (Int×Unit) :=
  (y99 n n (s) (f) ((↑s.length:Int)) ((0:Int)))
theorem yXK(n:Nat)(x:zD_a.den):runF zD_g (yRA n) Tryz.f226 zD_a zD_r x=zD_m n x.1 x.2.1:=by kernel_rfl
def yFk(aq:List (Q4))(b6:(Q4)×Unit→Option (Bool×Unit))(a8:Int)(v1:Q4):Option ((Int×Unit)⊕Unit) :=
  (Option.bind (b6 (v1,())) fun v2=>(bif v2.1 then (some (Sum.inl ((a8,()))))else (some (Sum.inr ()))))
def yK8(aq:List (Q4))(b6:(Q4)×Unit→Option (Bool×Unit)):Option (Int×Unit) :=
  (some (((-1:Int),())))
theorem yEB(n:Nat)(hn:big≤n)(aq:List (Q4))(b6:(Q4)×Unit→Option (Bool×Unit))(hx:List.length (aq) < lenMax):LeF some (yX (fun aj aK a7=>yFk aq b6 aj aK) (fun a7=>yK8 aq b6) 0 (aq) ()) (y99 n n aq b6 (List.length (aq):Int) 0):=by
  refine yk (f:=some) (W:=fun aS aj a7=>y99 n aS aq b6 (List.length (aq):Int) aj) (body:=(fun aj aK a7=>yFk aq b6 aj aK)) (fin:=(fun a7=>yK8 aq b6)) (fun aS aj a7=>?_) hx () n (by unfold big at hn;unfold lenMax at hx;omega)
  show LeF _ _ (yHg n (y99 n aS) aq b6 (List.length (aq):Int) aj)
  exact yA (yE fun v1=>(yE fun v2=>(yA (y7 rfl) (y7 rfl)))) (y0a (y7 rfl))
def zD_M(s:List (Q4))(f:(Q4)×Unit→Option (Bool×Unit)):Option (Int×Unit) :=
  (bif decide (List.length (s) < lenMax)then yX (fun aj aK a7=>yFk (s) (f) aj aK) (fun a7=>yK8 (s) (f)) 0 (s) ()else none)
theorem yPy(s:List (Q4))(f:(Q4)×Unit→Option (Bool×Unit))(y:Int×Unit)(h:zD_M s f=some y):∃ n,zD_m n s f=some y :=
  ⟨big,LeF.top (show LeF some (zD_M s f) (zD_m big s f)from (fun (n:Nat) (hn:big≤n)=>show LeF some (zD_M s f) (zD_m n s f)from (yh fun hx=>by apply yEB n hn;exact hx)) big (Nat.le_refl _)) h⟩
def zD_e:Entry:={ f:=226,args:=zD_a,ress:=zD_r,m:=fun x=>zD_M x.1 x.2.1 }
theorem yXm:FnOK Tryz.prog zD_e:=yK (g:=zD_g) (fn:=Tryz.f226) yD yJ eNil (by kernel_rfl) (by kernel_rfl) (by kernel_rfl) (fun x y h=>let ⟨n,hn⟩:=yPy x.1 x.2.1 y h;⟨yRA n,iNil,(yXK n x).trans hn⟩)
abbrev zE_a:Ty:=.pair t35 (.pair t265 .unit)
abbrev zE_r:Ty:=.pair t3 .unit
def zE_g:G:={ T:=T,E:=[],muts:=[],fz:=[] }
def zE_k:List (List Nat):=[[0,1,7,8]]
def yUX(n:Nat):Ann:={ keep:=zE_k,fuel:=n,inl:=[],deep:=0 }
def yHa(n:Nat)(r0:List Nat→(Nat×Unit→Option (Bool×Unit))→Int→Int→Option (Int×Unit))(aq:List Nat)(b6:Nat×Unit→Option (Bool×Unit))(ax:Int)(a8:Int):Option (Int×Unit) :=
  (bif decide (a8 < ax)then (Option.bind (idx aq a8) fun v1=>(Option.bind (b6 (v1,())) fun v2=>(bif v2.1 then some (a8,())else r0 aq b6 ax (IntKind.i64.wrap (a8+1)))))else some ((-1:Int),()))
def y9g(n:Nat)(k:Nat)(aq:List Nat)(b6:Nat×Unit→Option (Bool×Unit))(ax:Int)(a8:Int):Option (Int×Unit) :=
  iter (fun r y=>yHa n (fun aq b6 ax a8=>r ((aq,(b6,(ax,(a8,())))),((),()))) y.1.1 y.1.2.1 y.1.2.2.1 y.1.2.2.2.1) k ((aq,(b6,(ax,(a8,())))),((),()))
def zE_m(n:Nat)(s:List Nat)(f:Nat×Unit→Option (Bool×Unit)):Option (Int×Unit) :=
  (y9g n n (s) (f) ((↑s.length:Int)) ((0:Int)))
theorem yYO(n:Nat)(x:zE_a.den):runF zE_g (yUX n) Tryz.f227 zE_a zE_r x=zE_m n x.1 x.2.1:=by kernel_rfl
def yGv(aq:List Nat)(b6:Nat×Unit→Option (Bool×Unit))(a8:Int)(v1:Nat):Option ((Int×Unit)⊕Unit) :=
  (Option.bind (b6 (v1,())) fun v2=>(bif v2.1 then (some (Sum.inl ((a8,()))))else (some (Sum.inr ()))))
def yK4(aq:List Nat)(b6:Nat×Unit→Option (Bool×Unit)):Option (Int×Unit) :=
  (some (((-1:Int),())))
theorem yFC(n:Nat)(hn:big≤n)(aq:List Nat)(b6:Nat×Unit→Option (Bool×Unit))(hx:List.length (aq) < lenMax):LeF some (yX (fun aj aK a7=>yGv aq b6 aj aK) (fun a7=>yK4 aq b6) 0 (aq) ()) (y9g n n aq b6 (List.length (aq):Int) 0):=by
  refine yk (f:=some) (W:=fun aS aj a7=>y9g n aS aq b6 (List.length (aq):Int) aj) (body:=(fun aj aK a7=>yGv aq b6 aj aK)) (fin:=(fun a7=>yK4 aq b6)) (fun aS aj a7=>?_) hx () n (by unfold big at hn;unfold lenMax at hx;omega)
  show LeF _ _ (yHa n (y9g n aS) aq b6 (List.length (aq):Int) aj)
  exact yA (yE fun v1=>(yE fun v2=>(yA (y7 rfl) (y7 rfl)))) (y0a (y7 rfl))
def zE_M(s:List Nat)(f:Nat×Unit→Option (Bool×Unit)):Option (Int×Unit) :=
  (bif decide (List.length (s) < lenMax)then yX (fun aj aK a7=>yGv (s) (f) aj aK) (fun a7=>yK4 (s) (f)) 0 (s) ()else none)
theorem ySA(s:List Nat)(f:Nat×Unit→Option (Bool×Unit))(y:Int×Unit)(h:zE_M s f=some y):∃ n,zE_m n s f=some y :=
  ⟨big,LeF.top (show LeF some (zE_M s f) (zE_m big s f)from (fun (n:Nat) (hn:big≤n)=>show LeF some (zE_M s f) (zE_m n s f)from (yh fun hx=>by apply yFC n hn;exact hx)) big (Nat.le_refl _)) h⟩
def zE_e:Entry:={ f:=227,args:=zE_a,ress:=zE_r,m:=fun x=>zE_M x.1 x.2.1 }
theorem yW7:FnOK Tryz.prog zE_e:=yK (g:=zE_g) (fn:=Tryz.f227) yD yJ eNil (by kernel_rfl) (by kernel_rfl) (by kernel_rfl) (fun x y h=>let ⟨n,hn⟩:=ySA x.1 x.2.1 y h;⟨yUX n,iNil,(yYO n x).trans hn⟩)
end
end Go.Tw
end
section
set_option maxRecDepth 1000000
namespace Go.Tw
open Go.Vx Go.Vx.B Go.Proofs
noncomputable section
abbrev yLn:Ty:=.pair t94 .unit
abbrev yQo:Ty:=.pair t4 .unit
def yRs:G:={ T:=T,E:=[zf_e],muts:=[],fz:=[] }
def yXX:List (List Nat):=[]
def yKq(n:Nat):Ann:={ keep:=yXX,fuel:=n,inl:=[],deep:=0 }
def yIk(n:Nat)(r1:Q1):Option (Bool×Unit) :=
  (bif decide ((↑r1.1.length:Int)≤60)then (bif decide ((↑r1.2.2.1.length:Int)≤24)then some ((zf r1.2.2.2.1 (8:Int)).1,())else (bif (↑r1.2.2.1.length:Int)==130 then some ((zf r1.2.2.2.1 (8:Int)).1,())else (bif (↑r1.2.2.1.length:Int)==4097 then some ((zf r1.2.2.2.1 (8:Int)).1,())else some (Bool.false,()))))else some (Bool.false,()))
theorem yRD(n:Nat)(x:yLn.den):runF yRs (yKq n) Tryz.f54 yLn yQo x=yIk n x.1:=by kernel_rfl
def z0Q(r1:Q1):(Bool×Unit) :=
  (bif decide ((↑r1.1.length:Int)≤60)then (bif decide ((↑r1.2.2.1.length:Int)≤24)then ((zf r1.2.2.2.1 (8:Int)).1,())else (bif (↑r1.2.2.1.length:Int)==130 then ((zf r1.2.2.2.1 (8:Int)).1,())else (bif (↑r1.2.2.1.length:Int)==4097 then ((zf r1.2.2.2.1 (8:Int)).1,())else (Bool.false,()))))else (Bool.false,()))
abbrev yRx (r1:Q1):Option (Bool×Unit):=some (z0Q r1)
theorem yPk(r1:Q1)(y:Bool×Unit)(h:yRx r1=some y):∃ n,yIk n r1=some y :=
  ⟨0,by rw[← h];show yIk 0 r1=some (z0Q r1);unfold yIk z0Q;first|rfl|(simp only[yI];done)|(simp only[yI];rfl)⟩
def z0Q_e:Entry:={ f:=54,args:=yLn,ress:=yQo,m:=fun x=>yRx x.1 }
theorem ySc:FnOK Tryz.prog z0Q_e:=yK (g:=yRs) (fn:=Tryz.f54) yD yJ (y8 yWS eNil) (by kernel_rfl) (by kernel_rfl) (by kernel_rfl) (fun x y h=>let ⟨n,hn⟩:=yPk x.1 y h;⟨yKq n,iNil,(yRD n x).trans hn⟩)
abbrev zv_a:Ty:=.pair t96 (.pair t96 .unit)
abbrev zv_r:Ty:=.pair t4 .unit
def zv_g:G:={ T:=T,E:=[zX_e],muts:=[],fz:=[] }
def zv_k:List (List Nat):=[[0,1,5]]
def yVo(n:Nat):Ann:={ keep:=zv_k,fuel:=n,inl:=[],deep:=0 }
def yNJ(n:Nat)(r0:List (List (Q4))→List (List (Q4))→Int→Option (Bool×Unit))(av:List (List (Q4)))(aA:List (List (Q4)))(aw:Int):Option (Bool×Unit) :=
  (bif decide (aw < (↑av.length:Int))then (Option.bind (idx av aw) fun v1=>(Option.bind (idx aA aw) fun v2=>(Option.bind (zX_M v1 v2) fun v3=>(bif !v3.1 then some (Bool.false,())else r0 av aA (IntKind.i64.wrap (aw+1))))))else some (Bool.true,()))
def yPa(n:Nat)(k:Nat)(av:List (List (Q4)))(aA:List (List (Q4)))(aw:Int):Option (Bool×Unit) :=
  iter (fun r y=>yNJ n (fun av aA aw=>r ((av,(aA,(aw,()))),((),()))) y.1.1 y.1.2.1 y.1.2.2.1) k ((av,(aA,(aw,()))),((),()))
def zv_m(n:Nat)(a:List (List (Q4)))(b:List (List (Q4))):Option (Bool×Unit) :=
  (bif (↑a.length:Int) != (↑b.length:Int)then some (Bool.false,())else (yPa n n (a) (b) ((0:Int))))
theorem yX5(n:Nat)(x:zv_a.den):runF zv_g (yVo n) Tryz.f64 zv_a zv_r x=zv_m n x.1 x.2.1:=by kernel_rfl
def zv_M(a:List (List (Q4)))(b:List (List (Q4))):Option (Bool×Unit):=zv_m 1000 a b
theorem yVu(a:List (List (Q4)))(b:List (List (Q4)))(y:Bool×Unit)(h:zv_M a b=some y):∃ n,zv_m n a b=some y:=⟨1000,h⟩
def zv_e:Entry:={ f:=64,args:=zv_a,ress:=zv_r,m:=fun x=>zv_M x.1 x.2.1 }
theorem yXC:FnOK Tryz.prog zv_e:=yK (g:=zv_g) (fn:=Tryz.f64) yD yJ (y8 ySw eNil) (by kernel_rfl) (by kernel_rfl) (by kernel_rfl) (fun x y h=>let ⟨n,hn⟩:=yVu x.1 x.2.1 y h;⟨yVo n,iNil,(yX5 n x).trans hn⟩)
abbrev zn_a:Ty:=.pair t126 (.pair t3 .unit)
abbrev zn_r:Ty:=.pair t57 .unit
def zn_g:G:={ T:=T,E:=[z0i_e],muts:=[],fz:=[] }
def zn_k:List (List Nat):=[]
def yR7(n:Nat):Ann:={ keep:=zn_k,fuel:=n,inl:=[],deep:=0 }
def zn_m(n:Nat)(c:Q3)(tick:Int):Option ((Q4)×Unit) :=
  (bif c.2.1==0 then none else (Option.bind (yCW ((1:Int),(0:Int),()) (IntKind.i64.wrap (c.2.2.1 * IntKind.i64.wrap (tick.tdiv c.2.1)))) fun v0=>some ((v0.1.1,v0.1.2.1,()),())))
theorem yXV(n:Nat)(x:zn_a.den):runF zn_g (yR7 n) Tryz.f81 zn_a zn_r x=zn_m n x.1 x.2.1:=by kernel_rfl
def zn_M(c:Q3)(tick:Int):Option ((Q4)×Unit):=zn_m 0 c tick
theorem yRg(c:Q3)(tick:Int)(y:(Q4)×Unit)(h:zn_M c tick=some y):∃ n,zn_m n c tick=some y:=⟨0,h⟩
def zn_e:Entry:={ f:=81,args:=zn_a,ress:=zn_r,m:=fun x=>zn_M x.1 x.2.1 }
theorem yWj:FnOK Tryz.prog zn_e:=yK (g:=zn_g) (fn:=Tryz.f81) yD yJ (y8 yPp eNil) (by kernel_rfl) (by kernel_rfl) (by kernel_rfl) (fun x y h=>let ⟨n,hn⟩:=yRg x.1 x.2.1 y h;⟨yR7 n,iNil,(yXV n x).trans hn⟩)
abbrev yMw:Ty:=.pair t3 (.pair t3 (.pair t3 .unit))
abbrev ySQ:Ty:=.pair t28 .unit
def yUt:G:={ T:=T,E:=[z14_e],muts:=[],fz:=[] }
def yWO:List (List Nat):=[]
def yKd(n:Nat):Ann:={ keep:=yWO,fuel:=n,inl:=[],deep:=0 }
def yKC(n:Nat)(n1:Int)(least:Int)(most:Int):Option (Int×Unit) :=
  (bif decide (n1 < least)then some ((z14 Bool.true (3:Int)).1,())else some ((z14 (decide (n1 > most)) (3:Int)).1,()))
theorem yTE(n:Nat)(x:yMw.den):runF yUt (yKd n) Tryz.f114 yMw ySQ x=yKC n x.1 x.2.1 x.2.2.1:=by kernel_rfl
def z0b(n1:Int)(least:Int)(most:Int):(Int×Unit) :=
  (bif decide (n1 < least)then ((z14 Bool.true (3:Int)).1,())else ((z14 (decide (n1 > most)) (3:Int)).1,()))
abbrev yQv (n1:Int) (least:Int) (most:Int):Option (Int×Unit):=some (z0b n1 least most)
theorem yMM(n1:Int)(least:Int)(most:Int)(y:Int×Unit)(h:yQv n1 least most=some y):∃ n,yKC n n1 least most=some y :=
  ⟨0,by rw[← h];show yKC 0 n1 least most=some (z0b n1 least most);unfold yKC z0b;first|rfl|(simp only[yI];done)|(simp only[yI];rfl)⟩
def z0b_e:Entry:={ f:=114,args:=yMw,ress:=ySQ,m:=fun x=>yQv x.1 x.2.1 x.2.2.1 }
theorem y8R:FnOK Tryz.prog z0b_e:=yK (g:=yUt) (fn:=Tryz.f114) yD yJ (y8 y5u eNil) (by kernel_rfl) (by kernel_rfl) (by kernel_rfl) (fun x y h=>let ⟨n,hn⟩:=yMM x.1 x.2.1 x.2.2.1 y h;⟨yKd n,iNil,(yTE n x).trans hn⟩)
abbrev zl_a:Ty:=.pair t9 .unit
abbrev zl_r:Ty:=.pair t3 .unit
def zl_g:G:={ T:=T,E:=[z0C_e],muts:=[],fz:=[] }
def zl_k:List (List Nat):=[]
def yUI(n:Nat):Ann:={ keep:=zl_k,fuel:=n,inl:=[],deep:=0 }
def zl_m(n:Nat)(s:List UInt8):Option (Int×Unit) :=
  (Option.bind (yC0 s) fun v0=>(bif !v0.1 then some ((8:Int),())else some ((0:Int),())))
theorem yWI(n:Nat)(x:zl_a.den):runF zl_g (yUI n) Tryz.f118 zl_a zl_r x=zl_m n x.1:=by kernel_rfl
def zl_M(s:List UInt8):Option (Int×Unit):=zl_m 0 s
theorem ySo(s:List UInt8)(y:Int×Unit)(h:zl_M s=some y):∃ n,zl_m n s=some y:=⟨0,h⟩
def zl_e:Entry:={ f:=118,args:=zl_a,ress:=zl_r,m:=fun x=>zl_M x.1 }
theorem ySn:FnOK Tryz.prog zl_e:=yK (g:=zl_g) (fn:=Tryz.f118) yD yJ (y8 yU1 eNil) (by kernel_rfl) (by kernel_rfl) (by kernel_rfl) (fun x y h=>let ⟨n,hn⟩:=ySo x.1 y h;⟨yUI n,iNil,(yWI n x).trans hn⟩)
abbrev zq_a:Ty:=.pair t33 .unit
abbrev zq_r:Ty:=.pair t4 .unit
def zq_g:G:={ T:=T,E:=[z07_e],muts:=[],fz:=[] }
def zq_k:List (List Nat):=[[1,6,7,8]]
def yR1(n:Nat):Ann:={ keep:=zq_k,fuel:=n,inl:=[],deep:=0 }
def yMi(n:Nat)(r0:Q2→List (Q4)→Int→Int→Option (Bool×Unit))(aF:Q2)(aU:List (Q4))(ax:Int)(a8:Int):Option (Bool×Unit) :=
  (bif decide (a8 < ax)then (Option.bind (idx aU a8) fun v1=>(bif decide ((if (z07 v1.2.1).1 > (z07 v1.1).1 then (z07 v1.2.1).1 else (z07 v1.1).1) > 4194304)then some (Bool.false,())else r0 aF aU ax (IntKind.i64.wrap (a8+1))))else some (decide (aF.2.2.1≤4096),()))
def yOz(n:Nat)(k:Nat)(aF:Q2)(aU:List (Q4))(ax:Int)(a8:Int):Option (Bool×Unit) :=
  iter (fun r y=>yMi n (fun aF aU ax a8=>r ((aF,(aU,(ax,(a8,())))),((),()))) y.1.1 y.1.2.1 y.1.2.2.1 y.1.2.2.2.1) k ((aF,(aU,(ax,(a8,())))),((),()))
def zq_m(n:Nat)(t:Q2):Option (Bool×Unit) :=
  (yOz n n (t) (t.2.1) ((↑t.2.1.length:Int)) ((0:Int)))
theorem yXB(n:Nat)(x:zq_a.den):runF zq_g (yR1 n) Tryz.f129 zq_a zq_r x=zq_m n x.1:=by kernel_rfl
def zq_M(t:Q2):Option (Bool×Unit):=zq_m 1000 t
theorem yVH(t:Q2)(y:Bool×Unit)(h:zq_M t=some y):∃ n,zq_m n t=some y:=⟨1000,h⟩
def zq_e:Entry:={ f:=129,args:=zq_a,ress:=zq_r,m:=fun x=>zq_M x.1 }
theorem yWJ:FnOK Tryz.prog zq_e:=yK (g:=zq_g) (fn:=Tryz.f129) yD yJ (y8 yBF eNil) (by kernel_rfl) (by kernel_rfl) (by kernel_rfl) (fun x y h=>let ⟨n,hn⟩:=yVH x.1 y h;⟨yR1 n,iNil,(yXB n x).trans hn⟩)
abbrev yPQ:Ty:=.pair t57 .unit
abbrev ySv:Ty:=.pair t28 .unit
def ySf:G:={ T:=T,E:=[z07_e,z14_e],muts:=[],fz:=[] }
def yX3:List (List Nat):=[]
def yKY(n:Nat):Ann:={ keep:=yX3,fuel:=n,inl:=[],deep:=0 }
def yJd(n:Nat)(z:Q4):Option (Int×Unit) :=
  some ((z14 (decide ((if (z07 z.2.1).1 > (z07 z.1).1 then (z07 z.2.1).1 else (z07 z.1).1) > 16777216)) (1:Int)).1,())
theorem yUE(n:Nat)(x:yPQ.den):runF ySf (yKY n) Tryz.f138 yPQ ySv x=yJd n x.1:=by kernel_rfl
def z0V(z:Q4):(Int×Unit) :=
  ((z14 (decide ((if (z07 z.2.1).1 > (z07 z.1).1 then (z07 z.2.1).1 else (z07 z.1).1) > 16777216)) (1:Int)).1,())
abbrev yOc (z:Q4):Option (Int×Unit):=some (z0V z)
theorem yOK(z:Q4)(y:Int×Unit)(h:yOc z=some y):∃ n,yJd n z=some y :=
  ⟨0,by rw[← h];show yJd 0 z=some (z0V z);unfold yJd z0V;first|rfl|(simp only[yI];done)|(simp only[yI];rfl)⟩
def z0V_e:Entry:={ f:=138,args:=yPQ,ress:=ySv,m:=fun x=>yOc x.1 }
theorem yQe:FnOK Tryz.prog z0V_e:=yK (g:=ySf) (fn:=Tryz.f138) yD yJ (y8 yBF (y8 y5u eNil)) (by kernel_rfl) (by kernel_rfl) (by kernel_rfl) (fun x y h=>let ⟨n,hn⟩:=yOK x.1 y h;⟨yKY n,iNil,(yUE n x).trans hn⟩)
abbrev yLo:Ty:=.pair t60 (.pair t55 (.pair t55 .unit))
abbrev yUg:Ty:=.pair t57 .unit
def ySt:G:={ T:=T,E:=[zS_e,z01_e,z0w_e,z13_e],muts:=[],fz:=[] }
def yW5:List (List Nat):=[]
def yKn(n:Nat):Ann:={ keep:=yW5,fuel:=n,inl:=[il124,il195],deep:=3 }
def yBY(n:Nat)(r0:Q1→List (Q4)→List Nat→Int→Int→Q1→Q3→Q3→Q1→Q3→Q3→Q4→Q1→Q1→Int→Int→Int→Int→Q1→Q3→Q3→Q1→Q3→Q3→Q4→Q1→Q1→Option ((Q4)×Unit))(j8:Q1)(j9:List (Q4))(j10:Int)(j11:Nat)(j12:List Nat)(j13:Int)(j14:Int)(j15:Q1)(j16:Q3)(j17:Q3)(j18:Q1)(j19:Q3)(j20:Q3)(j21:Q4)(j22:Q1)(j23:Q1)(j24:Int)(j25:Int)(j26:Int)(j27:Int)(j28:Q1)(j29:Q3)(j30:Q3)(j31:Q1)(j32:Q3)(j33:Q3)(j34:Q4)(j35:Q1)(j36:Q1):Option ((Q4)×Unit) :=
  (bif decide ((↑j9.length:Int) > 0)then (Option.bind (idx j9 (0:Int)) fun v37=>(bif decide (v37.1≤j10)then r0 j8 j9 j12 j13 (IntKind.i64.wrap (j14+1)) j15 j16 j17 j18 j19 j20 j21 j22 j23 j24 j25 j26 j27 j28 j29 j30 j31 j32 j33 j34 j35 j36 else (Option.bind (y01 Go.FloatKind.f32 (yx Go.BinOp.mul Go.FloatKind.f32 j11 (nat_lit 1098907648)) IntKind.i64) fun v42=>(Option.bind (zS_M j19 (IntKind.i64.wrap (j8.2.1+j10))) fun v43=>(Option.bind (zS_M j20 (IntKind.i64.wrap (j8.2.1+j10))) fun v44=>r0 j8 j9 j12 j13 (IntKind.i64.wrap (j14+1)) j15 j16 j17 j18 j19 j20 j21 j22 j23 j24 j25 (z13 (j26,j27,()) (z0w (z01 v43.1).1 v44.1).1).1.1 (z13 (j26,j27,()) (z0w (z01 v43.1).1 v44.1).1).1.2.1 j28 j29 j30 j31 j32 j33 j34 j35 j36)))))else (Option.bind (y01 Go.FloatKind.f32 (yx Go.BinOp.mul Go.FloatKind.f32 j11 (nat_lit 1098907648)) IntKind.i64) fun v45=>(Option.bind (zS_M j19 (IntKind.i64.wrap (j8.2.1+j10))) fun v46=>(Option.bind (zS_M j20 (IntKind.i64.wrap (j8.2.1+j10))) fun v47=>r0 j8 j9 j12 j13 (IntKind.i64.wrap (j14+1)) j15 j16 j17 j18 j19 j20 j21 j22 j23 j24 j25 (z13 (j26,j27,()) (z0w (z01 v46.1).1 v47.1).1).1.1 (z13 (j26,j27,()) (z0w (z01 v46.1).1 v47.1).1).1.2.1 j28 j29 j30 j31 j32 j33 j34 j35 j36))))
def yJL(n:Nat)(r0:Q1→List (Q4)→List Nat→Int→Int→Q1→Q3→Q3→Q1→Q3→Q3→Q4→Q1→Q1→Int→Int→Int→Int→Q1→Q3→Q3→Q1→Q3→Q3→Q4→Q1→Q1→Option ((Q4)×Unit))(r2:Q1→List (Q4)→Int→Nat→List Nat→Int→Int→Q1→Q3→Q3→Q1→Q3→Q3→Q4→Q1→Q1→Int→Int→Int→Int→Q1→Q3→Q3→Q1→Q3→Q3→Q4→Q1→Q1→Option ((Q4)×Unit))(b7:Q1)(ah:List (Q4))(aY:Int)(bc:Nat)(aL:List Nat)(aH:Int)(aI:Int)(ay:Q1)(az:Q3)(bd:Q3)(bK:Q1)(bL:Q3)(aG:Q3)(bM:Q4)(bD:Q1)(bt:Q1)(be:Int)(bf:Int)(bg:Int)(bh:Int)(b8:Q1)(b9:Q3)(bN:Q3)(cj:Q1)(ck:Q3)(bw:Q3)(cl:Q4)(bY:Q1)(bE:Q1):Option ((Q4)×Unit) :=
  (bif decide ((↑ah.length:Int) > 0)then (Option.bind (idx ah (0:Int)) fun v3=>(bif decide (v3.2.1≤aY)then (bif decide ((0:Int)≤1) && decide ((1:Int)≤(↑ah.length:Int))then r2 b7 (List.drop (Int.toNat (1:Int)) ah) aY bc aL aH aI ay az bd bK bL aG bM bD bt be bf bg bh b8 b9 bN cj ck bw cl bY bE else none)else (yBY n r0 (b7) (ah) (aY) (bc) (aL) (aH) (aI) (ay) (az) (bd) (bK) (bL) (aG) (bM) (bD) (bt) (be) (bf) (bg) (bh) (b8) (b9) (bN) (cj) (ck) (bw) (cl) (bY) (bE))))else (yBY n r0 (b7) (ah) (aY) (bc) (aL) (aH) (aI) (ay) (az) (bd) (bK) (bL) (aG) (bM) (bD) (bt) (be) (bf) (bg) (bh) (b8) (b9) (bN) (cj) (ck) (bw) (cl) (bY) (bE)))
def yIJ(n:Nat)(r0:Q1→List (Q4)→List Nat→Int→Int→Q1→Q3→Q3→Q1→Q3→Q3→Q4→Q1→Q1→Int→Int→Int→Int→Q1→Q3→Q3→Q1→Q3→Q3→Q4→Q1→Q1→Option ((Q4)×Unit))(k:Nat)(b7:Q1)(ah:List (Q4))(aY:Int)(bc:Nat)(aL:List Nat)(aH:Int)(aI:Int)(ay:Q1)(az:Q3)(bd:Q3)(bK:Q1)(bL:Q3)(aG:Q3)(bM:Q4)(bD:Q1)(bt:Q1)(be:Int)(bf:Int)(bg:Int)(bh:Int)(b8:Q1)(b9:Q3)(bN:Q3)(cj:Q1)(ck:Q3)(bw:Q3)(cl:Q4)(bY:Q1)(bE:Q1):Option ((Q4)×Unit) :=
  iter (fun r y=>yJL n r0 (fun b7 ah aY bc aL aH aI ay az bd bK bL aG bM bD bt be bf bg bh b8 b9 bN cj ck bw cl bY bE=>r ((b7,(ah,(aY,(bc,(aL,(aH,(aI,()))))))),(((ay,(az,(bd,(bK,(bL,(aG,(bM,(bD,((bt,()),()))))))))),((be,(bf,())),((bg,(bh,())),()))),(b8,(b9,(bN,(cj,(ck,(bw,(cl,(bY,((bE,()),())))))))))))) y.1.1 y.1.2.1 y.1.2.2.1 y.1.2.2.2.1 y.1.2.2.2.2.1 y.1.2.2.2.2.2.1 y.1.2.2.2.2.2.2.1 y.2.1.1.1 y.2.1.1.2.1 y.2.1.1.2.2.1 y.2.1.1.2.2.2.1 y.2.1.1.2.2.2.2.1 y.2.1.1.2.2.2.2.2.1 y.2.1.1.2.2.2.2.2.2.1 y.2.1.1.2.2.2.2.2.2.2.1 y.2.1.1.2.2.2.2.2.2.2.2.1.1 y.2.1.2.1.1 y.2.1.2.1.2.1 y.2.1.2.2.1.1 y.2.1.2.2.1.2.1 y.2.2.1 y.2.2.2.1 y.2.2.2.2.1 y.2.2.2.2.2.1 y.2.2.2.2.2.2.1 y.2.2.2.2.2.2.2.1 y.2.2.2.2.2.2.2.2.1 y.2.2.2.2.2.2.2.2.2.1 y.2.2.2.2.2.2.2.2.2.2.1.1) k ((b7,(ah,(aY,(bc,(aL,(aH,(aI,()))))))),(((ay,(az,(bd,(bK,(bL,(aG,(bM,(bD,((bt,()),()))))))))),((be,(bf,())),((bg,(bh,())),()))),(b8,(b9,(bN,(cj,(ck,(bw,(cl,(bY,((bE,()),())))))))))))
def yJ5(n:Nat)(r0:Q1→List (Q4)→List Nat→Int→Int→Q1→Q3→Q3→Q1→Q3→Q3→Q4→Q1→Q1→Int→Int→Int→Int→Q1→Q3→Q3→Q1→Q3→Q3→Q4→Q1→Q1→Option ((Q4)×Unit))(aF:Q1)(aB:List (Q4))(ai:List Nat)(aa:Int)(au:Int)(aC:Q1)(aD:Q3)(bA:Q3)(bZ:Q1)(ca:Q3)(aQ:Q3)(cb:Q4)(bU:Q1)(bC:Q1)(ac:Int)(ae:Int)(bu:Int)(bv:Int)(bm:Q1)(bn:Q3)(cc:Q3)(co:Q1)(cp:Q3)(bj:Q3)(cr:Q4)(ci:Q1)(bV:Q1):Option ((Q4)×Unit) :=
  (bif decide (au < aa)then (Option.bind (idx ai au) fun v1=>(yIJ n r0 n (aF) (aB) (au) (v1) (ai) (aa) (au) (aC) (aD) (bA) (bZ) (ca) (aQ) (cb) (bU) (bC) (ac) (ae) (bu) (bv) (bm) (bn) (cc) (co) (cp) (bj) (cr) (ci) (bV)))else some ((bu,bv,()),()))
def yJt(n:Nat)(k:Nat)(aF:Q1)(aB:List (Q4))(ai:List Nat)(aa:Int)(au:Int)(aC:Q1)(aD:Q3)(bA:Q3)(bZ:Q1)(ca:Q3)(aQ:Q3)(cb:Q4)(bU:Q1)(bC:Q1)(ac:Int)(ae:Int)(bu:Int)(bv:Int)(bm:Q1)(bn:Q3)(cc:Q3)(co:Q1)(cp:Q3)(bj:Q3)(cr:Q4)(ci:Q1)(bV:Q1):Option ((Q4)×Unit) :=
  iter (fun r y=>yJ5 n (fun aF aB ai aa au aC aD bA bZ ca aQ cb bU bC ac ae bu bv bm bn cc co cp bj cr ci bV=>r ((aF,(aB,(ai,(aa,(au,()))))),(((aC,(aD,(bA,(bZ,(ca,(aQ,(cb,(bU,((bC,()),()))))))))),((ac,(ae,())),((bu,(bv,())),()))),(bm,(bn,(cc,(co,(cp,(bj,(cr,(ci,((bV,()),())))))))))))) y.1.1 y.1.2.1 y.1.2.2.1 y.1.2.2.2.1 y.1.2.2.2.2.1 y.2.1.1.1 y.2.1.1.2.1 y.2.1.1.2.2.1 y.2.1.1.2.2.2.1 y.2.1.1.2.2.2.2.1 y.2.1.1.2.2.2.2.2.1 y.2.1.1.2.2.2.2.2.2.1 y.2.1.1.2.2.2.2.2.2.2.1 y.2.1.1.2.2.2.2.2.2.2.2.1.1 y.2.1.2.1.1 y.2.1.2.1.2.1 y.2.1.2.2.1.1 y.2.1.2.2.1.2.1 y.2.2.1 y.2.2.2.1 y.2.2.2.2.1 y.2.2.2.2.2.1 y.2.2.2.2.2.2.1 y.2.2.2.2.2.2.2.1 y.2.2.2.2.2.2.2.2.1 y.2.2.2.2.2.2.2.2.2.1 y.2.2.2.2.2.2.2.2.2.2.1.1) k ((aF,(aB,(ai,(aa,(au,()))))),(((aC,(aD,(bA,(bZ,(ca,(aQ,(cb,(bU,((bC,()),()))))))))),((ac,(ae,())),((bu,(bv,())),()))),(bm,(bn,(cc,(co,(cp,(bj,(cr,(ci,((bV,()),())))))))))))
def yNM(n:Nat)(r1:Q1)(a:Q3)(b:Q3):Option ((Q4)×Unit) :=
  (yJt n n (r1) (r1.2.2.2.1) (r1.2.2.1) ((↑r1.2.2.1.length:Int)) ((0:Int)) (r1) (a) (b) (r1) (a) (b) (((0:Int),(0:Int),())) (r1) (r1) ((0:Int)) ((0:Int)) ((0:Int)) ((0:Int)) (r1) (a) (b) (r1) (a) (b) (((0:Int),(0:Int),())) (r1) (r1))
theorem yRi(n:Nat)(x:yLo.den):runF ySt (yKn n) Tryz.f148 yLo yUg x=yNM n x.1 x.2.1 x.2.2.1:=by kernel_rfl
def yFY(r1:Q1)(a:Q3)(b:Q3):Option ((Q4)×Unit):=yNM 1000 r1 a b
theorem yOj(r1:Q1)(a:Q3)(b:Q3)(y:(Q4)×Unit)(h:yFY r1 a b=some y):∃ n,yNM n r1 a b=some y:=⟨1000,h⟩
def z0r_e:Entry:={ f:=148,args:=yLo,ress:=yUg,m:=fun x=>yFY x.1 x.2.1 x.2.2.1 }
theorem yGP:FnOK Tryz.prog z0r_e:=yK (g:=ySt) (fn:=Tryz.f148) yD yJ (y8 yJs (y8 yHt (y8 yCj (y8 yDG eNil)))) (by kernel_rfl) (by kernel_rfl) (by kernel_rfl) (fun x y h=>let ⟨n,hn⟩:=yOj x.1 x.2.1 x.2.2.1 y h;⟨yKn n,(y53 y4u (y53 y57 iNil)),(yRi n x).trans hn⟩)
abbrev yXv:Ty:=.pair t96 .unit
abbrev yWb:Ty:=.pair t57 .unit
class ref02_det_Rec where
  f:yXv.den→Option yWb.den
section
variable [ref02_det_Rec]
end
abbrev zt_a:Ty:=.pair t94 (.pair t3 .unit)
abbrev zt_r:Ty:=.pair t4 .unit
def zt_g:G:={ T:=T,E:=[z0y_e],muts:=[],fz:=[] }
def zt_k:List (List Nat):=[]
def yRQ(n:Nat):Ann:={ keep:=zt_k,fuel:=n,inl:=[],deep:=0 }
def zt_m(n:Nat)(r1:Q1)(i:Int):Option (Bool×Unit) :=
  (bif decide (i ≥ 0)then (bif decide (i < (↑r1.2.2.1.length:Int))then (Option.bind (y9K r1.2.2.2.1 i) fun v0=>some (!v0.1,()))else some (Bool.false,()))else some (Bool.false,()))
theorem yWB(n:Nat)(x:zt_a.den):runF zt_g (yRQ n) Tryz.f155 zt_a zt_r x=zt_m n x.1 x.2.1:=by kernel_rfl
def zt_M(r1:Q1)(i:Int):Option (Bool×Unit):=zt_m 0 r1 i
theorem ySU(r1:Q1)(i:Int)(y:Bool×Unit)(h:zt_M r1 i=some y):∃ n,zt_m n r1 i=some y:=⟨0,h⟩
def zt_e:Entry:={ f:=155,args:=zt_a,ress:=zt_r,m:=fun x=>zt_M x.1 x.2.1 }
theorem yYJ:FnOK Tryz.prog zt_e:=yK (g:=zt_g) (fn:=Tryz.f155) yD yJ (y8 yLC eNil) (by kernel_rfl) (by kernel_rfl) (by kernel_rfl) (fun x y h=>let ⟨n,hn⟩:=ySU x.1 x.2.1 y h;⟨yRQ n,iNil,(yWB n x).trans hn⟩)
abbrev zd_a:Ty:=.pair t58 .unit
abbrev zd_r:Ty:=.pair t3 .unit
def zd_g:G:={ T:=T,E:=[zm_e],muts:=[],fz:=[] }
def zd_k:List (List Nat):=[[0,3]]
def yUh(n:Nat):Ann:={ keep:=zd_k,fuel:=n,inl:=[],deep:=0 }
def yH3(n:Nat)(r0:List (Q4)→Int→Option (Int×Unit))(ar:List (Q4))(aZ:Int):Option (Int×Unit) :=
  (bif decide (aZ < (↑ar.length:Int))then (Option.bind (idx ar aZ) fun v1=>(bif (zm v1).1 != 0 then some ((14:Int),())else (bif decide (aZ > 0)then (Option.bind (idx ar aZ) fun v2=>(Option.bind (idx ar (IntKind.i64.wrap (aZ - (1:Int)))) fun v3=>(bif decide (v2.1≤v3.2.1)then some ((11:Int),())else r0 ar (IntKind.i64.wrap (aZ+1)))))else r0 ar (IntKind.i64.wrap (aZ+1)))))else some ((0:Int),()))
def y9m(n:Nat)(k:Nat)(ar:List (Q4))(aZ:Int):Option (Int×Unit) :=
  iter (fun r y=>yH3 n (fun ar aZ=>r ((ar,(aZ,())),((),()))) y.1.1 y.1.2.1) k ((ar,(aZ,())),((),()))
def zd_m(n:Nat)(l:List (Q4)):Option (Int×Unit) :=
  (bif decide ((↑l.length:Int) > 2048)then some ((5:Int),())else (y9m n n (l) ((0:Int))))
theorem yY1(n:Nat)(x:zd_a.den):runF zd_g (yUh n) Tryz.f158 zd_a zd_r x=zd_m n x.1:=by kernel_rfl
def yGK(ar:List (Q4))(aZ:Int)(v1:Q4):Option ((Int×Unit)⊕Unit) :=
  (bif (zm v1).1 != 0 then (some (Sum.inl (((14:Int),()))))else (bif decide (aZ > 0)then (Option.bind (idx ar aZ) fun v2=>(Option.bind (idx ar (IntKind.i64.wrap (aZ - (1:Int)))) fun v3=>(bif decide (v2.1≤v3.2.1)then (some (Sum.inl (((11:Int),()))))else (some (Sum.inr ())))))else (some (Sum.inr ()))))
def yKE(ar:List (Q4)):Option (Int×Unit) :=
  (some (((0:Int),())))
theorem yEw(n:Nat)(hn:big≤n)(ar:List (Q4))(hx:List.length (ar) < lenMax):LeF some (yX (fun aj aK a7=>yGK ar aj aK) (fun a7=>yKE ar) 0 (ar) ()) (y9m n n ar 0):=by
  refine yk (f:=some) (W:=fun aS aj a7=>y9m n aS ar aj) (body:=(fun aj aK a7=>yGK ar aj aK)) (fin:=(fun a7=>yKE ar)) (fun aS aj a7=>?_) hx () n (by unfold big at hn;unfold lenMax at hx;omega)
  show LeF _ _ (yH3 n (y9m n aS) ar aj)
  exact yA (yE fun v1=>(yA (y7 rfl) (yA (yE fun v2=>(yE fun v3=>(yA (y7 rfl) (y7 rfl)))) (y7 rfl)))) (y0a (y7 rfl))
def zd_M(l:List (Q4)):Option (Int×Unit) :=
  (bif decide ((↑l.length:Int) > 2048)then (some (((5:Int),())))else (bif decide (List.length (l) < lenMax)then yX (fun aj aK a7=>yGK (l) aj aK) (fun a7=>yKE (l)) 0 (l) ()else none))
theorem yTZ(l:List (Q4))(y:Int×Unit)(h:zd_M l=some y):∃ n,zd_m n l=some y :=
  ⟨big,LeF.top (show LeF some (zd_M l) (zd_m big l)from (fun (n:Nat) (hn:big≤n)=>show LeF some (zd_M l) (zd_m n l)from (yA (y7 rfl) (yh fun hx=>by apply yEw n hn;exact hx))) big (Nat.le_refl _)) h⟩
def zd_e:Entry:={ f:=158,args:=zd_a,ress:=zd_r,m:=fun x=>zd_M x.1 }
theorem yWg:FnOK Tryz.prog zd_e:=yK (g:=zd_g) (fn:=Tryz.f158) yD yJ (y8 yXR eNil) (by kernel_rfl) (by kernel_rfl) (by kernel_rfl) (fun x y h=>let ⟨n,hn⟩:=yTZ x.1 y h;⟨yUh n,iNil,(yY1 n x).trans hn⟩)
abbrev yMa:Ty:=.pair t31 (.pair t23 (.pair t3 .unit))
abbrev yTn:Ty:=.pair t57 .unit
def yUs:G:={ T:=T,E:=[zS_e,z0w_e,z13_e],muts:=[],fz:=[] }
def yXY:List (List Nat):=[[1,2,6,7,11,12,13]]
def yKu(n:Nat):Ann:={ keep:=yXY,fuel:=n,inl:=[],deep:=0 }
def yCu(n:Nat)(r0:List (Q4)→Int→List (Q3)→Int→Int→Int→Int→Int→Int→Option ((Q4)×Unit))(bG:List (Q4))(aR:Int)(au:List (Q3))(cg:Int)(bx:Int)(al:Int)(am:Int)(ac:Int)(ae:Int):Option ((Q4)×Unit) :=
  (bif decide (bx < cg)then (Option.bind (idx au bx) fun v1=>(Option.bind (idx bG bx) fun v2=>(Option.bind (zS_M (v1.1,v1.2.1,v1.2.2.1,()) aR) fun v3=>r0 bG aR au cg (IntKind.i64.wrap (bx+1)) al am (z13 (ac,ae,()) (z0w v2 v3.1).1).1.1 (z13 (ac,ae,()) (z0w v2 v3.1).1).1.2.1)))else some ((ac,ae,()),()))
def y6a(n:Nat)(k:Nat)(bG:List (Q4))(aR:Int)(au:List (Q3))(cg:Int)(bx:Int)(al:Int)(am:Int)(ac:Int)(ae:Int):Option ((Q4)×Unit) :=
  iter (fun r y=>yCu n (fun bG aR au cg bx al am ac ae=>r ((bG,(aR,(au,(cg,(bx,()))))),(((al,(am,())),((ac,(ae,())),())),()))) y.1.1 y.1.2.1 y.1.2.2.1 y.1.2.2.2.1 y.1.2.2.2.2.1 y.2.1.1.1 y.2.1.1.2.1 y.2.1.2.1.1 y.2.1.2.1.2.1) k ((bG,(aR,(au,(cg,(bx,()))))),(((al,(am,())),((ac,(ae,())),())),()))
def yJA(n:Nat)(l:List (Q3))(v:List (Q4))(tick:Int):Option ((Q4)×Unit) :=
  (y6a n n (v) (tick) (l) ((↑l.length:Int)) ((0:Int)) ((0:Int)) ((0:Int)) ((0:Int)) ((0:Int)))
theorem yQ5(n:Nat)(x:yMa.den):runF yUs (yKu n) Tryz.f167 yMa yTn x=yJA n x.1 x.2.1 x.2.2.1:=by kernel_rfl
def yHX(bG:List (Q4))(aR:Int)(au:List (Q3))(al:Int)(am:Int)(bx:Int)(v1:Q3)(ac:Int)(ae:Int):Option (((Q4)×Unit)⊕(Int×Int)) :=
  (Option.bind (idx bG bx) fun v2=>(Option.bind (zS_M (v1.1,v1.2.1,v1.2.2.1,()) aR) fun v3=>(some (Sum.inr (((z13 (ac,ae,()) (z0w v2 v3.1).1).1.1),((z13 (ac,ae,()) (z0w v2 v3.1).1).1.2.1))))))
def yHx(bG:List (Q4))(aR:Int)(au:List (Q3))(al:Int)(am:Int)(ac:Int)(ae:Int):Option ((Q4)×Unit) :=
  (some (((ac,ae,()),())))
theorem yBg(n:Nat)(hn:big≤n)(bG:List (Q4))(aR:Int)(au:List (Q3))(al:Int)(am:Int)(ac:Int)(ae:Int)(hx:List.length (au) < lenMax):LeF some (yX (fun aj aK a7=>yHX bG aR au al am aj aK a7.1 a7.2) (fun a7=>yHx bG aR au al am a7.1 a7.2) 0 (au) (ac,ae)) (y6a n n bG aR au (List.length (au):Int) 0 al am ac ae):=by
  refine yk (f:=some) (W:=fun aS aj a7=>y6a n aS bG aR au (List.length (au):Int) aj al am a7.1 a7.2) (body:=(fun aj aK a7=>yHX bG aR au al am aj aK a7.1 a7.2)) (fin:=(fun a7=>yHx bG aR au al am a7.1 a7.2)) (fun aS aj a7=>?_) hx (ac,ae) n (by unfold big at hn;unfold lenMax at hx;omega)
  show LeF _ _ (yCu n (y6a n aS) bG aR au (List.length (au):Int) aj al am a7.1 a7.2)
  exact yA (yE fun v1=>(yE fun v2=>(yE fun v3=>(y7 rfl)))) (y0a (y7 rfl))
def yGG(l:List (Q3))(v:List (Q4))(tick:Int):Option ((Q4)×Unit) :=
  (bif decide (List.length (l) < lenMax)then yX (fun aj aK a7=>yHX (v) (tick) (l) ((0:Int)) ((0:Int)) aj aK a7.1 a7.2) (fun a7=>yHx (v) (tick) (l) ((0:Int)) ((0:Int)) a7.1 a7.2) 0 (l) (((0:Int)),((0:Int)))else none)
theorem yO6(l:List (Q3))(v:List (Q4))(tick:Int)(y:(Q4)×Unit)(h:yGG l v tick=some y):∃ n,yJA n l v tick=some y :=
  ⟨big,LeF.top (show LeF some (yGG l v tick) (yJA big l v tick)from (fun (n:Nat) (hn:big≤n)=>show LeF some (yGG l v tick) (yJA n l v tick)from (yh fun hx=>by apply yBg n hn;exact hx)) big (Nat.le_refl _)) h⟩
def z0x_e:Entry:={ f:=167,args:=yMa,ress:=yTn,m:=fun x=>yGG x.1 x.2.1 x.2.2.1 }
theorem yVd:FnOK Tryz.prog z0x_e:=yK (g:=yUs) (fn:=Tryz.f167) yD yJ (y8 yJs (y8 yCj (y8 yDG eNil))) (by kernel_rfl) (by kernel_rfl) (by kernel_rfl) (fun x y h=>let ⟨n,hn⟩:=yO6 x.1 x.2.1 x.2.2.1 y h;⟨yKu n,iNil,(yQ5 n x).trans hn⟩)
abbrev yMn:Ty:=.pair t3 (.pair t41 .unit)
abbrev yTv:Ty:=.pair t3 .unit
def yQP:G:={ T:=T,E:=[z07_e],muts:=[],fz:=[] }
def yW2:List (List Nat):=[[0,7,8,9],[0,6,7,8,9]]
def yLI(n:Nat):Ann:={ keep:=yW2,fuel:=n,inl:=[],deep:=0 }
def yDh(n:Nat)(r0:Int→List Int→Int→Int→Option (Int×Unit))(r2:Int→Int→List Int→Int→Int→Option (Int×Unit))(bX:Int)(bH:Int)(bO:List Int)(bP:Int)(aL:Int):Option (Int×Unit) :=
  (bif bH != 0 then (bif bH==0 then none else r2 bH (bX.tmod bH) bO bP aL)else r0 bX bO bP (IntKind.i64.wrap (aL+1)))
def y6F(n:Nat)(r0:Int→List Int→Int→Int→Option (Int×Unit))(k:Nat)(bX:Int)(bH:Int)(bO:List Int)(bP:Int)(aL:Int):Option (Int×Unit) :=
  iter (fun r y=>yDh n r0 (fun bX bH bO bP aL=>r ((bX,(bH,(bO,(bP,(aL,()))))),((),()))) y.1.1 y.1.2.1 y.1.2.2.1 y.1.2.2.2.1 y.1.2.2.2.2.1) k ((bX,(bH,(bO,(bP,(aL,()))))),((),()))
def yDK(n:Nat)(r0:Int→List Int→Int→Int→Option (Int×Unit))(bW:Int)(ax:List Int)(a8:Int)(ai:Int):Option (Int×Unit) :=
  (bif decide (ai < a8)then (Option.bind (idx ax ai) fun v1=>(y6F n r0 n (bW) ((z07 v1).1) (ax) (a8) (ai)))else some (bW,()))
def y6N(n:Nat)(k:Nat)(bW:Int)(ax:List Int)(a8:Int)(ai:Int):Option (Int×Unit) :=
  iter (fun r y=>yDK n (fun bW ax a8 ai=>r ((bW,(ax,(a8,(ai,())))),((),()))) y.1.1 y.1.2.1 y.1.2.2.1 y.1.2.2.2.1) k ((bW,(ax,(a8,(ai,())))),((),()))
def yJP(n:Nat)(n1:Int)(l:List Int):Option (Int×Unit) :=
  (y6N n n (n1) (l) ((↑l.length:Int)) ((0:Int)))
theorem yQB(n:Nat)(x:yMn.den):runF yQP (yLI n) Tryz.f186 yMn yTv x=yJP n x.1 x.2.1:=by kernel_rfl
def yG4(bO:List Int)(bP:Int)(aL:Int)(bX:Int)(bH:Int):Option (((Int×Unit)⊕(Int))⊕(Int×Int)) :=
  (bif bH != 0 then (bif bH==0 then none else (some (Sum.inr ((bH),(bX.tmod bH)))))else (some (Sum.inl (Sum.inr (bX)))))
theorem yCC(n:Nat)(hn:big≤n)(r0:Int→List Int→Int→Int→Option (Int×Unit))(bO:List Int)(bP:Int)(aL:Int)(bX:Int)(bH:Int):LeF (elim some fun (a7:(Int))=>r0 a7 bO bP (IntKind.i64.wrap (aL+1))) (y82 (fun a7=>yG4 bO bP aL a7.1 a7.2) wMax (bX,bH)) (y6F n r0 n bX bH bO bP aL):=by
  refine yDZ (f:=(elim some fun (a7:(Int))=>r0 a7 bO bP (IntKind.i64.wrap (aL+1)))) (W:=fun aS a7=>y6F n r0 aS a7.1 a7.2 bO bP aL) (body:=(fun a7=>yG4 bO bP aL a7.1 a7.2)) (fun aS a7=>?_) wMax n (bX,bH) (by unfold big at hn;unfold wMax;omega)
  show LeF _ _ (yDh n r0 (y6F n r0 aS) a7.1 a7.2 bO bP aL)
  exact (yA (yA y3A (y7 rfl)) (y7 rfl))
def yHk(ax:List Int)(ai:Int)(v1:Int)(bW:Int):Option ((Int×Unit)⊕(Int)) :=
  (y82 (fun a7=>yG4 (ax) ((↑ax.length:Int)) (ai) a7.1 a7.2) wMax ((bW),((z07 v1).1)))
def yGT(ax:List Int)(bW:Int):Option (Int×Unit) :=
  (some ((bW,())))
theorem yC6(n:Nat)(hn:big≤n)(ax:List Int)(bW:Int)(hx:List.length (ax) < lenMax):LeF some (yX (fun aj aK a7=>yHk ax aj aK a7) (fun a7=>yGT ax a7) 0 (ax) bW) (y6N n n bW ax (List.length (ax):Int) 0):=by
  refine yk (f:=some) (W:=fun aS aj a7=>y6N n aS a7 ax (List.length (ax):Int) aj) (body:=(fun aj aK a7=>yHk ax aj aK a7)) (fin:=(fun a7=>yGT ax a7)) (fun aS aj a7=>?_) hx bW n (by unfold big at hn;unfold lenMax at hx;omega)
  show LeF _ _ (yDK n (y6N n aS) a7 ax (List.length (ax):Int) aj)
  exact yA (yE fun v1=>(by apply yCC n hn)) (y0a (y7 rfl))
def yCZ(n1:Int)(l:List Int):Option (Int×Unit) :=
  (bif decide (List.length (l) < lenMax)then yX (fun aj aK a7=>yHk (l) aj aK a7) (fun a7=>yGT (l) a7) 0 (l) (n1)else none)
theorem yNu(n1:Int)(l:List Int)(y:Int×Unit)(h:yCZ n1 l=some y):∃ n,yJP n n1 l=some y :=
  ⟨big,LeF.top (show LeF some (yCZ n1 l) (yJP big n1 l)from (fun (n:Nat) (hn:big≤n)=>show LeF some (yCZ n1 l) (yJP n n1 l)from (yh fun hx=>by apply yC6 n hn;exact hx)) big (Nat.le_refl _)) h⟩
def z0I_e:Entry:={ f:=186,args:=yMn,ress:=yTv,m:=fun x=>yCZ x.1 x.2.1 }
theorem yLU:FnOK Tryz.prog z0I_e:=yK (g:=yQP) (fn:=Tryz.f186) yD yJ (y8 yBF eNil) (by kernel_rfl) (by kernel_rfl) (by kernel_rfl) (fun x y h=>let ⟨n,hn⟩:=yNu x.1 x.2.1 y h;⟨yLI n,iNil,(yQB n x).trans hn⟩)
abbrev yMF:Ty:=.pair t55 (.pair (.ref t60) .unit)
abbrev ySx:Ty:=.pair t57 .unit
def yUy:G:={ T:=T,E:=[zS_e,z01_e,z0Z_e,z13_e],muts:=[],fz:=[] }
def yXg:List (List Nat):=[]
def yKX(n:Nat):Ann:={ keep:=yXg,fuel:=n,inl:=[il124,il195],deep:=3 }
def yBV(n:Nat)(r0:Q1→List (Q4)→List Nat→Int→Int→Q3→Q1→Q3→Q4→Q1→Q1→Int→Int→Int→Int→Q3→Q1→Q3→Q4→Q1→Q1→Option ((Q4)×Unit))(j8:Q1)(j9:List (Q4))(j10:Int)(j11:Nat)(j12:List Nat)(j13:Int)(j14:Int)(j15:Q3)(j16:Q1)(j17:Q3)(j18:Q4)(j19:Q1)(j20:Q1)(j21:Int)(j22:Int)(j23:Int)(j24:Int)(j25:Q3)(j26:Q1)(j27:Q3)(j28:Q4)(j29:Q1)(j30:Q1):Option ((Q4)×Unit) :=
  (bif decide ((↑j9.length:Int) > 0)then (Option.bind (idx j9 (0:Int)) fun v31=>(bif decide (v31.1≤j10)then r0 j8 j9 j12 j13 (IntKind.i64.wrap (j14+1)) j15 j16 j17 j18 j19 j20 j21 j22 j23 j24 j25 j26 j27 j28 j29 j30 else (Option.bind (y01 Go.FloatKind.f32 (yx Go.BinOp.mul Go.FloatKind.f32 j11 (nat_lit 1098907648)) IntKind.i64) fun v36=>(Option.bind (zS_M j17 (IntKind.i64.wrap (j8.2.1+j10))) fun v37=>r0 j8 j9 j12 j13 (IntKind.i64.wrap (j14+1)) j15 j16 j17 j18 j19 j20 j21 j22 (z13 (j23,j24,()) (z0Z (z01 v37.1).1 v36).1).1.1 (z13 (j23,j24,()) (z0Z (z01 v37.1).1 v36).1).1.2.1 j25 j26 j27 j28 j29 j30))))else (Option.bind (y01 Go.FloatKind.f32 (yx Go.BinOp.mul Go.FloatKind.f32 j11 (nat_lit 1098907648)) IntKind.i64) fun v38=>(Option.bind (zS_M j17 (IntKind.i64.wrap (j8.2.1+j10))) fun v39=>r0 j8 j9 j12 j13 (IntKind.i64.wrap (j14+1)) j15 j16 j17 j18 j19 j20 j21 j22 (z13 (j23,j24,()) (z0Z (z01 v39.1).1 v38).1).1.1 (z13 (j23,j24,()) (z0Z (z01 v39.1).1 v38).1).1.2.1 j25 j26 j27 j28 j29 j30)))
def yJi(n:Nat)(r0:Q1→List (Q4)→List Nat→Int→Int→Q3→Q1→Q3→Q4→Q1→Q1→Int→Int→Int→Int→Q3→Q1→Q3→Q4→Q1→Q1→Option ((Q4)×Unit))(r2:Q1→List (Q4)→Int→Nat→List Nat→Int→Int→Q3→Q1→Q3→Q4→Q1→Q1→Int→Int→Int→Int→Q3→Q1→Q3→Q4→Q1→Q1→Option ((Q4)×Unit))(b7:Q1)(ah:List (Q4))(aY:Int)(bc:Nat)(aL:List Nat)(aH:Int)(aI:Int)(ay:Q3)(az:Q1)(bd:Q3)(bQ:Q4)(bR:Q1)(bB:Q1)(be:Int)(bf:Int)(bg:Int)(bh:Int)(b8:Q3)(b9:Q1)(bN:Q3)(cm:Q4)(cn:Q1)(bS:Q1):Option ((Q4)×Unit) :=
  (bif decide ((↑ah.length:Int) > 0)then (Option.bind (idx ah (0:Int)) fun v3=>(bif decide (v3.2.1≤aY)then (bif decide ((0:Int)≤1) && decide ((1:Int)≤(↑ah.length:Int))then r2 b7 (List.drop (Int.toNat (1:Int)) ah) aY bc aL aH aI ay az bd bQ bR bB be bf bg bh b8 b9 bN cm cn bS else none)else (yBV n r0 (b7) (ah) (aY) (bc) (aL) (aH) (aI) (ay) (az) (bd) (bQ) (bR) (bB) (be) (bf) (bg) (bh) (b8) (b9) (bN) (cm) (cn) (bS))))else (yBV n r0 (b7) (ah) (aY) (bc) (aL) (aH) (aI) (ay) (az) (bd) (bQ) (bR) (bB) (be) (bf) (bg) (bh) (b8) (b9) (bN) (cm) (cn) (bS)))
def yJK(n:Nat)(r0:Q1→List (Q4)→List Nat→Int→Int→Q3→Q1→Q3→Q4→Q1→Q1→Int→Int→Int→Int→Q3→Q1→Q3→Q4→Q1→Q1→Option ((Q4)×Unit))(k:Nat)(b7:Q1)(ah:List (Q4))(aY:Int)(bc:Nat)(aL:List Nat)(aH:Int)(aI:Int)(ay:Q3)(az:Q1)(bd:Q3)(bQ:Q4)(bR:Q1)(bB:Q1)(be:Int)(bf:Int)(bg:Int)(bh:Int)(b8:Q3)(b9:Q1)(bN:Q3)(cm:Q4)(cn:Q1)(bS:Q1):Option ((Q4)×Unit) :=
  iter (fun r y=>yJi n r0 (fun b7 ah aY bc aL aH aI ay az bd bQ bR bB be bf bg bh b8 b9 bN cm cn bS=>r ((b7,(ah,(aY,(bc,(aL,(aH,(aI,()))))))),(((ay,(az,(bd,(bQ,(bR,((bB,()),())))))),((be,(bf,())),((bg,(bh,())),()))),(b8,(b9,(bN,(cm,(cn,((bS,()),()))))))))) y.1.1 y.1.2.1 y.1.2.2.1 y.1.2.2.2.1 y.1.2.2.2.2.1 y.1.2.2.2.2.2.1 y.1.2.2.2.2.2.2.1 y.2.1.1.1 y.2.1.1.2.1 y.2.1.1.2.2.1 y.2.1.1.2.2.2.1 y.2.1.1.2.2.2.2.1 y.2.1.1.2.2.2.2.2.1.1 y.2.1.2.1.1 y.2.1.2.1.2.1 y.2.1.2.2.1.1 y.2.1.2.2.1.2.1 y.2.2.1 y.2.2.2.1 y.2.2.2.2.1 y.2.2.2.2.2.1 y.2.2.2.2.2.2.1 y.2.2.2.2.2.2.2.1.1) k ((b7,(ah,(aY,(bc,(aL,(aH,(aI,()))))))),(((ay,(az,(bd,(bQ,(bR,((bB,()),())))))),((be,(bf,())),((bg,(bh,())),()))),(b8,(b9,(bN,(cm,(cn,((bS,()),()))))))))
def yJW(n:Nat)(r0:Q1→List (Q4)→List Nat→Int→Int→Q3→Q1→Q3→Q4→Q1→Q1→Int→Int→Int→Int→Q3→Q1→Q3→Q4→Q1→Q1→Option ((Q4)×Unit))(aF:Q1)(aB:List (Q4))(ai:List Nat)(aa:Int)(au:Int)(aC:Q3)(aD:Q1)(bA:Q3)(cd:Q4)(ce:Q1)(bI:Q1)(ac:Int)(ae:Int)(bu:Int)(bv:Int)(bm:Q3)(bn:Q1)(cc:Q3)(cu:Q4)(cw:Q1)(cf:Q1):Option ((Q4)×Unit) :=
  (bif decide (au < aa)then (Option.bind (idx ai au) fun v1=>(yJK n r0 n (aF) (aB) (au) (v1) (ai) (aa) (au) (aC) (aD) (bA) (cd) (ce) (bI) (ac) (ae) (bu) (bv) (bm) (bn) (cc) (cu) (cw) (cf)))else some ((bu,bv,()),()))
def yJf(n:Nat)(k:Nat)(aF:Q1)(aB:List (Q4))(ai:List Nat)(aa:Int)(au:Int)(aC:Q3)(aD:Q1)(bA:Q3)(cd:Q4)(ce:Q1)(bI:Q1)(ac:Int)(ae:Int)(bu:Int)(bv:Int)(bm:Q3)(bn:Q1)(cc:Q3)(cu:Q4)(cw:Q1)(cf:Q1):Option ((Q4)×Unit) :=
  iter (fun r y=>yJW n (fun aF aB ai aa au aC aD bA cd ce bI ac ae bu bv bm bn cc cu cw cf=>r ((aF,(aB,(ai,(aa,(au,()))))),(((aC,(aD,(bA,(cd,(ce,((bI,()),())))))),((ac,(ae,())),((bu,(bv,())),()))),(bm,(bn,(cc,(cu,(cw,((cf,()),()))))))))) y.1.1 y.1.2.1 y.1.2.2.1 y.1.2.2.2.1 y.1.2.2.2.2.1 y.2.1.1.1 y.2.1.1.2.1 y.2.1.1.2.2.1 y.2.1.1.2.2.2.1 y.2.1.1.2.2.2.2.1 y.2.1.1.2.2.2.2.2.1.1 y.2.1.2.1.1 y.2.1.2.1.2.1 y.2.1.2.2.1.1 y.2.1.2.2.1.2.1 y.2.2.1 y.2.2.2.1 y.2.2.2.2.1 y.2.2.2.2.2.1 y.2.2.2.2.2.2.1 y.2.2.2.2.2.2.2.1.1) k ((aF,(aB,(ai,(aa,(au,()))))),(((aC,(aD,(bA,(cd,(ce,((bI,()),())))))),((ac,(ae,())),((bu,(bv,())),()))),(bm,(bn,(cc,(cu,(cw,((cf,()),()))))))))
def yOk(n:Nat)(c:Q3)(p1:Q1):Option ((Q4)×Unit) :=
  (yJf n n (p1) (p1.2.2.2.1) (p1.2.2.1) ((↑p1.2.2.1.length:Int)) ((0:Int)) (c) (p1) (c) (((0:Int),(0:Int),())) (p1) (p1) ((0:Int)) ((0:Int)) ((0:Int)) ((0:Int)) (c) (p1) (c) (((0:Int),(0:Int),())) (p1) (p1))
theorem yRv(n:Nat)(x:yMF.den):runF yUy (yKX n) Tryz.f188 yMF ySx x=yOk n x.1 x.2.1:=by kernel_rfl
def yOV(c:Q3)(p1:Q1):Option ((Q4)×Unit):=yOk 1000 c p1
theorem yNt(c:Q3)(p1:Q1)(y:(Q4)×Unit)(h:yOV c p1=some y):∃ n,yOk n c p1=some y:=⟨1000,h⟩
def z0L_e:Entry:={ f:=188,args:=yMF,ress:=ySx,m:=fun x=>yOV x.1 x.2.1 }
theorem yTI:FnOK Tryz.prog z0L_e:=yK (g:=yUy) (fn:=Tryz.f188) yD yJ (y8 yJs (y8 yHt (y8 yGa (y8 yDG eNil)))) (by kernel_rfl) (by kernel_rfl) (by kernel_rfl) (fun x y h=>let ⟨n,hn⟩:=yNt x.1 x.2.1 y h;⟨yKX n,(y53 y4u (y53 y57 iNil)),(yRv n x).trans hn⟩)
abbrev zT_a:Ty:=.pair t183 (.pair t3 (.pair t3 .unit))
abbrev zT_r:Ty:=.pair t57 .unit
class tide_matrix_expand_Rec where
  f:zT_a.den→Option zT_r.den
section
variable [tide_matrix_expand_Rec]
def y3V:Entry:={ f:=194,args:=zT_a,ress:=zT_r,m:=fun x=>tide_matrix_expand_Rec.f x }
def zT_g:G:={ T:=T,E:=[y3V,z0w_e,z0Z_e,z13_e],muts:=[],fz:=[] }
def zT_k:List (List Nat):=[[0,1,2,6,7,8,18,19]]
def yTQ(n:Nat):Ann:={ keep:=zT_k,fuel:=n,inl:=[],deep:=0 }
def yGq(n:Nat)(r0:List (List (Q4))→Int→Int→Int→Int→Int→Int→Int→Int→Int→Option ((Q4)×Unit))(bp:List (List (Q4)))(aV:Int)(aJ:Int)(aO:Int)(bl:Int)(br:Int)(al:Int)(am:Int)(ac:Int)(ae:Int):Option ((Q4)×Unit) :=
  (bif decide (br < bl)then (bif decide (br < 0)then none else (bif y3G IntKind.i64 Go.BinOp.and (aJ.fdiv ((2:Int) ^ Min.min br.toNat IntKind.i64.bits)) (1:Int)==1 then r0 bp aV aJ aO bl (IntKind.i64.wrap (br+1)) al am ac ae else (Option.bind (idx bp aV) fun v1=>(Option.bind (idx v1 br) fun v2=>(bif decide (br < 0)then none else (Option.bind (tide_matrix_expand_Rec.f (bp,IntKind.i64.wrap (aV+1),y3G IntKind.i64 Go.BinOp.or aJ (IntKind.i64.wrap ((1:Int) * 2 ^ Min.min br.toNat IntKind.i64.bits)),())) fun v3=>r0 bp aV aJ (IntKind.i64.wrap ((0:Int) - aO)) bl (IntKind.i64.wrap (br+1)) al am (z13 (ac,ae,()) (z0Z (z0w v2 v3.1).1 aO).1).1.1 (z13 (ac,ae,()) (z0Z (z0w v2 v3.1).1 aO).1).1.2.1))))))else some ((ac,ae,()),()))
def y9U(n:Nat)(k:Nat)(bp:List (List (Q4)))(aV:Int)(aJ:Int)(aO:Int)(bl:Int)(br:Int)(al:Int)(am:Int)(ac:Int)(ae:Int):Option ((Q4)×Unit) :=
  iter (fun r y=>yGq n (fun bp aV aJ aO bl br al am ac ae=>r ((bp,(aV,(aJ,(aO,(bl,(br,())))))),(((al,(am,())),((ac,(ae,())),())),()))) y.1.1 y.1.2.1 y.1.2.2.1 y.1.2.2.2.1 y.1.2.2.2.2.1 y.1.2.2.2.2.2.1 y.2.1.1.1 y.2.1.1.2.1 y.2.1.2.1.1 y.2.1.2.1.2.1) k ((bp,(aV,(aJ,(aO,(bl,(br,())))))),(((al,(am,())),((ac,(ae,())),())),()))
def zT_m(n:Nat)(m:List (List (Q4)))(row:Int)(used:Int):Option ((Q4)×Unit) :=
  (bif row==(↑m.length:Int)then some (((1:Int),(0:Int),()),())else (y9U n n (m) (row) (used) ((1:Int)) ((↑m.length:Int)) ((0:Int)) ((0:Int)) ((0:Int)) ((0:Int)) ((0:Int))))
theorem yXM(n:Nat)(x:zT_a.den):runF zT_g (yTQ n) Tryz.f194 zT_a zT_r x=zT_m n x.1 x.2.1 x.2.2.1:=by kernel_rfl
def yME(bp:List (List (Q4)))(aV:Int)(aJ:Int)(bl:Int)(al:Int)(am:Int)(br:Int)(aO:Int)(ac:Int)(ae:Int):Option (((Q4)×Unit)⊕(Int×Int×Int)) :=
  (bif decide (br < 0)then none else (bif y3G IntKind.i64 Go.BinOp.and (aJ.fdiv ((2:Int) ^ Min.min br.toNat IntKind.i64.bits)) (1:Int)==1 then (some (Sum.inr ((aO),(ac),(ae))))else (Option.bind (idx bp aV) fun v1=>(Option.bind (idx v1 br) fun v2=>(bif decide (br < 0)then none else (Option.bind (tide_matrix_expand_Rec.f (bp,IntKind.i64.wrap (aV+1),y3G IntKind.i64 Go.BinOp.or aJ (IntKind.i64.wrap ((1:Int) * 2 ^ Min.min br.toNat IntKind.i64.bits)),())) fun v3=>(some (Sum.inr ((IntKind.i64.wrap ((0:Int) - aO)),((z13 (ac,ae,()) (z0Z (z0w v2 v3.1).1 aO).1).1.1),((z13 (ac,ae,()) (z0Z (z0w v2 v3.1).1 aO).1).1.2.1))))))))))
def yMV(bp:List (List (Q4)))(aV:Int)(aJ:Int)(bl:Int)(al:Int)(am:Int)(aO:Int)(ac:Int)(ae:Int):Option ((Q4)×Unit) :=
  (some (((ac,ae,()),())))
theorem yEG(n:Nat)(hn:big≤n)(bp:List (List (Q4)))(aV:Int)(aJ:Int)(bl:Int)(al:Int)(am:Int)(aO:Int)(ac:Int)(ae:Int)(hx:(bl)≤9223372036854775807):LeF some (y24 (fun aj a7=>yME bp aV aJ bl al am aj a7.1 a7.2.1 a7.2.2) (fun a7=>yMV bp aV aJ bl al am a7.1 a7.2.1 a7.2.2) ((bl) - 0).toNat 0 (aO,ac,ae)) (y9U n n bp aV aJ aO bl 0 al am ac ae):=by
  refine y3u (f:=some) (W:=fun aS aj a7=>y9U n aS bp aV aJ a7.1 bl aj al am a7.2.1 a7.2.2) (body:=(fun aj a7=>yME bp aV aJ bl al am aj a7.1 a7.2.1 a7.2.2)) (fin:=(fun a7=>yMV bp aV aJ bl al am a7.1 a7.2.1 a7.2.2)) (fun aS aj a7=>?_) hx (aO,ac,ae) n 0 (by decide) (by unfold big at hn;omega)
  show LeF _ _ (yGq n (y9U n aS) bp aV aJ a7.1 bl aj al am a7.2.1 a7.2.2)
  exact yA (yA y3A (yA (y7 rfl) (yE fun v1=>(yE fun v2=>(yA y3A (yE fun v3=>(y7 rfl))))))) (y0a (y7 rfl))
def zT_M(m:List (List (Q4)))(row:Int)(used:Int):Option ((Q4)×Unit) :=
  (bif row==(↑m.length:Int)then (some ((((1:Int),(0:Int),()),())))else (bif decide (((↑m.length:Int))≤9223372036854775807)then y24 (fun aj a7=>yME (m) (row) (used) ((↑m.length:Int)) ((0:Int)) ((0:Int)) aj a7.1 a7.2.1 a7.2.2) (fun a7=>yMV (m) (row) (used) ((↑m.length:Int)) ((0:Int)) ((0:Int)) a7.1 a7.2.1 a7.2.2) (((↑m.length:Int)) - 0).toNat 0 (((1:Int)),((0:Int)),((0:Int)))else none))
theorem yRX(m:List (List (Q4)))(row:Int)(used:Int)(y:(Q4)×Unit)(h:zT_M m row used=some y):∃ n,zT_m n m row used=some y :=
  ⟨big,LeF.top (show LeF some (zT_M m row used) (zT_m big m row used)from (fun (n:Nat) (hn:big≤n)=>show LeF some (zT_M m row used) (zT_m n m row used)from (yA (y7 rfl) (yh fun hx=>by apply yEG n hn;exact hx))) big (Nat.le_refl _)) h⟩
end
def y05(d:Nat):zT_a.den→Option zT_r.den:=Nat.rec (motive:=fun _=>zT_a.den→Option zT_r.den) (fun _=>none) (fun _ ih x=>@zT_M ⟨ih⟩ x.1 x.2.1 x.2.2.1) d
def y0d(d:Nat):Entry:={ f:=194,args:=zT_a,ress:=zT_r,m:=y05 d }
theorem y1T:(d:Nat)→FnOK Tryz.prog (y0d d)
  | 0=>FnOK.none (fn:=Tryz.f194) (by kernel_rfl) (by kernel_rfl) (by kernel_rfl)
  | d+1=>yK (g:=@zT_g ⟨y05 d⟩) (fn:=Tryz.f194) (e:=y0d (d+1)) yD yJ (y8 (y1T d) (y8 yCj (y8 yGa (y8 yDG eNil)))) (by kernel_rfl) (by kernel_rfl) (by kernel_rfl) (fun x y h=>let ⟨n,hn⟩:=@yRX ⟨y05 d⟩ x.1 x.2.1 x.2.2.1 y h;⟨yTQ n,iNil,(@yXM ⟨y05 d⟩ n x).trans hn⟩)
def zT_e:Entry:=y0d 8
theorem yXO:FnOK Tryz.prog zT_e:=y1T 8
abbrev zY_a:Ty:=.pair t61 .unit
abbrev zY_r:Ty:=.pair t28 .unit
def zY_g:G:={ T:=T,E:=[za_e,z0c_e],muts:=[],fz:=[] }
def zY_k:List (List Nat):=[]
def yS3(n:Nat):Ann:={ keep:=zY_k,fuel:=n,inl:=[],deep:=0 }
def zY_m(n:Nat)(x1:Nat):Option (Int×Unit) :=
  (bif ye Go.BinOp.neq Go.FloatKind.f32 (yx Go.BinOp.sub Go.FloatKind.f32 x1 x1) (nat_lit 0)then some ((1:Int),())else (bif ye Go.BinOp.lss Go.FloatKind.f32 x1 (nat_lit 3263168512)then some ((3:Int),())else (bif ye Go.BinOp.gtr Go.FloatKind.f32 x1 (nat_lit 1115684864)then some ((3:Int),())else (Option.bind (za_M x1) fun v2=>some ((z0c (ye Go.BinOp.neq Go.FloatKind.f32 (y11 Go.FloatKind.f32 v2.1) (yx Go.BinOp.mul Go.FloatKind.f32 x1 (nat_lit 1098907648))) (3:Int)).1,())))))
theorem yXW(n:Nat)(x:zY_a.den):runF zY_g (yS3 n) Tryz.f197 zY_a zY_r x=zY_m n x.1:=by kernel_rfl
def zY_M(x1:Nat):Option (Int×Unit):=zY_m 0 x1
theorem yTX(x1:Nat)(y:Int×Unit)(h:zY_M x1=some y):∃ n,zY_m n x1=some y:=⟨0,h⟩
def zY_e:Entry:={ f:=197,args:=zY_a,ress:=zY_r,m:=fun x=>zY_M x.1 }
theorem yRq:FnOK Tryz.prog zY_e:=yK (g:=zY_g) (fn:=Tryz.f197) yD yJ (y8 yWR (y8 yAM eNil)) (by kernel_rfl) (by kernel_rfl) (by kernel_rfl) (fun x y h=>let ⟨n,hn⟩:=yTX x.1 y h;⟨yS3 n,iNil,(yXW n x).trans hn⟩)
abbrev yPO:Ty:=.pair t3 (.pair t3 (.pair t3 .unit))
abbrev yQd:Ty:=.pair t28 .unit
def yQh:G:={ T:=T,E:=[z0c_e],muts:=[],fz:=[] }
def yX7:List (List Nat):=[]
def yKT(n:Nat):Ann:={ keep:=yX7,fuel:=n,inl:=[],deep:=0 }
def yIG(n:Nat)(n1:Int)(least:Int)(most:Int):Option (Int×Unit) :=
  (bif decide (n1 < least)then some ((z0c Bool.true (3:Int)).1,())else some ((z0c (decide (n1 > most)) (3:Int)).1,()))
theorem yRy(n:Nat)(x:yPO.den):runF yQh (yKT n) Tryz.f201 yPO yQd x=yIG n x.1 x.2.1 x.2.2.1:=by kernel_rfl
def z0A(n1:Int)(least:Int)(most:Int):(Int×Unit) :=
  (bif decide (n1 < least)then ((z0c Bool.true (3:Int)).1,())else ((z0c (decide (n1 > most)) (3:Int)).1,()))
abbrev yPt (n1:Int) (least:Int) (most:Int):Option (Int×Unit):=some (z0A n1 least most)
theorem yOa(n1:Int)(least:Int)(most:Int)(y:Int×Unit)(h:yPt n1 least most=some y):∃ n,yIG n n1 least most=some y :=
  ⟨0,by rw[← h];show yIG 0 n1 least most=some (z0A n1 least most);unfold yIG z0A;first|rfl|(simp only[yI];done)|(simp only[yI];rfl)⟩
def z0A_e:Entry:={ f:=201,args:=yPO,ress:=yQd,m:=fun x=>yPt x.1 x.2.1 x.2.2.1 }
theorem yTi:FnOK Tryz.prog z0A_e:=yK (g:=yQh) (fn:=Tryz.f201) yD yJ (y8 yAM eNil) (by kernel_rfl) (by kernel_rfl) (by kernel_rfl) (fun x y h=>let ⟨n,hn⟩:=yOa x.1 x.2.1 x.2.2.1 y h;⟨yKT n,iNil,(yRy n x).trans hn⟩)
abbrev zB_a:Ty:=.pair t58 (.pair t263 .unit)
abbrev zB_r:Ty:=.pair t4 .unit
def zB_g:G:={ T:=T,E:=[zD_e],muts:=[],fz:=[] }
def zB_k:List (List Nat):=[]
def yTy(n:Nat):Ann:={ keep:=zB_k,fuel:=n,inl:=[],deep:=0 }
def zB_m(n:Nat)(s:List (Q4))(f:(Q4)×Unit→Option (Bool×Unit)):Option (Bool×Unit) :=
  (Option.bind (zD_M s f) fun v0=>some (decide (v0.1 ≥ 0),()))
theorem yYQ(n:Nat)(x:zB_a.den):runF zB_g (yTy n) Tryz.f204 zB_a zB_r x=zB_m n x.1 x.2.1:=by kernel_rfl
def zB_M(s:List (Q4))(f:(Q4)×Unit→Option (Bool×Unit)):Option (Bool×Unit):=zB_m 0 s f
theorem ySJ(s:List (Q4))(f:(Q4)×Unit→Option (Bool×Unit))(y:Bool×Unit)(h:zB_M s f=some y):∃ n,zB_m n s f=some y:=⟨0,h⟩
def zB_e:Entry:={ f:=204,args:=zB_a,ress:=zB_r,m:=fun x=>zB_M x.1 x.2.1 }
theorem yXt:FnOK Tryz.prog zB_e:=yK (g:=zB_g) (fn:=Tryz.f204) yD yJ (y8 yXm eNil) (by kernel_rfl) (by kernel_rfl) (by kernel_rfl) (fun x y h=>let ⟨n,hn⟩:=ySJ x.1 x.2.1 y h;⟨yTy n,iNil,(yYQ n x).trans hn⟩)
abbrev zC_a:Ty:=.pair t35 (.pair t265 .unit)
abbrev zC_r:Ty:=.pair t4 .unit
def zC_g:G:={ T:=T,E:=[zE_e],muts:=[],fz:=[] }
def zC_k:List (List Nat):=[]
def yT2(n:Nat):Ann:={ keep:=zC_k,fuel:=n,inl:=[],deep:=0 }
def zC_m(n:Nat)(s:List Nat)(f:Nat×Unit→Option (Bool×Unit)):Option (Bool×Unit) :=
  (Option.bind (zE_M s f) fun v0=>some (decide (v0.1 ≥ 0),()))
theorem yVz(n:Nat)(x:zC_a.den):runF zC_g (yT2 n) Tryz.f207 zC_a zC_r x=zC_m n x.1 x.2.1:=by kernel_rfl
def zC_M(s:List Nat)(f:Nat×Unit→Option (Bool×Unit)):Option (Bool×Unit):=zC_m 0 s f
theorem yRJ(s:List Nat)(f:Nat×Unit→Option (Bool×Unit))(y:Bool×Unit)(h:zC_M s f=some y):∃ n,zC_m n s f=some y:=⟨0,h⟩
def zC_e:Entry:={ f:=207,args:=zC_a,ress:=zC_r,m:=fun x=>zC_M x.1 x.2.1 }
theorem yWU:FnOK Tryz.prog zC_e:=yK (g:=zC_g) (fn:=Tryz.f207) yD yJ (y8 yW7 eNil) (by kernel_rfl) (by kernel_rfl) (by kernel_rfl) (fun x y h=>let ⟨n,hn⟩:=yRJ x.1 x.2.1 y h;⟨yT2 n,iNil,(yVz n x).trans hn⟩)
abbrev zk_a:Ty:=.pair t63 .unit
abbrev zk_r:Ty:=.pair t28 .unit
def zk_g:G:={ T:=T,E:=[z0c_e],muts:=[],fz:=[] }
def zk_k:List (List Nat):=[]
def yQq(n:Nat):Ann:={ keep:=zk_k,fuel:=n,inl:=[],deep:=0 }
def zk_m(n:Nat)(s:Q4):Option (Int×Unit) :=
  (bif decide (s.1 < 0)then some ((z0c Bool.true (14:Int)).1,())else (bif decide (s.1 ≥ s.2.1)then some ((z0c Bool.true (14:Int)).1,())else some ((z0c (decide (s.2.1 > 100000)) (14:Int)).1,())))
theorem yYA(n:Nat)(x:zk_a.den):runF zk_g (yQq n) Tryz.f225 zk_a zk_r x=zk_m n x.1:=by kernel_rfl
def zk(s:Q4):(Int×Unit) :=
  (bif decide (s.1 < 0)then ((z0c Bool.true (14:Int)).1,())else (bif decide (s.1 ≥ s.2.1)then ((z0c Bool.true (14:Int)).1,())else ((z0c (decide (s.2.1 > 100000)) (14:Int)).1,())))
abbrev zk_M (s:Q4):Option (Int×Unit):=some (zk s)
theorem yQ7(s:Q4)(y:Int×Unit)(h:zk_M s=some y):∃ n,zk_m n s=some y :=
  ⟨0,by rw[← h];show zk_m 0 s=some (zk s);unfold zk_m zk;first|rfl|(simp only[yI];done)|(simp only[yI];rfl)⟩
def zk_e:Entry:={ f:=225,args:=zk_a,ress:=zk_r,m:=fun x=>zk_M x.1 }
theorem yXy:FnOK Tryz.prog zk_e:=yK (g:=zk_g) (fn:=Tryz.f225) yD yJ (y8 yAM eNil) (by kernel_rfl) (by kernel_rfl) (by kernel_rfl) (fun x y h=>let ⟨n,hn⟩:=yQ7 x.1 y h;⟨yQq n,iNil,(yYA n x).trans hn⟩)
end
end Go.Tw
end
