import Derived.Test.YtpcnkpbpcebokaaGreatDoorBT
import Derived.Test.YtpcnkpbpcebokaaGreatDoorB0
import Derived.Test.YtpcnkpbpcebokaaGreatDoorBS
import Derived.Test.YtpcnkpbpcebokaaGreatDoorLQ
set_option linter.all false
section
set_option maxRecDepth 1000000
namespace Go.Tw
open Go.Vx Go.Vx.B Go.Proofs
noncomputable section
abbrev yPx:Ty:=.pair t41 .unit
abbrev yTI:Ty:=.pair t3 .unit
def yTi:G:={ T:=T,E:=[],muts:=[],fz:=[] }
def yY7:List (List Nat):=[[0,3]]
def yLg(n:Nat):Ann:={ keep:=yY7,fuel:=n,inl:=[],deep:=0 }
def yDf(n:Nat)(r0:List Int→Int→Option (Int×Unit))(aw:List Int)(bv:Int):Option (Int×Unit) :=
  (bif decide (bv < (↑aw.length:Int))then (Option.bind (idx aw bv) fun v1=>(bif v1 != 0 then (Option.bind (idx aw bv) fun v2=>some (v2,()))else r0 aw (IntKind.i64.wrap (bv+1))))else some ((0:Int),()))
def y6j(n:Nat)(k:Nat)(aw:List Int)(bv:Int):Option (Int×Unit) :=
  iter (fun r y=>yDf n (fun aw bv=>r ((aw,(bv,())),((),()))) y.1.1 y.1.2.1) k ((aw,(bv,())),((),()))
def yJI(n:Nat)(l:List Int):Option (Int×Unit) :=
  (y6j n n (l) ((0:Int)))
theorem yWf(n:Nat)(x:yPx.den):runF yTi (yLg n) Tryz.f24 yPx yTI x=yJI n x.1:=by kernel_rfl
def yAl(aw:List Int)(bv:Int)(v1:Int):Option ((Int×Unit)⊕Unit) :=
  (bif v1 != 0 then (Option.bind (idx aw bv) fun v2=>(some (Sum.inl ((v2,())))))else (some (Sum.inr ())))
def yCD(aw:List Int):Option (Int×Unit) :=
  (some (((0:Int),())))
theorem yDC(n:Nat)(hn:big≤n)(aw:List Int)(hx:List.length (aw) < lenMax):LeF some (yf (fun am aE ae=>yAl aw am aE) (fun ae=>yCD aw) 0 (aw) ()) (y6j n n aw 0):=by
  refine yn (f:=some) (W:=fun aM am ae=>y6j n aM aw am) (body:=(fun am aE ae=>yAl aw am aE)) (fin:=(fun ae=>yCD aw)) (fun aM am ae=>?_) hx () n (by unfold big at hn;unfold lenMax at hx;omega)
  show LeF _ _ (yDf n (y6j n aM) aw am)
  exact y9 (yB fun v1=>(y9 (yB fun v2=>(y8 rfl)) (y8 rfl))) (y1F (y8 rfl))
def yA9(l:List Int):Option (Int×Unit) :=
  (bif decide (List.length (l) < lenMax)then yf (fun am aE ae=>yAl (l) am aE) (fun ae=>yCD (l)) 0 (l) ()else none)
theorem yNh(l:List Int)(y:Int×Unit)(h:yA9 l=some y):∃ n,yJI n l=some y :=
  ⟨big,LeF.top (show LeF some (yA9 l) (yJI big l)from (fun (n:Nat) (hn:big≤n)=>show LeF some (yA9 l) (yJI n l)from (yr fun hx=>by apply yDC n hn;exact hx)) big (Nat.le_refl _)) h⟩
def z0P_e:Entry:={ f:=24,args:=yPx,ress:=yTI,m:=fun x=>yA9 x.1 }
theorem yLl:FnOK Tryz.prog z0P_e:=yJ (g:=yTi) (fn:=Tryz.f24) yE yI eNil (by kernel_rfl) (by kernel_rfl) (by kernel_rfl) (fun x y h=>let ⟨n,hn⟩:=yNh x.1 y h;⟨yLg n,iNil,(yWf n x).trans hn⟩)
abbrev zV_a:Ty:=.pair t23 (.pair t23 .unit)
abbrev zV_r:Ty:=.pair t4 .unit
def zV_g:G:={ T:=T,E:=[],muts:=[],fz:=[] }
def zV_k:List (List Nat):=[[0,1,5]]
def yXH(n:Nat):Ann:={ keep:=zV_k,fuel:=n,inl:=[],deep:=0 }
def yGC(n:Nat)(r0:List (Q4)→List (Q4)→Int→Option (Bool×Unit))(ai:List (Q4))(al:List (Q4))(au:Int):Option (Bool×Unit) :=
  (bif decide (au < (↑ai.length:Int))then (Option.bind (idx ai au) fun v1=>(Option.bind (idx al au) fun v2=>(bif !eqV ((Ty.int IntKind.i64).pair ((Ty.int IntKind.i64).pair Ty.unit)) v1 v2 then some (Bool.false,())else r0 ai al (IntKind.i64.wrap (au+1)))))else some (Bool.true,()))
def y9S(n:Nat)(k:Nat)(ai:List (Q4))(al:List (Q4))(au:Int):Option (Bool×Unit) :=
  iter (fun r y=>yGC n (fun ai al au=>r ((ai,(al,(au,()))),((),()))) y.1.1 y.1.2.1 y.1.2.2.1) k ((ai,(al,(au,()))),((),()))
def zV_m(n:Nat)(a:List (Q4))(b:List (Q4)):Option (Bool×Unit) :=
  (bif (↑a.length:Int) != (↑b.length:Int)then some (Bool.false,())else (y9S n n (a) (b) ((0:Int))))
theorem yZH(n:Nat)(x:zV_a.den):runF zV_g (yXH n) Tryz.f29 zV_a zV_r x=zV_m n x.1 x.2.1:=by kernel_rfl
def yNI(ai:List (Q4))(al:List (Q4))(au:Int)(v1:Q4):Option ((Bool×Unit)⊕Unit) :=
  (Option.bind (idx al au) fun v2=>(bif !eqV ((Ty.int IntKind.i64).pair ((Ty.int IntKind.i64).pair Ty.unit)) v1 v2 then (some (Sum.inl ((Bool.false,()))))else (some (Sum.inr ()))))
def yOc(ai:List (Q4))(al:List (Q4)):Option (Bool×Unit) :=
  (some ((Bool.true,())))
theorem yFV(n:Nat)(hn:big≤n)(ai:List (Q4))(al:List (Q4))(hx:List.length (ai) < lenMax):LeF some (yf (fun am aE ae=>yNI ai al am aE) (fun ae=>yOc ai al) 0 (ai) ()) (y9S n n ai al 0):=by
  refine yn (f:=some) (W:=fun aM am ae=>y9S n aM ai al am) (body:=(fun am aE ae=>yNI ai al am aE)) (fin:=(fun ae=>yOc ai al)) (fun aM am ae=>?_) hx () n (by unfold big at hn;unfold lenMax at hx;omega)
  show LeF _ _ (yGC n (y9S n aM) ai al am)
  exact y9 (yB fun v1=>(yB fun v2=>(y9 (y8 rfl) (y8 rfl)))) (y1F (y8 rfl))
def zV_M(a:List (Q4))(b:List (Q4)):Option (Bool×Unit) :=
  (bif (↑a.length:Int) != (↑b.length:Int)then (some ((Bool.false,())))else (bif decide (List.length (a) < lenMax)then yf (fun am aE ae=>yNI (a) (b) am aE) (fun ae=>yOc (a) (b)) 0 (a) ()else none))
theorem yRE(a:List (Q4))(b:List (Q4))(y:Bool×Unit)(h:zV_M a b=some y):∃ n,zV_m n a b=some y :=
  ⟨big,LeF.top (show LeF some (zV_M a b) (zV_m big a b)from (fun (n:Nat) (hn:big≤n)=>show LeF some (zV_M a b) (zV_m n a b)from (y9 (y8 rfl) (yr fun hx=>by apply yFV n hn;exact hx))) big (Nat.le_refl _)) h⟩
def zV_e:Entry:={ f:=29,args:=zV_a,ress:=zV_r,m:=fun x=>zV_M x.1 x.2.1 }
theorem yRc:FnOK Tryz.prog zV_e:=yJ (g:=zV_g) (fn:=Tryz.f29) yE yI eNil (by kernel_rfl) (by kernel_rfl) (by kernel_rfl) (fun x y h=>let ⟨n,hn⟩:=yRE x.1 x.2.1 y h;⟨yXH n,iNil,(yZH n x).trans hn⟩)
abbrev zb_a:Ty:=.pair t35 (.pair t35 .unit)
abbrev zb_r:Ty:=.pair t4 .unit
def zb_g:G:={ T:=T,E:=[],muts:=[],fz:=[] }
def zb_k:List (List Nat):=[[0,1,5]]
def ySG(n:Nat):Ann:={ keep:=zb_k,fuel:=n,inl:=[],deep:=0 }
def yHz(n:Nat)(r0:List Nat→List Nat→Int→Option (Bool×Unit))(ai:List Nat)(al:List Nat)(au:Int):Option (Bool×Unit) :=
  (bif decide (au < (↑ai.length:Int))then (Option.bind (idx ai au) fun v1=>(Option.bind (idx al au) fun v2=>(bif y00 Go.BinOp.neq Go.FloatKind.f32 v1 v2 then some (Bool.false,())else r0 ai al (IntKind.i64.wrap (au+1)))))else some (Bool.true,()))
def y9w(n:Nat)(k:Nat)(ai:List Nat)(al:List Nat)(au:Int):Option (Bool×Unit) :=
  iter (fun r y=>yHz n (fun ai al au=>r ((ai,(al,(au,()))),((),()))) y.1.1 y.1.2.1 y.1.2.2.1) k ((ai,(al,(au,()))),((),()))
def zb_m(n:Nat)(a:List Nat)(b:List Nat):Option (Bool×Unit) :=
  (bif (↑a.length:Int) != (↑b.length:Int)then some (Bool.false,())else (y9w n n (a) (b) ((0:Int))))
theorem yZ0(n:Nat)(x:zb_a.den):runF zb_g (ySG n) Tryz.f30 zb_a zb_r x=zb_m n x.1 x.2.1:=by kernel_rfl
def yNS(ai:List Nat)(al:List Nat)(au:Int)(v1:Nat):Option ((Bool×Unit)⊕Unit) :=
  (Option.bind (idx al au) fun v2=>(bif y00 Go.BinOp.neq Go.FloatKind.f32 v1 v2 then (some (Sum.inl ((Bool.false,()))))else (some (Sum.inr ()))))
def yOs(ai:List Nat)(al:List Nat):Option (Bool×Unit) :=
  (some ((Bool.true,())))
theorem yFZ(n:Nat)(hn:big≤n)(ai:List Nat)(al:List Nat)(hx:List.length (ai) < lenMax):LeF some (yf (fun am aE ae=>yNS ai al am aE) (fun ae=>yOs ai al) 0 (ai) ()) (y9w n n ai al 0):=by
  refine yn (f:=some) (W:=fun aM am ae=>y9w n aM ai al am) (body:=(fun am aE ae=>yNS ai al am aE)) (fin:=(fun ae=>yOs ai al)) (fun aM am ae=>?_) hx () n (by unfold big at hn;unfold lenMax at hx;omega)
  show LeF _ _ (yHz n (y9w n aM) ai al am)
  exact y9 (yB fun v1=>(yB fun v2=>(y9 (y8 rfl) (y8 rfl)))) (y1F (y8 rfl))
def zb_M(a:List Nat)(b:List Nat):Option (Bool×Unit) :=
  (bif (↑a.length:Int) != (↑b.length:Int)then (some ((Bool.false,())))else (bif decide (List.length (a) < lenMax)then yf (fun am aE ae=>yNS (a) (b) am aE) (fun ae=>yOs (a) (b)) 0 (a) ()else none))
theorem yVs(a:List Nat)(b:List Nat)(y:Bool×Unit)(h:zb_M a b=some y):∃ n,zb_m n a b=some y :=
  ⟨big,LeF.top (show LeF some (zb_M a b) (zb_m big a b)from (fun (n:Nat) (hn:big≤n)=>show LeF some (zb_M a b) (zb_m n a b)from (y9 (y8 rfl) (yr fun hx=>by apply yFZ n hn;exact hx))) big (Nat.le_refl _)) h⟩
def zb_e:Entry:={ f:=30,args:=zb_a,ress:=zb_r,m:=fun x=>zb_M x.1 x.2.1 }
theorem yXj:FnOK Tryz.prog zb_e:=yJ (g:=zb_g) (fn:=Tryz.f30) yE yI eNil (by kernel_rfl) (by kernel_rfl) (by kernel_rfl) (fun x y h=>let ⟨n,hn⟩:=yVs x.1 x.2.1 y h;⟨ySG n,iNil,(yZ0 n x).trans hn⟩)
abbrev zl_a:Ty:=.pair t22 .unit
abbrev zl_r:Ty:=.pair t4 .unit
def zl_g:G:={ T:=T,E:=[],muts:=[],fz:=[] }
def zl_k:List (List Nat):=[[0,3]]
def yUK(n:Nat):Ann:={ keep:=zl_k,fuel:=n,inl:=[],deep:=0 }
def yGN(n:Nat)(r0:List (Q3)→Int→Option (Bool×Unit))(aw:List (Q3))(bv:Int):Option (Bool×Unit) :=
  (bif decide (bv < (↑aw.length:Int))then (Option.bind (idx aw bv) fun v1=>(bif decide ((↑v1.1.length:Int) > 60)then some (Bool.false,())else r0 aw (IntKind.i64.wrap (bv+1))))else some (decide ((↑aw.length:Int)≤5),()))
def y9U(n:Nat)(k:Nat)(aw:List (Q3))(bv:Int):Option (Bool×Unit) :=
  iter (fun r y=>yGN n (fun aw bv=>r ((aw,(bv,())),((),()))) y.1.1 y.1.2.1) k ((aw,(bv,())),((),()))
def zl_m(n:Nat)(l:List (Q3)):Option (Bool×Unit) :=
  (y9U n n (l) ((0:Int)))
theorem yZS(n:Nat)(x:zl_a.den):runF zl_g (yUK n) Tryz.f31 zl_a zl_r x=zl_m n x.1:=by kernel_rfl
def yK1(aw:List (Q3))(bv:Int)(v1:Q3):Option ((Bool×Unit)⊕Unit) :=
  (bif decide ((↑v1.1.length:Int) > 60)then (some (Sum.inl ((Bool.false,()))))else (some (Sum.inr ())))
def yID(aw:List (Q3)):Option (Bool×Unit) :=
  (some ((decide ((↑aw.length:Int)≤5),())))
theorem yFG(n:Nat)(hn:big≤n)(aw:List (Q3))(hx:List.length (aw) < lenMax):LeF some (yf (fun am aE ae=>yK1 aw am aE) (fun ae=>yID aw) 0 (aw) ()) (y9U n n aw 0):=by
  refine yn (f:=some) (W:=fun aM am ae=>y9U n aM aw am) (body:=(fun am aE ae=>yK1 aw am aE)) (fin:=(fun ae=>yID aw)) (fun aM am ae=>?_) hx () n (by unfold big at hn;unfold lenMax at hx;omega)
  show LeF _ _ (yGN n (y9U n aM) aw am)
  exact y9 (yB fun v1=>(y9 (y8 rfl) (y8 rfl))) (y1F (y8 rfl))
def zl_M(l:List (Q3)):Option (Bool×Unit) :=
  (bif decide (List.length (l) < lenMax)then yf (fun am aE ae=>yK1 (l) am aE) (fun ae=>yID (l)) 0 (l) ()else none)
theorem ySK(l:List (Q3))(y:Bool×Unit)(h:zl_M l=some y):∃ n,zl_m n l=some y :=
  ⟨big,LeF.top (show LeF some (zl_M l) (zl_m big l)from (fun (n:Nat) (hn:big≤n)=>show LeF some (zl_M l) (zl_m n l)from (yr fun hx=>by apply yFG n hn;exact hx)) big (Nat.le_refl _)) h⟩
def zl_e:Entry:={ f:=31,args:=zl_a,ress:=zl_r,m:=fun x=>zl_M x.1 }
theorem yXx:FnOK Tryz.prog zl_e:=yJ (g:=zl_g) (fn:=Tryz.f31) yE yI eNil (by kernel_rfl) (by kernel_rfl) (by kernel_rfl) (fun x y h=>let ⟨n,hn⟩:=ySK x.1 y h;⟨yUK n,iNil,(yZS n x).trans hn⟩)
abbrev yNb:Ty:=.pair t22 .unit
abbrev yUS:Ty:=.pair t31 .unit
def yT2:G:={ T:=T,E:=[],muts:=[3],fz:=[] }
def yZ2:List (List Nat):=[[3,6,7,8]]
def yM9(n:Nat):Ann:={ keep:=yZ2,fuel:=n,inl:=[],deep:=0 }
def yDW(n:Nat)(r0:List (Q3)→Int→Int→List (Q3)→Option (List (Q3)×Unit))(aB:List (Q3))(ax:Int)(aa:Int)(aI:List (Q3)):Option (List (Q3)×Unit) :=
  (bif decide (aa < ax)then (Option.bind (idx aB aa) fun v1=>(bif decide (aI.length+(1:Nat)≤memMax)then r0 aB ax (IntKind.i64.wrap (aa+1)) (aI++[(v1.1,v1.2.1,v1.2.2.1,())])else none))else some (aI,()))
def y6Z(n:Nat)(k:Nat)(aB:List (Q3))(ax:Int)(aa:Int)(aI:List (Q3)):Option (List (Q3)×Unit) :=
  iter (fun r y=>yDW n (fun aB ax aa aI=>r ((aB,(ax,(aa,()))),((aI,()),()))) y.1.1 y.1.2.1 y.1.2.2.1 y.2.1.1) k ((aB,(ax,(aa,()))),((aI,()),()))
def yJr(n:Nat)(l:List (Q3)):Option (List (Q3)×Unit) :=
  (y6Z n n (l) ((↑l.length:Int)) ((0:Int)) ([]))
theorem yVv(n:Nat)(x:yNb.den):runF yT2 (yM9 n) Tryz.f33 yNb yUS x=yJr n x.1:=by kernel_rfl
def yEG(aB:List (Q3))(aa:Int)(v1:Q3)(aI:List (Q3)):Option ((List (Q3)×Unit)⊕(List (Q3))) :=
  (bif decide (aI.length+(1:Nat)≤memMax)then (some (Sum.inr (aI++[(v1.1,v1.2.1,v1.2.2.1,())])))else none)
def yG7(aB:List (Q3))(aI:List (Q3)):Option (List (Q3)×Unit) :=
  (some ((aI,())))
theorem yDK(n:Nat)(hn:big≤n)(aB:List (Q3))(aI:List (Q3))(hx:List.length (aB) < lenMax):LeF some (yf (fun am aE ae=>yEG aB am aE ae) (fun ae=>yG7 aB ae) 0 (aB) aI) (y6Z n n aB (List.length (aB):Int) 0 aI):=by
  refine yn (f:=some) (W:=fun aM am ae=>y6Z n aM aB (List.length (aB):Int) am ae) (body:=(fun am aE ae=>yEG aB am aE ae)) (fin:=(fun ae=>yG7 aB ae)) (fun aM am ae=>?_) hx aI n (by unfold big at hn;unfold lenMax at hx;omega)
  show LeF _ _ (yDW n (y6Z n aM) aB (List.length (aB):Int) am ae)
  exact y9 (yB fun v1=>(y9 (y8 rfl) y1w)) (y1F (y8 rfl))
def yD1(l:List (Q3)):Option (List (Q3)×Unit) :=
  (bif decide (List.length (l) < lenMax)then yf (fun am aE ae=>yEG (l) am aE ae) (fun ae=>yG7 (l) ae) 0 (l) ([])else none)
theorem yPp(l:List (Q3))(y:List (Q3)×Unit)(h:yD1 l=some y):∃ n,yJr n l=some y :=
  ⟨big,LeF.top (show LeF some (yD1 l) (yJr big l)from (fun (n:Nat) (hn:big≤n)=>show LeF some (yD1 l) (yJr n l)from (yr fun hx=>by apply yDK n hn;exact hx)) big (Nat.le_refl _)) h⟩
def z0d_e:Entry:={ f:=33,args:=yNb,ress:=yUS,m:=fun x=>yD1 x.1 }
theorem yXE:FnOK Tryz.prog z0d_e:=yJ (g:=yT2) (fn:=Tryz.f33) yE yI eNil (by kernel_rfl) (by kernel_rfl) (by kernel_rfl) (fun x y h=>let ⟨n,hn⟩:=yPp x.1 y h;⟨yM9 n,iNil,(yVv n x).trans hn⟩)
abbrev za_a:Ty:=.pair t3 (.pair t3 (.pair t3 .unit))
abbrev za_r:Ty:=.pair t3 .unit
def za_g:G:={ T:=T,E:=[],muts:=[],fz:=[] }
def za_k:List (List Nat):=[]
def ySU(n:Nat):Ann:={ keep:=za_k,fuel:=n,inl:=[],deep:=0 }
def za_m(n:Nat)(n1:Int)(low:Int)(high:Int):Option (Int×Unit) :=
  (bif decide (n1 < low)then some ((3:Int),())else (bif decide (n1 > high)then some ((3:Int),())else some ((0:Int),())))
theorem yXO(n:Nat)(x:za_a.den):runF za_g (ySU n) Tryz.f44 za_a za_r x=za_m n x.1 x.2.1 x.2.2.1:=by kernel_rfl
def za(n1:Int)(low:Int)(high:Int):(Int×Unit) :=
  (bif decide (n1 < low)then ((3:Int),())else (bif decide (n1 > high)then ((3:Int),())else ((0:Int),())))
abbrev za_M (n1:Int) (low:Int) (high:Int):Option (Int×Unit):=some (za n1 low high)
theorem yRO(n1:Int)(low:Int)(high:Int)(y:Int×Unit)(h:za_M n1 low high=some y):∃ n,za_m n n1 low high=some y :=
  ⟨0,by rw[← h];show za_m 0 n1 low high=some (za n1 low high);unfold za_m za;first|rfl|(simp only[yG];done)|(simp only[yG];rfl)⟩
def za_e:Entry:={ f:=44,args:=za_a,ress:=za_r,m:=fun x=>za_M x.1 x.2.1 x.2.2.1 }
theorem yQS:FnOK Tryz.prog za_e:=yJ (g:=za_g) (fn:=Tryz.f44) yE yI eNil (by kernel_rfl) (by kernel_rfl) (by kernel_rfl) (fun x y h=>let ⟨n,hn⟩:=yRO x.1 x.2.1 x.2.2.1 y h;⟨ySU n,iNil,(yXO n x).trans hn⟩)
abbrev zt_a:Ty:=.pair t79 (.pair t79 .unit)
abbrev zt_r:Ty:=.pair t4 .unit
def zt_g:G:={ T:=T,E:=[],muts:=[],fz:=[] }
def zt_k:List (List Nat):=[[0,1,5]]
def ySb(n:Nat):Ann:={ keep:=zt_k,fuel:=n,inl:=[],deep:=0 }
def yGw(n:Nat)(r0:List (Nat×Nat)→List (Nat×Nat)→Int→Option (Bool×Unit))(ai:List (Nat×Nat))(al:List (Nat×Nat))(au:Int):Option (Bool×Unit) :=
  (bif decide (au < (↑ai.length:Int))then (Option.bind (idx ai au) fun v1=>(Option.bind (idx al au) fun v2=>(bif !y8u Go.FloatKind.f32 v1 v2 then some (Bool.false,())else r0 ai al (IntKind.i64.wrap (au+1)))))else some (Bool.true,()))
def y9y(n:Nat)(k:Nat)(ai:List (Nat×Nat))(al:List (Nat×Nat))(au:Int):Option (Bool×Unit) :=
  iter (fun r y=>yGw n (fun ai al au=>r ((ai,(al,(au,()))),((),()))) y.1.1 y.1.2.1 y.1.2.2.1) k ((ai,(al,(au,()))),((),()))
def zt_m(n:Nat)(a:List (Nat×Nat))(b:List (Nat×Nat)):Option (Bool×Unit) :=
  (bif (↑a.length:Int) != (↑b.length:Int)then some (Bool.false,())else (y9y n n (a) (b) ((0:Int))))
theorem yXg(n:Nat)(x:zt_a.den):runF zt_g (ySb n) Tryz.f53 zt_a zt_r x=zt_m n x.1 x.2.1:=by kernel_rfl
def yNy(ai:List (Nat×Nat))(al:List (Nat×Nat))(au:Int)(v1:Nat×Nat):Option ((Bool×Unit)⊕Unit) :=
  (Option.bind (idx al au) fun v2=>(bif !y8u Go.FloatKind.f32 v1 v2 then (some (Sum.inl ((Bool.false,()))))else (some (Sum.inr ()))))
def yOe(ai:List (Nat×Nat))(al:List (Nat×Nat)):Option (Bool×Unit) :=
  (some ((Bool.true,())))
theorem yFR(n:Nat)(hn:big≤n)(ai:List (Nat×Nat))(al:List (Nat×Nat))(hx:List.length (ai) < lenMax):LeF some (yf (fun am aE ae=>yNy ai al am aE) (fun ae=>yOe ai al) 0 (ai) ()) (y9y n n ai al 0):=by
  refine yn (f:=some) (W:=fun aM am ae=>y9y n aM ai al am) (body:=(fun am aE ae=>yNy ai al am aE)) (fin:=(fun ae=>yOe ai al)) (fun aM am ae=>?_) hx () n (by unfold big at hn;unfold lenMax at hx;omega)
  show LeF _ _ (yGw n (y9y n aM) ai al am)
  exact y9 (yB fun v1=>(yB fun v2=>(y9 (y8 rfl) (y8 rfl)))) (y1F (y8 rfl))
def zt_M(a:List (Nat×Nat))(b:List (Nat×Nat)):Option (Bool×Unit) :=
  (bif (↑a.length:Int) != (↑b.length:Int)then (some ((Bool.false,())))else (bif decide (List.length (a) < lenMax)then yf (fun am aE ae=>yNy (a) (b) am aE) (fun ae=>yOe (a) (b)) 0 (a) ()else none))
theorem yVy(a:List (Nat×Nat))(b:List (Nat×Nat))(y:Bool×Unit)(h:zt_M a b=some y):∃ n,zt_m n a b=some y :=
  ⟨big,LeF.top (show LeF some (zt_M a b) (zt_m big a b)from (fun (n:Nat) (hn:big≤n)=>show LeF some (zt_M a b) (zt_m n a b)from (y9 (y8 rfl) (yr fun hx=>by apply yFR n hn;exact hx))) big (Nat.le_refl _)) h⟩
def zt_e:Entry:={ f:=53,args:=zt_a,ress:=zt_r,m:=fun x=>zt_M x.1 x.2.1 }
theorem yYm:FnOK Tryz.prog zt_e:=yJ (g:=zt_g) (fn:=Tryz.f53) yE yI eNil (by kernel_rfl) (by kernel_rfl) (by kernel_rfl) (fun x y h=>let ⟨n,hn⟩:=yVy x.1 x.2.1 y h;⟨ySb n,iNil,(yXg n x).trans hn⟩)
abbrev zk_a:Ty:=.pair t100 (.pair t100 .unit)
abbrev zk_r:Ty:=.pair t4 .unit
def zk_g:G:={ T:=T,E:=[],muts:=[],fz:=[] }
def zk_k:List (List Nat):=[[0,1,5]]
def yRY(n:Nat):Ann:={ keep:=zk_k,fuel:=n,inl:=[],deep:=0 }
def yPM(n:Nat)(r0:List (List Int)→List (List Int)→Int→Option (Bool×Unit))(ai:List (List Int))(al:List (List Int))(au:Int):Option (Bool×Unit) :=
  (bif decide (au < (↑ai.length:Int))then (Option.bind (idx ai au) fun v1=>(Option.bind (idx al au) fun v2=>(bif !eqV (Ty.arr (2:Nat) (Ty.int IntKind.i64)) v1 v2 then some (Bool.false,())else r0 ai al (IntKind.i64.wrap (au+1)))))else some (Bool.true,()))
def yNu(n:Nat)(k:Nat)(ai:List (List Int))(al:List (List Int))(au:Int):Option (Bool×Unit) :=
  iter (fun r y=>yPM n (fun ai al au=>r ((ai,(al,(au,()))),((),()))) y.1.1 y.1.2.1 y.1.2.2.1) k ((ai,(al,(au,()))),((),()))
def zk_m(n:Nat)(a:List (List Int))(b:List (List Int)):Option (Bool×Unit) :=
  (bif (↑a.length:Int) != (↑b.length:Int)then some (Bool.false,())else (yNu n n (a) (b) ((0:Int))))
theorem yYY(n:Nat)(x:zk_a.den):runF zk_g (yRY n) Tryz.f66 zk_a zk_r x=zk_m n x.1 x.2.1:=by kernel_rfl
def zk_M(a:List (List Int))(b:List (List Int)):Option (Bool×Unit):=zk_m 1000 a b
theorem ySH(a:List (List Int))(b:List (List Int))(y:Bool×Unit)(h:zk_M a b=some y):∃ n,zk_m n a b=some y:=⟨1000,h⟩
def zk_e:Entry:={ f:=66,args:=zk_a,ress:=zk_r,m:=fun x=>zk_M x.1 x.2.1 }
theorem yZ4:FnOK Tryz.prog zk_e:=yJ (g:=zk_g) (fn:=Tryz.f66) yE yI eNil (by kernel_rfl) (by kernel_rfl) (by kernel_rfl) (fun x y h=>let ⟨n,hn⟩:=ySH x.1 x.2.1 y h;⟨yRY n,iNil,(yYY n x).trans hn⟩)
abbrev zq_a:Ty:=.pair t41 (.pair t41 .unit)
abbrev zq_r:Ty:=.pair t4 .unit
def zq_g:G:={ T:=T,E:=[],muts:=[],fz:=[] }
def zq_k:List (List Nat):=[[0,1,5]]
def yWF(n:Nat):Ann:={ keep:=zq_k,fuel:=n,inl:=[],deep:=0 }
def yO6(n:Nat)(r0:List Int→List Int→Int→Option (Bool×Unit))(ai:List Int)(al:List Int)(au:Int):Option (Bool×Unit) :=
  (bif decide (au < (↑ai.length:Int))then (Option.bind (idx ai au) fun v1=>(Option.bind (idx al au) fun v2=>(bif v1 != v2 then some (Bool.false,())else r0 ai al (IntKind.i64.wrap (au+1)))))else some (Bool.true,()))
def yOJ(n:Nat)(k:Nat)(ai:List Int)(al:List Int)(au:Int):Option (Bool×Unit) :=
  iter (fun r y=>yO6 n (fun ai al au=>r ((ai,(al,(au,()))),((),()))) y.1.1 y.1.2.1 y.1.2.2.1) k ((ai,(al,(au,()))),((),()))
def zq_m(n:Nat)(a:List Int)(b:List Int):Option (Bool×Unit) :=
  (bif (↑a.length:Int) != (↑b.length:Int)then some (Bool.false,())else (yOJ n n (a) (b) ((0:Int))))
theorem yXz(n:Nat)(x:zq_a.den):runF zq_g (yWF n) Tryz.f75 zq_a zq_r x=zq_m n x.1 x.2.1:=by kernel_rfl
def zq_M(a:List Int)(b:List Int):Option (Bool×Unit):=zq_m 1000 a b
theorem yVB(a:List Int)(b:List Int)(y:Bool×Unit)(h:zq_M a b=some y):∃ n,zq_m n a b=some y:=⟨1000,h⟩
def zq_e:Entry:={ f:=75,args:=zq_a,ress:=zq_r,m:=fun x=>zq_M x.1 x.2.1 }
theorem yYS:FnOK Tryz.prog zq_e:=yJ (g:=zq_g) (fn:=Tryz.f75) yE yI eNil (by kernel_rfl) (by kernel_rfl) (by kernel_rfl) (fun x y h=>let ⟨n,hn⟩:=yVB x.1 x.2.1 y h;⟨yWF n,iNil,(yXz n x).trans hn⟩)
abbrev zc_a:Ty:=.pair t61 .unit
abbrev zc_r:Ty:=.pair t3 .unit
def zc_g:G:={ T:=T,E:=[],muts:=[],fz:=[] }
def zc_k:List (List Nat):=[]
def yTo(n:Nat):Ann:={ keep:=zc_k,fuel:=n,inl:=[],deep:=0 }
def zc_m(n:Nat)(x1:Nat):Option (Int×Unit) :=
  (Option.bind (y1s Go.FloatKind.f32 x1 Go.FloatKind.f64) fun v0=>(Option.bind (y0M Go.FloatKind.f64 (y0u Go.BinOp.mul Go.FloatKind.f64 (nat_lit 4625196817309499392) v0) IntKind.i64) fun v1=>some (v1,())))
theorem yYP(n:Nat)(x:zc_a.den):runF zc_g (yTo n) Tryz.f78 zc_a zc_r x=zc_m n x.1:=by kernel_rfl
def zc_M(x1:Nat):Option (Int×Unit):=zc_m 0 x1
theorem yWr(x1:Nat)(y:Int×Unit)(h:zc_M x1=some y):∃ n,zc_m n x1=some y:=⟨0,h⟩
def zc_e:Entry:={ f:=78,args:=zc_a,ress:=zc_r,m:=fun x=>zc_M x.1 }
theorem yY9:FnOK Tryz.prog zc_e:=yJ (g:=zc_g) (fn:=Tryz.f78) yE yI eNil (by kernel_rfl) (by kernel_rfl) (by kernel_rfl) (fun x y h=>let ⟨n,hn⟩:=yWr x.1 y h;⟨yTo n,iNil,(yYP n x).trans hn⟩)
abbrev yND:Ty:=.pair t57 (.pair t57 .unit)
abbrev yT1:Ty:=.pair t57 .unit
def yWP:G:={ T:=T,E:=[],muts:=[],fz:=[] }
def yZA:List (List Nat):=[]
def yMX(n:Nat):Ann:={ keep:=yZA,fuel:=n,inl:=[],deep:=0 }
def yKp(n:Nat)(a:Q4)(b:Q4):Option ((Q4)×Unit) :=
  some ((IntKind.i64.wrap (IntKind.i64.wrap (a.1 * b.1) - IntKind.i64.wrap (a.2.1 * b.2.1)),IntKind.i64.wrap (IntKind.i64.wrap (a.1 * b.2.1)+IntKind.i64.wrap (a.2.1 * b.1)),()),())
theorem yQw(n:Nat)(x:yND.den):runF yWP (yMX n) Tryz.f80 yND yT1 x=yKp n x.1 x.2.1:=by kernel_rfl
def z0Q(a:Q4)(b:Q4):((Q4)×Unit) :=
  ((IntKind.i64.wrap (IntKind.i64.wrap (a.1 * b.1) - IntKind.i64.wrap (a.2.1 * b.2.1)),IntKind.i64.wrap (IntKind.i64.wrap (a.1 * b.2.1)+IntKind.i64.wrap (a.2.1 * b.1)),()),())
abbrev yWU (a:Q4) (b:Q4):Option ((Q4)×Unit):=some (z0Q a b)
theorem yOV(a:Q4)(b:Q4)(y:(Q4)×Unit)(h:yWU a b=some y):∃ n,yKp n a b=some y :=
  ⟨0,by rw[← h];show yKp 0 a b=some (z0Q a b);unfold yKp z0Q;first|rfl|(simp only[yG];done)|(simp only[yG];rfl)⟩
def z0Q_e:Entry:={ f:=80,args:=yND,ress:=yT1,m:=fun x=>yWU x.1 x.2.1 }
theorem yTL:FnOK Tryz.prog z0Q_e:=yJ (g:=yWP) (fn:=Tryz.f80) yE yI eNil (by kernel_rfl) (by kernel_rfl) (by kernel_rfl) (fun x y h=>let ⟨n,hn⟩:=yOV x.1 x.2.1 y h;⟨yMX n,iNil,(yQw n x).trans hn⟩)
abbrev yMl:Ty:=.pair t57 (.pair t57 .unit)
abbrev yRD:Ty:=.pair t57 .unit
def yXF:G:={ T:=T,E:=[],muts:=[],fz:=[] }
def yYQ:List (List Nat):=[]
def yLO(n:Nat):Ann:={ keep:=yYQ,fuel:=n,inl:=[],deep:=0 }
def yJJ(n:Nat)(a:Q4)(b:Q4):Option ((Q4)×Unit) :=
  some ((IntKind.i64.wrap (a.1+b.1),IntKind.i64.wrap (a.2.1+b.2.1),()),())
theorem ySR(n:Nat)(x:yMl.den):runF yXF (yLO n) Tryz.f82 yMl yRD x=yJJ n x.1 x.2.1:=by kernel_rfl
def z0j(a:Q4)(b:Q4):((Q4)×Unit) :=
  ((IntKind.i64.wrap (a.1+b.1),IntKind.i64.wrap (a.2.1+b.2.1),()),())
abbrev yW4 (a:Q4) (b:Q4):Option ((Q4)×Unit):=some (z0j a b)
theorem yPI(a:Q4)(b:Q4)(y:(Q4)×Unit)(h:yW4 a b=some y):∃ n,yJJ n a b=some y :=
  ⟨0,by rw[← h];show yJJ 0 a b=some (z0j a b);unfold yJJ z0j;first|rfl|(simp only[yG];done)|(simp only[yG];rfl)⟩
def z0j_e:Entry:={ f:=82,args:=yMl,ress:=yRD,m:=fun x=>yW4 x.1 x.2.1 }
theorem yV3:FnOK Tryz.prog z0j_e:=yJ (g:=yXF) (fn:=Tryz.f82) yE yI eNil (by kernel_rfl) (by kernel_rfl) (by kernel_rfl) (fun x y h=>let ⟨n,hn⟩:=yPI x.1 x.2.1 y h;⟨yLO n,iNil,(ySR n x).trans hn⟩)
abbrev yNU:Ty:=.pair t23 .unit
abbrev ySr:Ty:=.pair t23 .unit
def yTp:G:={ T:=T,E:=[],muts:=[3],fz:=[] }
def yZM:List (List Nat):=[]
def yLF(n:Nat):Ann:={ keep:=yZM,fuel:=n,inl:=[],deep:=0 }
def yIi(n:Nat)(l:List (Q4)):Option (List (Q4)×Unit) :=
  (bif decide ((0:Nat)+l.length≤memMax)then some (l,())else none)
theorem yTz(n:Nat)(x:yNU.den):runF yTp (yLF n) Tryz.f84 yNU ySr x=yIi n x.1:=by kernel_rfl
def yJN(l:List (Q4)):Option (List (Q4)×Unit):=yIi 0 l
theorem yQV(l:List (Q4))(y:List (Q4)×Unit)(h:yJN l=some y):∃ n,yIi n l=some y:=⟨0,h⟩
def z01_e:Entry:={ f:=84,args:=yNU,ress:=ySr,m:=fun x=>yJN x.1 }
theorem yTW:FnOK Tryz.prog z01_e:=yJ (g:=yTp) (fn:=Tryz.f84) yE yI eNil (by kernel_rfl) (by kernel_rfl) (by kernel_rfl) (fun x y h=>let ⟨n,hn⟩:=yQV x.1 y h;⟨yLF n,iNil,(yTz n x).trans hn⟩)
abbrev yPJ:Ty:=.pair t57 .unit
abbrev ySz:Ty:=.pair t4 .unit
def yRp:G:={ T:=T,E:=[],muts:=[],fz:=[] }
def yZj:List (List Nat):=[]
def yLt(n:Nat):Ann:={ keep:=yZj,fuel:=n,inl:=[],deep:=0 }
def yIZ(n:Nat)(z:Q4):Option (Bool×Unit) :=
  (bif decide ((if Bool.true=Bool.true then imax (imax (imax z.1 (IntKind.i64.wrap ((0:Int) - z.1))) z.2.1) (IntKind.i64.wrap ((0:Int) - z.2.1))else imin (imin (imin z.1 (IntKind.i64.wrap ((0:Int) - z.1))) z.2.1) (IntKind.i64.wrap ((0:Int) - z.2.1)))≤268435456)then some (decide ((if z.2.1 < z.1 then z.2.1 else z.1) ≥ (-268435456:Int)),())else some (Bool.false,()))
theorem yUa(n:Nat)(x:yPJ.den):runF yRp (yLt n) Tryz.f95 yPJ ySz x=yIZ n x.1:=by kernel_rfl
def z0O(z:Q4):(Bool×Unit) :=
  (bif decide ((if Bool.true=Bool.true then imax (imax (imax z.1 (IntKind.i64.wrap ((0:Int) - z.1))) z.2.1) (IntKind.i64.wrap ((0:Int) - z.2.1))else imin (imin (imin z.1 (IntKind.i64.wrap ((0:Int) - z.1))) z.2.1) (IntKind.i64.wrap ((0:Int) - z.2.1)))≤268435456)then (decide ((if z.2.1 < z.1 then z.2.1 else z.1) ≥ (-268435456:Int)),())else (Bool.false,()))
abbrev yTD (z:Q4):Option (Bool×Unit):=some (z0O z)
theorem yQQ(z:Q4)(y:Bool×Unit)(h:yTD z=some y):∃ n,yIZ n z=some y :=
  ⟨0,by rw[← h];show yIZ 0 z=some (z0O z);unfold yIZ z0O;first|rfl|(simp only[yG];done)|(simp only[yG];rfl)⟩
def z0O_e:Entry:={ f:=95,args:=yPJ,ress:=ySz,m:=fun x=>yTD x.1 }
theorem yRe:FnOK Tryz.prog z0O_e:=yJ (g:=yRp) (fn:=Tryz.f95) yE yI eNil (by kernel_rfl) (by kernel_rfl) (by kernel_rfl) (fun x y h=>let ⟨n,hn⟩:=yQQ x.1 y h;⟨yLt n,iNil,(yUa n x).trans hn⟩)
abbrev yNi:Ty:=.pair t58 .unit
abbrev yTk:Ty:=.pair t60 .unit
def yTy:G:={ T:=T,E:=[],muts:=[],fz:=[] }
def yYj:List (List Nat):=[]
def yMQ(n:Nat):Ann:={ keep:=yYj,fuel:=n,inl:=[],deep:=0 }
def yJc(n:Nat)(gaps:List (Q4)):Option ((Q1)×Unit) :=
  some (([(103:UInt8)],(0:Int),[nat_lit 1065353216,nat_lit 0,nat_lit 3212836864,nat_lit 0],gaps,()),())
theorem yVi(n:Nat)(x:yNi.den):runF yTy (yMQ n) Tryz.f102 yNi yTk x=yJc n x.1:=by kernel_rfl
def z0f(gaps:List (Q4)):((Q1)×Unit) :=
  (([(103:UInt8)],(0:Int),[nat_lit 1065353216,nat_lit 0,nat_lit 3212836864,nat_lit 0],gaps,()),())
abbrev yV0 (gaps:List (Q4)):Option ((Q1)×Unit):=some (z0f gaps)
theorem yOz(gaps:List (Q4))(y:(Q1)×Unit)(h:yV0 gaps=some y):∃ n,yJc n gaps=some y :=
  ⟨0,by rw[← h];show yJc 0 gaps=some (z0f gaps);unfold yJc z0f;first|rfl|(simp only[yG];done)|(simp only[yG];rfl)⟩
def z0f_e:Entry:={ f:=102,args:=yNi,ress:=yTk,m:=fun x=>yV0 x.1 }
theorem ySm:FnOK Tryz.prog z0f_e:=yJ (g:=yTy) (fn:=Tryz.f102) yE yI eNil (by kernel_rfl) (by kernel_rfl) (by kernel_rfl) (fun x y h=>let ⟨n,hn⟩:=yOz x.1 y h;⟨yMQ n,iNil,(yVi n x).trans hn⟩)
abbrev yP4:Ty:=.pair t9 .unit
abbrev yW8:Ty:=.pair t31 .unit
def yR8:G:={ T:=T,E:=[],muts:=[3],fz:=[] }
def yZd:List (List Nat):=[[3,8]]
def yMI(n:Nat):Ann:={ keep:=yZd,fuel:=n,inl:=[],deep:=0 }
def yKc(n:Nat)(r0:List (Q3)→List UInt8→Int→Option (List (Q3)×Unit))(aI:List (Q3))(str1__0:List UInt8)(pos1__0:Int):Option (List (Q3)×Unit) :=
  (bif decide (pos1__0 < (↑str1__0.length:Int))then (bif (yc str1__0 pos1__0).1==72 then (bif decide (aI.length+(1:Nat)≤memMax)then r0 (aI++[(y40 (yc str1__0 pos1__0).1,(1:Int),(2:Int),())]) str1__0 (yc str1__0 pos1__0).2 else none)else (bif (yc str1__0 pos1__0).1==81 then (bif decide (aI.length+(1:Nat)≤memMax)then r0 (aI++[(y40 (yc str1__0 pos1__0).1,(1:Int),(1:Int),())]) str1__0 (yc str1__0 pos1__0).2 else none)else (bif (yc str1__0 pos1__0).1==82 then (bif decide (aI.length+(1:Nat)≤memMax)then r0 (aI++[(y40 (yc str1__0 pos1__0).1,(1:Int),(3:Int),())]) str1__0 (yc str1__0 pos1__0).2 else none)else (bif decide (aI.length+(1:Nat)≤memMax)then r0 (aI++[(y40 (yc str1__0 pos1__0).1,(1:Int),(0:Int),())]) str1__0 (yc str1__0 pos1__0).2 else none))))else some (aI,()))
def yKT(n:Nat)(k:Nat)(aI:List (Q3))(str1__0:List UInt8)(pos1__0:Int):Option (List (Q3)×Unit) :=
  iter (fun r y=>yKc n (fun aI str1__0 pos1__0=>r ((),((aI,((str1__0,pos1__0),())),()))) y.2.1.1 y.2.1.2.1.1 y.2.1.2.1.2) k ((),((aI,((str1__0,pos1__0),())),()))
def yNq(n:Nat)(names:List UInt8):Option (List (Q3)×Unit) :=
  (yKT n n ([]) (names) ((0:Int)))
theorem yWb(n:Nat)(x:yP4.den):runF yR8 (yMI n) Tryz.f103 yP4 yW8 x=yNq n x.1:=by kernel_rfl
def y5k(names:List UInt8):Option (List (Q3)×Unit):=yNq 1000 names
theorem yOZ(names:List UInt8)(y:List (Q3)×Unit)(h:y5k names=some y):∃ n,yNq n names=some y:=⟨1000,h⟩
def z0N_e:Entry:={ f:=103,args:=yP4,ress:=yW8,m:=fun x=>y5k x.1 }
theorem yV6:FnOK Tryz.prog z0N_e:=yJ (g:=yR8) (fn:=Tryz.f103) yE yI eNil (by kernel_rfl) (by kernel_rfl) (by kernel_rfl) (fun x y h=>let ⟨n,hn⟩:=yOZ x.1 y h;⟨yMI n,iNil,(yWb n x).trans hn⟩)
abbrev yPS:Ty:=.pair t175 .unit
abbrev yTl:Ty:=.pair t28 .unit
def yRN:G:={ T:=T,E:=[],muts:=[],fz:=[] }
def yXt:List (List Nat):=[[5,6,7]]
def yLS(n:Nat):Ann:={ keep:=yXt,fuel:=n,inl:=[],deep:=0 }
def yEJ(n:Nat)(r0:List Int→Int→Int→Option (Int×Unit))(b8:List Int)(aB:Int)(ax:Int):Option (Int×Unit) :=
  (bif decide (ax < aB)then (Option.bind (idx b8 ax) fun v1=>(bif v1 != 0 then some (v1,())else r0 b8 aB (IntKind.i64.wrap (ax+1))))else some ((0:Int),()))
def y6s(n:Nat)(k:Nat)(b8:List Int)(aB:Int)(ax:Int):Option (Int×Unit) :=
  iter (fun r y=>yEJ n (fun b8 aB ax=>r ((b8,(aB,(ax,()))),((),()))) y.1.1 y.1.2.1 y.1.2.2.1) k ((b8,(aB,(ax,()))),((),()))
def yIY(n:Nat)(l:List Int):Option (Int×Unit) :=
  (y6s n n (l) ((↑l.length:Int)) ((0:Int)))
theorem yTC(n:Nat)(x:yPS.den):runF yRN (yLS n) Tryz.f104 yPS yTl x=yIY n x.1:=by kernel_rfl
def yE5(b8:List Int)(ax:Int)(v1:Int):Option ((Int×Unit)⊕Unit) :=
  (bif v1 != 0 then (some (Sum.inl ((v1,()))))else (some (Sum.inr ())))
def yEa(b8:List Int):Option (Int×Unit) :=
  (some (((0:Int),())))
theorem yCr(n:Nat)(hn:big≤n)(b8:List Int)(hx:List.length (b8) < lenMax):LeF some (yf (fun am aE ae=>yE5 b8 am aE) (fun ae=>yEa b8) 0 (b8) ()) (y6s n n b8 (List.length (b8):Int) 0):=by
  refine yn (f:=some) (W:=fun aM am ae=>y6s n aM b8 (List.length (b8):Int) am) (body:=(fun am aE ae=>yE5 b8 am aE)) (fin:=(fun ae=>yEa b8)) (fun aM am ae=>?_) hx () n (by unfold big at hn;unfold lenMax at hx;omega)
  show LeF _ _ (yEJ n (y6s n aM) b8 (List.length (b8):Int) am)
  exact y9 (yB fun v1=>(y9 (y8 rfl) (y8 rfl))) (y1F (y8 rfl))
def y1h(l:List Int):Option (Int×Unit) :=
  (bif decide (List.length (l) < lenMax)then yf (fun am aE ae=>yE5 (l) am aE) (fun ae=>yEa (l)) 0 (l) ()else none)
theorem yPV(l:List Int)(y:Int×Unit)(h:y1h l=some y):∃ n,yIY n l=some y :=
  ⟨big,LeF.top (show LeF some (y1h l) (yIY big l)from (fun (n:Nat) (hn:big≤n)=>show LeF some (y1h l) (yIY n l)from (yr fun hx=>by apply yCr n hn;exact hx)) big (Nat.le_refl _)) h⟩
def z0s_e:Entry:={ f:=104,args:=yPS,ress:=yTl,m:=fun x=>y1h x.1 }
theorem y3W:FnOK Tryz.prog z0s_e:=yJ (g:=yRN) (fn:=Tryz.f104) yE yI eNil (by kernel_rfl) (by kernel_rfl) (by kernel_rfl) (fun x y h=>let ⟨n,hn⟩:=yPV x.1 y h;⟨yLS n,iNil,(yTC n x).trans hn⟩)
abbrev yQg:Ty:=.pair t3 (.pair t3 .unit)
abbrev yTj:Ty:=.pair t3 .unit
def yWA:G:={ T:=T,E:=[],muts:=[],fz:=[] }
def yY5:List (List Nat):=[]
def yLf(n:Nat):Ann:={ keep:=yY5,fuel:=n,inl:=[],deep:=0 }
def yKL(n:Nat)(a:Int)(b:Int):Option (Int×Unit) :=
  (bif IntKind.i64.wrap ((2:Int) * b)==0 then none else (bif IntKind.i64.wrap ((2:Int) * b)==0 then none else (bif decide ((IntKind.i64.wrap (IntKind.i64.wrap ((2:Int) * a)+b)).tmod (IntKind.i64.wrap ((2:Int) * b)) < 0)then some (IntKind.i64.wrap (IntKind.i64.wrap ((IntKind.i64.wrap (IntKind.i64.wrap ((2:Int) * a)+b)).tdiv (IntKind.i64.wrap ((2:Int) * b))) - (1:Int)),())else some (IntKind.i64.wrap ((IntKind.i64.wrap (IntKind.i64.wrap ((2:Int) * a)+b)).tdiv (IntKind.i64.wrap ((2:Int) * b))),()))))
theorem yVf(n:Nat)(x:yQg.den):runF yWA (yLf n) Tryz.f107 yQg yTj x=yKL n x.1 x.2.1:=by kernel_rfl
def yEt(a:Int)(b:Int):Option (Int×Unit):=yKL 0 a b
theorem yNJ(a:Int)(b:Int)(y:Int×Unit)(h:yEt a b=some y):∃ n,yKL n a b=some y:=⟨0,h⟩
def z0I_e:Entry:={ f:=107,args:=yQg,ress:=yTj,m:=fun x=>yEt x.1 x.2.1 }
theorem yXG:FnOK Tryz.prog z0I_e:=yJ (g:=yWA) (fn:=Tryz.f107) yE yI eNil (by kernel_rfl) (by kernel_rfl) (by kernel_rfl) (fun x y h=>let ⟨n,hn⟩:=yNJ x.1 x.2.1 y h;⟨yLf n,iNil,(yVf n x).trans hn⟩)
abbrev yN9:Ty:=.pair t3 .unit
abbrev yVr:Ty:=.pair t3 .unit
def yU8:G:={ T:=T,E:=[],muts:=[],fz:=[] }
def yZ6:List (List Nat):=[]
def yMS(n:Nat):Ann:={ keep:=yZ6,fuel:=n,inl:=[],deep:=0 }
def yKW(n:Nat)(n1:Int):Option (Int×Unit) :=
  some (if IntKind.i64.wrap ((0:Int) - n1) > n1 then IntKind.i64.wrap ((0:Int) - n1)else n1,())
theorem yT9(n:Nat)(x:yN9.den):runF yU8 (yMS n) Tryz.f108 yN9 yVr x=yKW n x.1:=by kernel_rfl
def z06(n1:Int):(Int×Unit) :=
  (if IntKind.i64.wrap ((0:Int) - n1) > n1 then IntKind.i64.wrap ((0:Int) - n1)else n1,())
abbrev yVb (n1:Int):Option (Int×Unit):=some (z06 n1)
theorem yQ6(n1:Int)(y:Int×Unit)(h:yVb n1=some y):∃ n,yKW n n1=some y :=
  ⟨0,by rw[← h];show yKW 0 n1=some (z06 n1);unfold yKW z06;first|rfl|(simp only[yG];done)|(simp only[yG];rfl)⟩
def z06_e:Entry:={ f:=108,args:=yN9,ress:=yVr,m:=fun x=>yVb x.1 }
theorem yAp:FnOK Tryz.prog z06_e:=yJ (g:=yU8) (fn:=Tryz.f108) yE yI eNil (by kernel_rfl) (by kernel_rfl) (by kernel_rfl) (fun x y h=>let ⟨n,hn⟩:=yQ6 x.1 y h;⟨yMS n,iNil,(yT9 n x).trans hn⟩)
abbrev yQY:Ty:=.pair t4 (.pair t28 .unit)
abbrev yVp:Ty:=.pair t28 .unit
def yR9:G:={ T:=T,E:=[],muts:=[],fz:=[] }
def yZI:List (List Nat):=[]
def yML(n:Nat):Ann:={ keep:=yZI,fuel:=n,inl:=[],deep:=0 }
def yJP(n:Nat)(holds:Bool)(e:Int):Option (Int×Unit) :=
  (bif holds then some (e,())else some ((0:Int),()))
theorem yVc(n:Nat)(x:yQY.den):runF yR9 (yML n) Tryz.f113 yQY yVp x=yJP n x.1 x.2.1:=by kernel_rfl
def z16(holds:Bool)(e:Int):(Int×Unit) :=
  (bif holds then (e,())else ((0:Int),()))
abbrev yS6 (holds:Bool) (e:Int):Option (Int×Unit):=some (z16 holds e)
theorem yMf(holds:Bool)(e:Int)(y:Int×Unit)(h:yS6 holds e=some y):∃ n,yJP n holds e=some y :=
  ⟨0,by rw[← h];show yJP 0 holds e=some (z16 holds e);unfold yJP z16;first|rfl|(simp only[yG];done)|(simp only[yG];rfl)⟩
def z16_e:Entry:={ f:=113,args:=yQY,ress:=yVp,m:=fun x=>yS6 x.1 x.2.1 }
theorem y4V:FnOK Tryz.prog z16_e:=yJ (g:=yR9) (fn:=Tryz.f113) yE yI eNil (by kernel_rfl) (by kernel_rfl) (by kernel_rfl) (fun x y h=>let ⟨n,hn⟩:=yMf x.1 x.2.1 y h;⟨yML n,iNil,(yVc n x).trans hn⟩)
abbrev zF_a:Ty:=.pair t23 (.pair t177 .unit)
abbrev zF_r:Ty:=.pair t175 .unit
def zF_g:G:={ T:=T,E:=[],muts:=[5],fz:=[] }
def zF_k:List (List Nat):=[[1,5,8,9,10]]
def yUs(n:Nat):Ann:={ keep:=zF_k,fuel:=n,inl:=[],deep:=0 }
def yH7(n:Nat)(r0:((Q4)×Unit→Option (Int×Unit))→List (Q4)→Int→Int→List Int→Option (List Int×Unit))(ac:(Q4)×Unit→Option (Int×Unit))(aa:List (Q4))(aq:Int)(af:Int)(ah:List Int):Option (List Int×Unit) :=
  (bif decide (af < aq)then (Option.bind (idx aa af) fun v1=>(Option.bind (ac ((v1.1,v1.2.1,()),())) fun v2=>(bif decide (ah.length+(1:Nat)≤memMax)then r0 ac aa aq (IntKind.i64.wrap (af+1)) (ah++[v2.1])else none)))else some (ah,()))
def yAP(n:Nat)(k:Nat)(ac:(Q4)×Unit→Option (Int×Unit))(aa:List (Q4))(aq:Int)(af:Int)(ah:List Int):Option (List Int×Unit) :=
  iter (fun r y=>yH7 n (fun ac aa aq af ah=>r ((ac,(aa,(aq,(af,())))),((ah,()),()))) y.1.1 y.1.2.1 y.1.2.2.1 y.1.2.2.2.1 y.2.1.1) k ((ac,(aa,(aq,(af,())))),((ah,()),()))
def zF_m(n:Nat)(l:List (Q4))(of:(Q4)×Unit→Option (Int×Unit)):Option (List Int×Unit) :=
  (yAP n n (of) (l) ((↑l.length:Int)) ((0:Int)) ([]))
theorem yYu(n:Nat)(x:zF_a.den):runF zF_g (yUs n) Tryz.f115 zF_a zF_r x=zF_m n x.1 x.2.1:=by kernel_rfl
def yJS(ac:(Q4)×Unit→Option (Int×Unit))(aa:List (Q4))(af:Int)(v1:Q4)(ah:List Int):Option ((List Int×Unit)⊕(List Int)) :=
  (Option.bind (ac ((v1.1,v1.2.1,()),())) fun v2=>(bif decide (ah.length+(1:Nat)≤memMax)then (some (Sum.inr (ah++[v2.1])))else none))
def yPy(ac:(Q4)×Unit→Option (Int×Unit))(aa:List (Q4))(ah:List Int):Option (List Int×Unit) :=
  (some ((ah,())))
theorem yFK(n:Nat)(hn:big≤n)(ac:(Q4)×Unit→Option (Int×Unit))(aa:List (Q4))(ah:List Int)(hx:List.length (aa) < lenMax):LeF some (yf (fun am aE ae=>yJS ac aa am aE ae) (fun ae=>yPy ac aa ae) 0 (aa) ah) (yAP n n ac aa (List.length (aa):Int) 0 ah):=by
  refine yn (f:=some) (W:=fun aM am ae=>yAP n aM ac aa (List.length (aa):Int) am ae) (body:=(fun am aE ae=>yJS ac aa am aE ae)) (fin:=(fun ae=>yPy ac aa ae)) (fun aM am ae=>?_) hx ah n (by unfold big at hn;unfold lenMax at hx;omega)
  show LeF _ _ (yH7 n (yAP n aM) ac aa (List.length (aa):Int) am ae)
  exact y9 (yB fun v1=>(yB fun v2=>(y9 (y8 rfl) y1w))) (y1F (y8 rfl))
def zF_M(l:List (Q4))(of:(Q4)×Unit→Option (Int×Unit)):Option (List Int×Unit) :=
  (bif decide (List.length (l) < lenMax)then yf (fun am aE ae=>yJS (of) (l) am aE ae) (fun ae=>yPy (of) (l) ae) 0 (l) ([])else none)
theorem yUX(l:List (Q4))(of:(Q4)×Unit→Option (Int×Unit))(y:List Int×Unit)(h:zF_M l of=some y):∃ n,zF_m n l of=some y :=
  ⟨big,LeF.top (show LeF some (zF_M l of) (zF_m big l of)from (fun (n:Nat) (hn:big≤n)=>show LeF some (zF_M l of) (zF_m n l of)from (yr fun hx=>by apply yFK n hn;exact hx)) big (Nat.le_refl _)) h⟩
def zF_e:Entry:={ f:=115,args:=zF_a,ress:=zF_r,m:=fun x=>zF_M x.1 x.2.1 }
theorem yVQ:FnOK Tryz.prog zF_e:=yJ (g:=zF_g) (fn:=Tryz.f115) yE yI eNil (by kernel_rfl) (by kernel_rfl) (by kernel_rfl) (fun x y h=>let ⟨n,hn⟩:=yUX x.1 x.2.1 y h;⟨yUs n,iNil,(yYu n x).trans hn⟩)
abbrev yPv:Ty:=.pair t57 (.pair t57 .unit)
abbrev ySo:Ty:=.pair t57 .unit
def yTN:G:={ T:=T,E:=[],muts:=[],fz:=[] }
def yYx:List (List Nat):=[]
def yMC(n:Nat):Ann:={ keep:=yYx,fuel:=n,inl:=[],deep:=0 }
def yL2(n:Nat)(a:Q4)(b:Q4):Option ((Q4)×Unit) :=
  some ((IntKind.i64.wrap (IntKind.i64.wrap (a.1 * b.1) - IntKind.i64.wrap (a.2.1 * b.2.1)),IntKind.i64.wrap (IntKind.i64.wrap (a.1 * b.2.1)+IntKind.i64.wrap (a.2.1 * b.1)),()),())
theorem yVU(n:Nat)(x:yPv.den):runF yTN (yMC n) Tryz.f125 yPv ySo x=yL2 n x.1 x.2.1:=by kernel_rfl
def z0y(a:Q4)(b:Q4):((Q4)×Unit) :=
  ((IntKind.i64.wrap (IntKind.i64.wrap (a.1 * b.1) - IntKind.i64.wrap (a.2.1 * b.2.1)),IntKind.i64.wrap (IntKind.i64.wrap (a.1 * b.2.1)+IntKind.i64.wrap (a.2.1 * b.1)),()),())
abbrev yVq (a:Q4) (b:Q4):Option ((Q4)×Unit):=some (z0y a b)
theorem yOx(a:Q4)(b:Q4)(y:(Q4)×Unit)(h:yVq a b=some y):∃ n,yL2 n a b=some y :=
  ⟨0,by rw[← h];show yL2 0 a b=some (z0y a b);unfold yL2 z0y;first|rfl|(simp only[yG];done)|(simp only[yG];rfl)⟩
def z0y_e:Entry:={ f:=125,args:=yPv,ress:=ySo,m:=fun x=>yVq x.1 x.2.1 }
theorem yDS:FnOK Tryz.prog z0y_e:=yJ (g:=yTN) (fn:=Tryz.f125) yE yI eNil (by kernel_rfl) (by kernel_rfl) (by kernel_rfl) (fun x y h=>let ⟨n,hn⟩:=yOx x.1 x.2.1 y h;⟨yMC n,iNil,(yVU n x).trans hn⟩)
abbrev zx_a:Ty:=.pair t57 .unit
abbrev zx_r:Ty:=.pair t57 .unit
def zx_g:G:={ T:=T,E:=[],muts:=[],fz:=[] }
def zx_k:List (List Nat):=[]
def yVK(n:Nat):Ann:={ keep:=zx_k,fuel:=n,inl:=[],deep:=0 }
def zx_m(n:Nat)(a:Q4):Option ((Q4)×Unit) :=
  some ((a.1,IntKind.i64.wrap ((0:Int) - a.2.1),()),())
theorem yZu(n:Nat)(x:zx_a.den):runF zx_g (yVK n) Tryz.f126 zx_a zx_r x=zx_m n x.1:=by kernel_rfl
def zx(a:Q4):((Q4)×Unit) :=
  ((a.1,IntKind.i64.wrap ((0:Int) - a.2.1),()),())
abbrev zx_M (a:Q4):Option ((Q4)×Unit):=some (zx a)
theorem yVI(a:Q4)(y:(Q4)×Unit)(h:zx_M a=some y):∃ n,zx_m n a=some y :=
  ⟨0,by rw[← h];show zx_m 0 a=some (zx a);unfold zx_m zx;first|rfl|(simp only[yG];done)|(simp only[yG];rfl)⟩
def zx_e:Entry:={ f:=126,args:=zx_a,ress:=zx_r,m:=fun x=>zx_M x.1 }
theorem yPs:FnOK Tryz.prog zx_e:=yJ (g:=zx_g) (fn:=Tryz.f126) yE yI eNil (by kernel_rfl) (by kernel_rfl) (by kernel_rfl) (fun x y h=>let ⟨n,hn⟩:=yVI x.1 y h;⟨yVK n,iNil,(yZu n x).trans hn⟩)
abbrev z7_a:Ty:=.pair t31 (.pair t192 .unit)
abbrev z7_r:Ty:=.pair t31 .unit
def z7_g:G:={ T:=T,E:=[],muts:=[5],fz:=[] }
def z7_k:List (List Nat):=[[1,5,8,9,10]]
def yUC(n:Nat):Ann:={ keep:=z7_k,fuel:=n,inl:=[],deep:=0 }
def yGV(n:Nat)(r0:((Q3)×Unit→Option ((Q3)×Unit))→List (Q3)→Int→Int→List (Q3)→Option (List (Q3)×Unit))(ac:(Q3)×Unit→Option ((Q3)×Unit))(aa:List (Q3))(aq:Int)(af:Int)(ah:List (Q3)):Option (List (Q3)×Unit) :=
  (bif decide (af < aq)then (Option.bind (idx aa af) fun v1=>(Option.bind (ac ((v1.1,v1.2.1,v1.2.2.1,()),())) fun v2=>(bif decide (ah.length+(1:Nat)≤memMax)then r0 ac aa aq (IntKind.i64.wrap (af+1)) (ah++[v2.1])else none)))else some (ah,()))
def y9H(n:Nat)(k:Nat)(ac:(Q3)×Unit→Option ((Q3)×Unit))(aa:List (Q3))(aq:Int)(af:Int)(ah:List (Q3)):Option (List (Q3)×Unit) :=
  iter (fun r y=>yGV n (fun ac aa aq af ah=>r ((ac,(aa,(aq,(af,())))),((ah,()),()))) y.1.1 y.1.2.1 y.1.2.2.1 y.1.2.2.2.1 y.2.1.1) k ((ac,(aa,(aq,(af,())))),((ah,()),()))
def z7_m(n:Nat)(l:List (Q3))(of:(Q3)×Unit→Option ((Q3)×Unit)):Option (List (Q3)×Unit) :=
  (y9H n n (of) (l) ((↑l.length:Int)) ((0:Int)) ([]))
theorem yZo(n:Nat)(x:z7_a.den):runF z7_g (yUC n) Tryz.f130 z7_a z7_r x=z7_m n x.1 x.2.1:=by kernel_rfl
def yJv(ac:(Q3)×Unit→Option ((Q3)×Unit))(aa:List (Q3))(af:Int)(v1:Q3)(ah:List (Q3)):Option ((List (Q3)×Unit)⊕(List (Q3))) :=
  (Option.bind (ac ((v1.1,v1.2.1,v1.2.2.1,()),())) fun v2=>(bif decide (ah.length+(1:Nat)≤memMax)then (some (Sum.inr (ah++[v2.1])))else none))
def yP6(ac:(Q3)×Unit→Option ((Q3)×Unit))(aa:List (Q3))(ah:List (Q3)):Option (List (Q3)×Unit) :=
  (some ((ah,())))
theorem yEu(n:Nat)(hn:big≤n)(ac:(Q3)×Unit→Option ((Q3)×Unit))(aa:List (Q3))(ah:List (Q3))(hx:List.length (aa) < lenMax):LeF some (yf (fun am aE ae=>yJv ac aa am aE ae) (fun ae=>yP6 ac aa ae) 0 (aa) ah) (y9H n n ac aa (List.length (aa):Int) 0 ah):=by
  refine yn (f:=some) (W:=fun aM am ae=>y9H n aM ac aa (List.length (aa):Int) am ae) (body:=(fun am aE ae=>yJv ac aa am aE ae)) (fin:=(fun ae=>yP6 ac aa ae)) (fun aM am ae=>?_) hx ah n (by unfold big at hn;unfold lenMax at hx;omega)
  show LeF _ _ (yGV n (y9H n aM) ac aa (List.length (aa):Int) am ae)
  exact y9 (yB fun v1=>(yB fun v2=>(y9 (y8 rfl) y1w))) (y1F (y8 rfl))
def z7_M(l:List (Q3))(of:(Q3)×Unit→Option ((Q3)×Unit)):Option (List (Q3)×Unit) :=
  (bif decide (List.length (l) < lenMax)then yf (fun am aE ae=>yJv (of) (l) am aE ae) (fun ae=>yP6 (of) (l) ae) 0 (l) ([])else none)
theorem yRr(l:List (Q3))(of:(Q3)×Unit→Option ((Q3)×Unit))(y:List (Q3)×Unit)(h:z7_M l of=some y):∃ n,z7_m n l of=some y :=
  ⟨big,LeF.top (show LeF some (z7_M l of) (z7_m big l of)from (fun (n:Nat) (hn:big≤n)=>show LeF some (z7_M l of) (z7_m n l of)from (yr fun hx=>by apply yEu n hn;exact hx)) big (Nat.le_refl _)) h⟩
def z7_e:Entry:={ f:=130,args:=z7_a,ress:=z7_r,m:=fun x=>z7_M x.1 x.2.1 }
theorem yWV:FnOK Tryz.prog z7_e:=yJ (g:=z7_g) (fn:=Tryz.f130) yE yI eNil (by kernel_rfl) (by kernel_rfl) (by kernel_rfl) (fun x y h=>let ⟨n,hn⟩:=yRr x.1 x.2.1 y h;⟨yUC n,iNil,(yZo n x).trans hn⟩)
abbrev yPW:Ty:=.pair t55 .unit
abbrev yUt:Ty:=.pair t55 .unit
def yTZ:G:={ T:=T,E:=[],muts:=[],fz:=[] }
def yZR:List (List Nat):=[]
def yMd(n:Nat):Ann:={ keep:=yZR,fuel:=n,inl:=[],deep:=0 }
def yJK(n:Nat)(c:Q3):Option ((Q3)×Unit) :=
  some ((c.1,c.2.1,c.2.2.1,()),())
theorem yWn(n:Nat)(x:yPW.den):runF yTZ (yMd n) Tryz.f131 yPW yUt x=yJK n x.1:=by kernel_rfl
def z0p(c:Q3):((Q3)×Unit) :=
  ((c.1,c.2.1,c.2.2.1,()),())
abbrev yTQ (c:Q3):Option ((Q3)×Unit):=some (z0p c)
theorem yPl(c:Q3)(y:(Q3)×Unit)(h:yTQ c=some y):∃ n,yJK n c=some y :=
  ⟨0,by rw[← h];show yJK 0 c=some (z0p c);unfold yJK z0p;first|rfl|(simp only[yG];done)|(simp only[yG];rfl)⟩
def z0p_e:Entry:={ f:=131,args:=yPW,ress:=yUt,m:=fun x=>yTQ x.1 }
theorem yUx:FnOK Tryz.prog z0p_e:=yJ (g:=yTZ) (fn:=Tryz.f131) yE yI eNil (by kernel_rfl) (by kernel_rfl) (by kernel_rfl) (fun x y h=>let ⟨n,hn⟩:=yPl x.1 y h;⟨yMd n,iNil,(yWn n x).trans hn⟩)
abbrev zG_a:Ty:=.pair t23 (.pair t129 .unit)
abbrev zG_r:Ty:=.pair t23 .unit
def zG_g:G:={ T:=T,E:=[],muts:=[5],fz:=[] }
def zG_k:List (List Nat):=[[1,5,8,9,10]]
def yRR(n:Nat):Ann:={ keep:=zG_k,fuel:=n,inl:=[],deep:=0 }
def yGT(n:Nat)(r0:((Q4)×Unit→Option ((Q4)×Unit))→List (Q4)→Int→Int→List (Q4)→Option (List (Q4)×Unit))(ac:(Q4)×Unit→Option ((Q4)×Unit))(aa:List (Q4))(aq:Int)(af:Int)(ah:List (Q4)):Option (List (Q4)×Unit) :=
  (bif decide (af < aq)then (Option.bind (idx aa af) fun v1=>(Option.bind (ac ((v1.1,v1.2.1,()),())) fun v2=>(bif decide (ah.length+(1:Nat)≤memMax)then r0 ac aa aq (IntKind.i64.wrap (af+1)) (ah++[v2.1])else none)))else some (ah,()))
def y9g(n:Nat)(k:Nat)(ac:(Q4)×Unit→Option ((Q4)×Unit))(aa:List (Q4))(aq:Int)(af:Int)(ah:List (Q4)):Option (List (Q4)×Unit) :=
  iter (fun r y=>yGT n (fun ac aa aq af ah=>r ((ac,(aa,(aq,(af,())))),((ah,()),()))) y.1.1 y.1.2.1 y.1.2.2.1 y.1.2.2.2.1 y.2.1.1) k ((ac,(aa,(aq,(af,())))),((ah,()),()))
def zG_m(n:Nat)(l:List (Q4))(of:(Q4)×Unit→Option ((Q4)×Unit)):Option (List (Q4)×Unit) :=
  (y9g n n (of) (l) ((↑l.length:Int)) ((0:Int)) ([]))
theorem yZE(n:Nat)(x:zG_a.den):runF zG_g (yRR n) Tryz.f132 zG_a zG_r x=zG_m n x.1 x.2.1:=by kernel_rfl
def yJ7(ac:(Q4)×Unit→Option ((Q4)×Unit))(aa:List (Q4))(af:Int)(v1:Q4)(ah:List (Q4)):Option ((List (Q4)×Unit)⊕(List (Q4))) :=
  (Option.bind (ac ((v1.1,v1.2.1,()),())) fun v2=>(bif decide (ah.length+(1:Nat)≤memMax)then (some (Sum.inr (ah++[v2.1])))else none))
def yMr(ac:(Q4)×Unit→Option ((Q4)×Unit))(aa:List (Q4))(ah:List (Q4)):Option (List (Q4)×Unit) :=
  (some ((ah,())))
theorem yEp(n:Nat)(hn:big≤n)(ac:(Q4)×Unit→Option ((Q4)×Unit))(aa:List (Q4))(ah:List (Q4))(hx:List.length (aa) < lenMax):LeF some (yf (fun am aE ae=>yJ7 ac aa am aE ae) (fun ae=>yMr ac aa ae) 0 (aa) ah) (y9g n n ac aa (List.length (aa):Int) 0 ah):=by
  refine yn (f:=some) (W:=fun aM am ae=>y9g n aM ac aa (List.length (aa):Int) am ae) (body:=(fun am aE ae=>yJ7 ac aa am aE ae)) (fin:=(fun ae=>yMr ac aa ae)) (fun aM am ae=>?_) hx ah n (by unfold big at hn;unfold lenMax at hx;omega)
  show LeF _ _ (yGT n (y9g n aM) ac aa (List.length (aa):Int) am ae)
  exact y9 (yB fun v1=>(yB fun v2=>(y9 (y8 rfl) y1w))) (y1F (y8 rfl))
def zG_M(l:List (Q4))(of:(Q4)×Unit→Option ((Q4)×Unit)):Option (List (Q4)×Unit) :=
  (bif decide (List.length (l) < lenMax)then yf (fun am aE ae=>yJ7 (of) (l) am aE ae) (fun ae=>yMr (of) (l) ae) 0 (l) ([])else none)
theorem yWz(l:List (Q4))(of:(Q4)×Unit→Option ((Q4)×Unit))(y:List (Q4)×Unit)(h:zG_M l of=some y):∃ n,zG_m n l of=some y :=
  ⟨big,LeF.top (show LeF some (zG_M l of) (zG_m big l of)from (fun (n:Nat) (hn:big≤n)=>show LeF some (zG_M l of) (zG_m n l of)from (yr fun hx=>by apply yEp n hn;exact hx)) big (Nat.le_refl _)) h⟩
def zG_e:Entry:={ f:=132,args:=zG_a,ress:=zG_r,m:=fun x=>zG_M x.1 x.2.1 }
theorem yPd:FnOK Tryz.prog zG_e:=yJ (g:=zG_g) (fn:=Tryz.f132) yE yI eNil (by kernel_rfl) (by kernel_rfl) (by kernel_rfl) (fun x y h=>let ⟨n,hn⟩:=yWz x.1 x.2.1 y h;⟨yRR n,iNil,(yZE n x).trans hn⟩)
abbrev yQE:Ty:=.pair t57 (.pair t3 .unit)
abbrev ySY:Ty:=.pair t57 .unit
def yWa:G:={ T:=T,E:=[],muts:=[],fz:=[] }
def yYE:List (List Nat):=[]
def yLG(n:Nat):Ann:={ keep:=yYE,fuel:=n,inl:=[],deep:=0 }
def yKH(n:Nat)(a:Q4)(n1:Int):Option ((Q4)×Unit) :=
  some ((IntKind.i64.wrap (n1 * a.1),IntKind.i64.wrap (n1 * a.2.1),()),())
theorem yUw(n:Nat)(x:yQE.den):runF yWa (yLG n) Tryz.f134 yQE ySY x=yKH n x.1 x.2.1:=by kernel_rfl
def z0Z(a:Q4)(n1:Int):((Q4)×Unit) :=
  ((IntKind.i64.wrap (n1 * a.1),IntKind.i64.wrap (n1 * a.2.1),()),())
abbrev yVA (a:Q4) (n1:Int):Option ((Q4)×Unit):=some (z0Z a n1)
theorem yQk(a:Q4)(n1:Int)(y:(Q4)×Unit)(h:yVA a n1=some y):∃ n,yKH n a n1=some y :=
  ⟨0,by rw[← h];show yKH 0 a n1=some (z0Z a n1);unfold yKH z0Z;first|rfl|(simp only[yG];done)|(simp only[yG];rfl)⟩
def z0Z_e:Entry:={ f:=134,args:=yQE,ress:=ySY,m:=fun x=>yVA x.1 x.2.1 }
theorem y8y:FnOK Tryz.prog z0Z_e:=yJ (g:=yWa) (fn:=Tryz.f134) yE yI eNil (by kernel_rfl) (by kernel_rfl) (by kernel_rfl) (fun x y h=>let ⟨n,hn⟩:=yQk x.1 x.2.1 y h;⟨yLG n,iNil,(yUw n x).trans hn⟩)
abbrev yMq:Ty:=.pair t57 (.pair t57 .unit)
abbrev yTx:Ty:=.pair t57 .unit
def ySe:G:={ T:=T,E:=[],muts:=[],fz:=[] }
def yY2:List (List Nat):=[]
def yMR(n:Nat):Ann:={ keep:=yY2,fuel:=n,inl:=[],deep:=0 }
def yKf(n:Nat)(a:Q4)(b:Q4):Option ((Q4)×Unit) :=
  some ((IntKind.i64.wrap (a.1+b.1),IntKind.i64.wrap (a.2.1+b.2.1),()),())
theorem yWy(n:Nat)(x:yMq.den):runF ySe (yMR n) Tryz.f135 yMq yTx x=yKf n x.1 x.2.1:=by kernel_rfl
def z15(a:Q4)(b:Q4):((Q4)×Unit) :=
  ((IntKind.i64.wrap (a.1+b.1),IntKind.i64.wrap (a.2.1+b.2.1),()),())
abbrev yW2 (a:Q4) (b:Q4):Option ((Q4)×Unit):=some (z15 a b)
theorem yP5(a:Q4)(b:Q4)(y:(Q4)×Unit)(h:yW2 a b=some y):∃ n,yKf n a b=some y :=
  ⟨0,by rw[← h];show yKf 0 a b=some (z15 a b);unfold yKf z15;first|rfl|(simp only[yG];done)|(simp only[yG];rfl)⟩
def z15_e:Entry:={ f:=135,args:=yMq,ress:=yTx,m:=fun x=>yW2 x.1 x.2.1 }
theorem yBi:FnOK Tryz.prog z15_e:=yJ (g:=ySe) (fn:=Tryz.f135) yE yI eNil (by kernel_rfl) (by kernel_rfl) (by kernel_rfl) (fun x y h=>let ⟨n,hn⟩:=yP5 x.1 x.2.1 y h;⟨yMR n,iNil,(yWy n x).trans hn⟩)
abbrev zH_a:Ty:=.pair t23 (.pair t196 .unit)
abbrev zH_r:Ty:=.pair t79 .unit
def zH_g:G:={ T:=T,E:=[],muts:=[5],fz:=[] }
def zH_k:List (List Nat):=[[1,5,8,9,10]]
def yVV(n:Nat):Ann:={ keep:=zH_k,fuel:=n,inl:=[],deep:=0 }
def yHk(n:Nat)(r0:((Q4)×Unit→Option ((Nat×Nat)×Unit))→List (Q4)→Int→Int→List (Nat×Nat)→Option (List (Nat×Nat)×Unit))(ac:(Q4)×Unit→Option ((Nat×Nat)×Unit))(aa:List (Q4))(aq:Int)(af:Int)(ah:List (Nat×Nat)):Option (List (Nat×Nat)×Unit) :=
  (bif decide (af < aq)then (Option.bind (idx aa af) fun v1=>(Option.bind (ac ((v1.1,v1.2.1,()),())) fun v2=>(bif decide (ah.length+(1:Nat)≤memMax)then r0 ac aa aq (IntKind.i64.wrap (af+1)) (ah++[v2.1])else none)))else some (ah,()))
def y9e(n:Nat)(k:Nat)(ac:(Q4)×Unit→Option ((Nat×Nat)×Unit))(aa:List (Q4))(aq:Int)(af:Int)(ah:List (Nat×Nat)):Option (List (Nat×Nat)×Unit) :=
  iter (fun r y=>yHk n (fun ac aa aq af ah=>r ((ac,(aa,(aq,(af,())))),((ah,()),()))) y.1.1 y.1.2.1 y.1.2.2.1 y.1.2.2.2.1 y.2.1.1) k ((ac,(aa,(aq,(af,())))),((ah,()),()))
def zH_m(n:Nat)(l:List (Q4))(of:(Q4)×Unit→Option ((Nat×Nat)×Unit)):Option (List (Nat×Nat)×Unit) :=
  (y9e n n (of) (l) ((↑l.length:Int)) ((0:Int)) ([]))
theorem yYk(n:Nat)(x:zH_a.den):runF zH_g (yVV n) Tryz.f139 zH_a zH_r x=zH_m n x.1 x.2.1:=by kernel_rfl
def yO4(ac:(Q4)×Unit→Option ((Nat×Nat)×Unit))(aa:List (Q4))(af:Int)(v1:Q4)(ah:List (Nat×Nat)):Option ((List (Nat×Nat)×Unit)⊕(List (Nat×Nat))) :=
  (Option.bind (ac ((v1.1,v1.2.1,()),())) fun v2=>(bif decide (ah.length+(1:Nat)≤memMax)then (some (Sum.inr (ah++[v2.1])))else none))
def yOH(ac:(Q4)×Unit→Option ((Nat×Nat)×Unit))(aa:List (Q4))(ah:List (Nat×Nat)):Option (List (Nat×Nat)×Unit) :=
  (some ((ah,())))
theorem yFx(n:Nat)(hn:big≤n)(ac:(Q4)×Unit→Option ((Nat×Nat)×Unit))(aa:List (Q4))(ah:List (Nat×Nat))(hx:List.length (aa) < lenMax):LeF some (yf (fun am aE ae=>yO4 ac aa am aE ae) (fun ae=>yOH ac aa ae) 0 (aa) ah) (y9e n n ac aa (List.length (aa):Int) 0 ah):=by
  refine yn (f:=some) (W:=fun aM am ae=>y9e n aM ac aa (List.length (aa):Int) am ae) (body:=(fun am aE ae=>yO4 ac aa am aE ae)) (fin:=(fun ae=>yOH ac aa ae)) (fun aM am ae=>?_) hx ah n (by unfold big at hn;unfold lenMax at hx;omega)
  show LeF _ _ (yHk n (y9e n aM) ac aa (List.length (aa):Int) am ae)
  exact y9 (yB fun v1=>(yB fun v2=>(y9 (y8 rfl) y1w))) (y1F (y8 rfl))
def zH_M(l:List (Q4))(of:(Q4)×Unit→Option ((Nat×Nat)×Unit)):Option (List (Nat×Nat)×Unit) :=
  (bif decide (List.length (l) < lenMax)then yf (fun am aE ae=>yO4 (of) (l) am aE ae) (fun ae=>yOH (of) (l) ae) 0 (l) ([])else none)
theorem yS2(l:List (Q4))(of:(Q4)×Unit→Option ((Nat×Nat)×Unit))(y:List (Nat×Nat)×Unit)(h:zH_M l of=some y):∃ n,zH_m n l of=some y :=
  ⟨big,LeF.top (show LeF some (zH_M l of) (zH_m big l of)from (fun (n:Nat) (hn:big≤n)=>show LeF some (zH_M l of) (zH_m n l of)from (yr fun hx=>by apply yFx n hn;exact hx)) big (Nat.le_refl _)) h⟩
def zH_e:Entry:={ f:=139,args:=zH_a,ress:=zH_r,m:=fun x=>zH_M x.1 x.2.1 }
theorem yYd:FnOK Tryz.prog zH_e:=yJ (g:=zH_g) (fn:=Tryz.f139) yE yI eNil (by kernel_rfl) (by kernel_rfl) (by kernel_rfl) (fun x y h=>let ⟨n,hn⟩:=yS2 x.1 x.2.1 y h;⟨yVV n,iNil,(yYk n x).trans hn⟩)
abbrev yNl:Ty:=.pair t57 (.pair (.ref t165) .unit)
abbrev yUQ:Ty:=.pair t165 .unit
def yU5:G:={ T:=T,E:=[],muts:=[],fz:=[] }
def yZn:List (List Nat):=[]
def yLp(n:Nat):Ann:={ keep:=yZn,fuel:=n,inl:=[],deep:=0 }
def yKe(n:Nat)(z:Q4)(p1:Nat×Nat):Option ((Nat×Nat)×Unit) :=
  some ((y0u Go.BinOp.quo Go.FloatKind.f32 (y0x Go.FloatKind.f32 z.1) p1.1,y0u Go.BinOp.quo Go.FloatKind.f32 (y0x Go.FloatKind.f32 z.2.1) p1.1),())
theorem yUb(n:Nat)(x:yNl.den):runF yU5 (yLp n) Tryz.f140 yNl yUQ x=yKe n x.1 x.2.1:=by kernel_rfl
def z0W(z:Q4)(p1:Nat×Nat):((Nat×Nat)×Unit) :=
  ((y0u Go.BinOp.quo Go.FloatKind.f32 (y0x Go.FloatKind.f32 z.1) p1.1,y0u Go.BinOp.quo Go.FloatKind.f32 (y0x Go.FloatKind.f32 z.2.1) p1.1),())
abbrev yO0 (z:Q4) (p1:Nat×Nat):Option ((Nat×Nat)×Unit):=some (z0W z p1)
theorem yQ3(z:Q4)(p1:Nat×Nat)(y:(Nat×Nat)×Unit)(h:yO0 z p1=some y):∃ n,yKe n z p1=some y :=
  ⟨0,by rw[← h];show yKe 0 z p1=some (z0W z p1);unfold yKe z0W;first|rfl|(simp only[yG];done)|(simp only[yG];rfl)⟩
def z0W_e:Entry:={ f:=140,args:=yNl,ress:=yUQ,m:=fun x=>yO0 x.1 x.2.1 }
theorem yX0:FnOK Tryz.prog z0W_e:=yJ (g:=yU5) (fn:=Tryz.f140) yE yI eNil (by kernel_rfl) (by kernel_rfl) (by kernel_rfl) (fun x y h=>let ⟨n,hn⟩:=yQ3 x.1 x.2.1 y h;⟨yLp n,iNil,(yUb n x).trans hn⟩)
def il124:Inl:={ f:=124,fn:=Tryz.f124,keep:=[],muts:=[],fz:=[] }
theorem y5Y:y58 Tryz.prog il124:=⟨by kernel_rfl,by kernel_rfl,fun e0 h=>by cases (show (none:Option LibK)=some e0 from h)⟩
def il195:Inl:={ f:=195,fn:=Tryz.f195,keep:=[[0,1,3,9,10,11],[0,1,3,4,5,9,10,11]],muts:=[],fz:=[] }
theorem y5J:y58 Tryz.prog il195:=⟨by kernel_rfl,by kernel_rfl,fun e0 h=>by cases (show (none:Option LibK)=some e0 from h)⟩
abbrev yOb:Ty:=.pair t60 .unit
abbrev yVu:Ty:=.pair t41 .unit
def yWE:G:={ T:=T,E:=[],muts:=[3],fz:=[] }
def yYD:List (List Nat):=[]
def yLu(n:Nat):Ann:={ keep:=yYD,fuel:=n,inl:=[il124,il195],deep:=3 }
def yB6(n:Nat)(r0:Q1→List (Q4)→List Nat→Int→Int→Q1→Q1→Q1→Q1→List Int→Q1→Q1→Q1→Q1→Option (List Int×Unit))(j8:Q1)(j9:List (Q4))(j10:Int)(j11:Nat)(j12:List Nat)(j13:Int)(j14:Int)(j15:Q1)(j16:Q1)(j17:Q1)(j18:Q1)(j19:List Int)(j20:Q1)(j21:Q1)(j22:Q1)(j23:Q1):Option (List Int×Unit) :=
  (bif decide ((↑j9.length:Int) > 0)then (Option.bind (idx j9 (0:Int)) fun v24=>(bif decide (v24.1≤j10)then r0 j8 j9 j12 j13 (IntKind.i64.wrap (j14+1)) j15 j16 j17 j18 j19 j20 j21 j22 j23 else (Option.bind (y0M Go.FloatKind.f32 (y0u Go.BinOp.mul Go.FloatKind.f32 j11 (nat_lit 1098907648)) IntKind.i64) fun v29=>(bif decide (j19.length+(1:Nat)≤memMax)then r0 j8 j9 j12 j13 (IntKind.i64.wrap (j14+1)) j15 j16 j17 j18 (j19++[IntKind.i64.wrap (j8.2.1+j10)]) j20 j21 j22 j23 else none))))else (Option.bind (y0M Go.FloatKind.f32 (y0u Go.BinOp.mul Go.FloatKind.f32 j11 (nat_lit 1098907648)) IntKind.i64) fun v30=>(bif decide (j19.length+(1:Nat)≤memMax)then r0 j8 j9 j12 j13 (IntKind.i64.wrap (j14+1)) j15 j16 j17 j18 (j19++[IntKind.i64.wrap (j8.2.1+j10)]) j20 j21 j22 j23 else none)))
def yIw(n:Nat)(r0:Q1→List (Q4)→List Nat→Int→Int→Q1→Q1→Q1→Q1→List Int→Q1→Q1→Q1→Q1→Option (List Int×Unit))(r2:Q1→List (Q4)→Int→Nat→List Nat→Int→Int→Q1→Q1→Q1→Q1→List Int→Q1→Q1→Q1→Q1→Option (List Int×Unit))(bj:Q1)(ar:List (Q4))(bg:Int)(bl:Nat)(aN:List Nat)(aP:Int)(aQ:Int)(aF:Q1)(aG:Q1)(aU:Q1)(bm:Q1)(ci:List Int)(bn:Q1)(bp:Q1)(bF:Q1)(bG:Q1):Option (List Int×Unit) :=
  (bif decide ((↑ar.length:Int) > 0)then (Option.bind (idx ar (0:Int)) fun v3=>(bif decide (v3.2.1≤bg)then (bif decide ((0:Int)≤1) && decide ((1:Int)≤(↑ar.length:Int))then r2 bj (List.drop (Int.toNat (1:Int)) ar) bg bl aN aP aQ aF aG aU bm ci bn bp bF bG else none)else (yB6 n r0 (bj) (ar) (bg) (bl) (aN) (aP) (aQ) (aF) (aG) (aU) (bm) (ci) (bn) (bp) (bF) (bG))))else (yB6 n r0 (bj) (ar) (bg) (bl) (aN) (aP) (aQ) (aF) (aG) (aU) (bm) (ci) (bn) (bp) (bF) (bG)))
def yKG(n:Nat)(r0:Q1→List (Q4)→List Nat→Int→Int→Q1→Q1→Q1→Q1→List Int→Q1→Q1→Q1→Q1→Option (List Int×Unit))(k:Nat)(bj:Q1)(ar:List (Q4))(bg:Int)(bl:Nat)(aN:List Nat)(aP:Int)(aQ:Int)(aF:Q1)(aG:Q1)(aU:Q1)(bm:Q1)(ci:List Int)(bn:Q1)(bp:Q1)(bF:Q1)(bG:Q1):Option (List Int×Unit) :=
  iter (fun r y=>yIw n r0 (fun bj ar bg bl aN aP aQ aF aG aU bm ci bn bp bF bG=>r ((bj,(ar,(bg,(bl,(aN,(aP,(aQ,()))))))),(((aF,(aG,(aU,((bm,()),())))),((),(ci,()))),(bn,(bp,(bF,((bG,()),()))))))) y.1.1 y.1.2.1 y.1.2.2.1 y.1.2.2.2.1 y.1.2.2.2.2.1 y.1.2.2.2.2.2.1 y.1.2.2.2.2.2.2.1 y.2.1.1.1 y.2.1.1.2.1 y.2.1.1.2.2.1 y.2.1.1.2.2.2.1.1 y.2.1.2.2.1 y.2.2.1 y.2.2.2.1 y.2.2.2.2.1 y.2.2.2.2.2.1.1) k ((bj,(ar,(bg,(bl,(aN,(aP,(aQ,()))))))),(((aF,(aG,(aU,((bm,()),())))),((),(ci,()))),(bn,(bp,(bF,((bG,()),()))))))
def yKS(n:Nat)(r0:Q1→List (Q4)→List Nat→Int→Int→Q1→Q1→Q1→Q1→List Int→Q1→Q1→Q1→Q1→Option (List Int×Unit))(aR:Q1)(aJ:List (Q4))(aq:List Nat)(af:Int)(av:Int)(aS:Q1)(aT:Q1)(bq:Q1)(bz:Q1)(co:List Int)(bA:Q1)(bB:Q1)(bV:Q1)(bW:Q1):Option (List Int×Unit) :=
  (bif decide (av < af)then (Option.bind (idx aq av) fun v1=>(yKG n r0 n (aR) (aJ) (av) (v1) (aq) (af) (av) (aS) (aT) (bq) (bz) (co) (bA) (bB) (bV) (bW)))else some (co,()))
def yJL(n:Nat)(k:Nat)(aR:Q1)(aJ:List (Q4))(aq:List Nat)(af:Int)(av:Int)(aS:Q1)(aT:Q1)(bq:Q1)(bz:Q1)(co:List Int)(bA:Q1)(bB:Q1)(bV:Q1)(bW:Q1):Option (List Int×Unit) :=
  iter (fun r y=>yKS n (fun aR aJ aq af av aS aT bq bz co bA bB bV bW=>r ((aR,(aJ,(aq,(af,(av,()))))),(((aS,(aT,(bq,((bz,()),())))),((),(co,()))),(bA,(bB,(bV,((bW,()),()))))))) y.1.1 y.1.2.1 y.1.2.2.1 y.1.2.2.2.1 y.1.2.2.2.2.1 y.2.1.1.1 y.2.1.1.2.1 y.2.1.1.2.2.1 y.2.1.1.2.2.2.1.1 y.2.1.2.2.1 y.2.2.1 y.2.2.2.1 y.2.2.2.2.1 y.2.2.2.2.2.1.1) k ((aR,(aJ,(aq,(af,(av,()))))),(((aS,(aT,(bq,((bz,()),())))),((),(co,()))),(bA,(bB,(bV,((bW,()),()))))))
def yPH(n:Nat)(r1:Q1):Option (List Int×Unit) :=
  (yJL n n (r1) (r1.2.2.2.1) (r1.2.2.1) ((↑r1.2.2.1.length:Int)) ((0:Int)) (r1) (r1) (r1) (r1) ([]) (r1) (r1) (r1) (r1))
theorem yUL(n:Nat)(x:yOb.den):runF yWE (yLu n) Tryz.f147 yOb yVu x=yPH n x.1:=by kernel_rfl
def yIz(r1:Q1):Option (List Int×Unit):=yPH 1000 r1
theorem yQo(r1:Q1)(y:List Int×Unit)(h:yIz r1=some y):∃ n,yPH n r1=some y:=⟨1000,h⟩
def z0x_e:Entry:={ f:=147,args:=yOb,ress:=yVu,m:=fun x=>yIz x.1 }
theorem yMA:FnOK Tryz.prog z0x_e:=yJ (g:=yWE) (fn:=Tryz.f147) yE yI eNil (by kernel_rfl) (by kernel_rfl) (by kernel_rfl) (fun x y h=>let ⟨n,hn⟩:=yQo x.1 y h;⟨yLu n,(y4R y5Y (y4R y5J iNil)),(yUL n x).trans hn⟩)
abbrev zR_a:Ty:=.pair t55 (.pair t3 .unit)
abbrev zR_r:Ty:=.pair t57 .unit
def zR_g:G:={ T:=T,E:=[],muts:=[],fz:=[] }
def zR_k:List (List Nat):=[]
def yVe(n:Nat):Ann:={ keep:=zR_k,fuel:=n,inl:=[],deep:=0 }
def zR_m(n:Nat)(c:Q3)(tick:Int):Option ((Q4)×Unit) :=
  (bif c.2.1==0 then none else (Option.bind (idx [((1:Int),(0:Int),()),((0:Int),(1:Int),()),((-1:Int),(0:Int),()),((0:Int),(-1:Int),())] ((IntKind.i64.wrap (c.2.2.1 * IntKind.i64.wrap (tick.tdiv c.2.1))).tmod (4:Int))) fun v0=>some ((v0.1,v0.2.1,()),())))
theorem yZO(n:Nat)(x:zR_a.den):runF zR_g (yVe n) Tryz.f161 zR_a zR_r x=zR_m n x.1 x.2.1:=by kernel_rfl
def zR_M(c:Q3)(tick:Int):Option ((Q4)×Unit):=zR_m 0 c tick
theorem yX6(c:Q3)(tick:Int)(y:(Q4)×Unit)(h:zR_M c tick=some y):∃ n,zR_m n c tick=some y:=⟨0,h⟩
def zR_e:Entry:={ f:=161,args:=zR_a,ress:=zR_r,m:=fun x=>zR_M x.1 x.2.1 }
theorem yPO:FnOK Tryz.prog zR_e:=yJ (g:=zR_g) (fn:=Tryz.f161) yE yI eNil (by kernel_rfl) (by kernel_rfl) (by kernel_rfl) (fun x y h=>let ⟨n,hn⟩:=yX6 x.1 x.2.1 y h;⟨yVe n,iNil,(yZO n x).trans hn⟩)
abbrev zA_a:Ty:=.pair t31 (.pair t215 .unit)
abbrev zA_r:Ty:=.pair t23 .unit
def zA_g:G:={ T:=T,E:=[],muts:=[5],fz:=[] }
def zA_k:List (List Nat):=[[1,5,8,9,10]]
def yUm(n:Nat):Ann:={ keep:=zA_k,fuel:=n,inl:=[],deep:=0 }
def yN7(n:Nat)(r0:((Q3)×Unit→Option ((Q4)×Unit))→List (Q3)→Int→Int→List (Q4)→Option (List (Q4)×Unit))(ac:(Q3)×Unit→Option ((Q4)×Unit))(aa:List (Q3))(aq:Int)(af:Int)(ah:List (Q4)):Option (List (Q4)×Unit) :=
  (bif decide (af < aq)then (Option.bind (idx aa af) fun v1=>(Option.bind (ac ((v1.1,v1.2.1,v1.2.2.1,()),())) fun v2=>(bif decide (ah.length+(1:Nat)≤memMax)then r0 ac aa aq (IntKind.i64.wrap (af+1)) (ah++[v2.1])else none)))else some (ah,()))
def yQX(n:Nat)(k:Nat)(ac:(Q3)×Unit→Option ((Q4)×Unit))(aa:List (Q3))(aq:Int)(af:Int)(ah:List (Q4)):Option (List (Q4)×Unit) :=
  iter (fun r y=>yN7 n (fun ac aa aq af ah=>r ((ac,(aa,(aq,(af,())))),((ah,()),()))) y.1.1 y.1.2.1 y.1.2.2.1 y.1.2.2.2.1 y.2.1.1) k ((ac,(aa,(aq,(af,())))),((ah,()),()))
def zA_m(n:Nat)(l:List (Q3))(of:(Q3)×Unit→Option ((Q4)×Unit)):Option (List (Q4)×Unit) :=
  (yQX n n (of) (l) ((↑l.length:Int)) ((0:Int)) ([]))
theorem yZ9(n:Nat)(x:zA_a.den):runF zA_g (yUm n) Tryz.f162 zA_a zA_r x=zA_m n x.1 x.2.1:=by kernel_rfl
def zA_M(l:List (Q3))(of:(Q3)×Unit→Option ((Q4)×Unit)):Option (List (Q4)×Unit):=zA_m 1000 l of
theorem yVG(l:List (Q3))(of:(Q3)×Unit→Option ((Q4)×Unit))(y:List (Q4)×Unit)(h:zA_M l of=some y):∃ n,zA_m n l of=some y:=⟨1000,h⟩
def zA_e:Entry:={ f:=162,args:=zA_a,ress:=zA_r,m:=fun x=>zA_M x.1 x.2.1 }
theorem yPq:FnOK Tryz.prog zA_e:=yJ (g:=zA_g) (fn:=Tryz.f162) yE yI eNil (by kernel_rfl) (by kernel_rfl) (by kernel_rfl) (fun x y h=>let ⟨n,hn⟩:=yVG x.1 x.2.1 y h;⟨yUm n,iNil,(yZ9 n x).trans hn⟩)
abbrev zf_a:Ty:=.pair t183 (.pair t3 (.pair t23 .unit))
abbrev zf_r:Ty:=.pair t183 .unit
def zf_g:G:={ T:=T,E:=[],muts:=[],fz:=[11] }
def zf_k:List (List Nat):=[[0,1,2,7,13,14]]
def ySj(n:Nat):Ann:={ keep:=zf_k,fuel:=n,inl:=[],deep:=0 }
def yPP(n:Nat)(r0:List (List (Q4))→Int→List (Q4)→Int→Int→List (List (Q4))→Option (List (List (Q4))×Unit))(b9:List (List (Q4)))(b4:Int)(bi:List (Q4))(bh:Int)(aD:Int)(ah:List (List (Q4))):Option (List (List (Q4))×Unit) :=
  (bif decide (aD < bh)then (Option.bind (idx b9 aD) fun v1=>(bif Bool.true && decide ((0:Int)≤(↑v1.length:Int)) && decide ((↑v1.length:Int)≤(↑memMax:Int)) && (↑v1.length:Int)==(↑v1.length:Int)then (Option.bind (idx ah aD) fun v2=>(Option.bind (ah[aD.toNat]?) fun v3=>(Option.bind (idx (ah.set aD.toNat (List.replicate ((↑v1.length:Int).toNat) (((0:Int),(0:Int),())):List (Q4))) aD) fun v4=>(Option.bind ((ah.set aD.toNat (List.replicate ((↑v1.length:Int).toNat) (((0:Int),(0:Int),())):List (Q4)))[aD.toNat]?) fun v5=>(Option.bind (idx b9 aD) fun v6=>(Option.bind ((ah.set aD.toNat (List.replicate ((↑v1.length:Int).toNat) (((0:Int),(0:Int),())):List (Q4)))[aD.toNat]?) fun v7=>(bif decide (v6.length=v7.length)then (Option.bind (idx ((ah.set aD.toNat (List.replicate ((↑v1.length:Int).toNat) (((0:Int),(0:Int),())):List (Q4))).set aD.toNat v6) aD) fun v8=>(Option.bind (((ah.set aD.toNat (List.replicate ((↑v1.length:Int).toNat) (((0:Int),(0:Int),())):List (Q4))).set aD.toNat v6)[aD.toNat]?) fun v9=>(Option.bind (idx bi aD) fun v10=>(Option.bind (((ah.set aD.toNat (List.replicate ((↑v1.length:Int).toNat) (((0:Int),(0:Int),())):List (Q4))).set aD.toNat v6)[aD.toNat]?) fun v11=>(Option.bind (idx v11 b4) fun v12=>(Option.bind (((ah.set aD.toNat (List.replicate ((↑v1.length:Int).toNat) (((0:Int),(0:Int),())):List (Q4))).set aD.toNat v6)[aD.toNat]?) fun v13=>(Option.bind (v13[b4.toNat]?) fun v14=>r0 b9 b4 bi bh (IntKind.i64.wrap (aD+1)) (((ah.set aD.toNat (List.replicate ((↑v1.length:Int).toNat) (((0:Int),(0:Int),())):List (Q4))).set aD.toNat v6).set aD.toNat (v13.set b4.toNat v10)))))))))else none)))))))else none))else some (ah,()))
def yPT(n:Nat)(k:Nat)(b9:List (List (Q4)))(b4:Int)(bi:List (Q4))(bh:Int)(aD:Int)(ah:List (List (Q4))):Option (List (List (Q4))×Unit) :=
  iter (fun r y=>yPP n (fun b9 b4 bi bh aD ah=>r ((b9,(b4,(bi,(bh,(aD,()))))),((ah,()),()))) y.1.1 y.1.2.1 y.1.2.2.1 y.1.2.2.2.1 y.1.2.2.2.2.1 y.2.1.1) k ((b9,(b4,(bi,(bh,(aD,()))))),((ah,()),()))
def zf_m(n:Nat)(m:List (List (Q4)))(column:Int)(values:List (Q4)):Option (List (List (Q4))×Unit) :=
  (bif Bool.true && decide ((0:Int)≤(↑m.length:Int)) && decide ((↑m.length:Int)≤(↑memMax:Int)) && (↑m.length:Int)==(↑m.length:Int)then (yPT n n (m) (column) (values) ((↑m.length:Int)) ((0:Int)) ((List.replicate ((↑m.length:Int).toNat) ([]):List (List (Q4)))))else none)
theorem yYC(n:Nat)(x:zf_a.den):runF zf_g (ySj n) Tryz.f164 zf_a zf_r x=zf_m n x.1 x.2.1 x.2.2.1:=by kernel_rfl
def zf_M(m:List (List (Q4)))(column:Int)(values:List (Q4)):Option (List (List (Q4))×Unit):=zf_m 1000 m column values
theorem yUu(m:List (List (Q4)))(column:Int)(values:List (Q4))(y:List (List (Q4))×Unit)(h:zf_M m column values=some y):∃ n,zf_m n m column values=some y:=⟨1000,h⟩
def zf_e:Entry:={ f:=164,args:=zf_a,ress:=zf_r,m:=fun x=>zf_M x.1 x.2.1 x.2.2.1 }
theorem yWs:FnOK Tryz.prog zf_e:=yJ (g:=zf_g) (fn:=Tryz.f164) yE yI eNil (by kernel_rfl) (by kernel_rfl) (by kernel_rfl) (fun x y h=>let ⟨n,hn⟩:=yUu x.1 x.2.1 x.2.2.1 y h;⟨ySj n,iNil,(yYC n x).trans hn⟩)
abbrev yNv:Ty:=.pair t210 .unit
abbrev yWg:Ty:=.pair t4 .unit
def yU0:G:={ T:=T,E:=[],muts:=[],fz:=[] }
def yZW:List (List Nat):=[]
def yMK(n:Nat):Ann:={ keep:=yZW,fuel:=n,inl:=[],deep:=0 }
def yKR(n:Nat)(f:Nat):Option (Bool×Unit) :=
  some (y00 Go.BinOp.neq Go.FloatKind.f64 f f,())
theorem ySq(n:Nat)(x:yNv.den):runF yU0 (yMK n) Tryz.f171 yNv yWg x=yKR n x.1:=by kernel_rfl
def z0i(f:Nat):(Bool×Unit) :=
  (y00 Go.BinOp.neq Go.FloatKind.f64 f f,())
abbrev yVX (f:Nat):Option (Bool×Unit):=some (z0i f)
theorem yQj(f:Nat)(y:Bool×Unit)(h:yVX f=some y):∃ n,yKR n f=some y :=
  ⟨0,by rw[← h];show yKR 0 f=some (z0i f);unfold yKR z0i;first|rfl|(simp only[yG];done)|(simp only[yG];rfl)⟩
def z0i_e:Entry:={ f:=171,args:=yNv,ress:=yWg,m:=fun x=>yVX x.1 }
theorem ySx:FnOK Tryz.prog z0i_e:=yJ (g:=yU0) (fn:=Tryz.f171) yE yI eNil (by kernel_rfl) (by kernel_rfl) (by kernel_rfl) (fun x y h=>let ⟨n,hn⟩:=yQj x.1 y h;⟨yMK n,iNil,(ySq n x).trans hn⟩)
abbrev zN_a:Ty:=.pair t41 (.pair t233 .unit)
abbrev zN_r:Ty:=.pair t161 .unit
def zN_g:G:={ T:=T,E:=[],muts:=[5],fz:=[] }
def zN_k:List (List Nat):=[[1,5,8,9,10]]
def yUP(n:Nat):Ann:={ keep:=zN_k,fuel:=n,inl:=[],deep:=0 }
def yNr(n:Nat)(r0:(Int×Unit→Option (List UInt8×Unit))→List Int→Int→Int→List (List UInt8)→Option (List (List UInt8)×Unit))(ac:Int×Unit→Option (List UInt8×Unit))(aa:List Int)(aq:Int)(af:Int)(ah:List (List UInt8)):Option (List (List UInt8)×Unit) :=
  (bif decide (af < aq)then (Option.bind (idx aa af) fun v1=>(Option.bind (ac (v1,())) fun v2=>(bif decide (ah.length+(1:Nat)≤memMax)then r0 ac aa aq (IntKind.i64.wrap (af+1)) (ah++[v2.1])else none)))else some (ah,()))
def yMo(n:Nat)(k:Nat)(ac:Int×Unit→Option (List UInt8×Unit))(aa:List Int)(aq:Int)(af:Int)(ah:List (List UInt8)):Option (List (List UInt8)×Unit) :=
  iter (fun r y=>yNr n (fun ac aa aq af ah=>r ((ac,(aa,(aq,(af,())))),((ah,()),()))) y.1.1 y.1.2.1 y.1.2.2.1 y.1.2.2.2.1 y.2.1.1) k ((ac,(aa,(aq,(af,())))),((ah,()),()))
def zN_m(n:Nat)(l:List Int)(of:Int×Unit→Option (List UInt8×Unit)):Option (List (List UInt8)×Unit) :=
  (yMo n n (of) (l) ((↑l.length:Int)) ((0:Int)) ([]))
theorem yXh(n:Nat)(x:zN_a.den):runF zN_g (yUP n) Tryz.f176 zN_a zN_r x=zN_m n x.1 x.2.1:=by kernel_rfl
def zN_M(l:List Int)(of:Int×Unit→Option (List UInt8×Unit)):Option (List (List UInt8)×Unit):=zN_m 1000 l of
theorem yVR(l:List Int)(of:Int×Unit→Option (List UInt8×Unit))(y:List (List UInt8)×Unit)(h:zN_M l of=some y):∃ n,zN_m n l of=some y:=⟨1000,h⟩
def zN_e:Entry:={ f:=176,args:=zN_a,ress:=zN_r,m:=fun x=>zN_M x.1 x.2.1 }
theorem yZp:FnOK Tryz.prog zN_e:=yJ (g:=zN_g) (fn:=Tryz.f176) yE yI eNil (by kernel_rfl) (by kernel_rfl) (by kernel_rfl) (fun x y h=>let ⟨n,hn⟩:=yVR x.1 x.2.1 y h;⟨yUP n,iNil,(yXh n x).trans hn⟩)
abbrev yN3:Ty:=.pair t3 (.pair t3 .unit)
abbrev yUj:Ty:=.pair t3 .unit
def yV2:G:={ T:=T,E:=[],muts:=[],fz:=[] }
def yYc:List (List Nat):=[[0,1]]
def yMJ(n:Nat):Ann:={ keep:=yYc,fuel:=n,inl:=[],deep:=0 }
def yDY(n:Nat)(r0:Int→Int→Option (Int×Unit))(ai:Int)(al:Int):Option (Int×Unit) :=
  (bif al != 0 then (bif al==0 then none else r0 al (ai.tmod al))else some (ai,()))
def y6r(n:Nat)(k:Nat)(ai:Int)(al:Int):Option (Int×Unit) :=
  iter (fun r y=>yDY n (fun ai al=>r ((ai,(al,())),((),()))) y.1.1 y.1.2.1) k ((ai,(al,())),((),()))
def yJ2(n:Nat)(a:Int)(b:Int):Option (Int×Unit) :=
  (y6r n n (a) (b))
theorem yRA(n:Nat)(x:yN3.den):runF yV2 (yMJ n) Tryz.f185 yN3 yUj x=yJ2 n x.1 x.2.1:=by kernel_rfl
def yCJ(ai:Int)(al:Int):Option ((Int×Unit)⊕(Int×Int)) :=
  (bif al != 0 then (bif al==0 then none else (some (Sum.inr ((al),(ai.tmod al)))))else (some (Sum.inl ((ai,())))))
theorem yCq(n:Nat)(hn:big≤n)(ai:Int)(al:Int):LeF some (y8Q (fun ae=>yCJ ae.1 ae.2) wMax (ai,al)) (y6r n n ai al):=by
  refine yE6 (f:=some) (W:=fun aM ae=>y6r n aM ae.1 ae.2) (body:=(fun ae=>yCJ ae.1 ae.2)) (fun aM ae=>?_) wMax n (ai,al) (by unfold big at hn;unfold wMax;omega)
  show LeF _ _ (yDY n (y6r n aM) ae.1 ae.2)
  exact (y9 (y9 y1w (y8 rfl)) (y8 rfl))
def y8S(a:Int)(b:Int):Option (Int×Unit) :=
  (y8Q (fun ae=>yCJ ae.1 ae.2) wMax ((a),(b)))
theorem yNV(a:Int)(b:Int)(y:Int×Unit)(h:y8S a b=some y):∃ n,yJ2 n a b=some y :=
  ⟨big,LeF.top (show LeF some (y8S a b) (yJ2 big a b)from (fun (n:Nat) (hn:big≤n)=>show LeF some (y8S a b) (yJ2 n a b)from (by apply yCq n hn)) big (Nat.le_refl _)) h⟩
def z02_e:Entry:={ f:=185,args:=yN3,ress:=yUj,m:=fun x=>y8S x.1 x.2.1 }
theorem yV9:FnOK Tryz.prog z02_e:=yJ (g:=yV2) (fn:=Tryz.f185) yE yI eNil (by kernel_rfl) (by kernel_rfl) (by kernel_rfl) (fun x y h=>let ⟨n,hn⟩:=yNV x.1 x.2.1 y h;⟨yMJ n,iNil,(yRA n x).trans hn⟩)
abbrev yP9:Ty:=.pair t9 .unit
abbrev yXA:Ty:=.pair t4 .unit
def yW5:G:={ T:=T,E:=[],muts:=[],fz:=[] }
def yXr:List (List Nat):=[[0,3]]
def yLD(n:Nat):Ann:={ keep:=yXr,fuel:=n,inl:=[],deep:=0 }
def y44(n:Nat)(r2:List UInt8→Int→Option (Bool×Unit))(aO:List UInt8)(ba:Int)(v3:UInt8):Option (Bool×Unit) :=
  (bif ba==0 then some (Bool.false,())else (bif (↑v3.toNat:Int) != 95 then (bif decide ((↑v3.toNat:Int) < 48)then some (Bool.false,())else (bif decide ((↑v3.toNat:Int) > 57)then some (Bool.false,())else r2 aO (IntKind.i64.wrap (ba+1))))else r2 aO (IntKind.i64.wrap (ba+1))))
def yDt(n:Nat)(r2:List UInt8→Int→Option (Bool×Unit))(aO:List UInt8)(ba:Int):Option (Bool×Unit) :=
  (bif decide (ba < (↑aO.length:Int))then (Option.bind (idx aO ba) fun v3=>(bif decide ((↑v3.toNat:Int) ≥ 97)then (bif decide ((↑v3.toNat:Int)≤122)then r2 aO (IntKind.i64.wrap (ba+1))else (bif decide ((↑v3.toNat:Int) ≥ 65)then (bif decide ((↑v3.toNat:Int)≤90)then r2 aO (IntKind.i64.wrap (ba+1))else (y44 n r2 aO ba v3))else (y44 n r2 aO ba v3)))else (bif decide ((↑v3.toNat:Int) ≥ 65)then (bif decide ((↑v3.toNat:Int)≤90)then r2 aO (IntKind.i64.wrap (ba+1))else (y44 n r2 aO ba v3))else (y44 n r2 aO ba v3))))else some (Bool.true,()))
def y6q(n:Nat)(k:Nat)(aO:List UInt8)(ba:Int):Option (Bool×Unit) :=
  iter (fun r y=>yDt n (fun aO ba=>r ((aO,(ba,())),((),()))) y.1.1 y.1.2.1) k ((aO,(ba,())),((),()))
def yK3(n:Nat)(s:List UInt8):Option (Bool×Unit) :=
  (bif (↑s.length:Int)==0 then some (Bool.false,())else (bif decide ((↑s.length:Int) > 24)then some (Bool.false,())else (y6q n n (s) ((0:Int)))))
theorem yXB(n:Nat)(x:yP9.den):runF yW5 (yLD n) Tryz.f187 yP9 yXA x=yK3 n x.1:=by kernel_rfl
def y5m(aO:List UInt8)(ba:Int)(v3:UInt8):Option ((Bool×Unit)⊕Unit) :=
  (bif ba==0 then (some (Sum.inl ((Bool.false,()))))else (bif (↑v3.toNat:Int) != 95 then (bif decide ((↑v3.toNat:Int) < 48)then (some (Sum.inl ((Bool.false,()))))else (bif decide ((↑v3.toNat:Int) > 57)then (some (Sum.inl ((Bool.false,()))))else (some (Sum.inr ()))))else (some (Sum.inr ()))))
theorem y0X(n:Nat)(hn:big≤n)(r2:List UInt8→Int→Option (Bool×Unit))(aO:List UInt8)(ba:Int)(v3:UInt8):LeF (elim some fun (ae:Unit)=>r2 aO (IntKind.i64.wrap (ba+1))) (y5m aO ba v3) (y44 n r2 aO ba v3) :=
  (y9 (y8 rfl) (y9 (y9 (y8 rfl) (y9 (y8 rfl) (y8 rfl))) (y8 rfl)))
def y8Y(aO:List UInt8)(ba:Int)(v3:UInt8):Option ((Bool×Unit)⊕Unit) :=
  (bif decide ((↑v3.toNat:Int) ≥ 97)then (bif decide ((↑v3.toNat:Int)≤122)then (some (Sum.inr ()))else (bif decide ((↑v3.toNat:Int) ≥ 65)then (bif decide ((↑v3.toNat:Int)≤90)then (some (Sum.inr ()))else (y5m aO ba v3))else (y5m aO ba v3)))else (bif decide ((↑v3.toNat:Int) ≥ 65)then (bif decide ((↑v3.toNat:Int)≤90)then (some (Sum.inr ()))else (y5m aO ba v3))else (y5m aO ba v3)))
def yES(aO:List UInt8):Option (Bool×Unit) :=
  (some ((Bool.true,())))
theorem yDJ(n:Nat)(hn:big≤n)(aO:List UInt8)(hx:List.length (aO) < lenMax):LeF some (yf (fun am aE ae=>y8Y aO am aE) (fun ae=>yES aO) 0 (aO) ()) (y6q n n aO 0):=by
  refine yn (f:=some) (W:=fun aM am ae=>y6q n aM aO am) (body:=(fun am aE ae=>y8Y aO am aE)) (fin:=(fun ae=>yES aO)) (fun aM am ae=>?_) hx () n (by unfold big at hn;unfold lenMax at hx;omega)
  show LeF _ _ (yDt n (y6q n aM) aO am)
  exact y9 (yB fun v3=>(y9 (y9 (y8 rfl) (y9 (y9 (y8 rfl) (by apply y0X n hn)) (by apply y0X n hn))) (y9 (y9 (y8 rfl) (by apply y0X n hn)) (by apply y0X n hn)))) (y1F (y8 rfl))
def yDA(s:List UInt8):Option (Bool×Unit) :=
  (bif (↑s.length:Int)==0 then (some ((Bool.false,())))else (bif decide ((↑s.length:Int) > 24)then (some ((Bool.false,())))else (bif decide (List.length (s) < lenMax)then yf (fun am aE ae=>y8Y (s) am aE) (fun ae=>yES (s)) 0 (s) ()else none)))
theorem yPK(s:List UInt8)(y:Bool×Unit)(h:yDA s=some y):∃ n,yK3 n s=some y :=
  ⟨big,LeF.top (show LeF some (yDA s) (yK3 big s)from (fun (n:Nat) (hn:big≤n)=>show LeF some (yDA s) (yK3 n s)from (y9 (y8 rfl) (y9 (y8 rfl) (yr fun hx=>by apply yDJ n hn;exact hx)))) big (Nat.le_refl _)) h⟩
def z0A_e:Entry:={ f:=187,args:=yP9,ress:=yXA,m:=fun x=>yDA x.1 }
theorem yWj:FnOK Tryz.prog z0A_e:=yJ (g:=yW5) (fn:=Tryz.f187) yE yI eNil (by kernel_rfl) (by kernel_rfl) (by kernel_rfl) (fun x y h=>let ⟨n,hn⟩:=yPK x.1 y h;⟨yLD n,iNil,(yXB n x).trans hn⟩)
abbrev zz_a:Ty:=.pair t55 .unit
abbrev zz_r:Ty:=.pair t55 .unit
def zz_g:G:={ T:=T,E:=[],muts:=[],fz:=[] }
def zz_k:List (List Nat):=[]
def yUy(n:Nat):Ann:={ keep:=zz_k,fuel:=n,inl:=[],deep:=0 }
def zz_m(n:Nat)(c:Q3):Option ((Q3)×Unit) :=
  some ((c.1,c.2.1,c.2.2.1,()),())
theorem yZ1(n:Nat)(x:zz_a.den):runF zz_g (yUy n) Tryz.f189 zz_a zz_r x=zz_m n x.1:=by kernel_rfl
def zz(c:Q3):((Q3)×Unit) :=
  ((c.1,c.2.1,c.2.2.1,()),())
abbrev zz_M (c:Q3):Option ((Q3)×Unit):=some (zz c)
theorem yXC(c:Q3)(y:(Q3)×Unit)(h:zz_M c=some y):∃ n,zz_m n c=some y :=
  ⟨0,by rw[← h];show zz_m 0 c=some (zz c);unfold zz_m zz;first|rfl|(simp only[yG];done)|(simp only[yG];rfl)⟩
def zz_e:Entry:={ f:=189,args:=zz_a,ress:=zz_r,m:=fun x=>zz_M x.1 }
theorem yYp:FnOK Tryz.prog zz_e:=yJ (g:=zz_g) (fn:=Tryz.f189) yE yI eNil (by kernel_rfl) (by kernel_rfl) (by kernel_rfl) (fun x y h=>let ⟨n,hn⟩:=yXC x.1 y h;⟨yUy n,iNil,(yZ1 n x).trans hn⟩)
abbrev yN4:Ty:=.pair t57 (.pair (.ref t3) .unit)
abbrev yVP:Ty:=.pair t57 .unit
def yWW:G:={ T:=T,E:=[],muts:=[],fz:=[] }
def yYW:List (List Nat):=[]
def yLX(n:Nat):Ann:={ keep:=yYW,fuel:=n,inl:=[],deep:=0 }
def yIu(n:Nat)(z:Q4)(p1:Int):Option ((Q4)×Unit) :=
  (bif p1==0 then none else (bif p1==0 then none else some ((IntKind.i64.wrap (z.1.tdiv p1),IntKind.i64.wrap (z.2.1.tdiv p1),()),())))
theorem yRS(n:Nat)(x:yN4.den):runF yWW (yLX n) Tryz.f190 yN4 yVP x=yIu n x.1 x.2.1:=by kernel_rfl
def yH5(z:Q4)(p1:Int):Option ((Q4)×Unit):=yIu 0 z p1
theorem yP1(z:Q4)(p1:Int)(y:(Q4)×Unit)(h:yH5 z p1=some y):∃ n,yIu n z p1=some y:=⟨0,h⟩
def z00_e:Entry:={ f:=190,args:=yN4,ress:=yVP,m:=fun x=>yH5 x.1 x.2.1 }
theorem yUW:FnOK Tryz.prog z00_e:=yJ (g:=yWW) (fn:=Tryz.f190) yE yI eNil (by kernel_rfl) (by kernel_rfl) (by kernel_rfl) (fun x y h=>let ⟨n,hn⟩:=yP1 x.1 x.2.1 y h;⟨yLX n,iNil,(yRS n x).trans hn⟩)
abbrev z8_a:Ty:=.pair t31 (.pair t255 .unit)
abbrev z8_r:Ty:=.pair t96 .unit
def z8_g:G:={ T:=T,E:=[],muts:=[5],fz:=[] }
def z8_k:List (List Nat):=[[1,5,8,9,10]]
def ySI(n:Nat):Ann:={ keep:=z8_k,fuel:=n,inl:=[],deep:=0 }
def yN2(n:Nat)(r0:((Q3)×Unit→Option (List (Q4)×Unit))→List (Q3)→Int→Int→List (List (Q4))→Option (List (List (Q4))×Unit))(ac:(Q3)×Unit→Option (List (Q4)×Unit))(aa:List (Q3))(aq:Int)(af:Int)(ah:List (List (Q4))):Option (List (List (Q4))×Unit) :=
  (bif decide (af < aq)then (Option.bind (idx aa af) fun v1=>(Option.bind (ac ((v1.1,v1.2.1,v1.2.2.1,()),())) fun v2=>(bif decide (ah.length+(1:Nat)≤memMax)then r0 ac aa aq (IntKind.i64.wrap (af+1)) (ah++[v2.1])else none)))else some (ah,()))
def yQZ(n:Nat)(k:Nat)(ac:(Q3)×Unit→Option (List (Q4)×Unit))(aa:List (Q3))(aq:Int)(af:Int)(ah:List (List (Q4))):Option (List (List (Q4))×Unit) :=
  iter (fun r y=>yN2 n (fun ac aa aq af ah=>r ((ac,(aa,(aq,(af,())))),((ah,()),()))) y.1.1 y.1.2.1 y.1.2.2.1 y.1.2.2.2.1 y.2.1.1) k ((ac,(aa,(aq,(af,())))),((ah,()),()))
def z8_m(n:Nat)(l:List (Q3))(of:(Q3)×Unit→Option (List (Q4)×Unit)):Option (List (List (Q4))×Unit) :=
  (yQZ n n (of) (l) ((↑l.length:Int)) ((0:Int)) ([]))
theorem yXS(n:Nat)(x:z8_a.den):runF z8_g (ySI n) Tryz.f191 z8_a z8_r x=z8_m n x.1 x.2.1:=by kernel_rfl
def z8_M(l:List (Q3))(of:(Q3)×Unit→Option (List (Q4)×Unit)):Option (List (List (Q4))×Unit):=z8_m 1000 l of
theorem yTc(l:List (Q3))(of:(Q3)×Unit→Option (List (Q4)×Unit))(y:List (List (Q4))×Unit)(h:z8_M l of=some y):∃ n,z8_m n l of=some y:=⟨1000,h⟩
def z8_e:Entry:={ f:=191,args:=z8_a,ress:=z8_r,m:=fun x=>z8_M x.1 x.2.1 }
theorem yZZ:FnOK Tryz.prog z8_e:=yJ (g:=z8_g) (fn:=Tryz.f191) yE yI eNil (by kernel_rfl) (by kernel_rfl) (by kernel_rfl) (fun x y h=>let ⟨n,hn⟩:=yTc x.1 x.2.1 y h;⟨ySI n,iNil,(yXS n x).trans hn⟩)
abbrev zI_a:Ty:=.pair t35 (.pair t259 .unit)
abbrev zI_r:Ty:=.pair t175 .unit
def zI_g:G:={ T:=T,E:=[],muts:=[5],fz:=[] }
def zI_k:List (List Nat):=[[1,5,8,9,10]]
def yRu(n:Nat):Ann:={ keep:=zI_k,fuel:=n,inl:=[],deep:=0 }
def yMk(n:Nat)(r0:(Nat×Unit→Option (Int×Unit))→List Nat→Int→Int→List Int→Option (List Int×Unit))(ac:Nat×Unit→Option (Int×Unit))(aa:List Nat)(aq:Int)(af:Int)(ah:List Int):Option (List Int×Unit) :=
  (bif decide (af < aq)then (Option.bind (idx aa af) fun v1=>(Option.bind (ac (v1,())) fun v2=>(bif decide (ah.length+(1:Nat)≤memMax)then r0 ac aa aq (IntKind.i64.wrap (af+1)) (ah++[v2.1])else none)))else some (ah,()))
def yQl(n:Nat)(k:Nat)(ac:Nat×Unit→Option (Int×Unit))(aa:List Nat)(aq:Int)(af:Int)(ah:List Int):Option (List Int×Unit) :=
  iter (fun r y=>yMk n (fun ac aa aq af ah=>r ((ac,(aa,(aq,(af,())))),((ah,()),()))) y.1.1 y.1.2.1 y.1.2.2.1 y.1.2.2.2.1 y.2.1.1) k ((ac,(aa,(aq,(af,())))),((ah,()),()))
def zI_m(n:Nat)(l:List Nat)(of:Nat×Unit→Option (Int×Unit)):Option (List Int×Unit) :=
  (yQl n n (of) (l) ((↑l.length:Int)) ((0:Int)) ([]))
theorem yY0(n:Nat)(x:zI_a.den):runF zI_g (yRu n) Tryz.f196 zI_a zI_r x=zI_m n x.1 x.2.1:=by kernel_rfl
def zI_M(l:List Nat)(of:Nat×Unit→Option (Int×Unit)):Option (List Int×Unit):=zI_m 1000 l of
theorem yUp(l:List Nat)(of:Nat×Unit→Option (Int×Unit))(y:List Int×Unit)(h:zI_M l of=some y):∃ n,zI_m n l of=some y:=⟨1000,h⟩
def zI_e:Entry:={ f:=196,args:=zI_a,ress:=zI_r,m:=fun x=>zI_M x.1 x.2.1 }
theorem yZs:FnOK Tryz.prog zI_e:=yJ (g:=zI_g) (fn:=Tryz.f196) yE yI eNil (by kernel_rfl) (by kernel_rfl) (by kernel_rfl) (fun x y h=>let ⟨n,hn⟩:=yUp x.1 x.2.1 y h;⟨yRu n,iNil,(yY0 n x).trans hn⟩)
abbrev yQB:Ty:=.pair t175 .unit
abbrev yWh:Ty:=.pair t28 .unit
def yTE:G:={ T:=T,E:=[],muts:=[],fz:=[] }
def yXp:List (List Nat):=[[5,6,7]]
def yLb(n:Nat):Ann:={ keep:=yXp,fuel:=n,inl:=[],deep:=0 }
def yKg(n:Nat)(r0:List Int→Int→Int→Option (Int×Unit))(b8:List Int)(aB:Int)(ax:Int):Option (Int×Unit) :=
  (bif decide (ax < aB)then (Option.bind (idx b8 ax) fun v1=>(bif v1 != 0 then some (v1,())else r0 b8 aB (IntKind.i64.wrap (ax+1))))else some ((0:Int),()))
def yJa(n:Nat)(k:Nat)(b8:List Int)(aB:Int)(ax:Int):Option (Int×Unit) :=
  iter (fun r y=>yKg n (fun b8 aB ax=>r ((b8,(aB,(ax,()))),((),()))) y.1.1 y.1.2.1 y.1.2.2.1) k ((b8,(aB,(ax,()))),((),()))
def yQW(n:Nat)(l:List Int):Option (Int×Unit) :=
  (yJa n n (l) ((↑l.length:Int)) ((0:Int)))
theorem yVD(n:Nat)(x:yQB.den):runF yTE (yLb n) Tryz.f198 yQB yWh x=yQW n x.1:=by kernel_rfl
def yFi(l:List Int):Option (Int×Unit):=yQW 1000 l
theorem yQq(l:List Int)(y:Int×Unit)(h:yFi l=some y):∃ n,yQW n l=some y:=⟨1000,h⟩
def z0L_e:Entry:={ f:=198,args:=yQB,ress:=yWh,m:=fun x=>yFi x.1 }
theorem yMG:FnOK Tryz.prog z0L_e:=yJ (g:=yTE) (fn:=Tryz.f198) yE yI eNil (by kernel_rfl) (by kernel_rfl) (by kernel_rfl) (fun x y h=>let ⟨n,hn⟩:=yQq x.1 y h;⟨yLb n,iNil,(yVD n x).trans hn⟩)
abbrev yNH:Ty:=.pair t4 (.pair t28 .unit)
abbrev yS7:Ty:=.pair t28 .unit
def yTf:G:={ T:=T,E:=[],muts:=[],fz:=[] }
def yZB:List (List Nat):=[]
def yME(n:Nat):Ann:={ keep:=yZB,fuel:=n,inl:=[],deep:=0 }
def yIv(n:Nat)(holds:Bool)(e:Int):Option (Int×Unit) :=
  (bif holds then some (e,())else some ((0:Int),()))
theorem yR5(n:Nat)(x:yNH.den):runF yTf (yME n) Tryz.f199 yNH yS7 x=yIv n x.1 x.2.1:=by kernel_rfl
def z0c(holds:Bool)(e:Int):(Int×Unit) :=
  (bif holds then (e,())else ((0:Int),()))
abbrev ySd (holds:Bool) (e:Int):Option (Int×Unit):=some (z0c holds e)
theorem yPZ(holds:Bool)(e:Int)(y:Int×Unit)(h:ySd holds e=some y):∃ n,yIv n holds e=some y :=
  ⟨0,by rw[← h];show yIv 0 holds e=some (z0c holds e);unfold yIv z0c;first|rfl|(simp only[yG];done)|(simp only[yG];rfl)⟩
def z0c_e:Entry:={ f:=199,args:=yNH,ress:=yS7,m:=fun x=>ySd x.1 x.2.1 }
theorem yAZ:FnOK Tryz.prog z0c_e:=yJ (g:=yTf) (fn:=Tryz.f199) yE yI eNil (by kernel_rfl) (by kernel_rfl) (by kernel_rfl) (fun x y h=>let ⟨n,hn⟩:=yPZ x.1 x.2.1 y h;⟨yME n,iNil,(yR5 n x).trans hn⟩)
abbrev yOn:Ty:=.pair t9 .unit
abbrev yU2:Ty:=.pair t4 .unit
def yVd:G:={ T:=T,E:=[],muts:=[],fz:=[] }
def yYl:List (List Nat):=[[0,8]]
def yMM(n:Nat):Ann:={ keep:=yYl,fuel:=n,inl:=[],deep:=0 }
def y5T(n:Nat)(r0:List UInt8→List UInt8→Int→Option (Bool×Unit))(aA:List UInt8)(str0__0:List UInt8)(pos0__0:Int)(j2:Bool)(j7:Bool):Option (Bool×Unit) :=
  (bif !j2 then (bif pos0__0==0 then some (Bool.false,())else (bif !j7 then some (Bool.false,())else r0 aA str0__0 (yc str0__0 pos0__0).2))else r0 aA str0__0 (yc str0__0 pos0__0).2)
def y37(n:Nat)(r0:List UInt8→List UInt8→Int→Option (Bool×Unit))(aA:List UInt8)(str0__0:List UInt8)(pos0__0:Int)(j2:Bool):Option (Bool×Unit) :=
  (bif decide ((yc str0__0 pos0__0).1 ≥ 48)then (bif decide ((yc str0__0 pos0__0).1≤57)then (y5T n r0 aA str0__0 pos0__0 j2 (Bool.true))else (y5T n r0 aA str0__0 pos0__0 j2 ((yc str0__0 pos0__0).1==95)))else (y5T n r0 aA str0__0 pos0__0 j2 ((yc str0__0 pos0__0).1==95)))
def yEM(n:Nat)(r0:List UInt8→List UInt8→Int→Option (Bool×Unit))(aA:List UInt8)(str0__0:List UInt8)(pos0__0:Int):Option (Bool×Unit) :=
  (bif decide (pos0__0 < (↑str0__0.length:Int))then (bif decide ((yc str0__0 pos0__0).1 ≥ 65)then (bif decide ((yc str0__0 pos0__0).1≤90)then (y37 n r0 aA str0__0 pos0__0 (Bool.true))else (bif decide ((yc str0__0 pos0__0).1 ≥ 97)then (y37 n r0 aA str0__0 pos0__0 (decide ((yc str0__0 pos0__0).1≤122)))else (y37 n r0 aA str0__0 pos0__0 (Bool.false))))else (bif decide ((yc str0__0 pos0__0).1 ≥ 97)then (y37 n r0 aA str0__0 pos0__0 (decide ((yc str0__0 pos0__0).1≤122)))else (y37 n r0 aA str0__0 pos0__0 (Bool.false))))else (bif !aA==[]then some (decide ((↑aA.length:Int)≤24),())else some (Bool.false,())))
def y6v(n:Nat)(k:Nat)(aA:List UInt8)(str0__0:List UInt8)(pos0__0:Int):Option (Bool×Unit) :=
  iter (fun r y=>yEM n (fun aA str0__0 pos0__0=>r ((aA,()),(((str0__0,pos0__0),()),()))) y.1.1 y.2.1.1.1 y.2.1.1.2) k ((aA,()),(((str0__0,pos0__0),()),()))
def yJA(n:Nat)(s:List UInt8):Option (Bool×Unit) :=
  (y6v n n (s) (s) ((0:Int)))
theorem yT0(n:Nat)(x:yOn.den):runF yVd (yMM n) Tryz.f200 yOn yU2 x=yJA n x.1:=by kernel_rfl
def y7x(aA:List UInt8)(str0__0:List UInt8)(pos0__0:Int)(j2:Bool)(j7:Bool):Option ((Bool×Unit)⊕Unit) :=
  (bif !j2 then (bif pos0__0==0 then (some (Sum.inl ((Bool.false,()))))else (bif !j7 then (some (Sum.inl ((Bool.false,()))))else (some (Sum.inr ()))))else (some (Sum.inr ())))
theorem y1G(n:Nat)(hn:big≤n)(r0:List UInt8→List UInt8→Int→Option (Bool×Unit))(aA:List UInt8)(str0__0:List UInt8)(pos0__0:Int)(j2:Bool)(j7:Bool):LeF (elim some fun (ae:Unit)=>r0 aA str0__0 (yc (str0__0) pos0__0).2) (y7x aA str0__0 pos0__0 j2 j7) (y5T n r0 aA str0__0 pos0__0 j2 j7) :=
  (y9 (y9 (y8 rfl) (y9 (y8 rfl) (y8 rfl))) (y8 rfl))
def y4o(aA:List UInt8)(str0__0:List UInt8)(pos0__0:Int)(j2:Bool):Option ((Bool×Unit)⊕Unit) :=
  (bif decide ((yc str0__0 pos0__0).1 ≥ 48)then (bif decide ((yc str0__0 pos0__0).1≤57)then (y7x aA str0__0 pos0__0 j2 (Bool.true))else (y7x aA str0__0 pos0__0 j2 ((yc str0__0 pos0__0).1==95)))else (y7x aA str0__0 pos0__0 j2 ((yc str0__0 pos0__0).1==95)))
theorem y0C(n:Nat)(hn:big≤n)(r0:List UInt8→List UInt8→Int→Option (Bool×Unit))(aA:List UInt8)(str0__0:List UInt8)(pos0__0:Int)(j2:Bool):LeF (elim some fun (ae:Unit)=>r0 aA str0__0 (yc (str0__0) pos0__0).2) (y4o aA str0__0 pos0__0 j2) (y37 n r0 aA str0__0 pos0__0 j2) :=
  (y9 (y9 (by apply y1G n hn) (by apply y1G n hn)) (by apply y1G n hn))
def y8s(aA:List UInt8)(str0__0:List UInt8)(pos0__0:Int):Option ((Bool×Unit)⊕Unit) :=
  (bif decide ((yc str0__0 pos0__0).1 ≥ 65)then (bif decide ((yc str0__0 pos0__0).1≤90)then (y4o aA str0__0 pos0__0 (Bool.true))else (bif decide ((yc str0__0 pos0__0).1 ≥ 97)then (y4o aA str0__0 pos0__0 (decide ((yc str0__0 pos0__0).1≤122)))else (y4o aA str0__0 pos0__0 (Bool.false))))else (bif decide ((yc str0__0 pos0__0).1 ≥ 97)then (y4o aA str0__0 pos0__0 (decide ((yc str0__0 pos0__0).1≤122)))else (y4o aA str0__0 pos0__0 (Bool.false))))
def y8z(aA:List UInt8)(str0__0:List UInt8):Option (Bool×Unit) :=
  (bif !aA==[]then (some ((decide ((↑aA.length:Int)≤24),())))else (some ((Bool.false,()))))
theorem yD3(n:Nat)(hn:big≤n)(aA:List UInt8)(str0__0:List UInt8)(hx:List.length (str0__0) < lenMax):LeF some (y83 (str0__0) (fun am ae=>y8s aA str0__0 am) (fun ae=>y8z aA str0__0) (List.length (str0__0)) 0 ()) (y6v n n aA str0__0 0):=by
  refine yKr (f:=some) (W:=fun aM am ae=>y6v n aM aA str0__0 am) (body:=(fun am ae=>y8s aA str0__0 am)) (fin:=(fun ae=>y8z aA str0__0)) (fun aM am ae=>?_) () n (by unfold big at hn;unfold lenMax at hx;omega)
  show LeF _ _ (yEM n (y6v n aM) aA str0__0 am)
  exact y9 (y9 (y9 (by apply y0C n hn) (y9 (by apply y0C n hn) (by apply y0C n hn))) (y9 (by apply y0C n hn) (by apply y0C n hn))) (y1F (y9 (y8 rfl) (y8 rfl)))
def yB0(s:List UInt8):Option (Bool×Unit) :=
  (bif decide (List.length (s) < lenMax)then y83 (s) (fun am ae=>y8s (s) (s) am) (fun ae=>y8z (s) (s)) (List.length (s)) 0 ()else none)
theorem yNQ(s:List UInt8)(y:Bool×Unit)(h:yB0 s=some y):∃ n,yJA n s=some y :=
  ⟨big,LeF.top (show LeF some (yB0 s) (yJA big s)from (fun (n:Nat) (hn:big≤n)=>show LeF some (yB0 s) (yJA n s)from (yr fun hx=>by apply yD3 n hn;exact hx)) big (Nat.le_refl _)) h⟩
def z08_e:Entry:={ f:=200,args:=yOn,ress:=yU2,m:=fun x=>yB0 x.1 }
theorem yLd:FnOK Tryz.prog z08_e:=yJ (g:=yVd) (fn:=Tryz.f200) yE yI eNil (by kernel_rfl) (by kernel_rfl) (by kernel_rfl) (fun x y h=>let ⟨n,hn⟩:=yNQ x.1 y h;⟨yMM n,iNil,(yT0 n x).trans hn⟩)
abbrev zP_a:Ty:=.pair t63 (.pair (.ref t60) .unit)
abbrev zP_r:Ty:=.pair t4 .unit
def zP_g:G:={ T:=T,E:=[],muts:=[],fz:=[] }
def zP_k:List (List Nat):=[]
def yVW(n:Nat):Ann:={ keep:=zP_k,fuel:=n,inl:=[],deep:=0 }
def zP_m(n:Nat)(s:Q4)(p1:Q1):Option (Bool×Unit) :=
  some (decide (s.2.1 > (↑p1.2.2.1.length:Int)),())
theorem yXK(n:Nat)(x:zP_a.den):runF zP_g (yVW n) Tryz.f205 zP_a zP_r x=zP_m n x.1 x.2.1:=by kernel_rfl
def zP(s:Q4)(p1:Q1):(Bool×Unit) :=
  (decide (s.2.1 > (↑p1.2.2.1.length:Int)),())
abbrev zP_M (s:Q4) (p1:Q1):Option (Bool×Unit):=some (zP s p1)
theorem yVC(s:Q4)(p1:Q1)(y:Bool×Unit)(h:zP_M s p1=some y):∃ n,zP_m n s p1=some y :=
  ⟨0,by rw[← h];show zP_m 0 s p1=some (zP s p1);unfold zP_m zP;first|rfl|(simp only[yG];done)|(simp only[yG];rfl)⟩
def zP_e:Entry:={ f:=205,args:=zP_a,ress:=zP_r,m:=fun x=>zP_M x.1 x.2.1 }
theorem yYq:FnOK Tryz.prog zP_e:=yJ (g:=zP_g) (fn:=Tryz.f205) yE yI eNil (by kernel_rfl) (by kernel_rfl) (by kernel_rfl) (fun x y h=>let ⟨n,hn⟩:=yVC x.1 x.2.1 y h;⟨yVW n,iNil,(yXK n x).trans hn⟩)
abbrev zO_a:Ty:=.pair t61 .unit
abbrev zO_r:Ty:=.pair t4 .unit
def zO_g:G:={ T:=T,E:=[],muts:=[],fz:=[] }
def zO_k:List (List Nat):=[]
def yQt(n:Nat):Ann:={ keep:=zO_k,fuel:=n,inl:=[],deep:=0 }
def zO_m(n:Nat)(x1:Nat):Option (Bool×Unit) :=
  some (y00 Go.BinOp.neq Go.FloatKind.f32 x1 (nat_lit 0),())
theorem yZV(n:Nat)(x:zO_a.den):runF zO_g (yQt n) Tryz.f208 zO_a zO_r x=zO_m n x.1:=by kernel_rfl
def zO(x1:Nat):(Bool×Unit) :=
  (y00 Go.BinOp.neq Go.FloatKind.f32 x1 (nat_lit 0),())
abbrev zO_M (x1:Nat):Option (Bool×Unit):=some (zO x1)
theorem yWv(x1:Nat)(y:Bool×Unit)(h:zO_M x1=some y):∃ n,zO_m n x1=some y :=
  ⟨0,by rw[← h];show zO_m 0 x1=some (zO x1);unfold zO_m zO;first|rfl|(simp only[yG];done)|(simp only[yG];rfl)⟩
def zO_e:Entry:={ f:=208,args:=zO_a,ress:=zO_r,m:=fun x=>zO_M x.1 }
theorem yXo:FnOK Tryz.prog zO_e:=yJ (g:=zO_g) (fn:=Tryz.f208) yE yI eNil (by kernel_rfl) (by kernel_rfl) (by kernel_rfl) (fun x y h=>let ⟨n,hn⟩:=yWv x.1 y h;⟨yQt n,iNil,(yZV n x).trans hn⟩)
abbrev zY_a:Ty:=.pair t61 .unit
abbrev zY_r:Ty:=.pair t3 .unit
def zY_g:G:={ T:=T,E:=[],muts:=[],fz:=[] }
def zY_k:List (List Nat):=[]
def yR4(n:Nat):Ann:={ keep:=zY_k,fuel:=n,inl:=[],deep:=0 }
def zY_m(n:Nat)(x1:Nat):Option (Int×Unit) :=
  (Option.bind (y0M Go.FloatKind.f32 (y0u Go.BinOp.mul Go.FloatKind.f32 x1 (nat_lit 1098907648)) IntKind.i64) fun v0=>some (v0,()))
theorem yZX(n:Nat)(x:zY_a.den):runF zY_g (yR4 n) Tryz.f224 zY_a zY_r x=zY_m n x.1:=by kernel_rfl
def zY_M(x1:Nat):Option (Int×Unit):=zY_m 0 x1
theorem ySX(x1:Nat)(y:Int×Unit)(h:zY_M x1=some y):∃ n,zY_m n x1=some y:=⟨0,h⟩
def zY_e:Entry:={ f:=224,args:=zY_a,ress:=zY_r,m:=fun x=>zY_M x.1 }
theorem yXy:FnOK Tryz.prog zY_e:=yJ (g:=zY_g) (fn:=Tryz.f224) yE yI eNil (by kernel_rfl) (by kernel_rfl) (by kernel_rfl) (fun x y h=>let ⟨n,hn⟩:=ySX x.1 y h;⟨yR4 n,iNil,(yZX n x).trans hn⟩)
abbrev zD_a:Ty:=.pair t58 (.pair t263 .unit)
abbrev zD_r:Ty:=.pair t3 .unit
def zD_g:G:={ T:=T,E:=[],muts:=[],fz:=[] }
def zD_k:List (List Nat):=[[0,1,7,8]]
def yUH(n:Nat):Ann:={ keep:=zD_k,fuel:=n,inl:=[],deep:=0 }
def yQH(n:Nat)(r0:List (Q4)→((Q4)×Unit→Option (Bool×Unit))→Int→Int→Option (Int×Unit))(aA:List (Q4))(bT:(Q4)×Unit→Option (Bool×Unit))(ax:Int)(aa:Int):Option (Int×Unit) :=
  (bif decide (aa < ax)then (Option.bind (idx aA aa) fun v1=>(Option.bind (bT (v1,())) fun v2=>(bif v2.1 then some (aa,())else r0 aA bT ax (IntKind.i64.wrap (aa+1)))))else some ((-1:Int),()))
def yQM(n:Nat)(k:Nat)(aA:List (Q4))(bT:(Q4)×Unit→Option (Bool×Unit))(ax:Int)(aa:Int):Option (Int×Unit) :=
  iter (fun r y=>yQH n (fun aA bT ax aa=>r ((aA,(bT,(ax,(aa,())))),((),()))) y.1.1 y.1.2.1 y.1.2.2.1 y.1.2.2.2.1) k ((aA,(bT,(ax,(aa,())))),((),()))
def zD_m(n:Nat)(s:List (Q4))(f:(Q4)×Unit→Option (Bool×Unit)):Option (Int×Unit) :=
  (yQM n n (s) (f) ((↑s.length:Int)) ((0:Int)))
theorem yZ3(n:Nat)(x:zD_a.den):runF zD_g (yUH n) Tryz.f226 zD_a zD_r x=zD_m n x.1 x.2.1:=by kernel_rfl
def zD_M(s:List (Q4))(f:(Q4)×Unit→Option (Bool×Unit)):Option (Int×Unit):=zD_m 1000 s f
theorem yRQ(s:List (Q4))(f:(Q4)×Unit→Option (Bool×Unit))(y:Int×Unit)(h:zD_M s f=some y):∃ n,zD_m n s f=some y:=⟨1000,h⟩
def zD_e:Entry:={ f:=226,args:=zD_a,ress:=zD_r,m:=fun x=>zD_M x.1 x.2.1 }
theorem yXW:FnOK Tryz.prog zD_e:=yJ (g:=zD_g) (fn:=Tryz.f226) yE yI eNil (by kernel_rfl) (by kernel_rfl) (by kernel_rfl) (fun x y h=>let ⟨n,hn⟩:=yRQ x.1 x.2.1 y h;⟨yUH n,iNil,(yZ3 n x).trans hn⟩)
abbrev zE_a:Ty:=.pair t35 (.pair t265 .unit)
abbrev zE_r:Ty:=.pair t3 .unit
def zE_g:G:={ T:=T,E:=[],muts:=[],fz:=[] }
def zE_k:List (List Nat):=[[0,1,7,8]]
def ySJ(n:Nat):Ann:={ keep:=zE_k,fuel:=n,inl:=[],deep:=0 }
def yP3(n:Nat)(r0:List Nat→(Nat×Unit→Option (Bool×Unit))→Int→Int→Option (Int×Unit))(aA:List Nat)(bT:Nat×Unit→Option (Bool×Unit))(ax:Int)(aa:Int):Option (Int×Unit) :=
  (bif decide (aa < ax)then (Option.bind (idx aA aa) fun v1=>(Option.bind (bT (v1,())) fun v2=>(bif v2.1 then some (aa,())else r0 aA bT ax (IntKind.i64.wrap (aa+1)))))else some ((-1:Int),()))
def yQc(n:Nat)(k:Nat)(aA:List Nat)(bT:Nat×Unit→Option (Bool×Unit))(ax:Int)(aa:Int):Option (Int×Unit) :=
  iter (fun r y=>yP3 n (fun aA bT ax aa=>r ((aA,(bT,(ax,(aa,())))),((),()))) y.1.1 y.1.2.1 y.1.2.2.1 y.1.2.2.2.1) k ((aA,(bT,(ax,(aa,())))),((),()))
def zE_m(n:Nat)(s:List Nat)(f:Nat×Unit→Option (Bool×Unit)):Option (Int×Unit) :=
  (yQc n n (s) (f) ((↑s.length:Int)) ((0:Int)))
theorem yXV(n:Nat)(x:zE_a.den):runF zE_g (ySJ n) Tryz.f227 zE_a zE_r x=zE_m n x.1 x.2.1:=by kernel_rfl
def zE_M(s:List Nat)(f:Nat×Unit→Option (Bool×Unit)):Option (Int×Unit):=zE_m 1000 s f
theorem yST(s:List Nat)(f:Nat×Unit→Option (Bool×Unit))(y:Int×Unit)(h:zE_M s f=some y):∃ n,zE_m n s f=some y:=⟨1000,h⟩
def zE_e:Entry:={ f:=227,args:=zE_a,ress:=zE_r,m:=fun x=>zE_M x.1 x.2.1 }
theorem yXk:FnOK Tryz.prog zE_e:=yJ (g:=zE_g) (fn:=Tryz.f227) yE yI eNil (by kernel_rfl) (by kernel_rfl) (by kernel_rfl) (fun x y h=>let ⟨n,hn⟩:=yST x.1 x.2.1 y h;⟨ySJ n,iNil,(yXV n x).trans hn⟩)
end
end Go.Tw
end
section
set_option maxRecDepth 1000000
namespace Go.Tw
open Go.Vx Go.Vx.B Go.Proofs
noncomputable section
abbrev zm_a:Ty:=.pair t25 .unit
abbrev zm_r:Ty:=.pair t4 .unit
def zm_g:G:={ T:=T,E:=[zl_e],muts:=[],fz:=[] }
def zm_k:List (List Nat):=[]
def yRn(n:Nat):Ann:={ keep:=zm_k,fuel:=n,inl:=[],deep:=0 }
def zm_m(n:Nat)(t:Q2):Option (Bool×Unit) :=
  (Option.bind (zl_M t.1) fun v0=>(bif v0.1 then some (decide ((↑t.2.1.length:Int)≤5),())else some (Bool.false,())))
theorem yZl(n:Nat)(x:zm_a.den):runF zm_g (yRn n) Tryz.f19 zm_a zm_r x=zm_m n x.1:=by kernel_rfl
def zm_M(t:Q2):Option (Bool×Unit):=zm_m 0 t
theorem yVJ(t:Q2)(y:Bool×Unit)(h:zm_M t=some y):∃ n,zm_m n t=some y:=⟨0,h⟩
def zm_e:Entry:={ f:=19,args:=zm_a,ress:=zm_r,m:=fun x=>zm_M x.1 }
theorem yYZ:FnOK Tryz.prog zm_e:=yJ (g:=zm_g) (fn:=Tryz.f19) yE yI (y6 yXx eNil) (by kernel_rfl) (by kernel_rfl) (by kernel_rfl) (fun x y h=>let ⟨n,hn⟩:=yVJ x.1 y h;⟨yRn n,iNil,(yZl n x).trans hn⟩)
abbrev yOr:Ty:=.pair t25 .unit
abbrev yXD:Ty:=.pair t33 .unit
def yR7:G:={ T:=T,E:=[z0d_e,z01_e],muts:=[],fz:=[] }
def yZP:List (List Nat):=[]
def yLv(n:Nat):Ann:={ keep:=yZP,fuel:=n,inl:=[],deep:=0 }
def yJk(n:Nat)(t:Q2):Option ((Q2)×Unit) :=
  (Option.bind (yD1 t.1) fun v0=>(Option.bind (yJN t.2.1) fun v1=>some ((v0.1,v1.1,t.2.2.1,()),())))
theorem yRh(n:Nat)(x:yOr.den):runF yR7 (yLv n) Tryz.f21 yOr yXD x=yJk n x.1:=by kernel_rfl
def yFz(t:Q2):Option ((Q2)×Unit):=yJk 0 t
theorem yNc(t:Q2)(y:(Q2)×Unit)(h:yFz t=some y):∃ n,yJk n t=some y:=⟨0,h⟩
def z10_e:Entry:={ f:=21,args:=yOr,ress:=yXD,m:=fun x=>yFz x.1 }
theorem yV7:FnOK Tryz.prog z10_e:=yJ (g:=yR7) (fn:=Tryz.f21) yE yI (y6 yXE (y6 yTW eNil)) (by kernel_rfl) (by kernel_rfl) (by kernel_rfl) (fun x y h=>let ⟨n,hn⟩:=yNc x.1 y h;⟨yLv n,iNil,(yRh n x).trans hn⟩)
abbrev zr_a:Ty:=.pair t96 (.pair t96 .unit)
abbrev zr_r:Ty:=.pair t4 .unit
def zr_g:G:={ T:=T,E:=[zV_e],muts:=[],fz:=[] }
def zr_k:List (List Nat):=[[0,1,5]]
def yTG(n:Nat):Ann:={ keep:=zr_k,fuel:=n,inl:=[],deep:=0 }
def yPG(n:Nat)(r0:List (List (Q4))→List (List (Q4))→Int→Option (Bool×Unit))(ai:List (List (Q4)))(al:List (List (Q4)))(au:Int):Option (Bool×Unit) :=
  (bif decide (au < (↑ai.length:Int))then (Option.bind (idx ai au) fun v1=>(Option.bind (idx al au) fun v2=>(Option.bind (zV_M v1 v2) fun v3=>(bif !v3.1 then some (Bool.false,())else r0 ai al (IntKind.i64.wrap (au+1))))))else some (Bool.true,()))
def yNz(n:Nat)(k:Nat)(ai:List (List (Q4)))(al:List (List (Q4)))(au:Int):Option (Bool×Unit) :=
  iter (fun r y=>yPG n (fun ai al au=>r ((ai,(al,(au,()))),((),()))) y.1.1 y.1.2.1 y.1.2.2.1) k ((ai,(al,(au,()))),((),()))
def zr_m(n:Nat)(a:List (List (Q4)))(b:List (List (Q4))):Option (Bool×Unit) :=
  (bif (↑a.length:Int) != (↑b.length:Int)then some (Bool.false,())else (yNz n n (a) (b) ((0:Int))))
theorem yXX(n:Nat)(x:zr_a.den):runF zr_g (yTG n) Tryz.f64 zr_a zr_r x=zr_m n x.1 x.2.1:=by kernel_rfl
def zr_M(a:List (List (Q4)))(b:List (List (Q4))):Option (Bool×Unit):=zr_m 1000 a b
theorem yRm(a:List (List (Q4)))(b:List (List (Q4)))(y:Bool×Unit)(h:zr_M a b=some y):∃ n,zr_m n a b=some y:=⟨1000,h⟩
def zr_e:Entry:={ f:=64,args:=zr_a,ress:=zr_r,m:=fun x=>zr_M x.1 x.2.1 }
theorem yXb:FnOK Tryz.prog zr_e:=yJ (g:=zr_g) (fn:=Tryz.f64) yE yI (y6 yRc eNil) (by kernel_rfl) (by kernel_rfl) (by kernel_rfl) (fun x y h=>let ⟨n,hn⟩:=yRm x.1 x.2.1 y h;⟨yTG n,iNil,(yXX n x).trans hn⟩)
abbrev zi_a:Ty:=.pair t57 .unit
abbrev zi_r:Ty:=.pair t3 .unit
def zi_g:G:={ T:=T,E:=[za_e,z0P_e],muts:=[],fz:=[] }
def zi_k:List (List Nat):=[]
def yUc(n:Nat):Ann:={ keep:=zi_k,fuel:=n,inl:=[],deep:=0 }
def zi_m(n:Nat)(z:Q4):Option (Int×Unit) :=
  (Option.bind (yA9 [(za z.1 (-8796093022208:Int) (8796093022208:Int)).1,(za z.2.1 (-8796093022208:Int) (8796093022208:Int)).1]) fun v0=>some (v0.1,()))
theorem yYU(n:Nat)(x:zi_a.den):runF zi_g (yUc n) Tryz.f109 zi_a zi_r x=zi_m n x.1:=by kernel_rfl
def zi_M(z:Q4):Option (Int×Unit):=zi_m 0 z
theorem yUE(z:Q4)(y:Int×Unit)(h:zi_M z=some y):∃ n,zi_m n z=some y:=⟨0,h⟩
def zi_e:Entry:={ f:=109,args:=zi_a,ress:=zi_r,m:=fun x=>zi_M x.1 }
theorem yZh:FnOK Tryz.prog zi_e:=yJ (g:=zi_g) (fn:=Tryz.f109) yE yI (y6 yQS (y6 yLl eNil)) (by kernel_rfl) (by kernel_rfl) (by kernel_rfl) (fun x y h=>let ⟨n,hn⟩:=yUE x.1 y h;⟨yUc n,iNil,(yYU n x).trans hn⟩)
abbrev yMt:Ty:=.pair t23 (.pair t3 .unit)
abbrev yWM:Ty:=.pair t3 .unit
def yTP:G:={ T:=T,E:=[z02_e],muts:=[],fz:=[] }
def yZv:List (List Nat):=[[0,1,5]]
def yMb(n:Nat):Ann:={ keep:=yZv,fuel:=n,inl:=[],deep:=0 }
def yET(n:Nat)(r0:List (Q4)→Int→Int→Option (Int×Unit))(aw:List (Q4))(b6:Int)(au:Int):Option (Int×Unit) :=
  (bif decide (au < (↑aw.length:Int))then (Option.bind (idx aw au) fun v1=>(Option.bind (idx aw au) fun v2=>(Option.bind (y8S b6 (if IntKind.i64.wrap ((0:Int) - v2.1) > v1.1 then IntKind.i64.wrap ((0:Int) - v2.1)else v1.1)) fun v3=>(Option.bind (idx aw au) fun v4=>(Option.bind (idx aw au) fun v5=>(Option.bind (y8S v3.1 (if IntKind.i64.wrap ((0:Int) - v5.2.1) > v4.2.1 then IntKind.i64.wrap ((0:Int) - v5.2.1)else v4.2.1)) fun v6=>r0 aw v6.1 (IntKind.i64.wrap (au+1))))))))else some (b6,()))
def y6b(n:Nat)(k:Nat)(aw:List (Q4))(b6:Int)(au:Int):Option (Int×Unit) :=
  iter (fun r y=>yET n (fun aw b6 au=>r ((aw,(b6,(au,()))),((),()))) y.1.1 y.1.2.1 y.1.2.2.1) k ((aw,(b6,(au,()))),((),()))
def yJg(n:Nat)(l:List (Q4))(den:Int):Option (Int×Unit) :=
  (y6b n n (l) (den) ((0:Int)))
theorem yWJ(n:Nat)(x:yMt.den):runF yTP (yMb n) Tryz.f110 yMt yWM x=yJg n x.1 x.2.1:=by kernel_rfl
def y8U(aw:List (Q4))(au:Int)(v1:Q4)(b6:Int):Option ((Int×Unit)⊕(Int)) :=
  (Option.bind (idx aw au) fun v2=>(Option.bind (y8S b6 (if IntKind.i64.wrap ((0:Int) - v2.1) > v1.1 then IntKind.i64.wrap ((0:Int) - v2.1)else v1.1)) fun v3=>(Option.bind (idx aw au) fun v4=>(Option.bind (idx aw au) fun v5=>(Option.bind (y8S v3.1 (if IntKind.i64.wrap ((0:Int) - v5.2.1) > v4.2.1 then IntKind.i64.wrap ((0:Int) - v5.2.1)else v4.2.1)) fun v6=>(some (Sum.inr (v6.1))))))))
def yEW(aw:List (Q4))(b6:Int):Option (Int×Unit) :=
  (some ((b6,())))
theorem yCh(n:Nat)(hn:big≤n)(aw:List (Q4))(b6:Int)(hx:List.length (aw) < lenMax):LeF some (yf (fun am aE ae=>y8U aw am aE ae) (fun ae=>yEW aw ae) 0 (aw) b6) (y6b n n aw b6 0):=by
  refine yn (f:=some) (W:=fun aM am ae=>y6b n aM aw ae am) (body:=(fun am aE ae=>y8U aw am aE ae)) (fin:=(fun ae=>yEW aw ae)) (fun aM am ae=>?_) hx b6 n (by unfold big at hn;unfold lenMax at hx;omega)
  show LeF _ _ (yET n (y6b n aM) aw ae am)
  exact y9 (yB fun v1=>(yB fun v2=>(yB fun v3=>(yB fun v4=>(yB fun v5=>(yB fun v6=>(y8 rfl))))))) (y1F (y8 rfl))
def yBs(l:List (Q4))(den:Int):Option (Int×Unit) :=
  (bif decide (List.length (l) < lenMax)then yf (fun am aE ae=>y8U (l) am aE ae) (fun ae=>yEW (l) ae) 0 (l) (den)else none)
theorem yOw(l:List (Q4))(den:Int)(y:Int×Unit)(h:yBs l den=some y):∃ n,yJg n l den=some y :=
  ⟨big,LeF.top (show LeF some (yBs l den) (yJg big l den)from (fun (n:Nat) (hn:big≤n)=>show LeF some (yBs l den) (yJg n l den)from (yr fun hx=>by apply yCh n hn;exact hx)) big (Nat.le_refl _)) h⟩
def z0B_e:Entry:={ f:=110,args:=yMt,ress:=yWM,m:=fun x=>yBs x.1 x.2.1 }
theorem yRV:FnOK Tryz.prog z0B_e:=yJ (g:=yTP) (fn:=Tryz.f110) yE yI (y6 yV9 eNil) (by kernel_rfl) (by kernel_rfl) (by kernel_rfl) (fun x y h=>let ⟨n,hn⟩:=yOw x.1 x.2.1 y h;⟨yMb n,iNil,(yWJ n x).trans hn⟩)
abbrev yN5:Ty:=.pair t3 (.pair t3 (.pair t3 .unit))
abbrev yUh:Ty:=.pair t28 .unit
def yUJ:G:={ T:=T,E:=[z16_e],muts:=[],fz:=[] }
def yYM:List (List Nat):=[]
def yMa(n:Nat):Ann:={ keep:=yYM,fuel:=n,inl:=[],deep:=0 }
def yKm(n:Nat)(n1:Int)(least:Int)(most:Int):Option (Int×Unit) :=
  (bif decide (n1 < least)then some ((z16 Bool.true (3:Int)).1,())else some ((z16 (decide (n1 > most)) (3:Int)).1,()))
theorem yVM(n:Nat)(x:yN5.den):runF yUJ (yMa n) Tryz.f114 yN5 yUh x=yKm n x.1 x.2.1 x.2.2.1:=by kernel_rfl
def z0b(n1:Int)(least:Int)(most:Int):(Int×Unit) :=
  (bif decide (n1 < least)then ((z16 Bool.true (3:Int)).1,())else ((z16 (decide (n1 > most)) (3:Int)).1,()))
abbrev yTS (n1:Int) (least:Int) (most:Int):Option (Int×Unit):=some (z0b n1 least most)
theorem yNo(n1:Int)(least:Int)(most:Int)(y:Int×Unit)(h:yTS n1 least most=some y):∃ n,yKm n n1 least most=some y :=
  ⟨0,by rw[← h];show yKm 0 n1 least most=some (z0b n1 least most);unfold yKm z0b;first|rfl|(simp only[yG];done)|(simp only[yG];rfl)⟩
def z0b_e:Entry:={ f:=114,args:=yN5,ress:=yUh,m:=fun x=>yTS x.1 x.2.1 x.2.2.1 }
theorem y8x:FnOK Tryz.prog z0b_e:=yJ (g:=yUJ) (fn:=Tryz.f114) yE yI (y6 y4V eNil) (by kernel_rfl) (by kernel_rfl) (by kernel_rfl) (fun x y h=>let ⟨n,hn⟩:=yNo x.1 x.2.1 x.2.2.1 y h;⟨yMa n,iNil,(yVM n x).trans hn⟩)
abbrev zh_a:Ty:=.pair t9 .unit
abbrev zh_r:Ty:=.pair t3 .unit
def zh_g:G:={ T:=T,E:=[z0A_e],muts:=[],fz:=[] }
def zh_k:List (List Nat):=[]
def yWc(n:Nat):Ann:={ keep:=zh_k,fuel:=n,inl:=[],deep:=0 }
def zh_m(n:Nat)(s:List UInt8):Option (Int×Unit) :=
  (Option.bind (yDA s) fun v0=>(bif !v0.1 then some ((8:Int),())else some ((0:Int),())))
theorem yXw(n:Nat)(x:zh_a.den):runF zh_g (yWc n) Tryz.f118 zh_a zh_r x=zh_m n x.1:=by kernel_rfl
def zh_M(s:List UInt8):Option (Int×Unit):=zh_m 0 s
theorem yWI(s:List UInt8)(y:Int×Unit)(h:zh_M s=some y):∃ n,zh_m n s=some y:=⟨0,h⟩
def zh_e:Entry:={ f:=118,args:=zh_a,ress:=zh_r,m:=fun x=>zh_M x.1 }
theorem yZF:FnOK Tryz.prog zh_e:=yJ (g:=zh_g) (fn:=Tryz.f118) yE yI (y6 yWj eNil) (by kernel_rfl) (by kernel_rfl) (by kernel_rfl) (fun x y h=>let ⟨n,hn⟩:=yWI x.1 y h;⟨yWc n,iNil,(yXw n x).trans hn⟩)
abbrev zn_a:Ty:=.pair t33 .unit
abbrev zn_r:Ty:=.pair t4 .unit
def zn_g:G:={ T:=T,E:=[z06_e],muts:=[],fz:=[] }
def zn_k:List (List Nat):=[[1,6,7,8]]
def yR0(n:Nat):Ann:={ keep:=zn_k,fuel:=n,inl:=[],deep:=0 }
def yHI(n:Nat)(r0:Q2→List (Q4)→Int→Int→Option (Bool×Unit))(aR:Q2)(aB:List (Q4))(ax:Int)(aa:Int):Option (Bool×Unit) :=
  (bif decide (aa < ax)then (Option.bind (idx aB aa) fun v1=>(bif decide ((if (z06 v1.2.1).1 > (z06 v1.1).1 then (z06 v1.2.1).1 else (z06 v1.1).1) > 4194304)then some (Bool.false,())else r0 aR aB ax (IntKind.i64.wrap (aa+1))))else some (decide (aR.2.2.1≤4096),()))
def y9h(n:Nat)(k:Nat)(aR:Q2)(aB:List (Q4))(ax:Int)(aa:Int):Option (Bool×Unit) :=
  iter (fun r y=>yHI n (fun aR aB ax aa=>r ((aR,(aB,(ax,(aa,())))),((),()))) y.1.1 y.1.2.1 y.1.2.2.1 y.1.2.2.2.1) k ((aR,(aB,(ax,(aa,())))),((),()))
def zn_m(n:Nat)(t:Q2):Option (Bool×Unit) :=
  (y9h n n (t) (t.2.1) ((↑t.2.1.length:Int)) ((0:Int)))
theorem yZg(n:Nat)(x:zn_a.den):runF zn_g (yR0 n) Tryz.f129 zn_a zn_r x=zn_m n x.1:=by kernel_rfl
def yK4(aR:Q2)(aB:List (Q4))(aa:Int)(v1:Q4):Option ((Bool×Unit)⊕Unit) :=
  (bif decide ((if (z06 v1.2.1).1 > (z06 v1.1).1 then (z06 v1.2.1).1 else (z06 v1.1).1) > 4194304)then (some (Sum.inl ((Bool.false,()))))else (some (Sum.inr ())))
def yO3(aR:Q2)(aB:List (Q4)):Option (Bool×Unit) :=
  (some ((decide (aR.2.2.1≤4096),())))
theorem yFH(n:Nat)(hn:big≤n)(aR:Q2)(aB:List (Q4))(hx:List.length (aB) < lenMax):LeF some (yf (fun am aE ae=>yK4 aR aB am aE) (fun ae=>yO3 aR aB) 0 (aB) ()) (y9h n n aR aB (List.length (aB):Int) 0):=by
  refine yn (f:=some) (W:=fun aM am ae=>y9h n aM aR aB (List.length (aB):Int) am) (body:=(fun am aE ae=>yK4 aR aB am aE)) (fin:=(fun ae=>yO3 aR aB)) (fun aM am ae=>?_) hx () n (by unfold big at hn;unfold lenMax at hx;omega)
  show LeF _ _ (yHI n (y9h n aM) aR aB (List.length (aB):Int) am)
  exact y9 (yB fun v1=>(y9 (y8 rfl) (y8 rfl))) (y1F (y8 rfl))
def zn_M(t:Q2):Option (Bool×Unit) :=
  (bif decide (List.length (t.2.1) < lenMax)then yf (fun am aE ae=>yK4 (t) (t.2.1) am aE) (fun ae=>yO3 (t) (t.2.1)) 0 (t.2.1) ()else none)
theorem yU1(t:Q2)(y:Bool×Unit)(h:zn_M t=some y):∃ n,zn_m n t=some y :=
  ⟨big,LeF.top (show LeF some (zn_M t) (zn_m big t)from (fun (n:Nat) (hn:big≤n)=>show LeF some (zn_M t) (zn_m n t)from (yr fun hx=>by apply yFH n hn;exact hx)) big (Nat.le_refl _)) h⟩
def zn_e:Entry:={ f:=129,args:=zn_a,ress:=zn_r,m:=fun x=>zn_M x.1 }
theorem yOu:FnOK Tryz.prog zn_e:=yJ (g:=zn_g) (fn:=Tryz.f129) yE yI (y6 yAp eNil) (by kernel_rfl) (by kernel_rfl) (by kernel_rfl) (fun x y h=>let ⟨n,hn⟩:=yU1 x.1 y h;⟨yR0 n,iNil,(yZg n x).trans hn⟩)
abbrev yNO:Ty:=.pair t57 (.pair (.ref t33) .unit)
abbrev ySW:Ty:=.pair t57 .unit
def yRs:G:={ T:=T,E:=[z0Z_e],muts:=[],fz:=[] }
def yXR:List (List Nat):=[]
def yLi(n:Nat):Ann:={ keep:=yXR,fuel:=n,inl:=[],deep:=0 }
def yIy(n:Nat)(z:Q4)(p1:Q2):Option ((Q4)×Unit) :=
  some (((z0Z z p1.2.2.1).1.1,(z0Z z p1.2.2.1).1.2.1,()),())
theorem yWQ(n:Nat)(x:yNO.den):runF yRs (yLi n) Tryz.f133 yNO ySW x=yIy n x.1 x.2.1:=by kernel_rfl
def z0q(z:Q4)(p1:Q2):((Q4)×Unit) :=
  (((z0Z z p1.2.2.1).1.1,(z0Z z p1.2.2.1).1.2.1,()),())
abbrev yX5 (z:Q4) (p1:Q2):Option ((Q4)×Unit):=some (z0q z p1)
theorem yPX(z:Q4)(p1:Q2)(y:(Q4)×Unit)(h:yX5 z p1=some y):∃ n,yIy n z p1=some y :=
  ⟨0,by rw[← h];show yIy 0 z p1=some (z0q z p1);unfold yIy z0q;first|rfl|(simp only[yG];done)|(simp only[yG];rfl)⟩
def z0q_e:Entry:={ f:=133,args:=yNO,ress:=ySW,m:=fun x=>yX5 x.1 x.2.1 }
theorem yX4:FnOK Tryz.prog z0q_e:=yJ (g:=yRs) (fn:=Tryz.f133) yE yI (y6 y8y eNil) (by kernel_rfl) (by kernel_rfl) (by kernel_rfl) (fun x y h=>let ⟨n,hn⟩:=yPX x.1 x.2.1 y h;⟨yLi n,iNil,(yWQ n x).trans hn⟩)
abbrev yQe:Ty:=.pair t57 (.pair (.ref t69) .unit)
abbrev yUo:Ty:=.pair t57 .unit
def yVn:G:={ T:=T,E:=[z0Z_e],muts:=[],fz:=[] }
def yXs:List (List Nat):=[]
def yLM(n:Nat):Ann:={ keep:=yXs,fuel:=n,inl:=[],deep:=0 }
def yJ0(n:Nat)(z:Q4)(p1:Q4):Option ((Q4)×Unit) :=
  some (((z0Z z p1.1).1.1,(z0Z z p1.1).1.2.1,()),())
theorem yR6(n:Nat)(x:yQe.den):runF yVn (yLM n) Tryz.f137 yQe yUo x=yJ0 n x.1 x.2.1:=by kernel_rfl
def z03(z:Q4)(p1:Q4):((Q4)×Unit) :=
  (((z0Z z p1.1).1.1,(z0Z z p1.1).1.2.1,()),())
abbrev yOq (z:Q4) (p1:Q4):Option ((Q4)×Unit):=some (z03 z p1)
theorem yQp(z:Q4)(p1:Q4)(y:(Q4)×Unit)(h:yOq z p1=some y):∃ n,yJ0 n z p1=some y :=
  ⟨0,by rw[← h];show yJ0 0 z p1=some (z03 z p1);unfold yJ0 z03;first|rfl|(simp only[yG];done)|(simp only[yG];rfl)⟩
def z03_e:Entry:={ f:=137,args:=yQe,ress:=yUo,m:=fun x=>yOq x.1 x.2.1 }
theorem yUZ:FnOK Tryz.prog z03_e:=yJ (g:=yVn) (fn:=Tryz.f137) yE yI (y6 y8y eNil) (by kernel_rfl) (by kernel_rfl) (by kernel_rfl) (fun x y h=>let ⟨n,hn⟩:=yQp x.1 x.2.1 y h;⟨yLM n,iNil,(yR6 n x).trans hn⟩)
abbrev yOF:Ty:=.pair t57 .unit
abbrev yVH:Ty:=.pair t28 .unit
def yVN:G:={ T:=T,E:=[z06_e,z16_e],muts:=[],fz:=[] }
def yZf:List (List Nat):=[]
def yMT(n:Nat):Ann:={ keep:=yZf,fuel:=n,inl:=[],deep:=0 }
def yJF(n:Nat)(z:Q4):Option (Int×Unit) :=
  some ((z16 (decide ((if (z06 z.2.1).1 > (z06 z.1).1 then (z06 z.2.1).1 else (z06 z.1).1) > 16777216)) (1:Int)).1,())
theorem yVY(n:Nat)(x:yOF.den):runF yVN (yMT n) Tryz.f138 yOF yVH x=yJF n x.1:=by kernel_rfl
def z0V(z:Q4):(Int×Unit) :=
  ((z16 (decide ((if (z06 z.2.1).1 > (z06 z.1).1 then (z06 z.2.1).1 else (z06 z.1).1) > 16777216)) (1:Int)).1,())
abbrev yN0 (z:Q4):Option (Int×Unit):=some (z0V z)
theorem yNZ(z:Q4)(y:Int×Unit)(h:yN0 z=some y):∃ n,yJF n z=some y :=
  ⟨0,by rw[← h];show yJF 0 z=some (z0V z);unfold yJF z0V;first|rfl|(simp only[yG];done)|(simp only[yG];rfl)⟩
def z0V_e:Entry:={ f:=138,args:=yOF,ress:=yVH,m:=fun x=>yN0 x.1 }
theorem yQv:FnOK Tryz.prog z0V_e:=yJ (g:=yVN) (fn:=Tryz.f138) yE yI (y6 yAp (y6 y4V eNil)) (by kernel_rfl) (by kernel_rfl) (by kernel_rfl) (fun x y h=>let ⟨n,hn⟩:=yNZ x.1 y h;⟨yMT n,iNil,(yVY n x).trans hn⟩)
abbrev yQb:Ty:=.pair t60 (.pair t55 (.pair t55 .unit))
abbrev yX8:Ty:=.pair t57 .unit
def yT6:G:={ T:=T,E:=[zR_e,zx_e,z0y_e,z15_e],muts:=[],fz:=[] }
def yZq:List (List Nat):=[]
def yLA(n:Nat):Ann:={ keep:=yZq,fuel:=n,inl:=[il124,il195],deep:=3 }
def yAm(n:Nat)(r0:Q1→List (Q4)→List Nat→Int→Int→Q1→Q3→Q3→Q1→Q3→Q3→Q4→Q1→Q1→Int→Int→Int→Int→Q1→Q3→Q3→Q1→Q3→Q3→Q4→Q1→Q1→Option ((Q4)×Unit))(j8:Q1)(j9:List (Q4))(j10:Int)(j11:Nat)(j12:List Nat)(j13:Int)(j14:Int)(j15:Q1)(j16:Q3)(j17:Q3)(j18:Q1)(j19:Q3)(j20:Q3)(j21:Q4)(j22:Q1)(j23:Q1)(j24:Int)(j25:Int)(j26:Int)(j27:Int)(j28:Q1)(j29:Q3)(j30:Q3)(j31:Q1)(j32:Q3)(j33:Q3)(j34:Q4)(j35:Q1)(j36:Q1):Option ((Q4)×Unit) :=
  (bif decide ((↑j9.length:Int) > 0)then (Option.bind (idx j9 (0:Int)) fun v37=>(bif decide (v37.1≤j10)then r0 j8 j9 j12 j13 (IntKind.i64.wrap (j14+1)) j15 j16 j17 j18 j19 j20 j21 j22 j23 j24 j25 j26 j27 j28 j29 j30 j31 j32 j33 j34 j35 j36 else (Option.bind (y0M Go.FloatKind.f32 (y0u Go.BinOp.mul Go.FloatKind.f32 j11 (nat_lit 1098907648)) IntKind.i64) fun v42=>(Option.bind (zR_M j19 (IntKind.i64.wrap (j8.2.1+j10))) fun v43=>(Option.bind (zR_M j20 (IntKind.i64.wrap (j8.2.1+j10))) fun v44=>r0 j8 j9 j12 j13 (IntKind.i64.wrap (j14+1)) j15 j16 j17 j18 j19 j20 j21 j22 j23 j24 j25 (z15 (j26,j27,()) (z0y (zx v43.1).1 v44.1).1).1.1 (z15 (j26,j27,()) (z0y (zx v43.1).1 v44.1).1).1.2.1 j28 j29 j30 j31 j32 j33 j34 j35 j36)))))else (Option.bind (y0M Go.FloatKind.f32 (y0u Go.BinOp.mul Go.FloatKind.f32 j11 (nat_lit 1098907648)) IntKind.i64) fun v45=>(Option.bind (zR_M j19 (IntKind.i64.wrap (j8.2.1+j10))) fun v46=>(Option.bind (zR_M j20 (IntKind.i64.wrap (j8.2.1+j10))) fun v47=>r0 j8 j9 j12 j13 (IntKind.i64.wrap (j14+1)) j15 j16 j17 j18 j19 j20 j21 j22 j23 j24 j25 (z15 (j26,j27,()) (z0y (zx v46.1).1 v47.1).1).1.1 (z15 (j26,j27,()) (z0y (zx v46.1).1 v47.1).1).1.2.1 j28 j29 j30 j31 j32 j33 j34 j35 j36))))
def yJn(n:Nat)(r0:Q1→List (Q4)→List Nat→Int→Int→Q1→Q3→Q3→Q1→Q3→Q3→Q4→Q1→Q1→Int→Int→Int→Int→Q1→Q3→Q3→Q1→Q3→Q3→Q4→Q1→Q1→Option ((Q4)×Unit))(r2:Q1→List (Q4)→Int→Nat→List Nat→Int→Int→Q1→Q3→Q3→Q1→Q3→Q3→Q4→Q1→Q1→Int→Int→Int→Int→Q1→Q3→Q3→Q1→Q3→Q3→Q4→Q1→Q1→Option ((Q4)×Unit))(bj:Q1)(ar:List (Q4))(bg:Int)(bl:Nat)(aN:List Nat)(aP:Int)(aQ:Int)(aF:Q1)(aG:Q3)(aV:Q3)(bH:Q1)(bI:Q3)(aU:Q3)(bJ:Q4)(bw:Q1)(bd:Q1)(aW:Int)(aX:Int)(aY:Int)(aZ:Int)(bn:Q1)(bp:Q3)(bK:Q3)(cj:Q1)(ck:Q3)(bF:Q3)(cl:Q4)(bX:Q1)(bx:Q1):Option ((Q4)×Unit) :=
  (bif decide ((↑ar.length:Int) > 0)then (Option.bind (idx ar (0:Int)) fun v3=>(bif decide (v3.2.1≤bg)then (bif decide ((0:Int)≤1) && decide ((1:Int)≤(↑ar.length:Int))then r2 bj (List.drop (Int.toNat (1:Int)) ar) bg bl aN aP aQ aF aG aV bH bI aU bJ bw bd aW aX aY aZ bn bp bK cj ck bF cl bX bx else none)else (yAm n r0 (bj) (ar) (bg) (bl) (aN) (aP) (aQ) (aF) (aG) (aV) (bH) (bI) (aU) (bJ) (bw) (bd) (aW) (aX) (aY) (aZ) (bn) (bp) (bK) (cj) (ck) (bF) (cl) (bX) (bx))))else (yAm n r0 (bj) (ar) (bg) (bl) (aN) (aP) (aQ) (aF) (aG) (aV) (bH) (bI) (aU) (bJ) (bw) (bd) (aW) (aX) (aY) (aZ) (bn) (bp) (bK) (cj) (ck) (bF) (cl) (bX) (bx)))
def yKQ(n:Nat)(r0:Q1→List (Q4)→List Nat→Int→Int→Q1→Q3→Q3→Q1→Q3→Q3→Q4→Q1→Q1→Int→Int→Int→Int→Q1→Q3→Q3→Q1→Q3→Q3→Q4→Q1→Q1→Option ((Q4)×Unit))(k:Nat)(bj:Q1)(ar:List (Q4))(bg:Int)(bl:Nat)(aN:List Nat)(aP:Int)(aQ:Int)(aF:Q1)(aG:Q3)(aV:Q3)(bH:Q1)(bI:Q3)(aU:Q3)(bJ:Q4)(bw:Q1)(bd:Q1)(aW:Int)(aX:Int)(aY:Int)(aZ:Int)(bn:Q1)(bp:Q3)(bK:Q3)(cj:Q1)(ck:Q3)(bF:Q3)(cl:Q4)(bX:Q1)(bx:Q1):Option ((Q4)×Unit) :=
  iter (fun r y=>yJn n r0 (fun bj ar bg bl aN aP aQ aF aG aV bH bI aU bJ bw bd aW aX aY aZ bn bp bK cj ck bF cl bX bx=>r ((bj,(ar,(bg,(bl,(aN,(aP,(aQ,()))))))),(((aF,(aG,(aV,(bH,(bI,(aU,(bJ,(bw,((bd,()),()))))))))),((aW,(aX,())),((aY,(aZ,())),()))),(bn,(bp,(bK,(cj,(ck,(bF,(cl,(bX,((bx,()),())))))))))))) y.1.1 y.1.2.1 y.1.2.2.1 y.1.2.2.2.1 y.1.2.2.2.2.1 y.1.2.2.2.2.2.1 y.1.2.2.2.2.2.2.1 y.2.1.1.1 y.2.1.1.2.1 y.2.1.1.2.2.1 y.2.1.1.2.2.2.1 y.2.1.1.2.2.2.2.1 y.2.1.1.2.2.2.2.2.1 y.2.1.1.2.2.2.2.2.2.1 y.2.1.1.2.2.2.2.2.2.2.1 y.2.1.1.2.2.2.2.2.2.2.2.1.1 y.2.1.2.1.1 y.2.1.2.1.2.1 y.2.1.2.2.1.1 y.2.1.2.2.1.2.1 y.2.2.1 y.2.2.2.1 y.2.2.2.2.1 y.2.2.2.2.2.1 y.2.2.2.2.2.2.1 y.2.2.2.2.2.2.2.1 y.2.2.2.2.2.2.2.2.1 y.2.2.2.2.2.2.2.2.2.1 y.2.2.2.2.2.2.2.2.2.2.1.1) k ((bj,(ar,(bg,(bl,(aN,(aP,(aQ,()))))))),(((aF,(aG,(aV,(bH,(bI,(aU,(bJ,(bw,((bd,()),()))))))))),((aW,(aX,())),((aY,(aZ,())),()))),(bn,(bp,(bK,(cj,(ck,(bF,(cl,(bX,((bx,()),())))))))))))
def yKi(n:Nat)(r0:Q1→List (Q4)→List Nat→Int→Int→Q1→Q3→Q3→Q1→Q3→Q3→Q4→Q1→Q1→Int→Int→Int→Int→Q1→Q3→Q3→Q1→Q3→Q3→Q4→Q1→Q1→Option ((Q4)×Unit))(aR:Q1)(aJ:List (Q4))(aq:List Nat)(af:Int)(av:Int)(aS:Q1)(aT:Q3)(br:Q3)(bY:Q1)(bZ:Q3)(bq:Q3)(ca:Q4)(bQ:Q1)(bu:Q1)(aj:Int)(ak:Int)(be:Int)(bf:Int)(bA:Q1)(bB:Q3)(cb:Q3)(cp:Q1)(cr:Q3)(bV:Q3)(cu:Q4)(cg:Q1)(bR:Q1):Option ((Q4)×Unit) :=
  (bif decide (av < af)then (Option.bind (idx aq av) fun v1=>(yKQ n r0 n (aR) (aJ) (av) (v1) (aq) (af) (av) (aS) (aT) (br) (bY) (bZ) (bq) (ca) (bQ) (bu) (aj) (ak) (be) (bf) (bA) (bB) (cb) (cp) (cr) (bV) (cu) (cg) (bR)))else some ((be,bf,()),()))
def yJH(n:Nat)(k:Nat)(aR:Q1)(aJ:List (Q4))(aq:List Nat)(af:Int)(av:Int)(aS:Q1)(aT:Q3)(br:Q3)(bY:Q1)(bZ:Q3)(bq:Q3)(ca:Q4)(bQ:Q1)(bu:Q1)(aj:Int)(ak:Int)(be:Int)(bf:Int)(bA:Q1)(bB:Q3)(cb:Q3)(cp:Q1)(cr:Q3)(bV:Q3)(cu:Q4)(cg:Q1)(bR:Q1):Option ((Q4)×Unit) :=
  iter (fun r y=>yKi n (fun aR aJ aq af av aS aT br bY bZ bq ca bQ bu aj ak be bf bA bB cb cp cr bV cu cg bR=>r ((aR,(aJ,(aq,(af,(av,()))))),(((aS,(aT,(br,(bY,(bZ,(bq,(ca,(bQ,((bu,()),()))))))))),((aj,(ak,())),((be,(bf,())),()))),(bA,(bB,(cb,(cp,(cr,(bV,(cu,(cg,((bR,()),())))))))))))) y.1.1 y.1.2.1 y.1.2.2.1 y.1.2.2.2.1 y.1.2.2.2.2.1 y.2.1.1.1 y.2.1.1.2.1 y.2.1.1.2.2.1 y.2.1.1.2.2.2.1 y.2.1.1.2.2.2.2.1 y.2.1.1.2.2.2.2.2.1 y.2.1.1.2.2.2.2.2.2.1 y.2.1.1.2.2.2.2.2.2.2.1 y.2.1.1.2.2.2.2.2.2.2.2.1.1 y.2.1.2.1.1 y.2.1.2.1.2.1 y.2.1.2.2.1.1 y.2.1.2.2.1.2.1 y.2.2.1 y.2.2.2.1 y.2.2.2.2.1 y.2.2.2.2.2.1 y.2.2.2.2.2.2.1 y.2.2.2.2.2.2.2.1 y.2.2.2.2.2.2.2.2.1 y.2.2.2.2.2.2.2.2.2.1 y.2.2.2.2.2.2.2.2.2.2.1.1) k ((aR,(aJ,(aq,(af,(av,()))))),(((aS,(aT,(br,(bY,(bZ,(bq,(ca,(bQ,((bu,()),()))))))))),((aj,(ak,())),((be,(bf,())),()))),(bA,(bB,(cb,(cp,(cr,(bV,(cu,(cg,((bR,()),())))))))))))
def yNf(n:Nat)(r1:Q1)(a:Q3)(b:Q3):Option ((Q4)×Unit) :=
  (yJH n n (r1) (r1.2.2.2.1) (r1.2.2.1) ((↑r1.2.2.1.length:Int)) ((0:Int)) (r1) (a) (b) (r1) (a) (b) (((0:Int),(0:Int),())) (r1) (r1) ((0:Int)) ((0:Int)) ((0:Int)) ((0:Int)) (r1) (a) (b) (r1) (a) (b) (((0:Int),(0:Int),())) (r1) (r1))
theorem yRz(n:Nat)(x:yQb.den):runF yT6 (yLA n) Tryz.f148 yQb yX8 x=yNf n x.1 x.2.1 x.2.2.1:=by kernel_rfl
def yGE(r1:Q1)(a:Q3)(b:Q3):Option ((Q4)×Unit):=yNf 1000 r1 a b
theorem yPm(r1:Q1)(a:Q3)(b:Q3)(y:(Q4)×Unit)(h:yGE r1 a b=some y):∃ n,yNf n r1 a b=some y:=⟨1000,h⟩
def z0t_e:Entry:={ f:=148,args:=yQb,ress:=yX8,m:=fun x=>yGE x.1 x.2.1 x.2.2.1 }
theorem yGI:FnOK Tryz.prog z0t_e:=yJ (g:=yT6) (fn:=Tryz.f148) yE yI (y6 yPO (y6 yPs (y6 yDS (y6 yBi eNil)))) (by kernel_rfl) (by kernel_rfl) (by kernel_rfl) (fun x y h=>let ⟨n,hn⟩:=yPm x.1 x.2.1 x.2.2.1 y h;⟨yLA n,(y4R y5Y (y4R y5J iNil)),(yRz n x).trans hn⟩)
abbrev yXU:Ty:=.pair t96 .unit
abbrev yZm:Ty:=.pair t57 .unit
class ref02_det_Rec where
  f:yXU.den→Option yZm.den
section
variable [ref02_det_Rec]
end
abbrev yPA:Ty:=.pair t31 (.pair t23 (.pair t3 .unit))
abbrev yRT:Ty:=.pair t57 .unit
def yRC:G:={ T:=T,E:=[zR_e,z0y_e,z15_e],muts:=[],fz:=[] }
def yZa:List (List Nat):=[[1,2,6,7,11,12,13]]
def yMN(n:Nat):Ann:={ keep:=yZa,fuel:=n,inl:=[],deep:=0 }
def yEN(n:Nat)(r0:List (Q4)→Int→List (Q3)→Int→Int→Int→Int→Int→Int→Option ((Q4)×Unit))(bC:List (Q4))(aK:Int)(av:List (Q3))(cf:Int)(bh:Int)(ay:Int)(az:Int)(aj:Int)(ak:Int):Option ((Q4)×Unit) :=
  (bif decide (bh < cf)then (Option.bind (idx av bh) fun v1=>(Option.bind (idx bC bh) fun v2=>(Option.bind (zR_M (v1.1,v1.2.1,v1.2.2.1,()) aK) fun v3=>r0 bC aK av cf (IntKind.i64.wrap (bh+1)) ay az (z15 (aj,ak,()) (z0y v2 v3.1).1).1.1 (z15 (aj,ak,()) (z0y v2 v3.1).1).1.2.1)))else some ((aj,ak,()),()))
def y6w(n:Nat)(k:Nat)(bC:List (Q4))(aK:Int)(av:List (Q3))(cf:Int)(bh:Int)(ay:Int)(az:Int)(aj:Int)(ak:Int):Option ((Q4)×Unit) :=
  iter (fun r y=>yEN n (fun bC aK av cf bh ay az aj ak=>r ((bC,(aK,(av,(cf,(bh,()))))),(((ay,(az,())),((aj,(ak,())),())),()))) y.1.1 y.1.2.1 y.1.2.2.1 y.1.2.2.2.1 y.1.2.2.2.2.1 y.2.1.1.1 y.2.1.1.2.1 y.2.1.2.1.1 y.2.1.2.1.2.1) k ((bC,(aK,(av,(cf,(bh,()))))),(((ay,(az,())),((aj,(ak,())),())),()))
def yIr(n:Nat)(l:List (Q3))(v:List (Q4))(tick:Int):Option ((Q4)×Unit) :=
  (y6w n n (v) (tick) (l) ((↑l.length:Int)) ((0:Int)) ((0:Int)) ((0:Int)) ((0:Int)) ((0:Int)))
theorem yUi(n:Nat)(x:yPA.den):runF yRC (yMN n) Tryz.f167 yPA yRT x=yIr n x.1 x.2.1 x.2.2.1:=by kernel_rfl
def y8m(bC:List (Q4))(aK:Int)(av:List (Q3))(ay:Int)(az:Int)(bh:Int)(v1:Q3)(aj:Int)(ak:Int):Option (((Q4)×Unit)⊕(Int×Int)) :=
  (Option.bind (idx bC bh) fun v2=>(Option.bind (zR_M (v1.1,v1.2.1,v1.2.2.1,()) aK) fun v3=>(some (Sum.inr (((z15 (aj,ak,()) (z0y v2 v3.1).1).1.1),((z15 (aj,ak,()) (z0y v2 v3.1).1).1.2.1))))))
def yE0(bC:List (Q4))(aK:Int)(av:List (Q3))(ay:Int)(az:Int)(aj:Int)(ak:Int):Option ((Q4)×Unit) :=
  (some (((aj,ak,()),())))
theorem yCS(n:Nat)(hn:big≤n)(bC:List (Q4))(aK:Int)(av:List (Q3))(ay:Int)(az:Int)(aj:Int)(ak:Int)(hx:List.length (av) < lenMax):LeF some (yf (fun am aE ae=>y8m bC aK av ay az am aE ae.1 ae.2) (fun ae=>yE0 bC aK av ay az ae.1 ae.2) 0 (av) (aj,ak)) (y6w n n bC aK av (List.length (av):Int) 0 ay az aj ak):=by
  refine yn (f:=some) (W:=fun aM am ae=>y6w n aM bC aK av (List.length (av):Int) am ay az ae.1 ae.2) (body:=(fun am aE ae=>y8m bC aK av ay az am aE ae.1 ae.2)) (fin:=(fun ae=>yE0 bC aK av ay az ae.1 ae.2)) (fun aM am ae=>?_) hx (aj,ak) n (by unfold big at hn;unfold lenMax at hx;omega)
  show LeF _ _ (yEN n (y6w n aM) bC aK av (List.length (av):Int) am ay az ae.1 ae.2)
  exact y9 (yB fun v1=>(yB fun v2=>(yB fun v3=>(y8 rfl)))) (y1F (y8 rfl))
def yCs(l:List (Q3))(v:List (Q4))(tick:Int):Option ((Q4)×Unit) :=
  (bif decide (List.length (l) < lenMax)then yf (fun am aE ae=>y8m (v) (tick) (l) ((0:Int)) ((0:Int)) am aE ae.1 ae.2) (fun ae=>yE0 (v) (tick) (l) ((0:Int)) ((0:Int)) ae.1 ae.2) 0 (l) (((0:Int)),((0:Int)))else none)
theorem yPY(l:List (Q3))(v:List (Q4))(tick:Int)(y:(Q4)×Unit)(h:yCs l v tick=some y):∃ n,yIr n l v tick=some y :=
  ⟨big,LeF.top (show LeF some (yCs l v tick) (yIr big l v tick)from (fun (n:Nat) (hn:big≤n)=>show LeF some (yCs l v tick) (yIr n l v tick)from (yr fun hx=>by apply yCS n hn;exact hx)) big (Nat.le_refl _)) h⟩
def z0z_e:Entry:={ f:=167,args:=yPA,ress:=yRT,m:=fun x=>yCs x.1 x.2.1 x.2.2.1 }
theorem ySu:FnOK Tryz.prog z0z_e:=yJ (g:=yRC) (fn:=Tryz.f167) yE yI (y6 yPO (y6 yDS (y6 yBi eNil))) (by kernel_rfl) (by kernel_rfl) (by kernel_rfl) (fun x y h=>let ⟨n,hn⟩:=yPY x.1 x.2.1 x.2.2.1 y h;⟨yMN n,iNil,(yUi n x).trans hn⟩)
abbrev yO9:Ty:=.pair t3 (.pair t41 .unit)
abbrev yUv:Ty:=.pair t3 .unit
def yS4:G:={ T:=T,E:=[z06_e],muts:=[],fz:=[] }
def yYN:List (List Nat):=[[0,7,8,9],[0,6,7,8,9]]
def yMZ(n:Nat):Ann:={ keep:=yYN,fuel:=n,inl:=[],deep:=0 }
def yEL(n:Nat)(r0:Int→List Int→Int→Int→Option (Int×Unit))(r2:Int→Int→List Int→Int→Int→Option (Int×Unit))(bU:Int)(bD:Int)(bL:List Int)(bM:Int)(aN:Int):Option (Int×Unit) :=
  (bif bD != 0 then (bif bD==0 then none else r2 bD (bU.tmod bD) bL bM aN)else r0 bU bL bM (IntKind.i64.wrap (aN+1)))
def y6x(n:Nat)(r0:Int→List Int→Int→Int→Option (Int×Unit))(k:Nat)(bU:Int)(bD:Int)(bL:List Int)(bM:Int)(aN:Int):Option (Int×Unit) :=
  iter (fun r y=>yEL n r0 (fun bU bD bL bM aN=>r ((bU,(bD,(bL,(bM,(aN,()))))),((),()))) y.1.1 y.1.2.1 y.1.2.2.1 y.1.2.2.2.1 y.1.2.2.2.2.1) k ((bU,(bD,(bL,(bM,(aN,()))))),((),()))
def yEX(n:Nat)(r0:Int→List Int→Int→Int→Option (Int×Unit))(bS:Int)(ax:List Int)(aa:Int)(aq:Int):Option (Int×Unit) :=
  (bif decide (aq < aa)then (Option.bind (idx ax aq) fun v1=>(y6x n r0 n (bS) ((z06 v1).1) (ax) (aa) (aq)))else some (bS,()))
def y6a(n:Nat)(k:Nat)(bS:Int)(ax:List Int)(aa:Int)(aq:Int):Option (Int×Unit) :=
  iter (fun r y=>yEX n (fun bS ax aa aq=>r ((bS,(ax,(aa,(aq,())))),((),()))) y.1.1 y.1.2.1 y.1.2.2.1 y.1.2.2.2.1) k ((bS,(ax,(aa,(aq,())))),((),()))
def yJh(n:Nat)(n1:Int)(l:List Int):Option (Int×Unit) :=
  (y6a n n (n1) (l) ((↑l.length:Int)) ((0:Int)))
theorem yTA(n:Nat)(x:yO9.den):runF yS4 (yMZ n) Tryz.f186 yO9 yUv x=yJh n x.1 x.2.1:=by kernel_rfl
def yAf(bL:List Int)(bM:Int)(aN:Int)(bU:Int)(bD:Int):Option (((Int×Unit)⊕(Int))⊕(Int×Int)) :=
  (bif bD != 0 then (bif bD==0 then none else (some (Sum.inr ((bD),(bU.tmod bD)))))else (some (Sum.inl (Sum.inr (bU)))))
theorem yCd(n:Nat)(hn:big≤n)(r0:Int→List Int→Int→Int→Option (Int×Unit))(bL:List Int)(bM:Int)(aN:Int)(bU:Int)(bD:Int):LeF (elim some fun (ae:(Int))=>r0 ae bL bM (IntKind.i64.wrap (aN+1))) (y8Q (fun ae=>yAf bL bM aN ae.1 ae.2) wMax (bU,bD)) (y6x n r0 n bU bD bL bM aN):=by
  refine yE6 (f:=(elim some fun (ae:(Int))=>r0 ae bL bM (IntKind.i64.wrap (aN+1)))) (W:=fun aM ae=>y6x n r0 aM ae.1 ae.2 bL bM aN) (body:=(fun ae=>yAf bL bM aN ae.1 ae.2)) (fun aM ae=>?_) wMax n (bU,bD) (by unfold big at hn;unfold wMax;omega)
  show LeF _ _ (yEL n r0 (y6x n r0 aM) ae.1 ae.2 bL bM aN)
  exact (y9 (y9 y1w (y8 rfl)) (y8 rfl))
def yBq(ax:List Int)(aq:Int)(v1:Int)(bS:Int):Option ((Int×Unit)⊕(Int)) :=
  (y8Q (fun ae=>yAf (ax) ((↑ax.length:Int)) (aq) ae.1 ae.2) wMax ((bS),((z06 v1).1)))
def yIB(ax:List Int)(bS:Int):Option (Int×Unit) :=
  (some ((bS,())))
theorem yD4(n:Nat)(hn:big≤n)(ax:List Int)(bS:Int)(hx:List.length (ax) < lenMax):LeF some (yf (fun am aE ae=>yBq ax am aE ae) (fun ae=>yIB ax ae) 0 (ax) bS) (y6a n n bS ax (List.length (ax):Int) 0):=by
  refine yn (f:=some) (W:=fun aM am ae=>y6a n aM ae ax (List.length (ax):Int) am) (body:=(fun am aE ae=>yBq ax am aE ae)) (fin:=(fun ae=>yIB ax ae)) (fun aM am ae=>?_) hx bS n (by unfold big at hn;unfold lenMax at hx;omega)
  show LeF _ _ (yEX n (y6a n aM) ae ax (List.length (ax):Int) am)
  exact y9 (yB fun v1=>(by apply yCd n hn)) (y1F (y8 rfl))
def yAA(n1:Int)(l:List Int):Option (Int×Unit) :=
  (bif decide (List.length (l) < lenMax)then yf (fun am aE ae=>yBq (l) am aE ae) (fun ae=>yIB (l) ae) 0 (l) (n1)else none)
theorem yNs(n1:Int)(l:List Int)(y:Int×Unit)(h:yAA n1 l=some y):∃ n,yJh n n1 l=some y :=
  ⟨big,LeF.top (show LeF some (yAA n1 l) (yJh big n1 l)from (fun (n:Nat) (hn:big≤n)=>show LeF some (yAA n1 l) (yJh n n1 l)from (yr fun hx=>by apply yD4 n hn;exact hx)) big (Nat.le_refl _)) h⟩
def z0H_e:Entry:={ f:=186,args:=yO9,ress:=yUv,m:=fun x=>yAA x.1 x.2.1 }
theorem yLe:FnOK Tryz.prog z0H_e:=yJ (g:=yS4) (fn:=Tryz.f186) yE yI (y6 yAp eNil) (by kernel_rfl) (by kernel_rfl) (by kernel_rfl) (fun x y h=>let ⟨n,hn⟩:=yNs x.1 x.2.1 y h;⟨yMZ n,iNil,(yTA n x).trans hn⟩)
abbrev yOL:Ty:=.pair t55 (.pair (.ref t60) .unit)
abbrev yRX:Ty:=.pair t57 .unit
def yTm:G:={ T:=T,E:=[zR_e,zx_e,z0Z_e,z15_e],muts:=[],fz:=[] }
def yZK:List (List Nat):=[]
def yLH(n:Nat):Ann:={ keep:=yZK,fuel:=n,inl:=[il124,il195],deep:=3 }
def yCP(n:Nat)(r0:Q1→List (Q4)→List Nat→Int→Int→Q3→Q1→Q3→Q4→Q1→Q1→Int→Int→Int→Int→Q3→Q1→Q3→Q4→Q1→Q1→Option ((Q4)×Unit))(j8:Q1)(j9:List (Q4))(j10:Int)(j11:Nat)(j12:List Nat)(j13:Int)(j14:Int)(j15:Q3)(j16:Q1)(j17:Q3)(j18:Q4)(j19:Q1)(j20:Q1)(j21:Int)(j22:Int)(j23:Int)(j24:Int)(j25:Q3)(j26:Q1)(j27:Q3)(j28:Q4)(j29:Q1)(j30:Q1):Option ((Q4)×Unit) :=
  (bif decide ((↑j9.length:Int) > 0)then (Option.bind (idx j9 (0:Int)) fun v31=>(bif decide (v31.1≤j10)then r0 j8 j9 j12 j13 (IntKind.i64.wrap (j14+1)) j15 j16 j17 j18 j19 j20 j21 j22 j23 j24 j25 j26 j27 j28 j29 j30 else (Option.bind (y0M Go.FloatKind.f32 (y0u Go.BinOp.mul Go.FloatKind.f32 j11 (nat_lit 1098907648)) IntKind.i64) fun v36=>(Option.bind (zR_M j17 (IntKind.i64.wrap (j8.2.1+j10))) fun v37=>r0 j8 j9 j12 j13 (IntKind.i64.wrap (j14+1)) j15 j16 j17 j18 j19 j20 j21 j22 (z15 (j23,j24,()) (z0Z (zx v37.1).1 v36).1).1.1 (z15 (j23,j24,()) (z0Z (zx v37.1).1 v36).1).1.2.1 j25 j26 j27 j28 j29 j30))))else (Option.bind (y0M Go.FloatKind.f32 (y0u Go.BinOp.mul Go.FloatKind.f32 j11 (nat_lit 1098907648)) IntKind.i64) fun v38=>(Option.bind (zR_M j17 (IntKind.i64.wrap (j8.2.1+j10))) fun v39=>r0 j8 j9 j12 j13 (IntKind.i64.wrap (j14+1)) j15 j16 j17 j18 j19 j20 j21 j22 (z15 (j23,j24,()) (z0Z (zx v39.1).1 v38).1).1.1 (z15 (j23,j24,()) (z0Z (zx v39.1).1 v38).1).1.2.1 j25 j26 j27 j28 j29 j30)))
def yJU(n:Nat)(r0:Q1→List (Q4)→List Nat→Int→Int→Q3→Q1→Q3→Q4→Q1→Q1→Int→Int→Int→Int→Q3→Q1→Q3→Q4→Q1→Q1→Option ((Q4)×Unit))(r2:Q1→List (Q4)→Int→Nat→List Nat→Int→Int→Q3→Q1→Q3→Q4→Q1→Q1→Int→Int→Int→Int→Q3→Q1→Q3→Q4→Q1→Q1→Option ((Q4)×Unit))(bj:Q1)(ar:List (Q4))(bg:Int)(bl:Nat)(aN:List Nat)(aP:Int)(aQ:Int)(aF:Q3)(aG:Q1)(aV:Q3)(bN:Q4)(bO:Q1)(bt:Q1)(aW:Int)(aX:Int)(aY:Int)(aZ:Int)(bn:Q3)(bp:Q1)(bK:Q3)(cm:Q4)(cn:Q1)(bP:Q1):Option ((Q4)×Unit) :=
  (bif decide ((↑ar.length:Int) > 0)then (Option.bind (idx ar (0:Int)) fun v3=>(bif decide (v3.2.1≤bg)then (bif decide ((0:Int)≤1) && decide ((1:Int)≤(↑ar.length:Int))then r2 bj (List.drop (Int.toNat (1:Int)) ar) bg bl aN aP aQ aF aG aV bN bO bt aW aX aY aZ bn bp bK cm cn bP else none)else (yCP n r0 (bj) (ar) (bg) (bl) (aN) (aP) (aQ) (aF) (aG) (aV) (bN) (bO) (bt) (aW) (aX) (aY) (aZ) (bn) (bp) (bK) (cm) (cn) (bP))))else (yCP n r0 (bj) (ar) (bg) (bl) (aN) (aP) (aQ) (aF) (aG) (aV) (bN) (bO) (bt) (aW) (aX) (aY) (aZ) (bn) (bp) (bK) (cm) (cn) (bP)))
def yJ3(n:Nat)(r0:Q1→List (Q4)→List Nat→Int→Int→Q3→Q1→Q3→Q4→Q1→Q1→Int→Int→Int→Int→Q3→Q1→Q3→Q4→Q1→Q1→Option ((Q4)×Unit))(k:Nat)(bj:Q1)(ar:List (Q4))(bg:Int)(bl:Nat)(aN:List Nat)(aP:Int)(aQ:Int)(aF:Q3)(aG:Q1)(aV:Q3)(bN:Q4)(bO:Q1)(bt:Q1)(aW:Int)(aX:Int)(aY:Int)(aZ:Int)(bn:Q3)(bp:Q1)(bK:Q3)(cm:Q4)(cn:Q1)(bP:Q1):Option ((Q4)×Unit) :=
  iter (fun r y=>yJU n r0 (fun bj ar bg bl aN aP aQ aF aG aV bN bO bt aW aX aY aZ bn bp bK cm cn bP=>r ((bj,(ar,(bg,(bl,(aN,(aP,(aQ,()))))))),(((aF,(aG,(aV,(bN,(bO,((bt,()),())))))),((aW,(aX,())),((aY,(aZ,())),()))),(bn,(bp,(bK,(cm,(cn,((bP,()),()))))))))) y.1.1 y.1.2.1 y.1.2.2.1 y.1.2.2.2.1 y.1.2.2.2.2.1 y.1.2.2.2.2.2.1 y.1.2.2.2.2.2.2.1 y.2.1.1.1 y.2.1.1.2.1 y.2.1.1.2.2.1 y.2.1.1.2.2.2.1 y.2.1.1.2.2.2.2.1 y.2.1.1.2.2.2.2.2.1.1 y.2.1.2.1.1 y.2.1.2.1.2.1 y.2.1.2.2.1.1 y.2.1.2.2.1.2.1 y.2.2.1 y.2.2.2.1 y.2.2.2.2.1 y.2.2.2.2.2.1 y.2.2.2.2.2.2.1 y.2.2.2.2.2.2.2.1.1) k ((bj,(ar,(bg,(bl,(aN,(aP,(aQ,()))))))),(((aF,(aG,(aV,(bN,(bO,((bt,()),())))))),((aW,(aX,())),((aY,(aZ,())),()))),(bn,(bp,(bK,(cm,(cn,((bP,()),()))))))))
def yIf(n:Nat)(r0:Q1→List (Q4)→List Nat→Int→Int→Q3→Q1→Q3→Q4→Q1→Q1→Int→Int→Int→Int→Q3→Q1→Q3→Q4→Q1→Q1→Option ((Q4)×Unit))(aR:Q1)(aJ:List (Q4))(aq:List Nat)(af:Int)(av:Int)(aS:Q3)(aT:Q1)(br:Q3)(cc:Q4)(cd:Q1)(bE:Q1)(aj:Int)(ak:Int)(be:Int)(bf:Int)(bA:Q3)(bB:Q1)(cb:Q3)(cw:Q4)(cx:Q1)(ce:Q1):Option ((Q4)×Unit) :=
  (bif decide (av < af)then (Option.bind (idx aq av) fun v1=>(yJ3 n r0 n (aR) (aJ) (av) (v1) (aq) (af) (av) (aS) (aT) (br) (cc) (cd) (bE) (aj) (ak) (be) (bf) (bA) (bB) (cb) (cw) (cx) (ce)))else some ((be,bf,()),()))
def yJy(n:Nat)(k:Nat)(aR:Q1)(aJ:List (Q4))(aq:List Nat)(af:Int)(av:Int)(aS:Q3)(aT:Q1)(br:Q3)(cc:Q4)(cd:Q1)(bE:Q1)(aj:Int)(ak:Int)(be:Int)(bf:Int)(bA:Q3)(bB:Q1)(cb:Q3)(cw:Q4)(cx:Q1)(ce:Q1):Option ((Q4)×Unit) :=
  iter (fun r y=>yIf n (fun aR aJ aq af av aS aT br cc cd bE aj ak be bf bA bB cb cw cx ce=>r ((aR,(aJ,(aq,(af,(av,()))))),(((aS,(aT,(br,(cc,(cd,((bE,()),())))))),((aj,(ak,())),((be,(bf,())),()))),(bA,(bB,(cb,(cw,(cx,((ce,()),()))))))))) y.1.1 y.1.2.1 y.1.2.2.1 y.1.2.2.2.1 y.1.2.2.2.2.1 y.2.1.1.1 y.2.1.1.2.1 y.2.1.1.2.2.1 y.2.1.1.2.2.2.1 y.2.1.1.2.2.2.2.1 y.2.1.1.2.2.2.2.2.1.1 y.2.1.2.1.1 y.2.1.2.1.2.1 y.2.1.2.2.1.1 y.2.1.2.2.1.2.1 y.2.2.1 y.2.2.2.1 y.2.2.2.2.1 y.2.2.2.2.2.1 y.2.2.2.2.2.2.1 y.2.2.2.2.2.2.2.1.1) k ((aR,(aJ,(aq,(af,(av,()))))),(((aS,(aT,(br,(cc,(cd,((bE,()),())))))),((aj,(ak,())),((be,(bf,())),()))),(bA,(bB,(cb,(cw,(cx,((ce,()),()))))))))
def yMi(n:Nat)(c:Q3)(p1:Q1):Option ((Q4)×Unit) :=
  (yJy n n (p1) (p1.2.2.2.1) (p1.2.2.1) ((↑p1.2.2.1.length:Int)) ((0:Int)) (c) (p1) (c) (((0:Int),(0:Int),())) (p1) (p1) ((0:Int)) ((0:Int)) ((0:Int)) ((0:Int)) (c) (p1) (c) (((0:Int),(0:Int),())) (p1) (p1))
theorem yTU(n:Nat)(x:yOL.den):runF yTm (yLH n) Tryz.f188 yOL yRX x=yMi n x.1 x.2.1:=by kernel_rfl
def yNw(c:Q3)(p1:Q1):Option ((Q4)×Unit):=yMi 1000 c p1
theorem yO2(c:Q3)(p1:Q1)(y:(Q4)×Unit)(h:yNw c p1=some y):∃ n,yMi n c p1=some y:=⟨1000,h⟩
def z0K_e:Entry:={ f:=188,args:=yOL,ress:=yRX,m:=fun x=>yNw x.1 x.2.1 }
theorem yVO:FnOK Tryz.prog z0K_e:=yJ (g:=yTm) (fn:=Tryz.f188) yE yI (y6 yPO (y6 yPs (y6 y8y (y6 yBi eNil)))) (by kernel_rfl) (by kernel_rfl) (by kernel_rfl) (fun x y h=>let ⟨n,hn⟩:=yO2 x.1 x.2.1 y h;⟨yLH n,(y4R y5Y (y4R y5J iNil)),(yTU n x).trans hn⟩)
abbrev zS_a:Ty:=.pair t183 (.pair t3 (.pair t3 .unit))
abbrev zS_r:Ty:=.pair t57 .unit
class tide_matrix_expand_Rec where
  f:zS_a.den→Option zS_r.den
section
variable [tide_matrix_expand_Rec]
def y46:Entry:={ f:=194,args:=zS_a,ress:=zS_r,m:=fun x=>tide_matrix_expand_Rec.f x }
def zS_g:G:={ T:=T,E:=[y46,z0y_e,z0Z_e,z15_e],muts:=[],fz:=[] }
def zS_k:List (List Nat):=[[0,1,2,6,7,8,18,19]]
def yVZ(n:Nat):Ann:={ keep:=zS_k,fuel:=n,inl:=[],deep:=0 }
def yHD(n:Nat)(r0:List (List (Q4))→Int→Int→Int→Int→Int→Int→Int→Int→Int→Option ((Q4)×Unit))(b9:List (List (Q4)))(aL:Int)(aC:Int)(aH:Int)(b7:Int)(bc:Int)(ay:Int)(az:Int)(aj:Int)(ak:Int):Option ((Q4)×Unit) :=
  (bif decide (bc < b7)then (bif decide (bc < 0)then none else (bif y3b IntKind.i64 Go.BinOp.and (aC.fdiv ((2:Int) ^ Min.min bc.toNat IntKind.i64.bits)) (1:Int)==1 then r0 b9 aL aC aH b7 (IntKind.i64.wrap (bc+1)) ay az aj ak else (Option.bind (idx b9 aL) fun v1=>(Option.bind (idx v1 bc) fun v2=>(bif decide (bc < 0)then none else (Option.bind (tide_matrix_expand_Rec.f (b9,IntKind.i64.wrap (aL+1),y3b IntKind.i64 Go.BinOp.or aC (IntKind.i64.wrap ((1:Int) * 2 ^ Min.min bc.toNat IntKind.i64.bits)),())) fun v3=>r0 b9 aL aC (IntKind.i64.wrap ((0:Int) - aH)) b7 (IntKind.i64.wrap (bc+1)) ay az (z15 (aj,ak,()) (z0Z (z0y v2 v3.1).1 aH).1).1.1 (z15 (aj,ak,()) (z0Z (z0y v2 v3.1).1 aH).1).1.2.1))))))else some ((aj,ak,()),()))
def y9f(n:Nat)(k:Nat)(b9:List (List (Q4)))(aL:Int)(aC:Int)(aH:Int)(b7:Int)(bc:Int)(ay:Int)(az:Int)(aj:Int)(ak:Int):Option ((Q4)×Unit) :=
  iter (fun r y=>yHD n (fun b9 aL aC aH b7 bc ay az aj ak=>r ((b9,(aL,(aC,(aH,(b7,(bc,())))))),(((ay,(az,())),((aj,(ak,())),())),()))) y.1.1 y.1.2.1 y.1.2.2.1 y.1.2.2.2.1 y.1.2.2.2.2.1 y.1.2.2.2.2.2.1 y.2.1.1.1 y.2.1.1.2.1 y.2.1.2.1.1 y.2.1.2.1.2.1) k ((b9,(aL,(aC,(aH,(b7,(bc,())))))),(((ay,(az,())),((aj,(ak,())),())),()))
def zS_m(n:Nat)(m:List (List (Q4)))(row:Int)(used:Int):Option ((Q4)×Unit) :=
  (bif row==(↑m.length:Int)then some (((1:Int),(0:Int),()),())else (y9f n n (m) (row) (used) ((1:Int)) ((↑m.length:Int)) ((0:Int)) ((0:Int)) ((0:Int)) ((0:Int)) ((0:Int))))
theorem yYy(n:Nat)(x:zS_a.den):runF zS_g (yVZ n) Tryz.f194 zS_a zS_r x=zS_m n x.1 x.2.1 x.2.2.1:=by kernel_rfl
def yNR(b9:List (List (Q4)))(aL:Int)(aC:Int)(b7:Int)(ay:Int)(az:Int)(bc:Int)(aH:Int)(aj:Int)(ak:Int):Option (((Q4)×Unit)⊕(Int×Int×Int)) :=
  (bif decide (bc < 0)then none else (bif y3b IntKind.i64 Go.BinOp.and (aC.fdiv ((2:Int) ^ Min.min bc.toNat IntKind.i64.bits)) (1:Int)==1 then (some (Sum.inr ((aH),(aj),(ak))))else (Option.bind (idx b9 aL) fun v1=>(Option.bind (idx v1 bc) fun v2=>(bif decide (bc < 0)then none else (Option.bind (tide_matrix_expand_Rec.f (b9,IntKind.i64.wrap (aL+1),y3b IntKind.i64 Go.BinOp.or aC (IntKind.i64.wrap ((1:Int) * 2 ^ Min.min bc.toNat IntKind.i64.bits)),())) fun v3=>(some (Sum.inr ((IntKind.i64.wrap ((0:Int) - aH)),((z15 (aj,ak,()) (z0Z (z0y v2 v3.1).1 aH).1).1.1),((z15 (aj,ak,()) (z0Z (z0y v2 v3.1).1 aH).1).1.2.1))))))))))
def yNt(b9:List (List (Q4)))(aL:Int)(aC:Int)(b7:Int)(ay:Int)(az:Int)(aH:Int)(aj:Int)(ak:Int):Option ((Q4)×Unit) :=
  (some (((aj,ak,()),())))
theorem yFM(n:Nat)(hn:big≤n)(b9:List (List (Q4)))(aL:Int)(aC:Int)(b7:Int)(ay:Int)(az:Int)(aH:Int)(aj:Int)(ak:Int)(hx:(b7)≤9223372036854775807):LeF some (y2e (fun am ae=>yNR b9 aL aC b7 ay az am ae.1 ae.2.1 ae.2.2) (fun ae=>yNt b9 aL aC b7 ay az ae.1 ae.2.1 ae.2.2) ((b7) - 0).toNat 0 (aH,aj,ak)) (y9f n n b9 aL aC aH b7 0 ay az aj ak):=by
  refine y6l (f:=some) (W:=fun aM am ae=>y9f n aM b9 aL aC ae.1 b7 am ay az ae.2.1 ae.2.2) (body:=(fun am ae=>yNR b9 aL aC b7 ay az am ae.1 ae.2.1 ae.2.2)) (fin:=(fun ae=>yNt b9 aL aC b7 ay az ae.1 ae.2.1 ae.2.2)) (fun aM am ae=>?_) hx (aH,aj,ak) n 0 (by decide) (by unfold big at hn;omega)
  show LeF _ _ (yHD n (y9f n aM) b9 aL aC ae.1 b7 am ay az ae.2.1 ae.2.2)
  exact y9 (y9 y1w (y9 (y8 rfl) (yB fun v1=>(yB fun v2=>(y9 y1w (yB fun v3=>(y8 rfl))))))) (y1F (y8 rfl))
def zS_M(m:List (List (Q4)))(row:Int)(used:Int):Option ((Q4)×Unit) :=
  (bif row==(↑m.length:Int)then (some ((((1:Int),(0:Int),()),())))else (bif decide (((↑m.length:Int))≤9223372036854775807)then y2e (fun am ae=>yNR (m) (row) (used) ((↑m.length:Int)) ((0:Int)) ((0:Int)) am ae.1 ae.2.1 ae.2.2) (fun ae=>yNt (m) (row) (used) ((↑m.length:Int)) ((0:Int)) ((0:Int)) ae.1 ae.2.1 ae.2.2) (((↑m.length:Int)) - 0).toNat 0 (((1:Int)),((0:Int)),((0:Int)))else none))
theorem yUf(m:List (List (Q4)))(row:Int)(used:Int)(y:(Q4)×Unit)(h:zS_M m row used=some y):∃ n,zS_m n m row used=some y :=
  ⟨big,LeF.top (show LeF some (zS_M m row used) (zS_m big m row used)from (fun (n:Nat) (hn:big≤n)=>show LeF some (zS_M m row used) (zS_m n m row used)from (y9 (y8 rfl) (yr fun hx=>by apply yFM n hn;exact hx))) big (Nat.le_refl _)) h⟩
end
def y08(d:Nat):zS_a.den→Option zS_r.den:=Nat.rec (motive:=fun _=>zS_a.den→Option zS_r.den) (fun _=>none) (fun _ ih x=>@zS_M ⟨ih⟩ x.1 x.2.1 x.2.2.1) d
def y0h(d:Nat):Entry:={ f:=194,args:=zS_a,ress:=zS_r,m:=y08 d }
theorem y1i:(d:Nat)→FnOK Tryz.prog (y0h d)
  | 0=>FnOK.none (fn:=Tryz.f194) (by kernel_rfl) (by kernel_rfl) (by kernel_rfl)
  | d+1=>yJ (g:=@zS_g ⟨y08 d⟩) (fn:=Tryz.f194) (e:=y0h (d+1)) yE yI (y6 (y1i d) (y6 yDS (y6 y8y (y6 yBi eNil)))) (by kernel_rfl) (by kernel_rfl) (by kernel_rfl) (fun x y h=>let ⟨n,hn⟩:=@yUf ⟨y08 d⟩ x.1 x.2.1 x.2.2.1 y h;⟨yVZ n,iNil,(@yYy ⟨y08 d⟩ n x).trans hn⟩)
def zS_e:Entry:=y0h 8
theorem yXQ:FnOK Tryz.prog zS_e:=y1i 8
abbrev zW_a:Ty:=.pair t61 .unit
abbrev zW_r:Ty:=.pair t28 .unit
def zW_g:G:={ T:=T,E:=[zY_e,z0c_e],muts:=[],fz:=[] }
def zW_k:List (List Nat):=[]
def yUI(n:Nat):Ann:={ keep:=zW_k,fuel:=n,inl:=[],deep:=0 }
def zW_m(n:Nat)(x1:Nat):Option (Int×Unit) :=
  (bif y00 Go.BinOp.neq Go.FloatKind.f32 (y0u Go.BinOp.sub Go.FloatKind.f32 x1 x1) (nat_lit 0)then some ((1:Int),())else (bif y00 Go.BinOp.lss Go.FloatKind.f32 x1 (nat_lit 3263168512)then some ((3:Int),())else (bif y00 Go.BinOp.gtr Go.FloatKind.f32 x1 (nat_lit 1115684864)then some ((3:Int),())else (Option.bind (zY_M x1) fun v2=>some ((z0c (y00 Go.BinOp.neq Go.FloatKind.f32 (y0x Go.FloatKind.f32 v2.1) (y0u Go.BinOp.mul Go.FloatKind.f32 x1 (nat_lit 1098907648))) (3:Int)).1,())))))
theorem yZT(n:Nat)(x:zW_a.den):runF zW_g (yUI n) Tryz.f197 zW_a zW_r x=zW_m n x.1:=by kernel_rfl
def zW_M(x1:Nat):Option (Int×Unit):=zW_m 0 x1
theorem yWo(x1:Nat)(y:Int×Unit)(h:zW_M x1=some y):∃ n,zW_m n x1=some y:=⟨0,h⟩
def zW_e:Entry:={ f:=197,args:=zW_a,ress:=zW_r,m:=fun x=>zW_M x.1 }
theorem ySf:FnOK Tryz.prog zW_e:=yJ (g:=zW_g) (fn:=Tryz.f197) yE yI (y6 yXy (y6 yAZ eNil)) (by kernel_rfl) (by kernel_rfl) (by kernel_rfl) (fun x y h=>let ⟨n,hn⟩:=yWo x.1 y h;⟨yUI n,iNil,(yZT n x).trans hn⟩)
abbrev yQ1:Ty:=.pair t3 (.pair t3 (.pair t3 .unit))
abbrev yX1:Ty:=.pair t28 .unit
def yUT:G:={ T:=T,E:=[z0c_e],muts:=[],fz:=[] }
def yZQ:List (List Nat):=[]
def yMH(n:Nat):Ann:={ keep:=yZQ,fuel:=n,inl:=[],deep:=0 }
def yK2(n:Nat)(n1:Int)(least:Int)(most:Int):Option (Int×Unit) :=
  (bif decide (n1 < least)then some ((z0c Bool.true (3:Int)).1,())else some ((z0c (decide (n1 > most)) (3:Int)).1,()))
theorem yTO(n:Nat)(x:yQ1.den):runF yUT (yMH n) Tryz.f201 yQ1 yX1 x=yK2 n x.1 x.2.1 x.2.2.1:=by kernel_rfl
def z09(n1:Int)(least:Int)(most:Int):(Int×Unit) :=
  (bif decide (n1 < least)then ((z0c Bool.true (3:Int)).1,())else ((z0c (decide (n1 > most)) (3:Int)).1,()))
abbrev yRb (n1:Int) (least:Int) (most:Int):Option (Int×Unit):=some (z09 n1 least most)
theorem yO8(n1:Int)(least:Int)(most:Int)(y:Int×Unit)(h:yRb n1 least most=some y):∃ n,yK2 n n1 least most=some y :=
  ⟨0,by rw[← h];show yK2 0 n1 least most=some (z09 n1 least most);unfold yK2 z09;first|rfl|(simp only[yG];done)|(simp only[yG];rfl)⟩
def z09_e:Entry:={ f:=201,args:=yQ1,ress:=yX1,m:=fun x=>yRb x.1 x.2.1 x.2.2.1 }
theorem yQx:FnOK Tryz.prog z09_e:=yJ (g:=yUT) (fn:=Tryz.f201) yE yI (y6 yAZ eNil) (by kernel_rfl) (by kernel_rfl) (by kernel_rfl) (fun x y h=>let ⟨n,hn⟩:=yO8 x.1 x.2.1 x.2.2.1 y h;⟨yMH n,iNil,(yTO n x).trans hn⟩)
abbrev zB_a:Ty:=.pair t58 (.pair t263 .unit)
abbrev zB_r:Ty:=.pair t4 .unit
def zB_g:G:={ T:=T,E:=[zD_e],muts:=[],fz:=[] }
def zB_k:List (List Nat):=[]
def yR3(n:Nat):Ann:={ keep:=zB_k,fuel:=n,inl:=[],deep:=0 }
def zB_m(n:Nat)(s:List (Q4))(f:(Q4)×Unit→Option (Bool×Unit)):Option (Bool×Unit) :=
  (Option.bind (zD_M s f) fun v0=>some (decide (v0.1 ≥ 0),()))
theorem yXv(n:Nat)(x:zB_a.den):runF zB_g (yR3 n) Tryz.f204 zB_a zB_r x=zB_m n x.1 x.2.1:=by kernel_rfl
def zB_M(s:List (Q4))(f:(Q4)×Unit→Option (Bool×Unit)):Option (Bool×Unit):=zB_m 0 s f
theorem yUD(s:List (Q4))(f:(Q4)×Unit→Option (Bool×Unit))(y:Bool×Unit)(h:zB_M s f=some y):∃ n,zB_m n s f=some y:=⟨0,h⟩
def zB_e:Entry:={ f:=204,args:=zB_a,ress:=zB_r,m:=fun x=>zB_M x.1 x.2.1 }
theorem yY1:FnOK Tryz.prog zB_e:=yJ (g:=zB_g) (fn:=Tryz.f204) yE yI (y6 yXW eNil) (by kernel_rfl) (by kernel_rfl) (by kernel_rfl) (fun x y h=>let ⟨n,hn⟩:=yUD x.1 x.2.1 y h;⟨yR3 n,iNil,(yXv n x).trans hn⟩)
abbrev zC_a:Ty:=.pair t35 (.pair t265 .unit)
abbrev zC_r:Ty:=.pair t4 .unit
def zC_g:G:={ T:=T,E:=[zE_e],muts:=[],fz:=[] }
def zC_k:List (List Nat):=[]
def yVT(n:Nat):Ann:={ keep:=zC_k,fuel:=n,inl:=[],deep:=0 }
def zC_m(n:Nat)(s:List Nat)(f:Nat×Unit→Option (Bool×Unit)):Option (Bool×Unit) :=
  (Option.bind (zE_M s f) fun v0=>some (decide (v0.1 ≥ 0),()))
theorem yZi(n:Nat)(x:zC_a.den):runF zC_g (yVT n) Tryz.f207 zC_a zC_r x=zC_m n x.1 x.2.1:=by kernel_rfl
def zC_M(s:List Nat)(f:Nat×Unit→Option (Bool×Unit)):Option (Bool×Unit):=zC_m 0 s f
theorem ySV(s:List Nat)(f:Nat×Unit→Option (Bool×Unit))(y:Bool×Unit)(h:zC_M s f=some y):∃ n,zC_m n s f=some y:=⟨0,h⟩
def zC_e:Entry:={ f:=207,args:=zC_a,ress:=zC_r,m:=fun x=>zC_M x.1 x.2.1 }
theorem yYe:FnOK Tryz.prog zC_e:=yJ (g:=zC_g) (fn:=Tryz.f207) yE yI (y6 yXk eNil) (by kernel_rfl) (by kernel_rfl) (by kernel_rfl) (fun x y h=>let ⟨n,hn⟩:=ySV x.1 x.2.1 y h;⟨yVT n,iNil,(yZi n x).trans hn⟩)
abbrev zg_a:Ty:=.pair t63 .unit
abbrev zg_r:Ty:=.pair t28 .unit
def zg_g:G:={ T:=T,E:=[z0c_e],muts:=[],fz:=[] }
def zg_k:List (List Nat):=[]
def yUr(n:Nat):Ann:={ keep:=zg_k,fuel:=n,inl:=[],deep:=0 }
def zg_m(n:Nat)(s:Q4):Option (Int×Unit) :=
  (bif decide (s.1 < 0)then some ((z0c Bool.true (14:Int)).1,())else (bif decide (s.1 ≥ s.2.1)then some ((z0c Bool.true (14:Int)).1,())else some ((z0c (decide (s.2.1 > 100000)) (14:Int)).1,())))
theorem yZk(n:Nat)(x:zg_a.den):runF zg_g (yUr n) Tryz.f225 zg_a zg_r x=zg_m n x.1:=by kernel_rfl
def zg(s:Q4):(Int×Unit) :=
  (bif decide (s.1 < 0)then ((z0c Bool.true (14:Int)).1,())else (bif decide (s.1 ≥ s.2.1)then ((z0c Bool.true (14:Int)).1,())else ((z0c (decide (s.2.1 > 100000)) (14:Int)).1,())))
abbrev zg_M (s:Q4):Option (Int×Unit):=some (zg s)
theorem yRi(s:Q4)(y:Int×Unit)(h:zg_M s=some y):∃ n,zg_m n s=some y :=
  ⟨0,by rw[← h];show zg_m 0 s=some (zg s);unfold zg_m zg;first|rfl|(simp only[yG];done)|(simp only[yG];rfl)⟩
def zg_e:Entry:={ f:=225,args:=zg_a,ress:=zg_r,m:=fun x=>zg_M x.1 }
theorem yYt:FnOK Tryz.prog zg_e:=yJ (g:=zg_g) (fn:=Tryz.f225) yE yI (y6 yAZ eNil) (by kernel_rfl) (by kernel_rfl) (by kernel_rfl) (fun x y h=>let ⟨n,hn⟩:=yRi x.1 y h;⟨yUr n,iNil,(yZk n x).trans hn⟩)
end
end Go.Tw
end
