import Derived.Test.YtpcnkpbpcebokaaGreatDoorBT
import Derived.Test.YtpcnkpbpcebokaaGreatDoorB0
import Derived.Test.YtpcnkpbpcebokaaGreatDoorBS
import Derived.Test.YtpcnkpbpcebokaaGreatDoorLQ
set_option linter.all false
section
set_option maxRecDepth 1000000
namespace Go.Tw
open Go.Vx Go.Vx.B Go.Proofs
noncomputable section
abbrev ySk:Ty:=.pair t41 .unit
abbrev yVk:Ty:=.pair t3 .unit
def yUb:G:={ T:=T,E:=[],muts:=[],fz:=[] }
def ybW:List (List Nat):=[[0,3]]
def yMu(n:Nat):Ann:={ keep:=ybW,fuel:=n,inl:=[],deep:=0 }
def yFB(n:Nat)(r0:List Int→Int→Option (Int×Unit))(aj:List Int)(aT:Int):Option (Int×Unit) :=
  (bif decide (aT < (↑aj.length:Int))then (Option.bind (idx aj aT) fun v1=>(bif v1 != 0 then (Option.bind (idx aj aT) fun v2=>some (v2,()))else r0 aj (IntKind.i64.wrap (aT+1))))else some ((0:Int),()))
def y6n(n:Nat)(k:Nat)(aj:List Int)(aT:Int):Option (Int×Unit) :=
  iter (fun r y=>yFB n (fun aj aT=>r ((aj,(aT,())),((),()))) y.1.1 y.1.2.1) k ((aj,(aT,())),((),()))
def yLh(n:Nat)(l:List Int):Option (Int×Unit) :=
  (y6n n n (l) ((0:Int)))
theorem yVV(n:Nat)(x:ySk.den):runF yUb (yMu n) Tryz.f24 ySk yVk x=yLh n x.1:=by kernel_rfl
def yCA(aj:List Int)(aT:Int)(v1:Int):Option ((Int×Unit)⊕Unit) :=
  (bif v1 != 0 then (Option.bind (idx aj aT) fun v2=>(some (Sum.inl ((v2,())))))else (some (Sum.inr ())))
def yCR(aj:List Int):Option (Int×Unit) :=
  (some (((0:Int),())))
theorem yCc(n:Nat)(hn:big≤n)(aj:List Int)(hx:List.length (aj) < lenMax):LeF some (yR (fun ac az a7=>yCA aj ac az) (fun a7=>yCR aj) 0 (aj) ()) (y6n n n aj 0):=by
  refine yU (f:=some) (W:=fun aE ac a7=>y6n n aE aj ac) (body:=(fun ac az a7=>yCA aj ac az)) (fin:=(fun a7=>yCR aj)) (fun aE ac a7=>?_) hx () n (by unfold big at hn;unfold lenMax at hx;omega)
  show LeF _ _ (yFB n (y6n n aE) aj ac)
  exact yA (yE fun v1=>(yA (yE fun v2=>(y6 rfl)) (y6 rfl))) (y0C (y6 rfl))
def y7A(l:List Int):Option (Int×Unit) :=
  (bif decide (List.length (l) < lenMax)then yR (fun ac az a7=>yCA (l) ac az) (fun a7=>yCR (l)) 0 (l) ()else none)
theorem yRL(l:List Int)(y:Int×Unit)(h:y7A l=some y):∃ n,yLh n l=some y :=
  ⟨big,LeF.top (show LeF some (y7A l) (yLh big l)from (fun (n:Nat) (hn:big≤n)=>show LeF some (y7A l) (yLh n l)from (yV fun hx=>by apply yCc n hn;exact hx)) big (Nat.le_refl _)) h⟩
def z0a_e:Entry:={ f:=24,args:=ySk,ress:=yVk,m:=fun x=>y7A x.1 }
theorem yE5:FnOK Tryz.prog z0a_e:=yJ (g:=yUb) (fn:=Tryz.f24) yB yI eNil (by kernel_rfl) (by kernel_rfl) (by kernel_rfl) (fun x y h=>let ⟨n,hn⟩:=yRL x.1 y h;⟨yMu n,iNil,(yVV n x).trans hn⟩)
abbrev zY_a:Ty:=.pair t23 (.pair t23 .unit)
abbrev zY_r:Ty:=.pair t4 .unit
def zY_g:G:={ T:=T,E:=[],muts:=[],fz:=[] }
def zY_k:List (List Nat):=[[0,1,5]]
def yYE(n:Nat):Ann:={ keep:=zY_k,fuel:=n,inl:=[],deep:=0 }
def yIN(n:Nat)(r0:List (Q4)→List (Q4)→Int→Option (Bool×Unit))(am:List (Q4))(au:List (Q4))(ax:Int):Option (Bool×Unit) :=
  (bif decide (ax < (↑am.length:Int))then (Option.bind (idx am ax) fun v1=>(Option.bind (idx au ax) fun v2=>(bif !eqV ((Ty.int IntKind.i64).pair ((Ty.int IntKind.i64).pair Ty.unit)) v1 v2 then some (Bool.false,())else r0 am au (IntKind.i64.wrap (ax+1)))))else some (Bool.true,()))
def y9P(n:Nat)(k:Nat)(am:List (Q4))(au:List (Q4))(ax:Int):Option (Bool×Unit) :=
  iter (fun r y=>yIN n (fun am au ax=>r ((am,(au,(ax,()))),((),()))) y.1.1 y.1.2.1 y.1.2.2.1) k ((am,(au,(ax,()))),((),()))
def zY_m(n:Nat)(a:List (Q4))(b:List (Q4)):Option (Bool×Unit) :=
  (bif (↑a.length:Int) != (↑b.length:Int)then some (Bool.false,())else (y9P n n (a) (b) ((0:Int))))
theorem yb6(n:Nat)(x:zY_a.den):runF zY_g (yYE n) Tryz.f29 zY_a zY_r x=zY_m n x.1 x.2.1:=by kernel_rfl
def yRE(am:List (Q4))(au:List (Q4))(ax:Int)(v1:Q4):Option ((Bool×Unit)⊕Unit) :=
  (Option.bind (idx au ax) fun v2=>(bif !eqV ((Ty.int IntKind.i64).pair ((Ty.int IntKind.i64).pair Ty.unit)) v1 v2 then (some (Sum.inl ((Bool.false,()))))else (some (Sum.inr ()))))
def yOa(am:List (Q4))(au:List (Q4)):Option (Bool×Unit) :=
  (some ((Bool.true,())))
theorem yGN(n:Nat)(hn:big≤n)(am:List (Q4))(au:List (Q4))(hx:List.length (am) < lenMax):LeF some (yR (fun ac az a7=>yRE am au ac az) (fun a7=>yOa am au) 0 (am) ()) (y9P n n am au 0):=by
  refine yU (f:=some) (W:=fun aE ac a7=>y9P n aE am au ac) (body:=(fun ac az a7=>yRE am au ac az)) (fin:=(fun a7=>yOa am au)) (fun aE ac a7=>?_) hx () n (by unfold big at hn;unfold lenMax at hx;omega)
  show LeF _ _ (yIN n (y9P n aE) am au ac)
  exact yA (yE fun v1=>(yE fun v2=>(yA (y6 rfl) (y6 rfl)))) (y0C (y6 rfl))
def zY_M(a:List (Q4))(b:List (Q4)):Option (Bool×Unit) :=
  (bif (↑a.length:Int) != (↑b.length:Int)then (some ((Bool.false,())))else (bif decide (List.length (a) < lenMax)then yR (fun ac az a7=>yRE (a) (b) ac az) (fun a7=>yOa (a) (b)) 0 (a) ()else none))
theorem yYe(a:List (Q4))(b:List (Q4))(y:Bool×Unit)(h:zY_M a b=some y):∃ n,zY_m n a b=some y :=
  ⟨big,LeF.top (show LeF some (zY_M a b) (zY_m big a b)from (fun (n:Nat) (hn:big≤n)=>show LeF some (zY_M a b) (zY_m n a b)from (yA (y6 rfl) (yV fun hx=>by apply yGN n hn;exact hx))) big (Nat.le_refl _)) h⟩
def zY_e:Entry:={ f:=29,args:=zY_a,ress:=zY_r,m:=fun x=>zY_M x.1 x.2.1 }
theorem yXq:FnOK Tryz.prog zY_e:=yJ (g:=zY_g) (fn:=Tryz.f29) yB yI eNil (by kernel_rfl) (by kernel_rfl) (by kernel_rfl) (fun x y h=>let ⟨n,hn⟩:=yYe x.1 x.2.1 y h;⟨yYE n,iNil,(yb6 n x).trans hn⟩)
abbrev zf_a:Ty:=.pair t35 (.pair t35 .unit)
abbrev zf_r:Ty:=.pair t4 .unit
def zf_g:G:={ T:=T,E:=[],muts:=[],fz:=[] }
def zf_k:List (List Nat):=[[0,1,5]]
def yVb(n:Nat):Ann:={ keep:=zf_k,fuel:=n,inl:=[],deep:=0 }
def yRK(n:Nat)(r0:List Nat→List Nat→Int→Option (Bool×Unit))(am:List Nat)(au:List Nat)(ax:Int):Option (Bool×Unit) :=
  (bif decide (ax < (↑am.length:Int))then (Option.bind (idx am ax) fun v1=>(Option.bind (idx au ax) fun v2=>(bif ym Go.BinOp.neq Go.FloatKind.f32 v1 v2 then some (Bool.false,())else r0 am au (IntKind.i64.wrap (ax+1)))))else some (Bool.true,()))
def yQv(n:Nat)(k:Nat)(am:List Nat)(au:List Nat)(ax:Int):Option (Bool×Unit) :=
  iter (fun r y=>yRK n (fun am au ax=>r ((am,(au,(ax,()))),((),()))) y.1.1 y.1.2.1 y.1.2.2.1) k ((am,(au,(ax,()))),((),()))
def zf_m(n:Nat)(a:List Nat)(b:List Nat):Option (Bool×Unit) :=
  (bif (↑a.length:Int) != (↑b.length:Int)then some (Bool.false,())else (yQv n n (a) (b) ((0:Int))))
theorem ycl(n:Nat)(x:zf_a.den):runF zf_g (yVb n) Tryz.f30 zf_a zf_r x=zf_m n x.1 x.2.1:=by kernel_rfl
def zf_M(a:List Nat)(b:List Nat):Option (Bool×Unit):=zf_m 1000 a b
theorem yZp(a:List Nat)(b:List Nat)(y:Bool×Unit)(h:zf_M a b=some y):∃ n,zf_m n a b=some y:=⟨1000,h⟩
def zf_e:Entry:={ f:=30,args:=zf_a,ress:=zf_r,m:=fun x=>zf_M x.1 x.2.1 }
theorem yc5:FnOK Tryz.prog zf_e:=yJ (g:=zf_g) (fn:=Tryz.f30) yB yI eNil (by kernel_rfl) (by kernel_rfl) (by kernel_rfl) (fun x y h=>let ⟨n,hn⟩:=yZp x.1 x.2.1 y h;⟨yVb n,iNil,(ycl n x).trans hn⟩)
abbrev zt_a:Ty:=.pair t22 .unit
abbrev zt_r:Ty:=.pair t4 .unit
def zt_g:G:={ T:=T,E:=[],muts:=[],fz:=[] }
def zt_k:List (List Nat):=[[0,3]]
def yT3(n:Nat):Ann:={ keep:=zt_k,fuel:=n,inl:=[],deep:=0 }
def yJL(n:Nat)(r0:List (Q3)→Int→Option (Bool×Unit))(aj:List (Q3))(aT:Int):Option (Bool×Unit) :=
  (bif decide (aT < (↑aj.length:Int))then (Option.bind (idx aj aT) fun v1=>(bif decide ((↑v1.1.length:Int) > 60)then some (Bool.false,())else r0 aj (IntKind.i64.wrap (aT+1))))else some (decide ((↑aj.length:Int)≤5),()))
def yAW(n:Nat)(k:Nat)(aj:List (Q3))(aT:Int):Option (Bool×Unit) :=
  iter (fun r y=>yJL n (fun aj aT=>r ((aj,(aT,())),((),()))) y.1.1 y.1.2.1) k ((aj,(aT,())),((),()))
def zt_m(n:Nat)(l:List (Q3)):Option (Bool×Unit) :=
  (yAW n n (l) ((0:Int)))
theorem ycJ(n:Nat)(x:zt_a.den):runF zt_g (yT3 n) Tryz.f31 zt_a zt_r x=zt_m n x.1:=by kernel_rfl
def yKc(aj:List (Q3))(aT:Int)(v1:Q3):Option ((Bool×Unit)⊕Unit) :=
  (bif decide ((↑v1.1.length:Int) > 60)then (some (Sum.inl ((Bool.false,()))))else (some (Sum.inr ())))
def yJP(aj:List (Q3)):Option (Bool×Unit) :=
  (some ((decide ((↑aj.length:Int)≤5),())))
theorem yGL(n:Nat)(hn:big≤n)(aj:List (Q3))(hx:List.length (aj) < lenMax):LeF some (yR (fun ac az a7=>yKc aj ac az) (fun a7=>yJP aj) 0 (aj) ()) (yAW n n aj 0):=by
  refine yU (f:=some) (W:=fun aE ac a7=>yAW n aE aj ac) (body:=(fun ac az a7=>yKc aj ac az)) (fin:=(fun a7=>yJP aj)) (fun aE ac a7=>?_) hx () n (by unfold big at hn;unfold lenMax at hx;omega)
  show LeF _ _ (yJL n (yAW n aE) aj ac)
  exact yA (yE fun v1=>(yA (y6 rfl) (y6 rfl))) (y0C (y6 rfl))
def zt_M(l:List (Q3)):Option (Bool×Unit) :=
  (bif decide (List.length (l) < lenMax)then yR (fun ac az a7=>yKc (l) ac az) (fun a7=>yJP (l)) 0 (l) ()else none)
theorem yaE(l:List (Q3))(y:Bool×Unit)(h:zt_M l=some y):∃ n,zt_m n l=some y :=
  ⟨big,LeF.top (show LeF some (zt_M l) (zt_m big l)from (fun (n:Nat) (hn:big≤n)=>show LeF some (zt_M l) (zt_m n l)from (yV fun hx=>by apply yGL n hn;exact hx)) big (Nat.le_refl _)) h⟩
def zt_e:Entry:={ f:=31,args:=zt_a,ress:=zt_r,m:=fun x=>zt_M x.1 }
theorem yay:FnOK Tryz.prog zt_e:=yJ (g:=zt_g) (fn:=Tryz.f31) yB yI eNil (by kernel_rfl) (by kernel_rfl) (by kernel_rfl) (fun x y h=>let ⟨n,hn⟩:=yaE x.1 y h;⟨yT3 n,iNil,(ycJ n x).trans hn⟩)
abbrev yS7:Ty:=.pair t22 .unit
abbrev yUj:Ty:=.pair t31 .unit
def yZG:G:={ T:=T,E:=[],muts:=[3],fz:=[] }
def ybQ:List (List Nat):=[[3,6,7,8]]
def yNd(n:Nat):Ann:={ keep:=ybQ,fuel:=n,inl:=[],deep:=0 }
def yEf(n:Nat)(r0:List (Q3)→Int→Int→List (Q3)→Option (List (Q3)×Unit))(aF:List (Q3))(aA:Int)(a8:Int)(aR:List (Q3)):Option (List (Q3)×Unit) :=
  (bif decide (a8 < aA)then (Option.bind (idx aF a8) fun v1=>(bif decide (aR.length+(1:Nat)≤memMax)then r0 aF aA (IntKind.i64.wrap (a8+1)) (aR++[(v1.1,v1.2.1,v1.2.2.1,())])else none))else some (aR,()))
def y6Y(n:Nat)(k:Nat)(aF:List (Q3))(aA:Int)(a8:Int)(aR:List (Q3)):Option (List (Q3)×Unit) :=
  iter (fun r y=>yEf n (fun aF aA a8 aR=>r ((aF,(aA,(a8,()))),((aR,()),()))) y.1.1 y.1.2.1 y.1.2.2.1 y.2.1.1) k ((aF,(aA,(a8,()))),((aR,()),()))
def yLj(n:Nat)(l:List (Q3)):Option (List (Q3)×Unit) :=
  (y6Y n n (l) ((↑l.length:Int)) ((0:Int)) ([]))
theorem yWY(n:Nat)(x:yS7.den):runF yZG (yNd n) Tryz.f33 yS7 yUj x=yLj n x.1:=by kernel_rfl
def yDs(aF:List (Q3))(a8:Int)(v1:Q3)(aR:List (Q3)):Option ((List (Q3)×Unit)⊕(List (Q3))) :=
  (bif decide (aR.length+(1:Nat)≤memMax)then (some (Sum.inr (aR++[(v1.1,v1.2.1,v1.2.2.1,())])))else none)
def yIu(aF:List (Q3))(aR:List (Q3)):Option (List (Q3)×Unit) :=
  (some ((aR,())))
theorem yDV(n:Nat)(hn:big≤n)(aF:List (Q3))(aR:List (Q3))(hx:List.length (aF) < lenMax):LeF some (yR (fun ac az a7=>yDs aF ac az a7) (fun a7=>yIu aF a7) 0 (aF) aR) (y6Y n n aF (List.length (aF):Int) 0 aR):=by
  refine yU (f:=some) (W:=fun aE ac a7=>y6Y n aE aF (List.length (aF):Int) ac a7) (body:=(fun ac az a7=>yDs aF ac az a7)) (fin:=(fun a7=>yIu aF a7)) (fun aE ac a7=>?_) hx aR n (by unfold big at hn;unfold lenMax at hx;omega)
  show LeF _ _ (yEf n (y6Y n aE) aF (List.length (aF):Int) ac a7)
  exact yA (yE fun v1=>(yA (y6 rfl) y19)) (y0C (y6 rfl))
def yCx(l:List (Q3)):Option (List (Q3)×Unit) :=
  (bif decide (List.length (l) < lenMax)then yR (fun ac az a7=>yDs (l) ac az a7) (fun a7=>yIu (l) a7) 0 (l) ([])else none)
theorem yP7(l:List (Q3))(y:List (Q3)×Unit)(h:yCx l=some y):∃ n,yLj n l=some y :=
  ⟨big,LeF.top (show LeF some (yCx l) (yLj big l)from (fun (n:Nat) (hn:big≤n)=>show LeF some (yCx l) (yLj n l)from (yV fun hx=>by apply yDV n hn;exact hx)) big (Nat.le_refl _)) h⟩
def z0r_e:Entry:={ f:=33,args:=yS7,ress:=yUj,m:=fun x=>yCx x.1 }
theorem yXe:FnOK Tryz.prog z0r_e:=yJ (g:=yZG) (fn:=Tryz.f33) yB yI eNil (by kernel_rfl) (by kernel_rfl) (by kernel_rfl) (fun x y h=>let ⟨n,hn⟩:=yP7 x.1 y h;⟨yNd n,iNil,(yWY n x).trans hn⟩)
abbrev zd_a:Ty:=.pair t3 (.pair t3 (.pair t3 .unit))
abbrev zd_r:Ty:=.pair t3 .unit
def zd_g:G:={ T:=T,E:=[],muts:=[],fz:=[] }
def zd_k:List (List Nat):=[]
def yTV(n:Nat):Ann:={ keep:=zd_k,fuel:=n,inl:=[],deep:=0 }
def zd_m(n:Nat)(n1:Int)(low:Int)(high:Int):Option (Int×Unit) :=
  (bif decide (n1 < low)then some ((3:Int),())else (bif decide (n1 > high)then some ((3:Int),())else some ((0:Int),())))
theorem ycs(n:Nat)(x:zd_a.den):runF zd_g (yTV n) Tryz.f44 zd_a zd_r x=zd_m n x.1 x.2.1 x.2.2.1:=by kernel_rfl
def zd(n1:Int)(low:Int)(high:Int):(Int×Unit) :=
  (bif decide (n1 < low)then ((3:Int),())else (bif decide (n1 > high)then ((3:Int),())else ((0:Int),())))
abbrev zd_M (n1:Int) (low:Int) (high:Int):Option (Int×Unit):=some (zd n1 low high)
theorem yTZ(n1:Int)(low:Int)(high:Int)(y:Int×Unit)(h:zd_M n1 low high=some y):∃ n,zd_m n n1 low high=some y :=
  ⟨0,by rw[← h];show zd_m 0 n1 low high=some (zd n1 low high);unfold zd_m zd;first|rfl|(simp only[yF];done)|(simp only[yF];rfl)⟩
def zd_e:Entry:={ f:=44,args:=zd_a,ress:=zd_r,m:=fun x=>zd_M x.1 x.2.1 x.2.2.1 }
theorem yMN:FnOK Tryz.prog zd_e:=yJ (g:=zd_g) (fn:=Tryz.f44) yB yI eNil (by kernel_rfl) (by kernel_rfl) (by kernel_rfl) (fun x y h=>let ⟨n,hn⟩:=yTZ x.1 x.2.1 x.2.2.1 y h;⟨yTV n,iNil,(ycs n x).trans hn⟩)
abbrev yOw:Ty:=.pair t4 (.pair t3 .unit)
abbrev yUz:Ty:=.pair t3 .unit
def yTs:G:={ T:=T,E:=[],muts:=[],fz:=[] }
def ydL:List (List Nat):=[]
def yNS(n:Nat):Ann:={ keep:=ydL,fuel:=n,inl:=[],deep:=0 }
def yLW(n:Nat)(holds:Bool)(e:Int):Option (Int×Unit) :=
  (bif holds then some (e,())else some ((0:Int),()))
theorem yTW(n:Nat)(x:yOw.den):runF yTs (yNS n) Tryz.f47 yOw yUz x=yLW n x.1 x.2.1:=by kernel_rfl
def z0t(holds:Bool)(e:Int):(Int×Unit) :=
  (bif holds then (e,())else ((0:Int),()))
abbrev yUS (holds:Bool) (e:Int):Option (Int×Unit):=some (z0t holds e)
theorem yOn(holds:Bool)(e:Int)(y:Int×Unit)(h:yUS holds e=some y):∃ n,yLW n holds e=some y :=
  ⟨0,by rw[← h];show yLW 0 holds e=some (z0t holds e);unfold yLW z0t;first|rfl|(simp only[yF];done)|(simp only[yF];rfl)⟩
def z0t_e:Entry:={ f:=47,args:=yOw,ress:=yUz,m:=fun x=>yUS x.1 x.2.1 }
theorem yZx:FnOK Tryz.prog z0t_e:=yJ (g:=yTs) (fn:=Tryz.f47) yB yI eNil (by kernel_rfl) (by kernel_rfl) (by kernel_rfl) (fun x y h=>let ⟨n,hn⟩:=yOn x.1 x.2.1 y h;⟨yNS n,iNil,(yTW n x).trans hn⟩)
abbrev yR7:Ty:=.pair t25 .unit
abbrev yXs:Ty:=.pair t4 .unit
def yVN:G:={ T:=T,E:=[],muts:=[],fz:=[] }
def ycq:List (List Nat):=[[1,3]]
def yNN(n:Nat):Ann:={ keep:=ycq,fuel:=n,inl:=[],deep:=0 }
def yDy(n:Nat)(r0:Q2→Int→Option (Bool×Unit))(aw:Q2)(aT:Int):Option (Bool×Unit) :=
  (bif decide (aT < (↑aw.2.1.length:Int))then (Option.bind (idx aw.2.1 aT) fun v1=>(bif decide ((if Bool.true=Bool.true then imax (imax (imax v1.1 v1.2.1) (IntKind.i64.wrap ((0:Int) - v1.1))) (IntKind.i64.wrap ((0:Int) - v1.2.1))else imin (imin (imin v1.1 v1.2.1) (IntKind.i64.wrap ((0:Int) - v1.1))) (IntKind.i64.wrap ((0:Int) - v1.2.1))) > 4194304)then some (Bool.false,())else r0 aw (IntKind.i64.wrap (aT+1))))else some (decide (aw.2.2.1≤4096),()))
def y6x(n:Nat)(k:Nat)(aw:Q2)(aT:Int):Option (Bool×Unit) :=
  iter (fun r y=>yDy n (fun aw aT=>r ((aw,(aT,())),((),()))) y.1.1 y.1.2.1) k ((aw,(aT,())),((),()))
def yKQ(n:Nat)(t:Q2):Option (Bool×Unit) :=
  (y6x n n (t) ((0:Int)))
theorem yV2(n:Nat)(x:yR7.den):runF yVN (yNN n) Tryz.f48 yR7 yXs x=yKQ n x.1:=by kernel_rfl
def yEG(aw:Q2)(aT:Int)(v1:Q4):Option ((Bool×Unit)⊕Unit) :=
  (bif decide ((if Bool.true=Bool.true then imax (imax (imax v1.1 v1.2.1) (IntKind.i64.wrap ((0:Int) - v1.1))) (IntKind.i64.wrap ((0:Int) - v1.2.1))else imin (imin (imin v1.1 v1.2.1) (IntKind.i64.wrap ((0:Int) - v1.1))) (IntKind.i64.wrap ((0:Int) - v1.2.1))) > 4194304)then (some (Sum.inl ((Bool.false,()))))else (some (Sum.inr ())))
def yHN(aw:Q2):Option (Bool×Unit) :=
  (some ((decide (aw.2.2.1≤4096),())))
theorem yCh(n:Nat)(hn:big≤n)(aw:Q2)(hx:List.length (aw.2.1) < lenMax):LeF some (yR (fun ac az a7=>yEG aw ac az) (fun a7=>yHN aw) 0 (aw.2.1) ()) (y6x n n aw 0):=by
  refine yU (f:=some) (W:=fun aE ac a7=>y6x n aE aw ac) (body:=(fun ac az a7=>yEG aw ac az)) (fin:=(fun a7=>yHN aw)) (fun aE ac a7=>?_) hx () n (by unfold big at hn;unfold lenMax at hx;omega)
  show LeF _ _ (yDy n (y6x n aE) aw ac)
  exact yA (yE fun v1=>(yA (y6 rfl) (y6 rfl))) (y0C (y6 rfl))
def yG1(t:Q2):Option (Bool×Unit) :=
  (bif decide (List.length (t.2.1) < lenMax)then yR (fun ac az a7=>yEG (t) ac az) (fun a7=>yHN (t)) 0 (t.2.1) ()else none)
theorem yPS(t:Q2)(y:Bool×Unit)(h:yG1 t=some y):∃ n,yKQ n t=some y :=
  ⟨big,LeF.top (show LeF some (yG1 t) (yKQ big t)from (fun (n:Nat) (hn:big≤n)=>show LeF some (yG1 t) (yKQ n t)from (yV fun hx=>by apply yCh n hn;exact hx)) big (Nat.le_refl _)) h⟩
def z0d_e:Entry:={ f:=48,args:=yR7,ress:=yXs,m:=fun x=>yG1 x.1 }
theorem yVC:FnOK Tryz.prog z0d_e:=yJ (g:=yVN) (fn:=Tryz.f48) yB yI eNil (by kernel_rfl) (by kernel_rfl) (by kernel_rfl) (fun x y h=>let ⟨n,hn⟩:=yPS x.1 y h;⟨yNN n,iNil,(yV2 n x).trans hn⟩)
abbrev yRe:Ty:=.pair t69 (.pair t28 (.pair t3 (.pair t69 .unit)))
abbrev yWk:Ty:=.pair t4 .unit
def yWB:G:={ T:=T,E:=[],muts:=[],fz:=[] }
def ycK:List (List Nat):=[]
def yNz(n:Nat):Ann:={ keep:=ycK,fuel:=n,inl:=[],deep:=0 }
def yKk(n:Nat)(p0:Q4)(e:Int)(bad:Int)(want:Q4):Option (Bool×Unit) :=
  (bif e==bad then (bif bad != 0 then (bif eqV ((Ty.int IntKind.i64).pair ((Ty.int IntKind.i64).pair Ty.unit)) p0 ((0:Int),(0:Int),())then some (Bool.true,())else (bif bad==0 then some (eqV ((Ty.int IntKind.i64).pair ((Ty.int IntKind.i64).pair Ty.unit)) p0 want,())else some (Bool.false,())))else (bif bad==0 then some (eqV ((Ty.int IntKind.i64).pair ((Ty.int IntKind.i64).pair Ty.unit)) p0 want,())else some (Bool.false,())))else some (Bool.false,()))
theorem yVD(n:Nat)(x:yRe.den):runF yWB (yNz n) Tryz.f52 yRe yWk x=yKk n x.1 x.2.1 x.2.2.1 x.2.2.2.1:=by kernel_rfl
def z0Z(p0:Q4)(e:Int)(bad:Int)(want:Q4):(Bool×Unit) :=
  (bif e==bad then (bif bad != 0 then (bif eqV ((Ty.int IntKind.i64).pair ((Ty.int IntKind.i64).pair Ty.unit)) p0 ((0:Int),(0:Int),())then (Bool.true,())else (bif bad==0 then (eqV ((Ty.int IntKind.i64).pair ((Ty.int IntKind.i64).pair Ty.unit)) p0 want,())else (Bool.false,())))else (bif bad==0 then (eqV ((Ty.int IntKind.i64).pair ((Ty.int IntKind.i64).pair Ty.unit)) p0 want,())else (Bool.false,())))else (Bool.false,()))
abbrev yTm (p0:Q4) (e:Int) (bad:Int) (want:Q4):Option (Bool×Unit):=some (z0Z p0 e bad want)
theorem ySc(p0:Q4)(e:Int)(bad:Int)(want:Q4)(y:Bool×Unit)(h:yTm p0 e bad want=some y):∃ n,yKk n p0 e bad want=some y :=
  ⟨0,by rw[← h];show yKk 0 p0 e bad want=some (z0Z p0 e bad want);unfold yKk z0Z;first|rfl|(simp only[yF];done)|(simp only[yF];rfl)⟩
def z0Z_e:Entry:={ f:=52,args:=yRe,ress:=yWk,m:=fun x=>yTm x.1 x.2.1 x.2.2.1 x.2.2.2.1 }
theorem yYW:FnOK Tryz.prog z0Z_e:=yJ (g:=yWB) (fn:=Tryz.f52) yB yI eNil (by kernel_rfl) (by kernel_rfl) (by kernel_rfl) (fun x y h=>let ⟨n,hn⟩:=ySc x.1 x.2.1 x.2.2.1 x.2.2.2.1 y h;⟨yNz n,iNil,(yVD n x).trans hn⟩)
abbrev yPA:Ty:=.pair t79 (.pair t79 .unit)
abbrev yaO:Ty:=.pair t4 .unit
def yU2:G:={ T:=T,E:=[],muts:=[],fz:=[] }
def yaY:List (List Nat):=[[0,1,5]]
def yNW(n:Nat):Ann:={ keep:=yaY,fuel:=n,inl:=[],deep:=0 }
def yF4(n:Nat)(r0:List (Nat×Nat)→List (Nat×Nat)→Int→Option (Bool×Unit))(am:List (Nat×Nat))(au:List (Nat×Nat))(ax:Int):Option (Bool×Unit) :=
  (bif decide (ax < (↑am.length:Int))then (Option.bind (idx am ax) fun v1=>(Option.bind (idx au ax) fun v2=>(bif !y8p Go.FloatKind.f32 v1 v2 then some (Bool.false,())else r0 am au (IntKind.i64.wrap (ax+1)))))else some (Bool.true,()))
def y6e(n:Nat)(k:Nat)(am:List (Nat×Nat))(au:List (Nat×Nat))(ax:Int):Option (Bool×Unit) :=
  iter (fun r y=>yF4 n (fun am au ax=>r ((am,(au,(ax,()))),((),()))) y.1.1 y.1.2.1 y.1.2.2.1) k ((am,(au,(ax,()))),((),()))
def yKS(n:Nat)(a:List (Nat×Nat))(b:List (Nat×Nat)):Option (Bool×Unit) :=
  (bif (↑a.length:Int) != (↑b.length:Int)then some (Bool.false,())else (y6e n n (a) (b) ((0:Int))))
theorem yZm(n:Nat)(x:yPA.den):runF yU2 (yNW n) Tryz.f53 yPA yaO x=yKS n x.1 x.2.1:=by kernel_rfl
def yJl(am:List (Nat×Nat))(au:List (Nat×Nat))(ax:Int)(v1:Nat×Nat):Option ((Bool×Unit)⊕Unit) :=
  (Option.bind (idx au ax) fun v2=>(bif !y8p Go.FloatKind.f32 v1 v2 then (some (Sum.inl ((Bool.false,()))))else (some (Sum.inr ()))))
def yHz(am:List (Nat×Nat))(au:List (Nat×Nat)):Option (Bool×Unit) :=
  (some ((Bool.true,())))
theorem yDm(n:Nat)(hn:big≤n)(am:List (Nat×Nat))(au:List (Nat×Nat))(hx:List.length (am) < lenMax):LeF some (yR (fun ac az a7=>yJl am au ac az) (fun a7=>yHz am au) 0 (am) ()) (y6e n n am au 0):=by
  refine yU (f:=some) (W:=fun aE ac a7=>y6e n aE am au ac) (body:=(fun ac az a7=>yJl am au ac az)) (fin:=(fun a7=>yHz am au)) (fun aE ac a7=>?_) hx () n (by unfold big at hn;unfold lenMax at hx;omega)
  show LeF _ _ (yF4 n (y6e n aE) am au ac)
  exact yA (yE fun v1=>(yE fun v2=>(yA (y6 rfl) (y6 rfl)))) (y0C (y6 rfl))
def yHb(a:List (Nat×Nat))(b:List (Nat×Nat)):Option (Bool×Unit) :=
  (bif (↑a.length:Int) != (↑b.length:Int)then (some ((Bool.false,())))else (bif decide (List.length (a) < lenMax)then yR (fun ac az a7=>yJl (a) (b) ac az) (fun a7=>yHz (a) (b)) 0 (a) ()else none))
theorem ySD(a:List (Nat×Nat))(b:List (Nat×Nat))(y:Bool×Unit)(h:yHb a b=some y):∃ n,yKS n a b=some y :=
  ⟨big,LeF.top (show LeF some (yHb a b) (yKS big a b)from (fun (n:Nat) (hn:big≤n)=>show LeF some (yHb a b) (yKS n a b)from (yA (y6 rfl) (yV fun hx=>by apply yDm n hn;exact hx))) big (Nat.le_refl _)) h⟩
def z01_e:Entry:={ f:=53,args:=yPA,ress:=yaO,m:=fun x=>yHb x.1 x.2.1 }
theorem yUR:FnOK Tryz.prog z01_e:=yJ (g:=yU2) (fn:=Tryz.f53) yB yI eNil (by kernel_rfl) (by kernel_rfl) (by kernel_rfl) (fun x y h=>let ⟨n,hn⟩:=ySD x.1 x.2.1 y h;⟨yNW n,iNil,(yZm n x).trans hn⟩)
abbrev ySE:Ty:=.pair t94 .unit
abbrev yVn:Ty:=.pair t60 .unit
def ya4:G:={ T:=T,E:=[],muts:=[7,11],fz:=[] }
def yag:List (List Nat):=[]
def yNJ(n:Nat):Ann:={ keep:=yag,fuel:=n,inl:=[],deep:=0 }
def yKj(n:Nat)(r1:Q1):Option ((Q1)×Unit) :=
  (bif decide ((0:Nat)+r1.2.2.1.length≤memMax)then (bif decide ((0:Nat)+r1.2.2.2.1.length≤memMax)then some ((r1.1,r1.2.1,r1.2.2.1,r1.2.2.2.1,()),())else none)else none)
theorem yXH(n:Nat)(x:ySE.den):runF ya4 (yNJ n) Tryz.f56 ySE yVn x=yKj n x.1:=by kernel_rfl
def yM2(r1:Q1):Option ((Q1)×Unit):=yKj 0 r1
theorem yOW(r1:Q1)(y:(Q1)×Unit)(h:yM2 r1=some y):∃ n,yKj n r1=some y:=⟨0,h⟩
def z0I_e:Entry:={ f:=56,args:=ySE,ress:=yVn,m:=fun x=>yM2 x.1 }
theorem yXg:FnOK Tryz.prog z0I_e:=yJ (g:=ya4) (fn:=Tryz.f56) yB yI eNil (by kernel_rfl) (by kernel_rfl) (by kernel_rfl) (fun x y h=>let ⟨n,hn⟩:=yOW x.1 y h;⟨yNJ n,iNil,(yXH n x).trans hn⟩)
abbrev zr_a:Ty:=.pair t100 (.pair t100 .unit)
abbrev zr_r:Ty:=.pair t4 .unit
def zr_g:G:={ T:=T,E:=[],muts:=[],fz:=[] }
def zr_k:List (List Nat):=[[0,1,5]]
def yVI(n:Nat):Ann:={ keep:=zr_k,fuel:=n,inl:=[],deep:=0 }
def yQH(n:Nat)(r0:List (List Int)→List (List Int)→Int→Option (Bool×Unit))(am:List (List Int))(au:List (List Int))(ax:Int):Option (Bool×Unit) :=
  (bif decide (ax < (↑am.length:Int))then (Option.bind (idx am ax) fun v1=>(Option.bind (idx au ax) fun v2=>(bif !eqV (Ty.arr (2:Nat) (Ty.int IntKind.i64)) v1 v2 then some (Bool.false,())else r0 am au (IntKind.i64.wrap (ax+1)))))else some (Bool.true,()))
def yS2(n:Nat)(k:Nat)(am:List (List Int))(au:List (List Int))(ax:Int):Option (Bool×Unit) :=
  iter (fun r y=>yQH n (fun am au ax=>r ((am,(au,(ax,()))),((),()))) y.1.1 y.1.2.1 y.1.2.2.1) k ((am,(au,(ax,()))),((),()))
def zr_m(n:Nat)(a:List (List Int))(b:List (List Int)):Option (Bool×Unit) :=
  (bif (↑a.length:Int) != (↑b.length:Int)then some (Bool.false,())else (yS2 n n (a) (b) ((0:Int))))
theorem ycB(n:Nat)(x:zr_a.den):runF zr_g (yVI n) Tryz.f66 zr_a zr_r x=zr_m n x.1 x.2.1:=by kernel_rfl
def zr_M(a:List (List Int))(b:List (List Int)):Option (Bool×Unit):=zr_m 1000 a b
theorem yTG(a:List (List Int))(b:List (List Int))(y:Bool×Unit)(h:zr_M a b=some y):∃ n,zr_m n a b=some y:=⟨1000,h⟩
def zr_e:Entry:={ f:=66,args:=zr_a,ress:=zr_r,m:=fun x=>zr_M x.1 x.2.1 }
theorem ycw:FnOK Tryz.prog zr_e:=yJ (g:=zr_g) (fn:=Tryz.f66) yB yI eNil (by kernel_rfl) (by kernel_rfl) (by kernel_rfl) (fun x y h=>let ⟨n,hn⟩:=yTG x.1 x.2.1 y h;⟨yVI n,iNil,(ycB n x).trans hn⟩)
abbrev zy_a:Ty:=.pair t41 (.pair t41 .unit)
abbrev zy_r:Ty:=.pair t4 .unit
def zy_g:G:={ T:=T,E:=[],muts:=[],fz:=[] }
def zy_k:List (List Nat):=[[0,1,5]]
def yXm(n:Nat):Ann:={ keep:=zy_k,fuel:=n,inl:=[],deep:=0 }
def yIw(n:Nat)(r0:List Int→List Int→Int→Option (Bool×Unit))(am:List Int)(au:List Int)(ax:Int):Option (Bool×Unit) :=
  (bif decide (ax < (↑am.length:Int))then (Option.bind (idx am ax) fun v1=>(Option.bind (idx au ax) fun v2=>(bif v1 != v2 then some (Bool.false,())else r0 am au (IntKind.i64.wrap (ax+1)))))else some (Bool.true,()))
def yAc(n:Nat)(k:Nat)(am:List Int)(au:List Int)(ax:Int):Option (Bool×Unit) :=
  iter (fun r y=>yIw n (fun am au ax=>r ((am,(au,(ax,()))),((),()))) y.1.1 y.1.2.1 y.1.2.2.1) k ((am,(au,(ax,()))),((),()))
def zy_m(n:Nat)(a:List Int)(b:List Int):Option (Bool×Unit) :=
  (bif (↑a.length:Int) != (↑b.length:Int)then some (Bool.false,())else (yAc n n (a) (b) ((0:Int))))
theorem ycF(n:Nat)(x:zy_a.den):runF zy_g (yXm n) Tryz.f75 zy_a zy_r x=zy_m n x.1 x.2.1:=by kernel_rfl
def ySM(am:List Int)(au:List Int)(ax:Int)(v1:Int):Option ((Bool×Unit)⊕Unit) :=
  (Option.bind (idx au ax) fun v2=>(bif v1 != v2 then (some (Sum.inl ((Bool.false,()))))else (some (Sum.inr ()))))
def yQX(am:List Int)(au:List Int):Option (Bool×Unit) :=
  (some ((Bool.true,())))
theorem yFz(n:Nat)(hn:big≤n)(am:List Int)(au:List Int)(hx:List.length (am) < lenMax):LeF some (yR (fun ac az a7=>ySM am au ac az) (fun a7=>yQX am au) 0 (am) ()) (yAc n n am au 0):=by
  refine yU (f:=some) (W:=fun aE ac a7=>yAc n aE am au ac) (body:=(fun ac az a7=>ySM am au ac az)) (fin:=(fun a7=>yQX am au)) (fun aE ac a7=>?_) hx () n (by unfold big at hn;unfold lenMax at hx;omega)
  show LeF _ _ (yIw n (yAc n aE) am au ac)
  exact yA (yE fun v1=>(yE fun v2=>(yA (y6 rfl) (y6 rfl)))) (y0C (y6 rfl))
def zy_M(a:List Int)(b:List Int):Option (Bool×Unit) :=
  (bif (↑a.length:Int) != (↑b.length:Int)then (some ((Bool.false,())))else (bif decide (List.length (a) < lenMax)then yR (fun ac az a7=>ySM (a) (b) ac az) (fun a7=>yQX (a) (b)) 0 (a) ()else none))
theorem yVP(a:List Int)(b:List Int)(y:Bool×Unit)(h:zy_M a b=some y):∃ n,zy_m n a b=some y :=
  ⟨big,LeF.top (show LeF some (zy_M a b) (zy_m big a b)from (fun (n:Nat) (hn:big≤n)=>show LeF some (zy_M a b) (zy_m n a b)from (yA (y6 rfl) (yV fun hx=>by apply yFz n hn;exact hx))) big (Nat.le_refl _)) h⟩
def zy_e:Entry:={ f:=75,args:=zy_a,ress:=zy_r,m:=fun x=>zy_M x.1 x.2.1 }
theorem yas:FnOK Tryz.prog zy_e:=yJ (g:=zy_g) (fn:=Tryz.f75) yB yI eNil (by kernel_rfl) (by kernel_rfl) (by kernel_rfl) (fun x y h=>let ⟨n,hn⟩:=yVP x.1 x.2.1 y h;⟨yXm n,iNil,(ycF n x).trans hn⟩)
abbrev zh_a:Ty:=.pair t61 .unit
abbrev zh_r:Ty:=.pair t3 .unit
def zh_g:G:={ T:=T,E:=[],muts:=[],fz:=[] }
def zh_k:List (List Nat):=[]
def yVv(n:Nat):Ann:={ keep:=zh_k,fuel:=n,inl:=[],deep:=0 }
def zh_m(n:Nat)(x1:Nat):Option (Int×Unit) :=
  (Option.bind (y1j Go.FloatKind.f32 x1 Go.FloatKind.f64) fun v0=>(Option.bind (y02 Go.FloatKind.f64 (y01 Go.BinOp.mul Go.FloatKind.f64 (nat_lit 4625196817309499392) v0) IntKind.i64) fun v1=>some (v1,())))
theorem ybN(n:Nat)(x:zh_a.den):runF zh_g (yVv n) Tryz.f78 zh_a zh_r x=zh_m n x.1:=by kernel_rfl
def zh_M(x1:Nat):Option (Int×Unit):=zh_m 0 x1
theorem yUf(x1:Nat)(y:Int×Unit)(h:zh_M x1=some y):∃ n,zh_m n x1=some y:=⟨0,h⟩
def zh_e:Entry:={ f:=78,args:=zh_a,ress:=zh_r,m:=fun x=>zh_M x.1 }
theorem ybY:FnOK Tryz.prog zh_e:=yJ (g:=zh_g) (fn:=Tryz.f78) yB yI eNil (by kernel_rfl) (by kernel_rfl) (by kernel_rfl) (fun x y h=>let ⟨n,hn⟩:=yUf x.1 y h;⟨yVv n,iNil,(ybN n x).trans hn⟩)
abbrev yQa:Ty:=.pair t57 (.pair t57 .unit)
abbrev yZP:Ty:=.pair t57 .unit
def yVY:G:={ T:=T,E:=[],muts:=[],fz:=[] }
def ydA:List (List Nat):=[]
def yO2(n:Nat):Ann:={ keep:=ydA,fuel:=n,inl:=[],deep:=0 }
def yL8(n:Nat)(a:Q4)(b:Q4):Option ((Q4)×Unit) :=
  some ((IntKind.i64.wrap (a.1 - b.1),IntKind.i64.wrap (a.2.1 - b.2.1),()),())
theorem ya2(n:Nat)(x:yQa.den):runF yVY (yO2 n) Tryz.f79 yQa yZP x=yL8 n x.1 x.2.1:=by kernel_rfl
def z0x(a:Q4)(b:Q4):((Q4)×Unit) :=
  ((IntKind.i64.wrap (a.1 - b.1),IntKind.i64.wrap (a.2.1 - b.2.1),()),())
abbrev yTB (a:Q4) (b:Q4):Option ((Q4)×Unit):=some (z0x a b)
theorem yRp(a:Q4)(b:Q4)(y:(Q4)×Unit)(h:yTB a b=some y):∃ n,yL8 n a b=some y :=
  ⟨0,by rw[← h];show yL8 0 a b=some (z0x a b);unfold yL8 z0x;first|rfl|(simp only[yF];done)|(simp only[yF];rfl)⟩
def z0x_e:Entry:={ f:=79,args:=yQa,ress:=yZP,m:=fun x=>yTB x.1 x.2.1 }
theorem yVQ:FnOK Tryz.prog z0x_e:=yJ (g:=yVY) (fn:=Tryz.f79) yB yI eNil (by kernel_rfl) (by kernel_rfl) (by kernel_rfl) (fun x y h=>let ⟨n,hn⟩:=yRp x.1 x.2.1 y h;⟨yO2 n,iNil,(ya2 n x).trans hn⟩)
abbrev ySw:Ty:=.pair t57 (.pair t57 .unit)
abbrev yX2:Ty:=.pair t57 .unit
def yVa:G:={ T:=T,E:=[],muts:=[],fz:=[] }
def ydK:List (List Nat):=[]
def yN5(n:Nat):Ann:={ keep:=ydK,fuel:=n,inl:=[],deep:=0 }
def yKo(n:Nat)(a:Q4)(b:Q4):Option ((Q4)×Unit) :=
  some ((IntKind.i64.wrap (IntKind.i64.wrap (a.1 * b.1) - IntKind.i64.wrap (a.2.1 * b.2.1)),IntKind.i64.wrap (IntKind.i64.wrap (a.1 * b.2.1)+IntKind.i64.wrap (a.2.1 * b.1)),()),())
theorem yWK(n:Nat)(x:ySw.den):runF yVa (yN5 n) Tryz.f80 ySw yX2 x=yKo n x.1 x.2.1:=by kernel_rfl
def z0b(a:Q4)(b:Q4):((Q4)×Unit) :=
  ((IntKind.i64.wrap (IntKind.i64.wrap (a.1 * b.1) - IntKind.i64.wrap (a.2.1 * b.2.1)),IntKind.i64.wrap (IntKind.i64.wrap (a.1 * b.2.1)+IntKind.i64.wrap (a.2.1 * b.1)),()),())
abbrev yYB (a:Q4) (b:Q4):Option ((Q4)×Unit):=some (z0b a b)
theorem yP5(a:Q4)(b:Q4)(y:(Q4)×Unit)(h:yYB a b=some y):∃ n,yKo n a b=some y :=
  ⟨0,by rw[← h];show yKo 0 a b=some (z0b a b);unfold yKo z0b;first|rfl|(simp only[yF];done)|(simp only[yF];rfl)⟩
def z0b_e:Entry:={ f:=80,args:=ySw,ress:=yX2,m:=fun x=>yYB x.1 x.2.1 }
theorem yYr:FnOK Tryz.prog z0b_e:=yJ (g:=yVa) (fn:=Tryz.f80) yB yI eNil (by kernel_rfl) (by kernel_rfl) (by kernel_rfl) (fun x y h=>let ⟨n,hn⟩:=yP5 x.1 x.2.1 y h;⟨yN5 n,iNil,(yWK n x).trans hn⟩)
abbrev yRk:Ty:=.pair t57 (.pair t57 .unit)
abbrev yX6:Ty:=.pair t57 .unit
def yZU:G:={ T:=T,E:=[],muts:=[],fz:=[] }
def ydB:List (List Nat):=[]
def yN1(n:Nat):Ann:={ keep:=ydB,fuel:=n,inl:=[],deep:=0 }
def yMI(n:Nat)(a:Q4)(b:Q4):Option ((Q4)×Unit) :=
  some ((IntKind.i64.wrap (a.1+b.1),IntKind.i64.wrap (a.2.1+b.2.1),()),())
theorem yXE(n:Nat)(x:yRk.den):runF yZU (yN1 n) Tryz.f82 yRk yX6 x=yMI n x.1 x.2.1:=by kernel_rfl
def z0y(a:Q4)(b:Q4):((Q4)×Unit) :=
  ((IntKind.i64.wrap (a.1+b.1),IntKind.i64.wrap (a.2.1+b.2.1),()),())
abbrev yTf (a:Q4) (b:Q4):Option ((Q4)×Unit):=some (z0y a b)
theorem yPY(a:Q4)(b:Q4)(y:(Q4)×Unit)(h:yTf a b=some y):∃ n,yMI n a b=some y :=
  ⟨0,by rw[← h];show yMI 0 a b=some (z0y a b);unfold yMI z0y;first|rfl|(simp only[yF];done)|(simp only[yF];rfl)⟩
def z0y_e:Entry:={ f:=82,args:=yRk,ress:=yX6,m:=fun x=>yTf x.1 x.2.1 }
theorem yUd:FnOK Tryz.prog z0y_e:=yJ (g:=yZU) (fn:=Tryz.f82) yB yI eNil (by kernel_rfl) (by kernel_rfl) (by kernel_rfl) (fun x y h=>let ⟨n,hn⟩:=yPY x.1 x.2.1 y h;⟨yN1 n,iNil,(yXE n x).trans hn⟩)
abbrev yRr:Ty:=.pair t23 .unit
abbrev yT6:Ty:=.pair t23 .unit
def yXy:G:={ T:=T,E:=[],muts:=[3],fz:=[] }
def ycm:List (List Nat):=[]
def yNM(n:Nat):Ann:={ keep:=ycm,fuel:=n,inl:=[],deep:=0 }
def yK7(n:Nat)(l:List (Q4)):Option (List (Q4)×Unit) :=
  (bif decide ((0:Nat)+l.length≤memMax)then some (l,())else none)
theorem yTT(n:Nat)(x:yRr.den):runF yXy (yNM n) Tryz.f84 yRr yT6 x=yK7 n x.1:=by kernel_rfl
def yLu(l:List (Q4)):Option (List (Q4)×Unit):=yK7 0 l
theorem yQQ(l:List (Q4))(y:List (Q4)×Unit)(h:yLu l=some y):∃ n,yK7 n l=some y:=⟨0,h⟩
def z0A_e:Entry:={ f:=84,args:=yRr,ress:=yT6,m:=fun x=>yLu x.1 }
theorem yU5:FnOK Tryz.prog z0A_e:=yJ (g:=yXy) (fn:=Tryz.f84) yB yI eNil (by kernel_rfl) (by kernel_rfl) (by kernel_rfl) (fun x y h=>let ⟨n,hn⟩:=yQQ x.1 y h;⟨yNM n,iNil,(yTT n x).trans hn⟩)
abbrev yOu:Ty:=.pair t58 .unit
abbrev yTU:Ty:=.pair t60 .unit
def yWc:G:={ T:=T,E:=[],muts:=[],fz:=[] }
def ybu:List (List Nat):=[]
def yNE(n:Nat):Ann:={ keep:=ybu,fuel:=n,inl:=[],deep:=0 }
def yL0(n:Nat)(gaps:List (Q4)):Option ((Q1)×Unit) :=
  some (([(103:UInt8)],(0:Int),[nat_lit 1065353216,nat_lit 0,nat_lit 3212836864,nat_lit 0],gaps,()),())
theorem yYl(n:Nat)(x:yOu.den):runF yWc (yNE n) Tryz.f102 yOu yTU x=yL0 n x.1:=by kernel_rfl
def z0s(gaps:List (Q4)):((Q1)×Unit) :=
  (([(103:UInt8)],(0:Int),[nat_lit 1065353216,nat_lit 0,nat_lit 3212836864,nat_lit 0],gaps,()),())
abbrev yZy (gaps:List (Q4)):Option ((Q1)×Unit):=some (z0s gaps)
theorem yRb(gaps:List (Q4))(y:(Q1)×Unit)(h:yZy gaps=some y):∃ n,yL0 n gaps=some y :=
  ⟨0,by rw[← h];show yL0 0 gaps=some (z0s gaps);unfold yL0 z0s;first|rfl|(simp only[yF];done)|(simp only[yF];rfl)⟩
def z0s_e:Entry:={ f:=102,args:=yOu,ress:=yTU,m:=fun x=>yZy x.1 }
theorem yVE:FnOK Tryz.prog z0s_e:=yJ (g:=yWc) (fn:=Tryz.f102) yB yI eNil (by kernel_rfl) (by kernel_rfl) (by kernel_rfl) (fun x y h=>let ⟨n,hn⟩:=yRb x.1 y h;⟨yNE n,iNil,(yYl n x).trans hn⟩)
abbrev yPx:Ty:=.pair t9 .unit
abbrev yWJ:Ty:=.pair t31 .unit
def yTS:G:={ T:=T,E:=[],muts:=[3],fz:=[] }
def ycP:List (List Nat):=[[3,8]]
def yOO(n:Nat):Ann:={ keep:=ycP,fuel:=n,inl:=[],deep:=0 }
def yKs(n:Nat)(r0:List (Q3)→List UInt8→Int→Option (List (Q3)×Unit))(aR:List (Q3))(str1__0:List UInt8)(pos1__0:Int):Option (List (Q3)×Unit) :=
  (bif decide (pos1__0 < (↑str1__0.length:Int))then (bif (yf str1__0 pos1__0).1==72 then (bif decide (aR.length+(1:Nat)≤memMax)then r0 (aR++[(y3i (yf str1__0 pos1__0).1,(1:Int),(2:Int),())]) str1__0 (yf str1__0 pos1__0).2 else none)else (bif (yf str1__0 pos1__0).1==81 then (bif decide (aR.length+(1:Nat)≤memMax)then r0 (aR++[(y3i (yf str1__0 pos1__0).1,(1:Int),(1:Int),())]) str1__0 (yf str1__0 pos1__0).2 else none)else (bif (yf str1__0 pos1__0).1==82 then (bif decide (aR.length+(1:Nat)≤memMax)then r0 (aR++[(y3i (yf str1__0 pos1__0).1,(1:Int),(3:Int),())]) str1__0 (yf str1__0 pos1__0).2 else none)else (bif decide (aR.length+(1:Nat)≤memMax)then r0 (aR++[(y3i (yf str1__0 pos1__0).1,(1:Int),(0:Int),())]) str1__0 (yf str1__0 pos1__0).2 else none))))else some (aR,()))
def yJr(n:Nat)(k:Nat)(aR:List (Q3))(str1__0:List UInt8)(pos1__0:Int):Option (List (Q3)×Unit) :=
  iter (fun r y=>yKs n (fun aR str1__0 pos1__0=>r ((),((aR,((str1__0,pos1__0),())),()))) y.2.1.1 y.2.1.2.1.1 y.2.1.2.1.2) k ((),((aR,((str1__0,pos1__0),())),()))
def yQt(n:Nat)(names:List UInt8):Option (List (Q3)×Unit) :=
  (yJr n n ([]) (names) ((0:Int)))
theorem yUg(n:Nat)(x:yPx.den):runF yTS (yOO n) Tryz.f103 yPx yWJ x=yQt n x.1:=by kernel_rfl
def y5f(names:List UInt8):Option (List (Q3)×Unit):=yQt 1000 names
theorem yPt(names:List UInt8)(y:List (Q3)×Unit)(h:y5f names=some y):∃ n,yQt n names=some y:=⟨1000,h⟩
def z0Y_e:Entry:={ f:=103,args:=yPx,ress:=yWJ,m:=fun x=>y5f x.1 }
theorem yYY:FnOK Tryz.prog z0Y_e:=yJ (g:=yTS) (fn:=Tryz.f103) yB yI eNil (by kernel_rfl) (by kernel_rfl) (by kernel_rfl) (fun x y h=>let ⟨n,hn⟩:=yPt x.1 y h;⟨yOO n,iNil,(yUg n x).trans hn⟩)
abbrev ySA:Ty:=.pair t175 .unit
abbrev yT9:Ty:=.pair t28 .unit
def yTK:G:={ T:=T,E:=[],muts:=[],fz:=[] }
def yc0:List (List Nat):=[[5,6,7]]
def yOA(n:Nat):Ann:={ keep:=yc0,fuel:=n,inl:=[],deep:=0 }
def yEo(n:Nat)(r0:List Int→Int→Int→Option (Int×Unit))(aV:List Int)(aF:Int)(aA:Int):Option (Int×Unit) :=
  (bif decide (aA < aF)then (Option.bind (idx aV aA) fun v1=>(bif v1 != 0 then some (v1,())else r0 aV aF (IntKind.i64.wrap (aA+1))))else some ((0:Int),()))
def y6f(n:Nat)(k:Nat)(aV:List Int)(aF:Int)(aA:Int):Option (Int×Unit) :=
  iter (fun r y=>yEo n (fun aV aF aA=>r ((aV,(aF,(aA,()))),((),()))) y.1.1 y.1.2.1 y.1.2.2.1) k ((aV,(aF,(aA,()))),((),()))
def yKD(n:Nat)(l:List Int):Option (Int×Unit) :=
  (y6f n n (l) ((↑l.length:Int)) ((0:Int)))
theorem yZo(n:Nat)(x:ySA.den):runF yTK (yOA n) Tryz.f104 ySA yT9 x=yKD n x.1:=by kernel_rfl
def yF1(aV:List Int)(aA:Int)(v1:Int):Option ((Int×Unit)⊕Unit) :=
  (bif v1 != 0 then (some (Sum.inl ((v1,()))))else (some (Sum.inr ())))
def yEW(aV:List Int):Option (Int×Unit) :=
  (some (((0:Int),())))
theorem yCu(n:Nat)(hn:big≤n)(aV:List Int)(hx:List.length (aV) < lenMax):LeF some (yR (fun ac az a7=>yF1 aV ac az) (fun a7=>yEW aV) 0 (aV) ()) (y6f n n aV (List.length (aV):Int) 0):=by
  refine yU (f:=some) (W:=fun aE ac a7=>y6f n aE aV (List.length (aV):Int) ac) (body:=(fun ac az a7=>yF1 aV ac az)) (fin:=(fun a7=>yEW aV)) (fun aE ac a7=>?_) hx () n (by unfold big at hn;unfold lenMax at hx;omega)
  show LeF _ _ (yEo n (y6f n aE) aV (List.length (aV):Int) ac)
  exact yA (yE fun v1=>(yA (y6 rfl) (y6 rfl))) (y0C (y6 rfl))
def y1y(l:List Int):Option (Int×Unit) :=
  (bif decide (List.length (l) < lenMax)then yR (fun ac az a7=>yF1 (l) ac az) (fun a7=>yEW (l)) 0 (l) ()else none)
theorem yPn(l:List Int)(y:Int×Unit)(h:y1y l=some y):∃ n,yKD n l=some y :=
  ⟨big,LeF.top (show LeF some (y1y l) (yKD big l)from (fun (n:Nat) (hn:big≤n)=>show LeF some (y1y l) (yKD n l)from (yV fun hx=>by apply yCu n hn;exact hx)) big (Nat.le_refl _)) h⟩
def z16_e:Entry:={ f:=104,args:=ySA,ress:=yT9,m:=fun x=>y1y x.1 }
theorem y4J:FnOK Tryz.prog z16_e:=yJ (g:=yTK) (fn:=Tryz.f104) yB yI eNil (by kernel_rfl) (by kernel_rfl) (by kernel_rfl) (fun x y h=>let ⟨n,hn⟩:=yPn x.1 y h;⟨yOA n,iNil,(yZo n x).trans hn⟩)
abbrev ySF:Ty:=.pair t3 (.pair t3 .unit)
abbrev yUB:Ty:=.pair t3 .unit
def yaN:G:={ T:=T,E:=[],muts:=[],fz:=[] }
def yaW:List (List Nat):=[]
def yN6(n:Nat):Ann:={ keep:=yaW,fuel:=n,inl:=[],deep:=0 }
def yRB(n:Nat)(a:Int)(b:Int):Option (Int×Unit) :=
  (bif IntKind.i64.wrap ((2:Int) * b)==0 then none else (bif IntKind.i64.wrap ((2:Int) * b)==0 then none else (bif decide ((IntKind.i64.wrap (IntKind.i64.wrap ((2:Int) * a)+b)).tmod (IntKind.i64.wrap ((2:Int) * b)) < 0)then some (IntKind.i64.wrap (IntKind.i64.wrap ((IntKind.i64.wrap (IntKind.i64.wrap ((2:Int) * a)+b)).tdiv (IntKind.i64.wrap ((2:Int) * b))) - (1:Int)),())else some (IntKind.i64.wrap ((IntKind.i64.wrap (IntKind.i64.wrap ((2:Int) * a)+b)).tdiv (IntKind.i64.wrap ((2:Int) * b))),()))))
theorem ya3(n:Nat)(x:ySF.den):runF yaN (yN6 n) Tryz.f107 ySF yUB x=yRB n x.1 x.2.1:=by kernel_rfl
def yPy(a:Int)(b:Int):Option (Int×Unit):=yRB 0 a b
theorem yRW(a:Int)(b:Int)(y:Int×Unit)(h:yPy a b=some y):∃ n,yRB n a b=some y:=⟨0,h⟩
def z0T_e:Entry:={ f:=107,args:=ySF,ress:=yUB,m:=fun x=>yPy x.1 x.2.1 }
theorem yV0:FnOK Tryz.prog z0T_e:=yJ (g:=yaN) (fn:=Tryz.f107) yB yI eNil (by kernel_rfl) (by kernel_rfl) (by kernel_rfl) (fun x y h=>let ⟨n,hn⟩:=yRW x.1 x.2.1 y h;⟨yN6 n,iNil,(ya3 n x).trans hn⟩)
abbrev yQr:Ty:=.pair t3 .unit
abbrev yYG:Ty:=.pair t3 .unit
def yY7:G:={ T:=T,E:=[],muts:=[],fz:=[] }
def ycU:List (List Nat):=[]
def yMe(n:Nat):Ann:={ keep:=ycU,fuel:=n,inl:=[],deep:=0 }
def yM8(n:Nat)(n1:Int):Option (Int×Unit) :=
  some (if IntKind.i64.wrap ((0:Int) - n1) > n1 then IntKind.i64.wrap ((0:Int) - n1)else n1,())
theorem yVj(n:Nat)(x:yQr.den):runF yY7 (yMe n) Tryz.f108 yQr yYG x=yM8 n x.1:=by kernel_rfl
def z0E(n1:Int):(Int×Unit) :=
  (if IntKind.i64.wrap ((0:Int) - n1) > n1 then IntKind.i64.wrap ((0:Int) - n1)else n1,())
abbrev yY9 (n1:Int):Option (Int×Unit):=some (z0E n1)
theorem yRv(n1:Int)(y:Int×Unit)(h:yY9 n1=some y):∃ n,yM8 n n1=some y :=
  ⟨0,by rw[← h];show yM8 0 n1=some (z0E n1);unfold yM8 z0E;first|rfl|(simp only[yF];done)|(simp only[yF];rfl)⟩
def z0E_e:Entry:={ f:=108,args:=yQr,ress:=yYG,m:=fun x=>yY9 x.1 }
theorem yBA:FnOK Tryz.prog z0E_e:=yJ (g:=yY7) (fn:=Tryz.f108) yB yI eNil (by kernel_rfl) (by kernel_rfl) (by kernel_rfl) (fun x y h=>let ⟨n,hn⟩:=yRv x.1 y h;⟨yMe n,iNil,(yVj n x).trans hn⟩)
abbrev yRT:Ty:=.pair t4 (.pair t28 .unit)
abbrev yYH:Ty:=.pair t28 .unit
def yZ4:G:={ T:=T,E:=[],muts:=[],fz:=[] }
def ycu:List (List Nat):=[]
def yMk(n:Nat):Ann:={ keep:=ycu,fuel:=n,inl:=[],deep:=0 }
def yLm(n:Nat)(holds:Bool)(e:Int):Option (Int×Unit) :=
  (bif holds then some (e,())else some ((0:Int),()))
theorem yXz(n:Nat)(x:yRT.den):runF yZ4 (yMk n) Tryz.f113 yRT yYH x=yLm n x.1 x.2.1:=by kernel_rfl
def z1M(holds:Bool)(e:Int):(Int×Unit) :=
  (bif holds then (e,())else ((0:Int),()))
abbrev ya0 (holds:Bool) (e:Int):Option (Int×Unit):=some (z1M holds e)
theorem ySv(holds:Bool)(e:Int)(y:Int×Unit)(h:ya0 holds e=some y):∃ n,yLm n holds e=some y :=
  ⟨0,by rw[← h];show yLm 0 holds e=some (z1M holds e);unfold yLm z1M;first|rfl|(simp only[yF];done)|(simp only[yF];rfl)⟩
def z1M_e:Entry:={ f:=113,args:=yRT,ress:=yYH,m:=fun x=>ya0 x.1 x.2.1 }
theorem y6H:FnOK Tryz.prog z1M_e:=yJ (g:=yZ4) (fn:=Tryz.f113) yB yI eNil (by kernel_rfl) (by kernel_rfl) (by kernel_rfl) (fun x y h=>let ⟨n,hn⟩:=ySv x.1 x.2.1 y h;⟨yMk n,iNil,(yXz n x).trans hn⟩)
abbrev zF_a:Ty:=.pair t23 (.pair t177 .unit)
abbrev zF_r:Ty:=.pair t175 .unit
def zF_g:G:={ T:=T,E:=[],muts:=[5],fz:=[] }
def zF_k:List (List Nat):=[[1,5,8,9,10]]
def yTl(n:Nat):Ann:={ keep:=zF_k,fuel:=n,inl:=[],deep:=0 }
def yJm(n:Nat)(r0:((Q4)×Unit→Option (Int×Unit))→List (Q4)→Int→Int→List Int→Option (List Int×Unit))(aa:(Q4)×Unit→Option (Int×Unit))(a8:List (Q4))(al:Int)(ae:Int)(ai:List Int):Option (List Int×Unit) :=
  (bif decide (ae < al)then (Option.bind (idx a8 ae) fun v1=>(Option.bind (aa ((v1.1,v1.2.1,()),())) fun v2=>(bif decide (ai.length+(1:Nat)≤memMax)then r0 aa a8 al (IntKind.i64.wrap (ae+1)) (ai++[v2.1])else none)))else some (ai,()))
def yAT(n:Nat)(k:Nat)(aa:(Q4)×Unit→Option (Int×Unit))(a8:List (Q4))(al:Int)(ae:Int)(ai:List Int):Option (List Int×Unit) :=
  iter (fun r y=>yJm n (fun aa a8 al ae ai=>r ((aa,(a8,(al,(ae,())))),((ai,()),()))) y.1.1 y.1.2.1 y.1.2.2.1 y.1.2.2.2.1 y.2.1.1) k ((aa,(a8,(al,(ae,())))),((ai,()),()))
def zF_m(n:Nat)(l:List (Q4))(of:(Q4)×Unit→Option (Int×Unit)):Option (List Int×Unit) :=
  (yAT n n (of) (l) ((↑l.length:Int)) ((0:Int)) ([]))
theorem ycg(n:Nat)(x:zF_a.den):runF zF_g (yTl n) Tryz.f115 zF_a zF_r x=zF_m n x.1 x.2.1:=by kernel_rfl
def yLL(aa:(Q4)×Unit→Option (Int×Unit))(a8:List (Q4))(ae:Int)(v1:Q4)(ai:List Int):Option ((List Int×Unit)⊕(List Int)) :=
  (Option.bind (aa ((v1.1,v1.2.1,()),())) fun v2=>(bif decide (ai.length+(1:Nat)≤memMax)then (some (Sum.inr (ai++[v2.1])))else none))
def yOV(aa:(Q4)×Unit→Option (Int×Unit))(a8:List (Q4))(ai:List Int):Option (List Int×Unit) :=
  (some ((ai,())))
theorem yFq(n:Nat)(hn:big≤n)(aa:(Q4)×Unit→Option (Int×Unit))(a8:List (Q4))(ai:List Int)(hx:List.length (a8) < lenMax):LeF some (yR (fun ac az a7=>yLL aa a8 ac az a7) (fun a7=>yOV aa a8 a7) 0 (a8) ai) (yAT n n aa a8 (List.length (a8):Int) 0 ai):=by
  refine yU (f:=some) (W:=fun aE ac a7=>yAT n aE aa a8 (List.length (a8):Int) ac a7) (body:=(fun ac az a7=>yLL aa a8 ac az a7)) (fin:=(fun a7=>yOV aa a8 a7)) (fun aE ac a7=>?_) hx ai n (by unfold big at hn;unfold lenMax at hx;omega)
  show LeF _ _ (yJm n (yAT n aE) aa a8 (List.length (a8):Int) ac a7)
  exact yA (yE fun v1=>(yE fun v2=>(yA (y6 rfl) y19))) (y0C (y6 rfl))
def zF_M(l:List (Q4))(of:(Q4)×Unit→Option (Int×Unit)):Option (List Int×Unit) :=
  (bif decide (List.length (l) < lenMax)then yR (fun ac az a7=>yLL (of) (l) ac az a7) (fun a7=>yOV (of) (l) a7) 0 (l) ([])else none)
theorem ya9(l:List (Q4))(of:(Q4)×Unit→Option (Int×Unit))(y:List Int×Unit)(h:zF_M l of=some y):∃ n,zF_m n l of=some y :=
  ⟨big,LeF.top (show LeF some (zF_M l of) (zF_m big l of)from (fun (n:Nat) (hn:big≤n)=>show LeF some (zF_M l of) (zF_m n l of)from (yV fun hx=>by apply yFq n hn;exact hx)) big (Nat.le_refl _)) h⟩
def zF_e:Entry:={ f:=115,args:=zF_a,ress:=zF_r,m:=fun x=>zF_M x.1 x.2.1 }
theorem yYV:FnOK Tryz.prog zF_e:=yJ (g:=zF_g) (fn:=Tryz.f115) yB yI eNil (by kernel_rfl) (by kernel_rfl) (by kernel_rfl) (fun x y h=>let ⟨n,hn⟩:=ya9 x.1 x.2.1 y h;⟨yTl n,iNil,(ycg n x).trans hn⟩)
abbrev yQD:Ty:=.pair t57 (.pair t57 .unit)
abbrev yYy:Ty:=.pair t57 .unit
def yWn:G:={ T:=T,E:=[],muts:=[],fz:=[] }
def ycC:List (List Nat):=[]
def yNH(n:Nat):Ann:={ keep:=ycC,fuel:=n,inl:=[],deep:=0 }
def yLq(n:Nat)(a:Q4)(b:Q4):Option ((Q4)×Unit) :=
  some ((IntKind.i64.wrap (IntKind.i64.wrap (a.1 * b.1) - IntKind.i64.wrap (a.2.1 * b.2.1)),IntKind.i64.wrap (IntKind.i64.wrap (a.1 * b.2.1)+IntKind.i64.wrap (a.2.1 * b.1)),()),())
theorem yaF(n:Nat)(x:yQD.den):runF yWn (yNH n) Tryz.f125 yQD yYy x=yLq n x.1 x.2.1:=by kernel_rfl
def z1C(a:Q4)(b:Q4):((Q4)×Unit) :=
  ((IntKind.i64.wrap (IntKind.i64.wrap (a.1 * b.1) - IntKind.i64.wrap (a.2.1 * b.2.1)),IntKind.i64.wrap (IntKind.i64.wrap (a.1 * b.2.1)+IntKind.i64.wrap (a.2.1 * b.1)),()),())
abbrev yWA (a:Q4) (b:Q4):Option ((Q4)×Unit):=some (z1C a b)
theorem yPZ(a:Q4)(b:Q4)(y:(Q4)×Unit)(h:yWA a b=some y):∃ n,yLq n a b=some y :=
  ⟨0,by rw[← h];show yLq 0 a b=some (z1C a b);unfold yLq z1C;first|rfl|(simp only[yF];done)|(simp only[yF];rfl)⟩
def z1C_e:Entry:={ f:=125,args:=yQD,ress:=yYy,m:=fun x=>yWA x.1 x.2.1 }
theorem yEv:FnOK Tryz.prog z1C_e:=yJ (g:=yWn) (fn:=Tryz.f125) yB yI eNil (by kernel_rfl) (by kernel_rfl) (by kernel_rfl) (fun x y h=>let ⟨n,hn⟩:=yPZ x.1 x.2.1 y h;⟨yNH n,iNil,(yaF n x).trans hn⟩)
abbrev yRG:Ty:=.pair t57 .unit
abbrev yVU:Ty:=.pair t57 .unit
def yaB:G:={ T:=T,E:=[],muts:=[],fz:=[] }
def yc3:List (List Nat):=[]
def yO7(n:Nat):Ann:={ keep:=yc3,fuel:=n,inl:=[],deep:=0 }
def yLe(n:Nat)(a:Q4):Option ((Q4)×Unit) :=
  some ((a.1,IntKind.i64.wrap ((0:Int) - a.2.1),()),())
theorem yZS(n:Nat)(x:yRG.den):runF yaB (yO7 n) Tryz.f126 yRG yVU x=yLe n x.1:=by kernel_rfl
def z06(a:Q4):((Q4)×Unit) :=
  ((a.1,IntKind.i64.wrap ((0:Int) - a.2.1),()),())
abbrev yZM (a:Q4):Option ((Q4)×Unit):=some (z06 a)
theorem yPE(a:Q4)(y:(Q4)×Unit)(h:yZM a=some y):∃ n,yLe n a=some y :=
  ⟨0,by rw[← h];show yLe 0 a=some (z06 a);unfold yLe z06;first|rfl|(simp only[yF];done)|(simp only[yF];rfl)⟩
def z06_e:Entry:={ f:=126,args:=yRG,ress:=yVU,m:=fun x=>yZM x.1 }
theorem yJI:FnOK Tryz.prog z06_e:=yJ (g:=yaB) (fn:=Tryz.f126) yB yI eNil (by kernel_rfl) (by kernel_rfl) (by kernel_rfl) (fun x y h=>let ⟨n,hn⟩:=yPE x.1 y h;⟨yO7 n,iNil,(yZS n x).trans hn⟩)
abbrev z7_a:Ty:=.pair t31 (.pair t192 .unit)
abbrev z7_r:Ty:=.pair t31 .unit
def z7_g:G:={ T:=T,E:=[],muts:=[5],fz:=[] }
def z7_k:List (List Nat):=[[1,5,8,9,10]]
def yVx(n:Nat):Ann:={ keep:=z7_k,fuel:=n,inl:=[],deep:=0 }
def yJR(n:Nat)(r0:((Q3)×Unit→Option ((Q3)×Unit))→List (Q3)→Int→Int→List (Q3)→Option (List (Q3)×Unit))(aa:(Q3)×Unit→Option ((Q3)×Unit))(a8:List (Q3))(al:Int)(ae:Int)(ai:List (Q3)):Option (List (Q3)×Unit) :=
  (bif decide (ae < al)then (Option.bind (idx a8 ae) fun v1=>(Option.bind (aa ((v1.1,v1.2.1,v1.2.2.1,()),())) fun v2=>(bif decide (ai.length+(1:Nat)≤memMax)then r0 aa a8 al (IntKind.i64.wrap (ae+1)) (ai++[v2.1])else none)))else some (ai,()))
def yA6(n:Nat)(k:Nat)(aa:(Q3)×Unit→Option ((Q3)×Unit))(a8:List (Q3))(al:Int)(ae:Int)(ai:List (Q3)):Option (List (Q3)×Unit) :=
  iter (fun r y=>yJR n (fun aa a8 al ae ai=>r ((aa,(a8,(al,(ae,())))),((ai,()),()))) y.1.1 y.1.2.1 y.1.2.2.1 y.1.2.2.2.1 y.2.1.1) k ((aa,(a8,(al,(ae,())))),((ai,()),()))
def z7_m(n:Nat)(l:List (Q3))(of:(Q3)×Unit→Option ((Q3)×Unit)):Option (List (Q3)×Unit) :=
  (yA6 n n (of) (l) ((↑l.length:Int)) ((0:Int)) ([]))
theorem yab(n:Nat)(x:z7_a.den):runF z7_g (yVx n) Tryz.f130 z7_a z7_r x=z7_m n x.1 x.2.1:=by kernel_rfl
def yRx(aa:(Q3)×Unit→Option ((Q3)×Unit))(a8:List (Q3))(ae:Int)(v1:Q3)(ai:List (Q3)):Option ((List (Q3)×Unit)⊕(List (Q3))) :=
  (Option.bind (aa ((v1.1,v1.2.1,v1.2.2.1,()),())) fun v2=>(bif decide (ai.length+(1:Nat)≤memMax)then (some (Sum.inr (ai++[v2.1])))else none))
def yR6(aa:(Q3)×Unit→Option ((Q3)×Unit))(a8:List (Q3))(ai:List (Q3)):Option (List (Q3)×Unit) :=
  (some ((ai,())))
theorem yGj(n:Nat)(hn:big≤n)(aa:(Q3)×Unit→Option ((Q3)×Unit))(a8:List (Q3))(ai:List (Q3))(hx:List.length (a8) < lenMax):LeF some (yR (fun ac az a7=>yRx aa a8 ac az a7) (fun a7=>yR6 aa a8 a7) 0 (a8) ai) (yA6 n n aa a8 (List.length (a8):Int) 0 ai):=by
  refine yU (f:=some) (W:=fun aE ac a7=>yA6 n aE aa a8 (List.length (a8):Int) ac a7) (body:=(fun ac az a7=>yRx aa a8 ac az a7)) (fin:=(fun a7=>yR6 aa a8 a7)) (fun aE ac a7=>?_) hx ai n (by unfold big at hn;unfold lenMax at hx;omega)
  show LeF _ _ (yJR n (yA6 n aE) aa a8 (List.length (a8):Int) ac a7)
  exact yA (yE fun v1=>(yE fun v2=>(yA (y6 rfl) y19))) (y0C (y6 rfl))
def z7_M(l:List (Q3))(of:(Q3)×Unit→Option ((Q3)×Unit)):Option (List (Q3)×Unit) :=
  (bif decide (List.length (l) < lenMax)then yR (fun ac az a7=>yRx (of) (l) ac az a7) (fun a7=>yR6 (of) (l) a7) 0 (l) ([])else none)
theorem yaC(l:List (Q3))(of:(Q3)×Unit→Option ((Q3)×Unit))(y:List (Q3)×Unit)(h:z7_M l of=some y):∃ n,z7_m n l of=some y :=
  ⟨big,LeF.top (show LeF some (z7_M l of) (z7_m big l of)from (fun (n:Nat) (hn:big≤n)=>show LeF some (z7_M l of) (z7_m n l of)from (yV fun hx=>by apply yGj n hn;exact hx)) big (Nat.le_refl _)) h⟩
def z7_e:Entry:={ f:=130,args:=z7_a,ress:=z7_r,m:=fun x=>z7_M x.1 x.2.1 }
theorem ycb:FnOK Tryz.prog z7_e:=yJ (g:=z7_g) (fn:=Tryz.f130) yB yI eNil (by kernel_rfl) (by kernel_rfl) (by kernel_rfl) (fun x y h=>let ⟨n,hn⟩:=yaC x.1 x.2.1 y h;⟨yVx n,iNil,(yab n x).trans hn⟩)
abbrev zG_a:Ty:=.pair t23 (.pair t129 .unit)
abbrev zG_r:Ty:=.pair t23 .unit
def zG_g:G:={ T:=T,E:=[],muts:=[5],fz:=[] }
def zG_k:List (List Nat):=[[1,5,8,9,10]]
def yZj(n:Nat):Ann:={ keep:=zG_k,fuel:=n,inl:=[],deep:=0 }
def yIW(n:Nat)(r0:((Q4)×Unit→Option ((Q4)×Unit))→List (Q4)→Int→Int→List (Q4)→Option (List (Q4)×Unit))(aa:(Q4)×Unit→Option ((Q4)×Unit))(a8:List (Q4))(al:Int)(ae:Int)(ai:List (Q4)):Option (List (Q4)×Unit) :=
  (bif decide (ae < al)then (Option.bind (idx a8 ae) fun v1=>(Option.bind (aa ((v1.1,v1.2.1,()),())) fun v2=>(bif decide (ai.length+(1:Nat)≤memMax)then r0 aa a8 al (IntKind.i64.wrap (ae+1)) (ai++[v2.1])else none)))else some (ai,()))
def yAV(n:Nat)(k:Nat)(aa:(Q4)×Unit→Option ((Q4)×Unit))(a8:List (Q4))(al:Int)(ae:Int)(ai:List (Q4)):Option (List (Q4)×Unit) :=
  iter (fun r y=>yIW n (fun aa a8 al ae ai=>r ((aa,(a8,(al,(ae,())))),((ai,()),()))) y.1.1 y.1.2.1 y.1.2.2.1 y.1.2.2.2.1 y.2.1.1) k ((aa,(a8,(al,(ae,())))),((ai,()),()))
def zG_m(n:Nat)(l:List (Q4))(of:(Q4)×Unit→Option ((Q4)×Unit)):Option (List (Q4)×Unit) :=
  (yAV n n (of) (l) ((↑l.length:Int)) ((0:Int)) ([]))
theorem ycV(n:Nat)(x:zG_a.den):runF zG_g (yZj n) Tryz.f132 zG_a zG_r x=zG_m n x.1 x.2.1:=by kernel_rfl
def yPd(aa:(Q4)×Unit→Option ((Q4)×Unit))(a8:List (Q4))(ae:Int)(v1:Q4)(ai:List (Q4)):Option ((List (Q4)×Unit)⊕(List (Q4))) :=
  (Option.bind (aa ((v1.1,v1.2.1,()),())) fun v2=>(bif decide (ai.length+(1:Nat)≤memMax)then (some (Sum.inr (ai++[v2.1])))else none))
def yRu(aa:(Q4)×Unit→Option ((Q4)×Unit))(a8:List (Q4))(ai:List (Q4)):Option (List (Q4)×Unit) :=
  (some ((ai,())))
theorem yGO(n:Nat)(hn:big≤n)(aa:(Q4)×Unit→Option ((Q4)×Unit))(a8:List (Q4))(ai:List (Q4))(hx:List.length (a8) < lenMax):LeF some (yR (fun ac az a7=>yPd aa a8 ac az a7) (fun a7=>yRu aa a8 a7) 0 (a8) ai) (yAV n n aa a8 (List.length (a8):Int) 0 ai):=by
  refine yU (f:=some) (W:=fun aE ac a7=>yAV n aE aa a8 (List.length (a8):Int) ac a7) (body:=(fun ac az a7=>yPd aa a8 ac az a7)) (fin:=(fun a7=>yRu aa a8 a7)) (fun aE ac a7=>?_) hx ai n (by unfold big at hn;unfold lenMax at hx;omega)
  show LeF _ _ (yIW n (yAV n aE) aa a8 (List.length (a8):Int) ac a7)
  exact yA (yE fun v1=>(yE fun v2=>(yA (y6 rfl) y19))) (y0C (y6 rfl))
def zG_M(l:List (Q4))(of:(Q4)×Unit→Option ((Q4)×Unit)):Option (List (Q4)×Unit) :=
  (bif decide (List.length (l) < lenMax)then yR (fun ac az a7=>yPd (of) (l) ac az a7) (fun a7=>yRu (of) (l) a7) 0 (l) ([])else none)
theorem yVm(l:List (Q4))(of:(Q4)×Unit→Option ((Q4)×Unit))(y:List (Q4)×Unit)(h:zG_M l of=some y):∃ n,zG_m n l of=some y :=
  ⟨big,LeF.top (show LeF some (zG_M l of) (zG_m big l of)from (fun (n:Nat) (hn:big≤n)=>show LeF some (zG_M l of) (zG_m n l of)from (yV fun hx=>by apply yGO n hn;exact hx)) big (Nat.le_refl _)) h⟩
def zG_e:Entry:={ f:=132,args:=zG_a,ress:=zG_r,m:=fun x=>zG_M x.1 x.2.1 }
theorem ybr:FnOK Tryz.prog zG_e:=yJ (g:=zG_g) (fn:=Tryz.f132) yB yI eNil (by kernel_rfl) (by kernel_rfl) (by kernel_rfl) (fun x y h=>let ⟨n,hn⟩:=yVm x.1 x.2.1 y h;⟨yZj n,iNil,(ycV n x).trans hn⟩)
abbrev yRw:Ty:=.pair t57 (.pair t3 .unit)
abbrev yUl:Ty:=.pair t57 .unit
def yXX:G:={ T:=T,E:=[],muts:=[],fz:=[] }
def ycI:List (List Nat):=[]
def yN0(n:Nat):Ann:={ keep:=ycI,fuel:=n,inl:=[],deep:=0 }
def yLr(n:Nat)(a:Q4)(n1:Int):Option ((Q4)×Unit) :=
  some ((IntKind.i64.wrap (n1 * a.1),IntKind.i64.wrap (n1 * a.2.1),()),())
theorem yUE(n:Nat)(x:yRw.den):runF yXX (yN0 n) Tryz.f134 yRw yUl x=yLr n x.1 x.2.1:=by kernel_rfl
def z0n(a:Q4)(n1:Int):((Q4)×Unit) :=
  ((IntKind.i64.wrap (n1 * a.1),IntKind.i64.wrap (n1 * a.2.1),()),())
abbrev yYZ (a:Q4) (n1:Int):Option ((Q4)×Unit):=some (z0n a n1)
theorem ySL(a:Q4)(n1:Int)(y:(Q4)×Unit)(h:yYZ a n1=some y):∃ n,yLr n a n1=some y :=
  ⟨0,by rw[← h];show yLr 0 a n1=some (z0n a n1);unfold yLr z0n;first|rfl|(simp only[yF];done)|(simp only[yF];rfl)⟩
def z0n_e:Entry:={ f:=134,args:=yRw,ress:=yUl,m:=fun x=>yYZ x.1 x.2.1 }
theorem yHg:FnOK Tryz.prog z0n_e:=yJ (g:=yXX) (fn:=Tryz.f134) yB yI eNil (by kernel_rfl) (by kernel_rfl) (by kernel_rfl) (fun x y h=>let ⟨n,hn⟩:=ySL x.1 x.2.1 y h;⟨yN0 n,iNil,(yUE n x).trans hn⟩)
abbrev yOt:Ty:=.pair t57 (.pair t57 .unit)
abbrev yV8:Ty:=.pair t57 .unit
def yUa:G:={ T:=T,E:=[],muts:=[],fz:=[] }
def yar:List (List Nat):=[]
def yNa(n:Nat):Ann:={ keep:=yar,fuel:=n,inl:=[],deep:=0 }
def yLV(n:Nat)(a:Q4)(b:Q4):Option ((Q4)×Unit) :=
  some ((IntKind.i64.wrap (a.1+b.1),IntKind.i64.wrap (a.2.1+b.2.1),()),())
theorem yXt(n:Nat)(x:yOt.den):runF yUa (yNa n) Tryz.f135 yOt yV8 x=yLV n x.1 x.2.1:=by kernel_rfl
def z1L(a:Q4)(b:Q4):((Q4)×Unit) :=
  ((IntKind.i64.wrap (a.1+b.1),IntKind.i64.wrap (a.2.1+b.2.1),()),())
abbrev yXL (a:Q4) (b:Q4):Option ((Q4)×Unit):=some (z1L a b)
theorem yP1(a:Q4)(b:Q4)(y:(Q4)×Unit)(h:yXL a b=some y):∃ n,yLV n a b=some y :=
  ⟨0,by rw[← h];show yLV 0 a b=some (z1L a b);unfold yLV z1L;first|rfl|(simp only[yF];done)|(simp only[yF];rfl)⟩
def z1L_e:Entry:={ f:=135,args:=yOt,ress:=yV8,m:=fun x=>yXL x.1 x.2.1 }
theorem yEC:FnOK Tryz.prog z1L_e:=yJ (g:=yUa) (fn:=Tryz.f135) yB yI eNil (by kernel_rfl) (by kernel_rfl) (by kernel_rfl) (fun x y h=>let ⟨n,hn⟩:=yP1 x.1 x.2.1 y h;⟨yNa n,iNil,(yXt n x).trans hn⟩)
abbrev zH_a:Ty:=.pair t23 (.pair t196 .unit)
abbrev zH_r:Ty:=.pair t79 .unit
def zH_g:G:={ T:=T,E:=[],muts:=[5],fz:=[] }
def zH_k:List (List Nat):=[[1,5,8,9,10]]
def yXC(n:Nat):Ann:={ keep:=zH_k,fuel:=n,inl:=[],deep:=0 }
def yHH(n:Nat)(r0:((Q4)×Unit→Option ((Nat×Nat)×Unit))→List (Q4)→Int→Int→List (Nat×Nat)→Option (List (Nat×Nat)×Unit))(aa:(Q4)×Unit→Option ((Nat×Nat)×Unit))(a8:List (Q4))(al:Int)(ae:Int)(ai:List (Nat×Nat)):Option (List (Nat×Nat)×Unit) :=
  (bif decide (ae < al)then (Option.bind (idx a8 ae) fun v1=>(Option.bind (aa ((v1.1,v1.2.1,()),())) fun v2=>(bif decide (ai.length+(1:Nat)≤memMax)then r0 aa a8 al (IntKind.i64.wrap (ae+1)) (ai++[v2.1])else none)))else some (ai,()))
def yAl(n:Nat)(k:Nat)(aa:(Q4)×Unit→Option ((Nat×Nat)×Unit))(a8:List (Q4))(al:Int)(ae:Int)(ai:List (Nat×Nat)):Option (List (Nat×Nat)×Unit) :=
  iter (fun r y=>yHH n (fun aa a8 al ae ai=>r ((aa,(a8,(al,(ae,())))),((ai,()),()))) y.1.1 y.1.2.1 y.1.2.2.1 y.1.2.2.2.1 y.2.1.1) k ((aa,(a8,(al,(ae,())))),((ai,()),()))
def zH_m(n:Nat)(l:List (Q4))(of:(Q4)×Unit→Option ((Nat×Nat)×Unit)):Option (List (Nat×Nat)×Unit) :=
  (yAl n n (of) (l) ((↑l.length:Int)) ((0:Int)) ([]))
theorem yaX(n:Nat)(x:zH_a.den):runF zH_g (yXC n) Tryz.f139 zH_a zH_r x=zH_m n x.1 x.2.1:=by kernel_rfl
def yPa(aa:(Q4)×Unit→Option ((Nat×Nat)×Unit))(a8:List (Q4))(ae:Int)(v1:Q4)(ai:List (Nat×Nat)):Option ((List (Nat×Nat)×Unit)⊕(List (Nat×Nat))) :=
  (Option.bind (aa ((v1.1,v1.2.1,()),())) fun v2=>(bif decide (ai.length+(1:Nat)≤memMax)then (some (Sum.inr (ai++[v2.1])))else none))
def ySh(aa:(Q4)×Unit→Option ((Nat×Nat)×Unit))(a8:List (Q4))(ai:List (Nat×Nat)):Option (List (Nat×Nat)×Unit) :=
  (some ((ai,())))
theorem yGT(n:Nat)(hn:big≤n)(aa:(Q4)×Unit→Option ((Nat×Nat)×Unit))(a8:List (Q4))(ai:List (Nat×Nat))(hx:List.length (a8) < lenMax):LeF some (yR (fun ac az a7=>yPa aa a8 ac az a7) (fun a7=>ySh aa a8 a7) 0 (a8) ai) (yAl n n aa a8 (List.length (a8):Int) 0 ai):=by
  refine yU (f:=some) (W:=fun aE ac a7=>yAl n aE aa a8 (List.length (a8):Int) ac a7) (body:=(fun ac az a7=>yPa aa a8 ac az a7)) (fin:=(fun a7=>ySh aa a8 a7)) (fun aE ac a7=>?_) hx ai n (by unfold big at hn;unfold lenMax at hx;omega)
  show LeF _ _ (yHH n (yAl n aE) aa a8 (List.length (a8):Int) ac a7)
  exact yA (yE fun v1=>(yE fun v2=>(yA (y6 rfl) y19))) (y0C (y6 rfl))
def zH_M(l:List (Q4))(of:(Q4)×Unit→Option ((Nat×Nat)×Unit)):Option (List (Nat×Nat)×Unit) :=
  (bif decide (List.length (l) < lenMax)then yR (fun ac az a7=>yPa (of) (l) ac az a7) (fun a7=>ySh (of) (l) a7) 0 (l) ([])else none)
theorem yZl(l:List (Q4))(of:(Q4)×Unit→Option ((Nat×Nat)×Unit))(y:List (Nat×Nat)×Unit)(h:zH_M l of=some y):∃ n,zH_m n l of=some y :=
  ⟨big,LeF.top (show LeF some (zH_M l of) (zH_m big l of)from (fun (n:Nat) (hn:big≤n)=>show LeF some (zH_M l of) (zH_m n l of)from (yV fun hx=>by apply yGT n hn;exact hx)) big (Nat.le_refl _)) h⟩
def zH_e:Entry:={ f:=139,args:=zH_a,ress:=zH_r,m:=fun x=>zH_M x.1 x.2.1 }
theorem ycn:FnOK Tryz.prog zH_e:=yJ (g:=zH_g) (fn:=Tryz.f139) yB yI eNil (by kernel_rfl) (by kernel_rfl) (by kernel_rfl) (fun x y h=>let ⟨n,hn⟩:=yZl x.1 x.2.1 y h;⟨yXC n,iNil,(yaX n x).trans hn⟩)
abbrev yQI:Ty:=.pair t57 (.pair (.ref t165) .unit)
abbrev yZB:Ty:=.pair t165 .unit
def yXP:G:={ T:=T,E:=[],muts:=[],fz:=[] }
def yd6:List (List Nat):=[]
def yN9(n:Nat):Ann:={ keep:=yd6,fuel:=n,inl:=[],deep:=0 }
def yMB(n:Nat)(z:Q4)(p1:Nat×Nat):Option ((Nat×Nat)×Unit) :=
  some ((y01 Go.BinOp.quo Go.FloatKind.f32 (y17 Go.FloatKind.f32 z.1) p1.1,y01 Go.BinOp.quo Go.FloatKind.f32 (y17 Go.FloatKind.f32 z.2.1) p1.1),())
theorem yXK(n:Nat)(x:yQI.den):runF yXP (yN9 n) Tryz.f140 yQI yZB x=yMB n x.1 x.2.1:=by kernel_rfl
def z0k(z:Q4)(p1:Nat×Nat):((Nat×Nat)×Unit) :=
  ((y01 Go.BinOp.quo Go.FloatKind.f32 (y17 Go.FloatKind.f32 z.1) p1.1,y01 Go.BinOp.quo Go.FloatKind.f32 (y17 Go.FloatKind.f32 z.2.1) p1.1),())
abbrev yQk (z:Q4) (p1:Nat×Nat):Option ((Nat×Nat)×Unit):=some (z0k z p1)
theorem ySW(z:Q4)(p1:Nat×Nat)(y:(Nat×Nat)×Unit)(h:yQk z p1=some y):∃ n,yMB n z p1=some y :=
  ⟨0,by rw[← h];show yMB 0 z p1=some (z0k z p1);unfold yMB z0k;first|rfl|(simp only[yF];done)|(simp only[yF];rfl)⟩
def z0k_e:Entry:={ f:=140,args:=yQI,ress:=yZB,m:=fun x=>yQk x.1 x.2.1 }
theorem yWC:FnOK Tryz.prog z0k_e:=yJ (g:=yXP) (fn:=Tryz.f140) yB yI eNil (by kernel_rfl) (by kernel_rfl) (by kernel_rfl) (fun x y h=>let ⟨n,hn⟩:=ySW x.1 x.2.1 y h;⟨yN9 n,iNil,(yXK n x).trans hn⟩)
abbrev ySl:Ty:=.pair t3 (.pair t3 .unit)
abbrev yZf:Ty:=.pair t69 .unit
def yUt:G:={ T:=T,E:=[],muts:=[],fz:=[] }
def ycf:List (List Nat):=[[0,1,4,5,6]]
def yNC(n:Nat):Ann:={ keep:=ycf,fuel:=n,inl:=[],deep:=0 }
def yDq(n:Nat)(r2:Int→Int→Int→Int→Int→Int→Option ((Q4)×Unit))(bl:Int)(bm:Int)(bI:Int)(bM:Int)(bC:Int)(bD:Int):Option ((Q4)×Unit) :=
  (bif bM != 0 then (bif bM==0 then none else r2 bl bm bM (bI.tmod bM) bC bD)else (bif bI==0 then none else (bif bI==0 then none else some ((IntKind.i64.wrap (bl.tdiv bI),IntKind.i64.wrap (bm.tdiv bI),()),()))))
def y6r(n:Nat)(k:Nat)(bl:Int)(bm:Int)(bI:Int)(bM:Int)(bC:Int)(bD:Int):Option ((Q4)×Unit) :=
  iter (fun r y=>yDq n (fun bl bm bI bM bC bD=>r ((bl,(bm,(bI,(bM,())))),(((bC,(bD,())),()),()))) y.1.1 y.1.2.1 y.1.2.2.1 y.1.2.2.2.1 y.2.1.1.1 y.2.1.1.2.1) k ((bl,(bm,(bI,(bM,())))),(((bC,(bD,())),()),()))
def yA8(n:Nat)(j0:Int)(j1:Int):Option ((Q4)×Unit) :=
  (y6r n n (j0) (j1) (if IntKind.i64.wrap ((0:Int) - j0) > j0 then IntKind.i64.wrap ((0:Int) - j0)else j0) (j1) ((0:Int)) ((0:Int)))
def yL6(n:Nat)(num:Int)(den:Int):Option ((Q4)×Unit) :=
  (bif decide (den < 0)then (yA8 n (IntKind.i64.wrap ((0:Int) - num)) (IntKind.i64.wrap ((0:Int) - den)))else (yA8 n (num) (den)))
theorem yXf(n:Nat)(x:ySl.den):runF yUt (yNC n) Tryz.f142 ySl yZf x=yL6 n x.1 x.2.1:=by kernel_rfl
def y7j(bl:Int)(bm:Int)(bC:Int)(bD:Int)(bI:Int)(bM:Int):Option (((Q4)×Unit)⊕(Int×Int)) :=
  (bif bM != 0 then (bif bM==0 then none else (some (Sum.inr ((bM),(bI.tmod bM)))))else (bif bI==0 then none else (bif bI==0 then none else (some (Sum.inl (((IntKind.i64.wrap (bl.tdiv bI),IntKind.i64.wrap (bm.tdiv bI),()),())))))))
theorem yDF(n:Nat)(hn:big≤n)(bl:Int)(bm:Int)(bC:Int)(bD:Int)(bI:Int)(bM:Int):LeF some (y1q (fun a7=>y7j bl bm bC bD a7.1 a7.2) wMax (bI,bM)) (y6r n n bl bm bI bM bC bD):=by
  refine y52 (f:=some) (W:=fun aE a7=>y6r n aE bl bm a7.1 a7.2 bC bD) (body:=(fun a7=>y7j bl bm bC bD a7.1 a7.2)) (fun aE a7=>?_) wMax n (bI,bM) (by unfold big at hn;unfold wMax;omega)
  show LeF _ _ (yDq n (y6r n aE) bl bm a7.1 a7.2 bC bD)
  exact (yA (yA y19 (y6 rfl)) (yA y19 (yA y19 (y6 rfl))))
def yEn(j0:Int)(j1:Int):Option ((Q4)×Unit) :=
  (y1q (fun a7=>y7j (j0) (j1) ((0:Int)) ((0:Int)) a7.1 a7.2) wMax ((if IntKind.i64.wrap ((0:Int) - j0) > j0 then IntKind.i64.wrap ((0:Int) - j0)else j0),(j1)))
theorem y2T(n:Nat)(hn:big≤n)(j0:Int)(j1:Int):LeF some (yEn j0 j1) (yA8 n j0 j1) :=
  (by apply yDF n hn)
def yAY(num:Int)(den:Int):Option ((Q4)×Unit) :=
  (bif decide (den < 0)then (yEn (IntKind.i64.wrap ((0:Int) - num)) (IntKind.i64.wrap ((0:Int) - den)))else (yEn (num) (den)))
theorem yOo(num:Int)(den:Int)(y:(Q4)×Unit)(h:yAY num den=some y):∃ n,yL6 n num den=some y :=
  ⟨big,LeF.top (show LeF some (yAY num den) (yL6 big num den)from (fun (n:Nat) (hn:big≤n)=>show LeF some (yAY num den) (yL6 n num den)from (yA (by apply y2T n hn) (by apply y2T n hn))) big (Nat.le_refl _)) h⟩
def z0K_e:Entry:={ f:=142,args:=ySl,ress:=yZf,m:=fun x=>yAY x.1 x.2.1 }
theorem yU0:FnOK Tryz.prog z0K_e:=yJ (g:=yUt) (fn:=Tryz.f142) yB yI eNil (by kernel_rfl) (by kernel_rfl) (by kernel_rfl) (fun x y h=>let ⟨n,hn⟩:=yOo x.1 x.2.1 y h;⟨yNC n,iNil,(yXf n x).trans hn⟩)
abbrev zg_a:Ty:=.pair t58 (.pair t3 .unit)
abbrev zg_r:Ty:=.pair t4 .unit
def zg_g:G:={ T:=T,E:=[],muts:=[],fz:=[] }
def zg_k:List (List Nat):=[]
def yWe(n:Nat):Ann:={ keep:=zg_k,fuel:=n,inl:=[],deep:=0 }
def zg_m(n:Nat)(l:List (Q4))(n1:Int):Option (Bool×Unit) :=
  (bif decide ((↑l.length:Int)≤n1)then some (Bool.true,())else some ((↑l.length:Int)==2049,()))
theorem ycZ(n:Nat)(x:zg_a.den):runF zg_g (yWe n) Tryz.f144 zg_a zg_r x=zg_m n x.1 x.2.1:=by kernel_rfl
def zg(l:List (Q4))(n1:Int):(Bool×Unit) :=
  (bif decide ((↑l.length:Int)≤n1)then (Bool.true,())else ((↑l.length:Int)==2049,()))
abbrev zg_M (l:List (Q4)) (n1:Int):Option (Bool×Unit):=some (zg l n1)
theorem yTg(l:List (Q4))(n1:Int)(y:Bool×Unit)(h:zg_M l n1=some y):∃ n,zg_m n l n1=some y :=
  ⟨0,by rw[← h];show zg_m 0 l n1=some (zg l n1);unfold zg_m zg;first|rfl|(simp only[yF];done)|(simp only[yF];rfl)⟩
def zg_e:Entry:={ f:=144,args:=zg_a,ress:=zg_r,m:=fun x=>zg_M x.1 x.2.1 }
theorem ycd:FnOK Tryz.prog zg_e:=yJ (g:=zg_g) (fn:=Tryz.f144) yB yI eNil (by kernel_rfl) (by kernel_rfl) (by kernel_rfl) (fun x y h=>let ⟨n,hn⟩:=yTg x.1 x.2.1 y h;⟨yWe n,iNil,(ycZ n x).trans hn⟩)
def il124:Inl:={ f:=124,fn:=Tryz.f124,keep:=[],muts:=[],fz:=[] }
theorem y5M:y6R Tryz.prog il124:=⟨by kernel_rfl,by kernel_rfl,fun e0 h=>by cases (show (none:Option LibK)=some e0 from h)⟩
def il195:Inl:={ f:=195,fn:=Tryz.f195,keep:=[[0,1,3,9,10,11],[0,1,3,4,5,9,10,11]],muts:=[],fz:=[] }
theorem y5N:y6R Tryz.prog il195:=⟨by kernel_rfl,by kernel_rfl,fun e0 h=>by cases (show (none:Option LibK)=some e0 from h)⟩
abbrev yOb:Ty:=.pair t60 .unit
abbrev yZv:Ty:=.pair t41 .unit
def yYb:G:={ T:=T,E:=[],muts:=[3],fz:=[] }
def yai:List (List Nat):=[]
def yNI(n:Nat):Ann:={ keep:=yai,fuel:=n,inl:=[il124,il195],deep:=3 }
def y7a(n:Nat)(r0:Q1→List (Q4)→List Nat→Int→Int→Q1→Q1→Q1→Q1→List Int→Q1→Q1→Q1→Q1→Option (List Int×Unit))(j8:Q1)(j9:List (Q4))(j10:Int)(j11:Nat)(j12:List Nat)(j13:Int)(j14:Int)(j15:Q1)(j16:Q1)(j17:Q1)(j18:Q1)(j19:List Int)(j20:Q1)(j21:Q1)(j22:Q1)(j23:Q1):Option (List Int×Unit) :=
  (bif decide ((↑j9.length:Int) > 0)then (Option.bind (idx j9 (0:Int)) fun v24=>(bif decide (v24.1≤j10)then r0 j8 j9 j12 j13 (IntKind.i64.wrap (j14+1)) j15 j16 j17 j18 j19 j20 j21 j22 j23 else (Option.bind (y02 Go.FloatKind.f32 (y01 Go.BinOp.mul Go.FloatKind.f32 j11 (nat_lit 1098907648)) IntKind.i64) fun v29=>(bif decide (j19.length+(1:Nat)≤memMax)then r0 j8 j9 j12 j13 (IntKind.i64.wrap (j14+1)) j15 j16 j17 j18 (j19++[IntKind.i64.wrap (j8.2.1+j10)]) j20 j21 j22 j23 else none))))else (Option.bind (y02 Go.FloatKind.f32 (y01 Go.BinOp.mul Go.FloatKind.f32 j11 (nat_lit 1098907648)) IntKind.i64) fun v30=>(bif decide (j19.length+(1:Nat)≤memMax)then r0 j8 j9 j12 j13 (IntKind.i64.wrap (j14+1)) j15 j16 j17 j18 (j19++[IntKind.i64.wrap (j8.2.1+j10)]) j20 j21 j22 j23 else none)))
def yEs(n:Nat)(r0:Q1→List (Q4)→List Nat→Int→Int→Q1→Q1→Q1→Q1→List Int→Q1→Q1→Q1→Q1→Option (List Int×Unit))(r2:Q1→List (Q4)→Int→Nat→List Nat→Int→Int→Q1→Q1→Q1→Q1→List Int→Q1→Q1→Q1→Q1→Option (List Int×Unit))(b7:Q1)(ak:List (Q4))(aZ:Int)(bc:Nat)(aN:List Nat)(aK:Int)(aL:Int)(aB:Q1)(aC:Q1)(aJ:Q1)(aI:Q1)(bQ:List Int)(b8:Q1)(b9:Q1)(bA:Q1)(aX:Q1):Option (List Int×Unit) :=
  (bif decide ((↑ak.length:Int) > 0)then (Option.bind (idx ak (0:Int)) fun v3=>(bif decide (v3.2.1≤aZ)then (bif decide ((0:Int)≤1) && decide ((1:Int)≤(↑ak.length:Int))then r2 b7 (List.drop (Int.toNat (1:Int)) ak) aZ bc aN aK aL aB aC aJ aI bQ b8 b9 bA aX else none)else (y7a n r0 (b7) (ak) (aZ) (bc) (aN) (aK) (aL) (aB) (aC) (aJ) (aI) (bQ) (b8) (b9) (bA) (aX))))else (y7a n r0 (b7) (ak) (aZ) (bc) (aN) (aK) (aL) (aB) (aC) (aJ) (aI) (bQ) (b8) (b9) (bA) (aX)))
def y6g(n:Nat)(r0:Q1→List (Q4)→List Nat→Int→Int→Q1→Q1→Q1→Q1→List Int→Q1→Q1→Q1→Q1→Option (List Int×Unit))(k:Nat)(b7:Q1)(ak:List (Q4))(aZ:Int)(bc:Nat)(aN:List Nat)(aK:Int)(aL:Int)(aB:Q1)(aC:Q1)(aJ:Q1)(aI:Q1)(bQ:List Int)(b8:Q1)(b9:Q1)(bA:Q1)(aX:Q1):Option (List Int×Unit) :=
  iter (fun r y=>yEs n r0 (fun b7 ak aZ bc aN aK aL aB aC aJ aI bQ b8 b9 bA aX=>r ((b7,(ak,(aZ,(bc,(aN,(aK,(aL,()))))))),(((aB,(aC,(aJ,((aI,()),())))),((),(bQ,()))),(b8,(b9,(bA,((aX,()),()))))))) y.1.1 y.1.2.1 y.1.2.2.1 y.1.2.2.2.1 y.1.2.2.2.2.1 y.1.2.2.2.2.2.1 y.1.2.2.2.2.2.2.1 y.2.1.1.1 y.2.1.1.2.1 y.2.1.1.2.2.1 y.2.1.1.2.2.2.1.1 y.2.1.2.2.1 y.2.2.1 y.2.2.2.1 y.2.2.2.2.1 y.2.2.2.2.2.1.1) k ((b7,(ak,(aZ,(bc,(aN,(aK,(aL,()))))))),(((aB,(aC,(aJ,((aI,()),())))),((),(bQ,()))),(b8,(b9,(bA,((aX,()),()))))))
def yFM(n:Nat)(r0:Q1→List (Q4)→List Nat→Int→Int→Q1→Q1→Q1→Q1→List Int→Q1→Q1→Q1→Q1→Option (List Int×Unit))(aw:Q1)(aD:List (Q4))(al:List Nat)(ae:Int)(ay:Int)(aG:Q1)(aH:Q1)(aS:Q1)(aO:Q1)(ca:List Int)(bq:Q1)(br:Q1)(bj:Q1)(ba:Q1):Option (List Int×Unit) :=
  (bif decide (ay < ae)then (Option.bind (idx al ay) fun v1=>(y6g n r0 n (aw) (aD) (ay) (v1) (al) (ae) (ay) (aG) (aH) (aS) (aO) (ca) (bq) (br) (bj) (ba)))else some (ca,()))
def y6u(n:Nat)(k:Nat)(aw:Q1)(aD:List (Q4))(al:List Nat)(ae:Int)(ay:Int)(aG:Q1)(aH:Q1)(aS:Q1)(aO:Q1)(ca:List Int)(bq:Q1)(br:Q1)(bj:Q1)(ba:Q1):Option (List Int×Unit) :=
  iter (fun r y=>yFM n (fun aw aD al ae ay aG aH aS aO ca bq br bj ba=>r ((aw,(aD,(al,(ae,(ay,()))))),(((aG,(aH,(aS,((aO,()),())))),((),(ca,()))),(bq,(br,(bj,((ba,()),()))))))) y.1.1 y.1.2.1 y.1.2.2.1 y.1.2.2.2.1 y.1.2.2.2.2.1 y.2.1.1.1 y.2.1.1.2.1 y.2.1.1.2.2.1 y.2.1.1.2.2.2.1.1 y.2.1.2.2.1 y.2.2.1 y.2.2.2.1 y.2.2.2.2.1 y.2.2.2.2.2.1.1) k ((aw,(aD,(al,(ae,(ay,()))))),(((aG,(aH,(aS,((aO,()),())))),((),(ca,()))),(bq,(br,(bj,((ba,()),()))))))
def yKx(n:Nat)(r1:Q1):Option (List Int×Unit) :=
  (y6u n n (r1) (r1.2.2.2.1) (r1.2.2.1) ((↑r1.2.2.1.length:Int)) ((0:Int)) (r1) (r1) (r1) (r1) ([]) (r1) (r1) (r1) (r1))
theorem yZw(n:Nat)(x:yOb.den):runF yYb (yNI n) Tryz.f147 yOb yZv x=yKx n x.1:=by kernel_rfl
def y9T(j8:Q1)(j9:List (Q4))(j10:Int)(j11:Nat)(j12:List Nat)(j13:Int)(j14:Int)(j15:Q1)(j16:Q1)(j17:Q1)(j18:Q1)(j19:List Int)(j20:Q1)(j21:Q1)(j22:Q1)(j23:Q1):Option ((List Int×Unit)⊕((List (Q4))×List Int)) :=
  (bif decide ((↑j9.length:Int) > 0)then (Option.bind (idx j9 (0:Int)) fun v24=>(bif decide (v24.1≤j10)then (some (Sum.inr ((j9),(j19))))else (Option.bind (y02 Go.FloatKind.f32 (y01 Go.BinOp.mul Go.FloatKind.f32 j11 (nat_lit 1098907648)) IntKind.i64) fun v29=>(bif decide (j19.length+(1:Nat)≤memMax)then (some (Sum.inr ((j9),(j19++[IntKind.i64.wrap (j8.2.1+j10)]))))else none))))else (Option.bind (y02 Go.FloatKind.f32 (y01 Go.BinOp.mul Go.FloatKind.f32 j11 (nat_lit 1098907648)) IntKind.i64) fun v30=>(bif decide (j19.length+(1:Nat)≤memMax)then (some (Sum.inr ((j9),(j19++[IntKind.i64.wrap (j8.2.1+j10)]))))else none)))
theorem y2p(n:Nat)(hn:big≤n)(r0:Q1→List (Q4)→List Nat→Int→Int→Q1→Q1→Q1→Q1→List Int→Q1→Q1→Q1→Q1→Option (List Int×Unit))(j8:Q1)(j9:List (Q4))(j10:Int)(j11:Nat)(j12:List Nat)(j13:Int)(j14:Int)(j15:Q1)(j16:Q1)(j17:Q1)(j18:Q1)(j19:List Int)(j20:Q1)(j21:Q1)(j22:Q1)(j23:Q1):LeF (elim some fun (a7:((List (Q4))×List Int))=>r0 j8 a7.1 j12 j13 (IntKind.i64.wrap (j14+1)) j15 j16 j17 j18 a7.2 j20 j21 j22 j23) (y9T j8 j9 j10 j11 j12 j13 j14 j15 j16 j17 j18 j19 j20 j21 j22 j23) (y7a n r0 j8 j9 j10 j11 j12 j13 j14 j15 j16 j17 j18 j19 j20 j21 j22 j23) :=
  (yA (yE fun v24=>(yA (y6 rfl) (yE fun v29=>(yA (y6 rfl) y19)))) (yE fun v30=>(yA (y6 rfl) y19)))
def yH4(b7:Q1)(aZ:Int)(bc:Nat)(aN:List Nat)(aK:Int)(aL:Int)(aB:Q1)(aC:Q1)(aJ:Q1)(aI:Q1)(bQ:List Int)(b8:Q1)(b9:Q1)(bA:Q1)(aX:Q1)(ak:List (Q4)):Option (((List Int×Unit)⊕((List (Q4))×List Int))⊕(List (Q4))) :=
  (bif decide ((↑ak.length:Int) > 0)then (Option.bind (idx ak (0:Int)) fun v3=>(bif decide (v3.2.1≤aZ)then (bif decide ((0:Int)≤1) && decide ((1:Int)≤(↑ak.length:Int))then (some (Sum.inr (List.drop (Int.toNat (1:Int)) ak)))else none)else (Option.map Sum.inl (y9T (b7) (ak) (aZ) (bc) (aN) (aK) (aL) (aB) (aC) (aJ) (aI) (bQ) (b8) (b9) (bA) (aX)))))else (Option.map Sum.inl (y9T (b7) (ak) (aZ) (bc) (aN) (aK) (aL) (aB) (aC) (aJ) (aI) (bQ) (b8) (b9) (bA) (aX))))
theorem yD2(n:Nat)(hn:big≤n)(r0:Q1→List (Q4)→List Nat→Int→Int→Q1→Q1→Q1→Q1→List Int→Q1→Q1→Q1→Q1→Option (List Int×Unit))(b7:Q1)(aZ:Int)(bc:Nat)(aN:List Nat)(aK:Int)(aL:Int)(aB:Q1)(aC:Q1)(aJ:Q1)(aI:Q1)(bQ:List Int)(b8:Q1)(b9:Q1)(bA:Q1)(aX:Q1)(ak:List (Q4)):LeF (elim some fun (a7:((List (Q4))×List Int))=>r0 b7 a7.1 aN aK (IntKind.i64.wrap (aL+1)) aB aC aJ aI a7.2 b8 b9 bA aX) (y1q (fun a7=>yH4 b7 aZ bc aN aK aL aB aC aJ aI bQ b8 b9 bA aX a7) wMax ak) (y6g n r0 n b7 ak aZ bc aN aK aL aB aC aJ aI bQ b8 b9 bA aX):=by
  refine y52 (f:=(elim some fun (a7:((List (Q4))×List Int))=>r0 b7 a7.1 aN aK (IntKind.i64.wrap (aL+1)) aB aC aJ aI a7.2 b8 b9 bA aX)) (W:=fun aE a7=>y6g n r0 aE b7 a7 aZ bc aN aK aL aB aC aJ aI bQ b8 b9 bA aX) (body:=(fun a7=>yH4 b7 aZ bc aN aK aL aB aC aJ aI bQ b8 b9 bA aX a7)) (fun aE a7=>?_) wMax n ak (by unfold big at hn;unfold wMax;omega)
  show LeF _ _ (yEs n r0 (y6g n r0 aE) b7 a7 aZ bc aN aK aL aB aC aJ aI bQ b8 b9 bA aX)
  exact (yA (yE fun v3=>(yA (yA (y6 rfl) y19) (y0C (by apply y2p n hn)))) (y0C (by apply y2p n hn)))
def yEQ(aw:Q1)(al:List Nat)(aG:Q1)(aH:Q1)(aS:Q1)(aO:Q1)(bq:Q1)(br:Q1)(bj:Q1)(ba:Q1)(ay:Int)(v1:Nat)(aD:List (Q4))(ca:List Int):Option ((List Int×Unit)⊕((List (Q4))×List Int)) :=
  (y1q (fun a7=>yH4 (aw) (ay) (v1) (al) ((↑al.length:Int)) (ay) (aG) (aH) (aS) (aO) (ca) (bq) (br) (bj) (ba) a7) wMax (aD))
def yHU(aw:Q1)(al:List Nat)(aG:Q1)(aH:Q1)(aS:Q1)(aO:Q1)(bq:Q1)(br:Q1)(bj:Q1)(ba:Q1)(aD:List (Q4))(ca:List Int):Option (List Int×Unit) :=
  (some ((ca,())))
theorem yDA(n:Nat)(hn:big≤n)(aw:Q1)(al:List Nat)(aG:Q1)(aH:Q1)(aS:Q1)(aO:Q1)(bq:Q1)(br:Q1)(bj:Q1)(ba:Q1)(aD:List (Q4))(ca:List Int)(hx:List.length (al) < lenMax):LeF some (yR (fun ac az a7=>yEQ aw al aG aH aS aO bq br bj ba ac az a7.1 a7.2) (fun a7=>yHU aw al aG aH aS aO bq br bj ba a7.1 a7.2) 0 (al) (aD,ca)) (y6u n n aw aD al (List.length (al):Int) 0 aG aH aS aO ca bq br bj ba):=by
  refine yU (f:=some) (W:=fun aE ac a7=>y6u n aE aw a7.1 al (List.length (al):Int) ac aG aH aS aO a7.2 bq br bj ba) (body:=(fun ac az a7=>yEQ aw al aG aH aS aO bq br bj ba ac az a7.1 a7.2)) (fin:=(fun a7=>yHU aw al aG aH aS aO bq br bj ba a7.1 a7.2)) (fun aE ac a7=>?_) hx (aD,ca) n (by unfold big at hn;unfold lenMax at hx;omega)
  show LeF _ _ (yFM n (y6u n aE) aw a7.1 al (List.length (al):Int) ac aG aH aS aO a7.2 bq br bj ba)
  exact yA (yE fun v1=>(by apply yD2 n hn)) (y0C (y6 rfl))
def yBy(r1:Q1):Option (List Int×Unit) :=
  (bif decide (List.length (r1.2.2.1) < lenMax)then yR (fun ac az a7=>yEQ (r1) (r1.2.2.1) (r1) (r1) (r1) (r1) (r1) (r1) (r1) (r1) ac az a7.1 a7.2) (fun a7=>yHU (r1) (r1.2.2.1) (r1) (r1) (r1) (r1) (r1) (r1) (r1) (r1) a7.1 a7.2) 0 (r1.2.2.1) ((r1.2.2.2.1),([]))else none)
theorem yPr(r1:Q1)(y:List Int×Unit)(h:yBy r1=some y):∃ n,yKx n r1=some y :=
  ⟨big,LeF.top (show LeF some (yBy r1) (yKx big r1)from (fun (n:Nat) (hn:big≤n)=>show LeF some (yBy r1) (yKx n r1)from (yV fun hx=>by apply yDA n hn;exact hx)) big (Nat.le_refl _)) h⟩
def z1B_e:Entry:={ f:=147,args:=yOb,ress:=yZv,m:=fun x=>yBy x.1 }
theorem yNg:FnOK Tryz.prog z1B_e:=yJ (g:=yYb) (fn:=Tryz.f147) yB yI eNil (by kernel_rfl) (by kernel_rfl) (by kernel_rfl) (fun x y h=>let ⟨n,hn⟩:=yPr x.1 y h;⟨yNI n,(y5H y5M (y5H y5N iNil)),(yZw n x).trans hn⟩)
abbrev ySj:Ty:=.pair t57 .unit
abbrev yVf:Ty:=.pair t3 .unit
def yaK:G:={ T:=T,E:=[],muts:=[],fz:=[] }
def ybl:List (List Nat):=[]
def yMx(n:Nat):Ann:={ keep:=ybl,fuel:=n,inl:=[],deep:=0 }
def yMH(n:Nat)(a:Q4):Option (Int×Unit) :=
  some (IntKind.i64.wrap (IntKind.i64.wrap (a.1 * a.1)+IntKind.i64.wrap (a.2.1 * a.2.1)),())
theorem yWN(n:Nat)(x:ySj.den):runF yaK (yMx n) Tryz.f151 ySj yVf x=yMH n x.1:=by kernel_rfl
def z0L(a:Q4):(Int×Unit) :=
  (IntKind.i64.wrap (IntKind.i64.wrap (a.1 * a.1)+IntKind.i64.wrap (a.2.1 * a.2.1)),())
abbrev yY2 (a:Q4):Option (Int×Unit):=some (z0L a)
theorem yP4(a:Q4)(y:Int×Unit)(h:yY2 a=some y):∃ n,yMH n a=some y :=
  ⟨0,by rw[← h];show yMH 0 a=some (z0L a);unfold yMH z0L;first|rfl|(simp only[yF];done)|(simp only[yF];rfl)⟩
def z0L_e:Entry:={ f:=151,args:=ySj,ress:=yVf,m:=fun x=>yY2 x.1 }
theorem yTD:FnOK Tryz.prog z0L_e:=yJ (g:=yaK) (fn:=Tryz.f151) yB yI eNil (by kernel_rfl) (by kernel_rfl) (by kernel_rfl) (fun x y h=>let ⟨n,hn⟩:=yP4 x.1 y h;⟨yMx n,iNil,(yWN n x).trans hn⟩)
abbrev yS5:Ty:=.pair t57 (.pair t3 .unit)
abbrev yYF:Ty:=.pair t57 .unit
def yTn:G:={ T:=T,E:=[],muts:=[2],fz:=[] }
def ycy:List (List Nat):=[[1,2,4,5]]
def yOH(n:Nat):Ann:={ keep:=ycy,fuel:=n,inl:=[],deep:=0 }
def yDp(n:Nat)(r0:Int→Int→Int→Int→Int→Int→Option ((Q4)×Unit))(bL:Int)(bj:Int)(aq:Int)(ar:Int)(af:Int)(ah:Int):Option ((Q4)×Unit) :=
  (bif decide (bj < (IntKind.i64.wrap (bL.tmod (4:Int)+4)).tmod (4:Int))then r0 bL (IntKind.i64.wrap (bj+1)) (IntKind.i64.wrap ((0:Int) - ar)) aq af ah else some ((aq,ar,()),()))
def y6U(n:Nat)(k:Nat)(bL:Int)(bj:Int)(aq:Int)(ar:Int)(af:Int)(ah:Int):Option ((Q4)×Unit) :=
  iter (fun r y=>yDp n (fun bL bj aq ar af ah=>r ((bL,(bj,())),(((aq,(ar,())),((af,(ah,())),())),()))) y.1.1 y.1.2.1 y.2.1.1.1 y.2.1.1.2.1 y.2.1.2.1.1 y.2.1.2.1.2.1) k ((bL,(bj,())),(((aq,(ar,())),((af,(ah,())),())),()))
def yK5(n:Nat)(a:Q4)(n1:Int):Option ((Q4)×Unit) :=
  (y6U n n (n1) ((0:Int)) (a.1) (a.2.1) ((0:Int)) ((0:Int)))
theorem yY1(n:Nat)(x:yS5.den):runF yTn (yOH n) Tryz.f156 yS5 yYF x=yK5 n x.1 x.2.1:=by kernel_rfl
def yJe(bL:Int)(af:Int)(ah:Int)(bj:Int)(aq:Int)(ar:Int):Option (((Q4)×Unit)⊕(Int×Int)) :=
  (some (Sum.inr ((IntKind.i64.wrap ((0:Int) - ar)),(aq))))
def yHQ(bL:Int)(af:Int)(ah:Int)(aq:Int)(ar:Int):Option ((Q4)×Unit) :=
  (some (((aq,ar,()),())))
theorem yCY(n:Nat)(hn:big≤n)(bL:Int)(af:Int)(ah:Int)(aq:Int)(ar:Int)(hx:((IntKind.i64.wrap (bL.tmod (4:Int)+4)).tmod (4:Int))≤9223372036854775807):LeF some (y1k (fun ac a7=>yJe bL af ah ac a7.1 a7.2) (fun a7=>yHQ bL af ah a7.1 a7.2) (((IntKind.i64.wrap (bL.tmod (4:Int)+4)).tmod (4:Int)) - 0).toNat 0 (aq,ar)) (y6U n n bL 0 aq ar af ah):=by
  refine y3I (f:=some) (W:=fun aE ac a7=>y6U n aE bL ac a7.1 a7.2 af ah) (body:=(fun ac a7=>yJe bL af ah ac a7.1 a7.2)) (fin:=(fun a7=>yHQ bL af ah a7.1 a7.2)) (fun aE ac a7=>?_) hx (aq,ar) n 0 (by decide) (by unfold big at hn;omega)
  show LeF _ _ (yDp n (y6U n aE) bL ac a7.1 a7.2 af ah)
  exact yA (y6 rfl) (y0C (y6 rfl))
def yDD(a:Q4)(n1:Int):Option ((Q4)×Unit) :=
  (bif decide (((IntKind.i64.wrap (n1.tmod (4:Int)+4)).tmod (4:Int))≤9223372036854775807)then y1k (fun ac a7=>yJe (n1) ((0:Int)) ((0:Int)) ac a7.1 a7.2) (fun a7=>yHQ (n1) ((0:Int)) ((0:Int)) a7.1 a7.2) (((IntKind.i64.wrap (n1.tmod (4:Int)+4)).tmod (4:Int)) - 0).toNat 0 ((a.1),(a.2.1))else none)
theorem ySY(a:Q4)(n1:Int)(y:(Q4)×Unit)(h:yDD a n1=some y):∃ n,yK5 n a n1=some y :=
  ⟨big,LeF.top (show LeF some (yDD a n1) (yK5 big a n1)from (fun (n:Nat) (hn:big≤n)=>show LeF some (yDD a n1) (yK5 n a n1)from (yV fun hx=>by apply yCY n hn;exact hx)) big (Nat.le_refl _)) h⟩
def z0z_e:Entry:={ f:=156,args:=yS5,ress:=yYF,m:=fun x=>yDD x.1 x.2.1 }
theorem yXj:FnOK Tryz.prog z0z_e:=yJ (g:=yTn) (fn:=Tryz.f156) yB yI eNil (by kernel_rfl) (by kernel_rfl) (by kernel_rfl) (fun x y h=>let ⟨n,hn⟩:=ySY x.1 x.2.1 y h;⟨yOH n,iNil,(yY1 n x).trans hn⟩)
abbrev yOZ:Ty:=.pair t58 (.pair t3 .unit)
abbrev yVT:Ty:=.pair t4 .unit
def yUi:G:={ T:=T,E:=[],muts:=[],fz:=[] }
def yd5:List (List Nat):=[[0,1,5]]
def yMw(n:Nat):Ann:={ keep:=yd5,fuel:=n,inl:=[],deep:=0 }
def yEt(n:Nat)(r0:List (Q4)→Int→Int→Option (Bool×Unit))(aj:List (Q4))(aw:Int)(ax:Int):Option (Bool×Unit) :=
  (bif decide (ax < (↑aj.length:Int))then (Option.bind (idx aj ax) fun v1=>(bif decide (aw ≥ v1.1)then (Option.bind (idx aj ax) fun v2=>(bif decide (aw < v2.2.1)then some (Bool.true,())else r0 aj aw (IntKind.i64.wrap (ax+1))))else r0 aj aw (IntKind.i64.wrap (ax+1))))else some (Bool.false,()))
def y6Z(n:Nat)(k:Nat)(aj:List (Q4))(aw:Int)(ax:Int):Option (Bool×Unit) :=
  iter (fun r y=>yEt n (fun aj aw ax=>r ((aj,(aw,(ax,()))),((),()))) y.1.1 y.1.2.1 y.1.2.2.1) k ((aj,(aw,(ax,()))),((),()))
def yLp(n:Nat)(l:List (Q4))(t:Int):Option (Bool×Unit) :=
  (y6Z n n (l) (t) ((0:Int)))
theorem yWR(n:Nat)(x:yOZ.den):runF yUi (yMw n) Tryz.f159 yOZ yVT x=yLp n x.1 x.2.1:=by kernel_rfl
def yBw(aj:List (Q4))(aw:Int)(ax:Int)(v1:Q4):Option ((Bool×Unit)⊕Unit) :=
  (bif decide (aw ≥ v1.1)then (Option.bind (idx aj ax) fun v2=>(bif decide (aw < v2.2.1)then (some (Sum.inl ((Bool.true,()))))else (some (Sum.inr ()))))else (some (Sum.inr ())))
def yEJ(aj:List (Q4))(aw:Int):Option (Bool×Unit) :=
  (some ((Bool.false,())))
theorem yDb(n:Nat)(hn:big≤n)(aj:List (Q4))(aw:Int)(hx:List.length (aj) < lenMax):LeF some (yR (fun ac az a7=>yBw aj aw ac az) (fun a7=>yEJ aj aw) 0 (aj) ()) (y6Z n n aj aw 0):=by
  refine yU (f:=some) (W:=fun aE ac a7=>y6Z n aE aj aw ac) (body:=(fun ac az a7=>yBw aj aw ac az)) (fin:=(fun a7=>yEJ aj aw)) (fun aE ac a7=>?_) hx () n (by unfold big at hn;unfold lenMax at hx;omega)
  show LeF _ _ (yEt n (y6Z n aE) aj aw ac)
  exact yA (yE fun v1=>(yA (yE fun v2=>(yA (y6 rfl) (y6 rfl))) (y6 rfl))) (y0C (y6 rfl))
def yAS(l:List (Q4))(t:Int):Option (Bool×Unit) :=
  (bif decide (List.length (l) < lenMax)then yR (fun ac az a7=>yBw (l) (t) ac az) (fun a7=>yEJ (l) (t)) 0 (l) ()else none)
theorem yR5(l:List (Q4))(t:Int)(y:Bool×Unit)(h:yAS l t=some y):∃ n,yLp n l t=some y :=
  ⟨big,LeF.top (show LeF some (yAS l t) (yLp big l t)from (fun (n:Nat) (hn:big≤n)=>show LeF some (yAS l t) (yLp n l t)from (yV fun hx=>by apply yDb n hn;exact hx)) big (Nat.le_refl _)) h⟩
def z1F_e:Entry:={ f:=159,args:=yOZ,ress:=yVT,m:=fun x=>yAS x.1 x.2.1 }
theorem yNZ:FnOK Tryz.prog z1F_e:=yJ (g:=yUi) (fn:=Tryz.f159) yB yI eNil (by kernel_rfl) (by kernel_rfl) (by kernel_rfl) (fun x y h=>let ⟨n,hn⟩:=yR5 x.1 x.2.1 y h;⟨yMw n,iNil,(yWR n x).trans hn⟩)
abbrev zS_a:Ty:=.pair t55 (.pair t3 .unit)
abbrev zS_r:Ty:=.pair t57 .unit
def zS_g:G:={ T:=T,E:=[],muts:=[],fz:=[] }
def zS_k:List (List Nat):=[]
def yVc(n:Nat):Ann:={ keep:=zS_k,fuel:=n,inl:=[],deep:=0 }
def zS_m(n:Nat)(c:Q3)(tick:Int):Option ((Q4)×Unit) :=
  (bif c.2.1==0 then none else (Option.bind (idx [((1:Int),(0:Int),()),((0:Int),(1:Int),()),((-1:Int),(0:Int),()),((0:Int),(-1:Int),())] ((IntKind.i64.wrap (c.2.2.1 * IntKind.i64.wrap (tick.tdiv c.2.1))).tmod (4:Int))) fun v0=>some ((v0.1,v0.2.1,()),())))
theorem ycz(n:Nat)(x:zS_a.den):runF zS_g (yVc n) Tryz.f161 zS_a zS_r x=zS_m n x.1 x.2.1:=by kernel_rfl
def zS_M(c:Q3)(tick:Int):Option ((Q4)×Unit):=zS_m 0 c tick
theorem yZK(c:Q3)(tick:Int)(y:(Q4)×Unit)(h:zS_M c tick=some y):∃ n,zS_m n c tick=some y:=⟨0,h⟩
def zS_e:Entry:={ f:=161,args:=zS_a,ress:=zS_r,m:=fun x=>zS_M x.1 x.2.1 }
theorem yQp:FnOK Tryz.prog zS_e:=yJ (g:=zS_g) (fn:=Tryz.f161) yB yI eNil (by kernel_rfl) (by kernel_rfl) (by kernel_rfl) (fun x y h=>let ⟨n,hn⟩:=yZK x.1 x.2.1 y h;⟨yVc n,iNil,(ycz n x).trans hn⟩)
abbrev zA_a:Ty:=.pair t31 (.pair t215 .unit)
abbrev zA_r:Ty:=.pair t23 .unit
def zA_g:G:={ T:=T,E:=[],muts:=[5],fz:=[] }
def zA_k:List (List Nat):=[[1,5,8,9,10]]
def yVz(n:Nat):Ann:={ keep:=zA_k,fuel:=n,inl:=[],deep:=0 }
def yRX(n:Nat)(r0:((Q3)×Unit→Option ((Q4)×Unit))→List (Q3)→Int→Int→List (Q4)→Option (List (Q4)×Unit))(aa:(Q3)×Unit→Option ((Q4)×Unit))(a8:List (Q3))(al:Int)(ae:Int)(ai:List (Q4)):Option (List (Q4)×Unit) :=
  (bif decide (ae < al)then (Option.bind (idx a8 ae) fun v1=>(Option.bind (aa ((v1.1,v1.2.1,v1.2.2.1,()),())) fun v2=>(bif decide (ai.length+(1:Nat)≤memMax)then r0 aa a8 al (IntKind.i64.wrap (ae+1)) (ai++[v2.1])else none)))else some (ai,()))
def yQ4(n:Nat)(k:Nat)(aa:(Q3)×Unit→Option ((Q4)×Unit))(a8:List (Q3))(al:Int)(ae:Int)(ai:List (Q4)):Option (List (Q4)×Unit) :=
  iter (fun r y=>yRX n (fun aa a8 al ae ai=>r ((aa,(a8,(al,(ae,())))),((ai,()),()))) y.1.1 y.1.2.1 y.1.2.2.1 y.1.2.2.2.1 y.2.1.1) k ((aa,(a8,(al,(ae,())))),((ai,()),()))
def zA_m(n:Nat)(l:List (Q3))(of:(Q3)×Unit→Option ((Q4)×Unit)):Option (List (Q4)×Unit) :=
  (yQ4 n n (of) (l) ((↑l.length:Int)) ((0:Int)) ([]))
theorem yb5(n:Nat)(x:zA_a.den):runF zA_g (yVz n) Tryz.f162 zA_a zA_r x=zA_m n x.1 x.2.1:=by kernel_rfl
def zA_M(l:List (Q3))(of:(Q3)×Unit→Option ((Q4)×Unit)):Option (List (Q4)×Unit):=zA_m 1000 l of
theorem yZi(l:List (Q3))(of:(Q3)×Unit→Option ((Q4)×Unit))(y:List (Q4)×Unit)(h:zA_M l of=some y):∃ n,zA_m n l of=some y:=⟨1000,h⟩
def zA_e:Entry:={ f:=162,args:=zA_a,ress:=zA_r,m:=fun x=>zA_M x.1 x.2.1 }
theorem ySt:FnOK Tryz.prog zA_e:=yJ (g:=zA_g) (fn:=Tryz.f162) yB yI eNil (by kernel_rfl) (by kernel_rfl) (by kernel_rfl) (fun x y h=>let ⟨n,hn⟩:=yZi x.1 x.2.1 y h;⟨yVz n,iNil,(yb5 n x).trans hn⟩)
abbrev zk_a:Ty:=.pair t183 (.pair t3 (.pair t23 .unit))
abbrev zk_r:Ty:=.pair t183 .unit
def zk_g:G:={ T:=T,E:=[],muts:=[],fz:=[11] }
def zk_k:List (List Nat):=[[0,1,2,7,13,14]]
def yZ2(n:Nat):Ann:={ keep:=zk_k,fuel:=n,inl:=[],deep:=0 }
def yPI(n:Nat)(r0:List (List (Q4))→Int→List (Q4)→Int→Int→List (List (Q4))→Option (List (List (Q4))×Unit))(bt:List (List (Q4)))(bi:Int)(bE:List (Q4))(bB:Int)(aP:Int)(ai:List (List (Q4))):Option (List (List (Q4))×Unit) :=
  (bif decide (aP < bB)then (Option.bind (idx bt aP) fun v1=>(bif Bool.true && decide ((0:Int)≤(↑v1.length:Int)) && decide ((↑v1.length:Int)≤(↑memMax:Int)) && (↑v1.length:Int)==(↑v1.length:Int)then (Option.bind (idx ai aP) fun v2=>(Option.bind (ai[aP.toNat]?) fun v3=>(Option.bind (idx (ai.set aP.toNat (List.replicate ((↑v1.length:Int).toNat) (((0:Int),(0:Int),())):List (Q4))) aP) fun v4=>(Option.bind ((ai.set aP.toNat (List.replicate ((↑v1.length:Int).toNat) (((0:Int),(0:Int),())):List (Q4)))[aP.toNat]?) fun v5=>(Option.bind (idx bt aP) fun v6=>(Option.bind ((ai.set aP.toNat (List.replicate ((↑v1.length:Int).toNat) (((0:Int),(0:Int),())):List (Q4)))[aP.toNat]?) fun v7=>(bif decide (v6.length=v7.length)then (Option.bind (idx ((ai.set aP.toNat (List.replicate ((↑v1.length:Int).toNat) (((0:Int),(0:Int),())):List (Q4))).set aP.toNat v6) aP) fun v8=>(Option.bind (((ai.set aP.toNat (List.replicate ((↑v1.length:Int).toNat) (((0:Int),(0:Int),())):List (Q4))).set aP.toNat v6)[aP.toNat]?) fun v9=>(Option.bind (idx bE aP) fun v10=>(Option.bind (((ai.set aP.toNat (List.replicate ((↑v1.length:Int).toNat) (((0:Int),(0:Int),())):List (Q4))).set aP.toNat v6)[aP.toNat]?) fun v11=>(Option.bind (idx v11 bi) fun v12=>(Option.bind (((ai.set aP.toNat (List.replicate ((↑v1.length:Int).toNat) (((0:Int),(0:Int),())):List (Q4))).set aP.toNat v6)[aP.toNat]?) fun v13=>(Option.bind (v13[bi.toNat]?) fun v14=>r0 bt bi bE bB (IntKind.i64.wrap (aP+1)) (((ai.set aP.toNat (List.replicate ((↑v1.length:Int).toNat) (((0:Int),(0:Int),())):List (Q4))).set aP.toNat v6).set aP.toNat (v13.set bi.toNat v10)))))))))else none)))))))else none))else some (ai,()))
def yPo(n:Nat)(k:Nat)(bt:List (List (Q4)))(bi:Int)(bE:List (Q4))(bB:Int)(aP:Int)(ai:List (List (Q4))):Option (List (List (Q4))×Unit) :=
  iter (fun r y=>yPI n (fun bt bi bE bB aP ai=>r ((bt,(bi,(bE,(bB,(aP,()))))),((ai,()),()))) y.1.1 y.1.2.1 y.1.2.2.1 y.1.2.2.2.1 y.1.2.2.2.2.1 y.2.1.1) k ((bt,(bi,(bE,(bB,(aP,()))))),((ai,()),()))
def zk_m(n:Nat)(m:List (List (Q4)))(column:Int)(values:List (Q4)):Option (List (List (Q4))×Unit) :=
  (bif Bool.true && decide ((0:Int)≤(↑m.length:Int)) && decide ((↑m.length:Int)≤(↑memMax:Int)) && (↑m.length:Int)==(↑m.length:Int)then (yPo n n (m) (column) (values) ((↑m.length:Int)) ((0:Int)) ((List.replicate ((↑m.length:Int).toNat) ([]):List (List (Q4)))))else none)
theorem yc2(n:Nat)(x:zk_a.den):runF zk_g (yZ2 n) Tryz.f164 zk_a zk_r x=zk_m n x.1 x.2.1 x.2.2.1:=by kernel_rfl
def zk_M(m:List (List (Q4)))(column:Int)(values:List (Q4)):Option (List (List (Q4))×Unit):=zk_m 1000 m column values
theorem yTA(m:List (List (Q4)))(column:Int)(values:List (Q4))(y:List (List (Q4))×Unit)(h:zk_M m column values=some y):∃ n,zk_m n m column values=some y:=⟨1000,h⟩
def zk_e:Entry:={ f:=164,args:=zk_a,ress:=zk_r,m:=fun x=>zk_M x.1 x.2.1 x.2.2.1 }
theorem yTO:FnOK Tryz.prog zk_e:=yJ (g:=zk_g) (fn:=Tryz.f164) yB yI eNil (by kernel_rfl) (by kernel_rfl) (by kernel_rfl) (fun x y h=>let ⟨n,hn⟩:=yTA x.1 x.2.1 x.2.2.1 y h;⟨yZ2 n,iNil,(yc2 n x).trans hn⟩)
abbrev yQS:Ty:=.pair t210 .unit
abbrev yXx:Ty:=.pair t4 .unit
def yYi:G:={ T:=T,E:=[],muts:=[],fz:=[] }
def yd3:List (List Nat):=[]
def yOF(n:Nat):Ann:={ keep:=yd3,fuel:=n,inl:=[],deep:=0 }
def yJt(n:Nat)(f:Nat):Option (Bool×Unit) :=
  some (ym Go.BinOp.neq Go.FloatKind.f64 f f,())
theorem yY6(n:Nat)(x:yQS.den):runF yYi (yOF n) Tryz.f171 yQS yXx x=yJt n x.1:=by kernel_rfl
def z0w(f:Nat):(Bool×Unit) :=
  (ym Go.BinOp.neq Go.FloatKind.f64 f f,())
abbrev yTI (f:Nat):Option (Bool×Unit):=some (z0w f)
theorem yS0(f:Nat)(y:Bool×Unit)(h:yTI f=some y):∃ n,yJt n f=some y :=
  ⟨0,by rw[← h];show yJt 0 f=some (z0w f);unfold yJt z0w;first|rfl|(simp only[yF];done)|(simp only[yF];rfl)⟩
def z0w_e:Entry:={ f:=171,args:=yQS,ress:=yXx,m:=fun x=>yTI x.1 }
theorem yT5:FnOK Tryz.prog z0w_e:=yJ (g:=yYi) (fn:=Tryz.f171) yB yI eNil (by kernel_rfl) (by kernel_rfl) (by kernel_rfl) (fun x y h=>let ⟨n,hn⟩:=yS0 x.1 y h;⟨yOF n,iNil,(yY6 n x).trans hn⟩)
abbrev zN_a:Ty:=.pair t41 (.pair t233 .unit)
abbrev zN_r:Ty:=.pair t161 .unit
def zN_g:G:={ T:=T,E:=[],muts:=[5],fz:=[] }
def zN_k:List (List Nat):=[[1,5,8,9,10]]
def yW7(n:Nat):Ann:={ keep:=zN_k,fuel:=n,inl:=[],deep:=0 }
def ySz(n:Nat)(r0:(Int×Unit→Option (List UInt8×Unit))→List Int→Int→Int→List (List UInt8)→Option (List (List UInt8)×Unit))(aa:Int×Unit→Option (List UInt8×Unit))(a8:List Int)(al:Int)(ae:Int)(ai:List (List UInt8)):Option (List (List UInt8)×Unit) :=
  (bif decide (ae < al)then (Option.bind (idx a8 ae) fun v1=>(Option.bind (aa (v1,())) fun v2=>(bif decide (ai.length+(1:Nat)≤memMax)then r0 aa a8 al (IntKind.i64.wrap (ae+1)) (ai++[v2.1])else none)))else some (ai,()))
def yRQ(n:Nat)(k:Nat)(aa:Int×Unit→Option (List UInt8×Unit))(a8:List Int)(al:Int)(ae:Int)(ai:List (List UInt8)):Option (List (List UInt8)×Unit) :=
  iter (fun r y=>ySz n (fun aa a8 al ae ai=>r ((aa,(a8,(al,(ae,())))),((ai,()),()))) y.1.1 y.1.2.1 y.1.2.2.1 y.1.2.2.2.1 y.2.1.1) k ((aa,(a8,(al,(ae,())))),((ai,()),()))
def zN_m(n:Nat)(l:List Int)(of:Int×Unit→Option (List UInt8×Unit)):Option (List (List UInt8)×Unit) :=
  (yRQ n n (of) (l) ((↑l.length:Int)) ((0:Int)) ([]))
theorem yav(n:Nat)(x:zN_a.den):runF zN_g (yW7 n) Tryz.f176 zN_a zN_r x=zN_m n x.1 x.2.1:=by kernel_rfl
def zN_M(l:List Int)(of:Int×Unit→Option (List UInt8×Unit)):Option (List (List UInt8)×Unit):=zN_m 1000 l of
theorem yYJ(l:List Int)(of:Int×Unit→Option (List UInt8×Unit))(y:List (List UInt8)×Unit)(h:zN_M l of=some y):∃ n,zN_m n l of=some y:=⟨1000,h⟩
def zN_e:Entry:={ f:=176,args:=zN_a,ress:=zN_r,m:=fun x=>zN_M x.1 x.2.1 }
theorem yb7:FnOK Tryz.prog zN_e:=yJ (g:=zN_g) (fn:=Tryz.f176) yB yI eNil (by kernel_rfl) (by kernel_rfl) (by kernel_rfl) (fun x y h=>let ⟨n,hn⟩:=yYJ x.1 x.2.1 y h;⟨yW7 n,iNil,(yav n x).trans hn⟩)
abbrev yOk:Ty:=.pair t3 (.pair t3 .unit)
abbrev yVg:Ty:=.pair t3 .unit
def yU8:G:={ T:=T,E:=[],muts:=[],fz:=[] }
def ybH:List (List Nat):=[[0,1]]
def yNw(n:Nat):Ann:={ keep:=ybH,fuel:=n,inl:=[],deep:=0 }
def yE7(n:Nat)(r0:Int→Int→Option (Int×Unit))(am:Int)(au:Int):Option (Int×Unit) :=
  (bif au != 0 then (bif au==0 then none else r0 au (am.tmod au))else some (am,()))
def y6z(n:Nat)(k:Nat)(am:Int)(au:Int):Option (Int×Unit) :=
  iter (fun r y=>yE7 n (fun am au=>r ((am,(au,())),((),()))) y.1.1 y.1.2.1) k ((am,(au,())),((),()))
def yKO(n:Nat)(a:Int)(b:Int):Option (Int×Unit) :=
  (y6z n n (a) (b))
theorem yYc(n:Nat)(x:yOk.den):runF yU8 (yNw n) Tryz.f185 yOk yVg x=yKO n x.1 x.2.1:=by kernel_rfl
def yBn(am:Int)(au:Int):Option ((Int×Unit)⊕(Int×Int)) :=
  (bif au != 0 then (bif au==0 then none else (some (Sum.inr ((au),(am.tmod au)))))else (some (Sum.inl ((am,())))))
theorem yDE(n:Nat)(hn:big≤n)(am:Int)(au:Int):LeF some (y1q (fun a7=>yBn a7.1 a7.2) wMax (am,au)) (y6z n n am au):=by
  refine y52 (f:=some) (W:=fun aE a7=>y6z n aE a7.1 a7.2) (body:=(fun a7=>yBn a7.1 a7.2)) (fun aE a7=>?_) wMax n (am,au) (by unfold big at hn;unfold wMax;omega)
  show LeF _ _ (yE7 n (y6z n aE) a7.1 a7.2)
  exact (yA (yA y19 (y6 rfl)) (y6 rfl))
def y8D(a:Int)(b:Int):Option (Int×Unit) :=
  (y1q (fun a7=>yBn a7.1 a7.2) wMax ((a),(b)))
theorem yQO(a:Int)(b:Int)(y:Int×Unit)(h:y8D a b=some y):∃ n,yKO n a b=some y :=
  ⟨big,LeF.top (show LeF some (y8D a b) (yKO big a b)from (fun (n:Nat) (hn:big≤n)=>show LeF some (y8D a b) (yKO n a b)from (by apply yDE n hn)) big (Nat.le_refl _)) h⟩
def z0B_e:Entry:={ f:=185,args:=yOk,ress:=yVg,m:=fun x=>y8D x.1 x.2.1 }
theorem yWX:FnOK Tryz.prog z0B_e:=yJ (g:=yU8) (fn:=Tryz.f185) yB yI eNil (by kernel_rfl) (by kernel_rfl) (by kernel_rfl) (fun x y h=>let ⟨n,hn⟩:=yQO x.1 x.2.1 y h;⟨yNw n,iNil,(yYc n x).trans hn⟩)
abbrev yQf:Ty:=.pair t9 .unit
abbrev yXb:Ty:=.pair t4 .unit
def yTc:G:={ T:=T,E:=[],muts:=[],fz:=[] }
def ydJ:List (List Nat):=[[0,3]]
def yMr(n:Nat):Ann:={ keep:=ydJ,fuel:=n,inl:=[],deep:=0 }
def y3b(n:Nat)(r2:List UInt8→Int→Option (Bool×Unit))(aY:List UInt8)(bu:Int)(v3:UInt8):Option (Bool×Unit) :=
  (bif bu==0 then some (Bool.false,())else (bif (↑v3.toNat:Int) != 95 then (bif decide ((↑v3.toNat:Int) < 48)then some (Bool.false,())else (bif decide ((↑v3.toNat:Int) > 57)then some (Bool.false,())else r2 aY (IntKind.i64.wrap (bu+1))))else r2 aY (IntKind.i64.wrap (bu+1))))
def yEV(n:Nat)(r2:List UInt8→Int→Option (Bool×Unit))(aY:List UInt8)(bu:Int):Option (Bool×Unit) :=
  (bif decide (bu < (↑aY.length:Int))then (Option.bind (idx aY bu) fun v3=>(bif decide ((↑v3.toNat:Int) ≥ 97)then (bif decide ((↑v3.toNat:Int)≤122)then r2 aY (IntKind.i64.wrap (bu+1))else (bif decide ((↑v3.toNat:Int) ≥ 65)then (bif decide ((↑v3.toNat:Int)≤90)then r2 aY (IntKind.i64.wrap (bu+1))else (y3b n r2 aY bu v3))else (y3b n r2 aY bu v3)))else (bif decide ((↑v3.toNat:Int) ≥ 65)then (bif decide ((↑v3.toNat:Int)≤90)then r2 aY (IntKind.i64.wrap (bu+1))else (y3b n r2 aY bu v3))else (y3b n r2 aY bu v3))))else some (Bool.true,()))
def y6i(n:Nat)(k:Nat)(aY:List UInt8)(bu:Int):Option (Bool×Unit) :=
  iter (fun r y=>yEV n (fun aY bu=>r ((aY,(bu,())),((),()))) y.1.1 y.1.2.1) k ((aY,(bu,())),((),()))
def yLG(n:Nat)(s:List UInt8):Option (Bool×Unit) :=
  (bif (↑s.length:Int)==0 then some (Bool.false,())else (bif decide ((↑s.length:Int) > 24)then some (Bool.false,())else (y6i n n (s) ((0:Int)))))
theorem yXA(n:Nat)(x:yQf.den):runF yTc (yMr n) Tryz.f187 yQf yXb x=yLG n x.1:=by kernel_rfl
def y5c(aY:List UInt8)(bu:Int)(v3:UInt8):Option ((Bool×Unit)⊕Unit) :=
  (bif bu==0 then (some (Sum.inl ((Bool.false,()))))else (bif (↑v3.toNat:Int) != 95 then (bif decide ((↑v3.toNat:Int) < 48)then (some (Sum.inl ((Bool.false,()))))else (bif decide ((↑v3.toNat:Int) > 57)then (some (Sum.inl ((Bool.false,()))))else (some (Sum.inr ()))))else (some (Sum.inr ()))))
theorem y0V(n:Nat)(hn:big≤n)(r2:List UInt8→Int→Option (Bool×Unit))(aY:List UInt8)(bu:Int)(v3:UInt8):LeF (elim some fun (a7:Unit)=>r2 aY (IntKind.i64.wrap (bu+1))) (y5c aY bu v3) (y3b n r2 aY bu v3) :=
  (yA (y6 rfl) (yA (yA (y6 rfl) (yA (y6 rfl) (y6 rfl))) (y6 rfl)))
def y9C(aY:List UInt8)(bu:Int)(v3:UInt8):Option ((Bool×Unit)⊕Unit) :=
  (bif decide ((↑v3.toNat:Int) ≥ 97)then (bif decide ((↑v3.toNat:Int)≤122)then (some (Sum.inr ()))else (bif decide ((↑v3.toNat:Int) ≥ 65)then (bif decide ((↑v3.toNat:Int)≤90)then (some (Sum.inr ()))else (y5c aY bu v3))else (y5c aY bu v3)))else (bif decide ((↑v3.toNat:Int) ≥ 65)then (bif decide ((↑v3.toNat:Int)≤90)then (some (Sum.inr ()))else (y5c aY bu v3))else (y5c aY bu v3)))
def yDu(aY:List UInt8):Option (Bool×Unit) :=
  (some ((Bool.true,())))
theorem yD3(n:Nat)(hn:big≤n)(aY:List UInt8)(hx:List.length (aY) < lenMax):LeF some (yR (fun ac az a7=>y9C aY ac az) (fun a7=>yDu aY) 0 (aY) ()) (y6i n n aY 0):=by
  refine yU (f:=some) (W:=fun aE ac a7=>y6i n aE aY ac) (body:=(fun ac az a7=>y9C aY ac az)) (fin:=(fun a7=>yDu aY)) (fun aE ac a7=>?_) hx () n (by unfold big at hn;unfold lenMax at hx;omega)
  show LeF _ _ (yEV n (y6i n aE) aY ac)
  exact yA (yE fun v3=>(yA (yA (y6 rfl) (yA (yA (y6 rfl) (by apply y0V n hn)) (by apply y0V n hn))) (yA (yA (y6 rfl) (by apply y0V n hn)) (by apply y0V n hn)))) (y0C (y6 rfl))
def yDd(s:List UInt8):Option (Bool×Unit) :=
  (bif (↑s.length:Int)==0 then (some ((Bool.false,())))else (bif decide ((↑s.length:Int) > 24)then (some ((Bool.false,())))else (bif decide (List.length (s) < lenMax)then yR (fun ac az a7=>y9C (s) ac az) (fun a7=>yDu (s)) 0 (s) ()else none)))
theorem yRU(s:List UInt8)(y:Bool×Unit)(h:yDd s=some y):∃ n,yLG n s=some y :=
  ⟨big,LeF.top (show LeF some (yDd s) (yLG big s)from (fun (n:Nat) (hn:big≤n)=>show LeF some (yDd s) (yLG n s)from (yA (y6 rfl) (yA (y6 rfl) (yV fun hx=>by apply yD3 n hn;exact hx)))) big (Nat.le_refl _)) h⟩
def z0J_e:Entry:={ f:=187,args:=yQf,ress:=yXb,m:=fun x=>yDd x.1 }
theorem yTt:FnOK Tryz.prog z0J_e:=yJ (g:=yTc) (fn:=Tryz.f187) yB yI eNil (by kernel_rfl) (by kernel_rfl) (by kernel_rfl) (fun x y h=>let ⟨n,hn⟩:=yRU x.1 y h;⟨yMr n,iNil,(yXA n x).trans hn⟩)
abbrev yQ8:Ty:=.pair t55 .unit
abbrev yUm:Ty:=.pair t55 .unit
def yVO:G:={ T:=T,E:=[],muts:=[],fz:=[] }
def yd8:List (List Nat):=[]
def yNG(n:Nat):Ann:={ keep:=yd8,fuel:=n,inl:=[],deep:=0 }
def yJv(n:Nat)(c:Q3):Option ((Q3)×Unit) :=
  some ((c.1,c.2.1,c.2.2.1,()),())
theorem yZn(n:Nat)(x:yQ8.den):runF yVO (yNG n) Tryz.f189 yQ8 yUm x=yJv n x.1:=by kernel_rfl
def z08(c:Q3):((Q3)×Unit) :=
  ((c.1,c.2.1,c.2.2.1,()),())
abbrev yR3 (c:Q3):Option ((Q3)×Unit):=some (z08 c)
theorem yOf(c:Q3)(y:(Q3)×Unit)(h:yR3 c=some y):∃ n,yJv n c=some y :=
  ⟨0,by rw[← h];show yJv 0 c=some (z08 c);unfold yJv z08;first|rfl|(simp only[yF];done)|(simp only[yF];rfl)⟩
def z08_e:Entry:={ f:=189,args:=yQ8,ress:=yUm,m:=fun x=>yR3 x.1 }
theorem yWW:FnOK Tryz.prog z08_e:=yJ (g:=yVO) (fn:=Tryz.f189) yB yI eNil (by kernel_rfl) (by kernel_rfl) (by kernel_rfl) (fun x y h=>let ⟨n,hn⟩:=yOf x.1 y h;⟨yNG n,iNil,(yZn n x).trans hn⟩)
abbrev yP3:Ty:=.pair t57 (.pair (.ref t3) .unit)
abbrev yTH:Ty:=.pair t57 .unit
def yWP:G:={ T:=T,E:=[],muts:=[],fz:=[] }
def ydF:List (List Nat):=[]
def yNf(n:Nat):Ann:={ keep:=ydF,fuel:=n,inl:=[],deep:=0 }
def yRq(n:Nat)(z:Q4)(p1:Int):Option ((Q4)×Unit) :=
  (bif p1==0 then none else (bif p1==0 then none else some ((IntKind.i64.wrap (z.1.tdiv p1),IntKind.i64.wrap (z.2.1.tdiv p1),()),())))
theorem yUe(n:Nat)(x:yP3.den):runF yWP (yNf n) Tryz.f190 yP3 yTH x=yRq n x.1 x.2.1:=by kernel_rfl
def yRn(z:Q4)(p1:Int):Option ((Q4)×Unit):=yRq 0 z p1
theorem yST(z:Q4)(p1:Int)(y:(Q4)×Unit)(h:yRn z p1=some y):∃ n,yRq n z p1=some y:=⟨0,h⟩
def z09_e:Entry:={ f:=190,args:=yP3,ress:=yTH,m:=fun x=>yRn x.1 x.2.1 }
theorem yXI:FnOK Tryz.prog z09_e:=yJ (g:=yWP) (fn:=Tryz.f190) yB yI eNil (by kernel_rfl) (by kernel_rfl) (by kernel_rfl) (fun x y h=>let ⟨n,hn⟩:=yST x.1 x.2.1 y h;⟨yNf n,iNil,(yUe n x).trans hn⟩)
abbrev z8_a:Ty:=.pair t31 (.pair t255 .unit)
abbrev z8_r:Ty:=.pair t96 .unit
def z8_g:G:={ T:=T,E:=[],muts:=[5],fz:=[] }
def z8_k:List (List Nat):=[[1,5,8,9,10]]
def yWE(n:Nat):Ann:={ keep:=z8_k,fuel:=n,inl:=[],deep:=0 }
def yQm(n:Nat)(r0:((Q3)×Unit→Option (List (Q4)×Unit))→List (Q3)→Int→Int→List (List (Q4))→Option (List (List (Q4))×Unit))(aa:(Q3)×Unit→Option (List (Q4)×Unit))(a8:List (Q3))(al:Int)(ae:Int)(ai:List (List (Q4))):Option (List (List (Q4))×Unit) :=
  (bif decide (ae < al)then (Option.bind (idx a8 ae) fun v1=>(Option.bind (aa ((v1.1,v1.2.1,v1.2.2.1,()),())) fun v2=>(bif decide (ai.length+(1:Nat)≤memMax)then r0 aa a8 al (IntKind.i64.wrap (ae+1)) (ai++[v2.1])else none)))else some (ai,()))
def yQL(n:Nat)(k:Nat)(aa:(Q3)×Unit→Option (List (Q4)×Unit))(a8:List (Q3))(al:Int)(ae:Int)(ai:List (List (Q4))):Option (List (List (Q4))×Unit) :=
  iter (fun r y=>yQm n (fun aa a8 al ae ai=>r ((aa,(a8,(al,(ae,())))),((ai,()),()))) y.1.1 y.1.2.1 y.1.2.2.1 y.1.2.2.2.1 y.2.1.1) k ((aa,(a8,(al,(ae,())))),((ai,()),()))
def z8_m(n:Nat)(l:List (Q3))(of:(Q3)×Unit→Option (List (Q4)×Unit)):Option (List (List (Q4))×Unit) :=
  (yQL n n (of) (l) ((↑l.length:Int)) ((0:Int)) ([]))
theorem yc6(n:Nat)(x:z8_a.den):runF z8_g (yWE n) Tryz.f191 z8_a z8_r x=z8_m n x.1 x.2.1:=by kernel_rfl
def z8_M(l:List (Q3))(of:(Q3)×Unit→Option (List (Q4)×Unit)):Option (List (List (Q4))×Unit):=z8_m 1000 l of
theorem yW0(l:List (Q3))(of:(Q3)×Unit→Option (List (Q4)×Unit))(y:List (List (Q4))×Unit)(h:z8_M l of=some y):∃ n,z8_m n l of=some y:=⟨1000,h⟩
def z8_e:Entry:={ f:=191,args:=z8_a,ress:=z8_r,m:=fun x=>z8_M x.1 x.2.1 }
theorem ybp:FnOK Tryz.prog z8_e:=yJ (g:=z8_g) (fn:=Tryz.f191) yB yI eNil (by kernel_rfl) (by kernel_rfl) (by kernel_rfl) (fun x y h=>let ⟨n,hn⟩:=yW0 x.1 x.2.1 y h;⟨yWE n,iNil,(yc6 n x).trans hn⟩)
abbrev zI_a:Ty:=.pair t35 (.pair t259 .unit)
abbrev zI_r:Ty:=.pair t175 .unit
def zI_g:G:={ T:=T,E:=[],muts:=[5],fz:=[] }
def zI_k:List (List Nat):=[[1,5,8,9,10]]
def yWS(n:Nat):Ann:={ keep:=zI_k,fuel:=n,inl:=[],deep:=0 }
def yIC(n:Nat)(r0:(Nat×Unit→Option (Int×Unit))→List Nat→Int→Int→List Int→Option (List Int×Unit))(aa:Nat×Unit→Option (Int×Unit))(a8:List Nat)(al:Int)(ae:Int)(ai:List Int):Option (List Int×Unit) :=
  (bif decide (ae < al)then (Option.bind (idx a8 ae) fun v1=>(Option.bind (aa (v1,())) fun v2=>(bif decide (ai.length+(1:Nat)≤memMax)then r0 aa a8 al (IntKind.i64.wrap (ae+1)) (ai++[v2.1])else none)))else some (ai,()))
def yAG(n:Nat)(k:Nat)(aa:Nat×Unit→Option (Int×Unit))(a8:List Nat)(al:Int)(ae:Int)(ai:List Int):Option (List Int×Unit) :=
  iter (fun r y=>yIC n (fun aa a8 al ae ai=>r ((aa,(a8,(al,(ae,())))),((ai,()),()))) y.1.1 y.1.2.1 y.1.2.2.1 y.1.2.2.2.1 y.2.1.1) k ((aa,(a8,(al,(ae,())))),((ai,()),()))
def zI_m(n:Nat)(l:List Nat)(of:Nat×Unit→Option (Int×Unit)):Option (List Int×Unit) :=
  (yAG n n (of) (l) ((↑l.length:Int)) ((0:Int)) ([]))
theorem ycO(n:Nat)(x:zI_a.den):runF zI_g (yWS n) Tryz.f196 zI_a zI_r x=zI_m n x.1 x.2.1:=by kernel_rfl
def ySN(aa:Nat×Unit→Option (Int×Unit))(a8:List Nat)(ae:Int)(v1:Nat)(ai:List Int):Option ((List Int×Unit)⊕(List Int)) :=
  (Option.bind (aa (v1,())) fun v2=>(bif decide (ai.length+(1:Nat)≤memMax)then (some (Sum.inr (ai++[v2.1])))else none))
def yRI(aa:Nat×Unit→Option (Int×Unit))(a8:List Nat)(ai:List Int):Option (List Int×Unit) :=
  (some ((ai,())))
theorem yGg(n:Nat)(hn:big≤n)(aa:Nat×Unit→Option (Int×Unit))(a8:List Nat)(ai:List Int)(hx:List.length (a8) < lenMax):LeF some (yR (fun ac az a7=>ySN aa a8 ac az a7) (fun a7=>yRI aa a8 a7) 0 (a8) ai) (yAG n n aa a8 (List.length (a8):Int) 0 ai):=by
  refine yU (f:=some) (W:=fun aE ac a7=>yAG n aE aa a8 (List.length (a8):Int) ac a7) (body:=(fun ac az a7=>ySN aa a8 ac az a7)) (fin:=(fun a7=>yRI aa a8 a7)) (fun aE ac a7=>?_) hx ai n (by unfold big at hn;unfold lenMax at hx;omega)
  show LeF _ _ (yIC n (yAG n aE) aa a8 (List.length (a8):Int) ac a7)
  exact yA (yE fun v1=>(yE fun v2=>(yA (y6 rfl) y19))) (y0C (y6 rfl))
def zI_M(l:List Nat)(of:Nat×Unit→Option (Int×Unit)):Option (List Int×Unit) :=
  (bif decide (List.length (l) < lenMax)then yR (fun ac az a7=>ySN (of) (l) ac az a7) (fun a7=>yRI (of) (l) a7) 0 (l) ([])else none)
theorem yYu(l:List Nat)(of:Nat×Unit→Option (Int×Unit))(y:List Int×Unit)(h:zI_M l of=some y):∃ n,zI_m n l of=some y :=
  ⟨big,LeF.top (show LeF some (zI_M l of) (zI_m big l of)from (fun (n:Nat) (hn:big≤n)=>show LeF some (zI_M l of) (zI_m n l of)from (yV fun hx=>by apply yGg n hn;exact hx)) big (Nat.le_refl _)) h⟩
def zI_e:Entry:={ f:=196,args:=zI_a,ress:=zI_r,m:=fun x=>zI_M x.1 x.2.1 }
theorem ych:FnOK Tryz.prog zI_e:=yJ (g:=zI_g) (fn:=Tryz.f196) yB yI eNil (by kernel_rfl) (by kernel_rfl) (by kernel_rfl) (fun x y h=>let ⟨n,hn⟩:=yYu x.1 x.2.1 y h;⟨yWS n,iNil,(ycO n x).trans hn⟩)
abbrev yPQ:Ty:=.pair t175 .unit
abbrev yVw:Ty:=.pair t28 .unit
def yV3:G:={ T:=T,E:=[],muts:=[],fz:=[] }
def ybj:List (List Nat):=[[5,6,7]]
def yMo(n:Nat):Ann:={ keep:=ybj,fuel:=n,inl:=[],deep:=0 }
def yEA(n:Nat)(r0:List Int→Int→Int→Option (Int×Unit))(aV:List Int)(aF:Int)(aA:Int):Option (Int×Unit) :=
  (bif decide (aA < aF)then (Option.bind (idx aV aA) fun v1=>(bif v1 != 0 then some (v1,())else r0 aV aF (IntKind.i64.wrap (aA+1))))else some ((0:Int),()))
def y6t(n:Nat)(k:Nat)(aV:List Int)(aF:Int)(aA:Int):Option (Int×Unit) :=
  iter (fun r y=>yEA n (fun aV aF aA=>r ((aV,(aF,(aA,()))),((),()))) y.1.1 y.1.2.1 y.1.2.2.1) k ((aV,(aF,(aA,()))),((),()))
def yJy(n:Nat)(l:List Int):Option (Int×Unit) :=
  (y6t n n (l) ((↑l.length:Int)) ((0:Int)))
theorem yZR(n:Nat)(x:yPQ.den):runF yV3 (yMo n) Tryz.f198 yPQ yVw x=yJy n x.1:=by kernel_rfl
def yDz(aV:List Int)(aA:Int)(v1:Int):Option ((Int×Unit)⊕Unit) :=
  (bif v1 != 0 then (some (Sum.inl ((v1,()))))else (some (Sum.inr ())))
def yE9(aV:List Int):Option (Int×Unit) :=
  (some (((0:Int),())))
theorem yCb(n:Nat)(hn:big≤n)(aV:List Int)(hx:List.length (aV) < lenMax):LeF some (yR (fun ac az a7=>yDz aV ac az) (fun a7=>yE9 aV) 0 (aV) ()) (y6t n n aV (List.length (aV):Int) 0):=by
  refine yU (f:=some) (W:=fun aE ac a7=>y6t n aE aV (List.length (aV):Int) ac) (body:=(fun ac az a7=>yDz aV ac az)) (fin:=(fun a7=>yE9 aV)) (fun aE ac a7=>?_) hx () n (by unfold big at hn;unfold lenMax at hx;omega)
  show LeF _ _ (yEA n (y6t n aE) aV (List.length (aV):Int) ac)
  exact yA (yE fun v1=>(yA (y6 rfl) (y6 rfl))) (y0C (y6 rfl))
def y6M(l:List Int):Option (Int×Unit) :=
  (bif decide (List.length (l) < lenMax)then yR (fun ac az a7=>yDz (l) ac az) (fun a7=>yE9 (l)) 0 (l) ()else none)
theorem yP9(l:List Int)(y:Int×Unit)(h:y6M l=some y):∃ n,yJy n l=some y :=
  ⟨big,LeF.top (show LeF some (y6M l) (yJy big l)from (fun (n:Nat) (hn:big≤n)=>show LeF some (y6M l) (yJy n l)from (yV fun hx=>by apply yCb n hn;exact hx)) big (Nat.le_refl _)) h⟩
def z0W_e:Entry:={ f:=198,args:=yPQ,ress:=yVw,m:=fun x=>y6M x.1 }
theorem yOL:FnOK Tryz.prog z0W_e:=yJ (g:=yV3) (fn:=Tryz.f198) yB yI eNil (by kernel_rfl) (by kernel_rfl) (by kernel_rfl) (fun x y h=>let ⟨n,hn⟩:=yP9 x.1 y h;⟨yMo n,iNil,(yZR n x).trans hn⟩)
abbrev yRN:Ty:=.pair t4 (.pair t28 .unit)
abbrev yZX:Ty:=.pair t28 .unit
def yaM:G:={ T:=T,E:=[],muts:=[],fz:=[] }
def ydM:List (List Nat):=[]
def yOC(n:Nat):Ann:={ keep:=ydM,fuel:=n,inl:=[],deep:=0 }
def yMO(n:Nat)(holds:Bool)(e:Int):Option (Int×Unit) :=
  (bif holds then some (e,())else some ((0:Int),()))
theorem yYq(n:Nat)(x:yRN.den):runF yaM (yOC n) Tryz.f199 yRN yZX x=yMO n x.1 x.2.1:=by kernel_rfl
def z0q(holds:Bool)(e:Int):(Int×Unit) :=
  (bif holds then (e,())else ((0:Int),()))
abbrev yXn (holds:Bool) (e:Int):Option (Int×Unit):=some (z0q holds e)
theorem yPm(holds:Bool)(e:Int)(y:Int×Unit)(h:yXn holds e=some y):∃ n,yMO n holds e=some y :=
  ⟨0,by rw[← h];show yMO 0 holds e=some (z0q holds e);unfold yMO z0q;first|rfl|(simp only[yF];done)|(simp only[yF];rfl)⟩
def z0q_e:Entry:={ f:=199,args:=yRN,ress:=yZX,m:=fun x=>yXn x.1 x.2.1 }
theorem yBt:FnOK Tryz.prog z0q_e:=yJ (g:=yaM) (fn:=Tryz.f199) yB yI eNil (by kernel_rfl) (by kernel_rfl) (by kernel_rfl) (fun x y h=>let ⟨n,hn⟩:=yPm x.1 x.2.1 y h;⟨yOC n,iNil,(yYq n x).trans hn⟩)
abbrev ySr:Ty:=.pair t9 .unit
abbrev yWI:Ty:=.pair t4 .unit
def yTp:G:={ T:=T,E:=[],muts:=[],fz:=[] }
def yax:List (List Nat):=[[0,8]]
def yMq(n:Nat):Ann:={ keep:=yax,fuel:=n,inl:=[],deep:=0 }
def y5A(n:Nat)(r0:List UInt8→List UInt8→Int→Option (Bool×Unit))(av:List UInt8)(str0__0:List UInt8)(pos0__0:Int)(j2:Bool)(j7:Bool):Option (Bool×Unit) :=
  (bif !j2 then (bif pos0__0==0 then some (Bool.false,())else (bif !j7 then some (Bool.false,())else r0 av str0__0 (yf str0__0 pos0__0).2))else r0 av str0__0 (yf str0__0 pos0__0).2)
def y2z(n:Nat)(r0:List UInt8→List UInt8→Int→Option (Bool×Unit))(av:List UInt8)(str0__0:List UInt8)(pos0__0:Int)(j2:Bool):Option (Bool×Unit) :=
  (bif decide ((yf str0__0 pos0__0).1 ≥ 48)then (bif decide ((yf str0__0 pos0__0).1≤57)then (y5A n r0 av str0__0 pos0__0 j2 (Bool.true))else (y5A n r0 av str0__0 pos0__0 j2 ((yf str0__0 pos0__0).1==95)))else (y5A n r0 av str0__0 pos0__0 j2 ((yf str0__0 pos0__0).1==95)))
def yDw(n:Nat)(r0:List UInt8→List UInt8→Int→Option (Bool×Unit))(av:List UInt8)(str0__0:List UInt8)(pos0__0:Int):Option (Bool×Unit) :=
  (bif decide (pos0__0 < (↑str0__0.length:Int))then (bif decide ((yf str0__0 pos0__0).1 ≥ 65)then (bif decide ((yf str0__0 pos0__0).1≤90)then (y2z n r0 av str0__0 pos0__0 (Bool.true))else (bif decide ((yf str0__0 pos0__0).1 ≥ 97)then (y2z n r0 av str0__0 pos0__0 (decide ((yf str0__0 pos0__0).1≤122)))else (y2z n r0 av str0__0 pos0__0 (Bool.false))))else (bif decide ((yf str0__0 pos0__0).1 ≥ 97)then (y2z n r0 av str0__0 pos0__0 (decide ((yf str0__0 pos0__0).1≤122)))else (y2z n r0 av str0__0 pos0__0 (Bool.false))))else (bif !av==[]then some (decide ((↑av.length:Int)≤24),())else some (Bool.false,())))
def y6l(n:Nat)(k:Nat)(av:List UInt8)(str0__0:List UInt8)(pos0__0:Int):Option (Bool×Unit) :=
  iter (fun r y=>yDw n (fun av str0__0 pos0__0=>r ((av,()),(((str0__0,pos0__0),()),()))) y.1.1 y.2.1.1.1 y.2.1.1.2) k ((av,()),(((str0__0,pos0__0),()),()))
def yME(n:Nat)(s:List UInt8):Option (Bool×Unit) :=
  (y6l n n (s) (s) ((0:Int)))
theorem yZF(n:Nat)(x:ySr.den):runF yTp (yMq n) Tryz.f200 ySr yWI x=yME n x.1:=by kernel_rfl
def y7r(av:List UInt8)(str0__0:List UInt8)(pos0__0:Int)(j2:Bool)(j7:Bool):Option ((Bool×Unit)⊕Unit) :=
  (bif !j2 then (bif pos0__0==0 then (some (Sum.inl ((Bool.false,()))))else (bif !j7 then (some (Sum.inl ((Bool.false,()))))else (some (Sum.inr ()))))else (some (Sum.inr ())))
theorem y18(n:Nat)(hn:big≤n)(r0:List UInt8→List UInt8→Int→Option (Bool×Unit))(av:List UInt8)(str0__0:List UInt8)(pos0__0:Int)(j2:Bool)(j7:Bool):LeF (elim some fun (a7:Unit)=>r0 av str0__0 (yf (str0__0) pos0__0).2) (y7r av str0__0 pos0__0 j2 j7) (y5A n r0 av str0__0 pos0__0 j2 j7) :=
  (yA (yA (y6 rfl) (yA (y6 rfl) (y6 rfl))) (y6 rfl))
def y4Z(av:List UInt8)(str0__0:List UInt8)(pos0__0:Int)(j2:Bool):Option ((Bool×Unit)⊕Unit) :=
  (bif decide ((yf str0__0 pos0__0).1 ≥ 48)then (bif decide ((yf str0__0 pos0__0).1≤57)then (y7r av str0__0 pos0__0 j2 (Bool.true))else (y7r av str0__0 pos0__0 j2 ((yf str0__0 pos0__0).1==95)))else (y7r av str0__0 pos0__0 j2 ((yf str0__0 pos0__0).1==95)))
theorem y0D(n:Nat)(hn:big≤n)(r0:List UInt8→List UInt8→Int→Option (Bool×Unit))(av:List UInt8)(str0__0:List UInt8)(pos0__0:Int)(j2:Bool):LeF (elim some fun (a7:Unit)=>r0 av str0__0 (yf (str0__0) pos0__0).2) (y4Z av str0__0 pos0__0 j2) (y2z n r0 av str0__0 pos0__0 j2) :=
  (yA (yA (by apply y18 n hn) (by apply y18 n hn)) (by apply y18 n hn))
def y97(av:List UInt8)(str0__0:List UInt8)(pos0__0:Int):Option ((Bool×Unit)⊕Unit) :=
  (bif decide ((yf str0__0 pos0__0).1 ≥ 65)then (bif decide ((yf str0__0 pos0__0).1≤90)then (y4Z av str0__0 pos0__0 (Bool.true))else (bif decide ((yf str0__0 pos0__0).1 ≥ 97)then (y4Z av str0__0 pos0__0 (decide ((yf str0__0 pos0__0).1≤122)))else (y4Z av str0__0 pos0__0 (Bool.false))))else (bif decide ((yf str0__0 pos0__0).1 ≥ 97)then (y4Z av str0__0 pos0__0 (decide ((yf str0__0 pos0__0).1≤122)))else (y4Z av str0__0 pos0__0 (Bool.false))))
def y9A(av:List UInt8)(str0__0:List UInt8):Option (Bool×Unit) :=
  (bif !av==[]then (some ((decide ((↑av.length:Int)≤24),())))else (some ((Bool.false,()))))
theorem yDg(n:Nat)(hn:big≤n)(av:List UInt8)(str0__0:List UInt8)(hx:List.length (str0__0) < lenMax):LeF some (y8N (str0__0) (fun ac a7=>y97 av str0__0 ac) (fun a7=>y9A av str0__0) (List.length (str0__0)) 0 ()) (y6l n n av str0__0 0):=by
  refine yLi (f:=some) (W:=fun aE ac a7=>y6l n aE av str0__0 ac) (body:=(fun ac a7=>y97 av str0__0 ac)) (fin:=(fun a7=>y9A av str0__0)) (fun aE ac a7=>?_) () n (by unfold big at hn;unfold lenMax at hx;omega)
  show LeF _ _ (yDw n (y6l n aE) av str0__0 ac)
  exact yA (yA (yA (by apply y0D n hn) (yA (by apply y0D n hn) (by apply y0D n hn))) (yA (by apply y0D n hn) (by apply y0D n hn))) (y0C (yA (y6 rfl) (y6 rfl)))
def yAy(s:List UInt8):Option (Bool×Unit) :=
  (bif decide (List.length (s) < lenMax)then y8N (s) (fun ac a7=>y97 (s) (s) ac) (fun a7=>y9A (s) (s)) (List.length (s)) 0 ()else none)
theorem yQl(s:List UInt8)(y:Bool×Unit)(h:yAy s=some y):∃ n,yME n s=some y :=
  ⟨big,LeF.top (show LeF some (yAy s) (yME big s)from (fun (n:Nat) (hn:big≤n)=>show LeF some (yAy s) (yME n s)from (yV fun hx=>by apply yDg n hn;exact hx)) big (Nat.le_refl _)) h⟩
def z0G_e:Entry:={ f:=200,args:=ySr,ress:=yWI,m:=fun x=>yAy x.1 }
theorem yNk:FnOK Tryz.prog z0G_e:=yJ (g:=yTp) (fn:=Tryz.f200) yB yI eNil (by kernel_rfl) (by kernel_rfl) (by kernel_rfl) (fun x y h=>let ⟨n,hn⟩:=yQl x.1 y h;⟨yMq n,iNil,(yZF n x).trans hn⟩)
abbrev zP_a:Ty:=.pair t63 (.pair (.ref t60) .unit)
abbrev zP_r:Ty:=.pair t4 .unit
def zP_g:G:={ T:=T,E:=[],muts:=[],fz:=[] }
def zP_k:List (List Nat):=[]
def yUL(n:Nat):Ann:={ keep:=zP_k,fuel:=n,inl:=[],deep:=0 }
def zP_m(n:Nat)(s:Q4)(p1:Q1):Option (Bool×Unit) :=
  some (decide (s.2.1 > (↑p1.2.2.1.length:Int)),())
theorem yan(n:Nat)(x:zP_a.den):runF zP_g (yUL n) Tryz.f205 zP_a zP_r x=zP_m n x.1 x.2.1:=by kernel_rfl
def zP(s:Q4)(p1:Q1):(Bool×Unit) :=
  (decide (s.2.1 > (↑p1.2.2.1.length:Int)),())
abbrev zP_M (s:Q4) (p1:Q1):Option (Bool×Unit):=some (zP s p1)
theorem yZh(s:Q4)(p1:Q1)(y:Bool×Unit)(h:zP_M s p1=some y):∃ n,zP_m n s p1=some y :=
  ⟨0,by rw[← h];show zP_m 0 s p1=some (zP s p1);unfold zP_m zP;first|rfl|(simp only[yF];done)|(simp only[yF];rfl)⟩
def zP_e:Entry:={ f:=205,args:=zP_a,ress:=zP_r,m:=fun x=>zP_M x.1 x.2.1 }
theorem ycR:FnOK Tryz.prog zP_e:=yJ (g:=zP_g) (fn:=Tryz.f205) yB yI eNil (by kernel_rfl) (by kernel_rfl) (by kernel_rfl) (fun x y h=>let ⟨n,hn⟩:=yZh x.1 x.2.1 y h;⟨yUL n,iNil,(yan n x).trans hn⟩)
abbrev zO_a:Ty:=.pair t61 .unit
abbrev zO_r:Ty:=.pair t4 .unit
def zO_g:G:={ T:=T,E:=[],muts:=[],fz:=[] }
def zO_k:List (List Nat):=[]
def yUn(n:Nat):Ann:={ keep:=zO_k,fuel:=n,inl:=[],deep:=0 }
def zO_m(n:Nat)(x1:Nat):Option (Bool×Unit) :=
  some (ym Go.BinOp.neq Go.FloatKind.f32 x1 (nat_lit 0),())
theorem ybk(n:Nat)(x:zO_a.den):runF zO_g (yUn n) Tryz.f208 zO_a zO_r x=zO_m n x.1:=by kernel_rfl
def zO(x1:Nat):(Bool×Unit) :=
  (ym Go.BinOp.neq Go.FloatKind.f32 x1 (nat_lit 0),())
abbrev zO_M (x1:Nat):Option (Bool×Unit):=some (zO x1)
theorem yWy(x1:Nat)(y:Bool×Unit)(h:zO_M x1=some y):∃ n,zO_m n x1=some y :=
  ⟨0,by rw[← h];show zO_m 0 x1=some (zO x1);unfold zO_m zO;first|rfl|(simp only[yF];done)|(simp only[yF];rfl)⟩
def zO_e:Entry:={ f:=208,args:=zO_a,ress:=zO_r,m:=fun x=>zO_M x.1 }
theorem yaS:FnOK Tryz.prog zO_e:=yJ (g:=zO_g) (fn:=Tryz.f208) yB yI eNil (by kernel_rfl) (by kernel_rfl) (by kernel_rfl) (fun x y h=>let ⟨n,hn⟩:=yWy x.1 y h;⟨yUn n,iNil,(ybk n x).trans hn⟩)
abbrev zn_a:Ty:=.pair t63 .unit
abbrev zn_r:Ty:=.pair t3 .unit
def zn_g:G:={ T:=T,E:=[],muts:=[],fz:=[] }
def zn_k:List (List Nat):=[]
def yY8(n:Nat):Ann:={ keep:=zn_k,fuel:=n,inl:=[],deep:=0 }
def zn_m(n:Nat)(s:Q4):Option (Int×Unit) :=
  (bif decide (s.1 < 0)then some ((14:Int),())else (bif decide (s.2.1≤s.1)then some ((14:Int),())else (bif decide (s.2.1 > 100000)then some ((14:Int),())else some ((0:Int),()))))
theorem ybc(n:Nat)(x:zn_a.den):runF zn_g (yY8 n) Tryz.f209 zn_a zn_r x=zn_m n x.1:=by kernel_rfl
def zn(s:Q4):(Int×Unit) :=
  (bif decide (s.1 < 0)then ((14:Int),())else (bif decide (s.2.1≤s.1)then ((14:Int),())else (bif decide (s.2.1 > 100000)then ((14:Int),())else ((0:Int),()))))
abbrev zn_M (s:Q4):Option (Int×Unit):=some (zn s)
theorem yVh(s:Q4)(y:Int×Unit)(h:zn_M s=some y):∃ n,zn_m n s=some y :=
  ⟨0,by rw[← h];show zn_m 0 s=some (zn s);unfold zn_m zn;first|rfl|(simp only[yF];done)|(simp only[yF];rfl)⟩
def zn_e:Entry:={ f:=209,args:=zn_a,ress:=zn_r,m:=fun x=>zn_M x.1 }
theorem ybS:FnOK Tryz.prog zn_e:=yJ (g:=zn_g) (fn:=Tryz.f209) yB yI eNil (by kernel_rfl) (by kernel_rfl) (by kernel_rfl) (fun x y h=>let ⟨n,hn⟩:=yVh x.1 y h;⟨yY8 n,iNil,(ybc n x).trans hn⟩)
abbrev zb_a:Ty:=.pair t61 .unit
abbrev zb_r:Ty:=.pair t3 .unit
def zb_g:G:={ T:=T,E:=[],muts:=[],fz:=[] }
def zb_k:List (List Nat):=[]
def yT8(n:Nat):Ann:={ keep:=zb_k,fuel:=n,inl:=[],deep:=0 }
def zb_m(n:Nat)(x1:Nat):Option (Int×Unit) :=
  (Option.bind (y02 Go.FloatKind.f32 (y01 Go.BinOp.mul Go.FloatKind.f32 x1 (nat_lit 1098907648)) IntKind.i64) fun v0=>some (v0,()))
theorem ybZ(n:Nat)(x:zb_a.den):runF zb_g (yT8 n) Tryz.f224 zb_a zb_r x=zb_m n x.1:=by kernel_rfl
def zb_M(x1:Nat):Option (Int×Unit):=zb_m 0 x1
theorem yXD(x1:Nat)(y:Int×Unit)(h:zb_M x1=some y):∃ n,zb_m n x1=some y:=⟨0,h⟩
def zb_e:Entry:={ f:=224,args:=zb_a,ress:=zb_r,m:=fun x=>zb_M x.1 }
theorem ybi:FnOK Tryz.prog zb_e:=yJ (g:=zb_g) (fn:=Tryz.f224) yB yI eNil (by kernel_rfl) (by kernel_rfl) (by kernel_rfl) (fun x y h=>let ⟨n,hn⟩:=yXD x.1 y h;⟨yT8 n,iNil,(ybZ n x).trans hn⟩)
abbrev zD_a:Ty:=.pair t58 (.pair t263 .unit)
abbrev zD_r:Ty:=.pair t3 .unit
def zD_g:G:={ T:=T,E:=[],muts:=[],fz:=[] }
def zD_k:List (List Nat):=[[0,1,7,8]]
def yUO(n:Nat):Ann:={ keep:=zD_k,fuel:=n,inl:=[],deep:=0 }
def yHl(n:Nat)(r0:List (Q4)→((Q4)×Unit→Option (Bool×Unit))→Int→Int→Option (Int×Unit))(av:List (Q4))(b6:(Q4)×Unit→Option (Bool×Unit))(aA:Int)(a8:Int):Option (Int×Unit) :=
  (bif decide (a8 < aA)then (Option.bind (idx av a8) fun v1=>(Option.bind (b6 (v1,())) fun v2=>(bif v2.1 then some (a8,())else r0 av b6 aA (IntKind.i64.wrap (a8+1)))))else some ((-1:Int),()))
def yA1(n:Nat)(k:Nat)(av:List (Q4))(b6:(Q4)×Unit→Option (Bool×Unit))(aA:Int)(a8:Int):Option (Int×Unit) :=
  iter (fun r y=>yHl n (fun av b6 aA a8=>r ((av,(b6,(aA,(a8,())))),((),()))) y.1.1 y.1.2.1 y.1.2.2.1 y.1.2.2.2.1) k ((av,(b6,(aA,(a8,())))),((),()))
def zD_m(n:Nat)(s:List (Q4))(f:(Q4)×Unit→Option (Bool×Unit)):Option (Int×Unit) :=
  (yA1 n n (s) (f) ((↑s.length:Int)) ((0:Int)))
theorem ybG(n:Nat)(x:zD_a.den):runF zD_g (yUO n) Tryz.f226 zD_a zD_r x=zD_m n x.1 x.2.1:=by kernel_rfl
def yJ2(av:List (Q4))(b6:(Q4)×Unit→Option (Bool×Unit))(a8:Int)(v1:Q4):Option ((Int×Unit)⊕Unit) :=
  (Option.bind (b6 (v1,())) fun v2=>(bif v2.1 then (some (Sum.inl ((a8,()))))else (some (Sum.inr ()))))
def yKJ(av:List (Q4))(b6:(Q4)×Unit→Option (Bool×Unit)):Option (Int×Unit) :=
  (some (((-1:Int),())))
theorem yGs(n:Nat)(hn:big≤n)(av:List (Q4))(b6:(Q4)×Unit→Option (Bool×Unit))(hx:List.length (av) < lenMax):LeF some (yR (fun ac az a7=>yJ2 av b6 ac az) (fun a7=>yKJ av b6) 0 (av) ()) (yA1 n n av b6 (List.length (av):Int) 0):=by
  refine yU (f:=some) (W:=fun aE ac a7=>yA1 n aE av b6 (List.length (av):Int) ac) (body:=(fun ac az a7=>yJ2 av b6 ac az)) (fin:=(fun a7=>yKJ av b6)) (fun aE ac a7=>?_) hx () n (by unfold big at hn;unfold lenMax at hx;omega)
  show LeF _ _ (yHl n (yA1 n aE) av b6 (List.length (av):Int) ac)
  exact yA (yE fun v1=>(yE fun v2=>(yA (y6 rfl) (y6 rfl)))) (y0C (y6 rfl))
def zD_M(s:List (Q4))(f:(Q4)×Unit→Option (Bool×Unit)):Option (Int×Unit) :=
  (bif decide (List.length (s) < lenMax)then yR (fun ac az a7=>yJ2 (s) (f) ac az) (fun a7=>yKJ (s) (f)) 0 (s) ()else none)
theorem yYM(s:List (Q4))(f:(Q4)×Unit→Option (Bool×Unit))(y:Int×Unit)(h:zD_M s f=some y):∃ n,zD_m n s f=some y :=
  ⟨big,LeF.top (show LeF some (zD_M s f) (zD_m big s f)from (fun (n:Nat) (hn:big≤n)=>show LeF some (zD_M s f) (zD_m n s f)from (yV fun hx=>by apply yGs n hn;exact hx)) big (Nat.le_refl _)) h⟩
def zD_e:Entry:={ f:=226,args:=zD_a,ress:=zD_r,m:=fun x=>zD_M x.1 x.2.1 }
theorem ybx:FnOK Tryz.prog zD_e:=yJ (g:=zD_g) (fn:=Tryz.f226) yB yI eNil (by kernel_rfl) (by kernel_rfl) (by kernel_rfl) (fun x y h=>let ⟨n,hn⟩:=yYM x.1 x.2.1 y h;⟨yUO n,iNil,(ybG n x).trans hn⟩)
abbrev zE_a:Ty:=.pair t35 (.pair t265 .unit)
abbrev zE_r:Ty:=.pair t3 .unit
def zE_g:G:={ T:=T,E:=[],muts:=[],fz:=[] }
def zE_k:List (List Nat):=[[0,1,7,8]]
def yVl(n:Nat):Ann:={ keep:=zE_k,fuel:=n,inl:=[],deep:=0 }
def yH0(n:Nat)(r0:List Nat→(Nat×Unit→Option (Bool×Unit))→Int→Int→Option (Int×Unit))(av:List Nat)(b6:Nat×Unit→Option (Bool×Unit))(aA:Int)(a8:Int):Option (Int×Unit) :=
  (bif decide (a8 < aA)then (Option.bind (idx av a8) fun v1=>(Option.bind (b6 (v1,())) fun v2=>(bif v2.1 then some (a8,())else r0 av b6 aA (IntKind.i64.wrap (a8+1)))))else some ((-1:Int),()))
def y9l(n:Nat)(k:Nat)(av:List Nat)(b6:Nat×Unit→Option (Bool×Unit))(aA:Int)(a8:Int):Option (Int×Unit) :=
  iter (fun r y=>yH0 n (fun av b6 aA a8=>r ((av,(b6,(aA,(a8,())))),((),()))) y.1.1 y.1.2.1 y.1.2.2.1 y.1.2.2.2.1) k ((av,(b6,(aA,(a8,())))),((),()))
def zE_m(n:Nat)(s:List Nat)(f:Nat×Unit→Option (Bool×Unit)):Option (Int×Unit) :=
  (y9l n n (s) (f) ((↑s.length:Int)) ((0:Int)))
theorem yb9(n:Nat)(x:zE_a.den):runF zE_g (yVl n) Tryz.f227 zE_a zE_r x=zE_m n x.1 x.2.1:=by kernel_rfl
def yJh(av:List Nat)(b6:Nat×Unit→Option (Bool×Unit))(a8:Int)(v1:Nat):Option ((Int×Unit)⊕Unit) :=
  (Option.bind (b6 (v1,())) fun v2=>(bif v2.1 then (some (Sum.inl ((a8,()))))else (some (Sum.inr ()))))
def yMR(av:List Nat)(b6:Nat×Unit→Option (Bool×Unit)):Option (Int×Unit) :=
  (some (((-1:Int),())))
theorem yFU(n:Nat)(hn:big≤n)(av:List Nat)(b6:Nat×Unit→Option (Bool×Unit))(hx:List.length (av) < lenMax):LeF some (yR (fun ac az a7=>yJh av b6 ac az) (fun a7=>yMR av b6) 0 (av) ()) (y9l n n av b6 (List.length (av):Int) 0):=by
  refine yU (f:=some) (W:=fun aE ac a7=>y9l n aE av b6 (List.length (av):Int) ac) (body:=(fun ac az a7=>yJh av b6 ac az)) (fin:=(fun a7=>yMR av b6)) (fun aE ac a7=>?_) hx () n (by unfold big at hn;unfold lenMax at hx;omega)
  show LeF _ _ (yH0 n (y9l n aE) av b6 (List.length (av):Int) ac)
  exact yA (yE fun v1=>(yE fun v2=>(yA (y6 rfl) (y6 rfl)))) (y0C (y6 rfl))
def zE_M(s:List Nat)(f:Nat×Unit→Option (Bool×Unit)):Option (Int×Unit) :=
  (bif decide (List.length (s) < lenMax)then yR (fun ac az a7=>yJh (s) (f) ac az) (fun a7=>yMR (s) (f)) 0 (s) ()else none)
theorem yUN(s:List Nat)(f:Nat×Unit→Option (Bool×Unit))(y:Int×Unit)(h:zE_M s f=some y):∃ n,zE_m n s f=some y :=
  ⟨big,LeF.top (show LeF some (zE_M s f) (zE_m big s f)from (fun (n:Nat) (hn:big≤n)=>show LeF some (zE_M s f) (zE_m n s f)from (yV fun hx=>by apply yFU n hn;exact hx)) big (Nat.le_refl _)) h⟩
def zE_e:Entry:={ f:=227,args:=zE_a,ress:=zE_r,m:=fun x=>zE_M x.1 x.2.1 }
theorem yck:FnOK Tryz.prog zE_e:=yJ (g:=zE_g) (fn:=Tryz.f227) yB yI eNil (by kernel_rfl) (by kernel_rfl) (by kernel_rfl) (fun x y h=>let ⟨n,hn⟩:=yUN x.1 x.2.1 y h;⟨yVl n,iNil,(yb9 n x).trans hn⟩)
end
end Go.Tw
end
section
set_option maxRecDepth 1000000
namespace Go.Tw
open Go.Vx Go.Vx.B Go.Proofs
noncomputable section
abbrev zu_a:Ty:=.pair t25 .unit
abbrev zu_r:Ty:=.pair t4 .unit
def zu_g:G:={ T:=T,E:=[zt_e],muts:=[],fz:=[] }
def zu_k:List (List Nat):=[]
def yUY(n:Nat):Ann:={ keep:=zu_k,fuel:=n,inl:=[],deep:=0 }
def zu_m(n:Nat)(t:Q2):Option (Bool×Unit) :=
  (Option.bind (zt_M t.1) fun v0=>(bif v0.1 then some (decide ((↑t.2.1.length:Int)≤5),())else some (Bool.false,())))
theorem ycp(n:Nat)(x:zu_a.den):runF zu_g (yUY n) Tryz.f19 zu_a zu_r x=zu_m n x.1:=by kernel_rfl
def zu_M(t:Q2):Option (Bool×Unit):=zu_m 0 t
theorem yZJ(t:Q2)(y:Bool×Unit)(h:zu_M t=some y):∃ n,zu_m n t=some y:=⟨0,h⟩
def zu_e:Entry:={ f:=19,args:=zu_a,ress:=zu_r,m:=fun x=>zu_M x.1 }
theorem ybK:FnOK Tryz.prog zu_e:=yJ (g:=zu_g) (fn:=Tryz.f19) yB yI (y8 yay eNil) (by kernel_rfl) (by kernel_rfl) (by kernel_rfl) (fun x y h=>let ⟨n,hn⟩:=yZJ x.1 y h;⟨yUY n,iNil,(ycp n x).trans hn⟩)
abbrev yRg:Ty:=.pair t25 .unit
abbrev yYx:Ty:=.pair t33 .unit
def yVX:G:={ T:=T,E:=[z0r_e,z0A_e],muts:=[],fz:=[] }
def yah:List (List Nat):=[]
def yNy(n:Nat):Ann:={ keep:=yah,fuel:=n,inl:=[],deep:=0 }
def yKC(n:Nat)(t:Q2):Option ((Q2)×Unit) :=
  (Option.bind (yCx t.1) fun v0=>(Option.bind (yLu t.2.1) fun v1=>some ((v0.1,v1.1,t.2.2.1,()),())))
theorem yWw(n:Nat)(x:yRg.den):runF yVX (yNy n) Tryz.f21 yRg yYx x=yKC n x.1:=by kernel_rfl
def yM7(t:Q2):Option ((Q2)×Unit):=yKC 0 t
theorem ySu(t:Q2)(y:(Q2)×Unit)(h:yM7 t=some y):∃ n,yKC n t=some y:=⟨0,h⟩
def z1E_e:Entry:={ f:=21,args:=yRg,ress:=yYx,m:=fun x=>yM7 x.1 }
theorem yYt:FnOK Tryz.prog z1E_e:=yJ (g:=yVX) (fn:=Tryz.f21) yB yI (y8 yXe (y8 yU5 eNil)) (by kernel_rfl) (by kernel_rfl) (by kernel_rfl) (fun x y h=>let ⟨n,hn⟩:=ySu x.1 y h;⟨yNy n,iNil,(yWw n x).trans hn⟩)
abbrev yR9:Ty:=.pair t94 .unit
abbrev yW6:Ty:=.pair t4 .unit
def yY4:G:={ T:=T,E:=[zg_e],muts:=[],fz:=[] }
def ybX:List (List Nat):=[]
def yOG(n:Nat):Ann:={ keep:=ybX,fuel:=n,inl:=[],deep:=0 }
def yKb(n:Nat)(r1:Q1):Option (Bool×Unit) :=
  (bif decide ((↑r1.1.length:Int)≤60)then (bif decide ((↑r1.2.2.1.length:Int)≤24)then some ((zg r1.2.2.2.1 (8:Int)).1,())else (bif (↑r1.2.2.1.length:Int)==130 then some ((zg r1.2.2.2.1 (8:Int)).1,())else (bif (↑r1.2.2.1.length:Int)==4097 then some ((zg r1.2.2.2.1 (8:Int)).1,())else some (Bool.false,()))))else some (Bool.false,()))
theorem yU1(n:Nat)(x:yR9.den):runF yY4 (yOG n) Tryz.f54 yR9 yW6 x=yKb n x.1:=by kernel_rfl
def z0c(r1:Q1):(Bool×Unit) :=
  (bif decide ((↑r1.1.length:Int)≤60)then (bif decide ((↑r1.2.2.1.length:Int)≤24)then ((zg r1.2.2.2.1 (8:Int)).1,())else (bif (↑r1.2.2.1.length:Int)==130 then ((zg r1.2.2.2.1 (8:Int)).1,())else (bif (↑r1.2.2.1.length:Int)==4097 then ((zg r1.2.2.2.1 (8:Int)).1,())else (Bool.false,()))))else (Bool.false,()))
abbrev yVo (r1:Q1):Option (Bool×Unit):=some (z0c r1)
theorem yPK(r1:Q1)(y:Bool×Unit)(h:yVo r1=some y):∃ n,yKb n r1=some y :=
  ⟨0,by rw[← h];show yKb 0 r1=some (z0c r1);unfold yKb z0c;first|rfl|(simp only[yF];done)|(simp only[yF];rfl)⟩
def z0c_e:Entry:={ f:=54,args:=yR9,ress:=yW6,m:=fun x=>yVo x.1 }
theorem yTw:FnOK Tryz.prog z0c_e:=yJ (g:=yY4) (fn:=Tryz.f54) yB yI (y8 ycd eNil) (by kernel_rfl) (by kernel_rfl) (by kernel_rfl) (fun x y h=>let ⟨n,hn⟩:=yPK x.1 y h;⟨yOG n,iNil,(yU1 n x).trans hn⟩)
abbrev ySX:Ty:=.pair t96 (.pair t96 .unit)
abbrev ya5:Ty:=.pair t4 .unit
def yZ5:G:={ T:=T,E:=[zY_e],muts:=[],fz:=[] }
def ybz:List (List Nat):=[[0,1,5]]
def yMp(n:Nat):Ann:={ keep:=ybz,fuel:=n,inl:=[],deep:=0 }
def yKU(n:Nat)(r0:List (List (Q4))→List (List (Q4))→Int→Option (Bool×Unit))(am:List (List (Q4)))(au:List (List (Q4)))(ax:Int):Option (Bool×Unit) :=
  (bif decide (ax < (↑am.length:Int))then (Option.bind (idx am ax) fun v1=>(Option.bind (idx au ax) fun v2=>(Option.bind (zY_M v1 v2) fun v3=>(bif !v3.1 then some (Bool.false,())else r0 am au (IntKind.i64.wrap (ax+1))))))else some (Bool.true,()))
def yMb(n:Nat)(k:Nat)(am:List (List (Q4)))(au:List (List (Q4)))(ax:Int):Option (Bool×Unit) :=
  iter (fun r y=>yKU n (fun am au ax=>r ((am,(au,(ax,()))),((),()))) y.1.1 y.1.2.1 y.1.2.2.1) k ((am,(au,(ax,()))),((),()))
def yOX(n:Nat)(a:List (List (Q4)))(b:List (List (Q4))):Option (Bool×Unit) :=
  (bif (↑a.length:Int) != (↑b.length:Int)then some (Bool.false,())else (yMb n n (a) (b) ((0:Int))))
theorem yUW(n:Nat)(x:ySX.den):runF yZ5 (yMp n) Tryz.f64 ySX ya5 x=yOX n x.1 x.2.1:=by kernel_rfl
def ySO(a:List (List (Q4)))(b:List (List (Q4))):Option (Bool×Unit):=yOX 1000 a b
theorem yQn(a:List (List (Q4)))(b:List (List (Q4)))(y:Bool×Unit)(h:ySO a b=some y):∃ n,yOX n a b=some y:=⟨1000,h⟩
def z00_e:Entry:={ f:=64,args:=ySX,ress:=ya5,m:=fun x=>ySO x.1 x.2.1 }
theorem yZ6:FnOK Tryz.prog z00_e:=yJ (g:=yZ5) (fn:=Tryz.f64) yB yI (y8 yXq eNil) (by kernel_rfl) (by kernel_rfl) (by kernel_rfl) (fun x y h=>let ⟨n,hn⟩:=yQn x.1 x.2.1 y h;⟨yMp n,iNil,(yUW n x).trans hn⟩)
abbrev zo_a:Ty:=.pair t126 (.pair t3 .unit)
abbrev zo_r:Ty:=.pair t57 .unit
def zo_g:G:={ T:=T,E:=[z0z_e],muts:=[],fz:=[] }
def zo_k:List (List Nat):=[]
def yYf(n:Nat):Ann:={ keep:=zo_k,fuel:=n,inl:=[],deep:=0 }
def zo_m(n:Nat)(c:Q3)(tick:Int):Option ((Q4)×Unit) :=
  (bif c.2.1==0 then none else (Option.bind (yDD ((1:Int),(0:Int),()) (IntKind.i64.wrap (c.2.2.1 * IntKind.i64.wrap (tick.tdiv c.2.1)))) fun v0=>some ((v0.1.1,v0.1.2.1,()),())))
theorem yce(n:Nat)(x:zo_a.den):runF zo_g (yYf n) Tryz.f81 zo_a zo_r x=zo_m n x.1 x.2.1:=by kernel_rfl
def zo_M(c:Q3)(tick:Int):Option ((Q4)×Unit):=zo_m 0 c tick
theorem yZZ(c:Q3)(tick:Int)(y:(Q4)×Unit)(h:zo_M c tick=some y):∃ n,zo_m n c tick=some y:=⟨0,h⟩
def zo_e:Entry:={ f:=81,args:=zo_a,ress:=zo_r,m:=fun x=>zo_M x.1 x.2.1 }
theorem yd4:FnOK Tryz.prog zo_e:=yJ (g:=zo_g) (fn:=Tryz.f81) yB yI (y8 yXj eNil) (by kernel_rfl) (by kernel_rfl) (by kernel_rfl) (fun x y h=>let ⟨n,hn⟩:=yZZ x.1 x.2.1 y h;⟨yYf n,iNil,(yce n x).trans hn⟩)
abbrev zp_a:Ty:=.pair t57 .unit
abbrev zp_r:Ty:=.pair t3 .unit
def zp_g:G:={ T:=T,E:=[zd_e,z0a_e],muts:=[],fz:=[] }
def zp_k:List (List Nat):=[]
def yUC(n:Nat):Ann:={ keep:=zp_k,fuel:=n,inl:=[],deep:=0 }
def zp_m(n:Nat)(z:Q4):Option (Int×Unit) :=
  (Option.bind (y7A [(zd z.1 (-8796093022208:Int) (8796093022208:Int)).1,(zd z.2.1 (-8796093022208:Int) (8796093022208:Int)).1]) fun v0=>some (v0.1,()))
theorem yae(n:Nat)(x:zp_a.den):runF zp_g (yUC n) Tryz.f109 zp_a zp_r x=zp_m n x.1:=by kernel_rfl
def zp_M(z:Q4):Option (Int×Unit):=zp_m 0 z
theorem yXi(z:Q4)(y:Int×Unit)(h:zp_M z=some y):∃ n,zp_m n z=some y:=⟨0,h⟩
def zp_e:Entry:={ f:=109,args:=zp_a,ress:=zp_r,m:=fun x=>zp_M x.1 }
theorem yba:FnOK Tryz.prog zp_e:=yJ (g:=zp_g) (fn:=Tryz.f109) yB yI (y8 yMN (y8 yE5 eNil)) (by kernel_rfl) (by kernel_rfl) (by kernel_rfl) (fun x y h=>let ⟨n,hn⟩:=yXi x.1 y h;⟨yUC n,iNil,(yae n x).trans hn⟩)
abbrev yPR:Ty:=.pair t23 (.pair t3 .unit)
abbrev yYw:Ty:=.pair t3 .unit
def yZN:G:={ T:=T,E:=[z0B_e],muts:=[],fz:=[] }
def ycr:List (List Nat):=[[0,1,5]]
def yOJ(n:Nat):Ann:={ keep:=ycr,fuel:=n,inl:=[],deep:=0 }
def yEF(n:Nat)(r0:List (Q4)→Int→Int→Option (Int×Unit))(aj:List (Q4))(bn:Int)(ax:Int):Option (Int×Unit) :=
  (bif decide (ax < (↑aj.length:Int))then (Option.bind (idx aj ax) fun v1=>(Option.bind (idx aj ax) fun v2=>(Option.bind (y8D bn (if IntKind.i64.wrap ((0:Int) - v2.1) > v1.1 then IntKind.i64.wrap ((0:Int) - v2.1)else v1.1)) fun v3=>(Option.bind (idx aj ax) fun v4=>(Option.bind (idx aj ax) fun v5=>(Option.bind (y8D v3.1 (if IntKind.i64.wrap ((0:Int) - v5.2.1) > v4.2.1 then IntKind.i64.wrap ((0:Int) - v5.2.1)else v4.2.1)) fun v6=>r0 aj v6.1 (IntKind.i64.wrap (ax+1))))))))else some (bn,()))
def y6X(n:Nat)(k:Nat)(aj:List (Q4))(bn:Int)(ax:Int):Option (Int×Unit) :=
  iter (fun r y=>yEF n (fun aj bn ax=>r ((aj,(bn,(ax,()))),((),()))) y.1.1 y.1.2.1 y.1.2.2.1) k ((aj,(bn,(ax,()))),((),()))
def yL7(n:Nat)(l:List (Q4))(den:Int):Option (Int×Unit) :=
  (y6X n n (l) (den) ((0:Int)))
theorem yTj(n:Nat)(x:yPR.den):runF yZN (yOJ n) Tryz.f110 yPR yYw x=yL7 n x.1 x.2.1:=by kernel_rfl
def y9J(aj:List (Q4))(ax:Int)(v1:Q4)(bn:Int):Option ((Int×Unit)⊕(Int)) :=
  (Option.bind (idx aj ax) fun v2=>(Option.bind (y8D bn (if IntKind.i64.wrap ((0:Int) - v2.1) > v1.1 then IntKind.i64.wrap ((0:Int) - v2.1)else v1.1)) fun v3=>(Option.bind (idx aj ax) fun v4=>(Option.bind (idx aj ax) fun v5=>(Option.bind (y8D v3.1 (if IntKind.i64.wrap ((0:Int) - v5.2.1) > v4.2.1 then IntKind.i64.wrap ((0:Int) - v5.2.1)else v4.2.1)) fun v6=>(some (Sum.inr (v6.1))))))))
def yEp(aj:List (Q4))(bn:Int):Option (Int×Unit) :=
  (some ((bn,())))
theorem yDL(n:Nat)(hn:big≤n)(aj:List (Q4))(bn:Int)(hx:List.length (aj) < lenMax):LeF some (yR (fun ac az a7=>y9J aj ac az a7) (fun a7=>yEp aj a7) 0 (aj) bn) (y6X n n aj bn 0):=by
  refine yU (f:=some) (W:=fun aE ac a7=>y6X n aE aj a7 ac) (body:=(fun ac az a7=>y9J aj ac az a7)) (fin:=(fun a7=>yEp aj a7)) (fun aE ac a7=>?_) hx bn n (by unfold big at hn;unfold lenMax at hx;omega)
  show LeF _ _ (yEF n (y6X n aE) aj a7 ac)
  exact yA (yE fun v1=>(yE fun v2=>(yE fun v3=>(yE fun v4=>(yE fun v5=>(yE fun v6=>(y6 rfl))))))) (y0C (y6 rfl))
def yBo(l:List (Q4))(den:Int):Option (Int×Unit) :=
  (bif decide (List.length (l) < lenMax)then yR (fun ac az a7=>y9J (l) ac az a7) (fun a7=>yEp (l) a7) 0 (l) (den)else none)
theorem yQC(l:List (Q4))(den:Int)(y:Int×Unit)(h:yBo l den=some y):∃ n,yL7 n l den=some y :=
  ⟨big,LeF.top (show LeF some (yBo l den) (yL7 big l den)from (fun (n:Nat) (hn:big≤n)=>show LeF some (yBo l den) (yL7 n l den)from (yV fun hx=>by apply yDL n hn;exact hx)) big (Nat.le_refl _)) h⟩
def z0M_e:Entry:={ f:=110,args:=yPR,ress:=yYw,m:=fun x=>yBo x.1 x.2.1 }
theorem yTk:FnOK Tryz.prog z0M_e:=yJ (g:=yZN) (fn:=Tryz.f110) yB yI (y8 yWX eNil) (by kernel_rfl) (by kernel_rfl) (by kernel_rfl) (fun x y h=>let ⟨n,hn⟩:=yQC x.1 x.2.1 y h;⟨yOJ n,iNil,(yTj n x).trans hn⟩)
abbrev ySe:Ty:=.pair t3 (.pair t3 (.pair t3 .unit))
abbrev yXk:Ty:=.pair t28 .unit
def yU4:G:={ T:=T,E:=[z1M_e],muts:=[],fz:=[] }
def yc7:List (List Nat):=[]
def yNv(n:Nat):Ann:={ keep:=yc7,fuel:=n,inl:=[],deep:=0 }
def yLA(n:Nat)(n1:Int)(least:Int)(most:Int):Option (Int×Unit) :=
  (bif decide (n1 < least)then some ((z1M Bool.true (3:Int)).1,())else some ((z1M (decide (n1 > most)) (3:Int)).1,()))
theorem yV4(n:Nat)(x:ySe.den):runF yU4 (yNv n) Tryz.f114 ySe yXk x=yLA n x.1 x.2.1 x.2.2.1:=by kernel_rfl
def z0p(n1:Int)(least:Int)(most:Int):(Int×Unit) :=
  (bif decide (n1 < least)then ((z1M Bool.true (3:Int)).1,())else ((z1M (decide (n1 > most)) (3:Int)).1,()))
abbrev yUp (n1:Int) (least:Int) (most:Int):Option (Int×Unit):=some (z0p n1 least most)
theorem yRt(n1:Int)(least:Int)(most:Int)(y:Int×Unit)(h:yUp n1 least most=some y):∃ n,yLA n n1 least most=some y :=
  ⟨0,by rw[← h];show yLA 0 n1 least most=some (z0p n1 least most);unfold yLA z0p;first|rfl|(simp only[yF];done)|(simp only[yF];rfl)⟩
def z0p_e:Entry:={ f:=114,args:=ySe,ress:=yXk,m:=fun x=>yUp x.1 x.2.1 x.2.2.1 }
theorem yCO:FnOK Tryz.prog z0p_e:=yJ (g:=yU4) (fn:=Tryz.f114) yB yI (y8 y6H eNil) (by kernel_rfl) (by kernel_rfl) (by kernel_rfl) (fun x y h=>let ⟨n,hn⟩:=yRt x.1 x.2.1 x.2.2.1 y h;⟨yNv n,iNil,(yV4 n x).trans hn⟩)
abbrev zm_a:Ty:=.pair t9 .unit
abbrev zm_r:Ty:=.pair t3 .unit
def zm_g:G:={ T:=T,E:=[z0J_e],muts:=[],fz:=[] }
def zm_k:List (List Nat):=[]
def yXR(n:Nat):Ann:={ keep:=zm_k,fuel:=n,inl:=[],deep:=0 }
def zm_m(n:Nat)(s:List UInt8):Option (Int×Unit) :=
  (Option.bind (yDd s) fun v0=>(bif !v0.1 then some ((8:Int),())else some ((0:Int),())))
theorem yci(n:Nat)(x:zm_a.den):runF zm_g (yXR n) Tryz.f118 zm_a zm_r x=zm_m n x.1:=by kernel_rfl
def zm_M(s:List UInt8):Option (Int×Unit):=zm_m 0 s
theorem yZt(s:List UInt8)(y:Int×Unit)(h:zm_M s=some y):∃ n,zm_m n s=some y:=⟨0,h⟩
def zm_e:Entry:={ f:=118,args:=zm_a,ress:=zm_r,m:=fun x=>zm_M x.1 }
theorem yYo:FnOK Tryz.prog zm_e:=yJ (g:=zm_g) (fn:=Tryz.f118) yB yI (y8 yTt eNil) (by kernel_rfl) (by kernel_rfl) (by kernel_rfl) (fun x y h=>let ⟨n,hn⟩:=yZt x.1 y h;⟨yXR n,iNil,(yci n x).trans hn⟩)
abbrev zv_a:Ty:=.pair t33 .unit
abbrev zv_r:Ty:=.pair t4 .unit
def zv_g:G:={ T:=T,E:=[z0E_e],muts:=[],fz:=[] }
def zv_k:List (List Nat):=[[1,6,7,8]]
def yVL(n:Nat):Ann:={ keep:=zv_k,fuel:=n,inl:=[],deep:=0 }
def yI7(n:Nat)(r0:Q2→List (Q4)→Int→Int→Option (Bool×Unit))(aw:Q2)(aF:List (Q4))(aA:Int)(a8:Int):Option (Bool×Unit) :=
  (bif decide (a8 < aA)then (Option.bind (idx aF a8) fun v1=>(bif decide ((if (z0E v1.2.1).1 > (z0E v1.1).1 then (z0E v1.2.1).1 else (z0E v1.1).1) > 4194304)then some (Bool.false,())else r0 aw aF aA (IntKind.i64.wrap (a8+1))))else some (decide (aw.2.2.1≤4096),()))
def y9o(n:Nat)(k:Nat)(aw:Q2)(aF:List (Q4))(aA:Int)(a8:Int):Option (Bool×Unit) :=
  iter (fun r y=>yI7 n (fun aw aF aA a8=>r ((aw,(aF,(aA,(a8,())))),((),()))) y.1.1 y.1.2.1 y.1.2.2.1 y.1.2.2.2.1) k ((aw,(aF,(aA,(a8,())))),((),()))
def zv_m(n:Nat)(t:Q2):Option (Bool×Unit) :=
  (y9o n n (t) (t.2.1) ((↑t.2.1.length:Int)) ((0:Int)))
theorem ybO(n:Nat)(x:zv_a.den):runF zv_g (yVL n) Tryz.f129 zv_a zv_r x=zv_m n x.1:=by kernel_rfl
def yMM(aw:Q2)(aF:List (Q4))(a8:Int)(v1:Q4):Option ((Bool×Unit)⊕Unit) :=
  (bif decide ((if (z0E v1.2.1).1 > (z0E v1.1).1 then (z0E v1.2.1).1 else (z0E v1.1).1) > 4194304)then (some (Sum.inl ((Bool.false,()))))else (some (Sum.inr ())))
def yQ0(aw:Q2)(aF:List (Q4)):Option (Bool×Unit) :=
  (some ((decide (aw.2.2.1≤4096),())))
theorem yGx(n:Nat)(hn:big≤n)(aw:Q2)(aF:List (Q4))(hx:List.length (aF) < lenMax):LeF some (yR (fun ac az a7=>yMM aw aF ac az) (fun a7=>yQ0 aw aF) 0 (aF) ()) (y9o n n aw aF (List.length (aF):Int) 0):=by
  refine yU (f:=some) (W:=fun aE ac a7=>y9o n aE aw aF (List.length (aF):Int) ac) (body:=(fun ac az a7=>yMM aw aF ac az)) (fin:=(fun a7=>yQ0 aw aF)) (fun aE ac a7=>?_) hx () n (by unfold big at hn;unfold lenMax at hx;omega)
  show LeF _ _ (yI7 n (y9o n aE) aw aF (List.length (aF):Int) ac)
  exact yA (yE fun v1=>(yA (y6 rfl) (y6 rfl))) (y0C (y6 rfl))
def zv_M(t:Q2):Option (Bool×Unit) :=
  (bif decide (List.length (t.2.1) < lenMax)then yR (fun ac az a7=>yMM (t) (t.2.1) ac az) (fun a7=>yQ0 (t) (t.2.1)) 0 (t.2.1) ()else none)
theorem yYk(t:Q2)(y:Bool×Unit)(h:zv_M t=some y):∃ n,zv_m n t=some y :=
  ⟨big,LeF.top (show LeF some (zv_M t) (zv_m big t)from (fun (n:Nat) (hn:big≤n)=>show LeF some (zv_M t) (zv_m n t)from (yV fun hx=>by apply yGx n hn;exact hx)) big (Nat.le_refl _)) h⟩
def zv_e:Entry:={ f:=129,args:=zv_a,ress:=zv_r,m:=fun x=>zv_M x.1 }
theorem yb8:FnOK Tryz.prog zv_e:=yJ (g:=zv_g) (fn:=Tryz.f129) yB yI (y8 yBA eNil) (by kernel_rfl) (by kernel_rfl) (by kernel_rfl) (fun x y h=>let ⟨n,hn⟩:=yYk x.1 y h;⟨yVL n,iNil,(ybO n x).trans hn⟩)
abbrev yQW:Ty:=.pair t57 .unit
abbrev yXO:Ty:=.pair t28 .unit
def yTQ:G:={ T:=T,E:=[z0E_e,z1M_e],muts:=[],fz:=[] }
def yb0:List (List Nat):=[]
def yN7(n:Nat):Ann:={ keep:=yb0,fuel:=n,inl:=[],deep:=0 }
def yK4(n:Nat)(z:Q4):Option (Int×Unit) :=
  some ((z1M (decide ((if (z0E z.2.1).1 > (z0E z.1).1 then (z0E z.2.1).1 else (z0E z.1).1) > 16777216)) (1:Int)).1,())
theorem yZd(n:Nat)(x:yQW.den):runF yTQ (yN7 n) Tryz.f138 yQW yXO x=yK4 n x.1:=by kernel_rfl
def z0j(z:Q4):(Int×Unit) :=
  ((z1M (decide ((if (z0E z.2.1).1 > (z0E z.1).1 then (z0E z.2.1).1 else (z0E z.1).1) > 16777216)) (1:Int)).1,())
abbrev ySP (z:Q4):Option (Int×Unit):=some (z0j z)
theorem ySb(z:Q4)(y:Int×Unit)(h:ySP z=some y):∃ n,yK4 n z=some y :=
  ⟨0,by rw[← h];show yK4 0 z=some (z0j z);unfold yK4 z0j;first|rfl|(simp only[yF];done)|(simp only[yF];rfl)⟩
def z0j_e:Entry:={ f:=138,args:=yQW,ress:=yXO,m:=fun x=>ySP x.1 }
theorem yZc:FnOK Tryz.prog z0j_e:=yJ (g:=yTQ) (fn:=Tryz.f138) yB yI (y8 yBA (y8 y6H eNil)) (by kernel_rfl) (by kernel_rfl) (by kernel_rfl) (fun x y h=>let ⟨n,hn⟩:=ySb x.1 y h;⟨yN7 n,iNil,(yZd n x).trans hn⟩)
abbrev yPk:Ty:=.pair t60 (.pair t55 (.pair t55 .unit))
abbrev yW9:Ty:=.pair t57 .unit
def yTr:G:={ T:=T,E:=[zS_e,z06_e,z1C_e,z1L_e],muts:=[],fz:=[] }
def ybe:List (List Nat):=[]
def yMi(n:Nat):Ann:={ keep:=ybe,fuel:=n,inl:=[il124,il195],deep:=3 }
def yBg(n:Nat)(r0:Q1→List (Q4)→List Nat→Int→Int→Q1→Q3→Q3→Q1→Q3→Q3→Q4→Q1→Q1→Int→Int→Int→Int→Q1→Q3→Q3→Q1→Q3→Q3→Q4→Q1→Q1→Option ((Q4)×Unit))(j8:Q1)(j9:List (Q4))(j10:Int)(j11:Nat)(j12:List Nat)(j13:Int)(j14:Int)(j15:Q1)(j16:Q3)(j17:Q3)(j18:Q1)(j19:Q3)(j20:Q3)(j21:Q4)(j22:Q1)(j23:Q1)(j24:Int)(j25:Int)(j26:Int)(j27:Int)(j28:Q1)(j29:Q3)(j30:Q3)(j31:Q1)(j32:Q3)(j33:Q3)(j34:Q4)(j35:Q1)(j36:Q1):Option ((Q4)×Unit) :=
  (bif decide ((↑j9.length:Int) > 0)then (Option.bind (idx j9 (0:Int)) fun v37=>(bif decide (v37.1≤j10)then r0 j8 j9 j12 j13 (IntKind.i64.wrap (j14+1)) j15 j16 j17 j18 j19 j20 j21 j22 j23 j24 j25 j26 j27 j28 j29 j30 j31 j32 j33 j34 j35 j36 else (Option.bind (y02 Go.FloatKind.f32 (y01 Go.BinOp.mul Go.FloatKind.f32 j11 (nat_lit 1098907648)) IntKind.i64) fun v42=>(Option.bind (zS_M j19 (IntKind.i64.wrap (j8.2.1+j10))) fun v43=>(Option.bind (zS_M j20 (IntKind.i64.wrap (j8.2.1+j10))) fun v44=>r0 j8 j9 j12 j13 (IntKind.i64.wrap (j14+1)) j15 j16 j17 j18 j19 j20 j21 j22 j23 j24 j25 (z1L (j26,j27,()) (z1C (z06 v43.1).1 v44.1).1).1.1 (z1L (j26,j27,()) (z1C (z06 v43.1).1 v44.1).1).1.2.1 j28 j29 j30 j31 j32 j33 j34 j35 j36)))))else (Option.bind (y02 Go.FloatKind.f32 (y01 Go.BinOp.mul Go.FloatKind.f32 j11 (nat_lit 1098907648)) IntKind.i64) fun v45=>(Option.bind (zS_M j19 (IntKind.i64.wrap (j8.2.1+j10))) fun v46=>(Option.bind (zS_M j20 (IntKind.i64.wrap (j8.2.1+j10))) fun v47=>r0 j8 j9 j12 j13 (IntKind.i64.wrap (j14+1)) j15 j16 j17 j18 j19 j20 j21 j22 j23 j24 j25 (z1L (j26,j27,()) (z1C (z06 v46.1).1 v47.1).1).1.1 (z1L (j26,j27,()) (z1C (z06 v46.1).1 v47.1).1).1.2.1 j28 j29 j30 j31 j32 j33 j34 j35 j36))))
def yLk(n:Nat)(r0:Q1→List (Q4)→List Nat→Int→Int→Q1→Q3→Q3→Q1→Q3→Q3→Q4→Q1→Q1→Int→Int→Int→Int→Q1→Q3→Q3→Q1→Q3→Q3→Q4→Q1→Q1→Option ((Q4)×Unit))(r2:Q1→List (Q4)→Int→Nat→List Nat→Int→Int→Q1→Q3→Q3→Q1→Q3→Q3→Q4→Q1→Q1→Int→Int→Int→Int→Q1→Q3→Q3→Q1→Q3→Q3→Q4→Q1→Q1→Option ((Q4)×Unit))(b7:Q1)(ak:List (Q4))(aZ:Int)(bc:Nat)(aN:List Nat)(aK:Int)(aL:Int)(aB:Q1)(aC:Q3)(bd:Q3)(bR:Q1)(bS:Q3)(aJ:Q3)(bT:Q4)(bJ:Q1)(bw:Q1)(be:Int)(bf:Int)(bg:Int)(bh:Int)(b8:Q1)(b9:Q3)(bU:Q3)(cr:Q1)(cu:Q3)(bA:Q3)(cw:Q4)(cf:Q1)(bK:Q1):Option ((Q4)×Unit) :=
  (bif decide ((↑ak.length:Int) > 0)then (Option.bind (idx ak (0:Int)) fun v3=>(bif decide (v3.2.1≤aZ)then (bif decide ((0:Int)≤1) && decide ((1:Int)≤(↑ak.length:Int))then r2 b7 (List.drop (Int.toNat (1:Int)) ak) aZ bc aN aK aL aB aC bd bR bS aJ bT bJ bw be bf bg bh b8 b9 bU cr cu bA cw cf bK else none)else (yBg n r0 (b7) (ak) (aZ) (bc) (aN) (aK) (aL) (aB) (aC) (bd) (bR) (bS) (aJ) (bT) (bJ) (bw) (be) (bf) (bg) (bh) (b8) (b9) (bU) (cr) (cu) (bA) (cw) (cf) (bK))))else (yBg n r0 (b7) (ak) (aZ) (bc) (aN) (aK) (aL) (aB) (aC) (bd) (bR) (bS) (aJ) (bT) (bJ) (bw) (be) (bf) (bg) (bh) (b8) (b9) (bU) (cr) (cu) (bA) (cw) (cf) (bK)))
def yLg(n:Nat)(r0:Q1→List (Q4)→List Nat→Int→Int→Q1→Q3→Q3→Q1→Q3→Q3→Q4→Q1→Q1→Int→Int→Int→Int→Q1→Q3→Q3→Q1→Q3→Q3→Q4→Q1→Q1→Option ((Q4)×Unit))(k:Nat)(b7:Q1)(ak:List (Q4))(aZ:Int)(bc:Nat)(aN:List Nat)(aK:Int)(aL:Int)(aB:Q1)(aC:Q3)(bd:Q3)(bR:Q1)(bS:Q3)(aJ:Q3)(bT:Q4)(bJ:Q1)(bw:Q1)(be:Int)(bf:Int)(bg:Int)(bh:Int)(b8:Q1)(b9:Q3)(bU:Q3)(cr:Q1)(cu:Q3)(bA:Q3)(cw:Q4)(cf:Q1)(bK:Q1):Option ((Q4)×Unit) :=
  iter (fun r y=>yLk n r0 (fun b7 ak aZ bc aN aK aL aB aC bd bR bS aJ bT bJ bw be bf bg bh b8 b9 bU cr cu bA cw cf bK=>r ((b7,(ak,(aZ,(bc,(aN,(aK,(aL,()))))))),(((aB,(aC,(bd,(bR,(bS,(aJ,(bT,(bJ,((bw,()),()))))))))),((be,(bf,())),((bg,(bh,())),()))),(b8,(b9,(bU,(cr,(cu,(bA,(cw,(cf,((bK,()),())))))))))))) y.1.1 y.1.2.1 y.1.2.2.1 y.1.2.2.2.1 y.1.2.2.2.2.1 y.1.2.2.2.2.2.1 y.1.2.2.2.2.2.2.1 y.2.1.1.1 y.2.1.1.2.1 y.2.1.1.2.2.1 y.2.1.1.2.2.2.1 y.2.1.1.2.2.2.2.1 y.2.1.1.2.2.2.2.2.1 y.2.1.1.2.2.2.2.2.2.1 y.2.1.1.2.2.2.2.2.2.2.1 y.2.1.1.2.2.2.2.2.2.2.2.1.1 y.2.1.2.1.1 y.2.1.2.1.2.1 y.2.1.2.2.1.1 y.2.1.2.2.1.2.1 y.2.2.1 y.2.2.2.1 y.2.2.2.2.1 y.2.2.2.2.2.1 y.2.2.2.2.2.2.1 y.2.2.2.2.2.2.2.1 y.2.2.2.2.2.2.2.2.1 y.2.2.2.2.2.2.2.2.2.1 y.2.2.2.2.2.2.2.2.2.2.1.1) k ((b7,(ak,(aZ,(bc,(aN,(aK,(aL,()))))))),(((aB,(aC,(bd,(bR,(bS,(aJ,(bT,(bJ,((bw,()),()))))))))),((be,(bf,())),((bg,(bh,())),()))),(b8,(b9,(bU,(cr,(cu,(bA,(cw,(cf,((bK,()),())))))))))))
def yLc(n:Nat)(r0:Q1→List (Q4)→List Nat→Int→Int→Q1→Q3→Q3→Q1→Q3→Q3→Q4→Q1→Q1→Int→Int→Int→Int→Q1→Q3→Q3→Q1→Q3→Q3→Q4→Q1→Q1→Option ((Q4)×Unit))(aw:Q1)(aD:List (Q4))(al:List Nat)(ae:Int)(ay:Int)(aG:Q1)(aH:Q3)(bF:Q3)(cg:Q1)(ci:Q3)(aS:Q3)(cj:Q4)(cb:Q1)(bH:Q1)(af:Int)(ah:Int)(bx:Int)(bz:Int)(bq:Q1)(br:Q3)(ck:Q3)(cz:Q1)(cA:Q3)(bj:Q3)(cB:Q4)(cp:Q1)(cc:Q1):Option ((Q4)×Unit) :=
  (bif decide (ay < ae)then (Option.bind (idx al ay) fun v1=>(yLg n r0 n (aw) (aD) (ay) (v1) (al) (ae) (ay) (aG) (aH) (bF) (cg) (ci) (aS) (cj) (cb) (bH) (af) (ah) (bx) (bz) (bq) (br) (ck) (cz) (cA) (bj) (cB) (cp) (cc)))else some ((bx,bz,()),()))
def yLD(n:Nat)(k:Nat)(aw:Q1)(aD:List (Q4))(al:List Nat)(ae:Int)(ay:Int)(aG:Q1)(aH:Q3)(bF:Q3)(cg:Q1)(ci:Q3)(aS:Q3)(cj:Q4)(cb:Q1)(bH:Q1)(af:Int)(ah:Int)(bx:Int)(bz:Int)(bq:Q1)(br:Q3)(ck:Q3)(cz:Q1)(cA:Q3)(bj:Q3)(cB:Q4)(cp:Q1)(cc:Q1):Option ((Q4)×Unit) :=
  iter (fun r y=>yLc n (fun aw aD al ae ay aG aH bF cg ci aS cj cb bH af ah bx bz bq br ck cz cA bj cB cp cc=>r ((aw,(aD,(al,(ae,(ay,()))))),(((aG,(aH,(bF,(cg,(ci,(aS,(cj,(cb,((bH,()),()))))))))),((af,(ah,())),((bx,(bz,())),()))),(bq,(br,(ck,(cz,(cA,(bj,(cB,(cp,((cc,()),())))))))))))) y.1.1 y.1.2.1 y.1.2.2.1 y.1.2.2.2.1 y.1.2.2.2.2.1 y.2.1.1.1 y.2.1.1.2.1 y.2.1.1.2.2.1 y.2.1.1.2.2.2.1 y.2.1.1.2.2.2.2.1 y.2.1.1.2.2.2.2.2.1 y.2.1.1.2.2.2.2.2.2.1 y.2.1.1.2.2.2.2.2.2.2.1 y.2.1.1.2.2.2.2.2.2.2.2.1.1 y.2.1.2.1.1 y.2.1.2.1.2.1 y.2.1.2.2.1.1 y.2.1.2.2.1.2.1 y.2.2.1 y.2.2.2.1 y.2.2.2.2.1 y.2.2.2.2.2.1 y.2.2.2.2.2.2.1 y.2.2.2.2.2.2.2.1 y.2.2.2.2.2.2.2.2.1 y.2.2.2.2.2.2.2.2.2.1 y.2.2.2.2.2.2.2.2.2.2.1.1) k ((aw,(aD,(al,(ae,(ay,()))))),(((aG,(aH,(bF,(cg,(ci,(aS,(cj,(cb,((bH,()),()))))))))),((af,(ah,())),((bx,(bz,())),()))),(bq,(br,(ck,(cz,(cA,(bj,(cB,(cp,((cc,()),())))))))))))
def yQj(n:Nat)(r1:Q1)(a:Q3)(b:Q3):Option ((Q4)×Unit) :=
  (yLD n n (r1) (r1.2.2.2.1) (r1.2.2.1) ((↑r1.2.2.1.length:Int)) ((0:Int)) (r1) (a) (b) (r1) (a) (b) (((0:Int),(0:Int),())) (r1) (r1) ((0:Int)) ((0:Int)) ((0:Int)) ((0:Int)) (r1) (a) (b) (r1) (a) (b) (((0:Int),(0:Int),())) (r1) (r1))
theorem yTJ(n:Nat)(x:yPk.den):runF yTr (yMi n) Tryz.f148 yPk yW9 x=yQj n x.1 x.2.1 x.2.2.1:=by kernel_rfl
def yJJ(r1:Q1)(a:Q3)(b:Q3):Option ((Q4)×Unit):=yQj 1000 r1 a b
theorem yQF(r1:Q1)(a:Q3)(b:Q3)(y:(Q4)×Unit)(h:yJJ r1 a b=some y):∃ n,yQj n r1 a b=some y:=⟨1000,h⟩
def z17_e:Entry:={ f:=148,args:=yPk,ress:=yW9,m:=fun x=>yJJ x.1 x.2.1 x.2.2.1 }
theorem yIn:FnOK Tryz.prog z17_e:=yJ (g:=yTr) (fn:=Tryz.f148) yB yI (y8 yQp (y8 yJI (y8 yEv (y8 yEC eNil)))) (by kernel_rfl) (by kernel_rfl) (by kernel_rfl) (fun x y h=>let ⟨n,hn⟩:=yQF x.1 x.2.1 x.2.2.1 y h;⟨yMi n,(y5H y5M (y5H y5N iNil)),(yTJ n x).trans hn⟩)
abbrev yaj:Ty:=.pair t96 .unit
abbrev yb1:Ty:=.pair t57 .unit
class ref02_det_Rec where
  f:yaj.den→Option yb1.den
section
variable [ref02_det_Rec]
end
abbrev yRY:Ty:=.pair t94 (.pair t3 .unit)
abbrev yZ3:Ty:=.pair t3 .unit
def yTz:G:={ T:=T,E:=[zh_e],muts:=[],fz:=[] }
def yal:List (List Nat):=[]
def yNP(n:Nat):Ann:={ keep:=yal,fuel:=n,inl:=[],deep:=0 }
def yMU(n:Nat)(r1:Q1)(tick:Int):Option (Int×Unit) :=
  (Option.bind (idx r1.2.2.1 (IntKind.i64.wrap (tick - r1.2.1))) fun v0=>(Option.bind (zh_M v0) fun v1=>some (v1.1,())))
theorem yWV(n:Nat)(x:yRY.den):runF yTz (yNP n) Tryz.f153 yRY yZ3 x=yMU n x.1 x.2.1:=by kernel_rfl
def yGb(r1:Q1)(tick:Int):Option (Int×Unit):=yMU 0 r1 tick
theorem yRJ(r1:Q1)(tick:Int)(y:Int×Unit)(h:yGb r1 tick=some y):∃ n,yMU n r1 tick=some y:=⟨0,h⟩
def z02_e:Entry:={ f:=153,args:=yRY,ress:=yZ3,m:=fun x=>yGb x.1 x.2.1 }
theorem yXZ:FnOK Tryz.prog z02_e:=yJ (g:=yTz) (fn:=Tryz.f153) yB yI (y8 ybY eNil) (by kernel_rfl) (by kernel_rfl) (by kernel_rfl) (fun x y h=>let ⟨n,hn⟩:=yRJ x.1 x.2.1 y h;⟨yNP n,iNil,(yWV n x).trans hn⟩)
abbrev zx_a:Ty:=.pair t94 (.pair t3 .unit)
abbrev zx_r:Ty:=.pair t4 .unit
def zx_g:G:={ T:=T,E:=[z1F_e],muts:=[],fz:=[] }
def zx_k:List (List Nat):=[]
def yZH(n:Nat):Ann:={ keep:=zx_k,fuel:=n,inl:=[],deep:=0 }
def zx_m(n:Nat)(r1:Q1)(i:Int):Option (Bool×Unit) :=
  (bif decide (i ≥ 0)then (bif decide (i < (↑r1.2.2.1.length:Int))then (Option.bind (yAS r1.2.2.2.1 i) fun v0=>some (!v0.1,()))else some (Bool.false,()))else some (Bool.false,()))
theorem yau(n:Nat)(x:zx_a.den):runF zx_g (yZH n) Tryz.f155 zx_a zx_r x=zx_m n x.1 x.2.1:=by kernel_rfl
def zx_M(r1:Q1)(i:Int):Option (Bool×Unit):=zx_m 0 r1 i
theorem yUs(r1:Q1)(i:Int)(y:Bool×Unit)(h:zx_M r1 i=some y):∃ n,zx_m n r1 i=some y:=⟨0,h⟩
def zx_e:Entry:={ f:=155,args:=zx_a,ress:=zx_r,m:=fun x=>zx_M x.1 x.2.1 }
theorem ycQ:FnOK Tryz.prog zx_e:=yJ (g:=zx_g) (fn:=Tryz.f155) yB yI (y8 yNZ eNil) (by kernel_rfl) (by kernel_rfl) (by kernel_rfl) (fun x y h=>let ⟨n,hn⟩:=yUs x.1 x.2.1 y h;⟨yZH n,iNil,(yau n x).trans hn⟩)
abbrev ze_a:Ty:=.pair t58 .unit
abbrev ze_r:Ty:=.pair t3 .unit
def ze_g:G:={ T:=T,E:=[zn_e],muts:=[],fz:=[] }
def ze_k:List (List Nat):=[[0,3]]
def yWd(n:Nat):Ann:={ keep:=ze_k,fuel:=n,inl:=[],deep:=0 }
def yJd(n:Nat)(r0:List (Q4)→Int→Option (Int×Unit))(aj:List (Q4))(aT:Int):Option (Int×Unit) :=
  (bif decide (aT < (↑aj.length:Int))then (Option.bind (idx aj aT) fun v1=>(bif (zn v1).1 != 0 then some ((14:Int),())else (bif decide (aT > 0)then (Option.bind (idx aj aT) fun v2=>(Option.bind (idx aj (IntKind.i64.wrap (aT - (1:Int)))) fun v3=>(bif decide (v2.1≤v3.2.1)then some ((11:Int),())else r0 aj (IntKind.i64.wrap (aT+1)))))else r0 aj (IntKind.i64.wrap (aT+1)))))else some ((0:Int),()))
def yAC(n:Nat)(k:Nat)(aj:List (Q4))(aT:Int):Option (Int×Unit) :=
  iter (fun r y=>yJd n (fun aj aT=>r ((aj,(aT,())),((),()))) y.1.1 y.1.2.1) k ((aj,(aT,())),((),()))
def ze_m(n:Nat)(l:List (Q4)):Option (Int×Unit) :=
  (bif decide ((↑l.length:Int) > 2048)then some ((5:Int),())else (yAC n n (l) ((0:Int))))
theorem yao(n:Nat)(x:ze_a.den):runF ze_g (yWd n) Tryz.f158 ze_a ze_r x=ze_m n x.1:=by kernel_rfl
def yI4(aj:List (Q4))(aT:Int)(v1:Q4):Option ((Int×Unit)⊕Unit) :=
  (bif (zn v1).1 != 0 then (some (Sum.inl (((14:Int),()))))else (bif decide (aT > 0)then (Option.bind (idx aj aT) fun v2=>(Option.bind (idx aj (IntKind.i64.wrap (aT - (1:Int)))) fun v3=>(bif decide (v2.1≤v3.2.1)then (some (Sum.inl (((11:Int),()))))else (some (Sum.inr ())))))else (some (Sum.inr ()))))
def yM5(aj:List (Q4)):Option (Int×Unit) :=
  (some (((0:Int),())))
theorem yFs(n:Nat)(hn:big≤n)(aj:List (Q4))(hx:List.length (aj) < lenMax):LeF some (yR (fun ac az a7=>yI4 aj ac az) (fun a7=>yM5 aj) 0 (aj) ()) (yAC n n aj 0):=by
  refine yU (f:=some) (W:=fun aE ac a7=>yAC n aE aj ac) (body:=(fun ac az a7=>yI4 aj ac az)) (fin:=(fun a7=>yM5 aj)) (fun aE ac a7=>?_) hx () n (by unfold big at hn;unfold lenMax at hx;omega)
  show LeF _ _ (yJd n (yAC n aE) aj ac)
  exact yA (yE fun v1=>(yA (y6 rfl) (yA (yE fun v2=>(yE fun v3=>(yA (y6 rfl) (y6 rfl)))) (y6 rfl)))) (y0C (y6 rfl))
def ze_M(l:List (Q4)):Option (Int×Unit) :=
  (bif decide ((↑l.length:Int) > 2048)then (some (((5:Int),())))else (bif decide (List.length (l) < lenMax)then yR (fun ac az a7=>yI4 (l) ac az) (fun a7=>yM5 (l)) 0 (l) ()else none))
theorem yTy(l:List (Q4))(y:Int×Unit)(h:ze_M l=some y):∃ n,ze_m n l=some y :=
  ⟨big,LeF.top (show LeF some (ze_M l) (ze_m big l)from (fun (n:Nat) (hn:big≤n)=>show LeF some (ze_M l) (ze_m n l)from (yA (y6 rfl) (yV fun hx=>by apply yFs n hn;exact hx))) big (Nat.le_refl _)) h⟩
def ze_e:Entry:={ f:=158,args:=ze_a,ress:=ze_r,m:=fun x=>ze_M x.1 }
theorem ydH:FnOK Tryz.prog ze_e:=yJ (g:=ze_g) (fn:=Tryz.f158) yB yI (y8 ybS eNil) (by kernel_rfl) (by kernel_rfl) (by kernel_rfl) (fun x y h=>let ⟨n,hn⟩:=yTy x.1 y h;⟨yWd n,iNil,(yao n x).trans hn⟩)
abbrev yRP:Ty:=.pair t31 (.pair t23 (.pair t3 .unit))
abbrev yXl:Ty:=.pair t57 .unit
def yTM:G:={ T:=T,E:=[zS_e,z1C_e,z1L_e],muts:=[],fz:=[] }
def ybb:List (List Nat):=[[1,2,6,7,11,12,13]]
def yO5(n:Nat):Ann:={ keep:=ybb,fuel:=n,inl:=[],deep:=0 }
def yEL(n:Nat)(r0:List (Q4)→Int→List (Q3)→Int→Int→Int→Int→Int→Int→Option ((Q4)×Unit))(bN:List (Q4))(aU:Int)(ay:List (Q3))(co:Int)(bB:Int)(aq:Int)(ar:Int)(af:Int)(ah:Int):Option ((Q4)×Unit) :=
  (bif decide (bB < co)then (Option.bind (idx ay bB) fun v1=>(Option.bind (idx bN bB) fun v2=>(Option.bind (zS_M (v1.1,v1.2.1,v1.2.2.1,()) aU) fun v3=>r0 bN aU ay co (IntKind.i64.wrap (bB+1)) aq ar (z1L (af,ah,()) (z1C v2 v3.1).1).1.1 (z1L (af,ah,()) (z1C v2 v3.1).1).1.2.1)))else some ((af,ah,()),()))
def y6b(n:Nat)(k:Nat)(bN:List (Q4))(aU:Int)(ay:List (Q3))(co:Int)(bB:Int)(aq:Int)(ar:Int)(af:Int)(ah:Int):Option ((Q4)×Unit) :=
  iter (fun r y=>yEL n (fun bN aU ay co bB aq ar af ah=>r ((bN,(aU,(ay,(co,(bB,()))))),(((aq,(ar,())),((af,(ah,())),())),()))) y.1.1 y.1.2.1 y.1.2.2.1 y.1.2.2.2.1 y.1.2.2.2.2.1 y.2.1.1.1 y.2.1.1.2.1 y.2.1.2.1.1 y.2.1.2.1.2.1) k ((bN,(aU,(ay,(co,(bB,()))))),(((aq,(ar,())),((af,(ah,())),())),()))
def yL3(n:Nat)(l:List (Q3))(v:List (Q4))(tick:Int):Option ((Q4)×Unit) :=
  (y6b n n (v) (tick) (l) ((↑l.length:Int)) ((0:Int)) ((0:Int)) ((0:Int)) ((0:Int)) ((0:Int)))
theorem yWf(n:Nat)(x:yRP.den):runF yTM (yO5 n) Tryz.f167 yRP yXl x=yL3 n x.1 x.2.1 x.2.2.1:=by kernel_rfl
def y8t(bN:List (Q4))(aU:Int)(ay:List (Q3))(aq:Int)(ar:Int)(bB:Int)(v1:Q3)(af:Int)(ah:Int):Option (((Q4)×Unit)⊕(Int×Int)) :=
  (Option.bind (idx bN bB) fun v2=>(Option.bind (zS_M (v1.1,v1.2.1,v1.2.2.1,()) aU) fun v3=>(some (Sum.inr (((z1L (af,ah,()) (z1C v2 v3.1).1).1.1),((z1L (af,ah,()) (z1C v2 v3.1).1).1.2.1))))))
def yEd(bN:List (Q4))(aU:Int)(ay:List (Q3))(aq:Int)(ar:Int)(af:Int)(ah:Int):Option ((Q4)×Unit) :=
  (some (((af,ah,()),())))
theorem yCf(n:Nat)(hn:big≤n)(bN:List (Q4))(aU:Int)(ay:List (Q3))(aq:Int)(ar:Int)(af:Int)(ah:Int)(hx:List.length (ay) < lenMax):LeF some (yR (fun ac az a7=>y8t bN aU ay aq ar ac az a7.1 a7.2) (fun a7=>yEd bN aU ay aq ar a7.1 a7.2) 0 (ay) (af,ah)) (y6b n n bN aU ay (List.length (ay):Int) 0 aq ar af ah):=by
  refine yU (f:=some) (W:=fun aE ac a7=>y6b n aE bN aU ay (List.length (ay):Int) ac aq ar a7.1 a7.2) (body:=(fun ac az a7=>y8t bN aU ay aq ar ac az a7.1 a7.2)) (fin:=(fun a7=>yEd bN aU ay aq ar a7.1 a7.2)) (fun aE ac a7=>?_) hx (af,ah) n (by unfold big at hn;unfold lenMax at hx;omega)
  show LeF _ _ (yEL n (y6b n aE) bN aU ay (List.length (ay):Int) ac aq ar a7.1 a7.2)
  exact yA (yE fun v1=>(yE fun v2=>(yE fun v3=>(y6 rfl)))) (y0C (y6 rfl))
def yCp(l:List (Q3))(v:List (Q4))(tick:Int):Option ((Q4)×Unit) :=
  (bif decide (List.length (l) < lenMax)then yR (fun ac az a7=>y8t (v) (tick) (l) ((0:Int)) ((0:Int)) ac az a7.1 a7.2) (fun a7=>yEd (v) (tick) (l) ((0:Int)) ((0:Int)) a7.1 a7.2) 0 (l) (((0:Int)),((0:Int)))else none)
theorem yOz(l:List (Q3))(v:List (Q4))(tick:Int)(y:(Q4)×Unit)(h:yCp l v tick=some y):∃ n,yL3 n l v tick=some y :=
  ⟨big,LeF.top (show LeF some (yCp l v tick) (yL3 big l v tick)from (fun (n:Nat) (hn:big≤n)=>show LeF some (yCp l v tick) (yL3 n l v tick)from (yV fun hx=>by apply yCf n hn;exact hx)) big (Nat.le_refl _)) h⟩
def z1D_e:Entry:={ f:=167,args:=yRP,ress:=yXl,m:=fun x=>yCp x.1 x.2.1 x.2.2.1 }
theorem yZe:FnOK Tryz.prog z1D_e:=yJ (g:=yTM) (fn:=Tryz.f167) yB yI (y8 yQp (y8 yEv (y8 yEC eNil))) (by kernel_rfl) (by kernel_rfl) (by kernel_rfl) (fun x y h=>let ⟨n,hn⟩:=yOz x.1 x.2.1 x.2.2.1 y h;⟨yO5 n,iNil,(yWf n x).trans hn⟩)
abbrev ySK:Ty:=.pair t3 (.pair t41 .unit)
abbrev yTv:Ty:=.pair t3 .unit
def yVp:G:={ T:=T,E:=[z0E_e],muts:=[],fz:=[] }
def yaZ:List (List Nat):=[[0,7,8,9],[0,6,7,8,9]]
def yMy(n:Nat):Ann:={ keep:=yaZ,fuel:=n,inl:=[],deep:=0 }
def yF8(n:Nat)(r0:Int→List Int→Int→Int→Option (Int×Unit))(r2:Int→Int→List Int→Int→Int→Option (Int×Unit))(ce:Int)(bO:Int)(bV:List Int)(bW:Int)(aN:Int):Option (Int×Unit) :=
  (bif bO != 0 then (bif bO==0 then none else r2 bO (ce.tmod bO) bV bW aN)else r0 ce bV bW (IntKind.i64.wrap (aN+1)))
def y6c(n:Nat)(r0:Int→List Int→Int→Int→Option (Int×Unit))(k:Nat)(ce:Int)(bO:Int)(bV:List Int)(bW:Int)(aN:Int):Option (Int×Unit) :=
  iter (fun r y=>yF8 n r0 (fun ce bO bV bW aN=>r ((ce,(bO,(bV,(bW,(aN,()))))),((),()))) y.1.1 y.1.2.1 y.1.2.2.1 y.1.2.2.2.1 y.1.2.2.2.2.1) k ((ce,(bO,(bV,(bW,(aN,()))))),((),()))
def yEj(n:Nat)(r0:Int→List Int→Int→Int→Option (Int×Unit))(cd:Int)(aA:List Int)(a8:Int)(al:Int):Option (Int×Unit) :=
  (bif decide (al < a8)then (Option.bind (idx aA al) fun v1=>(y6c n r0 n (cd) ((z0E v1).1) (aA) (a8) (al)))else some (cd,()))
def y6a(n:Nat)(k:Nat)(cd:Int)(aA:List Int)(a8:Int)(al:Int):Option (Int×Unit) :=
  iter (fun r y=>yEj n (fun cd aA a8 al=>r ((cd,(aA,(a8,(al,())))),((),()))) y.1.1 y.1.2.1 y.1.2.2.1 y.1.2.2.2.1) k ((cd,(aA,(a8,(al,())))),((),()))
def yKP(n:Nat)(n1:Int)(l:List Int):Option (Int×Unit) :=
  (y6a n n (n1) (l) ((↑l.length:Int)) ((0:Int)))
theorem yXp(n:Nat)(x:ySK.den):runF yVp (yMy n) Tryz.f186 ySK yTv x=yKP n x.1 x.2.1:=by kernel_rfl
def y83(bV:List Int)(bW:Int)(aN:Int)(ce:Int)(bO:Int):Option (((Int×Unit)⊕(Int))⊕(Int×Int)) :=
  (bif bO != 0 then (bif bO==0 then none else (some (Sum.inr ((bO),(ce.tmod bO)))))else (some (Sum.inl (Sum.inr (ce)))))
theorem yDC(n:Nat)(hn:big≤n)(r0:Int→List Int→Int→Int→Option (Int×Unit))(bV:List Int)(bW:Int)(aN:Int)(ce:Int)(bO:Int):LeF (elim some fun (a7:(Int))=>r0 a7 bV bW (IntKind.i64.wrap (aN+1))) (y1q (fun a7=>y83 bV bW aN a7.1 a7.2) wMax (ce,bO)) (y6c n r0 n ce bO bV bW aN):=by
  refine y52 (f:=(elim some fun (a7:(Int))=>r0 a7 bV bW (IntKind.i64.wrap (aN+1)))) (W:=fun aE a7=>y6c n r0 aE a7.1 a7.2 bV bW aN) (body:=(fun a7=>y83 bV bW aN a7.1 a7.2)) (fun aE a7=>?_) wMax n (ce,bO) (by unfold big at hn;unfold wMax;omega)
  show LeF _ _ (yF8 n r0 (y6c n r0 aE) a7.1 a7.2 bV bW aN)
  exact (yA (yA y19 (y6 rfl)) (y6 rfl))
def y92(aA:List Int)(al:Int)(v1:Int)(cd:Int):Option ((Int×Unit)⊕(Int)) :=
  (y1q (fun a7=>y83 (aA) ((↑aA.length:Int)) (al) a7.1 a7.2) wMax ((cd),((z0E v1).1)))
def yJU(aA:List Int)(cd:Int):Option (Int×Unit) :=
  (some ((cd,())))
theorem yCz(n:Nat)(hn:big≤n)(aA:List Int)(cd:Int)(hx:List.length (aA) < lenMax):LeF some (yR (fun ac az a7=>y92 aA ac az a7) (fun a7=>yJU aA a7) 0 (aA) cd) (y6a n n cd aA (List.length (aA):Int) 0):=by
  refine yU (f:=some) (W:=fun aE ac a7=>y6a n aE a7 aA (List.length (aA):Int) ac) (body:=(fun ac az a7=>y92 aA ac az a7)) (fin:=(fun a7=>yJU aA a7)) (fun aE ac a7=>?_) hx cd n (by unfold big at hn;unfold lenMax at hx;omega)
  show LeF _ _ (yEj n (y6a n aE) a7 aA (List.length (aA):Int) ac)
  exact yA (yE fun v1=>(by apply yDC n hn)) (y0C (y6 rfl))
def y7g(n1:Int)(l:List Int):Option (Int×Unit) :=
  (bif decide (List.length (l) < lenMax)then yR (fun ac az a7=>y92 (l) ac az a7) (fun a7=>yJU (l) a7) 0 (l) (n1)else none)
theorem ySp(n1:Int)(l:List Int)(y:Int×Unit)(h:y7g n1 l=some y):∃ n,yKP n n1 l=some y :=
  ⟨big,LeF.top (show LeF some (y7g n1 l) (yKP big n1 l)from (fun (n:Nat) (hn:big≤n)=>show LeF some (y7g n1 l) (yKP n n1 l)from (yV fun hx=>by apply yCz n hn;exact hx)) big (Nat.le_refl _)) h⟩
def z0S_e:Entry:={ f:=186,args:=ySK,ress:=yTv,m:=fun x=>y7g x.1 x.2.1 }
theorem yNB:FnOK Tryz.prog z0S_e:=yJ (g:=yVp) (fn:=Tryz.f186) yB yI (y8 yBA eNil) (by kernel_rfl) (by kernel_rfl) (by kernel_rfl) (fun x y h=>let ⟨n,hn⟩:=ySp x.1 x.2.1 y h;⟨yMy n,iNil,(yXp n x).trans hn⟩)
abbrev yRM:Ty:=.pair t55 (.pair (.ref t60) .unit)
abbrev yXT:Ty:=.pair t57 .unit
def yYO:G:={ T:=T,E:=[zS_e,z06_e,z0n_e,z1L_e],muts:=[],fz:=[] }
def ybd:List (List Nat):=[]
def yNR(n:Nat):Ann:={ keep:=ybd,fuel:=n,inl:=[il124,il195],deep:=3 }
def yB8(n:Nat)(r0:Q1→List (Q4)→List Nat→Int→Int→Q3→Q1→Q3→Q4→Q1→Q1→Int→Int→Int→Int→Q3→Q1→Q3→Q4→Q1→Q1→Option ((Q4)×Unit))(j8:Q1)(j9:List (Q4))(j10:Int)(j11:Nat)(j12:List Nat)(j13:Int)(j14:Int)(j15:Q3)(j16:Q1)(j17:Q3)(j18:Q4)(j19:Q1)(j20:Q1)(j21:Int)(j22:Int)(j23:Int)(j24:Int)(j25:Q3)(j26:Q1)(j27:Q3)(j28:Q4)(j29:Q1)(j30:Q1):Option ((Q4)×Unit) :=
  (bif decide ((↑j9.length:Int) > 0)then (Option.bind (idx j9 (0:Int)) fun v31=>(bif decide (v31.1≤j10)then r0 j8 j9 j12 j13 (IntKind.i64.wrap (j14+1)) j15 j16 j17 j18 j19 j20 j21 j22 j23 j24 j25 j26 j27 j28 j29 j30 else (Option.bind (y02 Go.FloatKind.f32 (y01 Go.BinOp.mul Go.FloatKind.f32 j11 (nat_lit 1098907648)) IntKind.i64) fun v36=>(Option.bind (zS_M j17 (IntKind.i64.wrap (j8.2.1+j10))) fun v37=>r0 j8 j9 j12 j13 (IntKind.i64.wrap (j14+1)) j15 j16 j17 j18 j19 j20 j21 j22 (z1L (j23,j24,()) (z0n (z06 v37.1).1 v36).1).1.1 (z1L (j23,j24,()) (z0n (z06 v37.1).1 v36).1).1.2.1 j25 j26 j27 j28 j29 j30))))else (Option.bind (y02 Go.FloatKind.f32 (y01 Go.BinOp.mul Go.FloatKind.f32 j11 (nat_lit 1098907648)) IntKind.i64) fun v38=>(Option.bind (zS_M j17 (IntKind.i64.wrap (j8.2.1+j10))) fun v39=>r0 j8 j9 j12 j13 (IntKind.i64.wrap (j14+1)) j15 j16 j17 j18 j19 j20 j21 j22 (z1L (j23,j24,()) (z0n (z06 v39.1).1 v38).1).1.1 (z1L (j23,j24,()) (z0n (z06 v39.1).1 v38).1).1.2.1 j25 j26 j27 j28 j29 j30)))
def yKp(n:Nat)(r0:Q1→List (Q4)→List Nat→Int→Int→Q3→Q1→Q3→Q4→Q1→Q1→Int→Int→Int→Int→Q3→Q1→Q3→Q4→Q1→Q1→Option ((Q4)×Unit))(r2:Q1→List (Q4)→Int→Nat→List Nat→Int→Int→Q3→Q1→Q3→Q4→Q1→Q1→Int→Int→Int→Int→Q3→Q1→Q3→Q4→Q1→Q1→Option ((Q4)×Unit))(b7:Q1)(ak:List (Q4))(aZ:Int)(bc:Nat)(aN:List Nat)(aK:Int)(aL:Int)(aB:Q3)(aC:Q1)(bd:Q3)(bX:Q4)(bY:Q1)(bG:Q1)(be:Int)(bf:Int)(bg:Int)(bh:Int)(b8:Q3)(b9:Q1)(bU:Q3)(cx:Q4)(cy:Q1)(bZ:Q1):Option ((Q4)×Unit) :=
  (bif decide ((↑ak.length:Int) > 0)then (Option.bind (idx ak (0:Int)) fun v3=>(bif decide (v3.2.1≤aZ)then (bif decide ((0:Int)≤1) && decide ((1:Int)≤(↑ak.length:Int))then r2 b7 (List.drop (Int.toNat (1:Int)) ak) aZ bc aN aK aL aB aC bd bX bY bG be bf bg bh b8 b9 bU cx cy bZ else none)else (yB8 n r0 (b7) (ak) (aZ) (bc) (aN) (aK) (aL) (aB) (aC) (bd) (bX) (bY) (bG) (be) (bf) (bg) (bh) (b8) (b9) (bU) (cx) (cy) (bZ))))else (yB8 n r0 (b7) (ak) (aZ) (bc) (aN) (aK) (aL) (aB) (aC) (bd) (bX) (bY) (bG) (be) (bf) (bg) (bh) (b8) (b9) (bU) (cx) (cy) (bZ)))
def yKe(n:Nat)(r0:Q1→List (Q4)→List Nat→Int→Int→Q3→Q1→Q3→Q4→Q1→Q1→Int→Int→Int→Int→Q3→Q1→Q3→Q4→Q1→Q1→Option ((Q4)×Unit))(k:Nat)(b7:Q1)(ak:List (Q4))(aZ:Int)(bc:Nat)(aN:List Nat)(aK:Int)(aL:Int)(aB:Q3)(aC:Q1)(bd:Q3)(bX:Q4)(bY:Q1)(bG:Q1)(be:Int)(bf:Int)(bg:Int)(bh:Int)(b8:Q3)(b9:Q1)(bU:Q3)(cx:Q4)(cy:Q1)(bZ:Q1):Option ((Q4)×Unit) :=
  iter (fun r y=>yKp n r0 (fun b7 ak aZ bc aN aK aL aB aC bd bX bY bG be bf bg bh b8 b9 bU cx cy bZ=>r ((b7,(ak,(aZ,(bc,(aN,(aK,(aL,()))))))),(((aB,(aC,(bd,(bX,(bY,((bG,()),())))))),((be,(bf,())),((bg,(bh,())),()))),(b8,(b9,(bU,(cx,(cy,((bZ,()),()))))))))) y.1.1 y.1.2.1 y.1.2.2.1 y.1.2.2.2.1 y.1.2.2.2.2.1 y.1.2.2.2.2.2.1 y.1.2.2.2.2.2.2.1 y.2.1.1.1 y.2.1.1.2.1 y.2.1.1.2.2.1 y.2.1.1.2.2.2.1 y.2.1.1.2.2.2.2.1 y.2.1.1.2.2.2.2.2.1.1 y.2.1.2.1.1 y.2.1.2.1.2.1 y.2.1.2.2.1.1 y.2.1.2.2.1.2.1 y.2.2.1 y.2.2.2.1 y.2.2.2.2.1 y.2.2.2.2.2.1 y.2.2.2.2.2.2.1 y.2.2.2.2.2.2.2.1.1) k ((b7,(ak,(aZ,(bc,(aN,(aK,(aL,()))))))),(((aB,(aC,(bd,(bX,(bY,((bG,()),())))))),((be,(bf,())),((bg,(bh,())),()))),(b8,(b9,(bU,(cx,(cy,((bZ,()),()))))))))
def yMa(n:Nat)(r0:Q1→List (Q4)→List Nat→Int→Int→Q3→Q1→Q3→Q4→Q1→Q1→Int→Int→Int→Int→Q3→Q1→Q3→Q4→Q1→Q1→Option ((Q4)×Unit))(aw:Q1)(aD:List (Q4))(al:List Nat)(ae:Int)(ay:Int)(aG:Q3)(aH:Q1)(bF:Q3)(cl:Q4)(cm:Q1)(bP:Q1)(af:Int)(ah:Int)(bx:Int)(bz:Int)(bq:Q3)(br:Q1)(ck:Q3)(cC:Q4)(cD:Q1)(cn:Q1):Option ((Q4)×Unit) :=
  (bif decide (ay < ae)then (Option.bind (idx al ay) fun v1=>(yKe n r0 n (aw) (aD) (ay) (v1) (al) (ae) (ay) (aG) (aH) (bF) (cl) (cm) (bP) (af) (ah) (bx) (bz) (bq) (br) (ck) (cC) (cD) (cn)))else some ((bx,bz,()),()))
def yMX(n:Nat)(k:Nat)(aw:Q1)(aD:List (Q4))(al:List Nat)(ae:Int)(ay:Int)(aG:Q3)(aH:Q1)(bF:Q3)(cl:Q4)(cm:Q1)(bP:Q1)(af:Int)(ah:Int)(bx:Int)(bz:Int)(bq:Q3)(br:Q1)(ck:Q3)(cC:Q4)(cD:Q1)(cn:Q1):Option ((Q4)×Unit) :=
  iter (fun r y=>yMa n (fun aw aD al ae ay aG aH bF cl cm bP af ah bx bz bq br ck cC cD cn=>r ((aw,(aD,(al,(ae,(ay,()))))),(((aG,(aH,(bF,(cl,(cm,((bP,()),())))))),((af,(ah,())),((bx,(bz,())),()))),(bq,(br,(ck,(cC,(cD,((cn,()),()))))))))) y.1.1 y.1.2.1 y.1.2.2.1 y.1.2.2.2.1 y.1.2.2.2.2.1 y.2.1.1.1 y.2.1.1.2.1 y.2.1.1.2.2.1 y.2.1.1.2.2.2.1 y.2.1.1.2.2.2.2.1 y.2.1.1.2.2.2.2.2.1.1 y.2.1.2.1.1 y.2.1.2.1.2.1 y.2.1.2.2.1.1 y.2.1.2.2.1.2.1 y.2.2.1 y.2.2.2.1 y.2.2.2.2.1 y.2.2.2.2.2.1 y.2.2.2.2.2.2.1 y.2.2.2.2.2.2.2.1.1) k ((aw,(aD,(al,(ae,(ay,()))))),(((aG,(aH,(bF,(cl,(cm,((bP,()),())))))),((af,(ah,())),((bx,(bz,())),()))),(bq,(br,(ck,(cC,(cD,((cn,()),()))))))))
def ySo(n:Nat)(c:Q3)(p1:Q1):Option ((Q4)×Unit) :=
  (yMX n n (p1) (p1.2.2.2.1) (p1.2.2.1) ((↑p1.2.2.1.length:Int)) ((0:Int)) (c) (p1) (c) (((0:Int),(0:Int),())) (p1) (p1) ((0:Int)) ((0:Int)) ((0:Int)) ((0:Int)) (c) (p1) (c) (((0:Int),(0:Int),())) (p1) (p1))
theorem ya1(n:Nat)(x:yRM.den):runF yYO (yNR n) Tryz.f188 yRM yXT x=ySo n x.1 x.2.1:=by kernel_rfl
def yQY(c:Q3)(p1:Q1):Option ((Q4)×Unit):=ySo 1000 c p1
theorem yRo(c:Q3)(p1:Q1)(y:(Q4)×Unit)(h:yQY c p1=some y):∃ n,ySo n c p1=some y:=⟨1000,h⟩
def z0V_e:Entry:={ f:=188,args:=yRM,ress:=yXT,m:=fun x=>yQY x.1 x.2.1 }
theorem yX7:FnOK Tryz.prog z0V_e:=yJ (g:=yYO) (fn:=Tryz.f188) yB yI (y8 yQp (y8 yJI (y8 yHg (y8 yEC eNil)))) (by kernel_rfl) (by kernel_rfl) (by kernel_rfl) (fun x y h=>let ⟨n,hn⟩:=yRo x.1 x.2.1 y h;⟨yNR n,(y5H y5M (y5H y5N iNil)),(ya1 n x).trans hn⟩)
abbrev zT_a:Ty:=.pair t183 (.pair t3 (.pair t3 .unit))
abbrev zT_r:Ty:=.pair t57 .unit
class tide_matrix_expand_Rec where
  f:zT_a.den→Option zT_r.den
section
variable [tide_matrix_expand_Rec]
def y3p:Entry:={ f:=194,args:=zT_a,ress:=zT_r,m:=fun x=>tide_matrix_expand_Rec.f x }
def zT_g:G:={ T:=T,E:=[y3p,z1C_e,z0n_e,z1L_e],muts:=[],fz:=[] }
def zT_k:List (List Nat):=[[0,1,2,6,7,8,18,19]]
def yTh(n:Nat):Ann:={ keep:=zT_k,fuel:=n,inl:=[],deep:=0 }
def yH2(n:Nat)(r0:List (List (Q4))→Int→Int→Int→Int→Int→Int→Int→Int→Int→Option ((Q4)×Unit))(bt:List (List (Q4)))(aW:Int)(aM:Int)(aQ:Int)(bp:Int)(bv:Int)(aq:Int)(ar:Int)(af:Int)(ah:Int):Option ((Q4)×Unit) :=
  (bif decide (bv < bp)then (bif decide (bv < 0)then none else (bif y3N IntKind.i64 Go.BinOp.and (aM.fdiv ((2:Int) ^ Min.min bv.toNat IntKind.i64.bits)) (1:Int)==1 then r0 bt aW aM aQ bp (IntKind.i64.wrap (bv+1)) aq ar af ah else (Option.bind (idx bt aW) fun v1=>(Option.bind (idx v1 bv) fun v2=>(bif decide (bv < 0)then none else (Option.bind (tide_matrix_expand_Rec.f (bt,IntKind.i64.wrap (aW+1),y3N IntKind.i64 Go.BinOp.or aM (IntKind.i64.wrap ((1:Int) * 2 ^ Min.min bv.toNat IntKind.i64.bits)),())) fun v3=>r0 bt aW aM (IntKind.i64.wrap ((0:Int) - aQ)) bp (IntKind.i64.wrap (bv+1)) aq ar (z1L (af,ah,()) (z0n (z1C v2 v3.1).1 aQ).1).1.1 (z1L (af,ah,()) (z0n (z1C v2 v3.1).1 aQ).1).1.2.1))))))else some ((af,ah,()),()))
def y9f(n:Nat)(k:Nat)(bt:List (List (Q4)))(aW:Int)(aM:Int)(aQ:Int)(bp:Int)(bv:Int)(aq:Int)(ar:Int)(af:Int)(ah:Int):Option ((Q4)×Unit) :=
  iter (fun r y=>yH2 n (fun bt aW aM aQ bp bv aq ar af ah=>r ((bt,(aW,(aM,(aQ,(bp,(bv,())))))),(((aq,(ar,())),((af,(ah,())),())),()))) y.1.1 y.1.2.1 y.1.2.2.1 y.1.2.2.2.1 y.1.2.2.2.2.1 y.1.2.2.2.2.2.1 y.2.1.1.1 y.2.1.1.2.1 y.2.1.2.1.1 y.2.1.2.1.2.1) k ((bt,(aW,(aM,(aQ,(bp,(bv,())))))),(((aq,(ar,())),((af,(ah,())),())),()))
def zT_m(n:Nat)(m:List (List (Q4)))(row:Int)(used:Int):Option ((Q4)×Unit) :=
  (bif row==(↑m.length:Int)then some (((1:Int),(0:Int),()),())else (y9f n n (m) (row) (used) ((1:Int)) ((↑m.length:Int)) ((0:Int)) ((0:Int)) ((0:Int)) ((0:Int)) ((0:Int))))
theorem yd7(n:Nat)(x:zT_a.den):runF zT_g (yTh n) Tryz.f194 zT_a zT_r x=zT_m n x.1 x.2.1 x.2.2.1:=by kernel_rfl
def yPq(bt:List (List (Q4)))(aW:Int)(aM:Int)(bp:Int)(aq:Int)(ar:Int)(bv:Int)(aQ:Int)(af:Int)(ah:Int):Option (((Q4)×Unit)⊕(Int×Int×Int)) :=
  (bif decide (bv < 0)then none else (bif y3N IntKind.i64 Go.BinOp.and (aM.fdiv ((2:Int) ^ Min.min bv.toNat IntKind.i64.bits)) (1:Int)==1 then (some (Sum.inr ((aQ),(af),(ah))))else (Option.bind (idx bt aW) fun v1=>(Option.bind (idx v1 bv) fun v2=>(bif decide (bv < 0)then none else (Option.bind (tide_matrix_expand_Rec.f (bt,IntKind.i64.wrap (aW+1),y3N IntKind.i64 Go.BinOp.or aM (IntKind.i64.wrap ((1:Int) * 2 ^ Min.min bv.toNat IntKind.i64.bits)),())) fun v3=>(some (Sum.inr ((IntKind.i64.wrap ((0:Int) - aQ)),((z1L (af,ah,()) (z0n (z1C v2 v3.1).1 aQ).1).1.1),((z1L (af,ah,()) (z0n (z1C v2 v3.1).1 aQ).1).1.2.1))))))))))
def yPh(bt:List (List (Q4)))(aW:Int)(aM:Int)(bp:Int)(aq:Int)(ar:Int)(aQ:Int)(af:Int)(ah:Int):Option ((Q4)×Unit) :=
  (some (((af,ah,()),())))
theorem yGX(n:Nat)(hn:big≤n)(bt:List (List (Q4)))(aW:Int)(aM:Int)(bp:Int)(aq:Int)(ar:Int)(aQ:Int)(af:Int)(ah:Int)(hx:(bp)≤9223372036854775807):LeF some (y1k (fun ac a7=>yPq bt aW aM bp aq ar ac a7.1 a7.2.1 a7.2.2) (fun a7=>yPh bt aW aM bp aq ar a7.1 a7.2.1 a7.2.2) ((bp) - 0).toNat 0 (aQ,af,ah)) (y9f n n bt aW aM aQ bp 0 aq ar af ah):=by
  refine y3I (f:=some) (W:=fun aE ac a7=>y9f n aE bt aW aM a7.1 bp ac aq ar a7.2.1 a7.2.2) (body:=(fun ac a7=>yPq bt aW aM bp aq ar ac a7.1 a7.2.1 a7.2.2)) (fin:=(fun a7=>yPh bt aW aM bp aq ar a7.1 a7.2.1 a7.2.2)) (fun aE ac a7=>?_) hx (aQ,af,ah) n 0 (by decide) (by unfold big at hn;omega)
  show LeF _ _ (yH2 n (y9f n aE) bt aW aM a7.1 bp ac aq ar a7.2.1 a7.2.2)
  exact yA (yA y19 (yA (y6 rfl) (yE fun v1=>(yE fun v2=>(yA y19 (yE fun v3=>(y6 rfl))))))) (y0C (y6 rfl))
def zT_M(m:List (List (Q4)))(row:Int)(used:Int):Option ((Q4)×Unit) :=
  (bif row==(↑m.length:Int)then (some ((((1:Int),(0:Int),()),())))else (bif decide (((↑m.length:Int))≤9223372036854775807)then y1k (fun ac a7=>yPq (m) (row) (used) ((↑m.length:Int)) ((0:Int)) ((0:Int)) ac a7.1 a7.2.1 a7.2.2) (fun a7=>yPh (m) (row) (used) ((↑m.length:Int)) ((0:Int)) ((0:Int)) a7.1 a7.2.1 a7.2.2) (((↑m.length:Int)) - 0).toNat 0 (((1:Int)),((0:Int)),((0:Int)))else none))
theorem yVW(m:List (List (Q4)))(row:Int)(used:Int)(y:(Q4)×Unit)(h:zT_M m row used=some y):∃ n,zT_m n m row used=some y :=
  ⟨big,LeF.top (show LeF some (zT_M m row used) (zT_m big m row used)from (fun (n:Nat) (hn:big≤n)=>show LeF some (zT_M m row used) (zT_m n m row used)from (yA (y6 rfl) (yV fun hx=>by apply yGX n hn;exact hx))) big (Nat.le_refl _)) h⟩
end
def y08(d:Nat):zT_a.den→Option zT_r.den:=Nat.rec (motive:=fun _=>zT_a.den→Option zT_r.den) (fun _=>none) (fun _ ih x=>@zT_M ⟨ih⟩ x.1 x.2.1 x.2.2.1) d
def y0f(d:Nat):Entry:={ f:=194,args:=zT_a,ress:=zT_r,m:=y08 d }
theorem y1Z:(d:Nat)→FnOK Tryz.prog (y0f d)
  | 0=>FnOK.none (fn:=Tryz.f194) (by kernel_rfl) (by kernel_rfl) (by kernel_rfl)
  | d+1=>yJ (g:=@zT_g ⟨y08 d⟩) (fn:=Tryz.f194) (e:=y0f (d+1)) yB yI (y8 (y1Z d) (y8 yEv (y8 yHg (y8 yEC eNil)))) (by kernel_rfl) (by kernel_rfl) (by kernel_rfl) (fun x y h=>let ⟨n,hn⟩:=@yVW ⟨y08 d⟩ x.1 x.2.1 x.2.2.1 y h;⟨yTh n,iNil,(@yd7 ⟨y08 d⟩ n x).trans hn⟩)
def zT_e:Entry:=y0f 8
theorem ycD:FnOK Tryz.prog zT_e:=y1Z 8
abbrev zZ_a:Ty:=.pair t61 .unit
abbrev zZ_r:Ty:=.pair t28 .unit
def zZ_g:G:={ T:=T,E:=[zb_e,z0q_e],muts:=[],fz:=[] }
def zZ_k:List (List Nat):=[]
def yZz(n:Nat):Ann:={ keep:=zZ_k,fuel:=n,inl:=[],deep:=0 }
def zZ_m(n:Nat)(x1:Nat):Option (Int×Unit) :=
  (bif ym Go.BinOp.neq Go.FloatKind.f32 (y01 Go.BinOp.sub Go.FloatKind.f32 x1 x1) (nat_lit 0)then some ((1:Int),())else (bif ym Go.BinOp.lss Go.FloatKind.f32 x1 (nat_lit 3263168512)then some ((3:Int),())else (bif ym Go.BinOp.gtr Go.FloatKind.f32 x1 (nat_lit 1115684864)then some ((3:Int),())else (Option.bind (zb_M x1) fun v2=>some ((z0q (ym Go.BinOp.neq Go.FloatKind.f32 (y17 Go.FloatKind.f32 v2.1) (y01 Go.BinOp.mul Go.FloatKind.f32 x1 (nat_lit 1098907648))) (3:Int)).1,())))))
theorem ydG(n:Nat)(x:zZ_a.den):runF zZ_g (yZz n) Tryz.f197 zZ_a zZ_r x=zZ_m n x.1:=by kernel_rfl
def zZ_M(x1:Nat):Option (Int×Unit):=zZ_m 0 x1
theorem yUk(x1:Nat)(y:Int×Unit)(h:zZ_M x1=some y):∃ n,zZ_m n x1=some y:=⟨0,h⟩
def zZ_e:Entry:={ f:=197,args:=zZ_a,ress:=zZ_r,m:=fun x=>zZ_M x.1 }
theorem yW8:FnOK Tryz.prog zZ_e:=yJ (g:=zZ_g) (fn:=Tryz.f197) yB yI (y8 ybi (y8 yBt eNil)) (by kernel_rfl) (by kernel_rfl) (by kernel_rfl) (fun x y h=>let ⟨n,hn⟩:=yUk x.1 y h;⟨yZz n,iNil,(ydG n x).trans hn⟩)
abbrev ySC:Ty:=.pair t3 (.pair t3 (.pair t3 .unit))
abbrev yU7:Ty:=.pair t28 .unit
def yUH:G:={ T:=T,E:=[z0q_e],muts:=[],fz:=[] }
def ybq:List (List Nat):=[]
def yO9(n:Nat):Ann:={ keep:=ybq,fuel:=n,inl:=[],deep:=0 }
def yLw(n:Nat)(n1:Int)(least:Int)(most:Int):Option (Int×Unit) :=
  (bif decide (n1 < least)then some ((z0q Bool.true (3:Int)).1,())else some ((z0q (decide (n1 > most)) (3:Int)).1,()))
theorem yUw(n:Nat)(x:ySC.den):runF yUH (yO9 n) Tryz.f201 ySC yU7 x=yLw n x.1 x.2.1 x.2.2.1:=by kernel_rfl
def z0H(n1:Int)(least:Int)(most:Int):(Int×Unit) :=
  (bif decide (n1 < least)then ((z0q Bool.true (3:Int)).1,())else ((z0q (decide (n1 > most)) (3:Int)).1,()))
abbrev yYP (n1:Int) (least:Int) (most:Int):Option (Int×Unit):=some (z0H n1 least most)
theorem yOd(n1:Int)(least:Int)(most:Int)(y:Int×Unit)(h:yYP n1 least most=some y):∃ n,yLw n n1 least most=some y :=
  ⟨0,by rw[← h];show yLw 0 n1 least most=some (z0H n1 least most);unfold yLw z0H;first|rfl|(simp only[yF];done)|(simp only[yF];rfl)⟩
def z0H_e:Entry:={ f:=201,args:=ySC,ress:=yU7,m:=fun x=>yYP x.1 x.2.1 x.2.2.1 }
theorem yYI:FnOK Tryz.prog z0H_e:=yJ (g:=yUH) (fn:=Tryz.f201) yB yI (y8 yBt eNil) (by kernel_rfl) (by kernel_rfl) (by kernel_rfl) (fun x y h=>let ⟨n,hn⟩:=yOd x.1 x.2.1 x.2.2.1 y h;⟨yO9 n,iNil,(yUw n x).trans hn⟩)
abbrev zB_a:Ty:=.pair t58 (.pair t263 .unit)
abbrev zB_r:Ty:=.pair t4 .unit
def zB_g:G:={ T:=T,E:=[zD_e],muts:=[],fz:=[] }
def zB_k:List (List Nat):=[]
def yVK(n:Nat):Ann:={ keep:=zB_k,fuel:=n,inl:=[],deep:=0 }
def zB_m(n:Nat)(s:List (Q4))(f:(Q4)×Unit→Option (Bool×Unit)):Option (Bool×Unit) :=
  (Option.bind (zD_M s f) fun v0=>some (decide (v0.1 ≥ 0),()))
theorem yaU(n:Nat)(x:zB_a.den):runF zB_g (yVK n) Tryz.f204 zB_a zB_r x=zB_m n x.1 x.2.1:=by kernel_rfl
def zB_M(s:List (Q4))(f:(Q4)×Unit→Option (Bool×Unit)):Option (Bool×Unit):=zB_m 0 s f
theorem yWg(s:List (Q4))(f:(Q4)×Unit→Option (Bool×Unit))(y:Bool×Unit)(h:zB_M s f=some y):∃ n,zB_m n s f=some y:=⟨0,h⟩
def zB_e:Entry:={ f:=204,args:=zB_a,ress:=zB_r,m:=fun x=>zB_M x.1 x.2.1 }
theorem yaw:FnOK Tryz.prog zB_e:=yJ (g:=zB_g) (fn:=Tryz.f204) yB yI (y8 ybx eNil) (by kernel_rfl) (by kernel_rfl) (by kernel_rfl) (fun x y h=>let ⟨n,hn⟩:=yWg x.1 x.2.1 y h;⟨yVK n,iNil,(yaU n x).trans hn⟩)
abbrev zC_a:Ty:=.pair t35 (.pair t265 .unit)
abbrev zC_r:Ty:=.pair t4 .unit
def zC_g:G:={ T:=T,E:=[zE_e],muts:=[],fz:=[] }
def zC_k:List (List Nat):=[]
def yUG(n:Nat):Ann:={ keep:=zC_k,fuel:=n,inl:=[],deep:=0 }
def zC_m(n:Nat)(s:List Nat)(f:Nat×Unit→Option (Bool×Unit)):Option (Bool×Unit) :=
  (Option.bind (zE_M s f) fun v0=>some (decide (v0.1 ≥ 0),()))
theorem yad(n:Nat)(x:zC_a.den):runF zC_g (yUG n) Tryz.f207 zC_a zC_r x=zC_m n x.1 x.2.1:=by kernel_rfl
def zC_M(s:List Nat)(f:Nat×Unit→Option (Bool×Unit)):Option (Bool×Unit):=zC_m 0 s f
theorem yYS(s:List Nat)(f:Nat×Unit→Option (Bool×Unit))(y:Bool×Unit)(h:zC_M s f=some y):∃ n,zC_m n s f=some y:=⟨0,h⟩
def zC_e:Entry:={ f:=207,args:=zC_a,ress:=zC_r,m:=fun x=>zC_M x.1 x.2.1 }
theorem ycE:FnOK Tryz.prog zC_e:=yJ (g:=zC_g) (fn:=Tryz.f207) yB yI (y8 yck eNil) (by kernel_rfl) (by kernel_rfl) (by kernel_rfl) (fun x y h=>let ⟨n,hn⟩:=yYS x.1 x.2.1 y h;⟨yUG n,iNil,(yad n x).trans hn⟩)
abbrev zl_a:Ty:=.pair t63 .unit
abbrev zl_r:Ty:=.pair t28 .unit
def zl_g:G:={ T:=T,E:=[z0q_e],muts:=[],fz:=[] }
def zl_k:List (List Nat):=[]
def yYs(n:Nat):Ann:={ keep:=zl_k,fuel:=n,inl:=[],deep:=0 }
def zl_m(n:Nat)(s:Q4):Option (Int×Unit) :=
  (bif decide (s.1 < 0)then some ((z0q Bool.true (14:Int)).1,())else (bif decide (s.1 ≥ s.2.1)then some ((z0q Bool.true (14:Int)).1,())else some ((z0q (decide (s.2.1 > 100000)) (14:Int)).1,())))
theorem ycj(n:Nat)(x:zl_a.den):runF zl_g (yYs n) Tryz.f225 zl_a zl_r x=zl_m n x.1:=by kernel_rfl
def zl(s:Q4):(Int×Unit) :=
  (bif decide (s.1 < 0)then ((z0q Bool.true (14:Int)).1,())else (bif decide (s.1 ≥ s.2.1)then ((z0q Bool.true (14:Int)).1,())else ((z0q (decide (s.2.1 > 100000)) (14:Int)).1,())))
abbrev zl_M (s:Q4):Option (Int×Unit):=some (zl s)
theorem yZT(s:Q4)(y:Int×Unit)(h:zl_M s=some y):∃ n,zl_m n s=some y :=
  ⟨0,by rw[← h];show zl_m 0 s=some (zl s);unfold zl_m zl;first|rfl|(simp only[yF];done)|(simp only[yF];rfl)⟩
def zl_e:Entry:={ f:=225,args:=zl_a,ress:=zl_r,m:=fun x=>zl_M x.1 }
theorem ybT:FnOK Tryz.prog zl_e:=yJ (g:=zl_g) (fn:=Tryz.f225) yB yI (y8 yBt eNil) (by kernel_rfl) (by kernel_rfl) (by kernel_rfl) (fun x y h=>let ⟨n,hn⟩:=yZT x.1 y h;⟨yYs n,iNil,(ycj n x).trans hn⟩)
end
end Go.Tw
end
