import Derived.Test.YtpcnkpbpcebokaaGreatDoorBT
import Derived.Test.YtpcnkpbpcebokaaGreatDoorB0
import Derived.Test.YtpcnkpbpcebokaaGreatDoorBS
import Derived.Test.YtpcnkpbpcebokaaGreatDoorLQ
set_option linter.all false
section
set_option maxRecDepth 1000000
namespace Go.Tw
open Go.Vx Go.Vx.B Go.Proofs
noncomputable section
abbrev yTe:Ty:=.pair t41 .unit
abbrev ycQ:Ty:=.pair t3 .unit
def yVQ:G:={ T:=T,E:=[],muts:=[],fz:=[] }
def ycl:List (List Nat):=[[0,3]]
def yPz(n:Nat):Ann:={ keep:=ycl,fuel:=n,inl:=[],deep:=0 }
def yFA(n:Nat)(r0:List Int->Int->Option (Int×Unit))(aq:List Int)(bR:Int):Option (Int×Unit) :=
  (bif decide (bR < (↑aq.length:Int))then (Option.bind (idx aq bR) λ v1=>(bif v1 != 0 then (Option.bind (idx aq bR) λ v2=>some (v2,()))else r0 aq (IntKind.i64.wrap (bR+1))))else some ((0:Int),()))
def y73(n:Nat)(k:Nat)(aq:List Int)(bR:Int):Option (Int×Unit) :=
  iter (λ r y=>yFA n (λ aq bR=>r ((aq,(bR,())),((),()))) y.1.1 y.1.2.1) k ((aq,(bR,())),((),()))
def yMp(n:Nat)(l:List Int):Option (Int×Unit) :=
  (y73 n n (l) ((0:Int)))
theorem yZV(n:Nat)(x:yTe.den):runF yVQ (yPz n) Tryz.f24 yTe ycQ x=yMp n x.1:=by kernel_rfl
def yC3(aq:List Int)(bR:Int)(v1:Int):Option ((Int×Unit)⊕Unit) :=
  (bif v1 != 0 then (Option.bind (idx aq bR) λ v2=>(some (Sum.inl ((v2,())))))else (some (Sum.inr ())))
def yBd(aq:List Int):Option (Int×Unit) :=
  (some (((0:Int),())))
theorem yDk(n:Nat)(hn:big<=n)(aq:List Int)(hx:List.length (aq) < lenMax):LeF some (yM (λ af aC a7=>yC3 aq af aC) (λ a7=>yBd aq) 0 (aq) ()) (y73 n n aq 0):=by
  refine yQ (f:=some) (W:=λ aJ af a7=>y73 n aJ aq af) (body:=(λ af aC a7=>yC3 aq af aC)) (fin:=(λ a7=>yBd aq)) (λ aJ af a7=>?_) hx () n (by unfold big at hn;unfold lenMax at hx;omega)
  show LeF _ _ (yFA n (y73 n aJ) aq af)
  exact y6 (y8 λ v1=>(y6 (y8 λ v2=>(y7 rfl)) (y7 rfl))) (yr (y7 rfl))
def y8e(l:List Int):Option (Int×Unit) :=
  (bif decide (List.length (l) < lenMax)then yM (λ af aC a7=>yC3 (l) af aC) (λ a7=>yBd (l)) 0 (l) ()else none)
theorem yUD(l:List Int)(y:Int×Unit)(h:y8e l=some y):∃ n,yMp n l=some y :=
  ⟨big,LeF.top (show LeF some (y8e l) (yMp big l)from (λ (n:Nat) (hn:big<=n)=>show LeF some (y8e l) (yMp n l)from (yN λ hx=>by apply yDk n hn;exact hx)) big (Nat.le_refl _)) h⟩
def z0a_e:Entry:={ f:=24,args:=yTe,ress:=ycQ,m:=λ x=>y8e x.1 }
theorem yKy:FnOK Tryz.prog z0a_e:=yJ (g:=yVQ) (fn:=Tryz.f24) yC yI eNil (by kernel_rfl) (by kernel_rfl) (by kernel_rfl) (λ x y h=>let ⟨n,hn⟩:=yUD x.1 y h;⟨yPz n,iNil,(yZV n x).trans hn⟩)
abbrev zZ_a:Ty:=.pair t23 (.pair t23 .unit)
abbrev zZ_r:Ty:=.pair t4 .unit
def zZ_g:G:={ T:=T,E:=[],muts:=[],fz:=[] }
def zZ_k:List (List Nat):=[[0,1,5]]
def yWo(n:Nat):Ann:={ keep:=zZ_k,fuel:=n,inl:=[],deep:=0 }
def yJu(n:Nat)(r0:List (Q4)->List (Q4)->Int->Option (Bool×Unit))(aE:List (Q4))(aI:List (Q4))(aH:Int):Option (Bool×Unit) :=
  (bif decide (aH < (↑aE.length:Int))then (Option.bind (idx aE aH) λ v1=>(Option.bind (idx aI aH) λ v2=>(bif !eqV ((Ty.int IntKind.i64).pair ((Ty.int IntKind.i64).pair Ty.unit)) v1 v2 then some (Bool.false,())else r0 aE aI (IntKind.i64.wrap (aH+1)))))else some (Bool.true,()))
def yBN(n:Nat)(k:Nat)(aE:List (Q4))(aI:List (Q4))(aH:Int):Option (Bool×Unit) :=
  iter (λ r y=>yJu n (λ aE aI aH=>r ((aE,(aI,(aH,()))),((),()))) y.1.1 y.1.2.1 y.1.2.2.1) k ((aE,(aI,(aH,()))),((),()))
def zZ_m(n:Nat)(a:List (Q4))(b:List (Q4)):Option (Bool×Unit) :=
  (bif (↑a.length:Int) != (↑b.length:Int)then some (Bool.false,())else (yBN n n (a) (b) ((0:Int))))
theorem yeU(n:Nat)(x:zZ_a.den):runF zZ_g (yWo n) Tryz.f29 zZ_a zZ_r x=zZ_m n x.1 x.2.1:=by kernel_rfl
def yMY(aE:List (Q4))(aI:List (Q4))(aH:Int)(v1:Q4):Option ((Bool×Unit)⊕Unit) :=
  (Option.bind (idx aI aH) λ v2=>(bif !eqV ((Ty.int IntKind.i64).pair ((Ty.int IntKind.i64).pair Ty.unit)) v1 v2 then (some (Sum.inl ((Bool.false,()))))else (some (Sum.inr ()))))
def yRe(aE:List (Q4))(aI:List (Q4)):Option (Bool×Unit) :=
  (some ((Bool.true,())))
theorem yHu(n:Nat)(hn:big<=n)(aE:List (Q4))(aI:List (Q4))(hx:List.length (aE) < lenMax):LeF some (yM (λ af aC a7=>yMY aE aI af aC) (λ a7=>yRe aE aI) 0 (aE) ()) (yBN n n aE aI 0):=by
  refine yQ (f:=some) (W:=λ aJ af a7=>yBN n aJ aE aI af) (body:=(λ af aC a7=>yMY aE aI af aC)) (fin:=(λ a7=>yRe aE aI)) (λ aJ af a7=>?_) hx () n (by unfold big at hn;unfold lenMax at hx;omega)
  show LeF _ _ (yJu n (yBN n aJ) aE aI af)
  exact y6 (y8 λ v1=>(y8 λ v2=>(y6 (y7 rfl) (y7 rfl)))) (yr (y7 rfl))
def zZ_M(a:List (Q4))(b:List (Q4)):Option (Bool×Unit) :=
  (bif (↑a.length:Int) != (↑b.length:Int)then (some ((Bool.false,())))else (bif decide (List.length (a) < lenMax)then yM (λ af aC a7=>yMY (a) (b) af aC) (λ a7=>yRe (a) (b)) 0 (a) ()else none))
theorem yVX(a:List (Q4))(b:List (Q4))(y:Bool×Unit)(h:zZ_M a b=some y):∃ n,zZ_m n a b=some y :=
  ⟨big,LeF.top (show LeF some (zZ_M a b) (zZ_m big a b)from (λ (n:Nat) (hn:big<=n)=>show LeF some (zZ_M a b) (zZ_m n a b)from (y6 (y7 rfl) (yN λ hx=>by apply yHu n hn;exact hx))) big (Nat.le_refl _)) h⟩
def zZ_e:Entry:={ f:=29,args:=zZ_a,ress:=zZ_r,m:=λ x=>zZ_M x.1 x.2.1 }
theorem ySb:FnOK Tryz.prog zZ_e:=yJ (g:=zZ_g) (fn:=Tryz.f29) yC yI eNil (by kernel_rfl) (by kernel_rfl) (by kernel_rfl) (λ x y h=>let ⟨n,hn⟩:=yVX x.1 x.2.1 y h;⟨yWo n,iNil,(yeU n x).trans hn⟩)
abbrev zg_a:Ty:=.pair t35 (.pair t35 .unit)
abbrev zg_r:Ty:=.pair t4 .unit
def zg_g:G:={ T:=T,E:=[],muts:=[],fz:=[] }
def zg_k:List (List Nat):=[[0,1,5]]
def yYZ(n:Nat):Ann:={ keep:=zg_k,fuel:=n,inl:=[],deep:=0 }
def ySo(n:Nat)(r0:List Nat->List Nat->Int->Option (Bool×Unit))(aE:List Nat)(aI:List Nat)(aH:Int):Option (Bool×Unit) :=
  (bif decide (aH < (↑aE.length:Int))then (Option.bind (idx aE aH) λ v1=>(Option.bind (idx aI aH) λ v2=>(bif yw Go.BinOp.neq Go.FloatKind.f32 v1 v2 then some (Bool.false,())else r0 aE aI (IntKind.i64.wrap (aH+1)))))else some (Bool.true,()))
def yRa(n:Nat)(k:Nat)(aE:List Nat)(aI:List Nat)(aH:Int):Option (Bool×Unit) :=
  iter (λ r y=>ySo n (λ aE aI aH=>r ((aE,(aI,(aH,()))),((),()))) y.1.1 y.1.2.1 y.1.2.2.1) k ((aE,(aI,(aH,()))),((),()))
def zg_m(n:Nat)(a:List Nat)(b:List Nat):Option (Bool×Unit) :=
  (bif (↑a.length:Int) != (↑b.length:Int)then some (Bool.false,())else (yRa n n (a) (b) ((0:Int))))
theorem ydV(n:Nat)(x:zg_a.den):runF zg_g (yYZ n) Tryz.f30 zg_a zg_r x=zg_m n x.1 x.2.1:=by kernel_rfl
def zg_M(a:List Nat)(b:List Nat):Option (Bool×Unit):=zg_m 1000 a b
theorem yaR(a:List Nat)(b:List Nat)(y:Bool×Unit)(h:zg_M a b=some y):∃ n,zg_m n a b=some y:=⟨1000,h⟩
def zg_e:Entry:={ f:=30,args:=zg_a,ress:=zg_r,m:=λ x=>zg_M x.1 x.2.1 }
theorem ydf:FnOK Tryz.prog zg_e:=yJ (g:=zg_g) (fn:=Tryz.f30) yC yI eNil (by kernel_rfl) (by kernel_rfl) (by kernel_rfl) (λ x y h=>let ⟨n,hn⟩:=yaR x.1 x.2.1 y h;⟨yYZ n,iNil,(ydV n x).trans hn⟩)
abbrev zt_a:Ty:=.pair t22 .unit
abbrev zt_r:Ty:=.pair t4 .unit
def zt_g:G:={ T:=T,E:=[],muts:=[],fz:=[] }
def zt_k:List (List Nat):=[[0,3]]
def yXE(n:Nat):Ann:={ keep:=zt_k,fuel:=n,inl:=[],deep:=0 }
def yLa(n:Nat)(r0:List (Q3)->Int->Option (Bool×Unit))(aq:List (Q3))(bR:Int):Option (Bool×Unit) :=
  (bif decide (bR < (↑aq.length:Int))then (Option.bind (idx aq bR) λ v1=>(bif decide ((↑v1.1.length:Int) > 60)then some (Bool.false,())else r0 aq (IntKind.i64.wrap (bR+1))))else some (decide ((↑aq.length:Int)<=5),()))
def yBC(n:Nat)(k:Nat)(aq:List (Q3))(bR:Int):Option (Bool×Unit) :=
  iter (λ r y=>yLa n (λ aq bR=>r ((aq,(bR,())),((),()))) y.1.1 y.1.2.1) k ((aq,(bR,())),((),()))
def zt_m(n:Nat)(l:List (Q3)):Option (Bool×Unit) :=
  (yBC n n (l) ((0:Int)))
theorem ydo(n:Nat)(x:zt_a.den):runF zt_g (yXE n) Tryz.f31 zt_a zt_r x=zt_m n x.1:=by kernel_rfl
def yNz(aq:List (Q3))(bR:Int)(v1:Q3):Option ((Bool×Unit)⊕Unit) :=
  (bif decide ((↑v1.1.length:Int) > 60)then (some (Sum.inl ((Bool.false,()))))else (some (Sum.inr ())))
def yKY(aq:List (Q3)):Option (Bool×Unit) :=
  (some ((decide ((↑aq.length:Int)<=5),())))
theorem yHw(n:Nat)(hn:big<=n)(aq:List (Q3))(hx:List.length (aq) < lenMax):LeF some (yM (λ af aC a7=>yNz aq af aC) (λ a7=>yKY aq) 0 (aq) ()) (yBC n n aq 0):=by
  refine yQ (f:=some) (W:=λ aJ af a7=>yBC n aJ aq af) (body:=(λ af aC a7=>yNz aq af aC)) (fin:=(λ a7=>yKY aq)) (λ aJ af a7=>?_) hx () n (by unfold big at hn;unfold lenMax at hx;omega)
  show LeF _ _ (yLa n (yBC n aJ) aq af)
  exact y6 (y8 λ v1=>(y6 (y7 rfl) (y7 rfl))) (yr (y7 rfl))
def zt_M(l:List (Q3)):Option (Bool×Unit) :=
  (bif decide (List.length (l) < lenMax)then yM (λ af aC a7=>yNz (l) af aC) (λ a7=>yKY (l)) 0 (l) ()else none)
theorem yWd(l:List (Q3))(y:Bool×Unit)(h:zt_M l=some y):∃ n,zt_m n l=some y :=
  ⟨big,LeF.top (show LeF some (zt_M l) (zt_m big l)from (λ (n:Nat) (hn:big<=n)=>show LeF some (zt_M l) (zt_m n l)from (yN λ hx=>by apply yHw n hn;exact hx)) big (Nat.le_refl _)) h⟩
def zt_e:Entry:={ f:=31,args:=zt_a,ress:=zt_r,m:=λ x=>zt_M x.1 }
theorem yez:FnOK Tryz.prog zt_e:=yJ (g:=zt_g) (fn:=Tryz.f31) yC yI eNil (by kernel_rfl) (by kernel_rfl) (by kernel_rfl) (λ x y h=>let ⟨n,hn⟩:=yWd x.1 y h;⟨yXE n,iNil,(ydo n x).trans hn⟩)
abbrev yTt:Ty:=.pair t22 .unit
abbrev yYo:Ty:=.pair t31 .unit
def yaE:G:={ T:=T,E:=[],muts:=[3],fz:=[] }
def ydX:List (List Nat):=[[3,6,7,8]]
def yOg(n:Nat):Ann:={ keep:=ydX,fuel:=n,inl:=[],deep:=0 }
def yGT(n:Nat)(r0:List (Q3)->Int->Int->List (Q3)->Option (List (Q3)×Unit))(b8:List (Q3))(aR:Int)(ac:Int)(bu:List (Q3)):Option (List (Q3)×Unit) :=
  (bif decide (ac < aR)then (Option.bind (idx b8 ac) λ v1=>(bif decide (bu.length+(1:Nat)<=memMax)then r0 b8 aR (IntKind.i64.wrap (ac+1)) (bu++[(v1.1,v1.2.1,v1.2.2.1,())])else none))else some (bu,()))
def y79(n:Nat)(k:Nat)(b8:List (Q3))(aR:Int)(ac:Int)(bu:List (Q3)):Option (List (Q3)×Unit) :=
  iter (λ r y=>yGT n (λ b8 aR ac bu=>r ((b8,(aR,(ac,()))),((bu,()),()))) y.1.1 y.1.2.1 y.1.2.2.1 y.2.1.1) k ((b8,(aR,(ac,()))),((bu,()),()))
def yM8(n:Nat)(l:List (Q3)):Option (List (Q3)×Unit) :=
  (y79 n n (l) ((↑l.length:Int)) ((0:Int)) ([]))
theorem yWH(n:Nat)(x:yTt.den):runF yaE (yOg n) Tryz.f33 yTt yYo x=yM8 n x.1:=by kernel_rfl
def yGw(b8:List (Q3))(ac:Int)(v1:Q3)(bu:List (Q3)):Option ((List (Q3)×Unit)⊕(List (Q3))) :=
  (bif decide (bu.length+(1:Nat)<=memMax)then (some (Sum.inr (bu++[(v1.1,v1.2.1,v1.2.2.1,())])))else none)
def yJT(b8:List (Q3))(bu:List (Q3)):Option (List (Q3)×Unit) :=
  (some ((bu,())))
theorem yDh(n:Nat)(hn:big<=n)(b8:List (Q3))(bu:List (Q3))(hx:List.length (b8) < lenMax):LeF some (yM (λ af aC a7=>yGw b8 af aC a7) (λ a7=>yJT b8 a7) 0 (b8) bu) (y79 n n b8 (List.length (b8):Int) 0 bu):=by
  refine yQ (f:=some) (W:=λ aJ af a7=>y79 n aJ b8 (List.length (b8):Int) af a7) (body:=(λ af aC a7=>yGw b8 af aC a7)) (fin:=(λ a7=>yJT b8 a7)) (λ aJ af a7=>?_) hx bu n (by unfold big at hn;unfold lenMax at hx;omega)
  show LeF _ _ (yGT n (y79 n aJ) b8 (List.length (b8):Int) af a7)
  exact y6 (y8 λ v1=>(y6 (y7 rfl) yq)) (yr (y7 rfl))
def yIJ(l:List (Q3)):Option (List (Q3)×Unit) :=
  (bif decide (List.length (l) < lenMax)then yM (λ af aC a7=>yGw (l) af aC a7) (λ a7=>yJT (l) a7) 0 (l) ([])else none)
theorem yU6(l:List (Q3))(y:List (Q3)×Unit)(h:yIJ l=some y):∃ n,yM8 n l=some y :=
  ⟨big,LeF.top (show LeF some (yIJ l) (yM8 big l)from (λ (n:Nat) (hn:big<=n)=>show LeF some (yIJ l) (yM8 n l)from (yN λ hx=>by apply yDh n hn;exact hx)) big (Nat.le_refl _)) h⟩
def z0t_e:Entry:={ f:=33,args:=yTt,ress:=yYo,m:=λ x=>yIJ x.1 }
theorem yZy:FnOK Tryz.prog z0t_e:=yJ (g:=yaE) (fn:=Tryz.f33) yC yI eNil (by kernel_rfl) (by kernel_rfl) (by kernel_rfl) (λ x y h=>let ⟨n,hn⟩:=yU6 x.1 y h;⟨yOg n,iNil,(yWH n x).trans hn⟩)
abbrev yUl:Ty:=.pair t33 .unit
abbrev ybj:Ty:=.pair t25 .unit
def yc4:G:={ T:=T,E:=[],muts:=[3,10],fz:=[] }
def yfZ:List (List Nat):=[[2,3,12,13,14]]
def yOx(n:Nat):Ann:={ keep:=yfZ,fuel:=n,inl:=[],deep:=0 }
def yFT(n:Nat)(r0:List (Q3)->Int->Int->Int->List (Q4)->Int->List (Q3)->Option ((Q2)×Unit))(bx:List (Q3))(bQ:Int)(av:Int)(cc:Int)(a8:List (Q4))(bS:Int)(cp:List (Q3)):Option ((Q2)×Unit) :=
  (bif decide (av < bQ)then (Option.bind (idx bx av) λ v1=>(bif decide (cp.length+(1:Nat)<=memMax)then r0 bx bQ (IntKind.i64.wrap (av+1)) cc a8 bS (cp++[(v1.1,v1.2.1,v1.2.2.1,())])else none))else some ((cp,a8,bS,()),()))
def y6o(n:Nat)(k:Nat)(bx:List (Q3))(bQ:Int)(av:Int)(cc:Int)(a8:List (Q4))(bS:Int)(cp:List (Q3)):Option ((Q2)×Unit) :=
  iter (λ r y=>yFT n (λ bx bQ av cc a8 bS cp=>r ((bx,(bQ,(av,()))),(((cc,()),((a8,(bS,())),(cp,()))),()))) y.1.1 y.1.2.1 y.1.2.2.1 y.2.1.1.1 y.2.1.2.1.1 y.2.1.2.1.2.1 y.2.1.2.2.1) k ((bx,(bQ,(av,()))),(((cc,()),((a8,(bS,())),(cp,()))),()))
def yON(n:Nat)(t:Q2):Option ((Q2)×Unit) :=
  (y6o n n (t.1) ((↑t.1.length:Int)) ((0:Int)) ((0:Int)) (t.2.1) (t.2.2.1) ([]))
theorem yWn(n:Nat)(x:yUl.den):runF yc4 (yOx n) Tryz.f39 yUl ybj x=yON n x.1:=by kernel_rfl
def yFh(bx:List (Q3))(cc:Int)(a8:List (Q4))(bS:Int)(av:Int)(v1:Q3)(cp:List (Q3)):Option (((Q2)×Unit)⊕(List (Q3))) :=
  (bif decide (cp.length+(1:Nat)<=memMax)then (some (Sum.inr (cp++[(v1.1,v1.2.1,v1.2.2.1,())])))else none)
def yKI(bx:List (Q3))(cc:Int)(a8:List (Q4))(bS:Int)(cp:List (Q3)):Option ((Q2)×Unit) :=
  (some (((cp,a8,bS,()),())))
theorem yEL(n:Nat)(hn:big<=n)(bx:List (Q3))(cc:Int)(a8:List (Q4))(bS:Int)(cp:List (Q3))(hx:List.length (bx) < lenMax):LeF some (yM (λ af aC a7=>yFh bx cc a8 bS af aC a7) (λ a7=>yKI bx cc a8 bS a7) 0 (bx) cp) (y6o n n bx (List.length (bx):Int) 0 cc a8 bS cp):=by
  refine yQ (f:=some) (W:=λ aJ af a7=>y6o n aJ bx (List.length (bx):Int) af cc a8 bS a7) (body:=(λ af aC a7=>yFh bx cc a8 bS af aC a7)) (fin:=(λ a7=>yKI bx cc a8 bS a7)) (λ aJ af a7=>?_) hx cp n (by unfold big at hn;unfold lenMax at hx;omega)
  show LeF _ _ (yFT n (y6o n aJ) bx (List.length (bx):Int) af cc a8 bS a7)
  exact y6 (y8 λ v1=>(y6 (y7 rfl) yq)) (yr (y7 rfl))
def yCf(t:Q2):Option ((Q2)×Unit) :=
  (bif decide (List.length (t.1) < lenMax)then yM (λ af aC a7=>yFh (t.1) ((0:Int)) (t.2.1) (t.2.2.1) af aC a7) (λ a7=>yKI (t.1) ((0:Int)) (t.2.1) (t.2.2.1) a7) 0 (t.1) ([])else none)
theorem yTa(t:Q2)(y:(Q2)×Unit)(h:yCf t=some y):∃ n,yON n t=some y :=
  ⟨big,LeF.top (show LeF some (yCf t) (yON big t)from (λ (n:Nat) (hn:big<=n)=>show LeF some (yCf t) (yON n t)from (yN λ hx=>by apply yEL n hn;exact hx)) big (Nat.le_refl _)) h⟩
def z0v_e:Entry:={ f:=39,args:=yUl,ress:=ybj,m:=λ x=>yCf x.1 }
theorem yaX:FnOK Tryz.prog z0v_e:=yJ (g:=yc4) (fn:=Tryz.f39) yC yI eNil (by kernel_rfl) (by kernel_rfl) (by kernel_rfl) (λ x y h=>let ⟨n,hn⟩:=yTa x.1 y h;⟨yOx n,iNil,(yWn n x).trans hn⟩)
abbrev ze_a:Ty:=.pair t3 (.pair t3 (.pair t3 .unit))
abbrev ze_r:Ty:=.pair t3 .unit
def ze_g:G:={ T:=T,E:=[],muts:=[],fz:=[] }
def ze_k:List (List Nat):=[]
def yXs(n:Nat):Ann:={ keep:=ze_k,fuel:=n,inl:=[],deep:=0 }
def ze_m(n:Nat)(n1:Int)(low:Int)(high:Int):Option (Int×Unit) :=
  (bif decide (n1 < low)then some ((3:Int),())else (bif decide (n1 > high)then some ((3:Int),())else some ((0:Int),())))
theorem yd6(n:Nat)(x:ze_a.den):runF ze_g (yXs n) Tryz.f44 ze_a ze_r x=ze_m n x.1 x.2.1 x.2.2.1:=by kernel_rfl
def ze(n1:Int)(low:Int)(high:Int):(Int×Unit) :=
  (bif decide (n1 < low)then ((3:Int),())else (bif decide (n1 > high)then ((3:Int),())else ((0:Int),())))
abbrev ze_M (n1:Int) (low:Int) (high:Int):Option (Int×Unit):=some (ze n1 low high)
theorem yWr(n1:Int)(low:Int)(high:Int)(y:Int×Unit)(h:ze_M n1 low high=some y):∃ n,ze_m n n1 low high=some y :=
  ⟨0,by rw[<- h];show ze_m 0 n1 low high=some (ze n1 low high);unfold ze_m ze;first|rfl|(simp only[yG];done)|(simp only[yG];rfl)⟩
def ze_e:Entry:={ f:=44,args:=ze_a,ress:=ze_r,m:=λ x=>ze_M x.1 x.2.1 x.2.2.1 }
theorem ycE:FnOK Tryz.prog ze_e:=yJ (g:=ze_g) (fn:=Tryz.f44) yC yI eNil (by kernel_rfl) (by kernel_rfl) (by kernel_rfl) (λ x y h=>let ⟨n,hn⟩:=yWr x.1 x.2.1 x.2.2.1 y h;⟨yXs n,iNil,(yd6 n x).trans hn⟩)
abbrev yTA:Ty:=.pair t69 (.pair t28 (.pair t3 (.pair t69 .unit)))
abbrev yap:Ty:=.pair t4 .unit
def yam:G:={ T:=T,E:=[],muts:=[],fz:=[] }
def yep:List (List Nat):=[]
def yQJ(n:Nat):Ann:={ keep:=yep,fuel:=n,inl:=[],deep:=0 }
def yNK(n:Nat)(p0:Q4)(e:Int)(bad:Int)(want:Q4):Option (Bool×Unit) :=
  (bif e==bad then (bif bad != 0 then (bif eqV ((Ty.int IntKind.i64).pair ((Ty.int IntKind.i64).pair Ty.unit)) p0 ((0:Int),(0:Int),())then some (Bool.true,())else (bif bad==0 then some (eqV ((Ty.int IntKind.i64).pair ((Ty.int IntKind.i64).pair Ty.unit)) p0 want,())else some (Bool.false,())))else (bif bad==0 then some (eqV ((Ty.int IntKind.i64).pair ((Ty.int IntKind.i64).pair Ty.unit)) p0 want,())else some (Bool.false,())))else some (Bool.false,()))
theorem yZl(n:Nat)(x:yTA.den):runF yam (yQJ n) Tryz.f52 yTA yap x=yNK n x.1 x.2.1 x.2.2.1 x.2.2.2.1:=by kernel_rfl
def z0Z(p0:Q4)(e:Int)(bad:Int)(want:Q4):(Bool×Unit) :=
  (bif e==bad then (bif bad != 0 then (bif eqV ((Ty.int IntKind.i64).pair ((Ty.int IntKind.i64).pair Ty.unit)) p0 ((0:Int),(0:Int),())then (Bool.true,())else (bif bad==0 then (eqV ((Ty.int IntKind.i64).pair ((Ty.int IntKind.i64).pair Ty.unit)) p0 want,())else (Bool.false,())))else (bif bad==0 then (eqV ((Ty.int IntKind.i64).pair ((Ty.int IntKind.i64).pair Ty.unit)) p0 want,())else (Bool.false,())))else (Bool.false,()))
abbrev ycY (p0:Q4) (e:Int) (bad:Int) (want:Q4):Option (Bool×Unit):=some (z0Z p0 e bad want)
theorem yRG(p0:Q4)(e:Int)(bad:Int)(want:Q4)(y:Bool×Unit)(h:ycY p0 e bad want=some y):∃ n,yNK n p0 e bad want=some y :=
  ⟨0,by rw[<- h];show yNK 0 p0 e bad want=some (z0Z p0 e bad want);unfold yNK z0Z;first|rfl|(simp only[yG];done)|(simp only[yG];rfl)⟩
def z0Z_e:Entry:={ f:=52,args:=yTA,ress:=yap,m:=λ x=>ycY x.1 x.2.1 x.2.2.1 x.2.2.2.1 }
theorem yWM:FnOK Tryz.prog z0Z_e:=yJ (g:=yam) (fn:=Tryz.f52) yC yI eNil (by kernel_rfl) (by kernel_rfl) (by kernel_rfl) (λ x y h=>let ⟨n,hn⟩:=yRG x.1 x.2.1 x.2.2.1 x.2.2.2.1 y h;⟨yQJ n,iNil,(yZl n x).trans hn⟩)
abbrev zz_a:Ty:=.pair t79 (.pair t79 .unit)
abbrev zz_r:Ty:=.pair t4 .unit
def zz_g:G:={ T:=T,E:=[],muts:=[],fz:=[] }
def zz_k:List (List Nat):=[[0,1,5]]
def yZB(n:Nat):Ann:={ keep:=zz_k,fuel:=n,inl:=[],deep:=0 }
def yLV(n:Nat)(r0:List (Nat×Nat)->List (Nat×Nat)->Int->Option (Bool×Unit))(aE:List (Nat×Nat))(aI:List (Nat×Nat))(aH:Int):Option (Bool×Unit) :=
  (bif decide (aH < (↑aE.length:Int))then (Option.bind (idx aE aH) λ v1=>(Option.bind (idx aI aH) λ v2=>(bif !y9L Go.FloatKind.f32 v1 v2 then some (Bool.false,())else r0 aE aI (IntKind.i64.wrap (aH+1)))))else some (Bool.true,()))
def yBB(n:Nat)(k:Nat)(aE:List (Nat×Nat))(aI:List (Nat×Nat))(aH:Int):Option (Bool×Unit) :=
  iter (λ r y=>yLV n (λ aE aI aH=>r ((aE,(aI,(aH,()))),((),()))) y.1.1 y.1.2.1 y.1.2.2.1) k ((aE,(aI,(aH,()))),((),()))
def zz_m(n:Nat)(a:List (Nat×Nat))(b:List (Nat×Nat)):Option (Bool×Unit) :=
  (bif (↑a.length:Int) != (↑b.length:Int)then some (Bool.false,())else (yBB n n (a) (b) ((0:Int))))
theorem ydG(n:Nat)(x:zz_a.den):runF zz_g (yZB n) Tryz.f53 zz_a zz_r x=zz_m n x.1 x.2.1:=by kernel_rfl
def yUh(aE:List (Nat×Nat))(aI:List (Nat×Nat))(aH:Int)(v1:Nat×Nat):Option ((Bool×Unit)⊕Unit) :=
  (Option.bind (idx aI aH) λ v2=>(bif !y9L Go.FloatKind.f32 v1 v2 then (some (Sum.inl ((Bool.false,()))))else (some (Sum.inr ()))))
def ySm(aE:List (Nat×Nat))(aI:List (Nat×Nat)):Option (Bool×Unit) :=
  (some ((Bool.true,())))
theorem yIY(n:Nat)(hn:big<=n)(aE:List (Nat×Nat))(aI:List (Nat×Nat))(hx:List.length (aE) < lenMax):LeF some (yM (λ af aC a7=>yUh aE aI af aC) (λ a7=>ySm aE aI) 0 (aE) ()) (yBB n n aE aI 0):=by
  refine yQ (f:=some) (W:=λ aJ af a7=>yBB n aJ aE aI af) (body:=(λ af aC a7=>yUh aE aI af aC)) (fin:=(λ a7=>ySm aE aI)) (λ aJ af a7=>?_) hx () n (by unfold big at hn;unfold lenMax at hx;omega)
  show LeF _ _ (yLV n (yBB n aJ) aE aI af)
  exact y6 (y8 λ v1=>(y8 λ v2=>(y6 (y7 rfl) (y7 rfl)))) (yr (y7 rfl))
def zz_M(a:List (Nat×Nat))(b:List (Nat×Nat)):Option (Bool×Unit) :=
  (bif (↑a.length:Int) != (↑b.length:Int)then (some ((Bool.false,())))else (bif decide (List.length (a) < lenMax)then yM (λ af aC a7=>yUh (a) (b) af aC) (λ a7=>ySm (a) (b)) 0 (a) ()else none))
theorem yXV(a:List (Nat×Nat))(b:List (Nat×Nat))(y:Bool×Unit)(h:zz_M a b=some y):∃ n,zz_m n a b=some y :=
  ⟨big,LeF.top (show LeF some (zz_M a b) (zz_m big a b)from (λ (n:Nat) (hn:big<=n)=>show LeF some (zz_M a b) (zz_m n a b)from (y6 (y7 rfl) (yN λ hx=>by apply yIY n hn;exact hx))) big (Nat.le_refl _)) h⟩
def zz_e:Entry:={ f:=53,args:=zz_a,ress:=zz_r,m:=λ x=>zz_M x.1 x.2.1 }
theorem yeA:FnOK Tryz.prog zz_e:=yJ (g:=zz_g) (fn:=Tryz.f53) yC yI eNil (by kernel_rfl) (by kernel_rfl) (by kernel_rfl) (λ x y h=>let ⟨n,hn⟩:=yXV x.1 x.2.1 y h;⟨yZB n,iNil,(ydG n x).trans hn⟩)
abbrev yUq:Ty:=.pair t94 .unit
abbrev yWV:Ty:=.pair t60 .unit
def ybR:G:={ T:=T,E:=[],muts:=[7,11],fz:=[] }
def yfE:List (List Nat):=[]
def yPE(n:Nat):Ann:={ keep:=yfE,fuel:=n,inl:=[],deep:=0 }
def yMo(n:Nat)(r1:Q1):Option ((Q1)×Unit) :=
  (bif decide ((0:Nat)+r1.2.2.1.length<=memMax)then (bif decide ((0:Nat)+r1.2.2.2.1.length<=memMax)then some ((r1.1,r1.2.1,r1.2.2.1,r1.2.2.2.1,()),())else none)else none)
theorem yYm(n:Nat)(x:yUq.den):runF ybR (yPE n) Tryz.f56 yUq yWV x=yMo n x.1:=by kernel_rfl
def yLx(r1:Q1):Option ((Q1)×Unit):=yMo 0 r1
theorem yQh(r1:Q1)(y:(Q1)×Unit)(h:yLx r1=some y):∃ n,yMo n r1=some y:=⟨0,h⟩
def z0H_e:Entry:={ f:=56,args:=yUq,ress:=yWV,m:=λ x=>yLx x.1 }
theorem yb3:FnOK Tryz.prog z0H_e:=yJ (g:=ybR) (fn:=Tryz.f56) yC yI eNil (by kernel_rfl) (by kernel_rfl) (by kernel_rfl) (λ x y h=>let ⟨n,hn⟩:=yQh x.1 y h;⟨yPE n,iNil,(yYm n x).trans hn⟩)
abbrev zr_a:Ty:=.pair t100 (.pair t100 .unit)
abbrev zr_r:Ty:=.pair t4 .unit
def zr_g:G:={ T:=T,E:=[],muts:=[],fz:=[] }
def zr_k:List (List Nat):=[[0,1,5]]
def yYg(n:Nat):Ann:={ keep:=zr_k,fuel:=n,inl:=[],deep:=0 }
def ySI(n:Nat)(r0:List (List Int)->List (List Int)->Int->Option (Bool×Unit))(aE:List (List Int))(aI:List (List Int))(aH:Int):Option (Bool×Unit) :=
  (bif decide (aH < (↑aE.length:Int))then (Option.bind (idx aE aH) λ v1=>(Option.bind (idx aI aH) λ v2=>(bif !eqV (Ty.arr (2:Nat) (Ty.int IntKind.i64)) v1 v2 then some (Bool.false,())else r0 aE aI (IntKind.i64.wrap (aH+1)))))else some (Bool.true,()))
def yS4(n:Nat)(k:Nat)(aE:List (List Int))(aI:List (List Int))(aH:Int):Option (Bool×Unit) :=
  iter (λ r y=>ySI n (λ aE aI aH=>r ((aE,(aI,(aH,()))),((),()))) y.1.1 y.1.2.1 y.1.2.2.1) k ((aE,(aI,(aH,()))),((),()))
def zr_m(n:Nat)(a:List (List Int))(b:List (List Int)):Option (Bool×Unit) :=
  (bif (↑a.length:Int) != (↑b.length:Int)then some (Bool.false,())else (yS4 n n (a) (b) ((0:Int))))
theorem ydb(n:Nat)(x:zr_a.den):runF zr_g (yYg n) Tryz.f66 zr_a zr_r x=zr_m n x.1 x.2.1:=by kernel_rfl
def zr_M(a:List (List Int))(b:List (List Int)):Option (Bool×Unit):=zr_m 1000 a b
theorem yVg(a:List (List Int))(b:List (List Int))(y:Bool×Unit)(h:zr_M a b=some y):∃ n,zr_m n a b=some y:=⟨1000,h⟩
def zr_e:Entry:={ f:=66,args:=zr_a,ress:=zr_r,m:=λ x=>zr_M x.1 x.2.1 }
theorem yew:FnOK Tryz.prog zr_e:=yJ (g:=zr_g) (fn:=Tryz.f66) yC yI eNil (by kernel_rfl) (by kernel_rfl) (by kernel_rfl) (λ x y h=>let ⟨n,hn⟩:=yVg x.1 x.2.1 y h;⟨yYg n,iNil,(ydb n x).trans hn⟩)
abbrev zx_a:Ty:=.pair t41 (.pair t41 .unit)
abbrev zx_r:Ty:=.pair t4 .unit
def zx_g:G:={ T:=T,E:=[],muts:=[],fz:=[] }
def zx_k:List (List Nat):=[[0,1,5]]
def yXo(n:Nat):Ann:={ keep:=zx_k,fuel:=n,inl:=[],deep:=0 }
def ySW(n:Nat)(r0:List Int->List Int->Int->Option (Bool×Unit))(aE:List Int)(aI:List Int)(aH:Int):Option (Bool×Unit) :=
  (bif decide (aH < (↑aE.length:Int))then (Option.bind (idx aE aH) λ v1=>(Option.bind (idx aI aH) λ v2=>(bif v1 != v2 then some (Bool.false,())else r0 aE aI (IntKind.i64.wrap (aH+1)))))else some (Bool.true,()))
def yTH(n:Nat)(k:Nat)(aE:List Int)(aI:List Int)(aH:Int):Option (Bool×Unit) :=
  iter (λ r y=>ySW n (λ aE aI aH=>r ((aE,(aI,(aH,()))),((),()))) y.1.1 y.1.2.1 y.1.2.2.1) k ((aE,(aI,(aH,()))),((),()))
def zx_m(n:Nat)(a:List Int)(b:List Int):Option (Bool×Unit) :=
  (bif (↑a.length:Int) != (↑b.length:Int)then some (Bool.false,())else (yTH n n (a) (b) ((0:Int))))
theorem yf2(n:Nat)(x:zx_a.den):runF zx_g (yXo n) Tryz.f75 zx_a zx_r x=zx_m n x.1 x.2.1:=by kernel_rfl
def zx_M(a:List Int)(b:List Int):Option (Bool×Unit):=zx_m 1000 a b
theorem yaa(a:List Int)(b:List Int)(y:Bool×Unit)(h:zx_M a b=some y):∃ n,zx_m n a b=some y:=⟨1000,h⟩
def zx_e:Entry:={ f:=75,args:=zx_a,ress:=zx_r,m:=λ x=>zx_M x.1 x.2.1 }
theorem yeg:FnOK Tryz.prog zx_e:=yJ (g:=zx_g) (fn:=Tryz.f75) yC yI eNil (by kernel_rfl) (by kernel_rfl) (by kernel_rfl) (λ x y h=>let ⟨n,hn⟩:=yaa x.1 x.2.1 y h;⟨yXo n,iNil,(yf2 n x).trans hn⟩)
abbrev zi_a:Ty:=.pair t61 .unit
abbrev zi_r:Ty:=.pair t3 .unit
def zi_g:G:={ T:=T,E:=[],muts:=[],fz:=[] }
def zi_k:List (List Nat):=[]
def yXJ(n:Nat):Ann:={ keep:=zi_k,fuel:=n,inl:=[],deep:=0 }
def zi_m(n:Nat)(x1:Nat):Option (Int×Unit) :=
  (Option.bind (y1f Go.FloatKind.f32 x1 Go.FloatKind.f64) λ v0=>(Option.bind (yo Go.FloatKind.f64 (y0A Go.BinOp.mul Go.FloatKind.f64 (nat_lit 4625196817309499392) v0) IntKind.i64) λ v1=>some (v1,())))
theorem ydE(n:Nat)(x:zi_a.den):runF zi_g (yXJ n) Tryz.f78 zi_a zi_r x=zi_m n x.1:=by kernel_rfl
def zi_M(x1:Nat):Option (Int×Unit):=zi_m 0 x1
theorem yVF(x1:Nat)(y:Int×Unit)(h:zi_M x1=some y):∃ n,zi_m n x1=some y:=⟨0,h⟩
def zi_e:Entry:={ f:=78,args:=zi_a,ress:=zi_r,m:=λ x=>zi_M x.1 }
theorem yeI:FnOK Tryz.prog zi_e:=yJ (g:=zi_g) (fn:=Tryz.f78) yC yI eNil (by kernel_rfl) (by kernel_rfl) (by kernel_rfl) (λ x y h=>let ⟨n,hn⟩:=yVF x.1 y h;⟨yXJ n,iNil,(ydE n x).trans hn⟩)
abbrev yRT:Ty:=.pair t57 (.pair t57 .unit)
abbrev yWW:Ty:=.pair t57 .unit
def yaH:G:={ T:=T,E:=[],muts:=[],fz:=[] }
def yeG:List (List Nat):=[]
def yPp(n:Nat):Ann:={ keep:=yeG,fuel:=n,inl:=[],deep:=0 }
def yNW(n:Nat)(a:Q4)(b:Q4):Option ((Q4)×Unit) :=
  some ((IntKind.i64.wrap (IntKind.i64.wrap (a.1 * b.1) - IntKind.i64.wrap (a.2.1 * b.2.1)),IntKind.i64.wrap (IntKind.i64.wrap (a.1 * b.2.1)+IntKind.i64.wrap (a.2.1 * b.1)),()),())
theorem yah(n:Nat)(x:yRT.den):runF yaH (yPp n) Tryz.f80 yRT yWW x=yNW n x.1 x.2.1:=by kernel_rfl
def z0b(a:Q4)(b:Q4):((Q4)×Unit) :=
  ((IntKind.i64.wrap (IntKind.i64.wrap (a.1 * b.1) - IntKind.i64.wrap (a.2.1 * b.2.1)),IntKind.i64.wrap (IntKind.i64.wrap (a.1 * b.2.1)+IntKind.i64.wrap (a.2.1 * b.1)),()),())
abbrev yVp (a:Q4) (b:Q4):Option ((Q4)×Unit):=some (z0b a b)
theorem yU8(a:Q4)(b:Q4)(y:(Q4)×Unit)(h:yVp a b=some y):∃ n,yNW n a b=some y :=
  ⟨0,by rw[<- h];show yNW 0 a b=some (z0b a b);unfold yNW z0b;first|rfl|(simp only[yG];done)|(simp only[yG];rfl)⟩
def z0b_e:Entry:={ f:=80,args:=yRT,ress:=yWW,m:=λ x=>yVp x.1 x.2.1 }
theorem yG2:FnOK Tryz.prog z0b_e:=yJ (g:=yaH) (fn:=Tryz.f80) yC yI eNil (by kernel_rfl) (by kernel_rfl) (by kernel_rfl) (λ x y h=>let ⟨n,hn⟩:=yU8 x.1 x.2.1 y h;⟨yPp n,iNil,(yah n x).trans hn⟩)
abbrev yUA:Ty:=.pair t57 (.pair t57 .unit)
abbrev yZp:Ty:=.pair t57 .unit
def yVu:G:={ T:=T,E:=[],muts:=[],fz:=[] }
def yeO:List (List Nat):=[]
def yPh(n:Nat):Ann:={ keep:=yeO,fuel:=n,inl:=[],deep:=0 }
def yMS(n:Nat)(a:Q4)(b:Q4):Option ((Q4)×Unit) :=
  some ((IntKind.i64.wrap (a.1+b.1),IntKind.i64.wrap (a.2.1+b.2.1),()),())
theorem yYl(n:Nat)(x:yUA.den):runF yVu (yPh n) Tryz.f82 yUA yZp x=yMS n x.1 x.2.1:=by kernel_rfl
def z10(a:Q4)(b:Q4):((Q4)×Unit) :=
  ((IntKind.i64.wrap (a.1+b.1),IntKind.i64.wrap (a.2.1+b.2.1),()),())
abbrev yVL (a:Q4) (b:Q4):Option ((Q4)×Unit):=some (z10 a b)
theorem yV8(a:Q4)(b:Q4)(y:(Q4)×Unit)(h:yVL a b=some y):∃ n,yMS n a b=some y :=
  ⟨0,by rw[<- h];show yMS 0 a b=some (z10 a b);unfold yMS z10;first|rfl|(simp only[yG];done)|(simp only[yG];rfl)⟩
def z10_e:Entry:={ f:=82,args:=yUA,ress:=yZp,m:=λ x=>yVL x.1 x.2.1 }
theorem yKg:FnOK Tryz.prog z10_e:=yJ (g:=yVu) (fn:=Tryz.f82) yC yI eNil (by kernel_rfl) (by kernel_rfl) (by kernel_rfl) (λ x y h=>let ⟨n,hn⟩:=yV8 x.1 x.2.1 y h;⟨yPh n,iNil,(yYl n x).trans hn⟩)
abbrev zp_a:Ty:=.pair t57 .unit
abbrev zp_r:Ty:=.pair t57 .unit
def zp_g:G:={ T:=T,E:=[],muts:=[],fz:=[] }
def zp_k:List (List Nat):=[]
def yc5(n:Nat):Ann:={ keep:=zp_k,fuel:=n,inl:=[],deep:=0 }
def zp_m(n:Nat)(a:Q4):Option ((Q4)×Unit) :=
  some ((a.1,IntKind.i64.wrap ((0:Int) - a.2.1),()),())
theorem yd0(n:Nat)(x:zp_a.den):runF zp_g (yc5 n) Tryz.f83 zp_a zp_r x=zp_m n x.1:=by kernel_rfl
def zp(a:Q4):((Q4)×Unit) :=
  ((a.1,IntKind.i64.wrap ((0:Int) - a.2.1),()),())
abbrev zp_M (a:Q4):Option ((Q4)×Unit):=some (zp a)
theorem yXn(a:Q4)(y:(Q4)×Unit)(h:zp_M a=some y):∃ n,zp_m n a=some y :=
  ⟨0,by rw[<- h];show zp_m 0 a=some (zp a);unfold zp_m zp;first|rfl|(simp only[yG];done)|(simp only[yG];rfl)⟩
def zp_e:Entry:={ f:=83,args:=zp_a,ress:=zp_r,m:=λ x=>zp_M x.1 }
theorem ySS:FnOK Tryz.prog zp_e:=yJ (g:=zp_g) (fn:=Tryz.f83) yC yI eNil (by kernel_rfl) (by kernel_rfl) (by kernel_rfl) (λ x y h=>let ⟨n,hn⟩:=yXn x.1 y h;⟨yc5 n,iNil,(yd0 n x).trans hn⟩)
abbrev yQn:Ty:=.pair t58 .unit
abbrev yZ4:Ty:=.pair t60 .unit
def yc8:G:={ T:=T,E:=[],muts:=[],fz:=[] }
def ydh:List (List Nat):=[]
def yPI(n:Nat):Ann:={ keep:=ydh,fuel:=n,inl:=[],deep:=0 }
def yMr(n:Nat)(gaps:List (Q4)):Option ((Q1)×Unit) :=
  some (([(103:UInt8)],(0:Int),[nat_lit 1065353216,nat_lit 0,nat_lit 3212836864,nat_lit 0],gaps,()),())
theorem yXu(n:Nat)(x:yQn.den):runF yc8 (yPI n) Tryz.f102 yQn yZ4 x=yMr n x.1:=by kernel_rfl
def z0w(gaps:List (Q4)):((Q1)×Unit) :=
  (([(103:UInt8)],(0:Int),[nat_lit 1065353216,nat_lit 0,nat_lit 3212836864,nat_lit 0],gaps,()),())
abbrev yVi (gaps:List (Q4)):Option ((Q1)×Unit):=some (z0w gaps)
theorem yRQ(gaps:List (Q4))(y:(Q1)×Unit)(h:yVi gaps=some y):∃ n,yMr n gaps=some y :=
  ⟨0,by rw[<- h];show yMr 0 gaps=some (z0w gaps);unfold yMr z0w;first|rfl|(simp only[yG];done)|(simp only[yG];rfl)⟩
def z0w_e:Entry:={ f:=102,args:=yQn,ress:=yZ4,m:=λ x=>yVi x.1 }
theorem yX2:FnOK Tryz.prog z0w_e:=yJ (g:=yc8) (fn:=Tryz.f102) yC yI eNil (by kernel_rfl) (by kernel_rfl) (by kernel_rfl) (λ x y h=>let ⟨n,hn⟩:=yRQ x.1 y h;⟨yPI n,iNil,(yXu n x).trans hn⟩)
abbrev yUX:Ty:=.pair t9 .unit
abbrev ybZ:Ty:=.pair t31 .unit
def yXF:G:={ T:=T,E:=[],muts:=[3],fz:=[] }
def yd9:List (List Nat):=[[3,8]]
def yPr(n:Nat):Ann:={ keep:=yd9,fuel:=n,inl:=[],deep:=0 }
def yNa(n:Nat)(r0:List (Q3)->List UInt8->Int->Option (List (Q3)×Unit))(bu:List (Q3))(str1__0:List UInt8)(pos1__0:Int):Option (List (Q3)×Unit) :=
  (bif decide (pos1__0 < (↑str1__0.length:Int))then (bif (yf str1__0 pos1__0).1==72 then (bif decide (bu.length+(1:Nat)<=memMax)then r0 (bu++[(y3m (yf str1__0 pos1__0).1,(1:Int),(2:Int),())]) str1__0 (yf str1__0 pos1__0).2 else none)else (bif (yf str1__0 pos1__0).1==81 then (bif decide (bu.length+(1:Nat)<=memMax)then r0 (bu++[(y3m (yf str1__0 pos1__0).1,(1:Int),(1:Int),())]) str1__0 (yf str1__0 pos1__0).2 else none)else (bif (yf str1__0 pos1__0).1==82 then (bif decide (bu.length+(1:Nat)<=memMax)then r0 (bu++[(y3m (yf str1__0 pos1__0).1,(1:Int),(3:Int),())]) str1__0 (yf str1__0 pos1__0).2 else none)else (bif decide (bu.length+(1:Nat)<=memMax)then r0 (bu++[(y3m (yf str1__0 pos1__0).1,(1:Int),(0:Int),())]) str1__0 (yf str1__0 pos1__0).2 else none))))else some (bu,()))
def yLw(n:Nat)(k:Nat)(bu:List (Q3))(str1__0:List UInt8)(pos1__0:Int):Option (List (Q3)×Unit) :=
  iter (λ r y=>yNa n (λ bu str1__0 pos1__0=>r ((),((bu,((str1__0,pos1__0),())),()))) y.2.1.1 y.2.1.2.1.1 y.2.1.2.1.2) k ((),((bu,((str1__0,pos1__0),())),()))
def yRO(n:Nat)(names:List UInt8):Option (List (Q3)×Unit) :=
  (yLw n n ([]) (names) ((0:Int)))
theorem yZd(n:Nat)(x:yUX.den):runF yXF (yPr n) Tryz.f103 yUX ybZ x=yRO n x.1:=by kernel_rfl
def y61(names:List UInt8):Option (List (Q3)×Unit):=yRO 1000 names
theorem ySe(names:List UInt8)(y:List (Q3)×Unit)(h:y61 names=some y):∃ n,yRO n names=some y:=⟨1000,h⟩
def z0Y_e:Entry:={ f:=103,args:=yUX,ress:=ybZ,m:=λ x=>y61 x.1 }
theorem yZI:FnOK Tryz.prog z0Y_e:=yJ (g:=yXF) (fn:=Tryz.f103) yC yI eNil (by kernel_rfl) (by kernel_rfl) (by kernel_rfl) (λ x y h=>let ⟨n,hn⟩:=ySe x.1 y h;⟨yPr n,iNil,(yZd n x).trans hn⟩)
abbrev yR4:Ty:=.pair t175 .unit
abbrev yXj:Ty:=.pair t28 .unit
def yZk:G:={ T:=T,E:=[],muts:=[],fz:=[] }
def yfT:List (List Nat):=[[5,6,7]]
def yQQ(n:Nat):Ann:={ keep:=yfT,fuel:=n,inl:=[],deep:=0 }
def yFu(n:Nat)(r0:List Int->Int->Int->Option (Int×Unit))(bw:List Int)(b8:Int)(aR:Int):Option (Int×Unit) :=
  (bif decide (aR < b8)then (Option.bind (idx bw aR) λ v1=>(bif v1 != 0 then some (v1,())else r0 bw b8 (IntKind.i64.wrap (aR+1))))else some ((0:Int),()))
def y6n(n:Nat)(k:Nat)(bw:List Int)(b8:Int)(aR:Int):Option (Int×Unit) :=
  iter (λ r y=>yFu n (λ bw b8 aR=>r ((bw,(b8,(aR,()))),((),()))) y.1.1 y.1.2.1 y.1.2.2.1) k ((bw,(b8,(aR,()))),((),()))
def yNc(n:Nat)(l:List Int):Option (Int×Unit) :=
  (y6n n n (l) ((↑l.length:Int)) ((0:Int)))
theorem yXi(n:Nat)(x:yR4.den):runF yZk (yQQ n) Tryz.f104 yR4 yXj x=yNc n x.1:=by kernel_rfl
def yH3(bw:List Int)(aR:Int)(v1:Int):Option ((Int×Unit)⊕Unit) :=
  (bif v1 != 0 then (some (Sum.inl ((v1,()))))else (some (Sum.inr ())))
def yF9(bw:List Int):Option (Int×Unit) :=
  (some (((0:Int),())))
theorem yDz(n:Nat)(hn:big<=n)(bw:List Int)(hx:List.length (bw) < lenMax):LeF some (yM (λ af aC a7=>yH3 bw af aC) (λ a7=>yF9 bw) 0 (bw) ()) (y6n n n bw (List.length (bw):Int) 0):=by
  refine yQ (f:=some) (W:=λ aJ af a7=>y6n n aJ bw (List.length (bw):Int) af) (body:=(λ af aC a7=>yH3 bw af aC)) (fin:=(λ a7=>yF9 bw)) (λ aJ af a7=>?_) hx () n (by unfold big at hn;unfold lenMax at hx;omega)
  show LeF _ _ (yFu n (y6n n aJ) bw (List.length (bw):Int) af)
  exact y6 (y8 λ v1=>(y6 (y7 rfl) (y7 rfl))) (yr (y7 rfl))
def y2K(l:List Int):Option (Int×Unit) :=
  (bif decide (List.length (l) < lenMax)then yM (λ af aC a7=>yH3 (l) af aC) (λ a7=>yF9 (l)) 0 (l) ()else none)
theorem yUZ(l:List Int)(y:Int×Unit)(h:y2K l=some y):∃ n,yNc n l=some y :=
  ⟨big,LeF.top (show LeF some (y2K l) (yNc big l)from (λ (n:Nat) (hn:big<=n)=>show LeF some (y2K l) (yNc n l)from (yN λ hx=>by apply yDz n hn;exact hx)) big (Nat.le_refl _)) h⟩
def z19_e:Entry:={ f:=104,args:=yR4,ress:=yXj,m:=λ x=>y2K x.1 }
theorem y4X:FnOK Tryz.prog z19_e:=yJ (g:=yZk) (fn:=Tryz.f104) yC yI eNil (by kernel_rfl) (by kernel_rfl) (by kernel_rfl) (λ x y h=>let ⟨n,hn⟩:=yUZ x.1 y h;⟨yQQ n,iNil,(yXi n x).trans hn⟩)
abbrev yTV:Ty:=.pair t3 (.pair t3 .unit)
abbrev ycL:Ty:=.pair t3 .unit
def ybF:G:={ T:=T,E:=[],muts:=[],fz:=[] }
def yed:List (List Nat):=[]
def yQY(n:Nat):Ann:={ keep:=yed,fuel:=n,inl:=[],deep:=0 }
def yT8(n:Nat)(a:Int)(b:Int):Option (Int×Unit) :=
  (bif IntKind.i64.wrap ((2:Int) * b)==0 then none else (bif IntKind.i64.wrap ((2:Int) * b)==0 then none else (bif decide ((IntKind.i64.wrap (IntKind.i64.wrap ((2:Int) * a)+b)).tmod (IntKind.i64.wrap ((2:Int) * b)) < 0)then some (IntKind.i64.wrap (IntKind.i64.wrap ((IntKind.i64.wrap (IntKind.i64.wrap ((2:Int) * a)+b)).tdiv (IntKind.i64.wrap ((2:Int) * b))) - (1:Int)),())else some (IntKind.i64.wrap ((IntKind.i64.wrap (IntKind.i64.wrap ((2:Int) * a)+b)).tdiv (IntKind.i64.wrap ((2:Int) * b))),()))))
theorem yXw(n:Nat)(x:yTV.den):runF ybF (yQY n) Tryz.f107 yTV ycL x=yT8 n x.1 x.2.1:=by kernel_rfl
def ySE(a:Int)(b:Int):Option (Int×Unit):=yT8 0 a b
theorem yRo(a:Int)(b:Int)(y:Int×Unit)(h:ySE a b=some y):∃ n,yT8 n a b=some y:=⟨0,h⟩
def z0T_e:Entry:={ f:=107,args:=yTV,ress:=ycL,m:=λ x=>ySE x.1 x.2.1 }
theorem ybB:FnOK Tryz.prog z0T_e:=yJ (g:=ybF) (fn:=Tryz.f107) yC yI eNil (by kernel_rfl) (by kernel_rfl) (by kernel_rfl) (λ x y h=>let ⟨n,hn⟩:=yRo x.1 x.2.1 y h;⟨yQY n,iNil,(yXw n x).trans hn⟩)
abbrev yTX:Ty:=.pair t3 .unit
abbrev yYO:Ty:=.pair t3 .unit
def ybf:G:={ T:=T,E:=[],muts:=[],fz:=[] }
def yeb:List (List Nat):=[]
def yPx(n:Nat):Ann:={ keep:=yeb,fuel:=n,inl:=[],deep:=0 }
def yOU(n:Nat)(n1:Int):Option (Int×Unit) :=
  some (if IntKind.i64.wrap ((0:Int) - n1) > n1 then IntKind.i64.wrap ((0:Int) - n1)else n1,())
theorem yb9(n:Nat)(x:yTX.den):runF ybf (yPx n) Tryz.f108 yTX yYO x=yOU n x.1:=by kernel_rfl
def z0D(n1:Int):(Int×Unit) :=
  (if IntKind.i64.wrap ((0:Int) - n1) > n1 then IntKind.i64.wrap ((0:Int) - n1)else n1,())
abbrev ybd (n1:Int):Option (Int×Unit):=some (z0D n1)
theorem ySM(n1:Int)(y:Int×Unit)(h:ybd n1=some y):∃ n,yOU n n1=some y :=
  ⟨0,by rw[<- h];show yOU 0 n1=some (z0D n1);unfold yOU z0D;first|rfl|(simp only[yG];done)|(simp only[yG];rfl)⟩
def z0D_e:Entry:={ f:=108,args:=yTX,ress:=yYO,m:=λ x=>ybd x.1 }
theorem yCy:FnOK Tryz.prog z0D_e:=yJ (g:=ybf) (fn:=Tryz.f108) yC yI eNil (by kernel_rfl) (by kernel_rfl) (by kernel_rfl) (λ x y h=>let ⟨n,hn⟩:=ySM x.1 y h;⟨yPx n,iNil,(yb9 n x).trans hn⟩)
abbrev ySV:Ty:=.pair t4 (.pair t28 .unit)
abbrev yZ2:Ty:=.pair t28 .unit
def ycK:G:={ T:=T,E:=[],muts:=[],fz:=[] }
def yfU:List (List Nat):=[]
def yP8(n:Nat):Ann:={ keep:=yfU,fuel:=n,inl:=[],deep:=0 }
def yNH(n:Nat)(holds:Bool)(e:Int):Option (Int×Unit) :=
  (bif holds then some (e,())else some ((0:Int),()))
theorem yYK(n:Nat)(x:ySV.den):runF ycK (yP8 n) Tryz.f113 ySV yZ2 x=yNH n x.1 x.2.1:=by kernel_rfl
def z1N(holds:Bool)(e:Int):(Int×Unit) :=
  (bif holds then (e,())else ((0:Int),()))
abbrev yX0 (holds:Bool) (e:Int):Option (Int×Unit):=some (z1N holds e)
theorem yS7(holds:Bool)(e:Int)(y:Int×Unit)(h:yX0 holds e=some y):∃ n,yNH n holds e=some y :=
  ⟨0,by rw[<- h];show yNH 0 holds e=some (z1N holds e);unfold yNH z1N;first|rfl|(simp only[yG];done)|(simp only[yG];rfl)⟩
def z1N_e:Entry:={ f:=113,args:=ySV,ress:=yZ2,m:=λ x=>yX0 x.1 x.2.1 }
theorem y6M:FnOK Tryz.prog z1N_e:=yJ (g:=ycK) (fn:=Tryz.f113) yC yI eNil (by kernel_rfl) (by kernel_rfl) (by kernel_rfl) (λ x y h=>let ⟨n,hn⟩:=yS7 x.1 x.2.1 y h;⟨yP8 n,iNil,(yYK n x).trans hn⟩)
abbrev zF_a:Ty:=.pair t23 (.pair t177 .unit)
abbrev zF_r:Ty:=.pair t175 .unit
def zF_g:G:={ T:=T,E:=[],muts:=[5],fz:=[] }
def zF_k:List (List Nat):=[[1,5,8,9,10]]
def yWA(n:Nat):Ann:={ keep:=zF_k,fuel:=n,inl:=[],deep:=0 }
def yLd(n:Nat)(r0:((Q4)×Unit->Option (Int×Unit))->List (Q4)->Int->Int->List Int->Option (List Int×Unit))(ae:(Q4)×Unit->Option (Int×Unit))(ac:List (Q4))(aj:Int)(ak:Int)(ah:List Int):Option (List Int×Unit) :=
  (bif decide (ak < aj)then (Option.bind (idx ac ak) λ v1=>(Option.bind (ae ((v1.1,v1.2.1,()),())) λ v2=>(bif decide (ah.length+(1:Nat)<=memMax)then r0 ae ac aj (IntKind.i64.wrap (ak+1)) (ah++[v2.1])else none)))else some (ah,()))
def yAJ(n:Nat)(k:Nat)(ae:(Q4)×Unit->Option (Int×Unit))(ac:List (Q4))(aj:Int)(ak:Int)(ah:List Int):Option (List Int×Unit) :=
  iter (λ r y=>yLd n (λ ae ac aj ak ah=>r ((ae,(ac,(aj,(ak,())))),((ah,()),()))) y.1.1 y.1.2.1 y.1.2.2.1 y.1.2.2.2.1 y.2.1.1) k ((ae,(ac,(aj,(ak,())))),((ah,()),()))
def zF_m(n:Nat)(l:List (Q4))(of:(Q4)×Unit->Option (Int×Unit)):Option (List Int×Unit) :=
  (yAJ n n (of) (l) ((↑l.length:Int)) ((0:Int)) ([]))
theorem yfY(n:Nat)(x:zF_a.den):runF zF_g (yWA n) Tryz.f115 zF_a zF_r x=zF_m n x.1 x.2.1:=by kernel_rfl
def ySz(ae:(Q4)×Unit->Option (Int×Unit))(ac:List (Q4))(ak:Int)(v1:Q4)(ah:List Int):Option ((List Int×Unit)⊕(List Int)) :=
  (Option.bind (ae ((v1.1,v1.2.1,()),())) λ v2=>(bif decide (ah.length+(1:Nat)<=memMax)then (some (Sum.inr (ah++[v2.1])))else none))
def yRr(ae:(Q4)×Unit->Option (Int×Unit))(ac:List (Q4))(ah:List Int):Option (List Int×Unit) :=
  (some ((ah,())))
theorem yHp(n:Nat)(hn:big<=n)(ae:(Q4)×Unit->Option (Int×Unit))(ac:List (Q4))(ah:List Int)(hx:List.length (ac) < lenMax):LeF some (yM (λ af aC a7=>ySz ae ac af aC a7) (λ a7=>yRr ae ac a7) 0 (ac) ah) (yAJ n n ae ac (List.length (ac):Int) 0 ah):=by
  refine yQ (f:=some) (W:=λ aJ af a7=>yAJ n aJ ae ac (List.length (ac):Int) af a7) (body:=(λ af aC a7=>ySz ae ac af aC a7)) (fin:=(λ a7=>yRr ae ac a7)) (λ aJ af a7=>?_) hx ah n (by unfold big at hn;unfold lenMax at hx;omega)
  show LeF _ _ (yLd n (yAJ n aJ) ae ac (List.length (ac):Int) af a7)
  exact y6 (y8 λ v1=>(y8 λ v2=>(y6 (y7 rfl) yq))) (yr (y7 rfl))
def zF_M(l:List (Q4))(of:(Q4)×Unit->Option (Int×Unit)):Option (List Int×Unit) :=
  (bif decide (List.length (l) < lenMax)then yM (λ af aC a7=>ySz (of) (l) af aC a7) (λ a7=>yRr (of) (l) a7) 0 (l) ([])else none)
theorem yaN(l:List (Q4))(of:(Q4)×Unit->Option (Int×Unit))(y:List Int×Unit)(h:zF_M l of=some y):∃ n,zF_m n l of=some y :=
  ⟨big,LeF.top (show LeF some (zF_M l of) (zF_m big l of)from (λ (n:Nat) (hn:big<=n)=>show LeF some (zF_M l of) (zF_m n l of)from (yN λ hx=>by apply yHp n hn;exact hx)) big (Nat.le_refl _)) h⟩
def zF_e:Entry:={ f:=115,args:=zF_a,ress:=zF_r,m:=λ x=>zF_M x.1 x.2.1 }
theorem yXK:FnOK Tryz.prog zF_e:=yJ (g:=zF_g) (fn:=Tryz.f115) yC yI eNil (by kernel_rfl) (by kernel_rfl) (by kernel_rfl) (λ x y h=>let ⟨n,hn⟩:=yaN x.1 x.2.1 y h;⟨yWA n,iNil,(yfY n x).trans hn⟩)
abbrev yV1:Ty:=.pair t57 (.pair t57 .unit)
abbrev yW0:Ty:=.pair t57 .unit
def yXR:G:={ T:=T,E:=[],muts:=[],fz:=[] }
def yeR:List (List Nat):=[]
def yQU(n:Nat):Ann:={ keep:=yeR,fuel:=n,inl:=[],deep:=0 }
def yOF(n:Nat)(a:Q4)(b:Q4):Option ((Q4)×Unit) :=
  some ((IntKind.i64.wrap (IntKind.i64.wrap (a.1 * b.1) - IntKind.i64.wrap (a.2.1 * b.2.1)),IntKind.i64.wrap (IntKind.i64.wrap (a.1 * b.2.1)+IntKind.i64.wrap (a.2.1 * b.1)),()),())
theorem ybX(n:Nat)(x:yV1.den):runF yXR (yQU n) Tryz.f125 yV1 yW0 x=yOF n x.1 x.2.1:=by kernel_rfl
def z1F(a:Q4)(b:Q4):((Q4)×Unit) :=
  ((IntKind.i64.wrap (IntKind.i64.wrap (a.1 * b.1) - IntKind.i64.wrap (a.2.1 * b.2.1)),IntKind.i64.wrap (IntKind.i64.wrap (a.1 * b.2.1)+IntKind.i64.wrap (a.2.1 * b.1)),()),())
abbrev ycR (a:Q4) (b:Q4):Option ((Q4)×Unit):=some (z1F a b)
theorem yS2(a:Q4)(b:Q4)(y:(Q4)×Unit)(h:ycR a b=some y):∃ n,yOF n a b=some y :=
  ⟨0,by rw[<- h];show yOF 0 a b=some (z1F a b);unfold yOF z1F;first|rfl|(simp only[yG];done)|(simp only[yG];rfl)⟩
def z1F_e:Entry:={ f:=125,args:=yV1,ress:=yW0,m:=λ x=>ycR x.1 x.2.1 }
theorem yGG:FnOK Tryz.prog z1F_e:=yJ (g:=yXR) (fn:=Tryz.f125) yC yI eNil (by kernel_rfl) (by kernel_rfl) (by kernel_rfl) (λ x y h=>let ⟨n,hn⟩:=yS2 x.1 x.2.1 y h;⟨yQU n,iNil,(ybX n x).trans hn⟩)
abbrev yR7:Ty:=.pair t57 .unit
abbrev yVy:Ty:=.pair t57 .unit
def ybK:G:={ T:=T,E:=[],muts:=[],fz:=[] }
def ydL:List (List Nat):=[]
def yPJ(n:Nat):Ann:={ keep:=ydL,fuel:=n,inl:=[],deep:=0 }
def yMn(n:Nat)(a:Q4):Option ((Q4)×Unit) :=
  some ((a.1,IntKind.i64.wrap ((0:Int) - a.2.1),()),())
theorem yY7(n:Nat)(x:yR7.den):runF ybK (yPJ n) Tryz.f126 yR7 yVy x=yMn n x.1:=by kernel_rfl
def z05(a:Q4):((Q4)×Unit) :=
  ((a.1,IntKind.i64.wrap ((0:Int) - a.2.1),()),())
abbrev ybG (a:Q4):Option ((Q4)×Unit):=some (z05 a)
theorem yRz(a:Q4)(y:(Q4)×Unit)(h:ybG a=some y):∃ n,yMn n a=some y :=
  ⟨0,by rw[<- h];show yMn 0 a=some (z05 a);unfold yMn z05;first|rfl|(simp only[yG];done)|(simp only[yG];rfl)⟩
def z05_e:Entry:={ f:=126,args:=yR7,ress:=yVy,m:=λ x=>ybG x.1 }
theorem yJL:FnOK Tryz.prog z05_e:=yJ (g:=ybK) (fn:=Tryz.f126) yC yI eNil (by kernel_rfl) (by kernel_rfl) (by kernel_rfl) (λ x y h=>let ⟨n,hn⟩:=yRz x.1 y h;⟨yPJ n,iNil,(yY7 n x).trans hn⟩)
abbrev z7_a:Ty:=.pair t31 (.pair t192 .unit)
abbrev z7_r:Ty:=.pair t31 .unit
def z7_g:G:={ T:=T,E:=[],muts:=[5],fz:=[] }
def z7_k:List (List Nat):=[[1,5,8,9,10]]
def yZH(n:Nat):Ann:={ keep:=z7_k,fuel:=n,inl:=[],deep:=0 }
def yJy(n:Nat)(r0:((Q3)×Unit->Option ((Q3)×Unit))->List (Q3)->Int->Int->List (Q3)->Option (List (Q3)×Unit))(ae:(Q3)×Unit->Option ((Q3)×Unit))(ac:List (Q3))(aj:Int)(ak:Int)(ah:List (Q3)):Option (List (Q3)×Unit) :=
  (bif decide (ak < aj)then (Option.bind (idx ac ak) λ v1=>(Option.bind (ae ((v1.1,v1.2.1,v1.2.2.1,()),())) λ v2=>(bif decide (ah.length+(1:Nat)<=memMax)then r0 ae ac aj (IntKind.i64.wrap (ak+1)) (ah++[v2.1])else none)))else some (ah,()))
def yBF(n:Nat)(k:Nat)(ae:(Q3)×Unit->Option ((Q3)×Unit))(ac:List (Q3))(aj:Int)(ak:Int)(ah:List (Q3)):Option (List (Q3)×Unit) :=
  iter (λ r y=>yJy n (λ ae ac aj ak ah=>r ((ae,(ac,(aj,(ak,())))),((ah,()),()))) y.1.1 y.1.2.1 y.1.2.2.1 y.1.2.2.2.1 y.2.1.1) k ((ae,(ac,(aj,(ak,())))),((ah,()),()))
def z7_m(n:Nat)(l:List (Q3))(of:(Q3)×Unit->Option ((Q3)×Unit)):Option (List (Q3)×Unit) :=
  (yBF n n (of) (l) ((↑l.length:Int)) ((0:Int)) ([]))
theorem yfh(n:Nat)(x:z7_a.den):runF z7_g (yZH n) Tryz.f130 z7_a z7_r x=z7_m n x.1 x.2.1:=by kernel_rfl
def yNO(ae:(Q3)×Unit->Option ((Q3)×Unit))(ac:List (Q3))(ak:Int)(v1:Q3)(ah:List (Q3)):Option ((List (Q3)×Unit)⊕(List (Q3))) :=
  (Option.bind (ae ((v1.1,v1.2.1,v1.2.2.1,()),())) λ v2=>(bif decide (ah.length+(1:Nat)<=memMax)then (some (Sum.inr (ah++[v2.1])))else none))
def yUg(ae:(Q3)×Unit->Option ((Q3)×Unit))(ac:List (Q3))(ah:List (Q3)):Option (List (Q3)×Unit) :=
  (some ((ah,())))
theorem yIl(n:Nat)(hn:big<=n)(ae:(Q3)×Unit->Option ((Q3)×Unit))(ac:List (Q3))(ah:List (Q3))(hx:List.length (ac) < lenMax):LeF some (yM (λ af aC a7=>yNO ae ac af aC a7) (λ a7=>yUg ae ac a7) 0 (ac) ah) (yBF n n ae ac (List.length (ac):Int) 0 ah):=by
  refine yQ (f:=some) (W:=λ aJ af a7=>yBF n aJ ae ac (List.length (ac):Int) af a7) (body:=(λ af aC a7=>yNO ae ac af aC a7)) (fin:=(λ a7=>yUg ae ac a7)) (λ aJ af a7=>?_) hx ah n (by unfold big at hn;unfold lenMax at hx;omega)
  show LeF _ _ (yJy n (yBF n aJ) ae ac (List.length (ac):Int) af a7)
  exact y6 (y8 λ v1=>(y8 λ v2=>(y6 (y7 rfl) yq))) (yr (y7 rfl))
def z7_M(l:List (Q3))(of:(Q3)×Unit->Option ((Q3)×Unit)):Option (List (Q3)×Unit) :=
  (bif decide (List.length (l) < lenMax)then yM (λ af aC a7=>yNO (of) (l) af aC a7) (λ a7=>yUg (of) (l) a7) 0 (l) ([])else none)
theorem yXe(l:List (Q3))(of:(Q3)×Unit->Option ((Q3)×Unit))(y:List (Q3)×Unit)(h:z7_M l of=some y):∃ n,z7_m n l of=some y :=
  ⟨big,LeF.top (show LeF some (z7_M l of) (z7_m big l of)from (λ (n:Nat) (hn:big<=n)=>show LeF some (z7_M l of) (z7_m n l of)from (yN λ hx=>by apply yIl n hn;exact hx)) big (Nat.le_refl _)) h⟩
def z7_e:Entry:={ f:=130,args:=z7_a,ress:=z7_r,m:=λ x=>z7_M x.1 x.2.1 }
theorem yf5:FnOK Tryz.prog z7_e:=yJ (g:=z7_g) (fn:=Tryz.f130) yC yI eNil (by kernel_rfl) (by kernel_rfl) (by kernel_rfl) (λ x y h=>let ⟨n,hn⟩:=yXe x.1 x.2.1 y h;⟨yZH n,iNil,(yfh n x).trans hn⟩)
abbrev zG_a:Ty:=.pair t23 (.pair t129 .unit)
abbrev zG_r:Ty:=.pair t23 .unit
def zG_g:G:={ T:=T,E:=[],muts:=[5],fz:=[] }
def zG_k:List (List Nat):=[[1,5,8,9,10]]
def yYw(n:Nat):Ann:={ keep:=zG_k,fuel:=n,inl:=[],deep:=0 }
def yJ9(n:Nat)(r0:((Q4)×Unit->Option ((Q4)×Unit))->List (Q4)->Int->Int->List (Q4)->Option (List (Q4)×Unit))(ae:(Q4)×Unit->Option ((Q4)×Unit))(ac:List (Q4))(aj:Int)(ak:Int)(ah:List (Q4)):Option (List (Q4)×Unit) :=
  (bif decide (ak < aj)then (Option.bind (idx ac ak) λ v1=>(Option.bind (ae ((v1.1,v1.2.1,()),())) λ v2=>(bif decide (ah.length+(1:Nat)<=memMax)then r0 ae ac aj (IntKind.i64.wrap (ak+1)) (ah++[v2.1])else none)))else some (ah,()))
def yB9(n:Nat)(k:Nat)(ae:(Q4)×Unit->Option ((Q4)×Unit))(ac:List (Q4))(aj:Int)(ak:Int)(ah:List (Q4)):Option (List (Q4)×Unit) :=
  iter (λ r y=>yJ9 n (λ ae ac aj ak ah=>r ((ae,(ac,(aj,(ak,())))),((ah,()),()))) y.1.1 y.1.2.1 y.1.2.2.1 y.1.2.2.2.1 y.2.1.1) k ((ae,(ac,(aj,(ak,())))),((ah,()),()))
def zG_m(n:Nat)(l:List (Q4))(of:(Q4)×Unit->Option ((Q4)×Unit)):Option (List (Q4)×Unit) :=
  (yB9 n n (of) (l) ((↑l.length:Int)) ((0:Int)) ([]))
theorem ydr(n:Nat)(x:zG_a.den):runF zG_g (yYw n) Tryz.f132 zG_a zG_r x=zG_m n x.1 x.2.1:=by kernel_rfl
def yM2(ae:(Q4)×Unit->Option ((Q4)×Unit))(ac:List (Q4))(ak:Int)(v1:Q4)(ah:List (Q4)):Option ((List (Q4)×Unit)⊕(List (Q4))) :=
  (Option.bind (ae ((v1.1,v1.2.1,()),())) λ v2=>(bif decide (ah.length+(1:Nat)<=memMax)then (some (Sum.inr (ah++[v2.1])))else none))
def yUu(ae:(Q4)×Unit->Option ((Q4)×Unit))(ac:List (Q4))(ah:List (Q4)):Option (List (Q4)×Unit) :=
  (some ((ah,())))
theorem yI9(n:Nat)(hn:big<=n)(ae:(Q4)×Unit->Option ((Q4)×Unit))(ac:List (Q4))(ah:List (Q4))(hx:List.length (ac) < lenMax):LeF some (yM (λ af aC a7=>yM2 ae ac af aC a7) (λ a7=>yUu ae ac a7) 0 (ac) ah) (yB9 n n ae ac (List.length (ac):Int) 0 ah):=by
  refine yQ (f:=some) (W:=λ aJ af a7=>yB9 n aJ ae ac (List.length (ac):Int) af a7) (body:=(λ af aC a7=>yM2 ae ac af aC a7)) (fin:=(λ a7=>yUu ae ac a7)) (λ aJ af a7=>?_) hx ah n (by unfold big at hn;unfold lenMax at hx;omega)
  show LeF _ _ (yJ9 n (yB9 n aJ) ae ac (List.length (ac):Int) af a7)
  exact y6 (y8 λ v1=>(y8 λ v2=>(y6 (y7 rfl) yq))) (yr (y7 rfl))
def zG_M(l:List (Q4))(of:(Q4)×Unit->Option ((Q4)×Unit)):Option (List (Q4)×Unit) :=
  (bif decide (List.length (l) < lenMax)then yM (λ af aC a7=>yM2 (of) (l) af aC a7) (λ a7=>yUu (of) (l) a7) 0 (l) ([])else none)
theorem yWO(l:List (Q4))(of:(Q4)×Unit->Option ((Q4)×Unit))(y:List (Q4)×Unit)(h:zG_M l of=some y):∃ n,zG_m n l of=some y :=
  ⟨big,LeF.top (show LeF some (zG_M l of) (zG_m big l of)from (λ (n:Nat) (hn:big<=n)=>show LeF some (zG_M l of) (zG_m n l of)from (yN λ hx=>by apply yI9 n hn;exact hx)) big (Nat.le_refl _)) h⟩
def zG_e:Entry:={ f:=132,args:=zG_a,ress:=zG_r,m:=λ x=>zG_M x.1 x.2.1 }
theorem yfl:FnOK Tryz.prog zG_e:=yJ (g:=zG_g) (fn:=Tryz.f132) yC yI eNil (by kernel_rfl) (by kernel_rfl) (by kernel_rfl) (λ x y h=>let ⟨n,hn⟩:=yWO x.1 x.2.1 y h;⟨yYw n,iNil,(ydr n x).trans hn⟩)
abbrev ySj:Ty:=.pair t57 (.pair t3 .unit)
abbrev ycP:Ty:=.pair t57 .unit
def yas:G:={ T:=T,E:=[],muts:=[],fz:=[] }
def yeE:List (List Nat):=[]
def yPw(n:Nat):Ann:={ keep:=yeE,fuel:=n,inl:=[],deep:=0 }
def yOL(n:Nat)(a:Q4)(n1:Int):Option ((Q4)×Unit) :=
  some ((IntKind.i64.wrap (n1 * a.1),IntKind.i64.wrap (n1 * a.2.1),()),())
theorem yXQ(n:Nat)(x:ySj.den):runF yas (yPw n) Tryz.f134 ySj ycP x=yOL n x.1 x.2.1:=by kernel_rfl
def z0o(a:Q4)(n1:Int):((Q4)×Unit) :=
  ((IntKind.i64.wrap (n1 * a.1),IntKind.i64.wrap (n1 * a.2.1),()),())
abbrev yZr (a:Q4) (n1:Int):Option ((Q4)×Unit):=some (z0o a n1)
theorem yQo(a:Q4)(n1:Int)(y:(Q4)×Unit)(h:yZr a n1=some y):∃ n,yOL n a n1=some y :=
  ⟨0,by rw[<- h];show yOL 0 a n1=some (z0o a n1);unfold yOL z0o;first|rfl|(simp only[yG];done)|(simp only[yG];rfl)⟩
def z0o_e:Entry:={ f:=134,args:=ySj,ress:=ycP,m:=λ x=>yZr x.1 x.2.1 }
theorem yIy:FnOK Tryz.prog z0o_e:=yJ (g:=yas) (fn:=Tryz.f134) yC yI eNil (by kernel_rfl) (by kernel_rfl) (by kernel_rfl) (λ x y h=>let ⟨n,hn⟩:=yQo x.1 x.2.1 y h;⟨yPw n,iNil,(yXQ n x).trans hn⟩)
abbrev yTO:Ty:=.pair t57 (.pair t57 .unit)
abbrev yWz:Ty:=.pair t57 .unit
def yan:G:={ T:=T,E:=[],muts:=[],fz:=[] }
def yev:List (List Nat):=[]
def yPZ(n:Nat):Ann:={ keep:=yev,fuel:=n,inl:=[],deep:=0 }
def yOG(n:Nat)(a:Q4)(b:Q4):Option ((Q4)×Unit) :=
  some ((IntKind.i64.wrap (a.1+b.1),IntKind.i64.wrap (a.2.1+b.2.1),()),())
theorem yXP(n:Nat)(x:yTO.den):runF yan (yPZ n) Tryz.f135 yTO yWz x=yOG n x.1 x.2.1:=by kernel_rfl
def z1M(a:Q4)(b:Q4):((Q4)×Unit) :=
  ((IntKind.i64.wrap (a.1+b.1),IntKind.i64.wrap (a.2.1+b.2.1),()),())
abbrev yZ0 (a:Q4) (b:Q4):Option ((Q4)×Unit):=some (z1M a b)
theorem yTD(a:Q4)(b:Q4)(y:(Q4)×Unit)(h:yZ0 a b=some y):∃ n,yOG n a b=some y :=
  ⟨0,by rw[<- h];show yOG 0 a b=some (z1M a b);unfold yOG z1M;first|rfl|(simp only[yG];done)|(simp only[yG];rfl)⟩
def z1M_e:Entry:={ f:=135,args:=yTO,ress:=yWz,m:=λ x=>yZ0 x.1 x.2.1 }
theorem yGq:FnOK Tryz.prog z1M_e:=yJ (g:=yan) (fn:=Tryz.f135) yC yI eNil (by kernel_rfl) (by kernel_rfl) (by kernel_rfl) (λ x y h=>let ⟨n,hn⟩:=yTD x.1 x.2.1 y h;⟨yPZ n,iNil,(yXP n x).trans hn⟩)
abbrev zH_a:Ty:=.pair t23 (.pair t196 .unit)
abbrev zH_r:Ty:=.pair t79 .unit
def zH_g:G:={ T:=T,E:=[],muts:=[5],fz:=[] }
def zH_k:List (List Nat):=[[1,5,8,9,10]]
def yZ6(n:Nat):Ann:={ keep:=zH_k,fuel:=n,inl:=[],deep:=0 }
def yLS(n:Nat)(r0:((Q4)×Unit->Option ((Nat×Nat)×Unit))->List (Q4)->Int->Int->List (Nat×Nat)->Option (List (Nat×Nat)×Unit))(ae:(Q4)×Unit->Option ((Nat×Nat)×Unit))(ac:List (Q4))(aj:Int)(ak:Int)(ah:List (Nat×Nat)):Option (List (Nat×Nat)×Unit) :=
  (bif decide (ak < aj)then (Option.bind (idx ac ak) λ v1=>(Option.bind (ae ((v1.1,v1.2.1,()),())) λ v2=>(bif decide (ah.length+(1:Nat)<=memMax)then r0 ae ac aj (IntKind.i64.wrap (ak+1)) (ah++[v2.1])else none)))else some (ah,()))
def yB4(n:Nat)(k:Nat)(ae:(Q4)×Unit->Option ((Nat×Nat)×Unit))(ac:List (Q4))(aj:Int)(ak:Int)(ah:List (Nat×Nat)):Option (List (Nat×Nat)×Unit) :=
  iter (λ r y=>yLS n (λ ae ac aj ak ah=>r ((ae,(ac,(aj,(ak,())))),((ah,()),()))) y.1.1 y.1.2.1 y.1.2.2.1 y.1.2.2.2.1 y.2.1.1) k ((ae,(ac,(aj,(ak,())))),((ah,()),()))
def zH_m(n:Nat)(l:List (Q4))(of:(Q4)×Unit->Option ((Nat×Nat)×Unit)):Option (List (Nat×Nat)×Unit) :=
  (yB4 n n (of) (l) ((↑l.length:Int)) ((0:Int)) ([]))
theorem ye9(n:Nat)(x:zH_a.den):runF zH_g (yZ6 n) Tryz.f139 zH_a zH_r x=zH_m n x.1 x.2.1:=by kernel_rfl
def yTu(ae:(Q4)×Unit->Option ((Nat×Nat)×Unit))(ac:List (Q4))(ak:Int)(v1:Q4)(ah:List (Nat×Nat)):Option ((List (Nat×Nat)×Unit)⊕(List (Nat×Nat))) :=
  (Option.bind (ae ((v1.1,v1.2.1,()),())) λ v2=>(bif decide (ah.length+(1:Nat)<=memMax)then (some (Sum.inr (ah++[v2.1])))else none))
def yT4(ae:(Q4)×Unit->Option ((Nat×Nat)×Unit))(ac:List (Q4))(ah:List (Nat×Nat)):Option (List (Nat×Nat)×Unit) :=
  (some ((ah,())))
theorem yHF(n:Nat)(hn:big<=n)(ae:(Q4)×Unit->Option ((Nat×Nat)×Unit))(ac:List (Q4))(ah:List (Nat×Nat))(hx:List.length (ac) < lenMax):LeF some (yM (λ af aC a7=>yTu ae ac af aC a7) (λ a7=>yT4 ae ac a7) 0 (ac) ah) (yB4 n n ae ac (List.length (ac):Int) 0 ah):=by
  refine yQ (f:=some) (W:=λ aJ af a7=>yB4 n aJ ae ac (List.length (ac):Int) af a7) (body:=(λ af aC a7=>yTu ae ac af aC a7)) (fin:=(λ a7=>yT4 ae ac a7)) (λ aJ af a7=>?_) hx ah n (by unfold big at hn;unfold lenMax at hx;omega)
  show LeF _ _ (yLS n (yB4 n aJ) ae ac (List.length (ac):Int) af a7)
  exact y6 (y8 λ v1=>(y8 λ v2=>(y6 (y7 rfl) yq))) (yr (y7 rfl))
def zH_M(l:List (Q4))(of:(Q4)×Unit->Option ((Nat×Nat)×Unit)):Option (List (Nat×Nat)×Unit) :=
  (bif decide (List.length (l) < lenMax)then yM (λ af aC a7=>yTu (of) (l) af aC a7) (λ a7=>yT4 (of) (l) a7) 0 (l) ([])else none)
theorem yZC(l:List (Q4))(of:(Q4)×Unit->Option ((Nat×Nat)×Unit))(y:List (Nat×Nat)×Unit)(h:zH_M l of=some y):∃ n,zH_m n l of=some y :=
  ⟨big,LeF.top (show LeF some (zH_M l of) (zH_m big l of)from (λ (n:Nat) (hn:big<=n)=>show LeF some (zH_M l of) (zH_m n l of)from (yN λ hx=>by apply yHF n hn;exact hx)) big (Nat.le_refl _)) h⟩
def zH_e:Entry:={ f:=139,args:=zH_a,ress:=zH_r,m:=λ x=>zH_M x.1 x.2.1 }
theorem yff:FnOK Tryz.prog zH_e:=yJ (g:=zH_g) (fn:=Tryz.f139) yC yI eNil (by kernel_rfl) (by kernel_rfl) (by kernel_rfl) (λ x y h=>let ⟨n,hn⟩:=yZC x.1 x.2.1 y h;⟨yZ6 n,iNil,(ye9 n x).trans hn⟩)
abbrev yTj:Ty:=.pair t57 (.pair (.ref t165) .unit)
abbrev ycJ:Ty:=.pair t165 .unit
def yYv:G:={ T:=T,E:=[],muts:=[],fz:=[] }
def yf9:List (List Nat):=[]
def yPC(n:Nat):Ann:={ keep:=yf9,fuel:=n,inl:=[],deep:=0 }
def yMi(n:Nat)(z:Q4)(p1:Nat×Nat):Option ((Nat×Nat)×Unit) :=
  some ((y0A Go.BinOp.quo Go.FloatKind.f32 (y15 Go.FloatKind.f32 z.1) p1.1,y0A Go.BinOp.quo Go.FloatKind.f32 (y15 Go.FloatKind.f32 z.2.1) p1.1),())
theorem ybD(n:Nat)(x:yTj.den):runF yYv (yPC n) Tryz.f140 yTj ycJ x=yMi n x.1 x.2.1:=by kernel_rfl
def z0l(z:Q4)(p1:Nat×Nat):((Nat×Nat)×Unit) :=
  ((y0A Go.BinOp.quo Go.FloatKind.f32 (y15 Go.FloatKind.f32 z.1) p1.1,y0A Go.BinOp.quo Go.FloatKind.f32 (y15 Go.FloatKind.f32 z.2.1) p1.1),())
abbrev yUH (z:Q4) (p1:Nat×Nat):Option ((Nat×Nat)×Unit):=some (z0l z p1)
theorem yU9(z:Q4)(p1:Nat×Nat)(y:(Nat×Nat)×Unit)(h:yUH z p1=some y):∃ n,yMi n z p1=some y :=
  ⟨0,by rw[<- h];show yMi 0 z p1=some (z0l z p1);unfold yMi z0l;first|rfl|(simp only[yG];done)|(simp only[yG];rfl)⟩
def z0l_e:Entry:={ f:=140,args:=yTj,ress:=ycJ,m:=λ x=>yUH x.1 x.2.1 }
theorem yae:FnOK Tryz.prog z0l_e:=yJ (g:=yYv) (fn:=Tryz.f140) yC yI eNil (by kernel_rfl) (by kernel_rfl) (by kernel_rfl) (λ x y h=>let ⟨n,hn⟩:=yU9 x.1 x.2.1 y h;⟨yPC n,iNil,(ybD n x).trans hn⟩)
abbrev yRf:Ty:=.pair t3 (.pair t3 .unit)
abbrev yXC:Ty:=.pair t69 .unit
def yW8:G:={ T:=T,E:=[],muts:=[],fz:=[] }
def ydQ:List (List Nat):=[[0,1,4,5,6]]
def yQ6(n:Nat):Ann:={ keep:=ydQ,fuel:=n,inl:=[],deep:=0 }
def yFI(n:Nat)(r2:Int->Int->Int->Int->Int->Int->Option ((Q4)×Unit))(cd:Int)(ce:Int)(cw:Int)(cE:Int)(cn:Int)(co:Int):Option ((Q4)×Unit) :=
  (bif cE != 0 then (bif cE==0 then none else r2 cd ce cE (cw.tmod cE) cn co)else (bif cw==0 then none else (bif cw==0 then none else some ((IntKind.i64.wrap (cd.tdiv cw),IntKind.i64.wrap (ce.tdiv cw),()),()))))
def y6i(n:Nat)(k:Nat)(cd:Int)(ce:Int)(cw:Int)(cE:Int)(cn:Int)(co:Int):Option ((Q4)×Unit) :=
  iter (λ r y=>yFI n (λ cd ce cw cE cn co=>r ((cd,(ce,(cw,(cE,())))),(((cn,(co,())),()),()))) y.1.1 y.1.2.1 y.1.2.2.1 y.1.2.2.2.1 y.2.1.1.1 y.2.1.1.2.1) k ((cd,(ce,(cw,(cE,())))),(((cn,(co,())),()),()))
def yAT(n:Nat)(j0:Int)(j1:Int):Option ((Q4)×Unit) :=
  (y6i n n (j0) (j1) (if IntKind.i64.wrap ((0:Int) - j0) > j0 then IntKind.i64.wrap ((0:Int) - j0)else j0) (j1) ((0:Int)) ((0:Int)))
def yML(n:Nat)(num:Int)(den:Int):Option ((Q4)×Unit) :=
  (bif decide (den < 0)then (yAT n (IntKind.i64.wrap ((0:Int) - num)) (IntKind.i64.wrap ((0:Int) - den)))else (yAT n (num) (den)))
theorem yXz(n:Nat)(x:yRf.den):runF yW8 (yQ6 n) Tryz.f142 yRf yXC x=yML n x.1 x.2.1:=by kernel_rfl
def y86(cd:Int)(ce:Int)(cn:Int)(co:Int)(cw:Int)(cE:Int):Option (((Q4)×Unit)⊕(Int×Int)) :=
  (bif cE != 0 then (bif cE==0 then none else (some (Sum.inr ((cE),(cw.tmod cE)))))else (bif cw==0 then none else (bif cw==0 then none else (some (Sum.inl (((IntKind.i64.wrap (cd.tdiv cw),IntKind.i64.wrap (ce.tdiv cw),()),())))))))
theorem yDc(n:Nat)(hn:big<=n)(cd:Int)(ce:Int)(cn:Int)(co:Int)(cw:Int)(cE:Int):LeF some (y1e (λ a7=>y86 cd ce cn co a7.1 a7.2) wMax (cw,cE)) (y6i n n cd ce cw cE cn co):=by
  refine y37 (f:=some) (W:=λ aJ a7=>y6i n aJ cd ce a7.1 a7.2 cn co) (body:=(λ a7=>y86 cd ce cn co a7.1 a7.2)) (λ aJ a7=>?_) wMax n (cw,cE) (by unfold big at hn;unfold wMax;omega)
  show LeF _ _ (yFI n (y6i n aJ) cd ce a7.1 a7.2 cn co)
  exact (y6 (y6 yq (y7 rfl)) (y6 yq (y6 yq (y7 rfl))))
def yFC(j0:Int)(j1:Int):Option ((Q4)×Unit) :=
  (y1e (λ a7=>y86 (j0) (j1) ((0:Int)) ((0:Int)) a7.1 a7.2) wMax ((if IntKind.i64.wrap ((0:Int) - j0) > j0 then IntKind.i64.wrap ((0:Int) - j0)else j0),(j1)))
theorem y2M(n:Nat)(hn:big<=n)(j0:Int)(j1:Int):LeF some (yFC j0 j1) (yAT n j0 j1) :=
  (by apply yDc n hn)
def yAn(num:Int)(den:Int):Option ((Q4)×Unit) :=
  (bif decide (den < 0)then (yFC (IntKind.i64.wrap ((0:Int) - num)) (IntKind.i64.wrap ((0:Int) - den)))else (yFC (num) (den)))
theorem yUm(num:Int)(den:Int)(y:(Q4)×Unit)(h:yAn num den=some y):∃ n,yML n num den=some y :=
  ⟨big,LeF.top (show LeF some (yAn num den) (yML big num den)from (λ (n:Nat) (hn:big<=n)=>show LeF some (yAn num den) (yML n num den)from (y6 (by apply y2M n hn) (by apply y2M n hn))) big (Nat.le_refl _)) h⟩
def z0J_e:Entry:={ f:=142,args:=yRf,ress:=yXC,m:=λ x=>yAn x.1 x.2.1 }
theorem ybm:FnOK Tryz.prog z0J_e:=yJ (g:=yW8) (fn:=Tryz.f142) yC yI eNil (by kernel_rfl) (by kernel_rfl) (by kernel_rfl) (λ x y h=>let ⟨n,hn⟩:=yUm x.1 x.2.1 y h;⟨yQ6 n,iNil,(yXz n x).trans hn⟩)
abbrev zh_a:Ty:=.pair t58 (.pair t3 .unit)
abbrev zh_r:Ty:=.pair t4 .unit
def zh_g:G:={ T:=T,E:=[],muts:=[],fz:=[] }
def zh_k:List (List Nat):=[]
def ycG(n:Nat):Ann:={ keep:=zh_k,fuel:=n,inl:=[],deep:=0 }
def zh_m(n:Nat)(l:List (Q4))(n1:Int):Option (Bool×Unit) :=
  (bif decide ((↑l.length:Int)<=n1)then some (Bool.true,())else some ((↑l.length:Int)==2049,()))
theorem yd1(n:Nat)(x:zh_a.den):runF zh_g (ycG n) Tryz.f144 zh_a zh_r x=zh_m n x.1 x.2.1:=by kernel_rfl
def zh(l:List (Q4))(n1:Int):(Bool×Unit) :=
  (bif decide ((↑l.length:Int)<=n1)then (Bool.true,())else ((↑l.length:Int)==2049,()))
abbrev zh_M (l:List (Q4)) (n1:Int):Option (Bool×Unit):=some (zh l n1)
theorem yVa(l:List (Q4))(n1:Int)(y:Bool×Unit)(h:zh_M l n1=some y):∃ n,zh_m n l n1=some y :=
  ⟨0,by rw[<- h];show zh_m 0 l n1=some (zh l n1);unfold zh_m zh;first|rfl|(simp only[yG];done)|(simp only[yG];rfl)⟩
def zh_e:Entry:={ f:=144,args:=zh_a,ress:=zh_r,m:=λ x=>zh_M x.1 x.2.1 }
theorem ydS:FnOK Tryz.prog zh_e:=yJ (g:=zh_g) (fn:=Tryz.f144) yC yI eNil (by kernel_rfl) (by kernel_rfl) (by kernel_rfl) (λ x y h=>let ⟨n,hn⟩:=yVa x.1 x.2.1 y h;⟨ycG n,iNil,(yd1 n x).trans hn⟩)
def il124:Inl:={ f:=124,fn:=Tryz.f124,keep:=[],muts:=[],fz:=[] }
theorem y5F:y6e Tryz.prog il124:=⟨by kernel_rfl,by kernel_rfl,λ e0 h=>by cases (show (none:Option LibK)=some e0 from h)⟩
def il195:Inl:={ f:=195,fn:=Tryz.f195,keep:=[[0,1,3,9,10,11],[0,1,3,4,5,9,10,11]],muts:=[],fz:=[] }
theorem y5D:y6e Tryz.prog il195:=⟨by kernel_rfl,by kernel_rfl,λ e0 h=>by cases (show (none:Option LibK)=some e0 from h)⟩
abbrev yR1:Ty:=.pair t60 .unit
abbrev yVJ:Ty:=.pair t41 .unit
def yba:G:={ T:=T,E:=[],muts:=[3],fz:=[] }
def yfI:List (List Nat):=[]
def yPj(n:Nat):Ann:={ keep:=yfI,fuel:=n,inl:=[il124,il195],deep:=3 }
def y8Y(n:Nat)(r0:Q1->List (Q4)->List Nat->Int->Int->Q1->Q1->Q1->Q1->List Int->Q1->Q1->Q1->Q1->Option (List Int×Unit))(j8:Q1)(j9:List (Q4))(j10:Int)(j11:Nat)(j12:List Nat)(j13:Int)(j14:Int)(j15:Q1)(j16:Q1)(j17:Q1)(j18:Q1)(j19:List Int)(j20:Q1)(j21:Q1)(j22:Q1)(j23:Q1):Option (List Int×Unit) :=
  (bif decide ((↑j9.length:Int) > 0)then (Option.bind (idx j9 (0:Int)) λ v24=>(bif decide (v24.1<=j10)then r0 j8 j9 j12 j13 (IntKind.i64.wrap (j14+1)) j15 j16 j17 j18 j19 j20 j21 j22 j23 else (Option.bind (yo Go.FloatKind.f32 (y0A Go.BinOp.mul Go.FloatKind.f32 j11 (nat_lit 1098907648)) IntKind.i64) λ v29=>(bif decide (j19.length+(1:Nat)<=memMax)then r0 j8 j9 j12 j13 (IntKind.i64.wrap (j14+1)) j15 j16 j17 j18 (j19++[IntKind.i64.wrap (j8.2.1+j10)]) j20 j21 j22 j23 else none))))else (Option.bind (yo Go.FloatKind.f32 (y0A Go.BinOp.mul Go.FloatKind.f32 j11 (nat_lit 1098907648)) IntKind.i64) λ v30=>(bif decide (j19.length+(1:Nat)<=memMax)then r0 j8 j9 j12 j13 (IntKind.i64.wrap (j14+1)) j15 j16 j17 j18 (j19++[IntKind.i64.wrap (j8.2.1+j10)]) j20 j21 j22 j23 else none)))
def yFs(n:Nat)(r0:Q1->List (Q4)->List Nat->Int->Int->Q1->Q1->Q1->Q1->List Int->Q1->Q1->Q1->Q1->Option (List Int×Unit))(r2:Q1->List (Q4)->Int->Nat->List Nat->Int->Int->Q1->Q1->Q1->Q1->List Int->Q1->Q1->Q1->Q1->Option (List Int×Unit))(b9:Q1)(ai:List (Q4))(ba:Int)(bi:Nat)(aP:List Nat)(aF:Int)(aG:Int)(ar:Q1)(au:Q1)(aL:Q1)(bc:Q1)(cH:List Int)(be:Q1)(bf:Q1)(bG:Q1)(bH:Q1):Option (List Int×Unit) :=
  (bif decide ((↑ai.length:Int) > 0)then (Option.bind (idx ai (0:Int)) λ v3=>(bif decide (v3.2.1<=ba)then (bif decide ((0:Int)<=1) && decide ((1:Int)<=(↑ai.length:Int))then r2 b9 (List.drop (Int.toNat (1:Int)) ai) ba bi aP aF aG ar au aL bc cH be bf bG bH else none)else (y8Y n r0 (b9) (ai) (ba) (bi) (aP) (aF) (aG) (ar) (au) (aL) (bc) (cH) (be) (bf) (bG) (bH))))else (y8Y n r0 (b9) (ai) (ba) (bi) (aP) (aF) (aG) (ar) (au) (aL) (bc) (cH) (be) (bf) (bG) (bH)))
def y6t(n:Nat)(r0:Q1->List (Q4)->List Nat->Int->Int->Q1->Q1->Q1->Q1->List Int->Q1->Q1->Q1->Q1->Option (List Int×Unit))(k:Nat)(b9:Q1)(ai:List (Q4))(ba:Int)(bi:Nat)(aP:List Nat)(aF:Int)(aG:Int)(ar:Q1)(au:Q1)(aL:Q1)(bc:Q1)(cH:List Int)(be:Q1)(bf:Q1)(bG:Q1)(bH:Q1):Option (List Int×Unit) :=
  iter (λ r y=>yFs n r0 (λ b9 ai ba bi aP aF aG ar au aL bc cH be bf bG bH=>r ((b9,(ai,(ba,(bi,(aP,(aF,(aG,()))))))),(((ar,(au,(aL,((bc,()),())))),((),(cH,()))),(be,(bf,(bG,((bH,()),()))))))) y.1.1 y.1.2.1 y.1.2.2.1 y.1.2.2.2.1 y.1.2.2.2.2.1 y.1.2.2.2.2.2.1 y.1.2.2.2.2.2.2.1 y.2.1.1.1 y.2.1.1.2.1 y.2.1.1.2.2.1 y.2.1.1.2.2.2.1.1 y.2.1.2.2.1 y.2.2.1 y.2.2.2.1 y.2.2.2.2.1 y.2.2.2.2.2.1.1) k ((b9,(ai,(ba,(bi,(aP,(aF,(aG,()))))))),(((ar,(au,(aL,((bc,()),())))),((),(cH,()))),(be,(bf,(bG,((bH,()),()))))))
def yFH(n:Nat)(r0:Q1->List (Q4)->List Nat->Int->Int->Q1->Q1->Q1->Q1->List Int->Q1->Q1->Q1->Q1->Option (List Int×Unit))(aA:Q1)(ay:List (Q4))(aj:List Nat)(ak:Int)(aD:Int)(aw:Q1)(ax:Q1)(aS:Q1)(bj:Q1)(cP:List Int)(bl:Q1)(aQ:Q1)(bB:Q1)(bU:Q1):Option (List Int×Unit) :=
  (bif decide (aD < ak)then (Option.bind (idx aj aD) λ v1=>(y6t n r0 n (aA) (ay) (aD) (v1) (aj) (ak) (aD) (aw) (ax) (aS) (bj) (cP) (bl) (aQ) (bB) (bU)))else some (cP,()))
def y7D(n:Nat)(k:Nat)(aA:Q1)(ay:List (Q4))(aj:List Nat)(ak:Int)(aD:Int)(aw:Q1)(ax:Q1)(aS:Q1)(bj:Q1)(cP:List Int)(bl:Q1)(aQ:Q1)(bB:Q1)(bU:Q1):Option (List Int×Unit) :=
  iter (λ r y=>yFH n (λ aA ay aj ak aD aw ax aS bj cP bl aQ bB bU=>r ((aA,(ay,(aj,(ak,(aD,()))))),(((aw,(ax,(aS,((bj,()),())))),((),(cP,()))),(bl,(aQ,(bB,((bU,()),()))))))) y.1.1 y.1.2.1 y.1.2.2.1 y.1.2.2.2.1 y.1.2.2.2.2.1 y.2.1.1.1 y.2.1.1.2.1 y.2.1.1.2.2.1 y.2.1.1.2.2.2.1.1 y.2.1.2.2.1 y.2.2.1 y.2.2.2.1 y.2.2.2.2.1 y.2.2.2.2.2.1.1) k ((aA,(ay,(aj,(ak,(aD,()))))),(((aw,(ax,(aS,((bj,()),())))),((),(cP,()))),(bl,(aQ,(bB,((bU,()),()))))))
def yND(n:Nat)(r1:Q1):Option (List Int×Unit) :=
  (y7D n n (r1) (r1.2.2.2.1) (r1.2.2.1) ((↑r1.2.2.1.length:Int)) ((0:Int)) (r1) (r1) (r1) (r1) ([]) (r1) (r1) (r1) (r1))
theorem yXg(n:Nat)(x:yR1.den):runF yba (yPj n) Tryz.f147 yR1 yVJ x=yND n x.1:=by kernel_rfl
def yAR(j8:Q1)(j9:List (Q4))(j10:Int)(j11:Nat)(j12:List Nat)(j13:Int)(j14:Int)(j15:Q1)(j16:Q1)(j17:Q1)(j18:Q1)(j19:List Int)(j20:Q1)(j21:Q1)(j22:Q1)(j23:Q1):Option ((List Int×Unit)⊕((List (Q4))×List Int)) :=
  (bif decide ((↑j9.length:Int) > 0)then (Option.bind (idx j9 (0:Int)) λ v24=>(bif decide (v24.1<=j10)then (some (Sum.inr ((j9),(j19))))else (Option.bind (yo Go.FloatKind.f32 (y0A Go.BinOp.mul Go.FloatKind.f32 j11 (nat_lit 1098907648)) IntKind.i64) λ v29=>(bif decide (j19.length+(1:Nat)<=memMax)then (some (Sum.inr ((j9),(j19++[IntKind.i64.wrap (j8.2.1+j10)]))))else none))))else (Option.bind (yo Go.FloatKind.f32 (y0A Go.BinOp.mul Go.FloatKind.f32 j11 (nat_lit 1098907648)) IntKind.i64) λ v30=>(bif decide (j19.length+(1:Nat)<=memMax)then (some (Sum.inr ((j9),(j19++[IntKind.i64.wrap (j8.2.1+j10)]))))else none)))
theorem y2k(n:Nat)(hn:big<=n)(r0:Q1->List (Q4)->List Nat->Int->Int->Q1->Q1->Q1->Q1->List Int->Q1->Q1->Q1->Q1->Option (List Int×Unit))(j8:Q1)(j9:List (Q4))(j10:Int)(j11:Nat)(j12:List Nat)(j13:Int)(j14:Int)(j15:Q1)(j16:Q1)(j17:Q1)(j18:Q1)(j19:List Int)(j20:Q1)(j21:Q1)(j22:Q1)(j23:Q1):LeF (elim some λ (a7:((List (Q4))×List Int))=>r0 j8 a7.1 j12 j13 (IntKind.i64.wrap (j14+1)) j15 j16 j17 j18 a7.2 j20 j21 j22 j23) (yAR j8 j9 j10 j11 j12 j13 j14 j15 j16 j17 j18 j19 j20 j21 j22 j23) (y8Y n r0 j8 j9 j10 j11 j12 j13 j14 j15 j16 j17 j18 j19 j20 j21 j22 j23) :=
  (y6 (y8 λ v24=>(y6 (y7 rfl) (y8 λ v29=>(y6 (y7 rfl) yq)))) (y8 λ v30=>(y6 (y7 rfl) yq)))
def yJ5(b9:Q1)(ba:Int)(bi:Nat)(aP:List Nat)(aF:Int)(aG:Int)(ar:Q1)(au:Q1)(aL:Q1)(bc:Q1)(cH:List Int)(be:Q1)(bf:Q1)(bG:Q1)(bH:Q1)(ai:List (Q4)):Option (((List Int×Unit)⊕((List (Q4))×List Int))⊕(List (Q4))) :=
  (bif decide ((↑ai.length:Int) > 0)then (Option.bind (idx ai (0:Int)) λ v3=>(bif decide (v3.2.1<=ba)then (bif decide ((0:Int)<=1) && decide ((1:Int)<=(↑ai.length:Int))then (some (Sum.inr (List.drop (Int.toNat (1:Int)) ai)))else none)else (Option.map Sum.inl (yAR (b9) (ai) (ba) (bi) (aP) (aF) (aG) (ar) (au) (aL) (bc) (cH) (be) (bf) (bG) (bH)))))else (Option.map Sum.inl (yAR (b9) (ai) (ba) (bi) (aP) (aF) (aG) (ar) (au) (aL) (bc) (cH) (be) (bf) (bG) (bH))))
theorem yDl(n:Nat)(hn:big<=n)(r0:Q1->List (Q4)->List Nat->Int->Int->Q1->Q1->Q1->Q1->List Int->Q1->Q1->Q1->Q1->Option (List Int×Unit))(b9:Q1)(ba:Int)(bi:Nat)(aP:List Nat)(aF:Int)(aG:Int)(ar:Q1)(au:Q1)(aL:Q1)(bc:Q1)(cH:List Int)(be:Q1)(bf:Q1)(bG:Q1)(bH:Q1)(ai:List (Q4)):LeF (elim some λ (a7:((List (Q4))×List Int))=>r0 b9 a7.1 aP aF (IntKind.i64.wrap (aG+1)) ar au aL bc a7.2 be bf bG bH) (y1e (λ a7=>yJ5 b9 ba bi aP aF aG ar au aL bc cH be bf bG bH a7) wMax ai) (y6t n r0 n b9 ai ba bi aP aF aG ar au aL bc cH be bf bG bH):=by
  refine y37 (f:=(elim some λ (a7:((List (Q4))×List Int))=>r0 b9 a7.1 aP aF (IntKind.i64.wrap (aG+1)) ar au aL bc a7.2 be bf bG bH)) (W:=λ aJ a7=>y6t n r0 aJ b9 a7 ba bi aP aF aG ar au aL bc cH be bf bG bH) (body:=(λ a7=>yJ5 b9 ba bi aP aF aG ar au aL bc cH be bf bG bH a7)) (λ aJ a7=>?_) wMax n ai (by unfold big at hn;unfold wMax;omega)
  show LeF _ _ (yFs n r0 (y6t n r0 aJ) b9 a7 ba bi aP aF aG ar au aL bc cH be bf bG bH)
  exact (y6 (y8 λ v3=>(y6 (y6 (y7 rfl) yq) (yr (by apply y2k n hn)))) (yr (by apply y2k n hn)))
def yFk(aA:Q1)(aj:List Nat)(aw:Q1)(ax:Q1)(aS:Q1)(bj:Q1)(bl:Q1)(aQ:Q1)(bB:Q1)(bU:Q1)(aD:Int)(v1:Nat)(ay:List (Q4))(cP:List Int):Option ((List Int×Unit)⊕((List (Q4))×List Int)) :=
  (y1e (λ a7=>yJ5 (aA) (aD) (v1) (aj) ((↑aj.length:Int)) (aD) (aw) (ax) (aS) (bj) (cP) (bl) (aQ) (bB) (bU) a7) wMax (ay))
def yLg(aA:Q1)(aj:List Nat)(aw:Q1)(ax:Q1)(aS:Q1)(bj:Q1)(bl:Q1)(aQ:Q1)(bB:Q1)(bU:Q1)(ay:List (Q4))(cP:List Int):Option (List Int×Unit) :=
  (some ((cP,())))
theorem yEF(n:Nat)(hn:big<=n)(aA:Q1)(aj:List Nat)(aw:Q1)(ax:Q1)(aS:Q1)(bj:Q1)(bl:Q1)(aQ:Q1)(bB:Q1)(bU:Q1)(ay:List (Q4))(cP:List Int)(hx:List.length (aj) < lenMax):LeF some (yM (λ af aC a7=>yFk aA aj aw ax aS bj bl aQ bB bU af aC a7.1 a7.2) (λ a7=>yLg aA aj aw ax aS bj bl aQ bB bU a7.1 a7.2) 0 (aj) (ay,cP)) (y7D n n aA ay aj (List.length (aj):Int) 0 aw ax aS bj cP bl aQ bB bU):=by
  refine yQ (f:=some) (W:=λ aJ af a7=>y7D n aJ aA a7.1 aj (List.length (aj):Int) af aw ax aS bj a7.2 bl aQ bB bU) (body:=(λ af aC a7=>yFk aA aj aw ax aS bj bl aQ bB bU af aC a7.1 a7.2)) (fin:=(λ a7=>yLg aA aj aw ax aS bj bl aQ bB bU a7.1 a7.2)) (λ aJ af a7=>?_) hx (ay,cP) n (by unfold big at hn;unfold lenMax at hx;omega)
  show LeF _ _ (yFH n (y7D n aJ) aA a7.1 aj (List.length (aj):Int) af aw ax aS bj a7.2 bl aQ bB bU)
  exact y6 (y8 λ v1=>(by apply yDl n hn)) (yr (y7 rfl))
def yBq(r1:Q1):Option (List Int×Unit) :=
  (bif decide (List.length (r1.2.2.1) < lenMax)then yM (λ af aC a7=>yFk (r1) (r1.2.2.1) (r1) (r1) (r1) (r1) (r1) (r1) (r1) (r1) af aC a7.1 a7.2) (λ a7=>yLg (r1) (r1.2.2.1) (r1) (r1) (r1) (r1) (r1) (r1) (r1) (r1) a7.1 a7.2) 0 (r1.2.2.1) ((r1.2.2.2.1),([]))else none)
theorem yQq(r1:Q1)(y:List Int×Unit)(h:yBq r1=some y):∃ n,yND n r1=some y :=
  ⟨big,LeF.top (show LeF some (yBq r1) (yND big r1)from (λ (n:Nat) (hn:big<=n)=>show LeF some (yBq r1) (yND n r1)from (yN λ hx=>by apply yEF n hn;exact hx)) big (Nat.le_refl _)) h⟩
def z1E_e:Entry:={ f:=147,args:=yR1,ress:=yVJ,m:=λ x=>yBq x.1 }
theorem yPA:FnOK Tryz.prog z1E_e:=yJ (g:=yba) (fn:=Tryz.f147) yC yI eNil (by kernel_rfl) (by kernel_rfl) (by kernel_rfl) (λ x y h=>let ⟨n,hn⟩:=yQq x.1 y h;⟨yPj n,(y5G y5F (y5G y5D iNil)),(yXg n x).trans hn⟩)
abbrev yR9:Ty:=.pair t57 (.pair t3 .unit)
abbrev yYz:Ty:=.pair t57 .unit
def yWB:G:={ T:=T,E:=[],muts:=[2],fz:=[] }
def yfj:List (List Nat):=[[1,2,4,5]]
def yPP(n:Nat):Ann:={ keep:=yfj,fuel:=n,inl:=[],deep:=0 }
def yFS(n:Nat)(r0:Int->Int->Int->Int->Int->Int->Option ((Q4)×Unit))(cy:Int)(bB:Int)(al:Int)(am:Int)(aa:Int)(a8:Int):Option ((Q4)×Unit) :=
  (bif decide (bB < (IntKind.i64.wrap (cy.tmod (4:Int)+4)).tmod (4:Int))then r0 cy (IntKind.i64.wrap (bB+1)) (IntKind.i64.wrap ((0:Int) - am)) al aa a8 else some ((al,am,()),()))
def y7Q(n:Nat)(k:Nat)(cy:Int)(bB:Int)(al:Int)(am:Int)(aa:Int)(a8:Int):Option ((Q4)×Unit) :=
  iter (λ r y=>yFS n (λ cy bB al am aa a8=>r ((cy,(bB,())),(((al,(am,())),((aa,(a8,())),())),()))) y.1.1 y.1.2.1 y.2.1.1.1 y.2.1.1.2.1 y.2.1.2.1.1 y.2.1.2.1.2.1) k ((cy,(bB,())),(((al,(am,())),((aa,(a8,())),())),()))
def yNk(n:Nat)(a:Q4)(n1:Int):Option ((Q4)×Unit) :=
  (y7Q n n (n1) ((0:Int)) (a.1) (a.2.1) ((0:Int)) ((0:Int)))
theorem yZc(n:Nat)(x:yR9.den):runF yWB (yPP n) Tryz.f156 yR9 yYz x=yNk n x.1 x.2.1:=by kernel_rfl
def yJG(cy:Int)(aa:Int)(a8:Int)(bB:Int)(al:Int)(am:Int):Option (((Q4)×Unit)⊕(Int×Int)) :=
  (some (Sum.inr ((IntKind.i64.wrap ((0:Int) - am)),(al))))
def yJE(cy:Int)(aa:Int)(a8:Int)(al:Int)(am:Int):Option ((Q4)×Unit) :=
  (some (((al,am,()),())))
theorem yEK(n:Nat)(hn:big<=n)(cy:Int)(aa:Int)(a8:Int)(al:Int)(am:Int)(hx:((IntKind.i64.wrap (cy.tmod (4:Int)+4)).tmod (4:Int))<=9223372036854775807):LeF some (y0I (λ af a7=>yJG cy aa a8 af a7.1 a7.2) (λ a7=>yJE cy aa a8 a7.1 a7.2) (((IntKind.i64.wrap (cy.tmod (4:Int)+4)).tmod (4:Int)) - 0).toNat 0 (al,am)) (y7Q n n cy 0 al am aa a8):=by
  refine y0c (f:=some) (W:=λ aJ af a7=>y7Q n aJ cy af a7.1 a7.2 aa a8) (body:=(λ af a7=>yJG cy aa a8 af a7.1 a7.2)) (fin:=(λ a7=>yJE cy aa a8 a7.1 a7.2)) (λ aJ af a7=>?_) hx (al,am) n 0 (by decide) (by unfold big at hn;omega)
  show LeF _ _ (yFS n (y7Q n aJ) cy af a7.1 a7.2 aa a8)
  exact y6 (y7 rfl) (yr (y7 rfl))
def yEC(a:Q4)(n1:Int):Option ((Q4)×Unit) :=
  (bif decide (((IntKind.i64.wrap (n1.tmod (4:Int)+4)).tmod (4:Int))<=9223372036854775807)then y0I (λ af a7=>yJG (n1) ((0:Int)) ((0:Int)) af a7.1 a7.2) (λ a7=>yJE (n1) ((0:Int)) ((0:Int)) a7.1 a7.2) (((IntKind.i64.wrap (n1.tmod (4:Int)+4)).tmod (4:Int)) - 0).toNat 0 ((a.1),(a.2.1))else none)
theorem yT3(a:Q4)(n1:Int)(y:(Q4)×Unit)(h:yEC a n1=some y):∃ n,yNk n a n1=some y :=
  ⟨big,LeF.top (show LeF some (yEC a n1) (yNk big a n1)from (λ (n:Nat) (hn:big<=n)=>show LeF some (yEC a n1) (yNk n a n1)from (yN λ hx=>by apply yEK n hn;exact hx)) big (Nat.le_refl _)) h⟩
def z11_e:Entry:={ f:=156,args:=yR9,ress:=yYz,m:=λ x=>yEC x.1 x.2.1 }
theorem yax:FnOK Tryz.prog z11_e:=yJ (g:=yWB) (fn:=Tryz.f156) yC yI eNil (by kernel_rfl) (by kernel_rfl) (by kernel_rfl) (λ x y h=>let ⟨n,hn⟩:=yT3 x.1 x.2.1 y h;⟨yPP n,iNil,(yZc n x).trans hn⟩)
abbrev yS9:Ty:=.pair t58 (.pair t3 .unit)
abbrev yYL:Ty:=.pair t4 .unit
def yaD:G:={ T:=T,E:=[],muts:=[],fz:=[] }
def yfg:List (List Nat):=[[0,1,5]]
def yPQ(n:Nat):Ann:={ keep:=yfg,fuel:=n,inl:=[],deep:=0 }
def yGO(n:Nat)(r0:List (Q4)->Int->Int->Option (Bool×Unit))(aq:List (Q4))(aA:Int)(aH:Int):Option (Bool×Unit) :=
  (bif decide (aH < (↑aq.length:Int))then (Option.bind (idx aq aH) λ v1=>(bif decide (aA >= v1.1)then (Option.bind (idx aq aH) λ v2=>(bif decide (aA < v2.2.1)then some (Bool.true,())else r0 aq aA (IntKind.i64.wrap (aH+1))))else r0 aq aA (IntKind.i64.wrap (aH+1))))else some (Bool.false,()))
def y7N(n:Nat)(k:Nat)(aq:List (Q4))(aA:Int)(aH:Int):Option (Bool×Unit) :=
  iter (λ r y=>yGO n (λ aq aA aH=>r ((aq,(aA,(aH,()))),((),()))) y.1.1 y.1.2.1 y.1.2.2.1) k ((aq,(aA,(aH,()))),((),()))
def yM6(n:Nat)(l:List (Q4))(t:Int):Option (Bool×Unit) :=
  (y7N n n (l) (t) ((0:Int)))
theorem yWe(n:Nat)(x:yS9.den):runF yaD (yPQ n) Tryz.f159 yS9 yYL x=yM6 n x.1 x.2.1:=by kernel_rfl
def yCq(aq:List (Q4))(aA:Int)(aH:Int)(v1:Q4):Option ((Bool×Unit)⊕Unit) :=
  (bif decide (aA >= v1.1)then (Option.bind (idx aq aH) λ v2=>(bif decide (aA < v2.2.1)then (some (Sum.inl ((Bool.true,()))))else (some (Sum.inr ()))))else (some (Sum.inr ())))
def yFO(aq:List (Q4))(aA:Int):Option (Bool×Unit) :=
  (some ((Bool.false,())))
theorem yDj(n:Nat)(hn:big<=n)(aq:List (Q4))(aA:Int)(hx:List.length (aq) < lenMax):LeF some (yM (λ af aC a7=>yCq aq aA af aC) (λ a7=>yFO aq aA) 0 (aq) ()) (y7N n n aq aA 0):=by
  refine yQ (f:=some) (W:=λ aJ af a7=>y7N n aJ aq aA af) (body:=(λ af aC a7=>yCq aq aA af aC)) (fin:=(λ a7=>yFO aq aA)) (λ aJ af a7=>?_) hx () n (by unfold big at hn;unfold lenMax at hx;omega)
  show LeF _ _ (yGO n (y7N n aJ) aq aA af)
  exact y6 (y8 λ v1=>(y6 (y8 λ v2=>(y6 (y7 rfl) (y7 rfl))) (y7 rfl))) (yr (y7 rfl))
def yBS(l:List (Q4))(t:Int):Option (Bool×Unit) :=
  (bif decide (List.length (l) < lenMax)then yM (λ af aC a7=>yCq (l) (t) af aC) (λ a7=>yFO (l) (t)) 0 (l) ()else none)
theorem yRX(l:List (Q4))(t:Int)(y:Bool×Unit)(h:yBS l t=some y):∃ n,yM6 n l t=some y :=
  ⟨big,LeF.top (show LeF some (yBS l t) (yM6 big l t)from (λ (n:Nat) (hn:big<=n)=>show LeF some (yBS l t) (yM6 n l t)from (yN λ hx=>by apply yDj n hn;exact hx)) big (Nat.le_refl _)) h⟩
def z1H_e:Entry:={ f:=159,args:=yS9,ress:=yYL,m:=λ x=>yBS x.1 x.2.1 }
theorem yP1:FnOK Tryz.prog z1H_e:=yJ (g:=yaD) (fn:=Tryz.f159) yC yI eNil (by kernel_rfl) (by kernel_rfl) (by kernel_rfl) (λ x y h=>let ⟨n,hn⟩:=yRX x.1 x.2.1 y h;⟨yPQ n,iNil,(yWe n x).trans hn⟩)
abbrev zR_a:Ty:=.pair t55 (.pair t3 .unit)
abbrev zR_r:Ty:=.pair t57 .unit
def zR_g:G:={ T:=T,E:=[],muts:=[],fz:=[] }
def zR_k:List (List Nat):=[]
def yZY(n:Nat):Ann:={ keep:=zR_k,fuel:=n,inl:=[],deep:=0 }
def zR_m(n:Nat)(c:Q3)(tick:Int):Option ((Q4)×Unit) :=
  (bif c.2.1==0 then none else (Option.bind (idx [((1:Int),(0:Int),()),((0:Int),(1:Int),()),((-1:Int),(0:Int),()),((0:Int),(-1:Int),())] ((IntKind.i64.wrap (c.2.2.1 * IntKind.i64.wrap (tick.tdiv c.2.1))).tmod (4:Int))) λ v0=>some ((v0.1,v0.2.1,()),())))
theorem ydY(n:Nat)(x:zR_a.den):runF zR_g (yZY n) Tryz.f161 zR_a zR_r x=zR_m n x.1 x.2.1:=by kernel_rfl
def zR_M(c:Q3)(tick:Int):Option ((Q4)×Unit):=zR_m 0 c tick
theorem yWP(c:Q3)(tick:Int)(y:(Q4)×Unit)(h:zR_M c tick=some y):∃ n,zR_m n c tick=some y:=⟨0,h⟩
def zR_e:Entry:={ f:=161,args:=zR_a,ress:=zR_r,m:=λ x=>zR_M x.1 x.2.1 }
theorem yRP:FnOK Tryz.prog zR_e:=yJ (g:=zR_g) (fn:=Tryz.f161) yC yI eNil (by kernel_rfl) (by kernel_rfl) (by kernel_rfl) (λ x y h=>let ⟨n,hn⟩:=yWP x.1 x.2.1 y h;⟨yZY n,iNil,(ydY n x).trans hn⟩)
abbrev zA_a:Ty:=.pair t31 (.pair t215 .unit)
abbrev zA_r:Ty:=.pair t23 .unit
def zA_g:G:={ T:=T,E:=[],muts:=[5],fz:=[] }
def zA_k:List (List Nat):=[[1,5,8,9,10]]
def ybY(n:Nat):Ann:={ keep:=zA_k,fuel:=n,inl:=[],deep:=0 }
def yKS(n:Nat)(r0:((Q3)×Unit->Option ((Q4)×Unit))->List (Q3)->Int->Int->List (Q4)->Option (List (Q4)×Unit))(ae:(Q3)×Unit->Option ((Q4)×Unit))(ac:List (Q3))(aj:Int)(ak:Int)(ah:List (Q4)):Option (List (Q4)×Unit) :=
  (bif decide (ak < aj)then (Option.bind (idx ac ak) λ v1=>(Option.bind (ae ((v1.1,v1.2.1,v1.2.2.1,()),())) λ v2=>(bif decide (ah.length+(1:Nat)<=memMax)then r0 ae ac aj (IntKind.i64.wrap (ak+1)) (ah++[v2.1])else none)))else some (ah,()))
def yBD(n:Nat)(k:Nat)(ae:(Q3)×Unit->Option ((Q4)×Unit))(ac:List (Q3))(aj:Int)(ak:Int)(ah:List (Q4)):Option (List (Q4)×Unit) :=
  iter (λ r y=>yKS n (λ ae ac aj ak ah=>r ((ae,(ac,(aj,(ak,())))),((ah,()),()))) y.1.1 y.1.2.1 y.1.2.2.1 y.1.2.2.2.1 y.2.1.1) k ((ae,(ac,(aj,(ak,())))),((ah,()),()))
def zA_m(n:Nat)(l:List (Q3))(of:(Q3)×Unit->Option ((Q4)×Unit)):Option (List (Q4)×Unit) :=
  (yBD n n (of) (l) ((↑l.length:Int)) ((0:Int)) ([]))
theorem yfV(n:Nat)(x:zA_a.den):runF zA_g (ybY n) Tryz.f162 zA_a zA_r x=zA_m n x.1 x.2.1:=by kernel_rfl
def yJC(ae:(Q3)×Unit->Option ((Q4)×Unit))(ac:List (Q3))(ak:Int)(v1:Q3)(ah:List (Q4)):Option ((List (Q4)×Unit)⊕(List (Q4))) :=
  (Option.bind (ae ((v1.1,v1.2.1,v1.2.2.1,()),())) λ v2=>(bif decide (ah.length+(1:Nat)<=memMax)then (some (Sum.inr (ah++[v2.1])))else none))
def yM4(ae:(Q3)×Unit->Option ((Q4)×Unit))(ac:List (Q3))(ah:List (Q4)):Option (List (Q4)×Unit) :=
  (some ((ah,())))
theorem yHS(n:Nat)(hn:big<=n)(ae:(Q3)×Unit->Option ((Q4)×Unit))(ac:List (Q3))(ah:List (Q4))(hx:List.length (ac) < lenMax):LeF some (yM (λ af aC a7=>yJC ae ac af aC a7) (λ a7=>yM4 ae ac a7) 0 (ac) ah) (yBD n n ae ac (List.length (ac):Int) 0 ah):=by
  refine yQ (f:=some) (W:=λ aJ af a7=>yBD n aJ ae ac (List.length (ac):Int) af a7) (body:=(λ af aC a7=>yJC ae ac af aC a7)) (fin:=(λ a7=>yM4 ae ac a7)) (λ aJ af a7=>?_) hx ah n (by unfold big at hn;unfold lenMax at hx;omega)
  show LeF _ _ (yKS n (yBD n aJ) ae ac (List.length (ac):Int) af a7)
  exact y6 (y8 λ v1=>(y8 λ v2=>(y6 (y7 rfl) yq))) (yr (y7 rfl))
def zA_M(l:List (Q3))(of:(Q3)×Unit->Option ((Q4)×Unit)):Option (List (Q4)×Unit) :=
  (bif decide (List.length (l) < lenMax)then yM (λ af aC a7=>yJC (of) (l) af aC a7) (λ a7=>yM4 (of) (l) a7) 0 (l) ([])else none)
theorem yZt(l:List (Q3))(of:(Q3)×Unit->Option ((Q4)×Unit))(y:List (Q4)×Unit)(h:zA_M l of=some y):∃ n,zA_m n l of=some y :=
  ⟨big,LeF.top (show LeF some (zA_M l of) (zA_m big l of)from (λ (n:Nat) (hn:big<=n)=>show LeF some (zA_M l of) (zA_m n l of)from (yN λ hx=>by apply yHS n hn;exact hx)) big (Nat.le_refl _)) h⟩
def zA_e:Entry:={ f:=162,args:=zA_a,ress:=zA_r,m:=λ x=>zA_M x.1 x.2.1 }
theorem yRj:FnOK Tryz.prog zA_e:=yJ (g:=zA_g) (fn:=Tryz.f162) yC yI eNil (by kernel_rfl) (by kernel_rfl) (by kernel_rfl) (λ x y h=>let ⟨n,hn⟩:=yZt x.1 x.2.1 y h;⟨ybY n,iNil,(yfV n x).trans hn⟩)
abbrev zl_a:Ty:=.pair t183 (.pair t3 (.pair t23 .unit))
abbrev zl_r:Ty:=.pair t183 .unit
def zl_g:G:={ T:=T,E:=[],muts:=[],fz:=[11] }
def zl_k:List (List Nat):=[[0,1,2,7,13,14]]
def yXc(n:Nat):Ann:={ keep:=zl_k,fuel:=n,inl:=[],deep:=0 }
def yLT(n:Nat)(r0:List (List (Q4))->Int->List (Q4)->Int->Int->List (List (Q4))->Option (List (List (Q4))×Unit))(aB:List (List (Q4)))(aK:Int)(aX:List (Q4))(bQ:Int)(av:Int)(ah:List (List (Q4))):Option (List (List (Q4))×Unit) :=
  (bif decide (av < bQ)then (Option.bind (idx aB av) λ v1=>(bif Bool.true && decide ((0:Int)<=(↑v1.length:Int)) && decide ((↑v1.length:Int)<=(↑memMax:Int)) && (↑v1.length:Int)==(↑v1.length:Int)then (Option.bind (idx ah av) λ v2=>(Option.bind (ah[av.toNat]?) λ v3=>(Option.bind (idx (ah.set av.toNat (List.replicate ((↑v1.length:Int).toNat) (((0:Int),(0:Int),())):List (Q4))) av) λ v4=>(Option.bind ((ah.set av.toNat (List.replicate ((↑v1.length:Int).toNat) (((0:Int),(0:Int),())):List (Q4)))[av.toNat]?) λ v5=>(Option.bind (idx aB av) λ v6=>(Option.bind ((ah.set av.toNat (List.replicate ((↑v1.length:Int).toNat) (((0:Int),(0:Int),())):List (Q4)))[av.toNat]?) λ v7=>(bif decide (v6.length=v7.length)then (Option.bind (idx ((ah.set av.toNat (List.replicate ((↑v1.length:Int).toNat) (((0:Int),(0:Int),())):List (Q4))).set av.toNat v6) av) λ v8=>(Option.bind (((ah.set av.toNat (List.replicate ((↑v1.length:Int).toNat) (((0:Int),(0:Int),())):List (Q4))).set av.toNat v6)[av.toNat]?) λ v9=>(Option.bind (idx aX av) λ v10=>(Option.bind (((ah.set av.toNat (List.replicate ((↑v1.length:Int).toNat) (((0:Int),(0:Int),())):List (Q4))).set av.toNat v6)[av.toNat]?) λ v11=>(Option.bind (idx v11 aK) λ v12=>(Option.bind (((ah.set av.toNat (List.replicate ((↑v1.length:Int).toNat) (((0:Int),(0:Int),())):List (Q4))).set av.toNat v6)[av.toNat]?) λ v13=>(Option.bind (v13[aK.toNat]?) λ v14=>r0 aB aK aX bQ (IntKind.i64.wrap (av+1)) (((ah.set av.toNat (List.replicate ((↑v1.length:Int).toNat) (((0:Int),(0:Int),())):List (Q4))).set av.toNat v6).set av.toNat (v13.set aK.toNat v10)))))))))else none)))))))else none))else some (ah,()))
def yA1(n:Nat)(k:Nat)(aB:List (List (Q4)))(aK:Int)(aX:List (Q4))(bQ:Int)(av:Int)(ah:List (List (Q4))):Option (List (List (Q4))×Unit) :=
  iter (λ r y=>yLT n (λ aB aK aX bQ av ah=>r ((aB,(aK,(aX,(bQ,(av,()))))),((ah,()),()))) y.1.1 y.1.2.1 y.1.2.2.1 y.1.2.2.2.1 y.1.2.2.2.2.1 y.2.1.1) k ((aB,(aK,(aX,(bQ,(av,()))))),((ah,()),()))
def zl_m(n:Nat)(m:List (List (Q4)))(column:Int)(values:List (Q4)):Option (List (List (Q4))×Unit) :=
  (bif Bool.true && decide ((0:Int)<=(↑m.length:Int)) && decide ((↑m.length:Int)<=(↑memMax:Int)) && (↑m.length:Int)==(↑m.length:Int)then (yA1 n n (m) (column) (values) ((↑m.length:Int)) ((0:Int)) ((List.replicate ((↑m.length:Int).toNat) ([]):List (List (Q4)))))else none)
theorem yck(n:Nat)(x:zl_a.den):runF zl_g (yXc n) Tryz.f164 zl_a zl_r x=zl_m n x.1 x.2.1 x.2.2.1:=by kernel_rfl
def yHc(aB:List (List (Q4)))(aK:Int)(aX:List (Q4))(av:Int)(v1:List (Q4))(ah:List (List (Q4))):Option ((List (List (Q4))×Unit)⊕(List (List (Q4)))) :=
  (bif Bool.true && decide ((0:Int)<=(↑v1.length:Int)) && decide ((↑v1.length:Int)<=(↑memMax:Int)) && (↑v1.length:Int)==(↑v1.length:Int)then (Option.bind (idx ah av) λ v2=>(Option.bind (ah[av.toNat]?) λ v3=>(Option.bind (idx (ah.set av.toNat (List.replicate ((↑v1.length:Int).toNat) (((0:Int),(0:Int),())):List (Q4))) av) λ v4=>(Option.bind ((ah.set av.toNat (List.replicate ((↑v1.length:Int).toNat) (((0:Int),(0:Int),())):List (Q4)))[av.toNat]?) λ v5=>(Option.bind (idx aB av) λ v6=>(Option.bind ((ah.set av.toNat (List.replicate ((↑v1.length:Int).toNat) (((0:Int),(0:Int),())):List (Q4)))[av.toNat]?) λ v7=>(bif decide (v6.length=v7.length)then (Option.bind (idx ((ah.set av.toNat (List.replicate ((↑v1.length:Int).toNat) (((0:Int),(0:Int),())):List (Q4))).set av.toNat v6) av) λ v8=>(Option.bind (((ah.set av.toNat (List.replicate ((↑v1.length:Int).toNat) (((0:Int),(0:Int),())):List (Q4))).set av.toNat v6)[av.toNat]?) λ v9=>(Option.bind (idx aX av) λ v10=>(Option.bind (((ah.set av.toNat (List.replicate ((↑v1.length:Int).toNat) (((0:Int),(0:Int),())):List (Q4))).set av.toNat v6)[av.toNat]?) λ v11=>(Option.bind (idx v11 aK) λ v12=>(Option.bind (((ah.set av.toNat (List.replicate ((↑v1.length:Int).toNat) (((0:Int),(0:Int),())):List (Q4))).set av.toNat v6)[av.toNat]?) λ v13=>(Option.bind (v13[aK.toNat]?) λ v14=>(some (Sum.inr (((ah.set av.toNat (List.replicate ((↑v1.length:Int).toNat) (((0:Int),(0:Int),())):List (Q4))).set av.toNat v6).set av.toNat (v13.set aK.toNat v10)))))))))))else none)))))))else none)
def yIw(aB:List (List (Q4)))(aK:Int)(aX:List (Q4))(ah:List (List (Q4))):Option (List (List (Q4))×Unit) :=
  (some ((ah,())))
theorem yID(n:Nat)(hn:big<=n)(aB:List (List (Q4)))(aK:Int)(aX:List (Q4))(ah:List (List (Q4)))(hx:List.length (aB) < lenMax):LeF some (yM (λ af aC a7=>yHc aB aK aX af aC a7) (λ a7=>yIw aB aK aX a7) 0 (aB) ah) (yA1 n n aB aK aX (List.length (aB):Int) 0 ah):=by
  refine yQ (f:=some) (W:=λ aJ af a7=>yA1 n aJ aB aK aX (List.length (aB):Int) af a7) (body:=(λ af aC a7=>yHc aB aK aX af aC a7)) (fin:=(λ a7=>yIw aB aK aX a7)) (λ aJ af a7=>?_) hx ah n (by unfold big at hn;unfold lenMax at hx;omega)
  show LeF _ _ (yLT n (yA1 n aJ) aB aK aX (List.length (aB):Int) af a7)
  exact y6 (y8 λ v1=>(y6 (y8 λ v2=>(y8 λ v3=>(y8 λ v4=>(y8 λ v5=>(y8 λ v6=>(y8 λ v7=>(y6 (y8 λ v8=>(y8 λ v9=>(y8 λ v10=>(y8 λ v11=>(y8 λ v12=>(y8 λ v13=>(y8 λ v14=>(y7 rfl)))))))) yq))))))) yq)) (yr (y7 rfl))
def zl_M(m:List (List (Q4)))(column:Int)(values:List (Q4)):Option (List (List (Q4))×Unit) :=
  (bif Bool.true && decide ((0:Int)<=(↑m.length:Int)) && decide ((↑m.length:Int)<=(↑memMax:Int)) && (↑m.length:Int)==(↑m.length:Int)then (bif decide (List.length (m) < lenMax)then yM (λ af aC a7=>yHc (m) (column) (values) af aC a7) (λ a7=>yIw (m) (column) (values) a7) 0 (m) ((List.replicate ((↑m.length:Int).toNat) ([]):List (List (Q4))))else none)else none)
theorem yYj(m:List (List (Q4)))(column:Int)(values:List (Q4))(y:List (List (Q4))×Unit)(h:zl_M m column values=some y):∃ n,zl_m n m column values=some y :=
  ⟨big,LeF.top (show LeF some (zl_M m column values) (zl_m big m column values)from (λ (n:Nat) (hn:big<=n)=>show LeF some (zl_M m column values) (zl_m n m column values)from (y6 (yN λ hx=>by apply yID n hn;exact hx) yq)) big (Nat.le_refl _)) h⟩
def zl_e:Entry:={ f:=164,args:=zl_a,ress:=zl_r,m:=λ x=>zl_M x.1 x.2.1 x.2.2.1 }
theorem yWv:FnOK Tryz.prog zl_e:=yJ (g:=zl_g) (fn:=Tryz.f164) yC yI eNil (by kernel_rfl) (by kernel_rfl) (by kernel_rfl) (λ x y h=>let ⟨n,hn⟩:=yYj x.1 x.2.1 x.2.2.1 y h;⟨yXc n,iNil,(yck n x).trans hn⟩)
abbrev ySp:Ty:=.pair t96 (.pair t3 (.pair t23 .unit))
abbrev yZR:Ty:=.pair t96 .unit
def ya9:G:={ T:=T,E:=[],muts:=[7,16],fz:=[] }
def ydi:List (List Nat):=[[0,1,2,7,8]]
def yQ1(n:Nat):Ann:={ keep:=ydi,fuel:=n,inl:=[],deep:=0 }
def yGN(n:Nat)(r0:List (List (Q4))->Int->List (Q4)->Int->List (List (Q4))->Option (List (List (Q4))×Unit))(aB:List (List (Q4)))(aQ:Int)(aY:List (Q4))(cT:Int)(ah:List (List (Q4))):Option (List (List (Q4))×Unit) :=
  (bif decide (cT < (↑aB.length:Int))then (Option.bind (idx aB cT) λ v1=>(bif decide ((0:Nat)+v1.length<=memMax)then (Option.bind (idx aY cT) λ v2=>(Option.bind (idx v1 aQ) λ v3=>(Option.bind (v1[aQ.toNat]?) λ v4=>(bif decide (ah.length+(1:Nat)<=memMax)then r0 aB aQ aY (IntKind.i64.wrap (cT+1)) (ah++[v1.set aQ.toNat v2])else none))))else none))else some (ah,()))
def y7O(n:Nat)(k:Nat)(aB:List (List (Q4)))(aQ:Int)(aY:List (Q4))(cT:Int)(ah:List (List (Q4))):Option (List (List (Q4))×Unit) :=
  iter (λ r y=>yGN n (λ aB aQ aY cT ah=>r ((aB,(aQ,(aY,(cT,())))),((ah,()),()))) y.1.1 y.1.2.1 y.1.2.2.1 y.1.2.2.2.1 y.2.1.1) k ((aB,(aQ,(aY,(cT,())))),((ah,()),()))
def yMt(n:Nat)(m:List (List (Q4)))(k1:Int)(column:List (Q4)):Option (List (List (Q4))×Unit) :=
  (y7O n n (m) (k1) (column) ((0:Int)) ([]))
theorem yY1(n:Nat)(x:ySp.den):runF ya9 (yQ1 n) Tryz.f169 ySp yZR x=yMt n x.1 x.2.1 x.2.2.1:=by kernel_rfl
def y9E(aB:List (List (Q4)))(aQ:Int)(aY:List (Q4))(cT:Int)(v1:List (Q4))(ah:List (List (Q4))):Option ((List (List (Q4))×Unit)⊕(List (List (Q4)))) :=
  (bif decide ((0:Nat)+v1.length<=memMax)then (Option.bind (idx aY cT) λ v2=>(Option.bind (idx v1 aQ) λ v3=>(Option.bind (v1[aQ.toNat]?) λ v4=>(bif decide (ah.length+(1:Nat)<=memMax)then (some (Sum.inr (ah++[v1.set aQ.toNat v2])))else none))))else none)
def yDH(aB:List (List (Q4)))(aQ:Int)(aY:List (Q4))(ah:List (List (Q4))):Option (List (List (Q4))×Unit) :=
  (some ((ah,())))
theorem yDq(n:Nat)(hn:big<=n)(aB:List (List (Q4)))(aQ:Int)(aY:List (Q4))(ah:List (List (Q4)))(hx:List.length (aB) < lenMax):LeF some (yM (λ af aC a7=>y9E aB aQ aY af aC a7) (λ a7=>yDH aB aQ aY a7) 0 (aB) ah) (y7O n n aB aQ aY 0 ah):=by
  refine yQ (f:=some) (W:=λ aJ af a7=>y7O n aJ aB aQ aY af a7) (body:=(λ af aC a7=>y9E aB aQ aY af aC a7)) (fin:=(λ a7=>yDH aB aQ aY a7)) (λ aJ af a7=>?_) hx ah n (by unfold big at hn;unfold lenMax at hx;omega)
  show LeF _ _ (yGN n (y7O n aJ) aB aQ aY af a7)
  exact y6 (y8 λ v1=>(y6 (y8 λ v2=>(y8 λ v3=>(y8 λ v4=>(y6 (y7 rfl) yq)))) yq)) (yr (y7 rfl))
def yBe(m:List (List (Q4)))(k1:Int)(column:List (Q4)):Option (List (List (Q4))×Unit) :=
  (bif decide (List.length (m) < lenMax)then yM (λ af aC a7=>y9E (m) (k1) (column) af aC a7) (λ a7=>yDH (m) (k1) (column) a7) 0 (m) ([])else none)
theorem yRV(m:List (List (Q4)))(k1:Int)(column:List (Q4))(y:List (List (Q4))×Unit)(h:yBe m k1 column=some y):∃ n,yMt n m k1 column=some y :=
  ⟨big,LeF.top (show LeF some (yBe m k1 column) (yMt big m k1 column)from (λ (n:Nat) (hn:big<=n)=>show LeF some (yBe m k1 column) (yMt n m k1 column)from (yN λ hx=>by apply yDq n hn;exact hx)) big (Nat.le_refl _)) h⟩
def z01_e:Entry:={ f:=169,args:=ySp,ress:=yZR,m:=λ x=>yBe x.1 x.2.1 x.2.2.1 }
theorem yYJ:FnOK Tryz.prog z01_e:=yJ (g:=ya9) (fn:=Tryz.f169) yC yI eNil (by kernel_rfl) (by kernel_rfl) (by kernel_rfl) (λ x y h=>let ⟨n,hn⟩:=yRV x.1 x.2.1 x.2.2.1 y h;⟨yQ1 n,iNil,(yY1 n x).trans hn⟩)
abbrev yT5:Ty:=.pair t210 .unit
abbrev yXO:Ty:=.pair t4 .unit
def yWZ:G:={ T:=T,E:=[],muts:=[],fz:=[] }
def ycf:List (List Nat):=[]
def yQ3(n:Nat):Ann:={ keep:=ycf,fuel:=n,inl:=[],deep:=0 }
def yOQ(n:Nat)(f:Nat):Option (Bool×Unit) :=
  some (yw Go.BinOp.neq Go.FloatKind.f64 f f,())
theorem yX8(n:Nat)(x:yT5.den):runF yWZ (yQ3 n) Tryz.f171 yT5 yXO x=yOQ n x.1:=by kernel_rfl
def z0z(f:Nat):(Bool×Unit) :=
  (yw Go.BinOp.neq Go.FloatKind.f64 f f,())
abbrev yY0 (f:Nat):Option (Bool×Unit):=some (z0z f)
theorem yUT(f:Nat)(y:Bool×Unit)(h:yY0 f=some y):∃ n,yOQ n f=some y :=
  ⟨0,by rw[<- h];show yOQ 0 f=some (z0z f);unfold yOQ z0z;first|rfl|(simp only[yG];done)|(simp only[yG];rfl)⟩
def z0z_e:Entry:={ f:=171,args:=yT5,ress:=yXO,m:=λ x=>yY0 x.1 }
theorem yZ7:FnOK Tryz.prog z0z_e:=yJ (g:=yWZ) (fn:=Tryz.f171) yC yI eNil (by kernel_rfl) (by kernel_rfl) (by kernel_rfl) (λ x y h=>let ⟨n,hn⟩:=yUT x.1 y h;⟨yQ3 n,iNil,(yX8 n x).trans hn⟩)
abbrev zN_a:Ty:=.pair t41 (.pair t233 .unit)
abbrev zN_r:Ty:=.pair t161 .unit
def zN_g:G:={ T:=T,E:=[],muts:=[5],fz:=[] }
def zN_k:List (List Nat):=[[1,5,8,9,10]]
def yXS(n:Nat):Ann:={ keep:=zN_k,fuel:=n,inl:=[],deep:=0 }
def yRs(n:Nat)(r0:(Int×Unit->Option (List UInt8×Unit))->List Int->Int->Int->List (List UInt8)->Option (List (List UInt8)×Unit))(ae:Int×Unit->Option (List UInt8×Unit))(ac:List Int)(aj:Int)(ak:Int)(ah:List (List UInt8)):Option (List (List UInt8)×Unit) :=
  (bif decide (ak < aj)then (Option.bind (idx ac ak) λ v1=>(Option.bind (ae (v1,())) λ v2=>(bif decide (ah.length+(1:Nat)<=memMax)then r0 ae ac aj (IntKind.i64.wrap (ak+1)) (ah++[v2.1])else none)))else some (ah,()))
def yTF(n:Nat)(k:Nat)(ae:Int×Unit->Option (List UInt8×Unit))(ac:List Int)(aj:Int)(ak:Int)(ah:List (List UInt8)):Option (List (List UInt8)×Unit) :=
  iter (λ r y=>yRs n (λ ae ac aj ak ah=>r ((ae,(ac,(aj,(ak,())))),((ah,()),()))) y.1.1 y.1.2.1 y.1.2.2.1 y.1.2.2.2.1 y.2.1.1) k ((ae,(ac,(aj,(ak,())))),((ah,()),()))
def zN_m(n:Nat)(l:List Int)(of:Int×Unit->Option (List UInt8×Unit)):Option (List (List UInt8)×Unit) :=
  (yTF n n (of) (l) ((↑l.length:Int)) ((0:Int)) ([]))
theorem yf4(n:Nat)(x:zN_a.den):runF zN_g (yXS n) Tryz.f176 zN_a zN_r x=zN_m n x.1 x.2.1:=by kernel_rfl
def zN_M(l:List Int)(of:Int×Unit->Option (List UInt8×Unit)):Option (List (List UInt8)×Unit):=zN_m 1000 l of
theorem yVY(l:List Int)(of:Int×Unit->Option (List UInt8×Unit))(y:List (List UInt8)×Unit)(h:zN_M l of=some y):∃ n,zN_m n l of=some y:=⟨1000,h⟩
def zN_e:Entry:={ f:=176,args:=zN_a,ress:=zN_r,m:=λ x=>zN_M x.1 x.2.1 }
theorem ydR:FnOK Tryz.prog zN_e:=yJ (g:=zN_g) (fn:=Tryz.f176) yC yI eNil (by kernel_rfl) (by kernel_rfl) (by kernel_rfl) (λ x y h=>let ⟨n,hn⟩:=yVY x.1 x.2.1 y h;⟨yXS n,iNil,(yf4 n x).trans hn⟩)
abbrev yTw:Ty:=.pair t3 (.pair t3 .unit)
abbrev yWu:Ty:=.pair t3 .unit
def yat:G:={ T:=T,E:=[],muts:=[],fz:=[] }
def yeo:List (List Nat):=[[0,1]]
def yQR(n:Nat):Ann:={ keep:=yeo,fuel:=n,inl:=[],deep:=0 }
def yFM(n:Nat)(r0:Int->Int->Option (Int×Unit))(aE:Int)(aI:Int):Option (Int×Unit) :=
  (bif aI != 0 then (bif aI==0 then none else r0 aI (aE.tmod aI))else some (aE,()))
def y7M(n:Nat)(k:Nat)(aE:Int)(aI:Int):Option (Int×Unit) :=
  iter (λ r y=>yFM n (λ aE aI=>r ((aE,(aI,())),((),()))) y.1.1 y.1.2.1) k ((aE,(aI,())),((),()))
def yMm(n:Nat)(a:Int)(b:Int):Option (Int×Unit) :=
  (y7M n n (a) (b))
theorem yav(n:Nat)(x:yTw.den):runF yat (yQR n) Tryz.f185 yTw yWu x=yMm n x.1 x.2.1:=by kernel_rfl
def yC7(aE:Int)(aI:Int):Option ((Int×Unit)⊕(Int×Int)) :=
  (bif aI != 0 then (bif aI==0 then none else (some (Sum.inr ((aI),(aE.tmod aI)))))else (some (Sum.inl ((aE,())))))
theorem yDu(n:Nat)(hn:big<=n)(aE:Int)(aI:Int):LeF some (y1e (λ a7=>yC7 a7.1 a7.2) wMax (aE,aI)) (y7M n n aE aI):=by
  refine y37 (f:=some) (W:=λ aJ a7=>y7M n aJ a7.1 a7.2) (body:=(λ a7=>yC7 a7.1 a7.2)) (λ aJ a7=>?_) wMax n (aE,aI) (by unfold big at hn;unfold wMax;omega)
  show LeF _ _ (yFM n (y7M n aJ) a7.1 a7.2)
  exact (y6 (y6 yq (y7 rfl)) (y7 rfl))
def y6a(a:Int)(b:Int):Option (Int×Unit) :=
  (y1e (λ a7=>yC7 a7.1 a7.2) wMax ((a),(b)))
theorem ySf(a:Int)(b:Int)(y:Int×Unit)(h:y6a a b=some y):∃ n,yMm n a b=some y :=
  ⟨big,LeF.top (show LeF some (y6a a b) (yMm big a b)from (λ (n:Nat) (hn:big<=n)=>show LeF some (y6a a b) (yMm n a b)from (by apply yDu n hn)) big (Nat.le_refl _)) h⟩
def z0A_e:Entry:={ f:=185,args:=yTw,ress:=yWu,m:=λ x=>y6a x.1 x.2.1 }
theorem yYD:FnOK Tryz.prog z0A_e:=yJ (g:=yat) (fn:=Tryz.f185) yC yI eNil (by kernel_rfl) (by kernel_rfl) (by kernel_rfl) (λ x y h=>let ⟨n,hn⟩:=ySf x.1 x.2.1 y h;⟨yQR n,iNil,(yav n x).trans hn⟩)
abbrev yUR:Ty:=.pair t9 .unit
abbrev yXp:Ty:=.pair t4 .unit
def yX7:G:={ T:=T,E:=[],muts:=[],fz:=[] }
def yee:List (List Nat):=[[0,3]]
def yPs(n:Nat):Ann:={ keep:=yee,fuel:=n,inl:=[],deep:=0 }
def y3k(n:Nat)(r2:List UInt8->Int->Option (Bool×Unit))(bI:List UInt8)(ci:Int)(v3:UInt8):Option (Bool×Unit) :=
  (bif ci==0 then some (Bool.false,())else (bif (↑v3.toNat:Int) != 95 then (bif decide ((↑v3.toNat:Int) < 48)then some (Bool.false,())else (bif decide ((↑v3.toNat:Int) > 57)then some (Bool.false,())else r2 bI (IntKind.i64.wrap (ci+1))))else r2 bI (IntKind.i64.wrap (ci+1))))
def yGJ(n:Nat)(r2:List UInt8->Int->Option (Bool×Unit))(bI:List UInt8)(ci:Int):Option (Bool×Unit) :=
  (bif decide (ci < (↑bI.length:Int))then (Option.bind (idx bI ci) λ v3=>(bif decide ((↑v3.toNat:Int) >= 97)then (bif decide ((↑v3.toNat:Int)<=122)then r2 bI (IntKind.i64.wrap (ci+1))else (bif decide ((↑v3.toNat:Int) >= 65)then (bif decide ((↑v3.toNat:Int)<=90)then r2 bI (IntKind.i64.wrap (ci+1))else (y3k n r2 bI ci v3))else (y3k n r2 bI ci v3)))else (bif decide ((↑v3.toNat:Int) >= 65)then (bif decide ((↑v3.toNat:Int)<=90)then r2 bI (IntKind.i64.wrap (ci+1))else (y3k n r2 bI ci v3))else (y3k n r2 bI ci v3))))else some (Bool.true,()))
def y6k(n:Nat)(k:Nat)(bI:List UInt8)(ci:Int):Option (Bool×Unit) :=
  iter (λ r y=>yGJ n (λ bI ci=>r ((bI,(ci,())),((),()))) y.1.1 y.1.2.1) k ((bI,(ci,())),((),()))
def yOf(n:Nat)(s:List UInt8):Option (Bool×Unit) :=
  (bif (↑s.length:Int)==0 then some (Bool.false,())else (bif decide ((↑s.length:Int) > 24)then some (Bool.false,())else (y6k n n (s) ((0:Int)))))
theorem yca(n:Nat)(x:yUR.den):runF yX7 (yPs n) Tryz.f187 yUR yXp x=yOf n x.1:=by kernel_rfl
def y5p(bI:List UInt8)(ci:Int)(v3:UInt8):Option ((Bool×Unit)⊕Unit) :=
  (bif ci==0 then (some (Sum.inl ((Bool.false,()))))else (bif (↑v3.toNat:Int) != 95 then (bif decide ((↑v3.toNat:Int) < 48)then (some (Sum.inl ((Bool.false,()))))else (bif decide ((↑v3.toNat:Int) > 57)then (some (Sum.inl ((Bool.false,()))))else (some (Sum.inr ()))))else (some (Sum.inr ()))))
theorem y0X(n:Nat)(hn:big<=n)(r2:List UInt8->Int->Option (Bool×Unit))(bI:List UInt8)(ci:Int)(v3:UInt8):LeF (elim some λ (a7:Unit)=>r2 bI (IntKind.i64.wrap (ci+1))) (y5p bI ci v3) (y3k n r2 bI ci v3) :=
  (y6 (y7 rfl) (y6 (y6 (y7 rfl) (y6 (y7 rfl) (y7 rfl))) (y7 rfl)))
def y9U(bI:List UInt8)(ci:Int)(v3:UInt8):Option ((Bool×Unit)⊕Unit) :=
  (bif decide ((↑v3.toNat:Int) >= 97)then (bif decide ((↑v3.toNat:Int)<=122)then (some (Sum.inr ()))else (bif decide ((↑v3.toNat:Int) >= 65)then (bif decide ((↑v3.toNat:Int)<=90)then (some (Sum.inr ()))else (y5p bI ci v3))else (y5p bI ci v3)))else (bif decide ((↑v3.toNat:Int) >= 65)then (bif decide ((↑v3.toNat:Int)<=90)then (some (Sum.inr ()))else (y5p bI ci v3))else (y5p bI ci v3)))
def yGm(bI:List UInt8):Option (Bool×Unit) :=
  (some ((Bool.true,())))
theorem yEq(n:Nat)(hn:big<=n)(bI:List UInt8)(hx:List.length (bI) < lenMax):LeF some (yM (λ af aC a7=>y9U bI af aC) (λ a7=>yGm bI) 0 (bI) ()) (y6k n n bI 0):=by
  refine yQ (f:=some) (W:=λ aJ af a7=>y6k n aJ bI af) (body:=(λ af aC a7=>y9U bI af aC)) (fin:=(λ a7=>yGm bI)) (λ aJ af a7=>?_) hx () n (by unfold big at hn;unfold lenMax at hx;omega)
  show LeF _ _ (yGJ n (y6k n aJ) bI af)
  exact y6 (y8 λ v3=>(y6 (y6 (y7 rfl) (y6 (y6 (y7 rfl) (by apply y0X n hn)) (by apply y0X n hn))) (y6 (y6 (y7 rfl) (by apply y0X n hn)) (by apply y0X n hn)))) (yr (y7 rfl))
def yE9(s:List UInt8):Option (Bool×Unit) :=
  (bif (↑s.length:Int)==0 then (some ((Bool.false,())))else (bif decide ((↑s.length:Int) > 24)then (some ((Bool.false,())))else (bif decide (List.length (s) < lenMax)then yM (λ af aC a7=>y9U (s) af aC) (λ a7=>yGm (s)) 0 (s) ()else none)))
theorem yV9(s:List UInt8)(y:Bool×Unit)(h:yE9 s=some y):∃ n,yOf n s=some y :=
  ⟨big,LeF.top (show LeF some (yE9 s) (yOf big s)from (λ (n:Nat) (hn:big<=n)=>show LeF some (yE9 s) (yOf n s)from (y6 (y7 rfl) (y6 (y7 rfl) (yN λ hx=>by apply yEq n hn;exact hx)))) big (Nat.le_refl _)) h⟩
def z0I_e:Entry:={ f:=187,args:=yUR,ress:=yXp,m:=λ x=>yE9 x.1 }
theorem ycT:FnOK Tryz.prog z0I_e:=yJ (g:=yX7) (fn:=Tryz.f187) yC yI eNil (by kernel_rfl) (by kernel_rfl) (by kernel_rfl) (λ x y h=>let ⟨n,hn⟩:=yV9 x.1 y h;⟨yPs n,iNil,(yca n x).trans hn⟩)
abbrev ySw:Ty:=.pair t55 .unit
abbrev yWJ:Ty:=.pair t55 .unit
def yWK:G:={ T:=T,E:=[],muts:=[],fz:=[] }
def ycq:List (List Nat):=[]
def yQ8(n:Nat):Ann:={ keep:=ycq,fuel:=n,inl:=[],deep:=0 }
def yO1(n:Nat)(c:Q3):Option ((Q3)×Unit) :=
  some ((c.1,c.2.1,c.2.2.1,()),())
theorem yYV(n:Nat)(x:ySw.den):runF yWK (yQ8 n) Tryz.f189 ySw yWJ x=yO1 n x.1:=by kernel_rfl
def z07(c:Q3):((Q3)×Unit) :=
  ((c.1,c.2.1,c.2.2.1,()),())
abbrev yMv (c:Q3):Option ((Q3)×Unit):=some (z07 c)
theorem yT9(c:Q3)(y:(Q3)×Unit)(h:yMv c=some y):∃ n,yO1 n c=some y :=
  ⟨0,by rw[<- h];show yO1 0 c=some (z07 c);unfold yO1 z07;first|rfl|(simp only[yG];done)|(simp only[yG];rfl)⟩
def z07_e:Entry:={ f:=189,args:=ySw,ress:=yWJ,m:=λ x=>yMv x.1 }
theorem yWN:FnOK Tryz.prog z07_e:=yJ (g:=yWK) (fn:=Tryz.f189) yC yI eNil (by kernel_rfl) (by kernel_rfl) (by kernel_rfl) (λ x y h=>let ⟨n,hn⟩:=yT9 x.1 y h;⟨yQ8 n,iNil,(yYV n x).trans hn⟩)
abbrev yRb:Ty:=.pair t57 (.pair (.ref t3) .unit)
abbrev yak:Ty:=.pair t57 .unit
def yVl:G:={ T:=T,E:=[],muts:=[],fz:=[] }
def ydx:List (List Nat):=[]
def yQC(n:Nat):Ann:={ keep:=ydx,fuel:=n,inl:=[],deep:=0 }
def yMg(n:Nat)(z:Q4)(p1:Int):Option ((Q4)×Unit) :=
  (bif p1==0 then none else (bif p1==0 then none else some ((IntKind.i64.wrap (z.1.tdiv p1),IntKind.i64.wrap (z.2.1.tdiv p1),()),())))
theorem yZK(n:Nat)(x:yRb.den):runF yVl (yQC n) Tryz.f190 yRb yak x=yMg n x.1 x.2.1:=by kernel_rfl
def yLF(z:Q4)(p1:Int):Option ((Q4)×Unit):=yMg 0 z p1
theorem yUk(z:Q4)(p1:Int)(y:(Q4)×Unit)(h:yLF z p1=some y):∃ n,yMg n z p1=some y:=⟨0,h⟩
def z08_e:Entry:={ f:=190,args:=yRb,ress:=yak,m:=λ x=>yLF x.1 x.2.1 }
theorem yaT:FnOK Tryz.prog z08_e:=yJ (g:=yVl) (fn:=Tryz.f190) yC yI eNil (by kernel_rfl) (by kernel_rfl) (by kernel_rfl) (λ x y h=>let ⟨n,hn⟩:=yUk x.1 x.2.1 y h;⟨yQC n,iNil,(yZK n x).trans hn⟩)
abbrev z8_a:Ty:=.pair t31 (.pair t255 .unit)
abbrev z8_r:Ty:=.pair t96 .unit
def z8_g:G:={ T:=T,E:=[],muts:=[5],fz:=[] }
def z8_k:List (List Nat):=[[1,5,8,9,10]]
def yZO(n:Nat):Ann:={ keep:=z8_k,fuel:=n,inl:=[],deep:=0 }
def yLL(n:Nat)(r0:((Q3)×Unit->Option (List (Q4)×Unit))->List (Q3)->Int->Int->List (List (Q4))->Option (List (List (Q4))×Unit))(ae:(Q3)×Unit->Option (List (Q4)×Unit))(ac:List (Q3))(aj:Int)(ak:Int)(ah:List (List (Q4))):Option (List (List (Q4))×Unit) :=
  (bif decide (ak < aj)then (Option.bind (idx ac ak) λ v1=>(Option.bind (ae ((v1.1,v1.2.1,v1.2.2.1,()),())) λ v2=>(bif decide (ah.length+(1:Nat)<=memMax)then r0 ae ac aj (IntKind.i64.wrap (ak+1)) (ah++[v2.1])else none)))else some (ah,()))
def yBI(n:Nat)(k:Nat)(ae:(Q3)×Unit->Option (List (Q4)×Unit))(ac:List (Q3))(aj:Int)(ak:Int)(ah:List (List (Q4))):Option (List (List (Q4))×Unit) :=
  iter (λ r y=>yLL n (λ ae ac aj ak ah=>r ((ae,(ac,(aj,(ak,())))),((ah,()),()))) y.1.1 y.1.2.1 y.1.2.2.1 y.1.2.2.2.1 y.2.1.1) k ((ae,(ac,(aj,(ak,())))),((ah,()),()))
def z8_m(n:Nat)(l:List (Q3))(of:(Q3)×Unit->Option (List (Q4)×Unit)):Option (List (List (Q4))×Unit) :=
  (yBI n n (of) (l) ((↑l.length:Int)) ((0:Int)) ([]))
theorem ye4(n:Nat)(x:z8_a.den):runF z8_g (yZO n) Tryz.f191 z8_a z8_r x=z8_m n x.1 x.2.1:=by kernel_rfl
def yLv(ae:(Q3)×Unit->Option (List (Q4)×Unit))(ac:List (Q3))(ak:Int)(v1:Q3)(ah:List (List (Q4))):Option ((List (List (Q4))×Unit)⊕(List (List (Q4)))) :=
  (Option.bind (ae ((v1.1,v1.2.1,v1.2.2.1,()),())) λ v2=>(bif decide (ah.length+(1:Nat)<=memMax)then (some (Sum.inr (ah++[v2.1])))else none))
def yTL(ae:(Q3)×Unit->Option (List (Q4)×Unit))(ac:List (Q3))(ah:List (List (Q4))):Option (List (List (Q4))×Unit) :=
  (some ((ah,())))
theorem yHV(n:Nat)(hn:big<=n)(ae:(Q3)×Unit->Option (List (Q4)×Unit))(ac:List (Q3))(ah:List (List (Q4)))(hx:List.length (ac) < lenMax):LeF some (yM (λ af aC a7=>yLv ae ac af aC a7) (λ a7=>yTL ae ac a7) 0 (ac) ah) (yBI n n ae ac (List.length (ac):Int) 0 ah):=by
  refine yQ (f:=some) (W:=λ aJ af a7=>yBI n aJ ae ac (List.length (ac):Int) af a7) (body:=(λ af aC a7=>yLv ae ac af aC a7)) (fin:=(λ a7=>yTL ae ac a7)) (λ aJ af a7=>?_) hx ah n (by unfold big at hn;unfold lenMax at hx;omega)
  show LeF _ _ (yLL n (yBI n aJ) ae ac (List.length (ac):Int) af a7)
  exact y6 (y8 λ v1=>(y8 λ v2=>(y6 (y7 rfl) yq))) (yr (y7 rfl))
def z8_M(l:List (Q3))(of:(Q3)×Unit->Option (List (Q4)×Unit)):Option (List (List (Q4))×Unit) :=
  (bif decide (List.length (l) < lenMax)then yM (λ af aC a7=>yLv (of) (l) af aC a7) (λ a7=>yTL (of) (l) a7) 0 (l) ([])else none)
theorem yVj(l:List (Q3))(of:(Q3)×Unit->Option (List (Q4)×Unit))(y:List (List (Q4))×Unit)(h:z8_M l of=some y):∃ n,z8_m n l of=some y :=
  ⟨big,LeF.top (show LeF some (z8_M l of) (z8_m big l of)from (λ (n:Nat) (hn:big<=n)=>show LeF some (z8_M l of) (z8_m n l of)from (yN λ hx=>by apply yHV n hn;exact hx)) big (Nat.le_refl _)) h⟩
def z8_e:Entry:={ f:=191,args:=z8_a,ress:=z8_r,m:=λ x=>z8_M x.1 x.2.1 }
theorem yfG:FnOK Tryz.prog z8_e:=yJ (g:=z8_g) (fn:=Tryz.f191) yC yI eNil (by kernel_rfl) (by kernel_rfl) (by kernel_rfl) (λ x y h=>let ⟨n,hn⟩:=yVj x.1 x.2.1 y h;⟨yZO n,iNil,(ye4 n x).trans hn⟩)
abbrev zI_a:Ty:=.pair t35 (.pair t259 .unit)
abbrev zI_r:Ty:=.pair t175 .unit
def zI_g:G:={ T:=T,E:=[],muts:=[5],fz:=[] }
def zI_k:List (List Nat):=[[1,5,8,9,10]]
def yaG(n:Nat):Ann:={ keep:=zI_k,fuel:=n,inl:=[],deep:=0 }
def yV3(n:Nat)(r0:(Nat×Unit->Option (Int×Unit))->List Nat->Int->Int->List Int->Option (List Int×Unit))(ae:Nat×Unit->Option (Int×Unit))(ac:List Nat)(aj:Int)(ak:Int)(ah:List Int):Option (List Int×Unit) :=
  (bif decide (ak < aj)then (Option.bind (idx ac ak) λ v1=>(Option.bind (ae (v1,())) λ v2=>(bif decide (ah.length+(1:Nat)<=memMax)then r0 ae ac aj (IntKind.i64.wrap (ak+1)) (ah++[v2.1])else none)))else some (ah,()))
def yS0(n:Nat)(k:Nat)(ae:Nat×Unit->Option (Int×Unit))(ac:List Nat)(aj:Int)(ak:Int)(ah:List Int):Option (List Int×Unit) :=
  iter (λ r y=>yV3 n (λ ae ac aj ak ah=>r ((ae,(ac,(aj,(ak,())))),((ah,()),()))) y.1.1 y.1.2.1 y.1.2.2.1 y.1.2.2.2.1 y.2.1.1) k ((ae,(ac,(aj,(ak,())))),((ah,()),()))
def zI_m(n:Nat)(l:List Nat)(of:Nat×Unit->Option (Int×Unit)):Option (List Int×Unit) :=
  (yS0 n n (of) (l) ((↑l.length:Int)) ((0:Int)) ([]))
theorem yfk(n:Nat)(x:zI_a.den):runF zI_g (yaG n) Tryz.f196 zI_a zI_r x=zI_m n x.1 x.2.1:=by kernel_rfl
def zI_M(l:List Nat)(of:Nat×Unit->Option (Int×Unit)):Option (List Int×Unit):=zI_m 1000 l of
theorem yZS(l:List Nat)(of:Nat×Unit->Option (Int×Unit))(y:List Int×Unit)(h:zI_M l of=some y):∃ n,zI_m n l of=some y:=⟨1000,h⟩
def zI_e:Entry:={ f:=196,args:=zI_a,ress:=zI_r,m:=λ x=>zI_M x.1 x.2.1 }
theorem yfC:FnOK Tryz.prog zI_e:=yJ (g:=zI_g) (fn:=Tryz.f196) yC yI eNil (by kernel_rfl) (by kernel_rfl) (by kernel_rfl) (λ x y h=>let ⟨n,hn⟩:=yZS x.1 x.2.1 y h;⟨yaG n,iNil,(yfk n x).trans hn⟩)
abbrev ySB:Ty:=.pair t175 .unit
abbrev yaL:Ty:=.pair t28 .unit
def yVC:G:={ T:=T,E:=[],muts:=[],fz:=[] }
def yeT:List (List Nat):=[[5,6,7]]
def yPV(n:Nat):Ann:={ keep:=yeT,fuel:=n,inl:=[],deep:=0 }
def yFQ(n:Nat)(r0:List Int->Int->Int->Option (Int×Unit))(bw:List Int)(b8:Int)(aR:Int):Option (Int×Unit) :=
  (bif decide (aR < b8)then (Option.bind (idx bw aR) λ v1=>(bif v1 != 0 then some (v1,())else r0 bw b8 (IntKind.i64.wrap (aR+1))))else some ((0:Int),()))
def y74(n:Nat)(k:Nat)(bw:List Int)(b8:Int)(aR:Int):Option (Int×Unit) :=
  iter (λ r y=>yFQ n (λ bw b8 aR=>r ((bw,(b8,(aR,()))),((),()))) y.1.1 y.1.2.1 y.1.2.2.1) k ((bw,(b8,(aR,()))),((),()))
def yMQ(n:Nat)(l:List Int):Option (Int×Unit) :=
  (y74 n n (l) ((↑l.length:Int)) ((0:Int)))
theorem ybq(n:Nat)(x:ySB.den):runF yVC (yPV n) Tryz.f198 ySB yaL x=yMQ n x.1:=by kernel_rfl
def yF8(bw:List Int)(aR:Int)(v1:Int):Option ((Int×Unit)⊕Unit) :=
  (bif v1 != 0 then (some (Sum.inl ((v1,()))))else (some (Sum.inr ())))
def yGE(bw:List Int):Option (Int×Unit) :=
  (some (((0:Int),())))
theorem yEG(n:Nat)(hn:big<=n)(bw:List Int)(hx:List.length (bw) < lenMax):LeF some (yM (λ af aC a7=>yF8 bw af aC) (λ a7=>yGE bw) 0 (bw) ()) (y74 n n bw (List.length (bw):Int) 0):=by
  refine yQ (f:=some) (W:=λ aJ af a7=>y74 n aJ bw (List.length (bw):Int) af) (body:=(λ af aC a7=>yF8 bw af aC)) (fin:=(λ a7=>yGE bw)) (λ aJ af a7=>?_) hx () n (by unfold big at hn;unfold lenMax at hx;omega)
  show LeF _ _ (yFQ n (y74 n aJ) bw (List.length (bw):Int) af)
  exact y6 (y8 λ v1=>(y6 (y7 rfl) (y7 rfl))) (yr (y7 rfl))
def y6Y(l:List Int):Option (Int×Unit) :=
  (bif decide (List.length (l) < lenMax)then yM (λ af aC a7=>yF8 (l) af aC) (λ a7=>yGE (l)) 0 (l) ()else none)
theorem ySD(l:List Int)(y:Int×Unit)(h:y6Y l=some y):∃ n,yMQ n l=some y :=
  ⟨big,LeF.top (show LeF some (y6Y l) (yMQ big l)from (λ (n:Nat) (hn:big<=n)=>show LeF some (y6Y l) (yMQ n l)from (yN λ hx=>by apply yEG n hn;exact hx)) big (Nat.le_refl _)) h⟩
def z0W_e:Entry:={ f:=198,args:=ySB,ress:=yaL,m:=λ x=>y6Y x.1 }
theorem yQP:FnOK Tryz.prog z0W_e:=yJ (g:=yVC) (fn:=Tryz.f198) yC yI eNil (by kernel_rfl) (by kernel_rfl) (by kernel_rfl) (λ x y h=>let ⟨n,hn⟩:=ySD x.1 y h;⟨yPV n,iNil,(ybq n x).trans hn⟩)
abbrev yRE:Ty:=.pair t4 (.pair t28 .unit)
abbrev yXW:Ty:=.pair t28 .unit
def yVZ:G:={ T:=T,E:=[],muts:=[],fz:=[] }
def ye2:List (List Nat):=[]
def yOt(n:Nat):Ann:={ keep:=ye2,fuel:=n,inl:=[],deep:=0 }
def yNy(n:Nat)(holds:Bool)(e:Int):Option (Int×Unit) :=
  (bif holds then some (e,())else some ((0:Int),()))
theorem yWQ(n:Nat)(x:yRE.den):runF yVZ (yOt n) Tryz.f199 yRE yXW x=yNy n x.1 x.2.1:=by kernel_rfl
def z0r(holds:Bool)(e:Int):(Int×Unit) :=
  (bif holds then (e,())else ((0:Int),()))
abbrev yYn (holds:Bool) (e:Int):Option (Int×Unit):=some (z0r holds e)
theorem yQy(holds:Bool)(e:Int)(y:Int×Unit)(h:yYn holds e=some y):∃ n,yNy n holds e=some y :=
  ⟨0,by rw[<- h];show yNy 0 holds e=some (z0r holds e);unfold yNy z0r;first|rfl|(simp only[yG];done)|(simp only[yG];rfl)⟩
def z0r_e:Entry:={ f:=199,args:=yRE,ress:=yXW,m:=λ x=>yYn x.1 x.2.1 }
theorem yBr:FnOK Tryz.prog z0r_e:=yJ (g:=yVZ) (fn:=Tryz.f199) yC yI eNil (by kernel_rfl) (by kernel_rfl) (by kernel_rfl) (λ x y h=>let ⟨n,hn⟩:=yQy x.1 x.2.1 y h;⟨yOt n,iNil,(yWQ n x).trans hn⟩)
abbrev yQi:Ty:=.pair t9 .unit
abbrev yay:Ty:=.pair t4 .unit
def ybO:G:={ T:=T,E:=[],muts:=[],fz:=[] }
def ydp:List (List Nat):=[[0,8]]
def yQM(n:Nat):Ann:={ keep:=ydp,fuel:=n,inl:=[],deep:=0 }
def y4u(n:Nat)(r0:List UInt8->List UInt8->Int->Option (Bool×Unit))(az:List UInt8)(str0__0:List UInt8)(pos0__0:Int)(j2:Bool)(j7:Bool):Option (Bool×Unit) :=
  (bif !j2 then (bif pos0__0==0 then some (Bool.false,())else (bif !j7 then some (Bool.false,())else r0 az str0__0 (yf str0__0 pos0__0).2))else r0 az str0__0 (yf str0__0 pos0__0).2)
def y2v(n:Nat)(r0:List UInt8->List UInt8->Int->Option (Bool×Unit))(az:List UInt8)(str0__0:List UInt8)(pos0__0:Int)(j2:Bool):Option (Bool×Unit) :=
  (bif decide ((yf str0__0 pos0__0).1 >= 48)then (bif decide ((yf str0__0 pos0__0).1<=57)then (y4u n r0 az str0__0 pos0__0 j2 (Bool.true))else (y4u n r0 az str0__0 pos0__0 j2 ((yf str0__0 pos0__0).1==95)))else (y4u n r0 az str0__0 pos0__0 j2 ((yf str0__0 pos0__0).1==95)))
def yFw(n:Nat)(r0:List UInt8->List UInt8->Int->Option (Bool×Unit))(az:List UInt8)(str0__0:List UInt8)(pos0__0:Int):Option (Bool×Unit) :=
  (bif decide (pos0__0 < (↑str0__0.length:Int))then (bif decide ((yf str0__0 pos0__0).1 >= 65)then (bif decide ((yf str0__0 pos0__0).1<=90)then (y2v n r0 az str0__0 pos0__0 (Bool.true))else (bif decide ((yf str0__0 pos0__0).1 >= 97)then (y2v n r0 az str0__0 pos0__0 (decide ((yf str0__0 pos0__0).1<=122)))else (y2v n r0 az str0__0 pos0__0 (Bool.false))))else (bif decide ((yf str0__0 pos0__0).1 >= 97)then (y2v n r0 az str0__0 pos0__0 (decide ((yf str0__0 pos0__0).1<=122)))else (y2v n r0 az str0__0 pos0__0 (Bool.false))))else (bif !az==[]then some (decide ((↑az.length:Int)<=24),())else some (Bool.false,())))
def y7J(n:Nat)(k:Nat)(az:List UInt8)(str0__0:List UInt8)(pos0__0:Int):Option (Bool×Unit) :=
  iter (λ r y=>yFw n (λ az str0__0 pos0__0=>r ((az,()),(((str0__0,pos0__0),()),()))) y.1.1 y.2.1.1.1 y.2.1.1.2) k ((az,()),(((str0__0,pos0__0),()),()))
def yMq(n:Nat)(s:List UInt8):Option (Bool×Unit) :=
  (y7J n n (s) (s) ((0:Int)))
theorem yc3(n:Nat)(x:yQi.den):runF ybO (yQM n) Tryz.f200 yQi yay x=yMq n x.1:=by kernel_rfl
def y7b(az:List UInt8)(str0__0:List UInt8)(pos0__0:Int)(j2:Bool)(j7:Bool):Option ((Bool×Unit)⊕Unit) :=
  (bif !j2 then (bif pos0__0==0 then (some (Sum.inl ((Bool.false,()))))else (bif !j7 then (some (Sum.inl ((Bool.false,()))))else (some (Sum.inr ()))))else (some (Sum.inr ())))
theorem y19(n:Nat)(hn:big<=n)(r0:List UInt8->List UInt8->Int->Option (Bool×Unit))(az:List UInt8)(str0__0:List UInt8)(pos0__0:Int)(j2:Bool)(j7:Bool):LeF (elim some λ (a7:Unit)=>r0 az str0__0 (yf (str0__0) pos0__0).2) (y7b az str0__0 pos0__0 j2 j7) (y4u n r0 az str0__0 pos0__0 j2 j7) :=
  (y6 (y6 (y7 rfl) (y6 (y7 rfl) (y7 rfl))) (y7 rfl))
def y4l(az:List UInt8)(str0__0:List UInt8)(pos0__0:Int)(j2:Bool):Option ((Bool×Unit)⊕Unit) :=
  (bif decide ((yf str0__0 pos0__0).1 >= 48)then (bif decide ((yf str0__0 pos0__0).1<=57)then (y7b az str0__0 pos0__0 j2 (Bool.true))else (y7b az str0__0 pos0__0 j2 ((yf str0__0 pos0__0).1==95)))else (y7b az str0__0 pos0__0 j2 ((yf str0__0 pos0__0).1==95)))
theorem y0D(n:Nat)(hn:big<=n)(r0:List UInt8->List UInt8->Int->Option (Bool×Unit))(az:List UInt8)(str0__0:List UInt8)(pos0__0:Int)(j2:Bool):LeF (elim some λ (a7:Unit)=>r0 az str0__0 (yf (str0__0) pos0__0).2) (y4l az str0__0 pos0__0 j2) (y2v n r0 az str0__0 pos0__0 j2) :=
  (y6 (y6 (by apply y19 n hn) (by apply y19 n hn)) (by apply y19 n hn))
def y9n(az:List UInt8)(str0__0:List UInt8)(pos0__0:Int):Option ((Bool×Unit)⊕Unit) :=
  (bif decide ((yf str0__0 pos0__0).1 >= 65)then (bif decide ((yf str0__0 pos0__0).1<=90)then (y4l az str0__0 pos0__0 (Bool.true))else (bif decide ((yf str0__0 pos0__0).1 >= 97)then (y4l az str0__0 pos0__0 (decide ((yf str0__0 pos0__0).1<=122)))else (y4l az str0__0 pos0__0 (Bool.false))))else (bif decide ((yf str0__0 pos0__0).1 >= 97)then (y4l az str0__0 pos0__0 (decide ((yf str0__0 pos0__0).1<=122)))else (y4l az str0__0 pos0__0 (Bool.false))))
def y9Z(az:List UInt8)(str0__0:List UInt8):Option (Bool×Unit) :=
  (bif !az==[]then (some ((decide ((↑az.length:Int)<=24),())))else (some ((Bool.false,()))))
theorem yEx(n:Nat)(hn:big<=n)(az:List UInt8)(str0__0:List UInt8)(hx:List.length (str0__0) < lenMax):LeF some (y8s (str0__0) (λ af a7=>y9n az str0__0 af) (λ a7=>y9Z az str0__0) (List.length (str0__0)) 0 ()) (y7J n n az str0__0 0):=by
  refine yO9 (f:=some) (W:=λ aJ af a7=>y7J n aJ az str0__0 af) (body:=(λ af a7=>y9n az str0__0 af)) (fin:=(λ a7=>y9Z az str0__0)) (λ aJ af a7=>?_) () n (by unfold big at hn;unfold lenMax at hx;omega)
  show LeF _ _ (yFw n (y7J n aJ) az str0__0 af)
  exact y6 (y6 (y6 (by apply y0D n hn) (y6 (by apply y0D n hn) (by apply y0D n hn))) (y6 (by apply y0D n hn) (by apply y0D n hn))) (yr (y6 (y7 rfl) (y7 rfl)))
def yCF(s:List UInt8):Option (Bool×Unit) :=
  (bif decide (List.length (s) < lenMax)then y8s (s) (λ af a7=>y9n (s) (s) af) (λ a7=>y9Z (s) (s)) (List.length (s)) 0 ()else none)
theorem yUP(s:List UInt8)(y:Bool×Unit)(h:yCF s=some y):∃ n,yMq n s=some y :=
  ⟨big,LeF.top (show LeF some (yCF s) (yMq big s)from (λ (n:Nat) (hn:big<=n)=>show LeF some (yCF s) (yMq n s)from (yN λ hx=>by apply yEx n hn;exact hx)) big (Nat.le_refl _)) h⟩
def z0F_e:Entry:={ f:=200,args:=yQi,ress:=yay,m:=λ x=>yCF x.1 }
theorem yOl:FnOK Tryz.prog z0F_e:=yJ (g:=ybO) (fn:=Tryz.f200) yC yI eNil (by kernel_rfl) (by kernel_rfl) (by kernel_rfl) (λ x y h=>let ⟨n,hn⟩:=yUP x.1 y h;⟨yQM n,iNil,(yc3 n x).trans hn⟩)
abbrev zP_a:Ty:=.pair t63 (.pair (.ref t60) .unit)
abbrev zP_r:Ty:=.pair t4 .unit
def zP_g:G:={ T:=T,E:=[],muts:=[],fz:=[] }
def zP_k:List (List Nat):=[]
def ya7(n:Nat):Ann:={ keep:=zP_k,fuel:=n,inl:=[],deep:=0 }
def zP_m(n:Nat)(s:Q4)(p1:Q1):Option (Bool×Unit) :=
  some (decide (s.2.1 > (↑p1.2.2.1.length:Int)),())
theorem ydU(n:Nat)(x:zP_a.den):runF zP_g (ya7 n) Tryz.f205 zP_a zP_r x=zP_m n x.1 x.2.1:=by kernel_rfl
def zP(s:Q4)(p1:Q1):(Bool×Unit) :=
  (decide (s.2.1 > (↑p1.2.2.1.length:Int)),())
abbrev zP_M (s:Q4) (p1:Q1):Option (Bool×Unit):=some (zP s p1)
theorem yb7(s:Q4)(p1:Q1)(y:Bool×Unit)(h:zP_M s p1=some y):∃ n,zP_m n s p1=some y :=
  ⟨0,by rw[<- h];show zP_m 0 s p1=some (zP s p1);unfold zP_m zP;first|rfl|(simp only[yG];done)|(simp only[yG];rfl)⟩
def zP_e:Entry:={ f:=205,args:=zP_a,ress:=zP_r,m:=λ x=>zP_M x.1 x.2.1 }
theorem yeV:FnOK Tryz.prog zP_e:=yJ (g:=zP_g) (fn:=Tryz.f205) yC yI eNil (by kernel_rfl) (by kernel_rfl) (by kernel_rfl) (λ x y h=>let ⟨n,hn⟩:=yb7 x.1 x.2.1 y h;⟨ya7 n,iNil,(ydU n x).trans hn⟩)
abbrev zO_a:Ty:=.pair t61 .unit
abbrev zO_r:Ty:=.pair t4 .unit
def zO_g:G:={ T:=T,E:=[],muts:=[],fz:=[] }
def zO_k:List (List Nat):=[]
def yZN(n:Nat):Ann:={ keep:=zO_k,fuel:=n,inl:=[],deep:=0 }
def zO_m(n:Nat)(x1:Nat):Option (Bool×Unit) :=
  some (yw Go.BinOp.neq Go.FloatKind.f32 x1 (nat_lit 0),())
theorem ycr(n:Nat)(x:zO_a.den):runF zO_g (yZN n) Tryz.f208 zO_a zO_r x=zO_m n x.1:=by kernel_rfl
def zO(x1:Nat):(Bool×Unit) :=
  (yw Go.BinOp.neq Go.FloatKind.f32 x1 (nat_lit 0),())
abbrev zO_M (x1:Nat):Option (Bool×Unit):=some (zO x1)
theorem yWb(x1:Nat)(y:Bool×Unit)(h:zO_M x1=some y):∃ n,zO_m n x1=some y :=
  ⟨0,by rw[<- h];show zO_m 0 x1=some (zO x1);unfold zO_m zO;first|rfl|(simp only[yG];done)|(simp only[yG];rfl)⟩
def zO_e:Entry:={ f:=208,args:=zO_a,ress:=zO_r,m:=λ x=>zO_M x.1 }
theorem ydn:FnOK Tryz.prog zO_e:=yJ (g:=zO_g) (fn:=Tryz.f208) yC yI eNil (by kernel_rfl) (by kernel_rfl) (by kernel_rfl) (λ x y h=>let ⟨n,hn⟩:=yWb x.1 y h;⟨yZN n,iNil,(ycr n x).trans hn⟩)
abbrev zo_a:Ty:=.pair t63 .unit
abbrev zo_r:Ty:=.pair t3 .unit
def zo_g:G:={ T:=T,E:=[],muts:=[],fz:=[] }
def zo_k:List (List Nat):=[]
def yYX(n:Nat):Ann:={ keep:=zo_k,fuel:=n,inl:=[],deep:=0 }
def zo_m(n:Nat)(s:Q4):Option (Int×Unit) :=
  (bif decide (s.1 < 0)then some ((14:Int),())else (bif decide (s.2.1<=s.1)then some ((14:Int),())else (bif decide (s.2.1 > 100000)then some ((14:Int),())else some ((0:Int),()))))
theorem ydK(n:Nat)(x:zo_a.den):runF zo_g (yYX n) Tryz.f209 zo_a zo_r x=zo_m n x.1:=by kernel_rfl
def zo(s:Q4):(Int×Unit) :=
  (bif decide (s.1 < 0)then ((14:Int),())else (bif decide (s.2.1<=s.1)then ((14:Int),())else (bif decide (s.2.1 > 100000)then ((14:Int),())else ((0:Int),()))))
abbrev zo_M (s:Q4):Option (Int×Unit):=some (zo s)
theorem yb2(s:Q4)(y:Int×Unit)(h:zo_M s=some y):∃ n,zo_m n s=some y :=
  ⟨0,by rw[<- h];show zo_m 0 s=some (zo s);unfold zo_m zo;first|rfl|(simp only[yG];done)|(simp only[yG];rfl)⟩
def zo_e:Entry:={ f:=209,args:=zo_a,ress:=zo_r,m:=λ x=>zo_M x.1 }
theorem yce:FnOK Tryz.prog zo_e:=yJ (g:=zo_g) (fn:=Tryz.f209) yC yI eNil (by kernel_rfl) (by kernel_rfl) (by kernel_rfl) (λ x y h=>let ⟨n,hn⟩:=yb2 x.1 y h;⟨yYX n,iNil,(ydK n x).trans hn⟩)
abbrev zc_a:Ty:=.pair t61 .unit
abbrev zc_r:Ty:=.pair t3 .unit
def zc_g:G:={ T:=T,E:=[],muts:=[],fz:=[] }
def zc_k:List (List Nat):=[]
def yWj(n:Nat):Ann:={ keep:=zc_k,fuel:=n,inl:=[],deep:=0 }
def zc_m(n:Nat)(x1:Nat):Option (Int×Unit) :=
  (Option.bind (yo Go.FloatKind.f32 (y0A Go.BinOp.mul Go.FloatKind.f32 x1 (nat_lit 1098907648)) IntKind.i64) λ v0=>some (v0,()))
theorem yeY(n:Nat)(x:zc_a.den):runF zc_g (yWj n) Tryz.f224 zc_a zc_r x=zc_m n x.1:=by kernel_rfl
def zc_M(x1:Nat):Option (Int×Unit):=zc_m 0 x1
theorem ycN(x1:Nat)(y:Int×Unit)(h:zc_M x1=some y):∃ n,zc_m n x1=some y:=⟨0,h⟩
def zc_e:Entry:={ f:=224,args:=zc_a,ress:=zc_r,m:=λ x=>zc_M x.1 }
theorem ydN:FnOK Tryz.prog zc_e:=yJ (g:=zc_g) (fn:=Tryz.f224) yC yI eNil (by kernel_rfl) (by kernel_rfl) (by kernel_rfl) (λ x y h=>let ⟨n,hn⟩:=ycN x.1 y h;⟨yWj n,iNil,(yeY n x).trans hn⟩)
abbrev zD_a:Ty:=.pair t58 (.pair t263 .unit)
abbrev zD_r:Ty:=.pair t3 .unit
def zD_g:G:={ T:=T,E:=[],muts:=[],fz:=[] }
def zD_k:List (List Nat):=[[0,1,7,8]]
def yY2(n:Nat):Ann:={ keep:=zD_k,fuel:=n,inl:=[],deep:=0 }
def yJD(n:Nat)(r0:List (Q4)->((Q4)×Unit->Option (Bool×Unit))->Int->Int->Option (Int×Unit))(az:List (Q4))(bT:(Q4)×Unit->Option (Bool×Unit))(aR:Int)(ac:Int):Option (Int×Unit) :=
  (bif decide (ac < aR)then (Option.bind (idx az ac) λ v1=>(Option.bind (bT (v1,())) λ v2=>(bif v2.1 then some (ac,())else r0 az bT aR (IntKind.i64.wrap (ac+1)))))else some ((-1:Int),()))
def yAV(n:Nat)(k:Nat)(az:List (Q4))(bT:(Q4)×Unit->Option (Bool×Unit))(aR:Int)(ac:Int):Option (Int×Unit) :=
  iter (λ r y=>yJD n (λ az bT aR ac=>r ((az,(bT,(aR,(ac,())))),((),()))) y.1.1 y.1.2.1 y.1.2.2.1 y.1.2.2.2.1) k ((az,(bT,(aR,(ac,())))),((),()))
def zD_m(n:Nat)(s:List (Q4))(f:(Q4)×Unit->Option (Bool×Unit)):Option (Int×Unit) :=
  (yAV n n (s) (f) ((↑s.length:Int)) ((0:Int)))
theorem yfR(n:Nat)(x:zD_a.den):runF zD_g (yY2 n) Tryz.f226 zD_a zD_r x=zD_m n x.1 x.2.1:=by kernel_rfl
def yLA(az:List (Q4))(bT:(Q4)×Unit->Option (Bool×Unit))(ac:Int)(v1:Q4):Option ((Int×Unit)⊕Unit) :=
  (Option.bind (bT (v1,())) λ v2=>(bif v2.1 then (some (Sum.inl ((ac,()))))else (some (Sum.inr ()))))
def yNx(az:List (Q4))(bT:(Q4)×Unit->Option (Bool×Unit)):Option (Int×Unit) :=
  (some (((-1:Int),())))
theorem yHa(n:Nat)(hn:big<=n)(az:List (Q4))(bT:(Q4)×Unit->Option (Bool×Unit))(hx:List.length (az) < lenMax):LeF some (yM (λ af aC a7=>yLA az bT af aC) (λ a7=>yNx az bT) 0 (az) ()) (yAV n n az bT (List.length (az):Int) 0):=by
  refine yQ (f:=some) (W:=λ aJ af a7=>yAV n aJ az bT (List.length (az):Int) af) (body:=(λ af aC a7=>yLA az bT af aC)) (fin:=(λ a7=>yNx az bT)) (λ aJ af a7=>?_) hx () n (by unfold big at hn;unfold lenMax at hx;omega)
  show LeF _ _ (yJD n (yAV n aJ) az bT (List.length (az):Int) af)
  exact y6 (y8 λ v1=>(y8 λ v2=>(y6 (y7 rfl) (y7 rfl)))) (yr (y7 rfl))
def zD_M(s:List (Q4))(f:(Q4)×Unit->Option (Bool×Unit)):Option (Int×Unit) :=
  (bif decide (List.length (s) < lenMax)then yM (λ af aC a7=>yLA (s) (f) af aC) (λ a7=>yNx (s) (f)) 0 (s) ()else none)
theorem yW2(s:List (Q4))(f:(Q4)×Unit->Option (Bool×Unit))(y:Int×Unit)(h:zD_M s f=some y):∃ n,zD_m n s f=some y :=
  ⟨big,LeF.top (show LeF some (zD_M s f) (zD_m big s f)from (λ (n:Nat) (hn:big<=n)=>show LeF some (zD_M s f) (zD_m n s f)from (yN λ hx=>by apply yHa n hn;exact hx)) big (Nat.le_refl _)) h⟩
def zD_e:Entry:={ f:=226,args:=zD_a,ress:=zD_r,m:=λ x=>zD_M x.1 x.2.1 }
theorem yda:FnOK Tryz.prog zD_e:=yJ (g:=zD_g) (fn:=Tryz.f226) yC yI eNil (by kernel_rfl) (by kernel_rfl) (by kernel_rfl) (λ x y h=>let ⟨n,hn⟩:=yW2 x.1 x.2.1 y h;⟨yY2 n,iNil,(yfR n x).trans hn⟩)
abbrev zE_a:Ty:=.pair t35 (.pair t265 .unit)
abbrev zE_r:Ty:=.pair t3 .unit
def zE_g:G:={ T:=T,E:=[],muts:=[],fz:=[] }
def zE_k:List (List Nat):=[[0,1,7,8]]
def yVD(n:Nat):Ann:={ keep:=zE_k,fuel:=n,inl:=[],deep:=0 }
def yJP(n:Nat)(r0:List Nat->(Nat×Unit->Option (Bool×Unit))->Int->Int->Option (Int×Unit))(az:List Nat)(bT:Nat×Unit->Option (Bool×Unit))(aR:Int)(ac:Int):Option (Int×Unit) :=
  (bif decide (ac < aR)then (Option.bind (idx az ac) λ v1=>(Option.bind (bT (v1,())) λ v2=>(bif v2.1 then some (ac,())else r0 az bT aR (IntKind.i64.wrap (ac+1)))))else some ((-1:Int),()))
def yB7(n:Nat)(k:Nat)(az:List Nat)(bT:Nat×Unit->Option (Bool×Unit))(aR:Int)(ac:Int):Option (Int×Unit) :=
  iter (λ r y=>yJP n (λ az bT aR ac=>r ((az,(bT,(aR,(ac,())))),((),()))) y.1.1 y.1.2.1 y.1.2.2.1 y.1.2.2.2.1) k ((az,(bT,(aR,(ac,())))),((),()))
def zE_m(n:Nat)(s:List Nat)(f:Nat×Unit->Option (Bool×Unit)):Option (Int×Unit) :=
  (yB7 n n (s) (f) ((↑s.length:Int)) ((0:Int)))
theorem yf0(n:Nat)(x:zE_a.den):runF zE_g (yVD n) Tryz.f227 zE_a zE_r x=zE_m n x.1 x.2.1:=by kernel_rfl
def yKT(az:List Nat)(bT:Nat×Unit->Option (Bool×Unit))(ac:Int)(v1:Nat):Option ((Int×Unit)⊕Unit) :=
  (Option.bind (bT (v1,())) λ v2=>(bif v2.1 then (some (Sum.inl ((ac,()))))else (some (Sum.inr ()))))
def yMw(az:List Nat)(bT:Nat×Unit->Option (Bool×Unit)):Option (Int×Unit) :=
  (some (((-1:Int),())))
theorem yHx(n:Nat)(hn:big<=n)(az:List Nat)(bT:Nat×Unit->Option (Bool×Unit))(hx:List.length (az) < lenMax):LeF some (yM (λ af aC a7=>yKT az bT af aC) (λ a7=>yMw az bT) 0 (az) ()) (yB7 n n az bT (List.length (az):Int) 0):=by
  refine yQ (f:=some) (W:=λ aJ af a7=>yB7 n aJ az bT (List.length (az):Int) af) (body:=(λ af aC a7=>yKT az bT af aC)) (fin:=(λ a7=>yMw az bT)) (λ aJ af a7=>?_) hx () n (by unfold big at hn;unfold lenMax at hx;omega)
  show LeF _ _ (yJP n (yB7 n aJ) az bT (List.length (az):Int) af)
  exact y6 (y8 λ v1=>(y8 λ v2=>(y6 (y7 rfl) (y7 rfl)))) (yr (y7 rfl))
def zE_M(s:List Nat)(f:Nat×Unit->Option (Bool×Unit)):Option (Int×Unit) :=
  (bif decide (List.length (s) < lenMax)then yM (λ af aC a7=>yKT (s) (f) af aC) (λ a7=>yMw (s) (f)) 0 (s) ()else none)
theorem yb6(s:List Nat)(f:Nat×Unit->Option (Bool×Unit))(y:Int×Unit)(h:zE_M s f=some y):∃ n,zE_m n s f=some y :=
  ⟨big,LeF.top (show LeF some (zE_M s f) (zE_m big s f)from (λ (n:Nat) (hn:big<=n)=>show LeF some (zE_M s f) (zE_m n s f)from (yN λ hx=>by apply yHx n hn;exact hx)) big (Nat.le_refl _)) h⟩
def zE_e:Entry:={ f:=227,args:=zE_a,ress:=zE_r,m:=λ x=>zE_M x.1 x.2.1 }
theorem yei:FnOK Tryz.prog zE_e:=yJ (g:=zE_g) (fn:=Tryz.f227) yC yI eNil (by kernel_rfl) (by kernel_rfl) (by kernel_rfl) (λ x y h=>let ⟨n,hn⟩:=yb6 x.1 x.2.1 y h;⟨yVD n,iNil,(yf0 n x).trans hn⟩)
end
end Go.Tw
end
section
set_option maxRecDepth 1000000
namespace Go.Tw
open Go.Vx Go.Vx.B Go.Proofs
noncomputable section
abbrev ySc:Ty:=.pair t25 (.pair t25 .unit)
abbrev yZ1:Ty:=.pair t4 .unit
def yc9:G:={ T:=T,E:=[zZ_e],muts:=[],fz:=[] }
def yf3:List (List Nat):=[[2,3,5]]
def yQE(n:Nat):Ann:={ keep:=yf3,fuel:=n,inl:=[],deep:=0 }
def yGd(n:Nat)(r2:Q2->Q2->Int->Option (Bool×Unit))(cu:Q2)(cx:Q2)(cU:Int):Option (Bool×Unit) :=
  (bif decide (cU < (↑cu.1.length:Int))then (Option.bind (idx cu.1 cU) λ v3=>(Option.bind (idx cx.1 cU) λ v4=>(bif !eqV (Ty.str.pair ((Ty.int IntKind.i64).pair ((Ty.int IntKind.i64).pair Ty.unit))) v3 v4 then some (Bool.false,())else r2 cu cx (IntKind.i64.wrap (cU+1)))))else (Option.bind (zZ_M cu.2.1 cx.2.1) λ v5=>some (v5.1,())))
def y7A(n:Nat)(k:Nat)(cu:Q2)(cx:Q2)(cU:Int):Option (Bool×Unit) :=
  iter (λ r y=>yGd n (λ cu cx cU=>r ((cu,(cx,(cU,()))),((),()))) y.1.1 y.1.2.1 y.1.2.2.1) k ((cu,(cx,(cU,()))),((),()))
def yNw(n:Nat)(a:Q2)(b:Q2):Option (Bool×Unit) :=
  (bif a.2.2.1 != b.2.2.1 then some (Bool.false,())else (bif (↑a.1.length:Int) != (↑b.1.length:Int)then some (Bool.false,())else (y7A n n (a) (b) ((0:Int)))))
theorem yY5(n:Nat)(x:ySc.den):runF yc9 (yQE n) Tryz.f38 ySc yZ1 x=yNw n x.1 x.2.1:=by kernel_rfl
def yFZ(cu:Q2)(cx:Q2)(cU:Int)(v3:Q3):Option ((Bool×Unit)⊕Unit) :=
  (Option.bind (idx cx.1 cU) λ v4=>(bif !eqV (Ty.str.pair ((Ty.int IntKind.i64).pair ((Ty.int IntKind.i64).pair Ty.unit))) v3 v4 then (some (Sum.inl ((Bool.false,()))))else (some (Sum.inr ()))))
def yGy(cu:Q2)(cx:Q2):Option (Bool×Unit) :=
  (Option.bind (zZ_M cu.2.1 cx.2.1) λ v5=>(some ((v5.1,()))))
theorem yEH(n:Nat)(hn:big<=n)(cu:Q2)(cx:Q2)(hx:List.length (cu.1) < lenMax):LeF some (yM (λ af aC a7=>yFZ cu cx af aC) (λ a7=>yGy cu cx) 0 (cu.1) ()) (y7A n n cu cx 0):=by
  refine yQ (f:=some) (W:=λ aJ af a7=>y7A n aJ cu cx af) (body:=(λ af aC a7=>yFZ cu cx af aC)) (fin:=(λ a7=>yGy cu cx)) (λ aJ af a7=>?_) hx () n (by unfold big at hn;unfold lenMax at hx;omega)
  show LeF _ _ (yGd n (y7A n aJ) cu cx af)
  exact y6 (y8 λ v3=>(y8 λ v4=>(y6 (y7 rfl) (y7 rfl)))) (yr (y8 λ v5=>(y7 rfl)))
def yBz(a:Q2)(b:Q2):Option (Bool×Unit) :=
  (bif a.2.2.1 != b.2.2.1 then (some ((Bool.false,())))else (bif (↑a.1.length:Int) != (↑b.1.length:Int)then (some ((Bool.false,())))else (bif decide (List.length (a.1) < lenMax)then yM (λ af aC a7=>yFZ (a) (b) af aC) (λ a7=>yGy (a) (b)) 0 (a.1) ()else none)))
theorem yUx(a:Q2)(b:Q2)(y:Bool×Unit)(h:yBz a b=some y):∃ n,yNw n a b=some y :=
  ⟨big,LeF.top (show LeF some (yBz a b) (yNw big a b)from (λ (n:Nat) (hn:big<=n)=>show LeF some (yBz a b) (yNw n a b)from (y6 (y7 rfl) (y6 (y7 rfl) (yN λ hx=>by apply yEH n hn;exact hx)))) big (Nat.le_refl _)) h⟩
def z12_e:Entry:={ f:=38,args:=ySc,ress:=yZ1,m:=λ x=>yBz x.1 x.2.1 }
theorem yaK:FnOK Tryz.prog z12_e:=yJ (g:=yc9) (fn:=Tryz.f38) yC yI (yA ySb eNil) (by kernel_rfl) (by kernel_rfl) (by kernel_rfl) (λ x y h=>let ⟨n,hn⟩:=yUx x.1 x.2.1 y h;⟨yQE n,iNil,(yY5 n x).trans hn⟩)
abbrev yTh:Ty:=.pair t94 .unit
abbrev ybA:Ty:=.pair t4 .unit
def yYB:G:={ T:=T,E:=[zh_e],muts:=[],fz:=[] }
def yd5:List (List Nat):=[]
def yOn(n:Nat):Ann:={ keep:=yd5,fuel:=n,inl:=[],deep:=0 }
def yOa(n:Nat)(r1:Q1):Option (Bool×Unit) :=
  (bif decide ((↑r1.1.length:Int)<=60)then (bif decide ((↑r1.2.2.1.length:Int)<=24)then some ((zh r1.2.2.2.1 (8:Int)).1,())else (bif (↑r1.2.2.1.length:Int)==130 then some ((zh r1.2.2.2.1 (8:Int)).1,())else (bif (↑r1.2.2.1.length:Int)==4097 then some ((zh r1.2.2.2.1 (8:Int)).1,())else some (Bool.false,()))))else some (Bool.false,()))
theorem yX9(n:Nat)(x:yTh.den):runF yYB (yOn n) Tryz.f54 yTh ybA x=yOa n x.1:=by kernel_rfl
def z0d(r1:Q1):(Bool×Unit) :=
  (bif decide ((↑r1.1.length:Int)<=60)then (bif decide ((↑r1.2.2.1.length:Int)<=24)then ((zh r1.2.2.2.1 (8:Int)).1,())else (bif (↑r1.2.2.1.length:Int)==130 then ((zh r1.2.2.2.1 (8:Int)).1,())else (bif (↑r1.2.2.1.length:Int)==4097 then ((zh r1.2.2.2.1 (8:Int)).1,())else (Bool.false,()))))else (Bool.false,()))
abbrev yZG (r1:Q1):Option (Bool×Unit):=some (z0d r1)
theorem yUK(r1:Q1)(y:Bool×Unit)(h:yZG r1=some y):∃ n,yOa n r1=some y :=
  ⟨0,by rw[<- h];show yOa 0 r1=some (z0d r1);unfold yOa z0d;first|rfl|(simp only[yG];done)|(simp only[yG];rfl)⟩
def z0d_e:Entry:={ f:=54,args:=yTh,ress:=ybA,m:=λ x=>yZG x.1 }
theorem yX1:FnOK Tryz.prog z0d_e:=yJ (g:=yYB) (fn:=Tryz.f54) yC yI (yA ydS eNil) (by kernel_rfl) (by kernel_rfl) (by kernel_rfl) (λ x y h=>let ⟨n,hn⟩:=yUK x.1 y h;⟨yOn n,iNil,(yX9 n x).trans hn⟩)
abbrev zy_a:Ty:=.pair t96 (.pair t96 .unit)
abbrev zy_r:Ty:=.pair t4 .unit
def zy_g:G:={ T:=T,E:=[zZ_e],muts:=[],fz:=[] }
def zy_k:List (List Nat):=[[0,1,5]]
def yZv(n:Nat):Ann:={ keep:=zy_k,fuel:=n,inl:=[],deep:=0 }
def yQg(n:Nat)(r0:List (List (Q4))->List (List (Q4))->Int->Option (Bool×Unit))(aE:List (List (Q4)))(aI:List (List (Q4)))(aH:Int):Option (Bool×Unit) :=
  (bif decide (aH < (↑aE.length:Int))then (Option.bind (idx aE aH) λ v1=>(Option.bind (idx aI aH) λ v2=>(Option.bind (zZ_M v1 v2) λ v3=>(bif !v3.1 then some (Bool.false,())else r0 aE aI (IntKind.i64.wrap (aH+1))))))else some (Bool.true,()))
def ySl(n:Nat)(k:Nat)(aE:List (List (Q4)))(aI:List (List (Q4)))(aH:Int):Option (Bool×Unit) :=
  iter (λ r y=>yQg n (λ aE aI aH=>r ((aE,(aI,(aH,()))),((),()))) y.1.1 y.1.2.1 y.1.2.2.1) k ((aE,(aI,(aH,()))),((),()))
def zy_m(n:Nat)(a:List (List (Q4)))(b:List (List (Q4))):Option (Bool×Unit) :=
  (bif (↑a.length:Int) != (↑b.length:Int)then some (Bool.false,())else (ySl n n (a) (b) ((0:Int))))
theorem ydy(n:Nat)(x:zy_a.den):runF zy_g (yZv n) Tryz.f64 zy_a zy_r x=zy_m n x.1 x.2.1:=by kernel_rfl
def zy_M(a:List (List (Q4)))(b:List (List (Q4))):Option (Bool×Unit):=zy_m 1000 a b
theorem yWY(a:List (List (Q4)))(b:List (List (Q4)))(y:Bool×Unit)(h:zy_M a b=some y):∃ n,zy_m n a b=some y:=⟨1000,h⟩
def zy_e:Entry:={ f:=64,args:=zy_a,ress:=zy_r,m:=λ x=>zy_M x.1 x.2.1 }
theorem yd4:FnOK Tryz.prog zy_e:=yJ (g:=zy_g) (fn:=Tryz.f64) yC yI (yA ySb eNil) (by kernel_rfl) (by kernel_rfl) (by kernel_rfl) (λ x y h=>let ⟨n,hn⟩:=yWY x.1 x.2.1 y h;⟨yZv n,iNil,(ydy n x).trans hn⟩)
abbrev zq_a:Ty:=.pair t126 (.pair t3 .unit)
abbrev zq_r:Ty:=.pair t57 .unit
def zq_g:G:={ T:=T,E:=[z11_e],muts:=[],fz:=[] }
def zq_k:List (List Nat):=[]
def yVc(n:Nat):Ann:={ keep:=zq_k,fuel:=n,inl:=[],deep:=0 }
def zq_m(n:Nat)(c:Q3)(tick:Int):Option ((Q4)×Unit) :=
  (bif c.2.1==0 then none else (Option.bind (yEC ((1:Int),(0:Int),()) (IntKind.i64.wrap (c.2.2.1 * IntKind.i64.wrap (tick.tdiv c.2.1)))) λ v0=>some ((v0.1.1,v0.1.2.1,()),())))
theorem ye6(n:Nat)(x:zq_a.den):runF zq_g (yVc n) Tryz.f81 zq_a zq_r x=zq_m n x.1 x.2.1:=by kernel_rfl
def zq_M(c:Q3)(tick:Int):Option ((Q4)×Unit):=zq_m 0 c tick
theorem ybn(c:Q3)(tick:Int)(y:(Q4)×Unit)(h:zq_M c tick=some y):∃ n,zq_m n c tick=some y:=⟨0,h⟩
def zq_e:Entry:={ f:=81,args:=zq_a,ress:=zq_r,m:=λ x=>zq_M x.1 x.2.1 }
theorem yYC:FnOK Tryz.prog zq_e:=yJ (g:=zq_g) (fn:=Tryz.f81) yC yI (yA yax eNil) (by kernel_rfl) (by kernel_rfl) (by kernel_rfl) (λ x y h=>let ⟨n,hn⟩:=ybn x.1 x.2.1 y h;⟨yVc n,iNil,(ye6 n x).trans hn⟩)
abbrev yRU:Ty:=.pair t23 (.pair t3 .unit)
abbrev yYc:Ty:=.pair t3 .unit
def yZF:G:={ T:=T,E:=[z0A_e],muts:=[],fz:=[] }
def yeq:List (List Nat):=[[0,1,5]]
def yPU(n:Nat):Ann:={ keep:=yeq,fuel:=n,inl:=[],deep:=0 }
def yG3(n:Nat)(r0:List (Q4)->Int->Int->Option (Int×Unit))(aq:List (Q4))(cf:Int)(aH:Int):Option (Int×Unit) :=
  (bif decide (aH < (↑aq.length:Int))then (Option.bind (idx aq aH) λ v1=>(Option.bind (idx aq aH) λ v2=>(Option.bind (y6a cf (if IntKind.i64.wrap ((0:Int) - v2.1) > v1.1 then IntKind.i64.wrap ((0:Int) - v2.1)else v1.1)) λ v3=>(Option.bind (idx aq aH) λ v4=>(Option.bind (idx aq aH) λ v5=>(Option.bind (y6a v3.1 (if IntKind.i64.wrap ((0:Int) - v5.2.1) > v4.2.1 then IntKind.i64.wrap ((0:Int) - v5.2.1)else v4.2.1)) λ v6=>r0 aq v6.1 (IntKind.i64.wrap (aH+1))))))))else some (cf,()))
def y7S(n:Nat)(k:Nat)(aq:List (Q4))(cf:Int)(aH:Int):Option (Int×Unit) :=
  iter (λ r y=>yG3 n (λ aq cf aH=>r ((aq,(cf,(aH,()))),((),()))) y.1.1 y.1.2.1 y.1.2.2.1) k ((aq,(cf,(aH,()))),((),()))
def yO0(n:Nat)(l:List (Q4))(den:Int):Option (Int×Unit) :=
  (y7S n n (l) (den) ((0:Int)))
theorem yY4(n:Nat)(x:yRU.den):runF yZF (yPU n) Tryz.f110 yRU yYc x=yO0 n x.1 x.2.1:=by kernel_rfl
def y9v(aq:List (Q4))(aH:Int)(v1:Q4)(cf:Int):Option ((Int×Unit)⊕(Int)) :=
  (Option.bind (idx aq aH) λ v2=>(Option.bind (y6a cf (if IntKind.i64.wrap ((0:Int) - v2.1) > v1.1 then IntKind.i64.wrap ((0:Int) - v2.1)else v1.1)) λ v3=>(Option.bind (idx aq aH) λ v4=>(Option.bind (idx aq aH) λ v5=>(Option.bind (y6a v3.1 (if IntKind.i64.wrap ((0:Int) - v5.2.1) > v4.2.1 then IntKind.i64.wrap ((0:Int) - v5.2.1)else v4.2.1)) λ v6=>(some (Sum.inr (v6.1))))))))
def yF6(aq:List (Q4))(cf:Int):Option (Int×Unit) :=
  (some ((cf,())))
theorem yER(n:Nat)(hn:big<=n)(aq:List (Q4))(cf:Int)(hx:List.length (aq) < lenMax):LeF some (yM (λ af aC a7=>y9v aq af aC a7) (λ a7=>yF6 aq a7) 0 (aq) cf) (y7S n n aq cf 0):=by
  refine yQ (f:=some) (W:=λ aJ af a7=>y7S n aJ aq a7 af) (body:=(λ af aC a7=>y9v aq af aC a7)) (fin:=(λ a7=>yF6 aq a7)) (λ aJ af a7=>?_) hx cf n (by unfold big at hn;unfold lenMax at hx;omega)
  show LeF _ _ (yG3 n (y7S n aJ) aq a7 af)
  exact y6 (y8 λ v1=>(y8 λ v2=>(y8 λ v3=>(y8 λ v4=>(y8 λ v5=>(y8 λ v6=>(y7 rfl))))))) (yr (y7 rfl))
def yBa(l:List (Q4))(den:Int):Option (Int×Unit) :=
  (bif decide (List.length (l) < lenMax)then yM (λ af aC a7=>y9v (l) af aC a7) (λ a7=>yF6 (l) a7) 0 (l) (den)else none)
theorem yTq(l:List (Q4))(den:Int)(y:Int×Unit)(h:yBa l den=some y):∃ n,yO0 n l den=some y :=
  ⟨big,LeF.top (show LeF some (yBa l den) (yO0 big l den)from (λ (n:Nat) (hn:big<=n)=>show LeF some (yBa l den) (yO0 n l den)from (yN λ hx=>by apply yER n hn;exact hx)) big (Nat.le_refl _)) h⟩
def z0L_e:Entry:={ f:=110,args:=yRU,ress:=yYc,m:=λ x=>yBa x.1 x.2.1 }
theorem yZU:FnOK Tryz.prog z0L_e:=yJ (g:=yZF) (fn:=Tryz.f110) yC yI (yA yYD eNil) (by kernel_rfl) (by kernel_rfl) (by kernel_rfl) (λ x y h=>let ⟨n,hn⟩:=yTq x.1 x.2.1 y h;⟨yPU n,iNil,(yY4 n x).trans hn⟩)
abbrev yTz:Ty:=.pair t3 (.pair t3 (.pair t3 .unit))
abbrev yXl:Ty:=.pair t28 .unit
def yZu:G:={ T:=T,E:=[z1N_e],muts:=[],fz:=[] }
def yeC:List (List Nat):=[]
def yPS(n:Nat):Ann:={ keep:=yeC,fuel:=n,inl:=[],deep:=0 }
def yOX(n:Nat)(n1:Int)(least:Int)(most:Int):Option (Int×Unit) :=
  (bif decide (n1 < least)then some ((z1N Bool.true (3:Int)).1,())else some ((z1N (decide (n1 > most)) (3:Int)).1,()))
theorem yZs(n:Nat)(x:yTz.den):runF yZu (yPS n) Tryz.f114 yTz yXl x=yOX n x.1 x.2.1 x.2.2.1:=by kernel_rfl
def z0q(n1:Int)(least:Int)(most:Int):(Int×Unit) :=
  (bif decide (n1 < least)then ((z1N Bool.true (3:Int)).1,())else ((z1N (decide (n1 > most)) (3:Int)).1,()))
abbrev yaj (n1:Int) (least:Int) (most:Int):Option (Int×Unit):=some (z0q n1 least most)
theorem yUd(n1:Int)(least:Int)(most:Int)(y:Int×Unit)(h:yaj n1 least most=some y):∃ n,yOX n n1 least most=some y :=
  ⟨0,by rw[<- h];show yOX 0 n1 least most=some (z0q n1 least most);unfold yOX z0q;first|rfl|(simp only[yG];done)|(simp only[yG];rfl)⟩
def z0q_e:Entry:={ f:=114,args:=yTz,ress:=yXl,m:=λ x=>yaj x.1 x.2.1 x.2.2.1 }
theorem yD7:FnOK Tryz.prog z0q_e:=yJ (g:=yZu) (fn:=Tryz.f114) yC yI (yA y6M eNil) (by kernel_rfl) (by kernel_rfl) (by kernel_rfl) (λ x y h=>let ⟨n,hn⟩:=yUd x.1 x.2.1 x.2.2.1 y h;⟨yPS n,iNil,(yZs n x).trans hn⟩)
abbrev zn_a:Ty:=.pair t9 .unit
abbrev zn_r:Ty:=.pair t3 .unit
def zn_g:G:={ T:=T,E:=[z0I_e],muts:=[],fz:=[] }
def zn_k:List (List Nat):=[]
def ybE(n:Nat):Ann:={ keep:=zn_k,fuel:=n,inl:=[],deep:=0 }
def zn_m(n:Nat)(s:List UInt8):Option (Int×Unit) :=
  (Option.bind (yE9 s) λ v0=>(bif !v0.1 then some ((8:Int),())else some ((0:Int),())))
theorem yer(n:Nat)(x:zn_a.den):runF zn_g (ybE n) Tryz.f118 zn_a zn_r x=zn_m n x.1:=by kernel_rfl
def zn_M(s:List UInt8):Option (Int×Unit):=zn_m 0 s
theorem yZm(s:List UInt8)(y:Int×Unit)(h:zn_M s=some y):∃ n,zn_m n s=some y:=⟨0,h⟩
def zn_e:Entry:={ f:=118,args:=zn_a,ress:=zn_r,m:=λ x=>zn_M x.1 }
theorem yWi:FnOK Tryz.prog zn_e:=yJ (g:=zn_g) (fn:=Tryz.f118) yC yI (yA ycT eNil) (by kernel_rfl) (by kernel_rfl) (by kernel_rfl) (λ x y h=>let ⟨n,hn⟩:=yZm x.1 y h;⟨ybE n,iNil,(yer n x).trans hn⟩)
abbrev zu_a:Ty:=.pair t33 .unit
abbrev zu_r:Ty:=.pair t4 .unit
def zu_g:G:={ T:=T,E:=[z0D_e],muts:=[],fz:=[] }
def zu_k:List (List Nat):=[[1,6,7,8]]
def yZe(n:Nat):Ann:={ keep:=zu_k,fuel:=n,inl:=[],deep:=0 }
def yLJ(n:Nat)(r0:Q2->List (Q4)->Int->Int->Option (Bool×Unit))(aA:Q2)(b8:List (Q4))(aR:Int)(ac:Int):Option (Bool×Unit) :=
  (bif decide (ac < aR)then (Option.bind (idx b8 ac) λ v1=>(bif decide ((if (z0D v1.2.1).1 > (z0D v1.1).1 then (z0D v1.2.1).1 else (z0D v1.1).1) > 4194304)then some (Bool.false,())else r0 aA b8 aR (IntKind.i64.wrap (ac+1))))else some (decide (aA.2.2.1<=4096),()))
def yAa(n:Nat)(k:Nat)(aA:Q2)(b8:List (Q4))(aR:Int)(ac:Int):Option (Bool×Unit) :=
  iter (λ r y=>yLJ n (λ aA b8 aR ac=>r ((aA,(b8,(aR,(ac,())))),((),()))) y.1.1 y.1.2.1 y.1.2.2.1 y.1.2.2.2.1) k ((aA,(b8,(aR,(ac,())))),((),()))
def zu_m(n:Nat)(t:Q2):Option (Bool×Unit) :=
  (yAa n n (t) (t.2.1) ((↑t.2.1.length:Int)) ((0:Int)))
theorem yfM(n:Nat)(x:zu_a.den):runF zu_g (yZe n) Tryz.f129 zu_a zu_r x=zu_m n x.1:=by kernel_rfl
def yRL(aA:Q2)(b8:List (Q4))(ac:Int)(v1:Q4):Option ((Bool×Unit)⊕Unit) :=
  (bif decide ((if (z0D v1.2.1).1 > (z0D v1.1).1 then (z0D v1.2.1).1 else (z0D v1.1).1) > 4194304)then (some (Sum.inl ((Bool.false,()))))else (some (Sum.inr ())))
def yQc(aA:Q2)(b8:List (Q4)):Option (Bool×Unit) :=
  (some ((decide (aA.2.2.1<=4096),())))
theorem yHL(n:Nat)(hn:big<=n)(aA:Q2)(b8:List (Q4))(hx:List.length (b8) < lenMax):LeF some (yM (λ af aC a7=>yRL aA b8 af aC) (λ a7=>yQc aA b8) 0 (b8) ()) (yAa n n aA b8 (List.length (b8):Int) 0):=by
  refine yQ (f:=some) (W:=λ aJ af a7=>yAa n aJ aA b8 (List.length (b8):Int) af) (body:=(λ af aC a7=>yRL aA b8 af aC)) (fin:=(λ a7=>yQc aA b8)) (λ aJ af a7=>?_) hx () n (by unfold big at hn;unfold lenMax at hx;omega)
  show LeF _ _ (yLJ n (yAa n aJ) aA b8 (List.length (b8):Int) af)
  exact y6 (y8 λ v1=>(y6 (y7 rfl) (y7 rfl))) (yr (y7 rfl))
def zu_M(t:Q2):Option (Bool×Unit) :=
  (bif decide (List.length (t.2.1) < lenMax)then yM (λ af aC a7=>yRL (t) (t.2.1) af aC) (λ a7=>yQc (t) (t.2.1)) 0 (t.2.1) ()else none)
theorem yXb(t:Q2)(y:Bool×Unit)(h:zu_M t=some y):∃ n,zu_m n t=some y :=
  ⟨big,LeF.top (show LeF some (zu_M t) (zu_m big t)from (λ (n:Nat) (hn:big<=n)=>show LeF some (zu_M t) (zu_m n t)from (yN λ hx=>by apply yHL n hn;exact hx)) big (Nat.le_refl _)) h⟩
def zu_e:Entry:={ f:=129,args:=zu_a,ress:=zu_r,m:=λ x=>zu_M x.1 }
theorem ydD:FnOK Tryz.prog zu_e:=yJ (g:=zu_g) (fn:=Tryz.f129) yC yI (yA yCy eNil) (by kernel_rfl) (by kernel_rfl) (by kernel_rfl) (λ x y h=>let ⟨n,hn⟩:=yXb x.1 y h;⟨yZe n,iNil,(yfM n x).trans hn⟩)
abbrev ySv:Ty:=.pair t57 .unit
abbrev yWw:Ty:=.pair t28 .unit
def yWS:G:={ T:=T,E:=[z0D_e,z1N_e],muts:=[],fz:=[] }
def ydj:List (List Nat):=[]
def yQI(n:Nat):Ann:={ keep:=ydj,fuel:=n,inl:=[],deep:=0 }
def yNJ(n:Nat)(z:Q4):Option (Int×Unit) :=
  some ((z1N (decide ((if (z0D z.2.1).1 > (z0D z.1).1 then (z0D z.2.1).1 else (z0D z.1).1) > 16777216)) (1:Int)).1,())
theorem yaJ(n:Nat)(x:ySv.den):runF yWS (yQI n) Tryz.f138 ySv yWw x=yNJ n x.1:=by kernel_rfl
def z0k(z:Q4):(Int×Unit) :=
  ((z1N (decide ((if (z0D z.2.1).1 > (z0D z.1).1 then (z0D z.2.1).1 else (z0D z.1).1) > 16777216)) (1:Int)).1,())
abbrev yUj (z:Q4):Option (Int×Unit):=some (z0k z)
theorem yQd(z:Q4)(y:Int×Unit)(h:yUj z=some y):∃ n,yNJ n z=some y :=
  ⟨0,by rw[<- h];show yNJ 0 z=some (z0k z);unfold yNJ z0k;first|rfl|(simp only[yG];done)|(simp only[yG];rfl)⟩
def z0k_e:Entry:={ f:=138,args:=ySv,ress:=yWw,m:=λ x=>yUj x.1 }
theorem yWG:FnOK Tryz.prog z0k_e:=yJ (g:=yWS) (fn:=Tryz.f138) yC yI (yA yCy (yA y6M eNil)) (by kernel_rfl) (by kernel_rfl) (by kernel_rfl) (λ x y h=>let ⟨n,hn⟩:=yQd x.1 y h;⟨yQI n,iNil,(yaJ n x).trans hn⟩)
abbrev ySd:Ty:=.pair t60 (.pair t55 (.pair t55 .unit))
abbrev ycD:Ty:=.pair t57 .unit
def yX6:G:={ T:=T,E:=[zR_e,z05_e,z1F_e,z1M_e],muts:=[],fz:=[] }
def ydC:List (List Nat):=[]
def yPG(n:Nat):Ann:={ keep:=ydC,fuel:=n,inl:=[il124,il195],deep:=3 }
def y89(n:Nat)(r0:Q1->List (Q4)->List Nat->Int->Int->Q1->Q3->Q3->Q1->Q3->Q3->Q4->Q1->Q1->Int->Int->Int->Int->Q1->Q3->Q3->Q1->Q3->Q3->Q4->Q1->Q1->Option ((Q4)×Unit))(j8:Q1)(j9:List (Q4))(j10:Int)(j11:Nat)(j12:List Nat)(j13:Int)(j14:Int)(j15:Q1)(j16:Q3)(j17:Q3)(j18:Q1)(j19:Q3)(j20:Q3)(j21:Q4)(j22:Q1)(j23:Q1)(j24:Int)(j25:Int)(j26:Int)(j27:Int)(j28:Q1)(j29:Q3)(j30:Q3)(j31:Q1)(j32:Q3)(j33:Q3)(j34:Q4)(j35:Q1)(j36:Q1):Option ((Q4)×Unit) :=
  (bif decide ((↑j9.length:Int) > 0)then (Option.bind (idx j9 (0:Int)) λ v37=>(bif decide (v37.1<=j10)then r0 j8 j9 j12 j13 (IntKind.i64.wrap (j14+1)) j15 j16 j17 j18 j19 j20 j21 j22 j23 j24 j25 j26 j27 j28 j29 j30 j31 j32 j33 j34 j35 j36 else (Option.bind (yo Go.FloatKind.f32 (y0A Go.BinOp.mul Go.FloatKind.f32 j11 (nat_lit 1098907648)) IntKind.i64) λ v42=>(Option.bind (zR_M j19 (IntKind.i64.wrap (j8.2.1+j10))) λ v43=>(Option.bind (zR_M j20 (IntKind.i64.wrap (j8.2.1+j10))) λ v44=>r0 j8 j9 j12 j13 (IntKind.i64.wrap (j14+1)) j15 j16 j17 j18 j19 j20 j21 j22 j23 j24 j25 (z1M (j26,j27,()) (z1F (z05 v43.1).1 v44.1).1).1.1 (z1M (j26,j27,()) (z1F (z05 v43.1).1 v44.1).1).1.2.1 j28 j29 j30 j31 j32 j33 j34 j35 j36)))))else (Option.bind (yo Go.FloatKind.f32 (y0A Go.BinOp.mul Go.FloatKind.f32 j11 (nat_lit 1098907648)) IntKind.i64) λ v45=>(Option.bind (zR_M j19 (IntKind.i64.wrap (j8.2.1+j10))) λ v46=>(Option.bind (zR_M j20 (IntKind.i64.wrap (j8.2.1+j10))) λ v47=>r0 j8 j9 j12 j13 (IntKind.i64.wrap (j14+1)) j15 j16 j17 j18 j19 j20 j21 j22 j23 j24 j25 (z1M (j26,j27,()) (z1F (z05 v46.1).1 v47.1).1).1.1 (z1M (j26,j27,()) (z1F (z05 v46.1).1 v47.1).1).1.2.1 j28 j29 j30 j31 j32 j33 j34 j35 j36))))
def yGK(n:Nat)(r0:Q1->List (Q4)->List Nat->Int->Int->Q1->Q3->Q3->Q1->Q3->Q3->Q4->Q1->Q1->Int->Int->Int->Int->Q1->Q3->Q3->Q1->Q3->Q3->Q4->Q1->Q1->Option ((Q4)×Unit))(r2:Q1->List (Q4)->Int->Nat->List Nat->Int->Int->Q1->Q3->Q3->Q1->Q3->Q3->Q4->Q1->Q1->Int->Int->Int->Int->Q1->Q3->Q3->Q1->Q3->Q3->Q4->Q1->Q1->Option ((Q4)×Unit))(b9:Q1)(ai:List (Q4))(ba:Int)(bi:Nat)(aP:List Nat)(aF:Int)(aG:Int)(ar:Q1)(au:Q3)(aM:Q3)(bJ:Q1)(bK:Q3)(aL:Q3)(bL:Q4)(bq:Q1)(aW:Q1)(aN:Int)(aO:Int)(aT:Int)(aU:Int)(be:Q1)(bf:Q3)(bM:Q3)(cz:Q1)(cA:Q3)(bG:Q3)(cB:Q4)(ck:Q1)(br:Q1):Option ((Q4)×Unit) :=
  (bif decide ((↑ai.length:Int) > 0)then (Option.bind (idx ai (0:Int)) λ v3=>(bif decide (v3.2.1<=ba)then (bif decide ((0:Int)<=1) && decide ((1:Int)<=(↑ai.length:Int))then r2 b9 (List.drop (Int.toNat (1:Int)) ai) ba bi aP aF aG ar au aM bJ bK aL bL bq aW aN aO aT aU be bf bM cz cA bG cB ck br else none)else (y89 n r0 (b9) (ai) (ba) (bi) (aP) (aF) (aG) (ar) (au) (aM) (bJ) (bK) (aL) (bL) (bq) (aW) (aN) (aO) (aT) (aU) (be) (bf) (bM) (cz) (cA) (bG) (cB) (ck) (br))))else (y89 n r0 (b9) (ai) (ba) (bi) (aP) (aF) (aG) (ar) (au) (aM) (bJ) (bK) (aL) (bL) (bq) (aW) (aN) (aO) (aT) (aU) (be) (bf) (bM) (cz) (cA) (bG) (cB) (ck) (br)))
def y6s(n:Nat)(r0:Q1->List (Q4)->List Nat->Int->Int->Q1->Q3->Q3->Q1->Q3->Q3->Q4->Q1->Q1->Int->Int->Int->Int->Q1->Q3->Q3->Q1->Q3->Q3->Q4->Q1->Q1->Option ((Q4)×Unit))(k:Nat)(b9:Q1)(ai:List (Q4))(ba:Int)(bi:Nat)(aP:List Nat)(aF:Int)(aG:Int)(ar:Q1)(au:Q3)(aM:Q3)(bJ:Q1)(bK:Q3)(aL:Q3)(bL:Q4)(bq:Q1)(aW:Q1)(aN:Int)(aO:Int)(aT:Int)(aU:Int)(be:Q1)(bf:Q3)(bM:Q3)(cz:Q1)(cA:Q3)(bG:Q3)(cB:Q4)(ck:Q1)(br:Q1):Option ((Q4)×Unit) :=
  iter (λ r y=>yGK n r0 (λ b9 ai ba bi aP aF aG ar au aM bJ bK aL bL bq aW aN aO aT aU be bf bM cz cA bG cB ck br=>r ((b9,(ai,(ba,(bi,(aP,(aF,(aG,()))))))),(((ar,(au,(aM,(bJ,(bK,(aL,(bL,(bq,((aW,()),()))))))))),((aN,(aO,())),((aT,(aU,())),()))),(be,(bf,(bM,(cz,(cA,(bG,(cB,(ck,((br,()),())))))))))))) y.1.1 y.1.2.1 y.1.2.2.1 y.1.2.2.2.1 y.1.2.2.2.2.1 y.1.2.2.2.2.2.1 y.1.2.2.2.2.2.2.1 y.2.1.1.1 y.2.1.1.2.1 y.2.1.1.2.2.1 y.2.1.1.2.2.2.1 y.2.1.1.2.2.2.2.1 y.2.1.1.2.2.2.2.2.1 y.2.1.1.2.2.2.2.2.2.1 y.2.1.1.2.2.2.2.2.2.2.1 y.2.1.1.2.2.2.2.2.2.2.2.1.1 y.2.1.2.1.1 y.2.1.2.1.2.1 y.2.1.2.2.1.1 y.2.1.2.2.1.2.1 y.2.2.1 y.2.2.2.1 y.2.2.2.2.1 y.2.2.2.2.2.1 y.2.2.2.2.2.2.1 y.2.2.2.2.2.2.2.1 y.2.2.2.2.2.2.2.2.1 y.2.2.2.2.2.2.2.2.2.1 y.2.2.2.2.2.2.2.2.2.2.1.1) k ((b9,(ai,(ba,(bi,(aP,(aF,(aG,()))))))),(((ar,(au,(aM,(bJ,(bK,(aL,(bL,(bq,((aW,()),()))))))))),((aN,(aO,())),((aT,(aU,())),()))),(be,(bf,(bM,(cz,(cA,(bG,(cB,(ck,((br,()),())))))))))))
def yG8(n:Nat)(r0:Q1->List (Q4)->List Nat->Int->Int->Q1->Q3->Q3->Q1->Q3->Q3->Q4->Q1->Q1->Int->Int->Int->Int->Q1->Q3->Q3->Q1->Q3->Q3->Q4->Q1->Q1->Option ((Q4)×Unit))(aA:Q1)(ay:List (Q4))(aj:List Nat)(ak:Int)(aD:Int)(aw:Q1)(ax:Q3)(aV:Q3)(bV:Q1)(bW:Q3)(aS:Q3)(bX:Q4)(bz:Q1)(b7:Q1)(aa:Int)(a8:Int)(aZ:Int)(b6:Int)(bl:Q1)(aQ:Q3)(bY:Q3)(cI:Q1)(cm:Q3)(bB:Q3)(cJ:Q4)(cr:Q1)(bA:Q1):Option ((Q4)×Unit) :=
  (bif decide (aD < ak)then (Option.bind (idx aj aD) λ v1=>(y6s n r0 n (aA) (ay) (aD) (v1) (aj) (ak) (aD) (aw) (ax) (aV) (bV) (bW) (aS) (bX) (bz) (b7) (aa) (a8) (aZ) (b6) (bl) (aQ) (bY) (cI) (cm) (bB) (cJ) (cr) (bA)))else some ((aZ,b6,()),()))
def y77(n:Nat)(k:Nat)(aA:Q1)(ay:List (Q4))(aj:List Nat)(ak:Int)(aD:Int)(aw:Q1)(ax:Q3)(aV:Q3)(bV:Q1)(bW:Q3)(aS:Q3)(bX:Q4)(bz:Q1)(b7:Q1)(aa:Int)(a8:Int)(aZ:Int)(b6:Int)(bl:Q1)(aQ:Q3)(bY:Q3)(cI:Q1)(cm:Q3)(bB:Q3)(cJ:Q4)(cr:Q1)(bA:Q1):Option ((Q4)×Unit) :=
  iter (λ r y=>yG8 n (λ aA ay aj ak aD aw ax aV bV bW aS bX bz b7 aa a8 aZ b6 bl aQ bY cI cm bB cJ cr bA=>r ((aA,(ay,(aj,(ak,(aD,()))))),(((aw,(ax,(aV,(bV,(bW,(aS,(bX,(bz,((b7,()),()))))))))),((aa,(a8,())),((aZ,(b6,())),()))),(bl,(aQ,(bY,(cI,(cm,(bB,(cJ,(cr,((bA,()),())))))))))))) y.1.1 y.1.2.1 y.1.2.2.1 y.1.2.2.2.1 y.1.2.2.2.2.1 y.2.1.1.1 y.2.1.1.2.1 y.2.1.1.2.2.1 y.2.1.1.2.2.2.1 y.2.1.1.2.2.2.2.1 y.2.1.1.2.2.2.2.2.1 y.2.1.1.2.2.2.2.2.2.1 y.2.1.1.2.2.2.2.2.2.2.1 y.2.1.1.2.2.2.2.2.2.2.2.1.1 y.2.1.2.1.1 y.2.1.2.1.2.1 y.2.1.2.2.1.1 y.2.1.2.2.1.2.1 y.2.2.1 y.2.2.2.1 y.2.2.2.2.1 y.2.2.2.2.2.1 y.2.2.2.2.2.2.1 y.2.2.2.2.2.2.2.1 y.2.2.2.2.2.2.2.2.1 y.2.2.2.2.2.2.2.2.2.1 y.2.2.2.2.2.2.2.2.2.2.1.1) k ((aA,(ay,(aj,(ak,(aD,()))))),(((aw,(ax,(aV,(bV,(bW,(aS,(bX,(bz,((b7,()),()))))))))),((aa,(a8,())),((aZ,(b6,())),()))),(bl,(aQ,(bY,(cI,(cm,(bB,(cJ,(cr,((bA,()),())))))))))))
def yOB(n:Nat)(r1:Q1)(a:Q3)(b:Q3):Option ((Q4)×Unit) :=
  (y77 n n (r1) (r1.2.2.2.1) (r1.2.2.1) ((↑r1.2.2.1.length:Int)) ((0:Int)) (r1) (a) (b) (r1) (a) (b) (((0:Int),(0:Int),())) (r1) (r1) ((0:Int)) ((0:Int)) ((0:Int)) ((0:Int)) (r1) (a) (b) (r1) (a) (b) (((0:Int),(0:Int),())) (r1) (r1))
theorem yby(n:Nat)(x:ySd.den):runF yX6 (yPG n) Tryz.f148 ySd ycD x=yOB n x.1 x.2.1 x.2.2.1:=by kernel_rfl
def yBG(j8:Q1)(j9:List (Q4))(j10:Int)(j11:Nat)(j12:List Nat)(j13:Int)(j14:Int)(j15:Q1)(j16:Q3)(j17:Q3)(j18:Q1)(j19:Q3)(j20:Q3)(j21:Q4)(j22:Q1)(j23:Q1)(j24:Int)(j25:Int)(j26:Int)(j27:Int)(j28:Q1)(j29:Q3)(j30:Q3)(j31:Q1)(j32:Q3)(j33:Q3)(j34:Q4)(j35:Q1)(j36:Q1):Option (((Q4)×Unit)⊕((List (Q4))×Int×Int)) :=
  (bif decide ((↑j9.length:Int) > 0)then (Option.bind (idx j9 (0:Int)) λ v37=>(bif decide (v37.1<=j10)then (some (Sum.inr ((j9),(j26),(j27))))else (Option.bind (yo Go.FloatKind.f32 (y0A Go.BinOp.mul Go.FloatKind.f32 j11 (nat_lit 1098907648)) IntKind.i64) λ v42=>(Option.bind (zR_M j19 (IntKind.i64.wrap (j8.2.1+j10))) λ v43=>(Option.bind (zR_M j20 (IntKind.i64.wrap (j8.2.1+j10))) λ v44=>(some (Sum.inr ((j9),((z1M (j26,j27,()) (z1F (z05 v43.1).1 v44.1).1).1.1),((z1M (j26,j27,()) (z1F (z05 v43.1).1 v44.1).1).1.2.1)))))))))else (Option.bind (yo Go.FloatKind.f32 (y0A Go.BinOp.mul Go.FloatKind.f32 j11 (nat_lit 1098907648)) IntKind.i64) λ v45=>(Option.bind (zR_M j19 (IntKind.i64.wrap (j8.2.1+j10))) λ v46=>(Option.bind (zR_M j20 (IntKind.i64.wrap (j8.2.1+j10))) λ v47=>(some (Sum.inr ((j9),((z1M (j26,j27,()) (z1F (z05 v46.1).1 v47.1).1).1.1),((z1M (j26,j27,()) (z1F (z05 v46.1).1 v47.1).1).1.2.1))))))))
theorem y2b(n:Nat)(hn:big<=n)(r0:Q1->List (Q4)->List Nat->Int->Int->Q1->Q3->Q3->Q1->Q3->Q3->Q4->Q1->Q1->Int->Int->Int->Int->Q1->Q3->Q3->Q1->Q3->Q3->Q4->Q1->Q1->Option ((Q4)×Unit))(j8:Q1)(j9:List (Q4))(j10:Int)(j11:Nat)(j12:List Nat)(j13:Int)(j14:Int)(j15:Q1)(j16:Q3)(j17:Q3)(j18:Q1)(j19:Q3)(j20:Q3)(j21:Q4)(j22:Q1)(j23:Q1)(j24:Int)(j25:Int)(j26:Int)(j27:Int)(j28:Q1)(j29:Q3)(j30:Q3)(j31:Q1)(j32:Q3)(j33:Q3)(j34:Q4)(j35:Q1)(j36:Q1):LeF (elim some λ (a7:((List (Q4))×Int×Int))=>r0 j8 a7.1 j12 j13 (IntKind.i64.wrap (j14+1)) j15 j16 j17 j18 j19 j20 j21 j22 j23 j24 j25 a7.2.1 a7.2.2 j28 j29 j30 j31 j32 j33 j34 j35 j36) (yBG j8 j9 j10 j11 j12 j13 j14 j15 j16 j17 j18 j19 j20 j21 j22 j23 j24 j25 j26 j27 j28 j29 j30 j31 j32 j33 j34 j35 j36) (y89 n r0 j8 j9 j10 j11 j12 j13 j14 j15 j16 j17 j18 j19 j20 j21 j22 j23 j24 j25 j26 j27 j28 j29 j30 j31 j32 j33 j34 j35 j36) :=
  (y6 (y8 λ v37=>(y6 (y7 rfl) (y8 λ v42=>(y8 λ v43=>(y8 λ v44=>(y7 rfl)))))) (y8 λ v45=>(y8 λ v46=>(y8 λ v47=>(y7 rfl)))))
def yIq(b9:Q1)(ba:Int)(bi:Nat)(aP:List Nat)(aF:Int)(aG:Int)(ar:Q1)(au:Q3)(aM:Q3)(bJ:Q1)(bK:Q3)(aL:Q3)(bL:Q4)(bq:Q1)(aW:Q1)(aN:Int)(aO:Int)(aT:Int)(aU:Int)(be:Q1)(bf:Q3)(bM:Q3)(cz:Q1)(cA:Q3)(bG:Q3)(cB:Q4)(ck:Q1)(br:Q1)(ai:List (Q4)):Option ((((Q4)×Unit)⊕((List (Q4))×Int×Int))⊕(List (Q4))) :=
  (bif decide ((↑ai.length:Int) > 0)then (Option.bind (idx ai (0:Int)) λ v3=>(bif decide (v3.2.1<=ba)then (bif decide ((0:Int)<=1) && decide ((1:Int)<=(↑ai.length:Int))then (some (Sum.inr (List.drop (Int.toNat (1:Int)) ai)))else none)else (Option.map Sum.inl (yBG (b9) (ai) (ba) (bi) (aP) (aF) (aG) (ar) (au) (aM) (bJ) (bK) (aL) (bL) (bq) (aW) (aN) (aO) (aT) (aU) (be) (bf) (bM) (cz) (cA) (bG) (cB) (ck) (br)))))else (Option.map Sum.inl (yBG (b9) (ai) (ba) (bi) (aP) (aF) (aG) (ar) (au) (aM) (bJ) (bK) (aL) (bL) (bq) (aW) (aN) (aO) (aT) (aU) (be) (bf) (bM) (cz) (cA) (bG) (cB) (ck) (br))))
theorem yEd(n:Nat)(hn:big<=n)(r0:Q1->List (Q4)->List Nat->Int->Int->Q1->Q3->Q3->Q1->Q3->Q3->Q4->Q1->Q1->Int->Int->Int->Int->Q1->Q3->Q3->Q1->Q3->Q3->Q4->Q1->Q1->Option ((Q4)×Unit))(b9:Q1)(ba:Int)(bi:Nat)(aP:List Nat)(aF:Int)(aG:Int)(ar:Q1)(au:Q3)(aM:Q3)(bJ:Q1)(bK:Q3)(aL:Q3)(bL:Q4)(bq:Q1)(aW:Q1)(aN:Int)(aO:Int)(aT:Int)(aU:Int)(be:Q1)(bf:Q3)(bM:Q3)(cz:Q1)(cA:Q3)(bG:Q3)(cB:Q4)(ck:Q1)(br:Q1)(ai:List (Q4)):LeF (elim some λ (a7:((List (Q4))×Int×Int))=>r0 b9 a7.1 aP aF (IntKind.i64.wrap (aG+1)) ar au aM bJ bK aL bL bq aW aN aO a7.2.1 a7.2.2 be bf bM cz cA bG cB ck br) (y1e (λ a7=>yIq b9 ba bi aP aF aG ar au aM bJ bK aL bL bq aW aN aO aT aU be bf bM cz cA bG cB ck br a7) wMax ai) (y6s n r0 n b9 ai ba bi aP aF aG ar au aM bJ bK aL bL bq aW aN aO aT aU be bf bM cz cA bG cB ck br):=by
  refine y37 (f:=(elim some λ (a7:((List (Q4))×Int×Int))=>r0 b9 a7.1 aP aF (IntKind.i64.wrap (aG+1)) ar au aM bJ bK aL bL bq aW aN aO a7.2.1 a7.2.2 be bf bM cz cA bG cB ck br)) (W:=λ aJ a7=>y6s n r0 aJ b9 a7 ba bi aP aF aG ar au aM bJ bK aL bL bq aW aN aO aT aU be bf bM cz cA bG cB ck br) (body:=(λ a7=>yIq b9 ba bi aP aF aG ar au aM bJ bK aL bL bq aW aN aO aT aU be bf bM cz cA bG cB ck br a7)) (λ aJ a7=>?_) wMax n ai (by unfold big at hn;unfold wMax;omega)
  show LeF _ _ (yGK n r0 (y6s n r0 aJ) b9 a7 ba bi aP aF aG ar au aM bJ bK aL bL bq aW aN aO aT aU be bf bM cz cA bG cB ck br)
  exact (y6 (y8 λ v3=>(y6 (y6 (y7 rfl) yq) (yr (by apply y2b n hn)))) (yr (by apply y2b n hn)))
def yGc(aA:Q1)(aj:List Nat)(aw:Q1)(ax:Q3)(aV:Q3)(bV:Q1)(bW:Q3)(aS:Q3)(bX:Q4)(bz:Q1)(b7:Q1)(aa:Int)(a8:Int)(bl:Q1)(aQ:Q3)(bY:Q3)(cI:Q1)(cm:Q3)(bB:Q3)(cJ:Q4)(cr:Q1)(bA:Q1)(aD:Int)(v1:Nat)(ay:List (Q4))(aZ:Int)(b6:Int):Option (((Q4)×Unit)⊕((List (Q4))×Int×Int)) :=
  (y1e (λ a7=>yIq (aA) (aD) (v1) (aj) ((↑aj.length:Int)) (aD) (aw) (ax) (aV) (bV) (bW) (aS) (bX) (bz) (b7) (aa) (a8) (aZ) (b6) (bl) (aQ) (bY) (cI) (cm) (bB) (cJ) (cr) (bA) a7) wMax (ay))
def yKk(aA:Q1)(aj:List Nat)(aw:Q1)(ax:Q3)(aV:Q3)(bV:Q1)(bW:Q3)(aS:Q3)(bX:Q4)(bz:Q1)(b7:Q1)(aa:Int)(a8:Int)(bl:Q1)(aQ:Q3)(bY:Q3)(cI:Q1)(cm:Q3)(bB:Q3)(cJ:Q4)(cr:Q1)(bA:Q1)(ay:List (Q4))(aZ:Int)(b6:Int):Option ((Q4)×Unit) :=
  (some (((aZ,b6,()),())))
theorem yEZ(n:Nat)(hn:big<=n)(aA:Q1)(aj:List Nat)(aw:Q1)(ax:Q3)(aV:Q3)(bV:Q1)(bW:Q3)(aS:Q3)(bX:Q4)(bz:Q1)(b7:Q1)(aa:Int)(a8:Int)(bl:Q1)(aQ:Q3)(bY:Q3)(cI:Q1)(cm:Q3)(bB:Q3)(cJ:Q4)(cr:Q1)(bA:Q1)(ay:List (Q4))(aZ:Int)(b6:Int)(hx:List.length (aj) < lenMax):LeF some (yM (λ af aC a7=>yGc aA aj aw ax aV bV bW aS bX bz b7 aa a8 bl aQ bY cI cm bB cJ cr bA af aC a7.1 a7.2.1 a7.2.2) (λ a7=>yKk aA aj aw ax aV bV bW aS bX bz b7 aa a8 bl aQ bY cI cm bB cJ cr bA a7.1 a7.2.1 a7.2.2) 0 (aj) (ay,aZ,b6)) (y77 n n aA ay aj (List.length (aj):Int) 0 aw ax aV bV bW aS bX bz b7 aa a8 aZ b6 bl aQ bY cI cm bB cJ cr bA):=by
  refine yQ (f:=some) (W:=λ aJ af a7=>y77 n aJ aA a7.1 aj (List.length (aj):Int) af aw ax aV bV bW aS bX bz b7 aa a8 a7.2.1 a7.2.2 bl aQ bY cI cm bB cJ cr bA) (body:=(λ af aC a7=>yGc aA aj aw ax aV bV bW aS bX bz b7 aa a8 bl aQ bY cI cm bB cJ cr bA af aC a7.1 a7.2.1 a7.2.2)) (fin:=(λ a7=>yKk aA aj aw ax aV bV bW aS bX bz b7 aa a8 bl aQ bY cI cm bB cJ cr bA a7.1 a7.2.1 a7.2.2)) (λ aJ af a7=>?_) hx (ay,aZ,b6) n (by unfold big at hn;unfold lenMax at hx;omega)
  show LeF _ _ (yG8 n (y77 n aJ) aA a7.1 aj (List.length (aj):Int) af aw ax aV bV bW aS bX bz b7 aa a8 a7.2.1 a7.2.2 bl aQ bY cI cm bB cJ cr bA)
  exact y6 (y8 λ v1=>(by apply yEd n hn)) (yr (y7 rfl))
def yAP(r1:Q1)(a:Q3)(b:Q3):Option ((Q4)×Unit) :=
  (bif decide (List.length (r1.2.2.1) < lenMax)then yM (λ af aC a7=>yGc (r1) (r1.2.2.1) (r1) (a) (b) (r1) (a) (b) (((0:Int),(0:Int),())) (r1) (r1) ((0:Int)) ((0:Int)) (r1) (a) (b) (r1) (a) (b) (((0:Int),(0:Int),())) (r1) (r1) af aC a7.1 a7.2.1 a7.2.2) (λ a7=>yKk (r1) (r1.2.2.1) (r1) (a) (b) (r1) (a) (b) (((0:Int),(0:Int),())) (r1) (r1) ((0:Int)) ((0:Int)) (r1) (a) (b) (r1) (a) (b) (((0:Int),(0:Int),())) (r1) (r1) a7.1 a7.2.1 a7.2.2) 0 (r1.2.2.1) ((r1.2.2.2.1),((0:Int)),((0:Int)))else none)
theorem yUN(r1:Q1)(a:Q3)(b:Q3)(y:(Q4)×Unit)(h:yAP r1 a b=some y):∃ n,yOB n r1 a b=some y :=
  ⟨big,LeF.top (show LeF some (yAP r1 a b) (yOB big r1 a b)from (λ (n:Nat) (hn:big<=n)=>show LeF some (yAP r1 a b) (yOB n r1 a b)from (yN λ hx=>by apply yEZ n hn;exact hx)) big (Nat.le_refl _)) h⟩
def z1A_e:Entry:={ f:=148,args:=ySd,ress:=ycD,m:=λ x=>yAP x.1 x.2.1 x.2.2.1 }
theorem yJn:FnOK Tryz.prog z1A_e:=yJ (g:=yX6) (fn:=Tryz.f148) yC yI (yA yRP (yA yJL (yA yGG (yA yGq eNil)))) (by kernel_rfl) (by kernel_rfl) (by kernel_rfl) (λ x y h=>let ⟨n,hn⟩:=yUN x.1 x.2.1 x.2.2.1 y h;⟨yPG n,(y5G y5F (y5G y5D iNil)),(yby n x).trans hn⟩)
abbrev yEu:Ty:=.pair t96 .unit
abbrev yHT:Ty:=.pair t57 .unit
class ref02_det_Rec where
  f:yEu.den->Option yHT.den
section
variable [ref02_det_Rec]
def yDP:Entry:={ f:=150,args:=yEu,ress:=yHT,m:=λ x=>ref02_det_Rec.f x }
def yVU:G:={ T:=T,E:=[yDP,z0b_e,z10_e],muts:=[5,25],fz:=[40] }
def ye5:List (List Nat):=[[0,2,3,4],[0,2,3,4,5,6]]
def yPu(n:Nat):Ann:={ keep:=ye5,fuel:=n,inl:=[],deep:=0 }
def yFf(n:Nat)(r0:List (List (Q4))->Int->Int->Int->Int->Int->Option ((Q4)×Unit))(r1:List (List (Q4))->Int->Int->Int->Int->Int->Int->List (List (Q4))->Option ((Q4)×Unit))(cj:List (List (Q4)))(bC:Int)(cS:Int)(bE:Int)(bF:Int)(bn:Int)(bp:Int)(cK:List (List (Q4))):Option ((Q4)×Unit) :=
  (bif decide (cS < (↑cj.length:Int))then (Option.bind (idx cj cS) λ v2=>(bif decide ((0:Int)<=bC) && decide (bC<=(↑v2.length:Int))then (bif decide ((0:Nat)+(List.take bC.toNat v2).length<=memMax)then (Option.bind (idx cj cS) λ v3=>(bif decide ((0:Int)<=IntKind.i64.wrap (bC+1)) && decide (IntKind.i64.wrap (bC+1)<=(↑v3.length:Int))then (bif decide ((List.take bC.toNat v2).length+(List.drop (IntKind.i64.wrap (bC+1)).toNat v3).length<=memMax)then (bif decide (cK.length+(1:Nat)<=memMax)then r1 cj bC (IntKind.i64.wrap (cS+1)) bE bF bn bp (cK++[List.take bC.toNat v2++List.drop (IntKind.i64.wrap (bC+1)).toNat v3])else none)else none)else none))else none)else none))else (Option.bind (idx cj (0:Int)) λ v4=>(Option.bind (idx v4 bC) λ v5=>(Option.bind (ref02_det_Rec.f (cK,())) λ v6=>(bif bC.tmod (2:Int)==1 then r0 cj (IntKind.i64.wrap (bC+1)) bE bF (z10 (bn,bp,()) (IntKind.i64.wrap ((0:Int) - (z0b v5 v6.1).1.1),IntKind.i64.wrap ((0:Int) - (z0b v5 v6.1).1.2.1),())).1.1 (z10 (bn,bp,()) (IntKind.i64.wrap ((0:Int) - (z0b v5 v6.1).1.1),IntKind.i64.wrap ((0:Int) - (z0b v5 v6.1).1.2.1),())).1.2.1 else r0 cj (IntKind.i64.wrap (bC+1)) bE bF (z10 (bn,bp,()) ((z0b v5 v6.1).1.1,(z0b v5 v6.1).1.2.1,())).1.1 (z10 (bn,bp,()) ((z0b v5 v6.1).1.1,(z0b v5 v6.1).1.2.1,())).1.2.1)))))
def y7P(n:Nat)(r0:List (List (Q4))->Int->Int->Int->Int->Int->Option ((Q4)×Unit))(k:Nat)(cj:List (List (Q4)))(bC:Int)(cS:Int)(bE:Int)(bF:Int)(bn:Int)(bp:Int)(cK:List (List (Q4))):Option ((Q4)×Unit) :=
  iter (λ r y=>yFf n r0 (λ cj bC cS bE bF bn bp cK=>r ((cj,(bC,(cS,()))),(((bE,(bF,())),((bn,(bp,())),(cK,()))),()))) y.1.1 y.1.2.1 y.1.2.2.1 y.2.1.1.1 y.2.1.1.2.1 y.2.1.2.1.1 y.2.1.2.1.2.1 y.2.1.2.2.1) k ((cj,(bC,(cS,()))),(((bE,(bF,())),((bn,(bp,())),(cK,()))),()))
def yFx(n:Nat)(r0:List (List (Q4))->Int->Int->Int->Int->Int->Option ((Q4)×Unit))(aB:List (List (Q4)))(cm:Int)(al:Int)(am:Int)(aa:Int)(a8:Int):Option ((Q4)×Unit) :=
  (bif decide (cm < (↑aB.length:Int))then (y7P n r0 n (aB) (cm) ((1:Int)) (al) (am) (aa) (a8) ([]))else some ((aa,a8,()),()))
def y7C(n:Nat)(k:Nat)(aB:List (List (Q4)))(cm:Int)(al:Int)(am:Int)(aa:Int)(a8:Int):Option ((Q4)×Unit) :=
  iter (λ r y=>yFx n (λ aB cm al am aa a8=>r ((aB,(cm,())),(((al,(am,())),((aa,(a8,())),())),()))) y.1.1 y.1.2.1 y.2.1.1.1 y.2.1.1.2.1 y.2.1.2.1.1 y.2.1.2.1.2.1) k ((aB,(cm,())),(((al,(am,())),((aa,(a8,())),())),()))
def yMF(n:Nat)(m:List (List (Q4))):Option ((Q4)×Unit) :=
  (bif (↑m.length:Int)==0 then some (((1:Int),(0:Int),()),())else (y7C n n (m) ((0:Int)) ((0:Int)) ((0:Int)) ((0:Int)) ((0:Int))))
theorem yaF(n:Nat)(x:yEu.den):runF yVU (yPu n) Tryz.f150 yEu yHT x=yMF n x.1:=by kernel_rfl
def yGM(cj:List (List (Q4)))(bC:Int)(bE:Int)(bF:Int)(bn:Int)(bp:Int)(cS:Int)(cK:List (List (Q4))):Option ((((Q4)×Unit)⊕(Int×Int))⊕(List (List (Q4)))) :=
  (Option.bind (idx cj cS) λ v2=>(bif decide ((0:Int)<=bC) && decide (bC<=(↑v2.length:Int))then (bif decide ((0:Nat)+(List.take bC.toNat v2).length<=memMax)then (Option.bind (idx cj cS) λ v3=>(bif decide ((0:Int)<=IntKind.i64.wrap (bC+1)) && decide (IntKind.i64.wrap (bC+1)<=(↑v3.length:Int))then (bif decide ((List.take bC.toNat v2).length+(List.drop (IntKind.i64.wrap (bC+1)).toNat v3).length<=memMax)then (bif decide (cK.length+(1:Nat)<=memMax)then (some (Sum.inr (cK++[List.take bC.toNat v2++List.drop (IntKind.i64.wrap (bC+1)).toNat v3])))else none)else none)else none))else none)else none))
def yFW(cj:List (List (Q4)))(bC:Int)(bE:Int)(bF:Int)(bn:Int)(bp:Int)(cK:List (List (Q4))):Option (((Q4)×Unit)⊕(Int×Int)) :=
  (Option.bind (idx cj (0:Int)) λ v4=>(Option.bind (idx v4 bC) λ v5=>(Option.bind (ref02_det_Rec.f (cK,())) λ v6=>(bif bC.tmod (2:Int)==1 then (some (Sum.inr (((z10 (bn,bp,()) (IntKind.i64.wrap ((0:Int) - (z0b v5 v6.1).1.1),IntKind.i64.wrap ((0:Int) - (z0b v5 v6.1).1.2.1),())).1.1),((z10 (bn,bp,()) (IntKind.i64.wrap ((0:Int) - (z0b v5 v6.1).1.1),IntKind.i64.wrap ((0:Int) - (z0b v5 v6.1).1.2.1),())).1.2.1))))else (some (Sum.inr (((z10 (bn,bp,()) ((z0b v5 v6.1).1.1,(z0b v5 v6.1).1.2.1,())).1.1),((z10 (bn,bp,()) ((z0b v5 v6.1).1.1,(z0b v5 v6.1).1.2.1,())).1.2.1))))))))
theorem yEX(n:Nat)(hn:big<=n)(r0:List (List (Q4))->Int->Int->Int->Int->Int->Option ((Q4)×Unit))(cj:List (List (Q4)))(bC:Int)(bE:Int)(bF:Int)(bn:Int)(bp:Int)(cK:List (List (Q4)))(hx:((↑cj.length:Int))<=9223372036854775807):LeF (elim some λ (a7:(Int×Int))=>r0 cj (IntKind.i64.wrap (bC+1)) bE bF a7.1 a7.2) (y0I (λ af a7=>yGM cj bC bE bF bn bp af a7) (λ a7=>yFW cj bC bE bF bn bp a7) (((↑cj.length:Int)) - 1).toNat 1 cK) (y7P n r0 n cj bC 1 bE bF bn bp cK):=by
  refine y0c (f:=(elim some λ (a7:(Int×Int))=>r0 cj (IntKind.i64.wrap (bC+1)) bE bF a7.1 a7.2)) (W:=λ aJ af a7=>y7P n r0 aJ cj bC af bE bF bn bp a7) (body:=(λ af a7=>yGM cj bC bE bF bn bp af a7)) (fin:=(λ a7=>yFW cj bC bE bF bn bp a7)) (λ aJ af a7=>?_) hx cK n 1 (by decide) (by unfold big at hn;omega)
  show LeF _ _ (yFf n r0 (y7P n r0 aJ) cj bC af bE bF bn bp a7)
  exact y6 (y8 λ v2=>(y6 (y6 (y8 λ v3=>(y6 (y6 (y6 (y7 rfl) yq) yq) yq)) yq) yq)) (yr (y8 λ v4=>(y8 λ v5=>(y8 λ v6=>(y6 (y7 rfl) (y7 rfl))))))
def y9u(aB:List (List (Q4)))(al:Int)(am:Int)(cm:Int)(aa:Int)(a8:Int):Option (((Q4)×Unit)⊕(Int×Int)) :=
  (bif decide (((↑aB.length:Int))<=9223372036854775807)then y0I (λ af a7=>yGM (aB) (cm) (al) (am) (aa) (a8) af a7) (λ a7=>yFW (aB) (cm) (al) (am) (aa) (a8) a7) (((↑aB.length:Int)) - 1).toNat 1 ([])else none)
def yH0(aB:List (List (Q4)))(al:Int)(am:Int)(aa:Int)(a8:Int):Option ((Q4)×Unit) :=
  (some (((aa,a8,()),())))
theorem yEe(n:Nat)(hn:big<=n)(aB:List (List (Q4)))(al:Int)(am:Int)(aa:Int)(a8:Int)(hx:((↑aB.length:Int))<=9223372036854775807):LeF some (y0I (λ af a7=>y9u aB al am af a7.1 a7.2) (λ a7=>yH0 aB al am a7.1 a7.2) (((↑aB.length:Int)) - 0).toNat 0 (aa,a8)) (y7C n n aB 0 al am aa a8):=by
  refine y0c (f:=some) (W:=λ aJ af a7=>y7C n aJ aB af al am a7.1 a7.2) (body:=(λ af a7=>y9u aB al am af a7.1 a7.2)) (fin:=(λ a7=>yH0 aB al am a7.1 a7.2)) (λ aJ af a7=>?_) hx (aa,a8) n 0 (by decide) (by unfold big at hn;omega)
  show LeF _ _ (yFx n (y7C n aJ) aB af al am a7.1 a7.2)
  exact y6 (yN λ hx=>by apply yEX n hn;exact hx) (yr (y7 rfl))
def yHz(m:List (List (Q4))):Option ((Q4)×Unit) :=
  (bif (↑m.length:Int)==0 then (some ((((1:Int),(0:Int),()),())))else (bif decide (((↑m.length:Int))<=9223372036854775807)then y0I (λ af a7=>y9u (m) ((0:Int)) ((0:Int)) af a7.1 a7.2) (λ a7=>yH0 (m) ((0:Int)) ((0:Int)) a7.1 a7.2) (((↑m.length:Int)) - 0).toNat 0 (((0:Int)),((0:Int)))else none))
theorem yUL(m:List (List (Q4)))(y:(Q4)×Unit)(h:yHz m=some y):∃ n,yMF n m=some y :=
  ⟨big,LeF.top (show LeF some (yHz m) (yMF big m)from (λ (n:Nat) (hn:big<=n)=>show LeF some (yHz m) (yMF n m)from (y6 (y7 rfl) (yN λ hx=>by apply yEe n hn;exact hx))) big (Nat.le_refl _)) h⟩
end
def y05(d:Nat):yEu.den->Option yHT.den:=Nat.rec (motive:=λ _=>yEu.den->Option yHT.den) (λ _=>none) (λ _ ih x=>@yHz ⟨ih⟩ x.1) d
def y3e(d:Nat):Entry:={ f:=150,args:=yEu,ress:=yHT,m:=y05 d }
theorem y4v:(d:Nat)->FnOK Tryz.prog (y3e d)
  | 0=>FnOK.none (fn:=Tryz.f150) (by kernel_rfl) (by kernel_rfl) (by kernel_rfl)
  | d+1=>yJ (g:=@yVU ⟨y05 d⟩) (fn:=Tryz.f150) (e:=y3e (d+1)) yC yI (yA (y4v d) (yA yG2 (yA yKg eNil))) (by kernel_rfl) (by kernel_rfl) (by kernel_rfl) (λ x y h=>let ⟨n,hn⟩:=@yUL ⟨y05 d⟩ x.1 y h;⟨yPu n,iNil,(@yaF ⟨y05 d⟩ n x).trans hn⟩)
def z1I_e:Entry:=y3e 8
theorem yPW:FnOK Tryz.prog z1I_e:=y4v 8
abbrev ySq:Ty:=.pair t94 (.pair t3 .unit)
abbrev yar:Ty:=.pair t3 .unit
def ya0:G:={ T:=T,E:=[zi_e],muts:=[],fz:=[] }
def yfD:List (List Nat):=[]
def yPk(n:Nat):Ann:={ keep:=yfD,fuel:=n,inl:=[],deep:=0 }
def yNY(n:Nat)(r1:Q1)(tick:Int):Option (Int×Unit) :=
  (Option.bind (idx r1.2.2.1 (IntKind.i64.wrap (tick - r1.2.1))) λ v0=>(Option.bind (zi_M v0) λ v1=>some (v1.1,())))
theorem yVG(n:Nat)(x:ySq.den):runF ya0 (yPk n) Tryz.f153 ySq yar x=yNY n x.1 x.2.1:=by kernel_rfl
def y8w(r1:Q1)(tick:Int):Option (Int×Unit):=yNY 0 r1 tick
theorem yQw(r1:Q1)(tick:Int)(y:Int×Unit)(h:y8w r1 tick=some y):∃ n,yNY n r1 tick=some y:=⟨0,h⟩
def z00_e:Entry:={ f:=153,args:=ySq,ress:=yar,m:=λ x=>y8w x.1 x.2.1 }
theorem yPK:FnOK Tryz.prog z00_e:=yJ (g:=ya0) (fn:=Tryz.f153) yC yI (yA yeI eNil) (by kernel_rfl) (by kernel_rfl) (by kernel_rfl) (λ x y h=>let ⟨n,hn⟩:=yQw x.1 x.2.1 y h;⟨yPk n,iNil,(yVG n x).trans hn⟩)
abbrev zw_a:Ty:=.pair t94 (.pair t3 .unit)
abbrev zw_r:Ty:=.pair t4 .unit
def zw_g:G:={ T:=T,E:=[z1H_e],muts:=[],fz:=[] }
def zw_k:List (List Nat):=[]
def yWT(n:Nat):Ann:={ keep:=zw_k,fuel:=n,inl:=[],deep:=0 }
def zw_m(n:Nat)(r1:Q1)(i:Int):Option (Bool×Unit) :=
  (bif decide (i >= 0)then (bif decide (i < (↑r1.2.2.1.length:Int))then (Option.bind (yBS r1.2.2.2.1 i) λ v0=>some (!v0.1,()))else some (Bool.false,()))else some (Bool.false,()))
theorem ycj(n:Nat)(x:zw_a.den):runF zw_g (yWT n) Tryz.f155 zw_a zw_r x=zw_m n x.1 x.2.1:=by kernel_rfl
def zw_M(r1:Q1)(i:Int):Option (Bool×Unit):=zw_m 0 r1 i
theorem yaw(r1:Q1)(i:Int)(y:Bool×Unit)(h:zw_M r1 i=some y):∃ n,zw_m n r1 i=some y:=⟨0,h⟩
def zw_e:Entry:={ f:=155,args:=zw_a,ress:=zw_r,m:=λ x=>zw_M x.1 x.2.1 }
theorem ycm:FnOK Tryz.prog zw_e:=yJ (g:=zw_g) (fn:=Tryz.f155) yC yI (yA yP1 eNil) (by kernel_rfl) (by kernel_rfl) (by kernel_rfl) (λ x y h=>let ⟨n,hn⟩:=yaw x.1 x.2.1 y h;⟨yWT n,iNil,(ycj n x).trans hn⟩)
abbrev zf_a:Ty:=.pair t58 .unit
abbrev zf_r:Ty:=.pair t3 .unit
def zf_g:G:={ T:=T,E:=[zo_e],muts:=[],fz:=[] }
def zf_k:List (List Nat):=[[0,3]]
def ybP(n:Nat):Ann:={ keep:=zf_k,fuel:=n,inl:=[],deep:=0 }
def yKB(n:Nat)(r0:List (Q4)->Int->Option (Int×Unit))(aq:List (Q4))(bR:Int):Option (Int×Unit) :=
  (bif decide (bR < (↑aq.length:Int))then (Option.bind (idx aq bR) λ v1=>(bif (zo v1).1 != 0 then some ((14:Int),())else (bif decide (bR > 0)then (Option.bind (idx aq bR) λ v2=>(Option.bind (idx aq (IntKind.i64.wrap (bR - (1:Int)))) λ v3=>(bif decide (v2.1<=v3.2.1)then some ((11:Int),())else r0 aq (IntKind.i64.wrap (bR+1)))))else r0 aq (IntKind.i64.wrap (bR+1)))))else some ((0:Int),()))
def yAQ(n:Nat)(k:Nat)(aq:List (Q4))(bR:Int):Option (Int×Unit) :=
  iter (λ r y=>yKB n (λ aq bR=>r ((aq,(bR,())),((),()))) y.1.1 y.1.2.1) k ((aq,(bR,())),((),()))
def zf_m(n:Nat)(l:List (Q4)):Option (Int×Unit) :=
  (bif decide ((↑l.length:Int) > 2048)then some ((5:Int),())else (yAQ n n (l) ((0:Int))))
theorem yct(n:Nat)(x:zf_a.den):runF zf_g (ybP n) Tryz.f158 zf_a zf_r x=zf_m n x.1:=by kernel_rfl
def yJN(aq:List (Q4))(bR:Int)(v1:Q4):Option ((Int×Unit)⊕Unit) :=
  (bif (zo v1).1 != 0 then (some (Sum.inl (((14:Int),()))))else (bif decide (bR > 0)then (Option.bind (idx aq bR) λ v2=>(Option.bind (idx aq (IntKind.i64.wrap (bR - (1:Int)))) λ v3=>(bif decide (v2.1<=v3.2.1)then (some (Sum.inl (((11:Int),()))))else (some (Sum.inr ())))))else (some (Sum.inr ()))))
def yOR(aq:List (Q4)):Option (Int×Unit) :=
  (some (((0:Int),())))
theorem yId(n:Nat)(hn:big<=n)(aq:List (Q4))(hx:List.length (aq) < lenMax):LeF some (yM (λ af aC a7=>yJN aq af aC) (λ a7=>yOR aq) 0 (aq) ()) (yAQ n n aq 0):=by
  refine yQ (f:=some) (W:=λ aJ af a7=>yAQ n aJ aq af) (body:=(λ af aC a7=>yJN aq af aC)) (fin:=(λ a7=>yOR aq)) (λ aJ af a7=>?_) hx () n (by unfold big at hn;unfold lenMax at hx;omega)
  show LeF _ _ (yKB n (yAQ n aJ) aq af)
  exact y6 (y8 λ v1=>(y6 (y7 rfl) (y6 (y8 λ v2=>(y8 λ v3=>(y6 (y7 rfl) (y7 rfl)))) (y7 rfl)))) (yr (y7 rfl))
def zf_M(l:List (Q4)):Option (Int×Unit) :=
  (bif decide ((↑l.length:Int) > 2048)then (some (((5:Int),())))else (bif decide (List.length (l) < lenMax)then yM (λ af aC a7=>yJN (l) af aC) (λ a7=>yOR (l)) 0 (l) ()else none))
theorem yYt(l:List (Q4))(y:Int×Unit)(h:zf_M l=some y):∃ n,zf_m n l=some y :=
  ⟨big,LeF.top (show LeF some (zf_M l) (zf_m big l)from (λ (n:Nat) (hn:big<=n)=>show LeF some (zf_M l) (zf_m n l)from (y6 (y7 rfl) (yN λ hx=>by apply yId n hn;exact hx))) big (Nat.le_refl _)) h⟩
def zf_e:Entry:={ f:=158,args:=zf_a,ress:=zf_r,m:=λ x=>zf_M x.1 }
theorem yeJ:FnOK Tryz.prog zf_e:=yJ (g:=zf_g) (fn:=Tryz.f158) yC yI (yA yce eNil) (by kernel_rfl) (by kernel_rfl) (by kernel_rfl) (λ x y h=>let ⟨n,hn⟩:=yYt x.1 y h;⟨ybP n,iNil,(yct n x).trans hn⟩)
abbrev yTY:Ty:=.pair t31 (.pair t23 (.pair t3 .unit))
abbrev yau:Ty:=.pair t57 .unit
def yYi:G:={ T:=T,E:=[zR_e,z1F_e,z1M_e],muts:=[],fz:=[] }
def ycs:List (List Nat):=[[1,2,6,7,11,12,13]]
def yQ7(n:Nat):Ann:={ keep:=ycs,fuel:=n,inl:=[],deep:=0 }
def yFL(n:Nat)(r0:List (Q4)->Int->List (Q3)->Int->Int->Int->Int->Int->Int->Option ((Q4)×Unit))(cF:List (Q4))(bv:Int)(aD:List (Q3))(bx:Int)(bQ:Int)(al:Int)(am:Int)(aa:Int)(a8:Int):Option ((Q4)×Unit) :=
  (bif decide (bQ < bx)then (Option.bind (idx aD bQ) λ v1=>(Option.bind (idx cF bQ) λ v2=>(Option.bind (zR_M (v1.1,v1.2.1,v1.2.2.1,()) bv) λ v3=>r0 cF bv aD bx (IntKind.i64.wrap (bQ+1)) al am (z1M (aa,a8,()) (z1F v2 v3.1).1).1.1 (z1M (aa,a8,()) (z1F v2 v3.1).1).1.2.1)))else some ((aa,a8,()),()))
def y71(n:Nat)(k:Nat)(cF:List (Q4))(bv:Int)(aD:List (Q3))(bx:Int)(bQ:Int)(al:Int)(am:Int)(aa:Int)(a8:Int):Option ((Q4)×Unit) :=
  iter (λ r y=>yFL n (λ cF bv aD bx bQ al am aa a8=>r ((cF,(bv,(aD,(bx,(bQ,()))))),(((al,(am,())),((aa,(a8,())),())),()))) y.1.1 y.1.2.1 y.1.2.2.1 y.1.2.2.2.1 y.1.2.2.2.2.1 y.2.1.1.1 y.2.1.1.2.1 y.2.1.2.1.1 y.2.1.2.1.2.1) k ((cF,(bv,(aD,(bx,(bQ,()))))),(((al,(am,())),((aa,(a8,())),())),()))
def yNb(n:Nat)(l:List (Q3))(v:List (Q4))(tick:Int):Option ((Q4)×Unit) :=
  (y71 n n (v) (tick) (l) ((↑l.length:Int)) ((0:Int)) ((0:Int)) ((0:Int)) ((0:Int)) ((0:Int)))
theorem yXm(n:Nat)(x:yTY.den):runF yYi (yQ7 n) Tryz.f167 yTY yau x=yNb n x.1 x.2.1 x.2.2.1:=by kernel_rfl
def yLM(cF:List (Q4))(bv:Int)(aD:List (Q3))(al:Int)(am:Int)(bQ:Int)(v1:Q3)(aa:Int)(a8:Int):Option (((Q4)×Unit)⊕(Int×Int)) :=
  (Option.bind (idx cF bQ) λ v2=>(Option.bind (zR_M (v1.1,v1.2.1,v1.2.2.1,()) bv) λ v3=>(some (Sum.inr (((z1M (aa,a8,()) (z1F v2 v3.1).1).1.1),((z1M (aa,a8,()) (z1F v2 v3.1).1).1.2.1))))))
def yLn(cF:List (Q4))(bv:Int)(aD:List (Q3))(al:Int)(am:Int)(aa:Int)(a8:Int):Option ((Q4)×Unit) :=
  (some (((aa,a8,()),())))
theorem yEz(n:Nat)(hn:big<=n)(cF:List (Q4))(bv:Int)(aD:List (Q3))(al:Int)(am:Int)(aa:Int)(a8:Int)(hx:List.length (aD) < lenMax):LeF some (yM (λ af aC a7=>yLM cF bv aD al am af aC a7.1 a7.2) (λ a7=>yLn cF bv aD al am a7.1 a7.2) 0 (aD) (aa,a8)) (y71 n n cF bv aD (List.length (aD):Int) 0 al am aa a8):=by
  refine yQ (f:=some) (W:=λ aJ af a7=>y71 n aJ cF bv aD (List.length (aD):Int) af al am a7.1 a7.2) (body:=(λ af aC a7=>yLM cF bv aD al am af aC a7.1 a7.2)) (fin:=(λ a7=>yLn cF bv aD al am a7.1 a7.2)) (λ aJ af a7=>?_) hx (aa,a8) n (by unfold big at hn;unfold lenMax at hx;omega)
  show LeF _ _ (yFL n (y71 n aJ) cF bv aD (List.length (aD):Int) af al am a7.1 a7.2)
  exact y6 (y8 λ v1=>(y8 λ v2=>(y8 λ v3=>(y7 rfl)))) (yr (y7 rfl))
def yLB(l:List (Q3))(v:List (Q4))(tick:Int):Option ((Q4)×Unit) :=
  (bif decide (List.length (l) < lenMax)then yM (λ af aC a7=>yLM (v) (tick) (l) ((0:Int)) ((0:Int)) af aC a7.1 a7.2) (λ a7=>yLn (v) (tick) (l) ((0:Int)) ((0:Int)) a7.1 a7.2) 0 (l) (((0:Int)),((0:Int)))else none)
theorem yRd(l:List (Q3))(v:List (Q4))(tick:Int)(y:(Q4)×Unit)(h:yLB l v tick=some y):∃ n,yNb n l v tick=some y :=
  ⟨big,LeF.top (show LeF some (yLB l v tick) (yNb big l v tick)from (λ (n:Nat) (hn:big<=n)=>show LeF some (yLB l v tick) (yNb n l v tick)from (yN λ hx=>by apply yEz n hn;exact hx)) big (Nat.le_refl _)) h⟩
def z1G_e:Entry:={ f:=167,args:=yTY,ress:=yau,m:=λ x=>yLB x.1 x.2.1 x.2.2.1 }
theorem yaU:FnOK Tryz.prog z1G_e:=yJ (g:=yYi) (fn:=Tryz.f167) yC yI (yA yRP (yA yGG (yA yGq eNil))) (by kernel_rfl) (by kernel_rfl) (by kernel_rfl) (λ x y h=>let ⟨n,hn⟩:=yRd x.1 x.2.1 x.2.2.1 y h;⟨yQ7 n,iNil,(yXm n x).trans hn⟩)
abbrev yRy:Ty:=.pair t3 (.pair t41 .unit)
abbrev yW6:Ty:=.pair t3 .unit
def yWL:G:={ T:=T,E:=[z0D_e],muts:=[],fz:=[] }
def yd7:List (List Nat):=[[0,7,8,9],[0,6,7,8,9]]
def yPt(n:Nat):Ann:={ keep:=yd7,fuel:=n,inl:=[],deep:=0 }
def yF7(n:Nat)(r0:Int->List Int->Int->Int->Option (Int×Unit))(r2:Int->Int->List Int->Int->Int->Option (Int×Unit))(cR:Int)(cG:Int)(cN:List Int)(cO:Int)(aP:Int):Option (Int×Unit) :=
  (bif cG != 0 then (bif cG==0 then none else r2 cG (cR.tmod cG) cN cO aP)else r0 cR cN cO (IntKind.i64.wrap (aP+1)))
def y78(n:Nat)(r0:Int->List Int->Int->Int->Option (Int×Unit))(k:Nat)(cR:Int)(cG:Int)(cN:List Int)(cO:Int)(aP:Int):Option (Int×Unit) :=
  iter (λ r y=>yF7 n r0 (λ cR cG cN cO aP=>r ((cR,(cG,(cN,(cO,(aP,()))))),((),()))) y.1.1 y.1.2.1 y.1.2.2.1 y.1.2.2.2.1 y.1.2.2.2.2.1) k ((cR,(cG,(cN,(cO,(aP,()))))),((),()))
def yG1(n:Nat)(r0:Int->List Int->Int->Int->Option (Int×Unit))(cQ:Int)(aR:List Int)(ac:Int)(aj:Int):Option (Int×Unit) :=
  (bif decide (aj < ac)then (Option.bind (idx aR aj) λ v1=>(y78 n r0 n (cQ) ((z0D v1).1) (aR) (ac) (aj)))else some (cQ,()))
def y6y(n:Nat)(k:Nat)(cQ:Int)(aR:List Int)(ac:Int)(aj:Int):Option (Int×Unit) :=
  iter (λ r y=>yG1 n (λ cQ aR ac aj=>r ((cQ,(aR,(ac,(aj,())))),((),()))) y.1.1 y.1.2.1 y.1.2.2.1 y.1.2.2.2.1) k ((cQ,(aR,(ac,(aj,())))),((),()))
def yNo(n:Nat)(n1:Int)(l:List Int):Option (Int×Unit) :=
  (y6y n n (n1) (l) ((↑l.length:Int)) ((0:Int)))
theorem ybk(n:Nat)(x:yRy.den):runF yWL (yPt n) Tryz.f186 yRy yW6 x=yNo n x.1 x.2.1:=by kernel_rfl
def y8R(cN:List Int)(cO:Int)(aP:Int)(cR:Int)(cG:Int):Option (((Int×Unit)⊕(Int))⊕(Int×Int)) :=
  (bif cG != 0 then (bif cG==0 then none else (some (Sum.inr ((cG),(cR.tmod cG)))))else (some (Sum.inl (Sum.inr (cR)))))
theorem yEP(n:Nat)(hn:big<=n)(r0:Int->List Int->Int->Int->Option (Int×Unit))(cN:List Int)(cO:Int)(aP:Int)(cR:Int)(cG:Int):LeF (elim some λ (a7:(Int))=>r0 a7 cN cO (IntKind.i64.wrap (aP+1))) (y1e (λ a7=>y8R cN cO aP a7.1 a7.2) wMax (cR,cG)) (y78 n r0 n cR cG cN cO aP):=by
  refine y37 (f:=(elim some λ (a7:(Int))=>r0 a7 cN cO (IntKind.i64.wrap (aP+1)))) (W:=λ aJ a7=>y78 n r0 aJ a7.1 a7.2 cN cO aP) (body:=(λ a7=>y8R cN cO aP a7.1 a7.2)) (λ aJ a7=>?_) wMax n (cR,cG) (by unfold big at hn;unfold wMax;omega)
  show LeF _ _ (yF7 n r0 (y78 n r0 aJ) a7.1 a7.2 cN cO aP)
  exact (y6 (y6 yq (y7 rfl)) (y7 rfl))
def y9m(aR:List Int)(aj:Int)(v1:Int)(cQ:Int):Option ((Int×Unit)⊕(Int)) :=
  (y1e (λ a7=>y8R (aR) ((↑aR.length:Int)) (aj) a7.1 a7.2) wMax ((cQ),((z0D v1).1)))
def yIs(aR:List Int)(cQ:Int):Option (Int×Unit) :=
  (some ((cQ,())))
theorem yF0(n:Nat)(hn:big<=n)(aR:List Int)(cQ:Int)(hx:List.length (aR) < lenMax):LeF some (yM (λ af aC a7=>y9m aR af aC a7) (λ a7=>yIs aR a7) 0 (aR) cQ) (y6y n n cQ aR (List.length (aR):Int) 0):=by
  refine yQ (f:=some) (W:=λ aJ af a7=>y6y n aJ a7 aR (List.length (aR):Int) af) (body:=(λ af aC a7=>y9m aR af aC a7)) (fin:=(λ a7=>yIs aR a7)) (λ aJ af a7=>?_) hx cQ n (by unfold big at hn;unfold lenMax at hx;omega)
  show LeF _ _ (yG1 n (y6y n aJ) a7 aR (List.length (aR):Int) af)
  exact y6 (y8 λ v1=>(by apply yEP n hn)) (yr (y7 rfl))
def y8G(n1:Int)(l:List Int):Option (Int×Unit) :=
  (bif decide (List.length (l) < lenMax)then yM (λ af aC a7=>y9m (l) af aC a7) (λ a7=>yIs (l) a7) 0 (l) (n1)else none)
theorem yTx(n1:Int)(l:List Int)(y:Int×Unit)(h:y8G n1 l=some y):∃ n,yNo n n1 l=some y :=
  ⟨big,LeF.top (show LeF some (y8G n1 l) (yNo big n1 l)from (λ (n:Nat) (hn:big<=n)=>show LeF some (y8G n1 l) (yNo n n1 l)from (yN λ hx=>by apply yF0 n hn;exact hx)) big (Nat.le_refl _)) h⟩
def z0S_e:Entry:={ f:=186,args:=yRy,ress:=yW6,m:=λ x=>y8G x.1 x.2.1 }
theorem yPn:FnOK Tryz.prog z0S_e:=yJ (g:=yWL) (fn:=Tryz.f186) yC yI (yA yCy eNil) (by kernel_rfl) (by kernel_rfl) (by kernel_rfl) (λ x y h=>let ⟨n,hn⟩:=yTx x.1 x.2.1 y h;⟨yPt n,iNil,(ybk n x).trans hn⟩)
abbrev ySA:Ty:=.pair t55 (.pair (.ref t60) .unit)
abbrev ybi:Ty:=.pair t57 .unit
def yaB:G:={ T:=T,E:=[zR_e,z05_e,z0o_e,z1M_e],muts:=[],fz:=[] }
def yco:List (List Nat):=[]
def yQD(n:Nat):Ann:={ keep:=yco,fuel:=n,inl:=[il124,il195],deep:=3 }
def y8b(n:Nat)(r0:Q1->List (Q4)->List Nat->Int->Int->Q3->Q1->Q3->Q4->Q1->Q1->Int->Int->Int->Int->Q3->Q1->Q3->Q4->Q1->Q1->Option ((Q4)×Unit))(j8:Q1)(j9:List (Q4))(j10:Int)(j11:Nat)(j12:List Nat)(j13:Int)(j14:Int)(j15:Q3)(j16:Q1)(j17:Q3)(j18:Q4)(j19:Q1)(j20:Q1)(j21:Int)(j22:Int)(j23:Int)(j24:Int)(j25:Q3)(j26:Q1)(j27:Q3)(j28:Q4)(j29:Q1)(j30:Q1):Option ((Q4)×Unit) :=
  (bif decide ((↑j9.length:Int) > 0)then (Option.bind (idx j9 (0:Int)) λ v31=>(bif decide (v31.1<=j10)then r0 j8 j9 j12 j13 (IntKind.i64.wrap (j14+1)) j15 j16 j17 j18 j19 j20 j21 j22 j23 j24 j25 j26 j27 j28 j29 j30 else (Option.bind (yo Go.FloatKind.f32 (y0A Go.BinOp.mul Go.FloatKind.f32 j11 (nat_lit 1098907648)) IntKind.i64) λ v36=>(Option.bind (zR_M j17 (IntKind.i64.wrap (j8.2.1+j10))) λ v37=>r0 j8 j9 j12 j13 (IntKind.i64.wrap (j14+1)) j15 j16 j17 j18 j19 j20 j21 j22 (z1M (j23,j24,()) (z0o (z05 v37.1).1 v36).1).1.1 (z1M (j23,j24,()) (z0o (z05 v37.1).1 v36).1).1.2.1 j25 j26 j27 j28 j29 j30))))else (Option.bind (yo Go.FloatKind.f32 (y0A Go.BinOp.mul Go.FloatKind.f32 j11 (nat_lit 1098907648)) IntKind.i64) λ v38=>(Option.bind (zR_M j17 (IntKind.i64.wrap (j8.2.1+j10))) λ v39=>r0 j8 j9 j12 j13 (IntKind.i64.wrap (j14+1)) j15 j16 j17 j18 j19 j20 j21 j22 (z1M (j23,j24,()) (z0o (z05 v39.1).1 v38).1).1.1 (z1M (j23,j24,()) (z0o (z05 v39.1).1 v38).1).1.2.1 j25 j26 j27 j28 j29 j30)))
def yGp(n:Nat)(r0:Q1->List (Q4)->List Nat->Int->Int->Q3->Q1->Q3->Q4->Q1->Q1->Int->Int->Int->Int->Q3->Q1->Q3->Q4->Q1->Q1->Option ((Q4)×Unit))(r2:Q1->List (Q4)->Int->Nat->List Nat->Int->Int->Q3->Q1->Q3->Q4->Q1->Q1->Int->Int->Int->Int->Q3->Q1->Q3->Q4->Q1->Q1->Option ((Q4)×Unit))(b9:Q1)(ai:List (Q4))(ba:Int)(bi:Nat)(aP:List Nat)(aF:Int)(aG:Int)(ar:Q3)(au:Q1)(aM:Q3)(bN:Q4)(bO:Q1)(bg:Q1)(aN:Int)(aO:Int)(aT:Int)(aU:Int)(be:Q3)(bf:Q1)(bM:Q3)(cC:Q4)(cD:Q1)(bP:Q1):Option ((Q4)×Unit) :=
  (bif decide ((↑ai.length:Int) > 0)then (Option.bind (idx ai (0:Int)) λ v3=>(bif decide (v3.2.1<=ba)then (bif decide ((0:Int)<=1) && decide ((1:Int)<=(↑ai.length:Int))then r2 b9 (List.drop (Int.toNat (1:Int)) ai) ba bi aP aF aG ar au aM bN bO bg aN aO aT aU be bf bM cC cD bP else none)else (y8b n r0 (b9) (ai) (ba) (bi) (aP) (aF) (aG) (ar) (au) (aM) (bN) (bO) (bg) (aN) (aO) (aT) (aU) (be) (bf) (bM) (cC) (cD) (bP))))else (y8b n r0 (b9) (ai) (ba) (bi) (aP) (aF) (aG) (ar) (au) (aM) (bN) (bO) (bg) (aN) (aO) (aT) (aU) (be) (bf) (bM) (cC) (cD) (bP)))
def y6z(n:Nat)(r0:Q1->List (Q4)->List Nat->Int->Int->Q3->Q1->Q3->Q4->Q1->Q1->Int->Int->Int->Int->Q3->Q1->Q3->Q4->Q1->Q1->Option ((Q4)×Unit))(k:Nat)(b9:Q1)(ai:List (Q4))(ba:Int)(bi:Nat)(aP:List Nat)(aF:Int)(aG:Int)(ar:Q3)(au:Q1)(aM:Q3)(bN:Q4)(bO:Q1)(bg:Q1)(aN:Int)(aO:Int)(aT:Int)(aU:Int)(be:Q3)(bf:Q1)(bM:Q3)(cC:Q4)(cD:Q1)(bP:Q1):Option ((Q4)×Unit) :=
  iter (λ r y=>yGp n r0 (λ b9 ai ba bi aP aF aG ar au aM bN bO bg aN aO aT aU be bf bM cC cD bP=>r ((b9,(ai,(ba,(bi,(aP,(aF,(aG,()))))))),(((ar,(au,(aM,(bN,(bO,((bg,()),())))))),((aN,(aO,())),((aT,(aU,())),()))),(be,(bf,(bM,(cC,(cD,((bP,()),()))))))))) y.1.1 y.1.2.1 y.1.2.2.1 y.1.2.2.2.1 y.1.2.2.2.2.1 y.1.2.2.2.2.2.1 y.1.2.2.2.2.2.2.1 y.2.1.1.1 y.2.1.1.2.1 y.2.1.1.2.2.1 y.2.1.1.2.2.2.1 y.2.1.1.2.2.2.2.1 y.2.1.1.2.2.2.2.2.1.1 y.2.1.2.1.1 y.2.1.2.1.2.1 y.2.1.2.2.1.1 y.2.1.2.2.1.2.1 y.2.2.1 y.2.2.2.1 y.2.2.2.2.1 y.2.2.2.2.2.1 y.2.2.2.2.2.2.1 y.2.2.2.2.2.2.2.1.1) k ((b9,(ai,(ba,(bi,(aP,(aF,(aG,()))))))),(((ar,(au,(aM,(bN,(bO,((bg,()),())))))),((aN,(aO,())),((aT,(aU,())),()))),(be,(bf,(bM,(cC,(cD,((bP,()),()))))))))
def yFX(n:Nat)(r0:Q1->List (Q4)->List Nat->Int->Int->Q3->Q1->Q3->Q4->Q1->Q1->Int->Int->Int->Int->Q3->Q1->Q3->Q4->Q1->Q1->Option ((Q4)×Unit))(aA:Q1)(ay:List (Q4))(aj:List Nat)(ak:Int)(aD:Int)(aw:Q3)(ax:Q1)(aV:Q3)(bZ:Q4)(ca:Q1)(bm:Q1)(aa:Int)(a8:Int)(aZ:Int)(b6:Int)(bl:Q3)(aQ:Q1)(bY:Q3)(cL:Q4)(cM:Q1)(cb:Q1):Option ((Q4)×Unit) :=
  (bif decide (aD < ak)then (Option.bind (idx aj aD) λ v1=>(y6z n r0 n (aA) (ay) (aD) (v1) (aj) (ak) (aD) (aw) (ax) (aV) (bZ) (ca) (bm) (aa) (a8) (aZ) (b6) (bl) (aQ) (bY) (cL) (cM) (cb)))else some ((aZ,b6,()),()))
def y7K(n:Nat)(k:Nat)(aA:Q1)(ay:List (Q4))(aj:List Nat)(ak:Int)(aD:Int)(aw:Q3)(ax:Q1)(aV:Q3)(bZ:Q4)(ca:Q1)(bm:Q1)(aa:Int)(a8:Int)(aZ:Int)(b6:Int)(bl:Q3)(aQ:Q1)(bY:Q3)(cL:Q4)(cM:Q1)(cb:Q1):Option ((Q4)×Unit) :=
  iter (λ r y=>yFX n (λ aA ay aj ak aD aw ax aV bZ ca bm aa a8 aZ b6 bl aQ bY cL cM cb=>r ((aA,(ay,(aj,(ak,(aD,()))))),(((aw,(ax,(aV,(bZ,(ca,((bm,()),())))))),((aa,(a8,())),((aZ,(b6,())),()))),(bl,(aQ,(bY,(cL,(cM,((cb,()),()))))))))) y.1.1 y.1.2.1 y.1.2.2.1 y.1.2.2.2.1 y.1.2.2.2.2.1 y.2.1.1.1 y.2.1.1.2.1 y.2.1.1.2.2.1 y.2.1.1.2.2.2.1 y.2.1.1.2.2.2.2.1 y.2.1.1.2.2.2.2.2.1.1 y.2.1.2.1.1 y.2.1.2.1.2.1 y.2.1.2.2.1.1 y.2.1.2.2.1.2.1 y.2.2.1 y.2.2.2.1 y.2.2.2.2.1 y.2.2.2.2.2.1 y.2.2.2.2.2.2.1 y.2.2.2.2.2.2.2.1.1) k ((aA,(ay,(aj,(ak,(aD,()))))),(((aw,(ax,(aV,(bZ,(ca,((bm,()),())))))),((aa,(a8,())),((aZ,(b6,())),()))),(bl,(aQ,(bY,(cL,(cM,((cb,()),()))))))))
def yN0(n:Nat)(c:Q3)(p1:Q1):Option ((Q4)×Unit) :=
  (y7K n n (p1) (p1.2.2.2.1) (p1.2.2.1) ((↑p1.2.2.1.length:Int)) ((0:Int)) (c) (p1) (c) (((0:Int),(0:Int),())) (p1) (p1) ((0:Int)) ((0:Int)) ((0:Int)) ((0:Int)) (c) (p1) (c) (((0:Int),(0:Int),())) (p1) (p1))
theorem yaZ(n:Nat)(x:ySA.den):runF yaB (yQD n) Tryz.f188 ySA ybi x=yN0 n x.1 x.2.1:=by kernel_rfl
def yAD(j8:Q1)(j9:List (Q4))(j10:Int)(j11:Nat)(j12:List Nat)(j13:Int)(j14:Int)(j15:Q3)(j16:Q1)(j17:Q3)(j18:Q4)(j19:Q1)(j20:Q1)(j21:Int)(j22:Int)(j23:Int)(j24:Int)(j25:Q3)(j26:Q1)(j27:Q3)(j28:Q4)(j29:Q1)(j30:Q1):Option (((Q4)×Unit)⊕((List (Q4))×Int×Int)) :=
  (bif decide ((↑j9.length:Int) > 0)then (Option.bind (idx j9 (0:Int)) λ v31=>(bif decide (v31.1<=j10)then (some (Sum.inr ((j9),(j23),(j24))))else (Option.bind (yo Go.FloatKind.f32 (y0A Go.BinOp.mul Go.FloatKind.f32 j11 (nat_lit 1098907648)) IntKind.i64) λ v36=>(Option.bind (zR_M j17 (IntKind.i64.wrap (j8.2.1+j10))) λ v37=>(some (Sum.inr ((j9),((z1M (j23,j24,()) (z0o (z05 v37.1).1 v36).1).1.1),((z1M (j23,j24,()) (z0o (z05 v37.1).1 v36).1).1.2.1))))))))else (Option.bind (yo Go.FloatKind.f32 (y0A Go.BinOp.mul Go.FloatKind.f32 j11 (nat_lit 1098907648)) IntKind.i64) λ v38=>(Option.bind (zR_M j17 (IntKind.i64.wrap (j8.2.1+j10))) λ v39=>(some (Sum.inr ((j9),((z1M (j23,j24,()) (z0o (z05 v39.1).1 v38).1).1.1),((z1M (j23,j24,()) (z0o (z05 v39.1).1 v38).1).1.2.1)))))))
theorem y2A(n:Nat)(hn:big<=n)(r0:Q1->List (Q4)->List Nat->Int->Int->Q3->Q1->Q3->Q4->Q1->Q1->Int->Int->Int->Int->Q3->Q1->Q3->Q4->Q1->Q1->Option ((Q4)×Unit))(j8:Q1)(j9:List (Q4))(j10:Int)(j11:Nat)(j12:List Nat)(j13:Int)(j14:Int)(j15:Q3)(j16:Q1)(j17:Q3)(j18:Q4)(j19:Q1)(j20:Q1)(j21:Int)(j22:Int)(j23:Int)(j24:Int)(j25:Q3)(j26:Q1)(j27:Q3)(j28:Q4)(j29:Q1)(j30:Q1):LeF (elim some λ (a7:((List (Q4))×Int×Int))=>r0 j8 a7.1 j12 j13 (IntKind.i64.wrap (j14+1)) j15 j16 j17 j18 j19 j20 j21 j22 a7.2.1 a7.2.2 j25 j26 j27 j28 j29 j30) (yAD j8 j9 j10 j11 j12 j13 j14 j15 j16 j17 j18 j19 j20 j21 j22 j23 j24 j25 j26 j27 j28 j29 j30) (y8b n r0 j8 j9 j10 j11 j12 j13 j14 j15 j16 j17 j18 j19 j20 j21 j22 j23 j24 j25 j26 j27 j28 j29 j30) :=
  (y6 (y8 λ v31=>(y6 (y7 rfl) (y8 λ v36=>(y8 λ v37=>(y7 rfl))))) (y8 λ v38=>(y8 λ v39=>(y7 rfl))))
def yKA(b9:Q1)(ba:Int)(bi:Nat)(aP:List Nat)(aF:Int)(aG:Int)(ar:Q3)(au:Q1)(aM:Q3)(bN:Q4)(bO:Q1)(bg:Q1)(aN:Int)(aO:Int)(aT:Int)(aU:Int)(be:Q3)(bf:Q1)(bM:Q3)(cC:Q4)(cD:Q1)(bP:Q1)(ai:List (Q4)):Option ((((Q4)×Unit)⊕((List (Q4))×Int×Int))⊕(List (Q4))) :=
  (bif decide ((↑ai.length:Int) > 0)then (Option.bind (idx ai (0:Int)) λ v3=>(bif decide (v3.2.1<=ba)then (bif decide ((0:Int)<=1) && decide ((1:Int)<=(↑ai.length:Int))then (some (Sum.inr (List.drop (Int.toNat (1:Int)) ai)))else none)else (Option.map Sum.inl (yAD (b9) (ai) (ba) (bi) (aP) (aF) (aG) (ar) (au) (aM) (bN) (bO) (bg) (aN) (aO) (aT) (aU) (be) (bf) (bM) (cC) (cD) (bP)))))else (Option.map Sum.inl (yAD (b9) (ai) (ba) (bi) (aP) (aF) (aG) (ar) (au) (aM) (bN) (bO) (bg) (aN) (aO) (aT) (aU) (be) (bf) (bM) (cC) (cD) (bP))))
theorem yDn(n:Nat)(hn:big<=n)(r0:Q1->List (Q4)->List Nat->Int->Int->Q3->Q1->Q3->Q4->Q1->Q1->Int->Int->Int->Int->Q3->Q1->Q3->Q4->Q1->Q1->Option ((Q4)×Unit))(b9:Q1)(ba:Int)(bi:Nat)(aP:List Nat)(aF:Int)(aG:Int)(ar:Q3)(au:Q1)(aM:Q3)(bN:Q4)(bO:Q1)(bg:Q1)(aN:Int)(aO:Int)(aT:Int)(aU:Int)(be:Q3)(bf:Q1)(bM:Q3)(cC:Q4)(cD:Q1)(bP:Q1)(ai:List (Q4)):LeF (elim some λ (a7:((List (Q4))×Int×Int))=>r0 b9 a7.1 aP aF (IntKind.i64.wrap (aG+1)) ar au aM bN bO bg aN aO a7.2.1 a7.2.2 be bf bM cC cD bP) (y1e (λ a7=>yKA b9 ba bi aP aF aG ar au aM bN bO bg aN aO aT aU be bf bM cC cD bP a7) wMax ai) (y6z n r0 n b9 ai ba bi aP aF aG ar au aM bN bO bg aN aO aT aU be bf bM cC cD bP):=by
  refine y37 (f:=(elim some λ (a7:((List (Q4))×Int×Int))=>r0 b9 a7.1 aP aF (IntKind.i64.wrap (aG+1)) ar au aM bN bO bg aN aO a7.2.1 a7.2.2 be bf bM cC cD bP)) (W:=λ aJ a7=>y6z n r0 aJ b9 a7 ba bi aP aF aG ar au aM bN bO bg aN aO aT aU be bf bM cC cD bP) (body:=(λ a7=>yKA b9 ba bi aP aF aG ar au aM bN bO bg aN aO aT aU be bf bM cC cD bP a7)) (λ aJ a7=>?_) wMax n ai (by unfold big at hn;unfold wMax;omega)
  show LeF _ _ (yGp n r0 (y6z n r0 aJ) b9 a7 ba bi aP aF aG ar au aM bN bO bg aN aO aT aU be bf bM cC cD bP)
  exact (y6 (y8 λ v3=>(y6 (y6 (y7 rfl) yq) (yr (by apply y2A n hn)))) (yr (by apply y2A n hn)))
def yGf(aA:Q1)(aj:List Nat)(aw:Q3)(ax:Q1)(aV:Q3)(bZ:Q4)(ca:Q1)(bm:Q1)(aa:Int)(a8:Int)(bl:Q3)(aQ:Q1)(bY:Q3)(cL:Q4)(cM:Q1)(cb:Q1)(aD:Int)(v1:Nat)(ay:List (Q4))(aZ:Int)(b6:Int):Option (((Q4)×Unit)⊕((List (Q4))×Int×Int)) :=
  (y1e (λ a7=>yKA (aA) (aD) (v1) (aj) ((↑aj.length:Int)) (aD) (aw) (ax) (aV) (bZ) (ca) (bm) (aa) (a8) (aZ) (b6) (bl) (aQ) (bY) (cL) (cM) (cb) a7) wMax (ay))
def yKL(aA:Q1)(aj:List Nat)(aw:Q3)(ax:Q1)(aV:Q3)(bZ:Q4)(ca:Q1)(bm:Q1)(aa:Int)(a8:Int)(bl:Q3)(aQ:Q1)(bY:Q3)(cL:Q4)(cM:Q1)(cb:Q1)(ay:List (Q4))(aZ:Int)(b6:Int):Option ((Q4)×Unit) :=
  (some (((aZ,b6,()),())))
theorem yDo(n:Nat)(hn:big<=n)(aA:Q1)(aj:List Nat)(aw:Q3)(ax:Q1)(aV:Q3)(bZ:Q4)(ca:Q1)(bm:Q1)(aa:Int)(a8:Int)(bl:Q3)(aQ:Q1)(bY:Q3)(cL:Q4)(cM:Q1)(cb:Q1)(ay:List (Q4))(aZ:Int)(b6:Int)(hx:List.length (aj) < lenMax):LeF some (yM (λ af aC a7=>yGf aA aj aw ax aV bZ ca bm aa a8 bl aQ bY cL cM cb af aC a7.1 a7.2.1 a7.2.2) (λ a7=>yKL aA aj aw ax aV bZ ca bm aa a8 bl aQ bY cL cM cb a7.1 a7.2.1 a7.2.2) 0 (aj) (ay,aZ,b6)) (y7K n n aA ay aj (List.length (aj):Int) 0 aw ax aV bZ ca bm aa a8 aZ b6 bl aQ bY cL cM cb):=by
  refine yQ (f:=some) (W:=λ aJ af a7=>y7K n aJ aA a7.1 aj (List.length (aj):Int) af aw ax aV bZ ca bm aa a8 a7.2.1 a7.2.2 bl aQ bY cL cM cb) (body:=(λ af aC a7=>yGf aA aj aw ax aV bZ ca bm aa a8 bl aQ bY cL cM cb af aC a7.1 a7.2.1 a7.2.2)) (fin:=(λ a7=>yKL aA aj aw ax aV bZ ca bm aa a8 bl aQ bY cL cM cb a7.1 a7.2.1 a7.2.2)) (λ aJ af a7=>?_) hx (ay,aZ,b6) n (by unfold big at hn;unfold lenMax at hx;omega)
  show LeF _ _ (yFX n (y7K n aJ) aA a7.1 aj (List.length (aj):Int) af aw ax aV bZ ca bm aa a8 a7.2.1 a7.2.2 bl aQ bY cL cM cb)
  exact y6 (y8 λ v1=>(by apply yDn n hn)) (yr (y7 rfl))
def yBU(c:Q3)(p1:Q1):Option ((Q4)×Unit) :=
  (bif decide (List.length (p1.2.2.1) < lenMax)then yM (λ af aC a7=>yGf (p1) (p1.2.2.1) (c) (p1) (c) (((0:Int),(0:Int),())) (p1) (p1) ((0:Int)) ((0:Int)) (c) (p1) (c) (((0:Int),(0:Int),())) (p1) (p1) af aC a7.1 a7.2.1 a7.2.2) (λ a7=>yKL (p1) (p1.2.2.1) (c) (p1) (c) (((0:Int),(0:Int),())) (p1) (p1) ((0:Int)) ((0:Int)) (c) (p1) (c) (((0:Int),(0:Int),())) (p1) (p1) a7.1 a7.2.1 a7.2.2) 0 (p1.2.2.1) ((p1.2.2.2.1),((0:Int)),((0:Int)))else none)
theorem ySY(c:Q3)(p1:Q1)(y:(Q4)×Unit)(h:yBU c p1=some y):∃ n,yN0 n c p1=some y :=
  ⟨big,LeF.top (show LeF some (yBU c p1) (yN0 big c p1)from (λ (n:Nat) (hn:big<=n)=>show LeF some (yBU c p1) (yN0 n c p1)from (yN λ hx=>by apply yDo n hn;exact hx)) big (Nat.le_refl _)) h⟩
def z0V_e:Entry:={ f:=188,args:=ySA,ress:=ybi,m:=λ x=>yBU x.1 x.2.1 }
theorem yZf:FnOK Tryz.prog z0V_e:=yJ (g:=yaB) (fn:=Tryz.f188) yC yI (yA yRP (yA yJL (yA yIy (yA yGq eNil)))) (by kernel_rfl) (by kernel_rfl) (by kernel_rfl) (λ x y h=>let ⟨n,hn⟩:=ySY x.1 x.2.1 y h;⟨yQD n,(y5G y5F (y5G y5D iNil)),(yaZ n x).trans hn⟩)
abbrev zT_a:Ty:=.pair t183 (.pair t3 (.pair t3 .unit))
abbrev zT_r:Ty:=.pair t57 .unit
class tide_matrix_expand_Rec where
  f:zT_a.den->Option zT_r.den
section
variable [tide_matrix_expand_Rec]
def y40:Entry:={ f:=194,args:=zT_a,ress:=zT_r,m:=λ x=>tide_matrix_expand_Rec.f x }
def zT_g:G:={ T:=T,E:=[y40,z1F_e,z0o_e,z1M_e],muts:=[],fz:=[] }
def zT_k:List (List Nat):=[[0,1,2,6,7,8,18,19]]
def yWx(n:Nat):Ann:={ keep:=zT_k,fuel:=n,inl:=[],deep:=0 }
def yKd(n:Nat)(r0:List (List (Q4))->Int->Int->Int->Int->Int->Int->Int->Int->Int->Option ((Q4)×Unit))(aB:List (List (Q4)))(bD:Int)(bh:Int)(bt:Int)(cg:Int)(cl:Int)(al:Int)(am:Int)(aa:Int)(a8:Int):Option ((Q4)×Unit) :=
  (bif decide (cl < cg)then (bif decide (cl < 0)then none else (bif y1r IntKind.i64 Go.BinOp.and (bh.fdiv ((2:Int) ^ Min.min cl.toNat IntKind.i64.bits)) (1:Int)==1 then r0 aB bD bh bt cg (IntKind.i64.wrap (cl+1)) al am aa a8 else (Option.bind (idx aB bD) λ v1=>(Option.bind (idx v1 cl) λ v2=>(bif decide (cl < 0)then none else (Option.bind (tide_matrix_expand_Rec.f (aB,IntKind.i64.wrap (bD+1),y1r IntKind.i64 Go.BinOp.or bh (IntKind.i64.wrap ((1:Int) * 2 ^ Min.min cl.toNat IntKind.i64.bits)),())) λ v3=>r0 aB bD bh (IntKind.i64.wrap ((0:Int) - bt)) cg (IntKind.i64.wrap (cl+1)) al am (z1M (aa,a8,()) (z0o (z1F v2 v3.1).1 bt).1).1.1 (z1M (aa,a8,()) (z0o (z1F v2 v3.1).1 bt).1).1.2.1))))))else some ((aa,a8,()),()))
def yA7(n:Nat)(k:Nat)(aB:List (List (Q4)))(bD:Int)(bh:Int)(bt:Int)(cg:Int)(cl:Int)(al:Int)(am:Int)(aa:Int)(a8:Int):Option ((Q4)×Unit) :=
  iter (λ r y=>yKd n (λ aB bD bh bt cg cl al am aa a8=>r ((aB,(bD,(bh,(bt,(cg,(cl,())))))),(((al,(am,())),((aa,(a8,())),())),()))) y.1.1 y.1.2.1 y.1.2.2.1 y.1.2.2.2.1 y.1.2.2.2.2.1 y.1.2.2.2.2.2.1 y.2.1.1.1 y.2.1.1.2.1 y.2.1.2.1.1 y.2.1.2.1.2.1) k ((aB,(bD,(bh,(bt,(cg,(cl,())))))),(((al,(am,())),((aa,(a8,())),())),()))
def zT_m(n:Nat)(m:List (List (Q4)))(row:Int)(used:Int):Option ((Q4)×Unit) :=
  (bif row==(↑m.length:Int)then some (((1:Int),(0:Int),()),())else (yA7 n n (m) (row) (used) ((1:Int)) ((↑m.length:Int)) ((0:Int)) ((0:Int)) ((0:Int)) ((0:Int)) ((0:Int))))
theorem yfB(n:Nat)(x:zT_a.den):runF zT_g (yWx n) Tryz.f194 zT_a zT_r x=zT_m n x.1 x.2.1 x.2.2.1:=by kernel_rfl
def yBs(aB:List (List (Q4)))(bD:Int)(bh:Int)(cg:Int)(al:Int)(am:Int)(cl:Int)(bt:Int)(aa:Int)(a8:Int):Option (((Q4)×Unit)⊕(Int×Int×Int)) :=
  (bif decide (cl < 0)then none else (bif y1r IntKind.i64 Go.BinOp.and (bh.fdiv ((2:Int) ^ Min.min cl.toNat IntKind.i64.bits)) (1:Int)==1 then (some (Sum.inr ((bt),(aa),(a8))))else (Option.bind (idx aB bD) λ v1=>(Option.bind (idx v1 cl) λ v2=>(bif decide (cl < 0)then none else (Option.bind (tide_matrix_expand_Rec.f (aB,IntKind.i64.wrap (bD+1),y1r IntKind.i64 Go.BinOp.or bh (IntKind.i64.wrap ((1:Int) * 2 ^ Min.min cl.toNat IntKind.i64.bits)),())) λ v3=>(some (Sum.inr ((IntKind.i64.wrap ((0:Int) - bt)),((z1M (aa,a8,()) (z0o (z1F v2 v3.1).1 bt).1).1.1),((z1M (aa,a8,()) (z0o (z1F v2 v3.1).1 bt).1).1.2.1))))))))))
def yNZ(aB:List (List (Q4)))(bD:Int)(bh:Int)(cg:Int)(al:Int)(am:Int)(bt:Int)(aa:Int)(a8:Int):Option ((Q4)×Unit) :=
  (some (((aa,a8,()),())))
theorem yHe(n:Nat)(hn:big<=n)(aB:List (List (Q4)))(bD:Int)(bh:Int)(cg:Int)(al:Int)(am:Int)(bt:Int)(aa:Int)(a8:Int)(hx:(cg)<=9223372036854775807):LeF some (y0I (λ af a7=>yBs aB bD bh cg al am af a7.1 a7.2.1 a7.2.2) (λ a7=>yNZ aB bD bh cg al am a7.1 a7.2.1 a7.2.2) ((cg) - 0).toNat 0 (bt,aa,a8)) (yA7 n n aB bD bh bt cg 0 al am aa a8):=by
  refine y0c (f:=some) (W:=λ aJ af a7=>yA7 n aJ aB bD bh a7.1 cg af al am a7.2.1 a7.2.2) (body:=(λ af a7=>yBs aB bD bh cg al am af a7.1 a7.2.1 a7.2.2)) (fin:=(λ a7=>yNZ aB bD bh cg al am a7.1 a7.2.1 a7.2.2)) (λ aJ af a7=>?_) hx (bt,aa,a8) n 0 (by decide) (by unfold big at hn;omega)
  show LeF _ _ (yKd n (yA7 n aJ) aB bD bh a7.1 cg af al am a7.2.1 a7.2.2)
  exact y6 (y6 yq (y6 (y7 rfl) (y8 λ v1=>(y8 λ v2=>(y6 yq (y8 λ v3=>(y7 rfl))))))) (yr (y7 rfl))
def zT_M(m:List (List (Q4)))(row:Int)(used:Int):Option ((Q4)×Unit) :=
  (bif row==(↑m.length:Int)then (some ((((1:Int),(0:Int),()),())))else (bif decide (((↑m.length:Int))<=9223372036854775807)then y0I (λ af a7=>yBs (m) (row) (used) ((↑m.length:Int)) ((0:Int)) ((0:Int)) af a7.1 a7.2.1 a7.2.2) (λ a7=>yNZ (m) (row) (used) ((↑m.length:Int)) ((0:Int)) ((0:Int)) a7.1 a7.2.1 a7.2.2) (((↑m.length:Int)) - 0).toNat 0 (((1:Int)),((0:Int)),((0:Int)))else none))
theorem yWq(m:List (List (Q4)))(row:Int)(used:Int)(y:(Q4)×Unit)(h:zT_M m row used=some y):∃ n,zT_m n m row used=some y :=
  ⟨big,LeF.top (show LeF some (zT_M m row used) (zT_m big m row used)from (λ (n:Nat) (hn:big<=n)=>show LeF some (zT_M m row used) (zT_m n m row used)from (y6 (y7 rfl) (yN λ hx=>by apply yHe n hn;exact hx))) big (Nat.le_refl _)) h⟩
end
def yP(d:Nat):zT_a.den->Option zT_r.den:=Nat.rec (motive:=λ _=>zT_a.den->Option zT_r.den) (λ _=>none) (λ _ ih x=>@zT_M ⟨ih⟩ x.1 x.2.1 x.2.2.1) d
def y0k(d:Nat):Entry:={ f:=194,args:=zT_a,ress:=zT_r,m:=yP d }
theorem y1W:(d:Nat)->FnOK Tryz.prog (y0k d)
  | 0=>FnOK.none (fn:=Tryz.f194) (by kernel_rfl) (by kernel_rfl) (by kernel_rfl)
  | d+1=>yJ (g:=@zT_g ⟨yP d⟩) (fn:=Tryz.f194) (e:=y0k (d+1)) yC yI (yA (y1W d) (yA yGG (yA yIy (yA yGq eNil)))) (by kernel_rfl) (by kernel_rfl) (by kernel_rfl) (λ x y h=>let ⟨n,hn⟩:=@yWq ⟨yP d⟩ x.1 x.2.1 x.2.2.1 y h;⟨yWx n,iNil,(@yfB ⟨yP d⟩ n x).trans hn⟩)
def zT_e:Entry:=y0k 8
theorem yfb:FnOK Tryz.prog zT_e:=y1W 8
abbrev za_a:Ty:=.pair t61 .unit
abbrev za_r:Ty:=.pair t28 .unit
def za_g:G:={ T:=T,E:=[zc_e,z0r_e],muts:=[],fz:=[] }
def za_k:List (List Nat):=[]
def yW4(n:Nat):Ann:={ keep:=za_k,fuel:=n,inl:=[],deep:=0 }
def za_m(n:Nat)(x1:Nat):Option (Int×Unit) :=
  (bif yw Go.BinOp.neq Go.FloatKind.f32 (y0A Go.BinOp.sub Go.FloatKind.f32 x1 x1) (nat_lit 0)then some ((1:Int),())else (bif yw Go.BinOp.lss Go.FloatKind.f32 x1 (nat_lit 3263168512)then some ((3:Int),())else (bif yw Go.BinOp.gtr Go.FloatKind.f32 x1 (nat_lit 1115684864)then some ((3:Int),())else (Option.bind (zc_M x1) λ v2=>some ((z0r (yw Go.BinOp.neq Go.FloatKind.f32 (y15 Go.FloatKind.f32 v2.1) (y0A Go.BinOp.mul Go.FloatKind.f32 x1 (nat_lit 1098907648))) (3:Int)).1,())))))
theorem yeM(n:Nat)(x:za_a.den):runF za_g (yW4 n) Tryz.f197 za_a za_r x=za_m n x.1:=by kernel_rfl
def za_M(x1:Nat):Option (Int×Unit):=za_m 0 x1
theorem yc6(x1:Nat)(y:Int×Unit)(h:za_M x1=some y):∃ n,za_m n x1=some y:=⟨0,h⟩
def za_e:Entry:={ f:=197,args:=za_a,ress:=za_r,m:=λ x=>za_M x.1 }
theorem yZE:FnOK Tryz.prog za_e:=yJ (g:=za_g) (fn:=Tryz.f197) yC yI (yA ydN (yA yBr eNil)) (by kernel_rfl) (by kernel_rfl) (by kernel_rfl) (λ x y h=>let ⟨n,hn⟩:=yc6 x.1 y h;⟨yW4 n,iNil,(yeM n x).trans hn⟩)
abbrev yRA:Ty:=.pair t3 (.pair t3 (.pair t3 .unit))
abbrev yZ9:Ty:=.pair t28 .unit
def yaA:G:={ T:=T,E:=[z0r_e],muts:=[],fz:=[] }
def yeu:List (List Nat):=[]
def yPF(n:Nat):Ann:={ keep:=yeu,fuel:=n,inl:=[],deep:=0 }
def yMb(n:Nat)(n1:Int)(least:Int)(most:Int):Option (Int×Unit) :=
  (bif decide (n1 < least)then some ((z0r Bool.true (3:Int)).1,())else some ((z0r (decide (n1 > most)) (3:Int)).1,()))
theorem yYy(n:Nat)(x:yRA.den):runF yaA (yPF n) Tryz.f201 yRA yZ9 x=yMb n x.1 x.2.1 x.2.2.1:=by kernel_rfl
def z0G(n1:Int)(least:Int)(most:Int):(Int×Unit) :=
  (bif decide (n1 < least)then ((z0r Bool.true (3:Int)).1,())else ((z0r (decide (n1 > most)) (3:Int)).1,()))
abbrev ycV (n1:Int) (least:Int) (most:Int):Option (Int×Unit):=some (z0G n1 least most)
theorem yTl(n1:Int)(least:Int)(most:Int)(y:Int×Unit)(h:ycV n1 least most=some y):∃ n,yMb n n1 least most=some y :=
  ⟨0,by rw[<- h];show yMb 0 n1 least most=some (z0G n1 least most);unfold yMb z0G;first|rfl|(simp only[yG];done)|(simp only[yG];rfl)⟩
def z0G_e:Entry:={ f:=201,args:=yRA,ress:=yZ9,m:=λ x=>ycV x.1 x.2.1 x.2.2.1 }
theorem ybH:FnOK Tryz.prog z0G_e:=yJ (g:=yaA) (fn:=Tryz.f201) yC yI (yA yBr eNil) (by kernel_rfl) (by kernel_rfl) (by kernel_rfl) (λ x y h=>let ⟨n,hn⟩:=yTl x.1 x.2.1 x.2.2.1 y h;⟨yPF n,iNil,(yYy n x).trans hn⟩)
abbrev zB_a:Ty:=.pair t58 (.pair t263 .unit)
abbrev zB_r:Ty:=.pair t4 .unit
def zB_g:G:={ T:=T,E:=[zD_e],muts:=[],fz:=[] }
def zB_k:List (List Nat):=[]
def yXN(n:Nat):Ann:={ keep:=zB_k,fuel:=n,inl:=[],deep:=0 }
def zB_m(n:Nat)(s:List (Q4))(f:(Q4)×Unit->Option (Bool×Unit)):Option (Bool×Unit) :=
  (Option.bind (zD_M s f) λ v0=>some (decide (v0.1 >= 0),()))
theorem yeH(n:Nat)(x:zB_a.den):runF zB_g (yXN n) Tryz.f204 zB_a zB_r x=zB_m n x.1 x.2.1:=by kernel_rfl
def zB_M(s:List (Q4))(f:(Q4)×Unit->Option (Bool×Unit)):Option (Bool×Unit):=zB_m 0 s f
theorem yZa(s:List (Q4))(f:(Q4)×Unit->Option (Bool×Unit))(y:Bool×Unit)(h:zB_M s f=some y):∃ n,zB_m n s f=some y:=⟨0,h⟩
def zB_e:Entry:={ f:=204,args:=zB_a,ress:=zB_r,m:=λ x=>zB_M x.1 x.2.1 }
theorem yfm:FnOK Tryz.prog zB_e:=yJ (g:=zB_g) (fn:=Tryz.f204) yC yI (yA yda eNil) (by kernel_rfl) (by kernel_rfl) (by kernel_rfl) (λ x y h=>let ⟨n,hn⟩:=yZa x.1 x.2.1 y h;⟨yXN n,iNil,(yeH n x).trans hn⟩)
abbrev zC_a:Ty:=.pair t35 (.pair t265 .unit)
abbrev zC_r:Ty:=.pair t4 .unit
def zC_g:G:={ T:=T,E:=[zE_e],muts:=[],fz:=[] }
def zC_k:List (List Nat):=[]
def ybt(n:Nat):Ann:={ keep:=zC_k,fuel:=n,inl:=[],deep:=0 }
def zC_m(n:Nat)(s:List Nat)(f:Nat×Unit->Option (Bool×Unit)):Option (Bool×Unit) :=
  (Option.bind (zE_M s f) λ v0=>some (decide (v0.1 >= 0),()))
theorem yef(n:Nat)(x:zC_a.den):runF zC_g (ybt n) Tryz.f207 zC_a zC_r x=zC_m n x.1 x.2.1:=by kernel_rfl
def zC_M(s:List Nat)(f:Nat×Unit->Option (Bool×Unit)):Option (Bool×Unit):=zC_m 0 s f
theorem yVd(s:List Nat)(f:Nat×Unit->Option (Bool×Unit))(y:Bool×Unit)(h:zC_M s f=some y):∃ n,zC_m n s f=some y:=⟨0,h⟩
def zC_e:Entry:={ f:=207,args:=zC_a,ress:=zC_r,m:=λ x=>zC_M x.1 x.2.1 }
theorem yeF:FnOK Tryz.prog zC_e:=yJ (g:=zC_g) (fn:=Tryz.f207) yC yI (yA yei eNil) (by kernel_rfl) (by kernel_rfl) (by kernel_rfl) (λ x y h=>let ⟨n,hn⟩:=yVd x.1 x.2.1 y h;⟨ybt n,iNil,(yef n x).trans hn⟩)
abbrev zm_a:Ty:=.pair t63 .unit
abbrev zm_r:Ty:=.pair t28 .unit
def zm_g:G:={ T:=T,E:=[z0r_e],muts:=[],fz:=[] }
def zm_k:List (List Nat):=[]
def yXk(n:Nat):Ann:={ keep:=zm_k,fuel:=n,inl:=[],deep:=0 }
def zm_m(n:Nat)(s:Q4):Option (Int×Unit) :=
  (bif decide (s.1 < 0)then some ((z0r Bool.true (14:Int)).1,())else (bif decide (s.1 >= s.2.1)then some ((z0r Bool.true (14:Int)).1,())else some ((z0r (decide (s.2.1 > 100000)) (14:Int)).1,())))
theorem yek(n:Nat)(x:zm_a.den):runF zm_g (yXk n) Tryz.f225 zm_a zm_r x=zm_m n x.1:=by kernel_rfl
def zm(s:Q4):(Int×Unit) :=
  (bif decide (s.1 < 0)then ((z0r Bool.true (14:Int)).1,())else (bif decide (s.1 >= s.2.1)then ((z0r Bool.true (14:Int)).1,())else ((z0r (decide (s.2.1 > 100000)) (14:Int)).1,())))
abbrev zm_M (s:Q4):Option (Int×Unit):=some (zm s)
theorem yZi(s:Q4)(y:Int×Unit)(h:zm_M s=some y):∃ n,zm_m n s=some y :=
  ⟨0,by rw[<- h];show zm_m 0 s=some (zm s);unfold zm_m zm;first|rfl|(simp only[yG];done)|(simp only[yG];rfl)⟩
def zm_e:Entry:={ f:=225,args:=zm_a,ress:=zm_r,m:=λ x=>zm_M x.1 }
theorem yeZ:FnOK Tryz.prog zm_e:=yJ (g:=zm_g) (fn:=Tryz.f225) yC yI (yA yBr eNil) (by kernel_rfl) (by kernel_rfl) (by kernel_rfl) (λ x y h=>let ⟨n,hn⟩:=yZi x.1 y h;⟨yXk n,iNil,(yek n x).trans hn⟩)
end
end Go.Tw
end
