import Derived.Test.YtpcnkpbpcebokaaGreatDoorBT
import Derived.Test.YtpcnkpbpcebokaaGreatDoorB0
import Derived.Test.YtpcnkpbpcebokaaGreatDoorBS
import Derived.Test.YtpcnkpbpcebokaaGreatDoorLQ
set_option linter.all false
section
set_option maxRecDepth 1000000
namespace Go.Tw
open Go.Vx Go.Vx.B Go.Proofs
noncomputable section
abbrev yNj:Ty:=.pair t41 .unit
abbrev yRe:Ty:=.pair t3 .unit
def yVp:G:={ T:=T,E:=[],muts:=[],fz:=[] }
def yaY:List (List Nat):=[[0,3]]
def yLr(n:Nat):Ann:={ keep:=yaY,fuel:=n,inl:=[],deep:=0 }
def yEZ(n:Nat)(r0:List Int→Int→Option (Int×Unit))(ax:List Int)(bf:Int):Option (Int×Unit) :=
  (bif decide (bf < (↑ax.length:Int))then (Option.bind (idx ax bf) fun v1=>(bif v1 != 0 then (Option.bind (idx ax bf) fun v2=>some (v2,()))else r0 ax (IntKind.i64.wrap (bf+1))))else some ((0:Int),()))
def y6e(n:Nat)(k:Nat)(ax:List Int)(bf:Int):Option (Int×Unit) :=
  iter (fun r y=>yEZ n (fun ax bf=>r ((ax,(bf,())),((),()))) y.1.1 y.1.2.1) k ((ax,(bf,())),((),()))
def yL2(n:Nat)(l:List Int):Option (Int×Unit) :=
  (y6e n n (l) ((0:Int)))
theorem yXG(n:Nat)(x:yNj.den):runF yVp (yLr n) Tryz.f24 yNj yRe x=yL2 n x.1:=by kernel_rfl
def yBB(ax:List Int)(bf:Int)(v1:Int):Option ((Int×Unit)⊕Unit) :=
  (bif v1 != 0 then (Option.bind (idx ax bf) fun v2=>(some (Sum.inl ((v2,())))))else (some (Sum.inr ())))
def yCG(ax:List Int):Option (Int×Unit) :=
  (some (((0:Int),())))
theorem yD3(n:Nat)(hn:big≤n)(ax:List Int)(hx:List.length (ax) < lenMax):LeF some (yQ (fun aj aE aa=>yBB ax aj aE) (fun aa=>yCG ax) 0 (ax) ()) (y6e n n ax 0):=by
  refine yd (f:=some) (W:=fun aG aj aa=>y6e n aG ax aj) (body:=(fun aj aE aa=>yBB ax aj aE)) (fin:=(fun aa=>yCG ax)) (fun aG aj aa=>?_) hx () n (by unfold big at hn;unfold lenMax at hx;omega)
  show LeF _ _ (yEZ n (y6e n aG) ax aj)
  exact y8 (yE fun v1=>(y8 (yE fun v2=>(yB rfl)) (yB rfl))) (y0c (yB rfl))
def y9o(l:List Int):Option (Int×Unit) :=
  (bif decide (List.length (l) < lenMax)then yQ (fun aj aE aa=>yBB (l) aj aE) (fun aa=>yCG (l)) 0 (l) ()else none)
theorem yPb(l:List Int)(y:Int×Unit)(h:y9o l=some y):∃ n,yL2 n l=some y :=
  ⟨big,LeF.top (show LeF some (y9o l) (yL2 big l)from (fun (n:Nat) (hn:big≤n)=>show LeF some (y9o l) (yL2 n l)from (yg fun hx=>by apply yD3 n hn;exact hx)) big (Nat.le_refl _)) h⟩
def z0Q_e:Entry:={ f:=24,args:=yNj,ress:=yRe,m:=fun x=>y9o x.1 }
theorem yGr:FnOK Tryz.prog z0Q_e:=yJ (g:=yVp) (fn:=Tryz.f24) yA yI eNil (by kernel_rfl) (by kernel_rfl) (by kernel_rfl) (fun x y h=>let ⟨n,hn⟩:=yPb x.1 y h;⟨yLr n,iNil,(yXG n x).trans hn⟩)
abbrev zV_a:Ty:=.pair t23 (.pair t23 .unit)
abbrev zV_r:Ty:=.pair t4 .unit
def zV_g:G:={ T:=T,E:=[],muts:=[],fz:=[] }
def zV_k:List (List Nat):=[[0,1,5]]
def yTd(n:Nat):Ann:={ keep:=zV_k,fuel:=n,inl:=[],deep:=0 }
def yIO(n:Nat)(r0:List (Q4)→List (Q4)→Int→Option (Bool×Unit))(am:List (Q4))(ar:List (Q4))(aw:Int):Option (Bool×Unit) :=
  (bif decide (aw < (↑am.length:Int))then (Option.bind (idx am aw) fun v1=>(Option.bind (idx ar aw) fun v2=>(bif !eqV ((Ty.int IntKind.i64).pair ((Ty.int IntKind.i64).pair Ty.unit)) v1 v2 then some (Bool.false,())else r0 am ar (IntKind.i64.wrap (aw+1)))))else some (Bool.true,()))
def y9u(n:Nat)(k:Nat)(am:List (Q4))(ar:List (Q4))(aw:Int):Option (Bool×Unit) :=
  iter (fun r y=>yIO n (fun am ar aw=>r ((am,(ar,(aw,()))),((),()))) y.1.1 y.1.2.1 y.1.2.2.1) k ((am,(ar,(aw,()))),((),()))
def zV_m(n:Nat)(a:List (Q4))(b:List (Q4)):Option (Bool×Unit) :=
  (bif (↑a.length:Int) != (↑b.length:Int)then some (Bool.false,())else (y9u n n (a) (b) ((0:Int))))
theorem yZO(n:Nat)(x:zV_a.den):runF zV_g (yTd n) Tryz.f29 zV_a zV_r x=zV_m n x.1 x.2.1:=by kernel_rfl
def yIz(am:List (Q4))(ar:List (Q4))(aw:Int)(v1:Q4):Option ((Bool×Unit)⊕Unit) :=
  (Option.bind (idx ar aw) fun v2=>(bif !eqV ((Ty.int IntKind.i64).pair ((Ty.int IntKind.i64).pair Ty.unit)) v1 v2 then (some (Sum.inl ((Bool.false,()))))else (some (Sum.inr ()))))
def yRW(am:List (Q4))(ar:List (Q4)):Option (Bool×Unit) :=
  (some ((Bool.true,())))
theorem yFK(n:Nat)(hn:big≤n)(am:List (Q4))(ar:List (Q4))(hx:List.length (am) < lenMax):LeF some (yQ (fun aj aE aa=>yIz am ar aj aE) (fun aa=>yRW am ar) 0 (am) ()) (y9u n n am ar 0):=by
  refine yd (f:=some) (W:=fun aG aj aa=>y9u n aG am ar aj) (body:=(fun aj aE aa=>yIz am ar aj aE)) (fin:=(fun aa=>yRW am ar)) (fun aG aj aa=>?_) hx () n (by unfold big at hn;unfold lenMax at hx;omega)
  show LeF _ _ (yIO n (y9u n aG) am ar aj)
  exact y8 (yE fun v1=>(yE fun v2=>(y8 (yB rfl) (yB rfl)))) (y0c (yB rfl))
def zV_M(a:List (Q4))(b:List (Q4)):Option (Bool×Unit) :=
  (bif (↑a.length:Int) != (↑b.length:Int)then (some ((Bool.false,())))else (bif decide (List.length (a) < lenMax)then yQ (fun aj aE aa=>yIz (a) (b) aj aE) (fun aa=>yRW (a) (b)) 0 (a) ()else none))
theorem yVL(a:List (Q4))(b:List (Q4))(y:Bool×Unit)(h:zV_M a b=some y):∃ n,zV_m n a b=some y :=
  ⟨big,LeF.top (show LeF some (zV_M a b) (zV_m big a b)from (fun (n:Nat) (hn:big≤n)=>show LeF some (zV_M a b) (zV_m n a b)from (y8 (yB rfl) (yg fun hx=>by apply yFK n hn;exact hx))) big (Nat.le_refl _)) h⟩
def zV_e:Entry:={ f:=29,args:=zV_a,ress:=zV_r,m:=fun x=>zV_M x.1 x.2.1 }
theorem yOF:FnOK Tryz.prog zV_e:=yJ (g:=zV_g) (fn:=Tryz.f29) yA yI eNil (by kernel_rfl) (by kernel_rfl) (by kernel_rfl) (fun x y h=>let ⟨n,hn⟩:=yVL x.1 x.2.1 y h;⟨yTd n,iNil,(yZO n x).trans hn⟩)
abbrev za_a:Ty:=.pair t35 (.pair t35 .unit)
abbrev za_r:Ty:=.pair t4 .unit
def za_g:G:={ T:=T,E:=[],muts:=[],fz:=[] }
def za_k:List (List Nat):=[[0,1,5]]
def yRr(n:Nat):Ann:={ keep:=za_k,fuel:=n,inl:=[],deep:=0 }
def yR6(n:Nat)(r0:List Nat→List Nat→Int→Option (Bool×Unit))(am:List Nat)(ar:List Nat)(aw:Int):Option (Bool×Unit) :=
  (bif decide (aw < (↑am.length:Int))then (Option.bind (idx am aw) fun v1=>(Option.bind (idx ar aw) fun v2=>(bif y0p Go.BinOp.neq Go.FloatKind.f32 v1 v2 then some (Bool.false,())else r0 am ar (IntKind.i64.wrap (aw+1)))))else some (Bool.true,()))
def yQD(n:Nat)(k:Nat)(am:List Nat)(ar:List Nat)(aw:Int):Option (Bool×Unit) :=
  iter (fun r y=>yR6 n (fun am ar aw=>r ((am,(ar,(aw,()))),((),()))) y.1.1 y.1.2.1 y.1.2.2.1) k ((am,(ar,(aw,()))),((),()))
def za_m(n:Nat)(a:List Nat)(b:List Nat):Option (Bool×Unit) :=
  (bif (↑a.length:Int) != (↑b.length:Int)then some (Bool.false,())else (yQD n n (a) (b) ((0:Int))))
theorem yag(n:Nat)(x:za_a.den):runF za_g (yRr n) Tryz.f30 za_a za_r x=za_m n x.1 x.2.1:=by kernel_rfl
def za_M(a:List Nat)(b:List Nat):Option (Bool×Unit):=za_m 1000 a b
theorem yT6(a:List Nat)(b:List Nat)(y:Bool×Unit)(h:za_M a b=some y):∃ n,za_m n a b=some y:=⟨1000,h⟩
def za_e:Entry:={ f:=30,args:=za_a,ress:=za_r,m:=fun x=>za_M x.1 x.2.1 }
theorem yYX:FnOK Tryz.prog za_e:=yJ (g:=za_g) (fn:=Tryz.f30) yA yI eNil (by kernel_rfl) (by kernel_rfl) (by kernel_rfl) (fun x y h=>let ⟨n,hn⟩:=yT6 x.1 x.2.1 y h;⟨yRr n,iNil,(yag n x).trans hn⟩)
abbrev zj_a:Ty:=.pair t22 .unit
abbrev zj_r:Ty:=.pair t4 .unit
def zj_g:G:={ T:=T,E:=[],muts:=[],fz:=[] }
def zj_k:List (List Nat):=[[0,3]]
def ySe(n:Nat):Ann:={ keep:=zj_k,fuel:=n,inl:=[],deep:=0 }
def yGf(n:Nat)(r0:List (Q3)→Int→Option (Bool×Unit))(ax:List (Q3))(bf:Int):Option (Bool×Unit) :=
  (bif decide (bf < (↑ax.length:Int))then (Option.bind (idx ax bf) fun v1=>(bif decide ((↑v1.1.length:Int) > 60)then some (Bool.false,())else r0 ax (IntKind.i64.wrap (bf+1))))else some (decide ((↑ax.length:Int)≤5),()))
def yA3(n:Nat)(k:Nat)(ax:List (Q3))(bf:Int):Option (Bool×Unit) :=
  iter (fun r y=>yGf n (fun ax bf=>r ((ax,(bf,())),((),()))) y.1.1 y.1.2.1) k ((ax,(bf,())),((),()))
def zj_m(n:Nat)(l:List (Q3)):Option (Bool×Unit) :=
  (yA3 n n (l) ((0:Int)))
theorem yaZ(n:Nat)(x:zj_a.den):runF zj_g (ySe n) Tryz.f31 zj_a zj_r x=zj_m n x.1:=by kernel_rfl
def yK2(ax:List (Q3))(bf:Int)(v1:Q3):Option ((Bool×Unit)⊕Unit) :=
  (bif decide ((↑v1.1.length:Int) > 60)then (some (Sum.inl ((Bool.false,()))))else (some (Sum.inr ())))
def yHz(ax:List (Q3)):Option (Bool×Unit) :=
  (some ((decide ((↑ax.length:Int)≤5),())))
theorem yG5(n:Nat)(hn:big≤n)(ax:List (Q3))(hx:List.length (ax) < lenMax):LeF some (yQ (fun aj aE aa=>yK2 ax aj aE) (fun aa=>yHz ax) 0 (ax) ()) (yA3 n n ax 0):=by
  refine yd (f:=some) (W:=fun aG aj aa=>yA3 n aG ax aj) (body:=(fun aj aE aa=>yK2 ax aj aE)) (fin:=(fun aa=>yHz ax)) (fun aG aj aa=>?_) hx () n (by unfold big at hn;unfold lenMax at hx;omega)
  show LeF _ _ (yGf n (yA3 n aG) ax aj)
  exact y8 (yE fun v1=>(y8 (yB rfl) (yB rfl))) (y0c (yB rfl))
def zj_M(l:List (Q3)):Option (Bool×Unit) :=
  (bif decide (List.length (l) < lenMax)then yQ (fun aj aE aa=>yK2 (l) aj aE) (fun aa=>yHz (l)) 0 (l) ()else none)
theorem yUm(l:List (Q3))(y:Bool×Unit)(h:zj_M l=some y):∃ n,zj_m n l=some y :=
  ⟨big,LeF.top (show LeF some (zj_M l) (zj_m big l)from (fun (n:Nat) (hn:big≤n)=>show LeF some (zj_M l) (zj_m n l)from (yg fun hx=>by apply yG5 n hn;exact hx)) big (Nat.le_refl _)) h⟩
def zj_e:Entry:={ f:=31,args:=zj_a,ress:=zj_r,m:=fun x=>zj_M x.1 }
theorem yYs:FnOK Tryz.prog zj_e:=yJ (g:=zj_g) (fn:=Tryz.f31) yA yI eNil (by kernel_rfl) (by kernel_rfl) (by kernel_rfl) (fun x y h=>let ⟨n,hn⟩:=yUm x.1 y h;⟨ySe n,iNil,(yaZ n x).trans hn⟩)
abbrev yOR:Ty:=.pair t22 .unit
abbrev yXP:Ty:=.pair t31 .unit
def yUZ:G:={ T:=T,E:=[],muts:=[3],fz:=[] }
def yZe:List (List Nat):=[[3,6,7,8]]
def yND(n:Nat):Ann:={ keep:=yZe,fuel:=n,inl:=[],deep:=0 }
def yEX(n:Nat)(r0:List (Q3)→Int→Int→List (Q3)→Option (List (Q3)×Unit))(aD:List (Q3))(ay:Int)(ac:Int)(aK:List (Q3)):Option (List (Q3)×Unit) :=
  (bif decide (ac < ay)then (Option.bind (idx aD ac) fun v1=>(bif decide (aK.length+(1:Nat)≤memMax)then r0 aD ay (IntKind.i64.wrap (ac+1)) (aK++[(v1.1,v1.2.1,v1.2.2.1,())])else none))else some (aK,()))
def y6q(n:Nat)(k:Nat)(aD:List (Q3))(ay:Int)(ac:Int)(aK:List (Q3)):Option (List (Q3)×Unit) :=
  iter (fun r y=>yEX n (fun aD ay ac aK=>r ((aD,(ay,(ac,()))),((aK,()),()))) y.1.1 y.1.2.1 y.1.2.2.1 y.2.1.1) k ((aD,(ay,(ac,()))),((aK,()),()))
def yIx(n:Nat)(l:List (Q3)):Option (List (Q3)×Unit) :=
  (y6q n n (l) ((↑l.length:Int)) ((0:Int)) ([]))
theorem yYM(n:Nat)(x:yOR.den):runF yUZ (yND n) Tryz.f33 yOR yXP x=yIx n x.1:=by kernel_rfl
def yEF(aD:List (Q3))(ac:Int)(v1:Q3)(aK:List (Q3)):Option ((List (Q3)×Unit)⊕(List (Q3))) :=
  (bif decide (aK.length+(1:Nat)≤memMax)then (some (Sum.inr (aK++[(v1.1,v1.2.1,v1.2.2.1,())])))else none)
def yIS(aD:List (Q3))(aK:List (Q3)):Option (List (Q3)×Unit) :=
  (some ((aK,())))
theorem yD7(n:Nat)(hn:big≤n)(aD:List (Q3))(aK:List (Q3))(hx:List.length (aD) < lenMax):LeF some (yQ (fun aj aE aa=>yEF aD aj aE aa) (fun aa=>yIS aD aa) 0 (aD) aK) (y6q n n aD (List.length (aD):Int) 0 aK):=by
  refine yd (f:=some) (W:=fun aG aj aa=>y6q n aG aD (List.length (aD):Int) aj aa) (body:=(fun aj aE aa=>yEF aD aj aE aa)) (fin:=(fun aa=>yIS aD aa)) (fun aG aj aa=>?_) hx aK n (by unfold big at hn;unfold lenMax at hx;omega)
  show LeF _ _ (yEX n (y6q n aG) aD (List.length (aD):Int) aj aa)
  exact y8 (yE fun v1=>(y8 (yB rfl) y0C)) (y0c (yB rfl))
def yDJ(l:List (Q3)):Option (List (Q3)×Unit) :=
  (bif decide (List.length (l) < lenMax)then yQ (fun aj aE aa=>yEF (l) aj aE aa) (fun aa=>yIS (l) aa) 0 (l) ([])else none)
theorem yQG(l:List (Q3))(y:List (Q3)×Unit)(h:yDJ l=some y):∃ n,yIx n l=some y :=
  ⟨big,LeF.top (show LeF some (yDJ l) (yIx big l)from (fun (n:Nat) (hn:big≤n)=>show LeF some (yDJ l) (yIx n l)from (yg fun hx=>by apply yD7 n hn;exact hx)) big (Nat.le_refl _)) h⟩
def z0h_e:Entry:={ f:=33,args:=yOR,ress:=yXP,m:=fun x=>yDJ x.1 }
theorem yRs:FnOK Tryz.prog z0h_e:=yJ (g:=yUZ) (fn:=Tryz.f33) yA yI eNil (by kernel_rfl) (by kernel_rfl) (by kernel_rfl) (fun x y h=>let ⟨n,hn⟩:=yQG x.1 y h;⟨yND n,iNil,(yYM n x).trans hn⟩)
abbrev yNr:Ty:=.pair t33 .unit
abbrev ySk:Ty:=.pair t25 .unit
def yXF:G:={ T:=T,E:=[],muts:=[3,10],fz:=[] }
def yYj:List (List Nat):=[[2,3,12,13,14]]
def yMa(n:Nat):Ann:={ keep:=yYj,fuel:=n,inl:=[],deep:=0 }
def yEO(n:Nat)(r0:List (Q3)→Int→Int→Int→List (Q4)→Int→List (Q3)→Option ((Q2)×Unit))(aN:List (Q3))(aR:Int)(aB:Int)(aX:Int)(ah:List (Q4))(aS:Int)(bu:List (Q3)):Option ((Q2)×Unit) :=
  (bif decide (aB < aR)then (Option.bind (idx aN aB) fun v1=>(bif decide (bu.length+(1:Nat)≤memMax)then r0 aN aR (IntKind.i64.wrap (aB+1)) aX ah aS (bu++[(v1.1,v1.2.1,v1.2.2.1,())])else none))else some ((bu,ah,aS,()),()))
def y6x(n:Nat)(k:Nat)(aN:List (Q3))(aR:Int)(aB:Int)(aX:Int)(ah:List (Q4))(aS:Int)(bu:List (Q3)):Option ((Q2)×Unit) :=
  iter (fun r y=>yEO n (fun aN aR aB aX ah aS bu=>r ((aN,(aR,(aB,()))),(((aX,()),((ah,(aS,())),(bu,()))),()))) y.1.1 y.1.2.1 y.1.2.2.1 y.2.1.1.1 y.2.1.2.1.1 y.2.1.2.1.2.1 y.2.1.2.2.1) k ((aN,(aR,(aB,()))),(((aX,()),((ah,(aS,())),(bu,()))),()))
def yJr(n:Nat)(t:Q2):Option ((Q2)×Unit) :=
  (y6x n n (t.1) ((↑t.1.length:Int)) ((0:Int)) ((0:Int)) (t.2.1) (t.2.2.1) ([]))
theorem yUk(n:Nat)(x:yNr.den):runF yXF (yMa n) Tryz.f39 yNr ySk x=yJr n x.1:=by kernel_rfl
def yE5(aN:List (Q3))(aX:Int)(ah:List (Q4))(aS:Int)(aB:Int)(v1:Q3)(bu:List (Q3)):Option (((Q2)×Unit)⊕(List (Q3))) :=
  (bif decide (bu.length+(1:Nat)≤memMax)then (some (Sum.inr (bu++[(v1.1,v1.2.1,v1.2.2.1,())])))else none)
def yHT(aN:List (Q3))(aX:Int)(ah:List (Q4))(aS:Int)(bu:List (Q3)):Option ((Q2)×Unit) :=
  (some (((bu,ah,aS,()),())))
theorem yDN(n:Nat)(hn:big≤n)(aN:List (Q3))(aX:Int)(ah:List (Q4))(aS:Int)(bu:List (Q3))(hx:List.length (aN) < lenMax):LeF some (yQ (fun aj aE aa=>yE5 aN aX ah aS aj aE aa) (fun aa=>yHT aN aX ah aS aa) 0 (aN) bu) (y6x n n aN (List.length (aN):Int) 0 aX ah aS bu):=by
  refine yd (f:=some) (W:=fun aG aj aa=>y6x n aG aN (List.length (aN):Int) aj aX ah aS aa) (body:=(fun aj aE aa=>yE5 aN aX ah aS aj aE aa)) (fin:=(fun aa=>yHT aN aX ah aS aa)) (fun aG aj aa=>?_) hx bu n (by unfold big at hn;unfold lenMax at hx;omega)
  show LeF _ _ (yEO n (y6x n aG) aN (List.length (aN):Int) aj aX ah aS aa)
  exact y8 (yE fun v1=>(y8 (yB rfl) y0C)) (y0c (yB rfl))
def yAt(t:Q2):Option ((Q2)×Unit) :=
  (bif decide (List.length (t.1) < lenMax)then yQ (fun aj aE aa=>yE5 (t.1) ((0:Int)) (t.2.1) (t.2.2.1) aj aE aa) (fun aa=>yHT (t.1) ((0:Int)) (t.2.1) (t.2.2.1) aa) 0 (t.1) ([])else none)
theorem yP1(t:Q2)(y:(Q2)×Unit)(h:yAt t=some y):∃ n,yJr n t=some y :=
  ⟨big,LeF.top (show LeF some (yAt t) (yJr big t)from (fun (n:Nat) (hn:big≤n)=>show LeF some (yAt t) (yJr n t)from (yg fun hx=>by apply yDN n hn;exact hx)) big (Nat.le_refl _)) h⟩
def z0j_e:Entry:={ f:=39,args:=yNr,ress:=ySk,m:=fun x=>yAt x.1 }
theorem yU6:FnOK Tryz.prog z0j_e:=yJ (g:=yXF) (fn:=Tryz.f39) yA yI eNil (by kernel_rfl) (by kernel_rfl) (by kernel_rfl) (fun x y h=>let ⟨n,hn⟩:=yP1 x.1 y h;⟨yMa n,iNil,(yUk n x).trans hn⟩)
abbrev zZ_a:Ty:=.pair t3 (.pair t3 (.pair t3 .unit))
abbrev zZ_r:Ty:=.pair t3 .unit
def zZ_g:G:={ T:=T,E:=[],muts:=[],fz:=[] }
def zZ_k:List (List Nat):=[]
def yTe(n:Nat):Ann:={ keep:=zZ_k,fuel:=n,inl:=[],deep:=0 }
def zZ_m(n:Nat)(n1:Int)(low:Int)(high:Int):Option (Int×Unit) :=
  (bif decide (n1 < low)then some ((3:Int),())else (bif decide (n1 > high)then some ((3:Int),())else some ((0:Int),())))
theorem yau(n:Nat)(x:zZ_a.den):runF zZ_g (yTe n) Tryz.f44 zZ_a zZ_r x=zZ_m n x.1 x.2.1 x.2.2.1:=by kernel_rfl
def zZ(n1:Int)(low:Int)(high:Int):(Int×Unit) :=
  (bif decide (n1 < low)then ((3:Int),())else (bif decide (n1 > high)then ((3:Int),())else ((0:Int),())))
abbrev zZ_M (n1:Int) (low:Int) (high:Int):Option (Int×Unit):=some (zZ n1 low high)
theorem yUR(n1:Int)(low:Int)(high:Int)(y:Int×Unit)(h:zZ_M n1 low high=some y):∃ n,zZ_m n n1 low high=some y :=
  ⟨0,by rw[← h];show zZ_m 0 n1 low high=some (zZ n1 low high);unfold zZ_m zZ;first|rfl|(simp only[yG];done)|(simp only[yG];rfl)⟩
def zZ_e:Entry:={ f:=44,args:=zZ_a,ress:=zZ_r,m:=fun x=>zZ_M x.1 x.2.1 x.2.2.1 }
theorem yKn:FnOK Tryz.prog zZ_e:=yJ (g:=zZ_g) (fn:=Tryz.f44) yA yI eNil (by kernel_rfl) (by kernel_rfl) (by kernel_rfl) (fun x y h=>let ⟨n,hn⟩:=yUR x.1 x.2.1 x.2.2.1 y h;⟨yTe n,iNil,(yau n x).trans hn⟩)
abbrev yNX:Ty:=.pair t4 (.pair t3 .unit)
abbrev yTJ:Ty:=.pair t3 .unit
def ySb:G:={ T:=T,E:=[],muts:=[],fz:=[] }
def yaj:List (List Nat):=[]
def yM3(n:Nat):Ann:={ keep:=yaj,fuel:=n,inl:=[],deep:=0 }
def yJw(n:Nat)(holds:Bool)(e:Int):Option (Int×Unit) :=
  (bif holds then some (e,())else some ((0:Int),()))
theorem yVg(n:Nat)(x:yNX.den):runF ySb (yM3 n) Tryz.f47 yNX yTJ x=yJw n x.1 x.2.1:=by kernel_rfl
def z0l(holds:Bool)(e:Int):(Int×Unit) :=
  (bif holds then (e,())else ((0:Int),()))
abbrev yTH (holds:Bool) (e:Int):Option (Int×Unit):=some (z0l holds e)
theorem yNs(holds:Bool)(e:Int)(y:Int×Unit)(h:yTH holds e=some y):∃ n,yJw n holds e=some y :=
  ⟨0,by rw[← h];show yJw 0 holds e=some (z0l holds e);unfold yJw z0l;first|rfl|(simp only[yG];done)|(simp only[yG];rfl)⟩
def z0l_e:Entry:={ f:=47,args:=yNX,ress:=yTJ,m:=fun x=>yTH x.1 x.2.1 }
theorem yU3:FnOK Tryz.prog z0l_e:=yJ (g:=ySb) (fn:=Tryz.f47) yA yI eNil (by kernel_rfl) (by kernel_rfl) (by kernel_rfl) (fun x y h=>let ⟨n,hn⟩:=yNs x.1 x.2.1 y h;⟨yM3 n,iNil,(yVg n x).trans hn⟩)
abbrev yQe:Ty:=.pair t25 .unit
abbrev yTc:Ty:=.pair t4 .unit
def yYE:G:={ T:=T,E:=[],muts:=[],fz:=[] }
def yYo:List (List Nat):=[[1,3]]
def yM2(n:Nat):Ann:={ keep:=yYo,fuel:=n,inl:=[],deep:=0 }
def yDy(n:Nat)(r0:Q2→Int→Option (Bool×Unit))(au:Q2)(bf:Int):Option (Bool×Unit) :=
  (bif decide (bf < (↑au.2.1.length:Int))then (Option.bind (idx au.2.1 bf) fun v1=>(bif decide ((if Bool.true=Bool.true then imax (imax (imax v1.1 v1.2.1) (IntKind.i64.wrap ((0:Int) - v1.1))) (IntKind.i64.wrap ((0:Int) - v1.2.1))else imin (imin (imin v1.1 v1.2.1) (IntKind.i64.wrap ((0:Int) - v1.1))) (IntKind.i64.wrap ((0:Int) - v1.2.1))) > 4194304)then some (Bool.false,())else r0 au (IntKind.i64.wrap (bf+1))))else some (decide (au.2.2.1≤4096),()))
def y6m(n:Nat)(k:Nat)(au:Q2)(bf:Int):Option (Bool×Unit) :=
  iter (fun r y=>yDy n (fun au bf=>r ((au,(bf,())),((),()))) y.1.1 y.1.2.1) k ((au,(bf,())),((),()))
def yJz(n:Nat)(t:Q2):Option (Bool×Unit) :=
  (y6m n n (t) ((0:Int)))
theorem yXj(n:Nat)(x:yQe.den):runF yYE (yM2 n) Tryz.f48 yQe yTc x=yJz n x.1:=by kernel_rfl
def yDl(au:Q2)(bf:Int)(v1:Q4):Option ((Bool×Unit)⊕Unit) :=
  (bif decide ((if Bool.true=Bool.true then imax (imax (imax v1.1 v1.2.1) (IntKind.i64.wrap ((0:Int) - v1.1))) (IntKind.i64.wrap ((0:Int) - v1.2.1))else imin (imin (imin v1.1 v1.2.1) (IntKind.i64.wrap ((0:Int) - v1.1))) (IntKind.i64.wrap ((0:Int) - v1.2.1))) > 4194304)then (some (Sum.inl ((Bool.false,()))))else (some (Sum.inr ())))
def yHZ(au:Q2):Option (Bool×Unit) :=
  (some ((decide (au.2.2.1≤4096),())))
theorem yDF(n:Nat)(hn:big≤n)(au:Q2)(hx:List.length (au.2.1) < lenMax):LeF some (yQ (fun aj aE aa=>yDl au aj aE) (fun aa=>yHZ au) 0 (au.2.1) ()) (y6m n n au 0):=by
  refine yd (f:=some) (W:=fun aG aj aa=>y6m n aG au aj) (body:=(fun aj aE aa=>yDl au aj aE)) (fin:=(fun aa=>yHZ au)) (fun aG aj aa=>?_) hx () n (by unfold big at hn;unfold lenMax at hx;omega)
  show LeF _ _ (yDy n (y6m n aG) au aj)
  exact y8 (yE fun v1=>(y8 (yB rfl) (yB rfl))) (y0c (yB rfl))
def y7z(t:Q2):Option (Bool×Unit) :=
  (bif decide (List.length (t.2.1) < lenMax)then yQ (fun aj aE aa=>yDl (t) aj aE) (fun aa=>yHZ (t)) 0 (t.2.1) ()else none)
theorem yOd(t:Q2)(y:Bool×Unit)(h:y7z t=some y):∃ n,yJz n t=some y :=
  ⟨big,LeF.top (show LeF some (y7z t) (yJz big t)from (fun (n:Nat) (hn:big≤n)=>show LeF some (y7z t) (yJz n t)from (yg fun hx=>by apply yDF n hn;exact hx)) big (Nat.le_refl _)) h⟩
def z0T_e:Entry:={ f:=48,args:=yQe,ress:=yTc,m:=fun x=>y7z x.1 }
theorem yME:FnOK Tryz.prog z0T_e:=yJ (g:=yYE) (fn:=Tryz.f48) yA yI eNil (by kernel_rfl) (by kernel_rfl) (by kernel_rfl) (fun x y h=>let ⟨n,hn⟩:=yOd x.1 y h;⟨yM2 n,iNil,(yXj n x).trans hn⟩)
abbrev yNf:Ty:=.pair t69 (.pair t28 (.pair t3 (.pair t69 .unit)))
abbrev yUg:Ty:=.pair t4 .unit
def yVX:G:={ T:=T,E:=[],muts:=[],fz:=[] }
def ya1:List (List Nat):=[]
def yMK(n:Nat):Ann:={ keep:=ya1,fuel:=n,inl:=[],deep:=0 }
def yKu(n:Nat)(p0:Q4)(e:Int)(bad:Int)(want:Q4):Option (Bool×Unit) :=
  (bif e==bad then (bif bad != 0 then (bif eqV ((Ty.int IntKind.i64).pair ((Ty.int IntKind.i64).pair Ty.unit)) p0 ((0:Int),(0:Int),())then some (Bool.true,())else (bif bad==0 then some (eqV ((Ty.int IntKind.i64).pair ((Ty.int IntKind.i64).pair Ty.unit)) p0 want,())else some (Bool.false,())))else (bif bad==0 then some (eqV ((Ty.int IntKind.i64).pair ((Ty.int IntKind.i64).pair Ty.unit)) p0 want,())else some (Bool.false,())))else some (Bool.false,()))
theorem yRa(n:Nat)(x:yNf.den):runF yVX (yMK n) Tryz.f52 yNf yUg x=yKu n x.1 x.2.1 x.2.2.1 x.2.2.2.1:=by kernel_rfl
def z0P(p0:Q4)(e:Int)(bad:Int)(want:Q4):(Bool×Unit) :=
  (bif e==bad then (bif bad != 0 then (bif eqV ((Ty.int IntKind.i64).pair ((Ty.int IntKind.i64).pair Ty.unit)) p0 ((0:Int),(0:Int),())then (Bool.true,())else (bif bad==0 then (eqV ((Ty.int IntKind.i64).pair ((Ty.int IntKind.i64).pair Ty.unit)) p0 want,())else (Bool.false,())))else (bif bad==0 then (eqV ((Ty.int IntKind.i64).pair ((Ty.int IntKind.i64).pair Ty.unit)) p0 want,())else (Bool.false,())))else (Bool.false,()))
abbrev yTX (p0:Q4) (e:Int) (bad:Int) (want:Q4):Option (Bool×Unit):=some (z0P p0 e bad want)
theorem yNZ(p0:Q4)(e:Int)(bad:Int)(want:Q4)(y:Bool×Unit)(h:yTX p0 e bad want=some y):∃ n,yKu n p0 e bad want=some y :=
  ⟨0,by rw[← h];show yKu 0 p0 e bad want=some (z0P p0 e bad want);unfold yKu z0P;first|rfl|(simp only[yG];done)|(simp only[yG];rfl)⟩
def z0P_e:Entry:={ f:=52,args:=yNf,ress:=yUg,m:=fun x=>yTX x.1 x.2.1 x.2.2.1 x.2.2.2.1 }
theorem ySW:FnOK Tryz.prog z0P_e:=yJ (g:=yVX) (fn:=Tryz.f52) yA yI eNil (by kernel_rfl) (by kernel_rfl) (by kernel_rfl) (fun x y h=>let ⟨n,hn⟩:=yNZ x.1 x.2.1 x.2.2.1 x.2.2.2.1 y h;⟨yMK n,iNil,(yRa n x).trans hn⟩)
abbrev zq_a:Ty:=.pair t79 (.pair t79 .unit)
abbrev zq_r:Ty:=.pair t4 .unit
def zq_g:G:={ T:=T,E:=[],muts:=[],fz:=[] }
def zq_k:List (List Nat):=[[0,1,5]]
def yW4(n:Nat):Ann:={ keep:=zq_k,fuel:=n,inl:=[],deep:=0 }
def yH1(n:Nat)(r0:List (Nat×Nat)→List (Nat×Nat)→Int→Option (Bool×Unit))(am:List (Nat×Nat))(ar:List (Nat×Nat))(aw:Int):Option (Bool×Unit) :=
  (bif decide (aw < (↑am.length:Int))then (Option.bind (idx am aw) fun v1=>(Option.bind (idx ar aw) fun v2=>(bif !y4P Go.FloatKind.f32 v1 v2 then some (Bool.false,())else r0 am ar (IntKind.i64.wrap (aw+1)))))else some (Bool.true,()))
def y9i(n:Nat)(k:Nat)(am:List (Nat×Nat))(ar:List (Nat×Nat))(aw:Int):Option (Bool×Unit) :=
  iter (fun r y=>yH1 n (fun am ar aw=>r ((am,(ar,(aw,()))),((),()))) y.1.1 y.1.2.1 y.1.2.2.1) k ((am,(ar,(aw,()))),((),()))
def zq_m(n:Nat)(a:List (Nat×Nat))(b:List (Nat×Nat)):Option (Bool×Unit) :=
  (bif (↑a.length:Int) != (↑b.length:Int)then some (Bool.false,())else (y9i n n (a) (b) ((0:Int))))
theorem ya8(n:Nat)(x:zq_a.den):runF zq_g (yW4 n) Tryz.f53 zq_a zq_r x=zq_m n x.1 x.2.1:=by kernel_rfl
def yKw(am:List (Nat×Nat))(ar:List (Nat×Nat))(aw:Int)(v1:Nat×Nat):Option ((Bool×Unit)⊕Unit) :=
  (Option.bind (idx ar aw) fun v2=>(bif !y4P Go.FloatKind.f32 v1 v2 then (some (Sum.inl ((Bool.false,()))))else (some (Sum.inr ()))))
def yOu(am:List (Nat×Nat))(ar:List (Nat×Nat)):Option (Bool×Unit) :=
  (some ((Bool.true,())))
theorem yFc(n:Nat)(hn:big≤n)(am:List (Nat×Nat))(ar:List (Nat×Nat))(hx:List.length (am) < lenMax):LeF some (yQ (fun aj aE aa=>yKw am ar aj aE) (fun aa=>yOu am ar) 0 (am) ()) (y9i n n am ar 0):=by
  refine yd (f:=some) (W:=fun aG aj aa=>y9i n aG am ar aj) (body:=(fun aj aE aa=>yKw am ar aj aE)) (fin:=(fun aa=>yOu am ar)) (fun aG aj aa=>?_) hx () n (by unfold big at hn;unfold lenMax at hx;omega)
  show LeF _ _ (yH1 n (y9i n aG) am ar aj)
  exact y8 (yE fun v1=>(yE fun v2=>(y8 (yB rfl) (yB rfl)))) (y0c (yB rfl))
def zq_M(a:List (Nat×Nat))(b:List (Nat×Nat)):Option (Bool×Unit) :=
  (bif (↑a.length:Int) != (↑b.length:Int)then (some ((Bool.false,())))else (bif decide (List.length (a) < lenMax)then yQ (fun aj aE aa=>yKw (a) (b) aj aE) (fun aa=>yOu (a) (b)) 0 (a) ()else none))
theorem yUE(a:List (Nat×Nat))(b:List (Nat×Nat))(y:Bool×Unit)(h:zq_M a b=some y):∃ n,zq_m n a b=some y :=
  ⟨big,LeF.top (show LeF some (zq_M a b) (zq_m big a b)from (fun (n:Nat) (hn:big≤n)=>show LeF some (zq_M a b) (zq_m n a b)from (y8 (yB rfl) (yg fun hx=>by apply yFc n hn;exact hx))) big (Nat.le_refl _)) h⟩
def zq_e:Entry:={ f:=53,args:=zq_a,ress:=zq_r,m:=fun x=>zq_M x.1 x.2.1 }
theorem yVz:FnOK Tryz.prog zq_e:=yJ (g:=zq_g) (fn:=Tryz.f53) yA yI eNil (by kernel_rfl) (by kernel_rfl) (by kernel_rfl) (fun x y h=>let ⟨n,hn⟩:=yUE x.1 x.2.1 y h;⟨yW4 n,iNil,(ya8 n x).trans hn⟩)
abbrev zi_a:Ty:=.pair t100 (.pair t100 .unit)
abbrev zi_r:Ty:=.pair t4 .unit
def zi_g:G:={ T:=T,E:=[],muts:=[],fz:=[] }
def zi_k:List (List Nat):=[[0,1,5]]
def yTp(n:Nat):Ann:={ keep:=zi_k,fuel:=n,inl:=[],deep:=0 }
def yOr(n:Nat)(r0:List (List Int)→List (List Int)→Int→Option (Bool×Unit))(am:List (List Int))(ar:List (List Int))(aw:Int):Option (Bool×Unit) :=
  (bif decide (aw < (↑am.length:Int))then (Option.bind (idx am aw) fun v1=>(Option.bind (idx ar aw) fun v2=>(bif !eqV (Ty.arr (2:Nat) (Ty.int IntKind.i64)) v1 v2 then some (Bool.false,())else r0 am ar (IntKind.i64.wrap (aw+1)))))else some (Bool.true,()))
def yPh(n:Nat)(k:Nat)(am:List (List Int))(ar:List (List Int))(aw:Int):Option (Bool×Unit) :=
  iter (fun r y=>yOr n (fun am ar aw=>r ((am,(ar,(aw,()))),((),()))) y.1.1 y.1.2.1 y.1.2.2.1) k ((am,(ar,(aw,()))),((),()))
def zi_m(n:Nat)(a:List (List Int))(b:List (List Int)):Option (Bool×Unit) :=
  (bif (↑a.length:Int) != (↑b.length:Int)then some (Bool.false,())else (yPh n n (a) (b) ((0:Int))))
theorem yZX(n:Nat)(x:zi_a.den):runF zi_g (yTp n) Tryz.f66 zi_a zi_r x=zi_m n x.1 x.2.1:=by kernel_rfl
def zi_M(a:List (List Int))(b:List (List Int)):Option (Bool×Unit):=zi_m 1000 a b
theorem yWI(a:List (List Int))(b:List (List Int))(y:Bool×Unit)(h:zi_M a b=some y):∃ n,zi_m n a b=some y:=⟨1000,h⟩
def zi_e:Entry:={ f:=66,args:=zi_a,ress:=zi_r,m:=fun x=>zi_M x.1 x.2.1 }
theorem yZV:FnOK Tryz.prog zi_e:=yJ (g:=zi_g) (fn:=Tryz.f66) yA yI eNil (by kernel_rfl) (by kernel_rfl) (by kernel_rfl) (fun x y h=>let ⟨n,hn⟩:=yWI x.1 x.2.1 y h;⟨yTp n,iNil,(yZX n x).trans hn⟩)
abbrev zo_a:Ty:=.pair t41 (.pair t41 .unit)
abbrev zo_r:Ty:=.pair t4 .unit
def zo_g:G:={ T:=T,E:=[],muts:=[],fz:=[] }
def zo_k:List (List Nat):=[[0,1,5]]
def yUV(n:Nat):Ann:={ keep:=zo_k,fuel:=n,inl:=[],deep:=0 }
def yQ6(n:Nat)(r0:List Int→List Int→Int→Option (Bool×Unit))(am:List Int)(ar:List Int)(aw:Int):Option (Bool×Unit) :=
  (bif decide (aw < (↑am.length:Int))then (Option.bind (idx am aw) fun v1=>(Option.bind (idx ar aw) fun v2=>(bif v1 != v2 then some (Bool.false,())else r0 am ar (IntKind.i64.wrap (aw+1)))))else some (Bool.true,()))
def yOO(n:Nat)(k:Nat)(am:List Int)(ar:List Int)(aw:Int):Option (Bool×Unit) :=
  iter (fun r y=>yQ6 n (fun am ar aw=>r ((am,(ar,(aw,()))),((),()))) y.1.1 y.1.2.1 y.1.2.2.1) k ((am,(ar,(aw,()))),((),()))
def zo_m(n:Nat)(a:List Int)(b:List Int):Option (Bool×Unit) :=
  (bif (↑a.length:Int) != (↑b.length:Int)then some (Bool.false,())else (yOO n n (a) (b) ((0:Int))))
theorem yaq(n:Nat)(x:zo_a.den):runF zo_g (yUV n) Tryz.f75 zo_a zo_r x=zo_m n x.1 x.2.1:=by kernel_rfl
def zo_M(a:List Int)(b:List Int):Option (Bool×Unit):=zo_m 1000 a b
theorem yXo(a:List Int)(b:List Int)(y:Bool×Unit)(h:zo_M a b=some y):∃ n,zo_m n a b=some y:=⟨1000,h⟩
def zo_e:Entry:={ f:=75,args:=zo_a,ress:=zo_r,m:=fun x=>zo_M x.1 x.2.1 }
theorem yYq:FnOK Tryz.prog zo_e:=yJ (g:=zo_g) (fn:=Tryz.f75) yA yI eNil (by kernel_rfl) (by kernel_rfl) (by kernel_rfl) (fun x y h=>let ⟨n,hn⟩:=yXo x.1 x.2.1 y h;⟨yUV n,iNil,(yaq n x).trans hn⟩)
abbrev yNl:Ty:=.pair t57 (.pair t57 .unit)
abbrev yXh:Ty:=.pair t57 .unit
def yXz:G:={ T:=T,E:=[],muts:=[],fz:=[] }
def yZT:List (List Nat):=[]
def yMV(n:Nat):Ann:={ keep:=yZT,fuel:=n,inl:=[],deep:=0 }
def yKV(n:Nat)(a:Q4)(b:Q4):Option ((Q4)×Unit) :=
  some ((IntKind.i64.wrap (IntKind.i64.wrap (a.1 * b.1) - IntKind.i64.wrap (a.2.1 * b.2.1)),IntKind.i64.wrap (IntKind.i64.wrap (a.1 * b.2.1)+IntKind.i64.wrap (a.2.1 * b.1)),()),())
theorem yRk(n:Nat)(x:yNl.den):runF yXz (yMV n) Tryz.f80 yNl yXh x=yKV n x.1 x.2.1:=by kernel_rfl
def z0R(a:Q4)(b:Q4):((Q4)×Unit) :=
  ((IntKind.i64.wrap (IntKind.i64.wrap (a.1 * b.1) - IntKind.i64.wrap (a.2.1 * b.2.1)),IntKind.i64.wrap (IntKind.i64.wrap (a.1 * b.2.1)+IntKind.i64.wrap (a.2.1 * b.1)),()),())
abbrev yXX (a:Q4) (b:Q4):Option ((Q4)×Unit):=some (z0R a b)
theorem yPQ(a:Q4)(b:Q4)(y:(Q4)×Unit)(h:yXX a b=some y):∃ n,yKV n a b=some y :=
  ⟨0,by rw[← h];show yKV 0 a b=some (z0R a b);unfold yKV z0R;first|rfl|(simp only[yG];done)|(simp only[yG];rfl)⟩
def z0R_e:Entry:={ f:=80,args:=yNl,ress:=yXh,m:=fun x=>yXX x.1 x.2.1 }
theorem yLb:FnOK Tryz.prog z0R_e:=yJ (g:=yXz) (fn:=Tryz.f80) yA yI eNil (by kernel_rfl) (by kernel_rfl) (by kernel_rfl) (fun x y h=>let ⟨n,hn⟩:=yPQ x.1 x.2.1 y h;⟨yMV n,iNil,(yRk n x).trans hn⟩)
abbrev yNx:Ty:=.pair t57 (.pair t57 .unit)
abbrev yUB:Ty:=.pair t57 .unit
def yYJ:G:={ T:=T,E:=[],muts:=[],fz:=[] }
def yZE:List (List Nat):=[]
def yMr(n:Nat):Ann:={ keep:=yZE,fuel:=n,inl:=[],deep:=0 }
def yJQ(n:Nat)(a:Q4)(b:Q4):Option ((Q4)×Unit) :=
  some ((IntKind.i64.wrap (a.1+b.1),IntKind.i64.wrap (a.2.1+b.2.1),()),())
theorem yS2(n:Nat)(x:yNx.den):runF yYJ (yMr n) Tryz.f82 yNx yUB x=yJQ n x.1 x.2.1:=by kernel_rfl
def z0n(a:Q4)(b:Q4):((Q4)×Unit) :=
  ((IntKind.i64.wrap (a.1+b.1),IntKind.i64.wrap (a.2.1+b.2.1),()),())
abbrev yWj (a:Q4) (b:Q4):Option ((Q4)×Unit):=some (z0n a b)
theorem yNg(a:Q4)(b:Q4)(y:(Q4)×Unit)(h:yWj a b=some y):∃ n,yJQ n a b=some y :=
  ⟨0,by rw[← h];show yJQ 0 a b=some (z0n a b);unfold yJQ z0n;first|rfl|(simp only[yG];done)|(simp only[yG];rfl)⟩
def z0n_e:Entry:={ f:=82,args:=yNx,ress:=yUB,m:=fun x=>yWj x.1 x.2.1 }
theorem yU7:FnOK Tryz.prog z0n_e:=yJ (g:=yYJ) (fn:=Tryz.f82) yA yI eNil (by kernel_rfl) (by kernel_rfl) (by kernel_rfl) (fun x y h=>let ⟨n,hn⟩:=yNg x.1 x.2.1 y h;⟨yMr n,iNil,(yS2 n x).trans hn⟩)
abbrev zz_a:Ty:=.pair t23 .unit
abbrev zz_r:Ty:=.pair t23 .unit
def zz_g:G:={ T:=T,E:=[],muts:=[3],fz:=[] }
def zz_k:List (List Nat):=[]
def yY7(n:Nat):Ann:={ keep:=zz_k,fuel:=n,inl:=[],deep:=0 }
def zz_m(n:Nat)(l:List (Q4)):Option (List (Q4)×Unit) :=
  (bif decide ((0:Nat)+l.length≤memMax)then some (l,())else none)
theorem ya7(n:Nat)(x:zz_a.den):runF zz_g (yY7 n) Tryz.f84 zz_a zz_r x=zz_m n x.1:=by kernel_rfl
def zz_M(l:List (Q4)):Option (List (Q4)×Unit):=zz_m 0 l
theorem yX0(l:List (Q4))(y:List (Q4)×Unit)(h:zz_M l=some y):∃ n,zz_m n l=some y:=⟨0,h⟩
def zz_e:Entry:={ f:=84,args:=zz_a,ress:=zz_r,m:=fun x=>zz_M x.1 }
theorem yYw:FnOK Tryz.prog zz_e:=yJ (g:=zz_g) (fn:=Tryz.f84) yA yI eNil (by kernel_rfl) (by kernel_rfl) (by kernel_rfl) (fun x y h=>let ⟨n,hn⟩:=yX0 x.1 y h;⟨yY7 n,iNil,(ya7 n x).trans hn⟩)
abbrev yRR:Ty:=.pair t58 .unit
abbrev yS9:Ty:=.pair t60 .unit
def yUv:G:={ T:=T,E:=[],muts:=[],fz:=[] }
def yap:List (List Nat):=[]
def yLu(n:Nat):Ann:={ keep:=yap,fuel:=n,inl:=[],deep:=0 }
def yIt(n:Nat)(gaps:List (Q4)):Option ((Q1)×Unit) :=
  some (([(103:UInt8)],(0:Int),[nat_lit 1065353216,nat_lit 0,nat_lit 3212836864,nat_lit 0],gaps,()),())
theorem yU8(n:Nat)(x:yRR.den):runF yUv (yLu n) Tryz.f102 yRR yS9 x=yIt n x.1:=by kernel_rfl
def z0k(gaps:List (Q4)):((Q1)×Unit) :=
  (([(103:UInt8)],(0:Int),[nat_lit 1065353216,nat_lit 0,nat_lit 3212836864,nat_lit 0],gaps,()),())
abbrev yVu (gaps:List (Q4)):Option ((Q1)×Unit):=some (z0k gaps)
theorem yPi(gaps:List (Q4))(y:(Q1)×Unit)(h:yVu gaps=some y):∃ n,yIt n gaps=some y :=
  ⟨0,by rw[← h];show yIt 0 gaps=some (z0k gaps);unfold yIt z0k;first|rfl|(simp only[yG];done)|(simp only[yG];rfl)⟩
def z0k_e:Entry:={ f:=102,args:=yRR,ress:=yS9,m:=fun x=>yVu x.1 }
theorem yUJ:FnOK Tryz.prog z0k_e:=yJ (g:=yUv) (fn:=Tryz.f102) yA yI eNil (by kernel_rfl) (by kernel_rfl) (by kernel_rfl) (fun x y h=>let ⟨n,hn⟩:=yPi x.1 y h;⟨yLu n,iNil,(yU8 n x).trans hn⟩)
abbrev yQq:Ty:=.pair t9 .unit
abbrev yYF:Ty:=.pair t31 .unit
def ySq:G:={ T:=T,E:=[],muts:=[3],fz:=[] }
def yac:List (List Nat):=[[3,8]]
def yMn(n:Nat):Ann:={ keep:=yac,fuel:=n,inl:=[],deep:=0 }
def yKF(n:Nat)(r0:List (Q3)→List UInt8→Int→Option (List (Q3)×Unit))(aK:List (Q3))(str1__0:List UInt8)(pos1__0:Int):Option (List (Q3)×Unit) :=
  (bif decide (pos1__0 < (↑str1__0.length:Int))then (bif (ya str1__0 pos1__0).1==72 then (bif decide (aK.length+(1:Nat)≤memMax)then r0 (aK++[(y3b (ya str1__0 pos1__0).1,(1:Int),(2:Int),())]) str1__0 (ya str1__0 pos1__0).2 else none)else (bif (ya str1__0 pos1__0).1==81 then (bif decide (aK.length+(1:Nat)≤memMax)then r0 (aK++[(y3b (ya str1__0 pos1__0).1,(1:Int),(1:Int),())]) str1__0 (ya str1__0 pos1__0).2 else none)else (bif (ya str1__0 pos1__0).1==82 then (bif decide (aK.length+(1:Nat)≤memMax)then r0 (aK++[(y3b (ya str1__0 pos1__0).1,(1:Int),(3:Int),())]) str1__0 (ya str1__0 pos1__0).2 else none)else (bif decide (aK.length+(1:Nat)≤memMax)then r0 (aK++[(y3b (ya str1__0 pos1__0).1,(1:Int),(0:Int),())]) str1__0 (ya str1__0 pos1__0).2 else none))))else some (aK,()))
def yIy(n:Nat)(k:Nat)(aK:List (Q3))(str1__0:List UInt8)(pos1__0:Int):Option (List (Q3)×Unit) :=
  iter (fun r y=>yKF n (fun aK str1__0 pos1__0=>r ((),((aK,((str1__0,pos1__0),())),()))) y.2.1.1 y.2.1.2.1.1 y.2.1.2.1.2) k ((),((aK,((str1__0,pos1__0),())),()))
def yPf(n:Nat)(names:List UInt8):Option (List (Q3)×Unit) :=
  (yIy n n ([]) (names) ((0:Int)))
theorem ySK(n:Nat)(x:yQq.den):runF ySq (yMn n) Tryz.f103 yQq yYF x=yPf n x.1:=by kernel_rfl
def y5u(names:List UInt8):Option (List (Q3)×Unit):=yPf 1000 names
theorem yQX(names:List UInt8)(y:List (Q3)×Unit)(h:y5u names=some y):∃ n,yPf n names=some y:=⟨1000,h⟩
def z0O_e:Entry:={ f:=103,args:=yQq,ress:=yYF,m:=fun x=>y5u x.1 }
theorem yWb:FnOK Tryz.prog z0O_e:=yJ (g:=ySq) (fn:=Tryz.f103) yA yI eNil (by kernel_rfl) (by kernel_rfl) (by kernel_rfl) (fun x y h=>let ⟨n,hn⟩:=yQX x.1 y h;⟨yMn n,iNil,(ySK n x).trans hn⟩)
abbrev yO0:Ty:=.pair t175 .unit
abbrev yRg:Ty:=.pair t28 .unit
def yYD:G:={ T:=T,E:=[],muts:=[],fz:=[] }
def yYV:List (List Nat):=[[5,6,7]]
def yMk(n:Nat):Ann:={ keep:=yYV,fuel:=n,inl:=[],deep:=0 }
def yEa(n:Nat)(r0:List Int→Int→Int→Option (Int×Unit))(bg:List Int)(aD:Int)(ay:Int):Option (Int×Unit) :=
  (bif decide (ay < aD)then (Option.bind (idx bg ay) fun v1=>(bif v1 != 0 then some (v1,())else r0 bg aD (IntKind.i64.wrap (ay+1))))else some ((0:Int),()))
def y6Z(n:Nat)(k:Nat)(bg:List Int)(aD:Int)(ay:Int):Option (Int×Unit) :=
  iter (fun r y=>yEa n (fun bg aD ay=>r ((bg,(aD,(ay,()))),((),()))) y.1.1 y.1.2.1 y.1.2.2.1) k ((bg,(aD,(ay,()))),((),()))
def yKm(n:Nat)(l:List Int):Option (Int×Unit) :=
  (y6Z n n (l) ((↑l.length:Int)) ((0:Int)))
theorem ySj(n:Nat)(x:yO0.den):runF yYD (yMk n) Tryz.f104 yO0 yRg x=yKm n x.1:=by kernel_rfl
def yDw(bg:List Int)(ay:Int)(v1:Int):Option ((Int×Unit)⊕Unit) :=
  (bif v1 != 0 then (some (Sum.inl ((v1,()))))else (some (Sum.inr ())))
def yEg(bg:List Int):Option (Int×Unit) :=
  (some (((0:Int),())))
theorem yDb(n:Nat)(hn:big≤n)(bg:List Int)(hx:List.length (bg) < lenMax):LeF some (yQ (fun aj aE aa=>yDw bg aj aE) (fun aa=>yEg bg) 0 (bg) ()) (y6Z n n bg (List.length (bg):Int) 0):=by
  refine yd (f:=some) (W:=fun aG aj aa=>y6Z n aG bg (List.length (bg):Int) aj) (body:=(fun aj aE aa=>yDw bg aj aE)) (fin:=(fun aa=>yEg bg)) (fun aG aj aa=>?_) hx () n (by unfold big at hn;unfold lenMax at hx;omega)
  show LeF _ _ (yEa n (y6Z n aG) bg (List.length (bg):Int) aj)
  exact y8 (yE fun v1=>(y8 (yB rfl) (yB rfl))) (y0c (yB rfl))
def y1g(l:List Int):Option (Int×Unit) :=
  (bif decide (List.length (l) < lenMax)then yQ (fun aj aE aa=>yDw (l) aj aE) (fun aa=>yEg (l)) 0 (l) ()else none)
theorem yQ1(l:List Int)(y:Int×Unit)(h:y1g l=some y):∃ n,yKm n l=some y :=
  ⟨big,LeF.top (show LeF some (y1g l) (yKm big l)from (fun (n:Nat) (hn:big≤n)=>show LeF some (y1g l) (yKm n l)from (yg fun hx=>by apply yDb n hn;exact hx)) big (Nat.le_refl _)) h⟩
def z0y_e:Entry:={ f:=104,args:=yO0,ress:=yRg,m:=fun x=>y1g x.1 }
theorem y3S:FnOK Tryz.prog z0y_e:=yJ (g:=yYD) (fn:=Tryz.f104) yA yI eNil (by kernel_rfl) (by kernel_rfl) (by kernel_rfl) (fun x y h=>let ⟨n,hn⟩:=yQ1 x.1 y h;⟨yMk n,iNil,(ySj n x).trans hn⟩)
abbrev yPJ:Ty:=.pair t3 (.pair t3 .unit)
abbrev ySY:Ty:=.pair t3 .unit
def yWJ:G:={ T:=T,E:=[],muts:=[],fz:=[] }
def yaG:List (List Nat):=[]
def yLw(n:Nat):Ann:={ keep:=yaG,fuel:=n,inl:=[],deep:=0 }
def yPs(n:Nat)(a:Int)(b:Int):Option (Int×Unit) :=
  (bif IntKind.i64.wrap ((2:Int) * b)==0 then none else (bif IntKind.i64.wrap ((2:Int) * b)==0 then none else (bif decide ((IntKind.i64.wrap (IntKind.i64.wrap ((2:Int) * a)+b)).tmod (IntKind.i64.wrap ((2:Int) * b)) < 0)then some (IntKind.i64.wrap (IntKind.i64.wrap ((IntKind.i64.wrap (IntKind.i64.wrap ((2:Int) * a)+b)).tdiv (IntKind.i64.wrap ((2:Int) * b))) - (1:Int)),())else some (IntKind.i64.wrap ((IntKind.i64.wrap (IntKind.i64.wrap ((2:Int) * a)+b)).tdiv (IntKind.i64.wrap ((2:Int) * b))),()))))
theorem yTE(n:Nat)(x:yPJ.den):runF yWJ (yLw n) Tryz.f107 yPJ ySY x=yPs n x.1 x.2.1:=by kernel_rfl
def yQn(a:Int)(b:Int):Option (Int×Unit):=yPs 0 a b
theorem yPw(a:Int)(b:Int)(y:Int×Unit)(h:yQn a b=some y):∃ n,yPs n a b=some y:=⟨0,h⟩
def z0J_e:Entry:={ f:=107,args:=yPJ,ress:=ySY,m:=fun x=>yQn x.1 x.2.1 }
theorem yY6:FnOK Tryz.prog z0J_e:=yJ (g:=yWJ) (fn:=Tryz.f107) yA yI eNil (by kernel_rfl) (by kernel_rfl) (by kernel_rfl) (fun x y h=>let ⟨n,hn⟩:=yPw x.1 x.2.1 y h;⟨yLw n,iNil,(yTE n x).trans hn⟩)
abbrev yQU:Ty:=.pair t3 .unit
abbrev yXA:Ty:=.pair t3 .unit
def yTi:G:={ T:=T,E:=[],muts:=[],fz:=[] }
def yZL:List (List Nat):=[]
def yMj(n:Nat):Ann:={ keep:=yZL,fuel:=n,inl:=[],deep:=0 }
def yLT(n:Nat)(n1:Int):Option (Int×Unit) :=
  some (if IntKind.i64.wrap ((0:Int) - n1) > n1 then IntKind.i64.wrap ((0:Int) - n1)else n1,())
theorem yXa(n:Nat)(x:yQU.den):runF yTi (yMj n) Tryz.f108 yQU yXA x=yLT n x.1:=by kernel_rfl
def z04(n1:Int):(Int×Unit) :=
  (if IntKind.i64.wrap ((0:Int) - n1) > n1 then IntKind.i64.wrap ((0:Int) - n1)else n1,())
abbrev yXZ (n1:Int):Option (Int×Unit):=some (z04 n1)
theorem yP8(n1:Int)(y:Int×Unit)(h:yXZ n1=some y):∃ n,yLT n n1=some y :=
  ⟨0,by rw[← h];show yLT 0 n1=some (z04 n1);unfold yLT z04;first|rfl|(simp only[yG];done)|(simp only[yG];rfl)⟩
def z04_e:Entry:={ f:=108,args:=yQU,ress:=yXA,m:=fun x=>yXZ x.1 }
theorem yB3:FnOK Tryz.prog z04_e:=yJ (g:=yTi) (fn:=Tryz.f108) yA yI eNil (by kernel_rfl) (by kernel_rfl) (by kernel_rfl) (fun x y h=>let ⟨n,hn⟩:=yP8 x.1 y h;⟨yMj n,iNil,(yXa n x).trans hn⟩)
abbrev yQY:Ty:=.pair t4 (.pair t28 .unit)
abbrev yUf:Ty:=.pair t28 .unit
def yT0:G:={ T:=T,E:=[],muts:=[],fz:=[] }
def yah:List (List Nat):=[]
def yMW(n:Nat):Ann:={ keep:=yah,fuel:=n,inl:=[],deep:=0 }
def yL0(n:Nat)(holds:Bool)(e:Int):Option (Int×Unit) :=
  (bif holds then some (e,())else some ((0:Int),()))
theorem yTV(n:Nat)(x:yQY.den):runF yT0 (yMW n) Tryz.f113 yQY yUf x=yL0 n x.1 x.2.1:=by kernel_rfl
def z1D(holds:Bool)(e:Int):(Int×Unit) :=
  (bif holds then (e,())else ((0:Int),()))
abbrev yTR (holds:Bool) (e:Int):Option (Int×Unit):=some (z1D holds e)
theorem yOs(holds:Bool)(e:Int)(y:Int×Unit)(h:yTR holds e=some y):∃ n,yL0 n holds e=some y :=
  ⟨0,by rw[← h];show yL0 0 holds e=some (z1D holds e);unfold yL0 z1D;first|rfl|(simp only[yG];done)|(simp only[yG];rfl)⟩
def z1D_e:Entry:={ f:=113,args:=yQY,ress:=yUf,m:=fun x=>yTR x.1 x.2.1 }
theorem y4W:FnOK Tryz.prog z1D_e:=yJ (g:=yT0) (fn:=Tryz.f113) yA yI eNil (by kernel_rfl) (by kernel_rfl) (by kernel_rfl) (fun x y h=>let ⟨n,hn⟩:=yOs x.1 x.2.1 y h;⟨yMW n,iNil,(yTV n x).trans hn⟩)
abbrev zF_a:Ty:=.pair t23 (.pair t177 .unit)
abbrev zF_r:Ty:=.pair t175 .unit
def zF_g:G:={ T:=T,E:=[],muts:=[5],fz:=[] }
def zF_k:List (List Nat):=[[1,5,8,9,10]]
def ySP(n:Nat):Ann:={ keep:=zF_k,fuel:=n,inl:=[],deep:=0 }
def yH6(n:Nat)(r0:((Q4)×Unit→Option (Int×Unit))→List (Q4)→Int→Int→List Int→Option (List Int×Unit))(ae:(Q4)×Unit→Option (Int×Unit))(ac:List (Q4))(al:Int)(af:Int)(ai:List Int):Option (List Int×Unit) :=
  (bif decide (af < al)then (Option.bind (idx ac af) fun v1=>(Option.bind (ae ((v1.1,v1.2.1,()),())) fun v2=>(bif decide (ai.length+(1:Nat)≤memMax)then r0 ae ac al (IntKind.i64.wrap (af+1)) (ai++[v2.1])else none)))else some (ai,()))
def y9W(n:Nat)(k:Nat)(ae:(Q4)×Unit→Option (Int×Unit))(ac:List (Q4))(al:Int)(af:Int)(ai:List Int):Option (List Int×Unit) :=
  iter (fun r y=>yH6 n (fun ae ac al af ai=>r ((ae,(ac,(al,(af,())))),((ai,()),()))) y.1.1 y.1.2.1 y.1.2.2.1 y.1.2.2.2.1 y.2.1.1) k ((ae,(ac,(al,(af,())))),((ai,()),()))
def zF_m(n:Nat)(l:List (Q4))(of:(Q4)×Unit→Option (Int×Unit)):Option (List Int×Unit) :=
  (y9W n n (of) (l) ((↑l.length:Int)) ((0:Int)) ([]))
theorem yZz(n:Nat)(x:zF_a.den):runF zF_g (ySP n) Tryz.f115 zF_a zF_r x=zF_m n x.1 x.2.1:=by kernel_rfl
def yGR(ae:(Q4)×Unit→Option (Int×Unit))(ac:List (Q4))(af:Int)(v1:Q4)(ai:List Int):Option ((List Int×Unit)⊕(List Int)) :=
  (Option.bind (ae ((v1.1,v1.2.1,()),())) fun v2=>(bif decide (ai.length+(1:Nat)≤memMax)then (some (Sum.inr (ai++[v2.1])))else none))
def yQI(ae:(Q4)×Unit→Option (Int×Unit))(ac:List (Q4))(ai:List Int):Option (List Int×Unit) :=
  (some ((ai,())))
theorem yG3(n:Nat)(hn:big≤n)(ae:(Q4)×Unit→Option (Int×Unit))(ac:List (Q4))(ai:List Int)(hx:List.length (ac) < lenMax):LeF some (yQ (fun aj aE aa=>yGR ae ac aj aE aa) (fun aa=>yQI ae ac aa) 0 (ac) ai) (y9W n n ae ac (List.length (ac):Int) 0 ai):=by
  refine yd (f:=some) (W:=fun aG aj aa=>y9W n aG ae ac (List.length (ac):Int) aj aa) (body:=(fun aj aE aa=>yGR ae ac aj aE aa)) (fin:=(fun aa=>yQI ae ac aa)) (fun aG aj aa=>?_) hx ai n (by unfold big at hn;unfold lenMax at hx;omega)
  show LeF _ _ (yH6 n (y9W n aG) ae ac (List.length (ac):Int) aj aa)
  exact y8 (yE fun v1=>(yE fun v2=>(y8 (yB rfl) y0C))) (y0c (yB rfl))
def zF_M(l:List (Q4))(of:(Q4)×Unit→Option (Int×Unit)):Option (List Int×Unit) :=
  (bif decide (List.length (l) < lenMax)then yQ (fun aj aE aa=>yGR (of) (l) aj aE aa) (fun aa=>yQI (of) (l) aa) 0 (l) ([])else none)
theorem yUq(l:List (Q4))(of:(Q4)×Unit→Option (Int×Unit))(y:List Int×Unit)(h:zF_M l of=some y):∃ n,zF_m n l of=some y :=
  ⟨big,LeF.top (show LeF some (zF_M l of) (zF_m big l of)from (fun (n:Nat) (hn:big≤n)=>show LeF some (zF_M l of) (zF_m n l of)from (yg fun hx=>by apply yG3 n hn;exact hx)) big (Nat.le_refl _)) h⟩
def zF_e:Entry:={ f:=115,args:=zF_a,ress:=zF_r,m:=fun x=>zF_M x.1 x.2.1 }
theorem ySs:FnOK Tryz.prog zF_e:=yJ (g:=zF_g) (fn:=Tryz.f115) yA yI eNil (by kernel_rfl) (by kernel_rfl) (by kernel_rfl) (fun x y h=>let ⟨n,hn⟩:=yUq x.1 x.2.1 y h;⟨ySP n,iNil,(yZz n x).trans hn⟩)
abbrev yNh:Ty:=.pair t57 (.pair t57 .unit)
abbrev ySd:Ty:=.pair t57 .unit
def yRn:G:={ T:=T,E:=[],muts:=[],fz:=[] }
def yYN:List (List Nat):=[]
def yMI(n:Nat):Ann:={ keep:=yYN,fuel:=n,inl:=[],deep:=0 }
def yKt(n:Nat)(a:Q4)(b:Q4):Option ((Q4)×Unit) :=
  some ((IntKind.i64.wrap (IntKind.i64.wrap (a.1 * b.1) - IntKind.i64.wrap (a.2.1 * b.2.1)),IntKind.i64.wrap (IntKind.i64.wrap (a.1 * b.2.1)+IntKind.i64.wrap (a.2.1 * b.1)),()),())
theorem yRy(n:Nat)(x:yNh.den):runF yRn (yMI n) Tryz.f125 yNh ySd x=yKt n x.1 x.2.1:=by kernel_rfl
def z14(a:Q4)(b:Q4):((Q4)×Unit) :=
  ((IntKind.i64.wrap (IntKind.i64.wrap (a.1 * b.1) - IntKind.i64.wrap (a.2.1 * b.2.1)),IntKind.i64.wrap (IntKind.i64.wrap (a.1 * b.2.1)+IntKind.i64.wrap (a.2.1 * b.1)),()),())
abbrev yST (a:Q4) (b:Q4):Option ((Q4)×Unit):=some (z14 a b)
theorem yPd(a:Q4)(b:Q4)(y:(Q4)×Unit)(h:yST a b=some y):∃ n,yKt n a b=some y :=
  ⟨0,by rw[← h];show yKt 0 a b=some (z14 a b);unfold yKt z14;first|rfl|(simp only[yG];done)|(simp only[yG];rfl)⟩
def z14_e:Entry:={ f:=125,args:=yNh,ress:=ySd,m:=fun x=>yST x.1 x.2.1 }
theorem yE1:FnOK Tryz.prog z14_e:=yJ (g:=yRn) (fn:=Tryz.f125) yA yI eNil (by kernel_rfl) (by kernel_rfl) (by kernel_rfl) (fun x y h=>let ⟨n,hn⟩:=yPd x.1 x.2.1 y h;⟨yMI n,iNil,(yRy n x).trans hn⟩)
abbrev zv_a:Ty:=.pair t57 .unit
abbrev zv_r:Ty:=.pair t57 .unit
def zv_g:G:={ T:=T,E:=[],muts:=[],fz:=[] }
def zv_k:List (List Nat):=[]
def yVW(n:Nat):Ann:={ keep:=zv_k,fuel:=n,inl:=[],deep:=0 }
def zv_m(n:Nat)(a:Q4):Option ((Q4)×Unit) :=
  some ((a.1,IntKind.i64.wrap ((0:Int) - a.2.1),()),())
theorem yZI(n:Nat)(x:zv_a.den):runF zv_g (yVW n) Tryz.f126 zv_a zv_r x=zv_m n x.1:=by kernel_rfl
def zv(a:Q4):((Q4)×Unit) :=
  ((a.1,IntKind.i64.wrap ((0:Int) - a.2.1),()),())
abbrev zv_M (a:Q4):Option ((Q4)×Unit):=some (zv a)
theorem yT8(a:Q4)(y:(Q4)×Unit)(h:zv_M a=some y):∃ n,zv_m n a=some y :=
  ⟨0,by rw[← h];show zv_m 0 a=some (zv a);unfold zv_m zv;first|rfl|(simp only[yG];done)|(simp only[yG];rfl)⟩
def zv_e:Entry:={ f:=126,args:=zv_a,ress:=zv_r,m:=fun x=>zv_M x.1 }
theorem yOX:FnOK Tryz.prog zv_e:=yJ (g:=zv_g) (fn:=Tryz.f126) yA yI eNil (by kernel_rfl) (by kernel_rfl) (by kernel_rfl) (fun x y h=>let ⟨n,hn⟩:=yT8 x.1 y h;⟨yVW n,iNil,(yZI n x).trans hn⟩)
abbrev z7_a:Ty:=.pair t31 (.pair t192 .unit)
abbrev z7_r:Ty:=.pair t31 .unit
def z7_g:G:={ T:=T,E:=[],muts:=[5],fz:=[] }
def z7_k:List (List Nat):=[[1,5,8,9,10]]
def yRl(n:Nat):Ann:={ keep:=z7_k,fuel:=n,inl:=[],deep:=0 }
def yH4(n:Nat)(r0:((Q3)×Unit→Option ((Q3)×Unit))→List (Q3)→Int→Int→List (Q3)→Option (List (Q3)×Unit))(ae:(Q3)×Unit→Option ((Q3)×Unit))(ac:List (Q3))(al:Int)(af:Int)(ai:List (Q3)):Option (List (Q3)×Unit) :=
  (bif decide (af < al)then (Option.bind (idx ac af) fun v1=>(Option.bind (ae ((v1.1,v1.2.1,v1.2.2.1,()),())) fun v2=>(bif decide (ai.length+(1:Nat)≤memMax)then r0 ae ac al (IntKind.i64.wrap (af+1)) (ai++[v2.1])else none)))else some (ai,()))
def y9y(n:Nat)(k:Nat)(ae:(Q3)×Unit→Option ((Q3)×Unit))(ac:List (Q3))(al:Int)(af:Int)(ai:List (Q3)):Option (List (Q3)×Unit) :=
  iter (fun r y=>yH4 n (fun ae ac al af ai=>r ((ae,(ac,(al,(af,())))),((ai,()),()))) y.1.1 y.1.2.1 y.1.2.2.1 y.1.2.2.2.1 y.2.1.1) k ((ae,(ac,(al,(af,())))),((ai,()),()))
def z7_m(n:Nat)(l:List (Q3))(of:(Q3)×Unit→Option ((Q3)×Unit)):Option (List (Q3)×Unit) :=
  (y9y n n (of) (l) ((↑l.length:Int)) ((0:Int)) ([]))
theorem yZC(n:Nat)(x:z7_a.den):runF z7_g (yRl n) Tryz.f130 z7_a z7_r x=z7_m n x.1 x.2.1:=by kernel_rfl
def yK5(ae:(Q3)×Unit→Option ((Q3)×Unit))(ac:List (Q3))(af:Int)(v1:Q3)(ai:List (Q3)):Option ((List (Q3)×Unit)⊕(List (Q3))) :=
  (Option.bind (ae ((v1.1,v1.2.1,v1.2.2.1,()),())) fun v2=>(bif decide (ai.length+(1:Nat)≤memMax)then (some (Sum.inr (ai++[v2.1])))else none))
def yQV(ae:(Q3)×Unit→Option ((Q3)×Unit))(ac:List (Q3))(ai:List (Q3)):Option (List (Q3)×Unit) :=
  (some ((ai,())))
theorem yGL(n:Nat)(hn:big≤n)(ae:(Q3)×Unit→Option ((Q3)×Unit))(ac:List (Q3))(ai:List (Q3))(hx:List.length (ac) < lenMax):LeF some (yQ (fun aj aE aa=>yK5 ae ac aj aE aa) (fun aa=>yQV ae ac aa) 0 (ac) ai) (y9y n n ae ac (List.length (ac):Int) 0 ai):=by
  refine yd (f:=some) (W:=fun aG aj aa=>y9y n aG ae ac (List.length (ac):Int) aj aa) (body:=(fun aj aE aa=>yK5 ae ac aj aE aa)) (fin:=(fun aa=>yQV ae ac aa)) (fun aG aj aa=>?_) hx ai n (by unfold big at hn;unfold lenMax at hx;omega)
  show LeF _ _ (yH4 n (y9y n aG) ae ac (List.length (ac):Int) aj aa)
  exact y8 (yE fun v1=>(yE fun v2=>(y8 (yB rfl) y0C))) (y0c (yB rfl))
def z7_M(l:List (Q3))(of:(Q3)×Unit→Option ((Q3)×Unit)):Option (List (Q3)×Unit) :=
  (bif decide (List.length (l) < lenMax)then yQ (fun aj aE aa=>yK5 (of) (l) aj aE aa) (fun aa=>yQV (of) (l) aa) 0 (l) ([])else none)
theorem yWy(l:List (Q3))(of:(Q3)×Unit→Option ((Q3)×Unit))(y:List (Q3)×Unit)(h:z7_M l of=some y):∃ n,z7_m n l of=some y :=
  ⟨big,LeF.top (show LeF some (z7_M l of) (z7_m big l of)from (fun (n:Nat) (hn:big≤n)=>show LeF some (z7_M l of) (z7_m n l of)from (yg fun hx=>by apply yGL n hn;exact hx)) big (Nat.le_refl _)) h⟩
def z7_e:Entry:={ f:=130,args:=z7_a,ress:=z7_r,m:=fun x=>z7_M x.1 x.2.1 }
theorem yU9:FnOK Tryz.prog z7_e:=yJ (g:=z7_g) (fn:=Tryz.f130) yA yI eNil (by kernel_rfl) (by kernel_rfl) (by kernel_rfl) (fun x y h=>let ⟨n,hn⟩:=yWy x.1 x.2.1 y h;⟨yRl n,iNil,(yZC n x).trans hn⟩)
abbrev yR7:Ty:=.pair t55 .unit
abbrev yXc:Ty:=.pair t55 .unit
def yTC:G:={ T:=T,E:=[],muts:=[],fz:=[] }
def yaP:List (List Nat):=[]
def yMG(n:Nat):Ann:={ keep:=yaP,fuel:=n,inl:=[],deep:=0 }
def yJ4(n:Nat)(c:Q3):Option ((Q3)×Unit) :=
  some ((c.1,c.2.1,c.2.2.1,()),())
theorem yYC(n:Nat)(x:yR7.den):runF yTC (yMG n) Tryz.f131 yR7 yXc x=yJ4 n x.1:=by kernel_rfl
def z0v(c:Q3):((Q3)×Unit) :=
  ((c.1,c.2.1,c.2.2.1,()),())
abbrev ySr (c:Q3):Option ((Q3)×Unit):=some (z0v c)
theorem yOo(c:Q3)(y:(Q3)×Unit)(h:ySr c=some y):∃ n,yJ4 n c=some y :=
  ⟨0,by rw[← h];show yJ4 0 c=some (z0v c);unfold yJ4 z0v;first|rfl|(simp only[yG];done)|(simp only[yG];rfl)⟩
def z0v_e:Entry:={ f:=131,args:=yR7,ress:=yXc,m:=fun x=>ySr x.1 }
theorem yWL:FnOK Tryz.prog z0v_e:=yJ (g:=yTC) (fn:=Tryz.f131) yA yI eNil (by kernel_rfl) (by kernel_rfl) (by kernel_rfl) (fun x y h=>let ⟨n,hn⟩:=yOo x.1 y h;⟨yMG n,iNil,(yYC n x).trans hn⟩)
abbrev zG_a:Ty:=.pair t23 (.pair t129 .unit)
abbrev zG_r:Ty:=.pair t23 .unit
def zG_g:G:={ T:=T,E:=[],muts:=[5],fz:=[] }
def zG_k:List (List Nat):=[[1,5,8,9,10]]
def yU5(n:Nat):Ann:={ keep:=zG_k,fuel:=n,inl:=[],deep:=0 }
def yIg(n:Nat)(r0:((Q4)×Unit→Option ((Q4)×Unit))→List (Q4)→Int→Int→List (Q4)→Option (List (Q4)×Unit))(ae:(Q4)×Unit→Option ((Q4)×Unit))(ac:List (Q4))(al:Int)(af:Int)(ai:List (Q4)):Option (List (Q4)×Unit) :=
  (bif decide (af < al)then (Option.bind (idx ac af) fun v1=>(Option.bind (ae ((v1.1,v1.2.1,()),())) fun v2=>(bif decide (ai.length+(1:Nat)≤memMax)then r0 ae ac al (IntKind.i64.wrap (af+1)) (ai++[v2.1])else none)))else some (ai,()))
def y9l(n:Nat)(k:Nat)(ae:(Q4)×Unit→Option ((Q4)×Unit))(ac:List (Q4))(al:Int)(af:Int)(ai:List (Q4)):Option (List (Q4)×Unit) :=
  iter (fun r y=>yIg n (fun ae ac al af ai=>r ((ae,(ac,(al,(af,())))),((ai,()),()))) y.1.1 y.1.2.1 y.1.2.2.1 y.1.2.2.2.1 y.2.1.1) k ((ae,(ac,(al,(af,())))),((ai,()),()))
def zG_m(n:Nat)(l:List (Q4))(of:(Q4)×Unit→Option ((Q4)×Unit)):Option (List (Q4)×Unit) :=
  (y9l n n (of) (l) ((↑l.length:Int)) ((0:Int)) ([]))
theorem yZm(n:Nat)(x:zG_a.den):runF zG_g (yU5 n) Tryz.f132 zG_a zG_r x=zG_m n x.1 x.2.1:=by kernel_rfl
def yJR(ae:(Q4)×Unit→Option ((Q4)×Unit))(ac:List (Q4))(af:Int)(v1:Q4)(ai:List (Q4)):Option ((List (Q4)×Unit)⊕(List (Q4))) :=
  (Option.bind (ae ((v1.1,v1.2.1,()),())) fun v2=>(bif decide (ai.length+(1:Nat)≤memMax)then (some (Sum.inr (ai++[v2.1])))else none))
def yOY(ae:(Q4)×Unit→Option ((Q4)×Unit))(ac:List (Q4))(ai:List (Q4)):Option (List (Q4)×Unit) :=
  (some ((ai,())))
theorem yF7(n:Nat)(hn:big≤n)(ae:(Q4)×Unit→Option ((Q4)×Unit))(ac:List (Q4))(ai:List (Q4))(hx:List.length (ac) < lenMax):LeF some (yQ (fun aj aE aa=>yJR ae ac aj aE aa) (fun aa=>yOY ae ac aa) 0 (ac) ai) (y9l n n ae ac (List.length (ac):Int) 0 ai):=by
  refine yd (f:=some) (W:=fun aG aj aa=>y9l n aG ae ac (List.length (ac):Int) aj aa) (body:=(fun aj aE aa=>yJR ae ac aj aE aa)) (fin:=(fun aa=>yOY ae ac aa)) (fun aG aj aa=>?_) hx ai n (by unfold big at hn;unfold lenMax at hx;omega)
  show LeF _ _ (yIg n (y9l n aG) ae ac (List.length (ac):Int) aj aa)
  exact y8 (yE fun v1=>(yE fun v2=>(y8 (yB rfl) y0C))) (y0c (yB rfl))
def zG_M(l:List (Q4))(of:(Q4)×Unit→Option ((Q4)×Unit)):Option (List (Q4)×Unit) :=
  (bif decide (List.length (l) < lenMax)then yQ (fun aj aE aa=>yJR (of) (l) aj aE aa) (fun aa=>yOY (of) (l) aa) 0 (l) ([])else none)
theorem yXL(l:List (Q4))(of:(Q4)×Unit→Option ((Q4)×Unit))(y:List (Q4)×Unit)(h:zG_M l of=some y):∃ n,zG_m n l of=some y :=
  ⟨big,LeF.top (show LeF some (zG_M l of) (zG_m big l of)from (fun (n:Nat) (hn:big≤n)=>show LeF some (zG_M l of) (zG_m n l of)from (yg fun hx=>by apply yF7 n hn;exact hx)) big (Nat.le_refl _)) h⟩
def zG_e:Entry:={ f:=132,args:=zG_a,ress:=zG_r,m:=fun x=>zG_M x.1 x.2.1 }
theorem yQT:FnOK Tryz.prog zG_e:=yJ (g:=zG_g) (fn:=Tryz.f132) yA yI eNil (by kernel_rfl) (by kernel_rfl) (by kernel_rfl) (fun x y h=>let ⟨n,hn⟩:=yXL x.1 x.2.1 y h;⟨yU5 n,iNil,(yZm n x).trans hn⟩)
abbrev yQS:Ty:=.pair t57 (.pair t3 .unit)
abbrev ySS:Ty:=.pair t57 .unit
def yYI:G:={ T:=T,E:=[],muts:=[],fz:=[] }
def yZP:List (List Nat):=[]
def yLx(n:Nat):Ann:={ keep:=yZP,fuel:=n,inl:=[],deep:=0 }
def yLM(n:Nat)(a:Q4)(n1:Int):Option ((Q4)×Unit) :=
  some ((IntKind.i64.wrap (n1 * a.1),IntKind.i64.wrap (n1 * a.2.1),()),())
theorem yTk(n:Nat)(x:yQS.den):runF yYI (yLx n) Tryz.f134 yQS ySS x=yLM n x.1 x.2.1:=by kernel_rfl
def z0d(a:Q4)(n1:Int):((Q4)×Unit) :=
  ((IntKind.i64.wrap (n1 * a.1),IntKind.i64.wrap (n1 * a.2.1),()),())
abbrev yXQ (a:Q4) (n1:Int):Option ((Q4)×Unit):=some (z0d a n1)
theorem yPF(a:Q4)(n1:Int)(y:(Q4)×Unit)(h:yXQ a n1=some y):∃ n,yLM n a n1=some y :=
  ⟨0,by rw[← h];show yLM 0 a n1=some (z0d a n1);unfold yLM z0d;first|rfl|(simp only[yG];done)|(simp only[yG];rfl)⟩
def z0d_e:Entry:={ f:=134,args:=yQS,ress:=ySS,m:=fun x=>yXQ x.1 x.2.1 }
theorem y95:FnOK Tryz.prog z0d_e:=yJ (g:=yYI) (fn:=Tryz.f134) yA yI eNil (by kernel_rfl) (by kernel_rfl) (by kernel_rfl) (fun x y h=>let ⟨n,hn⟩:=yPF x.1 x.2.1 y h;⟨yLx n,iNil,(yTk n x).trans hn⟩)
abbrev yPa:Ty:=.pair t57 (.pair t57 .unit)
abbrev ySh:Ty:=.pair t57 .unit
def yRj:G:={ T:=T,E:=[],muts:=[],fz:=[] }
def yZR:List (List Nat):=[]
def yMQ(n:Nat):Ann:={ keep:=yZR,fuel:=n,inl:=[],deep:=0 }
def yLY(n:Nat)(a:Q4)(b:Q4):Option ((Q4)×Unit) :=
  some ((IntKind.i64.wrap (a.1+b.1),IntKind.i64.wrap (a.2.1+b.2.1),()),())
theorem yTs(n:Nat)(x:yPa.den):runF yRj (yMQ n) Tryz.f135 yPa ySh x=yLY n x.1 x.2.1:=by kernel_rfl
def z1C(a:Q4)(b:Q4):((Q4)×Unit) :=
  ((IntKind.i64.wrap (a.1+b.1),IntKind.i64.wrap (a.2.1+b.2.1),()),())
abbrev yX4 (a:Q4) (b:Q4):Option ((Q4)×Unit):=some (z1C a b)
theorem yNc(a:Q4)(b:Q4)(y:(Q4)×Unit)(h:yX4 a b=some y):∃ n,yLY n a b=some y :=
  ⟨0,by rw[← h];show yLY 0 a b=some (z1C a b);unfold yLY z1C;first|rfl|(simp only[yG];done)|(simp only[yG];rfl)⟩
def z1C_e:Entry:={ f:=135,args:=yPa,ress:=ySh,m:=fun x=>yX4 x.1 x.2.1 }
theorem yBN:FnOK Tryz.prog z1C_e:=yJ (g:=yRj) (fn:=Tryz.f135) yA yI eNil (by kernel_rfl) (by kernel_rfl) (by kernel_rfl) (fun x y h=>let ⟨n,hn⟩:=yNc x.1 x.2.1 y h;⟨yMQ n,iNil,(yTs n x).trans hn⟩)
abbrev zH_a:Ty:=.pair t23 (.pair t196 .unit)
abbrev zH_r:Ty:=.pair t79 .unit
def zH_g:G:={ T:=T,E:=[],muts:=[5],fz:=[] }
def zH_k:List (List Nat):=[[1,5,8,9,10]]
def yRb(n:Nat):Ann:={ keep:=zH_k,fuel:=n,inl:=[],deep:=0 }
def yGP(n:Nat)(r0:((Q4)×Unit→Option ((Nat×Nat)×Unit))→List (Q4)→Int→Int→List (Nat×Nat)→Option (List (Nat×Nat)×Unit))(ae:(Q4)×Unit→Option ((Nat×Nat)×Unit))(ac:List (Q4))(al:Int)(af:Int)(ai:List (Nat×Nat)):Option (List (Nat×Nat)×Unit) :=
  (bif decide (af < al)then (Option.bind (idx ac af) fun v1=>(Option.bind (ae ((v1.1,v1.2.1,()),())) fun v2=>(bif decide (ai.length+(1:Nat)≤memMax)then r0 ae ac al (IntKind.i64.wrap (af+1)) (ai++[v2.1])else none)))else some (ai,()))
def y9k(n:Nat)(k:Nat)(ae:(Q4)×Unit→Option ((Nat×Nat)×Unit))(ac:List (Q4))(al:Int)(af:Int)(ai:List (Nat×Nat)):Option (List (Nat×Nat)×Unit) :=
  iter (fun r y=>yGP n (fun ae ac al af ai=>r ((ae,(ac,(al,(af,())))),((ai,()),()))) y.1.1 y.1.2.1 y.1.2.2.1 y.1.2.2.2.1 y.2.1.1) k ((ae,(ac,(al,(af,())))),((ai,()),()))
def zH_m(n:Nat)(l:List (Q4))(of:(Q4)×Unit→Option ((Nat×Nat)×Unit)):Option (List (Nat×Nat)×Unit) :=
  (y9k n n (of) (l) ((↑l.length:Int)) ((0:Int)) ([]))
theorem yZS(n:Nat)(x:zH_a.den):runF zH_g (yRb n) Tryz.f139 zH_a zH_r x=zH_m n x.1 x.2.1:=by kernel_rfl
def yJ2(ae:(Q4)×Unit→Option ((Nat×Nat)×Unit))(ac:List (Q4))(af:Int)(v1:Q4)(ai:List (Nat×Nat)):Option ((List (Nat×Nat)×Unit)⊕(List (Nat×Nat))) :=
  (Option.bind (ae ((v1.1,v1.2.1,()),())) fun v2=>(bif decide (ai.length+(1:Nat)≤memMax)then (some (Sum.inr (ai++[v2.1])))else none))
def yPz(ae:(Q4)×Unit→Option ((Nat×Nat)×Unit))(ac:List (Q4))(ai:List (Nat×Nat)):Option (List (Nat×Nat)×Unit) :=
  (some ((ai,())))
theorem yF1(n:Nat)(hn:big≤n)(ae:(Q4)×Unit→Option ((Nat×Nat)×Unit))(ac:List (Q4))(ai:List (Nat×Nat))(hx:List.length (ac) < lenMax):LeF some (yQ (fun aj aE aa=>yJ2 ae ac aj aE aa) (fun aa=>yPz ae ac aa) 0 (ac) ai) (y9k n n ae ac (List.length (ac):Int) 0 ai):=by
  refine yd (f:=some) (W:=fun aG aj aa=>y9k n aG ae ac (List.length (ac):Int) aj aa) (body:=(fun aj aE aa=>yJ2 ae ac aj aE aa)) (fin:=(fun aa=>yPz ae ac aa)) (fun aG aj aa=>?_) hx ai n (by unfold big at hn;unfold lenMax at hx;omega)
  show LeF _ _ (yGP n (y9k n aG) ae ac (List.length (ac):Int) aj aa)
  exact y8 (yE fun v1=>(yE fun v2=>(y8 (yB rfl) y0C))) (y0c (yB rfl))
def zH_M(l:List (Q4))(of:(Q4)×Unit→Option ((Nat×Nat)×Unit)):Option (List (Nat×Nat)×Unit) :=
  (bif decide (List.length (l) < lenMax)then yQ (fun aj aE aa=>yJ2 (of) (l) aj aE aa) (fun aa=>yPz (of) (l) aa) 0 (l) ([])else none)
theorem yVA(l:List (Q4))(of:(Q4)×Unit→Option ((Nat×Nat)×Unit))(y:List (Nat×Nat)×Unit)(h:zH_M l of=some y):∃ n,zH_m n l of=some y :=
  ⟨big,LeF.top (show LeF some (zH_M l of) (zH_m big l of)from (fun (n:Nat) (hn:big≤n)=>show LeF some (zH_M l of) (zH_m n l of)from (yg fun hx=>by apply yF1 n hn;exact hx)) big (Nat.le_refl _)) h⟩
def zH_e:Entry:={ f:=139,args:=zH_a,ress:=zH_r,m:=fun x=>zH_M x.1 x.2.1 }
theorem yan:FnOK Tryz.prog zH_e:=yJ (g:=zH_g) (fn:=Tryz.f139) yA yI eNil (by kernel_rfl) (by kernel_rfl) (by kernel_rfl) (fun x y h=>let ⟨n,hn⟩:=yVA x.1 x.2.1 y h;⟨yRb n,iNil,(yZS n x).trans hn⟩)
abbrev yNd:Ty:=.pair t57 (.pair (.ref t165) .unit)
abbrev yYH:Ty:=.pair t165 .unit
def yW8:G:={ T:=T,E:=[],muts:=[],fz:=[] }
def yZl:List (List Nat):=[]
def yMJ(n:Nat):Ann:={ keep:=yZl,fuel:=n,inl:=[],deep:=0 }
def yLB(n:Nat)(z:Q4)(p1:Nat×Nat):Option ((Nat×Nat)×Unit) :=
  some ((y0g Go.BinOp.quo Go.FloatKind.f32 (yk Go.FloatKind.f32 z.1) p1.1,y0g Go.BinOp.quo Go.FloatKind.f32 (yk Go.FloatKind.f32 z.2.1) p1.1),())
theorem yUa(n:Nat)(x:yNd.den):runF yW8 (yMJ n) Tryz.f140 yNd yYH x=yLB n x.1 x.2.1:=by kernel_rfl
def z0a(z:Q4)(p1:Nat×Nat):((Nat×Nat)×Unit) :=
  ((y0g Go.BinOp.quo Go.FloatKind.f32 (yk Go.FloatKind.f32 z.1) p1.1,y0g Go.BinOp.quo Go.FloatKind.f32 (yk Go.FloatKind.f32 z.2.1) p1.1),())
abbrev yON (z:Q4) (p1:Nat×Nat):Option ((Nat×Nat)×Unit):=some (z0a z p1)
theorem yRY(z:Q4)(p1:Nat×Nat)(y:(Nat×Nat)×Unit)(h:yON z p1=some y):∃ n,yLB n z p1=some y :=
  ⟨0,by rw[← h];show yLB 0 z p1=some (z0a z p1);unfold yLB z0a;first|rfl|(simp only[yG];done)|(simp only[yG];rfl)⟩
def z0a_e:Entry:={ f:=140,args:=yNd,ress:=yYH,m:=fun x=>yON x.1 x.2.1 }
theorem yUP:FnOK Tryz.prog z0a_e:=yJ (g:=yW8) (fn:=Tryz.f140) yA yI eNil (by kernel_rfl) (by kernel_rfl) (by kernel_rfl) (fun x y h=>let ⟨n,hn⟩:=yRY x.1 x.2.1 y h;⟨yMJ n,iNil,(yUa n x).trans hn⟩)
abbrev yPW:Ty:=.pair t3 (.pair t3 .unit)
abbrev yT9:Ty:=.pair t69 .unit
def yXg:G:={ T:=T,E:=[],muts:=[],fz:=[] }
def yYZ:List (List Nat):=[[0,1,4,5,6]]
def yM4(n:Nat):Ann:={ keep:=yYZ,fuel:=n,inl:=[],deep:=0 }
def yDg(n:Nat)(r2:Int→Int→Int→Int→Int→Int→Option ((Q4)×Unit))(ba:Int)(bc:Int)(bI:Int)(bM:Int)(bq:Int)(br:Int):Option ((Q4)×Unit) :=
  (bif bM != 0 then (bif bM==0 then none else r2 ba bc bM (bI.tmod bM) bq br)else (bif bI==0 then none else (bif bI==0 then none else some ((IntKind.i64.wrap (ba.tdiv bI),IntKind.i64.wrap (bc.tdiv bI),()),()))))
def y6t(n:Nat)(k:Nat)(ba:Int)(bc:Int)(bI:Int)(bM:Int)(bq:Int)(br:Int):Option ((Q4)×Unit) :=
  iter (fun r y=>yDg n (fun ba bc bI bM bq br=>r ((ba,(bc,(bI,(bM,())))),(((bq,(br,())),()),()))) y.1.1 y.1.2.1 y.1.2.2.1 y.1.2.2.2.1 y.2.1.1.1 y.2.1.1.2.1) k ((ba,(bc,(bI,(bM,())))),(((bq,(br,())),()),()))
def yAI(n:Nat)(j0:Int)(j1:Int):Option ((Q4)×Unit) :=
  (y6t n n (j0) (j1) (if IntKind.i64.wrap ((0:Int) - j0) > j0 then IntKind.i64.wrap ((0:Int) - j0)else j0) (j1) ((0:Int)) ((0:Int)))
def yLK(n:Nat)(num:Int)(den:Int):Option ((Q4)×Unit) :=
  (bif decide (den < 0)then (yAI n (IntKind.i64.wrap ((0:Int) - num)) (IntKind.i64.wrap ((0:Int) - den)))else (yAI n (num) (den)))
theorem yTF(n:Nat)(x:yPW.den):runF yXg (yM4 n) Tryz.f142 yPW yT9 x=yLK n x.1 x.2.1:=by kernel_rfl
def yHD(ba:Int)(bc:Int)(bq:Int)(br:Int)(bI:Int)(bM:Int):Option (((Q4)×Unit)⊕(Int×Int)) :=
  (bif bM != 0 then (bif bM==0 then none else (some (Sum.inr ((bM),(bI.tmod bM)))))else (bif bI==0 then none else (bif bI==0 then none else (some (Sum.inl (((IntKind.i64.wrap (ba.tdiv bI),IntKind.i64.wrap (bc.tdiv bI),()),())))))))
theorem yD0(n:Nat)(hn:big≤n)(ba:Int)(bc:Int)(bq:Int)(br:Int)(bI:Int)(bM:Int):LeF some (y4N (fun aa=>yHD ba bc bq br aa.1 aa.2) wMax (bI,bM)) (y6t n n ba bc bI bM bq br):=by
  refine y71 (f:=some) (W:=fun aG aa=>y6t n aG ba bc aa.1 aa.2 bq br) (body:=(fun aa=>yHD ba bc bq br aa.1 aa.2)) (fun aG aa=>?_) wMax n (bI,bM) (by unfold big at hn;unfold wMax;omega)
  show LeF _ _ (yDg n (y6t n aG) ba bc aa.1 aa.2 bq br)
  exact (y8 (y8 y0C (yB rfl)) (y8 y0C (y8 y0C (yB rfl))))
def yID(j0:Int)(j1:Int):Option ((Q4)×Unit) :=
  (y4N (fun aa=>yHD (j0) (j1) ((0:Int)) ((0:Int)) aa.1 aa.2) wMax ((if IntKind.i64.wrap ((0:Int) - j0) > j0 then IntKind.i64.wrap ((0:Int) - j0)else j0),(j1)))
theorem y2R(n:Nat)(hn:big≤n)(j0:Int)(j1:Int):LeF some (yID j0 j1) (yAI n j0 j1) :=
  (by apply yD0 n hn)
def yEy(num:Int)(den:Int):Option ((Q4)×Unit) :=
  (bif decide (den < 0)then (yID (IntKind.i64.wrap ((0:Int) - num)) (IntKind.i64.wrap ((0:Int) - den)))else (yID (num) (den)))
theorem yR2(num:Int)(den:Int)(y:(Q4)×Unit)(h:yEy num den=some y):∃ n,yLK n num den=some y :=
  ⟨big,LeF.top (show LeF some (yEy num den) (yLK big num den)from (fun (n:Nat) (hn:big≤n)=>show LeF some (yEy num den) (yLK n num den)from (y8 (by apply y2R n hn) (by apply y2R n hn))) big (Nat.le_refl _)) h⟩
def z09_e:Entry:={ f:=142,args:=yPW,ress:=yT9,m:=fun x=>yEy x.1 x.2.1 }
theorem yWa:FnOK Tryz.prog z09_e:=yJ (g:=yXg) (fn:=Tryz.f142) yA yI eNil (by kernel_rfl) (by kernel_rfl) (by kernel_rfl) (fun x y h=>let ⟨n,hn⟩:=yR2 x.1 x.2.1 y h;⟨yM4 n,iNil,(yTF n x).trans hn⟩)
abbrev yPN:Ty:=.pair t3 .unit
abbrev yXb:Ty:=.pair t3 .unit
def yVe:G:={ T:=T,E:=[],muts:=[],fz:=[] }
def yYn:List (List Nat):=[[0,3,4]]
def yMO(n:Nat):Ann:={ keep:=yYn,fuel:=n,inl:=[],deep:=0 }
def yJj(n:Nat)(r0:Int→Int→Int→Option (Int×Unit))(bF:Int)(cj:Int)(cJ:Int):Option (Int×Unit) :=
  (bif decide (cJ < bF)then r0 bF (IntKind.i64.wrap ((2:Int) * cj)) (IntKind.i64.wrap (cJ+1))else some (cj,()))
def yL7(n:Nat)(k:Nat)(bF:Int)(cj:Int)(cJ:Int):Option (Int×Unit) :=
  iter (fun r y=>yJj n (fun bF cj cJ=>r ((bF,(cj,(cJ,()))),((),()))) y.1.1 y.1.2.1 y.1.2.2.1) k ((bF,(cj,(cJ,()))),((),()))
def yOc(n:Nat)(n1:Int):Option (Int×Unit) :=
  (yL7 n n (n1) ((1:Int)) ((0:Int)))
theorem yWP(n:Nat)(x:yPN.den):runF yVe (yMO n) Tryz.f143 yPN yXb x=yOc n x.1:=by kernel_rfl
def ySL(n1:Int):Option (Int×Unit):=yOc 1000 n1
theorem yNu(n1:Int)(y:Int×Unit)(h:ySL n1=some y):∃ n,yOc n n1=some y:=⟨1000,h⟩
def z0U_e:Entry:={ f:=143,args:=yPN,ress:=yXb,m:=fun x=>ySL x.1 }
theorem yWr:FnOK Tryz.prog z0U_e:=yJ (g:=yVe) (fn:=Tryz.f143) yA yI eNil (by kernel_rfl) (by kernel_rfl) (by kernel_rfl) (fun x y h=>let ⟨n,hn⟩:=yNu x.1 y h;⟨yMO n,iNil,(yWP n x).trans hn⟩)
def il124:Inl:={ f:=124,fn:=Tryz.f124,keep:=[],muts:=[],fz:=[] }
theorem y4w:y5S Tryz.prog il124:=⟨by kernel_rfl,by kernel_rfl,fun e0 h=>by cases (show (none:Option LibK)=some e0 from h)⟩
def il195:Inl:={ f:=195,fn:=Tryz.f195,keep:=[[0,1,3,9,10,11],[0,1,3,4,5,9,10,11]],muts:=[],fz:=[] }
theorem y5A:y5S Tryz.prog il195:=⟨by kernel_rfl,by kernel_rfl,fun e0 h=>by cases (show (none:Option LibK)=some e0 from h)⟩
abbrev yO4:Ty:=.pair t60 .unit
abbrev yXC:Ty:=.pair t41 .unit
def yWK:G:={ T:=T,E:=[],muts:=[3],fz:=[] }
def yZo:List (List Nat):=[]
def yMR(n:Nat):Ann:={ keep:=yZo,fuel:=n,inl:=[il124,il195],deep:=3 }
def yBj(n:Nat)(r0:Q1→List (Q4)→List Nat→Int→Int→Q1→Q1→Q1→Q1→List Int→Q1→Q1→Q1→Q1→Option (List Int×Unit))(j8:Q1)(j9:List (Q4))(j10:Int)(j11:Nat)(j12:List Nat)(j13:Int)(j14:Int)(j15:Q1)(j16:Q1)(j17:Q1)(j18:Q1)(j19:List Int)(j20:Q1)(j21:Q1)(j22:Q1)(j23:Q1):Option (List Int×Unit) :=
  (bif decide ((↑j9.length:Int) > 0)then (Option.bind (idx j9 (0:Int)) fun v24=>(bif decide (v24.1≤j10)then r0 j8 j9 j12 j13 (IntKind.i64.wrap (j14+1)) j15 j16 j17 j18 j19 j20 j21 j22 j23 else (Option.bind (y0d Go.FloatKind.f32 (y0g Go.BinOp.mul Go.FloatKind.f32 j11 (nat_lit 1098907648)) IntKind.i64) fun v29=>(bif decide (j19.length+(1:Nat)≤memMax)then r0 j8 j9 j12 j13 (IntKind.i64.wrap (j14+1)) j15 j16 j17 j18 (j19++[IntKind.i64.wrap (j8.2.1+j10)]) j20 j21 j22 j23 else none))))else (Option.bind (y0d Go.FloatKind.f32 (y0g Go.BinOp.mul Go.FloatKind.f32 j11 (nat_lit 1098907648)) IntKind.i64) fun v30=>(bif decide (j19.length+(1:Nat)≤memMax)then r0 j8 j9 j12 j13 (IntKind.i64.wrap (j14+1)) j15 j16 j17 j18 (j19++[IntKind.i64.wrap (j8.2.1+j10)]) j20 j21 j22 j23 else none)))
def yK1(n:Nat)(r0:Q1→List (Q4)→List Nat→Int→Int→Q1→Q1→Q1→Q1→List Int→Q1→Q1→Q1→Q1→Option (List Int×Unit))(r2:Q1→List (Q4)→Int→Nat→List Nat→Int→Int→Q1→Q1→Q1→Q1→List Int→Q1→Q1→Q1→Q1→Option (List Int×Unit))(bw:Q1)(aq:List (Q4))(bp:Int)(bx:Nat)(aP:List Nat)(aT:Int)(aU:Int)(aH:Q1)(aI:Q1)(aY:Q1)(bz:Q1)(cD:List Int)(bA:Q1)(bB:Q1)(bU:Q1)(bV:Q1):Option (List Int×Unit) :=
  (bif decide ((↑aq.length:Int) > 0)then (Option.bind (idx aq (0:Int)) fun v3=>(bif decide (v3.2.1≤bp)then (bif decide ((0:Int)≤1) && decide ((1:Int)≤(↑aq.length:Int))then r2 bw (List.drop (Int.toNat (1:Int)) aq) bp bx aP aT aU aH aI aY bz cD bA bB bU bV else none)else (yBj n r0 (bw) (aq) (bp) (bx) (aP) (aT) (aU) (aH) (aI) (aY) (bz) (cD) (bA) (bB) (bU) (bV))))else (yBj n r0 (bw) (aq) (bp) (bx) (aP) (aT) (aU) (aH) (aI) (aY) (bz) (cD) (bA) (bB) (bU) (bV)))
def yJX(n:Nat)(r0:Q1→List (Q4)→List Nat→Int→Int→Q1→Q1→Q1→Q1→List Int→Q1→Q1→Q1→Q1→Option (List Int×Unit))(k:Nat)(bw:Q1)(aq:List (Q4))(bp:Int)(bx:Nat)(aP:List Nat)(aT:Int)(aU:Int)(aH:Q1)(aI:Q1)(aY:Q1)(bz:Q1)(cD:List Int)(bA:Q1)(bB:Q1)(bU:Q1)(bV:Q1):Option (List Int×Unit) :=
  iter (fun r y=>yK1 n r0 (fun bw aq bp bx aP aT aU aH aI aY bz cD bA bB bU bV=>r ((bw,(aq,(bp,(bx,(aP,(aT,(aU,()))))))),(((aH,(aI,(aY,((bz,()),())))),((),(cD,()))),(bA,(bB,(bU,((bV,()),()))))))) y.1.1 y.1.2.1 y.1.2.2.1 y.1.2.2.2.1 y.1.2.2.2.2.1 y.1.2.2.2.2.2.1 y.1.2.2.2.2.2.2.1 y.2.1.1.1 y.2.1.1.2.1 y.2.1.1.2.2.1 y.2.1.1.2.2.2.1.1 y.2.1.2.2.1 y.2.2.1 y.2.2.2.1 y.2.2.2.2.1 y.2.2.2.2.2.1.1) k ((bw,(aq,(bp,(bx,(aP,(aT,(aU,()))))))),(((aH,(aI,(aY,((bz,()),())))),((),(cD,()))),(bA,(bB,(bU,((bV,()),()))))))
def yJy(n:Nat)(r0:Q1→List (Q4)→List Nat→Int→Int→Q1→Q1→Q1→Q1→List Int→Q1→Q1→Q1→Q1→Option (List Int×Unit))(au:Q1)(aL:List (Q4))(al:List Nat)(af:Int)(av:Int)(aV:Q1)(aW:Q1)(bC:Q1)(bN:Q1)(cK:List Int)(bO:Q1)(bP:Q1)(cm:Q1)(cn:Q1):Option (List Int×Unit) :=
  (bif decide (av < af)then (Option.bind (idx al av) fun v1=>(yJX n r0 n (au) (aL) (av) (v1) (al) (af) (av) (aV) (aW) (bC) (bN) (cK) (bO) (bP) (cm) (cn)))else some (cK,()))
def yKH(n:Nat)(k:Nat)(au:Q1)(aL:List (Q4))(al:List Nat)(af:Int)(av:Int)(aV:Q1)(aW:Q1)(bC:Q1)(bN:Q1)(cK:List Int)(bO:Q1)(bP:Q1)(cm:Q1)(cn:Q1):Option (List Int×Unit) :=
  iter (fun r y=>yJy n (fun au aL al af av aV aW bC bN cK bO bP cm cn=>r ((au,(aL,(al,(af,(av,()))))),(((aV,(aW,(bC,((bN,()),())))),((),(cK,()))),(bO,(bP,(cm,((cn,()),()))))))) y.1.1 y.1.2.1 y.1.2.2.1 y.1.2.2.2.1 y.1.2.2.2.2.1 y.2.1.1.1 y.2.1.1.2.1 y.2.1.1.2.2.1 y.2.1.1.2.2.2.1.1 y.2.1.2.2.1 y.2.2.1 y.2.2.2.1 y.2.2.2.2.1 y.2.2.2.2.2.1.1) k ((au,(aL,(al,(af,(av,()))))),(((aV,(aW,(bC,((bN,()),())))),((),(cK,()))),(bO,(bP,(cm,((cn,()),()))))))
def yPg(n:Nat)(r1:Q1):Option (List Int×Unit) :=
  (yKH n n (r1) (r1.2.2.2.1) (r1.2.2.1) ((↑r1.2.2.1.length:Int)) ((0:Int)) (r1) (r1) (r1) (r1) ([]) (r1) (r1) (r1) (r1))
theorem yXx(n:Nat)(x:yO4.den):runF yWK (yMR n) Tryz.f147 yO4 yXC x=yPg n x.1:=by kernel_rfl
def yKp(r1:Q1):Option (List Int×Unit):=yPg 1000 r1
theorem yRO(r1:Q1)(y:List Int×Unit)(h:yKp r1=some y):∃ n,yPg n r1=some y:=⟨1000,h⟩
def z13_e:Entry:={ f:=147,args:=yO4,ress:=yXC,m:=fun x=>yKp x.1 }
theorem yMe:FnOK Tryz.prog z13_e:=yJ (g:=yWK) (fn:=Tryz.f147) yA yI eNil (by kernel_rfl) (by kernel_rfl) (by kernel_rfl) (fun x y h=>let ⟨n,hn⟩:=yRO x.1 y h;⟨yMR n,(y4M y4w (y4M y5A iNil)),(yXx n x).trans hn⟩)
abbrev zR_a:Ty:=.pair t55 (.pair t3 .unit)
abbrev zR_r:Ty:=.pair t57 .unit
def zR_g:G:={ T:=T,E:=[],muts:=[],fz:=[] }
def zR_k:List (List Nat):=[]
def yT2(n:Nat):Ann:={ keep:=zR_k,fuel:=n,inl:=[],deep:=0 }
def zR_m(n:Nat)(c:Q3)(tick:Int):Option ((Q4)×Unit) :=
  (bif c.2.1==0 then none else (Option.bind (idx [((1:Int),(0:Int),()),((0:Int),(1:Int),()),((-1:Int),(0:Int),()),((0:Int),(-1:Int),())] ((IntKind.i64.wrap (c.2.2.1 * IntKind.i64.wrap (tick.tdiv c.2.1))).tmod (4:Int))) fun v0=>some ((v0.1,v0.2.1,()),())))
theorem yaE(n:Nat)(x:zR_a.den):runF zR_g (yT2 n) Tryz.f161 zR_a zR_r x=zR_m n x.1 x.2.1:=by kernel_rfl
def zR_M(c:Q3)(tick:Int):Option ((Q4)×Unit):=zR_m 0 c tick
theorem yTa(c:Q3)(tick:Int)(y:(Q4)×Unit)(h:zR_M c tick=some y):∃ n,zR_m n c tick=some y:=⟨0,h⟩
def zR_e:Entry:={ f:=161,args:=zR_a,ress:=zR_r,m:=fun x=>zR_M x.1 x.2.1 }
theorem yRX:FnOK Tryz.prog zR_e:=yJ (g:=zR_g) (fn:=Tryz.f161) yA yI eNil (by kernel_rfl) (by kernel_rfl) (by kernel_rfl) (fun x y h=>let ⟨n,hn⟩:=yTa x.1 x.2.1 y h;⟨yT2 n,iNil,(yaE n x).trans hn⟩)
abbrev zA_a:Ty:=.pair t31 (.pair t215 .unit)
abbrev zA_r:Ty:=.pair t23 .unit
def zA_g:G:={ T:=T,E:=[],muts:=[5],fz:=[] }
def zA_k:List (List Nat):=[[1,5,8,9,10]]
def yUb(n:Nat):Ann:={ keep:=zA_k,fuel:=n,inl:=[],deep:=0 }
def yOw(n:Nat)(r0:((Q3)×Unit→Option ((Q4)×Unit))→List (Q3)→Int→Int→List (Q4)→Option (List (Q4)×Unit))(ae:(Q3)×Unit→Option ((Q4)×Unit))(ac:List (Q3))(al:Int)(af:Int)(ai:List (Q4)):Option (List (Q4)×Unit) :=
  (bif decide (af < al)then (Option.bind (idx ac af) fun v1=>(Option.bind (ae ((v1.1,v1.2.1,v1.2.2.1,()),())) fun v2=>(bif decide (ai.length+(1:Nat)≤memMax)then r0 ae ac al (IntKind.i64.wrap (af+1)) (ai++[v2.1])else none)))else some (ai,()))
def yNP(n:Nat)(k:Nat)(ae:(Q3)×Unit→Option ((Q4)×Unit))(ac:List (Q3))(al:Int)(af:Int)(ai:List (Q4)):Option (List (Q4)×Unit) :=
  iter (fun r y=>yOw n (fun ae ac al af ai=>r ((ae,(ac,(al,(af,())))),((ai,()),()))) y.1.1 y.1.2.1 y.1.2.2.1 y.1.2.2.2.1 y.2.1.1) k ((ae,(ac,(al,(af,())))),((ai,()),()))
def zA_m(n:Nat)(l:List (Q3))(of:(Q3)×Unit→Option ((Q4)×Unit)):Option (List (Q4)×Unit) :=
  (yNP n n (of) (l) ((↑l.length:Int)) ((0:Int)) ([]))
theorem yaX(n:Nat)(x:zA_a.den):runF zA_g (yUb n) Tryz.f162 zA_a zA_r x=zA_m n x.1 x.2.1:=by kernel_rfl
def zA_M(l:List (Q3))(of:(Q3)×Unit→Option ((Q4)×Unit)):Option (List (Q4)×Unit):=zA_m 1000 l of
theorem yUH(l:List (Q3))(of:(Q3)×Unit→Option ((Q4)×Unit))(y:List (Q4)×Unit)(h:zA_M l of=some y):∃ n,zA_m n l of=some y:=⟨1000,h⟩
def zA_e:Entry:={ f:=162,args:=zA_a,ress:=zA_r,m:=fun x=>zA_M x.1 x.2.1 }
theorem yOK:FnOK Tryz.prog zA_e:=yJ (g:=zA_g) (fn:=Tryz.f162) yA yI eNil (by kernel_rfl) (by kernel_rfl) (by kernel_rfl) (fun x y h=>let ⟨n,hn⟩:=yUH x.1 x.2.1 y h;⟨yUb n,iNil,(yaX n x).trans hn⟩)
abbrev zd_a:Ty:=.pair t183 (.pair t3 (.pair t23 .unit))
abbrev zd_r:Ty:=.pair t183 .unit
def zd_g:G:={ T:=T,E:=[],muts:=[],fz:=[11] }
def zd_k:List (List Nat):=[[0,1,2,7,13,14]]
def yRm(n:Nat):Ann:={ keep:=zd_k,fuel:=n,inl:=[],deep:=0 }
def yOT(n:Nat)(r0:List (List (Q4))→Int→List (Q4)→Int→Int→List (List (Q4))→Option (List (List (Q4))×Unit))(bh:List (List (Q4)))(b9:Int)(bv:List (Q4))(aR:Int)(aB:Int)(ai:List (List (Q4))):Option (List (List (Q4))×Unit) :=
  (bif decide (aB < aR)then (Option.bind (idx bh aB) fun v1=>(bif Bool.true && decide ((0:Int)≤(↑v1.length:Int)) && decide ((↑v1.length:Int)≤(↑memMax:Int)) && (↑v1.length:Int)==(↑v1.length:Int)then (Option.bind (idx ai aB) fun v2=>(Option.bind (ai[aB.toNat]?) fun v3=>(Option.bind (idx (ai.set aB.toNat (List.replicate ((↑v1.length:Int).toNat) (((0:Int),(0:Int),())):List (Q4))) aB) fun v4=>(Option.bind ((ai.set aB.toNat (List.replicate ((↑v1.length:Int).toNat) (((0:Int),(0:Int),())):List (Q4)))[aB.toNat]?) fun v5=>(Option.bind (idx bh aB) fun v6=>(Option.bind ((ai.set aB.toNat (List.replicate ((↑v1.length:Int).toNat) (((0:Int),(0:Int),())):List (Q4)))[aB.toNat]?) fun v7=>(bif decide (v6.length=v7.length)then (Option.bind (idx ((ai.set aB.toNat (List.replicate ((↑v1.length:Int).toNat) (((0:Int),(0:Int),())):List (Q4))).set aB.toNat v6) aB) fun v8=>(Option.bind (((ai.set aB.toNat (List.replicate ((↑v1.length:Int).toNat) (((0:Int),(0:Int),())):List (Q4))).set aB.toNat v6)[aB.toNat]?) fun v9=>(Option.bind (idx bv aB) fun v10=>(Option.bind (((ai.set aB.toNat (List.replicate ((↑v1.length:Int).toNat) (((0:Int),(0:Int),())):List (Q4))).set aB.toNat v6)[aB.toNat]?) fun v11=>(Option.bind (idx v11 b9) fun v12=>(Option.bind (((ai.set aB.toNat (List.replicate ((↑v1.length:Int).toNat) (((0:Int),(0:Int),())):List (Q4))).set aB.toNat v6)[aB.toNat]?) fun v13=>(Option.bind (v13[b9.toNat]?) fun v14=>r0 bh b9 bv aR (IntKind.i64.wrap (aB+1)) (((ai.set aB.toNat (List.replicate ((↑v1.length:Int).toNat) (((0:Int),(0:Int),())):List (Q4))).set aB.toNat v6).set aB.toNat (v13.set b9.toNat v10)))))))))else none)))))))else none))else some (ai,()))
def yRB(n:Nat)(k:Nat)(bh:List (List (Q4)))(b9:Int)(bv:List (Q4))(aR:Int)(aB:Int)(ai:List (List (Q4))):Option (List (List (Q4))×Unit) :=
  iter (fun r y=>yOT n (fun bh b9 bv aR aB ai=>r ((bh,(b9,(bv,(aR,(aB,()))))),((ai,()),()))) y.1.1 y.1.2.1 y.1.2.2.1 y.1.2.2.2.1 y.1.2.2.2.2.1 y.2.1.1) k ((bh,(b9,(bv,(aR,(aB,()))))),((ai,()),()))
def zd_m(n:Nat)(m:List (List (Q4)))(column:Int)(values:List (Q4)):Option (List (List (Q4))×Unit) :=
  (bif Bool.true && decide ((0:Int)≤(↑m.length:Int)) && decide ((↑m.length:Int)≤(↑memMax:Int)) && (↑m.length:Int)==(↑m.length:Int)then (yRB n n (m) (column) (values) ((↑m.length:Int)) ((0:Int)) ((List.replicate ((↑m.length:Int).toNat) ([]):List (List (Q4)))))else none)
theorem yZQ(n:Nat)(x:zd_a.den):runF zd_g (yRm n) Tryz.f164 zd_a zd_r x=zd_m n x.1 x.2.1 x.2.2.1:=by kernel_rfl
def zd_M(m:List (List (Q4)))(column:Int)(values:List (Q4)):Option (List (List (Q4))×Unit):=zd_m 1000 m column values
theorem yV4(m:List (List (Q4)))(column:Int)(values:List (Q4))(y:List (List (Q4))×Unit)(h:zd_M m column values=some y):∃ n,zd_m n m column values=some y:=⟨1000,h⟩
def zd_e:Entry:={ f:=164,args:=zd_a,ress:=zd_r,m:=fun x=>zd_M x.1 x.2.1 x.2.2.1 }
theorem yUh:FnOK Tryz.prog zd_e:=yJ (g:=zd_g) (fn:=Tryz.f164) yA yI eNil (by kernel_rfl) (by kernel_rfl) (by kernel_rfl) (fun x y h=>let ⟨n,hn⟩:=yV4 x.1 x.2.1 x.2.2.1 y h;⟨yRm n,iNil,(yZQ n x).trans hn⟩)
abbrev zN_a:Ty:=.pair t41 (.pair t233 .unit)
abbrev zN_r:Ty:=.pair t161 .unit
def zN_g:G:={ T:=T,E:=[],muts:=[5],fz:=[] }
def zN_k:List (List Nat):=[[1,5,8,9,10]]
def yVZ(n:Nat):Ann:={ keep:=zN_k,fuel:=n,inl:=[],deep:=0 }
def yQ2(n:Nat)(r0:(Int×Unit→Option (List UInt8×Unit))→List Int→Int→Int→List (List UInt8)→Option (List (List UInt8)×Unit))(ae:Int×Unit→Option (List UInt8×Unit))(ac:List Int)(al:Int)(af:Int)(ai:List (List UInt8)):Option (List (List UInt8)×Unit) :=
  (bif decide (af < al)then (Option.bind (idx ac af) fun v1=>(Option.bind (ae (v1,())) fun v2=>(bif decide (ai.length+(1:Nat)≤memMax)then r0 ae ac al (IntKind.i64.wrap (af+1)) (ai++[v2.1])else none)))else some (ai,()))
def yQR(n:Nat)(k:Nat)(ae:Int×Unit→Option (List UInt8×Unit))(ac:List Int)(al:Int)(af:Int)(ai:List (List UInt8)):Option (List (List UInt8)×Unit) :=
  iter (fun r y=>yQ2 n (fun ae ac al af ai=>r ((ae,(ac,(al,(af,())))),((ai,()),()))) y.1.1 y.1.2.1 y.1.2.2.1 y.1.2.2.2.1 y.2.1.1) k ((ae,(ac,(al,(af,())))),((ai,()),()))
def zN_m(n:Nat)(l:List Int)(of:Int×Unit→Option (List UInt8×Unit)):Option (List (List UInt8)×Unit) :=
  (yQR n n (of) (l) ((↑l.length:Int)) ((0:Int)) ([]))
theorem yZN(n:Nat)(x:zN_a.den):runF zN_g (yVZ n) Tryz.f176 zN_a zN_r x=zN_m n x.1 x.2.1:=by kernel_rfl
def zN_M(l:List Int)(of:Int×Unit→Option (List UInt8×Unit)):Option (List (List UInt8)×Unit):=zN_m 1000 l of
theorem yWn(l:List Int)(of:Int×Unit→Option (List UInt8×Unit))(y:List (List UInt8)×Unit)(h:zN_M l of=some y):∃ n,zN_m n l of=some y:=⟨1000,h⟩
def zN_e:Entry:={ f:=176,args:=zN_a,ress:=zN_r,m:=fun x=>zN_M x.1 x.2.1 }
theorem yaM:FnOK Tryz.prog zN_e:=yJ (g:=zN_g) (fn:=Tryz.f176) yA yI eNil (by kernel_rfl) (by kernel_rfl) (by kernel_rfl) (fun x y h=>let ⟨n,hn⟩:=yWn x.1 x.2.1 y h;⟨yVZ n,iNil,(yZN n x).trans hn⟩)
abbrev yQQ:Ty:=.pair t3 (.pair t3 .unit)
abbrev yTK:Ty:=.pair t3 .unit
def yXw:G:={ T:=T,E:=[],muts:=[],fz:=[] }
def yaQ:List (List Nat):=[[0,1]]
def yMh(n:Nat):Ann:={ keep:=yaQ,fuel:=n,inl:=[],deep:=0 }
def yDk(n:Nat)(r0:Int→Int→Option (Int×Unit))(am:Int)(ar:Int):Option (Int×Unit) :=
  (bif ar != 0 then (bif ar==0 then none else r0 ar (am.tmod ar))else some (am,()))
def y6g(n:Nat)(k:Nat)(am:Int)(ar:Int):Option (Int×Unit) :=
  iter (fun r y=>yDk n (fun am ar=>r ((am,(ar,())),((),()))) y.1.1 y.1.2.1) k ((am,(ar,())),((),()))
def yKE(n:Nat)(a:Int)(b:Int):Option (Int×Unit) :=
  (y6g n n (a) (b))
theorem yWQ(n:Nat)(x:yQQ.den):runF yXw (yMh n) Tryz.f185 yQQ yTK x=yKE n x.1 x.2.1:=by kernel_rfl
def yCA(am:Int)(ar:Int):Option ((Int×Unit)⊕(Int×Int)) :=
  (bif ar != 0 then (bif ar==0 then none else (some (Sum.inr ((ar),(am.tmod ar)))))else (some (Sum.inl ((am,())))))
theorem yDU(n:Nat)(hn:big≤n)(am:Int)(ar:Int):LeF some (y4N (fun aa=>yCA aa.1 aa.2) wMax (am,ar)) (y6g n n am ar):=by
  refine y71 (f:=some) (W:=fun aG aa=>y6g n aG aa.1 aa.2) (body:=(fun aa=>yCA aa.1 aa.2)) (fun aG aa=>?_) wMax n (am,ar) (by unfold big at hn;unfold wMax;omega)
  show LeF _ _ (yDk n (y6g n aG) aa.1 aa.2)
  exact (y8 (y8 y0C (yB rfl)) (yB rfl))
def y8W(a:Int)(b:Int):Option (Int×Unit) :=
  (y4N (fun aa=>yCA aa.1 aa.2) wMax ((a),(b)))
theorem yO5(a:Int)(b:Int)(y:Int×Unit)(h:y8W a b=some y):∃ n,yKE n a b=some y :=
  ⟨big,LeF.top (show LeF some (y8W a b) (yKE big a b)from (fun (n:Nat) (hn:big≤n)=>show LeF some (y8W a b) (yKE n a b)from (by apply yDU n hn)) big (Nat.le_refl _)) h⟩
def z00_e:Entry:={ f:=185,args:=yQQ,ress:=yTK,m:=fun x=>y8W x.1 x.2.1 }
theorem yXV:FnOK Tryz.prog z00_e:=yJ (g:=yXw) (fn:=Tryz.f185) yA yI eNil (by kernel_rfl) (by kernel_rfl) (by kernel_rfl) (fun x y h=>let ⟨n,hn⟩:=yO5 x.1 x.2.1 y h;⟨yMh n,iNil,(yWQ n x).trans hn⟩)
abbrev yPT:Ty:=.pair t9 .unit
abbrev yUN:Ty:=.pair t4 .unit
def yXp:G:={ T:=T,E:=[],muts:=[],fz:=[] }
def yaV:List (List Nat):=[[0,3]]
def yM6(n:Nat):Ann:={ keep:=yaV,fuel:=n,inl:=[],deep:=0 }
def y3d(n:Nat)(r2:List UInt8→Int→Option (Bool×Unit))(aQ:List UInt8)(bi:Int)(v3:UInt8):Option (Bool×Unit) :=
  (bif bi==0 then some (Bool.false,())else (bif (↑v3.toNat:Int) != 95 then (bif decide ((↑v3.toNat:Int) < 48)then some (Bool.false,())else (bif decide ((↑v3.toNat:Int) > 57)then some (Bool.false,())else r2 aQ (IntKind.i64.wrap (bi+1))))else r2 aQ (IntKind.i64.wrap (bi+1))))
def yDn(n:Nat)(r2:List UInt8→Int→Option (Bool×Unit))(aQ:List UInt8)(bi:Int):Option (Bool×Unit) :=
  (bif decide (bi < (↑aQ.length:Int))then (Option.bind (idx aQ bi) fun v3=>(bif decide ((↑v3.toNat:Int) ≥ 97)then (bif decide ((↑v3.toNat:Int)≤122)then r2 aQ (IntKind.i64.wrap (bi+1))else (bif decide ((↑v3.toNat:Int) ≥ 65)then (bif decide ((↑v3.toNat:Int)≤90)then r2 aQ (IntKind.i64.wrap (bi+1))else (y3d n r2 aQ bi v3))else (y3d n r2 aQ bi v3)))else (bif decide ((↑v3.toNat:Int) ≥ 65)then (bif decide ((↑v3.toNat:Int)≤90)then r2 aQ (IntKind.i64.wrap (bi+1))else (y3d n r2 aQ bi v3))else (y3d n r2 aQ bi v3))))else some (Bool.true,()))
def y6Y(n:Nat)(k:Nat)(aQ:List UInt8)(bi:Int):Option (Bool×Unit) :=
  iter (fun r y=>yDn n (fun aQ bi=>r ((aQ,(bi,())),((),()))) y.1.1 y.1.2.1) k ((aQ,(bi,())),((),()))
def yJc(n:Nat)(s:List UInt8):Option (Bool×Unit) :=
  (bif (↑s.length:Int)==0 then some (Bool.false,())else (bif decide ((↑s.length:Int) > 24)then some (Bool.false,())else (y6Y n n (s) ((0:Int)))))
theorem yTj(n:Nat)(x:yPT.den):runF yXp (yM6 n) Tryz.f187 yPT yUN x=yJc n x.1:=by kernel_rfl
def y5r(aQ:List UInt8)(bi:Int)(v3:UInt8):Option ((Bool×Unit)⊕Unit) :=
  (bif bi==0 then (some (Sum.inl ((Bool.false,()))))else (bif (↑v3.toNat:Int) != 95 then (bif decide ((↑v3.toNat:Int) < 48)then (some (Sum.inl ((Bool.false,()))))else (bif decide ((↑v3.toNat:Int) > 57)then (some (Sum.inl ((Bool.false,()))))else (some (Sum.inr ()))))else (some (Sum.inr ()))))
theorem y0W(n:Nat)(hn:big≤n)(r2:List UInt8→Int→Option (Bool×Unit))(aQ:List UInt8)(bi:Int)(v3:UInt8):LeF (elim some fun (aa:Unit)=>r2 aQ (IntKind.i64.wrap (bi+1))) (y5r aQ bi v3) (y3d n r2 aQ bi v3) :=
  (y8 (yB rfl) (y8 (y8 (yB rfl) (y8 (yB rfl) (yB rfl))) (yB rfl)))
def y9A(aQ:List UInt8)(bi:Int)(v3:UInt8):Option ((Bool×Unit)⊕Unit) :=
  (bif decide ((↑v3.toNat:Int) ≥ 97)then (bif decide ((↑v3.toNat:Int)≤122)then (some (Sum.inr ()))else (bif decide ((↑v3.toNat:Int) ≥ 65)then (bif decide ((↑v3.toNat:Int)≤90)then (some (Sum.inr ()))else (y5r aQ bi v3))else (y5r aQ bi v3)))else (bif decide ((↑v3.toNat:Int) ≥ 65)then (bif decide ((↑v3.toNat:Int)≤90)then (some (Sum.inr ()))else (y5r aQ bi v3))else (y5r aQ bi v3)))
def yE7(aQ:List UInt8):Option (Bool×Unit) :=
  (some ((Bool.true,())))
theorem yD9(n:Nat)(hn:big≤n)(aQ:List UInt8)(hx:List.length (aQ) < lenMax):LeF some (yQ (fun aj aE aa=>y9A aQ aj aE) (fun aa=>yE7 aQ) 0 (aQ) ()) (y6Y n n aQ 0):=by
  refine yd (f:=some) (W:=fun aG aj aa=>y6Y n aG aQ aj) (body:=(fun aj aE aa=>y9A aQ aj aE)) (fin:=(fun aa=>yE7 aQ)) (fun aG aj aa=>?_) hx () n (by unfold big at hn;unfold lenMax at hx;omega)
  show LeF _ _ (yDn n (y6Y n aG) aQ aj)
  exact y8 (yE fun v3=>(y8 (y8 (yB rfl) (y8 (y8 (yB rfl) (by apply y0W n hn)) (by apply y0W n hn))) (y8 (y8 (yB rfl) (by apply y0W n hn)) (by apply y0W n hn)))) (y0c (yB rfl))
def yD5(s:List UInt8):Option (Bool×Unit) :=
  (bif (↑s.length:Int)==0 then (some ((Bool.false,())))else (bif decide ((↑s.length:Int) > 24)then (some ((Bool.false,())))else (bif decide (List.length (s) < lenMax)then yQ (fun aj aE aa=>y9A (s) aj aE) (fun aa=>yE7 (s)) 0 (s) ()else none)))
theorem yRK(s:List UInt8)(y:Bool×Unit)(h:yD5 s=some y):∃ n,yJc n s=some y :=
  ⟨big,LeF.top (show LeF some (yD5 s) (yJc big s)from (fun (n:Nat) (hn:big≤n)=>show LeF some (yD5 s) (yJc n s)from (y8 (yB rfl) (y8 (yB rfl) (yg fun hx=>by apply yD9 n hn;exact hx)))) big (Nat.le_refl _)) h⟩
def z08_e:Entry:={ f:=187,args:=yPT,ress:=yUN,m:=fun x=>yD5 x.1 }
theorem yXU:FnOK Tryz.prog z08_e:=yJ (g:=yXp) (fn:=Tryz.f187) yA yI eNil (by kernel_rfl) (by kernel_rfl) (by kernel_rfl) (fun x y h=>let ⟨n,hn⟩:=yRK x.1 y h;⟨yM6 n,iNil,(yTj n x).trans hn⟩)
abbrev zx_a:Ty:=.pair t55 .unit
abbrev zx_r:Ty:=.pair t55 .unit
def zx_g:G:={ T:=T,E:=[],muts:=[],fz:=[] }
def zx_k:List (List Nat):=[]
def yVc(n:Nat):Ann:={ keep:=zx_k,fuel:=n,inl:=[],deep:=0 }
def zx_m(n:Nat)(c:Q3):Option ((Q3)×Unit) :=
  some ((c.1,c.2.1,c.2.2.1,()),())
theorem yYy(n:Nat)(x:zx_a.den):runF zx_g (yVc n) Tryz.f189 zx_a zx_r x=zx_m n x.1:=by kernel_rfl
def zx(c:Q3):((Q3)×Unit) :=
  ((c.1,c.2.1,c.2.2.1,()),())
abbrev zx_M (c:Q3):Option ((Q3)×Unit):=some (zx c)
theorem yU4(c:Q3)(y:(Q3)×Unit)(h:zx_M c=some y):∃ n,zx_m n c=some y :=
  ⟨0,by rw[← h];show zx_m 0 c=some (zx c);unfold zx_m zx;first|rfl|(simp only[yG];done)|(simp only[yG];rfl)⟩
def zx_e:Entry:={ f:=189,args:=zx_a,ress:=zx_r,m:=fun x=>zx_M x.1 }
theorem ya5:FnOK Tryz.prog zx_e:=yJ (g:=zx_g) (fn:=Tryz.f189) yA yI eNil (by kernel_rfl) (by kernel_rfl) (by kernel_rfl) (fun x y h=>let ⟨n,hn⟩:=yU4 x.1 y h;⟨yVc n,iNil,(yYy n x).trans hn⟩)
abbrev zy_a:Ty:=.pair t57 (.pair (.ref t3) .unit)
abbrev zy_r:Ty:=.pair t57 .unit
def zy_g:G:={ T:=T,E:=[],muts:=[],fz:=[] }
def zy_k:List (List Nat):=[]
def yRc(n:Nat):Ann:={ keep:=zy_k,fuel:=n,inl:=[],deep:=0 }
def zy_m(n:Nat)(z:Q4)(p1:Int):Option ((Q4)×Unit) :=
  (bif p1==0 then none else (bif p1==0 then none else some ((IntKind.i64.wrap (z.1.tdiv p1),IntKind.i64.wrap (z.2.1.tdiv p1),()),())))
theorem yZY(n:Nat)(x:zy_a.den):runF zy_g (yRc n) Tryz.f190 zy_a zy_r x=zy_m n x.1 x.2.1:=by kernel_rfl
def zy_M(z:Q4)(p1:Int):Option ((Q4)×Unit):=zy_m 0 z p1
theorem yTg(z:Q4)(p1:Int)(y:(Q4)×Unit)(h:zy_M z p1=some y):∃ n,zy_m n z p1=some y:=⟨0,h⟩
def zy_e:Entry:={ f:=190,args:=zy_a,ress:=zy_r,m:=fun x=>zy_M x.1 x.2.1 }
theorem yZx:FnOK Tryz.prog zy_e:=yJ (g:=zy_g) (fn:=Tryz.f190) yA yI eNil (by kernel_rfl) (by kernel_rfl) (by kernel_rfl) (fun x y h=>let ⟨n,hn⟩:=yTg x.1 x.2.1 y h;⟨yRc n,iNil,(yZY n x).trans hn⟩)
abbrev z8_a:Ty:=.pair t31 (.pair t255 .unit)
abbrev z8_r:Ty:=.pair t96 .unit
def z8_g:G:={ T:=T,E:=[],muts:=[5],fz:=[] }
def z8_k:List (List Nat):=[[1,5,8,9,10]]
def yUT(n:Nat):Ann:={ keep:=z8_k,fuel:=n,inl:=[],deep:=0 }
def yOH(n:Nat)(r0:((Q3)×Unit→Option (List (Q4)×Unit))→List (Q3)→Int→Int→List (List (Q4))→Option (List (List (Q4))×Unit))(ae:(Q3)×Unit→Option (List (Q4)×Unit))(ac:List (Q3))(al:Int)(af:Int)(ai:List (List (Q4))):Option (List (List (Q4))×Unit) :=
  (bif decide (af < al)then (Option.bind (idx ac af) fun v1=>(Option.bind (ae ((v1.1,v1.2.1,v1.2.2.1,()),())) fun v2=>(bif decide (ai.length+(1:Nat)≤memMax)then r0 ae ac al (IntKind.i64.wrap (af+1)) (ai++[v2.1])else none)))else some (ai,()))
def yQd(n:Nat)(k:Nat)(ae:(Q3)×Unit→Option (List (Q4)×Unit))(ac:List (Q3))(al:Int)(af:Int)(ai:List (List (Q4))):Option (List (List (Q4))×Unit) :=
  iter (fun r y=>yOH n (fun ae ac al af ai=>r ((ae,(ac,(al,(af,())))),((ai,()),()))) y.1.1 y.1.2.1 y.1.2.2.1 y.1.2.2.2.1 y.2.1.1) k ((ae,(ac,(al,(af,())))),((ai,()),()))
def z8_m(n:Nat)(l:List (Q3))(of:(Q3)×Unit→Option (List (Q4)×Unit)):Option (List (List (Q4))×Unit) :=
  (yQd n n (of) (l) ((↑l.length:Int)) ((0:Int)) ([]))
theorem yZ3(n:Nat)(x:z8_a.den):runF z8_g (yUT n) Tryz.f191 z8_a z8_r x=z8_m n x.1 x.2.1:=by kernel_rfl
def z8_M(l:List (Q3))(of:(Q3)×Unit→Option (List (Q4)×Unit)):Option (List (List (Q4))×Unit):=z8_m 1000 l of
theorem yXR(l:List (Q3))(of:(Q3)×Unit→Option (List (Q4)×Unit))(y:List (List (Q4))×Unit)(h:z8_M l of=some y):∃ n,z8_m n l of=some y:=⟨1000,h⟩
def z8_e:Entry:={ f:=191,args:=z8_a,ress:=z8_r,m:=fun x=>z8_M x.1 x.2.1 }
theorem yaw:FnOK Tryz.prog z8_e:=yJ (g:=z8_g) (fn:=Tryz.f191) yA yI eNil (by kernel_rfl) (by kernel_rfl) (by kernel_rfl) (fun x y h=>let ⟨n,hn⟩:=yXR x.1 x.2.1 y h;⟨yUT n,iNil,(yZ3 n x).trans hn⟩)
abbrev zI_a:Ty:=.pair t35 (.pair t259 .unit)
abbrev zI_r:Ty:=.pair t175 .unit
def zI_g:G:={ T:=T,E:=[],muts:=[5],fz:=[] }
def zI_k:List (List Nat):=[[1,5,8,9,10]]
def yVd(n:Nat):Ann:={ keep:=zI_k,fuel:=n,inl:=[],deep:=0 }
def yRC(n:Nat)(r0:(Nat×Unit→Option (Int×Unit))→List Nat→Int→Int→List Int→Option (List Int×Unit))(ae:Nat×Unit→Option (Int×Unit))(ac:List Nat)(al:Int)(af:Int)(ai:List Int):Option (List Int×Unit) :=
  (bif decide (af < al)then (Option.bind (idx ac af) fun v1=>(Option.bind (ae (v1,())) fun v2=>(bif decide (ai.length+(1:Nat)≤memMax)then r0 ae ac al (IntKind.i64.wrap (af+1)) (ai++[v2.1])else none)))else some (ai,()))
def yOh(n:Nat)(k:Nat)(ae:Nat×Unit→Option (Int×Unit))(ac:List Nat)(al:Int)(af:Int)(ai:List Int):Option (List Int×Unit) :=
  iter (fun r y=>yRC n (fun ae ac al af ai=>r ((ae,(ac,(al,(af,())))),((ai,()),()))) y.1.1 y.1.2.1 y.1.2.2.1 y.1.2.2.2.1 y.2.1.1) k ((ae,(ac,(al,(af,())))),((ai,()),()))
def zI_m(n:Nat)(l:List Nat)(of:Nat×Unit→Option (Int×Unit)):Option (List Int×Unit) :=
  (yOh n n (of) (l) ((↑l.length:Int)) ((0:Int)) ([]))
theorem yZ0(n:Nat)(x:zI_a.den):runF zI_g (yVd n) Tryz.f196 zI_a zI_r x=zI_m n x.1 x.2.1:=by kernel_rfl
def zI_M(l:List Nat)(of:Nat×Unit→Option (Int×Unit)):Option (List Int×Unit):=zI_m 1000 l of
theorem yV1(l:List Nat)(of:Nat×Unit→Option (Int×Unit))(y:List Int×Unit)(h:zI_M l of=some y):∃ n,zI_m n l of=some y:=⟨1000,h⟩
def zI_e:Entry:={ f:=196,args:=zI_a,ress:=zI_r,m:=fun x=>zI_M x.1 x.2.1 }
theorem yZn:FnOK Tryz.prog zI_e:=yJ (g:=zI_g) (fn:=Tryz.f196) yA yI eNil (by kernel_rfl) (by kernel_rfl) (by kernel_rfl) (fun x y h=>let ⟨n,hn⟩:=yV1 x.1 x.2.1 y h;⟨yVd n,iNil,(yZ0 n x).trans hn⟩)
abbrev yNS:Ty:=.pair t175 .unit
abbrev yWu:Ty:=.pair t28 .unit
def yWf:G:={ T:=T,E:=[],muts:=[],fz:=[] }
def yYm:List (List Nat):=[[5,6,7]]
def yM5(n:Nat):Ann:={ keep:=yYm,fuel:=n,inl:=[],deep:=0 }
def yJk(n:Nat)(r0:List Int→Int→Int→Option (Int×Unit))(bg:List Int)(aD:Int)(ay:Int):Option (Int×Unit) :=
  (bif decide (ay < aD)then (Option.bind (idx bg ay) fun v1=>(bif v1 != 0 then some (v1,())else r0 bg aD (IntKind.i64.wrap (ay+1))))else some ((0:Int),()))
def yKi(n:Nat)(k:Nat)(bg:List Int)(aD:Int)(ay:Int):Option (Int×Unit) :=
  iter (fun r y=>yJk n (fun bg aD ay=>r ((bg,(aD,(ay,()))),((),()))) y.1.1 y.1.2.1 y.1.2.2.1) k ((bg,(aD,(ay,()))),((),()))
def yRQ(n:Nat)(l:List Int):Option (Int×Unit) :=
  (yKi n n (l) ((↑l.length:Int)) ((0:Int)))
theorem yRv(n:Nat)(x:yNS.den):runF yWf (yM5 n) Tryz.f198 yNS yWu x=yRQ n x.1:=by kernel_rfl
def yFp(l:List Int):Option (Int×Unit):=yRQ 1000 l
theorem yPA(l:List Int)(y:Int×Unit)(h:yFp l=some y):∃ n,yRQ n l=some y:=⟨1000,h⟩
def z0M_e:Entry:={ f:=198,args:=yNS,ress:=yWu,m:=fun x=>yFp x.1 }
theorem yLe:FnOK Tryz.prog z0M_e:=yJ (g:=yWf) (fn:=Tryz.f198) yA yI eNil (by kernel_rfl) (by kernel_rfl) (by kernel_rfl) (fun x y h=>let ⟨n,hn⟩:=yPA x.1 y h;⟨yM5 n,iNil,(yRv n x).trans hn⟩)
abbrev yQO:Ty:=.pair t4 (.pair t28 .unit)
abbrev yTn:Ty:=.pair t28 .unit
def yWE:G:={ T:=T,E:=[],muts:=[],fz:=[] }
def ya6:List (List Nat):=[]
def yLv(n:Nat):Ann:={ keep:=ya6,fuel:=n,inl:=[],deep:=0 }
def yJe(n:Nat)(holds:Bool)(e:Int):Option (Int×Unit) :=
  (bif holds then some (e,())else some ((0:Int),()))
theorem yXd(n:Nat)(x:yQO.den):runF yWE (yLv n) Tryz.f199 yQO yTn x=yJe n x.1 x.2.1:=by kernel_rfl
def z0g(holds:Bool)(e:Int):(Int×Unit) :=
  (bif holds then (e,())else ((0:Int),()))
abbrev yVE (holds:Bool) (e:Int):Option (Int×Unit):=some (z0g holds e)
theorem yNL(holds:Bool)(e:Int)(y:Int×Unit)(h:yVE holds e=some y):∃ n,yJe n holds e=some y :=
  ⟨0,by rw[← h];show yJe 0 holds e=some (z0g holds e);unfold yJe z0g;first|rfl|(simp only[yG];done)|(simp only[yG];rfl)⟩
def z0g_e:Entry:={ f:=199,args:=yQO,ress:=yTn,m:=fun x=>yVE x.1 x.2.1 }
theorem yB4:FnOK Tryz.prog z0g_e:=yJ (g:=yWE) (fn:=Tryz.f199) yA yI eNil (by kernel_rfl) (by kernel_rfl) (by kernel_rfl) (fun x y h=>let ⟨n,hn⟩:=yNL x.1 x.2.1 y h;⟨yLv n,iNil,(yXd n x).trans hn⟩)
abbrev yNQ:Ty:=.pair t9 .unit
abbrev yVn:Ty:=.pair t4 .unit
def ySU:G:={ T:=T,E:=[],muts:=[],fz:=[] }
def yYQ:List (List Nat):=[[0,8]]
def yMf(n:Nat):Ann:={ keep:=yYQ,fuel:=n,inl:=[],deep:=0 }
def y53(n:Nat)(r0:List UInt8→List UInt8→Int→Option (Bool×Unit))(aC:List UInt8)(str0__0:List UInt8)(pos0__0:Int)(j2:Bool)(j7:Bool):Option (Bool×Unit) :=
  (bif !j2 then (bif pos0__0==0 then some (Bool.false,())else (bif !j7 then some (Bool.false,())else r0 aC str0__0 (ya str0__0 pos0__0).2))else r0 aC str0__0 (ya str0__0 pos0__0).2)
def y2k(n:Nat)(r0:List UInt8→List UInt8→Int→Option (Bool×Unit))(aC:List UInt8)(str0__0:List UInt8)(pos0__0:Int)(j2:Bool):Option (Bool×Unit) :=
  (bif decide ((ya str0__0 pos0__0).1 ≥ 48)then (bif decide ((ya str0__0 pos0__0).1≤57)then (y53 n r0 aC str0__0 pos0__0 j2 (Bool.true))else (y53 n r0 aC str0__0 pos0__0 j2 ((ya str0__0 pos0__0).1==95)))else (y53 n r0 aC str0__0 pos0__0 j2 ((ya str0__0 pos0__0).1==95)))
def yEs(n:Nat)(r0:List UInt8→List UInt8→Int→Option (Bool×Unit))(aC:List UInt8)(str0__0:List UInt8)(pos0__0:Int):Option (Bool×Unit) :=
  (bif decide (pos0__0 < (↑str0__0.length:Int))then (bif decide ((ya str0__0 pos0__0).1 ≥ 65)then (bif decide ((ya str0__0 pos0__0).1≤90)then (y2k n r0 aC str0__0 pos0__0 (Bool.true))else (bif decide ((ya str0__0 pos0__0).1 ≥ 97)then (y2k n r0 aC str0__0 pos0__0 (decide ((ya str0__0 pos0__0).1≤122)))else (y2k n r0 aC str0__0 pos0__0 (Bool.false))))else (bif decide ((ya str0__0 pos0__0).1 ≥ 97)then (y2k n r0 aC str0__0 pos0__0 (decide ((ya str0__0 pos0__0).1≤122)))else (y2k n r0 aC str0__0 pos0__0 (Bool.false))))else (bif !aC==[]then some (decide ((↑aC.length:Int)≤24),())else some (Bool.false,())))
def y6s(n:Nat)(k:Nat)(aC:List UInt8)(str0__0:List UInt8)(pos0__0:Int):Option (Bool×Unit) :=
  iter (fun r y=>yEs n (fun aC str0__0 pos0__0=>r ((aC,()),(((str0__0,pos0__0),()),()))) y.1.1 y.2.1.1.1 y.2.1.1.2) k ((aC,()),(((str0__0,pos0__0),()),()))
def yL4(n:Nat)(s:List UInt8):Option (Bool×Unit) :=
  (y6s n n (s) (s) ((0:Int)))
theorem yWq(n:Nat)(x:yNQ.den):runF ySU (yMf n) Tryz.f200 yNQ yVn x=yL4 n x.1:=by kernel_rfl
def y85(aC:List UInt8)(str0__0:List UInt8)(pos0__0:Int)(j2:Bool)(j7:Bool):Option ((Bool×Unit)⊕Unit) :=
  (bif !j2 then (bif pos0__0==0 then (some (Sum.inl ((Bool.false,()))))else (bif !j7 then (some (Sum.inl ((Bool.false,()))))else (some (Sum.inr ()))))else (some (Sum.inr ())))
theorem y1D(n:Nat)(hn:big≤n)(r0:List UInt8→List UInt8→Int→Option (Bool×Unit))(aC:List UInt8)(str0__0:List UInt8)(pos0__0:Int)(j2:Bool)(j7:Bool):LeF (elim some fun (aa:Unit)=>r0 aC str0__0 (ya (str0__0) pos0__0).2) (y85 aC str0__0 pos0__0 j2 j7) (y53 n r0 aC str0__0 pos0__0 j2 j7) :=
  (y8 (y8 (yB rfl) (y8 (yB rfl) (yB rfl))) (yB rfl))
def y4b(aC:List UInt8)(str0__0:List UInt8)(pos0__0:Int)(j2:Bool):Option ((Bool×Unit)⊕Unit) :=
  (bif decide ((ya str0__0 pos0__0).1 ≥ 48)then (bif decide ((ya str0__0 pos0__0).1≤57)then (y85 aC str0__0 pos0__0 j2 (Bool.true))else (y85 aC str0__0 pos0__0 j2 ((ya str0__0 pos0__0).1==95)))else (y85 aC str0__0 pos0__0 j2 ((ya str0__0 pos0__0).1==95)))
theorem y0B(n:Nat)(hn:big≤n)(r0:List UInt8→List UInt8→Int→Option (Bool×Unit))(aC:List UInt8)(str0__0:List UInt8)(pos0__0:Int)(j2:Bool):LeF (elim some fun (aa:Unit)=>r0 aC str0__0 (ya (str0__0) pos0__0).2) (y4b aC str0__0 pos0__0 j2) (y2k n r0 aC str0__0 pos0__0 j2) :=
  (y8 (y8 (by apply y1D n hn) (by apply y1D n hn)) (by apply y1D n hn))
def y92(aC:List UInt8)(str0__0:List UInt8)(pos0__0:Int):Option ((Bool×Unit)⊕Unit) :=
  (bif decide ((ya str0__0 pos0__0).1 ≥ 65)then (bif decide ((ya str0__0 pos0__0).1≤90)then (y4b aC str0__0 pos0__0 (Bool.true))else (bif decide ((ya str0__0 pos0__0).1 ≥ 97)then (y4b aC str0__0 pos0__0 (decide ((ya str0__0 pos0__0).1≤122)))else (y4b aC str0__0 pos0__0 (Bool.false))))else (bif decide ((ya str0__0 pos0__0).1 ≥ 97)then (y4b aC str0__0 pos0__0 (decide ((ya str0__0 pos0__0).1≤122)))else (y4b aC str0__0 pos0__0 (Bool.false))))
def y8x(aC:List UInt8)(str0__0:List UInt8):Option (Bool×Unit) :=
  (bif !aC==[]then (some ((decide ((↑aC.length:Int)≤24),())))else (some ((Bool.false,()))))
theorem yCt(n:Nat)(hn:big≤n)(aC:List UInt8)(str0__0:List UInt8)(hx:List.length (str0__0) < lenMax):LeF some (y8I (str0__0) (fun aj aa=>y92 aC str0__0 aj) (fun aa=>y8x aC str0__0) (List.length (str0__0)) 0 ()) (y6s n n aC str0__0 0):=by
  refine yKW (f:=some) (W:=fun aG aj aa=>y6s n aG aC str0__0 aj) (body:=(fun aj aa=>y92 aC str0__0 aj)) (fin:=(fun aa=>y8x aC str0__0)) (fun aG aj aa=>?_) () n (by unfold big at hn;unfold lenMax at hx;omega)
  show LeF _ _ (yEs n (y6s n aG) aC str0__0 aj)
  exact y8 (y8 (y8 (by apply y0B n hn) (y8 (by apply y0B n hn) (by apply y0B n hn))) (y8 (by apply y0B n hn) (by apply y0B n hn))) (y0c (y8 (yB rfl) (yB rfl)))
def yCP(s:List UInt8):Option (Bool×Unit) :=
  (bif decide (List.length (s) < lenMax)then y8I (s) (fun aj aa=>y92 (s) (s) aj) (fun aa=>y8x (s) (s)) (List.length (s)) 0 ()else none)
theorem yNH(s:List UInt8)(y:Bool×Unit)(h:yCP s=some y):∃ n,yL4 n s=some y :=
  ⟨big,LeF.top (show LeF some (yCP s) (yL4 big s)from (fun (n:Nat) (hn:big≤n)=>show LeF some (yCP s) (yL4 n s)from (yg fun hx=>by apply yCt n hn;exact hx)) big (Nat.le_refl _)) h⟩
def z06_e:Entry:={ f:=200,args:=yNQ,ress:=yVn,m:=fun x=>yCP x.1 }
theorem yMF:FnOK Tryz.prog z06_e:=yJ (g:=ySU) (fn:=Tryz.f200) yA yI eNil (by kernel_rfl) (by kernel_rfl) (by kernel_rfl) (fun x y h=>let ⟨n,hn⟩:=yNH x.1 y h;⟨yMf n,iNil,(yWq n x).trans hn⟩)
abbrev zP_a:Ty:=.pair t63 (.pair (.ref t60) .unit)
abbrev zP_r:Ty:=.pair t4 .unit
def zP_g:G:={ T:=T,E:=[],muts:=[],fz:=[] }
def zP_k:List (List Nat):=[]
def yU0(n:Nat):Ann:={ keep:=zP_k,fuel:=n,inl:=[],deep:=0 }
def zP_m(n:Nat)(s:Q4)(p1:Q1):Option (Bool×Unit) :=
  some (decide (s.2.1 > (↑p1.2.2.1.length:Int)),())
theorem yai(n:Nat)(x:zP_a.den):runF zP_g (yU0 n) Tryz.f205 zP_a zP_r x=zP_m n x.1 x.2.1:=by kernel_rfl
def zP(s:Q4)(p1:Q1):(Bool×Unit) :=
  (decide (s.2.1 > (↑p1.2.2.1.length:Int)),())
abbrev zP_M (s:Q4) (p1:Q1):Option (Bool×Unit):=some (zP s p1)
theorem ySf(s:Q4)(p1:Q1)(y:Bool×Unit)(h:zP_M s p1=some y):∃ n,zP_m n s p1=some y :=
  ⟨0,by rw[← h];show zP_m 0 s p1=some (zP s p1);unfold zP_m zP;first|rfl|(simp only[yG];done)|(simp only[yG];rfl)⟩
def zP_e:Entry:={ f:=205,args:=zP_a,ress:=zP_r,m:=fun x=>zP_M x.1 x.2.1 }
theorem yaO:FnOK Tryz.prog zP_e:=yJ (g:=zP_g) (fn:=Tryz.f205) yA yI eNil (by kernel_rfl) (by kernel_rfl) (by kernel_rfl) (fun x y h=>let ⟨n,hn⟩:=ySf x.1 x.2.1 y h;⟨yU0 n,iNil,(yai n x).trans hn⟩)
abbrev zO_a:Ty:=.pair t61 .unit
abbrev zO_r:Ty:=.pair t4 .unit
def zO_g:G:={ T:=T,E:=[],muts:=[],fz:=[] }
def zO_k:List (List Nat):=[]
def ySJ(n:Nat):Ann:={ keep:=zO_k,fuel:=n,inl:=[],deep:=0 }
def zO_m(n:Nat)(x1:Nat):Option (Bool×Unit) :=
  some (y0p Go.BinOp.neq Go.FloatKind.f32 x1 (nat_lit 0),())
theorem yZq(n:Nat)(x:zO_a.den):runF zO_g (ySJ n) Tryz.f208 zO_a zO_r x=zO_m n x.1:=by kernel_rfl
def zO(x1:Nat):(Bool×Unit) :=
  (y0p Go.BinOp.neq Go.FloatKind.f32 x1 (nat_lit 0),())
abbrev zO_M (x1:Nat):Option (Bool×Unit):=some (zO x1)
theorem ySC(x1:Nat)(y:Bool×Unit)(h:zO_M x1=some y):∃ n,zO_m n x1=some y :=
  ⟨0,by rw[← h];show zO_m 0 x1=some (zO x1);unfold zO_m zO;first|rfl|(simp only[yG];done)|(simp only[yG];rfl)⟩
def zO_e:Entry:={ f:=208,args:=zO_a,ress:=zO_r,m:=fun x=>zO_M x.1 }
theorem yYu:FnOK Tryz.prog zO_e:=yJ (g:=zO_g) (fn:=Tryz.f208) yA yI eNil (by kernel_rfl) (by kernel_rfl) (by kernel_rfl) (fun x y h=>let ⟨n,hn⟩:=ySC x.1 y h;⟨ySJ n,iNil,(yZq n x).trans hn⟩)
abbrev zY_a:Ty:=.pair t61 .unit
abbrev zY_r:Ty:=.pair t3 .unit
def zY_g:G:={ T:=T,E:=[],muts:=[],fz:=[] }
def zY_k:List (List Nat):=[]
def yY5(n:Nat):Ann:={ keep:=zY_k,fuel:=n,inl:=[],deep:=0 }
def zY_m(n:Nat)(x1:Nat):Option (Int×Unit) :=
  (Option.bind (y0d Go.FloatKind.f32 (y0g Go.BinOp.mul Go.FloatKind.f32 x1 (nat_lit 1098907648)) IntKind.i64) fun v0=>some (v0,()))
theorem yaz(n:Nat)(x:zY_a.den):runF zY_g (yY5 n) Tryz.f224 zY_a zY_r x=zY_m n x.1:=by kernel_rfl
def zY_M(x1:Nat):Option (Int×Unit):=zY_m 0 x1
theorem yU2(x1:Nat)(y:Int×Unit)(h:zY_M x1=some y):∃ n,zY_m n x1=some y:=⟨0,h⟩
def zY_e:Entry:={ f:=224,args:=zY_a,ress:=zY_r,m:=fun x=>zY_M x.1 }
theorem yZi:FnOK Tryz.prog zY_e:=yJ (g:=zY_g) (fn:=Tryz.f224) yA yI eNil (by kernel_rfl) (by kernel_rfl) (by kernel_rfl) (fun x y h=>let ⟨n,hn⟩:=yU2 x.1 y h;⟨yY5 n,iNil,(yaz n x).trans hn⟩)
abbrev zD_a:Ty:=.pair t58 (.pair t263 .unit)
abbrev zD_r:Ty:=.pair t3 .unit
def zD_g:G:={ T:=T,E:=[],muts:=[],fz:=[] }
def zD_k:List (List Nat):=[[0,1,7,8]]
def yUp(n:Nat):Ann:={ keep:=zD_k,fuel:=n,inl:=[],deep:=0 }
def yNy(n:Nat)(r0:List (Q4)→((Q4)×Unit→Option (Bool×Unit))→Int→Int→Option (Int×Unit))(aC:List (Q4))(ck:(Q4)×Unit→Option (Bool×Unit))(ay:Int)(ac:Int):Option (Int×Unit) :=
  (bif decide (ac < ay)then (Option.bind (idx aC ac) fun v1=>(Option.bind (ck (v1,())) fun v2=>(bif v2.1 then some (ac,())else r0 aC ck ay (IntKind.i64.wrap (ac+1)))))else some ((-1:Int),()))
def yRI(n:Nat)(k:Nat)(aC:List (Q4))(ck:(Q4)×Unit→Option (Bool×Unit))(ay:Int)(ac:Int):Option (Int×Unit) :=
  iter (fun r y=>yNy n (fun aC ck ay ac=>r ((aC,(ck,(ay,(ac,())))),((),()))) y.1.1 y.1.2.1 y.1.2.2.1 y.1.2.2.2.1) k ((aC,(ck,(ay,(ac,())))),((),()))
def zD_m(n:Nat)(s:List (Q4))(f:(Q4)×Unit→Option (Bool×Unit)):Option (Int×Unit) :=
  (yRI n n (s) (f) ((↑s.length:Int)) ((0:Int)))
theorem yad(n:Nat)(x:zD_a.den):runF zD_g (yUp n) Tryz.f226 zD_a zD_r x=zD_m n x.1 x.2.1:=by kernel_rfl
def zD_M(s:List (Q4))(f:(Q4)×Unit→Option (Bool×Unit)):Option (Int×Unit):=zD_m 1000 s f
theorem yXD(s:List (Q4))(f:(Q4)×Unit→Option (Bool×Unit))(y:Int×Unit)(h:zD_M s f=some y):∃ n,zD_m n s f=some y:=⟨1000,h⟩
def zD_e:Entry:={ f:=226,args:=zD_a,ress:=zD_r,m:=fun x=>zD_M x.1 x.2.1 }
theorem yZW:FnOK Tryz.prog zD_e:=yJ (g:=zD_g) (fn:=Tryz.f226) yA yI eNil (by kernel_rfl) (by kernel_rfl) (by kernel_rfl) (fun x y h=>let ⟨n,hn⟩:=yXD x.1 x.2.1 y h;⟨yUp n,iNil,(yad n x).trans hn⟩)
abbrev zE_a:Ty:=.pair t35 (.pair t265 .unit)
abbrev zE_r:Ty:=.pair t3 .unit
def zE_g:G:={ T:=T,E:=[],muts:=[],fz:=[] }
def zE_k:List (List Nat):=[[0,1,7,8]]
def ySy(n:Nat):Ann:={ keep:=zE_k,fuel:=n,inl:=[],deep:=0 }
def yR4(n:Nat)(r0:List Nat→(Nat×Unit→Option (Bool×Unit))→Int→Int→Option (Int×Unit))(aC:List Nat)(ck:Nat×Unit→Option (Bool×Unit))(ay:Int)(ac:Int):Option (Int×Unit) :=
  (bif decide (ac < ay)then (Option.bind (idx aC ac) fun v1=>(Option.bind (ck (v1,())) fun v2=>(bif v2.1 then some (ac,())else r0 aC ck ay (IntKind.i64.wrap (ac+1)))))else some ((-1:Int),()))
def yOy(n:Nat)(k:Nat)(aC:List Nat)(ck:Nat×Unit→Option (Bool×Unit))(ay:Int)(ac:Int):Option (Int×Unit) :=
  iter (fun r y=>yR4 n (fun aC ck ay ac=>r ((aC,(ck,(ay,(ac,())))),((),()))) y.1.1 y.1.2.1 y.1.2.2.1 y.1.2.2.2.1) k ((aC,(ck,(ay,(ac,())))),((),()))
def zE_m(n:Nat)(s:List Nat)(f:Nat×Unit→Option (Bool×Unit)):Option (Int×Unit) :=
  (yOy n n (s) (f) ((↑s.length:Int)) ((0:Int)))
theorem yal(n:Nat)(x:zE_a.den):runF zE_g (ySy n) Tryz.f227 zE_a zE_r x=zE_m n x.1 x.2.1:=by kernel_rfl
def zE_M(s:List Nat)(f:Nat×Unit→Option (Bool×Unit)):Option (Int×Unit):=zE_m 1000 s f
theorem yUM(s:List Nat)(f:Nat×Unit→Option (Bool×Unit))(y:Int×Unit)(h:zE_M s f=some y):∃ n,zE_m n s f=some y:=⟨1000,h⟩
def zE_e:Entry:={ f:=227,args:=zE_a,ress:=zE_r,m:=fun x=>zE_M x.1 x.2.1 }
theorem yax:FnOK Tryz.prog zE_e:=yJ (g:=zE_g) (fn:=Tryz.f227) yA yI eNil (by kernel_rfl) (by kernel_rfl) (by kernel_rfl) (fun x y h=>let ⟨n,hn⟩:=yUM x.1 x.2.1 y h;⟨ySy n,iNil,(yal n x).trans hn⟩)
end
end Go.Tw
end
section
set_option maxRecDepth 1000000
namespace Go.Tw
open Go.Vx Go.Vx.B Go.Proofs
noncomputable section
abbrev zk_a:Ty:=.pair t25 .unit
abbrev zk_r:Ty:=.pair t4 .unit
def zk_g:G:={ T:=T,E:=[zj_e],muts:=[],fz:=[] }
def zk_k:List (List Nat):=[]
def yTu(n:Nat):Ann:={ keep:=zk_k,fuel:=n,inl:=[],deep:=0 }
def zk_m(n:Nat)(t:Q2):Option (Bool×Unit) :=
  (Option.bind (zj_M t.1) fun v0=>(bif v0.1 then some (decide ((↑t.2.1.length:Int)≤5),())else some (Bool.false,())))
theorem yYz(n:Nat)(x:zk_a.den):runF zk_g (yTu n) Tryz.f19 zk_a zk_r x=zk_m n x.1:=by kernel_rfl
def zk_M(t:Q2):Option (Bool×Unit):=zk_m 0 t
theorem yVo(t:Q2)(y:Bool×Unit)(h:zk_M t=some y):∃ n,zk_m n t=some y:=⟨0,h⟩
def zk_e:Entry:={ f:=19,args:=zk_a,ress:=zk_r,m:=fun x=>zk_M x.1 }
theorem yYO:FnOK Tryz.prog zk_e:=yJ (g:=zk_g) (fn:=Tryz.f19) yA yI (y6 yYs eNil) (by kernel_rfl) (by kernel_rfl) (by kernel_rfl) (fun x y h=>let ⟨n,hn⟩:=yVo x.1 y h;⟨yTu n,iNil,(yYz n x).trans hn⟩)
abbrev yQb:Ty:=.pair t25 .unit
abbrev yUU:Ty:=.pair t33 .unit
def yW6:G:={ T:=T,E:=[z0h_e,zz_e],muts:=[],fz:=[] }
def yZw:List (List Nat):=[]
def yMp(n:Nat):Ann:={ keep:=yZw,fuel:=n,inl:=[],deep:=0 }
def yKj(n:Nat)(t:Q2):Option ((Q2)×Unit) :=
  (Option.bind (yDJ t.1) fun v0=>(Option.bind (zz_M t.2.1) fun v1=>some ((v0.1,v1.1,t.2.2.1,()),())))
theorem yVR(n:Nat)(x:yQb.den):runF yW6 (yMp n) Tryz.f21 yQb yUU x=yKj n x.1:=by kernel_rfl
def yJI(t:Q2):Option ((Q2)×Unit):=yKj 0 t
theorem yPm(t:Q2)(y:(Q2)×Unit)(h:yJI t=some y):∃ n,yKj n t=some y:=⟨0,h⟩
def z16_e:Entry:={ f:=21,args:=yQb,ress:=yUU,m:=fun x=>yJI x.1 }
theorem yTl:FnOK Tryz.prog z16_e:=yJ (g:=yW6) (fn:=Tryz.f21) yA yI (y6 yRs (y6 yYw eNil)) (by kernel_rfl) (by kernel_rfl) (by kernel_rfl) (fun x y h=>let ⟨n,hn⟩:=yPm x.1 y h;⟨yMp n,iNil,(yVR n x).trans hn⟩)
abbrev yQf:Ty:=.pair t25 (.pair t25 .unit)
abbrev yXy:Ty:=.pair t4 .unit
def yW7:G:={ T:=T,E:=[zV_e],muts:=[],fz:=[] }
def yZh:List (List Nat):=[[2,3,5]]
def yML(n:Nat):Ann:={ keep:=yZh,fuel:=n,inl:=[],deep:=0 }
def yDx(n:Nat)(r2:Q2→Q2→Int→Option (Bool×Unit))(bG:Q2)(bJ:Q2)(cA:Int):Option (Bool×Unit) :=
  (bif decide (cA < (↑bG.1.length:Int))then (Option.bind (idx bG.1 cA) fun v3=>(Option.bind (idx bJ.1 cA) fun v4=>(bif !eqV (Ty.str.pair ((Ty.int IntKind.i64).pair ((Ty.int IntKind.i64).pair Ty.unit))) v3 v4 then some (Bool.false,())else r2 bG bJ (IntKind.i64.wrap (cA+1)))))else (Option.bind (zV_M bG.2.1 bJ.2.1) fun v5=>some (v5.1,())))
def y6j(n:Nat)(k:Nat)(bG:Q2)(bJ:Q2)(cA:Int):Option (Bool×Unit) :=
  iter (fun r y=>yDx n (fun bG bJ cA=>r ((bG,(bJ,(cA,()))),((),()))) y.1.1 y.1.2.1 y.1.2.2.1) k ((bG,(bJ,(cA,()))),((),()))
def yLG(n:Nat)(a:Q2)(b:Q2):Option (Bool×Unit) :=
  (bif a.2.2.1 != b.2.2.1 then some (Bool.false,())else (bif (↑a.1.length:Int) != (↑b.1.length:Int)then some (Bool.false,())else (y6j n n (a) (b) ((0:Int)))))
theorem ySX(n:Nat)(x:yQf.den):runF yW7 (yML n) Tryz.f38 yQf yXy x=yLG n x.1 x.2.1:=by kernel_rfl
def yDm(bG:Q2)(bJ:Q2)(cA:Int)(v3:Q3):Option ((Bool×Unit)⊕Unit) :=
  (Option.bind (idx bJ.1 cA) fun v4=>(bif !eqV (Ty.str.pair ((Ty.int IntKind.i64).pair ((Ty.int IntKind.i64).pair Ty.unit))) v3 v4 then (some (Sum.inl ((Bool.false,()))))else (some (Sum.inr ()))))
def yE4(bG:Q2)(bJ:Q2):Option (Bool×Unit) :=
  (Option.bind (zV_M bG.2.1 bJ.2.1) fun v5=>(some ((v5.1,()))))
theorem yDA(n:Nat)(hn:big≤n)(bG:Q2)(bJ:Q2)(hx:List.length (bG.1) < lenMax):LeF some (yQ (fun aj aE aa=>yDm bG bJ aj aE) (fun aa=>yE4 bG bJ) 0 (bG.1) ()) (y6j n n bG bJ 0):=by
  refine yd (f:=some) (W:=fun aG aj aa=>y6j n aG bG bJ aj) (body:=(fun aj aE aa=>yDm bG bJ aj aE)) (fin:=(fun aa=>yE4 bG bJ)) (fun aG aj aa=>?_) hx () n (by unfold big at hn;unfold lenMax at hx;omega)
  show LeF _ _ (yDx n (y6j n aG) bG bJ aj)
  exact y8 (yE fun v3=>(yE fun v4=>(y8 (yB rfl) (yB rfl)))) (y0c (yE fun v5=>(yB rfl)))
def yBt(a:Q2)(b:Q2):Option (Bool×Unit) :=
  (bif a.2.2.1 != b.2.2.1 then (some ((Bool.false,())))else (bif (↑a.1.length:Int) != (↑b.1.length:Int)then (some ((Bool.false,())))else (bif decide (List.length (a.1) < lenMax)then yQ (fun aj aE aa=>yDm (a) (b) aj aE) (fun aa=>yE4 (a) (b)) 0 (a.1) ()else none)))
theorem yOV(a:Q2)(b:Q2)(y:Bool×Unit)(h:yBt a b=some y):∃ n,yLG n a b=some y :=
  ⟨big,LeF.top (show LeF some (yBt a b) (yLG big a b)from (fun (n:Nat) (hn:big≤n)=>show LeF some (yBt a b) (yLG n a b)from (y8 (yB rfl) (y8 (yB rfl) (yg fun hx=>by apply yDA n hn;exact hx)))) big (Nat.le_refl _)) h⟩
def z0o_e:Entry:={ f:=38,args:=yQf,ress:=yXy,m:=fun x=>yBt x.1 x.2.1 }
theorem yVY:FnOK Tryz.prog z0o_e:=yJ (g:=yW7) (fn:=Tryz.f38) yA yI (y6 yOF eNil) (by kernel_rfl) (by kernel_rfl) (by kernel_rfl) (fun x y h=>let ⟨n,hn⟩:=yOV x.1 x.2.1 y h;⟨yML n,iNil,(ySX n x).trans hn⟩)
abbrev yR8:Ty:=.pair t3 .unit
abbrev yUD:Ty:=.pair t69 .unit
def yVK:G:={ T:=T,E:=[z09_e],muts:=[],fz:=[] }
def yZK:List (List Nat):=[]
def yMN(n:Nat):Ann:={ keep:=yZK,fuel:=n,inl:=[],deep:=0 }
def yKv(n:Nat)(year:Int):Option ((Q4)×Unit) :=
  (Option.bind (yEy (IntKind.i64.wrap ((104:Int) - if IntKind.i64.wrap ((0:Int) - IntKind.i64.wrap (year.tmod (16:Int) - (8:Int))) > IntKind.i64.wrap (year.tmod (16:Int) - (8:Int))then IntKind.i64.wrap ((0:Int) - IntKind.i64.wrap (year.tmod (16:Int) - (8:Int)))else IntKind.i64.wrap (year.tmod (16:Int) - (8:Int)))) (100:Int)) fun v0=>some ((v0.1.1,v0.1.2.1,()),()))
theorem yTD(n:Nat)(x:yR8.den):runF yVK (yMN n) Tryz.f46 yR8 yUD x=yKv n x.1:=by kernel_rfl
def yD6(year:Int):Option ((Q4)×Unit):=yKv 0 year
theorem yPE(year:Int)(y:(Q4)×Unit)(h:yD6 year=some y):∃ n,yKv n year=some y:=⟨0,h⟩
def z0S_e:Entry:={ f:=46,args:=yR8,ress:=yUD,m:=fun x=>yD6 x.1 }
theorem yMc:FnOK Tryz.prog z0S_e:=yJ (g:=yVK) (fn:=Tryz.f46) yA yI (y6 yWa eNil) (by kernel_rfl) (by kernel_rfl) (by kernel_rfl) (fun x y h=>let ⟨n,hn⟩:=yPE x.1 y h;⟨yMN n,iNil,(yTD n x).trans hn⟩)
abbrev yPC:Ty:=.pair t25 .unit
abbrev ySp:Ty:=.pair t79 (.pair t3 .unit)
def yTq:G:={ T:=T,E:=[z0U_e],muts:=[5],fz:=[] }
def yZ8:List (List Nat):=[[1,4],[1,5,6]]
def yMq(n:Nat):Ann:={ keep:=yZ8,fuel:=n,inl:=[],deep:=0 }
def yEQ(n:Nat)(r1:Q2→Int→List (Nat×Nat)→Option (List (Nat×Nat)×Int×Unit))(bt:Q2)(cB:Int)(bT:List (Nat×Nat)):Option (List (Nat×Nat)×Int×Unit) :=
  (bif decide (cB < (↑bt.2.1.length:Int))then (Option.bind (idx bt.2.1 cB) fun v2=>(bif decide ((if Bool.true=Bool.true then imax (imax (imax v2.1 v2.2.1) (IntKind.i64.wrap ((0:Int) - v2.1))) (IntKind.i64.wrap ((0:Int) - v2.2.1))else imin (imin (imin v2.1 v2.2.1) (IntKind.i64.wrap ((0:Int) - v2.1))) (IntKind.i64.wrap ((0:Int) - v2.2.1))) > IntKind.i64.wrap ((2:Int) * IntKind.i64.wrap ((2:Int) * IntKind.i64.wrap ((2:Int) * IntKind.i64.wrap ((2:Int) * IntKind.i64.wrap ((2:Int) * IntKind.i64.wrap ((2:Int) * IntKind.i64.wrap ((2:Int) * IntKind.i64.wrap ((2:Int) * IntKind.i64.wrap ((2:Int) * IntKind.i64.wrap ((2:Int) * IntKind.i64.wrap ((2:Int) * IntKind.i64.wrap ((2:Int) * IntKind.i64.wrap ((2:Int) * IntKind.i64.wrap ((2:Int) * IntKind.i64.wrap ((2:Int) * IntKind.i64.wrap ((2:Int) * IntKind.i64.wrap ((2:Int) * IntKind.i64.wrap ((2:Int) * IntKind.i64.wrap ((2:Int) * IntKind.i64.wrap ((2:Int) * IntKind.i64.wrap ((2:Int) * IntKind.i64.wrap ((2:Int) * IntKind.i64.wrap ((2:Int) * IntKind.i64.wrap ((2:Int) * 1)))))))))))))))))))))))))then some ([],(1:Int),())else (bif decide (bT.length+(1:Nat)≤memMax)then r1 bt (IntKind.i64.wrap (cB+1)) (bT++[(y0g Go.BinOp.quo Go.FloatKind.f32 (yk Go.FloatKind.f32 v2.1) (yk Go.FloatKind.f32 (IntKind.i64.wrap ((16:Int) * bt.2.2.1))),y0g Go.BinOp.quo Go.FloatKind.f32 (yk Go.FloatKind.f32 v2.2.1) (yk Go.FloatKind.f32 (IntKind.i64.wrap ((16:Int) * bt.2.2.1))))])else none)))else some (bT,(0:Int),()))
def y6d(n:Nat)(k:Nat)(bt:Q2)(cB:Int)(bT:List (Nat×Nat)):Option (List (Nat×Nat)×Int×Unit) :=
  iter (fun r y=>yEQ n (fun bt cB bT=>r ((bt,(cB,())),((bT,()),()))) y.1.1 y.1.2.1 y.2.1.1) k ((bt,(cB,())),((bT,()),()))
def yDo(n:Nat)(r0:Q2→Int→Option (List (Nat×Nat)×Int×Unit))(au:Q2)(bW:Int):Option (List (Nat×Nat)×Int×Unit) :=
  (bif bW.tmod (2:Int)==0 then r0 au (IntKind.i64.wrap (bW.tdiv (2:Int)))else (bif bW != 1 then some ([],(1:Int),())else (y6d n n (au) ((0:Int)) ([]))))
def y6v(n:Nat)(k:Nat)(au:Q2)(bW:Int):Option (List (Nat×Nat)×Int×Unit) :=
  iter (fun r y=>yDo n (fun au bW=>r ((au,(bW,())),((),()))) y.1.1 y.1.2.1) k ((au,(bW,())),((),()))
def yJY(n:Nat)(t:Q2):Option (List (Nat×Nat)×Int×Unit) :=
  (y6v n n (t) (t.2.2.1))
theorem yWk(n:Nat)(x:yPC.den):runF yTq (yMq n) Tryz.f50 yPC ySp x=yJY n x.1:=by kernel_rfl
def y87(bt:Q2)(cB:Int)(v2:Q4)(bT:List (Nat×Nat)):Option (((List (Nat×Nat)×Int×Unit)⊕(Int))⊕(List (Nat×Nat))) :=
  (bif decide ((if Bool.true=Bool.true then imax (imax (imax v2.1 v2.2.1) (IntKind.i64.wrap ((0:Int) - v2.1))) (IntKind.i64.wrap ((0:Int) - v2.2.1))else imin (imin (imin v2.1 v2.2.1) (IntKind.i64.wrap ((0:Int) - v2.1))) (IntKind.i64.wrap ((0:Int) - v2.2.1))) > IntKind.i64.wrap ((2:Int) * IntKind.i64.wrap ((2:Int) * IntKind.i64.wrap ((2:Int) * IntKind.i64.wrap ((2:Int) * IntKind.i64.wrap ((2:Int) * IntKind.i64.wrap ((2:Int) * IntKind.i64.wrap ((2:Int) * IntKind.i64.wrap ((2:Int) * IntKind.i64.wrap ((2:Int) * IntKind.i64.wrap ((2:Int) * IntKind.i64.wrap ((2:Int) * IntKind.i64.wrap ((2:Int) * IntKind.i64.wrap ((2:Int) * IntKind.i64.wrap ((2:Int) * IntKind.i64.wrap ((2:Int) * IntKind.i64.wrap ((2:Int) * IntKind.i64.wrap ((2:Int) * IntKind.i64.wrap ((2:Int) * IntKind.i64.wrap ((2:Int) * IntKind.i64.wrap ((2:Int) * IntKind.i64.wrap ((2:Int) * IntKind.i64.wrap ((2:Int) * IntKind.i64.wrap ((2:Int) * IntKind.i64.wrap ((2:Int) * 1)))))))))))))))))))))))))then (some (Sum.inl (Sum.inl (([],(1:Int),())))))else (bif decide (bT.length+(1:Nat)≤memMax)then (some (Sum.inr (bT++[(y0g Go.BinOp.quo Go.FloatKind.f32 (yk Go.FloatKind.f32 v2.1) (yk Go.FloatKind.f32 (IntKind.i64.wrap ((16:Int) * bt.2.2.1))),y0g Go.BinOp.quo Go.FloatKind.f32 (yk Go.FloatKind.f32 v2.2.1) (yk Go.FloatKind.f32 (IntKind.i64.wrap ((16:Int) * bt.2.2.1))))])))else none))
def yCL(bt:Q2)(bT:List (Nat×Nat)):Option ((List (Nat×Nat)×Int×Unit)⊕(Int)) :=
  (some (Sum.inl ((bT,(0:Int),()))))
theorem yDW(n:Nat)(hn:big≤n)(r0:Q2→Int→Option (List (Nat×Nat)×Int×Unit))(bt:Q2)(bT:List (Nat×Nat))(hx:List.length (bt.2.1) < lenMax):LeF (elim some fun (aa:(Int))=>r0 bt aa) (yQ (fun aj aE aa=>y87 bt aj aE aa) (fun aa=>yCL bt aa) 0 (bt.2.1) bT) (y6d n n bt 0 bT):=by
  refine yd (f:=(elim some fun (aa:(Int))=>r0 bt aa)) (W:=fun aG aj aa=>y6d n aG bt aj aa) (body:=(fun aj aE aa=>y87 bt aj aE aa)) (fin:=(fun aa=>yCL bt aa)) (fun aG aj aa=>?_) hx bT n (by unfold big at hn;unfold lenMax at hx;omega)
  show LeF _ _ (yEQ n (y6d n aG) bt aj aa)
  exact y8 (yE fun v2=>(y8 (yB rfl) (y8 (yB rfl) y0C))) (y0c (yB rfl))
def yBW(au:Q2)(bW:Int):Option ((List (Nat×Nat)×Int×Unit)⊕(Int)) :=
  (bif bW.tmod (2:Int)==0 then (some (Sum.inr (IntKind.i64.wrap (bW.tdiv (2:Int)))))else (bif bW != 1 then (some (Sum.inl (([],(1:Int),()))))else (bif decide (List.length (au.2.1) < lenMax)then yQ (fun aj aE aa=>y87 (au) aj aE aa) (fun aa=>yCL (au) aa) 0 (au.2.1) ([])else none)))
theorem yDS(n:Nat)(hn:big≤n)(au:Q2)(bW:Int):LeF some (y4N (fun aa=>yBW au aa) wMax bW) (y6v n n au bW):=by
  refine y71 (f:=some) (W:=fun aG aa=>y6v n aG au aa) (body:=(fun aa=>yBW au aa)) (fun aG aa=>?_) wMax n bW (by unfold big at hn;unfold wMax;omega)
  show LeF _ _ (yDo n (y6v n aG) au aa)
  exact (y8 (yB rfl) (y8 (yB rfl) (yg fun hx=>by apply yDW n hn;exact hx)))
def yCg(t:Q2):Option (List (Nat×Nat)×Int×Unit) :=
  (y4N (fun aa=>yBW (t) aa) wMax (t.2.2.1))
theorem yRP(t:Q2)(y:List (Nat×Nat)×Int×Unit)(h:yCg t=some y):∃ n,yJY n t=some y :=
  ⟨big,LeF.top (show LeF some (yCg t) (yJY big t)from (fun (n:Nat) (hn:big≤n)=>show LeF some (yCg t) (yJY n t)from (by apply yDS n hn)) big (Nat.le_refl _)) h⟩
def z0p_e:Entry:={ f:=50,args:=yPC,ress:=ySp,m:=fun x=>yCg x.1 }
theorem yVM:FnOK Tryz.prog z0p_e:=yJ (g:=yTq) (fn:=Tryz.f50) yA yI (y6 yWr eNil) (by kernel_rfl) (by kernel_rfl) (by kernel_rfl) (fun x y h=>let ⟨n,hn⟩:=yRP x.1 y h;⟨yMq n,iNil,(yWk n x).trans hn⟩)
abbrev zp_a:Ty:=.pair t96 (.pair t96 .unit)
abbrev zp_r:Ty:=.pair t4 .unit
def zp_g:G:={ T:=T,E:=[zV_e],muts:=[],fz:=[] }
def zp_k:List (List Nat):=[[0,1,5]]
def yVO(n:Nat):Ann:={ keep:=zp_k,fuel:=n,inl:=[],deep:=0 }
def yQA(n:Nat)(r0:List (List (Q4))→List (List (Q4))→Int→Option (Bool×Unit))(am:List (List (Q4)))(ar:List (List (Q4)))(aw:Int):Option (Bool×Unit) :=
  (bif decide (aw < (↑am.length:Int))then (Option.bind (idx am aw) fun v1=>(Option.bind (idx ar aw) fun v2=>(Option.bind (zV_M v1 v2) fun v3=>(bif !v3.1 then some (Bool.false,())else r0 am ar (IntKind.i64.wrap (aw+1))))))else some (Bool.true,()))
def yOG(n:Nat)(k:Nat)(am:List (List (Q4)))(ar:List (List (Q4)))(aw:Int):Option (Bool×Unit) :=
  iter (fun r y=>yQA n (fun am ar aw=>r ((am,(ar,(aw,()))),((),()))) y.1.1 y.1.2.1 y.1.2.2.1) k ((am,(ar,(aw,()))),((),()))
def zp_m(n:Nat)(a:List (List (Q4)))(b:List (List (Q4))):Option (Bool×Unit) :=
  (bif (↑a.length:Int) != (↑b.length:Int)then some (Bool.false,())else (yOG n n (a) (b) ((0:Int))))
theorem yZj(n:Nat)(x:zp_a.den):runF zp_g (yVO n) Tryz.f64 zp_a zp_r x=zp_m n x.1 x.2.1:=by kernel_rfl
def zp_M(a:List (List (Q4)))(b:List (List (Q4))):Option (Bool×Unit):=zp_m 1000 a b
theorem yWM(a:List (List (Q4)))(b:List (List (Q4)))(y:Bool×Unit)(h:zp_M a b=some y):∃ n,zp_m n a b=some y:=⟨1000,h⟩
def zp_e:Entry:={ f:=64,args:=zp_a,ress:=zp_r,m:=fun x=>zp_M x.1 x.2.1 }
theorem yZG:FnOK Tryz.prog zp_e:=yJ (g:=zp_g) (fn:=Tryz.f64) yA yI (y6 yOF eNil) (by kernel_rfl) (by kernel_rfl) (by kernel_rfl) (fun x y h=>let ⟨n,hn⟩:=yWM x.1 x.2.1 y h;⟨yVO n,iNil,(yZj n x).trans hn⟩)
abbrev zg_a:Ty:=.pair t57 .unit
abbrev zg_r:Ty:=.pair t3 .unit
def zg_g:G:={ T:=T,E:=[zZ_e,z0Q_e],muts:=[],fz:=[] }
def zg_k:List (List Nat):=[]
def yWc(n:Nat):Ann:={ keep:=zg_k,fuel:=n,inl:=[],deep:=0 }
def zg_m(n:Nat)(z:Q4):Option (Int×Unit) :=
  (Option.bind (y9o [(zZ z.1 (-8796093022208:Int) (8796093022208:Int)).1,(zZ z.2.1 (-8796093022208:Int) (8796093022208:Int)).1]) fun v0=>some (v0.1,()))
theorem yYR(n:Nat)(x:zg_a.den):runF zg_g (yWc n) Tryz.f109 zg_a zg_r x=zg_m n x.1:=by kernel_rfl
def zg_M(z:Q4):Option (Int×Unit):=zg_m 0 z
theorem yUl(z:Q4)(y:Int×Unit)(h:zg_M z=some y):∃ n,zg_m n z=some y:=⟨0,h⟩
def zg_e:Entry:={ f:=109,args:=zg_a,ress:=zg_r,m:=fun x=>zg_M x.1 }
theorem yZM:FnOK Tryz.prog zg_e:=yJ (g:=zg_g) (fn:=Tryz.f109) yA yI (y6 yKn (y6 yGr eNil)) (by kernel_rfl) (by kernel_rfl) (by kernel_rfl) (fun x y h=>let ⟨n,hn⟩:=yUl x.1 y h;⟨yWc n,iNil,(yYR n x).trans hn⟩)
abbrev yRM:Ty:=.pair t23 (.pair t3 .unit)
abbrev yY3:Ty:=.pair t3 .unit
def yUn:G:={ T:=T,E:=[z00_e],muts:=[],fz:=[] }
def yYY:List (List Nat):=[[0,1,5]]
def yLt(n:Nat):Ann:={ keep:=yYY,fuel:=n,inl:=[],deep:=0 }
def yDe(n:Nat)(r0:List (Q4)→Int→Int→Option (Int×Unit))(ax:List (Q4))(bd:Int)(aw:Int):Option (Int×Unit) :=
  (bif decide (aw < (↑ax.length:Int))then (Option.bind (idx ax aw) fun v1=>(Option.bind (idx ax aw) fun v2=>(Option.bind (y8W bd (if IntKind.i64.wrap ((0:Int) - v2.1) > v1.1 then IntKind.i64.wrap ((0:Int) - v2.1)else v1.1)) fun v3=>(Option.bind (idx ax aw) fun v4=>(Option.bind (idx ax aw) fun v5=>(Option.bind (y8W v3.1 (if IntKind.i64.wrap ((0:Int) - v5.2.1) > v4.2.1 then IntKind.i64.wrap ((0:Int) - v5.2.1)else v4.2.1)) fun v6=>r0 ax v6.1 (IntKind.i64.wrap (aw+1))))))))else some (bd,()))
def y6w(n:Nat)(k:Nat)(ax:List (Q4))(bd:Int)(aw:Int):Option (Int×Unit) :=
  iter (fun r y=>yDe n (fun ax bd aw=>r ((ax,(bd,(aw,()))),((),()))) y.1.1 y.1.2.1 y.1.2.2.1) k ((ax,(bd,(aw,()))),((),()))
def yJP(n:Nat)(l:List (Q4))(den:Int):Option (Int×Unit) :=
  (y6w n n (l) (den) ((0:Int)))
theorem yUI(n:Nat)(x:yRM.den):runF yUn (yLt n) Tryz.f110 yRM yY3 x=yJP n x.1 x.2.1:=by kernel_rfl
def y9J(ax:List (Q4))(aw:Int)(v1:Q4)(bd:Int):Option ((Int×Unit)⊕(Int)) :=
  (Option.bind (idx ax aw) fun v2=>(Option.bind (y8W bd (if IntKind.i64.wrap ((0:Int) - v2.1) > v1.1 then IntKind.i64.wrap ((0:Int) - v2.1)else v1.1)) fun v3=>(Option.bind (idx ax aw) fun v4=>(Option.bind (idx ax aw) fun v5=>(Option.bind (y8W v3.1 (if IntKind.i64.wrap ((0:Int) - v5.2.1) > v4.2.1 then IntKind.i64.wrap ((0:Int) - v5.2.1)else v4.2.1)) fun v6=>(some (Sum.inr (v6.1))))))))
def yDr(ax:List (Q4))(bd:Int):Option (Int×Unit) :=
  (some ((bd,())))
theorem yDY(n:Nat)(hn:big≤n)(ax:List (Q4))(bd:Int)(hx:List.length (ax) < lenMax):LeF some (yQ (fun aj aE aa=>y9J ax aj aE aa) (fun aa=>yDr ax aa) 0 (ax) bd) (y6w n n ax bd 0):=by
  refine yd (f:=some) (W:=fun aG aj aa=>y6w n aG ax aa aj) (body:=(fun aj aE aa=>y9J ax aj aE aa)) (fin:=(fun aa=>yDr ax aa)) (fun aG aj aa=>?_) hx bd n (by unfold big at hn;unfold lenMax at hx;omega)
  show LeF _ _ (yDe n (y6w n aG) ax aa aj)
  exact y8 (yE fun v1=>(yE fun v2=>(yE fun v3=>(yE fun v4=>(yE fun v5=>(yE fun v6=>(yB rfl))))))) (y0c (yB rfl))
def y8Q(l:List (Q4))(den:Int):Option (Int×Unit) :=
  (bif decide (List.length (l) < lenMax)then yQ (fun aj aE aa=>y9J (l) aj aE aa) (fun aa=>yDr (l) aa) 0 (l) (den)else none)
theorem yQp(l:List (Q4))(den:Int)(y:Int×Unit)(h:y8Q l den=some y):∃ n,yJP n l den=some y :=
  ⟨big,LeF.top (show LeF some (y8Q l den) (yJP big l den)from (fun (n:Nat) (hn:big≤n)=>show LeF some (y8Q l den) (yJP n l den)from (yg fun hx=>by apply yDY n hn;exact hx)) big (Nat.le_refl _)) h⟩
def z0B_e:Entry:={ f:=110,args:=yRM,ress:=yY3,m:=fun x=>y8Q x.1 x.2.1 }
theorem yN5:FnOK Tryz.prog z0B_e:=yJ (g:=yUn) (fn:=Tryz.f110) yA yI (y6 yXV eNil) (by kernel_rfl) (by kernel_rfl) (by kernel_rfl) (fun x y h=>let ⟨n,hn⟩:=yQp x.1 x.2.1 y h;⟨yLt n,iNil,(yUI n x).trans hn⟩)
abbrev yQF:Ty:=.pair t3 (.pair t3 (.pair t3 .unit))
abbrev yUy:Ty:=.pair t28 .unit
def ySR:G:={ T:=T,E:=[z1D_e],muts:=[],fz:=[] }
def yYf:List (List Nat):=[]
def yLf(n:Nat):Ann:={ keep:=yYf,fuel:=n,inl:=[],deep:=0 }
def yLF(n:Nat)(n1:Int)(least:Int)(most:Int):Option (Int×Unit) :=
  (bif decide (n1 < least)then some ((z1D Bool.true (3:Int)).1,())else some ((z1D (decide (n1 > most)) (3:Int)).1,()))
theorem yTo(n:Nat)(x:yQF.den):runF ySR (yLf n) Tryz.f114 yQF yUy x=yLF n x.1 x.2.1 x.2.2.1:=by kernel_rfl
def z0f(n1:Int)(least:Int)(most:Int):(Int×Unit) :=
  (bif decide (n1 < least)then ((z1D Bool.true (3:Int)).1,())else ((z1D (decide (n1 > most)) (3:Int)).1,()))
abbrev yWT (n1:Int) (least:Int) (most:Int):Option (Int×Unit):=some (z0f n1 least most)
theorem yNz(n1:Int)(least:Int)(most:Int)(y:Int×Unit)(h:yWT n1 least most=some y):∃ n,yLF n n1 least most=some y :=
  ⟨0,by rw[← h];show yLF 0 n1 least most=some (z0f n1 least most);unfold yLF z0f;first|rfl|(simp only[yG];done)|(simp only[yG];rfl)⟩
def z0f_e:Entry:={ f:=114,args:=yQF,ress:=yUy,m:=fun x=>yWT x.1 x.2.1 x.2.2.1 }
theorem y9F:FnOK Tryz.prog z0f_e:=yJ (g:=ySR) (fn:=Tryz.f114) yA yI (y6 y4W eNil) (by kernel_rfl) (by kernel_rfl) (by kernel_rfl) (fun x y h=>let ⟨n,hn⟩:=yNz x.1 x.2.1 x.2.2.1 y h;⟨yLf n,iNil,(yTo n x).trans hn⟩)
abbrev zf_a:Ty:=.pair t9 .unit
abbrev zf_r:Ty:=.pair t3 .unit
def zf_g:G:={ T:=T,E:=[z08_e],muts:=[],fz:=[] }
def zf_k:List (List Nat):=[]
def yTA(n:Nat):Ann:={ keep:=zf_k,fuel:=n,inl:=[],deep:=0 }
def zf_m(n:Nat)(s:List UInt8):Option (Int×Unit) :=
  (Option.bind (yD5 s) fun v0=>(bif !v0.1 then some ((8:Int),())else some ((0:Int),())))
theorem yaR(n:Nat)(x:zf_a.den):runF zf_g (yTA n) Tryz.f118 zf_a zf_r x=zf_m n x.1:=by kernel_rfl
def zf_M(s:List UInt8):Option (Int×Unit):=zf_m 0 s
theorem yVD(s:List UInt8)(y:Int×Unit)(h:zf_M s=some y):∃ n,zf_m n s=some y:=⟨0,h⟩
def zf_e:Entry:={ f:=118,args:=zf_a,ress:=zf_r,m:=fun x=>zf_M x.1 }
theorem yZc:FnOK Tryz.prog zf_e:=yJ (g:=zf_g) (fn:=Tryz.f118) yA yI (y6 yXU eNil) (by kernel_rfl) (by kernel_rfl) (by kernel_rfl) (fun x y h=>let ⟨n,hn⟩:=yVD x.1 y h;⟨yTA n,iNil,(yaR n x).trans hn⟩)
abbrev zl_a:Ty:=.pair t33 .unit
abbrev zl_r:Ty:=.pair t4 .unit
def zl_g:G:={ T:=T,E:=[z04_e],muts:=[],fz:=[] }
def zl_k:List (List Nat):=[[1,6,7,8]]
def yTN(n:Nat):Ann:={ keep:=zl_k,fuel:=n,inl:=[],deep:=0 }
def yGv(n:Nat)(r0:Q2→List (Q4)→Int→Int→Option (Bool×Unit))(au:Q2)(aD:List (Q4))(ay:Int)(ac:Int):Option (Bool×Unit) :=
  (bif decide (ac < ay)then (Option.bind (idx aD ac) fun v1=>(bif decide ((if (z04 v1.2.1).1 > (z04 v1.1).1 then (z04 v1.2.1).1 else (z04 v1.1).1) > 4194304)then some (Bool.false,())else r0 au aD ay (IntKind.i64.wrap (ac+1))))else some (decide (au.2.2.1≤4096),()))
def y9U(n:Nat)(k:Nat)(au:Q2)(aD:List (Q4))(ay:Int)(ac:Int):Option (Bool×Unit) :=
  iter (fun r y=>yGv n (fun au aD ay ac=>r ((au,(aD,(ay,(ac,())))),((),()))) y.1.1 y.1.2.1 y.1.2.2.1 y.1.2.2.2.1) k ((au,(aD,(ay,(ac,())))),((),()))
def zl_m(n:Nat)(t:Q2):Option (Bool×Unit) :=
  (y9U n n (t) (t.2.1) ((↑t.2.1.length:Int)) ((0:Int)))
theorem yYp(n:Nat)(x:zl_a.den):runF zl_g (yTN n) Tryz.f129 zl_a zl_r x=zl_m n x.1:=by kernel_rfl
def yKG(au:Q2)(aD:List (Q4))(ac:Int)(v1:Q4):Option ((Bool×Unit)⊕Unit) :=
  (bif decide ((if (z04 v1.2.1).1 > (z04 v1.1).1 then (z04 v1.2.1).1 else (z04 v1.1).1) > 4194304)then (some (Sum.inl ((Bool.false,()))))else (some (Sum.inr ())))
def yPc(au:Q2)(aD:List (Q4)):Option (Bool×Unit) :=
  (some ((decide (au.2.2.1≤4096),())))
theorem yFZ(n:Nat)(hn:big≤n)(au:Q2)(aD:List (Q4))(hx:List.length (aD) < lenMax):LeF some (yQ (fun aj aE aa=>yKG au aD aj aE) (fun aa=>yPc au aD) 0 (aD) ()) (y9U n n au aD (List.length (aD):Int) 0):=by
  refine yd (f:=some) (W:=fun aG aj aa=>y9U n aG au aD (List.length (aD):Int) aj) (body:=(fun aj aE aa=>yKG au aD aj aE)) (fin:=(fun aa=>yPc au aD)) (fun aG aj aa=>?_) hx () n (by unfold big at hn;unfold lenMax at hx;omega)
  show LeF _ _ (yGv n (y9U n aG) au aD (List.length (aD):Int) aj)
  exact y8 (yE fun v1=>(y8 (yB rfl) (yB rfl))) (y0c (yB rfl))
def zl_M(t:Q2):Option (Bool×Unit) :=
  (bif decide (List.length (t.2.1) < lenMax)then yQ (fun aj aE aa=>yKG (t) (t.2.1) aj aE) (fun aa=>yPc (t) (t.2.1)) 0 (t.2.1) ()else none)
theorem yUs(t:Q2)(y:Bool×Unit)(h:zl_M t=some y):∃ n,zl_m n t=some y :=
  ⟨big,LeF.top (show LeF some (zl_M t) (zl_m big t)from (fun (n:Nat) (hn:big≤n)=>show LeF some (zl_M t) (zl_m n t)from (yg fun hx=>by apply yFZ n hn;exact hx)) big (Nat.le_refl _)) h⟩
def zl_e:Entry:={ f:=129,args:=zl_a,ress:=zl_r,m:=fun x=>zl_M x.1 }
theorem yPk:FnOK Tryz.prog zl_e:=yJ (g:=zl_g) (fn:=Tryz.f129) yA yI (y6 yB3 eNil) (by kernel_rfl) (by kernel_rfl) (by kernel_rfl) (fun x y h=>let ⟨n,hn⟩:=yUs x.1 y h;⟨yTN n,iNil,(yYp n x).trans hn⟩)
abbrev yP2:Ty:=.pair t57 (.pair (.ref t33) .unit)
abbrev yWv:Ty:=.pair t57 .unit
def yRd:G:={ T:=T,E:=[z0d_e],muts:=[],fz:=[] }
def yYc:List (List Nat):=[]
def yMY(n:Nat):Ann:={ keep:=yYc,fuel:=n,inl:=[],deep:=0 }
def yJW(n:Nat)(z:Q4)(p1:Q2):Option ((Q4)×Unit) :=
  some (((z0d z p1.2.2.1).1.1,(z0d z p1.2.2.1).1.2.1,()),())
theorem ySu(n:Nat)(x:yP2.den):runF yRd (yMY n) Tryz.f133 yP2 yWv x=yJW n x.1 x.2.1:=by kernel_rfl
def z0w(z:Q4)(p1:Q2):((Q4)×Unit) :=
  (((z0d z p1.2.2.1).1.1,(z0d z p1.2.2.1).1.2.1,()),())
abbrev ySw (z:Q4) (p1:Q2):Option ((Q4)×Unit):=some (z0w z p1)
theorem yNi(z:Q4)(p1:Q2)(y:(Q4)×Unit)(h:ySw z p1=some y):∃ n,yJW n z p1=some y :=
  ⟨0,by rw[← h];show yJW 0 z p1=some (z0w z p1);unfold yJW z0w;first|rfl|(simp only[yG];done)|(simp only[yG];rfl)⟩
def z0w_e:Entry:={ f:=133,args:=yP2,ress:=yWv,m:=fun x=>ySw x.1 x.2.1 }
theorem yXE:FnOK Tryz.prog z0w_e:=yJ (g:=yRd) (fn:=Tryz.f133) yA yI (y6 y95 eNil) (by kernel_rfl) (by kernel_rfl) (by kernel_rfl) (fun x y h=>let ⟨n,hn⟩:=yNi x.1 x.2.1 y h;⟨yMY n,iNil,(ySu n x).trans hn⟩)
abbrev yRE:Ty:=.pair t57 (.pair (.ref t69) .unit)
abbrev yUQ:Ty:=.pair t57 .unit
def yXv:G:={ T:=T,E:=[z0d_e],muts:=[],fz:=[] }
def ya4:List (List Nat):=[]
def yMD(n:Nat):Ann:={ keep:=ya4,fuel:=n,inl:=[],deep:=0 }
def yIu(n:Nat)(z:Q4)(p1:Q4):Option ((Q4)×Unit) :=
  some (((z0d z p1.1).1.1,(z0d z p1.1).1.2.1,()),())
theorem yWH(n:Nat)(x:yRE.den):runF yXv (yMD n) Tryz.f137 yRE yUQ x=yIu n x.1 x.2.1:=by kernel_rfl
def z01(z:Q4)(p1:Q4):((Q4)×Unit) :=
  (((z0d z p1.1).1.1,(z0d z p1.1).1.2.1,()),())
abbrev yPR (z:Q4) (p1:Q4):Option ((Q4)×Unit):=some (z01 z p1)
theorem yQh(z:Q4)(p1:Q4)(y:(Q4)×Unit)(h:yPR z p1=some y):∃ n,yIu n z p1=some y :=
  ⟨0,by rw[← h];show yIu 0 z p1=some (z01 z p1);unfold yIu z01;first|rfl|(simp only[yG];done)|(simp only[yG];rfl)⟩
def z01_e:Entry:={ f:=137,args:=yRE,ress:=yUQ,m:=fun x=>yPR x.1 x.2.1 }
theorem yTw:FnOK Tryz.prog z01_e:=yJ (g:=yXv) (fn:=Tryz.f137) yA yI (y6 y95 eNil) (by kernel_rfl) (by kernel_rfl) (by kernel_rfl) (fun x y h=>let ⟨n,hn⟩:=yQh x.1 x.2.1 y h;⟨yMD n,iNil,(yWH n x).trans hn⟩)
abbrev yQB:Ty:=.pair t57 .unit
abbrev yWU:Ty:=.pair t28 .unit
def yU1:G:={ T:=T,E:=[z04_e,z1D_e],muts:=[],fz:=[] }
def yZ9:List (List Nat):=[]
def yLn(n:Nat):Ann:={ keep:=yZ9,fuel:=n,inl:=[],deep:=0 }
def yJa(n:Nat)(z:Q4):Option (Int×Unit) :=
  some ((z1D (decide ((if (z04 z.2.1).1 > (z04 z.1).1 then (z04 z.2.1).1 else (z04 z.1).1) > 16777216)) (1:Int)).1,())
theorem yTv(n:Nat)(x:yQB.den):runF yU1 (yLn n) Tryz.f138 yQB yWU x=yJa n x.1:=by kernel_rfl
def z0Z(z:Q4):(Int×Unit) :=
  ((z1D (decide ((if (z04 z.2.1).1 > (z04 z.1).1 then (z04 z.2.1).1 else (z04 z.1).1) > 16777216)) (1:Int)).1,())
abbrev yKq (z:Q4):Option (Int×Unit):=some (z0Z z)
theorem yOW(z:Q4)(y:Int×Unit)(h:yKq z=some y):∃ n,yJa n z=some y :=
  ⟨0,by rw[← h];show yJa 0 z=some (z0Z z);unfold yJa z0Z;first|rfl|(simp only[yG];done)|(simp only[yG];rfl)⟩
def z0Z_e:Entry:={ f:=138,args:=yQB,ress:=yWU,m:=fun x=>yKq x.1 }
theorem yW5:FnOK Tryz.prog z0Z_e:=yJ (g:=yU1) (fn:=Tryz.f138) yA yI (y6 yB3 (y6 y4W eNil)) (by kernel_rfl) (by kernel_rfl) (by kernel_rfl) (fun x y h=>let ⟨n,hn⟩:=yOW x.1 y h;⟨yLn n,iNil,(yTv n x).trans hn⟩)
abbrev yPj:Ty:=.pair t60 (.pair t55 (.pair t55 .unit))
abbrev yUL:Ty:=.pair t57 .unit
def yVs:G:={ T:=T,E:=[zR_e,zv_e,z14_e,z1C_e],muts:=[],fz:=[] }
def yZ5:List (List Nat):=[]
def yLm(n:Nat):Ann:={ keep:=yZ5,fuel:=n,inl:=[il124,il195],deep:=3 }
def yBA(n:Nat)(r0:Q1→List (Q4)→List Nat→Int→Int→Q1→Q3→Q3→Q1→Q3→Q3→Q4→Q1→Q1→Int→Int→Int→Int→Q1→Q3→Q3→Q1→Q3→Q3→Q4→Q1→Q1→Option ((Q4)×Unit))(j8:Q1)(j9:List (Q4))(j10:Int)(j11:Nat)(j12:List Nat)(j13:Int)(j14:Int)(j15:Q1)(j16:Q3)(j17:Q3)(j18:Q1)(j19:Q3)(j20:Q3)(j21:Q4)(j22:Q1)(j23:Q1)(j24:Int)(j25:Int)(j26:Int)(j27:Int)(j28:Q1)(j29:Q3)(j30:Q3)(j31:Q1)(j32:Q3)(j33:Q3)(j34:Q4)(j35:Q1)(j36:Q1):Option ((Q4)×Unit) :=
  (bif decide ((↑j9.length:Int) > 0)then (Option.bind (idx j9 (0:Int)) fun v37=>(bif decide (v37.1≤j10)then r0 j8 j9 j12 j13 (IntKind.i64.wrap (j14+1)) j15 j16 j17 j18 j19 j20 j21 j22 j23 j24 j25 j26 j27 j28 j29 j30 j31 j32 j33 j34 j35 j36 else (Option.bind (y0d Go.FloatKind.f32 (y0g Go.BinOp.mul Go.FloatKind.f32 j11 (nat_lit 1098907648)) IntKind.i64) fun v42=>(Option.bind (zR_M j19 (IntKind.i64.wrap (j8.2.1+j10))) fun v43=>(Option.bind (zR_M j20 (IntKind.i64.wrap (j8.2.1+j10))) fun v44=>r0 j8 j9 j12 j13 (IntKind.i64.wrap (j14+1)) j15 j16 j17 j18 j19 j20 j21 j22 j23 j24 j25 (z1C (j26,j27,()) (z14 (zv v43.1).1 v44.1).1).1.1 (z1C (j26,j27,()) (z14 (zv v43.1).1 v44.1).1).1.2.1 j28 j29 j30 j31 j32 j33 j34 j35 j36)))))else (Option.bind (y0d Go.FloatKind.f32 (y0g Go.BinOp.mul Go.FloatKind.f32 j11 (nat_lit 1098907648)) IntKind.i64) fun v45=>(Option.bind (zR_M j19 (IntKind.i64.wrap (j8.2.1+j10))) fun v46=>(Option.bind (zR_M j20 (IntKind.i64.wrap (j8.2.1+j10))) fun v47=>r0 j8 j9 j12 j13 (IntKind.i64.wrap (j14+1)) j15 j16 j17 j18 j19 j20 j21 j22 j23 j24 j25 (z1C (j26,j27,()) (z14 (zv v46.1).1 v47.1).1).1.1 (z1C (j26,j27,()) (z14 (zv v46.1).1 v47.1).1).1.2.1 j28 j29 j30 j31 j32 j33 j34 j35 j36))))
def yKK(n:Nat)(r0:Q1→List (Q4)→List Nat→Int→Int→Q1→Q3→Q3→Q1→Q3→Q3→Q4→Q1→Q1→Int→Int→Int→Int→Q1→Q3→Q3→Q1→Q3→Q3→Q4→Q1→Q1→Option ((Q4)×Unit))(r2:Q1→List (Q4)→Int→Nat→List Nat→Int→Int→Q1→Q3→Q3→Q1→Q3→Q3→Q4→Q1→Q1→Int→Int→Int→Int→Q1→Q3→Q3→Q1→Q3→Q3→Q4→Q1→Q1→Option ((Q4)×Unit))(bw:Q1)(aq:List (Q4))(bp:Int)(bx:Nat)(aP:List Nat)(aT:Int)(aU:Int)(aH:Q1)(aI:Q3)(aZ:Q3)(bX:Q1)(bY:Q3)(aY:Q3)(bZ:Q4)(bK:Q1)(bl:Q1)(b4:Int)(b6:Int)(b7:Int)(b8:Int)(bA:Q1)(bB:Q3)(ca:Q3)(cE:Q1)(cF:Q3)(bU:Q3)(cG:Q4)(co:Q1)(bL:Q1):Option ((Q4)×Unit) :=
  (bif decide ((↑aq.length:Int) > 0)then (Option.bind (idx aq (0:Int)) fun v3=>(bif decide (v3.2.1≤bp)then (bif decide ((0:Int)≤1) && decide ((1:Int)≤(↑aq.length:Int))then r2 bw (List.drop (Int.toNat (1:Int)) aq) bp bx aP aT aU aH aI aZ bX bY aY bZ bK bl b4 b6 b7 b8 bA bB ca cE cF bU cG co bL else none)else (yBA n r0 (bw) (aq) (bp) (bx) (aP) (aT) (aU) (aH) (aI) (aZ) (bX) (bY) (aY) (bZ) (bK) (bl) (b4) (b6) (b7) (b8) (bA) (bB) (ca) (cE) (cF) (bU) (cG) (co) (bL))))else (yBA n r0 (bw) (aq) (bp) (bx) (aP) (aT) (aU) (aH) (aI) (aZ) (bX) (bY) (aY) (bZ) (bK) (bl) (b4) (b6) (b7) (b8) (bA) (bB) (ca) (cE) (cF) (bU) (cG) (co) (bL)))
def yJg(n:Nat)(r0:Q1→List (Q4)→List Nat→Int→Int→Q1→Q3→Q3→Q1→Q3→Q3→Q4→Q1→Q1→Int→Int→Int→Int→Q1→Q3→Q3→Q1→Q3→Q3→Q4→Q1→Q1→Option ((Q4)×Unit))(k:Nat)(bw:Q1)(aq:List (Q4))(bp:Int)(bx:Nat)(aP:List Nat)(aT:Int)(aU:Int)(aH:Q1)(aI:Q3)(aZ:Q3)(bX:Q1)(bY:Q3)(aY:Q3)(bZ:Q4)(bK:Q1)(bl:Q1)(b4:Int)(b6:Int)(b7:Int)(b8:Int)(bA:Q1)(bB:Q3)(ca:Q3)(cE:Q1)(cF:Q3)(bU:Q3)(cG:Q4)(co:Q1)(bL:Q1):Option ((Q4)×Unit) :=
  iter (fun r y=>yKK n r0 (fun bw aq bp bx aP aT aU aH aI aZ bX bY aY bZ bK bl b4 b6 b7 b8 bA bB ca cE cF bU cG co bL=>r ((bw,(aq,(bp,(bx,(aP,(aT,(aU,()))))))),(((aH,(aI,(aZ,(bX,(bY,(aY,(bZ,(bK,((bl,()),()))))))))),((b4,(b6,())),((b7,(b8,())),()))),(bA,(bB,(ca,(cE,(cF,(bU,(cG,(co,((bL,()),())))))))))))) y.1.1 y.1.2.1 y.1.2.2.1 y.1.2.2.2.1 y.1.2.2.2.2.1 y.1.2.2.2.2.2.1 y.1.2.2.2.2.2.2.1 y.2.1.1.1 y.2.1.1.2.1 y.2.1.1.2.2.1 y.2.1.1.2.2.2.1 y.2.1.1.2.2.2.2.1 y.2.1.1.2.2.2.2.2.1 y.2.1.1.2.2.2.2.2.2.1 y.2.1.1.2.2.2.2.2.2.2.1 y.2.1.1.2.2.2.2.2.2.2.2.1.1 y.2.1.2.1.1 y.2.1.2.1.2.1 y.2.1.2.2.1.1 y.2.1.2.2.1.2.1 y.2.2.1 y.2.2.2.1 y.2.2.2.2.1 y.2.2.2.2.2.1 y.2.2.2.2.2.2.1 y.2.2.2.2.2.2.2.1 y.2.2.2.2.2.2.2.2.1 y.2.2.2.2.2.2.2.2.2.1 y.2.2.2.2.2.2.2.2.2.2.1.1) k ((bw,(aq,(bp,(bx,(aP,(aT,(aU,()))))))),(((aH,(aI,(aZ,(bX,(bY,(aY,(bZ,(bK,((bl,()),()))))))))),((b4,(b6,())),((b7,(b8,())),()))),(bA,(bB,(ca,(cE,(cF,(bU,(cG,(co,((bL,()),())))))))))))
def yLJ(n:Nat)(r0:Q1→List (Q4)→List Nat→Int→Int→Q1→Q3→Q3→Q1→Q3→Q3→Q4→Q1→Q1→Int→Int→Int→Int→Q1→Q3→Q3→Q1→Q3→Q3→Q4→Q1→Q1→Option ((Q4)×Unit))(au:Q1)(aL:List (Q4))(al:List Nat)(af:Int)(av:Int)(aV:Q1)(aW:Q3)(bD:Q3)(cp:Q1)(cr:Q3)(bC:Q3)(cu:Q4)(cg:Q1)(bH:Q1)(ak:Int)(ah:Int)(bm:Int)(bn:Int)(bO:Q1)(bP:Q3)(cw:Q3)(cL:Q1)(cM:Q3)(cm:Q3)(cN:Q4)(cC:Q1)(ci:Q1):Option ((Q4)×Unit) :=
  (bif decide (av < af)then (Option.bind (idx al av) fun v1=>(yJg n r0 n (au) (aL) (av) (v1) (al) (af) (av) (aV) (aW) (bD) (cp) (cr) (bC) (cu) (cg) (bH) (ak) (ah) (bm) (bn) (bO) (bP) (cw) (cL) (cM) (cm) (cN) (cC) (ci)))else some ((bm,bn,()),()))
def yJK(n:Nat)(k:Nat)(au:Q1)(aL:List (Q4))(al:List Nat)(af:Int)(av:Int)(aV:Q1)(aW:Q3)(bD:Q3)(cp:Q1)(cr:Q3)(bC:Q3)(cu:Q4)(cg:Q1)(bH:Q1)(ak:Int)(ah:Int)(bm:Int)(bn:Int)(bO:Q1)(bP:Q3)(cw:Q3)(cL:Q1)(cM:Q3)(cm:Q3)(cN:Q4)(cC:Q1)(ci:Q1):Option ((Q4)×Unit) :=
  iter (fun r y=>yLJ n (fun au aL al af av aV aW bD cp cr bC cu cg bH ak ah bm bn bO bP cw cL cM cm cN cC ci=>r ((au,(aL,(al,(af,(av,()))))),(((aV,(aW,(bD,(cp,(cr,(bC,(cu,(cg,((bH,()),()))))))))),((ak,(ah,())),((bm,(bn,())),()))),(bO,(bP,(cw,(cL,(cM,(cm,(cN,(cC,((ci,()),())))))))))))) y.1.1 y.1.2.1 y.1.2.2.1 y.1.2.2.2.1 y.1.2.2.2.2.1 y.2.1.1.1 y.2.1.1.2.1 y.2.1.1.2.2.1 y.2.1.1.2.2.2.1 y.2.1.1.2.2.2.2.1 y.2.1.1.2.2.2.2.2.1 y.2.1.1.2.2.2.2.2.2.1 y.2.1.1.2.2.2.2.2.2.2.1 y.2.1.1.2.2.2.2.2.2.2.2.1.1 y.2.1.2.1.1 y.2.1.2.1.2.1 y.2.1.2.2.1.1 y.2.1.2.2.1.2.1 y.2.2.1 y.2.2.2.1 y.2.2.2.2.1 y.2.2.2.2.2.1 y.2.2.2.2.2.2.1 y.2.2.2.2.2.2.2.1 y.2.2.2.2.2.2.2.2.1 y.2.2.2.2.2.2.2.2.2.1 y.2.2.2.2.2.2.2.2.2.2.1.1) k ((au,(aL,(al,(af,(av,()))))),(((aV,(aW,(bD,(cp,(cr,(bC,(cu,(cg,((bH,()),()))))))))),((ak,(ah,())),((bm,(bn,())),()))),(bO,(bP,(cw,(cL,(cM,(cm,(cN,(cC,((ci,()),())))))))))))
def yP7(n:Nat)(r1:Q1)(a:Q3)(b:Q3):Option ((Q4)×Unit) :=
  (yJK n n (r1) (r1.2.2.2.1) (r1.2.2.1) ((↑r1.2.2.1.length:Int)) ((0:Int)) (r1) (a) (b) (r1) (a) (b) (((0:Int),(0:Int),())) (r1) (r1) ((0:Int)) ((0:Int)) ((0:Int)) ((0:Int)) (r1) (a) (b) (r1) (a) (b) (((0:Int),(0:Int),())) (r1) (r1))
theorem yVl(n:Nat)(x:yPj.den):runF yVs (yLm n) Tryz.f148 yPj yUL x=yP7 n x.1 x.2.1 x.2.2.1:=by kernel_rfl
def yGT(r1:Q1)(a:Q3)(b:Q3):Option ((Q4)×Unit):=yP7 1000 r1 a b
theorem yPP(r1:Q1)(a:Q3)(b:Q3)(y:(Q4)×Unit)(h:yGT r1 a b=some y):∃ n,yP7 n r1 a b=some y:=⟨1000,h⟩
def z0z_e:Entry:={ f:=148,args:=yPj,ress:=yUL,m:=fun x=>yGT x.1 x.2.1 x.2.2.1 }
theorem yHr:FnOK Tryz.prog z0z_e:=yJ (g:=yVs) (fn:=Tryz.f148) yA yI (y6 yRX (y6 yOX (y6 yE1 (y6 yBN eNil)))) (by kernel_rfl) (by kernel_rfl) (by kernel_rfl) (fun x y h=>let ⟨n,hn⟩:=yPP x.1 x.2.1 x.2.2.1 y h;⟨yLm n,(y4M y4w (y4M y5A iNil)),(yVl n x).trans hn⟩)
abbrev yZ4:Ty:=.pair t96 .unit
abbrev yaL:Ty:=.pair t57 .unit
class ref02_det_Rec where
  f:yZ4.den→Option yaL.den
section
variable [ref02_det_Rec]
end
abbrev yP4:Ty:=.pair t31 (.pair t23 (.pair t3 .unit))
abbrev yVt:Ty:=.pair t57 .unit
def yVC:G:={ T:=T,E:=[zR_e,z14_e,z1C_e],muts:=[],fz:=[] }
def yaS:List (List Nat):=[[1,2,6,7,11,12,13]]
def yMi(n:Nat):Ann:={ keep:=yaS,fuel:=n,inl:=[],deep:=0 }
def yEk(n:Nat)(r0:List (Q4)→Int→List (Q3)→Int→Int→Int→Int→Int→Int→Option ((Q4)×Unit))(bQ:List (Q4))(aM:Int)(av:List (Q3))(aN:Int)(aR:Int)(az:Int)(aA:Int)(ak:Int)(ah:Int):Option ((Q4)×Unit) :=
  (bif decide (aR < aN)then (Option.bind (idx av aR) fun v1=>(Option.bind (idx bQ aR) fun v2=>(Option.bind (zR_M (v1.1,v1.2.1,v1.2.2.1,()) aM) fun v3=>r0 bQ aM av aN (IntKind.i64.wrap (aR+1)) az aA (z1C (ak,ah,()) (z14 v2 v3.1).1).1.1 (z1C (ak,ah,()) (z14 v2 v3.1).1).1.2.1)))else some ((ak,ah,()),()))
def y74(n:Nat)(k:Nat)(bQ:List (Q4))(aM:Int)(av:List (Q3))(aN:Int)(aR:Int)(az:Int)(aA:Int)(ak:Int)(ah:Int):Option ((Q4)×Unit) :=
  iter (fun r y=>yEk n (fun bQ aM av aN aR az aA ak ah=>r ((bQ,(aM,(av,(aN,(aR,()))))),(((az,(aA,())),((ak,(ah,())),())),()))) y.1.1 y.1.2.1 y.1.2.2.1 y.1.2.2.2.1 y.1.2.2.2.2.1 y.2.1.1.1 y.2.1.1.2.1 y.2.1.2.1.1 y.2.1.2.1.2.1) k ((bQ,(aM,(av,(aN,(aR,()))))),(((az,(aA,())),((ak,(ah,())),())),()))
def yJB(n:Nat)(l:List (Q3))(v:List (Q4))(tick:Int):Option ((Q4)×Unit) :=
  (y74 n n (v) (tick) (l) ((↑l.length:Int)) ((0:Int)) ((0:Int)) ((0:Int)) ((0:Int)) ((0:Int)))
theorem yVx(n:Nat)(x:yP4.den):runF yVC (yMi n) Tryz.f167 yP4 yVt x=yJB n x.1 x.2.1 x.2.2.1:=by kernel_rfl
def yI5(bQ:List (Q4))(aM:Int)(av:List (Q3))(az:Int)(aA:Int)(aR:Int)(v1:Q3)(ak:Int)(ah:Int):Option (((Q4)×Unit)⊕(Int×Int)) :=
  (Option.bind (idx bQ aR) fun v2=>(Option.bind (zR_M (v1.1,v1.2.1,v1.2.2.1,()) aM) fun v3=>(some (Sum.inr (((z1C (ak,ah,()) (z14 v2 v3.1).1).1.1),((z1C (ak,ah,()) (z14 v2 v3.1).1).1.2.1))))))
def yGU(bQ:List (Q4))(aM:Int)(av:List (Q3))(az:Int)(aA:Int)(ak:Int)(ah:Int):Option ((Q4)×Unit) :=
  (some (((ak,ah,()),())))
theorem yD4(n:Nat)(hn:big≤n)(bQ:List (Q4))(aM:Int)(av:List (Q3))(az:Int)(aA:Int)(ak:Int)(ah:Int)(hx:List.length (av) < lenMax):LeF some (yQ (fun aj aE aa=>yI5 bQ aM av az aA aj aE aa.1 aa.2) (fun aa=>yGU bQ aM av az aA aa.1 aa.2) 0 (av) (ak,ah)) (y74 n n bQ aM av (List.length (av):Int) 0 az aA ak ah):=by
  refine yd (f:=some) (W:=fun aG aj aa=>y74 n aG bQ aM av (List.length (av):Int) aj az aA aa.1 aa.2) (body:=(fun aj aE aa=>yI5 bQ aM av az aA aj aE aa.1 aa.2)) (fin:=(fun aa=>yGU bQ aM av az aA aa.1 aa.2)) (fun aG aj aa=>?_) hx (ak,ah) n (by unfold big at hn;unfold lenMax at hx;omega)
  show LeF _ _ (yEk n (y74 n aG) bQ aM av (List.length (av):Int) aj az aA aa.1 aa.2)
  exact y8 (yE fun v1=>(yE fun v2=>(yE fun v3=>(yB rfl)))) (y0c (yB rfl))
def yHt(l:List (Q3))(v:List (Q4))(tick:Int):Option ((Q4)×Unit) :=
  (bif decide (List.length (l) < lenMax)then yQ (fun aj aE aa=>yI5 (v) (tick) (l) ((0:Int)) ((0:Int)) aj aE aa.1 aa.2) (fun aa=>yGU (v) (tick) (l) ((0:Int)) ((0:Int)) aa.1 aa.2) 0 (l) (((0:Int)),((0:Int)))else none)
theorem yNk(l:List (Q3))(v:List (Q4))(tick:Int)(y:(Q4)×Unit)(h:yHt l v tick=some y):∃ n,yJB n l v tick=some y :=
  ⟨big,LeF.top (show LeF some (yHt l v tick) (yJB big l v tick)from (fun (n:Nat) (hn:big≤n)=>show LeF some (yHt l v tick) (yJB n l v tick)from (yg fun hx=>by apply yD4 n hn;exact hx)) big (Nat.le_refl _)) h⟩
def z15_e:Entry:={ f:=167,args:=yP4,ress:=yVt,m:=fun x=>yHt x.1 x.2.1 x.2.2.1 }
theorem yRo:FnOK Tryz.prog z15_e:=yJ (g:=yVC) (fn:=Tryz.f167) yA yI (y6 yRX (y6 yE1 (y6 yBN eNil))) (by kernel_rfl) (by kernel_rfl) (by kernel_rfl) (fun x y h=>let ⟨n,hn⟩:=yNk x.1 x.2.1 x.2.2.1 y h;⟨yMi n,iNil,(yVx n x).trans hn⟩)
abbrev yQH:Ty:=.pair t3 (.pair t41 .unit)
abbrev yX7:Ty:=.pair t3 .unit
def yTy:G:={ T:=T,E:=[z04_e],muts:=[],fz:=[] }
def yZb:List (List Nat):=[[0,7,8,9],[0,6,7,8,9]]
def yMv(n:Nat):Ann:={ keep:=yZb,fuel:=n,inl:=[],deep:=0 }
def yE9(n:Nat)(r0:Int→List Int→Int→Int→Option (Int×Unit))(r2:Int→Int→List Int→Int→Int→Option (Int×Unit))(cl:Int)(bR:Int)(cb:List Int)(cc:Int)(aP:Int):Option (Int×Unit) :=
  (bif bR != 0 then (bif bR==0 then none else r2 bR (cl.tmod bR) cb cc aP)else r0 cl cb cc (IntKind.i64.wrap (aP+1)))
def y6l(n:Nat)(r0:Int→List Int→Int→Int→Option (Int×Unit))(k:Nat)(cl:Int)(bR:Int)(cb:List Int)(cc:Int)(aP:Int):Option (Int×Unit) :=
  iter (fun r y=>yE9 n r0 (fun cl bR cb cc aP=>r ((cl,(bR,(cb,(cc,(aP,()))))),((),()))) y.1.1 y.1.2.1 y.1.2.2.1 y.1.2.2.2.1 y.1.2.2.2.2.1) k ((cl,(bR,(cb,(cc,(aP,()))))),((),()))
def yEK(n:Nat)(r0:Int→List Int→Int→Int→Option (Int×Unit))(bF:Int)(ay:List Int)(ac:Int)(al:Int):Option (Int×Unit) :=
  (bif decide (al < ac)then (Option.bind (idx ay al) fun v1=>(y6l n r0 n (bF) ((z04 v1).1) (ay) (ac) (al)))else some (bF,()))
def y6i(n:Nat)(k:Nat)(bF:Int)(ay:List Int)(ac:Int)(al:Int):Option (Int×Unit) :=
  iter (fun r y=>yEK n (fun bF ay ac al=>r ((bF,(ay,(ac,(al,())))),((),()))) y.1.1 y.1.2.1 y.1.2.2.1 y.1.2.2.2.1) k ((bF,(ay,(ac,(al,())))),((),()))
def yJU(n:Nat)(n1:Int)(l:List Int):Option (Int×Unit) :=
  (y6i n n (n1) (l) ((↑l.length:Int)) ((0:Int)))
theorem ySn(n:Nat)(x:yQH.den):runF yTy (yMv n) Tryz.f186 yQH yX7 x=yJU n x.1 x.2.1:=by kernel_rfl
def yBE(cb:List Int)(cc:Int)(aP:Int)(cl:Int)(bR:Int):Option (((Int×Unit)⊕(Int))⊕(Int×Int)) :=
  (bif bR != 0 then (bif bR==0 then none else (some (Sum.inr ((bR),(cl.tmod bR)))))else (some (Sum.inl (Sum.inr (cl)))))
theorem yDd(n:Nat)(hn:big≤n)(r0:Int→List Int→Int→Int→Option (Int×Unit))(cb:List Int)(cc:Int)(aP:Int)(cl:Int)(bR:Int):LeF (elim some fun (aa:(Int))=>r0 aa cb cc (IntKind.i64.wrap (aP+1))) (y4N (fun aa=>yBE cb cc aP aa.1 aa.2) wMax (cl,bR)) (y6l n r0 n cl bR cb cc aP):=by
  refine y71 (f:=(elim some fun (aa:(Int))=>r0 aa cb cc (IntKind.i64.wrap (aP+1)))) (W:=fun aG aa=>y6l n r0 aG aa.1 aa.2 cb cc aP) (body:=(fun aa=>yBE cb cc aP aa.1 aa.2)) (fun aG aa=>?_) wMax n (cl,bR) (by unfold big at hn;unfold wMax;omega)
  show LeF _ _ (yE9 n r0 (y6l n r0 aG) aa.1 aa.2 cb cc aP)
  exact (y8 (y8 y0C (yB rfl)) (yB rfl))
def yBJ(ay:List Int)(al:Int)(v1:Int)(bF:Int):Option ((Int×Unit)⊕(Int)) :=
  (y4N (fun aa=>yBE (ay) ((↑ay.length:Int)) (al) aa.1 aa.2) wMax ((bF),((z04 v1).1)))
def yGh(ay:List Int)(bF:Int):Option (Int×Unit) :=
  (some ((bF,())))
theorem yCm(n:Nat)(hn:big≤n)(ay:List Int)(bF:Int)(hx:List.length (ay) < lenMax):LeF some (yQ (fun aj aE aa=>yBJ ay aj aE aa) (fun aa=>yGh ay aa) 0 (ay) bF) (y6i n n bF ay (List.length (ay):Int) 0):=by
  refine yd (f:=some) (W:=fun aG aj aa=>y6i n aG aa ay (List.length (ay):Int) aj) (body:=(fun aj aE aa=>yBJ ay aj aE aa)) (fin:=(fun aa=>yGh ay aa)) (fun aG aj aa=>?_) hx bF n (by unfold big at hn;unfold lenMax at hx;omega)
  show LeF _ _ (yEK n (y6i n aG) aa ay (List.length (ay):Int) aj)
  exact y8 (yE fun v1=>(by apply yDd n hn)) (y0c (yB rfl))
def yAf(n1:Int)(l:List Int):Option (Int×Unit) :=
  (bif decide (List.length (l) < lenMax)then yQ (fun aj aE aa=>yBJ (l) aj aE aa) (fun aa=>yGh (l) aa) 0 (l) (n1)else none)
theorem yOJ(n1:Int)(l:List Int)(y:Int×Unit)(h:yAf n1 l=some y):∃ n,yJU n n1 l=some y :=
  ⟨big,LeF.top (show LeF some (yAf n1 l) (yJU big n1 l)from (fun (n:Nat) (hn:big≤n)=>show LeF some (yAf n1 l) (yJU n n1 l)from (yg fun hx=>by apply yCm n hn;exact hx)) big (Nat.le_refl _)) h⟩
def z0I_e:Entry:={ f:=186,args:=yQH,ress:=yX7,m:=fun x=>yAf x.1 x.2.1 }
theorem yN8:FnOK Tryz.prog z0I_e:=yJ (g:=yTy) (fn:=Tryz.f186) yA yI (y6 yB3 eNil) (by kernel_rfl) (by kernel_rfl) (by kernel_rfl) (fun x y h=>let ⟨n,hn⟩:=yOJ x.1 x.2.1 y h;⟨yMv n,iNil,(ySn n x).trans hn⟩)
abbrev yO6:Ty:=.pair t55 (.pair (.ref t60) .unit)
abbrev yTQ:Ty:=.pair t57 .unit
def yTL:G:={ T:=T,E:=[zR_e,zv_e,z0d_e,z1C_e],muts:=[],fz:=[] }
def yZr:List (List Nat):=[]
def yMd(n:Nat):Ann:={ keep:=yZr,fuel:=n,inl:=[il124,il195],deep:=3 }
def yBa(n:Nat)(r0:Q1→List (Q4)→List Nat→Int→Int→Q3→Q1→Q3→Q4→Q1→Q1→Int→Int→Int→Int→Q3→Q1→Q3→Q4→Q1→Q1→Option ((Q4)×Unit))(j8:Q1)(j9:List (Q4))(j10:Int)(j11:Nat)(j12:List Nat)(j13:Int)(j14:Int)(j15:Q3)(j16:Q1)(j17:Q3)(j18:Q4)(j19:Q1)(j20:Q1)(j21:Int)(j22:Int)(j23:Int)(j24:Int)(j25:Q3)(j26:Q1)(j27:Q3)(j28:Q4)(j29:Q1)(j30:Q1):Option ((Q4)×Unit) :=
  (bif decide ((↑j9.length:Int) > 0)then (Option.bind (idx j9 (0:Int)) fun v31=>(bif decide (v31.1≤j10)then r0 j8 j9 j12 j13 (IntKind.i64.wrap (j14+1)) j15 j16 j17 j18 j19 j20 j21 j22 j23 j24 j25 j26 j27 j28 j29 j30 else (Option.bind (y0d Go.FloatKind.f32 (y0g Go.BinOp.mul Go.FloatKind.f32 j11 (nat_lit 1098907648)) IntKind.i64) fun v36=>(Option.bind (zR_M j17 (IntKind.i64.wrap (j8.2.1+j10))) fun v37=>r0 j8 j9 j12 j13 (IntKind.i64.wrap (j14+1)) j15 j16 j17 j18 j19 j20 j21 j22 (z1C (j23,j24,()) (z0d (zv v37.1).1 v36).1).1.1 (z1C (j23,j24,()) (z0d (zv v37.1).1 v36).1).1.2.1 j25 j26 j27 j28 j29 j30))))else (Option.bind (y0d Go.FloatKind.f32 (y0g Go.BinOp.mul Go.FloatKind.f32 j11 (nat_lit 1098907648)) IntKind.i64) fun v38=>(Option.bind (zR_M j17 (IntKind.i64.wrap (j8.2.1+j10))) fun v39=>r0 j8 j9 j12 j13 (IntKind.i64.wrap (j14+1)) j15 j16 j17 j18 j19 j20 j21 j22 (z1C (j23,j24,()) (z0d (zv v39.1).1 v38).1).1.1 (z1C (j23,j24,()) (z0d (zv v39.1).1 v38).1).1.2.1 j25 j26 j27 j28 j29 j30)))
def yJV(n:Nat)(r0:Q1→List (Q4)→List Nat→Int→Int→Q3→Q1→Q3→Q4→Q1→Q1→Int→Int→Int→Int→Q3→Q1→Q3→Q4→Q1→Q1→Option ((Q4)×Unit))(r2:Q1→List (Q4)→Int→Nat→List Nat→Int→Int→Q3→Q1→Q3→Q4→Q1→Q1→Int→Int→Int→Int→Q3→Q1→Q3→Q4→Q1→Q1→Option ((Q4)×Unit))(bw:Q1)(aq:List (Q4))(bp:Int)(bx:Nat)(aP:List Nat)(aT:Int)(aU:Int)(aH:Q3)(aI:Q1)(aZ:Q3)(cd:Q4)(ce:Q1)(bE:Q1)(b4:Int)(b6:Int)(b7:Int)(b8:Int)(bA:Q3)(bB:Q1)(ca:Q3)(cH:Q4)(cI:Q1)(cf:Q1):Option ((Q4)×Unit) :=
  (bif decide ((↑aq.length:Int) > 0)then (Option.bind (idx aq (0:Int)) fun v3=>(bif decide (v3.2.1≤bp)then (bif decide ((0:Int)≤1) && decide ((1:Int)≤(↑aq.length:Int))then r2 bw (List.drop (Int.toNat (1:Int)) aq) bp bx aP aT aU aH aI aZ cd ce bE b4 b6 b7 b8 bA bB ca cH cI cf else none)else (yBa n r0 (bw) (aq) (bp) (bx) (aP) (aT) (aU) (aH) (aI) (aZ) (cd) (ce) (bE) (b4) (b6) (b7) (b8) (bA) (bB) (ca) (cH) (cI) (cf))))else (yBa n r0 (bw) (aq) (bp) (bx) (aP) (aT) (aU) (aH) (aI) (aZ) (cd) (ce) (bE) (b4) (b6) (b7) (b8) (bA) (bB) (ca) (cH) (cI) (cf)))
def yLH(n:Nat)(r0:Q1→List (Q4)→List Nat→Int→Int→Q3→Q1→Q3→Q4→Q1→Q1→Int→Int→Int→Int→Q3→Q1→Q3→Q4→Q1→Q1→Option ((Q4)×Unit))(k:Nat)(bw:Q1)(aq:List (Q4))(bp:Int)(bx:Nat)(aP:List Nat)(aT:Int)(aU:Int)(aH:Q3)(aI:Q1)(aZ:Q3)(cd:Q4)(ce:Q1)(bE:Q1)(b4:Int)(b6:Int)(b7:Int)(b8:Int)(bA:Q3)(bB:Q1)(ca:Q3)(cH:Q4)(cI:Q1)(cf:Q1):Option ((Q4)×Unit) :=
  iter (fun r y=>yJV n r0 (fun bw aq bp bx aP aT aU aH aI aZ cd ce bE b4 b6 b7 b8 bA bB ca cH cI cf=>r ((bw,(aq,(bp,(bx,(aP,(aT,(aU,()))))))),(((aH,(aI,(aZ,(cd,(ce,((bE,()),())))))),((b4,(b6,())),((b7,(b8,())),()))),(bA,(bB,(ca,(cH,(cI,((cf,()),()))))))))) y.1.1 y.1.2.1 y.1.2.2.1 y.1.2.2.2.1 y.1.2.2.2.2.1 y.1.2.2.2.2.2.1 y.1.2.2.2.2.2.2.1 y.2.1.1.1 y.2.1.1.2.1 y.2.1.1.2.2.1 y.2.1.1.2.2.2.1 y.2.1.1.2.2.2.2.1 y.2.1.1.2.2.2.2.2.1.1 y.2.1.2.1.1 y.2.1.2.1.2.1 y.2.1.2.2.1.1 y.2.1.2.2.1.2.1 y.2.2.1 y.2.2.2.1 y.2.2.2.2.1 y.2.2.2.2.2.1 y.2.2.2.2.2.2.1 y.2.2.2.2.2.2.2.1.1) k ((bw,(aq,(bp,(bx,(aP,(aT,(aU,()))))))),(((aH,(aI,(aZ,(cd,(ce,((bE,()),())))))),((b4,(b6,())),((b7,(b8,())),()))),(bA,(bB,(ca,(cH,(cI,((cf,()),()))))))))
def yJu(n:Nat)(r0:Q1→List (Q4)→List Nat→Int→Int→Q3→Q1→Q3→Q4→Q1→Q1→Int→Int→Int→Int→Q3→Q1→Q3→Q4→Q1→Q1→Option ((Q4)×Unit))(au:Q1)(aL:List (Q4))(al:List Nat)(af:Int)(av:Int)(aV:Q3)(aW:Q1)(bD:Q3)(cx:Q4)(cy:Q1)(bS:Q1)(ak:Int)(ah:Int)(bm:Int)(bn:Int)(bO:Q3)(bP:Q1)(cw:Q3)(cO:Q4)(cP:Q1)(cz:Q1):Option ((Q4)×Unit) :=
  (bif decide (av < af)then (Option.bind (idx al av) fun v1=>(yLH n r0 n (au) (aL) (av) (v1) (al) (af) (av) (aV) (aW) (bD) (cx) (cy) (bS) (ak) (ah) (bm) (bn) (bO) (bP) (cw) (cO) (cP) (cz)))else some ((bm,bn,()),()))
def yJ3(n:Nat)(k:Nat)(au:Q1)(aL:List (Q4))(al:List Nat)(af:Int)(av:Int)(aV:Q3)(aW:Q1)(bD:Q3)(cx:Q4)(cy:Q1)(bS:Q1)(ak:Int)(ah:Int)(bm:Int)(bn:Int)(bO:Q3)(bP:Q1)(cw:Q3)(cO:Q4)(cP:Q1)(cz:Q1):Option ((Q4)×Unit) :=
  iter (fun r y=>yJu n (fun au aL al af av aV aW bD cx cy bS ak ah bm bn bO bP cw cO cP cz=>r ((au,(aL,(al,(af,(av,()))))),(((aV,(aW,(bD,(cx,(cy,((bS,()),())))))),((ak,(ah,())),((bm,(bn,())),()))),(bO,(bP,(cw,(cO,(cP,((cz,()),()))))))))) y.1.1 y.1.2.1 y.1.2.2.1 y.1.2.2.2.1 y.1.2.2.2.2.1 y.2.1.1.1 y.2.1.1.2.1 y.2.1.1.2.2.1 y.2.1.1.2.2.2.1 y.2.1.1.2.2.2.2.1 y.2.1.1.2.2.2.2.2.1.1 y.2.1.2.1.1 y.2.1.2.1.2.1 y.2.1.2.2.1.1 y.2.1.2.2.1.2.1 y.2.2.1 y.2.2.2.1 y.2.2.2.2.1 y.2.2.2.2.2.1 y.2.2.2.2.2.2.1 y.2.2.2.2.2.2.2.1.1) k ((au,(aL,(al,(af,(av,()))))),(((aV,(aW,(bD,(cx,(cy,((bS,()),())))))),((ak,(ah,())),((bm,(bn,())),()))),(bO,(bP,(cw,(cO,(cP,((cz,()),()))))))))
def yNm(n:Nat)(c:Q3)(p1:Q1):Option ((Q4)×Unit) :=
  (yJ3 n n (p1) (p1.2.2.2.1) (p1.2.2.1) ((↑p1.2.2.1.length:Int)) ((0:Int)) (c) (p1) (c) (((0:Int),(0:Int),())) (p1) (p1) ((0:Int)) ((0:Int)) ((0:Int)) ((0:Int)) (c) (p1) (c) (((0:Int),(0:Int),())) (p1) (p1))
theorem yYA(n:Nat)(x:yO6.den):runF yTL (yMd n) Tryz.f188 yO6 yTQ x=yNm n x.1 x.2.1:=by kernel_rfl
def yPe(c:Q3)(p1:Q1):Option ((Q4)×Unit):=yNm 1000 c p1
theorem yNq(c:Q3)(p1:Q1)(y:(Q4)×Unit)(h:yPe c p1=some y):∃ n,yNm n c p1=some y:=⟨1000,h⟩
def z0L_e:Entry:={ f:=188,args:=yO6,ress:=yTQ,m:=fun x=>yPe x.1 x.2.1 }
theorem yUx:FnOK Tryz.prog z0L_e:=yJ (g:=yTL) (fn:=Tryz.f188) yA yI (y6 yRX (y6 yOX (y6 y95 (y6 yBN eNil)))) (by kernel_rfl) (by kernel_rfl) (by kernel_rfl) (fun x y h=>let ⟨n,hn⟩:=yNq x.1 x.2.1 y h;⟨yMd n,(y4M y4w (y4M y5A iNil)),(yYA n x).trans hn⟩)
abbrev zS_a:Ty:=.pair t183 (.pair t3 (.pair t3 .unit))
abbrev zS_r:Ty:=.pair t57 .unit
class tide_matrix_expand_Rec where
  f:zS_a.den→Option zS_r.den
section
variable [tide_matrix_expand_Rec]
def y3u:Entry:={ f:=194,args:=zS_a,ress:=zS_r,m:=fun x=>tide_matrix_expand_Rec.f x }
def zS_g:G:={ T:=T,E:=[y3u,z14_e,z0d_e,z1C_e],muts:=[],fz:=[] }
def zS_k:List (List Nat):=[[0,1,2,6,7,8,18,19]]
def yXK(n:Nat):Ann:={ keep:=zS_k,fuel:=n,inl:=[],deep:=0 }
def yHH(n:Nat)(r0:List (List (Q4))→Int→Int→Int→Int→Int→Int→Int→Int→Int→Option ((Q4)×Unit))(bh:List (List (Q4)))(aO:Int)(aF:Int)(aJ:Int)(be:Int)(bj:Int)(az:Int)(aA:Int)(ak:Int)(ah:Int):Option ((Q4)×Unit) :=
  (bif decide (bj < be)then (bif decide (bj < 0)then none else (bif y2S IntKind.i64 Go.BinOp.and (aF.fdiv ((2:Int) ^ Min.min bj.toNat IntKind.i64.bits)) (1:Int)==1 then r0 bh aO aF aJ be (IntKind.i64.wrap (bj+1)) az aA ak ah else (Option.bind (idx bh aO) fun v1=>(Option.bind (idx v1 bj) fun v2=>(bif decide (bj < 0)then none else (Option.bind (tide_matrix_expand_Rec.f (bh,IntKind.i64.wrap (aO+1),y2S IntKind.i64 Go.BinOp.or aF (IntKind.i64.wrap ((1:Int) * 2 ^ Min.min bj.toNat IntKind.i64.bits)),())) fun v3=>r0 bh aO aF (IntKind.i64.wrap ((0:Int) - aJ)) be (IntKind.i64.wrap (bj+1)) az aA (z1C (ak,ah,()) (z0d (z14 v2 v3.1).1 aJ).1).1.1 (z1C (ak,ah,()) (z0d (z14 v2 v3.1).1 aJ).1).1.2.1))))))else some ((ak,ah,()),()))
def yAg(n:Nat)(k:Nat)(bh:List (List (Q4)))(aO:Int)(aF:Int)(aJ:Int)(be:Int)(bj:Int)(az:Int)(aA:Int)(ak:Int)(ah:Int):Option ((Q4)×Unit) :=
  iter (fun r y=>yHH n (fun bh aO aF aJ be bj az aA ak ah=>r ((bh,(aO,(aF,(aJ,(be,(bj,())))))),(((az,(aA,())),((ak,(ah,())),())),()))) y.1.1 y.1.2.1 y.1.2.2.1 y.1.2.2.2.1 y.1.2.2.2.2.1 y.1.2.2.2.2.2.1 y.2.1.1.1 y.2.1.1.2.1 y.2.1.2.1.1 y.2.1.2.1.2.1) k ((bh,(aO,(aF,(aJ,(be,(bj,())))))),(((az,(aA,())),((ak,(ah,())),())),()))
def zS_m(n:Nat)(m:List (List (Q4)))(row:Int)(used:Int):Option ((Q4)×Unit) :=
  (bif row==(↑m.length:Int)then some (((1:Int),(0:Int),()),())else (yAg n n (m) (row) (used) ((1:Int)) ((↑m.length:Int)) ((0:Int)) ((0:Int)) ((0:Int)) ((0:Int)) ((0:Int))))
theorem yYe(n:Nat)(x:zS_a.den):runF zS_g (yXK n) Tryz.f194 zS_a zS_r x=zS_m n x.1 x.2.1 x.2.2.1:=by kernel_rfl
def yPI(bh:List (List (Q4)))(aO:Int)(aF:Int)(be:Int)(az:Int)(aA:Int)(bj:Int)(aJ:Int)(ak:Int)(ah:Int):Option (((Q4)×Unit)⊕(Int×Int×Int)) :=
  (bif decide (bj < 0)then none else (bif y2S IntKind.i64 Go.BinOp.and (aF.fdiv ((2:Int) ^ Min.min bj.toNat IntKind.i64.bits)) (1:Int)==1 then (some (Sum.inr ((aJ),(ak),(ah))))else (Option.bind (idx bh aO) fun v1=>(Option.bind (idx v1 bj) fun v2=>(bif decide (bj < 0)then none else (Option.bind (tide_matrix_expand_Rec.f (bh,IntKind.i64.wrap (aO+1),y2S IntKind.i64 Go.BinOp.or aF (IntKind.i64.wrap ((1:Int) * 2 ^ Min.min bj.toNat IntKind.i64.bits)),())) fun v3=>(some (Sum.inr ((IntKind.i64.wrap ((0:Int) - aJ)),((z1C (ak,ah,()) (z0d (z14 v2 v3.1).1 aJ).1).1.1),((z1C (ak,ah,()) (z0d (z14 v2 v3.1).1 aJ).1).1.2.1))))))))))
def yR5(bh:List (List (Q4)))(aO:Int)(aF:Int)(be:Int)(az:Int)(aA:Int)(aJ:Int)(ak:Int)(ah:Int):Option ((Q4)×Unit) :=
  (some (((ak,ah,()),())))
theorem yGM(n:Nat)(hn:big≤n)(bh:List (List (Q4)))(aO:Int)(aF:Int)(be:Int)(az:Int)(aA:Int)(aJ:Int)(ak:Int)(ah:Int)(hx:(be)≤9223372036854775807):LeF some (y2p (fun aj aa=>yPI bh aO aF be az aA aj aa.1 aa.2.1 aa.2.2) (fun aa=>yR5 bh aO aF be az aA aa.1 aa.2.1 aa.2.2) ((be) - 0).toNat 0 (aJ,ak,ah)) (yAg n n bh aO aF aJ be 0 az aA ak ah):=by
  refine y6k (f:=some) (W:=fun aG aj aa=>yAg n aG bh aO aF aa.1 be aj az aA aa.2.1 aa.2.2) (body:=(fun aj aa=>yPI bh aO aF be az aA aj aa.1 aa.2.1 aa.2.2)) (fin:=(fun aa=>yR5 bh aO aF be az aA aa.1 aa.2.1 aa.2.2)) (fun aG aj aa=>?_) hx (aJ,ak,ah) n 0 (by decide) (by unfold big at hn;omega)
  show LeF _ _ (yHH n (yAg n aG) bh aO aF aa.1 be aj az aA aa.2.1 aa.2.2)
  exact y8 (y8 y0C (y8 (yB rfl) (yE fun v1=>(yE fun v2=>(y8 y0C (yE fun v3=>(yB rfl))))))) (y0c (yB rfl))
def zS_M(m:List (List (Q4)))(row:Int)(used:Int):Option ((Q4)×Unit) :=
  (bif row==(↑m.length:Int)then (some ((((1:Int),(0:Int),()),())))else (bif decide (((↑m.length:Int))≤9223372036854775807)then y2p (fun aj aa=>yPI (m) (row) (used) ((↑m.length:Int)) ((0:Int)) ((0:Int)) aj aa.1 aa.2.1 aa.2.2) (fun aa=>yR5 (m) (row) (used) ((↑m.length:Int)) ((0:Int)) ((0:Int)) aa.1 aa.2.1 aa.2.2) (((↑m.length:Int)) - 0).toNat 0 (((1:Int)),((0:Int)),((0:Int)))else none))
theorem yTz(m:List (List (Q4)))(row:Int)(used:Int)(y:(Q4)×Unit)(h:zS_M m row used=some y):∃ n,zS_m n m row used=some y :=
  ⟨big,LeF.top (show LeF some (zS_M m row used) (zS_m big m row used)from (fun (n:Nat) (hn:big≤n)=>show LeF some (zS_M m row used) (zS_m n m row used)from (y8 (yB rfl) (yg fun hx=>by apply yGM n hn;exact hx))) big (Nat.le_refl _)) h⟩
end
def y08(d:Nat):zS_a.den→Option zS_r.den:=Nat.rec (motive:=fun _=>zS_a.den→Option zS_r.den) (fun _=>none) (fun _ ih x=>@zS_M ⟨ih⟩ x.1 x.2.1 x.2.2.1) d
def y0h(d:Nat):Entry:={ f:=194,args:=zS_a,ress:=zS_r,m:=y08 d }
theorem y1h:(d:Nat)→FnOK Tryz.prog (y0h d)
  | 0=>FnOK.none (fn:=Tryz.f194) (by kernel_rfl) (by kernel_rfl) (by kernel_rfl)
  | d+1=>yJ (g:=@zS_g ⟨y08 d⟩) (fn:=Tryz.f194) (e:=y0h (d+1)) yA yI (y6 (y1h d) (y6 yE1 (y6 y95 (y6 yBN eNil)))) (by kernel_rfl) (by kernel_rfl) (by kernel_rfl) (fun x y h=>let ⟨n,hn⟩:=@yTz ⟨y08 d⟩ x.1 x.2.1 x.2.2.1 y h;⟨yXK n,iNil,(@yYe ⟨y08 d⟩ n x).trans hn⟩)
def zS_e:Entry:=y0h 8
theorem ya0:FnOK Tryz.prog zS_e:=y1h 8
abbrev zW_a:Ty:=.pair t61 .unit
abbrev zW_r:Ty:=.pair t28 .unit
def zW_g:G:={ T:=T,E:=[zY_e,z0g_e],muts:=[],fz:=[] }
def zW_k:List (List Nat):=[]
def yV0(n:Nat):Ann:={ keep:=zW_k,fuel:=n,inl:=[],deep:=0 }
def zW_m(n:Nat)(x1:Nat):Option (Int×Unit) :=
  (bif y0p Go.BinOp.neq Go.FloatKind.f32 (y0g Go.BinOp.sub Go.FloatKind.f32 x1 x1) (nat_lit 0)then some ((1:Int),())else (bif y0p Go.BinOp.lss Go.FloatKind.f32 x1 (nat_lit 3263168512)then some ((3:Int),())else (bif y0p Go.BinOp.gtr Go.FloatKind.f32 x1 (nat_lit 1115684864)then some ((3:Int),())else (Option.bind (zY_M x1) fun v2=>some ((z0g (y0p Go.BinOp.neq Go.FloatKind.f32 (yk Go.FloatKind.f32 v2.1) (y0g Go.BinOp.mul Go.FloatKind.f32 x1 (nat_lit 1098907648))) (3:Int)).1,())))))
theorem yaT(n:Nat)(x:zW_a.den):runF zW_g (yV0 n) Tryz.f197 zW_a zW_r x=zW_m n x.1:=by kernel_rfl
def zW_M(x1:Nat):Option (Int×Unit):=zW_m 0 x1
theorem yW9(x1:Nat)(y:Int×Unit)(h:zW_M x1=some y):∃ n,zW_m n x1=some y:=⟨0,h⟩
def zW_e:Entry:={ f:=197,args:=zW_a,ress:=zW_r,m:=fun x=>zW_M x.1 }
theorem yVB:FnOK Tryz.prog zW_e:=yJ (g:=zW_g) (fn:=Tryz.f197) yA yI (y6 yZi (y6 yB4 eNil)) (by kernel_rfl) (by kernel_rfl) (by kernel_rfl) (fun x y h=>let ⟨n,hn⟩:=yW9 x.1 y h;⟨yV0 n,iNil,(yaT n x).trans hn⟩)
abbrev yQa:Ty:=.pair t3 (.pair t3 (.pair t3 .unit))
abbrev yUw:Ty:=.pair t28 .unit
def yTf:G:={ T:=T,E:=[z0g_e],muts:=[],fz:=[] }
def yYr:List (List Nat):=[]
def yMS(n:Nat):Ann:={ keep:=yYr,fuel:=n,inl:=[],deep:=0 }
def yKR(n:Nat)(n1:Int)(least:Int)(most:Int):Option (Int×Unit) :=
  (bif decide (n1 < least)then some ((z0g Bool.true (3:Int)).1,())else some ((z0g (decide (n1 > most)) (3:Int)).1,()))
theorem yRq(n:Nat)(x:yQa.den):runF yTf (yMS n) Tryz.f201 yQa yUw x=yKR n x.1 x.2.1 x.2.2.1:=by kernel_rfl
def z07(n1:Int)(least:Int)(most:Int):(Int×Unit) :=
  (bif decide (n1 < least)then ((z0g Bool.true (3:Int)).1,())else ((z0g (decide (n1 > most)) (3:Int)).1,()))
abbrev yWV (n1:Int) (least:Int) (most:Int):Option (Int×Unit):=some (z07 n1 least most)
theorem yOa(n1:Int)(least:Int)(most:Int)(y:Int×Unit)(h:yWV n1 least most=some y):∃ n,yKR n n1 least most=some y :=
  ⟨0,by rw[← h];show yKR 0 n1 least most=some (z07 n1 least most);unfold yKR z07;first|rfl|(simp only[yG];done)|(simp only[yG];rfl)⟩
def z07_e:Entry:={ f:=201,args:=yQa,ress:=yUw,m:=fun x=>yWV x.1 x.2.1 x.2.2.1 }
theorem yUt:FnOK Tryz.prog z07_e:=yJ (g:=yTf) (fn:=Tryz.f201) yA yI (y6 yB4 eNil) (by kernel_rfl) (by kernel_rfl) (by kernel_rfl) (fun x y h=>let ⟨n,hn⟩:=yOa x.1 x.2.1 x.2.2.1 y h;⟨yMS n,iNil,(yRq n x).trans hn⟩)
abbrev zB_a:Ty:=.pair t58 (.pair t263 .unit)
abbrev zB_r:Ty:=.pair t4 .unit
def zB_g:G:={ T:=T,E:=[zD_e],muts:=[],fz:=[] }
def zB_k:List (List Nat):=[]
def yV6(n:Nat):Ann:={ keep:=zB_k,fuel:=n,inl:=[],deep:=0 }
def zB_m(n:Nat)(s:List (Q4))(f:(Q4)×Unit→Option (Bool×Unit)):Option (Bool×Unit) :=
  (Option.bind (zD_M s f) fun v0=>some (decide (v0.1 ≥ 0),()))
theorem yak(n:Nat)(x:zB_a.den):runF zB_g (yV6 n) Tryz.f204 zB_a zB_r x=zB_m n x.1 x.2.1:=by kernel_rfl
def zB_M(s:List (Q4))(f:(Q4)×Unit→Option (Bool×Unit)):Option (Bool×Unit):=zB_m 0 s f
theorem yXu(s:List (Q4))(f:(Q4)×Unit→Option (Bool×Unit))(y:Bool×Unit)(h:zB_M s f=some y):∃ n,zB_m n s f=some y:=⟨0,h⟩
def zB_e:Entry:={ f:=204,args:=zB_a,ress:=zB_r,m:=fun x=>zB_M x.1 x.2.1 }
theorem yZy:FnOK Tryz.prog zB_e:=yJ (g:=zB_g) (fn:=Tryz.f204) yA yI (y6 yZW eNil) (by kernel_rfl) (by kernel_rfl) (by kernel_rfl) (fun x y h=>let ⟨n,hn⟩:=yXu x.1 x.2.1 y h;⟨yV6 n,iNil,(yak n x).trans hn⟩)
abbrev zC_a:Ty:=.pair t35 (.pair t265 .unit)
abbrev zC_r:Ty:=.pair t4 .unit
def zC_g:G:={ T:=T,E:=[zE_e],muts:=[],fz:=[] }
def zC_k:List (List Nat):=[]
def yVF(n:Nat):Ann:={ keep:=zC_k,fuel:=n,inl:=[],deep:=0 }
def zC_m(n:Nat)(s:List Nat)(f:Nat×Unit→Option (Bool×Unit)):Option (Bool×Unit) :=
  (Option.bind (zE_M s f) fun v0=>some (decide (v0.1 ≥ 0),()))
theorem yZ2(n:Nat)(x:zC_a.den):runF zC_g (yVF n) Tryz.f207 zC_a zC_r x=zC_m n x.1 x.2.1:=by kernel_rfl
def zC_M(s:List Nat)(f:Nat×Unit→Option (Bool×Unit)):Option (Bool×Unit):=zC_m 0 s f
theorem yVH(s:List Nat)(f:Nat×Unit→Option (Bool×Unit))(y:Bool×Unit)(h:zC_M s f=some y):∃ n,zC_m n s f=some y:=⟨0,h⟩
def zC_e:Entry:={ f:=207,args:=zC_a,ress:=zC_r,m:=fun x=>zC_M x.1 x.2.1 }
theorem yZ6:FnOK Tryz.prog zC_e:=yJ (g:=zC_g) (fn:=Tryz.f207) yA yI (y6 yax eNil) (by kernel_rfl) (by kernel_rfl) (by kernel_rfl) (fun x y h=>let ⟨n,hn⟩:=yVH x.1 x.2.1 y h;⟨yVF n,iNil,(yZ2 n x).trans hn⟩)
abbrev ze_a:Ty:=.pair t63 .unit
abbrev ze_r:Ty:=.pair t28 .unit
def ze_g:G:={ T:=T,E:=[z0g_e],muts:=[],fz:=[] }
def ze_k:List (List Nat):=[]
def yTt(n:Nat):Ann:={ keep:=ze_k,fuel:=n,inl:=[],deep:=0 }
def ze_m(n:Nat)(s:Q4):Option (Int×Unit) :=
  (bif decide (s.1 < 0)then some ((z0g Bool.true (14:Int)).1,())else (bif decide (s.1 ≥ s.2.1)then some ((z0g Bool.true (14:Int)).1,())else some ((z0g (decide (s.2.1 > 100000)) (14:Int)).1,())))
theorem yYi(n:Nat)(x:ze_a.den):runF ze_g (yTt n) Tryz.f225 ze_a ze_r x=ze_m n x.1:=by kernel_rfl
def ze(s:Q4):(Int×Unit) :=
  (bif decide (s.1 < 0)then ((z0g Bool.true (14:Int)).1,())else (bif decide (s.1 ≥ s.2.1)then ((z0g Bool.true (14:Int)).1,())else ((z0g (decide (s.2.1 > 100000)) (14:Int)).1,())))
abbrev ze_M (s:Q4):Option (Int×Unit):=some (ze s)
theorem yY2(s:Q4)(y:Int×Unit)(h:ze_M s=some y):∃ n,ze_m n s=some y :=
  ⟨0,by rw[← h];show ze_m 0 s=some (ze s);unfold ze_m ze;first|rfl|(simp only[yG];done)|(simp only[yG];rfl)⟩
def ze_e:Entry:={ f:=225,args:=ze_a,ress:=ze_r,m:=fun x=>ze_M x.1 }
theorem yYa:FnOK Tryz.prog ze_e:=yJ (g:=ze_g) (fn:=Tryz.f225) yA yI (y6 yB4 eNil) (by kernel_rfl) (by kernel_rfl) (by kernel_rfl) (fun x y h=>let ⟨n,hn⟩:=yY2 x.1 y h;⟨yTt n,iNil,(yYi n x).trans hn⟩)
end
end Go.Tw
end
