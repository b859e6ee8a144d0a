import Derived.Test.YtpcnkpbpcebokaaGreatDoorBT
import Derived.Test.YtpcnkpbpcebokaaGreatDoorB0
import Derived.Test.YtpcnkpbpcebokaaGreatDoorBS
import Derived.Test.YtpcnkpbpcebokaaGreatDoorLQ
set_option linter.all false
section
set_option maxRecDepth 1000000
namespace Go.Tw
open Go.Vx Go.Vx.B Go.Proofs
noncomputable section
abbrev yNX:Ty:=.pair t41 .unit
abbrev ySs:Ty:=.pair t3 .unit
def yRs:G:={ T:=T,E:=[],muts:=[],fz:=[] }
def yZy:List (List Nat):=[[0,3]]
def yMr(n:Nat):Ann:={ keep:=yZy,fuel:=n,inl:=[],deep:=0 }
def yDe(n:Nat)(r0:List Int→Int→Option (Int×Unit))(ax:List Int)(bf:Int):Option (Int×Unit) :=
  (bif decide (bf < (↑ax.length:Int))then (Option.bind (idx ax bf) fun v1=>(bif v1 != 0 then (Option.bind (idx ax bf) fun v2=>some (v2,()))else r0 ax (IntKind.i64.wrap (bf+1))))else some ((0:Int),()))
def y6k(n:Nat)(k:Nat)(ax:List Int)(bf:Int):Option (Int×Unit) :=
  iter (fun r y=>yDe n (fun ax bf=>r ((ax,(bf,())),((),()))) y.1.1 y.1.2.1) k ((ax,(bf,())),((),()))
def yKc(n:Nat)(l:List Int):Option (Int×Unit) :=
  (y6k n n (l) ((0:Int)))
theorem yV1(n:Nat)(x:yNX.den):runF yRs (yMr n) Tryz.f24 yNX ySs x=yKc n x.1:=by kernel_rfl
def yCQ(ax:List Int)(bf:Int)(v1:Int):Option ((Int×Unit)⊕Unit) :=
  (bif v1 != 0 then (Option.bind (idx ax bf) fun v2=>(some (Sum.inl ((v2,())))))else (some (Sum.inr ())))
def yCS(ax:List Int):Option (Int×Unit) :=
  (some (((0:Int),())))
theorem yDB(n:Nat)(hn:big≤n)(ax:List Int)(hx:List.length (ax) < lenMax):LeF some (yQ (fun aj aE aa=>yCQ ax aj aE) (fun aa=>yCS ax) 0 (ax) ()) (y6k n n ax 0):=by
  refine yd (f:=some) (W:=fun aG aj aa=>y6k n aG ax aj) (body:=(fun aj aE aa=>yCQ ax aj aE)) (fin:=(fun aa=>yCS ax)) (fun aG aj aa=>?_) hx () n (by unfold big at hn;unfold lenMax at hx;omega)
  show LeF _ _ (yDe n (y6k n aG) ax aj)
  exact y8 (yE fun v1=>(y8 (yE fun v2=>(yB rfl)) (yB rfl))) (y0b (yB rfl))
def yAM(l:List Int):Option (Int×Unit) :=
  (bif decide (List.length (l) < lenMax)then yQ (fun aj aE aa=>yCQ (l) aj aE) (fun aa=>yCS (l)) 0 (l) ()else none)
theorem yRD(l:List Int)(y:Int×Unit)(h:yAM l=some y):∃ n,yKc n l=some y :=
  ⟨big,LeF.top (show LeF some (yAM l) (yKc big l)from (fun (n:Nat) (hn:big≤n)=>show LeF some (yAM l) (yKc n l)from (yg fun hx=>by apply yDB n hn;exact hx)) big (Nat.le_refl _)) h⟩
def z0Q_e:Entry:={ f:=24,args:=yNX,ress:=ySs,m:=fun x=>yAM x.1 }
theorem yIF:FnOK Tryz.prog z0Q_e:=yJ (g:=yRs) (fn:=Tryz.f24) yA yI eNil (by kernel_rfl) (by kernel_rfl) (by kernel_rfl) (fun x y h=>let ⟨n,hn⟩:=yRD x.1 y h;⟨yMr n,iNil,(yV1 n x).trans hn⟩)
abbrev zV_a:Ty:=.pair t23 (.pair t23 .unit)
abbrev zV_r:Ty:=.pair t4 .unit
def zV_g:G:={ T:=T,E:=[],muts:=[],fz:=[] }
def zV_k:List (List Nat):=[[0,1,5]]
def yX5(n:Nat):Ann:={ keep:=zV_k,fuel:=n,inl:=[],deep:=0 }
def yGy(n:Nat)(r0:List (Q4)→List (Q4)→Int→Option (Bool×Unit))(am:List (Q4))(ar:List (Q4))(aw:Int):Option (Bool×Unit) :=
  (bif decide (aw < (↑am.length:Int))then (Option.bind (idx am aw) fun v1=>(Option.bind (idx ar aw) fun v2=>(bif !eqV ((Ty.int IntKind.i64).pair ((Ty.int IntKind.i64).pair Ty.unit)) v1 v2 then some (Bool.false,())else r0 am ar (IntKind.i64.wrap (aw+1)))))else some (Bool.true,()))
def yAf(n:Nat)(k:Nat)(am:List (Q4))(ar:List (Q4))(aw:Int):Option (Bool×Unit) :=
  iter (fun r y=>yGy n (fun am ar aw=>r ((am,(ar,(aw,()))),((),()))) y.1.1 y.1.2.1 y.1.2.2.1) k ((am,(ar,(aw,()))),((),()))
def zV_m(n:Nat)(a:List (Q4))(b:List (Q4)):Option (Bool×Unit) :=
  (bif (↑a.length:Int) != (↑b.length:Int)then some (Bool.false,())else (yAf n n (a) (b) ((0:Int))))
theorem yao(n:Nat)(x:zV_a.den):runF zV_g (yX5 n) Tryz.f29 zV_a zV_r x=zV_m n x.1 x.2.1:=by kernel_rfl
def yJa(am:List (Q4))(ar:List (Q4))(aw:Int)(v1:Q4):Option ((Bool×Unit)⊕Unit) :=
  (Option.bind (idx ar aw) fun v2=>(bif !eqV ((Ty.int IntKind.i64).pair ((Ty.int IntKind.i64).pair Ty.unit)) v1 v2 then (some (Sum.inl ((Bool.false,()))))else (some (Sum.inr ()))))
def yQC(am:List (Q4))(ar:List (Q4)):Option (Bool×Unit) :=
  (some ((Bool.true,())))
theorem yFk(n:Nat)(hn:big≤n)(am:List (Q4))(ar:List (Q4))(hx:List.length (am) < lenMax):LeF some (yQ (fun aj aE aa=>yJa am ar aj aE) (fun aa=>yQC am ar) 0 (am) ()) (yAf n n am ar 0):=by
  refine yd (f:=some) (W:=fun aG aj aa=>yAf n aG am ar aj) (body:=(fun aj aE aa=>yJa am ar aj aE)) (fin:=(fun aa=>yQC am ar)) (fun aG aj aa=>?_) hx () n (by unfold big at hn;unfold lenMax at hx;omega)
  show LeF _ _ (yGy n (yAf n aG) am ar aj)
  exact y8 (yE fun v1=>(yE fun v2=>(y8 (yB rfl) (yB rfl)))) (y0b (yB rfl))
def zV_M(a:List (Q4))(b:List (Q4)):Option (Bool×Unit) :=
  (bif (↑a.length:Int) != (↑b.length:Int)then (some ((Bool.false,())))else (bif decide (List.length (a) < lenMax)then yQ (fun aj aE aa=>yJa (a) (b) aj aE) (fun aa=>yQC (a) (b)) 0 (a) ()else none))
theorem yUz(a:List (Q4))(b:List (Q4))(y:Bool×Unit)(h:zV_M a b=some y):∃ n,zV_m n a b=some y :=
  ⟨big,LeF.top (show LeF some (zV_M a b) (zV_m big a b)from (fun (n:Nat) (hn:big≤n)=>show LeF some (zV_M a b) (zV_m n a b)from (y8 (yB rfl) (yg fun hx=>by apply yFk n hn;exact hx))) big (Nat.le_refl _)) h⟩
def zV_e:Entry:={ f:=29,args:=zV_a,ress:=zV_r,m:=fun x=>zV_M x.1 x.2.1 }
theorem yQo:FnOK Tryz.prog zV_e:=yJ (g:=zV_g) (fn:=Tryz.f29) yA yI eNil (by kernel_rfl) (by kernel_rfl) (by kernel_rfl) (fun x y h=>let ⟨n,hn⟩:=yUz x.1 x.2.1 y h;⟨yX5 n,iNil,(yao n x).trans hn⟩)
abbrev za_a:Ty:=.pair t35 (.pair t35 .unit)
abbrev za_r:Ty:=.pair t4 .unit
def za_g:G:={ T:=T,E:=[],muts:=[],fz:=[] }
def za_k:List (List Nat):=[[0,1,5]]
def yXd(n:Nat):Ann:={ keep:=za_k,fuel:=n,inl:=[],deep:=0 }
def yQs(n:Nat)(r0:List Nat→List Nat→Int→Option (Bool×Unit))(am:List Nat)(ar:List Nat)(aw:Int):Option (Bool×Unit) :=
  (bif decide (aw < (↑am.length:Int))then (Option.bind (idx am aw) fun v1=>(Option.bind (idx ar aw) fun v2=>(bif y0m Go.BinOp.neq Go.FloatKind.f32 v1 v2 then some (Bool.false,())else r0 am ar (IntKind.i64.wrap (aw+1)))))else some (Bool.true,()))
def yPO(n:Nat)(k:Nat)(am:List Nat)(ar:List Nat)(aw:Int):Option (Bool×Unit) :=
  iter (fun r y=>yQs n (fun am ar aw=>r ((am,(ar,(aw,()))),((),()))) y.1.1 y.1.2.1 y.1.2.2.1) k ((am,(ar,(aw,()))),((),()))
def za_m(n:Nat)(a:List Nat)(b:List Nat):Option (Bool×Unit) :=
  (bif (↑a.length:Int) != (↑b.length:Int)then some (Bool.false,())else (yPO n n (a) (b) ((0:Int))))
theorem yZL(n:Nat)(x:za_a.den):runF za_g (yXd n) Tryz.f30 za_a za_r x=za_m n x.1 x.2.1:=by kernel_rfl
def za_M(a:List Nat)(b:List Nat):Option (Bool×Unit):=za_m 1000 a b
theorem yX1(a:List Nat)(b:List Nat)(y:Bool×Unit)(h:za_M a b=some y):∃ n,za_m n a b=some y:=⟨1000,h⟩
def za_e:Entry:={ f:=30,args:=za_a,ress:=za_r,m:=fun x=>za_M x.1 x.2.1 }
theorem yaO:FnOK Tryz.prog za_e:=yJ (g:=za_g) (fn:=Tryz.f30) yA yI eNil (by kernel_rfl) (by kernel_rfl) (by kernel_rfl) (fun x y h=>let ⟨n,hn⟩:=yX1 x.1 x.2.1 y h;⟨yXd n,iNil,(yZL n x).trans hn⟩)
abbrev zj_a:Ty:=.pair t22 .unit
abbrev zj_r:Ty:=.pair t4 .unit
def zj_g:G:={ T:=T,E:=[],muts:=[],fz:=[] }
def zj_k:List (List Nat):=[[0,3]]
def yUv(n:Nat):Ann:={ keep:=zj_k,fuel:=n,inl:=[],deep:=0 }
def yGq(n:Nat)(r0:List (Q3)→Int→Option (Bool×Unit))(ax:List (Q3))(bf:Int):Option (Bool×Unit) :=
  (bif decide (bf < (↑ax.length:Int))then (Option.bind (idx ax bf) fun v1=>(bif decide ((↑v1.1.length:Int) > 60)then some (Bool.false,())else r0 ax (IntKind.i64.wrap (bf+1))))else some (decide ((↑ax.length:Int)≤5),()))
def yAd(n:Nat)(k:Nat)(ax:List (Q3))(bf:Int):Option (Bool×Unit) :=
  iter (fun r y=>yGq n (fun ax bf=>r ((ax,(bf,())),((),()))) y.1.1 y.1.2.1) k ((ax,(bf,())),((),()))
def zj_m(n:Nat)(l:List (Q3)):Option (Bool×Unit) :=
  (yAd n n (l) ((0:Int)))
theorem yaa(n:Nat)(x:zj_a.den):runF zj_g (yUv n) Tryz.f31 zj_a zj_r x=zj_m n x.1:=by kernel_rfl
def yJp(ax:List (Q3))(bf:Int)(v1:Q3):Option ((Bool×Unit)⊕Unit) :=
  (bif decide ((↑v1.1.length:Int) > 60)then (some (Sum.inl ((Bool.false,()))))else (some (Sum.inr ())))
def yGs(ax:List (Q3)):Option (Bool×Unit) :=
  (some ((decide ((↑ax.length:Int)≤5),())))
theorem yFl(n:Nat)(hn:big≤n)(ax:List (Q3))(hx:List.length (ax) < lenMax):LeF some (yQ (fun aj aE aa=>yJp ax aj aE) (fun aa=>yGs ax) 0 (ax) ()) (yAd n n ax 0):=by
  refine yd (f:=some) (W:=fun aG aj aa=>yAd n aG ax aj) (body:=(fun aj aE aa=>yJp ax aj aE)) (fin:=(fun aa=>yGs ax)) (fun aG aj aa=>?_) hx () n (by unfold big at hn;unfold lenMax at hx;omega)
  show LeF _ _ (yGq n (yAd n aG) ax aj)
  exact y8 (yE fun v1=>(y8 (yB rfl) (yB rfl))) (y0b (yB rfl))
def zj_M(l:List (Q3)):Option (Bool×Unit) :=
  (bif decide (List.length (l) < lenMax)then yQ (fun aj aE aa=>yJp (l) aj aE) (fun aa=>yGs (l)) 0 (l) ()else none)
theorem yTL(l:List (Q3))(y:Bool×Unit)(h:zj_M l=some y):∃ n,zj_m n l=some y :=
  ⟨big,LeF.top (show LeF some (zj_M l) (zj_m big l)from (fun (n:Nat) (hn:big≤n)=>show LeF some (zj_M l) (zj_m n l)from (yg fun hx=>by apply yFl n hn;exact hx)) big (Nat.le_refl _)) h⟩
def zj_e:Entry:={ f:=31,args:=zj_a,ress:=zj_r,m:=fun x=>zj_M x.1 }
theorem yYX:FnOK Tryz.prog zj_e:=yJ (g:=zj_g) (fn:=Tryz.f31) yA yI eNil (by kernel_rfl) (by kernel_rfl) (by kernel_rfl) (fun x y h=>let ⟨n,hn⟩:=yTL x.1 y h;⟨yUv n,iNil,(yaa n x).trans hn⟩)
abbrev yPX:Ty:=.pair t22 .unit
abbrev yXQ:Ty:=.pair t31 .unit
def yWQ:G:={ T:=T,E:=[],muts:=[3],fz:=[] }
def yZt:List (List Nat):=[[3,6,7,8]]
def yMN(n:Nat):Ann:={ keep:=yZt,fuel:=n,inl:=[],deep:=0 }
def yEf(n:Nat)(r0:List (Q3)→Int→Int→List (Q3)→Option (List (Q3)×Unit))(aD:List (Q3))(ay:Int)(ac:Int)(aK:List (Q3)):Option (List (Q3)×Unit) :=
  (bif decide (ac < ay)then (Option.bind (idx aD ac) fun v1=>(bif decide (aK.length+(1:Nat)≤memMax)then r0 aD ay (IntKind.i64.wrap (ac+1)) (aK++[(v1.1,v1.2.1,v1.2.2.1,())])else none))else some (aK,()))
def y6p(n:Nat)(k:Nat)(aD:List (Q3))(ay:Int)(ac:Int)(aK:List (Q3)):Option (List (Q3)×Unit) :=
  iter (fun r y=>yEf n (fun aD ay ac aK=>r ((aD,(ay,(ac,()))),((aK,()),()))) y.1.1 y.1.2.1 y.1.2.2.1 y.2.1.1) k ((aD,(ay,(ac,()))),((aK,()),()))
def yKu(n:Nat)(l:List (Q3)):Option (List (Q3)×Unit) :=
  (y6p n n (l) ((↑l.length:Int)) ((0:Int)) ([]))
theorem yVD(n:Nat)(x:yPX.den):runF yWQ (yMN n) Tryz.f33 yPX yXQ x=yKu n x.1:=by kernel_rfl
def yEA(aD:List (Q3))(ac:Int)(v1:Q3)(aK:List (Q3)):Option ((List (Q3)×Unit)⊕(List (Q3))) :=
  (bif decide (aK.length+(1:Nat)≤memMax)then (some (Sum.inr (aK++[(v1.1,v1.2.1,v1.2.2.1,())])))else none)
def yGp(aD:List (Q3))(aK:List (Q3)):Option (List (Q3)×Unit) :=
  (some ((aK,())))
theorem yCm(n:Nat)(hn:big≤n)(aD:List (Q3))(aK:List (Q3))(hx:List.length (aD) < lenMax):LeF some (yQ (fun aj aE aa=>yEA aD aj aE aa) (fun aa=>yGp aD aa) 0 (aD) aK) (y6p n n aD (List.length (aD):Int) 0 aK):=by
  refine yd (f:=some) (W:=fun aG aj aa=>y6p n aG aD (List.length (aD):Int) aj aa) (body:=(fun aj aE aa=>yEA aD aj aE aa)) (fin:=(fun aa=>yGp aD aa)) (fun aG aj aa=>?_) hx aK n (by unfold big at hn;unfold lenMax at hx;omega)
  show LeF _ _ (yEf n (y6p n aG) aD (List.length (aD):Int) aj aa)
  exact y8 (yE fun v1=>(y8 (yB rfl) y0D)) (y0b (yB rfl))
def yDW(l:List (Q3)):Option (List (Q3)×Unit) :=
  (bif decide (List.length (l) < lenMax)then yQ (fun aj aE aa=>yEA (l) aj aE aa) (fun aa=>yGp (l) aa) 0 (l) ([])else none)
theorem yOF(l:List (Q3))(y:List (Q3)×Unit)(h:yDW l=some y):∃ n,yKu n l=some y :=
  ⟨big,LeF.top (show LeF some (yDW l) (yKu big l)from (fun (n:Nat) (hn:big≤n)=>show LeF some (yDW l) (yKu n l)from (yg fun hx=>by apply yCm n hn;exact hx)) big (Nat.le_refl _)) h⟩
def z0h_e:Entry:={ f:=33,args:=yPX,ress:=yXQ,m:=fun x=>yDW x.1 }
theorem yRv:FnOK Tryz.prog z0h_e:=yJ (g:=yWQ) (fn:=Tryz.f33) yA yI eNil (by kernel_rfl) (by kernel_rfl) (by kernel_rfl) (fun x y h=>let ⟨n,hn⟩:=yOF x.1 y h;⟨yMN n,iNil,(yVD n x).trans hn⟩)
abbrev yNh:Ty:=.pair t33 .unit
abbrev yWc:Ty:=.pair t25 .unit
def yYC:G:={ T:=T,E:=[],muts:=[3,10],fz:=[] }
def yah:List (List Nat):=[[2,3,12,13,14]]
def yLt(n:Nat):Ann:={ keep:=yah,fuel:=n,inl:=[],deep:=0 }
def yEs(n:Nat)(r0:List (Q3)→Int→Int→Int→List (Q4)→Int→List (Q3)→Option ((Q2)×Unit))(aN:List (Q3))(aR:Int)(aB:Int)(aX:Int)(ah:List (Q4))(aS:Int)(bu:List (Q3)):Option ((Q2)×Unit) :=
  (bif decide (aB < aR)then (Option.bind (idx aN aB) fun v1=>(bif decide (bu.length+(1:Nat)≤memMax)then r0 aN aR (IntKind.i64.wrap (aB+1)) aX ah aS (bu++[(v1.1,v1.2.1,v1.2.2.1,())])else none))else some ((bu,ah,aS,()),()))
def y6u(n:Nat)(k:Nat)(aN:List (Q3))(aR:Int)(aB:Int)(aX:Int)(ah:List (Q4))(aS:Int)(bu:List (Q3)):Option ((Q2)×Unit) :=
  iter (fun r y=>yEs n (fun aN aR aB aX ah aS bu=>r ((aN,(aR,(aB,()))),(((aX,()),((ah,(aS,())),(bu,()))),()))) y.1.1 y.1.2.1 y.1.2.2.1 y.2.1.1.1 y.2.1.2.1.1 y.2.1.2.1.2.1 y.2.1.2.2.1) k ((aN,(aR,(aB,()))),(((aX,()),((ah,(aS,())),(bu,()))),()))
def yLJ(n:Nat)(t:Q2):Option ((Q2)×Unit) :=
  (y6u n n (t.1) ((↑t.1.length:Int)) ((0:Int)) ((0:Int)) (t.2.1) (t.2.2.1) ([]))
theorem yXf(n:Nat)(x:yNh.den):runF yYC (yLt n) Tryz.f39 yNh yWc x=yLJ n x.1:=by kernel_rfl
def yEg(aN:List (Q3))(aX:Int)(ah:List (Q4))(aS:Int)(aB:Int)(v1:Q3)(bu:List (Q3)):Option (((Q2)×Unit)⊕(List (Q3))) :=
  (bif decide (bu.length+(1:Nat)≤memMax)then (some (Sum.inr (bu++[(v1.1,v1.2.1,v1.2.2.1,())])))else none)
def yGT(aN:List (Q3))(aX:Int)(ah:List (Q4))(aS:Int)(bu:List (Q3)):Option ((Q2)×Unit) :=
  (some (((bu,ah,aS,()),())))
theorem yCx(n:Nat)(hn:big≤n)(aN:List (Q3))(aX:Int)(ah:List (Q4))(aS:Int)(bu:List (Q3))(hx:List.length (aN) < lenMax):LeF some (yQ (fun aj aE aa=>yEg aN aX ah aS aj aE aa) (fun aa=>yGT aN aX ah aS aa) 0 (aN) bu) (y6u n n aN (List.length (aN):Int) 0 aX ah aS bu):=by
  refine yd (f:=some) (W:=fun aG aj aa=>y6u n aG aN (List.length (aN):Int) aj aX ah aS aa) (body:=(fun aj aE aa=>yEg aN aX ah aS aj aE aa)) (fin:=(fun aa=>yGT aN aX ah aS aa)) (fun aG aj aa=>?_) hx bu n (by unfold big at hn;unfold lenMax at hx;omega)
  show LeF _ _ (yEs n (y6u n aG) aN (List.length (aN):Int) aj aX ah aS aa)
  exact y8 (yE fun v1=>(y8 (yB rfl) y0D)) (y0b (yB rfl))
def yBL(t:Q2):Option ((Q2)×Unit) :=
  (bif decide (List.length (t.1) < lenMax)then yQ (fun aj aE aa=>yEg (t.1) ((0:Int)) (t.2.1) (t.2.2.1) aj aE aa) (fun aa=>yGT (t.1) ((0:Int)) (t.2.1) (t.2.2.1) aa) 0 (t.1) ([])else none)
theorem yR0(t:Q2)(y:(Q2)×Unit)(h:yBL t=some y):∃ n,yLJ n t=some y :=
  ⟨big,LeF.top (show LeF some (yBL t) (yLJ big t)from (fun (n:Nat) (hn:big≤n)=>show LeF some (yBL t) (yLJ n t)from (yg fun hx=>by apply yCx n hn;exact hx)) big (Nat.le_refl _)) h⟩
def z0j_e:Entry:={ f:=39,args:=yNh,ress:=yWc,m:=fun x=>yBL x.1 }
theorem yU5:FnOK Tryz.prog z0j_e:=yJ (g:=yYC) (fn:=Tryz.f39) yA yI eNil (by kernel_rfl) (by kernel_rfl) (by kernel_rfl) (fun x y h=>let ⟨n,hn⟩:=yR0 x.1 y h;⟨yLt n,iNil,(yXf n x).trans hn⟩)
abbrev zZ_a:Ty:=.pair t3 (.pair t3 (.pair t3 .unit))
abbrev zZ_r:Ty:=.pair t3 .unit
def zZ_g:G:={ T:=T,E:=[],muts:=[],fz:=[] }
def zZ_k:List (List Nat):=[]
def yYM(n:Nat):Ann:={ keep:=zZ_k,fuel:=n,inl:=[],deep:=0 }
def zZ_m(n:Nat)(n1:Int)(low:Int)(high:Int):Option (Int×Unit) :=
  (bif decide (n1 < low)then some ((3:Int),())else (bif decide (n1 > high)then some ((3:Int),())else some ((0:Int),())))
theorem yZf(n:Nat)(x:zZ_a.den):runF zZ_g (yYM n) Tryz.f44 zZ_a zZ_r x=zZ_m n x.1 x.2.1 x.2.2.1:=by kernel_rfl
def zZ(n1:Int)(low:Int)(high:Int):(Int×Unit) :=
  (bif decide (n1 < low)then ((3:Int),())else (bif decide (n1 > high)then ((3:Int),())else ((0:Int),())))
abbrev zZ_M (n1:Int) (low:Int) (high:Int):Option (Int×Unit):=some (zZ n1 low high)
theorem yTy(n1:Int)(low:Int)(high:Int)(y:Int×Unit)(h:zZ_M n1 low high=some y):∃ n,zZ_m n n1 low high=some y :=
  ⟨0,by rw[← h];show zZ_m 0 n1 low high=some (zZ n1 low high);unfold zZ_m zZ;first|rfl|(simp only[yG];done)|(simp only[yG];rfl)⟩
def zZ_e:Entry:={ f:=44,args:=zZ_a,ress:=zZ_r,m:=fun x=>zZ_M x.1 x.2.1 x.2.2.1 }
theorem yKM:FnOK Tryz.prog zZ_e:=yJ (g:=zZ_g) (fn:=Tryz.f44) yA yI eNil (by kernel_rfl) (by kernel_rfl) (by kernel_rfl) (fun x y h=>let ⟨n,hn⟩:=yTy x.1 x.2.1 x.2.2.1 y h;⟨yYM n,iNil,(yZf n x).trans hn⟩)
abbrev yPA:Ty:=.pair t4 (.pair t3 .unit)
abbrev yTt:Ty:=.pair t3 .unit
def yUe:G:={ T:=T,E:=[],muts:=[],fz:=[] }
def yYk:List (List Nat):=[]
def yMl(n:Nat):Ann:={ keep:=yYk,fuel:=n,inl:=[],deep:=0 }
def yK9(n:Nat)(holds:Bool)(e:Int):Option (Int×Unit) :=
  (bif holds then some (e,())else some ((0:Int),()))
theorem yVF(n:Nat)(x:yPA.den):runF yUe (yMl n) Tryz.f47 yPA yTt x=yK9 n x.1 x.2.1:=by kernel_rfl
def z0l(holds:Bool)(e:Int):(Int×Unit) :=
  (bif holds then (e,())else ((0:Int),()))
abbrev yWO (holds:Bool) (e:Int):Option (Int×Unit):=some (z0l holds e)
theorem yQO(holds:Bool)(e:Int)(y:Int×Unit)(h:yWO holds e=some y):∃ n,yK9 n holds e=some y :=
  ⟨0,by rw[← h];show yK9 0 holds e=some (z0l holds e);unfold yK9 z0l;first|rfl|(simp only[yG];done)|(simp only[yG];rfl)⟩
def z0l_e:Entry:={ f:=47,args:=yPA,ress:=yTt,m:=fun x=>yWO x.1 x.2.1 }
theorem ySW:FnOK Tryz.prog z0l_e:=yJ (g:=yUe) (fn:=Tryz.f47) yA yI eNil (by kernel_rfl) (by kernel_rfl) (by kernel_rfl) (fun x y h=>let ⟨n,hn⟩:=yQO x.1 x.2.1 y h;⟨yMl n,iNil,(yVF n x).trans hn⟩)
abbrev yOq:Ty:=.pair t25 .unit
abbrev yTk:Ty:=.pair t4 .unit
def yUF:G:={ T:=T,E:=[],muts:=[],fz:=[] }
def yZu:List (List Nat):=[[1,3]]
def yLf(n:Nat):Ann:={ keep:=yZu,fuel:=n,inl:=[],deep:=0 }
def yDh(n:Nat)(r0:Q2→Int→Option (Bool×Unit))(au:Q2)(bf:Int):Option (Bool×Unit) :=
  (bif decide (bf < (↑au.2.1.length:Int))then (Option.bind (idx au.2.1 bf) fun v1=>(bif decide ((if Bool.true=Bool.true then imax (imax (imax v1.1 v1.2.1) (IntKind.i64.wrap ((0:Int) - v1.1))) (IntKind.i64.wrap ((0:Int) - v1.2.1))else imin (imin (imin v1.1 v1.2.1) (IntKind.i64.wrap ((0:Int) - v1.1))) (IntKind.i64.wrap ((0:Int) - v1.2.1))) > 4194304)then some (Bool.false,())else r0 au (IntKind.i64.wrap (bf+1))))else some (decide (au.2.2.1≤4096),()))
def y70(n:Nat)(k:Nat)(au:Q2)(bf:Int):Option (Bool×Unit) :=
  iter (fun r y=>yDh n (fun au bf=>r ((au,(bf,())),((),()))) y.1.1 y.1.2.1) k ((au,(bf,())),((),()))
def yKw(n:Nat)(t:Q2):Option (Bool×Unit) :=
  (y70 n n (t) ((0:Int)))
theorem yU7(n:Nat)(x:yOq.den):runF yUF (yLf n) Tryz.f48 yOq yTk x=yKw n x.1:=by kernel_rfl
def yDl(au:Q2)(bf:Int)(v1:Q4):Option ((Bool×Unit)⊕Unit) :=
  (bif decide ((if Bool.true=Bool.true then imax (imax (imax v1.1 v1.2.1) (IntKind.i64.wrap ((0:Int) - v1.1))) (IntKind.i64.wrap ((0:Int) - v1.2.1))else imin (imin (imin v1.1 v1.2.1) (IntKind.i64.wrap ((0:Int) - v1.1))) (IntKind.i64.wrap ((0:Int) - v1.2.1))) > 4194304)then (some (Sum.inl ((Bool.false,()))))else (some (Sum.inr ())))
def yHj(au:Q2):Option (Bool×Unit) :=
  (some ((decide (au.2.2.1≤4096),())))
theorem yDV(n:Nat)(hn:big≤n)(au:Q2)(hx:List.length (au.2.1) < lenMax):LeF some (yQ (fun aj aE aa=>yDl au aj aE) (fun aa=>yHj au) 0 (au.2.1) ()) (y70 n n au 0):=by
  refine yd (f:=some) (W:=fun aG aj aa=>y70 n aG au aj) (body:=(fun aj aE aa=>yDl au aj aE)) (fin:=(fun aa=>yHj au)) (fun aG aj aa=>?_) hx () n (by unfold big at hn;unfold lenMax at hx;omega)
  show LeF _ _ (yDh n (y70 n aG) au aj)
  exact y8 (yE fun v1=>(y8 (yB rfl) (yB rfl))) (y0b (yB rfl))
def y7O(t:Q2):Option (Bool×Unit) :=
  (bif decide (List.length (t.2.1) < lenMax)then yQ (fun aj aE aa=>yDl (t) aj aE) (fun aa=>yHj (t)) 0 (t.2.1) ()else none)
theorem yPo(t:Q2)(y:Bool×Unit)(h:y7O t=some y):∃ n,yKw n t=some y :=
  ⟨big,LeF.top (show LeF some (y7O t) (yKw big t)from (fun (n:Nat) (hn:big≤n)=>show LeF some (y7O t) (yKw n t)from (yg fun hx=>by apply yDV n hn;exact hx)) big (Nat.le_refl _)) h⟩
def z0T_e:Entry:={ f:=48,args:=yOq,ress:=yTk,m:=fun x=>y7O x.1 }
theorem yNE:FnOK Tryz.prog z0T_e:=yJ (g:=yUF) (fn:=Tryz.f48) yA yI eNil (by kernel_rfl) (by kernel_rfl) (by kernel_rfl) (fun x y h=>let ⟨n,hn⟩:=yPo x.1 y h;⟨yLf n,iNil,(yU7 n x).trans hn⟩)
abbrev yOM:Ty:=.pair t69 (.pair t28 (.pair t3 (.pair t69 .unit)))
abbrev yUC:Ty:=.pair t4 .unit
def yVz:G:={ T:=T,E:=[],muts:=[],fz:=[] }
def yaS:List (List Nat):=[]
def yM2(n:Nat):Ann:={ keep:=yaS,fuel:=n,inl:=[],deep:=0 }
def yIv(n:Nat)(p0:Q4)(e:Int)(bad:Int)(want:Q4):Option (Bool×Unit) :=
  (bif e==bad then (bif bad != 0 then (bif eqV ((Ty.int IntKind.i64).pair ((Ty.int IntKind.i64).pair Ty.unit)) p0 ((0:Int),(0:Int),())then some (Bool.true,())else (bif bad==0 then some (eqV ((Ty.int IntKind.i64).pair ((Ty.int IntKind.i64).pair Ty.unit)) p0 want,())else some (Bool.false,())))else (bif bad==0 then some (eqV ((Ty.int IntKind.i64).pair ((Ty.int IntKind.i64).pair Ty.unit)) p0 want,())else some (Bool.false,())))else some (Bool.false,()))
theorem yXR(n:Nat)(x:yOM.den):runF yVz (yM2 n) Tryz.f52 yOM yUC x=yIv n x.1 x.2.1 x.2.2.1 x.2.2.2.1:=by kernel_rfl
def z0P(p0:Q4)(e:Int)(bad:Int)(want:Q4):(Bool×Unit) :=
  (bif e==bad then (bif bad != 0 then (bif eqV ((Ty.int IntKind.i64).pair ((Ty.int IntKind.i64).pair Ty.unit)) p0 ((0:Int),(0:Int),())then (Bool.true,())else (bif bad==0 then (eqV ((Ty.int IntKind.i64).pair ((Ty.int IntKind.i64).pair Ty.unit)) p0 want,())else (Bool.false,())))else (bif bad==0 then (eqV ((Ty.int IntKind.i64).pair ((Ty.int IntKind.i64).pair Ty.unit)) p0 want,())else (Bool.false,())))else (Bool.false,()))
abbrev yUX (p0:Q4) (e:Int) (bad:Int) (want:Q4):Option (Bool×Unit):=some (z0P p0 e bad want)
theorem yOI(p0:Q4)(e:Int)(bad:Int)(want:Q4)(y:Bool×Unit)(h:yUX p0 e bad want=some y):∃ n,yIv n p0 e bad want=some y :=
  ⟨0,by rw[← h];show yIv 0 p0 e bad want=some (z0P p0 e bad want);unfold yIv z0P;first|rfl|(simp only[yG];done)|(simp only[yG];rfl)⟩
def z0P_e:Entry:={ f:=52,args:=yOM,ress:=yUC,m:=fun x=>yUX x.1 x.2.1 x.2.2.1 x.2.2.2.1 }
theorem yVK:FnOK Tryz.prog z0P_e:=yJ (g:=yVz) (fn:=Tryz.f52) yA yI eNil (by kernel_rfl) (by kernel_rfl) (by kernel_rfl) (fun x y h=>let ⟨n,hn⟩:=yOI x.1 x.2.1 x.2.2.1 x.2.2.2.1 y h;⟨yM2 n,iNil,(yXR n x).trans hn⟩)
abbrev zq_a:Ty:=.pair t79 (.pair t79 .unit)
abbrev zq_r:Ty:=.pair t4 .unit
def zq_g:G:={ T:=T,E:=[],muts:=[],fz:=[] }
def zq_k:List (List Nat):=[[0,1,5]]
def ySt(n:Nat):Ann:={ keep:=zq_k,fuel:=n,inl:=[],deep:=0 }
def yI6(n:Nat)(r0:List (Nat×Nat)→List (Nat×Nat)→Int→Option (Bool×Unit))(am:List (Nat×Nat))(ar:List (Nat×Nat))(aw:Int):Option (Bool×Unit) :=
  (bif decide (aw < (↑am.length:Int))then (Option.bind (idx am aw) fun v1=>(Option.bind (idx ar aw) fun v2=>(bif !y4W Go.FloatKind.f32 v1 v2 then some (Bool.false,())else r0 am ar (IntKind.i64.wrap (aw+1)))))else some (Bool.true,()))
def yA4(n:Nat)(k:Nat)(am:List (Nat×Nat))(ar:List (Nat×Nat))(aw:Int):Option (Bool×Unit) :=
  iter (fun r y=>yI6 n (fun am ar aw=>r ((am,(ar,(aw,()))),((),()))) y.1.1 y.1.2.1 y.1.2.2.1) k ((am,(ar,(aw,()))),((),()))
def zq_m(n:Nat)(a:List (Nat×Nat))(b:List (Nat×Nat)):Option (Bool×Unit) :=
  (bif (↑a.length:Int) != (↑b.length:Int)then some (Bool.false,())else (yA4 n n (a) (b) ((0:Int))))
theorem yZ6(n:Nat)(x:zq_a.den):runF zq_g (ySt n) Tryz.f53 zq_a zq_r x=zq_m n x.1 x.2.1:=by kernel_rfl
def yK6(am:List (Nat×Nat))(ar:List (Nat×Nat))(aw:Int)(v1:Nat×Nat):Option ((Bool×Unit)⊕Unit) :=
  (Option.bind (idx ar aw) fun v2=>(bif !y4W Go.FloatKind.f32 v1 v2 then (some (Sum.inl ((Bool.false,()))))else (some (Sum.inr ()))))
def yQE(am:List (Nat×Nat))(ar:List (Nat×Nat)):Option (Bool×Unit) :=
  (some ((Bool.true,())))
theorem yFS(n:Nat)(hn:big≤n)(am:List (Nat×Nat))(ar:List (Nat×Nat))(hx:List.length (am) < lenMax):LeF some (yQ (fun aj aE aa=>yK6 am ar aj aE) (fun aa=>yQE am ar) 0 (am) ()) (yA4 n n am ar 0):=by
  refine yd (f:=some) (W:=fun aG aj aa=>yA4 n aG am ar aj) (body:=(fun aj aE aa=>yK6 am ar aj aE)) (fin:=(fun aa=>yQE am ar)) (fun aG aj aa=>?_) hx () n (by unfold big at hn;unfold lenMax at hx;omega)
  show LeF _ _ (yI6 n (yA4 n aG) am ar aj)
  exact y8 (yE fun v1=>(yE fun v2=>(y8 (yB rfl) (yB rfl)))) (y0b (yB rfl))
def zq_M(a:List (Nat×Nat))(b:List (Nat×Nat)):Option (Bool×Unit) :=
  (bif (↑a.length:Int) != (↑b.length:Int)then (some ((Bool.false,())))else (bif decide (List.length (a) < lenMax)then yQ (fun aj aE aa=>yK6 (a) (b) aj aE) (fun aa=>yQE (a) (b)) 0 (a) ()else none))
theorem yWq(a:List (Nat×Nat))(b:List (Nat×Nat))(y:Bool×Unit)(h:zq_M a b=some y):∃ n,zq_m n a b=some y :=
  ⟨big,LeF.top (show LeF some (zq_M a b) (zq_m big a b)from (fun (n:Nat) (hn:big≤n)=>show LeF some (zq_M a b) (zq_m n a b)from (y8 (yB rfl) (yg fun hx=>by apply yFS n hn;exact hx))) big (Nat.le_refl _)) h⟩
def zq_e:Entry:={ f:=53,args:=zq_a,ress:=zq_r,m:=fun x=>zq_M x.1 x.2.1 }
theorem yY9:FnOK Tryz.prog zq_e:=yJ (g:=zq_g) (fn:=Tryz.f53) yA yI eNil (by kernel_rfl) (by kernel_rfl) (by kernel_rfl) (fun x y h=>let ⟨n,hn⟩:=yWq x.1 x.2.1 y h;⟨ySt n,iNil,(yZ6 n x).trans hn⟩)
abbrev zi_a:Ty:=.pair t100 (.pair t100 .unit)
abbrev zi_r:Ty:=.pair t4 .unit
def zi_g:G:={ T:=T,E:=[],muts:=[],fz:=[] }
def zi_k:List (List Nat):=[[0,1,5]]
def yTu(n:Nat):Ann:={ keep:=zi_k,fuel:=n,inl:=[],deep:=0 }
def yR7(n:Nat)(r0:List (List Int)→List (List Int)→Int→Option (Bool×Unit))(am:List (List Int))(ar:List (List Int))(aw:Int):Option (Bool×Unit) :=
  (bif decide (aw < (↑am.length:Int))then (Option.bind (idx am aw) fun v1=>(Option.bind (idx ar aw) fun v2=>(bif !eqV (Ty.arr (2:Nat) (Ty.int IntKind.i64)) v1 v2 then some (Bool.false,())else r0 am ar (IntKind.i64.wrap (aw+1)))))else some (Bool.true,()))
def yPp(n:Nat)(k:Nat)(am:List (List Int))(ar:List (List Int))(aw:Int):Option (Bool×Unit) :=
  iter (fun r y=>yR7 n (fun am ar aw=>r ((am,(ar,(aw,()))),((),()))) y.1.1 y.1.2.1 y.1.2.2.1) k ((am,(ar,(aw,()))),((),()))
def zi_m(n:Nat)(a:List (List Int))(b:List (List Int)):Option (Bool×Unit) :=
  (bif (↑a.length:Int) != (↑b.length:Int)then some (Bool.false,())else (yPp n n (a) (b) ((0:Int))))
theorem yaZ(n:Nat)(x:zi_a.den):runF zi_g (yTu n) Tryz.f66 zi_a zi_r x=zi_m n x.1 x.2.1:=by kernel_rfl
def zi_M(a:List (List Int))(b:List (List Int)):Option (Bool×Unit):=zi_m 1000 a b
theorem yYE(a:List (List Int))(b:List (List Int))(y:Bool×Unit)(h:zi_M a b=some y):∃ n,zi_m n a b=some y:=⟨1000,h⟩
def zi_e:Entry:={ f:=66,args:=zi_a,ress:=zi_r,m:=fun x=>zi_M x.1 x.2.1 }
theorem yYc:FnOK Tryz.prog zi_e:=yJ (g:=zi_g) (fn:=Tryz.f66) yA yI eNil (by kernel_rfl) (by kernel_rfl) (by kernel_rfl) (fun x y h=>let ⟨n,hn⟩:=yYE x.1 x.2.1 y h;⟨yTu n,iNil,(yaZ n x).trans hn⟩)
abbrev zo_a:Ty:=.pair t41 (.pair t41 .unit)
abbrev zo_r:Ty:=.pair t4 .unit
def zo_g:G:={ T:=T,E:=[],muts:=[],fz:=[] }
def zo_k:List (List Nat):=[[0,1,5]]
def yVB(n:Nat):Ann:={ keep:=zo_k,fuel:=n,inl:=[],deep:=0 }
def yQy(n:Nat)(r0:List Int→List Int→Int→Option (Bool×Unit))(am:List Int)(ar:List Int)(aw:Int):Option (Bool×Unit) :=
  (bif decide (aw < (↑am.length:Int))then (Option.bind (idx am aw) fun v1=>(Option.bind (idx ar aw) fun v2=>(bif v1 != v2 then some (Bool.false,())else r0 am ar (IntKind.i64.wrap (aw+1)))))else some (Bool.true,()))
def yNq(n:Nat)(k:Nat)(am:List Int)(ar:List Int)(aw:Int):Option (Bool×Unit) :=
  iter (fun r y=>yQy n (fun am ar aw=>r ((am,(ar,(aw,()))),((),()))) y.1.1 y.1.2.1 y.1.2.2.1) k ((am,(ar,(aw,()))),((),()))
def zo_m(n:Nat)(a:List Int)(b:List Int):Option (Bool×Unit) :=
  (bif (↑a.length:Int) != (↑b.length:Int)then some (Bool.false,())else (yNq n n (a) (b) ((0:Int))))
theorem yaP(n:Nat)(x:zo_a.den):runF zo_g (yVB n) Tryz.f75 zo_a zo_r x=zo_m n x.1 x.2.1:=by kernel_rfl
def zo_M(a:List Int)(b:List Int):Option (Bool×Unit):=zo_m 1000 a b
theorem yS6(a:List Int)(b:List Int)(y:Bool×Unit)(h:zo_M a b=some y):∃ n,zo_m n a b=some y:=⟨1000,h⟩
def zo_e:Entry:={ f:=75,args:=zo_a,ress:=zo_r,m:=fun x=>zo_M x.1 x.2.1 }
theorem yaD:FnOK Tryz.prog zo_e:=yJ (g:=zo_g) (fn:=Tryz.f75) yA yI eNil (by kernel_rfl) (by kernel_rfl) (by kernel_rfl) (fun x y h=>let ⟨n,hn⟩:=yS6 x.1 x.2.1 y h;⟨yVB n,iNil,(yaP n x).trans hn⟩)
abbrev yPm:Ty:=.pair t57 (.pair t57 .unit)
abbrev ySA:Ty:=.pair t57 .unit
def yRa:G:={ T:=T,E:=[],muts:=[],fz:=[] }
def yZ5:List (List Nat):=[]
def yMW(n:Nat):Ann:={ keep:=yZ5,fuel:=n,inl:=[],deep:=0 }
def yKk(n:Nat)(a:Q4)(b:Q4):Option ((Q4)×Unit) :=
  some ((IntKind.i64.wrap (IntKind.i64.wrap (a.1 * b.1) - IntKind.i64.wrap (a.2.1 * b.2.1)),IntKind.i64.wrap (IntKind.i64.wrap (a.1 * b.2.1)+IntKind.i64.wrap (a.2.1 * b.1)),()),())
theorem ySP(n:Nat)(x:yPm.den):runF yRa (yMW n) Tryz.f80 yPm ySA x=yKk n x.1 x.2.1:=by kernel_rfl
def z0R(a:Q4)(b:Q4):((Q4)×Unit) :=
  ((IntKind.i64.wrap (IntKind.i64.wrap (a.1 * b.1) - IntKind.i64.wrap (a.2.1 * b.2.1)),IntKind.i64.wrap (IntKind.i64.wrap (a.1 * b.2.1)+IntKind.i64.wrap (a.2.1 * b.1)),()),())
abbrev yU3 (a:Q4) (b:Q4):Option ((Q4)×Unit):=some (z0R a b)
theorem yQK(a:Q4)(b:Q4)(y:(Q4)×Unit)(h:yU3 a b=some y):∃ n,yKk n a b=some y :=
  ⟨0,by rw[← h];show yKk 0 a b=some (z0R a b);unfold yKk z0R;first|rfl|(simp only[yG];done)|(simp only[yG];rfl)⟩
def z0R_e:Entry:={ f:=80,args:=yPm,ress:=ySA,m:=fun x=>yU3 x.1 x.2.1 }
theorem yMq:FnOK Tryz.prog z0R_e:=yJ (g:=yRa) (fn:=Tryz.f80) yA yI eNil (by kernel_rfl) (by kernel_rfl) (by kernel_rfl) (fun x y h=>let ⟨n,hn⟩:=yQK x.1 x.2.1 y h;⟨yMW n,iNil,(ySP n x).trans hn⟩)
abbrev yOs:Ty:=.pair t57 (.pair t57 .unit)
abbrev yTj:Ty:=.pair t57 .unit
def yV6:G:={ T:=T,E:=[],muts:=[],fz:=[] }
def yYO:List (List Nat):=[]
def yMX(n:Nat):Ann:={ keep:=yYO,fuel:=n,inl:=[],deep:=0 }
def yJu(n:Nat)(a:Q4)(b:Q4):Option ((Q4)×Unit) :=
  some ((IntKind.i64.wrap (a.1+b.1),IntKind.i64.wrap (a.2.1+b.2.1),()),())
theorem yRl(n:Nat)(x:yOs.den):runF yV6 (yMX n) Tryz.f82 yOs yTj x=yJu n x.1 x.2.1:=by kernel_rfl
def z0n(a:Q4)(b:Q4):((Q4)×Unit) :=
  ((IntKind.i64.wrap (a.1+b.1),IntKind.i64.wrap (a.2.1+b.2.1),()),())
abbrev yRb (a:Q4) (b:Q4):Option ((Q4)×Unit):=some (z0n a b)
theorem yQL(a:Q4)(b:Q4)(y:(Q4)×Unit)(h:yRb a b=some y):∃ n,yJu n a b=some y :=
  ⟨0,by rw[← h];show yJu 0 a b=some (z0n a b);unfold yJu z0n;first|rfl|(simp only[yG];done)|(simp only[yG];rfl)⟩
def z0n_e:Entry:={ f:=82,args:=yOs,ress:=yTj,m:=fun x=>yRb x.1 x.2.1 }
theorem yUG:FnOK Tryz.prog z0n_e:=yJ (g:=yV6) (fn:=Tryz.f82) yA yI eNil (by kernel_rfl) (by kernel_rfl) (by kernel_rfl) (fun x y h=>let ⟨n,hn⟩:=yQL x.1 x.2.1 y h;⟨yMX n,iNil,(yRl n x).trans hn⟩)
abbrev zz_a:Ty:=.pair t23 .unit
abbrev zz_r:Ty:=.pair t23 .unit
def zz_g:G:={ T:=T,E:=[],muts:=[3],fz:=[] }
def zz_k:List (List Nat):=[]
def yTG(n:Nat):Ann:={ keep:=zz_k,fuel:=n,inl:=[],deep:=0 }
def zz_m(n:Nat)(l:List (Q4)):Option (List (Q4)×Unit) :=
  (bif decide ((0:Nat)+l.length≤memMax)then some (l,())else none)
theorem yaC(n:Nat)(x:zz_a.den):runF zz_g (yTG n) Tryz.f84 zz_a zz_r x=zz_m n x.1:=by kernel_rfl
def zz_M(l:List (Q4)):Option (List (Q4)×Unit):=zz_m 0 l
theorem yXt(l:List (Q4))(y:List (Q4)×Unit)(h:zz_M l=some y):∃ n,zz_m n l=some y:=⟨0,h⟩
def zz_e:Entry:={ f:=84,args:=zz_a,ress:=zz_r,m:=fun x=>zz_M x.1 }
theorem yZv:FnOK Tryz.prog zz_e:=yJ (g:=zz_g) (fn:=Tryz.f84) yA yI eNil (by kernel_rfl) (by kernel_rfl) (by kernel_rfl) (fun x y h=>let ⟨n,hn⟩:=yXt x.1 y h;⟨yTG n,iNil,(yaC n x).trans hn⟩)
abbrev yQ0:Ty:=.pair t58 .unit
abbrev yV3:Ty:=.pair t60 .unit
def yXN:G:={ T:=T,E:=[],muts:=[],fz:=[] }
def yZl:List (List Nat):=[]
def yML(n:Nat):Ann:={ keep:=yZl,fuel:=n,inl:=[],deep:=0 }
def yJx(n:Nat)(gaps:List (Q4)):Option ((Q1)×Unit) :=
  some (([(103:UInt8)],(0:Int),[nat_lit 1065353216,nat_lit 0,nat_lit 3212836864,nat_lit 0],gaps,()),())
theorem yUE(n:Nat)(x:yQ0.den):runF yXN (yML n) Tryz.f102 yQ0 yV3 x=yJx n x.1:=by kernel_rfl
def z0k(gaps:List (Q4)):((Q1)×Unit) :=
  (([(103:UInt8)],(0:Int),[nat_lit 1065353216,nat_lit 0,nat_lit 3212836864,nat_lit 0],gaps,()),())
abbrev ySf (gaps:List (Q4)):Option ((Q1)×Unit):=some (z0k gaps)
theorem yOl(gaps:List (Q4))(y:(Q1)×Unit)(h:ySf gaps=some y):∃ n,yJx n gaps=some y :=
  ⟨0,by rw[← h];show yJx 0 gaps=some (z0k gaps);unfold yJx z0k;first|rfl|(simp only[yG];done)|(simp only[yG];rfl)⟩
def z0k_e:Entry:={ f:=102,args:=yQ0,ress:=yV3,m:=fun x=>ySf x.1 }
theorem yUL:FnOK Tryz.prog z0k_e:=yJ (g:=yXN) (fn:=Tryz.f102) yA yI eNil (by kernel_rfl) (by kernel_rfl) (by kernel_rfl) (fun x y h=>let ⟨n,hn⟩:=yOl x.1 y h;⟨yML n,iNil,(yUE n x).trans hn⟩)
abbrev yNe:Ty:=.pair t9 .unit
abbrev yVt:Ty:=.pair t31 .unit
def yTE:G:={ T:=T,E:=[],muts:=[3],fz:=[] }
def yaA:List (List Nat):=[[3,8]]
def yNB(n:Nat):Ann:={ keep:=yaA,fuel:=n,inl:=[],deep:=0 }
def yL6(n:Nat)(r0:List (Q3)→List UInt8→Int→Option (List (Q3)×Unit))(aK:List (Q3))(str1__0:List UInt8)(pos1__0:Int):Option (List (Q3)×Unit) :=
  (bif decide (pos1__0 < (↑str1__0.length:Int))then (bif (ya str1__0 pos1__0).1==72 then (bif decide (aK.length+(1:Nat)≤memMax)then r0 (aK++[(y3m (ya str1__0 pos1__0).1,(1:Int),(2:Int),())]) str1__0 (ya str1__0 pos1__0).2 else none)else (bif (ya str1__0 pos1__0).1==81 then (bif decide (aK.length+(1:Nat)≤memMax)then r0 (aK++[(y3m (ya str1__0 pos1__0).1,(1:Int),(1:Int),())]) str1__0 (ya str1__0 pos1__0).2 else none)else (bif (ya str1__0 pos1__0).1==82 then (bif decide (aK.length+(1:Nat)≤memMax)then r0 (aK++[(y3m (ya str1__0 pos1__0).1,(1:Int),(3:Int),())]) str1__0 (ya str1__0 pos1__0).2 else none)else (bif decide (aK.length+(1:Nat)≤memMax)then r0 (aK++[(y3m (ya str1__0 pos1__0).1,(1:Int),(0:Int),())]) str1__0 (ya str1__0 pos1__0).2 else none))))else some (aK,()))
def yKy(n:Nat)(k:Nat)(aK:List (Q3))(str1__0:List UInt8)(pos1__0:Int):Option (List (Q3)×Unit) :=
  iter (fun r y=>yL6 n (fun aK str1__0 pos1__0=>r ((),((aK,((str1__0,pos1__0),())),()))) y.2.1.1 y.2.1.2.1.1 y.2.1.2.1.2) k ((),((aK,((str1__0,pos1__0),())),()))
def yNf(n:Nat)(names:List UInt8):Option (List (Q3)×Unit) :=
  (yKy n n ([]) (names) ((0:Int)))
theorem ySR(n:Nat)(x:yNe.den):runF yTE (yNB n) Tryz.f103 yNe yVt x=yNf n x.1:=by kernel_rfl
def y5e(names:List UInt8):Option (List (Q3)×Unit):=yNf 1000 names
theorem yOa(names:List UInt8)(y:List (Q3)×Unit)(h:y5e names=some y):∃ n,yNf n names=some y:=⟨1000,h⟩
def z0O_e:Entry:={ f:=103,args:=yNe,ress:=yVt,m:=fun x=>y5e x.1 }
theorem yTD:FnOK Tryz.prog z0O_e:=yJ (g:=yTE) (fn:=Tryz.f103) yA yI eNil (by kernel_rfl) (by kernel_rfl) (by kernel_rfl) (fun x y h=>let ⟨n,hn⟩:=yOa x.1 y h;⟨yNB n,iNil,(ySR n x).trans hn⟩)
abbrev yOH:Ty:=.pair t175 .unit
abbrev yRf:Ty:=.pair t28 .unit
def yXv:G:={ T:=T,E:=[],muts:=[],fz:=[] }
def yag:List (List Nat):=[[5,6,7]]
def yN2(n:Nat):Ann:={ keep:=yag,fuel:=n,inl:=[],deep:=0 }
def yEj(n:Nat)(r0:List Int→Int→Int→Option (Int×Unit))(bg:List Int)(aD:Int)(ay:Int):Option (Int×Unit) :=
  (bif decide (ay < aD)then (Option.bind (idx bg ay) fun v1=>(bif v1 != 0 then some (v1,())else r0 bg aD (IntKind.i64.wrap (ay+1))))else some ((0:Int),()))
def y6j(n:Nat)(k:Nat)(bg:List Int)(aD:Int)(ay:Int):Option (Int×Unit) :=
  iter (fun r y=>yEj n (fun bg aD ay=>r ((bg,(aD,(ay,()))),((),()))) y.1.1 y.1.2.1 y.1.2.2.1) k ((bg,(aD,(ay,()))),((),()))
def yKl(n:Nat)(l:List Int):Option (Int×Unit) :=
  (y6j n n (l) ((↑l.length:Int)) ((0:Int)))
theorem yXm(n:Nat)(x:yOH.den):runF yXv (yN2 n) Tryz.f104 yOH yRf x=yKl n x.1:=by kernel_rfl
def yDi(bg:List Int)(ay:Int)(v1:Int):Option ((Int×Unit)⊕Unit) :=
  (bif v1 != 0 then (some (Sum.inl ((v1,()))))else (some (Sum.inr ())))
def yE3(bg:List Int):Option (Int×Unit) :=
  (some (((0:Int),())))
theorem yDF(n:Nat)(hn:big≤n)(bg:List Int)(hx:List.length (bg) < lenMax):LeF some (yQ (fun aj aE aa=>yDi bg aj aE) (fun aa=>yE3 bg) 0 (bg) ()) (y6j n n bg (List.length (bg):Int) 0):=by
  refine yd (f:=some) (W:=fun aG aj aa=>y6j n aG bg (List.length (bg):Int) aj) (body:=(fun aj aE aa=>yDi bg aj aE)) (fin:=(fun aa=>yE3 bg)) (fun aG aj aa=>?_) hx () n (by unfold big at hn;unfold lenMax at hx;omega)
  show LeF _ _ (yEj n (y6j n aG) bg (List.length (bg):Int) aj)
  exact y8 (yE fun v1=>(y8 (yB rfl) (yB rfl))) (y0b (yB rfl))
def y1g(l:List Int):Option (Int×Unit) :=
  (bif decide (List.length (l) < lenMax)then yQ (fun aj aE aa=>yDi (l) aj aE) (fun aa=>yE3 (l)) 0 (l) ()else none)
theorem yQb(l:List Int)(y:Int×Unit)(h:y1g l=some y):∃ n,yKl n l=some y :=
  ⟨big,LeF.top (show LeF some (y1g l) (yKl big l)from (fun (n:Nat) (hn:big≤n)=>show LeF some (y1g l) (yKl n l)from (yg fun hx=>by apply yDF n hn;exact hx)) big (Nat.le_refl _)) h⟩
def z0y_e:Entry:={ f:=104,args:=yOH,ress:=yRf,m:=fun x=>y1g x.1 }
theorem y3T:FnOK Tryz.prog z0y_e:=yJ (g:=yXv) (fn:=Tryz.f104) yA yI eNil (by kernel_rfl) (by kernel_rfl) (by kernel_rfl) (fun x y h=>let ⟨n,hn⟩:=yQb x.1 y h;⟨yN2 n,iNil,(yXm n x).trans hn⟩)
abbrev yPh:Ty:=.pair t3 (.pair t3 .unit)
abbrev yTJ:Ty:=.pair t3 .unit
def yWC:G:={ T:=T,E:=[],muts:=[],fz:=[] }
def yZd:List (List Nat):=[]
def yMz(n:Nat):Ann:={ keep:=yZd,fuel:=n,inl:=[],deep:=0 }
def yRP(n:Nat)(a:Int)(b:Int):Option (Int×Unit) :=
  (bif IntKind.i64.wrap ((2:Int) * b)==0 then none else (bif IntKind.i64.wrap ((2:Int) * b)==0 then none else (bif decide ((IntKind.i64.wrap (IntKind.i64.wrap ((2:Int) * a)+b)).tmod (IntKind.i64.wrap ((2:Int) * b)) < 0)then some (IntKind.i64.wrap (IntKind.i64.wrap ((IntKind.i64.wrap (IntKind.i64.wrap ((2:Int) * a)+b)).tdiv (IntKind.i64.wrap ((2:Int) * b))) - (1:Int)),())else some (IntKind.i64.wrap ((IntKind.i64.wrap (IntKind.i64.wrap ((2:Int) * a)+b)).tdiv (IntKind.i64.wrap ((2:Int) * b))),()))))
theorem ySV(n:Nat)(x:yPh.den):runF yWC (yMz n) Tryz.f107 yPh yTJ x=yRP n x.1 x.2.1:=by kernel_rfl
def yRW(a:Int)(b:Int):Option (Int×Unit):=yRP 0 a b
theorem yOi(a:Int)(b:Int)(y:Int×Unit)(h:yRW a b=some y):∃ n,yRP n a b=some y:=⟨0,h⟩
def z0J_e:Entry:={ f:=107,args:=yPh,ress:=yTJ,m:=fun x=>yRW x.1 x.2.1 }
theorem yVL:FnOK Tryz.prog z0J_e:=yJ (g:=yWC) (fn:=Tryz.f107) yA yI eNil (by kernel_rfl) (by kernel_rfl) (by kernel_rfl) (fun x y h=>let ⟨n,hn⟩:=yOi x.1 x.2.1 y h;⟨yMz n,iNil,(ySV n x).trans hn⟩)
abbrev yPS:Ty:=.pair t3 .unit
abbrev yWj:Ty:=.pair t3 .unit
def yTA:G:={ T:=T,E:=[],muts:=[],fz:=[] }
def yan:List (List Nat):=[]
def yMa(n:Nat):Ann:={ keep:=yan,fuel:=n,inl:=[],deep:=0 }
def yJS(n:Nat)(n1:Int):Option (Int×Unit) :=
  some (if IntKind.i64.wrap ((0:Int) - n1) > n1 then IntKind.i64.wrap ((0:Int) - n1)else n1,())
theorem ySb(n:Nat)(x:yPS.den):runF yTA (yMa n) Tryz.f108 yPS yWj x=yJS n x.1:=by kernel_rfl
def z04(n1:Int):(Int×Unit) :=
  (if IntKind.i64.wrap ((0:Int) - n1) > n1 then IntKind.i64.wrap ((0:Int) - n1)else n1,())
abbrev yUD (n1:Int):Option (Int×Unit):=some (z04 n1)
theorem yOk(n1:Int)(y:Int×Unit)(h:yUD n1=some y):∃ n,yJS n n1=some y :=
  ⟨0,by rw[← h];show yJS 0 n1=some (z04 n1);unfold yJS z04;first|rfl|(simp only[yG];done)|(simp only[yG];rfl)⟩
def z04_e:Entry:={ f:=108,args:=yPS,ress:=yWj,m:=fun x=>yUD x.1 }
theorem yB4:FnOK Tryz.prog z04_e:=yJ (g:=yTA) (fn:=Tryz.f108) yA yI eNil (by kernel_rfl) (by kernel_rfl) (by kernel_rfl) (fun x y h=>let ⟨n,hn⟩:=yOk x.1 y h;⟨yMa n,iNil,(ySb n x).trans hn⟩)
abbrev yOS:Ty:=.pair t4 (.pair t28 .unit)
abbrev yS5:Ty:=.pair t28 .unit
def yUc:G:={ T:=T,E:=[],muts:=[],fz:=[] }
def yYh:List (List Nat):=[]
def yM7(n:Nat):Ann:={ keep:=yYh,fuel:=n,inl:=[],deep:=0 }
def yKJ(n:Nat)(holds:Bool)(e:Int):Option (Int×Unit) :=
  (bif holds then some (e,())else some ((0:Int),()))
theorem yWp(n:Nat)(x:yOS.den):runF yUc (yM7 n) Tryz.f113 yOS yS5 x=yKJ n x.1 x.2.1:=by kernel_rfl
def z1D(holds:Bool)(e:Int):(Int×Unit) :=
  (bif holds then (e,())else ((0:Int),()))
abbrev yWG (holds:Bool) (e:Int):Option (Int×Unit):=some (z1D holds e)
theorem yQe(holds:Bool)(e:Int)(y:Int×Unit)(h:yWG holds e=some y):∃ n,yKJ n holds e=some y :=
  ⟨0,by rw[← h];show yKJ 0 holds e=some (z1D holds e);unfold yKJ z1D;first|rfl|(simp only[yG];done)|(simp only[yG];rfl)⟩
def z1D_e:Entry:={ f:=113,args:=yOS,ress:=yS5,m:=fun x=>yWG x.1 x.2.1 }
theorem y4O:FnOK Tryz.prog z1D_e:=yJ (g:=yUc) (fn:=Tryz.f113) yA yI eNil (by kernel_rfl) (by kernel_rfl) (by kernel_rfl) (fun x y h=>let ⟨n,hn⟩:=yQe x.1 x.2.1 y h;⟨yM7 n,iNil,(yWp n x).trans hn⟩)
abbrev zF_a:Ty:=.pair t23 (.pair t177 .unit)
abbrev zF_r:Ty:=.pair t175 .unit
def zF_g:G:={ T:=T,E:=[],muts:=[5],fz:=[] }
def zF_k:List (List Nat):=[[1,5,8,9,10]]
def yWd(n:Nat):Ann:={ keep:=zF_k,fuel:=n,inl:=[],deep:=0 }
def yHp(n:Nat)(r0:((Q4)×Unit→Option (Int×Unit))→List (Q4)→Int→Int→List Int→Option (List Int×Unit))(ae:(Q4)×Unit→Option (Int×Unit))(ac:List (Q4))(al:Int)(af:Int)(ai:List Int):Option (List Int×Unit) :=
  (bif decide (af < al)then (Option.bind (idx ac af) fun v1=>(Option.bind (ae ((v1.1,v1.2.1,()),())) fun v2=>(bif decide (ai.length+(1:Nat)≤memMax)then r0 ae ac al (IntKind.i64.wrap (af+1)) (ai++[v2.1])else none)))else some (ai,()))
def yA7(n:Nat)(k:Nat)(ae:(Q4)×Unit→Option (Int×Unit))(ac:List (Q4))(al:Int)(af:Int)(ai:List Int):Option (List Int×Unit) :=
  iter (fun r y=>yHp n (fun ae ac al af ai=>r ((ae,(ac,(al,(af,())))),((ai,()),()))) y.1.1 y.1.2.1 y.1.2.2.1 y.1.2.2.2.1 y.2.1.1) k ((ae,(ac,(al,(af,())))),((ai,()),()))
def zF_m(n:Nat)(l:List (Q4))(of:(Q4)×Unit→Option (Int×Unit)):Option (List Int×Unit) :=
  (yA7 n n (of) (l) ((↑l.length:Int)) ((0:Int)) ([]))
theorem yZN(n:Nat)(x:zF_a.den):runF zF_g (yWd n) Tryz.f115 zF_a zF_r x=zF_m n x.1 x.2.1:=by kernel_rfl
def yHM(ae:(Q4)×Unit→Option (Int×Unit))(ac:List (Q4))(af:Int)(v1:Q4)(ai:List Int):Option ((List Int×Unit)⊕(List Int)) :=
  (Option.bind (ae ((v1.1,v1.2.1,()),())) fun v2=>(bif decide (ai.length+(1:Nat)≤memMax)then (some (Sum.inr (ai++[v2.1])))else none))
def yO2(ae:(Q4)×Unit→Option (Int×Unit))(ac:List (Q4))(ai:List Int):Option (List Int×Unit) :=
  (some ((ai,())))
theorem yFP(n:Nat)(hn:big≤n)(ae:(Q4)×Unit→Option (Int×Unit))(ac:List (Q4))(ai:List Int)(hx:List.length (ac) < lenMax):LeF some (yQ (fun aj aE aa=>yHM ae ac aj aE aa) (fun aa=>yO2 ae ac aa) 0 (ac) ai) (yA7 n n ae ac (List.length (ac):Int) 0 ai):=by
  refine yd (f:=some) (W:=fun aG aj aa=>yA7 n aG ae ac (List.length (ac):Int) aj aa) (body:=(fun aj aE aa=>yHM ae ac aj aE aa)) (fin:=(fun aa=>yO2 ae ac aa)) (fun aG aj aa=>?_) hx ai n (by unfold big at hn;unfold lenMax at hx;omega)
  show LeF _ _ (yHp n (yA7 n aG) ae ac (List.length (ac):Int) aj aa)
  exact y8 (yE fun v1=>(yE fun v2=>(y8 (yB rfl) y0D))) (y0b (yB rfl))
def zF_M(l:List (Q4))(of:(Q4)×Unit→Option (Int×Unit)):Option (List Int×Unit) :=
  (bif decide (List.length (l) < lenMax)then yQ (fun aj aE aa=>yHM (of) (l) aj aE aa) (fun aa=>yO2 (of) (l) aa) 0 (l) ([])else none)
theorem yY5(l:List (Q4))(of:(Q4)×Unit→Option (Int×Unit))(y:List Int×Unit)(h:zF_M l of=some y):∃ n,zF_m n l of=some y :=
  ⟨big,LeF.top (show LeF some (zF_M l of) (zF_m big l of)from (fun (n:Nat) (hn:big≤n)=>show LeF some (zF_M l of) (zF_m n l of)from (yg fun hx=>by apply yFP n hn;exact hx)) big (Nat.le_refl _)) h⟩
def zF_e:Entry:={ f:=115,args:=zF_a,ress:=zF_r,m:=fun x=>zF_M x.1 x.2.1 }
theorem yVm:FnOK Tryz.prog zF_e:=yJ (g:=zF_g) (fn:=Tryz.f115) yA yI eNil (by kernel_rfl) (by kernel_rfl) (by kernel_rfl) (fun x y h=>let ⟨n,hn⟩:=yY5 x.1 x.2.1 y h;⟨yWd n,iNil,(yZN n x).trans hn⟩)
abbrev yOd:Ty:=.pair t57 (.pair t57 .unit)
abbrev yTC:Ty:=.pair t57 .unit
def yTh:G:={ T:=T,E:=[],muts:=[],fz:=[] }
def yYi:List (List Nat):=[]
def yLp(n:Nat):Ann:={ keep:=yYi,fuel:=n,inl:=[],deep:=0 }
def yJi(n:Nat)(a:Q4)(b:Q4):Option ((Q4)×Unit) :=
  some ((IntKind.i64.wrap (IntKind.i64.wrap (a.1 * b.1) - IntKind.i64.wrap (a.2.1 * b.2.1)),IntKind.i64.wrap (IntKind.i64.wrap (a.1 * b.2.1)+IntKind.i64.wrap (a.2.1 * b.1)),()),())
theorem yVX(n:Nat)(x:yOd.den):runF yTh (yLp n) Tryz.f125 yOd yTC x=yJi n x.1 x.2.1:=by kernel_rfl
def z14(a:Q4)(b:Q4):((Q4)×Unit) :=
  ((IntKind.i64.wrap (IntKind.i64.wrap (a.1 * b.1) - IntKind.i64.wrap (a.2.1 * b.2.1)),IntKind.i64.wrap (IntKind.i64.wrap (a.1 * b.2.1)+IntKind.i64.wrap (a.2.1 * b.1)),()),())
abbrev yVd (a:Q4) (b:Q4):Option ((Q4)×Unit):=some (z14 a b)
theorem yQH(a:Q4)(b:Q4)(y:(Q4)×Unit)(h:yVd a b=some y):∃ n,yJi n a b=some y :=
  ⟨0,by rw[← h];show yJi 0 a b=some (z14 a b);unfold yJi z14;first|rfl|(simp only[yG];done)|(simp only[yG];rfl)⟩
def z14_e:Entry:={ f:=125,args:=yOd,ress:=yTC,m:=fun x=>yVd x.1 x.2.1 }
theorem yDf:FnOK Tryz.prog z14_e:=yJ (g:=yTh) (fn:=Tryz.f125) yA yI eNil (by kernel_rfl) (by kernel_rfl) (by kernel_rfl) (fun x y h=>let ⟨n,hn⟩:=yQH x.1 x.2.1 y h;⟨yLp n,iNil,(yVX n x).trans hn⟩)
abbrev zv_a:Ty:=.pair t57 .unit
abbrev zv_r:Ty:=.pair t57 .unit
def zv_g:G:={ T:=T,E:=[],muts:=[],fz:=[] }
def zv_k:List (List Nat):=[]
def ySB(n:Nat):Ann:={ keep:=zv_k,fuel:=n,inl:=[],deep:=0 }
def zv_m(n:Nat)(a:Q4):Option ((Q4)×Unit) :=
  some ((a.1,IntKind.i64.wrap ((0:Int) - a.2.1),()),())
theorem yYT(n:Nat)(x:zv_a.den):runF zv_g (ySB n) Tryz.f126 zv_a zv_r x=zv_m n x.1:=by kernel_rfl
def zv(a:Q4):((Q4)×Unit) :=
  ((a.1,IntKind.i64.wrap ((0:Int) - a.2.1),()),())
abbrev zv_M (a:Q4):Option ((Q4)×Unit):=some (zv a)
theorem yXH(a:Q4)(y:(Q4)×Unit)(h:zv_M a=some y):∃ n,zv_m n a=some y :=
  ⟨0,by rw[← h];show zv_m 0 a=some (zv a);unfold zv_m zv;first|rfl|(simp only[yG];done)|(simp only[yG];rfl)⟩
def zv_e:Entry:={ f:=126,args:=zv_a,ress:=zv_r,m:=fun x=>zv_M x.1 }
theorem yNu:FnOK Tryz.prog zv_e:=yJ (g:=zv_g) (fn:=Tryz.f126) yA yI eNil (by kernel_rfl) (by kernel_rfl) (by kernel_rfl) (fun x y h=>let ⟨n,hn⟩:=yXH x.1 y h;⟨ySB n,iNil,(yYT n x).trans hn⟩)
abbrev z7_a:Ty:=.pair t31 (.pair t192 .unit)
abbrev z7_r:Ty:=.pair t31 .unit
def z7_g:G:={ T:=T,E:=[],muts:=[5],fz:=[] }
def z7_k:List (List Nat):=[[1,5,8,9,10]]
def yTr(n:Nat):Ann:={ keep:=z7_k,fuel:=n,inl:=[],deep:=0 }
def yIO(n:Nat)(r0:((Q3)×Unit→Option ((Q3)×Unit))→List (Q3)→Int→Int→List (Q3)→Option (List (Q3)×Unit))(ae:(Q3)×Unit→Option ((Q3)×Unit))(ac:List (Q3))(al:Int)(af:Int)(ai:List (Q3)):Option (List (Q3)×Unit) :=
  (bif decide (af < al)then (Option.bind (idx ac af) fun v1=>(Option.bind (ae ((v1.1,v1.2.1,v1.2.2.1,()),())) fun v2=>(bif decide (ai.length+(1:Nat)≤memMax)then r0 ae ac al (IntKind.i64.wrap (af+1)) (ai++[v2.1])else none)))else some (ai,()))
def y9m(n:Nat)(k:Nat)(ae:(Q3)×Unit→Option ((Q3)×Unit))(ac:List (Q3))(al:Int)(af:Int)(ai:List (Q3)):Option (List (Q3)×Unit) :=
  iter (fun r y=>yIO n (fun ae ac al af ai=>r ((ae,(ac,(al,(af,())))),((ai,()),()))) y.1.1 y.1.2.1 y.1.2.2.1 y.1.2.2.2.1 y.2.1.1) k ((ae,(ac,(al,(af,())))),((ai,()),()))
def z7_m(n:Nat)(l:List (Q3))(of:(Q3)×Unit→Option ((Q3)×Unit)):Option (List (Q3)×Unit) :=
  (y9m n n (of) (l) ((↑l.length:Int)) ((0:Int)) ([]))
theorem yZb(n:Nat)(x:z7_a.den):runF z7_g (yTr n) Tryz.f130 z7_a z7_r x=z7_m n x.1 x.2.1:=by kernel_rfl
def yJc(ae:(Q3)×Unit→Option ((Q3)×Unit))(ac:List (Q3))(af:Int)(v1:Q3)(ai:List (Q3)):Option ((List (Q3)×Unit)⊕(List (Q3))) :=
  (Option.bind (ae ((v1.1,v1.2.1,v1.2.2.1,()),())) fun v2=>(bif decide (ai.length+(1:Nat)≤memMax)then (some (Sum.inr (ai++[v2.1])))else none))
def yP5(ae:(Q3)×Unit→Option ((Q3)×Unit))(ac:List (Q3))(ai:List (Q3)):Option (List (Q3)×Unit) :=
  (some ((ai,())))
theorem yFq(n:Nat)(hn:big≤n)(ae:(Q3)×Unit→Option ((Q3)×Unit))(ac:List (Q3))(ai:List (Q3))(hx:List.length (ac) < lenMax):LeF some (yQ (fun aj aE aa=>yJc ae ac aj aE aa) (fun aa=>yP5 ae ac aa) 0 (ac) ai) (y9m n n ae ac (List.length (ac):Int) 0 ai):=by
  refine yd (f:=some) (W:=fun aG aj aa=>y9m n aG ae ac (List.length (ac):Int) aj aa) (body:=(fun aj aE aa=>yJc ae ac aj aE aa)) (fin:=(fun aa=>yP5 ae ac aa)) (fun aG aj aa=>?_) hx ai n (by unfold big at hn;unfold lenMax at hx;omega)
  show LeF _ _ (yIO n (y9m n aG) ae ac (List.length (ac):Int) aj aa)
  exact y8 (yE fun v1=>(yE fun v2=>(y8 (yB rfl) y0D))) (y0b (yB rfl))
def z7_M(l:List (Q3))(of:(Q3)×Unit→Option ((Q3)×Unit)):Option (List (Q3)×Unit) :=
  (bif decide (List.length (l) < lenMax)then yQ (fun aj aE aa=>yJc (of) (l) aj aE aa) (fun aa=>yP5 (of) (l) aa) 0 (l) ([])else none)
theorem yUj(l:List (Q3))(of:(Q3)×Unit→Option ((Q3)×Unit))(y:List (Q3)×Unit)(h:z7_M l of=some y):∃ n,z7_m n l of=some y :=
  ⟨big,LeF.top (show LeF some (z7_M l of) (z7_m big l of)from (fun (n:Nat) (hn:big≤n)=>show LeF some (z7_M l of) (z7_m n l of)from (yg fun hx=>by apply yFq n hn;exact hx)) big (Nat.le_refl _)) h⟩
def z7_e:Entry:={ f:=130,args:=z7_a,ress:=z7_r,m:=fun x=>z7_M x.1 x.2.1 }
theorem yYD:FnOK Tryz.prog z7_e:=yJ (g:=z7_g) (fn:=Tryz.f130) yA yI eNil (by kernel_rfl) (by kernel_rfl) (by kernel_rfl) (fun x y h=>let ⟨n,hn⟩:=yUj x.1 x.2.1 y h;⟨yTr n,iNil,(yZb n x).trans hn⟩)
abbrev yPq:Ty:=.pair t55 .unit
abbrev yYL:Ty:=.pair t55 .unit
def yUk:G:={ T:=T,E:=[],muts:=[],fz:=[] }
def yYt:List (List Nat):=[]
def yMn(n:Nat):Ann:={ keep:=yYt,fuel:=n,inl:=[],deep:=0 }
def yKq(n:Nat)(c:Q3):Option ((Q3)×Unit) :=
  some ((c.1,c.2.1,c.2.2.1,()),())
theorem yYF(n:Nat)(x:yPq.den):runF yUk (yMn n) Tryz.f131 yPq yYL x=yKq n x.1:=by kernel_rfl
def z0v(c:Q3):((Q3)×Unit) :=
  ((c.1,c.2.1,c.2.2.1,()),())
abbrev ySn (c:Q3):Option ((Q3)×Unit):=some (z0v c)
theorem yQf(c:Q3)(y:(Q3)×Unit)(h:ySn c=some y):∃ n,yKq n c=some y :=
  ⟨0,by rw[← h];show yKq 0 c=some (z0v c);unfold yKq z0v;first|rfl|(simp only[yG];done)|(simp only[yG];rfl)⟩
def z0v_e:Entry:={ f:=131,args:=yPq,ress:=yYL,m:=fun x=>ySn x.1 }
theorem yRx:FnOK Tryz.prog z0v_e:=yJ (g:=yUk) (fn:=Tryz.f131) yA yI eNil (by kernel_rfl) (by kernel_rfl) (by kernel_rfl) (fun x y h=>let ⟨n,hn⟩:=yQf x.1 y h;⟨yMn n,iNil,(yYF n x).trans hn⟩)
abbrev zG_a:Ty:=.pair t23 (.pair t129 .unit)
abbrev zG_r:Ty:=.pair t23 .unit
def zG_g:G:={ T:=T,E:=[],muts:=[5],fz:=[] }
def zG_k:List (List Nat):=[[1,5,8,9,10]]
def yUf(n:Nat):Ann:={ keep:=zG_k,fuel:=n,inl:=[],deep:=0 }
def yHh(n:Nat)(r0:((Q4)×Unit→Option ((Q4)×Unit))→List (Q4)→Int→Int→List (Q4)→Option (List (Q4)×Unit))(ae:(Q4)×Unit→Option ((Q4)×Unit))(ac:List (Q4))(al:Int)(af:Int)(ai:List (Q4)):Option (List (Q4)×Unit) :=
  (bif decide (af < al)then (Option.bind (idx ac af) fun v1=>(Option.bind (ae ((v1.1,v1.2.1,()),())) fun v2=>(bif decide (ai.length+(1:Nat)≤memMax)then r0 ae ac al (IntKind.i64.wrap (af+1)) (ai++[v2.1])else none)))else some (ai,()))
def y9r(n:Nat)(k:Nat)(ae:(Q4)×Unit→Option ((Q4)×Unit))(ac:List (Q4))(al:Int)(af:Int)(ai:List (Q4)):Option (List (Q4)×Unit) :=
  iter (fun r y=>yHh n (fun ae ac al af ai=>r ((ae,(ac,(al,(af,())))),((ai,()),()))) y.1.1 y.1.2.1 y.1.2.2.1 y.1.2.2.2.1 y.2.1.1) k ((ae,(ac,(al,(af,())))),((ai,()),()))
def zG_m(n:Nat)(l:List (Q4))(of:(Q4)×Unit→Option ((Q4)×Unit)):Option (List (Q4)×Unit) :=
  (y9r n n (of) (l) ((↑l.length:Int)) ((0:Int)) ([]))
theorem yaR(n:Nat)(x:zG_a.den):runF zG_g (yUf n) Tryz.f132 zG_a zG_r x=zG_m n x.1 x.2.1:=by kernel_rfl
def yLD(ae:(Q4)×Unit→Option ((Q4)×Unit))(ac:List (Q4))(af:Int)(v1:Q4)(ai:List (Q4)):Option ((List (Q4)×Unit)⊕(List (Q4))) :=
  (Option.bind (ae ((v1.1,v1.2.1,()),())) fun v2=>(bif decide (ai.length+(1:Nat)≤memMax)then (some (Sum.inr (ai++[v2.1])))else none))
def yPQ(ae:(Q4)×Unit→Option ((Q4)×Unit))(ac:List (Q4))(ai:List (Q4)):Option (List (Q4)×Unit) :=
  (some ((ai,())))
theorem yGM(n:Nat)(hn:big≤n)(ae:(Q4)×Unit→Option ((Q4)×Unit))(ac:List (Q4))(ai:List (Q4))(hx:List.length (ac) < lenMax):LeF some (yQ (fun aj aE aa=>yLD ae ac aj aE aa) (fun aa=>yPQ ae ac aa) 0 (ac) ai) (y9r n n ae ac (List.length (ac):Int) 0 ai):=by
  refine yd (f:=some) (W:=fun aG aj aa=>y9r n aG ae ac (List.length (ac):Int) aj aa) (body:=(fun aj aE aa=>yLD ae ac aj aE aa)) (fin:=(fun aa=>yPQ ae ac aa)) (fun aG aj aa=>?_) hx ai n (by unfold big at hn;unfold lenMax at hx;omega)
  show LeF _ _ (yHh n (y9r n aG) ae ac (List.length (ac):Int) aj aa)
  exact y8 (yE fun v1=>(yE fun v2=>(y8 (yB rfl) y0D))) (y0b (yB rfl))
def zG_M(l:List (Q4))(of:(Q4)×Unit→Option ((Q4)×Unit)):Option (List (Q4)×Unit) :=
  (bif decide (List.length (l) < lenMax)then yQ (fun aj aE aa=>yLD (of) (l) aj aE aa) (fun aa=>yPQ (of) (l) aa) 0 (l) ([])else none)
theorem ySm(l:List (Q4))(of:(Q4)×Unit→Option ((Q4)×Unit))(y:List (Q4)×Unit)(h:zG_M l of=some y):∃ n,zG_m n l of=some y :=
  ⟨big,LeF.top (show LeF some (zG_M l of) (zG_m big l of)from (fun (n:Nat) (hn:big≤n)=>show LeF some (zG_M l of) (zG_m n l of)from (yg fun hx=>by apply yGM n hn;exact hx)) big (Nat.le_refl _)) h⟩
def zG_e:Entry:={ f:=132,args:=zG_a,ress:=zG_r,m:=fun x=>zG_M x.1 x.2.1 }
theorem yPs:FnOK Tryz.prog zG_e:=yJ (g:=zG_g) (fn:=Tryz.f132) yA yI eNil (by kernel_rfl) (by kernel_rfl) (by kernel_rfl) (fun x y h=>let ⟨n,hn⟩:=ySm x.1 x.2.1 y h;⟨yUf n,iNil,(yaR n x).trans hn⟩)
abbrev yRF:Ty:=.pair t57 (.pair t3 .unit)
abbrev ySO:Ty:=.pair t57 .unit
def yUi:G:={ T:=T,E:=[],muts:=[],fz:=[] }
def yac:List (List Nat):=[]
def yLu(n:Nat):Ann:={ keep:=yac,fuel:=n,inl:=[],deep:=0 }
def yKC(n:Nat)(a:Q4)(n1:Int):Option ((Q4)×Unit) :=
  some ((IntKind.i64.wrap (n1 * a.1),IntKind.i64.wrap (n1 * a.2.1),()),())
theorem yTR(n:Nat)(x:yRF.den):runF yUi (yLu n) Tryz.f134 yRF ySO x=yKC n x.1 x.2.1:=by kernel_rfl
def z0d(a:Q4)(n1:Int):((Q4)×Unit) :=
  ((IntKind.i64.wrap (n1 * a.1),IntKind.i64.wrap (n1 * a.2.1),()),())
abbrev yWS (a:Q4) (n1:Int):Option ((Q4)×Unit):=some (z0d a n1)
theorem yQD(a:Q4)(n1:Int)(y:(Q4)×Unit)(h:yWS a n1=some y):∃ n,yKC n a n1=some y :=
  ⟨0,by rw[← h];show yKC 0 a n1=some (z0d a n1);unfold yKC z0d;first|rfl|(simp only[yG];done)|(simp only[yG];rfl)⟩
def z0d_e:Entry:={ f:=134,args:=yRF,ress:=ySO,m:=fun x=>yWS x.1 x.2.1 }
theorem y98:FnOK Tryz.prog z0d_e:=yJ (g:=yUi) (fn:=Tryz.f134) yA yI eNil (by kernel_rfl) (by kernel_rfl) (by kernel_rfl) (fun x y h=>let ⟨n,hn⟩:=yQD x.1 x.2.1 y h;⟨yLu n,iNil,(yTR n x).trans hn⟩)
abbrev yP1:Ty:=.pair t57 (.pair t57 .unit)
abbrev ySH:Ty:=.pair t57 .unit
def yXg:G:={ T:=T,E:=[],muts:=[],fz:=[] }
def yZH:List (List Nat):=[]
def yMJ(n:Nat):Ann:={ keep:=yZH,fuel:=n,inl:=[],deep:=0 }
def yKb(n:Nat)(a:Q4)(b:Q4):Option ((Q4)×Unit) :=
  some ((IntKind.i64.wrap (a.1+b.1),IntKind.i64.wrap (a.2.1+b.2.1),()),())
theorem yUM(n:Nat)(x:yP1.den):runF yXg (yMJ n) Tryz.f135 yP1 ySH x=yKb n x.1 x.2.1:=by kernel_rfl
def z1C(a:Q4)(b:Q4):((Q4)×Unit) :=
  ((IntKind.i64.wrap (a.1+b.1),IntKind.i64.wrap (a.2.1+b.2.1),()),())
abbrev yWy (a:Q4) (b:Q4):Option ((Q4)×Unit):=some (z1C a b)
theorem yNN(a:Q4)(b:Q4)(y:(Q4)×Unit)(h:yWy a b=some y):∃ n,yKb n a b=some y :=
  ⟨0,by rw[← h];show yKb 0 a b=some (z1C a b);unfold yKb z1C;first|rfl|(simp only[yG];done)|(simp only[yG];rfl)⟩
def z1C_e:Entry:={ f:=135,args:=yP1,ress:=ySH,m:=fun x=>yWy x.1 x.2.1 }
theorem yB2:FnOK Tryz.prog z1C_e:=yJ (g:=yXg) (fn:=Tryz.f135) yA yI eNil (by kernel_rfl) (by kernel_rfl) (by kernel_rfl) (fun x y h=>let ⟨n,hn⟩:=yNN x.1 x.2.1 y h;⟨yMJ n,iNil,(yUM n x).trans hn⟩)
abbrev zH_a:Ty:=.pair t23 (.pair t196 .unit)
abbrev zH_r:Ty:=.pair t79 .unit
def zH_g:G:={ T:=T,E:=[],muts:=[5],fz:=[] }
def zH_k:List (List Nat):=[[1,5,8,9,10]]
def yWz(n:Nat):Ann:={ keep:=zH_k,fuel:=n,inl:=[],deep:=0 }
def yHd(n:Nat)(r0:((Q4)×Unit→Option ((Nat×Nat)×Unit))→List (Q4)→Int→Int→List (Nat×Nat)→Option (List (Nat×Nat)×Unit))(ae:(Q4)×Unit→Option ((Nat×Nat)×Unit))(ac:List (Q4))(al:Int)(af:Int)(ai:List (Nat×Nat)):Option (List (Nat×Nat)×Unit) :=
  (bif decide (af < al)then (Option.bind (idx ac af) fun v1=>(Option.bind (ae ((v1.1,v1.2.1,()),())) fun v2=>(bif decide (ai.length+(1:Nat)≤memMax)then r0 ae ac al (IntKind.i64.wrap (af+1)) (ai++[v2.1])else none)))else some (ai,()))
def yAc(n:Nat)(k:Nat)(ae:(Q4)×Unit→Option ((Nat×Nat)×Unit))(ac:List (Q4))(al:Int)(af:Int)(ai:List (Nat×Nat)):Option (List (Nat×Nat)×Unit) :=
  iter (fun r y=>yHd n (fun ae ac al af ai=>r ((ae,(ac,(al,(af,())))),((ai,()),()))) y.1.1 y.1.2.1 y.1.2.2.1 y.1.2.2.2.1 y.2.1.1) k ((ae,(ac,(al,(af,())))),((ai,()),()))
def zH_m(n:Nat)(l:List (Q4))(of:(Q4)×Unit→Option ((Nat×Nat)×Unit)):Option (List (Nat×Nat)×Unit) :=
  (yAc n n (of) (l) ((↑l.length:Int)) ((0:Int)) ([]))
theorem yZi(n:Nat)(x:zH_a.den):runF zH_g (yWz n) Tryz.f139 zH_a zH_r x=zH_m n x.1 x.2.1:=by kernel_rfl
def yKZ(ae:(Q4)×Unit→Option ((Nat×Nat)×Unit))(ac:List (Q4))(af:Int)(v1:Q4)(ai:List (Nat×Nat)):Option ((List (Nat×Nat)×Unit)⊕(List (Nat×Nat))) :=
  (Option.bind (ae ((v1.1,v1.2.1,()),())) fun v2=>(bif decide (ai.length+(1:Nat)≤memMax)then (some (Sum.inr (ai++[v2.1])))else none))
def yPr(ae:(Q4)×Unit→Option ((Nat×Nat)×Unit))(ac:List (Q4))(ai:List (Nat×Nat)):Option (List (Nat×Nat)×Unit) :=
  (some ((ai,())))
theorem yFB(n:Nat)(hn:big≤n)(ae:(Q4)×Unit→Option ((Nat×Nat)×Unit))(ac:List (Q4))(ai:List (Nat×Nat))(hx:List.length (ac) < lenMax):LeF some (yQ (fun aj aE aa=>yKZ ae ac aj aE aa) (fun aa=>yPr ae ac aa) 0 (ac) ai) (yAc n n ae ac (List.length (ac):Int) 0 ai):=by
  refine yd (f:=some) (W:=fun aG aj aa=>yAc n aG ae ac (List.length (ac):Int) aj aa) (body:=(fun aj aE aa=>yKZ ae ac aj aE aa)) (fin:=(fun aa=>yPr ae ac aa)) (fun aG aj aa=>?_) hx ai n (by unfold big at hn;unfold lenMax at hx;omega)
  show LeF _ _ (yHd n (yAc n aG) ae ac (List.length (ac):Int) aj aa)
  exact y8 (yE fun v1=>(yE fun v2=>(y8 (yB rfl) y0D))) (y0b (yB rfl))
def zH_M(l:List (Q4))(of:(Q4)×Unit→Option ((Nat×Nat)×Unit)):Option (List (Nat×Nat)×Unit) :=
  (bif decide (List.length (l) < lenMax)then yQ (fun aj aE aa=>yKZ (of) (l) aj aE aa) (fun aa=>yPr (of) (l) aa) 0 (l) ([])else none)
theorem yTq(l:List (Q4))(of:(Q4)×Unit→Option ((Nat×Nat)×Unit))(y:List (Nat×Nat)×Unit)(h:zH_M l of=some y):∃ n,zH_m n l of=some y :=
  ⟨big,LeF.top (show LeF some (zH_M l of) (zH_m big l of)from (fun (n:Nat) (hn:big≤n)=>show LeF some (zH_M l of) (zH_m n l of)from (yg fun hx=>by apply yFB n hn;exact hx)) big (Nat.le_refl _)) h⟩
def zH_e:Entry:={ f:=139,args:=zH_a,ress:=zH_r,m:=fun x=>zH_M x.1 x.2.1 }
theorem yam:FnOK Tryz.prog zH_e:=yJ (g:=zH_g) (fn:=Tryz.f139) yA yI eNil (by kernel_rfl) (by kernel_rfl) (by kernel_rfl) (fun x y h=>let ⟨n,hn⟩:=yTq x.1 x.2.1 y h;⟨yWz n,iNil,(yZi n x).trans hn⟩)
abbrev yPt:Ty:=.pair t57 (.pair (.ref t165) .unit)
abbrev yW3:Ty:=.pair t165 .unit
def ySD:G:={ T:=T,E:=[],muts:=[],fz:=[] }
def yZw:List (List Nat):=[]
def yLw(n:Nat):Ann:={ keep:=yZw,fuel:=n,inl:=[],deep:=0 }
def yKK(n:Nat)(z:Q4)(p1:Nat×Nat):Option ((Nat×Nat)×Unit) :=
  some ((y0n Go.BinOp.quo Go.FloatKind.f32 (yk Go.FloatKind.f32 z.1) p1.1,y0n Go.BinOp.quo Go.FloatKind.f32 (yk Go.FloatKind.f32 z.2.1) p1.1),())
theorem yTF(n:Nat)(x:yPt.den):runF ySD (yLw n) Tryz.f140 yPt yW3 x=yKK n x.1 x.2.1:=by kernel_rfl
def z0a(z:Q4)(p1:Nat×Nat):((Nat×Nat)×Unit) :=
  ((y0n Go.BinOp.quo Go.FloatKind.f32 (yk Go.FloatKind.f32 z.1) p1.1,y0n Go.BinOp.quo Go.FloatKind.f32 (yk Go.FloatKind.f32 z.2.1) p1.1),())
abbrev yOj (z:Q4) (p1:Nat×Nat):Option ((Nat×Nat)×Unit):=some (z0a z p1)
theorem yQ9(z:Q4)(p1:Nat×Nat)(y:(Nat×Nat)×Unit)(h:yOj z p1=some y):∃ n,yKK n z p1=some y :=
  ⟨0,by rw[← h];show yKK 0 z p1=some (z0a z p1);unfold yKK z0a;first|rfl|(simp only[yG];done)|(simp only[yG];rfl)⟩
def z0a_e:Entry:={ f:=140,args:=yPt,ress:=yW3,m:=fun x=>yOj x.1 x.2.1 }
theorem yUP:FnOK Tryz.prog z0a_e:=yJ (g:=ySD) (fn:=Tryz.f140) yA yI eNil (by kernel_rfl) (by kernel_rfl) (by kernel_rfl) (fun x y h=>let ⟨n,hn⟩:=yQ9 x.1 x.2.1 y h;⟨yLw n,iNil,(yTF n x).trans hn⟩)
abbrev yNi:Ty:=.pair t3 (.pair t3 .unit)
abbrev yUa:Ty:=.pair t69 .unit
def yRj:G:={ T:=T,E:=[],muts:=[],fz:=[] }
def yZr:List (List Nat):=[[0,1,4,5,6]]
def yMY(n:Nat):Ann:={ keep:=yZr,fuel:=n,inl:=[],deep:=0 }
def yEd(n:Nat)(r2:Int→Int→Int→Int→Int→Int→Option ((Q4)×Unit))(ba:Int)(bc:Int)(bI:Int)(bM:Int)(bq:Int)(br:Int):Option ((Q4)×Unit) :=
  (bif bM != 0 then (bif bM==0 then none else r2 ba bc bM (bI.tmod bM) bq br)else (bif bI==0 then none else (bif bI==0 then none else some ((IntKind.i64.wrap (ba.tdiv bI),IntKind.i64.wrap (bc.tdiv bI),()),()))))
def y6W(n:Nat)(k:Nat)(ba:Int)(bc:Int)(bI:Int)(bM:Int)(bq:Int)(br:Int):Option ((Q4)×Unit) :=
  iter (fun r y=>yEd n (fun ba bc bI bM bq br=>r ((ba,(bc,(bI,(bM,())))),(((bq,(br,())),()),()))) y.1.1 y.1.2.1 y.1.2.2.1 y.1.2.2.2.1 y.2.1.1.1 y.2.1.1.2.1) k ((ba,(bc,(bI,(bM,())))),(((bq,(br,())),()),()))
def y9i(n:Nat)(j0:Int)(j1:Int):Option ((Q4)×Unit) :=
  (y6W n n (j0) (j1) (if IntKind.i64.wrap ((0:Int) - j0) > j0 then IntKind.i64.wrap ((0:Int) - j0)else j0) (j1) ((0:Int)) ((0:Int)))
def yKA(n:Nat)(num:Int)(den:Int):Option ((Q4)×Unit) :=
  (bif decide (den < 0)then (y9i n (IntKind.i64.wrap ((0:Int) - num)) (IntKind.i64.wrap ((0:Int) - den)))else (y9i n (num) (den)))
theorem ySK(n:Nat)(x:yNi.den):runF yRj (yMY n) Tryz.f142 yNi yUa x=yKA n x.1 x.2.1:=by kernel_rfl
def yGo(ba:Int)(bc:Int)(bq:Int)(br:Int)(bI:Int)(bM:Int):Option (((Q4)×Unit)⊕(Int×Int)) :=
  (bif bM != 0 then (bif bM==0 then none else (some (Sum.inr ((bM),(bI.tmod bM)))))else (bif bI==0 then none else (bif bI==0 then none else (some (Sum.inl (((IntKind.i64.wrap (ba.tdiv bI),IntKind.i64.wrap (bc.tdiv bI),()),())))))))
theorem yCn(n:Nat)(hn:big≤n)(ba:Int)(bc:Int)(bq:Int)(br:Int)(bI:Int)(bM:Int):LeF some (y4L (fun aa=>yGo ba bc bq br aa.1 aa.2) wMax (bI,bM)) (y6W n n ba bc bI bM bq br):=by
  refine y6w (f:=some) (W:=fun aG aa=>y6W n aG ba bc aa.1 aa.2 bq br) (body:=(fun aa=>yGo ba bc bq br aa.1 aa.2)) (fun aG aa=>?_) wMax n (bI,bM) (by unfold big at hn;unfold wMax;omega)
  show LeF _ _ (yEd n (y6W n aG) ba bc aa.1 aa.2 bq br)
  exact (y8 (y8 y0D (yB rfl)) (y8 y0D (y8 y0D (yB rfl))))
def yHB(j0:Int)(j1:Int):Option ((Q4)×Unit) :=
  (y4L (fun aa=>yGo (j0) (j1) ((0:Int)) ((0:Int)) aa.1 aa.2) wMax ((if IntKind.i64.wrap ((0:Int) - j0) > j0 then IntKind.i64.wrap ((0:Int) - j0)else j0),(j1)))
theorem y2S(n:Nat)(hn:big≤n)(j0:Int)(j1:Int):LeF some (yHB j0 j1) (y9i n j0 j1) :=
  (by apply yCn n hn)
def yGB(num:Int)(den:Int):Option ((Q4)×Unit) :=
  (bif decide (den < 0)then (yHB (IntKind.i64.wrap ((0:Int) - num)) (IntKind.i64.wrap ((0:Int) - den)))else (yHB (num) (den)))
theorem yOQ(num:Int)(den:Int)(y:(Q4)×Unit)(h:yGB num den=some y):∃ n,yKA n num den=some y :=
  ⟨big,LeF.top (show LeF some (yGB num den) (yKA big num den)from (fun (n:Nat) (hn:big≤n)=>show LeF some (yGB num den) (yKA n num den)from (y8 (by apply y2S n hn) (by apply y2S n hn))) big (Nat.le_refl _)) h⟩
def z09_e:Entry:={ f:=142,args:=yNi,ress:=yUa,m:=fun x=>yGB x.1 x.2.1 }
theorem yUW:FnOK Tryz.prog z09_e:=yJ (g:=yRj) (fn:=Tryz.f142) yA yI eNil (by kernel_rfl) (by kernel_rfl) (by kernel_rfl) (fun x y h=>let ⟨n,hn⟩:=yOQ x.1 x.2.1 y h;⟨yMY n,iNil,(ySK n x).trans hn⟩)
abbrev yPg:Ty:=.pair t3 .unit
abbrev yWf:Ty:=.pair t3 .unit
def yV8:G:={ T:=T,E:=[],muts:=[],fz:=[] }
def yaQ:List (List Nat):=[[0,3,4]]
def yME(n:Nat):Ann:={ keep:=yaQ,fuel:=n,inl:=[],deep:=0 }
def yKU(n:Nat)(r0:Int→Int→Int→Option (Int×Unit))(bF:Int)(cj:Int)(cJ:Int):Option (Int×Unit) :=
  (bif decide (cJ < bF)then r0 bF (IntKind.i64.wrap ((2:Int) * cj)) (IntKind.i64.wrap (cJ+1))else some (cj,()))
def yLE(n:Nat)(k:Nat)(bF:Int)(cj:Int)(cJ:Int):Option (Int×Unit) :=
  iter (fun r y=>yKU n (fun bF cj cJ=>r ((bF,(cj,(cJ,()))),((),()))) y.1.1 y.1.2.1 y.1.2.2.1) k ((bF,(cj,(cJ,()))),((),()))
def yNY(n:Nat)(n1:Int):Option (Int×Unit) :=
  (yLE n n (n1) ((1:Int)) ((0:Int)))
theorem yY1(n:Nat)(x:yPg.den):runF yV8 (yME n) Tryz.f143 yPg yWf x=yNY n x.1:=by kernel_rfl
def yWR(n1:Int):Option (Int×Unit):=yNY 1000 n1
theorem yPC(n1:Int)(y:Int×Unit)(h:yWR n1=some y):∃ n,yNY n n1=some y:=⟨1000,h⟩
def z0U_e:Entry:={ f:=143,args:=yPg,ress:=yWf,m:=fun x=>yWR x.1 }
theorem yRg:FnOK Tryz.prog z0U_e:=yJ (g:=yV8) (fn:=Tryz.f143) yA yI eNil (by kernel_rfl) (by kernel_rfl) (by kernel_rfl) (fun x y h=>let ⟨n,hn⟩:=yPC x.1 y h;⟨yME n,iNil,(yY1 n x).trans hn⟩)
def il124:Inl:={ f:=124,fn:=Tryz.f124,keep:=[],muts:=[],fz:=[] }
theorem y5Z:y5I Tryz.prog il124:=⟨by kernel_rfl,by kernel_rfl,fun e0 h=>by cases (show (none:Option LibK)=some e0 from h)⟩
def il195:Inl:={ f:=195,fn:=Tryz.f195,keep:=[[0,1,3,9,10,11],[0,1,3,4,5,9,10,11]],muts:=[],fz:=[] }
theorem y5J:y5I Tryz.prog il195:=⟨by kernel_rfl,by kernel_rfl,fun e0 h=>by cases (show (none:Option LibK)=some e0 from h)⟩
abbrev yNs:Ty:=.pair t60 .unit
abbrev yXe:Ty:=.pair t41 .unit
def yTv:G:={ T:=T,E:=[],muts:=[3],fz:=[] }
def yZF:List (List Nat):=[]
def yLg(n:Nat):Ann:={ keep:=yZF,fuel:=n,inl:=[il124,il195],deep:=3 }
def yAw(n:Nat)(r0:Q1→List (Q4)→List Nat→Int→Int→Q1→Q1→Q1→Q1→List Int→Q1→Q1→Q1→Q1→Option (List Int×Unit))(j8:Q1)(j9:List (Q4))(j10:Int)(j11:Nat)(j12:List Nat)(j13:Int)(j14:Int)(j15:Q1)(j16:Q1)(j17:Q1)(j18:Q1)(j19:List Int)(j20:Q1)(j21:Q1)(j22:Q1)(j23:Q1):Option (List Int×Unit) :=
  (bif decide ((↑j9.length:Int) > 0)then (Option.bind (idx j9 (0:Int)) fun v24=>(bif decide (v24.1≤j10)then r0 j8 j9 j12 j13 (IntKind.i64.wrap (j14+1)) j15 j16 j17 j18 j19 j20 j21 j22 j23 else (Option.bind (y0e Go.FloatKind.f32 (y0n Go.BinOp.mul Go.FloatKind.f32 j11 (nat_lit 1098907648)) IntKind.i64) fun v29=>(bif decide (j19.length+(1:Nat)≤memMax)then r0 j8 j9 j12 j13 (IntKind.i64.wrap (j14+1)) j15 j16 j17 j18 (j19++[IntKind.i64.wrap (j8.2.1+j10)]) j20 j21 j22 j23 else none))))else (Option.bind (y0e Go.FloatKind.f32 (y0n Go.BinOp.mul Go.FloatKind.f32 j11 (nat_lit 1098907648)) IntKind.i64) fun v30=>(bif decide (j19.length+(1:Nat)≤memMax)then r0 j8 j9 j12 j13 (IntKind.i64.wrap (j14+1)) j15 j16 j17 j18 (j19++[IntKind.i64.wrap (j8.2.1+j10)]) j20 j21 j22 j23 else none)))
def yKo(n:Nat)(r0:Q1→List (Q4)→List Nat→Int→Int→Q1→Q1→Q1→Q1→List Int→Q1→Q1→Q1→Q1→Option (List Int×Unit))(r2:Q1→List (Q4)→Int→Nat→List Nat→Int→Int→Q1→Q1→Q1→Q1→List Int→Q1→Q1→Q1→Q1→Option (List Int×Unit))(bw:Q1)(aq:List (Q4))(bp:Int)(bx:Nat)(aP:List Nat)(aT:Int)(aU:Int)(aH:Q1)(aI:Q1)(aY:Q1)(bz:Q1)(cD:List Int)(bA:Q1)(bB:Q1)(bU:Q1)(bV:Q1):Option (List Int×Unit) :=
  (bif decide ((↑aq.length:Int) > 0)then (Option.bind (idx aq (0:Int)) fun v3=>(bif decide (v3.2.1≤bp)then (bif decide ((0:Int)≤1) && decide ((1:Int)≤(↑aq.length:Int))then r2 bw (List.drop (Int.toNat (1:Int)) aq) bp bx aP aT aU aH aI aY bz cD bA bB bU bV else none)else (yAw n r0 (bw) (aq) (bp) (bx) (aP) (aT) (aU) (aH) (aI) (aY) (bz) (cD) (bA) (bB) (bU) (bV))))else (yAw n r0 (bw) (aq) (bp) (bx) (aP) (aT) (aU) (aH) (aI) (aY) (bz) (cD) (bA) (bB) (bU) (bV)))
def yLV(n:Nat)(r0:Q1→List (Q4)→List Nat→Int→Int→Q1→Q1→Q1→Q1→List Int→Q1→Q1→Q1→Q1→Option (List Int×Unit))(k:Nat)(bw:Q1)(aq:List (Q4))(bp:Int)(bx:Nat)(aP:List Nat)(aT:Int)(aU:Int)(aH:Q1)(aI:Q1)(aY:Q1)(bz:Q1)(cD:List Int)(bA:Q1)(bB:Q1)(bU:Q1)(bV:Q1):Option (List Int×Unit) :=
  iter (fun r y=>yKo n r0 (fun bw aq bp bx aP aT aU aH aI aY bz cD bA bB bU bV=>r ((bw,(aq,(bp,(bx,(aP,(aT,(aU,()))))))),(((aH,(aI,(aY,((bz,()),())))),((),(cD,()))),(bA,(bB,(bU,((bV,()),()))))))) y.1.1 y.1.2.1 y.1.2.2.1 y.1.2.2.2.1 y.1.2.2.2.2.1 y.1.2.2.2.2.2.1 y.1.2.2.2.2.2.2.1 y.2.1.1.1 y.2.1.1.2.1 y.2.1.1.2.2.1 y.2.1.1.2.2.2.1.1 y.2.1.2.2.1 y.2.2.1 y.2.2.2.1 y.2.2.2.2.1 y.2.2.2.2.2.1.1) k ((bw,(aq,(bp,(bx,(aP,(aT,(aU,()))))))),(((aH,(aI,(aY,((bz,()),())))),((),(cD,()))),(bA,(bB,(bU,((bV,()),()))))))
def yLX(n:Nat)(r0:Q1→List (Q4)→List Nat→Int→Int→Q1→Q1→Q1→Q1→List Int→Q1→Q1→Q1→Q1→Option (List Int×Unit))(au:Q1)(aL:List (Q4))(al:List Nat)(af:Int)(av:Int)(aV:Q1)(aW:Q1)(bC:Q1)(bN:Q1)(cK:List Int)(bO:Q1)(bP:Q1)(cm:Q1)(cn:Q1):Option (List Int×Unit) :=
  (bif decide (av < af)then (Option.bind (idx al av) fun v1=>(yLV n r0 n (au) (aL) (av) (v1) (al) (af) (av) (aV) (aW) (bC) (bN) (cK) (bO) (bP) (cm) (cn)))else some (cK,()))
def yJ0(n:Nat)(k:Nat)(au:Q1)(aL:List (Q4))(al:List Nat)(af:Int)(av:Int)(aV:Q1)(aW:Q1)(bC:Q1)(bN:Q1)(cK:List Int)(bO:Q1)(bP:Q1)(cm:Q1)(cn:Q1):Option (List Int×Unit) :=
  iter (fun r y=>yLX n (fun au aL al af av aV aW bC bN cK bO bP cm cn=>r ((au,(aL,(al,(af,(av,()))))),(((aV,(aW,(bC,((bN,()),())))),((),(cK,()))),(bO,(bP,(cm,((cn,()),()))))))) y.1.1 y.1.2.1 y.1.2.2.1 y.1.2.2.2.1 y.1.2.2.2.2.1 y.2.1.1.1 y.2.1.1.2.1 y.2.1.1.2.2.1 y.2.1.1.2.2.2.1.1 y.2.1.2.2.1 y.2.2.1 y.2.2.2.1 y.2.2.2.2.1 y.2.2.2.2.2.1.1) k ((au,(aL,(al,(af,(av,()))))),(((aV,(aW,(bC,((bN,()),())))),((),(cK,()))),(bO,(bP,(cm,((cn,()),()))))))
def yQr(n:Nat)(r1:Q1):Option (List Int×Unit) :=
  (yJ0 n n (r1) (r1.2.2.2.1) (r1.2.2.1) ((↑r1.2.2.1.length:Int)) ((0:Int)) (r1) (r1) (r1) (r1) ([]) (r1) (r1) (r1) (r1))
theorem yTp(n:Nat)(x:yNs.den):runF yTv (yLg n) Tryz.f147 yNs yXe x=yQr n x.1:=by kernel_rfl
def yJ6(r1:Q1):Option (List Int×Unit):=yQr 1000 r1
theorem yP7(r1:Q1)(y:List Int×Unit)(h:yJ6 r1=some y):∃ n,yQr n r1=some y:=⟨1000,h⟩
def z13_e:Entry:={ f:=147,args:=yNs,ress:=yXe,m:=fun x=>yJ6 x.1 }
theorem yLk:FnOK Tryz.prog z13_e:=yJ (g:=yTv) (fn:=Tryz.f147) yA yI eNil (by kernel_rfl) (by kernel_rfl) (by kernel_rfl) (fun x y h=>let ⟨n,hn⟩:=yP7 x.1 y h;⟨yLg n,(y4N y5Z (y4N y5J iNil)),(yTp n x).trans hn⟩)
abbrev zR_a:Ty:=.pair t55 (.pair t3 .unit)
abbrev zR_r:Ty:=.pair t57 .unit
def zR_g:G:={ T:=T,E:=[],muts:=[],fz:=[] }
def zR_k:List (List Nat):=[]
def yT5(n:Nat):Ann:={ keep:=zR_k,fuel:=n,inl:=[],deep:=0 }
def zR_m(n:Nat)(c:Q3)(tick:Int):Option ((Q4)×Unit) :=
  (bif c.2.1==0 then none else (Option.bind (idx [((1:Int),(0:Int),()),((0:Int),(1:Int),()),((-1:Int),(0:Int),()),((0:Int),(-1:Int),())] ((IntKind.i64.wrap (c.2.2.1 * IntKind.i64.wrap (tick.tdiv c.2.1))).tmod (4:Int))) fun v0=>some ((v0.1,v0.2.1,()),())))
theorem yaT(n:Nat)(x:zR_a.den):runF zR_g (yT5 n) Tryz.f161 zR_a zR_r x=zR_m n x.1 x.2.1:=by kernel_rfl
def zR_M(c:Q3)(tick:Int):Option ((Q4)×Unit):=zR_m 0 c tick
theorem ySj(c:Q3)(tick:Int)(y:(Q4)×Unit)(h:zR_M c tick=some y):∃ n,zR_m n c tick=some y:=⟨0,h⟩
def zR_e:Entry:={ f:=161,args:=zR_a,ress:=zR_r,m:=fun x=>zR_M x.1 x.2.1 }
theorem yNT:FnOK Tryz.prog zR_e:=yJ (g:=zR_g) (fn:=Tryz.f161) yA yI eNil (by kernel_rfl) (by kernel_rfl) (by kernel_rfl) (fun x y h=>let ⟨n,hn⟩:=ySj x.1 x.2.1 y h;⟨yT5 n,iNil,(yaT n x).trans hn⟩)
abbrev zA_a:Ty:=.pair t31 (.pair t215 .unit)
abbrev zA_r:Ty:=.pair t23 .unit
def zA_g:G:={ T:=T,E:=[],muts:=[5],fz:=[] }
def zA_k:List (List Nat):=[[1,5,8,9,10]]
def yTW(n:Nat):Ann:={ keep:=zA_k,fuel:=n,inl:=[],deep:=0 }
def yNL(n:Nat)(r0:((Q3)×Unit→Option ((Q4)×Unit))→List (Q3)→Int→Int→List (Q4)→Option (List (Q4)×Unit))(ae:(Q3)×Unit→Option ((Q4)×Unit))(ac:List (Q3))(al:Int)(af:Int)(ai:List (Q4)):Option (List (Q4)×Unit) :=
  (bif decide (af < al)then (Option.bind (idx ac af) fun v1=>(Option.bind (ae ((v1.1,v1.2.1,v1.2.2.1,()),())) fun v2=>(bif decide (ai.length+(1:Nat)≤memMax)then r0 ae ac al (IntKind.i64.wrap (af+1)) (ai++[v2.1])else none)))else some (ai,()))
def yPi(n:Nat)(k:Nat)(ae:(Q3)×Unit→Option ((Q4)×Unit))(ac:List (Q3))(al:Int)(af:Int)(ai:List (Q4)):Option (List (Q4)×Unit) :=
  iter (fun r y=>yNL n (fun ae ac al af ai=>r ((ae,(ac,(al,(af,())))),((ai,()),()))) y.1.1 y.1.2.1 y.1.2.2.1 y.1.2.2.2.1 y.2.1.1) k ((ae,(ac,(al,(af,())))),((ai,()),()))
def zA_m(n:Nat)(l:List (Q3))(of:(Q3)×Unit→Option ((Q4)×Unit)):Option (List (Q4)×Unit) :=
  (yPi n n (of) (l) ((↑l.length:Int)) ((0:Int)) ([]))
theorem yab(n:Nat)(x:zA_a.den):runF zA_g (yTW n) Tryz.f162 zA_a zA_r x=zA_m n x.1 x.2.1:=by kernel_rfl
def zA_M(l:List (Q3))(of:(Q3)×Unit→Option ((Q4)×Unit)):Option (List (Q4)×Unit):=zA_m 1000 l of
theorem ySh(l:List (Q3))(of:(Q3)×Unit→Option ((Q4)×Unit))(y:List (Q4)×Unit)(h:zA_M l of=some y):∃ n,zA_m n l of=some y:=⟨1000,h⟩
def zA_e:Entry:={ f:=162,args:=zA_a,ress:=zA_r,m:=fun x=>zA_M x.1 x.2.1 }
theorem yQl:FnOK Tryz.prog zA_e:=yJ (g:=zA_g) (fn:=Tryz.f162) yA yI eNil (by kernel_rfl) (by kernel_rfl) (by kernel_rfl) (fun x y h=>let ⟨n,hn⟩:=ySh x.1 x.2.1 y h;⟨yTW n,iNil,(yab n x).trans hn⟩)
abbrev zd_a:Ty:=.pair t183 (.pair t3 (.pair t23 .unit))
abbrev zd_r:Ty:=.pair t183 .unit
def zd_g:G:={ T:=T,E:=[],muts:=[],fz:=[11] }
def zd_k:List (List Nat):=[[0,1,2,7,13,14]]
def yTN(n:Nat):Ann:={ keep:=zd_k,fuel:=n,inl:=[],deep:=0 }
def yOz(n:Nat)(r0:List (List (Q4))→Int→List (Q4)→Int→Int→List (List (Q4))→Option (List (List (Q4))×Unit))(bh:List (List (Q4)))(b9:Int)(bv:List (Q4))(aR:Int)(aB:Int)(ai:List (List (Q4))):Option (List (List (Q4))×Unit) :=
  (bif decide (aB < aR)then (Option.bind (idx bh aB) fun v1=>(bif Bool.true && decide ((0:Int)≤(↑v1.length:Int)) && decide ((↑v1.length:Int)≤(↑memMax:Int)) && (↑v1.length:Int)==(↑v1.length:Int)then (Option.bind (idx ai aB) fun v2=>(Option.bind (ai[aB.toNat]?) fun v3=>(Option.bind (idx (ai.set aB.toNat (List.replicate ((↑v1.length:Int).toNat) (((0:Int),(0:Int),())):List (Q4))) aB) fun v4=>(Option.bind ((ai.set aB.toNat (List.replicate ((↑v1.length:Int).toNat) (((0:Int),(0:Int),())):List (Q4)))[aB.toNat]?) fun v5=>(Option.bind (idx bh aB) fun v6=>(Option.bind ((ai.set aB.toNat (List.replicate ((↑v1.length:Int).toNat) (((0:Int),(0:Int),())):List (Q4)))[aB.toNat]?) fun v7=>(bif decide (v6.length=v7.length)then (Option.bind (idx ((ai.set aB.toNat (List.replicate ((↑v1.length:Int).toNat) (((0:Int),(0:Int),())):List (Q4))).set aB.toNat v6) aB) fun v8=>(Option.bind (((ai.set aB.toNat (List.replicate ((↑v1.length:Int).toNat) (((0:Int),(0:Int),())):List (Q4))).set aB.toNat v6)[aB.toNat]?) fun v9=>(Option.bind (idx bv aB) fun v10=>(Option.bind (((ai.set aB.toNat (List.replicate ((↑v1.length:Int).toNat) (((0:Int),(0:Int),())):List (Q4))).set aB.toNat v6)[aB.toNat]?) fun v11=>(Option.bind (idx v11 b9) fun v12=>(Option.bind (((ai.set aB.toNat (List.replicate ((↑v1.length:Int).toNat) (((0:Int),(0:Int),())):List (Q4))).set aB.toNat v6)[aB.toNat]?) fun v13=>(Option.bind (v13[b9.toNat]?) fun v14=>r0 bh b9 bv aR (IntKind.i64.wrap (aB+1)) (((ai.set aB.toNat (List.replicate ((↑v1.length:Int).toNat) (((0:Int),(0:Int),())):List (Q4))).set aB.toNat v6).set aB.toNat (v13.set b9.toNat v10)))))))))else none)))))))else none))else some (ai,()))
def yOV(n:Nat)(k:Nat)(bh:List (List (Q4)))(b9:Int)(bv:List (Q4))(aR:Int)(aB:Int)(ai:List (List (Q4))):Option (List (List (Q4))×Unit) :=
  iter (fun r y=>yOz n (fun bh b9 bv aR aB ai=>r ((bh,(b9,(bv,(aR,(aB,()))))),((ai,()),()))) y.1.1 y.1.2.1 y.1.2.2.1 y.1.2.2.2.1 y.1.2.2.2.2.1 y.2.1.1) k ((bh,(b9,(bv,(aR,(aB,()))))),((ai,()),()))
def zd_m(n:Nat)(m:List (List (Q4)))(column:Int)(values:List (Q4)):Option (List (List (Q4))×Unit) :=
  (bif Bool.true && decide ((0:Int)≤(↑m.length:Int)) && decide ((↑m.length:Int)≤(↑memMax:Int)) && (↑m.length:Int)==(↑m.length:Int)then (yOV n n (m) (column) (values) ((↑m.length:Int)) ((0:Int)) ((List.replicate ((↑m.length:Int).toNat) ([]):List (List (Q4)))))else none)
theorem yaB(n:Nat)(x:zd_a.den):runF zd_g (yTN n) Tryz.f164 zd_a zd_r x=zd_m n x.1 x.2.1 x.2.2.1:=by kernel_rfl
def zd_M(m:List (List (Q4)))(column:Int)(values:List (Q4)):Option (List (List (Q4))×Unit):=zd_m 1000 m column values
theorem ySr(m:List (List (Q4)))(column:Int)(values:List (Q4))(y:List (List (Q4))×Unit)(h:zd_M m column values=some y):∃ n,zd_m n m column values=some y:=⟨1000,h⟩
def zd_e:Entry:={ f:=164,args:=zd_a,ress:=zd_r,m:=fun x=>zd_M x.1 x.2.1 x.2.2.1 }
theorem yXF:FnOK Tryz.prog zd_e:=yJ (g:=zd_g) (fn:=Tryz.f164) yA yI eNil (by kernel_rfl) (by kernel_rfl) (by kernel_rfl) (fun x y h=>let ⟨n,hn⟩:=ySr x.1 x.2.1 x.2.2.1 y h;⟨yTN n,iNil,(yaB n x).trans hn⟩)
abbrev zN_a:Ty:=.pair t41 (.pair t233 .unit)
abbrev zN_r:Ty:=.pair t161 .unit
def zN_g:G:={ T:=T,E:=[],muts:=[5],fz:=[] }
def zN_k:List (List Nat):=[[1,5,8,9,10]]
def yUp(n:Nat):Ann:={ keep:=zN_k,fuel:=n,inl:=[],deep:=0 }
def yQN(n:Nat)(r0:(Int×Unit→Option (List UInt8×Unit))→List Int→Int→Int→List (List UInt8)→Option (List (List UInt8)×Unit))(ae:Int×Unit→Option (List UInt8×Unit))(ac:List Int)(al:Int)(af:Int)(ai:List (List UInt8)):Option (List (List UInt8)×Unit) :=
  (bif decide (af < al)then (Option.bind (idx ac af) fun v1=>(Option.bind (ae (v1,())) fun v2=>(bif decide (ai.length+(1:Nat)≤memMax)then r0 ae ac al (IntKind.i64.wrap (af+1)) (ai++[v2.1])else none)))else some (ai,()))
def yOv(n:Nat)(k:Nat)(ae:Int×Unit→Option (List UInt8×Unit))(ac:List Int)(al:Int)(af:Int)(ai:List (List UInt8)):Option (List (List UInt8)×Unit) :=
  iter (fun r y=>yQN n (fun ae ac al af ai=>r ((ae,(ac,(al,(af,())))),((ai,()),()))) y.1.1 y.1.2.1 y.1.2.2.1 y.1.2.2.2.1 y.2.1.1) k ((ae,(ac,(al,(af,())))),((ai,()),()))
def zN_m(n:Nat)(l:List Int)(of:Int×Unit→Option (List UInt8×Unit)):Option (List (List UInt8)×Unit) :=
  (yOv n n (of) (l) ((↑l.length:Int)) ((0:Int)) ([]))
theorem yYU(n:Nat)(x:zN_a.den):runF zN_g (yUp n) Tryz.f176 zN_a zN_r x=zN_m n x.1 x.2.1:=by kernel_rfl
def zN_M(l:List Int)(of:Int×Unit→Option (List UInt8×Unit)):Option (List (List UInt8)×Unit):=zN_m 1000 l of
theorem yUN(l:List Int)(of:Int×Unit→Option (List UInt8×Unit))(y:List (List UInt8)×Unit)(h:zN_M l of=some y):∃ n,zN_m n l of=some y:=⟨1000,h⟩
def zN_e:Entry:={ f:=176,args:=zN_a,ress:=zN_r,m:=fun x=>zN_M x.1 x.2.1 }
theorem yZJ:FnOK Tryz.prog zN_e:=yJ (g:=zN_g) (fn:=Tryz.f176) yA yI eNil (by kernel_rfl) (by kernel_rfl) (by kernel_rfl) (fun x y h=>let ⟨n,hn⟩:=yUN x.1 x.2.1 y h;⟨yUp n,iNil,(yYU n x).trans hn⟩)
abbrev yPZ:Ty:=.pair t3 (.pair t3 .unit)
abbrev yS0:Ty:=.pair t3 .unit
def yVs:G:={ T:=T,E:=[],muts:=[],fz:=[] }
def yZC:List (List Nat):=[[0,1]]
def yM6(n:Nat):Ann:={ keep:=yZC,fuel:=n,inl:=[],deep:=0 }
def yEU(n:Nat)(r0:Int→Int→Option (Int×Unit))(am:Int)(ar:Int):Option (Int×Unit) :=
  (bif ar != 0 then (bif ar==0 then none else r0 ar (am.tmod ar))else some (am,()))
def y6V(n:Nat)(k:Nat)(am:Int)(ar:Int):Option (Int×Unit) :=
  iter (fun r y=>yEU n (fun am ar=>r ((am,(ar,())),((),()))) y.1.1 y.1.2.1) k ((am,(ar,())),((),()))
def yL9(n:Nat)(a:Int)(b:Int):Option (Int×Unit) :=
  (y6V n n (a) (b))
theorem yT8(n:Nat)(x:yPZ.den):runF yVs (yM6 n) Tryz.f185 yPZ yS0 x=yL9 n x.1 x.2.1:=by kernel_rfl
def yBg(am:Int)(ar:Int):Option ((Int×Unit)⊕(Int×Int)) :=
  (bif ar != 0 then (bif ar==0 then none else (some (Sum.inr ((ar),(am.tmod ar)))))else (some (Sum.inl ((am,())))))
theorem yCf(n:Nat)(hn:big≤n)(am:Int)(ar:Int):LeF some (y4L (fun aa=>yBg aa.1 aa.2) wMax (am,ar)) (y6V n n am ar):=by
  refine y6w (f:=some) (W:=fun aG aa=>y6V n aG aa.1 aa.2) (body:=(fun aa=>yBg aa.1 aa.2)) (fun aG aa=>?_) wMax n (am,ar) (by unfold big at hn;unfold wMax;omega)
  show LeF _ _ (yEU n (y6V n aG) aa.1 aa.2)
  exact (y8 (y8 y0D (yB rfl)) (yB rfl))
def y8P(a:Int)(b:Int):Option (Int×Unit) :=
  (y4L (fun aa=>yBg aa.1 aa.2) wMax ((a),(b)))
theorem yQq(a:Int)(b:Int)(y:Int×Unit)(h:y8P a b=some y):∃ n,yL9 n a b=some y :=
  ⟨big,LeF.top (show LeF some (y8P a b) (yL9 big a b)from (fun (n:Nat) (hn:big≤n)=>show LeF some (y8P a b) (yL9 n a b)from (by apply yCf n hn)) big (Nat.le_refl _)) h⟩
def z00_e:Entry:={ f:=185,args:=yPZ,ress:=yS0,m:=fun x=>y8P x.1 x.2.1 }
theorem yXz:FnOK Tryz.prog z00_e:=yJ (g:=yVs) (fn:=Tryz.f185) yA yI eNil (by kernel_rfl) (by kernel_rfl) (by kernel_rfl) (fun x y h=>let ⟨n,hn⟩:=yQq x.1 x.2.1 y h;⟨yM6 n,iNil,(yT8 n x).trans hn⟩)
abbrev yNb:Ty:=.pair t9 .unit
abbrev ySY:Ty:=.pair t4 .unit
def yY7:G:={ T:=T,E:=[],muts:=[],fz:=[] }
def yai:List (List Nat):=[[0,3]]
def yND(n:Nat):Ann:={ keep:=yai,fuel:=n,inl:=[],deep:=0 }
def y3v(n:Nat)(r2:List UInt8→Int→Option (Bool×Unit))(aQ:List UInt8)(bi:Int)(v3:UInt8):Option (Bool×Unit) :=
  (bif bi==0 then some (Bool.false,())else (bif (↑v3.toNat:Int) != 95 then (bif decide ((↑v3.toNat:Int) < 48)then some (Bool.false,())else (bif decide ((↑v3.toNat:Int) > 57)then some (Bool.false,())else r2 aQ (IntKind.i64.wrap (bi+1))))else r2 aQ (IntKind.i64.wrap (bi+1))))
def yE4(n:Nat)(r2:List UInt8→Int→Option (Bool×Unit))(aQ:List UInt8)(bi:Int):Option (Bool×Unit) :=
  (bif decide (bi < (↑aQ.length:Int))then (Option.bind (idx aQ bi) fun v3=>(bif decide ((↑v3.toNat:Int) ≥ 97)then (bif decide ((↑v3.toNat:Int)≤122)then r2 aQ (IntKind.i64.wrap (bi+1))else (bif decide ((↑v3.toNat:Int) ≥ 65)then (bif decide ((↑v3.toNat:Int)≤90)then r2 aQ (IntKind.i64.wrap (bi+1))else (y3v n r2 aQ bi v3))else (y3v n r2 aQ bi v3)))else (bif decide ((↑v3.toNat:Int) ≥ 65)then (bif decide ((↑v3.toNat:Int)≤90)then r2 aQ (IntKind.i64.wrap (bi+1))else (y3v n r2 aQ bi v3))else (y3v n r2 aQ bi v3))))else some (Bool.true,()))
def y6r(n:Nat)(k:Nat)(aQ:List UInt8)(bi:Int):Option (Bool×Unit) :=
  iter (fun r y=>yE4 n (fun aQ bi=>r ((aQ,(bi,())),((),()))) y.1.1 y.1.2.1) k ((aQ,(bi,())),((),()))
def yJB(n:Nat)(s:List UInt8):Option (Bool×Unit) :=
  (bif (↑s.length:Int)==0 then some (Bool.false,())else (bif decide ((↑s.length:Int) > 24)then some (Bool.false,())else (y6r n n (s) ((0:Int)))))
theorem yVq(n:Nat)(x:yNb.den):runF yY7 (yND n) Tryz.f187 yNb ySY x=yJB n x.1:=by kernel_rfl
def y5d(aQ:List UInt8)(bi:Int)(v3:UInt8):Option ((Bool×Unit)⊕Unit) :=
  (bif bi==0 then (some (Sum.inl ((Bool.false,()))))else (bif (↑v3.toNat:Int) != 95 then (bif decide ((↑v3.toNat:Int) < 48)then (some (Sum.inl ((Bool.false,()))))else (bif decide ((↑v3.toNat:Int) > 57)then (some (Sum.inl ((Bool.false,()))))else (some (Sum.inr ()))))else (some (Sum.inr ()))))
theorem y0W(n:Nat)(hn:big≤n)(r2:List UInt8→Int→Option (Bool×Unit))(aQ:List UInt8)(bi:Int)(v3:UInt8):LeF (elim some fun (aa:Unit)=>r2 aQ (IntKind.i64.wrap (bi+1))) (y5d aQ bi v3) (y3v n r2 aQ bi v3) :=
  (y8 (yB rfl) (y8 (y8 (yB rfl) (y8 (yB rfl) (yB rfl))) (yB rfl)))
def y96(aQ:List UInt8)(bi:Int)(v3:UInt8):Option ((Bool×Unit)⊕Unit) :=
  (bif decide ((↑v3.toNat:Int) ≥ 97)then (bif decide ((↑v3.toNat:Int)≤122)then (some (Sum.inr ()))else (bif decide ((↑v3.toNat:Int) ≥ 65)then (bif decide ((↑v3.toNat:Int)≤90)then (some (Sum.inr ()))else (y5d aQ bi v3))else (y5d aQ bi v3)))else (bif decide ((↑v3.toNat:Int) ≥ 65)then (bif decide ((↑v3.toNat:Int)≤90)then (some (Sum.inr ()))else (y5d aQ bi v3))else (y5d aQ bi v3)))
def yEO(aQ:List UInt8):Option (Bool×Unit) :=
  (some ((Bool.true,())))
theorem yCe(n:Nat)(hn:big≤n)(aQ:List UInt8)(hx:List.length (aQ) < lenMax):LeF some (yQ (fun aj aE aa=>y96 aQ aj aE) (fun aa=>yEO aQ) 0 (aQ) ()) (y6r n n aQ 0):=by
  refine yd (f:=some) (W:=fun aG aj aa=>y6r n aG aQ aj) (body:=(fun aj aE aa=>y96 aQ aj aE)) (fin:=(fun aa=>yEO aQ)) (fun aG aj aa=>?_) hx () n (by unfold big at hn;unfold lenMax at hx;omega)
  show LeF _ _ (yE4 n (y6r n aG) aQ aj)
  exact y8 (yE fun v3=>(y8 (y8 (yB rfl) (y8 (y8 (yB rfl) (by apply y0W n hn)) (by apply y0W n hn))) (y8 (y8 (yB rfl) (by apply y0W n hn)) (by apply y0W n hn)))) (y0b (yB rfl))
def yDR(s:List UInt8):Option (Bool×Unit) :=
  (bif (↑s.length:Int)==0 then (some ((Bool.false,())))else (bif decide ((↑s.length:Int) > 24)then (some ((Bool.false,())))else (bif decide (List.length (s) < lenMax)then yQ (fun aj aE aa=>y96 (s) aj aE) (fun aa=>yEO (s)) 0 (s) ()else none)))
theorem yQJ(s:List UInt8)(y:Bool×Unit)(h:yDR s=some y):∃ n,yJB n s=some y :=
  ⟨big,LeF.top (show LeF some (yDR s) (yJB big s)from (fun (n:Nat) (hn:big≤n)=>show LeF some (yDR s) (yJB n s)from (y8 (yB rfl) (y8 (yB rfl) (yg fun hx=>by apply yCe n hn;exact hx)))) big (Nat.le_refl _)) h⟩
def z08_e:Entry:={ f:=187,args:=yNb,ress:=ySY,m:=fun x=>yDR x.1 }
theorem ySE:FnOK Tryz.prog z08_e:=yJ (g:=yY7) (fn:=Tryz.f187) yA yI eNil (by kernel_rfl) (by kernel_rfl) (by kernel_rfl) (fun x y h=>let ⟨n,hn⟩:=yQJ x.1 y h;⟨yND n,iNil,(yVq n x).trans hn⟩)
abbrev zx_a:Ty:=.pair t55 .unit
abbrev zx_r:Ty:=.pair t55 .unit
def zx_g:G:={ T:=T,E:=[],muts:=[],fz:=[] }
def zx_k:List (List Nat):=[]
def yUH(n:Nat):Ann:={ keep:=zx_k,fuel:=n,inl:=[],deep:=0 }
def zx_m(n:Nat)(c:Q3):Option ((Q3)×Unit) :=
  some ((c.1,c.2.1,c.2.2.1,()),())
theorem yZT(n:Nat)(x:zx_a.den):runF zx_g (yUH n) Tryz.f189 zx_a zx_r x=zx_m n x.1:=by kernel_rfl
def zx(c:Q3):((Q3)×Unit) :=
  ((c.1,c.2.1,c.2.2.1,()),())
abbrev zx_M (c:Q3):Option ((Q3)×Unit):=some (zx c)
theorem ySI(c:Q3)(y:(Q3)×Unit)(h:zx_M c=some y):∃ n,zx_m n c=some y :=
  ⟨0,by rw[← h];show zx_m 0 c=some (zx c);unfold zx_m zx;first|rfl|(simp only[yG];done)|(simp only[yG];rfl)⟩
def zx_e:Entry:={ f:=189,args:=zx_a,ress:=zx_r,m:=fun x=>zx_M x.1 }
theorem yZa:FnOK Tryz.prog zx_e:=yJ (g:=zx_g) (fn:=Tryz.f189) yA yI eNil (by kernel_rfl) (by kernel_rfl) (by kernel_rfl) (fun x y h=>let ⟨n,hn⟩:=ySI x.1 y h;⟨yUH n,iNil,(yZT n x).trans hn⟩)
abbrev zy_a:Ty:=.pair t57 (.pair (.ref t3) .unit)
abbrev zy_r:Ty:=.pair t57 .unit
def zy_g:G:={ T:=T,E:=[],muts:=[],fz:=[] }
def zy_k:List (List Nat):=[]
def yTz(n:Nat):Ann:={ keep:=zy_k,fuel:=n,inl:=[],deep:=0 }
def zy_m(n:Nat)(z:Q4)(p1:Int):Option ((Q4)×Unit) :=
  (bif p1==0 then none else (bif p1==0 then none else some ((IntKind.i64.wrap (z.1.tdiv p1),IntKind.i64.wrap (z.2.1.tdiv p1),()),())))
theorem yZj(n:Nat)(x:zy_a.den):runF zy_g (yTz n) Tryz.f190 zy_a zy_r x=zy_m n x.1 x.2.1:=by kernel_rfl
def zy_M(z:Q4)(p1:Int):Option ((Q4)×Unit):=zy_m 0 z p1
theorem yWN(z:Q4)(p1:Int)(y:(Q4)×Unit)(h:zy_M z p1=some y):∃ n,zy_m n z p1=some y:=⟨0,h⟩
def zy_e:Entry:={ f:=190,args:=zy_a,ress:=zy_r,m:=fun x=>zy_M x.1 x.2.1 }
theorem yZm:FnOK Tryz.prog zy_e:=yJ (g:=zy_g) (fn:=Tryz.f190) yA yI eNil (by kernel_rfl) (by kernel_rfl) (by kernel_rfl) (fun x y h=>let ⟨n,hn⟩:=yWN x.1 x.2.1 y h;⟨yTz n,iNil,(yZj n x).trans hn⟩)
abbrev z8_a:Ty:=.pair t31 (.pair t255 .unit)
abbrev z8_r:Ty:=.pair t96 .unit
def z8_g:G:={ T:=T,E:=[],muts:=[5],fz:=[] }
def z8_k:List (List Nat):=[[1,5,8,9,10]]
def yWs(n:Nat):Ann:={ keep:=z8_k,fuel:=n,inl:=[],deep:=0 }
def yOg(n:Nat)(r0:((Q3)×Unit→Option (List (Q4)×Unit))→List (Q3)→Int→Int→List (List (Q4))→Option (List (List (Q4))×Unit))(ae:(Q3)×Unit→Option (List (Q4)×Unit))(ac:List (Q3))(al:Int)(af:Int)(ai:List (List (Q4))):Option (List (List (Q4))×Unit) :=
  (bif decide (af < al)then (Option.bind (idx ac af) fun v1=>(Option.bind (ae ((v1.1,v1.2.1,v1.2.2.1,()),())) fun v2=>(bif decide (ai.length+(1:Nat)≤memMax)then r0 ae ac al (IntKind.i64.wrap (af+1)) (ai++[v2.1])else none)))else some (ai,()))
def yQZ(n:Nat)(k:Nat)(ae:(Q3)×Unit→Option (List (Q4)×Unit))(ac:List (Q3))(al:Int)(af:Int)(ai:List (List (Q4))):Option (List (List (Q4))×Unit) :=
  iter (fun r y=>yOg n (fun ae ac al af ai=>r ((ae,(ac,(al,(af,())))),((ai,()),()))) y.1.1 y.1.2.1 y.1.2.2.1 y.1.2.2.2.1 y.2.1.1) k ((ae,(ac,(al,(af,())))),((ai,()),()))
def z8_m(n:Nat)(l:List (Q3))(of:(Q3)×Unit→Option (List (Q4)×Unit)):Option (List (List (Q4))×Unit) :=
  (yQZ n n (of) (l) ((↑l.length:Int)) ((0:Int)) ([]))
theorem ya2(n:Nat)(x:z8_a.den):runF z8_g (yWs n) Tryz.f191 z8_a z8_r x=z8_m n x.1 x.2.1:=by kernel_rfl
def z8_M(l:List (Q3))(of:(Q3)×Unit→Option (List (Q4)×Unit)):Option (List (List (Q4))×Unit):=z8_m 1000 l of
theorem yXk(l:List (Q3))(of:(Q3)×Unit→Option (List (Q4)×Unit))(y:List (List (Q4))×Unit)(h:z8_M l of=some y):∃ n,z8_m n l of=some y:=⟨1000,h⟩
def z8_e:Entry:={ f:=191,args:=z8_a,ress:=z8_r,m:=fun x=>z8_M x.1 x.2.1 }
theorem yYq:FnOK Tryz.prog z8_e:=yJ (g:=z8_g) (fn:=Tryz.f191) yA yI eNil (by kernel_rfl) (by kernel_rfl) (by kernel_rfl) (fun x y h=>let ⟨n,hn⟩:=yXk x.1 x.2.1 y h;⟨yWs n,iNil,(ya2 n x).trans hn⟩)
abbrev zI_a:Ty:=.pair t35 (.pair t259 .unit)
abbrev zI_r:Ty:=.pair t175 .unit
def zI_g:G:={ T:=T,E:=[],muts:=[5],fz:=[] }
def zI_k:List (List Nat):=[[1,5,8,9,10]]
def yVe(n:Nat):Ann:={ keep:=zI_k,fuel:=n,inl:=[],deep:=0 }
def yNn(n:Nat)(r0:(Nat×Unit→Option (Int×Unit))→List Nat→Int→Int→List Int→Option (List Int×Unit))(ae:Nat×Unit→Option (Int×Unit))(ac:List Nat)(al:Int)(af:Int)(ai:List Int):Option (List Int×Unit) :=
  (bif decide (af < al)then (Option.bind (idx ac af) fun v1=>(Option.bind (ae (v1,())) fun v2=>(bif decide (ai.length+(1:Nat)≤memMax)then r0 ae ac al (IntKind.i64.wrap (af+1)) (ai++[v2.1])else none)))else some (ai,()))
def yP6(n:Nat)(k:Nat)(ae:Nat×Unit→Option (Int×Unit))(ac:List Nat)(al:Int)(af:Int)(ai:List Int):Option (List Int×Unit) :=
  iter (fun r y=>yNn n (fun ae ac al af ai=>r ((ae,(ac,(al,(af,())))),((ai,()),()))) y.1.1 y.1.2.1 y.1.2.2.1 y.1.2.2.2.1 y.2.1.1) k ((ae,(ac,(al,(af,())))),((ai,()),()))
def zI_m(n:Nat)(l:List Nat)(of:Nat×Unit→Option (Int×Unit)):Option (List Int×Unit) :=
  (yP6 n n (of) (l) ((↑l.length:Int)) ((0:Int)) ([]))
theorem yYa(n:Nat)(x:zI_a.den):runF zI_g (yVe n) Tryz.f196 zI_a zI_r x=zI_m n x.1 x.2.1:=by kernel_rfl
def zI_M(l:List Nat)(of:Nat×Unit→Option (Int×Unit)):Option (List Int×Unit):=zI_m 1000 l of
theorem yUx(l:List Nat)(of:Nat×Unit→Option (Int×Unit))(y:List Int×Unit)(h:zI_M l of=some y):∃ n,zI_m n l of=some y:=⟨1000,h⟩
def zI_e:Entry:={ f:=196,args:=zI_a,ress:=zI_r,m:=fun x=>zI_M x.1 x.2.1 }
theorem yaw:FnOK Tryz.prog zI_e:=yJ (g:=zI_g) (fn:=Tryz.f196) yA yI eNil (by kernel_rfl) (by kernel_rfl) (by kernel_rfl) (fun x y h=>let ⟨n,hn⟩:=yUx x.1 x.2.1 y h;⟨yVe n,iNil,(yYa n x).trans hn⟩)
abbrev yP2:Ty:=.pair t175 .unit
abbrev yWU:Ty:=.pair t28 .unit
def yX4:G:={ T:=T,E:=[],muts:=[],fz:=[] }
def yZE:List (List Nat):=[[5,6,7]]
def yLh(n:Nat):Ann:={ keep:=yZE,fuel:=n,inl:=[],deep:=0 }
def yKH(n:Nat)(r0:List Int→Int→Int→Option (Int×Unit))(bg:List Int)(aD:Int)(ay:Int):Option (Int×Unit) :=
  (bif decide (ay < aD)then (Option.bind (idx bg ay) fun v1=>(bif v1 != 0 then some (v1,())else r0 bg aD (IntKind.i64.wrap (ay+1))))else some ((0:Int),()))
def yK2(n:Nat)(k:Nat)(bg:List Int)(aD:Int)(ay:Int):Option (Int×Unit) :=
  iter (fun r y=>yKH n (fun bg aD ay=>r ((bg,(aD,(ay,()))),((),()))) y.1.1 y.1.2.1 y.1.2.2.1) k ((bg,(aD,(ay,()))),((),()))
def yOA(n:Nat)(l:List Int):Option (Int×Unit) :=
  (yK2 n n (l) ((↑l.length:Int)) ((0:Int)))
theorem yXV(n:Nat)(x:yP2.den):runF yX4 (yLh n) Tryz.f198 yP2 yWU x=yOA n x.1:=by kernel_rfl
def yFR(l:List Int):Option (Int×Unit):=yOA 1000 l
theorem yNz(l:List Int)(y:Int×Unit)(h:yFR l=some y):∃ n,yOA n l=some y:=⟨1000,h⟩
def z0M_e:Entry:={ f:=198,args:=yP2,ress:=yWU,m:=fun x=>yFR x.1 }
theorem yMF:FnOK Tryz.prog z0M_e:=yJ (g:=yX4) (fn:=Tryz.f198) yA yI eNil (by kernel_rfl) (by kernel_rfl) (by kernel_rfl) (fun x y h=>let ⟨n,hn⟩:=yNz x.1 y h;⟨yLh n,iNil,(yXV n x).trans hn⟩)
abbrev yPj:Ty:=.pair t4 (.pair t28 .unit)
abbrev yUs:Ty:=.pair t28 .unit
def yRZ:G:={ T:=T,E:=[],muts:=[],fz:=[] }
def yYZ:List (List Nat):=[]
def yN0(n:Nat):Ann:={ keep:=yYZ,fuel:=n,inl:=[],deep:=0 }
def yKv(n:Nat)(holds:Bool)(e:Int):Option (Int×Unit) :=
  (bif holds then some (e,())else some ((0:Int),()))
theorem yTw(n:Nat)(x:yPj.den):runF yRZ (yN0 n) Tryz.f199 yPj yUs x=yKv n x.1 x.2.1:=by kernel_rfl
def z0g(holds:Bool)(e:Int):(Int×Unit) :=
  (bif holds then (e,())else ((0:Int),()))
abbrev yWn (holds:Bool) (e:Int):Option (Int×Unit):=some (z0g holds e)
theorem yOG(holds:Bool)(e:Int)(y:Int×Unit)(h:yWn holds e=some y):∃ n,yKv n holds e=some y :=
  ⟨0,by rw[← h];show yKv 0 holds e=some (z0g holds e);unfold yKv z0g;first|rfl|(simp only[yG];done)|(simp only[yG];rfl)⟩
def z0g_e:Entry:={ f:=199,args:=yPj,ress:=yUs,m:=fun x=>yWn x.1 x.2.1 }
theorem yCM:FnOK Tryz.prog z0g_e:=yJ (g:=yRZ) (fn:=Tryz.f199) yA yI eNil (by kernel_rfl) (by kernel_rfl) (by kernel_rfl) (fun x y h=>let ⟨n,hn⟩:=yOG x.1 x.2.1 y h;⟨yN0 n,iNil,(yTw n x).trans hn⟩)
abbrev yQn:Ty:=.pair t9 .unit
abbrev ySp:Ty:=.pair t4 .unit
def yS9:G:={ T:=T,E:=[],muts:=[],fz:=[] }
def yad:List (List Nat):=[[0,8]]
def yMv(n:Nat):Ann:={ keep:=yad,fuel:=n,inl:=[],deep:=0 }
def y5B(n:Nat)(r0:List UInt8→List UInt8→Int→Option (Bool×Unit))(aC:List UInt8)(str0__0:List UInt8)(pos0__0:Int)(j2:Bool)(j7:Bool):Option (Bool×Unit) :=
  (bif !j2 then (bif pos0__0==0 then some (Bool.false,())else (bif !j7 then some (Bool.false,())else r0 aC str0__0 (ya str0__0 pos0__0).2))else r0 aC str0__0 (ya str0__0 pos0__0).2)
def y2r(n:Nat)(r0:List UInt8→List UInt8→Int→Option (Bool×Unit))(aC:List UInt8)(str0__0:List UInt8)(pos0__0:Int)(j2:Bool):Option (Bool×Unit) :=
  (bif decide ((ya str0__0 pos0__0).1 ≥ 48)then (bif decide ((ya str0__0 pos0__0).1≤57)then (y5B n r0 aC str0__0 pos0__0 j2 (Bool.true))else (y5B n r0 aC str0__0 pos0__0 j2 ((ya str0__0 pos0__0).1==95)))else (y5B n r0 aC str0__0 pos0__0 j2 ((ya str0__0 pos0__0).1==95)))
def yEl(n:Nat)(r0:List UInt8→List UInt8→Int→Option (Bool×Unit))(aC:List UInt8)(str0__0:List UInt8)(pos0__0:Int):Option (Bool×Unit) :=
  (bif decide (pos0__0 < (↑str0__0.length:Int))then (bif decide ((ya str0__0 pos0__0).1 ≥ 65)then (bif decide ((ya str0__0 pos0__0).1≤90)then (y2r n r0 aC str0__0 pos0__0 (Bool.true))else (bif decide ((ya str0__0 pos0__0).1 ≥ 97)then (y2r n r0 aC str0__0 pos0__0 (decide ((ya str0__0 pos0__0).1≤122)))else (y2r n r0 aC str0__0 pos0__0 (Bool.false))))else (bif decide ((ya str0__0 pos0__0).1 ≥ 97)then (y2r n r0 aC str0__0 pos0__0 (decide ((ya str0__0 pos0__0).1≤122)))else (y2r n r0 aC str0__0 pos0__0 (Bool.false))))else (bif !aC==[]then some (decide ((↑aC.length:Int)≤24),())else some (Bool.false,())))
def y6x(n:Nat)(k:Nat)(aC:List UInt8)(str0__0:List UInt8)(pos0__0:Int):Option (Bool×Unit) :=
  iter (fun r y=>yEl n (fun aC str0__0 pos0__0=>r ((aC,()),(((str0__0,pos0__0),()),()))) y.1.1 y.2.1.1.1 y.2.1.1.2) k ((aC,()),(((str0__0,pos0__0),()),()))
def yJ5(n:Nat)(s:List UInt8):Option (Bool×Unit) :=
  (y6x n n (s) (s) ((0:Int)))
theorem yV2(n:Nat)(x:yQn.den):runF yS9 (yMv n) Tryz.f200 yQn ySp x=yJ5 n x.1:=by kernel_rfl
def y76(aC:List UInt8)(str0__0:List UInt8)(pos0__0:Int)(j2:Bool)(j7:Bool):Option ((Bool×Unit)⊕Unit) :=
  (bif !j2 then (bif pos0__0==0 then (some (Sum.inl ((Bool.false,()))))else (bif !j7 then (some (Sum.inl ((Bool.false,()))))else (some (Sum.inr ()))))else (some (Sum.inr ())))
theorem y1D(n:Nat)(hn:big≤n)(r0:List UInt8→List UInt8→Int→Option (Bool×Unit))(aC:List UInt8)(str0__0:List UInt8)(pos0__0:Int)(j2:Bool)(j7:Bool):LeF (elim some fun (aa:Unit)=>r0 aC str0__0 (ya (str0__0) pos0__0).2) (y76 aC str0__0 pos0__0 j2 j7) (y5B n r0 aC str0__0 pos0__0 j2 j7) :=
  (y8 (y8 (yB rfl) (y8 (yB rfl) (yB rfl))) (yB rfl))
def y4n(aC:List UInt8)(str0__0:List UInt8)(pos0__0:Int)(j2:Bool):Option ((Bool×Unit)⊕Unit) :=
  (bif decide ((ya str0__0 pos0__0).1 ≥ 48)then (bif decide ((ya str0__0 pos0__0).1≤57)then (y76 aC str0__0 pos0__0 j2 (Bool.true))else (y76 aC str0__0 pos0__0 j2 ((ya str0__0 pos0__0).1==95)))else (y76 aC str0__0 pos0__0 j2 ((ya str0__0 pos0__0).1==95)))
theorem y0C(n:Nat)(hn:big≤n)(r0:List UInt8→List UInt8→Int→Option (Bool×Unit))(aC:List UInt8)(str0__0:List UInt8)(pos0__0:Int)(j2:Bool):LeF (elim some fun (aa:Unit)=>r0 aC str0__0 (ya (str0__0) pos0__0).2) (y4n aC str0__0 pos0__0 j2) (y2r n r0 aC str0__0 pos0__0 j2) :=
  (y8 (y8 (by apply y1D n hn) (by apply y1D n hn)) (by apply y1D n hn))
def y9N(aC:List UInt8)(str0__0:List UInt8)(pos0__0:Int):Option ((Bool×Unit)⊕Unit) :=
  (bif decide ((ya str0__0 pos0__0).1 ≥ 65)then (bif decide ((ya str0__0 pos0__0).1≤90)then (y4n aC str0__0 pos0__0 (Bool.true))else (bif decide ((ya str0__0 pos0__0).1 ≥ 97)then (y4n aC str0__0 pos0__0 (decide ((ya str0__0 pos0__0).1≤122)))else (y4n aC str0__0 pos0__0 (Bool.false))))else (bif decide ((ya str0__0 pos0__0).1 ≥ 97)then (y4n aC str0__0 pos0__0 (decide ((ya str0__0 pos0__0).1≤122)))else (y4n aC str0__0 pos0__0 (Bool.false))))
def y93(aC:List UInt8)(str0__0:List UInt8):Option (Bool×Unit) :=
  (bif !aC==[]then (some ((decide ((↑aC.length:Int)≤24),())))else (some ((Bool.false,()))))
theorem yDN(n:Nat)(hn:big≤n)(aC:List UInt8)(str0__0:List UInt8)(hx:List.length (str0__0) < lenMax):LeF some (y8L (str0__0) (fun aj aa=>y9N aC str0__0 aj) (fun aa=>y93 aC str0__0) (List.length (str0__0)) 0 ()) (y6x n n aC str0__0 0):=by
  refine yLL (f:=some) (W:=fun aG aj aa=>y6x n aG aC str0__0 aj) (body:=(fun aj aa=>y9N aC str0__0 aj)) (fin:=(fun aa=>y93 aC str0__0)) (fun aG aj aa=>?_) () n (by unfold big at hn;unfold lenMax at hx;omega)
  show LeF _ _ (yEl n (y6x n aG) aC str0__0 aj)
  exact y8 (y8 (y8 (by apply y0C n hn) (y8 (by apply y0C n hn) (by apply y0C n hn))) (y8 (by apply y0C n hn) (by apply y0C n hn))) (y0b (y8 (yB rfl) (yB rfl)))
def yBr(s:List UInt8):Option (Bool×Unit) :=
  (bif decide (List.length (s) < lenMax)then y8L (s) (fun aj aa=>y9N (s) (s) aj) (fun aa=>y93 (s) (s)) (List.length (s)) 0 ()else none)
theorem yPe(s:List UInt8)(y:Bool×Unit)(h:yBr s=some y):∃ n,yJ5 n s=some y :=
  ⟨big,LeF.top (show LeF some (yBr s) (yJ5 big s)from (fun (n:Nat) (hn:big≤n)=>show LeF some (yBr s) (yJ5 n s)from (yg fun hx=>by apply yDN n hn;exact hx)) big (Nat.le_refl _)) h⟩
def z06_e:Entry:={ f:=200,args:=yQn,ress:=ySp,m:=fun x=>yBr x.1 }
theorem yMO:FnOK Tryz.prog z06_e:=yJ (g:=yS9) (fn:=Tryz.f200) yA yI eNil (by kernel_rfl) (by kernel_rfl) (by kernel_rfl) (fun x y h=>let ⟨n,hn⟩:=yPe x.1 y h;⟨yMv n,iNil,(yV2 n x).trans hn⟩)
abbrev zP_a:Ty:=.pair t63 (.pair (.ref t60) .unit)
abbrev zP_r:Ty:=.pair t4 .unit
def zP_g:G:={ T:=T,E:=[],muts:=[],fz:=[] }
def zP_k:List (List Nat):=[]
def yWk(n:Nat):Ann:={ keep:=zP_k,fuel:=n,inl:=[],deep:=0 }
def zP_m(n:Nat)(s:Q4)(p1:Q1):Option (Bool×Unit) :=
  some (decide (s.2.1 > (↑p1.2.2.1.length:Int)),())
theorem yYb(n:Nat)(x:zP_a.den):runF zP_g (yWk n) Tryz.f205 zP_a zP_r x=zP_m n x.1 x.2.1:=by kernel_rfl
def zP(s:Q4)(p1:Q1):(Bool×Unit) :=
  (decide (s.2.1 > (↑p1.2.2.1.length:Int)),())
abbrev zP_M (s:Q4) (p1:Q1):Option (Bool×Unit):=some (zP s p1)
theorem yTQ(s:Q4)(p1:Q1)(y:Bool×Unit)(h:zP_M s p1=some y):∃ n,zP_m n s p1=some y :=
  ⟨0,by rw[← h];show zP_m 0 s p1=some (zP s p1);unfold zP_m zP;first|rfl|(simp only[yG];done)|(simp only[yG];rfl)⟩
def zP_e:Entry:={ f:=205,args:=zP_a,ress:=zP_r,m:=fun x=>zP_M x.1 x.2.1 }
theorem yaG:FnOK Tryz.prog zP_e:=yJ (g:=zP_g) (fn:=Tryz.f205) yA yI eNil (by kernel_rfl) (by kernel_rfl) (by kernel_rfl) (fun x y h=>let ⟨n,hn⟩:=yTQ x.1 x.2.1 y h;⟨yWk n,iNil,(yYb n x).trans hn⟩)
abbrev zO_a:Ty:=.pair t61 .unit
abbrev zO_r:Ty:=.pair t4 .unit
def zO_g:G:={ T:=T,E:=[],muts:=[],fz:=[] }
def zO_k:List (List Nat):=[]
def yWx(n:Nat):Ann:={ keep:=zO_k,fuel:=n,inl:=[],deep:=0 }
def zO_m(n:Nat)(x1:Nat):Option (Bool×Unit) :=
  some (y0m Go.BinOp.neq Go.FloatKind.f32 x1 (nat_lit 0),())
theorem yaJ(n:Nat)(x:zO_a.den):runF zO_g (yWx n) Tryz.f208 zO_a zO_r x=zO_m n x.1:=by kernel_rfl
def zO(x1:Nat):(Bool×Unit) :=
  (y0m Go.BinOp.neq Go.FloatKind.f32 x1 (nat_lit 0),())
abbrev zO_M (x1:Nat):Option (Bool×Unit):=some (zO x1)
theorem ySc(x1:Nat)(y:Bool×Unit)(h:zO_M x1=some y):∃ n,zO_m n x1=some y :=
  ⟨0,by rw[← h];show zO_m 0 x1=some (zO x1);unfold zO_m zO;first|rfl|(simp only[yG];done)|(simp only[yG];rfl)⟩
def zO_e:Entry:={ f:=208,args:=zO_a,ress:=zO_r,m:=fun x=>zO_M x.1 }
theorem yb0:FnOK Tryz.prog zO_e:=yJ (g:=zO_g) (fn:=Tryz.f208) yA yI eNil (by kernel_rfl) (by kernel_rfl) (by kernel_rfl) (fun x y h=>let ⟨n,hn⟩:=ySc x.1 y h;⟨yWx n,iNil,(yaJ n x).trans hn⟩)
abbrev zY_a:Ty:=.pair t61 .unit
abbrev zY_r:Ty:=.pair t3 .unit
def zY_g:G:={ T:=T,E:=[],muts:=[],fz:=[] }
def zY_k:List (List Nat):=[]
def yVC(n:Nat):Ann:={ keep:=zY_k,fuel:=n,inl:=[],deep:=0 }
def zY_m(n:Nat)(x1:Nat):Option (Int×Unit) :=
  (Option.bind (y0e Go.FloatKind.f32 (y0n Go.BinOp.mul Go.FloatKind.f32 x1 (nat_lit 1098907648)) IntKind.i64) fun v0=>some (v0,()))
theorem yZ7(n:Nat)(x:zY_a.den):runF zY_g (yVC n) Tryz.f224 zY_a zY_r x=zY_m n x.1:=by kernel_rfl
def zY_M(x1:Nat):Option (Int×Unit):=zY_m 0 x1
theorem yWY(x1:Nat)(y:Int×Unit)(h:zY_M x1=some y):∃ n,zY_m n x1=some y:=⟨0,h⟩
def zY_e:Entry:={ f:=224,args:=zY_a,ress:=zY_r,m:=fun x=>zY_M x.1 }
theorem yZp:FnOK Tryz.prog zY_e:=yJ (g:=zY_g) (fn:=Tryz.f224) yA yI eNil (by kernel_rfl) (by kernel_rfl) (by kernel_rfl) (fun x y h=>let ⟨n,hn⟩:=yWY x.1 y h;⟨yVC n,iNil,(yZ7 n x).trans hn⟩)
abbrev zD_a:Ty:=.pair t58 (.pair t263 .unit)
abbrev zD_r:Ty:=.pair t3 .unit
def zD_g:G:={ T:=T,E:=[],muts:=[],fz:=[] }
def zD_k:List (List Nat):=[[0,1,7,8]]
def yVZ(n:Nat):Ann:={ keep:=zD_k,fuel:=n,inl:=[],deep:=0 }
def yPD(n:Nat)(r0:List (Q4)→((Q4)×Unit→Option (Bool×Unit))→Int→Int→Option (Int×Unit))(aC:List (Q4))(ck:(Q4)×Unit→Option (Bool×Unit))(ay:Int)(ac:Int):Option (Int×Unit) :=
  (bif decide (ac < ay)then (Option.bind (idx aC ac) fun v1=>(Option.bind (ck (v1,())) fun v2=>(bif v2.1 then some (ac,())else r0 aC ck ay (IntKind.i64.wrap (ac+1)))))else some ((-1:Int),()))
def yO5(n:Nat)(k:Nat)(aC:List (Q4))(ck:(Q4)×Unit→Option (Bool×Unit))(ay:Int)(ac:Int):Option (Int×Unit) :=
  iter (fun r y=>yPD n (fun aC ck ay ac=>r ((aC,(ck,(ay,(ac,())))),((),()))) y.1.1 y.1.2.1 y.1.2.2.1 y.1.2.2.2.1) k ((aC,(ck,(ay,(ac,())))),((),()))
def zD_m(n:Nat)(s:List (Q4))(f:(Q4)×Unit→Option (Bool×Unit)):Option (Int×Unit) :=
  (yO5 n n (s) (f) ((↑s.length:Int)) ((0:Int)))
theorem yYS(n:Nat)(x:zD_a.den):runF zD_g (yVZ n) Tryz.f226 zD_a zD_r x=zD_m n x.1 x.2.1:=by kernel_rfl
def zD_M(s:List (Q4))(f:(Q4)×Unit→Option (Bool×Unit)):Option (Int×Unit):=zD_m 1000 s f
theorem yTY(s:List (Q4))(f:(Q4)×Unit→Option (Bool×Unit))(y:Int×Unit)(h:zD_M s f=some y):∃ n,zD_m n s f=some y:=⟨1000,h⟩
def zD_e:Entry:={ f:=226,args:=zD_a,ress:=zD_r,m:=fun x=>zD_M x.1 x.2.1 }
theorem yYl:FnOK Tryz.prog zD_e:=yJ (g:=zD_g) (fn:=Tryz.f226) yA yI eNil (by kernel_rfl) (by kernel_rfl) (by kernel_rfl) (fun x y h=>let ⟨n,hn⟩:=yTY x.1 x.2.1 y h;⟨yVZ n,iNil,(yYS n x).trans hn⟩)
abbrev zE_a:Ty:=.pair t35 (.pair t265 .unit)
abbrev zE_r:Ty:=.pair t3 .unit
def zE_g:G:={ T:=T,E:=[],muts:=[],fz:=[] }
def zE_k:List (List Nat):=[[0,1,7,8]]
def yVw(n:Nat):Ann:={ keep:=zE_k,fuel:=n,inl:=[],deep:=0 }
def yOh(n:Nat)(r0:List Nat→(Nat×Unit→Option (Bool×Unit))→Int→Int→Option (Int×Unit))(aC:List Nat)(ck:Nat×Unit→Option (Bool×Unit))(ay:Int)(ac:Int):Option (Int×Unit) :=
  (bif decide (ac < ay)then (Option.bind (idx aC ac) fun v1=>(Option.bind (ck (v1,())) fun v2=>(bif v2.1 then some (ac,())else r0 aC ck ay (IntKind.i64.wrap (ac+1)))))else some ((-1:Int),()))
def yQI(n:Nat)(k:Nat)(aC:List Nat)(ck:Nat×Unit→Option (Bool×Unit))(ay:Int)(ac:Int):Option (Int×Unit) :=
  iter (fun r y=>yOh n (fun aC ck ay ac=>r ((aC,(ck,(ay,(ac,())))),((),()))) y.1.1 y.1.2.1 y.1.2.2.1 y.1.2.2.2.1) k ((aC,(ck,(ay,(ac,())))),((),()))
def zE_m(n:Nat)(s:List Nat)(f:Nat×Unit→Option (Bool×Unit)):Option (Int×Unit) :=
  (yQI n n (s) (f) ((↑s.length:Int)) ((0:Int)))
theorem yZK(n:Nat)(x:zE_a.den):runF zE_g (yVw n) Tryz.f227 zE_a zE_r x=zE_m n x.1 x.2.1:=by kernel_rfl
def zE_M(s:List Nat)(f:Nat×Unit→Option (Bool×Unit)):Option (Int×Unit):=zE_m 1000 s f
theorem yWa(s:List Nat)(f:Nat×Unit→Option (Bool×Unit))(y:Int×Unit)(h:zE_M s f=some y):∃ n,zE_m n s f=some y:=⟨1000,h⟩
def zE_e:Entry:={ f:=227,args:=zE_a,ress:=zE_r,m:=fun x=>zE_M x.1 x.2.1 }
theorem yZk:FnOK Tryz.prog zE_e:=yJ (g:=zE_g) (fn:=Tryz.f227) yA yI eNil (by kernel_rfl) (by kernel_rfl) (by kernel_rfl) (fun x y h=>let ⟨n,hn⟩:=yWa x.1 x.2.1 y h;⟨yVw n,iNil,(yZK n x).trans hn⟩)
end
end Go.Tw
end
section
set_option maxRecDepth 1000000
namespace Go.Tw
open Go.Vx Go.Vx.B Go.Proofs
noncomputable section
abbrev zk_a:Ty:=.pair t25 .unit
abbrev zk_r:Ty:=.pair t4 .unit
def zk_g:G:={ T:=T,E:=[zj_e],muts:=[],fz:=[] }
def zk_k:List (List Nat):=[]
def yVk(n:Nat):Ann:={ keep:=zk_k,fuel:=n,inl:=[],deep:=0 }
def zk_m(n:Nat)(t:Q2):Option (Bool×Unit) :=
  (Option.bind (zj_M t.1) fun v0=>(bif v0.1 then some (decide ((↑t.2.1.length:Int)≤5),())else some (Bool.false,())))
theorem yas(n:Nat)(x:zk_a.den):runF zk_g (yVk n) Tryz.f19 zk_a zk_r x=zk_m n x.1:=by kernel_rfl
def zk_M(t:Q2):Option (Bool×Unit):=zk_m 0 t
theorem yUT(t:Q2)(y:Bool×Unit)(h:zk_M t=some y):∃ n,zk_m n t=some y:=⟨0,h⟩
def zk_e:Entry:={ f:=19,args:=zk_a,ress:=zk_r,m:=fun x=>zk_M x.1 }
theorem yYu:FnOK Tryz.prog zk_e:=yJ (g:=zk_g) (fn:=Tryz.f19) yA yI (y6 yYX eNil) (by kernel_rfl) (by kernel_rfl) (by kernel_rfl) (fun x y h=>let ⟨n,hn⟩:=yUT x.1 y h;⟨yVk n,iNil,(yas n x).trans hn⟩)
abbrev yQV:Ty:=.pair t25 .unit
abbrev yXJ:Ty:=.pair t33 .unit
def yVa:G:={ T:=T,E:=[z0h_e,zz_e],muts:=[],fz:=[] }
def yZY:List (List Nat):=[]
def yNA(n:Nat):Ann:={ keep:=yZY,fuel:=n,inl:=[],deep:=0 }
def yJh(n:Nat)(t:Q2):Option ((Q2)×Unit) :=
  (Option.bind (yDW t.1) fun v0=>(Option.bind (zz_M t.2.1) fun v1=>some ((v0.1,v1.1,t.2.2.1,()),())))
theorem yT2(n:Nat)(x:yQV.den):runF yVa (yNA n) Tryz.f21 yQV yXJ x=yJh n x.1:=by kernel_rfl
def yKe(t:Q2):Option ((Q2)×Unit):=yJh 0 t
theorem yRC(t:Q2)(y:(Q2)×Unit)(h:yKe t=some y):∃ n,yJh n t=some y:=⟨0,h⟩
def z16_e:Entry:={ f:=21,args:=yQV,ress:=yXJ,m:=fun x=>yKe x.1 }
theorem yT3:FnOK Tryz.prog z16_e:=yJ (g:=yVa) (fn:=Tryz.f21) yA yI (y6 yRv (y6 yZv eNil)) (by kernel_rfl) (by kernel_rfl) (by kernel_rfl) (fun x y h=>let ⟨n,hn⟩:=yRC x.1 y h;⟨yNA n,iNil,(yT2 n x).trans hn⟩)
abbrev yQp:Ty:=.pair t25 (.pair t25 .unit)
abbrev yXx:Ty:=.pair t4 .unit
def yVu:G:={ T:=T,E:=[zV_e],muts:=[],fz:=[] }
def yYQ:List (List Nat):=[[2,3,5]]
def yLs(n:Nat):Ann:={ keep:=yYQ,fuel:=n,inl:=[],deep:=0 }
def yDu(n:Nat)(r2:Q2→Q2→Int→Option (Bool×Unit))(bG:Q2)(bJ:Q2)(cA:Int):Option (Bool×Unit) :=
  (bif decide (cA < (↑bG.1.length:Int))then (Option.bind (idx bG.1 cA) fun v3=>(Option.bind (idx bJ.1 cA) fun v4=>(bif !eqV (Ty.str.pair ((Ty.int IntKind.i64).pair ((Ty.int IntKind.i64).pair Ty.unit))) v3 v4 then some (Bool.false,())else r2 bG bJ (IntKind.i64.wrap (cA+1)))))else (Option.bind (zV_M bG.2.1 bJ.2.1) fun v5=>some (v5.1,())))
def y6o(n:Nat)(k:Nat)(bG:Q2)(bJ:Q2)(cA:Int):Option (Bool×Unit) :=
  iter (fun r y=>yDu n (fun bG bJ cA=>r ((bG,(bJ,(cA,()))),((),()))) y.1.1 y.1.2.1 y.1.2.2.1) k ((bG,(bJ,(cA,()))),((),()))
def yKB(n:Nat)(a:Q2)(b:Q2):Option (Bool×Unit) :=
  (bif a.2.2.1 != b.2.2.1 then some (Bool.false,())else (bif (↑a.1.length:Int) != (↑b.1.length:Int)then some (Bool.false,())else (y6o n n (a) (b) ((0:Int)))))
theorem yXA(n:Nat)(x:yQp.den):runF yVu (yLs n) Tryz.f38 yQp yXx x=yKB n x.1 x.2.1:=by kernel_rfl
def yEF(bG:Q2)(bJ:Q2)(cA:Int)(v3:Q3):Option ((Bool×Unit)⊕Unit) :=
  (Option.bind (idx bJ.1 cA) fun v4=>(bif !eqV (Ty.str.pair ((Ty.int IntKind.i64).pair ((Ty.int IntKind.i64).pair Ty.unit))) v3 v4 then (some (Sum.inl ((Bool.false,()))))else (some (Sum.inr ()))))
def yEx(bG:Q2)(bJ:Q2):Option (Bool×Unit) :=
  (Option.bind (zV_M bG.2.1 bJ.2.1) fun v5=>(some ((v5.1,()))))
theorem yCc(n:Nat)(hn:big≤n)(bG:Q2)(bJ:Q2)(hx:List.length (bG.1) < lenMax):LeF some (yQ (fun aj aE aa=>yEF bG bJ aj aE) (fun aa=>yEx bG bJ) 0 (bG.1) ()) (y6o n n bG bJ 0):=by
  refine yd (f:=some) (W:=fun aG aj aa=>y6o n aG bG bJ aj) (body:=(fun aj aE aa=>yEF bG bJ aj aE)) (fin:=(fun aa=>yEx bG bJ)) (fun aG aj aa=>?_) hx () n (by unfold big at hn;unfold lenMax at hx;omega)
  show LeF _ _ (yDu n (y6o n aG) bG bJ aj)
  exact y8 (yE fun v3=>(yE fun v4=>(y8 (yB rfl) (yB rfl)))) (y0b (yE fun v5=>(yB rfl)))
def yBb(a:Q2)(b:Q2):Option (Bool×Unit) :=
  (bif a.2.2.1 != b.2.2.1 then (some ((Bool.false,())))else (bif (↑a.1.length:Int) != (↑b.1.length:Int)then (some ((Bool.false,())))else (bif decide (List.length (a.1) < lenMax)then yQ (fun aj aE aa=>yEF (a) (b) aj aE) (fun aa=>yEx (a) (b)) 0 (a.1) ()else none)))
theorem yPI(a:Q2)(b:Q2)(y:Bool×Unit)(h:yBb a b=some y):∃ n,yKB n a b=some y :=
  ⟨big,LeF.top (show LeF some (yBb a b) (yKB big a b)from (fun (n:Nat) (hn:big≤n)=>show LeF some (yBb a b) (yKB n a b)from (y8 (yB rfl) (y8 (yB rfl) (yg fun hx=>by apply yCc n hn;exact hx)))) big (Nat.le_refl _)) h⟩
def z0o_e:Entry:={ f:=38,args:=yQp,ress:=yXx,m:=fun x=>yBb x.1 x.2.1 }
theorem ySl:FnOK Tryz.prog z0o_e:=yJ (g:=yVu) (fn:=Tryz.f38) yA yI (y6 yQo eNil) (by kernel_rfl) (by kernel_rfl) (by kernel_rfl) (fun x y h=>let ⟨n,hn⟩:=yPI x.1 x.2.1 y h;⟨yLs n,iNil,(yXA n x).trans hn⟩)
abbrev yRB:Ty:=.pair t3 .unit
abbrev yVG:Ty:=.pair t69 .unit
def yRr:G:={ T:=T,E:=[z09_e],muts:=[],fz:=[] }
def yZX:List (List Nat):=[]
def yLl(n:Nat):Ann:={ keep:=yZX,fuel:=n,inl:=[],deep:=0 }
def yJ7(n:Nat)(year:Int):Option ((Q4)×Unit) :=
  (Option.bind (yGB (IntKind.i64.wrap ((104:Int) - if IntKind.i64.wrap ((0:Int) - IntKind.i64.wrap (year.tmod (16:Int) - (8:Int))) > IntKind.i64.wrap (year.tmod (16:Int) - (8:Int))then IntKind.i64.wrap ((0:Int) - IntKind.i64.wrap (year.tmod (16:Int) - (8:Int)))else IntKind.i64.wrap (year.tmod (16:Int) - (8:Int)))) (100:Int)) fun v0=>some ((v0.1.1,v0.1.2.1,()),()))
theorem yTS(n:Nat)(x:yRB.den):runF yRr (yLl n) Tryz.f46 yRB yVG x=yJ7 n x.1:=by kernel_rfl
def yD2(year:Int):Option ((Q4)×Unit):=yJ7 0 year
theorem yPy(year:Int)(y:(Q4)×Unit)(h:yD2 year=some y):∃ n,yJ7 n year=some y:=⟨0,h⟩
def z0S_e:Entry:={ f:=46,args:=yRB,ress:=yVG,m:=fun x=>yD2 x.1 }
theorem yMc:FnOK Tryz.prog z0S_e:=yJ (g:=yRr) (fn:=Tryz.f46) yA yI (y6 yUW eNil) (by kernel_rfl) (by kernel_rfl) (by kernel_rfl) (fun x y h=>let ⟨n,hn⟩:=yPy x.1 y h;⟨yLl n,iNil,(yTS n x).trans hn⟩)
abbrev yNg:Ty:=.pair t25 .unit
abbrev yUI:Ty:=.pair t79 (.pair t3 .unit)
def yRq:G:={ T:=T,E:=[z0U_e],muts:=[5],fz:=[] }
def yap:List (List Nat):=[[1,4],[1,5,6]]
def yLq(n:Nat):Ann:={ keep:=yap,fuel:=n,inl:=[],deep:=0 }
def yEP(n:Nat)(r1:Q2→Int→List (Nat×Nat)→Option (List (Nat×Nat)×Int×Unit))(bt:Q2)(cB:Int)(bT:List (Nat×Nat)):Option (List (Nat×Nat)×Int×Unit) :=
  (bif decide (cB < (↑bt.2.1.length:Int))then (Option.bind (idx bt.2.1 cB) fun v2=>(bif decide ((if Bool.true=Bool.true then imax (imax (imax v2.1 v2.2.1) (IntKind.i64.wrap ((0:Int) - v2.1))) (IntKind.i64.wrap ((0:Int) - v2.2.1))else imin (imin (imin v2.1 v2.2.1) (IntKind.i64.wrap ((0:Int) - v2.1))) (IntKind.i64.wrap ((0:Int) - v2.2.1))) > IntKind.i64.wrap ((2:Int) * IntKind.i64.wrap ((2:Int) * IntKind.i64.wrap ((2:Int) * IntKind.i64.wrap ((2:Int) * IntKind.i64.wrap ((2:Int) * IntKind.i64.wrap ((2:Int) * IntKind.i64.wrap ((2:Int) * IntKind.i64.wrap ((2:Int) * IntKind.i64.wrap ((2:Int) * IntKind.i64.wrap ((2:Int) * IntKind.i64.wrap ((2:Int) * IntKind.i64.wrap ((2:Int) * IntKind.i64.wrap ((2:Int) * IntKind.i64.wrap ((2:Int) * IntKind.i64.wrap ((2:Int) * IntKind.i64.wrap ((2:Int) * IntKind.i64.wrap ((2:Int) * IntKind.i64.wrap ((2:Int) * IntKind.i64.wrap ((2:Int) * IntKind.i64.wrap ((2:Int) * IntKind.i64.wrap ((2:Int) * IntKind.i64.wrap ((2:Int) * IntKind.i64.wrap ((2:Int) * IntKind.i64.wrap ((2:Int) * 1)))))))))))))))))))))))))then some ([],(1:Int),())else (bif decide (bT.length+(1:Nat)≤memMax)then r1 bt (IntKind.i64.wrap (cB+1)) (bT++[(y0n Go.BinOp.quo Go.FloatKind.f32 (yk Go.FloatKind.f32 v2.1) (yk Go.FloatKind.f32 (IntKind.i64.wrap ((16:Int) * bt.2.2.1))),y0n Go.BinOp.quo Go.FloatKind.f32 (yk Go.FloatKind.f32 v2.2.1) (yk Go.FloatKind.f32 (IntKind.i64.wrap ((16:Int) * bt.2.2.1))))])else none)))else some (bT,(0:Int),()))
def y6i(n:Nat)(k:Nat)(bt:Q2)(cB:Int)(bT:List (Nat×Nat)):Option (List (Nat×Nat)×Int×Unit) :=
  iter (fun r y=>yEP n (fun bt cB bT=>r ((bt,(cB,())),((bT,()),()))) y.1.1 y.1.2.1 y.2.1.1) k ((bt,(cB,())),((bT,()),()))
def yE7(n:Nat)(r0:Q2→Int→Option (List (Nat×Nat)×Int×Unit))(au:Q2)(bW:Int):Option (List (Nat×Nat)×Int×Unit) :=
  (bif bW.tmod (2:Int)==0 then r0 au (IntKind.i64.wrap (bW.tdiv (2:Int)))else (bif bW != 1 then some ([],(1:Int),())else (y6i n n (au) ((0:Int)) ([]))))
def y6c(n:Nat)(k:Nat)(au:Q2)(bW:Int):Option (List (Nat×Nat)×Int×Unit) :=
  iter (fun r y=>yE7 n (fun au bW=>r ((au,(bW,())),((),()))) y.1.1 y.1.2.1) k ((au,(bW,())),((),()))
def yKG(n:Nat)(t:Q2):Option (List (Nat×Nat)×Int×Unit) :=
  (y6c n n (t) (t.2.2.1))
theorem yUn(n:Nat)(x:yNg.den):runF yRq (yLq n) Tryz.f50 yNg yUI x=yKG n x.1:=by kernel_rfl
def y7U(bt:Q2)(cB:Int)(v2:Q4)(bT:List (Nat×Nat)):Option (((List (Nat×Nat)×Int×Unit)⊕(Int))⊕(List (Nat×Nat))) :=
  (bif decide ((if Bool.true=Bool.true then imax (imax (imax v2.1 v2.2.1) (IntKind.i64.wrap ((0:Int) - v2.1))) (IntKind.i64.wrap ((0:Int) - v2.2.1))else imin (imin (imin v2.1 v2.2.1) (IntKind.i64.wrap ((0:Int) - v2.1))) (IntKind.i64.wrap ((0:Int) - v2.2.1))) > IntKind.i64.wrap ((2:Int) * IntKind.i64.wrap ((2:Int) * IntKind.i64.wrap ((2:Int) * IntKind.i64.wrap ((2:Int) * IntKind.i64.wrap ((2:Int) * IntKind.i64.wrap ((2:Int) * IntKind.i64.wrap ((2:Int) * IntKind.i64.wrap ((2:Int) * IntKind.i64.wrap ((2:Int) * IntKind.i64.wrap ((2:Int) * IntKind.i64.wrap ((2:Int) * IntKind.i64.wrap ((2:Int) * IntKind.i64.wrap ((2:Int) * IntKind.i64.wrap ((2:Int) * IntKind.i64.wrap ((2:Int) * IntKind.i64.wrap ((2:Int) * IntKind.i64.wrap ((2:Int) * IntKind.i64.wrap ((2:Int) * IntKind.i64.wrap ((2:Int) * IntKind.i64.wrap ((2:Int) * IntKind.i64.wrap ((2:Int) * IntKind.i64.wrap ((2:Int) * IntKind.i64.wrap ((2:Int) * IntKind.i64.wrap ((2:Int) * 1)))))))))))))))))))))))))then (some (Sum.inl (Sum.inl (([],(1:Int),())))))else (bif decide (bT.length+(1:Nat)≤memMax)then (some (Sum.inr (bT++[(y0n Go.BinOp.quo Go.FloatKind.f32 (yk Go.FloatKind.f32 v2.1) (yk Go.FloatKind.f32 (IntKind.i64.wrap ((16:Int) * bt.2.2.1))),y0n Go.BinOp.quo Go.FloatKind.f32 (yk Go.FloatKind.f32 v2.2.1) (yk Go.FloatKind.f32 (IntKind.i64.wrap ((16:Int) * bt.2.2.1))))])))else none))
def yBt(bt:Q2)(bT:List (Nat×Nat)):Option ((List (Nat×Nat)×Int×Unit)⊕(Int)) :=
  (some (Sum.inl ((bT,(0:Int),()))))
theorem yDS(n:Nat)(hn:big≤n)(r0:Q2→Int→Option (List (Nat×Nat)×Int×Unit))(bt:Q2)(bT:List (Nat×Nat))(hx:List.length (bt.2.1) < lenMax):LeF (elim some fun (aa:(Int))=>r0 bt aa) (yQ (fun aj aE aa=>y7U bt aj aE aa) (fun aa=>yBt bt aa) 0 (bt.2.1) bT) (y6i n n bt 0 bT):=by
  refine yd (f:=(elim some fun (aa:(Int))=>r0 bt aa)) (W:=fun aG aj aa=>y6i n aG bt aj aa) (body:=(fun aj aE aa=>y7U bt aj aE aa)) (fin:=(fun aa=>yBt bt aa)) (fun aG aj aa=>?_) hx bT n (by unfold big at hn;unfold lenMax at hx;omega)
  show LeF _ _ (yEP n (y6i n aG) bt aj aa)
  exact y8 (yE fun v2=>(y8 (yB rfl) (y8 (yB rfl) y0D))) (y0b (yB rfl))
def yBI(au:Q2)(bW:Int):Option ((List (Nat×Nat)×Int×Unit)⊕(Int)) :=
  (bif bW.tmod (2:Int)==0 then (some (Sum.inr (IntKind.i64.wrap (bW.tdiv (2:Int)))))else (bif bW != 1 then (some (Sum.inl (([],(1:Int),()))))else (bif decide (List.length (au.2.1) < lenMax)then yQ (fun aj aE aa=>y7U (au) aj aE aa) (fun aa=>yBt (au) aa) 0 (au.2.1) ([])else none)))
theorem yDL(n:Nat)(hn:big≤n)(au:Q2)(bW:Int):LeF some (y4L (fun aa=>yBI au aa) wMax bW) (y6c n n au bW):=by
  refine y6w (f:=some) (W:=fun aG aa=>y6c n aG au aa) (body:=(fun aa=>yBI au aa)) (fun aG aa=>?_) wMax n bW (by unfold big at hn;unfold wMax;omega)
  show LeF _ _ (yE7 n (y6c n aG) au aa)
  exact (y8 (yB rfl) (y8 (yB rfl) (yg fun hx=>by apply yDS n hn;exact hx)))
def yD8(t:Q2):Option (List (Nat×Nat)×Int×Unit) :=
  (y4L (fun aa=>yBI (t) aa) wMax (t.2.2.1))
theorem yPR(t:Q2)(y:List (Nat×Nat)×Int×Unit)(h:yD8 t=some y):∃ n,yKG n t=some y :=
  ⟨big,LeF.top (show LeF some (yD8 t) (yKG big t)from (fun (n:Nat) (hn:big≤n)=>show LeF some (yD8 t) (yKG n t)from (by apply yDL n hn)) big (Nat.le_refl _)) h⟩
def z0p_e:Entry:={ f:=50,args:=yNg,ress:=yUI,m:=fun x=>yD8 x.1 }
theorem yTl:FnOK Tryz.prog z0p_e:=yJ (g:=yRq) (fn:=Tryz.f50) yA yI (y6 yRg eNil) (by kernel_rfl) (by kernel_rfl) (by kernel_rfl) (fun x y h=>let ⟨n,hn⟩:=yPR x.1 y h;⟨yLq n,iNil,(yUn n x).trans hn⟩)
abbrev zp_a:Ty:=.pair t96 (.pair t96 .unit)
abbrev zp_r:Ty:=.pair t4 .unit
def zp_g:G:={ T:=T,E:=[zV_e],muts:=[],fz:=[] }
def zp_k:List (List Nat):=[[0,1,5]]
def yTb(n:Nat):Ann:={ keep:=zp_k,fuel:=n,inl:=[],deep:=0 }
def yNj(n:Nat)(r0:List (List (Q4))→List (List (Q4))→Int→Option (Bool×Unit))(am:List (List (Q4)))(ar:List (List (Q4)))(aw:Int):Option (Bool×Unit) :=
  (bif decide (aw < (↑am.length:Int))then (Option.bind (idx am aw) fun v1=>(Option.bind (idx ar aw) fun v2=>(Option.bind (zV_M v1 v2) fun v3=>(bif !v3.1 then some (Bool.false,())else r0 am ar (IntKind.i64.wrap (aw+1))))))else some (Bool.true,()))
def yR8(n:Nat)(k:Nat)(am:List (List (Q4)))(ar:List (List (Q4)))(aw:Int):Option (Bool×Unit) :=
  iter (fun r y=>yNj n (fun am ar aw=>r ((am,(ar,(aw,()))),((),()))) y.1.1 y.1.2.1 y.1.2.2.1) k ((am,(ar,(aw,()))),((),()))
def zp_m(n:Nat)(a:List (List (Q4)))(b:List (List (Q4))):Option (Bool×Unit) :=
  (bif (↑a.length:Int) != (↑b.length:Int)then some (Bool.false,())else (yR8 n n (a) (b) ((0:Int))))
theorem yaM(n:Nat)(x:zp_a.den):runF zp_g (yTb n) Tryz.f64 zp_a zp_r x=zp_m n x.1 x.2.1:=by kernel_rfl
def zp_M(a:List (List (Q4)))(b:List (List (Q4))):Option (Bool×Unit):=zp_m 1000 a b
theorem yS2(a:List (List (Q4)))(b:List (List (Q4)))(y:Bool×Unit)(h:zp_M a b=some y):∃ n,zp_m n a b=some y:=⟨1000,h⟩
def zp_e:Entry:={ f:=64,args:=zp_a,ress:=zp_r,m:=fun x=>zp_M x.1 x.2.1 }
theorem yYp:FnOK Tryz.prog zp_e:=yJ (g:=zp_g) (fn:=Tryz.f64) yA yI (y6 yQo eNil) (by kernel_rfl) (by kernel_rfl) (by kernel_rfl) (fun x y h=>let ⟨n,hn⟩:=yS2 x.1 x.2.1 y h;⟨yTb n,iNil,(yaM n x).trans hn⟩)
abbrev zg_a:Ty:=.pair t57 .unit
abbrev zg_r:Ty:=.pair t3 .unit
def zg_g:G:={ T:=T,E:=[zZ_e,z0Q_e],muts:=[],fz:=[] }
def zg_k:List (List Nat):=[]
def yWD(n:Nat):Ann:={ keep:=zg_k,fuel:=n,inl:=[],deep:=0 }
def zg_m(n:Nat)(z:Q4):Option (Int×Unit) :=
  (Option.bind (yAM [(zZ z.1 (-8796093022208:Int) (8796093022208:Int)).1,(zZ z.2.1 (-8796093022208:Int) (8796093022208:Int)).1]) fun v0=>some (v0.1,()))
theorem yZR(n:Nat)(x:zg_a.den):runF zg_g (yWD n) Tryz.f109 zg_a zg_r x=zg_m n x.1:=by kernel_rfl
def zg_M(z:Q4):Option (Int×Unit):=zg_m 0 z
theorem ySy(z:Q4)(y:Int×Unit)(h:zg_M z=some y):∃ n,zg_m n z=some y:=⟨0,h⟩
def zg_e:Entry:={ f:=109,args:=zg_a,ress:=zg_r,m:=fun x=>zg_M x.1 }
theorem yZI:FnOK Tryz.prog zg_e:=yJ (g:=zg_g) (fn:=Tryz.f109) yA yI (y6 yKM (y6 yIF eNil)) (by kernel_rfl) (by kernel_rfl) (by kernel_rfl) (fun x y h=>let ⟨n,hn⟩:=ySy x.1 y h;⟨yWD n,iNil,(yZR n x).trans hn⟩)
abbrev yOD:Ty:=.pair t23 (.pair t3 .unit)
abbrev yW0:Ty:=.pair t3 .unit
def ySX:G:={ T:=T,E:=[z00_e],muts:=[],fz:=[] }
def yau:List (List Nat):=[[0,1,5]]
def yMb(n:Nat):Ann:={ keep:=yau,fuel:=n,inl:=[],deep:=0 }
def yEJ(n:Nat)(r0:List (Q4)→Int→Int→Option (Int×Unit))(ax:List (Q4))(bd:Int)(aw:Int):Option (Int×Unit) :=
  (bif decide (aw < (↑ax.length:Int))then (Option.bind (idx ax aw) fun v1=>(Option.bind (idx ax aw) fun v2=>(Option.bind (y8P bd (if IntKind.i64.wrap ((0:Int) - v2.1) > v1.1 then IntKind.i64.wrap ((0:Int) - v2.1)else v1.1)) fun v3=>(Option.bind (idx ax aw) fun v4=>(Option.bind (idx ax aw) fun v5=>(Option.bind (y8P v3.1 (if IntKind.i64.wrap ((0:Int) - v5.2.1) > v4.2.1 then IntKind.i64.wrap ((0:Int) - v5.2.1)else v4.2.1)) fun v6=>r0 ax v6.1 (IntKind.i64.wrap (aw+1))))))))else some (bd,()))
def y6b(n:Nat)(k:Nat)(ax:List (Q4))(bd:Int)(aw:Int):Option (Int×Unit) :=
  iter (fun r y=>yEJ n (fun ax bd aw=>r ((ax,(bd,(aw,()))),((),()))) y.1.1 y.1.2.1 y.1.2.2.1) k ((ax,(bd,(aw,()))),((),()))
def yKp(n:Nat)(l:List (Q4))(den:Int):Option (Int×Unit) :=
  (y6b n n (l) (den) ((0:Int)))
theorem yXM(n:Nat)(x:yOD.den):runF ySX (yMb n) Tryz.f110 yOD yW0 x=yKp n x.1 x.2.1:=by kernel_rfl
def y97(ax:List (Q4))(aw:Int)(v1:Q4)(bd:Int):Option ((Int×Unit)⊕(Int)) :=
  (Option.bind (idx ax aw) fun v2=>(Option.bind (y8P bd (if IntKind.i64.wrap ((0:Int) - v2.1) > v1.1 then IntKind.i64.wrap ((0:Int) - v2.1)else v1.1)) fun v3=>(Option.bind (idx ax aw) fun v4=>(Option.bind (idx ax aw) fun v5=>(Option.bind (y8P v3.1 (if IntKind.i64.wrap ((0:Int) - v5.2.1) > v4.2.1 then IntKind.i64.wrap ((0:Int) - v5.2.1)else v4.2.1)) fun v6=>(some (Sum.inr (v6.1))))))))
def yEu(ax:List (Q4))(bd:Int):Option (Int×Unit) :=
  (some ((bd,())))
theorem yD4(n:Nat)(hn:big≤n)(ax:List (Q4))(bd:Int)(hx:List.length (ax) < lenMax):LeF some (yQ (fun aj aE aa=>y97 ax aj aE aa) (fun aa=>yEu ax aa) 0 (ax) bd) (y6b n n ax bd 0):=by
  refine yd (f:=some) (W:=fun aG aj aa=>y6b n aG ax aa aj) (body:=(fun aj aE aa=>y97 ax aj aE aa)) (fin:=(fun aa=>yEu ax aa)) (fun aG aj aa=>?_) hx bd n (by unfold big at hn;unfold lenMax at hx;omega)
  show LeF _ _ (yEJ n (y6b n aG) ax aa aj)
  exact y8 (yE fun v1=>(yE fun v2=>(yE fun v3=>(yE fun v4=>(yE fun v5=>(yE fun v6=>(yB rfl))))))) (y0b (yB rfl))
def y8W(l:List (Q4))(den:Int):Option (Int×Unit) :=
  (bif decide (List.length (l) < lenMax)then yQ (fun aj aE aa=>y97 (l) aj aE aa) (fun aa=>yEu (l) aa) 0 (l) (den)else none)
theorem yPY(l:List (Q4))(den:Int)(y:Int×Unit)(h:y8W l den=some y):∃ n,yKp n l den=some y :=
  ⟨big,LeF.top (show LeF some (y8W l den) (yKp big l den)from (fun (n:Nat) (hn:big≤n)=>show LeF some (y8W l den) (yKp n l den)from (yg fun hx=>by apply yD4 n hn;exact hx)) big (Nat.le_refl _)) h⟩
def z0B_e:Entry:={ f:=110,args:=yOD,ress:=yW0,m:=fun x=>y8W x.1 x.2.1 }
theorem yMH:FnOK Tryz.prog z0B_e:=yJ (g:=ySX) (fn:=Tryz.f110) yA yI (y6 yXz eNil) (by kernel_rfl) (by kernel_rfl) (by kernel_rfl) (fun x y h=>let ⟨n,hn⟩:=yPY x.1 x.2.1 y h;⟨yMb n,iNil,(yXM n x).trans hn⟩)
abbrev yRQ:Ty:=.pair t3 (.pair t3 (.pair t3 .unit))
abbrev ySg:Ty:=.pair t28 .unit
def yVp:G:={ T:=T,E:=[z1D_e],muts:=[],fz:=[] }
def yZZ:List (List Nat):=[]
def yLx(n:Nat):Ann:={ keep:=yZZ,fuel:=n,inl:=[],deep:=0 }
def yIy(n:Nat)(n1:Int)(least:Int)(most:Int):Option (Int×Unit) :=
  (bif decide (n1 < least)then some ((z1D Bool.true (3:Int)).1,())else some ((z1D (decide (n1 > most)) (3:Int)).1,()))
theorem yVN(n:Nat)(x:yRQ.den):runF yVp (yLx n) Tryz.f114 yRQ ySg x=yIy n x.1 x.2.1 x.2.2.1:=by kernel_rfl
def z0f(n1:Int)(least:Int)(most:Int):(Int×Unit) :=
  (bif decide (n1 < least)then ((z1D Bool.true (3:Int)).1,())else ((z1D (decide (n1 > most)) (3:Int)).1,()))
abbrev ySw (n1:Int) (least:Int) (most:Int):Option (Int×Unit):=some (z0f n1 least most)
theorem yQX(n1:Int)(least:Int)(most:Int)(y:Int×Unit)(h:ySw n1 least most=some y):∃ n,yIy n n1 least most=some y :=
  ⟨0,by rw[← h];show yIy 0 n1 least most=some (z0f n1 least most);unfold yIy z0f;first|rfl|(simp only[yG];done)|(simp only[yG];rfl)⟩
def z0f_e:Entry:={ f:=114,args:=yRQ,ress:=ySg,m:=fun x=>ySw x.1 x.2.1 x.2.2.1 }
theorem y8l:FnOK Tryz.prog z0f_e:=yJ (g:=yVp) (fn:=Tryz.f114) yA yI (y6 y4O eNil) (by kernel_rfl) (by kernel_rfl) (by kernel_rfl) (fun x y h=>let ⟨n,hn⟩:=yQX x.1 x.2.1 x.2.2.1 y h;⟨yLx n,iNil,(yVN n x).trans hn⟩)
abbrev zf_a:Ty:=.pair t9 .unit
abbrev zf_r:Ty:=.pair t3 .unit
def zf_g:G:={ T:=T,E:=[z08_e],muts:=[],fz:=[] }
def zf_k:List (List Nat):=[]
def yUu(n:Nat):Ann:={ keep:=zf_k,fuel:=n,inl:=[],deep:=0 }
def zf_m(n:Nat)(s:List UInt8):Option (Int×Unit) :=
  (Option.bind (yDR s) fun v0=>(bif !v0.1 then some ((8:Int),())else some ((0:Int),())))
theorem yaK(n:Nat)(x:zf_a.den):runF zf_g (yUu n) Tryz.f118 zf_a zf_r x=zf_m n x.1:=by kernel_rfl
def zf_M(s:List UInt8):Option (Int×Unit):=zf_m 0 s
theorem yYH(s:List UInt8)(y:Int×Unit)(h:zf_M s=some y):∃ n,zf_m n s=some y:=⟨0,h⟩
def zf_e:Entry:={ f:=118,args:=zf_a,ress:=zf_r,m:=fun x=>zf_M x.1 }
theorem yZW:FnOK Tryz.prog zf_e:=yJ (g:=zf_g) (fn:=Tryz.f118) yA yI (y6 ySE eNil) (by kernel_rfl) (by kernel_rfl) (by kernel_rfl) (fun x y h=>let ⟨n,hn⟩:=yYH x.1 y h;⟨yUu n,iNil,(yaK n x).trans hn⟩)
abbrev zl_a:Ty:=.pair t33 .unit
abbrev zl_r:Ty:=.pair t4 .unit
def zl_g:G:={ T:=T,E:=[z04_e],muts:=[],fz:=[] }
def zl_k:List (List Nat):=[[1,6,7,8]]
def ySk(n:Nat):Ann:={ keep:=zl_k,fuel:=n,inl:=[],deep:=0 }
def yHC(n:Nat)(r0:Q2→List (Q4)→Int→Int→Option (Bool×Unit))(au:Q2)(aD:List (Q4))(ay:Int)(ac:Int):Option (Bool×Unit) :=
  (bif decide (ac < ay)then (Option.bind (idx aD ac) fun v1=>(bif decide ((if (z04 v1.2.1).1 > (z04 v1.1).1 then (z04 v1.2.1).1 else (z04 v1.1).1) > 4194304)then some (Bool.false,())else r0 au aD ay (IntKind.i64.wrap (ac+1))))else some (decide (au.2.2.1≤4096),()))
def y9U(n:Nat)(k:Nat)(au:Q2)(aD:List (Q4))(ay:Int)(ac:Int):Option (Bool×Unit) :=
  iter (fun r y=>yHC n (fun au aD ay ac=>r ((au,(aD,(ay,(ac,())))),((),()))) y.1.1 y.1.2.1 y.1.2.2.1 y.1.2.2.2.1) k ((au,(aD,(ay,(ac,())))),((),()))
def zl_m(n:Nat)(t:Q2):Option (Bool×Unit) :=
  (y9U n n (t) (t.2.1) ((↑t.2.1.length:Int)) ((0:Int)))
theorem yYy(n:Nat)(x:zl_a.den):runF zl_g (ySk n) Tryz.f129 zl_a zl_r x=zl_m n x.1:=by kernel_rfl
def yKW(au:Q2)(aD:List (Q4))(ac:Int)(v1:Q4):Option ((Bool×Unit)⊕Unit) :=
  (bif decide ((if (z04 v1.2.1).1 > (z04 v1.1).1 then (z04 v1.2.1).1 else (z04 v1.1).1) > 4194304)then (some (Sum.inl ((Bool.false,()))))else (some (Sum.inr ())))
def yRJ(au:Q2)(aD:List (Q4)):Option (Bool×Unit) :=
  (some ((decide (au.2.2.1≤4096),())))
theorem yFL(n:Nat)(hn:big≤n)(au:Q2)(aD:List (Q4))(hx:List.length (aD) < lenMax):LeF some (yQ (fun aj aE aa=>yKW au aD aj aE) (fun aa=>yRJ au aD) 0 (aD) ()) (y9U n n au aD (List.length (aD):Int) 0):=by
  refine yd (f:=some) (W:=fun aG aj aa=>y9U n aG au aD (List.length (aD):Int) aj) (body:=(fun aj aE aa=>yKW au aD aj aE)) (fin:=(fun aa=>yRJ au aD)) (fun aG aj aa=>?_) hx () n (by unfold big at hn;unfold lenMax at hx;omega)
  show LeF _ _ (yHC n (y9U n aG) au aD (List.length (aD):Int) aj)
  exact y8 (yE fun v1=>(y8 (yB rfl) (yB rfl))) (y0b (yB rfl))
def zl_M(t:Q2):Option (Bool×Unit) :=
  (bif decide (List.length (t.2.1) < lenMax)then yQ (fun aj aE aa=>yKW (t) (t.2.1) aj aE) (fun aa=>yRJ (t) (t.2.1)) 0 (t.2.1) ()else none)
theorem yT0(t:Q2)(y:Bool×Unit)(h:zl_M t=some y):∃ n,zl_m n t=some y :=
  ⟨big,LeF.top (show LeF some (zl_M t) (zl_m big t)from (fun (n:Nat) (hn:big≤n)=>show LeF some (zl_M t) (zl_m n t)from (yg fun hx=>by apply yFL n hn;exact hx)) big (Nat.le_refl _)) h⟩
def zl_e:Entry:={ f:=129,args:=zl_a,ress:=zl_r,m:=fun x=>zl_M x.1 }
theorem yPG:FnOK Tryz.prog zl_e:=yJ (g:=zl_g) (fn:=Tryz.f129) yA yI (y6 yB4 eNil) (by kernel_rfl) (by kernel_rfl) (by kernel_rfl) (fun x y h=>let ⟨n,hn⟩:=yT0 x.1 y h;⟨ySk n,iNil,(yYy n x).trans hn⟩)
abbrev yQd:Ty:=.pair t57 (.pair (.ref t33) .unit)
abbrev yWV:Ty:=.pair t57 .unit
def yXi:G:={ T:=T,E:=[z0d_e],muts:=[],fz:=[] }
def yZV:List (List Nat):=[]
def yNC(n:Nat):Ann:={ keep:=yZV,fuel:=n,inl:=[],deep:=0 }
def yJj(n:Nat)(z:Q4)(p1:Q2):Option ((Q4)×Unit) :=
  some (((z0d z p1.2.2.1).1.1,(z0d z p1.2.2.1).1.2.1,()),())
theorem yTs(n:Nat)(x:yQd.den):runF yXi (yNC n) Tryz.f133 yQd yWV x=yJj n x.1 x.2.1:=by kernel_rfl
def z0w(z:Q4)(p1:Q2):((Q4)×Unit) :=
  (((z0d z p1.2.2.1).1.1,(z0d z p1.2.2.1).1.2.1,()),())
abbrev yWP (z:Q4) (p1:Q2):Option ((Q4)×Unit):=some (z0w z p1)
theorem yNZ(z:Q4)(p1:Q2)(y:(Q4)×Unit)(h:yWP z p1=some y):∃ n,yJj n z p1=some y :=
  ⟨0,by rw[← h];show yJj 0 z p1=some (z0w z p1);unfold yJj z0w;first|rfl|(simp only[yG];done)|(simp only[yG];rfl)⟩
def z0w_e:Entry:={ f:=133,args:=yQd,ress:=yWV,m:=fun x=>yWP x.1 x.2.1 }
theorem yXE:FnOK Tryz.prog z0w_e:=yJ (g:=yXi) (fn:=Tryz.f133) yA yI (y6 y98 eNil) (by kernel_rfl) (by kernel_rfl) (by kernel_rfl) (fun x y h=>let ⟨n,hn⟩:=yNZ x.1 x.2.1 y h;⟨yNC n,iNil,(yTs n x).trans hn⟩)
abbrev yNk:Ty:=.pair t57 (.pair (.ref t69) .unit)
abbrev yVr:Ty:=.pair t57 .unit
def yWX:G:={ T:=T,E:=[z0d_e],muts:=[],fz:=[] }
def yae:List (List Nat):=[]
def yLj(n:Nat):Ann:={ keep:=yae,fuel:=n,inl:=[],deep:=0 }
def yIt(n:Nat)(z:Q4)(p1:Q4):Option ((Q4)×Unit) :=
  some (((z0d z p1.1).1.1,(z0d z p1.1).1.2.1,()),())
theorem yTH(n:Nat)(x:yNk.den):runF yWX (yLj n) Tryz.f137 yNk yVr x=yIt n x.1 x.2.1:=by kernel_rfl
def z01(z:Q4)(p1:Q4):((Q4)×Unit) :=
  (((z0d z p1.1).1.1,(z0d z p1.1).1.2.1,()),())
abbrev yNW (z:Q4) (p1:Q4):Option ((Q4)×Unit):=some (z01 z p1)
theorem yOP(z:Q4)(p1:Q4)(y:(Q4)×Unit)(h:yNW z p1=some y):∃ n,yIt n z p1=some y :=
  ⟨0,by rw[← h];show yIt 0 z p1=some (z01 z p1);unfold yIt z01;first|rfl|(simp only[yG];done)|(simp only[yG];rfl)⟩
def z01_e:Entry:={ f:=137,args:=yNk,ress:=yVr,m:=fun x=>yNW x.1 x.2.1 }
theorem yTO:FnOK Tryz.prog z01_e:=yJ (g:=yWX) (fn:=Tryz.f137) yA yI (y6 y98 eNil) (by kernel_rfl) (by kernel_rfl) (by kernel_rfl) (fun x y h=>let ⟨n,hn⟩:=yOP x.1 x.2.1 y h;⟨yLj n,iNil,(yTH n x).trans hn⟩)
abbrev yQa:Ty:=.pair t57 .unit
abbrev yY3:Ty:=.pair t28 .unit
def yVR:G:={ T:=T,E:=[z04_e,z1D_e],muts:=[],fz:=[] }
def yav:List (List Nat):=[]
def yMQ(n:Nat):Ann:={ keep:=yav,fuel:=n,inl:=[],deep:=0 }
def yKa(n:Nat)(z:Q4):Option (Int×Unit) :=
  some ((z1D (decide ((if (z04 z.2.1).1 > (z04 z.1).1 then (z04 z.2.1).1 else (z04 z.1).1) > 16777216)) (1:Int)).1,())
theorem yRk(n:Nat)(x:yQa.den):runF yVR (yMQ n) Tryz.f138 yQa yY3 x=yKa n x.1:=by kernel_rfl
def z0Z(z:Q4):(Int×Unit) :=
  ((z1D (decide ((if (z04 z.2.1).1 > (z04 z.1).1 then (z04 z.2.1).1 else (z04 z.1).1) > 16777216)) (1:Int)).1,())
abbrev yJ9 (z:Q4):Option (Int×Unit):=some (z0Z z)
theorem yO4(z:Q4)(y:Int×Unit)(h:yJ9 z=some y):∃ n,yKa n z=some y :=
  ⟨0,by rw[← h];show yKa 0 z=some (z0Z z);unfold yKa z0Z;first|rfl|(simp only[yG];done)|(simp only[yG];rfl)⟩
def z0Z_e:Entry:={ f:=138,args:=yQa,ress:=yY3,m:=fun x=>yJ9 x.1 }
theorem ySJ:FnOK Tryz.prog z0Z_e:=yJ (g:=yVR) (fn:=Tryz.f138) yA yI (y6 yB4 (y6 y4O eNil)) (by kernel_rfl) (by kernel_rfl) (by kernel_rfl) (fun x y h=>let ⟨n,hn⟩:=yO4 x.1 y h;⟨yMQ n,iNil,(yRk n x).trans hn⟩)
abbrev yQi:Ty:=.pair t60 (.pair t55 (.pair t55 .unit))
abbrev yUB:Ty:=.pair t57 .unit
def yT6:G:={ T:=T,E:=[zR_e,zv_e,z14_e,z1C_e],muts:=[],fz:=[] }
def yay:List (List Nat):=[]
def yMP(n:Nat):Ann:={ keep:=yay,fuel:=n,inl:=[il124,il195],deep:=3 }
def yAp(n:Nat)(r0:Q1→List (Q4)→List Nat→Int→Int→Q1→Q3→Q3→Q1→Q3→Q3→Q4→Q1→Q1→Int→Int→Int→Int→Q1→Q3→Q3→Q1→Q3→Q3→Q4→Q1→Q1→Option ((Q4)×Unit))(j8:Q1)(j9:List (Q4))(j10:Int)(j11:Nat)(j12:List Nat)(j13:Int)(j14:Int)(j15:Q1)(j16:Q3)(j17:Q3)(j18:Q1)(j19:Q3)(j20:Q3)(j21:Q4)(j22:Q1)(j23:Q1)(j24:Int)(j25:Int)(j26:Int)(j27:Int)(j28:Q1)(j29:Q3)(j30:Q3)(j31:Q1)(j32:Q3)(j33:Q3)(j34:Q4)(j35:Q1)(j36:Q1):Option ((Q4)×Unit) :=
  (bif decide ((↑j9.length:Int) > 0)then (Option.bind (idx j9 (0:Int)) fun v37=>(bif decide (v37.1≤j10)then r0 j8 j9 j12 j13 (IntKind.i64.wrap (j14+1)) j15 j16 j17 j18 j19 j20 j21 j22 j23 j24 j25 j26 j27 j28 j29 j30 j31 j32 j33 j34 j35 j36 else (Option.bind (y0e Go.FloatKind.f32 (y0n Go.BinOp.mul Go.FloatKind.f32 j11 (nat_lit 1098907648)) IntKind.i64) fun v42=>(Option.bind (zR_M j19 (IntKind.i64.wrap (j8.2.1+j10))) fun v43=>(Option.bind (zR_M j20 (IntKind.i64.wrap (j8.2.1+j10))) fun v44=>r0 j8 j9 j12 j13 (IntKind.i64.wrap (j14+1)) j15 j16 j17 j18 j19 j20 j21 j22 j23 j24 j25 (z1C (j26,j27,()) (z14 (zv v43.1).1 v44.1).1).1.1 (z1C (j26,j27,()) (z14 (zv v43.1).1 v44.1).1).1.2.1 j28 j29 j30 j31 j32 j33 j34 j35 j36)))))else (Option.bind (y0e Go.FloatKind.f32 (y0n Go.BinOp.mul Go.FloatKind.f32 j11 (nat_lit 1098907648)) IntKind.i64) fun v45=>(Option.bind (zR_M j19 (IntKind.i64.wrap (j8.2.1+j10))) fun v46=>(Option.bind (zR_M j20 (IntKind.i64.wrap (j8.2.1+j10))) fun v47=>r0 j8 j9 j12 j13 (IntKind.i64.wrap (j14+1)) j15 j16 j17 j18 j19 j20 j21 j22 j23 j24 j25 (z1C (j26,j27,()) (z14 (zv v46.1).1 v47.1).1).1.1 (z1C (j26,j27,()) (z14 (zv v46.1).1 v47.1).1).1.2.1 j28 j29 j30 j31 j32 j33 j34 j35 j36))))
def yLS(n:Nat)(r0:Q1→List (Q4)→List Nat→Int→Int→Q1→Q3→Q3→Q1→Q3→Q3→Q4→Q1→Q1→Int→Int→Int→Int→Q1→Q3→Q3→Q1→Q3→Q3→Q4→Q1→Q1→Option ((Q4)×Unit))(r2:Q1→List (Q4)→Int→Nat→List Nat→Int→Int→Q1→Q3→Q3→Q1→Q3→Q3→Q4→Q1→Q1→Int→Int→Int→Int→Q1→Q3→Q3→Q1→Q3→Q3→Q4→Q1→Q1→Option ((Q4)×Unit))(bw:Q1)(aq:List (Q4))(bp:Int)(bx:Nat)(aP:List Nat)(aT:Int)(aU:Int)(aH:Q1)(aI:Q3)(aZ:Q3)(bX:Q1)(bY:Q3)(aY:Q3)(bZ:Q4)(bK:Q1)(bl:Q1)(b4:Int)(b6:Int)(b7:Int)(b8:Int)(bA:Q1)(bB:Q3)(ca:Q3)(cE:Q1)(cF:Q3)(bU:Q3)(cG:Q4)(co:Q1)(bL:Q1):Option ((Q4)×Unit) :=
  (bif decide ((↑aq.length:Int) > 0)then (Option.bind (idx aq (0:Int)) fun v3=>(bif decide (v3.2.1≤bp)then (bif decide ((0:Int)≤1) && decide ((1:Int)≤(↑aq.length:Int))then r2 bw (List.drop (Int.toNat (1:Int)) aq) bp bx aP aT aU aH aI aZ bX bY aY bZ bK bl b4 b6 b7 b8 bA bB ca cE cF bU cG co bL else none)else (yAp n r0 (bw) (aq) (bp) (bx) (aP) (aT) (aU) (aH) (aI) (aZ) (bX) (bY) (aY) (bZ) (bK) (bl) (b4) (b6) (b7) (b8) (bA) (bB) (ca) (cE) (cF) (bU) (cG) (co) (bL))))else (yAp n r0 (bw) (aq) (bp) (bx) (aP) (aT) (aU) (aH) (aI) (aZ) (bX) (bY) (aY) (bZ) (bK) (bl) (b4) (b6) (b7) (b8) (bA) (bB) (ca) (cE) (cF) (bU) (cG) (co) (bL)))
def yKN(n:Nat)(r0:Q1→List (Q4)→List Nat→Int→Int→Q1→Q3→Q3→Q1→Q3→Q3→Q4→Q1→Q1→Int→Int→Int→Int→Q1→Q3→Q3→Q1→Q3→Q3→Q4→Q1→Q1→Option ((Q4)×Unit))(k:Nat)(bw:Q1)(aq:List (Q4))(bp:Int)(bx:Nat)(aP:List Nat)(aT:Int)(aU:Int)(aH:Q1)(aI:Q3)(aZ:Q3)(bX:Q1)(bY:Q3)(aY:Q3)(bZ:Q4)(bK:Q1)(bl:Q1)(b4:Int)(b6:Int)(b7:Int)(b8:Int)(bA:Q1)(bB:Q3)(ca:Q3)(cE:Q1)(cF:Q3)(bU:Q3)(cG:Q4)(co:Q1)(bL:Q1):Option ((Q4)×Unit) :=
  iter (fun r y=>yLS n r0 (fun bw aq bp bx aP aT aU aH aI aZ bX bY aY bZ bK bl b4 b6 b7 b8 bA bB ca cE cF bU cG co bL=>r ((bw,(aq,(bp,(bx,(aP,(aT,(aU,()))))))),(((aH,(aI,(aZ,(bX,(bY,(aY,(bZ,(bK,((bl,()),()))))))))),((b4,(b6,())),((b7,(b8,())),()))),(bA,(bB,(ca,(cE,(cF,(bU,(cG,(co,((bL,()),())))))))))))) y.1.1 y.1.2.1 y.1.2.2.1 y.1.2.2.2.1 y.1.2.2.2.2.1 y.1.2.2.2.2.2.1 y.1.2.2.2.2.2.2.1 y.2.1.1.1 y.2.1.1.2.1 y.2.1.1.2.2.1 y.2.1.1.2.2.2.1 y.2.1.1.2.2.2.2.1 y.2.1.1.2.2.2.2.2.1 y.2.1.1.2.2.2.2.2.2.1 y.2.1.1.2.2.2.2.2.2.2.1 y.2.1.1.2.2.2.2.2.2.2.2.1.1 y.2.1.2.1.1 y.2.1.2.1.2.1 y.2.1.2.2.1.1 y.2.1.2.2.1.2.1 y.2.2.1 y.2.2.2.1 y.2.2.2.2.1 y.2.2.2.2.2.1 y.2.2.2.2.2.2.1 y.2.2.2.2.2.2.2.1 y.2.2.2.2.2.2.2.2.1 y.2.2.2.2.2.2.2.2.2.1 y.2.2.2.2.2.2.2.2.2.2.1.1) k ((bw,(aq,(bp,(bx,(aP,(aT,(aU,()))))))),(((aH,(aI,(aZ,(bX,(bY,(aY,(bZ,(bK,((bl,()),()))))))))),((b4,(b6,())),((b7,(b8,())),()))),(bA,(bB,(ca,(cE,(cF,(bU,(cG,(co,((bL,()),())))))))))))
def yJf(n:Nat)(r0:Q1→List (Q4)→List Nat→Int→Int→Q1→Q3→Q3→Q1→Q3→Q3→Q4→Q1→Q1→Int→Int→Int→Int→Q1→Q3→Q3→Q1→Q3→Q3→Q4→Q1→Q1→Option ((Q4)×Unit))(au:Q1)(aL:List (Q4))(al:List Nat)(af:Int)(av:Int)(aV:Q1)(aW:Q3)(bD:Q3)(cp:Q1)(cr:Q3)(bC:Q3)(cu:Q4)(cg:Q1)(bH:Q1)(ak:Int)(ah:Int)(bm:Int)(bn:Int)(bO:Q1)(bP:Q3)(cw:Q3)(cL:Q1)(cM:Q3)(cm:Q3)(cN:Q4)(cC:Q1)(ci:Q1):Option ((Q4)×Unit) :=
  (bif decide (av < af)then (Option.bind (idx al av) fun v1=>(yKN n r0 n (au) (aL) (av) (v1) (al) (af) (av) (aV) (aW) (bD) (cp) (cr) (bC) (cu) (cg) (bH) (ak) (ah) (bm) (bn) (bO) (bP) (cw) (cL) (cM) (cm) (cN) (cC) (ci)))else some ((bm,bn,()),()))
def yKs(n:Nat)(k:Nat)(au:Q1)(aL:List (Q4))(al:List Nat)(af:Int)(av:Int)(aV:Q1)(aW:Q3)(bD:Q3)(cp:Q1)(cr:Q3)(bC:Q3)(cu:Q4)(cg:Q1)(bH:Q1)(ak:Int)(ah:Int)(bm:Int)(bn:Int)(bO:Q1)(bP:Q3)(cw:Q3)(cL:Q1)(cM:Q3)(cm:Q3)(cN:Q4)(cC:Q1)(ci:Q1):Option ((Q4)×Unit) :=
  iter (fun r y=>yJf n (fun au aL al af av aV aW bD cp cr bC cu cg bH ak ah bm bn bO bP cw cL cM cm cN cC ci=>r ((au,(aL,(al,(af,(av,()))))),(((aV,(aW,(bD,(cp,(cr,(bC,(cu,(cg,((bH,()),()))))))))),((ak,(ah,())),((bm,(bn,())),()))),(bO,(bP,(cw,(cL,(cM,(cm,(cN,(cC,((ci,()),())))))))))))) y.1.1 y.1.2.1 y.1.2.2.1 y.1.2.2.2.1 y.1.2.2.2.2.1 y.2.1.1.1 y.2.1.1.2.1 y.2.1.1.2.2.1 y.2.1.1.2.2.2.1 y.2.1.1.2.2.2.2.1 y.2.1.1.2.2.2.2.2.1 y.2.1.1.2.2.2.2.2.2.1 y.2.1.1.2.2.2.2.2.2.2.1 y.2.1.1.2.2.2.2.2.2.2.2.1.1 y.2.1.2.1.1 y.2.1.2.1.2.1 y.2.1.2.2.1.1 y.2.1.2.2.1.2.1 y.2.2.1 y.2.2.2.1 y.2.2.2.2.1 y.2.2.2.2.2.1 y.2.2.2.2.2.2.1 y.2.2.2.2.2.2.2.1 y.2.2.2.2.2.2.2.2.1 y.2.2.2.2.2.2.2.2.2.1 y.2.2.2.2.2.2.2.2.2.2.1.1) k ((au,(aL,(al,(af,(av,()))))),(((aV,(aW,(bD,(cp,(cr,(bC,(cu,(cg,((bH,()),()))))))))),((ak,(ah,())),((bm,(bn,())),()))),(bO,(bP,(cw,(cL,(cM,(cm,(cN,(cC,((ci,()),())))))))))))
def yPx(n:Nat)(r1:Q1)(a:Q3)(b:Q3):Option ((Q4)×Unit) :=
  (yKs n n (r1) (r1.2.2.2.1) (r1.2.2.1) ((↑r1.2.2.1.length:Int)) ((0:Int)) (r1) (a) (b) (r1) (a) (b) (((0:Int),(0:Int),())) (r1) (r1) ((0:Int)) ((0:Int)) ((0:Int)) ((0:Int)) (r1) (a) (b) (r1) (a) (b) (((0:Int),(0:Int),())) (r1) (r1))
theorem yXG(n:Nat)(x:yQi.den):runF yT6 (yMP n) Tryz.f148 yQi yUB x=yPx n x.1 x.2.1 x.2.2.1:=by kernel_rfl
def yGX(r1:Q1)(a:Q3)(b:Q3):Option ((Q4)×Unit):=yPx 1000 r1 a b
theorem yQQ(r1:Q1)(a:Q3)(b:Q3)(y:(Q4)×Unit)(h:yGX r1 a b=some y):∃ n,yPx n r1 a b=some y:=⟨1000,h⟩
def z0z_e:Entry:={ f:=148,args:=yQi,ress:=yUB,m:=fun x=>yGX x.1 x.2.1 x.2.2.1 }
theorem yGt:FnOK Tryz.prog z0z_e:=yJ (g:=yT6) (fn:=Tryz.f148) yA yI (y6 yNT (y6 yNu (y6 yDf (y6 yB2 eNil)))) (by kernel_rfl) (by kernel_rfl) (by kernel_rfl) (fun x y h=>let ⟨n,hn⟩:=yQQ x.1 x.2.1 x.2.2.1 y h;⟨yMP n,(y4N y5Z (y4N y5J iNil)),(yXG n x).trans hn⟩)
abbrev yaY:Ty:=.pair t96 .unit
abbrev ya1:Ty:=.pair t57 .unit
class ref02_det_Rec where
  f:yaY.den→Option ya1.den
section
variable [ref02_det_Rec]
end
abbrev yOZ:Ty:=.pair t31 (.pair t23 (.pair t3 .unit))
abbrev yRn:Ty:=.pair t57 .unit
def yXj:G:={ T:=T,E:=[zR_e,z14_e,z1C_e],muts:=[],fz:=[] }
def yZg:List (List Nat):=[[1,2,6,7,11,12,13]]
def yMM(n:Nat):Ann:={ keep:=yZg,fuel:=n,inl:=[],deep:=0 }
def yEI(n:Nat)(r0:List (Q4)→Int→List (Q3)→Int→Int→Int→Int→Int→Int→Option ((Q4)×Unit))(bQ:List (Q4))(aM:Int)(av:List (Q3))(aN:Int)(aR:Int)(az:Int)(aA:Int)(ak:Int)(ah:Int):Option ((Q4)×Unit) :=
  (bif decide (aR < aN)then (Option.bind (idx av aR) fun v1=>(Option.bind (idx bQ aR) fun v2=>(Option.bind (zR_M (v1.1,v1.2.1,v1.2.2.1,()) aM) fun v3=>r0 bQ aM av aN (IntKind.i64.wrap (aR+1)) az aA (z1C (ak,ah,()) (z14 v2 v3.1).1).1.1 (z1C (ak,ah,()) (z14 v2 v3.1).1).1.2.1)))else some ((ak,ah,()),()))
def y6g(n:Nat)(k:Nat)(bQ:List (Q4))(aM:Int)(av:List (Q3))(aN:Int)(aR:Int)(az:Int)(aA:Int)(ak:Int)(ah:Int):Option ((Q4)×Unit) :=
  iter (fun r y=>yEI n (fun bQ aM av aN aR az aA ak ah=>r ((bQ,(aM,(av,(aN,(aR,()))))),(((az,(aA,())),((ak,(ah,())),())),()))) y.1.1 y.1.2.1 y.1.2.2.1 y.1.2.2.2.1 y.1.2.2.2.2.1 y.2.1.1.1 y.2.1.1.2.1 y.2.1.2.1.1 y.2.1.2.1.2.1) k ((bQ,(aM,(av,(aN,(aR,()))))),(((az,(aA,())),((ak,(ah,())),())),()))
def yKX(n:Nat)(l:List (Q3))(v:List (Q4))(tick:Int):Option ((Q4)×Unit) :=
  (y6g n n (v) (tick) (l) ((↑l.length:Int)) ((0:Int)) ((0:Int)) ((0:Int)) ((0:Int)) ((0:Int)))
theorem yVY(n:Nat)(x:yOZ.den):runF yXj (yMM n) Tryz.f167 yOZ yRn x=yKX n x.1 x.2.1 x.2.2.1:=by kernel_rfl
def yHF(bQ:List (Q4))(aM:Int)(av:List (Q3))(az:Int)(aA:Int)(aR:Int)(v1:Q3)(ak:Int)(ah:Int):Option (((Q4)×Unit)⊕(Int×Int)) :=
  (Option.bind (idx bQ aR) fun v2=>(Option.bind (zR_M (v1.1,v1.2.1,v1.2.2.1,()) aM) fun v3=>(some (Sum.inr (((z1C (ak,ah,()) (z14 v2 v3.1).1).1.1),((z1C (ak,ah,()) (z14 v2 v3.1).1).1.2.1))))))
def yGW(bQ:List (Q4))(aM:Int)(av:List (Q3))(az:Int)(aA:Int)(ak:Int)(ah:Int):Option ((Q4)×Unit) :=
  (some (((ak,ah,()),())))
theorem yCb(n:Nat)(hn:big≤n)(bQ:List (Q4))(aM:Int)(av:List (Q3))(az:Int)(aA:Int)(ak:Int)(ah:Int)(hx:List.length (av) < lenMax):LeF some (yQ (fun aj aE aa=>yHF bQ aM av az aA aj aE aa.1 aa.2) (fun aa=>yGW bQ aM av az aA aa.1 aa.2) 0 (av) (ak,ah)) (y6g n n bQ aM av (List.length (av):Int) 0 az aA ak ah):=by
  refine yd (f:=some) (W:=fun aG aj aa=>y6g n aG bQ aM av (List.length (av):Int) aj az aA aa.1 aa.2) (body:=(fun aj aE aa=>yHF bQ aM av az aA aj aE aa.1 aa.2)) (fin:=(fun aa=>yGW bQ aM av az aA aa.1 aa.2)) (fun aG aj aa=>?_) hx (ak,ah) n (by unfold big at hn;unfold lenMax at hx;omega)
  show LeF _ _ (yEI n (y6g n aG) bQ aM av (List.length (av):Int) aj az aA aa.1 aa.2)
  exact y8 (yE fun v1=>(yE fun v2=>(yE fun v3=>(yB rfl)))) (y0b (yB rfl))
def yIn(l:List (Q3))(v:List (Q4))(tick:Int):Option ((Q4)×Unit) :=
  (bif decide (List.length (l) < lenMax)then yQ (fun aj aE aa=>yHF (v) (tick) (l) ((0:Int)) ((0:Int)) aj aE aa.1 aa.2) (fun aa=>yGW (v) (tick) (l) ((0:Int)) ((0:Int)) aa.1 aa.2) 0 (l) (((0:Int)),((0:Int)))else none)
theorem yO9(l:List (Q3))(v:List (Q4))(tick:Int)(y:(Q4)×Unit)(h:yIn l v tick=some y):∃ n,yKX n l v tick=some y :=
  ⟨big,LeF.top (show LeF some (yIn l v tick) (yKX big l v tick)from (fun (n:Nat) (hn:big≤n)=>show LeF some (yIn l v tick) (yKX n l v tick)from (yg fun hx=>by apply yCb n hn;exact hx)) big (Nat.le_refl _)) h⟩
def z15_e:Entry:={ f:=167,args:=yOZ,ress:=yRn,m:=fun x=>yIn x.1 x.2.1 x.2.2.1 }
theorem yU1:FnOK Tryz.prog z15_e:=yJ (g:=yXj) (fn:=Tryz.f167) yA yI (y6 yNT (y6 yDf (y6 yB2 eNil))) (by kernel_rfl) (by kernel_rfl) (by kernel_rfl) (fun x y h=>let ⟨n,hn⟩:=yO9 x.1 x.2.1 x.2.2.1 y h;⟨yMM n,iNil,(yVY n x).trans hn⟩)
abbrev yPc:Ty:=.pair t3 (.pair t41 .unit)
abbrev yY6:Ty:=.pair t3 .unit
def yRp:G:={ T:=T,E:=[z04_e],muts:=[],fz:=[] }
def yaN:List (List Nat):=[[0,7,8,9],[0,6,7,8,9]]
def yMA(n:Nat):Ann:={ keep:=yaN,fuel:=n,inl:=[],deep:=0 }
def yDm(n:Nat)(r0:Int→List Int→Int→Int→Option (Int×Unit))(r2:Int→Int→List Int→Int→Int→Option (Int×Unit))(cl:Int)(bR:Int)(cb:List Int)(cc:Int)(aP:Int):Option (Int×Unit) :=
  (bif bR != 0 then (bif bR==0 then none else r2 bR (cl.tmod bR) cb cc aP)else r0 cl cb cc (IntKind.i64.wrap (aP+1)))
def y71(n:Nat)(r0:Int→List Int→Int→Int→Option (Int×Unit))(k:Nat)(cl:Int)(bR:Int)(cb:List Int)(cc:Int)(aP:Int):Option (Int×Unit) :=
  iter (fun r y=>yDm n r0 (fun cl bR cb cc aP=>r ((cl,(bR,(cb,(cc,(aP,()))))),((),()))) y.1.1 y.1.2.1 y.1.2.2.1 y.1.2.2.2.1 y.1.2.2.2.2.1) k ((cl,(bR,(cb,(cc,(aP,()))))),((),()))
def yEt(n:Nat)(r0:Int→List Int→Int→Int→Option (Int×Unit))(bF:Int)(ay:List Int)(ac:Int)(al:Int):Option (Int×Unit) :=
  (bif decide (al < ac)then (Option.bind (idx ay al) fun v1=>(y71 n r0 n (bF) ((z04 v1).1) (ay) (ac) (al)))else some (bF,()))
def y6l(n:Nat)(k:Nat)(bF:Int)(ay:List Int)(ac:Int)(al:Int):Option (Int×Unit) :=
  iter (fun r y=>yEt n (fun bF ay ac al=>r ((bF,(ay,(ac,(al,())))),((),()))) y.1.1 y.1.2.1 y.1.2.2.1 y.1.2.2.2.1) k ((bF,(ay,(ac,(al,())))),((),()))
def yJP(n:Nat)(n1:Int)(l:List Int):Option (Int×Unit) :=
  (y6l n n (n1) (l) ((↑l.length:Int)) ((0:Int)))
theorem yYI(n:Nat)(x:yPc.den):runF yRp (yMA n) Tryz.f186 yPc yY6 x=yJP n x.1 x.2.1:=by kernel_rfl
def yBF(cb:List Int)(cc:Int)(aP:Int)(cl:Int)(bR:Int):Option (((Int×Unit)⊕(Int))⊕(Int×Int)) :=
  (bif bR != 0 then (bif bR==0 then none else (some (Sum.inr ((bR),(cl.tmod bR)))))else (some (Sum.inl (Sum.inr (cl)))))
theorem yDc(n:Nat)(hn:big≤n)(r0:Int→List Int→Int→Int→Option (Int×Unit))(cb:List Int)(cc:Int)(aP:Int)(cl:Int)(bR:Int):LeF (elim some fun (aa:(Int))=>r0 aa cb cc (IntKind.i64.wrap (aP+1))) (y4L (fun aa=>yBF cb cc aP aa.1 aa.2) wMax (cl,bR)) (y71 n r0 n cl bR cb cc aP):=by
  refine y6w (f:=(elim some fun (aa:(Int))=>r0 aa cb cc (IntKind.i64.wrap (aP+1)))) (W:=fun aG aa=>y71 n r0 aG aa.1 aa.2 cb cc aP) (body:=(fun aa=>yBF cb cc aP aa.1 aa.2)) (fun aG aa=>?_) wMax n (cl,bR) (by unfold big at hn;unfold wMax;omega)
  show LeF _ _ (yDm n r0 (y71 n r0 aG) aa.1 aa.2 cb cc aP)
  exact (y8 (y8 y0D (yB rfl)) (yB rfl))
def yBM(ay:List Int)(al:Int)(v1:Int)(bF:Int):Option ((Int×Unit)⊕(Int)) :=
  (y4L (fun aa=>yBF (ay) ((↑ay.length:Int)) (al) aa.1 aa.2) wMax ((bF),((z04 v1).1)))
def yGa(ay:List Int)(bF:Int):Option (Int×Unit) :=
  (some ((bF,())))
theorem yDd(n:Nat)(hn:big≤n)(ay:List Int)(bF:Int)(hx:List.length (ay) < lenMax):LeF some (yQ (fun aj aE aa=>yBM ay aj aE aa) (fun aa=>yGa ay aa) 0 (ay) bF) (y6l n n bF ay (List.length (ay):Int) 0):=by
  refine yd (f:=some) (W:=fun aG aj aa=>y6l n aG aa ay (List.length (ay):Int) aj) (body:=(fun aj aE aa=>yBM ay aj aE aa)) (fin:=(fun aa=>yGa ay aa)) (fun aG aj aa=>?_) hx bF n (by unfold big at hn;unfold lenMax at hx;omega)
  show LeF _ _ (yEt n (y6l n aG) aa ay (List.length (ay):Int) aj)
  exact y8 (yE fun v1=>(by apply yDc n hn)) (y0b (yB rfl))
def y9j(n1:Int)(l:List Int):Option (Int×Unit) :=
  (bif decide (List.length (l) < lenMax)then yQ (fun aj aE aa=>yBM (l) aj aE aa) (fun aa=>yGa (l) aa) 0 (l) (n1)else none)
theorem yPu(n1:Int)(l:List Int)(y:Int×Unit)(h:y9j n1 l=some y):∃ n,yJP n n1 l=some y :=
  ⟨big,LeF.top (show LeF some (y9j n1 l) (yJP big n1 l)from (fun (n:Nat) (hn:big≤n)=>show LeF some (y9j n1 l) (yJP n n1 l)from (yg fun hx=>by apply yDd n hn;exact hx)) big (Nat.le_refl _)) h⟩
def z0I_e:Entry:={ f:=186,args:=yPc,ress:=yY6,m:=fun x=>y9j x.1 x.2.1 }
theorem yMg:FnOK Tryz.prog z0I_e:=yJ (g:=yRp) (fn:=Tryz.f186) yA yI (y6 yB4 eNil) (by kernel_rfl) (by kernel_rfl) (by kernel_rfl) (fun x y h=>let ⟨n,hn⟩:=yPu x.1 x.2.1 y h;⟨yMA n,iNil,(yYI n x).trans hn⟩)
abbrev yQ2:Ty:=.pair t55 (.pair (.ref t60) .unit)
abbrev yVH:Ty:=.pair t57 .unit
def yUV:G:={ T:=T,E:=[zR_e,zv_e,z0d_e,z1C_e],muts:=[],fz:=[] }
def yZs:List (List Nat):=[]
def yMS(n:Nat):Ann:={ keep:=yZs,fuel:=n,inl:=[il124,il195],deep:=3 }
def yAn(n:Nat)(r0:Q1→List (Q4)→List Nat→Int→Int→Q3→Q1→Q3→Q4→Q1→Q1→Int→Int→Int→Int→Q3→Q1→Q3→Q4→Q1→Q1→Option ((Q4)×Unit))(j8:Q1)(j9:List (Q4))(j10:Int)(j11:Nat)(j12:List Nat)(j13:Int)(j14:Int)(j15:Q3)(j16:Q1)(j17:Q3)(j18:Q4)(j19:Q1)(j20:Q1)(j21:Int)(j22:Int)(j23:Int)(j24:Int)(j25:Q3)(j26:Q1)(j27:Q3)(j28:Q4)(j29:Q1)(j30:Q1):Option ((Q4)×Unit) :=
  (bif decide ((↑j9.length:Int) > 0)then (Option.bind (idx j9 (0:Int)) fun v31=>(bif decide (v31.1≤j10)then r0 j8 j9 j12 j13 (IntKind.i64.wrap (j14+1)) j15 j16 j17 j18 j19 j20 j21 j22 j23 j24 j25 j26 j27 j28 j29 j30 else (Option.bind (y0e Go.FloatKind.f32 (y0n Go.BinOp.mul Go.FloatKind.f32 j11 (nat_lit 1098907648)) IntKind.i64) fun v36=>(Option.bind (zR_M j17 (IntKind.i64.wrap (j8.2.1+j10))) fun v37=>r0 j8 j9 j12 j13 (IntKind.i64.wrap (j14+1)) j15 j16 j17 j18 j19 j20 j21 j22 (z1C (j23,j24,()) (z0d (zv v37.1).1 v36).1).1.1 (z1C (j23,j24,()) (z0d (zv v37.1).1 v36).1).1.2.1 j25 j26 j27 j28 j29 j30))))else (Option.bind (y0e Go.FloatKind.f32 (y0n Go.BinOp.mul Go.FloatKind.f32 j11 (nat_lit 1098907648)) IntKind.i64) fun v38=>(Option.bind (zR_M j17 (IntKind.i64.wrap (j8.2.1+j10))) fun v39=>r0 j8 j9 j12 j13 (IntKind.i64.wrap (j14+1)) j15 j16 j17 j18 j19 j20 j21 j22 (z1C (j23,j24,()) (z0d (zv v39.1).1 v38).1).1.1 (z1C (j23,j24,()) (z0d (zv v39.1).1 v38).1).1.2.1 j25 j26 j27 j28 j29 j30)))
def yLW(n:Nat)(r0:Q1→List (Q4)→List Nat→Int→Int→Q3→Q1→Q3→Q4→Q1→Q1→Int→Int→Int→Int→Q3→Q1→Q3→Q4→Q1→Q1→Option ((Q4)×Unit))(r2:Q1→List (Q4)→Int→Nat→List Nat→Int→Int→Q3→Q1→Q3→Q4→Q1→Q1→Int→Int→Int→Int→Q3→Q1→Q3→Q4→Q1→Q1→Option ((Q4)×Unit))(bw:Q1)(aq:List (Q4))(bp:Int)(bx:Nat)(aP:List Nat)(aT:Int)(aU:Int)(aH:Q3)(aI:Q1)(aZ:Q3)(cd:Q4)(ce:Q1)(bE:Q1)(b4:Int)(b6:Int)(b7:Int)(b8:Int)(bA:Q3)(bB:Q1)(ca:Q3)(cH:Q4)(cI:Q1)(cf:Q1):Option ((Q4)×Unit) :=
  (bif decide ((↑aq.length:Int) > 0)then (Option.bind (idx aq (0:Int)) fun v3=>(bif decide (v3.2.1≤bp)then (bif decide ((0:Int)≤1) && decide ((1:Int)≤(↑aq.length:Int))then r2 bw (List.drop (Int.toNat (1:Int)) aq) bp bx aP aT aU aH aI aZ cd ce bE b4 b6 b7 b8 bA bB ca cH cI cf else none)else (yAn n r0 (bw) (aq) (bp) (bx) (aP) (aT) (aU) (aH) (aI) (aZ) (cd) (ce) (bE) (b4) (b6) (b7) (b8) (bA) (bB) (ca) (cH) (cI) (cf))))else (yAn n r0 (bw) (aq) (bp) (bx) (aP) (aT) (aU) (aH) (aI) (aZ) (cd) (ce) (bE) (b4) (b6) (b7) (b8) (bA) (bB) (ca) (cH) (cI) (cf)))
def yK7(n:Nat)(r0:Q1→List (Q4)→List Nat→Int→Int→Q3→Q1→Q3→Q4→Q1→Q1→Int→Int→Int→Int→Q3→Q1→Q3→Q4→Q1→Q1→Option ((Q4)×Unit))(k:Nat)(bw:Q1)(aq:List (Q4))(bp:Int)(bx:Nat)(aP:List Nat)(aT:Int)(aU:Int)(aH:Q3)(aI:Q1)(aZ:Q3)(cd:Q4)(ce:Q1)(bE:Q1)(b4:Int)(b6:Int)(b7:Int)(b8:Int)(bA:Q3)(bB:Q1)(ca:Q3)(cH:Q4)(cI:Q1)(cf:Q1):Option ((Q4)×Unit) :=
  iter (fun r y=>yLW n r0 (fun bw aq bp bx aP aT aU aH aI aZ cd ce bE b4 b6 b7 b8 bA bB ca cH cI cf=>r ((bw,(aq,(bp,(bx,(aP,(aT,(aU,()))))))),(((aH,(aI,(aZ,(cd,(ce,((bE,()),())))))),((b4,(b6,())),((b7,(b8,())),()))),(bA,(bB,(ca,(cH,(cI,((cf,()),()))))))))) y.1.1 y.1.2.1 y.1.2.2.1 y.1.2.2.2.1 y.1.2.2.2.2.1 y.1.2.2.2.2.2.1 y.1.2.2.2.2.2.2.1 y.2.1.1.1 y.2.1.1.2.1 y.2.1.1.2.2.1 y.2.1.1.2.2.2.1 y.2.1.1.2.2.2.2.1 y.2.1.1.2.2.2.2.2.1.1 y.2.1.2.1.1 y.2.1.2.1.2.1 y.2.1.2.2.1.1 y.2.1.2.2.1.2.1 y.2.2.1 y.2.2.2.1 y.2.2.2.2.1 y.2.2.2.2.2.1 y.2.2.2.2.2.2.1 y.2.2.2.2.2.2.2.1.1) k ((bw,(aq,(bp,(bx,(aP,(aT,(aU,()))))))),(((aH,(aI,(aZ,(cd,(ce,((bE,()),())))))),((b4,(b6,())),((b7,(b8,())),()))),(bA,(bB,(ca,(cH,(cI,((cf,()),()))))))))
def yKI(n:Nat)(r0:Q1→List (Q4)→List Nat→Int→Int→Q3→Q1→Q3→Q4→Q1→Q1→Int→Int→Int→Int→Q3→Q1→Q3→Q4→Q1→Q1→Option ((Q4)×Unit))(au:Q1)(aL:List (Q4))(al:List Nat)(af:Int)(av:Int)(aV:Q3)(aW:Q1)(bD:Q3)(cx:Q4)(cy:Q1)(bS:Q1)(ak:Int)(ah:Int)(bm:Int)(bn:Int)(bO:Q3)(bP:Q1)(cw:Q3)(cO:Q4)(cP:Q1)(cz:Q1):Option ((Q4)×Unit) :=
  (bif decide (av < af)then (Option.bind (idx al av) fun v1=>(yK7 n r0 n (au) (aL) (av) (v1) (al) (af) (av) (aV) (aW) (bD) (cx) (cy) (bS) (ak) (ah) (bm) (bn) (bO) (bP) (cw) (cO) (cP) (cz)))else some ((bm,bn,()),()))
def yJG(n:Nat)(k:Nat)(au:Q1)(aL:List (Q4))(al:List Nat)(af:Int)(av:Int)(aV:Q3)(aW:Q1)(bD:Q3)(cx:Q4)(cy:Q1)(bS:Q1)(ak:Int)(ah:Int)(bm:Int)(bn:Int)(bO:Q3)(bP:Q1)(cw:Q3)(cO:Q4)(cP:Q1)(cz:Q1):Option ((Q4)×Unit) :=
  iter (fun r y=>yKI n (fun au aL al af av aV aW bD cx cy bS ak ah bm bn bO bP cw cO cP cz=>r ((au,(aL,(al,(af,(av,()))))),(((aV,(aW,(bD,(cx,(cy,((bS,()),())))))),((ak,(ah,())),((bm,(bn,())),()))),(bO,(bP,(cw,(cO,(cP,((cz,()),()))))))))) y.1.1 y.1.2.1 y.1.2.2.1 y.1.2.2.2.1 y.1.2.2.2.2.1 y.2.1.1.1 y.2.1.1.2.1 y.2.1.1.2.2.1 y.2.1.1.2.2.2.1 y.2.1.1.2.2.2.2.1 y.2.1.1.2.2.2.2.2.1.1 y.2.1.2.1.1 y.2.1.2.1.2.1 y.2.1.2.2.1.1 y.2.1.2.2.1.2.1 y.2.2.1 y.2.2.2.1 y.2.2.2.2.1 y.2.2.2.2.2.1 y.2.2.2.2.2.2.1 y.2.2.2.2.2.2.2.1.1) k ((au,(aL,(al,(af,(av,()))))),(((aV,(aW,(bD,(cx,(cy,((bS,()),())))))),((ak,(ah,())),((bm,(bn,())),()))),(bO,(bP,(cw,(cO,(cP,((cz,()),()))))))))
def yQW(n:Nat)(c:Q3)(p1:Q1):Option ((Q4)×Unit) :=
  (yJG n n (p1) (p1.2.2.2.1) (p1.2.2.1) ((↑p1.2.2.1.length:Int)) ((0:Int)) (c) (p1) (c) (((0:Int),(0:Int),())) (p1) (p1) ((0:Int)) ((0:Int)) ((0:Int)) ((0:Int)) (c) (p1) (c) (((0:Int),(0:Int),())) (p1) (p1))
theorem yTi(n:Nat)(x:yQ2.den):runF yUV (yMS n) Tryz.f188 yQ2 yVH x=yQW n x.1 x.2.1:=by kernel_rfl
def yNM(c:Q3)(p1:Q1):Option ((Q4)×Unit):=yQW 1000 c p1
theorem yPL(c:Q3)(p1:Q1)(y:(Q4)×Unit)(h:yNM c p1=some y):∃ n,yQW n c p1=some y:=⟨1000,h⟩
def z0L_e:Entry:={ f:=188,args:=yQ2,ress:=yVH,m:=fun x=>yNM x.1 x.2.1 }
theorem yUY:FnOK Tryz.prog z0L_e:=yJ (g:=yUV) (fn:=Tryz.f188) yA yI (y6 yNT (y6 yNu (y6 y98 (y6 yB2 eNil)))) (by kernel_rfl) (by kernel_rfl) (by kernel_rfl) (fun x y h=>let ⟨n,hn⟩:=yPL x.1 x.2.1 y h;⟨yMS n,(y4N y5Z (y4N y5J iNil)),(yTi n x).trans hn⟩)
abbrev zS_a:Ty:=.pair t183 (.pair t3 (.pair t3 .unit))
abbrev zS_r:Ty:=.pair t57 .unit
class tide_matrix_expand_Rec where
  f:zS_a.den→Option zS_r.den
section
variable [tide_matrix_expand_Rec]
def y3t:Entry:={ f:=194,args:=zS_a,ress:=zS_r,m:=fun x=>tide_matrix_expand_Rec.f x }
def zS_g:G:={ T:=T,E:=[y3t,z14_e,z0d_e,z1C_e],muts:=[],fz:=[] }
def zS_k:List (List Nat):=[[0,1,2,6,7,8,18,19]]
def yTT(n:Nat):Ann:={ keep:=zS_k,fuel:=n,inl:=[],deep:=0 }
def yH9(n:Nat)(r0:List (List (Q4))→Int→Int→Int→Int→Int→Int→Int→Int→Int→Option ((Q4)×Unit))(bh:List (List (Q4)))(aO:Int)(aF:Int)(aJ:Int)(be:Int)(bj:Int)(az:Int)(aA:Int)(ak:Int)(ah:Int):Option ((Q4)×Unit) :=
  (bif decide (bj < be)then (bif decide (bj < 0)then none else (bif y2O IntKind.i64 Go.BinOp.and (aF.fdiv ((2:Int) ^ Min.min bj.toNat IntKind.i64.bits)) (1:Int)==1 then r0 bh aO aF aJ be (IntKind.i64.wrap (bj+1)) az aA ak ah else (Option.bind (idx bh aO) fun v1=>(Option.bind (idx v1 bj) fun v2=>(bif decide (bj < 0)then none else (Option.bind (tide_matrix_expand_Rec.f (bh,IntKind.i64.wrap (aO+1),y2O IntKind.i64 Go.BinOp.or aF (IntKind.i64.wrap ((1:Int) * 2 ^ Min.min bj.toNat IntKind.i64.bits)),())) fun v3=>r0 bh aO aF (IntKind.i64.wrap ((0:Int) - aJ)) be (IntKind.i64.wrap (bj+1)) az aA (z1C (ak,ah,()) (z0d (z14 v2 v3.1).1 aJ).1).1.1 (z1C (ak,ah,()) (z0d (z14 v2 v3.1).1 aJ).1).1.2.1))))))else some ((ak,ah,()),()))
def yAQ(n:Nat)(k:Nat)(bh:List (List (Q4)))(aO:Int)(aF:Int)(aJ:Int)(be:Int)(bj:Int)(az:Int)(aA:Int)(ak:Int)(ah:Int):Option ((Q4)×Unit) :=
  iter (fun r y=>yH9 n (fun bh aO aF aJ be bj az aA ak ah=>r ((bh,(aO,(aF,(aJ,(be,(bj,())))))),(((az,(aA,())),((ak,(ah,())),())),()))) y.1.1 y.1.2.1 y.1.2.2.1 y.1.2.2.2.1 y.1.2.2.2.2.1 y.1.2.2.2.2.2.1 y.2.1.1.1 y.2.1.1.2.1 y.2.1.2.1.1 y.2.1.2.1.2.1) k ((bh,(aO,(aF,(aJ,(be,(bj,())))))),(((az,(aA,())),((ak,(ah,())),())),()))
def zS_m(n:Nat)(m:List (List (Q4)))(row:Int)(used:Int):Option ((Q4)×Unit) :=
  (bif row==(↑m.length:Int)then some (((1:Int),(0:Int),()),())else (yAQ n n (m) (row) (used) ((1:Int)) ((↑m.length:Int)) ((0:Int)) ((0:Int)) ((0:Int)) ((0:Int)) ((0:Int))))
theorem yZ1(n:Nat)(x:zS_a.den):runF zS_g (yTT n) Tryz.f194 zS_a zS_r x=zS_m n x.1 x.2.1 x.2.2.1:=by kernel_rfl
def yRR(bh:List (List (Q4)))(aO:Int)(aF:Int)(be:Int)(az:Int)(aA:Int)(bj:Int)(aJ:Int)(ak:Int)(ah:Int):Option (((Q4)×Unit)⊕(Int×Int×Int)) :=
  (bif decide (bj < 0)then none else (bif y2O IntKind.i64 Go.BinOp.and (aF.fdiv ((2:Int) ^ Min.min bj.toNat IntKind.i64.bits)) (1:Int)==1 then (some (Sum.inr ((aJ),(ak),(ah))))else (Option.bind (idx bh aO) fun v1=>(Option.bind (idx v1 bj) fun v2=>(bif decide (bj < 0)then none else (Option.bind (tide_matrix_expand_Rec.f (bh,IntKind.i64.wrap (aO+1),y2O IntKind.i64 Go.BinOp.or aF (IntKind.i64.wrap ((1:Int) * 2 ^ Min.min bj.toNat IntKind.i64.bits)),())) fun v3=>(some (Sum.inr ((IntKind.i64.wrap ((0:Int) - aJ)),((z1C (ak,ah,()) (z0d (z14 v2 v3.1).1 aJ).1).1.1),((z1C (ak,ah,()) (z0d (z14 v2 v3.1).1 aJ).1).1.2.1))))))))))
def yNV(bh:List (List (Q4)))(aO:Int)(aF:Int)(be:Int)(az:Int)(aA:Int)(aJ:Int)(ak:Int)(ah:Int):Option ((Q4)×Unit) :=
  (some (((ak,ah,()),())))
theorem yFW(n:Nat)(hn:big≤n)(bh:List (List (Q4)))(aO:Int)(aF:Int)(be:Int)(az:Int)(aA:Int)(aJ:Int)(ak:Int)(ah:Int)(hx:(be)≤9223372036854775807):LeF some (y2x (fun aj aa=>yRR bh aO aF be az aA aj aa.1 aa.2.1 aa.2.2) (fun aa=>yNV bh aO aF be az aA aa.1 aa.2.1 aa.2.2) ((be) - 0).toNat 0 (aJ,ak,ah)) (yAQ n n bh aO aF aJ be 0 az aA ak ah):=by
  refine y6z (f:=some) (W:=fun aG aj aa=>yAQ n aG bh aO aF aa.1 be aj az aA aa.2.1 aa.2.2) (body:=(fun aj aa=>yRR bh aO aF be az aA aj aa.1 aa.2.1 aa.2.2)) (fin:=(fun aa=>yNV bh aO aF be az aA aa.1 aa.2.1 aa.2.2)) (fun aG aj aa=>?_) hx (aJ,ak,ah) n 0 (by decide) (by unfold big at hn;omega)
  show LeF _ _ (yH9 n (yAQ n aG) bh aO aF aa.1 be aj az aA aa.2.1 aa.2.2)
  exact y8 (y8 y0D (y8 (yB rfl) (yE fun v1=>(yE fun v2=>(y8 y0D (yE fun v3=>(yB rfl))))))) (y0b (yB rfl))
def zS_M(m:List (List (Q4)))(row:Int)(used:Int):Option ((Q4)×Unit) :=
  (bif row==(↑m.length:Int)then (some ((((1:Int),(0:Int),()),())))else (bif decide (((↑m.length:Int))≤9223372036854775807)then y2x (fun aj aa=>yRR (m) (row) (used) ((↑m.length:Int)) ((0:Int)) ((0:Int)) aj aa.1 aa.2.1 aa.2.2) (fun aa=>yNV (m) (row) (used) ((↑m.length:Int)) ((0:Int)) ((0:Int)) aa.1 aa.2.1 aa.2.2) (((↑m.length:Int)) - 0).toNat 0 (((1:Int)),((0:Int)),((0:Int)))else none))
theorem yWi(m:List (List (Q4)))(row:Int)(used:Int)(y:(Q4)×Unit)(h:zS_M m row used=some y):∃ n,zS_m n m row used=some y :=
  ⟨big,LeF.top (show LeF some (zS_M m row used) (zS_m big m row used)from (fun (n:Nat) (hn:big≤n)=>show LeF some (zS_M m row used) (zS_m n m row used)from (y8 (yB rfl) (yg fun hx=>by apply yFW n hn;exact hx))) big (Nat.le_refl _)) h⟩
end
def y07(d:Nat):zS_a.den→Option zS_r.den:=Nat.rec (motive:=fun _=>zS_a.den→Option zS_r.den) (fun _=>none) (fun _ ih x=>@zS_M ⟨ih⟩ x.1 x.2.1 x.2.2.1) d
def y0o(d:Nat):Entry:={ f:=194,args:=zS_a,ress:=zS_r,m:=y07 d }
theorem y1i:(d:Nat)→FnOK Tryz.prog (y0o d)
  | 0=>FnOK.none (fn:=Tryz.f194) (by kernel_rfl) (by kernel_rfl) (by kernel_rfl)
  | d+1=>yJ (g:=@zS_g ⟨y07 d⟩) (fn:=Tryz.f194) (e:=y0o (d+1)) yA yI (y6 (y1i d) (y6 yDf (y6 y98 (y6 yB2 eNil)))) (by kernel_rfl) (by kernel_rfl) (by kernel_rfl) (fun x y h=>let ⟨n,hn⟩:=@yWi ⟨y07 d⟩ x.1 x.2.1 x.2.2.1 y h;⟨yTT n,iNil,(@yZ1 ⟨y07 d⟩ n x).trans hn⟩)
def zS_e:Entry:=y0o 8
theorem yYz:FnOK Tryz.prog zS_e:=y1i 8
abbrev zW_a:Ty:=.pair t61 .unit
abbrev zW_r:Ty:=.pair t28 .unit
def zW_g:G:={ T:=T,E:=[zY_e,z0g_e],muts:=[],fz:=[] }
def zW_k:List (List Nat):=[]
def yTx(n:Nat):Ann:={ keep:=zW_k,fuel:=n,inl:=[],deep:=0 }
def zW_m(n:Nat)(x1:Nat):Option (Int×Unit) :=
  (bif y0m Go.BinOp.neq Go.FloatKind.f32 (y0n Go.BinOp.sub Go.FloatKind.f32 x1 x1) (nat_lit 0)then some ((1:Int),())else (bif y0m Go.BinOp.lss Go.FloatKind.f32 x1 (nat_lit 3263168512)then some ((3:Int),())else (bif y0m Go.BinOp.gtr Go.FloatKind.f32 x1 (nat_lit 1115684864)then some ((3:Int),())else (Option.bind (zY_M x1) fun v2=>some ((z0g (y0m Go.BinOp.neq Go.FloatKind.f32 (yk Go.FloatKind.f32 v2.1) (y0n Go.BinOp.mul Go.FloatKind.f32 x1 (nat_lit 1098907648))) (3:Int)).1,())))))
theorem yYr(n:Nat)(x:zW_a.den):runF zW_g (yTx n) Tryz.f197 zW_a zW_r x=zW_m n x.1:=by kernel_rfl
def zW_M(x1:Nat):Option (Int×Unit):=zW_m 0 x1
theorem yVj(x1:Nat)(y:Int×Unit)(h:zW_M x1=some y):∃ n,zW_m n x1=some y:=⟨0,h⟩
def zW_e:Entry:={ f:=197,args:=zW_a,ress:=zW_r,m:=fun x=>zW_M x.1 }
theorem yTX:FnOK Tryz.prog zW_e:=yJ (g:=zW_g) (fn:=Tryz.f197) yA yI (y6 yZp (y6 yCM eNil)) (by kernel_rfl) (by kernel_rfl) (by kernel_rfl) (fun x y h=>let ⟨n,hn⟩:=yVj x.1 y h;⟨yTx n,iNil,(yYr n x).trans hn⟩)
abbrev yOu:Ty:=.pair t3 (.pair t3 (.pair t3 .unit))
abbrev yVy:Ty:=.pair t28 .unit
def yUl:G:={ T:=T,E:=[z0g_e],muts:=[],fz:=[] }
def yZB:List (List Nat):=[]
def yMj(n:Nat):Ann:={ keep:=yZB,fuel:=n,inl:=[],deep:=0 }
def yJw(n:Nat)(n1:Int)(least:Int)(most:Int):Option (Int×Unit) :=
  (bif decide (n1 < least)then some ((z0g Bool.true (3:Int)).1,())else some ((z0g (decide (n1 > most)) (3:Int)).1,()))
theorem yUy(n:Nat)(x:yOu.den):runF yUl (yMj n) Tryz.f201 yOu yVy x=yJw n x.1 x.2.1 x.2.2.1:=by kernel_rfl
def z07(n1:Int)(least:Int)(most:Int):(Int×Unit) :=
  (bif decide (n1 < least)then ((z0g Bool.true (3:Int)).1,())else ((z0g (decide (n1 > most)) (3:Int)).1,()))
abbrev yXy (n1:Int) (least:Int) (most:Int):Option (Int×Unit):=some (z07 n1 least most)
theorem yNJ(n1:Int)(least:Int)(most:Int)(y:Int×Unit)(h:yXy n1 least most=some y):∃ n,yJw n n1 least most=some y :=
  ⟨0,by rw[← h];show yJw 0 n1 least most=some (z07 n1 least most);unfold yJw z07;first|rfl|(simp only[yG];done)|(simp only[yG];rfl)⟩
def z07_e:Entry:={ f:=201,args:=yOu,ress:=yVy,m:=fun x=>yXy x.1 x.2.1 x.2.2.1 }
theorem ySu:FnOK Tryz.prog z07_e:=yJ (g:=yUl) (fn:=Tryz.f201) yA yI (y6 yCM eNil) (by kernel_rfl) (by kernel_rfl) (by kernel_rfl) (fun x y h=>let ⟨n,hn⟩:=yNJ x.1 x.2.1 x.2.2.1 y h;⟨yMj n,iNil,(yUy n x).trans hn⟩)
abbrev zB_a:Ty:=.pair t58 (.pair t263 .unit)
abbrev zB_r:Ty:=.pair t4 .unit
def zB_g:G:={ T:=T,E:=[zD_e],muts:=[],fz:=[] }
def zB_k:List (List Nat):=[]
def yV7(n:Nat):Ann:={ keep:=zB_k,fuel:=n,inl:=[],deep:=0 }
def zB_m(n:Nat)(s:List (Q4))(f:(Q4)×Unit→Option (Bool×Unit)):Option (Bool×Unit) :=
  (Option.bind (zD_M s f) fun v0=>some (decide (v0.1 ≥ 0),()))
theorem yYw(n:Nat)(x:zB_a.den):runF zB_g (yV7 n) Tryz.f204 zB_a zB_r x=zB_m n x.1 x.2.1:=by kernel_rfl
def zB_M(s:List (Q4))(f:(Q4)×Unit→Option (Bool×Unit)):Option (Bool×Unit):=zB_m 0 s f
theorem yTe(s:List (Q4))(f:(Q4)×Unit→Option (Bool×Unit))(y:Bool×Unit)(h:zB_M s f=some y):∃ n,zB_m n s f=some y:=⟨0,h⟩
def zB_e:Entry:={ f:=204,args:=zB_a,ress:=zB_r,m:=fun x=>zB_M x.1 x.2.1 }
theorem yaE:FnOK Tryz.prog zB_e:=yJ (g:=zB_g) (fn:=Tryz.f204) yA yI (y6 yYl eNil) (by kernel_rfl) (by kernel_rfl) (by kernel_rfl) (fun x y h=>let ⟨n,hn⟩:=yTe x.1 x.2.1 y h;⟨yV7 n,iNil,(yYw n x).trans hn⟩)
abbrev zC_a:Ty:=.pair t35 (.pair t265 .unit)
abbrev zC_r:Ty:=.pair t4 .unit
def zC_g:G:={ T:=T,E:=[zE_e],muts:=[],fz:=[] }
def zC_k:List (List Nat):=[]
def yTK(n:Nat):Ann:={ keep:=zC_k,fuel:=n,inl:=[],deep:=0 }
def zC_m(n:Nat)(s:List Nat)(f:Nat×Unit→Option (Bool×Unit)):Option (Bool×Unit) :=
  (Option.bind (zE_M s f) fun v0=>some (decide (v0.1 ≥ 0),()))
theorem yZG(n:Nat)(x:zC_a.den):runF zC_g (yTK n) Tryz.f207 zC_a zC_r x=zC_m n x.1 x.2.1:=by kernel_rfl
def zC_M(s:List Nat)(f:Nat×Unit→Option (Bool×Unit)):Option (Bool×Unit):=zC_m 0 s f
theorem yXT(s:List Nat)(f:Nat×Unit→Option (Bool×Unit))(y:Bool×Unit)(h:zC_M s f=some y):∃ n,zC_m n s f=some y:=⟨0,h⟩
def zC_e:Entry:={ f:=207,args:=zC_a,ress:=zC_r,m:=fun x=>zC_M x.1 x.2.1 }
theorem yYo:FnOK Tryz.prog zC_e:=yJ (g:=zC_g) (fn:=Tryz.f207) yA yI (y6 yZk eNil) (by kernel_rfl) (by kernel_rfl) (by kernel_rfl) (fun x y h=>let ⟨n,hn⟩:=yXT x.1 x.2.1 y h;⟨yTK n,iNil,(yZG n x).trans hn⟩)
abbrev ze_a:Ty:=.pair t63 .unit
abbrev ze_r:Ty:=.pair t28 .unit
def ze_g:G:={ T:=T,E:=[z0g_e],muts:=[],fz:=[] }
def ze_k:List (List Nat):=[]
def yRd(n:Nat):Ann:={ keep:=ze_k,fuel:=n,inl:=[],deep:=0 }
def ze_m(n:Nat)(s:Q4):Option (Int×Unit) :=
  (bif decide (s.1 < 0)then some ((z0g Bool.true (14:Int)).1,())else (bif decide (s.1 ≥ s.2.1)then some ((z0g Bool.true (14:Int)).1,())else some ((z0g (decide (s.2.1 > 100000)) (14:Int)).1,())))
theorem yaj(n:Nat)(x:ze_a.den):runF ze_g (yRd n) Tryz.f225 ze_a ze_r x=ze_m n x.1:=by kernel_rfl
def ze(s:Q4):(Int×Unit) :=
  (bif decide (s.1 < 0)then ((z0g Bool.true (14:Int)).1,())else (bif decide (s.1 ≥ s.2.1)then ((z0g Bool.true (14:Int)).1,())else ((z0g (decide (s.2.1 > 100000)) (14:Int)).1,())))
abbrev ze_M (s:Q4):Option (Int×Unit):=some (ze s)
theorem yV0(s:Q4)(y:Int×Unit)(h:ze_M s=some y):∃ n,ze_m n s=some y :=
  ⟨0,by rw[← h];show ze_m 0 s=some (ze s);unfold ze_m ze;first|rfl|(simp only[yG];done)|(simp only[yG];rfl)⟩
def ze_e:Entry:={ f:=225,args:=ze_a,ress:=ze_r,m:=fun x=>ze_M x.1 }
theorem yaq:FnOK Tryz.prog ze_e:=yJ (g:=ze_g) (fn:=Tryz.f225) yA yI (y6 yCM eNil) (by kernel_rfl) (by kernel_rfl) (by kernel_rfl) (fun x y h=>let ⟨n,hn⟩:=yV0 x.1 y h;⟨yRd n,iNil,(yaj n x).trans hn⟩)
end
end Go.Tw
end
