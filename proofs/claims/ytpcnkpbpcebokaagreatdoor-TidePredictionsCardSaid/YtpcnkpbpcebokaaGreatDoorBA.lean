import Derived.Test.YtpcnkpbpcebokaaGreatDoorBT
import Derived.Test.YtpcnkpbpcebokaaGreatDoorB0
import Derived.Test.YtpcnkpbpcebokaaGreatDoorBS
import Derived.Test.YtpcnkpbpcebokaaGreatDoorLQ
set_option linter.all false
section
set_option maxRecDepth 1000000
namespace Go.Tw
open Go.Vx Go.Vx.B Go.Proofs
noncomputable section
abbrev yNQ:Ty:=.pair t41 .unit
abbrev yVY:Ty:=.pair t3 .unit
def yRx:G:={ T:=T,E:=[],muts:=[],fz:=[] }
def yXA:List (List Nat):=[[0,3]]
def yMH(n:Nat):Ann:={ keep:=yXA,fuel:=n,inl:=[],deep:=0 }
def yEU(n:Nat)(r0:List Int→Int→Option (Int×Unit))(ay:List Int)(b8:Int):Option (Int×Unit) :=
  (bif decide (b8 < (↑ay.length:Int))then (Option.bind (idx ay b8) fun v1=>(bif v1 != 0 then (Option.bind (idx ay b8) fun v2=>some (v2,()))else r0 ay (IntKind.i64.wrap (b8+1))))else some ((0:Int),()))
def y6g(n:Nat)(k:Nat)(ay:List Int)(b8:Int):Option (Int×Unit) :=
  iter (fun r y=>yEU n (fun ay b8=>r ((ay,(b8,())),((),()))) y.1.1 y.1.2.1) k ((ay,(b8,())),((),()))
def yKi(n:Nat)(l:List Int):Option (Int×Unit) :=
  (y6g n n (l) ((0:Int)))
theorem yWG(n:Nat)(x:yNQ.den):runF yRx (yMH n) Tryz.f24 yNQ yVY x=yKi n x.1:=by kernel_rfl
def yB2(ay:List Int)(b8:Int)(v1:Int):Option ((Int×Unit)⊕Unit) :=
  (bif v1 != 0 then (Option.bind (idx ay b8) fun v2=>(some (Sum.inl ((v2,())))))else (some (Sum.inr ())))
def yAj(ay:List Int):Option (Int×Unit) :=
  (some (((0:Int),())))
theorem yDV(n:Nat)(hn:big≤n)(ay:List Int)(hx:List.length (ay) < lenMax):LeF some (yM (fun i__ e__ s__=>yB2 ay i__ e__) (fun s__=>yAj ay) 0 (ay) ()) (y6g n n ay 0):=by
  refine yO (f:=some) (W:=fun k__ i__ s__=>y6g n k__ ay i__) (body:=(fun i__ e__ s__=>yB2 ay i__ e__)) (fin:=(fun s__=>yAj ay)) (fun k__ i__ s__=>?_) hx () n (by unfold big at hn;unfold lenMax at hx;omega)
  show LeF _ _ (yEU n (y6g n k__) ay i__)
  exact y5 (y7 fun v1=>(y5 (y7 fun v2=>(y6 rfl)) (y6 rfl))) (yl (y6 rfl))
def y8H(l:List Int):Option (Int×Unit) :=
  (bif decide (List.length (l) < lenMax)then yM (fun i__ e__ s__=>yB2 (l) i__ e__) (fun s__=>yAj (l)) 0 (l) ()else none)
theorem yNV(l:List Int)(y:Int×Unit)(h:y8H l=some y):∃ n,yKi n l=some y :=
  ⟨big,LeF.top (show LeF some (y8H l) (yKi big l)from (fun (n:Nat) (hn:big≤n)=>show LeF some (y8H l) (yKi n l)from (yK fun hx=>by apply yDV n hn;exact hx)) big (Nat.le_refl _)) h⟩
def z0P_e:Entry:={ f:=24,args:=yNQ,ress:=yVY,m:=fun x=>y8H x.1 }
theorem yEX:FnOK Tryz.prog z0P_e:=yI (g:=yRx) (fn:=Tryz.f24) yD yH eNil (by kernel_rfl) (by kernel_rfl) (by kernel_rfl) (fun x y h=>let ⟨n,hn⟩:=yNV x.1 y h;⟨yMH n,iNil,(yWG n x).trans hn⟩)
abbrev zW_a:Ty:=.pair t23 (.pair t23 .unit)
abbrev zW_r:Ty:=.pair t4 .unit
def zW_g:G:={ T:=T,E:=[],muts:=[],fz:=[] }
def zW_k:List (List Nat):=[[0,1,5]]
def yVH(n:Nat):Ann:={ keep:=zW_k,fuel:=n,inl:=[],deep:=0 }
def yHr(n:Nat)(r0:List (Q3)→List (Q3)→Int→Option (Bool×Unit))(ah:List (Q3))(ai:List (Q3))(au:Int):Option (Bool×Unit) :=
  (bif decide (au < (↑ah.length:Int))then (Option.bind (idx ah au) fun v1=>(Option.bind (idx ai au) fun v2=>(bif !eqV ((Ty.int IntKind.i64).pair ((Ty.int IntKind.i64).pair Ty.unit)) v1 v2 then some (Bool.false,())else r0 ah ai (IntKind.i64.wrap (au+1)))))else some (Bool.true,()))
def y9U(n:Nat)(k:Nat)(ah:List (Q3))(ai:List (Q3))(au:Int):Option (Bool×Unit) :=
  iter (fun r y=>yHr n (fun ah ai au=>r ((ah,(ai,(au,()))),((),()))) y.1.1 y.1.2.1 y.1.2.2.1) k ((ah,(ai,(au,()))),((),()))
def zW_m(n:Nat)(a:List (Q3))(b:List (Q3)):Option (Bool×Unit) :=
  (bif (↑a.length:Int) != (↑b.length:Int)then some (Bool.false,())else (y9U n n (a) (b) ((0:Int))))
theorem yYV(n:Nat)(x:zW_a.den):runF zW_g (yVH n) Tryz.f29 zW_a zW_r x=zW_m n x.1 x.2.1:=by kernel_rfl
def yL6(ah:List (Q3))(ai:List (Q3))(au:Int)(v1:Q3):Option ((Bool×Unit)⊕Unit) :=
  (Option.bind (idx ai au) fun v2=>(bif !eqV ((Ty.int IntKind.i64).pair ((Ty.int IntKind.i64).pair Ty.unit)) v1 v2 then (some (Sum.inl ((Bool.false,()))))else (some (Sum.inr ()))))
def yPn(ah:List (Q3))(ai:List (Q3)):Option (Bool×Unit) :=
  (some ((Bool.true,())))
theorem yGi(n:Nat)(hn:big≤n)(ah:List (Q3))(ai:List (Q3))(hx:List.length (ah) < lenMax):LeF some (yM (fun i__ e__ s__=>yL6 ah ai i__ e__) (fun s__=>yPn ah ai) 0 (ah) ()) (y9U n n ah ai 0):=by
  refine yO (f:=some) (W:=fun k__ i__ s__=>y9U n k__ ah ai i__) (body:=(fun i__ e__ s__=>yL6 ah ai i__ e__)) (fin:=(fun s__=>yPn ah ai)) (fun k__ i__ s__=>?_) hx () n (by unfold big at hn;unfold lenMax at hx;omega)
  show LeF _ _ (yHr n (y9U n k__) ah ai i__)
  exact y5 (y7 fun v1=>(y7 fun v2=>(y5 (y6 rfl) (y6 rfl)))) (yl (y6 rfl))
def zW_M(a:List (Q3))(b:List (Q3)):Option (Bool×Unit) :=
  (bif (↑a.length:Int) != (↑b.length:Int)then (some ((Bool.false,())))else (bif decide (List.length (a) < lenMax)then yM (fun i__ e__ s__=>yL6 (a) (b) i__ e__) (fun s__=>yPn (a) (b)) 0 (a) ()else none))
theorem ySj(a:List (Q3))(b:List (Q3))(y:Bool×Unit)(h:zW_M a b=some y):∃ n,zW_m n a b=some y :=
  ⟨big,LeF.top (show LeF some (zW_M a b) (zW_m big a b)from (fun (n:Nat) (hn:big≤n)=>show LeF some (zW_M a b) (zW_m n a b)from (y5 (y6 rfl) (yK fun hx=>by apply yGi n hn;exact hx))) big (Nat.le_refl _)) h⟩
def zW_e:Entry:={ f:=29,args:=zW_a,ress:=zW_r,m:=fun x=>zW_M x.1 x.2.1 }
theorem yPF:FnOK Tryz.prog zW_e:=yI (g:=zW_g) (fn:=Tryz.f29) yD yH eNil (by kernel_rfl) (by kernel_rfl) (by kernel_rfl) (fun x y h=>let ⟨n,hn⟩:=ySj x.1 x.2.1 y h;⟨yVH n,iNil,(yYV n x).trans hn⟩)
abbrev zb_a:Ty:=.pair t35 (.pair t35 .unit)
abbrev zb_r:Ty:=.pair t4 .unit
def zb_g:G:={ T:=T,E:=[],muts:=[],fz:=[] }
def zb_k:List (List Nat):=[[0,1,5]]
def yUt(n:Nat):Ann:={ keep:=zb_k,fuel:=n,inl:=[],deep:=0 }
def yHa(n:Nat)(r0:List Nat→List Nat→Int→Option (Bool×Unit))(ah:List Nat)(ai:List Nat)(au:Int):Option (Bool×Unit) :=
  (bif decide (au < (↑ah.length:Int))then (Option.bind (idx ah au) fun v1=>(Option.bind (idx ai au) fun v2=>(bif y0G Go.BinOp.neq Go.FloatKind.f32 v1 v2 then some (Bool.false,())else r0 ah ai (IntKind.i64.wrap (au+1)))))else some (Bool.true,()))
def y9Q(n:Nat)(k:Nat)(ah:List Nat)(ai:List Nat)(au:Int):Option (Bool×Unit) :=
  iter (fun r y=>yHa n (fun ah ai au=>r ((ah,(ai,(au,()))),((),()))) y.1.1 y.1.2.1 y.1.2.2.1) k ((ah,(ai,(au,()))),((),()))
def zb_m(n:Nat)(a:List Nat)(b:List Nat):Option (Bool×Unit) :=
  (bif (↑a.length:Int) != (↑b.length:Int)then some (Bool.false,())else (y9Q n n (a) (b) ((0:Int))))
theorem yYX(n:Nat)(x:zb_a.den):runF zb_g (yUt n) Tryz.f30 zb_a zb_r x=zb_m n x.1 x.2.1:=by kernel_rfl
def yK7(ah:List Nat)(ai:List Nat)(au:Int)(v1:Nat):Option ((Bool×Unit)⊕Unit) :=
  (Option.bind (idx ai au) fun v2=>(bif y0G Go.BinOp.neq Go.FloatKind.f32 v1 v2 then (some (Sum.inl ((Bool.false,()))))else (some (Sum.inr ()))))
def yO4(ah:List Nat)(ai:List Nat):Option (Bool×Unit) :=
  (some ((Bool.true,())))
theorem yFw(n:Nat)(hn:big≤n)(ah:List Nat)(ai:List Nat)(hx:List.length (ah) < lenMax):LeF some (yM (fun i__ e__ s__=>yK7 ah ai i__ e__) (fun s__=>yO4 ah ai) 0 (ah) ()) (y9Q n n ah ai 0):=by
  refine yO (f:=some) (W:=fun k__ i__ s__=>y9Q n k__ ah ai i__) (body:=(fun i__ e__ s__=>yK7 ah ai i__ e__)) (fin:=(fun s__=>yO4 ah ai)) (fun k__ i__ s__=>?_) hx () n (by unfold big at hn;unfold lenMax at hx;omega)
  show LeF _ _ (yHa n (y9Q n k__) ah ai i__)
  exact y5 (y7 fun v1=>(y7 fun v2=>(y5 (y6 rfl) (y6 rfl)))) (yl (y6 rfl))
def zb_M(a:List Nat)(b:List Nat):Option (Bool×Unit) :=
  (bif (↑a.length:Int) != (↑b.length:Int)then (some ((Bool.false,())))else (bif decide (List.length (a) < lenMax)then yM (fun i__ e__ s__=>yK7 (a) (b) i__ e__) (fun s__=>yO4 (a) (b)) 0 (a) ()else none))
theorem yRp(a:List Nat)(b:List Nat)(y:Bool×Unit)(h:zb_M a b=some y):∃ n,zb_m n a b=some y :=
  ⟨big,LeF.top (show LeF some (zb_M a b) (zb_m big a b)from (fun (n:Nat) (hn:big≤n)=>show LeF some (zb_M a b) (zb_m n a b)from (y5 (y6 rfl) (yK fun hx=>by apply yFw n hn;exact hx))) big (Nat.le_refl _)) h⟩
def zb_e:Entry:={ f:=30,args:=zb_a,ress:=zb_r,m:=fun x=>zb_M x.1 x.2.1 }
theorem yW5:FnOK Tryz.prog zb_e:=yI (g:=zb_g) (fn:=Tryz.f30) yD yH eNil (by kernel_rfl) (by kernel_rfl) (by kernel_rfl) (fun x y h=>let ⟨n,hn⟩:=yRp x.1 x.2.1 y h;⟨yUt n,iNil,(yYX n x).trans hn⟩)
abbrev zm_a:Ty:=.pair t22 .unit
abbrev zm_r:Ty:=.pair t4 .unit
def zm_g:G:={ T:=T,E:=[],muts:=[],fz:=[] }
def zm_k:List (List Nat):=[[0,3]]
def ySu(n:Nat):Ann:={ keep:=zm_k,fuel:=n,inl:=[],deep:=0 }
def yHt(n:Nat)(r0:List (Q2)→Int→Option (Bool×Unit))(ay:List (Q2))(b8:Int):Option (Bool×Unit) :=
  (bif decide (b8 < (↑ay.length:Int))then (Option.bind (idx ay b8) fun v1=>(bif decide ((↑v1.1.length:Int) > 60)then some (Bool.false,())else r0 ay (IntKind.i64.wrap (b8+1))))else some (decide ((↑ay.length:Int)≤5),()))
def y9s(n:Nat)(k:Nat)(ay:List (Q2))(b8:Int):Option (Bool×Unit) :=
  iter (fun r y=>yHt n (fun ay b8=>r ((ay,(b8,())),((),()))) y.1.1 y.1.2.1) k ((ay,(b8,())),((),()))
def zm_m(n:Nat)(l:List (Q2)):Option (Bool×Unit) :=
  (y9s n n (l) ((0:Int)))
theorem yX2(n:Nat)(x:zm_a.den):runF zm_g (ySu n) Tryz.f31 zm_a zm_r x=zm_m n x.1:=by kernel_rfl
def yJq(ay:List (Q2))(b8:Int)(v1:Q2):Option ((Bool×Unit)⊕Unit) :=
  (bif decide ((↑v1.1.length:Int) > 60)then (some (Sum.inl ((Bool.false,()))))else (some (Sum.inr ())))
def yIv(ay:List (Q2)):Option (Bool×Unit) :=
  (some ((decide ((↑ay.length:Int)≤5),())))
theorem yG1(n:Nat)(hn:big≤n)(ay:List (Q2))(hx:List.length (ay) < lenMax):LeF some (yM (fun i__ e__ s__=>yJq ay i__ e__) (fun s__=>yIv ay) 0 (ay) ()) (y9s n n ay 0):=by
  refine yO (f:=some) (W:=fun k__ i__ s__=>y9s n k__ ay i__) (body:=(fun i__ e__ s__=>yJq ay i__ e__)) (fin:=(fun s__=>yIv ay)) (fun k__ i__ s__=>?_) hx () n (by unfold big at hn;unfold lenMax at hx;omega)
  show LeF _ _ (yHt n (y9s n k__) ay i__)
  exact y5 (y7 fun v1=>(y5 (y6 rfl) (y6 rfl))) (yl (y6 rfl))
def zm_M(l:List (Q2)):Option (Bool×Unit) :=
  (bif decide (List.length (l) < lenMax)then yM (fun i__ e__ s__=>yJq (l) i__ e__) (fun s__=>yIv (l)) 0 (l) ()else none)
theorem yWL(l:List (Q2))(y:Bool×Unit)(h:zm_M l=some y):∃ n,zm_m n l=some y :=
  ⟨big,LeF.top (show LeF some (zm_M l) (zm_m big l)from (fun (n:Nat) (hn:big≤n)=>show LeF some (zm_M l) (zm_m n l)from (yK fun hx=>by apply yG1 n hn;exact hx)) big (Nat.le_refl _)) h⟩
def zm_e:Entry:={ f:=31,args:=zm_a,ress:=zm_r,m:=fun x=>zm_M x.1 }
theorem yXg:FnOK Tryz.prog zm_e:=yI (g:=zm_g) (fn:=Tryz.f31) yD yH eNil (by kernel_rfl) (by kernel_rfl) (by kernel_rfl) (fun x y h=>let ⟨n,hn⟩:=yWL x.1 y h;⟨ySu n,iNil,(yX2 n x).trans hn⟩)
abbrev yPL:Ty:=.pair t22 .unit
abbrev yUu:Ty:=.pair t31 .unit
def yS9:G:={ T:=T,E:=[],muts:=[3],fz:=[] }
def yX5:List (List Nat):=[[3,6,7,8]]
def yLs(n:Nat):Ann:={ keep:=yX5,fuel:=n,inl:=[],deep:=0 }
def yEK(n:Nat)(r0:List (Q2)→Int→Int→List (Q2)→Option (List (Q2)×Unit))(aD:List (Q2))(az:Int)(a7:Int)(aA:List (Q2)):Option (List (Q2)×Unit) :=
  (bif decide (a7 < az)then (Option.bind (idx aD a7) fun v1=>(bif decide (aA.length+(1:Nat)≤memMax)then r0 aD az (IntKind.i64.wrap (a7+1)) (aA++[(v1.1,v1.2.1,v1.2.2.1,())])else none))else some (aA,()))
def y6V(n:Nat)(k:Nat)(aD:List (Q2))(az:Int)(a7:Int)(aA:List (Q2)):Option (List (Q2)×Unit) :=
  iter (fun r y=>yEK n (fun aD az a7 aA=>r ((aD,(az,(a7,()))),((aA,()),()))) y.1.1 y.1.2.1 y.1.2.2.1 y.2.1.1) k ((aD,(az,(a7,()))),((aA,()),()))
def yJY(n:Nat)(l:List (Q2)):Option (List (Q2)×Unit) :=
  (y6V n n (l) ((↑l.length:Int)) ((0:Int)) ([]))
theorem yUS(n:Nat)(x:yPL.den):runF yS9 (yLs n) Tryz.f33 yPL yUu x=yJY n x.1:=by kernel_rfl
def yEn(aD:List (Q2))(a7:Int)(v1:Q2)(aA:List (Q2)):Option ((List (Q2)×Unit)⊕(List (Q2))) :=
  (bif decide (aA.length+(1:Nat)≤memMax)then (some (Sum.inr (aA++[(v1.1,v1.2.1,v1.2.2.1,())])))else none)
def yI5(aD:List (Q2))(aA:List (Q2)):Option (List (Q2)×Unit) :=
  (some ((aA,())))
theorem yCv(n:Nat)(hn:big≤n)(aD:List (Q2))(aA:List (Q2))(hx:List.length (aD) < lenMax):LeF some (yM (fun i__ e__ s__=>yEn aD i__ e__ s__) (fun s__=>yI5 aD s__) 0 (aD) aA) (y6V n n aD (List.length (aD):Int) 0 aA):=by
  refine yO (f:=some) (W:=fun k__ i__ s__=>y6V n k__ aD (List.length (aD):Int) i__ s__) (body:=(fun i__ e__ s__=>yEn aD i__ e__ s__)) (fin:=(fun s__=>yI5 aD s__)) (fun k__ i__ s__=>?_) hx aA n (by unfold big at hn;unfold lenMax at hx;omega)
  show LeF _ _ (yEK n (y6V n k__) aD (List.length (aD):Int) i__ s__)
  exact y5 (y7 fun v1=>(y5 (y6 rfl) yc)) (yl (y6 rfl))
def yDJ(l:List (Q2)):Option (List (Q2)×Unit) :=
  (bif decide (List.length (l) < lenMax)then yM (fun i__ e__ s__=>yEn (l) i__ e__ s__) (fun s__=>yI5 (l) s__) 0 (l) ([])else none)
theorem yOu(l:List (Q2))(y:List (Q2)×Unit)(h:yDJ l=some y):∃ n,yJY n l=some y :=
  ⟨big,LeF.top (show LeF some (yDJ l) (yJY big l)from (fun (n:Nat) (hn:big≤n)=>show LeF some (yDJ l) (yJY n l)from (yK fun hx=>by apply yCv n hn;exact hx)) big (Nat.le_refl _)) h⟩
def z0e_e:Entry:={ f:=33,args:=yPL,ress:=yUu,m:=fun x=>yDJ x.1 }
theorem yWQ:FnOK Tryz.prog z0e_e:=yI (g:=yS9) (fn:=Tryz.f33) yD yH eNil (by kernel_rfl) (by kernel_rfl) (by kernel_rfl) (fun x y h=>let ⟨n,hn⟩:=yOu x.1 y h;⟨yLs n,iNil,(yUS n x).trans hn⟩)
abbrev za_a:Ty:=.pair t3 (.pair t3 (.pair t3 .unit))
abbrev za_r:Ty:=.pair t3 .unit
def za_g:G:={ T:=T,E:=[],muts:=[],fz:=[] }
def za_k:List (List Nat):=[]
def yUz(n:Nat):Ann:={ keep:=za_k,fuel:=n,inl:=[],deep:=0 }
def za_m(n:Nat)(n1:Int)(low:Int)(high:Int):Option (Int×Unit) :=
  (bif decide (n1 < low)then some ((3:Int),())else (bif decide (n1 > high)then some ((3:Int),())else some ((0:Int),())))
theorem yY3(n:Nat)(x:za_a.den):runF za_g (yUz n) Tryz.f44 za_a za_r x=za_m n x.1 x.2.1 x.2.2.1:=by kernel_rfl
def za(n1:Int)(low:Int)(high:Int):(Int×Unit) :=
  (bif decide (n1 < low)then ((3:Int),())else (bif decide (n1 > high)then ((3:Int),())else ((0:Int),())))
abbrev za_M (n1:Int) (low:Int) (high:Int):Option (Int×Unit):=some (za n1 low high)
theorem yTz(n1:Int)(low:Int)(high:Int)(y:Int×Unit)(h:za_M n1 low high=some y):∃ n,za_m n n1 low high=some y :=
  ⟨0,by rw[← h];show za_m 0 n1 low high=some (za n1 low high);unfold za_m za;first|rfl|(simp only[yJ];done)|(simp only[yJ];rfl)⟩
def za_e:Entry:={ f:=44,args:=za_a,ress:=za_r,m:=fun x=>za_M x.1 x.2.1 x.2.2.1 }
theorem yKM:FnOK Tryz.prog za_e:=yI (g:=za_g) (fn:=Tryz.f44) yD yH eNil (by kernel_rfl) (by kernel_rfl) (by kernel_rfl) (fun x y h=>let ⟨n,hn⟩:=yTz x.1 x.2.1 x.2.2.1 y h;⟨yUz n,iNil,(yY3 n x).trans hn⟩)
abbrev zt_a:Ty:=.pair t79 (.pair t79 .unit)
abbrev zt_r:Ty:=.pair t4 .unit
def zt_g:G:={ T:=T,E:=[],muts:=[],fz:=[] }
def zt_k:List (List Nat):=[[0,1,5]]
def yRm(n:Nat):Ann:={ keep:=zt_k,fuel:=n,inl:=[],deep:=0 }
def yJJ(n:Nat)(r0:List (Nat×Nat)→List (Nat×Nat)→Int→Option (Bool×Unit))(ah:List (Nat×Nat))(ai:List (Nat×Nat))(au:Int):Option (Bool×Unit) :=
  (bif decide (au < (↑ah.length:Int))then (Option.bind (idx ah au) fun v1=>(Option.bind (idx ai au) fun v2=>(bif !y98 Go.FloatKind.f32 v1 v2 then some (Bool.false,())else r0 ah ai (IntKind.i64.wrap (au+1)))))else some (Bool.true,()))
def yAR(n:Nat)(k:Nat)(ah:List (Nat×Nat))(ai:List (Nat×Nat))(au:Int):Option (Bool×Unit) :=
  iter (fun r y=>yJJ n (fun ah ai au=>r ((ah,(ai,(au,()))),((),()))) y.1.1 y.1.2.1 y.1.2.2.1) k ((ah,(ai,(au,()))),((),()))
def zt_m(n:Nat)(a:List (Nat×Nat))(b:List (Nat×Nat)):Option (Bool×Unit) :=
  (bif (↑a.length:Int) != (↑b.length:Int)then some (Bool.false,())else (yAR n n (a) (b) ((0:Int))))
theorem yZ4(n:Nat)(x:zt_a.den):runF zt_g (yRm n) Tryz.f53 zt_a zt_r x=zt_m n x.1 x.2.1:=by kernel_rfl
def yPC(ah:List (Nat×Nat))(ai:List (Nat×Nat))(au:Int)(v1:Nat×Nat):Option ((Bool×Unit)⊕Unit) :=
  (Option.bind (idx ai au) fun v2=>(bif !y98 Go.FloatKind.f32 v1 v2 then (some (Sum.inl ((Bool.false,()))))else (some (Sum.inr ()))))
def yMr(ah:List (Nat×Nat))(ai:List (Nat×Nat)):Option (Bool×Unit) :=
  (some ((Bool.true,())))
theorem yGJ(n:Nat)(hn:big≤n)(ah:List (Nat×Nat))(ai:List (Nat×Nat))(hx:List.length (ah) < lenMax):LeF some (yM (fun i__ e__ s__=>yPC ah ai i__ e__) (fun s__=>yMr ah ai) 0 (ah) ()) (yAR n n ah ai 0):=by
  refine yO (f:=some) (W:=fun k__ i__ s__=>yAR n k__ ah ai i__) (body:=(fun i__ e__ s__=>yPC ah ai i__ e__)) (fin:=(fun s__=>yMr ah ai)) (fun k__ i__ s__=>?_) hx () n (by unfold big at hn;unfold lenMax at hx;omega)
  show LeF _ _ (yJJ n (yAR n k__) ah ai i__)
  exact y5 (y7 fun v1=>(y7 fun v2=>(y5 (y6 rfl) (y6 rfl)))) (yl (y6 rfl))
def zt_M(a:List (Nat×Nat))(b:List (Nat×Nat)):Option (Bool×Unit) :=
  (bif (↑a.length:Int) != (↑b.length:Int)then (some ((Bool.false,())))else (bif decide (List.length (a) < lenMax)then yM (fun i__ e__ s__=>yPC (a) (b) i__ e__) (fun s__=>yMr (a) (b)) 0 (a) ()else none))
theorem yQh(a:List (Nat×Nat))(b:List (Nat×Nat))(y:Bool×Unit)(h:zt_M a b=some y):∃ n,zt_m n a b=some y :=
  ⟨big,LeF.top (show LeF some (zt_M a b) (zt_m big a b)from (fun (n:Nat) (hn:big≤n)=>show LeF some (zt_M a b) (zt_m n a b)from (y5 (y6 rfl) (yK fun hx=>by apply yGJ n hn;exact hx))) big (Nat.le_refl _)) h⟩
def zt_e:Entry:={ f:=53,args:=zt_a,ress:=zt_r,m:=fun x=>zt_M x.1 x.2.1 }
theorem yXy:FnOK Tryz.prog zt_e:=yI (g:=zt_g) (fn:=Tryz.f53) yD yH eNil (by kernel_rfl) (by kernel_rfl) (by kernel_rfl) (fun x y h=>let ⟨n,hn⟩:=yQh x.1 x.2.1 y h;⟨yRm n,iNil,(yZ4 n x).trans hn⟩)
abbrev zl_a:Ty:=.pair t100 (.pair t100 .unit)
abbrev zl_r:Ty:=.pair t4 .unit
def zl_g:G:={ T:=T,E:=[],muts:=[],fz:=[] }
def zl_k:List (List Nat):=[[0,1,5]]
def yRu(n:Nat):Ann:={ keep:=zl_k,fuel:=n,inl:=[],deep:=0 }
def yIn(n:Nat)(r0:List (List Int)→List (List Int)→Int→Option (Bool×Unit))(ah:List (List Int))(ai:List (List Int))(au:Int):Option (Bool×Unit) :=
  (bif decide (au < (↑ah.length:Int))then (Option.bind (idx ah au) fun v1=>(Option.bind (idx ai au) fun v2=>(bif !eqV (Ty.arr (2:Nat) (Ty.int IntKind.i64)) v1 v2 then some (Bool.false,())else r0 ah ai (IntKind.i64.wrap (au+1)))))else some (Bool.true,()))
def yAM(n:Nat)(k:Nat)(ah:List (List Int))(ai:List (List Int))(au:Int):Option (Bool×Unit) :=
  iter (fun r y=>yIn n (fun ah ai au=>r ((ah,(ai,(au,()))),((),()))) y.1.1 y.1.2.1 y.1.2.2.1) k ((ah,(ai,(au,()))),((),()))
def zl_m(n:Nat)(a:List (List Int))(b:List (List Int)):Option (Bool×Unit) :=
  (bif (↑a.length:Int) != (↑b.length:Int)then some (Bool.false,())else (yAM n n (a) (b) ((0:Int))))
theorem yWm(n:Nat)(x:zl_a.den):runF zl_g (yRu n) Tryz.f66 zl_a zl_r x=zl_m n x.1 x.2.1:=by kernel_rfl
def yNv(ah:List (List Int))(ai:List (List Int))(au:Int)(v1:List Int):Option ((Bool×Unit)⊕Unit) :=
  (Option.bind (idx ai au) fun v2=>(bif !eqV (Ty.arr (2:Nat) (Ty.int IntKind.i64)) v1 v2 then (some (Sum.inl ((Bool.false,()))))else (some (Sum.inr ()))))
def yP2(ah:List (List Int))(ai:List (List Int)):Option (Bool×Unit) :=
  (some ((Bool.true,())))
theorem yGT(n:Nat)(hn:big≤n)(ah:List (List Int))(ai:List (List Int))(hx:List.length (ah) < lenMax):LeF some (yM (fun i__ e__ s__=>yNv ah ai i__ e__) (fun s__=>yP2 ah ai) 0 (ah) ()) (yAM n n ah ai 0):=by
  refine yO (f:=some) (W:=fun k__ i__ s__=>yAM n k__ ah ai i__) (body:=(fun i__ e__ s__=>yNv ah ai i__ e__)) (fin:=(fun s__=>yP2 ah ai)) (fun k__ i__ s__=>?_) hx () n (by unfold big at hn;unfold lenMax at hx;omega)
  show LeF _ _ (yIn n (yAM n k__) ah ai i__)
  exact y5 (y7 fun v1=>(y7 fun v2=>(y5 (y6 rfl) (y6 rfl)))) (yl (y6 rfl))
def zl_M(a:List (List Int))(b:List (List Int)):Option (Bool×Unit) :=
  (bif (↑a.length:Int) != (↑b.length:Int)then (some ((Bool.false,())))else (bif decide (List.length (a) < lenMax)then yM (fun i__ e__ s__=>yNv (a) (b) i__ e__) (fun s__=>yP2 (a) (b)) 0 (a) ()else none))
theorem yTi(a:List (List Int))(b:List (List Int))(y:Bool×Unit)(h:zl_M a b=some y):∃ n,zl_m n a b=some y :=
  ⟨big,LeF.top (show LeF some (zl_M a b) (zl_m big a b)from (fun (n:Nat) (hn:big≤n)=>show LeF some (zl_M a b) (zl_m n a b)from (y5 (y6 rfl) (yK fun hx=>by apply yGT n hn;exact hx))) big (Nat.le_refl _)) h⟩
def zl_e:Entry:={ f:=66,args:=zl_a,ress:=zl_r,m:=fun x=>zl_M x.1 x.2.1 }
theorem yY5:FnOK Tryz.prog zl_e:=yI (g:=zl_g) (fn:=Tryz.f66) yD yH eNil (by kernel_rfl) (by kernel_rfl) (by kernel_rfl) (fun x y h=>let ⟨n,hn⟩:=yTi x.1 x.2.1 y h;⟨yRu n,iNil,(yWm n x).trans hn⟩)
abbrev zq_a:Ty:=.pair t41 (.pair t41 .unit)
abbrev zq_r:Ty:=.pair t4 .unit
def zq_g:G:={ T:=T,E:=[],muts:=[],fz:=[] }
def zq_k:List (List Nat):=[[0,1,5]]
def yUU(n:Nat):Ann:={ keep:=zq_k,fuel:=n,inl:=[],deep:=0 }
def yHY(n:Nat)(r0:List Int→List Int→Int→Option (Bool×Unit))(ah:List Int)(ai:List Int)(au:Int):Option (Bool×Unit) :=
  (bif decide (au < (↑ah.length:Int))then (Option.bind (idx ah au) fun v1=>(Option.bind (idx ai au) fun v2=>(bif v1 != v2 then some (Bool.false,())else r0 ah ai (IntKind.i64.wrap (au+1)))))else some (Bool.true,()))
def y9w(n:Nat)(k:Nat)(ah:List Int)(ai:List Int)(au:Int):Option (Bool×Unit) :=
  iter (fun r y=>yHY n (fun ah ai au=>r ((ah,(ai,(au,()))),((),()))) y.1.1 y.1.2.1 y.1.2.2.1) k ((ah,(ai,(au,()))),((),()))
def zq_m(n:Nat)(a:List Int)(b:List Int):Option (Bool×Unit) :=
  (bif (↑a.length:Int) != (↑b.length:Int)then some (Bool.false,())else (y9w n n (a) (b) ((0:Int))))
theorem yXI(n:Nat)(x:zq_a.den):runF zq_g (yUU n) Tryz.f75 zq_a zq_r x=zq_m n x.1 x.2.1:=by kernel_rfl
def yNm(ah:List Int)(ai:List Int)(au:Int)(v1:Int):Option ((Bool×Unit)⊕Unit) :=
  (Option.bind (idx ai au) fun v2=>(bif v1 != v2 then (some (Sum.inl ((Bool.false,()))))else (some (Sum.inr ()))))
def yMq(ah:List Int)(ai:List Int):Option (Bool×Unit) :=
  (some ((Bool.true,())))
theorem yFD(n:Nat)(hn:big≤n)(ah:List Int)(ai:List Int)(hx:List.length (ah) < lenMax):LeF some (yM (fun i__ e__ s__=>yNm ah ai i__ e__) (fun s__=>yMq ah ai) 0 (ah) ()) (y9w n n ah ai 0):=by
  refine yO (f:=some) (W:=fun k__ i__ s__=>y9w n k__ ah ai i__) (body:=(fun i__ e__ s__=>yNm ah ai i__ e__)) (fin:=(fun s__=>yMq ah ai)) (fun k__ i__ s__=>?_) hx () n (by unfold big at hn;unfold lenMax at hx;omega)
  show LeF _ _ (yHY n (y9w n k__) ah ai i__)
  exact y5 (y7 fun v1=>(y7 fun v2=>(y5 (y6 rfl) (y6 rfl)))) (yl (y6 rfl))
def zq_M(a:List Int)(b:List Int):Option (Bool×Unit) :=
  (bif (↑a.length:Int) != (↑b.length:Int)then (some ((Bool.false,())))else (bif decide (List.length (a) < lenMax)then yM (fun i__ e__ s__=>yNm (a) (b) i__ e__) (fun s__=>yMq (a) (b)) 0 (a) ()else none))
theorem yUD(a:List Int)(b:List Int)(y:Bool×Unit)(h:zq_M a b=some y):∃ n,zq_m n a b=some y :=
  ⟨big,LeF.top (show LeF some (zq_M a b) (zq_m big a b)from (fun (n:Nat) (hn:big≤n)=>show LeF some (zq_M a b) (zq_m n a b)from (y5 (y6 rfl) (yK fun hx=>by apply yFD n hn;exact hx))) big (Nat.le_refl _)) h⟩
def zq_e:Entry:={ f:=75,args:=zq_a,ress:=zq_r,m:=fun x=>zq_M x.1 x.2.1 }
theorem yXY:FnOK Tryz.prog zq_e:=yI (g:=zq_g) (fn:=Tryz.f75) yD yH eNil (by kernel_rfl) (by kernel_rfl) (by kernel_rfl) (fun x y h=>let ⟨n,hn⟩:=yUD x.1 x.2.1 y h;⟨yUU n,iNil,(yXI n x).trans hn⟩)
abbrev yPE:Ty:=.pair t57 (.pair t57 .unit)
abbrev yUW:Ty:=.pair t57 .unit
def yVc:G:={ T:=T,E:=[],muts:=[],fz:=[] }
def yYa:List (List Nat):=[]
def yMn(n:Nat):Ann:={ keep:=yYa,fuel:=n,inl:=[],deep:=0 }
def yKy(n:Nat)(a:Q3)(b:Q3):Option ((Q3)×Unit) :=
  some ((IntKind.i64.wrap (IntKind.i64.wrap (a.1 * b.1) - IntKind.i64.wrap (a.2.1 * b.2.1)),IntKind.i64.wrap (IntKind.i64.wrap (a.1 * b.2.1)+IntKind.i64.wrap (a.2.1 * b.1)),()),())
theorem yRV(n:Nat)(x:yPE.den):runF yVc (yMn n) Tryz.f80 yPE yUW x=yKy n x.1 x.2.1:=by kernel_rfl
def z0Q(a:Q3)(b:Q3):((Q3)×Unit) :=
  ((IntKind.i64.wrap (IntKind.i64.wrap (a.1 * b.1) - IntKind.i64.wrap (a.2.1 * b.2.1)),IntKind.i64.wrap (IntKind.i64.wrap (a.1 * b.2.1)+IntKind.i64.wrap (a.2.1 * b.1)),()),())
abbrev yQi (a:Q3) (b:Q3):Option ((Q3)×Unit):=some (z0Q a b)
theorem yP1(a:Q3)(b:Q3)(y:(Q3)×Unit)(h:yQi a b=some y):∃ n,yKy n a b=some y :=
  ⟨0,by rw[← h];show yKy 0 a b=some (z0Q a b);unfold yKy z0Q;first|rfl|(simp only[yJ];done)|(simp only[yJ];rfl)⟩
def z0Q_e:Entry:={ f:=80,args:=yPE,ress:=yUW,m:=fun x=>yQi x.1 x.2.1 }
theorem yVA:FnOK Tryz.prog z0Q_e:=yI (g:=yVc) (fn:=Tryz.f80) yD yH eNil (by kernel_rfl) (by kernel_rfl) (by kernel_rfl) (fun x y h=>let ⟨n,hn⟩:=yP1 x.1 x.2.1 y h;⟨yMn n,iNil,(yRV n x).trans hn⟩)
abbrev yP3:Ty:=.pair t57 (.pair t57 .unit)
abbrev yW9:Ty:=.pair t57 .unit
def yUs:G:={ T:=T,E:=[],muts:=[],fz:=[] }
def yYh:List (List Nat):=[]
def yM9(n:Nat):Ann:={ keep:=yYh,fuel:=n,inl:=[],deep:=0 }
def yLD(n:Nat)(a:Q3)(b:Q3):Option ((Q3)×Unit) :=
  some ((IntKind.i64.wrap (a.1+b.1),IntKind.i64.wrap (a.2.1+b.2.1),()),())
theorem yTe(n:Nat)(x:yP3.den):runF yUs (yM9 n) Tryz.f82 yP3 yW9 x=yLD n x.1 x.2.1:=by kernel_rfl
def z0h(a:Q3)(b:Q3):((Q3)×Unit) :=
  ((IntKind.i64.wrap (a.1+b.1),IntKind.i64.wrap (a.2.1+b.2.1),()),())
abbrev yRz (a:Q3) (b:Q3):Option ((Q3)×Unit):=some (z0h a b)
theorem yOI(a:Q3)(b:Q3)(y:(Q3)×Unit)(h:yRz a b=some y):∃ n,yLD n a b=some y :=
  ⟨0,by rw[← h];show yLD 0 a b=some (z0h a b);unfold yLD z0h;first|rfl|(simp only[yJ];done)|(simp only[yJ];rfl)⟩
def z0h_e:Entry:={ f:=82,args:=yP3,ress:=yW9,m:=fun x=>yRz x.1 x.2.1 }
theorem yS6:FnOK Tryz.prog z0h_e:=yI (g:=yUs) (fn:=Tryz.f82) yD yH eNil (by kernel_rfl) (by kernel_rfl) (by kernel_rfl) (fun x y h=>let ⟨n,hn⟩:=yOI x.1 x.2.1 y h;⟨yM9 n,iNil,(yTe n x).trans hn⟩)
abbrev yPH:Ty:=.pair t23 .unit
abbrev yUI:Ty:=.pair t23 .unit
def yRr:G:={ T:=T,E:=[],muts:=[3],fz:=[] }
def yYA:List (List Nat):=[]
def yLt(n:Nat):Ann:={ keep:=yYA,fuel:=n,inl:=[],deep:=0 }
def yJg(n:Nat)(l:List (Q3)):Option (List (Q3)×Unit) :=
  (bif decide ((0:Nat)+l.length≤memMax)then some (l,())else none)
theorem yR8(n:Nat)(x:yPH.den):runF yRr (yLt n) Tryz.f84 yPH yUI x=yJg n x.1:=by kernel_rfl
def yK2(l:List (Q3)):Option (List (Q3)×Unit):=yJg 0 l
theorem yQ4(l:List (Q3))(y:List (Q3)×Unit)(h:yK2 l=some y):∃ n,yJg n l=some y:=⟨0,h⟩
def z01_e:Entry:={ f:=84,args:=yPH,ress:=yUI,m:=fun x=>yK2 x.1 }
theorem yV1:FnOK Tryz.prog z01_e:=yI (g:=yRr) (fn:=Tryz.f84) yD yH eNil (by kernel_rfl) (by kernel_rfl) (by kernel_rfl) (fun x y h=>let ⟨n,hn⟩:=yQ4 x.1 y h;⟨yLt n,iNil,(yR8 n x).trans hn⟩)
abbrev yPJ:Ty:=.pair t58 .unit
abbrev ySc:Ty:=.pair t60 .unit
def yRI:G:={ T:=T,E:=[],muts:=[],fz:=[] }
def yXf:List (List Nat):=[]
def yMf(n:Nat):Ann:={ keep:=yXf,fuel:=n,inl:=[],deep:=0 }
def yKJ(n:Nat)(gaps:List (Q3)):Option ((List UInt8×Int×List Nat×List (Q3)×Unit)×Unit) :=
  some (([(103:UInt8)],(0:Int),[nat_lit 1065353216,nat_lit 0,nat_lit 3212836864,nat_lit 0],gaps,()),())
theorem yUy(n:Nat)(x:yPJ.den):runF yRI (yMf n) Tryz.f102 yPJ ySc x=yKJ n x.1:=by kernel_rfl
def z0f(gaps:List (Q3)):((List UInt8×Int×List Nat×List (Q3)×Unit)×Unit) :=
  (([(103:UInt8)],(0:Int),[nat_lit 1065353216,nat_lit 0,nat_lit 3212836864,nat_lit 0],gaps,()),())
abbrev yTF (gaps:List (Q3)):Option ((List UInt8×Int×List Nat×List (Q3)×Unit)×Unit):=some (z0f gaps)
theorem yOJ(gaps:List (Q3))(y:(List UInt8×Int×List Nat×List (Q3)×Unit)×Unit)(h:yTF gaps=some y):∃ n,yKJ n gaps=some y :=
  ⟨0,by rw[← h];show yKJ 0 gaps=some (z0f gaps);unfold yKJ z0f;first|rfl|(simp only[yJ];done)|(simp only[yJ];rfl)⟩
def z0f_e:Entry:={ f:=102,args:=yPJ,ress:=ySc,m:=fun x=>yTF x.1 }
theorem yWH:FnOK Tryz.prog z0f_e:=yI (g:=yRI) (fn:=Tryz.f102) yD yH eNil (by kernel_rfl) (by kernel_rfl) (by kernel_rfl) (fun x y h=>let ⟨n,hn⟩:=yOJ x.1 y h;⟨yMf n,iNil,(yUy n x).trans hn⟩)
abbrev yOw:Ty:=.pair t9 .unit
abbrev yWI:Ty:=.pair t31 .unit
def yUO:G:={ T:=T,E:=[],muts:=[3],fz:=[] }
def yWl:List (List Nat):=[[3,8]]
def yMc(n:Nat):Ann:={ keep:=yWl,fuel:=n,inl:=[],deep:=0 }
def yEW(n:Nat)(r0:List (Q2)→List UInt8→Int→Option (List (Q2)×Unit))(aA:List (Q2))(str1__0:List UInt8)(pos1__0:Int):Option (List (Q2)×Unit) :=
  (bif decide (pos1__0 < (↑str1__0.length:Int))then (bif (yR str1__0 pos1__0).1==72 then (bif decide (aA.length+(1:Nat)≤memMax)then r0 (aA++[(y1q (yR str1__0 pos1__0).1,(1:Int),(2:Int),())]) str1__0 (yR str1__0 pos1__0).2 else none)else (bif (yR str1__0 pos1__0).1==81 then (bif decide (aA.length+(1:Nat)≤memMax)then r0 (aA++[(y1q (yR str1__0 pos1__0).1,(1:Int),(1:Int),())]) str1__0 (yR str1__0 pos1__0).2 else none)else (bif (yR str1__0 pos1__0).1==82 then (bif decide (aA.length+(1:Nat)≤memMax)then r0 (aA++[(y1q (yR str1__0 pos1__0).1,(1:Int),(3:Int),())]) str1__0 (yR str1__0 pos1__0).2 else none)else (bif decide (aA.length+(1:Nat)≤memMax)then r0 (aA++[(y1q (yR str1__0 pos1__0).1,(1:Int),(0:Int),())]) str1__0 (yR str1__0 pos1__0).2 else none))))else some (aA,()))
def y6N(n:Nat)(k:Nat)(aA:List (Q2))(str1__0:List UInt8)(pos1__0:Int):Option (List (Q2)×Unit) :=
  iter (fun r y=>yEW n (fun aA str1__0 pos1__0=>r ((),((aA,((str1__0,pos1__0),())),()))) y.2.1.1 y.2.1.2.1.1 y.2.1.2.1.2) k ((),((aA,((str1__0,pos1__0),())),()))
def yJi(n:Nat)(names:List UInt8):Option (List (Q2)×Unit) :=
  (y6N n n ([]) (names) ((0:Int)))
theorem ySg(n:Nat)(x:yOw.den):runF yUO (yMc n) Tryz.f103 yOw yWI x=yJi n x.1:=by kernel_rfl
def yHB(str1__0:List UInt8)(pos1__0:Int)(aA:List (Q2)):Option ((List (Q2)×Unit)⊕(List (Q2))) :=
  (bif (yR str1__0 pos1__0).1==72 then (bif decide (aA.length+(1:Nat)≤memMax)then (some (Sum.inr (aA++[(y1q (yR str1__0 pos1__0).1,(1:Int),(2:Int),())])))else none)else (bif (yR str1__0 pos1__0).1==81 then (bif decide (aA.length+(1:Nat)≤memMax)then (some (Sum.inr (aA++[(y1q (yR str1__0 pos1__0).1,(1:Int),(1:Int),())])))else none)else (bif (yR str1__0 pos1__0).1==82 then (bif decide (aA.length+(1:Nat)≤memMax)then (some (Sum.inr (aA++[(y1q (yR str1__0 pos1__0).1,(1:Int),(3:Int),())])))else none)else (bif decide (aA.length+(1:Nat)≤memMax)then (some (Sum.inr (aA++[(y1q (yR str1__0 pos1__0).1,(1:Int),(0:Int),())])))else none))))
def yGt(str1__0:List UInt8)(aA:List (Q2)):Option (List (Q2)×Unit) :=
  (some ((aA,())))
theorem yCf(n:Nat)(hn:big≤n)(str1__0:List UInt8)(aA:List (Q2))(hx:List.length (str1__0) < lenMax):LeF some (y6E (str1__0) (fun i__ s__=>yHB str1__0 i__ s__) (fun s__=>yGt str1__0 s__) (List.length (str1__0)) 0 aA) (y6N n n aA str1__0 0):=by
  refine yF6 (f:=some) (W:=fun k__ i__ s__=>y6N n k__ s__ str1__0 i__) (body:=(fun i__ s__=>yHB str1__0 i__ s__)) (fin:=(fun s__=>yGt str1__0 s__)) (fun k__ i__ s__=>?_) aA n (by unfold big at hn;unfold lenMax at hx;omega)
  show LeF _ _ (yEW n (y6N n k__) s__ str1__0 i__)
  exact y5 (y5 (y5 (y6 rfl) yc) (y5 (y5 (y6 rfl) yc) (y5 (y5 (y6 rfl) yc) (y5 (y6 rfl) yc)))) (yl (y6 rfl))
def y4c(names:List UInt8):Option (List (Q2)×Unit) :=
  (bif decide (List.length (names) < lenMax)then y6E (names) (fun i__ s__=>yHB (names) i__ s__) (fun s__=>yGt (names) s__) (List.length (names)) 0 ([])else none)
theorem yPN(names:List UInt8)(y:List (Q2)×Unit)(h:y4c names=some y):∃ n,yJi n names=some y :=
  ⟨big,LeF.top (show LeF some (y4c names) (yJi big names)from (fun (n:Nat) (hn:big≤n)=>show LeF some (y4c names) (yJi n names)from (yK fun hx=>by apply yCf n hn;exact hx)) big (Nat.le_refl _)) h⟩
def z0O_e:Entry:={ f:=103,args:=yOw,ress:=yWI,m:=fun x=>y4c x.1 }
theorem yRh:FnOK Tryz.prog z0O_e:=yI (g:=yUO) (fn:=Tryz.f103) yD yH eNil (by kernel_rfl) (by kernel_rfl) (by kernel_rfl) (fun x y h=>let ⟨n,hn⟩:=yPN x.1 y h;⟨yMc n,iNil,(ySg n x).trans hn⟩)
abbrev yMx:Ty:=.pair t175 .unit
abbrev yWC:Ty:=.pair t28 .unit
def yTd:G:={ T:=T,E:=[],muts:=[],fz:=[] }
def yYC:List (List Nat):=[[5,6,7]]
def yLn(n:Nat):Ann:={ keep:=yYC,fuel:=n,inl:=[],deep:=0 }
def yEe(n:Nat)(r0:List Int→Int→Int→Option (Int×Unit))(aP:List Int)(aD:Int)(az:Int):Option (Int×Unit) :=
  (bif decide (az < aD)then (Option.bind (idx aP az) fun v1=>(bif v1 != 0 then some (v1,())else r0 aP aD (IntKind.i64.wrap (az+1))))else some ((0:Int),()))
def y6h(n:Nat)(k:Nat)(aP:List Int)(aD:Int)(az:Int):Option (Int×Unit) :=
  iter (fun r y=>yEe n (fun aP aD az=>r ((aP,(aD,(az,()))),((),()))) y.1.1 y.1.2.1 y.1.2.2.1) k ((aP,(aD,(az,()))),((),()))
def yL3(n:Nat)(l:List Int):Option (Int×Unit) :=
  (y6h n n (l) ((↑l.length:Int)) ((0:Int)))
theorem yUJ(n:Nat)(x:yMx.den):runF yTd (yLn n) Tryz.f104 yMx yWC x=yL3 n x.1:=by kernel_rfl
def yE2(aP:List Int)(az:Int)(v1:Int):Option ((Int×Unit)⊕Unit) :=
  (bif v1 != 0 then (some (Sum.inl ((v1,()))))else (some (Sum.inr ())))
def yDp(aP:List Int):Option (Int×Unit) :=
  (some (((0:Int),())))
theorem yCk(n:Nat)(hn:big≤n)(aP:List Int)(hx:List.length (aP) < lenMax):LeF some (yM (fun i__ e__ s__=>yE2 aP i__ e__) (fun s__=>yDp aP) 0 (aP) ()) (y6h n n aP (List.length (aP):Int) 0):=by
  refine yO (f:=some) (W:=fun k__ i__ s__=>y6h n k__ aP (List.length (aP):Int) i__) (body:=(fun i__ e__ s__=>yE2 aP i__ e__)) (fin:=(fun s__=>yDp aP)) (fun k__ i__ s__=>?_) hx () n (by unfold big at hn;unfold lenMax at hx;omega)
  show LeF _ _ (yEe n (y6h n k__) aP (List.length (aP):Int) i__)
  exact y5 (y7 fun v1=>(y5 (y6 rfl) (y6 rfl))) (yl (y6 rfl))
def y1x(l:List Int):Option (Int×Unit) :=
  (bif decide (List.length (l) < lenMax)then yM (fun i__ e__ s__=>yE2 (l) i__ e__) (fun s__=>yDp (l)) 0 (l) ()else none)
theorem yMs(l:List Int)(y:Int×Unit)(h:y1x l=some y):∃ n,yL3 n l=some y :=
  ⟨big,LeF.top (show LeF some (y1x l) (yL3 big l)from (fun (n:Nat) (hn:big≤n)=>show LeF some (y1x l) (yL3 n l)from (yK fun hx=>by apply yCk n hn;exact hx)) big (Nat.le_refl _)) h⟩
def z0p_e:Entry:={ f:=104,args:=yMx,ress:=yWC,m:=fun x=>y1x x.1 }
theorem y4M:FnOK Tryz.prog z0p_e:=yI (g:=yTd) (fn:=Tryz.f104) yD yH eNil (by kernel_rfl) (by kernel_rfl) (by kernel_rfl) (fun x y h=>let ⟨n,hn⟩:=yMs x.1 y h;⟨yLn n,iNil,(yUJ n x).trans hn⟩)
abbrev yOU:Ty:=.pair t3 (.pair t3 .unit)
abbrev yVR:Ty:=.pair t3 .unit
def yW4:G:={ T:=T,E:=[],muts:=[],fz:=[] }
def yYQ:List (List Nat):=[]
def yLy(n:Nat):Ann:={ keep:=yYQ,fuel:=n,inl:=[],deep:=0 }
def yKr(n:Nat)(a:Int)(b:Int):Option (Int×Unit) :=
  (bif IntKind.i64.wrap ((2:Int) * b)==0 then none else (bif IntKind.i64.wrap ((2:Int) * b)==0 then none else (bif decide ((IntKind.i64.wrap (IntKind.i64.wrap ((2:Int) * a)+b)).tmod (IntKind.i64.wrap ((2:Int) * b)) < 0)then some (IntKind.i64.wrap (IntKind.i64.wrap ((IntKind.i64.wrap (IntKind.i64.wrap ((2:Int) * a)+b)).tdiv (IntKind.i64.wrap ((2:Int) * b))) - (1:Int)),())else some (IntKind.i64.wrap ((IntKind.i64.wrap (IntKind.i64.wrap ((2:Int) * a)+b)).tdiv (IntKind.i64.wrap ((2:Int) * b))),()))))
theorem yTc(n:Nat)(x:yOU.den):runF yW4 (yLy n) Tryz.f107 yOU yVR x=yKr n x.1 x.2.1:=by kernel_rfl
def yGN(a:Int)(b:Int):Option (Int×Unit):=yKr 0 a b
theorem yNo(a:Int)(b:Int)(y:Int×Unit)(h:yGN a b=some y):∃ n,yKr n a b=some y:=⟨0,h⟩
def z0J_e:Entry:={ f:=107,args:=yOU,ress:=yVR,m:=fun x=>yGN x.1 x.2.1 }
theorem yUx:FnOK Tryz.prog z0J_e:=yI (g:=yW4) (fn:=Tryz.f107) yD yH eNil (by kernel_rfl) (by kernel_rfl) (by kernel_rfl) (fun x y h=>let ⟨n,hn⟩:=yNo x.1 x.2.1 y h;⟨yLy n,iNil,(yTc n x).trans hn⟩)
abbrev yQB:Ty:=.pair t3 .unit
abbrev ySD:Ty:=.pair t3 .unit
def yW8:G:={ T:=T,E:=[],muts:=[],fz:=[] }
def yYY:List (List Nat):=[]
def yLw(n:Nat):Ann:={ keep:=yYY,fuel:=n,inl:=[],deep:=0 }
def yKW(n:Nat)(n1:Int):Option (Int×Unit) :=
  some (if IntKind.i64.wrap ((0:Int) - n1) > n1 then IntKind.i64.wrap ((0:Int) - n1)else n1,())
theorem yTD(n:Nat)(x:yQB.den):runF yW8 (yLw n) Tryz.f108 yQB ySD x=yKW n x.1:=by kernel_rfl
def z06(n1:Int):(Int×Unit) :=
  (if IntKind.i64.wrap ((0:Int) - n1) > n1 then IntKind.i64.wrap ((0:Int) - n1)else n1,())
abbrev yQk (n1:Int):Option (Int×Unit):=some (z06 n1)
theorem yOd(n1:Int)(y:Int×Unit)(h:yQk n1=some y):∃ n,yKW n n1=some y :=
  ⟨0,by rw[← h];show yKW 0 n1=some (z06 n1);unfold yKW z06;first|rfl|(simp only[yJ];done)|(simp only[yJ];rfl)⟩
def z06_e:Entry:={ f:=108,args:=yQB,ress:=ySD,m:=fun x=>yQk x.1 }
theorem yBk:FnOK Tryz.prog z06_e:=yI (g:=yW8) (fn:=Tryz.f108) yD yH eNil (by kernel_rfl) (by kernel_rfl) (by kernel_rfl) (fun x y h=>let ⟨n,hn⟩:=yOd x.1 y h;⟨yLw n,iNil,(yTD n x).trans hn⟩)
abbrev yPr:Ty:=.pair t3 (.pair t3 .unit)
abbrev yWY:Ty:=.pair t3 .unit
def yV3:G:={ T:=T,E:=[],muts:=[],fz:=[] }
def yZ6:List (List Nat):=[]
def yMd(n:Nat):Ann:={ keep:=yZ6,fuel:=n,inl:=[],deep:=0 }
def yL2(n:Nat)(a:Int)(b:Int):Option (Int×Unit) :=
  (bif b==0 then none else (bif decide (IntKind.i64.wrap (IntKind.i64.wrap (a.tdiv b) * b) > a)then some (IntKind.i64.wrap (IntKind.i64.wrap (a.tdiv b) - (1:Int)),())else some (IntKind.i64.wrap (a.tdiv b),())))
theorem yUP(n:Nat)(x:yPr.den):runF yV3 (yMd n) Tryz.f112 yPr yWY x=yL2 n x.1 x.2.1:=by kernel_rfl
def yGh(a:Int)(b:Int):Option (Int×Unit):=yL2 0 a b
theorem yQK(a:Int)(b:Int)(y:Int×Unit)(h:yGh a b=some y):∃ n,yL2 n a b=some y:=⟨0,h⟩
def z0S_e:Entry:={ f:=112,args:=yPr,ress:=yWY,m:=fun x=>yGh x.1 x.2.1 }
theorem yTu:FnOK Tryz.prog z0S_e:=yI (g:=yV3) (fn:=Tryz.f112) yD yH eNil (by kernel_rfl) (by kernel_rfl) (by kernel_rfl) (fun x y h=>let ⟨n,hn⟩:=yQK x.1 x.2.1 y h;⟨yMd n,iNil,(yUP n x).trans hn⟩)
abbrev yPs:Ty:=.pair t4 (.pair t28 .unit)
abbrev yQf:Ty:=.pair t28 .unit
def yWO:G:={ T:=T,E:=[],muts:=[],fz:=[] }
def yXr:List (List Nat):=[]
def yM1(n:Nat):Ann:={ keep:=yXr,fuel:=n,inl:=[],deep:=0 }
def yLI(n:Nat)(holds:Bool)(e:Int):Option (Int×Unit) :=
  (bif holds then some (e,())else some ((0:Int),()))
theorem yWT(n:Nat)(x:yPs.den):runF yWO (yM1 n) Tryz.f113 yPs yQf x=yLI n x.1 x.2.1:=by kernel_rfl
def z14(holds:Bool)(e:Int):(Int×Unit) :=
  (bif holds then (e,())else ((0:Int),()))
abbrev yTr (holds:Bool) (e:Int):Option (Int×Unit):=some (z14 holds e)
theorem yPY(holds:Bool)(e:Int)(y:Int×Unit)(h:yTr holds e=some y):∃ n,yLI n holds e=some y :=
  ⟨0,by rw[← h];show yLI 0 holds e=some (z14 holds e);unfold yLI z14;first|rfl|(simp only[yJ];done)|(simp only[yJ];rfl)⟩
def z14_e:Entry:={ f:=113,args:=yPs,ress:=yQf,m:=fun x=>yTr x.1 x.2.1 }
theorem y5w:FnOK Tryz.prog z14_e:=yI (g:=yWO) (fn:=Tryz.f113) yD yH eNil (by kernel_rfl) (by kernel_rfl) (by kernel_rfl) (fun x y h=>let ⟨n,hn⟩:=yPY x.1 x.2.1 y h;⟨yM1 n,iNil,(yWT n x).trans hn⟩)
abbrev zF_a:Ty:=.pair t23 (.pair t177 .unit)
abbrev zF_r:Ty:=.pair t175 .unit
def zF_g:G:={ T:=T,E:=[],muts:=[5],fz:=[] }
def zF_k:List (List Nat):=[[1,5,8,9,10]]
def ySy(n:Nat):Ann:={ keep:=zF_k,fuel:=n,inl:=[],deep:=0 }
def yIU(n:Nat)(r0:((Q3)×Unit→Option (Int×Unit))→List (Q3)→Int→Int→List Int→Option (List Int×Unit))(a8:(Q3)×Unit→Option (Int×Unit))(a7:List (Q3))(af:Int)(ae:Int)(aa:List Int):Option (List Int×Unit) :=
  (bif decide (ae < af)then (Option.bind (idx a7 ae) fun v1=>(Option.bind (a8 ((v1.1,v1.2.1,()),())) fun v2=>(bif decide (aa.length+(1:Nat)≤memMax)then r0 a8 a7 af (IntKind.i64.wrap (ae+1)) (aa++[v2.1])else none)))else some (aa,()))
def y9z(n:Nat)(k:Nat)(a8:(Q3)×Unit→Option (Int×Unit))(a7:List (Q3))(af:Int)(ae:Int)(aa:List Int):Option (List Int×Unit) :=
  iter (fun r y=>yIU n (fun a8 a7 af ae aa=>r ((a8,(a7,(af,(ae,())))),((aa,()),()))) y.1.1 y.1.2.1 y.1.2.2.1 y.1.2.2.2.1 y.2.1.1) k ((a8,(a7,(af,(ae,())))),((aa,()),()))
def zF_m(n:Nat)(l:List (Q3))(of:(Q3)×Unit→Option (Int×Unit)):Option (List Int×Unit) :=
  (y9z n n (of) (l) ((↑l.length:Int)) ((0:Int)) ([]))
theorem yWy(n:Nat)(x:zF_a.den):runF zF_g (ySy n) Tryz.f115 zF_a zF_r x=zF_m n x.1 x.2.1:=by kernel_rfl
def yL9(a8:(Q3)×Unit→Option (Int×Unit))(a7:List (Q3))(ae:Int)(v1:Q3)(aa:List Int):Option ((List Int×Unit)⊕(List Int)) :=
  (Option.bind (a8 ((v1.1,v1.2.1,()),())) fun v2=>(bif decide (aa.length+(1:Nat)≤memMax)then (some (Sum.inr (aa++[v2.1])))else none))
def yQ8(a8:(Q3)×Unit→Option (Int×Unit))(a7:List (Q3))(aa:List Int):Option (List Int×Unit) :=
  (some ((aa,())))
theorem yFf(n:Nat)(hn:big≤n)(a8:(Q3)×Unit→Option (Int×Unit))(a7:List (Q3))(aa:List Int)(hx:List.length (a7) < lenMax):LeF some (yM (fun i__ e__ s__=>yL9 a8 a7 i__ e__ s__) (fun s__=>yQ8 a8 a7 s__) 0 (a7) aa) (y9z n n a8 a7 (List.length (a7):Int) 0 aa):=by
  refine yO (f:=some) (W:=fun k__ i__ s__=>y9z n k__ a8 a7 (List.length (a7):Int) i__ s__) (body:=(fun i__ e__ s__=>yL9 a8 a7 i__ e__ s__)) (fin:=(fun s__=>yQ8 a8 a7 s__)) (fun k__ i__ s__=>?_) hx aa n (by unfold big at hn;unfold lenMax at hx;omega)
  show LeF _ _ (yIU n (y9z n k__) a8 a7 (List.length (a7):Int) i__ s__)
  exact y5 (y7 fun v1=>(y7 fun v2=>(y5 (y6 rfl) yc))) (yl (y6 rfl))
def zF_M(l:List (Q3))(of:(Q3)×Unit→Option (Int×Unit)):Option (List Int×Unit) :=
  (bif decide (List.length (l) < lenMax)then yM (fun i__ e__ s__=>yL9 (of) (l) i__ e__ s__) (fun s__=>yQ8 (of) (l) s__) 0 (l) ([])else none)
theorem yUb(l:List (Q3))(of:(Q3)×Unit→Option (Int×Unit))(y:List Int×Unit)(h:zF_M l of=some y):∃ n,zF_m n l of=some y :=
  ⟨big,LeF.top (show LeF some (zF_M l of) (zF_m big l of)from (fun (n:Nat) (hn:big≤n)=>show LeF some (zF_M l of) (zF_m n l of)from (yK fun hx=>by apply yFf n hn;exact hx)) big (Nat.le_refl _)) h⟩
def zF_e:Entry:={ f:=115,args:=zF_a,ress:=zF_r,m:=fun x=>zF_M x.1 x.2.1 }
theorem yRw:FnOK Tryz.prog zF_e:=yI (g:=zF_g) (fn:=Tryz.f115) yD yH eNil (by kernel_rfl) (by kernel_rfl) (by kernel_rfl) (fun x y h=>let ⟨n,hn⟩:=yUb x.1 x.2.1 y h;⟨ySy n,iNil,(yWy n x).trans hn⟩)
abbrev yOM:Ty:=.pair t57 (.pair t57 .unit)
abbrev yTN:Ty:=.pair t57 .unit
def yRn:G:={ T:=T,E:=[],muts:=[],fz:=[] }
def yYu:List (List Nat):=[]
def yMX(n:Nat):Ann:={ keep:=yYu,fuel:=n,inl:=[],deep:=0 }
def yLG(n:Nat)(a:Q3)(b:Q3):Option ((Q3)×Unit) :=
  some ((IntKind.i64.wrap (IntKind.i64.wrap (a.1 * b.1) - IntKind.i64.wrap (a.2.1 * b.2.1)),IntKind.i64.wrap (IntKind.i64.wrap (a.1 * b.2.1)+IntKind.i64.wrap (a.2.1 * b.1)),()),())
theorem yTT(n:Nat)(x:yOM.den):runF yRn (yMX n) Tryz.f125 yOM yTN x=yLG n x.1 x.2.1:=by kernel_rfl
def z0v(a:Q3)(b:Q3):((Q3)×Unit) :=
  ((IntKind.i64.wrap (IntKind.i64.wrap (a.1 * b.1) - IntKind.i64.wrap (a.2.1 * b.2.1)),IntKind.i64.wrap (IntKind.i64.wrap (a.1 * b.2.1)+IntKind.i64.wrap (a.2.1 * b.1)),()),())
abbrev yTX (a:Q3) (b:Q3):Option ((Q3)×Unit):=some (z0v a b)
theorem yPv(a:Q3)(b:Q3)(y:(Q3)×Unit)(h:yTX a b=some y):∃ n,yLG n a b=some y :=
  ⟨0,by rw[← h];show yLG 0 a b=some (z0v a b);unfold yLG z0v;first|rfl|(simp only[yJ];done)|(simp only[yJ];rfl)⟩
def z0v_e:Entry:={ f:=125,args:=yOM,ress:=yTN,m:=fun x=>yTX x.1 x.2.1 }
theorem yDs:FnOK Tryz.prog z0v_e:=yI (g:=yRn) (fn:=Tryz.f125) yD yH eNil (by kernel_rfl) (by kernel_rfl) (by kernel_rfl) (fun x y h=>let ⟨n,hn⟩:=yPv x.1 x.2.1 y h;⟨yMX n,iNil,(yTT n x).trans hn⟩)
abbrev zx_a:Ty:=.pair t57 .unit
abbrev zx_r:Ty:=.pair t57 .unit
def zx_g:G:={ T:=T,E:=[],muts:=[],fz:=[] }
def zx_k:List (List Nat):=[]
def yVw(n:Nat):Ann:={ keep:=zx_k,fuel:=n,inl:=[],deep:=0 }
def zx_m(n:Nat)(a:Q3):Option ((Q3)×Unit) :=
  some ((a.1,IntKind.i64.wrap ((0:Int) - a.2.1),()),())
theorem yYg(n:Nat)(x:zx_a.den):runF zx_g (yVw n) Tryz.f126 zx_a zx_r x=zx_m n x.1:=by kernel_rfl
def zx(a:Q3):((Q3)×Unit) :=
  ((a.1,IntKind.i64.wrap ((0:Int) - a.2.1),()),())
abbrev zx_M (a:Q3):Option ((Q3)×Unit):=some (zx a)
theorem yVE(a:Q3)(y:(Q3)×Unit)(h:zx_M a=some y):∃ n,zx_m n a=some y :=
  ⟨0,by rw[← h];show zx_m 0 a=some (zx a);unfold zx_m zx;first|rfl|(simp only[yJ];done)|(simp only[yJ];rfl)⟩
def zx_e:Entry:={ f:=126,args:=zx_a,ress:=zx_r,m:=fun x=>zx_M x.1 }
theorem yMy:FnOK Tryz.prog zx_e:=yI (g:=zx_g) (fn:=Tryz.f126) yD yH eNil (by kernel_rfl) (by kernel_rfl) (by kernel_rfl) (fun x y h=>let ⟨n,hn⟩:=yVE x.1 y h;⟨yVw n,iNil,(yYg n x).trans hn⟩)
abbrev z7_a:Ty:=.pair t31 (.pair t192 .unit)
abbrev z7_r:Ty:=.pair t31 .unit
def z7_g:G:={ T:=T,E:=[],muts:=[5],fz:=[] }
def z7_k:List (List Nat):=[[1,5,8,9,10]]
def yVU(n:Nat):Ann:={ keep:=z7_k,fuel:=n,inl:=[],deep:=0 }
def yIq(n:Nat)(r0:((Q2)×Unit→Option ((Q2)×Unit))→List (Q2)→Int→Int→List (Q2)→Option (List (Q2)×Unit))(a8:(Q2)×Unit→Option ((Q2)×Unit))(a7:List (Q2))(af:Int)(ae:Int)(aa:List (Q2)):Option (List (Q2)×Unit) :=
  (bif decide (ae < af)then (Option.bind (idx a7 ae) fun v1=>(Option.bind (a8 ((v1.1,v1.2.1,v1.2.2.1,()),())) fun v2=>(bif decide (aa.length+(1:Nat)≤memMax)then r0 a8 a7 af (IntKind.i64.wrap (ae+1)) (aa++[v2.1])else none)))else some (aa,()))
def y9W(n:Nat)(k:Nat)(a8:(Q2)×Unit→Option ((Q2)×Unit))(a7:List (Q2))(af:Int)(ae:Int)(aa:List (Q2)):Option (List (Q2)×Unit) :=
  iter (fun r y=>yIq n (fun a8 a7 af ae aa=>r ((a8,(a7,(af,(ae,())))),((aa,()),()))) y.1.1 y.1.2.1 y.1.2.2.1 y.1.2.2.2.1 y.2.1.1) k ((a8,(a7,(af,(ae,())))),((aa,()),()))
def z7_m(n:Nat)(l:List (Q2))(of:(Q2)×Unit→Option ((Q2)×Unit)):Option (List (Q2)×Unit) :=
  (y9W n n (of) (l) ((↑l.length:Int)) ((0:Int)) ([]))
theorem yYq(n:Nat)(x:z7_a.den):runF z7_g (yVU n) Tryz.f130 z7_a z7_r x=z7_m n x.1 x.2.1:=by kernel_rfl
def yQ9(a8:(Q2)×Unit→Option ((Q2)×Unit))(a7:List (Q2))(ae:Int)(v1:Q2)(aa:List (Q2)):Option ((List (Q2)×Unit)⊕(List (Q2))) :=
  (Option.bind (a8 ((v1.1,v1.2.1,v1.2.2.1,()),())) fun v2=>(bif decide (aa.length+(1:Nat)≤memMax)then (some (Sum.inr (aa++[v2.1])))else none))
def yPq(a8:(Q2)×Unit→Option ((Q2)×Unit))(a7:List (Q2))(aa:List (Q2)):Option (List (Q2)×Unit) :=
  (some ((aa,())))
theorem yGO(n:Nat)(hn:big≤n)(a8:(Q2)×Unit→Option ((Q2)×Unit))(a7:List (Q2))(aa:List (Q2))(hx:List.length (a7) < lenMax):LeF some (yM (fun i__ e__ s__=>yQ9 a8 a7 i__ e__ s__) (fun s__=>yPq a8 a7 s__) 0 (a7) aa) (y9W n n a8 a7 (List.length (a7):Int) 0 aa):=by
  refine yO (f:=some) (W:=fun k__ i__ s__=>y9W n k__ a8 a7 (List.length (a7):Int) i__ s__) (body:=(fun i__ e__ s__=>yQ9 a8 a7 i__ e__ s__)) (fin:=(fun s__=>yPq a8 a7 s__)) (fun k__ i__ s__=>?_) hx aa n (by unfold big at hn;unfold lenMax at hx;omega)
  show LeF _ _ (yIq n (y9W n k__) a8 a7 (List.length (a7):Int) i__ s__)
  exact y5 (y7 fun v1=>(y7 fun v2=>(y5 (y6 rfl) yc))) (yl (y6 rfl))
def z7_M(l:List (Q2))(of:(Q2)×Unit→Option ((Q2)×Unit)):Option (List (Q2)×Unit) :=
  (bif decide (List.length (l) < lenMax)then yM (fun i__ e__ s__=>yQ9 (of) (l) i__ e__ s__) (fun s__=>yPq (of) (l) s__) 0 (l) ([])else none)
theorem yUw(l:List (Q2))(of:(Q2)×Unit→Option ((Q2)×Unit))(y:List (Q2)×Unit)(h:z7_M l of=some y):∃ n,z7_m n l of=some y :=
  ⟨big,LeF.top (show LeF some (z7_M l of) (z7_m big l of)from (fun (n:Nat) (hn:big≤n)=>show LeF some (z7_M l of) (z7_m n l of)from (yK fun hx=>by apply yGO n hn;exact hx)) big (Nat.le_refl _)) h⟩
def z7_e:Entry:={ f:=130,args:=z7_a,ress:=z7_r,m:=fun x=>z7_M x.1 x.2.1 }
theorem yXq:FnOK Tryz.prog z7_e:=yI (g:=z7_g) (fn:=Tryz.f130) yD yH eNil (by kernel_rfl) (by kernel_rfl) (by kernel_rfl) (fun x y h=>let ⟨n,hn⟩:=yUw x.1 x.2.1 y h;⟨yVU n,iNil,(yYq n x).trans hn⟩)
abbrev zG_a:Ty:=.pair t23 (.pair t129 .unit)
abbrev zG_r:Ty:=.pair t23 .unit
def zG_g:G:={ T:=T,E:=[],muts:=[5],fz:=[] }
def zG_k:List (List Nat):=[[1,5,8,9,10]]
def yWJ(n:Nat):Ann:={ keep:=zG_k,fuel:=n,inl:=[],deep:=0 }
def yIr(n:Nat)(r0:((Q3)×Unit→Option ((Q3)×Unit))→List (Q3)→Int→Int→List (Q3)→Option (List (Q3)×Unit))(a8:(Q3)×Unit→Option ((Q3)×Unit))(a7:List (Q3))(af:Int)(ae:Int)(aa:List (Q3)):Option (List (Q3)×Unit) :=
  (bif decide (ae < af)then (Option.bind (idx a7 ae) fun v1=>(Option.bind (a8 ((v1.1,v1.2.1,()),())) fun v2=>(bif decide (aa.length+(1:Nat)≤memMax)then r0 a8 a7 af (IntKind.i64.wrap (ae+1)) (aa++[v2.1])else none)))else some (aa,()))
def yAK(n:Nat)(k:Nat)(a8:(Q3)×Unit→Option ((Q3)×Unit))(a7:List (Q3))(af:Int)(ae:Int)(aa:List (Q3)):Option (List (Q3)×Unit) :=
  iter (fun r y=>yIr n (fun a8 a7 af ae aa=>r ((a8,(a7,(af,(ae,())))),((aa,()),()))) y.1.1 y.1.2.1 y.1.2.2.1 y.1.2.2.2.1 y.2.1.1) k ((a8,(a7,(af,(ae,())))),((aa,()),()))
def zG_m(n:Nat)(l:List (Q3))(of:(Q3)×Unit→Option ((Q3)×Unit)):Option (List (Q3)×Unit) :=
  (yAK n n (of) (l) ((↑l.length:Int)) ((0:Int)) ([]))
theorem yXz(n:Nat)(x:zG_a.den):runF zG_g (yWJ n) Tryz.f132 zG_a zG_r x=zG_m n x.1 x.2.1:=by kernel_rfl
def yNd(a8:(Q3)×Unit→Option ((Q3)×Unit))(a7:List (Q3))(ae:Int)(v1:Q3)(aa:List (Q3)):Option ((List (Q3)×Unit)⊕(List (Q3))) :=
  (Option.bind (a8 ((v1.1,v1.2.1,()),())) fun v2=>(bif decide (aa.length+(1:Nat)≤memMax)then (some (Sum.inr (aa++[v2.1])))else none))
def yMz(a8:(Q3)×Unit→Option ((Q3)×Unit))(a7:List (Q3))(aa:List (Q3)):Option (List (Q3)×Unit) :=
  (some ((aa,())))
theorem yFL(n:Nat)(hn:big≤n)(a8:(Q3)×Unit→Option ((Q3)×Unit))(a7:List (Q3))(aa:List (Q3))(hx:List.length (a7) < lenMax):LeF some (yM (fun i__ e__ s__=>yNd a8 a7 i__ e__ s__) (fun s__=>yMz a8 a7 s__) 0 (a7) aa) (yAK n n a8 a7 (List.length (a7):Int) 0 aa):=by
  refine yO (f:=some) (W:=fun k__ i__ s__=>yAK n k__ a8 a7 (List.length (a7):Int) i__ s__) (body:=(fun i__ e__ s__=>yNd a8 a7 i__ e__ s__)) (fin:=(fun s__=>yMz a8 a7 s__)) (fun k__ i__ s__=>?_) hx aa n (by unfold big at hn;unfold lenMax at hx;omega)
  show LeF _ _ (yIr n (yAK n k__) a8 a7 (List.length (a7):Int) i__ s__)
  exact y5 (y7 fun v1=>(y7 fun v2=>(y5 (y6 rfl) yc))) (yl (y6 rfl))
def zG_M(l:List (Q3))(of:(Q3)×Unit→Option ((Q3)×Unit)):Option (List (Q3)×Unit) :=
  (bif decide (List.length (l) < lenMax)then yM (fun i__ e__ s__=>yNd (of) (l) i__ e__ s__) (fun s__=>yMz (of) (l) s__) 0 (l) ([])else none)
theorem yUc(l:List (Q3))(of:(Q3)×Unit→Option ((Q3)×Unit))(y:List (Q3)×Unit)(h:zG_M l of=some y):∃ n,zG_m n l of=some y :=
  ⟨big,LeF.top (show LeF some (zG_M l of) (zG_m big l of)from (fun (n:Nat) (hn:big≤n)=>show LeF some (zG_M l of) (zG_m n l of)from (yK fun hx=>by apply yFL n hn;exact hx)) big (Nat.le_refl _)) h⟩
def zG_e:Entry:={ f:=132,args:=zG_a,ress:=zG_r,m:=fun x=>zG_M x.1 x.2.1 }
theorem yYl:FnOK Tryz.prog zG_e:=yI (g:=zG_g) (fn:=Tryz.f132) yD yH eNil (by kernel_rfl) (by kernel_rfl) (by kernel_rfl) (fun x y h=>let ⟨n,hn⟩:=yUc x.1 x.2.1 y h;⟨yWJ n,iNil,(yXz n x).trans hn⟩)
abbrev yOF:Ty:=.pair t57 (.pair t3 .unit)
abbrev yWR:Ty:=.pair t57 .unit
def yTx:G:={ T:=T,E:=[],muts:=[],fz:=[] }
def yYd:List (List Nat):=[]
def yM8(n:Nat):Ann:={ keep:=yYd,fuel:=n,inl:=[],deep:=0 }
def yKb(n:Nat)(a:Q3)(n1:Int):Option ((Q3)×Unit) :=
  some ((IntKind.i64.wrap (n1 * a.1),IntKind.i64.wrap (n1 * a.2.1),()),())
theorem yTI(n:Nat)(x:yOF.den):runF yTx (yM8 n) Tryz.f134 yOF yWR x=yKb n x.1 x.2.1:=by kernel_rfl
def z0a(a:Q3)(n1:Int):((Q3)×Unit) :=
  ((IntKind.i64.wrap (n1 * a.1),IntKind.i64.wrap (n1 * a.2.1),()),())
abbrev yQe (a:Q3) (n1:Int):Option ((Q3)×Unit):=some (z0a a n1)
theorem yPa(a:Q3)(n1:Int)(y:(Q3)×Unit)(h:yQe a n1=some y):∃ n,yKb n a n1=some y :=
  ⟨0,by rw[← h];show yKb 0 a n1=some (z0a a n1);unfold yKb z0a;first|rfl|(simp only[yJ];done)|(simp only[yJ];rfl)⟩
def z0a_e:Entry:={ f:=134,args:=yOF,ress:=yWR,m:=fun x=>yQe x.1 x.2.1 }
theorem yI6:FnOK Tryz.prog z0a_e:=yI (g:=yTx) (fn:=Tryz.f134) yD yH eNil (by kernel_rfl) (by kernel_rfl) (by kernel_rfl) (fun x y h=>let ⟨n,hn⟩:=yPa x.1 x.2.1 y h;⟨yM8 n,iNil,(yTI n x).trans hn⟩)
abbrev yMt:Ty:=.pair t57 (.pair t57 .unit)
abbrev yU3:Ty:=.pair t57 .unit
def yVX:G:={ T:=T,E:=[],muts:=[],fz:=[] }
def yYI:List (List Nat):=[]
def yMp(n:Nat):Ann:={ keep:=yYI,fuel:=n,inl:=[],deep:=0 }
def yKp(n:Nat)(a:Q3)(b:Q3):Option ((Q3)×Unit) :=
  some ((IntKind.i64.wrap (a.1+b.1),IntKind.i64.wrap (a.2.1+b.2.1),()),())
theorem yS5(n:Nat)(x:yMt.den):runF yVX (yMp n) Tryz.f135 yMt yU3 x=yKp n x.1 x.2.1:=by kernel_rfl
def z13(a:Q3)(b:Q3):((Q3)×Unit) :=
  ((IntKind.i64.wrap (a.1+b.1),IntKind.i64.wrap (a.2.1+b.2.1),()),())
abbrev yRW (a:Q3) (b:Q3):Option ((Q3)×Unit):=some (z13 a b)
theorem yNz(a:Q3)(b:Q3)(y:(Q3)×Unit)(h:yRW a b=some y):∃ n,yKp n a b=some y :=
  ⟨0,by rw[← h];show yKp 0 a b=some (z13 a b);unfold yKp z13;first|rfl|(simp only[yJ];done)|(simp only[yJ];rfl)⟩
def z13_e:Entry:={ f:=135,args:=yMt,ress:=yU3,m:=fun x=>yRW x.1 x.2.1 }
theorem yEs:FnOK Tryz.prog z13_e:=yI (g:=yVX) (fn:=Tryz.f135) yD yH eNil (by kernel_rfl) (by kernel_rfl) (by kernel_rfl) (fun x y h=>let ⟨n,hn⟩:=yNz x.1 x.2.1 y h;⟨yMp n,iNil,(yS5 n x).trans hn⟩)
abbrev zH_a:Ty:=.pair t23 (.pair t196 .unit)
abbrev zH_r:Ty:=.pair t79 .unit
def zH_g:G:={ T:=T,E:=[],muts:=[5],fz:=[] }
def zH_k:List (List Nat):=[[1,5,8,9,10]]
def yUQ(n:Nat):Ann:={ keep:=zH_k,fuel:=n,inl:=[],deep:=0 }
def yJS(n:Nat)(r0:((Q3)×Unit→Option ((Nat×Nat)×Unit))→List (Q3)→Int→Int→List (Nat×Nat)→Option (List (Nat×Nat)×Unit))(a8:(Q3)×Unit→Option ((Nat×Nat)×Unit))(a7:List (Q3))(af:Int)(ae:Int)(aa:List (Nat×Nat)):Option (List (Nat×Nat)×Unit) :=
  (bif decide (ae < af)then (Option.bind (idx a7 ae) fun v1=>(Option.bind (a8 ((v1.1,v1.2.1,()),())) fun v2=>(bif decide (aa.length+(1:Nat)≤memMax)then r0 a8 a7 af (IntKind.i64.wrap (ae+1)) (aa++[v2.1])else none)))else some (aa,()))
def yA9(n:Nat)(k:Nat)(a8:(Q3)×Unit→Option ((Nat×Nat)×Unit))(a7:List (Q3))(af:Int)(ae:Int)(aa:List (Nat×Nat)):Option (List (Nat×Nat)×Unit) :=
  iter (fun r y=>yJS n (fun a8 a7 af ae aa=>r ((a8,(a7,(af,(ae,())))),((aa,()),()))) y.1.1 y.1.2.1 y.1.2.2.1 y.1.2.2.2.1 y.2.1.1) k ((a8,(a7,(af,(ae,())))),((aa,()),()))
def zH_m(n:Nat)(l:List (Q3))(of:(Q3)×Unit→Option ((Nat×Nat)×Unit)):Option (List (Nat×Nat)×Unit) :=
  (yA9 n n (of) (l) ((↑l.length:Int)) ((0:Int)) ([]))
theorem yWq(n:Nat)(x:zH_a.den):runF zH_g (yUQ n) Tryz.f139 zH_a zH_r x=zH_m n x.1 x.2.1:=by kernel_rfl
def yNA(a8:(Q3)×Unit→Option ((Nat×Nat)×Unit))(a7:List (Q3))(ae:Int)(v1:Q3)(aa:List (Nat×Nat)):Option ((List (Nat×Nat)×Unit)⊕(List (Nat×Nat))) :=
  (Option.bind (a8 ((v1.1,v1.2.1,()),())) fun v2=>(bif decide (aa.length+(1:Nat)≤memMax)then (some (Sum.inr (aa++[v2.1])))else none))
def yP8(a8:(Q3)×Unit→Option ((Nat×Nat)×Unit))(a7:List (Q3))(aa:List (Nat×Nat)):Option (List (Nat×Nat)×Unit) :=
  (some ((aa,())))
theorem yFc(n:Nat)(hn:big≤n)(a8:(Q3)×Unit→Option ((Nat×Nat)×Unit))(a7:List (Q3))(aa:List (Nat×Nat))(hx:List.length (a7) < lenMax):LeF some (yM (fun i__ e__ s__=>yNA a8 a7 i__ e__ s__) (fun s__=>yP8 a8 a7 s__) 0 (a7) aa) (yA9 n n a8 a7 (List.length (a7):Int) 0 aa):=by
  refine yO (f:=some) (W:=fun k__ i__ s__=>yA9 n k__ a8 a7 (List.length (a7):Int) i__ s__) (body:=(fun i__ e__ s__=>yNA a8 a7 i__ e__ s__)) (fin:=(fun s__=>yP8 a8 a7 s__)) (fun k__ i__ s__=>?_) hx aa n (by unfold big at hn;unfold lenMax at hx;omega)
  show LeF _ _ (yJS n (yA9 n k__) a8 a7 (List.length (a7):Int) i__ s__)
  exact y5 (y7 fun v1=>(y7 fun v2=>(y5 (y6 rfl) yc))) (yl (y6 rfl))
def zH_M(l:List (Q3))(of:(Q3)×Unit→Option ((Nat×Nat)×Unit)):Option (List (Nat×Nat)×Unit) :=
  (bif decide (List.length (l) < lenMax)then yM (fun i__ e__ s__=>yNA (of) (l) i__ e__ s__) (fun s__=>yP8 (of) (l) s__) 0 (l) ([])else none)
theorem yTM(l:List (Q3))(of:(Q3)×Unit→Option ((Nat×Nat)×Unit))(y:List (Nat×Nat)×Unit)(h:zH_M l of=some y):∃ n,zH_m n l of=some y :=
  ⟨big,LeF.top (show LeF some (zH_M l of) (zH_m big l of)from (fun (n:Nat) (hn:big≤n)=>show LeF some (zH_M l of) (zH_m n l of)from (yK fun hx=>by apply yFc n hn;exact hx)) big (Nat.le_refl _)) h⟩
def zH_e:Entry:={ f:=139,args:=zH_a,ress:=zH_r,m:=fun x=>zH_M x.1 x.2.1 }
theorem yXa:FnOK Tryz.prog zH_e:=yI (g:=zH_g) (fn:=Tryz.f139) yD yH eNil (by kernel_rfl) (by kernel_rfl) (by kernel_rfl) (fun x y h=>let ⟨n,hn⟩:=yTM x.1 x.2.1 y h;⟨yUQ n,iNil,(yWq n x).trans hn⟩)
abbrev yPd:Ty:=.pair t57 (.pair (.ref t165) .unit)
abbrev ySJ:Ty:=.pair t165 .unit
def yTw:G:={ T:=T,E:=[],muts:=[],fz:=[] }
def yXn:List (List Nat):=[]
def yMi(n:Nat):Ann:={ keep:=yXn,fuel:=n,inl:=[],deep:=0 }
def yKZ(n:Nat)(z:Q3)(p1:Nat×Nat):Option ((Nat×Nat)×Unit) :=
  some ((y0H Go.BinOp.quo Go.FloatKind.f32 (y0U Go.FloatKind.f32 z.1) p1.1,y0H Go.BinOp.quo Go.FloatKind.f32 (y0U Go.FloatKind.f32 z.2.1) p1.1),())
theorem yS1(n:Nat)(x:yPd.den):runF yTw (yMi n) Tryz.f140 yPd ySJ x=yKZ n x.1 x.2.1:=by kernel_rfl
def z0X(z:Q3)(p1:Nat×Nat):((Nat×Nat)×Unit) :=
  ((y0H Go.BinOp.quo Go.FloatKind.f32 (y0U Go.FloatKind.f32 z.1) p1.1,y0H Go.BinOp.quo Go.FloatKind.f32 (y0U Go.FloatKind.f32 z.2.1) p1.1),())
abbrev yOe (z:Q3) (p1:Nat×Nat):Option ((Nat×Nat)×Unit):=some (z0X z p1)
theorem yOG(z:Q3)(p1:Nat×Nat)(y:(Nat×Nat)×Unit)(h:yOe z p1=some y):∃ n,yKZ n z p1=some y :=
  ⟨0,by rw[← h];show yKZ 0 z p1=some (z0X z p1);unfold yKZ z0X;first|rfl|(simp only[yJ];done)|(simp only[yJ];rfl)⟩
def z0X_e:Entry:={ f:=140,args:=yPd,ress:=ySJ,m:=fun x=>yOe x.1 x.2.1 }
theorem yVM:FnOK Tryz.prog z0X_e:=yI (g:=yTw) (fn:=Tryz.f140) yD yH eNil (by kernel_rfl) (by kernel_rfl) (by kernel_rfl) (fun x y h=>let ⟨n,hn⟩:=yOG x.1 x.2.1 y h;⟨yMi n,iNil,(yS1 n x).trans hn⟩)
def il124:Inl:={ f:=124,fn:=Tryz.f124,keep:=[],muts:=[],fz:=[] }
theorem y4w:y6B Tryz.prog il124:=⟨by kernel_rfl,by kernel_rfl,fun e0 h=>by cases (show (none:Option LibK)=some e0 from h)⟩
def il195:Inl:={ f:=195,fn:=Tryz.f195,keep:=[[0,1,3,9,10,11],[0,1,3,4,5,9,10,11]],muts:=[],fz:=[] }
theorem y55:y6B Tryz.prog il195:=⟨by kernel_rfl,by kernel_rfl,fun e0 h=>by cases (show (none:Option LibK)=some e0 from h)⟩
abbrev yOm:Ty:=.pair t60 .unit
abbrev ySG:Ty:=.pair t41 .unit
def yQx:G:={ T:=T,E:=[],muts:=[3],fz:=[] }
def yXD:List (List Nat):=[]
def yMY(n:Nat):Ann:={ keep:=yXD,fuel:=n,inl:=[il124,il195],deep:=3 }
def y7p(n:Nat)(r0:List UInt8×Int×List Nat×List (Q3)×Unit→List (Q3)→List Nat→Int→Int→List UInt8×Int×List Nat×List (Q3)×Unit→List UInt8×Int×List Nat×List (Q3)×Unit→List UInt8×Int×List Nat×List (Q3)×Unit→List UInt8×Int×List Nat×List (Q3)×Unit→List Int→List UInt8×Int×List Nat×List (Q3)×Unit→List UInt8×Int×List Nat×List (Q3)×Unit→List UInt8×Int×List Nat×List (Q3)×Unit→List UInt8×Int×List Nat×List (Q3)×Unit→Option (List Int×Unit))(j8:List UInt8×Int×List Nat×List (Q3)×Unit)(j9:List (Q3))(j10:Int)(j11:Nat)(j12:List Nat)(j13:Int)(j14:Int)(j15:List UInt8×Int×List Nat×List (Q3)×Unit)(j16:List UInt8×Int×List Nat×List (Q3)×Unit)(j17:List UInt8×Int×List Nat×List (Q3)×Unit)(j18:List UInt8×Int×List Nat×List (Q3)×Unit)(j19:List Int)(j20:List UInt8×Int×List Nat×List (Q3)×Unit)(j21:List UInt8×Int×List Nat×List (Q3)×Unit)(j22:List UInt8×Int×List Nat×List (Q3)×Unit)(j23:List UInt8×Int×List Nat×List (Q3)×Unit):Option (List Int×Unit) :=
  (bif decide ((↑j9.length:Int) > 0)then (Option.bind (idx j9 (0:Int)) fun v24=>(bif decide (v24.1≤j10)then r0 j8 j9 j12 j13 (IntKind.i64.wrap (j14+1)) j15 j16 j17 j18 j19 j20 j21 j22 j23 else (Option.bind (yp Go.FloatKind.f32 (y0H Go.BinOp.mul Go.FloatKind.f32 j11 (nat_lit 1098907648)) IntKind.i64) fun v29=>(bif decide (j19.length+(1:Nat)≤memMax)then r0 j8 j9 j12 j13 (IntKind.i64.wrap (j14+1)) j15 j16 j17 j18 (j19++[IntKind.i64.wrap (j8.2.1+j10)]) j20 j21 j22 j23 else none))))else (Option.bind (yp Go.FloatKind.f32 (y0H Go.BinOp.mul Go.FloatKind.f32 j11 (nat_lit 1098907648)) IntKind.i64) fun v30=>(bif decide (j19.length+(1:Nat)≤memMax)then r0 j8 j9 j12 j13 (IntKind.i64.wrap (j14+1)) j15 j16 j17 j18 (j19++[IntKind.i64.wrap (j8.2.1+j10)]) j20 j21 j22 j23 else none)))
def yER(n:Nat)(r0:List UInt8×Int×List Nat×List (Q3)×Unit→List (Q3)→List Nat→Int→Int→List UInt8×Int×List Nat×List (Q3)×Unit→List UInt8×Int×List Nat×List (Q3)×Unit→List UInt8×Int×List Nat×List (Q3)×Unit→List UInt8×Int×List Nat×List (Q3)×Unit→List Int→List UInt8×Int×List Nat×List (Q3)×Unit→List UInt8×Int×List Nat×List (Q3)×Unit→List UInt8×Int×List Nat×List (Q3)×Unit→List UInt8×Int×List Nat×List (Q3)×Unit→Option (List Int×Unit))(r2:List UInt8×Int×List Nat×List (Q3)×Unit→List (Q3)→Int→Nat→List Nat→Int→Int→List UInt8×Int×List Nat×List (Q3)×Unit→List UInt8×Int×List Nat×List (Q3)×Unit→List UInt8×Int×List Nat×List (Q3)×Unit→List UInt8×Int×List Nat×List (Q3)×Unit→List Int→List UInt8×Int×List Nat×List (Q3)×Unit→List UInt8×Int×List Nat×List (Q3)×Unit→List UInt8×Int×List Nat×List (Q3)×Unit→List UInt8×Int×List Nat×List (Q3)×Unit→Option (List Int×Unit))(aE:List UInt8×Int×List Nat×List (Q3)×Unit)(ac:List (Q3))(aF:Int)(aJ:Nat)(ax:List Nat)(aq:Int)(ar:Int)(p0_0_2:List UInt8×Int×List Nat×List (Q3)×Unit)(p0_1_2:List UInt8×Int×List Nat×List (Q3)×Unit)(p0_5_2:List UInt8×Int×List Nat×List (Q3)×Unit)(p0_6_2_0:List UInt8×Int×List Nat×List (Q3)×Unit)(bi:List Int)(aG:List UInt8×Int×List Nat×List (Q3)×Unit)(aH:List UInt8×Int×List Nat×List (Q3)×Unit)(aS:List UInt8×Int×List Nat×List (Q3)×Unit)(k6_2_0:List UInt8×Int×List Nat×List (Q3)×Unit):Option (List Int×Unit) :=
  (bif decide ((↑ac.length:Int) > 0)then (Option.bind (idx ac (0:Int)) fun v3=>(bif decide (v3.2.1≤aF)then (bif decide ((0:Int)≤1) && decide ((1:Int)≤(↑ac.length:Int))then r2 aE (List.drop (Int.toNat (1:Int)) ac) aF aJ ax aq ar p0_0_2 p0_1_2 p0_5_2 p0_6_2_0 bi aG aH aS k6_2_0 else none)else (y7p n r0 (aE) (ac) (aF) (aJ) (ax) (aq) (ar) (p0_0_2) (p0_1_2) (p0_5_2) (p0_6_2_0) (bi) (aG) (aH) (aS) (k6_2_0))))else (y7p n r0 (aE) (ac) (aF) (aJ) (ax) (aq) (ar) (p0_0_2) (p0_1_2) (p0_5_2) (p0_6_2_0) (bi) (aG) (aH) (aS) (k6_2_0)))
def y6M(n:Nat)(r0:List UInt8×Int×List Nat×List (Q3)×Unit→List (Q3)→List Nat→Int→Int→List UInt8×Int×List Nat×List (Q3)×Unit→List UInt8×Int×List Nat×List (Q3)×Unit→List UInt8×Int×List Nat×List (Q3)×Unit→List UInt8×Int×List Nat×List (Q3)×Unit→List Int→List UInt8×Int×List Nat×List (Q3)×Unit→List UInt8×Int×List Nat×List (Q3)×Unit→List UInt8×Int×List Nat×List (Q3)×Unit→List UInt8×Int×List Nat×List (Q3)×Unit→Option (List Int×Unit))(k:Nat)(aE:List UInt8×Int×List Nat×List (Q3)×Unit)(ac:List (Q3))(aF:Int)(aJ:Nat)(ax:List Nat)(aq:Int)(ar:Int)(p0_0_2:List UInt8×Int×List Nat×List (Q3)×Unit)(p0_1_2:List UInt8×Int×List Nat×List (Q3)×Unit)(p0_5_2:List UInt8×Int×List Nat×List (Q3)×Unit)(p0_6_2_0:List UInt8×Int×List Nat×List (Q3)×Unit)(bi:List Int)(aG:List UInt8×Int×List Nat×List (Q3)×Unit)(aH:List UInt8×Int×List Nat×List (Q3)×Unit)(aS:List UInt8×Int×List Nat×List (Q3)×Unit)(k6_2_0:List UInt8×Int×List Nat×List (Q3)×Unit):Option (List Int×Unit) :=
  iter (fun r y=>yER n r0 (fun aE ac aF aJ ax aq ar p0_0_2 p0_1_2 p0_5_2 p0_6_2_0 bi aG aH aS k6_2_0=>r ((aE,(ac,(aF,(aJ,(ax,(aq,(ar,()))))))),(((p0_0_2,(p0_1_2,(p0_5_2,((p0_6_2_0,()),())))),((),(bi,()))),(aG,(aH,(aS,((k6_2_0,()),()))))))) y.1.1 y.1.2.1 y.1.2.2.1 y.1.2.2.2.1 y.1.2.2.2.2.1 y.1.2.2.2.2.2.1 y.1.2.2.2.2.2.2.1 y.2.1.1.1 y.2.1.1.2.1 y.2.1.1.2.2.1 y.2.1.1.2.2.2.1.1 y.2.1.2.2.1 y.2.2.1 y.2.2.2.1 y.2.2.2.2.1 y.2.2.2.2.2.1.1) k ((aE,(ac,(aF,(aJ,(ax,(aq,(ar,()))))))),(((p0_0_2,(p0_1_2,(p0_5_2,((p0_6_2_0,()),())))),((),(bi,()))),(aG,(aH,(aS,((k6_2_0,()),()))))))
def yEk(n:Nat)(r0:List UInt8×Int×List Nat×List (Q3)×Unit→List (Q3)→List Nat→Int→Int→List UInt8×Int×List Nat×List (Q3)×Unit→List UInt8×Int×List Nat×List (Q3)×Unit→List UInt8×Int×List Nat×List (Q3)×Unit→List UInt8×Int×List Nat×List (Q3)×Unit→List Int→List UInt8×Int×List Nat×List (Q3)×Unit→List UInt8×Int×List Nat×List (Q3)×Unit→List UInt8×Int×List Nat×List (Q3)×Unit→List UInt8×Int×List Nat×List (Q3)×Unit→Option (List Int×Unit))(aB:List UInt8×Int×List Nat×List (Q3)×Unit)(aj:List (Q3))(af:List Nat)(ae:Int)(am:Int)(p0_0_0:List UInt8×Int×List Nat×List (Q3)×Unit)(p0_1_0:List UInt8×Int×List Nat×List (Q3)×Unit)(p0_5_0:List UInt8×Int×List Nat×List (Q3)×Unit)(p0_6_0_0:List UInt8×Int×List Nat×List (Q3)×Unit)(bt:List Int)(aK:List UInt8×Int×List Nat×List (Q3)×Unit)(aL:List UInt8×Int×List Nat×List (Q3)×Unit)(aQ:List UInt8×Int×List Nat×List (Q3)×Unit)(k6_0_0:List UInt8×Int×List Nat×List (Q3)×Unit):Option (List Int×Unit) :=
  (bif decide (am < ae)then (Option.bind (idx af am) fun v1=>(y6M n r0 n (aB) (aj) (am) (v1) (af) (ae) (am) (p0_0_0) (p0_1_0) (p0_5_0) (p0_6_0_0) (bt) (aK) (aL) (aQ) (k6_0_0)))else some (bt,()))
def y6j(n:Nat)(k:Nat)(aB:List UInt8×Int×List Nat×List (Q3)×Unit)(aj:List (Q3))(af:List Nat)(ae:Int)(am:Int)(p0_0_0:List UInt8×Int×List Nat×List (Q3)×Unit)(p0_1_0:List UInt8×Int×List Nat×List (Q3)×Unit)(p0_5_0:List UInt8×Int×List Nat×List (Q3)×Unit)(p0_6_0_0:List UInt8×Int×List Nat×List (Q3)×Unit)(bt:List Int)(aK:List UInt8×Int×List Nat×List (Q3)×Unit)(aL:List UInt8×Int×List Nat×List (Q3)×Unit)(aQ:List UInt8×Int×List Nat×List (Q3)×Unit)(k6_0_0:List UInt8×Int×List Nat×List (Q3)×Unit):Option (List Int×Unit) :=
  iter (fun r y=>yEk n (fun aB aj af ae am p0_0_0 p0_1_0 p0_5_0 p0_6_0_0 bt aK aL aQ k6_0_0=>r ((aB,(aj,(af,(ae,(am,()))))),(((p0_0_0,(p0_1_0,(p0_5_0,((p0_6_0_0,()),())))),((),(bt,()))),(aK,(aL,(aQ,((k6_0_0,()),()))))))) y.1.1 y.1.2.1 y.1.2.2.1 y.1.2.2.2.1 y.1.2.2.2.2.1 y.2.1.1.1 y.2.1.1.2.1 y.2.1.1.2.2.1 y.2.1.1.2.2.2.1.1 y.2.1.2.2.1 y.2.2.1 y.2.2.2.1 y.2.2.2.2.1 y.2.2.2.2.2.1.1) k ((aB,(aj,(af,(ae,(am,()))))),(((p0_0_0,(p0_1_0,(p0_5_0,((p0_6_0_0,()),())))),((),(bt,()))),(aK,(aL,(aQ,((k6_0_0,()),()))))))
def yKk(n:Nat)(r1:List UInt8×Int×List Nat×List (Q3)×Unit):Option (List Int×Unit) :=
  (y6j n n (r1) (r1.2.2.2.1) (r1.2.2.1) ((↑r1.2.2.1.length:Int)) ((0:Int)) (r1) (r1) (r1) (r1) ([]) (r1) (r1) (r1) (r1))
theorem yQl(n:Nat)(x:yOm.den):runF yQx (yMY n) Tryz.f147 yOm ySG x=yKk n x.1:=by kernel_rfl
def yCC(j8:List UInt8×Int×List Nat×List (Q3)×Unit)(j9:List (Q3))(j10:Int)(j11:Nat)(j12:List Nat)(j13:Int)(j14:Int)(j15:List UInt8×Int×List Nat×List (Q3)×Unit)(j16:List UInt8×Int×List Nat×List (Q3)×Unit)(j17:List UInt8×Int×List Nat×List (Q3)×Unit)(j18:List UInt8×Int×List Nat×List (Q3)×Unit)(j19:List Int)(j20:List UInt8×Int×List Nat×List (Q3)×Unit)(j21:List UInt8×Int×List Nat×List (Q3)×Unit)(j22:List UInt8×Int×List Nat×List (Q3)×Unit)(j23:List UInt8×Int×List Nat×List (Q3)×Unit):Option ((List Int×Unit)⊕((List (Q3))×List Int)) :=
  (bif decide ((↑j9.length:Int) > 0)then (Option.bind (idx j9 (0:Int)) fun v24=>(bif decide (v24.1≤j10)then (some (Sum.inr ((j9),(j19))))else (Option.bind (yp Go.FloatKind.f32 (y0H Go.BinOp.mul Go.FloatKind.f32 j11 (nat_lit 1098907648)) IntKind.i64) fun v29=>(bif decide (j19.length+(1:Nat)≤memMax)then (some (Sum.inr ((j9),(j19++[IntKind.i64.wrap (j8.2.1+j10)]))))else none))))else (Option.bind (yp Go.FloatKind.f32 (y0H Go.BinOp.mul Go.FloatKind.f32 j11 (nat_lit 1098907648)) IntKind.i64) fun v30=>(bif decide (j19.length+(1:Nat)≤memMax)then (some (Sum.inr ((j9),(j19++[IntKind.i64.wrap (j8.2.1+j10)]))))else none)))
theorem y2Y(n:Nat)(hn:big≤n)(r0:List UInt8×Int×List Nat×List (Q3)×Unit→List (Q3)→List Nat→Int→Int→List UInt8×Int×List Nat×List (Q3)×Unit→List UInt8×Int×List Nat×List (Q3)×Unit→List UInt8×Int×List Nat×List (Q3)×Unit→List UInt8×Int×List Nat×List (Q3)×Unit→List Int→List UInt8×Int×List Nat×List (Q3)×Unit→List UInt8×Int×List Nat×List (Q3)×Unit→List UInt8×Int×List Nat×List (Q3)×Unit→List UInt8×Int×List Nat×List (Q3)×Unit→Option (List Int×Unit))(j8:List UInt8×Int×List Nat×List (Q3)×Unit)(j9:List (Q3))(j10:Int)(j11:Nat)(j12:List Nat)(j13:Int)(j14:Int)(j15:List UInt8×Int×List Nat×List (Q3)×Unit)(j16:List UInt8×Int×List Nat×List (Q3)×Unit)(j17:List UInt8×Int×List Nat×List (Q3)×Unit)(j18:List UInt8×Int×List Nat×List (Q3)×Unit)(j19:List Int)(j20:List UInt8×Int×List Nat×List (Q3)×Unit)(j21:List UInt8×Int×List Nat×List (Q3)×Unit)(j22:List UInt8×Int×List Nat×List (Q3)×Unit)(j23:List UInt8×Int×List Nat×List (Q3)×Unit):LeF (elim some fun (s__:((List (Q3))×List Int))=>r0 j8 s__.1 j12 j13 (IntKind.i64.wrap (j14+1)) j15 j16 j17 j18 s__.2 j20 j21 j22 j23) (yCC j8 j9 j10 j11 j12 j13 j14 j15 j16 j17 j18 j19 j20 j21 j22 j23) (y7p n r0 j8 j9 j10 j11 j12 j13 j14 j15 j16 j17 j18 j19 j20 j21 j22 j23) :=
  (y5 (y7 fun v24=>(y5 (y6 rfl) (y7 fun v29=>(y5 (y6 rfl) yc)))) (y7 fun v30=>(y5 (y6 rfl) yc)))
def yIW(aE:List UInt8×Int×List Nat×List (Q3)×Unit)(aF:Int)(aJ:Nat)(ax:List Nat)(aq:Int)(ar:Int)(p0_0_2:List UInt8×Int×List Nat×List (Q3)×Unit)(p0_1_2:List UInt8×Int×List Nat×List (Q3)×Unit)(p0_5_2:List UInt8×Int×List Nat×List (Q3)×Unit)(p0_6_2_0:List UInt8×Int×List Nat×List (Q3)×Unit)(bi:List Int)(aG:List UInt8×Int×List Nat×List (Q3)×Unit)(aH:List UInt8×Int×List Nat×List (Q3)×Unit)(aS:List UInt8×Int×List Nat×List (Q3)×Unit)(k6_2_0:List UInt8×Int×List Nat×List (Q3)×Unit)(ac:List (Q3)):Option (((List Int×Unit)⊕((List (Q3))×List Int))⊕(List (Q3))) :=
  (bif decide ((↑ac.length:Int) > 0)then (Option.bind (idx ac (0:Int)) fun v3=>(bif decide (v3.2.1≤aF)then (bif decide ((0:Int)≤1) && decide ((1:Int)≤(↑ac.length:Int))then (some (Sum.inr (List.drop (Int.toNat (1:Int)) ac)))else none)else (Option.map Sum.inl (yCC (aE) (ac) (aF) (aJ) (ax) (aq) (ar) (p0_0_2) (p0_1_2) (p0_5_2) (p0_6_2_0) (bi) (aG) (aH) (aS) (k6_2_0)))))else (Option.map Sum.inl (yCC (aE) (ac) (aF) (aJ) (ax) (aq) (ar) (p0_0_2) (p0_1_2) (p0_5_2) (p0_6_2_0) (bi) (aG) (aH) (aS) (k6_2_0))))
theorem yDg(n:Nat)(hn:big≤n)(r0:List UInt8×Int×List Nat×List (Q3)×Unit→List (Q3)→List Nat→Int→Int→List UInt8×Int×List Nat×List (Q3)×Unit→List UInt8×Int×List Nat×List (Q3)×Unit→List UInt8×Int×List Nat×List (Q3)×Unit→List UInt8×Int×List Nat×List (Q3)×Unit→List Int→List UInt8×Int×List Nat×List (Q3)×Unit→List UInt8×Int×List Nat×List (Q3)×Unit→List UInt8×Int×List Nat×List (Q3)×Unit→List UInt8×Int×List Nat×List (Q3)×Unit→Option (List Int×Unit))(aE:List UInt8×Int×List Nat×List (Q3)×Unit)(aF:Int)(aJ:Nat)(ax:List Nat)(aq:Int)(ar:Int)(p0_0_2:List UInt8×Int×List Nat×List (Q3)×Unit)(p0_1_2:List UInt8×Int×List Nat×List (Q3)×Unit)(p0_5_2:List UInt8×Int×List Nat×List (Q3)×Unit)(p0_6_2_0:List UInt8×Int×List Nat×List (Q3)×Unit)(bi:List Int)(aG:List UInt8×Int×List Nat×List (Q3)×Unit)(aH:List UInt8×Int×List Nat×List (Q3)×Unit)(aS:List UInt8×Int×List Nat×List (Q3)×Unit)(k6_2_0:List UInt8×Int×List Nat×List (Q3)×Unit)(ac:List (Q3)):LeF (elim some fun (s__:((List (Q3))×List Int))=>r0 aE s__.1 ax aq (IntKind.i64.wrap (ar+1)) p0_0_2 p0_1_2 p0_5_2 p0_6_2_0 s__.2 aG aH aS k6_2_0) (y2y (fun s__=>yIW aE aF aJ ax aq ar p0_0_2 p0_1_2 p0_5_2 p0_6_2_0 bi aG aH aS k6_2_0 s__) wMax ac) (y6M n r0 n aE ac aF aJ ax aq ar p0_0_2 p0_1_2 p0_5_2 p0_6_2_0 bi aG aH aS k6_2_0):=by
  refine y31 (f:=(elim some fun (s__:((List (Q3))×List Int))=>r0 aE s__.1 ax aq (IntKind.i64.wrap (ar+1)) p0_0_2 p0_1_2 p0_5_2 p0_6_2_0 s__.2 aG aH aS k6_2_0)) (W:=fun k__ s__=>y6M n r0 k__ aE s__ aF aJ ax aq ar p0_0_2 p0_1_2 p0_5_2 p0_6_2_0 bi aG aH aS k6_2_0) (body:=(fun s__=>yIW aE aF aJ ax aq ar p0_0_2 p0_1_2 p0_5_2 p0_6_2_0 bi aG aH aS k6_2_0 s__)) (fun k__ s__=>?_) wMax n ac (by unfold big at hn;unfold wMax;omega)
  show LeF _ _ (yER n r0 (y6M n r0 k__) aE s__ aF aJ ax aq ar p0_0_2 p0_1_2 p0_5_2 p0_6_2_0 bi aG aH aS k6_2_0)
  exact (y5 (y7 fun v3=>(y5 (y5 (y6 rfl) yc) (yl (by apply y2Y n hn)))) (yl (by apply y2Y n hn)))
def yHH(aB:List UInt8×Int×List Nat×List (Q3)×Unit)(af:List Nat)(p0_0_0:List UInt8×Int×List Nat×List (Q3)×Unit)(p0_1_0:List UInt8×Int×List Nat×List (Q3)×Unit)(p0_5_0:List UInt8×Int×List Nat×List (Q3)×Unit)(p0_6_0_0:List UInt8×Int×List Nat×List (Q3)×Unit)(aK:List UInt8×Int×List Nat×List (Q3)×Unit)(aL:List UInt8×Int×List Nat×List (Q3)×Unit)(aQ:List UInt8×Int×List Nat×List (Q3)×Unit)(k6_0_0:List UInt8×Int×List Nat×List (Q3)×Unit)(am:Int)(v1:Nat)(aj:List (Q3))(bt:List Int):Option ((List Int×Unit)⊕((List (Q3))×List Int)) :=
  (y2y (fun s__=>yIW (aB) (am) (v1) (af) ((↑af.length:Int)) (am) (p0_0_0) (p0_1_0) (p0_5_0) (p0_6_0_0) (bt) (aK) (aL) (aQ) (k6_0_0) s__) wMax (aj))
def yJT(aB:List UInt8×Int×List Nat×List (Q3)×Unit)(af:List Nat)(p0_0_0:List UInt8×Int×List Nat×List (Q3)×Unit)(p0_1_0:List UInt8×Int×List Nat×List (Q3)×Unit)(p0_5_0:List UInt8×Int×List Nat×List (Q3)×Unit)(p0_6_0_0:List UInt8×Int×List Nat×List (Q3)×Unit)(aK:List UInt8×Int×List Nat×List (Q3)×Unit)(aL:List UInt8×Int×List Nat×List (Q3)×Unit)(aQ:List UInt8×Int×List Nat×List (Q3)×Unit)(k6_0_0:List UInt8×Int×List Nat×List (Q3)×Unit)(aj:List (Q3))(bt:List Int):Option (List Int×Unit) :=
  (some ((bt,())))
theorem yCS(n:Nat)(hn:big≤n)(aB:List UInt8×Int×List Nat×List (Q3)×Unit)(af:List Nat)(p0_0_0:List UInt8×Int×List Nat×List (Q3)×Unit)(p0_1_0:List UInt8×Int×List Nat×List (Q3)×Unit)(p0_5_0:List UInt8×Int×List Nat×List (Q3)×Unit)(p0_6_0_0:List UInt8×Int×List Nat×List (Q3)×Unit)(aK:List UInt8×Int×List Nat×List (Q3)×Unit)(aL:List UInt8×Int×List Nat×List (Q3)×Unit)(aQ:List UInt8×Int×List Nat×List (Q3)×Unit)(k6_0_0:List UInt8×Int×List Nat×List (Q3)×Unit)(aj:List (Q3))(bt:List Int)(hx:List.length (af) < lenMax):LeF some (yM (fun i__ e__ s__=>yHH aB af p0_0_0 p0_1_0 p0_5_0 p0_6_0_0 aK aL aQ k6_0_0 i__ e__ s__.1 s__.2) (fun s__=>yJT aB af p0_0_0 p0_1_0 p0_5_0 p0_6_0_0 aK aL aQ k6_0_0 s__.1 s__.2) 0 (af) (aj,bt)) (y6j n n aB aj af (List.length (af):Int) 0 p0_0_0 p0_1_0 p0_5_0 p0_6_0_0 bt aK aL aQ k6_0_0):=by
  refine yO (f:=some) (W:=fun k__ i__ s__=>y6j n k__ aB s__.1 af (List.length (af):Int) i__ p0_0_0 p0_1_0 p0_5_0 p0_6_0_0 s__.2 aK aL aQ k6_0_0) (body:=(fun i__ e__ s__=>yHH aB af p0_0_0 p0_1_0 p0_5_0 p0_6_0_0 aK aL aQ k6_0_0 i__ e__ s__.1 s__.2)) (fin:=(fun s__=>yJT aB af p0_0_0 p0_1_0 p0_5_0 p0_6_0_0 aK aL aQ k6_0_0 s__.1 s__.2)) (fun k__ i__ s__=>?_) hx (aj,bt) n (by unfold big at hn;unfold lenMax at hx;omega)
  show LeF _ _ (yEk n (y6j n k__) aB s__.1 af (List.length (af):Int) i__ p0_0_0 p0_1_0 p0_5_0 p0_6_0_0 s__.2 aK aL aQ k6_0_0)
  exact y5 (y7 fun v1=>(by apply yDg n hn)) (yl (y6 rfl))
def yD1(r1:List UInt8×Int×List Nat×List (Q3)×Unit):Option (List Int×Unit) :=
  (bif decide (List.length (r1.2.2.1) < lenMax)then yM (fun i__ e__ s__=>yHH (r1) (r1.2.2.1) (r1) (r1) (r1) (r1) (r1) (r1) (r1) (r1) i__ e__ s__.1 s__.2) (fun s__=>yJT (r1) (r1.2.2.1) (r1) (r1) (r1) (r1) (r1) (r1) (r1) (r1) s__.1 s__.2) 0 (r1.2.2.1) ((r1.2.2.2.1),([]))else none)
theorem yOq(r1:List UInt8×Int×List Nat×List (Q3)×Unit)(y:List Int×Unit)(h:yD1 r1=some y):∃ n,yKk n r1=some y :=
  ⟨big,LeF.top (show LeF some (yD1 r1) (yKk big r1)from (fun (n:Nat) (hn:big≤n)=>show LeF some (yD1 r1) (yKk n r1)from (yK fun hx=>by apply yCS n hn;exact hx)) big (Nat.le_refl _)) h⟩
def z0u_e:Entry:={ f:=147,args:=yOm,ress:=ySG,m:=fun x=>yD1 x.1 }
theorem yMP:FnOK Tryz.prog z0u_e:=yI (g:=yQx) (fn:=Tryz.f147) yD yH eNil (by kernel_rfl) (by kernel_rfl) (by kernel_rfl) (fun x y h=>let ⟨n,hn⟩:=yOq x.1 y h;⟨yMY n,(y5K y4w (y5K y55 iNil)),(yQl n x).trans hn⟩)
abbrev yNR:Ty:=.pair t57 (.pair t3 .unit)
abbrev yW3:Ty:=.pair t57 .unit
def yQy:G:={ T:=T,E:=[],muts:=[2],fz:=[] }
def yWr:List (List Nat):=[[1,2,4,5]]
def yLY(n:Nat):Ann:={ keep:=yWr,fuel:=n,inl:=[],deep:=0 }
def yEL(n:Nat)(r0:Int→Int→Int→Int→Int→Int→Option ((Q3)×Unit))(b9:Int)(aQ:Int)(b0_0_0:Int)(b0_1_0:Int)(b1_0_0:Int)(b1_1_0:Int):Option ((Q3)×Unit) :=
  (bif decide (aQ < (IntKind.i64.wrap (b9.tmod (4:Int)+4)).tmod (4:Int))then r0 b9 (IntKind.i64.wrap (aQ+1)) (IntKind.i64.wrap ((0:Int) - b0_1_0)) b0_0_0 b1_0_0 b1_1_0 else some ((b0_0_0,b0_1_0,()),()))
def y6R(n:Nat)(k:Nat)(b9:Int)(aQ:Int)(b0_0_0:Int)(b0_1_0:Int)(b1_0_0:Int)(b1_1_0:Int):Option ((Q3)×Unit) :=
  iter (fun r y=>yEL n (fun b9 aQ b0_0_0 b0_1_0 b1_0_0 b1_1_0=>r ((b9,(aQ,())),(((b0_0_0,(b0_1_0,())),((b1_0_0,(b1_1_0,())),())),()))) y.1.1 y.1.2.1 y.2.1.1.1 y.2.1.1.2.1 y.2.1.2.1.1 y.2.1.2.1.2.1) k ((b9,(aQ,())),(((b0_0_0,(b0_1_0,())),((b1_0_0,(b1_1_0,())),())),()))
def yKT(n:Nat)(a:Q3)(n1:Int):Option ((Q3)×Unit) :=
  (y6R n n (n1) ((0:Int)) (a.1) (a.2.1) ((0:Int)) ((0:Int)))
theorem yUY(n:Nat)(x:yNR.den):runF yQy (yLY n) Tryz.f156 yNR yW3 x=yKT n x.1 x.2.1:=by kernel_rfl
def yHW(b9:Int)(b1_0_0:Int)(b1_1_0:Int)(aQ:Int)(b0_0_0:Int)(b0_1_0:Int):Option (((Q3)×Unit)⊕(Int×Int)) :=
  (some (Sum.inr ((IntKind.i64.wrap ((0:Int) - b0_1_0)),(b0_0_0))))
def yGl(b9:Int)(b1_0_0:Int)(b1_1_0:Int)(b0_0_0:Int)(b0_1_0:Int):Option ((Q3)×Unit) :=
  (some (((b0_0_0,b0_1_0,()),())))
theorem yDh(n:Nat)(hn:big≤n)(b9:Int)(b1_0_0:Int)(b1_1_0:Int)(b0_0_0:Int)(b0_1_0:Int)(hx:((IntKind.i64.wrap (b9.tmod (4:Int)+4)).tmod (4:Int))≤9223372036854775807):LeF some (y0V (fun i__ s__=>yHW b9 b1_0_0 b1_1_0 i__ s__.1 s__.2) (fun s__=>yGl b9 b1_0_0 b1_1_0 s__.1 s__.2) (((IntKind.i64.wrap (b9.tmod (4:Int)+4)).tmod (4:Int)) - 0).toNat 0 (b0_0_0,b0_1_0)) (y6R n n b9 0 b0_0_0 b0_1_0 b1_0_0 b1_1_0):=by
  refine y16 (f:=some) (W:=fun k__ i__ s__=>y6R n k__ b9 i__ s__.1 s__.2 b1_0_0 b1_1_0) (body:=(fun i__ s__=>yHW b9 b1_0_0 b1_1_0 i__ s__.1 s__.2)) (fin:=(fun s__=>yGl b9 b1_0_0 b1_1_0 s__.1 s__.2)) (fun k__ i__ s__=>?_) hx (b0_0_0,b0_1_0) n 0 (by decide) (by unfold big at hn;omega)
  show LeF _ _ (yEL n (y6R n k__) b9 i__ s__.1 s__.2 b1_0_0 b1_1_0)
  exact y5 (y6 rfl) (yl (y6 rfl))
def yCz(a:Q3)(n1:Int):Option ((Q3)×Unit) :=
  (bif decide (((IntKind.i64.wrap (n1.tmod (4:Int)+4)).tmod (4:Int))≤9223372036854775807)then y0V (fun i__ s__=>yHW (n1) ((0:Int)) ((0:Int)) i__ s__.1 s__.2) (fun s__=>yGl (n1) ((0:Int)) ((0:Int)) s__.1 s__.2) (((IntKind.i64.wrap (n1.tmod (4:Int)+4)).tmod (4:Int)) - 0).toNat 0 ((a.1),(a.2.1))else none)
theorem yPD(a:Q3)(n1:Int)(y:(Q3)×Unit)(h:yCz a n1=some y):∃ n,yKT n a n1=some y :=
  ⟨big,LeF.top (show LeF some (yCz a n1) (yKT big a n1)from (fun (n:Nat) (hn:big≤n)=>show LeF some (yCz a n1) (yKT n a n1)from (yK fun hx=>by apply yDh n hn;exact hx)) big (Nat.le_refl _)) h⟩
def z0i_e:Entry:={ f:=156,args:=yNR,ress:=yW3,m:=fun x=>yCz x.1 x.2.1 }
theorem yRC:FnOK Tryz.prog z0i_e:=yI (g:=yQy) (fn:=Tryz.f156) yD yH eNil (by kernel_rfl) (by kernel_rfl) (by kernel_rfl) (fun x y h=>let ⟨n,hn⟩:=yPD x.1 x.2.1 y h;⟨yLY n,iNil,(yUY n x).trans hn⟩)
abbrev zS_a:Ty:=.pair t55 (.pair t3 .unit)
abbrev zS_r:Ty:=.pair t57 .unit
def zS_g:G:={ T:=T,E:=[],muts:=[],fz:=[] }
def zS_k:List (List Nat):=[]
def yVT(n:Nat):Ann:={ keep:=zS_k,fuel:=n,inl:=[],deep:=0 }
def zS_m(n:Nat)(c:Q2)(tick:Int):Option ((Q3)×Unit) :=
  (bif c.2.1==0 then none else (Option.bind (idx [((1:Int),(0:Int),()),((0:Int),(1:Int),()),((-1:Int),(0:Int),()),((0:Int),(-1:Int),())] ((IntKind.i64.wrap (c.2.2.1 * IntKind.i64.wrap (tick.tdiv c.2.1))).tmod (4:Int))) fun v0=>some ((v0.1,v0.2.1,()),())))
theorem yXv(n:Nat)(x:zS_a.den):runF zS_g (yVT n) Tryz.f161 zS_a zS_r x=zS_m n x.1 x.2.1:=by kernel_rfl
def zS_M(c:Q2)(tick:Int):Option ((Q3)×Unit):=zS_m 0 c tick
theorem yR9(c:Q2)(tick:Int)(y:(Q3)×Unit)(h:zS_M c tick=some y):∃ n,zS_m n c tick=some y:=⟨0,h⟩
def zS_e:Entry:={ f:=161,args:=zS_a,ress:=zS_r,m:=fun x=>zS_M x.1 x.2.1 }
theorem yQA:FnOK Tryz.prog zS_e:=yI (g:=zS_g) (fn:=Tryz.f161) yD yH eNil (by kernel_rfl) (by kernel_rfl) (by kernel_rfl) (fun x y h=>let ⟨n,hn⟩:=yR9 x.1 x.2.1 y h;⟨yVT n,iNil,(yXv n x).trans hn⟩)
abbrev zA_a:Ty:=.pair t31 (.pair t215 .unit)
abbrev zA_r:Ty:=.pair t23 .unit
def zA_g:G:={ T:=T,E:=[],muts:=[5],fz:=[] }
def zA_k:List (List Nat):=[[1,5,8,9,10]]
def yR4(n:Nat):Ann:={ keep:=zA_k,fuel:=n,inl:=[],deep:=0 }
def yIm(n:Nat)(r0:((Q2)×Unit→Option ((Q3)×Unit))→List (Q2)→Int→Int→List (Q3)→Option (List (Q3)×Unit))(a8:(Q2)×Unit→Option ((Q3)×Unit))(a7:List (Q2))(af:Int)(ae:Int)(aa:List (Q3)):Option (List (Q3)×Unit) :=
  (bif decide (ae < af)then (Option.bind (idx a7 ae) fun v1=>(Option.bind (a8 ((v1.1,v1.2.1,v1.2.2.1,()),())) fun v2=>(bif decide (aa.length+(1:Nat)≤memMax)then r0 a8 a7 af (IntKind.i64.wrap (ae+1)) (aa++[v2.1])else none)))else some (aa,()))
def y9p(n:Nat)(k:Nat)(a8:(Q2)×Unit→Option ((Q3)×Unit))(a7:List (Q2))(af:Int)(ae:Int)(aa:List (Q3)):Option (List (Q3)×Unit) :=
  iter (fun r y=>yIm n (fun a8 a7 af ae aa=>r ((a8,(a7,(af,(ae,())))),((aa,()),()))) y.1.1 y.1.2.1 y.1.2.2.1 y.1.2.2.2.1 y.2.1.1) k ((a8,(a7,(af,(ae,())))),((aa,()),()))
def zA_m(n:Nat)(l:List (Q2))(of:(Q2)×Unit→Option ((Q3)×Unit)):Option (List (Q3)×Unit) :=
  (y9p n n (of) (l) ((↑l.length:Int)) ((0:Int)) ([]))
theorem yYB(n:Nat)(x:zA_a.den):runF zA_g (yR4 n) Tryz.f162 zA_a zA_r x=zA_m n x.1 x.2.1:=by kernel_rfl
def yPV(a8:(Q2)×Unit→Option ((Q3)×Unit))(a7:List (Q2))(ae:Int)(v1:Q2)(aa:List (Q3)):Option ((List (Q3)×Unit)⊕(List (Q3))) :=
  (Option.bind (a8 ((v1.1,v1.2.1,v1.2.2.1,()),())) fun v2=>(bif decide (aa.length+(1:Nat)≤memMax)then (some (Sum.inr (aa++[v2.1])))else none))
def yPW(a8:(Q2)×Unit→Option ((Q3)×Unit))(a7:List (Q2))(aa:List (Q3)):Option (List (Q3)×Unit) :=
  (some ((aa,())))
theorem yFZ(n:Nat)(hn:big≤n)(a8:(Q2)×Unit→Option ((Q3)×Unit))(a7:List (Q2))(aa:List (Q3))(hx:List.length (a7) < lenMax):LeF some (yM (fun i__ e__ s__=>yPV a8 a7 i__ e__ s__) (fun s__=>yPW a8 a7 s__) 0 (a7) aa) (y9p n n a8 a7 (List.length (a7):Int) 0 aa):=by
  refine yO (f:=some) (W:=fun k__ i__ s__=>y9p n k__ a8 a7 (List.length (a7):Int) i__ s__) (body:=(fun i__ e__ s__=>yPV a8 a7 i__ e__ s__)) (fin:=(fun s__=>yPW a8 a7 s__)) (fun k__ i__ s__=>?_) hx aa n (by unfold big at hn;unfold lenMax at hx;omega)
  show LeF _ _ (yIm n (y9p n k__) a8 a7 (List.length (a7):Int) i__ s__)
  exact y5 (y7 fun v1=>(y7 fun v2=>(y5 (y6 rfl) yc))) (yl (y6 rfl))
def zA_M(l:List (Q2))(of:(Q2)×Unit→Option ((Q3)×Unit)):Option (List (Q3)×Unit) :=
  (bif decide (List.length (l) < lenMax)then yM (fun i__ e__ s__=>yPV (of) (l) i__ e__ s__) (fun s__=>yPW (of) (l) s__) 0 (l) ([])else none)
theorem ySZ(l:List (Q2))(of:(Q2)×Unit→Option ((Q3)×Unit))(y:List (Q3)×Unit)(h:zA_M l of=some y):∃ n,zA_m n l of=some y :=
  ⟨big,LeF.top (show LeF some (zA_M l of) (zA_m big l of)from (fun (n:Nat) (hn:big≤n)=>show LeF some (zA_M l of) (zA_m n l of)from (yK fun hx=>by apply yFZ n hn;exact hx)) big (Nat.le_refl _)) h⟩
def zA_e:Entry:={ f:=162,args:=zA_a,ress:=zA_r,m:=fun x=>zA_M x.1 x.2.1 }
theorem yPl:FnOK Tryz.prog zA_e:=yI (g:=zA_g) (fn:=Tryz.f162) yD yH eNil (by kernel_rfl) (by kernel_rfl) (by kernel_rfl) (fun x y h=>let ⟨n,hn⟩:=ySZ x.1 x.2.1 y h;⟨yR4 n,iNil,(yYB n x).trans hn⟩)
abbrev ze_a:Ty:=.pair t183 (.pair t3 (.pair t23 .unit))
abbrev ze_r:Ty:=.pair t183 .unit
def ze_g:G:={ T:=T,E:=[],muts:=[],fz:=[11] }
def ze_k:List (List Nat):=[[0,1,2,7,13,14]]
def yQv(n:Nat):Ann:={ keep:=ze_k,fuel:=n,inl:=[],deep:=0 }
def yH6(n:Nat)(r0:List (List (Q3))→Int→List (Q3)→Int→Int→List (List (Q3))→Option (List (List (Q3))×Unit))(aN:List (List (Q3)))(av:Int)(aC:List (Q3))(b6:Int)(al:Int)(aa:List (List (Q3))):Option (List (List (Q3))×Unit) :=
  (bif decide (al < b6)then (Option.bind (idx aN al) fun v1=>(bif Bool.true && decide ((0:Int)≤(↑v1.length:Int)) && decide ((↑v1.length:Int)≤(↑memMax:Int)) && (↑v1.length:Int)==(↑v1.length:Int)then (Option.bind (idx aa al) fun v2=>(Option.bind (aa[al.toNat]?) fun v3=>(Option.bind (idx (aa.set al.toNat (List.replicate ((↑v1.length:Int).toNat) (((0:Int),(0:Int),())):List (Q3))) al) fun v4=>(Option.bind ((aa.set al.toNat (List.replicate ((↑v1.length:Int).toNat) (((0:Int),(0:Int),())):List (Q3)))[al.toNat]?) fun v5=>(Option.bind (idx aN al) fun v6=>(Option.bind ((aa.set al.toNat (List.replicate ((↑v1.length:Int).toNat) (((0:Int),(0:Int),())):List (Q3)))[al.toNat]?) fun v7=>(bif decide (v6.length=v7.length)then (Option.bind (idx ((aa.set al.toNat (List.replicate ((↑v1.length:Int).toNat) (((0:Int),(0:Int),())):List (Q3))).set al.toNat v6) al) fun v8=>(Option.bind (((aa.set al.toNat (List.replicate ((↑v1.length:Int).toNat) (((0:Int),(0:Int),())):List (Q3))).set al.toNat v6)[al.toNat]?) fun v9=>(Option.bind (idx aC al) fun v10=>(Option.bind (((aa.set al.toNat (List.replicate ((↑v1.length:Int).toNat) (((0:Int),(0:Int),())):List (Q3))).set al.toNat v6)[al.toNat]?) fun v11=>(Option.bind (idx v11 av) fun v12=>(Option.bind (((aa.set al.toNat (List.replicate ((↑v1.length:Int).toNat) (((0:Int),(0:Int),())):List (Q3))).set al.toNat v6)[al.toNat]?) fun v13=>(Option.bind (v13[av.toNat]?) fun v14=>r0 aN av aC b6 (IntKind.i64.wrap (al+1)) (((aa.set al.toNat (List.replicate ((↑v1.length:Int).toNat) (((0:Int),(0:Int),())):List (Q3))).set al.toNat v6).set al.toNat (v13.set av.toNat v10)))))))))else none)))))))else none))else some (aa,()))
def y9J(n:Nat)(k:Nat)(aN:List (List (Q3)))(av:Int)(aC:List (Q3))(b6:Int)(al:Int)(aa:List (List (Q3))):Option (List (List (Q3))×Unit) :=
  iter (fun r y=>yH6 n (fun aN av aC b6 al aa=>r ((aN,(av,(aC,(b6,(al,()))))),((aa,()),()))) y.1.1 y.1.2.1 y.1.2.2.1 y.1.2.2.2.1 y.1.2.2.2.2.1 y.2.1.1) k ((aN,(av,(aC,(b6,(al,()))))),((aa,()),()))
def ze_m(n:Nat)(m:List (List (Q3)))(column:Int)(values:List (Q3)):Option (List (List (Q3))×Unit) :=
  (bif Bool.true && decide ((0:Int)≤(↑m.length:Int)) && decide ((↑m.length:Int)≤(↑memMax:Int)) && (↑m.length:Int)==(↑m.length:Int)then (y9J n n (m) (column) (values) ((↑m.length:Int)) ((0:Int)) ((List.replicate ((↑m.length:Int).toNat) ([]):List (List (Q3)))))else none)
theorem yXX(n:Nat)(x:ze_a.den):runF ze_g (yQv n) Tryz.f164 ze_a ze_r x=ze_m n x.1 x.2.1 x.2.2.1:=by kernel_rfl
def yOg(aN:List (List (Q3)))(av:Int)(aC:List (Q3))(al:Int)(v1:List (Q3))(aa:List (List (Q3))):Option ((List (List (Q3))×Unit)⊕(List (List (Q3)))) :=
  (bif Bool.true && decide ((0:Int)≤(↑v1.length:Int)) && decide ((↑v1.length:Int)≤(↑memMax:Int)) && (↑v1.length:Int)==(↑v1.length:Int)then (Option.bind (idx aa al) fun v2=>(Option.bind (aa[al.toNat]?) fun v3=>(Option.bind (idx (aa.set al.toNat (List.replicate ((↑v1.length:Int).toNat) (((0:Int),(0:Int),())):List (Q3))) al) fun v4=>(Option.bind ((aa.set al.toNat (List.replicate ((↑v1.length:Int).toNat) (((0:Int),(0:Int),())):List (Q3)))[al.toNat]?) fun v5=>(Option.bind (idx aN al) fun v6=>(Option.bind ((aa.set al.toNat (List.replicate ((↑v1.length:Int).toNat) (((0:Int),(0:Int),())):List (Q3)))[al.toNat]?) fun v7=>(bif decide (v6.length=v7.length)then (Option.bind (idx ((aa.set al.toNat (List.replicate ((↑v1.length:Int).toNat) (((0:Int),(0:Int),())):List (Q3))).set al.toNat v6) al) fun v8=>(Option.bind (((aa.set al.toNat (List.replicate ((↑v1.length:Int).toNat) (((0:Int),(0:Int),())):List (Q3))).set al.toNat v6)[al.toNat]?) fun v9=>(Option.bind (idx aC al) fun v10=>(Option.bind (((aa.set al.toNat (List.replicate ((↑v1.length:Int).toNat) (((0:Int),(0:Int),())):List (Q3))).set al.toNat v6)[al.toNat]?) fun v11=>(Option.bind (idx v11 av) fun v12=>(Option.bind (((aa.set al.toNat (List.replicate ((↑v1.length:Int).toNat) (((0:Int),(0:Int),())):List (Q3))).set al.toNat v6)[al.toNat]?) fun v13=>(Option.bind (v13[av.toNat]?) fun v14=>(some (Sum.inr (((aa.set al.toNat (List.replicate ((↑v1.length:Int).toNat) (((0:Int),(0:Int),())):List (Q3))).set al.toNat v6).set al.toNat (v13.set av.toNat v10)))))))))))else none)))))))else none)
def yN7(aN:List (List (Q3)))(av:Int)(aC:List (Q3))(aa:List (List (Q3))):Option (List (List (Q3))×Unit) :=
  (some ((aa,())))
theorem yFm(n:Nat)(hn:big≤n)(aN:List (List (Q3)))(av:Int)(aC:List (Q3))(aa:List (List (Q3)))(hx:List.length (aN) < lenMax):LeF some (yM (fun i__ e__ s__=>yOg aN av aC i__ e__ s__) (fun s__=>yN7 aN av aC s__) 0 (aN) aa) (y9J n n aN av aC (List.length (aN):Int) 0 aa):=by
  refine yO (f:=some) (W:=fun k__ i__ s__=>y9J n k__ aN av aC (List.length (aN):Int) i__ s__) (body:=(fun i__ e__ s__=>yOg aN av aC i__ e__ s__)) (fin:=(fun s__=>yN7 aN av aC s__)) (fun k__ i__ s__=>?_) hx aa n (by unfold big at hn;unfold lenMax at hx;omega)
  show LeF _ _ (yH6 n (y9J n k__) aN av aC (List.length (aN):Int) i__ s__)
  exact y5 (y7 fun v1=>(y5 (y7 fun v2=>(y7 fun v3=>(y7 fun v4=>(y7 fun v5=>(y7 fun v6=>(y7 fun v7=>(y5 (y7 fun v8=>(y7 fun v9=>(y7 fun v10=>(y7 fun v11=>(y7 fun v12=>(y7 fun v13=>(y7 fun v14=>(y6 rfl)))))))) yc))))))) yc)) (yl (y6 rfl))
def ze_M(m:List (List (Q3)))(column:Int)(values:List (Q3)):Option (List (List (Q3))×Unit) :=
  (bif Bool.true && decide ((0:Int)≤(↑m.length:Int)) && decide ((↑m.length:Int)≤(↑memMax:Int)) && (↑m.length:Int)==(↑m.length:Int)then (bif decide (List.length (m) < lenMax)then yM (fun i__ e__ s__=>yOg (m) (column) (values) i__ e__ s__) (fun s__=>yN7 (m) (column) (values) s__) 0 (m) ((List.replicate ((↑m.length:Int).toNat) ([]):List (List (Q3))))else none)else none)
theorem yU1(m:List (List (Q3)))(column:Int)(values:List (Q3))(y:List (List (Q3))×Unit)(h:ze_M m column values=some y):∃ n,ze_m n m column values=some y :=
  ⟨big,LeF.top (show LeF some (ze_M m column values) (ze_m big m column values)from (fun (n:Nat) (hn:big≤n)=>show LeF some (ze_M m column values) (ze_m n m column values)from (y5 (yK fun hx=>by apply yFm n hn;exact hx) yc)) big (Nat.le_refl _)) h⟩
def ze_e:Entry:={ f:=164,args:=ze_a,ress:=ze_r,m:=fun x=>ze_M x.1 x.2.1 x.2.2.1 }
theorem ySt:FnOK Tryz.prog ze_e:=yI (g:=ze_g) (fn:=Tryz.f164) yD yH eNil (by kernel_rfl) (by kernel_rfl) (by kernel_rfl) (fun x y h=>let ⟨n,hn⟩:=yU1 x.1 x.2.1 x.2.2.1 y h;⟨yQv n,iNil,(yXX n x).trans hn⟩)
abbrev zN_a:Ty:=.pair t41 (.pair t233 .unit)
abbrev zN_r:Ty:=.pair t161 .unit
def zN_g:G:={ T:=T,E:=[],muts:=[5],fz:=[] }
def zN_k:List (List Nat):=[[1,5,8,9,10]]
def yVg(n:Nat):Ann:={ keep:=zN_k,fuel:=n,inl:=[],deep:=0 }
def yHl(n:Nat)(r0:(Int×Unit→Option (List UInt8×Unit))→List Int→Int→Int→List (List UInt8)→Option (List (List UInt8)×Unit))(a8:Int×Unit→Option (List UInt8×Unit))(a7:List Int)(af:Int)(ae:Int)(aa:List (List UInt8)):Option (List (List UInt8)×Unit) :=
  (bif decide (ae < af)then (Option.bind (idx a7 ae) fun v1=>(Option.bind (a8 (v1,())) fun v2=>(bif decide (aa.length+(1:Nat)≤memMax)then r0 a8 a7 af (IntKind.i64.wrap (ae+1)) (aa++[v2.1])else none)))else some (aa,()))
def yAW(n:Nat)(k:Nat)(a8:Int×Unit→Option (List UInt8×Unit))(a7:List Int)(af:Int)(ae:Int)(aa:List (List UInt8)):Option (List (List UInt8)×Unit) :=
  iter (fun r y=>yHl n (fun a8 a7 af ae aa=>r ((a8,(a7,(af,(ae,())))),((aa,()),()))) y.1.1 y.1.2.1 y.1.2.2.1 y.1.2.2.2.1 y.2.1.1) k ((a8,(a7,(af,(ae,())))),((aa,()),()))
def zN_m(n:Nat)(l:List Int)(of:Int×Unit→Option (List UInt8×Unit)):Option (List (List UInt8)×Unit) :=
  (yAW n n (of) (l) ((↑l.length:Int)) ((0:Int)) ([]))
theorem yWg(n:Nat)(x:zN_a.den):runF zN_g (yVg n) Tryz.f176 zN_a zN_r x=zN_m n x.1 x.2.1:=by kernel_rfl
def yOB(a8:Int×Unit→Option (List UInt8×Unit))(a7:List Int)(ae:Int)(v1:Int)(aa:List (List UInt8)):Option ((List (List UInt8)×Unit)⊕(List (List UInt8))) :=
  (Option.bind (a8 (v1,())) fun v2=>(bif decide (aa.length+(1:Nat)≤memMax)then (some (Sum.inr (aa++[v2.1])))else none))
def yPm(a8:Int×Unit→Option (List UInt8×Unit))(a7:List Int)(aa:List (List UInt8)):Option (List (List UInt8)×Unit) :=
  (some ((aa,())))
theorem yGE(n:Nat)(hn:big≤n)(a8:Int×Unit→Option (List UInt8×Unit))(a7:List Int)(aa:List (List UInt8))(hx:List.length (a7) < lenMax):LeF some (yM (fun i__ e__ s__=>yOB a8 a7 i__ e__ s__) (fun s__=>yPm a8 a7 s__) 0 (a7) aa) (yAW n n a8 a7 (List.length (a7):Int) 0 aa):=by
  refine yO (f:=some) (W:=fun k__ i__ s__=>yAW n k__ a8 a7 (List.length (a7):Int) i__ s__) (body:=(fun i__ e__ s__=>yOB a8 a7 i__ e__ s__)) (fin:=(fun s__=>yPm a8 a7 s__)) (fun k__ i__ s__=>?_) hx aa n (by unfold big at hn;unfold lenMax at hx;omega)
  show LeF _ _ (yHl n (yAW n k__) a8 a7 (List.length (a7):Int) i__ s__)
  exact y5 (y7 fun v1=>(y7 fun v2=>(y5 (y6 rfl) yc))) (yl (y6 rfl))
def zN_M(l:List Int)(of:Int×Unit→Option (List UInt8×Unit)):Option (List (List UInt8)×Unit) :=
  (bif decide (List.length (l) < lenMax)then yM (fun i__ e__ s__=>yOB (of) (l) i__ e__ s__) (fun s__=>yPm (of) (l) s__) 0 (l) ([])else none)
theorem ySA(l:List Int)(of:Int×Unit→Option (List UInt8×Unit))(y:List (List UInt8)×Unit)(h:zN_M l of=some y):∃ n,zN_m n l of=some y :=
  ⟨big,LeF.top (show LeF some (zN_M l of) (zN_m big l of)from (fun (n:Nat) (hn:big≤n)=>show LeF some (zN_M l of) (zN_m n l of)from (yK fun hx=>by apply yGE n hn;exact hx)) big (Nat.le_refl _)) h⟩
def zN_e:Entry:={ f:=176,args:=zN_a,ress:=zN_r,m:=fun x=>zN_M x.1 x.2.1 }
theorem yYZ:FnOK Tryz.prog zN_e:=yI (g:=zN_g) (fn:=Tryz.f176) yD yH eNil (by kernel_rfl) (by kernel_rfl) (by kernel_rfl) (fun x y h=>let ⟨n,hn⟩:=ySA x.1 x.2.1 y h;⟨yVg n,iNil,(yWg n x).trans hn⟩)
abbrev yNJ:Ty:=.pair t3 (.pair t3 .unit)
abbrev yRa:Ty:=.pair t3 .unit
def ySC:G:={ T:=T,E:=[],muts:=[],fz:=[] }
def yXU:List (List Nat):=[[0,1]]
def yLT(n:Nat):Ann:={ keep:=yXU,fuel:=n,inl:=[],deep:=0 }
def yEb(n:Nat)(r0:Int→Int→Option (Int×Unit))(ah:Int)(ai:Int):Option (Int×Unit) :=
  (bif ai != 0 then (bif ai==0 then none else r0 ai (ah.tmod ai))else some (ah,()))
def y6y(n:Nat)(k:Nat)(ah:Int)(ai:Int):Option (Int×Unit) :=
  iter (fun r y=>yEb n (fun ah ai=>r ((ah,(ai,())),((),()))) y.1.1 y.1.2.1) k ((ah,(ai,())),((),()))
def yKQ(n:Nat)(a:Int)(b:Int):Option (Int×Unit) :=
  (y6y n n (a) (b))
theorem yVk(n:Nat)(x:yNJ.den):runF ySC (yLT n) Tryz.f185 yNJ yRa x=yKQ n x.1 x.2.1:=by kernel_rfl
def yB5(ah:Int)(ai:Int):Option ((Int×Unit)⊕(Int×Int)) :=
  (bif ai != 0 then (bif ai==0 then none else (some (Sum.inr ((ai),(ah.tmod ai)))))else (some (Sum.inl ((ah,())))))
theorem yCD(n:Nat)(hn:big≤n)(ah:Int)(ai:Int):LeF some (y2y (fun s__=>yB5 s__.1 s__.2) wMax (ah,ai)) (y6y n n ah ai):=by
  refine y31 (f:=some) (W:=fun k__ s__=>y6y n k__ s__.1 s__.2) (body:=(fun s__=>yB5 s__.1 s__.2)) (fun k__ s__=>?_) wMax n (ah,ai) (by unfold big at hn;unfold wMax;omega)
  show LeF _ _ (yEb n (y6y n k__) s__.1 s__.2)
  exact (y5 (y5 yc (y6 rfl)) (y6 rfl))
def y8K(a:Int)(b:Int):Option (Int×Unit) :=
  (y2y (fun s__=>yB5 s__.1 s__.2) wMax ((a),(b)))
theorem yOT(a:Int)(b:Int)(y:Int×Unit)(h:y8K a b=some y):∃ n,yKQ n a b=some y :=
  ⟨big,LeF.top (show LeF some (y8K a b) (yKQ big a b)from (fun (n:Nat) (hn:big≤n)=>show LeF some (y8K a b) (yKQ n a b)from (by apply yCD n hn)) big (Nat.le_refl _)) h⟩
def z03_e:Entry:={ f:=185,args:=yNJ,ress:=yRa,m:=fun x=>y8K x.1 x.2.1 }
theorem yRZ:FnOK Tryz.prog z03_e:=yI (g:=ySC) (fn:=Tryz.f185) yD yH eNil (by kernel_rfl) (by kernel_rfl) (by kernel_rfl) (fun x y h=>let ⟨n,hn⟩:=yOT x.1 x.2.1 y h;⟨yLT n,iNil,(yVk n x).trans hn⟩)
abbrev yNu:Ty:=.pair t9 .unit
abbrev ySw:Ty:=.pair t4 .unit
def yTo:G:={ T:=T,E:=[],muts:=[],fz:=[] }
def yYn:List (List Nat):=[[0,3]]
def yLi(n:Nat):Ann:={ keep:=yYn,fuel:=n,inl:=[],deep:=0 }
def y3u(n:Nat)(r2:List UInt8→Int→Option (Bool×Unit))(aT:List UInt8)(aZ:Int)(v3:UInt8):Option (Bool×Unit) :=
  (bif aZ==0 then some (Bool.false,())else (bif (↑v3.toNat:Int) != 95 then (bif decide ((↑v3.toNat:Int) < 48)then some (Bool.false,())else (bif decide ((↑v3.toNat:Int) > 57)then some (Bool.false,())else r2 aT (IntKind.i64.wrap (aZ+1))))else r2 aT (IntKind.i64.wrap (aZ+1))))
def yDy(n:Nat)(r2:List UInt8→Int→Option (Bool×Unit))(aT:List UInt8)(aZ:Int):Option (Bool×Unit) :=
  (bif decide (aZ < (↑aT.length:Int))then (Option.bind (idx aT aZ) fun v3=>(bif decide ((↑v3.toNat:Int) ≥ 97)then (bif decide ((↑v3.toNat:Int)≤122)then r2 aT (IntKind.i64.wrap (aZ+1))else (bif decide ((↑v3.toNat:Int) ≥ 65)then (bif decide ((↑v3.toNat:Int)≤90)then r2 aT (IntKind.i64.wrap (aZ+1))else (y3u n r2 aT aZ v3))else (y3u n r2 aT aZ v3)))else (bif decide ((↑v3.toNat:Int) ≥ 65)then (bif decide ((↑v3.toNat:Int)≤90)then r2 aT (IntKind.i64.wrap (aZ+1))else (y3u n r2 aT aZ v3))else (y3u n r2 aT aZ v3))))else some (Bool.true,()))
def y6L(n:Nat)(k:Nat)(aT:List UInt8)(aZ:Int):Option (Bool×Unit) :=
  iter (fun r y=>yDy n (fun aT aZ=>r ((aT,(aZ,())),((),()))) y.1.1 y.1.2.1) k ((aT,(aZ,())),((),()))
def yKg(n:Nat)(s:List UInt8):Option (Bool×Unit) :=
  (bif (↑s.length:Int)==0 then some (Bool.false,())else (bif decide ((↑s.length:Int) > 24)then some (Bool.false,())else (y6L n n (s) ((0:Int)))))
theorem yVC(n:Nat)(x:yNu.den):runF yTo (yLi n) Tryz.f187 yNu ySw x=yKg n x.1:=by kernel_rfl
def y5a(aT:List UInt8)(aZ:Int)(v3:UInt8):Option ((Bool×Unit)⊕Unit) :=
  (bif aZ==0 then (some (Sum.inl ((Bool.false,()))))else (bif (↑v3.toNat:Int) != 95 then (bif decide ((↑v3.toNat:Int) < 48)then (some (Sum.inl ((Bool.false,()))))else (bif decide ((↑v3.toNat:Int) > 57)then (some (Sum.inl ((Bool.false,()))))else (some (Sum.inr ()))))else (some (Sum.inr ()))))
theorem y0R(n:Nat)(hn:big≤n)(r2:List UInt8→Int→Option (Bool×Unit))(aT:List UInt8)(aZ:Int)(v3:UInt8):LeF (elim some fun (s__:Unit)=>r2 aT (IntKind.i64.wrap (aZ+1))) (y5a aT aZ v3) (y3u n r2 aT aZ v3) :=
  (y5 (y6 rfl) (y5 (y5 (y6 rfl) (y5 (y6 rfl) (y6 rfl))) (y6 rfl)))
def y9H(aT:List UInt8)(aZ:Int)(v3:UInt8):Option ((Bool×Unit)⊕Unit) :=
  (bif decide ((↑v3.toNat:Int) ≥ 97)then (bif decide ((↑v3.toNat:Int)≤122)then (some (Sum.inr ()))else (bif decide ((↑v3.toNat:Int) ≥ 65)then (bif decide ((↑v3.toNat:Int)≤90)then (some (Sum.inr ()))else (y5a aT aZ v3))else (y5a aT aZ v3)))else (bif decide ((↑v3.toNat:Int) ≥ 65)then (bif decide ((↑v3.toNat:Int)≤90)then (some (Sum.inr ()))else (y5a aT aZ v3))else (y5a aT aZ v3)))
def yEV(aT:List UInt8):Option (Bool×Unit) :=
  (some ((Bool.true,())))
theorem yD3(n:Nat)(hn:big≤n)(aT:List UInt8)(hx:List.length (aT) < lenMax):LeF some (yM (fun i__ e__ s__=>y9H aT i__ e__) (fun s__=>yEV aT) 0 (aT) ()) (y6L n n aT 0):=by
  refine yO (f:=some) (W:=fun k__ i__ s__=>y6L n k__ aT i__) (body:=(fun i__ e__ s__=>y9H aT i__ e__)) (fin:=(fun s__=>yEV aT)) (fun k__ i__ s__=>?_) hx () n (by unfold big at hn;unfold lenMax at hx;omega)
  show LeF _ _ (yDy n (y6L n k__) aT i__)
  exact y5 (y7 fun v3=>(y5 (y5 (y6 rfl) (y5 (y5 (y6 rfl) (by apply y0R n hn)) (by apply y0R n hn))) (y5 (y5 (y6 rfl) (by apply y0R n hn)) (by apply y0R n hn)))) (yl (y6 rfl))
def yCX(s:List UInt8):Option (Bool×Unit) :=
  (bif (↑s.length:Int)==0 then (some ((Bool.false,())))else (bif decide ((↑s.length:Int) > 24)then (some ((Bool.false,())))else (bif decide (List.length (s) < lenMax)then yM (fun i__ e__ s__=>y9H (s) i__ e__) (fun s__=>yEV (s)) 0 (s) ()else none)))
theorem yNP(s:List UInt8)(y:Bool×Unit)(h:yCX s=some y):∃ n,yKg n s=some y :=
  ⟨big,LeF.top (show LeF some (yCX s) (yKg big s)from (fun (n:Nat) (hn:big≤n)=>show LeF some (yCX s) (yKg n s)from (y5 (y6 rfl) (y5 (y6 rfl) (yK fun hx=>by apply yD3 n hn;exact hx)))) big (Nat.le_refl _)) h⟩
def z0A_e:Entry:={ f:=187,args:=yNu,ress:=ySw,m:=fun x=>yCX x.1 }
theorem yST:FnOK Tryz.prog z0A_e:=yI (g:=yTo) (fn:=Tryz.f187) yD yH eNil (by kernel_rfl) (by kernel_rfl) (by kernel_rfl) (fun x y h=>let ⟨n,hn⟩:=yNP x.1 y h;⟨yLi n,iNil,(yVC n x).trans hn⟩)
abbrev zz_a:Ty:=.pair t55 .unit
abbrev zz_r:Ty:=.pair t55 .unit
def zz_g:G:={ T:=T,E:=[],muts:=[],fz:=[] }
def zz_k:List (List Nat):=[]
def yS0(n:Nat):Ann:={ keep:=zz_k,fuel:=n,inl:=[],deep:=0 }
def zz_m(n:Nat)(c:Q2):Option ((Q2)×Unit) :=
  some ((c.1,c.2.1,c.2.2.1,()),())
theorem yXZ(n:Nat)(x:zz_a.den):runF zz_g (yS0 n) Tryz.f189 zz_a zz_r x=zz_m n x.1:=by kernel_rfl
def zz(c:Q2):((Q2)×Unit) :=
  ((c.1,c.2.1,c.2.2.1,()),())
abbrev zz_M (c:Q2):Option ((Q2)×Unit):=some (zz c)
theorem yW1(c:Q2)(y:(Q2)×Unit)(h:zz_M c=some y):∃ n,zz_m n c=some y :=
  ⟨0,by rw[← h];show zz_m 0 c=some (zz c);unfold zz_m zz;first|rfl|(simp only[yJ];done)|(simp only[yJ];rfl)⟩
def zz_e:Entry:={ f:=189,args:=zz_a,ress:=zz_r,m:=fun x=>zz_M x.1 }
theorem yX1:FnOK Tryz.prog zz_e:=yI (g:=zz_g) (fn:=Tryz.f189) yD yH eNil (by kernel_rfl) (by kernel_rfl) (by kernel_rfl) (fun x y h=>let ⟨n,hn⟩:=yW1 x.1 y h;⟨yS0 n,iNil,(yXZ n x).trans hn⟩)
abbrev yPk:Ty:=.pair t57 (.pair (.ref t3) .unit)
abbrev yRf:Ty:=.pair t57 .unit
def yRk:G:={ T:=T,E:=[],muts:=[],fz:=[] }
def yXp:List (List Nat):=[]
def yMW(n:Nat):Ann:={ keep:=yXp,fuel:=n,inl:=[],deep:=0 }
def yOr(n:Nat)(z:Q3)(p1:Int):Option ((Q3)×Unit) :=
  (bif p1==0 then none else (bif p1==0 then none else some ((IntKind.i64.wrap (z.1.tdiv p1),IntKind.i64.wrap (z.2.1.tdiv p1),()),())))
theorem yS3(n:Nat)(x:yPk.den):runF yRk (yMW n) Tryz.f190 yPk yRf x=yOr n x.1 x.2.1:=by kernel_rfl
def yPx(z:Q3)(p1:Int):Option ((Q3)×Unit):=yOr 0 z p1
theorem yNe(z:Q3)(p1:Int)(y:(Q3)×Unit)(h:yPx z p1=some y):∃ n,yOr n z p1=some y:=⟨0,h⟩
def z00_e:Entry:={ f:=190,args:=yPk,ress:=yRf,m:=fun x=>yPx x.1 x.2.1 }
theorem yUE:FnOK Tryz.prog z00_e:=yI (g:=yRk) (fn:=Tryz.f190) yD yH eNil (by kernel_rfl) (by kernel_rfl) (by kernel_rfl) (fun x y h=>let ⟨n,hn⟩:=yNe x.1 x.2.1 y h;⟨yMW n,iNil,(yS3 n x).trans hn⟩)
abbrev z8_a:Ty:=.pair t31 (.pair t255 .unit)
abbrev z8_r:Ty:=.pair t96 .unit
def z8_g:G:={ T:=T,E:=[],muts:=[5],fz:=[] }
def z8_k:List (List Nat):=[[1,5,8,9,10]]
def ySo(n:Nat):Ann:={ keep:=z8_k,fuel:=n,inl:=[],deep:=0 }
def yIZ(n:Nat)(r0:((Q2)×Unit→Option (List (Q3)×Unit))→List (Q2)→Int→Int→List (List (Q3))→Option (List (List (Q3))×Unit))(a8:(Q2)×Unit→Option (List (Q3)×Unit))(a7:List (Q2))(af:Int)(ae:Int)(aa:List (List (Q3))):Option (List (List (Q3))×Unit) :=
  (bif decide (ae < af)then (Option.bind (idx a7 ae) fun v1=>(Option.bind (a8 ((v1.1,v1.2.1,v1.2.2.1,()),())) fun v2=>(bif decide (aa.length+(1:Nat)≤memMax)then r0 a8 a7 af (IntKind.i64.wrap (ae+1)) (aa++[v2.1])else none)))else some (aa,()))
def y9r(n:Nat)(k:Nat)(a8:(Q2)×Unit→Option (List (Q3)×Unit))(a7:List (Q2))(af:Int)(ae:Int)(aa:List (List (Q3))):Option (List (List (Q3))×Unit) :=
  iter (fun r y=>yIZ n (fun a8 a7 af ae aa=>r ((a8,(a7,(af,(ae,())))),((aa,()),()))) y.1.1 y.1.2.1 y.1.2.2.1 y.1.2.2.2.1 y.2.1.1) k ((a8,(a7,(af,(ae,())))),((aa,()),()))
def z8_m(n:Nat)(l:List (Q2))(of:(Q2)×Unit→Option (List (Q3)×Unit)):Option (List (List (Q3))×Unit) :=
  (y9r n n (of) (l) ((↑l.length:Int)) ((0:Int)) ([]))
theorem yXE(n:Nat)(x:z8_a.den):runF z8_g (ySo n) Tryz.f191 z8_a z8_r x=z8_m n x.1 x.2.1:=by kernel_rfl
def yQL(a8:(Q2)×Unit→Option (List (Q3)×Unit))(a7:List (Q2))(ae:Int)(v1:Q2)(aa:List (List (Q3))):Option ((List (List (Q3))×Unit)⊕(List (List (Q3)))) :=
  (Option.bind (a8 ((v1.1,v1.2.1,v1.2.2.1,()),())) fun v2=>(bif decide (aa.length+(1:Nat)≤memMax)then (some (Sum.inr (aa++[v2.1])))else none))
def yPy(a8:(Q2)×Unit→Option (List (Q3)×Unit))(a7:List (Q2))(aa:List (List (Q3))):Option (List (List (Q3))×Unit) :=
  (some ((aa,())))
theorem yFr(n:Nat)(hn:big≤n)(a8:(Q2)×Unit→Option (List (Q3)×Unit))(a7:List (Q2))(aa:List (List (Q3)))(hx:List.length (a7) < lenMax):LeF some (yM (fun i__ e__ s__=>yQL a8 a7 i__ e__ s__) (fun s__=>yPy a8 a7 s__) 0 (a7) aa) (y9r n n a8 a7 (List.length (a7):Int) 0 aa):=by
  refine yO (f:=some) (W:=fun k__ i__ s__=>y9r n k__ a8 a7 (List.length (a7):Int) i__ s__) (body:=(fun i__ e__ s__=>yQL a8 a7 i__ e__ s__)) (fin:=(fun s__=>yPy a8 a7 s__)) (fun k__ i__ s__=>?_) hx aa n (by unfold big at hn;unfold lenMax at hx;omega)
  show LeF _ _ (yIZ n (y9r n k__) a8 a7 (List.length (a7):Int) i__ s__)
  exact y5 (y7 fun v1=>(y7 fun v2=>(y5 (y6 rfl) yc))) (yl (y6 rfl))
def z8_M(l:List (Q2))(of:(Q2)×Unit→Option (List (Q3)×Unit)):Option (List (List (Q3))×Unit) :=
  (bif decide (List.length (l) < lenMax)then yM (fun i__ e__ s__=>yQL (of) (l) i__ e__ s__) (fun s__=>yPy (of) (l) s__) 0 (l) ([])else none)
theorem yUg(l:List (Q2))(of:(Q2)×Unit→Option (List (Q3)×Unit))(y:List (List (Q3))×Unit)(h:z8_M l of=some y):∃ n,z8_m n l of=some y :=
  ⟨big,LeF.top (show LeF some (z8_M l of) (z8_m big l of)from (fun (n:Nat) (hn:big≤n)=>show LeF some (z8_M l of) (z8_m n l of)from (yK fun hx=>by apply yFr n hn;exact hx)) big (Nat.le_refl _)) h⟩
def z8_e:Entry:={ f:=191,args:=z8_a,ress:=z8_r,m:=fun x=>z8_M x.1 x.2.1 }
theorem yYJ:FnOK Tryz.prog z8_e:=yI (g:=z8_g) (fn:=Tryz.f191) yD yH eNil (by kernel_rfl) (by kernel_rfl) (by kernel_rfl) (fun x y h=>let ⟨n,hn⟩:=yUg x.1 x.2.1 y h;⟨ySo n,iNil,(yXE n x).trans hn⟩)
abbrev zI_a:Ty:=.pair t35 (.pair t259 .unit)
abbrev zI_r:Ty:=.pair t175 .unit
def zI_g:G:={ T:=T,E:=[],muts:=[5],fz:=[] }
def zI_k:List (List Nat):=[[1,5,8,9,10]]
def yTp(n:Nat):Ann:={ keep:=zI_k,fuel:=n,inl:=[],deep:=0 }
def yJG(n:Nat)(r0:(Nat×Unit→Option (Int×Unit))→List Nat→Int→Int→List Int→Option (List Int×Unit))(a8:Nat×Unit→Option (Int×Unit))(a7:List Nat)(af:Int)(ae:Int)(aa:List Int):Option (List Int×Unit) :=
  (bif decide (ae < af)then (Option.bind (idx a7 ae) fun v1=>(Option.bind (a8 (v1,())) fun v2=>(bif decide (aa.length+(1:Nat)≤memMax)then r0 a8 a7 af (IntKind.i64.wrap (ae+1)) (aa++[v2.1])else none)))else some (aa,()))
def y9q(n:Nat)(k:Nat)(a8:Nat×Unit→Option (Int×Unit))(a7:List Nat)(af:Int)(ae:Int)(aa:List Int):Option (List Int×Unit) :=
  iter (fun r y=>yJG n (fun a8 a7 af ae aa=>r ((a8,(a7,(af,(ae,())))),((aa,()),()))) y.1.1 y.1.2.1 y.1.2.2.1 y.1.2.2.2.1 y.2.1.1) k ((a8,(a7,(af,(ae,())))),((aa,()),()))
def zI_m(n:Nat)(l:List Nat)(of:Nat×Unit→Option (Int×Unit)):Option (List Int×Unit) :=
  (y9q n n (of) (l) ((↑l.length:Int)) ((0:Int)) ([]))
theorem yXN(n:Nat)(x:zI_a.den):runF zI_g (yTp n) Tryz.f196 zI_a zI_r x=zI_m n x.1 x.2.1:=by kernel_rfl
def yPP(a8:Nat×Unit→Option (Int×Unit))(a7:List Nat)(ae:Int)(v1:Nat)(aa:List Int):Option ((List Int×Unit)⊕(List Int)) :=
  (Option.bind (a8 (v1,())) fun v2=>(bif decide (aa.length+(1:Nat)≤memMax)then (some (Sum.inr (aa++[v2.1])))else none))
def yO6(a8:Nat×Unit→Option (Int×Unit))(a7:List Nat)(aa:List Int):Option (List Int×Unit) :=
  (some ((aa,())))
theorem yGR(n:Nat)(hn:big≤n)(a8:Nat×Unit→Option (Int×Unit))(a7:List Nat)(aa:List Int)(hx:List.length (a7) < lenMax):LeF some (yM (fun i__ e__ s__=>yPP a8 a7 i__ e__ s__) (fun s__=>yO6 a8 a7 s__) 0 (a7) aa) (y9q n n a8 a7 (List.length (a7):Int) 0 aa):=by
  refine yO (f:=some) (W:=fun k__ i__ s__=>y9q n k__ a8 a7 (List.length (a7):Int) i__ s__) (body:=(fun i__ e__ s__=>yPP a8 a7 i__ e__ s__)) (fin:=(fun s__=>yO6 a8 a7 s__)) (fun k__ i__ s__=>?_) hx aa n (by unfold big at hn;unfold lenMax at hx;omega)
  show LeF _ _ (yJG n (y9q n k__) a8 a7 (List.length (a7):Int) i__ s__)
  exact y5 (y7 fun v1=>(y7 fun v2=>(y5 (y6 rfl) yc))) (yl (y6 rfl))
def zI_M(l:List Nat)(of:Nat×Unit→Option (Int×Unit)):Option (List Int×Unit) :=
  (bif decide (List.length (l) < lenMax)then yM (fun i__ e__ s__=>yPP (of) (l) i__ e__ s__) (fun s__=>yO6 (of) (l) s__) 0 (l) ([])else none)
theorem yRj(l:List Nat)(of:Nat×Unit→Option (Int×Unit))(y:List Int×Unit)(h:zI_M l of=some y):∃ n,zI_m n l of=some y :=
  ⟨big,LeF.top (show LeF some (zI_M l of) (zI_m big l of)from (fun (n:Nat) (hn:big≤n)=>show LeF some (zI_M l of) (zI_m n l of)from (yK fun hx=>by apply yGR n hn;exact hx)) big (Nat.le_refl _)) h⟩
def zI_e:Entry:={ f:=196,args:=zI_a,ress:=zI_r,m:=fun x=>zI_M x.1 x.2.1 }
theorem yZ3:FnOK Tryz.prog zI_e:=yI (g:=zI_g) (fn:=Tryz.f196) yD yH eNil (by kernel_rfl) (by kernel_rfl) (by kernel_rfl) (fun x y h=>let ⟨n,hn⟩:=yRj x.1 x.2.1 y h;⟨yTp n,iNil,(yXN n x).trans hn⟩)
abbrev yOj:Ty:=.pair t175 .unit
abbrev yQn:Ty:=.pair t28 .unit
def yTO:G:={ T:=T,E:=[],muts:=[],fz:=[] }
def yYv:List (List Nat):=[[5,6,7]]
def yLb(n:Nat):Ann:={ keep:=yYv,fuel:=n,inl:=[],deep:=0 }
def yEP(n:Nat)(r0:List Int→Int→Int→Option (Int×Unit))(aP:List Int)(aD:Int)(az:Int):Option (Int×Unit) :=
  (bif decide (az < aD)then (Option.bind (idx aP az) fun v1=>(bif v1 != 0 then some (v1,())else r0 aP aD (IntKind.i64.wrap (az+1))))else some ((0:Int),()))
def y6t(n:Nat)(k:Nat)(aP:List Int)(aD:Int)(az:Int):Option (Int×Unit) :=
  iter (fun r y=>yEP n (fun aP aD az=>r ((aP,(aD,(az,()))),((),()))) y.1.1 y.1.2.1 y.1.2.2.1) k ((aP,(aD,(az,()))),((),()))
def yJx(n:Nat)(l:List Int):Option (Int×Unit) :=
  (y6t n n (l) ((↑l.length:Int)) ((0:Int)))
theorem yQX(n:Nat)(x:yOj.den):runF yTO (yLb n) Tryz.f198 yOj yQn x=yJx n x.1:=by kernel_rfl
def yJE(aP:List Int)(az:Int)(v1:Int):Option ((Int×Unit)⊕Unit) :=
  (bif v1 != 0 then (some (Sum.inl ((v1,()))))else (some (Sum.inr ())))
def yHf(aP:List Int):Option (Int×Unit) :=
  (some (((0:Int),())))
theorem yDb(n:Nat)(hn:big≤n)(aP:List Int)(hx:List.length (aP) < lenMax):LeF some (yM (fun i__ e__ s__=>yJE aP i__ e__) (fun s__=>yHf aP) 0 (aP) ()) (y6t n n aP (List.length (aP):Int) 0):=by
  refine yO (f:=some) (W:=fun k__ i__ s__=>y6t n k__ aP (List.length (aP):Int) i__) (body:=(fun i__ e__ s__=>yJE aP i__ e__)) (fin:=(fun s__=>yHf aP)) (fun k__ i__ s__=>?_) hx () n (by unfold big at hn;unfold lenMax at hx;omega)
  show LeF _ _ (yEP n (y6t n k__) aP (List.length (aP):Int) i__)
  exact y5 (y7 fun v1=>(y5 (y6 rfl) (y6 rfl))) (yl (y6 rfl))
def y8V(l:List Int):Option (Int×Unit) :=
  (bif decide (List.length (l) < lenMax)then yM (fun i__ e__ s__=>yJE (l) i__ e__) (fun s__=>yHf (l)) 0 (l) ()else none)
theorem yP9(l:List Int)(y:Int×Unit)(h:y8V l=some y):∃ n,yJx n l=some y :=
  ⟨big,LeF.top (show LeF some (y8V l) (yJx big l)from (fun (n:Nat) (hn:big≤n)=>show LeF some (y8V l) (yJx n l)from (yK fun hx=>by apply yDb n hn;exact hx)) big (Nat.le_refl _)) h⟩
def z0M_e:Entry:={ f:=198,args:=yOj,ress:=yQn,m:=fun x=>y8V x.1 }
theorem yMA:FnOK Tryz.prog z0M_e:=yI (g:=yTO) (fn:=Tryz.f198) yD yH eNil (by kernel_rfl) (by kernel_rfl) (by kernel_rfl) (fun x y h=>let ⟨n,hn⟩:=yP9 x.1 y h;⟨yLb n,iNil,(yQX n x).trans hn⟩)
abbrev yQS:Ty:=.pair t4 (.pair t28 .unit)
abbrev yUF:Ty:=.pair t28 .unit
def ySK:G:={ T:=T,E:=[],muts:=[],fz:=[] }
def yXd:List (List Nat):=[]
def yM0(n:Nat):Ann:={ keep:=yXd,fuel:=n,inl:=[],deep:=0 }
def yK8(n:Nat)(holds:Bool)(e:Int):Option (Int×Unit) :=
  (bif holds then some (e,())else some ((0:Int),()))
theorem yTv(n:Nat)(x:yQS.den):runF ySK (yM0 n) Tryz.f199 yQS yUF x=yK8 n x.1 x.2.1:=by kernel_rfl
def z0d(holds:Bool)(e:Int):(Int×Unit) :=
  (bif holds then (e,())else ((0:Int),()))
abbrev yUT (holds:Bool) (e:Int):Option (Int×Unit):=some (z0d holds e)
theorem yQP(holds:Bool)(e:Int)(y:Int×Unit)(h:yUT holds e=some y):∃ n,yK8 n holds e=some y :=
  ⟨0,by rw[← h];show yK8 0 holds e=some (z0d holds e);unfold yK8 z0d;first|rfl|(simp only[yJ];done)|(simp only[yJ];rfl)⟩
def z0d_e:Entry:={ f:=199,args:=yQS,ress:=yUF,m:=fun x=>yUT x.1 x.2.1 }
theorem yAr:FnOK Tryz.prog z0d_e:=yI (g:=ySK) (fn:=Tryz.f199) yD yH eNil (by kernel_rfl) (by kernel_rfl) (by kernel_rfl) (fun x y h=>let ⟨n,hn⟩:=yQP x.1 x.2.1 y h;⟨yM0 n,iNil,(yTv n x).trans hn⟩)
abbrev yN3:Ty:=.pair t9 .unit
abbrev yU0:Ty:=.pair t4 .unit
def yVq:G:={ T:=T,E:=[],muts:=[],fz:=[] }
def yZ1:List (List Nat):=[[0,8]]
def yMV(n:Nat):Ann:={ keep:=yZ1,fuel:=n,inl:=[],deep:=0 }
def y5M(n:Nat)(r0:List UInt8→List UInt8→Int→Option (Bool×Unit))(ak:List UInt8)(str0__0:List UInt8)(pos0__0:Int)(j2:Bool)(j7:Bool):Option (Bool×Unit) :=
  (bif !j2 then (bif pos0__0==0 then some (Bool.false,())else (bif !j7 then some (Bool.false,())else r0 ak str0__0 (yR str0__0 pos0__0).2))else r0 ak str0__0 (yR str0__0 pos0__0).2)
def y2p(n:Nat)(r0:List UInt8→List UInt8→Int→Option (Bool×Unit))(ak:List UInt8)(str0__0:List UInt8)(pos0__0:Int)(j2:Bool):Option (Bool×Unit) :=
  (bif decide ((yR str0__0 pos0__0).1 ≥ 48)then (bif decide ((yR str0__0 pos0__0).1≤57)then (y5M n r0 ak str0__0 pos0__0 j2 (Bool.true))else (y5M n r0 ak str0__0 pos0__0 j2 ((yR str0__0 pos0__0).1==95)))else (y5M n r0 ak str0__0 pos0__0 j2 ((yR str0__0 pos0__0).1==95)))
def yE1(n:Nat)(r0:List UInt8→List UInt8→Int→Option (Bool×Unit))(ak:List UInt8)(str0__0:List UInt8)(pos0__0:Int):Option (Bool×Unit) :=
  (bif decide (pos0__0 < (↑str0__0.length:Int))then (bif decide ((yR str0__0 pos0__0).1 ≥ 65)then (bif decide ((yR str0__0 pos0__0).1≤90)then (y2p n r0 ak str0__0 pos0__0 (Bool.true))else (bif decide ((yR str0__0 pos0__0).1 ≥ 97)then (y2p n r0 ak str0__0 pos0__0 (decide ((yR str0__0 pos0__0).1≤122)))else (y2p n r0 ak str0__0 pos0__0 (Bool.false))))else (bif decide ((yR str0__0 pos0__0).1 ≥ 97)then (y2p n r0 ak str0__0 pos0__0 (decide ((yR str0__0 pos0__0).1≤122)))else (y2p n r0 ak str0__0 pos0__0 (Bool.false))))else (bif !ak==[]then some (decide ((↑ak.length:Int)≤24),())else some (Bool.false,())))
def y6z(n:Nat)(k:Nat)(ak:List UInt8)(str0__0:List UInt8)(pos0__0:Int):Option (Bool×Unit) :=
  iter (fun r y=>yE1 n (fun ak str0__0 pos0__0=>r ((ak,()),(((str0__0,pos0__0),()),()))) y.1.1 y.2.1.1.1 y.2.1.1.2) k ((ak,()),(((str0__0,pos0__0),()),()))
def yJl(n:Nat)(s:List UInt8):Option (Bool×Unit) :=
  (y6z n n (s) (s) ((0:Int)))
theorem yTC(n:Nat)(x:yN3.den):runF yVq (yMV n) Tryz.f200 yN3 yU0 x=yJl n x.1:=by kernel_rfl
def y72(ak:List UInt8)(str0__0:List UInt8)(pos0__0:Int)(j2:Bool)(j7:Bool):Option ((Bool×Unit)⊕Unit) :=
  (bif !j2 then (bif pos0__0==0 then (some (Sum.inl ((Bool.false,()))))else (bif !j7 then (some (Sum.inl ((Bool.false,()))))else (some (Sum.inr ()))))else (some (Sum.inr ())))
theorem y18(n:Nat)(hn:big≤n)(r0:List UInt8→List UInt8→Int→Option (Bool×Unit))(ak:List UInt8)(str0__0:List UInt8)(pos0__0:Int)(j2:Bool)(j7:Bool):LeF (elim some fun (s__:Unit)=>r0 ak str0__0 (yR (str0__0) pos0__0).2) (y72 ak str0__0 pos0__0 j2 j7) (y5M n r0 ak str0__0 pos0__0 j2 j7) :=
  (y5 (y5 (y6 rfl) (y5 (y6 rfl) (y6 rfl))) (y6 rfl))
def y4f(ak:List UInt8)(str0__0:List UInt8)(pos0__0:Int)(j2:Bool):Option ((Bool×Unit)⊕Unit) :=
  (bif decide ((yR str0__0 pos0__0).1 ≥ 48)then (bif decide ((yR str0__0 pos0__0).1≤57)then (y72 ak str0__0 pos0__0 j2 (Bool.true))else (y72 ak str0__0 pos0__0 j2 ((yR str0__0 pos0__0).1==95)))else (y72 ak str0__0 pos0__0 j2 ((yR str0__0 pos0__0).1==95)))
theorem y09(n:Nat)(hn:big≤n)(r0:List UInt8→List UInt8→Int→Option (Bool×Unit))(ak:List UInt8)(str0__0:List UInt8)(pos0__0:Int)(j2:Bool):LeF (elim some fun (s__:Unit)=>r0 ak str0__0 (yR (str0__0) pos0__0).2) (y4f ak str0__0 pos0__0 j2) (y2p n r0 ak str0__0 pos0__0 j2) :=
  (y5 (y5 (by apply y18 n hn) (by apply y18 n hn)) (by apply y18 n hn))
def y8u(ak:List UInt8)(str0__0:List UInt8)(pos0__0:Int):Option ((Bool×Unit)⊕Unit) :=
  (bif decide ((yR str0__0 pos0__0).1 ≥ 65)then (bif decide ((yR str0__0 pos0__0).1≤90)then (y4f ak str0__0 pos0__0 (Bool.true))else (bif decide ((yR str0__0 pos0__0).1 ≥ 97)then (y4f ak str0__0 pos0__0 (decide ((yR str0__0 pos0__0).1≤122)))else (y4f ak str0__0 pos0__0 (Bool.false))))else (bif decide ((yR str0__0 pos0__0).1 ≥ 97)then (y4f ak str0__0 pos0__0 (decide ((yR str0__0 pos0__0).1≤122)))else (y4f ak str0__0 pos0__0 (Bool.false))))
def y8c(ak:List UInt8)(str0__0:List UInt8):Option (Bool×Unit) :=
  (bif !ak==[]then (some ((decide ((↑ak.length:Int)≤24),())))else (some ((Bool.false,()))))
theorem yDM(n:Nat)(hn:big≤n)(ak:List UInt8)(str0__0:List UInt8)(hx:List.length (str0__0) < lenMax):LeF some (y6E (str0__0) (fun i__ s__=>y8u ak str0__0 i__) (fun s__=>y8c ak str0__0) (List.length (str0__0)) 0 ()) (y6z n n ak str0__0 0):=by
  refine yF6 (f:=some) (W:=fun k__ i__ s__=>y6z n k__ ak str0__0 i__) (body:=(fun i__ s__=>y8u ak str0__0 i__)) (fin:=(fun s__=>y8c ak str0__0)) (fun k__ i__ s__=>?_) () n (by unfold big at hn;unfold lenMax at hx;omega)
  show LeF _ _ (yE1 n (y6z n k__) ak str0__0 i__)
  exact y5 (y5 (y5 (by apply y09 n hn) (y5 (by apply y09 n hn) (by apply y09 n hn))) (y5 (by apply y09 n hn) (by apply y09 n hn))) (yl (y5 (y6 rfl) (y6 rfl)))
def yAe(s:List UInt8):Option (Bool×Unit) :=
  (bif decide (List.length (s) < lenMax)then y6E (s) (fun i__ s__=>y8u (s) (s) i__) (fun s__=>y8c (s) (s)) (List.length (s)) 0 ()else none)
theorem yOx(s:List UInt8)(y:Bool×Unit)(h:yAe s=some y):∃ n,yJl n s=some y :=
  ⟨big,LeF.top (show LeF some (yAe s) (yJl big s)from (fun (n:Nat) (hn:big≤n)=>show LeF some (yAe s) (yJl n s)from (yK fun hx=>by apply yDM n hn;exact hx)) big (Nat.le_refl _)) h⟩
def z08_e:Entry:={ f:=200,args:=yN3,ress:=yU0,m:=fun x=>yAe x.1 }
theorem yMN:FnOK Tryz.prog z08_e:=yI (g:=yVq) (fn:=Tryz.f200) yD yH eNil (by kernel_rfl) (by kernel_rfl) (by kernel_rfl) (fun x y h=>let ⟨n,hn⟩:=yOx x.1 y h;⟨yMV n,iNil,(yTC n x).trans hn⟩)
abbrev zQ_a:Ty:=.pair t63 (.pair (.ref t60) .unit)
abbrev zQ_r:Ty:=.pair t4 .unit
def zQ_g:G:={ T:=T,E:=[],muts:=[],fz:=[] }
def zQ_k:List (List Nat):=[]
def yR7(n:Nat):Ann:={ keep:=zQ_k,fuel:=n,inl:=[],deep:=0 }
def zQ_m(n:Nat)(s:Q3)(p1:List UInt8×Int×List Nat×List (Q3)×Unit):Option (Bool×Unit) :=
  some (decide (s.2.1 > (↑p1.2.2.1.length:Int)),())
theorem yXs(n:Nat)(x:zQ_a.den):runF zQ_g (yR7 n) Tryz.f205 zQ_a zQ_r x=zQ_m n x.1 x.2.1:=by kernel_rfl
def zQ(s:Q3)(p1:List UInt8×Int×List Nat×List (Q3)×Unit):(Bool×Unit) :=
  (decide (s.2.1 > (↑p1.2.2.1.length:Int)),())
abbrev zQ_M (s:Q3) (p1:List UInt8×Int×List Nat×List (Q3)×Unit):Option (Bool×Unit):=some (zQ s p1)
theorem yVI(s:Q3)(p1:List UInt8×Int×List Nat×List (Q3)×Unit)(y:Bool×Unit)(h:zQ_M s p1=some y):∃ n,zQ_m n s p1=some y :=
  ⟨0,by rw[← h];show zQ_m 0 s p1=some (zQ s p1);unfold zQ_m zQ;first|rfl|(simp only[yJ];done)|(simp only[yJ];rfl)⟩
def zQ_e:Entry:={ f:=205,args:=zQ_a,ress:=zQ_r,m:=fun x=>zQ_M x.1 x.2.1 }
theorem yWw:FnOK Tryz.prog zQ_e:=yI (g:=zQ_g) (fn:=Tryz.f205) yD yH eNil (by kernel_rfl) (by kernel_rfl) (by kernel_rfl) (fun x y h=>let ⟨n,hn⟩:=yVI x.1 x.2.1 y h;⟨yR7 n,iNil,(yXs n x).trans hn⟩)
abbrev zO_a:Ty:=.pair t61 .unit
abbrev zO_r:Ty:=.pair t4 .unit
def zO_g:G:={ T:=T,E:=[],muts:=[],fz:=[] }
def zO_k:List (List Nat):=[]
def yUi(n:Nat):Ann:={ keep:=zO_k,fuel:=n,inl:=[],deep:=0 }
def zO_m(n:Nat)(x1:Nat):Option (Bool×Unit) :=
  some (y0G Go.BinOp.neq Go.FloatKind.f32 x1 (nat_lit 0),())
theorem yY6(n:Nat)(x:zO_a.den):runF zO_g (yUi n) Tryz.f208 zO_a zO_r x=zO_m n x.1:=by kernel_rfl
def zO(x1:Nat):(Bool×Unit) :=
  (y0G Go.BinOp.neq Go.FloatKind.f32 x1 (nat_lit 0),())
abbrev zO_M (x1:Nat):Option (Bool×Unit):=some (zO x1)
theorem yTl(x1:Nat)(y:Bool×Unit)(h:zO_M x1=some y):∃ n,zO_m n x1=some y :=
  ⟨0,by rw[← h];show zO_m 0 x1=some (zO x1);unfold zO_m zO;first|rfl|(simp only[yJ];done)|(simp only[yJ];rfl)⟩
def zO_e:Entry:={ f:=208,args:=zO_a,ress:=zO_r,m:=fun x=>zO_M x.1 }
theorem yYK:FnOK Tryz.prog zO_e:=yI (g:=zO_g) (fn:=Tryz.f208) yD yH eNil (by kernel_rfl) (by kernel_rfl) (by kernel_rfl) (fun x y h=>let ⟨n,hn⟩:=yTl x.1 y h;⟨yUi n,iNil,(yY6 n x).trans hn⟩)
abbrev zZ_a:Ty:=.pair t61 .unit
abbrev zZ_r:Ty:=.pair t3 .unit
def zZ_g:G:={ T:=T,E:=[],muts:=[],fz:=[] }
def zZ_k:List (List Nat):=[]
def yS8(n:Nat):Ann:={ keep:=zZ_k,fuel:=n,inl:=[],deep:=0 }
def zZ_m(n:Nat)(x1:Nat):Option (Int×Unit) :=
  (Option.bind (yp Go.FloatKind.f32 (y0H Go.BinOp.mul Go.FloatKind.f32 x1 (nat_lit 1098907648)) IntKind.i64) fun v0=>some (v0,()))
theorem yX4(n:Nat)(x:zZ_a.den):runF zZ_g (yS8 n) Tryz.f224 zZ_a zZ_r x=zZ_m n x.1:=by kernel_rfl
def zZ_M(x1:Nat):Option (Int×Unit):=zZ_m 0 x1
theorem yVu(x1:Nat)(y:Int×Unit)(h:zZ_M x1=some y):∃ n,zZ_m n x1=some y:=⟨0,h⟩
def zZ_e:Entry:={ f:=224,args:=zZ_a,ress:=zZ_r,m:=fun x=>zZ_M x.1 }
theorem yY1:FnOK Tryz.prog zZ_e:=yI (g:=zZ_g) (fn:=Tryz.f224) yD yH eNil (by kernel_rfl) (by kernel_rfl) (by kernel_rfl) (fun x y h=>let ⟨n,hn⟩:=yVu x.1 y h;⟨yS8 n,iNil,(yX4 n x).trans hn⟩)
abbrev zD_a:Ty:=.pair t58 (.pair t263 .unit)
abbrev zD_r:Ty:=.pair t3 .unit
def zD_g:G:={ T:=T,E:=[],muts:=[],fz:=[] }
def zD_k:List (List Nat):=[[0,1,7,8]]
def yUl(n:Nat):Ann:={ keep:=zD_k,fuel:=n,inl:=[],deep:=0 }
def yHk(n:Nat)(r0:List (Q3)→((Q3)×Unit→Option (Bool×Unit))→Int→Int→Option (Int×Unit))(ak:List (Q3))(aV:(Q3)×Unit→Option (Bool×Unit))(az:Int)(a7:Int):Option (Int×Unit) :=
  (bif decide (a7 < az)then (Option.bind (idx ak a7) fun v1=>(Option.bind (aV (v1,())) fun v2=>(bif v2.1 then some (a7,())else r0 ak aV az (IntKind.i64.wrap (a7+1)))))else some ((-1:Int),()))
def yA0(n:Nat)(k:Nat)(ak:List (Q3))(aV:(Q3)×Unit→Option (Bool×Unit))(az:Int)(a7:Int):Option (Int×Unit) :=
  iter (fun r y=>yHk n (fun ak aV az a7=>r ((ak,(aV,(az,(a7,())))),((),()))) y.1.1 y.1.2.1 y.1.2.2.1 y.1.2.2.2.1) k ((ak,(aV,(az,(a7,())))),((),()))
def zD_m(n:Nat)(s:List (Q3))(f:(Q3)×Unit→Option (Bool×Unit)):Option (Int×Unit) :=
  (yA0 n n (s) (f) ((↑s.length:Int)) ((0:Int)))
theorem yZ8(n:Nat)(x:zD_a.den):runF zD_g (yUl n) Tryz.f226 zD_a zD_r x=zD_m n x.1 x.2.1:=by kernel_rfl
def yNn(ak:List (Q3))(aV:(Q3)×Unit→Option (Bool×Unit))(a7:Int)(v1:Q3):Option ((Int×Unit)⊕Unit) :=
  (Option.bind (aV (v1,())) fun v2=>(bif v2.1 then (some (Sum.inl ((a7,()))))else (some (Sum.inr ()))))
def yNt(ak:List (Q3))(aV:(Q3)×Unit→Option (Bool×Unit)):Option (Int×Unit) :=
  (some (((-1:Int),())))
theorem yG5(n:Nat)(hn:big≤n)(ak:List (Q3))(aV:(Q3)×Unit→Option (Bool×Unit))(hx:List.length (ak) < lenMax):LeF some (yM (fun i__ e__ s__=>yNn ak aV i__ e__) (fun s__=>yNt ak aV) 0 (ak) ()) (yA0 n n ak aV (List.length (ak):Int) 0):=by
  refine yO (f:=some) (W:=fun k__ i__ s__=>yA0 n k__ ak aV (List.length (ak):Int) i__) (body:=(fun i__ e__ s__=>yNn ak aV i__ e__)) (fin:=(fun s__=>yNt ak aV)) (fun k__ i__ s__=>?_) hx () n (by unfold big at hn;unfold lenMax at hx;omega)
  show LeF _ _ (yHk n (yA0 n k__) ak aV (List.length (ak):Int) i__)
  exact y5 (y7 fun v1=>(y7 fun v2=>(y5 (y6 rfl) (y6 rfl)))) (yl (y6 rfl))
def zD_M(s:List (Q3))(f:(Q3)×Unit→Option (Bool×Unit)):Option (Int×Unit) :=
  (bif decide (List.length (s) < lenMax)then yM (fun i__ e__ s__=>yNn (s) (f) i__ e__) (fun s__=>yNt (s) (f)) 0 (s) ()else none)
theorem yV8(s:List (Q3))(f:(Q3)×Unit→Option (Bool×Unit))(y:Int×Unit)(h:zD_M s f=some y):∃ n,zD_m n s f=some y :=
  ⟨big,LeF.top (show LeF some (zD_M s f) (zD_m big s f)from (fun (n:Nat) (hn:big≤n)=>show LeF some (zD_M s f) (zD_m n s f)from (yK fun hx=>by apply yG5 n hn;exact hx)) big (Nat.le_refl _)) h⟩
def zD_e:Entry:={ f:=226,args:=zD_a,ress:=zD_r,m:=fun x=>zD_M x.1 x.2.1 }
theorem yXK:FnOK Tryz.prog zD_e:=yI (g:=zD_g) (fn:=Tryz.f226) yD yH eNil (by kernel_rfl) (by kernel_rfl) (by kernel_rfl) (fun x y h=>let ⟨n,hn⟩:=yV8 x.1 x.2.1 y h;⟨yUl n,iNil,(yZ8 n x).trans hn⟩)
abbrev zE_a:Ty:=.pair t35 (.pair t265 .unit)
abbrev zE_r:Ty:=.pair t3 .unit
def zE_g:G:={ T:=T,E:=[],muts:=[],fz:=[] }
def zE_k:List (List Nat):=[[0,1,7,8]]
def yRo(n:Nat):Ann:={ keep:=zE_k,fuel:=n,inl:=[],deep:=0 }
def yIA(n:Nat)(r0:List Nat→(Nat×Unit→Option (Bool×Unit))→Int→Int→Option (Int×Unit))(ak:List Nat)(aV:Nat×Unit→Option (Bool×Unit))(az:Int)(a7:Int):Option (Int×Unit) :=
  (bif decide (a7 < az)then (Option.bind (idx ak a7) fun v1=>(Option.bind (aV (v1,())) fun v2=>(bif v2.1 then some (a7,())else r0 ak aV az (IntKind.i64.wrap (a7+1)))))else some ((-1:Int),()))
def y9n(n:Nat)(k:Nat)(ak:List Nat)(aV:Nat×Unit→Option (Bool×Unit))(az:Int)(a7:Int):Option (Int×Unit) :=
  iter (fun r y=>yIA n (fun ak aV az a7=>r ((ak,(aV,(az,(a7,())))),((),()))) y.1.1 y.1.2.1 y.1.2.2.1 y.1.2.2.2.1) k ((ak,(aV,(az,(a7,())))),((),()))
def zE_m(n:Nat)(s:List Nat)(f:Nat×Unit→Option (Bool×Unit)):Option (Int×Unit) :=
  (y9n n n (s) (f) ((↑s.length:Int)) ((0:Int)))
theorem yX8(n:Nat)(x:zE_a.den):runF zE_g (yRo n) Tryz.f227 zE_a zE_r x=zE_m n x.1 x.2.1:=by kernel_rfl
def yOs(ak:List Nat)(aV:Nat×Unit→Option (Bool×Unit))(a7:Int)(v1:Nat):Option ((Int×Unit)⊕Unit) :=
  (Option.bind (aV (v1,())) fun v2=>(bif v2.1 then (some (Sum.inl ((a7,()))))else (some (Sum.inr ()))))
def yNF(ak:List Nat)(aV:Nat×Unit→Option (Bool×Unit)):Option (Int×Unit) :=
  (some (((-1:Int),())))
theorem yFa(n:Nat)(hn:big≤n)(ak:List Nat)(aV:Nat×Unit→Option (Bool×Unit))(hx:List.length (ak) < lenMax):LeF some (yM (fun i__ e__ s__=>yOs ak aV i__ e__) (fun s__=>yNF ak aV) 0 (ak) ()) (y9n n n ak aV (List.length (ak):Int) 0):=by
  refine yO (f:=some) (W:=fun k__ i__ s__=>y9n n k__ ak aV (List.length (ak):Int) i__) (body:=(fun i__ e__ s__=>yOs ak aV i__ e__)) (fin:=(fun s__=>yNF ak aV)) (fun k__ i__ s__=>?_) hx () n (by unfold big at hn;unfold lenMax at hx;omega)
  show LeF _ _ (yIA n (y9n n k__) ak aV (List.length (ak):Int) i__)
  exact y5 (y7 fun v1=>(y7 fun v2=>(y5 (y6 rfl) (y6 rfl)))) (yl (y6 rfl))
def zE_M(s:List Nat)(f:Nat×Unit→Option (Bool×Unit)):Option (Int×Unit) :=
  (bif decide (List.length (s) < lenMax)then yM (fun i__ e__ s__=>yOs (s) (f) i__ e__) (fun s__=>yNF (s) (f)) 0 (s) ()else none)
theorem ySx(s:List Nat)(f:Nat×Unit→Option (Bool×Unit))(y:Int×Unit)(h:zE_M s f=some y):∃ n,zE_m n s f=some y :=
  ⟨big,LeF.top (show LeF some (zE_M s f) (zE_m big s f)from (fun (n:Nat) (hn:big≤n)=>show LeF some (zE_M s f) (zE_m n s f)from (yK fun hx=>by apply yFa n hn;exact hx)) big (Nat.le_refl _)) h⟩
def zE_e:Entry:={ f:=227,args:=zE_a,ress:=zE_r,m:=fun x=>zE_M x.1 x.2.1 }
theorem yXc:FnOK Tryz.prog zE_e:=yI (g:=zE_g) (fn:=Tryz.f227) yD yH eNil (by kernel_rfl) (by kernel_rfl) (by kernel_rfl) (fun x y h=>let ⟨n,hn⟩:=ySx x.1 x.2.1 y h;⟨yRo n,iNil,(yX8 n x).trans hn⟩)
end
end Go.Tw
end
section
set_option maxRecDepth 1000000
namespace Go.Tw
open Go.Vx Go.Vx.B Go.Proofs
noncomputable section
abbrev zn_a:Ty:=.pair t25 .unit
abbrev zn_r:Ty:=.pair t4 .unit
def zn_g:G:={ T:=T,E:=[zm_e],muts:=[],fz:=[] }
def zn_k:List (List Nat):=[]
def yQd(n:Nat):Ann:={ keep:=zn_k,fuel:=n,inl:=[],deep:=0 }
def zn_m(n:Nat)(t:Q1):Option (Bool×Unit) :=
  (Option.bind (zm_M t.1) fun v0=>(bif v0.1 then some (decide ((↑t.2.1.length:Int)≤5),())else some (Bool.false,())))
theorem yY9(n:Nat)(x:zn_a.den):runF zn_g (yQd n) Tryz.f19 zn_a zn_r x=zn_m n x.1:=by kernel_rfl
def zn_M(t:Q1):Option (Bool×Unit):=zn_m 0 t
theorem yWX(t:Q1)(y:Bool×Unit)(h:zn_M t=some y):∃ n,zn_m n t=some y:=⟨0,h⟩
def zn_e:Entry:={ f:=19,args:=zn_a,ress:=zn_r,m:=fun x=>zn_M x.1 }
theorem yWa:FnOK Tryz.prog zn_e:=yI (g:=zn_g) (fn:=Tryz.f19) yD yH (yA yXg eNil) (by kernel_rfl) (by kernel_rfl) (by kernel_rfl) (fun x y h=>let ⟨n,hn⟩:=yWX x.1 y h;⟨yQd n,iNil,(yY9 n x).trans hn⟩)
abbrev yN2:Ty:=.pair t25 .unit
abbrev yVt:Ty:=.pair t33 .unit
def ySX:G:={ T:=T,E:=[z0e_e,z01_e],muts:=[],fz:=[] }
def yWv:List (List Nat):=[]
def yLl(n:Nat):Ann:={ keep:=yWv,fuel:=n,inl:=[],deep:=0 }
def yKE(n:Nat)(t:Q1):Option ((Q1)×Unit) :=
  (Option.bind (yDJ t.1) fun v0=>(Option.bind (yK2 t.2.1) fun v1=>some ((v0.1,v1.1,t.2.2.1,()),())))
theorem yTV(n:Nat)(x:yN2.den):runF ySX (yLl n) Tryz.f21 yN2 yVt x=yKE n x.1:=by kernel_rfl
def yJZ(t:Q1):Option ((Q1)×Unit):=yKE 0 t
theorem yOQ(t:Q1)(y:(Q1)×Unit)(h:yJZ t=some y):∃ n,yKE n t=some y:=⟨0,h⟩
def z0x_e:Entry:={ f:=21,args:=yN2,ress:=yVt,m:=fun x=>yJZ x.1 }
theorem yTA:FnOK Tryz.prog z0x_e:=yI (g:=ySX) (fn:=Tryz.f21) yD yH (yA yWQ (yA yV1 eNil)) (by kernel_rfl) (by kernel_rfl) (by kernel_rfl) (fun x y h=>let ⟨n,hn⟩:=yOQ x.1 y h;⟨yLl n,iNil,(yTV n x).trans hn⟩)
abbrev zi_a:Ty:=.pair t3 (.pair t3 .unit)
abbrev zi_r:Ty:=.pair t3 .unit
def zi_g:G:={ T:=T,E:=[za_e,z0P_e],muts:=[],fz:=[] }
def zi_k:List (List Nat):=[]
def yU8(n:Nat):Ann:={ keep:=zi_k,fuel:=n,inl:=[],deep:=0 }
def zi_m(n:Nat)(p0:Int)(n1:Int):Option (Int×Unit) :=
  (Option.bind (y8H [(za p0 (0:Int) (100000:Int)).1,(za n1 (0:Int) (4096:Int)).1]) fun v0=>(bif v0.1 != 0 then some (v0.1,())else some ((za (IntKind.i64.wrap (p0+n1)) (0:Int) (100000:Int)).1,())))
theorem yYm(n:Nat)(x:zi_a.den):runF zi_g (yU8 n) Tryz.f25 zi_a zi_r x=zi_m n x.1 x.2.1:=by kernel_rfl
def zi_M(p0:Int)(n1:Int):Option (Int×Unit):=zi_m 0 p0 n1
theorem yRA(p0:Int)(n1:Int)(y:Int×Unit)(h:zi_M p0 n1=some y):∃ n,zi_m n p0 n1=some y:=⟨0,h⟩
def zi_e:Entry:={ f:=25,args:=zi_a,ress:=zi_r,m:=fun x=>zi_M x.1 x.2.1 }
theorem yYW:FnOK Tryz.prog zi_e:=yI (g:=zi_g) (fn:=Tryz.f25) yD yH (yA yKM (yA yEX eNil)) (by kernel_rfl) (by kernel_rfl) (by kernel_rfl) (fun x y h=>let ⟨n,hn⟩:=yRA x.1 x.2.1 y h;⟨yU8 n,iNil,(yYm n x).trans hn⟩)
abbrev zr_a:Ty:=.pair t96 (.pair t96 .unit)
abbrev zr_r:Ty:=.pair t4 .unit
def zr_g:G:={ T:=T,E:=[zW_e],muts:=[],fz:=[] }
def zr_k:List (List Nat):=[[0,1,5]]
def yQu(n:Nat):Ann:={ keep:=zr_k,fuel:=n,inl:=[],deep:=0 }
def yIS(n:Nat)(r0:List (List (Q3))→List (List (Q3))→Int→Option (Bool×Unit))(ah:List (List (Q3)))(ai:List (List (Q3)))(au:Int):Option (Bool×Unit) :=
  (bif decide (au < (↑ah.length:Int))then (Option.bind (idx ah au) fun v1=>(Option.bind (idx ai au) fun v2=>(Option.bind (zW_M v1 v2) fun v3=>(bif !v3.1 then some (Bool.false,())else r0 ah ai (IntKind.i64.wrap (au+1))))))else some (Bool.true,()))
def yAX(n:Nat)(k:Nat)(ah:List (List (Q3)))(ai:List (List (Q3)))(au:Int):Option (Bool×Unit) :=
  iter (fun r y=>yIS n (fun ah ai au=>r ((ah,(ai,(au,()))),((),()))) y.1.1 y.1.2.1 y.1.2.2.1) k ((ah,(ai,(au,()))),((),()))
def zr_m(n:Nat)(a:List (List (Q3)))(b:List (List (Q3))):Option (Bool×Unit) :=
  (bif (↑a.length:Int) != (↑b.length:Int)then some (Bool.false,())else (yAX n n (a) (b) ((0:Int))))
theorem yXM(n:Nat)(x:zr_a.den):runF zr_g (yQu n) Tryz.f64 zr_a zr_r x=zr_m n x.1 x.2.1:=by kernel_rfl
def yNg(ah:List (List (Q3)))(ai:List (List (Q3)))(au:Int)(v1:List (Q3)):Option ((Bool×Unit)⊕Unit) :=
  (Option.bind (idx ai au) fun v2=>(Option.bind (zW_M v1 v2) fun v3=>(bif !v3.1 then (some (Sum.inl ((Bool.false,()))))else (some (Sum.inr ())))))
def yPu(ah:List (List (Q3)))(ai:List (List (Q3))):Option (Bool×Unit) :=
  (some ((Bool.true,())))
theorem yFe(n:Nat)(hn:big≤n)(ah:List (List (Q3)))(ai:List (List (Q3)))(hx:List.length (ah) < lenMax):LeF some (yM (fun i__ e__ s__=>yNg ah ai i__ e__) (fun s__=>yPu ah ai) 0 (ah) ()) (yAX n n ah ai 0):=by
  refine yO (f:=some) (W:=fun k__ i__ s__=>yAX n k__ ah ai i__) (body:=(fun i__ e__ s__=>yNg ah ai i__ e__)) (fin:=(fun s__=>yPu ah ai)) (fun k__ i__ s__=>?_) hx () n (by unfold big at hn;unfold lenMax at hx;omega)
  show LeF _ _ (yIS n (yAX n k__) ah ai i__)
  exact y5 (y7 fun v1=>(y7 fun v2=>(y7 fun v3=>(y5 (y6 rfl) (y6 rfl))))) (yl (y6 rfl))
def zr_M(a:List (List (Q3)))(b:List (List (Q3))):Option (Bool×Unit) :=
  (bif (↑a.length:Int) != (↑b.length:Int)then (some ((Bool.false,())))else (bif decide (List.length (a) < lenMax)then yM (fun i__ e__ s__=>yNg (a) (b) i__ e__) (fun s__=>yPu (a) (b)) 0 (a) ()else none))
theorem yVz(a:List (List (Q3)))(b:List (List (Q3)))(y:Bool×Unit)(h:zr_M a b=some y):∃ n,zr_m n a b=some y :=
  ⟨big,LeF.top (show LeF some (zr_M a b) (zr_m big a b)from (fun (n:Nat) (hn:big≤n)=>show LeF some (zr_M a b) (zr_m n a b)from (y5 (y6 rfl) (yK fun hx=>by apply yFe n hn;exact hx))) big (Nat.le_refl _)) h⟩
def zr_e:Entry:={ f:=64,args:=zr_a,ress:=zr_r,m:=fun x=>zr_M x.1 x.2.1 }
theorem yZ9:FnOK Tryz.prog zr_e:=yI (g:=zr_g) (fn:=Tryz.f64) yD yH (yA yPF eNil) (by kernel_rfl) (by kernel_rfl) (by kernel_rfl) (fun x y h=>let ⟨n,hn⟩:=yVz x.1 x.2.1 y h;⟨yQu n,iNil,(yXM n x).trans hn⟩)
abbrev zh_a:Ty:=.pair t126 (.pair t3 .unit)
abbrev zh_r:Ty:=.pair t57 .unit
def zh_g:G:={ T:=T,E:=[z0i_e],muts:=[],fz:=[] }
def zh_k:List (List Nat):=[]
def yT4(n:Nat):Ann:={ keep:=zh_k,fuel:=n,inl:=[],deep:=0 }
def zh_m(n:Nat)(c:Q2)(tick:Int):Option ((Q3)×Unit) :=
  (bif c.2.1==0 then none else (Option.bind (yCz ((1:Int),(0:Int),()) (IntKind.i64.wrap (c.2.2.1 * IntKind.i64.wrap (tick.tdiv c.2.1)))) fun v0=>some ((v0.1.1,v0.1.2.1,()),())))
theorem yZ2(n:Nat)(x:zh_a.den):runF zh_g (yT4 n) Tryz.f81 zh_a zh_r x=zh_m n x.1 x.2.1:=by kernel_rfl
def zh_M(c:Q2)(tick:Int):Option ((Q3)×Unit):=zh_m 0 c tick
theorem ySq(c:Q2)(tick:Int)(y:(Q3)×Unit)(h:zh_M c tick=some y):∃ n,zh_m n c tick=some y:=⟨0,h⟩
def zh_e:Entry:={ f:=81,args:=zh_a,ress:=zh_r,m:=fun x=>zh_M x.1 x.2.1 }
theorem yYD:FnOK Tryz.prog zh_e:=yI (g:=zh_g) (fn:=Tryz.f81) yD yH (yA yRC eNil) (by kernel_rfl) (by kernel_rfl) (by kernel_rfl) (fun x y h=>let ⟨n,hn⟩:=ySq x.1 x.2.1 y h;⟨yT4 n,iNil,(yZ2 n x).trans hn⟩)
abbrev zj_a:Ty:=.pair t57 .unit
abbrev zj_r:Ty:=.pair t3 .unit
def zj_g:G:={ T:=T,E:=[za_e,z0P_e],muts:=[],fz:=[] }
def zj_k:List (List Nat):=[]
def yRd(n:Nat):Ann:={ keep:=zj_k,fuel:=n,inl:=[],deep:=0 }
def zj_m(n:Nat)(z:Q3):Option (Int×Unit) :=
  (Option.bind (y8H [(za z.1 (-8796093022208:Int) (8796093022208:Int)).1,(za z.2.1 (-8796093022208:Int) (8796093022208:Int)).1]) fun v0=>some (v0.1,()))
theorem yYb(n:Nat)(x:zj_a.den):runF zj_g (yRd n) Tryz.f109 zj_a zj_r x=zj_m n x.1:=by kernel_rfl
def zj_M(z:Q3):Option (Int×Unit):=zj_m 0 z
theorem yT6(z:Q3)(y:Int×Unit)(h:zj_M z=some y):∃ n,zj_m n z=some y:=⟨0,h⟩
def zj_e:Entry:={ f:=109,args:=zj_a,ress:=zj_r,m:=fun x=>zj_M x.1 }
theorem yXt:FnOK Tryz.prog zj_e:=yI (g:=zj_g) (fn:=Tryz.f109) yD yH (yA yKM (yA yEX eNil)) (by kernel_rfl) (by kernel_rfl) (by kernel_rfl) (fun x y h=>let ⟨n,hn⟩:=yT6 x.1 y h;⟨yRd n,iNil,(yYb n x).trans hn⟩)
abbrev yOD:Ty:=.pair t23 (.pair t3 .unit)
abbrev yQg:Ty:=.pair t3 .unit
def yVl:G:={ T:=T,E:=[z03_e],muts:=[],fz:=[] }
def yY7:List (List Nat):=[[0,1,5]]
def yMj(n:Nat):Ann:={ keep:=yY7,fuel:=n,inl:=[],deep:=0 }
def yEr(n:Nat)(r0:List (Q3)→Int→Int→Option (Int×Unit))(ay:List (Q3))(aX:Int)(au:Int):Option (Int×Unit) :=
  (bif decide (au < (↑ay.length:Int))then (Option.bind (idx ay au) fun v1=>(Option.bind (idx ay au) fun v2=>(Option.bind (y8K aX (if IntKind.i64.wrap ((0:Int) - v2.1) > v1.1 then IntKind.i64.wrap ((0:Int) - v2.1)else v1.1)) fun v3=>(Option.bind (idx ay au) fun v4=>(Option.bind (idx ay au) fun v5=>(Option.bind (y8K v3.1 (if IntKind.i64.wrap ((0:Int) - v5.2.1) > v4.2.1 then IntKind.i64.wrap ((0:Int) - v5.2.1)else v4.2.1)) fun v6=>r0 ay v6.1 (IntKind.i64.wrap (au+1))))))))else some (aX,()))
def y6K(n:Nat)(k:Nat)(ay:List (Q3))(aX:Int)(au:Int):Option (Int×Unit) :=
  iter (fun r y=>yEr n (fun ay aX au=>r ((ay,(aX,(au,()))),((),()))) y.1.1 y.1.2.1 y.1.2.2.1) k ((ay,(aX,(au,()))),((),()))
def yLQ(n:Nat)(l:List (Q3))(den:Int):Option (Int×Unit) :=
  (y6K n n (l) (den) ((0:Int)))
theorem yVF(n:Nat)(x:yOD.den):runF yVl (yMj n) Tryz.f110 yOD yQg x=yLQ n x.1 x.2.1:=by kernel_rfl
def y8l(ay:List (Q3))(au:Int)(v1:Q3)(aX:Int):Option ((Int×Unit)⊕(Int)) :=
  (Option.bind (idx ay au) fun v2=>(Option.bind (y8K aX (if IntKind.i64.wrap ((0:Int) - v2.1) > v1.1 then IntKind.i64.wrap ((0:Int) - v2.1)else v1.1)) fun v3=>(Option.bind (idx ay au) fun v4=>(Option.bind (idx ay au) fun v5=>(Option.bind (y8K v3.1 (if IntKind.i64.wrap ((0:Int) - v5.2.1) > v4.2.1 then IntKind.i64.wrap ((0:Int) - v5.2.1)else v4.2.1)) fun v6=>(some (Sum.inr (v6.1))))))))
def yDw(ay:List (Q3))(aX:Int):Option (Int×Unit) :=
  (some ((aX,())))
theorem yCN(n:Nat)(hn:big≤n)(ay:List (Q3))(aX:Int)(hx:List.length (ay) < lenMax):LeF some (yM (fun i__ e__ s__=>y8l ay i__ e__ s__) (fun s__=>yDw ay s__) 0 (ay) aX) (y6K n n ay aX 0):=by
  refine yO (f:=some) (W:=fun k__ i__ s__=>y6K n k__ ay s__ i__) (body:=(fun i__ e__ s__=>y8l ay i__ e__ s__)) (fin:=(fun s__=>yDw ay s__)) (fun k__ i__ s__=>?_) hx aX n (by unfold big at hn;unfold lenMax at hx;omega)
  show LeF _ _ (yEr n (y6K n k__) ay s__ i__)
  exact y5 (y7 fun v1=>(y7 fun v2=>(y7 fun v3=>(y7 fun v4=>(y7 fun v5=>(y7 fun v6=>(y6 rfl))))))) (yl (y6 rfl))
def yB7(l:List (Q3))(den:Int):Option (Int×Unit) :=
  (bif decide (List.length (l) < lenMax)then yM (fun i__ e__ s__=>y8l (l) i__ e__ s__) (fun s__=>yDw (l) s__) 0 (l) (den)else none)
theorem yN0(l:List (Q3))(den:Int)(y:Int×Unit)(h:yB7 l den=some y):∃ n,yLQ n l den=some y :=
  ⟨big,LeF.top (show LeF some (yB7 l den) (yLQ big l den)from (fun (n:Nat) (hn:big≤n)=>show LeF some (yB7 l den) (yLQ n l den)from (yK fun hx=>by apply yCN n hn;exact hx)) big (Nat.le_refl _)) h⟩
def z0C_e:Entry:={ f:=110,args:=yOD,ress:=yQg,m:=fun x=>yB7 x.1 x.2.1 }
theorem ySB:FnOK Tryz.prog z0C_e:=yI (g:=yVl) (fn:=Tryz.f110) yD yH (yA yRZ eNil) (by kernel_rfl) (by kernel_rfl) (by kernel_rfl) (fun x y h=>let ⟨n,hn⟩:=yN0 x.1 x.2.1 y h;⟨yMj n,iNil,(yVF n x).trans hn⟩)
abbrev yOW:Ty:=.pair t3 (.pair t3 (.pair t3 .unit))
abbrev yVO:Ty:=.pair t28 .unit
def yVs:G:={ T:=T,E:=[z14_e],muts:=[],fz:=[] }
def yWd:List (List Nat):=[]
def yMK(n:Nat):Ann:={ keep:=yWd,fuel:=n,inl:=[],deep:=0 }
def yKw(n:Nat)(n1:Int)(least:Int)(most:Int):Option (Int×Unit) :=
  (bif decide (n1 < least)then some ((z14 Bool.true (3:Int)).1,())else some ((z14 (decide (n1 > most)) (3:Int)).1,()))
theorem yUm(n:Nat)(x:yOW.den):runF yVs (yMK n) Tryz.f114 yOW yVO x=yKw n x.1 x.2.1 x.2.2.1:=by kernel_rfl
def z0c(n1:Int)(least:Int)(most:Int):(Int×Unit) :=
  (bif decide (n1 < least)then ((z14 Bool.true (3:Int)).1,())else ((z14 (decide (n1 > most)) (3:Int)).1,()))
abbrev yRQ (n1:Int) (least:Int) (most:Int):Option (Int×Unit):=some (z0c n1 least most)
theorem yNi(n1:Int)(least:Int)(most:Int)(y:Int×Unit)(h:yRQ n1 least most=some y):∃ n,yKw n n1 least most=some y :=
  ⟨0,by rw[← h];show yKw 0 n1 least most=some (z0c n1 least most);unfold yKw z0c;first|rfl|(simp only[yJ];done)|(simp only[yJ];rfl)⟩
def z0c_e:Entry:={ f:=114,args:=yOW,ress:=yVO,m:=fun x=>yRQ x.1 x.2.1 x.2.2.1 }
theorem yBN:FnOK Tryz.prog z0c_e:=yI (g:=yVs) (fn:=Tryz.f114) yD yH (yA y5w eNil) (by kernel_rfl) (by kernel_rfl) (by kernel_rfl) (fun x y h=>let ⟨n,hn⟩:=yNi x.1 x.2.1 x.2.2.1 y h;⟨yMK n,iNil,(yUm n x).trans hn⟩)
abbrev zg_a:Ty:=.pair t9 .unit
abbrev zg_r:Ty:=.pair t3 .unit
def zg_g:G:={ T:=T,E:=[z0A_e],muts:=[],fz:=[] }
def zg_k:List (List Nat):=[]
def yRE(n:Nat):Ann:={ keep:=zg_k,fuel:=n,inl:=[],deep:=0 }
def zg_m(n:Nat)(s:List UInt8):Option (Int×Unit) :=
  (Option.bind (yCX s) fun v0=>(bif !v0.1 then some ((8:Int),())else some ((0:Int),())))
theorem yXJ(n:Nat)(x:zg_a.den):runF zg_g (yRE n) Tryz.f118 zg_a zg_r x=zg_m n x.1:=by kernel_rfl
def zg_M(s:List UInt8):Option (Int×Unit):=zg_m 0 s
theorem ySQ(s:List UInt8)(y:Int×Unit)(h:zg_M s=some y):∃ n,zg_m n s=some y:=⟨0,h⟩
def zg_e:Entry:={ f:=118,args:=zg_a,ress:=zg_r,m:=fun x=>zg_M x.1 }
theorem yWt:FnOK Tryz.prog zg_e:=yI (g:=zg_g) (fn:=Tryz.f118) yD yH (yA yST eNil) (by kernel_rfl) (by kernel_rfl) (by kernel_rfl) (fun x y h=>let ⟨n,hn⟩:=ySQ x.1 y h;⟨yRE n,iNil,(yXJ n x).trans hn⟩)
abbrev zo_a:Ty:=.pair t33 .unit
abbrev zo_r:Ty:=.pair t4 .unit
def zo_g:G:={ T:=T,E:=[z06_e],muts:=[],fz:=[] }
def zo_k:List (List Nat):=[[1,6,7,8]]
def yTq(n:Nat):Ann:={ keep:=zo_k,fuel:=n,inl:=[],deep:=0 }
def yJQ(n:Nat)(r0:Q1→List (Q3)→Int→Int→Option (Bool×Unit))(aB:Q1)(aD:List (Q3))(az:Int)(a7:Int):Option (Bool×Unit) :=
  (bif decide (a7 < az)then (Option.bind (idx aD a7) fun v1=>(bif decide ((if (z06 v1.2.1).1 > (z06 v1.1).1 then (z06 v1.2.1).1 else (z06 v1.1).1) > 4194304)then some (Bool.false,())else r0 aB aD az (IntKind.i64.wrap (a7+1))))else some (decide (aB.2.2.1≤4096),()))
def yAA(n:Nat)(k:Nat)(aB:Q1)(aD:List (Q3))(az:Int)(a7:Int):Option (Bool×Unit) :=
  iter (fun r y=>yJQ n (fun aB aD az a7=>r ((aB,(aD,(az,(a7,())))),((),()))) y.1.1 y.1.2.1 y.1.2.2.1 y.1.2.2.2.1) k ((aB,(aD,(az,(a7,())))),((),()))
def zo_m(n:Nat)(t:Q1):Option (Bool×Unit) :=
  (yAA n n (t) (t.2.1) ((↑t.2.1.length:Int)) ((0:Int)))
theorem yXo(n:Nat)(x:zo_a.den):runF zo_g (yTq n) Tryz.f129 zo_a zo_r x=zo_m n x.1:=by kernel_rfl
def yPz(aB:Q1)(aD:List (Q3))(a7:Int)(v1:Q3):Option ((Bool×Unit)⊕Unit) :=
  (bif decide ((if (z06 v1.2.1).1 > (z06 v1.1).1 then (z06 v1.2.1).1 else (z06 v1.1).1) > 4194304)then (some (Sum.inl ((Bool.false,()))))else (some (Sum.inr ())))
def yOA(aB:Q1)(aD:List (Q3)):Option (Bool×Unit) :=
  (some ((decide (aB.2.2.1≤4096),())))
theorem yFg(n:Nat)(hn:big≤n)(aB:Q1)(aD:List (Q3))(hx:List.length (aD) < lenMax):LeF some (yM (fun i__ e__ s__=>yPz aB aD i__ e__) (fun s__=>yOA aB aD) 0 (aD) ()) (yAA n n aB aD (List.length (aD):Int) 0):=by
  refine yO (f:=some) (W:=fun k__ i__ s__=>yAA n k__ aB aD (List.length (aD):Int) i__) (body:=(fun i__ e__ s__=>yPz aB aD i__ e__)) (fin:=(fun s__=>yOA aB aD)) (fun k__ i__ s__=>?_) hx () n (by unfold big at hn;unfold lenMax at hx;omega)
  show LeF _ _ (yJQ n (yAA n k__) aB aD (List.length (aD):Int) i__)
  exact y5 (y7 fun v1=>(y5 (y6 rfl) (y6 rfl))) (yl (y6 rfl))
def zo_M(t:Q1):Option (Bool×Unit) :=
  (bif decide (List.length (t.2.1) < lenMax)then yM (fun i__ e__ s__=>yPz (t) (t.2.1) i__ e__) (fun s__=>yOA (t) (t.2.1)) 0 (t.2.1) ()else none)
theorem yTL(t:Q1)(y:Bool×Unit)(h:zo_M t=some y):∃ n,zo_m n t=some y :=
  ⟨big,LeF.top (show LeF some (zo_M t) (zo_m big t)from (fun (n:Nat) (hn:big≤n)=>show LeF some (zo_M t) (zo_m n t)from (yK fun hx=>by apply yFg n hn;exact hx)) big (Nat.le_refl _)) h⟩
def zo_e:Entry:={ f:=129,args:=zo_a,ress:=zo_r,m:=fun x=>zo_M x.1 }
theorem yYs:FnOK Tryz.prog zo_e:=yI (g:=zo_g) (fn:=Tryz.f129) yD yH (yA yBk eNil) (by kernel_rfl) (by kernel_rfl) (by kernel_rfl) (fun x y h=>let ⟨n,hn⟩:=yTL x.1 y h;⟨yTq n,iNil,(yXo n x).trans hn⟩)
abbrev yOy:Ty:=.pair t57 .unit
abbrev yWB:Ty:=.pair t28 .unit
def yUr:G:={ T:=T,E:=[z06_e,z14_e],muts:=[],fz:=[] }
def yWf:List (List Nat):=[]
def yMo(n:Nat):Ann:={ keep:=yWf,fuel:=n,inl:=[],deep:=0 }
def yKm(n:Nat)(z:Q3):Option (Int×Unit) :=
  some ((z14 (decide ((if (z06 z.2.1).1 > (z06 z.1).1 then (z06 z.2.1).1 else (z06 z.1).1) > 16777216)) (1:Int)).1,())
theorem yRD(n:Nat)(x:yOy.den):runF yUr (yMo n) Tryz.f138 yOy yWB x=yKm n x.1:=by kernel_rfl
def z0W(z:Q3):(Int×Unit) :=
  ((z14 (decide ((if (z06 z.2.1).1 > (z06 z.1).1 then (z06 z.2.1).1 else (z06 z.1).1) > 16777216)) (1:Int)).1,())
abbrev yQD (z:Q3):Option (Int×Unit):=some (z0W z)
theorem yPc(z:Q3)(y:Int×Unit)(h:yQD z=some y):∃ n,yKm n z=some y :=
  ⟨0,by rw[← h];show yKm 0 z=some (z0W z);unfold yKm z0W;first|rfl|(simp only[yJ];done)|(simp only[yJ];rfl)⟩
def z0W_e:Entry:={ f:=138,args:=yOy,ress:=yWB,m:=fun x=>yQD x.1 }
theorem yTG:FnOK Tryz.prog z0W_e:=yI (g:=yUr) (fn:=Tryz.f138) yD yH (yA yBk (yA y5w eNil)) (by kernel_rfl) (by kernel_rfl) (by kernel_rfl) (fun x y h=>let ⟨n,hn⟩:=yPc x.1 y h;⟨yMo n,iNil,(yRD n x).trans hn⟩)
abbrev yOl:Ty:=.pair t60 (.pair t55 (.pair t55 .unit))
abbrev yT1:Ty:=.pair t57 .unit
def yUV:G:={ T:=T,E:=[zS_e,zx_e,z0v_e,z13_e],muts:=[],fz:=[] }
def yYM:List (List Nat):=[]
def yMl(n:Nat):Ann:={ keep:=yYM,fuel:=n,inl:=[il124,il195],deep:=3 }
def y79(n:Nat)(r0:List UInt8×Int×List Nat×List (Q3)×Unit→List (Q3)→List Nat→Int→Int→List UInt8×Int×List Nat×List (Q3)×Unit→Q2→Q2→List UInt8×Int×List Nat×List (Q3)×Unit→Q2→Q2→Q3→List UInt8×Int×List Nat×List (Q3)×Unit→List UInt8×Int×List Nat×List (Q3)×Unit→Int→Int→Int→Int→List UInt8×Int×List Nat×List (Q3)×Unit→Q2→Q2→List UInt8×Int×List Nat×List (Q3)×Unit→Q2→Q2→Q3→List UInt8×Int×List Nat×List (Q3)×Unit→List UInt8×Int×List Nat×List (Q3)×Unit→Option ((Q3)×Unit))(j8:List UInt8×Int×List Nat×List (Q3)×Unit)(j9:List (Q3))(j10:Int)(j11:Nat)(j12:List Nat)(j13:Int)(j14:Int)(j15:List UInt8×Int×List Nat×List (Q3)×Unit)(j16:Q2)(j17:Q2)(j18:List UInt8×Int×List Nat×List (Q3)×Unit)(j19:Q2)(j20:Q2)(j21:Q3)(j22:List UInt8×Int×List Nat×List (Q3)×Unit)(j23:List UInt8×Int×List Nat×List (Q3)×Unit)(j24:Int)(j25:Int)(j26:Int)(j27:Int)(j28:List UInt8×Int×List Nat×List (Q3)×Unit)(j29:Q2)(j30:Q2)(j31:List UInt8×Int×List Nat×List (Q3)×Unit)(j32:Q2)(j33:Q2)(j34:Q3)(j35:List UInt8×Int×List Nat×List (Q3)×Unit)(j36:List UInt8×Int×List Nat×List (Q3)×Unit):Option ((Q3)×Unit) :=
  (bif decide ((↑j9.length:Int) > 0)then (Option.bind (idx j9 (0:Int)) fun v37=>(bif decide (v37.1≤j10)then r0 j8 j9 j12 j13 (IntKind.i64.wrap (j14+1)) j15 j16 j17 j18 j19 j20 j21 j22 j23 j24 j25 j26 j27 j28 j29 j30 j31 j32 j33 j34 j35 j36 else (Option.bind (yp Go.FloatKind.f32 (y0H Go.BinOp.mul Go.FloatKind.f32 j11 (nat_lit 1098907648)) IntKind.i64) fun v42=>(Option.bind (zS_M j19 (IntKind.i64.wrap (j8.2.1+j10))) fun v43=>(Option.bind (zS_M j20 (IntKind.i64.wrap (j8.2.1+j10))) fun v44=>r0 j8 j9 j12 j13 (IntKind.i64.wrap (j14+1)) j15 j16 j17 j18 j19 j20 j21 j22 j23 j24 j25 (z13 (j26,j27,()) (z0v (zx v43.1).1 v44.1).1).1.1 (z13 (j26,j27,()) (z0v (zx v43.1).1 v44.1).1).1.2.1 j28 j29 j30 j31 j32 j33 j34 j35 j36)))))else (Option.bind (yp Go.FloatKind.f32 (y0H Go.BinOp.mul Go.FloatKind.f32 j11 (nat_lit 1098907648)) IntKind.i64) fun v45=>(Option.bind (zS_M j19 (IntKind.i64.wrap (j8.2.1+j10))) fun v46=>(Option.bind (zS_M j20 (IntKind.i64.wrap (j8.2.1+j10))) fun v47=>r0 j8 j9 j12 j13 (IntKind.i64.wrap (j14+1)) j15 j16 j17 j18 j19 j20 j21 j22 j23 j24 j25 (z13 (j26,j27,()) (z0v (zx v46.1).1 v47.1).1).1.1 (z13 (j26,j27,()) (z0v (zx v46.1).1 v47.1).1).1.2.1 j28 j29 j30 j31 j32 j33 j34 j35 j36))))
def yEO(n:Nat)(r0:List UInt8×Int×List Nat×List (Q3)×Unit→List (Q3)→List Nat→Int→Int→List UInt8×Int×List Nat×List (Q3)×Unit→Q2→Q2→List UInt8×Int×List Nat×List (Q3)×Unit→Q2→Q2→Q3→List UInt8×Int×List Nat×List (Q3)×Unit→List UInt8×Int×List Nat×List (Q3)×Unit→Int→Int→Int→Int→List UInt8×Int×List Nat×List (Q3)×Unit→Q2→Q2→List UInt8×Int×List Nat×List (Q3)×Unit→Q2→Q2→Q3→List UInt8×Int×List Nat×List (Q3)×Unit→List UInt8×Int×List Nat×List (Q3)×Unit→Option ((Q3)×Unit))(r2:List UInt8×Int×List Nat×List (Q3)×Unit→List (Q3)→Int→Nat→List Nat→Int→Int→List UInt8×Int×List Nat×List (Q3)×Unit→Q2→Q2→List UInt8×Int×List Nat×List (Q3)×Unit→Q2→Q2→Q3→List UInt8×Int×List Nat×List (Q3)×Unit→List UInt8×Int×List Nat×List (Q3)×Unit→Int→Int→Int→Int→List UInt8×Int×List Nat×List (Q3)×Unit→Q2→Q2→List UInt8×Int×List Nat×List (Q3)×Unit→Q2→Q2→Q3→List UInt8×Int×List Nat×List (Q3)×Unit→List UInt8×Int×List Nat×List (Q3)×Unit→Option ((Q3)×Unit))(aE:List UInt8×Int×List Nat×List (Q3)×Unit)(ac:List (Q3))(aF:Int)(aJ:Nat)(ax:List Nat)(aq:Int)(ar:Int)(p0_0_2:List UInt8×Int×List Nat×List (Q3)×Unit)(p0_1_2:Q2)(p0_2_2:Q2)(p0_3_2:List UInt8×Int×List Nat×List (Q3)×Unit)(p0_4_2:Q2)(p0_5_2:Q2)(p0_9_2:Q3)(p0_10_2:List UInt8×Int×List Nat×List (Q3)×Unit)(p0_11_2_0:List UInt8×Int×List Nat×List (Q3)×Unit)(b1_0_2:Int)(b1_1_2:Int)(b2_0_2:Int)(b2_1_2:Int)(aG:List UInt8×Int×List Nat×List (Q3)×Unit)(aH:Q2)(aU:Q2)(ba:List UInt8×Int×List Nat×List (Q3)×Unit)(bc:Q2)(aS:Q2)(bd:Q3)(b4:List UInt8×Int×List Nat×List (Q3)×Unit)(k11_2_0:List UInt8×Int×List Nat×List (Q3)×Unit):Option ((Q3)×Unit) :=
  (bif decide ((↑ac.length:Int) > 0)then (Option.bind (idx ac (0:Int)) fun v3=>(bif decide (v3.2.1≤aF)then (bif decide ((0:Int)≤1) && decide ((1:Int)≤(↑ac.length:Int))then r2 aE (List.drop (Int.toNat (1:Int)) ac) aF aJ ax aq ar p0_0_2 p0_1_2 p0_2_2 p0_3_2 p0_4_2 p0_5_2 p0_9_2 p0_10_2 p0_11_2_0 b1_0_2 b1_1_2 b2_0_2 b2_1_2 aG aH aU ba bc aS bd b4 k11_2_0 else none)else (y79 n r0 (aE) (ac) (aF) (aJ) (ax) (aq) (ar) (p0_0_2) (p0_1_2) (p0_2_2) (p0_3_2) (p0_4_2) (p0_5_2) (p0_9_2) (p0_10_2) (p0_11_2_0) (b1_0_2) (b1_1_2) (b2_0_2) (b2_1_2) (aG) (aH) (aU) (ba) (bc) (aS) (bd) (b4) (k11_2_0))))else (y79 n r0 (aE) (ac) (aF) (aJ) (ax) (aq) (ar) (p0_0_2) (p0_1_2) (p0_2_2) (p0_3_2) (p0_4_2) (p0_5_2) (p0_9_2) (p0_10_2) (p0_11_2_0) (b1_0_2) (b1_1_2) (b2_0_2) (b2_1_2) (aG) (aH) (aU) (ba) (bc) (aS) (bd) (b4) (k11_2_0)))
def y6l(n:Nat)(r0:List UInt8×Int×List Nat×List (Q3)×Unit→List (Q3)→List Nat→Int→Int→List UInt8×Int×List Nat×List (Q3)×Unit→Q2→Q2→List UInt8×Int×List Nat×List (Q3)×Unit→Q2→Q2→Q3→List UInt8×Int×List Nat×List (Q3)×Unit→List UInt8×Int×List Nat×List (Q3)×Unit→Int→Int→Int→Int→List UInt8×Int×List Nat×List (Q3)×Unit→Q2→Q2→List UInt8×Int×List Nat×List (Q3)×Unit→Q2→Q2→Q3→List UInt8×Int×List Nat×List (Q3)×Unit→List UInt8×Int×List Nat×List (Q3)×Unit→Option ((Q3)×Unit))(k:Nat)(aE:List UInt8×Int×List Nat×List (Q3)×Unit)(ac:List (Q3))(aF:Int)(aJ:Nat)(ax:List Nat)(aq:Int)(ar:Int)(p0_0_2:List UInt8×Int×List Nat×List (Q3)×Unit)(p0_1_2:Q2)(p0_2_2:Q2)(p0_3_2:List UInt8×Int×List Nat×List (Q3)×Unit)(p0_4_2:Q2)(p0_5_2:Q2)(p0_9_2:Q3)(p0_10_2:List UInt8×Int×List Nat×List (Q3)×Unit)(p0_11_2_0:List UInt8×Int×List Nat×List (Q3)×Unit)(b1_0_2:Int)(b1_1_2:Int)(b2_0_2:Int)(b2_1_2:Int)(aG:List UInt8×Int×List Nat×List (Q3)×Unit)(aH:Q2)(aU:Q2)(ba:List UInt8×Int×List Nat×List (Q3)×Unit)(bc:Q2)(aS:Q2)(bd:Q3)(b4:List UInt8×Int×List Nat×List (Q3)×Unit)(k11_2_0:List UInt8×Int×List Nat×List (Q3)×Unit):Option ((Q3)×Unit) :=
  iter (fun r y=>yEO n r0 (fun aE ac aF aJ ax aq ar p0_0_2 p0_1_2 p0_2_2 p0_3_2 p0_4_2 p0_5_2 p0_9_2 p0_10_2 p0_11_2_0 b1_0_2 b1_1_2 b2_0_2 b2_1_2 aG aH aU ba bc aS bd b4 k11_2_0=>r ((aE,(ac,(aF,(aJ,(ax,(aq,(ar,()))))))),(((p0_0_2,(p0_1_2,(p0_2_2,(p0_3_2,(p0_4_2,(p0_5_2,(p0_9_2,(p0_10_2,((p0_11_2_0,()),()))))))))),((b1_0_2,(b1_1_2,())),((b2_0_2,(b2_1_2,())),()))),(aG,(aH,(aU,(ba,(bc,(aS,(bd,(b4,((k11_2_0,()),())))))))))))) y.1.1 y.1.2.1 y.1.2.2.1 y.1.2.2.2.1 y.1.2.2.2.2.1 y.1.2.2.2.2.2.1 y.1.2.2.2.2.2.2.1 y.2.1.1.1 y.2.1.1.2.1 y.2.1.1.2.2.1 y.2.1.1.2.2.2.1 y.2.1.1.2.2.2.2.1 y.2.1.1.2.2.2.2.2.1 y.2.1.1.2.2.2.2.2.2.1 y.2.1.1.2.2.2.2.2.2.2.1 y.2.1.1.2.2.2.2.2.2.2.2.1.1 y.2.1.2.1.1 y.2.1.2.1.2.1 y.2.1.2.2.1.1 y.2.1.2.2.1.2.1 y.2.2.1 y.2.2.2.1 y.2.2.2.2.1 y.2.2.2.2.2.1 y.2.2.2.2.2.2.1 y.2.2.2.2.2.2.2.1 y.2.2.2.2.2.2.2.2.1 y.2.2.2.2.2.2.2.2.2.1 y.2.2.2.2.2.2.2.2.2.2.1.1) k ((aE,(ac,(aF,(aJ,(ax,(aq,(ar,()))))))),(((p0_0_2,(p0_1_2,(p0_2_2,(p0_3_2,(p0_4_2,(p0_5_2,(p0_9_2,(p0_10_2,((p0_11_2_0,()),()))))))))),((b1_0_2,(b1_1_2,())),((b2_0_2,(b2_1_2,())),()))),(aG,(aH,(aU,(ba,(bc,(aS,(bd,(b4,((k11_2_0,()),())))))))))))
def yEZ(n:Nat)(r0:List UInt8×Int×List Nat×List (Q3)×Unit→List (Q3)→List Nat→Int→Int→List UInt8×Int×List Nat×List (Q3)×Unit→Q2→Q2→List UInt8×Int×List Nat×List (Q3)×Unit→Q2→Q2→Q3→List UInt8×Int×List Nat×List (Q3)×Unit→List UInt8×Int×List Nat×List (Q3)×Unit→Int→Int→Int→Int→List UInt8×Int×List Nat×List (Q3)×Unit→Q2→Q2→List UInt8×Int×List Nat×List (Q3)×Unit→Q2→Q2→Q3→List UInt8×Int×List Nat×List (Q3)×Unit→List UInt8×Int×List Nat×List (Q3)×Unit→Option ((Q3)×Unit))(aB:List UInt8×Int×List Nat×List (Q3)×Unit)(aj:List (Q3))(af:List Nat)(ae:Int)(am:Int)(p0_0_0:List UInt8×Int×List Nat×List (Q3)×Unit)(p0_1_0:Q2)(p0_2_0:Q2)(p0_3_0:List UInt8×Int×List Nat×List (Q3)×Unit)(p0_4_0:Q2)(p0_5_0:Q2)(p0_9_0:Q3)(p0_10_0:List UInt8×Int×List Nat×List (Q3)×Unit)(p0_11_0_0:List UInt8×Int×List Nat×List (Q3)×Unit)(b1_0_0:Int)(b1_1_0:Int)(b2_0_0:Int)(b2_1_0:Int)(aK:List UInt8×Int×List Nat×List (Q3)×Unit)(aL:Q2)(aW:Q2)(bj:List UInt8×Int×List Nat×List (Q3)×Unit)(bl:Q2)(aQ:Q2)(bm:Q3)(b7:List UInt8×Int×List Nat×List (Q3)×Unit)(k11_0_0:List UInt8×Int×List Nat×List (Q3)×Unit):Option ((Q3)×Unit) :=
  (bif decide (am < ae)then (Option.bind (idx af am) fun v1=>(y6l n r0 n (aB) (aj) (am) (v1) (af) (ae) (am) (p0_0_0) (p0_1_0) (p0_2_0) (p0_3_0) (p0_4_0) (p0_5_0) (p0_9_0) (p0_10_0) (p0_11_0_0) (b1_0_0) (b1_1_0) (b2_0_0) (b2_1_0) (aK) (aL) (aW) (bj) (bl) (aQ) (bm) (b7) (k11_0_0)))else some ((b2_0_0,b2_1_0,()),()))
def y6d(n:Nat)(k:Nat)(aB:List UInt8×Int×List Nat×List (Q3)×Unit)(aj:List (Q3))(af:List Nat)(ae:Int)(am:Int)(p0_0_0:List UInt8×Int×List Nat×List (Q3)×Unit)(p0_1_0:Q2)(p0_2_0:Q2)(p0_3_0:List UInt8×Int×List Nat×List (Q3)×Unit)(p0_4_0:Q2)(p0_5_0:Q2)(p0_9_0:Q3)(p0_10_0:List UInt8×Int×List Nat×List (Q3)×Unit)(p0_11_0_0:List UInt8×Int×List Nat×List (Q3)×Unit)(b1_0_0:Int)(b1_1_0:Int)(b2_0_0:Int)(b2_1_0:Int)(aK:List UInt8×Int×List Nat×List (Q3)×Unit)(aL:Q2)(aW:Q2)(bj:List UInt8×Int×List Nat×List (Q3)×Unit)(bl:Q2)(aQ:Q2)(bm:Q3)(b7:List UInt8×Int×List Nat×List (Q3)×Unit)(k11_0_0:List UInt8×Int×List Nat×List (Q3)×Unit):Option ((Q3)×Unit) :=
  iter (fun r y=>yEZ n (fun aB aj af ae am p0_0_0 p0_1_0 p0_2_0 p0_3_0 p0_4_0 p0_5_0 p0_9_0 p0_10_0 p0_11_0_0 b1_0_0 b1_1_0 b2_0_0 b2_1_0 aK aL aW bj bl aQ bm b7 k11_0_0=>r ((aB,(aj,(af,(ae,(am,()))))),(((p0_0_0,(p0_1_0,(p0_2_0,(p0_3_0,(p0_4_0,(p0_5_0,(p0_9_0,(p0_10_0,((p0_11_0_0,()),()))))))))),((b1_0_0,(b1_1_0,())),((b2_0_0,(b2_1_0,())),()))),(aK,(aL,(aW,(bj,(bl,(aQ,(bm,(b7,((k11_0_0,()),())))))))))))) y.1.1 y.1.2.1 y.1.2.2.1 y.1.2.2.2.1 y.1.2.2.2.2.1 y.2.1.1.1 y.2.1.1.2.1 y.2.1.1.2.2.1 y.2.1.1.2.2.2.1 y.2.1.1.2.2.2.2.1 y.2.1.1.2.2.2.2.2.1 y.2.1.1.2.2.2.2.2.2.1 y.2.1.1.2.2.2.2.2.2.2.1 y.2.1.1.2.2.2.2.2.2.2.2.1.1 y.2.1.2.1.1 y.2.1.2.1.2.1 y.2.1.2.2.1.1 y.2.1.2.2.1.2.1 y.2.2.1 y.2.2.2.1 y.2.2.2.2.1 y.2.2.2.2.2.1 y.2.2.2.2.2.2.1 y.2.2.2.2.2.2.2.1 y.2.2.2.2.2.2.2.2.1 y.2.2.2.2.2.2.2.2.2.1 y.2.2.2.2.2.2.2.2.2.2.1.1) k ((aB,(aj,(af,(ae,(am,()))))),(((p0_0_0,(p0_1_0,(p0_2_0,(p0_3_0,(p0_4_0,(p0_5_0,(p0_9_0,(p0_10_0,((p0_11_0_0,()),()))))))))),((b1_0_0,(b1_1_0,())),((b2_0_0,(b2_1_0,())),()))),(aK,(aL,(aW,(bj,(bl,(aQ,(bm,(b7,((k11_0_0,()),())))))))))))
def yLB(n:Nat)(r1:List UInt8×Int×List Nat×List (Q3)×Unit)(a:Q2)(b:Q2):Option ((Q3)×Unit) :=
  (y6d n n (r1) (r1.2.2.2.1) (r1.2.2.1) ((↑r1.2.2.1.length:Int)) ((0:Int)) (r1) (a) (b) (r1) (a) (b) (((0:Int),(0:Int),())) (r1) (r1) ((0:Int)) ((0:Int)) ((0:Int)) ((0:Int)) (r1) (a) (b) (r1) (a) (b) (((0:Int),(0:Int),())) (r1) (r1))
theorem yTS(n:Nat)(x:yOl.den):runF yUV (yMl n) Tryz.f148 yOl yT1 x=yLB n x.1 x.2.1 x.2.2.1:=by kernel_rfl
def yCd(j8:List UInt8×Int×List Nat×List (Q3)×Unit)(j9:List (Q3))(j10:Int)(j11:Nat)(j12:List Nat)(j13:Int)(j14:Int)(j15:List UInt8×Int×List Nat×List (Q3)×Unit)(j16:Q2)(j17:Q2)(j18:List UInt8×Int×List Nat×List (Q3)×Unit)(j19:Q2)(j20:Q2)(j21:Q3)(j22:List UInt8×Int×List Nat×List (Q3)×Unit)(j23:List UInt8×Int×List Nat×List (Q3)×Unit)(j24:Int)(j25:Int)(j26:Int)(j27:Int)(j28:List UInt8×Int×List Nat×List (Q3)×Unit)(j29:Q2)(j30:Q2)(j31:List UInt8×Int×List Nat×List (Q3)×Unit)(j32:Q2)(j33:Q2)(j34:Q3)(j35:List UInt8×Int×List Nat×List (Q3)×Unit)(j36:List UInt8×Int×List Nat×List (Q3)×Unit):Option (((Q3)×Unit)⊕((List (Q3))×Int×Int)) :=
  (bif decide ((↑j9.length:Int) > 0)then (Option.bind (idx j9 (0:Int)) fun v37=>(bif decide (v37.1≤j10)then (some (Sum.inr ((j9),(j26),(j27))))else (Option.bind (yp Go.FloatKind.f32 (y0H Go.BinOp.mul Go.FloatKind.f32 j11 (nat_lit 1098907648)) IntKind.i64) fun v42=>(Option.bind (zS_M j19 (IntKind.i64.wrap (j8.2.1+j10))) fun v43=>(Option.bind (zS_M j20 (IntKind.i64.wrap (j8.2.1+j10))) fun v44=>(some (Sum.inr ((j9),((z13 (j26,j27,()) (z0v (zx v43.1).1 v44.1).1).1.1),((z13 (j26,j27,()) (z0v (zx v43.1).1 v44.1).1).1.2.1)))))))))else (Option.bind (yp Go.FloatKind.f32 (y0H Go.BinOp.mul Go.FloatKind.f32 j11 (nat_lit 1098907648)) IntKind.i64) fun v45=>(Option.bind (zS_M j19 (IntKind.i64.wrap (j8.2.1+j10))) fun v46=>(Option.bind (zS_M j20 (IntKind.i64.wrap (j8.2.1+j10))) fun v47=>(some (Sum.inr ((j9),((z13 (j26,j27,()) (z0v (zx v46.1).1 v47.1).1).1.1),((z13 (j26,j27,()) (z0v (zx v46.1).1 v47.1).1).1.2.1))))))))
theorem y2q(n:Nat)(hn:big≤n)(r0:List UInt8×Int×List Nat×List (Q3)×Unit→List (Q3)→List Nat→Int→Int→List UInt8×Int×List Nat×List (Q3)×Unit→Q2→Q2→List UInt8×Int×List Nat×List (Q3)×Unit→Q2→Q2→Q3→List UInt8×Int×List Nat×List (Q3)×Unit→List UInt8×Int×List Nat×List (Q3)×Unit→Int→Int→Int→Int→List UInt8×Int×List Nat×List (Q3)×Unit→Q2→Q2→List UInt8×Int×List Nat×List (Q3)×Unit→Q2→Q2→Q3→List UInt8×Int×List Nat×List (Q3)×Unit→List UInt8×Int×List Nat×List (Q3)×Unit→Option ((Q3)×Unit))(j8:List UInt8×Int×List Nat×List (Q3)×Unit)(j9:List (Q3))(j10:Int)(j11:Nat)(j12:List Nat)(j13:Int)(j14:Int)(j15:List UInt8×Int×List Nat×List (Q3)×Unit)(j16:Q2)(j17:Q2)(j18:List UInt8×Int×List Nat×List (Q3)×Unit)(j19:Q2)(j20:Q2)(j21:Q3)(j22:List UInt8×Int×List Nat×List (Q3)×Unit)(j23:List UInt8×Int×List Nat×List (Q3)×Unit)(j24:Int)(j25:Int)(j26:Int)(j27:Int)(j28:List UInt8×Int×List Nat×List (Q3)×Unit)(j29:Q2)(j30:Q2)(j31:List UInt8×Int×List Nat×List (Q3)×Unit)(j32:Q2)(j33:Q2)(j34:Q3)(j35:List UInt8×Int×List Nat×List (Q3)×Unit)(j36:List UInt8×Int×List Nat×List (Q3)×Unit):LeF (elim some fun (s__:((List (Q3))×Int×Int))=>r0 j8 s__.1 j12 j13 (IntKind.i64.wrap (j14+1)) j15 j16 j17 j18 j19 j20 j21 j22 j23 j24 j25 s__.2.1 s__.2.2 j28 j29 j30 j31 j32 j33 j34 j35 j36) (yCd j8 j9 j10 j11 j12 j13 j14 j15 j16 j17 j18 j19 j20 j21 j22 j23 j24 j25 j26 j27 j28 j29 j30 j31 j32 j33 j34 j35 j36) (y79 n r0 j8 j9 j10 j11 j12 j13 j14 j15 j16 j17 j18 j19 j20 j21 j22 j23 j24 j25 j26 j27 j28 j29 j30 j31 j32 j33 j34 j35 j36) :=
  (y5 (y7 fun v37=>(y5 (y6 rfl) (y7 fun v42=>(y7 fun v43=>(y7 fun v44=>(y6 rfl)))))) (y7 fun v45=>(y7 fun v46=>(y7 fun v47=>(y6 rfl)))))
def yHF(aE:List UInt8×Int×List Nat×List (Q3)×Unit)(aF:Int)(aJ:Nat)(ax:List Nat)(aq:Int)(ar:Int)(p0_0_2:List UInt8×Int×List Nat×List (Q3)×Unit)(p0_1_2:Q2)(p0_2_2:Q2)(p0_3_2:List UInt8×Int×List Nat×List (Q3)×Unit)(p0_4_2:Q2)(p0_5_2:Q2)(p0_9_2:Q3)(p0_10_2:List UInt8×Int×List Nat×List (Q3)×Unit)(p0_11_2_0:List UInt8×Int×List Nat×List (Q3)×Unit)(b1_0_2:Int)(b1_1_2:Int)(b2_0_2:Int)(b2_1_2:Int)(aG:List UInt8×Int×List Nat×List (Q3)×Unit)(aH:Q2)(aU:Q2)(ba:List UInt8×Int×List Nat×List (Q3)×Unit)(bc:Q2)(aS:Q2)(bd:Q3)(b4:List UInt8×Int×List Nat×List (Q3)×Unit)(k11_2_0:List UInt8×Int×List Nat×List (Q3)×Unit)(ac:List (Q3)):Option ((((Q3)×Unit)⊕((List (Q3))×Int×Int))⊕(List (Q3))) :=
  (bif decide ((↑ac.length:Int) > 0)then (Option.bind (idx ac (0:Int)) fun v3=>(bif decide (v3.2.1≤aF)then (bif decide ((0:Int)≤1) && decide ((1:Int)≤(↑ac.length:Int))then (some (Sum.inr (List.drop (Int.toNat (1:Int)) ac)))else none)else (Option.map Sum.inl (yCd (aE) (ac) (aF) (aJ) (ax) (aq) (ar) (p0_0_2) (p0_1_2) (p0_2_2) (p0_3_2) (p0_4_2) (p0_5_2) (p0_9_2) (p0_10_2) (p0_11_2_0) (b1_0_2) (b1_1_2) (b2_0_2) (b2_1_2) (aG) (aH) (aU) (ba) (bc) (aS) (bd) (b4) (k11_2_0)))))else (Option.map Sum.inl (yCd (aE) (ac) (aF) (aJ) (ax) (aq) (ar) (p0_0_2) (p0_1_2) (p0_2_2) (p0_3_2) (p0_4_2) (p0_5_2) (p0_9_2) (p0_10_2) (p0_11_2_0) (b1_0_2) (b1_1_2) (b2_0_2) (b2_1_2) (aG) (aH) (aU) (ba) (bc) (aS) (bd) (b4) (k11_2_0))))
theorem yCa(n:Nat)(hn:big≤n)(r0:List UInt8×Int×List Nat×List (Q3)×Unit→List (Q3)→List Nat→Int→Int→List UInt8×Int×List Nat×List (Q3)×Unit→Q2→Q2→List UInt8×Int×List Nat×List (Q3)×Unit→Q2→Q2→Q3→List UInt8×Int×List Nat×List (Q3)×Unit→List UInt8×Int×List Nat×List (Q3)×Unit→Int→Int→Int→Int→List UInt8×Int×List Nat×List (Q3)×Unit→Q2→Q2→List UInt8×Int×List Nat×List (Q3)×Unit→Q2→Q2→Q3→List UInt8×Int×List Nat×List (Q3)×Unit→List UInt8×Int×List Nat×List (Q3)×Unit→Option ((Q3)×Unit))(aE:List UInt8×Int×List Nat×List (Q3)×Unit)(aF:Int)(aJ:Nat)(ax:List Nat)(aq:Int)(ar:Int)(p0_0_2:List UInt8×Int×List Nat×List (Q3)×Unit)(p0_1_2:Q2)(p0_2_2:Q2)(p0_3_2:List UInt8×Int×List Nat×List (Q3)×Unit)(p0_4_2:Q2)(p0_5_2:Q2)(p0_9_2:Q3)(p0_10_2:List UInt8×Int×List Nat×List (Q3)×Unit)(p0_11_2_0:List UInt8×Int×List Nat×List (Q3)×Unit)(b1_0_2:Int)(b1_1_2:Int)(b2_0_2:Int)(b2_1_2:Int)(aG:List UInt8×Int×List Nat×List (Q3)×Unit)(aH:Q2)(aU:Q2)(ba:List UInt8×Int×List Nat×List (Q3)×Unit)(bc:Q2)(aS:Q2)(bd:Q3)(b4:List UInt8×Int×List Nat×List (Q3)×Unit)(k11_2_0:List UInt8×Int×List Nat×List (Q3)×Unit)(ac:List (Q3)):LeF (elim some fun (s__:((List (Q3))×Int×Int))=>r0 aE s__.1 ax aq (IntKind.i64.wrap (ar+1)) p0_0_2 p0_1_2 p0_2_2 p0_3_2 p0_4_2 p0_5_2 p0_9_2 p0_10_2 p0_11_2_0 b1_0_2 b1_1_2 s__.2.1 s__.2.2 aG aH aU ba bc aS bd b4 k11_2_0) (y2y (fun s__=>yHF aE aF aJ ax aq ar p0_0_2 p0_1_2 p0_2_2 p0_3_2 p0_4_2 p0_5_2 p0_9_2 p0_10_2 p0_11_2_0 b1_0_2 b1_1_2 b2_0_2 b2_1_2 aG aH aU ba bc aS bd b4 k11_2_0 s__) wMax ac) (y6l n r0 n aE ac aF aJ ax aq ar p0_0_2 p0_1_2 p0_2_2 p0_3_2 p0_4_2 p0_5_2 p0_9_2 p0_10_2 p0_11_2_0 b1_0_2 b1_1_2 b2_0_2 b2_1_2 aG aH aU ba bc aS bd b4 k11_2_0):=by
  refine y31 (f:=(elim some fun (s__:((List (Q3))×Int×Int))=>r0 aE s__.1 ax aq (IntKind.i64.wrap (ar+1)) p0_0_2 p0_1_2 p0_2_2 p0_3_2 p0_4_2 p0_5_2 p0_9_2 p0_10_2 p0_11_2_0 b1_0_2 b1_1_2 s__.2.1 s__.2.2 aG aH aU ba bc aS bd b4 k11_2_0)) (W:=fun k__ s__=>y6l n r0 k__ aE s__ aF aJ ax aq ar p0_0_2 p0_1_2 p0_2_2 p0_3_2 p0_4_2 p0_5_2 p0_9_2 p0_10_2 p0_11_2_0 b1_0_2 b1_1_2 b2_0_2 b2_1_2 aG aH aU ba bc aS bd b4 k11_2_0) (body:=(fun s__=>yHF aE aF aJ ax aq ar p0_0_2 p0_1_2 p0_2_2 p0_3_2 p0_4_2 p0_5_2 p0_9_2 p0_10_2 p0_11_2_0 b1_0_2 b1_1_2 b2_0_2 b2_1_2 aG aH aU ba bc aS bd b4 k11_2_0 s__)) (fun k__ s__=>?_) wMax n ac (by unfold big at hn;unfold wMax;omega)
  show LeF _ _ (yEO n r0 (y6l n r0 k__) aE s__ aF aJ ax aq ar p0_0_2 p0_1_2 p0_2_2 p0_3_2 p0_4_2 p0_5_2 p0_9_2 p0_10_2 p0_11_2_0 b1_0_2 b1_1_2 b2_0_2 b2_1_2 aG aH aU ba bc aS bd b4 k11_2_0)
  exact (y5 (y7 fun v3=>(y5 (y5 (y6 rfl) yc) (yl (by apply y2q n hn)))) (yl (by apply y2q n hn)))
def yIz(aB:List UInt8×Int×List Nat×List (Q3)×Unit)(af:List Nat)(p0_0_0:List UInt8×Int×List Nat×List (Q3)×Unit)(p0_1_0:Q2)(p0_2_0:Q2)(p0_3_0:List UInt8×Int×List Nat×List (Q3)×Unit)(p0_4_0:Q2)(p0_5_0:Q2)(p0_9_0:Q3)(p0_10_0:List UInt8×Int×List Nat×List (Q3)×Unit)(p0_11_0_0:List UInt8×Int×List Nat×List (Q3)×Unit)(b1_0_0:Int)(b1_1_0:Int)(aK:List UInt8×Int×List Nat×List (Q3)×Unit)(aL:Q2)(aW:Q2)(bj:List UInt8×Int×List Nat×List (Q3)×Unit)(bl:Q2)(aQ:Q2)(bm:Q3)(b7:List UInt8×Int×List Nat×List (Q3)×Unit)(k11_0_0:List UInt8×Int×List Nat×List (Q3)×Unit)(am:Int)(v1:Nat)(aj:List (Q3))(b2_0_0:Int)(b2_1_0:Int):Option (((Q3)×Unit)⊕((List (Q3))×Int×Int)) :=
  (y2y (fun s__=>yHF (aB) (am) (v1) (af) ((↑af.length:Int)) (am) (p0_0_0) (p0_1_0) (p0_2_0) (p0_3_0) (p0_4_0) (p0_5_0) (p0_9_0) (p0_10_0) (p0_11_0_0) (b1_0_0) (b1_1_0) (b2_0_0) (b2_1_0) (aK) (aL) (aW) (bj) (bl) (aQ) (bm) (b7) (k11_0_0) s__) wMax (aj))
def yJO(aB:List UInt8×Int×List Nat×List (Q3)×Unit)(af:List Nat)(p0_0_0:List UInt8×Int×List Nat×List (Q3)×Unit)(p0_1_0:Q2)(p0_2_0:Q2)(p0_3_0:List UInt8×Int×List Nat×List (Q3)×Unit)(p0_4_0:Q2)(p0_5_0:Q2)(p0_9_0:Q3)(p0_10_0:List UInt8×Int×List Nat×List (Q3)×Unit)(p0_11_0_0:List UInt8×Int×List Nat×List (Q3)×Unit)(b1_0_0:Int)(b1_1_0:Int)(aK:List UInt8×Int×List Nat×List (Q3)×Unit)(aL:Q2)(aW:Q2)(bj:List UInt8×Int×List Nat×List (Q3)×Unit)(bl:Q2)(aQ:Q2)(bm:Q3)(b7:List UInt8×Int×List Nat×List (Q3)×Unit)(k11_0_0:List UInt8×Int×List Nat×List (Q3)×Unit)(aj:List (Q3))(b2_0_0:Int)(b2_1_0:Int):Option ((Q3)×Unit) :=
  (some (((b2_0_0,b2_1_0,()),())))
theorem yCb(n:Nat)(hn:big≤n)(aB:List UInt8×Int×List Nat×List (Q3)×Unit)(af:List Nat)(p0_0_0:List UInt8×Int×List Nat×List (Q3)×Unit)(p0_1_0:Q2)(p0_2_0:Q2)(p0_3_0:List UInt8×Int×List Nat×List (Q3)×Unit)(p0_4_0:Q2)(p0_5_0:Q2)(p0_9_0:Q3)(p0_10_0:List UInt8×Int×List Nat×List (Q3)×Unit)(p0_11_0_0:List UInt8×Int×List Nat×List (Q3)×Unit)(b1_0_0:Int)(b1_1_0:Int)(aK:List UInt8×Int×List Nat×List (Q3)×Unit)(aL:Q2)(aW:Q2)(bj:List UInt8×Int×List Nat×List (Q3)×Unit)(bl:Q2)(aQ:Q2)(bm:Q3)(b7:List UInt8×Int×List Nat×List (Q3)×Unit)(k11_0_0:List UInt8×Int×List Nat×List (Q3)×Unit)(aj:List (Q3))(b2_0_0:Int)(b2_1_0:Int)(hx:List.length (af) < lenMax):LeF some (yM (fun i__ e__ s__=>yIz aB af p0_0_0 p0_1_0 p0_2_0 p0_3_0 p0_4_0 p0_5_0 p0_9_0 p0_10_0 p0_11_0_0 b1_0_0 b1_1_0 aK aL aW bj bl aQ bm b7 k11_0_0 i__ e__ s__.1 s__.2.1 s__.2.2) (fun s__=>yJO aB af p0_0_0 p0_1_0 p0_2_0 p0_3_0 p0_4_0 p0_5_0 p0_9_0 p0_10_0 p0_11_0_0 b1_0_0 b1_1_0 aK aL aW bj bl aQ bm b7 k11_0_0 s__.1 s__.2.1 s__.2.2) 0 (af) (aj,b2_0_0,b2_1_0)) (y6d n n aB aj af (List.length (af):Int) 0 p0_0_0 p0_1_0 p0_2_0 p0_3_0 p0_4_0 p0_5_0 p0_9_0 p0_10_0 p0_11_0_0 b1_0_0 b1_1_0 b2_0_0 b2_1_0 aK aL aW bj bl aQ bm b7 k11_0_0):=by
  refine yO (f:=some) (W:=fun k__ i__ s__=>y6d n k__ aB s__.1 af (List.length (af):Int) i__ p0_0_0 p0_1_0 p0_2_0 p0_3_0 p0_4_0 p0_5_0 p0_9_0 p0_10_0 p0_11_0_0 b1_0_0 b1_1_0 s__.2.1 s__.2.2 aK aL aW bj bl aQ bm b7 k11_0_0) (body:=(fun i__ e__ s__=>yIz aB af p0_0_0 p0_1_0 p0_2_0 p0_3_0 p0_4_0 p0_5_0 p0_9_0 p0_10_0 p0_11_0_0 b1_0_0 b1_1_0 aK aL aW bj bl aQ bm b7 k11_0_0 i__ e__ s__.1 s__.2.1 s__.2.2)) (fin:=(fun s__=>yJO aB af p0_0_0 p0_1_0 p0_2_0 p0_3_0 p0_4_0 p0_5_0 p0_9_0 p0_10_0 p0_11_0_0 b1_0_0 b1_1_0 aK aL aW bj bl aQ bm b7 k11_0_0 s__.1 s__.2.1 s__.2.2)) (fun k__ i__ s__=>?_) hx (aj,b2_0_0,b2_1_0) n (by unfold big at hn;unfold lenMax at hx;omega)
  show LeF _ _ (yEZ n (y6d n k__) aB s__.1 af (List.length (af):Int) i__ p0_0_0 p0_1_0 p0_2_0 p0_3_0 p0_4_0 p0_5_0 p0_9_0 p0_10_0 p0_11_0_0 b1_0_0 b1_1_0 s__.2.1 s__.2.2 aK aL aW bj bl aQ bm b7 k11_0_0)
  exact y5 (y7 fun v1=>(by apply yCa n hn)) (yl (y6 rfl))
def yBx(r1:List UInt8×Int×List Nat×List (Q3)×Unit)(a:Q2)(b:Q2):Option ((Q3)×Unit) :=
  (bif decide (List.length (r1.2.2.1) < lenMax)then yM (fun i__ e__ s__=>yIz (r1) (r1.2.2.1) (r1) (a) (b) (r1) (a) (b) (((0:Int),(0:Int),())) (r1) (r1) ((0:Int)) ((0:Int)) (r1) (a) (b) (r1) (a) (b) (((0:Int),(0:Int),())) (r1) (r1) i__ e__ s__.1 s__.2.1 s__.2.2) (fun s__=>yJO (r1) (r1.2.2.1) (r1) (a) (b) (r1) (a) (b) (((0:Int),(0:Int),())) (r1) (r1) ((0:Int)) ((0:Int)) (r1) (a) (b) (r1) (a) (b) (((0:Int),(0:Int),())) (r1) (r1) s__.1 s__.2.1 s__.2.2) 0 (r1.2.2.1) ((r1.2.2.2.1),((0:Int)),((0:Int)))else none)
theorem yQ7(r1:List UInt8×Int×List Nat×List (Q3)×Unit)(a:Q2)(b:Q2)(y:(Q3)×Unit)(h:yBx r1 a b=some y):∃ n,yLB n r1 a b=some y :=
  ⟨big,LeF.top (show LeF some (yBx r1 a b) (yLB big r1 a b)from (fun (n:Nat) (hn:big≤n)=>show LeF some (yBx r1 a b) (yLB n r1 a b)from (yK fun hx=>by apply yCb n hn;exact hx)) big (Nat.le_refl _)) h⟩
def z0q_e:Entry:={ f:=148,args:=yOl,ress:=yT1,m:=fun x=>yBx x.1 x.2.1 x.2.2.1 }
theorem yJM:FnOK Tryz.prog z0q_e:=yI (g:=yUV) (fn:=Tryz.f148) yD yH (yA yQA (yA yMy (yA yDs (yA yEs eNil)))) (by kernel_rfl) (by kernel_rfl) (by kernel_rfl) (fun x y h=>let ⟨n,hn⟩:=yQ7 x.1 x.2.1 x.2.2.1 y h;⟨yMl n,(y5K y4w (y5K y55 iNil)),(yTS n x).trans hn⟩)
abbrev yWe:Ty:=.pair t96 .unit
abbrev yYf:Ty:=.pair t57 .unit
class ref02_det_Rec where
  f:yWe.den→Option yYf.den
section
variable [ref02_det_Rec]
end
abbrev yNB:Ty:=.pair t31 (.pair t23 (.pair t3 .unit))
abbrev yRP:Ty:=.pair t57 .unit
def yRc:G:={ T:=T,E:=[zS_e,z0v_e,z13_e],muts:=[],fz:=[] }
def yYO:List (List Nat):=[[1,2,6,7,11,12,13]]
def yMB(n:Nat):Ann:={ keep:=yYO,fuel:=n,inl:=[],deep:=0 }
def yEA(n:Nat)(r0:List (Q3)→Int→List (Q2)→Int→Int→Int→Int→Int→Int→Option ((Q3)×Unit))(bg:List (Q3))(aO:Int)(am:List (Q2))(bw:Int)(b6:Int)(b0_0_0:Int)(b0_1_0:Int)(b1_0_0:Int)(b1_1_0:Int):Option ((Q3)×Unit) :=
  (bif decide (b6 < bw)then (Option.bind (idx am b6) fun v1=>(Option.bind (idx bg b6) fun v2=>(Option.bind (zS_M (v1.1,v1.2.1,v1.2.2.1,()) aO) fun v3=>r0 bg aO am bw (IntKind.i64.wrap (b6+1)) b0_0_0 b0_1_0 (z13 (b1_0_0,b1_1_0,()) (z0v v2 v3.1).1).1.1 (z13 (b1_0_0,b1_1_0,()) (z0v v2 v3.1).1).1.2.1)))else some ((b1_0_0,b1_1_0,()),()))
def y6q(n:Nat)(k:Nat)(bg:List (Q3))(aO:Int)(am:List (Q2))(bw:Int)(b6:Int)(b0_0_0:Int)(b0_1_0:Int)(b1_0_0:Int)(b1_1_0:Int):Option ((Q3)×Unit) :=
  iter (fun r y=>yEA n (fun bg aO am bw b6 b0_0_0 b0_1_0 b1_0_0 b1_1_0=>r ((bg,(aO,(am,(bw,(b6,()))))),(((b0_0_0,(b0_1_0,())),((b1_0_0,(b1_1_0,())),())),()))) y.1.1 y.1.2.1 y.1.2.2.1 y.1.2.2.2.1 y.1.2.2.2.2.1 y.2.1.1.1 y.2.1.1.2.1 y.2.1.2.1.1 y.2.1.2.1.2.1) k ((bg,(aO,(am,(bw,(b6,()))))),(((b0_0_0,(b0_1_0,())),((b1_0_0,(b1_1_0,())),())),()))
def yLL(n:Nat)(l:List (Q2))(v:List (Q3))(tick:Int):Option ((Q3)×Unit) :=
  (y6q n n (v) (tick) (l) ((↑l.length:Int)) ((0:Int)) ((0:Int)) ((0:Int)) ((0:Int)) ((0:Int)))
theorem yWU(n:Nat)(x:yNB.den):runF yRc (yMB n) Tryz.f167 yNB yRP x=yLL n x.1 x.2.1 x.2.2.1:=by kernel_rfl
def y8w(bg:List (Q3))(aO:Int)(am:List (Q2))(b0_0_0:Int)(b0_1_0:Int)(b6:Int)(v1:Q2)(b1_0_0:Int)(b1_1_0:Int):Option (((Q3)×Unit)⊕(Int×Int)) :=
  (Option.bind (idx bg b6) fun v2=>(Option.bind (zS_M (v1.1,v1.2.1,v1.2.2.1,()) aO) fun v3=>(some (Sum.inr (((z13 (b1_0_0,b1_1_0,()) (z0v v2 v3.1).1).1.1),((z13 (b1_0_0,b1_1_0,()) (z0v v2 v3.1).1).1.2.1))))))
def yEN(bg:List (Q3))(aO:Int)(am:List (Q2))(b0_0_0:Int)(b0_1_0:Int)(b1_0_0:Int)(b1_1_0:Int):Option ((Q3)×Unit) :=
  (some (((b1_0_0,b1_1_0,()),())))
theorem yDZ(n:Nat)(hn:big≤n)(bg:List (Q3))(aO:Int)(am:List (Q2))(b0_0_0:Int)(b0_1_0:Int)(b1_0_0:Int)(b1_1_0:Int)(hx:List.length (am) < lenMax):LeF some (yM (fun i__ e__ s__=>y8w bg aO am b0_0_0 b0_1_0 i__ e__ s__.1 s__.2) (fun s__=>yEN bg aO am b0_0_0 b0_1_0 s__.1 s__.2) 0 (am) (b1_0_0,b1_1_0)) (y6q n n bg aO am (List.length (am):Int) 0 b0_0_0 b0_1_0 b1_0_0 b1_1_0):=by
  refine yO (f:=some) (W:=fun k__ i__ s__=>y6q n k__ bg aO am (List.length (am):Int) i__ b0_0_0 b0_1_0 s__.1 s__.2) (body:=(fun i__ e__ s__=>y8w bg aO am b0_0_0 b0_1_0 i__ e__ s__.1 s__.2)) (fin:=(fun s__=>yEN bg aO am b0_0_0 b0_1_0 s__.1 s__.2)) (fun k__ i__ s__=>?_) hx (b1_0_0,b1_1_0) n (by unfold big at hn;unfold lenMax at hx;omega)
  show LeF _ _ (yEA n (y6q n k__) bg aO am (List.length (am):Int) i__ b0_0_0 b0_1_0 s__.1 s__.2)
  exact y5 (y7 fun v1=>(y7 fun v2=>(y7 fun v3=>(y6 rfl)))) (yl (y6 rfl))
def yDB(l:List (Q2))(v:List (Q3))(tick:Int):Option ((Q3)×Unit) :=
  (bif decide (List.length (l) < lenMax)then yM (fun i__ e__ s__=>y8w (v) (tick) (l) ((0:Int)) ((0:Int)) i__ e__ s__.1 s__.2) (fun s__=>yEN (v) (tick) (l) ((0:Int)) ((0:Int)) s__.1 s__.2) 0 (l) (((0:Int)),((0:Int)))else none)
theorem yND(l:List (Q2))(v:List (Q3))(tick:Int)(y:(Q3)×Unit)(h:yDB l v tick=some y):∃ n,yLL n l v tick=some y :=
  ⟨big,LeF.top (show LeF some (yDB l v tick) (yLL big l v tick)from (fun (n:Nat) (hn:big≤n)=>show LeF some (yDB l v tick) (yLL n l v tick)from (yK fun hx=>by apply yDZ n hn;exact hx)) big (Nat.le_refl _)) h⟩
def z0w_e:Entry:={ f:=167,args:=yNB,ress:=yRP,m:=fun x=>yDB x.1 x.2.1 x.2.2.1 }
theorem yQY:FnOK Tryz.prog z0w_e:=yI (g:=yRc) (fn:=Tryz.f167) yD yH (yA yQA (yA yDs (yA yEs eNil))) (by kernel_rfl) (by kernel_rfl) (by kernel_rfl) (fun x y h=>let ⟨n,hn⟩:=yND x.1 x.2.1 x.2.2.1 y h;⟨yMB n,iNil,(yWU n x).trans hn⟩)
abbrev yNG:Ty:=.pair t3 (.pair t41 .unit)
abbrev yQj:Ty:=.pair t3 .unit
def ySa:G:={ T:=T,E:=[z06_e],muts:=[],fz:=[] }
def yYc:List (List Nat):=[[0,7,8,9],[0,6,7,8,9]]
def yLX(n:Nat):Ann:={ keep:=yYc,fuel:=n,inl:=[],deep:=0 }
def yED(n:Nat)(r0:Int→List Int→Int→Int→Option (Int×Unit))(r2:Int→Int→List Int→Int→Int→Option (Int×Unit))(bv:Int)(bh:Int)(bq:List Int)(br:Int)(ax:Int):Option (Int×Unit) :=
  (bif bh != 0 then (bif bh==0 then none else r2 bh (bv.tmod bh) bq br ax)else r0 bv bq br (IntKind.i64.wrap (ax+1)))
def y6U(n:Nat)(r0:Int→List Int→Int→Int→Option (Int×Unit))(k:Nat)(bv:Int)(bh:Int)(bq:List Int)(br:Int)(ax:Int):Option (Int×Unit) :=
  iter (fun r y=>yED n r0 (fun bv bh bq br ax=>r ((bv,(bh,(bq,(br,(ax,()))))),((),()))) y.1.1 y.1.2.1 y.1.2.2.1 y.1.2.2.2.1 y.1.2.2.2.2.1) k ((bv,(bh,(bq,(br,(ax,()))))),((),()))
def yEC(n:Nat)(r0:Int→List Int→Int→Int→Option (Int×Unit))(bu:Int)(az:List Int)(a7:Int)(af:Int):Option (Int×Unit) :=
  (bif decide (af < a7)then (Option.bind (idx az af) fun v1=>(y6U n r0 n (bu) ((z06 v1).1) (az) (a7) (af)))else some (bu,()))
def y6k(n:Nat)(k:Nat)(bu:Int)(az:List Int)(a7:Int)(af:Int):Option (Int×Unit) :=
  iter (fun r y=>yEC n (fun bu az a7 af=>r ((bu,(az,(a7,(af,())))),((),()))) y.1.1 y.1.2.1 y.1.2.2.1 y.1.2.2.2.1) k ((bu,(az,(a7,(af,())))),((),()))
def yK1(n:Nat)(n1:Int)(l:List Int):Option (Int×Unit) :=
  (y6k n n (n1) (l) ((↑l.length:Int)) ((0:Int)))
theorem yVD(n:Nat)(x:yNG.den):runF ySa (yLX n) Tryz.f186 yNG yQj x=yK1 n x.1 x.2.1:=by kernel_rfl
def yAw(bq:List Int)(br:Int)(ax:Int)(bv:Int)(bh:Int):Option (((Int×Unit)⊕(Int))⊕(Int×Int)) :=
  (bif bh != 0 then (bif bh==0 then none else (some (Sum.inr ((bh),(bv.tmod bh)))))else (some (Sum.inl (Sum.inr (bv)))))
theorem yDc(n:Nat)(hn:big≤n)(r0:Int→List Int→Int→Int→Option (Int×Unit))(bq:List Int)(br:Int)(ax:Int)(bv:Int)(bh:Int):LeF (elim some fun (s__:(Int))=>r0 s__ bq br (IntKind.i64.wrap (ax+1))) (y2y (fun s__=>yAw bq br ax s__.1 s__.2) wMax (bv,bh)) (y6U n r0 n bv bh bq br ax):=by
  refine y31 (f:=(elim some fun (s__:(Int))=>r0 s__ bq br (IntKind.i64.wrap (ax+1)))) (W:=fun k__ s__=>y6U n r0 k__ s__.1 s__.2 bq br ax) (body:=(fun s__=>yAw bq br ax s__.1 s__.2)) (fun k__ s__=>?_) wMax n (bv,bh) (by unfold big at hn;unfold wMax;omega)
  show LeF _ _ (yED n r0 (y6U n r0 k__) s__.1 s__.2 bq br ax)
  exact (y5 (y5 yc (y6 rfl)) (y6 rfl))
def yAs(az:List Int)(af:Int)(v1:Int)(bu:Int):Option ((Int×Unit)⊕(Int)) :=
  (y2y (fun s__=>yAw (az) ((↑az.length:Int)) (af) s__.1 s__.2) wMax ((bu),((z06 v1).1)))
def yHj(az:List Int)(bu:Int):Option (Int×Unit) :=
  (some ((bu,())))
theorem yCt(n:Nat)(hn:big≤n)(az:List Int)(bu:Int)(hx:List.length (az) < lenMax):LeF some (yM (fun i__ e__ s__=>yAs az i__ e__ s__) (fun s__=>yHj az s__) 0 (az) bu) (y6k n n bu az (List.length (az):Int) 0):=by
  refine yO (f:=some) (W:=fun k__ i__ s__=>y6k n k__ s__ az (List.length (az):Int) i__) (body:=(fun i__ e__ s__=>yAs az i__ e__ s__)) (fin:=(fun s__=>yHj az s__)) (fun k__ i__ s__=>?_) hx bu n (by unfold big at hn;unfold lenMax at hx;omega)
  show LeF _ _ (yEC n (y6k n k__) s__ az (List.length (az):Int) i__)
  exact y5 (y7 fun v1=>(by apply yDc n hn)) (yl (y6 rfl))
def yAL(n1:Int)(l:List Int):Option (Int×Unit) :=
  (bif decide (List.length (l) < lenMax)then yM (fun i__ e__ s__=>yAs (l) i__ e__ s__) (fun s__=>yHj (l) s__) 0 (l) (n1)else none)
theorem yN6(n1:Int)(l:List Int)(y:Int×Unit)(h:yAL n1 l=some y):∃ n,yK1 n n1 l=some y :=
  ⟨big,LeF.top (show LeF some (yAL n1 l) (yK1 big n1 l)from (fun (n:Nat) (hn:big≤n)=>show LeF some (yAL n1 l) (yK1 n n1 l)from (yK fun hx=>by apply yCt n hn;exact hx)) big (Nat.le_refl _)) h⟩
def z0I_e:Entry:={ f:=186,args:=yNG,ress:=yQj,m:=fun x=>yAL x.1 x.2.1 }
theorem yM4:FnOK Tryz.prog z0I_e:=yI (g:=ySa) (fn:=Tryz.f186) yD yH (yA yBk eNil) (by kernel_rfl) (by kernel_rfl) (by kernel_rfl) (fun x y h=>let ⟨n,hn⟩:=yN6 x.1 x.2.1 y h;⟨yLX n,iNil,(yVD n x).trans hn⟩)
abbrev yNX:Ty:=.pair t55 (.pair (.ref t60) .unit)
abbrev yVP:Ty:=.pair t57 .unit
def yR2:G:={ T:=T,E:=[zS_e,zx_e,z0a_e,z13_e],muts:=[],fz:=[] }
def yY4:List (List Nat):=[]
def yMh(n:Nat):Ann:={ keep:=yY4,fuel:=n,inl:=[il124,il195],deep:=3 }
def y84(n:Nat)(r0:List UInt8×Int×List Nat×List (Q3)×Unit→List (Q3)→List Nat→Int→Int→Q2→List UInt8×Int×List Nat×List (Q3)×Unit→Q2→Q3→List UInt8×Int×List Nat×List (Q3)×Unit→List UInt8×Int×List Nat×List (Q3)×Unit→Int→Int→Int→Int→Q2→List UInt8×Int×List Nat×List (Q3)×Unit→Q2→Q3→List UInt8×Int×List Nat×List (Q3)×Unit→List UInt8×Int×List Nat×List (Q3)×Unit→Option ((Q3)×Unit))(j8:List UInt8×Int×List Nat×List (Q3)×Unit)(j9:List (Q3))(j10:Int)(j11:Nat)(j12:List Nat)(j13:Int)(j14:Int)(j15:Q2)(j16:List UInt8×Int×List Nat×List (Q3)×Unit)(j17:Q2)(j18:Q3)(j19:List UInt8×Int×List Nat×List (Q3)×Unit)(j20:List UInt8×Int×List Nat×List (Q3)×Unit)(j21:Int)(j22:Int)(j23:Int)(j24:Int)(j25:Q2)(j26:List UInt8×Int×List Nat×List (Q3)×Unit)(j27:Q2)(j28:Q3)(j29:List UInt8×Int×List Nat×List (Q3)×Unit)(j30:List UInt8×Int×List Nat×List (Q3)×Unit):Option ((Q3)×Unit) :=
  (bif decide ((↑j9.length:Int) > 0)then (Option.bind (idx j9 (0:Int)) fun v31=>(bif decide (v31.1≤j10)then r0 j8 j9 j12 j13 (IntKind.i64.wrap (j14+1)) j15 j16 j17 j18 j19 j20 j21 j22 j23 j24 j25 j26 j27 j28 j29 j30 else (Option.bind (yp Go.FloatKind.f32 (y0H Go.BinOp.mul Go.FloatKind.f32 j11 (nat_lit 1098907648)) IntKind.i64) fun v36=>(Option.bind (zS_M j17 (IntKind.i64.wrap (j8.2.1+j10))) fun v37=>r0 j8 j9 j12 j13 (IntKind.i64.wrap (j14+1)) j15 j16 j17 j18 j19 j20 j21 j22 (z13 (j23,j24,()) (z0a (zx v37.1).1 v36).1).1.1 (z13 (j23,j24,()) (z0a (zx v37.1).1 v36).1).1.2.1 j25 j26 j27 j28 j29 j30))))else (Option.bind (yp Go.FloatKind.f32 (y0H Go.BinOp.mul Go.FloatKind.f32 j11 (nat_lit 1098907648)) IntKind.i64) fun v38=>(Option.bind (zS_M j17 (IntKind.i64.wrap (j8.2.1+j10))) fun v39=>r0 j8 j9 j12 j13 (IntKind.i64.wrap (j14+1)) j15 j16 j17 j18 j19 j20 j21 j22 (z13 (j23,j24,()) (z0a (zx v39.1).1 v38).1).1.1 (z13 (j23,j24,()) (z0a (zx v39.1).1 v38).1).1.2.1 j25 j26 j27 j28 j29 j30)))
def yEa(n:Nat)(r0:List UInt8×Int×List Nat×List (Q3)×Unit→List (Q3)→List Nat→Int→Int→Q2→List UInt8×Int×List Nat×List (Q3)×Unit→Q2→Q3→List UInt8×Int×List Nat×List (Q3)×Unit→List UInt8×Int×List Nat×List (Q3)×Unit→Int→Int→Int→Int→Q2→List UInt8×Int×List Nat×List (Q3)×Unit→Q2→Q3→List UInt8×Int×List Nat×List (Q3)×Unit→List UInt8×Int×List Nat×List (Q3)×Unit→Option ((Q3)×Unit))(r2:List UInt8×Int×List Nat×List (Q3)×Unit→List (Q3)→Int→Nat→List Nat→Int→Int→Q2→List UInt8×Int×List Nat×List (Q3)×Unit→Q2→Q3→List UInt8×Int×List Nat×List (Q3)×Unit→List UInt8×Int×List Nat×List (Q3)×Unit→Int→Int→Int→Int→Q2→List UInt8×Int×List Nat×List (Q3)×Unit→Q2→Q3→List UInt8×Int×List Nat×List (Q3)×Unit→List UInt8×Int×List Nat×List (Q3)×Unit→Option ((Q3)×Unit))(aE:List UInt8×Int×List Nat×List (Q3)×Unit)(ac:List (Q3))(aF:Int)(aJ:Nat)(ax:List Nat)(aq:Int)(ar:Int)(p0_0_2:Q2)(p0_1_2:List UInt8×Int×List Nat×List (Q3)×Unit)(p0_2_2:Q2)(p0_7_2:Q3)(p0_8_2:List UInt8×Int×List Nat×List (Q3)×Unit)(p0_9_2_0:List UInt8×Int×List Nat×List (Q3)×Unit)(b1_0_2:Int)(b1_1_2:Int)(b2_0_2:Int)(b2_1_2:Int)(aG:Q2)(aH:List UInt8×Int×List Nat×List (Q3)×Unit)(aU:Q2)(be:Q3)(bf:List UInt8×Int×List Nat×List (Q3)×Unit)(k9_2_0:List UInt8×Int×List Nat×List (Q3)×Unit):Option ((Q3)×Unit) :=
  (bif decide ((↑ac.length:Int) > 0)then (Option.bind (idx ac (0:Int)) fun v3=>(bif decide (v3.2.1≤aF)then (bif decide ((0:Int)≤1) && decide ((1:Int)≤(↑ac.length:Int))then r2 aE (List.drop (Int.toNat (1:Int)) ac) aF aJ ax aq ar p0_0_2 p0_1_2 p0_2_2 p0_7_2 p0_8_2 p0_9_2_0 b1_0_2 b1_1_2 b2_0_2 b2_1_2 aG aH aU be bf k9_2_0 else none)else (y84 n r0 (aE) (ac) (aF) (aJ) (ax) (aq) (ar) (p0_0_2) (p0_1_2) (p0_2_2) (p0_7_2) (p0_8_2) (p0_9_2_0) (b1_0_2) (b1_1_2) (b2_0_2) (b2_1_2) (aG) (aH) (aU) (be) (bf) (k9_2_0))))else (y84 n r0 (aE) (ac) (aF) (aJ) (ax) (aq) (ar) (p0_0_2) (p0_1_2) (p0_2_2) (p0_7_2) (p0_8_2) (p0_9_2_0) (b1_0_2) (b1_1_2) (b2_0_2) (b2_1_2) (aG) (aH) (aU) (be) (bf) (k9_2_0)))
def y6T(n:Nat)(r0:List UInt8×Int×List Nat×List (Q3)×Unit→List (Q3)→List Nat→Int→Int→Q2→List UInt8×Int×List Nat×List (Q3)×Unit→Q2→Q3→List UInt8×Int×List Nat×List (Q3)×Unit→List UInt8×Int×List Nat×List (Q3)×Unit→Int→Int→Int→Int→Q2→List UInt8×Int×List Nat×List (Q3)×Unit→Q2→Q3→List UInt8×Int×List Nat×List (Q3)×Unit→List UInt8×Int×List Nat×List (Q3)×Unit→Option ((Q3)×Unit))(k:Nat)(aE:List UInt8×Int×List Nat×List (Q3)×Unit)(ac:List (Q3))(aF:Int)(aJ:Nat)(ax:List Nat)(aq:Int)(ar:Int)(p0_0_2:Q2)(p0_1_2:List UInt8×Int×List Nat×List (Q3)×Unit)(p0_2_2:Q2)(p0_7_2:Q3)(p0_8_2:List UInt8×Int×List Nat×List (Q3)×Unit)(p0_9_2_0:List UInt8×Int×List Nat×List (Q3)×Unit)(b1_0_2:Int)(b1_1_2:Int)(b2_0_2:Int)(b2_1_2:Int)(aG:Q2)(aH:List UInt8×Int×List Nat×List (Q3)×Unit)(aU:Q2)(be:Q3)(bf:List UInt8×Int×List Nat×List (Q3)×Unit)(k9_2_0:List UInt8×Int×List Nat×List (Q3)×Unit):Option ((Q3)×Unit) :=
  iter (fun r y=>yEa n r0 (fun aE ac aF aJ ax aq ar p0_0_2 p0_1_2 p0_2_2 p0_7_2 p0_8_2 p0_9_2_0 b1_0_2 b1_1_2 b2_0_2 b2_1_2 aG aH aU be bf k9_2_0=>r ((aE,(ac,(aF,(aJ,(ax,(aq,(ar,()))))))),(((p0_0_2,(p0_1_2,(p0_2_2,(p0_7_2,(p0_8_2,((p0_9_2_0,()),())))))),((b1_0_2,(b1_1_2,())),((b2_0_2,(b2_1_2,())),()))),(aG,(aH,(aU,(be,(bf,((k9_2_0,()),()))))))))) y.1.1 y.1.2.1 y.1.2.2.1 y.1.2.2.2.1 y.1.2.2.2.2.1 y.1.2.2.2.2.2.1 y.1.2.2.2.2.2.2.1 y.2.1.1.1 y.2.1.1.2.1 y.2.1.1.2.2.1 y.2.1.1.2.2.2.1 y.2.1.1.2.2.2.2.1 y.2.1.1.2.2.2.2.2.1.1 y.2.1.2.1.1 y.2.1.2.1.2.1 y.2.1.2.2.1.1 y.2.1.2.2.1.2.1 y.2.2.1 y.2.2.2.1 y.2.2.2.2.1 y.2.2.2.2.2.1 y.2.2.2.2.2.2.1 y.2.2.2.2.2.2.2.1.1) k ((aE,(ac,(aF,(aJ,(ax,(aq,(ar,()))))))),(((p0_0_2,(p0_1_2,(p0_2_2,(p0_7_2,(p0_8_2,((p0_9_2_0,()),())))))),((b1_0_2,(b1_1_2,())),((b2_0_2,(b2_1_2,())),()))),(aG,(aH,(aU,(be,(bf,((k9_2_0,()),()))))))))
def yF8(n:Nat)(r0:List UInt8×Int×List Nat×List (Q3)×Unit→List (Q3)→List Nat→Int→Int→Q2→List UInt8×Int×List Nat×List (Q3)×Unit→Q2→Q3→List UInt8×Int×List Nat×List (Q3)×Unit→List UInt8×Int×List Nat×List (Q3)×Unit→Int→Int→Int→Int→Q2→List UInt8×Int×List Nat×List (Q3)×Unit→Q2→Q3→List UInt8×Int×List Nat×List (Q3)×Unit→List UInt8×Int×List Nat×List (Q3)×Unit→Option ((Q3)×Unit))(aB:List UInt8×Int×List Nat×List (Q3)×Unit)(aj:List (Q3))(af:List Nat)(ae:Int)(am:Int)(p0_0_0:Q2)(p0_1_0:List UInt8×Int×List Nat×List (Q3)×Unit)(p0_2_0:Q2)(p0_7_0:Q3)(p0_8_0:List UInt8×Int×List Nat×List (Q3)×Unit)(p0_9_0_0:List UInt8×Int×List Nat×List (Q3)×Unit)(b1_0_0:Int)(b1_1_0:Int)(b2_0_0:Int)(b2_1_0:Int)(aK:Q2)(aL:List UInt8×Int×List Nat×List (Q3)×Unit)(aW:Q2)(bn:Q3)(bp:List UInt8×Int×List Nat×List (Q3)×Unit)(k9_0_0:List UInt8×Int×List Nat×List (Q3)×Unit):Option ((Q3)×Unit) :=
  (bif decide (am < ae)then (Option.bind (idx af am) fun v1=>(y6T n r0 n (aB) (aj) (am) (v1) (af) (ae) (am) (p0_0_0) (p0_1_0) (p0_2_0) (p0_7_0) (p0_8_0) (p0_9_0_0) (b1_0_0) (b1_1_0) (b2_0_0) (b2_1_0) (aK) (aL) (aW) (bn) (bp) (k9_0_0)))else some ((b2_0_0,b2_1_0,()),()))
def y71(n:Nat)(k:Nat)(aB:List UInt8×Int×List Nat×List (Q3)×Unit)(aj:List (Q3))(af:List Nat)(ae:Int)(am:Int)(p0_0_0:Q2)(p0_1_0:List UInt8×Int×List Nat×List (Q3)×Unit)(p0_2_0:Q2)(p0_7_0:Q3)(p0_8_0:List UInt8×Int×List Nat×List (Q3)×Unit)(p0_9_0_0:List UInt8×Int×List Nat×List (Q3)×Unit)(b1_0_0:Int)(b1_1_0:Int)(b2_0_0:Int)(b2_1_0:Int)(aK:Q2)(aL:List UInt8×Int×List Nat×List (Q3)×Unit)(aW:Q2)(bn:Q3)(bp:List UInt8×Int×List Nat×List (Q3)×Unit)(k9_0_0:List UInt8×Int×List Nat×List (Q3)×Unit):Option ((Q3)×Unit) :=
  iter (fun r y=>yF8 n (fun aB aj af ae am p0_0_0 p0_1_0 p0_2_0 p0_7_0 p0_8_0 p0_9_0_0 b1_0_0 b1_1_0 b2_0_0 b2_1_0 aK aL aW bn bp k9_0_0=>r ((aB,(aj,(af,(ae,(am,()))))),(((p0_0_0,(p0_1_0,(p0_2_0,(p0_7_0,(p0_8_0,((p0_9_0_0,()),())))))),((b1_0_0,(b1_1_0,())),((b2_0_0,(b2_1_0,())),()))),(aK,(aL,(aW,(bn,(bp,((k9_0_0,()),()))))))))) y.1.1 y.1.2.1 y.1.2.2.1 y.1.2.2.2.1 y.1.2.2.2.2.1 y.2.1.1.1 y.2.1.1.2.1 y.2.1.1.2.2.1 y.2.1.1.2.2.2.1 y.2.1.1.2.2.2.2.1 y.2.1.1.2.2.2.2.2.1.1 y.2.1.2.1.1 y.2.1.2.1.2.1 y.2.1.2.2.1.1 y.2.1.2.2.1.2.1 y.2.2.1 y.2.2.2.1 y.2.2.2.2.1 y.2.2.2.2.2.1 y.2.2.2.2.2.2.1 y.2.2.2.2.2.2.2.1.1) k ((aB,(aj,(af,(ae,(am,()))))),(((p0_0_0,(p0_1_0,(p0_2_0,(p0_7_0,(p0_8_0,((p0_9_0_0,()),())))))),((b1_0_0,(b1_1_0,())),((b2_0_0,(b2_1_0,())),()))),(aK,(aL,(aW,(bn,(bp,((k9_0_0,()),()))))))))
def yJa(n:Nat)(c:Q2)(p1:List UInt8×Int×List Nat×List (Q3)×Unit):Option ((Q3)×Unit) :=
  (y71 n n (p1) (p1.2.2.2.1) (p1.2.2.1) ((↑p1.2.2.1.length:Int)) ((0:Int)) (c) (p1) (c) (((0:Int),(0:Int),())) (p1) (p1) ((0:Int)) ((0:Int)) ((0:Int)) ((0:Int)) (c) (p1) (c) (((0:Int),(0:Int),())) (p1) (p1))
theorem yU2(n:Nat)(x:yNX.den):runF yR2 (yMh n) Tryz.f188 yNX yVP x=yJa n x.1 x.2.1:=by kernel_rfl
def yCK(j8:List UInt8×Int×List Nat×List (Q3)×Unit)(j9:List (Q3))(j10:Int)(j11:Nat)(j12:List Nat)(j13:Int)(j14:Int)(j15:Q2)(j16:List UInt8×Int×List Nat×List (Q3)×Unit)(j17:Q2)(j18:Q3)(j19:List UInt8×Int×List Nat×List (Q3)×Unit)(j20:List UInt8×Int×List Nat×List (Q3)×Unit)(j21:Int)(j22:Int)(j23:Int)(j24:Int)(j25:Q2)(j26:List UInt8×Int×List Nat×List (Q3)×Unit)(j27:Q2)(j28:Q3)(j29:List UInt8×Int×List Nat×List (Q3)×Unit)(j30:List UInt8×Int×List Nat×List (Q3)×Unit):Option (((Q3)×Unit)⊕((List (Q3))×Int×Int)) :=
  (bif decide ((↑j9.length:Int) > 0)then (Option.bind (idx j9 (0:Int)) fun v31=>(bif decide (v31.1≤j10)then (some (Sum.inr ((j9),(j23),(j24))))else (Option.bind (yp Go.FloatKind.f32 (y0H Go.BinOp.mul Go.FloatKind.f32 j11 (nat_lit 1098907648)) IntKind.i64) fun v36=>(Option.bind (zS_M j17 (IntKind.i64.wrap (j8.2.1+j10))) fun v37=>(some (Sum.inr ((j9),((z13 (j23,j24,()) (z0a (zx v37.1).1 v36).1).1.1),((z13 (j23,j24,()) (z0a (zx v37.1).1 v36).1).1.2.1))))))))else (Option.bind (yp Go.FloatKind.f32 (y0H Go.BinOp.mul Go.FloatKind.f32 j11 (nat_lit 1098907648)) IntKind.i64) fun v38=>(Option.bind (zS_M j17 (IntKind.i64.wrap (j8.2.1+j10))) fun v39=>(some (Sum.inr ((j9),((z13 (j23,j24,()) (z0a (zx v39.1).1 v38).1).1.1),((z13 (j23,j24,()) (z0a (zx v39.1).1 v38).1).1.2.1)))))))
theorem y2F(n:Nat)(hn:big≤n)(r0:List UInt8×Int×List Nat×List (Q3)×Unit→List (Q3)→List Nat→Int→Int→Q2→List UInt8×Int×List Nat×List (Q3)×Unit→Q2→Q3→List UInt8×Int×List Nat×List (Q3)×Unit→List UInt8×Int×List Nat×List (Q3)×Unit→Int→Int→Int→Int→Q2→List UInt8×Int×List Nat×List (Q3)×Unit→Q2→Q3→List UInt8×Int×List Nat×List (Q3)×Unit→List UInt8×Int×List Nat×List (Q3)×Unit→Option ((Q3)×Unit))(j8:List UInt8×Int×List Nat×List (Q3)×Unit)(j9:List (Q3))(j10:Int)(j11:Nat)(j12:List Nat)(j13:Int)(j14:Int)(j15:Q2)(j16:List UInt8×Int×List Nat×List (Q3)×Unit)(j17:Q2)(j18:Q3)(j19:List UInt8×Int×List Nat×List (Q3)×Unit)(j20:List UInt8×Int×List Nat×List (Q3)×Unit)(j21:Int)(j22:Int)(j23:Int)(j24:Int)(j25:Q2)(j26:List UInt8×Int×List Nat×List (Q3)×Unit)(j27:Q2)(j28:Q3)(j29:List UInt8×Int×List Nat×List (Q3)×Unit)(j30:List UInt8×Int×List Nat×List (Q3)×Unit):LeF (elim some fun (s__:((List (Q3))×Int×Int))=>r0 j8 s__.1 j12 j13 (IntKind.i64.wrap (j14+1)) j15 j16 j17 j18 j19 j20 j21 j22 s__.2.1 s__.2.2 j25 j26 j27 j28 j29 j30) (yCK j8 j9 j10 j11 j12 j13 j14 j15 j16 j17 j18 j19 j20 j21 j22 j23 j24 j25 j26 j27 j28 j29 j30) (y84 n r0 j8 j9 j10 j11 j12 j13 j14 j15 j16 j17 j18 j19 j20 j21 j22 j23 j24 j25 j26 j27 j28 j29 j30) :=
  (y5 (y7 fun v31=>(y5 (y6 rfl) (y7 fun v36=>(y7 fun v37=>(y6 rfl))))) (y7 fun v38=>(y7 fun v39=>(y6 rfl))))
def yI8(aE:List UInt8×Int×List Nat×List (Q3)×Unit)(aF:Int)(aJ:Nat)(ax:List Nat)(aq:Int)(ar:Int)(p0_0_2:Q2)(p0_1_2:List UInt8×Int×List Nat×List (Q3)×Unit)(p0_2_2:Q2)(p0_7_2:Q3)(p0_8_2:List UInt8×Int×List Nat×List (Q3)×Unit)(p0_9_2_0:List UInt8×Int×List Nat×List (Q3)×Unit)(b1_0_2:Int)(b1_1_2:Int)(b2_0_2:Int)(b2_1_2:Int)(aG:Q2)(aH:List UInt8×Int×List Nat×List (Q3)×Unit)(aU:Q2)(be:Q3)(bf:List UInt8×Int×List Nat×List (Q3)×Unit)(k9_2_0:List UInt8×Int×List Nat×List (Q3)×Unit)(ac:List (Q3)):Option ((((Q3)×Unit)⊕((List (Q3))×Int×Int))⊕(List (Q3))) :=
  (bif decide ((↑ac.length:Int) > 0)then (Option.bind (idx ac (0:Int)) fun v3=>(bif decide (v3.2.1≤aF)then (bif decide ((0:Int)≤1) && decide ((1:Int)≤(↑ac.length:Int))then (some (Sum.inr (List.drop (Int.toNat (1:Int)) ac)))else none)else (Option.map Sum.inl (yCK (aE) (ac) (aF) (aJ) (ax) (aq) (ar) (p0_0_2) (p0_1_2) (p0_2_2) (p0_7_2) (p0_8_2) (p0_9_2_0) (b1_0_2) (b1_1_2) (b2_0_2) (b2_1_2) (aG) (aH) (aU) (be) (bf) (k9_2_0)))))else (Option.map Sum.inl (yCK (aE) (ac) (aF) (aJ) (ax) (aq) (ar) (p0_0_2) (p0_1_2) (p0_2_2) (p0_7_2) (p0_8_2) (p0_9_2_0) (b1_0_2) (b1_1_2) (b2_0_2) (b2_1_2) (aG) (aH) (aU) (be) (bf) (k9_2_0))))
theorem yCw(n:Nat)(hn:big≤n)(r0:List UInt8×Int×List Nat×List (Q3)×Unit→List (Q3)→List Nat→Int→Int→Q2→List UInt8×Int×List Nat×List (Q3)×Unit→Q2→Q3→List UInt8×Int×List Nat×List (Q3)×Unit→List UInt8×Int×List Nat×List (Q3)×Unit→Int→Int→Int→Int→Q2→List UInt8×Int×List Nat×List (Q3)×Unit→Q2→Q3→List UInt8×Int×List Nat×List (Q3)×Unit→List UInt8×Int×List Nat×List (Q3)×Unit→Option ((Q3)×Unit))(aE:List UInt8×Int×List Nat×List (Q3)×Unit)(aF:Int)(aJ:Nat)(ax:List Nat)(aq:Int)(ar:Int)(p0_0_2:Q2)(p0_1_2:List UInt8×Int×List Nat×List (Q3)×Unit)(p0_2_2:Q2)(p0_7_2:Q3)(p0_8_2:List UInt8×Int×List Nat×List (Q3)×Unit)(p0_9_2_0:List UInt8×Int×List Nat×List (Q3)×Unit)(b1_0_2:Int)(b1_1_2:Int)(b2_0_2:Int)(b2_1_2:Int)(aG:Q2)(aH:List UInt8×Int×List Nat×List (Q3)×Unit)(aU:Q2)(be:Q3)(bf:List UInt8×Int×List Nat×List (Q3)×Unit)(k9_2_0:List UInt8×Int×List Nat×List (Q3)×Unit)(ac:List (Q3)):LeF (elim some fun (s__:((List (Q3))×Int×Int))=>r0 aE s__.1 ax aq (IntKind.i64.wrap (ar+1)) p0_0_2 p0_1_2 p0_2_2 p0_7_2 p0_8_2 p0_9_2_0 b1_0_2 b1_1_2 s__.2.1 s__.2.2 aG aH aU be bf k9_2_0) (y2y (fun s__=>yI8 aE aF aJ ax aq ar p0_0_2 p0_1_2 p0_2_2 p0_7_2 p0_8_2 p0_9_2_0 b1_0_2 b1_1_2 b2_0_2 b2_1_2 aG aH aU be bf k9_2_0 s__) wMax ac) (y6T n r0 n aE ac aF aJ ax aq ar p0_0_2 p0_1_2 p0_2_2 p0_7_2 p0_8_2 p0_9_2_0 b1_0_2 b1_1_2 b2_0_2 b2_1_2 aG aH aU be bf k9_2_0):=by
  refine y31 (f:=(elim some fun (s__:((List (Q3))×Int×Int))=>r0 aE s__.1 ax aq (IntKind.i64.wrap (ar+1)) p0_0_2 p0_1_2 p0_2_2 p0_7_2 p0_8_2 p0_9_2_0 b1_0_2 b1_1_2 s__.2.1 s__.2.2 aG aH aU be bf k9_2_0)) (W:=fun k__ s__=>y6T n r0 k__ aE s__ aF aJ ax aq ar p0_0_2 p0_1_2 p0_2_2 p0_7_2 p0_8_2 p0_9_2_0 b1_0_2 b1_1_2 b2_0_2 b2_1_2 aG aH aU be bf k9_2_0) (body:=(fun s__=>yI8 aE aF aJ ax aq ar p0_0_2 p0_1_2 p0_2_2 p0_7_2 p0_8_2 p0_9_2_0 b1_0_2 b1_1_2 b2_0_2 b2_1_2 aG aH aU be bf k9_2_0 s__)) (fun k__ s__=>?_) wMax n ac (by unfold big at hn;unfold wMax;omega)
  show LeF _ _ (yEa n r0 (y6T n r0 k__) aE s__ aF aJ ax aq ar p0_0_2 p0_1_2 p0_2_2 p0_7_2 p0_8_2 p0_9_2_0 b1_0_2 b1_1_2 b2_0_2 b2_1_2 aG aH aU be bf k9_2_0)
  exact (y5 (y7 fun v3=>(y5 (y5 (y6 rfl) yc) (yl (by apply y2F n hn)))) (yl (by apply y2F n hn)))
def yIM(aB:List UInt8×Int×List Nat×List (Q3)×Unit)(af:List Nat)(p0_0_0:Q2)(p0_1_0:List UInt8×Int×List Nat×List (Q3)×Unit)(p0_2_0:Q2)(p0_7_0:Q3)(p0_8_0:List UInt8×Int×List Nat×List (Q3)×Unit)(p0_9_0_0:List UInt8×Int×List Nat×List (Q3)×Unit)(b1_0_0:Int)(b1_1_0:Int)(aK:Q2)(aL:List UInt8×Int×List Nat×List (Q3)×Unit)(aW:Q2)(bn:Q3)(bp:List UInt8×Int×List Nat×List (Q3)×Unit)(k9_0_0:List UInt8×Int×List Nat×List (Q3)×Unit)(am:Int)(v1:Nat)(aj:List (Q3))(b2_0_0:Int)(b2_1_0:Int):Option (((Q3)×Unit)⊕((List (Q3))×Int×Int)) :=
  (y2y (fun s__=>yI8 (aB) (am) (v1) (af) ((↑af.length:Int)) (am) (p0_0_0) (p0_1_0) (p0_2_0) (p0_7_0) (p0_8_0) (p0_9_0_0) (b1_0_0) (b1_1_0) (b2_0_0) (b2_1_0) (aK) (aL) (aW) (bn) (bp) (k9_0_0) s__) wMax (aj))
def yID(aB:List UInt8×Int×List Nat×List (Q3)×Unit)(af:List Nat)(p0_0_0:Q2)(p0_1_0:List UInt8×Int×List Nat×List (Q3)×Unit)(p0_2_0:Q2)(p0_7_0:Q3)(p0_8_0:List UInt8×Int×List Nat×List (Q3)×Unit)(p0_9_0_0:List UInt8×Int×List Nat×List (Q3)×Unit)(b1_0_0:Int)(b1_1_0:Int)(aK:Q2)(aL:List UInt8×Int×List Nat×List (Q3)×Unit)(aW:Q2)(bn:Q3)(bp:List UInt8×Int×List Nat×List (Q3)×Unit)(k9_0_0:List UInt8×Int×List Nat×List (Q3)×Unit)(aj:List (Q3))(b2_0_0:Int)(b2_1_0:Int):Option ((Q3)×Unit) :=
  (some (((b2_0_0,b2_1_0,()),())))
theorem yCh(n:Nat)(hn:big≤n)(aB:List UInt8×Int×List Nat×List (Q3)×Unit)(af:List Nat)(p0_0_0:Q2)(p0_1_0:List UInt8×Int×List Nat×List (Q3)×Unit)(p0_2_0:Q2)(p0_7_0:Q3)(p0_8_0:List UInt8×Int×List Nat×List (Q3)×Unit)(p0_9_0_0:List UInt8×Int×List Nat×List (Q3)×Unit)(b1_0_0:Int)(b1_1_0:Int)(aK:Q2)(aL:List UInt8×Int×List Nat×List (Q3)×Unit)(aW:Q2)(bn:Q3)(bp:List UInt8×Int×List Nat×List (Q3)×Unit)(k9_0_0:List UInt8×Int×List Nat×List (Q3)×Unit)(aj:List (Q3))(b2_0_0:Int)(b2_1_0:Int)(hx:List.length (af) < lenMax):LeF some (yM (fun i__ e__ s__=>yIM aB af p0_0_0 p0_1_0 p0_2_0 p0_7_0 p0_8_0 p0_9_0_0 b1_0_0 b1_1_0 aK aL aW bn bp k9_0_0 i__ e__ s__.1 s__.2.1 s__.2.2) (fun s__=>yID aB af p0_0_0 p0_1_0 p0_2_0 p0_7_0 p0_8_0 p0_9_0_0 b1_0_0 b1_1_0 aK aL aW bn bp k9_0_0 s__.1 s__.2.1 s__.2.2) 0 (af) (aj,b2_0_0,b2_1_0)) (y71 n n aB aj af (List.length (af):Int) 0 p0_0_0 p0_1_0 p0_2_0 p0_7_0 p0_8_0 p0_9_0_0 b1_0_0 b1_1_0 b2_0_0 b2_1_0 aK aL aW bn bp k9_0_0):=by
  refine yO (f:=some) (W:=fun k__ i__ s__=>y71 n k__ aB s__.1 af (List.length (af):Int) i__ p0_0_0 p0_1_0 p0_2_0 p0_7_0 p0_8_0 p0_9_0_0 b1_0_0 b1_1_0 s__.2.1 s__.2.2 aK aL aW bn bp k9_0_0) (body:=(fun i__ e__ s__=>yIM aB af p0_0_0 p0_1_0 p0_2_0 p0_7_0 p0_8_0 p0_9_0_0 b1_0_0 b1_1_0 aK aL aW bn bp k9_0_0 i__ e__ s__.1 s__.2.1 s__.2.2)) (fin:=(fun s__=>yID aB af p0_0_0 p0_1_0 p0_2_0 p0_7_0 p0_8_0 p0_9_0_0 b1_0_0 b1_1_0 aK aL aW bn bp k9_0_0 s__.1 s__.2.1 s__.2.2)) (fun k__ i__ s__=>?_) hx (aj,b2_0_0,b2_1_0) n (by unfold big at hn;unfold lenMax at hx;omega)
  show LeF _ _ (yF8 n (y71 n k__) aB s__.1 af (List.length (af):Int) i__ p0_0_0 p0_1_0 p0_2_0 p0_7_0 p0_8_0 p0_9_0_0 b1_0_0 b1_1_0 s__.2.1 s__.2.2 aK aL aW bn bp k9_0_0)
  exact y5 (y7 fun v1=>(by apply yCw n hn)) (yl (y6 rfl))
def yFY(c:Q2)(p1:List UInt8×Int×List Nat×List (Q3)×Unit):Option ((Q3)×Unit) :=
  (bif decide (List.length (p1.2.2.1) < lenMax)then yM (fun i__ e__ s__=>yIM (p1) (p1.2.2.1) (c) (p1) (c) (((0:Int),(0:Int),())) (p1) (p1) ((0:Int)) ((0:Int)) (c) (p1) (c) (((0:Int),(0:Int),())) (p1) (p1) i__ e__ s__.1 s__.2.1 s__.2.2) (fun s__=>yID (p1) (p1.2.2.1) (c) (p1) (c) (((0:Int),(0:Int),())) (p1) (p1) ((0:Int)) ((0:Int)) (c) (p1) (c) (((0:Int),(0:Int),())) (p1) (p1) s__.1 s__.2.1 s__.2.2) 0 (p1.2.2.1) ((p1.2.2.2.1),((0:Int)),((0:Int)))else none)
theorem yOb(c:Q2)(p1:List UInt8×Int×List Nat×List (Q3)×Unit)(y:(Q3)×Unit)(h:yFY c p1=some y):∃ n,yJa n c p1=some y :=
  ⟨big,LeF.top (show LeF some (yFY c p1) (yJa big c p1)from (fun (n:Nat) (hn:big≤n)=>show LeF some (yFY c p1) (yJa n c p1)from (yK fun hx=>by apply yCh n hn;exact hx)) big (Nat.le_refl _)) h⟩
def z0L_e:Entry:={ f:=188,args:=yNX,ress:=yVP,m:=fun x=>yFY x.1 x.2.1 }
theorem yVp:FnOK Tryz.prog z0L_e:=yI (g:=yR2) (fn:=Tryz.f188) yD yH (yA yQA (yA yMy (yA yI6 (yA yEs eNil)))) (by kernel_rfl) (by kernel_rfl) (by kernel_rfl) (fun x y h=>let ⟨n,hn⟩:=yOb x.1 x.2.1 y h;⟨yMh n,(y5K y4w (y5K y55 iNil)),(yU2 n x).trans hn⟩)
abbrev zT_a:Ty:=.pair t183 (.pair t3 (.pair t3 .unit))
abbrev zT_r:Ty:=.pair t57 .unit
class tide_matrix_expand_Rec where
  f:zT_a.den→Option zT_r.den
section
variable [tide_matrix_expand_Rec]
def y3t:Entry:={ f:=194,args:=zT_a,ress:=zT_r,m:=fun x=>tide_matrix_expand_Rec.f x }
def zT_g:G:={ T:=T,E:=[y3t,z0v_e,z0a_e,z13_e],muts:=[],fz:=[] }
def zT_k:List (List Nat):=[[0,1,2,6,7,8,18,19]]
def yTW(n:Nat):Ann:={ keep:=zT_k,fuel:=n,inl:=[],deep:=0 }
def yJF(n:Nat)(r0:List (List (Q3))→Int→Int→Int→Int→Int→Int→Int→Int→Int→Option ((Q3)×Unit))(aN:List (List (Q3)))(aR:Int)(aI:Int)(aM:Int)(aY:Int)(b5:Int)(b0_0_0:Int)(b0_1_0:Int)(b1_0_0:Int)(b1_1_0:Int):Option ((Q3)×Unit) :=
  (bif decide (b5 < aY)then (bif decide (b5 < 0)then none else (bif y3g IntKind.i64 Go.BinOp.and (aI.fdiv ((2:Int) ^ Min.min b5.toNat IntKind.i64.bits)) (1:Int)==1 then r0 aN aR aI aM aY (IntKind.i64.wrap (b5+1)) b0_0_0 b0_1_0 b1_0_0 b1_1_0 else (Option.bind (idx aN aR) fun v1=>(Option.bind (idx v1 b5) fun v2=>(bif decide (b5 < 0)then none else (Option.bind (tide_matrix_expand_Rec.f (aN,IntKind.i64.wrap (aR+1),y3g IntKind.i64 Go.BinOp.or aI (IntKind.i64.wrap ((1:Int) * 2 ^ Min.min b5.toNat IntKind.i64.bits)),())) fun v3=>r0 aN aR aI (IntKind.i64.wrap ((0:Int) - aM)) aY (IntKind.i64.wrap (b5+1)) b0_0_0 b0_1_0 (z13 (b1_0_0,b1_1_0,()) (z0a (z0v v2 v3.1).1 aM).1).1.1 (z13 (b1_0_0,b1_1_0,()) (z0a (z0v v2 v3.1).1 aM).1).1.2.1))))))else some ((b1_0_0,b1_1_0,()),()))
def yA8(n:Nat)(k:Nat)(aN:List (List (Q3)))(aR:Int)(aI:Int)(aM:Int)(aY:Int)(b5:Int)(b0_0_0:Int)(b0_1_0:Int)(b1_0_0:Int)(b1_1_0:Int):Option ((Q3)×Unit) :=
  iter (fun r y=>yJF n (fun aN aR aI aM aY b5 b0_0_0 b0_1_0 b1_0_0 b1_1_0=>r ((aN,(aR,(aI,(aM,(aY,(b5,())))))),(((b0_0_0,(b0_1_0,())),((b1_0_0,(b1_1_0,())),())),()))) y.1.1 y.1.2.1 y.1.2.2.1 y.1.2.2.2.1 y.1.2.2.2.2.1 y.1.2.2.2.2.2.1 y.2.1.1.1 y.2.1.1.2.1 y.2.1.2.1.1 y.2.1.2.1.2.1) k ((aN,(aR,(aI,(aM,(aY,(b5,())))))),(((b0_0_0,(b0_1_0,())),((b1_0_0,(b1_1_0,())),())),()))
def zT_m(n:Nat)(m:List (List (Q3)))(row:Int)(used:Int):Option ((Q3)×Unit) :=
  (bif row==(↑m.length:Int)then some (((1:Int),(0:Int),()),())else (yA8 n n (m) (row) (used) ((1:Int)) ((↑m.length:Int)) ((0:Int)) ((0:Int)) ((0:Int)) ((0:Int)) ((0:Int))))
theorem yWp(n:Nat)(x:zT_a.den):runF zT_g (yTW n) Tryz.f194 zT_a zT_r x=zT_m n x.1 x.2.1 x.2.2.1:=by kernel_rfl
def yP5(aN:List (List (Q3)))(aR:Int)(aI:Int)(aY:Int)(b0_0_0:Int)(b0_1_0:Int)(b5:Int)(aM:Int)(b1_0_0:Int)(b1_1_0:Int):Option (((Q3)×Unit)⊕(Int×Int×Int)) :=
  (bif decide (b5 < 0)then none else (bif y3g IntKind.i64 Go.BinOp.and (aI.fdiv ((2:Int) ^ Min.min b5.toNat IntKind.i64.bits)) (1:Int)==1 then (some (Sum.inr ((aM),(b1_0_0),(b1_1_0))))else (Option.bind (idx aN aR) fun v1=>(Option.bind (idx v1 b5) fun v2=>(bif decide (b5 < 0)then none else (Option.bind (tide_matrix_expand_Rec.f (aN,IntKind.i64.wrap (aR+1),y3g IntKind.i64 Go.BinOp.or aI (IntKind.i64.wrap ((1:Int) * 2 ^ Min.min b5.toNat IntKind.i64.bits)),())) fun v3=>(some (Sum.inr ((IntKind.i64.wrap ((0:Int) - aM)),((z13 (b1_0_0,b1_1_0,()) (z0a (z0v v2 v3.1).1 aM).1).1.1),((z13 (b1_0_0,b1_1_0,()) (z0a (z0v v2 v3.1).1 aM).1).1.2.1))))))))))
def yQ5(aN:List (List (Q3)))(aR:Int)(aI:Int)(aY:Int)(b0_0_0:Int)(b0_1_0:Int)(aM:Int)(b1_0_0:Int)(b1_1_0:Int):Option ((Q3)×Unit) :=
  (some (((b1_0_0,b1_1_0,()),())))
theorem yFv(n:Nat)(hn:big≤n)(aN:List (List (Q3)))(aR:Int)(aI:Int)(aY:Int)(b0_0_0:Int)(b0_1_0:Int)(aM:Int)(b1_0_0:Int)(b1_1_0:Int)(hx:(aY)≤9223372036854775807):LeF some (y0V (fun i__ s__=>yP5 aN aR aI aY b0_0_0 b0_1_0 i__ s__.1 s__.2.1 s__.2.2) (fun s__=>yQ5 aN aR aI aY b0_0_0 b0_1_0 s__.1 s__.2.1 s__.2.2) ((aY) - 0).toNat 0 (aM,b1_0_0,b1_1_0)) (yA8 n n aN aR aI aM aY 0 b0_0_0 b0_1_0 b1_0_0 b1_1_0):=by
  refine y16 (f:=some) (W:=fun k__ i__ s__=>yA8 n k__ aN aR aI s__.1 aY i__ b0_0_0 b0_1_0 s__.2.1 s__.2.2) (body:=(fun i__ s__=>yP5 aN aR aI aY b0_0_0 b0_1_0 i__ s__.1 s__.2.1 s__.2.2)) (fin:=(fun s__=>yQ5 aN aR aI aY b0_0_0 b0_1_0 s__.1 s__.2.1 s__.2.2)) (fun k__ i__ s__=>?_) hx (aM,b1_0_0,b1_1_0) n 0 (by decide) (by unfold big at hn;omega)
  show LeF _ _ (yJF n (yA8 n k__) aN aR aI s__.1 aY i__ b0_0_0 b0_1_0 s__.2.1 s__.2.2)
  exact y5 (y5 yc (y5 (y6 rfl) (y7 fun v1=>(y7 fun v2=>(y5 yc (y7 fun v3=>(y6 rfl))))))) (yl (y6 rfl))
def zT_M(m:List (List (Q3)))(row:Int)(used:Int):Option ((Q3)×Unit) :=
  (bif row==(↑m.length:Int)then (some ((((1:Int),(0:Int),()),())))else (bif decide (((↑m.length:Int))≤9223372036854775807)then y0V (fun i__ s__=>yP5 (m) (row) (used) ((↑m.length:Int)) ((0:Int)) ((0:Int)) i__ s__.1 s__.2.1 s__.2.2) (fun s__=>yQ5 (m) (row) (used) ((↑m.length:Int)) ((0:Int)) ((0:Int)) s__.1 s__.2.1 s__.2.2) (((↑m.length:Int)) - 0).toNat 0 (((1:Int)),((0:Int)),((0:Int)))else none))
theorem yRN(m:List (List (Q3)))(row:Int)(used:Int)(y:(Q3)×Unit)(h:zT_M m row used=some y):∃ n,zT_m n m row used=some y :=
  ⟨big,LeF.top (show LeF some (zT_M m row used) (zT_m big m row used)from (fun (n:Nat) (hn:big≤n)=>show LeF some (zT_M m row used) (zT_m n m row used)from (y5 (y6 rfl) (yK fun hx=>by apply yFv n hn;exact hx))) big (Nat.le_refl _)) h⟩
end
def y03(d:Nat):zT_a.den→Option zT_r.den:=Nat.rec (motive:=fun _=>zT_a.den→Option zT_r.den) (fun _=>none) (fun _ ih x=>@zT_M ⟨ih⟩ x.1 x.2.1 x.2.2.1) d
def y0k(d:Nat):Entry:={ f:=194,args:=zT_a,ress:=zT_r,m:=y03 d }
theorem y1Y:(d:Nat)→FnOK Tryz.prog (y0k d)
  | 0=>FnOK.none (fn:=Tryz.f194) (by kernel_rfl) (by kernel_rfl) (by kernel_rfl)
  | d+1=>yI (g:=@zT_g ⟨y03 d⟩) (fn:=Tryz.f194) (e:=y0k (d+1)) yD yH (yA (y1Y d) (yA yDs (yA yI6 (yA yEs eNil)))) (by kernel_rfl) (by kernel_rfl) (by kernel_rfl) (fun x y h=>let ⟨n,hn⟩:=@yRN ⟨y03 d⟩ x.1 x.2.1 x.2.2.1 y h;⟨yTW n,iNil,(@yWp ⟨y03 d⟩ n x).trans hn⟩)
def zT_e:Entry:=y0k 8
theorem yYL:FnOK Tryz.prog zT_e:=y1Y 8
abbrev zX_a:Ty:=.pair t61 .unit
abbrev zX_r:Ty:=.pair t28 .unit
def zX_g:G:={ T:=T,E:=[zZ_e,z0d_e],muts:=[],fz:=[] }
def zX_k:List (List Nat):=[]
def ySm(n:Nat):Ann:={ keep:=zX_k,fuel:=n,inl:=[],deep:=0 }
def zX_m(n:Nat)(x1:Nat):Option (Int×Unit) :=
  (bif y0G Go.BinOp.neq Go.FloatKind.f32 (y0H Go.BinOp.sub Go.FloatKind.f32 x1 x1) (nat_lit 0)then some ((1:Int),())else (bif y0G Go.BinOp.lss Go.FloatKind.f32 x1 (nat_lit 3263168512)then some ((3:Int),())else (bif y0G Go.BinOp.gtr Go.FloatKind.f32 x1 (nat_lit 1115684864)then some ((3:Int),())else (Option.bind (zZ_M x1) fun v2=>some ((z0d (y0G Go.BinOp.neq Go.FloatKind.f32 (y0U Go.FloatKind.f32 v2.1) (y0H Go.BinOp.mul Go.FloatKind.f32 x1 (nat_lit 1098907648))) (3:Int)).1,())))))
theorem yXl(n:Nat)(x:zX_a.den):runF zX_g (ySm n) Tryz.f197 zX_a zX_r x=zX_m n x.1:=by kernel_rfl
def zX_M(x1:Nat):Option (Int×Unit):=zX_m 0 x1
theorem yUa(x1:Nat)(y:Int×Unit)(h:zX_M x1=some y):∃ n,zX_m n x1=some y:=⟨0,h⟩
def zX_e:Entry:={ f:=197,args:=zX_a,ress:=zX_r,m:=fun x=>zX_M x.1 }
theorem yT3:FnOK Tryz.prog zX_e:=yI (g:=zX_g) (fn:=Tryz.f197) yD yH (yA yY1 (yA yAr eNil)) (by kernel_rfl) (by kernel_rfl) (by kernel_rfl) (fun x y h=>let ⟨n,hn⟩:=yUa x.1 y h;⟨ySm n,iNil,(yXl n x).trans hn⟩)
abbrev yOC:Ty:=.pair t3 (.pair t3 (.pair t3 .unit))
abbrev yUA:Ty:=.pair t28 .unit
def yRG:G:={ T:=T,E:=[z0d_e],muts:=[],fz:=[] }
def yY0:List (List Nat):=[]
def yMg(n:Nat):Ann:={ keep:=yY0,fuel:=n,inl:=[],deep:=0 }
def yJt(n:Nat)(n1:Int)(least:Int)(most:Int):Option (Int×Unit) :=
  (bif decide (n1 < least)then some ((z0d Bool.true (3:Int)).1,())else some ((z0d (decide (n1 > most)) (3:Int)).1,()))
theorem yQz(n:Nat)(x:yOC.den):runF yRG (yMg n) Tryz.f201 yOC yUA x=yJt n x.1 x.2.1 x.2.2.1:=by kernel_rfl
def z09(n1:Int)(least:Int)(most:Int):(Int×Unit) :=
  (bif decide (n1 < least)then ((z0d Bool.true (3:Int)).1,())else ((z0d (decide (n1 > most)) (3:Int)).1,()))
abbrev yVo (n1:Int) (least:Int) (most:Int):Option (Int×Unit):=some (z09 n1 least most)
theorem yQG(n1:Int)(least:Int)(most:Int)(y:Int×Unit)(h:yVo n1 least most=some y):∃ n,yJt n n1 least most=some y :=
  ⟨0,by rw[← h];show yJt 0 n1 least most=some (z09 n1 least most);unfold yJt z09;first|rfl|(simp only[yJ];done)|(simp only[yJ];rfl)⟩
def z09_e:Entry:={ f:=201,args:=yOC,ress:=yUA,m:=fun x=>yVo x.1 x.2.1 x.2.2.1 }
theorem yS7:FnOK Tryz.prog z09_e:=yI (g:=yRG) (fn:=Tryz.f201) yD yH (yA yAr eNil) (by kernel_rfl) (by kernel_rfl) (by kernel_rfl) (fun x y h=>let ⟨n,hn⟩:=yQG x.1 x.2.1 x.2.2.1 y h;⟨yMg n,iNil,(yQz n x).trans hn⟩)
abbrev zB_a:Ty:=.pair t58 (.pair t263 .unit)
abbrev zB_r:Ty:=.pair t4 .unit
def zB_g:G:={ T:=T,E:=[zD_e],muts:=[],fz:=[] }
def zB_k:List (List Nat):=[]
def yU6(n:Nat):Ann:={ keep:=zB_k,fuel:=n,inl:=[],deep:=0 }
def zB_m(n:Nat)(s:List (Q3))(f:(Q3)×Unit→Option (Bool×Unit)):Option (Bool×Unit) :=
  (Option.bind (zD_M s f) fun v0=>some (decide (v0.1 ≥ 0),()))
theorem yWj(n:Nat)(x:zB_a.den):runF zB_g (yU6 n) Tryz.f204 zB_a zB_r x=zB_m n x.1 x.2.1:=by kernel_rfl
def zB_M(s:List (Q3))(f:(Q3)×Unit→Option (Bool×Unit)):Option (Bool×Unit):=zB_m 0 s f
theorem ySN(s:List (Q3))(f:(Q3)×Unit→Option (Bool×Unit))(y:Bool×Unit)(h:zB_M s f=some y):∃ n,zB_m n s f=some y:=⟨0,h⟩
def zB_e:Entry:={ f:=204,args:=zB_a,ress:=zB_r,m:=fun x=>zB_M x.1 x.2.1 }
theorem yYw:FnOK Tryz.prog zB_e:=yI (g:=zB_g) (fn:=Tryz.f204) yD yH (yA yXK eNil) (by kernel_rfl) (by kernel_rfl) (by kernel_rfl) (fun x y h=>let ⟨n,hn⟩:=ySN x.1 x.2.1 y h;⟨yU6 n,iNil,(yWj n x).trans hn⟩)
abbrev zC_a:Ty:=.pair t35 (.pair t265 .unit)
abbrev zC_r:Ty:=.pair t4 .unit
def zC_g:G:={ T:=T,E:=[zE_e],muts:=[],fz:=[] }
def zC_k:List (List Nat):=[]
def yVm(n:Nat):Ann:={ keep:=zC_k,fuel:=n,inl:=[],deep:=0 }
def zC_m(n:Nat)(s:List Nat)(f:Nat×Unit→Option (Bool×Unit)):Option (Bool×Unit) :=
  (Option.bind (zE_M s f) fun v0=>some (decide (v0.1 ≥ 0),()))
theorem yYF(n:Nat)(x:zC_a.den):runF zC_g (yVm n) Tryz.f207 zC_a zC_r x=zC_m n x.1 x.2.1:=by kernel_rfl
def zC_M(s:List Nat)(f:Nat×Unit→Option (Bool×Unit)):Option (Bool×Unit):=zC_m 0 s f
theorem yRs(s:List Nat)(f:Nat×Unit→Option (Bool×Unit))(y:Bool×Unit)(h:zC_M s f=some y):∃ n,zC_m n s f=some y:=⟨0,h⟩
def zC_e:Entry:={ f:=207,args:=zC_a,ress:=zC_r,m:=fun x=>zC_M x.1 x.2.1 }
theorem yWs:FnOK Tryz.prog zC_e:=yI (g:=zC_g) (fn:=Tryz.f207) yD yH (yA yXc eNil) (by kernel_rfl) (by kernel_rfl) (by kernel_rfl) (fun x y h=>let ⟨n,hn⟩:=yRs x.1 x.2.1 y h;⟨yVm n,iNil,(yYF n x).trans hn⟩)
abbrev zf_a:Ty:=.pair t63 .unit
abbrev zf_r:Ty:=.pair t28 .unit
def zf_g:G:={ T:=T,E:=[z0d_e],muts:=[],fz:=[] }
def zf_k:List (List Nat):=[]
def yRM(n:Nat):Ann:={ keep:=zf_k,fuel:=n,inl:=[],deep:=0 }
def zf_m(n:Nat)(s:Q3):Option (Int×Unit) :=
  (bif decide (s.1 < 0)then some ((z0d Bool.true (14:Int)).1,())else (bif decide (s.1 ≥ s.2.1)then some ((z0d Bool.true (14:Int)).1,())else some ((z0d (decide (s.2.1 > 100000)) (14:Int)).1,())))
theorem yYT(n:Nat)(x:zf_a.den):runF zf_g (yRM n) Tryz.f225 zf_a zf_r x=zf_m n x.1:=by kernel_rfl
def zf(s:Q3):(Int×Unit) :=
  (bif decide (s.1 < 0)then ((z0d Bool.true (14:Int)).1,())else (bif decide (s.1 ≥ s.2.1)then ((z0d Bool.true (14:Int)).1,())else ((z0d (decide (s.2.1 > 100000)) (14:Int)).1,())))
abbrev zf_M (s:Q3):Option (Int×Unit):=some (zf s)
theorem ySi(s:Q3)(y:Int×Unit)(h:zf_M s=some y):∃ n,zf_m n s=some y :=
  ⟨0,by rw[← h];show zf_m 0 s=some (zf s);unfold zf_m zf;first|rfl|(simp only[yJ];done)|(simp only[yJ];rfl)⟩
def zf_e:Entry:={ f:=225,args:=zf_a,ress:=zf_r,m:=fun x=>zf_M x.1 }
theorem yYN:FnOK Tryz.prog zf_e:=yI (g:=zf_g) (fn:=Tryz.f225) yD yH (yA yAr eNil) (by kernel_rfl) (by kernel_rfl) (by kernel_rfl) (fun x y h=>let ⟨n,hn⟩:=ySi x.1 y h;⟨yRM n,iNil,(yYT n x).trans hn⟩)
end
end Go.Tw
end
