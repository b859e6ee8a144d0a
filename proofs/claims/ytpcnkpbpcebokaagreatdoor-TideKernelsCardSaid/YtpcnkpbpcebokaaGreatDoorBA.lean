import Derived.Test.YtpcnkpbpcebokaaGreatDoorBT
import Derived.Test.YtpcnkpbpcebokaaGreatDoorB0
import Derived.Test.YtpcnkpbpcebokaaGreatDoorBS
import Derived.Test.YtpcnkpbpcebokaaGreatDoorLQ
set_option linter.all false
section
set_option maxRecDepth 1000000
namespace Go.Tw
open Go.Vx Go.Vx.B Go.Proofs
noncomputable section
abbrev yTm:Ty:=.pair t41 .unit
abbrev yY0:Ty:=.pair t3 .unit
def yX0:G:={ T:=T,E:=[],muts:=[],fz:=[] }
def ye5:List (List Nat):=[[0,3]]
def yOs(n:Nat):Ann:={ keep:=ye5,fuel:=n,inl:=[],deep:=0 }
def yF6(n:Nat)(r0:List Int->Int->Option (Int×Unit))(ay:List Int)(bQ:Int):Option (Int×Unit):=
  (bif decide (bQ < (↑ay.length:Int))then (Option.bind (idx ay bQ) λ v1=>(bif v1 != 0 then (Option.bind (idx ay bQ) λ v2=>some (v2,()))else r0 ay (IntKind.i64.wrap (bQ+1))))else some ((0:Int),()))
def y78(n:Nat)(k:Nat)(ay:List Int)(bQ:Int):Option (Int×Unit):=
  iter (λ r y=>yF6 n (λ ay bQ=>r ((ay,(bQ,())),((),()))) y.1.1 y.1.2.1) k ((ay,(bQ,())),((),()))
def yNz(n:Nat)(l:List Int):Option (Int×Unit):=
  (y78 n n (l) ((0:Int)))
theorem ybX(n:Nat)(x:yTm.den):runF yX0 (yOs n) Tryz.f24 yTm yY0 x=yNz n x.1:=by kernel_rfl
def yCv(ay:List Int)(bQ:Int)(v1:Int):Option ((Int×Unit)⊕Unit):=
  (bif v1 != 0 then (Option.bind (idx ay bQ) λ v2=>(some (Sum.inl ((v2,())))))else (some (Sum.inr ())))
def yC0(ay:List Int):Option (Int×Unit):=
  (some (((0:Int),())))
theorem yEu(n:Nat)(hn:big<=n)(ay:List Int)(hx:List.length (ay) < lenMax):LeF some (yM (λ ai aF a7=>yCv ay ai aF) (λ a7=>yC0 ay) 0 (ay) ()) (y78 n n ay 0):=by
  refine yQ (f:=some) (W:=λ aO ai a7=>y78 n aO ay ai) (body:=(λ ai aF a7=>yCv ay ai aF)) (fin:=(λ a7=>yC0 ay)) (λ aO ai a7=>?_) hx () n (by unfold big at hn;unfold lenMax at hx;omega)
  show LeF _ _ (yF6 n (y78 n aO) ay ai)
  exact y6 (y8 λ v1=>(y6 (y8 λ v2=>(y7 rfl)) (y7 rfl))) (yp (y7 rfl))
def y6g(l:List Int):Option (Int×Unit):=
  (bif decide (List.length (l) < lenMax)then yM (λ ai aF a7=>yCv (l) ai aF) (λ a7=>yC0 (l)) 0 (l) ()else none)
theorem yST(l:List Int)(y:Int×Unit)(h:y6g l=some y):∃ n,yNz n l=some y:=
  ⟨big,LeF.top (show LeF some (y6g l) (yNz big l)from (λ (n:Nat) (hn:big<=n)=>show LeF some (y6g l) (yNz n l)from (yN λ hx=>by apply yEu n hn;exact hx)) big (Nat.le_refl _)) h⟩
def z0b_e:Entry:={ f:=24,args:=yTm,ress:=yY0,m:=λ x=>y6g x.1 }
theorem yFj:FnOK Tryz.prog z0b_e:=yJ (g:=yX0) (fn:=Tryz.f24) yC yI eNil (by kernel_rfl) (by kernel_rfl) (by kernel_rfl) (λ x y h=>let ⟨n,hn⟩:=yST x.1 y h;⟨yOs n,iNil,(ybX n x).trans hn⟩)
abbrev zd_a:Ty:=.pair t23 (.pair t23 .unit)
abbrev zd_r:Ty:=.pair t4 .unit
def zd_g:G:={ T:=T,E:=[],muts:=[],fz:=[] }
def zd_k:List (List Nat):=[[0,1,5]]
def yYj(n:Nat):Ann:={ keep:=zd_k,fuel:=n,inl:=[],deep:=0 }
def yK8(n:Nat)(r0:List (Q4)->List (Q4)->Int->Option (Bool×Unit))(aP:List (Q4))(aW:List (Q4))(aQ:Int):Option (Bool×Unit):=
  (bif decide (aQ < (↑aP.length:Int))then (Option.bind (idx aP aQ) λ v1=>(Option.bind (idx aW aQ) λ v2=>(bif !eqV ((Ty.int IntKind.i64).pair ((Ty.int IntKind.i64).pair Ty.unit)) v1 v2 then some (Bool.false,())else r0 aP aW (IntKind.i64.wrap (aQ+1)))))else some (Bool.true,()))
def yAr(n:Nat)(k:Nat)(aP:List (Q4))(aW:List (Q4))(aQ:Int):Option (Bool×Unit):=
  iter (λ r y=>yK8 n (λ aP aW aQ=>r ((aP,(aW,(aQ,()))),((),()))) y.1.1 y.1.2.1 y.1.2.2.1) k ((aP,(aW,(aQ,()))),((),()))
def zd_m(n:Nat)(a:List (Q4))(b:List (Q4)):Option (Bool×Unit):=
  (bif (↑a.length:Int) != (↑b.length:Int)then some (Bool.false,())else (yAr n n (a) (b) ((0:Int))))
theorem ybv(n:Nat)(x:zd_a.den):runF zd_g (yYj n) Tryz.f29 zd_a zd_r x=zd_m n x.1 x.2.1:=by kernel_rfl
def yMF(aP:List (Q4))(aW:List (Q4))(aQ:Int)(v1:Q4):Option ((Bool×Unit)⊕Unit):=
  (Option.bind (idx aW aQ) λ v2=>(bif !eqV ((Ty.int IntKind.i64).pair ((Ty.int IntKind.i64).pair Ty.unit)) v1 v2 then (some (Sum.inl ((Bool.false,()))))else (some (Sum.inr ()))))
def yUF(aP:List (Q4))(aW:List (Q4)):Option (Bool×Unit):=
  (some ((Bool.true,())))
theorem yHq(n:Nat)(hn:big<=n)(aP:List (Q4))(aW:List (Q4))(hx:List.length (aP) < lenMax):LeF some (yM (λ ai aF a7=>yMF aP aW ai aF) (λ a7=>yUF aP aW) 0 (aP) ()) (yAr n n aP aW 0):=by
  refine yQ (f:=some) (W:=λ aO ai a7=>yAr n aO aP aW ai) (body:=(λ ai aF a7=>yMF aP aW ai aF)) (fin:=(λ a7=>yUF aP aW)) (λ aO ai a7=>?_) hx () n (by unfold big at hn;unfold lenMax at hx;omega)
  show LeF _ _ (yK8 n (yAr n aO) aP aW ai)
  exact y6 (y8 λ v1=>(y8 λ v2=>(y6 (y7 rfl) (y7 rfl)))) (yp (y7 rfl))
def zd_M(a:List (Q4))(b:List (Q4)):Option (Bool×Unit):=
  (bif (↑a.length:Int) != (↑b.length:Int)then (some ((Bool.false,())))else (bif decide (List.length (a) < lenMax)then yM (λ ai aF a7=>yMF (a) (b) ai aF) (λ a7=>yUF (a) (b)) 0 (a) ()else none))
theorem ya9(a:List (Q4))(b:List (Q4))(y:Bool×Unit)(h:zd_M a b=some y):∃ n,zd_m n a b=some y:=
  ⟨big,LeF.top (show LeF some (zd_M a b) (zd_m big a b)from (λ (n:Nat) (hn:big<=n)=>show LeF some (zd_M a b) (zd_m n a b)from (y6 (y7 rfl) (yN λ hx=>by apply yHq n hn;exact hx))) big (Nat.le_refl _)) h⟩
def zd_e:Entry:={ f:=29,args:=zd_a,ress:=zd_r,m:=λ x=>zd_M x.1 x.2.1 }
theorem ySv:FnOK Tryz.prog zd_e:=yJ (g:=zd_g) (fn:=Tryz.f29) yC yI eNil (by kernel_rfl) (by kernel_rfl) (by kernel_rfl) (λ x y h=>let ⟨n,hn⟩:=ya9 x.1 x.2.1 y h;⟨yYj n,iNil,(ybv n x).trans hn⟩)
abbrev zk_a:Ty:=.pair t35 (.pair t35 .unit)
abbrev zk_r:Ty:=.pair t4 .unit
def zk_g:G:={ T:=T,E:=[],muts:=[],fz:=[] }
def zk_k:List (List Nat):=[[0,1,5]]
def ybS(n:Nat):Ann:={ keep:=zk_k,fuel:=n,inl:=[],deep:=0 }
def yR7(n:Nat)(r0:List Nat->List Nat->Int->Option (Bool×Unit))(aP:List Nat)(aW:List Nat)(aQ:Int):Option (Bool×Unit):=
  (bif decide (aQ < (↑aP.length:Int))then (Option.bind (idx aP aQ) λ v1=>(Option.bind (idx aW aQ) λ v2=>(bif yx Go.BinOp.neq Go.FloatKind.f32 v1 v2 then some (Bool.false,())else r0 aP aW (IntKind.i64.wrap (aQ+1)))))else some (Bool.true,()))
def yUM(n:Nat)(k:Nat)(aP:List Nat)(aW:List Nat)(aQ:Int):Option (Bool×Unit):=
  iter (λ r y=>yR7 n (λ aP aW aQ=>r ((aP,(aW,(aQ,()))),((),()))) y.1.1 y.1.2.1 y.1.2.2.1) k ((aP,(aW,(aQ,()))),((),()))
def zk_m(n:Nat)(a:List Nat)(b:List Nat):Option (Bool×Unit):=
  (bif (↑a.length:Int) != (↑b.length:Int)then some (Bool.false,())else (yUM n n (a) (b) ((0:Int))))
theorem ycF(n:Nat)(x:zk_a.den):runF zk_g (ybS n) Tryz.f30 zk_a zk_r x=zk_m n x.1 x.2.1:=by kernel_rfl
def zk_M(a:List Nat)(b:List Nat):Option (Bool×Unit):=zk_m 1000 a b
theorem yZP(a:List Nat)(b:List Nat)(y:Bool×Unit)(h:zk_M a b=some y):∃ n,zk_m n a b=some y:=⟨1000,h⟩
def zk_e:Entry:={ f:=30,args:=zk_a,ress:=zk_r,m:=λ x=>zk_M x.1 x.2.1 }
theorem ycZ:FnOK Tryz.prog zk_e:=yJ (g:=zk_g) (fn:=Tryz.f30) yC yI eNil (by kernel_rfl) (by kernel_rfl) (by kernel_rfl) (λ x y h=>let ⟨n,hn⟩:=yZP x.1 x.2.1 y h;⟨ybS n,iNil,(ycF n x).trans hn⟩)
abbrev zz_a:Ty:=.pair t22 .unit
abbrev zz_r:Ty:=.pair t4 .unit
def zz_g:G:={ T:=T,E:=[],muts:=[],fz:=[] }
def zz_k:List (List Nat):=[[0,3]]
def yaJ(n:Nat):Ann:={ keep:=zz_k,fuel:=n,inl:=[],deep:=0 }
def yLR(n:Nat)(r0:List (Q3)->Int->Option (Bool×Unit))(ay:List (Q3))(bQ:Int):Option (Bool×Unit):=
  (bif decide (bQ < (↑ay.length:Int))then (Option.bind (idx ay bQ) λ v1=>(bif decide ((↑v1.1.length:Int) > 60)then some (Bool.false,())else r0 ay (IntKind.i64.wrap (bQ+1))))else some (decide ((↑ay.length:Int)<=5),()))
def yB6(n:Nat)(k:Nat)(ay:List (Q3))(bQ:Int):Option (Bool×Unit):=
  iter (λ r y=>yLR n (λ ay bQ=>r ((ay,(bQ,())),((),()))) y.1.1 y.1.2.1) k ((ay,(bQ,())),((),()))
def zz_m(n:Nat)(l:List (Q3)):Option (Bool×Unit):=
  (yB6 n n (l) ((0:Int)))
theorem ye6(n:Nat)(x:zz_a.den):runF zz_g (yaJ n) Tryz.f31 zz_a zz_r x=zz_m n x.1:=by kernel_rfl
def yMH(ay:List (Q3))(bQ:Int)(v1:Q3):Option ((Bool×Unit)⊕Unit):=
  (bif decide ((↑v1.1.length:Int) > 60)then (some (Sum.inl ((Bool.false,()))))else (some (Sum.inr ())))
def yKo(ay:List (Q3)):Option (Bool×Unit):=
  (some ((decide ((↑ay.length:Int)<=5),())))
theorem yI1(n:Nat)(hn:big<=n)(ay:List (Q3))(hx:List.length (ay) < lenMax):LeF some (yM (λ ai aF a7=>yMH ay ai aF) (λ a7=>yKo ay) 0 (ay) ()) (yB6 n n ay 0):=by
  refine yQ (f:=some) (W:=λ aO ai a7=>yB6 n aO ay ai) (body:=(λ ai aF a7=>yMH ay ai aF)) (fin:=(λ a7=>yKo ay)) (λ aO ai a7=>?_) hx () n (by unfold big at hn;unfold lenMax at hx;omega)
  show LeF _ _ (yLR n (yB6 n aO) ay ai)
  exact y6 (y8 λ v1=>(y6 (y7 rfl) (y7 rfl))) (yp (y7 rfl))
def zz_M(l:List (Q3)):Option (Bool×Unit):=
  (bif decide (List.length (l) < lenMax)then yM (λ ai aF a7=>yMH (l) ai aF) (λ a7=>yKo (l)) 0 (l) ()else none)
theorem yXp(l:List (Q3))(y:Bool×Unit)(h:zz_M l=some y):∃ n,zz_m n l=some y:=
  ⟨big,LeF.top (show LeF some (zz_M l) (zz_m big l)from (λ (n:Nat) (hn:big<=n)=>show LeF some (zz_M l) (zz_m n l)from (yN λ hx=>by apply yI1 n hn;exact hx)) big (Nat.le_refl _)) h⟩
def zz_e:Entry:={ f:=31,args:=zz_a,ress:=zz_r,m:=λ x=>zz_M x.1 }
theorem ydF:FnOK Tryz.prog zz_e:=yJ (g:=zz_g) (fn:=Tryz.f31) yC yI eNil (by kernel_rfl) (by kernel_rfl) (by kernel_rfl) (λ x y h=>let ⟨n,hn⟩:=yXp x.1 y h;⟨yaJ n,iNil,(ye6 n x).trans hn⟩)
abbrev ySy:Ty:=.pair t22 .unit
abbrev yWO:Ty:=.pair t31 .unit
def yYx:G:={ T:=T,E:=[],muts:=[3],fz:=[] }
def yer:List (List Nat):=[[3,6,7,8]]
def yON(n:Nat):Ann:={ keep:=yer,fuel:=n,inl:=[],deep:=0 }
def yGN(n:Nat)(r0:List (Q3)->Int->Int->List (Q3)->Option (List (Q3)×Unit))(b8:List (Q3))(aG:Int)(a8:Int)(bv:List (Q3)):Option (List (Q3)×Unit):=
  (bif decide (a8 < aG)then (Option.bind (idx b8 a8) λ v1=>(bif decide (bv.length+(1:Nat)<=memMax)then r0 b8 aG (IntKind.i64.wrap (a8+1)) (bv++[(v1.1,v1.2.1,v1.2.2.1,())])else none))else some (bv,()))
def y76(n:Nat)(k:Nat)(b8:List (Q3))(aG:Int)(a8:Int)(bv:List (Q3)):Option (List (Q3)×Unit):=
  iter (λ r y=>yGN n (λ b8 aG a8 bv=>r ((b8,(aG,(a8,()))),((bv,()),()))) y.1.1 y.1.2.1 y.1.2.2.1 y.2.1.1) k ((b8,(aG,(a8,()))),((bv,()),()))
def yMc(n:Nat)(l:List (Q3)):Option (List (Q3)×Unit):=
  (y76 n n (l) ((↑l.length:Int)) ((0:Int)) ([]))
theorem yVE(n:Nat)(x:ySy.den):runF yYx (yON n) Tryz.f33 ySy yWO x=yMc n x.1:=by kernel_rfl
def yFI(b8:List (Q3))(a8:Int)(v1:Q3)(bv:List (Q3)):Option ((List (Q3)×Unit)⊕(List (Q3))):=
  (bif decide (bv.length+(1:Nat)<=memMax)then (some (Sum.inr (bv++[(v1.1,v1.2.1,v1.2.2.1,())])))else none)
def yJJ(b8:List (Q3))(bv:List (Q3)):Option (List (Q3)×Unit):=
  (some ((bv,())))
theorem yEh(n:Nat)(hn:big<=n)(b8:List (Q3))(bv:List (Q3))(hx:List.length (b8) < lenMax):LeF some (yM (λ ai aF a7=>yFI b8 ai aF a7) (λ a7=>yJJ b8 a7) 0 (b8) bv) (y76 n n b8 (List.length (b8):Int) 0 bv):=by
  refine yQ (f:=some) (W:=λ aO ai a7=>y76 n aO b8 (List.length (b8):Int) ai a7) (body:=(λ ai aF a7=>yFI b8 ai aF a7)) (fin:=(λ a7=>yJJ b8 a7)) (λ aO ai a7=>?_) hx bv n (by unfold big at hn;unfold lenMax at hx;omega)
  show LeF _ _ (yGN n (y76 n aO) b8 (List.length (b8):Int) ai a7)
  exact y6 (y8 λ v1=>(y6 (y7 rfl) y01)) (yp (y7 rfl))
def yIK(l:List (Q3)):Option (List (Q3)×Unit):=
  (bif decide (List.length (l) < lenMax)then yM (λ ai aF a7=>yFI (l) ai aF a7) (λ a7=>yJJ (l) a7) 0 (l) ([])else none)
theorem yTN(l:List (Q3))(y:List (Q3)×Unit)(h:yIK l=some y):∃ n,yMc n l=some y:=
  ⟨big,LeF.top (show LeF some (yIK l) (yMc big l)from (λ (n:Nat) (hn:big<=n)=>show LeF some (yIK l) (yMc n l)from (yN λ hx=>by apply yEh n hn;exact hx)) big (Nat.le_refl _)) h⟩
def z0s_e:Entry:={ f:=33,args:=ySy,ress:=yWO,m:=λ x=>yIK x.1 }
theorem yWi:FnOK Tryz.prog z0s_e:=yJ (g:=yYx) (fn:=Tryz.f33) yC yI eNil (by kernel_rfl) (by kernel_rfl) (by kernel_rfl) (λ x y h=>let ⟨n,hn⟩:=yTN x.1 y h;⟨yON n,iNil,(yVE n x).trans hn⟩)
abbrev zi_a:Ty:=.pair t3 (.pair t3 (.pair t3 .unit))
abbrev zi_r:Ty:=.pair t3 .unit
def zi_g:G:={ T:=T,E:=[],muts:=[],fz:=[] }
def zi_k:List (List Nat):=[]
def yYE(n:Nat):Ann:={ keep:=zi_k,fuel:=n,inl:=[],deep:=0 }
def zi_m(n:Nat)(n1:Int)(low:Int)(high:Int):Option (Int×Unit):=
  (bif decide (n1 < low)then some ((3:Int),())else (bif decide (n1 > high)then some ((3:Int),())else some ((0:Int),())))
theorem ybs(n:Nat)(x:zi_a.den):runF zi_g (yYE n) Tryz.f44 zi_a zi_r x=zi_m n x.1 x.2.1 x.2.2.1:=by kernel_rfl
def zi(n1:Int)(low:Int)(high:Int):(Int×Unit):=
  (bif decide (n1 < low)then ((3:Int),())else (bif decide (n1 > high)then ((3:Int),())else ((0:Int),())))
abbrev zi_M (n1:Int) (low:Int) (high:Int):Option (Int×Unit):=some (zi n1 low high)
theorem yYf(n1:Int)(low:Int)(high:Int)(y:Int×Unit)(h:zi_M n1 low high=some y):∃ n,zi_m n n1 low high=some y:=
  ⟨0,by rw[<- h];show zi_m 0 n1 low high=some (zi n1 low high);unfold zi_m zi;first|rfl|(simp only[yG];done)|(simp only[yG];rfl)⟩
def zi_e:Entry:={ f:=44,args:=zi_a,ress:=zi_r,m:=λ x=>zi_M x.1 x.2.1 x.2.2.1 }
theorem yRd:FnOK Tryz.prog zi_e:=yJ (g:=zi_g) (fn:=Tryz.f44) yC yI eNil (by kernel_rfl) (by kernel_rfl) (by kernel_rfl) (λ x y h=>let ⟨n,hn⟩:=yYf x.1 x.2.1 x.2.2.1 y h;⟨yYE n,iNil,(ybs n x).trans hn⟩)
abbrev yQF:Ty:=.pair t79 (.pair t79 .unit)
abbrev yX7:Ty:=.pair t4 .unit
def yVa:G:={ T:=T,E:=[],muts:=[],fz:=[] }
def yei:List (List Nat):=[[0,1,5]]
def yPp(n:Nat):Ann:={ keep:=yei,fuel:=n,inl:=[],deep:=0 }
def yFV(n:Nat)(r0:List (Nat×Nat)->List (Nat×Nat)->Int->Option (Bool×Unit))(aP:List (Nat×Nat))(aW:List (Nat×Nat))(aQ:Int):Option (Bool×Unit):=
  (bif decide (aQ < (↑aP.length:Int))then (Option.bind (idx aP aQ) λ v1=>(Option.bind (idx aW aQ) λ v2=>(bif !y9p Go.FloatKind.f32 v1 v2 then some (Bool.false,())else r0 aP aW (IntKind.i64.wrap (aQ+1)))))else some (Bool.true,()))
def y7I(n:Nat)(k:Nat)(aP:List (Nat×Nat))(aW:List (Nat×Nat))(aQ:Int):Option (Bool×Unit):=
  iter (λ r y=>yFV n (λ aP aW aQ=>r ((aP,(aW,(aQ,()))),((),()))) y.1.1 y.1.2.1 y.1.2.2.1) k ((aP,(aW,(aQ,()))),((),()))
def yNl(n:Nat)(a:List (Nat×Nat))(b:List (Nat×Nat)):Option (Bool×Unit):=
  (bif (↑a.length:Int) != (↑b.length:Int)then some (Bool.false,())else (y7I n n (a) (b) ((0:Int))))
theorem yYK(n:Nat)(x:yQF.den):runF yVa (yPp n) Tryz.f53 yQF yX7 x=yNl n x.1 x.2.1:=by kernel_rfl
def yKj(aP:List (Nat×Nat))(aW:List (Nat×Nat))(aQ:Int)(v1:Nat×Nat):Option ((Bool×Unit)⊕Unit):=
  (Option.bind (idx aW aQ) λ v2=>(bif !y9p Go.FloatKind.f32 v1 v2 then (some (Sum.inl ((Bool.false,()))))else (some (Sum.inr ()))))
def yJK(aP:List (Nat×Nat))(aW:List (Nat×Nat)):Option (Bool×Unit):=
  (some ((Bool.true,())))
theorem yDv(n:Nat)(hn:big<=n)(aP:List (Nat×Nat))(aW:List (Nat×Nat))(hx:List.length (aP) < lenMax):LeF some (yM (λ ai aF a7=>yKj aP aW ai aF) (λ a7=>yJK aP aW) 0 (aP) ()) (y7I n n aP aW 0):=by
  refine yQ (f:=some) (W:=λ aO ai a7=>y7I n aO aP aW ai) (body:=(λ ai aF a7=>yKj aP aW ai aF)) (fin:=(λ a7=>yJK aP aW)) (λ aO ai a7=>?_) hx () n (by unfold big at hn;unfold lenMax at hx;omega)
  show LeF _ _ (yFV n (y7I n aO) aP aW ai)
  exact y6 (y8 λ v1=>(y8 λ v2=>(y6 (y7 rfl) (y7 rfl)))) (yp (y7 rfl))
def yL3(a:List (Nat×Nat))(b:List (Nat×Nat)):Option (Bool×Unit):=
  (bif (↑a.length:Int) != (↑b.length:Int)then (some ((Bool.false,())))else (bif decide (List.length (a) < lenMax)then yM (λ ai aF a7=>yKj (a) (b) ai aF) (λ a7=>yJK (a) (b)) 0 (a) ()else none))
theorem yU1(a:List (Nat×Nat))(b:List (Nat×Nat))(y:Bool×Unit)(h:yL3 a b=some y):∃ n,yNl n a b=some y:=
  ⟨big,LeF.top (show LeF some (yL3 a b) (yNl big a b)from (λ (n:Nat) (hn:big<=n)=>show LeF some (yL3 a b) (yNl n a b)from (y6 (y7 rfl) (yN λ hx=>by apply yDv n hn;exact hx))) big (Nat.le_refl _)) h⟩
def z05_e:Entry:={ f:=53,args:=yQF,ress:=yX7,m:=λ x=>yL3 x.1 x.2.1 }
theorem ya3:FnOK Tryz.prog z05_e:=yJ (g:=yVa) (fn:=Tryz.f53) yC yI eNil (by kernel_rfl) (by kernel_rfl) (by kernel_rfl) (λ x y h=>let ⟨n,hn⟩:=yU1 x.1 x.2.1 y h;⟨yPp n,iNil,(yYK n x).trans hn⟩)
abbrev yTL:Ty:=.pair t94 .unit
abbrev yb5:Ty:=.pair t60 .unit
def yYe:G:={ T:=T,E:=[],muts:=[7,11],fz:=[] }
def ybt:List (List Nat):=[]
def yP8(n:Nat):Ann:={ keep:=ybt,fuel:=n,inl:=[],deep:=0 }
def yMP(n:Nat)(r1:Q1):Option ((Q1)×Unit):=
  (bif decide ((0:Nat)+r1.2.2.1.length<=memMax)then (bif decide ((0:Nat)+r1.2.2.2.1.length<=memMax)then some ((r1.1,r1.2.1,r1.2.2.1,r1.2.2.2.1,()),())else none)else none)
theorem yWg(n:Nat)(x:yTL.den):runF yYe (yP8 n) Tryz.f56 yTL yb5 x=yMP n x.1:=by kernel_rfl
def yLw(r1:Q1):Option ((Q1)×Unit):=yMP 0 r1
theorem yUG(r1:Q1)(y:(Q1)×Unit)(h:yLw r1=some y):∃ n,yMP n r1=some y:=⟨0,h⟩
def z0L_e:Entry:={ f:=56,args:=yTL,ress:=yb5,m:=λ x=>yLw x.1 }
theorem yYA:FnOK Tryz.prog z0L_e:=yJ (g:=yYe) (fn:=Tryz.f56) yC yI eNil (by kernel_rfl) (by kernel_rfl) (by kernel_rfl) (λ x y h=>let ⟨n,hn⟩:=yUG x.1 y h;⟨yP8 n,iNil,(yWg n x).trans hn⟩)
abbrev zy_a:Ty:=.pair t100 (.pair t100 .unit)
abbrev zy_r:Ty:=.pair t4 .unit
def zy_g:G:={ T:=T,E:=[],muts:=[],fz:=[] }
def zy_k:List (List Nat):=[[0,1,5]]
def yZ0(n:Nat):Ann:={ keep:=zy_k,fuel:=n,inl:=[],deep:=0 }
def ySH(n:Nat)(r0:List (List Int)->List (List Int)->Int->Option (Bool×Unit))(aP:List (List Int))(aW:List (List Int))(aQ:Int):Option (Bool×Unit):=
  (bif decide (aQ < (↑aP.length:Int))then (Option.bind (idx aP aQ) λ v1=>(Option.bind (idx aW aQ) λ v2=>(bif !eqV (Ty.arr (2:Nat) (Ty.int IntKind.i64)) v1 v2 then some (Bool.false,())else r0 aP aW (IntKind.i64.wrap (aQ+1)))))else some (Bool.true,()))
def ySk(n:Nat)(k:Nat)(aP:List (List Int))(aW:List (List Int))(aQ:Int):Option (Bool×Unit):=
  iter (λ r y=>ySH n (λ aP aW aQ=>r ((aP,(aW,(aQ,()))),((),()))) y.1.1 y.1.2.1 y.1.2.2.1) k ((aP,(aW,(aQ,()))),((),()))
def zy_m(n:Nat)(a:List (List Int))(b:List (List Int)):Option (Bool×Unit):=
  (bif (↑a.length:Int) != (↑b.length:Int)then some (Bool.false,())else (ySk n n (a) (b) ((0:Int))))
theorem ydh(n:Nat)(x:zy_a.den):runF zy_g (yZ0 n) Tryz.f66 zy_a zy_r x=zy_m n x.1 x.2.1:=by kernel_rfl
def zy_M(a:List (List Int))(b:List (List Int)):Option (Bool×Unit):=zy_m 1000 a b
theorem yay(a:List (List Int))(b:List (List Int))(y:Bool×Unit)(h:zy_M a b=some y):∃ n,zy_m n a b=some y:=⟨1000,h⟩
def zy_e:Entry:={ f:=66,args:=zy_a,ress:=zy_r,m:=λ x=>zy_M x.1 x.2.1 }
theorem yd8:FnOK Tryz.prog zy_e:=yJ (g:=zy_g) (fn:=Tryz.f66) yC yI eNil (by kernel_rfl) (by kernel_rfl) (by kernel_rfl) (λ x y h=>let ⟨n,hn⟩:=yay x.1 x.2.1 y h;⟨yZ0 n,iNil,(ydh n x).trans hn⟩)
abbrev yRp:Ty:=.pair t41 (.pair t41 .unit)
abbrev yWB:Ty:=.pair t4 .unit
def yWx:G:={ T:=T,E:=[],muts:=[],fz:=[] }
def ycX:List (List Nat):=[[0,1,5]]
def yQ9(n:Nat):Ann:={ keep:=ycX,fuel:=n,inl:=[],deep:=0 }
def yMY(n:Nat)(r0:List Int->List Int->Int->Option (Bool×Unit))(aP:List Int)(aW:List Int)(aQ:Int):Option (Bool×Unit):=
  (bif decide (aQ < (↑aP.length:Int))then (Option.bind (idx aP aQ) λ v1=>(Option.bind (idx aW aQ) λ v2=>(bif v1 != v2 then some (Bool.false,())else r0 aP aW (IntKind.i64.wrap (aQ+1)))))else some (Bool.true,()))
def yLj(n:Nat)(k:Nat)(aP:List Int)(aW:List Int)(aQ:Int):Option (Bool×Unit):=
  iter (λ r y=>yMY n (λ aP aW aQ=>r ((aP,(aW,(aQ,()))),((),()))) y.1.1 y.1.2.1 y.1.2.2.1) k ((aP,(aW,(aQ,()))),((),()))
def ySs(n:Nat)(a:List Int)(b:List Int):Option (Bool×Unit):=
  (bif (↑a.length:Int) != (↑b.length:Int)then some (Bool.false,())else (yLj n n (a) (b) ((0:Int))))
theorem ybc(n:Nat)(x:yRp.den):runF yWx (yQ9 n) Tryz.f75 yRp yWB x=ySs n x.1 x.2.1:=by kernel_rfl
def yO3(a:List Int)(b:List Int):Option (Bool×Unit):=ySs 1000 a b
theorem yRV(a:List Int)(b:List Int)(y:Bool×Unit)(h:yO3 a b=some y):∃ n,ySs n a b=some y:=⟨1000,h⟩
def z03_e:Entry:={ f:=75,args:=yRp,ress:=yWB,m:=λ x=>yO3 x.1 x.2.1 }
theorem yaH:FnOK Tryz.prog z03_e:=yJ (g:=yWx) (fn:=Tryz.f75) yC yI eNil (by kernel_rfl) (by kernel_rfl) (by kernel_rfl) (λ x y h=>let ⟨n,hn⟩:=yRV x.1 x.2.1 y h;⟨yQ9 n,iNil,(ybc n x).trans hn⟩)
def zm_m(n:Nat)(x1:Nat):Option (Int×Unit):=
  (Option.bind (y1g Go.FloatKind.f32 x1 Go.FloatKind.f64) λ v0=>(Option.bind (yh Go.FloatKind.f64 (y08 Go.BinOp.mul Go.FloatKind.f64 (nat_lit 4625196817309499392) v0) IntKind.i64) λ v1=>some (v1,())))
def zm_M(x1:Nat):Option (Int×Unit):=zm_m 0 x1
abbrev yRT:Ty:=.pair t57 (.pair t57 .unit)
abbrev yYB:Ty:=.pair t57 .unit
def yY5:G:={ T:=T,E:=[],muts:=[],fz:=[] }
def yeo:List (List Nat):=[]
def yOR(n:Nat):Ann:={ keep:=yeo,fuel:=n,inl:=[],deep:=0 }
def yNR(n:Nat)(a:Q4)(b:Q4):Option ((Q4)×Unit):=
  some ((IntKind.i64.wrap (IntKind.i64.wrap (a.1 * b.1) - IntKind.i64.wrap (a.2.1 * b.2.1)),IntKind.i64.wrap (IntKind.i64.wrap (a.1 * b.2.1)+IntKind.i64.wrap (a.2.1 * b.1)),()),())
theorem yVO(n:Nat)(x:yRT.den):runF yY5 (yOR n) Tryz.f80 yRT yYB x=yNR n x.1 x.2.1:=by kernel_rfl
def z0c(a:Q4)(b:Q4):((Q4)×Unit):=
  ((IntKind.i64.wrap (IntKind.i64.wrap (a.1 * b.1) - IntKind.i64.wrap (a.2.1 * b.2.1)),IntKind.i64.wrap (IntKind.i64.wrap (a.1 * b.2.1)+IntKind.i64.wrap (a.2.1 * b.1)),()),())
abbrev yZb (a:Q4) (b:Q4):Option ((Q4)×Unit):=some (z0c a b)
theorem yTj(a:Q4)(b:Q4)(y:(Q4)×Unit)(h:yZb a b=some y):∃ n,yNR n a b=some y:=
  ⟨0,by rw[<- h];show yNR 0 a b=some (z0c a b);unfold yNR z0c;first|rfl|(simp only[yG];done)|(simp only[yG];rfl)⟩
def z0c_e:Entry:={ f:=80,args:=yRT,ress:=yYB,m:=λ x=>yZb x.1 x.2.1 }
theorem yKf:FnOK Tryz.prog z0c_e:=yJ (g:=yY5) (fn:=Tryz.f80) yC yI eNil (by kernel_rfl) (by kernel_rfl) (by kernel_rfl) (λ x y h=>let ⟨n,hn⟩:=yTj x.1 x.2.1 y h;⟨yOR n,iNil,(yVO n x).trans hn⟩)
abbrev yQt:Ty:=.pair t57 (.pair t57 .unit)
abbrev yYi:Ty:=.pair t57 .unit
def ybL:G:={ T:=T,E:=[],muts:=[],fz:=[] }
def ycG:List (List Nat):=[]
def yPy(n:Nat):Ann:={ keep:=ycG,fuel:=n,inl:=[],deep:=0 }
def yLt(n:Nat)(a:Q4)(b:Q4):Option ((Q4)×Unit):=
  some ((IntKind.i64.wrap (a.1+b.1),IntKind.i64.wrap (a.2.1+b.2.1),()),())
theorem yYl(n:Nat)(x:yQt.den):runF ybL (yPy n) Tryz.f82 yQt yYi x=yLt n x.1 x.2.1:=by kernel_rfl
def z0x(a:Q4)(b:Q4):((Q4)×Unit):=
  ((IntKind.i64.wrap (a.1+b.1),IntKind.i64.wrap (a.2.1+b.2.1),()),())
abbrev ybo (a:Q4) (b:Q4):Option ((Q4)×Unit):=some (z0x a b)
theorem yRa(a:Q4)(b:Q4)(y:(Q4)×Unit)(h:ybo a b=some y):∃ n,yLt n a b=some y:=
  ⟨0,by rw[<- h];show yLt 0 a b=some (z0x a b);unfold yLt z0x;first|rfl|(simp only[yG];done)|(simp only[yG];rfl)⟩
def z0x_e:Entry:={ f:=82,args:=yQt,ress:=yYi,m:=λ x=>ybo x.1 x.2.1 }
theorem yJI:FnOK Tryz.prog z0x_e:=yJ (g:=ybL) (fn:=Tryz.f82) yC yI eNil (by kernel_rfl) (by kernel_rfl) (by kernel_rfl) (λ x y h=>let ⟨n,hn⟩:=yRa x.1 x.2.1 y h;⟨yPy n,iNil,(yYl n x).trans hn⟩)
abbrev zv_a:Ty:=.pair t57 .unit
abbrev zv_r:Ty:=.pair t57 .unit
def zv_g:G:={ T:=T,E:=[],muts:=[],fz:=[] }
def zv_k:List (List Nat):=[]
def yYk(n:Nat):Ann:={ keep:=zv_k,fuel:=n,inl:=[],deep:=0 }
def zv_m(n:Nat)(a:Q4):Option ((Q4)×Unit):=
  some ((a.1,IntKind.i64.wrap ((0:Int) - a.2.1),()),())
theorem ybw(n:Nat)(x:zv_a.den):runF zv_g (yYk n) Tryz.f83 zv_a zv_r x=zv_m n x.1:=by kernel_rfl
def zv(a:Q4):((Q4)×Unit):=
  ((a.1,IntKind.i64.wrap ((0:Int) - a.2.1),()),())
abbrev zv_M (a:Q4):Option ((Q4)×Unit):=some (zv a)
theorem ybU(a:Q4)(y:(Q4)×Unit)(h:zv_M a=some y):∃ n,zv_m n a=some y:=
  ⟨0,by rw[<- h];show zv_m 0 a=some (zv a);unfold zv_m zv;first|rfl|(simp only[yG];done)|(simp only[yG];rfl)⟩
def zv_e:Entry:={ f:=83,args:=zv_a,ress:=zv_r,m:=λ x=>zv_M x.1 }
theorem ydK:FnOK Tryz.prog zv_e:=yJ (g:=zv_g) (fn:=Tryz.f83) yC yI eNil (by kernel_rfl) (by kernel_rfl) (by kernel_rfl) (λ x y h=>let ⟨n,hn⟩:=ybU x.1 y h;⟨yYk n,iNil,(ybw n x).trans hn⟩)
abbrev yQY:Ty:=.pair t23 .unit
abbrev yXP:Ty:=.pair t23 .unit
def ya8:G:={ T:=T,E:=[],muts:=[3],fz:=[] }
def ydk:List (List Nat):=[]
def yPH(n:Nat):Ann:={ keep:=ydk,fuel:=n,inl:=[],deep:=0 }
def yLd(n:Nat)(l:List (Q4)):Option (List (Q4)×Unit):=
  (bif decide ((0:Nat)+l.length<=memMax)then some (l,())else none)
theorem yXH(n:Nat)(x:yQY.den):runF ya8 (yPH n) Tryz.f84 yQY yXP x=yLd n x.1:=by kernel_rfl
def yMw(l:List (Q4)):Option (List (Q4)×Unit):=yLd 0 l
theorem yR5(l:List (Q4))(y:List (Q4)×Unit)(h:yMw l=some y):∃ n,yLd n l=some y:=⟨0,h⟩
def z0E_e:Entry:={ f:=84,args:=yQY,ress:=yXP,m:=λ x=>yMw x.1 }
theorem yYM:FnOK Tryz.prog z0E_e:=yJ (g:=ya8) (fn:=Tryz.f84) yC yI eNil (by kernel_rfl) (by kernel_rfl) (by kernel_rfl) (λ x y h=>let ⟨n,hn⟩:=yR5 x.1 y h;⟨yPH n,iNil,(yXH n x).trans hn⟩)
abbrev yUB:Ty:=.pair t58 .unit
abbrev yYV:Ty:=.pair t60 .unit
def yUv:G:={ T:=T,E:=[],muts:=[],fz:=[] }
def yd3:List (List Nat):=[]
def yOY(n:Nat):Ann:={ keep:=yd3,fuel:=n,inl:=[],deep:=0 }
def yNF(n:Nat)(gaps:List (Q4)):Option ((Q1)×Unit):=
  some (([(103:UInt8)],(0:Int),[nat_lit 1065353216,nat_lit 0,nat_lit 3212836864,nat_lit 0],gaps,()),())
theorem yX6(n:Nat)(x:yUB.den):runF yUv (yOY n) Tryz.f102 yUB yYV x=yNF n x.1:=by kernel_rfl
def z0t(gaps:List (Q4)):((Q1)×Unit):=
  (([(103:UInt8)],(0:Int),[nat_lit 1065353216,nat_lit 0,nat_lit 3212836864,nat_lit 0],gaps,()),())
abbrev yYH (gaps:List (Q4)):Option ((Q1)×Unit):=some (z0t gaps)
theorem ySN(gaps:List (Q4))(y:(Q1)×Unit)(h:yYH gaps=some y):∃ n,yNF n gaps=some y:=
  ⟨0,by rw[<- h];show yNF 0 gaps=some (z0t gaps);unfold yNF z0t;first|rfl|(simp only[yG];done)|(simp only[yG];rfl)⟩
def z0t_e:Entry:={ f:=102,args:=yUB,ress:=yYV,m:=λ x=>yYH x.1 }
theorem yWc:FnOK Tryz.prog z0t_e:=yJ (g:=yUv) (fn:=Tryz.f102) yC yI eNil (by kernel_rfl) (by kernel_rfl) (by kernel_rfl) (λ x y h=>let ⟨n,hn⟩:=ySN x.1 y h;⟨yOY n,iNil,(yX6 n x).trans hn⟩)
abbrev yQk:Ty:=.pair t9 .unit
abbrev ya7:Ty:=.pair t31 .unit
def yal:G:={ T:=T,E:=[],muts:=[3],fz:=[] }
def yeD:List (List Nat):=[[3,8]]
def yOp(n:Nat):Ann:={ keep:=yeD,fuel:=n,inl:=[],deep:=0 }
def yNw(n:Nat)(r0:List (Q3)->List UInt8->Int->Option (List (Q3)×Unit))(bv:List (Q3))(str1__0:List UInt8)(pos1__0:Int):Option (List (Q3)×Unit):=
  (bif decide (pos1__0 < (↑str1__0.length:Int))then (bif (yf str1__0 pos1__0).1==72 then (bif decide (bv.length+(1:Nat)<=memMax)then r0 (bv++[(y3p (yf str1__0 pos1__0).1,(1:Int),(2:Int),())]) str1__0 (yf str1__0 pos1__0).2 else none)else (bif (yf str1__0 pos1__0).1==81 then (bif decide (bv.length+(1:Nat)<=memMax)then r0 (bv++[(y3p (yf str1__0 pos1__0).1,(1:Int),(1:Int),())]) str1__0 (yf str1__0 pos1__0).2 else none)else (bif (yf str1__0 pos1__0).1==82 then (bif decide (bv.length+(1:Nat)<=memMax)then r0 (bv++[(y3p (yf str1__0 pos1__0).1,(1:Int),(3:Int),())]) str1__0 (yf str1__0 pos1__0).2 else none)else (bif decide (bv.length+(1:Nat)<=memMax)then r0 (bv++[(y3p (yf str1__0 pos1__0).1,(1:Int),(0:Int),())]) str1__0 (yf str1__0 pos1__0).2 else none))))else some (bv,()))
def yN8(n:Nat)(k:Nat)(bv:List (Q3))(str1__0:List UInt8)(pos1__0:Int):Option (List (Q3)×Unit):=
  iter (λ r y=>yNw n (λ bv str1__0 pos1__0=>r ((),((bv,((str1__0,pos1__0),())),()))) y.2.1.1 y.2.1.2.1.1 y.2.1.2.1.2) k ((),((bv,((str1__0,pos1__0),())),()))
def yR9(n:Nat)(names:List UInt8):Option (List (Q3)×Unit):=
  (yN8 n n ([]) (names) ((0:Int)))
theorem yZK(n:Nat)(x:yQk.den):runF yal (yOp n) Tryz.f103 yQk ya7 x=yR9 n x.1:=by kernel_rfl
def y63(names:List UInt8):Option (List (Q3)×Unit):=yR9 1000 names
theorem yR3(names:List UInt8)(y:List (Q3)×Unit)(h:y63 names=some y):∃ n,yR9 n names=some y:=⟨1000,h⟩
def z0a_e:Entry:={ f:=103,args:=yQk,ress:=ya7,m:=λ x=>y63 x.1 }
theorem yUg:FnOK Tryz.prog z0a_e:=yJ (g:=yal) (fn:=Tryz.f103) yC yI eNil (by kernel_rfl) (by kernel_rfl) (by kernel_rfl) (λ x y h=>let ⟨n,hn⟩:=yR3 x.1 y h;⟨yOp n,iNil,(yZK n x).trans hn⟩)
abbrev yTV:Ty:=.pair t175 .unit
abbrev yZ8:Ty:=.pair t28 .unit
def yXk:G:={ T:=T,E:=[],muts:=[],fz:=[] }
def yca:List (List Nat):=[[5,6,7]]
def yOP(n:Nat):Ann:={ keep:=yca,fuel:=n,inl:=[],deep:=0 }
def yG1(n:Nat)(r0:List Int->Int->Int->Option (Int×Unit))(bx:List Int)(b8:Int)(aG:Int):Option (Int×Unit):=
  (bif decide (aG < b8)then (Option.bind (idx bx aG) λ v1=>(bif v1 != 0 then some (v1,())else r0 bx b8 (IntKind.i64.wrap (aG+1))))else some ((0:Int),()))
def y7D(n:Nat)(k:Nat)(bx:List Int)(b8:Int)(aG:Int):Option (Int×Unit):=
  iter (λ r y=>yG1 n (λ bx b8 aG=>r ((bx,(b8,(aG,()))),((),()))) y.1.1 y.1.2.1 y.1.2.2.1) k ((bx,(b8,(aG,()))),((),()))
def yMO(n:Nat)(l:List Int):Option (Int×Unit):=
  (y7D n n (l) ((↑l.length:Int)) ((0:Int)))
theorem yaU(n:Nat)(x:yTV.den):runF yXk (yOP n) Tryz.f104 yTV yZ8 x=yMO n x.1:=by kernel_rfl
def yGD(bx:List Int)(aG:Int)(v1:Int):Option ((Int×Unit)⊕Unit):=
  (bif v1 != 0 then (some (Sum.inl ((v1,()))))else (some (Sum.inr ())))
def yFJ(bx:List Int):Option (Int×Unit):=
  (some (((0:Int),())))
theorem yEW(n:Nat)(hn:big<=n)(bx:List Int)(hx:List.length (bx) < lenMax):LeF some (yM (λ ai aF a7=>yGD bx ai aF) (λ a7=>yFJ bx) 0 (bx) ()) (y7D n n bx (List.length (bx):Int) 0):=by
  refine yQ (f:=some) (W:=λ aO ai a7=>y7D n aO bx (List.length (bx):Int) ai) (body:=(λ ai aF a7=>yGD bx ai aF)) (fin:=(λ a7=>yFJ bx)) (λ aO ai a7=>?_) hx () n (by unfold big at hn;unfold lenMax at hx;omega)
  show LeF _ _ (yG1 n (y7D n aO) bx (List.length (bx):Int) ai)
  exact y6 (y8 λ v1=>(y6 (y7 rfl) (y7 rfl))) (yp (y7 rfl))
def y1j(l:List Int):Option (Int×Unit):=
  (bif decide (List.length (l) < lenMax)then yM (λ ai aF a7=>yGD (l) ai aF) (λ a7=>yFJ (l)) 0 (l) ()else none)
theorem yRB(l:List Int)(y:Int×Unit)(h:y1j l=some y):∃ n,yMO n l=some y:=
  ⟨big,LeF.top (show LeF some (y1j l) (yMO big l)from (λ (n:Nat) (hn:big<=n)=>show LeF some (y1j l) (yMO n l)from (yN λ hx=>by apply yEW n hn;exact hx)) big (Nat.le_refl _)) h⟩
def z15_e:Entry:={ f:=104,args:=yTV,ress:=yZ8,m:=λ x=>y1j x.1 }
theorem y3b:FnOK Tryz.prog z15_e:=yJ (g:=yXk) (fn:=Tryz.f104) yC yI eNil (by kernel_rfl) (by kernel_rfl) (by kernel_rfl) (λ x y h=>let ⟨n,hn⟩:=yRB x.1 y h;⟨yOP n,iNil,(yaU n x).trans hn⟩)
abbrev yTb:Ty:=.pair t3 (.pair t3 .unit)
abbrev yVt:Ty:=.pair t3 .unit
def yV7:G:={ T:=T,E:=[],muts:=[],fz:=[] }
def yeY:List (List Nat):=[]
def yP5(n:Nat):Ann:={ keep:=yeY,fuel:=n,inl:=[],deep:=0 }
def yTc(n:Nat)(a:Int)(b:Int):Option (Int×Unit):=
  (bif IntKind.i64.wrap ((2:Int) * b)==0 then none else (bif IntKind.i64.wrap ((2:Int) * b)==0 then none else (bif decide ((IntKind.i64.wrap (IntKind.i64.wrap ((2:Int) * a)+b)).tmod (IntKind.i64.wrap ((2:Int) * b)) < 0)then some (IntKind.i64.wrap (IntKind.i64.wrap ((IntKind.i64.wrap (IntKind.i64.wrap ((2:Int) * a)+b)).tdiv (IntKind.i64.wrap ((2:Int) * b))) - (1:Int)),())else some (IntKind.i64.wrap ((IntKind.i64.wrap (IntKind.i64.wrap ((2:Int) * a)+b)).tdiv (IntKind.i64.wrap ((2:Int) * b))),()))))
theorem yWm(n:Nat)(x:yTb.den):runF yV7 (yP5 n) Tryz.f107 yTb yVt x=yTc n x.1 x.2.1:=by kernel_rfl
def yTg(a:Int)(b:Int):Option (Int×Unit):=yTc 0 a b
theorem ySn(a:Int)(b:Int)(y:Int×Unit)(h:yTg a b=some y):∃ n,yTc n a b=some y:=⟨0,h⟩
def z0V_e:Entry:={ f:=107,args:=yTb,ress:=yVt,m:=λ x=>yTg x.1 x.2.1 }
theorem ya5:FnOK Tryz.prog z0V_e:=yJ (g:=yV7) (fn:=Tryz.f107) yC yI eNil (by kernel_rfl) (by kernel_rfl) (by kernel_rfl) (λ x y h=>let ⟨n,hn⟩:=ySn x.1 x.2.1 y h;⟨yP5 n,iNil,(yWm n x).trans hn⟩)
abbrev yQe:Ty:=.pair t3 .unit
abbrev ybD:Ty:=.pair t3 .unit
def yUs:G:={ T:=T,E:=[],muts:=[],fz:=[] }
def ydo:List (List Nat):=[]
def yPn(n:Nat):Ann:={ keep:=ydo,fuel:=n,inl:=[],deep:=0 }
def yO5(n:Nat)(n1:Int):Option (Int×Unit):=
  some (if IntKind.i64.wrap ((0:Int) - n1) > n1 then IntKind.i64.wrap ((0:Int) - n1)else n1,())
theorem ybj(n:Nat)(x:yQe.den):runF yUs (yPn n) Tryz.f108 yQe ybD x=yO5 n x.1:=by kernel_rfl
def z0H(n1:Int):(Int×Unit):=
  (if IntKind.i64.wrap ((0:Int) - n1) > n1 then IntKind.i64.wrap ((0:Int) - n1)else n1,())
abbrev yWt (n1:Int):Option (Int×Unit):=some (z0H n1)
theorem yRD(n1:Int)(y:Int×Unit)(h:yWt n1=some y):∃ n,yO5 n n1=some y:=
  ⟨0,by rw[<- h];show yO5 0 n1=some (z0H n1);unfold yO5 z0H;first|rfl|(simp only[yG];done)|(simp only[yG];rfl)⟩
def z0H_e:Entry:={ f:=108,args:=yQe,ress:=ybD,m:=λ x=>yWt x.1 }
theorem yCi:FnOK Tryz.prog z0H_e:=yJ (g:=yUs) (fn:=Tryz.f108) yC yI eNil (by kernel_rfl) (by kernel_rfl) (by kernel_rfl) (λ x y h=>let ⟨n,hn⟩:=yRD x.1 y h;⟨yPn n,iNil,(ybj n x).trans hn⟩)
abbrev yQx:Ty:=.pair t4 (.pair t28 .unit)
abbrev yZ9:Ty:=.pair t28 .unit
def yXo:G:={ T:=T,E:=[],muts:=[],fz:=[] }
def ycu:List (List Nat):=[]
def yPS(n:Nat):Ann:={ keep:=ycu,fuel:=n,inl:=[],deep:=0 }
def yM2(n:Nat)(holds:Bool)(e:Int):Option (Int×Unit):=
  (bif holds then some (e,())else some ((0:Int),()))
theorem yUq(n:Nat)(x:yQx.den):runF yXo (yPS n) Tryz.f113 yQx yZ9 x=yM2 n x.1 x.2.1:=by kernel_rfl
def z1K(holds:Bool)(e:Int):(Int×Unit):=
  (bif holds then (e,())else ((0:Int),()))
abbrev yVJ (holds:Bool) (e:Int):Option (Int×Unit):=some (z1K holds e)
theorem yTI(holds:Bool)(e:Int)(y:Int×Unit)(h:yVJ holds e=some y):∃ n,yM2 n holds e=some y:=
  ⟨0,by rw[<- h];show yM2 0 holds e=some (z1K holds e);unfold yM2 z1K;first|rfl|(simp only[yG];done)|(simp only[yG];rfl)⟩
def z1K_e:Entry:={ f:=113,args:=yQx,ress:=yZ9,m:=λ x=>yVJ x.1 x.2.1 }
theorem y5h:FnOK Tryz.prog z1K_e:=yJ (g:=yXo) (fn:=Tryz.f113) yC yI eNil (by kernel_rfl) (by kernel_rfl) (by kernel_rfl) (λ x y h=>let ⟨n,hn⟩:=yTI x.1 x.2.1 y h;⟨yPS n,iNil,(yUq n x).trans hn⟩)
abbrev zH_a:Ty:=.pair t23 (.pair t177 .unit)
abbrev zH_r:Ty:=.pair t175 .unit
def zH_g:G:={ T:=T,E:=[],muts:=[5],fz:=[] }
def zH_k:List (List Nat):=[[1,5,8,9,10]]
def yW2(n:Nat):Ann:={ keep:=zH_k,fuel:=n,inl:=[],deep:=0 }
def yJx(n:Nat)(r0:((Q4)×Unit->Option (Int×Unit))->List (Q4)->Int->Int->List Int->Option (List Int×Unit))(ae:(Q4)×Unit->Option (Int×Unit))(a8:List (Q4))(aj:Int)(ak:Int)(af:List Int):Option (List Int×Unit):=
  (bif decide (ak < aj)then (Option.bind (idx a8 ak) λ v1=>(Option.bind (ae ((v1.1,v1.2.1,()),())) λ v2=>(bif decide (af.length+(1:Nat)<=memMax)then r0 ae a8 aj (IntKind.i64.wrap (ak+1)) (af++[v2.1])else none)))else some (af,()))
def yAG(n:Nat)(k:Nat)(ae:(Q4)×Unit->Option (Int×Unit))(a8:List (Q4))(aj:Int)(ak:Int)(af:List Int):Option (List Int×Unit):=
  iter (λ r y=>yJx n (λ ae a8 aj ak af=>r ((ae,(a8,(aj,(ak,())))),((af,()),()))) y.1.1 y.1.2.1 y.1.2.2.1 y.1.2.2.2.1 y.2.1.1) k ((ae,(a8,(aj,(ak,())))),((af,()),()))
def zH_m(n:Nat)(l:List (Q4))(of:(Q4)×Unit->Option (Int×Unit)):Option (List Int×Unit):=
  (yAG n n (of) (l) ((↑l.length:Int)) ((0:Int)) ([]))
theorem yep(n:Nat)(x:zH_a.den):runF zH_g (yW2 n) Tryz.f115 zH_a zH_r x=zH_m n x.1 x.2.1:=by kernel_rfl
def yNI(ae:(Q4)×Unit->Option (Int×Unit))(a8:List (Q4))(ak:Int)(v1:Q4)(af:List Int):Option ((List Int×Unit)⊕(List Int)):=
  (Option.bind (ae ((v1.1,v1.2.1,()),())) λ v2=>(bif decide (af.length+(1:Nat)<=memMax)then (some (Sum.inr (af++[v2.1])))else none))
def yTn(ae:(Q4)×Unit->Option (Int×Unit))(a8:List (Q4))(af:List Int):Option (List Int×Unit):=
  (some ((af,())))
theorem yI2(n:Nat)(hn:big<=n)(ae:(Q4)×Unit->Option (Int×Unit))(a8:List (Q4))(af:List Int)(hx:List.length (a8) < lenMax):LeF some (yM (λ ai aF a7=>yNI ae a8 ai aF a7) (λ a7=>yTn ae a8 a7) 0 (a8) af) (yAG n n ae a8 (List.length (a8):Int) 0 af):=by
  refine yQ (f:=some) (W:=λ aO ai a7=>yAG n aO ae a8 (List.length (a8):Int) ai a7) (body:=(λ ai aF a7=>yNI ae a8 ai aF a7)) (fin:=(λ a7=>yTn ae a8 a7)) (λ aO ai a7=>?_) hx af n (by unfold big at hn;unfold lenMax at hx;omega)
  show LeF _ _ (yJx n (yAG n aO) ae a8 (List.length (a8):Int) ai a7)
  exact y6 (y8 λ v1=>(y8 λ v2=>(y6 (y7 rfl) y01))) (yp (y7 rfl))
def zH_M(l:List (Q4))(of:(Q4)×Unit->Option (Int×Unit)):Option (List Int×Unit):=
  (bif decide (List.length (l) < lenMax)then yM (λ ai aF a7=>yNI (of) (l) ai aF a7) (λ a7=>yTn (of) (l) a7) 0 (l) ([])else none)
theorem yWh(l:List (Q4))(of:(Q4)×Unit->Option (Int×Unit))(y:List Int×Unit)(h:zH_M l of=some y):∃ n,zH_m n l of=some y:=
  ⟨big,LeF.top (show LeF some (zH_M l of) (zH_m big l of)from (λ (n:Nat) (hn:big<=n)=>show LeF some (zH_M l of) (zH_m n l of)from (yN λ hx=>by apply yI2 n hn;exact hx)) big (Nat.le_refl _)) h⟩
def zH_e:Entry:={ f:=115,args:=zH_a,ress:=zH_r,m:=λ x=>zH_M x.1 x.2.1 }
theorem yUV:FnOK Tryz.prog zH_e:=yJ (g:=zH_g) (fn:=Tryz.f115) yC yI eNil (by kernel_rfl) (by kernel_rfl) (by kernel_rfl) (λ x y h=>let ⟨n,hn⟩:=yWh x.1 x.2.1 y h;⟨yW2 n,iNil,(yep n x).trans hn⟩)
abbrev yRv:Ty:=.pair t57 (.pair t57 .unit)
abbrev yW3:Ty:=.pair t57 .unit
def yaE:G:={ T:=T,E:=[],muts:=[],fz:=[] }
def yeT:List (List Nat):=[]
def yOS(n:Nat):Ann:={ keep:=yeT,fuel:=n,inl:=[],deep:=0 }
def yLi(n:Nat)(a:Q4)(b:Q4):Option ((Q4)×Unit):=
  some ((IntKind.i64.wrap (IntKind.i64.wrap (a.1 * b.1) - IntKind.i64.wrap (a.2.1 * b.2.1)),IntKind.i64.wrap (IntKind.i64.wrap (a.1 * b.2.1)+IntKind.i64.wrap (a.2.1 * b.1)),()),())
theorem yX2(n:Nat)(x:yRv.den):runF yaE (yOS n) Tryz.f125 yRv yW3 x=yLi n x.1 x.2.1:=by kernel_rfl
def z1B(a:Q4)(b:Q4):((Q4)×Unit):=
  ((IntKind.i64.wrap (IntKind.i64.wrap (a.1 * b.1) - IntKind.i64.wrap (a.2.1 * b.2.1)),IntKind.i64.wrap (IntKind.i64.wrap (a.1 * b.2.1)+IntKind.i64.wrap (a.2.1 * b.1)),()),())
abbrev yVF (a:Q4) (b:Q4):Option ((Q4)×Unit):=some (z1B a b)
theorem ySY(a:Q4)(b:Q4)(y:(Q4)×Unit)(h:yVF a b=some y):∃ n,yLi n a b=some y:=
  ⟨0,by rw[<- h];show yLi 0 a b=some (z1B a b);unfold yLi z1B;first|rfl|(simp only[yG];done)|(simp only[yG];rfl)⟩
def z1B_e:Entry:={ f:=125,args:=yRv,ress:=yW3,m:=λ x=>yVF x.1 x.2.1 }
theorem yFs:FnOK Tryz.prog z1B_e:=yJ (g:=yaE) (fn:=Tryz.f125) yC yI eNil (by kernel_rfl) (by kernel_rfl) (by kernel_rfl) (λ x y h=>let ⟨n,hn⟩:=ySY x.1 x.2.1 y h;⟨yOS n,iNil,(yX2 n x).trans hn⟩)
abbrev yTy:Ty:=.pair t57 .unit
abbrev yXI:Ty:=.pair t57 .unit
def yXF:G:={ T:=T,E:=[],muts:=[],fz:=[] }
def ydU:List (List Nat):=[]
def yOh(n:Nat):Ann:={ keep:=ydU,fuel:=n,inl:=[],deep:=0 }
def yNE(n:Nat)(a:Q4):Option ((Q4)×Unit):=
  some ((a.1,IntKind.i64.wrap ((0:Int) - a.2.1),()),())
theorem yYt(n:Nat)(x:yTy.den):runF yXF (yOh n) Tryz.f126 yTy yXI x=yNE n x.1:=by kernel_rfl
def z0A(a:Q4):((Q4)×Unit):=
  ((a.1,IntKind.i64.wrap ((0:Int) - a.2.1),()),())
abbrev yaT (a:Q4):Option ((Q4)×Unit):=some (z0A a)
theorem ySE(a:Q4)(y:(Q4)×Unit)(h:yaT a=some y):∃ n,yNE n a=some y:=
  ⟨0,by rw[<- h];show yNE 0 a=some (z0A a);unfold yNE z0A;first|rfl|(simp only[yG];done)|(simp only[yG];rfl)⟩
def z0A_e:Entry:={ f:=126,args:=yTy,ress:=yXI,m:=λ x=>yaT x.1 }
theorem yIs:FnOK Tryz.prog z0A_e:=yJ (g:=yXF) (fn:=Tryz.f126) yC yI eNil (by kernel_rfl) (by kernel_rfl) (by kernel_rfl) (λ x y h=>let ⟨n,hn⟩:=ySE x.1 y h;⟨yOh n,iNil,(yYt n x).trans hn⟩)
abbrev z7_a:Ty:=.pair t31 (.pair t192 .unit)
abbrev z7_r:Ty:=.pair t31 .unit
def z7_g:G:={ T:=T,E:=[],muts:=[5],fz:=[] }
def z7_k:List (List Nat):=[[1,5,8,9,10]]
def yYg(n:Nat):Ann:={ keep:=z7_k,fuel:=n,inl:=[],deep:=0 }
def yJo(n:Nat)(r0:((Q3)×Unit->Option ((Q3)×Unit))->List (Q3)->Int->Int->List (Q3)->Option (List (Q3)×Unit))(ae:(Q3)×Unit->Option ((Q3)×Unit))(a8:List (Q3))(aj:Int)(ak:Int)(af:List (Q3)):Option (List (Q3)×Unit):=
  (bif decide (ak < aj)then (Option.bind (idx a8 ak) λ v1=>(Option.bind (ae ((v1.1,v1.2.1,v1.2.2.1,()),())) λ v2=>(bif decide (af.length+(1:Nat)<=memMax)then r0 ae a8 aj (IntKind.i64.wrap (ak+1)) (af++[v2.1])else none)))else some (af,()))
def yAh(n:Nat)(k:Nat)(ae:(Q3)×Unit->Option ((Q3)×Unit))(a8:List (Q3))(aj:Int)(ak:Int)(af:List (Q3)):Option (List (Q3)×Unit):=
  iter (λ r y=>yJo n (λ ae a8 aj ak af=>r ((ae,(a8,(aj,(ak,())))),((af,()),()))) y.1.1 y.1.2.1 y.1.2.2.1 y.1.2.2.2.1 y.2.1.1) k ((ae,(a8,(aj,(ak,())))),((af,()),()))
def z7_m(n:Nat)(l:List (Q3))(of:(Q3)×Unit->Option ((Q3)×Unit)):Option (List (Q3)×Unit):=
  (yAh n n (of) (l) ((↑l.length:Int)) ((0:Int)) ([]))
theorem yds(n:Nat)(x:z7_a.den):runF z7_g (yYg n) Tryz.f130 z7_a z7_r x=z7_m n x.1 x.2.1:=by kernel_rfl
def yQf(ae:(Q3)×Unit->Option ((Q3)×Unit))(a8:List (Q3))(ak:Int)(v1:Q3)(af:List (Q3)):Option ((List (Q3)×Unit)⊕(List (Q3))):=
  (Option.bind (ae ((v1.1,v1.2.1,v1.2.2.1,()),())) λ v2=>(bif decide (af.length+(1:Nat)<=memMax)then (some (Sum.inr (af++[v2.1])))else none))
def ySW(ae:(Q3)×Unit->Option ((Q3)×Unit))(a8:List (Q3))(af:List (Q3)):Option (List (Q3)×Unit):=
  (some ((af,())))
theorem yH1(n:Nat)(hn:big<=n)(ae:(Q3)×Unit->Option ((Q3)×Unit))(a8:List (Q3))(af:List (Q3))(hx:List.length (a8) < lenMax):LeF some (yM (λ ai aF a7=>yQf ae a8 ai aF a7) (λ a7=>ySW ae a8 a7) 0 (a8) af) (yAh n n ae a8 (List.length (a8):Int) 0 af):=by
  refine yQ (f:=some) (W:=λ aO ai a7=>yAh n aO ae a8 (List.length (a8):Int) ai a7) (body:=(λ ai aF a7=>yQf ae a8 ai aF a7)) (fin:=(λ a7=>ySW ae a8 a7)) (λ aO ai a7=>?_) hx af n (by unfold big at hn;unfold lenMax at hx;omega)
  show LeF _ _ (yJo n (yAh n aO) ae a8 (List.length (a8):Int) ai a7)
  exact y6 (y8 λ v1=>(y8 λ v2=>(y6 (y7 rfl) y01))) (yp (y7 rfl))
def z7_M(l:List (Q3))(of:(Q3)×Unit->Option ((Q3)×Unit)):Option (List (Q3)×Unit):=
  (bif decide (List.length (l) < lenMax)then yM (λ ai aF a7=>yQf (of) (l) ai aF a7) (λ a7=>ySW (of) (l) a7) 0 (l) ([])else none)
theorem yXJ(l:List (Q3))(of:(Q3)×Unit->Option ((Q3)×Unit))(y:List (Q3)×Unit)(h:z7_M l of=some y):∃ n,z7_m n l of=some y:=
  ⟨big,LeF.top (show LeF some (z7_M l of) (z7_m big l of)from (λ (n:Nat) (hn:big<=n)=>show LeF some (z7_M l of) (z7_m n l of)from (yN λ hx=>by apply yH1 n hn;exact hx)) big (Nat.le_refl _)) h⟩
def z7_e:Entry:={ f:=130,args:=z7_a,ress:=z7_r,m:=λ x=>z7_M x.1 x.2.1 }
theorem ycH:FnOK Tryz.prog z7_e:=yJ (g:=z7_g) (fn:=Tryz.f130) yC yI eNil (by kernel_rfl) (by kernel_rfl) (by kernel_rfl) (λ x y h=>let ⟨n,hn⟩:=yXJ x.1 x.2.1 y h;⟨yYg n,iNil,(yds n x).trans hn⟩)
abbrev zI_a:Ty:=.pair t23 (.pair t129 .unit)
abbrev zI_r:Ty:=.pair t23 .unit
def zI_g:G:={ T:=T,E:=[],muts:=[5],fz:=[] }
def zI_k:List (List Nat):=[[1,5,8,9,10]]
def yWo(n:Nat):Ann:={ keep:=zI_k,fuel:=n,inl:=[],deep:=0 }
def yJj(n:Nat)(r0:((Q4)×Unit->Option ((Q4)×Unit))->List (Q4)->Int->Int->List (Q4)->Option (List (Q4)×Unit))(ae:(Q4)×Unit->Option ((Q4)×Unit))(a8:List (Q4))(aj:Int)(ak:Int)(af:List (Q4)):Option (List (Q4)×Unit):=
  (bif decide (ak < aj)then (Option.bind (idx a8 ak) λ v1=>(Option.bind (ae ((v1.1,v1.2.1,()),())) λ v2=>(bif decide (af.length+(1:Nat)<=memMax)then r0 ae a8 aj (IntKind.i64.wrap (ak+1)) (af++[v2.1])else none)))else some (af,()))
def yB0(n:Nat)(k:Nat)(ae:(Q4)×Unit->Option ((Q4)×Unit))(a8:List (Q4))(aj:Int)(ak:Int)(af:List (Q4)):Option (List (Q4)×Unit):=
  iter (λ r y=>yJj n (λ ae a8 aj ak af=>r ((ae,(a8,(aj,(ak,())))),((af,()),()))) y.1.1 y.1.2.1 y.1.2.2.1 y.1.2.2.2.1 y.2.1.1) k ((ae,(a8,(aj,(ak,())))),((af,()),()))
def zI_m(n:Nat)(l:List (Q4))(of:(Q4)×Unit->Option ((Q4)×Unit)):Option (List (Q4)×Unit):=
  (yB0 n n (of) (l) ((↑l.length:Int)) ((0:Int)) ([]))
theorem yd6(n:Nat)(x:zI_a.den):runF zI_g (yWo n) Tryz.f132 zI_a zI_r x=zI_m n x.1 x.2.1:=by kernel_rfl
def yTT(ae:(Q4)×Unit->Option ((Q4)×Unit))(a8:List (Q4))(ak:Int)(v1:Q4)(af:List (Q4)):Option ((List (Q4)×Unit)⊕(List (Q4))):=
  (Option.bind (ae ((v1.1,v1.2.1,()),())) λ v2=>(bif decide (af.length+(1:Nat)<=memMax)then (some (Sum.inr (af++[v2.1])))else none))
def yRM(ae:(Q4)×Unit->Option ((Q4)×Unit))(a8:List (Q4))(af:List (Q4)):Option (List (Q4)×Unit):=
  (some ((af,())))
theorem yHu(n:Nat)(hn:big<=n)(ae:(Q4)×Unit->Option ((Q4)×Unit))(a8:List (Q4))(af:List (Q4))(hx:List.length (a8) < lenMax):LeF some (yM (λ ai aF a7=>yTT ae a8 ai aF a7) (λ a7=>yRM ae a8 a7) 0 (a8) af) (yB0 n n ae a8 (List.length (a8):Int) 0 af):=by
  refine yQ (f:=some) (W:=λ aO ai a7=>yB0 n aO ae a8 (List.length (a8):Int) ai a7) (body:=(λ ai aF a7=>yTT ae a8 ai aF a7)) (fin:=(λ a7=>yRM ae a8 a7)) (λ aO ai a7=>?_) hx af n (by unfold big at hn;unfold lenMax at hx;omega)
  show LeF _ _ (yJj n (yB0 n aO) ae a8 (List.length (a8):Int) ai a7)
  exact y6 (y8 λ v1=>(y8 λ v2=>(y6 (y7 rfl) y01))) (yp (y7 rfl))
def zI_M(l:List (Q4))(of:(Q4)×Unit->Option ((Q4)×Unit)):Option (List (Q4)×Unit):=
  (bif decide (List.length (l) < lenMax)then yM (λ ai aF a7=>yTT (of) (l) ai aF a7) (λ a7=>yRM (of) (l) a7) 0 (l) ([])else none)
theorem yZL(l:List (Q4))(of:(Q4)×Unit->Option ((Q4)×Unit))(y:List (Q4)×Unit)(h:zI_M l of=some y):∃ n,zI_m n l of=some y:=
  ⟨big,LeF.top (show LeF some (zI_M l of) (zI_m big l of)from (λ (n:Nat) (hn:big<=n)=>show LeF some (zI_M l of) (zI_m n l of)from (yN λ hx=>by apply yHu n hn;exact hx)) big (Nat.le_refl _)) h⟩
def zI_e:Entry:={ f:=132,args:=zI_a,ress:=zI_r,m:=λ x=>zI_M x.1 x.2.1 }
theorem ye2:FnOK Tryz.prog zI_e:=yJ (g:=zI_g) (fn:=Tryz.f132) yC yI eNil (by kernel_rfl) (by kernel_rfl) (by kernel_rfl) (λ x y h=>let ⟨n,hn⟩:=yZL x.1 x.2.1 y h;⟨yWo n,iNil,(yd6 n x).trans hn⟩)
abbrev yQV:Ty:=.pair t57 (.pair t3 .unit)
abbrev yVn:Ty:=.pair t57 .unit
def ybM:G:={ T:=T,E:=[],muts:=[],fz:=[] }
def yc2:List (List Nat):=[]
def yPP(n:Nat):Ann:={ keep:=yc2,fuel:=n,inl:=[],deep:=0 }
def yNy(n:Nat)(a:Q4)(n1:Int):Option ((Q4)×Unit):=
  some ((IntKind.i64.wrap (n1 * a.1),IntKind.i64.wrap (n1 * a.2.1),()),())
theorem yb4(n:Nat)(x:yQV.den):runF ybM (yPP n) Tryz.f134 yQV yVn x=yNy n x.1 x.2.1:=by kernel_rfl
def z0n(a:Q4)(n1:Int):((Q4)×Unit):=
  ((IntKind.i64.wrap (n1 * a.1),IntKind.i64.wrap (n1 * a.2.1),()),())
abbrev yXW (a:Q4) (n1:Int):Option ((Q4)×Unit):=some (z0n a n1)
theorem yS0(a:Q4)(n1:Int)(y:(Q4)×Unit)(h:yXW a n1=some y):∃ n,yNy n a n1=some y:=
  ⟨0,by rw[<- h];show yNy 0 a n1=some (z0n a n1);unfold yNy z0n;first|rfl|(simp only[yG];done)|(simp only[yG];rfl)⟩
def z0n_e:Entry:={ f:=134,args:=yQV,ress:=yVn,m:=λ x=>yXW x.1 x.2.1 }
theorem yId:FnOK Tryz.prog z0n_e:=yJ (g:=ybM) (fn:=Tryz.f134) yC yI eNil (by kernel_rfl) (by kernel_rfl) (by kernel_rfl) (λ x y h=>let ⟨n,hn⟩:=yS0 x.1 x.2.1 y h;⟨yPP n,iNil,(yb4 n x).trans hn⟩)
abbrev yS7:Ty:=.pair t57 (.pair t57 .unit)
abbrev yZh:Ty:=.pair t57 .unit
def yXM:G:={ T:=T,E:=[],muts:=[],fz:=[] }
def yce:List (List Nat):=[]
def yOy(n:Nat):Ann:={ keep:=yce,fuel:=n,inl:=[],deep:=0 }
def yM1(n:Nat)(a:Q4)(b:Q4):Option ((Q4)×Unit):=
  some ((IntKind.i64.wrap (a.1+b.1),IntKind.i64.wrap (a.2.1+b.2.1),()),())
theorem yb6(n:Nat)(x:yS7.den):runF yXM (yOy n) Tryz.f135 yS7 yZh x=yM1 n x.1 x.2.1:=by kernel_rfl
def z1J(a:Q4)(b:Q4):((Q4)×Unit):=
  ((IntKind.i64.wrap (a.1+b.1),IntKind.i64.wrap (a.2.1+b.2.1),()),())
abbrev yY8 (a:Q4) (b:Q4):Option ((Q4)×Unit):=some (z1J a b)
theorem yT1(a:Q4)(b:Q4)(y:(Q4)×Unit)(h:yY8 a b=some y):∃ n,yM1 n a b=some y:=
  ⟨0,by rw[<- h];show yM1 0 a b=some (z1J a b);unfold yM1 z1J;first|rfl|(simp only[yG];done)|(simp only[yG];rfl)⟩
def z1J_e:Entry:={ f:=135,args:=yS7,ress:=yZh,m:=λ x=>yY8 x.1 x.2.1 }
theorem yFG:FnOK Tryz.prog z1J_e:=yJ (g:=yXM) (fn:=Tryz.f135) yC yI eNil (by kernel_rfl) (by kernel_rfl) (by kernel_rfl) (λ x y h=>let ⟨n,hn⟩:=yT1 x.1 x.2.1 y h;⟨yOy n,iNil,(yb6 n x).trans hn⟩)
abbrev zJ_a:Ty:=.pair t23 (.pair t196 .unit)
abbrev zJ_r:Ty:=.pair t79 .unit
def zJ_g:G:={ T:=T,E:=[],muts:=[5],fz:=[] }
def zJ_k:List (List Nat):=[[1,5,8,9,10]]
def yXC(n:Nat):Ann:={ keep:=zJ_k,fuel:=n,inl:=[],deep:=0 }
def yJA(n:Nat)(r0:((Q4)×Unit->Option ((Nat×Nat)×Unit))->List (Q4)->Int->Int->List (Nat×Nat)->Option (List (Nat×Nat)×Unit))(ae:(Q4)×Unit->Option ((Nat×Nat)×Unit))(a8:List (Q4))(aj:Int)(ak:Int)(af:List (Nat×Nat)):Option (List (Nat×Nat)×Unit):=
  (bif decide (ak < aj)then (Option.bind (idx a8 ak) λ v1=>(Option.bind (ae ((v1.1,v1.2.1,()),())) λ v2=>(bif decide (af.length+(1:Nat)<=memMax)then r0 ae a8 aj (IntKind.i64.wrap (ak+1)) (af++[v2.1])else none)))else some (af,()))
def yBM(n:Nat)(k:Nat)(ae:(Q4)×Unit->Option ((Nat×Nat)×Unit))(a8:List (Q4))(aj:Int)(ak:Int)(af:List (Nat×Nat)):Option (List (Nat×Nat)×Unit):=
  iter (λ r y=>yJA n (λ ae a8 aj ak af=>r ((ae,(a8,(aj,(ak,())))),((af,()),()))) y.1.1 y.1.2.1 y.1.2.2.1 y.1.2.2.2.1 y.2.1.1) k ((ae,(a8,(aj,(ak,())))),((af,()),()))
def zJ_m(n:Nat)(l:List (Q4))(of:(Q4)×Unit->Option ((Nat×Nat)×Unit)):Option (List (Nat×Nat)×Unit):=
  (yBM n n (of) (l) ((↑l.length:Int)) ((0:Int)) ([]))
theorem ydm(n:Nat)(x:zJ_a.den):runF zJ_g (yXC n) Tryz.f139 zJ_a zJ_r x=zJ_m n x.1 x.2.1:=by kernel_rfl
def yUH(ae:(Q4)×Unit->Option ((Nat×Nat)×Unit))(a8:List (Q4))(ak:Int)(v1:Q4)(af:List (Nat×Nat)):Option ((List (Nat×Nat)×Unit)⊕(List (Nat×Nat))):=
  (Option.bind (ae ((v1.1,v1.2.1,()),())) λ v2=>(bif decide (af.length+(1:Nat)<=memMax)then (some (Sum.inr (af++[v2.1])))else none))
def yTS(ae:(Q4)×Unit->Option ((Nat×Nat)×Unit))(a8:List (Q4))(af:List (Nat×Nat)):Option (List (Nat×Nat)×Unit):=
  (some ((af,())))
theorem yHg(n:Nat)(hn:big<=n)(ae:(Q4)×Unit->Option ((Nat×Nat)×Unit))(a8:List (Q4))(af:List (Nat×Nat))(hx:List.length (a8) < lenMax):LeF some (yM (λ ai aF a7=>yUH ae a8 ai aF a7) (λ a7=>yTS ae a8 a7) 0 (a8) af) (yBM n n ae a8 (List.length (a8):Int) 0 af):=by
  refine yQ (f:=some) (W:=λ aO ai a7=>yBM n aO ae a8 (List.length (a8):Int) ai a7) (body:=(λ ai aF a7=>yUH ae a8 ai aF a7)) (fin:=(λ a7=>yTS ae a8 a7)) (λ aO ai a7=>?_) hx af n (by unfold big at hn;unfold lenMax at hx;omega)
  show LeF _ _ (yJA n (yBM n aO) ae a8 (List.length (a8):Int) ai a7)
  exact y6 (y8 λ v1=>(y8 λ v2=>(y6 (y7 rfl) y01))) (yp (y7 rfl))
def zJ_M(l:List (Q4))(of:(Q4)×Unit->Option ((Nat×Nat)×Unit)):Option (List (Nat×Nat)×Unit):=
  (bif decide (List.length (l) < lenMax)then yM (λ ai aF a7=>yUH (of) (l) ai aF a7) (λ a7=>yTS (of) (l) a7) 0 (l) ([])else none)
theorem yUl(l:List (Q4))(of:(Q4)×Unit->Option ((Nat×Nat)×Unit))(y:List (Nat×Nat)×Unit)(h:zJ_M l of=some y):∃ n,zJ_m n l of=some y:=
  ⟨big,LeF.top (show LeF some (zJ_M l of) (zJ_m big l of)from (λ (n:Nat) (hn:big<=n)=>show LeF some (zJ_M l of) (zJ_m n l of)from (yN λ hx=>by apply yHg n hn;exact hx)) big (Nat.le_refl _)) h⟩
def zJ_e:Entry:={ f:=139,args:=zJ_a,ress:=zJ_r,m:=λ x=>zJ_M x.1 x.2.1 }
theorem yef:FnOK Tryz.prog zJ_e:=yJ (g:=zJ_g) (fn:=Tryz.f139) yC yI eNil (by kernel_rfl) (by kernel_rfl) (by kernel_rfl) (λ x y h=>let ⟨n,hn⟩:=yUl x.1 x.2.1 y h;⟨yXC n,iNil,(ydm n x).trans hn⟩)
abbrev yUf:Ty:=.pair t57 (.pair (.ref t165) .unit)
abbrev yZd:Ty:=.pair t165 .unit
def ybV:G:={ T:=T,E:=[],muts:=[],fz:=[] }
def yby:List (List Nat):=[]
def yPI(n:Nat):Ann:={ keep:=yby,fuel:=n,inl:=[],deep:=0 }
def yNW(n:Nat)(z:Q4)(p1:Nat×Nat):Option ((Nat×Nat)×Unit):=
  some ((y08 Go.BinOp.quo Go.FloatKind.f32 (y17 Go.FloatKind.f32 z.1) p1.1,y08 Go.BinOp.quo Go.FloatKind.f32 (y17 Go.FloatKind.f32 z.2.1) p1.1),())
theorem yXK(n:Nat)(x:yUf.den):runF ybV (yPI n) Tryz.f140 yUf yZd x=yNW n x.1 x.2.1:=by kernel_rfl
def z0k(z:Q4)(p1:Nat×Nat):((Nat×Nat)×Unit):=
  ((y08 Go.BinOp.quo Go.FloatKind.f32 (y17 Go.FloatKind.f32 z.1) p1.1,y08 Go.BinOp.quo Go.FloatKind.f32 (y17 Go.FloatKind.f32 z.2.1) p1.1),())
abbrev ySI (z:Q4) (p1:Nat×Nat):Option ((Nat×Nat)×Unit):=some (z0k z p1)
theorem yQR(z:Q4)(p1:Nat×Nat)(y:(Nat×Nat)×Unit)(h:ySI z p1=some y):∃ n,yNW n z p1=some y:=
  ⟨0,by rw[<- h];show yNW 0 z p1=some (z0k z p1);unfold yNW z0k;first|rfl|(simp only[yG];done)|(simp only[yG];rfl)⟩
def z0k_e:Entry:={ f:=140,args:=yUf,ress:=yZd,m:=λ x=>ySI x.1 x.2.1 }
theorem yVh:FnOK Tryz.prog z0k_e:=yJ (g:=ybV) (fn:=Tryz.f140) yC yI eNil (by kernel_rfl) (by kernel_rfl) (by kernel_rfl) (λ x y h=>let ⟨n,hn⟩:=yQR x.1 x.2.1 y h;⟨yPI n,iNil,(yXK n x).trans hn⟩)
abbrev zl_a:Ty:=.pair t58 (.pair t3 .unit)
abbrev zl_r:Ty:=.pair t4 .unit
def zl_g:G:={ T:=T,E:=[],muts:=[],fz:=[] }
def zl_k:List (List Nat):=[]
def yaX(n:Nat):Ann:={ keep:=zl_k,fuel:=n,inl:=[],deep:=0 }
def zl_m(n:Nat)(l:List (Q4))(n1:Int):Option (Bool×Unit):=
  (bif decide ((↑l.length:Int)<=n1)then some (Bool.true,())else some ((↑l.length:Int)==2049,()))
theorem ydj(n:Nat)(x:zl_a.den):runF zl_g (yaX n) Tryz.f144 zl_a zl_r x=zl_m n x.1 x.2.1:=by kernel_rfl
def zl(l:List (Q4))(n1:Int):(Bool×Unit):=
  (bif decide ((↑l.length:Int)<=n1)then (Bool.true,())else ((↑l.length:Int)==2049,()))
abbrev zl_M (l:List (Q4)) (n1:Int):Option (Bool×Unit):=some (zl l n1)
theorem yXq(l:List (Q4))(n1:Int)(y:Bool×Unit)(h:zl_M l n1=some y):∃ n,zl_m n l n1=some y:=
  ⟨0,by rw[<- h];show zl_m 0 l n1=some (zl l n1);unfold zl_m zl;first|rfl|(simp only[yG];done)|(simp only[yG];rfl)⟩
def zl_e:Entry:={ f:=144,args:=zl_a,ress:=zl_r,m:=λ x=>zl_M x.1 x.2.1 }
theorem ycU:FnOK Tryz.prog zl_e:=yJ (g:=zl_g) (fn:=Tryz.f144) yC yI eNil (by kernel_rfl) (by kernel_rfl) (by kernel_rfl) (λ x y h=>let ⟨n,hn⟩:=yXq x.1 x.2.1 y h;⟨yaX n,iNil,(ydj n x).trans hn⟩)
def il124:Inl:={ f:=124,fn:=Tryz.f124,keep:=[],muts:=[],fz:=[] }
theorem y4S:y6e Tryz.prog il124:=⟨by kernel_rfl,by kernel_rfl,λ e0 h=>by cases (show (none:Option LibK)=some e0 from h)⟩
def il195:Inl:={ f:=195,fn:=Tryz.f195,keep:=[[0,1,3,9,10,11],[0,1,3,4,5,9,10,11]],muts:=[],fz:=[] }
theorem y4B:y6e Tryz.prog il195:=⟨by kernel_rfl,by kernel_rfl,λ e0 h=>by cases (show (none:Option LibK)=some e0 from h)⟩
abbrev yUC:Ty:=.pair t60 .unit
abbrev yXN:Ty:=.pair t41 .unit
def yVZ:G:={ T:=T,E:=[],muts:=[3],fz:=[] }
def yd0:List (List Nat):=[]
def yPB(n:Nat):Ann:={ keep:=yd0,fuel:=n,inl:=[il124,il195],deep:=3 }
def y8C(n:Nat)(r0:Q1->List (Q4)->List Nat->Int->Int->Q1->Q1->Q1->Q1->List Int->Q1->Q1->Q1->Q1->Option (List Int×Unit))(j8:Q1)(j9:List (Q4))(j10:Int)(j11:Nat)(j12:List Nat)(j13:Int)(j14:Int)(j15:Q1)(j16:Q1)(j17:Q1)(j18:Q1)(j19:List Int)(j20:Q1)(j21:Q1)(j22:Q1)(j23:Q1):Option (List Int×Unit):=
  (bif decide ((↑j9.length:Int) > 0)then (Option.bind (idx j9 (0:Int)) λ v24=>(bif decide (v24.1<=j10)then r0 j8 j9 j12 j13 (IntKind.i64.wrap (j14+1)) j15 j16 j17 j18 j19 j20 j21 j22 j23 else (Option.bind (yh Go.FloatKind.f32 (y08 Go.BinOp.mul Go.FloatKind.f32 j11 (nat_lit 1098907648)) IntKind.i64) λ v29=>(bif decide (j19.length+(1:Nat)<=memMax)then r0 j8 j9 j12 j13 (IntKind.i64.wrap (j14+1)) j15 j16 j17 j18 (j19++[IntKind.i64.wrap (j8.2.1+j10)]) j20 j21 j22 j23 else none))))else (Option.bind (yh Go.FloatKind.f32 (y08 Go.BinOp.mul Go.FloatKind.f32 j11 (nat_lit 1098907648)) IntKind.i64) λ v30=>(bif decide (j19.length+(1:Nat)<=memMax)then r0 j8 j9 j12 j13 (IntKind.i64.wrap (j14+1)) j15 j16 j17 j18 (j19++[IntKind.i64.wrap (j8.2.1+j10)]) j20 j21 j22 j23 else none)))
def yG8(n:Nat)(r0:Q1->List (Q4)->List Nat->Int->Int->Q1->Q1->Q1->Q1->List Int->Q1->Q1->Q1->Q1->Option (List Int×Unit))(r2:Q1->List (Q4)->Int->Nat->List Nat->Int->Int->Q1->Q1->Q1->Q1->List Int->Q1->Q1->Q1->Q1->Option (List Int×Unit))(b9:Q1)(ah:List (Q4))(ba:Int)(bj:Nat)(aM:List Nat)(aD:Int)(aE:Int)(ar:Q1)(au:Q1)(aI:Q1)(bc:Q1)(cr:List Int)(be:Q1)(bf:Q1)(bG:Q1)(bH:Q1):Option (List Int×Unit):=
  (bif decide ((↑ah.length:Int) > 0)then (Option.bind (idx ah (0:Int)) λ v3=>(bif decide (v3.2.1<=ba)then (bif decide ((0:Int)<=1) && decide ((1:Int)<=(↑ah.length:Int))then r2 b9 (List.drop (Int.toNat (1:Int)) ah) ba bj aM aD aE ar au aI bc cr be bf bG bH else none)else (y8C n r0 (b9) (ah) (ba) (bj) (aM) (aD) (aE) (ar) (au) (aI) (bc) (cr) (be) (bf) (bG) (bH))))else (y8C n r0 (b9) (ah) (ba) (bj) (aM) (aD) (aE) (ar) (au) (aI) (bc) (cr) (be) (bf) (bG) (bH)))
def y6s(n:Nat)(r0:Q1->List (Q4)->List Nat->Int->Int->Q1->Q1->Q1->Q1->List Int->Q1->Q1->Q1->Q1->Option (List Int×Unit))(k:Nat)(b9:Q1)(ah:List (Q4))(ba:Int)(bj:Nat)(aM:List Nat)(aD:Int)(aE:Int)(ar:Q1)(au:Q1)(aI:Q1)(bc:Q1)(cr:List Int)(be:Q1)(bf:Q1)(bG:Q1)(bH:Q1):Option (List Int×Unit):=
  iter (λ r y=>yG8 n r0 (λ b9 ah ba bj aM aD aE ar au aI bc cr be bf bG bH=>r ((b9,(ah,(ba,(bj,(aM,(aD,(aE,()))))))),(((ar,(au,(aI,((bc,()),())))),((),(cr,()))),(be,(bf,(bG,((bH,()),()))))))) y.1.1 y.1.2.1 y.1.2.2.1 y.1.2.2.2.1 y.1.2.2.2.2.1 y.1.2.2.2.2.2.1 y.1.2.2.2.2.2.2.1 y.2.1.1.1 y.2.1.1.2.1 y.2.1.1.2.2.1 y.2.1.1.2.2.2.1.1 y.2.1.2.2.1 y.2.2.1 y.2.2.2.1 y.2.2.2.2.1 y.2.2.2.2.2.1.1) k ((b9,(ah,(ba,(bj,(aM,(aD,(aE,()))))))),(((ar,(au,(aI,((bc,()),())))),((),(cr,()))),(be,(bf,(bG,((bH,()),()))))))
def yF9(n:Nat)(r0:Q1->List (Q4)->List Nat->Int->Int->Q1->Q1->Q1->Q1->List Int->Q1->Q1->Q1->Q1->Option (List Int×Unit))(az:Q1)(ax:List (Q4))(aj:List Nat)(ak:Int)(aC:Int)(av:Q1)(aw:Q1)(aR:Q1)(bl:Q1)(cC:List Int)(bm:Q1)(aN:Q1)(bB:Q1)(bR:Q1):Option (List Int×Unit):=
  (bif decide (aC < ak)then (Option.bind (idx aj aC) λ v1=>(y6s n r0 n (az) (ax) (aC) (v1) (aj) (ak) (aC) (av) (aw) (aR) (bl) (cC) (bm) (aN) (bB) (bR)))else some (cC,()))
def y6z(n:Nat)(k:Nat)(az:Q1)(ax:List (Q4))(aj:List Nat)(ak:Int)(aC:Int)(av:Q1)(aw:Q1)(aR:Q1)(bl:Q1)(cC:List Int)(bm:Q1)(aN:Q1)(bB:Q1)(bR:Q1):Option (List Int×Unit):=
  iter (λ r y=>yF9 n (λ az ax aj ak aC av aw aR bl cC bm aN bB bR=>r ((az,(ax,(aj,(ak,(aC,()))))),(((av,(aw,(aR,((bl,()),())))),((),(cC,()))),(bm,(aN,(bB,((bR,()),()))))))) y.1.1 y.1.2.1 y.1.2.2.1 y.1.2.2.2.1 y.1.2.2.2.2.1 y.2.1.1.1 y.2.1.1.2.1 y.2.1.1.2.2.1 y.2.1.1.2.2.2.1.1 y.2.1.2.2.1 y.2.2.1 y.2.2.2.1 y.2.2.2.2.1 y.2.2.2.2.2.1.1) k ((az,(ax,(aj,(ak,(aC,()))))),(((av,(aw,(aR,((bl,()),())))),((),(cC,()))),(bm,(aN,(bB,((bR,()),()))))))
def yN7(n:Nat)(r1:Q1):Option (List Int×Unit):=
  (y6z n n (r1) (r1.2.2.2.1) (r1.2.2.1) ((↑r1.2.2.1.length:Int)) ((0:Int)) (r1) (r1) (r1) (r1) ([]) (r1) (r1) (r1) (r1))
theorem yYw(n:Nat)(x:yUC.den):runF yVZ (yPB n) Tryz.f147 yUC yXN x=yN7 n x.1:=by kernel_rfl
def yB8(j8:Q1)(j9:List (Q4))(j10:Int)(j11:Nat)(j12:List Nat)(j13:Int)(j14:Int)(j15:Q1)(j16:Q1)(j17:Q1)(j18:Q1)(j19:List Int)(j20:Q1)(j21:Q1)(j22:Q1)(j23:Q1):Option ((List Int×Unit)⊕((List (Q4))×List Int)):=
  (bif decide ((↑j9.length:Int) > 0)then (Option.bind (idx j9 (0:Int)) λ v24=>(bif decide (v24.1<=j10)then (some (Sum.inr ((j9),(j19))))else (Option.bind (yh Go.FloatKind.f32 (y08 Go.BinOp.mul Go.FloatKind.f32 j11 (nat_lit 1098907648)) IntKind.i64) λ v29=>(bif decide (j19.length+(1:Nat)<=memMax)then (some (Sum.inr ((j9),(j19++[IntKind.i64.wrap (j8.2.1+j10)]))))else none))))else (Option.bind (yh Go.FloatKind.f32 (y08 Go.BinOp.mul Go.FloatKind.f32 j11 (nat_lit 1098907648)) IntKind.i64) λ v30=>(bif decide (j19.length+(1:Nat)<=memMax)then (some (Sum.inr ((j9),(j19++[IntKind.i64.wrap (j8.2.1+j10)]))))else none)))
theorem y2v(n:Nat)(hn:big<=n)(r0:Q1->List (Q4)->List Nat->Int->Int->Q1->Q1->Q1->Q1->List Int->Q1->Q1->Q1->Q1->Option (List Int×Unit))(j8:Q1)(j9:List (Q4))(j10:Int)(j11:Nat)(j12:List Nat)(j13:Int)(j14:Int)(j15:Q1)(j16:Q1)(j17:Q1)(j18:Q1)(j19:List Int)(j20:Q1)(j21:Q1)(j22:Q1)(j23:Q1):LeF (elim some λ (a7:((List (Q4))×List Int))=>r0 j8 a7.1 j12 j13 (IntKind.i64.wrap (j14+1)) j15 j16 j17 j18 a7.2 j20 j21 j22 j23) (yB8 j8 j9 j10 j11 j12 j13 j14 j15 j16 j17 j18 j19 j20 j21 j22 j23) (y8C n r0 j8 j9 j10 j11 j12 j13 j14 j15 j16 j17 j18 j19 j20 j21 j22 j23):=
  (y6 (y8 λ v24=>(y6 (y7 rfl) (y8 λ v29=>(y6 (y7 rfl) y01)))) (y8 λ v30=>(y6 (y7 rfl) y01)))
def yLP(b9:Q1)(ba:Int)(bj:Nat)(aM:List Nat)(aD:Int)(aE:Int)(ar:Q1)(au:Q1)(aI:Q1)(bc:Q1)(cr:List Int)(be:Q1)(bf:Q1)(bG:Q1)(bH:Q1)(ah:List (Q4)):Option (((List Int×Unit)⊕((List (Q4))×List Int))⊕(List (Q4))):=
  (bif decide ((↑ah.length:Int) > 0)then (Option.bind (idx ah (0:Int)) λ v3=>(bif decide (v3.2.1<=ba)then (bif decide ((0:Int)<=1) && decide ((1:Int)<=(↑ah.length:Int))then (some (Sum.inr (List.drop (Int.toNat (1:Int)) ah)))else none)else (Option.map Sum.inl (yB8 (b9) (ah) (ba) (bj) (aM) (aD) (aE) (ar) (au) (aI) (bc) (cr) (be) (bf) (bG) (bH)))))else (Option.map Sum.inl (yB8 (b9) (ah) (ba) (bj) (aM) (aD) (aE) (ar) (au) (aI) (bc) (cr) (be) (bf) (bG) (bH))))
theorem yDR(n:Nat)(hn:big<=n)(r0:Q1->List (Q4)->List Nat->Int->Int->Q1->Q1->Q1->Q1->List Int->Q1->Q1->Q1->Q1->Option (List Int×Unit))(b9:Q1)(ba:Int)(bj:Nat)(aM:List Nat)(aD:Int)(aE:Int)(ar:Q1)(au:Q1)(aI:Q1)(bc:Q1)(cr:List Int)(be:Q1)(bf:Q1)(bG:Q1)(bH:Q1)(ah:List (Q4)):LeF (elim some λ (a7:((List (Q4))×List Int))=>r0 b9 a7.1 aM aD (IntKind.i64.wrap (aE+1)) ar au aI bc a7.2 be bf bG bH) (y2N (λ a7=>yLP b9 ba bj aM aD aE ar au aI bc cr be bf bG bH a7) wMax ah) (y6s n r0 n b9 ah ba bj aM aD aE ar au aI bc cr be bf bG bH):=by
  refine y3M (f:=(elim some λ (a7:((List (Q4))×List Int))=>r0 b9 a7.1 aM aD (IntKind.i64.wrap (aE+1)) ar au aI bc a7.2 be bf bG bH)) (W:=λ aO a7=>y6s n r0 aO b9 a7 ba bj aM aD aE ar au aI bc cr be bf bG bH) (body:=(λ a7=>yLP b9 ba bj aM aD aE ar au aI bc cr be bf bG bH a7)) (λ aO a7=>?_) wMax n ah (by unfold big at hn;unfold wMax;omega)
  show LeF _ _ (yG8 n r0 (y6s n r0 aO) b9 a7 ba bj aM aD aE ar au aI bc cr be bf bG bH)
  exact (y6 (y8 λ v3=>(y6 (y6 (y7 rfl) y01) (yp (by apply y2v n hn)))) (yp (by apply y2v n hn)))
def yFU(az:Q1)(aj:List Nat)(av:Q1)(aw:Q1)(aR:Q1)(bl:Q1)(bm:Q1)(aN:Q1)(bB:Q1)(bR:Q1)(aC:Int)(v1:Nat)(ax:List (Q4))(cC:List Int):Option ((List Int×Unit)⊕((List (Q4))×List Int)):=
  (y2N (λ a7=>yLP (az) (aC) (v1) (aj) ((↑aj.length:Int)) (aC) (av) (aw) (aR) (bl) (cC) (bm) (aN) (bB) (bR) a7) wMax (ax))
def yLI(az:Q1)(aj:List Nat)(av:Q1)(aw:Q1)(aR:Q1)(bl:Q1)(bm:Q1)(aN:Q1)(bB:Q1)(bR:Q1)(ax:List (Q4))(cC:List Int):Option (List Int×Unit):=
  (some ((cC,())))
theorem yDi(n:Nat)(hn:big<=n)(az:Q1)(aj:List Nat)(av:Q1)(aw:Q1)(aR:Q1)(bl:Q1)(bm:Q1)(aN:Q1)(bB:Q1)(bR:Q1)(ax:List (Q4))(cC:List Int)(hx:List.length (aj) < lenMax):LeF some (yM (λ ai aF a7=>yFU az aj av aw aR bl bm aN bB bR ai aF a7.1 a7.2) (λ a7=>yLI az aj av aw aR bl bm aN bB bR a7.1 a7.2) 0 (aj) (ax,cC)) (y6z n n az ax aj (List.length (aj):Int) 0 av aw aR bl cC bm aN bB bR):=by
  refine yQ (f:=some) (W:=λ aO ai a7=>y6z n aO az a7.1 aj (List.length (aj):Int) ai av aw aR bl a7.2 bm aN bB bR) (body:=(λ ai aF a7=>yFU az aj av aw aR bl bm aN bB bR ai aF a7.1 a7.2)) (fin:=(λ a7=>yLI az aj av aw aR bl bm aN bB bR a7.1 a7.2)) (λ aO ai a7=>?_) hx (ax,cC) n (by unfold big at hn;unfold lenMax at hx;omega)
  show LeF _ _ (yF9 n (y6z n aO) az a7.1 aj (List.length (aj):Int) ai av aw aR bl a7.2 bm aN bB bR)
  exact y6 (y8 λ v1=>(by apply yDR n hn)) (yp (y7 rfl))
def yBf(r1:Q1):Option (List Int×Unit):=
  (bif decide (List.length (r1.2.2.1) < lenMax)then yM (λ ai aF a7=>yFU (r1) (r1.2.2.1) (r1) (r1) (r1) (r1) (r1) (r1) (r1) (r1) ai aF a7.1 a7.2) (λ a7=>yLI (r1) (r1.2.2.1) (r1) (r1) (r1) (r1) (r1) (r1) (r1) (r1) a7.1 a7.2) 0 (r1.2.2.1) ((r1.2.2.2.1),([]))else none)
theorem yUR(r1:Q1)(y:List Int×Unit)(h:yBf r1=some y):∃ n,yN7 n r1=some y:=
  ⟨big,LeF.top (show LeF some (yBf r1) (yN7 big r1)from (λ (n:Nat) (hn:big<=n)=>show LeF some (yBf r1) (yN7 n r1)from (yN λ hx=>by apply yDi n hn;exact hx)) big (Nat.le_refl _)) h⟩
def z1A_e:Entry:={ f:=147,args:=yUC,ress:=yXN,m:=λ x=>yBf x.1 }
theorem yP1:FnOK Tryz.prog z1A_e:=yJ (g:=yVZ) (fn:=Tryz.f147) yC yI eNil (by kernel_rfl) (by kernel_rfl) (by kernel_rfl) (λ x y h=>let ⟨n,hn⟩:=yUR x.1 y h;⟨yPB n,(y4U y4S (y4U y4B iNil)),(yYw n x).trans hn⟩)
abbrev yRh:Ty:=.pair t57 (.pair t3 .unit)
abbrev yWy:Ty:=.pair t57 .unit
def yWS:G:={ T:=T,E:=[],muts:=[2],fz:=[] }
def ydC:List (List Nat):=[[1,2,4,5]]
def yOe(n:Nat):Ann:={ keep:=ydC,fuel:=n,inl:=[],deep:=0 }
def yFx(n:Nat)(r0:Int->Int->Int->Int->Int->Int->Option ((Q4)×Unit))(ci:Int)(bB:Int)(al:Int)(am:Int)(aa:Int)(ac:Int):Option ((Q4)×Unit):=
  (bif decide (bB < (IntKind.i64.wrap (ci.tmod (4:Int)+4)).tmod (4:Int))then r0 ci (IntKind.i64.wrap (bB+1)) (IntKind.i64.wrap ((0:Int) - am)) al aa ac else some ((al,am,()),()))
def y74(n:Nat)(k:Nat)(ci:Int)(bB:Int)(al:Int)(am:Int)(aa:Int)(ac:Int):Option ((Q4)×Unit):=
  iter (λ r y=>yFx n (λ ci bB al am aa ac=>r ((ci,(bB,())),(((al,(am,())),((aa,(ac,())),())),()))) y.1.1 y.1.2.1 y.2.1.1.1 y.2.1.1.2.1 y.2.1.2.1.1 y.2.1.2.1.2.1) k ((ci,(bB,())),(((al,(am,())),((aa,(ac,())),())),()))
def yNB(n:Nat)(a:Q4)(n1:Int):Option ((Q4)×Unit):=
  (y74 n n (n1) ((0:Int)) (a.1) (a.2.1) ((0:Int)) ((0:Int)))
theorem ybb(n:Nat)(x:yRh.den):runF yWS (yOe n) Tryz.f156 yRh yWy x=yNB n x.1 x.2.1:=by kernel_rfl
def yKP(ci:Int)(aa:Int)(ac:Int)(bB:Int)(al:Int)(am:Int):Option (((Q4)×Unit)⊕(Int×Int)):=
  (some (Sum.inr ((IntKind.i64.wrap ((0:Int) - am)),(al))))
def yJl(ci:Int)(aa:Int)(ac:Int)(al:Int)(am:Int):Option ((Q4)×Unit):=
  (some (((al,am,()),())))
theorem yDw(n:Nat)(hn:big<=n)(ci:Int)(aa:Int)(ac:Int)(al:Int)(am:Int)(hx:((IntKind.i64.wrap (ci.tmod (4:Int)+4)).tmod (4:Int))<=9223372036854775807):LeF some (y0B (λ ai a7=>yKP ci aa ac ai a7.1 a7.2) (λ a7=>yJl ci aa ac a7.1 a7.2) (((IntKind.i64.wrap (ci.tmod (4:Int)+4)).tmod (4:Int)) - 0).toNat 0 (al,am)) (y74 n n ci 0 al am aa ac):=by
  refine y0X (f:=some) (W:=λ aO ai a7=>y74 n aO ci ai a7.1 a7.2 aa ac) (body:=(λ ai a7=>yKP ci aa ac ai a7.1 a7.2)) (fin:=(λ a7=>yJl ci aa ac a7.1 a7.2)) (λ aO ai a7=>?_) hx (al,am) n 0 (by decide) (by unfold big at hn;omega)
  show LeF _ _ (yFx n (y74 n aO) ci ai a7.1 a7.2 aa ac)
  exact y6 (y7 rfl) (yp (y7 rfl))
def yEa(a:Q4)(n1:Int):Option ((Q4)×Unit):=
  (bif decide (((IntKind.i64.wrap (n1.tmod (4:Int)+4)).tmod (4:Int))<=9223372036854775807)then y0B (λ ai a7=>yKP (n1) ((0:Int)) ((0:Int)) ai a7.1 a7.2) (λ a7=>yJl (n1) ((0:Int)) ((0:Int)) a7.1 a7.2) (((IntKind.i64.wrap (n1.tmod (4:Int)+4)).tmod (4:Int)) - 0).toNat 0 ((a.1),(a.2.1))else none)
theorem yT4(a:Q4)(n1:Int)(y:(Q4)×Unit)(h:yEa a n1=some y):∃ n,yNB n a n1=some y:=
  ⟨big,LeF.top (show LeF some (yEa a n1) (yNB big a n1)from (λ (n:Nat) (hn:big<=n)=>show LeF some (yEa a n1) (yNB n a n1)from (yN λ hx=>by apply yDw n hn;exact hx)) big (Nat.le_refl _)) h⟩
def z0y_e:Entry:={ f:=156,args:=yRh,ress:=yWy,m:=λ x=>yEa x.1 x.2.1 }
theorem yau:FnOK Tryz.prog z0y_e:=yJ (g:=yWS) (fn:=Tryz.f156) yC yI eNil (by kernel_rfl) (by kernel_rfl) (by kernel_rfl) (λ x y h=>let ⟨n,hn⟩:=yT4 x.1 x.2.1 y h;⟨yOe n,iNil,(ybb n x).trans hn⟩)
abbrev yQi:Ty:=.pair t58 (.pair t3 .unit)
abbrev yV6:Ty:=.pair t4 .unit
def yYF:G:={ T:=T,E:=[],muts:=[],fz:=[] }
def yci:List (List Nat):=[[0,1,5]]
def yOi(n:Nat):Ann:={ keep:=yci,fuel:=n,inl:=[],deep:=0 }
def yFQ(n:Nat)(r0:List (Q4)->Int->Int->Option (Bool×Unit))(ay:List (Q4))(az:Int)(aQ:Int):Option (Bool×Unit):=
  (bif decide (aQ < (↑ay.length:Int))then (Option.bind (idx ay aQ) λ v1=>(bif decide (az >= v1.1)then (Option.bind (idx ay aQ) λ v2=>(bif decide (az < v2.2.1)then some (Bool.true,())else r0 ay az (IntKind.i64.wrap (aQ+1))))else r0 ay az (IntKind.i64.wrap (aQ+1))))else some (Bool.false,()))
def y7A(n:Nat)(k:Nat)(ay:List (Q4))(az:Int)(aQ:Int):Option (Bool×Unit):=
  iter (λ r y=>yFQ n (λ ay az aQ=>r ((ay,(az,(aQ,()))),((),()))) y.1.1 y.1.2.1 y.1.2.2.1) k ((ay,(az,(aQ,()))),((),()))
def yNo(n:Nat)(l:List (Q4))(t:Int):Option (Bool×Unit):=
  (y7A n n (l) (t) ((0:Int)))
theorem yYS(n:Nat)(x:yQi.den):runF yYF (yOi n) Tryz.f159 yQi yV6 x=yNo n x.1 x.2.1:=by kernel_rfl
def yCu(ay:List (Q4))(az:Int)(aQ:Int)(v1:Q4):Option ((Bool×Unit)⊕Unit):=
  (bif decide (az >= v1.1)then (Option.bind (idx ay aQ) λ v2=>(bif decide (az < v2.2.1)then (some (Sum.inl ((Bool.true,()))))else (some (Sum.inr ()))))else (some (Sum.inr ())))
def yFw(ay:List (Q4))(az:Int):Option (Bool×Unit):=
  (some ((Bool.false,())))
theorem yE7(n:Nat)(hn:big<=n)(ay:List (Q4))(az:Int)(hx:List.length (ay) < lenMax):LeF some (yM (λ ai aF a7=>yCu ay az ai aF) (λ a7=>yFw ay az) 0 (ay) ()) (y7A n n ay az 0):=by
  refine yQ (f:=some) (W:=λ aO ai a7=>y7A n aO ay az ai) (body:=(λ ai aF a7=>yCu ay az ai aF)) (fin:=(λ a7=>yFw ay az)) (λ aO ai a7=>?_) hx () n (by unfold big at hn;unfold lenMax at hx;omega)
  show LeF _ _ (yFQ n (y7A n aO) ay az ai)
  exact y6 (y8 λ v1=>(y6 (y8 λ v2=>(y6 (y7 rfl) (y7 rfl))) (y7 rfl))) (yp (y7 rfl))
def yAS(l:List (Q4))(t:Int):Option (Bool×Unit):=
  (bif decide (List.length (l) < lenMax)then yM (λ ai aF a7=>yCu (l) (t) ai aF) (λ a7=>yFw (l) (t)) 0 (l) ()else none)
theorem yUS(l:List (Q4))(t:Int)(y:Bool×Unit)(h:yAS l t=some y):∃ n,yNo n l t=some y:=
  ⟨big,LeF.top (show LeF some (yAS l t) (yNo big l t)from (λ (n:Nat) (hn:big<=n)=>show LeF some (yAS l t) (yNo n l t)from (yN λ hx=>by apply yE7 n hn;exact hx)) big (Nat.le_refl _)) h⟩
def z1D_e:Entry:={ f:=159,args:=yQi,ress:=yV6,m:=λ x=>yAS x.1 x.2.1 }
theorem yOW:FnOK Tryz.prog z1D_e:=yJ (g:=yYF) (fn:=Tryz.f159) yC yI eNil (by kernel_rfl) (by kernel_rfl) (by kernel_rfl) (λ x y h=>let ⟨n,hn⟩:=yUS x.1 x.2.1 y h;⟨yOi n,iNil,(yYS n x).trans hn⟩)
abbrev zT_a:Ty:=.pair t55 (.pair t3 .unit)
abbrev zT_r:Ty:=.pair t57 .unit
def zT_g:G:={ T:=T,E:=[],muts:=[],fz:=[] }
def zT_k:List (List Nat):=[]
def yXz(n:Nat):Ann:={ keep:=zT_k,fuel:=n,inl:=[],deep:=0 }
def zT_m(n:Nat)(c:Q3)(tick:Int):Option ((Q4)×Unit):=
  (bif c.2.1==0 then none else (Option.bind (idx [((1:Int),(0:Int),()),((0:Int),(1:Int),()),((-1:Int),(0:Int),()),((0:Int),(-1:Int),())] ((IntKind.i64.wrap (c.2.2.1 * IntKind.i64.wrap (tick.tdiv c.2.1))).tmod (4:Int))) λ v0=>some ((v0.1,v0.2.1,()),())))
theorem ydz(n:Nat)(x:zT_a.den):runF zT_g (yXz n) Tryz.f161 zT_a zT_r x=zT_m n x.1 x.2.1:=by kernel_rfl
def zT_M(c:Q3)(tick:Int):Option ((Q4)×Unit):=zT_m 0 c tick
theorem yV3(c:Q3)(tick:Int)(y:(Q4)×Unit)(h:zT_M c tick=some y):∃ n,zT_m n c tick=some y:=⟨0,h⟩
def zT_e:Entry:={ f:=161,args:=zT_a,ress:=zT_r,m:=λ x=>zT_M x.1 x.2.1 }
theorem yTM:FnOK Tryz.prog zT_e:=yJ (g:=zT_g) (fn:=Tryz.f161) yC yI eNil (by kernel_rfl) (by kernel_rfl) (by kernel_rfl) (λ x y h=>let ⟨n,hn⟩:=yV3 x.1 x.2.1 y h;⟨yXz n,iNil,(ydz n x).trans hn⟩)
abbrev zB_a:Ty:=.pair t31 (.pair t215 .unit)
abbrev zB_r:Ty:=.pair t23 .unit
def zB_g:G:={ T:=T,E:=[],muts:=[5],fz:=[] }
def zB_k:List (List Nat):=[[1,5,8,9,10]]
def yaK(n:Nat):Ann:={ keep:=zB_k,fuel:=n,inl:=[],deep:=0 }
def yIZ(n:Nat)(r0:((Q3)×Unit->Option ((Q4)×Unit))->List (Q3)->Int->Int->List (Q4)->Option (List (Q4)×Unit))(ae:(Q3)×Unit->Option ((Q4)×Unit))(a8:List (Q3))(aj:Int)(ak:Int)(af:List (Q4)):Option (List (Q4)×Unit):=
  (bif decide (ak < aj)then (Option.bind (idx a8 ak) λ v1=>(Option.bind (ae ((v1.1,v1.2.1,v1.2.2.1,()),())) λ v2=>(bif decide (af.length+(1:Nat)<=memMax)then r0 ae a8 aj (IntKind.i64.wrap (ak+1)) (af++[v2.1])else none)))else some (af,()))
def yB1(n:Nat)(k:Nat)(ae:(Q3)×Unit->Option ((Q4)×Unit))(a8:List (Q3))(aj:Int)(ak:Int)(af:List (Q4)):Option (List (Q4)×Unit):=
  iter (λ r y=>yIZ n (λ ae a8 aj ak af=>r ((ae,(a8,(aj,(ak,())))),((af,()),()))) y.1.1 y.1.2.1 y.1.2.2.1 y.1.2.2.2.1 y.2.1.1) k ((ae,(a8,(aj,(ak,())))),((af,()),()))
def zB_m(n:Nat)(l:List (Q3))(of:(Q3)×Unit->Option ((Q4)×Unit)):Option (List (Q4)×Unit):=
  (yB1 n n (of) (l) ((↑l.length:Int)) ((0:Int)) ([]))
theorem yc5(n:Nat)(x:zB_a.den):runF zB_g (yaK n) Tryz.f162 zB_a zB_r x=zB_m n x.1 x.2.1:=by kernel_rfl
def yKg(ae:(Q3)×Unit->Option ((Q4)×Unit))(a8:List (Q3))(ak:Int)(v1:Q3)(af:List (Q4)):Option ((List (Q4)×Unit)⊕(List (Q4))):=
  (Option.bind (ae ((v1.1,v1.2.1,v1.2.2.1,()),())) λ v2=>(bif decide (af.length+(1:Nat)<=memMax)then (some (Sum.inr (af++[v2.1])))else none))
def ySq(ae:(Q3)×Unit->Option ((Q4)×Unit))(a8:List (Q3))(af:List (Q4)):Option (List (Q4)×Unit):=
  (some ((af,())))
theorem yGp(n:Nat)(hn:big<=n)(ae:(Q3)×Unit->Option ((Q4)×Unit))(a8:List (Q3))(af:List (Q4))(hx:List.length (a8) < lenMax):LeF some (yM (λ ai aF a7=>yKg ae a8 ai aF a7) (λ a7=>ySq ae a8 a7) 0 (a8) af) (yB1 n n ae a8 (List.length (a8):Int) 0 af):=by
  refine yQ (f:=some) (W:=λ aO ai a7=>yB1 n aO ae a8 (List.length (a8):Int) ai a7) (body:=(λ ai aF a7=>yKg ae a8 ai aF a7)) (fin:=(λ a7=>ySq ae a8 a7)) (λ aO ai a7=>?_) hx af n (by unfold big at hn;unfold lenMax at hx;omega)
  show LeF _ _ (yIZ n (yB1 n aO) ae a8 (List.length (a8):Int) ai a7)
  exact y6 (y8 λ v1=>(y8 λ v2=>(y6 (y7 rfl) y01))) (yp (y7 rfl))
def zB_M(l:List (Q3))(of:(Q3)×Unit->Option ((Q4)×Unit)):Option (List (Q4)×Unit):=
  (bif decide (List.length (l) < lenMax)then yM (λ ai aF a7=>yKg (of) (l) ai aF a7) (λ a7=>ySq (of) (l) a7) 0 (l) ([])else none)
theorem yWv(l:List (Q3))(of:(Q3)×Unit->Option ((Q4)×Unit))(y:List (Q4)×Unit)(h:zB_M l of=some y):∃ n,zB_m n l of=some y:=
  ⟨big,LeF.top (show LeF some (zB_M l of) (zB_m big l of)from (λ (n:Nat) (hn:big<=n)=>show LeF some (zB_M l of) (zB_m n l of)from (yN λ hx=>by apply yGp n hn;exact hx)) big (Nat.le_refl _)) h⟩
def zB_e:Entry:={ f:=162,args:=zB_a,ress:=zB_r,m:=λ x=>zB_M x.1 x.2.1 }
theorem yS2:FnOK Tryz.prog zB_e:=yJ (g:=zB_g) (fn:=Tryz.f162) yC yI eNil (by kernel_rfl) (by kernel_rfl) (by kernel_rfl) (λ x y h=>let ⟨n,hn⟩:=yWv x.1 x.2.1 y h;⟨yaK n,iNil,(yc5 n x).trans hn⟩)
abbrev zq_a:Ty:=.pair t183 (.pair t3 (.pair t23 .unit))
abbrev zq_r:Ty:=.pair t183 .unit
def zq_g:G:={ T:=T,E:=[],muts:=[],fz:=[11] }
def zq_k:List (List Nat):=[[0,1,2,7,13,14]]
def yZD(n:Nat):Ann:={ keep:=zq_k,fuel:=n,inl:=[],deep:=0 }
def yL1(n:Nat)(r0:List (List (Q4))->Int->List (Q4)->Int->Int->List (List (Q4))->Option (List (List (Q4))×Unit))(aB:List (List (Q4)))(aH:Int)(aX:List (Q4))(ce:Int)(aA:Int)(af:List (List (Q4))):Option (List (List (Q4))×Unit):=
  (bif decide (aA < ce)then (Option.bind (idx aB aA) λ v1=>(bif Bool.true && decide ((0:Int)<=(↑v1.length:Int)) && decide ((↑v1.length:Int)<=(↑memMax:Int)) && (↑v1.length:Int)==(↑v1.length:Int)then (Option.bind (idx af aA) λ v2=>(Option.bind (af[aA.toNat]?) λ v3=>(Option.bind (idx (af.set aA.toNat (List.replicate ((↑v1.length:Int).toNat) (((0:Int),(0:Int),())):List (Q4))) aA) λ v4=>(Option.bind ((af.set aA.toNat (List.replicate ((↑v1.length:Int).toNat) (((0:Int),(0:Int),())):List (Q4)))[aA.toNat]?) λ v5=>(Option.bind (idx aB aA) λ v6=>(Option.bind ((af.set aA.toNat (List.replicate ((↑v1.length:Int).toNat) (((0:Int),(0:Int),())):List (Q4)))[aA.toNat]?) λ v7=>(bif decide (v6.length=v7.length)then (Option.bind (idx ((af.set aA.toNat (List.replicate ((↑v1.length:Int).toNat) (((0:Int),(0:Int),())):List (Q4))).set aA.toNat v6) aA) λ v8=>(Option.bind (((af.set aA.toNat (List.replicate ((↑v1.length:Int).toNat) (((0:Int),(0:Int),())):List (Q4))).set aA.toNat v6)[aA.toNat]?) λ v9=>(Option.bind (idx aX aA) λ v10=>(Option.bind (((af.set aA.toNat (List.replicate ((↑v1.length:Int).toNat) (((0:Int),(0:Int),())):List (Q4))).set aA.toNat v6)[aA.toNat]?) λ v11=>(Option.bind (idx v11 aH) λ v12=>(Option.bind (((af.set aA.toNat (List.replicate ((↑v1.length:Int).toNat) (((0:Int),(0:Int),())):List (Q4))).set aA.toNat v6)[aA.toNat]?) λ v13=>(Option.bind (v13[aH.toNat]?) λ v14=>r0 aB aH aX ce (IntKind.i64.wrap (aA+1)) (((af.set aA.toNat (List.replicate ((↑v1.length:Int).toNat) (((0:Int),(0:Int),())):List (Q4))).set aA.toNat v6).set aA.toNat (v13.set aH.toNat v10)))))))))else none)))))))else none))else some (af,()))
def yAg(n:Nat)(k:Nat)(aB:List (List (Q4)))(aH:Int)(aX:List (Q4))(ce:Int)(aA:Int)(af:List (List (Q4))):Option (List (List (Q4))×Unit):=
  iter (λ r y=>yL1 n (λ aB aH aX ce aA af=>r ((aB,(aH,(aX,(ce,(aA,()))))),((af,()),()))) y.1.1 y.1.2.1 y.1.2.2.1 y.1.2.2.2.1 y.1.2.2.2.2.1 y.2.1.1) k ((aB,(aH,(aX,(ce,(aA,()))))),((af,()),()))
def zq_m(n:Nat)(m:List (List (Q4)))(column:Int)(values:List (Q4)):Option (List (List (Q4))×Unit):=
  (bif Bool.true && decide ((0:Int)<=(↑m.length:Int)) && decide ((↑m.length:Int)<=(↑memMax:Int)) && (↑m.length:Int)==(↑m.length:Int)then (yAg n n (m) (column) (values) ((↑m.length:Int)) ((0:Int)) ((List.replicate ((↑m.length:Int).toNat) ([]):List (List (Q4)))))else none)
theorem yew(n:Nat)(x:zq_a.den):runF zq_g (yZD n) Tryz.f164 zq_a zq_r x=zq_m n x.1 x.2.1 x.2.2.1:=by kernel_rfl
def yII(aB:List (List (Q4)))(aH:Int)(aX:List (Q4))(aA:Int)(v1:List (Q4))(af:List (List (Q4))):Option ((List (List (Q4))×Unit)⊕(List (List (Q4)))):=
  (bif Bool.true && decide ((0:Int)<=(↑v1.length:Int)) && decide ((↑v1.length:Int)<=(↑memMax:Int)) && (↑v1.length:Int)==(↑v1.length:Int)then (Option.bind (idx af aA) λ v2=>(Option.bind (af[aA.toNat]?) λ v3=>(Option.bind (idx (af.set aA.toNat (List.replicate ((↑v1.length:Int).toNat) (((0:Int),(0:Int),())):List (Q4))) aA) λ v4=>(Option.bind ((af.set aA.toNat (List.replicate ((↑v1.length:Int).toNat) (((0:Int),(0:Int),())):List (Q4)))[aA.toNat]?) λ v5=>(Option.bind (idx aB aA) λ v6=>(Option.bind ((af.set aA.toNat (List.replicate ((↑v1.length:Int).toNat) (((0:Int),(0:Int),())):List (Q4)))[aA.toNat]?) λ v7=>(bif decide (v6.length=v7.length)then (Option.bind (idx ((af.set aA.toNat (List.replicate ((↑v1.length:Int).toNat) (((0:Int),(0:Int),())):List (Q4))).set aA.toNat v6) aA) λ v8=>(Option.bind (((af.set aA.toNat (List.replicate ((↑v1.length:Int).toNat) (((0:Int),(0:Int),())):List (Q4))).set aA.toNat v6)[aA.toNat]?) λ v9=>(Option.bind (idx aX aA) λ v10=>(Option.bind (((af.set aA.toNat (List.replicate ((↑v1.length:Int).toNat) (((0:Int),(0:Int),())):List (Q4))).set aA.toNat v6)[aA.toNat]?) λ v11=>(Option.bind (idx v11 aH) λ v12=>(Option.bind (((af.set aA.toNat (List.replicate ((↑v1.length:Int).toNat) (((0:Int),(0:Int),())):List (Q4))).set aA.toNat v6)[aA.toNat]?) λ v13=>(Option.bind (v13[aH.toNat]?) λ v14=>(some (Sum.inr (((af.set aA.toNat (List.replicate ((↑v1.length:Int).toNat) (((0:Int),(0:Int),())):List (Q4))).set aA.toNat v6).set aA.toNat (v13.set aH.toNat v10)))))))))))else none)))))))else none)
def yJ1(aB:List (List (Q4)))(aH:Int)(aX:List (Q4))(af:List (List (Q4))):Option (List (List (Q4))×Unit):=
  (some ((af,())))
theorem yIJ(n:Nat)(hn:big<=n)(aB:List (List (Q4)))(aH:Int)(aX:List (Q4))(af:List (List (Q4)))(hx:List.length (aB) < lenMax):LeF some (yM (λ ai aF a7=>yII aB aH aX ai aF a7) (λ a7=>yJ1 aB aH aX a7) 0 (aB) af) (yAg n n aB aH aX (List.length (aB):Int) 0 af):=by
  refine yQ (f:=some) (W:=λ aO ai a7=>yAg n aO aB aH aX (List.length (aB):Int) ai a7) (body:=(λ ai aF a7=>yII aB aH aX ai aF a7)) (fin:=(λ a7=>yJ1 aB aH aX a7)) (λ aO ai a7=>?_) hx af n (by unfold big at hn;unfold lenMax at hx;omega)
  show LeF _ _ (yL1 n (yAg n aO) aB aH aX (List.length (aB):Int) ai a7)
  exact y6 (y8 λ v1=>(y6 (y8 λ v2=>(y8 λ v3=>(y8 λ v4=>(y8 λ v5=>(y8 λ v6=>(y8 λ v7=>(y6 (y8 λ v8=>(y8 λ v9=>(y8 λ v10=>(y8 λ v11=>(y8 λ v12=>(y8 λ v13=>(y8 λ v14=>(y7 rfl)))))))) y01))))))) y01)) (yp (y7 rfl))
def zq_M(m:List (List (Q4)))(column:Int)(values:List (Q4)):Option (List (List (Q4))×Unit):=
  (bif Bool.true && decide ((0:Int)<=(↑m.length:Int)) && decide ((↑m.length:Int)<=(↑memMax:Int)) && (↑m.length:Int)==(↑m.length:Int)then (bif decide (List.length (m) < lenMax)then yM (λ ai aF a7=>yII (m) (column) (values) ai aF a7) (λ a7=>yJ1 (m) (column) (values) a7) 0 (m) ((List.replicate ((↑m.length:Int).toNat) ([]):List (List (Q4))))else none)else none)
theorem ybg(m:List (List (Q4)))(column:Int)(values:List (Q4))(y:List (List (Q4))×Unit)(h:zq_M m column values=some y):∃ n,zq_m n m column values=some y:=
  ⟨big,LeF.top (show LeF some (zq_M m column values) (zq_m big m column values)from (λ (n:Nat) (hn:big<=n)=>show LeF some (zq_M m column values) (zq_m n m column values)from (y6 (yN λ hx=>by apply yIJ n hn;exact hx) y01)) big (Nat.le_refl _)) h⟩
def zq_e:Entry:={ f:=164,args:=zq_a,ress:=zq_r,m:=λ x=>zq_M x.1 x.2.1 x.2.2.1 }
theorem ya6:FnOK Tryz.prog zq_e:=yJ (g:=zq_g) (fn:=Tryz.f164) yC yI eNil (by kernel_rfl) (by kernel_rfl) (by kernel_rfl) (λ x y h=>let ⟨n,hn⟩:=ybg x.1 x.2.1 x.2.2.1 y h;⟨yZD n,iNil,(yew n x).trans hn⟩)
abbrev zU_a:Ty:=.pair t57 .unit
abbrev zU_r:Ty:=.pair t4 .unit
def zU_g:G:={ T:=T,E:=[],muts:=[],fz:=[] }
def zU_k:List (List Nat):=[]
def yaZ(n:Nat):Ann:={ keep:=zU_k,fuel:=n,inl:=[],deep:=0 }
def zU_m(n:Nat)(z:Q4):Option (Bool×Unit):=
  some (!eqV ((Ty.int IntKind.i64).pair ((Ty.int IntKind.i64).pair Ty.unit)) z ((0:Int),(0:Int),()),())
theorem ydA(n:Nat)(x:zU_a.den):runF zU_g (yaZ n) Tryz.f166 zU_a zU_r x=zU_m n x.1:=by kernel_rfl
def zU(z:Q4):(Bool×Unit):=
  (!eqV ((Ty.int IntKind.i64).pair ((Ty.int IntKind.i64).pair Ty.unit)) z ((0:Int),(0:Int),()),())
abbrev zU_M (z:Q4):Option (Bool×Unit):=some (zU z)
theorem yYy(z:Q4)(y:Bool×Unit)(h:zU_M z=some y):∃ n,zU_m n z=some y:=
  ⟨0,by rw[<- h];show zU_m 0 z=some (zU z);unfold zU_m zU;first|rfl|(simp only[yG];done)|(simp only[yG];rfl)⟩
def zU_e:Entry:={ f:=166,args:=zU_a,ress:=zU_r,m:=λ x=>zU_M x.1 }
theorem ycv:FnOK Tryz.prog zU_e:=yJ (g:=zU_g) (fn:=Tryz.f166) yC yI eNil (by kernel_rfl) (by kernel_rfl) (by kernel_rfl) (λ x y h=>let ⟨n,hn⟩:=yYy x.1 y h;⟨yaZ n,iNil,(ydA n x).trans hn⟩)
abbrev ySU:Ty:=.pair t96 (.pair t3 (.pair t23 .unit))
abbrev yWe:Ty:=.pair t96 .unit
def yaC:G:={ T:=T,E:=[],muts:=[7,16],fz:=[] }
def ycg:List (List Nat):=[[0,1,2,7,8]]
def yPm(n:Nat):Ann:={ keep:=ycg,fuel:=n,inl:=[],deep:=0 }
def yFe(n:Nat)(r0:List (List (Q4))->Int->List (Q4)->Int->List (List (Q4))->Option (List (List (Q4))×Unit))(aB:List (List (Q4)))(aN:Int)(aY:List (Q4))(cG:Int)(af:List (List (Q4))):Option (List (List (Q4))×Unit):=
  (bif decide (cG < (↑aB.length:Int))then (Option.bind (idx aB cG) λ v1=>(bif decide ((0:Nat)+v1.length<=memMax)then (Option.bind (idx aY cG) λ v2=>(Option.bind (idx v1 aN) λ v3=>(Option.bind (v1[aN.toNat]?) λ v4=>(bif decide (af.length+(1:Nat)<=memMax)then r0 aB aN aY (IntKind.i64.wrap (cG+1)) (af++[v1.set aN.toNat v2])else none))))else none))else some (af,()))
def y7J(n:Nat)(k:Nat)(aB:List (List (Q4)))(aN:Int)(aY:List (Q4))(cG:Int)(af:List (List (Q4))):Option (List (List (Q4))×Unit):=
  iter (λ r y=>yFe n (λ aB aN aY cG af=>r ((aB,(aN,(aY,(cG,())))),((af,()),()))) y.1.1 y.1.2.1 y.1.2.2.1 y.1.2.2.2.1 y.2.1.1) k ((aB,(aN,(aY,(cG,())))),((af,()),()))
def yMr(n:Nat)(m:List (List (Q4)))(k1:Int)(column:List (Q4)):Option (List (List (Q4))×Unit):=
  (y7J n n (m) (k1) (column) ((0:Int)) ([]))
theorem yba(n:Nat)(x:ySU.den):runF yaC (yPm n) Tryz.f169 ySU yWe x=yMr n x.1 x.2.1 x.2.2.1:=by kernel_rfl
def y9U(aB:List (List (Q4)))(aN:Int)(aY:List (Q4))(cG:Int)(v1:List (Q4))(af:List (List (Q4))):Option ((List (List (Q4))×Unit)⊕(List (List (Q4)))):=
  (bif decide ((0:Nat)+v1.length<=memMax)then (Option.bind (idx aY cG) λ v2=>(Option.bind (idx v1 aN) λ v3=>(Option.bind (v1[aN.toNat]?) λ v4=>(bif decide (af.length+(1:Nat)<=memMax)then (some (Sum.inr (af++[v1.set aN.toNat v2])))else none))))else none)
def yDK(aB:List (List (Q4)))(aN:Int)(aY:List (Q4))(af:List (List (Q4))):Option (List (List (Q4))×Unit):=
  (some ((af,())))
theorem yDb(n:Nat)(hn:big<=n)(aB:List (List (Q4)))(aN:Int)(aY:List (Q4))(af:List (List (Q4)))(hx:List.length (aB) < lenMax):LeF some (yM (λ ai aF a7=>y9U aB aN aY ai aF a7) (λ a7=>yDK aB aN aY a7) 0 (aB) af) (y7J n n aB aN aY 0 af):=by
  refine yQ (f:=some) (W:=λ aO ai a7=>y7J n aO aB aN aY ai a7) (body:=(λ ai aF a7=>y9U aB aN aY ai aF a7)) (fin:=(λ a7=>yDK aB aN aY a7)) (λ aO ai a7=>?_) hx af n (by unfold big at hn;unfold lenMax at hx;omega)
  show LeF _ _ (yFe n (y7J n aO) aB aN aY ai a7)
  exact y6 (y8 λ v1=>(y6 (y8 λ v2=>(y8 λ v3=>(y8 λ v4=>(y6 (y7 rfl) y01)))) y01)) (yp (y7 rfl))
def yBU(m:List (List (Q4)))(k1:Int)(column:List (Q4)):Option (List (List (Q4))×Unit):=
  (bif decide (List.length (m) < lenMax)then yM (λ ai aF a7=>y9U (m) (k1) (column) ai aF a7) (λ a7=>yDK (m) (k1) (column) a7) 0 (m) ([])else none)
theorem yQQ(m:List (List (Q4)))(k1:Int)(column:List (Q4))(y:List (List (Q4))×Unit)(h:yBU m k1 column=some y):∃ n,yMr n m k1 column=some y:=
  ⟨big,LeF.top (show LeF some (yBU m k1 column) (yMr big m k1 column)from (λ (n:Nat) (hn:big<=n)=>show LeF some (yBU m k1 column) (yMr n m k1 column)from (yN λ hx=>by apply yDb n hn;exact hx)) big (Nat.le_refl _)) h⟩
def z06_e:Entry:={ f:=169,args:=ySU,ress:=yWe,m:=λ x=>yBU x.1 x.2.1 x.2.2.1 }
theorem yUy:FnOK Tryz.prog z06_e:=yJ (g:=yaC) (fn:=Tryz.f169) yC yI eNil (by kernel_rfl) (by kernel_rfl) (by kernel_rfl) (λ x y h=>let ⟨n,hn⟩:=yQQ x.1 x.2.1 x.2.2.1 y h;⟨yPm n,iNil,(yba n x).trans hn⟩)
abbrev ySz:Ty:=.pair t210 .unit
abbrev yYv:Ty:=.pair t4 .unit
def yaM:G:={ T:=T,E:=[],muts:=[],fz:=[] }
def ydi:List (List Nat):=[]
def yPh(n:Nat):Ann:={ keep:=ydi,fuel:=n,inl:=[],deep:=0 }
def yNK(n:Nat)(f:Nat):Option (Bool×Unit):=
  some (yx Go.BinOp.neq Go.FloatKind.f64 f f,())
theorem yZe(n:Nat)(x:ySz.den):runF yaM (yPh n) Tryz.f171 ySz yYv x=yNK n x.1:=by kernel_rfl
def z0w(f:Nat):(Bool×Unit):=
  (yx Go.BinOp.neq Go.FloatKind.f64 f f,())
abbrev yYY (f:Nat):Option (Bool×Unit):=some (z0w f)
theorem yQZ(f:Nat)(y:Bool×Unit)(h:yYY f=some y):∃ n,yNK n f=some y:=
  ⟨0,by rw[<- h];show yNK 0 f=some (z0w f);unfold yNK z0w;first|rfl|(simp only[yG];done)|(simp only[yG];rfl)⟩
def z0w_e:Entry:={ f:=171,args:=ySz,ress:=yYv,m:=λ x=>yYY x.1 }
theorem yVV:FnOK Tryz.prog z0w_e:=yJ (g:=yaM) (fn:=Tryz.f171) yC yI eNil (by kernel_rfl) (by kernel_rfl) (by kernel_rfl) (λ x y h=>let ⟨n,hn⟩:=yQZ x.1 y h;⟨yPh n,iNil,(yZe n x).trans hn⟩)
abbrev zP_a:Ty:=.pair t41 (.pair t233 .unit)
abbrev zP_r:Ty:=.pair t161 .unit
def zP_g:G:={ T:=T,E:=[],muts:=[5],fz:=[] }
def zP_k:List (List Nat):=[[1,5,8,9,10]]
def yWs(n:Nat):Ann:={ keep:=zP_k,fuel:=n,inl:=[],deep:=0 }
def yQd(n:Nat)(r0:(Int×Unit->Option (List UInt8×Unit))->List Int->Int->Int->List (List UInt8)->Option (List (List UInt8)×Unit))(ae:Int×Unit->Option (List UInt8×Unit))(a8:List Int)(aj:Int)(ak:Int)(af:List (List UInt8)):Option (List (List UInt8)×Unit):=
  (bif decide (ak < aj)then (Option.bind (idx a8 ak) λ v1=>(Option.bind (ae (v1,())) λ v2=>(bif decide (af.length+(1:Nat)<=memMax)then r0 ae a8 aj (IntKind.i64.wrap (ak+1)) (af++[v2.1])else none)))else some (af,()))
def yRQ(n:Nat)(k:Nat)(ae:Int×Unit->Option (List UInt8×Unit))(a8:List Int)(aj:Int)(ak:Int)(af:List (List UInt8)):Option (List (List UInt8)×Unit):=
  iter (λ r y=>yQd n (λ ae a8 aj ak af=>r ((ae,(a8,(aj,(ak,())))),((af,()),()))) y.1.1 y.1.2.1 y.1.2.2.1 y.1.2.2.2.1 y.2.1.1) k ((ae,(a8,(aj,(ak,())))),((af,()),()))
def zP_m(n:Nat)(l:List Int)(of:Int×Unit->Option (List UInt8×Unit)):Option (List (List UInt8)×Unit):=
  (yRQ n n (of) (l) ((↑l.length:Int)) ((0:Int)) ([]))
theorem yck(n:Nat)(x:zP_a.den):runF zP_g (yWs n) Tryz.f176 zP_a zP_r x=zP_m n x.1 x.2.1:=by kernel_rfl
def zP_M(l:List Int)(of:Int×Unit->Option (List UInt8×Unit)):Option (List (List UInt8)×Unit):=zP_m 1000 l of
theorem yWp(l:List Int)(of:Int×Unit->Option (List UInt8×Unit))(y:List (List UInt8)×Unit)(h:zP_M l of=some y):∃ n,zP_m n l of=some y:=⟨1000,h⟩
def zP_e:Entry:={ f:=176,args:=zP_a,ress:=zP_r,m:=λ x=>zP_M x.1 x.2.1 }
theorem ycP:FnOK Tryz.prog zP_e:=yJ (g:=zP_g) (fn:=Tryz.f176) yC yI eNil (by kernel_rfl) (by kernel_rfl) (by kernel_rfl) (λ x y h=>let ⟨n,hn⟩:=yWp x.1 x.2.1 y h;⟨yWs n,iNil,(yck n x).trans hn⟩)
abbrev yS6:Ty:=.pair t9 .unit
abbrev yVo:Ty:=.pair t4 .unit
def yWj:G:={ T:=T,E:=[],muts:=[],fz:=[] }
def ych:List (List Nat):=[[0,3]]
def yPw(n:Nat):Ann:={ keep:=ych,fuel:=n,inl:=[],deep:=0 }
def y3h(n:Nat)(r2:List UInt8->Int->Option (Bool×Unit))(bI:List UInt8)(ca:Int)(v3:UInt8):Option (Bool×Unit):=
  (bif ca==0 then some (Bool.false,())else (bif (↑v3.toNat:Int) != 95 then (bif decide ((↑v3.toNat:Int) < 48)then some (Bool.false,())else (bif decide ((↑v3.toNat:Int) > 57)then some (Bool.false,())else r2 bI (IntKind.i64.wrap (ca+1))))else r2 bI (IntKind.i64.wrap (ca+1))))
def yGL(n:Nat)(r2:List UInt8->Int->Option (Bool×Unit))(bI:List UInt8)(ca:Int):Option (Bool×Unit):=
  (bif decide (ca < (↑bI.length:Int))then (Option.bind (idx bI ca) λ v3=>(bif decide ((↑v3.toNat:Int) >= 97)then (bif decide ((↑v3.toNat:Int)<=122)then r2 bI (IntKind.i64.wrap (ca+1))else (bif decide ((↑v3.toNat:Int) >= 65)then (bif decide ((↑v3.toNat:Int)<=90)then r2 bI (IntKind.i64.wrap (ca+1))else (y3h n r2 bI ca v3))else (y3h n r2 bI ca v3)))else (bif decide ((↑v3.toNat:Int) >= 65)then (bif decide ((↑v3.toNat:Int)<=90)then r2 bI (IntKind.i64.wrap (ca+1))else (y3h n r2 bI ca v3))else (y3h n r2 bI ca v3))))else some (Bool.true,()))
def y6w(n:Nat)(k:Nat)(bI:List UInt8)(ca:Int):Option (Bool×Unit):=
  iter (λ r y=>yGL n (λ bI ca=>r ((bI,(ca,())),((),()))) y.1.1 y.1.2.1) k ((bI,(ca,())),((),()))
def yMB(n:Nat)(s:List UInt8):Option (Bool×Unit):=
  (bif (↑s.length:Int)==0 then some (Bool.false,())else (bif decide ((↑s.length:Int) > 24)then some (Bool.false,())else (y6w n n (s) ((0:Int)))))
theorem yYZ(n:Nat)(x:yS6.den):runF yWj (yPw n) Tryz.f187 yS6 yVo x=yMB n x.1:=by kernel_rfl
def y65(bI:List UInt8)(ca:Int)(v3:UInt8):Option ((Bool×Unit)⊕Unit):=
  (bif ca==0 then (some (Sum.inl ((Bool.false,()))))else (bif (↑v3.toNat:Int) != 95 then (bif decide ((↑v3.toNat:Int) < 48)then (some (Sum.inl ((Bool.false,()))))else (bif decide ((↑v3.toNat:Int) > 57)then (some (Sum.inl ((Bool.false,()))))else (some (Sum.inr ()))))else (some (Sum.inr ()))))
theorem y0Y(n:Nat)(hn:big<=n)(r2:List UInt8->Int->Option (Bool×Unit))(bI:List UInt8)(ca:Int)(v3:UInt8):LeF (elim some λ (a7:Unit)=>r2 bI (IntKind.i64.wrap (ca+1))) (y65 bI ca v3) (y3h n r2 bI ca v3):=
  (y6 (y7 rfl) (y6 (y6 (y7 rfl) (y6 (y7 rfl) (y7 rfl))) (y7 rfl)))
def y9q(bI:List UInt8)(ca:Int)(v3:UInt8):Option ((Bool×Unit)⊕Unit):=
  (bif decide ((↑v3.toNat:Int) >= 97)then (bif decide ((↑v3.toNat:Int)<=122)then (some (Sum.inr ()))else (bif decide ((↑v3.toNat:Int) >= 65)then (bif decide ((↑v3.toNat:Int)<=90)then (some (Sum.inr ()))else (y65 bI ca v3))else (y65 bI ca v3)))else (bif decide ((↑v3.toNat:Int) >= 65)then (bif decide ((↑v3.toNat:Int)<=90)then (some (Sum.inr ()))else (y65 bI ca v3))else (y65 bI ca v3)))
def yF0(bI:List UInt8):Option (Bool×Unit):=
  (some ((Bool.true,())))
theorem yE2(n:Nat)(hn:big<=n)(bI:List UInt8)(hx:List.length (bI) < lenMax):LeF some (yM (λ ai aF a7=>y9q bI ai aF) (λ a7=>yF0 bI) 0 (bI) ()) (y6w n n bI 0):=by
  refine yQ (f:=some) (W:=λ aO ai a7=>y6w n aO bI ai) (body:=(λ ai aF a7=>y9q bI ai aF)) (fin:=(λ a7=>yF0 bI)) (λ aO ai a7=>?_) hx () n (by unfold big at hn;unfold lenMax at hx;omega)
  show LeF _ _ (yGL n (y6w n aO) bI ai)
  exact y6 (y8 λ v3=>(y6 (y6 (y7 rfl) (y6 (y6 (y7 rfl) (by apply y0Y n hn)) (by apply y0Y n hn))) (y6 (y6 (y7 rfl) (by apply y0Y n hn)) (by apply y0Y n hn)))) (yp (y7 rfl))
def yDW(s:List UInt8):Option (Bool×Unit):=
  (bif (↑s.length:Int)==0 then (some ((Bool.false,())))else (bif decide ((↑s.length:Int) > 24)then (some ((Bool.false,())))else (bif decide (List.length (s) < lenMax)then yM (λ ai aF a7=>y9q (s) ai aF) (λ a7=>yF0 (s)) 0 (s) ()else none)))
theorem yTo(s:List UInt8)(y:Bool×Unit)(h:yDW s=some y):∃ n,yMB n s=some y:=
  ⟨big,LeF.top (show LeF some (yDW s) (yMB big s)from (λ (n:Nat) (hn:big<=n)=>show LeF some (yDW s) (yMB n s)from (y6 (y7 rfl) (y6 (y7 rfl) (yN λ hx=>by apply yE2 n hn;exact hx)))) big (Nat.le_refl _)) h⟩
def z0M_e:Entry:={ f:=187,args:=yS6,ress:=yVo,m:=λ x=>yDW x.1 }
theorem yZ1:FnOK Tryz.prog z0M_e:=yJ (g:=yWj) (fn:=Tryz.f187) yC yI eNil (by kernel_rfl) (by kernel_rfl) (by kernel_rfl) (λ x y h=>let ⟨n,hn⟩:=yTo x.1 y h;⟨yPw n,iNil,(yYZ n x).trans hn⟩)
abbrev yT0:Ty:=.pair t55 .unit
abbrev yYm:Ty:=.pair t55 .unit
def yZC:G:={ T:=T,E:=[],muts:=[],fz:=[] }
def yee:List (List Nat):=[]
def yPe(n:Nat):Ann:={ keep:=yee,fuel:=n,inl:=[],deep:=0 }
def yMe(n:Nat)(c:Q3):Option ((Q3)×Unit):=
  some ((c.1,c.2.1,c.2.2.1,()),())
theorem yVm(n:Nat)(x:yT0.den):runF yZC (yPe n) Tryz.f189 yT0 yYm x=yMe n x.1:=by kernel_rfl
def z0C(c:Q3):((Q3)×Unit):=
  ((c.1,c.2.1,c.2.2.1,()),())
abbrev yTF (c:Q3):Option ((Q3)×Unit):=some (z0C c)
theorem yUD(c:Q3)(y:(Q3)×Unit)(h:yTF c=some y):∃ n,yMe n c=some y:=
  ⟨0,by rw[<- h];show yMe 0 c=some (z0C c);unfold yMe z0C;first|rfl|(simp only[yG];done)|(simp only[yG];rfl)⟩
def z0C_e:Entry:={ f:=189,args:=yT0,ress:=yYm,m:=λ x=>yTF x.1 }
theorem ybI:FnOK Tryz.prog z0C_e:=yJ (g:=yZC) (fn:=Tryz.f189) yC yI eNil (by kernel_rfl) (by kernel_rfl) (by kernel_rfl) (λ x y h=>let ⟨n,hn⟩:=yUD x.1 y h;⟨yPe n,iNil,(yVm n x).trans hn⟩)
abbrev ySG:Ty:=.pair t57 (.pair (.ref t3) .unit)
abbrev yZw:Ty:=.pair t57 .unit
def yXY:G:={ T:=T,E:=[],muts:=[],fz:=[] }
def ydr:List (List Nat):=[]
def yPK(n:Nat):Ann:={ keep:=ydr,fuel:=n,inl:=[],deep:=0 }
def yRL(n:Nat)(z:Q4)(p1:Int):Option ((Q4)×Unit):=
  (bif p1==0 then none else (bif p1==0 then none else some ((IntKind.i64.wrap (z.1.tdiv p1),IntKind.i64.wrap (z.2.1.tdiv p1),()),())))
theorem ybm(n:Nat)(x:ySG.den):runF yXY (yPK n) Tryz.f190 ySG yZw x=yRL n x.1 x.2.1:=by kernel_rfl
def yRI(z:Q4)(p1:Int):Option ((Q4)×Unit):=yRL 0 z p1
theorem ySR(z:Q4)(p1:Int)(y:(Q4)×Unit)(h:yRI z p1=some y):∃ n,yRL n z p1=some y:=⟨0,h⟩
def z0D_e:Entry:={ f:=190,args:=ySG,ress:=yZw,m:=λ x=>yRI x.1 x.2.1 }
theorem yZu:FnOK Tryz.prog z0D_e:=yJ (g:=yXY) (fn:=Tryz.f190) yC yI eNil (by kernel_rfl) (by kernel_rfl) (by kernel_rfl) (λ x y h=>let ⟨n,hn⟩:=ySR x.1 x.2.1 y h;⟨yPK n,iNil,(ybm n x).trans hn⟩)
abbrev z8_a:Ty:=.pair t31 (.pair t255 .unit)
abbrev z8_r:Ty:=.pair t96 .unit
def z8_g:G:={ T:=T,E:=[],muts:=[5],fz:=[] }
def z8_k:List (List Nat):=[[1,5,8,9,10]]
def yWA(n:Nat):Ann:={ keep:=z8_k,fuel:=n,inl:=[],deep:=0 }
def yLC(n:Nat)(r0:((Q3)×Unit->Option (List (Q4)×Unit))->List (Q3)->Int->Int->List (List (Q4))->Option (List (List (Q4))×Unit))(ae:(Q3)×Unit->Option (List (Q4)×Unit))(a8:List (Q3))(aj:Int)(ak:Int)(af:List (List (Q4))):Option (List (List (Q4))×Unit):=
  (bif decide (ak < aj)then (Option.bind (idx a8 ak) λ v1=>(Option.bind (ae ((v1.1,v1.2.1,v1.2.2.1,()),())) λ v2=>(bif decide (af.length+(1:Nat)<=memMax)then r0 ae a8 aj (IntKind.i64.wrap (ak+1)) (af++[v2.1])else none)))else some (af,()))
def yA7(n:Nat)(k:Nat)(ae:(Q3)×Unit->Option (List (Q4)×Unit))(a8:List (Q3))(aj:Int)(ak:Int)(af:List (List (Q4))):Option (List (List (Q4))×Unit):=
  iter (λ r y=>yLC n (λ ae a8 aj ak af=>r ((ae,(a8,(aj,(ak,())))),((af,()),()))) y.1.1 y.1.2.1 y.1.2.2.1 y.1.2.2.2.1 y.2.1.1) k ((ae,(a8,(aj,(ak,())))),((af,()),()))
def z8_m(n:Nat)(l:List (Q3))(of:(Q3)×Unit->Option (List (Q4)×Unit)):Option (List (List (Q4))×Unit):=
  (yA7 n n (of) (l) ((↑l.length:Int)) ((0:Int)) ([]))
theorem yeK(n:Nat)(x:z8_a.den):runF z8_g (yWA n) Tryz.f191 z8_a z8_r x=z8_m n x.1 x.2.1:=by kernel_rfl
def yMk(ae:(Q3)×Unit->Option (List (Q4)×Unit))(a8:List (Q3))(ak:Int)(v1:Q3)(af:List (List (Q4))):Option ((List (List (Q4))×Unit)⊕(List (List (Q4)))):=
  (Option.bind (ae ((v1.1,v1.2.1,v1.2.2.1,()),())) λ v2=>(bif decide (af.length+(1:Nat)<=memMax)then (some (Sum.inr (af++[v2.1])))else none))
def yRs(ae:(Q3)×Unit->Option (List (Q4)×Unit))(a8:List (Q3))(af:List (List (Q4))):Option (List (List (Q4))×Unit):=
  (some ((af,())))
theorem yGt(n:Nat)(hn:big<=n)(ae:(Q3)×Unit->Option (List (Q4)×Unit))(a8:List (Q3))(af:List (List (Q4)))(hx:List.length (a8) < lenMax):LeF some (yM (λ ai aF a7=>yMk ae a8 ai aF a7) (λ a7=>yRs ae a8 a7) 0 (a8) af) (yA7 n n ae a8 (List.length (a8):Int) 0 af):=by
  refine yQ (f:=some) (W:=λ aO ai a7=>yA7 n aO ae a8 (List.length (a8):Int) ai a7) (body:=(λ ai aF a7=>yMk ae a8 ai aF a7)) (fin:=(λ a7=>yRs ae a8 a7)) (λ aO ai a7=>?_) hx af n (by unfold big at hn;unfold lenMax at hx;omega)
  show LeF _ _ (yLC n (yA7 n aO) ae a8 (List.length (a8):Int) ai a7)
  exact y6 (y8 λ v1=>(y8 λ v2=>(y6 (y7 rfl) y01))) (yp (y7 rfl))
def z8_M(l:List (Q3))(of:(Q3)×Unit->Option (List (Q4)×Unit)):Option (List (List (Q4))×Unit):=
  (bif decide (List.length (l) < lenMax)then yM (λ ai aF a7=>yMk (of) (l) ai aF a7) (λ a7=>yRs (of) (l) a7) 0 (l) ([])else none)
theorem yXe(l:List (Q3))(of:(Q3)×Unit->Option (List (Q4)×Unit))(y:List (List (Q4))×Unit)(h:z8_M l of=some y):∃ n,z8_m n l of=some y:=
  ⟨big,LeF.top (show LeF some (z8_M l of) (z8_m big l of)from (λ (n:Nat) (hn:big<=n)=>show LeF some (z8_M l of) (z8_m n l of)from (yN λ hx=>by apply yGt n hn;exact hx)) big (Nat.le_refl _)) h⟩
def z8_e:Entry:={ f:=191,args:=z8_a,ress:=z8_r,m:=λ x=>z8_M x.1 x.2.1 }
theorem yeH:FnOK Tryz.prog z8_e:=yJ (g:=z8_g) (fn:=Tryz.f191) yC yI eNil (by kernel_rfl) (by kernel_rfl) (by kernel_rfl) (λ x y h=>let ⟨n,hn⟩:=yXe x.1 x.2.1 y h;⟨yWA n,iNil,(yeK n x).trans hn⟩)
abbrev zK_a:Ty:=.pair t35 (.pair t259 .unit)
abbrev zK_r:Ty:=.pair t175 .unit
def zK_g:G:={ T:=T,E:=[],muts:=[5],fz:=[] }
def zK_k:List (List Nat):=[[1,5,8,9,10]]
def yah(n:Nat):Ann:={ keep:=zK_k,fuel:=n,inl:=[],deep:=0 }
def yTX(n:Nat)(r0:(Nat×Unit->Option (Int×Unit))->List Nat->Int->Int->List Int->Option (List Int×Unit))(ae:Nat×Unit->Option (Int×Unit))(a8:List Nat)(aj:Int)(ak:Int)(af:List Int):Option (List Int×Unit):=
  (bif decide (ak < aj)then (Option.bind (idx a8 ak) λ v1=>(Option.bind (ae (v1,())) λ v2=>(bif decide (af.length+(1:Nat)<=memMax)then r0 ae a8 aj (IntKind.i64.wrap (ak+1)) (af++[v2.1])else none)))else some (af,()))
def yQH(n:Nat)(k:Nat)(ae:Nat×Unit->Option (Int×Unit))(a8:List Nat)(aj:Int)(ak:Int)(af:List Int):Option (List Int×Unit):=
  iter (λ r y=>yTX n (λ ae a8 aj ak af=>r ((ae,(a8,(aj,(ak,())))),((af,()),()))) y.1.1 y.1.2.1 y.1.2.2.1 y.1.2.2.2.1 y.2.1.1) k ((ae,(a8,(aj,(ak,())))),((af,()),()))
def zK_m(n:Nat)(l:List Nat)(of:Nat×Unit->Option (Int×Unit)):Option (List Int×Unit):=
  (yQH n n (of) (l) ((↑l.length:Int)) ((0:Int)) ([]))
theorem yd7(n:Nat)(x:zK_a.den):runF zK_g (yah n) Tryz.f196 zK_a zK_r x=zK_m n x.1 x.2.1:=by kernel_rfl
def zK_M(l:List Nat)(of:Nat×Unit->Option (Int×Unit)):Option (List Int×Unit):=zK_m 1000 l of
theorem yYP(l:List Nat)(of:Nat×Unit->Option (Int×Unit))(y:List Int×Unit)(h:zK_M l of=some y):∃ n,zK_m n l of=some y:=⟨1000,h⟩
def zK_e:Entry:={ f:=196,args:=zK_a,ress:=zK_r,m:=λ x=>zK_M x.1 x.2.1 }
theorem ycI:FnOK Tryz.prog zK_e:=yJ (g:=zK_g) (fn:=Tryz.f196) yC yI eNil (by kernel_rfl) (by kernel_rfl) (by kernel_rfl) (λ x y h=>let ⟨n,hn⟩:=yYP x.1 x.2.1 y h;⟨yah n,iNil,(yd7 n x).trans hn⟩)
abbrev yQl:Ty:=.pair t175 .unit
abbrev yWd:Ty:=.pair t28 .unit
def yYr:G:={ T:=T,E:=[],muts:=[],fz:=[] }
def yc7:List (List Nat):=[[5,6,7]]
def yPD(n:Nat):Ann:={ keep:=yc7,fuel:=n,inl:=[],deep:=0 }
def yF2(n:Nat)(r0:List Int->Int->Int->Option (Int×Unit))(bx:List Int)(b8:Int)(aG:Int):Option (Int×Unit):=
  (bif decide (aG < b8)then (Option.bind (idx bx aG) λ v1=>(bif v1 != 0 then some (v1,())else r0 bx b8 (IntKind.i64.wrap (aG+1))))else some ((0:Int),()))
def y79(n:Nat)(k:Nat)(bx:List Int)(b8:Int)(aG:Int):Option (Int×Unit):=
  iter (λ r y=>yF2 n (λ bx b8 aG=>r ((bx,(b8,(aG,()))),((),()))) y.1.1 y.1.2.1 y.1.2.2.1) k ((bx,(b8,(aG,()))),((),()))
def yOI(n:Nat)(l:List Int):Option (Int×Unit):=
  (y79 n n (l) ((↑l.length:Int)) ((0:Int)))
theorem yYu(n:Nat)(x:yQl.den):runF yYr (yPD n) Tryz.f198 yQl yWd x=yOI n x.1:=by kernel_rfl
def yFq(bx:List Int)(aG:Int)(v1:Int):Option ((Int×Unit)⊕Unit):=
  (bif v1 != 0 then (some (Sum.inl ((v1,()))))else (some (Sum.inr ())))
def yFS(bx:List Int):Option (Int×Unit):=
  (some (((0:Int),())))
theorem yEL(n:Nat)(hn:big<=n)(bx:List Int)(hx:List.length (bx) < lenMax):LeF some (yM (λ ai aF a7=>yFq bx ai aF) (λ a7=>yFS bx) 0 (bx) ()) (y79 n n bx (List.length (bx):Int) 0):=by
  refine yQ (f:=some) (W:=λ aO ai a7=>y79 n aO bx (List.length (bx):Int) ai) (body:=(λ ai aF a7=>yFq bx ai aF)) (fin:=(λ a7=>yFS bx)) (λ aO ai a7=>?_) hx () n (by unfold big at hn;unfold lenMax at hx;omega)
  show LeF _ _ (yF2 n (y79 n aO) bx (List.length (bx):Int) ai)
  exact y6 (y8 λ v1=>(y6 (y7 rfl) (y7 rfl))) (yp (y7 rfl))
def y6f(l:List Int):Option (Int×Unit):=
  (bif decide (List.length (l) < lenMax)then yM (λ ai aF a7=>yFq (l) ai aF) (λ a7=>yFS (l)) 0 (l) ()else none)
theorem yTk(l:List Int)(y:Int×Unit)(h:y6f l=some y):∃ n,yOI n l=some y:=
  ⟨big,LeF.top (show LeF some (y6f l) (yOI big l)from (λ (n:Nat) (hn:big<=n)=>show LeF some (y6f l) (yOI n l)from (yN λ hx=>by apply yEL n hn;exact hx)) big (Nat.le_refl _)) h⟩
def z0Y_e:Entry:={ f:=198,args:=yQl,ress:=yWd,m:=λ x=>y6f x.1 }
theorem yPi:FnOK Tryz.prog z0Y_e:=yJ (g:=yYr) (fn:=Tryz.f198) yC yI eNil (by kernel_rfl) (by kernel_rfl) (by kernel_rfl) (λ x y h=>let ⟨n,hn⟩:=yTk x.1 y h;⟨yPD n,iNil,(yYu n x).trans hn⟩)
abbrev ySe:Ty:=.pair t4 (.pair t28 .unit)
abbrev yXv:Ty:=.pair t28 .unit
def yYJ:G:={ T:=T,E:=[],muts:=[],fz:=[] }
def ycT:List (List Nat):=[]
def yOo(n:Nat):Ann:={ keep:=ycT,fuel:=n,inl:=[],deep:=0 }
def yO2(n:Nat)(holds:Bool)(e:Int):Option (Int×Unit):=
  (bif holds then some (e,())else some ((0:Int),()))
theorem yZH(n:Nat)(x:ySe.den):runF yYJ (yOo n) Tryz.f199 ySe yXv x=yO2 n x.1 x.2.1:=by kernel_rfl
def z0q(holds:Bool)(e:Int):(Int×Unit):=
  (bif holds then (e,())else ((0:Int),()))
abbrev yZv (holds:Bool) (e:Int):Option (Int×Unit):=some (z0q holds e)
theorem yTf(holds:Bool)(e:Int)(y:Int×Unit)(h:yZv holds e=some y):∃ n,yO2 n holds e=some y:=
  ⟨0,by rw[<- h];show yO2 0 holds e=some (z0q holds e);unfold yO2 z0q;first|rfl|(simp only[yG];done)|(simp only[yG];rfl)⟩
def z0q_e:Entry:={ f:=199,args:=ySe,ress:=yXv,m:=λ x=>yZv x.1 x.2.1 }
theorem yD7:FnOK Tryz.prog z0q_e:=yJ (g:=yYJ) (fn:=Tryz.f199) yC yI eNil (by kernel_rfl) (by kernel_rfl) (by kernel_rfl) (λ x y h=>let ⟨n,hn⟩:=yTf x.1 x.2.1 y h;⟨yOo n,iNil,(yZH n x).trans hn⟩)
abbrev yUN:Ty:=.pair t9 .unit
abbrev yXT:Ty:=.pair t4 .unit
def yVv:G:={ T:=T,E:=[],muts:=[],fz:=[] }
def ycz:List (List Nat):=[[0,8]]
def yPr(n:Nat):Ann:={ keep:=ycz,fuel:=n,inl:=[],deep:=0 }
def y5d(n:Nat)(r0:List UInt8->List UInt8->Int->Option (Bool×Unit))(aq:List UInt8)(str0__0:List UInt8)(pos0__0:Int)(j2:Bool)(j7:Bool):Option (Bool×Unit):=
  (bif !j2 then (bif pos0__0==0 then some (Bool.false,())else (bif !j7 then some (Bool.false,())else r0 aq str0__0 (yf str0__0 pos0__0).2))else r0 aq str0__0 (yf str0__0 pos0__0).2)
def y31(n:Nat)(r0:List UInt8->List UInt8->Int->Option (Bool×Unit))(aq:List UInt8)(str0__0:List UInt8)(pos0__0:Int)(j2:Bool):Option (Bool×Unit):=
  (bif decide ((yf str0__0 pos0__0).1 >= 48)then (bif decide ((yf str0__0 pos0__0).1<=57)then (y5d n r0 aq str0__0 pos0__0 j2 (Bool.true))else (y5d n r0 aq str0__0 pos0__0 j2 ((yf str0__0 pos0__0).1==95)))else (y5d n r0 aq str0__0 pos0__0 j2 ((yf str0__0 pos0__0).1==95)))
def yG2(n:Nat)(r0:List UInt8->List UInt8->Int->Option (Bool×Unit))(aq:List UInt8)(str0__0:List UInt8)(pos0__0:Int):Option (Bool×Unit):=
  (bif decide (pos0__0 < (↑str0__0.length:Int))then (bif decide ((yf str0__0 pos0__0).1 >= 65)then (bif decide ((yf str0__0 pos0__0).1<=90)then (y31 n r0 aq str0__0 pos0__0 (Bool.true))else (bif decide ((yf str0__0 pos0__0).1 >= 97)then (y31 n r0 aq str0__0 pos0__0 (decide ((yf str0__0 pos0__0).1<=122)))else (y31 n r0 aq str0__0 pos0__0 (Bool.false))))else (bif decide ((yf str0__0 pos0__0).1 >= 97)then (y31 n r0 aq str0__0 pos0__0 (decide ((yf str0__0 pos0__0).1<=122)))else (y31 n r0 aq str0__0 pos0__0 (Bool.false))))else (bif !aq==[]then some (decide ((↑aq.length:Int)<=24),())else some (Bool.false,())))
def y7G(n:Nat)(k:Nat)(aq:List UInt8)(str0__0:List UInt8)(pos0__0:Int):Option (Bool×Unit):=
  iter (λ r y=>yG2 n (λ aq str0__0 pos0__0=>r ((aq,()),(((str0__0,pos0__0),()),()))) y.1.1 y.2.1.1.1 y.2.1.1.2) k ((aq,()),(((str0__0,pos0__0),()),()))
def yNn(n:Nat)(s:List UInt8):Option (Bool×Unit):=
  (y7G n n (s) (s) ((0:Int)))
theorem yWC(n:Nat)(x:yUN.den):runF yVv (yPr n) Tryz.f200 yUN yXT x=yNn n x.1:=by kernel_rfl
def y8L(aq:List UInt8)(str0__0:List UInt8)(pos0__0:Int)(j2:Bool)(j7:Bool):Option ((Bool×Unit)⊕Unit):=
  (bif !j2 then (bif pos0__0==0 then (some (Sum.inl ((Bool.false,()))))else (bif !j7 then (some (Sum.inl ((Bool.false,()))))else (some (Sum.inr ()))))else (some (Sum.inr ())))
theorem y18(n:Nat)(hn:big<=n)(r0:List UInt8->List UInt8->Int->Option (Bool×Unit))(aq:List UInt8)(str0__0:List UInt8)(pos0__0:Int)(j2:Bool)(j7:Bool):LeF (elim some λ (a7:Unit)=>r0 aq str0__0 (yf (str0__0) pos0__0).2) (y8L aq str0__0 pos0__0 j2 j7) (y5d n r0 aq str0__0 pos0__0 j2 j7):=
  (y6 (y6 (y7 rfl) (y6 (y7 rfl) (y7 rfl))) (y7 rfl))
def y4n(aq:List UInt8)(str0__0:List UInt8)(pos0__0:Int)(j2:Bool):Option ((Bool×Unit)⊕Unit):=
  (bif decide ((yf str0__0 pos0__0).1 >= 48)then (bif decide ((yf str0__0 pos0__0).1<=57)then (y8L aq str0__0 pos0__0 j2 (Bool.true))else (y8L aq str0__0 pos0__0 j2 ((yf str0__0 pos0__0).1==95)))else (y8L aq str0__0 pos0__0 j2 ((yf str0__0 pos0__0).1==95)))
theorem y0E(n:Nat)(hn:big<=n)(r0:List UInt8->List UInt8->Int->Option (Bool×Unit))(aq:List UInt8)(str0__0:List UInt8)(pos0__0:Int)(j2:Bool):LeF (elim some λ (a7:Unit)=>r0 aq str0__0 (yf (str0__0) pos0__0).2) (y4n aq str0__0 pos0__0 j2) (y31 n r0 aq str0__0 pos0__0 j2):=
  (y6 (y6 (by apply y18 n hn) (by apply y18 n hn)) (by apply y18 n hn))
def y9t(aq:List UInt8)(str0__0:List UInt8)(pos0__0:Int):Option ((Bool×Unit)⊕Unit):=
  (bif decide ((yf str0__0 pos0__0).1 >= 65)then (bif decide ((yf str0__0 pos0__0).1<=90)then (y4n aq str0__0 pos0__0 (Bool.true))else (bif decide ((yf str0__0 pos0__0).1 >= 97)then (y4n aq str0__0 pos0__0 (decide ((yf str0__0 pos0__0).1<=122)))else (y4n aq str0__0 pos0__0 (Bool.false))))else (bif decide ((yf str0__0 pos0__0).1 >= 97)then (y4n aq str0__0 pos0__0 (decide ((yf str0__0 pos0__0).1<=122)))else (y4n aq str0__0 pos0__0 (Bool.false))))
def y9a(aq:List UInt8)(str0__0:List UInt8):Option (Bool×Unit):=
  (bif !aq==[]then (some ((decide ((↑aq.length:Int)<=24),())))else (some ((Bool.false,()))))
theorem yEG(n:Nat)(hn:big<=n)(aq:List UInt8)(str0__0:List UInt8)(hx:List.length (str0__0) < lenMax):LeF some (y90 (str0__0) (λ ai a7=>y9t aq str0__0 ai) (λ a7=>y9a aq str0__0) (List.length (str0__0)) 0 ()) (y7G n n aq str0__0 0):=by
  refine yNb (f:=some) (W:=λ aO ai a7=>y7G n aO aq str0__0 ai) (body:=(λ ai a7=>y9t aq str0__0 ai)) (fin:=(λ a7=>y9a aq str0__0)) (λ aO ai a7=>?_) () n (by unfold big at hn;unfold lenMax at hx;omega)
  show LeF _ _ (yG2 n (y7G n aO) aq str0__0 ai)
  exact y6 (y6 (y6 (by apply y0E n hn) (y6 (by apply y0E n hn) (by apply y0E n hn))) (y6 (by apply y0E n hn) (by apply y0E n hn))) (yp (y6 (y7 rfl) (y7 rfl)))
def yBW(s:List UInt8):Option (Bool×Unit):=
  (bif decide (List.length (s) < lenMax)then y90 (s) (λ ai a7=>y9t (s) (s) ai) (λ a7=>y9a (s) (s)) (List.length (s)) 0 ()else none)
theorem yRb(s:List UInt8)(y:Bool×Unit)(h:yBW s=some y):∃ n,yNn n s=some y:=
  ⟨big,LeF.top (show LeF some (yBW s) (yNn big s)from (λ (n:Nat) (hn:big<=n)=>show LeF some (yBW s) (yNn n s)from (yN λ hx=>by apply yEG n hn;exact hx)) big (Nat.le_refl _)) h⟩
def z0J_e:Entry:={ f:=200,args:=yUN,ress:=yXT,m:=λ x=>yBW x.1 }
theorem yOt:FnOK Tryz.prog z0J_e:=yJ (g:=yVv) (fn:=Tryz.f200) yC yI eNil (by kernel_rfl) (by kernel_rfl) (by kernel_rfl) (λ x y h=>let ⟨n,hn⟩:=yRb x.1 y h;⟨yPr n,iNil,(yWC n x).trans hn⟩)
abbrev zR_a:Ty:=.pair t63 (.pair (.ref t60) .unit)
abbrev zR_r:Ty:=.pair t4 .unit
def zR_g:G:={ T:=T,E:=[],muts:=[],fz:=[] }
def zR_k:List (List Nat):=[]
def yYs(n:Nat):Ann:={ keep:=zR_k,fuel:=n,inl:=[],deep:=0 }
def zR_m(n:Nat)(s:Q4)(p1:Q1):Option (Bool×Unit):=
  some (decide (s.2.1 > (↑p1.2.2.1.length:Int)),())
theorem yeJ(n:Nat)(x:zR_a.den):runF zR_g (yYs n) Tryz.f205 zR_a zR_r x=zR_m n x.1 x.2.1:=by kernel_rfl
def zR(s:Q4)(p1:Q1):(Bool×Unit):=
  (decide (s.2.1 > (↑p1.2.2.1.length:Int)),())
abbrev zR_M (s:Q4) (p1:Q1):Option (Bool×Unit):=some (zR s p1)
theorem yWF(s:Q4)(p1:Q1)(y:Bool×Unit)(h:zR_M s p1=some y):∃ n,zR_m n s p1=some y:=
  ⟨0,by rw[<- h];show zR_m 0 s p1=some (zR s p1);unfold zR_m zR;first|rfl|(simp only[yG];done)|(simp only[yG];rfl)⟩
def zR_e:Entry:={ f:=205,args:=zR_a,ress:=zR_r,m:=λ x=>zR_M x.1 x.2.1 }
theorem ydq:FnOK Tryz.prog zR_e:=yJ (g:=zR_g) (fn:=Tryz.f205) yC yI eNil (by kernel_rfl) (by kernel_rfl) (by kernel_rfl) (λ x y h=>let ⟨n,hn⟩:=yWF x.1 x.2.1 y h;⟨yYs n,iNil,(yeJ n x).trans hn⟩)
abbrev zQ_a:Ty:=.pair t61 .unit
abbrev zQ_r:Ty:=.pair t4 .unit
def zQ_g:G:={ T:=T,E:=[],muts:=[],fz:=[] }
def zQ_k:List (List Nat):=[]
def yWD(n:Nat):Ann:={ keep:=zQ_k,fuel:=n,inl:=[],deep:=0 }
def zQ_m(n:Nat)(x1:Nat):Option (Bool×Unit):=
  some (yx Go.BinOp.neq Go.FloatKind.f32 x1 (nat_lit 0),())
theorem yd5(n:Nat)(x:zQ_a.den):runF zQ_g (yWD n) Tryz.f208 zQ_a zQ_r x=zQ_m n x.1:=by kernel_rfl
def zQ(x1:Nat):(Bool×Unit):=
  (yx Go.BinOp.neq Go.FloatKind.f32 x1 (nat_lit 0),())
abbrev zQ_M (x1:Nat):Option (Bool×Unit):=some (zQ x1)
theorem yUi(x1:Nat)(y:Bool×Unit)(h:zQ_M x1=some y):∃ n,zQ_m n x1=some y:=
  ⟨0,by rw[<- h];show zQ_m 0 x1=some (zQ x1);unfold zQ_m zQ;first|rfl|(simp only[yG];done)|(simp only[yG];rfl)⟩
def zQ_e:Entry:={ f:=208,args:=zQ_a,ress:=zQ_r,m:=λ x=>zQ_M x.1 }
theorem yeA:FnOK Tryz.prog zQ_e:=yJ (g:=zQ_g) (fn:=Tryz.f208) yC yI eNil (by kernel_rfl) (by kernel_rfl) (by kernel_rfl) (λ x y h=>let ⟨n,hn⟩:=yUi x.1 y h;⟨yWD n,iNil,(yd5 n x).trans hn⟩)
abbrev zu_a:Ty:=.pair t63 .unit
abbrev zu_r:Ty:=.pair t3 .unit
def zu_g:G:={ T:=T,E:=[],muts:=[],fz:=[] }
def zu_k:List (List Nat):=[]
def yWU(n:Nat):Ann:={ keep:=zu_k,fuel:=n,inl:=[],deep:=0 }
def zu_m(n:Nat)(s:Q4):Option (Int×Unit):=
  (bif decide (s.1 < 0)then some ((14:Int),())else (bif decide (s.2.1<=s.1)then some ((14:Int),())else (bif decide (s.2.1 > 100000)then some ((14:Int),())else some ((0:Int),()))))
theorem ybq(n:Nat)(x:zu_a.den):runF zu_g (yWU n) Tryz.f209 zu_a zu_r x=zu_m n x.1:=by kernel_rfl
def zu(s:Q4):(Int×Unit):=
  (bif decide (s.1 < 0)then ((14:Int),())else (bif decide (s.2.1<=s.1)then ((14:Int),())else (bif decide (s.2.1 > 100000)then ((14:Int),())else ((0:Int),()))))
abbrev zu_M (s:Q4):Option (Int×Unit):=some (zu s)
theorem yVj(s:Q4)(y:Int×Unit)(h:zu_M s=some y):∃ n,zu_m n s=some y:=
  ⟨0,by rw[<- h];show zu_m 0 s=some (zu s);unfold zu_m zu;first|rfl|(simp only[yG];done)|(simp only[yG];rfl)⟩
def zu_e:Entry:={ f:=209,args:=zu_a,ress:=zu_r,m:=λ x=>zu_M x.1 }
theorem ycy:FnOK Tryz.prog zu_e:=yJ (g:=zu_g) (fn:=Tryz.f209) yC yI eNil (by kernel_rfl) (by kernel_rfl) (by kernel_rfl) (λ x y h=>let ⟨n,hn⟩:=yVj x.1 y h;⟨yWU n,iNil,(ybq n x).trans hn⟩)
abbrev zD_a:Ty:=.pair t23 (.pair t149 .unit)
abbrev zD_r:Ty:=.pair t3 .unit
def zD_g:G:={ T:=T,E:=[],muts:=[],fz:=[] }
def zD_k:List (List Nat):=[[0,1,7,8]]
def yZf(n:Nat):Ann:={ keep:=zD_k,fuel:=n,inl:=[],deep:=0 }
def yKv(n:Nat)(r0:List (Q4)->((Q4)×Unit->Option (Bool×Unit))->Int->Int->Option (Int×Unit))(aq:List (Q4))(bh:(Q4)×Unit->Option (Bool×Unit))(aG:Int)(a8:Int):Option (Int×Unit):=
  (bif decide (a8 < aG)then (Option.bind (idx aq a8) λ v1=>(Option.bind (bh (v1,())) λ v2=>(bif v2.1 then some (a8,())else r0 aq bh aG (IntKind.i64.wrap (a8+1)))))else some ((-1:Int),()))
def yA4(n:Nat)(k:Nat)(aq:List (Q4))(bh:(Q4)×Unit->Option (Bool×Unit))(aG:Int)(a8:Int):Option (Int×Unit):=
  iter (λ r y=>yKv n (λ aq bh aG a8=>r ((aq,(bh,(aG,(a8,())))),((),()))) y.1.1 y.1.2.1 y.1.2.2.1 y.1.2.2.2.1) k ((aq,(bh,(aG,(a8,())))),((),()))
def zD_m(n:Nat)(s:List (Q4))(f:(Q4)×Unit->Option (Bool×Unit)):Option (Int×Unit):=
  (yA4 n n (s) (f) ((↑s.length:Int)) ((0:Int)))
theorem yeN(n:Nat)(x:zD_a.den):runF zD_g (yZf n) Tryz.f210 zD_a zD_r x=zD_m n x.1 x.2.1:=by kernel_rfl
def yKO(aq:List (Q4))(bh:(Q4)×Unit->Option (Bool×Unit))(a8:Int)(v1:Q4):Option ((Int×Unit)⊕Unit):=
  (Option.bind (bh (v1,())) λ v2=>(bif v2.1 then (some (Sum.inl ((a8,()))))else (some (Sum.inr ()))))
def yMm(aq:List (Q4))(bh:(Q4)×Unit->Option (Bool×Unit)):Option (Int×Unit):=
  (some (((-1:Int),())))
theorem yHo(n:Nat)(hn:big<=n)(aq:List (Q4))(bh:(Q4)×Unit->Option (Bool×Unit))(hx:List.length (aq) < lenMax):LeF some (yM (λ ai aF a7=>yKO aq bh ai aF) (λ a7=>yMm aq bh) 0 (aq) ()) (yA4 n n aq bh (List.length (aq):Int) 0):=by
  refine yQ (f:=some) (W:=λ aO ai a7=>yA4 n aO aq bh (List.length (aq):Int) ai) (body:=(λ ai aF a7=>yKO aq bh ai aF)) (fin:=(λ a7=>yMm aq bh)) (λ aO ai a7=>?_) hx () n (by unfold big at hn;unfold lenMax at hx;omega)
  show LeF _ _ (yKv n (yA4 n aO) aq bh (List.length (aq):Int) ai)
  exact y6 (y8 λ v1=>(y8 λ v2=>(y6 (y7 rfl) (y7 rfl)))) (yp (y7 rfl))
def zD_M(s:List (Q4))(f:(Q4)×Unit->Option (Bool×Unit)):Option (Int×Unit):=
  (bif decide (List.length (s) < lenMax)then yM (λ ai aF a7=>yKO (s) (f) ai aF) (λ a7=>yMm (s) (f)) 0 (s) ()else none)
theorem yVp(s:List (Q4))(f:(Q4)×Unit->Option (Bool×Unit))(y:Int×Unit)(h:zD_M s f=some y):∃ n,zD_m n s f=some y:=
  ⟨big,LeF.top (show LeF some (zD_M s f) (zD_m big s f)from (λ (n:Nat) (hn:big<=n)=>show LeF some (zD_M s f) (zD_m n s f)from (yN λ hx=>by apply yHo n hn;exact hx)) big (Nat.le_refl _)) h⟩
def zD_e:Entry:={ f:=210,args:=zD_a,ress:=zD_r,m:=λ x=>zD_M x.1 x.2.1 }
theorem ycf:FnOK Tryz.prog zD_e:=yJ (g:=zD_g) (fn:=Tryz.f210) yC yI eNil (by kernel_rfl) (by kernel_rfl) (by kernel_rfl) (λ x y h=>let ⟨n,hn⟩:=yVp x.1 x.2.1 y h;⟨yZf n,iNil,(yeN n x).trans hn⟩)
abbrev zg_a:Ty:=.pair t61 .unit
abbrev zg_r:Ty:=.pair t3 .unit
def zg_g:G:={ T:=T,E:=[],muts:=[],fz:=[] }
def zg_k:List (List Nat):=[]
def yYI(n:Nat):Ann:={ keep:=zg_k,fuel:=n,inl:=[],deep:=0 }
def zg_m(n:Nat)(x1:Nat):Option (Int×Unit):=
  (Option.bind (yh Go.FloatKind.f32 (y08 Go.BinOp.mul Go.FloatKind.f32 x1 (nat_lit 1098907648)) IntKind.i64) λ v0=>some (v0,()))
theorem ycJ(n:Nat)(x:zg_a.den):runF zg_g (yYI n) Tryz.f224 zg_a zg_r x=zg_m n x.1:=by kernel_rfl
def zg_M(x1:Nat):Option (Int×Unit):=zg_m 0 x1
theorem yam(x1:Nat)(y:Int×Unit)(h:zg_M x1=some y):∃ n,zg_m n x1=some y:=⟨0,h⟩
def zg_e:Entry:={ f:=224,args:=zg_a,ress:=zg_r,m:=λ x=>zg_M x.1 }
theorem ydy:FnOK Tryz.prog zg_e:=yJ (g:=zg_g) (fn:=Tryz.f224) yC yI eNil (by kernel_rfl) (by kernel_rfl) (by kernel_rfl) (λ x y h=>let ⟨n,hn⟩:=yam x.1 y h;⟨yYI n,iNil,(ycJ n x).trans hn⟩)
abbrev zF_a:Ty:=.pair t58 (.pair t263 .unit)
abbrev zF_r:Ty:=.pair t3 .unit
def zF_g:G:={ T:=T,E:=[],muts:=[],fz:=[] }
def zF_k:List (List Nat):=[[0,1,7,8]]
def yVl(n:Nat):Ann:={ keep:=zF_k,fuel:=n,inl:=[],deep:=0 }
def yJW(n:Nat)(r0:List (Q4)->((Q4)×Unit->Option (Bool×Unit))->Int->Int->Option (Int×Unit))(aq:List (Q4))(bh:(Q4)×Unit->Option (Bool×Unit))(aG:Int)(a8:Int):Option (Int×Unit):=
  (bif decide (a8 < aG)then (Option.bind (idx aq a8) λ v1=>(Option.bind (bh (v1,())) λ v2=>(bif v2.1 then some (a8,())else r0 aq bh aG (IntKind.i64.wrap (a8+1)))))else some ((-1:Int),()))
def yAH(n:Nat)(k:Nat)(aq:List (Q4))(bh:(Q4)×Unit->Option (Bool×Unit))(aG:Int)(a8:Int):Option (Int×Unit):=
  iter (λ r y=>yJW n (λ aq bh aG a8=>r ((aq,(bh,(aG,(a8,())))),((),()))) y.1.1 y.1.2.1 y.1.2.2.1 y.1.2.2.2.1) k ((aq,(bh,(aG,(a8,())))),((),()))
def zF_m(n:Nat)(s:List (Q4))(f:(Q4)×Unit->Option (Bool×Unit)):Option (Int×Unit):=
  (yAH n n (s) (f) ((↑s.length:Int)) ((0:Int)))
theorem ydG(n:Nat)(x:zF_a.den):runF zF_g (yVl n) Tryz.f226 zF_a zF_r x=zF_m n x.1 x.2.1:=by kernel_rfl
def yLT(aq:List (Q4))(bh:(Q4)×Unit->Option (Bool×Unit))(a8:Int)(v1:Q4):Option ((Int×Unit)⊕Unit):=
  (Option.bind (bh (v1,())) λ v2=>(bif v2.1 then (some (Sum.inl ((a8,()))))else (some (Sum.inr ()))))
def yNG(aq:List (Q4))(bh:(Q4)×Unit->Option (Bool×Unit)):Option (Int×Unit):=
  (some (((-1:Int),())))
theorem yGk(n:Nat)(hn:big<=n)(aq:List (Q4))(bh:(Q4)×Unit->Option (Bool×Unit))(hx:List.length (aq) < lenMax):LeF some (yM (λ ai aF a7=>yLT aq bh ai aF) (λ a7=>yNG aq bh) 0 (aq) ()) (yAH n n aq bh (List.length (aq):Int) 0):=by
  refine yQ (f:=some) (W:=λ aO ai a7=>yAH n aO aq bh (List.length (aq):Int) ai) (body:=(λ ai aF a7=>yLT aq bh ai aF)) (fin:=(λ a7=>yNG aq bh)) (λ aO ai a7=>?_) hx () n (by unfold big at hn;unfold lenMax at hx;omega)
  show LeF _ _ (yJW n (yAH n aO) aq bh (List.length (aq):Int) ai)
  exact y6 (y8 λ v1=>(y8 λ v2=>(y6 (y7 rfl) (y7 rfl)))) (yp (y7 rfl))
def zF_M(s:List (Q4))(f:(Q4)×Unit->Option (Bool×Unit)):Option (Int×Unit):=
  (bif decide (List.length (s) < lenMax)then yM (λ ai aF a7=>yLT (s) (f) ai aF) (λ a7=>yNG (s) (f)) 0 (s) ()else none)
theorem yVH(s:List (Q4))(f:(Q4)×Unit->Option (Bool×Unit))(y:Int×Unit)(h:zF_M s f=some y):∃ n,zF_m n s f=some y:=
  ⟨big,LeF.top (show LeF some (zF_M s f) (zF_m big s f)from (λ (n:Nat) (hn:big<=n)=>show LeF some (zF_M s f) (zF_m n s f)from (yN λ hx=>by apply yGk n hn;exact hx)) big (Nat.le_refl _)) h⟩
def zF_e:Entry:={ f:=226,args:=zF_a,ress:=zF_r,m:=λ x=>zF_M x.1 x.2.1 }
theorem yeq:FnOK Tryz.prog zF_e:=yJ (g:=zF_g) (fn:=Tryz.f226) yC yI eNil (by kernel_rfl) (by kernel_rfl) (by kernel_rfl) (λ x y h=>let ⟨n,hn⟩:=yVH x.1 x.2.1 y h;⟨yVl n,iNil,(ydG n x).trans hn⟩)
abbrev zG_a:Ty:=.pair t35 (.pair t265 .unit)
abbrev zG_r:Ty:=.pair t3 .unit
def zG_g:G:={ T:=T,E:=[],muts:=[],fz:=[] }
def zG_k:List (List Nat):=[[0,1,7,8]]
def ybd(n:Nat):Ann:={ keep:=zG_k,fuel:=n,inl:=[],deep:=0 }
def yKS(n:Nat)(r0:List Nat->(Nat×Unit->Option (Bool×Unit))->Int->Int->Option (Int×Unit))(aq:List Nat)(bh:Nat×Unit->Option (Bool×Unit))(aG:Int)(a8:Int):Option (Int×Unit):=
  (bif decide (a8 < aG)then (Option.bind (idx aq a8) λ v1=>(Option.bind (bh (v1,())) λ v2=>(bif v2.1 then some (a8,())else r0 aq bh aG (IntKind.i64.wrap (a8+1)))))else some ((-1:Int),()))
def yBR(n:Nat)(k:Nat)(aq:List Nat)(bh:Nat×Unit->Option (Bool×Unit))(aG:Int)(a8:Int):Option (Int×Unit):=
  iter (λ r y=>yKS n (λ aq bh aG a8=>r ((aq,(bh,(aG,(a8,())))),((),()))) y.1.1 y.1.2.1 y.1.2.2.1 y.1.2.2.2.1) k ((aq,(bh,(aG,(a8,())))),((),()))
def zG_m(n:Nat)(s:List Nat)(f:Nat×Unit->Option (Bool×Unit)):Option (Int×Unit):=
  (yBR n n (s) (f) ((↑s.length:Int)) ((0:Int)))
theorem yeg(n:Nat)(x:zG_a.den):runF zG_g (ybd n) Tryz.f227 zG_a zG_r x=zG_m n x.1 x.2.1:=by kernel_rfl
def yKm(aq:List Nat)(bh:Nat×Unit->Option (Bool×Unit))(a8:Int)(v1:Nat):Option ((Int×Unit)⊕Unit):=
  (Option.bind (bh (v1,())) λ v2=>(bif v2.1 then (some (Sum.inl ((a8,()))))else (some (Sum.inr ()))))
def yMa(aq:List Nat)(bh:Nat×Unit->Option (Bool×Unit)):Option (Int×Unit):=
  (some (((-1:Int),())))
theorem yHj(n:Nat)(hn:big<=n)(aq:List Nat)(bh:Nat×Unit->Option (Bool×Unit))(hx:List.length (aq) < lenMax):LeF some (yM (λ ai aF a7=>yKm aq bh ai aF) (λ a7=>yMa aq bh) 0 (aq) ()) (yBR n n aq bh (List.length (aq):Int) 0):=by
  refine yQ (f:=some) (W:=λ aO ai a7=>yBR n aO aq bh (List.length (aq):Int) ai) (body:=(λ ai aF a7=>yKm aq bh ai aF)) (fin:=(λ a7=>yMa aq bh)) (λ aO ai a7=>?_) hx () n (by unfold big at hn;unfold lenMax at hx;omega)
  show LeF _ _ (yKS n (yBR n aO) aq bh (List.length (aq):Int) ai)
  exact y6 (y8 λ v1=>(y8 λ v2=>(y6 (y7 rfl) (y7 rfl)))) (yp (y7 rfl))
def zG_M(s:List Nat)(f:Nat×Unit->Option (Bool×Unit)):Option (Int×Unit):=
  (bif decide (List.length (s) < lenMax)then yM (λ ai aF a7=>yKm (s) (f) ai aF) (λ a7=>yMa (s) (f)) 0 (s) ()else none)
theorem yZV(s:List Nat)(f:Nat×Unit->Option (Bool×Unit))(y:Int×Unit)(h:zG_M s f=some y):∃ n,zG_m n s f=some y:=
  ⟨big,LeF.top (show LeF some (zG_M s f) (zG_m big s f)from (λ (n:Nat) (hn:big<=n)=>show LeF some (zG_M s f) (zG_m n s f)from (yN λ hx=>by apply yHj n hn;exact hx)) big (Nat.le_refl _)) h⟩
def zG_e:Entry:={ f:=227,args:=zG_a,ress:=zG_r,m:=λ x=>zG_M x.1 x.2.1 }
theorem ydc:FnOK Tryz.prog zG_e:=yJ (g:=zG_g) (fn:=Tryz.f227) yC yI eNil (by kernel_rfl) (by kernel_rfl) (by kernel_rfl) (λ x y h=>let ⟨n,hn⟩:=yZV x.1 x.2.1 y h;⟨ybd n,iNil,(yeg n x).trans hn⟩)
end
end Go.Tw
end
section
set_option maxRecDepth 1000000
namespace Go.Tw
open Go.Vx Go.Vx.B Go.Proofs
noncomputable section
abbrev yTE:Ty:=.pair t94 .unit
abbrev yVY:Ty:=.pair t4 .unit
def yV4:G:={ T:=T,E:=[zl_e],muts:=[],fz:=[] }
def yeE:List (List Nat):=[]
def yPo(n:Nat):Ann:={ keep:=yeE,fuel:=n,inl:=[],deep:=0 }
def yNc(n:Nat)(r1:Q1):Option (Bool×Unit):=
  (bif decide ((↑r1.1.length:Int)<=60)then (bif decide ((↑r1.2.2.1.length:Int)<=24)then some ((zl r1.2.2.2.1 (8:Int)).1,())else (bif (↑r1.2.2.1.length:Int)==130 then some ((zl r1.2.2.2.1 (8:Int)).1,())else (bif (↑r1.2.2.1.length:Int)==4097 then some ((zl r1.2.2.2.1 (8:Int)).1,())else some (Bool.false,()))))else some (Bool.false,()))
theorem yXb(n:Nat)(x:yTE.den):runF yV4 (yPo n) Tryz.f54 yTE yVY x=yNc n x.1:=by kernel_rfl
def z0d(r1:Q1):(Bool×Unit):=
  (bif decide ((↑r1.1.length:Int)<=60)then (bif decide ((↑r1.2.2.1.length:Int)<=24)then ((zl r1.2.2.2.1 (8:Int)).1,())else (bif (↑r1.2.2.1.length:Int)==130 then ((zl r1.2.2.2.1 (8:Int)).1,())else (bif (↑r1.2.2.1.length:Int)==4097 then ((zl r1.2.2.2.1 (8:Int)).1,())else (Bool.false,()))))else (Bool.false,()))
abbrev yZZ (r1:Q1):Option (Bool×Unit):=some (z0d r1)
theorem yTq(r1:Q1)(y:Bool×Unit)(h:yZZ r1=some y):∃ n,yNc n r1=some y:=
  ⟨0,by rw[<- h];show yNc 0 r1=some (z0d r1);unfold yNc z0d;first|rfl|(simp only[yG];done)|(simp only[yG];rfl)⟩
def z0d_e:Entry:={ f:=54,args:=yTE,ress:=yVY,m:=λ x=>yZZ x.1 }
theorem yaj:FnOK Tryz.prog z0d_e:=yJ (g:=yV4) (fn:=Tryz.f54) yC yI (yA ycU eNil) (by kernel_rfl) (by kernel_rfl) (by kernel_rfl) (λ x y h=>let ⟨n,hn⟩:=yTq x.1 y h;⟨yPo n,iNil,(yXb n x).trans hn⟩)
abbrev yRA:Ty:=.pair t96 (.pair t96 .unit)
abbrev yVs:Ty:=.pair t4 .unit
def ybF:G:={ T:=T,E:=[zd_e],muts:=[],fz:=[] }
def ycx:List (List Nat):=[[0,1,5]]
def yPl(n:Nat):Ann:={ keep:=ycx,fuel:=n,inl:=[],deep:=0 }
def yMW(n:Nat)(r0:List (List (Q4))->List (List (Q4))->Int->Option (Bool×Unit))(aP:List (List (Q4)))(aW:List (List (Q4)))(aQ:Int):Option (Bool×Unit):=
  (bif decide (aQ < (↑aP.length:Int))then (Option.bind (idx aP aQ) λ v1=>(Option.bind (idx aW aQ) λ v2=>(Option.bind (zd_M v1 v2) λ v3=>(bif !v3.1 then some (Bool.false,())else r0 aP aW (IntKind.i64.wrap (aQ+1))))))else some (Bool.true,()))
def yLs(n:Nat)(k:Nat)(aP:List (List (Q4)))(aW:List (List (Q4)))(aQ:Int):Option (Bool×Unit):=
  iter (λ r y=>yMW n (λ aP aW aQ=>r ((aP,(aW,(aQ,()))),((),()))) y.1.1 y.1.2.1 y.1.2.2.1) k ((aP,(aW,(aQ,()))),((),()))
def yRz(n:Nat)(a:List (List (Q4)))(b:List (List (Q4))):Option (Bool×Unit):=
  (bif (↑a.length:Int) != (↑b.length:Int)then some (Bool.false,())else (yLs n n (a) (b) ((0:Int))))
theorem yUo(n:Nat)(x:yRA.den):runF ybF (yPl n) Tryz.f64 yRA yVs x=yRz n x.1 x.2.1:=by kernel_rfl
def yTi(a:List (List (Q4)))(b:List (List (Q4))):Option (Bool×Unit):=yRz 1000 a b
theorem ySf(a:List (List (Q4)))(b:List (List (Q4)))(y:Bool×Unit)(h:yTi a b=some y):∃ n,yRz n a b=some y:=⟨1000,h⟩
def z04_e:Entry:={ f:=64,args:=yRA,ress:=yVs,m:=λ x=>yTi x.1 x.2.1 }
theorem yWM:FnOK Tryz.prog z04_e:=yJ (g:=ybF) (fn:=Tryz.f64) yC yI (yA ySv eNil) (by kernel_rfl) (by kernel_rfl) (by kernel_rfl) (λ x y h=>let ⟨n,hn⟩:=ySf x.1 x.2.1 y h;⟨yPl n,iNil,(yUo n x).trans hn⟩)
abbrev zw_a:Ty:=.pair t126 (.pair t3 .unit)
abbrev zw_r:Ty:=.pair t57 .unit
def zw_g:G:={ T:=T,E:=[z0y_e],muts:=[],fz:=[] }
def zw_k:List (List Nat):=[]
def yaS(n:Nat):Ann:={ keep:=zw_k,fuel:=n,inl:=[],deep:=0 }
def zw_m(n:Nat)(c:Q3)(tick:Int):Option ((Q4)×Unit):=
  (bif c.2.1==0 then none else (Option.bind (yEa ((1:Int),(0:Int),()) (IntKind.i64.wrap (c.2.2.1 * IntKind.i64.wrap (tick.tdiv c.2.1)))) λ v0=>some ((v0.1.1,v0.1.2.1,()),())))
theorem yeF(n:Nat)(x:zw_a.den):runF zw_g (yaS n) Tryz.f81 zw_a zw_r x=zw_m n x.1 x.2.1:=by kernel_rfl
def zw_M(c:Q3)(tick:Int):Option ((Q4)×Unit):=zw_m 0 c tick
theorem yYG(c:Q3)(tick:Int)(y:(Q4)×Unit)(h:zw_M c tick=some y):∃ n,zw_m n c tick=some y:=⟨0,h⟩
def zw_e:Entry:={ f:=81,args:=zw_a,ress:=zw_r,m:=λ x=>zw_M x.1 x.2.1 }
theorem yVG:FnOK Tryz.prog zw_e:=yJ (g:=zw_g) (fn:=Tryz.f81) yC yI (yA yau eNil) (by kernel_rfl) (by kernel_rfl) (by kernel_rfl) (λ x y h=>let ⟨n,hn⟩:=yYG x.1 x.2.1 y h;⟨yaS n,iNil,(yeF n x).trans hn⟩)
abbrev zx_a:Ty:=.pair t57 .unit
abbrev zx_r:Ty:=.pair t3 .unit
def zx_g:G:={ T:=T,E:=[zi_e,z0b_e],muts:=[],fz:=[] }
def zx_k:List (List Nat):=[]
def yVQ(n:Nat):Ann:={ keep:=zx_k,fuel:=n,inl:=[],deep:=0 }
def zx_m(n:Nat)(z:Q4):Option (Int×Unit):=
  (Option.bind (y6g [(zi z.1 (-8796093022208:Int) (8796093022208:Int)).1,(zi z.2.1 (-8796093022208:Int) (8796093022208:Int)).1]) λ v0=>some (v0.1,()))
theorem ydE(n:Nat)(x:zx_a.den):runF zx_g (yVQ n) Tryz.f109 zx_a zx_r x=zx_m n x.1:=by kernel_rfl
def zx_M(z:Q4):Option (Int×Unit):=zx_m 0 z
theorem yYL(z:Q4)(y:Int×Unit)(h:zx_M z=some y):∃ n,zx_m n z=some y:=⟨0,h⟩
def zx_e:Entry:={ f:=109,args:=zx_a,ress:=zx_r,m:=λ x=>zx_M x.1 }
theorem ydP:FnOK Tryz.prog zx_e:=yJ (g:=zx_g) (fn:=Tryz.f109) yC yI (yA yRd (yA yFj eNil)) (by kernel_rfl) (by kernel_rfl) (by kernel_rfl) (λ x y h=>let ⟨n,hn⟩:=yYL x.1 y h;⟨yVQ n,iNil,(ydE n x).trans hn⟩)
abbrev yTr:Ty:=.pair t3 (.pair t3 (.pair t3 .unit))
abbrev yUp:Ty:=.pair t28 .unit
def yY7:G:={ T:=T,E:=[z1K_e],muts:=[],fz:=[] }
def yc9:List (List Nat):=[]
def yPz(n:Nat):Ann:={ keep:=yc9,fuel:=n,inl:=[],deep:=0 }
def yOG(n:Nat)(n1:Int)(least:Int)(most:Int):Option (Int×Unit):=
  (bif decide (n1 < least)then some ((z1K Bool.true (3:Int)).1,())else some ((z1K (decide (n1 > most)) (3:Int)).1,()))
theorem yUw(n:Nat)(x:yTr.den):runF yY7 (yPz n) Tryz.f114 yTr yUp x=yOG n x.1 x.2.1 x.2.2.1:=by kernel_rfl
def z0p(n1:Int)(least:Int)(most:Int):(Int×Unit):=
  (bif decide (n1 < least)then ((z1K Bool.true (3:Int)).1,())else ((z1K (decide (n1 > most)) (3:Int)).1,()))
abbrev yUt (n1:Int) (least:Int) (most:Int):Option (Int×Unit):=some (z0p n1 least most)
theorem yQW(n1:Int)(least:Int)(most:Int)(y:Int×Unit)(h:yUt n1 least most=some y):∃ n,yOG n n1 least most=some y:=
  ⟨0,by rw[<- h];show yOG 0 n1 least most=some (z0p n1 least most);unfold yOG z0p;first|rfl|(simp only[yG];done)|(simp only[yG];rfl)⟩
def z0p_e:Entry:={ f:=114,args:=yTr,ress:=yUp,m:=λ x=>yUt x.1 x.2.1 x.2.2.1 }
theorem yCh:FnOK Tryz.prog z0p_e:=yJ (g:=yY7) (fn:=Tryz.f114) yC yI (yA y5h eNil) (by kernel_rfl) (by kernel_rfl) (by kernel_rfl) (λ x y h=>let ⟨n,hn⟩:=yQW x.1 x.2.1 x.2.2.1 y h;⟨yPz n,iNil,(yUw n x).trans hn⟩)
abbrev zt_a:Ty:=.pair t9 .unit
abbrev zt_r:Ty:=.pair t3 .unit
def zt_g:G:={ T:=T,E:=[z0M_e],muts:=[],fz:=[] }
def zt_k:List (List Nat):=[]
def yWa(n:Nat):Ann:={ keep:=zt_k,fuel:=n,inl:=[],deep:=0 }
def zt_m(n:Nat)(s:List UInt8):Option (Int×Unit):=
  (Option.bind (yDW s) λ v0=>(bif !v0.1 then some ((8:Int),())else some ((0:Int),())))
theorem yeB(n:Nat)(x:zt_a.den):runF zt_g (yWa n) Tryz.f118 zt_a zt_r x=zt_m n x.1:=by kernel_rfl
def zt_M(s:List UInt8):Option (Int×Unit):=zt_m 0 s
theorem yWK(s:List UInt8)(y:Int×Unit)(h:zt_M s=some y):∃ n,zt_m n s=some y:=⟨0,h⟩
def zt_e:Entry:={ f:=118,args:=zt_a,ress:=zt_r,m:=λ x=>zt_M x.1 }
theorem yXy:FnOK Tryz.prog zt_e:=yJ (g:=zt_g) (fn:=Tryz.f118) yC yI (yA yZ1 eNil) (by kernel_rfl) (by kernel_rfl) (by kernel_rfl) (λ x y h=>let ⟨n,hn⟩:=yWK x.1 y h;⟨yWa n,iNil,(yeB n x).trans hn⟩)
abbrev ySa:Ty:=.pair t33 .unit
abbrev yXV:Ty:=.pair t4 .unit
def yZN:G:={ T:=T,E:=[z0H_e],muts:=[],fz:=[] }
def yed:List (List Nat):=[[1,6,7,8]]
def yOj(n:Nat):Ann:={ keep:=yed,fuel:=n,inl:=[],deep:=0 }
def yFB(n:Nat)(r0:Q2->List (Q4)->Int->Int->Option (Bool×Unit))(az:Q2)(b8:List (Q4))(aG:Int)(a8:Int):Option (Bool×Unit):=
  (bif decide (a8 < aG)then (Option.bind (idx b8 a8) λ v1=>(bif decide ((if (z0H v1.2.1).1 > (z0H v1.1).1 then (z0H v1.2.1).1 else (z0H v1.1).1) > 4194304)then some (Bool.false,())else r0 az b8 aG (IntKind.i64.wrap (a8+1))))else some (decide (az.2.2.1<=4096),()))
def y6o(n:Nat)(k:Nat)(az:Q2)(b8:List (Q4))(aG:Int)(a8:Int):Option (Bool×Unit):=
  iter (λ r y=>yFB n (λ az b8 aG a8=>r ((az,(b8,(aG,(a8,())))),((),()))) y.1.1 y.1.2.1 y.1.2.2.1 y.1.2.2.2.1) k ((az,(b8,(aG,(a8,())))),((),()))
def yNU(n:Nat)(t:Q2):Option (Bool×Unit):=
  (y6o n n (t) (t.2.1) ((↑t.2.1.length:Int)) ((0:Int)))
theorem yXu(n:Nat)(x:ySa.den):runF yZN (yOj n) Tryz.f129 ySa yXV x=yNU n x.1:=by kernel_rfl
def yKV(az:Q2)(b8:List (Q4))(a8:Int)(v1:Q4):Option ((Bool×Unit)⊕Unit):=
  (bif decide ((if (z0H v1.2.1).1 > (z0H v1.1).1 then (z0H v1.2.1).1 else (z0H v1.1).1) > 4194304)then (some (Sum.inl ((Bool.false,()))))else (some (Sum.inr ())))
def yK9(az:Q2)(b8:List (Q4)):Option (Bool×Unit):=
  (some ((decide (az.2.2.1<=4096),())))
theorem yDQ(n:Nat)(hn:big<=n)(az:Q2)(b8:List (Q4))(hx:List.length (b8) < lenMax):LeF some (yM (λ ai aF a7=>yKV az b8 ai aF) (λ a7=>yK9 az b8) 0 (b8) ()) (y6o n n az b8 (List.length (b8):Int) 0):=by
  refine yQ (f:=some) (W:=λ aO ai a7=>y6o n aO az b8 (List.length (b8):Int) ai) (body:=(λ ai aF a7=>yKV az b8 ai aF)) (fin:=(λ a7=>yK9 az b8)) (λ aO ai a7=>?_) hx () n (by unfold big at hn;unfold lenMax at hx;omega)
  show LeF _ _ (yFB n (y6o n aO) az b8 (List.length (b8):Int) ai)
  exact y6 (y8 λ v1=>(y6 (y7 rfl) (y7 rfl))) (yp (y7 rfl))
def yIl(t:Q2):Option (Bool×Unit):=
  (bif decide (List.length (t.2.1) < lenMax)then yM (λ ai aF a7=>yKV (t) (t.2.1) ai aF) (λ a7=>yK9 (t) (t.2.1)) 0 (t.2.1) ()else none)
theorem yT3(t:Q2)(y:Bool×Unit)(h:yIl t=some y):∃ n,yNU n t=some y:=
  ⟨big,LeF.top (show LeF some (yIl t) (yNU big t)from (λ (n:Nat) (hn:big<=n)=>show LeF some (yIl t) (yNU n t)from (yN λ hx=>by apply yDQ n hn;exact hx)) big (Nat.le_refl _)) h⟩
def z00_e:Entry:={ f:=129,args:=ySa,ress:=yXV,m:=λ x=>yIl x.1 }
theorem yV1:FnOK Tryz.prog z00_e:=yJ (g:=yZN) (fn:=Tryz.f129) yC yI (yA yCi eNil) (by kernel_rfl) (by kernel_rfl) (by kernel_rfl) (λ x y h=>let ⟨n,hn⟩:=yT3 x.1 y h;⟨yOj n,iNil,(yXu n x).trans hn⟩)
abbrev yS3:Ty:=.pair t57 .unit
abbrev yXX:Ty:=.pair t28 .unit
def yXx:G:={ T:=T,E:=[z0H_e,z1K_e],muts:=[],fz:=[] }
def ycM:List (List Nat):=[]
def yPk(n:Nat):Ann:={ keep:=ycM,fuel:=n,inl:=[],deep:=0 }
def yNx(n:Nat)(z:Q4):Option (Int×Unit):=
  some ((z1K (decide ((if (z0H z.2.1).1 > (z0H z.1).1 then (z0H z.2.1).1 else (z0H z.1).1) > 16777216)) (1:Int)).1,())
theorem yXD(n:Nat)(x:yS3.den):runF yXx (yPk n) Tryz.f138 yS3 yXX x=yNx n x.1:=by kernel_rfl
def z0j(z:Q4):(Int×Unit):=
  ((z1K (decide ((if (z0H z.2.1).1 > (z0H z.1).1 then (z0H z.2.1).1 else (z0H z.1).1) > 16777216)) (1:Int)).1,())
abbrev ySx (z:Q4):Option (Int×Unit):=some (z0j z)
theorem yRG(z:Q4)(y:Int×Unit)(h:ySx z=some y):∃ n,yNx n z=some y:=
  ⟨0,by rw[<- h];show yNx 0 z=some (z0j z);unfold yNx z0j;first|rfl|(simp only[yG];done)|(simp only[yG];rfl)⟩
def z0j_e:Entry:={ f:=138,args:=yS3,ress:=yXX,m:=λ x=>ySx x.1 }
theorem yXQ:FnOK Tryz.prog z0j_e:=yJ (g:=yXx) (fn:=Tryz.f138) yC yI (yA yCi (yA y5h eNil)) (by kernel_rfl) (by kernel_rfl) (by kernel_rfl) (λ x y h=>let ⟨n,hn⟩:=yRG x.1 y h;⟨yPk n,iNil,(yXD n x).trans hn⟩)
abbrev yUJ:Ty:=.pair t60 (.pair t55 (.pair t55 .unit))
abbrev yWw:Ty:=.pair t57 .unit
def yYR:G:={ T:=T,E:=[zT_e,z0A_e,z1B_e,z1J_e],muts:=[],fz:=[] }
def yeV:List (List Nat):=[]
def yPX(n:Nat):Ann:={ keep:=yeV,fuel:=n,inl:=[il124,il195],deep:=3 }
def y7j(n:Nat)(r0:Q1->List (Q4)->List Nat->Int->Int->Q1->Q3->Q3->Q1->Q3->Q3->Q4->Q1->Q1->Int->Int->Int->Int->Q1->Q3->Q3->Q1->Q3->Q3->Q4->Q1->Q1->Option ((Q4)×Unit))(j8:Q1)(j9:List (Q4))(j10:Int)(j11:Nat)(j12:List Nat)(j13:Int)(j14:Int)(j15:Q1)(j16:Q3)(j17:Q3)(j18:Q1)(j19:Q3)(j20:Q3)(j21:Q4)(j22:Q1)(j23:Q1)(j24:Int)(j25:Int)(j26:Int)(j27:Int)(j28:Q1)(j29:Q3)(j30:Q3)(j31:Q1)(j32:Q3)(j33:Q3)(j34:Q4)(j35:Q1)(j36:Q1):Option ((Q4)×Unit):=
  (bif decide ((↑j9.length:Int) > 0)then (Option.bind (idx j9 (0:Int)) λ v37=>(bif decide (v37.1<=j10)then r0 j8 j9 j12 j13 (IntKind.i64.wrap (j14+1)) j15 j16 j17 j18 j19 j20 j21 j22 j23 j24 j25 j26 j27 j28 j29 j30 j31 j32 j33 j34 j35 j36 else (Option.bind (yh Go.FloatKind.f32 (y08 Go.BinOp.mul Go.FloatKind.f32 j11 (nat_lit 1098907648)) IntKind.i64) λ v42=>(Option.bind (zT_M j19 (IntKind.i64.wrap (j8.2.1+j10))) λ v43=>(Option.bind (zT_M j20 (IntKind.i64.wrap (j8.2.1+j10))) λ v44=>r0 j8 j9 j12 j13 (IntKind.i64.wrap (j14+1)) j15 j16 j17 j18 j19 j20 j21 j22 j23 j24 j25 (z1J (j26,j27,()) (z1B (z0A v43.1).1 v44.1).1).1.1 (z1J (j26,j27,()) (z1B (z0A v43.1).1 v44.1).1).1.2.1 j28 j29 j30 j31 j32 j33 j34 j35 j36)))))else (Option.bind (yh Go.FloatKind.f32 (y08 Go.BinOp.mul Go.FloatKind.f32 j11 (nat_lit 1098907648)) IntKind.i64) λ v45=>(Option.bind (zT_M j19 (IntKind.i64.wrap (j8.2.1+j10))) λ v46=>(Option.bind (zT_M j20 (IntKind.i64.wrap (j8.2.1+j10))) λ v47=>r0 j8 j9 j12 j13 (IntKind.i64.wrap (j14+1)) j15 j16 j17 j18 j19 j20 j21 j22 j23 j24 j25 (z1J (j26,j27,()) (z1B (z0A v46.1).1 v47.1).1).1.1 (z1J (j26,j27,()) (z1B (z0A v46.1).1 v47.1).1).1.2.1 j28 j29 j30 j31 j32 j33 j34 j35 j36))))
def yFp(n:Nat)(r0:Q1->List (Q4)->List Nat->Int->Int->Q1->Q3->Q3->Q1->Q3->Q3->Q4->Q1->Q1->Int->Int->Int->Int->Q1->Q3->Q3->Q1->Q3->Q3->Q4->Q1->Q1->Option ((Q4)×Unit))(r2:Q1->List (Q4)->Int->Nat->List Nat->Int->Int->Q1->Q3->Q3->Q1->Q3->Q3->Q4->Q1->Q1->Int->Int->Int->Int->Q1->Q3->Q3->Q1->Q3->Q3->Q4->Q1->Q1->Option ((Q4)×Unit))(b9:Q1)(ah:List (Q4))(ba:Int)(bj:Nat)(aM:List Nat)(aD:Int)(aE:Int)(ar:Q1)(au:Q3)(aJ:Q3)(bJ:Q1)(bK:Q3)(aI:Q3)(bL:Q4)(br:Q1)(aV:Q1)(aK:Int)(aL:Int)(aS:Int)(aT:Int)(be:Q1)(bf:Q3)(bM:Q3)(cj:Q1)(ck:Q3)(bG:Q3)(cl:Q4)(cc:Q1)(bt:Q1):Option ((Q4)×Unit):=
  (bif decide ((↑ah.length:Int) > 0)then (Option.bind (idx ah (0:Int)) λ v3=>(bif decide (v3.2.1<=ba)then (bif decide ((0:Int)<=1) && decide ((1:Int)<=(↑ah.length:Int))then r2 b9 (List.drop (Int.toNat (1:Int)) ah) ba bj aM aD aE ar au aJ bJ bK aI bL br aV aK aL aS aT be bf bM cj ck bG cl cc bt else none)else (y7j n r0 (b9) (ah) (ba) (bj) (aM) (aD) (aE) (ar) (au) (aJ) (bJ) (bK) (aI) (bL) (br) (aV) (aK) (aL) (aS) (aT) (be) (bf) (bM) (cj) (ck) (bG) (cl) (cc) (bt))))else (y7j n r0 (b9) (ah) (ba) (bj) (aM) (aD) (aE) (ar) (au) (aJ) (bJ) (bK) (aI) (bL) (br) (aV) (aK) (aL) (aS) (aT) (be) (bf) (bM) (cj) (ck) (bG) (cl) (cc) (bt)))
def y6r(n:Nat)(r0:Q1->List (Q4)->List Nat->Int->Int->Q1->Q3->Q3->Q1->Q3->Q3->Q4->Q1->Q1->Int->Int->Int->Int->Q1->Q3->Q3->Q1->Q3->Q3->Q4->Q1->Q1->Option ((Q4)×Unit))(k:Nat)(b9:Q1)(ah:List (Q4))(ba:Int)(bj:Nat)(aM:List Nat)(aD:Int)(aE:Int)(ar:Q1)(au:Q3)(aJ:Q3)(bJ:Q1)(bK:Q3)(aI:Q3)(bL:Q4)(br:Q1)(aV:Q1)(aK:Int)(aL:Int)(aS:Int)(aT:Int)(be:Q1)(bf:Q3)(bM:Q3)(cj:Q1)(ck:Q3)(bG:Q3)(cl:Q4)(cc:Q1)(bt:Q1):Option ((Q4)×Unit):=
  iter (λ r y=>yFp n r0 (λ b9 ah ba bj aM aD aE ar au aJ bJ bK aI bL br aV aK aL aS aT be bf bM cj ck bG cl cc bt=>r ((b9,(ah,(ba,(bj,(aM,(aD,(aE,()))))))),(((ar,(au,(aJ,(bJ,(bK,(aI,(bL,(br,((aV,()),()))))))))),((aK,(aL,())),((aS,(aT,())),()))),(be,(bf,(bM,(cj,(ck,(bG,(cl,(cc,((bt,()),())))))))))))) y.1.1 y.1.2.1 y.1.2.2.1 y.1.2.2.2.1 y.1.2.2.2.2.1 y.1.2.2.2.2.2.1 y.1.2.2.2.2.2.2.1 y.2.1.1.1 y.2.1.1.2.1 y.2.1.1.2.2.1 y.2.1.1.2.2.2.1 y.2.1.1.2.2.2.2.1 y.2.1.1.2.2.2.2.2.1 y.2.1.1.2.2.2.2.2.2.1 y.2.1.1.2.2.2.2.2.2.2.1 y.2.1.1.2.2.2.2.2.2.2.2.1.1 y.2.1.2.1.1 y.2.1.2.1.2.1 y.2.1.2.2.1.1 y.2.1.2.2.1.2.1 y.2.2.1 y.2.2.2.1 y.2.2.2.2.1 y.2.2.2.2.2.1 y.2.2.2.2.2.2.1 y.2.2.2.2.2.2.2.1 y.2.2.2.2.2.2.2.2.1 y.2.2.2.2.2.2.2.2.2.1 y.2.2.2.2.2.2.2.2.2.2.1.1) k ((b9,(ah,(ba,(bj,(aM,(aD,(aE,()))))))),(((ar,(au,(aJ,(bJ,(bK,(aI,(bL,(br,((aV,()),()))))))))),((aK,(aL,())),((aS,(aT,())),()))),(be,(bf,(bM,(cj,(ck,(bG,(cl,(cc,((bt,()),())))))))))))
def yFa(n:Nat)(r0:Q1->List (Q4)->List Nat->Int->Int->Q1->Q3->Q3->Q1->Q3->Q3->Q4->Q1->Q1->Int->Int->Int->Int->Q1->Q3->Q3->Q1->Q3->Q3->Q4->Q1->Q1->Option ((Q4)×Unit))(az:Q1)(ax:List (Q4))(aj:List Nat)(ak:Int)(aC:Int)(av:Q1)(aw:Q3)(aU:Q3)(bS:Q1)(bT:Q3)(aR:Q3)(bU:Q4)(bz:Q1)(b7:Q1)(aa:Int)(ac:Int)(aZ:Int)(b6:Int)(bm:Q1)(aN:Q3)(bV:Q3)(cu:Q1)(cf:Q3)(bB:Q3)(cw:Q4)(cg:Q1)(bA:Q1):Option ((Q4)×Unit):=
  (bif decide (aC < ak)then (Option.bind (idx aj aC) λ v1=>(y6r n r0 n (az) (ax) (aC) (v1) (aj) (ak) (aC) (av) (aw) (aU) (bS) (bT) (aR) (bU) (bz) (b7) (aa) (ac) (aZ) (b6) (bm) (aN) (bV) (cu) (cf) (bB) (cw) (cg) (bA)))else some ((aZ,b6,()),()))
def y6p(n:Nat)(k:Nat)(az:Q1)(ax:List (Q4))(aj:List Nat)(ak:Int)(aC:Int)(av:Q1)(aw:Q3)(aU:Q3)(bS:Q1)(bT:Q3)(aR:Q3)(bU:Q4)(bz:Q1)(b7:Q1)(aa:Int)(ac:Int)(aZ:Int)(b6:Int)(bm:Q1)(aN:Q3)(bV:Q3)(cu:Q1)(cf:Q3)(bB:Q3)(cw:Q4)(cg:Q1)(bA:Q1):Option ((Q4)×Unit):=
  iter (λ r y=>yFa n (λ az ax aj ak aC av aw aU bS bT aR bU bz b7 aa ac aZ b6 bm aN bV cu cf bB cw cg bA=>r ((az,(ax,(aj,(ak,(aC,()))))),(((av,(aw,(aU,(bS,(bT,(aR,(bU,(bz,((b7,()),()))))))))),((aa,(ac,())),((aZ,(b6,())),()))),(bm,(aN,(bV,(cu,(cf,(bB,(cw,(cg,((bA,()),())))))))))))) y.1.1 y.1.2.1 y.1.2.2.1 y.1.2.2.2.1 y.1.2.2.2.2.1 y.2.1.1.1 y.2.1.1.2.1 y.2.1.1.2.2.1 y.2.1.1.2.2.2.1 y.2.1.1.2.2.2.2.1 y.2.1.1.2.2.2.2.2.1 y.2.1.1.2.2.2.2.2.2.1 y.2.1.1.2.2.2.2.2.2.2.1 y.2.1.1.2.2.2.2.2.2.2.2.1.1 y.2.1.2.1.1 y.2.1.2.1.2.1 y.2.1.2.2.1.1 y.2.1.2.2.1.2.1 y.2.2.1 y.2.2.2.1 y.2.2.2.2.1 y.2.2.2.2.2.1 y.2.2.2.2.2.2.1 y.2.2.2.2.2.2.2.1 y.2.2.2.2.2.2.2.2.1 y.2.2.2.2.2.2.2.2.2.1 y.2.2.2.2.2.2.2.2.2.2.1.1) k ((az,(ax,(aj,(ak,(aC,()))))),(((av,(aw,(aU,(bS,(bT,(aR,(bU,(bz,((b7,()),()))))))))),((aa,(ac,())),((aZ,(b6,())),()))),(bm,(aN,(bV,(cu,(cf,(bB,(cw,(cg,((bA,()),())))))))))))
def yNf(n:Nat)(r1:Q1)(a:Q3)(b:Q3):Option ((Q4)×Unit):=
  (y6p n n (r1) (r1.2.2.2.1) (r1.2.2.1) ((↑r1.2.2.1.length:Int)) ((0:Int)) (r1) (a) (b) (r1) (a) (b) (((0:Int),(0:Int),())) (r1) (r1) ((0:Int)) ((0:Int)) ((0:Int)) ((0:Int)) (r1) (a) (b) (r1) (a) (b) (((0:Int),(0:Int),())) (r1) (r1))
theorem yZM(n:Nat)(x:yUJ.den):runF yYR (yPX n) Tryz.f148 yUJ yWw x=yNf n x.1 x.2.1 x.2.2.1:=by kernel_rfl
def yAO(j8:Q1)(j9:List (Q4))(j10:Int)(j11:Nat)(j12:List Nat)(j13:Int)(j14:Int)(j15:Q1)(j16:Q3)(j17:Q3)(j18:Q1)(j19:Q3)(j20:Q3)(j21:Q4)(j22:Q1)(j23:Q1)(j24:Int)(j25:Int)(j26:Int)(j27:Int)(j28:Q1)(j29:Q3)(j30:Q3)(j31:Q1)(j32:Q3)(j33:Q3)(j34:Q4)(j35:Q1)(j36:Q1):Option (((Q4)×Unit)⊕((List (Q4))×Int×Int)):=
  (bif decide ((↑j9.length:Int) > 0)then (Option.bind (idx j9 (0:Int)) λ v37=>(bif decide (v37.1<=j10)then (some (Sum.inr ((j9),(j26),(j27))))else (Option.bind (yh Go.FloatKind.f32 (y08 Go.BinOp.mul Go.FloatKind.f32 j11 (nat_lit 1098907648)) IntKind.i64) λ v42=>(Option.bind (zT_M j19 (IntKind.i64.wrap (j8.2.1+j10))) λ v43=>(Option.bind (zT_M j20 (IntKind.i64.wrap (j8.2.1+j10))) λ v44=>(some (Sum.inr ((j9),((z1J (j26,j27,()) (z1B (z0A v43.1).1 v44.1).1).1.1),((z1J (j26,j27,()) (z1B (z0A v43.1).1 v44.1).1).1.2.1)))))))))else (Option.bind (yh Go.FloatKind.f32 (y08 Go.BinOp.mul Go.FloatKind.f32 j11 (nat_lit 1098907648)) IntKind.i64) λ v45=>(Option.bind (zT_M j19 (IntKind.i64.wrap (j8.2.1+j10))) λ v46=>(Option.bind (zT_M j20 (IntKind.i64.wrap (j8.2.1+j10))) λ v47=>(some (Sum.inr ((j9),((z1J (j26,j27,()) (z1B (z0A v46.1).1 v47.1).1).1.1),((z1J (j26,j27,()) (z1B (z0A v46.1).1 v47.1).1).1.2.1))))))))
theorem y2o(n:Nat)(hn:big<=n)(r0:Q1->List (Q4)->List Nat->Int->Int->Q1->Q3->Q3->Q1->Q3->Q3->Q4->Q1->Q1->Int->Int->Int->Int->Q1->Q3->Q3->Q1->Q3->Q3->Q4->Q1->Q1->Option ((Q4)×Unit))(j8:Q1)(j9:List (Q4))(j10:Int)(j11:Nat)(j12:List Nat)(j13:Int)(j14:Int)(j15:Q1)(j16:Q3)(j17:Q3)(j18:Q1)(j19:Q3)(j20:Q3)(j21:Q4)(j22:Q1)(j23:Q1)(j24:Int)(j25:Int)(j26:Int)(j27:Int)(j28:Q1)(j29:Q3)(j30:Q3)(j31:Q1)(j32:Q3)(j33:Q3)(j34:Q4)(j35:Q1)(j36:Q1):LeF (elim some λ (a7:((List (Q4))×Int×Int))=>r0 j8 a7.1 j12 j13 (IntKind.i64.wrap (j14+1)) j15 j16 j17 j18 j19 j20 j21 j22 j23 j24 j25 a7.2.1 a7.2.2 j28 j29 j30 j31 j32 j33 j34 j35 j36) (yAO j8 j9 j10 j11 j12 j13 j14 j15 j16 j17 j18 j19 j20 j21 j22 j23 j24 j25 j26 j27 j28 j29 j30 j31 j32 j33 j34 j35 j36) (y7j n r0 j8 j9 j10 j11 j12 j13 j14 j15 j16 j17 j18 j19 j20 j21 j22 j23 j24 j25 j26 j27 j28 j29 j30 j31 j32 j33 j34 j35 j36):=
  (y6 (y8 λ v37=>(y6 (y7 rfl) (y8 λ v42=>(y8 λ v43=>(y8 λ v44=>(y7 rfl)))))) (y8 λ v45=>(y8 λ v46=>(y8 λ v47=>(y7 rfl)))))
def yJs(b9:Q1)(ba:Int)(bj:Nat)(aM:List Nat)(aD:Int)(aE:Int)(ar:Q1)(au:Q3)(aJ:Q3)(bJ:Q1)(bK:Q3)(aI:Q3)(bL:Q4)(br:Q1)(aV:Q1)(aK:Int)(aL:Int)(aS:Int)(aT:Int)(be:Q1)(bf:Q3)(bM:Q3)(cj:Q1)(ck:Q3)(bG:Q3)(cl:Q4)(cc:Q1)(bt:Q1)(ah:List (Q4)):Option ((((Q4)×Unit)⊕((List (Q4))×Int×Int))⊕(List (Q4))):=
  (bif decide ((↑ah.length:Int) > 0)then (Option.bind (idx ah (0:Int)) λ v3=>(bif decide (v3.2.1<=ba)then (bif decide ((0:Int)<=1) && decide ((1:Int)<=(↑ah.length:Int))then (some (Sum.inr (List.drop (Int.toNat (1:Int)) ah)))else none)else (Option.map Sum.inl (yAO (b9) (ah) (ba) (bj) (aM) (aD) (aE) (ar) (au) (aJ) (bJ) (bK) (aI) (bL) (br) (aV) (aK) (aL) (aS) (aT) (be) (bf) (bM) (cj) (ck) (bG) (cl) (cc) (bt)))))else (Option.map Sum.inl (yAO (b9) (ah) (ba) (bj) (aM) (aD) (aE) (ar) (au) (aJ) (bJ) (bK) (aI) (bL) (br) (aV) (aK) (aL) (aS) (aT) (be) (bf) (bM) (cj) (ck) (bG) (cl) (cc) (bt))))
theorem yEt(n:Nat)(hn:big<=n)(r0:Q1->List (Q4)->List Nat->Int->Int->Q1->Q3->Q3->Q1->Q3->Q3->Q4->Q1->Q1->Int->Int->Int->Int->Q1->Q3->Q3->Q1->Q3->Q3->Q4->Q1->Q1->Option ((Q4)×Unit))(b9:Q1)(ba:Int)(bj:Nat)(aM:List Nat)(aD:Int)(aE:Int)(ar:Q1)(au:Q3)(aJ:Q3)(bJ:Q1)(bK:Q3)(aI:Q3)(bL:Q4)(br:Q1)(aV:Q1)(aK:Int)(aL:Int)(aS:Int)(aT:Int)(be:Q1)(bf:Q3)(bM:Q3)(cj:Q1)(ck:Q3)(bG:Q3)(cl:Q4)(cc:Q1)(bt:Q1)(ah:List (Q4)):LeF (elim some λ (a7:((List (Q4))×Int×Int))=>r0 b9 a7.1 aM aD (IntKind.i64.wrap (aE+1)) ar au aJ bJ bK aI bL br aV aK aL a7.2.1 a7.2.2 be bf bM cj ck bG cl cc bt) (y2N (λ a7=>yJs b9 ba bj aM aD aE ar au aJ bJ bK aI bL br aV aK aL aS aT be bf bM cj ck bG cl cc bt a7) wMax ah) (y6r n r0 n b9 ah ba bj aM aD aE ar au aJ bJ bK aI bL br aV aK aL aS aT be bf bM cj ck bG cl cc bt):=by
  refine y3M (f:=(elim some λ (a7:((List (Q4))×Int×Int))=>r0 b9 a7.1 aM aD (IntKind.i64.wrap (aE+1)) ar au aJ bJ bK aI bL br aV aK aL a7.2.1 a7.2.2 be bf bM cj ck bG cl cc bt)) (W:=λ aO a7=>y6r n r0 aO b9 a7 ba bj aM aD aE ar au aJ bJ bK aI bL br aV aK aL aS aT be bf bM cj ck bG cl cc bt) (body:=(λ a7=>yJs b9 ba bj aM aD aE ar au aJ bJ bK aI bL br aV aK aL aS aT be bf bM cj ck bG cl cc bt a7)) (λ aO a7=>?_) wMax n ah (by unfold big at hn;unfold wMax;omega)
  show LeF _ _ (yFp n r0 (y6r n r0 aO) b9 a7 ba bj aM aD aE ar au aJ bJ bK aI bL br aV aK aL aS aT be bf bM cj ck bG cl cc bt)
  exact (y6 (y8 λ v3=>(y6 (y6 (y7 rfl) y01) (yp (by apply y2o n hn)))) (yp (by apply y2o n hn)))
def yFF(az:Q1)(aj:List Nat)(av:Q1)(aw:Q3)(aU:Q3)(bS:Q1)(bT:Q3)(aR:Q3)(bU:Q4)(bz:Q1)(b7:Q1)(aa:Int)(ac:Int)(bm:Q1)(aN:Q3)(bV:Q3)(cu:Q1)(cf:Q3)(bB:Q3)(cw:Q4)(cg:Q1)(bA:Q1)(aC:Int)(v1:Nat)(ax:List (Q4))(aZ:Int)(b6:Int):Option (((Q4)×Unit)⊕((List (Q4))×Int×Int)):=
  (y2N (λ a7=>yJs (az) (aC) (v1) (aj) ((↑aj.length:Int)) (aC) (av) (aw) (aU) (bS) (bT) (aR) (bU) (bz) (b7) (aa) (ac) (aZ) (b6) (bm) (aN) (bV) (cu) (cf) (bB) (cw) (cg) (bA) a7) wMax (ax))
def yKN(az:Q1)(aj:List Nat)(av:Q1)(aw:Q3)(aU:Q3)(bS:Q1)(bT:Q3)(aR:Q3)(bU:Q4)(bz:Q1)(b7:Q1)(aa:Int)(ac:Int)(bm:Q1)(aN:Q3)(bV:Q3)(cu:Q1)(cf:Q3)(bB:Q3)(cw:Q4)(cg:Q1)(bA:Q1)(ax:List (Q4))(aZ:Int)(b6:Int):Option ((Q4)×Unit):=
  (some (((aZ,b6,()),())))
theorem yEi(n:Nat)(hn:big<=n)(az:Q1)(aj:List Nat)(av:Q1)(aw:Q3)(aU:Q3)(bS:Q1)(bT:Q3)(aR:Q3)(bU:Q4)(bz:Q1)(b7:Q1)(aa:Int)(ac:Int)(bm:Q1)(aN:Q3)(bV:Q3)(cu:Q1)(cf:Q3)(bB:Q3)(cw:Q4)(cg:Q1)(bA:Q1)(ax:List (Q4))(aZ:Int)(b6:Int)(hx:List.length (aj) < lenMax):LeF some (yM (λ ai aF a7=>yFF az aj av aw aU bS bT aR bU bz b7 aa ac bm aN bV cu cf bB cw cg bA ai aF a7.1 a7.2.1 a7.2.2) (λ a7=>yKN az aj av aw aU bS bT aR bU bz b7 aa ac bm aN bV cu cf bB cw cg bA a7.1 a7.2.1 a7.2.2) 0 (aj) (ax,aZ,b6)) (y6p n n az ax aj (List.length (aj):Int) 0 av aw aU bS bT aR bU bz b7 aa ac aZ b6 bm aN bV cu cf bB cw cg bA):=by
  refine yQ (f:=some) (W:=λ aO ai a7=>y6p n aO az a7.1 aj (List.length (aj):Int) ai av aw aU bS bT aR bU bz b7 aa ac a7.2.1 a7.2.2 bm aN bV cu cf bB cw cg bA) (body:=(λ ai aF a7=>yFF az aj av aw aU bS bT aR bU bz b7 aa ac bm aN bV cu cf bB cw cg bA ai aF a7.1 a7.2.1 a7.2.2)) (fin:=(λ a7=>yKN az aj av aw aU bS bT aR bU bz b7 aa ac bm aN bV cu cf bB cw cg bA a7.1 a7.2.1 a7.2.2)) (λ aO ai a7=>?_) hx (ax,aZ,b6) n (by unfold big at hn;unfold lenMax at hx;omega)
  show LeF _ _ (yFa n (y6p n aO) az a7.1 aj (List.length (aj):Int) ai av aw aU bS bT aR bU bz b7 aa ac a7.2.1 a7.2.2 bm aN bV cu cf bB cw cg bA)
  exact y6 (y8 λ v1=>(by apply yEt n hn)) (yp (y7 rfl))
def yAi(r1:Q1)(a:Q3)(b:Q3):Option ((Q4)×Unit):=
  (bif decide (List.length (r1.2.2.1) < lenMax)then yM (λ ai aF a7=>yFF (r1) (r1.2.2.1) (r1) (a) (b) (r1) (a) (b) (((0:Int),(0:Int),())) (r1) (r1) ((0:Int)) ((0:Int)) (r1) (a) (b) (r1) (a) (b) (((0:Int),(0:Int),())) (r1) (r1) ai aF a7.1 a7.2.1 a7.2.2) (λ a7=>yKN (r1) (r1.2.2.1) (r1) (a) (b) (r1) (a) (b) (((0:Int),(0:Int),())) (r1) (r1) ((0:Int)) ((0:Int)) (r1) (a) (b) (r1) (a) (b) (((0:Int),(0:Int),())) (r1) (r1) a7.1 a7.2.1 a7.2.2) 0 (r1.2.2.1) ((r1.2.2.2.1),((0:Int)),((0:Int)))else none)
theorem yQU(r1:Q1)(a:Q3)(b:Q3)(y:(Q4)×Unit)(h:yAi r1 a b=some y):∃ n,yNf n r1 a b=some y:=
  ⟨big,LeF.top (show LeF some (yAi r1 a b) (yNf big r1 a b)from (λ (n:Nat) (hn:big<=n)=>show LeF some (yAi r1 a b) (yNf n r1 a b)from (yN λ hx=>by apply yEi n hn;exact hx)) big (Nat.le_refl _)) h⟩
def z16_e:Entry:={ f:=148,args:=yUJ,ress:=yWw,m:=λ x=>yAi x.1 x.2.1 x.2.2.1 }
theorem yKZ:FnOK Tryz.prog z16_e:=yJ (g:=yYR) (fn:=Tryz.f148) yC yI (yA yTM (yA yIs (yA yFs (yA yFG eNil)))) (by kernel_rfl) (by kernel_rfl) (by kernel_rfl) (λ x y h=>let ⟨n,hn⟩:=yQU x.1 x.2.1 x.2.2.1 y h;⟨yPX n,(y4U y4S (y4U y4B iNil)),(yZM n x).trans hn⟩)
abbrev yDr:Ty:=.pair t96 .unit
abbrev yI0:Ty:=.pair t57 .unit
class ref02_det_Rec where
  f:yDr.den->Option yI0.den
section
variable [ref02_det_Rec]
def yBr:Entry:={ f:=150,args:=yDr,ress:=yI0,m:=λ x=>ref02_det_Rec.f x }
def yaa:G:={ T:=T,E:=[yBr,z0c_e,z0x_e],muts:=[5,25],fz:=[40] }
def yeG:List (List Nat):=[[0,2,3,4],[0,2,3,4,5,6]]
def yPQ(n:Nat):Ann:={ keep:=yeG,fuel:=n,inl:=[],deep:=0 }
def yF4(n:Nat)(r0:List (List (Q4))->Int->Int->Int->Int->Int->Option ((Q4)×Unit))(r1:List (List (Q4))->Int->Int->Int->Int->Int->Int->List (List (Q4))->Option ((Q4)×Unit))(cb:List (List (Q4)))(bC:Int)(cF:Int)(bE:Int)(bF:Int)(bp:Int)(bq:Int)(cx:List (List (Q4))):Option ((Q4)×Unit):=
  (bif decide (cF < (↑cb.length:Int))then (Option.bind (idx cb cF) λ v2=>(bif decide ((0:Int)<=bC) && decide (bC<=(↑v2.length:Int))then (bif decide ((0:Nat)+(List.take bC.toNat v2).length<=memMax)then (Option.bind (idx cb cF) λ v3=>(bif decide ((0:Int)<=IntKind.i64.wrap (bC+1)) && decide (IntKind.i64.wrap (bC+1)<=(↑v3.length:Int))then (bif decide ((List.take bC.toNat v2).length+(List.drop (IntKind.i64.wrap (bC+1)).toNat v3).length<=memMax)then (bif decide (cx.length+(1:Nat)<=memMax)then r1 cb bC (IntKind.i64.wrap (cF+1)) bE bF bp bq (cx++[List.take bC.toNat v2++List.drop (IntKind.i64.wrap (bC+1)).toNat v3])else none)else none)else none))else none)else none))else (Option.bind (idx cb (0:Int)) λ v4=>(Option.bind (idx v4 bC) λ v5=>(Option.bind (ref02_det_Rec.f (cx,())) λ v6=>(bif bC.tmod (2:Int)==1 then r0 cb (IntKind.i64.wrap (bC+1)) bE bF (z0x (bp,bq,()) (IntKind.i64.wrap ((0:Int) - (z0c v5 v6.1).1.1),IntKind.i64.wrap ((0:Int) - (z0c v5 v6.1).1.2.1),())).1.1 (z0x (bp,bq,()) (IntKind.i64.wrap ((0:Int) - (z0c v5 v6.1).1.1),IntKind.i64.wrap ((0:Int) - (z0c v5 v6.1).1.2.1),())).1.2.1 else r0 cb (IntKind.i64.wrap (bC+1)) bE bF (z0x (bp,bq,()) ((z0c v5 v6.1).1.1,(z0c v5 v6.1).1.2.1,())).1.1 (z0x (bp,bq,()) ((z0c v5 v6.1).1.1,(z0c v5 v6.1).1.2.1,())).1.2.1)))))
def y75(n:Nat)(r0:List (List (Q4))->Int->Int->Int->Int->Int->Option ((Q4)×Unit))(k:Nat)(cb:List (List (Q4)))(bC:Int)(cF:Int)(bE:Int)(bF:Int)(bp:Int)(bq:Int)(cx:List (List (Q4))):Option ((Q4)×Unit):=
  iter (λ r y=>yF4 n r0 (λ cb bC cF bE bF bp bq cx=>r ((cb,(bC,(cF,()))),(((bE,(bF,())),((bp,(bq,())),(cx,()))),()))) y.1.1 y.1.2.1 y.1.2.2.1 y.2.1.1.1 y.2.1.1.2.1 y.2.1.2.1.1 y.2.1.2.1.2.1 y.2.1.2.2.1) k ((cb,(bC,(cF,()))),(((bE,(bF,())),((bp,(bq,())),(cx,()))),()))
def yG0(n:Nat)(r0:List (List (Q4))->Int->Int->Int->Int->Int->Option ((Q4)×Unit))(aB:List (List (Q4)))(cf:Int)(al:Int)(am:Int)(aa:Int)(ac:Int):Option ((Q4)×Unit):=
  (bif decide (cf < (↑aB.length:Int))then (y75 n r0 n (aB) (cf) ((1:Int)) (al) (am) (aa) (ac) ([]))else some ((aa,ac,()),()))
def y7R(n:Nat)(k:Nat)(aB:List (List (Q4)))(cf:Int)(al:Int)(am:Int)(aa:Int)(ac:Int):Option ((Q4)×Unit):=
  iter (λ r y=>yG0 n (λ aB cf al am aa ac=>r ((aB,(cf,())),(((al,(am,())),((aa,(ac,())),())),()))) y.1.1 y.1.2.1 y.2.1.1.1 y.2.1.1.2.1 y.2.1.2.1.1 y.2.1.2.1.2.1) k ((aB,(cf,())),(((al,(am,())),((aa,(ac,())),())),()))
def yMS(n:Nat)(m:List (List (Q4))):Option ((Q4)×Unit):=
  (bif (↑m.length:Int)==0 then some (((1:Int),(0:Int),()),())else (y7R n n (m) ((0:Int)) ((0:Int)) ((0:Int)) ((0:Int)) ((0:Int))))
theorem yaf(n:Nat)(x:yDr.den):runF yaa (yPQ n) Tryz.f150 yDr yI0 x=yMS n x.1:=by kernel_rfl
def yFP(cb:List (List (Q4)))(bC:Int)(bE:Int)(bF:Int)(bp:Int)(bq:Int)(cF:Int)(cx:List (List (Q4))):Option ((((Q4)×Unit)⊕(Int×Int))⊕(List (List (Q4)))):=
  (Option.bind (idx cb cF) λ v2=>(bif decide ((0:Int)<=bC) && decide (bC<=(↑v2.length:Int))then (bif decide ((0:Nat)+(List.take bC.toNat v2).length<=memMax)then (Option.bind (idx cb cF) λ v3=>(bif decide ((0:Int)<=IntKind.i64.wrap (bC+1)) && decide (IntKind.i64.wrap (bC+1)<=(↑v3.length:Int))then (bif decide ((List.take bC.toNat v2).length+(List.drop (IntKind.i64.wrap (bC+1)).toNat v3).length<=memMax)then (bif decide (cx.length+(1:Nat)<=memMax)then (some (Sum.inr (cx++[List.take bC.toNat v2++List.drop (IntKind.i64.wrap (bC+1)).toNat v3])))else none)else none)else none))else none)else none))
def yGI(cb:List (List (Q4)))(bC:Int)(bE:Int)(bF:Int)(bp:Int)(bq:Int)(cx:List (List (Q4))):Option (((Q4)×Unit)⊕(Int×Int)):=
  (Option.bind (idx cb (0:Int)) λ v4=>(Option.bind (idx v4 bC) λ v5=>(Option.bind (ref02_det_Rec.f (cx,())) λ v6=>(bif bC.tmod (2:Int)==1 then (some (Sum.inr (((z0x (bp,bq,()) (IntKind.i64.wrap ((0:Int) - (z0c v5 v6.1).1.1),IntKind.i64.wrap ((0:Int) - (z0c v5 v6.1).1.2.1),())).1.1),((z0x (bp,bq,()) (IntKind.i64.wrap ((0:Int) - (z0c v5 v6.1).1.1),IntKind.i64.wrap ((0:Int) - (z0c v5 v6.1).1.2.1),())).1.2.1))))else (some (Sum.inr (((z0x (bp,bq,()) ((z0c v5 v6.1).1.1,(z0c v5 v6.1).1.2.1,())).1.1),((z0x (bp,bq,()) ((z0c v5 v6.1).1.1,(z0c v5 v6.1).1.2.1,())).1.2.1))))))))
theorem yEn(n:Nat)(hn:big<=n)(r0:List (List (Q4))->Int->Int->Int->Int->Int->Option ((Q4)×Unit))(cb:List (List (Q4)))(bC:Int)(bE:Int)(bF:Int)(bp:Int)(bq:Int)(cx:List (List (Q4)))(hx:((↑cb.length:Int))<=9223372036854775807):LeF (elim some λ (a7:(Int×Int))=>r0 cb (IntKind.i64.wrap (bC+1)) bE bF a7.1 a7.2) (y0B (λ ai a7=>yFP cb bC bE bF bp bq ai a7) (λ a7=>yGI cb bC bE bF bp bq a7) (((↑cb.length:Int)) - 1).toNat 1 cx) (y75 n r0 n cb bC 1 bE bF bp bq cx):=by
  refine y0X (f:=(elim some λ (a7:(Int×Int))=>r0 cb (IntKind.i64.wrap (bC+1)) bE bF a7.1 a7.2)) (W:=λ aO ai a7=>y75 n r0 aO cb bC ai bE bF bp bq a7) (body:=(λ ai a7=>yFP cb bC bE bF bp bq ai a7)) (fin:=(λ a7=>yGI cb bC bE bF bp bq a7)) (λ aO ai a7=>?_) hx cx n 1 (by decide) (by unfold big at hn;omega)
  show LeF _ _ (yF4 n r0 (y75 n r0 aO) cb bC ai bE bF bp bq a7)
  exact y6 (y8 λ v2=>(y6 (y6 (y8 λ v3=>(y6 (y6 (y6 (y7 rfl) y01) y01) y01)) y01) y01)) (yp (y8 λ v4=>(y8 λ v5=>(y8 λ v6=>(y6 (y7 rfl) (y7 rfl))))))
def y9v(aB:List (List (Q4)))(al:Int)(am:Int)(cf:Int)(aa:Int)(ac:Int):Option (((Q4)×Unit)⊕(Int×Int)):=
  (bif decide (((↑aB.length:Int))<=9223372036854775807)then y0B (λ ai a7=>yFP (aB) (cf) (al) (am) (aa) (ac) ai a7) (λ a7=>yGI (aB) (cf) (al) (am) (aa) (ac) a7) (((↑aB.length:Int)) - 1).toNat 1 ([])else none)
def yGY(aB:List (List (Q4)))(al:Int)(am:Int)(aa:Int)(ac:Int):Option ((Q4)×Unit):=
  (some (((aa,ac,()),())))
theorem yEO(n:Nat)(hn:big<=n)(aB:List (List (Q4)))(al:Int)(am:Int)(aa:Int)(ac:Int)(hx:((↑aB.length:Int))<=9223372036854775807):LeF some (y0B (λ ai a7=>y9v aB al am ai a7.1 a7.2) (λ a7=>yGY aB al am a7.1 a7.2) (((↑aB.length:Int)) - 0).toNat 0 (aa,ac)) (y7R n n aB 0 al am aa ac):=by
  refine y0X (f:=some) (W:=λ aO ai a7=>y7R n aO aB ai al am a7.1 a7.2) (body:=(λ ai a7=>y9v aB al am ai a7.1 a7.2)) (fin:=(λ a7=>yGY aB al am a7.1 a7.2)) (λ aO ai a7=>?_) hx (aa,ac) n 0 (by decide) (by unfold big at hn;omega)
  show LeF _ _ (yG0 n (y7R n aO) aB ai al am a7.1 a7.2)
  exact y6 (yN λ hx=>by apply yEn n hn;exact hx) (yp (y7 rfl))
def yHR(m:List (List (Q4))):Option ((Q4)×Unit):=
  (bif (↑m.length:Int)==0 then (some ((((1:Int),(0:Int),()),())))else (bif decide (((↑m.length:Int))<=9223372036854775807)then y0B (λ ai a7=>y9v (m) ((0:Int)) ((0:Int)) ai a7.1 a7.2) (λ a7=>yGY (m) ((0:Int)) ((0:Int)) a7.1 a7.2) (((↑m.length:Int)) - 0).toNat 0 (((0:Int)),((0:Int)))else none))
theorem yTx(m:List (List (Q4)))(y:(Q4)×Unit)(h:yHR m=some y):∃ n,yMS n m=some y:=
  ⟨big,LeF.top (show LeF some (yHR m) (yMS big m)from (λ (n:Nat) (hn:big<=n)=>show LeF some (yHR m) (yMS n m)from (y6 (y7 rfl) (yN λ hx=>by apply yEO n hn;exact hx))) big (Nat.le_refl _)) h⟩
end
def yz(d:Nat):yDr.den->Option yI0.den:=Nat.rec (motive:=λ _=>yDr.den->Option yI0.den) (λ _=>none) (λ _ ih x=>@yHR ⟨ih⟩ x.1) d
def y3i(d:Nat):Entry:={ f:=150,args:=yDr,ress:=yI0,m:=yz d }
theorem y5X:(d:Nat)->FnOK Tryz.prog (y3i d)
  |0=>FnOK.none (fn:=Tryz.f150) (by kernel_rfl) (by kernel_rfl) (by kernel_rfl)
  |d+1=>yJ (g:=@yaa ⟨yz d⟩) (fn:=Tryz.f150) (e:=y3i (d+1)) yC yI (yA (y5X d) (yA yKf (yA yJI eNil))) (by kernel_rfl) (by kernel_rfl) (by kernel_rfl) (λ x y h=>let ⟨n,hn⟩:=@yTx ⟨yz d⟩ x.1 y h;⟨yPQ n,iNil,(@yaf ⟨yz d⟩ n x).trans hn⟩)
def z1E_e:Entry:=y3i 8
theorem yOT:FnOK Tryz.prog z1E_e:=y5X 8
abbrev yS8:Ty:=.pair t94 (.pair t3 .unit)
abbrev yaN:Ty:=.pair t4 .unit
def yZE:G:={ T:=T,E:=[z1D_e],muts:=[],fz:=[] }
def yd1:List (List Nat):=[]
def yPx(n:Nat):Ann:={ keep:=yd1,fuel:=n,inl:=[],deep:=0 }
def yMx(n:Nat)(r1:Q1)(i:Int):Option (Bool×Unit):=
  (bif decide (i >= 0)then (bif decide (i < (↑r1.2.2.1.length:Int))then (Option.bind (yAS r1.2.2.2.1 i) λ v0=>some (!v0.1,()))else some (Bool.false,()))else some (Bool.false,()))
theorem yai(n:Nat)(x:yS8.den):runF yZE (yPx n) Tryz.f155 yS8 yaN x=yMx n x.1 x.2.1:=by kernel_rfl
def yHW(r1:Q1)(i:Int):Option (Bool×Unit):=yMx 0 r1 i
theorem yTp(r1:Q1)(i:Int)(y:Bool×Unit)(h:yHW r1 i=some y):∃ n,yMx n r1 i=some y:=⟨0,h⟩
def z02_e:Entry:={ f:=155,args:=yS8,ress:=yaN,m:=λ x=>yHW x.1 x.2.1 }
theorem yZp:FnOK Tryz.prog z02_e:=yJ (g:=yZE) (fn:=Tryz.f155) yC yI (yA yOW eNil) (by kernel_rfl) (by kernel_rfl) (by kernel_rfl) (λ x y h=>let ⟨n,hn⟩:=yTp x.1 x.2.1 y h;⟨yPx n,iNil,(yai n x).trans hn⟩)
abbrev zj_a:Ty:=.pair t58 .unit
abbrev zj_r:Ty:=.pair t3 .unit
def zj_g:G:={ T:=T,E:=[zu_e],muts:=[],fz:=[] }
def zj_k:List (List Nat):=[[0,3]]
def yWz(n:Nat):Ann:={ keep:=zj_k,fuel:=n,inl:=[],deep:=0 }
def yJ8(n:Nat)(r0:List (Q4)->Int->Option (Int×Unit))(ay:List (Q4))(bQ:Int):Option (Int×Unit):=
  (bif decide (bQ < (↑ay.length:Int))then (Option.bind (idx ay bQ) λ v1=>(bif (zu v1).1 != 0 then some ((14:Int),())else (bif decide (bQ > 0)then (Option.bind (idx ay bQ) λ v2=>(Option.bind (idx ay (IntKind.i64.wrap (bQ - (1:Int)))) λ v3=>(bif decide (v2.1<=v3.2.1)then some ((11:Int),())else r0 ay (IntKind.i64.wrap (bQ+1)))))else r0 ay (IntKind.i64.wrap (bQ+1)))))else some ((0:Int),()))
def yB9(n:Nat)(k:Nat)(ay:List (Q4))(bQ:Int):Option (Int×Unit):=
  iter (λ r y=>yJ8 n (λ ay bQ=>r ((ay,(bQ,())),((),()))) y.1.1 y.1.2.1) k ((ay,(bQ,())),((),()))
def zj_m(n:Nat)(l:List (Q4)):Option (Int×Unit):=
  (bif decide ((↑l.length:Int) > 2048)then some ((5:Int),())else (yB9 n n (l) ((0:Int))))
theorem yeW(n:Nat)(x:zj_a.den):runF zj_g (yWz n) Tryz.f158 zj_a zj_r x=zj_m n x.1:=by kernel_rfl
def yLG(ay:List (Q4))(bQ:Int)(v1:Q4):Option ((Int×Unit)⊕Unit):=
  (bif (zu v1).1 != 0 then (some (Sum.inl (((14:Int),()))))else (bif decide (bQ > 0)then (Option.bind (idx ay bQ) λ v2=>(Option.bind (idx ay (IntKind.i64.wrap (bQ - (1:Int)))) λ v3=>(bif decide (v2.1<=v3.2.1)then (some (Sum.inl (((11:Int),()))))else (some (Sum.inr ())))))else (some (Sum.inr ()))))
def yLZ(ay:List (Q4)):Option (Int×Unit):=
  (some (((0:Int),())))
theorem yGq(n:Nat)(hn:big<=n)(ay:List (Q4))(hx:List.length (ay) < lenMax):LeF some (yM (λ ai aF a7=>yLG ay ai aF) (λ a7=>yLZ ay) 0 (ay) ()) (yB9 n n ay 0):=by
  refine yQ (f:=some) (W:=λ aO ai a7=>yB9 n aO ay ai) (body:=(λ ai aF a7=>yLG ay ai aF)) (fin:=(λ a7=>yLZ ay)) (λ aO ai a7=>?_) hx () n (by unfold big at hn;unfold lenMax at hx;omega)
  show LeF _ _ (yJ8 n (yB9 n aO) ay ai)
  exact y6 (y8 λ v1=>(y6 (y7 rfl) (y6 (y8 λ v2=>(y8 λ v3=>(y6 (y7 rfl) (y7 rfl)))) (y7 rfl)))) (yp (y7 rfl))
def zj_M(l:List (Q4)):Option (Int×Unit):=
  (bif decide ((↑l.length:Int) > 2048)then (some (((5:Int),())))else (bif decide (List.length (l) < lenMax)then yM (λ ai aF a7=>yLG (l) ai aF) (λ a7=>yLZ (l)) 0 (l) ()else none))
theorem ybE(l:List (Q4))(y:Int×Unit)(h:zj_M l=some y):∃ n,zj_m n l=some y:=
  ⟨big,LeF.top (show LeF some (zj_M l) (zj_m big l)from (λ (n:Nat) (hn:big<=n)=>show LeF some (zj_M l) (zj_m n l)from (y6 (y7 rfl) (yN λ hx=>by apply yGq n hn;exact hx))) big (Nat.le_refl _)) h⟩
def zj_e:Entry:={ f:=158,args:=zj_a,ress:=zj_r,m:=λ x=>zj_M x.1 }
theorem ycO:FnOK Tryz.prog zj_e:=yJ (g:=zj_g) (fn:=Tryz.f158) yC yI (yA ycy eNil) (by kernel_rfl) (by kernel_rfl) (by kernel_rfl) (λ x y h=>let ⟨n,hn⟩:=ybE x.1 y h;⟨yWz n,iNil,(yeW n x).trans hn⟩)
abbrev zA_a:Ty:=.pair t23 (.pair t149 .unit)
abbrev zA_r:Ty:=.pair t4 .unit
def zA_g:G:={ T:=T,E:=[zD_e],muts:=[],fz:=[] }
def zA_k:List (List Nat):=[]
def yX8(n:Nat):Ann:={ keep:=zA_k,fuel:=n,inl:=[],deep:=0 }
def zA_m(n:Nat)(s:List (Q4))(f:(Q4)×Unit->Option (Bool×Unit)):Option (Bool×Unit):=
  (Option.bind (zD_M s f) λ v0=>some (decide (v0.1 >= 0),()))
theorem yc4(n:Nat)(x:zA_a.den):runF zA_g (yX8 n) Tryz.f165 zA_a zA_r x=zA_m n x.1 x.2.1:=by kernel_rfl
def zA_M(s:List (Q4))(f:(Q4)×Unit->Option (Bool×Unit)):Option (Bool×Unit):=zA_m 0 s f
theorem ybR(s:List (Q4))(f:(Q4)×Unit->Option (Bool×Unit))(y:Bool×Unit)(h:zA_M s f=some y):∃ n,zA_m n s f=some y:=⟨0,h⟩
def zA_e:Entry:={ f:=165,args:=zA_a,ress:=zA_r,m:=λ x=>zA_M x.1 x.2.1 }
theorem ycp:FnOK Tryz.prog zA_e:=yJ (g:=zA_g) (fn:=Tryz.f165) yC yI (yA ycf eNil) (by kernel_rfl) (by kernel_rfl) (by kernel_rfl) (λ x y h=>let ⟨n,hn⟩:=ybR x.1 x.2.1 y h;⟨yX8 n,iNil,(yc4 n x).trans hn⟩)
abbrev yRx:Ty:=.pair t31 (.pair t23 (.pair t3 .unit))
abbrev yUx:Ty:=.pair t57 .unit
def yar:G:={ T:=T,E:=[zT_e,z1B_e,z1J_e],muts:=[],fz:=[] }
def yda:List (List Nat):=[[1,2,6,7,11,12,13]]
def yP0(n:Nat):Ann:={ keep:=yda,fuel:=n,inl:=[],deep:=0 }
def yFc(n:Nat)(r0:List (Q4)->Int->List (Q3)->Int->Int->Int->Int->Int->Int->Option ((Q4)×Unit))(co:List (Q4))(bw:Int)(aC:List (Q3))(cH:Int)(ce:Int)(al:Int)(am:Int)(aa:Int)(ac:Int):Option ((Q4)×Unit):=
  (bif decide (ce < cH)then (Option.bind (idx aC ce) λ v1=>(Option.bind (idx co ce) λ v2=>(Option.bind (zT_M (v1.1,v1.2.1,v1.2.2.1,()) bw) λ v3=>r0 co bw aC cH (IntKind.i64.wrap (ce+1)) al am (z1J (aa,ac,()) (z1B v2 v3.1).1).1.1 (z1J (aa,ac,()) (z1B v2 v3.1).1).1.2.1)))else some ((aa,ac,()),()))
def y7Q(n:Nat)(k:Nat)(co:List (Q4))(bw:Int)(aC:List (Q3))(cH:Int)(ce:Int)(al:Int)(am:Int)(aa:Int)(ac:Int):Option ((Q4)×Unit):=
  iter (λ r y=>yFc n (λ co bw aC cH ce al am aa ac=>r ((co,(bw,(aC,(cH,(ce,()))))),(((al,(am,())),((aa,(ac,())),())),()))) y.1.1 y.1.2.1 y.1.2.2.1 y.1.2.2.2.1 y.1.2.2.2.2.1 y.2.1.1.1 y.2.1.1.2.1 y.2.1.2.1.1 y.2.1.2.1.2.1) k ((co,(bw,(aC,(cH,(ce,()))))),(((al,(am,())),((aa,(ac,())),())),()))
def yNX(n:Nat)(l:List (Q3))(v:List (Q4))(tick:Int):Option ((Q4)×Unit):=
  (y7Q n n (v) (tick) (l) ((↑l.length:Int)) ((0:Int)) ((0:Int)) ((0:Int)) ((0:Int)) ((0:Int)))
theorem yWT(n:Nat)(x:yRx.den):runF yar (yP0 n) Tryz.f167 yRx yUx x=yNX n x.1 x.2.1 x.2.2.1:=by kernel_rfl
def y92(co:List (Q4))(bw:Int)(aC:List (Q3))(al:Int)(am:Int)(ce:Int)(v1:Q3)(aa:Int)(ac:Int):Option (((Q4)×Unit)⊕(Int×Int)):=
  (Option.bind (idx co ce) λ v2=>(Option.bind (zT_M (v1.1,v1.2.1,v1.2.2.1,()) bw) λ v3=>(some (Sum.inr (((z1J (aa,ac,()) (z1B v2 v3.1).1).1.1),((z1J (aa,ac,()) (z1B v2 v3.1).1).1.2.1))))))
def yFh(co:List (Q4))(bw:Int)(aC:List (Q3))(al:Int)(am:Int)(aa:Int)(ac:Int):Option ((Q4)×Unit):=
  (some (((aa,ac,()),())))
theorem yDP(n:Nat)(hn:big<=n)(co:List (Q4))(bw:Int)(aC:List (Q3))(al:Int)(am:Int)(aa:Int)(ac:Int)(hx:List.length (aC) < lenMax):LeF some (yM (λ ai aF a7=>y92 co bw aC al am ai aF a7.1 a7.2) (λ a7=>yFh co bw aC al am a7.1 a7.2) 0 (aC) (aa,ac)) (y7Q n n co bw aC (List.length (aC):Int) 0 al am aa ac):=by
  refine yQ (f:=some) (W:=λ aO ai a7=>y7Q n aO co bw aC (List.length (aC):Int) ai al am a7.1 a7.2) (body:=(λ ai aF a7=>y92 co bw aC al am ai aF a7.1 a7.2)) (fin:=(λ a7=>yFh co bw aC al am a7.1 a7.2)) (λ aO ai a7=>?_) hx (aa,ac) n (by unfold big at hn;unfold lenMax at hx;omega)
  show LeF _ _ (yFc n (y7Q n aO) co bw aC (List.length (aC):Int) ai al am a7.1 a7.2)
  exact y6 (y8 λ v1=>(y8 λ v2=>(y8 λ v3=>(y7 rfl)))) (yp (y7 rfl))
def y7y(l:List (Q3))(v:List (Q4))(tick:Int):Option ((Q4)×Unit):=
  (bif decide (List.length (l) < lenMax)then yM (λ ai aF a7=>y92 (v) (tick) (l) ((0:Int)) ((0:Int)) ai aF a7.1 a7.2) (λ a7=>yFh (v) (tick) (l) ((0:Int)) ((0:Int)) a7.1 a7.2) 0 (l) (((0:Int)),((0:Int)))else none)
theorem yUQ(l:List (Q3))(v:List (Q4))(tick:Int)(y:(Q4)×Unit)(h:y7y l v tick=some y):∃ n,yNX n l v tick=some y:=
  ⟨big,LeF.top (show LeF some (y7y l v tick) (yNX big l v tick)from (λ (n:Nat) (hn:big<=n)=>show LeF some (y7y l v tick) (yNX n l v tick)from (yN λ hx=>by apply yDP n hn;exact hx)) big (Nat.le_refl _)) h⟩
def z1C_e:Entry:={ f:=167,args:=yRx,ress:=yUx,m:=λ x=>y7y x.1 x.2.1 x.2.2.1 }
theorem yOU:FnOK Tryz.prog z1C_e:=yJ (g:=yar) (fn:=Tryz.f167) yC yI (yA yTM (yA yFs (yA yFG eNil))) (by kernel_rfl) (by kernel_rfl) (by kernel_rfl) (λ x y h=>let ⟨n,hn⟩:=yUQ x.1 x.2.1 x.2.2.1 y h;⟨yP0 n,iNil,(yWT n x).trans hn⟩)
abbrev yS5:Ty:=.pair t3 (.pair t41 .unit)
abbrev yVc:Ty:=.pair t3 .unit
def ybf:G:={ T:=T,E:=[z0H_e],muts:=[],fz:=[] }
def ybr:List (List Nat):=[[0,7,8,9],[0,6,7,8,9]]
def yQA(n:Nat):Ann:={ keep:=ybr,fuel:=n,inl:=[],deep:=0 }
def yGf(n:Nat)(r0:Int->List Int->Int->Int->Option (Int×Unit))(r2:Int->Int->List Int->Int->Int->Option (Int×Unit))(cE:Int)(cp:Int)(cA:List Int)(cB:Int)(aM:Int):Option (Int×Unit):=
  (bif cp != 0 then (bif cp==0 then none else r2 cp (cE.tmod cp) cA cB aM)else r0 cE cA cB (IntKind.i64.wrap (aM+1)))
def y7E(n:Nat)(r0:Int->List Int->Int->Int->Option (Int×Unit))(k:Nat)(cE:Int)(cp:Int)(cA:List Int)(cB:Int)(aM:Int):Option (Int×Unit):=
  iter (λ r y=>yGf n r0 (λ cE cp cA cB aM=>r ((cE,(cp,(cA,(cB,(aM,()))))),((),()))) y.1.1 y.1.2.1 y.1.2.2.1 y.1.2.2.2.1 y.1.2.2.2.2.1) k ((cE,(cp,(cA,(cB,(aM,()))))),((),()))
def yFg(n:Nat)(r0:Int->List Int->Int->Int->Option (Int×Unit))(cD:Int)(aG:List Int)(a8:Int)(aj:Int):Option (Int×Unit):=
  (bif decide (aj < a8)then (Option.bind (idx aG aj) λ v1=>(y7E n r0 n (cD) ((z0H v1).1) (aG) (a8) (aj)))else some (cD,()))
def y7C(n:Nat)(k:Nat)(cD:Int)(aG:List Int)(a8:Int)(aj:Int):Option (Int×Unit):=
  iter (λ r y=>yFg n (λ cD aG a8 aj=>r ((cD,(aG,(a8,(aj,())))),((),()))) y.1.1 y.1.2.1 y.1.2.2.1 y.1.2.2.2.1) k ((cD,(aG,(a8,(aj,())))),((),()))
def yN6(n:Nat)(n1:Int)(l:List Int):Option (Int×Unit):=
  (y7C n n (n1) (l) ((↑l.length:Int)) ((0:Int)))
theorem yaq(n:Nat)(x:yS5.den):runF ybf (yQA n) Tryz.f186 yS5 yVc x=yN6 n x.1 x.2.1:=by kernel_rfl
def yKH(cA:List Int)(cB:Int)(aM:Int)(cE:Int)(cp:Int):Option (((Int×Unit)⊕(Int))⊕(Int×Int)):=
  (bif cp != 0 then (bif cp==0 then none else (some (Sum.inr ((cp),(cE.tmod cp)))))else (some (Sum.inl (Sum.inr (cE)))))
theorem yDU(n:Nat)(hn:big<=n)(r0:Int->List Int->Int->Int->Option (Int×Unit))(cA:List Int)(cB:Int)(aM:Int)(cE:Int)(cp:Int):LeF (elim some λ (a7:(Int))=>r0 a7 cA cB (IntKind.i64.wrap (aM+1))) (y2N (λ a7=>yKH cA cB aM a7.1 a7.2) wMax (cE,cp)) (y7E n r0 n cE cp cA cB aM):=by
  refine y3M (f:=(elim some λ (a7:(Int))=>r0 a7 cA cB (IntKind.i64.wrap (aM+1)))) (W:=λ aO a7=>y7E n r0 aO a7.1 a7.2 cA cB aM) (body:=(λ a7=>yKH cA cB aM a7.1 a7.2)) (λ aO a7=>?_) wMax n (cE,cp) (by unfold big at hn;unfold wMax;omega)
  show LeF _ _ (yGf n r0 (y7E n r0 aO) a7.1 a7.2 cA cB aM)
  exact (y6 (y6 y01 (y7 rfl)) (y7 rfl))
def yKW(aG:List Int)(aj:Int)(v1:Int)(cD:Int):Option ((Int×Unit)⊕(Int)):=
  (y2N (λ a7=>yKH (aG) ((↑aG.length:Int)) (aj) a7.1 a7.2) wMax ((cD),((z0H v1).1)))
def yJe(aG:List Int)(cD:Int):Option (Int×Unit):=
  (some ((cD,())))
theorem yEd(n:Nat)(hn:big<=n)(aG:List Int)(cD:Int)(hx:List.length (aG) < lenMax):LeF some (yM (λ ai aF a7=>yKW aG ai aF a7) (λ a7=>yJe aG a7) 0 (aG) cD) (y7C n n cD aG (List.length (aG):Int) 0):=by
  refine yQ (f:=some) (W:=λ aO ai a7=>y7C n aO a7 aG (List.length (aG):Int) ai) (body:=(λ ai aF a7=>yKW aG ai aF a7)) (fin:=(λ a7=>yJe aG a7)) (λ aO ai a7=>?_) hx cD n (by unfold big at hn;unfold lenMax at hx;omega)
  show LeF _ _ (yFg n (y7C n aO) a7 aG (List.length (aG):Int) ai)
  exact y6 (y8 λ v1=>(by apply yDU n hn)) (yp (y7 rfl))
def yES(n1:Int)(l:List Int):Option (Int×Unit):=
  (bif decide (List.length (l) < lenMax)then yM (λ ai aF a7=>yKW (l) ai aF a7) (λ a7=>yJe (l) a7) 0 (l) (n1)else none)
theorem yTa(n1:Int)(l:List Int)(y:Int×Unit)(h:yES n1 l=some y):∃ n,yN6 n n1 l=some y:=
  ⟨big,LeF.top (show LeF some (yES n1 l) (yN6 big n1 l)from (λ (n:Nat) (hn:big<=n)=>show LeF some (yES n1 l) (yN6 n n1 l)from (yN λ hx=>by apply yEd n hn;exact hx)) big (Nat.le_refl _)) h⟩
def z0U_e:Entry:={ f:=186,args:=yS5,ress:=yVc,m:=λ x=>yES x.1 x.2.1 }
theorem yPj:FnOK Tryz.prog z0U_e:=yJ (g:=ybf) (fn:=Tryz.f186) yC yI (yA yCi eNil) (by kernel_rfl) (by kernel_rfl) (by kernel_rfl) (λ x y h=>let ⟨n,hn⟩:=yTa x.1 x.2.1 y h;⟨yQA n,iNil,(yaq n x).trans hn⟩)
abbrev yTR:Ty:=.pair t55 (.pair (.ref t60) .unit)
abbrev yYQ:Ty:=.pair t57 .unit
def yZI:G:={ T:=T,E:=[zT_e,z0A_e,z0n_e,z1J_e],muts:=[],fz:=[] }
def ydN:List (List Nat):=[]
def yPc(n:Nat):Ann:={ keep:=ydN,fuel:=n,inl:=[il124,il195],deep:=3 }
def y8E(n:Nat)(r0:Q1->List (Q4)->List Nat->Int->Int->Q3->Q1->Q3->Q4->Q1->Q1->Int->Int->Int->Int->Q3->Q1->Q3->Q4->Q1->Q1->Option ((Q4)×Unit))(j8:Q1)(j9:List (Q4))(j10:Int)(j11:Nat)(j12:List Nat)(j13:Int)(j14:Int)(j15:Q3)(j16:Q1)(j17:Q3)(j18:Q4)(j19:Q1)(j20:Q1)(j21:Int)(j22:Int)(j23:Int)(j24:Int)(j25:Q3)(j26:Q1)(j27:Q3)(j28:Q4)(j29:Q1)(j30:Q1):Option ((Q4)×Unit):=
  (bif decide ((↑j9.length:Int) > 0)then (Option.bind (idx j9 (0:Int)) λ v31=>(bif decide (v31.1<=j10)then r0 j8 j9 j12 j13 (IntKind.i64.wrap (j14+1)) j15 j16 j17 j18 j19 j20 j21 j22 j23 j24 j25 j26 j27 j28 j29 j30 else (Option.bind (yh Go.FloatKind.f32 (y08 Go.BinOp.mul Go.FloatKind.f32 j11 (nat_lit 1098907648)) IntKind.i64) λ v36=>(Option.bind (zT_M j17 (IntKind.i64.wrap (j8.2.1+j10))) λ v37=>r0 j8 j9 j12 j13 (IntKind.i64.wrap (j14+1)) j15 j16 j17 j18 j19 j20 j21 j22 (z1J (j23,j24,()) (z0n (z0A v37.1).1 v36).1).1.1 (z1J (j23,j24,()) (z0n (z0A v37.1).1 v36).1).1.2.1 j25 j26 j27 j28 j29 j30))))else (Option.bind (yh Go.FloatKind.f32 (y08 Go.BinOp.mul Go.FloatKind.f32 j11 (nat_lit 1098907648)) IntKind.i64) λ v38=>(Option.bind (zT_M j17 (IntKind.i64.wrap (j8.2.1+j10))) λ v39=>r0 j8 j9 j12 j13 (IntKind.i64.wrap (j14+1)) j15 j16 j17 j18 j19 j20 j21 j22 (z1J (j23,j24,()) (z0n (z0A v39.1).1 v38).1).1.1 (z1J (j23,j24,()) (z0n (z0A v39.1).1 v38).1).1.2.1 j25 j26 j27 j28 j29 j30)))
def yGT(n:Nat)(r0:Q1->List (Q4)->List Nat->Int->Int->Q3->Q1->Q3->Q4->Q1->Q1->Int->Int->Int->Int->Q3->Q1->Q3->Q4->Q1->Q1->Option ((Q4)×Unit))(r2:Q1->List (Q4)->Int->Nat->List Nat->Int->Int->Q3->Q1->Q3->Q4->Q1->Q1->Int->Int->Int->Int->Q3->Q1->Q3->Q4->Q1->Q1->Option ((Q4)×Unit))(b9:Q1)(ah:List (Q4))(ba:Int)(bj:Nat)(aM:List Nat)(aD:Int)(aE:Int)(ar:Q3)(au:Q1)(aJ:Q3)(bN:Q4)(bO:Q1)(bg:Q1)(aK:Int)(aL:Int)(aS:Int)(aT:Int)(be:Q3)(bf:Q1)(bM:Q3)(cm:Q4)(cn:Q1)(bP:Q1):Option ((Q4)×Unit):=
  (bif decide ((↑ah.length:Int) > 0)then (Option.bind (idx ah (0:Int)) λ v3=>(bif decide (v3.2.1<=ba)then (bif decide ((0:Int)<=1) && decide ((1:Int)<=(↑ah.length:Int))then r2 b9 (List.drop (Int.toNat (1:Int)) ah) ba bj aM aD aE ar au aJ bN bO bg aK aL aS aT be bf bM cm cn bP else none)else (y8E n r0 (b9) (ah) (ba) (bj) (aM) (aD) (aE) (ar) (au) (aJ) (bN) (bO) (bg) (aK) (aL) (aS) (aT) (be) (bf) (bM) (cm) (cn) (bP))))else (y8E n r0 (b9) (ah) (ba) (bj) (aM) (aD) (aE) (ar) (au) (aJ) (bN) (bO) (bg) (aK) (aL) (aS) (aT) (be) (bf) (bM) (cm) (cn) (bP)))
def y7L(n:Nat)(r0:Q1->List (Q4)->List Nat->Int->Int->Q3->Q1->Q3->Q4->Q1->Q1->Int->Int->Int->Int->Q3->Q1->Q3->Q4->Q1->Q1->Option ((Q4)×Unit))(k:Nat)(b9:Q1)(ah:List (Q4))(ba:Int)(bj:Nat)(aM:List Nat)(aD:Int)(aE:Int)(ar:Q3)(au:Q1)(aJ:Q3)(bN:Q4)(bO:Q1)(bg:Q1)(aK:Int)(aL:Int)(aS:Int)(aT:Int)(be:Q3)(bf:Q1)(bM:Q3)(cm:Q4)(cn:Q1)(bP:Q1):Option ((Q4)×Unit):=
  iter (λ r y=>yGT n r0 (λ b9 ah ba bj aM aD aE ar au aJ bN bO bg aK aL aS aT be bf bM cm cn bP=>r ((b9,(ah,(ba,(bj,(aM,(aD,(aE,()))))))),(((ar,(au,(aJ,(bN,(bO,((bg,()),())))))),((aK,(aL,())),((aS,(aT,())),()))),(be,(bf,(bM,(cm,(cn,((bP,()),()))))))))) y.1.1 y.1.2.1 y.1.2.2.1 y.1.2.2.2.1 y.1.2.2.2.2.1 y.1.2.2.2.2.2.1 y.1.2.2.2.2.2.2.1 y.2.1.1.1 y.2.1.1.2.1 y.2.1.1.2.2.1 y.2.1.1.2.2.2.1 y.2.1.1.2.2.2.2.1 y.2.1.1.2.2.2.2.2.1.1 y.2.1.2.1.1 y.2.1.2.1.2.1 y.2.1.2.2.1.1 y.2.1.2.2.1.2.1 y.2.2.1 y.2.2.2.1 y.2.2.2.2.1 y.2.2.2.2.2.1 y.2.2.2.2.2.2.1 y.2.2.2.2.2.2.2.1.1) k ((b9,(ah,(ba,(bj,(aM,(aD,(aE,()))))))),(((ar,(au,(aJ,(bN,(bO,((bg,()),())))))),((aK,(aL,())),((aS,(aT,())),()))),(be,(bf,(bM,(cm,(cn,((bP,()),()))))))))
def yGU(n:Nat)(r0:Q1->List (Q4)->List Nat->Int->Int->Q3->Q1->Q3->Q4->Q1->Q1->Int->Int->Int->Int->Q3->Q1->Q3->Q4->Q1->Q1->Option ((Q4)×Unit))(az:Q1)(ax:List (Q4))(aj:List Nat)(ak:Int)(aC:Int)(av:Q3)(aw:Q1)(aU:Q3)(bW:Q4)(bX:Q1)(bn:Q1)(aa:Int)(ac:Int)(aZ:Int)(b6:Int)(bm:Q3)(aN:Q1)(bV:Q3)(cy:Q4)(cz:Q1)(bY:Q1):Option ((Q4)×Unit):=
  (bif decide (aC < ak)then (Option.bind (idx aj aC) λ v1=>(y7L n r0 n (az) (ax) (aC) (v1) (aj) (ak) (aC) (av) (aw) (aU) (bW) (bX) (bn) (aa) (ac) (aZ) (b6) (bm) (aN) (bV) (cy) (cz) (bY)))else some ((aZ,b6,()),()))
def y6y(n:Nat)(k:Nat)(az:Q1)(ax:List (Q4))(aj:List Nat)(ak:Int)(aC:Int)(av:Q3)(aw:Q1)(aU:Q3)(bW:Q4)(bX:Q1)(bn:Q1)(aa:Int)(ac:Int)(aZ:Int)(b6:Int)(bm:Q3)(aN:Q1)(bV:Q3)(cy:Q4)(cz:Q1)(bY:Q1):Option ((Q4)×Unit):=
  iter (λ r y=>yGU n (λ az ax aj ak aC av aw aU bW bX bn aa ac aZ b6 bm aN bV cy cz bY=>r ((az,(ax,(aj,(ak,(aC,()))))),(((av,(aw,(aU,(bW,(bX,((bn,()),())))))),((aa,(ac,())),((aZ,(b6,())),()))),(bm,(aN,(bV,(cy,(cz,((bY,()),()))))))))) y.1.1 y.1.2.1 y.1.2.2.1 y.1.2.2.2.1 y.1.2.2.2.2.1 y.2.1.1.1 y.2.1.1.2.1 y.2.1.1.2.2.1 y.2.1.1.2.2.2.1 y.2.1.1.2.2.2.2.1 y.2.1.1.2.2.2.2.2.1.1 y.2.1.2.1.1 y.2.1.2.1.2.1 y.2.1.2.2.1.1 y.2.1.2.2.1.2.1 y.2.2.1 y.2.2.2.1 y.2.2.2.2.1 y.2.2.2.2.2.1 y.2.2.2.2.2.2.1 y.2.2.2.2.2.2.2.1.1) k ((az,(ax,(aj,(ak,(aC,()))))),(((av,(aw,(aU,(bW,(bX,((bn,()),())))))),((aa,(ac,())),((aZ,(b6,())),()))),(bm,(aN,(bV,(cy,(cz,((bY,()),()))))))))
def yM9(n:Nat)(c:Q3)(p1:Q1):Option ((Q4)×Unit):=
  (y6y n n (p1) (p1.2.2.2.1) (p1.2.2.1) ((↑p1.2.2.1.length:Int)) ((0:Int)) (c) (p1) (c) (((0:Int),(0:Int),())) (p1) (p1) ((0:Int)) ((0:Int)) ((0:Int)) ((0:Int)) (c) (p1) (c) (((0:Int),(0:Int),())) (p1) (p1))
theorem yXh(n:Nat)(x:yTR.den):runF yZI (yPc n) Tryz.f188 yTR yYQ x=yM9 n x.1 x.2.1:=by kernel_rfl
def yDe(j8:Q1)(j9:List (Q4))(j10:Int)(j11:Nat)(j12:List Nat)(j13:Int)(j14:Int)(j15:Q3)(j16:Q1)(j17:Q3)(j18:Q4)(j19:Q1)(j20:Q1)(j21:Int)(j22:Int)(j23:Int)(j24:Int)(j25:Q3)(j26:Q1)(j27:Q3)(j28:Q4)(j29:Q1)(j30:Q1):Option (((Q4)×Unit)⊕((List (Q4))×Int×Int)):=
  (bif decide ((↑j9.length:Int) > 0)then (Option.bind (idx j9 (0:Int)) λ v31=>(bif decide (v31.1<=j10)then (some (Sum.inr ((j9),(j23),(j24))))else (Option.bind (yh Go.FloatKind.f32 (y08 Go.BinOp.mul Go.FloatKind.f32 j11 (nat_lit 1098907648)) IntKind.i64) λ v36=>(Option.bind (zT_M j17 (IntKind.i64.wrap (j8.2.1+j10))) λ v37=>(some (Sum.inr ((j9),((z1J (j23,j24,()) (z0n (z0A v37.1).1 v36).1).1.1),((z1J (j23,j24,()) (z0n (z0A v37.1).1 v36).1).1.2.1))))))))else (Option.bind (yh Go.FloatKind.f32 (y08 Go.BinOp.mul Go.FloatKind.f32 j11 (nat_lit 1098907648)) IntKind.i64) λ v38=>(Option.bind (zT_M j17 (IntKind.i64.wrap (j8.2.1+j10))) λ v39=>(some (Sum.inr ((j9),((z1J (j23,j24,()) (z0n (z0A v39.1).1 v38).1).1.1),((z1J (j23,j24,()) (z0n (z0A v39.1).1 v38).1).1.2.1)))))))
theorem y2J(n:Nat)(hn:big<=n)(r0:Q1->List (Q4)->List Nat->Int->Int->Q3->Q1->Q3->Q4->Q1->Q1->Int->Int->Int->Int->Q3->Q1->Q3->Q4->Q1->Q1->Option ((Q4)×Unit))(j8:Q1)(j9:List (Q4))(j10:Int)(j11:Nat)(j12:List Nat)(j13:Int)(j14:Int)(j15:Q3)(j16:Q1)(j17:Q3)(j18:Q4)(j19:Q1)(j20:Q1)(j21:Int)(j22:Int)(j23:Int)(j24:Int)(j25:Q3)(j26:Q1)(j27:Q3)(j28:Q4)(j29:Q1)(j30:Q1):LeF (elim some λ (a7:((List (Q4))×Int×Int))=>r0 j8 a7.1 j12 j13 (IntKind.i64.wrap (j14+1)) j15 j16 j17 j18 j19 j20 j21 j22 a7.2.1 a7.2.2 j25 j26 j27 j28 j29 j30) (yDe j8 j9 j10 j11 j12 j13 j14 j15 j16 j17 j18 j19 j20 j21 j22 j23 j24 j25 j26 j27 j28 j29 j30) (y8E n r0 j8 j9 j10 j11 j12 j13 j14 j15 j16 j17 j18 j19 j20 j21 j22 j23 j24 j25 j26 j27 j28 j29 j30):=
  (y6 (y8 λ v31=>(y6 (y7 rfl) (y8 λ v36=>(y8 λ v37=>(y7 rfl))))) (y8 λ v38=>(y8 λ v39=>(y7 rfl))))
def yKQ(b9:Q1)(ba:Int)(bj:Nat)(aM:List Nat)(aD:Int)(aE:Int)(ar:Q3)(au:Q1)(aJ:Q3)(bN:Q4)(bO:Q1)(bg:Q1)(aK:Int)(aL:Int)(aS:Int)(aT:Int)(be:Q3)(bf:Q1)(bM:Q3)(cm:Q4)(cn:Q1)(bP:Q1)(ah:List (Q4)):Option ((((Q4)×Unit)⊕((List (Q4))×Int×Int))⊕(List (Q4))):=
  (bif decide ((↑ah.length:Int) > 0)then (Option.bind (idx ah (0:Int)) λ v3=>(bif decide (v3.2.1<=ba)then (bif decide ((0:Int)<=1) && decide ((1:Int)<=(↑ah.length:Int))then (some (Sum.inr (List.drop (Int.toNat (1:Int)) ah)))else none)else (Option.map Sum.inl (yDe (b9) (ah) (ba) (bj) (aM) (aD) (aE) (ar) (au) (aJ) (bN) (bO) (bg) (aK) (aL) (aS) (aT) (be) (bf) (bM) (cm) (cn) (bP)))))else (Option.map Sum.inl (yDe (b9) (ah) (ba) (bj) (aM) (aD) (aE) (ar) (au) (aJ) (bN) (bO) (bg) (aK) (aL) (aS) (aT) (be) (bf) (bM) (cm) (cn) (bP))))
theorem yDs(n:Nat)(hn:big<=n)(r0:Q1->List (Q4)->List Nat->Int->Int->Q3->Q1->Q3->Q4->Q1->Q1->Int->Int->Int->Int->Q3->Q1->Q3->Q4->Q1->Q1->Option ((Q4)×Unit))(b9:Q1)(ba:Int)(bj:Nat)(aM:List Nat)(aD:Int)(aE:Int)(ar:Q3)(au:Q1)(aJ:Q3)(bN:Q4)(bO:Q1)(bg:Q1)(aK:Int)(aL:Int)(aS:Int)(aT:Int)(be:Q3)(bf:Q1)(bM:Q3)(cm:Q4)(cn:Q1)(bP:Q1)(ah:List (Q4)):LeF (elim some λ (a7:((List (Q4))×Int×Int))=>r0 b9 a7.1 aM aD (IntKind.i64.wrap (aE+1)) ar au aJ bN bO bg aK aL a7.2.1 a7.2.2 be bf bM cm cn bP) (y2N (λ a7=>yKQ b9 ba bj aM aD aE ar au aJ bN bO bg aK aL aS aT be bf bM cm cn bP a7) wMax ah) (y7L n r0 n b9 ah ba bj aM aD aE ar au aJ bN bO bg aK aL aS aT be bf bM cm cn bP):=by
  refine y3M (f:=(elim some λ (a7:((List (Q4))×Int×Int))=>r0 b9 a7.1 aM aD (IntKind.i64.wrap (aE+1)) ar au aJ bN bO bg aK aL a7.2.1 a7.2.2 be bf bM cm cn bP)) (W:=λ aO a7=>y7L n r0 aO b9 a7 ba bj aM aD aE ar au aJ bN bO bg aK aL aS aT be bf bM cm cn bP) (body:=(λ a7=>yKQ b9 ba bj aM aD aE ar au aJ bN bO bg aK aL aS aT be bf bM cm cn bP a7)) (λ aO a7=>?_) wMax n ah (by unfold big at hn;unfold wMax;omega)
  show LeF _ _ (yGT n r0 (y7L n r0 aO) b9 a7 ba bj aM aD aE ar au aJ bN bO bg aK aL aS aT be bf bM cm cn bP)
  exact (y6 (y8 λ v3=>(y6 (y6 (y7 rfl) y01) (yp (by apply y2J n hn)))) (yp (by apply y2J n hn)))
def yKE(az:Q1)(aj:List Nat)(av:Q3)(aw:Q1)(aU:Q3)(bW:Q4)(bX:Q1)(bn:Q1)(aa:Int)(ac:Int)(bm:Q3)(aN:Q1)(bV:Q3)(cy:Q4)(cz:Q1)(bY:Q1)(aC:Int)(v1:Nat)(ax:List (Q4))(aZ:Int)(b6:Int):Option (((Q4)×Unit)⊕((List (Q4))×Int×Int)):=
  (y2N (λ a7=>yKQ (az) (aC) (v1) (aj) ((↑aj.length:Int)) (aC) (av) (aw) (aU) (bW) (bX) (bn) (aa) (ac) (aZ) (b6) (bm) (aN) (bV) (cy) (cz) (bY) a7) wMax (ax))
def yLD(az:Q1)(aj:List Nat)(av:Q3)(aw:Q1)(aU:Q3)(bW:Q4)(bX:Q1)(bn:Q1)(aa:Int)(ac:Int)(bm:Q3)(aN:Q1)(bV:Q3)(cy:Q4)(cz:Q1)(bY:Q1)(ax:List (Q4))(aZ:Int)(b6:Int):Option ((Q4)×Unit):=
  (some (((aZ,b6,()),())))
theorem yDl(n:Nat)(hn:big<=n)(az:Q1)(aj:List Nat)(av:Q3)(aw:Q1)(aU:Q3)(bW:Q4)(bX:Q1)(bn:Q1)(aa:Int)(ac:Int)(bm:Q3)(aN:Q1)(bV:Q3)(cy:Q4)(cz:Q1)(bY:Q1)(ax:List (Q4))(aZ:Int)(b6:Int)(hx:List.length (aj) < lenMax):LeF some (yM (λ ai aF a7=>yKE az aj av aw aU bW bX bn aa ac bm aN bV cy cz bY ai aF a7.1 a7.2.1 a7.2.2) (λ a7=>yLD az aj av aw aU bW bX bn aa ac bm aN bV cy cz bY a7.1 a7.2.1 a7.2.2) 0 (aj) (ax,aZ,b6)) (y6y n n az ax aj (List.length (aj):Int) 0 av aw aU bW bX bn aa ac aZ b6 bm aN bV cy cz bY):=by
  refine yQ (f:=some) (W:=λ aO ai a7=>y6y n aO az a7.1 aj (List.length (aj):Int) ai av aw aU bW bX bn aa ac a7.2.1 a7.2.2 bm aN bV cy cz bY) (body:=(λ ai aF a7=>yKE az aj av aw aU bW bX bn aa ac bm aN bV cy cz bY ai aF a7.1 a7.2.1 a7.2.2)) (fin:=(λ a7=>yLD az aj av aw aU bW bX bn aa ac bm aN bV cy cz bY a7.1 a7.2.1 a7.2.2)) (λ aO ai a7=>?_) hx (ax,aZ,b6) n (by unfold big at hn;unfold lenMax at hx;omega)
  show LeF _ _ (yGU n (y6y n aO) az a7.1 aj (List.length (aj):Int) ai av aw aU bW bX bn aa ac a7.2.1 a7.2.2 bm aN bV cy cz bY)
  exact y6 (y8 λ v1=>(by apply yDs n hn)) (yp (y7 rfl))
def yHS(c:Q3)(p1:Q1):Option ((Q4)×Unit):=
  (bif decide (List.length (p1.2.2.1) < lenMax)then yM (λ ai aF a7=>yKE (p1) (p1.2.2.1) (c) (p1) (c) (((0:Int),(0:Int),())) (p1) (p1) ((0:Int)) ((0:Int)) (c) (p1) (c) (((0:Int),(0:Int),())) (p1) (p1) ai aF a7.1 a7.2.1 a7.2.2) (λ a7=>yLD (p1) (p1.2.2.1) (c) (p1) (c) (((0:Int),(0:Int),())) (p1) (p1) ((0:Int)) ((0:Int)) (c) (p1) (c) (((0:Int),(0:Int),())) (p1) (p1) a7.1 a7.2.1 a7.2.2) 0 (p1.2.2.1) ((p1.2.2.2.1),((0:Int)),((0:Int)))else none)
theorem yQo(c:Q3)(p1:Q1)(y:(Q4)×Unit)(h:yHS c p1=some y):∃ n,yM9 n c p1=some y:=
  ⟨big,LeF.top (show LeF some (yHS c p1) (yM9 big c p1)from (λ (n:Nat) (hn:big<=n)=>show LeF some (yHS c p1) (yM9 n c p1)from (yN λ hx=>by apply yDl n hn;exact hx)) big (Nat.le_refl _)) h⟩
def z0X_e:Entry:={ f:=188,args:=yTR,ress:=yYQ,m:=λ x=>yHS x.1 x.2.1 }
theorem yXd:FnOK Tryz.prog z0X_e:=yJ (g:=yZI) (fn:=Tryz.f188) yC yI (yA yTM (yA yIs (yA yId (yA yFG eNil)))) (by kernel_rfl) (by kernel_rfl) (by kernel_rfl) (λ x y h=>let ⟨n,hn⟩:=yQo x.1 x.2.1 y h;⟨yPc n,(y4U y4S (y4U y4B iNil)),(yXh n x).trans hn⟩)
abbrev zV_a:Ty:=.pair t183 (.pair t3 (.pair t3 .unit))
abbrev zV_r:Ty:=.pair t57 .unit
class tide_matrix_expand_Rec where
  f:zV_a.den->Option zV_r.den
section
variable [tide_matrix_expand_Rec]
def y42:Entry:={ f:=194,args:=zV_a,ress:=zV_r,m:=λ x=>tide_matrix_expand_Rec.f x }
def zV_g:G:={ T:=T,E:=[y42,z1B_e,z0n_e,z1J_e],muts:=[],fz:=[] }
def zV_k:List (List Nat):=[[0,1,2,6,7,8,18,19]]
def ybY(n:Nat):Ann:={ keep:=zV_k,fuel:=n,inl:=[],deep:=0 }
def yIc(n:Nat)(r0:List (List (Q4))->Int->Int->Int->Int->Int->Int->Int->Int->Int->Option ((Q4)×Unit))(aB:List (List (Q4)))(bD:Int)(bi:Int)(bu:Int)(bZ:Int)(cd:Int)(al:Int)(am:Int)(aa:Int)(ac:Int):Option ((Q4)×Unit):=
  (bif decide (cd < bZ)then (bif decide (cd < 0)then none else (bif y1u IntKind.i64 Go.BinOp.and (bi.fdiv ((2:Int) ^ Min.min cd.toNat IntKind.i64.bits)) (1:Int)==1 then r0 aB bD bi bu bZ (IntKind.i64.wrap (cd+1)) al am aa ac else (Option.bind (idx aB bD) λ v1=>(Option.bind (idx v1 cd) λ v2=>(bif decide (cd < 0)then none else (Option.bind (tide_matrix_expand_Rec.f (aB,IntKind.i64.wrap (bD+1),y1u IntKind.i64 Go.BinOp.or bi (IntKind.i64.wrap ((1:Int) * 2 ^ Min.min cd.toNat IntKind.i64.bits)),())) λ v3=>r0 aB bD bi (IntKind.i64.wrap ((0:Int) - bu)) bZ (IntKind.i64.wrap (cd+1)) al am (z1J (aa,ac,()) (z0n (z1B v2 v3.1).1 bu).1).1.1 (z1J (aa,ac,()) (z0n (z1B v2 v3.1).1 bu).1).1.2.1))))))else some ((aa,ac,()),()))
def y9z(n:Nat)(k:Nat)(aB:List (List (Q4)))(bD:Int)(bi:Int)(bu:Int)(bZ:Int)(cd:Int)(al:Int)(am:Int)(aa:Int)(ac:Int):Option ((Q4)×Unit):=
  iter (λ r y=>yIc n (λ aB bD bi bu bZ cd al am aa ac=>r ((aB,(bD,(bi,(bu,(bZ,(cd,())))))),(((al,(am,())),((aa,(ac,())),())),()))) y.1.1 y.1.2.1 y.1.2.2.1 y.1.2.2.2.1 y.1.2.2.2.2.1 y.1.2.2.2.2.2.1 y.2.1.1.1 y.2.1.1.2.1 y.2.1.2.1.1 y.2.1.2.1.2.1) k ((aB,(bD,(bi,(bu,(bZ,(cd,())))))),(((al,(am,())),((aa,(ac,())),())),()))
def zV_m(n:Nat)(m:List (List (Q4)))(row:Int)(used:Int):Option ((Q4)×Unit):=
  (bif row==(↑m.length:Int)then some (((1:Int),(0:Int),()),())else (y9z n n (m) (row) (used) ((1:Int)) ((↑m.length:Int)) ((0:Int)) ((0:Int)) ((0:Int)) ((0:Int)) ((0:Int))))
theorem ye1(n:Nat)(x:zV_a.den):runF zV_g (ybY n) Tryz.f194 zV_a zV_r x=zV_m n x.1 x.2.1 x.2.2.1:=by kernel_rfl
def yBl(aB:List (List (Q4)))(bD:Int)(bi:Int)(bZ:Int)(al:Int)(am:Int)(cd:Int)(bu:Int)(aa:Int)(ac:Int):Option (((Q4)×Unit)⊕(Int×Int×Int)):=
  (bif decide (cd < 0)then none else (bif y1u IntKind.i64 Go.BinOp.and (bi.fdiv ((2:Int) ^ Min.min cd.toNat IntKind.i64.bits)) (1:Int)==1 then (some (Sum.inr ((bu),(aa),(ac))))else (Option.bind (idx aB bD) λ v1=>(Option.bind (idx v1 cd) λ v2=>(bif decide (cd < 0)then none else (Option.bind (tide_matrix_expand_Rec.f (aB,IntKind.i64.wrap (bD+1),y1u IntKind.i64 Go.BinOp.or bi (IntKind.i64.wrap ((1:Int) * 2 ^ Min.min cd.toNat IntKind.i64.bits)),())) λ v3=>(some (Sum.inr ((IntKind.i64.wrap ((0:Int) - bu)),((z1J (aa,ac,()) (z0n (z1B v2 v3.1).1 bu).1).1.1),((z1J (aa,ac,()) (z0n (z1B v2 v3.1).1 bu).1).1.2.1))))))))))
def yMp(aB:List (List (Q4)))(bD:Int)(bi:Int)(bZ:Int)(al:Int)(am:Int)(bu:Int)(aa:Int)(ac:Int):Option ((Q4)×Unit):=
  (some (((aa,ac,()),())))
theorem yHA(n:Nat)(hn:big<=n)(aB:List (List (Q4)))(bD:Int)(bi:Int)(bZ:Int)(al:Int)(am:Int)(bu:Int)(aa:Int)(ac:Int)(hx:(bZ)<=9223372036854775807):LeF some (y0B (λ ai a7=>yBl aB bD bi bZ al am ai a7.1 a7.2.1 a7.2.2) (λ a7=>yMp aB bD bi bZ al am a7.1 a7.2.1 a7.2.2) ((bZ) - 0).toNat 0 (bu,aa,ac)) (y9z n n aB bD bi bu bZ 0 al am aa ac):=by
  refine y0X (f:=some) (W:=λ aO ai a7=>y9z n aO aB bD bi a7.1 bZ ai al am a7.2.1 a7.2.2) (body:=(λ ai a7=>yBl aB bD bi bZ al am ai a7.1 a7.2.1 a7.2.2)) (fin:=(λ a7=>yMp aB bD bi bZ al am a7.1 a7.2.1 a7.2.2)) (λ aO ai a7=>?_) hx (bu,aa,ac) n 0 (by decide) (by unfold big at hn;omega)
  show LeF _ _ (yIc n (y9z n aO) aB bD bi a7.1 bZ ai al am a7.2.1 a7.2.2)
  exact y6 (y6 y01 (y6 (y7 rfl) (y8 λ v1=>(y8 λ v2=>(y6 y01 (y8 λ v3=>(y7 rfl))))))) (yp (y7 rfl))
def zV_M(m:List (List (Q4)))(row:Int)(used:Int):Option ((Q4)×Unit):=
  (bif row==(↑m.length:Int)then (some ((((1:Int),(0:Int),()),())))else (bif decide (((↑m.length:Int))<=9223372036854775807)then y0B (λ ai a7=>yBl (m) (row) (used) ((↑m.length:Int)) ((0:Int)) ((0:Int)) ai a7.1 a7.2.1 a7.2.2) (λ a7=>yMp (m) (row) (used) ((↑m.length:Int)) ((0:Int)) ((0:Int)) a7.1 a7.2.1 a7.2.2) (((↑m.length:Int)) - 0).toNat 0 (((1:Int)),((0:Int)),((0:Int)))else none))
theorem yVb(m:List (List (Q4)))(row:Int)(used:Int)(y:(Q4)×Unit)(h:zV_M m row used=some y):∃ n,zV_m n m row used=some y:=
  ⟨big,LeF.top (show LeF some (zV_M m row used) (zV_m big m row used)from (λ (n:Nat) (hn:big<=n)=>show LeF some (zV_M m row used) (zV_m n m row used)from (y6 (y7 rfl) (yN λ hx=>by apply yHA n hn;exact hx))) big (Nat.le_refl _)) h⟩
end
def yP(d:Nat):zV_a.den->Option zV_r.den:=Nat.rec (motive:=λ _=>zV_a.den->Option zV_r.den) (λ _=>none) (λ _ ih x=>@zV_M ⟨ih⟩ x.1 x.2.1 x.2.2.1) d
def y0j(d:Nat):Entry:={ f:=194,args:=zV_a,ress:=zV_r,m:=yP d }
theorem y1Y:(d:Nat)->FnOK Tryz.prog (y0j d)
  |0=>FnOK.none (fn:=Tryz.f194) (by kernel_rfl) (by kernel_rfl) (by kernel_rfl)
  |d+1=>yJ (g:=@zV_g ⟨yP d⟩) (fn:=Tryz.f194) (e:=y0j (d+1)) yC yI (yA (y1Y d) (yA yFs (yA yId (yA yFG eNil)))) (by kernel_rfl) (by kernel_rfl) (by kernel_rfl) (λ x y h=>let ⟨n,hn⟩:=@yVb ⟨yP d⟩ x.1 x.2.1 x.2.2.1 y h;⟨ybY n,iNil,(@ye1 ⟨yP d⟩ n x).trans hn⟩)
def zV_e:Entry:=y0j 8
theorem ycV:FnOK Tryz.prog zV_e:=y1Y 8
abbrev ze_a:Ty:=.pair t61 .unit
abbrev ze_r:Ty:=.pair t28 .unit
def ze_g:G:={ T:=T,E:=[zg_e,z0q_e],muts:=[],fz:=[] }
def ze_k:List (List Nat):=[]
def yWL(n:Nat):Ann:={ keep:=ze_k,fuel:=n,inl:=[],deep:=0 }
def ze_m(n:Nat)(x1:Nat):Option (Int×Unit):=
  (bif yx Go.BinOp.neq Go.FloatKind.f32 (y08 Go.BinOp.sub Go.FloatKind.f32 x1 x1) (nat_lit 0)then some ((1:Int),())else (bif yx Go.BinOp.lss Go.FloatKind.f32 x1 (nat_lit 3263168512)then some ((3:Int),())else (bif yx Go.BinOp.gtr Go.FloatKind.f32 x1 (nat_lit 1115684864)then some ((3:Int),())else (Option.bind (zg_M x1) λ v2=>some ((z0q (yx Go.BinOp.neq Go.FloatKind.f32 (y17 Go.FloatKind.f32 v2.1) (y08 Go.BinOp.mul Go.FloatKind.f32 x1 (nat_lit 1098907648))) (3:Int)).1,())))))
theorem yea(n:Nat)(x:ze_a.den):runF ze_g (yWL n) Tryz.f197 ze_a ze_r x=ze_m n x.1:=by kernel_rfl
def ze_M(x1:Nat):Option (Int×Unit):=ze_m 0 x1
theorem yag(x1:Nat)(y:Int×Unit)(h:ze_M x1=some y):∃ n,ze_m n x1=some y:=⟨0,h⟩
def ze_e:Entry:={ f:=197,args:=ze_a,ress:=ze_r,m:=λ x=>ze_M x.1 }
theorem yZF:FnOK Tryz.prog ze_e:=yJ (g:=ze_g) (fn:=Tryz.f197) yC yI (yA ydy (yA yD7 eNil)) (by kernel_rfl) (by kernel_rfl) (by kernel_rfl) (λ x y h=>let ⟨n,hn⟩:=yag x.1 y h;⟨yWL n,iNil,(yea n x).trans hn⟩)
abbrev yUX:Ty:=.pair t3 (.pair t3 (.pair t3 .unit))
abbrev yac:Ty:=.pair t28 .unit
def yX4:G:={ T:=T,E:=[z0q_e],muts:=[],fz:=[] }
def yd2:List (List Nat):=[]
def yQC(n:Nat):Ann:={ keep:=yd2,fuel:=n,inl:=[],deep:=0 }
def yOJ(n:Nat)(n1:Int)(least:Int)(most:Int):Option (Int×Unit):=
  (bif decide (n1 < least)then some ((z0q Bool.true (3:Int)).1,())else some ((z0q (decide (n1 > most)) (3:Int)).1,()))
theorem yY2(n:Nat)(x:yUX.den):runF yX4 (yQC n) Tryz.f201 yUX yac x=yOJ n x.1 x.2.1 x.2.2.1:=by kernel_rfl
def z0K(n1:Int)(least:Int)(most:Int):(Int×Unit):=
  (bif decide (n1 < least)then ((z0q Bool.true (3:Int)).1,())else ((z0q (decide (n1 > most)) (3:Int)).1,()))
abbrev yWV (n1:Int) (least:Int) (most:Int):Option (Int×Unit):=some (z0K n1 least most)
theorem ySL(n1:Int)(least:Int)(most:Int)(y:Int×Unit)(h:yWV n1 least most=some y):∃ n,yOJ n n1 least most=some y:=
  ⟨0,by rw[<- h];show yOJ 0 n1 least most=some (z0K n1 least most);unfold yOJ z0K;first|rfl|(simp only[yG];done)|(simp only[yG];rfl)⟩
def z0K_e:Entry:={ f:=201,args:=yUX,ress:=yac,m:=λ x=>yWV x.1 x.2.1 x.2.2.1 }
theorem yan:FnOK Tryz.prog z0K_e:=yJ (g:=yX4) (fn:=Tryz.f201) yC yI (yA yD7 eNil) (by kernel_rfl) (by kernel_rfl) (by kernel_rfl) (λ x y h=>let ⟨n,hn⟩:=ySL x.1 x.2.1 x.2.2.1 y h;⟨yQC n,iNil,(yY2 n x).trans hn⟩)
abbrev zC_a:Ty:=.pair t58 (.pair t263 .unit)
abbrev zC_r:Ty:=.pair t4 .unit
def zC_g:G:={ T:=T,E:=[zF_e],muts:=[],fz:=[] }
def zC_k:List (List Nat):=[]
def yZG(n:Nat):Ann:={ keep:=zC_k,fuel:=n,inl:=[],deep:=0 }
def zC_m(n:Nat)(s:List (Q4))(f:(Q4)×Unit->Option (Bool×Unit)):Option (Bool×Unit):=
  (Option.bind (zF_M s f) λ v0=>some (decide (v0.1 >= 0),()))
theorem ydR(n:Nat)(x:zC_a.den):runF zC_g (yZG n) Tryz.f204 zC_a zC_r x=zC_m n x.1 x.2.1:=by kernel_rfl
def zC_M(s:List (Q4))(f:(Q4)×Unit->Option (Bool×Unit)):Option (Bool×Unit):=zC_m 0 s f
theorem yZy(s:List (Q4))(f:(Q4)×Unit->Option (Bool×Unit))(y:Bool×Unit)(h:zC_M s f=some y):∃ n,zC_m n s f=some y:=⟨0,h⟩
def zC_e:Entry:={ f:=204,args:=zC_a,ress:=zC_r,m:=λ x=>zC_M x.1 x.2.1 }
theorem ydS:FnOK Tryz.prog zC_e:=yJ (g:=zC_g) (fn:=Tryz.f204) yC yI (yA yeq eNil) (by kernel_rfl) (by kernel_rfl) (by kernel_rfl) (λ x y h=>let ⟨n,hn⟩:=yZy x.1 x.2.1 y h;⟨yZG n,iNil,(ydR n x).trans hn⟩)
abbrev zE_a:Ty:=.pair t35 (.pair t265 .unit)
abbrev zE_r:Ty:=.pair t4 .unit
def zE_g:G:={ T:=T,E:=[zG_e],muts:=[],fz:=[] }
def zE_k:List (List Nat):=[]
def ya2(n:Nat):Ann:={ keep:=zE_k,fuel:=n,inl:=[],deep:=0 }
def zE_m(n:Nat)(s:List Nat)(f:Nat×Unit->Option (Bool×Unit)):Option (Bool×Unit):=
  (Option.bind (zG_M s f) λ v0=>some (decide (v0.1 >= 0),()))
theorem yc6(n:Nat)(x:zE_a.den):runF zE_g (ya2 n) Tryz.f207 zE_a zE_r x=zE_m n x.1 x.2.1:=by kernel_rfl
def zE_M(s:List Nat)(f:Nat×Unit->Option (Bool×Unit)):Option (Bool×Unit):=zE_m 0 s f
theorem yUh(s:List Nat)(f:Nat×Unit->Option (Bool×Unit))(y:Bool×Unit)(h:zE_M s f=some y):∃ n,zE_m n s f=some y:=⟨0,h⟩
def zE_e:Entry:={ f:=207,args:=zE_a,ress:=zE_r,m:=λ x=>zE_M x.1 x.2.1 }
theorem yde:FnOK Tryz.prog zE_e:=yJ (g:=zE_g) (fn:=Tryz.f207) yC yI (yA ydc eNil) (by kernel_rfl) (by kernel_rfl) (by kernel_rfl) (λ x y h=>let ⟨n,hn⟩:=yUh x.1 x.2.1 y h;⟨ya2 n,iNil,(yc6 n x).trans hn⟩)
abbrev zr_a:Ty:=.pair t63 .unit
abbrev zr_r:Ty:=.pair t28 .unit
def zr_g:G:={ T:=T,E:=[z0q_e],muts:=[],fz:=[] }
def zr_k:List (List Nat):=[]
def ybW(n:Nat):Ann:={ keep:=zr_k,fuel:=n,inl:=[],deep:=0 }
def zr_m(n:Nat)(s:Q4):Option (Int×Unit):=
  (bif decide (s.1 < 0)then some ((z0q Bool.true (14:Int)).1,())else (bif decide (s.1 >= s.2.1)then some ((z0q Bool.true (14:Int)).1,())else some ((z0q (decide (s.2.1 > 100000)) (14:Int)).1,())))
theorem ydv(n:Nat)(x:zr_a.den):runF zr_g (ybW n) Tryz.f225 zr_a zr_r x=zr_m n x.1:=by kernel_rfl
def zr(s:Q4):(Int×Unit):=
  (bif decide (s.1 < 0)then ((z0q Bool.true (14:Int)).1,())else (bif decide (s.1 >= s.2.1)then ((z0q Bool.true (14:Int)).1,())else ((z0q (decide (s.2.1 > 100000)) (14:Int)).1,())))
abbrev zr_M (s:Q4):Option (Int×Unit):=some (zr s)
theorem yVd(s:Q4)(y:Int×Unit)(h:zr_M s=some y):∃ n,zr_m n s=some y:=
  ⟨0,by rw[<- h];show zr_m 0 s=some (zr s);unfold zr_m zr;first|rfl|(simp only[yG];done)|(simp only[yG];rfl)⟩
def zr_e:Entry:={ f:=225,args:=zr_a,ress:=zr_r,m:=λ x=>zr_M x.1 }
theorem ydQ:FnOK Tryz.prog zr_e:=yJ (g:=zr_g) (fn:=Tryz.f225) yC yI (yA yD7 eNil) (by kernel_rfl) (by kernel_rfl) (by kernel_rfl) (λ x y h=>let ⟨n,hn⟩:=yVd x.1 y h;⟨ybW n,iNil,(ydv n x).trans hn⟩)
end
end Go.Tw
end
