import Derived.Test.YtpcnkpbpcebokaaGreatDoorBT
import Derived.Test.YtpcnkpbpcebokaaGreatDoorB0
import Derived.Test.YtpcnkpbpcebokaaGreatDoorBS
import Derived.Test.YtpcnkpbpcebokaaGreatDoorLQ
set_option linter.all false
section
set_option maxRecDepth 1000000
namespace Go.Tw
open Go.Vx Go.Vx.B Go.Proofs
noncomputable section
abbrev zV_a:Ty:=.pair t23 (.pair t23 .unit)
abbrev zV_r:Ty:=.pair t4 .unit
def zV_g:G:={ T:=T,E:=[],muts:=[],fz:=[] }
def zV_k:List (List Nat):=[[0,1,5]]
def ySr(n:Nat):Ann:={ keep:=zV_k,fuel:=n,inl:=[],deep:=0 }
def yFg(n:Nat)(r0:List (Q3)→List (Q3)→Int→Option (Bool×Unit))(ah:List (Q3))(ai:List (Q3))(ax:Int):Option (Bool×Unit) :=
  (bif decide (ax < (↑ah.length:Int))then (Option.bind (idx ah ax) fun v1=>(Option.bind (idx ai ax) fun v2=>(bif !eqV ((Ty.int IntKind.i64).pair ((Ty.int IntKind.i64).pair Ty.unit)) v1 v2 then some (Bool.false,())else r0 ah ai (IntKind.i64.wrap (ax+1)))))else some (Bool.true,()))
def y8a(n:Nat)(k:Nat)(ah:List (Q3))(ai:List (Q3))(ax:Int):Option (Bool×Unit) :=
  iter (fun r y=>yFg n (fun ah ai ax=>r ((ah,(ai,(ax,()))),((),()))) y.1.1 y.1.2.1 y.1.2.2.1) k ((ah,(ai,(ax,()))),((),()))
def zV_m(n:Nat)(a:List (Q3))(b:List (Q3)):Option (Bool×Unit) :=
  (bif (↑a.length:Int) != (↑b.length:Int)then some (Bool.false,())else (y8a n n (a) (b) ((0:Int))))
theorem yVf(n:Nat)(x:zV_a.den):runF zV_g (ySr n) Tryz.f29 zV_a zV_r x=zV_m n x.1 x.2.1:=by kernel_rfl
def yLn(ah:List (Q3))(ai:List (Q3))(ax:Int)(v1:Q3):Option ((Bool×Unit)⊕Unit) :=
  (Option.bind (idx ai ax) fun v2=>(bif !eqV ((Ty.int IntKind.i64).pair ((Ty.int IntKind.i64).pair Ty.unit)) v1 v2 then (some (Sum.inl ((Bool.false,()))))else (some (Sum.inr ()))))
def yNL(ah:List (Q3))(ai:List (Q3)):Option (Bool×Unit) :=
  (some ((Bool.true,())))
theorem yEo(n:Nat)(hn:big≤n)(ah:List (Q3))(ai:List (Q3))(hx:List.length (ah) < lenMax):LeF some (yP (fun i__ e__ s__=>yLn ah ai i__ e__) (fun s__=>yNL ah ai) 0 (ah) ()) (y8a n n ah ai 0):=by
  refine yM (f:=some) (W:=fun k__ i__ s__=>y8a n k__ ah ai i__) (body:=(fun i__ e__ s__=>yLn ah ai i__ e__)) (fin:=(fun s__=>yNL ah ai)) (fun k__ i__ s__=>?_) hx () n (by unfold big at hn;unfold lenMax at hx;omega)
  show LeF _ _ (yFg n (y8a n k__) ah ai i__)
  exact y5 (y7 fun v1=>(y7 fun v2=>(y5 (y6 rfl) (y6 rfl)))) (yq (y6 rfl))
def zV_M(a:List (Q3))(b:List (Q3)):Option (Bool×Unit) :=
  (bif (↑a.length:Int) != (↑b.length:Int)then (some ((Bool.false,())))else (bif decide (List.length (a) < lenMax)then yP (fun i__ e__ s__=>yLn (a) (b) i__ e__) (fun s__=>yNL (a) (b)) 0 (a) ()else none))
theorem yTD(a:List (Q3))(b:List (Q3))(y:Bool×Unit)(h:zV_M a b=some y):∃ n,zV_m n a b=some y :=
  ⟨big,LeF.top (show LeF some (zV_M a b) (zV_m big a b)from (fun (n:Nat) (hn:big≤n)=>show LeF some (zV_M a b) (zV_m n a b)from (y5 (y6 rfl) (yL fun hx=>by apply yEo n hn;exact hx))) big (Nat.le_refl _)) h⟩
def zV_e:Entry:={ f:=29,args:=zV_a,ress:=zV_r,m:=fun x=>zV_M x.1 x.2.1 }
theorem yPq:FnOK Tryz.prog zV_e:=yO (g:=zV_g) (fn:=Tryz.f29) yD yK eNil (by kernel_rfl) (by kernel_rfl) (by kernel_rfl) (fun x y h=>let ⟨n,hn⟩:=yTD x.1 x.2.1 y h;⟨ySr n,iNil,(yVf n x).trans hn⟩)
abbrev zb_a:Ty:=.pair t35 (.pair t35 .unit)
abbrev zb_r:Ty:=.pair t4 .unit
def zb_g:G:={ T:=T,E:=[],muts:=[],fz:=[] }
def zb_k:List (List Nat):=[[0,1,5]]
def ySU(n:Nat):Ann:={ keep:=zb_k,fuel:=n,inl:=[],deep:=0 }
def yG8(n:Nat)(r0:List Nat→List Nat→Int→Option (Bool×Unit))(ah:List Nat)(ai:List Nat)(ax:Int):Option (Bool×Unit) :=
  (bif decide (ax < (↑ah.length:Int))then (Option.bind (idx ah ax) fun v1=>(Option.bind (idx ai ax) fun v2=>(bif yR Go.BinOp.neq Go.FloatKind.f32 v1 v2 then some (Bool.false,())else r0 ah ai (IntKind.i64.wrap (ax+1)))))else some (Bool.true,()))
def y9N(n:Nat)(k:Nat)(ah:List Nat)(ai:List Nat)(ax:Int):Option (Bool×Unit) :=
  iter (fun r y=>yG8 n (fun ah ai ax=>r ((ah,(ai,(ax,()))),((),()))) y.1.1 y.1.2.1 y.1.2.2.1) k ((ah,(ai,(ax,()))),((),()))
def zb_m(n:Nat)(a:List Nat)(b:List Nat):Option (Bool×Unit) :=
  (bif (↑a.length:Int) != (↑b.length:Int)then some (Bool.false,())else (y9N n n (a) (b) ((0:Int))))
theorem yTz(n:Nat)(x:zb_a.den):runF zb_g (ySU n) Tryz.f30 zb_a zb_r x=zb_m n x.1 x.2.1:=by kernel_rfl
def yNs(ah:List Nat)(ai:List Nat)(ax:Int)(v1:Nat):Option ((Bool×Unit)⊕Unit) :=
  (Option.bind (idx ai ax) fun v2=>(bif yR Go.BinOp.neq Go.FloatKind.f32 v1 v2 then (some (Sum.inl ((Bool.false,()))))else (some (Sum.inr ()))))
def yNw(ah:List Nat)(ai:List Nat):Option (Bool×Unit) :=
  (some ((Bool.true,())))
theorem yFI(n:Nat)(hn:big≤n)(ah:List Nat)(ai:List Nat)(hx:List.length (ah) < lenMax):LeF some (yP (fun i__ e__ s__=>yNs ah ai i__ e__) (fun s__=>yNw ah ai) 0 (ah) ()) (y9N n n ah ai 0):=by
  refine yM (f:=some) (W:=fun k__ i__ s__=>y9N n k__ ah ai i__) (body:=(fun i__ e__ s__=>yNs ah ai i__ e__)) (fin:=(fun s__=>yNw ah ai)) (fun k__ i__ s__=>?_) hx () n (by unfold big at hn;unfold lenMax at hx;omega)
  show LeF _ _ (yG8 n (y9N n k__) ah ai i__)
  exact y5 (y7 fun v1=>(y7 fun v2=>(y5 (y6 rfl) (y6 rfl)))) (yq (y6 rfl))
def zb_M(a:List Nat)(b:List Nat):Option (Bool×Unit) :=
  (bif (↑a.length:Int) != (↑b.length:Int)then (some ((Bool.false,())))else (bif decide (List.length (a) < lenMax)then yP (fun i__ e__ s__=>yNs (a) (b) i__ e__) (fun s__=>yNw (a) (b)) 0 (a) ()else none))
theorem yPB(a:List Nat)(b:List Nat)(y:Bool×Unit)(h:zb_M a b=some y):∃ n,zb_m n a b=some y :=
  ⟨big,LeF.top (show LeF some (zb_M a b) (zb_m big a b)from (fun (n:Nat) (hn:big≤n)=>show LeF some (zb_M a b) (zb_m n a b)from (y5 (y6 rfl) (yL fun hx=>by apply yFI n hn;exact hx))) big (Nat.le_refl _)) h⟩
def zb_e:Entry:={ f:=30,args:=zb_a,ress:=zb_r,m:=fun x=>zb_M x.1 x.2.1 }
theorem yUg:FnOK Tryz.prog zb_e:=yO (g:=zb_g) (fn:=Tryz.f30) yD yK eNil (by kernel_rfl) (by kernel_rfl) (by kernel_rfl) (fun x y h=>let ⟨n,hn⟩:=yPB x.1 x.2.1 y h;⟨ySU n,iNil,(yTz n x).trans hn⟩)
abbrev zn_a:Ty:=.pair t79 (.pair t79 .unit)
abbrev zn_r:Ty:=.pair t4 .unit
def zn_g:G:={ T:=T,E:=[],muts:=[],fz:=[] }
def zn_k:List (List Nat):=[[0,1,5]]
def yRG(n:Nat):Ann:={ keep:=zn_k,fuel:=n,inl:=[],deep:=0 }
def yGV(n:Nat)(r0:List (Nat×Nat)→List (Nat×Nat)→Int→Option (Bool×Unit))(ah:List (Nat×Nat))(ai:List (Nat×Nat))(ax:Int):Option (Bool×Unit) :=
  (bif decide (ax < (↑ah.length:Int))then (Option.bind (idx ah ax) fun v1=>(Option.bind (idx ai ax) fun v2=>(bif !y8J Go.FloatKind.f32 v1 v2 then some (Bool.false,())else r0 ah ai (IntKind.i64.wrap (ax+1)))))else some (Bool.true,()))
def y8h(n:Nat)(k:Nat)(ah:List (Nat×Nat))(ai:List (Nat×Nat))(ax:Int):Option (Bool×Unit) :=
  iter (fun r y=>yGV n (fun ah ai ax=>r ((ah,(ai,(ax,()))),((),()))) y.1.1 y.1.2.1 y.1.2.2.1) k ((ah,(ai,(ax,()))),((),()))
def zn_m(n:Nat)(a:List (Nat×Nat))(b:List (Nat×Nat)):Option (Bool×Unit) :=
  (bif (↑a.length:Int) != (↑b.length:Int)then some (Bool.false,())else (y8h n n (a) (b) ((0:Int))))
theorem yVk(n:Nat)(x:zn_a.den):runF zn_g (yRG n) Tryz.f53 zn_a zn_r x=zn_m n x.1 x.2.1:=by kernel_rfl
def yMR(ah:List (Nat×Nat))(ai:List (Nat×Nat))(ax:Int)(v1:Nat×Nat):Option ((Bool×Unit)⊕Unit) :=
  (Option.bind (idx ai ax) fun v2=>(bif !y8J Go.FloatKind.f32 v1 v2 then (some (Sum.inl ((Bool.false,()))))else (some (Sum.inr ()))))
def yLq(ah:List (Nat×Nat))(ai:List (Nat×Nat)):Option (Bool×Unit) :=
  (some ((Bool.true,())))
theorem yFW(n:Nat)(hn:big≤n)(ah:List (Nat×Nat))(ai:List (Nat×Nat))(hx:List.length (ah) < lenMax):LeF some (yP (fun i__ e__ s__=>yMR ah ai i__ e__) (fun s__=>yLq ah ai) 0 (ah) ()) (y8h n n ah ai 0):=by
  refine yM (f:=some) (W:=fun k__ i__ s__=>y8h n k__ ah ai i__) (body:=(fun i__ e__ s__=>yMR ah ai i__ e__)) (fin:=(fun s__=>yLq ah ai)) (fun k__ i__ s__=>?_) hx () n (by unfold big at hn;unfold lenMax at hx;omega)
  show LeF _ _ (yGV n (y8h n k__) ah ai i__)
  exact y5 (y7 fun v1=>(y7 fun v2=>(y5 (y6 rfl) (y6 rfl)))) (yq (y6 rfl))
def zn_M(a:List (Nat×Nat))(b:List (Nat×Nat)):Option (Bool×Unit) :=
  (bif (↑a.length:Int) != (↑b.length:Int)then (some ((Bool.false,())))else (bif decide (List.length (a) < lenMax)then yP (fun i__ e__ s__=>yMR (a) (b) i__ e__) (fun s__=>yLq (a) (b)) 0 (a) ()else none))
theorem yOf(a:List (Nat×Nat))(b:List (Nat×Nat))(y:Bool×Unit)(h:zn_M a b=some y):∃ n,zn_m n a b=some y :=
  ⟨big,LeF.top (show LeF some (zn_M a b) (zn_m big a b)from (fun (n:Nat) (hn:big≤n)=>show LeF some (zn_M a b) (zn_m n a b)from (y5 (y6 rfl) (yL fun hx=>by apply yFW n hn;exact hx))) big (Nat.le_refl _)) h⟩
def zn_e:Entry:={ f:=53,args:=zn_a,ress:=zn_r,m:=fun x=>zn_M x.1 x.2.1 }
theorem yVl:FnOK Tryz.prog zn_e:=yO (g:=zn_g) (fn:=Tryz.f53) yD yK eNil (by kernel_rfl) (by kernel_rfl) (by kernel_rfl) (fun x y h=>let ⟨n,hn⟩:=yOf x.1 x.2.1 y h;⟨yRG n,iNil,(yVk n x).trans hn⟩)
abbrev zi_a:Ty:=.pair t100 (.pair t100 .unit)
abbrev zi_r:Ty:=.pair t4 .unit
def zi_g:G:={ T:=T,E:=[],muts:=[],fz:=[] }
def zi_k:List (List Nat):=[[0,1,5]]
def yQg(n:Nat):Ann:={ keep:=zi_k,fuel:=n,inl:=[],deep:=0 }
def yIb(n:Nat)(r0:List (List Int)→List (List Int)→Int→Option (Bool×Unit))(ah:List (List Int))(ai:List (List Int))(ax:Int):Option (Bool×Unit) :=
  (bif decide (ax < (↑ah.length:Int))then (Option.bind (idx ah ax) fun v1=>(Option.bind (idx ai ax) fun v2=>(bif !eqV (Ty.arr (2:Nat) (Ty.int IntKind.i64)) v1 v2 then some (Bool.false,())else r0 ah ai (IntKind.i64.wrap (ax+1)))))else some (Bool.true,()))
def y9L(n:Nat)(k:Nat)(ah:List (List Int))(ai:List (List Int))(ax:Int):Option (Bool×Unit) :=
  iter (fun r y=>yIb n (fun ah ai ax=>r ((ah,(ai,(ax,()))),((),()))) y.1.1 y.1.2.1 y.1.2.2.1) k ((ah,(ai,(ax,()))),((),()))
def zi_m(n:Nat)(a:List (List Int))(b:List (List Int)):Option (Bool×Unit) :=
  (bif (↑a.length:Int) != (↑b.length:Int)then some (Bool.false,())else (y9L n n (a) (b) ((0:Int))))
theorem yUS(n:Nat)(x:zi_a.den):runF zi_g (yQg n) Tryz.f66 zi_a zi_r x=zi_m n x.1 x.2.1:=by kernel_rfl
def yMG(ah:List (List Int))(ai:List (List Int))(ax:Int)(v1:List Int):Option ((Bool×Unit)⊕Unit) :=
  (Option.bind (idx ai ax) fun v2=>(bif !eqV (Ty.arr (2:Nat) (Ty.int IntKind.i64)) v1 v2 then (some (Sum.inl ((Bool.false,()))))else (some (Sum.inr ()))))
def yNG(ah:List (List Int))(ai:List (List Int)):Option (Bool×Unit) :=
  (some ((Bool.true,())))
theorem yEf(n:Nat)(hn:big≤n)(ah:List (List Int))(ai:List (List Int))(hx:List.length (ah) < lenMax):LeF some (yP (fun i__ e__ s__=>yMG ah ai i__ e__) (fun s__=>yNG ah ai) 0 (ah) ()) (y9L n n ah ai 0):=by
  refine yM (f:=some) (W:=fun k__ i__ s__=>y9L n k__ ah ai i__) (body:=(fun i__ e__ s__=>yMG ah ai i__ e__)) (fin:=(fun s__=>yNG ah ai)) (fun k__ i__ s__=>?_) hx () n (by unfold big at hn;unfold lenMax at hx;omega)
  show LeF _ _ (yIb n (y9L n k__) ah ai i__)
  exact y5 (y7 fun v1=>(y7 fun v2=>(y5 (y6 rfl) (y6 rfl)))) (yq (y6 rfl))
def zi_M(a:List (List Int))(b:List (List Int)):Option (Bool×Unit) :=
  (bif (↑a.length:Int) != (↑b.length:Int)then (some ((Bool.false,())))else (bif decide (List.length (a) < lenMax)then yP (fun i__ e__ s__=>yMG (a) (b) i__ e__) (fun s__=>yNG (a) (b)) 0 (a) ()else none))
theorem yTA(a:List (List Int))(b:List (List Int))(y:Bool×Unit)(h:zi_M a b=some y):∃ n,zi_m n a b=some y :=
  ⟨big,LeF.top (show LeF some (zi_M a b) (zi_m big a b)from (fun (n:Nat) (hn:big≤n)=>show LeF some (zi_M a b) (zi_m n a b)from (y5 (y6 rfl) (yL fun hx=>by apply yEf n hn;exact hx))) big (Nat.le_refl _)) h⟩
def zi_e:Entry:={ f:=66,args:=zi_a,ress:=zi_r,m:=fun x=>zi_M x.1 x.2.1 }
theorem yVU:FnOK Tryz.prog zi_e:=yO (g:=zi_g) (fn:=Tryz.f66) yD yK eNil (by kernel_rfl) (by kernel_rfl) (by kernel_rfl) (fun x y h=>let ⟨n,hn⟩:=yTA x.1 x.2.1 y h;⟨yQg n,iNil,(yUS n x).trans hn⟩)
abbrev yOA:Ty:=.pair t35 (.pair t61 .unit)
abbrev yP0:Ty:=.pair t41 .unit
def yP1:G:={ T:=T,E:=[],muts:=[5],fz:=[] }
def yTu:List (List Nat):=[[0,1,5,6],[0,1,5,6,7]]
def yKs(n:Nat):Ann:={ keep:=yTu,fuel:=n,inl:=[],deep:=0 }
def y7O(n:Nat)(r0:List Nat→Nat→Int→List Int→Option (List Int×Unit))(j8:List Nat)(j9:Nat)(j10:Int)(j11:Int)(j12:List Int):Option (List Int×Unit) :=
  (bif decide (j11 < (↑j8.length:Int))then (Option.bind (idx j8 (IntKind.i64.wrap (j10 - (1:Int)))) fun v13=>(Option.bind (idx j8 j10) fun v14=>(bif yR Go.BinOp.lss Go.FloatKind.f32 (yh Go.BinOp.mul Go.FloatKind.f32 j9 v13) (yh Go.BinOp.mul Go.FloatKind.f32 j9 v14)then (Option.bind (idx j8 j11) fun v15=>(Option.bind (idx j8 j10) fun v16=>(bif yR Go.BinOp.lss Go.FloatKind.f32 (yh Go.BinOp.mul Go.FloatKind.f32 j9 v15) (yh Go.BinOp.mul Go.FloatKind.f32 j9 v16)then (bif decide (j12.length+(1:Nat)≤memMax)then r0 j8 j9 (IntKind.i64.wrap (j10+1)) (j12++[j10])else none)else r0 j8 j9 (IntKind.i64.wrap (j10+1)) j12)))else r0 j8 j9 (IntKind.i64.wrap (j10+1)) j12)))else r0 j8 j9 (IntKind.i64.wrap (j10+1)) j12)
def yDb(n:Nat)(r0:List Nat→Nat→Int→List Int→Option (List Int×Unit))(r1:List Nat→Nat→Int→Int→List Int→Option (List Int×Unit))(b5:List Nat)(aI:Nat)(b6:Int)(b7:Int)(bh:List Int):Option (List Int×Unit) :=
  (bif decide (b7 < (↑b5.length:Int))then (Option.bind (idx b5 b7) fun v2=>(Option.bind (idx b5 b6) fun v3=>(bif yR Go.BinOp.eql Go.FloatKind.f32 v2 v3 then r1 b5 aI b6 (IntKind.i64.wrap (b7+1)) bh else (y7O n r0 (b5) (aI) (b6) (b7) (bh)))))else (y7O n r0 (b5) (aI) (b6) (b7) (bh)))
def y63(n:Nat)(r0:List Nat→Nat→Int→List Int→Option (List Int×Unit))(k:Nat)(b5:List Nat)(aI:Nat)(b6:Int)(b7:Int)(bh:List Int):Option (List Int×Unit) :=
  iter (fun r y=>yDb n r0 (fun b5 aI b6 b7 bh=>r ((b5,(aI,(b6,(b7,())))),((bh,()),()))) y.1.1 y.1.2.1 y.1.2.2.1 y.1.2.2.2.1 y.2.1.1) k ((b5,(aI,(b6,(b7,())))),((bh,()),()))
def yDl(n:Nat)(r0:List Nat→Nat→Int→List Int→Option (List Int×Unit))(b8:List Nat)(aO:Nat)(bw:Int)(aa:List Int):Option (List Int×Unit) :=
  (bif decide (bw < (↑b8.length:Int))then (y63 n r0 n (b8) (aO) (bw) (bw) (aa))else some (aa,()))
def y6C(n:Nat)(k:Nat)(b8:List Nat)(aO:Nat)(bw:Int)(aa:List Int):Option (List Int×Unit) :=
  iter (fun r y=>yDl n (fun b8 aO bw aa=>r ((b8,(aO,(bw,()))),((aa,()),()))) y.1.1 y.1.2.1 y.1.2.2.1 y.2.1.1) k ((b8,(aO,(bw,()))),((aa,()),()))
def yJg(n:Nat)(l:List Nat)(sign:Nat):Option (List Int×Unit) :=
  (y6C n n (l) (sign) ((1:Int)) ([]))
theorem yTR(n:Nat)(x:yOA.den):runF yP1 (yKs n) Tryz.f74 yOA yP0 x=yJg n x.1 x.2.1:=by kernel_rfl
def yCb(j8:List Nat)(j9:Nat)(j10:Int)(j11:Int)(j12:List Int):Option ((List Int×Unit)⊕(List Int)) :=
  (bif decide (j11 < (↑j8.length:Int))then (Option.bind (idx j8 (IntKind.i64.wrap (j10 - (1:Int)))) fun v13=>(Option.bind (idx j8 j10) fun v14=>(bif yR Go.BinOp.lss Go.FloatKind.f32 (yh Go.BinOp.mul Go.FloatKind.f32 j9 v13) (yh Go.BinOp.mul Go.FloatKind.f32 j9 v14)then (Option.bind (idx j8 j11) fun v15=>(Option.bind (idx j8 j10) fun v16=>(bif yR Go.BinOp.lss Go.FloatKind.f32 (yh Go.BinOp.mul Go.FloatKind.f32 j9 v15) (yh Go.BinOp.mul Go.FloatKind.f32 j9 v16)then (bif decide (j12.length+(1:Nat)≤memMax)then (some (Sum.inr (j12++[j10])))else none)else (some (Sum.inr (j12))))))else (some (Sum.inr (j12))))))else (some (Sum.inr (j12))))
theorem y1v(n:Nat)(hn:big≤n)(r0:List Nat→Nat→Int→List Int→Option (List Int×Unit))(j8:List Nat)(j9:Nat)(j10:Int)(j11:Int)(j12:List Int):LeF (elim some fun (s__:(List Int))=>r0 j8 j9 (IntKind.i64.wrap (j10+1)) s__) (yCb j8 j9 j10 j11 j12) (y7O n r0 j8 j9 j10 j11 j12) :=
  (y5 (y7 fun v13=>(y7 fun v14=>(y5 (y7 fun v15=>(y7 fun v16=>(y5 (y5 (y6 rfl) yY) (y6 rfl)))) (y6 rfl)))) (y6 rfl))
def yHa(b5:List Nat)(aI:Nat)(b6:Int)(bh:List Int)(b7:Int):Option (((List Int×Unit)⊕(List Int))⊕(Int)) :=
  (bif decide (b7 < (↑b5.length:Int))then (Option.bind (idx b5 b7) fun v2=>(Option.bind (idx b5 b6) fun v3=>(bif yR Go.BinOp.eql Go.FloatKind.f32 v2 v3 then (some (Sum.inr (IntKind.i64.wrap (b7+1))))else (Option.map Sum.inl (yCb (b5) (aI) (b6) (b7) (bh))))))else (Option.map Sum.inl (yCb (b5) (aI) (b6) (b7) (bh))))
theorem yBf(n:Nat)(hn:big≤n)(r0:List Nat→Nat→Int→List Int→Option (List Int×Unit))(b5:List Nat)(aI:Nat)(b6:Int)(bh:List Int)(b7:Int):LeF (elim some fun (s__:(List Int))=>r0 b5 aI (IntKind.i64.wrap (b6+1)) s__) (y3e (fun s__=>yHa b5 aI b6 bh s__) wMax b7) (y63 n r0 n b5 aI b6 b7 bh):=by
  refine y2x (f:=(elim some fun (s__:(List Int))=>r0 b5 aI (IntKind.i64.wrap (b6+1)) s__)) (W:=fun k__ s__=>y63 n r0 k__ b5 aI b6 s__ bh) (body:=(fun s__=>yHa b5 aI b6 bh s__)) (fun k__ s__=>?_) wMax n b7 (by unfold big at hn;unfold wMax;omega)
  show LeF _ _ (yDb n r0 (y63 n r0 k__) b5 aI b6 s__ bh)
  exact (y5 (y7 fun v2=>(y7 fun v3=>(y5 (y6 rfl) (yq (by apply y1v n hn))))) (yq (by apply y1v n hn)))
def yId(b8:List Nat)(aO:Nat)(bw:Int)(aa:List Int):Option ((List Int×Unit)⊕(List Int)) :=
  (y3e (fun s__=>yHa (b8) (aO) (bw) (aa) s__) wMax (bw))
def yI8(b8:List Nat)(aO:Nat)(aa:List Int):Option (List Int×Unit) :=
  (some ((aa,())))
theorem yBs(n:Nat)(hn:big≤n)(b8:List Nat)(aO:Nat)(aa:List Int)(hx:((↑b8.length:Int))≤9223372036854775807):LeF some (y1g (fun i__ s__=>yId b8 aO i__ s__) (fun s__=>yI8 b8 aO s__) (((↑b8.length:Int)) - 1).toNat 1 aa) (y6C n n b8 aO 1 aa):=by
  refine y2I (f:=some) (W:=fun k__ i__ s__=>y6C n k__ b8 aO i__ s__) (body:=(fun i__ s__=>yId b8 aO i__ s__)) (fin:=(fun s__=>yI8 b8 aO s__)) (fun k__ i__ s__=>?_) hx aa n 1 (by decide) (by unfold big at hn;omega)
  show LeF _ _ (yDl n (y6C n k__) b8 aO i__ s__)
  exact y5 (by apply yBf n hn) (yq (y6 rfl))
def yJp(l:List Nat)(sign:Nat):Option (List Int×Unit) :=
  (bif decide (((↑l.length:Int))≤9223372036854775807)then y1g (fun i__ s__=>yId (l) (sign) i__ s__) (fun s__=>yI8 (l) (sign) s__) (((↑l.length:Int)) - 1).toNat 1 ([])else none)
theorem yMX(l:List Nat)(sign:Nat)(y:List Int×Unit)(h:yJp l sign=some y):∃ n,yJg n l sign=some y :=
  ⟨big,LeF.top (show LeF some (yJp l sign) (yJg big l sign)from (fun (n:Nat) (hn:big≤n)=>show LeF some (yJp l sign) (yJg n l sign)from (yL fun hx=>by apply yBs n hn;exact hx)) big (Nat.le_refl _)) h⟩
def z02_e:Entry:={ f:=74,args:=yOA,ress:=yP0,m:=fun x=>yJp x.1 x.2.1 }
theorem ySi:FnOK Tryz.prog z02_e:=yO (g:=yP1) (fn:=Tryz.f74) yD yK eNil (by kernel_rfl) (by kernel_rfl) (by kernel_rfl) (fun x y h=>let ⟨n,hn⟩:=yMX x.1 x.2.1 y h;⟨yKs n,iNil,(yTR n x).trans hn⟩)
abbrev zl_a:Ty:=.pair t41 (.pair t41 .unit)
abbrev zl_r:Ty:=.pair t4 .unit
def zl_g:G:={ T:=T,E:=[],muts:=[],fz:=[] }
def zl_k:List (List Nat):=[[0,1,5]]
def yPc(n:Nat):Ann:={ keep:=zl_k,fuel:=n,inl:=[],deep:=0 }
def yIH(n:Nat)(r0:List Int→List Int→Int→Option (Bool×Unit))(ah:List Int)(ai:List Int)(ax:Int):Option (Bool×Unit) :=
  (bif decide (ax < (↑ah.length:Int))then (Option.bind (idx ah ax) fun v1=>(Option.bind (idx ai ax) fun v2=>(bif v1 != v2 then some (Bool.false,())else r0 ah ai (IntKind.i64.wrap (ax+1)))))else some (Bool.true,()))
def y91(n:Nat)(k:Nat)(ah:List Int)(ai:List Int)(ax:Int):Option (Bool×Unit) :=
  iter (fun r y=>yIH n (fun ah ai ax=>r ((ah,(ai,(ax,()))),((),()))) y.1.1 y.1.2.1 y.1.2.2.1) k ((ah,(ai,(ax,()))),((),()))
def zl_m(n:Nat)(a:List Int)(b:List Int):Option (Bool×Unit) :=
  (bif (↑a.length:Int) != (↑b.length:Int)then some (Bool.false,())else (y91 n n (a) (b) ((0:Int))))
theorem yUp(n:Nat)(x:zl_a.den):runF zl_g (yPc n) Tryz.f75 zl_a zl_r x=zl_m n x.1 x.2.1:=by kernel_rfl
def yIq(ah:List Int)(ai:List Int)(ax:Int)(v1:Int):Option ((Bool×Unit)⊕Unit) :=
  (Option.bind (idx ai ax) fun v2=>(bif v1 != v2 then (some (Sum.inl ((Bool.false,()))))else (some (Sum.inr ()))))
def yN9(ah:List Int)(ai:List Int):Option (Bool×Unit) :=
  (some ((Bool.true,())))
theorem yFJ(n:Nat)(hn:big≤n)(ah:List Int)(ai:List Int)(hx:List.length (ah) < lenMax):LeF some (yP (fun i__ e__ s__=>yIq ah ai i__ e__) (fun s__=>yN9 ah ai) 0 (ah) ()) (y91 n n ah ai 0):=by
  refine yM (f:=some) (W:=fun k__ i__ s__=>y91 n k__ ah ai i__) (body:=(fun i__ e__ s__=>yIq ah ai i__ e__)) (fin:=(fun s__=>yN9 ah ai)) (fun k__ i__ s__=>?_) hx () n (by unfold big at hn;unfold lenMax at hx;omega)
  show LeF _ _ (yIH n (y91 n k__) ah ai i__)
  exact y5 (y7 fun v1=>(y7 fun v2=>(y5 (y6 rfl) (y6 rfl)))) (yq (y6 rfl))
def zl_M(a:List Int)(b:List Int):Option (Bool×Unit) :=
  (bif (↑a.length:Int) != (↑b.length:Int)then (some ((Bool.false,())))else (bif decide (List.length (a) < lenMax)then yP (fun i__ e__ s__=>yIq (a) (b) i__ e__) (fun s__=>yN9 (a) (b)) 0 (a) ()else none))
theorem ySW(a:List Int)(b:List Int)(y:Bool×Unit)(h:zl_M a b=some y):∃ n,zl_m n a b=some y :=
  ⟨big,LeF.top (show LeF some (zl_M a b) (zl_m big a b)from (fun (n:Nat) (hn:big≤n)=>show LeF some (zl_M a b) (zl_m n a b)from (y5 (y6 rfl) (yL fun hx=>by apply yFJ n hn;exact hx))) big (Nat.le_refl _)) h⟩
def zl_e:Entry:={ f:=75,args:=zl_a,ress:=zl_r,m:=fun x=>zl_M x.1 x.2.1 }
theorem yNx:FnOK Tryz.prog zl_e:=yO (g:=zl_g) (fn:=Tryz.f75) yD yK eNil (by kernel_rfl) (by kernel_rfl) (by kernel_rfl) (fun x y h=>let ⟨n,hn⟩:=ySW x.1 x.2.1 y h;⟨yPc n,iNil,(yUp n x).trans hn⟩)
def zc_m(n:Nat)(x1:Nat):Option (Int×Unit) :=
  (Option.bind (y1Y Go.FloatKind.f32 x1 Go.FloatKind.f64) fun v0=>(Option.bind (ym Go.FloatKind.f64 (yh Go.BinOp.mul Go.FloatKind.f64 (nat_lit 4625196817309499392) v0) IntKind.i64) fun v1=>some (v1,())))
def zc_M(x1:Nat):Option (Int×Unit):=zc_m 0 x1
abbrev yM4:Ty:=.pair t58 .unit
abbrev yPU:Ty:=.pair t60 .unit
def yOu:G:={ T:=T,E:=[],muts:=[],fz:=[] }
def yUN:List (List Nat):=[]
def yKd(n:Nat):Ann:={ keep:=yUN,fuel:=n,inl:=[],deep:=0 }
def yJP(n:Nat)(gaps:List (Q3)):Option ((List UInt8×Int×List Nat×List (Q3)×Unit)×Unit) :=
  some (([(103:UInt8)],(0:Int),[nat_lit 1065353216,nat_lit 0,nat_lit 3212836864,nat_lit 0],gaps,()),())
theorem yPD(n:Nat)(x:yM4.den):runF yOu (yKd n) Tryz.f102 yM4 yPU x=yJP n x.1:=by kernel_rfl
def z0Q(gaps:List (Q3)):((List UInt8×Int×List Nat×List (Q3)×Unit)×Unit) :=
  (([(103:UInt8)],(0:Int),[nat_lit 1065353216,nat_lit 0,nat_lit 3212836864,nat_lit 0],gaps,()),())
abbrev yS1 (gaps:List (Q3)):Option ((List UInt8×Int×List Nat×List (Q3)×Unit)×Unit):=some (z0Q gaps)
theorem yME(gaps:List (Q3))(y:(List UInt8×Int×List Nat×List (Q3)×Unit)×Unit)(h:yS1 gaps=some y):∃ n,yJP n gaps=some y :=
  ⟨0,by rw[← h];show yJP 0 gaps=some (z0Q gaps);unfold yJP z0Q;first|rfl|(simp only[yI];done)|(simp only[yI];rfl)⟩
def z0Q_e:Entry:={ f:=102,args:=yM4,ress:=yPU,m:=fun x=>yS1 x.1 }
theorem ySQ:FnOK Tryz.prog z0Q_e:=yO (g:=yOu) (fn:=Tryz.f102) yD yK eNil (by kernel_rfl) (by kernel_rfl) (by kernel_rfl) (fun x y h=>let ⟨n,hn⟩:=yME x.1 y h;⟨yKd n,iNil,(yPD n x).trans hn⟩)
abbrev yMV:Ty:=.pair t9 .unit
abbrev yRt:Ty:=.pair t31 .unit
def ySq:G:={ T:=T,E:=[],muts:=[3],fz:=[] }
def yVT:List (List Nat):=[[3,8]]
def yKj(n:Nat):Ann:={ keep:=yVT,fuel:=n,inl:=[],deep:=0 }
def yE1(n:Nat)(r0:List (Q2)→List UInt8→Int→Option (List (Q2)×Unit))(aN:List (Q2))(str1__0:List UInt8)(pos1__0:Int):Option (List (Q2)×Unit) :=
  (bif decide (pos1__0 < (↑str1__0.length:Int))then (bif (yd str1__0 pos1__0).1==72 then (bif decide (aN.length+(1:Nat)≤memMax)then r0 (aN++[(y1h (yd str1__0 pos1__0).1,(1:Int),(2:Int),())]) str1__0 (yd str1__0 pos1__0).2 else none)else (bif (yd str1__0 pos1__0).1==81 then (bif decide (aN.length+(1:Nat)≤memMax)then r0 (aN++[(y1h (yd str1__0 pos1__0).1,(1:Int),(1:Int),())]) str1__0 (yd str1__0 pos1__0).2 else none)else (bif (yd str1__0 pos1__0).1==82 then (bif decide (aN.length+(1:Nat)≤memMax)then r0 (aN++[(y1h (yd str1__0 pos1__0).1,(1:Int),(3:Int),())]) str1__0 (yd str1__0 pos1__0).2 else none)else (bif decide (aN.length+(1:Nat)≤memMax)then r0 (aN++[(y1h (yd str1__0 pos1__0).1,(1:Int),(0:Int),())]) str1__0 (yd str1__0 pos1__0).2 else none))))else some (aN,()))
def y6A(n:Nat)(k:Nat)(aN:List (Q2))(str1__0:List UInt8)(pos1__0:Int):Option (List (Q2)×Unit) :=
  iter (fun r y=>yE1 n (fun aN str1__0 pos1__0=>r ((),((aN,((str1__0,pos1__0),())),()))) y.2.1.1 y.2.1.2.1.1 y.2.1.2.1.2) k ((),((aN,((str1__0,pos1__0),())),()))
def yJ1(n:Nat)(names:List UInt8):Option (List (Q2)×Unit) :=
  (y6A n n ([]) (names) ((0:Int)))
theorem ySe(n:Nat)(x:yMV.den):runF ySq (yKj n) Tryz.f103 yMV yRt x=yJ1 n x.1:=by kernel_rfl
def yGX(str1__0:List UInt8)(pos1__0:Int)(aN:List (Q2)):Option ((List (Q2)×Unit)⊕(List (Q2))) :=
  (bif (yd str1__0 pos1__0).1==72 then (bif decide (aN.length+(1:Nat)≤memMax)then (some (Sum.inr (aN++[(y1h (yd str1__0 pos1__0).1,(1:Int),(2:Int),())])))else none)else (bif (yd str1__0 pos1__0).1==81 then (bif decide (aN.length+(1:Nat)≤memMax)then (some (Sum.inr (aN++[(y1h (yd str1__0 pos1__0).1,(1:Int),(1:Int),())])))else none)else (bif (yd str1__0 pos1__0).1==82 then (bif decide (aN.length+(1:Nat)≤memMax)then (some (Sum.inr (aN++[(y1h (yd str1__0 pos1__0).1,(1:Int),(3:Int),())])))else none)else (bif decide (aN.length+(1:Nat)≤memMax)then (some (Sum.inr (aN++[(y1h (yd str1__0 pos1__0).1,(1:Int),(0:Int),())])))else none))))
def yIG(str1__0:List UInt8)(aN:List (Q2)):Option (List (Q2)×Unit) :=
  (some ((aN,())))
theorem yBW(n:Nat)(hn:big≤n)(str1__0:List UInt8)(aN:List (Q2))(hx:List.length (str1__0) < lenMax):LeF some (y9M (str1__0) (fun i__ s__=>yGX str1__0 i__ s__) (fun s__=>yIG str1__0 s__) (List.length (str1__0)) 0 aN) (y6A n n aN str1__0 0):=by
  refine yD6 (f:=some) (W:=fun k__ i__ s__=>y6A n k__ s__ str1__0 i__) (body:=(fun i__ s__=>yGX str1__0 i__ s__)) (fin:=(fun s__=>yIG str1__0 s__)) (fun k__ i__ s__=>?_) aN n (by unfold big at hn;unfold lenMax at hx;omega)
  show LeF _ _ (yE1 n (y6A n k__) s__ str1__0 i__)
  exact y5 (y5 (y5 (y6 rfl) yY) (y5 (y5 (y6 rfl) yY) (y5 (y5 (y6 rfl) yY) (y5 (y6 rfl) yY)))) (yq (y6 rfl))
def y4E(names:List UInt8):Option (List (Q2)×Unit) :=
  (bif decide (List.length (names) < lenMax)then y9M (names) (fun i__ s__=>yGX (names) i__ s__) (fun s__=>yIG (names) s__) (List.length (names)) 0 ([])else none)
theorem yOC(names:List UInt8)(y:List (Q2)×Unit)(h:y4E names=some y):∃ n,yJ1 n names=some y :=
  ⟨big,LeF.top (show LeF some (y4E names) (yJ1 big names)from (fun (n:Nat) (hn:big≤n)=>show LeF some (y4E names) (yJ1 n names)from (yL fun hx=>by apply yBW n hn;exact hx)) big (Nat.le_refl _)) h⟩
def z0E_e:Entry:={ f:=103,args:=yMV,ress:=yRt,m:=fun x=>y4E x.1 }
theorem yQ1:FnOK Tryz.prog z0E_e:=yO (g:=ySq) (fn:=Tryz.f103) yD yK eNil (by kernel_rfl) (by kernel_rfl) (by kernel_rfl) (fun x y h=>let ⟨n,hn⟩:=yOC x.1 y h;⟨yKj n,iNil,(ySe n x).trans hn⟩)
abbrev yOV:Ty:=.pair t175 .unit
abbrev yQG:Ty:=.pair t28 .unit
def ySE:G:={ T:=T,E:=[],muts:=[],fz:=[] }
def yVF:List (List Nat):=[[5,6,7]]
def yL4(n:Nat):Ann:={ keep:=yVF,fuel:=n,inl:=[],deep:=0 }
def yDr(n:Nat)(r0:List Int→Int→Int→Option (Int×Unit))(aM:List Int)(aS:Int)(ay:Int):Option (Int×Unit) :=
  (bif decide (ay < aS)then (Option.bind (idx aM ay) fun v1=>(bif v1 != 0 then some (v1,())else r0 aM aS (IntKind.i64.wrap (ay+1))))else some ((0:Int),()))
def y6K(n:Nat)(k:Nat)(aM:List Int)(aS:Int)(ay:Int):Option (Int×Unit) :=
  iter (fun r y=>yDr n (fun aM aS ay=>r ((aM,(aS,(ay,()))),((),()))) y.1.1 y.1.2.1 y.1.2.2.1) k ((aM,(aS,(ay,()))),((),()))
def yJL(n:Nat)(l:List Int):Option (Int×Unit) :=
  (y6K n n (l) ((↑l.length:Int)) ((0:Int)))
theorem ySj(n:Nat)(x:yOV.den):runF ySE (yL4 n) Tryz.f104 yOV yQG x=yJL n x.1:=by kernel_rfl
def yDZ(aM:List Int)(ay:Int)(v1:Int):Option ((Int×Unit)⊕Unit) :=
  (bif v1 != 0 then (some (Sum.inl ((v1,()))))else (some (Sum.inr ())))
def yDB(aM:List Int):Option (Int×Unit) :=
  (some (((0:Int),())))
theorem yCd(n:Nat)(hn:big≤n)(aM:List Int)(hx:List.length (aM) < lenMax):LeF some (yP (fun i__ e__ s__=>yDZ aM i__ e__) (fun s__=>yDB aM) 0 (aM) ()) (y6K n n aM (List.length (aM):Int) 0):=by
  refine yM (f:=some) (W:=fun k__ i__ s__=>y6K n k__ aM (List.length (aM):Int) i__) (body:=(fun i__ e__ s__=>yDZ aM i__ e__)) (fin:=(fun s__=>yDB aM)) (fun k__ i__ s__=>?_) hx () n (by unfold big at hn;unfold lenMax at hx;omega)
  show LeF _ _ (yDr n (y6K n k__) aM (List.length (aM):Int) i__)
  exact y5 (y7 fun v1=>(y5 (y6 rfl) (y6 rfl))) (yq (y6 rfl))
def y1m(l:List Int):Option (Int×Unit) :=
  (bif decide (List.length (l) < lenMax)then yP (fun i__ e__ s__=>yDZ (l) i__ e__) (fun s__=>yDB (l)) 0 (l) ()else none)
theorem yMY(l:List Int)(y:Int×Unit)(h:y1m l=some y):∃ n,yJL n l=some y :=
  ⟨big,LeF.top (show LeF some (y1m l) (yJL big l)from (fun (n:Nat) (hn:big≤n)=>show LeF some (y1m l) (yJL n l)from (yL fun hx=>by apply yCd n hn;exact hx)) big (Nat.le_refl _)) h⟩
def z0a_e:Entry:={ f:=104,args:=yOV,ress:=yQG,m:=fun x=>y1m x.1 }
theorem y49:FnOK Tryz.prog z0a_e:=yO (g:=ySE) (fn:=Tryz.f104) yD yK eNil (by kernel_rfl) (by kernel_rfl) (by kernel_rfl) (fun x y h=>let ⟨n,hn⟩:=yMY x.1 y h;⟨yL4 n,iNil,(ySj n x).trans hn⟩)
abbrev yNQ:Ty:=.pair t3 (.pair t3 .unit)
abbrev yQe:Ty:=.pair t3 .unit
def yPa:G:={ T:=T,E:=[],muts:=[],fz:=[] }
def yV1:List (List Nat):=[]
def yKn(n:Nat):Ann:={ keep:=yV1,fuel:=n,inl:=[],deep:=0 }
def yOI(n:Nat)(a:Int)(b:Int):Option (Int×Unit) :=
  (bif IntKind.i64.wrap ((2:Int) * b)==0 then none else (bif IntKind.i64.wrap ((2:Int) * b)==0 then none else (bif decide ((IntKind.i64.wrap (IntKind.i64.wrap ((2:Int) * a)+b)).tmod (IntKind.i64.wrap ((2:Int) * b)) < 0)then some (IntKind.i64.wrap (IntKind.i64.wrap ((IntKind.i64.wrap (IntKind.i64.wrap ((2:Int) * a)+b)).tdiv (IntKind.i64.wrap ((2:Int) * b))) - (1:Int)),())else some (IntKind.i64.wrap ((IntKind.i64.wrap (IntKind.i64.wrap ((2:Int) * a)+b)).tdiv (IntKind.i64.wrap ((2:Int) * b))),()))))
theorem yPW(n:Nat)(x:yNQ.den):runF yPa (yKn n) Tryz.f107 yNQ yQe x=yOI n x.1 x.2.1:=by kernel_rfl
def yKB(a:Int)(b:Int):Option (Int×Unit):=yOI 0 a b
theorem yMb(a:Int)(b:Int)(y:Int×Unit)(h:yKB a b=some y):∃ n,yOI n a b=some y:=⟨0,h⟩
def z09_e:Entry:={ f:=107,args:=yNQ,ress:=yQe,m:=fun x=>yKB x.1 x.2.1 }
theorem yR0:FnOK Tryz.prog z09_e:=yO (g:=yPa) (fn:=Tryz.f107) yD yK eNil (by kernel_rfl) (by kernel_rfl) (by kernel_rfl) (fun x y h=>let ⟨n,hn⟩:=yMb x.1 x.2.1 y h;⟨yKn n,iNil,(yPW n x).trans hn⟩)
abbrev zy_a:Ty:=.pair t3 .unit
abbrev zy_r:Ty:=.pair t3 .unit
def zy_g:G:={ T:=T,E:=[],muts:=[],fz:=[] }
def zy_k:List (List Nat):=[]
def yQn(n:Nat):Ann:={ keep:=zy_k,fuel:=n,inl:=[],deep:=0 }
def zy_m(n:Nat)(n1:Int):Option (Int×Unit) :=
  some (if IntKind.i64.wrap ((0:Int) - n1) > n1 then IntKind.i64.wrap ((0:Int) - n1)else n1,())
theorem yUd(n:Nat)(x:zy_a.den):runF zy_g (yQn n) Tryz.f108 zy_a zy_r x=zy_m n x.1:=by kernel_rfl
def zy(n1:Int):(Int×Unit) :=
  (if IntKind.i64.wrap ((0:Int) - n1) > n1 then IntKind.i64.wrap ((0:Int) - n1)else n1,())
abbrev zy_M (n1:Int):Option (Int×Unit):=some (zy n1)
theorem yQh(n1:Int)(y:Int×Unit)(h:zy_M n1=some y):∃ n,zy_m n n1=some y :=
  ⟨0,by rw[← h];show zy_m 0 n1=some (zy n1);unfold zy_m zy;first|rfl|(simp only[yI];done)|(simp only[yI];rfl)⟩
def zy_e:Entry:={ f:=108,args:=zy_a,ress:=zy_r,m:=fun x=>zy_M x.1 }
theorem yH4:FnOK Tryz.prog zy_e:=yO (g:=zy_g) (fn:=Tryz.f108) yD yK eNil (by kernel_rfl) (by kernel_rfl) (by kernel_rfl) (fun x y h=>let ⟨n,hn⟩:=yQh x.1 y h;⟨yQn n,iNil,(yUd n x).trans hn⟩)
abbrev yNP:Ty:=.pair t4 (.pair t28 .unit)
abbrev yOk:Ty:=.pair t28 .unit
def yRH:G:={ T:=T,E:=[],muts:=[],fz:=[] }
def yVA:List (List Nat):=[]
def yKZ(n:Nat):Ann:={ keep:=yVA,fuel:=n,inl:=[],deep:=0 }
def yJb(n:Nat)(holds:Bool)(e:Int):Option (Int×Unit) :=
  (bif holds then some (e,())else some ((0:Int),()))
theorem yQZ(n:Nat)(x:yNP.den):runF yRH (yKZ n) Tryz.f113 yNP yOk x=yJb n x.1 x.2.1:=by kernel_rfl
def z0n(holds:Bool)(e:Int):(Int×Unit) :=
  (bif holds then (e,())else ((0:Int),()))
abbrev yRV (holds:Bool) (e:Int):Option (Int×Unit):=some (z0n holds e)
theorem yNJ(holds:Bool)(e:Int)(y:Int×Unit)(h:yRV holds e=some y):∃ n,yJb n holds e=some y :=
  ⟨0,by rw[← h];show yJb 0 holds e=some (z0n holds e);unfold yJb z0n;first|rfl|(simp only[yI];done)|(simp only[yI];rfl)⟩
def z0n_e:Entry:={ f:=113,args:=yNP,ress:=yOk,m:=fun x=>yRV x.1 x.2.1 }
theorem y5q:FnOK Tryz.prog z0n_e:=yO (g:=yRH) (fn:=Tryz.f113) yD yK eNil (by kernel_rfl) (by kernel_rfl) (by kernel_rfl) (fun x y h=>let ⟨n,hn⟩:=yNJ x.1 x.2.1 y h;⟨yKZ n,iNil,(yQZ n x).trans hn⟩)
abbrev zF_a:Ty:=.pair t23 (.pair t177 .unit)
abbrev zF_r:Ty:=.pair t175 .unit
def zF_g:G:={ T:=T,E:=[],muts:=[5],fz:=[] }
def zF_k:List (List Nat):=[[1,5,8,9,10]]
def yOi(n:Nat):Ann:={ keep:=zF_k,fuel:=n,inl:=[],deep:=0 }
def yGO(n:Nat)(r0:((Q3)×Unit→Option (Int×Unit))→List (Q3)→Int→Int→List Int→Option (List Int×Unit))(a7:(Q3)×Unit→Option (Int×Unit))(a8:List (Q3))(af:Int)(ae:Int)(aa:List Int):Option (List Int×Unit) :=
  (bif decide (ae < af)then (Option.bind (idx a8 ae) fun v1=>(Option.bind (a7 ((v1.1,v1.2.1,()),())) fun v2=>(bif decide (aa.length+(1:Nat)≤memMax)then r0 a7 a8 af (IntKind.i64.wrap (ae+1)) (aa++[v2.1])else none)))else some (aa,()))
def y92(n:Nat)(k:Nat)(a7:(Q3)×Unit→Option (Int×Unit))(a8:List (Q3))(af:Int)(ae:Int)(aa:List Int):Option (List Int×Unit) :=
  iter (fun r y=>yGO n (fun a7 a8 af ae aa=>r ((a7,(a8,(af,(ae,())))),((aa,()),()))) y.1.1 y.1.2.1 y.1.2.2.1 y.1.2.2.2.1 y.2.1.1) k ((a7,(a8,(af,(ae,())))),((aa,()),()))
def zF_m(n:Nat)(l:List (Q3))(of:(Q3)×Unit→Option (Int×Unit)):Option (List Int×Unit) :=
  (y92 n n (of) (l) ((↑l.length:Int)) ((0:Int)) ([]))
theorem yUo(n:Nat)(x:zF_a.den):runF zF_g (yOi n) Tryz.f115 zF_a zF_r x=zF_m n x.1 x.2.1:=by kernel_rfl
def yM1(a7:(Q3)×Unit→Option (Int×Unit))(a8:List (Q3))(ae:Int)(v1:Q3)(aa:List Int):Option ((List Int×Unit)⊕(List Int)) :=
  (Option.bind (a7 ((v1.1,v1.2.1,()),())) fun v2=>(bif decide (aa.length+(1:Nat)≤memMax)then (some (Sum.inr (aa++[v2.1])))else none))
def yLf(a7:(Q3)×Unit→Option (Int×Unit))(a8:List (Q3))(aa:List Int):Option (List Int×Unit) :=
  (some ((aa,())))
theorem yF8(n:Nat)(hn:big≤n)(a7:(Q3)×Unit→Option (Int×Unit))(a8:List (Q3))(aa:List Int)(hx:List.length (a8) < lenMax):LeF some (yP (fun i__ e__ s__=>yM1 a7 a8 i__ e__ s__) (fun s__=>yLf a7 a8 s__) 0 (a8) aa) (y92 n n a7 a8 (List.length (a8):Int) 0 aa):=by
  refine yM (f:=some) (W:=fun k__ i__ s__=>y92 n k__ a7 a8 (List.length (a8):Int) i__ s__) (body:=(fun i__ e__ s__=>yM1 a7 a8 i__ e__ s__)) (fin:=(fun s__=>yLf a7 a8 s__)) (fun k__ i__ s__=>?_) hx aa n (by unfold big at hn;unfold lenMax at hx;omega)
  show LeF _ _ (yGO n (y92 n k__) a7 a8 (List.length (a8):Int) i__ s__)
  exact y5 (y7 fun v1=>(y7 fun v2=>(y5 (y6 rfl) yY))) (yq (y6 rfl))
def zF_M(l:List (Q3))(of:(Q3)×Unit→Option (Int×Unit)):Option (List Int×Unit) :=
  (bif decide (List.length (l) < lenMax)then yP (fun i__ e__ s__=>yM1 (of) (l) i__ e__ s__) (fun s__=>yLf (of) (l) s__) 0 (l) ([])else none)
theorem yTX(l:List (Q3))(of:(Q3)×Unit→Option (Int×Unit))(y:List Int×Unit)(h:zF_M l of=some y):∃ n,zF_m n l of=some y :=
  ⟨big,LeF.top (show LeF some (zF_M l of) (zF_m big l of)from (fun (n:Nat) (hn:big≤n)=>show LeF some (zF_M l of) (zF_m n l of)from (yL fun hx=>by apply yF8 n hn;exact hx)) big (Nat.le_refl _)) h⟩
def zF_e:Entry:={ f:=115,args:=zF_a,ress:=zF_r,m:=fun x=>zF_M x.1 x.2.1 }
theorem ySK:FnOK Tryz.prog zF_e:=yO (g:=zF_g) (fn:=Tryz.f115) yD yK eNil (by kernel_rfl) (by kernel_rfl) (by kernel_rfl) (fun x y h=>let ⟨n,hn⟩:=yTX x.1 x.2.1 y h;⟨yOi n,iNil,(yUo n x).trans hn⟩)
abbrev yMo:Ty:=.pair t57 (.pair t57 .unit)
abbrev yT7:Ty:=.pair t57 .unit
def yPg:G:={ T:=T,E:=[],muts:=[],fz:=[] }
def yTq:List (List Nat):=[]
def yKY(n:Nat):Ann:={ keep:=yTq,fuel:=n,inl:=[],deep:=0 }
def yJ3(n:Nat)(a:Q3)(b:Q3):Option ((Q3)×Unit) :=
  some ((IntKind.i64.wrap (IntKind.i64.wrap (a.1 * b.1) - IntKind.i64.wrap (a.2.1 * b.2.1)),IntKind.i64.wrap (IntKind.i64.wrap (a.1 * b.2.1)+IntKind.i64.wrap (a.2.1 * b.1)),()),())
theorem yRX(n:Nat)(x:yMo.den):runF yPg (yKY n) Tryz.f125 yMo yT7 x=yJ3 n x.1 x.2.1:=by kernel_rfl
def z0g(a:Q3)(b:Q3):((Q3)×Unit) :=
  ((IntKind.i64.wrap (IntKind.i64.wrap (a.1 * b.1) - IntKind.i64.wrap (a.2.1 * b.2.1)),IntKind.i64.wrap (IntKind.i64.wrap (a.1 * b.2.1)+IntKind.i64.wrap (a.2.1 * b.1)),()),())
abbrev ySN (a:Q3) (b:Q3):Option ((Q3)×Unit):=some (z0g a b)
theorem yLR(a:Q3)(b:Q3)(y:(Q3)×Unit)(h:ySN a b=some y):∃ n,yJ3 n a b=some y :=
  ⟨0,by rw[← h];show yJ3 0 a b=some (z0g a b);unfold yJ3 z0g;first|rfl|(simp only[yI];done)|(simp only[yI];rfl)⟩
def z0g_e:Entry:={ f:=125,args:=yMo,ress:=yT7,m:=fun x=>ySN x.1 x.2.1 }
theorem yCy:FnOK Tryz.prog z0g_e:=yO (g:=yPg) (fn:=Tryz.f125) yD yK eNil (by kernel_rfl) (by kernel_rfl) (by kernel_rfl) (fun x y h=>let ⟨n,hn⟩:=yLR x.1 x.2.1 y h;⟨yKY n,iNil,(yRX n x).trans hn⟩)
abbrev zr_a:Ty:=.pair t57 .unit
abbrev zr_r:Ty:=.pair t57 .unit
def zr_g:G:={ T:=T,E:=[],muts:=[],fz:=[] }
def zr_k:List (List Nat):=[]
def yTK(n:Nat):Ann:={ keep:=zr_k,fuel:=n,inl:=[],deep:=0 }
def zr_m(n:Nat)(a:Q3):Option ((Q3)×Unit) :=
  some ((a.1,IntKind.i64.wrap ((0:Int) - a.2.1),()),())
theorem yVn(n:Nat)(x:zr_a.den):runF zr_g (yTK n) Tryz.f126 zr_a zr_r x=zr_m n x.1:=by kernel_rfl
def zr(a:Q3):((Q3)×Unit) :=
  ((a.1,IntKind.i64.wrap ((0:Int) - a.2.1),()),())
abbrev zr_M (a:Q3):Option ((Q3)×Unit):=some (zr a)
theorem yTV(a:Q3)(y:(Q3)×Unit)(h:zr_M a=some y):∃ n,zr_m n a=some y :=
  ⟨0,by rw[← h];show zr_m 0 a=some (zr a);unfold zr_m zr;first|rfl|(simp only[yI];done)|(simp only[yI];rfl)⟩
def zr_e:Entry:={ f:=126,args:=zr_a,ress:=zr_r,m:=fun x=>zr_M x.1 }
theorem yLT:FnOK Tryz.prog zr_e:=yO (g:=zr_g) (fn:=Tryz.f126) yD yK eNil (by kernel_rfl) (by kernel_rfl) (by kernel_rfl) (fun x y h=>let ⟨n,hn⟩:=yTV x.1 y h;⟨yTK n,iNil,(yVn n x).trans hn⟩)
abbrev z7_a:Ty:=.pair t31 (.pair t192 .unit)
abbrev z7_r:Ty:=.pair t31 .unit
def z7_g:G:={ T:=T,E:=[],muts:=[5],fz:=[] }
def z7_k:List (List Nat):=[[1,5,8,9,10]]
def yRR(n:Nat):Ann:={ keep:=z7_k,fuel:=n,inl:=[],deep:=0 }
def yGK(n:Nat)(r0:((Q2)×Unit→Option ((Q2)×Unit))→List (Q2)→Int→Int→List (Q2)→Option (List (Q2)×Unit))(a7:(Q2)×Unit→Option ((Q2)×Unit))(a8:List (Q2))(af:Int)(ae:Int)(aa:List (Q2)):Option (List (Q2)×Unit) :=
  (bif decide (ae < af)then (Option.bind (idx a8 ae) fun v1=>(Option.bind (a7 ((v1.1,v1.2.1,v1.2.2.1,()),())) fun v2=>(bif decide (aa.length+(1:Nat)≤memMax)then r0 a7 a8 af (IntKind.i64.wrap (ae+1)) (aa++[v2.1])else none)))else some (aa,()))
def y99(n:Nat)(k:Nat)(a7:(Q2)×Unit→Option ((Q2)×Unit))(a8:List (Q2))(af:Int)(ae:Int)(aa:List (Q2)):Option (List (Q2)×Unit) :=
  iter (fun r y=>yGK n (fun a7 a8 af ae aa=>r ((a7,(a8,(af,(ae,())))),((aa,()),()))) y.1.1 y.1.2.1 y.1.2.2.1 y.1.2.2.2.1 y.2.1.1) k ((a7,(a8,(af,(ae,())))),((aa,()),()))
def z7_m(n:Nat)(l:List (Q2))(of:(Q2)×Unit→Option ((Q2)×Unit)):Option (List (Q2)×Unit) :=
  (y99 n n (of) (l) ((↑l.length:Int)) ((0:Int)) ([]))
theorem yUn(n:Nat)(x:z7_a.den):runF z7_g (yRR n) Tryz.f130 z7_a z7_r x=z7_m n x.1 x.2.1:=by kernel_rfl
def yNp(a7:(Q2)×Unit→Option ((Q2)×Unit))(a8:List (Q2))(ae:Int)(v1:Q2)(aa:List (Q2)):Option ((List (Q2)×Unit)⊕(List (Q2))) :=
  (Option.bind (a7 ((v1.1,v1.2.1,v1.2.2.1,()),())) fun v2=>(bif decide (aa.length+(1:Nat)≤memMax)then (some (Sum.inr (aa++[v2.1])))else none))
def yNM(a7:(Q2)×Unit→Option ((Q2)×Unit))(a8:List (Q2))(aa:List (Q2)):Option (List (Q2)×Unit) :=
  (some ((aa,())))
theorem yEb(n:Nat)(hn:big≤n)(a7:(Q2)×Unit→Option ((Q2)×Unit))(a8:List (Q2))(aa:List (Q2))(hx:List.length (a8) < lenMax):LeF some (yP (fun i__ e__ s__=>yNp a7 a8 i__ e__ s__) (fun s__=>yNM a7 a8 s__) 0 (a8) aa) (y99 n n a7 a8 (List.length (a8):Int) 0 aa):=by
  refine yM (f:=some) (W:=fun k__ i__ s__=>y99 n k__ a7 a8 (List.length (a8):Int) i__ s__) (body:=(fun i__ e__ s__=>yNp a7 a8 i__ e__ s__)) (fin:=(fun s__=>yNM a7 a8 s__)) (fun k__ i__ s__=>?_) hx aa n (by unfold big at hn;unfold lenMax at hx;omega)
  show LeF _ _ (yGK n (y99 n k__) a7 a8 (List.length (a8):Int) i__ s__)
  exact y5 (y7 fun v1=>(y7 fun v2=>(y5 (y6 rfl) yY))) (yq (y6 rfl))
def z7_M(l:List (Q2))(of:(Q2)×Unit→Option ((Q2)×Unit)):Option (List (Q2)×Unit) :=
  (bif decide (List.length (l) < lenMax)then yP (fun i__ e__ s__=>yNp (of) (l) i__ e__ s__) (fun s__=>yNM (of) (l) s__) 0 (l) ([])else none)
theorem yR7(l:List (Q2))(of:(Q2)×Unit→Option ((Q2)×Unit))(y:List (Q2)×Unit)(h:z7_M l of=some y):∃ n,z7_m n l of=some y :=
  ⟨big,LeF.top (show LeF some (z7_M l of) (z7_m big l of)from (fun (n:Nat) (hn:big≤n)=>show LeF some (z7_M l of) (z7_m n l of)from (yL fun hx=>by apply yEb n hn;exact hx)) big (Nat.le_refl _)) h⟩
def z7_e:Entry:={ f:=130,args:=z7_a,ress:=z7_r,m:=fun x=>z7_M x.1 x.2.1 }
theorem yUj:FnOK Tryz.prog z7_e:=yO (g:=z7_g) (fn:=Tryz.f130) yD yK eNil (by kernel_rfl) (by kernel_rfl) (by kernel_rfl) (fun x y h=>let ⟨n,hn⟩:=yR7 x.1 x.2.1 y h;⟨yRR n,iNil,(yUn n x).trans hn⟩)
abbrev zG_a:Ty:=.pair t23 (.pair t129 .unit)
abbrev zG_r:Ty:=.pair t23 .unit
def zG_g:G:={ T:=T,E:=[],muts:=[5],fz:=[] }
def zG_k:List (List Nat):=[[1,5,8,9,10]]
def yQ3(n:Nat):Ann:={ keep:=zG_k,fuel:=n,inl:=[],deep:=0 }
def yI5(n:Nat)(r0:((Q3)×Unit→Option ((Q3)×Unit))→List (Q3)→Int→Int→List (Q3)→Option (List (Q3)×Unit))(a7:(Q3)×Unit→Option ((Q3)×Unit))(a8:List (Q3))(af:Int)(ae:Int)(aa:List (Q3)):Option (List (Q3)×Unit) :=
  (bif decide (ae < af)then (Option.bind (idx a8 ae) fun v1=>(Option.bind (a7 ((v1.1,v1.2.1,()),())) fun v2=>(bif decide (aa.length+(1:Nat)≤memMax)then r0 a7 a8 af (IntKind.i64.wrap (ae+1)) (aa++[v2.1])else none)))else some (aa,()))
def y8f(n:Nat)(k:Nat)(a7:(Q3)×Unit→Option ((Q3)×Unit))(a8:List (Q3))(af:Int)(ae:Int)(aa:List (Q3)):Option (List (Q3)×Unit) :=
  iter (fun r y=>yI5 n (fun a7 a8 af ae aa=>r ((a7,(a8,(af,(ae,())))),((aa,()),()))) y.1.1 y.1.2.1 y.1.2.2.1 y.1.2.2.2.1 y.2.1.1) k ((a7,(a8,(af,(ae,())))),((aa,()),()))
def zG_m(n:Nat)(l:List (Q3))(of:(Q3)×Unit→Option ((Q3)×Unit)):Option (List (Q3)×Unit) :=
  (y8f n n (of) (l) ((↑l.length:Int)) ((0:Int)) ([]))
theorem yUB(n:Nat)(x:zG_a.den):runF zG_g (yQ3 n) Tryz.f132 zG_a zG_r x=zG_m n x.1 x.2.1:=by kernel_rfl
def yMO(a7:(Q3)×Unit→Option ((Q3)×Unit))(a8:List (Q3))(ae:Int)(v1:Q3)(aa:List (Q3)):Option ((List (Q3)×Unit)⊕(List (Q3))) :=
  (Option.bind (a7 ((v1.1,v1.2.1,()),())) fun v2=>(bif decide (aa.length+(1:Nat)≤memMax)then (some (Sum.inr (aa++[v2.1])))else none))
def yLg(a7:(Q3)×Unit→Option ((Q3)×Unit))(a8:List (Q3))(aa:List (Q3)):Option (List (Q3)×Unit) :=
  (some ((aa,())))
theorem yEM(n:Nat)(hn:big≤n)(a7:(Q3)×Unit→Option ((Q3)×Unit))(a8:List (Q3))(aa:List (Q3))(hx:List.length (a8) < lenMax):LeF some (yP (fun i__ e__ s__=>yMO a7 a8 i__ e__ s__) (fun s__=>yLg a7 a8 s__) 0 (a8) aa) (y8f n n a7 a8 (List.length (a8):Int) 0 aa):=by
  refine yM (f:=some) (W:=fun k__ i__ s__=>y8f n k__ a7 a8 (List.length (a8):Int) i__ s__) (body:=(fun i__ e__ s__=>yMO a7 a8 i__ e__ s__)) (fin:=(fun s__=>yLg a7 a8 s__)) (fun k__ i__ s__=>?_) hx aa n (by unfold big at hn;unfold lenMax at hx;omega)
  show LeF _ _ (yI5 n (y8f n k__) a7 a8 (List.length (a8):Int) i__ s__)
  exact y5 (y7 fun v1=>(y7 fun v2=>(y5 (y6 rfl) yY))) (yq (y6 rfl))
def zG_M(l:List (Q3))(of:(Q3)×Unit→Option ((Q3)×Unit)):Option (List (Q3)×Unit) :=
  (bif decide (List.length (l) < lenMax)then yP (fun i__ e__ s__=>yMO (of) (l) i__ e__ s__) (fun s__=>yLg (of) (l) s__) 0 (l) ([])else none)
theorem yTC(l:List (Q3))(of:(Q3)×Unit→Option ((Q3)×Unit))(y:List (Q3)×Unit)(h:zG_M l of=some y):∃ n,zG_m n l of=some y :=
  ⟨big,LeF.top (show LeF some (zG_M l of) (zG_m big l of)from (fun (n:Nat) (hn:big≤n)=>show LeF some (zG_M l of) (zG_m n l of)from (yL fun hx=>by apply yEM n hn;exact hx)) big (Nat.le_refl _)) h⟩
def zG_e:Entry:={ f:=132,args:=zG_a,ress:=zG_r,m:=fun x=>zG_M x.1 x.2.1 }
theorem yTp:FnOK Tryz.prog zG_e:=yO (g:=zG_g) (fn:=Tryz.f132) yD yK eNil (by kernel_rfl) (by kernel_rfl) (by kernel_rfl) (fun x y h=>let ⟨n,hn⟩:=yTC x.1 x.2.1 y h;⟨yQ3 n,iNil,(yUB n x).trans hn⟩)
abbrev yMl:Ty:=.pair t57 (.pair t3 .unit)
abbrev yOw:Ty:=.pair t57 .unit
def yR1:G:={ T:=T,E:=[],muts:=[],fz:=[] }
def yUK:List (List Nat):=[]
def yKJ(n:Nat):Ann:={ keep:=yUK,fuel:=n,inl:=[],deep:=0 }
def yIw(n:Nat)(a:Q3)(n1:Int):Option ((Q3)×Unit) :=
  some ((IntKind.i64.wrap (n1 * a.1),IntKind.i64.wrap (n1 * a.2.1),()),())
theorem yRK(n:Nat)(x:yMl.den):runF yR1 (yKJ n) Tryz.f134 yMl yOw x=yIw n x.1 x.2.1:=by kernel_rfl
def z0M(a:Q3)(n1:Int):((Q3)×Unit) :=
  ((IntKind.i64.wrap (n1 * a.1),IntKind.i64.wrap (n1 * a.2.1),()),())
abbrev yPZ (a:Q3) (n1:Int):Option ((Q3)×Unit):=some (z0M a n1)
theorem yMU(a:Q3)(n1:Int)(y:(Q3)×Unit)(h:yPZ a n1=some y):∃ n,yIw n a n1=some y :=
  ⟨0,by rw[← h];show yIw 0 a n1=some (z0M a n1);unfold yIw z0M;first|rfl|(simp only[yI];done)|(simp only[yI];rfl)⟩
def z0M_e:Entry:={ f:=134,args:=yMl,ress:=yOw,m:=fun x=>yPZ x.1 x.2.1 }
theorem yH0:FnOK Tryz.prog z0M_e:=yO (g:=yR1) (fn:=Tryz.f134) yD yK eNil (by kernel_rfl) (by kernel_rfl) (by kernel_rfl) (fun x y h=>let ⟨n,hn⟩:=yMU x.1 x.2.1 y h;⟨yKJ n,iNil,(yRK n x).trans hn⟩)
abbrev yNy:Ty:=.pair t57 (.pair t57 .unit)
abbrev yS5:Ty:=.pair t57 .unit
def yQz:G:={ T:=T,E:=[],muts:=[],fz:=[] }
def yVP:List (List Nat):=[]
def yKf(n:Nat):Ann:={ keep:=yVP,fuel:=n,inl:=[],deep:=0 }
def yJs(n:Nat)(a:Q3)(b:Q3):Option ((Q3)×Unit) :=
  some ((IntKind.i64.wrap (a.1+b.1),IntKind.i64.wrap (a.2.1+b.2.1),()),())
theorem yQv(n:Nat)(x:yNy.den):runF yQz (yKf n) Tryz.f135 yNy yS5 x=yJs n x.1 x.2.1:=by kernel_rfl
def z0m(a:Q3)(b:Q3):((Q3)×Unit) :=
  ((IntKind.i64.wrap (a.1+b.1),IntKind.i64.wrap (a.2.1+b.2.1),()),())
abbrev yQm (a:Q3) (b:Q3):Option ((Q3)×Unit):=some (z0m a b)
theorem yO2(a:Q3)(b:Q3)(y:(Q3)×Unit)(h:yQm a b=some y):∃ n,yJs n a b=some y :=
  ⟨0,by rw[← h];show yJs 0 a b=some (z0m a b);unfold yJs z0m;first|rfl|(simp only[yI];done)|(simp only[yI];rfl)⟩
def z0m_e:Entry:={ f:=135,args:=yNy,ress:=yS5,m:=fun x=>yQm x.1 x.2.1 }
theorem yDf:FnOK Tryz.prog z0m_e:=yO (g:=yQz) (fn:=Tryz.f135) yD yK eNil (by kernel_rfl) (by kernel_rfl) (by kernel_rfl) (fun x y h=>let ⟨n,hn⟩:=yO2 x.1 x.2.1 y h;⟨yKf n,iNil,(yQv n x).trans hn⟩)
abbrev zH_a:Ty:=.pair t23 (.pair t196 .unit)
abbrev zH_r:Ty:=.pair t79 .unit
def zH_g:G:={ T:=T,E:=[],muts:=[5],fz:=[] }
def zH_k:List (List Nat):=[[1,5,8,9,10]]
def yPI(n:Nat):Ann:={ keep:=zH_k,fuel:=n,inl:=[],deep:=0 }
def yFa(n:Nat)(r0:((Q3)×Unit→Option ((Nat×Nat)×Unit))→List (Q3)→Int→Int→List (Nat×Nat)→Option (List (Nat×Nat)×Unit))(a7:(Q3)×Unit→Option ((Nat×Nat)×Unit))(a8:List (Q3))(af:Int)(ae:Int)(aa:List (Nat×Nat)):Option (List (Nat×Nat)×Unit) :=
  (bif decide (ae < af)then (Option.bind (idx a8 ae) fun v1=>(Option.bind (a7 ((v1.1,v1.2.1,()),())) fun v2=>(bif decide (aa.length+(1:Nat)≤memMax)then r0 a7 a8 af (IntKind.i64.wrap (ae+1)) (aa++[v2.1])else none)))else some (aa,()))
def y9F(n:Nat)(k:Nat)(a7:(Q3)×Unit→Option ((Nat×Nat)×Unit))(a8:List (Q3))(af:Int)(ae:Int)(aa:List (Nat×Nat)):Option (List (Nat×Nat)×Unit) :=
  iter (fun r y=>yFa n (fun a7 a8 af ae aa=>r ((a7,(a8,(af,(ae,())))),((aa,()),()))) y.1.1 y.1.2.1 y.1.2.2.1 y.1.2.2.2.1 y.2.1.1) k ((a7,(a8,(af,(ae,())))),((aa,()),()))
def zH_m(n:Nat)(l:List (Q3))(of:(Q3)×Unit→Option ((Nat×Nat)×Unit)):Option (List (Nat×Nat)×Unit) :=
  (y9F n n (of) (l) ((↑l.length:Int)) ((0:Int)) ([]))
theorem yUZ(n:Nat)(x:zH_a.den):runF zH_g (yPI n) Tryz.f139 zH_a zH_r x=zH_m n x.1 x.2.1:=by kernel_rfl
def yN6(a7:(Q3)×Unit→Option ((Nat×Nat)×Unit))(a8:List (Q3))(ae:Int)(v1:Q3)(aa:List (Nat×Nat)):Option ((List (Nat×Nat)×Unit)⊕(List (Nat×Nat))) :=
  (Option.bind (a7 ((v1.1,v1.2.1,()),())) fun v2=>(bif decide (aa.length+(1:Nat)≤memMax)then (some (Sum.inr (aa++[v2.1])))else none))
def yLs(a7:(Q3)×Unit→Option ((Nat×Nat)×Unit))(a8:List (Q3))(aa:List (Nat×Nat)):Option (List (Nat×Nat)×Unit) :=
  (some ((aa,())))
theorem yFZ(n:Nat)(hn:big≤n)(a7:(Q3)×Unit→Option ((Nat×Nat)×Unit))(a8:List (Q3))(aa:List (Nat×Nat))(hx:List.length (a8) < lenMax):LeF some (yP (fun i__ e__ s__=>yN6 a7 a8 i__ e__ s__) (fun s__=>yLs a7 a8 s__) 0 (a8) aa) (y9F n n a7 a8 (List.length (a8):Int) 0 aa):=by
  refine yM (f:=some) (W:=fun k__ i__ s__=>y9F n k__ a7 a8 (List.length (a8):Int) i__ s__) (body:=(fun i__ e__ s__=>yN6 a7 a8 i__ e__ s__)) (fin:=(fun s__=>yLs a7 a8 s__)) (fun k__ i__ s__=>?_) hx aa n (by unfold big at hn;unfold lenMax at hx;omega)
  show LeF _ _ (yFa n (y9F n k__) a7 a8 (List.length (a8):Int) i__ s__)
  exact y5 (y7 fun v1=>(y7 fun v2=>(y5 (y6 rfl) yY))) (yq (y6 rfl))
def zH_M(l:List (Q3))(of:(Q3)×Unit→Option ((Nat×Nat)×Unit)):Option (List (Nat×Nat)×Unit) :=
  (bif decide (List.length (l) < lenMax)then yP (fun i__ e__ s__=>yN6 (of) (l) i__ e__ s__) (fun s__=>yLs (of) (l) s__) 0 (l) ([])else none)
theorem yRs(l:List (Q3))(of:(Q3)×Unit→Option ((Nat×Nat)×Unit))(y:List (Nat×Nat)×Unit)(h:zH_M l of=some y):∃ n,zH_m n l of=some y :=
  ⟨big,LeF.top (show LeF some (zH_M l of) (zH_m big l of)from (fun (n:Nat) (hn:big≤n)=>show LeF some (zH_M l of) (zH_m n l of)from (yL fun hx=>by apply yFZ n hn;exact hx)) big (Nat.le_refl _)) h⟩
def zH_e:Entry:={ f:=139,args:=zH_a,ress:=zH_r,m:=fun x=>zH_M x.1 x.2.1 }
theorem yTo:FnOK Tryz.prog zH_e:=yO (g:=zH_g) (fn:=Tryz.f139) yD yK eNil (by kernel_rfl) (by kernel_rfl) (by kernel_rfl) (fun x y h=>let ⟨n,hn⟩:=yRs x.1 x.2.1 y h;⟨yPI n,iNil,(yUZ n x).trans hn⟩)
abbrev yMS:Ty:=.pair t57 (.pair (.ref t165) .unit)
abbrev ySh:Ty:=.pair t165 .unit
def yQx:G:={ T:=T,E:=[],muts:=[],fz:=[] }
def yTv:List (List Nat):=[]
def yKi(n:Nat):Ann:={ keep:=yTv,fuel:=n,inl:=[],deep:=0 }
def yK0(n:Nat)(z:Q3)(p1:Nat×Nat):Option ((Nat×Nat)×Unit) :=
  some ((yh Go.BinOp.quo Go.FloatKind.f32 (y0i Go.FloatKind.f32 z.1) p1.1,yh Go.BinOp.quo Go.FloatKind.f32 (y0i Go.FloatKind.f32 z.2.1) p1.1),())
theorem ySC(n:Nat)(x:yMS.den):runF yQx (yKi n) Tryz.f140 yMS ySh x=yK0 n x.1 x.2.1:=by kernel_rfl
def z0J(z:Q3)(p1:Nat×Nat):((Nat×Nat)×Unit) :=
  ((yh Go.BinOp.quo Go.FloatKind.f32 (y0i Go.FloatKind.f32 z.1) p1.1,yh Go.BinOp.quo Go.FloatKind.f32 (y0i Go.FloatKind.f32 z.2.1) p1.1),())
abbrev yNn (z:Q3) (p1:Nat×Nat):Option ((Nat×Nat)×Unit):=some (z0J z p1)
theorem yMI(z:Q3)(p1:Nat×Nat)(y:(Nat×Nat)×Unit)(h:yNn z p1=some y):∃ n,yK0 n z p1=some y :=
  ⟨0,by rw[← h];show yK0 0 z p1=some (z0J z p1);unfold yK0 z0J;first|rfl|(simp only[yI];done)|(simp only[yI];rfl)⟩
def z0J_e:Entry:={ f:=140,args:=yMS,ress:=ySh,m:=fun x=>yNn x.1 x.2.1 }
theorem yQd:FnOK Tryz.prog z0J_e:=yO (g:=yQx) (fn:=Tryz.f140) yD yK eNil (by kernel_rfl) (by kernel_rfl) (by kernel_rfl) (fun x y h=>let ⟨n,hn⟩:=yMI x.1 x.2.1 y h;⟨yKi n,iNil,(ySC n x).trans hn⟩)
def il124:Inl:={ f:=124,fn:=Tryz.f124,keep:=[],muts:=[],fz:=[] }
theorem y4Y:y5x Tryz.prog il124:=⟨by kernel_rfl,by kernel_rfl,fun e0 h=>by cases (show (none:Option LibK)=some e0 from h)⟩
def il195:Inl:={ f:=195,fn:=Tryz.f195,keep:=[[0,1,3,9,10,11],[0,1,3,4,5,9,10,11]],muts:=[],fz:=[] }
theorem y4T:y5x Tryz.prog il195:=⟨by kernel_rfl,by kernel_rfl,fun e0 h=>by cases (show (none:Option LibK)=some e0 from h)⟩
abbrev yLe:Ty:=.pair t60 .unit
abbrev yRd:Ty:=.pair t41 .unit
def yRp:G:={ T:=T,E:=[],muts:=[3],fz:=[] }
def yVd:List (List Nat):=[]
def yKa(n:Nat):Ann:={ keep:=yVd,fuel:=n,inl:=[il124,il195],deep:=3 }
def y7c(n:Nat)(r0:List UInt8×Int×List Nat×List (Q3)×Unit→List (Q3)→List Nat→Int→Int→List UInt8×Int×List Nat×List (Q3)×Unit→List UInt8×Int×List Nat×List (Q3)×Unit→List UInt8×Int×List Nat×List (Q3)×Unit→List UInt8×Int×List Nat×List (Q3)×Unit→List Int→List UInt8×Int×List Nat×List (Q3)×Unit→List UInt8×Int×List Nat×List (Q3)×Unit→List UInt8×Int×List Nat×List (Q3)×Unit→List UInt8×Int×List Nat×List (Q3)×Unit→Option (List Int×Unit))(j8:List UInt8×Int×List Nat×List (Q3)×Unit)(j9:List (Q3))(j10:Int)(j11:Nat)(j12:List Nat)(j13:Int)(j14:Int)(j15:List UInt8×Int×List Nat×List (Q3)×Unit)(j16:List UInt8×Int×List Nat×List (Q3)×Unit)(j17:List UInt8×Int×List Nat×List (Q3)×Unit)(j18:List UInt8×Int×List Nat×List (Q3)×Unit)(j19:List Int)(j20:List UInt8×Int×List Nat×List (Q3)×Unit)(j21:List UInt8×Int×List Nat×List (Q3)×Unit)(j22:List UInt8×Int×List Nat×List (Q3)×Unit)(j23:List UInt8×Int×List Nat×List (Q3)×Unit):Option (List Int×Unit) :=
  (bif decide ((↑j9.length:Int) > 0)then (Option.bind (idx j9 (0:Int)) fun v24=>(bif decide (v24.1≤j10)then r0 j8 j9 j12 j13 (IntKind.i64.wrap (j14+1)) j15 j16 j17 j18 j19 j20 j21 j22 j23 else (Option.bind (ym Go.FloatKind.f32 (yh Go.BinOp.mul Go.FloatKind.f32 j11 (nat_lit 1098907648)) IntKind.i64) fun v29=>(bif decide (j19.length+(1:Nat)≤memMax)then r0 j8 j9 j12 j13 (IntKind.i64.wrap (j14+1)) j15 j16 j17 j18 (j19++[IntKind.i64.wrap (j8.2.1+j10)]) j20 j21 j22 j23 else none))))else (Option.bind (ym Go.FloatKind.f32 (yh Go.BinOp.mul Go.FloatKind.f32 j11 (nat_lit 1098907648)) IntKind.i64) fun v30=>(bif decide (j19.length+(1:Nat)≤memMax)then r0 j8 j9 j12 j13 (IntKind.i64.wrap (j14+1)) j15 j16 j17 j18 (j19++[IntKind.i64.wrap (j8.2.1+j10)]) j20 j21 j22 j23 else none)))
def yDO(n:Nat)(r0:List UInt8×Int×List Nat×List (Q3)×Unit→List (Q3)→List Nat→Int→Int→List UInt8×Int×List Nat×List (Q3)×Unit→List UInt8×Int×List Nat×List (Q3)×Unit→List UInt8×Int×List Nat×List (Q3)×Unit→List UInt8×Int×List Nat×List (Q3)×Unit→List Int→List UInt8×Int×List Nat×List (Q3)×Unit→List UInt8×Int×List Nat×List (Q3)×Unit→List UInt8×Int×List Nat×List (Q3)×Unit→List UInt8×Int×List Nat×List (Q3)×Unit→Option (List Int×Unit))(r2:List UInt8×Int×List Nat×List (Q3)×Unit→List (Q3)→Int→Nat→List Nat→Int→Int→List UInt8×Int×List Nat×List (Q3)×Unit→List UInt8×Int×List Nat×List (Q3)×Unit→List UInt8×Int×List Nat×List (Q3)×Unit→List UInt8×Int×List Nat×List (Q3)×Unit→List Int→List UInt8×Int×List Nat×List (Q3)×Unit→List UInt8×Int×List Nat×List (Q3)×Unit→List UInt8×Int×List Nat×List (Q3)×Unit→List UInt8×Int×List Nat×List (Q3)×Unit→Option (List Int×Unit))(aA:List UInt8×Int×List Nat×List (Q3)×Unit)(ac:List (Q3))(aB:Int)(aF:Nat)(av:List Nat)(aq:Int)(ar:Int)(p0_0_2:List UInt8×Int×List Nat×List (Q3)×Unit)(p0_1_2:List UInt8×Int×List Nat×List (Q3)×Unit)(p0_5_2:List UInt8×Int×List Nat×List (Q3)×Unit)(p0_6_2_0:List UInt8×Int×List Nat×List (Q3)×Unit)(bi:List Int)(aC:List UInt8×Int×List Nat×List (Q3)×Unit)(aD:List UInt8×Int×List Nat×List (Q3)×Unit)(aQ:List UInt8×Int×List Nat×List (Q3)×Unit)(k6_2_0:List UInt8×Int×List Nat×List (Q3)×Unit):Option (List Int×Unit) :=
  (bif decide ((↑ac.length:Int) > 0)then (Option.bind (idx ac (0:Int)) fun v3=>(bif decide (v3.2.1≤aB)then (bif decide ((0:Int)≤1) && decide ((1:Int)≤(↑ac.length:Int))then r2 aA (List.drop (Int.toNat (1:Int)) ac) aB aF av aq ar p0_0_2 p0_1_2 p0_5_2 p0_6_2_0 bi aC aD aQ k6_2_0 else none)else (y7c n r0 (aA) (ac) (aB) (aF) (av) (aq) (ar) (p0_0_2) (p0_1_2) (p0_5_2) (p0_6_2_0) (bi) (aC) (aD) (aQ) (k6_2_0))))else (y7c n r0 (aA) (ac) (aB) (aF) (av) (aq) (ar) (p0_0_2) (p0_1_2) (p0_5_2) (p0_6_2_0) (bi) (aC) (aD) (aQ) (k6_2_0)))
def y6Y(n:Nat)(r0:List UInt8×Int×List Nat×List (Q3)×Unit→List (Q3)→List Nat→Int→Int→List UInt8×Int×List Nat×List (Q3)×Unit→List UInt8×Int×List Nat×List (Q3)×Unit→List UInt8×Int×List Nat×List (Q3)×Unit→List UInt8×Int×List Nat×List (Q3)×Unit→List Int→List UInt8×Int×List Nat×List (Q3)×Unit→List UInt8×Int×List Nat×List (Q3)×Unit→List UInt8×Int×List Nat×List (Q3)×Unit→List UInt8×Int×List Nat×List (Q3)×Unit→Option (List Int×Unit))(k:Nat)(aA:List UInt8×Int×List Nat×List (Q3)×Unit)(ac:List (Q3))(aB:Int)(aF:Nat)(av:List Nat)(aq:Int)(ar:Int)(p0_0_2:List UInt8×Int×List Nat×List (Q3)×Unit)(p0_1_2:List UInt8×Int×List Nat×List (Q3)×Unit)(p0_5_2:List UInt8×Int×List Nat×List (Q3)×Unit)(p0_6_2_0:List UInt8×Int×List Nat×List (Q3)×Unit)(bi:List Int)(aC:List UInt8×Int×List Nat×List (Q3)×Unit)(aD:List UInt8×Int×List Nat×List (Q3)×Unit)(aQ:List UInt8×Int×List Nat×List (Q3)×Unit)(k6_2_0:List UInt8×Int×List Nat×List (Q3)×Unit):Option (List Int×Unit) :=
  iter (fun r y=>yDO n r0 (fun aA ac aB aF av aq ar p0_0_2 p0_1_2 p0_5_2 p0_6_2_0 bi aC aD aQ k6_2_0=>r ((aA,(ac,(aB,(aF,(av,(aq,(ar,()))))))),(((p0_0_2,(p0_1_2,(p0_5_2,((p0_6_2_0,()),())))),((),(bi,()))),(aC,(aD,(aQ,((k6_2_0,()),()))))))) y.1.1 y.1.2.1 y.1.2.2.1 y.1.2.2.2.1 y.1.2.2.2.2.1 y.1.2.2.2.2.2.1 y.1.2.2.2.2.2.2.1 y.2.1.1.1 y.2.1.1.2.1 y.2.1.1.2.2.1 y.2.1.1.2.2.2.1.1 y.2.1.2.2.1 y.2.2.1 y.2.2.2.1 y.2.2.2.2.1 y.2.2.2.2.2.1.1) k ((aA,(ac,(aB,(aF,(av,(aq,(ar,()))))))),(((p0_0_2,(p0_1_2,(p0_5_2,((p0_6_2_0,()),())))),((),(bi,()))),(aC,(aD,(aQ,((k6_2_0,()),()))))))
def yDa(n:Nat)(r0:List UInt8×Int×List Nat×List (Q3)×Unit→List (Q3)→List Nat→Int→Int→List UInt8×Int×List Nat×List (Q3)×Unit→List UInt8×Int×List Nat×List (Q3)×Unit→List UInt8×Int×List Nat×List (Q3)×Unit→List UInt8×Int×List Nat×List (Q3)×Unit→List Int→List UInt8×Int×List Nat×List (Q3)×Unit→List UInt8×Int×List Nat×List (Q3)×Unit→List UInt8×Int×List Nat×List (Q3)×Unit→List UInt8×Int×List Nat×List (Q3)×Unit→Option (List Int×Unit))(aw:List UInt8×Int×List Nat×List (Q3)×Unit)(aj:List (Q3))(af:List Nat)(ae:Int)(am:Int)(p0_0_0:List UInt8×Int×List Nat×List (Q3)×Unit)(p0_1_0:List UInt8×Int×List Nat×List (Q3)×Unit)(p0_5_0:List UInt8×Int×List Nat×List (Q3)×Unit)(p0_6_0_0:List UInt8×Int×List Nat×List (Q3)×Unit)(bt:List Int)(aG:List UInt8×Int×List Nat×List (Q3)×Unit)(aH:List UInt8×Int×List Nat×List (Q3)×Unit)(aU:List UInt8×Int×List Nat×List (Q3)×Unit)(k6_0_0:List UInt8×Int×List Nat×List (Q3)×Unit):Option (List Int×Unit) :=
  (bif decide (am < ae)then (Option.bind (idx af am) fun v1=>(y6Y n r0 n (aw) (aj) (am) (v1) (af) (ae) (am) (p0_0_0) (p0_1_0) (p0_5_0) (p0_6_0_0) (bt) (aG) (aH) (aU) (k6_0_0)))else some (bt,()))
def y62(n:Nat)(k:Nat)(aw:List UInt8×Int×List Nat×List (Q3)×Unit)(aj:List (Q3))(af:List Nat)(ae:Int)(am:Int)(p0_0_0:List UInt8×Int×List Nat×List (Q3)×Unit)(p0_1_0:List UInt8×Int×List Nat×List (Q3)×Unit)(p0_5_0:List UInt8×Int×List Nat×List (Q3)×Unit)(p0_6_0_0:List UInt8×Int×List Nat×List (Q3)×Unit)(bt:List Int)(aG:List UInt8×Int×List Nat×List (Q3)×Unit)(aH:List UInt8×Int×List Nat×List (Q3)×Unit)(aU:List UInt8×Int×List Nat×List (Q3)×Unit)(k6_0_0:List UInt8×Int×List Nat×List (Q3)×Unit):Option (List Int×Unit) :=
  iter (fun r y=>yDa n (fun aw aj af ae am p0_0_0 p0_1_0 p0_5_0 p0_6_0_0 bt aG aH aU k6_0_0=>r ((aw,(aj,(af,(ae,(am,()))))),(((p0_0_0,(p0_1_0,(p0_5_0,((p0_6_0_0,()),())))),((),(bt,()))),(aG,(aH,(aU,((k6_0_0,()),()))))))) y.1.1 y.1.2.1 y.1.2.2.1 y.1.2.2.2.1 y.1.2.2.2.2.1 y.2.1.1.1 y.2.1.1.2.1 y.2.1.1.2.2.1 y.2.1.1.2.2.2.1.1 y.2.1.2.2.1 y.2.2.1 y.2.2.2.1 y.2.2.2.2.1 y.2.2.2.2.2.1.1) k ((aw,(aj,(af,(ae,(am,()))))),(((p0_0_0,(p0_1_0,(p0_5_0,((p0_6_0_0,()),())))),((),(bt,()))),(aG,(aH,(aU,((k6_0_0,()),()))))))
def yJB(n:Nat)(r1:List UInt8×Int×List Nat×List (Q3)×Unit):Option (List Int×Unit) :=
  (y62 n n (r1) (r1.2.2.2.1) (r1.2.2.1) ((↑r1.2.2.1.length:Int)) ((0:Int)) (r1) (r1) (r1) (r1) ([]) (r1) (r1) (r1) (r1))
theorem yPN(n:Nat)(x:yLe.den):runF yRp (yKa n) Tryz.f147 yLe yRd x=yJB n x.1:=by kernel_rfl
def yCX(j8:List UInt8×Int×List Nat×List (Q3)×Unit)(j9:List (Q3))(j10:Int)(j11:Nat)(j12:List Nat)(j13:Int)(j14:Int)(j15:List UInt8×Int×List Nat×List (Q3)×Unit)(j16:List UInt8×Int×List Nat×List (Q3)×Unit)(j17:List UInt8×Int×List Nat×List (Q3)×Unit)(j18:List UInt8×Int×List Nat×List (Q3)×Unit)(j19:List Int)(j20:List UInt8×Int×List Nat×List (Q3)×Unit)(j21:List UInt8×Int×List Nat×List (Q3)×Unit)(j22:List UInt8×Int×List Nat×List (Q3)×Unit)(j23:List UInt8×Int×List Nat×List (Q3)×Unit):Option ((List Int×Unit)⊕((List (Q3))×List Int)) :=
  (bif decide ((↑j9.length:Int) > 0)then (Option.bind (idx j9 (0:Int)) fun v24=>(bif decide (v24.1≤j10)then (some (Sum.inr ((j9),(j19))))else (Option.bind (ym Go.FloatKind.f32 (yh Go.BinOp.mul Go.FloatKind.f32 j11 (nat_lit 1098907648)) IntKind.i64) fun v29=>(bif decide (j19.length+(1:Nat)≤memMax)then (some (Sum.inr ((j9),(j19++[IntKind.i64.wrap (j8.2.1+j10)]))))else none))))else (Option.bind (ym Go.FloatKind.f32 (yh Go.BinOp.mul Go.FloatKind.f32 j11 (nat_lit 1098907648)) IntKind.i64) fun v30=>(bif decide (j19.length+(1:Nat)≤memMax)then (some (Sum.inr ((j9),(j19++[IntKind.i64.wrap (j8.2.1+j10)]))))else none)))
theorem y2T(n:Nat)(hn:big≤n)(r0:List UInt8×Int×List Nat×List (Q3)×Unit→List (Q3)→List Nat→Int→Int→List UInt8×Int×List Nat×List (Q3)×Unit→List UInt8×Int×List Nat×List (Q3)×Unit→List UInt8×Int×List Nat×List (Q3)×Unit→List UInt8×Int×List Nat×List (Q3)×Unit→List Int→List UInt8×Int×List Nat×List (Q3)×Unit→List UInt8×Int×List Nat×List (Q3)×Unit→List UInt8×Int×List Nat×List (Q3)×Unit→List UInt8×Int×List Nat×List (Q3)×Unit→Option (List Int×Unit))(j8:List UInt8×Int×List Nat×List (Q3)×Unit)(j9:List (Q3))(j10:Int)(j11:Nat)(j12:List Nat)(j13:Int)(j14:Int)(j15:List UInt8×Int×List Nat×List (Q3)×Unit)(j16:List UInt8×Int×List Nat×List (Q3)×Unit)(j17:List UInt8×Int×List Nat×List (Q3)×Unit)(j18:List UInt8×Int×List Nat×List (Q3)×Unit)(j19:List Int)(j20:List UInt8×Int×List Nat×List (Q3)×Unit)(j21:List UInt8×Int×List Nat×List (Q3)×Unit)(j22:List UInt8×Int×List Nat×List (Q3)×Unit)(j23:List UInt8×Int×List Nat×List (Q3)×Unit):LeF (elim some fun (s__:((List (Q3))×List Int))=>r0 j8 s__.1 j12 j13 (IntKind.i64.wrap (j14+1)) j15 j16 j17 j18 s__.2 j20 j21 j22 j23) (yCX j8 j9 j10 j11 j12 j13 j14 j15 j16 j17 j18 j19 j20 j21 j22 j23) (y7c n r0 j8 j9 j10 j11 j12 j13 j14 j15 j16 j17 j18 j19 j20 j21 j22 j23) :=
  (y5 (y7 fun v24=>(y5 (y6 rfl) (y7 fun v29=>(y5 (y6 rfl) yY)))) (y7 fun v30=>(y5 (y6 rfl) yY)))
def yGd(aA:List UInt8×Int×List Nat×List (Q3)×Unit)(aB:Int)(aF:Nat)(av:List Nat)(aq:Int)(ar:Int)(p0_0_2:List UInt8×Int×List Nat×List (Q3)×Unit)(p0_1_2:List UInt8×Int×List Nat×List (Q3)×Unit)(p0_5_2:List UInt8×Int×List Nat×List (Q3)×Unit)(p0_6_2_0:List UInt8×Int×List Nat×List (Q3)×Unit)(bi:List Int)(aC:List UInt8×Int×List Nat×List (Q3)×Unit)(aD:List UInt8×Int×List Nat×List (Q3)×Unit)(aQ:List UInt8×Int×List Nat×List (Q3)×Unit)(k6_2_0:List UInt8×Int×List Nat×List (Q3)×Unit)(ac:List (Q3)):Option (((List Int×Unit)⊕((List (Q3))×List Int))⊕(List (Q3))) :=
  (bif decide ((↑ac.length:Int) > 0)then (Option.bind (idx ac (0:Int)) fun v3=>(bif decide (v3.2.1≤aB)then (bif decide ((0:Int)≤1) && decide ((1:Int)≤(↑ac.length:Int))then (some (Sum.inr (List.drop (Int.toNat (1:Int)) ac)))else none)else (Option.map Sum.inl (yCX (aA) (ac) (aB) (aF) (av) (aq) (ar) (p0_0_2) (p0_1_2) (p0_5_2) (p0_6_2_0) (bi) (aC) (aD) (aQ) (k6_2_0)))))else (Option.map Sum.inl (yCX (aA) (ac) (aB) (aF) (av) (aq) (ar) (p0_0_2) (p0_1_2) (p0_5_2) (p0_6_2_0) (bi) (aC) (aD) (aQ) (k6_2_0))))
theorem yCo(n:Nat)(hn:big≤n)(r0:List UInt8×Int×List Nat×List (Q3)×Unit→List (Q3)→List Nat→Int→Int→List UInt8×Int×List Nat×List (Q3)×Unit→List UInt8×Int×List Nat×List (Q3)×Unit→List UInt8×Int×List Nat×List (Q3)×Unit→List UInt8×Int×List Nat×List (Q3)×Unit→List Int→List UInt8×Int×List Nat×List (Q3)×Unit→List UInt8×Int×List Nat×List (Q3)×Unit→List UInt8×Int×List Nat×List (Q3)×Unit→List UInt8×Int×List Nat×List (Q3)×Unit→Option (List Int×Unit))(aA:List UInt8×Int×List Nat×List (Q3)×Unit)(aB:Int)(aF:Nat)(av:List Nat)(aq:Int)(ar:Int)(p0_0_2:List UInt8×Int×List Nat×List (Q3)×Unit)(p0_1_2:List UInt8×Int×List Nat×List (Q3)×Unit)(p0_5_2:List UInt8×Int×List Nat×List (Q3)×Unit)(p0_6_2_0:List UInt8×Int×List Nat×List (Q3)×Unit)(bi:List Int)(aC:List UInt8×Int×List Nat×List (Q3)×Unit)(aD:List UInt8×Int×List Nat×List (Q3)×Unit)(aQ:List UInt8×Int×List Nat×List (Q3)×Unit)(k6_2_0:List UInt8×Int×List Nat×List (Q3)×Unit)(ac:List (Q3)):LeF (elim some fun (s__:((List (Q3))×List Int))=>r0 aA s__.1 av aq (IntKind.i64.wrap (ar+1)) p0_0_2 p0_1_2 p0_5_2 p0_6_2_0 s__.2 aC aD aQ k6_2_0) (y3e (fun s__=>yGd aA aB aF av aq ar p0_0_2 p0_1_2 p0_5_2 p0_6_2_0 bi aC aD aQ k6_2_0 s__) wMax ac) (y6Y n r0 n aA ac aB aF av aq ar p0_0_2 p0_1_2 p0_5_2 p0_6_2_0 bi aC aD aQ k6_2_0):=by
  refine y2x (f:=(elim some fun (s__:((List (Q3))×List Int))=>r0 aA s__.1 av aq (IntKind.i64.wrap (ar+1)) p0_0_2 p0_1_2 p0_5_2 p0_6_2_0 s__.2 aC aD aQ k6_2_0)) (W:=fun k__ s__=>y6Y n r0 k__ aA s__ aB aF av aq ar p0_0_2 p0_1_2 p0_5_2 p0_6_2_0 bi aC aD aQ k6_2_0) (body:=(fun s__=>yGd aA aB aF av aq ar p0_0_2 p0_1_2 p0_5_2 p0_6_2_0 bi aC aD aQ k6_2_0 s__)) (fun k__ s__=>?_) wMax n ac (by unfold big at hn;unfold wMax;omega)
  show LeF _ _ (yDO n r0 (y6Y n r0 k__) aA s__ aB aF av aq ar p0_0_2 p0_1_2 p0_5_2 p0_6_2_0 bi aC aD aQ k6_2_0)
  exact (y5 (y7 fun v3=>(y5 (y5 (y6 rfl) yY) (yq (by apply y2T n hn)))) (yq (by apply y2T n hn)))
def yH5(aw:List UInt8×Int×List Nat×List (Q3)×Unit)(af:List Nat)(p0_0_0:List UInt8×Int×List Nat×List (Q3)×Unit)(p0_1_0:List UInt8×Int×List Nat×List (Q3)×Unit)(p0_5_0:List UInt8×Int×List Nat×List (Q3)×Unit)(p0_6_0_0:List UInt8×Int×List Nat×List (Q3)×Unit)(aG:List UInt8×Int×List Nat×List (Q3)×Unit)(aH:List UInt8×Int×List Nat×List (Q3)×Unit)(aU:List UInt8×Int×List Nat×List (Q3)×Unit)(k6_0_0:List UInt8×Int×List Nat×List (Q3)×Unit)(am:Int)(v1:Nat)(aj:List (Q3))(bt:List Int):Option ((List Int×Unit)⊕((List (Q3))×List Int)) :=
  (y3e (fun s__=>yGd (aw) (am) (v1) (af) ((↑af.length:Int)) (am) (p0_0_0) (p0_1_0) (p0_5_0) (p0_6_0_0) (bt) (aG) (aH) (aU) (k6_0_0) s__) wMax (aj))
def yH6(aw:List UInt8×Int×List Nat×List (Q3)×Unit)(af:List Nat)(p0_0_0:List UInt8×Int×List Nat×List (Q3)×Unit)(p0_1_0:List UInt8×Int×List Nat×List (Q3)×Unit)(p0_5_0:List UInt8×Int×List Nat×List (Q3)×Unit)(p0_6_0_0:List UInt8×Int×List Nat×List (Q3)×Unit)(aG:List UInt8×Int×List Nat×List (Q3)×Unit)(aH:List UInt8×Int×List Nat×List (Q3)×Unit)(aU:List UInt8×Int×List Nat×List (Q3)×Unit)(k6_0_0:List UInt8×Int×List Nat×List (Q3)×Unit)(aj:List (Q3))(bt:List Int):Option (List Int×Unit) :=
  (some ((bt,())))
theorem yCc(n:Nat)(hn:big≤n)(aw:List UInt8×Int×List Nat×List (Q3)×Unit)(af:List Nat)(p0_0_0:List UInt8×Int×List Nat×List (Q3)×Unit)(p0_1_0:List UInt8×Int×List Nat×List (Q3)×Unit)(p0_5_0:List UInt8×Int×List Nat×List (Q3)×Unit)(p0_6_0_0:List UInt8×Int×List Nat×List (Q3)×Unit)(aG:List UInt8×Int×List Nat×List (Q3)×Unit)(aH:List UInt8×Int×List Nat×List (Q3)×Unit)(aU:List UInt8×Int×List Nat×List (Q3)×Unit)(k6_0_0:List UInt8×Int×List Nat×List (Q3)×Unit)(aj:List (Q3))(bt:List Int)(hx:List.length (af) < lenMax):LeF some (yP (fun i__ e__ s__=>yH5 aw af p0_0_0 p0_1_0 p0_5_0 p0_6_0_0 aG aH aU k6_0_0 i__ e__ s__.1 s__.2) (fun s__=>yH6 aw af p0_0_0 p0_1_0 p0_5_0 p0_6_0_0 aG aH aU k6_0_0 s__.1 s__.2) 0 (af) (aj,bt)) (y62 n n aw aj af (List.length (af):Int) 0 p0_0_0 p0_1_0 p0_5_0 p0_6_0_0 bt aG aH aU k6_0_0):=by
  refine yM (f:=some) (W:=fun k__ i__ s__=>y62 n k__ aw s__.1 af (List.length (af):Int) i__ p0_0_0 p0_1_0 p0_5_0 p0_6_0_0 s__.2 aG aH aU k6_0_0) (body:=(fun i__ e__ s__=>yH5 aw af p0_0_0 p0_1_0 p0_5_0 p0_6_0_0 aG aH aU k6_0_0 i__ e__ s__.1 s__.2)) (fin:=(fun s__=>yH6 aw af p0_0_0 p0_1_0 p0_5_0 p0_6_0_0 aG aH aU k6_0_0 s__.1 s__.2)) (fun k__ i__ s__=>?_) hx (aj,bt) n (by unfold big at hn;unfold lenMax at hx;omega)
  show LeF _ _ (yDa n (y62 n k__) aw s__.1 af (List.length (af):Int) i__ p0_0_0 p0_1_0 p0_5_0 p0_6_0_0 s__.2 aG aH aU k6_0_0)
  exact y5 (y7 fun v1=>(by apply yCo n hn)) (yq (y6 rfl))
def yCD(r1:List UInt8×Int×List Nat×List (Q3)×Unit):Option (List Int×Unit) :=
  (bif decide (List.length (r1.2.2.1) < lenMax)then yP (fun i__ e__ s__=>yH5 (r1) (r1.2.2.1) (r1) (r1) (r1) (r1) (r1) (r1) (r1) (r1) i__ e__ s__.1 s__.2) (fun s__=>yH6 (r1) (r1.2.2.1) (r1) (r1) (r1) (r1) (r1) (r1) (r1) (r1) s__.1 s__.2) 0 (r1.2.2.1) ((r1.2.2.2.1),([]))else none)
theorem yN3(r1:List UInt8×Int×List Nat×List (Q3)×Unit)(y:List Int×Unit)(h:yCD r1=some y):∃ n,yJB n r1=some y :=
  ⟨big,LeF.top (show LeF some (yCD r1) (yJB big r1)from (fun (n:Nat) (hn:big≤n)=>show LeF some (yCD r1) (yJB n r1)from (yL fun hx=>by apply yCc n hn;exact hx)) big (Nat.le_refl _)) h⟩
def z0f_e:Entry:={ f:=147,args:=yLe,ress:=yRd,m:=fun x=>yCD x.1 }
theorem yL3:FnOK Tryz.prog z0f_e:=yO (g:=yRp) (fn:=Tryz.f147) yD yK eNil (by kernel_rfl) (by kernel_rfl) (by kernel_rfl) (fun x y h=>let ⟨n,hn⟩:=yN3 x.1 y h;⟨yKa n,(y4r y4Y (y4r y4T iNil)),(yPN n x).trans hn⟩)
abbrev zQ_a:Ty:=.pair t55 (.pair t3 .unit)
abbrev zQ_r:Ty:=.pair t57 .unit
def zQ_g:G:={ T:=T,E:=[],muts:=[],fz:=[] }
def zQ_k:List (List Nat):=[]
def yTH(n:Nat):Ann:={ keep:=zQ_k,fuel:=n,inl:=[],deep:=0 }
def zQ_m(n:Nat)(c:Q2)(tick:Int):Option ((Q3)×Unit) :=
  (bif c.2.1==0 then none else (Option.bind (idx [((1:Int),(0:Int),()),((0:Int),(1:Int),()),((-1:Int),(0:Int),()),((0:Int),(-1:Int),())] ((IntKind.i64.wrap (c.2.2.1 * IntKind.i64.wrap (tick.tdiv c.2.1))).tmod (4:Int))) fun v0=>some ((v0.1,v0.2.1,()),())))
theorem yUF(n:Nat)(x:zQ_a.den):runF zQ_g (yTH n) Tryz.f161 zQ_a zQ_r x=zQ_m n x.1 x.2.1:=by kernel_rfl
def zQ_M(c:Q2)(tick:Int):Option ((Q3)×Unit):=zQ_m 0 c tick
theorem yTN(c:Q2)(tick:Int)(y:(Q3)×Unit)(h:zQ_M c tick=some y):∃ n,zQ_m n c tick=some y:=⟨0,h⟩
def zQ_e:Entry:={ f:=161,args:=zQ_a,ress:=zQ_r,m:=fun x=>zQ_M x.1 x.2.1 }
theorem yNA:FnOK Tryz.prog zQ_e:=yO (g:=zQ_g) (fn:=Tryz.f161) yD yK eNil (by kernel_rfl) (by kernel_rfl) (by kernel_rfl) (fun x y h=>let ⟨n,hn⟩:=yTN x.1 x.2.1 y h;⟨yTH n,iNil,(yUF n x).trans hn⟩)
abbrev zA_a:Ty:=.pair t31 (.pair t215 .unit)
abbrev zA_r:Ty:=.pair t23 .unit
def zA_g:G:={ T:=T,E:=[],muts:=[5],fz:=[] }
def zA_k:List (List Nat):=[[1,5,8,9,10]]
def yTG(n:Nat):Ann:={ keep:=zA_k,fuel:=n,inl:=[],deep:=0 }
def yI3(n:Nat)(r0:((Q2)×Unit→Option ((Q3)×Unit))→List (Q2)→Int→Int→List (Q3)→Option (List (Q3)×Unit))(a7:(Q2)×Unit→Option ((Q3)×Unit))(a8:List (Q2))(af:Int)(ae:Int)(aa:List (Q3)):Option (List (Q3)×Unit) :=
  (bif decide (ae < af)then (Option.bind (idx a8 ae) fun v1=>(Option.bind (a7 ((v1.1,v1.2.1,v1.2.2.1,()),())) fun v2=>(bif decide (aa.length+(1:Nat)≤memMax)then r0 a7 a8 af (IntKind.i64.wrap (ae+1)) (aa++[v2.1])else none)))else some (aa,()))
def y9t(n:Nat)(k:Nat)(a7:(Q2)×Unit→Option ((Q3)×Unit))(a8:List (Q2))(af:Int)(ae:Int)(aa:List (Q3)):Option (List (Q3)×Unit) :=
  iter (fun r y=>yI3 n (fun a7 a8 af ae aa=>r ((a7,(a8,(af,(ae,())))),((aa,()),()))) y.1.1 y.1.2.1 y.1.2.2.1 y.1.2.2.2.1 y.2.1.1) k ((a7,(a8,(af,(ae,())))),((aa,()),()))
def zA_m(n:Nat)(l:List (Q2))(of:(Q2)×Unit→Option ((Q3)×Unit)):Option (List (Q3)×Unit) :=
  (y9t n n (of) (l) ((↑l.length:Int)) ((0:Int)) ([]))
theorem yV0(n:Nat)(x:zA_a.den):runF zA_g (yTG n) Tryz.f162 zA_a zA_r x=zA_m n x.1 x.2.1:=by kernel_rfl
def yO5(a7:(Q2)×Unit→Option ((Q3)×Unit))(a8:List (Q2))(ae:Int)(v1:Q2)(aa:List (Q3)):Option ((List (Q3)×Unit)⊕(List (Q3))) :=
  (Option.bind (a7 ((v1.1,v1.2.1,v1.2.2.1,()),())) fun v2=>(bif decide (aa.length+(1:Nat)≤memMax)then (some (Sum.inr (aa++[v2.1])))else none))
def yMq(a7:(Q2)×Unit→Option ((Q3)×Unit))(a8:List (Q2))(aa:List (Q3)):Option (List (Q3)×Unit) :=
  (some ((aa,())))
theorem yEO(n:Nat)(hn:big≤n)(a7:(Q2)×Unit→Option ((Q3)×Unit))(a8:List (Q2))(aa:List (Q3))(hx:List.length (a8) < lenMax):LeF some (yP (fun i__ e__ s__=>yO5 a7 a8 i__ e__ s__) (fun s__=>yMq a7 a8 s__) 0 (a8) aa) (y9t n n a7 a8 (List.length (a8):Int) 0 aa):=by
  refine yM (f:=some) (W:=fun k__ i__ s__=>y9t n k__ a7 a8 (List.length (a8):Int) i__ s__) (body:=(fun i__ e__ s__=>yO5 a7 a8 i__ e__ s__)) (fin:=(fun s__=>yMq a7 a8 s__)) (fun k__ i__ s__=>?_) hx aa n (by unfold big at hn;unfold lenMax at hx;omega)
  show LeF _ _ (yI3 n (y9t n k__) a7 a8 (List.length (a8):Int) i__ s__)
  exact y5 (y7 fun v1=>(y7 fun v2=>(y5 (y6 rfl) yY))) (yq (y6 rfl))
def zA_M(l:List (Q2))(of:(Q2)×Unit→Option ((Q3)×Unit)):Option (List (Q3)×Unit) :=
  (bif decide (List.length (l) < lenMax)then yP (fun i__ e__ s__=>yO5 (of) (l) i__ e__ s__) (fun s__=>yMq (of) (l) s__) 0 (l) ([])else none)
theorem yTU(l:List (Q2))(of:(Q2)×Unit→Option ((Q3)×Unit))(y:List (Q3)×Unit)(h:zA_M l of=some y):∃ n,zA_m n l of=some y :=
  ⟨big,LeF.top (show LeF some (zA_M l of) (zA_m big l of)from (fun (n:Nat) (hn:big≤n)=>show LeF some (zA_M l of) (zA_m n l of)from (yL fun hx=>by apply yEO n hn;exact hx)) big (Nat.le_refl _)) h⟩
def zA_e:Entry:={ f:=162,args:=zA_a,ress:=zA_r,m:=fun x=>zA_M x.1 x.2.1 }
theorem yMh:FnOK Tryz.prog zA_e:=yO (g:=zA_g) (fn:=Tryz.f162) yD yK eNil (by kernel_rfl) (by kernel_rfl) (by kernel_rfl) (fun x y h=>let ⟨n,hn⟩:=yTU x.1 x.2.1 y h;⟨yTG n,iNil,(yV0 n x).trans hn⟩)
abbrev zf_a:Ty:=.pair t183 (.pair t3 (.pair t23 .unit))
abbrev zf_r:Ty:=.pair t183 .unit
def zf_g:G:={ T:=T,E:=[],muts:=[],fz:=[11] }
def zf_k:List (List Nat):=[[0,1,2,7,13,14]]
def yPL(n:Nat):Ann:={ keep:=zf_k,fuel:=n,inl:=[],deep:=0 }
def yHO(n:Nat)(r0:List (List (Q3))→Int→List (Q3)→Int→Int→List (List (Q3))→Option (List (List (Q3))×Unit))(aK:List (List (Q3)))(au:Int)(az:List (Q3))(aZ:Int)(al:Int)(aa:List (List (Q3))):Option (List (List (Q3))×Unit) :=
  (bif decide (al < aZ)then (Option.bind (idx aK al) fun v1=>(bif Bool.true && decide ((0:Int)≤(↑v1.length:Int)) && decide ((↑v1.length:Int)≤(↑memMax:Int)) && (↑v1.length:Int)==(↑v1.length:Int)then (Option.bind (idx aa al) fun v2=>(Option.bind (aa[al.toNat]?) fun v3=>(Option.bind (idx (aa.set al.toNat (List.replicate ((↑v1.length:Int).toNat) (((0:Int),(0:Int),())):List (Q3))) al) fun v4=>(Option.bind ((aa.set al.toNat (List.replicate ((↑v1.length:Int).toNat) (((0:Int),(0:Int),())):List (Q3)))[al.toNat]?) fun v5=>(Option.bind (idx aK al) fun v6=>(Option.bind ((aa.set al.toNat (List.replicate ((↑v1.length:Int).toNat) (((0:Int),(0:Int),())):List (Q3)))[al.toNat]?) fun v7=>(bif decide (v6.length=v7.length)then (Option.bind (idx ((aa.set al.toNat (List.replicate ((↑v1.length:Int).toNat) (((0:Int),(0:Int),())):List (Q3))).set al.toNat v6) al) fun v8=>(Option.bind (((aa.set al.toNat (List.replicate ((↑v1.length:Int).toNat) (((0:Int),(0:Int),())):List (Q3))).set al.toNat v6)[al.toNat]?) fun v9=>(Option.bind (idx az al) fun v10=>(Option.bind (((aa.set al.toNat (List.replicate ((↑v1.length:Int).toNat) (((0:Int),(0:Int),())):List (Q3))).set al.toNat v6)[al.toNat]?) fun v11=>(Option.bind (idx v11 au) fun v12=>(Option.bind (((aa.set al.toNat (List.replicate ((↑v1.length:Int).toNat) (((0:Int),(0:Int),())):List (Q3))).set al.toNat v6)[al.toNat]?) fun v13=>(Option.bind (v13[au.toNat]?) fun v14=>r0 aK au az aZ (IntKind.i64.wrap (al+1)) (((aa.set al.toNat (List.replicate ((↑v1.length:Int).toNat) (((0:Int),(0:Int),())):List (Q3))).set al.toNat v6).set al.toNat (v13.set au.toNat v10)))))))))else none)))))))else none))else some (aa,()))
def y9q(n:Nat)(k:Nat)(aK:List (List (Q3)))(au:Int)(az:List (Q3))(aZ:Int)(al:Int)(aa:List (List (Q3))):Option (List (List (Q3))×Unit) :=
  iter (fun r y=>yHO n (fun aK au az aZ al aa=>r ((aK,(au,(az,(aZ,(al,()))))),((aa,()),()))) y.1.1 y.1.2.1 y.1.2.2.1 y.1.2.2.2.1 y.1.2.2.2.2.1 y.2.1.1) k ((aK,(au,(az,(aZ,(al,()))))),((aa,()),()))
def zf_m(n:Nat)(m:List (List (Q3)))(column:Int)(values:List (Q3)):Option (List (List (Q3))×Unit) :=
  (bif Bool.true && decide ((0:Int)≤(↑m.length:Int)) && decide ((↑m.length:Int)≤(↑memMax:Int)) && (↑m.length:Int)==(↑m.length:Int)then (y9q n n (m) (column) (values) ((↑m.length:Int)) ((0:Int)) ((List.replicate ((↑m.length:Int).toNat) ([]):List (List (Q3)))))else none)
theorem yVe(n:Nat)(x:zf_a.den):runF zf_g (yPL n) Tryz.f164 zf_a zf_r x=zf_m n x.1 x.2.1 x.2.2.1:=by kernel_rfl
def yMn(aK:List (List (Q3)))(au:Int)(az:List (Q3))(al:Int)(v1:List (Q3))(aa:List (List (Q3))):Option ((List (List (Q3))×Unit)⊕(List (List (Q3)))) :=
  (bif Bool.true && decide ((0:Int)≤(↑v1.length:Int)) && decide ((↑v1.length:Int)≤(↑memMax:Int)) && (↑v1.length:Int)==(↑v1.length:Int)then (Option.bind (idx aa al) fun v2=>(Option.bind (aa[al.toNat]?) fun v3=>(Option.bind (idx (aa.set al.toNat (List.replicate ((↑v1.length:Int).toNat) (((0:Int),(0:Int),())):List (Q3))) al) fun v4=>(Option.bind ((aa.set al.toNat (List.replicate ((↑v1.length:Int).toNat) (((0:Int),(0:Int),())):List (Q3)))[al.toNat]?) fun v5=>(Option.bind (idx aK al) fun v6=>(Option.bind ((aa.set al.toNat (List.replicate ((↑v1.length:Int).toNat) (((0:Int),(0:Int),())):List (Q3)))[al.toNat]?) fun v7=>(bif decide (v6.length=v7.length)then (Option.bind (idx ((aa.set al.toNat (List.replicate ((↑v1.length:Int).toNat) (((0:Int),(0:Int),())):List (Q3))).set al.toNat v6) al) fun v8=>(Option.bind (((aa.set al.toNat (List.replicate ((↑v1.length:Int).toNat) (((0:Int),(0:Int),())):List (Q3))).set al.toNat v6)[al.toNat]?) fun v9=>(Option.bind (idx az al) fun v10=>(Option.bind (((aa.set al.toNat (List.replicate ((↑v1.length:Int).toNat) (((0:Int),(0:Int),())):List (Q3))).set al.toNat v6)[al.toNat]?) fun v11=>(Option.bind (idx v11 au) fun v12=>(Option.bind (((aa.set al.toNat (List.replicate ((↑v1.length:Int).toNat) (((0:Int),(0:Int),())):List (Q3))).set al.toNat v6)[al.toNat]?) fun v13=>(Option.bind (v13[au.toNat]?) fun v14=>(some (Sum.inr (((aa.set al.toNat (List.replicate ((↑v1.length:Int).toNat) (((0:Int),(0:Int),())):List (Q3))).set al.toNat v6).set al.toNat (v13.set au.toNat v10)))))))))))else none)))))))else none)
def yMf(aK:List (List (Q3)))(au:Int)(az:List (Q3))(aa:List (List (Q3))):Option (List (List (Q3))×Unit) :=
  (some ((aa,())))
theorem yFQ(n:Nat)(hn:big≤n)(aK:List (List (Q3)))(au:Int)(az:List (Q3))(aa:List (List (Q3)))(hx:List.length (aK) < lenMax):LeF some (yP (fun i__ e__ s__=>yMn aK au az i__ e__ s__) (fun s__=>yMf aK au az s__) 0 (aK) aa) (y9q n n aK au az (List.length (aK):Int) 0 aa):=by
  refine yM (f:=some) (W:=fun k__ i__ s__=>y9q n k__ aK au az (List.length (aK):Int) i__ s__) (body:=(fun i__ e__ s__=>yMn aK au az i__ e__ s__)) (fin:=(fun s__=>yMf aK au az s__)) (fun k__ i__ s__=>?_) hx aa n (by unfold big at hn;unfold lenMax at hx;omega)
  show LeF _ _ (yHO n (y9q n k__) aK au az (List.length (aK):Int) i__ s__)
  exact y5 (y7 fun v1=>(y5 (y7 fun v2=>(y7 fun v3=>(y7 fun v4=>(y7 fun v5=>(y7 fun v6=>(y7 fun v7=>(y5 (y7 fun v8=>(y7 fun v9=>(y7 fun v10=>(y7 fun v11=>(y7 fun v12=>(y7 fun v13=>(y7 fun v14=>(y6 rfl)))))))) yY))))))) yY)) (yq (y6 rfl))
def zf_M(m:List (List (Q3)))(column:Int)(values:List (Q3)):Option (List (List (Q3))×Unit) :=
  (bif Bool.true && decide ((0:Int)≤(↑m.length:Int)) && decide ((↑m.length:Int)≤(↑memMax:Int)) && (↑m.length:Int)==(↑m.length:Int)then (bif decide (List.length (m) < lenMax)then yP (fun i__ e__ s__=>yMn (m) (column) (values) i__ e__ s__) (fun s__=>yMf (m) (column) (values) s__) 0 (m) ((List.replicate ((↑m.length:Int).toNat) ([]):List (List (Q3))))else none)else none)
theorem yRx(m:List (List (Q3)))(column:Int)(values:List (Q3))(y:List (List (Q3))×Unit)(h:zf_M m column values=some y):∃ n,zf_m n m column values=some y :=
  ⟨big,LeF.top (show LeF some (zf_M m column values) (zf_m big m column values)from (fun (n:Nat) (hn:big≤n)=>show LeF some (zf_M m column values) (zf_m n m column values)from (y5 (yL fun hx=>by apply yFQ n hn;exact hx) yY)) big (Nat.le_refl _)) h⟩
def zf_e:Entry:={ f:=164,args:=zf_a,ress:=zf_r,m:=fun x=>zf_M x.1 x.2.1 x.2.2.1 }
theorem yP4:FnOK Tryz.prog zf_e:=yO (g:=zf_g) (fn:=Tryz.f164) yD yK eNil (by kernel_rfl) (by kernel_rfl) (by kernel_rfl) (fun x y h=>let ⟨n,hn⟩:=yRx x.1 x.2.1 x.2.2.1 y h;⟨yPL n,iNil,(yVe n x).trans hn⟩)
abbrev yNv:Ty:=.pair t210 .unit
abbrev yRa:Ty:=.pair t4 .unit
def yTO:G:={ T:=T,E:=[],muts:=[],fz:=[] }
def yTs:List (List Nat):=[]
def yL1(n:Nat):Ann:={ keep:=yTs,fuel:=n,inl:=[],deep:=0 }
def yJO(n:Nat)(f:Nat):Option (Bool×Unit) :=
  some (yR Go.BinOp.neq Go.FloatKind.f64 f f,())
theorem yRf(n:Nat)(x:yNv.den):runF yTO (yL1 n) Tryz.f171 yNv yRa x=yJO n x.1:=by kernel_rfl
def z0T(f:Nat):(Bool×Unit) :=
  (yR Go.BinOp.neq Go.FloatKind.f64 f f,())
abbrev yPw (f:Nat):Option (Bool×Unit):=some (z0T f)
theorem yOU(f:Nat)(y:Bool×Unit)(h:yPw f=some y):∃ n,yJO n f=some y :=
  ⟨0,by rw[← h];show yJO 0 f=some (z0T f);unfold yJO z0T;first|rfl|(simp only[yI];done)|(simp only[yI];rfl)⟩
def z0T_e:Entry:={ f:=171,args:=yNv,ress:=yRa,m:=fun x=>yPw x.1 }
theorem yPP:FnOK Tryz.prog z0T_e:=yO (g:=yTO) (fn:=Tryz.f171) yD yK eNil (by kernel_rfl) (by kernel_rfl) (by kernel_rfl) (fun x y h=>let ⟨n,hn⟩:=yOU x.1 y h;⟨yL1 n,iNil,(yRf n x).trans hn⟩)
abbrev zM_a:Ty:=.pair t41 (.pair t233 .unit)
abbrev zM_r:Ty:=.pair t161 .unit
def zM_g:G:={ T:=T,E:=[],muts:=[5],fz:=[] }
def zM_k:List (List Nat):=[[1,5,8,9,10]]
def yQt(n:Nat):Ann:={ keep:=zM_k,fuel:=n,inl:=[],deep:=0 }
def yHQ(n:Nat)(r0:(Int×Unit→Option (List UInt8×Unit))→List Int→Int→Int→List (List UInt8)→Option (List (List UInt8)×Unit))(a7:Int×Unit→Option (List UInt8×Unit))(a8:List Int)(af:Int)(ae:Int)(aa:List (List UInt8)):Option (List (List UInt8)×Unit) :=
  (bif decide (ae < af)then (Option.bind (idx a8 ae) fun v1=>(Option.bind (a7 (v1,())) fun v2=>(bif decide (aa.length+(1:Nat)≤memMax)then r0 a7 a8 af (IntKind.i64.wrap (ae+1)) (aa++[v2.1])else none)))else some (aa,()))
def y9d(n:Nat)(k:Nat)(a7:Int×Unit→Option (List UInt8×Unit))(a8:List Int)(af:Int)(ae:Int)(aa:List (List UInt8)):Option (List (List UInt8)×Unit) :=
  iter (fun r y=>yHQ n (fun a7 a8 af ae aa=>r ((a7,(a8,(af,(ae,())))),((aa,()),()))) y.1.1 y.1.2.1 y.1.2.2.1 y.1.2.2.2.1 y.2.1.1) k ((a7,(a8,(af,(ae,())))),((aa,()),()))
def zM_m(n:Nat)(l:List Int)(of:Int×Unit→Option (List UInt8×Unit)):Option (List (List UInt8)×Unit) :=
  (y9d n n (of) (l) ((↑l.length:Int)) ((0:Int)) ([]))
theorem yU1(n:Nat)(x:zM_a.den):runF zM_g (yQt n) Tryz.f176 zM_a zM_r x=zM_m n x.1 x.2.1:=by kernel_rfl
def yLh(a7:Int×Unit→Option (List UInt8×Unit))(a8:List Int)(ae:Int)(v1:Int)(aa:List (List UInt8)):Option ((List (List UInt8)×Unit)⊕(List (List UInt8))) :=
  (Option.bind (a7 (v1,())) fun v2=>(bif decide (aa.length+(1:Nat)≤memMax)then (some (Sum.inr (aa++[v2.1])))else none))
def yLj(a7:Int×Unit→Option (List UInt8×Unit))(a8:List Int)(aa:List (List UInt8)):Option (List (List UInt8)×Unit) :=
  (some ((aa,())))
theorem yFK(n:Nat)(hn:big≤n)(a7:Int×Unit→Option (List UInt8×Unit))(a8:List Int)(aa:List (List UInt8))(hx:List.length (a8) < lenMax):LeF some (yP (fun i__ e__ s__=>yLh a7 a8 i__ e__ s__) (fun s__=>yLj a7 a8 s__) 0 (a8) aa) (y9d n n a7 a8 (List.length (a8):Int) 0 aa):=by
  refine yM (f:=some) (W:=fun k__ i__ s__=>y9d n k__ a7 a8 (List.length (a8):Int) i__ s__) (body:=(fun i__ e__ s__=>yLh a7 a8 i__ e__ s__)) (fin:=(fun s__=>yLj a7 a8 s__)) (fun k__ i__ s__=>?_) hx aa n (by unfold big at hn;unfold lenMax at hx;omega)
  show LeF _ _ (yHQ n (y9d n k__) a7 a8 (List.length (a8):Int) i__ s__)
  exact y5 (y7 fun v1=>(y7 fun v2=>(y5 (y6 rfl) yY))) (yq (y6 rfl))
def zM_M(l:List Int)(of:Int×Unit→Option (List UInt8×Unit)):Option (List (List UInt8)×Unit) :=
  (bif decide (List.length (l) < lenMax)then yP (fun i__ e__ s__=>yLh (of) (l) i__ e__ s__) (fun s__=>yLj (of) (l) s__) 0 (l) ([])else none)
theorem yT2(l:List Int)(of:Int×Unit→Option (List UInt8×Unit))(y:List (List UInt8)×Unit)(h:zM_M l of=some y):∃ n,zM_m n l of=some y :=
  ⟨big,LeF.top (show LeF some (zM_M l of) (zM_m big l of)from (fun (n:Nat) (hn:big≤n)=>show LeF some (zM_M l of) (zM_m n l of)from (yL fun hx=>by apply yFK n hn;exact hx)) big (Nat.le_refl _)) h⟩
def zM_e:Entry:={ f:=176,args:=zM_a,ress:=zM_r,m:=fun x=>zM_M x.1 x.2.1 }
theorem yTb:FnOK Tryz.prog zM_e:=yO (g:=zM_g) (fn:=Tryz.f176) yD yK eNil (by kernel_rfl) (by kernel_rfl) (by kernel_rfl) (fun x y h=>let ⟨n,hn⟩:=yT2 x.1 x.2.1 y h;⟨yQt n,iNil,(yU1 n x).trans hn⟩)
abbrev zu_a:Ty:=.pair t55 .unit
abbrev zu_r:Ty:=.pair t55 .unit
def zu_g:G:={ T:=T,E:=[],muts:=[],fz:=[] }
def zu_k:List (List Nat):=[]
def yQ6(n:Nat):Ann:={ keep:=zu_k,fuel:=n,inl:=[],deep:=0 }
def zu_m(n:Nat)(c:Q2):Option ((Q2)×Unit) :=
  some ((c.1,c.2.1,c.2.2.1,()),())
theorem yUU(n:Nat)(x:zu_a.den):runF zu_g (yQ6 n) Tryz.f189 zu_a zu_r x=zu_m n x.1:=by kernel_rfl
def zu(c:Q2):((Q2)×Unit) :=
  ((c.1,c.2.1,c.2.2.1,()),())
abbrev zu_M (c:Q2):Option ((Q2)×Unit):=some (zu c)
theorem ySH(c:Q2)(y:(Q2)×Unit)(h:zu_M c=some y):∃ n,zu_m n c=some y :=
  ⟨0,by rw[← h];show zu_m 0 c=some (zu c);unfold zu_m zu;first|rfl|(simp only[yI];done)|(simp only[yI];rfl)⟩
def zu_e:Entry:={ f:=189,args:=zu_a,ress:=zu_r,m:=fun x=>zu_M x.1 }
theorem yV9:FnOK Tryz.prog zu_e:=yO (g:=zu_g) (fn:=Tryz.f189) yD yK eNil (by kernel_rfl) (by kernel_rfl) (by kernel_rfl) (fun x y h=>let ⟨n,hn⟩:=ySH x.1 y h;⟨yQ6 n,iNil,(yUU n x).trans hn⟩)
abbrev zv_a:Ty:=.pair t57 (.pair (.ref t3) .unit)
abbrev zv_r:Ty:=.pair t57 .unit
def zv_g:G:={ T:=T,E:=[],muts:=[],fz:=[] }
def zv_k:List (List Nat):=[]
def yPs(n:Nat):Ann:={ keep:=zv_k,fuel:=n,inl:=[],deep:=0 }
def zv_m(n:Nat)(z:Q3)(p1:Int):Option ((Q3)×Unit) :=
  (bif p1==0 then none else (bif p1==0 then none else some ((IntKind.i64.wrap (z.1.tdiv p1),IntKind.i64.wrap (z.2.1.tdiv p1),()),())))
theorem yUq(n:Nat)(x:zv_a.den):runF zv_g (yPs n) Tryz.f190 zv_a zv_r x=zv_m n x.1 x.2.1:=by kernel_rfl
def zv_M(z:Q3)(p1:Int):Option ((Q3)×Unit):=zv_m 0 z p1
theorem yT5(z:Q3)(p1:Int)(y:(Q3)×Unit)(h:zv_M z p1=some y):∃ n,zv_m n z p1=some y:=⟨0,h⟩
def zv_e:Entry:={ f:=190,args:=zv_a,ress:=zv_r,m:=fun x=>zv_M x.1 x.2.1 }
theorem yVM:FnOK Tryz.prog zv_e:=yO (g:=zv_g) (fn:=Tryz.f190) yD yK eNil (by kernel_rfl) (by kernel_rfl) (by kernel_rfl) (fun x y h=>let ⟨n,hn⟩:=yT5 x.1 x.2.1 y h;⟨yPs n,iNil,(yUq n x).trans hn⟩)
abbrev z8_a:Ty:=.pair t31 (.pair t255 .unit)
abbrev z8_r:Ty:=.pair t96 .unit
def z8_g:G:={ T:=T,E:=[],muts:=[5],fz:=[] }
def z8_k:List (List Nat):=[[1,5,8,9,10]]
def ySP(n:Nat):Ann:={ keep:=z8_k,fuel:=n,inl:=[],deep:=0 }
def yGl(n:Nat)(r0:((Q2)×Unit→Option (List (Q3)×Unit))→List (Q2)→Int→Int→List (List (Q3))→Option (List (List (Q3))×Unit))(a7:(Q2)×Unit→Option (List (Q3)×Unit))(a8:List (Q2))(af:Int)(ae:Int)(aa:List (List (Q3))):Option (List (List (Q3))×Unit) :=
  (bif decide (ae < af)then (Option.bind (idx a8 ae) fun v1=>(Option.bind (a7 ((v1.1,v1.2.1,v1.2.2.1,()),())) fun v2=>(bif decide (aa.length+(1:Nat)≤memMax)then r0 a7 a8 af (IntKind.i64.wrap (ae+1)) (aa++[v2.1])else none)))else some (aa,()))
def y8n(n:Nat)(k:Nat)(a7:(Q2)×Unit→Option (List (Q3)×Unit))(a8:List (Q2))(af:Int)(ae:Int)(aa:List (List (Q3))):Option (List (List (Q3))×Unit) :=
  iter (fun r y=>yGl n (fun a7 a8 af ae aa=>r ((a7,(a8,(af,(ae,())))),((aa,()),()))) y.1.1 y.1.2.1 y.1.2.2.1 y.1.2.2.2.1 y.2.1.1) k ((a7,(a8,(af,(ae,())))),((aa,()),()))
def z8_m(n:Nat)(l:List (Q2))(of:(Q2)×Unit→Option (List (Q3)×Unit)):Option (List (List (Q3))×Unit) :=
  (y8n n n (of) (l) ((↑l.length:Int)) ((0:Int)) ([]))
theorem yVL(n:Nat)(x:z8_a.den):runF z8_g (ySP n) Tryz.f191 z8_a z8_r x=z8_m n x.1 x.2.1:=by kernel_rfl
def yMe(a7:(Q2)×Unit→Option (List (Q3)×Unit))(a8:List (Q2))(ae:Int)(v1:Q2)(aa:List (List (Q3))):Option ((List (List (Q3))×Unit)⊕(List (List (Q3)))) :=
  (Option.bind (a7 ((v1.1,v1.2.1,v1.2.2.1,()),())) fun v2=>(bif decide (aa.length+(1:Nat)≤memMax)then (some (Sum.inr (aa++[v2.1])))else none))
def yNq(a7:(Q2)×Unit→Option (List (Q3)×Unit))(a8:List (Q2))(aa:List (List (Q3))):Option (List (List (Q3))×Unit) :=
  (some ((aa,())))
theorem yEk(n:Nat)(hn:big≤n)(a7:(Q2)×Unit→Option (List (Q3)×Unit))(a8:List (Q2))(aa:List (List (Q3)))(hx:List.length (a8) < lenMax):LeF some (yP (fun i__ e__ s__=>yMe a7 a8 i__ e__ s__) (fun s__=>yNq a7 a8 s__) 0 (a8) aa) (y8n n n a7 a8 (List.length (a8):Int) 0 aa):=by
  refine yM (f:=some) (W:=fun k__ i__ s__=>y8n n k__ a7 a8 (List.length (a8):Int) i__ s__) (body:=(fun i__ e__ s__=>yMe a7 a8 i__ e__ s__)) (fin:=(fun s__=>yNq a7 a8 s__)) (fun k__ i__ s__=>?_) hx aa n (by unfold big at hn;unfold lenMax at hx;omega)
  show LeF _ _ (yGl n (y8n n k__) a7 a8 (List.length (a8):Int) i__ s__)
  exact y5 (y7 fun v1=>(y7 fun v2=>(y5 (y6 rfl) yY))) (yq (y6 rfl))
def z8_M(l:List (Q2))(of:(Q2)×Unit→Option (List (Q3)×Unit)):Option (List (List (Q3))×Unit) :=
  (bif decide (List.length (l) < lenMax)then yP (fun i__ e__ s__=>yMe (of) (l) i__ e__ s__) (fun s__=>yNq (of) (l) s__) 0 (l) ([])else none)
theorem yPR(l:List (Q2))(of:(Q2)×Unit→Option (List (Q3)×Unit))(y:List (List (Q3))×Unit)(h:z8_M l of=some y):∃ n,z8_m n l of=some y :=
  ⟨big,LeF.top (show LeF some (z8_M l of) (z8_m big l of)from (fun (n:Nat) (hn:big≤n)=>show LeF some (z8_M l of) (z8_m n l of)from (yL fun hx=>by apply yEk n hn;exact hx)) big (Nat.le_refl _)) h⟩
def z8_e:Entry:={ f:=191,args:=z8_a,ress:=z8_r,m:=fun x=>z8_M x.1 x.2.1 }
theorem yU4:FnOK Tryz.prog z8_e:=yO (g:=z8_g) (fn:=Tryz.f191) yD yK eNil (by kernel_rfl) (by kernel_rfl) (by kernel_rfl) (fun x y h=>let ⟨n,hn⟩:=yPR x.1 x.2.1 y h;⟨ySP n,iNil,(yVL n x).trans hn⟩)
abbrev zI_a:Ty:=.pair t35 (.pair t259 .unit)
abbrev zI_r:Ty:=.pair t175 .unit
def zI_g:G:={ T:=T,E:=[],muts:=[5],fz:=[] }
def zI_k:List (List Nat):=[[1,5,8,9,10]]
def yT9(n:Nat):Ann:={ keep:=zI_k,fuel:=n,inl:=[],deep:=0 }
def yIW(n:Nat)(r0:(Nat×Unit→Option (Int×Unit))→List Nat→Int→Int→List Int→Option (List Int×Unit))(a7:Nat×Unit→Option (Int×Unit))(a8:List Nat)(af:Int)(ae:Int)(aa:List Int):Option (List Int×Unit) :=
  (bif decide (ae < af)then (Option.bind (idx a8 ae) fun v1=>(Option.bind (a7 (v1,())) fun v2=>(bif decide (aa.length+(1:Nat)≤memMax)then r0 a7 a8 af (IntKind.i64.wrap (ae+1)) (aa++[v2.1])else none)))else some (aa,()))
def y9K(n:Nat)(k:Nat)(a7:Nat×Unit→Option (Int×Unit))(a8:List Nat)(af:Int)(ae:Int)(aa:List Int):Option (List Int×Unit) :=
  iter (fun r y=>yIW n (fun a7 a8 af ae aa=>r ((a7,(a8,(af,(ae,())))),((aa,()),()))) y.1.1 y.1.2.1 y.1.2.2.1 y.1.2.2.2.1 y.2.1.1) k ((a7,(a8,(af,(ae,())))),((aa,()),()))
def zI_m(n:Nat)(l:List Nat)(of:Nat×Unit→Option (Int×Unit)):Option (List Int×Unit) :=
  (y9K n n (of) (l) ((↑l.length:Int)) ((0:Int)) ([]))
theorem yUW(n:Nat)(x:zI_a.den):runF zI_g (yT9 n) Tryz.f196 zI_a zI_r x=zI_m n x.1 x.2.1:=by kernel_rfl
def yJG(a7:Nat×Unit→Option (Int×Unit))(a8:List Nat)(ae:Int)(v1:Nat)(aa:List Int):Option ((List Int×Unit)⊕(List Int)) :=
  (Option.bind (a7 (v1,())) fun v2=>(bif decide (aa.length+(1:Nat)≤memMax)then (some (Sum.inr (aa++[v2.1])))else none))
def yLV(a7:Nat×Unit→Option (Int×Unit))(a8:List Nat)(aa:List Int):Option (List Int×Unit) :=
  (some ((aa,())))
theorem yEp(n:Nat)(hn:big≤n)(a7:Nat×Unit→Option (Int×Unit))(a8:List Nat)(aa:List Int)(hx:List.length (a8) < lenMax):LeF some (yP (fun i__ e__ s__=>yJG a7 a8 i__ e__ s__) (fun s__=>yLV a7 a8 s__) 0 (a8) aa) (y9K n n a7 a8 (List.length (a8):Int) 0 aa):=by
  refine yM (f:=some) (W:=fun k__ i__ s__=>y9K n k__ a7 a8 (List.length (a8):Int) i__ s__) (body:=(fun i__ e__ s__=>yJG a7 a8 i__ e__ s__)) (fin:=(fun s__=>yLV a7 a8 s__)) (fun k__ i__ s__=>?_) hx aa n (by unfold big at hn;unfold lenMax at hx;omega)
  show LeF _ _ (yIW n (y9K n k__) a7 a8 (List.length (a8):Int) i__ s__)
  exact y5 (y7 fun v1=>(y7 fun v2=>(y5 (y6 rfl) yY))) (yq (y6 rfl))
def zI_M(l:List Nat)(of:Nat×Unit→Option (Int×Unit)):Option (List Int×Unit) :=
  (bif decide (List.length (l) < lenMax)then yP (fun i__ e__ s__=>yJG (of) (l) i__ e__ s__) (fun s__=>yLV (of) (l) s__) 0 (l) ([])else none)
theorem ySS(l:List Nat)(of:Nat×Unit→Option (Int×Unit))(y:List Int×Unit)(h:zI_M l of=some y):∃ n,zI_m n l of=some y :=
  ⟨big,LeF.top (show LeF some (zI_M l of) (zI_m big l of)from (fun (n:Nat) (hn:big≤n)=>show LeF some (zI_M l of) (zI_m n l of)from (yL fun hx=>by apply yEp n hn;exact hx)) big (Nat.le_refl _)) h⟩
def zI_e:Entry:={ f:=196,args:=zI_a,ress:=zI_r,m:=fun x=>zI_M x.1 x.2.1 }
theorem yVY:FnOK Tryz.prog zI_e:=yO (g:=zI_g) (fn:=Tryz.f196) yD yK eNil (by kernel_rfl) (by kernel_rfl) (by kernel_rfl) (fun x y h=>let ⟨n,hn⟩:=ySS x.1 x.2.1 y h;⟨yT9 n,iNil,(yUW n x).trans hn⟩)
abbrev yO9:Ty:=.pair t175 .unit
abbrev yRh:Ty:=.pair t28 .unit
def yS9:G:={ T:=T,E:=[],muts:=[],fz:=[] }
def yUc:List (List Nat):=[[5,6,7]]
def yKK(n:Nat):Ann:={ keep:=yUc,fuel:=n,inl:=[],deep:=0 }
def yDp(n:Nat)(r0:List Int→Int→Int→Option (Int×Unit))(aM:List Int)(aS:Int)(ay:Int):Option (Int×Unit) :=
  (bif decide (ay < aS)then (Option.bind (idx aM ay) fun v1=>(bif v1 != 0 then some (v1,())else r0 aM aS (IntKind.i64.wrap (ay+1))))else some ((0:Int),()))
def y6F(n:Nat)(k:Nat)(aM:List Int)(aS:Int)(ay:Int):Option (Int×Unit) :=
  iter (fun r y=>yDp n (fun aM aS ay=>r ((aM,(aS,(ay,()))),((),()))) y.1.1 y.1.2.1 y.1.2.2.1) k ((aM,(aS,(ay,()))),((),()))
def yJa(n:Nat)(l:List Int):Option (Int×Unit) :=
  (y6F n n (l) ((↑l.length:Int)) ((0:Int)))
theorem ySw(n:Nat)(x:yO9.den):runF yS9 (yKK n) Tryz.f198 yO9 yRh x=yJa n x.1:=by kernel_rfl
def yGs(aM:List Int)(ay:Int)(v1:Int):Option ((Int×Unit)⊕Unit) :=
  (bif v1 != 0 then (some (Sum.inl ((v1,()))))else (some (Sum.inr ())))
def yGR(aM:List Int):Option (Int×Unit) :=
  (some (((0:Int),())))
theorem yCO(n:Nat)(hn:big≤n)(aM:List Int)(hx:List.length (aM) < lenMax):LeF some (yP (fun i__ e__ s__=>yGs aM i__ e__) (fun s__=>yGR aM) 0 (aM) ()) (y6F n n aM (List.length (aM):Int) 0):=by
  refine yM (f:=some) (W:=fun k__ i__ s__=>y6F n k__ aM (List.length (aM):Int) i__) (body:=(fun i__ e__ s__=>yGs aM i__ e__)) (fin:=(fun s__=>yGR aM)) (fun k__ i__ s__=>?_) hx () n (by unfold big at hn;unfold lenMax at hx;omega)
  show LeF _ _ (yDp n (y6F n k__) aM (List.length (aM):Int) i__)
  exact y5 (y7 fun v1=>(y5 (y6 rfl) (y6 rfl))) (yq (y6 rfl))
def y7y(l:List Int):Option (Int×Unit) :=
  (bif decide (List.length (l) < lenMax)then yP (fun i__ e__ s__=>yGs (l) i__ e__) (fun s__=>yGR (l)) 0 (l) ()else none)
theorem yLb(l:List Int)(y:Int×Unit)(h:y7y l=some y):∃ n,yJa n l=some y :=
  ⟨big,LeF.top (show LeF some (y7y l) (yJa big l)from (fun (n:Nat) (hn:big≤n)=>show LeF some (y7y l) (yJa n l)from (yL fun hx=>by apply yCO n hn;exact hx)) big (Nat.le_refl _)) h⟩
def z0C_e:Entry:={ f:=198,args:=yO9,ress:=yRh,m:=fun x=>y7y x.1 }
theorem yKt:FnOK Tryz.prog z0C_e:=yO (g:=yS9) (fn:=Tryz.f198) yD yK eNil (by kernel_rfl) (by kernel_rfl) (by kernel_rfl) (fun x y h=>let ⟨n,hn⟩:=yLb x.1 y h;⟨yKK n,iNil,(ySw n x).trans hn⟩)
abbrev yO3:Ty:=.pair t4 (.pair t28 .unit)
abbrev yRY:Ty:=.pair t28 .unit
def ySD:G:={ T:=T,E:=[],muts:=[],fz:=[] }
def yUt:List (List Nat):=[]
def yLG(n:Nat):Ann:={ keep:=yUt,fuel:=n,inl:=[],deep:=0 }
def yJu(n:Nat)(holds:Bool)(e:Int):Option (Int×Unit) :=
  (bif holds then some (e,())else some ((0:Int),()))
theorem yQR(n:Nat)(x:yO3.den):runF ySD (yLG n) Tryz.f199 yO3 yRY x=yJu n x.1 x.2.1:=by kernel_rfl
def z0P(holds:Bool)(e:Int):(Int×Unit) :=
  (bif holds then (e,())else ((0:Int),()))
abbrev ySx (holds:Bool) (e:Int):Option (Int×Unit):=some (z0P holds e)
theorem yMB(holds:Bool)(e:Int)(y:Int×Unit)(h:ySx holds e=some y):∃ n,yJu n holds e=some y :=
  ⟨0,by rw[← h];show yJu 0 holds e=some (z0P holds e);unfold yJu z0P;first|rfl|(simp only[yI];done)|(simp only[yI];rfl)⟩
def z0P_e:Entry:={ f:=199,args:=yO3,ress:=yRY,m:=fun x=>ySx x.1 x.2.1 }
theorem yAw:FnOK Tryz.prog z0P_e:=yO (g:=ySD) (fn:=Tryz.f199) yD yK eNil (by kernel_rfl) (by kernel_rfl) (by kernel_rfl) (fun x y h=>let ⟨n,hn⟩:=yMB x.1 x.2.1 y h;⟨yLG n,iNil,(yQR n x).trans hn⟩)
abbrev yMA:Ty:=.pair t9 .unit
abbrev yP9:Ty:=.pair t4 .unit
def ySV:G:={ T:=T,E:=[],muts:=[],fz:=[] }
def yUv:List (List Nat):=[[0,8]]
def yKy(n:Nat):Ann:={ keep:=yUv,fuel:=n,inl:=[],deep:=0 }
def y4V(n:Nat)(r0:List UInt8→List UInt8→Int→Option (Bool×Unit))(ak:List UInt8)(str0__0:List UInt8)(pos0__0:Int)(j2:Bool)(j7:Bool):Option (Bool×Unit) :=
  (bif !j2 then (bif pos0__0==0 then some (Bool.false,())else (bif !j7 then some (Bool.false,())else r0 ak str0__0 (yd str0__0 pos0__0).2))else r0 ak str0__0 (yd str0__0 pos0__0).2)
def y2n(n:Nat)(r0:List UInt8→List UInt8→Int→Option (Bool×Unit))(ak:List UInt8)(str0__0:List UInt8)(pos0__0:Int)(j2:Bool):Option (Bool×Unit) :=
  (bif decide ((yd str0__0 pos0__0).1 ≥ 48)then (bif decide ((yd str0__0 pos0__0).1≤57)then (y4V n r0 ak str0__0 pos0__0 j2 (Bool.true))else (y4V n r0 ak str0__0 pos0__0 j2 ((yd str0__0 pos0__0).1==95)))else (y4V n r0 ak str0__0 pos0__0 j2 ((yd str0__0 pos0__0).1==95)))
def yDA(n:Nat)(r0:List UInt8→List UInt8→Int→Option (Bool×Unit))(ak:List UInt8)(str0__0:List UInt8)(pos0__0:Int):Option (Bool×Unit) :=
  (bif decide (pos0__0 < (↑str0__0.length:Int))then (bif decide ((yd str0__0 pos0__0).1 ≥ 65)then (bif decide ((yd str0__0 pos0__0).1≤90)then (y2n n r0 ak str0__0 pos0__0 (Bool.true))else (bif decide ((yd str0__0 pos0__0).1 ≥ 97)then (y2n n r0 ak str0__0 pos0__0 (decide ((yd str0__0 pos0__0).1≤122)))else (y2n n r0 ak str0__0 pos0__0 (Bool.false))))else (bif decide ((yd str0__0 pos0__0).1 ≥ 97)then (y2n n r0 ak str0__0 pos0__0 (decide ((yd str0__0 pos0__0).1≤122)))else (y2n n r0 ak str0__0 pos0__0 (Bool.false))))else (bif !ak==[]then some (decide ((↑ak.length:Int)≤24),())else some (Bool.false,())))
def y5z(n:Nat)(k:Nat)(ak:List UInt8)(str0__0:List UInt8)(pos0__0:Int):Option (Bool×Unit) :=
  iter (fun r y=>yDA n (fun ak str0__0 pos0__0=>r ((ak,()),(((str0__0,pos0__0),()),()))) y.1.1 y.2.1.1.1 y.2.1.1.2) k ((ak,()),(((str0__0,pos0__0),()),()))
def yJq(n:Nat)(s:List UInt8):Option (Bool×Unit) :=
  (y5z n n (s) (s) ((0:Int)))
theorem yQu(n:Nat)(x:yMA.den):runF ySV (yKy n) Tryz.f200 yMA yP9 x=yJq n x.1:=by kernel_rfl
def y8z(ak:List UInt8)(str0__0:List UInt8)(pos0__0:Int)(j2:Bool)(j7:Bool):Option ((Bool×Unit)⊕Unit) :=
  (bif !j2 then (bif pos0__0==0 then (some (Sum.inl ((Bool.false,()))))else (bif !j7 then (some (Sum.inl ((Bool.false,()))))else (some (Sum.inr ()))))else (some (Sum.inr ())))
theorem y0y(n:Nat)(hn:big≤n)(r0:List UInt8→List UInt8→Int→Option (Bool×Unit))(ak:List UInt8)(str0__0:List UInt8)(pos0__0:Int)(j2:Bool)(j7:Bool):LeF (elim some fun (s__:Unit)=>r0 ak str0__0 (yd (str0__0) pos0__0).2) (y8z ak str0__0 pos0__0 j2 j7) (y4V n r0 ak str0__0 pos0__0 j2 j7) :=
  (y5 (y5 (y6 rfl) (y5 (y6 rfl) (y6 rfl))) (y6 rfl))
def y5P(ak:List UInt8)(str0__0:List UInt8)(pos0__0:Int)(j2:Bool):Option ((Bool×Unit)⊕Unit) :=
  (bif decide ((yd str0__0 pos0__0).1 ≥ 48)then (bif decide ((yd str0__0 pos0__0).1≤57)then (y8z ak str0__0 pos0__0 j2 (Bool.true))else (y8z ak str0__0 pos0__0 j2 ((yd str0__0 pos0__0).1==95)))else (y8z ak str0__0 pos0__0 j2 ((yd str0__0 pos0__0).1==95)))
theorem y05(n:Nat)(hn:big≤n)(r0:List UInt8→List UInt8→Int→Option (Bool×Unit))(ak:List UInt8)(str0__0:List UInt8)(pos0__0:Int)(j2:Bool):LeF (elim some fun (s__:Unit)=>r0 ak str0__0 (yd (str0__0) pos0__0).2) (y5P ak str0__0 pos0__0 j2) (y2n n r0 ak str0__0 pos0__0 j2) :=
  (y5 (y5 (by apply y0y n hn) (by apply y0y n hn)) (by apply y0y n hn))
def yGJ(ak:List UInt8)(str0__0:List UInt8)(pos0__0:Int):Option ((Bool×Unit)⊕Unit) :=
  (bif decide ((yd str0__0 pos0__0).1 ≥ 65)then (bif decide ((yd str0__0 pos0__0).1≤90)then (y5P ak str0__0 pos0__0 (Bool.true))else (bif decide ((yd str0__0 pos0__0).1 ≥ 97)then (y5P ak str0__0 pos0__0 (decide ((yd str0__0 pos0__0).1≤122)))else (y5P ak str0__0 pos0__0 (Bool.false))))else (bif decide ((yd str0__0 pos0__0).1 ≥ 97)then (y5P ak str0__0 pos0__0 (decide ((yd str0__0 pos0__0).1≤122)))else (y5P ak str0__0 pos0__0 (Bool.false))))
def yHM(ak:List UInt8)(str0__0:List UInt8):Option (Bool×Unit) :=
  (bif !ak==[]then (some ((decide ((↑ak.length:Int)≤24),())))else (some ((Bool.false,()))))
theorem yCK(n:Nat)(hn:big≤n)(ak:List UInt8)(str0__0:List UInt8)(hx:List.length (str0__0) < lenMax):LeF some (y9M (str0__0) (fun i__ s__=>yGJ ak str0__0 i__) (fun s__=>yHM ak str0__0) (List.length (str0__0)) 0 ()) (y5z n n ak str0__0 0):=by
  refine yD6 (f:=some) (W:=fun k__ i__ s__=>y5z n k__ ak str0__0 i__) (body:=(fun i__ s__=>yGJ ak str0__0 i__)) (fin:=(fun s__=>yHM ak str0__0)) (fun k__ i__ s__=>?_) () n (by unfold big at hn;unfold lenMax at hx;omega)
  show LeF _ _ (yDA n (y5z n k__) ak str0__0 i__)
  exact y5 (y5 (y5 (by apply y05 n hn) (y5 (by apply y05 n hn) (by apply y05 n hn))) (y5 (by apply y05 n hn) (by apply y05 n hn))) (yq (y5 (y6 rfl) (y6 rfl)))
def yF7(s:List UInt8):Option (Bool×Unit) :=
  (bif decide (List.length (s) < lenMax)then y9M (s) (fun i__ s__=>yGJ (s) (s) i__) (fun s__=>yHM (s) (s)) (List.length (s)) 0 ()else none)
theorem yNT(s:List UInt8)(y:Bool×Unit)(h:yF7 s=some y):∃ n,yJq n s=some y :=
  ⟨big,LeF.top (show LeF some (yF7 s) (yJq big s)from (fun (n:Nat) (hn:big≤n)=>show LeF some (yF7 s) (yJq n s)from (yL fun hx=>by apply yCK n hn;exact hx)) big (Nat.le_refl _)) h⟩
def z00_e:Entry:={ f:=200,args:=yMA,ress:=yP9,m:=fun x=>yF7 x.1 }
theorem yLF:FnOK Tryz.prog z00_e:=yO (g:=ySV) (fn:=Tryz.f200) yD yK eNil (by kernel_rfl) (by kernel_rfl) (by kernel_rfl) (fun x y h=>let ⟨n,hn⟩:=yNT x.1 y h;⟨yKy n,iNil,(yQu n x).trans hn⟩)
abbrev zO_a:Ty:=.pair t63 (.pair (.ref t60) .unit)
abbrev zO_r:Ty:=.pair t4 .unit
def zO_g:G:={ T:=T,E:=[],muts:=[],fz:=[] }
def zO_k:List (List Nat):=[]
def yTI(n:Nat):Ann:={ keep:=zO_k,fuel:=n,inl:=[],deep:=0 }
def zO_m(n:Nat)(s:Q3)(p1:List UInt8×Int×List Nat×List (Q3)×Unit):Option (Bool×Unit) :=
  some (decide (s.2.1 > (↑p1.2.2.1.length:Int)),())
theorem yTr(n:Nat)(x:zO_a.den):runF zO_g (yTI n) Tryz.f205 zO_a zO_r x=zO_m n x.1 x.2.1:=by kernel_rfl
def zO(s:Q3)(p1:List UInt8×Int×List Nat×List (Q3)×Unit):(Bool×Unit) :=
  (decide (s.2.1 > (↑p1.2.2.1.length:Int)),())
abbrev zO_M (s:Q3) (p1:List UInt8×Int×List Nat×List (Q3)×Unit):Option (Bool×Unit):=some (zO s p1)
theorem yQL(s:Q3)(p1:List UInt8×Int×List Nat×List (Q3)×Unit)(y:Bool×Unit)(h:zO_M s p1=some y):∃ n,zO_m n s p1=some y :=
  ⟨0,by rw[← h];show zO_m 0 s p1=some (zO s p1);unfold zO_m zO;first|rfl|(simp only[yI];done)|(simp only[yI];rfl)⟩
def zO_e:Entry:={ f:=205,args:=zO_a,ress:=zO_r,m:=fun x=>zO_M x.1 x.2.1 }
theorem yUr:FnOK Tryz.prog zO_e:=yO (g:=zO_g) (fn:=Tryz.f205) yD yK eNil (by kernel_rfl) (by kernel_rfl) (by kernel_rfl) (fun x y h=>let ⟨n,hn⟩:=yQL x.1 x.2.1 y h;⟨yTI n,iNil,(yTr n x).trans hn⟩)
abbrev zN_a:Ty:=.pair t61 .unit
abbrev zN_r:Ty:=.pair t4 .unit
def zN_g:G:={ T:=T,E:=[],muts:=[],fz:=[] }
def zN_k:List (List Nat):=[]
def yOl(n:Nat):Ann:={ keep:=zN_k,fuel:=n,inl:=[],deep:=0 }
def zN_m(n:Nat)(x1:Nat):Option (Bool×Unit) :=
  some (yR Go.BinOp.neq Go.FloatKind.f32 x1 (nat_lit 0),())
theorem yUC(n:Nat)(x:zN_a.den):runF zN_g (yOl n) Tryz.f208 zN_a zN_r x=zN_m n x.1:=by kernel_rfl
def zN(x1:Nat):(Bool×Unit) :=
  (yR Go.BinOp.neq Go.FloatKind.f32 x1 (nat_lit 0),())
abbrev zN_M (x1:Nat):Option (Bool×Unit):=some (zN x1)
theorem yRl(x1:Nat)(y:Bool×Unit)(h:zN_M x1=some y):∃ n,zN_m n x1=some y :=
  ⟨0,by rw[← h];show zN_m 0 x1=some (zN x1);unfold zN_m zN;first|rfl|(simp only[yI];done)|(simp only[yI];rfl)⟩
def zN_e:Entry:={ f:=208,args:=zN_a,ress:=zN_r,m:=fun x=>zN_M x.1 }
theorem yVS:FnOK Tryz.prog zN_e:=yO (g:=zN_g) (fn:=Tryz.f208) yD yK eNil (by kernel_rfl) (by kernel_rfl) (by kernel_rfl) (fun x y h=>let ⟨n,hn⟩:=yRl x.1 y h;⟨yOl n,iNil,(yUC n x).trans hn⟩)
abbrev zY_a:Ty:=.pair t61 .unit
abbrev zY_r:Ty:=.pair t3 .unit
def zY_g:G:={ T:=T,E:=[],muts:=[],fz:=[] }
def zY_k:List (List Nat):=[]
def yRi(n:Nat):Ann:={ keep:=zY_k,fuel:=n,inl:=[],deep:=0 }
def zY_m(n:Nat)(x1:Nat):Option (Int×Unit) :=
  (Option.bind (ym Go.FloatKind.f32 (yh Go.BinOp.mul Go.FloatKind.f32 x1 (nat_lit 1098907648)) IntKind.i64) fun v0=>some (v0,()))
theorem yVW(n:Nat)(x:zY_a.den):runF zY_g (yRi n) Tryz.f224 zY_a zY_r x=zY_m n x.1:=by kernel_rfl
def zY_M(x1:Nat):Option (Int×Unit):=zY_m 0 x1
theorem yQP(x1:Nat)(y:Int×Unit)(h:zY_M x1=some y):∃ n,zY_m n x1=some y:=⟨0,h⟩
def zY_e:Entry:={ f:=224,args:=zY_a,ress:=zY_r,m:=fun x=>zY_M x.1 }
theorem yVh:FnOK Tryz.prog zY_e:=yO (g:=zY_g) (fn:=Tryz.f224) yD yK eNil (by kernel_rfl) (by kernel_rfl) (by kernel_rfl) (fun x y h=>let ⟨n,hn⟩:=yQP x.1 y h;⟨yRi n,iNil,(yVW n x).trans hn⟩)
abbrev zD_a:Ty:=.pair t58 (.pair t263 .unit)
abbrev zD_r:Ty:=.pair t3 .unit
def zD_g:G:={ T:=T,E:=[],muts:=[],fz:=[] }
def zD_k:List (List Nat):=[[0,1,7,8]]
def yOe(n:Nat):Ann:={ keep:=zD_k,fuel:=n,inl:=[],deep:=0 }
def yHK(n:Nat)(r0:List (Q3)→((Q3)×Unit→Option (Bool×Unit))→Int→Int→Option (Int×Unit))(ak:List (Q3))(aT:(Q3)×Unit→Option (Bool×Unit))(ay:Int)(a8:Int):Option (Int×Unit) :=
  (bif decide (a8 < ay)then (Option.bind (idx ak a8) fun v1=>(Option.bind (aT (v1,())) fun v2=>(bif v2.1 then some (a8,())else r0 ak aT ay (IntKind.i64.wrap (a8+1)))))else some ((-1:Int),()))
def y9r(n:Nat)(k:Nat)(ak:List (Q3))(aT:(Q3)×Unit→Option (Bool×Unit))(ay:Int)(a8:Int):Option (Int×Unit) :=
  iter (fun r y=>yHK n (fun ak aT ay a8=>r ((ak,(aT,(ay,(a8,())))),((),()))) y.1.1 y.1.2.1 y.1.2.2.1 y.1.2.2.2.1) k ((ak,(aT,(ay,(a8,())))),((),()))
def zD_m(n:Nat)(s:List (Q3))(f:(Q3)×Unit→Option (Bool×Unit)):Option (Int×Unit) :=
  (y9r n n (s) (f) ((↑s.length:Int)) ((0:Int)))
theorem yTj(n:Nat)(x:zD_a.den):runF zD_g (yOe n) Tryz.f226 zD_a zD_r x=zD_m n x.1 x.2.1:=by kernel_rfl
def yO8(ak:List (Q3))(aT:(Q3)×Unit→Option (Bool×Unit))(a8:Int)(v1:Q3):Option ((Int×Unit)⊕Unit) :=
  (Option.bind (aT (v1,())) fun v2=>(bif v2.1 then (some (Sum.inl ((a8,()))))else (some (Sum.inr ()))))
def yNu(ak:List (Q3))(aT:(Q3)×Unit→Option (Bool×Unit)):Option (Int×Unit) :=
  (some (((-1:Int),())))
theorem yEs(n:Nat)(hn:big≤n)(ak:List (Q3))(aT:(Q3)×Unit→Option (Bool×Unit))(hx:List.length (ak) < lenMax):LeF some (yP (fun i__ e__ s__=>yO8 ak aT i__ e__) (fun s__=>yNu ak aT) 0 (ak) ()) (y9r n n ak aT (List.length (ak):Int) 0):=by
  refine yM (f:=some) (W:=fun k__ i__ s__=>y9r n k__ ak aT (List.length (ak):Int) i__) (body:=(fun i__ e__ s__=>yO8 ak aT i__ e__)) (fin:=(fun s__=>yNu ak aT)) (fun k__ i__ s__=>?_) hx () n (by unfold big at hn;unfold lenMax at hx;omega)
  show LeF _ _ (yHK n (y9r n k__) ak aT (List.length (ak):Int) i__)
  exact y5 (y7 fun v1=>(y7 fun v2=>(y5 (y6 rfl) (y6 rfl)))) (yq (y6 rfl))
def zD_M(s:List (Q3))(f:(Q3)×Unit→Option (Bool×Unit)):Option (Int×Unit) :=
  (bif decide (List.length (s) < lenMax)then yP (fun i__ e__ s__=>yO8 (s) (f) i__ e__) (fun s__=>yNu (s) (f)) 0 (s) ()else none)
theorem yPF(s:List (Q3))(f:(Q3)×Unit→Option (Bool×Unit))(y:Int×Unit)(h:zD_M s f=some y):∃ n,zD_m n s f=some y :=
  ⟨big,LeF.top (show LeF some (zD_M s f) (zD_m big s f)from (fun (n:Nat) (hn:big≤n)=>show LeF some (zD_M s f) (zD_m n s f)from (yL fun hx=>by apply yEs n hn;exact hx)) big (Nat.le_refl _)) h⟩
def zD_e:Entry:={ f:=226,args:=zD_a,ress:=zD_r,m:=fun x=>zD_M x.1 x.2.1 }
theorem yTg:FnOK Tryz.prog zD_e:=yO (g:=zD_g) (fn:=Tryz.f226) yD yK eNil (by kernel_rfl) (by kernel_rfl) (by kernel_rfl) (fun x y h=>let ⟨n,hn⟩:=yPF x.1 x.2.1 y h;⟨yOe n,iNil,(yTj n x).trans hn⟩)
abbrev zE_a:Ty:=.pair t35 (.pair t265 .unit)
abbrev zE_r:Ty:=.pair t3 .unit
def zE_g:G:={ T:=T,E:=[],muts:=[],fz:=[] }
def zE_k:List (List Nat):=[[0,1,7,8]]
def ySk(n:Nat):Ann:={ keep:=zE_k,fuel:=n,inl:=[],deep:=0 }
def yI4(n:Nat)(r0:List Nat→(Nat×Unit→Option (Bool×Unit))→Int→Int→Option (Int×Unit))(ak:List Nat)(aT:Nat×Unit→Option (Bool×Unit))(ay:Int)(a8:Int):Option (Int×Unit) :=
  (bif decide (a8 < ay)then (Option.bind (idx ak a8) fun v1=>(Option.bind (aT (v1,())) fun v2=>(bif v2.1 then some (a8,())else r0 ak aT ay (IntKind.i64.wrap (a8+1)))))else some ((-1:Int),()))
def y97(n:Nat)(k:Nat)(ak:List Nat)(aT:Nat×Unit→Option (Bool×Unit))(ay:Int)(a8:Int):Option (Int×Unit) :=
  iter (fun r y=>yI4 n (fun ak aT ay a8=>r ((ak,(aT,(ay,(a8,())))),((),()))) y.1.1 y.1.2.1 y.1.2.2.1 y.1.2.2.2.1) k ((ak,(aT,(ay,(a8,())))),((),()))
def zE_m(n:Nat)(s:List Nat)(f:Nat×Unit→Option (Bool×Unit)):Option (Int×Unit) :=
  (y97 n n (s) (f) ((↑s.length:Int)) ((0:Int)))
theorem yV2(n:Nat)(x:zE_a.den):runF zE_g (ySk n) Tryz.f227 zE_a zE_r x=zE_m n x.1 x.2.1:=by kernel_rfl
def yMw(ak:List Nat)(aT:Nat×Unit→Option (Bool×Unit))(a8:Int)(v1:Nat):Option ((Int×Unit)⊕Unit) :=
  (Option.bind (aT (v1,())) fun v2=>(bif v2.1 then (some (Sum.inl ((a8,()))))else (some (Sum.inr ()))))
def yNd(ak:List Nat)(aT:Nat×Unit→Option (Bool×Unit)):Option (Int×Unit) :=
  (some (((-1:Int),())))
theorem yES(n:Nat)(hn:big≤n)(ak:List Nat)(aT:Nat×Unit→Option (Bool×Unit))(hx:List.length (ak) < lenMax):LeF some (yP (fun i__ e__ s__=>yMw ak aT i__ e__) (fun s__=>yNd ak aT) 0 (ak) ()) (y97 n n ak aT (List.length (ak):Int) 0):=by
  refine yM (f:=some) (W:=fun k__ i__ s__=>y97 n k__ ak aT (List.length (ak):Int) i__) (body:=(fun i__ e__ s__=>yMw ak aT i__ e__)) (fin:=(fun s__=>yNd ak aT)) (fun k__ i__ s__=>?_) hx () n (by unfold big at hn;unfold lenMax at hx;omega)
  show LeF _ _ (yI4 n (y97 n k__) ak aT (List.length (ak):Int) i__)
  exact y5 (y7 fun v1=>(y7 fun v2=>(y5 (y6 rfl) (y6 rfl)))) (yq (y6 rfl))
def zE_M(s:List Nat)(f:Nat×Unit→Option (Bool×Unit)):Option (Int×Unit) :=
  (bif decide (List.length (s) < lenMax)then yP (fun i__ e__ s__=>yMw (s) (f) i__ e__) (fun s__=>yNd (s) (f)) 0 (s) ()else none)
theorem yR4(s:List Nat)(f:Nat×Unit→Option (Bool×Unit))(y:Int×Unit)(h:zE_M s f=some y):∃ n,zE_m n s f=some y :=
  ⟨big,LeF.top (show LeF some (zE_M s f) (zE_m big s f)from (fun (n:Nat) (hn:big≤n)=>show LeF some (zE_M s f) (zE_m n s f)from (yL fun hx=>by apply yES n hn;exact hx)) big (Nat.le_refl _)) h⟩
def zE_e:Entry:={ f:=227,args:=zE_a,ress:=zE_r,m:=fun x=>zE_M x.1 x.2.1 }
theorem yV3:FnOK Tryz.prog zE_e:=yO (g:=zE_g) (fn:=Tryz.f227) yD yK eNil (by kernel_rfl) (by kernel_rfl) (by kernel_rfl) (fun x y h=>let ⟨n,hn⟩:=yR4 x.1 x.2.1 y h;⟨ySk n,iNil,(yV2 n x).trans hn⟩)
end
end Go.Tw
end
section
set_option maxRecDepth 1000000
namespace Go.Tw
open Go.Vx Go.Vx.B Go.Proofs
noncomputable section
abbrev zm_a:Ty:=.pair t96 (.pair t96 .unit)
abbrev zm_r:Ty:=.pair t4 .unit
def zm_g:G:={ T:=T,E:=[zV_e],muts:=[],fz:=[] }
def zm_k:List (List Nat):=[[0,1,5]]
def yR2(n:Nat):Ann:={ keep:=zm_k,fuel:=n,inl:=[],deep:=0 }
def yFc(n:Nat)(r0:List (List (Q3))→List (List (Q3))→Int→Option (Bool×Unit))(ah:List (List (Q3)))(ai:List (List (Q3)))(ax:Int):Option (Bool×Unit) :=
  (bif decide (ax < (↑ah.length:Int))then (Option.bind (idx ah ax) fun v1=>(Option.bind (idx ai ax) fun v2=>(Option.bind (zV_M v1 v2) fun v3=>(bif !v3.1 then some (Bool.false,())else r0 ah ai (IntKind.i64.wrap (ax+1))))))else some (Bool.true,()))
def y96(n:Nat)(k:Nat)(ah:List (List (Q3)))(ai:List (List (Q3)))(ax:Int):Option (Bool×Unit) :=
  iter (fun r y=>yFc n (fun ah ai ax=>r ((ah,(ai,(ax,()))),((),()))) y.1.1 y.1.2.1 y.1.2.2.1) k ((ah,(ai,(ax,()))),((),()))
def zm_m(n:Nat)(a:List (List (Q3)))(b:List (List (Q3))):Option (Bool×Unit) :=
  (bif (↑a.length:Int) != (↑b.length:Int)then some (Bool.false,())else (y96 n n (a) (b) ((0:Int))))
theorem yUG(n:Nat)(x:zm_a.den):runF zm_g (yR2 n) Tryz.f64 zm_a zm_r x=zm_m n x.1 x.2.1:=by kernel_rfl
def yMN(ah:List (List (Q3)))(ai:List (List (Q3)))(ax:Int)(v1:List (Q3)):Option ((Bool×Unit)⊕Unit) :=
  (Option.bind (idx ai ax) fun v2=>(Option.bind (zV_M v1 v2) fun v3=>(bif !v3.1 then (some (Sum.inl ((Bool.false,()))))else (some (Sum.inr ())))))
def yMy(ah:List (List (Q3)))(ai:List (List (Q3))):Option (Bool×Unit) :=
  (some ((Bool.true,())))
theorem yE5(n:Nat)(hn:big≤n)(ah:List (List (Q3)))(ai:List (List (Q3)))(hx:List.length (ah) < lenMax):LeF some (yP (fun i__ e__ s__=>yMN ah ai i__ e__) (fun s__=>yMy ah ai) 0 (ah) ()) (y96 n n ah ai 0):=by
  refine yM (f:=some) (W:=fun k__ i__ s__=>y96 n k__ ah ai i__) (body:=(fun i__ e__ s__=>yMN ah ai i__ e__)) (fin:=(fun s__=>yMy ah ai)) (fun k__ i__ s__=>?_) hx () n (by unfold big at hn;unfold lenMax at hx;omega)
  show LeF _ _ (yFc n (y96 n k__) ah ai i__)
  exact y5 (y7 fun v1=>(y7 fun v2=>(y7 fun v3=>(y5 (y6 rfl) (y6 rfl))))) (yq (y6 rfl))
def zm_M(a:List (List (Q3)))(b:List (List (Q3))):Option (Bool×Unit) :=
  (bif (↑a.length:Int) != (↑b.length:Int)then (some ((Bool.false,())))else (bif decide (List.length (a) < lenMax)then yP (fun i__ e__ s__=>yMN (a) (b) i__ e__) (fun s__=>yMy (a) (b)) 0 (a) ()else none))
theorem ySF(a:List (List (Q3)))(b:List (List (Q3)))(y:Bool×Unit)(h:zm_M a b=some y):∃ n,zm_m n a b=some y :=
  ⟨big,LeF.top (show LeF some (zm_M a b) (zm_m big a b)from (fun (n:Nat) (hn:big≤n)=>show LeF some (zm_M a b) (zm_m n a b)from (y5 (y6 rfl) (yL fun hx=>by apply yE5 n hn;exact hx))) big (Nat.le_refl _)) h⟩
def zm_e:Entry:={ f:=64,args:=zm_a,ress:=zm_r,m:=fun x=>zm_M x.1 x.2.1 }
theorem yUT:FnOK Tryz.prog zm_e:=yO (g:=zm_g) (fn:=Tryz.f64) yD yK (yB yPq eNil) (by kernel_rfl) (by kernel_rfl) (by kernel_rfl) (fun x y h=>let ⟨n,hn⟩:=ySF x.1 x.2.1 y h;⟨yR2 n,iNil,(yUG n x).trans hn⟩)
abbrev yOT:Ty:=.pair t3 (.pair t3 (.pair t3 .unit))
abbrev yQD:Ty:=.pair t28 .unit
def yOv:G:={ T:=T,E:=[z0n_e],muts:=[],fz:=[] }
def yUk:List (List Nat):=[]
def yKI(n:Nat):Ann:={ keep:=yUk,fuel:=n,inl:=[],deep:=0 }
def yIm(n:Nat)(n1:Int)(least:Int)(most:Int):Option (Int×Unit) :=
  (bif decide (n1 < least)then some ((z0n Bool.true (3:Int)).1,())else some ((z0n (decide (n1 > most)) (3:Int)).1,()))
theorem yPm(n:Nat)(x:yOT.den):runF yOv (yKI n) Tryz.f114 yOT yQD x=yIm n x.1 x.2.1 x.2.2.1:=by kernel_rfl
def z0O(n1:Int)(least:Int)(most:Int):(Int×Unit) :=
  (bif decide (n1 < least)then ((z0n Bool.true (3:Int)).1,())else ((z0n (decide (n1 > most)) (3:Int)).1,()))
abbrev yQW (n1:Int) (least:Int) (most:Int):Option (Int×Unit):=some (z0O n1 least most)
theorem yNI(n1:Int)(least:Int)(most:Int)(y:Int×Unit)(h:yQW n1 least most=some y):∃ n,yIm n n1 least most=some y :=
  ⟨0,by rw[← h];show yIm 0 n1 least most=some (z0O n1 least most);unfold yIm z0O;first|rfl|(simp only[yI];done)|(simp only[yI];rfl)⟩
def z0O_e:Entry:={ f:=114,args:=yOT,ress:=yQD,m:=fun x=>yQW x.1 x.2.1 x.2.2.1 }
theorem yBC:FnOK Tryz.prog z0O_e:=yO (g:=yOv) (fn:=Tryz.f114) yD yK (yB y5q eNil) (by kernel_rfl) (by kernel_rfl) (by kernel_rfl) (fun x y h=>let ⟨n,hn⟩:=yNI x.1 x.2.1 x.2.2.1 y h;⟨yKI n,iNil,(yPm n x).trans hn⟩)
abbrev zj_a:Ty:=.pair t33 .unit
abbrev zj_r:Ty:=.pair t4 .unit
def zj_g:G:={ T:=T,E:=[zy_e],muts:=[],fz:=[] }
def zj_k:List (List Nat):=[[1,6,7,8]]
def yP3(n:Nat):Ann:={ keep:=zj_k,fuel:=n,inl:=[],deep:=0 }
def yGi(n:Nat)(r0:Q1→List (Q3)→Int→Int→Option (Bool×Unit))(aw:Q1)(aS:List (Q3))(ay:Int)(a8:Int):Option (Bool×Unit) :=
  (bif decide (a8 < ay)then (Option.bind (idx aS a8) fun v1=>(bif decide ((if (zy v1.2.1).1 > (zy v1.1).1 then (zy v1.2.1).1 else (zy v1.1).1) > 4194304)then some (Bool.false,())else r0 aw aS ay (IntKind.i64.wrap (a8+1))))else some (decide (aw.2.2.1≤4096),()))
def y9B(n:Nat)(k:Nat)(aw:Q1)(aS:List (Q3))(ay:Int)(a8:Int):Option (Bool×Unit) :=
  iter (fun r y=>yGi n (fun aw aS ay a8=>r ((aw,(aS,(ay,(a8,())))),((),()))) y.1.1 y.1.2.1 y.1.2.2.1 y.1.2.2.2.1) k ((aw,(aS,(ay,(a8,())))),((),()))
def zj_m(n:Nat)(t:Q1):Option (Bool×Unit) :=
  (y9B n n (t) (t.2.1) ((↑t.2.1.length:Int)) ((0:Int)))
theorem yU2(n:Nat)(x:zj_a.den):runF zj_g (yP3 n) Tryz.f129 zj_a zj_r x=zj_m n x.1:=by kernel_rfl
def yMK(aw:Q1)(aS:List (Q3))(a8:Int)(v1:Q3):Option ((Bool×Unit)⊕Unit) :=
  (bif decide ((if (zy v1.2.1).1 > (zy v1.1).1 then (zy v1.2.1).1 else (zy v1.1).1) > 4194304)then (some (Sum.inl ((Bool.false,()))))else (some (Sum.inr ())))
def yLW(aw:Q1)(aS:List (Q3)):Option (Bool×Unit) :=
  (some ((decide (aw.2.2.1≤4096),())))
theorem yEx(n:Nat)(hn:big≤n)(aw:Q1)(aS:List (Q3))(hx:List.length (aS) < lenMax):LeF some (yP (fun i__ e__ s__=>yMK aw aS i__ e__) (fun s__=>yLW aw aS) 0 (aS) ()) (y9B n n aw aS (List.length (aS):Int) 0):=by
  refine yM (f:=some) (W:=fun k__ i__ s__=>y9B n k__ aw aS (List.length (aS):Int) i__) (body:=(fun i__ e__ s__=>yMK aw aS i__ e__)) (fin:=(fun s__=>yLW aw aS)) (fun k__ i__ s__=>?_) hx () n (by unfold big at hn;unfold lenMax at hx;omega)
  show LeF _ _ (yGi n (y9B n k__) aw aS (List.length (aS):Int) i__)
  exact y5 (y7 fun v1=>(y5 (y6 rfl) (y6 rfl))) (yq (y6 rfl))
def zj_M(t:Q1):Option (Bool×Unit) :=
  (bif decide (List.length (t.2.1) < lenMax)then yP (fun i__ e__ s__=>yMK (t) (t.2.1) i__ e__) (fun s__=>yLW (t) (t.2.1)) 0 (t.2.1) ()else none)
theorem yRF(t:Q1)(y:Bool×Unit)(h:zj_M t=some y):∃ n,zj_m n t=some y :=
  ⟨big,LeF.top (show LeF some (zj_M t) (zj_m big t)from (fun (n:Nat) (hn:big≤n)=>show LeF some (zj_M t) (zj_m n t)from (yL fun hx=>by apply yEx n hn;exact hx)) big (Nat.le_refl _)) h⟩
def zj_e:Entry:={ f:=129,args:=zj_a,ress:=zj_r,m:=fun x=>zj_M x.1 }
theorem yVi:FnOK Tryz.prog zj_e:=yO (g:=zj_g) (fn:=Tryz.f129) yD yK (yB yH4 eNil) (by kernel_rfl) (by kernel_rfl) (by kernel_rfl) (fun x y h=>let ⟨n,hn⟩:=yRF x.1 y h;⟨yP3 n,iNil,(yU2 n x).trans hn⟩)
abbrev yMz:Ty:=.pair t57 .unit
abbrev ySl:Ty:=.pair t28 .unit
def yRI:G:={ T:=T,E:=[zy_e,z0n_e],muts:=[],fz:=[] }
def yVH:List (List Nat):=[]
def yKG(n:Nat):Ann:={ keep:=yVH,fuel:=n,inl:=[],deep:=0 }
def yJn(n:Nat)(z:Q3):Option (Int×Unit) :=
  some ((z0n (decide ((if (zy z.2.1).1 > (zy z.1).1 then (zy z.2.1).1 else (zy z.1).1) > 16777216)) (1:Int)).1,())
theorem yPf(n:Nat)(x:yMz.den):runF yRI (yKG n) Tryz.f138 yMz ySl x=yJn n x.1:=by kernel_rfl
def z0I(z:Q3):(Int×Unit) :=
  ((z0n (decide ((if (zy z.2.1).1 > (zy z.1).1 then (zy z.2.1).1 else (zy z.1).1) > 16777216)) (1:Int)).1,())
abbrev yML (z:Q3):Option (Int×Unit):=some (z0I z)
theorem yLd(z:Q3)(y:Int×Unit)(h:yML z=some y):∃ n,yJn n z=some y :=
  ⟨0,by rw[← h];show yJn 0 z=some (z0I z);unfold yJn z0I;first|rfl|(simp only[yI];done)|(simp only[yI];rfl)⟩
def z0I_e:Entry:={ f:=138,args:=yMz,ress:=ySl,m:=fun x=>yML x.1 }
theorem ySf:FnOK Tryz.prog z0I_e:=yO (g:=yRI) (fn:=Tryz.f138) yD yK (yB yH4 (yB y5q eNil)) (by kernel_rfl) (by kernel_rfl) (by kernel_rfl) (fun x y h=>let ⟨n,hn⟩:=yLd x.1 y h;⟨yKG n,iNil,(yPf n x).trans hn⟩)
abbrev yOG:Ty:=.pair t60 (.pair t55 (.pair t55 .unit))
abbrev yPV:Ty:=.pair t57 .unit
def ySM:G:={ T:=T,E:=[zQ_e,zr_e,z0g_e,z0m_e],muts:=[],fz:=[] }
def yUX:List (List Nat):=[]
def yLN(n:Nat):Ann:={ keep:=yUX,fuel:=n,inl:=[il124,il195],deep:=3 }
def y77(n:Nat)(r0:List UInt8×Int×List Nat×List (Q3)×Unit→List (Q3)→List Nat→Int→Int→List UInt8×Int×List Nat×List (Q3)×Unit→Q2→Q2→List UInt8×Int×List Nat×List (Q3)×Unit→Q2→Q2→Q3→List UInt8×Int×List Nat×List (Q3)×Unit→List UInt8×Int×List Nat×List (Q3)×Unit→Int→Int→Int→Int→List UInt8×Int×List Nat×List (Q3)×Unit→Q2→Q2→List UInt8×Int×List Nat×List (Q3)×Unit→Q2→Q2→Q3→List UInt8×Int×List Nat×List (Q3)×Unit→List UInt8×Int×List Nat×List (Q3)×Unit→Option ((Q3)×Unit))(j8:List UInt8×Int×List Nat×List (Q3)×Unit)(j9:List (Q3))(j10:Int)(j11:Nat)(j12:List Nat)(j13:Int)(j14:Int)(j15:List UInt8×Int×List Nat×List (Q3)×Unit)(j16:Q2)(j17:Q2)(j18:List UInt8×Int×List Nat×List (Q3)×Unit)(j19:Q2)(j20:Q2)(j21:Q3)(j22:List UInt8×Int×List Nat×List (Q3)×Unit)(j23:List UInt8×Int×List Nat×List (Q3)×Unit)(j24:Int)(j25:Int)(j26:Int)(j27:Int)(j28:List UInt8×Int×List Nat×List (Q3)×Unit)(j29:Q2)(j30:Q2)(j31:List UInt8×Int×List Nat×List (Q3)×Unit)(j32:Q2)(j33:Q2)(j34:Q3)(j35:List UInt8×Int×List Nat×List (Q3)×Unit)(j36:List UInt8×Int×List Nat×List (Q3)×Unit):Option ((Q3)×Unit) :=
  (bif decide ((↑j9.length:Int) > 0)then (Option.bind (idx j9 (0:Int)) fun v37=>(bif decide (v37.1≤j10)then r0 j8 j9 j12 j13 (IntKind.i64.wrap (j14+1)) j15 j16 j17 j18 j19 j20 j21 j22 j23 j24 j25 j26 j27 j28 j29 j30 j31 j32 j33 j34 j35 j36 else (Option.bind (ym Go.FloatKind.f32 (yh Go.BinOp.mul Go.FloatKind.f32 j11 (nat_lit 1098907648)) IntKind.i64) fun v42=>(Option.bind (zQ_M j19 (IntKind.i64.wrap (j8.2.1+j10))) fun v43=>(Option.bind (zQ_M j20 (IntKind.i64.wrap (j8.2.1+j10))) fun v44=>r0 j8 j9 j12 j13 (IntKind.i64.wrap (j14+1)) j15 j16 j17 j18 j19 j20 j21 j22 j23 j24 j25 (z0m (j26,j27,()) (z0g (zr v43.1).1 v44.1).1).1.1 (z0m (j26,j27,()) (z0g (zr v43.1).1 v44.1).1).1.2.1 j28 j29 j30 j31 j32 j33 j34 j35 j36)))))else (Option.bind (ym Go.FloatKind.f32 (yh Go.BinOp.mul Go.FloatKind.f32 j11 (nat_lit 1098907648)) IntKind.i64) fun v45=>(Option.bind (zQ_M j19 (IntKind.i64.wrap (j8.2.1+j10))) fun v46=>(Option.bind (zQ_M j20 (IntKind.i64.wrap (j8.2.1+j10))) fun v47=>r0 j8 j9 j12 j13 (IntKind.i64.wrap (j14+1)) j15 j16 j17 j18 j19 j20 j21 j22 j23 j24 j25 (z0m (j26,j27,()) (z0g (zr v46.1).1 v47.1).1).1.1 (z0m (j26,j27,()) (z0g (zr v46.1).1 v47.1).1).1.2.1 j28 j29 j30 j31 j32 j33 j34 j35 j36))))
def yD3(n:Nat)(r0:List UInt8×Int×List Nat×List (Q3)×Unit→List (Q3)→List Nat→Int→Int→List UInt8×Int×List Nat×List (Q3)×Unit→Q2→Q2→List UInt8×Int×List Nat×List (Q3)×Unit→Q2→Q2→Q3→List UInt8×Int×List Nat×List (Q3)×Unit→List UInt8×Int×List Nat×List (Q3)×Unit→Int→Int→Int→Int→List UInt8×Int×List Nat×List (Q3)×Unit→Q2→Q2→List UInt8×Int×List Nat×List (Q3)×Unit→Q2→Q2→Q3→List UInt8×Int×List Nat×List (Q3)×Unit→List UInt8×Int×List Nat×List (Q3)×Unit→Option ((Q3)×Unit))(r2:List UInt8×Int×List Nat×List (Q3)×Unit→List (Q3)→Int→Nat→List Nat→Int→Int→List UInt8×Int×List Nat×List (Q3)×Unit→Q2→Q2→List UInt8×Int×List Nat×List (Q3)×Unit→Q2→Q2→Q3→List UInt8×Int×List Nat×List (Q3)×Unit→List UInt8×Int×List Nat×List (Q3)×Unit→Int→Int→Int→Int→List UInt8×Int×List Nat×List (Q3)×Unit→Q2→Q2→List UInt8×Int×List Nat×List (Q3)×Unit→Q2→Q2→Q3→List UInt8×Int×List Nat×List (Q3)×Unit→List UInt8×Int×List Nat×List (Q3)×Unit→Option ((Q3)×Unit))(aA:List UInt8×Int×List Nat×List (Q3)×Unit)(ac:List (Q3))(aB:Int)(aF:Nat)(av:List Nat)(aq:Int)(ar:Int)(p0_0_2:List UInt8×Int×List Nat×List (Q3)×Unit)(p0_1_2:Q2)(p0_2_2:Q2)(p0_3_2:List UInt8×Int×List Nat×List (Q3)×Unit)(p0_4_2:Q2)(p0_5_2:Q2)(p0_9_2:Q3)(p0_10_2:List UInt8×Int×List Nat×List (Q3)×Unit)(p0_11_2_0:List UInt8×Int×List Nat×List (Q3)×Unit)(b1_0_2:Int)(b1_1_2:Int)(b2_0_2:Int)(b2_1_2:Int)(aC:List UInt8×Int×List Nat×List (Q3)×Unit)(aD:Q2)(aR:Q2)(b9:List UInt8×Int×List Nat×List (Q3)×Unit)(ba:Q2)(aQ:Q2)(bc:Q3)(aX:List UInt8×Int×List Nat×List (Q3)×Unit)(k11_2_0:List UInt8×Int×List Nat×List (Q3)×Unit):Option ((Q3)×Unit) :=
  (bif decide ((↑ac.length:Int) > 0)then (Option.bind (idx ac (0:Int)) fun v3=>(bif decide (v3.2.1≤aB)then (bif decide ((0:Int)≤1) && decide ((1:Int)≤(↑ac.length:Int))then r2 aA (List.drop (Int.toNat (1:Int)) ac) aB aF av aq ar p0_0_2 p0_1_2 p0_2_2 p0_3_2 p0_4_2 p0_5_2 p0_9_2 p0_10_2 p0_11_2_0 b1_0_2 b1_1_2 b2_0_2 b2_1_2 aC aD aR b9 ba aQ bc aX k11_2_0 else none)else (y77 n r0 (aA) (ac) (aB) (aF) (av) (aq) (ar) (p0_0_2) (p0_1_2) (p0_2_2) (p0_3_2) (p0_4_2) (p0_5_2) (p0_9_2) (p0_10_2) (p0_11_2_0) (b1_0_2) (b1_1_2) (b2_0_2) (b2_1_2) (aC) (aD) (aR) (b9) (ba) (aQ) (bc) (aX) (k11_2_0))))else (y77 n r0 (aA) (ac) (aB) (aF) (av) (aq) (ar) (p0_0_2) (p0_1_2) (p0_2_2) (p0_3_2) (p0_4_2) (p0_5_2) (p0_9_2) (p0_10_2) (p0_11_2_0) (b1_0_2) (b1_1_2) (b2_0_2) (b2_1_2) (aC) (aD) (aR) (b9) (ba) (aQ) (bc) (aX) (k11_2_0)))
def y66(n:Nat)(r0:List UInt8×Int×List Nat×List (Q3)×Unit→List (Q3)→List Nat→Int→Int→List UInt8×Int×List Nat×List (Q3)×Unit→Q2→Q2→List UInt8×Int×List Nat×List (Q3)×Unit→Q2→Q2→Q3→List UInt8×Int×List Nat×List (Q3)×Unit→List UInt8×Int×List Nat×List (Q3)×Unit→Int→Int→Int→Int→List UInt8×Int×List Nat×List (Q3)×Unit→Q2→Q2→List UInt8×Int×List Nat×List (Q3)×Unit→Q2→Q2→Q3→List UInt8×Int×List Nat×List (Q3)×Unit→List UInt8×Int×List Nat×List (Q3)×Unit→Option ((Q3)×Unit))(k:Nat)(aA:List UInt8×Int×List Nat×List (Q3)×Unit)(ac:List (Q3))(aB:Int)(aF:Nat)(av:List Nat)(aq:Int)(ar:Int)(p0_0_2:List UInt8×Int×List Nat×List (Q3)×Unit)(p0_1_2:Q2)(p0_2_2:Q2)(p0_3_2:List UInt8×Int×List Nat×List (Q3)×Unit)(p0_4_2:Q2)(p0_5_2:Q2)(p0_9_2:Q3)(p0_10_2:List UInt8×Int×List Nat×List (Q3)×Unit)(p0_11_2_0:List UInt8×Int×List Nat×List (Q3)×Unit)(b1_0_2:Int)(b1_1_2:Int)(b2_0_2:Int)(b2_1_2:Int)(aC:List UInt8×Int×List Nat×List (Q3)×Unit)(aD:Q2)(aR:Q2)(b9:List UInt8×Int×List Nat×List (Q3)×Unit)(ba:Q2)(aQ:Q2)(bc:Q3)(aX:List UInt8×Int×List Nat×List (Q3)×Unit)(k11_2_0:List UInt8×Int×List Nat×List (Q3)×Unit):Option ((Q3)×Unit) :=
  iter (fun r y=>yD3 n r0 (fun aA ac aB aF av aq ar p0_0_2 p0_1_2 p0_2_2 p0_3_2 p0_4_2 p0_5_2 p0_9_2 p0_10_2 p0_11_2_0 b1_0_2 b1_1_2 b2_0_2 b2_1_2 aC aD aR b9 ba aQ bc aX k11_2_0=>r ((aA,(ac,(aB,(aF,(av,(aq,(ar,()))))))),(((p0_0_2,(p0_1_2,(p0_2_2,(p0_3_2,(p0_4_2,(p0_5_2,(p0_9_2,(p0_10_2,((p0_11_2_0,()),()))))))))),((b1_0_2,(b1_1_2,())),((b2_0_2,(b2_1_2,())),()))),(aC,(aD,(aR,(b9,(ba,(aQ,(bc,(aX,((k11_2_0,()),())))))))))))) y.1.1 y.1.2.1 y.1.2.2.1 y.1.2.2.2.1 y.1.2.2.2.2.1 y.1.2.2.2.2.2.1 y.1.2.2.2.2.2.2.1 y.2.1.1.1 y.2.1.1.2.1 y.2.1.1.2.2.1 y.2.1.1.2.2.2.1 y.2.1.1.2.2.2.2.1 y.2.1.1.2.2.2.2.2.1 y.2.1.1.2.2.2.2.2.2.1 y.2.1.1.2.2.2.2.2.2.2.1 y.2.1.1.2.2.2.2.2.2.2.2.1.1 y.2.1.2.1.1 y.2.1.2.1.2.1 y.2.1.2.2.1.1 y.2.1.2.2.1.2.1 y.2.2.1 y.2.2.2.1 y.2.2.2.2.1 y.2.2.2.2.2.1 y.2.2.2.2.2.2.1 y.2.2.2.2.2.2.2.1 y.2.2.2.2.2.2.2.2.1 y.2.2.2.2.2.2.2.2.2.1 y.2.2.2.2.2.2.2.2.2.2.1.1) k ((aA,(ac,(aB,(aF,(av,(aq,(ar,()))))))),(((p0_0_2,(p0_1_2,(p0_2_2,(p0_3_2,(p0_4_2,(p0_5_2,(p0_9_2,(p0_10_2,((p0_11_2_0,()),()))))))))),((b1_0_2,(b1_1_2,())),((b2_0_2,(b2_1_2,())),()))),(aC,(aD,(aR,(b9,(ba,(aQ,(bc,(aX,((k11_2_0,()),())))))))))))
def yCu(n:Nat)(r0:List UInt8×Int×List Nat×List (Q3)×Unit→List (Q3)→List Nat→Int→Int→List UInt8×Int×List Nat×List (Q3)×Unit→Q2→Q2→List UInt8×Int×List Nat×List (Q3)×Unit→Q2→Q2→Q3→List UInt8×Int×List Nat×List (Q3)×Unit→List UInt8×Int×List Nat×List (Q3)×Unit→Int→Int→Int→Int→List UInt8×Int×List Nat×List (Q3)×Unit→Q2→Q2→List UInt8×Int×List Nat×List (Q3)×Unit→Q2→Q2→Q3→List UInt8×Int×List Nat×List (Q3)×Unit→List UInt8×Int×List Nat×List (Q3)×Unit→Option ((Q3)×Unit))(aw:List UInt8×Int×List Nat×List (Q3)×Unit)(aj:List (Q3))(af:List Nat)(ae:Int)(am:Int)(p0_0_0:List UInt8×Int×List Nat×List (Q3)×Unit)(p0_1_0:Q2)(p0_2_0:Q2)(p0_3_0:List UInt8×Int×List Nat×List (Q3)×Unit)(p0_4_0:Q2)(p0_5_0:Q2)(p0_9_0:Q3)(p0_10_0:List UInt8×Int×List Nat×List (Q3)×Unit)(p0_11_0_0:List UInt8×Int×List Nat×List (Q3)×Unit)(b1_0_0:Int)(b1_1_0:Int)(b2_0_0:Int)(b2_1_0:Int)(aG:List UInt8×Int×List Nat×List (Q3)×Unit)(aH:Q2)(aV:Q2)(bj:List UInt8×Int×List Nat×List (Q3)×Unit)(bl:Q2)(aU:Q2)(bm:Q3)(b4:List UInt8×Int×List Nat×List (Q3)×Unit)(k11_0_0:List UInt8×Int×List Nat×List (Q3)×Unit):Option ((Q3)×Unit) :=
  (bif decide (am < ae)then (Option.bind (idx af am) fun v1=>(y66 n r0 n (aw) (aj) (am) (v1) (af) (ae) (am) (p0_0_0) (p0_1_0) (p0_2_0) (p0_3_0) (p0_4_0) (p0_5_0) (p0_9_0) (p0_10_0) (p0_11_0_0) (b1_0_0) (b1_1_0) (b2_0_0) (b2_1_0) (aG) (aH) (aV) (bj) (bl) (aU) (bm) (b4) (k11_0_0)))else some ((b2_0_0,b2_1_0,()),()))
def y6B(n:Nat)(k:Nat)(aw:List UInt8×Int×List Nat×List (Q3)×Unit)(aj:List (Q3))(af:List Nat)(ae:Int)(am:Int)(p0_0_0:List UInt8×Int×List Nat×List (Q3)×Unit)(p0_1_0:Q2)(p0_2_0:Q2)(p0_3_0:List UInt8×Int×List Nat×List (Q3)×Unit)(p0_4_0:Q2)(p0_5_0:Q2)(p0_9_0:Q3)(p0_10_0:List UInt8×Int×List Nat×List (Q3)×Unit)(p0_11_0_0:List UInt8×Int×List Nat×List (Q3)×Unit)(b1_0_0:Int)(b1_1_0:Int)(b2_0_0:Int)(b2_1_0:Int)(aG:List UInt8×Int×List Nat×List (Q3)×Unit)(aH:Q2)(aV:Q2)(bj:List UInt8×Int×List Nat×List (Q3)×Unit)(bl:Q2)(aU:Q2)(bm:Q3)(b4:List UInt8×Int×List Nat×List (Q3)×Unit)(k11_0_0:List UInt8×Int×List Nat×List (Q3)×Unit):Option ((Q3)×Unit) :=
  iter (fun r y=>yCu n (fun aw aj af ae am p0_0_0 p0_1_0 p0_2_0 p0_3_0 p0_4_0 p0_5_0 p0_9_0 p0_10_0 p0_11_0_0 b1_0_0 b1_1_0 b2_0_0 b2_1_0 aG aH aV bj bl aU bm b4 k11_0_0=>r ((aw,(aj,(af,(ae,(am,()))))),(((p0_0_0,(p0_1_0,(p0_2_0,(p0_3_0,(p0_4_0,(p0_5_0,(p0_9_0,(p0_10_0,((p0_11_0_0,()),()))))))))),((b1_0_0,(b1_1_0,())),((b2_0_0,(b2_1_0,())),()))),(aG,(aH,(aV,(bj,(bl,(aU,(bm,(b4,((k11_0_0,()),())))))))))))) y.1.1 y.1.2.1 y.1.2.2.1 y.1.2.2.2.1 y.1.2.2.2.2.1 y.2.1.1.1 y.2.1.1.2.1 y.2.1.1.2.2.1 y.2.1.1.2.2.2.1 y.2.1.1.2.2.2.2.1 y.2.1.1.2.2.2.2.2.1 y.2.1.1.2.2.2.2.2.2.1 y.2.1.1.2.2.2.2.2.2.2.1 y.2.1.1.2.2.2.2.2.2.2.2.1.1 y.2.1.2.1.1 y.2.1.2.1.2.1 y.2.1.2.2.1.1 y.2.1.2.2.1.2.1 y.2.2.1 y.2.2.2.1 y.2.2.2.2.1 y.2.2.2.2.2.1 y.2.2.2.2.2.2.1 y.2.2.2.2.2.2.2.1 y.2.2.2.2.2.2.2.2.1 y.2.2.2.2.2.2.2.2.2.1 y.2.2.2.2.2.2.2.2.2.2.1.1) k ((aw,(aj,(af,(ae,(am,()))))),(((p0_0_0,(p0_1_0,(p0_2_0,(p0_3_0,(p0_4_0,(p0_5_0,(p0_9_0,(p0_10_0,((p0_11_0_0,()),()))))))))),((b1_0_0,(b1_1_0,())),((b2_0_0,(b2_1_0,())),()))),(aG,(aH,(aV,(bj,(bl,(aU,(bm,(b4,((k11_0_0,()),())))))))))))
def yIr(n:Nat)(r1:List UInt8×Int×List Nat×List (Q3)×Unit)(a:Q2)(b:Q2):Option ((Q3)×Unit) :=
  (y6B n n (r1) (r1.2.2.2.1) (r1.2.2.1) ((↑r1.2.2.1.length:Int)) ((0:Int)) (r1) (a) (b) (r1) (a) (b) (((0:Int),(0:Int),())) (r1) (r1) ((0:Int)) ((0:Int)) ((0:Int)) ((0:Int)) (r1) (a) (b) (r1) (a) (b) (((0:Int),(0:Int),())) (r1) (r1))
theorem yOc(n:Nat)(x:yOG.den):runF ySM (yLN n) Tryz.f148 yOG yPV x=yIr n x.1 x.2.1 x.2.2.1:=by kernel_rfl
def yCV(j8:List UInt8×Int×List Nat×List (Q3)×Unit)(j9:List (Q3))(j10:Int)(j11:Nat)(j12:List Nat)(j13:Int)(j14:Int)(j15:List UInt8×Int×List Nat×List (Q3)×Unit)(j16:Q2)(j17:Q2)(j18:List UInt8×Int×List Nat×List (Q3)×Unit)(j19:Q2)(j20:Q2)(j21:Q3)(j22:List UInt8×Int×List Nat×List (Q3)×Unit)(j23:List UInt8×Int×List Nat×List (Q3)×Unit)(j24:Int)(j25:Int)(j26:Int)(j27:Int)(j28:List UInt8×Int×List Nat×List (Q3)×Unit)(j29:Q2)(j30:Q2)(j31:List UInt8×Int×List Nat×List (Q3)×Unit)(j32:Q2)(j33:Q2)(j34:Q3)(j35:List UInt8×Int×List Nat×List (Q3)×Unit)(j36:List UInt8×Int×List Nat×List (Q3)×Unit):Option (((Q3)×Unit)⊕((List (Q3))×Int×Int)) :=
  (bif decide ((↑j9.length:Int) > 0)then (Option.bind (idx j9 (0:Int)) fun v37=>(bif decide (v37.1≤j10)then (some (Sum.inr ((j9),(j26),(j27))))else (Option.bind (ym Go.FloatKind.f32 (yh Go.BinOp.mul Go.FloatKind.f32 j11 (nat_lit 1098907648)) IntKind.i64) fun v42=>(Option.bind (zQ_M j19 (IntKind.i64.wrap (j8.2.1+j10))) fun v43=>(Option.bind (zQ_M j20 (IntKind.i64.wrap (j8.2.1+j10))) fun v44=>(some (Sum.inr ((j9),((z0m (j26,j27,()) (z0g (zr v43.1).1 v44.1).1).1.1),((z0m (j26,j27,()) (z0g (zr v43.1).1 v44.1).1).1.2.1)))))))))else (Option.bind (ym Go.FloatKind.f32 (yh Go.BinOp.mul Go.FloatKind.f32 j11 (nat_lit 1098907648)) IntKind.i64) fun v45=>(Option.bind (zQ_M j19 (IntKind.i64.wrap (j8.2.1+j10))) fun v46=>(Option.bind (zQ_M j20 (IntKind.i64.wrap (j8.2.1+j10))) fun v47=>(some (Sum.inr ((j9),((z0m (j26,j27,()) (z0g (zr v46.1).1 v47.1).1).1.1),((z0m (j26,j27,()) (z0g (zr v46.1).1 v47.1).1).1.2.1))))))))
theorem y2f(n:Nat)(hn:big≤n)(r0:List UInt8×Int×List Nat×List (Q3)×Unit→List (Q3)→List Nat→Int→Int→List UInt8×Int×List Nat×List (Q3)×Unit→Q2→Q2→List UInt8×Int×List Nat×List (Q3)×Unit→Q2→Q2→Q3→List UInt8×Int×List Nat×List (Q3)×Unit→List UInt8×Int×List Nat×List (Q3)×Unit→Int→Int→Int→Int→List UInt8×Int×List Nat×List (Q3)×Unit→Q2→Q2→List UInt8×Int×List Nat×List (Q3)×Unit→Q2→Q2→Q3→List UInt8×Int×List Nat×List (Q3)×Unit→List UInt8×Int×List Nat×List (Q3)×Unit→Option ((Q3)×Unit))(j8:List UInt8×Int×List Nat×List (Q3)×Unit)(j9:List (Q3))(j10:Int)(j11:Nat)(j12:List Nat)(j13:Int)(j14:Int)(j15:List UInt8×Int×List Nat×List (Q3)×Unit)(j16:Q2)(j17:Q2)(j18:List UInt8×Int×List Nat×List (Q3)×Unit)(j19:Q2)(j20:Q2)(j21:Q3)(j22:List UInt8×Int×List Nat×List (Q3)×Unit)(j23:List UInt8×Int×List Nat×List (Q3)×Unit)(j24:Int)(j25:Int)(j26:Int)(j27:Int)(j28:List UInt8×Int×List Nat×List (Q3)×Unit)(j29:Q2)(j30:Q2)(j31:List UInt8×Int×List Nat×List (Q3)×Unit)(j32:Q2)(j33:Q2)(j34:Q3)(j35:List UInt8×Int×List Nat×List (Q3)×Unit)(j36:List UInt8×Int×List Nat×List (Q3)×Unit):LeF (elim some fun (s__:((List (Q3))×Int×Int))=>r0 j8 s__.1 j12 j13 (IntKind.i64.wrap (j14+1)) j15 j16 j17 j18 j19 j20 j21 j22 j23 j24 j25 s__.2.1 s__.2.2 j28 j29 j30 j31 j32 j33 j34 j35 j36) (yCV j8 j9 j10 j11 j12 j13 j14 j15 j16 j17 j18 j19 j20 j21 j22 j23 j24 j25 j26 j27 j28 j29 j30 j31 j32 j33 j34 j35 j36) (y77 n r0 j8 j9 j10 j11 j12 j13 j14 j15 j16 j17 j18 j19 j20 j21 j22 j23 j24 j25 j26 j27 j28 j29 j30 j31 j32 j33 j34 j35 j36) :=
  (y5 (y7 fun v37=>(y5 (y6 rfl) (y7 fun v42=>(y7 fun v43=>(y7 fun v44=>(y6 rfl)))))) (y7 fun v45=>(y7 fun v46=>(y7 fun v47=>(y6 rfl)))))
def yGv(aA:List UInt8×Int×List Nat×List (Q3)×Unit)(aB:Int)(aF:Nat)(av:List Nat)(aq:Int)(ar:Int)(p0_0_2:List UInt8×Int×List Nat×List (Q3)×Unit)(p0_1_2:Q2)(p0_2_2:Q2)(p0_3_2:List UInt8×Int×List Nat×List (Q3)×Unit)(p0_4_2:Q2)(p0_5_2:Q2)(p0_9_2:Q3)(p0_10_2:List UInt8×Int×List Nat×List (Q3)×Unit)(p0_11_2_0:List UInt8×Int×List Nat×List (Q3)×Unit)(b1_0_2:Int)(b1_1_2:Int)(b2_0_2:Int)(b2_1_2:Int)(aC:List UInt8×Int×List Nat×List (Q3)×Unit)(aD:Q2)(aR:Q2)(b9:List UInt8×Int×List Nat×List (Q3)×Unit)(ba:Q2)(aQ:Q2)(bc:Q3)(aX:List UInt8×Int×List Nat×List (Q3)×Unit)(k11_2_0:List UInt8×Int×List Nat×List (Q3)×Unit)(ac:List (Q3)):Option ((((Q3)×Unit)⊕((List (Q3))×Int×Int))⊕(List (Q3))) :=
  (bif decide ((↑ac.length:Int) > 0)then (Option.bind (idx ac (0:Int)) fun v3=>(bif decide (v3.2.1≤aB)then (bif decide ((0:Int)≤1) && decide ((1:Int)≤(↑ac.length:Int))then (some (Sum.inr (List.drop (Int.toNat (1:Int)) ac)))else none)else (Option.map Sum.inl (yCV (aA) (ac) (aB) (aF) (av) (aq) (ar) (p0_0_2) (p0_1_2) (p0_2_2) (p0_3_2) (p0_4_2) (p0_5_2) (p0_9_2) (p0_10_2) (p0_11_2_0) (b1_0_2) (b1_1_2) (b2_0_2) (b2_1_2) (aC) (aD) (aR) (b9) (ba) (aQ) (bc) (aX) (k11_2_0)))))else (Option.map Sum.inl (yCV (aA) (ac) (aB) (aF) (av) (aq) (ar) (p0_0_2) (p0_1_2) (p0_2_2) (p0_3_2) (p0_4_2) (p0_5_2) (p0_9_2) (p0_10_2) (p0_11_2_0) (b1_0_2) (b1_1_2) (b2_0_2) (b2_1_2) (aC) (aD) (aR) (b9) (ba) (aQ) (bc) (aX) (k11_2_0))))
theorem yCC(n:Nat)(hn:big≤n)(r0:List UInt8×Int×List Nat×List (Q3)×Unit→List (Q3)→List Nat→Int→Int→List UInt8×Int×List Nat×List (Q3)×Unit→Q2→Q2→List UInt8×Int×List Nat×List (Q3)×Unit→Q2→Q2→Q3→List UInt8×Int×List Nat×List (Q3)×Unit→List UInt8×Int×List Nat×List (Q3)×Unit→Int→Int→Int→Int→List UInt8×Int×List Nat×List (Q3)×Unit→Q2→Q2→List UInt8×Int×List Nat×List (Q3)×Unit→Q2→Q2→Q3→List UInt8×Int×List Nat×List (Q3)×Unit→List UInt8×Int×List Nat×List (Q3)×Unit→Option ((Q3)×Unit))(aA:List UInt8×Int×List Nat×List (Q3)×Unit)(aB:Int)(aF:Nat)(av:List Nat)(aq:Int)(ar:Int)(p0_0_2:List UInt8×Int×List Nat×List (Q3)×Unit)(p0_1_2:Q2)(p0_2_2:Q2)(p0_3_2:List UInt8×Int×List Nat×List (Q3)×Unit)(p0_4_2:Q2)(p0_5_2:Q2)(p0_9_2:Q3)(p0_10_2:List UInt8×Int×List Nat×List (Q3)×Unit)(p0_11_2_0:List UInt8×Int×List Nat×List (Q3)×Unit)(b1_0_2:Int)(b1_1_2:Int)(b2_0_2:Int)(b2_1_2:Int)(aC:List UInt8×Int×List Nat×List (Q3)×Unit)(aD:Q2)(aR:Q2)(b9:List UInt8×Int×List Nat×List (Q3)×Unit)(ba:Q2)(aQ:Q2)(bc:Q3)(aX:List UInt8×Int×List Nat×List (Q3)×Unit)(k11_2_0:List UInt8×Int×List Nat×List (Q3)×Unit)(ac:List (Q3)):LeF (elim some fun (s__:((List (Q3))×Int×Int))=>r0 aA s__.1 av aq (IntKind.i64.wrap (ar+1)) p0_0_2 p0_1_2 p0_2_2 p0_3_2 p0_4_2 p0_5_2 p0_9_2 p0_10_2 p0_11_2_0 b1_0_2 b1_1_2 s__.2.1 s__.2.2 aC aD aR b9 ba aQ bc aX k11_2_0) (y3e (fun s__=>yGv aA aB aF av aq ar p0_0_2 p0_1_2 p0_2_2 p0_3_2 p0_4_2 p0_5_2 p0_9_2 p0_10_2 p0_11_2_0 b1_0_2 b1_1_2 b2_0_2 b2_1_2 aC aD aR b9 ba aQ bc aX k11_2_0 s__) wMax ac) (y66 n r0 n aA ac aB aF av aq ar p0_0_2 p0_1_2 p0_2_2 p0_3_2 p0_4_2 p0_5_2 p0_9_2 p0_10_2 p0_11_2_0 b1_0_2 b1_1_2 b2_0_2 b2_1_2 aC aD aR b9 ba aQ bc aX k11_2_0):=by
  refine y2x (f:=(elim some fun (s__:((List (Q3))×Int×Int))=>r0 aA s__.1 av aq (IntKind.i64.wrap (ar+1)) p0_0_2 p0_1_2 p0_2_2 p0_3_2 p0_4_2 p0_5_2 p0_9_2 p0_10_2 p0_11_2_0 b1_0_2 b1_1_2 s__.2.1 s__.2.2 aC aD aR b9 ba aQ bc aX k11_2_0)) (W:=fun k__ s__=>y66 n r0 k__ aA s__ aB aF av aq ar p0_0_2 p0_1_2 p0_2_2 p0_3_2 p0_4_2 p0_5_2 p0_9_2 p0_10_2 p0_11_2_0 b1_0_2 b1_1_2 b2_0_2 b2_1_2 aC aD aR b9 ba aQ bc aX k11_2_0) (body:=(fun s__=>yGv aA aB aF av aq ar p0_0_2 p0_1_2 p0_2_2 p0_3_2 p0_4_2 p0_5_2 p0_9_2 p0_10_2 p0_11_2_0 b1_0_2 b1_1_2 b2_0_2 b2_1_2 aC aD aR b9 ba aQ bc aX k11_2_0 s__)) (fun k__ s__=>?_) wMax n ac (by unfold big at hn;unfold wMax;omega)
  show LeF _ _ (yD3 n r0 (y66 n r0 k__) aA s__ aB aF av aq ar p0_0_2 p0_1_2 p0_2_2 p0_3_2 p0_4_2 p0_5_2 p0_9_2 p0_10_2 p0_11_2_0 b1_0_2 b1_1_2 b2_0_2 b2_1_2 aC aD aR b9 ba aQ bc aX k11_2_0)
  exact (y5 (y7 fun v3=>(y5 (y5 (y6 rfl) yY) (yq (by apply y2f n hn)))) (yq (by apply y2f n hn)))
def yFb(aw:List UInt8×Int×List Nat×List (Q3)×Unit)(af:List Nat)(p0_0_0:List UInt8×Int×List Nat×List (Q3)×Unit)(p0_1_0:Q2)(p0_2_0:Q2)(p0_3_0:List UInt8×Int×List Nat×List (Q3)×Unit)(p0_4_0:Q2)(p0_5_0:Q2)(p0_9_0:Q3)(p0_10_0:List UInt8×Int×List Nat×List (Q3)×Unit)(p0_11_0_0:List UInt8×Int×List Nat×List (Q3)×Unit)(b1_0_0:Int)(b1_1_0:Int)(aG:List UInt8×Int×List Nat×List (Q3)×Unit)(aH:Q2)(aV:Q2)(bj:List UInt8×Int×List Nat×List (Q3)×Unit)(bl:Q2)(aU:Q2)(bm:Q3)(b4:List UInt8×Int×List Nat×List (Q3)×Unit)(k11_0_0:List UInt8×Int×List Nat×List (Q3)×Unit)(am:Int)(v1:Nat)(aj:List (Q3))(b2_0_0:Int)(b2_1_0:Int):Option (((Q3)×Unit)⊕((List (Q3))×Int×Int)) :=
  (y3e (fun s__=>yGv (aw) (am) (v1) (af) ((↑af.length:Int)) (am) (p0_0_0) (p0_1_0) (p0_2_0) (p0_3_0) (p0_4_0) (p0_5_0) (p0_9_0) (p0_10_0) (p0_11_0_0) (b1_0_0) (b1_1_0) (b2_0_0) (b2_1_0) (aG) (aH) (aV) (bj) (bl) (aU) (bm) (b4) (k11_0_0) s__) wMax (aj))
def yI9(aw:List UInt8×Int×List Nat×List (Q3)×Unit)(af:List Nat)(p0_0_0:List UInt8×Int×List Nat×List (Q3)×Unit)(p0_1_0:Q2)(p0_2_0:Q2)(p0_3_0:List UInt8×Int×List Nat×List (Q3)×Unit)(p0_4_0:Q2)(p0_5_0:Q2)(p0_9_0:Q3)(p0_10_0:List UInt8×Int×List Nat×List (Q3)×Unit)(p0_11_0_0:List UInt8×Int×List Nat×List (Q3)×Unit)(b1_0_0:Int)(b1_1_0:Int)(aG:List UInt8×Int×List Nat×List (Q3)×Unit)(aH:Q2)(aV:Q2)(bj:List UInt8×Int×List Nat×List (Q3)×Unit)(bl:Q2)(aU:Q2)(bm:Q3)(b4:List UInt8×Int×List Nat×List (Q3)×Unit)(k11_0_0:List UInt8×Int×List Nat×List (Q3)×Unit)(aj:List (Q3))(b2_0_0:Int)(b2_1_0:Int):Option ((Q3)×Unit) :=
  (some (((b2_0_0,b2_1_0,()),())))
theorem yBo(n:Nat)(hn:big≤n)(aw:List UInt8×Int×List Nat×List (Q3)×Unit)(af:List Nat)(p0_0_0:List UInt8×Int×List Nat×List (Q3)×Unit)(p0_1_0:Q2)(p0_2_0:Q2)(p0_3_0:List UInt8×Int×List Nat×List (Q3)×Unit)(p0_4_0:Q2)(p0_5_0:Q2)(p0_9_0:Q3)(p0_10_0:List UInt8×Int×List Nat×List (Q3)×Unit)(p0_11_0_0:List UInt8×Int×List Nat×List (Q3)×Unit)(b1_0_0:Int)(b1_1_0:Int)(aG:List UInt8×Int×List Nat×List (Q3)×Unit)(aH:Q2)(aV:Q2)(bj:List UInt8×Int×List Nat×List (Q3)×Unit)(bl:Q2)(aU:Q2)(bm:Q3)(b4:List UInt8×Int×List Nat×List (Q3)×Unit)(k11_0_0:List UInt8×Int×List Nat×List (Q3)×Unit)(aj:List (Q3))(b2_0_0:Int)(b2_1_0:Int)(hx:List.length (af) < lenMax):LeF some (yP (fun i__ e__ s__=>yFb aw af p0_0_0 p0_1_0 p0_2_0 p0_3_0 p0_4_0 p0_5_0 p0_9_0 p0_10_0 p0_11_0_0 b1_0_0 b1_1_0 aG aH aV bj bl aU bm b4 k11_0_0 i__ e__ s__.1 s__.2.1 s__.2.2) (fun s__=>yI9 aw af p0_0_0 p0_1_0 p0_2_0 p0_3_0 p0_4_0 p0_5_0 p0_9_0 p0_10_0 p0_11_0_0 b1_0_0 b1_1_0 aG aH aV bj bl aU bm b4 k11_0_0 s__.1 s__.2.1 s__.2.2) 0 (af) (aj,b2_0_0,b2_1_0)) (y6B n n aw aj af (List.length (af):Int) 0 p0_0_0 p0_1_0 p0_2_0 p0_3_0 p0_4_0 p0_5_0 p0_9_0 p0_10_0 p0_11_0_0 b1_0_0 b1_1_0 b2_0_0 b2_1_0 aG aH aV bj bl aU bm b4 k11_0_0):=by
  refine yM (f:=some) (W:=fun k__ i__ s__=>y6B n k__ aw s__.1 af (List.length (af):Int) i__ p0_0_0 p0_1_0 p0_2_0 p0_3_0 p0_4_0 p0_5_0 p0_9_0 p0_10_0 p0_11_0_0 b1_0_0 b1_1_0 s__.2.1 s__.2.2 aG aH aV bj bl aU bm b4 k11_0_0) (body:=(fun i__ e__ s__=>yFb aw af p0_0_0 p0_1_0 p0_2_0 p0_3_0 p0_4_0 p0_5_0 p0_9_0 p0_10_0 p0_11_0_0 b1_0_0 b1_1_0 aG aH aV bj bl aU bm b4 k11_0_0 i__ e__ s__.1 s__.2.1 s__.2.2)) (fin:=(fun s__=>yI9 aw af p0_0_0 p0_1_0 p0_2_0 p0_3_0 p0_4_0 p0_5_0 p0_9_0 p0_10_0 p0_11_0_0 b1_0_0 b1_1_0 aG aH aV bj bl aU bm b4 k11_0_0 s__.1 s__.2.1 s__.2.2)) (fun k__ i__ s__=>?_) hx (aj,b2_0_0,b2_1_0) n (by unfold big at hn;unfold lenMax at hx;omega)
  show LeF _ _ (yCu n (y6B n k__) aw s__.1 af (List.length (af):Int) i__ p0_0_0 p0_1_0 p0_2_0 p0_3_0 p0_4_0 p0_5_0 p0_9_0 p0_10_0 p0_11_0_0 b1_0_0 b1_1_0 s__.2.1 s__.2.2 aG aH aV bj bl aU bm b4 k11_0_0)
  exact y5 (y7 fun v1=>(by apply yCC n hn)) (yq (y6 rfl))
def yB6(r1:List UInt8×Int×List Nat×List (Q3)×Unit)(a:Q2)(b:Q2):Option ((Q3)×Unit) :=
  (bif decide (List.length (r1.2.2.1) < lenMax)then yP (fun i__ e__ s__=>yFb (r1) (r1.2.2.1) (r1) (a) (b) (r1) (a) (b) (((0:Int),(0:Int),())) (r1) (r1) ((0:Int)) ((0:Int)) (r1) (a) (b) (r1) (a) (b) (((0:Int),(0:Int),())) (r1) (r1) i__ e__ s__.1 s__.2.1 s__.2.2) (fun s__=>yI9 (r1) (r1.2.2.1) (r1) (a) (b) (r1) (a) (b) (((0:Int),(0:Int),())) (r1) (r1) ((0:Int)) ((0:Int)) (r1) (a) (b) (r1) (a) (b) (((0:Int),(0:Int),())) (r1) (r1) s__.1 s__.2.1 s__.2.2) 0 (r1.2.2.1) ((r1.2.2.2.1),((0:Int)),((0:Int)))else none)
theorem yNl(r1:List UInt8×Int×List Nat×List (Q3)×Unit)(a:Q2)(b:Q2)(y:(Q3)×Unit)(h:yB6 r1 a b=some y):∃ n,yIr n r1 a b=some y :=
  ⟨big,LeF.top (show LeF some (yB6 r1 a b) (yIr big r1 a b)from (fun (n:Nat) (hn:big≤n)=>show LeF some (yB6 r1 a b) (yIr n r1 a b)from (yL fun hx=>by apply yBo n hn;exact hx)) big (Nat.le_refl _)) h⟩
def z0b_e:Entry:={ f:=148,args:=yOG,ress:=yPV,m:=fun x=>yB6 x.1 x.2.1 x.2.2.1 }
theorem yIE:FnOK Tryz.prog z0b_e:=yO (g:=ySM) (fn:=Tryz.f148) yD yK (yB yNA (yB yLT (yB yCy (yB yDf eNil)))) (by kernel_rfl) (by kernel_rfl) (by kernel_rfl) (fun x y h=>let ⟨n,hn⟩:=yNl x.1 x.2.1 x.2.2.1 y h;⟨yLN n,(y4r y4Y (y4r y4T iNil)),(yOc n x).trans hn⟩)
abbrev yTc:Ty:=.pair t96 .unit
abbrev yUL:Ty:=.pair t57 .unit
class ref02_det_Rec where
  f:yTc.den→Option yUL.den
section
variable [ref02_det_Rec]
end
abbrev yOQ:Ty:=.pair t31 (.pair t23 (.pair t3 .unit))
abbrev yQi:Ty:=.pair t57 .unit
def yST:G:={ T:=T,E:=[zQ_e,z0g_e,z0m_e],muts:=[],fz:=[] }
def yU0:List (List Nat):=[[1,2,6,7,11,12,13]]
def yKq(n:Nat):Ann:={ keep:=yU0,fuel:=n,inl:=[],deep:=0 }
def yDK(n:Nat)(r0:List (Q3)→Int→List (Q2)→Int→Int→Int→Int→Int→Int→Option ((Q3)×Unit))(bf:List (Q3))(aL:Int)(am:List (Q2))(bx:Int)(aZ:Int)(b0_0_0:Int)(b0_1_0:Int)(b1_0_0:Int)(b1_1_0:Int):Option ((Q3)×Unit) :=
  (bif decide (aZ < bx)then (Option.bind (idx am aZ) fun v1=>(Option.bind (idx bf aZ) fun v2=>(Option.bind (zQ_M (v1.1,v1.2.1,v1.2.2.1,()) aL) fun v3=>r0 bf aL am bx (IntKind.i64.wrap (aZ+1)) b0_0_0 b0_1_0 (z0m (b1_0_0,b1_1_0,()) (z0g v2 v3.1).1).1.1 (z0m (b1_0_0,b1_1_0,()) (z0g v2 v3.1).1).1.2.1)))else some ((b1_0_0,b1_1_0,()),()))
def y6W(n:Nat)(k:Nat)(bf:List (Q3))(aL:Int)(am:List (Q2))(bx:Int)(aZ:Int)(b0_0_0:Int)(b0_1_0:Int)(b1_0_0:Int)(b1_1_0:Int):Option ((Q3)×Unit) :=
  iter (fun r y=>yDK n (fun bf aL am bx aZ b0_0_0 b0_1_0 b1_0_0 b1_1_0=>r ((bf,(aL,(am,(bx,(aZ,()))))),(((b0_0_0,(b0_1_0,())),((b1_0_0,(b1_1_0,())),())),()))) y.1.1 y.1.2.1 y.1.2.2.1 y.1.2.2.2.1 y.1.2.2.2.2.1 y.2.1.1.1 y.2.1.1.2.1 y.2.1.2.1.1 y.2.1.2.1.2.1) k ((bf,(aL,(am,(bx,(aZ,()))))),(((b0_0_0,(b0_1_0,())),((b1_0_0,(b1_1_0,())),())),()))
def yJN(n:Nat)(l:List (Q2))(v:List (Q3))(tick:Int):Option ((Q3)×Unit) :=
  (y6W n n (v) (tick) (l) ((↑l.length:Int)) ((0:Int)) ((0:Int)) ((0:Int)) ((0:Int)) ((0:Int)))
theorem yOt(n:Nat)(x:yOQ.den):runF yST (yKq n) Tryz.f167 yOQ yQi x=yJN n x.1 x.2.1 x.2.2.1:=by kernel_rfl
def yHH(bf:List (Q3))(aL:Int)(am:List (Q2))(b0_0_0:Int)(b0_1_0:Int)(aZ:Int)(v1:Q2)(b1_0_0:Int)(b1_1_0:Int):Option (((Q3)×Unit)⊕(Int×Int)) :=
  (Option.bind (idx bf aZ) fun v2=>(Option.bind (zQ_M (v1.1,v1.2.1,v1.2.2.1,()) aL) fun v3=>(some (Sum.inr (((z0m (b1_0_0,b1_1_0,()) (z0g v2 v3.1).1).1.1),((z0m (b1_0_0,b1_1_0,()) (z0g v2 v3.1).1).1.2.1))))))
def yHt(bf:List (Q3))(aL:Int)(am:List (Q2))(b0_0_0:Int)(b0_1_0:Int)(b1_0_0:Int)(b1_1_0:Int):Option ((Q3)×Unit) :=
  (some (((b1_0_0,b1_1_0,()),())))
theorem yBx(n:Nat)(hn:big≤n)(bf:List (Q3))(aL:Int)(am:List (Q2))(b0_0_0:Int)(b0_1_0:Int)(b1_0_0:Int)(b1_1_0:Int)(hx:List.length (am) < lenMax):LeF some (yP (fun i__ e__ s__=>yHH bf aL am b0_0_0 b0_1_0 i__ e__ s__.1 s__.2) (fun s__=>yHt bf aL am b0_0_0 b0_1_0 s__.1 s__.2) 0 (am) (b1_0_0,b1_1_0)) (y6W n n bf aL am (List.length (am):Int) 0 b0_0_0 b0_1_0 b1_0_0 b1_1_0):=by
  refine yM (f:=some) (W:=fun k__ i__ s__=>y6W n k__ bf aL am (List.length (am):Int) i__ b0_0_0 b0_1_0 s__.1 s__.2) (body:=(fun i__ e__ s__=>yHH bf aL am b0_0_0 b0_1_0 i__ e__ s__.1 s__.2)) (fin:=(fun s__=>yHt bf aL am b0_0_0 b0_1_0 s__.1 s__.2)) (fun k__ i__ s__=>?_) hx (b1_0_0,b1_1_0) n (by unfold big at hn;unfold lenMax at hx;omega)
  show LeF _ _ (yDK n (y6W n k__) bf aL am (List.length (am):Int) i__ b0_0_0 b0_1_0 s__.1 s__.2)
  exact y5 (y7 fun v1=>(y7 fun v2=>(y7 fun v3=>(y6 rfl)))) (yq (y6 rfl))
def yGo(l:List (Q2))(v:List (Q3))(tick:Int):Option ((Q3)×Unit) :=
  (bif decide (List.length (l) < lenMax)then yP (fun i__ e__ s__=>yHH (v) (tick) (l) ((0:Int)) ((0:Int)) i__ e__ s__.1 s__.2) (fun s__=>yHt (v) (tick) (l) ((0:Int)) ((0:Int)) s__.1 s__.2) 0 (l) (((0:Int)),((0:Int)))else none)
theorem yNb(l:List (Q2))(v:List (Q3))(tick:Int)(y:(Q3)×Unit)(h:yGo l v tick=some y):∃ n,yJN n l v tick=some y :=
  ⟨big,LeF.top (show LeF some (yGo l v tick) (yJN big l v tick)from (fun (n:Nat) (hn:big≤n)=>show LeF some (yGo l v tick) (yJN n l v tick)from (yL fun hx=>by apply yBx n hn;exact hx)) big (Nat.le_refl _)) h⟩
def z0h_e:Entry:={ f:=167,args:=yOQ,ress:=yQi,m:=fun x=>yGo x.1 x.2.1 x.2.2.1 }
theorem yQo:FnOK Tryz.prog z0h_e:=yO (g:=yST) (fn:=Tryz.f167) yD yK (yB yNA (yB yCy (yB yDf eNil))) (by kernel_rfl) (by kernel_rfl) (by kernel_rfl) (fun x y h=>let ⟨n,hn⟩:=yNb x.1 x.2.1 x.2.2.1 y h;⟨yKq n,iNil,(yOt n x).trans hn⟩)
abbrev yOW:Ty:=.pair t3 (.pair t41 .unit)
abbrev ySd:Ty:=.pair t3 .unit
def yQ0:G:={ T:=T,E:=[zy_e],muts:=[],fz:=[] }
def yTa:List (List Nat):=[[0,7,8,9],[0,6,7,8,9]]
def yKb(n:Nat):Ann:={ keep:=yTa,fuel:=n,inl:=[],deep:=0 }
def yDn(n:Nat)(r0:Int→List Int→Int→Int→Option (Int×Unit))(r2:Int→Int→List Int→Int→Int→Option (Int×Unit))(bv:Int)(bg:Int)(bq:List Int)(br:Int)(av:Int):Option (Int×Unit) :=
  (bif bg != 0 then (bif bg==0 then none else r2 bg (bv.tmod bg) bq br av)else r0 bv bq br (IntKind.i64.wrap (av+1)))
def y6M(n:Nat)(r0:Int→List Int→Int→Int→Option (Int×Unit))(k:Nat)(bv:Int)(bg:Int)(bq:List Int)(br:Int)(av:Int):Option (Int×Unit) :=
  iter (fun r y=>yDn n r0 (fun bv bg bq br av=>r ((bv,(bg,(bq,(br,(av,()))))),((),()))) y.1.1 y.1.2.1 y.1.2.2.1 y.1.2.2.2.1 y.1.2.2.2.2.1) k ((bv,(bg,(bq,(br,(av,()))))),((),()))
def yDX(n:Nat)(r0:Int→List Int→Int→Int→Option (Int×Unit))(bu:Int)(ay:List Int)(a8:Int)(af:Int):Option (Int×Unit) :=
  (bif decide (af < a8)then (Option.bind (idx ay af) fun v1=>(y6M n r0 n (bu) ((zy v1).1) (ay) (a8) (af)))else some (bu,()))
def y6H(n:Nat)(k:Nat)(bu:Int)(ay:List Int)(a8:Int)(af:Int):Option (Int×Unit) :=
  iter (fun r y=>yDX n (fun bu ay a8 af=>r ((bu,(ay,(a8,(af,())))),((),()))) y.1.1 y.1.2.1 y.1.2.2.1 y.1.2.2.2.1) k ((bu,(ay,(a8,(af,())))),((),()))
def yJf(n:Nat)(n1:Int)(l:List Int):Option (Int×Unit) :=
  (y6H n n (n1) (l) ((↑l.length:Int)) ((0:Int)))
theorem yRz(n:Nat)(x:yOW.den):runF yQ0 (yKb n) Tryz.f186 yOW ySd x=yJf n x.1 x.2.1:=by kernel_rfl
def yHu(bq:List Int)(br:Int)(av:Int)(bv:Int)(bg:Int):Option (((Int×Unit)⊕(Int))⊕(Int×Int)) :=
  (bif bg != 0 then (bif bg==0 then none else (some (Sum.inr ((bg),(bv.tmod bg)))))else (some (Sum.inl (Sum.inr (bv)))))
theorem yCA(n:Nat)(hn:big≤n)(r0:Int→List Int→Int→Int→Option (Int×Unit))(bq:List Int)(br:Int)(av:Int)(bv:Int)(bg:Int):LeF (elim some fun (s__:(Int))=>r0 s__ bq br (IntKind.i64.wrap (av+1))) (y3e (fun s__=>yHu bq br av s__.1 s__.2) wMax (bv,bg)) (y6M n r0 n bv bg bq br av):=by
  refine y2x (f:=(elim some fun (s__:(Int))=>r0 s__ bq br (IntKind.i64.wrap (av+1)))) (W:=fun k__ s__=>y6M n r0 k__ s__.1 s__.2 bq br av) (body:=(fun s__=>yHu bq br av s__.1 s__.2)) (fun k__ s__=>?_) wMax n (bv,bg) (by unfold big at hn;unfold wMax;omega)
  show LeF _ _ (yDn n r0 (y6M n r0 k__) s__.1 s__.2 bq br av)
  exact (y5 (y5 yY (y6 rfl)) (y6 rfl))
def yHY(ay:List Int)(af:Int)(v1:Int)(bu:Int):Option ((Int×Unit)⊕(Int)) :=
  (y3e (fun s__=>yHu (ay) ((↑ay.length:Int)) (af) s__.1 s__.2) wMax ((bu),((zy v1).1)))
def yG3(ay:List Int)(bu:Int):Option (Int×Unit) :=
  (some ((bu,())))
theorem yCa(n:Nat)(hn:big≤n)(ay:List Int)(bu:Int)(hx:List.length (ay) < lenMax):LeF some (yP (fun i__ e__ s__=>yHY ay i__ e__ s__) (fun s__=>yG3 ay s__) 0 (ay) bu) (y6H n n bu ay (List.length (ay):Int) 0):=by
  refine yM (f:=some) (W:=fun k__ i__ s__=>y6H n k__ s__ ay (List.length (ay):Int) i__) (body:=(fun i__ e__ s__=>yHY ay i__ e__ s__)) (fin:=(fun s__=>yG3 ay s__)) (fun k__ i__ s__=>?_) hx bu n (by unfold big at hn;unfold lenMax at hx;omega)
  show LeF _ _ (yDX n (y6H n k__) s__ ay (List.length (ay):Int) i__)
  exact y5 (y7 fun v1=>(by apply yCA n hn)) (yq (y6 rfl))
def yBw(n1:Int)(l:List Int):Option (Int×Unit) :=
  (bif decide (List.length (l) < lenMax)then yP (fun i__ e__ s__=>yHY (l) i__ e__ s__) (fun s__=>yG3 (l) s__) 0 (l) (n1)else none)
theorem yM3(n1:Int)(l:List Int)(y:Int×Unit)(h:yBw n1 l=some y):∃ n,yJf n n1 l=some y :=
  ⟨big,LeF.top (show LeF some (yBw n1 l) (yJf big n1 l)from (fun (n:Nat) (hn:big≤n)=>show LeF some (yBw n1 l) (yJf n n1 l)from (yL fun hx=>by apply yCa n hn;exact hx)) big (Nat.le_refl _)) h⟩
def z08_e:Entry:={ f:=186,args:=yOW,ress:=ySd,m:=fun x=>yBw x.1 x.2.1 }
theorem yKp:FnOK Tryz.prog z08_e:=yO (g:=yQ0) (fn:=Tryz.f186) yD yK (yB yH4 eNil) (by kernel_rfl) (by kernel_rfl) (by kernel_rfl) (fun x y h=>let ⟨n,hn⟩:=yM3 x.1 x.2.1 y h;⟨yKb n,iNil,(yRz n x).trans hn⟩)
abbrev yNa:Ty:=.pair t55 (.pair (.ref t60) .unit)
abbrev yR8:Ty:=.pair t57 .unit
def yPt:G:={ T:=T,E:=[zQ_e,zr_e,z0M_e,z0m_e],muts:=[],fz:=[] }
def yV7:List (List Nat):=[]
def yL9(n:Nat):Ann:={ keep:=yV7,fuel:=n,inl:=[il124,il195],deep:=3 }
def y70(n:Nat)(r0:List UInt8×Int×List Nat×List (Q3)×Unit→List (Q3)→List Nat→Int→Int→Q2→List UInt8×Int×List Nat×List (Q3)×Unit→Q2→Q3→List UInt8×Int×List Nat×List (Q3)×Unit→List UInt8×Int×List Nat×List (Q3)×Unit→Int→Int→Int→Int→Q2→List UInt8×Int×List Nat×List (Q3)×Unit→Q2→Q3→List UInt8×Int×List Nat×List (Q3)×Unit→List UInt8×Int×List Nat×List (Q3)×Unit→Option ((Q3)×Unit))(j8:List UInt8×Int×List Nat×List (Q3)×Unit)(j9:List (Q3))(j10:Int)(j11:Nat)(j12:List Nat)(j13:Int)(j14:Int)(j15:Q2)(j16:List UInt8×Int×List Nat×List (Q3)×Unit)(j17:Q2)(j18:Q3)(j19:List UInt8×Int×List Nat×List (Q3)×Unit)(j20:List UInt8×Int×List Nat×List (Q3)×Unit)(j21:Int)(j22:Int)(j23:Int)(j24:Int)(j25:Q2)(j26:List UInt8×Int×List Nat×List (Q3)×Unit)(j27:Q2)(j28:Q3)(j29:List UInt8×Int×List Nat×List (Q3)×Unit)(j30:List UInt8×Int×List Nat×List (Q3)×Unit):Option ((Q3)×Unit) :=
  (bif decide ((↑j9.length:Int) > 0)then (Option.bind (idx j9 (0:Int)) fun v31=>(bif decide (v31.1≤j10)then r0 j8 j9 j12 j13 (IntKind.i64.wrap (j14+1)) j15 j16 j17 j18 j19 j20 j21 j22 j23 j24 j25 j26 j27 j28 j29 j30 else (Option.bind (ym Go.FloatKind.f32 (yh Go.BinOp.mul Go.FloatKind.f32 j11 (nat_lit 1098907648)) IntKind.i64) fun v36=>(Option.bind (zQ_M j17 (IntKind.i64.wrap (j8.2.1+j10))) fun v37=>r0 j8 j9 j12 j13 (IntKind.i64.wrap (j14+1)) j15 j16 j17 j18 j19 j20 j21 j22 (z0m (j23,j24,()) (z0M (zr v37.1).1 v36).1).1.1 (z0m (j23,j24,()) (z0M (zr v37.1).1 v36).1).1.2.1 j25 j26 j27 j28 j29 j30))))else (Option.bind (ym Go.FloatKind.f32 (yh Go.BinOp.mul Go.FloatKind.f32 j11 (nat_lit 1098907648)) IntKind.i64) fun v38=>(Option.bind (zQ_M j17 (IntKind.i64.wrap (j8.2.1+j10))) fun v39=>r0 j8 j9 j12 j13 (IntKind.i64.wrap (j14+1)) j15 j16 j17 j18 j19 j20 j21 j22 (z0m (j23,j24,()) (z0M (zr v39.1).1 v38).1).1.1 (z0m (j23,j24,()) (z0M (zr v39.1).1 v38).1).1.2.1 j25 j26 j27 j28 j29 j30)))
def yD0(n:Nat)(r0:List UInt8×Int×List Nat×List (Q3)×Unit→List (Q3)→List Nat→Int→Int→Q2→List UInt8×Int×List Nat×List (Q3)×Unit→Q2→Q3→List UInt8×Int×List Nat×List (Q3)×Unit→List UInt8×Int×List Nat×List (Q3)×Unit→Int→Int→Int→Int→Q2→List UInt8×Int×List Nat×List (Q3)×Unit→Q2→Q3→List UInt8×Int×List Nat×List (Q3)×Unit→List UInt8×Int×List Nat×List (Q3)×Unit→Option ((Q3)×Unit))(r2:List UInt8×Int×List Nat×List (Q3)×Unit→List (Q3)→Int→Nat→List Nat→Int→Int→Q2→List UInt8×Int×List Nat×List (Q3)×Unit→Q2→Q3→List UInt8×Int×List Nat×List (Q3)×Unit→List UInt8×Int×List Nat×List (Q3)×Unit→Int→Int→Int→Int→Q2→List UInt8×Int×List Nat×List (Q3)×Unit→Q2→Q3→List UInt8×Int×List Nat×List (Q3)×Unit→List UInt8×Int×List Nat×List (Q3)×Unit→Option ((Q3)×Unit))(aA:List UInt8×Int×List Nat×List (Q3)×Unit)(ac:List (Q3))(aB:Int)(aF:Nat)(av:List Nat)(aq:Int)(ar:Int)(p0_0_2:Q2)(p0_1_2:List UInt8×Int×List Nat×List (Q3)×Unit)(p0_2_2:Q2)(p0_7_2:Q3)(p0_8_2:List UInt8×Int×List Nat×List (Q3)×Unit)(p0_9_2_0:List UInt8×Int×List Nat×List (Q3)×Unit)(b1_0_2:Int)(b1_1_2:Int)(b2_0_2:Int)(b2_1_2:Int)(aC:Q2)(aD:List UInt8×Int×List Nat×List (Q3)×Unit)(aR:Q2)(bd:Q3)(be:List UInt8×Int×List Nat×List (Q3)×Unit)(k9_2_0:List UInt8×Int×List Nat×List (Q3)×Unit):Option ((Q3)×Unit) :=
  (bif decide ((↑ac.length:Int) > 0)then (Option.bind (idx ac (0:Int)) fun v3=>(bif decide (v3.2.1≤aB)then (bif decide ((0:Int)≤1) && decide ((1:Int)≤(↑ac.length:Int))then r2 aA (List.drop (Int.toNat (1:Int)) ac) aB aF av aq ar p0_0_2 p0_1_2 p0_2_2 p0_7_2 p0_8_2 p0_9_2_0 b1_0_2 b1_1_2 b2_0_2 b2_1_2 aC aD aR bd be k9_2_0 else none)else (y70 n r0 (aA) (ac) (aB) (aF) (av) (aq) (ar) (p0_0_2) (p0_1_2) (p0_2_2) (p0_7_2) (p0_8_2) (p0_9_2_0) (b1_0_2) (b1_1_2) (b2_0_2) (b2_1_2) (aC) (aD) (aR) (bd) (be) (k9_2_0))))else (y70 n r0 (aA) (ac) (aB) (aF) (av) (aq) (ar) (p0_0_2) (p0_1_2) (p0_2_2) (p0_7_2) (p0_8_2) (p0_9_2_0) (b1_0_2) (b1_1_2) (b2_0_2) (b2_1_2) (aC) (aD) (aR) (bd) (be) (k9_2_0)))
def y6S(n:Nat)(r0:List UInt8×Int×List Nat×List (Q3)×Unit→List (Q3)→List Nat→Int→Int→Q2→List UInt8×Int×List Nat×List (Q3)×Unit→Q2→Q3→List UInt8×Int×List Nat×List (Q3)×Unit→List UInt8×Int×List Nat×List (Q3)×Unit→Int→Int→Int→Int→Q2→List UInt8×Int×List Nat×List (Q3)×Unit→Q2→Q3→List UInt8×Int×List Nat×List (Q3)×Unit→List UInt8×Int×List Nat×List (Q3)×Unit→Option ((Q3)×Unit))(k:Nat)(aA:List UInt8×Int×List Nat×List (Q3)×Unit)(ac:List (Q3))(aB:Int)(aF:Nat)(av:List Nat)(aq:Int)(ar:Int)(p0_0_2:Q2)(p0_1_2:List UInt8×Int×List Nat×List (Q3)×Unit)(p0_2_2:Q2)(p0_7_2:Q3)(p0_8_2:List UInt8×Int×List Nat×List (Q3)×Unit)(p0_9_2_0:List UInt8×Int×List Nat×List (Q3)×Unit)(b1_0_2:Int)(b1_1_2:Int)(b2_0_2:Int)(b2_1_2:Int)(aC:Q2)(aD:List UInt8×Int×List Nat×List (Q3)×Unit)(aR:Q2)(bd:Q3)(be:List UInt8×Int×List Nat×List (Q3)×Unit)(k9_2_0:List UInt8×Int×List Nat×List (Q3)×Unit):Option ((Q3)×Unit) :=
  iter (fun r y=>yD0 n r0 (fun aA ac aB aF av aq ar p0_0_2 p0_1_2 p0_2_2 p0_7_2 p0_8_2 p0_9_2_0 b1_0_2 b1_1_2 b2_0_2 b2_1_2 aC aD aR bd be k9_2_0=>r ((aA,(ac,(aB,(aF,(av,(aq,(ar,()))))))),(((p0_0_2,(p0_1_2,(p0_2_2,(p0_7_2,(p0_8_2,((p0_9_2_0,()),())))))),((b1_0_2,(b1_1_2,())),((b2_0_2,(b2_1_2,())),()))),(aC,(aD,(aR,(bd,(be,((k9_2_0,()),()))))))))) y.1.1 y.1.2.1 y.1.2.2.1 y.1.2.2.2.1 y.1.2.2.2.2.1 y.1.2.2.2.2.2.1 y.1.2.2.2.2.2.2.1 y.2.1.1.1 y.2.1.1.2.1 y.2.1.1.2.2.1 y.2.1.1.2.2.2.1 y.2.1.1.2.2.2.2.1 y.2.1.1.2.2.2.2.2.1.1 y.2.1.2.1.1 y.2.1.2.1.2.1 y.2.1.2.2.1.1 y.2.1.2.2.1.2.1 y.2.2.1 y.2.2.2.1 y.2.2.2.2.1 y.2.2.2.2.2.1 y.2.2.2.2.2.2.1 y.2.2.2.2.2.2.2.1.1) k ((aA,(ac,(aB,(aF,(av,(aq,(ar,()))))))),(((p0_0_2,(p0_1_2,(p0_2_2,(p0_7_2,(p0_8_2,((p0_9_2_0,()),())))))),((b1_0_2,(b1_1_2,())),((b2_0_2,(b2_1_2,())),()))),(aC,(aD,(aR,(bd,(be,((k9_2_0,()),()))))))))
def yDM(n:Nat)(r0:List UInt8×Int×List Nat×List (Q3)×Unit→List (Q3)→List Nat→Int→Int→Q2→List UInt8×Int×List Nat×List (Q3)×Unit→Q2→Q3→List UInt8×Int×List Nat×List (Q3)×Unit→List UInt8×Int×List Nat×List (Q3)×Unit→Int→Int→Int→Int→Q2→List UInt8×Int×List Nat×List (Q3)×Unit→Q2→Q3→List UInt8×Int×List Nat×List (Q3)×Unit→List UInt8×Int×List Nat×List (Q3)×Unit→Option ((Q3)×Unit))(aw:List UInt8×Int×List Nat×List (Q3)×Unit)(aj:List (Q3))(af:List Nat)(ae:Int)(am:Int)(p0_0_0:Q2)(p0_1_0:List UInt8×Int×List Nat×List (Q3)×Unit)(p0_2_0:Q2)(p0_7_0:Q3)(p0_8_0:List UInt8×Int×List Nat×List (Q3)×Unit)(p0_9_0_0:List UInt8×Int×List Nat×List (Q3)×Unit)(b1_0_0:Int)(b1_1_0:Int)(b2_0_0:Int)(b2_1_0:Int)(aG:Q2)(aH:List UInt8×Int×List Nat×List (Q3)×Unit)(aV:Q2)(bn:Q3)(bp:List UInt8×Int×List Nat×List (Q3)×Unit)(k9_0_0:List UInt8×Int×List Nat×List (Q3)×Unit):Option ((Q3)×Unit) :=
  (bif decide (am < ae)then (Option.bind (idx af am) fun v1=>(y6S n r0 n (aw) (aj) (am) (v1) (af) (ae) (am) (p0_0_0) (p0_1_0) (p0_2_0) (p0_7_0) (p0_8_0) (p0_9_0_0) (b1_0_0) (b1_1_0) (b2_0_0) (b2_1_0) (aG) (aH) (aV) (bn) (bp) (k9_0_0)))else some ((b2_0_0,b2_1_0,()),()))
def y60(n:Nat)(k:Nat)(aw:List UInt8×Int×List Nat×List (Q3)×Unit)(aj:List (Q3))(af:List Nat)(ae:Int)(am:Int)(p0_0_0:Q2)(p0_1_0:List UInt8×Int×List Nat×List (Q3)×Unit)(p0_2_0:Q2)(p0_7_0:Q3)(p0_8_0:List UInt8×Int×List Nat×List (Q3)×Unit)(p0_9_0_0:List UInt8×Int×List Nat×List (Q3)×Unit)(b1_0_0:Int)(b1_1_0:Int)(b2_0_0:Int)(b2_1_0:Int)(aG:Q2)(aH:List UInt8×Int×List Nat×List (Q3)×Unit)(aV:Q2)(bn:Q3)(bp:List UInt8×Int×List Nat×List (Q3)×Unit)(k9_0_0:List UInt8×Int×List Nat×List (Q3)×Unit):Option ((Q3)×Unit) :=
  iter (fun r y=>yDM n (fun aw aj af ae am p0_0_0 p0_1_0 p0_2_0 p0_7_0 p0_8_0 p0_9_0_0 b1_0_0 b1_1_0 b2_0_0 b2_1_0 aG aH aV bn bp k9_0_0=>r ((aw,(aj,(af,(ae,(am,()))))),(((p0_0_0,(p0_1_0,(p0_2_0,(p0_7_0,(p0_8_0,((p0_9_0_0,()),())))))),((b1_0_0,(b1_1_0,())),((b2_0_0,(b2_1_0,())),()))),(aG,(aH,(aV,(bn,(bp,((k9_0_0,()),()))))))))) y.1.1 y.1.2.1 y.1.2.2.1 y.1.2.2.2.1 y.1.2.2.2.2.1 y.2.1.1.1 y.2.1.1.2.1 y.2.1.1.2.2.1 y.2.1.1.2.2.2.1 y.2.1.1.2.2.2.2.1 y.2.1.1.2.2.2.2.2.1.1 y.2.1.2.1.1 y.2.1.2.1.2.1 y.2.1.2.2.1.1 y.2.1.2.2.1.2.1 y.2.2.1 y.2.2.2.1 y.2.2.2.2.1 y.2.2.2.2.2.1 y.2.2.2.2.2.2.1 y.2.2.2.2.2.2.2.1.1) k ((aw,(aj,(af,(ae,(am,()))))),(((p0_0_0,(p0_1_0,(p0_2_0,(p0_7_0,(p0_8_0,((p0_9_0_0,()),())))))),((b1_0_0,(b1_1_0,())),((b2_0_0,(b2_1_0,())),()))),(aG,(aH,(aV,(bn,(bp,((k9_0_0,()),()))))))))
def yK9(n:Nat)(c:Q2)(p1:List UInt8×Int×List Nat×List (Q3)×Unit):Option ((Q3)×Unit) :=
  (y60 n n (p1) (p1.2.2.2.1) (p1.2.2.1) ((↑p1.2.2.1.length:Int)) ((0:Int)) (c) (p1) (c) (((0:Int),(0:Int),())) (p1) (p1) ((0:Int)) ((0:Int)) ((0:Int)) ((0:Int)) (c) (p1) (c) (((0:Int),(0:Int),())) (p1) (p1))
theorem yT0(n:Nat)(x:yNa.den):runF yPt (yL9 n) Tryz.f188 yNa yR8 x=yK9 n x.1 x.2.1:=by kernel_rfl
def yBv(j8:List UInt8×Int×List Nat×List (Q3)×Unit)(j9:List (Q3))(j10:Int)(j11:Nat)(j12:List Nat)(j13:Int)(j14:Int)(j15:Q2)(j16:List UInt8×Int×List Nat×List (Q3)×Unit)(j17:Q2)(j18:Q3)(j19:List UInt8×Int×List Nat×List (Q3)×Unit)(j20:List UInt8×Int×List Nat×List (Q3)×Unit)(j21:Int)(j22:Int)(j23:Int)(j24:Int)(j25:Q2)(j26:List UInt8×Int×List Nat×List (Q3)×Unit)(j27:Q2)(j28:Q3)(j29:List UInt8×Int×List Nat×List (Q3)×Unit)(j30:List UInt8×Int×List Nat×List (Q3)×Unit):Option (((Q3)×Unit)⊕((List (Q3))×Int×Int)) :=
  (bif decide ((↑j9.length:Int) > 0)then (Option.bind (idx j9 (0:Int)) fun v31=>(bif decide (v31.1≤j10)then (some (Sum.inr ((j9),(j23),(j24))))else (Option.bind (ym Go.FloatKind.f32 (yh Go.BinOp.mul Go.FloatKind.f32 j11 (nat_lit 1098907648)) IntKind.i64) fun v36=>(Option.bind (zQ_M j17 (IntKind.i64.wrap (j8.2.1+j10))) fun v37=>(some (Sum.inr ((j9),((z0m (j23,j24,()) (z0M (zr v37.1).1 v36).1).1.1),((z0m (j23,j24,()) (z0M (zr v37.1).1 v36).1).1.2.1))))))))else (Option.bind (ym Go.FloatKind.f32 (yh Go.BinOp.mul Go.FloatKind.f32 j11 (nat_lit 1098907648)) IntKind.i64) fun v38=>(Option.bind (zQ_M j17 (IntKind.i64.wrap (j8.2.1+j10))) fun v39=>(some (Sum.inr ((j9),((z0m (j23,j24,()) (z0M (zr v39.1).1 v38).1).1.1),((z0m (j23,j24,()) (z0M (zr v39.1).1 v38).1).1.2.1)))))))
theorem y24(n:Nat)(hn:big≤n)(r0:List UInt8×Int×List Nat×List (Q3)×Unit→List (Q3)→List Nat→Int→Int→Q2→List UInt8×Int×List Nat×List (Q3)×Unit→Q2→Q3→List UInt8×Int×List Nat×List (Q3)×Unit→List UInt8×Int×List Nat×List (Q3)×Unit→Int→Int→Int→Int→Q2→List UInt8×Int×List Nat×List (Q3)×Unit→Q2→Q3→List UInt8×Int×List Nat×List (Q3)×Unit→List UInt8×Int×List Nat×List (Q3)×Unit→Option ((Q3)×Unit))(j8:List UInt8×Int×List Nat×List (Q3)×Unit)(j9:List (Q3))(j10:Int)(j11:Nat)(j12:List Nat)(j13:Int)(j14:Int)(j15:Q2)(j16:List UInt8×Int×List Nat×List (Q3)×Unit)(j17:Q2)(j18:Q3)(j19:List UInt8×Int×List Nat×List (Q3)×Unit)(j20:List UInt8×Int×List Nat×List (Q3)×Unit)(j21:Int)(j22:Int)(j23:Int)(j24:Int)(j25:Q2)(j26:List UInt8×Int×List Nat×List (Q3)×Unit)(j27:Q2)(j28:Q3)(j29:List UInt8×Int×List Nat×List (Q3)×Unit)(j30:List UInt8×Int×List Nat×List (Q3)×Unit):LeF (elim some fun (s__:((List (Q3))×Int×Int))=>r0 j8 s__.1 j12 j13 (IntKind.i64.wrap (j14+1)) j15 j16 j17 j18 j19 j20 j21 j22 s__.2.1 s__.2.2 j25 j26 j27 j28 j29 j30) (yBv j8 j9 j10 j11 j12 j13 j14 j15 j16 j17 j18 j19 j20 j21 j22 j23 j24 j25 j26 j27 j28 j29 j30) (y70 n r0 j8 j9 j10 j11 j12 j13 j14 j15 j16 j17 j18 j19 j20 j21 j22 j23 j24 j25 j26 j27 j28 j29 j30) :=
  (y5 (y7 fun v31=>(y5 (y6 rfl) (y7 fun v36=>(y7 fun v37=>(y6 rfl))))) (y7 fun v38=>(y7 fun v39=>(y6 rfl))))
def yGz(aA:List UInt8×Int×List Nat×List (Q3)×Unit)(aB:Int)(aF:Nat)(av:List Nat)(aq:Int)(ar:Int)(p0_0_2:Q2)(p0_1_2:List UInt8×Int×List Nat×List (Q3)×Unit)(p0_2_2:Q2)(p0_7_2:Q3)(p0_8_2:List UInt8×Int×List Nat×List (Q3)×Unit)(p0_9_2_0:List UInt8×Int×List Nat×List (Q3)×Unit)(b1_0_2:Int)(b1_1_2:Int)(b2_0_2:Int)(b2_1_2:Int)(aC:Q2)(aD:List UInt8×Int×List Nat×List (Q3)×Unit)(aR:Q2)(bd:Q3)(be:List UInt8×Int×List Nat×List (Q3)×Unit)(k9_2_0:List UInt8×Int×List Nat×List (Q3)×Unit)(ac:List (Q3)):Option ((((Q3)×Unit)⊕((List (Q3))×Int×Int))⊕(List (Q3))) :=
  (bif decide ((↑ac.length:Int) > 0)then (Option.bind (idx ac (0:Int)) fun v3=>(bif decide (v3.2.1≤aB)then (bif decide ((0:Int)≤1) && decide ((1:Int)≤(↑ac.length:Int))then (some (Sum.inr (List.drop (Int.toNat (1:Int)) ac)))else none)else (Option.map Sum.inl (yBv (aA) (ac) (aB) (aF) (av) (aq) (ar) (p0_0_2) (p0_1_2) (p0_2_2) (p0_7_2) (p0_8_2) (p0_9_2_0) (b1_0_2) (b1_1_2) (b2_0_2) (b2_1_2) (aC) (aD) (aR) (bd) (be) (k9_2_0)))))else (Option.map Sum.inl (yBv (aA) (ac) (aB) (aF) (av) (aq) (ar) (p0_0_2) (p0_1_2) (p0_2_2) (p0_7_2) (p0_8_2) (p0_9_2_0) (b1_0_2) (b1_1_2) (b2_0_2) (b2_1_2) (aC) (aD) (aR) (bd) (be) (k9_2_0))))
theorem yCh(n:Nat)(hn:big≤n)(r0:List UInt8×Int×List Nat×List (Q3)×Unit→List (Q3)→List Nat→Int→Int→Q2→List UInt8×Int×List Nat×List (Q3)×Unit→Q2→Q3→List UInt8×Int×List Nat×List (Q3)×Unit→List UInt8×Int×List Nat×List (Q3)×Unit→Int→Int→Int→Int→Q2→List UInt8×Int×List Nat×List (Q3)×Unit→Q2→Q3→List UInt8×Int×List Nat×List (Q3)×Unit→List UInt8×Int×List Nat×List (Q3)×Unit→Option ((Q3)×Unit))(aA:List UInt8×Int×List Nat×List (Q3)×Unit)(aB:Int)(aF:Nat)(av:List Nat)(aq:Int)(ar:Int)(p0_0_2:Q2)(p0_1_2:List UInt8×Int×List Nat×List (Q3)×Unit)(p0_2_2:Q2)(p0_7_2:Q3)(p0_8_2:List UInt8×Int×List Nat×List (Q3)×Unit)(p0_9_2_0:List UInt8×Int×List Nat×List (Q3)×Unit)(b1_0_2:Int)(b1_1_2:Int)(b2_0_2:Int)(b2_1_2:Int)(aC:Q2)(aD:List UInt8×Int×List Nat×List (Q3)×Unit)(aR:Q2)(bd:Q3)(be:List UInt8×Int×List Nat×List (Q3)×Unit)(k9_2_0:List UInt8×Int×List Nat×List (Q3)×Unit)(ac:List (Q3)):LeF (elim some fun (s__:((List (Q3))×Int×Int))=>r0 aA s__.1 av aq (IntKind.i64.wrap (ar+1)) p0_0_2 p0_1_2 p0_2_2 p0_7_2 p0_8_2 p0_9_2_0 b1_0_2 b1_1_2 s__.2.1 s__.2.2 aC aD aR bd be k9_2_0) (y3e (fun s__=>yGz aA aB aF av aq ar p0_0_2 p0_1_2 p0_2_2 p0_7_2 p0_8_2 p0_9_2_0 b1_0_2 b1_1_2 b2_0_2 b2_1_2 aC aD aR bd be k9_2_0 s__) wMax ac) (y6S n r0 n aA ac aB aF av aq ar p0_0_2 p0_1_2 p0_2_2 p0_7_2 p0_8_2 p0_9_2_0 b1_0_2 b1_1_2 b2_0_2 b2_1_2 aC aD aR bd be k9_2_0):=by
  refine y2x (f:=(elim some fun (s__:((List (Q3))×Int×Int))=>r0 aA s__.1 av aq (IntKind.i64.wrap (ar+1)) p0_0_2 p0_1_2 p0_2_2 p0_7_2 p0_8_2 p0_9_2_0 b1_0_2 b1_1_2 s__.2.1 s__.2.2 aC aD aR bd be k9_2_0)) (W:=fun k__ s__=>y6S n r0 k__ aA s__ aB aF av aq ar p0_0_2 p0_1_2 p0_2_2 p0_7_2 p0_8_2 p0_9_2_0 b1_0_2 b1_1_2 b2_0_2 b2_1_2 aC aD aR bd be k9_2_0) (body:=(fun s__=>yGz aA aB aF av aq ar p0_0_2 p0_1_2 p0_2_2 p0_7_2 p0_8_2 p0_9_2_0 b1_0_2 b1_1_2 b2_0_2 b2_1_2 aC aD aR bd be k9_2_0 s__)) (fun k__ s__=>?_) wMax n ac (by unfold big at hn;unfold wMax;omega)
  show LeF _ _ (yD0 n r0 (y6S n r0 k__) aA s__ aB aF av aq ar p0_0_2 p0_1_2 p0_2_2 p0_7_2 p0_8_2 p0_9_2_0 b1_0_2 b1_1_2 b2_0_2 b2_1_2 aC aD aR bd be k9_2_0)
  exact (y5 (y7 fun v3=>(y5 (y5 (y6 rfl) yY) (yq (by apply y24 n hn)))) (yq (by apply y24 n hn)))
def yIZ(aw:List UInt8×Int×List Nat×List (Q3)×Unit)(af:List Nat)(p0_0_0:Q2)(p0_1_0:List UInt8×Int×List Nat×List (Q3)×Unit)(p0_2_0:Q2)(p0_7_0:Q3)(p0_8_0:List UInt8×Int×List Nat×List (Q3)×Unit)(p0_9_0_0:List UInt8×Int×List Nat×List (Q3)×Unit)(b1_0_0:Int)(b1_1_0:Int)(aG:Q2)(aH:List UInt8×Int×List Nat×List (Q3)×Unit)(aV:Q2)(bn:Q3)(bp:List UInt8×Int×List Nat×List (Q3)×Unit)(k9_0_0:List UInt8×Int×List Nat×List (Q3)×Unit)(am:Int)(v1:Nat)(aj:List (Q3))(b2_0_0:Int)(b2_1_0:Int):Option (((Q3)×Unit)⊕((List (Q3))×Int×Int)) :=
  (y3e (fun s__=>yGz (aw) (am) (v1) (af) ((↑af.length:Int)) (am) (p0_0_0) (p0_1_0) (p0_2_0) (p0_7_0) (p0_8_0) (p0_9_0_0) (b1_0_0) (b1_1_0) (b2_0_0) (b2_1_0) (aG) (aH) (aV) (bn) (bp) (k9_0_0) s__) wMax (aj))
def yIS(aw:List UInt8×Int×List Nat×List (Q3)×Unit)(af:List Nat)(p0_0_0:Q2)(p0_1_0:List UInt8×Int×List Nat×List (Q3)×Unit)(p0_2_0:Q2)(p0_7_0:Q3)(p0_8_0:List UInt8×Int×List Nat×List (Q3)×Unit)(p0_9_0_0:List UInt8×Int×List Nat×List (Q3)×Unit)(b1_0_0:Int)(b1_1_0:Int)(aG:Q2)(aH:List UInt8×Int×List Nat×List (Q3)×Unit)(aV:Q2)(bn:Q3)(bp:List UInt8×Int×List Nat×List (Q3)×Unit)(k9_0_0:List UInt8×Int×List Nat×List (Q3)×Unit)(aj:List (Q3))(b2_0_0:Int)(b2_1_0:Int):Option ((Q3)×Unit) :=
  (some (((b2_0_0,b2_1_0,()),())))
theorem yCk(n:Nat)(hn:big≤n)(aw:List UInt8×Int×List Nat×List (Q3)×Unit)(af:List Nat)(p0_0_0:Q2)(p0_1_0:List UInt8×Int×List Nat×List (Q3)×Unit)(p0_2_0:Q2)(p0_7_0:Q3)(p0_8_0:List UInt8×Int×List Nat×List (Q3)×Unit)(p0_9_0_0:List UInt8×Int×List Nat×List (Q3)×Unit)(b1_0_0:Int)(b1_1_0:Int)(aG:Q2)(aH:List UInt8×Int×List Nat×List (Q3)×Unit)(aV:Q2)(bn:Q3)(bp:List UInt8×Int×List Nat×List (Q3)×Unit)(k9_0_0:List UInt8×Int×List Nat×List (Q3)×Unit)(aj:List (Q3))(b2_0_0:Int)(b2_1_0:Int)(hx:List.length (af) < lenMax):LeF some (yP (fun i__ e__ s__=>yIZ aw af p0_0_0 p0_1_0 p0_2_0 p0_7_0 p0_8_0 p0_9_0_0 b1_0_0 b1_1_0 aG aH aV bn bp k9_0_0 i__ e__ s__.1 s__.2.1 s__.2.2) (fun s__=>yIS aw af p0_0_0 p0_1_0 p0_2_0 p0_7_0 p0_8_0 p0_9_0_0 b1_0_0 b1_1_0 aG aH aV bn bp k9_0_0 s__.1 s__.2.1 s__.2.2) 0 (af) (aj,b2_0_0,b2_1_0)) (y60 n n aw aj af (List.length (af):Int) 0 p0_0_0 p0_1_0 p0_2_0 p0_7_0 p0_8_0 p0_9_0_0 b1_0_0 b1_1_0 b2_0_0 b2_1_0 aG aH aV bn bp k9_0_0):=by
  refine yM (f:=some) (W:=fun k__ i__ s__=>y60 n k__ aw s__.1 af (List.length (af):Int) i__ p0_0_0 p0_1_0 p0_2_0 p0_7_0 p0_8_0 p0_9_0_0 b1_0_0 b1_1_0 s__.2.1 s__.2.2 aG aH aV bn bp k9_0_0) (body:=(fun i__ e__ s__=>yIZ aw af p0_0_0 p0_1_0 p0_2_0 p0_7_0 p0_8_0 p0_9_0_0 b1_0_0 b1_1_0 aG aH aV bn bp k9_0_0 i__ e__ s__.1 s__.2.1 s__.2.2)) (fin:=(fun s__=>yIS aw af p0_0_0 p0_1_0 p0_2_0 p0_7_0 p0_8_0 p0_9_0_0 b1_0_0 b1_1_0 aG aH aV bn bp k9_0_0 s__.1 s__.2.1 s__.2.2)) (fun k__ i__ s__=>?_) hx (aj,b2_0_0,b2_1_0) n (by unfold big at hn;unfold lenMax at hx;omega)
  show LeF _ _ (yDM n (y60 n k__) aw s__.1 af (List.length (af):Int) i__ p0_0_0 p0_1_0 p0_2_0 p0_7_0 p0_8_0 p0_9_0_0 b1_0_0 b1_1_0 s__.2.1 s__.2.2 aG aH aV bn bp k9_0_0)
  exact y5 (y7 fun v1=>(by apply yCh n hn)) (yq (y6 rfl))
def yF0(c:Q2)(p1:List UInt8×Int×List Nat×List (Q3)×Unit):Option ((Q3)×Unit) :=
  (bif decide (List.length (p1.2.2.1) < lenMax)then yP (fun i__ e__ s__=>yIZ (p1) (p1.2.2.1) (c) (p1) (c) (((0:Int),(0:Int),())) (p1) (p1) ((0:Int)) ((0:Int)) (c) (p1) (c) (((0:Int),(0:Int),())) (p1) (p1) i__ e__ s__.1 s__.2.1 s__.2.2) (fun s__=>yIS (p1) (p1.2.2.1) (c) (p1) (c) (((0:Int),(0:Int),())) (p1) (p1) ((0:Int)) ((0:Int)) (c) (p1) (c) (((0:Int),(0:Int),())) (p1) (p1) s__.1 s__.2.1 s__.2.2) 0 (p1.2.2.1) ((p1.2.2.2.1),((0:Int)),((0:Int)))else none)
theorem yMg(c:Q2)(p1:List UInt8×Int×List Nat×List (Q3)×Unit)(y:(Q3)×Unit)(h:yF0 c p1=some y):∃ n,yK9 n c p1=some y :=
  ⟨big,LeF.top (show LeF some (yF0 c p1) (yK9 big c p1)from (fun (n:Nat) (hn:big≤n)=>show LeF some (yF0 c p1) (yK9 n c p1)from (yL fun hx=>by apply yCk n hn;exact hx)) big (Nat.le_refl _)) h⟩
def z0B_e:Entry:={ f:=188,args:=yNa,ress:=yR8,m:=fun x=>yF0 x.1 x.2.1 }
theorem yRJ:FnOK Tryz.prog z0B_e:=yO (g:=yPt) (fn:=Tryz.f188) yD yK (yB yNA (yB yLT (yB yH0 (yB yDf eNil)))) (by kernel_rfl) (by kernel_rfl) (by kernel_rfl) (fun x y h=>let ⟨n,hn⟩:=yMg x.1 x.2.1 y h;⟨yL9 n,(y4r y4Y (y4r y4T iNil)),(yT0 n x).trans hn⟩)
abbrev zR_a:Ty:=.pair t183 (.pair t3 (.pair t3 .unit))
abbrev zR_r:Ty:=.pair t57 .unit
class tide_matrix_expand_Rec where
  f:zR_a.den→Option zR_r.den
section
variable [tide_matrix_expand_Rec]
def y3N:Entry:={ f:=194,args:=zR_a,ress:=zR_r,m:=fun x=>tide_matrix_expand_Rec.f x }
def zR_g:G:={ T:=T,E:=[y3N,z0g_e,z0M_e,z0m_e],muts:=[],fz:=[] }
def zR_k:List (List Nat):=[[0,1,2,6,7,8,18,19]]
def yS4(n:Nat):Ann:={ keep:=zR_k,fuel:=n,inl:=[],deep:=0 }
def yGa(n:Nat)(r0:List (List (Q3))→Int→Int→Int→Int→Int→Int→Int→Int→Int→Option ((Q3)×Unit))(aK:List (List (Q3)))(aP:Int)(aE:Int)(aJ:Int)(aW:Int)(aY:Int)(b0_0_0:Int)(b0_1_0:Int)(b1_0_0:Int)(b1_1_0:Int):Option ((Q3)×Unit) :=
  (bif decide (aY < aW)then (bif decide (aY < 0)then none else (bif y3B IntKind.i64 Go.BinOp.and (aE.fdiv ((2:Int) ^ Min.min aY.toNat IntKind.i64.bits)) (1:Int)==1 then r0 aK aP aE aJ aW (IntKind.i64.wrap (aY+1)) b0_0_0 b0_1_0 b1_0_0 b1_1_0 else (Option.bind (idx aK aP) fun v1=>(Option.bind (idx v1 aY) fun v2=>(bif decide (aY < 0)then none else (Option.bind (tide_matrix_expand_Rec.f (aK,IntKind.i64.wrap (aP+1),y3B IntKind.i64 Go.BinOp.or aE (IntKind.i64.wrap ((1:Int) * 2 ^ Min.min aY.toNat IntKind.i64.bits)),())) fun v3=>r0 aK aP aE (IntKind.i64.wrap ((0:Int) - aJ)) aW (IntKind.i64.wrap (aY+1)) b0_0_0 b0_1_0 (z0m (b1_0_0,b1_1_0,()) (z0M (z0g v2 v3.1).1 aJ).1).1.1 (z0m (b1_0_0,b1_1_0,()) (z0M (z0g v2 v3.1).1 aJ).1).1.2.1))))))else some ((b1_0_0,b1_1_0,()),()))
def y8m(n:Nat)(k:Nat)(aK:List (List (Q3)))(aP:Int)(aE:Int)(aJ:Int)(aW:Int)(aY:Int)(b0_0_0:Int)(b0_1_0:Int)(b1_0_0:Int)(b1_1_0:Int):Option ((Q3)×Unit) :=
  iter (fun r y=>yGa n (fun aK aP aE aJ aW aY b0_0_0 b0_1_0 b1_0_0 b1_1_0=>r ((aK,(aP,(aE,(aJ,(aW,(aY,())))))),(((b0_0_0,(b0_1_0,())),((b1_0_0,(b1_1_0,())),())),()))) y.1.1 y.1.2.1 y.1.2.2.1 y.1.2.2.2.1 y.1.2.2.2.2.1 y.1.2.2.2.2.2.1 y.2.1.1.1 y.2.1.1.2.1 y.2.1.2.1.1 y.2.1.2.1.2.1) k ((aK,(aP,(aE,(aJ,(aW,(aY,())))))),(((b0_0_0,(b0_1_0,())),((b1_0_0,(b1_1_0,())),())),()))
def zR_m(n:Nat)(m:List (List (Q3)))(row:Int)(used:Int):Option ((Q3)×Unit) :=
  (bif row==(↑m.length:Int)then some (((1:Int),(0:Int),()),())else (y8m n n (m) (row) (used) ((1:Int)) ((↑m.length:Int)) ((0:Int)) ((0:Int)) ((0:Int)) ((0:Int)) ((0:Int))))
theorem yU9(n:Nat)(x:zR_a.den):runF zR_g (yS4 n) Tryz.f194 zR_a zR_r x=zR_m n x.1 x.2.1 x.2.2.1:=by kernel_rfl
def yNh(aK:List (List (Q3)))(aP:Int)(aE:Int)(aW:Int)(b0_0_0:Int)(b0_1_0:Int)(aY:Int)(aJ:Int)(b1_0_0:Int)(b1_1_0:Int):Option (((Q3)×Unit)⊕(Int×Int×Int)) :=
  (bif decide (aY < 0)then none else (bif y3B IntKind.i64 Go.BinOp.and (aE.fdiv ((2:Int) ^ Min.min aY.toNat IntKind.i64.bits)) (1:Int)==1 then (some (Sum.inr ((aJ),(b1_0_0),(b1_1_0))))else (Option.bind (idx aK aP) fun v1=>(Option.bind (idx v1 aY) fun v2=>(bif decide (aY < 0)then none else (Option.bind (tide_matrix_expand_Rec.f (aK,IntKind.i64.wrap (aP+1),y3B IntKind.i64 Go.BinOp.or aE (IntKind.i64.wrap ((1:Int) * 2 ^ Min.min aY.toNat IntKind.i64.bits)),())) fun v3=>(some (Sum.inr ((IntKind.i64.wrap ((0:Int) - aJ)),((z0m (b1_0_0,b1_1_0,()) (z0M (z0g v2 v3.1).1 aJ).1).1.1),((z0m (b1_0_0,b1_1_0,()) (z0M (z0g v2 v3.1).1 aJ).1).1.2.1))))))))))
def yO0(aK:List (List (Q3)))(aP:Int)(aE:Int)(aW:Int)(b0_0_0:Int)(b0_1_0:Int)(aJ:Int)(b1_0_0:Int)(b1_1_0:Int):Option ((Q3)×Unit) :=
  (some (((b1_0_0,b1_1_0,()),())))
theorem yFC(n:Nat)(hn:big≤n)(aK:List (List (Q3)))(aP:Int)(aE:Int)(aW:Int)(b0_0_0:Int)(b0_1_0:Int)(aJ:Int)(b1_0_0:Int)(b1_1_0:Int)(hx:(aW)≤9223372036854775807):LeF some (y1g (fun i__ s__=>yNh aK aP aE aW b0_0_0 b0_1_0 i__ s__.1 s__.2.1 s__.2.2) (fun s__=>yO0 aK aP aE aW b0_0_0 b0_1_0 s__.1 s__.2.1 s__.2.2) ((aW) - 0).toNat 0 (aJ,b1_0_0,b1_1_0)) (y8m n n aK aP aE aJ aW 0 b0_0_0 b0_1_0 b1_0_0 b1_1_0):=by
  refine y2I (f:=some) (W:=fun k__ i__ s__=>y8m n k__ aK aP aE s__.1 aW i__ b0_0_0 b0_1_0 s__.2.1 s__.2.2) (body:=(fun i__ s__=>yNh aK aP aE aW b0_0_0 b0_1_0 i__ s__.1 s__.2.1 s__.2.2)) (fin:=(fun s__=>yO0 aK aP aE aW b0_0_0 b0_1_0 s__.1 s__.2.1 s__.2.2)) (fun k__ i__ s__=>?_) hx (aJ,b1_0_0,b1_1_0) n 0 (by decide) (by unfold big at hn;omega)
  show LeF _ _ (yGa n (y8m n k__) aK aP aE s__.1 aW i__ b0_0_0 b0_1_0 s__.2.1 s__.2.2)
  exact y5 (y5 yY (y5 (y6 rfl) (y7 fun v1=>(y7 fun v2=>(y5 yY (y7 fun v3=>(y6 rfl))))))) (yq (y6 rfl))
def zR_M(m:List (List (Q3)))(row:Int)(used:Int):Option ((Q3)×Unit) :=
  (bif row==(↑m.length:Int)then (some ((((1:Int),(0:Int),()),())))else (bif decide (((↑m.length:Int))≤9223372036854775807)then y1g (fun i__ s__=>yNh (m) (row) (used) ((↑m.length:Int)) ((0:Int)) ((0:Int)) i__ s__.1 s__.2.1 s__.2.2) (fun s__=>yO0 (m) (row) (used) ((↑m.length:Int)) ((0:Int)) ((0:Int)) s__.1 s__.2.1 s__.2.2) (((↑m.length:Int)) - 0).toNat 0 (((1:Int)),((0:Int)),((0:Int)))else none))
theorem ySp(m:List (List (Q3)))(row:Int)(used:Int)(y:(Q3)×Unit)(h:zR_M m row used=some y):∃ n,zR_m n m row used=some y :=
  ⟨big,LeF.top (show LeF some (zR_M m row used) (zR_m big m row used)from (fun (n:Nat) (hn:big≤n)=>show LeF some (zR_M m row used) (zR_m n m row used)from (y5 (y6 rfl) (yL fun hx=>by apply yFC n hn;exact hx))) big (Nat.le_refl _)) h⟩
end
def y02(d:Nat):zR_a.den→Option zR_r.den:=Nat.rec (motive:=fun _=>zR_a.den→Option zR_r.den) (fun _=>none) (fun _ ih x=>@zR_M ⟨ih⟩ x.1 x.2.1 x.2.2.1) d
def y0Z(d:Nat):Entry:={ f:=194,args:=zR_a,ress:=zR_r,m:=y02 d }
theorem y1O:(d:Nat)→FnOK Tryz.prog (y0Z d)
  | 0=>FnOK.none (fn:=Tryz.f194) (by kernel_rfl) (by kernel_rfl) (by kernel_rfl)
  | d+1=>yO (g:=@zR_g ⟨y02 d⟩) (fn:=Tryz.f194) (e:=y0Z (d+1)) yD yK (yB (y1O d) (yB yCy (yB yH0 (yB yDf eNil)))) (by kernel_rfl) (by kernel_rfl) (by kernel_rfl) (fun x y h=>let ⟨n,hn⟩:=@ySp ⟨y02 d⟩ x.1 x.2.1 x.2.2.1 y h;⟨yS4 n,iNil,(@yU9 ⟨y02 d⟩ n x).trans hn⟩)
def zR_e:Entry:=y0Z 8
theorem yUb:FnOK Tryz.prog zR_e:=y1O 8
abbrev zW_a:Ty:=.pair t61 .unit
abbrev zW_r:Ty:=.pair t28 .unit
def zW_g:G:={ T:=T,E:=[zY_e,z0P_e],muts:=[],fz:=[] }
def zW_k:List (List Nat):=[]
def yP2(n:Nat):Ann:={ keep:=zW_k,fuel:=n,inl:=[],deep:=0 }
def zW_m(n:Nat)(x1:Nat):Option (Int×Unit) :=
  (bif yR Go.BinOp.neq Go.FloatKind.f32 (yh Go.BinOp.sub Go.FloatKind.f32 x1 x1) (nat_lit 0)then some ((1:Int),())else (bif yR Go.BinOp.lss Go.FloatKind.f32 x1 (nat_lit 3263168512)then some ((3:Int),())else (bif yR Go.BinOp.gtr Go.FloatKind.f32 x1 (nat_lit 1115684864)then some ((3:Int),())else (Option.bind (zY_M x1) fun v2=>some ((z0P (yR Go.BinOp.neq Go.FloatKind.f32 (y0i Go.FloatKind.f32 v2.1) (yh Go.BinOp.mul Go.FloatKind.f32 x1 (nat_lit 1098907648))) (3:Int)).1,())))))
theorem yTh(n:Nat)(x:zW_a.den):runF zW_g (yP2 n) Tryz.f197 zW_a zW_r x=zW_m n x.1:=by kernel_rfl
def zW_M(x1:Nat):Option (Int×Unit):=zW_m 0 x1
theorem ySY(x1:Nat)(y:Int×Unit)(h:zW_M x1=some y):∃ n,zW_m n x1=some y:=⟨0,h⟩
def zW_e:Entry:={ f:=197,args:=zW_a,ress:=zW_r,m:=fun x=>zW_M x.1 }
theorem yQ8:FnOK Tryz.prog zW_e:=yO (g:=zW_g) (fn:=Tryz.f197) yD yK (yB yVh (yB yAw eNil)) (by kernel_rfl) (by kernel_rfl) (by kernel_rfl) (fun x y h=>let ⟨n,hn⟩:=ySY x.1 y h;⟨yP2 n,iNil,(yTh n x).trans hn⟩)
abbrev yOH:Ty:=.pair t3 (.pair t3 (.pair t3 .unit))
abbrev yTJ:Ty:=.pair t28 .unit
def yOm:G:={ T:=T,E:=[z0P_e],muts:=[],fz:=[] }
def yUa:List (List Nat):=[]
def yKl(n:Nat):Ann:={ keep:=yUa,fuel:=n,inl:=[],deep:=0 }
def yJw(n:Nat)(n1:Int)(least:Int)(most:Int):Option (Int×Unit) :=
  (bif decide (n1 < least)then some ((z0P Bool.true (3:Int)).1,())else some ((z0P (decide (n1 > most)) (3:Int)).1,()))
theorem yQF(n:Nat)(x:yOH.den):runF yOm (yKl n) Tryz.f201 yOH yTJ x=yJw n x.1 x.2.1 x.2.2.1:=by kernel_rfl
def z01(n1:Int)(least:Int)(most:Int):(Int×Unit) :=
  (bif decide (n1 < least)then ((z0P Bool.true (3:Int)).1,())else ((z0P (decide (n1 > most)) (3:Int)).1,()))
abbrev yPQ (n1:Int) (least:Int) (most:Int):Option (Int×Unit):=some (z01 n1 least most)
theorem yLZ(n1:Int)(least:Int)(most:Int)(y:Int×Unit)(h:yPQ n1 least most=some y):∃ n,yJw n n1 least most=some y :=
  ⟨0,by rw[← h];show yJw 0 n1 least most=some (z01 n1 least most);unfold yJw z01;first|rfl|(simp only[yI];done)|(simp only[yI];rfl)⟩
def z01_e:Entry:={ f:=201,args:=yOH,ress:=yTJ,m:=fun x=>yPQ x.1 x.2.1 x.2.2.1 }
theorem yPx:FnOK Tryz.prog z01_e:=yO (g:=yOm) (fn:=Tryz.f201) yD yK (yB yAw eNil) (by kernel_rfl) (by kernel_rfl) (by kernel_rfl) (fun x y h=>let ⟨n,hn⟩:=yLZ x.1 x.2.1 x.2.2.1 y h;⟨yKl n,iNil,(yQF n x).trans hn⟩)
abbrev zB_a:Ty:=.pair t58 (.pair t263 .unit)
abbrev zB_r:Ty:=.pair t4 .unit
def zB_g:G:={ T:=T,E:=[zD_e],muts:=[],fz:=[] }
def zB_k:List (List Nat):=[]
def yT6(n:Nat):Ann:={ keep:=zB_k,fuel:=n,inl:=[],deep:=0 }
def zB_m(n:Nat)(s:List (Q3))(f:(Q3)×Unit→Option (Bool×Unit)):Option (Bool×Unit) :=
  (Option.bind (zD_M s f) fun v0=>some (decide (v0.1 ≥ 0),()))
theorem yUV(n:Nat)(x:zB_a.den):runF zB_g (yT6 n) Tryz.f204 zB_a zB_r x=zB_m n x.1 x.2.1:=by kernel_rfl
def zB_M(s:List (Q3))(f:(Q3)×Unit→Option (Bool×Unit)):Option (Bool×Unit):=zB_m 0 s f
theorem yQk(s:List (Q3))(f:(Q3)×Unit→Option (Bool×Unit))(y:Bool×Unit)(h:zB_M s f=some y):∃ n,zB_m n s f=some y:=⟨0,h⟩
def zB_e:Entry:={ f:=204,args:=zB_a,ress:=zB_r,m:=fun x=>zB_M x.1 x.2.1 }
theorem yVa:FnOK Tryz.prog zB_e:=yO (g:=zB_g) (fn:=Tryz.f204) yD yK (yB yTg eNil) (by kernel_rfl) (by kernel_rfl) (by kernel_rfl) (fun x y h=>let ⟨n,hn⟩:=yQk x.1 x.2.1 y h;⟨yT6 n,iNil,(yUV n x).trans hn⟩)
abbrev zC_a:Ty:=.pair t35 (.pair t265 .unit)
abbrev zC_r:Ty:=.pair t4 .unit
def zC_g:G:={ T:=T,E:=[zE_e],muts:=[],fz:=[] }
def zC_k:List (List Nat):=[]
def yPe(n:Nat):Ann:={ keep:=zC_k,fuel:=n,inl:=[],deep:=0 }
def zC_m(n:Nat)(s:List Nat)(f:Nat×Unit→Option (Bool×Unit)):Option (Bool×Unit) :=
  (Option.bind (zE_M s f) fun v0=>some (decide (v0.1 ≥ 0),()))
theorem yUE(n:Nat)(x:zC_a.den):runF zC_g (yPe n) Tryz.f207 zC_a zC_r x=zC_m n x.1 x.2.1:=by kernel_rfl
def zC_M(s:List Nat)(f:Nat×Unit→Option (Bool×Unit)):Option (Bool×Unit):=zC_m 0 s f
theorem yOj(s:List Nat)(f:Nat×Unit→Option (Bool×Unit))(y:Bool×Unit)(h:zC_M s f=some y):∃ n,zC_m n s f=some y:=⟨0,h⟩
def zC_e:Entry:={ f:=207,args:=zC_a,ress:=zC_r,m:=fun x=>zC_M x.1 x.2.1 }
theorem yTx:FnOK Tryz.prog zC_e:=yO (g:=zC_g) (fn:=Tryz.f207) yD yK (yB yV3 eNil) (by kernel_rfl) (by kernel_rfl) (by kernel_rfl) (fun x y h=>let ⟨n,hn⟩:=yOj x.1 x.2.1 y h;⟨yPe n,iNil,(yUE n x).trans hn⟩)
abbrev zg_a:Ty:=.pair t63 .unit
abbrev zg_r:Ty:=.pair t28 .unit
def zg_g:G:={ T:=T,E:=[z0P_e],muts:=[],fz:=[] }
def zg_k:List (List Nat):=[]
def yRM(n:Nat):Ann:={ keep:=zg_k,fuel:=n,inl:=[],deep:=0 }
def zg_m(n:Nat)(s:Q3):Option (Int×Unit) :=
  (bif decide (s.1 < 0)then some ((z0P Bool.true (14:Int)).1,())else (bif decide (s.1 ≥ s.2.1)then some ((z0P Bool.true (14:Int)).1,())else some ((z0P (decide (s.2.1 > 100000)) (14:Int)).1,())))
theorem yUy(n:Nat)(x:zg_a.den):runF zg_g (yRM n) Tryz.f225 zg_a zg_r x=zg_m n x.1:=by kernel_rfl
def zg(s:Q3):(Int×Unit) :=
  (bif decide (s.1 < 0)then ((z0P Bool.true (14:Int)).1,())else (bif decide (s.1 ≥ s.2.1)then ((z0P Bool.true (14:Int)).1,())else ((z0P (decide (s.2.1 > 100000)) (14:Int)).1,())))
abbrev zg_M (s:Q3):Option (Int×Unit):=some (zg s)
theorem ySJ(s:Q3)(y:Int×Unit)(h:zg_M s=some y):∃ n,zg_m n s=some y :=
  ⟨0,by rw[← h];show zg_m 0 s=some (zg s);unfold zg_m zg;first|rfl|(simp only[yI];done)|(simp only[yI];rfl)⟩
def zg_e:Entry:={ f:=225,args:=zg_a,ress:=zg_r,m:=fun x=>zg_M x.1 }
theorem yUI:FnOK Tryz.prog zg_e:=yO (g:=zg_g) (fn:=Tryz.f225) yD yK (yB yAw eNil) (by kernel_rfl) (by kernel_rfl) (by kernel_rfl) (fun x y h=>let ⟨n,hn⟩:=ySJ x.1 y h;⟨yRM n,iNil,(yUy n x).trans hn⟩)
end
end Go.Tw
end
