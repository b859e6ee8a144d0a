import Derived.Test.YtpcnkpbpcebokaaGreatDoorBT
import Derived.Test.YtpcnkpbpcebokaaGreatDoorB0
import Derived.Test.YtpcnkpbpcebokaaGreatDoorBS
import Derived.Test.YtpcnkpbpcebokaaGreatDoorLQ
set_option linter.all false
section
set_option maxRecDepth 1000000
namespace Go.Tw
open Go.Vx Go.Vx.B Go.Proofs
noncomputable section
abbrev zV_a:Ty:=.pair t23 (.pair t23 .unit)
abbrev zV_r:Ty:=.pair t4 .unit
def zV_g:G:={ T:=T,E:=[],muts:=[],fz:=[] }
def zV_k:List (List Nat):=[[0,1,5]]
def yRB(n:Nat):Ann:={ keep:=zV_k,fuel:=n,inl:=[],deep:=0 }
def yHh(n:Nat)(r0:List (Q3)→List (Q3)→Int→Option (Bool×Unit))(ah:List (Q3))(ai:List (Q3))(ax:Int):Option (Bool×Unit) :=
  (bif decide (ax < (↑ah.length:Int))then (Option.bind (idx ah ax) fun v1=>(Option.bind (idx ai ax) fun v2=>(bif !eqV ((Ty.int IntKind.i64).pair ((Ty.int IntKind.i64).pair Ty.unit)) v1 v2 then some (Bool.false,())else r0 ah ai (IntKind.i64.wrap (ax+1)))))else some (Bool.true,()))
def y8d(n:Nat)(k:Nat)(ah:List (Q3))(ai:List (Q3))(ax:Int):Option (Bool×Unit) :=
  iter (fun r y=>yHh n (fun ah ai ax=>r ((ah,(ai,(ax,()))),((),()))) y.1.1 y.1.2.1 y.1.2.2.1) k ((ah,(ai,(ax,()))),((),()))
def zV_m(n:Nat)(a:List (Q3))(b:List (Q3)):Option (Bool×Unit) :=
  (bif (↑a.length:Int) != (↑b.length:Int)then some (Bool.false,())else (y8d n n (a) (b) ((0:Int))))
theorem yUg(n:Nat)(x:zV_a.den):runF zV_g (yRB n) Tryz.f29 zV_a zV_r x=zV_m n x.1 x.2.1:=by kernel_rfl
def yMn(ah:List (Q3))(ai:List (Q3))(ax:Int)(v1:Q3):Option ((Bool×Unit)⊕Unit) :=
  (Option.bind (idx ai ax) fun v2=>(bif !eqV ((Ty.int IntKind.i64).pair ((Ty.int IntKind.i64).pair Ty.unit)) v1 v2 then (some (Sum.inl ((Bool.false,()))))else (some (Sum.inr ()))))
def yLc(ah:List (Q3))(ai:List (Q3)):Option (Bool×Unit) :=
  (some ((Bool.true,())))
theorem yDx(n:Nat)(hn:big≤n)(ah:List (Q3))(ai:List (Q3))(hx:List.length (ah) < lenMax):LeF some (yP (fun i__ e__ s__=>yMn ah ai i__ e__) (fun s__=>yLc ah ai) 0 (ah) ()) (y8d n n ah ai 0):=by
  refine yO (f:=some) (W:=fun k__ i__ s__=>y8d n k__ ah ai i__) (body:=(fun i__ e__ s__=>yMn ah ai i__ e__)) (fin:=(fun s__=>yLc ah ai)) (fun k__ i__ s__=>?_) hx () n (by unfold big at hn;unfold lenMax at hx;omega)
  show LeF _ _ (yHh n (y8d n k__) ah ai i__)
  exact y5 (y8 fun v1=>(y8 fun v2=>(y5 (y7 rfl) (y7 rfl)))) (yp (y7 rfl))
def zV_M(a:List (Q3))(b:List (Q3)):Option (Bool×Unit) :=
  (bif (↑a.length:Int) != (↑b.length:Int)then (some ((Bool.false,())))else (bif decide (List.length (a) < lenMax)then yP (fun i__ e__ s__=>yMn (a) (b) i__ e__) (fun s__=>yLc (a) (b)) 0 (a) ()else none))
theorem yQG(a:List (Q3))(b:List (Q3))(y:Bool×Unit)(h:zV_M a b=some y):∃ n,zV_m n a b=some y :=
  ⟨big,LeF.top (show LeF some (zV_M a b) (zV_m big a b)from (fun (n:Nat) (hn:big≤n)=>show LeF some (zV_M a b) (zV_m n a b)from (y5 (y7 rfl) (yN fun hx=>by apply yDx n hn;exact hx))) big (Nat.le_refl _)) h⟩
def zV_e:Entry:={ f:=29,args:=zV_a,ress:=zV_r,m:=fun x=>zV_M x.1 x.2.1 }
theorem yPt:FnOK Tryz.prog zV_e:=yM (g:=zV_g) (fn:=Tryz.f29) yD yK eNil (by kernel_rfl) (by kernel_rfl) (by kernel_rfl) (fun x y h=>let ⟨n,hn⟩:=yQG x.1 x.2.1 y h;⟨yRB n,iNil,(yUg n x).trans hn⟩)
abbrev zb_a:Ty:=.pair t35 (.pair t35 .unit)
abbrev zb_r:Ty:=.pair t4 .unit
def zb_g:G:={ T:=T,E:=[],muts:=[],fz:=[] }
def zb_k:List (List Nat):=[[0,1,5]]
def yPc(n:Nat):Ann:={ keep:=zb_k,fuel:=n,inl:=[],deep:=0 }
def yHo(n:Nat)(r0:List Nat→List Nat→Int→Option (Bool×Unit))(ah:List Nat)(ai:List Nat)(ax:Int):Option (Bool×Unit) :=
  (bif decide (ax < (↑ah.length:Int))then (Option.bind (idx ah ax) fun v1=>(Option.bind (idx ai ax) fun v2=>(bif yY Go.BinOp.neq Go.FloatKind.f32 v1 v2 then some (Bool.false,())else r0 ah ai (IntKind.i64.wrap (ax+1)))))else some (Bool.true,()))
def y9e(n:Nat)(k:Nat)(ah:List Nat)(ai:List Nat)(ax:Int):Option (Bool×Unit) :=
  iter (fun r y=>yHo n (fun ah ai ax=>r ((ah,(ai,(ax,()))),((),()))) y.1.1 y.1.2.1 y.1.2.2.1) k ((ah,(ai,(ax,()))),((),()))
def zb_m(n:Nat)(a:List Nat)(b:List Nat):Option (Bool×Unit) :=
  (bif (↑a.length:Int) != (↑b.length:Int)then some (Bool.false,())else (y9e n n (a) (b) ((0:Int))))
theorem yTN(n:Nat)(x:zb_a.den):runF zb_g (yPc n) Tryz.f30 zb_a zb_r x=zb_m n x.1 x.2.1:=by kernel_rfl
def yLb(ah:List Nat)(ai:List Nat)(ax:Int)(v1:Nat):Option ((Bool×Unit)⊕Unit) :=
  (Option.bind (idx ai ax) fun v2=>(bif yY Go.BinOp.neq Go.FloatKind.f32 v1 v2 then (some (Sum.inl ((Bool.false,()))))else (some (Sum.inr ()))))
def yKr(ah:List Nat)(ai:List Nat):Option (Bool×Unit) :=
  (some ((Bool.true,())))
theorem yEC(n:Nat)(hn:big≤n)(ah:List Nat)(ai:List Nat)(hx:List.length (ah) < lenMax):LeF some (yP (fun i__ e__ s__=>yLb ah ai i__ e__) (fun s__=>yKr ah ai) 0 (ah) ()) (y9e n n ah ai 0):=by
  refine yO (f:=some) (W:=fun k__ i__ s__=>y9e n k__ ah ai i__) (body:=(fun i__ e__ s__=>yLb ah ai i__ e__)) (fin:=(fun s__=>yKr ah ai)) (fun k__ i__ s__=>?_) hx () n (by unfold big at hn;unfold lenMax at hx;omega)
  show LeF _ _ (yHo n (y9e n k__) ah ai i__)
  exact y5 (y8 fun v1=>(y8 fun v2=>(y5 (y7 rfl) (y7 rfl)))) (yp (y7 rfl))
def zb_M(a:List Nat)(b:List Nat):Option (Bool×Unit) :=
  (bif (↑a.length:Int) != (↑b.length:Int)then (some ((Bool.false,())))else (bif decide (List.length (a) < lenMax)then yP (fun i__ e__ s__=>yLb (a) (b) i__ e__) (fun s__=>yKr (a) (b)) 0 (a) ()else none))
theorem yQb(a:List Nat)(b:List Nat)(y:Bool×Unit)(h:zb_M a b=some y):∃ n,zb_m n a b=some y :=
  ⟨big,LeF.top (show LeF some (zb_M a b) (zb_m big a b)from (fun (n:Nat) (hn:big≤n)=>show LeF some (zb_M a b) (zb_m n a b)from (y5 (y7 rfl) (yN fun hx=>by apply yEC n hn;exact hx))) big (Nat.le_refl _)) h⟩
def zb_e:Entry:={ f:=30,args:=zb_a,ress:=zb_r,m:=fun x=>zb_M x.1 x.2.1 }
theorem yUf:FnOK Tryz.prog zb_e:=yM (g:=zb_g) (fn:=Tryz.f30) yD yK eNil (by kernel_rfl) (by kernel_rfl) (by kernel_rfl) (fun x y h=>let ⟨n,hn⟩:=yQb x.1 x.2.1 y h;⟨yPc n,iNil,(yTN n x).trans hn⟩)
abbrev zm_a:Ty:=.pair t79 (.pair t79 .unit)
abbrev zm_r:Ty:=.pair t4 .unit
def zm_g:G:={ T:=T,E:=[],muts:=[],fz:=[] }
def zm_k:List (List Nat):=[[0,1,5]]
def yRP(n:Nat):Ann:={ keep:=zm_k,fuel:=n,inl:=[],deep:=0 }
def yFw(n:Nat)(r0:List (Nat×Nat)→List (Nat×Nat)→Int→Option (Bool×Unit))(ah:List (Nat×Nat))(ai:List (Nat×Nat))(ax:Int):Option (Bool×Unit) :=
  (bif decide (ax < (↑ah.length:Int))then (Option.bind (idx ah ax) fun v1=>(Option.bind (idx ai ax) fun v2=>(bif !y7y Go.FloatKind.f32 v1 v2 then some (Bool.false,())else r0 ah ai (IntKind.i64.wrap (ax+1)))))else some (Bool.true,()))
def y9i(n:Nat)(k:Nat)(ah:List (Nat×Nat))(ai:List (Nat×Nat))(ax:Int):Option (Bool×Unit) :=
  iter (fun r y=>yFw n (fun ah ai ax=>r ((ah,(ai,(ax,()))),((),()))) y.1.1 y.1.2.1 y.1.2.2.1) k ((ah,(ai,(ax,()))),((),()))
def zm_m(n:Nat)(a:List (Nat×Nat))(b:List (Nat×Nat)):Option (Bool×Unit) :=
  (bif (↑a.length:Int) != (↑b.length:Int)then some (Bool.false,())else (y9i n n (a) (b) ((0:Int))))
theorem yUj(n:Nat)(x:zm_a.den):runF zm_g (yRP n) Tryz.f53 zm_a zm_r x=zm_m n x.1 x.2.1:=by kernel_rfl
def yM4(ah:List (Nat×Nat))(ai:List (Nat×Nat))(ax:Int)(v1:Nat×Nat):Option ((Bool×Unit)⊕Unit) :=
  (Option.bind (idx ai ax) fun v2=>(bif !y7y Go.FloatKind.f32 v1 v2 then (some (Sum.inl ((Bool.false,()))))else (some (Sum.inr ()))))
def yMU(ah:List (Nat×Nat))(ai:List (Nat×Nat)):Option (Bool×Unit) :=
  (some ((Bool.true,())))
theorem yES(n:Nat)(hn:big≤n)(ah:List (Nat×Nat))(ai:List (Nat×Nat))(hx:List.length (ah) < lenMax):LeF some (yP (fun i__ e__ s__=>yM4 ah ai i__ e__) (fun s__=>yMU ah ai) 0 (ah) ()) (y9i n n ah ai 0):=by
  refine yO (f:=some) (W:=fun k__ i__ s__=>y9i n k__ ah ai i__) (body:=(fun i__ e__ s__=>yM4 ah ai i__ e__)) (fin:=(fun s__=>yMU ah ai)) (fun k__ i__ s__=>?_) hx () n (by unfold big at hn;unfold lenMax at hx;omega)
  show LeF _ _ (yFw n (y9i n k__) ah ai i__)
  exact y5 (y8 fun v1=>(y8 fun v2=>(y5 (y7 rfl) (y7 rfl)))) (yp (y7 rfl))
def zm_M(a:List (Nat×Nat))(b:List (Nat×Nat)):Option (Bool×Unit) :=
  (bif (↑a.length:Int) != (↑b.length:Int)then (some ((Bool.false,())))else (bif decide (List.length (a) < lenMax)then yP (fun i__ e__ s__=>yM4 (a) (b) i__ e__) (fun s__=>yMU (a) (b)) 0 (a) ()else none))
theorem yPM(a:List (Nat×Nat))(b:List (Nat×Nat))(y:Bool×Unit)(h:zm_M a b=some y):∃ n,zm_m n a b=some y :=
  ⟨big,LeF.top (show LeF some (zm_M a b) (zm_m big a b)from (fun (n:Nat) (hn:big≤n)=>show LeF some (zm_M a b) (zm_m n a b)from (y5 (y7 rfl) (yN fun hx=>by apply yES n hn;exact hx))) big (Nat.le_refl _)) h⟩
def zm_e:Entry:={ f:=53,args:=zm_a,ress:=zm_r,m:=fun x=>zm_M x.1 x.2.1 }
theorem yTk:FnOK Tryz.prog zm_e:=yM (g:=zm_g) (fn:=Tryz.f53) yD yK eNil (by kernel_rfl) (by kernel_rfl) (by kernel_rfl) (fun x y h=>let ⟨n,hn⟩:=yPM x.1 x.2.1 y h;⟨yRP n,iNil,(yUj n x).trans hn⟩)
abbrev zh_a:Ty:=.pair t100 (.pair t100 .unit)
abbrev zh_r:Ty:=.pair t4 .unit
def zh_g:G:={ T:=T,E:=[],muts:=[],fz:=[] }
def zh_k:List (List Nat):=[[0,1,5]]
def yQA(n:Nat):Ann:={ keep:=zh_k,fuel:=n,inl:=[],deep:=0 }
def yFb(n:Nat)(r0:List (List Int)→List (List Int)→Int→Option (Bool×Unit))(ah:List (List Int))(ai:List (List Int))(ax:Int):Option (Bool×Unit) :=
  (bif decide (ax < (↑ah.length:Int))then (Option.bind (idx ah ax) fun v1=>(Option.bind (idx ai ax) fun v2=>(bif !eqV (Ty.arr (2:Nat) (Ty.int IntKind.i64)) v1 v2 then some (Bool.false,())else r0 ah ai (IntKind.i64.wrap (ax+1)))))else some (Bool.true,()))
def y9C(n:Nat)(k:Nat)(ah:List (List Int))(ai:List (List Int))(ax:Int):Option (Bool×Unit) :=
  iter (fun r y=>yFb n (fun ah ai ax=>r ((ah,(ai,(ax,()))),((),()))) y.1.1 y.1.2.1 y.1.2.2.1) k ((ah,(ai,(ax,()))),((),()))
def zh_m(n:Nat)(a:List (List Int))(b:List (List Int)):Option (Bool×Unit) :=
  (bif (↑a.length:Int) != (↑b.length:Int)then some (Bool.false,())else (y9C n n (a) (b) ((0:Int))))
theorem yUO(n:Nat)(x:zh_a.den):runF zh_g (yQA n) Tryz.f66 zh_a zh_r x=zh_m n x.1 x.2.1:=by kernel_rfl
def yMM(ah:List (List Int))(ai:List (List Int))(ax:Int)(v1:List Int):Option ((Bool×Unit)⊕Unit) :=
  (Option.bind (idx ai ax) fun v2=>(bif !eqV (Ty.arr (2:Nat) (Ty.int IntKind.i64)) v1 v2 then (some (Sum.inl ((Bool.false,()))))else (some (Sum.inr ()))))
def yKn(ah:List (List Int))(ai:List (List Int)):Option (Bool×Unit) :=
  (some ((Bool.true,())))
theorem yF3(n:Nat)(hn:big≤n)(ah:List (List Int))(ai:List (List Int))(hx:List.length (ah) < lenMax):LeF some (yP (fun i__ e__ s__=>yMM ah ai i__ e__) (fun s__=>yKn ah ai) 0 (ah) ()) (y9C n n ah ai 0):=by
  refine yO (f:=some) (W:=fun k__ i__ s__=>y9C n k__ ah ai i__) (body:=(fun i__ e__ s__=>yMM ah ai i__ e__)) (fin:=(fun s__=>yKn ah ai)) (fun k__ i__ s__=>?_) hx () n (by unfold big at hn;unfold lenMax at hx;omega)
  show LeF _ _ (yFb n (y9C n k__) ah ai i__)
  exact y5 (y8 fun v1=>(y8 fun v2=>(y5 (y7 rfl) (y7 rfl)))) (yp (y7 rfl))
def zh_M(a:List (List Int))(b:List (List Int)):Option (Bool×Unit) :=
  (bif (↑a.length:Int) != (↑b.length:Int)then (some ((Bool.false,())))else (bif decide (List.length (a) < lenMax)then yP (fun i__ e__ s__=>yMM (a) (b) i__ e__) (fun s__=>yKn (a) (b)) 0 (a) ()else none))
theorem yO1(a:List (List Int))(b:List (List Int))(y:Bool×Unit)(h:zh_M a b=some y):∃ n,zh_m n a b=some y :=
  ⟨big,LeF.top (show LeF some (zh_M a b) (zh_m big a b)from (fun (n:Nat) (hn:big≤n)=>show LeF some (zh_M a b) (zh_m n a b)from (y5 (y7 rfl) (yN fun hx=>by apply yF3 n hn;exact hx))) big (Nat.le_refl _)) h⟩
def zh_e:Entry:={ f:=66,args:=zh_a,ress:=zh_r,m:=fun x=>zh_M x.1 x.2.1 }
theorem yUy:FnOK Tryz.prog zh_e:=yM (g:=zh_g) (fn:=Tryz.f66) yD yK eNil (by kernel_rfl) (by kernel_rfl) (by kernel_rfl) (fun x y h=>let ⟨n,hn⟩:=yO1 x.1 x.2.1 y h;⟨yQA n,iNil,(yUO n x).trans hn⟩)
abbrev yNC:Ty:=.pair t35 (.pair t61 .unit)
abbrev ySf:Ty:=.pair t41 .unit
def yPI:G:={ T:=T,E:=[],muts:=[5],fz:=[] }
def yTI:List (List Nat):=[[0,1,5,6],[0,1,5,6,7]]
def yJu(n:Nat):Ann:={ keep:=yTI,fuel:=n,inl:=[],deep:=0 }
def y6b(n:Nat)(r0:List Nat→Nat→Int→List Int→Option (List Int×Unit))(j8:List Nat)(j9:Nat)(j10:Int)(j11:Int)(j12:List Int):Option (List Int×Unit) :=
  (bif decide (j11 < (↑j8.length:Int))then (Option.bind (idx j8 (IntKind.i64.wrap (j10 - (1:Int)))) fun v13=>(Option.bind (idx j8 j10) fun v14=>(bif yY Go.BinOp.lss Go.FloatKind.f32 (yd Go.BinOp.mul Go.FloatKind.f32 j9 v13) (yd Go.BinOp.mul Go.FloatKind.f32 j9 v14)then (Option.bind (idx j8 j11) fun v15=>(Option.bind (idx j8 j10) fun v16=>(bif yY Go.BinOp.lss Go.FloatKind.f32 (yd Go.BinOp.mul Go.FloatKind.f32 j9 v15) (yd Go.BinOp.mul Go.FloatKind.f32 j9 v16)then (bif decide (j12.length+(1:Nat)≤memMax)then r0 j8 j9 (IntKind.i64.wrap (j10+1)) (j12++[j10])else none)else r0 j8 j9 (IntKind.i64.wrap (j10+1)) j12)))else r0 j8 j9 (IntKind.i64.wrap (j10+1)) j12)))else r0 j8 j9 (IntKind.i64.wrap (j10+1)) j12)
def yCo(n:Nat)(r0:List Nat→Nat→Int→List Int→Option (List Int×Unit))(r1:List Nat→Nat→Int→Int→List Int→Option (List Int×Unit))(b5:List Nat)(aI:Nat)(b6:Int)(b7:Int)(bh:List Int):Option (List Int×Unit) :=
  (bif decide (b7 < (↑b5.length:Int))then (Option.bind (idx b5 b7) fun v2=>(Option.bind (idx b5 b6) fun v3=>(bif yY Go.BinOp.eql Go.FloatKind.f32 v2 v3 then r1 b5 aI b6 (IntKind.i64.wrap (b7+1)) bh else (y6b n r0 (b5) (aI) (b6) (b7) (bh)))))else (y6b n r0 (b5) (aI) (b6) (b7) (bh)))
def y60(n:Nat)(r0:List Nat→Nat→Int→List Int→Option (List Int×Unit))(k:Nat)(b5:List Nat)(aI:Nat)(b6:Int)(b7:Int)(bh:List Int):Option (List Int×Unit) :=
  iter (fun r y=>yCo n r0 (fun b5 aI b6 b7 bh=>r ((b5,(aI,(b6,(b7,())))),((bh,()),()))) y.1.1 y.1.2.1 y.1.2.2.1 y.1.2.2.2.1 y.2.1.1) k ((b5,(aI,(b6,(b7,())))),((bh,()),()))
def yDU(n:Nat)(r0:List Nat→Nat→Int→List Int→Option (List Int×Unit))(b8:List Nat)(aO:Nat)(bw:Int)(aa:List Int):Option (List Int×Unit) :=
  (bif decide (bw < (↑b8.length:Int))then (y60 n r0 n (b8) (aO) (bw) (bw) (aa))else some (aa,()))
def y6B(n:Nat)(k:Nat)(b8:List Nat)(aO:Nat)(bw:Int)(aa:List Int):Option (List Int×Unit) :=
  iter (fun r y=>yDU n (fun b8 aO bw aa=>r ((b8,(aO,(bw,()))),((aa,()),()))) y.1.1 y.1.2.1 y.1.2.2.1 y.2.1.1) k ((b8,(aO,(bw,()))),((aa,()),()))
def yIU(n:Nat)(l:List Nat)(sign:Nat):Option (List Int×Unit) :=
  (y6B n n (l) (sign) ((1:Int)) ([]))
theorem yNy(n:Nat)(x:yNC.den):runF yPI (yJu n) Tryz.f74 yNC ySf x=yIU n x.1 x.2.1:=by kernel_rfl
def y4H(j8:List Nat)(j9:Nat)(j10:Int)(j11:Int)(j12:List Int):Option ((List Int×Unit)⊕(List Int)) :=
  (bif decide (j11 < (↑j8.length:Int))then (Option.bind (idx j8 (IntKind.i64.wrap (j10 - (1:Int)))) fun v13=>(Option.bind (idx j8 j10) fun v14=>(bif yY Go.BinOp.lss Go.FloatKind.f32 (yd Go.BinOp.mul Go.FloatKind.f32 j9 v13) (yd Go.BinOp.mul Go.FloatKind.f32 j9 v14)then (Option.bind (idx j8 j11) fun v15=>(Option.bind (idx j8 j10) fun v16=>(bif yY Go.BinOp.lss Go.FloatKind.f32 (yd Go.BinOp.mul Go.FloatKind.f32 j9 v15) (yd Go.BinOp.mul Go.FloatKind.f32 j9 v16)then (bif decide (j12.length+(1:Nat)≤memMax)then (some (Sum.inr (j12++[j10])))else none)else (some (Sum.inr (j12))))))else (some (Sum.inr (j12))))))else (some (Sum.inr (j12))))
theorem y22(n:Nat)(hn:big≤n)(r0:List Nat→Nat→Int→List Int→Option (List Int×Unit))(j8:List Nat)(j9:Nat)(j10:Int)(j11:Int)(j12:List Int):LeF (elim some fun (s__:(List Int))=>r0 j8 j9 (IntKind.i64.wrap (j10+1)) s__) (y4H j8 j9 j10 j11 j12) (y6b n r0 j8 j9 j10 j11 j12) :=
  (y5 (y8 fun v13=>(y8 fun v14=>(y5 (y8 fun v15=>(y8 fun v16=>(y5 (y5 (y7 rfl) yg) (y7 rfl)))) (y7 rfl)))) (y7 rfl))
def y5k(b5:List Nat)(aI:Nat)(b6:Int)(bh:List Int)(b7:Int):Option (((List Int×Unit)⊕(List Int))⊕(Int)) :=
  (bif decide (b7 < (↑b5.length:Int))then (Option.bind (idx b5 b7) fun v2=>(Option.bind (idx b5 b6) fun v3=>(bif yY Go.BinOp.eql Go.FloatKind.f32 v2 v3 then (some (Sum.inr (IntKind.i64.wrap (b7+1))))else (Option.map Sum.inl (y4H (b5) (aI) (b6) (b7) (bh))))))else (Option.map Sum.inl (y4H (b5) (aI) (b6) (b7) (bh))))
theorem yCR(n:Nat)(hn:big≤n)(r0:List Nat→Nat→Int→List Int→Option (List Int×Unit))(b5:List Nat)(aI:Nat)(b6:Int)(bh:List Int)(b7:Int):LeF (elim some fun (s__:(List Int))=>r0 b5 aI (IntKind.i64.wrap (b6+1)) s__) (y33 (fun s__=>y5k b5 aI b6 bh s__) wMax b7) (y60 n r0 n b5 aI b6 b7 bh):=by
  refine y2q (f:=(elim some fun (s__:(List Int))=>r0 b5 aI (IntKind.i64.wrap (b6+1)) s__)) (W:=fun k__ s__=>y60 n r0 k__ b5 aI b6 s__ bh) (body:=(fun s__=>y5k b5 aI b6 bh s__)) (fun k__ s__=>?_) wMax n b7 (by unfold big at hn;unfold wMax;omega)
  show LeF _ _ (yCo n r0 (y60 n r0 k__) b5 aI b6 s__ bh)
  exact (y5 (y8 fun v2=>(y8 fun v3=>(y5 (y7 rfl) (yp (by apply y22 n hn))))) (yp (by apply y22 n hn)))
def yAh(b8:List Nat)(aO:Nat)(bw:Int)(aa:List Int):Option ((List Int×Unit)⊕(List Int)) :=
  (y33 (fun s__=>y5k (b8) (aO) (bw) (aa) s__) wMax (bw))
def yB7(b8:List Nat)(aO:Nat)(aa:List Int):Option (List Int×Unit) :=
  (some ((aa,())))
theorem yC7(n:Nat)(hn:big≤n)(b8:List Nat)(aO:Nat)(aa:List Int)(hx:((↑b8.length:Int))≤9223372036854775807):LeF some (y1b (fun i__ s__=>yAh b8 aO i__ s__) (fun s__=>yB7 b8 aO s__) (((↑b8.length:Int)) - 1).toNat 1 aa) (y6B n n b8 aO 1 aa):=by
  refine y27 (f:=some) (W:=fun k__ i__ s__=>y6B n k__ b8 aO i__ s__) (body:=(fun i__ s__=>yAh b8 aO i__ s__)) (fin:=(fun s__=>yB7 b8 aO s__)) (fun k__ i__ s__=>?_) hx aa n 1 (by decide) (by unfold big at hn;omega)
  show LeF _ _ (yDU n (y6B n k__) b8 aO i__ s__)
  exact y5 (by apply yCR n hn) (yp (y7 rfl))
def yDn(l:List Nat)(sign:Nat):Option (List Int×Unit) :=
  (bif decide (((↑l.length:Int))≤9223372036854775807)then y1b (fun i__ s__=>yAh (l) (sign) i__ s__) (fun s__=>yB7 (l) (sign) s__) (((↑l.length:Int)) - 1).toNat 1 ([])else none)
theorem yKl(l:List Nat)(sign:Nat)(y:List Int×Unit)(h:yDn l sign=some y):∃ n,yIU n l sign=some y :=
  ⟨big,LeF.top (show LeF some (yDn l sign) (yIU big l sign)from (fun (n:Nat) (hn:big≤n)=>show LeF some (yDn l sign) (yIU n l sign)from (yN fun hx=>by apply yC7 n hn;exact hx)) big (Nat.le_refl _)) h⟩
def z01_e:Entry:={ f:=74,args:=yNC,ress:=ySf,m:=fun x=>yDn x.1 x.2.1 }
theorem yOc:FnOK Tryz.prog z01_e:=yM (g:=yPI) (fn:=Tryz.f74) yD yK eNil (by kernel_rfl) (by kernel_rfl) (by kernel_rfl) (fun x y h=>let ⟨n,hn⟩:=yKl x.1 x.2.1 y h;⟨yJu n,iNil,(yNy n x).trans hn⟩)
abbrev zk_a:Ty:=.pair t41 (.pair t41 .unit)
abbrev zk_r:Ty:=.pair t4 .unit
def zk_g:G:={ T:=T,E:=[],muts:=[],fz:=[] }
def zk_k:List (List Nat):=[[0,1,5]]
def yOh(n:Nat):Ann:={ keep:=zk_k,fuel:=n,inl:=[],deep:=0 }
def yGv(n:Nat)(r0:List Int→List Int→Int→Option (Bool×Unit))(ah:List Int)(ai:List Int)(ax:Int):Option (Bool×Unit) :=
  (bif decide (ax < (↑ah.length:Int))then (Option.bind (idx ah ax) fun v1=>(Option.bind (idx ai ax) fun v2=>(bif v1 != v2 then some (Bool.false,())else r0 ah ai (IntKind.i64.wrap (ax+1)))))else some (Bool.true,()))
def y9U(n:Nat)(k:Nat)(ah:List Int)(ai:List Int)(ax:Int):Option (Bool×Unit) :=
  iter (fun r y=>yGv n (fun ah ai ax=>r ((ah,(ai,(ax,()))),((),()))) y.1.1 y.1.2.1 y.1.2.2.1) k ((ah,(ai,(ax,()))),((),()))
def zk_m(n:Nat)(a:List Int)(b:List Int):Option (Bool×Unit) :=
  (bif (↑a.length:Int) != (↑b.length:Int)then some (Bool.false,())else (y9U n n (a) (b) ((0:Int))))
theorem yTv(n:Nat)(x:zk_a.den):runF zk_g (yOh n) Tryz.f75 zk_a zk_r x=zk_m n x.1 x.2.1:=by kernel_rfl
def yIm(ah:List Int)(ai:List Int)(ax:Int)(v1:Int):Option ((Bool×Unit)⊕Unit) :=
  (Option.bind (idx ai ax) fun v2=>(bif v1 != v2 then (some (Sum.inl ((Bool.false,()))))else (some (Sum.inr ()))))
def yLw(ah:List Int)(ai:List Int):Option (Bool×Unit) :=
  (some ((Bool.true,())))
theorem yEf(n:Nat)(hn:big≤n)(ah:List Int)(ai:List Int)(hx:List.length (ah) < lenMax):LeF some (yP (fun i__ e__ s__=>yIm ah ai i__ e__) (fun s__=>yLw ah ai) 0 (ah) ()) (y9U n n ah ai 0):=by
  refine yO (f:=some) (W:=fun k__ i__ s__=>y9U n k__ ah ai i__) (body:=(fun i__ e__ s__=>yIm ah ai i__ e__)) (fin:=(fun s__=>yLw ah ai)) (fun k__ i__ s__=>?_) hx () n (by unfold big at hn;unfold lenMax at hx;omega)
  show LeF _ _ (yGv n (y9U n k__) ah ai i__)
  exact y5 (y8 fun v1=>(y8 fun v2=>(y5 (y7 rfl) (y7 rfl)))) (yp (y7 rfl))
def zk_M(a:List Int)(b:List Int):Option (Bool×Unit) :=
  (bif (↑a.length:Int) != (↑b.length:Int)then (some ((Bool.false,())))else (bif decide (List.length (a) < lenMax)then yP (fun i__ e__ s__=>yIm (a) (b) i__ e__) (fun s__=>yLw (a) (b)) 0 (a) ()else none))
theorem yRh(a:List Int)(b:List Int)(y:Bool×Unit)(h:zk_M a b=some y):∃ n,zk_m n a b=some y :=
  ⟨big,LeF.top (show LeF some (zk_M a b) (zk_m big a b)from (fun (n:Nat) (hn:big≤n)=>show LeF some (zk_M a b) (zk_m n a b)from (y5 (y7 rfl) (yN fun hx=>by apply yEf n hn;exact hx))) big (Nat.le_refl _)) h⟩
def zk_e:Entry:={ f:=75,args:=zk_a,ress:=zk_r,m:=fun x=>zk_M x.1 x.2.1 }
theorem yOv:FnOK Tryz.prog zk_e:=yM (g:=zk_g) (fn:=Tryz.f75) yD yK eNil (by kernel_rfl) (by kernel_rfl) (by kernel_rfl) (fun x y h=>let ⟨n,hn⟩:=yRh x.1 x.2.1 y h;⟨yOh n,iNil,(yTv n x).trans hn⟩)
def zc_m(n:Nat)(x1:Nat):Option (Int×Unit) :=
  (Option.bind (y1V Go.FloatKind.f32 x1 Go.FloatKind.f64) fun v0=>(Option.bind (yl Go.FloatKind.f64 (yd Go.BinOp.mul Go.FloatKind.f64 (nat_lit 4625196817309499392) v0) IntKind.i64) fun v1=>some (v1,())))
def zc_M(x1:Nat):Option (Int×Unit):=zc_m 0 x1
abbrev yN3:Ty:=.pair t58 .unit
abbrev yOg:Ty:=.pair t60 .unit
def ySY:G:={ T:=T,E:=[],muts:=[],fz:=[] }
def yTz:List (List Nat):=[]
def yKV(n:Nat):Ann:={ keep:=yTz,fuel:=n,inl:=[],deep:=0 }
def yIf(n:Nat)(gaps:List (Q3)):Option ((List UInt8×Int×List Nat×List (Q3)×Unit)×Unit) :=
  some (([(103:UInt8)],(0:Int),[nat_lit 1065353216,nat_lit 0,nat_lit 3212836864,nat_lit 0],gaps,()),())
theorem yNo(n:Nat)(x:yN3.den):runF ySY (yKV n) Tryz.f102 yN3 yOg x=yIf n x.1:=by kernel_rfl
def z0P(gaps:List (Q3)):((List UInt8×Int×List Nat×List (Q3)×Unit)×Unit) :=
  (([(103:UInt8)],(0:Int),[nat_lit 1065353216,nat_lit 0,nat_lit 3212836864,nat_lit 0],gaps,()),())
abbrev ySH (gaps:List (Q3)):Option ((List UInt8×Int×List Nat×List (Q3)×Unit)×Unit):=some (z0P gaps)
theorem yMX(gaps:List (Q3))(y:(List UInt8×Int×List Nat×List (Q3)×Unit)×Unit)(h:ySH gaps=some y):∃ n,yIf n gaps=some y :=
  ⟨0,by rw[← h];show yIf 0 gaps=some (z0P gaps);unfold yIf z0P;first|rfl|(simp only[yI];done)|(simp only[yI];rfl)⟩
def z0P_e:Entry:={ f:=102,args:=yN3,ress:=yOg,m:=fun x=>ySH x.1 }
theorem yRC:FnOK Tryz.prog z0P_e:=yM (g:=ySY) (fn:=Tryz.f102) yD yK eNil (by kernel_rfl) (by kernel_rfl) (by kernel_rfl) (fun x y h=>let ⟨n,hn⟩:=yMX x.1 y h;⟨yKV n,iNil,(yNo n x).trans hn⟩)
abbrev yLt:Ty:=.pair t9 .unit
abbrev yQr:Ty:=.pair t31 .unit
def yQ7:G:={ T:=T,E:=[],muts:=[3],fz:=[] }
def ySl:List (List Nat):=[[3,8]]
def yKA(n:Nat):Ann:={ keep:=ySl,fuel:=n,inl:=[],deep:=0 }
def yCw(n:Nat)(r0:List (Q2)→List UInt8→Int→Option (List (Q2)×Unit))(aN:List (Q2))(str1__0:List UInt8)(pos1__0:Int):Option (List (Q2)×Unit) :=
  (bif decide (pos1__0 < (↑str1__0.length:Int))then (bif (yc str1__0 pos1__0).1==72 then (bif decide (aN.length+(1:Nat)≤memMax)then r0 (aN++[(y1e (yc str1__0 pos1__0).1,(1:Int),(2:Int),())]) str1__0 (yc str1__0 pos1__0).2 else none)else (bif (yc str1__0 pos1__0).1==81 then (bif decide (aN.length+(1:Nat)≤memMax)then r0 (aN++[(y1e (yc str1__0 pos1__0).1,(1:Int),(1:Int),())]) str1__0 (yc str1__0 pos1__0).2 else none)else (bif (yc str1__0 pos1__0).1==82 then (bif decide (aN.length+(1:Nat)≤memMax)then r0 (aN++[(y1e (yc str1__0 pos1__0).1,(1:Int),(3:Int),())]) str1__0 (yc str1__0 pos1__0).2 else none)else (bif decide (aN.length+(1:Nat)≤memMax)then r0 (aN++[(y1e (yc str1__0 pos1__0).1,(1:Int),(0:Int),())]) str1__0 (yc str1__0 pos1__0).2 else none))))else some (aN,()))
def y6L(n:Nat)(k:Nat)(aN:List (Q2))(str1__0:List UInt8)(pos1__0:Int):Option (List (Q2)×Unit) :=
  iter (fun r y=>yCw n (fun aN str1__0 pos1__0=>r ((),((aN,((str1__0,pos1__0),())),()))) y.2.1.1 y.2.1.2.1.1 y.2.1.2.1.2) k ((),((aN,((str1__0,pos1__0),())),()))
def yIF(n:Nat)(names:List UInt8):Option (List (Q2)×Unit) :=
  (y6L n n ([]) (names) ((0:Int)))
theorem yO8(n:Nat)(x:yLt.den):runF yQ7 (yKA n) Tryz.f103 yLt yQr x=yIF n x.1:=by kernel_rfl
def yHf(str1__0:List UInt8)(pos1__0:Int)(aN:List (Q2)):Option ((List (Q2)×Unit)⊕(List (Q2))) :=
  (bif (yc str1__0 pos1__0).1==72 then (bif decide (aN.length+(1:Nat)≤memMax)then (some (Sum.inr (aN++[(y1e (yc str1__0 pos1__0).1,(1:Int),(2:Int),())])))else none)else (bif (yc str1__0 pos1__0).1==81 then (bif decide (aN.length+(1:Nat)≤memMax)then (some (Sum.inr (aN++[(y1e (yc str1__0 pos1__0).1,(1:Int),(1:Int),())])))else none)else (bif (yc str1__0 pos1__0).1==82 then (bif decide (aN.length+(1:Nat)≤memMax)then (some (Sum.inr (aN++[(y1e (yc str1__0 pos1__0).1,(1:Int),(3:Int),())])))else none)else (bif decide (aN.length+(1:Nat)≤memMax)then (some (Sum.inr (aN++[(y1e (yc str1__0 pos1__0).1,(1:Int),(0:Int),())])))else none))))
def yFg(str1__0:List UInt8)(aN:List (Q2)):Option (List (Q2)×Unit) :=
  (some ((aN,())))
theorem yCc(n:Nat)(hn:big≤n)(str1__0:List UInt8)(aN:List (Q2))(hx:List.length (str1__0) < lenMax):LeF some (y9S (str1__0) (fun i__ s__=>yHf str1__0 i__ s__) (fun s__=>yFg str1__0 s__) (List.length (str1__0)) 0 aN) (y6L n n aN str1__0 0):=by
  refine yCe (f:=some) (W:=fun k__ i__ s__=>y6L n k__ s__ str1__0 i__) (body:=(fun i__ s__=>yHf str1__0 i__ s__)) (fin:=(fun s__=>yFg str1__0 s__)) (fun k__ i__ s__=>?_) aN n (by unfold big at hn;unfold lenMax at hx;omega)
  show LeF _ _ (yCw n (y6L n k__) s__ str1__0 i__)
  exact y5 (y5 (y5 (y7 rfl) yg) (y5 (y5 (y7 rfl) yg) (y5 (y5 (y7 rfl) yg) (y5 (y7 rfl) yg)))) (yp (y7 rfl))
def y4C(names:List UInt8):Option (List (Q2)×Unit) :=
  (bif decide (List.length (names) < lenMax)then y9S (names) (fun i__ s__=>yHf (names) i__ s__) (fun s__=>yFg (names) s__) (List.length (names)) 0 ([])else none)
theorem yLm(names:List UInt8)(y:List (Q2)×Unit)(h:y4C names=some y):∃ n,yIF n names=some y :=
  ⟨big,LeF.top (show LeF some (y4C names) (yIF big names)from (fun (n:Nat) (hn:big≤n)=>show LeF some (y4C names) (yIF n names)from (yN fun hx=>by apply yCc n hn;exact hx)) big (Nat.le_refl _)) h⟩
def z0D_e:Entry:={ f:=103,args:=yLt,ress:=yQr,m:=fun x=>y4C x.1 }
theorem yRT:FnOK Tryz.prog z0D_e:=yM (g:=yQ7) (fn:=Tryz.f103) yD yK eNil (by kernel_rfl) (by kernel_rfl) (by kernel_rfl) (fun x y h=>let ⟨n,hn⟩:=yLm x.1 y h;⟨yKA n,iNil,(yO8 n x).trans hn⟩)
abbrev yLM:Ty:=.pair t175 .unit
abbrev yP3:Ty:=.pair t28 .unit
def yRa:G:={ T:=T,E:=[],muts:=[],fz:=[] }
def yTT:List (List Nat):=[[5,6,7]]
def yK0(n:Nat):Ann:={ keep:=yTT,fuel:=n,inl:=[],deep:=0 }
def yDI(n:Nat)(r0:List Int→Int→Int→Option (Int×Unit))(aM:List Int)(aS:Int)(ay:Int):Option (Int×Unit) :=
  (bif decide (ay < aS)then (Option.bind (idx aM ay) fun v1=>(bif v1 != 0 then some (v1,())else r0 aM aS (IntKind.i64.wrap (ay+1))))else some ((0:Int),()))
def y6C(n:Nat)(k:Nat)(aM:List Int)(aS:Int)(ay:Int):Option (Int×Unit) :=
  iter (fun r y=>yDI n (fun aM aS ay=>r ((aM,(aS,(ay,()))),((),()))) y.1.1 y.1.2.1 y.1.2.2.1) k ((aM,(aS,(ay,()))),((),()))
def yIM(n:Nat)(l:List Int):Option (Int×Unit) :=
  (y6C n n (l) ((↑l.length:Int)) ((0:Int)))
theorem yRx(n:Nat)(x:yLM.den):runF yRa (yK0 n) Tryz.f104 yLM yP3 x=yIM n x.1:=by kernel_rfl
def yCu(aM:List Int)(ay:Int)(v1:Int):Option ((Int×Unit)⊕Unit) :=
  (bif v1 != 0 then (some (Sum.inl ((v1,()))))else (some (Sum.inr ())))
def yCi(aM:List Int):Option (Int×Unit) :=
  (some (((0:Int),())))
theorem yBO(n:Nat)(hn:big≤n)(aM:List Int)(hx:List.length (aM) < lenMax):LeF some (yP (fun i__ e__ s__=>yCu aM i__ e__) (fun s__=>yCi aM) 0 (aM) ()) (y6C n n aM (List.length (aM):Int) 0):=by
  refine yO (f:=some) (W:=fun k__ i__ s__=>y6C n k__ aM (List.length (aM):Int) i__) (body:=(fun i__ e__ s__=>yCu aM i__ e__)) (fin:=(fun s__=>yCi aM)) (fun k__ i__ s__=>?_) hx () n (by unfold big at hn;unfold lenMax at hx;omega)
  show LeF _ _ (yDI n (y6C n k__) aM (List.length (aM):Int) i__)
  exact y5 (y8 fun v1=>(y5 (y7 rfl) (y7 rfl))) (yp (y7 rfl))
def y1k(l:List Int):Option (Int×Unit) :=
  (bif decide (List.length (l) < lenMax)then yP (fun i__ e__ s__=>yCu (l) i__ e__) (fun s__=>yCi (l)) 0 (l) ()else none)
theorem yLK(l:List Int)(y:Int×Unit)(h:y1k l=some y):∃ n,yIM n l=some y :=
  ⟨big,LeF.top (show LeF some (y1k l) (yIM big l)from (fun (n:Nat) (hn:big≤n)=>show LeF some (y1k l) (yIM n l)from (yN fun hx=>by apply yBO n hn;exact hx)) big (Nat.le_refl _)) h⟩
def z0Z_e:Entry:={ f:=104,args:=yLM,ress:=yP3,m:=fun x=>y1k x.1 }
theorem y41:FnOK Tryz.prog z0Z_e:=yM (g:=yRa) (fn:=Tryz.f104) yD yK eNil (by kernel_rfl) (by kernel_rfl) (by kernel_rfl) (fun x y h=>let ⟨n,hn⟩:=yLK x.1 y h;⟨yK0 n,iNil,(yRx n x).trans hn⟩)
abbrev yLZ:Ty:=.pair t3 (.pair t3 .unit)
abbrev yRG:Ty:=.pair t3 .unit
def yQT:G:={ T:=T,E:=[],muts:=[],fz:=[] }
def yTd:List (List Nat):=[]
def yJx(n:Nat):Ann:={ keep:=yTd,fuel:=n,inl:=[],deep:=0 }
def yL9(n:Nat)(a:Int)(b:Int):Option (Int×Unit) :=
  (bif IntKind.i64.wrap ((2:Int) * b)==0 then none else (bif IntKind.i64.wrap ((2:Int) * b)==0 then none else (bif decide ((IntKind.i64.wrap (IntKind.i64.wrap ((2:Int) * a)+b)).tmod (IntKind.i64.wrap ((2:Int) * b)) < 0)then some (IntKind.i64.wrap (IntKind.i64.wrap ((IntKind.i64.wrap (IntKind.i64.wrap ((2:Int) * a)+b)).tdiv (IntKind.i64.wrap ((2:Int) * b))) - (1:Int)),())else some (IntKind.i64.wrap ((IntKind.i64.wrap (IntKind.i64.wrap ((2:Int) * a)+b)).tdiv (IntKind.i64.wrap ((2:Int) * b))),()))))
theorem yQ6(n:Nat)(x:yLZ.den):runF yQT (yJx n) Tryz.f107 yLZ yRG x=yL9 n x.1 x.2.1:=by kernel_rfl
def yIJ(a:Int)(b:Int):Option (Int×Unit):=yL9 0 a b
theorem yMr(a:Int)(b:Int)(y:Int×Unit)(h:yIJ a b=some y):∃ n,yL9 n a b=some y:=⟨0,h⟩
def z08_e:Entry:={ f:=107,args:=yLZ,ress:=yRG,m:=fun x=>yIJ x.1 x.2.1 }
theorem yS1:FnOK Tryz.prog z08_e:=yM (g:=yQT) (fn:=Tryz.f107) yD yK eNil (by kernel_rfl) (by kernel_rfl) (by kernel_rfl) (fun x y h=>let ⟨n,hn⟩:=yMr x.1 x.2.1 y h;⟨yJx n,iNil,(yQ6 n x).trans hn⟩)
abbrev zx_a:Ty:=.pair t3 .unit
abbrev zx_r:Ty:=.pair t3 .unit
def zx_g:G:={ T:=T,E:=[],muts:=[],fz:=[] }
def zx_k:List (List Nat):=[]
def ySc(n:Nat):Ann:={ keep:=zx_k,fuel:=n,inl:=[],deep:=0 }
def zx_m(n:Nat)(n1:Int):Option (Int×Unit) :=
  some (if IntKind.i64.wrap ((0:Int) - n1) > n1 then IntKind.i64.wrap ((0:Int) - n1)else n1,())
theorem yUA(n:Nat)(x:zx_a.den):runF zx_g (ySc n) Tryz.f108 zx_a zx_r x=zx_m n x.1:=by kernel_rfl
def zx(n1:Int):(Int×Unit) :=
  (if IntKind.i64.wrap ((0:Int) - n1) > n1 then IntKind.i64.wrap ((0:Int) - n1)else n1,())
abbrev zx_M (n1:Int):Option (Int×Unit):=some (zx n1)
theorem yQj(n1:Int)(y:Int×Unit)(h:zx_M n1=some y):∃ n,zx_m n n1=some y :=
  ⟨0,by rw[← h];show zx_m 0 n1=some (zx n1);unfold zx_m zx;first|rfl|(simp only[yI];done)|(simp only[yI];rfl)⟩
def zx_e:Entry:={ f:=108,args:=zx_a,ress:=zx_r,m:=fun x=>zx_M x.1 }
theorem yFr:FnOK Tryz.prog zx_e:=yM (g:=zx_g) (fn:=Tryz.f108) yD yK eNil (by kernel_rfl) (by kernel_rfl) (by kernel_rfl) (fun x y h=>let ⟨n,hn⟩:=yQj x.1 y h;⟨ySc n,iNil,(yUA n x).trans hn⟩)
abbrev yKz:Ty:=.pair t4 (.pair t28 .unit)
abbrev yOT:Ty:=.pair t28 .unit
def yO4:G:={ T:=T,E:=[],muts:=[],fz:=[] }
def ySr:List (List Nat):=[]
def yJg(n:Nat):Ann:={ keep:=ySr,fuel:=n,inl:=[],deep:=0 }
def yIw(n:Nat)(holds:Bool)(e:Int):Option (Int×Unit) :=
  (bif holds then some (e,())else some ((0:Int),()))
theorem yR8(n:Nat)(x:yKz.den):runF yO4 (yJg n) Tryz.f113 yKz yOT x=yIw n x.1 x.2.1:=by kernel_rfl
def z0m(holds:Bool)(e:Int):(Int×Unit) :=
  (bif holds then (e,())else ((0:Int),()))
abbrev yQ8 (holds:Bool) (e:Int):Option (Int×Unit):=some (z0m holds e)
theorem yNe(holds:Bool)(e:Int)(y:Int×Unit)(h:yQ8 holds e=some y):∃ n,yIw n holds e=some y :=
  ⟨0,by rw[← h];show yIw 0 holds e=some (z0m holds e);unfold yIw z0m;first|rfl|(simp only[yI];done)|(simp only[yI];rfl)⟩
def z0m_e:Entry:={ f:=113,args:=yKz,ress:=yOT,m:=fun x=>yQ8 x.1 x.2.1 }
theorem y5Y:FnOK Tryz.prog z0m_e:=yM (g:=yO4) (fn:=Tryz.f113) yD yK eNil (by kernel_rfl) (by kernel_rfl) (by kernel_rfl) (fun x y h=>let ⟨n,hn⟩:=yNe x.1 x.2.1 y h;⟨yJg n,iNil,(yR8 n x).trans hn⟩)
abbrev zF_a:Ty:=.pair t23 (.pair t177 .unit)
abbrev zF_r:Ty:=.pair t175 .unit
def zF_g:G:={ T:=T,E:=[],muts:=[5],fz:=[] }
def zF_k:List (List Nat):=[[1,5,8,9,10]]
def yO2(n:Nat):Ann:={ keep:=zF_k,fuel:=n,inl:=[],deep:=0 }
def yFi(n:Nat)(r0:((Q3)×Unit→Option (Int×Unit))→List (Q3)→Int→Int→List Int→Option (List Int×Unit))(a7:(Q3)×Unit→Option (Int×Unit))(a8:List (Q3))(af:Int)(ae:Int)(aa:List Int):Option (List Int×Unit) :=
  (bif decide (ae < af)then (Option.bind (idx a8 ae) fun v1=>(Option.bind (a7 ((v1.1,v1.2.1,()),())) fun v2=>(bif decide (aa.length+(1:Nat)≤memMax)then r0 a7 a8 af (IntKind.i64.wrap (ae+1)) (aa++[v2.1])else none)))else some (aa,()))
def y8h(n:Nat)(k:Nat)(a7:(Q3)×Unit→Option (Int×Unit))(a8:List (Q3))(af:Int)(ae:Int)(aa:List Int):Option (List Int×Unit) :=
  iter (fun r y=>yFi n (fun a7 a8 af ae aa=>r ((a7,(a8,(af,(ae,())))),((aa,()),()))) y.1.1 y.1.2.1 y.1.2.2.1 y.1.2.2.2.1 y.2.1.1) k ((a7,(a8,(af,(ae,())))),((aa,()),()))
def zF_m(n:Nat)(l:List (Q3))(of:(Q3)×Unit→Option (Int×Unit)):Option (List Int×Unit) :=
  (y8h n n (of) (l) ((↑l.length:Int)) ((0:Int)) ([]))
theorem yUG(n:Nat)(x:zF_a.den):runF zF_g (yO2 n) Tryz.f115 zF_a zF_r x=zF_m n x.1 x.2.1:=by kernel_rfl
def yN0(a7:(Q3)×Unit→Option (Int×Unit))(a8:List (Q3))(ae:Int)(v1:Q3)(aa:List Int):Option ((List Int×Unit)⊕(List Int)) :=
  (Option.bind (a7 ((v1.1,v1.2.1,()),())) fun v2=>(bif decide (aa.length+(1:Nat)≤memMax)then (some (Sum.inr (aa++[v2.1])))else none))
def yLu(a7:(Q3)×Unit→Option (Int×Unit))(a8:List (Q3))(aa:List Int):Option (List Int×Unit) :=
  (some ((aa,())))
theorem yEB(n:Nat)(hn:big≤n)(a7:(Q3)×Unit→Option (Int×Unit))(a8:List (Q3))(aa:List Int)(hx:List.length (a8) < lenMax):LeF some (yP (fun i__ e__ s__=>yN0 a7 a8 i__ e__ s__) (fun s__=>yLu a7 a8 s__) 0 (a8) aa) (y8h n n a7 a8 (List.length (a8):Int) 0 aa):=by
  refine yO (f:=some) (W:=fun k__ i__ s__=>y8h n k__ a7 a8 (List.length (a8):Int) i__ s__) (body:=(fun i__ e__ s__=>yN0 a7 a8 i__ e__ s__)) (fin:=(fun s__=>yLu a7 a8 s__)) (fun k__ i__ s__=>?_) hx aa n (by unfold big at hn;unfold lenMax at hx;omega)
  show LeF _ _ (yFi n (y8h n k__) a7 a8 (List.length (a8):Int) i__ s__)
  exact y5 (y8 fun v1=>(y8 fun v2=>(y5 (y7 rfl) yg))) (yp (y7 rfl))
def zF_M(l:List (Q3))(of:(Q3)×Unit→Option (Int×Unit)):Option (List Int×Unit) :=
  (bif decide (List.length (l) < lenMax)then yP (fun i__ e__ s__=>yN0 (of) (l) i__ e__ s__) (fun s__=>yLu (of) (l) s__) 0 (l) ([])else none)
theorem yPa(l:List (Q3))(of:(Q3)×Unit→Option (Int×Unit))(y:List Int×Unit)(h:zF_M l of=some y):∃ n,zF_m n l of=some y :=
  ⟨big,LeF.top (show LeF some (zF_M l of) (zF_m big l of)from (fun (n:Nat) (hn:big≤n)=>show LeF some (zF_M l of) (zF_m n l of)from (yN fun hx=>by apply yEB n hn;exact hx)) big (Nat.le_refl _)) h⟩
def zF_e:Entry:={ f:=115,args:=zF_a,ress:=zF_r,m:=fun x=>zF_M x.1 x.2.1 }
theorem yP2:FnOK Tryz.prog zF_e:=yM (g:=zF_g) (fn:=Tryz.f115) yD yK eNil (by kernel_rfl) (by kernel_rfl) (by kernel_rfl) (fun x y h=>let ⟨n,hn⟩:=yPa x.1 x.2.1 y h;⟨yO2 n,iNil,(yUG n x).trans hn⟩)
abbrev yM0:Ty:=.pair t57 (.pair t57 .unit)
abbrev yPy:Ty:=.pair t57 .unit
def yRb:G:={ T:=T,E:=[],muts:=[],fz:=[] }
def yT9:List (List Nat):=[]
def yKK(n:Nat):Ann:={ keep:=yT9,fuel:=n,inl:=[],deep:=0 }
def yIq(n:Nat)(a:Q3)(b:Q3):Option ((Q3)×Unit) :=
  some ((IntKind.i64.wrap (IntKind.i64.wrap (a.1 * b.1) - IntKind.i64.wrap (a.2.1 * b.2.1)),IntKind.i64.wrap (IntKind.i64.wrap (a.1 * b.2.1)+IntKind.i64.wrap (a.2.1 * b.1)),()),())
theorem yS8(n:Nat)(x:yM0.den):runF yRb (yKK n) Tryz.f125 yM0 yPy x=yIq n x.1 x.2.1:=by kernel_rfl
def z0f(a:Q3)(b:Q3):((Q3)×Unit) :=
  ((IntKind.i64.wrap (IntKind.i64.wrap (a.1 * b.1) - IntKind.i64.wrap (a.2.1 * b.2.1)),IntKind.i64.wrap (IntKind.i64.wrap (a.1 * b.2.1)+IntKind.i64.wrap (a.2.1 * b.1)),()),())
abbrev yOG (a:Q3) (b:Q3):Option ((Q3)×Unit):=some (z0f a b)
theorem yMJ(a:Q3)(b:Q3)(y:(Q3)×Unit)(h:yOG a b=some y):∃ n,yIq n a b=some y :=
  ⟨0,by rw[← h];show yIq 0 a b=some (z0f a b);unfold yIq z0f;first|rfl|(simp only[yI];done)|(simp only[yI];rfl)⟩
def z0f_e:Entry:={ f:=125,args:=yM0,ress:=yPy,m:=fun x=>yOG x.1 x.2.1 }
theorem yCk:FnOK Tryz.prog z0f_e:=yM (g:=yRb) (fn:=Tryz.f125) yD yK eNil (by kernel_rfl) (by kernel_rfl) (by kernel_rfl) (fun x y h=>let ⟨n,hn⟩:=yMJ x.1 x.2.1 y h;⟨yKK n,iNil,(yS8 n x).trans hn⟩)
abbrev zq_a:Ty:=.pair t57 .unit
abbrev zq_r:Ty:=.pair t57 .unit
def zq_g:G:={ T:=T,E:=[],muts:=[],fz:=[] }
def zq_k:List (List Nat):=[]
def yST(n:Nat):Ann:={ keep:=zq_k,fuel:=n,inl:=[],deep:=0 }
def zq_m(n:Nat)(a:Q3):Option ((Q3)×Unit) :=
  some ((a.1,IntKind.i64.wrap ((0:Int) - a.2.1),()),())
theorem yTC(n:Nat)(x:zq_a.den):runF zq_g (yST n) Tryz.f126 zq_a zq_r x=zq_m n x.1:=by kernel_rfl
def zq(a:Q3):((Q3)×Unit) :=
  ((a.1,IntKind.i64.wrap ((0:Int) - a.2.1),()),())
abbrev zq_M (a:Q3):Option ((Q3)×Unit):=some (zq a)
theorem yQ4(a:Q3)(y:(Q3)×Unit)(h:zq_M a=some y):∃ n,zq_m n a=some y :=
  ⟨0,by rw[← h];show zq_m 0 a=some (zq a);unfold zq_m zq;first|rfl|(simp only[yI];done)|(simp only[yI];rfl)⟩
def zq_e:Entry:={ f:=126,args:=zq_a,ress:=zq_r,m:=fun x=>zq_M x.1 }
theorem yKm:FnOK Tryz.prog zq_e:=yM (g:=zq_g) (fn:=Tryz.f126) yD yK eNil (by kernel_rfl) (by kernel_rfl) (by kernel_rfl) (fun x y h=>let ⟨n,hn⟩:=yQ4 x.1 y h;⟨yST n,iNil,(yTC n x).trans hn⟩)
abbrev z7_a:Ty:=.pair t31 (.pair t192 .unit)
abbrev z7_r:Ty:=.pair t31 .unit
def z7_g:G:={ T:=T,E:=[],muts:=[5],fz:=[] }
def z7_k:List (List Nat):=[[1,5,8,9,10]]
def yPi(n:Nat):Ann:={ keep:=z7_k,fuel:=n,inl:=[],deep:=0 }
def yHa(n:Nat)(r0:((Q2)×Unit→Option ((Q2)×Unit))→List (Q2)→Int→Int→List (Q2)→Option (List (Q2)×Unit))(a7:(Q2)×Unit→Option ((Q2)×Unit))(a8:List (Q2))(af:Int)(ae:Int)(aa:List (Q2)):Option (List (Q2)×Unit) :=
  (bif decide (ae < af)then (Option.bind (idx a8 ae) fun v1=>(Option.bind (a7 ((v1.1,v1.2.1,v1.2.2.1,()),())) fun v2=>(bif decide (aa.length+(1:Nat)≤memMax)then r0 a7 a8 af (IntKind.i64.wrap (ae+1)) (aa++[v2.1])else none)))else some (aa,()))
def y96(n:Nat)(k:Nat)(a7:(Q2)×Unit→Option ((Q2)×Unit))(a8:List (Q2))(af:Int)(ae:Int)(aa:List (Q2)):Option (List (Q2)×Unit) :=
  iter (fun r y=>yHa n (fun a7 a8 af ae aa=>r ((a7,(a8,(af,(ae,())))),((aa,()),()))) y.1.1 y.1.2.1 y.1.2.2.1 y.1.2.2.2.1 y.2.1.1) k ((a7,(a8,(af,(ae,())))),((aa,()),()))
def z7_m(n:Nat)(l:List (Q2))(of:(Q2)×Unit→Option ((Q2)×Unit)):Option (List (Q2)×Unit) :=
  (y96 n n (of) (l) ((↑l.length:Int)) ((0:Int)) ([]))
theorem yUa(n:Nat)(x:z7_a.den):runF z7_g (yPi n) Tryz.f130 z7_a z7_r x=z7_m n x.1 x.2.1:=by kernel_rfl
def yLf(a7:(Q2)×Unit→Option ((Q2)×Unit))(a8:List (Q2))(ae:Int)(v1:Q2)(aa:List (Q2)):Option ((List (Q2)×Unit)⊕(List (Q2))) :=
  (Option.bind (a7 ((v1.1,v1.2.1,v1.2.2.1,()),())) fun v2=>(bif decide (aa.length+(1:Nat)≤memMax)then (some (Sum.inr (aa++[v2.1])))else none))
def yL2(a7:(Q2)×Unit→Option ((Q2)×Unit))(a8:List (Q2))(aa:List (Q2)):Option (List (Q2)×Unit) :=
  (some ((aa,())))
theorem yEy(n:Nat)(hn:big≤n)(a7:(Q2)×Unit→Option ((Q2)×Unit))(a8:List (Q2))(aa:List (Q2))(hx:List.length (a8) < lenMax):LeF some (yP (fun i__ e__ s__=>yLf a7 a8 i__ e__ s__) (fun s__=>yL2 a7 a8 s__) 0 (a8) aa) (y96 n n a7 a8 (List.length (a8):Int) 0 aa):=by
  refine yO (f:=some) (W:=fun k__ i__ s__=>y96 n k__ a7 a8 (List.length (a8):Int) i__ s__) (body:=(fun i__ e__ s__=>yLf a7 a8 i__ e__ s__)) (fin:=(fun s__=>yL2 a7 a8 s__)) (fun k__ i__ s__=>?_) hx aa n (by unfold big at hn;unfold lenMax at hx;omega)
  show LeF _ _ (yHa n (y96 n k__) a7 a8 (List.length (a8):Int) i__ s__)
  exact y5 (y8 fun v1=>(y8 fun v2=>(y5 (y7 rfl) yg))) (yp (y7 rfl))
def z7_M(l:List (Q2))(of:(Q2)×Unit→Option ((Q2)×Unit)):Option (List (Q2)×Unit) :=
  (bif decide (List.length (l) < lenMax)then yP (fun i__ e__ s__=>yLf (of) (l) i__ e__ s__) (fun s__=>yL2 (of) (l) s__) 0 (l) ([])else none)
theorem ySh(l:List (Q2))(of:(Q2)×Unit→Option ((Q2)×Unit))(y:List (Q2)×Unit)(h:z7_M l of=some y):∃ n,z7_m n l of=some y :=
  ⟨big,LeF.top (show LeF some (z7_M l of) (z7_m big l of)from (fun (n:Nat) (hn:big≤n)=>show LeF some (z7_M l of) (z7_m n l of)from (yN fun hx=>by apply yEy n hn;exact hx)) big (Nat.le_refl _)) h⟩
def z7_e:Entry:={ f:=130,args:=z7_a,ress:=z7_r,m:=fun x=>z7_M x.1 x.2.1 }
theorem yTH:FnOK Tryz.prog z7_e:=yM (g:=z7_g) (fn:=Tryz.f130) yD yK eNil (by kernel_rfl) (by kernel_rfl) (by kernel_rfl) (fun x y h=>let ⟨n,hn⟩:=ySh x.1 x.2.1 y h;⟨yPi n,iNil,(yUa n x).trans hn⟩)
abbrev zG_a:Ty:=.pair t23 (.pair t129 .unit)
abbrev zG_r:Ty:=.pair t23 .unit
def zG_g:G:={ T:=T,E:=[],muts:=[5],fz:=[] }
def zG_k:List (List Nat):=[[1,5,8,9,10]]
def yOl(n:Nat):Ann:={ keep:=zG_k,fuel:=n,inl:=[],deep:=0 }
def yGj(n:Nat)(r0:((Q3)×Unit→Option ((Q3)×Unit))→List (Q3)→Int→Int→List (Q3)→Option (List (Q3)×Unit))(a7:(Q3)×Unit→Option ((Q3)×Unit))(a8:List (Q3))(af:Int)(ae:Int)(aa:List (Q3)):Option (List (Q3)×Unit) :=
  (bif decide (ae < af)then (Option.bind (idx a8 ae) fun v1=>(Option.bind (a7 ((v1.1,v1.2.1,()),())) fun v2=>(bif decide (aa.length+(1:Nat)≤memMax)then r0 a7 a8 af (IntKind.i64.wrap (ae+1)) (aa++[v2.1])else none)))else some (aa,()))
def y8e(n:Nat)(k:Nat)(a7:(Q3)×Unit→Option ((Q3)×Unit))(a8:List (Q3))(af:Int)(ae:Int)(aa:List (Q3)):Option (List (Q3)×Unit) :=
  iter (fun r y=>yGj n (fun a7 a8 af ae aa=>r ((a7,(a8,(af,(ae,())))),((aa,()),()))) y.1.1 y.1.2.1 y.1.2.2.1 y.1.2.2.2.1 y.2.1.1) k ((a7,(a8,(af,(ae,())))),((aa,()),()))
def zG_m(n:Nat)(l:List (Q3))(of:(Q3)×Unit→Option ((Q3)×Unit)):Option (List (Q3)×Unit) :=
  (y8e n n (of) (l) ((↑l.length:Int)) ((0:Int)) ([]))
theorem yU7(n:Nat)(x:zG_a.den):runF zG_g (yOl n) Tryz.f132 zG_a zG_r x=zG_m n x.1 x.2.1:=by kernel_rfl
def yNh(a7:(Q3)×Unit→Option ((Q3)×Unit))(a8:List (Q3))(ae:Int)(v1:Q3)(aa:List (Q3)):Option ((List (Q3)×Unit)⊕(List (Q3))) :=
  (Option.bind (a7 ((v1.1,v1.2.1,()),())) fun v2=>(bif decide (aa.length+(1:Nat)≤memMax)then (some (Sum.inr (aa++[v2.1])))else none))
def yN6(a7:(Q3)×Unit→Option ((Q3)×Unit))(a8:List (Q3))(aa:List (Q3)):Option (List (Q3)×Unit) :=
  (some ((aa,())))
theorem yEo(n:Nat)(hn:big≤n)(a7:(Q3)×Unit→Option ((Q3)×Unit))(a8:List (Q3))(aa:List (Q3))(hx:List.length (a8) < lenMax):LeF some (yP (fun i__ e__ s__=>yNh a7 a8 i__ e__ s__) (fun s__=>yN6 a7 a8 s__) 0 (a8) aa) (y8e n n a7 a8 (List.length (a8):Int) 0 aa):=by
  refine yO (f:=some) (W:=fun k__ i__ s__=>y8e n k__ a7 a8 (List.length (a8):Int) i__ s__) (body:=(fun i__ e__ s__=>yNh a7 a8 i__ e__ s__)) (fin:=(fun s__=>yN6 a7 a8 s__)) (fun k__ i__ s__=>?_) hx aa n (by unfold big at hn;unfold lenMax at hx;omega)
  show LeF _ _ (yGj n (y8e n k__) a7 a8 (List.length (a8):Int) i__ s__)
  exact y5 (y8 fun v1=>(y8 fun v2=>(y5 (y7 rfl) yg))) (yp (y7 rfl))
def zG_M(l:List (Q3))(of:(Q3)×Unit→Option ((Q3)×Unit)):Option (List (Q3)×Unit) :=
  (bif decide (List.length (l) < lenMax)then yP (fun i__ e__ s__=>yNh (of) (l) i__ e__ s__) (fun s__=>yN6 (of) (l) s__) 0 (l) ([])else none)
theorem yRl(l:List (Q3))(of:(Q3)×Unit→Option ((Q3)×Unit))(y:List (Q3)×Unit)(h:zG_M l of=some y):∃ n,zG_m n l of=some y :=
  ⟨big,LeF.top (show LeF some (zG_M l of) (zG_m big l of)from (fun (n:Nat) (hn:big≤n)=>show LeF some (zG_M l of) (zG_m n l of)from (yN fun hx=>by apply yEo n hn;exact hx)) big (Nat.le_refl _)) h⟩
def zG_e:Entry:={ f:=132,args:=zG_a,ress:=zG_r,m:=fun x=>zG_M x.1 x.2.1 }
theorem yU4:FnOK Tryz.prog zG_e:=yM (g:=zG_g) (fn:=Tryz.f132) yD yK eNil (by kernel_rfl) (by kernel_rfl) (by kernel_rfl) (fun x y h=>let ⟨n,hn⟩:=yRl x.1 x.2.1 y h;⟨yOl n,iNil,(yU7 n x).trans hn⟩)
abbrev yM6:Ty:=.pair t57 (.pair t3 .unit)
abbrev yQJ:Ty:=.pair t57 .unit
def ySG:G:={ T:=T,E:=[],muts:=[],fz:=[] }
def ySq:List (List Nat):=[]
def yK9(n:Nat):Ann:={ keep:=ySq,fuel:=n,inl:=[],deep:=0 }
def yIK(n:Nat)(a:Q3)(n1:Int):Option ((Q3)×Unit) :=
  some ((IntKind.i64.wrap (n1 * a.1),IntKind.i64.wrap (n1 * a.2.1),()),())
theorem yP9(n:Nat)(x:yM6.den):runF ySG (yK9 n) Tryz.f134 yM6 yQJ x=yIK n x.1 x.2.1:=by kernel_rfl
def z0L(a:Q3)(n1:Int):((Q3)×Unit) :=
  ((IntKind.i64.wrap (n1 * a.1),IntKind.i64.wrap (n1 * a.2.1),()),())
abbrev yQE (a:Q3) (n1:Int):Option ((Q3)×Unit):=some (z0L a n1)
theorem yMc(a:Q3)(n1:Int)(y:(Q3)×Unit)(h:yQE a n1=some y):∃ n,yIK n a n1=some y :=
  ⟨0,by rw[← h];show yIK 0 a n1=some (z0L a n1);unfold yIK z0L;first|rfl|(simp only[yI];done)|(simp only[yI];rfl)⟩
def z0L_e:Entry:={ f:=134,args:=yM6,ress:=yQJ,m:=fun x=>yQE x.1 x.2.1 }
theorem yH0:FnOK Tryz.prog z0L_e:=yM (g:=ySG) (fn:=Tryz.f134) yD yK eNil (by kernel_rfl) (by kernel_rfl) (by kernel_rfl) (fun x y h=>let ⟨n,hn⟩:=yMc x.1 x.2.1 y h;⟨yK9 n,iNil,(yP9 n x).trans hn⟩)
abbrev yLi:Ty:=.pair t57 (.pair t57 .unit)
abbrev yQS:Ty:=.pair t57 .unit
def yS3:G:={ T:=T,E:=[],muts:=[],fz:=[] }
def yUI:List (List Nat):=[]
def yKG(n:Nat):Ann:={ keep:=yUI,fuel:=n,inl:=[],deep:=0 }
def yIo(n:Nat)(a:Q3)(b:Q3):Option ((Q3)×Unit) :=
  some ((IntKind.i64.wrap (a.1+b.1),IntKind.i64.wrap (a.2.1+b.2.1),()),())
theorem yQe(n:Nat)(x:yLi.den):runF yS3 (yKG n) Tryz.f135 yLi yQS x=yIo n x.1 x.2.1:=by kernel_rfl
def z0l(a:Q3)(b:Q3):((Q3)×Unit) :=
  ((IntKind.i64.wrap (a.1+b.1),IntKind.i64.wrap (a.2.1+b.2.1),()),())
abbrev yOp (a:Q3) (b:Q3):Option ((Q3)×Unit):=some (z0l a b)
theorem yKf(a:Q3)(b:Q3)(y:(Q3)×Unit)(h:yOp a b=some y):∃ n,yIo n a b=some y :=
  ⟨0,by rw[← h];show yIo 0 a b=some (z0l a b);unfold yIo z0l;first|rfl|(simp only[yI];done)|(simp only[yI];rfl)⟩
def z0l_e:Entry:={ f:=135,args:=yLi,ress:=yQS,m:=fun x=>yOp x.1 x.2.1 }
theorem yCg:FnOK Tryz.prog z0l_e:=yM (g:=yS3) (fn:=Tryz.f135) yD yK eNil (by kernel_rfl) (by kernel_rfl) (by kernel_rfl) (fun x y h=>let ⟨n,hn⟩:=yKf x.1 x.2.1 y h;⟨yKG n,iNil,(yQe n x).trans hn⟩)
abbrev zH_a:Ty:=.pair t23 (.pair t196 .unit)
abbrev zH_r:Ty:=.pair t79 .unit
def zH_g:G:={ T:=T,E:=[],muts:=[5],fz:=[] }
def zH_k:List (List Nat):=[[1,5,8,9,10]]
def yRM(n:Nat):Ann:={ keep:=zH_k,fuel:=n,inl:=[],deep:=0 }
def yG1(n:Nat)(r0:((Q3)×Unit→Option ((Nat×Nat)×Unit))→List (Q3)→Int→Int→List (Nat×Nat)→Option (List (Nat×Nat)×Unit))(a7:(Q3)×Unit→Option ((Nat×Nat)×Unit))(a8:List (Q3))(af:Int)(ae:Int)(aa:List (Nat×Nat)):Option (List (Nat×Nat)×Unit) :=
  (bif decide (ae < af)then (Option.bind (idx a8 ae) fun v1=>(Option.bind (a7 ((v1.1,v1.2.1,()),())) fun v2=>(bif decide (aa.length+(1:Nat)≤memMax)then r0 a7 a8 af (IntKind.i64.wrap (ae+1)) (aa++[v2.1])else none)))else some (aa,()))
def y9L(n:Nat)(k:Nat)(a7:(Q3)×Unit→Option ((Nat×Nat)×Unit))(a8:List (Q3))(af:Int)(ae:Int)(aa:List (Nat×Nat)):Option (List (Nat×Nat)×Unit) :=
  iter (fun r y=>yG1 n (fun a7 a8 af ae aa=>r ((a7,(a8,(af,(ae,())))),((aa,()),()))) y.1.1 y.1.2.1 y.1.2.2.1 y.1.2.2.2.1 y.2.1.1) k ((a7,(a8,(af,(ae,())))),((aa,()),()))
def zH_m(n:Nat)(l:List (Q3))(of:(Q3)×Unit→Option ((Nat×Nat)×Unit)):Option (List (Nat×Nat)×Unit) :=
  (y9L n n (of) (l) ((↑l.length:Int)) ((0:Int)) ([]))
theorem ySk(n:Nat)(x:zH_a.den):runF zH_g (yRM n) Tryz.f139 zH_a zH_r x=zH_m n x.1 x.2.1:=by kernel_rfl
def yNB(a7:(Q3)×Unit→Option ((Nat×Nat)×Unit))(a8:List (Q3))(ae:Int)(v1:Q3)(aa:List (Nat×Nat)):Option ((List (Nat×Nat)×Unit)⊕(List (Nat×Nat))) :=
  (Option.bind (a7 ((v1.1,v1.2.1,()),())) fun v2=>(bif decide (aa.length+(1:Nat)≤memMax)then (some (Sum.inr (aa++[v2.1])))else none))
def yLx(a7:(Q3)×Unit→Option ((Nat×Nat)×Unit))(a8:List (Q3))(aa:List (Nat×Nat)):Option (List (Nat×Nat)×Unit) :=
  (some ((aa,())))
theorem yE5(n:Nat)(hn:big≤n)(a7:(Q3)×Unit→Option ((Nat×Nat)×Unit))(a8:List (Q3))(aa:List (Nat×Nat))(hx:List.length (a8) < lenMax):LeF some (yP (fun i__ e__ s__=>yNB a7 a8 i__ e__ s__) (fun s__=>yLx a7 a8 s__) 0 (a8) aa) (y9L n n a7 a8 (List.length (a8):Int) 0 aa):=by
  refine yO (f:=some) (W:=fun k__ i__ s__=>y9L n k__ a7 a8 (List.length (a8):Int) i__ s__) (body:=(fun i__ e__ s__=>yNB a7 a8 i__ e__ s__)) (fin:=(fun s__=>yLx a7 a8 s__)) (fun k__ i__ s__=>?_) hx aa n (by unfold big at hn;unfold lenMax at hx;omega)
  show LeF _ _ (yG1 n (y9L n k__) a7 a8 (List.length (a8):Int) i__ s__)
  exact y5 (y8 fun v1=>(y8 fun v2=>(y5 (y7 rfl) yg))) (yp (y7 rfl))
def zH_M(l:List (Q3))(of:(Q3)×Unit→Option ((Nat×Nat)×Unit)):Option (List (Nat×Nat)×Unit) :=
  (bif decide (List.length (l) < lenMax)then yP (fun i__ e__ s__=>yNB (of) (l) i__ e__ s__) (fun s__=>yLx (of) (l) s__) 0 (l) ([])else none)
theorem yRZ(l:List (Q3))(of:(Q3)×Unit→Option ((Nat×Nat)×Unit))(y:List (Nat×Nat)×Unit)(h:zH_M l of=some y):∃ n,zH_m n l of=some y :=
  ⟨big,LeF.top (show LeF some (zH_M l of) (zH_m big l of)from (fun (n:Nat) (hn:big≤n)=>show LeF some (zH_M l of) (zH_m n l of)from (yN fun hx=>by apply yE5 n hn;exact hx)) big (Nat.le_refl _)) h⟩
def zH_e:Entry:={ f:=139,args:=zH_a,ress:=zH_r,m:=fun x=>zH_M x.1 x.2.1 }
theorem yUQ:FnOK Tryz.prog zH_e:=yM (g:=zH_g) (fn:=Tryz.f139) yD yK eNil (by kernel_rfl) (by kernel_rfl) (by kernel_rfl) (fun x y h=>let ⟨n,hn⟩:=yRZ x.1 x.2.1 y h;⟨yRM n,iNil,(ySk n x).trans hn⟩)
abbrev yMk:Ty:=.pair t57 (.pair (.ref t165) .unit)
abbrev yRn:Ty:=.pair t165 .unit
def yQq:G:={ T:=T,E:=[],muts:=[],fz:=[] }
def ySt:List (List Nat):=[]
def yKH(n:Nat):Ann:={ keep:=ySt,fuel:=n,inl:=[],deep:=0 }
def yID(n:Nat)(z:Q3)(p1:Nat×Nat):Option ((Nat×Nat)×Unit) :=
  some ((yd Go.BinOp.quo Go.FloatKind.f32 (y0h Go.FloatKind.f32 z.1) p1.1,yd Go.BinOp.quo Go.FloatKind.f32 (y0h Go.FloatKind.f32 z.2.1) p1.1),())
theorem yRQ(n:Nat)(x:yMk.den):runF yQq (yKH n) Tryz.f140 yMk yRn x=yID n x.1 x.2.1:=by kernel_rfl
def z0I(z:Q3)(p1:Nat×Nat):((Nat×Nat)×Unit) :=
  ((yd Go.BinOp.quo Go.FloatKind.f32 (y0h Go.FloatKind.f32 z.1) p1.1,yd Go.BinOp.quo Go.FloatKind.f32 (y0h Go.FloatKind.f32 z.2.1) p1.1),())
abbrev yL5 (z:Q3) (p1:Nat×Nat):Option ((Nat×Nat)×Unit):=some (z0I z p1)
theorem yM2(z:Q3)(p1:Nat×Nat)(y:(Nat×Nat)×Unit)(h:yL5 z p1=some y):∃ n,yID n z p1=some y :=
  ⟨0,by rw[← h];show yID 0 z p1=some (z0I z p1);unfold yID z0I;first|rfl|(simp only[yI];done)|(simp only[yI];rfl)⟩
def z0I_e:Entry:={ f:=140,args:=yMk,ress:=yRn,m:=fun x=>yL5 x.1 x.2.1 }
theorem yRs:FnOK Tryz.prog z0I_e:=yM (g:=yQq) (fn:=Tryz.f140) yD yK eNil (by kernel_rfl) (by kernel_rfl) (by kernel_rfl) (fun x y h=>let ⟨n,hn⟩:=yM2 x.1 x.2.1 y h;⟨yKH n,iNil,(yRQ n x).trans hn⟩)
def il124:Inl:={ f:=124,fn:=Tryz.f124,keep:=[],muts:=[],fz:=[] }
theorem y4U:y5t Tryz.prog il124:=⟨by kernel_rfl,by kernel_rfl,fun e0 h=>by cases (show (none:Option LibK)=some e0 from h)⟩
def il195:Inl:={ f:=195,fn:=Tryz.f195,keep:=[[0,1,3,9,10,11],[0,1,3,4,5,9,10,11]],muts:=[],fz:=[] }
theorem y4n:y5t Tryz.prog il195:=⟨by kernel_rfl,by kernel_rfl,fun e0 h=>by cases (show (none:Option LibK)=some e0 from h)⟩
abbrev yMx:Ty:=.pair t60 .unit
abbrev yPh:Ty:=.pair t41 .unit
def yQw:G:={ T:=T,E:=[],muts:=[3],fz:=[] }
def yT1:List (List Nat):=[]
def yJZ(n:Nat):Ann:={ keep:=yT1,fuel:=n,inl:=[il124,il195],deep:=3 }
def y7L(n:Nat)(r0:List UInt8×Int×List Nat×List (Q3)×Unit→List (Q3)→List Nat→Int→Int→List UInt8×Int×List Nat×List (Q3)×Unit→List UInt8×Int×List Nat×List (Q3)×Unit→List UInt8×Int×List Nat×List (Q3)×Unit→List UInt8×Int×List Nat×List (Q3)×Unit→List Int→List UInt8×Int×List Nat×List (Q3)×Unit→List UInt8×Int×List Nat×List (Q3)×Unit→List UInt8×Int×List Nat×List (Q3)×Unit→List UInt8×Int×List Nat×List (Q3)×Unit→Option (List Int×Unit))(j8:List UInt8×Int×List Nat×List (Q3)×Unit)(j9:List (Q3))(j10:Int)(j11:Nat)(j12:List Nat)(j13:Int)(j14:Int)(j15:List UInt8×Int×List Nat×List (Q3)×Unit)(j16:List UInt8×Int×List Nat×List (Q3)×Unit)(j17:List UInt8×Int×List Nat×List (Q3)×Unit)(j18:List UInt8×Int×List Nat×List (Q3)×Unit)(j19:List Int)(j20:List UInt8×Int×List Nat×List (Q3)×Unit)(j21:List UInt8×Int×List Nat×List (Q3)×Unit)(j22:List UInt8×Int×List Nat×List (Q3)×Unit)(j23:List UInt8×Int×List Nat×List (Q3)×Unit):Option (List Int×Unit) :=
  (bif decide ((↑j9.length:Int) > 0)then (Option.bind (idx j9 (0:Int)) fun v24=>(bif decide (v24.1≤j10)then r0 j8 j9 j12 j13 (IntKind.i64.wrap (j14+1)) j15 j16 j17 j18 j19 j20 j21 j22 j23 else (Option.bind (yl Go.FloatKind.f32 (yd Go.BinOp.mul Go.FloatKind.f32 j11 (nat_lit 1098907648)) IntKind.i64) fun v29=>(bif decide (j19.length+(1:Nat)≤memMax)then r0 j8 j9 j12 j13 (IntKind.i64.wrap (j14+1)) j15 j16 j17 j18 (j19++[IntKind.i64.wrap (j8.2.1+j10)]) j20 j21 j22 j23 else none))))else (Option.bind (yl Go.FloatKind.f32 (yd Go.BinOp.mul Go.FloatKind.f32 j11 (nat_lit 1098907648)) IntKind.i64) fun v30=>(bif decide (j19.length+(1:Nat)≤memMax)then r0 j8 j9 j12 j13 (IntKind.i64.wrap (j14+1)) j15 j16 j17 j18 (j19++[IntKind.i64.wrap (j8.2.1+j10)]) j20 j21 j22 j23 else none)))
def yCs(n:Nat)(r0:List UInt8×Int×List Nat×List (Q3)×Unit→List (Q3)→List Nat→Int→Int→List UInt8×Int×List Nat×List (Q3)×Unit→List UInt8×Int×List Nat×List (Q3)×Unit→List UInt8×Int×List Nat×List (Q3)×Unit→List UInt8×Int×List Nat×List (Q3)×Unit→List Int→List UInt8×Int×List Nat×List (Q3)×Unit→List UInt8×Int×List Nat×List (Q3)×Unit→List UInt8×Int×List Nat×List (Q3)×Unit→List UInt8×Int×List Nat×List (Q3)×Unit→Option (List Int×Unit))(r2:List UInt8×Int×List Nat×List (Q3)×Unit→List (Q3)→Int→Nat→List Nat→Int→Int→List UInt8×Int×List Nat×List (Q3)×Unit→List UInt8×Int×List Nat×List (Q3)×Unit→List UInt8×Int×List Nat×List (Q3)×Unit→List UInt8×Int×List Nat×List (Q3)×Unit→List Int→List UInt8×Int×List Nat×List (Q3)×Unit→List UInt8×Int×List Nat×List (Q3)×Unit→List UInt8×Int×List Nat×List (Q3)×Unit→List UInt8×Int×List Nat×List (Q3)×Unit→Option (List Int×Unit))(aA:List UInt8×Int×List Nat×List (Q3)×Unit)(ac:List (Q3))(aB:Int)(aF:Nat)(av:List Nat)(aq:Int)(ar:Int)(p0_0_2:List UInt8×Int×List Nat×List (Q3)×Unit)(p0_1_2:List UInt8×Int×List Nat×List (Q3)×Unit)(p0_5_2:List UInt8×Int×List Nat×List (Q3)×Unit)(p0_6_2_0:List UInt8×Int×List Nat×List (Q3)×Unit)(bi:List Int)(aC:List UInt8×Int×List Nat×List (Q3)×Unit)(aD:List UInt8×Int×List Nat×List (Q3)×Unit)(aQ:List UInt8×Int×List Nat×List (Q3)×Unit)(k6_2_0:List UInt8×Int×List Nat×List (Q3)×Unit):Option (List Int×Unit) :=
  (bif decide ((↑ac.length:Int) > 0)then (Option.bind (idx ac (0:Int)) fun v3=>(bif decide (v3.2.1≤aB)then (bif decide ((0:Int)≤1) && decide ((1:Int)≤(↑ac.length:Int))then r2 aA (List.drop (Int.toNat (1:Int)) ac) aB aF av aq ar p0_0_2 p0_1_2 p0_5_2 p0_6_2_0 bi aC aD aQ k6_2_0 else none)else (y7L n r0 (aA) (ac) (aB) (aF) (av) (aq) (ar) (p0_0_2) (p0_1_2) (p0_5_2) (p0_6_2_0) (bi) (aC) (aD) (aQ) (k6_2_0))))else (y7L n r0 (aA) (ac) (aB) (aF) (av) (aq) (ar) (p0_0_2) (p0_1_2) (p0_5_2) (p0_6_2_0) (bi) (aC) (aD) (aQ) (k6_2_0)))
def y5y(n:Nat)(r0:List UInt8×Int×List Nat×List (Q3)×Unit→List (Q3)→List Nat→Int→Int→List UInt8×Int×List Nat×List (Q3)×Unit→List UInt8×Int×List Nat×List (Q3)×Unit→List UInt8×Int×List Nat×List (Q3)×Unit→List UInt8×Int×List Nat×List (Q3)×Unit→List Int→List UInt8×Int×List Nat×List (Q3)×Unit→List UInt8×Int×List Nat×List (Q3)×Unit→List UInt8×Int×List Nat×List (Q3)×Unit→List UInt8×Int×List Nat×List (Q3)×Unit→Option (List Int×Unit))(k:Nat)(aA:List UInt8×Int×List Nat×List (Q3)×Unit)(ac:List (Q3))(aB:Int)(aF:Nat)(av:List Nat)(aq:Int)(ar:Int)(p0_0_2:List UInt8×Int×List Nat×List (Q3)×Unit)(p0_1_2:List UInt8×Int×List Nat×List (Q3)×Unit)(p0_5_2:List UInt8×Int×List Nat×List (Q3)×Unit)(p0_6_2_0:List UInt8×Int×List Nat×List (Q3)×Unit)(bi:List Int)(aC:List UInt8×Int×List Nat×List (Q3)×Unit)(aD:List UInt8×Int×List Nat×List (Q3)×Unit)(aQ:List UInt8×Int×List Nat×List (Q3)×Unit)(k6_2_0:List UInt8×Int×List Nat×List (Q3)×Unit):Option (List Int×Unit) :=
  iter (fun r y=>yCs n r0 (fun aA ac aB aF av aq ar p0_0_2 p0_1_2 p0_5_2 p0_6_2_0 bi aC aD aQ k6_2_0=>r ((aA,(ac,(aB,(aF,(av,(aq,(ar,()))))))),(((p0_0_2,(p0_1_2,(p0_5_2,((p0_6_2_0,()),())))),((),(bi,()))),(aC,(aD,(aQ,((k6_2_0,()),()))))))) y.1.1 y.1.2.1 y.1.2.2.1 y.1.2.2.2.1 y.1.2.2.2.2.1 y.1.2.2.2.2.2.1 y.1.2.2.2.2.2.2.1 y.2.1.1.1 y.2.1.1.2.1 y.2.1.1.2.2.1 y.2.1.1.2.2.2.1.1 y.2.1.2.2.1 y.2.2.1 y.2.2.2.1 y.2.2.2.2.1 y.2.2.2.2.2.1.1) k ((aA,(ac,(aB,(aF,(av,(aq,(ar,()))))))),(((p0_0_2,(p0_1_2,(p0_5_2,((p0_6_2_0,()),())))),((),(bi,()))),(aC,(aD,(aQ,((k6_2_0,()),()))))))
def yDd(n:Nat)(r0:List UInt8×Int×List Nat×List (Q3)×Unit→List (Q3)→List Nat→Int→Int→List UInt8×Int×List Nat×List (Q3)×Unit→List UInt8×Int×List Nat×List (Q3)×Unit→List UInt8×Int×List Nat×List (Q3)×Unit→List UInt8×Int×List Nat×List (Q3)×Unit→List Int→List UInt8×Int×List Nat×List (Q3)×Unit→List UInt8×Int×List Nat×List (Q3)×Unit→List UInt8×Int×List Nat×List (Q3)×Unit→List UInt8×Int×List Nat×List (Q3)×Unit→Option (List Int×Unit))(aw:List UInt8×Int×List Nat×List (Q3)×Unit)(aj:List (Q3))(af:List Nat)(ae:Int)(am:Int)(p0_0_0:List UInt8×Int×List Nat×List (Q3)×Unit)(p0_1_0:List UInt8×Int×List Nat×List (Q3)×Unit)(p0_5_0:List UInt8×Int×List Nat×List (Q3)×Unit)(p0_6_0_0:List UInt8×Int×List Nat×List (Q3)×Unit)(bt:List Int)(aG:List UInt8×Int×List Nat×List (Q3)×Unit)(aH:List UInt8×Int×List Nat×List (Q3)×Unit)(aU:List UInt8×Int×List Nat×List (Q3)×Unit)(k6_0_0:List UInt8×Int×List Nat×List (Q3)×Unit):Option (List Int×Unit) :=
  (bif decide (am < ae)then (Option.bind (idx af am) fun v1=>(y5y n r0 n (aw) (aj) (am) (v1) (af) (ae) (am) (p0_0_0) (p0_1_0) (p0_5_0) (p0_6_0_0) (bt) (aG) (aH) (aU) (k6_0_0)))else some (bt,()))
def y6Q(n:Nat)(k:Nat)(aw:List UInt8×Int×List Nat×List (Q3)×Unit)(aj:List (Q3))(af:List Nat)(ae:Int)(am:Int)(p0_0_0:List UInt8×Int×List Nat×List (Q3)×Unit)(p0_1_0:List UInt8×Int×List Nat×List (Q3)×Unit)(p0_5_0:List UInt8×Int×List Nat×List (Q3)×Unit)(p0_6_0_0:List UInt8×Int×List Nat×List (Q3)×Unit)(bt:List Int)(aG:List UInt8×Int×List Nat×List (Q3)×Unit)(aH:List UInt8×Int×List Nat×List (Q3)×Unit)(aU:List UInt8×Int×List Nat×List (Q3)×Unit)(k6_0_0:List UInt8×Int×List Nat×List (Q3)×Unit):Option (List Int×Unit) :=
  iter (fun r y=>yDd n (fun aw aj af ae am p0_0_0 p0_1_0 p0_5_0 p0_6_0_0 bt aG aH aU k6_0_0=>r ((aw,(aj,(af,(ae,(am,()))))),(((p0_0_0,(p0_1_0,(p0_5_0,((p0_6_0_0,()),())))),((),(bt,()))),(aG,(aH,(aU,((k6_0_0,()),()))))))) y.1.1 y.1.2.1 y.1.2.2.1 y.1.2.2.2.1 y.1.2.2.2.2.1 y.2.1.1.1 y.2.1.1.2.1 y.2.1.1.2.2.1 y.2.1.1.2.2.2.1.1 y.2.1.2.2.1 y.2.2.1 y.2.2.2.1 y.2.2.2.2.1 y.2.2.2.2.2.1.1) k ((aw,(aj,(af,(ae,(am,()))))),(((p0_0_0,(p0_1_0,(p0_5_0,((p0_6_0_0,()),())))),((),(bt,()))),(aG,(aH,(aU,((k6_0_0,()),()))))))
def yIX(n:Nat)(r1:List UInt8×Int×List Nat×List (Q3)×Unit):Option (List Int×Unit) :=
  (y6Q n n (r1) (r1.2.2.2.1) (r1.2.2.1) ((↑r1.2.2.1.length:Int)) ((0:Int)) (r1) (r1) (r1) (r1) ([]) (r1) (r1) (r1) (r1))
theorem yRi(n:Nat)(x:yMx.den):runF yQw (yJZ n) Tryz.f147 yMx yPh x=yIX n x.1:=by kernel_rfl
def yBw(j8:List UInt8×Int×List Nat×List (Q3)×Unit)(j9:List (Q3))(j10:Int)(j11:Nat)(j12:List Nat)(j13:Int)(j14:Int)(j15:List UInt8×Int×List Nat×List (Q3)×Unit)(j16:List UInt8×Int×List Nat×List (Q3)×Unit)(j17:List UInt8×Int×List Nat×List (Q3)×Unit)(j18:List UInt8×Int×List Nat×List (Q3)×Unit)(j19:List Int)(j20:List UInt8×Int×List Nat×List (Q3)×Unit)(j21:List UInt8×Int×List Nat×List (Q3)×Unit)(j22:List UInt8×Int×List Nat×List (Q3)×Unit)(j23:List UInt8×Int×List Nat×List (Q3)×Unit):Option ((List Int×Unit)⊕((List (Q3))×List Int)) :=
  (bif decide ((↑j9.length:Int) > 0)then (Option.bind (idx j9 (0:Int)) fun v24=>(bif decide (v24.1≤j10)then (some (Sum.inr ((j9),(j19))))else (Option.bind (yl Go.FloatKind.f32 (yd Go.BinOp.mul Go.FloatKind.f32 j11 (nat_lit 1098907648)) IntKind.i64) fun v29=>(bif decide (j19.length+(1:Nat)≤memMax)then (some (Sum.inr ((j9),(j19++[IntKind.i64.wrap (j8.2.1+j10)]))))else none))))else (Option.bind (yl Go.FloatKind.f32 (yd Go.BinOp.mul Go.FloatKind.f32 j11 (nat_lit 1098907648)) IntKind.i64) fun v30=>(bif decide (j19.length+(1:Nat)≤memMax)then (some (Sum.inr ((j9),(j19++[IntKind.i64.wrap (j8.2.1+j10)]))))else none)))
theorem y2R(n:Nat)(hn:big≤n)(r0:List UInt8×Int×List Nat×List (Q3)×Unit→List (Q3)→List Nat→Int→Int→List UInt8×Int×List Nat×List (Q3)×Unit→List UInt8×Int×List Nat×List (Q3)×Unit→List UInt8×Int×List Nat×List (Q3)×Unit→List UInt8×Int×List Nat×List (Q3)×Unit→List Int→List UInt8×Int×List Nat×List (Q3)×Unit→List UInt8×Int×List Nat×List (Q3)×Unit→List UInt8×Int×List Nat×List (Q3)×Unit→List UInt8×Int×List Nat×List (Q3)×Unit→Option (List Int×Unit))(j8:List UInt8×Int×List Nat×List (Q3)×Unit)(j9:List (Q3))(j10:Int)(j11:Nat)(j12:List Nat)(j13:Int)(j14:Int)(j15:List UInt8×Int×List Nat×List (Q3)×Unit)(j16:List UInt8×Int×List Nat×List (Q3)×Unit)(j17:List UInt8×Int×List Nat×List (Q3)×Unit)(j18:List UInt8×Int×List Nat×List (Q3)×Unit)(j19:List Int)(j20:List UInt8×Int×List Nat×List (Q3)×Unit)(j21:List UInt8×Int×List Nat×List (Q3)×Unit)(j22:List UInt8×Int×List Nat×List (Q3)×Unit)(j23:List UInt8×Int×List Nat×List (Q3)×Unit):LeF (elim some fun (s__:((List (Q3))×List Int))=>r0 j8 s__.1 j12 j13 (IntKind.i64.wrap (j14+1)) j15 j16 j17 j18 s__.2 j20 j21 j22 j23) (yBw j8 j9 j10 j11 j12 j13 j14 j15 j16 j17 j18 j19 j20 j21 j22 j23) (y7L n r0 j8 j9 j10 j11 j12 j13 j14 j15 j16 j17 j18 j19 j20 j21 j22 j23) :=
  (y5 (y8 fun v24=>(y5 (y7 rfl) (y8 fun v29=>(y5 (y7 rfl) yg)))) (y8 fun v30=>(y5 (y7 rfl) yg)))
def yFo(aA:List UInt8×Int×List Nat×List (Q3)×Unit)(aB:Int)(aF:Nat)(av:List Nat)(aq:Int)(ar:Int)(p0_0_2:List UInt8×Int×List Nat×List (Q3)×Unit)(p0_1_2:List UInt8×Int×List Nat×List (Q3)×Unit)(p0_5_2:List UInt8×Int×List Nat×List (Q3)×Unit)(p0_6_2_0:List UInt8×Int×List Nat×List (Q3)×Unit)(bi:List Int)(aC:List UInt8×Int×List Nat×List (Q3)×Unit)(aD:List UInt8×Int×List Nat×List (Q3)×Unit)(aQ:List UInt8×Int×List Nat×List (Q3)×Unit)(k6_2_0:List UInt8×Int×List Nat×List (Q3)×Unit)(ac:List (Q3)):Option (((List Int×Unit)⊕((List (Q3))×List Int))⊕(List (Q3))) :=
  (bif decide ((↑ac.length:Int) > 0)then (Option.bind (idx ac (0:Int)) fun v3=>(bif decide (v3.2.1≤aB)then (bif decide ((0:Int)≤1) && decide ((1:Int)≤(↑ac.length:Int))then (some (Sum.inr (List.drop (Int.toNat (1:Int)) ac)))else none)else (Option.map Sum.inl (yBw (aA) (ac) (aB) (aF) (av) (aq) (ar) (p0_0_2) (p0_1_2) (p0_5_2) (p0_6_2_0) (bi) (aC) (aD) (aQ) (k6_2_0)))))else (Option.map Sum.inl (yBw (aA) (ac) (aB) (aF) (av) (aq) (ar) (p0_0_2) (p0_1_2) (p0_5_2) (p0_6_2_0) (bi) (aC) (aD) (aQ) (k6_2_0))))
theorem yCH(n:Nat)(hn:big≤n)(r0:List UInt8×Int×List Nat×List (Q3)×Unit→List (Q3)→List Nat→Int→Int→List UInt8×Int×List Nat×List (Q3)×Unit→List UInt8×Int×List Nat×List (Q3)×Unit→List UInt8×Int×List Nat×List (Q3)×Unit→List UInt8×Int×List Nat×List (Q3)×Unit→List Int→List UInt8×Int×List Nat×List (Q3)×Unit→List UInt8×Int×List Nat×List (Q3)×Unit→List UInt8×Int×List Nat×List (Q3)×Unit→List UInt8×Int×List Nat×List (Q3)×Unit→Option (List Int×Unit))(aA:List UInt8×Int×List Nat×List (Q3)×Unit)(aB:Int)(aF:Nat)(av:List Nat)(aq:Int)(ar:Int)(p0_0_2:List UInt8×Int×List Nat×List (Q3)×Unit)(p0_1_2:List UInt8×Int×List Nat×List (Q3)×Unit)(p0_5_2:List UInt8×Int×List Nat×List (Q3)×Unit)(p0_6_2_0:List UInt8×Int×List Nat×List (Q3)×Unit)(bi:List Int)(aC:List UInt8×Int×List Nat×List (Q3)×Unit)(aD:List UInt8×Int×List Nat×List (Q3)×Unit)(aQ:List UInt8×Int×List Nat×List (Q3)×Unit)(k6_2_0:List UInt8×Int×List Nat×List (Q3)×Unit)(ac:List (Q3)):LeF (elim some fun (s__:((List (Q3))×List Int))=>r0 aA s__.1 av aq (IntKind.i64.wrap (ar+1)) p0_0_2 p0_1_2 p0_5_2 p0_6_2_0 s__.2 aC aD aQ k6_2_0) (y33 (fun s__=>yFo aA aB aF av aq ar p0_0_2 p0_1_2 p0_5_2 p0_6_2_0 bi aC aD aQ k6_2_0 s__) wMax ac) (y5y n r0 n aA ac aB aF av aq ar p0_0_2 p0_1_2 p0_5_2 p0_6_2_0 bi aC aD aQ k6_2_0):=by
  refine y2q (f:=(elim some fun (s__:((List (Q3))×List Int))=>r0 aA s__.1 av aq (IntKind.i64.wrap (ar+1)) p0_0_2 p0_1_2 p0_5_2 p0_6_2_0 s__.2 aC aD aQ k6_2_0)) (W:=fun k__ s__=>y5y n r0 k__ aA s__ aB aF av aq ar p0_0_2 p0_1_2 p0_5_2 p0_6_2_0 bi aC aD aQ k6_2_0) (body:=(fun s__=>yFo aA aB aF av aq ar p0_0_2 p0_1_2 p0_5_2 p0_6_2_0 bi aC aD aQ k6_2_0 s__)) (fun k__ s__=>?_) wMax n ac (by unfold big at hn;unfold wMax;omega)
  show LeF _ _ (yCs n r0 (y5y n r0 k__) aA s__ aB aF av aq ar p0_0_2 p0_1_2 p0_5_2 p0_6_2_0 bi aC aD aQ k6_2_0)
  exact (y5 (y8 fun v3=>(y5 (y5 (y7 rfl) yg) (yp (by apply y2R n hn)))) (yp (by apply y2R n hn)))
def yFl(aw:List UInt8×Int×List Nat×List (Q3)×Unit)(af:List Nat)(p0_0_0:List UInt8×Int×List Nat×List (Q3)×Unit)(p0_1_0:List UInt8×Int×List Nat×List (Q3)×Unit)(p0_5_0:List UInt8×Int×List Nat×List (Q3)×Unit)(p0_6_0_0:List UInt8×Int×List Nat×List (Q3)×Unit)(aG:List UInt8×Int×List Nat×List (Q3)×Unit)(aH:List UInt8×Int×List Nat×List (Q3)×Unit)(aU:List UInt8×Int×List Nat×List (Q3)×Unit)(k6_0_0:List UInt8×Int×List Nat×List (Q3)×Unit)(am:Int)(v1:Nat)(aj:List (Q3))(bt:List Int):Option ((List Int×Unit)⊕((List (Q3))×List Int)) :=
  (y33 (fun s__=>yFo (aw) (am) (v1) (af) ((↑af.length:Int)) (am) (p0_0_0) (p0_1_0) (p0_5_0) (p0_6_0_0) (bt) (aG) (aH) (aU) (k6_0_0) s__) wMax (aj))
def yHD(aw:List UInt8×Int×List Nat×List (Q3)×Unit)(af:List Nat)(p0_0_0:List UInt8×Int×List Nat×List (Q3)×Unit)(p0_1_0:List UInt8×Int×List Nat×List (Q3)×Unit)(p0_5_0:List UInt8×Int×List Nat×List (Q3)×Unit)(p0_6_0_0:List UInt8×Int×List Nat×List (Q3)×Unit)(aG:List UInt8×Int×List Nat×List (Q3)×Unit)(aH:List UInt8×Int×List Nat×List (Q3)×Unit)(aU:List UInt8×Int×List Nat×List (Q3)×Unit)(k6_0_0:List UInt8×Int×List Nat×List (Q3)×Unit)(aj:List (Q3))(bt:List Int):Option (List Int×Unit) :=
  (some ((bt,())))
theorem yCA(n:Nat)(hn:big≤n)(aw:List UInt8×Int×List Nat×List (Q3)×Unit)(af:List Nat)(p0_0_0:List UInt8×Int×List Nat×List (Q3)×Unit)(p0_1_0:List UInt8×Int×List Nat×List (Q3)×Unit)(p0_5_0:List UInt8×Int×List Nat×List (Q3)×Unit)(p0_6_0_0:List UInt8×Int×List Nat×List (Q3)×Unit)(aG:List UInt8×Int×List Nat×List (Q3)×Unit)(aH:List UInt8×Int×List Nat×List (Q3)×Unit)(aU:List UInt8×Int×List Nat×List (Q3)×Unit)(k6_0_0:List UInt8×Int×List Nat×List (Q3)×Unit)(aj:List (Q3))(bt:List Int)(hx:List.length (af) < lenMax):LeF some (yP (fun i__ e__ s__=>yFl aw af p0_0_0 p0_1_0 p0_5_0 p0_6_0_0 aG aH aU k6_0_0 i__ e__ s__.1 s__.2) (fun s__=>yHD aw af p0_0_0 p0_1_0 p0_5_0 p0_6_0_0 aG aH aU k6_0_0 s__.1 s__.2) 0 (af) (aj,bt)) (y6Q n n aw aj af (List.length (af):Int) 0 p0_0_0 p0_1_0 p0_5_0 p0_6_0_0 bt aG aH aU k6_0_0):=by
  refine yO (f:=some) (W:=fun k__ i__ s__=>y6Q n k__ aw s__.1 af (List.length (af):Int) i__ p0_0_0 p0_1_0 p0_5_0 p0_6_0_0 s__.2 aG aH aU k6_0_0) (body:=(fun i__ e__ s__=>yFl aw af p0_0_0 p0_1_0 p0_5_0 p0_6_0_0 aG aH aU k6_0_0 i__ e__ s__.1 s__.2)) (fin:=(fun s__=>yHD aw af p0_0_0 p0_1_0 p0_5_0 p0_6_0_0 aG aH aU k6_0_0 s__.1 s__.2)) (fun k__ i__ s__=>?_) hx (aj,bt) n (by unfold big at hn;unfold lenMax at hx;omega)
  show LeF _ _ (yDd n (y6Q n k__) aw s__.1 af (List.length (af):Int) i__ p0_0_0 p0_1_0 p0_5_0 p0_6_0_0 s__.2 aG aH aU k6_0_0)
  exact y5 (y8 fun v1=>(by apply yCH n hn)) (yp (y7 rfl))
def yBz(r1:List UInt8×Int×List Nat×List (Q3)×Unit):Option (List Int×Unit) :=
  (bif decide (List.length (r1.2.2.1) < lenMax)then yP (fun i__ e__ s__=>yFl (r1) (r1.2.2.1) (r1) (r1) (r1) (r1) (r1) (r1) (r1) (r1) i__ e__ s__.1 s__.2) (fun s__=>yHD (r1) (r1.2.2.1) (r1) (r1) (r1) (r1) (r1) (r1) (r1) (r1) s__.1 s__.2) 0 (r1.2.2.1) ((r1.2.2.2.1),([]))else none)
theorem yMl(r1:List UInt8×Int×List Nat×List (Q3)×Unit)(y:List Int×Unit)(h:yBz r1=some y):∃ n,yIX n r1=some y :=
  ⟨big,LeF.top (show LeF some (yBz r1) (yIX big r1)from (fun (n:Nat) (hn:big≤n)=>show LeF some (yBz r1) (yIX n r1)from (yN fun hx=>by apply yCA n hn;exact hx)) big (Nat.le_refl _)) h⟩
def z0e_e:Entry:={ f:=147,args:=yMx,ress:=yPh,m:=fun x=>yBz x.1 }
theorem yJv:FnOK Tryz.prog z0e_e:=yM (g:=yQw) (fn:=Tryz.f147) yD yK eNil (by kernel_rfl) (by kernel_rfl) (by kernel_rfl) (fun x y h=>let ⟨n,hn⟩:=yMl x.1 y h;⟨yJZ n,(y4s y4U (y4s y4n iNil)),(yRi n x).trans hn⟩)
abbrev zQ_a:Ty:=.pair t55 (.pair t3 .unit)
abbrev zQ_r:Ty:=.pair t57 .unit
def zQ_g:G:={ T:=T,E:=[],muts:=[],fz:=[] }
def zQ_k:List (List Nat):=[]
def yOo(n:Nat):Ann:={ keep:=zQ_k,fuel:=n,inl:=[],deep:=0 }
def zQ_m(n:Nat)(c:Q2)(tick:Int):Option ((Q3)×Unit) :=
  (bif c.2.1==0 then none else (Option.bind (idx [((1:Int),(0:Int),()),((0:Int),(1:Int),()),((-1:Int),(0:Int),()),((0:Int),(-1:Int),())] ((IntKind.i64.wrap (c.2.2.1 * IntKind.i64.wrap (tick.tdiv c.2.1))).tmod (4:Int))) fun v0=>some ((v0.1,v0.2.1,()),())))
theorem yUr(n:Nat)(x:zQ_a.den):runF zQ_g (yOo n) Tryz.f161 zQ_a zQ_r x=zQ_m n x.1 x.2.1:=by kernel_rfl
def zQ_M(c:Q2)(tick:Int):Option ((Q3)×Unit):=zQ_m 0 c tick
theorem ySO(c:Q2)(tick:Int)(y:(Q3)×Unit)(h:zQ_M c tick=some y):∃ n,zQ_m n c tick=some y:=⟨0,h⟩
def zQ_e:Entry:={ f:=161,args:=zQ_a,ress:=zQ_r,m:=fun x=>zQ_M x.1 x.2.1 }
theorem yNW:FnOK Tryz.prog zQ_e:=yM (g:=zQ_g) (fn:=Tryz.f161) yD yK eNil (by kernel_rfl) (by kernel_rfl) (by kernel_rfl) (fun x y h=>let ⟨n,hn⟩:=ySO x.1 x.2.1 y h;⟨yOo n,iNil,(yUr n x).trans hn⟩)
abbrev zA_a:Ty:=.pair t31 (.pair t215 .unit)
abbrev zA_r:Ty:=.pair t23 .unit
def zA_g:G:={ T:=T,E:=[],muts:=[5],fz:=[] }
def zA_k:List (List Nat):=[[1,5,8,9,10]]
def yOA(n:Nat):Ann:={ keep:=zA_k,fuel:=n,inl:=[],deep:=0 }
def yFK(n:Nat)(r0:((Q2)×Unit→Option ((Q3)×Unit))→List (Q2)→Int→Int→List (Q3)→Option (List (Q3)×Unit))(a7:(Q2)×Unit→Option ((Q3)×Unit))(a8:List (Q2))(af:Int)(ae:Int)(aa:List (Q3)):Option (List (Q3)×Unit) :=
  (bif decide (ae < af)then (Option.bind (idx a8 ae) fun v1=>(Option.bind (a7 ((v1.1,v1.2.1,v1.2.2.1,()),())) fun v2=>(bif decide (aa.length+(1:Nat)≤memMax)then r0 a7 a8 af (IntKind.i64.wrap (ae+1)) (aa++[v2.1])else none)))else some (aa,()))
def y95(n:Nat)(k:Nat)(a7:(Q2)×Unit→Option ((Q3)×Unit))(a8:List (Q2))(af:Int)(ae:Int)(aa:List (Q3)):Option (List (Q3)×Unit) :=
  iter (fun r y=>yFK n (fun a7 a8 af ae aa=>r ((a7,(a8,(af,(ae,())))),((aa,()),()))) y.1.1 y.1.2.1 y.1.2.2.1 y.1.2.2.2.1 y.2.1.1) k ((a7,(a8,(af,(ae,())))),((aa,()),()))
def zA_m(n:Nat)(l:List (Q2))(of:(Q2)×Unit→Option ((Q3)×Unit)):Option (List (Q3)×Unit) :=
  (y95 n n (of) (l) ((↑l.length:Int)) ((0:Int)) ([]))
theorem yU9(n:Nat)(x:zA_a.den):runF zA_g (yOA n) Tryz.f162 zA_a zA_r x=zA_m n x.1 x.2.1:=by kernel_rfl
def yKs(a7:(Q2)×Unit→Option ((Q3)×Unit))(a8:List (Q2))(ae:Int)(v1:Q2)(aa:List (Q3)):Option ((List (Q3)×Unit)⊕(List (Q3))) :=
  (Option.bind (a7 ((v1.1,v1.2.1,v1.2.2.1,()),())) fun v2=>(bif decide (aa.length+(1:Nat)≤memMax)then (some (Sum.inr (aa++[v2.1])))else none))
def yNL(a7:(Q2)×Unit→Option ((Q3)×Unit))(a8:List (Q2))(aa:List (Q3)):Option (List (Q3)×Unit) :=
  (some ((aa,())))
theorem yEW(n:Nat)(hn:big≤n)(a7:(Q2)×Unit→Option ((Q3)×Unit))(a8:List (Q2))(aa:List (Q3))(hx:List.length (a8) < lenMax):LeF some (yP (fun i__ e__ s__=>yKs a7 a8 i__ e__ s__) (fun s__=>yNL a7 a8 s__) 0 (a8) aa) (y95 n n a7 a8 (List.length (a8):Int) 0 aa):=by
  refine yO (f:=some) (W:=fun k__ i__ s__=>y95 n k__ a7 a8 (List.length (a8):Int) i__ s__) (body:=(fun i__ e__ s__=>yKs a7 a8 i__ e__ s__)) (fin:=(fun s__=>yNL a7 a8 s__)) (fun k__ i__ s__=>?_) hx aa n (by unfold big at hn;unfold lenMax at hx;omega)
  show LeF _ _ (yFK n (y95 n k__) a7 a8 (List.length (a8):Int) i__ s__)
  exact y5 (y8 fun v1=>(y8 fun v2=>(y5 (y7 rfl) yg))) (yp (y7 rfl))
def zA_M(l:List (Q2))(of:(Q2)×Unit→Option ((Q3)×Unit)):Option (List (Q3)×Unit) :=
  (bif decide (List.length (l) < lenMax)then yP (fun i__ e__ s__=>yKs (of) (l) i__ e__ s__) (fun s__=>yNL (of) (l) s__) 0 (l) ([])else none)
theorem yPP(l:List (Q2))(of:(Q2)×Unit→Option ((Q3)×Unit))(y:List (Q3)×Unit)(h:zA_M l of=some y):∃ n,zA_m n l of=some y :=
  ⟨big,LeF.top (show LeF some (zA_M l of) (zA_m big l of)from (fun (n:Nat) (hn:big≤n)=>show LeF some (zA_M l of) (zA_m n l of)from (yN fun hx=>by apply yEW n hn;exact hx)) big (Nat.le_refl _)) h⟩
def zA_e:Entry:={ f:=162,args:=zA_a,ress:=zA_r,m:=fun x=>zA_M x.1 x.2.1 }
theorem yL0:FnOK Tryz.prog zA_e:=yM (g:=zA_g) (fn:=Tryz.f162) yD yK eNil (by kernel_rfl) (by kernel_rfl) (by kernel_rfl) (fun x y h=>let ⟨n,hn⟩:=yPP x.1 x.2.1 y h;⟨yOA n,iNil,(yU9 n x).trans hn⟩)
abbrev zf_a:Ty:=.pair t183 (.pair t3 (.pair t23 .unit))
abbrev zf_r:Ty:=.pair t183 .unit
def zf_g:G:={ T:=T,E:=[],muts:=[],fz:=[11] }
def zf_k:List (List Nat):=[[0,1,2,7,13,14]]
def yRK(n:Nat):Ann:={ keep:=zf_k,fuel:=n,inl:=[],deep:=0 }
def yHC(n:Nat)(r0:List (List (Q3))→Int→List (Q3)→Int→Int→List (List (Q3))→Option (List (List (Q3))×Unit))(aK:List (List (Q3)))(au:Int)(az:List (Q3))(aZ:Int)(al:Int)(aa:List (List (Q3))):Option (List (List (Q3))×Unit) :=
  (bif decide (al < aZ)then (Option.bind (idx aK al) fun v1=>(bif Bool.true && decide ((0:Int)≤(↑v1.length:Int)) && decide ((↑v1.length:Int)≤(↑memMax:Int)) && (↑v1.length:Int)==(↑v1.length:Int)then (Option.bind (idx aa al) fun v2=>(Option.bind (aa[al.toNat]?) fun v3=>(Option.bind (idx (aa.set al.toNat (List.replicate ((↑v1.length:Int).toNat) (((0:Int),(0:Int),())):List (Q3))) al) fun v4=>(Option.bind ((aa.set al.toNat (List.replicate ((↑v1.length:Int).toNat) (((0:Int),(0:Int),())):List (Q3)))[al.toNat]?) fun v5=>(Option.bind (idx aK al) fun v6=>(Option.bind ((aa.set al.toNat (List.replicate ((↑v1.length:Int).toNat) (((0:Int),(0:Int),())):List (Q3)))[al.toNat]?) fun v7=>(bif decide (v6.length=v7.length)then (Option.bind (idx ((aa.set al.toNat (List.replicate ((↑v1.length:Int).toNat) (((0:Int),(0:Int),())):List (Q3))).set al.toNat v6) al) fun v8=>(Option.bind (((aa.set al.toNat (List.replicate ((↑v1.length:Int).toNat) (((0:Int),(0:Int),())):List (Q3))).set al.toNat v6)[al.toNat]?) fun v9=>(Option.bind (idx az al) fun v10=>(Option.bind (((aa.set al.toNat (List.replicate ((↑v1.length:Int).toNat) (((0:Int),(0:Int),())):List (Q3))).set al.toNat v6)[al.toNat]?) fun v11=>(Option.bind (idx v11 au) fun v12=>(Option.bind (((aa.set al.toNat (List.replicate ((↑v1.length:Int).toNat) (((0:Int),(0:Int),())):List (Q3))).set al.toNat v6)[al.toNat]?) fun v13=>(Option.bind (v13[au.toNat]?) fun v14=>r0 aK au az aZ (IntKind.i64.wrap (al+1)) (((aa.set al.toNat (List.replicate ((↑v1.length:Int).toNat) (((0:Int),(0:Int),())):List (Q3))).set al.toNat v6).set al.toNat (v13.set au.toNat v10)))))))))else none)))))))else none))else some (aa,()))
def y9M(n:Nat)(k:Nat)(aK:List (List (Q3)))(au:Int)(az:List (Q3))(aZ:Int)(al:Int)(aa:List (List (Q3))):Option (List (List (Q3))×Unit) :=
  iter (fun r y=>yHC n (fun aK au az aZ al aa=>r ((aK,(au,(az,(aZ,(al,()))))),((aa,()),()))) y.1.1 y.1.2.1 y.1.2.2.1 y.1.2.2.2.1 y.1.2.2.2.2.1 y.2.1.1) k ((aK,(au,(az,(aZ,(al,()))))),((aa,()),()))
def zf_m(n:Nat)(m:List (List (Q3)))(column:Int)(values:List (Q3)):Option (List (List (Q3))×Unit) :=
  (bif Bool.true && decide ((0:Int)≤(↑m.length:Int)) && decide ((↑m.length:Int)≤(↑memMax:Int)) && (↑m.length:Int)==(↑m.length:Int)then (y9M n n (m) (column) (values) ((↑m.length:Int)) ((0:Int)) ((List.replicate ((↑m.length:Int).toNat) ([]):List (List (Q3)))))else none)
theorem yUV(n:Nat)(x:zf_a.den):runF zf_g (yRK n) Tryz.f164 zf_a zf_r x=zf_m n x.1 x.2.1 x.2.2.1:=by kernel_rfl
def yLa(aK:List (List (Q3)))(au:Int)(az:List (Q3))(al:Int)(v1:List (Q3))(aa:List (List (Q3))):Option ((List (List (Q3))×Unit)⊕(List (List (Q3)))) :=
  (bif Bool.true && decide ((0:Int)≤(↑v1.length:Int)) && decide ((↑v1.length:Int)≤(↑memMax:Int)) && (↑v1.length:Int)==(↑v1.length:Int)then (Option.bind (idx aa al) fun v2=>(Option.bind (aa[al.toNat]?) fun v3=>(Option.bind (idx (aa.set al.toNat (List.replicate ((↑v1.length:Int).toNat) (((0:Int),(0:Int),())):List (Q3))) al) fun v4=>(Option.bind ((aa.set al.toNat (List.replicate ((↑v1.length:Int).toNat) (((0:Int),(0:Int),())):List (Q3)))[al.toNat]?) fun v5=>(Option.bind (idx aK al) fun v6=>(Option.bind ((aa.set al.toNat (List.replicate ((↑v1.length:Int).toNat) (((0:Int),(0:Int),())):List (Q3)))[al.toNat]?) fun v7=>(bif decide (v6.length=v7.length)then (Option.bind (idx ((aa.set al.toNat (List.replicate ((↑v1.length:Int).toNat) (((0:Int),(0:Int),())):List (Q3))).set al.toNat v6) al) fun v8=>(Option.bind (((aa.set al.toNat (List.replicate ((↑v1.length:Int).toNat) (((0:Int),(0:Int),())):List (Q3))).set al.toNat v6)[al.toNat]?) fun v9=>(Option.bind (idx az al) fun v10=>(Option.bind (((aa.set al.toNat (List.replicate ((↑v1.length:Int).toNat) (((0:Int),(0:Int),())):List (Q3))).set al.toNat v6)[al.toNat]?) fun v11=>(Option.bind (idx v11 au) fun v12=>(Option.bind (((aa.set al.toNat (List.replicate ((↑v1.length:Int).toNat) (((0:Int),(0:Int),())):List (Q3))).set al.toNat v6)[al.toNat]?) fun v13=>(Option.bind (v13[au.toNat]?) fun v14=>(some (Sum.inr (((aa.set al.toNat (List.replicate ((↑v1.length:Int).toNat) (((0:Int),(0:Int),())):List (Q3))).set al.toNat v6).set al.toNat (v13.set au.toNat v10)))))))))))else none)))))))else none)
def yNf(aK:List (List (Q3)))(au:Int)(az:List (Q3))(aa:List (List (Q3))):Option (List (List (Q3))×Unit) :=
  (some ((aa,())))
theorem yE2(n:Nat)(hn:big≤n)(aK:List (List (Q3)))(au:Int)(az:List (Q3))(aa:List (List (Q3)))(hx:List.length (aK) < lenMax):LeF some (yP (fun i__ e__ s__=>yLa aK au az i__ e__ s__) (fun s__=>yNf aK au az s__) 0 (aK) aa) (y9M n n aK au az (List.length (aK):Int) 0 aa):=by
  refine yO (f:=some) (W:=fun k__ i__ s__=>y9M n k__ aK au az (List.length (aK):Int) i__ s__) (body:=(fun i__ e__ s__=>yLa aK au az i__ e__ s__)) (fin:=(fun s__=>yNf aK au az s__)) (fun k__ i__ s__=>?_) hx aa n (by unfold big at hn;unfold lenMax at hx;omega)
  show LeF _ _ (yHC n (y9M n k__) aK au az (List.length (aK):Int) i__ s__)
  exact y5 (y8 fun v1=>(y5 (y8 fun v2=>(y8 fun v3=>(y8 fun v4=>(y8 fun v5=>(y8 fun v6=>(y8 fun v7=>(y5 (y8 fun v8=>(y8 fun v9=>(y8 fun v10=>(y8 fun v11=>(y8 fun v12=>(y8 fun v13=>(y8 fun v14=>(y7 rfl)))))))) yg))))))) yg)) (yp (y7 rfl))
def zf_M(m:List (List (Q3)))(column:Int)(values:List (Q3)):Option (List (List (Q3))×Unit) :=
  (bif Bool.true && decide ((0:Int)≤(↑m.length:Int)) && decide ((↑m.length:Int)≤(↑memMax:Int)) && (↑m.length:Int)==(↑m.length:Int)then (bif decide (List.length (m) < lenMax)then yP (fun i__ e__ s__=>yLa (m) (column) (values) i__ e__ s__) (fun s__=>yNf (m) (column) (values) s__) 0 (m) ((List.replicate ((↑m.length:Int).toNat) ([]):List (List (Q3))))else none)else none)
theorem yOr(m:List (List (Q3)))(column:Int)(values:List (Q3))(y:List (List (Q3))×Unit)(h:zf_M m column values=some y):∃ n,zf_m n m column values=some y :=
  ⟨big,LeF.top (show LeF some (zf_M m column values) (zf_m big m column values)from (fun (n:Nat) (hn:big≤n)=>show LeF some (zf_M m column values) (zf_m n m column values)from (y5 (yN fun hx=>by apply yE2 n hn;exact hx) yg)) big (Nat.le_refl _)) h⟩
def zf_e:Entry:={ f:=164,args:=zf_a,ress:=zf_r,m:=fun x=>zf_M x.1 x.2.1 x.2.2.1 }
theorem yRF:FnOK Tryz.prog zf_e:=yM (g:=zf_g) (fn:=Tryz.f164) yD yK eNil (by kernel_rfl) (by kernel_rfl) (by kernel_rfl) (fun x y h=>let ⟨n,hn⟩:=yOr x.1 x.2.1 x.2.2.1 y h;⟨yRK n,iNil,(yUV n x).trans hn⟩)
abbrev yLH:Ty:=.pair t210 .unit
abbrev yOC:Ty:=.pair t4 .unit
def yS2:G:={ T:=T,E:=[],muts:=[],fz:=[] }
def ySi:List (List Nat):=[]
def yKZ(n:Nat):Ann:={ keep:=ySi,fuel:=n,inl:=[],deep:=0 }
def yIE(n:Nat)(f:Nat):Option (Bool×Unit) :=
  some (yY Go.BinOp.neq Go.FloatKind.f64 f f,())
theorem yPR(n:Nat)(x:yLH.den):runF yS2 (yKZ n) Tryz.f171 yLH yOC x=yIE n x.1:=by kernel_rfl
def z0S(f:Nat):(Bool×Unit) :=
  (yY Go.BinOp.neq Go.FloatKind.f64 f f,())
abbrev yP5 (f:Nat):Option (Bool×Unit):=some (z0S f)
theorem yMv(f:Nat)(y:Bool×Unit)(h:yP5 f=some y):∃ n,yIE n f=some y :=
  ⟨0,by rw[← h];show yIE 0 f=some (z0S f);unfold yIE z0S;first|rfl|(simp only[yI];done)|(simp only[yI];rfl)⟩
def z0S_e:Entry:={ f:=171,args:=yLH,ress:=yOC,m:=fun x=>yP5 x.1 }
theorem yNn:FnOK Tryz.prog z0S_e:=yM (g:=yS2) (fn:=Tryz.f171) yD yK eNil (by kernel_rfl) (by kernel_rfl) (by kernel_rfl) (fun x y h=>let ⟨n,hn⟩:=yMv x.1 y h;⟨yKZ n,iNil,(yPR n x).trans hn⟩)
abbrev zM_a:Ty:=.pair t41 (.pair t233 .unit)
abbrev zM_r:Ty:=.pair t161 .unit
def zM_g:G:={ T:=T,E:=[],muts:=[5],fz:=[] }
def zM_k:List (List Nat):=[[1,5,8,9,10]]
def yRk(n:Nat):Ann:={ keep:=zM_k,fuel:=n,inl:=[],deep:=0 }
def yHU(n:Nat)(r0:(Int×Unit→Option (List UInt8×Unit))→List Int→Int→Int→List (List UInt8)→Option (List (List UInt8)×Unit))(a7:Int×Unit→Option (List UInt8×Unit))(a8:List Int)(af:Int)(ae:Int)(aa:List (List UInt8)):Option (List (List UInt8)×Unit) :=
  (bif decide (ae < af)then (Option.bind (idx a8 ae) fun v1=>(Option.bind (a7 (v1,())) fun v2=>(bif decide (aa.length+(1:Nat)≤memMax)then r0 a7 a8 af (IntKind.i64.wrap (ae+1)) (aa++[v2.1])else none)))else some (aa,()))
def y8w(n:Nat)(k:Nat)(a7:Int×Unit→Option (List UInt8×Unit))(a8:List Int)(af:Int)(ae:Int)(aa:List (List UInt8)):Option (List (List UInt8)×Unit) :=
  iter (fun r y=>yHU n (fun a7 a8 af ae aa=>r ((a7,(a8,(af,(ae,())))),((aa,()),()))) y.1.1 y.1.2.1 y.1.2.2.1 y.1.2.2.2.1 y.2.1.1) k ((a7,(a8,(af,(ae,())))),((aa,()),()))
def zM_m(n:Nat)(l:List Int)(of:Int×Unit→Option (List UInt8×Unit)):Option (List (List UInt8)×Unit) :=
  (y8w n n (of) (l) ((↑l.length:Int)) ((0:Int)) ([]))
theorem yUh(n:Nat)(x:zM_a.den):runF zM_g (yRk n) Tryz.f176 zM_a zM_r x=zM_m n x.1 x.2.1:=by kernel_rfl
def yMV(a7:Int×Unit→Option (List UInt8×Unit))(a8:List Int)(ae:Int)(v1:Int)(aa:List (List UInt8)):Option ((List (List UInt8)×Unit)⊕(List (List UInt8))) :=
  (Option.bind (a7 (v1,())) fun v2=>(bif decide (aa.length+(1:Nat)≤memMax)then (some (Sum.inr (aa++[v2.1])))else none))
def yMy(a7:Int×Unit→Option (List UInt8×Unit))(a8:List Int)(aa:List (List UInt8)):Option (List (List UInt8)×Unit) :=
  (some ((aa,())))
theorem yDw(n:Nat)(hn:big≤n)(a7:Int×Unit→Option (List UInt8×Unit))(a8:List Int)(aa:List (List UInt8))(hx:List.length (a8) < lenMax):LeF some (yP (fun i__ e__ s__=>yMV a7 a8 i__ e__ s__) (fun s__=>yMy a7 a8 s__) 0 (a8) aa) (y8w n n a7 a8 (List.length (a8):Int) 0 aa):=by
  refine yO (f:=some) (W:=fun k__ i__ s__=>y8w n k__ a7 a8 (List.length (a8):Int) i__ s__) (body:=(fun i__ e__ s__=>yMV a7 a8 i__ e__ s__)) (fin:=(fun s__=>yMy a7 a8 s__)) (fun k__ i__ s__=>?_) hx aa n (by unfold big at hn;unfold lenMax at hx;omega)
  show LeF _ _ (yHU n (y8w n k__) a7 a8 (List.length (a8):Int) i__ s__)
  exact y5 (y8 fun v1=>(y8 fun v2=>(y5 (y7 rfl) yg))) (yp (y7 rfl))
def zM_M(l:List Int)(of:Int×Unit→Option (List UInt8×Unit)):Option (List (List UInt8)×Unit) :=
  (bif decide (List.length (l) < lenMax)then yP (fun i__ e__ s__=>yMV (of) (l) i__ e__ s__) (fun s__=>yMy (of) (l) s__) 0 (l) ([])else none)
theorem yPx(l:List Int)(of:Int×Unit→Option (List UInt8×Unit))(y:List (List UInt8)×Unit)(h:zM_M l of=some y):∃ n,zM_m n l of=some y :=
  ⟨big,LeF.top (show LeF some (zM_M l of) (zM_m big l of)from (fun (n:Nat) (hn:big≤n)=>show LeF some (zM_M l of) (zM_m n l of)from (yN fun hx=>by apply yDw n hn;exact hx)) big (Nat.le_refl _)) h⟩
def zM_e:Entry:={ f:=176,args:=zM_a,ress:=zM_r,m:=fun x=>zM_M x.1 x.2.1 }
theorem yTG:FnOK Tryz.prog zM_e:=yM (g:=zM_g) (fn:=Tryz.f176) yD yK eNil (by kernel_rfl) (by kernel_rfl) (by kernel_rfl) (fun x y h=>let ⟨n,hn⟩:=yPx x.1 x.2.1 y h;⟨yRk n,iNil,(yUh n x).trans hn⟩)
abbrev zt_a:Ty:=.pair t55 .unit
abbrev zt_r:Ty:=.pair t55 .unit
def zt_g:G:={ T:=T,E:=[],muts:=[],fz:=[] }
def zt_k:List (List Nat):=[]
def ySW(n:Nat):Ann:={ keep:=zt_k,fuel:=n,inl:=[],deep:=0 }
def zt_m(n:Nat)(c:Q2):Option ((Q2)×Unit) :=
  some ((c.1,c.2.1,c.2.2.1,()),())
theorem yTO(n:Nat)(x:zt_a.den):runF zt_g (ySW n) Tryz.f189 zt_a zt_r x=zt_m n x.1:=by kernel_rfl
def zt(c:Q2):((Q2)×Unit) :=
  ((c.1,c.2.1,c.2.2.1,()),())
abbrev zt_M (c:Q2):Option ((Q2)×Unit):=some (zt c)
theorem yOu(c:Q2)(y:(Q2)×Unit)(h:zt_M c=some y):∃ n,zt_m n c=some y :=
  ⟨0,by rw[← h];show zt_m 0 c=some (zt c);unfold zt_m zt;first|rfl|(simp only[yI];done)|(simp only[yI];rfl)⟩
def zt_e:Entry:={ f:=189,args:=zt_a,ress:=zt_r,m:=fun x=>zt_M x.1 }
theorem yTE:FnOK Tryz.prog zt_e:=yM (g:=zt_g) (fn:=Tryz.f189) yD yK eNil (by kernel_rfl) (by kernel_rfl) (by kernel_rfl) (fun x y h=>let ⟨n,hn⟩:=yOu x.1 y h;⟨ySW n,iNil,(yTO n x).trans hn⟩)
abbrev zu_a:Ty:=.pair t57 (.pair (.ref t3) .unit)
abbrev zu_r:Ty:=.pair t57 .unit
def zu_g:G:={ T:=T,E:=[],muts:=[],fz:=[] }
def zu_k:List (List Nat):=[]
def yPA(n:Nat):Ann:={ keep:=zu_k,fuel:=n,inl:=[],deep:=0 }
def zu_m(n:Nat)(z:Q3)(p1:Int):Option ((Q3)×Unit) :=
  (bif p1==0 then none else (bif p1==0 then none else some ((IntKind.i64.wrap (z.1.tdiv p1),IntKind.i64.wrap (z.2.1.tdiv p1),()),())))
theorem yUd(n:Nat)(x:zu_a.den):runF zu_g (yPA n) Tryz.f190 zu_a zu_r x=zu_m n x.1 x.2.1:=by kernel_rfl
def zu_M(z:Q3)(p1:Int):Option ((Q3)×Unit):=zu_m 0 z p1
theorem yNz(z:Q3)(p1:Int)(y:(Q3)×Unit)(h:zu_M z p1=some y):∃ n,zu_m n z p1=some y:=⟨0,h⟩
def zu_e:Entry:={ f:=190,args:=zu_a,ress:=zu_r,m:=fun x=>zu_M x.1 x.2.1 }
theorem yUX:FnOK Tryz.prog zu_e:=yM (g:=zu_g) (fn:=Tryz.f190) yD yK eNil (by kernel_rfl) (by kernel_rfl) (by kernel_rfl) (fun x y h=>let ⟨n,hn⟩:=yNz x.1 x.2.1 y h;⟨yPA n,iNil,(yUd n x).trans hn⟩)
abbrev z8_a:Ty:=.pair t31 (.pair t255 .unit)
abbrev z8_r:Ty:=.pair t96 .unit
def z8_g:G:={ T:=T,E:=[],muts:=[5],fz:=[] }
def z8_k:List (List Nat):=[[1,5,8,9,10]]
def yON(n:Nat):Ann:={ keep:=z8_k,fuel:=n,inl:=[],deep:=0 }
def yHI(n:Nat)(r0:((Q2)×Unit→Option (List (Q3)×Unit))→List (Q2)→Int→Int→List (List (Q3))→Option (List (List (Q3))×Unit))(a7:(Q2)×Unit→Option (List (Q3)×Unit))(a8:List (Q2))(af:Int)(ae:Int)(aa:List (List (Q3))):Option (List (List (Q3))×Unit) :=
  (bif decide (ae < af)then (Option.bind (idx a8 ae) fun v1=>(Option.bind (a7 ((v1.1,v1.2.1,v1.2.2.1,()),())) fun v2=>(bif decide (aa.length+(1:Nat)≤memMax)then r0 a7 a8 af (IntKind.i64.wrap (ae+1)) (aa++[v2.1])else none)))else some (aa,()))
def y8X(n:Nat)(k:Nat)(a7:(Q2)×Unit→Option (List (Q3)×Unit))(a8:List (Q2))(af:Int)(ae:Int)(aa:List (List (Q3))):Option (List (List (Q3))×Unit) :=
  iter (fun r y=>yHI n (fun a7 a8 af ae aa=>r ((a7,(a8,(af,(ae,())))),((aa,()),()))) y.1.1 y.1.2.1 y.1.2.2.1 y.1.2.2.2.1 y.2.1.1) k ((a7,(a8,(af,(ae,())))),((aa,()),()))
def z8_m(n:Nat)(l:List (Q2))(of:(Q2)×Unit→Option (List (Q3)×Unit)):Option (List (List (Q3))×Unit) :=
  (y8X n n (of) (l) ((↑l.length:Int)) ((0:Int)) ([]))
theorem yUD(n:Nat)(x:z8_a.den):runF z8_g (yON n) Tryz.f191 z8_a z8_r x=z8_m n x.1 x.2.1:=by kernel_rfl
def yLs(a7:(Q2)×Unit→Option (List (Q3)×Unit))(a8:List (Q2))(ae:Int)(v1:Q2)(aa:List (List (Q3))):Option ((List (List (Q3))×Unit)⊕(List (List (Q3)))) :=
  (Option.bind (a7 ((v1.1,v1.2.1,v1.2.2.1,()),())) fun v2=>(bif decide (aa.length+(1:Nat)≤memMax)then (some (Sum.inr (aa++[v2.1])))else none))
def yND(a7:(Q2)×Unit→Option (List (Q3)×Unit))(a8:List (Q2))(aa:List (List (Q3))):Option (List (List (Q3))×Unit) :=
  (some ((aa,())))
theorem yEa(n:Nat)(hn:big≤n)(a7:(Q2)×Unit→Option (List (Q3)×Unit))(a8:List (Q2))(aa:List (List (Q3)))(hx:List.length (a8) < lenMax):LeF some (yP (fun i__ e__ s__=>yLs a7 a8 i__ e__ s__) (fun s__=>yND a7 a8 s__) 0 (a8) aa) (y8X n n a7 a8 (List.length (a8):Int) 0 aa):=by
  refine yO (f:=some) (W:=fun k__ i__ s__=>y8X n k__ a7 a8 (List.length (a8):Int) i__ s__) (body:=(fun i__ e__ s__=>yLs a7 a8 i__ e__ s__)) (fin:=(fun s__=>yND a7 a8 s__)) (fun k__ i__ s__=>?_) hx aa n (by unfold big at hn;unfold lenMax at hx;omega)
  show LeF _ _ (yHI n (y8X n k__) a7 a8 (List.length (a8):Int) i__ s__)
  exact y5 (y8 fun v1=>(y8 fun v2=>(y5 (y7 rfl) yg))) (yp (y7 rfl))
def z8_M(l:List (Q2))(of:(Q2)×Unit→Option (List (Q3)×Unit)):Option (List (List (Q3))×Unit) :=
  (bif decide (List.length (l) < lenMax)then yP (fun i__ e__ s__=>yLs (of) (l) i__ e__ s__) (fun s__=>yND (of) (l) s__) 0 (l) ([])else none)
theorem yPD(l:List (Q2))(of:(Q2)×Unit→Option (List (Q3)×Unit))(y:List (List (Q3))×Unit)(h:z8_M l of=some y):∃ n,z8_m n l of=some y :=
  ⟨big,LeF.top (show LeF some (z8_M l of) (z8_m big l of)from (fun (n:Nat) (hn:big≤n)=>show LeF some (z8_M l of) (z8_m n l of)from (yN fun hx=>by apply yEa n hn;exact hx)) big (Nat.le_refl _)) h⟩
def z8_e:Entry:={ f:=191,args:=z8_a,ress:=z8_r,m:=fun x=>z8_M x.1 x.2.1 }
theorem yTj:FnOK Tryz.prog z8_e:=yM (g:=z8_g) (fn:=Tryz.f191) yD yK eNil (by kernel_rfl) (by kernel_rfl) (by kernel_rfl) (fun x y h=>let ⟨n,hn⟩:=yPD x.1 x.2.1 y h;⟨yON n,iNil,(yUD n x).trans hn⟩)
abbrev zI_a:Ty:=.pair t35 (.pair t259 .unit)
abbrev zI_r:Ty:=.pair t175 .unit
def zI_g:G:={ T:=T,E:=[],muts:=[5],fz:=[] }
def zI_k:List (List Nat):=[[1,5,8,9,10]]
def yNu(n:Nat):Ann:={ keep:=zI_k,fuel:=n,inl:=[],deep:=0 }
def yFd(n:Nat)(r0:(Nat×Unit→Option (Int×Unit))→List Nat→Int→Int→List Int→Option (List Int×Unit))(a7:Nat×Unit→Option (Int×Unit))(a8:List Nat)(af:Int)(ae:Int)(aa:List Int):Option (List Int×Unit) :=
  (bif decide (ae < af)then (Option.bind (idx a8 ae) fun v1=>(Option.bind (a7 (v1,())) fun v2=>(bif decide (aa.length+(1:Nat)≤memMax)then r0 a7 a8 af (IntKind.i64.wrap (ae+1)) (aa++[v2.1])else none)))else some (aa,()))
def y92(n:Nat)(k:Nat)(a7:Nat×Unit→Option (Int×Unit))(a8:List Nat)(af:Int)(ae:Int)(aa:List Int):Option (List Int×Unit) :=
  iter (fun r y=>yFd n (fun a7 a8 af ae aa=>r ((a7,(a8,(af,(ae,())))),((aa,()),()))) y.1.1 y.1.2.1 y.1.2.2.1 y.1.2.2.2.1 y.2.1.1) k ((a7,(a8,(af,(ae,())))),((aa,()),()))
def zI_m(n:Nat)(l:List Nat)(of:Nat×Unit→Option (Int×Unit)):Option (List Int×Unit) :=
  (y92 n n (of) (l) ((↑l.length:Int)) ((0:Int)) ([]))
theorem ySj(n:Nat)(x:zI_a.den):runF zI_g (yNu n) Tryz.f196 zI_a zI_r x=zI_m n x.1 x.2.1:=by kernel_rfl
def yIS(a7:Nat×Unit→Option (Int×Unit))(a8:List Nat)(ae:Int)(v1:Nat)(aa:List Int):Option ((List Int×Unit)⊕(List Int)) :=
  (Option.bind (a7 (v1,())) fun v2=>(bif decide (aa.length+(1:Nat)≤memMax)then (some (Sum.inr (aa++[v2.1])))else none))
def yKv(a7:Nat×Unit→Option (Int×Unit))(a8:List Nat)(aa:List Int):Option (List Int×Unit) :=
  (some ((aa,())))
theorem yEu(n:Nat)(hn:big≤n)(a7:Nat×Unit→Option (Int×Unit))(a8:List Nat)(aa:List Int)(hx:List.length (a8) < lenMax):LeF some (yP (fun i__ e__ s__=>yIS a7 a8 i__ e__ s__) (fun s__=>yKv a7 a8 s__) 0 (a8) aa) (y92 n n a7 a8 (List.length (a8):Int) 0 aa):=by
  refine yO (f:=some) (W:=fun k__ i__ s__=>y92 n k__ a7 a8 (List.length (a8):Int) i__ s__) (body:=(fun i__ e__ s__=>yIS a7 a8 i__ e__ s__)) (fin:=(fun s__=>yKv a7 a8 s__)) (fun k__ i__ s__=>?_) hx aa n (by unfold big at hn;unfold lenMax at hx;omega)
  show LeF _ _ (yFd n (y92 n k__) a7 a8 (List.length (a8):Int) i__ s__)
  exact y5 (y8 fun v1=>(y8 fun v2=>(y5 (y7 rfl) yg))) (yp (y7 rfl))
def zI_M(l:List Nat)(of:Nat×Unit→Option (Int×Unit)):Option (List Int×Unit) :=
  (bif decide (List.length (l) < lenMax)then yP (fun i__ e__ s__=>yIS (of) (l) i__ e__ s__) (fun s__=>yKv (of) (l) s__) 0 (l) ([])else none)
theorem yO5(l:List Nat)(of:Nat×Unit→Option (Int×Unit))(y:List Int×Unit)(h:zI_M l of=some y):∃ n,zI_m n l of=some y :=
  ⟨big,LeF.top (show LeF some (zI_M l of) (zI_m big l of)from (fun (n:Nat) (hn:big≤n)=>show LeF some (zI_M l of) (zI_m n l of)from (yN fun hx=>by apply yEu n hn;exact hx)) big (Nat.le_refl _)) h⟩
def zI_e:Entry:={ f:=196,args:=zI_a,ress:=zI_r,m:=fun x=>zI_M x.1 x.2.1 }
theorem yU0:FnOK Tryz.prog zI_e:=yM (g:=zI_g) (fn:=Tryz.f196) yD yK eNil (by kernel_rfl) (by kernel_rfl) (by kernel_rfl) (fun x y h=>let ⟨n,hn⟩:=yO5 x.1 x.2.1 y h;⟨yNu n,iNil,(ySj n x).trans hn⟩)
abbrev yMw:Ty:=.pair t175 .unit
abbrev yQk:Ty:=.pair t28 .unit
def yQm:G:={ T:=T,E:=[],muts:=[],fz:=[] }
def yTM:List (List Nat):=[[5,6,7]]
def yJp(n:Nat):Ann:={ keep:=yTM,fuel:=n,inl:=[],deep:=0 }
def yD4(n:Nat)(r0:List Int→Int→Int→Option (Int×Unit))(aM:List Int)(aS:Int)(ay:Int):Option (Int×Unit) :=
  (bif decide (ay < aS)then (Option.bind (idx aM ay) fun v1=>(bif v1 != 0 then some (v1,())else r0 aM aS (IntKind.i64.wrap (ay+1))))else some ((0:Int),()))
def y63(n:Nat)(k:Nat)(aM:List Int)(aS:Int)(ay:Int):Option (Int×Unit) :=
  iter (fun r y=>yD4 n (fun aM aS ay=>r ((aM,(aS,(ay,()))),((),()))) y.1.1 y.1.2.1 y.1.2.2.1) k ((aM,(aS,(ay,()))),((),()))
def yJM(n:Nat)(l:List Int):Option (Int×Unit) :=
  (y63 n n (l) ((↑l.length:Int)) ((0:Int)))
theorem yRe(n:Nat)(x:yMw.den):runF yQm (yJp n) Tryz.f198 yMw yQk x=yJM n x.1:=by kernel_rfl
def yHx(aM:List Int)(ay:Int)(v1:Int):Option ((Int×Unit)⊕Unit) :=
  (bif v1 != 0 then (some (Sum.inl ((v1,()))))else (some (Sum.inr ())))
def yFO(aM:List Int):Option (Int×Unit) :=
  (some (((0:Int),())))
theorem yBQ(n:Nat)(hn:big≤n)(aM:List Int)(hx:List.length (aM) < lenMax):LeF some (yP (fun i__ e__ s__=>yHx aM i__ e__) (fun s__=>yFO aM) 0 (aM) ()) (y63 n n aM (List.length (aM):Int) 0):=by
  refine yO (f:=some) (W:=fun k__ i__ s__=>y63 n k__ aM (List.length (aM):Int) i__) (body:=(fun i__ e__ s__=>yHx aM i__ e__)) (fin:=(fun s__=>yFO aM)) (fun k__ i__ s__=>?_) hx () n (by unfold big at hn;unfold lenMax at hx;omega)
  show LeF _ _ (yD4 n (y63 n k__) aM (List.length (aM):Int) i__)
  exact y5 (y8 fun v1=>(y5 (y7 rfl) (y7 rfl))) (yp (y7 rfl))
def y7Z(l:List Int):Option (Int×Unit) :=
  (bif decide (List.length (l) < lenMax)then yP (fun i__ e__ s__=>yHx (l) i__ e__) (fun s__=>yFO (l)) 0 (l) ()else none)
theorem yN1(l:List Int)(y:Int×Unit)(h:y7Z l=some y):∃ n,yJM n l=some y :=
  ⟨big,LeF.top (show LeF some (y7Z l) (yJM big l)from (fun (n:Nat) (hn:big≤n)=>show LeF some (y7Z l) (yJM n l)from (yN fun hx=>by apply yBQ n hn;exact hx)) big (Nat.le_refl _)) h⟩
def z0B_e:Entry:={ f:=198,args:=yMw,ress:=yQk,m:=fun x=>y7Z x.1 }
theorem yJl:FnOK Tryz.prog z0B_e:=yM (g:=yQm) (fn:=Tryz.f198) yD yK eNil (by kernel_rfl) (by kernel_rfl) (by kernel_rfl) (fun x y h=>let ⟨n,hn⟩:=yN1 x.1 y h;⟨yJp n,iNil,(yRe n x).trans hn⟩)
abbrev yLL:Ty:=.pair t4 (.pair t28 .unit)
abbrev yQd:Ty:=.pair t28 .unit
def yQa:G:={ T:=T,E:=[],muts:=[],fz:=[] }
def yUi:List (List Nat):=[]
def yK4(n:Nat):Ann:={ keep:=yUi,fuel:=n,inl:=[],deep:=0 }
def yIt(n:Nat)(holds:Bool)(e:Int):Option (Int×Unit) :=
  (bif holds then some (e,())else some ((0:Int),()))
theorem yQF(n:Nat)(x:yLL.den):runF yQa (yK4 n) Tryz.f199 yLL yQd x=yIt n x.1 x.2.1:=by kernel_rfl
def z0O(holds:Bool)(e:Int):(Int×Unit) :=
  (bif holds then (e,())else ((0:Int),()))
abbrev yPN (holds:Bool) (e:Int):Option (Int×Unit):=some (z0O holds e)
theorem yKg(holds:Bool)(e:Int)(y:Int×Unit)(h:yPN holds e=some y):∃ n,yIt n holds e=some y :=
  ⟨0,by rw[← h];show yIt 0 holds e=some (z0O holds e);unfold yIt z0O;first|rfl|(simp only[yI];done)|(simp only[yI];rfl)⟩
def z0O_e:Entry:={ f:=199,args:=yLL,ress:=yQd,m:=fun x=>yPN x.1 x.2.1 }
theorem y9z:FnOK Tryz.prog z0O_e:=yM (g:=yQa) (fn:=Tryz.f199) yD yK eNil (by kernel_rfl) (by kernel_rfl) (by kernel_rfl) (fun x y h=>let ⟨n,hn⟩:=yKg x.1 x.2.1 y h;⟨yK4 n,iNil,(yQF n x).trans hn⟩)
abbrev zz_a:Ty:=.pair t9 .unit
abbrev zz_r:Ty:=.pair t4 .unit
def zz_g:G:={ T:=T,E:=[],muts:=[],fz:=[] }
def zz_k:List (List Nat):=[[0,8]]
def yOz(n:Nat):Ann:={ keep:=zz_k,fuel:=n,inl:=[],deep:=0 }
def y68(n:Nat)(r0:List UInt8→List UInt8→Int→Option (Bool×Unit))(ak:List UInt8)(str0__0:List UInt8)(pos0__0:Int)(j2:Bool)(j7:Bool):Option (Bool×Unit) :=
  (bif !j2 then (bif pos0__0==0 then some (Bool.false,())else (bif !j7 then some (Bool.false,())else r0 ak str0__0 (yc str0__0 pos0__0).2))else r0 ak str0__0 (yc str0__0 pos0__0).2)
def y3u(n:Nat)(r0:List UInt8→List UInt8→Int→Option (Bool×Unit))(ak:List UInt8)(str0__0:List UInt8)(pos0__0:Int)(j2:Bool):Option (Bool×Unit) :=
  (bif decide ((yc str0__0 pos0__0).1 ≥ 48)then (bif decide ((yc str0__0 pos0__0).1≤57)then (y68 n r0 ak str0__0 pos0__0 j2 (Bool.true))else (y68 n r0 ak str0__0 pos0__0 j2 ((yc str0__0 pos0__0).1==95)))else (y68 n r0 ak str0__0 pos0__0 j2 ((yc str0__0 pos0__0).1==95)))
def yGC(n:Nat)(r0:List UInt8→List UInt8→Int→Option (Bool×Unit))(ak:List UInt8)(str0__0:List UInt8)(pos0__0:Int):Option (Bool×Unit) :=
  (bif decide (pos0__0 < (↑str0__0.length:Int))then (bif decide ((yc str0__0 pos0__0).1 ≥ 65)then (bif decide ((yc str0__0 pos0__0).1≤90)then (y3u n r0 ak str0__0 pos0__0 (Bool.true))else (bif decide ((yc str0__0 pos0__0).1 ≥ 97)then (y3u n r0 ak str0__0 pos0__0 (decide ((yc str0__0 pos0__0).1≤122)))else (y3u n r0 ak str0__0 pos0__0 (Bool.false))))else (bif decide ((yc str0__0 pos0__0).1 ≥ 97)then (y3u n r0 ak str0__0 pos0__0 (decide ((yc str0__0 pos0__0).1≤122)))else (y3u n r0 ak str0__0 pos0__0 (Bool.false))))else (bif !ak==[]then some (decide ((↑ak.length:Int)≤24),())else some (Bool.false,())))
def y9B(n:Nat)(k:Nat)(ak:List UInt8)(str0__0:List UInt8)(pos0__0:Int):Option (Bool×Unit) :=
  iter (fun r y=>yGC n (fun ak str0__0 pos0__0=>r ((ak,()),(((str0__0,pos0__0),()),()))) y.1.1 y.2.1.1.1 y.2.1.1.2) k ((ak,()),(((str0__0,pos0__0),()),()))
def zz_m(n:Nat)(s:List UInt8):Option (Bool×Unit) :=
  (y9B n n (s) (s) ((0:Int)))
theorem yTg(n:Nat)(x:zz_a.den):runF zz_g (yOz n) Tryz.f200 zz_a zz_r x=zz_m n x.1:=by kernel_rfl
def yDg(ak:List UInt8)(str0__0:List UInt8)(pos0__0:Int)(j2:Bool)(j7:Bool):Option ((Bool×Unit)⊕Unit) :=
  (bif !j2 then (bif pos0__0==0 then (some (Sum.inl ((Bool.false,()))))else (bif !j7 then (some (Sum.inl ((Bool.false,()))))else (some (Sum.inr ()))))else (some (Sum.inr ())))
theorem y0w(n:Nat)(hn:big≤n)(r0:List UInt8→List UInt8→Int→Option (Bool×Unit))(ak:List UInt8)(str0__0:List UInt8)(pos0__0:Int)(j2:Bool)(j7:Bool):LeF (elim some fun (s__:Unit)=>r0 ak str0__0 (yc (str0__0) pos0__0).2) (yDg ak str0__0 pos0__0 j2 j7) (y68 n r0 ak str0__0 pos0__0 j2 j7) :=
  (y5 (y5 (y7 rfl) (y5 (y7 rfl) (y7 rfl))) (y7 rfl))
def y7w(ak:List UInt8)(str0__0:List UInt8)(pos0__0:Int)(j2:Bool):Option ((Bool×Unit)⊕Unit) :=
  (bif decide ((yc str0__0 pos0__0).1 ≥ 48)then (bif decide ((yc str0__0 pos0__0).1≤57)then (yDg ak str0__0 pos0__0 j2 (Bool.true))else (yDg ak str0__0 pos0__0 j2 ((yc str0__0 pos0__0).1==95)))else (yDg ak str0__0 pos0__0 j2 ((yc str0__0 pos0__0).1==95)))
theorem y04(n:Nat)(hn:big≤n)(r0:List UInt8→List UInt8→Int→Option (Bool×Unit))(ak:List UInt8)(str0__0:List UInt8)(pos0__0:Int)(j2:Bool):LeF (elim some fun (s__:Unit)=>r0 ak str0__0 (yc (str0__0) pos0__0).2) (y7w ak str0__0 pos0__0 j2) (y3u n r0 ak str0__0 pos0__0 j2) :=
  (y5 (y5 (by apply y0w n hn) (by apply y0w n hn)) (by apply y0w n hn))
def yM9(ak:List UInt8)(str0__0:List UInt8)(pos0__0:Int):Option ((Bool×Unit)⊕Unit) :=
  (bif decide ((yc str0__0 pos0__0).1 ≥ 65)then (bif decide ((yc str0__0 pos0__0).1≤90)then (y7w ak str0__0 pos0__0 (Bool.true))else (bif decide ((yc str0__0 pos0__0).1 ≥ 97)then (y7w ak str0__0 pos0__0 (decide ((yc str0__0 pos0__0).1≤122)))else (y7w ak str0__0 pos0__0 (Bool.false))))else (bif decide ((yc str0__0 pos0__0).1 ≥ 97)then (y7w ak str0__0 pos0__0 (decide ((yc str0__0 pos0__0).1≤122)))else (y7w ak str0__0 pos0__0 (Bool.false))))
def yMg(ak:List UInt8)(str0__0:List UInt8):Option (Bool×Unit) :=
  (bif !ak==[]then (some ((decide ((↑ak.length:Int)≤24),())))else (some ((Bool.false,()))))
theorem yE4(n:Nat)(hn:big≤n)(ak:List UInt8)(str0__0:List UInt8)(hx:List.length (str0__0) < lenMax):LeF some (y9S (str0__0) (fun i__ s__=>yM9 ak str0__0 i__) (fun s__=>yMg ak str0__0) (List.length (str0__0)) 0 ()) (y9B n n ak str0__0 0):=by
  refine yCe (f:=some) (W:=fun k__ i__ s__=>y9B n k__ ak str0__0 i__) (body:=(fun i__ s__=>yM9 ak str0__0 i__)) (fin:=(fun s__=>yMg ak str0__0)) (fun k__ i__ s__=>?_) () n (by unfold big at hn;unfold lenMax at hx;omega)
  show LeF _ _ (yGC n (y9B n k__) ak str0__0 i__)
  exact y5 (y5 (y5 (by apply y04 n hn) (y5 (by apply y04 n hn) (by apply y04 n hn))) (y5 (by apply y04 n hn) (by apply y04 n hn))) (yp (y5 (y7 rfl) (y7 rfl)))
def zz_M(s:List UInt8):Option (Bool×Unit) :=
  (bif decide (List.length (s) < lenMax)then y9S (s) (fun i__ s__=>yM9 (s) (s) i__) (fun s__=>yMg (s) (s)) (List.length (s)) 0 ()else none)
theorem yRo(s:List UInt8)(y:Bool×Unit)(h:zz_M s=some y):∃ n,zz_m n s=some y :=
  ⟨big,LeF.top (show LeF some (zz_M s) (zz_m big s)from (fun (n:Nat) (hn:big≤n)=>show LeF some (zz_M s) (zz_m n s)from (yN fun hx=>by apply yE4 n hn;exact hx)) big (Nat.le_refl _)) h⟩
def zz_e:Entry:={ f:=200,args:=zz_a,ress:=zz_r,m:=fun x=>zz_M x.1 }
theorem yOs:FnOK Tryz.prog zz_e:=yM (g:=zz_g) (fn:=Tryz.f200) yD yK eNil (by kernel_rfl) (by kernel_rfl) (by kernel_rfl) (fun x y h=>let ⟨n,hn⟩:=yRo x.1 y h;⟨yOz n,iNil,(yTg n x).trans hn⟩)
abbrev zO_a:Ty:=.pair t63 (.pair (.ref t60) .unit)
abbrev zO_r:Ty:=.pair t4 .unit
def zO_g:G:={ T:=T,E:=[],muts:=[],fz:=[] }
def zO_k:List (List Nat):=[]
def yR0(n:Nat):Ann:={ keep:=zO_k,fuel:=n,inl:=[],deep:=0 }
def zO_m(n:Nat)(s:Q3)(p1:List UInt8×Int×List Nat×List (Q3)×Unit):Option (Bool×Unit) :=
  some (decide (s.2.1 > (↑p1.2.2.1.length:Int)),())
theorem yTW(n:Nat)(x:zO_a.den):runF zO_g (yR0 n) Tryz.f205 zO_a zO_r x=zO_m n x.1 x.2.1:=by kernel_rfl
def zO(s:Q3)(p1:List UInt8×Int×List Nat×List (Q3)×Unit):(Bool×Unit) :=
  (decide (s.2.1 > (↑p1.2.2.1.length:Int)),())
abbrev zO_M (s:Q3) (p1:List UInt8×Int×List Nat×List (Q3)×Unit):Option (Bool×Unit):=some (zO s p1)
theorem yOZ(s:Q3)(p1:List UInt8×Int×List Nat×List (Q3)×Unit)(y:Bool×Unit)(h:zO_M s p1=some y):∃ n,zO_m n s p1=some y :=
  ⟨0,by rw[← h];show zO_m 0 s p1=some (zO s p1);unfold zO_m zO;first|rfl|(simp only[yI];done)|(simp only[yI];rfl)⟩
def zO_e:Entry:={ f:=205,args:=zO_a,ress:=zO_r,m:=fun x=>zO_M x.1 x.2.1 }
theorem yUw:FnOK Tryz.prog zO_e:=yM (g:=zO_g) (fn:=Tryz.f205) yD yK eNil (by kernel_rfl) (by kernel_rfl) (by kernel_rfl) (fun x y h=>let ⟨n,hn⟩:=yOZ x.1 x.2.1 y h;⟨yR0 n,iNil,(yTW n x).trans hn⟩)
abbrev zN_a:Ty:=.pair t61 .unit
abbrev zN_r:Ty:=.pair t4 .unit
def zN_g:G:={ T:=T,E:=[],muts:=[],fz:=[] }
def zN_k:List (List Nat):=[]
def yRc(n:Nat):Ann:={ keep:=zN_k,fuel:=n,inl:=[],deep:=0 }
def zN_m(n:Nat)(x1:Nat):Option (Bool×Unit) :=
  some (yY Go.BinOp.neq Go.FloatKind.f32 x1 (nat_lit 0),())
theorem yT4(n:Nat)(x:zN_a.den):runF zN_g (yRc n) Tryz.f208 zN_a zN_r x=zN_m n x.1:=by kernel_rfl
def zN(x1:Nat):(Bool×Unit) :=
  (yY Go.BinOp.neq Go.FloatKind.f32 x1 (nat_lit 0),())
abbrev zN_M (x1:Nat):Option (Bool×Unit):=some (zN x1)
theorem ySS(x1:Nat)(y:Bool×Unit)(h:zN_M x1=some y):∃ n,zN_m n x1=some y :=
  ⟨0,by rw[← h];show zN_m 0 x1=some (zN x1);unfold zN_m zN;first|rfl|(simp only[yI];done)|(simp only[yI];rfl)⟩
def zN_e:Entry:={ f:=208,args:=zN_a,ress:=zN_r,m:=fun x=>zN_M x.1 }
theorem yTJ:FnOK Tryz.prog zN_e:=yM (g:=zN_g) (fn:=Tryz.f208) yD yK eNil (by kernel_rfl) (by kernel_rfl) (by kernel_rfl) (fun x y h=>let ⟨n,hn⟩:=ySS x.1 y h;⟨yRc n,iNil,(yT4 n x).trans hn⟩)
abbrev zY_a:Ty:=.pair t61 .unit
abbrev zY_r:Ty:=.pair t3 .unit
def zY_g:G:={ T:=T,E:=[],muts:=[],fz:=[] }
def zY_k:List (List Nat):=[]
def yPV(n:Nat):Ann:={ keep:=zY_k,fuel:=n,inl:=[],deep:=0 }
def zY_m(n:Nat)(x1:Nat):Option (Int×Unit) :=
  (Option.bind (yl Go.FloatKind.f32 (yd Go.BinOp.mul Go.FloatKind.f32 x1 (nat_lit 1098907648)) IntKind.i64) fun v0=>some (v0,()))
theorem yUL(n:Nat)(x:zY_a.den):runF zY_g (yPV n) Tryz.f224 zY_a zY_r x=zY_m n x.1:=by kernel_rfl
def zY_M(x1:Nat):Option (Int×Unit):=zY_m 0 x1
theorem ySb(x1:Nat)(y:Int×Unit)(h:zY_M x1=some y):∃ n,zY_m n x1=some y:=⟨0,h⟩
def zY_e:Entry:={ f:=224,args:=zY_a,ress:=zY_r,m:=fun x=>zY_M x.1 }
theorem yUH:FnOK Tryz.prog zY_e:=yM (g:=zY_g) (fn:=Tryz.f224) yD yK eNil (by kernel_rfl) (by kernel_rfl) (by kernel_rfl) (fun x y h=>let ⟨n,hn⟩:=ySb x.1 y h;⟨yPV n,iNil,(yUL n x).trans hn⟩)
abbrev zD_a:Ty:=.pair t58 (.pair t263 .unit)
abbrev zD_r:Ty:=.pair t3 .unit
def zD_g:G:={ T:=T,E:=[],muts:=[],fz:=[] }
def zD_k:List (List Nat):=[[0,1,7,8]]
def ySU(n:Nat):Ann:={ keep:=zD_k,fuel:=n,inl:=[],deep:=0 }
def yFX(n:Nat)(r0:List (Q3)→((Q3)×Unit→Option (Bool×Unit))→Int→Int→Option (Int×Unit))(ak:List (Q3))(aT:(Q3)×Unit→Option (Bool×Unit))(ay:Int)(a8:Int):Option (Int×Unit) :=
  (bif decide (a8 < ay)then (Option.bind (idx ak a8) fun v1=>(Option.bind (aT (v1,())) fun v2=>(bif v2.1 then some (a8,())else r0 ak aT ay (IntKind.i64.wrap (a8+1)))))else some ((-1:Int),()))
def y8r(n:Nat)(k:Nat)(ak:List (Q3))(aT:(Q3)×Unit→Option (Bool×Unit))(ay:Int)(a8:Int):Option (Int×Unit) :=
  iter (fun r y=>yFX n (fun ak aT ay a8=>r ((ak,(aT,(ay,(a8,())))),((),()))) y.1.1 y.1.2.1 y.1.2.2.1 y.1.2.2.2.1) k ((ak,(aT,(ay,(a8,())))),((),()))
def zD_m(n:Nat)(s:List (Q3))(f:(Q3)×Unit→Option (Bool×Unit)):Option (Int×Unit) :=
  (y8r n n (s) (f) ((↑s.length:Int)) ((0:Int)))
theorem yTP(n:Nat)(x:zD_a.den):runF zD_g (ySU n) Tryz.f226 zD_a zD_r x=zD_m n x.1 x.2.1:=by kernel_rfl
def yNP(ak:List (Q3))(aT:(Q3)×Unit→Option (Bool×Unit))(a8:Int)(v1:Q3):Option ((Int×Unit)⊕Unit) :=
  (Option.bind (aT (v1,())) fun v2=>(bif v2.1 then (some (Sum.inl ((a8,()))))else (some (Sum.inr ()))))
def yMi(ak:List (Q3))(aT:(Q3)×Unit→Option (Bool×Unit)):Option (Int×Unit) :=
  (some (((-1:Int),())))
theorem yEl(n:Nat)(hn:big≤n)(ak:List (Q3))(aT:(Q3)×Unit→Option (Bool×Unit))(hx:List.length (ak) < lenMax):LeF some (yP (fun i__ e__ s__=>yNP ak aT i__ e__) (fun s__=>yMi ak aT) 0 (ak) ()) (y8r n n ak aT (List.length (ak):Int) 0):=by
  refine yO (f:=some) (W:=fun k__ i__ s__=>y8r n k__ ak aT (List.length (ak):Int) i__) (body:=(fun i__ e__ s__=>yNP ak aT i__ e__)) (fin:=(fun s__=>yMi ak aT)) (fun k__ i__ s__=>?_) hx () n (by unfold big at hn;unfold lenMax at hx;omega)
  show LeF _ _ (yFX n (y8r n k__) ak aT (List.length (ak):Int) i__)
  exact y5 (y8 fun v1=>(y8 fun v2=>(y5 (y7 rfl) (y7 rfl)))) (yp (y7 rfl))
def zD_M(s:List (Q3))(f:(Q3)×Unit→Option (Bool×Unit)):Option (Int×Unit) :=
  (bif decide (List.length (s) < lenMax)then yP (fun i__ e__ s__=>yNP (s) (f) i__ e__) (fun s__=>yMi (s) (f)) 0 (s) ()else none)
theorem yOj(s:List (Q3))(f:(Q3)×Unit→Option (Bool×Unit))(y:Int×Unit)(h:zD_M s f=some y):∃ n,zD_m n s f=some y :=
  ⟨big,LeF.top (show LeF some (zD_M s f) (zD_m big s f)from (fun (n:Nat) (hn:big≤n)=>show LeF some (zD_M s f) (zD_m n s f)from (yN fun hx=>by apply yEl n hn;exact hx)) big (Nat.le_refl _)) h⟩
def zD_e:Entry:={ f:=226,args:=zD_a,ress:=zD_r,m:=fun x=>zD_M x.1 x.2.1 }
theorem yTZ:FnOK Tryz.prog zD_e:=yM (g:=zD_g) (fn:=Tryz.f226) yD yK eNil (by kernel_rfl) (by kernel_rfl) (by kernel_rfl) (fun x y h=>let ⟨n,hn⟩:=yOj x.1 x.2.1 y h;⟨ySU n,iNil,(yTP n x).trans hn⟩)
abbrev zE_a:Ty:=.pair t35 (.pair t265 .unit)
abbrev zE_r:Ty:=.pair t3 .unit
def zE_g:G:={ T:=T,E:=[],muts:=[],fz:=[] }
def zE_k:List (List Nat):=[[0,1,7,8]]
def yP8(n:Nat):Ann:={ keep:=zE_k,fuel:=n,inl:=[],deep:=0 }
def yHK(n:Nat)(r0:List Nat→(Nat×Unit→Option (Bool×Unit))→Int→Int→Option (Int×Unit))(ak:List Nat)(aT:Nat×Unit→Option (Bool×Unit))(ay:Int)(a8:Int):Option (Int×Unit) :=
  (bif decide (a8 < ay)then (Option.bind (idx ak a8) fun v1=>(Option.bind (aT (v1,())) fun v2=>(bif v2.1 then some (a8,())else r0 ak aT ay (IntKind.i64.wrap (a8+1)))))else some ((-1:Int),()))
def y9V(n:Nat)(k:Nat)(ak:List Nat)(aT:Nat×Unit→Option (Bool×Unit))(ay:Int)(a8:Int):Option (Int×Unit) :=
  iter (fun r y=>yHK n (fun ak aT ay a8=>r ((ak,(aT,(ay,(a8,())))),((),()))) y.1.1 y.1.2.1 y.1.2.2.1 y.1.2.2.2.1) k ((ak,(aT,(ay,(a8,())))),((),()))
def zE_m(n:Nat)(s:List Nat)(f:Nat×Unit→Option (Bool×Unit)):Option (Int×Unit) :=
  (y9V n n (s) (f) ((↑s.length:Int)) ((0:Int)))
theorem yUq(n:Nat)(x:zE_a.den):runF zE_g (yP8 n) Tryz.f227 zE_a zE_r x=zE_m n x.1 x.2.1:=by kernel_rfl
def yKy(ak:List Nat)(aT:Nat×Unit→Option (Bool×Unit))(a8:Int)(v1:Nat):Option ((Int×Unit)⊕Unit) :=
  (Option.bind (aT (v1,())) fun v2=>(bif v2.1 then (some (Sum.inl ((a8,()))))else (some (Sum.inr ()))))
def yL8(ak:List Nat)(aT:Nat×Unit→Option (Bool×Unit)):Option (Int×Unit) :=
  (some (((-1:Int),())))
theorem yDk(n:Nat)(hn:big≤n)(ak:List Nat)(aT:Nat×Unit→Option (Bool×Unit))(hx:List.length (ak) < lenMax):LeF some (yP (fun i__ e__ s__=>yKy ak aT i__ e__) (fun s__=>yL8 ak aT) 0 (ak) ()) (y9V n n ak aT (List.length (ak):Int) 0):=by
  refine yO (f:=some) (W:=fun k__ i__ s__=>y9V n k__ ak aT (List.length (ak):Int) i__) (body:=(fun i__ e__ s__=>yKy ak aT i__ e__)) (fin:=(fun s__=>yL8 ak aT)) (fun k__ i__ s__=>?_) hx () n (by unfold big at hn;unfold lenMax at hx;omega)
  show LeF _ _ (yHK n (y9V n k__) ak aT (List.length (ak):Int) i__)
  exact y5 (y8 fun v1=>(y8 fun v2=>(y5 (y7 rfl) (y7 rfl)))) (yp (y7 rfl))
def zE_M(s:List Nat)(f:Nat×Unit→Option (Bool×Unit)):Option (Int×Unit) :=
  (bif decide (List.length (s) < lenMax)then yP (fun i__ e__ s__=>yKy (s) (f) i__ e__) (fun s__=>yL8 (s) (f)) 0 (s) ()else none)
theorem ySD(s:List Nat)(f:Nat×Unit→Option (Bool×Unit))(y:Int×Unit)(h:zE_M s f=some y):∃ n,zE_m n s f=some y :=
  ⟨big,LeF.top (show LeF some (zE_M s f) (zE_m big s f)from (fun (n:Nat) (hn:big≤n)=>show LeF some (zE_M s f) (zE_m n s f)from (yN fun hx=>by apply yDk n hn;exact hx)) big (Nat.le_refl _)) h⟩
def zE_e:Entry:={ f:=227,args:=zE_a,ress:=zE_r,m:=fun x=>zE_M x.1 x.2.1 }
theorem yTs:FnOK Tryz.prog zE_e:=yM (g:=zE_g) (fn:=Tryz.f227) yD yK eNil (by kernel_rfl) (by kernel_rfl) (by kernel_rfl) (fun x y h=>let ⟨n,hn⟩:=ySD x.1 x.2.1 y h;⟨yP8 n,iNil,(yUq n x).trans hn⟩)
end
end Go.Tw
end
section
set_option maxRecDepth 1000000
namespace Go.Tw
open Go.Vx Go.Vx.B Go.Proofs
noncomputable section
abbrev zl_a:Ty:=.pair t96 (.pair t96 .unit)
abbrev zl_r:Ty:=.pair t4 .unit
def zl_g:G:={ T:=T,E:=[zV_e],muts:=[],fz:=[] }
def zl_k:List (List Nat):=[[0,1,5]]
def yPK(n:Nat):Ann:={ keep:=zl_k,fuel:=n,inl:=[],deep:=0 }
def yI3(n:Nat)(r0:List (List (Q3))→List (List (Q3))→Int→Option (Bool×Unit))(ah:List (List (Q3)))(ai:List (List (Q3)))(ax:Int):Option (Bool×Unit) :=
  (bif decide (ax < (↑ah.length:Int))then (Option.bind (idx ah ax) fun v1=>(Option.bind (idx ai ax) fun v2=>(Option.bind (zV_M v1 v2) fun v3=>(bif !v3.1 then some (Bool.false,())else r0 ah ai (IntKind.i64.wrap (ax+1))))))else some (Bool.true,()))
def y8f(n:Nat)(k:Nat)(ah:List (List (Q3)))(ai:List (List (Q3)))(ax:Int):Option (Bool×Unit) :=
  iter (fun r y=>yI3 n (fun ah ai ax=>r ((ah,(ai,(ax,()))),((),()))) y.1.1 y.1.2.1 y.1.2.2.1) k ((ah,(ai,(ax,()))),((),()))
def zl_m(n:Nat)(a:List (List (Q3)))(b:List (List (Q3))):Option (Bool×Unit) :=
  (bif (↑a.length:Int) != (↑b.length:Int)then some (Bool.false,())else (y8f n n (a) (b) ((0:Int))))
theorem yTw(n:Nat)(x:zl_a.den):runF zl_g (yPK n) Tryz.f64 zl_a zl_r x=zl_m n x.1 x.2.1:=by kernel_rfl
def yNN(ah:List (List (Q3)))(ai:List (List (Q3)))(ax:Int)(v1:List (Q3)):Option ((Bool×Unit)⊕Unit) :=
  (Option.bind (idx ai ax) fun v2=>(Option.bind (zV_M v1 v2) fun v3=>(bif !v3.1 then (some (Sum.inl ((Bool.false,()))))else (some (Sum.inr ())))))
def yMI(ah:List (List (Q3)))(ai:List (List (Q3))):Option (Bool×Unit) :=
  (some ((Bool.true,())))
theorem yEZ(n:Nat)(hn:big≤n)(ah:List (List (Q3)))(ai:List (List (Q3)))(hx:List.length (ah) < lenMax):LeF some (yP (fun i__ e__ s__=>yNN ah ai i__ e__) (fun s__=>yMI ah ai) 0 (ah) ()) (y8f n n ah ai 0):=by
  refine yO (f:=some) (W:=fun k__ i__ s__=>y8f n k__ ah ai i__) (body:=(fun i__ e__ s__=>yNN ah ai i__ e__)) (fin:=(fun s__=>yMI ah ai)) (fun k__ i__ s__=>?_) hx () n (by unfold big at hn;unfold lenMax at hx;omega)
  show LeF _ _ (yI3 n (y8f n k__) ah ai i__)
  exact y5 (y8 fun v1=>(y8 fun v2=>(y8 fun v3=>(y5 (y7 rfl) (y7 rfl))))) (yp (y7 rfl))
def zl_M(a:List (List (Q3)))(b:List (List (Q3))):Option (Bool×Unit) :=
  (bif (↑a.length:Int) != (↑b.length:Int)then (some ((Bool.false,())))else (bif decide (List.length (a) < lenMax)then yP (fun i__ e__ s__=>yNN (a) (b) i__ e__) (fun s__=>yMI (a) (b)) 0 (a) ()else none))
theorem ySI(a:List (List (Q3)))(b:List (List (Q3)))(y:Bool×Unit)(h:zl_M a b=some y):∃ n,zl_m n a b=some y :=
  ⟨big,LeF.top (show LeF some (zl_M a b) (zl_m big a b)from (fun (n:Nat) (hn:big≤n)=>show LeF some (zl_M a b) (zl_m n a b)from (y5 (y7 rfl) (yN fun hx=>by apply yEZ n hn;exact hx))) big (Nat.le_refl _)) h⟩
def zl_e:Entry:={ f:=64,args:=zl_a,ress:=zl_r,m:=fun x=>zl_M x.1 x.2.1 }
theorem yTl:FnOK Tryz.prog zl_e:=yM (g:=zl_g) (fn:=Tryz.f64) yD yK (yC yPt eNil) (by kernel_rfl) (by kernel_rfl) (by kernel_rfl) (fun x y h=>let ⟨n,hn⟩:=ySI x.1 x.2.1 y h;⟨yPK n,iNil,(yTw n x).trans hn⟩)
abbrev yLS:Ty:=.pair t3 (.pair t3 (.pair t3 .unit))
abbrev yQ9:Ty:=.pair t28 .unit
def yOf:G:={ T:=T,E:=[z0m_e],muts:=[],fz:=[] }
def yT6:List (List Nat):=[]
def yK7(n:Nat):Ann:={ keep:=yT6,fuel:=n,inl:=[],deep:=0 }
def yIT(n:Nat)(n1:Int)(least:Int)(most:Int):Option (Int×Unit) :=
  (bif decide (n1 < least)then some ((z0m Bool.true (3:Int)).1,())else some ((z0m (decide (n1 > most)) (3:Int)).1,()))
theorem yQB(n:Nat)(x:yLS.den):runF yOf (yK7 n) Tryz.f114 yLS yQ9 x=yIT n x.1 x.2.1 x.2.2.1:=by kernel_rfl
def z0N(n1:Int)(least:Int)(most:Int):(Int×Unit) :=
  (bif decide (n1 < least)then ((z0m Bool.true (3:Int)).1,())else ((z0m (decide (n1 > most)) (3:Int)).1,()))
abbrev yPd (n1:Int) (least:Int) (most:Int):Option (Int×Unit):=some (z0N n1 least most)
theorem yL6(n1:Int)(least:Int)(most:Int)(y:Int×Unit)(h:yPd n1 least most=some y):∃ n,yIT n n1 least most=some y :=
  ⟨0,by rw[← h];show yIT 0 n1 least most=some (z0N n1 least most);unfold yIT z0N;first|rfl|(simp only[yI];done)|(simp only[yI];rfl)⟩
def z0N_e:Entry:={ f:=114,args:=yLS,ress:=yQ9,m:=fun x=>yPd x.1 x.2.1 x.2.2.1 }
theorem yAu:FnOK Tryz.prog z0N_e:=yM (g:=yOf) (fn:=Tryz.f114) yD yK (yC y5Y eNil) (by kernel_rfl) (by kernel_rfl) (by kernel_rfl) (fun x y h=>let ⟨n,hn⟩:=yL6 x.1 x.2.1 x.2.2.1 y h;⟨yK7 n,iNil,(yQB n x).trans hn⟩)
abbrev zi_a:Ty:=.pair t33 .unit
abbrev zi_r:Ty:=.pair t4 .unit
def zi_g:G:={ T:=T,E:=[zx_e],muts:=[],fz:=[] }
def zi_k:List (List Nat):=[[1,6,7,8]]
def ySA(n:Nat):Ann:={ keep:=zi_k,fuel:=n,inl:=[],deep:=0 }
def yHV(n:Nat)(r0:Q1→List (Q3)→Int→Int→Option (Bool×Unit))(aw:Q1)(aS:List (Q3))(ay:Int)(a8:Int):Option (Bool×Unit) :=
  (bif decide (a8 < ay)then (Option.bind (idx aS a8) fun v1=>(bif decide ((if (zx v1.2.1).1 > (zx v1.1).1 then (zx v1.2.1).1 else (zx v1.1).1) > 4194304)then some (Bool.false,())else r0 aw aS ay (IntKind.i64.wrap (a8+1))))else some (decide (aw.2.2.1≤4096),()))
def y8k(n:Nat)(k:Nat)(aw:Q1)(aS:List (Q3))(ay:Int)(a8:Int):Option (Bool×Unit) :=
  iter (fun r y=>yHV n (fun aw aS ay a8=>r ((aw,(aS,(ay,(a8,())))),((),()))) y.1.1 y.1.2.1 y.1.2.2.1 y.1.2.2.2.1) k ((aw,(aS,(ay,(a8,())))),((),()))
def zi_m(n:Nat)(t:Q1):Option (Bool×Unit) :=
  (y8k n n (t) (t.2.1) ((↑t.2.1.length:Int)) ((0:Int)))
theorem ySz(n:Nat)(x:zi_a.den):runF zi_g (ySA n) Tryz.f129 zi_a zi_r x=zi_m n x.1:=by kernel_rfl
def yLQ(aw:Q1)(aS:List (Q3))(a8:Int)(v1:Q3):Option ((Bool×Unit)⊕Unit) :=
  (bif decide ((if (zx v1.2.1).1 > (zx v1.1).1 then (zx v1.2.1).1 else (zx v1.1).1) > 4194304)then (some (Sum.inl ((Bool.false,()))))else (some (Sum.inr ())))
def yL3(aw:Q1)(aS:List (Q3)):Option (Bool×Unit) :=
  (some ((decide (aw.2.2.1≤4096),())))
theorem yEG(n:Nat)(hn:big≤n)(aw:Q1)(aS:List (Q3))(hx:List.length (aS) < lenMax):LeF some (yP (fun i__ e__ s__=>yLQ aw aS i__ e__) (fun s__=>yL3 aw aS) 0 (aS) ()) (y8k n n aw aS (List.length (aS):Int) 0):=by
  refine yO (f:=some) (W:=fun k__ i__ s__=>y8k n k__ aw aS (List.length (aS):Int) i__) (body:=(fun i__ e__ s__=>yLQ aw aS i__ e__)) (fin:=(fun s__=>yL3 aw aS)) (fun k__ i__ s__=>?_) hx () n (by unfold big at hn;unfold lenMax at hx;omega)
  show LeF _ _ (yHV n (y8k n k__) aw aS (List.length (aS):Int) i__)
  exact y5 (y8 fun v1=>(y5 (y7 rfl) (y7 rfl))) (yp (y7 rfl))
def zi_M(t:Q1):Option (Bool×Unit) :=
  (bif decide (List.length (t.2.1) < lenMax)then yP (fun i__ e__ s__=>yLQ (t) (t.2.1) i__ e__) (fun s__=>yL3 (t) (t.2.1)) 0 (t.2.1) ()else none)
theorem yQn(t:Q1)(y:Bool×Unit)(h:zi_M t=some y):∃ n,zi_m n t=some y :=
  ⟨big,LeF.top (show LeF some (zi_M t) (zi_m big t)from (fun (n:Nat) (hn:big≤n)=>show LeF some (zi_M t) (zi_m n t)from (yN fun hx=>by apply yEG n hn;exact hx)) big (Nat.le_refl _)) h⟩
def zi_e:Entry:={ f:=129,args:=zi_a,ress:=zi_r,m:=fun x=>zi_M x.1 }
theorem ySu:FnOK Tryz.prog zi_e:=yM (g:=zi_g) (fn:=Tryz.f129) yD yK (yC yFr eNil) (by kernel_rfl) (by kernel_rfl) (by kernel_rfl) (fun x y h=>let ⟨n,hn⟩:=yQn x.1 y h;⟨ySA n,iNil,(ySz n x).trans hn⟩)
abbrev yMH:Ty:=.pair t57 .unit
abbrev ySa:Ty:=.pair t28 .unit
def ySZ:G:={ T:=T,E:=[zx_e,z0m_e],muts:=[],fz:=[] }
def ySv:List (List Nat):=[]
def yJq(n:Nat):Ann:={ keep:=ySv,fuel:=n,inl:=[],deep:=0 }
def yIk(n:Nat)(z:Q3):Option (Int×Unit) :=
  some ((z0m (decide ((if (zx z.2.1).1 > (zx z.1).1 then (zx z.2.1).1 else (zx z.1).1) > 16777216)) (1:Int)).1,())
theorem ySe(n:Nat)(x:yMH.den):runF ySZ (yJq n) Tryz.f138 yMH ySa x=yIk n x.1:=by kernel_rfl
def z0H(z:Q3):(Int×Unit) :=
  ((z0m (decide ((if (zx z.2.1).1 > (zx z.1).1 then (zx z.2.1).1 else (zx z.1).1) > 16777216)) (1:Int)).1,())
abbrev yM3 (z:Q3):Option (Int×Unit):=some (z0H z)
theorem yLF(z:Q3)(y:Int×Unit)(h:yM3 z=some y):∃ n,yIk n z=some y :=
  ⟨0,by rw[← h];show yIk 0 z=some (z0H z);unfold yIk z0H;first|rfl|(simp only[yI];done)|(simp only[yI];rfl)⟩
def z0H_e:Entry:={ f:=138,args:=yMH,ress:=ySa,m:=fun x=>yM3 x.1 }
theorem yOW:FnOK Tryz.prog z0H_e:=yM (g:=ySZ) (fn:=Tryz.f138) yD yK (yC yFr (yC y5Y eNil)) (by kernel_rfl) (by kernel_rfl) (by kernel_rfl) (fun x y h=>let ⟨n,hn⟩:=yLF x.1 y h;⟨yJq n,iNil,(ySe n x).trans hn⟩)
abbrev yMb:Ty:=.pair t60 (.pair t55 (.pair t55 .unit))
abbrev yOy:Ty:=.pair t57 .unit
def yS9:G:={ T:=T,E:=[zQ_e,zq_e,z0f_e,z0l_e],muts:=[],fz:=[] }
def yTD:List (List Nat):=[]
def yK6(n:Nat):Ann:={ keep:=yTD,fuel:=n,inl:=[il124,il195],deep:=3 }
def y70(n:Nat)(r0:List UInt8×Int×List Nat×List (Q3)×Unit→List (Q3)→List Nat→Int→Int→List UInt8×Int×List Nat×List (Q3)×Unit→Q2→Q2→List UInt8×Int×List Nat×List (Q3)×Unit→Q2→Q2→Q3→List UInt8×Int×List Nat×List (Q3)×Unit→List UInt8×Int×List Nat×List (Q3)×Unit→Int→Int→Int→Int→List UInt8×Int×List Nat×List (Q3)×Unit→Q2→Q2→List UInt8×Int×List Nat×List (Q3)×Unit→Q2→Q2→Q3→List UInt8×Int×List Nat×List (Q3)×Unit→List UInt8×Int×List Nat×List (Q3)×Unit→Option ((Q3)×Unit))(j8:List UInt8×Int×List Nat×List (Q3)×Unit)(j9:List (Q3))(j10:Int)(j11:Nat)(j12:List Nat)(j13:Int)(j14:Int)(j15:List UInt8×Int×List Nat×List (Q3)×Unit)(j16:Q2)(j17:Q2)(j18:List UInt8×Int×List Nat×List (Q3)×Unit)(j19:Q2)(j20:Q2)(j21:Q3)(j22:List UInt8×Int×List Nat×List (Q3)×Unit)(j23:List UInt8×Int×List Nat×List (Q3)×Unit)(j24:Int)(j25:Int)(j26:Int)(j27:Int)(j28:List UInt8×Int×List Nat×List (Q3)×Unit)(j29:Q2)(j30:Q2)(j31:List UInt8×Int×List Nat×List (Q3)×Unit)(j32:Q2)(j33:Q2)(j34:Q3)(j35:List UInt8×Int×List Nat×List (Q3)×Unit)(j36:List UInt8×Int×List Nat×List (Q3)×Unit):Option ((Q3)×Unit) :=
  (bif decide ((↑j9.length:Int) > 0)then (Option.bind (idx j9 (0:Int)) fun v37=>(bif decide (v37.1≤j10)then r0 j8 j9 j12 j13 (IntKind.i64.wrap (j14+1)) j15 j16 j17 j18 j19 j20 j21 j22 j23 j24 j25 j26 j27 j28 j29 j30 j31 j32 j33 j34 j35 j36 else (Option.bind (yl Go.FloatKind.f32 (yd Go.BinOp.mul Go.FloatKind.f32 j11 (nat_lit 1098907648)) IntKind.i64) fun v42=>(Option.bind (zQ_M j19 (IntKind.i64.wrap (j8.2.1+j10))) fun v43=>(Option.bind (zQ_M j20 (IntKind.i64.wrap (j8.2.1+j10))) fun v44=>r0 j8 j9 j12 j13 (IntKind.i64.wrap (j14+1)) j15 j16 j17 j18 j19 j20 j21 j22 j23 j24 j25 (z0l (j26,j27,()) (z0f (zq v43.1).1 v44.1).1).1.1 (z0l (j26,j27,()) (z0f (zq v43.1).1 v44.1).1).1.2.1 j28 j29 j30 j31 j32 j33 j34 j35 j36)))))else (Option.bind (yl Go.FloatKind.f32 (yd Go.BinOp.mul Go.FloatKind.f32 j11 (nat_lit 1098907648)) IntKind.i64) fun v45=>(Option.bind (zQ_M j19 (IntKind.i64.wrap (j8.2.1+j10))) fun v46=>(Option.bind (zQ_M j20 (IntKind.i64.wrap (j8.2.1+j10))) fun v47=>r0 j8 j9 j12 j13 (IntKind.i64.wrap (j14+1)) j15 j16 j17 j18 j19 j20 j21 j22 j23 j24 j25 (z0l (j26,j27,()) (z0f (zq v46.1).1 v47.1).1).1.1 (z0l (j26,j27,()) (z0f (zq v46.1).1 v47.1).1).1.2.1 j28 j29 j30 j31 j32 j33 j34 j35 j36))))
def yDL(n:Nat)(r0:List UInt8×Int×List Nat×List (Q3)×Unit→List (Q3)→List Nat→Int→Int→List UInt8×Int×List Nat×List (Q3)×Unit→Q2→Q2→List UInt8×Int×List Nat×List (Q3)×Unit→Q2→Q2→Q3→List UInt8×Int×List Nat×List (Q3)×Unit→List UInt8×Int×List Nat×List (Q3)×Unit→Int→Int→Int→Int→List UInt8×Int×List Nat×List (Q3)×Unit→Q2→Q2→List UInt8×Int×List Nat×List (Q3)×Unit→Q2→Q2→Q3→List UInt8×Int×List Nat×List (Q3)×Unit→List UInt8×Int×List Nat×List (Q3)×Unit→Option ((Q3)×Unit))(r2:List UInt8×Int×List Nat×List (Q3)×Unit→List (Q3)→Int→Nat→List Nat→Int→Int→List UInt8×Int×List Nat×List (Q3)×Unit→Q2→Q2→List UInt8×Int×List Nat×List (Q3)×Unit→Q2→Q2→Q3→List UInt8×Int×List Nat×List (Q3)×Unit→List UInt8×Int×List Nat×List (Q3)×Unit→Int→Int→Int→Int→List UInt8×Int×List Nat×List (Q3)×Unit→Q2→Q2→List UInt8×Int×List Nat×List (Q3)×Unit→Q2→Q2→Q3→List UInt8×Int×List Nat×List (Q3)×Unit→List UInt8×Int×List Nat×List (Q3)×Unit→Option ((Q3)×Unit))(aA:List UInt8×Int×List Nat×List (Q3)×Unit)(ac:List (Q3))(aB:Int)(aF:Nat)(av:List Nat)(aq:Int)(ar:Int)(p0_0_2:List UInt8×Int×List Nat×List (Q3)×Unit)(p0_1_2:Q2)(p0_2_2:Q2)(p0_3_2:List UInt8×Int×List Nat×List (Q3)×Unit)(p0_4_2:Q2)(p0_5_2:Q2)(p0_9_2:Q3)(p0_10_2:List UInt8×Int×List Nat×List (Q3)×Unit)(p0_11_2_0:List UInt8×Int×List Nat×List (Q3)×Unit)(b1_0_2:Int)(b1_1_2:Int)(b2_0_2:Int)(b2_1_2:Int)(aC:List UInt8×Int×List Nat×List (Q3)×Unit)(aD:Q2)(aR:Q2)(b9:List UInt8×Int×List Nat×List (Q3)×Unit)(ba:Q2)(aQ:Q2)(bc:Q3)(aX:List UInt8×Int×List Nat×List (Q3)×Unit)(k11_2_0:List UInt8×Int×List Nat×List (Q3)×Unit):Option ((Q3)×Unit) :=
  (bif decide ((↑ac.length:Int) > 0)then (Option.bind (idx ac (0:Int)) fun v3=>(bif decide (v3.2.1≤aB)then (bif decide ((0:Int)≤1) && decide ((1:Int)≤(↑ac.length:Int))then r2 aA (List.drop (Int.toNat (1:Int)) ac) aB aF av aq ar p0_0_2 p0_1_2 p0_2_2 p0_3_2 p0_4_2 p0_5_2 p0_9_2 p0_10_2 p0_11_2_0 b1_0_2 b1_1_2 b2_0_2 b2_1_2 aC aD aR b9 ba aQ bc aX k11_2_0 else none)else (y70 n r0 (aA) (ac) (aB) (aF) (av) (aq) (ar) (p0_0_2) (p0_1_2) (p0_2_2) (p0_3_2) (p0_4_2) (p0_5_2) (p0_9_2) (p0_10_2) (p0_11_2_0) (b1_0_2) (b1_1_2) (b2_0_2) (b2_1_2) (aC) (aD) (aR) (b9) (ba) (aQ) (bc) (aX) (k11_2_0))))else (y70 n r0 (aA) (ac) (aB) (aF) (av) (aq) (ar) (p0_0_2) (p0_1_2) (p0_2_2) (p0_3_2) (p0_4_2) (p0_5_2) (p0_9_2) (p0_10_2) (p0_11_2_0) (b1_0_2) (b1_1_2) (b2_0_2) (b2_1_2) (aC) (aD) (aR) (b9) (ba) (aQ) (bc) (aX) (k11_2_0)))
def y6J(n:Nat)(r0:List UInt8×Int×List Nat×List (Q3)×Unit→List (Q3)→List Nat→Int→Int→List UInt8×Int×List Nat×List (Q3)×Unit→Q2→Q2→List UInt8×Int×List Nat×List (Q3)×Unit→Q2→Q2→Q3→List UInt8×Int×List Nat×List (Q3)×Unit→List UInt8×Int×List Nat×List (Q3)×Unit→Int→Int→Int→Int→List UInt8×Int×List Nat×List (Q3)×Unit→Q2→Q2→List UInt8×Int×List Nat×List (Q3)×Unit→Q2→Q2→Q3→List UInt8×Int×List Nat×List (Q3)×Unit→List UInt8×Int×List Nat×List (Q3)×Unit→Option ((Q3)×Unit))(k:Nat)(aA:List UInt8×Int×List Nat×List (Q3)×Unit)(ac:List (Q3))(aB:Int)(aF:Nat)(av:List Nat)(aq:Int)(ar:Int)(p0_0_2:List UInt8×Int×List Nat×List (Q3)×Unit)(p0_1_2:Q2)(p0_2_2:Q2)(p0_3_2:List UInt8×Int×List Nat×List (Q3)×Unit)(p0_4_2:Q2)(p0_5_2:Q2)(p0_9_2:Q3)(p0_10_2:List UInt8×Int×List Nat×List (Q3)×Unit)(p0_11_2_0:List UInt8×Int×List Nat×List (Q3)×Unit)(b1_0_2:Int)(b1_1_2:Int)(b2_0_2:Int)(b2_1_2:Int)(aC:List UInt8×Int×List Nat×List (Q3)×Unit)(aD:Q2)(aR:Q2)(b9:List UInt8×Int×List Nat×List (Q3)×Unit)(ba:Q2)(aQ:Q2)(bc:Q3)(aX:List UInt8×Int×List Nat×List (Q3)×Unit)(k11_2_0:List UInt8×Int×List Nat×List (Q3)×Unit):Option ((Q3)×Unit) :=
  iter (fun r y=>yDL n r0 (fun aA ac aB aF av aq ar p0_0_2 p0_1_2 p0_2_2 p0_3_2 p0_4_2 p0_5_2 p0_9_2 p0_10_2 p0_11_2_0 b1_0_2 b1_1_2 b2_0_2 b2_1_2 aC aD aR b9 ba aQ bc aX k11_2_0=>r ((aA,(ac,(aB,(aF,(av,(aq,(ar,()))))))),(((p0_0_2,(p0_1_2,(p0_2_2,(p0_3_2,(p0_4_2,(p0_5_2,(p0_9_2,(p0_10_2,((p0_11_2_0,()),()))))))))),((b1_0_2,(b1_1_2,())),((b2_0_2,(b2_1_2,())),()))),(aC,(aD,(aR,(b9,(ba,(aQ,(bc,(aX,((k11_2_0,()),())))))))))))) y.1.1 y.1.2.1 y.1.2.2.1 y.1.2.2.2.1 y.1.2.2.2.2.1 y.1.2.2.2.2.2.1 y.1.2.2.2.2.2.2.1 y.2.1.1.1 y.2.1.1.2.1 y.2.1.1.2.2.1 y.2.1.1.2.2.2.1 y.2.1.1.2.2.2.2.1 y.2.1.1.2.2.2.2.2.1 y.2.1.1.2.2.2.2.2.2.1 y.2.1.1.2.2.2.2.2.2.2.1 y.2.1.1.2.2.2.2.2.2.2.2.1.1 y.2.1.2.1.1 y.2.1.2.1.2.1 y.2.1.2.2.1.1 y.2.1.2.2.1.2.1 y.2.2.1 y.2.2.2.1 y.2.2.2.2.1 y.2.2.2.2.2.1 y.2.2.2.2.2.2.1 y.2.2.2.2.2.2.2.1 y.2.2.2.2.2.2.2.2.1 y.2.2.2.2.2.2.2.2.2.1 y.2.2.2.2.2.2.2.2.2.2.1.1) k ((aA,(ac,(aB,(aF,(av,(aq,(ar,()))))))),(((p0_0_2,(p0_1_2,(p0_2_2,(p0_3_2,(p0_4_2,(p0_5_2,(p0_9_2,(p0_10_2,((p0_11_2_0,()),()))))))))),((b1_0_2,(b1_1_2,())),((b2_0_2,(b2_1_2,())),()))),(aC,(aD,(aR,(b9,(ba,(aQ,(bc,(aX,((k11_2_0,()),())))))))))))
def yDE(n:Nat)(r0:List UInt8×Int×List Nat×List (Q3)×Unit→List (Q3)→List Nat→Int→Int→List UInt8×Int×List Nat×List (Q3)×Unit→Q2→Q2→List UInt8×Int×List Nat×List (Q3)×Unit→Q2→Q2→Q3→List UInt8×Int×List Nat×List (Q3)×Unit→List UInt8×Int×List Nat×List (Q3)×Unit→Int→Int→Int→Int→List UInt8×Int×List Nat×List (Q3)×Unit→Q2→Q2→List UInt8×Int×List Nat×List (Q3)×Unit→Q2→Q2→Q3→List UInt8×Int×List Nat×List (Q3)×Unit→List UInt8×Int×List Nat×List (Q3)×Unit→Option ((Q3)×Unit))(aw:List UInt8×Int×List Nat×List (Q3)×Unit)(aj:List (Q3))(af:List Nat)(ae:Int)(am:Int)(p0_0_0:List UInt8×Int×List Nat×List (Q3)×Unit)(p0_1_0:Q2)(p0_2_0:Q2)(p0_3_0:List UInt8×Int×List Nat×List (Q3)×Unit)(p0_4_0:Q2)(p0_5_0:Q2)(p0_9_0:Q3)(p0_10_0:List UInt8×Int×List Nat×List (Q3)×Unit)(p0_11_0_0:List UInt8×Int×List Nat×List (Q3)×Unit)(b1_0_0:Int)(b1_1_0:Int)(b2_0_0:Int)(b2_1_0:Int)(aG:List UInt8×Int×List Nat×List (Q3)×Unit)(aH:Q2)(aV:Q2)(bj:List UInt8×Int×List Nat×List (Q3)×Unit)(bl:Q2)(aU:Q2)(bm:Q3)(b4:List UInt8×Int×List Nat×List (Q3)×Unit)(k11_0_0:List UInt8×Int×List Nat×List (Q3)×Unit):Option ((Q3)×Unit) :=
  (bif decide (am < ae)then (Option.bind (idx af am) fun v1=>(y6J n r0 n (aw) (aj) (am) (v1) (af) (ae) (am) (p0_0_0) (p0_1_0) (p0_2_0) (p0_3_0) (p0_4_0) (p0_5_0) (p0_9_0) (p0_10_0) (p0_11_0_0) (b1_0_0) (b1_1_0) (b2_0_0) (b2_1_0) (aG) (aH) (aV) (bj) (bl) (aU) (bm) (b4) (k11_0_0)))else some ((b2_0_0,b2_1_0,()),()))
def y6H(n:Nat)(k:Nat)(aw:List UInt8×Int×List Nat×List (Q3)×Unit)(aj:List (Q3))(af:List Nat)(ae:Int)(am:Int)(p0_0_0:List UInt8×Int×List Nat×List (Q3)×Unit)(p0_1_0:Q2)(p0_2_0:Q2)(p0_3_0:List UInt8×Int×List Nat×List (Q3)×Unit)(p0_4_0:Q2)(p0_5_0:Q2)(p0_9_0:Q3)(p0_10_0:List UInt8×Int×List Nat×List (Q3)×Unit)(p0_11_0_0:List UInt8×Int×List Nat×List (Q3)×Unit)(b1_0_0:Int)(b1_1_0:Int)(b2_0_0:Int)(b2_1_0:Int)(aG:List UInt8×Int×List Nat×List (Q3)×Unit)(aH:Q2)(aV:Q2)(bj:List UInt8×Int×List Nat×List (Q3)×Unit)(bl:Q2)(aU:Q2)(bm:Q3)(b4:List UInt8×Int×List Nat×List (Q3)×Unit)(k11_0_0:List UInt8×Int×List Nat×List (Q3)×Unit):Option ((Q3)×Unit) :=
  iter (fun r y=>yDE n (fun aw aj af ae am p0_0_0 p0_1_0 p0_2_0 p0_3_0 p0_4_0 p0_5_0 p0_9_0 p0_10_0 p0_11_0_0 b1_0_0 b1_1_0 b2_0_0 b2_1_0 aG aH aV bj bl aU bm b4 k11_0_0=>r ((aw,(aj,(af,(ae,(am,()))))),(((p0_0_0,(p0_1_0,(p0_2_0,(p0_3_0,(p0_4_0,(p0_5_0,(p0_9_0,(p0_10_0,((p0_11_0_0,()),()))))))))),((b1_0_0,(b1_1_0,())),((b2_0_0,(b2_1_0,())),()))),(aG,(aH,(aV,(bj,(bl,(aU,(bm,(b4,((k11_0_0,()),())))))))))))) y.1.1 y.1.2.1 y.1.2.2.1 y.1.2.2.2.1 y.1.2.2.2.2.1 y.2.1.1.1 y.2.1.1.2.1 y.2.1.1.2.2.1 y.2.1.1.2.2.2.1 y.2.1.1.2.2.2.2.1 y.2.1.1.2.2.2.2.2.1 y.2.1.1.2.2.2.2.2.2.1 y.2.1.1.2.2.2.2.2.2.2.1 y.2.1.1.2.2.2.2.2.2.2.2.1.1 y.2.1.2.1.1 y.2.1.2.1.2.1 y.2.1.2.2.1.1 y.2.1.2.2.1.2.1 y.2.2.1 y.2.2.2.1 y.2.2.2.2.1 y.2.2.2.2.2.1 y.2.2.2.2.2.2.1 y.2.2.2.2.2.2.2.1 y.2.2.2.2.2.2.2.2.1 y.2.2.2.2.2.2.2.2.2.1 y.2.2.2.2.2.2.2.2.2.2.1.1) k ((aw,(aj,(af,(ae,(am,()))))),(((p0_0_0,(p0_1_0,(p0_2_0,(p0_3_0,(p0_4_0,(p0_5_0,(p0_9_0,(p0_10_0,((p0_11_0_0,()),()))))))))),((b1_0_0,(b1_1_0,())),((b2_0_0,(b2_1_0,())),()))),(aG,(aH,(aV,(bj,(bl,(aU,(bm,(b4,((k11_0_0,()),())))))))))))
def yJ4(n:Nat)(r1:List UInt8×Int×List Nat×List (Q3)×Unit)(a:Q2)(b:Q2):Option ((Q3)×Unit) :=
  (y6H n n (r1) (r1.2.2.2.1) (r1.2.2.1) ((↑r1.2.2.1.length:Int)) ((0:Int)) (r1) (a) (b) (r1) (a) (b) (((0:Int),(0:Int),())) (r1) (r1) ((0:Int)) ((0:Int)) ((0:Int)) ((0:Int)) (r1) (a) (b) (r1) (a) (b) (((0:Int),(0:Int),())) (r1) (r1))
theorem yQY(n:Nat)(x:yMb.den):runF yS9 (yK6 n) Tryz.f148 yMb yOy x=yJ4 n x.1 x.2.1 x.2.2.1:=by kernel_rfl
def yC2(j8:List UInt8×Int×List Nat×List (Q3)×Unit)(j9:List (Q3))(j10:Int)(j11:Nat)(j12:List Nat)(j13:Int)(j14:Int)(j15:List UInt8×Int×List Nat×List (Q3)×Unit)(j16:Q2)(j17:Q2)(j18:List UInt8×Int×List Nat×List (Q3)×Unit)(j19:Q2)(j20:Q2)(j21:Q3)(j22:List UInt8×Int×List Nat×List (Q3)×Unit)(j23:List UInt8×Int×List Nat×List (Q3)×Unit)(j24:Int)(j25:Int)(j26:Int)(j27:Int)(j28:List UInt8×Int×List Nat×List (Q3)×Unit)(j29:Q2)(j30:Q2)(j31:List UInt8×Int×List Nat×List (Q3)×Unit)(j32:Q2)(j33:Q2)(j34:Q3)(j35:List UInt8×Int×List Nat×List (Q3)×Unit)(j36:List UInt8×Int×List Nat×List (Q3)×Unit):Option (((Q3)×Unit)⊕((List (Q3))×Int×Int)) :=
  (bif decide ((↑j9.length:Int) > 0)then (Option.bind (idx j9 (0:Int)) fun v37=>(bif decide (v37.1≤j10)then (some (Sum.inr ((j9),(j26),(j27))))else (Option.bind (yl Go.FloatKind.f32 (yd Go.BinOp.mul Go.FloatKind.f32 j11 (nat_lit 1098907648)) IntKind.i64) fun v42=>(Option.bind (zQ_M j19 (IntKind.i64.wrap (j8.2.1+j10))) fun v43=>(Option.bind (zQ_M j20 (IntKind.i64.wrap (j8.2.1+j10))) fun v44=>(some (Sum.inr ((j9),((z0l (j26,j27,()) (z0f (zq v43.1).1 v44.1).1).1.1),((z0l (j26,j27,()) (z0f (zq v43.1).1 v44.1).1).1.2.1)))))))))else (Option.bind (yl Go.FloatKind.f32 (yd Go.BinOp.mul Go.FloatKind.f32 j11 (nat_lit 1098907648)) IntKind.i64) fun v45=>(Option.bind (zQ_M j19 (IntKind.i64.wrap (j8.2.1+j10))) fun v46=>(Option.bind (zQ_M j20 (IntKind.i64.wrap (j8.2.1+j10))) fun v47=>(some (Sum.inr ((j9),((z0l (j26,j27,()) (z0f (zq v46.1).1 v47.1).1).1.1),((z0l (j26,j27,()) (z0f (zq v46.1).1 v47.1).1).1.2.1))))))))
theorem y2P(n:Nat)(hn:big≤n)(r0:List UInt8×Int×List Nat×List (Q3)×Unit→List (Q3)→List Nat→Int→Int→List UInt8×Int×List Nat×List (Q3)×Unit→Q2→Q2→List UInt8×Int×List Nat×List (Q3)×Unit→Q2→Q2→Q3→List UInt8×Int×List Nat×List (Q3)×Unit→List UInt8×Int×List Nat×List (Q3)×Unit→Int→Int→Int→Int→List UInt8×Int×List Nat×List (Q3)×Unit→Q2→Q2→List UInt8×Int×List Nat×List (Q3)×Unit→Q2→Q2→Q3→List UInt8×Int×List Nat×List (Q3)×Unit→List UInt8×Int×List Nat×List (Q3)×Unit→Option ((Q3)×Unit))(j8:List UInt8×Int×List Nat×List (Q3)×Unit)(j9:List (Q3))(j10:Int)(j11:Nat)(j12:List Nat)(j13:Int)(j14:Int)(j15:List UInt8×Int×List Nat×List (Q3)×Unit)(j16:Q2)(j17:Q2)(j18:List UInt8×Int×List Nat×List (Q3)×Unit)(j19:Q2)(j20:Q2)(j21:Q3)(j22:List UInt8×Int×List Nat×List (Q3)×Unit)(j23:List UInt8×Int×List Nat×List (Q3)×Unit)(j24:Int)(j25:Int)(j26:Int)(j27:Int)(j28:List UInt8×Int×List Nat×List (Q3)×Unit)(j29:Q2)(j30:Q2)(j31:List UInt8×Int×List Nat×List (Q3)×Unit)(j32:Q2)(j33:Q2)(j34:Q3)(j35:List UInt8×Int×List Nat×List (Q3)×Unit)(j36:List UInt8×Int×List Nat×List (Q3)×Unit):LeF (elim some fun (s__:((List (Q3))×Int×Int))=>r0 j8 s__.1 j12 j13 (IntKind.i64.wrap (j14+1)) j15 j16 j17 j18 j19 j20 j21 j22 j23 j24 j25 s__.2.1 s__.2.2 j28 j29 j30 j31 j32 j33 j34 j35 j36) (yC2 j8 j9 j10 j11 j12 j13 j14 j15 j16 j17 j18 j19 j20 j21 j22 j23 j24 j25 j26 j27 j28 j29 j30 j31 j32 j33 j34 j35 j36) (y70 n r0 j8 j9 j10 j11 j12 j13 j14 j15 j16 j17 j18 j19 j20 j21 j22 j23 j24 j25 j26 j27 j28 j29 j30 j31 j32 j33 j34 j35 j36) :=
  (y5 (y8 fun v37=>(y5 (y7 rfl) (y8 fun v42=>(y8 fun v43=>(y8 fun v44=>(y7 rfl)))))) (y8 fun v45=>(y8 fun v46=>(y8 fun v47=>(y7 rfl)))))
def yGD(aA:List UInt8×Int×List Nat×List (Q3)×Unit)(aB:Int)(aF:Nat)(av:List Nat)(aq:Int)(ar:Int)(p0_0_2:List UInt8×Int×List Nat×List (Q3)×Unit)(p0_1_2:Q2)(p0_2_2:Q2)(p0_3_2:List UInt8×Int×List Nat×List (Q3)×Unit)(p0_4_2:Q2)(p0_5_2:Q2)(p0_9_2:Q3)(p0_10_2:List UInt8×Int×List Nat×List (Q3)×Unit)(p0_11_2_0:List UInt8×Int×List Nat×List (Q3)×Unit)(b1_0_2:Int)(b1_1_2:Int)(b2_0_2:Int)(b2_1_2:Int)(aC:List UInt8×Int×List Nat×List (Q3)×Unit)(aD:Q2)(aR:Q2)(b9:List UInt8×Int×List Nat×List (Q3)×Unit)(ba:Q2)(aQ:Q2)(bc:Q3)(aX:List UInt8×Int×List Nat×List (Q3)×Unit)(k11_2_0:List UInt8×Int×List Nat×List (Q3)×Unit)(ac:List (Q3)):Option ((((Q3)×Unit)⊕((List (Q3))×Int×Int))⊕(List (Q3))) :=
  (bif decide ((↑ac.length:Int) > 0)then (Option.bind (idx ac (0:Int)) fun v3=>(bif decide (v3.2.1≤aB)then (bif decide ((0:Int)≤1) && decide ((1:Int)≤(↑ac.length:Int))then (some (Sum.inr (List.drop (Int.toNat (1:Int)) ac)))else none)else (Option.map Sum.inl (yC2 (aA) (ac) (aB) (aF) (av) (aq) (ar) (p0_0_2) (p0_1_2) (p0_2_2) (p0_3_2) (p0_4_2) (p0_5_2) (p0_9_2) (p0_10_2) (p0_11_2_0) (b1_0_2) (b1_1_2) (b2_0_2) (b2_1_2) (aC) (aD) (aR) (b9) (ba) (aQ) (bc) (aX) (k11_2_0)))))else (Option.map Sum.inl (yC2 (aA) (ac) (aB) (aF) (av) (aq) (ar) (p0_0_2) (p0_1_2) (p0_2_2) (p0_3_2) (p0_4_2) (p0_5_2) (p0_9_2) (p0_10_2) (p0_11_2_0) (b1_0_2) (b1_1_2) (b2_0_2) (b2_1_2) (aC) (aD) (aR) (b9) (ba) (aQ) (bc) (aX) (k11_2_0))))
theorem yBl(n:Nat)(hn:big≤n)(r0:List UInt8×Int×List Nat×List (Q3)×Unit→List (Q3)→List Nat→Int→Int→List UInt8×Int×List Nat×List (Q3)×Unit→Q2→Q2→List UInt8×Int×List Nat×List (Q3)×Unit→Q2→Q2→Q3→List UInt8×Int×List Nat×List (Q3)×Unit→List UInt8×Int×List Nat×List (Q3)×Unit→Int→Int→Int→Int→List UInt8×Int×List Nat×List (Q3)×Unit→Q2→Q2→List UInt8×Int×List Nat×List (Q3)×Unit→Q2→Q2→Q3→List UInt8×Int×List Nat×List (Q3)×Unit→List UInt8×Int×List Nat×List (Q3)×Unit→Option ((Q3)×Unit))(aA:List UInt8×Int×List Nat×List (Q3)×Unit)(aB:Int)(aF:Nat)(av:List Nat)(aq:Int)(ar:Int)(p0_0_2:List UInt8×Int×List Nat×List (Q3)×Unit)(p0_1_2:Q2)(p0_2_2:Q2)(p0_3_2:List UInt8×Int×List Nat×List (Q3)×Unit)(p0_4_2:Q2)(p0_5_2:Q2)(p0_9_2:Q3)(p0_10_2:List UInt8×Int×List Nat×List (Q3)×Unit)(p0_11_2_0:List UInt8×Int×List Nat×List (Q3)×Unit)(b1_0_2:Int)(b1_1_2:Int)(b2_0_2:Int)(b2_1_2:Int)(aC:List UInt8×Int×List Nat×List (Q3)×Unit)(aD:Q2)(aR:Q2)(b9:List UInt8×Int×List Nat×List (Q3)×Unit)(ba:Q2)(aQ:Q2)(bc:Q3)(aX:List UInt8×Int×List Nat×List (Q3)×Unit)(k11_2_0:List UInt8×Int×List Nat×List (Q3)×Unit)(ac:List (Q3)):LeF (elim some fun (s__:((List (Q3))×Int×Int))=>r0 aA s__.1 av aq (IntKind.i64.wrap (ar+1)) p0_0_2 p0_1_2 p0_2_2 p0_3_2 p0_4_2 p0_5_2 p0_9_2 p0_10_2 p0_11_2_0 b1_0_2 b1_1_2 s__.2.1 s__.2.2 aC aD aR b9 ba aQ bc aX k11_2_0) (y33 (fun s__=>yGD aA aB aF av aq ar p0_0_2 p0_1_2 p0_2_2 p0_3_2 p0_4_2 p0_5_2 p0_9_2 p0_10_2 p0_11_2_0 b1_0_2 b1_1_2 b2_0_2 b2_1_2 aC aD aR b9 ba aQ bc aX k11_2_0 s__) wMax ac) (y6J n r0 n aA ac aB aF av aq ar p0_0_2 p0_1_2 p0_2_2 p0_3_2 p0_4_2 p0_5_2 p0_9_2 p0_10_2 p0_11_2_0 b1_0_2 b1_1_2 b2_0_2 b2_1_2 aC aD aR b9 ba aQ bc aX k11_2_0):=by
  refine y2q (f:=(elim some fun (s__:((List (Q3))×Int×Int))=>r0 aA s__.1 av aq (IntKind.i64.wrap (ar+1)) p0_0_2 p0_1_2 p0_2_2 p0_3_2 p0_4_2 p0_5_2 p0_9_2 p0_10_2 p0_11_2_0 b1_0_2 b1_1_2 s__.2.1 s__.2.2 aC aD aR b9 ba aQ bc aX k11_2_0)) (W:=fun k__ s__=>y6J n r0 k__ aA s__ aB aF av aq ar p0_0_2 p0_1_2 p0_2_2 p0_3_2 p0_4_2 p0_5_2 p0_9_2 p0_10_2 p0_11_2_0 b1_0_2 b1_1_2 b2_0_2 b2_1_2 aC aD aR b9 ba aQ bc aX k11_2_0) (body:=(fun s__=>yGD aA aB aF av aq ar p0_0_2 p0_1_2 p0_2_2 p0_3_2 p0_4_2 p0_5_2 p0_9_2 p0_10_2 p0_11_2_0 b1_0_2 b1_1_2 b2_0_2 b2_1_2 aC aD aR b9 ba aQ bc aX k11_2_0 s__)) (fun k__ s__=>?_) wMax n ac (by unfold big at hn;unfold wMax;omega)
  show LeF _ _ (yDL n r0 (y6J n r0 k__) aA s__ aB aF av aq ar p0_0_2 p0_1_2 p0_2_2 p0_3_2 p0_4_2 p0_5_2 p0_9_2 p0_10_2 p0_11_2_0 b1_0_2 b1_1_2 b2_0_2 b2_1_2 aC aD aR b9 ba aQ bc aX k11_2_0)
  exact (y5 (y8 fun v3=>(y5 (y5 (y7 rfl) yg) (yp (by apply y2P n hn)))) (yp (by apply y2P n hn)))
def yGz(aw:List UInt8×Int×List Nat×List (Q3)×Unit)(af:List Nat)(p0_0_0:List UInt8×Int×List Nat×List (Q3)×Unit)(p0_1_0:Q2)(p0_2_0:Q2)(p0_3_0:List UInt8×Int×List Nat×List (Q3)×Unit)(p0_4_0:Q2)(p0_5_0:Q2)(p0_9_0:Q3)(p0_10_0:List UInt8×Int×List Nat×List (Q3)×Unit)(p0_11_0_0:List UInt8×Int×List Nat×List (Q3)×Unit)(b1_0_0:Int)(b1_1_0:Int)(aG:List UInt8×Int×List Nat×List (Q3)×Unit)(aH:Q2)(aV:Q2)(bj:List UInt8×Int×List Nat×List (Q3)×Unit)(bl:Q2)(aU:Q2)(bm:Q3)(b4:List UInt8×Int×List Nat×List (Q3)×Unit)(k11_0_0:List UInt8×Int×List Nat×List (Q3)×Unit)(am:Int)(v1:Nat)(aj:List (Q3))(b2_0_0:Int)(b2_1_0:Int):Option (((Q3)×Unit)⊕((List (Q3))×Int×Int)) :=
  (y33 (fun s__=>yGD (aw) (am) (v1) (af) ((↑af.length:Int)) (am) (p0_0_0) (p0_1_0) (p0_2_0) (p0_3_0) (p0_4_0) (p0_5_0) (p0_9_0) (p0_10_0) (p0_11_0_0) (b1_0_0) (b1_1_0) (b2_0_0) (b2_1_0) (aG) (aH) (aV) (bj) (bl) (aU) (bm) (b4) (k11_0_0) s__) wMax (aj))
def yFE(aw:List UInt8×Int×List Nat×List (Q3)×Unit)(af:List Nat)(p0_0_0:List UInt8×Int×List Nat×List (Q3)×Unit)(p0_1_0:Q2)(p0_2_0:Q2)(p0_3_0:List UInt8×Int×List Nat×List (Q3)×Unit)(p0_4_0:Q2)(p0_5_0:Q2)(p0_9_0:Q3)(p0_10_0:List UInt8×Int×List Nat×List (Q3)×Unit)(p0_11_0_0:List UInt8×Int×List Nat×List (Q3)×Unit)(b1_0_0:Int)(b1_1_0:Int)(aG:List UInt8×Int×List Nat×List (Q3)×Unit)(aH:Q2)(aV:Q2)(bj:List UInt8×Int×List Nat×List (Q3)×Unit)(bl:Q2)(aU:Q2)(bm:Q3)(b4:List UInt8×Int×List Nat×List (Q3)×Unit)(k11_0_0:List UInt8×Int×List Nat×List (Q3)×Unit)(aj:List (Q3))(b2_0_0:Int)(b2_1_0:Int):Option ((Q3)×Unit) :=
  (some (((b2_0_0,b2_1_0,()),())))
theorem yCa(n:Nat)(hn:big≤n)(aw:List UInt8×Int×List Nat×List (Q3)×Unit)(af:List Nat)(p0_0_0:List UInt8×Int×List Nat×List (Q3)×Unit)(p0_1_0:Q2)(p0_2_0:Q2)(p0_3_0:List UInt8×Int×List Nat×List (Q3)×Unit)(p0_4_0:Q2)(p0_5_0:Q2)(p0_9_0:Q3)(p0_10_0:List UInt8×Int×List Nat×List (Q3)×Unit)(p0_11_0_0:List UInt8×Int×List Nat×List (Q3)×Unit)(b1_0_0:Int)(b1_1_0:Int)(aG:List UInt8×Int×List Nat×List (Q3)×Unit)(aH:Q2)(aV:Q2)(bj:List UInt8×Int×List Nat×List (Q3)×Unit)(bl:Q2)(aU:Q2)(bm:Q3)(b4:List UInt8×Int×List Nat×List (Q3)×Unit)(k11_0_0:List UInt8×Int×List Nat×List (Q3)×Unit)(aj:List (Q3))(b2_0_0:Int)(b2_1_0:Int)(hx:List.length (af) < lenMax):LeF some (yP (fun i__ e__ s__=>yGz aw af p0_0_0 p0_1_0 p0_2_0 p0_3_0 p0_4_0 p0_5_0 p0_9_0 p0_10_0 p0_11_0_0 b1_0_0 b1_1_0 aG aH aV bj bl aU bm b4 k11_0_0 i__ e__ s__.1 s__.2.1 s__.2.2) (fun s__=>yFE aw af p0_0_0 p0_1_0 p0_2_0 p0_3_0 p0_4_0 p0_5_0 p0_9_0 p0_10_0 p0_11_0_0 b1_0_0 b1_1_0 aG aH aV bj bl aU bm b4 k11_0_0 s__.1 s__.2.1 s__.2.2) 0 (af) (aj,b2_0_0,b2_1_0)) (y6H n n aw aj af (List.length (af):Int) 0 p0_0_0 p0_1_0 p0_2_0 p0_3_0 p0_4_0 p0_5_0 p0_9_0 p0_10_0 p0_11_0_0 b1_0_0 b1_1_0 b2_0_0 b2_1_0 aG aH aV bj bl aU bm b4 k11_0_0):=by
  refine yO (f:=some) (W:=fun k__ i__ s__=>y6H n k__ aw s__.1 af (List.length (af):Int) i__ p0_0_0 p0_1_0 p0_2_0 p0_3_0 p0_4_0 p0_5_0 p0_9_0 p0_10_0 p0_11_0_0 b1_0_0 b1_1_0 s__.2.1 s__.2.2 aG aH aV bj bl aU bm b4 k11_0_0) (body:=(fun i__ e__ s__=>yGz aw af p0_0_0 p0_1_0 p0_2_0 p0_3_0 p0_4_0 p0_5_0 p0_9_0 p0_10_0 p0_11_0_0 b1_0_0 b1_1_0 aG aH aV bj bl aU bm b4 k11_0_0 i__ e__ s__.1 s__.2.1 s__.2.2)) (fin:=(fun s__=>yFE aw af p0_0_0 p0_1_0 p0_2_0 p0_3_0 p0_4_0 p0_5_0 p0_9_0 p0_10_0 p0_11_0_0 b1_0_0 b1_1_0 aG aH aV bj bl aU bm b4 k11_0_0 s__.1 s__.2.1 s__.2.2)) (fun k__ i__ s__=>?_) hx (aj,b2_0_0,b2_1_0) n (by unfold big at hn;unfold lenMax at hx;omega)
  show LeF _ _ (yDE n (y6H n k__) aw s__.1 af (List.length (af):Int) i__ p0_0_0 p0_1_0 p0_2_0 p0_3_0 p0_4_0 p0_5_0 p0_9_0 p0_10_0 p0_11_0_0 b1_0_0 b1_1_0 s__.2.1 s__.2.2 aG aH aV bj bl aU bm b4 k11_0_0)
  exact y5 (y8 fun v1=>(by apply yBl n hn)) (yp (y7 rfl))
def yAe(r1:List UInt8×Int×List Nat×List (Q3)×Unit)(a:Q2)(b:Q2):Option ((Q3)×Unit) :=
  (bif decide (List.length (r1.2.2.1) < lenMax)then yP (fun i__ e__ s__=>yGz (r1) (r1.2.2.1) (r1) (a) (b) (r1) (a) (b) (((0:Int),(0:Int),())) (r1) (r1) ((0:Int)) ((0:Int)) (r1) (a) (b) (r1) (a) (b) (((0:Int),(0:Int),())) (r1) (r1) i__ e__ s__.1 s__.2.1 s__.2.2) (fun s__=>yFE (r1) (r1.2.2.1) (r1) (a) (b) (r1) (a) (b) (((0:Int),(0:Int),())) (r1) (r1) ((0:Int)) ((0:Int)) (r1) (a) (b) (r1) (a) (b) (((0:Int),(0:Int),())) (r1) (r1) s__.1 s__.2.1 s__.2.2) 0 (r1.2.2.1) ((r1.2.2.2.1),((0:Int)),((0:Int)))else none)
theorem yKo(r1:List UInt8×Int×List Nat×List (Q3)×Unit)(a:Q2)(b:Q2)(y:(Q3)×Unit)(h:yAe r1 a b=some y):∃ n,yJ4 n r1 a b=some y :=
  ⟨big,LeF.top (show LeF some (yAe r1 a b) (yJ4 big r1 a b)from (fun (n:Nat) (hn:big≤n)=>show LeF some (yAe r1 a b) (yJ4 n r1 a b)from (yN fun hx=>by apply yCa n hn;exact hx)) big (Nat.le_refl _)) h⟩
def z0a_e:Entry:={ f:=148,args:=yMb,ress:=yOy,m:=fun x=>yAe x.1 x.2.1 x.2.2.1 }
theorem yH8:FnOK Tryz.prog z0a_e:=yM (g:=yS9) (fn:=Tryz.f148) yD yK (yC yNW (yC yKm (yC yCk (yC yCg eNil)))) (by kernel_rfl) (by kernel_rfl) (by kernel_rfl) (fun x y h=>let ⟨n,hn⟩:=yKo x.1 x.2.1 x.2.2.1 y h;⟨yK6 n,(y4s y4U (y4s y4n iNil)),(yQY n x).trans hn⟩)
abbrev ySs:Ty:=.pair t96 .unit
abbrev yTq:Ty:=.pair t57 .unit
class ref02_det_Rec where
  f:ySs.den→Option yTq.den
section
variable [ref02_det_Rec]
end
abbrev yMF:Ty:=.pair t31 (.pair t23 (.pair t3 .unit))
abbrev yRY:Ty:=.pair t57 .unit
def yNl:G:={ T:=T,E:=[zQ_e,z0f_e,z0l_e],muts:=[],fz:=[] }
def yUF:List (List Nat):=[[1,2,6,7,11,12,13]]
def yJe(n:Nat):Ann:={ keep:=yUF,fuel:=n,inl:=[],deep:=0 }
def yD8(n:Nat)(r0:List (Q3)→Int→List (Q2)→Int→Int→Int→Int→Int→Int→Option ((Q3)×Unit))(bf:List (Q3))(aL:Int)(am:List (Q2))(bx:Int)(aZ:Int)(b0_0_0:Int)(b0_1_0:Int)(b1_0_0:Int)(b1_1_0:Int):Option ((Q3)×Unit) :=
  (bif decide (aZ < bx)then (Option.bind (idx am aZ) fun v1=>(Option.bind (idx bf aZ) fun v2=>(Option.bind (zQ_M (v1.1,v1.2.1,v1.2.2.1,()) aL) fun v3=>r0 bf aL am bx (IntKind.i64.wrap (aZ+1)) b0_0_0 b0_1_0 (z0l (b1_0_0,b1_1_0,()) (z0f v2 v3.1).1).1.1 (z0l (b1_0_0,b1_1_0,()) (z0f v2 v3.1).1).1.2.1)))else some ((b1_0_0,b1_1_0,()),()))
def y5w(n:Nat)(k:Nat)(bf:List (Q3))(aL:Int)(am:List (Q2))(bx:Int)(aZ:Int)(b0_0_0:Int)(b0_1_0:Int)(b1_0_0:Int)(b1_1_0:Int):Option ((Q3)×Unit) :=
  iter (fun r y=>yD8 n (fun bf aL am bx aZ b0_0_0 b0_1_0 b1_0_0 b1_1_0=>r ((bf,(aL,(am,(bx,(aZ,()))))),(((b0_0_0,(b0_1_0,())),((b1_0_0,(b1_1_0,())),())),()))) y.1.1 y.1.2.1 y.1.2.2.1 y.1.2.2.2.1 y.1.2.2.2.2.1 y.2.1.1.1 y.2.1.1.2.1 y.2.1.2.1.1 y.2.1.2.1.2.1) k ((bf,(aL,(am,(bx,(aZ,()))))),(((b0_0_0,(b0_1_0,())),((b1_0_0,(b1_1_0,())),())),()))
def yJQ(n:Nat)(l:List (Q2))(v:List (Q3))(tick:Int):Option ((Q3)×Unit) :=
  (y5w n n (v) (tick) (l) ((↑l.length:Int)) ((0:Int)) ((0:Int)) ((0:Int)) ((0:Int)) ((0:Int)))
theorem yPT(n:Nat)(x:yMF.den):runF yNl (yJe n) Tryz.f167 yMF yRY x=yJQ n x.1 x.2.1 x.2.2.1:=by kernel_rfl
def yHu(bf:List (Q3))(aL:Int)(am:List (Q2))(b0_0_0:Int)(b0_1_0:Int)(aZ:Int)(v1:Q2)(b1_0_0:Int)(b1_1_0:Int):Option (((Q3)×Unit)⊕(Int×Int)) :=
  (Option.bind (idx bf aZ) fun v2=>(Option.bind (zQ_M (v1.1,v1.2.1,v1.2.2.1,()) aL) fun v3=>(some (Sum.inr (((z0l (b1_0_0,b1_1_0,()) (z0f v2 v3.1).1).1.1),((z0l (b1_0_0,b1_1_0,()) (z0f v2 v3.1).1).1.2.1))))))
def yGE(bf:List (Q3))(aL:Int)(am:List (Q2))(b0_0_0:Int)(b0_1_0:Int)(b1_0_0:Int)(b1_1_0:Int):Option ((Q3)×Unit) :=
  (some (((b1_0_0,b1_1_0,()),())))
theorem yCZ(n:Nat)(hn:big≤n)(bf:List (Q3))(aL:Int)(am:List (Q2))(b0_0_0:Int)(b0_1_0:Int)(b1_0_0:Int)(b1_1_0:Int)(hx:List.length (am) < lenMax):LeF some (yP (fun i__ e__ s__=>yHu bf aL am b0_0_0 b0_1_0 i__ e__ s__.1 s__.2) (fun s__=>yGE bf aL am b0_0_0 b0_1_0 s__.1 s__.2) 0 (am) (b1_0_0,b1_1_0)) (y5w n n bf aL am (List.length (am):Int) 0 b0_0_0 b0_1_0 b1_0_0 b1_1_0):=by
  refine yO (f:=some) (W:=fun k__ i__ s__=>y5w n k__ bf aL am (List.length (am):Int) i__ b0_0_0 b0_1_0 s__.1 s__.2) (body:=(fun i__ e__ s__=>yHu bf aL am b0_0_0 b0_1_0 i__ e__ s__.1 s__.2)) (fin:=(fun s__=>yGE bf aL am b0_0_0 b0_1_0 s__.1 s__.2)) (fun k__ i__ s__=>?_) hx (b1_0_0,b1_1_0) n (by unfold big at hn;unfold lenMax at hx;omega)
  show LeF _ _ (yD8 n (y5w n k__) bf aL am (List.length (am):Int) i__ b0_0_0 b0_1_0 s__.1 s__.2)
  exact y5 (y8 fun v1=>(y8 fun v2=>(y8 fun v3=>(y7 rfl)))) (yp (y7 rfl))
def yGt(l:List (Q2))(v:List (Q3))(tick:Int):Option ((Q3)×Unit) :=
  (bif decide (List.length (l) < lenMax)then yP (fun i__ e__ s__=>yHu (v) (tick) (l) ((0:Int)) ((0:Int)) i__ e__ s__.1 s__.2) (fun s__=>yGE (v) (tick) (l) ((0:Int)) ((0:Int)) s__.1 s__.2) 0 (l) (((0:Int)),((0:Int)))else none)
theorem yMz(l:List (Q2))(v:List (Q3))(tick:Int)(y:(Q3)×Unit)(h:yGt l v tick=some y):∃ n,yJQ n l v tick=some y :=
  ⟨big,LeF.top (show LeF some (yGt l v tick) (yJQ big l v tick)from (fun (n:Nat) (hn:big≤n)=>show LeF some (yGt l v tick) (yJQ n l v tick)from (yN fun hx=>by apply yCZ n hn;exact hx)) big (Nat.le_refl _)) h⟩
def z0g_e:Entry:={ f:=167,args:=yMF,ress:=yRY,m:=fun x=>yGt x.1 x.2.1 x.2.2.1 }
theorem yPF:FnOK Tryz.prog z0g_e:=yM (g:=yNl) (fn:=Tryz.f167) yD yK (yC yNW (yC yCk (yC yCg eNil))) (by kernel_rfl) (by kernel_rfl) (by kernel_rfl) (fun x y h=>let ⟨n,hn⟩:=yMz x.1 x.2.1 x.2.2.1 y h;⟨yJe n,iNil,(yPT n x).trans hn⟩)
abbrev yL4:Ty:=.pair t3 (.pair t41 .unit)
abbrev yRq:Ty:=.pair t3 .unit
def ySR:G:={ T:=T,E:=[zx_e],muts:=[],fz:=[] }
def yTR:List (List Nat):=[[0,7,8,9],[0,6,7,8,9]]
def yKQ(n:Nat):Ann:={ keep:=yTR,fuel:=n,inl:=[],deep:=0 }
def yCq(n:Nat)(r0:Int→List Int→Int→Int→Option (Int×Unit))(r2:Int→Int→List Int→Int→Int→Option (Int×Unit))(bv:Int)(bg:Int)(bq:List Int)(br:Int)(av:Int):Option (Int×Unit) :=
  (bif bg != 0 then (bif bg==0 then none else r2 bg (bv.tmod bg) bq br av)else r0 bv bq br (IntKind.i64.wrap (av+1)))
def y6T(n:Nat)(r0:Int→List Int→Int→Int→Option (Int×Unit))(k:Nat)(bv:Int)(bg:Int)(bq:List Int)(br:Int)(av:Int):Option (Int×Unit) :=
  iter (fun r y=>yCq n r0 (fun bv bg bq br av=>r ((bv,(bg,(bq,(br,(av,()))))),((),()))) y.1.1 y.1.2.1 y.1.2.2.1 y.1.2.2.2.1 y.1.2.2.2.2.1) k ((bv,(bg,(bq,(br,(av,()))))),((),()))
def yD9(n:Nat)(r0:Int→List Int→Int→Int→Option (Int×Unit))(bu:Int)(ay:List Int)(a8:Int)(af:Int):Option (Int×Unit) :=
  (bif decide (af < a8)then (Option.bind (idx ay af) fun v1=>(y6T n r0 n (bu) ((zx v1).1) (ay) (a8) (af)))else some (bu,()))
def y6P(n:Nat)(k:Nat)(bu:Int)(ay:List Int)(a8:Int)(af:Int):Option (Int×Unit) :=
  iter (fun r y=>yD9 n (fun bu ay a8 af=>r ((bu,(ay,(a8,(af,())))),((),()))) y.1.1 y.1.2.1 y.1.2.2.1 y.1.2.2.2.1) k ((bu,(ay,(a8,(af,())))),((),()))
def yIQ(n:Nat)(n1:Int)(l:List Int):Option (Int×Unit) :=
  (y6P n n (n1) (l) ((↑l.length:Int)) ((0:Int)))
theorem yRu(n:Nat)(x:yL4.den):runF ySR (yKQ n) Tryz.f186 yL4 yRq x=yIQ n x.1 x.2.1:=by kernel_rfl
def yFZ(bq:List Int)(br:Int)(av:Int)(bv:Int)(bg:Int):Option (((Int×Unit)⊕(Int))⊕(Int×Int)) :=
  (bif bg != 0 then (bif bg==0 then none else (some (Sum.inr ((bg),(bv.tmod bg)))))else (some (Sum.inl (Sum.inr (bv)))))
theorem yBi(n:Nat)(hn:big≤n)(r0:Int→List Int→Int→Int→Option (Int×Unit))(bq:List Int)(br:Int)(av:Int)(bv:Int)(bg:Int):LeF (elim some fun (s__:(Int))=>r0 s__ bq br (IntKind.i64.wrap (av+1))) (y33 (fun s__=>yFZ bq br av s__.1 s__.2) wMax (bv,bg)) (y6T n r0 n bv bg bq br av):=by
  refine y2q (f:=(elim some fun (s__:(Int))=>r0 s__ bq br (IntKind.i64.wrap (av+1)))) (W:=fun k__ s__=>y6T n r0 k__ s__.1 s__.2 bq br av) (body:=(fun s__=>yFZ bq br av s__.1 s__.2)) (fun k__ s__=>?_) wMax n (bv,bg) (by unfold big at hn;unfold wMax;omega)
  show LeF _ _ (yCq n r0 (y6T n r0 k__) s__.1 s__.2 bq br av)
  exact (y5 (y5 yg (y7 rfl)) (y7 rfl))
def yGi(ay:List Int)(af:Int)(v1:Int)(bu:Int):Option ((Int×Unit)⊕(Int)) :=
  (y33 (fun s__=>yFZ (ay) ((↑ay.length:Int)) (af) s__.1 s__.2) wMax ((bu),((zx v1).1)))
def yHQ(ay:List Int)(bu:Int):Option (Int×Unit) :=
  (some ((bu,())))
theorem yBf(n:Nat)(hn:big≤n)(ay:List Int)(bu:Int)(hx:List.length (ay) < lenMax):LeF some (yP (fun i__ e__ s__=>yGi ay i__ e__ s__) (fun s__=>yHQ ay s__) 0 (ay) bu) (y6P n n bu ay (List.length (ay):Int) 0):=by
  refine yO (f:=some) (W:=fun k__ i__ s__=>y6P n k__ s__ ay (List.length (ay):Int) i__) (body:=(fun i__ e__ s__=>yGi ay i__ e__ s__)) (fin:=(fun s__=>yHQ ay s__)) (fun k__ i__ s__=>?_) hx bu n (by unfold big at hn;unfold lenMax at hx;omega)
  show LeF _ _ (yD9 n (y6P n k__) s__ ay (List.length (ay):Int) i__)
  exact y5 (y8 fun v1=>(by apply yBi n hn)) (yp (y7 rfl))
def yC0(n1:Int)(l:List Int):Option (Int×Unit) :=
  (bif decide (List.length (l) < lenMax)then yP (fun i__ e__ s__=>yGi (l) i__ e__ s__) (fun s__=>yHQ (l) s__) 0 (l) (n1)else none)
theorem yNV(n1:Int)(l:List Int)(y:Int×Unit)(h:yC0 n1 l=some y):∃ n,yIQ n n1 l=some y :=
  ⟨big,LeF.top (show LeF some (yC0 n1 l) (yIQ big n1 l)from (fun (n:Nat) (hn:big≤n)=>show LeF some (yC0 n1 l) (yIQ n n1 l)from (yN fun hx=>by apply yBf n hn;exact hx)) big (Nat.le_refl _)) h⟩
def z07_e:Entry:={ f:=186,args:=yL4,ress:=yRq,m:=fun x=>yC0 x.1 x.2.1 }
theorem yJc:FnOK Tryz.prog z07_e:=yM (g:=ySR) (fn:=Tryz.f186) yD yK (yC yFr eNil) (by kernel_rfl) (by kernel_rfl) (by kernel_rfl) (fun x y h=>let ⟨n,hn⟩:=yNV x.1 x.2.1 y h;⟨yKQ n,iNil,(yRu n x).trans hn⟩)
abbrev yLd:Ty:=.pair t55 (.pair (.ref t60) .unit)
abbrev yNq:Ty:=.pair t57 .unit
def yQt:G:={ T:=T,E:=[zQ_e,zq_e,z0L_e,z0l_e],muts:=[],fz:=[] }
def yUJ:List (List Nat):=[]
def yK8(n:Nat):Ann:={ keep:=yUJ,fuel:=n,inl:=[il124,il195],deep:=3 }
def y7S(n:Nat)(r0:List UInt8×Int×List Nat×List (Q3)×Unit→List (Q3)→List Nat→Int→Int→Q2→List UInt8×Int×List Nat×List (Q3)×Unit→Q2→Q3→List UInt8×Int×List Nat×List (Q3)×Unit→List UInt8×Int×List Nat×List (Q3)×Unit→Int→Int→Int→Int→Q2→List UInt8×Int×List Nat×List (Q3)×Unit→Q2→Q3→List UInt8×Int×List Nat×List (Q3)×Unit→List UInt8×Int×List Nat×List (Q3)×Unit→Option ((Q3)×Unit))(j8:List UInt8×Int×List Nat×List (Q3)×Unit)(j9:List (Q3))(j10:Int)(j11:Nat)(j12:List Nat)(j13:Int)(j14:Int)(j15:Q2)(j16:List UInt8×Int×List Nat×List (Q3)×Unit)(j17:Q2)(j18:Q3)(j19:List UInt8×Int×List Nat×List (Q3)×Unit)(j20:List UInt8×Int×List Nat×List (Q3)×Unit)(j21:Int)(j22:Int)(j23:Int)(j24:Int)(j25:Q2)(j26:List UInt8×Int×List Nat×List (Q3)×Unit)(j27:Q2)(j28:Q3)(j29:List UInt8×Int×List Nat×List (Q3)×Unit)(j30:List UInt8×Int×List Nat×List (Q3)×Unit):Option ((Q3)×Unit) :=
  (bif decide ((↑j9.length:Int) > 0)then (Option.bind (idx j9 (0:Int)) fun v31=>(bif decide (v31.1≤j10)then r0 j8 j9 j12 j13 (IntKind.i64.wrap (j14+1)) j15 j16 j17 j18 j19 j20 j21 j22 j23 j24 j25 j26 j27 j28 j29 j30 else (Option.bind (yl Go.FloatKind.f32 (yd Go.BinOp.mul Go.FloatKind.f32 j11 (nat_lit 1098907648)) IntKind.i64) fun v36=>(Option.bind (zQ_M j17 (IntKind.i64.wrap (j8.2.1+j10))) fun v37=>r0 j8 j9 j12 j13 (IntKind.i64.wrap (j14+1)) j15 j16 j17 j18 j19 j20 j21 j22 (z0l (j23,j24,()) (z0L (zq v37.1).1 v36).1).1.1 (z0l (j23,j24,()) (z0L (zq v37.1).1 v36).1).1.2.1 j25 j26 j27 j28 j29 j30))))else (Option.bind (yl Go.FloatKind.f32 (yd Go.BinOp.mul Go.FloatKind.f32 j11 (nat_lit 1098907648)) IntKind.i64) fun v38=>(Option.bind (zQ_M j17 (IntKind.i64.wrap (j8.2.1+j10))) fun v39=>r0 j8 j9 j12 j13 (IntKind.i64.wrap (j14+1)) j15 j16 j17 j18 j19 j20 j21 j22 (z0l (j23,j24,()) (z0L (zq v39.1).1 v38).1).1.1 (z0l (j23,j24,()) (z0L (zq v39.1).1 v38).1).1.2.1 j25 j26 j27 j28 j29 j30)))
def yD6(n:Nat)(r0:List UInt8×Int×List Nat×List (Q3)×Unit→List (Q3)→List Nat→Int→Int→Q2→List UInt8×Int×List Nat×List (Q3)×Unit→Q2→Q3→List UInt8×Int×List Nat×List (Q3)×Unit→List UInt8×Int×List Nat×List (Q3)×Unit→Int→Int→Int→Int→Q2→List UInt8×Int×List Nat×List (Q3)×Unit→Q2→Q3→List UInt8×Int×List Nat×List (Q3)×Unit→List UInt8×Int×List Nat×List (Q3)×Unit→Option ((Q3)×Unit))(r2:List UInt8×Int×List Nat×List (Q3)×Unit→List (Q3)→Int→Nat→List Nat→Int→Int→Q2→List UInt8×Int×List Nat×List (Q3)×Unit→Q2→Q3→List UInt8×Int×List Nat×List (Q3)×Unit→List UInt8×Int×List Nat×List (Q3)×Unit→Int→Int→Int→Int→Q2→List UInt8×Int×List Nat×List (Q3)×Unit→Q2→Q3→List UInt8×Int×List Nat×List (Q3)×Unit→List UInt8×Int×List Nat×List (Q3)×Unit→Option ((Q3)×Unit))(aA:List UInt8×Int×List Nat×List (Q3)×Unit)(ac:List (Q3))(aB:Int)(aF:Nat)(av:List Nat)(aq:Int)(ar:Int)(p0_0_2:Q2)(p0_1_2:List UInt8×Int×List Nat×List (Q3)×Unit)(p0_2_2:Q2)(p0_7_2:Q3)(p0_8_2:List UInt8×Int×List Nat×List (Q3)×Unit)(p0_9_2_0:List UInt8×Int×List Nat×List (Q3)×Unit)(b1_0_2:Int)(b1_1_2:Int)(b2_0_2:Int)(b2_1_2:Int)(aC:Q2)(aD:List UInt8×Int×List Nat×List (Q3)×Unit)(aR:Q2)(bd:Q3)(be:List UInt8×Int×List Nat×List (Q3)×Unit)(k9_2_0:List UInt8×Int×List Nat×List (Q3)×Unit):Option ((Q3)×Unit) :=
  (bif decide ((↑ac.length:Int) > 0)then (Option.bind (idx ac (0:Int)) fun v3=>(bif decide (v3.2.1≤aB)then (bif decide ((0:Int)≤1) && decide ((1:Int)≤(↑ac.length:Int))then r2 aA (List.drop (Int.toNat (1:Int)) ac) aB aF av aq ar p0_0_2 p0_1_2 p0_2_2 p0_7_2 p0_8_2 p0_9_2_0 b1_0_2 b1_1_2 b2_0_2 b2_1_2 aC aD aR bd be k9_2_0 else none)else (y7S n r0 (aA) (ac) (aB) (aF) (av) (aq) (ar) (p0_0_2) (p0_1_2) (p0_2_2) (p0_7_2) (p0_8_2) (p0_9_2_0) (b1_0_2) (b1_1_2) (b2_0_2) (b2_1_2) (aC) (aD) (aR) (bd) (be) (k9_2_0))))else (y7S n r0 (aA) (ac) (aB) (aF) (av) (aq) (ar) (p0_0_2) (p0_1_2) (p0_2_2) (p0_7_2) (p0_8_2) (p0_9_2_0) (b1_0_2) (b1_1_2) (b2_0_2) (b2_1_2) (aC) (aD) (aR) (bd) (be) (k9_2_0)))
def y6F(n:Nat)(r0:List UInt8×Int×List Nat×List (Q3)×Unit→List (Q3)→List Nat→Int→Int→Q2→List UInt8×Int×List Nat×List (Q3)×Unit→Q2→Q3→List UInt8×Int×List Nat×List (Q3)×Unit→List UInt8×Int×List Nat×List (Q3)×Unit→Int→Int→Int→Int→Q2→List UInt8×Int×List Nat×List (Q3)×Unit→Q2→Q3→List UInt8×Int×List Nat×List (Q3)×Unit→List UInt8×Int×List Nat×List (Q3)×Unit→Option ((Q3)×Unit))(k:Nat)(aA:List UInt8×Int×List Nat×List (Q3)×Unit)(ac:List (Q3))(aB:Int)(aF:Nat)(av:List Nat)(aq:Int)(ar:Int)(p0_0_2:Q2)(p0_1_2:List UInt8×Int×List Nat×List (Q3)×Unit)(p0_2_2:Q2)(p0_7_2:Q3)(p0_8_2:List UInt8×Int×List Nat×List (Q3)×Unit)(p0_9_2_0:List UInt8×Int×List Nat×List (Q3)×Unit)(b1_0_2:Int)(b1_1_2:Int)(b2_0_2:Int)(b2_1_2:Int)(aC:Q2)(aD:List UInt8×Int×List Nat×List (Q3)×Unit)(aR:Q2)(bd:Q3)(be:List UInt8×Int×List Nat×List (Q3)×Unit)(k9_2_0:List UInt8×Int×List Nat×List (Q3)×Unit):Option ((Q3)×Unit) :=
  iter (fun r y=>yD6 n r0 (fun aA ac aB aF av aq ar p0_0_2 p0_1_2 p0_2_2 p0_7_2 p0_8_2 p0_9_2_0 b1_0_2 b1_1_2 b2_0_2 b2_1_2 aC aD aR bd be k9_2_0=>r ((aA,(ac,(aB,(aF,(av,(aq,(ar,()))))))),(((p0_0_2,(p0_1_2,(p0_2_2,(p0_7_2,(p0_8_2,((p0_9_2_0,()),())))))),((b1_0_2,(b1_1_2,())),((b2_0_2,(b2_1_2,())),()))),(aC,(aD,(aR,(bd,(be,((k9_2_0,()),()))))))))) y.1.1 y.1.2.1 y.1.2.2.1 y.1.2.2.2.1 y.1.2.2.2.2.1 y.1.2.2.2.2.2.1 y.1.2.2.2.2.2.2.1 y.2.1.1.1 y.2.1.1.2.1 y.2.1.1.2.2.1 y.2.1.1.2.2.2.1 y.2.1.1.2.2.2.2.1 y.2.1.1.2.2.2.2.2.1.1 y.2.1.2.1.1 y.2.1.2.1.2.1 y.2.1.2.2.1.1 y.2.1.2.2.1.2.1 y.2.2.1 y.2.2.2.1 y.2.2.2.2.1 y.2.2.2.2.2.1 y.2.2.2.2.2.2.1 y.2.2.2.2.2.2.2.1.1) k ((aA,(ac,(aB,(aF,(av,(aq,(ar,()))))))),(((p0_0_2,(p0_1_2,(p0_2_2,(p0_7_2,(p0_8_2,((p0_9_2_0,()),())))))),((b1_0_2,(b1_1_2,())),((b2_0_2,(b2_1_2,())),()))),(aC,(aD,(aR,(bd,(be,((k9_2_0,()),()))))))))
def yDa(n:Nat)(r0:List UInt8×Int×List Nat×List (Q3)×Unit→List (Q3)→List Nat→Int→Int→Q2→List UInt8×Int×List Nat×List (Q3)×Unit→Q2→Q3→List UInt8×Int×List Nat×List (Q3)×Unit→List UInt8×Int×List Nat×List (Q3)×Unit→Int→Int→Int→Int→Q2→List UInt8×Int×List Nat×List (Q3)×Unit→Q2→Q3→List UInt8×Int×List Nat×List (Q3)×Unit→List UInt8×Int×List Nat×List (Q3)×Unit→Option ((Q3)×Unit))(aw:List UInt8×Int×List Nat×List (Q3)×Unit)(aj:List (Q3))(af:List Nat)(ae:Int)(am:Int)(p0_0_0:Q2)(p0_1_0:List UInt8×Int×List Nat×List (Q3)×Unit)(p0_2_0:Q2)(p0_7_0:Q3)(p0_8_0:List UInt8×Int×List Nat×List (Q3)×Unit)(p0_9_0_0:List UInt8×Int×List Nat×List (Q3)×Unit)(b1_0_0:Int)(b1_1_0:Int)(b2_0_0:Int)(b2_1_0:Int)(aG:Q2)(aH:List UInt8×Int×List Nat×List (Q3)×Unit)(aV:Q2)(bn:Q3)(bp:List UInt8×Int×List Nat×List (Q3)×Unit)(k9_0_0:List UInt8×Int×List Nat×List (Q3)×Unit):Option ((Q3)×Unit) :=
  (bif decide (am < ae)then (Option.bind (idx af am) fun v1=>(y6F n r0 n (aw) (aj) (am) (v1) (af) (ae) (am) (p0_0_0) (p0_1_0) (p0_2_0) (p0_7_0) (p0_8_0) (p0_9_0_0) (b1_0_0) (b1_1_0) (b2_0_0) (b2_1_0) (aG) (aH) (aV) (bn) (bp) (k9_0_0)))else some ((b2_0_0,b2_1_0,()),()))
def y6D(n:Nat)(k:Nat)(aw:List UInt8×Int×List Nat×List (Q3)×Unit)(aj:List (Q3))(af:List Nat)(ae:Int)(am:Int)(p0_0_0:Q2)(p0_1_0:List UInt8×Int×List Nat×List (Q3)×Unit)(p0_2_0:Q2)(p0_7_0:Q3)(p0_8_0:List UInt8×Int×List Nat×List (Q3)×Unit)(p0_9_0_0:List UInt8×Int×List Nat×List (Q3)×Unit)(b1_0_0:Int)(b1_1_0:Int)(b2_0_0:Int)(b2_1_0:Int)(aG:Q2)(aH:List UInt8×Int×List Nat×List (Q3)×Unit)(aV:Q2)(bn:Q3)(bp:List UInt8×Int×List Nat×List (Q3)×Unit)(k9_0_0:List UInt8×Int×List Nat×List (Q3)×Unit):Option ((Q3)×Unit) :=
  iter (fun r y=>yDa n (fun aw aj af ae am p0_0_0 p0_1_0 p0_2_0 p0_7_0 p0_8_0 p0_9_0_0 b1_0_0 b1_1_0 b2_0_0 b2_1_0 aG aH aV bn bp k9_0_0=>r ((aw,(aj,(af,(ae,(am,()))))),(((p0_0_0,(p0_1_0,(p0_2_0,(p0_7_0,(p0_8_0,((p0_9_0_0,()),())))))),((b1_0_0,(b1_1_0,())),((b2_0_0,(b2_1_0,())),()))),(aG,(aH,(aV,(bn,(bp,((k9_0_0,()),()))))))))) y.1.1 y.1.2.1 y.1.2.2.1 y.1.2.2.2.1 y.1.2.2.2.2.1 y.2.1.1.1 y.2.1.1.2.1 y.2.1.1.2.2.1 y.2.1.1.2.2.2.1 y.2.1.1.2.2.2.2.1 y.2.1.1.2.2.2.2.2.1.1 y.2.1.2.1.1 y.2.1.2.1.2.1 y.2.1.2.2.1.1 y.2.1.2.2.1.2.1 y.2.2.1 y.2.2.2.1 y.2.2.2.2.1 y.2.2.2.2.2.1 y.2.2.2.2.2.2.1 y.2.2.2.2.2.2.2.1.1) k ((aw,(aj,(af,(ae,(am,()))))),(((p0_0_0,(p0_1_0,(p0_2_0,(p0_7_0,(p0_8_0,((p0_9_0_0,()),())))))),((b1_0_0,(b1_1_0,())),((b2_0_0,(b2_1_0,())),()))),(aG,(aH,(aV,(bn,(bp,((k9_0_0,()),()))))))))
def yIW(n:Nat)(c:Q2)(p1:List UInt8×Int×List Nat×List (Q3)×Unit):Option ((Q3)×Unit) :=
  (y6D n n (p1) (p1.2.2.2.1) (p1.2.2.1) ((↑p1.2.2.1.length:Int)) ((0:Int)) (c) (p1) (c) (((0:Int),(0:Int),())) (p1) (p1) ((0:Int)) ((0:Int)) ((0:Int)) ((0:Int)) (c) (p1) (c) (((0:Int),(0:Int),())) (p1) (p1))
theorem yRd(n:Nat)(x:yLd.den):runF yQt (yK8 n) Tryz.f188 yLd yNq x=yIW n x.1 x.2.1:=by kernel_rfl
def yBY(j8:List UInt8×Int×List Nat×List (Q3)×Unit)(j9:List (Q3))(j10:Int)(j11:Nat)(j12:List Nat)(j13:Int)(j14:Int)(j15:Q2)(j16:List UInt8×Int×List Nat×List (Q3)×Unit)(j17:Q2)(j18:Q3)(j19:List UInt8×Int×List Nat×List (Q3)×Unit)(j20:List UInt8×Int×List Nat×List (Q3)×Unit)(j21:Int)(j22:Int)(j23:Int)(j24:Int)(j25:Q2)(j26:List UInt8×Int×List Nat×List (Q3)×Unit)(j27:Q2)(j28:Q3)(j29:List UInt8×Int×List Nat×List (Q3)×Unit)(j30:List UInt8×Int×List Nat×List (Q3)×Unit):Option (((Q3)×Unit)⊕((List (Q3))×Int×Int)) :=
  (bif decide ((↑j9.length:Int) > 0)then (Option.bind (idx j9 (0:Int)) fun v31=>(bif decide (v31.1≤j10)then (some (Sum.inr ((j9),(j23),(j24))))else (Option.bind (yl Go.FloatKind.f32 (yd Go.BinOp.mul Go.FloatKind.f32 j11 (nat_lit 1098907648)) IntKind.i64) fun v36=>(Option.bind (zQ_M j17 (IntKind.i64.wrap (j8.2.1+j10))) fun v37=>(some (Sum.inr ((j9),((z0l (j23,j24,()) (z0L (zq v37.1).1 v36).1).1.1),((z0l (j23,j24,()) (z0L (zq v37.1).1 v36).1).1.2.1))))))))else (Option.bind (yl Go.FloatKind.f32 (yd Go.BinOp.mul Go.FloatKind.f32 j11 (nat_lit 1098907648)) IntKind.i64) fun v38=>(Option.bind (zQ_M j17 (IntKind.i64.wrap (j8.2.1+j10))) fun v39=>(some (Sum.inr ((j9),((z0l (j23,j24,()) (z0L (zq v39.1).1 v38).1).1.1),((z0l (j23,j24,()) (z0L (zq v39.1).1 v38).1).1.2.1)))))))
theorem y1z(n:Nat)(hn:big≤n)(r0:List UInt8×Int×List Nat×List (Q3)×Unit→List (Q3)→List Nat→Int→Int→Q2→List UInt8×Int×List Nat×List (Q3)×Unit→Q2→Q3→List UInt8×Int×List Nat×List (Q3)×Unit→List UInt8×Int×List Nat×List (Q3)×Unit→Int→Int→Int→Int→Q2→List UInt8×Int×List Nat×List (Q3)×Unit→Q2→Q3→List UInt8×Int×List Nat×List (Q3)×Unit→List UInt8×Int×List Nat×List (Q3)×Unit→Option ((Q3)×Unit))(j8:List UInt8×Int×List Nat×List (Q3)×Unit)(j9:List (Q3))(j10:Int)(j11:Nat)(j12:List Nat)(j13:Int)(j14:Int)(j15:Q2)(j16:List UInt8×Int×List Nat×List (Q3)×Unit)(j17:Q2)(j18:Q3)(j19:List UInt8×Int×List Nat×List (Q3)×Unit)(j20:List UInt8×Int×List Nat×List (Q3)×Unit)(j21:Int)(j22:Int)(j23:Int)(j24:Int)(j25:Q2)(j26:List UInt8×Int×List Nat×List (Q3)×Unit)(j27:Q2)(j28:Q3)(j29:List UInt8×Int×List Nat×List (Q3)×Unit)(j30:List UInt8×Int×List Nat×List (Q3)×Unit):LeF (elim some fun (s__:((List (Q3))×Int×Int))=>r0 j8 s__.1 j12 j13 (IntKind.i64.wrap (j14+1)) j15 j16 j17 j18 j19 j20 j21 j22 s__.2.1 s__.2.2 j25 j26 j27 j28 j29 j30) (yBY j8 j9 j10 j11 j12 j13 j14 j15 j16 j17 j18 j19 j20 j21 j22 j23 j24 j25 j26 j27 j28 j29 j30) (y7S n r0 j8 j9 j10 j11 j12 j13 j14 j15 j16 j17 j18 j19 j20 j21 j22 j23 j24 j25 j26 j27 j28 j29 j30) :=
  (y5 (y8 fun v31=>(y5 (y7 rfl) (y8 fun v36=>(y8 fun v37=>(y7 rfl))))) (y8 fun v38=>(y8 fun v39=>(y7 rfl))))
def yFV(aA:List UInt8×Int×List Nat×List (Q3)×Unit)(aB:Int)(aF:Nat)(av:List Nat)(aq:Int)(ar:Int)(p0_0_2:Q2)(p0_1_2:List UInt8×Int×List Nat×List (Q3)×Unit)(p0_2_2:Q2)(p0_7_2:Q3)(p0_8_2:List UInt8×Int×List Nat×List (Q3)×Unit)(p0_9_2_0:List UInt8×Int×List Nat×List (Q3)×Unit)(b1_0_2:Int)(b1_1_2:Int)(b2_0_2:Int)(b2_1_2:Int)(aC:Q2)(aD:List UInt8×Int×List Nat×List (Q3)×Unit)(aR:Q2)(bd:Q3)(be:List UInt8×Int×List Nat×List (Q3)×Unit)(k9_2_0:List UInt8×Int×List Nat×List (Q3)×Unit)(ac:List (Q3)):Option ((((Q3)×Unit)⊕((List (Q3))×Int×Int))⊕(List (Q3))) :=
  (bif decide ((↑ac.length:Int) > 0)then (Option.bind (idx ac (0:Int)) fun v3=>(bif decide (v3.2.1≤aB)then (bif decide ((0:Int)≤1) && decide ((1:Int)≤(↑ac.length:Int))then (some (Sum.inr (List.drop (Int.toNat (1:Int)) ac)))else none)else (Option.map Sum.inl (yBY (aA) (ac) (aB) (aF) (av) (aq) (ar) (p0_0_2) (p0_1_2) (p0_2_2) (p0_7_2) (p0_8_2) (p0_9_2_0) (b1_0_2) (b1_1_2) (b2_0_2) (b2_1_2) (aC) (aD) (aR) (bd) (be) (k9_2_0)))))else (Option.map Sum.inl (yBY (aA) (ac) (aB) (aF) (av) (aq) (ar) (p0_0_2) (p0_1_2) (p0_2_2) (p0_7_2) (p0_8_2) (p0_9_2_0) (b1_0_2) (b1_1_2) (b2_0_2) (b2_1_2) (aC) (aD) (aR) (bd) (be) (k9_2_0))))
theorem yBe(n:Nat)(hn:big≤n)(r0:List UInt8×Int×List Nat×List (Q3)×Unit→List (Q3)→List Nat→Int→Int→Q2→List UInt8×Int×List Nat×List (Q3)×Unit→Q2→Q3→List UInt8×Int×List Nat×List (Q3)×Unit→List UInt8×Int×List Nat×List (Q3)×Unit→Int→Int→Int→Int→Q2→List UInt8×Int×List Nat×List (Q3)×Unit→Q2→Q3→List UInt8×Int×List Nat×List (Q3)×Unit→List UInt8×Int×List Nat×List (Q3)×Unit→Option ((Q3)×Unit))(aA:List UInt8×Int×List Nat×List (Q3)×Unit)(aB:Int)(aF:Nat)(av:List Nat)(aq:Int)(ar:Int)(p0_0_2:Q2)(p0_1_2:List UInt8×Int×List Nat×List (Q3)×Unit)(p0_2_2:Q2)(p0_7_2:Q3)(p0_8_2:List UInt8×Int×List Nat×List (Q3)×Unit)(p0_9_2_0:List UInt8×Int×List Nat×List (Q3)×Unit)(b1_0_2:Int)(b1_1_2:Int)(b2_0_2:Int)(b2_1_2:Int)(aC:Q2)(aD:List UInt8×Int×List Nat×List (Q3)×Unit)(aR:Q2)(bd:Q3)(be:List UInt8×Int×List Nat×List (Q3)×Unit)(k9_2_0:List UInt8×Int×List Nat×List (Q3)×Unit)(ac:List (Q3)):LeF (elim some fun (s__:((List (Q3))×Int×Int))=>r0 aA s__.1 av aq (IntKind.i64.wrap (ar+1)) p0_0_2 p0_1_2 p0_2_2 p0_7_2 p0_8_2 p0_9_2_0 b1_0_2 b1_1_2 s__.2.1 s__.2.2 aC aD aR bd be k9_2_0) (y33 (fun s__=>yFV aA aB aF av aq ar p0_0_2 p0_1_2 p0_2_2 p0_7_2 p0_8_2 p0_9_2_0 b1_0_2 b1_1_2 b2_0_2 b2_1_2 aC aD aR bd be k9_2_0 s__) wMax ac) (y6F n r0 n aA ac aB aF av aq ar p0_0_2 p0_1_2 p0_2_2 p0_7_2 p0_8_2 p0_9_2_0 b1_0_2 b1_1_2 b2_0_2 b2_1_2 aC aD aR bd be k9_2_0):=by
  refine y2q (f:=(elim some fun (s__:((List (Q3))×Int×Int))=>r0 aA s__.1 av aq (IntKind.i64.wrap (ar+1)) p0_0_2 p0_1_2 p0_2_2 p0_7_2 p0_8_2 p0_9_2_0 b1_0_2 b1_1_2 s__.2.1 s__.2.2 aC aD aR bd be k9_2_0)) (W:=fun k__ s__=>y6F n r0 k__ aA s__ aB aF av aq ar p0_0_2 p0_1_2 p0_2_2 p0_7_2 p0_8_2 p0_9_2_0 b1_0_2 b1_1_2 b2_0_2 b2_1_2 aC aD aR bd be k9_2_0) (body:=(fun s__=>yFV aA aB aF av aq ar p0_0_2 p0_1_2 p0_2_2 p0_7_2 p0_8_2 p0_9_2_0 b1_0_2 b1_1_2 b2_0_2 b2_1_2 aC aD aR bd be k9_2_0 s__)) (fun k__ s__=>?_) wMax n ac (by unfold big at hn;unfold wMax;omega)
  show LeF _ _ (yD6 n r0 (y6F n r0 k__) aA s__ aB aF av aq ar p0_0_2 p0_1_2 p0_2_2 p0_7_2 p0_8_2 p0_9_2_0 b1_0_2 b1_1_2 b2_0_2 b2_1_2 aC aD aR bd be k9_2_0)
  exact (y5 (y8 fun v3=>(y5 (y5 (y7 rfl) yg) (yp (by apply y1z n hn)))) (yp (by apply y1z n hn)))
def yFt(aw:List UInt8×Int×List Nat×List (Q3)×Unit)(af:List Nat)(p0_0_0:Q2)(p0_1_0:List UInt8×Int×List Nat×List (Q3)×Unit)(p0_2_0:Q2)(p0_7_0:Q3)(p0_8_0:List UInt8×Int×List Nat×List (Q3)×Unit)(p0_9_0_0:List UInt8×Int×List Nat×List (Q3)×Unit)(b1_0_0:Int)(b1_1_0:Int)(aG:Q2)(aH:List UInt8×Int×List Nat×List (Q3)×Unit)(aV:Q2)(bn:Q3)(bp:List UInt8×Int×List Nat×List (Q3)×Unit)(k9_0_0:List UInt8×Int×List Nat×List (Q3)×Unit)(am:Int)(v1:Nat)(aj:List (Q3))(b2_0_0:Int)(b2_1_0:Int):Option (((Q3)×Unit)⊕((List (Q3))×Int×Int)) :=
  (y33 (fun s__=>yFV (aw) (am) (v1) (af) ((↑af.length:Int)) (am) (p0_0_0) (p0_1_0) (p0_2_0) (p0_7_0) (p0_8_0) (p0_9_0_0) (b1_0_0) (b1_1_0) (b2_0_0) (b2_1_0) (aG) (aH) (aV) (bn) (bp) (k9_0_0) s__) wMax (aj))
def yGL(aw:List UInt8×Int×List Nat×List (Q3)×Unit)(af:List Nat)(p0_0_0:Q2)(p0_1_0:List UInt8×Int×List Nat×List (Q3)×Unit)(p0_2_0:Q2)(p0_7_0:Q3)(p0_8_0:List UInt8×Int×List Nat×List (Q3)×Unit)(p0_9_0_0:List UInt8×Int×List Nat×List (Q3)×Unit)(b1_0_0:Int)(b1_1_0:Int)(aG:Q2)(aH:List UInt8×Int×List Nat×List (Q3)×Unit)(aV:Q2)(bn:Q3)(bp:List UInt8×Int×List Nat×List (Q3)×Unit)(k9_0_0:List UInt8×Int×List Nat×List (Q3)×Unit)(aj:List (Q3))(b2_0_0:Int)(b2_1_0:Int):Option ((Q3)×Unit) :=
  (some (((b2_0_0,b2_1_0,()),())))
theorem yC8(n:Nat)(hn:big≤n)(aw:List UInt8×Int×List Nat×List (Q3)×Unit)(af:List Nat)(p0_0_0:Q2)(p0_1_0:List UInt8×Int×List Nat×List (Q3)×Unit)(p0_2_0:Q2)(p0_7_0:Q3)(p0_8_0:List UInt8×Int×List Nat×List (Q3)×Unit)(p0_9_0_0:List UInt8×Int×List Nat×List (Q3)×Unit)(b1_0_0:Int)(b1_1_0:Int)(aG:Q2)(aH:List UInt8×Int×List Nat×List (Q3)×Unit)(aV:Q2)(bn:Q3)(bp:List UInt8×Int×List Nat×List (Q3)×Unit)(k9_0_0:List UInt8×Int×List Nat×List (Q3)×Unit)(aj:List (Q3))(b2_0_0:Int)(b2_1_0:Int)(hx:List.length (af) < lenMax):LeF some (yP (fun i__ e__ s__=>yFt aw af p0_0_0 p0_1_0 p0_2_0 p0_7_0 p0_8_0 p0_9_0_0 b1_0_0 b1_1_0 aG aH aV bn bp k9_0_0 i__ e__ s__.1 s__.2.1 s__.2.2) (fun s__=>yGL aw af p0_0_0 p0_1_0 p0_2_0 p0_7_0 p0_8_0 p0_9_0_0 b1_0_0 b1_1_0 aG aH aV bn bp k9_0_0 s__.1 s__.2.1 s__.2.2) 0 (af) (aj,b2_0_0,b2_1_0)) (y6D n n aw aj af (List.length (af):Int) 0 p0_0_0 p0_1_0 p0_2_0 p0_7_0 p0_8_0 p0_9_0_0 b1_0_0 b1_1_0 b2_0_0 b2_1_0 aG aH aV bn bp k9_0_0):=by
  refine yO (f:=some) (W:=fun k__ i__ s__=>y6D n k__ aw s__.1 af (List.length (af):Int) i__ p0_0_0 p0_1_0 p0_2_0 p0_7_0 p0_8_0 p0_9_0_0 b1_0_0 b1_1_0 s__.2.1 s__.2.2 aG aH aV bn bp k9_0_0) (body:=(fun i__ e__ s__=>yFt aw af p0_0_0 p0_1_0 p0_2_0 p0_7_0 p0_8_0 p0_9_0_0 b1_0_0 b1_1_0 aG aH aV bn bp k9_0_0 i__ e__ s__.1 s__.2.1 s__.2.2)) (fin:=(fun s__=>yGL aw af p0_0_0 p0_1_0 p0_2_0 p0_7_0 p0_8_0 p0_9_0_0 b1_0_0 b1_1_0 aG aH aV bn bp k9_0_0 s__.1 s__.2.1 s__.2.2)) (fun k__ i__ s__=>?_) hx (aj,b2_0_0,b2_1_0) n (by unfold big at hn;unfold lenMax at hx;omega)
  show LeF _ _ (yDa n (y6D n k__) aw s__.1 af (List.length (af):Int) i__ p0_0_0 p0_1_0 p0_2_0 p0_7_0 p0_8_0 p0_9_0_0 b1_0_0 b1_1_0 s__.2.1 s__.2.2 aG aH aV bn bp k9_0_0)
  exact y5 (y8 fun v1=>(by apply yBe n hn)) (yp (y7 rfl))
def yEE(c:Q2)(p1:List UInt8×Int×List Nat×List (Q3)×Unit):Option ((Q3)×Unit) :=
  (bif decide (List.length (p1.2.2.1) < lenMax)then yP (fun i__ e__ s__=>yFt (p1) (p1.2.2.1) (c) (p1) (c) (((0:Int),(0:Int),())) (p1) (p1) ((0:Int)) ((0:Int)) (c) (p1) (c) (((0:Int),(0:Int),())) (p1) (p1) i__ e__ s__.1 s__.2.1 s__.2.2) (fun s__=>yGL (p1) (p1.2.2.1) (c) (p1) (c) (((0:Int),(0:Int),())) (p1) (p1) ((0:Int)) ((0:Int)) (c) (p1) (c) (((0:Int),(0:Int),())) (p1) (p1) s__.1 s__.2.1 s__.2.2) 0 (p1.2.2.1) ((p1.2.2.2.1),((0:Int)),((0:Int)))else none)
theorem yLD(c:Q2)(p1:List UInt8×Int×List Nat×List (Q3)×Unit)(y:(Q3)×Unit)(h:yEE c p1=some y):∃ n,yIW n c p1=some y :=
  ⟨big,LeF.top (show LeF some (yEE c p1) (yIW big c p1)from (fun (n:Nat) (hn:big≤n)=>show LeF some (yEE c p1) (yIW n c p1)from (yN fun hx=>by apply yC8 n hn;exact hx)) big (Nat.le_refl _)) h⟩
def z0A_e:Entry:={ f:=188,args:=yLd,ress:=yNq,m:=fun x=>yEE x.1 x.2.1 }
theorem yOn:FnOK Tryz.prog z0A_e:=yM (g:=yQt) (fn:=Tryz.f188) yD yK (yC yNW (yC yKm (yC yH0 (yC yCg eNil)))) (by kernel_rfl) (by kernel_rfl) (by kernel_rfl) (fun x y h=>let ⟨n,hn⟩:=yLD x.1 x.2.1 y h;⟨yK8 n,(y4s y4U (y4s y4n iNil)),(yRd n x).trans hn⟩)
abbrev zR_a:Ty:=.pair t183 (.pair t3 (.pair t3 .unit))
abbrev zR_r:Ty:=.pair t57 .unit
class tide_matrix_expand_Rec where
  f:zR_a.den→Option zR_r.den
section
variable [tide_matrix_expand_Rec]
def y3g:Entry:={ f:=194,args:=zR_a,ress:=zR_r,m:=fun x=>tide_matrix_expand_Rec.f x }
def zR_g:G:={ T:=T,E:=[y3g,z0f_e,z0L_e,z0l_e],muts:=[],fz:=[] }
def zR_k:List (List Nat):=[[0,1,2,6,7,8,18,19]]
def yQy(n:Nat):Ann:={ keep:=zR_k,fuel:=n,inl:=[],deep:=0 }
def yGa(n:Nat)(r0:List (List (Q3))→Int→Int→Int→Int→Int→Int→Int→Int→Int→Option ((Q3)×Unit))(aK:List (List (Q3)))(aP:Int)(aE:Int)(aJ:Int)(aW:Int)(aY:Int)(b0_0_0:Int)(b0_1_0:Int)(b1_0_0:Int)(b1_1_0:Int):Option ((Q3)×Unit) :=
  (bif decide (aY < aW)then (bif decide (aY < 0)then none else (bif y39 IntKind.i64 Go.BinOp.and (aE.fdiv ((2:Int) ^ Min.min aY.toNat IntKind.i64.bits)) (1:Int)==1 then r0 aK aP aE aJ aW (IntKind.i64.wrap (aY+1)) b0_0_0 b0_1_0 b1_0_0 b1_1_0 else (Option.bind (idx aK aP) fun v1=>(Option.bind (idx v1 aY) fun v2=>(bif decide (aY < 0)then none else (Option.bind (tide_matrix_expand_Rec.f (aK,IntKind.i64.wrap (aP+1),y39 IntKind.i64 Go.BinOp.or aE (IntKind.i64.wrap ((1:Int) * 2 ^ Min.min aY.toNat IntKind.i64.bits)),())) fun v3=>r0 aK aP aE (IntKind.i64.wrap ((0:Int) - aJ)) aW (IntKind.i64.wrap (aY+1)) b0_0_0 b0_1_0 (z0l (b1_0_0,b1_1_0,()) (z0L (z0f v2 v3.1).1 aJ).1).1.1 (z0l (b1_0_0,b1_1_0,()) (z0L (z0f v2 v3.1).1 aJ).1).1.2.1))))))else some ((b1_0_0,b1_1_0,()),()))
def y8l(n:Nat)(k:Nat)(aK:List (List (Q3)))(aP:Int)(aE:Int)(aJ:Int)(aW:Int)(aY:Int)(b0_0_0:Int)(b0_1_0:Int)(b1_0_0:Int)(b1_1_0:Int):Option ((Q3)×Unit) :=
  iter (fun r y=>yGa n (fun aK aP aE aJ aW aY b0_0_0 b0_1_0 b1_0_0 b1_1_0=>r ((aK,(aP,(aE,(aJ,(aW,(aY,())))))),(((b0_0_0,(b0_1_0,())),((b1_0_0,(b1_1_0,())),())),()))) y.1.1 y.1.2.1 y.1.2.2.1 y.1.2.2.2.1 y.1.2.2.2.2.1 y.1.2.2.2.2.2.1 y.2.1.1.1 y.2.1.1.2.1 y.2.1.2.1.1 y.2.1.2.1.2.1) k ((aK,(aP,(aE,(aJ,(aW,(aY,())))))),(((b0_0_0,(b0_1_0,())),((b1_0_0,(b1_1_0,())),())),()))
def zR_m(n:Nat)(m:List (List (Q3)))(row:Int)(used:Int):Option ((Q3)×Unit) :=
  (bif row==(↑m.length:Int)then some (((1:Int),(0:Int),()),())else (y8l n n (m) (row) (used) ((1:Int)) ((↑m.length:Int)) ((0:Int)) ((0:Int)) ((0:Int)) ((0:Int)) ((0:Int))))
theorem yUm(n:Nat)(x:zR_a.den):runF zR_g (yQy n) Tryz.f194 zR_a zR_r x=zR_m n x.1 x.2.1 x.2.2.1:=by kernel_rfl
def yLI(aK:List (List (Q3)))(aP:Int)(aE:Int)(aW:Int)(b0_0_0:Int)(b0_1_0:Int)(aY:Int)(aJ:Int)(b1_0_0:Int)(b1_1_0:Int):Option (((Q3)×Unit)⊕(Int×Int×Int)) :=
  (bif decide (aY < 0)then none else (bif y39 IntKind.i64 Go.BinOp.and (aE.fdiv ((2:Int) ^ Min.min aY.toNat IntKind.i64.bits)) (1:Int)==1 then (some (Sum.inr ((aJ),(b1_0_0),(b1_1_0))))else (Option.bind (idx aK aP) fun v1=>(Option.bind (idx v1 aY) fun v2=>(bif decide (aY < 0)then none else (Option.bind (tide_matrix_expand_Rec.f (aK,IntKind.i64.wrap (aP+1),y39 IntKind.i64 Go.BinOp.or aE (IntKind.i64.wrap ((1:Int) * 2 ^ Min.min aY.toNat IntKind.i64.bits)),())) fun v3=>(some (Sum.inr ((IntKind.i64.wrap ((0:Int) - aJ)),((z0l (b1_0_0,b1_1_0,()) (z0L (z0f v2 v3.1).1 aJ).1).1.1),((z0l (b1_0_0,b1_1_0,()) (z0L (z0f v2 v3.1).1 aJ).1).1.2.1))))))))))
def yMY(aK:List (List (Q3)))(aP:Int)(aE:Int)(aW:Int)(b0_0_0:Int)(b0_1_0:Int)(aJ:Int)(b1_0_0:Int)(b1_1_0:Int):Option ((Q3)×Unit) :=
  (some (((b1_0_0,b1_1_0,()),())))
theorem yEp(n:Nat)(hn:big≤n)(aK:List (List (Q3)))(aP:Int)(aE:Int)(aW:Int)(b0_0_0:Int)(b0_1_0:Int)(aJ:Int)(b1_0_0:Int)(b1_1_0:Int)(hx:(aW)≤9223372036854775807):LeF some (y1b (fun i__ s__=>yLI aK aP aE aW b0_0_0 b0_1_0 i__ s__.1 s__.2.1 s__.2.2) (fun s__=>yMY aK aP aE aW b0_0_0 b0_1_0 s__.1 s__.2.1 s__.2.2) ((aW) - 0).toNat 0 (aJ,b1_0_0,b1_1_0)) (y8l n n aK aP aE aJ aW 0 b0_0_0 b0_1_0 b1_0_0 b1_1_0):=by
  refine y27 (f:=some) (W:=fun k__ i__ s__=>y8l n k__ aK aP aE s__.1 aW i__ b0_0_0 b0_1_0 s__.2.1 s__.2.2) (body:=(fun i__ s__=>yLI aK aP aE aW b0_0_0 b0_1_0 i__ s__.1 s__.2.1 s__.2.2)) (fin:=(fun s__=>yMY aK aP aE aW b0_0_0 b0_1_0 s__.1 s__.2.1 s__.2.2)) (fun k__ i__ s__=>?_) hx (aJ,b1_0_0,b1_1_0) n 0 (by decide) (by unfold big at hn;omega)
  show LeF _ _ (yGa n (y8l n k__) aK aP aE s__.1 aW i__ b0_0_0 b0_1_0 s__.2.1 s__.2.2)
  exact y5 (y5 yg (y5 (y7 rfl) (y8 fun v1=>(y8 fun v2=>(y5 yg (y8 fun v3=>(y7 rfl))))))) (yp (y7 rfl))
def zR_M(m:List (List (Q3)))(row:Int)(used:Int):Option ((Q3)×Unit) :=
  (bif row==(↑m.length:Int)then (some ((((1:Int),(0:Int),()),())))else (bif decide (((↑m.length:Int))≤9223372036854775807)then y1b (fun i__ s__=>yLI (m) (row) (used) ((↑m.length:Int)) ((0:Int)) ((0:Int)) i__ s__.1 s__.2.1 s__.2.2) (fun s__=>yMY (m) (row) (used) ((↑m.length:Int)) ((0:Int)) ((0:Int)) s__.1 s__.2.1 s__.2.2) (((↑m.length:Int)) - 0).toNat 0 (((1:Int)),((0:Int)),((0:Int)))else none))
theorem yQ2(m:List (List (Q3)))(row:Int)(used:Int)(y:(Q3)×Unit)(h:zR_M m row used=some y):∃ n,zR_m n m row used=some y :=
  ⟨big,LeF.top (show LeF some (zR_M m row used) (zR_m big m row used)from (fun (n:Nat) (hn:big≤n)=>show LeF some (zR_M m row used) (zR_m n m row used)from (y5 (y7 rfl) (yN fun hx=>by apply yEp n hn;exact hx))) big (Nat.le_refl _)) h⟩
end
def y02(d:Nat):zR_a.den→Option zR_r.den:=Nat.rec (motive:=fun _=>zR_a.den→Option zR_r.den) (fun _=>none) (fun _ ih x=>@zR_M ⟨ih⟩ x.1 x.2.1 x.2.2.1) d
def y0Y(d:Nat):Entry:={ f:=194,args:=zR_a,ress:=zR_r,m:=y02 d }
theorem y1L:(d:Nat)→FnOK Tryz.prog (y0Y d)
  | 0=>FnOK.none (fn:=Tryz.f194) (by kernel_rfl) (by kernel_rfl) (by kernel_rfl)
  | d+1=>yM (g:=@zR_g ⟨y02 d⟩) (fn:=Tryz.f194) (e:=y0Y (d+1)) yD yK (yC (y1L d) (yC yCk (yC yH0 (yC yCg eNil)))) (by kernel_rfl) (by kernel_rfl) (by kernel_rfl) (fun x y h=>let ⟨n,hn⟩:=@yQ2 ⟨y02 d⟩ x.1 x.2.1 x.2.2.1 y h;⟨yQy n,iNil,(@yUm ⟨y02 d⟩ n x).trans hn⟩)
def zR_e:Entry:=y0Y 8
theorem yUW:FnOK Tryz.prog zR_e:=y1L 8
abbrev zW_a:Ty:=.pair t61 .unit
abbrev zW_r:Ty:=.pair t28 .unit
def zW_g:G:={ T:=T,E:=[zY_e,z0O_e],muts:=[],fz:=[] }
def zW_k:List (List Nat):=[]
def yPC(n:Nat):Ann:={ keep:=zW_k,fuel:=n,inl:=[],deep:=0 }
def zW_m(n:Nat)(x1:Nat):Option (Int×Unit) :=
  (bif yY Go.BinOp.neq Go.FloatKind.f32 (yd Go.BinOp.sub Go.FloatKind.f32 x1 x1) (nat_lit 0)then some ((1:Int),())else (bif yY Go.BinOp.lss Go.FloatKind.f32 x1 (nat_lit 3263168512)then some ((3:Int),())else (bif yY Go.BinOp.gtr Go.FloatKind.f32 x1 (nat_lit 1115684864)then some ((3:Int),())else (Option.bind (zY_M x1) fun v2=>some ((z0O (yY Go.BinOp.neq Go.FloatKind.f32 (y0h Go.FloatKind.f32 v2.1) (yd Go.BinOp.mul Go.FloatKind.f32 x1 (nat_lit 1098907648))) (3:Int)).1,())))))
theorem yUP(n:Nat)(x:zW_a.den):runF zW_g (yPC n) Tryz.f197 zW_a zW_r x=zW_m n x.1:=by kernel_rfl
def zW_M(x1:Nat):Option (Int×Unit):=zW_m 0 x1
theorem yP4(x1:Nat)(y:Int×Unit)(h:zW_M x1=some y):∃ n,zW_m n x1=some y:=⟨0,h⟩
def zW_e:Entry:={ f:=197,args:=zW_a,ress:=zW_r,m:=fun x=>zW_M x.1 }
theorem yNr:FnOK Tryz.prog zW_e:=yM (g:=zW_g) (fn:=Tryz.f197) yD yK (yC yUH (yC y9z eNil)) (by kernel_rfl) (by kernel_rfl) (by kernel_rfl) (fun x y h=>let ⟨n,hn⟩:=yP4 x.1 y h;⟨yPC n,iNil,(yUP n x).trans hn⟩)
abbrev yKd:Ty:=.pair t3 (.pair t3 (.pair t3 .unit))
abbrev yS7:Ty:=.pair t28 .unit
def yRR:G:={ T:=T,E:=[z0O_e],muts:=[],fz:=[] }
def yTL:List (List Nat):=[]
def yKE(n:Nat):Ann:={ keep:=yTL,fuel:=n,inl:=[],deep:=0 }
def yIz(n:Nat)(n1:Int)(least:Int)(most:Int):Option (Int×Unit) :=
  (bif decide (n1 < least)then some ((z0O Bool.true (3:Int)).1,())else some ((z0O (decide (n1 > most)) (3:Int)).1,()))
theorem yQ0(n:Nat)(x:yKd.den):runF yRR (yKE n) Tryz.f201 yKd yS7 x=yIz n x.1 x.2.1 x.2.2.1:=by kernel_rfl
def z00(n1:Int)(least:Int)(most:Int):(Int×Unit) :=
  (bif decide (n1 < least)then ((z0O Bool.true (3:Int)).1,())else ((z0O (decide (n1 > most)) (3:Int)).1,()))
abbrev yOS (n1:Int) (least:Int) (most:Int):Option (Int×Unit):=some (z00 n1 least most)
theorem yMO(n1:Int)(least:Int)(most:Int)(y:Int×Unit)(h:yOS n1 least most=some y):∃ n,yIz n n1 least most=some y :=
  ⟨0,by rw[← h];show yIz 0 n1 least most=some (z00 n1 least most);unfold yIz z00;first|rfl|(simp only[yI];done)|(simp only[yI];rfl)⟩
def z00_e:Entry:={ f:=201,args:=yKd,ress:=yS7,m:=fun x=>yOS x.1 x.2.1 x.2.2.1 }
theorem yPB:FnOK Tryz.prog z00_e:=yM (g:=yRR) (fn:=Tryz.f201) yD yK (yC y9z eNil) (by kernel_rfl) (by kernel_rfl) (by kernel_rfl) (fun x y h=>let ⟨n,hn⟩:=yMO x.1 x.2.1 x.2.2.1 y h;⟨yKE n,iNil,(yQ0 n x).trans hn⟩)
abbrev zB_a:Ty:=.pair t58 (.pair t263 .unit)
abbrev zB_r:Ty:=.pair t4 .unit
def zB_g:G:={ T:=T,E:=[zD_e],muts:=[],fz:=[] }
def zB_k:List (List Nat):=[]
def yQN(n:Nat):Ann:={ keep:=zB_k,fuel:=n,inl:=[],deep:=0 }
def zB_m(n:Nat)(s:List (Q3))(f:(Q3)×Unit→Option (Bool×Unit)):Option (Bool×Unit) :=
  (Option.bind (zD_M s f) fun v0=>some (decide (v0.1 ≥ 0),()))
theorem yT5(n:Nat)(x:zB_a.den):runF zB_g (yQN n) Tryz.f204 zB_a zB_r x=zB_m n x.1 x.2.1:=by kernel_rfl
def zB_M(s:List (Q3))(f:(Q3)×Unit→Option (Bool×Unit)):Option (Bool×Unit):=zB_m 0 s f
theorem yRH(s:List (Q3))(f:(Q3)×Unit→Option (Bool×Unit))(y:Bool×Unit)(h:zB_M s f=some y):∃ n,zB_m n s f=some y:=⟨0,h⟩
def zB_e:Entry:={ f:=204,args:=zB_a,ress:=zB_r,m:=fun x=>zB_M x.1 x.2.1 }
theorem yTQ:FnOK Tryz.prog zB_e:=yM (g:=zB_g) (fn:=Tryz.f204) yD yK (yC yTZ eNil) (by kernel_rfl) (by kernel_rfl) (by kernel_rfl) (fun x y h=>let ⟨n,hn⟩:=yRH x.1 x.2.1 y h;⟨yQN n,iNil,(yT5 n x).trans hn⟩)
abbrev zC_a:Ty:=.pair t35 (.pair t265 .unit)
abbrev zC_r:Ty:=.pair t4 .unit
def zC_g:G:={ T:=T,E:=[zE_e],muts:=[],fz:=[] }
def zC_k:List (List Nat):=[]
def yQK(n:Nat):Ann:={ keep:=zC_k,fuel:=n,inl:=[],deep:=0 }
def zC_m(n:Nat)(s:List Nat)(f:Nat×Unit→Option (Bool×Unit)):Option (Bool×Unit) :=
  (Option.bind (zE_M s f) fun v0=>some (decide (v0.1 ≥ 0),()))
theorem yTK(n:Nat)(x:zC_a.den):runF zC_g (yQK n) Tryz.f207 zC_a zC_r x=zC_m n x.1 x.2.1:=by kernel_rfl
def zC_M(s:List Nat)(f:Nat×Unit→Option (Bool×Unit)):Option (Bool×Unit):=zC_m 0 s f
theorem yR9(s:List Nat)(f:Nat×Unit→Option (Bool×Unit))(y:Bool×Unit)(h:zC_M s f=some y):∃ n,zC_m n s f=some y:=⟨0,h⟩
def zC_e:Entry:={ f:=207,args:=zC_a,ress:=zC_r,m:=fun x=>zC_M x.1 x.2.1 }
theorem yUC:FnOK Tryz.prog zC_e:=yM (g:=zC_g) (fn:=Tryz.f207) yD yK (yC yTs eNil) (by kernel_rfl) (by kernel_rfl) (by kernel_rfl) (fun x y h=>let ⟨n,hn⟩:=yR9 x.1 x.2.1 y h;⟨yQK n,iNil,(yTK n x).trans hn⟩)
abbrev zg_a:Ty:=.pair t63 .unit
abbrev zg_r:Ty:=.pair t28 .unit
def zg_g:G:={ T:=T,E:=[z0O_e],muts:=[],fz:=[] }
def zg_k:List (List Nat):=[]
def yRw(n:Nat):Ann:={ keep:=zg_k,fuel:=n,inl:=[],deep:=0 }
def zg_m(n:Nat)(s:Q3):Option (Int×Unit) :=
  (bif decide (s.1 < 0)then some ((z0O Bool.true (14:Int)).1,())else (bif decide (s.1 ≥ s.2.1)then some ((z0O Bool.true (14:Int)).1,())else some ((z0O (decide (s.2.1 > 100000)) (14:Int)).1,())))
theorem yTe(n:Nat)(x:zg_a.den):runF zg_g (yRw n) Tryz.f225 zg_a zg_r x=zg_m n x.1:=by kernel_rfl
def zg(s:Q3):(Int×Unit) :=
  (bif decide (s.1 < 0)then ((z0O Bool.true (14:Int)).1,())else (bif decide (s.1 ≥ s.2.1)then ((z0O Bool.true (14:Int)).1,())else ((z0O (decide (s.2.1 > 100000)) (14:Int)).1,())))
abbrev zg_M (s:Q3):Option (Int×Unit):=some (zg s)
theorem yRN(s:Q3)(y:Int×Unit)(h:zg_M s=some y):∃ n,zg_m n s=some y :=
  ⟨0,by rw[← h];show zg_m 0 s=some (zg s);unfold zg_m zg;first|rfl|(simp only[yI];done)|(simp only[yI];rfl)⟩
def zg_e:Entry:={ f:=225,args:=zg_a,ress:=zg_r,m:=fun x=>zg_M x.1 }
theorem yUT:FnOK Tryz.prog zg_e:=yM (g:=zg_g) (fn:=Tryz.f225) yD yK (yC y9z eNil) (by kernel_rfl) (by kernel_rfl) (by kernel_rfl) (fun x y h=>let ⟨n,hn⟩:=yRN x.1 y h;⟨yRw n,iNil,(yTe n x).trans hn⟩)
end
end Go.Tw
end
