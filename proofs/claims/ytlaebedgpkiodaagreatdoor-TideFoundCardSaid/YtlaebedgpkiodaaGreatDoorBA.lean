import Derived.Test.YtlaebedgpkiodaaGreatDoorBT
import Derived.Test.YtlaebedgpkiodaaGreatDoorB0
import Derived.Test.YtlaebedgpkiodaaGreatDoorBS
import Derived.Test.YtlaebedgpkiodaaGreatDoorBS2
import Derived.Test.YtlaebedgpkiodaaGreatDoorLZ
set_option linter.all false
open Go.IntKind (i64)
section
set_option maxRecDepth 1000000
namespace Go.Tw
open Go.Vx Go.Vx.B Go.Proofs
noncomputable section
def yH0(n:Nat)(r0:List Int->Int->Option (Int×Unit))(br:List Int)(cd:Int):Option (Int×Unit):=
  (bif decide (cd < (↑br.length:Int))then ((idx br cd).bind λ v1=>(bif v1 != 0 then ((idx br cd).bind λ v2=>some (v2,()))else r0 br (i64.wrap (cd+1))))else some ((0:Int),()))
def y7R(n:Nat)(k:Nat)(br:List Int)(cd:Int):Option (Int×Unit):=
  iter (λ r y=>yH0 n (λ br cd=>r ((br,(cd,())),((),()))) y.1.1 y.1.2.1) k ((br,(cd,())),((),()))
def yTc(n:Nat)(l:List Int):Option (Int×Unit):=
  (y7R n n (l) ((0:Int)))
def yGS(br:List Int)(cd:Int)(v1:Int):Option ((Int×Unit)⊕Unit):=
  (bif v1 != 0 then ((idx br cd).bind λ v2=>(some (Sum.inl ((v2,())))))else (some (Sum.inr ())))
def yGQ(br:List Int):Option (Int×Unit):=
  (some (((0:Int),())))
theorem yEZ(n:Nat)(hn:big<=n)(br:List Int)(hx:List.length (br) < lenMax):LeF some (yL (λ ak b7 a7=>yGS br ak b7) (λ a7=>yGQ br) 0 (br) ()) (y7R n n br 0):=by
  refine yS (f:=some) (W:=λ aI ak a7=>y7R n aI br ak) (λ aI ak a7=>?_) hx () n (by unfold big at hn;unfold lenMax at hx;omega)
  show LeF _ _ (yH0 n (y7R n aI) br ak)
  exact y7 (y9 λ v1=>(y7 (y9 λ v2=>(y8 rfl)) (y8 rfl))) (yz (y8 rfl))
def yKz(l:List Int):Option (Int×Unit):=
  (bif decide (List.length (l) < lenMax)then yL (λ ak b7 a7=>yGS (l) ak b7) (λ a7=>yGQ (l)) 0 (l) ()else none)
abbrev z0F_e:Entry:={ f:=43,args:=.pair t88 .unit,rS:=.pair t3 .unit,m:=λ x=>yKz x.1 }
theorem yS4:FnOK Tryz.prog z0F_e:=fB Tryz.f43 (λ n x=>yTc n x.1) [[0,3]] eNil λ n hn x=>(yT λ hx=>by apply yEZ n hn;exact hx)
def yK2(n:Nat)(r0:List (Q4)->List (Q4)->Int->Option (Bool×Unit))(aw:List (Q4))(aB:List (Q4))(aN:Int):Option (Bool×Unit):=
  (bif decide (aN < (↑aw.length:Int))then ((idx aw aN).bind λ v1=>((idx aB aN).bind λ v2=>(bif !eqV ((Ty.int i64).pair ((Ty.int i64).pair Ty.unit)) v1 v2 then some (Bool.false,())else r0 aw aB (i64.wrap (aN+1)))))else some (Bool.true,()))
def yBX(n:Nat)(k:Nat)(aw:List (Q4))(aB:List (Q4))(aN:Int):Option (Bool×Unit):=
  iter (λ r y=>yK2 n (λ aw aB aN=>r ((aw,(aB,(aN,()))),((),()))) y.1.1 y.1.2.1 y.1.2.2.1) k ((aw,(aB,(aN,()))),((),()))
def zV_m(n:Nat)(a:List (Q4))(b:List (Q4)):Option (Bool×Unit):=
  (bif (↑a.length:Int) != (↑b.length:Int)then some (Bool.false,())else (yBX n n (a) (b) ((0:Int))))
def yOk(aw:List (Q4))(aB:List (Q4))(aN:Int)(v1:Q4):Option ((Bool×Unit)⊕Unit):=
  ((idx aB aN).bind λ v2=>(bif !eqV ((Ty.int i64).pair ((Ty.int i64).pair Ty.unit)) v1 v2 then (some (Sum.inl ((Bool.false,()))))else (some (Sum.inr ()))))
def yQb(aw:List (Q4))(aB:List (Q4)):Option (Bool×Unit):=
  (some ((Bool.true,())))
theorem yHO(n:Nat)(hn:big<=n)(aw:List (Q4))(aB:List (Q4))(hx:List.length (aw) < lenMax):LeF some (yL (λ ak b7 a7=>yOk aw aB ak b7) (λ a7=>yQb aw aB) 0 (aw) ()) (yBX n n aw aB 0):=by
  refine yS (f:=some) (W:=λ aI ak a7=>yBX n aI aw aB ak) (λ aI ak a7=>?_) hx () n (by unfold big at hn;unfold lenMax at hx;omega)
  show LeF _ _ (yK2 n (yBX n aI) aw aB ak)
  exact y7 (y9 λ v1=>(y9 λ v2=>(y7 (y8 rfl) (y8 rfl)))) (yz (y8 rfl))
def zV_M(a:List (Q4))(b:List (Q4)):Option (Bool×Unit):=
  (bif (↑a.length:Int) != (↑b.length:Int)then (some ((Bool.false,())))else (bif decide (List.length (a) < lenMax)then yL (λ ak b7 a7=>yOk (a) (b) ak b7) (λ a7=>yQb (a) (b)) 0 (a) ()else none))
abbrev zV_e:Entry:={ f:=31,args:=.pair t30 (.pair t30 .unit),rS:=.pair t4 .unit,m:=λ x=>zV_M x.1 x.2.1 }
theorem yQO:FnOK Tryz.prog zV_e:=fB Tryz.f31 (λ n x=>zV_m n x.1 x.2.1) [[0,1,5]] eNil λ n hn x=>(y7 (y8 rfl) (yT λ hx=>by apply yHO n hn;exact hx))
def yIi(n:Nat)(r0:List Nat->List Nat->Int->Option (Bool×Unit))(aw:List Nat)(aB:List Nat)(aN:Int):Option (Bool×Unit):=
  (bif decide (aN < (↑aw.length:Int))then ((idx aw aN).bind λ v1=>((idx aB aN).bind λ v2=>(bif y03 BinOp.neq FloatKind.f32 v1 v2 then some (Bool.false,())else r0 aw aB (i64.wrap (aN+1)))))else some (Bool.true,()))
def yAp(n:Nat)(k:Nat)(aw:List Nat)(aB:List Nat)(aN:Int):Option (Bool×Unit):=
  iter (λ r y=>yIi n (λ aw aB aN=>r ((aw,(aB,(aN,()))),((),()))) y.1.1 y.1.2.1 y.1.2.2.1) k ((aw,(aB,(aN,()))),((),()))
def za_m(n:Nat)(a:List Nat)(b:List Nat):Option (Bool×Unit):=
  (bif (↑a.length:Int) != (↑b.length:Int)then some (Bool.false,())else (yAp n n (a) (b) ((0:Int))))
def yRY(aw:List Nat)(aB:List Nat)(aN:Int)(v1:Nat):Option ((Bool×Unit)⊕Unit):=
  ((idx aB aN).bind λ v2=>(bif y03 BinOp.neq FloatKind.f32 v1 v2 then (some (Sum.inl ((Bool.false,()))))else (some (Sum.inr ()))))
def yRl(aw:List Nat)(aB:List Nat):Option (Bool×Unit):=
  (some ((Bool.true,())))
theorem yHV(n:Nat)(hn:big<=n)(aw:List Nat)(aB:List Nat)(hx:List.length (aw) < lenMax):LeF some (yL (λ ak b7 a7=>yRY aw aB ak b7) (λ a7=>yRl aw aB) 0 (aw) ()) (yAp n n aw aB 0):=by
  refine yS (f:=some) (W:=λ aI ak a7=>yAp n aI aw aB ak) (λ aI ak a7=>?_) hx () n (by unfold big at hn;unfold lenMax at hx;omega)
  show LeF _ _ (yIi n (yAp n aI) aw aB ak)
  exact y7 (y9 λ v1=>(y9 λ v2=>(y7 (y8 rfl) (y8 rfl)))) (yz (y8 rfl))
def za_M(a:List Nat)(b:List Nat):Option (Bool×Unit):=
  (bif (↑a.length:Int) != (↑b.length:Int)then (some ((Bool.false,())))else (bif decide (List.length (a) < lenMax)then yL (λ ak b7 a7=>yRY (a) (b) ak b7) (λ a7=>yRl (a) (b)) 0 (a) ()else none))
abbrev za_e:Entry:={ f:=40,args:=.pair t37 (.pair t37 .unit),rS:=.pair t4 .unit,m:=λ x=>za_M x.1 x.2.1 }
theorem yTI:FnOK Tryz.prog za_e:=fB Tryz.f40 (λ n x=>za_m n x.1 x.2.1) [[0,1,5]] eNil λ n hn x=>(y7 (y8 rfl) (yT λ hx=>by apply yHV n hn;exact hx))
def yLU(n:Nat)(r0:List (Q3)->Int->Option (Bool×Unit))(br:List (Q3))(cd:Int):Option (Bool×Unit):=
  (bif decide (cd < (↑br.length:Int))then ((idx br cd).bind λ v1=>(bif decide ((↑v1.1.length:Int) > 60)then some (Bool.false,())else r0 br (i64.wrap (cd+1))))else some (decide ((↑br.length:Int)<=5),()))
def yB8(n:Nat)(k:Nat)(br:List (Q3))(cd:Int):Option (Bool×Unit):=
  iter (λ r y=>yLU n (λ br cd=>r ((br,(cd,())),((),()))) y.1.1 y.1.2.1) k ((br,(cd,())),((),()))
def zi_m(n:Nat)(l:List (Q3)):Option (Bool×Unit):=
  (yB8 n n (l) ((0:Int)))
def yPu(br:List (Q3))(cd:Int)(v1:Q3):Option ((Bool×Unit)⊕Unit):=
  (bif decide ((↑v1.1.length:Int) > 60)then (some (Sum.inl ((Bool.false,()))))else (some (Sum.inr ())))
def yND(br:List (Q3)):Option (Bool×Unit):=
  (some ((decide ((↑br.length:Int)<=5),())))
theorem yIV(n:Nat)(hn:big<=n)(br:List (Q3))(hx:List.length (br) < lenMax):LeF some (yL (λ ak b7 a7=>yPu br ak b7) (λ a7=>yND br) 0 (br) ()) (yB8 n n br 0):=by
  refine yS (f:=some) (W:=λ aI ak a7=>yB8 n aI br ak) (λ aI ak a7=>?_) hx () n (by unfold big at hn;unfold lenMax at hx;omega)
  show LeF _ _ (yLU n (yB8 n aI) br ak)
  exact y7 (y9 λ v1=>(y7 (y8 rfl) (y8 rfl))) (yz (y8 rfl))
def zi_M(l:List (Q3)):Option (Bool×Unit):=
  (bif decide (List.length (l) < lenMax)then yL (λ ak b7 a7=>yPu (l) ak b7) (λ a7=>yND (l)) 0 (l) ()else none)
abbrev zi_e:Entry:={ f:=7,args:=.pair t22 .unit,rS:=.pair t4 .unit,m:=λ x=>zi_M x.1 }
theorem yTj:FnOK Tryz.prog zi_e:=fB Tryz.f7 (λ n x=>zi_m n x.1) [[0,3]] eNil λ n hn x=>(yT λ hx=>by apply yIV n hn;exact hx)
def yFQ(n:Nat)(r0:List (Q3)->Int->Int->List (Q3)->Option (List (Q3)×Unit))(b9:List (Q3))(aJ:Int)(a8:Int)(bi:List (Q3)):Option (List (Q3)×Unit):=
  (bif decide (a8 < aJ)then ((idx b9 a8).bind λ v1=>(bif decide (bi.length+(1:Nat)<=memMax)then r0 b9 aJ (i64.wrap (a8+1)) (bi++[(v1.1,v1.2.1,v1.2.2.1,())])else none))else some (bi,()))
def y7Q(n:Nat)(k:Nat)(b9:List (Q3))(aJ:Int)(a8:Int)(bi:List (Q3)):Option (List (Q3)×Unit):=
  iter (λ r y=>yFQ n (λ b9 aJ a8 bi=>r ((b9,(aJ,(a8,()))),((bi,()),()))) y.1.1 y.1.2.1 y.1.2.2.1 y.2.1.1) k ((b9,(aJ,(a8,()))),((bi,()),()))
def yTy(n:Nat)(l:List (Q3)):Option (List (Q3)×Unit):=
  (y7Q n n (l) ((↑l.length:Int)) ((0:Int)) ([]))
def yNr(b9:List (Q3))(a8:Int)(v1:Q3)(bi:List (Q3)):Option ((List (Q3)×Unit)⊕(List (Q3))):=
  (bif decide (bi.length+(1:Nat)<=memMax)then (some (Sum.inr (bi++[(v1.1,v1.2.1,v1.2.2.1,())])))else none)
def yO6(b9:List (Q3))(bi:List (Q3)):Option (List (Q3)×Unit):=
  (some ((bi,())))
theorem yEh(n:Nat)(hn:big<=n)(b9:List (Q3))(bi:List (Q3))(hx:List.length (b9) < lenMax):LeF some (yL (λ ak b7 a7=>yNr b9 ak b7 a7) (λ a7=>yO6 b9 a7) 0 (b9) bi) (y7Q n n b9 (List.length (b9):Int) 0 bi):=by
  refine yS (f:=some) (W:=λ aI ak a7=>y7Q n aI b9 (List.length (b9):Int) ak a7) (λ aI ak a7=>?_) hx bi n (by unfold big at hn;unfold lenMax at hx;omega)
  show LeF _ _ (yFQ n (y7Q n aI) b9 (List.length (b9):Int) ak a7)
  exact y7 (y9 λ v1=>(y7 (y8 rfl) yo)) (yz (y8 rfl))
def yTD(l:List (Q3)):Option (List (Q3)×Unit):=
  (bif decide (List.length (l) < lenMax)then yL (λ ak b7 a7=>yNr (l) ak b7 a7) (λ a7=>yO6 (l) a7) 0 (l) ([])else none)
abbrev z0R_e:Entry:={ f:=9,args:=.pair t22 .unit,rS:=.pair t28 .unit,m:=λ x=>yTD x.1 }
theorem yS7:FnOK Tryz.prog z0R_e:=fB (mu:=[3]) Tryz.f9 (λ n x=>yTy n x.1) [[3,6,7,8]] eNil λ n hn x=>(yT λ hx=>by apply yEh n hn;exact hx)
def yFc(n:Nat)(r0:List (Q3)->Int->Int->Int->List (Q4)->Int->List (Q3)->Option ((Q2)×Unit))(bq:List (Q3))(bG:Int)(aq:Int)(bZ:Int)(ae:List (Q4))(bK:Int)(cb:List (Q3)):Option ((Q2)×Unit):=
  (bif decide (aq < bG)then ((idx bq aq).bind λ v1=>(bif decide (cb.length+(1:Nat)<=memMax)then r0 bq bG (i64.wrap (aq+1)) bZ ae bK (cb++[(v1.1,v1.2.1,v1.2.2.1,())])else none))else some ((cb,ae,bK,()),()))
def y7x(n:Nat)(k:Nat)(bq:List (Q3))(bG:Int)(aq:Int)(bZ:Int)(ae:List (Q4))(bK:Int)(cb:List (Q3)):Option ((Q2)×Unit):=
  iter (λ r y=>yFc n (λ bq bG aq bZ ae bK cb=>r ((bq,(bG,(aq,()))),(((bZ,()),((ae,(bK,())),(cb,()))),()))) y.1.1 y.1.2.1 y.1.2.2.1 y.2.1.1.1 y.2.1.2.1.1 y.2.1.2.1.2.1 y.2.1.2.2.1) k ((bq,(bG,(aq,()))),(((bZ,()),((ae,(bK,())),(cb,()))),()))
def ySw(n:Nat)(t:Q2):Option ((Q2)×Unit):=
  (y7x n n (t.1) ((↑t.1.length:Int)) ((0:Int)) ((0:Int)) (t.2.1) (t.2.2.1) ([]))
def yJL(bq:List (Q3))(bZ:Int)(ae:List (Q4))(bK:Int)(aq:Int)(v1:Q3)(cb:List (Q3)):Option (((Q2)×Unit)⊕(List (Q3))):=
  (bif decide (cb.length+(1:Nat)<=memMax)then (some (Sum.inr (cb++[(v1.1,v1.2.1,v1.2.2.1,())])))else none)
def yON(bq:List (Q3))(bZ:Int)(ae:List (Q4))(bK:Int)(cb:List (Q3)):Option ((Q2)×Unit):=
  (some (((cb,ae,bK,()),())))
theorem yFG(n:Nat)(hn:big<=n)(bq:List (Q3))(bZ:Int)(ae:List (Q4))(bK:Int)(cb:List (Q3))(hx:List.length (bq) < lenMax):LeF some (yL (λ ak b7 a7=>yJL bq bZ ae bK ak b7 a7) (λ a7=>yON bq bZ ae bK a7) 0 (bq) cb) (y7x n n bq (List.length (bq):Int) 0 bZ ae bK cb):=by
  refine yS (f:=some) (W:=λ aI ak a7=>y7x n aI bq (List.length (bq):Int) ak bZ ae bK a7) (λ aI ak a7=>?_) hx cb n (by unfold big at hn;unfold lenMax at hx;omega)
  show LeF _ _ (yFc n (y7x n aI) bq (List.length (bq):Int) ak bZ ae bK a7)
  exact y7 (y9 λ v1=>(y7 (y8 rfl) yo)) (yz (y8 rfl))
def yOv(t:Q2):Option ((Q2)×Unit):=
  (bif decide (List.length (t.1) < lenMax)then yL (λ ak b7 a7=>yJL (t.1) ((0:Int)) (t.2.1) (t.2.2.1) ak b7 a7) (λ a7=>yON (t.1) ((0:Int)) (t.2.1) (t.2.2.1) a7) 0 (t.1) ([])else none)
abbrev z0S_e:Entry:={ f:=16,args:=.pair t32 .unit,rS:=.pair t58 .unit,m:=λ x=>yOv x.1 }
theorem yRB:FnOK Tryz.prog z0S_e:=fB (mu:=[3,10]) Tryz.f16 (λ n x=>ySw n x.1) [[2,3,12,13,14]] eNil λ n hn x=>(yT λ hx=>by apply yFG n hn;exact hx)
def zZ_m(n:Nat)(np:Int)(low:Int)(high:Int):Option (Int×Unit):=
  (bif decide (np < low)then some ((3:Int),())else (bif decide (np > high)then some ((3:Int),())else some ((0:Int),())))
def zZ(np:Int)(low:Int)(high:Int):(Int×Unit):=
  (bif decide (np < low)then ((3:Int),())else (bif decide (np > high)then ((3:Int),())else ((0:Int),())))
abbrev zZ_M (np:Int) (low:Int) (high:Int):Option (Int×Unit):=some (zZ np low high)
abbrev zZ_e:Entry:={ f:=45,args:=.pair t3 (.pair t3 (.pair t3 .unit)),rS:=.pair t3 .unit,m:=λ x=>zZ_M x.1 x.2.1 x.2.2.1 }
theorem yTa:FnOK Tryz.prog zZ_e:=fF (hm:=by intro x;show some (zZ x.1 x.2.1 x.2.2.1)=zZ_m 0 x.1 x.2.1 x.2.2.1;unfold zZ_m zZ;first|rfl|simp only[y06]) 0 Tryz.f45 (λ n x=>zZ_m n x.1 x.2.1 x.2.2.1) [] eNil
def yJ7(n:Nat)(r0:List (Nat×Nat)->List (Nat×Nat)->Int->Option (Bool×Unit))(aw:List (Nat×Nat))(aB:List (Nat×Nat))(aN:Int):Option (Bool×Unit):=
  (bif decide (aN < (↑aw.length:Int))then ((idx aw aN).bind λ v1=>((idx aB aN).bind λ v2=>(bif !y9v FloatKind.f32 v1 v2 then some (Bool.false,())else r0 aw aB (i64.wrap (aN+1)))))else some (Bool.true,()))
def yBL(n:Nat)(k:Nat)(aw:List (Nat×Nat))(aB:List (Nat×Nat))(aN:Int):Option (Bool×Unit):=
  iter (λ r y=>yJ7 n (λ aw aB aN=>r ((aw,(aB,(aN,()))),((),()))) y.1.1 y.1.2.1 y.1.2.2.1) k ((aw,(aB,(aN,()))),((),()))
def zn_m(n:Nat)(a:List (Nat×Nat))(b:List (Nat×Nat)):Option (Bool×Unit):=
  (bif (↑a.length:Int) != (↑b.length:Int)then some (Bool.false,())else (yBL n n (a) (b) ((0:Int))))
def yRT(aw:List (Nat×Nat))(aB:List (Nat×Nat))(aN:Int)(v1:Nat×Nat):Option ((Bool×Unit)⊕Unit):=
  ((idx aB aN).bind λ v2=>(bif !y9v FloatKind.f32 v1 v2 then (some (Sum.inl ((Bool.false,()))))else (some (Sum.inr ()))))
def ySP(aw:List (Nat×Nat))(aB:List (Nat×Nat)):Option (Bool×Unit):=
  (some ((Bool.true,())))
theorem yHa(n:Nat)(hn:big<=n)(aw:List (Nat×Nat))(aB:List (Nat×Nat))(hx:List.length (aw) < lenMax):LeF some (yL (λ ak b7 a7=>yRT aw aB ak b7) (λ a7=>ySP aw aB) 0 (aw) ()) (yBL n n aw aB 0):=by
  refine yS (f:=some) (W:=λ aI ak a7=>yBL n aI aw aB ak) (λ aI ak a7=>?_) hx () n (by unfold big at hn;unfold lenMax at hx;omega)
  show LeF _ _ (yJ7 n (yBL n aI) aw aB ak)
  exact y7 (y9 λ v1=>(y9 λ v2=>(y7 (y8 rfl) (y8 rfl)))) (yz (y8 rfl))
def zn_M(a:List (Nat×Nat))(b:List (Nat×Nat)):Option (Bool×Unit):=
  (bif (↑a.length:Int) != (↑b.length:Int)then (some ((Bool.false,())))else (bif decide (List.length (a) < lenMax)then yL (λ ak b7 a7=>yRT (a) (b) ak b7) (λ a7=>ySP (a) (b)) 0 (a) ()else none))
abbrev zn_e:Entry:={ f:=42,args:=.pair t92 (.pair t92 .unit),rS:=.pair t4 .unit,m:=λ x=>zn_M x.1 x.2.1 }
theorem yTb:FnOK Tryz.prog zn_e:=fB Tryz.f42 (λ n x=>zn_m n x.1 x.2.1) [[0,1,5]] eNil λ n hn x=>(y7 (y8 rfl) (yT λ hx=>by apply yHa n hn;exact hx))
def yQ5(n:Nat)(r0:List (List Int)->List (List Int)->Int->Option (Bool×Unit))(aw:List (List Int))(aB:List (List Int))(aN:Int):Option (Bool×Unit):=
  (bif decide (aN < (↑aw.length:Int))then ((idx aw aN).bind λ v1=>((idx aB aN).bind λ v2=>(bif !eqV (Ty.arr (2:Nat) (Ty.int i64)) v1 v2 then some (Bool.false,())else r0 aw aB (i64.wrap (aN+1)))))else some (Bool.true,()))
def yPb(n:Nat)(k:Nat)(aw:List (List Int))(aB:List (List Int))(aN:Int):Option (Bool×Unit):=
  iter (λ r y=>yQ5 n (λ aw aB aN=>r ((aw,(aB,(aN,()))),((),()))) y.1.1 y.1.2.1 y.1.2.2.1) k ((aw,(aB,(aN,()))),((),()))
def zh_m(n:Nat)(a:List (List Int))(b:List (List Int)):Option (Bool×Unit):=
  (bif (↑a.length:Int) != (↑b.length:Int)then some (Bool.false,())else (yPb n n (a) (b) ((0:Int))))
def zh_M(a:List (List Int))(b:List (List Int)):Option (Bool×Unit):=zh_m 1000 a b
abbrev zh_e:Entry:={ f:=39,args:=.pair t84 (.pair t84 .unit),rS:=.pair t4 .unit,m:=λ x=>zh_M x.1 x.2.1 }
theorem yTU:FnOK Tryz.prog zh_e:=fF 1000 Tryz.f39 (λ n x=>zh_m n x.1 x.2.1) [[0,1,5]] eNil
def yM5(n:Nat)(r0:List Int->List Int->Int->Option (Bool×Unit))(aw:List Int)(aB:List Int)(aN:Int):Option (Bool×Unit):=
  (bif decide (aN < (↑aw.length:Int))then ((idx aw aN).bind λ v1=>((idx aB aN).bind λ v2=>(bif v1 != v2 then some (Bool.false,())else r0 aw aB (i64.wrap (aN+1)))))else some (Bool.true,()))
def yB4(n:Nat)(k:Nat)(aw:List Int)(aB:List Int)(aN:Int):Option (Bool×Unit):=
  iter (λ r y=>yM5 n (λ aw aB aN=>r ((aw,(aB,(aN,()))),((),()))) y.1.1 y.1.2.1 y.1.2.2.1) k ((aw,(aB,(aN,()))),((),()))
def zl_m(n:Nat)(a:List Int)(b:List Int):Option (Bool×Unit):=
  (bif (↑a.length:Int) != (↑b.length:Int)then some (Bool.false,())else (yB4 n n (a) (b) ((0:Int))))
def yRv(aw:List Int)(aB:List Int)(aN:Int)(v1:Int):Option ((Bool×Unit)⊕Unit):=
  ((idx aB aN).bind λ v2=>(bif v1 != v2 then (some (Sum.inl ((Bool.false,()))))else (some (Sum.inr ()))))
def yR7(aw:List Int)(aB:List Int):Option (Bool×Unit):=
  (some ((Bool.true,())))
theorem yHr(n:Nat)(hn:big<=n)(aw:List Int)(aB:List Int)(hx:List.length (aw) < lenMax):LeF some (yL (λ ak b7 a7=>yRv aw aB ak b7) (λ a7=>yR7 aw aB) 0 (aw) ()) (yB4 n n aw aB 0):=by
  refine yS (f:=some) (W:=λ aI ak a7=>yB4 n aI aw aB ak) (λ aI ak a7=>?_) hx () n (by unfold big at hn;unfold lenMax at hx;omega)
  show LeF _ _ (yM5 n (yB4 n aI) aw aB ak)
  exact y7 (y9 λ v1=>(y9 λ v2=>(y7 (y8 rfl) (y8 rfl)))) (yz (y8 rfl))
def zl_M(a:List Int)(b:List Int):Option (Bool×Unit):=
  (bif (↑a.length:Int) != (↑b.length:Int)then (some ((Bool.false,())))else (bif decide (List.length (a) < lenMax)then yL (λ ak b7 a7=>yRv (a) (b) ak b7) (λ a7=>yR7 (a) (b)) 0 (a) ()else none))
abbrev zl_e:Entry:={ f:=41,args:=.pair t88 (.pair t88 .unit),rS:=.pair t4 .unit,m:=λ x=>zl_M x.1 x.2.1 }
theorem yU9:FnOK Tryz.prog zl_e:=fB Tryz.f41 (λ n x=>zl_m n x.1 x.2.1) [[0,1,5]] eNil λ n hn x=>(y7 (y8 rfl) (yT λ hx=>by apply yHr n hn;exact hx))
def yPE(n:Nat)(gaps:List (Q4)):Option ((Q1)×Unit):=
  some (([(103:UInt8)],(0:Int),[nat_lit 1065353216,nat_lit 0,nat_lit 3212836864,nat_lit 0],gaps,()),())
def z0T(gaps:List (Q4)):((Q1)×Unit):=
  (([(103:UInt8)],(0:Int),[nat_lit 1065353216,nat_lit 0,nat_lit 3212836864,nat_lit 0],gaps,()),())
abbrev yU2 (gaps:List (Q4)):Option ((Q1)×Unit):=some (z0T gaps)
abbrev z0T_e:Entry:={ f:=27,args:=.pair t41 .unit,rS:=.pair t43 .unit,m:=λ x=>yU2 x.1 }
theorem ySW:FnOK Tryz.prog z0T_e:=fF (mu:=[3,5]) (hm:=by intro x;show some (z0T x.1)=yPE 0 x.1;unfold yPE z0T;first|rfl|simp only[y06]) 0 Tryz.f27 (λ n x=>yPE n x.1) [] eNil
def yMb(n:Nat)(r0:List (Q3)->List UInt8->Int->Option (List (Q3)×Unit))(bi:List (Q3))(str1__0:List UInt8)(pos1__0:Int):Option (List (Q3)×Unit):=
  (bif decide (pos1__0 < (↑str1__0.length:Int))then (bif (yg str1__0 pos1__0).1==72 then (bif decide (bi.length+(1:Nat)<=memMax)then r0 (bi++[(y40 (yg str1__0 pos1__0).1,(1:Int),(2:Int),())]) str1__0 (yg str1__0 pos1__0).2 else none)else (bif (yg str1__0 pos1__0).1==81 then (bif decide (bi.length+(1:Nat)<=memMax)then r0 (bi++[(y40 (yg str1__0 pos1__0).1,(1:Int),(1:Int),())]) str1__0 (yg str1__0 pos1__0).2 else none)else (bif (yg str1__0 pos1__0).1==82 then (bif decide (bi.length+(1:Nat)<=memMax)then r0 (bi++[(y40 (yg str1__0 pos1__0).1,(1:Int),(3:Int),())]) str1__0 (yg str1__0 pos1__0).2 else none)else (bif decide (bi.length+(1:Nat)<=memMax)then r0 (bi++[(y40 (yg str1__0 pos1__0).1,(1:Int),(0:Int),())]) str1__0 (yg str1__0 pos1__0).2 else none))))else some (bi,()))
def yMr(n:Nat)(k:Nat)(bi:List (Q3))(str1__0:List UInt8)(pos1__0:Int):Option (List (Q3)×Unit):=
  iter (λ r y=>yMb n (λ bi str1__0 pos1__0=>r ((),((bi,((str1__0,pos1__0),())),()))) y.2.1.1 y.2.1.2.1.1 y.2.1.2.1.2) k ((),((bi,((str1__0,pos1__0),())),()))
def yQx(n:Nat)(names:List UInt8):Option (List (Q3)×Unit):=
  (yMr n n ([]) (names) ((0:Int)))
def y7H(names:List UInt8):Option (List (Q3)×Unit):=yQx 1000 names
abbrev z0E_e:Entry:={ f:=28,args:=.pair t9 .unit,rS:=.pair t28 .unit,m:=λ x=>y7H x.1 }
theorem yQc:FnOK Tryz.prog z0E_e:=fF (mu:=[3]) 1000 Tryz.f28 (λ n x=>yQx n x.1) [[3,8]] eNil
def yG7(n:Nat)(r0:List Int->Int->Int->Option (Int×Unit))(bt:List Int)(b9:Int)(aJ:Int):Option (Int×Unit):=
  (bif decide (aJ < b9)then ((idx bt aJ).bind λ v1=>(bif v1 != 0 then some (v1,())else r0 bt b9 (i64.wrap (aJ+1))))else some ((0:Int),()))
def y7u(n:Nat)(k:Nat)(bt:List Int)(b9:Int)(aJ:Int):Option (Int×Unit):=
  iter (λ r y=>yG7 n (λ bt b9 aJ=>r ((bt,(b9,(aJ,()))),((),()))) y.1.1 y.1.2.1 y.1.2.2.1) k ((bt,(b9,(aJ,()))),((),()))
def yTt(n:Nat)(l:List Int):Option (Int×Unit):=
  (y7u n n (l) ((↑l.length:Int)) ((0:Int)))
def yLy(bt:List Int)(aJ:Int)(v1:Int):Option ((Int×Unit)⊕Unit):=
  (bif v1 != 0 then (some (Sum.inl ((v1,()))))else (some (Sum.inr ())))
def yJl(bt:List Int):Option (Int×Unit):=
  (some (((0:Int),())))
theorem yFL(n:Nat)(hn:big<=n)(bt:List Int)(hx:List.length (bt) < lenMax):LeF some (yL (λ ak b7 a7=>yLy bt ak b7) (λ a7=>yJl bt) 0 (bt) ()) (y7u n n bt (List.length (bt):Int) 0):=by
  refine yS (f:=some) (W:=λ aI ak a7=>y7u n aI bt (List.length (bt):Int) ak) (λ aI ak a7=>?_) hx () n (by unfold big at hn;unfold lenMax at hx;omega)
  show LeF _ _ (yG7 n (y7u n aI) bt (List.length (bt):Int) ak)
  exact y7 (y9 λ v1=>(y7 (y8 rfl) (y8 rfl))) (yz (y8 rfl))
def y2z(l:List Int):Option (Int×Unit):=
  (bif decide (List.length (l) < lenMax)then yL (λ ak b7 a7=>yLy (l) ak b7) (λ a7=>yJl (l)) 0 (l) ()else none)
abbrev z0b_e:Entry:={ f:=57,args:=.pair t168 .unit,rS:=.pair t38 .unit,m:=λ x=>y2z x.1 }
theorem y59:FnOK Tryz.prog z0b_e:=fB Tryz.f57 (λ n x=>yTt n x.1) [[5,6,7]] eNil λ n hn x=>(yT λ hx=>by apply yFL n hn;exact hx)
def yPx(n:Nat)(a:Int)(b:Int):Option (Int×Unit):=
  (bif i64.wrap ((2:Int) * b)==0 then none else (bif i64.wrap ((2:Int) * b)==0 then none else (bif decide ((i64.wrap (i64.wrap ((2:Int) * a)+b)).tmod (i64.wrap ((2:Int) * b)) < 0)then some (i64.wrap (i64.wrap ((i64.wrap (i64.wrap ((2:Int) * a)+b)).tdiv (i64.wrap ((2:Int) * b))) - (1:Int)),())else some (i64.wrap ((i64.wrap (i64.wrap ((2:Int) * a)+b)).tdiv (i64.wrap ((2:Int) * b))),()))))
def yE5(a:Int)(b:Int):Option (Int×Unit):=yPx 0 a b
abbrev z09_e:Entry:={ f:=46,args:=.pair t3 (.pair t3 .unit),rS:=.pair t3 .unit,m:=λ x=>yE5 x.1 x.2.1 }
theorem yNq:FnOK Tryz.prog z09_e:=fF 0 Tryz.f46 (λ n x=>yPx n x.1 x.2.1) [] eNil
def zy_m(n:Nat)(np:Int):Option (Int×Unit):=
  some (if i64.wrap ((0:Int) - np) > np then i64.wrap ((0:Int) - np)else np,())
def zy(np:Int):(Int×Unit):=
  (if i64.wrap ((0:Int) - np) > np then i64.wrap ((0:Int) - np)else np,())
abbrev zy_M (np:Int):Option (Int×Unit):=some (zy np)
abbrev zy_e:Entry:={ f:=47,args:=.pair t3 .unit,rS:=.pair t3 .unit,m:=λ x=>zy_M x.1 }
theorem yHg:FnOK Tryz.prog zy_e:=fF (hm:=by intro x;show some (zy x.1)=zy_m 0 x.1;unfold zy_m zy;first|rfl|simp only[y06]) 0 Tryz.f47 (λ n x=>zy_m n x.1) [] eNil
def yOt(n:Nat)(holds:Bool)(e:Int):Option (Int×Unit):=
  (bif holds then some (e,())else some ((0:Int),()))
def z0n(holds:Bool)(e:Int):(Int×Unit):=
  (bif holds then (e,())else ((0:Int),()))
abbrev yUD (holds:Bool) (e:Int):Option (Int×Unit):=some (z0n holds e)
abbrev z0n_e:Entry:={ f:=60,args:=.pair t4 (.pair t38 .unit),rS:=.pair t38 .unit,m:=λ x=>yUD x.1 x.2.1 }
theorem y72:FnOK Tryz.prog z0n_e:=fF (hm:=by intro x;show some (z0n x.1 x.2.1)=yOt 0 x.1 x.2.1;unfold yOt z0n;first|rfl|simp only[y06]) 0 Tryz.f60 (λ n x=>yOt n x.1 x.2.1) [] eNil
def yK7(n:Nat)(r0:((Q4)×Unit->Option (Int×Unit))->List (Q4)->Int->Int->List Int->Option (List Int×Unit))(aa:(Q4)×Unit->Option (Int×Unit))(a8:List (Q4))(ai:Int)(ah:Int)(af:List Int):Option (List Int×Unit):=
  (bif decide (ah < ai)then ((idx a8 ah).bind λ v1=>((aa ((v1.1,v1.2.1,()),())).bind λ v2=>(bif decide (af.length+(1:Nat)<=memMax)then r0 aa a8 ai (i64.wrap (ah+1)) (af++[v2.1])else none)))else some (af,()))
def yBi(n:Nat)(k:Nat)(aa:(Q4)×Unit->Option (Int×Unit))(a8:List (Q4))(ai:Int)(ah:Int)(af:List Int):Option (List Int×Unit):=
  iter (λ r y=>yK7 n (λ aa a8 ai ah af=>r ((aa,(a8,(ai,(ah,())))),((af,()),()))) y.1.1 y.1.2.1 y.1.2.2.1 y.1.2.2.2.1 y.2.1.1) k ((aa,(a8,(ai,(ah,())))),((af,()),()))
def zF_m(n:Nat)(l:List (Q4))(of:(Q4)×Unit->Option (Int×Unit)):Option (List Int×Unit):=
  (yBi n n (of) (l) ((↑l.length:Int)) ((0:Int)) ([]))
def yQD(aa:(Q4)×Unit->Option (Int×Unit))(a8:List (Q4))(ah:Int)(v1:Q4)(af:List Int):Option ((List Int×Unit)⊕(List Int)):=
  ((aa ((v1.1,v1.2.1,()),())).bind λ v2=>(bif decide (af.length+(1:Nat)<=memMax)then (some (Sum.inr (af++[v2.1])))else none))
def ySH(aa:(Q4)×Unit->Option (Int×Unit))(a8:List (Q4))(af:List Int):Option (List Int×Unit):=
  (some ((af,())))
theorem yHC(n:Nat)(hn:big<=n)(aa:(Q4)×Unit->Option (Int×Unit))(a8:List (Q4))(af:List Int)(hx:List.length (a8) < lenMax):LeF some (yL (λ ak b7 a7=>yQD aa a8 ak b7 a7) (λ a7=>ySH aa a8 a7) 0 (a8) af) (yBi n n aa a8 (List.length (a8):Int) 0 af):=by
  refine yS (f:=some) (W:=λ aI ak a7=>yBi n aI aa a8 (List.length (a8):Int) ak a7) (λ aI ak a7=>?_) hx af n (by unfold big at hn;unfold lenMax at hx;omega)
  show LeF _ _ (yK7 n (yBi n aI) aa a8 (List.length (a8):Int) ak a7)
  exact y7 (y9 λ v1=>(y9 λ v2=>(y7 (y8 rfl) yo))) (yz (y8 rfl))
def zF_M(l:List (Q4))(of:(Q4)×Unit->Option (Int×Unit)):Option (List Int×Unit):=
  (bif decide (List.length (l) < lenMax)then yL (λ ak b7 a7=>yQD (of) (l) ak b7 a7) (λ a7=>ySH (of) (l) a7) 0 (l) ([])else none)
abbrev zF_e:Entry:={ f:=90,args:=.pair t30 (.pair t167 .unit),rS:=.pair t168 .unit,m:=λ x=>zF_M x.1 x.2.1 }
theorem yRZ:FnOK Tryz.prog zF_e:=fB (mu:=[5]) Tryz.f90 (λ n x=>zF_m n x.1 x.2.1) [[1,5,8,9,10]] eNil λ n hn x=>(yT λ hx=>by apply yHC n hn;exact hx)
def yPi(n:Nat)(a:Q4)(b:Q4):Option ((Q4)×Unit):=
  some ((i64.wrap (i64.wrap (a.1 * b.1) - i64.wrap (a.2.1 * b.2.1)),i64.wrap (i64.wrap (a.1 * b.2.1)+i64.wrap (a.2.1 * b.1)),()),())
def z0h(a:Q4)(b:Q4):((Q4)×Unit):=
  ((i64.wrap (i64.wrap (a.1 * b.1) - i64.wrap (a.2.1 * b.2.1)),i64.wrap (i64.wrap (a.1 * b.2.1)+i64.wrap (a.2.1 * b.1)),()),())
abbrev yTP (a:Q4) (b:Q4):Option ((Q4)×Unit):=some (z0h a b)
abbrev z0h_e:Entry:={ f:=54,args:=.pair t36 (.pair t36 .unit),rS:=.pair t36 .unit,m:=λ x=>yTP x.1 x.2.1 }
theorem yGO:FnOK Tryz.prog z0h_e:=fF (hm:=by intro x;show some (z0h x.1 x.2.1)=yPi 0 x.1 x.2.1;unfold yPi z0h;first|rfl|simp only[y06]) 0 Tryz.f54 (λ n x=>yPi n x.1 x.2.1) [] eNil
def zr_m(n:Nat)(a:Q4):Option ((Q4)×Unit):=
  some ((a.1,i64.wrap ((0:Int) - a.2.1),()),())
def zr(a:Q4):((Q4)×Unit):=
  ((a.1,i64.wrap ((0:Int) - a.2.1),()),())
abbrev zr_M (a:Q4):Option ((Q4)×Unit):=some (zr a)
abbrev zr_e:Entry:={ f:=55,args:=.pair t36 .unit,rS:=.pair t36 .unit,m:=λ x=>zr_M x.1 }
theorem yQ3:FnOK Tryz.prog zr_e:=fF (hm:=by intro x;show some (zr x.1)=zr_m 0 x.1;unfold zr_m zr;first|rfl|simp only[y06]) 0 Tryz.f55 (λ n x=>zr_m n x.1) [] eNil
def yKG(n:Nat)(r0:((Q3)×Unit->Option ((Q3)×Unit))->List (Q3)->Int->Int->List (Q3)->Option (List (Q3)×Unit))(aa:(Q3)×Unit->Option ((Q3)×Unit))(a8:List (Q3))(ai:Int)(ah:Int)(af:List (Q3)):Option (List (Q3)×Unit):=
  (bif decide (ah < ai)then ((idx a8 ah).bind λ v1=>((aa ((v1.1,v1.2.1,v1.2.2.1,()),())).bind λ v2=>(bif decide (af.length+(1:Nat)<=memMax)then r0 aa a8 ai (i64.wrap (ah+1)) (af++[v2.1])else none)))else some (af,()))
def yB6(n:Nat)(k:Nat)(aa:(Q3)×Unit->Option ((Q3)×Unit))(a8:List (Q3))(ai:Int)(ah:Int)(af:List (Q3)):Option (List (Q3)×Unit):=
  iter (λ r y=>yKG n (λ aa a8 ai ah af=>r ((aa,(a8,(ai,(ah,())))),((af,()),()))) y.1.1 y.1.2.1 y.1.2.2.1 y.1.2.2.2.1 y.2.1.1) k ((aa,(a8,(ai,(ah,())))),((af,()),()))
def z7_m(n:Nat)(l:List (Q3))(of:(Q3)×Unit->Option ((Q3)×Unit)):Option (List (Q3)×Unit):=
  (yB6 n n (of) (l) ((↑l.length:Int)) ((0:Int)) ([]))
def yQ1(aa:(Q3)×Unit->Option ((Q3)×Unit))(a8:List (Q3))(ah:Int)(v1:Q3)(af:List (Q3)):Option ((List (Q3)×Unit)⊕(List (Q3))):=
  ((aa ((v1.1,v1.2.1,v1.2.2.1,()),())).bind λ v2=>(bif decide (af.length+(1:Nat)<=memMax)then (some (Sum.inr (af++[v2.1])))else none))
def ySR(aa:(Q3)×Unit->Option ((Q3)×Unit))(a8:List (Q3))(af:List (Q3)):Option (List (Q3)×Unit):=
  (some ((af,())))
theorem yHx(n:Nat)(hn:big<=n)(aa:(Q3)×Unit->Option ((Q3)×Unit))(a8:List (Q3))(af:List (Q3))(hx:List.length (a8) < lenMax):LeF some (yL (λ ak b7 a7=>yQ1 aa a8 ak b7 a7) (λ a7=>ySR aa a8 a7) 0 (a8) af) (yB6 n n aa a8 (List.length (a8):Int) 0 af):=by
  refine yS (f:=some) (W:=λ aI ak a7=>yB6 n aI aa a8 (List.length (a8):Int) ak a7) (λ aI ak a7=>?_) hx af n (by unfold big at hn;unfold lenMax at hx;omega)
  show LeF _ _ (yKG n (yB6 n aI) aa a8 (List.length (a8):Int) ak a7)
  exact y7 (y9 λ v1=>(y9 λ v2=>(y7 (y8 rfl) yo))) (yz (y8 rfl))
def z7_M(l:List (Q3))(of:(Q3)×Unit->Option ((Q3)×Unit)):Option (List (Q3)×Unit):=
  (bif decide (List.length (l) < lenMax)then yL (λ ak b7 a7=>yQ1 (of) (l) ak b7 a7) (λ a7=>ySR (of) (l) a7) 0 (l) ([])else none)
abbrev z7_e:Entry:={ f:=99,args:=.pair t28 (.pair t175 .unit),rS:=.pair t28 .unit,m:=λ x=>z7_M x.1 x.2.1 }
theorem yTG:FnOK Tryz.prog z7_e:=fB (mu:=[5]) Tryz.f99 (λ n x=>z7_m n x.1 x.2.1) [[1,5,8,9,10]] eNil λ n hn x=>(yT λ hx=>by apply yHx n hn;exact hx)
def yJs(n:Nat)(r0:((Q4)×Unit->Option ((Q4)×Unit))->List (Q4)->Int->Int->List (Q4)->Option (List (Q4)×Unit))(aa:(Q4)×Unit->Option ((Q4)×Unit))(a8:List (Q4))(ai:Int)(ah:Int)(af:List (Q4)):Option (List (Q4)×Unit):=
  (bif decide (ah < ai)then ((idx a8 ah).bind λ v1=>((aa ((v1.1,v1.2.1,()),())).bind λ v2=>(bif decide (af.length+(1:Nat)<=memMax)then r0 aa a8 ai (i64.wrap (ah+1)) (af++[v2.1])else none)))else some (af,()))
def yAu(n:Nat)(k:Nat)(aa:(Q4)×Unit->Option ((Q4)×Unit))(a8:List (Q4))(ai:Int)(ah:Int)(af:List (Q4)):Option (List (Q4)×Unit):=
  iter (λ r y=>yJs n (λ aa a8 ai ah af=>r ((aa,(a8,(ai,(ah,())))),((af,()),()))) y.1.1 y.1.2.1 y.1.2.2.1 y.1.2.2.2.1 y.2.1.1) k ((aa,(a8,(ai,(ah,())))),((af,()),()))
def zG_m(n:Nat)(l:List (Q4))(of:(Q4)×Unit->Option ((Q4)×Unit)):Option (List (Q4)×Unit):=
  (yAu n n (of) (l) ((↑l.length:Int)) ((0:Int)) ([]))
def yOl(aa:(Q4)×Unit->Option ((Q4)×Unit))(a8:List (Q4))(ah:Int)(v1:Q4)(af:List (Q4)):Option ((List (Q4)×Unit)⊕(List (Q4))):=
  ((aa ((v1.1,v1.2.1,()),())).bind λ v2=>(bif decide (af.length+(1:Nat)<=memMax)then (some (Sum.inr (af++[v2.1])))else none))
def yQs(aa:(Q4)×Unit->Option ((Q4)×Unit))(a8:List (Q4))(af:List (Q4)):Option (List (Q4)×Unit):=
  (some ((af,())))
theorem yH4(n:Nat)(hn:big<=n)(aa:(Q4)×Unit->Option ((Q4)×Unit))(a8:List (Q4))(af:List (Q4))(hx:List.length (a8) < lenMax):LeF some (yL (λ ak b7 a7=>yOl aa a8 ak b7 a7) (λ a7=>yQs aa a8 a7) 0 (a8) af) (yAu n n aa a8 (List.length (a8):Int) 0 af):=by
  refine yS (f:=some) (W:=λ aI ak a7=>yAu n aI aa a8 (List.length (a8):Int) ak a7) (λ aI ak a7=>?_) hx af n (by unfold big at hn;unfold lenMax at hx;omega)
  show LeF _ _ (yJs n (yAu n aI) aa a8 (List.length (a8):Int) ak a7)
  exact y7 (y9 λ v1=>(y9 λ v2=>(y7 (y8 rfl) yo))) (yz (y8 rfl))
def zG_M(l:List (Q4))(of:(Q4)×Unit->Option ((Q4)×Unit)):Option (List (Q4)×Unit):=
  (bif decide (List.length (l) < lenMax)then yL (λ ak b7 a7=>yOl (of) (l) ak b7 a7) (λ a7=>yQs (of) (l) a7) 0 (l) ([])else none)
abbrev zG_e:Entry:={ f:=101,args:=.pair t30 (.pair t118 .unit),rS:=.pair t30 .unit,m:=λ x=>zG_M x.1 x.2.1 }
theorem yU7:FnOK Tryz.prog zG_e:=fB (mu:=[5]) Tryz.f101 (λ n x=>zG_m n x.1 x.2.1) [[1,5,8,9,10]] eNil λ n hn x=>(yT λ hx=>by apply yH4 n hn;exact hx)
def yPm(n:Nat)(a:Q4)(np:Int):Option ((Q4)×Unit):=
  some ((i64.wrap (np * a.1),i64.wrap (np * a.2.1),()),())
def z0N(a:Q4)(np:Int):((Q4)×Unit):=
  ((i64.wrap (np * a.1),i64.wrap (np * a.2.1),()),())
abbrev yUO (a:Q4) (np:Int):Option ((Q4)×Unit):=some (z0N a np)
abbrev z0N_e:Entry:={ f:=84,args:=.pair t36 (.pair t3 .unit),rS:=.pair t36 .unit,m:=λ x=>yUO x.1 x.2.1 }
theorem yIZ:FnOK Tryz.prog z0N_e:=fF (hm:=by intro x;show some (z0N x.1 x.2.1)=yPm 0 x.1 x.2.1;unfold yPm z0N;first|rfl|simp only[y06]) 0 Tryz.f84 (λ n x=>yPm n x.1 x.2.1) [] eNil
def yPe(n:Nat)(a:Q4)(b:Q4):Option ((Q4)×Unit):=
  some ((i64.wrap (a.1+b.1),i64.wrap (a.2.1+b.2.1),()),())
def z0m(a:Q4)(b:Q4):((Q4)×Unit):=
  ((i64.wrap (a.1+b.1),i64.wrap (a.2.1+b.2.1),()),())
abbrev yT5 (a:Q4) (b:Q4):Option ((Q4)×Unit):=some (z0m a b)
abbrev z0m_e:Entry:={ f:=96,args:=.pair t36 (.pair t36 .unit),rS:=.pair t36 .unit,m:=λ x=>yT5 x.1 x.2.1 }
theorem yFM:FnOK Tryz.prog z0m_e:=fF (hm:=by intro x;show some (z0m x.1 x.2.1)=yPe 0 x.1 x.2.1;unfold yPe z0m;first|rfl|simp only[y06]) 0 Tryz.f96 (λ n x=>yPe n x.1 x.2.1) [] eNil
def yKe(n:Nat)(r0:((Q4)×Unit->Option ((Nat×Nat)×Unit))->List (Q4)->Int->Int->List (Nat×Nat)->Option (List (Nat×Nat)×Unit))(aa:(Q4)×Unit->Option ((Nat×Nat)×Unit))(a8:List (Q4))(ai:Int)(ah:Int)(af:List (Nat×Nat)):Option (List (Nat×Nat)×Unit):=
  (bif decide (ah < ai)then ((idx a8 ah).bind λ v1=>((aa ((v1.1,v1.2.1,()),())).bind λ v2=>(bif decide (af.length+(1:Nat)<=memMax)then r0 aa a8 ai (i64.wrap (ah+1)) (af++[v2.1])else none)))else some (af,()))
def yBM(n:Nat)(k:Nat)(aa:(Q4)×Unit->Option ((Nat×Nat)×Unit))(a8:List (Q4))(ai:Int)(ah:Int)(af:List (Nat×Nat)):Option (List (Nat×Nat)×Unit):=
  iter (λ r y=>yKe n (λ aa a8 ai ah af=>r ((aa,(a8,(ai,(ah,())))),((af,()),()))) y.1.1 y.1.2.1 y.1.2.2.1 y.1.2.2.2.1 y.2.1.1) k ((aa,(a8,(ai,(ah,())))),((af,()),()))
def zH_m(n:Nat)(l:List (Q4))(of:(Q4)×Unit->Option ((Nat×Nat)×Unit)):Option (List (Nat×Nat)×Unit):=
  (yBM n n (of) (l) ((↑l.length:Int)) ((0:Int)) ([]))
def yRg(aa:(Q4)×Unit->Option ((Nat×Nat)×Unit))(a8:List (Q4))(ah:Int)(v1:Q4)(af:List (Nat×Nat)):Option ((List (Nat×Nat)×Unit)⊕(List (Nat×Nat))):=
  ((aa ((v1.1,v1.2.1,()),())).bind λ v2=>(bif decide (af.length+(1:Nat)<=memMax)then (some (Sum.inr (af++[v2.1])))else none))
def yQf(aa:(Q4)×Unit->Option ((Nat×Nat)×Unit))(a8:List (Q4))(af:List (Nat×Nat)):Option (List (Nat×Nat)×Unit):=
  (some ((af,())))
theorem yIM(n:Nat)(hn:big<=n)(aa:(Q4)×Unit->Option ((Nat×Nat)×Unit))(a8:List (Q4))(af:List (Nat×Nat))(hx:List.length (a8) < lenMax):LeF some (yL (λ ak b7 a7=>yRg aa a8 ak b7 a7) (λ a7=>yQf aa a8 a7) 0 (a8) af) (yBM n n aa a8 (List.length (a8):Int) 0 af):=by
  refine yS (f:=some) (W:=λ aI ak a7=>yBM n aI aa a8 (List.length (a8):Int) ak a7) (λ aI ak a7=>?_) hx af n (by unfold big at hn;unfold lenMax at hx;omega)
  show LeF _ _ (yKe n (yBM n aI) aa a8 (List.length (a8):Int) ak a7)
  exact y7 (y9 λ v1=>(y9 λ v2=>(y7 (y8 rfl) yo))) (yz (y8 rfl))
def zH_M(l:List (Q4))(of:(Q4)×Unit->Option ((Nat×Nat)×Unit)):Option (List (Nat×Nat)×Unit):=
  (bif decide (List.length (l) < lenMax)then yL (λ ak b7 a7=>yRg (of) (l) ak b7 a7) (λ a7=>yQf (of) (l) a7) 0 (l) ([])else none)
abbrev zH_e:Entry:={ f:=91,args:=.pair t30 (.pair t171 .unit),rS:=.pair t92 .unit,m:=λ x=>zH_M x.1 x.2.1 }
theorem ySi:FnOK Tryz.prog zH_e:=fB (mu:=[5]) Tryz.f91 (λ n x=>zH_m n x.1 x.2.1) [[1,5,8,9,10]] eNil λ n hn x=>(yT λ hx=>by apply yIM n hn;exact hx)
def yPN(n:Nat)(z:Q4)(p1:Nat×Nat):Option ((Nat×Nat)×Unit):=
  some ((yv BinOp.quo FloatKind.f32 (y0l FloatKind.f32 z.1) p1.1,yv BinOp.quo FloatKind.f32 (y0l FloatKind.f32 z.2.1) p1.1),())
def z0K(z:Q4)(p1:Nat×Nat):((Nat×Nat)×Unit):=
  ((yv BinOp.quo FloatKind.f32 (y0l FloatKind.f32 z.1) p1.1,yv BinOp.quo FloatKind.f32 (y0l FloatKind.f32 z.2.1) p1.1),())
abbrev yRj (z:Q4) (p1:Nat×Nat):Option ((Nat×Nat)×Unit):=some (z0K z p1)
abbrev z0K_e:Entry:={ f:=92,args:=.pair t36 (.pair (.ref t100) .unit),rS:=.pair t100 .unit,m:=λ x=>yRj x.1 x.2.1 }
theorem yRz:FnOK Tryz.prog z0K_e:=fF (hm:=by intro x;show some (z0K x.1 x.2.1)=yPN 0 x.1 x.2.1;unfold yPN z0K;first|rfl|simp only[y06]) 0 Tryz.f92 (λ n x=>yPN n x.1 x.2.1) [] eNil
def il53:Inl:={ f:=53,fn:=Tryz.f53,keep:=[],mU:=[],fz:=[] }
theorem y8w:y3t Tryz.prog il53:=⟨by kernel_rfl,by kernel_rfl,λ e0 h=>by cases (show (none:Option LibK)=some e0 from h)⟩
def il107:Inl:={ f:=107,fn:=Tryz.f107,keep:=[[0,1,3,9,10,11],[0,1,3,4,5,9,10,11]],mU:=[],fz:=[] }
theorem y67:y3t Tryz.prog il107:=⟨by kernel_rfl,by kernel_rfl,λ e0 h=>by cases (show (none:Option LibK)=some e0 from h)⟩
def y8W(n:Nat)(r0:Q1->List (Q4)->List Nat->Int->Int->Q1->Q1->Q1->Q1->List Int->Q1->Q1->Q1->Q1->Option (List Int×Unit))(j8:Q1)(j9:List (Q4))(j10:Int)(j11:Nat)(j12:List Nat)(j13:Int)(j14:Int)(j15:Q1)(j16:Q1)(j17:Q1)(j18:Q1)(j19:List Int)(j20:Q1)(j21:Q1)(j22:Q1)(j23:Q1):Option (List Int×Unit):=
  (bif decide ((↑j9.length:Int) > 0)then ((idx j9 (0:Int)).bind λ v24=>(bif decide (v24.1<=j10)then r0 j8 j9 j12 j13 (i64.wrap (j14+1)) j15 j16 j17 j18 j19 j20 j21 j22 j23 else ((ym FloatKind.f32 (yv BinOp.mul FloatKind.f32 j11 (nat_lit 1098907648)) i64).bind λ v29=>(bif decide (j19.length+(1:Nat)<=memMax)then r0 j8 j9 j12 j13 (i64.wrap (j14+1)) j15 j16 j17 j18 (j19++[i64.wrap (j8.2.1+j10)]) j20 j21 j22 j23 else none))))else ((ym FloatKind.f32 (yv BinOp.mul FloatKind.f32 j11 (nat_lit 1098907648)) i64).bind λ v30=>(bif decide (j19.length+(1:Nat)<=memMax)then r0 j8 j9 j12 j13 (i64.wrap (j14+1)) j15 j16 j17 j18 (j19++[i64.wrap (j8.2.1+j10)]) j20 j21 j22 j23 else none)))
def yGz(n:Nat)(r0:Q1->List (Q4)->List Nat->Int->Int->Q1->Q1->Q1->Q1->List Int->Q1->Q1->Q1->Q1->Option (List Int×Unit))(r2:Q1->List (Q4)->Int->Nat->List Nat->Int->Int->Q1->Q1->Q1->Q1->List Int->Q1->Q1->Q1->Q1->Option (List Int×Unit))(aV:Q1)(ac:List (Q4))(aW:Int)(bc:Nat)(aG:List Nat)(ay:Int)(az:Int)(al:Q1)(am:Q1)(aC:Q1)(aX:Q1)(cn:List Int)(aY:Q1)(aZ:Q1)(bv:Q1)(bw:Q1):Option (List Int×Unit):=
  (bif decide ((↑ac.length:Int) > 0)then ((idx ac (0:Int)).bind λ v3=>(bif decide (v3.2.1<=aW)then (bif decide ((0:Int)<=1) && decide ((1:Int)<=(↑ac.length:Int))then r2 aV (List.drop (Int.toNat (1:Int)) ac) aW bc aG ay az al am aC aX cn aY aZ bv bw else none)else (y8W n r0 (aV) (ac) (aW) (bc) (aG) (ay) (az) (al) (am) (aC) (aX) (cn) (aY) (aZ) (bv) (bw))))else (y8W n r0 (aV) (ac) (aW) (bc) (aG) (ay) (az) (al) (am) (aC) (aX) (cn) (aY) (aZ) (bv) (bw)))
def y7c(n:Nat)(r0:Q1->List (Q4)->List Nat->Int->Int->Q1->Q1->Q1->Q1->List Int->Q1->Q1->Q1->Q1->Option (List Int×Unit))(k:Nat)(aV:Q1)(ac:List (Q4))(aW:Int)(bc:Nat)(aG:List Nat)(ay:Int)(az:Int)(al:Q1)(am:Q1)(aC:Q1)(aX:Q1)(cn:List Int)(aY:Q1)(aZ:Q1)(bv:Q1)(bw:Q1):Option (List Int×Unit):=
  iter (λ r y=>yGz n r0 (λ aV ac aW bc aG ay az al am aC aX cn aY aZ bv bw=>r ((aV,(ac,(aW,(bc,(aG,(ay,(az,()))))))),(((al,(am,(aC,((aX,()),())))),((),(cn,()))),(aY,(aZ,(bv,((bw,()),()))))))) y.1.1 y.1.2.1 y.1.2.2.1 y.1.2.2.2.1 y.1.2.2.2.2.1 y.1.2.2.2.2.2.1 y.1.2.2.2.2.2.2.1 y.2.1.1.1 y.2.1.1.2.1 y.2.1.1.2.2.1 y.2.1.1.2.2.2.1.1 y.2.1.2.2.1 y.2.2.1 y.2.2.2.1 y.2.2.2.2.1 y.2.2.2.2.2.1.1) k ((aV,(ac,(aW,(bc,(aG,(ay,(az,()))))))),(((al,(am,(aC,((aX,()),())))),((),(cn,()))),(aY,(aZ,(bv,((bw,()),()))))))
def yFo(n:Nat)(r0:Q1->List (Q4)->List Nat->Int->Int->Q1->Q1->Q1->Q1->List Int->Q1->Q1->Q1->Q1->Option (List Int×Unit))(aO:Q1)(ar:List (Q4))(ai:List Nat)(ah:Int)(aA:Int)(au:Q1)(av:Q1)(aP:Q1)(bj:Q1)(cu:List Int)(bl:Q1)(bm:Q1)(bM:Q1)(bN:Q1):Option (List Int×Unit):=
  (bif decide (aA < ah)then ((idx ai aA).bind λ v1=>(y7c n r0 n (aO) (ar) (aA) (v1) (ai) (ah) (aA) (au) (av) (aP) (bj) (cu) (bl) (bm) (bM) (bN)))else some (cu,()))
def y81(n:Nat)(k:Nat)(aO:Q1)(ar:List (Q4))(ai:List Nat)(ah:Int)(aA:Int)(au:Q1)(av:Q1)(aP:Q1)(bj:Q1)(cu:List Int)(bl:Q1)(bm:Q1)(bM:Q1)(bN:Q1):Option (List Int×Unit):=
  iter (λ r y=>yFo n (λ aO ar ai ah aA au av aP bj cu bl bm bM bN=>r ((aO,(ar,(ai,(ah,(aA,()))))),(((au,(av,(aP,((bj,()),())))),((),(cu,()))),(bl,(bm,(bM,((bN,()),()))))))) y.1.1 y.1.2.1 y.1.2.2.1 y.1.2.2.2.1 y.1.2.2.2.2.1 y.2.1.1.1 y.2.1.1.2.1 y.2.1.1.2.2.1 y.2.1.1.2.2.2.1.1 y.2.1.2.2.1 y.2.2.1 y.2.2.2.1 y.2.2.2.2.1 y.2.2.2.2.2.1.1) k ((aO,(ar,(ai,(ah,(aA,()))))),(((au,(av,(aP,((bj,()),())))),((),(cu,()))),(bl,(bm,(bM,((bN,()),()))))))
def ySn(n:Nat)(rp:Q1):Option (List Int×Unit):=
  (y81 n n (rp) (rp.2.2.2.1) (rp.2.2.1) ((↑rp.2.2.1.length:Int)) ((0:Int)) (rp) (rp) (rp) (rp) ([]) (rp) (rp) (rp) (rp))
def yAy(j8:Q1)(j9:List (Q4))(j10:Int)(j11:Nat)(j12:List Nat)(j13:Int)(j14:Int)(j15:Q1)(j16:Q1)(j17:Q1)(j18:Q1)(j19:List Int)(j20:Q1)(j21:Q1)(j22:Q1)(j23:Q1):Option ((List Int×Unit)⊕((List (Q4))×List Int)):=
  (bif decide ((↑j9.length:Int) > 0)then ((idx j9 (0:Int)).bind λ v24=>(bif decide (v24.1<=j10)then (some (Sum.inr ((j9),(j19))))else ((ym FloatKind.f32 (yv BinOp.mul FloatKind.f32 j11 (nat_lit 1098907648)) i64).bind λ v29=>(bif decide (j19.length+(1:Nat)<=memMax)then (some (Sum.inr ((j9),(j19++[i64.wrap (j8.2.1+j10)]))))else none))))else ((ym FloatKind.f32 (yv BinOp.mul FloatKind.f32 j11 (nat_lit 1098907648)) i64).bind λ v30=>(bif decide (j19.length+(1:Nat)<=memMax)then (some (Sum.inr ((j9),(j19++[i64.wrap (j8.2.1+j10)]))))else none)))
theorem y3R(n:Nat)(hn:big<=n)(r0:Q1->List (Q4)->List Nat->Int->Int->Q1->Q1->Q1->Q1->List Int->Q1->Q1->Q1->Q1->Option (List Int×Unit))(j8:Q1)(j9:List (Q4))(j10:Int)(j11:Nat)(j12:List Nat)(j13:Int)(j14:Int)(j15:Q1)(j16:Q1)(j17:Q1)(j18:Q1)(j19:List Int)(j20:Q1)(j21:Q1)(j22:Q1)(j23:Q1):LeF (elim some λ (a7:((List (Q4))×List Int))=>r0 j8 a7.1 j12 j13 (i64.wrap (j14+1)) j15 j16 j17 j18 a7.2 j20 j21 j22 j23) (yAy j8 j9 j10 j11 j12 j13 j14 j15 j16 j17 j18 j19 j20 j21 j22 j23) (y8W n r0 j8 j9 j10 j11 j12 j13 j14 j15 j16 j17 j18 j19 j20 j21 j22 j23):=
  (y7 (y9 λ v24=>(y7 (y8 rfl) (y9 λ v29=>(y7 (y8 rfl) yo)))) (y9 λ v30=>(y7 (y8 rfl) yo)))
def yLw(aV:Q1)(aW:Int)(bc:Nat)(aG:List Nat)(ay:Int)(az:Int)(al:Q1)(am:Q1)(aC:Q1)(aX:Q1)(cn:List Int)(aY:Q1)(aZ:Q1)(bv:Q1)(bw:Q1)(ac:List (Q4)):Option (((List Int×Unit)⊕((List (Q4))×List Int))⊕(List (Q4))):=
  (bif decide ((↑ac.length:Int) > 0)then ((idx ac (0:Int)).bind λ v3=>(bif decide (v3.2.1<=aW)then (bif decide ((0:Int)<=1) && decide ((1:Int)<=(↑ac.length:Int))then (some (Sum.inr (List.drop (Int.toNat (1:Int)) ac)))else none)else (Option.map Sum.inl (yAy (aV) (ac) (aW) (bc) (aG) (ay) (az) (al) (am) (aC) (aX) (cn) (aY) (aZ) (bv) (bw)))))else (Option.map Sum.inl (yAy (aV) (ac) (aW) (bc) (aG) (ay) (az) (al) (am) (aC) (aX) (cn) (aY) (aZ) (bv) (bw))))
theorem yEm(n:Nat)(hn:big<=n)(r0:Q1->List (Q4)->List Nat->Int->Int->Q1->Q1->Q1->Q1->List Int->Q1->Q1->Q1->Q1->Option (List Int×Unit))(aV:Q1)(aW:Int)(bc:Nat)(aG:List Nat)(ay:Int)(az:Int)(al:Q1)(am:Q1)(aC:Q1)(aX:Q1)(cn:List Int)(aY:Q1)(aZ:Q1)(bv:Q1)(bw:Q1)(ac:List (Q4)):LeF (elim some λ (a7:((List (Q4))×List Int))=>r0 aV a7.1 aG ay (i64.wrap (az+1)) al am aC aX a7.2 aY aZ bv bw) (y1H (λ a7=>yLw aV aW bc aG ay az al am aC aX cn aY aZ bv bw a7) wMax ac) (y7c n r0 n aV ac aW bc aG ay az al am aC aX cn aY aZ bv bw):=by
  refine y2L (f:=(elim some λ (a7:((List (Q4))×List Int))=>r0 aV a7.1 aG ay (i64.wrap (az+1)) al am aC aX a7.2 aY aZ bv bw)) (W:=λ aI a7=>y7c n r0 aI aV a7 aW bc aG ay az al am aC aX cn aY aZ bv bw) (body:=(λ a7=>yLw aV aW bc aG ay az al am aC aX cn aY aZ bv bw a7)) (λ aI a7=>?_) wMax n ac (by unfold big at hn;unfold wMax;omega)
  show LeF _ _ (yGz n r0 (y7c n r0 aI) aV a7 aW bc aG ay az al am aC aX cn aY aZ bv bw)
  exact (y7 (y9 λ v3=>(y7 (y7 (y8 rfl) yo) (yz (by apply y3R n hn)))) (yz (by apply y3R n hn)))
def yKJ(aO:Q1)(ai:List Nat)(au:Q1)(av:Q1)(aP:Q1)(bj:Q1)(bl:Q1)(bm:Q1)(bM:Q1)(bN:Q1)(aA:Int)(v1:Nat)(ar:List (Q4))(cu:List Int):Option ((List Int×Unit)⊕((List (Q4))×List Int)):=
  (y1H (λ a7=>yLw (aO) (aA) (v1) (ai) ((↑ai.length:Int)) (aA) (au) (av) (aP) (bj) (cu) (bl) (bm) (bM) (bN) a7) wMax (ar))
def yOD(aO:Q1)(ai:List Nat)(au:Q1)(av:Q1)(aP:Q1)(bj:Q1)(bl:Q1)(bm:Q1)(bM:Q1)(bN:Q1)(ar:List (Q4))(cu:List Int):Option (List Int×Unit):=
  (some ((cu,())))
theorem yEN(n:Nat)(hn:big<=n)(aO:Q1)(ai:List Nat)(au:Q1)(av:Q1)(aP:Q1)(bj:Q1)(bl:Q1)(bm:Q1)(bM:Q1)(bN:Q1)(ar:List (Q4))(cu:List Int)(hx:List.length (ai) < lenMax):LeF some (yL (λ ak b7 a7=>yKJ aO ai au av aP bj bl bm bM bN ak b7 a7.1 a7.2) (λ a7=>yOD aO ai au av aP bj bl bm bM bN a7.1 a7.2) 0 (ai) (ar,cu)) (y81 n n aO ar ai (List.length (ai):Int) 0 au av aP bj cu bl bm bM bN):=by
  refine yS (f:=some) (W:=λ aI ak a7=>y81 n aI aO a7.1 ai (List.length (ai):Int) ak au av aP bj a7.2 bl bm bM bN) (λ aI ak a7=>?_) hx (ar,cu) n (by unfold big at hn;unfold lenMax at hx;omega)
  show LeF _ _ (yFo n (y81 n aI) aO a7.1 ai (List.length (ai):Int) ak au av aP bj a7.2 bl bm bM bN)
  exact y7 (y9 λ v1=>(by apply yEm n hn)) (yz (y8 rfl))
def yJK(rp:Q1):Option (List Int×Unit):=
  (bif decide (List.length (rp.2.2.1) < lenMax)then yL (λ ak b7 a7=>yKJ (rp) (rp.2.2.1) (rp) (rp) (rp) (rp) (rp) (rp) (rp) (rp) ak b7 a7.1 a7.2) (λ a7=>yOD (rp) (rp.2.2.1) (rp) (rp) (rp) (rp) (rp) (rp) (rp) (rp) a7.1 a7.2) 0 (rp.2.2.1) ((rp.2.2.2.1),([]))else none)
abbrev z0g_e:Entry:={ f:=78,args:=.pair t43 .unit,rS:=.pair t88 .unit,m:=λ x=>yJK x.1 }
theorem yO4:FnOK Tryz.prog z0g_e:=fBI (mu:=[3]) Tryz.f78 (λ n x=>ySn n x.1) [] [il53,il107] 3 eNil (y4y y8w (y4y y67 iNil)) λ n hn x=>(yT λ hx=>by apply yEN n hn;exact hx)
def zR_m(n:Nat)(c:Q3)(tick:Int):Option ((Q4)×Unit):=
  (bif c.2.1==0 then none else ((idx [((1:Int),(0:Int),()),((0:Int),(1:Int),()),((-1:Int),(0:Int),()),((0:Int),(-1:Int),())] ((i64.wrap (c.2.2.1 * i64.wrap (tick.tdiv c.2.1))).tmod (4:Int))).bind λ v0=>some ((v0.1,v0.2.1,()),())))
def zR_M(c:Q3)(tick:Int):Option ((Q4)×Unit):=zR_m 0 c tick
abbrev zR_e:Entry:={ f:=97,args:=.pair t34 (.pair t3 .unit),rS:=.pair t36 .unit,m:=λ x=>zR_M x.1 x.2.1 }
theorem yQ9:FnOK Tryz.prog zR_e:=fF 0 Tryz.f97 (λ n x=>zR_m n x.1 x.2.1) [] eNil
def yLt(n:Nat)(r0:((Q3)×Unit->Option ((Q4)×Unit))->List (Q3)->Int->Int->List (Q4)->Option (List (Q4)×Unit))(aa:(Q3)×Unit->Option ((Q4)×Unit))(a8:List (Q3))(ai:Int)(ah:Int)(af:List (Q4)):Option (List (Q4)×Unit):=
  (bif decide (ah < ai)then ((idx a8 ah).bind λ v1=>((aa ((v1.1,v1.2.1,v1.2.2.1,()),())).bind λ v2=>(bif decide (af.length+(1:Nat)<=memMax)then r0 aa a8 ai (i64.wrap (ah+1)) (af++[v2.1])else none)))else some (af,()))
def yB2(n:Nat)(k:Nat)(aa:(Q3)×Unit->Option ((Q4)×Unit))(a8:List (Q3))(ai:Int)(ah:Int)(af:List (Q4)):Option (List (Q4)×Unit):=
  iter (λ r y=>yLt n (λ aa a8 ai ah af=>r ((aa,(a8,(ai,(ah,())))),((af,()),()))) y.1.1 y.1.2.1 y.1.2.2.1 y.1.2.2.2.1 y.2.1.1) k ((aa,(a8,(ai,(ah,())))),((af,()),()))
def zA_m(n:Nat)(l:List (Q3))(of:(Q3)×Unit->Option ((Q4)×Unit)):Option (List (Q4)×Unit):=
  (yB2 n n (of) (l) ((↑l.length:Int)) ((0:Int)) ([]))
def yNF(aa:(Q3)×Unit->Option ((Q4)×Unit))(a8:List (Q3))(ah:Int)(v1:Q3)(af:List (Q4)):Option ((List (Q4)×Unit)⊕(List (Q4))):=
  ((aa ((v1.1,v1.2.1,v1.2.2.1,()),())).bind λ v2=>(bif decide (af.length+(1:Nat)<=memMax)then (some (Sum.inr (af++[v2.1])))else none))
def yQ7(aa:(Q3)×Unit->Option ((Q4)×Unit))(a8:List (Q3))(af:List (Q4)):Option (List (Q4)×Unit):=
  (some ((af,())))
theorem yIG(n:Nat)(hn:big<=n)(aa:(Q3)×Unit->Option ((Q4)×Unit))(a8:List (Q3))(af:List (Q4))(hx:List.length (a8) < lenMax):LeF some (yL (λ ak b7 a7=>yNF aa a8 ak b7 a7) (λ a7=>yQ7 aa a8 a7) 0 (a8) af) (yB2 n n aa a8 (List.length (a8):Int) 0 af):=by
  refine yS (f:=some) (W:=λ aI ak a7=>yB2 n aI aa a8 (List.length (a8):Int) ak a7) (λ aI ak a7=>?_) hx af n (by unfold big at hn;unfold lenMax at hx;omega)
  show LeF _ _ (yLt n (yB2 n aI) aa a8 (List.length (a8):Int) ak a7)
  exact y7 (y9 λ v1=>(y9 λ v2=>(y7 (y8 rfl) yo))) (yz (y8 rfl))
def zA_M(l:List (Q3))(of:(Q3)×Unit->Option ((Q4)×Unit)):Option (List (Q4)×Unit):=
  (bif decide (List.length (l) < lenMax)then yL (λ ak b7 a7=>yNF (of) (l) ak b7 a7) (λ a7=>yQ7 (of) (l) a7) 0 (l) ([])else none)
abbrev zA_e:Entry:={ f:=81,args:=.pair t28 (.pair t160 .unit),rS:=.pair t30 .unit,m:=λ x=>zA_M x.1 x.2.1 }
theorem yPk:FnOK Tryz.prog zA_e:=fB (mu:=[5]) Tryz.f81 (λ n x=>zA_m n x.1 x.2.1) [[1,5,8,9,10]] eNil λ n hn x=>(yT λ hx=>by apply yIG n hn;exact hx)
def yLv(n:Nat)(r0:List (List (Q4))->Int->List (Q4)->Int->Int->List (List (Q4))->Option (List (List (Q4))×Unit))(bp:List (List (Q4)))(aH:Int)(b8:List (Q4))(bG:Int)(aq:Int)(af:List (List (Q4))):Option (List (List (Q4))×Unit):=
  (bif decide (aq < bG)then ((idx bp aq).bind λ v1=>(bif Bool.true && decide ((0:Int)<=(↑v1.length:Int)) && decide ((↑v1.length:Int)<=(↑memMax:Int)) && (↑v1.length:Int)==(↑v1.length:Int)then ((idx af aq).bind λ v2=>((af[aq.toNat]?).bind λ v3=>((idx (af.set aq.toNat (List.replicate ((↑v1.length:Int).toNat) (((0:Int),(0:Int),())):List (Q4))) aq).bind λ v4=>(((af.set aq.toNat (List.replicate ((↑v1.length:Int).toNat) (((0:Int),(0:Int),())):List (Q4)))[aq.toNat]?).bind λ v5=>((idx bp aq).bind λ v6=>(((af.set aq.toNat (List.replicate ((↑v1.length:Int).toNat) (((0:Int),(0:Int),())):List (Q4)))[aq.toNat]?).bind λ v7=>(bif decide (v6.length=v7.length)then ((idx ((af.set aq.toNat (List.replicate ((↑v1.length:Int).toNat) (((0:Int),(0:Int),())):List (Q4))).set aq.toNat v6) aq).bind λ v8=>((((af.set aq.toNat (List.replicate ((↑v1.length:Int).toNat) (((0:Int),(0:Int),())):List (Q4))).set aq.toNat v6)[aq.toNat]?).bind λ v9=>((idx b8 aq).bind λ v10=>((((af.set aq.toNat (List.replicate ((↑v1.length:Int).toNat) (((0:Int),(0:Int),())):List (Q4))).set aq.toNat v6)[aq.toNat]?).bind λ v11=>((idx v11 aH).bind λ v12=>((((af.set aq.toNat (List.replicate ((↑v1.length:Int).toNat) (((0:Int),(0:Int),())):List (Q4))).set aq.toNat v6)[aq.toNat]?).bind λ v13=>((v13[aH.toNat]?).bind λ v14=>r0 bp aH b8 bG (i64.wrap (aq+1)) (((af.set aq.toNat (List.replicate ((↑v1.length:Int).toNat) (((0:Int),(0:Int),())):List (Q4))).set aq.toNat v6).set aq.toNat (v13.set aH.toNat v10)))))))))else none)))))))else none))else some (af,()))
def yBw(n:Nat)(k:Nat)(bp:List (List (Q4)))(aH:Int)(b8:List (Q4))(bG:Int)(aq:Int)(af:List (List (Q4))):Option (List (List (Q4))×Unit):=
  iter (λ r y=>yLv n (λ bp aH b8 bG aq af=>r ((bp,(aH,(b8,(bG,(aq,()))))),((af,()),()))) y.1.1 y.1.2.1 y.1.2.2.1 y.1.2.2.2.1 y.1.2.2.2.2.1 y.2.1.1) k ((bp,(aH,(b8,(bG,(aq,()))))),((af,()),()))
def zd_m(n:Nat)(m:List (List (Q4)))(column:Int)(values:List (Q4)):Option (List (List (Q4))×Unit):=
  (bif Bool.true && decide ((0:Int)<=(↑m.length:Int)) && decide ((↑m.length:Int)<=(↑memMax:Int)) && (↑m.length:Int)==(↑m.length:Int)then (yBw n n (m) (column) (values) ((↑m.length:Int)) ((0:Int)) ((List.replicate ((↑m.length:Int).toNat) ([]):List (List (Q4)))))else none)
def yKb(bp:List (List (Q4)))(aH:Int)(b8:List (Q4))(aq:Int)(v1:List (Q4))(af:List (List (Q4))):Option ((List (List (Q4))×Unit)⊕(List (List (Q4)))):=
  (bif Bool.true && decide ((0:Int)<=(↑v1.length:Int)) && decide ((↑v1.length:Int)<=(↑memMax:Int)) && (↑v1.length:Int)==(↑v1.length:Int)then ((idx af aq).bind λ v2=>((af[aq.toNat]?).bind λ v3=>((idx (af.set aq.toNat (List.replicate ((↑v1.length:Int).toNat) (((0:Int),(0:Int),())):List (Q4))) aq).bind λ v4=>(((af.set aq.toNat (List.replicate ((↑v1.length:Int).toNat) (((0:Int),(0:Int),())):List (Q4)))[aq.toNat]?).bind λ v5=>((idx bp aq).bind λ v6=>(((af.set aq.toNat (List.replicate ((↑v1.length:Int).toNat) (((0:Int),(0:Int),())):List (Q4)))[aq.toNat]?).bind λ v7=>(bif decide (v6.length=v7.length)then ((idx ((af.set aq.toNat (List.replicate ((↑v1.length:Int).toNat) (((0:Int),(0:Int),())):List (Q4))).set aq.toNat v6) aq).bind λ v8=>((((af.set aq.toNat (List.replicate ((↑v1.length:Int).toNat) (((0:Int),(0:Int),())):List (Q4))).set aq.toNat v6)[aq.toNat]?).bind λ v9=>((idx b8 aq).bind λ v10=>((((af.set aq.toNat (List.replicate ((↑v1.length:Int).toNat) (((0:Int),(0:Int),())):List (Q4))).set aq.toNat v6)[aq.toNat]?).bind λ v11=>((idx v11 aH).bind λ v12=>((((af.set aq.toNat (List.replicate ((↑v1.length:Int).toNat) (((0:Int),(0:Int),())):List (Q4))).set aq.toNat v6)[aq.toNat]?).bind λ v13=>((v13[aH.toNat]?).bind λ v14=>(some (Sum.inr (((af.set aq.toNat (List.replicate ((↑v1.length:Int).toNat) (((0:Int),(0:Int),())):List (Q4))).set aq.toNat v6).set aq.toNat (v13.set aH.toNat v10)))))))))))else none)))))))else none)
def yMe(bp:List (List (Q4)))(aH:Int)(b8:List (Q4))(af:List (List (Q4))):Option (List (List (Q4))×Unit):=
  (some ((af,())))
theorem yHK(n:Nat)(hn:big<=n)(bp:List (List (Q4)))(aH:Int)(b8:List (Q4))(af:List (List (Q4)))(hx:List.length (bp) < lenMax):LeF some (yL (λ ak b7 a7=>yKb bp aH b8 ak b7 a7) (λ a7=>yMe bp aH b8 a7) 0 (bp) af) (yBw n n bp aH b8 (List.length (bp):Int) 0 af):=by
  refine yS (f:=some) (W:=λ aI ak a7=>yBw n aI bp aH b8 (List.length (bp):Int) ak a7) (λ aI ak a7=>?_) hx af n (by unfold big at hn;unfold lenMax at hx;omega)
  show LeF _ _ (yLv n (yBw n aI) bp aH b8 (List.length (bp):Int) ak a7)
  exact y7 (y9 λ v1=>(y7 (y9 λ v2=>(y9 λ v3=>(y9 λ v4=>(y9 λ v5=>(y9 λ v6=>(y9 λ v7=>(y7 (y9 λ v8=>(y9 λ v9=>(y9 λ v10=>(y9 λ v11=>(y9 λ v12=>(y9 λ v13=>(y9 λ v14=>(y8 rfl)))))))) yo))))))) yo)) (yz (y8 rfl))
def zd_M(m:List (List (Q4)))(column:Int)(values:List (Q4)):Option (List (List (Q4))×Unit):=
  (bif Bool.true && decide ((0:Int)<=(↑m.length:Int)) && decide ((↑m.length:Int)<=(↑memMax:Int)) && (↑m.length:Int)==(↑m.length:Int)then (bif decide (List.length (m) < lenMax)then yL (λ ak b7 a7=>yKb (m) (column) (values) ak b7 a7) (λ a7=>yMe (m) (column) (values) a7) 0 (m) ((List.replicate ((↑m.length:Int).toNat) ([]):List (List (Q4))))else none)else none)
abbrev zd_e:Entry:={ f:=83,args:=.pair t111 (.pair t3 (.pair t30 .unit)),rS:=.pair t111 .unit,m:=λ x=>zd_M x.1 x.2.1 x.2.2.1 }
theorem ySU:FnOK Tryz.prog zd_e:=fB (fz:=[11]) Tryz.f83 (λ n x=>zd_m n x.1 x.2.1 x.2.2.1) [[0,1,2,7,13,14]] eNil λ n hn x=>(y7 (yT λ hx=>by apply yHK n hn;exact hx) yo)
def yOs(n:Nat)(r0:(Int×Unit->Option (List UInt8×Unit))->List Int->Int->Int->List (List UInt8)->Option (List (List UInt8)×Unit))(aa:Int×Unit->Option (List UInt8×Unit))(a8:List Int)(ai:Int)(ah:Int)(af:List (List UInt8)):Option (List (List UInt8)×Unit):=
  (bif decide (ah < ai)then ((idx a8 ah).bind λ v1=>((aa (v1,())).bind λ v2=>(bif decide (af.length+(1:Nat)<=memMax)then r0 aa a8 ai (i64.wrap (ah+1)) (af++[v2.1])else none)))else some (af,()))
def yQE(n:Nat)(k:Nat)(aa:Int×Unit->Option (List UInt8×Unit))(a8:List Int)(ai:Int)(ah:Int)(af:List (List UInt8)):Option (List (List UInt8)×Unit):=
  iter (λ r y=>yOs n (λ aa a8 ai ah af=>r ((aa,(a8,(ai,(ah,())))),((af,()),()))) y.1.1 y.1.2.1 y.1.2.2.1 y.1.2.2.2.1 y.2.1.1) k ((aa,(a8,(ai,(ah,())))),((af,()),()))
def zN_m(n:Nat)(l:List Int)(of:Int×Unit->Option (List UInt8×Unit)):Option (List (List UInt8)×Unit):=
  (yQE n n (of) (l) ((↑l.length:Int)) ((0:Int)) ([]))
def zN_M(l:List Int)(of:Int×Unit->Option (List UInt8×Unit)):Option (List (List UInt8)×Unit):=zN_m 1000 l of
abbrev zN_e:Entry:={ f:=65,args:=.pair t88 (.pair t133 .unit),rS:=.pair t73 .unit,m:=λ x=>zN_M x.1 x.2.1 }
theorem ySl:FnOK Tryz.prog zN_e:=fF (mu:=[5]) 1000 Tryz.f65 (λ n x=>zN_m n x.1 x.2.1) [[1,5,8,9,10]] eNil
def y4S(n:Nat)(r2:List UInt8->Int->Option (Bool×Unit))(bJ:List UInt8)(bW:Int)(v3:UInt8):Option (Bool×Unit):=
  (bif bW==0 then some (Bool.false,())else (bif (↑v3.toNat:Int) != 95 then (bif decide ((↑v3.toNat:Int) < 48)then some (Bool.false,())else (bif decide ((↑v3.toNat:Int) > 57)then some (Bool.false,())else r2 bJ (i64.wrap (bW+1))))else r2 bJ (i64.wrap (bW+1))))
def yFd(n:Nat)(r2:List UInt8->Int->Option (Bool×Unit))(bJ:List UInt8)(bW:Int):Option (Bool×Unit):=
  (bif decide (bW < (↑bJ.length:Int))then ((idx bJ bW).bind λ v3=>(bif decide ((↑v3.toNat:Int) >= 97)then (bif decide ((↑v3.toNat:Int)<=122)then r2 bJ (i64.wrap (bW+1))else (bif decide ((↑v3.toNat:Int) >= 65)then (bif decide ((↑v3.toNat:Int)<=90)then r2 bJ (i64.wrap (bW+1))else (y4S n r2 bJ bW v3))else (y4S n r2 bJ bW v3)))else (bif decide ((↑v3.toNat:Int) >= 65)then (bif decide ((↑v3.toNat:Int)<=90)then r2 bJ (i64.wrap (bW+1))else (y4S n r2 bJ bW v3))else (y4S n r2 bJ bW v3))))else some (Bool.true,()))
def y7W(n:Nat)(k:Nat)(bJ:List UInt8)(bW:Int):Option (Bool×Unit):=
  iter (λ r y=>yFd n (λ bJ bW=>r ((bJ,(bW,())),((),()))) y.1.1 y.1.2.1) k ((bJ,(bW,())),((),()))
def ySh(n:Nat)(s:List UInt8):Option (Bool×Unit):=
  (bif (↑s.length:Int)==0 then some (Bool.false,())else (bif decide ((↑s.length:Int) > 24)then some (Bool.false,())else (y7W n n (s) ((0:Int)))))
def y6P(bJ:List UInt8)(bW:Int)(v3:UInt8):Option ((Bool×Unit)⊕Unit):=
  (bif bW==0 then (some (Sum.inl ((Bool.false,()))))else (bif (↑v3.toNat:Int) != 95 then (bif decide ((↑v3.toNat:Int) < 48)then (some (Sum.inl ((Bool.false,()))))else (bif decide ((↑v3.toNat:Int) > 57)then (some (Sum.inl ((Bool.false,()))))else (some (Sum.inr ()))))else (some (Sum.inr ()))))
theorem y0e(n:Nat)(hn:big<=n)(r2:List UInt8->Int->Option (Bool×Unit))(bJ:List UInt8)(bW:Int)(v3:UInt8):LeF (elim some λ (a7:Unit)=>r2 bJ (i64.wrap (bW+1))) (y6P bJ bW v3) (y4S n r2 bJ bW v3):=
  (y7 (y8 rfl) (y7 (y7 (y8 rfl) (y7 (y8 rfl) (y8 rfl))) (y8 rfl)))
def yDR(bJ:List UInt8)(bW:Int)(v3:UInt8):Option ((Bool×Unit)⊕Unit):=
  (bif decide ((↑v3.toNat:Int) >= 97)then (bif decide ((↑v3.toNat:Int)<=122)then (some (Sum.inr ()))else (bif decide ((↑v3.toNat:Int) >= 65)then (bif decide ((↑v3.toNat:Int)<=90)then (some (Sum.inr ()))else (y6P bJ bW v3))else (y6P bJ bW v3)))else (bif decide ((↑v3.toNat:Int) >= 65)then (bif decide ((↑v3.toNat:Int)<=90)then (some (Sum.inr ()))else (y6P bJ bW v3))else (y6P bJ bW v3)))
def yKr(bJ:List UInt8):Option (Bool×Unit):=
  (some ((Bool.true,())))
theorem yEM(n:Nat)(hn:big<=n)(bJ:List UInt8)(hx:List.length (bJ) < lenMax):LeF some (yL (λ ak b7 a7=>yDR bJ ak b7) (λ a7=>yKr bJ) 0 (bJ) ()) (y7W n n bJ 0):=by
  refine yS (f:=some) (W:=λ aI ak a7=>y7W n aI bJ ak) (λ aI ak a7=>?_) hx () n (by unfold big at hn;unfold lenMax at hx;omega)
  show LeF _ _ (yFd n (y7W n aI) bJ ak)
  exact y7 (y9 λ v3=>(y7 (y7 (y8 rfl) (y7 (y7 (y8 rfl) (by apply y0e n hn)) (by apply y0e n hn))) (y7 (y7 (y8 rfl) (by apply y0e n hn)) (by apply y0e n hn)))) (yz (y8 rfl))
def yN9(s:List UInt8):Option (Bool×Unit):=
  (bif (↑s.length:Int)==0 then (some ((Bool.false,())))else (bif decide ((↑s.length:Int) > 24)then (some ((Bool.false,())))else (bif decide (List.length (s) < lenMax)then yL (λ ak b7 a7=>yDR (s) ak b7) (λ a7=>yKr (s)) 0 (s) ()else none)))
abbrev z02_e:Entry:={ f:=93,args:=.pair t9 .unit,rS:=.pair t4 .unit,m:=λ x=>yN9 x.1 }
theorem ySN:FnOK Tryz.prog z02_e:=fB Tryz.f93 (λ n x=>ySh n x.1) [[0,3]] eNil λ n hn x=>(y7 (y8 rfl) (y7 (y8 rfl) (yT λ hx=>by apply yEM n hn;exact hx)))
def zu_m(n:Nat)(c:Q3):Option ((Q3)×Unit):=
  some ((c.1,c.2.1,c.2.2.1,()),())
def zu(c:Q3):((Q3)×Unit):=
  ((c.1,c.2.1,c.2.2.1,()),())
abbrev zu_M (c:Q3):Option ((Q3)×Unit):=some (zu c)
abbrev zu_e:Entry:={ f:=100,args:=.pair t34 .unit,rS:=.pair t34 .unit,m:=λ x=>zu_M x.1 }
theorem yTO:FnOK Tryz.prog zu_e:=fF (hm:=by intro x;show some (zu x.1)=zu_m 0 x.1;unfold zu_m zu;first|rfl|simp only[y06]) 0 Tryz.f100 (λ n x=>zu_m n x.1) [] eNil
def zv_m(n:Nat)(z:Q4)(p1:Int):Option ((Q4)×Unit):=
  (bif p1==0 then none else (bif p1==0 then none else some ((i64.wrap (z.1.tdiv p1),i64.wrap (z.2.1.tdiv p1),()),())))
def zv_M(z:Q4)(p1:Int):Option ((Q4)×Unit):=zv_m 0 z p1
abbrev zv_e:Entry:={ f:=102,args:=.pair t36 (.pair (.ref t3) .unit),rS:=.pair t36 .unit,m:=λ x=>zv_M x.1 x.2.1 }
theorem yTW:FnOK Tryz.prog zv_e:=fF 0 Tryz.f102 (λ n x=>zv_m n x.1 x.2.1) [] eNil
def yLg(n:Nat)(r0:((Q3)×Unit->Option (List (Q4)×Unit))->List (Q3)->Int->Int->List (List (Q4))->Option (List (List (Q4))×Unit))(aa:(Q3)×Unit->Option (List (Q4)×Unit))(a8:List (Q3))(ai:Int)(ah:Int)(af:List (List (Q4))):Option (List (List (Q4))×Unit):=
  (bif decide (ah < ai)then ((idx a8 ah).bind λ v1=>((aa ((v1.1,v1.2.1,v1.2.2.1,()),())).bind λ v2=>(bif decide (af.length+(1:Nat)<=memMax)then r0 aa a8 ai (i64.wrap (ah+1)) (af++[v2.1])else none)))else some (af,()))
def yC3(n:Nat)(k:Nat)(aa:(Q3)×Unit->Option (List (Q4)×Unit))(a8:List (Q3))(ai:Int)(ah:Int)(af:List (List (Q4))):Option (List (List (Q4))×Unit):=
  iter (λ r y=>yLg n (λ aa a8 ai ah af=>r ((aa,(a8,(ai,(ah,())))),((af,()),()))) y.1.1 y.1.2.1 y.1.2.2.1 y.1.2.2.2.1 y.2.1.1) k ((aa,(a8,(ai,(ah,())))),((af,()),()))
def z8_m(n:Nat)(l:List (Q3))(of:(Q3)×Unit->Option (List (Q4)×Unit)):Option (List (List (Q4))×Unit):=
  (yC3 n n (of) (l) ((↑l.length:Int)) ((0:Int)) ([]))
def yOr(aa:(Q3)×Unit->Option (List (Q4)×Unit))(a8:List (Q3))(ah:Int)(v1:Q3)(af:List (List (Q4))):Option ((List (List (Q4))×Unit)⊕(List (List (Q4)))):=
  ((aa ((v1.1,v1.2.1,v1.2.2.1,()),())).bind λ v2=>(bif decide (af.length+(1:Nat)<=memMax)then (some (Sum.inr (af++[v2.1])))else none))
def yRV(aa:(Q3)×Unit->Option (List (Q4)×Unit))(a8:List (Q3))(af:List (List (Q4))):Option (List (List (Q4))×Unit):=
  (some ((af,())))
theorem yHt(n:Nat)(hn:big<=n)(aa:(Q3)×Unit->Option (List (Q4)×Unit))(a8:List (Q3))(af:List (List (Q4)))(hx:List.length (a8) < lenMax):LeF some (yL (λ ak b7 a7=>yOr aa a8 ak b7 a7) (λ a7=>yRV aa a8 a7) 0 (a8) af) (yC3 n n aa a8 (List.length (a8):Int) 0 af):=by
  refine yS (f:=some) (W:=λ aI ak a7=>yC3 n aI aa a8 (List.length (a8):Int) ak a7) (λ aI ak a7=>?_) hx af n (by unfold big at hn;unfold lenMax at hx;omega)
  show LeF _ _ (yLg n (yC3 n aI) aa a8 (List.length (a8):Int) ak a7)
  exact y7 (y9 λ v1=>(y9 λ v2=>(y7 (y8 rfl) yo))) (yz (y8 rfl))
def z8_M(l:List (Q3))(of:(Q3)×Unit->Option (List (Q4)×Unit)):Option (List (List (Q4))×Unit):=
  (bif decide (List.length (l) < lenMax)then yL (λ ak b7 a7=>yOr (of) (l) ak b7 a7) (λ a7=>yRV (of) (l) a7) 0 (l) ([])else none)
abbrev z8_e:Entry:={ f:=103,args:=.pair t28 (.pair t178 .unit),rS:=.pair t75 .unit,m:=λ x=>z8_M x.1 x.2.1 }
theorem yTe:FnOK Tryz.prog z8_e:=fB (mu:=[5]) Tryz.f103 (λ n x=>z8_m n x.1 x.2.1) [[1,5,8,9,10]] eNil λ n hn x=>(yT λ hx=>by apply yHt n hn;exact hx)
def yIf(n:Nat)(r0:(Nat×Unit->Option (Int×Unit))->List Nat->Int->Int->List Int->Option (List Int×Unit))(aa:Nat×Unit->Option (Int×Unit))(a8:List Nat)(ai:Int)(ah:Int)(af:List Int):Option (List Int×Unit):=
  (bif decide (ah < ai)then ((idx a8 ah).bind λ v1=>((aa (v1,())).bind λ v2=>(bif decide (af.length+(1:Nat)<=memMax)then r0 aa a8 ai (i64.wrap (ah+1)) (af++[v2.1])else none)))else some (af,()))
def yBF(n:Nat)(k:Nat)(aa:Nat×Unit->Option (Int×Unit))(a8:List Nat)(ai:Int)(ah:Int)(af:List Int):Option (List Int×Unit):=
  iter (λ r y=>yIf n (λ aa a8 ai ah af=>r ((aa,(a8,(ai,(ah,())))),((af,()),()))) y.1.1 y.1.2.1 y.1.2.2.1 y.1.2.2.2.1 y.2.1.1) k ((aa,(a8,(ai,(ah,())))),((af,()),()))
def zI_m(n:Nat)(l:List Nat)(of:Nat×Unit->Option (Int×Unit)):Option (List Int×Unit):=
  (yBF n n (of) (l) ((↑l.length:Int)) ((0:Int)) ([]))
def yS9(aa:Nat×Unit->Option (Int×Unit))(a8:List Nat)(ah:Int)(v1:Nat)(af:List Int):Option ((List Int×Unit)⊕(List Int)):=
  ((aa (v1,())).bind λ v2=>(bif decide (af.length+(1:Nat)<=memMax)then (some (Sum.inr (af++[v2.1])))else none))
def ySA(aa:Nat×Unit->Option (Int×Unit))(a8:List Nat)(af:List Int):Option (List Int×Unit):=
  (some ((af,())))
theorem yH9(n:Nat)(hn:big<=n)(aa:Nat×Unit->Option (Int×Unit))(a8:List Nat)(af:List Int)(hx:List.length (a8) < lenMax):LeF some (yL (λ ak b7 a7=>yS9 aa a8 ak b7 a7) (λ a7=>ySA aa a8 a7) 0 (a8) af) (yBF n n aa a8 (List.length (a8):Int) 0 af):=by
  refine yS (f:=some) (W:=λ aI ak a7=>yBF n aI aa a8 (List.length (a8):Int) ak a7) (λ aI ak a7=>?_) hx af n (by unfold big at hn;unfold lenMax at hx;omega)
  show LeF _ _ (yIf n (yBF n aI) aa a8 (List.length (a8):Int) ak a7)
  exact y7 (y9 λ v1=>(y9 λ v2=>(y7 (y8 rfl) yo))) (yz (y8 rfl))
def zI_M(l:List Nat)(of:Nat×Unit->Option (Int×Unit)):Option (List Int×Unit):=
  (bif decide (List.length (l) < lenMax)then yL (λ ak b7 a7=>yS9 (of) (l) ak b7 a7) (λ a7=>ySA (of) (l) a7) 0 (l) ([])else none)
abbrev zI_e:Entry:={ f:=121,args:=.pair t37 (.pair t188 .unit),rS:=.pair t168 .unit,m:=λ x=>zI_M x.1 x.2.1 }
theorem yTn:FnOK Tryz.prog zI_e:=fB (mu:=[5]) Tryz.f121 (λ n x=>zI_m n x.1 x.2.1) [[1,5,8,9,10]] eNil λ n hn x=>(yT λ hx=>by apply yH9 n hn;exact hx)
def yFm(n:Nat)(r0:List Int->Int->Int->Option (Int×Unit))(bt:List Int)(b9:Int)(aJ:Int):Option (Int×Unit):=
  (bif decide (aJ < b9)then ((idx bt aJ).bind λ v1=>(bif v1 != 0 then some (v1,())else r0 bt b9 (i64.wrap (aJ+1))))else some ((0:Int),()))
def y7s(n:Nat)(k:Nat)(bt:List Int)(b9:Int)(aJ:Int):Option (Int×Unit):=
  iter (λ r y=>yFm n (λ bt b9 aJ=>r ((bt,(b9,(aJ,()))),((),()))) y.1.1 y.1.2.1 y.1.2.2.1) k ((bt,(b9,(aJ,()))),((),()))
def yTm(n:Nat)(l:List Int):Option (Int×Unit):=
  (y7s n n (l) ((↑l.length:Int)) ((0:Int)))
def yJg(bt:List Int)(aJ:Int)(v1:Int):Option ((Int×Unit)⊕Unit):=
  (bif v1 != 0 then (some (Sum.inl ((v1,()))))else (some (Sum.inr ())))
def yJY(bt:List Int):Option (Int×Unit):=
  (some (((0:Int),())))
theorem yFC(n:Nat)(hn:big<=n)(bt:List Int)(hx:List.length (bt) < lenMax):LeF some (yL (λ ak b7 a7=>yJg bt ak b7) (λ a7=>yJY bt) 0 (bt) ()) (y7s n n bt (List.length (bt):Int) 0):=by
  refine yS (f:=some) (W:=λ aI ak a7=>y7s n aI bt (List.length (bt):Int) ak) (λ aI ak a7=>?_) hx () n (by unfold big at hn;unfold lenMax at hx;omega)
  show LeF _ _ (yFm n (y7s n aI) bt (List.length (bt):Int) ak)
  exact y7 (y9 λ v1=>(y7 (y8 rfl) (y8 rfl))) (yz (y8 rfl))
def yBH(l:List Int):Option (Int×Unit):=
  (bif decide (List.length (l) < lenMax)then yL (λ ak b7 a7=>yJg (l) ak b7) (λ a7=>yJY (l)) 0 (l) ()else none)
abbrev z0C_e:Entry:={ f:=124,args:=.pair t168 .unit,rS:=.pair t38 .unit,m:=λ x=>yBH x.1 }
theorem yOW:FnOK Tryz.prog z0C_e:=fB Tryz.f124 (λ n x=>yTm n x.1) [[5,6,7]] eNil λ n hn x=>(yT λ hx=>by apply yFC n hn;exact hx)
def yPa(n:Nat)(holds:Bool)(e:Int):Option (Int×Unit):=
  (bif holds then some (e,())else some ((0:Int),()))
def z0Q(holds:Bool)(e:Int):(Int×Unit):=
  (bif holds then (e,())else ((0:Int),()))
abbrev yTo (holds:Bool) (e:Int):Option (Int×Unit):=some (z0Q holds e)
abbrev z0Q_e:Entry:={ f:=125,args:=.pair t4 (.pair t38 .unit),rS:=.pair t38 .unit,m:=λ x=>yTo x.1 x.2.1 }
theorem yDf:FnOK Tryz.prog z0Q_e:=fF (hm:=by intro x;show some (z0Q x.1 x.2.1)=yPa 0 x.1 x.2.1;unfold yPa z0Q;first|rfl|simp only[y06]) 0 Tryz.f125 (λ n x=>yPa n x.1 x.2.1) [] eNil
def y5Y(n:Nat)(r0:List UInt8->List UInt8->Int->Option (Bool×Unit))(ax:List UInt8)(str0__0:List UInt8)(pos0__0:Int)(j2:Bool)(j7:Bool):Option (Bool×Unit):=
  (bif !j2 then (bif pos0__0==0 then some (Bool.false,())else (bif !j7 then some (Bool.false,())else r0 ax str0__0 (yg str0__0 pos0__0).2))else r0 ax str0__0 (yg str0__0 pos0__0).2)
def y33(n:Nat)(r0:List UInt8->List UInt8->Int->Option (Bool×Unit))(ax:List UInt8)(str0__0:List UInt8)(pos0__0:Int)(j2:Bool):Option (Bool×Unit):=
  (bif decide ((yg str0__0 pos0__0).1 >= 48)then (bif decide ((yg str0__0 pos0__0).1<=57)then (y5Y n r0 ax str0__0 pos0__0 j2 (Bool.true))else (y5Y n r0 ax str0__0 pos0__0 j2 ((yg str0__0 pos0__0).1==95)))else (y5Y n r0 ax str0__0 pos0__0 j2 ((yg str0__0 pos0__0).1==95)))
def yFi(n:Nat)(r0:List UInt8->List UInt8->Int->Option (Bool×Unit))(ax:List UInt8)(str0__0:List UInt8)(pos0__0:Int):Option (Bool×Unit):=
  (bif decide (pos0__0 < (↑str0__0.length:Int))then (bif decide ((yg str0__0 pos0__0).1 >= 65)then (bif decide ((yg str0__0 pos0__0).1<=90)then (y33 n r0 ax str0__0 pos0__0 (Bool.true))else (bif decide ((yg str0__0 pos0__0).1 >= 97)then (y33 n r0 ax str0__0 pos0__0 (decide ((yg str0__0 pos0__0).1<=122)))else (y33 n r0 ax str0__0 pos0__0 (Bool.false))))else (bif decide ((yg str0__0 pos0__0).1 >= 97)then (y33 n r0 ax str0__0 pos0__0 (decide ((yg str0__0 pos0__0).1<=122)))else (y33 n r0 ax str0__0 pos0__0 (Bool.false))))else (bif !ax==[]then some (decide ((↑ax.length:Int)<=24),())else some (Bool.false,())))
def y7U(n:Nat)(k:Nat)(ax:List UInt8)(str0__0:List UInt8)(pos0__0:Int):Option (Bool×Unit):=
  iter (λ r y=>yFi n (λ ax str0__0 pos0__0=>r ((ax,()),(((str0__0,pos0__0),()),()))) y.1.1 y.2.1.1.1 y.2.1.1.2) k ((ax,()),(((str0__0,pos0__0),()),()))
def yUF(n:Nat)(s:List UInt8):Option (Bool×Unit):=
  (y7U n n (s) (s) ((0:Int)))
def y9H(ax:List UInt8)(str0__0:List UInt8)(pos0__0:Int)(j2:Bool)(j7:Bool):Option ((Bool×Unit)⊕Unit):=
  (bif !j2 then (bif pos0__0==0 then (some (Sum.inl ((Bool.false,()))))else (bif !j7 then (some (Sum.inl ((Bool.false,()))))else (some (Sum.inr ()))))else (some (Sum.inr ())))
theorem y1M(n:Nat)(hn:big<=n)(r0:List UInt8->List UInt8->Int->Option (Bool×Unit))(ax:List UInt8)(str0__0:List UInt8)(pos0__0:Int)(j2:Bool)(j7:Bool):LeF (elim some λ (a7:Unit)=>r0 ax str0__0 (yg (str0__0) pos0__0).2) (y9H ax str0__0 pos0__0 j2 j7) (y5Y n r0 ax str0__0 pos0__0 j2 j7):=
  (y7 (y7 (y8 rfl) (y7 (y8 rfl) (y8 rfl))) (y8 rfl))
def y5C(ax:List UInt8)(str0__0:List UInt8)(pos0__0:Int)(j2:Bool):Option ((Bool×Unit)⊕Unit):=
  (bif decide ((yg str0__0 pos0__0).1 >= 48)then (bif decide ((yg str0__0 pos0__0).1<=57)then (y9H ax str0__0 pos0__0 j2 (Bool.true))else (y9H ax str0__0 pos0__0 j2 ((yg str0__0 pos0__0).1==95)))else (y9H ax str0__0 pos0__0 j2 ((yg str0__0 pos0__0).1==95)))
theorem y0F(n:Nat)(hn:big<=n)(r0:List UInt8->List UInt8->Int->Option (Bool×Unit))(ax:List UInt8)(str0__0:List UInt8)(pos0__0:Int)(j2:Bool):LeF (elim some λ (a7:Unit)=>r0 ax str0__0 (yg (str0__0) pos0__0).2) (y5C ax str0__0 pos0__0 j2) (y33 n r0 ax str0__0 pos0__0 j2):=
  (y7 (y7 (by apply y1M n hn) (by apply y1M n hn)) (by apply y1M n hn))
def yD0(ax:List UInt8)(str0__0:List UInt8)(pos0__0:Int):Option ((Bool×Unit)⊕Unit):=
  (bif decide ((yg str0__0 pos0__0).1 >= 65)then (bif decide ((yg str0__0 pos0__0).1<=90)then (y5C ax str0__0 pos0__0 (Bool.true))else (bif decide ((yg str0__0 pos0__0).1 >= 97)then (y5C ax str0__0 pos0__0 (decide ((yg str0__0 pos0__0).1<=122)))else (y5C ax str0__0 pos0__0 (Bool.false))))else (bif decide ((yg str0__0 pos0__0).1 >= 97)then (y5C ax str0__0 pos0__0 (decide ((yg str0__0 pos0__0).1<=122)))else (y5C ax str0__0 pos0__0 (Bool.false))))
def yCK(ax:List UInt8)(str0__0:List UInt8):Option (Bool×Unit):=
  (bif !ax==[]then (some ((decide ((↑ax.length:Int)<=24),())))else (some ((Bool.false,()))))
theorem yEB(n:Nat)(hn:big<=n)(ax:List UInt8)(str0__0:List UInt8)(hx:List.length (str0__0) < lenMax):LeF some (y9X (str0__0) (λ ak a7=>yD0 ax str0__0 ak) (λ a7=>yCK ax str0__0) (List.length (str0__0)) 0 ()) (y7U n n ax str0__0 0):=by
  refine yMS (f:=some) (W:=λ aI ak a7=>y7U n aI ax str0__0 ak) (λ aI ak a7=>?_) () n (by unfold big at hn;unfold lenMax at hx;omega)
  show LeF _ _ (yFi n (y7U n aI) ax str0__0 ak)
  exact y7 (y7 (y7 (by apply y0F n hn) (y7 (by apply y0F n hn) (by apply y0F n hn))) (y7 (by apply y0F n hn) (by apply y0F n hn))) (yz (y7 (y8 rfl) (y8 rfl)))
def yLS(s:List UInt8):Option (Bool×Unit):=
  (bif decide (List.length (s) < lenMax)then y9X (s) (λ ak a7=>yD0 (s) (s) ak) (λ a7=>yCK (s) (s)) (List.length (s)) 0 ()else none)
abbrev z00_e:Entry:={ f:=126,args:=.pair t9 .unit,rS:=.pair t4 .unit,m:=λ x=>yLS x.1 }
theorem yNu:FnOK Tryz.prog z00_e:=fB Tryz.f126 (λ n x=>yUF n x.1) [[0,8]] eNil λ n hn x=>(yT λ hx=>by apply yEB n hn;exact hx)
def zP_m(n:Nat)(s:Q4)(p1:Q1):Option (Bool×Unit):=
  some (decide (s.2.1 > (↑p1.2.2.1.length:Int)),())
def zP(s:Q4)(p1:Q1):(Bool×Unit):=
  (decide (s.2.1 > (↑p1.2.2.1.length:Int)),())
abbrev zP_M (s:Q4) (p1:Q1):Option (Bool×Unit):=some (zP s p1)
abbrev zP_e:Entry:={ f:=131,args:=.pair t46 (.pair (.ref t43) .unit),rS:=.pair t4 .unit,m:=λ x=>zP_M x.1 x.2.1 }
theorem yUJ:FnOK Tryz.prog zP_e:=fF (hm:=by intro x;show some (zP x.1 x.2.1)=zP_m 0 x.1 x.2.1;unfold zP_m zP;first|rfl|simp only[y06]) 0 Tryz.f131 (λ n x=>zP_m n x.1 x.2.1) [] eNil
def zO_m(n:Nat)(xp:Nat):Option (Bool×Unit):=
  some (y03 BinOp.neq FloatKind.f32 xp (nat_lit 0),())
def zO(xp:Nat):(Bool×Unit):=
  (y03 BinOp.neq FloatKind.f32 xp (nat_lit 0),())
abbrev zO_M (xp:Nat):Option (Bool×Unit):=some (zO xp)
abbrev zO_e:Entry:={ f:=134,args:=.pair t44 .unit,rS:=.pair t4 .unit,m:=λ x=>zO_M x.1 }
theorem yU8:FnOK Tryz.prog zO_e:=fF (hm:=by intro x;show some (zO x.1)=zO_m 0 x.1;unfold zO_m zO;first|rfl|simp only[y06]) 0 Tryz.f134 (λ n x=>zO_m n x.1) [] eNil
def zY_m(n:Nat)(xp:Nat):Option (Int×Unit):=
  ((ym FloatKind.f32 (yv BinOp.mul FloatKind.f32 xp (nat_lit 1098907648)) i64).bind λ v0=>some (v0,()))
def zY_M(xp:Nat):Option (Int×Unit):=zY_m 0 xp
abbrev zY_e:Entry:={ f:=144,args:=.pair t44 .unit,rS:=.pair t3 .unit,m:=λ x=>zY_M x.1 }
theorem ySc:FnOK Tryz.prog zY_e:=fF 0 Tryz.f144 (λ n x=>zY_m n x.1) [] eNil
def yKk(n:Nat)(r0:List (Q4)->((Q4)×Unit->Option (Bool×Unit))->Int->Int->Option (Int×Unit))(ax:List (Q4))(bL:(Q4)×Unit->Option (Bool×Unit))(aJ:Int)(a8:Int):Option (Int×Unit):=
  (bif decide (a8 < aJ)then ((idx ax a8).bind λ v1=>((bL (v1,())).bind λ v2=>(bif v2.1 then some (a8,())else r0 ax bL aJ (i64.wrap (a8+1)))))else some ((-1:Int),()))
def yBK(n:Nat)(k:Nat)(ax:List (Q4))(bL:(Q4)×Unit->Option (Bool×Unit))(aJ:Int)(a8:Int):Option (Int×Unit):=
  iter (λ r y=>yKk n (λ ax bL aJ a8=>r ((ax,(bL,(aJ,(a8,())))),((),()))) y.1.1 y.1.2.1 y.1.2.2.1 y.1.2.2.2.1) k ((ax,(bL,(aJ,(a8,())))),((),()))
def zD_m(n:Nat)(s:List (Q4))(f:(Q4)×Unit->Option (Bool×Unit)):Option (Int×Unit):=
  (yBK n n (s) (f) ((↑s.length:Int)) ((0:Int)))
def yNb(ax:List (Q4))(bL:(Q4)×Unit->Option (Bool×Unit))(a8:Int)(v1:Q4):Option ((Int×Unit)⊕Unit):=
  ((bL (v1,())).bind λ v2=>(bif v2.1 then (some (Sum.inl ((a8,()))))else (some (Sum.inr ()))))
def yPR(ax:List (Q4))(bL:(Q4)×Unit->Option (Bool×Unit)):Option (Int×Unit):=
  (some (((-1:Int),())))
theorem yI3(n:Nat)(hn:big<=n)(ax:List (Q4))(bL:(Q4)×Unit->Option (Bool×Unit))(hx:List.length (ax) < lenMax):LeF some (yL (λ ak b7 a7=>yNb ax bL ak b7) (λ a7=>yPR ax bL) 0 (ax) ()) (yBK n n ax bL (List.length (ax):Int) 0):=by
  refine yS (f:=some) (W:=λ aI ak a7=>yBK n aI ax bL (List.length (ax):Int) ak) (λ aI ak a7=>?_) hx () n (by unfold big at hn;unfold lenMax at hx;omega)
  show LeF _ _ (yKk n (yBK n aI) ax bL (List.length (ax):Int) ak)
  exact y7 (y9 λ v1=>(y9 λ v2=>(y7 (y8 rfl) (y8 rfl)))) (yz (y8 rfl))
def zD_M(s:List (Q4))(f:(Q4)×Unit->Option (Bool×Unit)):Option (Int×Unit):=
  (bif decide (List.length (s) < lenMax)then yL (λ ak b7 a7=>yNb (s) (f) ak b7) (λ a7=>yPR (s) (f)) 0 (s) ()else none)
abbrev zD_e:Entry:={ f:=146,args:=.pair t41 (.pair t195 .unit),rS:=.pair t3 .unit,m:=λ x=>zD_M x.1 x.2.1 }
theorem yUH:FnOK Tryz.prog zD_e:=fB Tryz.f146 (λ n x=>zD_m n x.1 x.2.1) [[0,1,7,8]] eNil λ n hn x=>(yT λ hx=>by apply yI3 n hn;exact hx)
def yJD(n:Nat)(r0:List Nat->(Nat×Unit->Option (Bool×Unit))->Int->Int->Option (Int×Unit))(ax:List Nat)(bL:Nat×Unit->Option (Bool×Unit))(aJ:Int)(a8:Int):Option (Int×Unit):=
  (bif decide (a8 < aJ)then ((idx ax a8).bind λ v1=>((bL (v1,())).bind λ v2=>(bif v2.1 then some (a8,())else r0 ax bL aJ (i64.wrap (a8+1)))))else some ((-1:Int),()))
def yBv(n:Nat)(k:Nat)(ax:List Nat)(bL:Nat×Unit->Option (Bool×Unit))(aJ:Int)(a8:Int):Option (Int×Unit):=
  iter (λ r y=>yJD n (λ ax bL aJ a8=>r ((ax,(bL,(aJ,(a8,())))),((),()))) y.1.1 y.1.2.1 y.1.2.2.1 y.1.2.2.2.1) k ((ax,(bL,(aJ,(a8,())))),((),()))
def zE_m(n:Nat)(s:List Nat)(f:Nat×Unit->Option (Bool×Unit)):Option (Int×Unit):=
  (yBv n n (s) (f) ((↑s.length:Int)) ((0:Int)))
def yN0(ax:List Nat)(bL:Nat×Unit->Option (Bool×Unit))(a8:Int)(v1:Nat):Option ((Int×Unit)⊕Unit):=
  ((bL (v1,())).bind λ v2=>(bif v2.1 then (some (Sum.inl ((a8,()))))else (some (Sum.inr ()))))
def yP6(ax:List Nat)(bL:Nat×Unit->Option (Bool×Unit)):Option (Int×Unit):=
  (some (((-1:Int),())))
theorem yHH(n:Nat)(hn:big<=n)(ax:List Nat)(bL:Nat×Unit->Option (Bool×Unit))(hx:List.length (ax) < lenMax):LeF some (yL (λ ak b7 a7=>yN0 ax bL ak b7) (λ a7=>yP6 ax bL) 0 (ax) ()) (yBv n n ax bL (List.length (ax):Int) 0):=by
  refine yS (f:=some) (W:=λ aI ak a7=>yBv n aI ax bL (List.length (ax):Int) ak) (λ aI ak a7=>?_) hx () n (by unfold big at hn;unfold lenMax at hx;omega)
  show LeF _ _ (yJD n (yBv n aI) ax bL (List.length (ax):Int) ak)
  exact y7 (y9 λ v1=>(y9 λ v2=>(y7 (y8 rfl) (y8 rfl)))) (yz (y8 rfl))
def zE_M(s:List Nat)(f:Nat×Unit->Option (Bool×Unit)):Option (Int×Unit):=
  (bif decide (List.length (s) < lenMax)then yL (λ ak b7 a7=>yN0 (s) (f) ak b7) (λ a7=>yP6 (s) (f)) 0 (s) ()else none)
abbrev zE_e:Entry:={ f:=147,args:=.pair t37 (.pair t197 .unit),rS:=.pair t3 .unit,m:=λ x=>zE_M x.1 x.2.1 }
theorem yTE:FnOK Tryz.prog zE_e:=fB Tryz.f147 (λ n x=>zE_m n x.1 x.2.1) [[0,1,7,8]] eNil λ n hn x=>(yT λ hx=>by apply yHH n hn;exact hx)
end
end Go.Tw
end
section
set_option maxRecDepth 1000000
namespace Go.Tw
open Go.Vx Go.Vx.B Go.Proofs
noncomputable section
def yGs(n:Nat)(r2:Q2->Q2->Int->Option (Bool×Unit))(ce:Q2)(cl:Q2)(cD:Int):Option (Bool×Unit):=
  (bif decide (cD < (↑ce.1.length:Int))then ((idx ce.1 cD).bind λ v3=>((idx cl.1 cD).bind λ v4=>(bif !eqV (Ty.str.pair ((Ty.int i64).pair ((Ty.int i64).pair Ty.unit))) v3 v4 then some (Bool.false,())else r2 ce cl (i64.wrap (cD+1)))))else ((zV_M ce.2.1 cl.2.1).bind λ v5=>some (v5.1,())))
def y80(n:Nat)(k:Nat)(ce:Q2)(cl:Q2)(cD:Int):Option (Bool×Unit):=
  iter (λ r y=>yGs n (λ ce cl cD=>r ((ce,(cl,(cD,()))),((),()))) y.1.1 y.1.2.1 y.1.2.2.1) k ((ce,(cl,(cD,()))),((),()))
def ySy(n:Nat)(a:Q2)(b:Q2):Option (Bool×Unit):=
  (bif a.2.2.1 != b.2.2.1 then some (Bool.false,())else (bif (↑a.1.length:Int) != (↑b.1.length:Int)then some (Bool.false,())else (y80 n n (a) (b) ((0:Int)))))
def yIa(ce:Q2)(cl:Q2)(cD:Int)(v3:Q3):Option ((Bool×Unit)⊕Unit):=
  ((idx cl.1 cD).bind λ v4=>(bif !eqV (Ty.str.pair ((Ty.int i64).pair ((Ty.int i64).pair Ty.unit))) v3 v4 then (some (Sum.inl ((Bool.false,()))))else (some (Sum.inr ()))))
def yLF(ce:Q2)(cl:Q2):Option (Bool×Unit):=
  ((zV_M ce.2.1 cl.2.1).bind λ v5=>(some ((v5.1,()))))
theorem yE4(n:Nat)(hn:big<=n)(ce:Q2)(cl:Q2)(hx:List.length (ce.1) < lenMax):LeF some (yL (λ ak b7 a7=>yIa ce cl ak b7) (λ a7=>yLF ce cl) 0 (ce.1) ()) (y80 n n ce cl 0):=by
  refine yS (f:=some) (W:=λ aI ak a7=>y80 n aI ce cl ak) (λ aI ak a7=>?_) hx () n (by unfold big at hn;unfold lenMax at hx;omega)
  show LeF _ _ (yGs n (y80 n aI) ce cl ak)
  exact y7 (y9 λ v3=>(y9 λ v4=>(y7 (y8 rfl) (y8 rfl)))) (yz (y9 λ v5=>(y8 rfl)))
def yPt(a:Q2)(b:Q2):Option (Bool×Unit):=
  (bif a.2.2.1 != b.2.2.1 then (some ((Bool.false,())))else (bif (↑a.1.length:Int) != (↑b.1.length:Int)then (some ((Bool.false,())))else (bif decide (List.length (a.1) < lenMax)then yL (λ ak b7 a7=>yIa (a) (b) ak b7) (λ a7=>yLF (a) (b)) 0 (a.1) ()else none)))
abbrev z0U_e:Entry:={ f:=15,args:=.pair t58 (.pair t58 .unit),rS:=.pair t4 .unit,m:=λ x=>yPt x.1 x.2.1 }
theorem ySG:FnOK Tryz.prog z0U_e:=fB Tryz.f15 (λ n x=>ySy n x.1 x.2.1) [[2,3,5]] (yG yQO eNil) λ n hn x=>(y7 (y8 rfl) (y7 (y8 rfl) (yT λ hx=>by apply yE4 n hn;exact hx)))
def yQL(n:Nat)(r0:List (List (Q4))->List (List (Q4))->Int->Option (Bool×Unit))(aw:List (List (Q4)))(aB:List (List (Q4)))(aN:Int):Option (Bool×Unit):=
  (bif decide (aN < (↑aw.length:Int))then ((idx aw aN).bind λ v1=>((idx aB aN).bind λ v2=>((zV_M v1 v2).bind λ v3=>(bif !v3.1 then some (Bool.false,())else r0 aw aB (i64.wrap (aN+1))))))else some (Bool.true,()))
def yQJ(n:Nat)(k:Nat)(aw:List (List (Q4)))(aB:List (List (Q4)))(aN:Int):Option (Bool×Unit):=
  iter (λ r y=>yQL n (λ aw aB aN=>r ((aw,(aB,(aN,()))),((),()))) y.1.1 y.1.2.1 y.1.2.2.1) k ((aw,(aB,(aN,()))),((),()))
def zm_m(n:Nat)(a:List (List (Q4)))(b:List (List (Q4))):Option (Bool×Unit):=
  (bif (↑a.length:Int) != (↑b.length:Int)then some (Bool.false,())else (yQJ n n (a) (b) ((0:Int))))
def zm_M(a:List (List (Q4)))(b:List (List (Q4))):Option (Bool×Unit):=zm_m 1000 a b
abbrev zm_e:Entry:={ f:=30,args:=.pair t75 (.pair t75 .unit),rS:=.pair t4 .unit,m:=λ x=>zm_M x.1 x.2.1 }
theorem yT6:FnOK Tryz.prog zm_e:=fF 1000 Tryz.f30 (λ n x=>zm_m n x.1 x.2.1) [[0,1,5]] (yG yQO eNil)
def yQ2(n:Nat)(np:Int)(least:Int)(most:Int):Option (Int×Unit):=
  (bif decide (np < least)then some ((z0n Bool.true (3:Int)).1,())else some ((z0n (decide (np > most)) (3:Int)).1,()))
def z0P(np:Int)(least:Int)(most:Int):(Int×Unit):=
  (bif decide (np < least)then ((z0n Bool.true (3:Int)).1,())else ((z0n (decide (np > most)) (3:Int)).1,()))
abbrev yTi (np:Int) (least:Int) (most:Int):Option (Int×Unit):=some (z0P np least most)
abbrev z0P_e:Entry:={ f:=87,args:=.pair t3 (.pair t3 (.pair t3 .unit)),rS:=.pair t38 .unit,m:=λ x=>yTi x.1 x.2.1 x.2.2.1 }
theorem yDM:FnOK Tryz.prog z0P_e:=fF (hm:=by intro x;show some (z0P x.1 x.2.1 x.2.2.1)=yQ2 0 x.1 x.2.1 x.2.2.1;unfold yQ2 z0P;first|rfl|simp only[y06]) 0 Tryz.f87 (λ n x=>yQ2 n x.1 x.2.1 x.2.2.1) [] (yG y72 eNil)
def zg_m(n:Nat)(s:List UInt8):Option (Int×Unit):=
  ((yN9 s).bind λ v0=>(bif !v0.1 then some ((8:Int),())else some ((0:Int),())))
def zg_M(s:List UInt8):Option (Int×Unit):=zg_m 0 s
abbrev zg_e:Entry:={ f:=44,args:=.pair t9 .unit,rS:=.pair t3 .unit,m:=λ x=>zg_M x.1 }
theorem yT1:FnOK Tryz.prog zg_e:=fF 0 Tryz.f44 (λ n x=>zg_m n x.1) [] (yG ySN eNil)
def yKR(n:Nat)(r0:Q2->List (Q4)->Int->Int->Option (Bool×Unit))(aO:Q2)(b9:List (Q4))(aJ:Int)(a8:Int):Option (Bool×Unit):=
  (bif decide (a8 < aJ)then ((idx b9 a8).bind λ v1=>(bif decide ((if (zy v1.2.1).1 > (zy v1.1).1 then (zy v1.2.1).1 else (zy v1.1).1) > 4194304)then some (Bool.false,())else r0 aO b9 aJ (i64.wrap (a8+1))))else some (decide (aO.2.2.1<=4096),()))
def yB3(n:Nat)(k:Nat)(aO:Q2)(b9:List (Q4))(aJ:Int)(a8:Int):Option (Bool×Unit):=
  iter (λ r y=>yKR n (λ aO b9 aJ a8=>r ((aO,(b9,(aJ,(a8,())))),((),()))) y.1.1 y.1.2.1 y.1.2.2.1 y.1.2.2.2.1) k ((aO,(b9,(aJ,(a8,())))),((),()))
def zj_m(n:Nat)(t:Q2):Option (Bool×Unit):=
  (yB3 n n (t) (t.2.1) ((↑t.2.1.length:Int)) ((0:Int)))
def yQ6(aO:Q2)(b9:List (Q4))(a8:Int)(v1:Q4):Option ((Bool×Unit)⊕Unit):=
  (bif decide ((if (zy v1.2.1).1 > (zy v1.1).1 then (zy v1.2.1).1 else (zy v1.1).1) > 4194304)then (some (Sum.inl ((Bool.false,()))))else (some (Sum.inr ())))
def yRn(aO:Q2)(b9:List (Q4)):Option (Bool×Unit):=
  (some ((decide (aO.2.2.1<=4096),())))
theorem yHA(n:Nat)(hn:big<=n)(aO:Q2)(b9:List (Q4))(hx:List.length (b9) < lenMax):LeF some (yL (λ ak b7 a7=>yQ6 aO b9 ak b7) (λ a7=>yRn aO b9) 0 (b9) ()) (yB3 n n aO b9 (List.length (b9):Int) 0):=by
  refine yS (f:=some) (W:=λ aI ak a7=>yB3 n aI aO b9 (List.length (b9):Int) ak) (λ aI ak a7=>?_) hx () n (by unfold big at hn;unfold lenMax at hx;omega)
  show LeF _ _ (yKR n (yB3 n aI) aO b9 (List.length (b9):Int) ak)
  exact y7 (y9 λ v1=>(y7 (y8 rfl) (y8 rfl))) (yz (y8 rfl))
def zj_M(t:Q2):Option (Bool×Unit):=
  (bif decide (List.length (t.2.1) < lenMax)then yL (λ ak b7 a7=>yQ6 (t) (t.2.1) ak b7) (λ a7=>yRn (t) (t.2.1)) 0 (t.2.1) ()else none)
abbrev zj_e:Entry:={ f:=61,args:=.pair t32 .unit,rS:=.pair t4 .unit,m:=λ x=>zj_M x.1 }
theorem yTv:FnOK Tryz.prog zj_e:=fB Tryz.f61 (λ n x=>zj_m n x.1) [[1,6,7,8]] (yG yHg eNil) λ n hn x=>(yT λ hx=>by apply yHA n hn;exact hx)
def yPY(n:Nat)(z:Q4):Option (Int×Unit):=
  some ((z0n (decide ((if (zy z.2.1).1 > (zy z.1).1 then (zy z.2.1).1 else (zy z.1).1) > 16777216)) (1:Int)).1,())
def z0J(z:Q4):(Int×Unit):=
  ((z0n (decide ((if (zy z.2.1).1 > (zy z.1).1 then (zy z.2.1).1 else (zy z.1).1) > 16777216)) (1:Int)).1,())
abbrev yRi (z:Q4):Option (Int×Unit):=some (z0J z)
abbrev z0J_e:Entry:={ f:=89,args:=.pair t36 .unit,rS:=.pair t38 .unit,m:=λ x=>yRi x.1 }
theorem yQm:FnOK Tryz.prog z0J_e:=fF (hm:=by intro x;show some (z0J x.1)=yPY 0 x.1;unfold yPY z0J;first|rfl|simp only[y06]) 0 Tryz.f89 (λ n x=>yPY n x.1) [] (yG yHg (yG y72 eNil))
def y83(n:Nat)(r0:Q1->List (Q4)->List Nat->Int->Int->Q1->Q3->Q3->Q1->Q3->Q3->Q4->Q1->Q1->Int->Int->Int->Int->Q1->Q3->Q3->Q1->Q3->Q3->Q4->Q1->Q1->Option ((Q4)×Unit))(j8:Q1)(j9:List (Q4))(j10:Int)(j11:Nat)(j12:List Nat)(j13:Int)(j14:Int)(j15:Q1)(j16:Q3)(j17:Q3)(j18:Q1)(j19:Q3)(j20:Q3)(j21:Q4)(j22:Q1)(j23:Q1)(j24:Int)(j25:Int)(j26:Int)(j27:Int)(j28:Q1)(j29:Q3)(j30:Q3)(j31:Q1)(j32:Q3)(j33:Q3)(j34:Q4)(j35:Q1)(j36:Q1):Option ((Q4)×Unit):=
  (bif decide ((↑j9.length:Int) > 0)then ((idx j9 (0:Int)).bind λ v37=>(bif decide (v37.1<=j10)then r0 j8 j9 j12 j13 (i64.wrap (j14+1)) j15 j16 j17 j18 j19 j20 j21 j22 j23 j24 j25 j26 j27 j28 j29 j30 j31 j32 j33 j34 j35 j36 else ((ym FloatKind.f32 (yv BinOp.mul FloatKind.f32 j11 (nat_lit 1098907648)) i64).bind λ v42=>((zR_M j19 (i64.wrap (j8.2.1+j10))).bind λ v43=>((zR_M j20 (i64.wrap (j8.2.1+j10))).bind λ v44=>r0 j8 j9 j12 j13 (i64.wrap (j14+1)) j15 j16 j17 j18 j19 j20 j21 j22 j23 j24 j25 (z0m (j26,j27,()) (z0h (zr v43.1).1 v44.1).1).1.1 (z0m (j26,j27,()) (z0h (zr v43.1).1 v44.1).1).1.2.1 j28 j29 j30 j31 j32 j33 j34 j35 j36)))))else ((ym FloatKind.f32 (yv BinOp.mul FloatKind.f32 j11 (nat_lit 1098907648)) i64).bind λ v45=>((zR_M j19 (i64.wrap (j8.2.1+j10))).bind λ v46=>((zR_M j20 (i64.wrap (j8.2.1+j10))).bind λ v47=>r0 j8 j9 j12 j13 (i64.wrap (j14+1)) j15 j16 j17 j18 j19 j20 j21 j22 j23 j24 j25 (z0m (j26,j27,()) (z0h (zr v46.1).1 v47.1).1).1.1 (z0m (j26,j27,()) (z0h (zr v46.1).1 v47.1).1).1.2.1 j28 j29 j30 j31 j32 j33 j34 j35 j36))))
def yGu(n:Nat)(r0:Q1->List (Q4)->List Nat->Int->Int->Q1->Q3->Q3->Q1->Q3->Q3->Q4->Q1->Q1->Int->Int->Int->Int->Q1->Q3->Q3->Q1->Q3->Q3->Q4->Q1->Q1->Option ((Q4)×Unit))(r2:Q1->List (Q4)->Int->Nat->List Nat->Int->Int->Q1->Q3->Q3->Q1->Q3->Q3->Q4->Q1->Q1->Int->Int->Int->Int->Q1->Q3->Q3->Q1->Q3->Q3->Q4->Q1->Q1->Option ((Q4)×Unit))(aV:Q1)(ac:List (Q4))(aW:Int)(bc:Nat)(aG:List Nat)(ay:Int)(az:Int)(al:Q1)(am:Q3)(aD:Q3)(bx:Q1)(bz:Q3)(aC:Q3)(bA:Q4)(be:Q1)(aM:Q1)(aE:Int)(aF:Int)(aK:Int)(aL:Int)(aY:Q1)(aZ:Q3)(bB:Q3)(cf:Q1)(cg:Q3)(bv:Q3)(ci:Q4)(bX:Q1)(bf:Q1):Option ((Q4)×Unit):=
  (bif decide ((↑ac.length:Int) > 0)then ((idx ac (0:Int)).bind λ v3=>(bif decide (v3.2.1<=aW)then (bif decide ((0:Int)<=1) && decide ((1:Int)<=(↑ac.length:Int))then r2 aV (List.drop (Int.toNat (1:Int)) ac) aW bc aG ay az al am aD bx bz aC bA be aM aE aF aK aL aY aZ bB cf cg bv ci bX bf else none)else (y83 n r0 (aV) (ac) (aW) (bc) (aG) (ay) (az) (al) (am) (aD) (bx) (bz) (aC) (bA) (be) (aM) (aE) (aF) (aK) (aL) (aY) (aZ) (bB) (cf) (cg) (bv) (ci) (bX) (bf))))else (y83 n r0 (aV) (ac) (aW) (bc) (aG) (ay) (az) (al) (am) (aD) (bx) (bz) (aC) (bA) (be) (aM) (aE) (aF) (aK) (aL) (aY) (aZ) (bB) (cf) (cg) (bv) (ci) (bX) (bf)))
def y7k(n:Nat)(r0:Q1->List (Q4)->List Nat->Int->Int->Q1->Q3->Q3->Q1->Q3->Q3->Q4->Q1->Q1->Int->Int->Int->Int->Q1->Q3->Q3->Q1->Q3->Q3->Q4->Q1->Q1->Option ((Q4)×Unit))(k:Nat)(aV:Q1)(ac:List (Q4))(aW:Int)(bc:Nat)(aG:List Nat)(ay:Int)(az:Int)(al:Q1)(am:Q3)(aD:Q3)(bx:Q1)(bz:Q3)(aC:Q3)(bA:Q4)(be:Q1)(aM:Q1)(aE:Int)(aF:Int)(aK:Int)(aL:Int)(aY:Q1)(aZ:Q3)(bB:Q3)(cf:Q1)(cg:Q3)(bv:Q3)(ci:Q4)(bX:Q1)(bf:Q1):Option ((Q4)×Unit):=
  iter (λ r y=>yGu n r0 (λ aV ac aW bc aG ay az al am aD bx bz aC bA be aM aE aF aK aL aY aZ bB cf cg bv ci bX bf=>r ((aV,(ac,(aW,(bc,(aG,(ay,(az,()))))))),(((al,(am,(aD,(bx,(bz,(aC,(bA,(be,((aM,()),()))))))))),((aE,(aF,())),((aK,(aL,())),()))),(aY,(aZ,(bB,(cf,(cg,(bv,(ci,(bX,((bf,()),())))))))))))) y.1.1 y.1.2.1 y.1.2.2.1 y.1.2.2.2.1 y.1.2.2.2.2.1 y.1.2.2.2.2.2.1 y.1.2.2.2.2.2.2.1 y.2.1.1.1 y.2.1.1.2.1 y.2.1.1.2.2.1 y.2.1.1.2.2.2.1 y.2.1.1.2.2.2.2.1 y.2.1.1.2.2.2.2.2.1 y.2.1.1.2.2.2.2.2.2.1 y.2.1.1.2.2.2.2.2.2.2.1 y.2.1.1.2.2.2.2.2.2.2.2.1.1 y.2.1.2.1.1 y.2.1.2.1.2.1 y.2.1.2.2.1.1 y.2.1.2.2.1.2.1 y.2.2.1 y.2.2.2.1 y.2.2.2.2.1 y.2.2.2.2.2.1 y.2.2.2.2.2.2.1 y.2.2.2.2.2.2.2.1 y.2.2.2.2.2.2.2.2.1 y.2.2.2.2.2.2.2.2.2.1 y.2.2.2.2.2.2.2.2.2.2.1.1) k ((aV,(ac,(aW,(bc,(aG,(ay,(az,()))))))),(((al,(am,(aD,(bx,(bz,(aC,(bA,(be,((aM,()),()))))))))),((aE,(aF,())),((aK,(aL,())),()))),(aY,(aZ,(bB,(cf,(cg,(bv,(ci,(bX,((bf,()),())))))))))))
def yG5(n:Nat)(r0:Q1->List (Q4)->List Nat->Int->Int->Q1->Q3->Q3->Q1->Q3->Q3->Q4->Q1->Q1->Int->Int->Int->Int->Q1->Q3->Q3->Q1->Q3->Q3->Q4->Q1->Q1->Option ((Q4)×Unit))(aO:Q1)(ar:List (Q4))(ai:List Nat)(ah:Int)(aA:Int)(au:Q1)(av:Q3)(aQ:Q3)(bO:Q1)(bQ:Q3)(aP:Q3)(bR:Q4)(bH:Q1)(ba:Q1)(aj:Int)(ae:Int)(aR:Int)(aS:Int)(bl:Q1)(bm:Q3)(bS:Q3)(cw:Q1)(cx:Q3)(bM:Q3)(cy:Q4)(cc:Q1)(bI:Q1):Option ((Q4)×Unit):=
  (bif decide (aA < ah)then ((idx ai aA).bind λ v1=>(y7k n r0 n (aO) (ar) (aA) (v1) (ai) (ah) (aA) (au) (av) (aQ) (bO) (bQ) (aP) (bR) (bH) (ba) (aj) (ae) (aR) (aS) (bl) (bm) (bS) (cw) (cx) (bM) (cy) (cc) (bI)))else some ((aR,aS,()),()))
def y7Z(n:Nat)(k:Nat)(aO:Q1)(ar:List (Q4))(ai:List Nat)(ah:Int)(aA:Int)(au:Q1)(av:Q3)(aQ:Q3)(bO:Q1)(bQ:Q3)(aP:Q3)(bR:Q4)(bH:Q1)(ba:Q1)(aj:Int)(ae:Int)(aR:Int)(aS:Int)(bl:Q1)(bm:Q3)(bS:Q3)(cw:Q1)(cx:Q3)(bM:Q3)(cy:Q4)(cc:Q1)(bI:Q1):Option ((Q4)×Unit):=
  iter (λ r y=>yG5 n (λ aO ar ai ah aA au av aQ bO bQ aP bR bH ba aj ae aR aS bl bm bS cw cx bM cy cc bI=>r ((aO,(ar,(ai,(ah,(aA,()))))),(((au,(av,(aQ,(bO,(bQ,(aP,(bR,(bH,((ba,()),()))))))))),((aj,(ae,())),((aR,(aS,())),()))),(bl,(bm,(bS,(cw,(cx,(bM,(cy,(cc,((bI,()),())))))))))))) y.1.1 y.1.2.1 y.1.2.2.1 y.1.2.2.2.1 y.1.2.2.2.2.1 y.2.1.1.1 y.2.1.1.2.1 y.2.1.1.2.2.1 y.2.1.1.2.2.2.1 y.2.1.1.2.2.2.2.1 y.2.1.1.2.2.2.2.2.1 y.2.1.1.2.2.2.2.2.2.1 y.2.1.1.2.2.2.2.2.2.2.1 y.2.1.1.2.2.2.2.2.2.2.2.1.1 y.2.1.2.1.1 y.2.1.2.1.2.1 y.2.1.2.2.1.1 y.2.1.2.2.1.2.1 y.2.2.1 y.2.2.2.1 y.2.2.2.2.1 y.2.2.2.2.2.1 y.2.2.2.2.2.2.1 y.2.2.2.2.2.2.2.1 y.2.2.2.2.2.2.2.2.1 y.2.2.2.2.2.2.2.2.2.1 y.2.2.2.2.2.2.2.2.2.2.1.1) k ((aO,(ar,(ai,(ah,(aA,()))))),(((au,(av,(aQ,(bO,(bQ,(aP,(bR,(bH,((ba,()),()))))))))),((aj,(ae,())),((aR,(aS,())),()))),(bl,(bm,(bS,(cw,(cx,(bM,(cy,(cc,((bI,()),())))))))))))
def yTw(n:Nat)(rp:Q1)(a:Q3)(b:Q3):Option ((Q4)×Unit):=
  (y7Z n n (rp) (rp.2.2.2.1) (rp.2.2.1) ((↑rp.2.2.1.length:Int)) ((0:Int)) (rp) (a) (b) (rp) (a) (b) (((0:Int),(0:Int),())) (rp) (rp) ((0:Int)) ((0:Int)) ((0:Int)) ((0:Int)) (rp) (a) (b) (rp) (a) (b) (((0:Int),(0:Int),())) (rp) (rp))
def yBq(j8:Q1)(j9:List (Q4))(j10:Int)(j11:Nat)(j12:List Nat)(j13:Int)(j14:Int)(j15:Q1)(j16:Q3)(j17:Q3)(j18:Q1)(j19:Q3)(j20:Q3)(j21:Q4)(j22:Q1)(j23:Q1)(j24:Int)(j25:Int)(j26:Int)(j27:Int)(j28:Q1)(j29:Q3)(j30:Q3)(j31:Q1)(j32:Q3)(j33:Q3)(j34:Q4)(j35:Q1)(j36:Q1):Option (((Q4)×Unit)⊕((List (Q4))×Int×Int)):=
  (bif decide ((↑j9.length:Int) > 0)then ((idx j9 (0:Int)).bind λ v37=>(bif decide (v37.1<=j10)then (some (Sum.inr ((j9),(j26),(j27))))else ((ym FloatKind.f32 (yv BinOp.mul FloatKind.f32 j11 (nat_lit 1098907648)) i64).bind λ v42=>((zR_M j19 (i64.wrap (j8.2.1+j10))).bind λ v43=>((zR_M j20 (i64.wrap (j8.2.1+j10))).bind λ v44=>(some (Sum.inr ((j9),((z0m (j26,j27,()) (z0h (zr v43.1).1 v44.1).1).1.1),((z0m (j26,j27,()) (z0h (zr v43.1).1 v44.1).1).1.2.1)))))))))else ((ym FloatKind.f32 (yv BinOp.mul FloatKind.f32 j11 (nat_lit 1098907648)) i64).bind λ v45=>((zR_M j19 (i64.wrap (j8.2.1+j10))).bind λ v46=>((zR_M j20 (i64.wrap (j8.2.1+j10))).bind λ v47=>(some (Sum.inr ((j9),((z0m (j26,j27,()) (z0h (zr v46.1).1 v47.1).1).1.1),((z0m (j26,j27,()) (z0h (zr v46.1).1 v47.1).1).1.2.1))))))))
theorem y3P(n:Nat)(hn:big<=n)(r0:Q1->List (Q4)->List Nat->Int->Int->Q1->Q3->Q3->Q1->Q3->Q3->Q4->Q1->Q1->Int->Int->Int->Int->Q1->Q3->Q3->Q1->Q3->Q3->Q4->Q1->Q1->Option ((Q4)×Unit))(j8:Q1)(j9:List (Q4))(j10:Int)(j11:Nat)(j12:List Nat)(j13:Int)(j14:Int)(j15:Q1)(j16:Q3)(j17:Q3)(j18:Q1)(j19:Q3)(j20:Q3)(j21:Q4)(j22:Q1)(j23:Q1)(j24:Int)(j25:Int)(j26:Int)(j27:Int)(j28:Q1)(j29:Q3)(j30:Q3)(j31:Q1)(j32:Q3)(j33:Q3)(j34:Q4)(j35:Q1)(j36:Q1):LeF (elim some λ (a7:((List (Q4))×Int×Int))=>r0 j8 a7.1 j12 j13 (i64.wrap (j14+1)) j15 j16 j17 j18 j19 j20 j21 j22 j23 j24 j25 a7.2.1 a7.2.2 j28 j29 j30 j31 j32 j33 j34 j35 j36) (yBq j8 j9 j10 j11 j12 j13 j14 j15 j16 j17 j18 j19 j20 j21 j22 j23 j24 j25 j26 j27 j28 j29 j30 j31 j32 j33 j34 j35 j36) (y83 n r0 j8 j9 j10 j11 j12 j13 j14 j15 j16 j17 j18 j19 j20 j21 j22 j23 j24 j25 j26 j27 j28 j29 j30 j31 j32 j33 j34 j35 j36):=
  (y7 (y9 λ v37=>(y7 (y8 rfl) (y9 λ v42=>(y9 λ v43=>(y9 λ v44=>(y8 rfl)))))) (y9 λ v45=>(y9 λ v46=>(y9 λ v47=>(y8 rfl)))))
def yIz(aV:Q1)(aW:Int)(bc:Nat)(aG:List Nat)(ay:Int)(az:Int)(al:Q1)(am:Q3)(aD:Q3)(bx:Q1)(bz:Q3)(aC:Q3)(bA:Q4)(be:Q1)(aM:Q1)(aE:Int)(aF:Int)(aK:Int)(aL:Int)(aY:Q1)(aZ:Q3)(bB:Q3)(cf:Q1)(cg:Q3)(bv:Q3)(ci:Q4)(bX:Q1)(bf:Q1)(ac:List (Q4)):Option ((((Q4)×Unit)⊕((List (Q4))×Int×Int))⊕(List (Q4))):=
  (bif decide ((↑ac.length:Int) > 0)then ((idx ac (0:Int)).bind λ v3=>(bif decide (v3.2.1<=aW)then (bif decide ((0:Int)<=1) && decide ((1:Int)<=(↑ac.length:Int))then (some (Sum.inr (List.drop (Int.toNat (1:Int)) ac)))else none)else (Option.map Sum.inl (yBq (aV) (ac) (aW) (bc) (aG) (ay) (az) (al) (am) (aD) (bx) (bz) (aC) (bA) (be) (aM) (aE) (aF) (aK) (aL) (aY) (aZ) (bB) (cf) (cg) (bv) (ci) (bX) (bf)))))else (Option.map Sum.inl (yBq (aV) (ac) (aW) (bc) (aG) (ay) (az) (al) (am) (aD) (bx) (bz) (aC) (bA) (be) (aM) (aE) (aF) (aK) (aL) (aY) (aZ) (bB) (cf) (cg) (bv) (ci) (bX) (bf))))
theorem yEU(n:Nat)(hn:big<=n)(r0:Q1->List (Q4)->List Nat->Int->Int->Q1->Q3->Q3->Q1->Q3->Q3->Q4->Q1->Q1->Int->Int->Int->Int->Q1->Q3->Q3->Q1->Q3->Q3->Q4->Q1->Q1->Option ((Q4)×Unit))(aV:Q1)(aW:Int)(bc:Nat)(aG:List Nat)(ay:Int)(az:Int)(al:Q1)(am:Q3)(aD:Q3)(bx:Q1)(bz:Q3)(aC:Q3)(bA:Q4)(be:Q1)(aM:Q1)(aE:Int)(aF:Int)(aK:Int)(aL:Int)(aY:Q1)(aZ:Q3)(bB:Q3)(cf:Q1)(cg:Q3)(bv:Q3)(ci:Q4)(bX:Q1)(bf:Q1)(ac:List (Q4)):LeF (elim some λ (a7:((List (Q4))×Int×Int))=>r0 aV a7.1 aG ay (i64.wrap (az+1)) al am aD bx bz aC bA be aM aE aF a7.2.1 a7.2.2 aY aZ bB cf cg bv ci bX bf) (y1H (λ a7=>yIz aV aW bc aG ay az al am aD bx bz aC bA be aM aE aF aK aL aY aZ bB cf cg bv ci bX bf a7) wMax ac) (y7k n r0 n aV ac aW bc aG ay az al am aD bx bz aC bA be aM aE aF aK aL aY aZ bB cf cg bv ci bX bf):=by
  refine y2L (f:=(elim some λ (a7:((List (Q4))×Int×Int))=>r0 aV a7.1 aG ay (i64.wrap (az+1)) al am aD bx bz aC bA be aM aE aF a7.2.1 a7.2.2 aY aZ bB cf cg bv ci bX bf)) (W:=λ aI a7=>y7k n r0 aI aV a7 aW bc aG ay az al am aD bx bz aC bA be aM aE aF aK aL aY aZ bB cf cg bv ci bX bf) (body:=(λ a7=>yIz aV aW bc aG ay az al am aD bx bz aC bA be aM aE aF aK aL aY aZ bB cf cg bv ci bX bf a7)) (λ aI a7=>?_) wMax n ac (by unfold big at hn;unfold wMax;omega)
  show LeF _ _ (yGu n r0 (y7k n r0 aI) aV a7 aW bc aG ay az al am aD bx bz aC bA be aM aE aF aK aL aY aZ bB cf cg bv ci bX bf)
  exact (y7 (y9 λ v3=>(y7 (y7 (y8 rfl) yo) (yz (by apply y3P n hn)))) (yz (by apply y3P n hn)))
def yKi(aO:Q1)(ai:List Nat)(au:Q1)(av:Q3)(aQ:Q3)(bO:Q1)(bQ:Q3)(aP:Q3)(bR:Q4)(bH:Q1)(ba:Q1)(aj:Int)(ae:Int)(bl:Q1)(bm:Q3)(bS:Q3)(cw:Q1)(cx:Q3)(bM:Q3)(cy:Q4)(cc:Q1)(bI:Q1)(aA:Int)(v1:Nat)(ar:List (Q4))(aR:Int)(aS:Int):Option (((Q4)×Unit)⊕((List (Q4))×Int×Int)):=
  (y1H (λ a7=>yIz (aO) (aA) (v1) (ai) ((↑ai.length:Int)) (aA) (au) (av) (aQ) (bO) (bQ) (aP) (bR) (bH) (ba) (aj) (ae) (aR) (aS) (bl) (bm) (bS) (cw) (cx) (bM) (cy) (cc) (bI) a7) wMax (ar))
def yOF(aO:Q1)(ai:List Nat)(au:Q1)(av:Q3)(aQ:Q3)(bO:Q1)(bQ:Q3)(aP:Q3)(bR:Q4)(bH:Q1)(ba:Q1)(aj:Int)(ae:Int)(bl:Q1)(bm:Q3)(bS:Q3)(cw:Q1)(cx:Q3)(bM:Q3)(cy:Q4)(cc:Q1)(bI:Q1)(ar:List (Q4))(aR:Int)(aS:Int):Option ((Q4)×Unit):=
  (some (((aR,aS,()),())))
theorem yF7(n:Nat)(hn:big<=n)(aO:Q1)(ai:List Nat)(au:Q1)(av:Q3)(aQ:Q3)(bO:Q1)(bQ:Q3)(aP:Q3)(bR:Q4)(bH:Q1)(ba:Q1)(aj:Int)(ae:Int)(bl:Q1)(bm:Q3)(bS:Q3)(cw:Q1)(cx:Q3)(bM:Q3)(cy:Q4)(cc:Q1)(bI:Q1)(ar:List (Q4))(aR:Int)(aS:Int)(hx:List.length (ai) < lenMax):LeF some (yL (λ ak b7 a7=>yKi aO ai au av aQ bO bQ aP bR bH ba aj ae bl bm bS cw cx bM cy cc bI ak b7 a7.1 a7.2.1 a7.2.2) (λ a7=>yOF aO ai au av aQ bO bQ aP bR bH ba aj ae bl bm bS cw cx bM cy cc bI a7.1 a7.2.1 a7.2.2) 0 (ai) (ar,aR,aS)) (y7Z n n aO ar ai (List.length (ai):Int) 0 au av aQ bO bQ aP bR bH ba aj ae aR aS bl bm bS cw cx bM cy cc bI):=by
  refine yS (f:=some) (W:=λ aI ak a7=>y7Z n aI aO a7.1 ai (List.length (ai):Int) ak au av aQ bO bQ aP bR bH ba aj ae a7.2.1 a7.2.2 bl bm bS cw cx bM cy cc bI) (λ aI ak a7=>?_) hx (ar,aR,aS) n (by unfold big at hn;unfold lenMax at hx;omega)
  show LeF _ _ (yG5 n (y7Z n aI) aO a7.1 ai (List.length (ai):Int) ak au av aQ bO bQ aP bR bH ba aj ae a7.2.1 a7.2.2 bl bm bS cw cx bM cy cc bI)
  exact y7 (y9 λ v1=>(by apply yEU n hn)) (yz (y8 rfl))
def yIB(rp:Q1)(a:Q3)(b:Q3):Option ((Q4)×Unit):=
  (bif decide (List.length (rp.2.2.1) < lenMax)then yL (λ ak b7 a7=>yKi (rp) (rp.2.2.1) (rp) (a) (b) (rp) (a) (b) (((0:Int),(0:Int),())) (rp) (rp) ((0:Int)) ((0:Int)) (rp) (a) (b) (rp) (a) (b) (((0:Int),(0:Int),())) (rp) (rp) ak b7 a7.1 a7.2.1 a7.2.2) (λ a7=>yOF (rp) (rp.2.2.1) (rp) (a) (b) (rp) (a) (b) (((0:Int),(0:Int),())) (rp) (rp) ((0:Int)) ((0:Int)) (rp) (a) (b) (rp) (a) (b) (((0:Int),(0:Int),())) (rp) (rp) a7.1 a7.2.1 a7.2.2) 0 (rp.2.2.1) ((rp.2.2.2.1),((0:Int)),((0:Int)))else none)
abbrev z0c_e:Entry:={ f:=79,args:=.pair t43 (.pair t34 (.pair t34 .unit)),rS:=.pair t36 .unit,m:=λ x=>yIB x.1 x.2.1 x.2.2.1 }
theorem yMB:FnOK Tryz.prog z0c_e:=fBI Tryz.f79 (λ n x=>yTw n x.1 x.2.1 x.2.2.1) [] [il53,il107] 3 (yG yQ9 (yG yQ3 (yG yGO (yG yFM eNil)))) (y4y y8w (y4y y67 iNil)) λ n hn x=>(yT λ hx=>by apply yF7 n hn;exact hx)
def yGv(n:Nat)(r0:List (Q4)->Int->List (Q3)->Int->Int->Int->Int->Int->Int->Option ((Q4)×Unit))(co:List (Q4))(bu:Int)(aA:List (Q3))(bq:Int)(bG:Int)(aT:Int)(aU:Int)(aj:Int)(ae:Int):Option ((Q4)×Unit):=
  (bif decide (bG < bq)then ((idx aA bG).bind λ v1=>((idx co bG).bind λ v2=>((zR_M (v1.1,v1.2.1,v1.2.2.1,()) bu).bind λ v3=>r0 co bu aA bq (i64.wrap (bG+1)) aT aU (z0m (aj,ae,()) (z0h v2 v3.1).1).1.1 (z0m (aj,ae,()) (z0h v2 v3.1).1).1.2.1)))else some ((aj,ae,()),()))
def y7w(n:Nat)(k:Nat)(co:List (Q4))(bu:Int)(aA:List (Q3))(bq:Int)(bG:Int)(aT:Int)(aU:Int)(aj:Int)(ae:Int):Option ((Q4)×Unit):=
  iter (λ r y=>yGv n (λ co bu aA bq bG aT aU aj ae=>r ((co,(bu,(aA,(bq,(bG,()))))),(((aT,(aU,())),((aj,(ae,())),())),()))) y.1.1 y.1.2.1 y.1.2.2.1 y.1.2.2.2.1 y.1.2.2.2.2.1 y.2.1.1.1 y.2.1.1.2.1 y.2.1.2.1.1 y.2.1.2.1.2.1) k ((co,(bu,(aA,(bq,(bG,()))))),(((aT,(aU,())),((aj,(ae,())),())),()))
def ySv(n:Nat)(l:List (Q3))(v:List (Q4))(tick:Int):Option ((Q4)×Unit):=
  (y7w n n (v) (tick) (l) ((↑l.length:Int)) ((0:Int)) ((0:Int)) ((0:Int)) ((0:Int)) ((0:Int)))
def yCJ(co:List (Q4))(bu:Int)(aA:List (Q3))(aT:Int)(aU:Int)(bG:Int)(v1:Q3)(aj:Int)(ae:Int):Option (((Q4)×Unit)⊕(Int×Int)):=
  ((idx co bG).bind λ v2=>((zR_M (v1.1,v1.2.1,v1.2.2.1,()) bu).bind λ v3=>(some (Sum.inr (((z0m (aj,ae,()) (z0h v2 v3.1).1).1.1),((z0m (aj,ae,()) (z0h v2 v3.1).1).1.2.1))))))
def yLQ(co:List (Q4))(bu:Int)(aA:List (Q3))(aT:Int)(aU:Int)(aj:Int)(ae:Int):Option ((Q4)×Unit):=
  (some (((aj,ae,()),())))
theorem yEa(n:Nat)(hn:big<=n)(co:List (Q4))(bu:Int)(aA:List (Q3))(aT:Int)(aU:Int)(aj:Int)(ae:Int)(hx:List.length (aA) < lenMax):LeF some (yL (λ ak b7 a7=>yCJ co bu aA aT aU ak b7 a7.1 a7.2) (λ a7=>yLQ co bu aA aT aU a7.1 a7.2) 0 (aA) (aj,ae)) (y7w n n co bu aA (List.length (aA):Int) 0 aT aU aj ae):=by
  refine yS (f:=some) (W:=λ aI ak a7=>y7w n aI co bu aA (List.length (aA):Int) ak aT aU a7.1 a7.2) (λ aI ak a7=>?_) hx (aj,ae) n (by unfold big at hn;unfold lenMax at hx;omega)
  show LeF _ _ (yGv n (y7w n aI) co bu aA (List.length (aA):Int) ak aT aU a7.1 a7.2)
  exact y7 (y9 λ v1=>(y9 λ v2=>(y9 λ v3=>(y8 rfl)))) (yz (y8 rfl))
def yNG(l:List (Q3))(v:List (Q4))(tick:Int):Option ((Q4)×Unit):=
  (bif decide (List.length (l) < lenMax)then yL (λ ak b7 a7=>yCJ (v) (tick) (l) ((0:Int)) ((0:Int)) ak b7 a7.1 a7.2) (λ a7=>yLQ (v) (tick) (l) ((0:Int)) ((0:Int)) a7.1 a7.2) 0 (l) (((0:Int)),((0:Int)))else none)
abbrev z0i_e:Entry:={ f:=111,args:=.pair t28 (.pair t30 (.pair t3 .unit)),rS:=.pair t36 .unit,m:=λ x=>yNG x.1 x.2.1 x.2.2.1 }
theorem yRS:FnOK Tryz.prog z0i_e:=fB Tryz.f111 (λ n x=>ySv n x.1 x.2.1 x.2.2.1) [[1,2,6,7,11,12,13]] (yG yQ9 (yG yGO (yG yFM eNil))) λ n hn x=>(yT λ hx=>by apply yEa n hn;exact hx)
def yGj(n:Nat)(r0:Int->List Int->Int->Int->Option (Int×Unit))(r2:Int->Int->List Int->Int->Int->Option (Int×Unit))(cC:Int)(cm:Int)(cp:List Int)(cr:Int)(aG:Int):Option (Int×Unit):=
  (bif cm != 0 then (bif cm==0 then none else r2 cm (cC.tmod cm) cp cr aG)else r0 cC cp cr (i64.wrap (aG+1)))
def y7e(n:Nat)(r0:Int->List Int->Int->Int->Option (Int×Unit))(k:Nat)(cC:Int)(cm:Int)(cp:List Int)(cr:Int)(aG:Int):Option (Int×Unit):=
  iter (λ r y=>yGj n r0 (λ cC cm cp cr aG=>r ((cC,(cm,(cp,(cr,(aG,()))))),((),()))) y.1.1 y.1.2.1 y.1.2.2.1 y.1.2.2.2.1 y.1.2.2.2.2.1) k ((cC,(cm,(cp,(cr,(aG,()))))),((),()))
def yGd(n:Nat)(r0:Int->List Int->Int->Int->Option (Int×Unit))(cz:Int)(aJ:List Int)(a8:Int)(ai:Int):Option (Int×Unit):=
  (bif decide (ai < a8)then ((idx aJ ai).bind λ v1=>(y7e n r0 n (cz) ((zy v1).1) (aJ) (a8) (ai)))else some (cz,()))
def y7d(n:Nat)(k:Nat)(cz:Int)(aJ:List Int)(a8:Int)(ai:Int):Option (Int×Unit):=
  iter (λ r y=>yGd n (λ cz aJ a8 ai=>r ((cz,(aJ,(a8,(ai,())))),((),()))) y.1.1 y.1.2.1 y.1.2.2.1 y.1.2.2.2.1) k ((cz,(aJ,(a8,(ai,())))),((),()))
def yTp(n:Nat)(np:Int)(l:List Int):Option (Int×Unit):=
  (y7d n n (np) (l) ((↑l.length:Int)) ((0:Int)))
def y5f(cp:List Int)(cr:Int)(aG:Int)(cC:Int)(cm:Int):Option (((Int×Unit)⊕(Int))⊕(Int×Int)):=
  (bif cm != 0 then (bif cm==0 then none else (some (Sum.inr ((cm),(cC.tmod cm)))))else (some (Sum.inl (Sum.inr (cC)))))
theorem yEk(n:Nat)(hn:big<=n)(r0:Int->List Int->Int->Int->Option (Int×Unit))(cp:List Int)(cr:Int)(aG:Int)(cC:Int)(cm:Int):LeF (elim some λ (a7:(Int))=>r0 a7 cp cr (i64.wrap (aG+1))) (y1H (λ a7=>y5f cp cr aG a7.1 a7.2) wMax (cC,cm)) (y7e n r0 n cC cm cp cr aG):=by
  refine y2L (f:=(elim some λ (a7:(Int))=>r0 a7 cp cr (i64.wrap (aG+1)))) (W:=λ aI a7=>y7e n r0 aI a7.1 a7.2 cp cr aG) (body:=(λ a7=>y5f cp cr aG a7.1 a7.2)) (λ aI a7=>?_) wMax n (cC,cm) (by unfold big at hn;unfold wMax;omega)
  show LeF _ _ (yGj n r0 (y7e n r0 aI) a7.1 a7.2 cp cr aG)
  exact (y7 (y7 yo (y8 rfl)) (y8 rfl))
def y9K(aJ:List Int)(ai:Int)(v1:Int)(cz:Int):Option ((Int×Unit)⊕(Int)):=
  (y1H (λ a7=>y5f (aJ) ((↑aJ.length:Int)) (ai) a7.1 a7.2) wMax ((cz),((zy v1).1)))
def yOd(aJ:List Int)(cz:Int):Option (Int×Unit):=
  (some ((cz,())))
theorem yE9(n:Nat)(hn:big<=n)(aJ:List Int)(cz:Int)(hx:List.length (aJ) < lenMax):LeF some (yL (λ ak b7 a7=>y9K aJ ak b7 a7) (λ a7=>yOd aJ a7) 0 (aJ) cz) (y7d n n cz aJ (List.length (aJ):Int) 0):=by
  refine yS (f:=some) (W:=λ aI ak a7=>y7d n aI a7 aJ (List.length (aJ):Int) ak) (λ aI ak a7=>?_) hx cz n (by unfold big at hn;unfold lenMax at hx;omega)
  show LeF _ _ (yGd n (y7d n aI) a7 aJ (List.length (aJ):Int) ak)
  exact y7 (y9 λ v1=>(by apply yEk n hn)) (yz (y8 rfl))
def y9e(np:Int)(l:List Int):Option (Int×Unit):=
  (bif decide (List.length (l) < lenMax)then yL (λ ak b7 a7=>y9K (l) ak b7 a7) (λ a7=>yOd (l) a7) 0 (l) (np)else none)
abbrev z08_e:Entry:={ f:=108,args:=.pair t3 (.pair t88 .unit),rS:=.pair t3 .unit,m:=λ x=>y9e x.1 x.2.1 }
theorem yO0:FnOK Tryz.prog z08_e:=fB Tryz.f108 (λ n x=>yTp n x.1 x.2.1) [[0,7,8,9],[0,6,7,8,9]] (yG yHg eNil) λ n hn x=>(yT λ hx=>by apply yE9 n hn;exact hx)
def y8q(n:Nat)(r0:Q1->List (Q4)->List Nat->Int->Int->Q3->Q1->Q3->Q4->Q1->Q1->Int->Int->Int->Int->Q3->Q1->Q3->Q4->Q1->Q1->Option ((Q4)×Unit))(j8:Q1)(j9:List (Q4))(j10:Int)(j11:Nat)(j12:List Nat)(j13:Int)(j14:Int)(j15:Q3)(j16:Q1)(j17:Q3)(j18:Q4)(j19:Q1)(j20:Q1)(j21:Int)(j22:Int)(j23:Int)(j24:Int)(j25:Q3)(j26:Q1)(j27:Q3)(j28:Q4)(j29:Q1)(j30:Q1):Option ((Q4)×Unit):=
  (bif decide ((↑j9.length:Int) > 0)then ((idx j9 (0:Int)).bind λ v31=>(bif decide (v31.1<=j10)then r0 j8 j9 j12 j13 (i64.wrap (j14+1)) j15 j16 j17 j18 j19 j20 j21 j22 j23 j24 j25 j26 j27 j28 j29 j30 else ((ym FloatKind.f32 (yv BinOp.mul FloatKind.f32 j11 (nat_lit 1098907648)) i64).bind λ v36=>((zR_M j17 (i64.wrap (j8.2.1+j10))).bind λ v37=>r0 j8 j9 j12 j13 (i64.wrap (j14+1)) j15 j16 j17 j18 j19 j20 j21 j22 (z0m (j23,j24,()) (z0N (zr v37.1).1 v36).1).1.1 (z0m (j23,j24,()) (z0N (zr v37.1).1 v36).1).1.2.1 j25 j26 j27 j28 j29 j30))))else ((ym FloatKind.f32 (yv BinOp.mul FloatKind.f32 j11 (nat_lit 1098907648)) i64).bind λ v38=>((zR_M j17 (i64.wrap (j8.2.1+j10))).bind λ v39=>r0 j8 j9 j12 j13 (i64.wrap (j14+1)) j15 j16 j17 j18 j19 j20 j21 j22 (z0m (j23,j24,()) (z0N (zr v39.1).1 v38).1).1.1 (z0m (j23,j24,()) (z0N (zr v39.1).1 v38).1).1.2.1 j25 j26 j27 j28 j29 j30)))
def yFz(n:Nat)(r0:Q1->List (Q4)->List Nat->Int->Int->Q3->Q1->Q3->Q4->Q1->Q1->Int->Int->Int->Int->Q3->Q1->Q3->Q4->Q1->Q1->Option ((Q4)×Unit))(r2:Q1->List (Q4)->Int->Nat->List Nat->Int->Int->Q3->Q1->Q3->Q4->Q1->Q1->Int->Int->Int->Int->Q3->Q1->Q3->Q4->Q1->Q1->Option ((Q4)×Unit))(aV:Q1)(ac:List (Q4))(aW:Int)(bc:Nat)(aG:List Nat)(ay:Int)(az:Int)(al:Q3)(am:Q1)(aD:Q3)(bC:Q4)(bD:Q1)(b6:Q1)(aE:Int)(aF:Int)(aK:Int)(aL:Int)(aY:Q3)(aZ:Q1)(bB:Q3)(cj:Q4)(ck:Q1)(bE:Q1):Option ((Q4)×Unit):=
  (bif decide ((↑ac.length:Int) > 0)then ((idx ac (0:Int)).bind λ v3=>(bif decide (v3.2.1<=aW)then (bif decide ((0:Int)<=1) && decide ((1:Int)<=(↑ac.length:Int))then r2 aV (List.drop (Int.toNat (1:Int)) ac) aW bc aG ay az al am aD bC bD b6 aE aF aK aL aY aZ bB cj ck bE else none)else (y8q n r0 (aV) (ac) (aW) (bc) (aG) (ay) (az) (al) (am) (aD) (bC) (bD) (b6) (aE) (aF) (aK) (aL) (aY) (aZ) (bB) (cj) (ck) (bE))))else (y8q n r0 (aV) (ac) (aW) (bc) (aG) (ay) (az) (al) (am) (aD) (bC) (bD) (b6) (aE) (aF) (aK) (aL) (aY) (aZ) (bB) (cj) (ck) (bE)))
def y7i(n:Nat)(r0:Q1->List (Q4)->List Nat->Int->Int->Q3->Q1->Q3->Q4->Q1->Q1->Int->Int->Int->Int->Q3->Q1->Q3->Q4->Q1->Q1->Option ((Q4)×Unit))(k:Nat)(aV:Q1)(ac:List (Q4))(aW:Int)(bc:Nat)(aG:List Nat)(ay:Int)(az:Int)(al:Q3)(am:Q1)(aD:Q3)(bC:Q4)(bD:Q1)(b6:Q1)(aE:Int)(aF:Int)(aK:Int)(aL:Int)(aY:Q3)(aZ:Q1)(bB:Q3)(cj:Q4)(ck:Q1)(bE:Q1):Option ((Q4)×Unit):=
  iter (λ r y=>yFz n r0 (λ aV ac aW bc aG ay az al am aD bC bD b6 aE aF aK aL aY aZ bB cj ck bE=>r ((aV,(ac,(aW,(bc,(aG,(ay,(az,()))))))),(((al,(am,(aD,(bC,(bD,((b6,()),())))))),((aE,(aF,())),((aK,(aL,())),()))),(aY,(aZ,(bB,(cj,(ck,((bE,()),()))))))))) y.1.1 y.1.2.1 y.1.2.2.1 y.1.2.2.2.1 y.1.2.2.2.2.1 y.1.2.2.2.2.2.1 y.1.2.2.2.2.2.2.1 y.2.1.1.1 y.2.1.1.2.1 y.2.1.1.2.2.1 y.2.1.1.2.2.2.1 y.2.1.1.2.2.2.2.1 y.2.1.1.2.2.2.2.2.1.1 y.2.1.2.1.1 y.2.1.2.1.2.1 y.2.1.2.2.1.1 y.2.1.2.2.1.2.1 y.2.2.1 y.2.2.2.1 y.2.2.2.2.1 y.2.2.2.2.2.1 y.2.2.2.2.2.2.1 y.2.2.2.2.2.2.2.1.1) k ((aV,(ac,(aW,(bc,(aG,(ay,(az,()))))))),(((al,(am,(aD,(bC,(bD,((b6,()),())))))),((aE,(aF,())),((aK,(aL,())),()))),(aY,(aZ,(bB,(cj,(ck,((bE,()),()))))))))
def yFe(n:Nat)(r0:Q1->List (Q4)->List Nat->Int->Int->Q3->Q1->Q3->Q4->Q1->Q1->Int->Int->Int->Int->Q3->Q1->Q3->Q4->Q1->Q1->Option ((Q4)×Unit))(aO:Q1)(ar:List (Q4))(ai:List Nat)(ah:Int)(aA:Int)(au:Q3)(av:Q1)(aQ:Q3)(bT:Q4)(bU:Q1)(bn:Q1)(aj:Int)(ae:Int)(aR:Int)(aS:Int)(bl:Q3)(bm:Q1)(bS:Q3)(cA:Q4)(cB:Q1)(bV:Q1):Option ((Q4)×Unit):=
  (bif decide (aA < ah)then ((idx ai aA).bind λ v1=>(y7i n r0 n (aO) (ar) (aA) (v1) (ai) (ah) (aA) (au) (av) (aQ) (bT) (bU) (bn) (aj) (ae) (aR) (aS) (bl) (bm) (bS) (cA) (cB) (bV)))else some ((aR,aS,()),()))
def y7g(n:Nat)(k:Nat)(aO:Q1)(ar:List (Q4))(ai:List Nat)(ah:Int)(aA:Int)(au:Q3)(av:Q1)(aQ:Q3)(bT:Q4)(bU:Q1)(bn:Q1)(aj:Int)(ae:Int)(aR:Int)(aS:Int)(bl:Q3)(bm:Q1)(bS:Q3)(cA:Q4)(cB:Q1)(bV:Q1):Option ((Q4)×Unit):=
  iter (λ r y=>yFe n (λ aO ar ai ah aA au av aQ bT bU bn aj ae aR aS bl bm bS cA cB bV=>r ((aO,(ar,(ai,(ah,(aA,()))))),(((au,(av,(aQ,(bT,(bU,((bn,()),())))))),((aj,(ae,())),((aR,(aS,())),()))),(bl,(bm,(bS,(cA,(cB,((bV,()),()))))))))) y.1.1 y.1.2.1 y.1.2.2.1 y.1.2.2.2.1 y.1.2.2.2.2.1 y.2.1.1.1 y.2.1.1.2.1 y.2.1.1.2.2.1 y.2.1.1.2.2.2.1 y.2.1.1.2.2.2.2.1 y.2.1.1.2.2.2.2.2.1.1 y.2.1.2.1.1 y.2.1.2.1.2.1 y.2.1.2.2.1.1 y.2.1.2.2.1.2.1 y.2.2.1 y.2.2.2.1 y.2.2.2.2.1 y.2.2.2.2.2.1 y.2.2.2.2.2.2.1 y.2.2.2.2.2.2.2.1.1) k ((aO,(ar,(ai,(ah,(aA,()))))),(((au,(av,(aQ,(bT,(bU,((bn,()),())))))),((aj,(ae,())),((aR,(aS,())),()))),(bl,(bm,(bS,(cA,(cB,((bV,()),()))))))))
def yTh(n:Nat)(c:Q3)(p1:Q1):Option ((Q4)×Unit):=
  (y7g n n (p1) (p1.2.2.2.1) (p1.2.2.1) ((↑p1.2.2.1.length:Int)) ((0:Int)) (c) (p1) (c) (((0:Int),(0:Int),())) (p1) (p1) ((0:Int)) ((0:Int)) ((0:Int)) ((0:Int)) (c) (p1) (c) (((0:Int),(0:Int),())) (p1) (p1))
def yBo(j8:Q1)(j9:List (Q4))(j10:Int)(j11:Nat)(j12:List Nat)(j13:Int)(j14:Int)(j15:Q3)(j16:Q1)(j17:Q3)(j18:Q4)(j19:Q1)(j20:Q1)(j21:Int)(j22:Int)(j23:Int)(j24:Int)(j25:Q3)(j26:Q1)(j27:Q3)(j28:Q4)(j29:Q1)(j30:Q1):Option (((Q4)×Unit)⊕((List (Q4))×Int×Int)):=
  (bif decide ((↑j9.length:Int) > 0)then ((idx j9 (0:Int)).bind λ v31=>(bif decide (v31.1<=j10)then (some (Sum.inr ((j9),(j23),(j24))))else ((ym FloatKind.f32 (yv BinOp.mul FloatKind.f32 j11 (nat_lit 1098907648)) i64).bind λ v36=>((zR_M j17 (i64.wrap (j8.2.1+j10))).bind λ v37=>(some (Sum.inr ((j9),((z0m (j23,j24,()) (z0N (zr v37.1).1 v36).1).1.1),((z0m (j23,j24,()) (z0N (zr v37.1).1 v36).1).1.2.1))))))))else ((ym FloatKind.f32 (yv BinOp.mul FloatKind.f32 j11 (nat_lit 1098907648)) i64).bind λ v38=>((zR_M j17 (i64.wrap (j8.2.1+j10))).bind λ v39=>(some (Sum.inr ((j9),((z0m (j23,j24,()) (z0N (zr v39.1).1 v38).1).1.1),((z0m (j23,j24,()) (z0N (zr v39.1).1 v38).1).1.2.1)))))))
theorem y2m(n:Nat)(hn:big<=n)(r0:Q1->List (Q4)->List Nat->Int->Int->Q3->Q1->Q3->Q4->Q1->Q1->Int->Int->Int->Int->Q3->Q1->Q3->Q4->Q1->Q1->Option ((Q4)×Unit))(j8:Q1)(j9:List (Q4))(j10:Int)(j11:Nat)(j12:List Nat)(j13:Int)(j14:Int)(j15:Q3)(j16:Q1)(j17:Q3)(j18:Q4)(j19:Q1)(j20:Q1)(j21:Int)(j22:Int)(j23:Int)(j24:Int)(j25:Q3)(j26:Q1)(j27:Q3)(j28:Q4)(j29:Q1)(j30:Q1):LeF (elim some λ (a7:((List (Q4))×Int×Int))=>r0 j8 a7.1 j12 j13 (i64.wrap (j14+1)) j15 j16 j17 j18 j19 j20 j21 j22 a7.2.1 a7.2.2 j25 j26 j27 j28 j29 j30) (yBo j8 j9 j10 j11 j12 j13 j14 j15 j16 j17 j18 j19 j20 j21 j22 j23 j24 j25 j26 j27 j28 j29 j30) (y8q n r0 j8 j9 j10 j11 j12 j13 j14 j15 j16 j17 j18 j19 j20 j21 j22 j23 j24 j25 j26 j27 j28 j29 j30):=
  (y7 (y9 λ v31=>(y7 (y8 rfl) (y9 λ v36=>(y9 λ v37=>(y8 rfl))))) (y9 λ v38=>(y9 λ v39=>(y8 rfl))))
def yJW(aV:Q1)(aW:Int)(bc:Nat)(aG:List Nat)(ay:Int)(az:Int)(al:Q3)(am:Q1)(aD:Q3)(bC:Q4)(bD:Q1)(b6:Q1)(aE:Int)(aF:Int)(aK:Int)(aL:Int)(aY:Q3)(aZ:Q1)(bB:Q3)(cj:Q4)(ck:Q1)(bE:Q1)(ac:List (Q4)):Option ((((Q4)×Unit)⊕((List (Q4))×Int×Int))⊕(List (Q4))):=
  (bif decide ((↑ac.length:Int) > 0)then ((idx ac (0:Int)).bind λ v3=>(bif decide (v3.2.1<=aW)then (bif decide ((0:Int)<=1) && decide ((1:Int)<=(↑ac.length:Int))then (some (Sum.inr (List.drop (Int.toNat (1:Int)) ac)))else none)else (Option.map Sum.inl (yBo (aV) (ac) (aW) (bc) (aG) (ay) (az) (al) (am) (aD) (bC) (bD) (b6) (aE) (aF) (aK) (aL) (aY) (aZ) (bB) (cj) (ck) (bE)))))else (Option.map Sum.inl (yBo (aV) (ac) (aW) (bc) (aG) (ay) (az) (al) (am) (aD) (bC) (bD) (b6) (aE) (aF) (aK) (aL) (aY) (aZ) (bB) (cj) (ck) (bE))))
theorem yFD(n:Nat)(hn:big<=n)(r0:Q1->List (Q4)->List Nat->Int->Int->Q3->Q1->Q3->Q4->Q1->Q1->Int->Int->Int->Int->Q3->Q1->Q3->Q4->Q1->Q1->Option ((Q4)×Unit))(aV:Q1)(aW:Int)(bc:Nat)(aG:List Nat)(ay:Int)(az:Int)(al:Q3)(am:Q1)(aD:Q3)(bC:Q4)(bD:Q1)(b6:Q1)(aE:Int)(aF:Int)(aK:Int)(aL:Int)(aY:Q3)(aZ:Q1)(bB:Q3)(cj:Q4)(ck:Q1)(bE:Q1)(ac:List (Q4)):LeF (elim some λ (a7:((List (Q4))×Int×Int))=>r0 aV a7.1 aG ay (i64.wrap (az+1)) al am aD bC bD b6 aE aF a7.2.1 a7.2.2 aY aZ bB cj ck bE) (y1H (λ a7=>yJW aV aW bc aG ay az al am aD bC bD b6 aE aF aK aL aY aZ bB cj ck bE a7) wMax ac) (y7i n r0 n aV ac aW bc aG ay az al am aD bC bD b6 aE aF aK aL aY aZ bB cj ck bE):=by
  refine y2L (f:=(elim some λ (a7:((List (Q4))×Int×Int))=>r0 aV a7.1 aG ay (i64.wrap (az+1)) al am aD bC bD b6 aE aF a7.2.1 a7.2.2 aY aZ bB cj ck bE)) (W:=λ aI a7=>y7i n r0 aI aV a7 aW bc aG ay az al am aD bC bD b6 aE aF aK aL aY aZ bB cj ck bE) (body:=(λ a7=>yJW aV aW bc aG ay az al am aD bC bD b6 aE aF aK aL aY aZ bB cj ck bE a7)) (λ aI a7=>?_) wMax n ac (by unfold big at hn;unfold wMax;omega)
  show LeF _ _ (yFz n r0 (y7i n r0 aI) aV a7 aW bc aG ay az al am aD bC bD b6 aE aF aK aL aY aZ bB cj ck bE)
  exact (y7 (y9 λ v3=>(y7 (y7 (y8 rfl) yo) (yz (by apply y2m n hn)))) (yz (by apply y2m n hn)))
def yKM(aO:Q1)(ai:List Nat)(au:Q3)(av:Q1)(aQ:Q3)(bT:Q4)(bU:Q1)(bn:Q1)(aj:Int)(ae:Int)(bl:Q3)(bm:Q1)(bS:Q3)(cA:Q4)(cB:Q1)(bV:Q1)(aA:Int)(v1:Nat)(ar:List (Q4))(aR:Int)(aS:Int):Option (((Q4)×Unit)⊕((List (Q4))×Int×Int)):=
  (y1H (λ a7=>yJW (aO) (aA) (v1) (ai) ((↑ai.length:Int)) (aA) (au) (av) (aQ) (bT) (bU) (bn) (aj) (ae) (aR) (aS) (bl) (bm) (bS) (cA) (cB) (bV) a7) wMax (ar))
def yNm(aO:Q1)(ai:List Nat)(au:Q3)(av:Q1)(aQ:Q3)(bT:Q4)(bU:Q1)(bn:Q1)(aj:Int)(ae:Int)(bl:Q3)(bm:Q1)(bS:Q3)(cA:Q4)(cB:Q1)(bV:Q1)(ar:List (Q4))(aR:Int)(aS:Int):Option ((Q4)×Unit):=
  (some (((aR,aS,()),())))
theorem yDz(n:Nat)(hn:big<=n)(aO:Q1)(ai:List Nat)(au:Q3)(av:Q1)(aQ:Q3)(bT:Q4)(bU:Q1)(bn:Q1)(aj:Int)(ae:Int)(bl:Q3)(bm:Q1)(bS:Q3)(cA:Q4)(cB:Q1)(bV:Q1)(ar:List (Q4))(aR:Int)(aS:Int)(hx:List.length (ai) < lenMax):LeF some (yL (λ ak b7 a7=>yKM aO ai au av aQ bT bU bn aj ae bl bm bS cA cB bV ak b7 a7.1 a7.2.1 a7.2.2) (λ a7=>yNm aO ai au av aQ bT bU bn aj ae bl bm bS cA cB bV a7.1 a7.2.1 a7.2.2) 0 (ai) (ar,aR,aS)) (y7g n n aO ar ai (List.length (ai):Int) 0 au av aQ bT bU bn aj ae aR aS bl bm bS cA cB bV):=by
  refine yS (f:=some) (W:=λ aI ak a7=>y7g n aI aO a7.1 ai (List.length (ai):Int) ak au av aQ bT bU bn aj ae a7.2.1 a7.2.2 bl bm bS cA cB bV) (λ aI ak a7=>?_) hx (ar,aR,aS) n (by unfold big at hn;unfold lenMax at hx;omega)
  show LeF _ _ (yFe n (y7g n aI) aO a7.1 ai (List.length (ai):Int) ak au av aQ bT bU bn aj ae a7.2.1 a7.2.2 bl bm bS cA cB bV)
  exact y7 (y9 λ v1=>(by apply yFD n hn)) (yz (y8 rfl))
def yIU(c:Q3)(p1:Q1):Option ((Q4)×Unit):=
  (bif decide (List.length (p1.2.2.1) < lenMax)then yL (λ ak b7 a7=>yKM (p1) (p1.2.2.1) (c) (p1) (c) (((0:Int),(0:Int),())) (p1) (p1) ((0:Int)) ((0:Int)) (c) (p1) (c) (((0:Int),(0:Int),())) (p1) (p1) ak b7 a7.1 a7.2.1 a7.2.2) (λ a7=>yNm (p1) (p1.2.2.1) (c) (p1) (c) (((0:Int),(0:Int),())) (p1) (p1) ((0:Int)) ((0:Int)) (c) (p1) (c) (((0:Int),(0:Int),())) (p1) (p1) a7.1 a7.2.1 a7.2.2) 0 (p1.2.2.1) ((p1.2.2.2.1),((0:Int)),((0:Int)))else none)
abbrev z0B_e:Entry:={ f:=95,args:=.pair t34 (.pair (.ref t43) .unit),rS:=.pair t36 .unit,m:=λ x=>yIU x.1 x.2.1 }
theorem ySL:FnOK Tryz.prog z0B_e:=fBI Tryz.f95 (λ n x=>yTh n x.1 x.2.1) [] [il53,il107] 3 (yG yQ9 (yG yQ3 (yG yIZ (yG yFM eNil)))) (y4y y8w (y4y y67 iNil)) λ n hn x=>(yT λ hx=>by apply yDz n hn;exact hx)
abbrev zS_a:Ty:=.pair t111 (.pair t3 (.pair t3 .unit))
abbrev zS_r:Ty:=.pair t36 .unit
class tide_matrix_expand_Rec where
  f:zS_a.den->Option zS_r.den
section
variable [tide_matrix_expand_Rec]
def y46:Entry:={ f:=106,args:=zS_a,rS:=zS_r,m:=λ x=>tide_matrix_expand_Rec.f x }
def zS_g:G:={ T:=T,E:=[y46,z0h_e,z0N_e,z0m_e],mU:=[],fz:=[] }
def zS_k:List (List Nat):=[[0,1,2,6,7,8,18,19]]
def yQp(n:Nat):Ann:={ keep:=zS_k,fuel:=n,inl:=[],deep:=0 }
def yKp(n:Nat)(r0:List (List (Q4))->Int->Int->Int->Int->Int->Int->Int->Int->Int->Option ((Q4)×Unit))(bp:List (List (Q4)))(bF:Int)(bg:Int)(bh:Int)(ca:Int)(bY:Int)(aT:Int)(aU:Int)(aj:Int)(ae:Int):Option ((Q4)×Unit):=
  (bif decide (bY < ca)then (bif decide (bY < 0)then none else (bif y2q i64 BinOp.and (bg.fdiv ((2:Int) ^ Min.min bY.toNat i64.bits)) (1:Int)==1 then r0 bp bF bg bh ca (i64.wrap (bY+1)) aT aU aj ae else ((idx bp bF).bind λ v1=>((idx v1 bY).bind λ v2=>(bif decide (bY < 0)then none else ((tide_matrix_expand_Rec.f (bp,i64.wrap (bF+1),y2q i64 BinOp.or bg (i64.wrap ((1:Int) * 2 ^ Min.min bY.toNat i64.bits)),())).bind λ v3=>r0 bp bF bg (i64.wrap ((0:Int) - bh)) ca (i64.wrap (bY+1)) aT aU (z0m (aj,ae,()) (z0N (z0h v2 v3.1).1 bh).1).1.1 (z0m (aj,ae,()) (z0N (z0h v2 v3.1).1 bh).1).1.2.1))))))else some ((aj,ae,()),()))
def yBA(n:Nat)(k:Nat)(bp:List (List (Q4)))(bF:Int)(bg:Int)(bh:Int)(ca:Int)(bY:Int)(aT:Int)(aU:Int)(aj:Int)(ae:Int):Option ((Q4)×Unit):=
  iter (λ r y=>yKp n (λ bp bF bg bh ca bY aT aU aj ae=>r ((bp,(bF,(bg,(bh,(ca,(bY,())))))),(((aT,(aU,())),((aj,(ae,())),())),()))) y.1.1 y.1.2.1 y.1.2.2.1 y.1.2.2.2.1 y.1.2.2.2.2.1 y.1.2.2.2.2.2.1 y.2.1.1.1 y.2.1.1.2.1 y.2.1.2.1.1 y.2.1.2.1.2.1) k ((bp,(bF,(bg,(bh,(ca,(bY,())))))),(((aT,(aU,())),((aj,(ae,())),())),()))
def zS_m(n:Nat)(m:List (List (Q4)))(row:Int)(used:Int):Option ((Q4)×Unit):=
  (bif row==(↑m.length:Int)then some (((1:Int),(0:Int),()),())else (yBA n n (m) (row) (used) ((1:Int)) ((↑m.length:Int)) ((0:Int)) ((0:Int)) ((0:Int)) ((0:Int)) ((0:Int))))
theorem yU5(n:Nat)(x:zS_a.den):runF zS_g (yQp n) Tryz.f106 zS_a zS_r x=zS_m n x.1 x.2.1 x.2.2.1:=by kernel_rfl
def yEH(bp:List (List (Q4)))(bF:Int)(bg:Int)(ca:Int)(aT:Int)(aU:Int)(bY:Int)(bh:Int)(aj:Int)(ae:Int):Option (((Q4)×Unit)⊕(Int×Int×Int)):=
  (bif decide (bY < 0)then none else (bif y2q i64 BinOp.and (bg.fdiv ((2:Int) ^ Min.min bY.toNat i64.bits)) (1:Int)==1 then (some (Sum.inr ((bh),(aj),(ae))))else ((idx bp bF).bind λ v1=>((idx v1 bY).bind λ v2=>(bif decide (bY < 0)then none else ((tide_matrix_expand_Rec.f (bp,i64.wrap (bF+1),y2q i64 BinOp.or bg (i64.wrap ((1:Int) * 2 ^ Min.min bY.toNat i64.bits)),())).bind λ v3=>(some (Sum.inr ((i64.wrap ((0:Int) - bh)),((z0m (aj,ae,()) (z0N (z0h v2 v3.1).1 bh).1).1.1),((z0m (aj,ae,()) (z0N (z0h v2 v3.1).1 bh).1).1.2.1))))))))))
def yOq(bp:List (List (Q4)))(bF:Int)(bg:Int)(ca:Int)(aT:Int)(aU:Int)(bh:Int)(aj:Int)(ae:Int):Option ((Q4)×Unit):=
  (some (((aj,ae,()),())))
theorem yHD(n:Nat)(hn:big<=n)(bp:List (List (Q4)))(bF:Int)(bg:Int)(ca:Int)(aT:Int)(aU:Int)(bh:Int)(aj:Int)(ae:Int)(hx:(ca)<=9223372036854775807):LeF some (y1r (λ ak a7=>yEH bp bF bg ca aT aU ak a7.1 a7.2.1 a7.2.2) (λ a7=>yOq bp bF bg ca aT aU a7.1 a7.2.1 a7.2.2) ((ca) - 0).toNat 0 (bh,aj,ae)) (yBA n n bp bF bg bh ca 0 aT aU aj ae):=by
  refine y3h (f:=some) (W:=λ aI ak a7=>yBA n aI bp bF bg a7.1 ca ak aT aU a7.2.1 a7.2.2) (λ aI ak a7=>?_) hx (bh,aj,ae) n 0 (by decide) (by unfold big at hn;omega)
  show LeF _ _ (yKp n (yBA n aI) bp bF bg a7.1 ca ak aT aU a7.2.1 a7.2.2)
  exact y7 (y7 yo (y7 (y8 rfl) (y9 λ v1=>(y9 λ v2=>(y7 yo (y9 λ v3=>(y8 rfl))))))) (yz (y8 rfl))
def zS_M(m:List (List (Q4)))(row:Int)(used:Int):Option ((Q4)×Unit):=
  (bif row==(↑m.length:Int)then (some ((((1:Int),(0:Int),()),())))else (bif decide (((↑m.length:Int))<=9223372036854775807)then y1r (λ ak a7=>yEH (m) (row) (used) ((↑m.length:Int)) ((0:Int)) ((0:Int)) ak a7.1 a7.2.1 a7.2.2) (λ a7=>yOq (m) (row) (used) ((↑m.length:Int)) ((0:Int)) ((0:Int)) a7.1 a7.2.1 a7.2.2) (((↑m.length:Int)) - 0).toNat 0 (((1:Int)),((0:Int)),((0:Int)))else none))
theorem yRI(m:List (List (Q4)))(row:Int)(used:Int)(y:(Q4)×Unit)(h:zS_M m row used=some y):∃ n,zS_m n m row used=some y:=
  ⟨big,LeF.top (show LeF some (zS_M m row used) (zS_m big m row used)from (λ (n:Nat) (hn:big<=n)=>show LeF some (zS_M m row used) (zS_m n m row used)from (y7 (y8 rfl) (yT λ hx=>by apply yHD n hn;exact hx))) big (Nat.le_refl _)) h⟩
end
def yO(d:Nat):zS_a.den->Option zS_r.den:=Nat.rec (motive:=λ _=>zS_a.den->Option zS_r.den) (λ _=>none) (λ _ ih x=>@zS_M ⟨ih⟩ x.1 x.2.1 x.2.2.1) d
def y0r(d:Nat):Entry:={ f:=106,args:=zS_a,rS:=zS_r,m:=yO d }
theorem y1n:(d:Nat)->FnOK Tryz.prog (y0r d)
  |0=>FnOK.none (fn:=Tryz.f106) (by kernel_rfl) (by kernel_rfl) (by kernel_rfl)
  |d+1=>yPp (g:=@zS_g ⟨yO d⟩) (fn:=Tryz.f106) (e:=y0r (d+1)) yDi yMf (yG (y1n d) (yG yGO (yG yIZ (yG yFM eNil)))) (by kernel_rfl) (by kernel_rfl) (by kernel_rfl) (λ x y h=>let ⟨n,hn⟩:=@yRI ⟨yO d⟩ x.1 x.2.1 x.2.2.1 y h;⟨yQp n,iNil,(@yU5 ⟨yO d⟩ n x).trans hn⟩)
def zS_e:Entry:=y0r 8
theorem yTs:FnOK Tryz.prog zS_e:=y1n 8
def zW_m(n:Nat)(xp:Nat):Option (Int×Unit):=
  (bif y03 BinOp.neq FloatKind.f32 (yv BinOp.sub FloatKind.f32 xp xp) (nat_lit 0)then some ((1:Int),())else (bif y03 BinOp.lss FloatKind.f32 xp (nat_lit 3263168512)then some ((3:Int),())else (bif y03 BinOp.gtr FloatKind.f32 xp (nat_lit 1115684864)then some ((3:Int),())else ((zY_M xp).bind λ v2=>some ((z0Q (y03 BinOp.neq FloatKind.f32 (y0l FloatKind.f32 v2.1) (yv BinOp.mul FloatKind.f32 xp (nat_lit 1098907648))) (3:Int)).1,())))))
def zW_M(xp:Nat):Option (Int×Unit):=zW_m 0 xp
abbrev zW_e:Entry:={ f:=122,args:=.pair t44 .unit,rS:=.pair t38 .unit,m:=λ x=>zW_M x.1 }
theorem yRk:FnOK Tryz.prog zW_e:=fF 0 Tryz.f122 (λ n x=>zW_m n x.1) [] (yG ySc (yG yDf eNil))
def yOn(n:Nat)(np:Int)(least:Int)(most:Int):Option (Int×Unit):=
  (bif decide (np < least)then some ((z0Q Bool.true (3:Int)).1,())else some ((z0Q (decide (np > most)) (3:Int)).1,()))
def z01(np:Int)(least:Int)(most:Int):(Int×Unit):=
  (bif decide (np < least)then ((z0Q Bool.true (3:Int)).1,())else ((z0Q (decide (np > most)) (3:Int)).1,()))
abbrev yTH (np:Int) (least:Int) (most:Int):Option (Int×Unit):=some (z01 np least most)
abbrev z01_e:Entry:={ f:=127,args:=.pair t3 (.pair t3 (.pair t3 .unit)),rS:=.pair t38 .unit,m:=λ x=>yTH x.1 x.2.1 x.2.2.1 }
theorem yR6:FnOK Tryz.prog z01_e:=fF (hm:=by intro x;show some (z01 x.1 x.2.1 x.2.2.1)=yOn 0 x.1 x.2.1 x.2.2.1;unfold yOn z01;first|rfl|simp only[y06]) 0 Tryz.f127 (λ n x=>yOn n x.1 x.2.1 x.2.2.1) [] (yG yDf eNil)
def zB_m(n:Nat)(s:List (Q4))(f:(Q4)×Unit->Option (Bool×Unit)):Option (Bool×Unit):=
  ((zD_M s f).bind λ v0=>some (decide (v0.1 >= 0),()))
def zB_M(s:List (Q4))(f:(Q4)×Unit->Option (Bool×Unit)):Option (Bool×Unit):=zB_m 0 s f
abbrev zB_e:Entry:={ f:=130,args:=.pair t41 (.pair t195 .unit),rS:=.pair t4 .unit,m:=λ x=>zB_M x.1 x.2.1 }
theorem yTM:FnOK Tryz.prog zB_e:=fF 0 Tryz.f130 (λ n x=>zB_m n x.1 x.2.1) [] (yG yUH eNil)
def zC_m(n:Nat)(s:List Nat)(f:Nat×Unit->Option (Bool×Unit)):Option (Bool×Unit):=
  ((zE_M s f).bind λ v0=>some (decide (v0.1 >= 0),()))
def zC_M(s:List Nat)(f:Nat×Unit->Option (Bool×Unit)):Option (Bool×Unit):=zC_m 0 s f
abbrev zC_e:Entry:={ f:=133,args:=.pair t37 (.pair t197 .unit),rS:=.pair t4 .unit,m:=λ x=>zC_M x.1 x.2.1 }
theorem yUI:FnOK Tryz.prog zC_e:=fF 0 Tryz.f133 (λ n x=>zC_m n x.1 x.2.1) [] (yG yTE eNil)
def ze_m(n:Nat)(s:Q4):Option (Int×Unit):=
  (bif decide (s.1 < 0)then some ((z0Q Bool.true (14:Int)).1,())else (bif decide (s.1 >= s.2.1)then some ((z0Q Bool.true (14:Int)).1,())else some ((z0Q (decide (s.2.1 > 100000)) (14:Int)).1,())))
def ze(s:Q4):(Int×Unit):=
  (bif decide (s.1 < 0)then ((z0Q Bool.true (14:Int)).1,())else (bif decide (s.1 >= s.2.1)then ((z0Q Bool.true (14:Int)).1,())else ((z0Q (decide (s.2.1 > 100000)) (14:Int)).1,())))
abbrev ze_M (s:Q4):Option (Int×Unit):=some (ze s)
abbrev ze_e:Entry:={ f:=145,args:=.pair t46 .unit,rS:=.pair t38 .unit,m:=λ x=>ze_M x.1 }
theorem ySe:FnOK Tryz.prog ze_e:=fF (hm:=by intro x;show some (ze x.1)=ze_m 0 x.1;unfold ze_m ze;first|rfl|simp only[y06]) 0 Tryz.f145 (λ n x=>ze_m n x.1) [] (yG yDf eNil)
end
end Go.Tw
end
