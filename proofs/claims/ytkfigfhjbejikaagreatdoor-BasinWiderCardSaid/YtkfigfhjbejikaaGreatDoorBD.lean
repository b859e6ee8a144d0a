import Derived.Test.YtkfigfhjbejikaaGreatDoorBT
import Derived.Test.YtkfigfhjbejikaaGreatDoorB0
import Derived.Test.YtkfigfhjbejikaaGreatDoorBA
import Derived.Test.YtkfigfhjbejikaaGreatDoorBC
set_option linter.all false
open Go.IntKind (i64)
section
set_option maxRecDepth 1000000
namespace Go.Tw
open Go.Vx Go.Vx.B Go.Proofs
noncomputable section
def zZ_m(n:Nat)(l:Lnk)(p1:Bas):Option (Int×Unit):=
  ((zk_M l (↑p1.1.length:Int)).bind λ v0=>some (v0.1,()))
def zZ_M(l:Lnk)(p1:Bas):Option (Int×Unit):=zZ_m 0 l p1
abbrev zZ_e:Entry:={ f:=102,args:=.pair t163 (.pair (.ref t41) .unit),rS:=.pair t35 .unit,m:=λ x=>zZ_M x.1 x.2.1 }
theorem yRW:FnOK Tryz.prog zZ_e:=fF 0 Tryz.f102 (λ n x=>zZ_m n x.1 x.2.1) [] (yF yRg eNil)
def zL_m(n:Nat)(b:Bas)(l:List Rng):Option (Int×Unit):=
  ((zA_M l λ (z:Rng×Unit)=>zN_M b z.1).bind λ v0=>((y15 v0.1).bind λ v1=>((y15 [(z0e (decide ((↑l.length:Int) > 96)) (5:Int)).1,v1.1]).bind λ v2=>some (v2.1,()))))
def zL_M(b:Bas)(l:List Rng):Option (Int×Unit):=zL_m 0 b l
abbrev zL_e:Entry:={ f:=108,args:=.pair t41 (.pair t108 .unit),rS:=.pair t35 .unit,m:=λ x=>zL_M x.1 x.2.1 }
theorem yRZ:FnOK Tryz.prog zL_e:=fF 0 Tryz.f108 (λ n x=>zL_m n x.1 x.2.1) [] (yF y4S (yF yR8 (yF yRM (yF y4V eNil))))
end
end Go.Tw
end
section
set_option maxRecDepth 1000000
namespace Go.Tw
open Go.Vx Go.Vx.B Go.Proofs
noncomputable section
def yJI(n:Nat)(r1:Bas->List Nod->Int->Int->List (List UInt8×Bool)->Option (Int×Unit))(bG:Bas)(bc:List Nod)(bY:Int)(bU:Int)(bR:List (List UInt8×Bool)):Option (Int×Unit):=
  (bif decide (bU < bY)then ((idx bc bU).bind λ v2=>((yJ9 v2.1).bind λ v3=>((y15 [(z0e (!v3.1) (8:Int)).1,(z0e ((yZ Ty.str Ty.bool bR v2.1).getD Bool.false) (9:Int)).1,(z0E v2.2.1 (1:Int) (1000:Int)).1,(z0E v2.2.2.1 (0:Int) (1024:Int)).1]).bind λ v4=>(bif v4.1 != 0 then some (v4.1,())else r1 bG bc bY (i64.wrap (bU+1)) (y0a Ty.str Ty.bool bR v2.1 Bool.true)))))else (bif decide ((↑bG.2.1.length:Int) > 16)then some ((5:Int),())else ((zB_M bG.2.1 λ (x:Lnk×Unit)=>zZ_M x.1 bG).bind λ v5=>((y15 v5.1).bind λ v6=>some (v6.1,())))))
def yCW(n:Nat)(k:Nat)(bG:Bas)(bc:List Nod)(bY:Int)(bU:Int)(bR:List (List UInt8×Bool)):Option (Int×Unit):=
  iter (λ r y=>yJI n (λ bG bc bY bU bR=>r ((bG,(bc,(bY,(bU,())))),((bR,()),()))) y.1.1 y.1.2.1 y.1.2.2.1 y.1.2.2.2.1 y.2.1.1) k ((bG,(bc,(bY,(bU,())))),((bR,()),()))
def zj_m(n:Nat)(b:Bas):Option (Int×Unit):=
  ((y15 [(z0e ((↑b.1.length:Int)==0) (12:Int)).1,(z0e (decide ((↑b.1.length:Int) > 8)) (5:Int)).1]).bind λ v0=>(bif v0.1 != 0 then some (v0.1,())else (yCW n n (b) (b.1) ((↑b.1.length:Int)) ((0:Int)) ([]))))
def yIx(bG:Bas)(bc:List Nod)(bU:Int)(v2:Nod)(bR:List (List UInt8×Bool)):Option ((Int×Unit)⊕(List (List UInt8×Bool))):=
  ((yJ9 v2.1).bind λ v3=>((y15 [(z0e (!v3.1) (8:Int)).1,(z0e ((yZ Ty.str Ty.bool bR v2.1).getD Bool.false) (9:Int)).1,(z0E v2.2.1 (1:Int) (1000:Int)).1,(z0E v2.2.2.1 (0:Int) (1024:Int)).1]).bind λ v4=>(bif v4.1 != 0 then (some (Sum.inl ((v4.1,()))))else (some (Sum.inr (y0a Ty.str Ty.bool bR v2.1 Bool.true))))))
def yH3(bG:Bas)(bc:List Nod)(bR:List (List UInt8×Bool)):Option (Int×Unit):=
  (bif decide ((↑bG.2.1.length:Int) > 16)then (some (((5:Int),())))else ((zB_M bG.2.1 λ (x:Lnk×Unit)=>zZ_M x.1 bG).bind λ v5=>((y15 v5.1).bind λ v6=>(some ((v6.1,()))))))
theorem yHu(n:Nat)(hn:big<=n)(bG:Bas)(bc:List Nod)(bR:List (List UInt8×Bool))(hx:List.length (bc) < lenMax):LeF some (yL (λ aN bI a7=>yIx bG bc aN bI a7) (λ a7=>yH3 bG bc a7) 0 (bc) bR) (yCW n n bG bc (List.length (bc):Int) 0 bR):=by
  refine yP (f:=some) (W:=λ bN aN a7=>yCW n bN bG bc (List.length (bc):Int) aN a7) (λ bN aN a7=>?_) hx bR n (by unfold big at hn;unfold lenMax at hx;omega)
  show LeF _ _ (yJI n (yCW n bN) bG bc (List.length (bc):Int) aN a7)
  exact y7 (y9 λ v2=>(y9 λ v3=>(y9 λ v4=>(y7 (y8 rfl) (y8 rfl))))) (y06 (y7 (y8 rfl) (y9 λ v5=>(y9 λ v6=>(y8 rfl)))))
def zj_M(b:Bas):Option (Int×Unit):=
  ((y15 [(z0e ((↑b.1.length:Int)==0) (12:Int)).1,(z0e (decide ((↑b.1.length:Int) > 8)) (5:Int)).1]).bind λ v0=>(bif v0.1 != 0 then (some ((v0.1,())))else (bif decide (List.length (b.1) < lenMax)then yL (λ aN bI a7=>yIx (b) (b.1) aN bI a7) (λ a7=>yH3 (b) (b.1) a7) 0 (b.1) ([])else none)))
abbrev zj_e:Entry:={ f:=39,args:=.pair t41 .unit,rS:=.pair t35 .unit,m:=λ x=>zj_M x.1 }
theorem yOt:FnOK Tryz.prog zj_e:=fB (mu:=[23]) Tryz.f39 (λ n x=>zj_m n x.1) [[1,4,25,26,27]] (yF y4S (yF y4V (yF yPj (yF y95 (yF yRW (yF yRF eNil)))))) λ n hn x=>(y9 λ v0=>(y7 (y8 rfl) (yO λ hx=>by apply yHu n hn;exact hx)))
end
end Go.Tw
end
section
set_option maxRecDepth 1000000
namespace Go.Tw
open Go.Vx Go.Vx.B Go.Proofs
noncomputable section
def za_m(n:Nat)(b:Bas)(v:List Int):Option (Int×Unit):=
  ((zj_M b).bind λ v0=>((zJ_M b v).bind λ v1=>((y15 [v0.1,v1.1]).bind λ v2=>some (v2.1,()))))
def za_M(b:Bas)(v:List Int):Option (Int×Unit):=za_m 0 b v
abbrev za_e:Entry:={ f:=40,args:=.pair t41 (.pair t26 .unit),rS:=.pair t35 .unit,m:=λ x=>za_M x.1 x.2.1 }
theorem yJ3:FnOK Tryz.prog za_e:=fF 0 Tryz.f40 (λ n x=>za_m n x.1 x.2.1) [] (yF yOt (yF yRi (yF y4V eNil)))
def zR_m(n:Nat)(b:Bas)(v:List (Int×Int×Unit))(l:List Rng):Option (Int×Unit):=
  ((zj_M b).bind λ v0=>(bif v0.1 != 0 then some (v0.1,())else ((z8_M v λ (x:(Int×Int×Unit)×Unit)=>zP_M x.1 λ (x:Int×Unit)=>zO_M x.1).bind λ v1=>((y15 v1.1).bind λ v2=>((zL_M b l).bind λ v3=>((y15 [(z0e ((↑v.length:Int) != (↑b.1.length:Int)) (2:Int)).1,v2.1,v3.1]).bind λ v4=>some (v4.1,())))))))
def zR_M(b:Bas)(v:List (Int×Int×Unit))(l:List Rng):Option (Int×Unit):=zR_m 0 b v l
abbrev zR_e:Entry:={ f:=117,args:=.pair t41 (.pair t97 (.pair t108 .unit)),rS:=.pair t35 .unit,m:=λ x=>zR_M x.1 x.2.1 x.2.2.1 }
theorem yOi:FnOK Tryz.prog zR_e:=fF 0 Tryz.f117 (λ n x=>zR_m n x.1 x.2.1 x.2.2.1) [] (yF yRa (yF yRe (yF yOt (yF y4S (yF yPb (yF y4V (yF yRZ eNil)))))))
def il163:Inl:={ f:=163,fn:=Tryz.f163,keep:=[],mU:=[4],fz:=[] }
theorem yMz:y31 Tryz.prog il163:=⟨by kernel_rfl,by kernel_rfl,λ e0 h=>by cases (show (none:Option LibK)=some e0 from h)⟩
def il162:Inl:={ f:=162,fn:=Tryz.f162,keep:=[],mU:=[],fz:=[] }
theorem yMU:y31 Tryz.prog il162:=⟨by kernel_rfl,by kernel_rfl,λ e0 h=>by cases (show (none:Option LibK)=some e0 from h)⟩
def il185:Inl:={ f:=185,fn:=Tryz.f185,keep:=[],mU:=[2],fz:=[] }
theorem yMF:y31 Tryz.prog il185:=⟨by kernel_rfl,by kernel_rfl,λ e0 h=>by cases (show (none:Option LibK)=some e0 from h)⟩
def il186:Inl:={ f:=186,fn:=Tryz.f186,keep:=[[0,2,3,10,11,12,34,35]],mU:=[],fz:=[] }
theorem yM0:y31 Tryz.prog il186:=⟨by kernel_rfl,by kernel_rfl,λ e0 h=>by cases (show (none:Option LibK)=some e0 from h)⟩
def yIr(n:Nat)(r0:Bas->List Cnd->Int->Int->List Cnd->Bas->List Cnd->Bas->List Int->List Psg->List Cnd->Bas->List Cnd->Bas->List Cnd->Bas->List Cnd->Bas->Bas->List Int->List Cnd->Bas->Int->Bas->List Int->List Cnd->List Cnd->Bas->Option (List Psg×Int×Unit))(bJ:Bas)(b7:List Cnd)(bX:Int)(bS:Int)(af:List Cnd)(ah:Bas)(ai:List Cnd)(aj:Bas)(br:List Int)(a8:List Psg)(bd:List Cnd)(be:Bas)(bf:List Cnd)(bg:Bas)(aC:List Cnd)(aD:Bas)(aE:List Cnd)(aF:Bas)(bv:Bas)(bw:List Int)(bx:List Cnd)(bz:Bas)(bA:Int)(bB:Bas)(bC:List Int)(bD:List Cnd)(aG:List Cnd)(aH:Bas):Option (List Psg×Int×Unit):=
  (bif decide (bS < bX)then ((idx b7 bS).bind λ v1=>((zi_M bJ br (v1.1,v1.2.1,v1.2.2.1,())).bind λ v2=>(bif !v2.2.2.1 then (bif decide (a8.length+(1:Nat)<=memMax)then (bif !v2.2.2.1 then (bif decide ((↑(a8++[((v1.1,v1.2.1,v1.2.2.1,()),v2.1,Option.none,())]).length:Int) > 0)then ((idx (a8++[((v1.1,v1.2.1,v1.2.2.1,()),v2.1,Option.none,())]) (i64.wrap ((↑(a8++[((v1.1,v1.2.1,v1.2.2.1,()),v2.1,Option.none,())]).length:Int) - (1:Int)))).bind λ v11=>(((a8++[((v1.1,v1.2.1,v1.2.2.1,()),v2.1,Option.none,())])[(i64.wrap ((↑(a8++[((v1.1,v1.2.1,v1.2.2.1,()),v2.1,Option.none,())]).length:Int) - (1:Int))).toNat]?).bind λ v12=>(bif v12.2.2.1.isNone then some ([],(4:Int),())else some (a8++[((v1.1,v1.2.1,v1.2.2.1,()),v2.1,Option.none,())],(0:Int),()))))else some (a8++[((v1.1,v1.2.1,v1.2.2.1,()),v2.1,Option.none,())],(0:Int),()))else r0 bJ b7 bX (i64.wrap (bS+1)) af ah ai aj [] (a8++[((v1.1,v1.2.1,v1.2.2.1,()),v2.1,Option.none,())]) bd be bf bg aC aD aE aF bv bw bx bz bA bB bC bD aG aH)else none)else (bif decide (a8.length+(1:Nat)<=memMax)then (bif !v2.2.2.1 then (bif decide ((↑(a8++[((v1.1,v1.2.1,v1.2.2.1,()),v2.1,v2.2.1,())]).length:Int) > 0)then ((idx (a8++[((v1.1,v1.2.1,v1.2.2.1,()),v2.1,v2.2.1,())]) (i64.wrap ((↑(a8++[((v1.1,v1.2.1,v1.2.2.1,()),v2.1,v2.2.1,())]).length:Int) - (1:Int)))).bind λ v17=>(((a8++[((v1.1,v1.2.1,v1.2.2.1,()),v2.1,v2.2.1,())])[(i64.wrap ((↑(a8++[((v1.1,v1.2.1,v1.2.2.1,()),v2.1,v2.2.1,())]).length:Int) - (1:Int))).toNat]?).bind λ v18=>(bif v18.2.2.1.isNone then some ([],(4:Int),())else some (a8++[((v1.1,v1.2.1,v1.2.2.1,()),v2.1,v2.2.1,())],(0:Int),()))))else some (a8++[((v1.1,v1.2.1,v1.2.2.1,()),v2.1,v2.2.1,())],(0:Int),()))else r0 bJ b7 bX (i64.wrap (bS+1)) af ah ai aj (v2.2.1.getD []) (a8++[((v1.1,v1.2.1,v1.2.2.1,()),v2.1,v2.2.1,())]) bd be bf bg aC aD aE aF bv bw bx bz bA bB bC bD aG aH)else none))))else (bif decide ((↑a8.length:Int) > 0)then ((idx a8 (i64.wrap ((↑a8.length:Int) - (1:Int)))).bind λ v23=>((a8[(i64.wrap ((↑a8.length:Int) - (1:Int))).toNat]?).bind λ v24=>(bif v24.2.2.1.isNone then some ([],(4:Int),())else some (a8,(0:Int),()))))else some (a8,(0:Int),())))
def yC1(n:Nat)(k:Nat)(bJ:Bas)(b7:List Cnd)(bX:Int)(bS:Int)(af:List Cnd)(ah:Bas)(ai:List Cnd)(aj:Bas)(br:List Int)(a8:List Psg)(bd:List Cnd)(be:Bas)(bf:List Cnd)(bg:Bas)(aC:List Cnd)(aD:Bas)(aE:List Cnd)(aF:Bas)(bv:Bas)(bw:List Int)(bx:List Cnd)(bz:Bas)(bA:Int)(bB:Bas)(bC:List Int)(bD:List Cnd)(aG:List Cnd)(aH:Bas):Option (List Psg×Int×Unit):=
  iter (λ r y=>yIr n (λ bJ b7 bX bS af ah ai aj br a8 bd be bf bg aC aD aE aF bv bw bx bz bA bB bC bD aG aH=>r ((bJ,(b7,(bX,(bS,())))),((((af,(ah,())),((ai,(aj,())),())),((br,()),((),(a8,())))),((bd,(be,())),((bf,(bg,())),((aC,(aD,())),((aE,(aF,())),(bv,(bw,(bx,(bz,(bA,(bB,(bC,(bD,((aG,(aH,())),())))))))))))))))) y.1.1 y.1.2.1 y.1.2.2.1 y.1.2.2.2.1 y.2.1.1.1.1 y.2.1.1.1.2.1 y.2.1.1.2.1.1 y.2.1.1.2.1.2.1 y.2.1.2.1.1 y.2.1.2.2.2.1 y.2.2.1.1 y.2.2.1.2.1 y.2.2.2.1.1 y.2.2.2.1.2.1 y.2.2.2.2.1.1 y.2.2.2.2.1.2.1 y.2.2.2.2.2.1.1 y.2.2.2.2.2.1.2.1 y.2.2.2.2.2.2.1 y.2.2.2.2.2.2.2.1 y.2.2.2.2.2.2.2.2.1 y.2.2.2.2.2.2.2.2.2.1 y.2.2.2.2.2.2.2.2.2.2.1 y.2.2.2.2.2.2.2.2.2.2.2.1 y.2.2.2.2.2.2.2.2.2.2.2.2.1 y.2.2.2.2.2.2.2.2.2.2.2.2.2.1 y.2.2.2.2.2.2.2.2.2.2.2.2.2.2.1.1 y.2.2.2.2.2.2.2.2.2.2.2.2.2.2.1.2.1) k ((bJ,(b7,(bX,(bS,())))),((((af,(ah,())),((ai,(aj,())),())),((br,()),((),(a8,())))),((bd,(be,())),((bf,(bg,())),((aC,(aD,())),((aE,(aF,())),(bv,(bw,(bx,(bz,(bA,(bB,(bC,(bD,((aG,(aH,())),())))))))))))))))
def zt_m(n:Nat)(b:Bas)(v:List Int)(l:List Cnd):Option (List Psg×Int×Unit):=
  (yC1 n n (b) (l) ((↑l.length:Int)) ((0:Int)) (l) (b) (l) (b) (v) ([]) (l) (b) (l) (b) (l) (b) (l) (b) (b) (v) (l) (b) ((0:Int)) (b) (v) (l) (l) (b))
def yCL(bJ:Bas)(b7:List Cnd)(af:List Cnd)(ah:Bas)(ai:List Cnd)(aj:Bas)(bd:List Cnd)(be:Bas)(bf:List Cnd)(bg:Bas)(aC:List Cnd)(aD:Bas)(aE:List Cnd)(aF:Bas)(bv:Bas)(bw:List Int)(bx:List Cnd)(bz:Bas)(bA:Int)(bB:Bas)(bC:List Int)(bD:List Cnd)(aG:List Cnd)(aH:Bas)(bS:Int)(v1:Cnd)(br:List Int)(a8:List Psg):Option ((List Psg×Int×Unit)⊕(List Int×List Psg)):=
  ((zi_M bJ br (v1.1,v1.2.1,v1.2.2.1,())).bind λ v2=>(bif !v2.2.2.1 then (bif decide (a8.length+(1:Nat)<=memMax)then (bif !v2.2.2.1 then (bif decide ((↑(a8++[((v1.1,v1.2.1,v1.2.2.1,()),v2.1,Option.none,())]).length:Int) > 0)then ((idx (a8++[((v1.1,v1.2.1,v1.2.2.1,()),v2.1,Option.none,())]) (i64.wrap ((↑(a8++[((v1.1,v1.2.1,v1.2.2.1,()),v2.1,Option.none,())]).length:Int) - (1:Int)))).bind λ v11=>(((a8++[((v1.1,v1.2.1,v1.2.2.1,()),v2.1,Option.none,())])[(i64.wrap ((↑(a8++[((v1.1,v1.2.1,v1.2.2.1,()),v2.1,Option.none,())]).length:Int) - (1:Int))).toNat]?).bind λ v12=>(bif v12.2.2.1.isNone then (some (Sum.inl (([],(4:Int),()))))else (some (Sum.inl ((a8++[((v1.1,v1.2.1,v1.2.2.1,()),v2.1,Option.none,())],(0:Int),())))))))else (some (Sum.inl ((a8++[((v1.1,v1.2.1,v1.2.2.1,()),v2.1,Option.none,())],(0:Int),())))))else (some (Sum.inr (([]),(a8++[((v1.1,v1.2.1,v1.2.2.1,()),v2.1,Option.none,())])))))else none)else (bif decide (a8.length+(1:Nat)<=memMax)then (bif !v2.2.2.1 then (bif decide ((↑(a8++[((v1.1,v1.2.1,v1.2.2.1,()),v2.1,v2.2.1,())]).length:Int) > 0)then ((idx (a8++[((v1.1,v1.2.1,v1.2.2.1,()),v2.1,v2.2.1,())]) (i64.wrap ((↑(a8++[((v1.1,v1.2.1,v1.2.2.1,()),v2.1,v2.2.1,())]).length:Int) - (1:Int)))).bind λ v17=>(((a8++[((v1.1,v1.2.1,v1.2.2.1,()),v2.1,v2.2.1,())])[(i64.wrap ((↑(a8++[((v1.1,v1.2.1,v1.2.2.1,()),v2.1,v2.2.1,())]).length:Int) - (1:Int))).toNat]?).bind λ v18=>(bif v18.2.2.1.isNone then (some (Sum.inl (([],(4:Int),()))))else (some (Sum.inl ((a8++[((v1.1,v1.2.1,v1.2.2.1,()),v2.1,v2.2.1,())],(0:Int),())))))))else (some (Sum.inl ((a8++[((v1.1,v1.2.1,v1.2.2.1,()),v2.1,v2.2.1,())],(0:Int),())))))else (some (Sum.inr ((v2.2.1.getD []),(a8++[((v1.1,v1.2.1,v1.2.2.1,()),v2.1,v2.2.1,())])))))else none)))
def yJo(bJ:Bas)(b7:List Cnd)(af:List Cnd)(ah:Bas)(ai:List Cnd)(aj:Bas)(bd:List Cnd)(be:Bas)(bf:List Cnd)(bg:Bas)(aC:List Cnd)(aD:Bas)(aE:List Cnd)(aF:Bas)(bv:Bas)(bw:List Int)(bx:List Cnd)(bz:Bas)(bA:Int)(bB:Bas)(bC:List Int)(bD:List Cnd)(aG:List Cnd)(aH:Bas)(br:List Int)(a8:List Psg):Option (List Psg×Int×Unit):=
  (bif decide ((↑a8.length:Int) > 0)then ((idx a8 (i64.wrap ((↑a8.length:Int) - (1:Int)))).bind λ v23=>((a8[(i64.wrap ((↑a8.length:Int) - (1:Int))).toNat]?).bind λ v24=>(bif v24.2.2.1.isNone then (some (([],(4:Int),())))else (some ((a8,(0:Int),()))))))else (some ((a8,(0:Int),()))))
theorem yIL(n:Nat)(hn:big<=n)(bJ:Bas)(b7:List Cnd)(af:List Cnd)(ah:Bas)(ai:List Cnd)(aj:Bas)(bd:List Cnd)(be:Bas)(bf:List Cnd)(bg:Bas)(aC:List Cnd)(aD:Bas)(aE:List Cnd)(aF:Bas)(bv:Bas)(bw:List Int)(bx:List Cnd)(bz:Bas)(bA:Int)(bB:Bas)(bC:List Int)(bD:List Cnd)(aG:List Cnd)(aH:Bas)(br:List Int)(a8:List Psg)(hx:List.length (b7) < lenMax):LeF some (yL (λ aN bI a7=>yCL bJ b7 af ah ai aj bd be bf bg aC aD aE aF bv bw bx bz bA bB bC bD aG aH aN bI a7.1 a7.2) (λ a7=>yJo bJ b7 af ah ai aj bd be bf bg aC aD aE aF bv bw bx bz bA bB bC bD aG aH a7.1 a7.2) 0 (b7) (br,a8)) (yC1 n n bJ b7 (List.length (b7):Int) 0 af ah ai aj br a8 bd be bf bg aC aD aE aF bv bw bx bz bA bB bC bD aG aH):=by
  refine yP (f:=some) (W:=λ bN aN a7=>yC1 n bN bJ b7 (List.length (b7):Int) aN af ah ai aj a7.1 a7.2 bd be bf bg aC aD aE aF bv bw bx bz bA bB bC bD aG aH) (λ bN aN a7=>?_) hx (br,a8) n (by unfold big at hn;unfold lenMax at hx;omega)
  show LeF _ _ (yIr n (yC1 n bN) bJ b7 (List.length (b7):Int) aN af ah ai aj a7.1 a7.2 bd be bf bg aC aD aE aF bv bw bx bz bA bB bC bD aG aH)
  exact y7 (y9 λ v1=>(y9 λ v2=>(y7 (y7 (y7 (y7 (y9 λ v11=>(y9 λ v12=>(y7 (y8 rfl) (y8 rfl)))) (y8 rfl)) (y8 rfl)) y0H) (y7 (y7 (y7 (y9 λ v17=>(y9 λ v18=>(y7 (y8 rfl) (y8 rfl)))) (y8 rfl)) (y8 rfl)) y0H)))) (y06 (y7 (y9 λ v23=>(y9 λ v24=>(y7 (y8 rfl) (y8 rfl)))) (y8 rfl)))
def zt_M(b:Bas)(v:List Int)(l:List Cnd):Option (List Psg×Int×Unit):=
  (bif decide (List.length (l) < lenMax)then yL (λ aN bI a7=>yCL (b) (l) (l) (b) (l) (b) (l) (b) (l) (b) (l) (b) (l) (b) (b) (v) (l) (b) ((0:Int)) (b) (v) (l) (l) (b) aN bI a7.1 a7.2) (λ a7=>yJo (b) (l) (l) (b) (l) (b) (l) (b) (l) (b) (l) (b) (l) (b) (b) (v) (l) (b) ((0:Int)) (b) (v) (l) (l) (b) a7.1 a7.2) 0 (l) ((v),([]))else none)
abbrev zt_e:Entry:={ f:=118,args:=.pair t41 (.pair t26 (.pair t54 .unit)),rS:=.pair t167 (.pair t35 .unit),m:=λ x=>zt_M x.1 x.2.1 x.2.2.1 }
theorem yNc:FnOK Tryz.prog zt_e:=fBI Tryz.f118 (λ n x=>zt_m n x.1 x.2.1 x.2.2.1) [] [il163,il162,il185,il186] 8 (yF yQd eNil) (y7g yMz (y7g yMU (y7g yMF (y7g yM0 iNil)))) λ n hn x=>(yO λ hx=>by apply yIL n hn;exact hx)
end
end Go.Tw
end
section
set_option maxRecDepth 1000000
namespace Go.Tw
open Go.Vx Go.Vx.B Go.Proofs
noncomputable section
def yCm(n:Nat)(r18:Int->Int->Bas->Cnd->List Int->Int->Option (Int×Int×Unit))(ac:Int)(aa:Int)(bn:Bas)(bt:Cnd)(ak:List Int)(bu:Int):Option (Int×Int×Unit):=
  (bif decide (bu < 97)then ((idx bn.1 ac).bind λ v19=>((idx ak ac).bind λ v20=>((zl_M v19 v20).bind λ v21=>(bif decide (v21.1 >= aa)then some (bu,(0:Int),())else (bif bu==96 then some ((0:Int),(7:Int),())else ((zi_M bn ak bt).bind λ v22=>(bif !v22.2.2.1 then some ((0:Int),(4:Int),())else r18 ac aa bn bt (v22.2.1.getD []) (i64.wrap (bu+1)))))))))else some ((0:Int),(7:Int),()))
def y67(n:Nat)(k:Nat)(ac:Int)(aa:Int)(bn:Bas)(bt:Cnd)(ak:List Int)(bu:Int):Option (Int×Int×Unit):=
  iter (λ r y=>yCm n (λ ac aa bn bt ak bu=>r ((ac,(aa,(bn,(bt,(ak,(bu,())))))),((),()))) y.1.1 y.1.2.1 y.1.2.2.1 y.1.2.2.2.1 y.1.2.2.2.2.1 y.1.2.2.2.2.2.1) k ((ac,(aa,(bn,(bt,(ak,(bu,())))))),((),()))
def y9Y(n:Nat)(b:Bas)(v:List Int)(c:Cnd)(node:Int)(level:Int):Option (Int×Int×Unit):=
  (y67 n n (node) (level) (b) (c) (v) ((0:Int)))
def yRS(n:Nat)(b:Bas)(v:List Int)(c:Cnd)(node:Int)(level:Int):Option (Int×Int×Unit):=
  ((za_M b v).bind λ v0=>((zF_M b c).bind λ v1=>(bif decide (node < 0)then ((y15 [v0.1,v1.1,(z0e Bool.true (10:Int)).1,(z0E level (0:Int) (1024:Int)).1]).bind λ v2=>(bif v2.1 != 0 then some ((0:Int),v2.1,())else (y9Y n b v c node level)))else ((y15 [v0.1,v1.1,(z0e (decide (node >= (↑b.1.length:Int))) (10:Int)).1,(z0E level (0:Int) (1024:Int)).1]).bind λ v3=>(bif v3.1 != 0 then some ((0:Int),v3.1,())else (y9Y n b v c node level))))))
def yKD(ac:Int)(aa:Int)(bn:Bas)(bt:Cnd)(bu:Int)(ak:List Int):Option ((Int×Int×Unit)⊕(List Int)):=
  ((idx bn.1 ac).bind λ v19=>((idx ak ac).bind λ v20=>((zl_M v19 v20).bind λ v21=>(bif decide (v21.1 >= aa)then (some (Sum.inl ((bu,(0:Int),()))))else (bif bu==96 then (some (Sum.inl (((0:Int),(7:Int),()))))else ((zi_M bn ak bt).bind λ v22=>(bif !v22.2.2.1 then (some (Sum.inl (((0:Int),(4:Int),()))))else (some (Sum.inr (v22.2.1.getD []))))))))))
def yLS(ac:Int)(aa:Int)(bn:Bas)(bt:Cnd)(ak:List Int):Option (Int×Int×Unit):=
  (some (((0:Int),(7:Int),())))
theorem yDE(n:Nat)(hn:big<=n)(ac:Int)(aa:Int)(bn:Bas)(bt:Cnd)(ak:List Int)(hx:((97:Int))<=9223372036854775807):LeF some (y0I (λ aN a7=>yKD ac aa bn bt aN a7) (λ a7=>yLS ac aa bn bt a7) (((97:Int)) - 0).toNat 0 ak) (y67 n n ac aa bn bt ak 0):=by
  refine y2F (f:=some) (W:=λ bN aN a7=>y67 n bN ac aa bn bt a7 aN) (λ bN aN a7=>?_) hx ak n 0 (by decide) (by unfold big at hn;omega)
  show LeF _ _ (yCm n (y67 n bN) ac aa bn bt a7 aN)
  exact y7 (y9 λ v19=>(y9 λ v20=>(y9 λ v21=>(y7 (y8 rfl) (y7 (y8 rfl) (y9 λ v22=>(y7 (y8 rfl) (y8 rfl)))))))) (y06 (y8 rfl))
def yFT(b:Bas)(v:List Int)(c:Cnd)(node:Int)(level:Int):Option (Int×Int×Unit):=
  (bif decide (((97:Int))<=9223372036854775807)then y0I (λ aN a7=>yKD (node) (level) (b) (c) aN a7) (λ a7=>yLS (node) (level) (b) (c) a7) (((97:Int)) - 0).toNat 0 (v)else none)
theorem y38(n:Nat)(hn:big<=n)(b:Bas)(v:List Int)(c:Cnd)(node:Int)(level:Int):LeF some (yFT b v c node level) (y9Y n b v c node level):=
  (yO λ hx=>by apply yDE n hn;exact hx)
def yQD(b:Bas)(v:List Int)(c:Cnd)(node:Int)(level:Int):Option (Int×Int×Unit):=
  ((za_M b v).bind λ v0=>((zF_M b c).bind λ v1=>(bif decide (node < 0)then ((y15 [v0.1,v1.1,(z0e Bool.true (10:Int)).1,(z0E level (0:Int) (1024:Int)).1]).bind λ v2=>(bif v2.1 != 0 then (some (((0:Int),v2.1,())))else (yFT b v c node level)))else ((y15 [v0.1,v1.1,(z0e (decide (node >= (↑b.1.length:Int))) (10:Int)).1,(z0E level (0:Int) (1024:Int)).1]).bind λ v3=>(bif v3.1 != 0 then (some (((0:Int),v3.1,())))else (yFT b v c node level))))))
abbrev z0O_e:Entry:={ f:=18,args:=.pair t41 (.pair t26 (.pair t44 (.pair t3 (.pair t3 .unit)))),rS:=.pair t3 (.pair t35 .unit),m:=λ x=>yQD x.1 x.2.1 x.2.2.1 x.2.2.2.1 x.2.2.2.2.1 }
theorem yQP:FnOK Tryz.prog z0O_e:=fB Tryz.f18 (λ n x=>yRS n x.1 x.2.1 x.2.2.1 x.2.2.2.1 x.2.2.2.2.1) [[3,4,5,7,13,42]] (yF yJ3 (yF yPm (yF y4S (yF y95 (yF y4V (yF yPS (yF yQd eNil))))))) λ n hn x=>(y9 λ v0=>(y9 λ v1=>(y7 (y9 λ v2=>(y7 (y8 rfl) (by apply y38 n hn))) (y9 λ v3=>(y7 (y8 rfl) (by apply y38 n hn))))))
def yPh(n:Nat)(b:Bas)(v:List Int):Option (List Int×Int×Unit):=
  ((za_M b v).bind λ v0=>(bif v0.1 != 0 then some ([],v0.1,())else ((zX_M b v).bind λ v1=>some (v1.1,(0:Int),()))))
def yQL(b:Bas)(v:List Int):Option (List Int×Int×Unit):=yPh 0 b v
abbrev z0D_e:Entry:={ f:=29,args:=.pair t41 (.pair t26 .unit),rS:=.pair t26 (.pair t35 .unit),m:=λ x=>yQL x.1 x.2.1 }
theorem yPg:FnOK Tryz.prog z0D_e:=fF 0 Tryz.f29 (λ n x=>yPh n x.1 x.2.1) [] (yF yJ3 (yF yPu eNil))
def yPr(n:Nat)(b:Bas)(v:List Int):Option (List Int×Int×Unit):=
  ((za_M b v).bind λ v0=>(bif v0.1 != 0 then some ([],v0.1,())else ((zd_M b v).bind λ v1=>some (v1.1,(0:Int),()))))
def yPa(b:Bas)(v:List Int):Option (List Int×Int×Unit):=yPr 0 b v
abbrev z0L_e:Entry:={ f:=30,args:=.pair t41 (.pair t26 .unit),rS:=.pair t26 (.pair t35 .unit),m:=λ x=>yPa x.1 x.2.1 }
theorem yQ5:FnOK Tryz.prog z0L_e:=fF 0 Tryz.f30 (λ n x=>yPr n x.1 x.2.1) [] (yF yJ3 (yF yQp eNil))
def yMn(n:Nat)(r1:List Int->List Nod->Int->Int->List Int->Option (List Int×Int×Unit))(ci:List Int)(bZ:List Nod)(ca:Int)(bV:Int)(cg:List Int):Option (List Int×Int×Unit):=
  (bif decide (bV < ca)then ((idx bZ bV).bind λ v2=>((idx ci bV).bind λ v3=>(bif decide (cg.length+(1:Nat)<=memMax)then r1 ci bZ ca (i64.wrap (bV+1)) (cg++[if i64.wrap (i64.wrap (i64.wrap (v2.2.1 * i64.wrap (v2.2.2.1+1)) - (1:Int)) - v3) > (-1:Int)then i64.wrap (i64.wrap (i64.wrap (v2.2.1 * i64.wrap (v2.2.2.1+1)) - (1:Int)) - v3)else (-1:Int)])else none)))else some (cg,(0:Int),()))
def yMl(n:Nat)(k:Nat)(ci:List Int)(bZ:List Nod)(ca:Int)(bV:Int)(cg:List Int):Option (List Int×Int×Unit):=
  iter (λ r y=>yMn n (λ ci bZ ca bV cg=>r ((ci,(bZ,(ca,(bV,())))),((cg,()),()))) y.1.1 y.1.2.1 y.1.2.2.1 y.1.2.2.2.1 y.2.1.1) k ((ci,(bZ,(ca,(bV,())))),((cg,()),()))
def yPc(n:Nat)(b:Bas)(v:List Int):Option (List Int×Int×Unit):=
  ((za_M b v).bind λ v0=>(bif v0.1 != 0 then some ([],v0.1,())else (yMl n n (v) (b.1) ((↑b.1.length:Int)) ((0:Int)) ([]))))
def yQk(b:Bas)(v:List Int):Option (List Int×Int×Unit):=yPc 1000 b v
abbrev z0b_e:Entry:={ f:=31,args:=.pair t41 (.pair t26 .unit),rS:=.pair t26 (.pair t35 .unit),m:=λ x=>yQk x.1 x.2.1 }
theorem yQf:FnOK Tryz.prog z0b_e:=fF (mu:=[7]) 1000 Tryz.f31 (λ n x=>yPc n x.1 x.2.1) [[1,7,17,18,19]] (yF yJ3 eNil)
def yG2(n:Nat)(r7:List Psg->List Psg->Int->Int->List (List (Int×Int×Unit))->Option (List (List (Int×Int×Unit))×Int×Unit))(r9:List Psg->Int->List Psg->Int->Int->List Int->Int->Int->List (List (Int×Int×Unit))->List (Int×Int×Unit)->Option (List (List (Int×Int×Unit))×Int×Unit))(ae:List Psg)(bp:Int)(bi:List Psg)(bj:Int)(bl:Int)(aO:List Int)(cb:Int)(bL:Int)(bH:List (List (Int×Int×Unit)))(bK:List (Int×Int×Unit)):Option (List (List (Int×Int×Unit))×Int×Unit):=
  (bif decide (bL < cb)then ((idx aO bL).bind λ v10=>((idx ae bp).bind λ v11=>((idx (v11.2.2.1.getD []) bL).bind λ v12=>(bif decide (bK.length+(1:Nat)<=memMax)then r9 ae bp bi bj bl aO cb (i64.wrap (bL+1)) bH (bK++[(v10,v12,())])else none))))else (bif decide (bH.length+(1:Nat)<=memMax)then r7 ae bi bj (i64.wrap (bl+1)) (bH++[bK])else none))
def y7q(n:Nat)(r7:List Psg->List Psg->Int->Int->List (List (Int×Int×Unit))->Option (List (List (Int×Int×Unit))×Int×Unit))(k:Nat)(ae:List Psg)(bp:Int)(bi:List Psg)(bj:Int)(bl:Int)(aO:List Int)(cb:Int)(bL:Int)(bH:List (List (Int×Int×Unit)))(bK:List (Int×Int×Unit)):Option (List (List (Int×Int×Unit))×Int×Unit):=
  iter (λ r y=>yG2 n r7 (λ ae bp bi bj bl aO cb bL bH bK=>r ((ae,(bp,(bi,(bj,(bl,(aO,(cb,(bL,())))))))),((bH,(bK,())),()))) y.1.1 y.1.2.1 y.1.2.2.1 y.1.2.2.2.1 y.1.2.2.2.2.1 y.1.2.2.2.2.2.1 y.1.2.2.2.2.2.2.1 y.1.2.2.2.2.2.2.2.1 y.2.1.1 y.2.1.2.1) k ((ae,(bp,(bi,(bj,(bl,(aO,(cb,(bL,())))))))),((bH,(bK,())),()))
def yFy(n:Nat)(r7:List Psg->List Psg->Int->Int->List (List (Int×Int×Unit))->Option (List (List (Int×Int×Unit))×Int×Unit))(aB:List Psg)(aJ:List Psg)(cc:Int)(bE:Int)(bO:List (List (Int×Int×Unit))):Option (List (List (Int×Int×Unit))×Int×Unit):=
  (bif decide (bE < cc)then ((idx aJ bE).bind λ v8=>(y7q n r7 n (aB) (bE) (aJ) (cc) (bE) (v8.2.2.1.getD []) ((↑(v8.2.2.1.getD []).length:Int)) ((0:Int)) (bO) ([])))else some (bO,(0:Int),()))
def y7p(n:Nat)(k:Nat)(aB:List Psg)(aJ:List Psg)(cc:Int)(bE:Int)(bO:List (List (Int×Int×Unit))):Option (List (List (Int×Int×Unit))×Int×Unit):=
  iter (λ r y=>yFy n (λ aB aJ cc bE bO=>r ((aB,(aJ,(cc,(bE,())))),((bO,()),()))) y.1.1 y.1.2.1 y.1.2.2.1 y.1.2.2.2.1 y.2.1.1) k ((aB,(aJ,(cc,(bE,())))),((bO,()),()))
def yRm(n:Nat)(b:Bas)(v:List (Int×Int×Unit))(l:List Rng):Option (List (List (Int×Int×Unit))×Int×Unit):=
  ((zR_M b v l).bind λ v0=>(bif v0.1 != 0 then some ([],v0.1,())else ((yBJ v (1:Int)).bind λ v1=>((z6_M l λ (x:Rng×Unit)=>zc_M x.1).bind λ v2=>((zt_M b v1.1 v2.1).bind λ v3=>(bif v3.2.1 != 0 then some ([],v3.2.1,())else ((yBJ v (0:Int)).bind λ v4=>((z6_M l λ (x:Rng×Unit)=>ze_M x.1).bind λ v5=>((zt_M b v4.1 v5.1).bind λ v6=>(bif v6.2.1 != 0 then some ([],v6.2.1,())else (y7p n n (v3.1) (v6.1) ((↑v6.1.length:Int)) ((0:Int)) ([]))))))))))))
def yAY(ae:List Psg)(bp:Int)(bi:List Psg)(bj:Int)(bl:Int)(aO:List Int)(bH:List (List (Int×Int×Unit)))(bL:Int)(v10:Int)(bK:List (Int×Int×Unit)):Option (((List (List (Int×Int×Unit))×Int×Unit)⊕(List (List (Int×Int×Unit))))⊕(List (Int×Int×Unit))):=
  ((idx ae bp).bind λ v11=>((idx (v11.2.2.1.getD []) bL).bind λ v12=>(bif decide (bK.length+(1:Nat)<=memMax)then (some (Sum.inr (bK++[(v10,v12,())])))else none)))
def yAZ(ae:List Psg)(bp:Int)(bi:List Psg)(bj:Int)(bl:Int)(aO:List Int)(bH:List (List (Int×Int×Unit)))(bK:List (Int×Int×Unit)):Option ((List (List (Int×Int×Unit))×Int×Unit)⊕(List (List (Int×Int×Unit)))):=
  (bif decide (bH.length+(1:Nat)<=memMax)then (some (Sum.inr (bH++[bK])))else none)
theorem yFO(n:Nat)(hn:big<=n)(r7:List Psg->List Psg->Int->Int->List (List (Int×Int×Unit))->Option (List (List (Int×Int×Unit))×Int×Unit))(ae:List Psg)(bp:Int)(bi:List Psg)(bj:Int)(bl:Int)(aO:List Int)(bH:List (List (Int×Int×Unit)))(bK:List (Int×Int×Unit))(hx:List.length (aO) < lenMax):LeF (elim some λ (a7:(List (List (Int×Int×Unit))))=>r7 ae bi bj (i64.wrap (bl+1)) a7) (yL (λ aN bI a7=>yAY ae bp bi bj bl aO bH aN bI a7) (λ a7=>yAZ ae bp bi bj bl aO bH a7) 0 (aO) bK) (y7q n r7 n ae bp bi bj bl aO (List.length (aO):Int) 0 bH bK):=by
  refine yP (f:=(elim some λ (a7:(List (List (Int×Int×Unit))))=>r7 ae bi bj (i64.wrap (bl+1)) a7)) (W:=λ bN aN a7=>y7q n r7 bN ae bp bi bj bl aO (List.length (aO):Int) aN bH a7) (body:=(λ aN bI a7=>yAY ae bp bi bj bl aO bH aN bI a7)) (fin:=(λ a7=>yAZ ae bp bi bj bl aO bH a7)) (λ bN aN a7=>?_) hx bK n (by unfold big at hn;unfold lenMax at hx;omega)
  show LeF _ _ (yG2 n r7 (y7q n r7 bN) ae bp bi bj bl aO (List.length (aO):Int) aN bH a7)
  exact y7 (y9 λ v10=>(y9 λ v11=>(y9 λ v12=>(y7 (y8 rfl) y0H)))) (y06 (y7 (y8 rfl) y0H))
def yDL(aB:List Psg)(aJ:List Psg)(bE:Int)(v8:Psg)(bO:List (List (Int×Int×Unit))):Option ((List (List (Int×Int×Unit))×Int×Unit)⊕(List (List (Int×Int×Unit)))):=
  (bif decide (List.length (v8.2.2.1.getD []) < lenMax)then yL (λ aN bI a7=>yAY (aB) (bE) (aJ) ((↑aJ.length:Int)) (bE) (v8.2.2.1.getD []) (bO) aN bI a7) (λ a7=>yAZ (aB) (bE) (aJ) ((↑aJ.length:Int)) (bE) (v8.2.2.1.getD []) (bO) a7) 0 (v8.2.2.1.getD []) ([])else none)
def yLK(aB:List Psg)(aJ:List Psg)(bO:List (List (Int×Int×Unit))):Option (List (List (Int×Int×Unit))×Int×Unit):=
  (some ((bO,(0:Int),())))
theorem yEq(n:Nat)(hn:big<=n)(aB:List Psg)(aJ:List Psg)(bO:List (List (Int×Int×Unit)))(hx:List.length (aJ) < lenMax):LeF some (yL (λ aN bI a7=>yDL aB aJ aN bI a7) (λ a7=>yLK aB aJ a7) 0 (aJ) bO) (y7p n n aB aJ (List.length (aJ):Int) 0 bO):=by
  refine yP (f:=some) (W:=λ bN aN a7=>y7p n bN aB aJ (List.length (aJ):Int) aN a7) (λ bN aN a7=>?_) hx bO n (by unfold big at hn;unfold lenMax at hx;omega)
  show LeF _ _ (yFy n (y7p n bN) aB aJ (List.length (aJ):Int) aN a7)
  exact y7 (y9 λ v8=>(yO λ hx=>by apply yFO n hn;exact hx)) (y06 (y8 rfl))
def yA8(b:Bas)(v:List (Int×Int×Unit))(l:List Rng):Option (List (List (Int×Int×Unit))×Int×Unit):=
  ((zR_M b v l).bind λ v0=>(bif v0.1 != 0 then (some (([],v0.1,())))else ((yBJ v (1:Int)).bind λ v1=>((z6_M l λ (x:Rng×Unit)=>zc_M x.1).bind λ v2=>((zt_M b v1.1 v2.1).bind λ v3=>(bif v3.2.1 != 0 then (some (([],v3.2.1,())))else ((yBJ v (0:Int)).bind λ v4=>((z6_M l λ (x:Rng×Unit)=>ze_M x.1).bind λ v5=>((zt_M b v4.1 v5.1).bind λ v6=>(bif v6.2.1 != 0 then (some (([],v6.2.1,())))else (bif decide (List.length (v6.1) < lenMax)then yL (λ aN bI a7=>yDL (v3.1) (v6.1) aN bI a7) (λ a7=>yLK (v3.1) (v6.1) a7) 0 (v6.1) ([])else none)))))))))))
abbrev z03_e:Entry:={ f:=66,args:=.pair t41 (.pair t97 (.pair t108 .unit)),rS:=.pair t119 (.pair t35 .unit),m:=λ x=>yA8 x.1 x.2.1 x.2.2.1 }
theorem yN8:FnOK Tryz.prog z03_e:=fB (mu:=[12,15]) Tryz.f66 (λ n x=>yRm n x.1 x.2.1 x.2.2.1) [[9,12,49,50,51],[9,12,13,15,49,50,51,57,58,59]] (yF yOi (yF yK8 (yF yQZ (yF yQA (yF yNc (yF yRf eNil)))))) λ n hn x=>(y9 λ v0=>(y7 (y8 rfl) (y9 λ v1=>(y9 λ v2=>(y9 λ v3=>(y7 (y8 rfl) (y9 λ v4=>(y9 λ v5=>(y9 λ v6=>(y7 (y8 rfl) (yO λ hx=>by apply yEq n hn;exact hx)))))))))))
def yP0(n:Nat)(b:Bas)(v:List Int)(l:List Cnd):Option (List Psg×Int×Unit):=
  ((za_M b v).bind λ v0=>((z7_M l λ (z:Cnd×Unit)=>zF_M b z.1).bind λ v1=>((y15 v1.1).bind λ v2=>((y15 [v0.1,(z0e (decide ((↑l.length:Int) > 96)) (5:Int)).1,v2.1]).bind λ v3=>(bif v3.1 != 0 then some ([],v3.1,())else ((zt_M b v l).bind λ v4=>some (v4.1,v4.2.1,())))))))
def yJP(b:Bas)(v:List Int)(l:List Cnd):Option (List Psg×Int×Unit):=yP0 0 b v l
abbrev z04_e:Entry:={ f:=96,args:=.pair t41 (.pair t26 (.pair t54 .unit)),rS:=.pair t167 (.pair t35 .unit),m:=λ x=>yJP x.1 x.2.1 x.2.2.1 }
theorem yKs:FnOK Tryz.prog z04_e:=fF 0 Tryz.f96 (λ n x=>yP0 n x.1 x.2.1 x.2.2.1) [] (yF yJ3 (yF y4S (yF yPm (yF yRj (yF y4V (yF yNc eNil))))))
end
end Go.Tw
end
section
set_option maxRecDepth 1000000
namespace Go.Tw
open Go.Vx Go.Vx.B Go.Proofs
noncomputable section
def yPz(n:Nat)(b:Bas)(v:List Int)(l:List Cnd):Option (List (List Int)×Int×Unit):=
  ((yJP b v l).bind λ v0=>((yJX v0.1).bind λ v1=>some (v1.1,v0.2.1,())))
def yPL(b:Bas)(v:List Int)(l:List Cnd):Option (List (List Int)×Int×Unit):=yPz 0 b v l
abbrev z0i_e:Entry:={ f:=27,args:=.pair t41 (.pair t26 (.pair t54 .unit)),rS:=.pair t56 (.pair t35 .unit),m:=λ x=>yPL x.1 x.2.1 x.2.2.1 }
theorem yPV:FnOK Tryz.prog z0i_e:=fF 0 Tryz.f27 (λ n x=>yPz n x.1 x.2.1 x.2.2.1) [] (yF yKs (yF yNE eNil))
def yPT(n:Nat)(b:Bas)(v:List Int)(c:Cnd):Option (List Int×Int×Unit):=
  ((yJP b v [c]).bind λ v0=>(bif v0.2.1 != 0 then some ([],v0.2.1,())else ((idx v0.1 (0:Int)).bind λ v1=>some (v1.2.1,(0:Int),()))))
def yPn(b:Bas)(v:List Int)(c:Cnd):Option (List Int×Int×Unit):=yPT 0 b v c
abbrev z0M_e:Entry:={ f:=42,args:=.pair t41 (.pair t26 (.pair t44 .unit)),rS:=.pair t26 (.pair t35 .unit),m:=λ x=>yPn x.1 x.2.1 x.2.2.1 }
theorem yPK:FnOK Tryz.prog z0M_e:=fF 0 Tryz.f42 (λ n x=>yPT n x.1 x.2.1 x.2.2.1) [] (yF yKs eNil)
def yGl(n:Nat)(r1:Bas->List Psg->Int->Int->Int->Int->Int->Int->Int->Int->Option ((Int×Int×Int×Unit)×Int×Unit))(r5:Bas->List Psg->Int->Int->List Int->Int->Int->Int->Int->Int->Int->Int->Int->Option ((Int×Int×Int×Unit)×Int×Unit))(bm:Bas)(aP:List Psg)(aQ:Int)(aR:Int)(aI:List Int)(bT:Int)(bq:Int)(al:Int)(am:Int)(aq:Int)(au:Int)(av:Int)(ax:Int):Option ((Int×Int×Int×Unit)×Int×Unit):=
  (bif decide (bq < bT)then ((idx aI bq).bind λ v6=>((idx bm.2.1 bq).bind λ v7=>(bif v7.2.1==(-1:Int)then ((idx bm.2.1 bq).bind λ v10=>(bif v10.2.2.1==(-1:Int)then r5 bm aP aQ aR aI bT (i64.wrap (bq+1)) al am aq au (i64.wrap (av+if (0:Int) > v6 then (0:Int)else v6)) (i64.wrap (i64.wrap (ax+if (0:Int) > i64.wrap ((0:Int) - v6)then (0:Int)else i64.wrap ((0:Int) - v6))+v6))else r5 bm aP aQ aR aI bT (i64.wrap (bq+1)) al am aq au (i64.wrap (av+if (0:Int) > v6 then (0:Int)else v6)) (i64.wrap (ax+if (0:Int) > i64.wrap ((0:Int) - v6)then (0:Int)else i64.wrap ((0:Int) - v6)))))else ((idx bm.2.1 bq).bind λ v11=>(bif v11.2.2.1==(-1:Int)then r5 bm aP aQ aR aI bT (i64.wrap (bq+1)) al am aq au av (i64.wrap (ax+v6))else r5 bm aP aQ aR aI bT (i64.wrap (bq+1)) al am aq au av ax)))))else r1 bm aP aQ (i64.wrap (aR+1)) al am aq au av ax)
def y7v(n:Nat)(r1:Bas->List Psg->Int->Int->Int->Int->Int->Int->Int->Int->Option ((Int×Int×Int×Unit)×Int×Unit))(k:Nat)(bm:Bas)(aP:List Psg)(aQ:Int)(aR:Int)(aI:List Int)(bT:Int)(bq:Int)(al:Int)(am:Int)(aq:Int)(au:Int)(av:Int)(ax:Int):Option ((Int×Int×Int×Unit)×Int×Unit):=
  iter (λ r y=>yGl n r1 (λ bm aP aQ aR aI bT bq al am aq au av ax=>r ((bm,(aP,(aQ,(aR,(aI,(bT,(bq,()))))))),(((al,(am,(aq,()))),((au,(av,(ax,()))),())),()))) y.1.1 y.1.2.1 y.1.2.2.1 y.1.2.2.2.1 y.1.2.2.2.2.1 y.1.2.2.2.2.2.1 y.1.2.2.2.2.2.2.1 y.2.1.1.1 y.2.1.1.2.1 y.2.1.1.2.2.1 y.2.1.2.1.1 y.2.1.2.1.2.1 y.2.1.2.1.2.2.1) k ((bm,(aP,(aQ,(aR,(aI,(bT,(bq,()))))))),(((al,(am,(aq,()))),((au,(av,(ax,()))),())),()))
def yGi(n:Nat)(r1:Bas->List Psg->Int->Int->Int->Int->Int->Int->Int->Int->Option ((Int×Int×Int×Unit)×Int×Unit))(r3:Bas->List Psg->Int->Int->List Int->Int->Int->Int->Int->Int->Int->Int->Int->Int->Bool->List Int->List Int->Option (List Int)->Option ((Int×Int×Int×Unit)×Int×Unit))(bF:Bas)(b8:List Psg)(b9:Int)(ba:Int)(aS:List Int)(cd:Int)(bW:Int)(ay:Int)(az:Int)(aA:Int)(aT:Int)(aK:Int)(aL:Int)(aU:Int)(aV:Bool)(aW:List Int)(ar:List Int)(aX:Option (List Int)):Option ((Int×Int×Int×Unit)×Int×Unit):=
  (bif decide (bW < cd)then ((idx aS bW).bind λ v4=>r3 bF b8 b9 ba aS cd (i64.wrap (bW+1)) ay az aA (i64.wrap (aT+v4)) aK aL aU aV aW ar aX)else (y7v n r1 n (bF) (b8) (b9) (ba) (ar) ((↑ar.length:Int)) ((0:Int)) (ay) (az) (aA) (aT) (aK) (aL)))
def y7o(n:Nat)(r1:Bas->List Psg->Int->Int->Int->Int->Int->Int->Int->Int->Option ((Int×Int×Int×Unit)×Int×Unit))(k:Nat)(bF:Bas)(b8:List Psg)(b9:Int)(ba:Int)(aS:List Int)(cd:Int)(bW:Int)(ay:Int)(az:Int)(aA:Int)(aT:Int)(aK:Int)(aL:Int)(aU:Int)(aV:Bool)(aW:List Int)(ar:List Int)(aX:Option (List Int)):Option ((Int×Int×Int×Unit)×Int×Unit):=
  iter (λ r y=>yGi n r1 (λ bF b8 b9 ba aS cd bW ay az aA aT aK aL aU aV aW ar aX=>r ((bF,(b8,(b9,(ba,(aS,(cd,(bW,()))))))),(((ay,(az,(aA,()))),((aT,(aK,(aL,()))),((aU,(aV,(aW,(ar,(aX,()))))),()))),()))) y.1.1 y.1.2.1 y.1.2.2.1 y.1.2.2.2.1 y.1.2.2.2.2.1 y.1.2.2.2.2.2.1 y.1.2.2.2.2.2.2.1 y.2.1.1.1 y.2.1.1.2.1 y.2.1.1.2.2.1 y.2.1.2.1.1 y.2.1.2.1.2.1 y.2.1.2.1.2.2.1 y.2.1.2.2.1.1 y.2.1.2.2.1.2.1 y.2.1.2.2.1.2.2.1 y.2.1.2.2.1.2.2.2.1 y.2.1.2.2.1.2.2.2.2.1) k ((bF,(b8,(b9,(ba,(aS,(cd,(bW,()))))))),(((ay,(az,(aA,()))),((aT,(aK,(aL,()))),((aU,(aV,(aW,(ar,(aX,()))))),()))),()))
def yG1(n:Nat)(r1:Bas->List Psg->Int->Int->Int->Int->Int->Int->Int->Int->Option ((Int×Int×Int×Unit)×Int×Unit))(bQ:Bas)(aM:List Psg)(ce:Int)(bM:Int)(aY:Int)(aZ:Int)(b4:Int)(bh:Int)(b5:Int)(b6:Int):Option ((Int×Int×Int×Unit)×Int×Unit):=
  (bif decide (bM < ce)then ((idx aM bM).bind λ v2=>(y7o n r1 n (bQ) (aM) (ce) (bM) (v2.1.2.2.1) ((↑v2.1.2.2.1.length:Int)) ((0:Int)) (aY) (aZ) (b4) (bh) (b5) (b6) (v2.1.1) (v2.1.2.1) (v2.1.2.2.1) (v2.2.1) (v2.2.2.1)))else some ((bh,b5,b6,()),(0:Int),()))
def y8A(n:Nat)(k:Nat)(bQ:Bas)(aM:List Psg)(ce:Int)(bM:Int)(aY:Int)(aZ:Int)(b4:Int)(bh:Int)(b5:Int)(b6:Int):Option ((Int×Int×Int×Unit)×Int×Unit):=
  iter (λ r y=>yG1 n (λ bQ aM ce bM aY aZ b4 bh b5 b6=>r ((bQ,(aM,(ce,(bM,())))),(((aY,(aZ,(b4,()))),((bh,(b5,(b6,()))),())),()))) y.1.1 y.1.2.1 y.1.2.2.1 y.1.2.2.2.1 y.2.1.1.1 y.2.1.1.2.1 y.2.1.1.2.2.1 y.2.1.2.1.1 y.2.1.2.1.2.1 y.2.1.2.1.2.2.1) k ((bQ,(aM,(ce,(bM,())))),(((aY,(aZ,(b4,()))),((bh,(b5,(b6,()))),())),()))
def yR0(n:Nat)(b:Bas)(v:List Int)(l:List Cnd):Option ((Int×Int×Int×Unit)×Int×Unit):=
  ((yJP b v l).bind λ v0=>(bif v0.2.1 != 0 then some (((0:Int),(0:Int),(0:Int),()),v0.2.1,())else (y8A n n (b) (v0.1) ((↑v0.1.length:Int)) ((0:Int)) ((0:Int)) ((0:Int)) ((0:Int)) ((0:Int)) ((0:Int)) ((0:Int)))))
def yJ7(bm:Bas)(aP:List Psg)(aQ:Int)(aR:Int)(aI:List Int)(al:Int)(am:Int)(aq:Int)(au:Int)(bq:Int)(v6:Int)(av:Int)(ax:Int):Option ((((Int×Int×Int×Unit)×Int×Unit)⊕(Int×Int×Int))⊕(Int×Int)):=
  ((idx bm.2.1 bq).bind λ v7=>(bif v7.2.1==(-1:Int)then ((idx bm.2.1 bq).bind λ v10=>(bif v10.2.2.1==(-1:Int)then (some (Sum.inr ((i64.wrap (av+if (0:Int) > v6 then (0:Int)else v6)),(i64.wrap (i64.wrap (ax+if (0:Int) > i64.wrap ((0:Int) - v6)then (0:Int)else i64.wrap ((0:Int) - v6))+v6)))))else (some (Sum.inr ((i64.wrap (av+if (0:Int) > v6 then (0:Int)else v6)),(i64.wrap (ax+if (0:Int) > i64.wrap ((0:Int) - v6)then (0:Int)else i64.wrap ((0:Int) - v6))))))))else ((idx bm.2.1 bq).bind λ v11=>(bif v11.2.2.1==(-1:Int)then (some (Sum.inr ((av),(i64.wrap (ax+v6)))))else (some (Sum.inr ((av),(ax))))))))
def yLU(bm:Bas)(aP:List Psg)(aQ:Int)(aR:Int)(aI:List Int)(al:Int)(am:Int)(aq:Int)(au:Int)(av:Int)(ax:Int):Option (((Int×Int×Int×Unit)×Int×Unit)⊕(Int×Int×Int)):=
  (some (Sum.inr ((au),(av),(ax))))
theorem yEX(n:Nat)(hn:big<=n)(r1:Bas->List Psg->Int->Int->Int->Int->Int->Int->Int->Int->Option ((Int×Int×Int×Unit)×Int×Unit))(bm:Bas)(aP:List Psg)(aQ:Int)(aR:Int)(aI:List Int)(al:Int)(am:Int)(aq:Int)(au:Int)(av:Int)(ax:Int)(hx:List.length (aI) < lenMax):LeF (elim some λ (a7:(Int×Int×Int))=>r1 bm aP aQ (i64.wrap (aR+1)) al am aq a7.1 a7.2.1 a7.2.2) (yL (λ aN bI a7=>yJ7 bm aP aQ aR aI al am aq au aN bI a7.1 a7.2) (λ a7=>yLU bm aP aQ aR aI al am aq au a7.1 a7.2) 0 (aI) (av,ax)) (y7v n r1 n bm aP aQ aR aI (List.length (aI):Int) 0 al am aq au av ax):=by
  refine yP (f:=(elim some λ (a7:(Int×Int×Int))=>r1 bm aP aQ (i64.wrap (aR+1)) al am aq a7.1 a7.2.1 a7.2.2)) (W:=λ bN aN a7=>y7v n r1 bN bm aP aQ aR aI (List.length (aI):Int) aN al am aq au a7.1 a7.2) (body:=(λ aN bI a7=>yJ7 bm aP aQ aR aI al am aq au aN bI a7.1 a7.2)) (fin:=(λ a7=>yLU bm aP aQ aR aI al am aq au a7.1 a7.2)) (λ bN aN a7=>?_) hx (av,ax) n (by unfold big at hn;unfold lenMax at hx;omega)
  show LeF _ _ (yGl n r1 (y7v n r1 bN) bm aP aQ aR aI (List.length (aI):Int) aN al am aq au a7.1 a7.2)
  exact y7 (y9 λ v6=>(y9 λ v7=>(y7 (y9 λ v10=>(y7 (y8 rfl) (y8 rfl))) (y9 λ v11=>(y7 (y8 rfl) (y8 rfl)))))) (y06 (y8 rfl))
def yKm(bF:Bas)(b8:List Psg)(b9:Int)(ba:Int)(aS:List Int)(ay:Int)(az:Int)(aA:Int)(aK:Int)(aL:Int)(aU:Int)(aV:Bool)(aW:List Int)(ar:List Int)(aX:Option (List Int))(bW:Int)(v4:Int)(aT:Int):Option ((((Int×Int×Int×Unit)×Int×Unit)⊕(Int×Int×Int))⊕(Int)):=
  (some (Sum.inr (i64.wrap (aT+v4))))
def yLf(bF:Bas)(b8:List Psg)(b9:Int)(ba:Int)(aS:List Int)(ay:Int)(az:Int)(aA:Int)(aK:Int)(aL:Int)(aU:Int)(aV:Bool)(aW:List Int)(ar:List Int)(aX:Option (List Int))(aT:Int):Option (((Int×Int×Int×Unit)×Int×Unit)⊕(Int×Int×Int)):=
  (bif decide (List.length (ar) < lenMax)then yL (λ aN bI a7=>yJ7 (bF) (b8) (b9) (ba) (ar) (ay) (az) (aA) (aT) aN bI a7.1 a7.2) (λ a7=>yLU (bF) (b8) (b9) (ba) (ar) (ay) (az) (aA) (aT) a7.1 a7.2) 0 (ar) ((aK),(aL))else none)
theorem yFG(n:Nat)(hn:big<=n)(r1:Bas->List Psg->Int->Int->Int->Int->Int->Int->Int->Int->Option ((Int×Int×Int×Unit)×Int×Unit))(bF:Bas)(b8:List Psg)(b9:Int)(ba:Int)(aS:List Int)(ay:Int)(az:Int)(aA:Int)(aK:Int)(aL:Int)(aU:Int)(aV:Bool)(aW:List Int)(ar:List Int)(aX:Option (List Int))(aT:Int)(hx:List.length (aS) < lenMax):LeF (elim some λ (a7:(Int×Int×Int))=>r1 bF b8 b9 (i64.wrap (ba+1)) ay az aA a7.1 a7.2.1 a7.2.2) (yL (λ aN bI a7=>yKm bF b8 b9 ba aS ay az aA aK aL aU aV aW ar aX aN bI a7) (λ a7=>yLf bF b8 b9 ba aS ay az aA aK aL aU aV aW ar aX a7) 0 (aS) aT) (y7o n r1 n bF b8 b9 ba aS (List.length (aS):Int) 0 ay az aA aT aK aL aU aV aW ar aX):=by
  refine yP (f:=(elim some λ (a7:(Int×Int×Int))=>r1 bF b8 b9 (i64.wrap (ba+1)) ay az aA a7.1 a7.2.1 a7.2.2)) (W:=λ bN aN a7=>y7o n r1 bN bF b8 b9 ba aS (List.length (aS):Int) aN ay az aA a7 aK aL aU aV aW ar aX) (body:=(λ aN bI a7=>yKm bF b8 b9 ba aS ay az aA aK aL aU aV aW ar aX aN bI a7)) (fin:=(λ a7=>yLf bF b8 b9 ba aS ay az aA aK aL aU aV aW ar aX a7)) (λ bN aN a7=>?_) hx aT n (by unfold big at hn;unfold lenMax at hx;omega)
  show LeF _ _ (yGi n r1 (y7o n r1 bN) bF b8 b9 ba aS (List.length (aS):Int) aN ay az aA a7 aK aL aU aV aW ar aX)
  exact y7 (y9 λ v4=>(y8 rfl)) (y06 (yO λ hx=>by apply yEX n hn;exact hx))
def yN0(bQ:Bas)(aM:List Psg)(aY:Int)(aZ:Int)(b4:Int)(bM:Int)(v2:Psg)(bh:Int)(b5:Int)(b6:Int):Option (((Int×Int×Int×Unit)×Int×Unit)⊕(Int×Int×Int)):=
  (bif decide (List.length (v2.1.2.2.1) < lenMax)then yL (λ aN bI a7=>yKm (bQ) (aM) ((↑aM.length:Int)) (bM) (v2.1.2.2.1) (aY) (aZ) (b4) (b5) (b6) (v2.1.1) (v2.1.2.1) (v2.1.2.2.1) (v2.2.1) (v2.2.2.1) aN bI a7) (λ a7=>yLf (bQ) (aM) ((↑aM.length:Int)) (bM) (v2.1.2.2.1) (aY) (aZ) (b4) (b5) (b6) (v2.1.1) (v2.1.2.1) (v2.1.2.2.1) (v2.2.1) (v2.2.2.1) a7) 0 (v2.1.2.2.1) (bh)else none)
def yNR(bQ:Bas)(aM:List Psg)(aY:Int)(aZ:Int)(b4:Int)(bh:Int)(b5:Int)(b6:Int):Option ((Int×Int×Int×Unit)×Int×Unit):=
  (some (((bh,b5,b6,()),(0:Int),())))
theorem yEn(n:Nat)(hn:big<=n)(bQ:Bas)(aM:List Psg)(aY:Int)(aZ:Int)(b4:Int)(bh:Int)(b5:Int)(b6:Int)(hx:List.length (aM) < lenMax):LeF some (yL (λ aN bI a7=>yN0 bQ aM aY aZ b4 aN bI a7.1 a7.2.1 a7.2.2) (λ a7=>yNR bQ aM aY aZ b4 a7.1 a7.2.1 a7.2.2) 0 (aM) (bh,b5,b6)) (y8A n n bQ aM (List.length (aM):Int) 0 aY aZ b4 bh b5 b6):=by
  refine yP (f:=some) (W:=λ bN aN a7=>y8A n bN bQ aM (List.length (aM):Int) aN aY aZ b4 a7.1 a7.2.1 a7.2.2) (λ bN aN a7=>?_) hx (bh,b5,b6) n (by unfold big at hn;unfold lenMax at hx;omega)
  show LeF _ _ (yG1 n (y8A n bN) bQ aM (List.length (aM):Int) aN aY aZ b4 a7.1 a7.2.1 a7.2.2)
  exact y7 (y9 λ v2=>(yO λ hx=>by apply yFG n hn;exact hx)) (y06 (y8 rfl))
def yQa(b:Bas)(v:List Int)(l:List Cnd):Option ((Int×Int×Int×Unit)×Int×Unit):=
  ((yJP b v l).bind λ v0=>(bif v0.2.1 != 0 then (some ((((0:Int),(0:Int),(0:Int),()),v0.2.1,())))else (bif decide (List.length (v0.1) < lenMax)then yL (λ aN bI a7=>yN0 (b) (v0.1) ((0:Int)) ((0:Int)) ((0:Int)) aN bI a7.1 a7.2.1 a7.2.2) (λ a7=>yNR (b) (v0.1) ((0:Int)) ((0:Int)) ((0:Int)) a7.1 a7.2.1 a7.2.2) 0 (v0.1) (((0:Int)),((0:Int)),((0:Int)))else none)))
abbrev z02_e:Entry:={ f:=45,args:=.pair t41 (.pair t26 (.pair t54 .unit)),rS:=.pair t78 (.pair t35 .unit),m:=λ x=>yQa x.1 x.2.1 x.2.2.1 }
theorem yP7:FnOK Tryz.prog z02_e:=fB Tryz.f45 (λ n x=>yR0 n x.1 x.2.1 x.2.2.1) [[3,6,10,28,29,30],[3,6,10,12,28,29,30,36,37,38],[3,6,10,28,29,30,49,50,51]] (yF yKs eNil) λ n hn x=>(y9 λ v0=>(y7 (y8 rfl) (yO λ hx=>by apply yEn n hn;exact hx)))
end
end Go.Tw
end
