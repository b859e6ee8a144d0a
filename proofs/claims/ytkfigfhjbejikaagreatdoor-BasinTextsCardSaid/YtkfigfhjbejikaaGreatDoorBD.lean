import Derived.Test.YtkfigfhjbejikaaGreatDoorBT
import Derived.Test.YtkfigfhjbejikaaGreatDoorB0
import Derived.Test.YtkfigfhjbejikaaGreatDoorBA
import Derived.Test.YtkfigfhjbejikaaGreatDoorBC
set_option linter.all false
section
set_option maxRecDepth 1000000
namespace Go.Tw
open Go.Vx Go.Vx.B Go.Proofs
noncomputable section
def zW_m (n:Nat) (l:Lnk) (p1:Bas):Option (Int×Unit) :=
  (Option.bind (zi_M l (↑p1.1.length:Int)) fun (v0:Int×Unit)=>some (v0.1,()))
def zW_M (l:Lnk) (p1:Bas):Option (Int×Unit) := zW_m 0 l p1
abbrev zW_e:Entry := { f := 102,args := .pair t163 (.pair (.ref t41) .unit),rS := .pair t35 .unit,m := fun x=>zW_M x.1 x.2.1 }
theorem yOt:FnOK Tryz.prog zW_e := fF 0 Tryz.f102 (fun n x=>zW_m n x.1 x.2.1) [] (yC yOd eNil)
def zL_m (n:Nat) (b:Bas) (l:List Rng):Option (Int×Unit) :=
  (Option.bind (zA_M l fun (z:Rng×Unit)=>zN_M b z.1) fun (v0:List Int×Unit)=>(Option.bind (y0h v0.1) fun (v1:Int×Unit)=>(Option.bind (y0h [(z0c (decide ((↑l.length:Int) > 96)) (5:Int)).1,v1.1]) fun (v2:Int×Unit)=>some (v2.1,()))))
def zL_M (b:Bas) (l:List Rng):Option (Int×Unit) := zL_m 0 b l
abbrev zL_e:Entry := { f := 108,args := .pair t41 (.pair t108 .unit),rS := .pair t35 .unit,m := fun x=>zL_M x.1 x.2.1 }
theorem yOj:FnOK Tryz.prog zL_e := fF 0 Tryz.f108 (fun n x=>zL_m n x.1 x.2.1) [] (yC y3c (yC yOz (yC yP2 (yC y3q eNil))))
end
end Go.Tw
end
section
set_option maxRecDepth 1000000
namespace Go.Tw
open Go.Vx Go.Vx.B Go.Proofs
noncomputable section
def yG5 (n:Nat) (r1:Bas→List Nod→Int→Int→List (List UInt8×Bool)→Option (Int×Unit)) (ar:Bas) (ac:List Nod) (bt:Int) (b6:Int) (aI:List (List UInt8×Bool)):Option (Int×Unit) :=
  (bif decide (b6 < bt) then (Option.bind (idx ac b6) fun (v2:Nod)=>(Option.bind (yGm v2.1) fun (v3:Bool×Unit)=>(Option.bind (y0h [(z0c (!v3.1) (8:Int)).1,(z0c ((yV Ty.str Ty.bool aI v2.1).getD Bool.false) (9:Int)).1,(z0A v2.2.1 (1:Int) (1000:Int)).1,(z0A v2.2.2.1 (0:Int) (1024:Int)).1]) fun (v4:Int×Unit)=>(bif v4.1 != 0 then some (v4.1,()) else r1 ar ac bt (IntKind.i64.wrap (b6 + 1)) (y0D Ty.str Ty.bool aI v2.1 Bool.true))))) else (bif decide ((↑ar.2.1.length:Int) > 16) then some ((5:Int),()) else (Option.bind (zB_M ar.2.1 fun (x:Lnk×Unit)=>zW_M x.1 ar) fun (v5:List Int×Unit)=>(Option.bind (y0h v5.1) fun (v6:Int×Unit)=>some (v6.1,())))))
def y9n (n:Nat)  (k:Nat) (ar:Bas) (ac:List Nod) (bt:Int) (b6:Int) (aI:List (List UInt8×Bool)):Option (Int×Unit) :=
  iter (fun r y=>yG5 n (fun ar ac bt b6 aI=>r ((ar,(ac,(bt,(b6,())))),((aI,()),()))) y.1.1 y.1.2.1 y.1.2.2.1 y.1.2.2.2.1 y.2.1.1) k ((ar,(ac,(bt,(b6,())))),((aI,()),()))
def zh_m (n:Nat) (b:Bas):Option (Int×Unit) :=
  (Option.bind (y0h [(z0c ((↑b.1.length:Int)==0) (12:Int)).1,(z0c (decide ((↑b.1.length:Int) > 8)) (5:Int)).1]) fun (v0:Int×Unit)=>(bif v0.1 != 0 then some (v0.1,()) else (y9n n n (b) (b.1) ((↑b.1.length:Int)) ((0:Int)) ([]))))
def yGu (ar:Bas) (ac:List Nod) (b6:Int) (v2:Nod) (aI:List (List UInt8×Bool)):Option ((Int×Unit)⊕(List (List UInt8×Bool))) :=
  (Option.bind (yGm v2.1) fun (v3:Bool×Unit)=>(Option.bind (y0h [(z0c (!v3.1) (8:Int)).1,(z0c ((yV Ty.str Ty.bool aI v2.1).getD Bool.false) (9:Int)).1,(z0A v2.2.1 (1:Int) (1000:Int)).1,(z0A v2.2.2.1 (0:Int) (1024:Int)).1]) fun (v4:Int×Unit)=>(bif v4.1 != 0 then (some (Sum.inl ((v4.1,())))) else (some (Sum.inr (y0D Ty.str Ty.bool aI v2.1 Bool.true))))))
def yEW (ar:Bas) (ac:List Nod) (aI:List (List UInt8×Bool)):Option (Int×Unit) :=
  (bif decide ((↑ar.2.1.length:Int) > 16) then (some (((5:Int),()))) else (Option.bind (zB_M ar.2.1 fun (x:Lnk×Unit)=>zW_M x.1 ar) fun (v5:List Int×Unit)=>(Option.bind (y0h v5.1) fun (v6:Int×Unit)=>(some ((v6.1,()))))))
theorem yFH (n:Nat) (hn:big≤n)  (ar:Bas) (ac:List Nod) (aI:List (List UInt8×Bool)) (hx:List.length (ac) < lenMax):LeF some (yJ (fun bX ci bd=>yGu ar ac bX ci bd) (fun bd=>yEW ar ac bd) 0 (ac) aI) (y9n n n ar ac (List.length (ac):Int) 0 aI) := by
  refine yb (f := some) (W := fun cg bX bd=>y9n n cg ar ac (List.length (ac):Int) bX bd) (fun cg bX bd=>?_) hx aI n (by unfold big at hn; unfold lenMax at hx; omega)
  show LeF _ _ (yG5 n (y9n n cg) ar ac (List.length (ac):Int) bX bd)
  exact y5 (y9 fun v2=>(y9 fun v3=>(y9 fun v4=>(y5 (y8 rfl) (y8 rfl))))) (y0t (y5 (y8 rfl) (y9 fun v5=>(y9 fun v6=>(y8 rfl)))))
def zh_M (b:Bas):Option (Int×Unit) :=
  (Option.bind (y0h [(z0c ((↑b.1.length:Int)==0) (12:Int)).1,(z0c (decide ((↑b.1.length:Int) > 8)) (5:Int)).1]) fun (v0:Int×Unit)=>(bif v0.1 != 0 then (some ((v0.1,()))) else (bif decide (List.length (b.1) < lenMax) then yJ (fun bX ci bd=>yGu (b) (b.1) bX ci bd) (fun bd=>yEW (b) (b.1) bd) 0 (b.1) ([]) else none)))
abbrev zh_e:Entry := { f := 39,args := .pair t41 .unit,rS := .pair t35 .unit,m := fun x=>zh_M x.1 }
theorem yIt:FnOK Tryz.prog zh_e := fB (mu := [23]) Tryz.f39 (fun n x=>zh_m n x.1) [[1,4,25,26,27]] (yC y3c (yC y3q (yC yMK (yC y7u (yC yOt (yC yOK eNil)))))) fun n hn x=>(y9 fun v0=>(y5 (y8 rfl) (yd fun hx=>by apply yFH n hn; exact hx)))
end
end Go.Tw
end
section
set_option maxRecDepth 1000000
namespace Go.Tw
open Go.Vx Go.Vx.B Go.Proofs
noncomputable section
def zX_m (n:Nat) (b:Bas) (v:List Int):Option (Int×Unit) :=
  (Option.bind (zh_M b) fun (v0:Int×Unit)=>(Option.bind (zK_M b v) fun (v1:Int×Unit)=>(Option.bind (y0h [v0.1,v1.1]) fun (v2:Int×Unit)=>some (v2.1,()))))
def zX_M (b:Bas) (v:List Int):Option (Int×Unit) := zX_m 0 b v
abbrev zX_e:Entry := { f := 40,args := .pair t41 (.pair t26 .unit),rS := .pair t35 .unit,m := fun x=>zX_M x.1 x.2.1 }
theorem yHb:FnOK Tryz.prog zX_e := fF 0 Tryz.f40 (fun n x=>zX_m n x.1 x.2.1) [] (yC yIt (yC yOV (yC y3q eNil)))
def zQ_m (n:Nat) (b:Bas) (v:List (Int×Int×Unit)) (l:List Rng):Option (Int×Unit) :=
  (Option.bind (zh_M b) fun (v0:Int×Unit)=>(bif v0.1 != 0 then some (v0.1,()) else (Option.bind (z8_M v fun (x:(Int×Int×Unit)×Unit)=>zP_M x.1 fun (x:Int×Unit)=>zO_M x.1) fun (v1:List Int×Unit)=>(Option.bind (y0h v1.1) fun (v2:Int×Unit)=>(Option.bind (zL_M b l) fun (v3:Int×Unit)=>(Option.bind (y0h [(z0c ((↑v.length:Int) != (↑b.1.length:Int)) (2:Int)).1,v2.1,v3.1]) fun (v4:Int×Unit)=>some (v4.1,())))))))
def zQ_M (b:Bas) (v:List (Int×Int×Unit)) (l:List Rng):Option (Int×Unit) := zQ_m 0 b v l
abbrev zQ_e:Entry := { f := 117,args := .pair t41 (.pair t97 (.pair t108 .unit)),rS := .pair t35 .unit,m := fun x=>zQ_M x.1 x.2.1 x.2.2.1 }
theorem yPK:FnOK Tryz.prog zQ_e := fF 0 Tryz.f117 (fun n x=>zQ_m n x.1 x.2.1 x.2.2.1) [] (yC yON (yC yPP (yC yIt (yC y3c (yC yMD (yC y3q (yC yOj eNil)))))))
def il163:Inl := { f := 163,fn := Tryz.f163,keep := [],mU := [4],fz := [] }
theorem yIG:y1u Tryz.prog il163 := ⟨by kernel_rfl,by kernel_rfl,fun e0 h=>by cases (show (none:Option LibK) = some e0 from h)⟩
def il162:Inl := { f := 162,fn := Tryz.f162,keep := [],mU := [],fz := [] }
theorem yIj:y1u Tryz.prog il162 := ⟨by kernel_rfl,by kernel_rfl,fun e0 h=>by cases (show (none:Option LibK) = some e0 from h)⟩
def il185:Inl := { f := 185,fn := Tryz.f185,keep := [],mU := [2],fz := [] }
theorem yIb:y1u Tryz.prog il185 := ⟨by kernel_rfl,by kernel_rfl,fun e0 h=>by cases (show (none:Option LibK) = some e0 from h)⟩
def il186:Inl := { f := 186,fn := Tryz.f186,keep := [[0,2,3,10,11,12,34,35]],mU := [],fz := [] }
theorem yIK:y1u Tryz.prog il186 := ⟨by kernel_rfl,by kernel_rfl,fun e0 h=>by cases (show (none:Option LibK) = some e0 from h)⟩
def yKw (n:Nat) (r0:Bas→List Cnd→Int→Int→List Cnd→Bas→List Cnd→Bas→List Int→List Psg→List Cnd→Bas→List Cnd→Bas→List Cnd→Bas→List Cnd→Bas→Bas→List Int→List Cnd→Bas→Int→Bas→List Int→List Cnd→List Cnd→Bas→Option (List Psg×Int×Unit)) (bY:Bas) (be:List Cnd) (bf:Int) (b7:Int) (aj:List Cnd) (ak:Bas) (al:List Cnd) (am:Bas) (bg:List Int) (ae:List Psg) (aP:List Cnd) (aQ:Bas) (aR:List Cnd) (aS:Bas) (aB:List Cnd) (aC:Bas) (aD:List Cnd) (aE:Bas) (bu:Bas) (bv:List Int) (bw:List Cnd) (bx:Bas) (bz:Int) (bA:Bas) (bB:List Int) (bC:List Cnd) (aF:List Cnd) (aG:Bas):Option (List Psg×Int×Unit) :=
  (bif decide (b7 < bf) then (Option.bind (idx be b7) fun (v1:Cnd)=>(Option.bind (zg_M bY bg (v1.1,v1.2.1,v1.2.2.1,())) fun (v2:List Int×Option (List Int)×Bool×Unit)=>(bif !v2.2.2.1 then (bif decide (ae.length + (1:Nat)≤memMax) then (bif !v2.2.2.1 then (bif decide ((↑(ae ++ [((v1.1,v1.2.1,v1.2.2.1,()),v2.1,Option.none,())]).length:Int) > 0) then (Option.bind (idx (ae ++ [((v1.1,v1.2.1,v1.2.2.1,()),v2.1,Option.none,())]) (IntKind.i64.wrap ((↑(ae ++ [((v1.1,v1.2.1,v1.2.2.1,()),v2.1,Option.none,())]).length:Int) - (1:Int)))) fun (v11:Psg)=>(Option.bind ((ae ++ [((v1.1,v1.2.1,v1.2.2.1,()),v2.1,Option.none,())])[(IntKind.i64.wrap ((↑(ae ++ [((v1.1,v1.2.1,v1.2.2.1,()),v2.1,Option.none,())]).length:Int) - (1:Int))).toNat]?) fun (v12:Psg)=>(bif v12.2.2.1.isNone then some ([],(4:Int),()) else some (ae ++ [((v1.1,v1.2.1,v1.2.2.1,()),v2.1,Option.none,())],(0:Int),())))) else some (ae ++ [((v1.1,v1.2.1,v1.2.2.1,()),v2.1,Option.none,())],(0:Int),())) else r0 bY be bf (IntKind.i64.wrap (b7 + 1)) aj ak al am [] (ae ++ [((v1.1,v1.2.1,v1.2.2.1,()),v2.1,Option.none,())]) aP aQ aR aS aB aC aD aE bu bv bw bx bz bA bB bC aF aG) else none) else (bif decide (ae.length + (1:Nat)≤memMax) then (bif !v2.2.2.1 then (bif decide ((↑(ae ++ [((v1.1,v1.2.1,v1.2.2.1,()),v2.1,v2.2.1,())]).length:Int) > 0) then (Option.bind (idx (ae ++ [((v1.1,v1.2.1,v1.2.2.1,()),v2.1,v2.2.1,())]) (IntKind.i64.wrap ((↑(ae ++ [((v1.1,v1.2.1,v1.2.2.1,()),v2.1,v2.2.1,())]).length:Int) - (1:Int)))) fun (v17:Psg)=>(Option.bind ((ae ++ [((v1.1,v1.2.1,v1.2.2.1,()),v2.1,v2.2.1,())])[(IntKind.i64.wrap ((↑(ae ++ [((v1.1,v1.2.1,v1.2.2.1,()),v2.1,v2.2.1,())]).length:Int) - (1:Int))).toNat]?) fun (v18:Psg)=>(bif v18.2.2.1.isNone then some ([],(4:Int),()) else some (ae ++ [((v1.1,v1.2.1,v1.2.2.1,()),v2.1,v2.2.1,())],(0:Int),())))) else some (ae ++ [((v1.1,v1.2.1,v1.2.2.1,()),v2.1,v2.2.1,())],(0:Int),())) else r0 bY be bf (IntKind.i64.wrap (b7 + 1)) aj ak al am (v2.2.1.getD []) (ae ++ [((v1.1,v1.2.1,v1.2.2.1,()),v2.1,v2.2.1,())]) aP aQ aR aS aB aC aD aE bu bv bw bx bz bA bB bC aF aG) else none)))) else (bif decide ((↑ae.length:Int) > 0) then (Option.bind (idx ae (IntKind.i64.wrap ((↑ae.length:Int) - (1:Int)))) fun (v23:Psg)=>(Option.bind (ae[(IntKind.i64.wrap ((↑ae.length:Int) - (1:Int))).toNat]?) fun (v24:Psg)=>(bif v24.2.2.1.isNone then some ([],(4:Int),()) else some (ae,(0:Int),())))) else some (ae,(0:Int),())))
def yLo (n:Nat)  (k:Nat) (bY:Bas) (be:List Cnd) (bf:Int) (b7:Int) (aj:List Cnd) (ak:Bas) (al:List Cnd) (am:Bas) (bg:List Int) (ae:List Psg) (aP:List Cnd) (aQ:Bas) (aR:List Cnd) (aS:Bas) (aB:List Cnd) (aC:Bas) (aD:List Cnd) (aE:Bas) (bu:Bas) (bv:List Int) (bw:List Cnd) (bx:Bas) (bz:Int) (bA:Bas) (bB:List Int) (bC:List Cnd) (aF:List Cnd) (aG:Bas):Option (List Psg×Int×Unit) :=
  iter (fun r y=>yKw n (fun bY be bf b7 aj ak al am bg ae aP aQ aR aS aB aC aD aE bu bv bw bx bz bA bB bC aF aG=>r ((bY,(be,(bf,(b7,())))),((((aj,(ak,())),((al,(am,())),())),((bg,()),((),(ae,())))),((aP,(aQ,())),((aR,(aS,())),((aB,(aC,())),((aD,(aE,())),(bu,(bv,(bw,(bx,(bz,(bA,(bB,(bC,((aF,(aG,())),())))))))))))))))) y.1.1 y.1.2.1 y.1.2.2.1 y.1.2.2.2.1 y.2.1.1.1.1 y.2.1.1.1.2.1 y.2.1.1.2.1.1 y.2.1.1.2.1.2.1 y.2.1.2.1.1 y.2.1.2.2.2.1 y.2.2.1.1 y.2.2.1.2.1 y.2.2.2.1.1 y.2.2.2.1.2.1 y.2.2.2.2.1.1 y.2.2.2.2.1.2.1 y.2.2.2.2.2.1.1 y.2.2.2.2.2.1.2.1 y.2.2.2.2.2.2.1 y.2.2.2.2.2.2.2.1 y.2.2.2.2.2.2.2.2.1 y.2.2.2.2.2.2.2.2.2.1 y.2.2.2.2.2.2.2.2.2.2.1 y.2.2.2.2.2.2.2.2.2.2.2.1 y.2.2.2.2.2.2.2.2.2.2.2.2.1 y.2.2.2.2.2.2.2.2.2.2.2.2.2.1 y.2.2.2.2.2.2.2.2.2.2.2.2.2.2.1.1 y.2.2.2.2.2.2.2.2.2.2.2.2.2.2.1.2.1) k ((bY,(be,(bf,(b7,())))),((((aj,(ak,())),((al,(am,())),())),((bg,()),((),(ae,())))),((aP,(aQ,())),((aR,(aS,())),((aB,(aC,())),((aD,(aE,())),(bu,(bv,(bw,(bx,(bz,(bA,(bB,(bC,((aF,(aG,())),())))))))))))))))
def zp_m (n:Nat) (b:Bas) (v:List Int) (l:List Cnd):Option (List Psg×Int×Unit) :=
  (yLo n n (b) (l) ((↑l.length:Int)) ((0:Int)) (l) (b) (l) (b) (v) ([]) (l) (b) (l) (b) (l) (b) (l) (b) (b) (v) (l) (b) ((0:Int)) (b) (v) (l) (l) (b))
def zp_M (b:Bas) (v:List Int) (l:List Cnd):Option (List Psg×Int×Unit) := zp_m 1000 b v l
abbrev zp_e:Entry := { f := 118,args := .pair t41 (.pair t26 (.pair t54 .unit)),rS := .pair t167 (.pair t35 .unit),m := fun x=>zp_M x.1 x.2.1 x.2.2.1 }
theorem yNW:FnOK Tryz.prog zp_e := fFI 1000 Tryz.f118 (fun n x=>zp_m n x.1 x.2.1 x.2.2.1) [] [il163,il162,il185,il186] 8 (yC yMs eNil) (y5I yIG (y5I yIj (y5I yIb (y5I yIK iNil))))
end
end Go.Tw
end
section
set_option maxRecDepth 1000000
namespace Go.Tw
open Go.Vx Go.Vx.B Go.Proofs
noncomputable section
def yBr (n:Nat) (r18:Int→Int→Bas→Cnd→List Int→Int→Option (Int×Int×Unit)) (a8:Int) (a7:Int) (af:Bas) (ah:Cnd) (aa:List Int) (ai:Int):Option (Int×Int×Unit) :=
  (bif decide (ai < 97) then (Option.bind (idx af.1 a8) fun (v19:Nod)=>(Option.bind (idx aa a8) fun (v20:Int)=>(Option.bind (zj_M v19 v20) fun (v21:Int×Unit)=>(bif decide (v21.1 ≥ a7) then some (ai,(0:Int),()) else (bif ai==96 then some ((0:Int),(7:Int),()) else (Option.bind (zg_M af aa ah) fun (v22:List Int×Option (List Int)×Bool×Unit)=>(bif !v22.2.2.1 then some ((0:Int),(4:Int),()) else r18 a8 a7 af ah (v22.2.1.getD []) (IntKind.i64.wrap (ai + 1))))))))) else some ((0:Int),(7:Int),()))
def y57 (n:Nat)  (k:Nat) (a8:Int) (a7:Int) (af:Bas) (ah:Cnd) (aa:List Int) (ai:Int):Option (Int×Int×Unit) :=
  iter (fun r y=>yBr n (fun a8 a7 af ah aa ai=>r ((a8,(a7,(af,(ah,(aa,(ai,())))))),((),()))) y.1.1 y.1.2.1 y.1.2.2.1 y.1.2.2.2.1 y.1.2.2.2.2.1 y.1.2.2.2.2.2.1) k ((a8,(a7,(af,(ah,(aa,(ai,())))))),((),()))
def y7U (n:Nat) (b:Bas) (v:List Int) (c:Cnd) (node:Int) (level:Int):Option (Int×Int×Unit) :=
  (y57 n n (node) (level) (b) (c) (v) ((0:Int)))
def yOm (n:Nat) (b:Bas) (v:List Int) (c:Cnd) (node:Int) (level:Int):Option (Int×Int×Unit) :=
  (Option.bind (zX_M b v) fun (v0:Int×Unit)=>(Option.bind (zG_M b c) fun (v1:Int×Unit)=>(bif decide (node < 0) then (Option.bind (y0h [v0.1,v1.1,(z0c Bool.true (10:Int)).1,(z0A level (0:Int) (1024:Int)).1]) fun (v2:Int×Unit)=>(bif v2.1 != 0 then some ((0:Int),v2.1,()) else (y7U n b v c node level))) else (Option.bind (y0h [v0.1,v1.1,(z0c (decide (node ≥ (↑b.1.length:Int))) (10:Int)).1,(z0A level (0:Int) (1024:Int)).1]) fun (v3:Int×Unit)=>(bif v3.1 != 0 then some ((0:Int),v3.1,()) else (y7U n b v c node level))))))
def yG2 (a8:Int) (a7:Int) (af:Bas) (ah:Cnd) (ai:Int) (aa:List Int):Option ((Int×Int×Unit)⊕(List Int)) :=
  (Option.bind (idx af.1 a8) fun (v19:Nod)=>(Option.bind (idx aa a8) fun (v20:Int)=>(Option.bind (zj_M v19 v20) fun (v21:Int×Unit)=>(bif decide (v21.1 ≥ a7) then (some (Sum.inl ((ai,(0:Int),())))) else (bif ai==96 then (some (Sum.inl (((0:Int),(7:Int),())))) else (Option.bind (zg_M af aa ah) fun (v22:List Int×Option (List Int)×Bool×Unit)=>(bif !v22.2.2.1 then (some (Sum.inl (((0:Int),(4:Int),())))) else (some (Sum.inr (v22.2.1.getD []))))))))))
def yH5 (a8:Int) (a7:Int) (af:Bas) (ah:Cnd) (aa:List Int):Option (Int×Int×Unit) :=
  (some (((0:Int),(7:Int),())))
theorem yC7 (n:Nat) (hn:big≤n)  (a8:Int) (a7:Int) (af:Bas) (ah:Cnd) (aa:List Int) (hx:((97:Int))≤9223372036854775807):LeF some (y1a (fun bX bd=>yG2 a8 a7 af ah bX bd) (fun bd=>yH5 a8 a7 af ah bd) (((97:Int)) - 0).toNat 0 aa) (y57 n n a8 a7 af ah aa 0) := by
  refine y4s (f := some) (W := fun cg bX bd=>y57 n cg a8 a7 af ah bd bX) (fun cg bX bd=>?_) hx aa n 0 (by decide) (by unfold big at hn; omega)
  show LeF _ _ (yBr n (y57 n cg) a8 a7 af ah bd bX)
  exact y5 (y9 fun v19=>(y9 fun v20=>(y9 fun v21=>(y5 (y8 rfl) (y5 (y8 rfl) (y9 fun v22=>(y5 (y8 rfl) (y8 rfl)))))))) (y0t (y8 rfl))
def yCb (b:Bas) (v:List Int) (c:Cnd) (node:Int) (level:Int):Option (Int×Int×Unit) :=
  (bif decide (((97:Int))≤9223372036854775807) then y1a (fun bX bd=>yG2 (node) (level) (b) (c) bX bd) (fun bd=>yH5 (node) (level) (b) (c) bd) (((97:Int)) - 0).toNat 0 (v) else none)
theorem y2O (n:Nat) (hn:big≤n)  (b:Bas) (v:List Int) (c:Cnd) (node:Int) (level:Int):LeF some (yCb b v c node level) (y7U n b v c node level) :=
  (yd fun hx=>by apply yC7 n hn; exact hx)
def yNb (b:Bas) (v:List Int) (c:Cnd) (node:Int) (level:Int):Option (Int×Int×Unit) :=
  (Option.bind (zX_M b v) fun (v0:Int×Unit)=>(Option.bind (zG_M b c) fun (v1:Int×Unit)=>(bif decide (node < 0) then (Option.bind (y0h [v0.1,v1.1,(z0c Bool.true (10:Int)).1,(z0A level (0:Int) (1024:Int)).1]) fun (v2:Int×Unit)=>(bif v2.1 != 0 then (some (((0:Int),v2.1,()))) else (yCb b v c node level))) else (Option.bind (y0h [v0.1,v1.1,(z0c (decide (node ≥ (↑b.1.length:Int))) (10:Int)).1,(z0A level (0:Int) (1024:Int)).1]) fun (v3:Int×Unit)=>(bif v3.1 != 0 then (some (((0:Int),v3.1,()))) else (yCb b v c node level))))))
abbrev z0N_e:Entry := { f := 18,args := .pair t41 (.pair t26 (.pair t44 (.pair t3 (.pair t3 .unit)))),rS := .pair t3 (.pair t35 .unit),m := fun x=>yNb x.1 x.2.1 x.2.2.1 x.2.2.2.1 x.2.2.2.2.1 }
theorem yOH:FnOK Tryz.prog z0N_e := fB Tryz.f18 (fun n x=>yOm n x.1 x.2.1 x.2.2.1 x.2.2.2.1 x.2.2.2.2.1) [[3,4,5,7,13,42]] (yC yHb (yC yNB (yC y3c (yC y7u (yC y3q (yC yN8 (yC yMs eNil))))))) fun n hn x=>(y9 fun v0=>(y9 fun v1=>(y5 (y9 fun v2=>(y5 (y8 rfl) (by apply y2O n hn))) (y9 fun v3=>(y5 (y8 rfl) (by apply y2O n hn))))))
def yO2 (n:Nat) (b:Bas) (v:List Int):Option (List Int×Int×Unit) :=
  (Option.bind (zX_M b v) fun (v0:Int×Unit)=>(bif v0.1 != 0 then some ([],v0.1,()) else (Option.bind (zV_M b v) fun (v1:List Int×Unit)=>some (v1.1,(0:Int),()))))
def yO3 (b:Bas) (v:List Int):Option (List Int×Int×Unit) := yO2 0 b v
abbrev z09_e:Entry := { f := 29,args := .pair t41 (.pair t26 .unit),rS := .pair t26 (.pair t35 .unit),m := fun x=>yO3 x.1 x.2.1 }
theorem yMM:FnOK Tryz.prog z09_e := fF 0 Tryz.f29 (fun n x=>yO2 n x.1 x.2.1) [] (yC yHb (yC yOG eNil))
def yNc (n:Nat) (b:Bas) (v:List Int):Option (List Int×Int×Unit) :=
  (Option.bind (zX_M b v) fun (v0:Int×Unit)=>(bif v0.1 != 0 then some ([],v0.1,()) else (Option.bind (zb_M b v) fun (v1:List Int×Unit)=>some (v1.1,(0:Int),()))))
def yN3 (b:Bas) (v:List Int):Option (List Int×Int×Unit) := yNc 0 b v
abbrev z0J_e:Entry := { f := 30,args := .pair t41 (.pair t26 .unit),rS := .pair t26 (.pair t35 .unit),m := fun x=>yN3 x.1 x.2.1 }
theorem yO4:FnOK Tryz.prog z0J_e := fF 0 Tryz.f30 (fun n x=>yNc n x.1 x.2.1) [] (yC yHb (yC yOu eNil))
def yJ0 (n:Nat) (r1:List Int→List Nod→Int→Int→List Int→Option (List Int×Int×Unit)) (cc:List Int) (bD:List Nod) (bE:Int) (b8:Int) (bZ:List Int):Option (List Int×Int×Unit) :=
  (bif decide (b8 < bE) then (Option.bind (idx bD b8) fun (v2:Nod)=>(Option.bind (idx cc b8) fun (v3:Int)=>(bif decide (bZ.length + (1:Nat)≤memMax) then r1 cc bD bE (IntKind.i64.wrap (b8 + 1)) (bZ ++ [if IntKind.i64.wrap (IntKind.i64.wrap (IntKind.i64.wrap (v2.2.1 * IntKind.i64.wrap (v2.2.2.1 + 1)) - (1:Int)) - v3) > (-1:Int) then IntKind.i64.wrap (IntKind.i64.wrap (IntKind.i64.wrap (v2.2.1 * IntKind.i64.wrap (v2.2.2.1 + 1)) - (1:Int)) - v3) else (-1:Int)]) else none))) else some (bZ,(0:Int),()))
def yI5 (n:Nat)  (k:Nat) (cc:List Int) (bD:List Nod) (bE:Int) (b8:Int) (bZ:List Int):Option (List Int×Int×Unit) :=
  iter (fun r y=>yJ0 n (fun cc bD bE b8 bZ=>r ((cc,(bD,(bE,(b8,())))),((bZ,()),()))) y.1.1 y.1.2.1 y.1.2.2.1 y.1.2.2.2.1 y.2.1.1) k ((cc,(bD,(bE,(b8,())))),((bZ,()),()))
def yMX (n:Nat) (b:Bas) (v:List Int):Option (List Int×Int×Unit) :=
  (Option.bind (zX_M b v) fun (v0:Int×Unit)=>(bif v0.1 != 0 then some ([],v0.1,()) else (yI5 n n (v) (b.1) ((↑b.1.length:Int)) ((0:Int)) ([]))))
def yMW (b:Bas) (v:List Int):Option (List Int×Int×Unit) := yMX 1000 b v
abbrev z0a_e:Entry := { f := 31,args := .pair t41 (.pair t26 .unit),rS := .pair t26 (.pair t35 .unit),m := fun x=>yMW x.1 x.2.1 }
theorem yNR:FnOK Tryz.prog z0a_e := fF (mu := [7]) 1000 Tryz.f31 (fun n x=>yMX n x.1 x.2.1) [[1,7,17,18,19]] (yC yHb eNil)
def yIw (n:Nat) (r7:List Psg→List Psg→Int→Int→List (List (Int×Int×Unit))→Option (List (List (Int×Int×Unit))×Int×Unit)) (r9:List Psg→Int→List Psg→Int→Int→List Int→Int→Int→List (List (Int×Int×Unit))→List (Int×Int×Unit)→Option (List (List (Int×Int×Unit))×Int×Unit)) (au:List Psg) (bG:Int) (bH:List Psg) (bI:Int) (bJ:Int) (bK:List Int) (bL:Int) (b9:Int) (ca:List (List (Int×Int×Unit))) (cb:List (Int×Int×Unit)):Option (List (List (Int×Int×Unit))×Int×Unit) :=
  (bif decide (b9 < bL) then (Option.bind (idx bK b9) fun (v10:Int)=>(Option.bind (idx au bG) fun (v11:Psg)=>(Option.bind (idx (v11.2.2.1.getD []) b9) fun (v12:Int)=>(bif decide (cb.length + (1:Nat)≤memMax) then r9 au bG bH bI bJ bK bL (IntKind.i64.wrap (b9 + 1)) ca (cb ++ [(v10,v12,())]) else none)))) else (bif decide (ca.length + (1:Nat)≤memMax) then r7 au bH bI (IntKind.i64.wrap (bJ + 1)) (ca ++ [cb]) else none))
def yJP (n:Nat) (r7:List Psg→List Psg→Int→Int→List (List (Int×Int×Unit))→Option (List (List (Int×Int×Unit))×Int×Unit)) (k:Nat) (au:List Psg) (bG:Int) (bH:List Psg) (bI:Int) (bJ:Int) (bK:List Int) (bL:Int) (b9:Int) (ca:List (List (Int×Int×Unit))) (cb:List (Int×Int×Unit)):Option (List (List (Int×Int×Unit))×Int×Unit) :=
  iter (fun r y=>yIw n r7 (fun au bG bH bI bJ bK bL b9 ca cb=>r ((au,(bG,(bH,(bI,(bJ,(bK,(bL,(b9,())))))))),((ca,(cb,())),()))) y.1.1 y.1.2.1 y.1.2.2.1 y.1.2.2.2.1 y.1.2.2.2.2.1 y.1.2.2.2.2.2.1 y.1.2.2.2.2.2.2.1 y.1.2.2.2.2.2.2.2.1 y.2.1.1 y.2.1.2.1) k ((au,(bG,(bH,(bI,(bJ,(bK,(bL,(b9,())))))))),((ca,(cb,())),()))
def yIN (n:Nat) (r7:List Psg→List Psg→Int→Int→List (List (Int×Int×Unit))→Option (List (List (Int×Int×Unit))×Int×Unit)) (aJ:List Psg) (bM:List Psg) (bN:Int) (ba:Int) (cd:List (List (Int×Int×Unit))):Option (List (List (Int×Int×Unit))×Int×Unit) :=
  (bif decide (ba < bN) then (Option.bind (idx bM ba) fun (v8:Psg)=>(yJP n r7 n (aJ) (ba) (bM) (bN) (ba) (v8.2.2.1.getD []) ((↑(v8.2.2.1.getD []).length:Int)) ((0:Int)) (cd) ([]))) else some (cd,(0:Int),()))
def yJG (n:Nat)  (k:Nat) (aJ:List Psg) (bM:List Psg) (bN:Int) (ba:Int) (cd:List (List (Int×Int×Unit))):Option (List (List (Int×Int×Unit))×Int×Unit) :=
  iter (fun r y=>yIN n (fun aJ bM bN ba cd=>r ((aJ,(bM,(bN,(ba,())))),((cd,()),()))) y.1.1 y.1.2.1 y.1.2.2.1 y.1.2.2.2.1 y.2.1.1) k ((aJ,(bM,(bN,(ba,())))),((cd,()),()))
def yOJ (n:Nat) (b:Bas) (v:List (Int×Int×Unit)) (l:List Rng):Option (List (List (Int×Int×Unit))×Int×Unit) :=
  (Option.bind (zQ_M b v l) fun (v0:Int×Unit)=>(bif v0.1 != 0 then some ([],v0.1,()) else (Option.bind (yJ6 v (1:Int)) fun (v1:List Int×Unit)=>(Option.bind (z6_M l fun (x:Rng×Unit)=>zZ_M x.1) fun (v2:List Cnd×Unit)=>(Option.bind (zp_M b v1.1 v2.1) fun (v3:List Psg×Int×Unit)=>(bif v3.2.1 != 0 then some ([],v3.2.1,()) else (Option.bind (yJ6 v (0:Int)) fun (v4:List Int×Unit)=>(Option.bind (z6_M l fun (x:Rng×Unit)=>zc_M x.1) fun (v5:List Cnd×Unit)=>(Option.bind (zp_M b v4.1 v5.1) fun (v6:List Psg×Int×Unit)=>(bif v6.2.1 != 0 then some ([],v6.2.1,()) else (yJG n n (v3.1) (v6.1) ((↑v6.1.length:Int)) ((0:Int)) ([]))))))))))))
def yMu (b:Bas) (v:List (Int×Int×Unit)) (l:List Rng):Option (List (List (Int×Int×Unit))×Int×Unit) := yOJ 1000 b v l
abbrev z00_e:Entry := { f := 66,args := .pair t41 (.pair t97 (.pair t108 .unit)),rS := .pair t119 (.pair t35 .unit),m := fun x=>yMu x.1 x.2.1 x.2.2.1 }
theorem yN0:FnOK Tryz.prog z00_e := fF (mu := [12,15]) 1000 Tryz.f66 (fun n x=>yOJ n x.1 x.2.1 x.2.2.1) [[9,12,49,50,51],[9,12,13,15,49,50,51,57,58,59]] (yC yPK (yC yK6 (yC yPG (yC yOT (yC yNW (yC yOr eNil))))))
def yNX (n:Nat) (b:Bas) (v:List Int) (l:List Cnd):Option (List Psg×Int×Unit) :=
  (Option.bind (zX_M b v) fun (v0:Int×Unit)=>(Option.bind (z7_M l fun (z:Cnd×Unit)=>zG_M b z.1) fun (v1:List Int×Unit)=>(Option.bind (y0h v1.1) fun (v2:Int×Unit)=>(Option.bind (y0h [v0.1,(z0c (decide ((↑l.length:Int) > 96)) (5:Int)).1,v2.1]) fun (v3:Int×Unit)=>(bif v3.1 != 0 then some ([],v3.1,()) else (Option.bind (zp_M b v l) fun (v4:List Psg×Int×Unit)=>some (v4.1,v4.2.1,())))))))
def yIe (b:Bas) (v:List Int) (l:List Cnd):Option (List Psg×Int×Unit) := yNX 0 b v l
abbrev z01_e:Entry := { f := 96,args := .pair t41 (.pair t26 (.pair t54 .unit)),rS := .pair t167 (.pair t35 .unit),m := fun x=>yIe x.1 x.2.1 x.2.2.1 }
theorem yGM:FnOK Tryz.prog z01_e := fF 0 Tryz.f96 (fun n x=>yNX n x.1 x.2.1 x.2.2.1) [] (yC yHb (yC y3c (yC yNB (yC yOk (yC y3q (yC yNW eNil))))))
end
end Go.Tw
end
section
set_option maxRecDepth 1000000
namespace Go.Tw
open Go.Vx Go.Vx.B Go.Proofs
noncomputable section
def yM4 (n:Nat) (b:Bas) (v:List Int) (l:List Cnd):Option (List (List Int)×Int×Unit) :=
  (Option.bind (yIe b v l) fun (v0:List Psg×Int×Unit)=>(Option.bind (yNv v0.1) fun (v1:List (List Int)×Unit)=>some (v1.1,v0.2.1,())))
def yMU (b:Bas) (v:List Int) (l:List Cnd):Option (List (List Int)×Int×Unit) := yM4 0 b v l
abbrev z0h_e:Entry := { f := 27,args := .pair t41 (.pair t26 (.pair t54 .unit)),rS := .pair t56 (.pair t35 .unit),m := fun x=>yMU x.1 x.2.1 x.2.2.1 }
theorem yNI:FnOK Tryz.prog z0h_e := fF 0 Tryz.f27 (fun n x=>yM4 n x.1 x.2.1 x.2.2.1) [] (yC yGM (yC yNe eNil))
def yNr (n:Nat) (b:Bas) (v:List Int) (c:Cnd):Option (List Int×Int×Unit) :=
  (Option.bind (yIe b v [c]) fun (v0:List Psg×Int×Unit)=>(bif v0.2.1 != 0 then some ([],v0.2.1,()) else (Option.bind (idx v0.1 (0:Int)) fun (v1:Psg)=>some (v1.2.1,(0:Int),()))))
def yLy (b:Bas) (v:List Int) (c:Cnd):Option (List Int×Int×Unit) := yNr 0 b v c
abbrev z0K_e:Entry := { f := 42,args := .pair t41 (.pair t26 (.pair t44 .unit)),rS := .pair t26 (.pair t35 .unit),m := fun x=>yLy x.1 x.2.1 x.2.2.1 }
theorem yM8:FnOK Tryz.prog z0K_e := fF 0 Tryz.f42 (fun n x=>yNr n x.1 x.2.1 x.2.2.1) [] (yC yGM eNil)
def yKu (n:Nat) (r1:Bas→List Psg→Int→Int→Int→Int→Int→Int→Int→Int→Option ((Int×Int×Int×Unit)×Int×Unit)) (r5:Bas→List Psg→Int→Int→List Int→Int→Int→Int→Int→Int→Int→Int→Int→Option ((Int×Int×Int×Unit)×Int×Unit)) (bc:Bas) (aK:List Psg) (aL:Int) (aM:Int) (aN:List Int) (aO:Int) (aq:Int) (av:Int) (aw:Int) (ax:Int) (ay:Int) (az:Int) (aA:Int):Option ((Int×Int×Int×Unit)×Int×Unit) :=
  (bif decide (aq < aO) then (Option.bind (idx aN aq) fun (v6:Int)=>(Option.bind (idx bc.2.1 aq) fun (v7:Lnk)=>(bif v7.2.1==(-1:Int) then (Option.bind (idx bc.2.1 aq) fun (v10:Lnk)=>(bif v10.2.2.1==(-1:Int) then r5 bc aK aL aM aN aO (IntKind.i64.wrap (aq + 1)) av aw ax ay (IntKind.i64.wrap (az + if (0:Int) > v6 then (0:Int) else v6)) (IntKind.i64.wrap (IntKind.i64.wrap (aA + if (0:Int) > IntKind.i64.wrap ((0:Int) - v6) then (0:Int) else IntKind.i64.wrap ((0:Int) - v6)) + v6)) else r5 bc aK aL aM aN aO (IntKind.i64.wrap (aq + 1)) av aw ax ay (IntKind.i64.wrap (az + if (0:Int) > v6 then (0:Int) else v6)) (IntKind.i64.wrap (aA + if (0:Int) > IntKind.i64.wrap ((0:Int) - v6) then (0:Int) else IntKind.i64.wrap ((0:Int) - v6))))) else (Option.bind (idx bc.2.1 aq) fun (v11:Lnk)=>(bif v11.2.2.1==(-1:Int) then r5 bc aK aL aM aN aO (IntKind.i64.wrap (aq + 1)) av aw ax ay az (IntKind.i64.wrap (aA + v6)) else r5 bc aK aL aM aN aO (IntKind.i64.wrap (aq + 1)) av aw ax ay az aA))))) else r1 bc aK aL (IntKind.i64.wrap (aM + 1)) av aw ax ay az aA)
def yKL (n:Nat) (r1:Bas→List Psg→Int→Int→Int→Int→Int→Int→Int→Int→Option ((Int×Int×Int×Unit)×Int×Unit)) (k:Nat) (bc:Bas) (aK:List Psg) (aL:Int) (aM:Int) (aN:List Int) (aO:Int) (aq:Int) (av:Int) (aw:Int) (ax:Int) (ay:Int) (az:Int) (aA:Int):Option ((Int×Int×Int×Unit)×Int×Unit) :=
  iter (fun r y=>yKu n r1 (fun bc aK aL aM aN aO aq av aw ax ay az aA=>r ((bc,(aK,(aL,(aM,(aN,(aO,(aq,()))))))),(((av,(aw,(ax,()))),((ay,(az,(aA,()))),())),()))) y.1.1 y.1.2.1 y.1.2.2.1 y.1.2.2.2.1 y.1.2.2.2.2.1 y.1.2.2.2.2.2.1 y.1.2.2.2.2.2.2.1 y.2.1.1.1 y.2.1.1.2.1 y.2.1.1.2.2.1 y.2.1.2.1.1 y.2.1.2.1.2.1 y.2.1.2.1.2.2.1) k ((bc,(aK,(aL,(aM,(aN,(aO,(aq,()))))))),(((av,(aw,(ax,()))),((ay,(az,(aA,()))),())),()))
def yKN (n:Nat) (r1:Bas→List Psg→Int→Int→Int→Int→Int→Int→Int→Int→Option ((Int×Int×Int×Unit)×Int×Unit)) (r3:Bas→List Psg→Int→Int→List Int→Int→Int→Int→Int→Int→Int→Int→Int→Int→Bool→List Int→List Int→Option (List Int)→Option ((Int×Int×Int×Unit)×Int×Unit)) (ce:Bas) (bO:List Psg) (bQ:Int) (bR:Int) (bS:List Int) (bU:Int) (bh:Int) (aT:Int) (aU:Int) (aV:Int) (aW:Int) (aX:Int) (aY:Int) (bi:Int) (bj:Bool) (bl:List Int) (aH:List Int) (bm:Option (List Int)):Option ((Int×Int×Int×Unit)×Int×Unit) :=
  (bif decide (bh < bU) then (Option.bind (idx bS bh) fun (v4:Int)=>r3 ce bO bQ bR bS bU (IntKind.i64.wrap (bh + 1)) aT aU aV (IntKind.i64.wrap (aW + v4)) aX aY bi bj bl aH bm) else (yKL n r1 n (ce) (bO) (bQ) (bR) (aH) ((↑aH.length:Int)) ((0:Int)) (aT) (aU) (aV) (aW) (aX) (aY)))
def yKc (n:Nat) (r1:Bas→List Psg→Int→Int→Int→Int→Int→Int→Int→Int→Option ((Int×Int×Int×Unit)×Int×Unit)) (k:Nat) (ce:Bas) (bO:List Psg) (bQ:Int) (bR:Int) (bS:List Int) (bU:Int) (bh:Int) (aT:Int) (aU:Int) (aV:Int) (aW:Int) (aX:Int) (aY:Int) (bi:Int) (bj:Bool) (bl:List Int) (aH:List Int) (bm:Option (List Int)):Option ((Int×Int×Int×Unit)×Int×Unit) :=
  iter (fun r y=>yKN n r1 (fun ce bO bQ bR bS bU bh aT aU aV aW aX aY bi bj bl aH bm=>r ((ce,(bO,(bQ,(bR,(bS,(bU,(bh,()))))))),(((aT,(aU,(aV,()))),((aW,(aX,(aY,()))),((bi,(bj,(bl,(aH,(bm,()))))),()))),()))) y.1.1 y.1.2.1 y.1.2.2.1 y.1.2.2.2.1 y.1.2.2.2.2.1 y.1.2.2.2.2.2.1 y.1.2.2.2.2.2.2.1 y.2.1.1.1 y.2.1.1.2.1 y.2.1.1.2.2.1 y.2.1.2.1.1 y.2.1.2.1.2.1 y.2.1.2.1.2.2.1 y.2.1.2.2.1.1 y.2.1.2.2.1.2.1 y.2.1.2.2.1.2.2.1 y.2.1.2.2.1.2.2.2.1 y.2.1.2.2.1.2.2.2.2.1) k ((ce,(bO,(bQ,(bR,(bS,(bU,(bh,()))))))),(((aT,(aU,(aV,()))),((aW,(aX,(aY,()))),((bi,(bj,(bl,(aH,(bm,()))))),()))),()))
def yKs (n:Nat) (r1:Bas→List Psg→Int→Int→Int→Int→Int→Int→Int→Int→Option ((Int×Int×Int×Unit)×Int×Unit)) (cf:Bas) (bV:List Psg) (bW:Int) (bn:Int) (bp:Int) (bq:Int) (br:Int) (aZ:Int) (b4:Int) (b5:Int):Option ((Int×Int×Int×Unit)×Int×Unit) :=
  (bif decide (bn < bW) then (Option.bind (idx bV bn) fun (v2:Psg)=>(yKc n r1 n (cf) (bV) (bW) (bn) (v2.1.2.2.1) ((↑v2.1.2.2.1.length:Int)) ((0:Int)) (bp) (bq) (br) (aZ) (b4) (b5) (v2.1.1) (v2.1.2.1) (v2.1.2.2.1) (v2.2.1) (v2.2.2.1))) else some ((aZ,b4,b5,()),(0:Int),()))
def yKT (n:Nat)  (k:Nat) (cf:Bas) (bV:List Psg) (bW:Int) (bn:Int) (bp:Int) (bq:Int) (br:Int) (aZ:Int) (b4:Int) (b5:Int):Option ((Int×Int×Int×Unit)×Int×Unit) :=
  iter (fun r y=>yKs n (fun cf bV bW bn bp bq br aZ b4 b5=>r ((cf,(bV,(bW,(bn,())))),(((bp,(bq,(br,()))),((aZ,(b4,(b5,()))),())),()))) y.1.1 y.1.2.1 y.1.2.2.1 y.1.2.2.2.1 y.2.1.1.1 y.2.1.1.2.1 y.2.1.1.2.2.1 y.2.1.2.1.1 y.2.1.2.1.2.1 y.2.1.2.1.2.2.1) k ((cf,(bV,(bW,(bn,())))),(((bp,(bq,(br,()))),((aZ,(b4,(b5,()))),())),()))
def zz_m (n:Nat) (b:Bas) (v:List Int) (l:List Cnd):Option ((Int×Int×Int×Unit)×Int×Unit) :=
  (Option.bind (yIe b v l) fun (v0:List Psg×Int×Unit)=>(bif v0.2.1 != 0 then some (((0:Int),(0:Int),(0:Int),()),v0.2.1,()) else (yKT n n (b) (v0.1) ((↑v0.1.length:Int)) ((0:Int)) ((0:Int)) ((0:Int)) ((0:Int)) ((0:Int)) ((0:Int)) ((0:Int)))))
def zz_M (b:Bas) (v:List Int) (l:List Cnd):Option ((Int×Int×Int×Unit)×Int×Unit) := zz_m 1000 b v l
abbrev zz_e:Entry := { f := 45,args := .pair t41 (.pair t26 (.pair t54 .unit)),rS := .pair t78 (.pair t35 .unit),m := fun x=>zz_M x.1 x.2.1 x.2.2.1 }
theorem yOZ:FnOK Tryz.prog zz_e := fF 1000 Tryz.f45 (fun n x=>zz_m n x.1 x.2.1 x.2.2.1) [[3,6,10,28,29,30],[3,6,10,12,28,29,30,36,37,38],[3,6,10,28,29,30,49,50,51]] (yC yGM eNil)
end
end Go.Tw
end
