import Derived.Test.YtkfigfhjbejikaaGreatDoorBT
import Derived.Test.YtkfigfhjbejikaaGreatDoorB0
import Derived.Test.YtkfigfhjbejikaaGreatDoorBA
import Derived.Test.YtkfigfhjbejikaaGreatDoorBC
set_option linter.all false
section
set_option maxRecDepth 1000000
namespace Go.Tw
open Go.Vx Go.Vx.B Go.Proofs
noncomputable section
def zW_m (n:Nat) (l:Lnk) (p1:Bas):Option (Int×Unit) :=
  (Option.bind (zk_M l (↑p1.1.length:Int)) fun (v0:Int×Unit)=>some (v0.1,()))
def zW_M (l:Lnk) (p1:Bas):Option (Int×Unit) := zW_m 0 l p1
abbrev zW_e:Entry := { f := 102,args := .pair t163 (.pair (.ref t41) .unit),rS := .pair t35 .unit,m := fun x=>zW_M x.1 x.2.1 }
theorem yPk:FnOK Tryz.prog zW_e := fF 0 Tryz.f102 (fun n x=>zW_m n x.1 x.2.1) [] (yC yQM eNil)
def zL_m (n:Nat) (b:Bas) (l:List Rng):Option (Int×Unit) :=
  (Option.bind (zA_M l fun (z:Rng×Unit)=>zN_M b z.1) fun (v0:List Int×Unit)=>(Option.bind (y0n v0.1) fun (v1:Int×Unit)=>(Option.bind (y0n [(z0f (decide ((↑l.length:Int) > 96)) (5:Int)).1,v1.1]) fun (v2:Int×Unit)=>some (v2.1,()))))
def zL_M (b:Bas) (l:List Rng):Option (Int×Unit) := zL_m 0 b l
abbrev zL_e:Entry := { f := 108,args := .pair t41 (.pair t108 .unit),rS := .pair t35 .unit,m := fun x=>zL_M x.1 x.2.1 }
theorem yQR:FnOK Tryz.prog zL_e := fF 0 Tryz.f108 (fun n x=>zL_m n x.1 x.2.1) [] (yC y3z (yC yQV (yC yPm (yC y40 eNil))))
end
end Go.Tw
end
section
set_option maxRecDepth 1000000
namespace Go.Tw
open Go.Vx Go.Vx.B Go.Proofs
noncomputable section
def yHd (n:Nat) (r1:Bas→List Nod→Int→Int→List (List UInt8×Bool)→Option (Int×Unit)) (au:Bas) (ac:List Nod) (bx:Int) (bc:Int) (aN:List (List UInt8×Bool)):Option (Int×Unit) :=
  (bif decide (bc < bx) then (Option.bind (idx ac bc) fun (v2:Nod)=>(Option.bind (yI2 v2.1) fun (v3:Bool×Unit)=>(Option.bind (y0n [(z0f (!v3.1) (8:Int)).1,(z0f ((yY Ty.str Ty.bool aN v2.1).getD Bool.false) (9:Int)).1,(z0D v2.2.1 (1:Int) (1000:Int)).1,(z0D v2.2.2.1 (0:Int) (1024:Int)).1]) fun (v4:Int×Unit)=>(bif v4.1 != 0 then some (v4.1,()) else r1 au ac bx (IntKind.i64.wrap (bc + 1)) (y1D Ty.str Ty.bool aN v2.1 Bool.true))))) else (bif decide ((↑au.2.1.length:Int) > 16) then some ((5:Int),()) else (Option.bind (zB_M au.2.1 fun (x:Lnk×Unit)=>zW_M x.1 au) fun (v5:List Int×Unit)=>(Option.bind (y0n v5.1) fun (v6:Int×Unit)=>some (v6.1,())))))
def yAU (n:Nat)  (k:Nat) (au:Bas) (ac:List Nod) (bx:Int) (bc:Int) (aN:List (List UInt8×Bool)):Option (Int×Unit) :=
  iter (fun r y=>yHd n (fun au ac bx bc aN=>r ((au,(ac,(bx,(bc,())))),((aN,()),()))) y.1.1 y.1.2.1 y.1.2.2.1 y.1.2.2.2.1 y.2.1.1) k ((au,(ac,(bx,(bc,())))),((aN,()),()))
def zj_m (n:Nat) (b:Bas):Option (Int×Unit) :=
  (Option.bind (y0n [(z0f ((↑b.1.length:Int)==0) (12:Int)).1,(z0f (decide ((↑b.1.length:Int) > 8)) (5:Int)).1]) fun (v0:Int×Unit)=>(bif v0.1 != 0 then some (v0.1,()) else (yAU n n (b) (b.1) ((↑b.1.length:Int)) ((0:Int)) ([]))))
def yGT (au:Bas) (ac:List Nod) (bc:Int) (v2:Nod) (aN:List (List UInt8×Bool)):Option ((Int×Unit)⊕(List (List UInt8×Bool))) :=
  (Option.bind (yI2 v2.1) fun (v3:Bool×Unit)=>(Option.bind (y0n [(z0f (!v3.1) (8:Int)).1,(z0f ((yY Ty.str Ty.bool aN v2.1).getD Bool.false) (9:Int)).1,(z0D v2.2.1 (1:Int) (1000:Int)).1,(z0D v2.2.2.1 (0:Int) (1024:Int)).1]) fun (v4:Int×Unit)=>(bif v4.1 != 0 then (some (Sum.inl ((v4.1,())))) else (some (Sum.inr (y1D Ty.str Ty.bool aN v2.1 Bool.true))))))
def yFL (au:Bas) (ac:List Nod) (aN:List (List UInt8×Bool)):Option (Int×Unit) :=
  (bif decide ((↑au.2.1.length:Int) > 16) then (some (((5:Int),()))) else (Option.bind (zB_M au.2.1 fun (x:Lnk×Unit)=>zW_M x.1 au) fun (v5:List Int×Unit)=>(Option.bind (y0n v5.1) fun (v6:Int×Unit)=>(some ((v6.1,()))))))
theorem yG6 (n:Nat) (hn:big≤n)  (au:Bas) (ac:List Nod) (aN:List (List UInt8×Bool)) (hx:List.length (ac) < lenMax):LeF some (yK (fun bh ci aC=>yGT au ac bh ci aC) (fun aC=>yFL au ac aC) 0 (ac) aN) (yAU n n au ac (List.length (ac):Int) 0 aN) := by
  refine yT (f := some) (W := fun cf bh aC=>yAU n cf au ac (List.length (ac):Int) bh aC) (fun cf bh aC=>?_) hx aN n (by unfold big at hn; unfold lenMax at hx; omega)
  show LeF _ _ (yHd n (yAU n cf) au ac (List.length (ac):Int) bh aC)
  exact y5 (y6 fun v2=>(y6 fun v3=>(y6 fun v4=>(y5 (y7 rfl) (y7 rfl))))) (y0R (y5 (y7 rfl) (y6 fun v5=>(y6 fun v6=>(y7 rfl)))))
def zj_M (b:Bas):Option (Int×Unit) :=
  (Option.bind (y0n [(z0f ((↑b.1.length:Int)==0) (12:Int)).1,(z0f (decide ((↑b.1.length:Int) > 8)) (5:Int)).1]) fun (v0:Int×Unit)=>(bif v0.1 != 0 then (some ((v0.1,()))) else (bif decide (List.length (b.1) < lenMax) then yK (fun bh ci aC=>yGT (b) (b.1) bh ci aC) (fun aC=>yFL (b) (b.1) aC) 0 (b.1) ([]) else none)))
abbrev zj_e:Entry := { f := 39,args := .pair t41 .unit,rS := .pair t35 .unit,m := fun x=>zj_M x.1 }
theorem yJ4:FnOK Tryz.prog zj_e := fB (mu := [23]) Tryz.f39 (fun n x=>zj_m n x.1) [[1,4,25,26,27]] (yC y3z (yC y40 (yC yNe (yC y7I (yC yPk (yC yPb eNil)))))) fun n hn x=>(y6 fun v0=>(y5 (y7 rfl) (yV fun hx=>by apply yG6 n hn; exact hx)))
end
end Go.Tw
end
section
set_option maxRecDepth 1000000
namespace Go.Tw
open Go.Vx Go.Vx.B Go.Proofs
noncomputable section
def zX_m (n:Nat) (b:Bas) (v:List Int):Option (Int×Unit) :=
  (Option.bind (zj_M b) fun (v0:Int×Unit)=>(Option.bind (zK_M b v) fun (v1:Int×Unit)=>(Option.bind (y0n [v0.1,v1.1]) fun (v2:Int×Unit)=>some (v2.1,()))))
def zX_M (b:Bas) (v:List Int):Option (Int×Unit) := zX_m 0 b v
abbrev zX_e:Entry := { f := 40,args := .pair t41 (.pair t26 .unit),rS := .pair t35 .unit,m := fun x=>zX_M x.1 x.2.1 }
theorem yIF:FnOK Tryz.prog zX_e := fF 0 Tryz.f40 (fun n x=>zX_m n x.1 x.2.1) [] (yC yJ4 (yC yPz (yC y40 eNil)))
def zQ_m (n:Nat) (b:Bas) (v:List (Int×Int×Unit)) (l:List Rng):Option (Int×Unit) :=
  (Option.bind (zj_M b) fun (v0:Int×Unit)=>(bif v0.1 != 0 then some (v0.1,()) else (Option.bind (z8_M v fun (x:(Int×Int×Unit)×Unit)=>zP_M x.1 fun (x:Int×Unit)=>zO_M x.1) fun (v1:List Int×Unit)=>(Option.bind (y0n v1.1) fun (v2:Int×Unit)=>(Option.bind (zL_M b l) fun (v3:Int×Unit)=>(Option.bind (y0n [(z0f ((↑v.length:Int) != (↑b.1.length:Int)) (2:Int)).1,v2.1,v3.1]) fun (v4:Int×Unit)=>some (v4.1,())))))))
def zQ_M (b:Bas) (v:List (Int×Int×Unit)) (l:List Rng):Option (Int×Unit) := zQ_m 0 b v l
abbrev zQ_e:Entry := { f := 117,args := .pair t41 (.pair t97 (.pair t108 .unit)),rS := .pair t35 .unit,m := fun x=>zQ_M x.1 x.2.1 x.2.2.1 }
theorem yQT:FnOK Tryz.prog zQ_e := fF 0 Tryz.f117 (fun n x=>zQ_m n x.1 x.2.1 x.2.2.1) [] (yC yPt (yC yPh (yC yJ4 (yC y3z (yC yPD (yC y40 (yC yQR eNil)))))))
def il163:Inl := { f := 163,fn := Tryz.f163,keep := [],mU := [4],fz := [] }
theorem yJi:y1q Tryz.prog il163 := ⟨by kernel_rfl,by kernel_rfl,fun e0 h=>by cases (show (none:Option LibK) = some e0 from h)⟩
def il162:Inl := { f := 162,fn := Tryz.f162,keep := [],mU := [],fz := [] }
theorem yJ8:y1q Tryz.prog il162 := ⟨by kernel_rfl,by kernel_rfl,fun e0 h=>by cases (show (none:Option LibK) = some e0 from h)⟩
def il185:Inl := { f := 185,fn := Tryz.f185,keep := [],mU := [2],fz := [] }
theorem yKF:y1q Tryz.prog il185 := ⟨by kernel_rfl,by kernel_rfl,fun e0 h=>by cases (show (none:Option LibK) = some e0 from h)⟩
def il186:Inl := { f := 186,fn := Tryz.f186,keep := [[0,2,3,10,11,12,34,35]],mU := [],fz := [] }
theorem yJJ:y1q Tryz.prog il186 := ⟨by kernel_rfl,by kernel_rfl,fun e0 h=>by cases (show (none:Option LibK) = some e0 from h)⟩
def yLx (n:Nat) (r0:Bas→List Cnd→Int→Int→List Cnd→Bas→List Cnd→Bas→List Int→List Psg→List Cnd→Bas→List Cnd→Bas→List Cnd→Bas→List Cnd→Bas→Bas→List Int→List Cnd→Bas→Int→Bas→List Int→List Cnd→List Cnd→Bas→Option (List Psg×Int×Unit)) (ca:Bas) (bi:List Cnd) (bj:Int) (bd:Int) (ak:List Cnd) (al:Bas) (am:List Cnd) (aq:Bas) (bl:List Int) (ae:List Psg) (aU:List Cnd) (aV:Bas) (aW:List Cnd) (aX:Bas) (aD:List Cnd) (aE:Bas) (aF:List Cnd) (aG:Bas) (bz:Bas) (bA:List Int) (bB:List Cnd) (bC:Bas) (bD:Int) (bE:Bas) (bG:List Int) (bH:List Cnd) (aH:List Cnd) (aI:Bas):Option (List Psg×Int×Unit) :=
  (bif decide (bd < bj) then (Option.bind (idx bi bd) fun (v1:Cnd)=>(Option.bind (zi_M ca bl (v1.1,v1.2.1,v1.2.2.1,())) fun (v2:List Int×Option (List Int)×Bool×Unit)=>(bif !v2.2.2.1 then (bif decide (ae.length + (1:Nat)≤memMax) then (bif !v2.2.2.1 then (bif decide ((↑(ae ++ [((v1.1,v1.2.1,v1.2.2.1,()),v2.1,Option.none,())]).length:Int) > 0) then (Option.bind (idx (ae ++ [((v1.1,v1.2.1,v1.2.2.1,()),v2.1,Option.none,())]) (IntKind.i64.wrap ((↑(ae ++ [((v1.1,v1.2.1,v1.2.2.1,()),v2.1,Option.none,())]).length:Int) - (1:Int)))) fun (v11:Psg)=>(Option.bind ((ae ++ [((v1.1,v1.2.1,v1.2.2.1,()),v2.1,Option.none,())])[(IntKind.i64.wrap ((↑(ae ++ [((v1.1,v1.2.1,v1.2.2.1,()),v2.1,Option.none,())]).length:Int) - (1:Int))).toNat]?) fun (v12:Psg)=>(bif v12.2.2.1.isNone then some ([],(4:Int),()) else some (ae ++ [((v1.1,v1.2.1,v1.2.2.1,()),v2.1,Option.none,())],(0:Int),())))) else some (ae ++ [((v1.1,v1.2.1,v1.2.2.1,()),v2.1,Option.none,())],(0:Int),())) else r0 ca bi bj (IntKind.i64.wrap (bd + 1)) ak al am aq [] (ae ++ [((v1.1,v1.2.1,v1.2.2.1,()),v2.1,Option.none,())]) aU aV aW aX aD aE aF aG bz bA bB bC bD bE bG bH aH aI) else none) else (bif decide (ae.length + (1:Nat)≤memMax) then (bif !v2.2.2.1 then (bif decide ((↑(ae ++ [((v1.1,v1.2.1,v1.2.2.1,()),v2.1,v2.2.1,())]).length:Int) > 0) then (Option.bind (idx (ae ++ [((v1.1,v1.2.1,v1.2.2.1,()),v2.1,v2.2.1,())]) (IntKind.i64.wrap ((↑(ae ++ [((v1.1,v1.2.1,v1.2.2.1,()),v2.1,v2.2.1,())]).length:Int) - (1:Int)))) fun (v17:Psg)=>(Option.bind ((ae ++ [((v1.1,v1.2.1,v1.2.2.1,()),v2.1,v2.2.1,())])[(IntKind.i64.wrap ((↑(ae ++ [((v1.1,v1.2.1,v1.2.2.1,()),v2.1,v2.2.1,())]).length:Int) - (1:Int))).toNat]?) fun (v18:Psg)=>(bif v18.2.2.1.isNone then some ([],(4:Int),()) else some (ae ++ [((v1.1,v1.2.1,v1.2.2.1,()),v2.1,v2.2.1,())],(0:Int),())))) else some (ae ++ [((v1.1,v1.2.1,v1.2.2.1,()),v2.1,v2.2.1,())],(0:Int),())) else r0 ca bi bj (IntKind.i64.wrap (bd + 1)) ak al am aq (v2.2.1.getD []) (ae ++ [((v1.1,v1.2.1,v1.2.2.1,()),v2.1,v2.2.1,())]) aU aV aW aX aD aE aF aG bz bA bB bC bD bE bG bH aH aI) else none)))) else (bif decide ((↑ae.length:Int) > 0) then (Option.bind (idx ae (IntKind.i64.wrap ((↑ae.length:Int) - (1:Int)))) fun (v23:Psg)=>(Option.bind (ae[(IntKind.i64.wrap ((↑ae.length:Int) - (1:Int))).toNat]?) fun (v24:Psg)=>(bif v24.2.2.1.isNone then some ([],(4:Int),()) else some (ae,(0:Int),())))) else some (ae,(0:Int),())))
def yLV (n:Nat)  (k:Nat) (ca:Bas) (bi:List Cnd) (bj:Int) (bd:Int) (ak:List Cnd) (al:Bas) (am:List Cnd) (aq:Bas) (bl:List Int) (ae:List Psg) (aU:List Cnd) (aV:Bas) (aW:List Cnd) (aX:Bas) (aD:List Cnd) (aE:Bas) (aF:List Cnd) (aG:Bas) (bz:Bas) (bA:List Int) (bB:List Cnd) (bC:Bas) (bD:Int) (bE:Bas) (bG:List Int) (bH:List Cnd) (aH:List Cnd) (aI:Bas):Option (List Psg×Int×Unit) :=
  iter (fun r y=>yLx n (fun ca bi bj bd ak al am aq bl ae aU aV aW aX aD aE aF aG bz bA bB bC bD bE bG bH aH aI=>r ((ca,(bi,(bj,(bd,())))),((((ak,(al,())),((am,(aq,())),())),((bl,()),((),(ae,())))),((aU,(aV,())),((aW,(aX,())),((aD,(aE,())),((aF,(aG,())),(bz,(bA,(bB,(bC,(bD,(bE,(bG,(bH,((aH,(aI,())),())))))))))))))))) y.1.1 y.1.2.1 y.1.2.2.1 y.1.2.2.2.1 y.2.1.1.1.1 y.2.1.1.1.2.1 y.2.1.1.2.1.1 y.2.1.1.2.1.2.1 y.2.1.2.1.1 y.2.1.2.2.2.1 y.2.2.1.1 y.2.2.1.2.1 y.2.2.2.1.1 y.2.2.2.1.2.1 y.2.2.2.2.1.1 y.2.2.2.2.1.2.1 y.2.2.2.2.2.1.1 y.2.2.2.2.2.1.2.1 y.2.2.2.2.2.2.1 y.2.2.2.2.2.2.2.1 y.2.2.2.2.2.2.2.2.1 y.2.2.2.2.2.2.2.2.2.1 y.2.2.2.2.2.2.2.2.2.2.1 y.2.2.2.2.2.2.2.2.2.2.2.1 y.2.2.2.2.2.2.2.2.2.2.2.2.1 y.2.2.2.2.2.2.2.2.2.2.2.2.2.1 y.2.2.2.2.2.2.2.2.2.2.2.2.2.2.1.1 y.2.2.2.2.2.2.2.2.2.2.2.2.2.2.1.2.1) k ((ca,(bi,(bj,(bd,())))),((((ak,(al,())),((am,(aq,())),())),((bl,()),((),(ae,())))),((aU,(aV,())),((aW,(aX,())),((aD,(aE,())),((aF,(aG,())),(bz,(bA,(bB,(bC,(bD,(bE,(bG,(bH,((aH,(aI,())),())))))))))))))))
def zt_m (n:Nat) (b:Bas) (v:List Int) (l:List Cnd):Option (List Psg×Int×Unit) :=
  (yLV n n (b) (l) ((↑l.length:Int)) ((0:Int)) (l) (b) (l) (b) (v) ([]) (l) (b) (l) (b) (l) (b) (l) (b) (b) (v) (l) (b) ((0:Int)) (b) (v) (l) (l) (b))
def zt_M (b:Bas) (v:List Int) (l:List Cnd):Option (List Psg×Int×Unit) := zt_m 1000 b v l
abbrev zt_e:Entry := { f := 118,args := .pair t41 (.pair t26 (.pair t54 .unit)),rS := .pair t167 (.pair t35 .unit),m := fun x=>zt_M x.1 x.2.1 x.2.2.1 }
theorem yPJ:FnOK Tryz.prog zt_e := fFI 1000 Tryz.f118 (fun n x=>zt_m n x.1 x.2.1 x.2.2.1) [] [il163,il162,il185,il186] 8 (yC yOI eNil) (y5Y yJi (y5Y yJ8 (y5Y yKF (y5Y yJJ iNil))))
end
end Go.Tw
end
section
set_option maxRecDepth 1000000
namespace Go.Tw
open Go.Vx Go.Vx.B Go.Proofs
noncomputable section
def yBg (n:Nat) (r18:Int→Int→Bas→Cnd→List Int→Int→Option (Int×Int×Unit)) (a8:Int) (a7:Int) (ah:Bas) (ai:Cnd) (aa:List Int) (aj:Int):Option (Int×Int×Unit) :=
  (bif decide (aj < 97) then (Option.bind (idx ah.1 a8) fun (v19:Nod)=>(Option.bind (idx aa a8) fun (v20:Int)=>(Option.bind (zl_M v19 v20) fun (v21:Int×Unit)=>(bif decide (v21.1 ≥ a7) then some (aj,(0:Int),()) else (bif aj==96 then some ((0:Int),(7:Int),()) else (Option.bind (zi_M ah aa ai) fun (v22:List Int×Option (List Int)×Bool×Unit)=>(bif !v22.2.2.1 then some ((0:Int),(4:Int),()) else r18 a8 a7 ah ai (v22.2.1.getD []) (IntKind.i64.wrap (aj + 1))))))))) else some ((0:Int),(7:Int),()))
def y5I (n:Nat)  (k:Nat) (a8:Int) (a7:Int) (ah:Bas) (ai:Cnd) (aa:List Int) (aj:Int):Option (Int×Int×Unit) :=
  iter (fun r y=>yBg n (fun a8 a7 ah ai aa aj=>r ((a8,(a7,(ah,(ai,(aa,(aj,())))))),((),()))) y.1.1 y.1.2.1 y.1.2.2.1 y.1.2.2.2.1 y.1.2.2.2.2.1 y.1.2.2.2.2.2.1) k ((a8,(a7,(ah,(ai,(aa,(aj,())))))),((),()))
def y89 (n:Nat) (b:Bas) (v:List Int) (c:Cnd) (node:Int) (level:Int):Option (Int×Int×Unit) :=
  (y5I n n (node) (level) (b) (c) (v) ((0:Int)))
def yPe (n:Nat) (b:Bas) (v:List Int) (c:Cnd) (node:Int) (level:Int):Option (Int×Int×Unit) :=
  (Option.bind (zX_M b v) fun (v0:Int×Unit)=>(Option.bind (zG_M b c) fun (v1:Int×Unit)=>(bif decide (node < 0) then (Option.bind (y0n [v0.1,v1.1,(z0f Bool.true (10:Int)).1,(z0D level (0:Int) (1024:Int)).1]) fun (v2:Int×Unit)=>(bif v2.1 != 0 then some ((0:Int),v2.1,()) else (y89 n b v c node level))) else (Option.bind (y0n [v0.1,v1.1,(z0f (decide (node ≥ (↑b.1.length:Int))) (10:Int)).1,(z0D level (0:Int) (1024:Int)).1]) fun (v3:Int×Unit)=>(bif v3.1 != 0 then some ((0:Int),v3.1,()) else (y89 n b v c node level))))))
def yGI (a8:Int) (a7:Int) (ah:Bas) (ai:Cnd) (aj:Int) (aa:List Int):Option ((Int×Int×Unit)⊕(List Int)) :=
  (Option.bind (idx ah.1 a8) fun (v19:Nod)=>(Option.bind (idx aa a8) fun (v20:Int)=>(Option.bind (zl_M v19 v20) fun (v21:Int×Unit)=>(bif decide (v21.1 ≥ a7) then (some (Sum.inl ((aj,(0:Int),())))) else (bif aj==96 then (some (Sum.inl (((0:Int),(7:Int),())))) else (Option.bind (zi_M ah aa ai) fun (v22:List Int×Option (List Int)×Bool×Unit)=>(bif !v22.2.2.1 then (some (Sum.inl (((0:Int),(4:Int),())))) else (some (Sum.inr (v22.2.1.getD []))))))))))
def yHA (a8:Int) (a7:Int) (ah:Bas) (ai:Cnd) (aa:List Int):Option (Int×Int×Unit) :=
  (some (((0:Int),(7:Int),())))
theorem yCL (n:Nat) (hn:big≤n)  (a8:Int) (a7:Int) (ah:Bas) (ai:Cnd) (aa:List Int) (hx:((97:Int))≤9223372036854775807):LeF some (y1R (fun bh aC=>yGI a8 a7 ah ai bh aC) (fun aC=>yHA a8 a7 ah ai aC) (((97:Int)) - 0).toNat 0 aa) (y5I n n a8 a7 ah ai aa 0) := by
  refine y4G (f := some) (W := fun cf bh aC=>y5I n cf a8 a7 ah ai aC bh) (fun cf bh aC=>?_) hx aa n 0 (by decide) (by unfold big at hn; omega)
  show LeF _ _ (yBg n (y5I n cf) a8 a7 ah ai aC bh)
  exact y5 (y6 fun v19=>(y6 fun v20=>(y6 fun v21=>(y5 (y7 rfl) (y5 (y7 rfl) (y6 fun v22=>(y5 (y7 rfl) (y7 rfl)))))))) (y0R (y7 rfl))
def yCx (b:Bas) (v:List Int) (c:Cnd) (node:Int) (level:Int):Option (Int×Int×Unit) :=
  (bif decide (((97:Int))≤9223372036854775807) then y1R (fun bh aC=>yGI (node) (level) (b) (c) bh aC) (fun aC=>yHA (node) (level) (b) (c) aC) (((97:Int)) - 0).toNat 0 (v) else none)
theorem y2R (n:Nat) (hn:big≤n)  (b:Bas) (v:List Int) (c:Cnd) (node:Int) (level:Int):LeF some (yCx b v c node level) (y89 n b v c node level) :=
  (yV fun hx=>by apply yCL n hn; exact hx)
def yPI (b:Bas) (v:List Int) (c:Cnd) (node:Int) (level:Int):Option (Int×Int×Unit) :=
  (Option.bind (zX_M b v) fun (v0:Int×Unit)=>(Option.bind (zG_M b c) fun (v1:Int×Unit)=>(bif decide (node < 0) then (Option.bind (y0n [v0.1,v1.1,(z0f Bool.true (10:Int)).1,(z0D level (0:Int) (1024:Int)).1]) fun (v2:Int×Unit)=>(bif v2.1 != 0 then (some (((0:Int),v2.1,()))) else (yCx b v c node level))) else (Option.bind (y0n [v0.1,v1.1,(z0f (decide (node ≥ (↑b.1.length:Int))) (10:Int)).1,(z0D level (0:Int) (1024:Int)).1]) fun (v3:Int×Unit)=>(bif v3.1 != 0 then (some (((0:Int),v3.1,()))) else (yCx b v c node level))))))
abbrev z0Q_e:Entry := { f := 18,args := .pair t41 (.pair t26 (.pair t44 (.pair t3 (.pair t3 .unit)))),rS := .pair t3 (.pair t35 .unit),m := fun x=>yPI x.1 x.2.1 x.2.2.1 x.2.2.2.1 x.2.2.2.2.1 }
theorem yNw:FnOK Tryz.prog z0Q_e := fB Tryz.f18 (fun n x=>yPe n x.1 x.2.1 x.2.2.1 x.2.2.2.1 x.2.2.2.2.1) [[3,4,5,7,13,42]] (yC yIF (yC yO6 (yC y3z (yC y7I (yC y40 (yC yOc (yC yOI eNil))))))) fun n hn x=>(y6 fun v0=>(y6 fun v1=>(y5 (y6 fun v2=>(y5 (y7 rfl) (by apply y2R n hn))) (y6 fun v3=>(y5 (y7 rfl) (by apply y2R n hn))))))
def yNU (n:Nat) (b:Bas) (v:List Int):Option (List Int×Int×Unit) :=
  (Option.bind (zX_M b v) fun (v0:Int×Unit)=>(bif v0.1 != 0 then some ([],v0.1,()) else (Option.bind (zV_M b v) fun (v1:List Int×Unit)=>some (v1.1,(0:Int),()))))
def yNX (b:Bas) (v:List Int):Option (List Int×Int×Unit) := yNU 0 b v
abbrev z0C_e:Entry := { f := 29,args := .pair t41 (.pair t26 .unit),rS := .pair t26 (.pair t35 .unit),m := fun x=>yNX x.1 x.2.1 }
theorem yNT:FnOK Tryz.prog z0C_e := fF 0 Tryz.f29 (fun n x=>yNU n x.1 x.2.1) [] (yC yIF (yC yOF eNil))
def yLJ (n:Nat) (b:Bas) (v:List Int):Option (List Int×Int×Unit) :=
  (Option.bind (zX_M b v) fun (v0:Int×Unit)=>(bif v0.1 != 0 then some ([],v0.1,()) else (Option.bind (zc_M b v) fun (v1:List Int×Unit)=>some (v1.1,(0:Int),()))))
def yKA (b:Bas) (v:List Int):Option (List Int×Int×Unit) := yLJ 0 b v
abbrev z0M_e:Entry := { f := 30,args := .pair t41 (.pair t26 .unit),rS := .pair t26 (.pair t35 .unit),m := fun x=>yKA x.1 x.2.1 }
theorem yLE:FnOK Tryz.prog z0M_e := fF 0 Tryz.f30 (fun n x=>yLJ n x.1 x.2.1) [] (yC yIF (yC yQf eNil))
def yEg (n:Nat) (r1:List Int→List Nod→Int→Int→List Int→Option (List Int×Int×Unit)) (aL:List Int) (af:List Nod) (bI:Int) (aK:Int) (aJ:List Int):Option (List Int×Int×Unit) :=
  (bif decide (aK < bI) then (Option.bind (idx af aK) fun (v2:Nod)=>(Option.bind (idx aL aK) fun (v3:Int)=>(bif decide (aJ.length + (1:Nat)≤memMax) then r1 aL af bI (IntKind.i64.wrap (aK + 1)) (aJ ++ [if IntKind.i64.wrap (IntKind.i64.wrap (IntKind.i64.wrap (v2.2.1 * IntKind.i64.wrap (v2.2.2.1 + 1)) - (1:Int)) - v3) > (-1:Int) then IntKind.i64.wrap (IntKind.i64.wrap (IntKind.i64.wrap (v2.2.1 * IntKind.i64.wrap (v2.2.2.1 + 1)) - (1:Int)) - v3) else (-1:Int)]) else none))) else some (aJ,(0:Int),()))
def y6l (n:Nat)  (k:Nat) (aL:List Int) (af:List Nod) (bI:Int) (aK:Int) (aJ:List Int):Option (List Int×Int×Unit) :=
  iter (fun r y=>yEg n (fun aL af bI aK aJ=>r ((aL,(af,(bI,(aK,())))),((aJ,()),()))) y.1.1 y.1.2.1 y.1.2.2.1 y.1.2.2.2.1 y.2.1.1) k ((aL,(af,(bI,(aK,())))),((aJ,()),()))
def yPn (n:Nat) (b:Bas) (v:List Int):Option (List Int×Int×Unit) :=
  (Option.bind (zX_M b v) fun (v0:Int×Unit)=>(bif v0.1 != 0 then some ([],v0.1,()) else (y6l n n (v) (b.1) ((↑b.1.length:Int)) ((0:Int)) ([]))))
def yBy (aL:List Int) (af:List Nod) (aK:Int) (v2:Nod) (aJ:List Int):Option ((List Int×Int×Unit)⊕(List Int)) :=
  (Option.bind (idx aL aK) fun (v3:Int)=>(bif decide (aJ.length + (1:Nat)≤memMax) then (some (Sum.inr (aJ ++ [if IntKind.i64.wrap (IntKind.i64.wrap (IntKind.i64.wrap (v2.2.1 * IntKind.i64.wrap (v2.2.2.1 + 1)) - (1:Int)) - v3) > (-1:Int) then IntKind.i64.wrap (IntKind.i64.wrap (IntKind.i64.wrap (v2.2.1 * IntKind.i64.wrap (v2.2.2.1 + 1)) - (1:Int)) - v3) else (-1:Int)]))) else none))
def yHq (aL:List Int) (af:List Nod) (aJ:List Int):Option (List Int×Int×Unit) :=
  (some ((aJ,(0:Int),())))
theorem yD6 (n:Nat) (hn:big≤n)  (aL:List Int) (af:List Nod) (aJ:List Int) (hx:List.length (af) < lenMax):LeF some (yK (fun bh ci aC=>yBy aL af bh ci aC) (fun aC=>yHq aL af aC) 0 (af) aJ) (y6l n n aL af (List.length (af):Int) 0 aJ) := by
  refine yT (f := some) (W := fun cf bh aC=>y6l n cf aL af (List.length (af):Int) bh aC) (fun cf bh aC=>?_) hx aJ n (by unfold big at hn; unfold lenMax at hx; omega)
  show LeF _ _ (yEg n (y6l n cf) aL af (List.length (af):Int) bh aC)
  exact y5 (y6 fun v2=>(y6 fun v3=>(y5 (y7 rfl) yL))) (y0R (y7 rfl))
def yJ7 (b:Bas) (v:List Int):Option (List Int×Int×Unit) :=
  (Option.bind (zX_M b v) fun (v0:Int×Unit)=>(bif v0.1 != 0 then (some (([],v0.1,()))) else (bif decide (List.length (b.1) < lenMax) then yK (fun bh ci aC=>yBy (v) (b.1) bh ci aC) (fun aC=>yHq (v) (b.1) aC) 0 (b.1) ([]) else none)))
abbrev z0d_e:Entry := { f := 31,args := .pair t41 (.pair t26 .unit),rS := .pair t26 (.pair t35 .unit),m := fun x=>yJ7 x.1 x.2.1 }
theorem yL4:FnOK Tryz.prog z0d_e := fB (mu := [7]) Tryz.f31 (fun n x=>yPn n x.1 x.2.1) [[1,7,17,18,19]] (yC yIF eNil) fun n hn x=>(y6 fun v0=>(y5 (y7 rfl) (yV fun hx=>by apply yD6 n hn; exact hx)))
def yKN (n:Nat) (r7:List Psg→List Psg→Int→Int→List (List (Int×Int×Unit))→Option (List (List (Int×Int×Unit))×Int×Unit)) (r9:List Psg→Int→List Psg→Int→Int→List Int→Int→Int→List (List (Int×Int×Unit))→List (Int×Int×Unit)→Option (List (List (Int×Int×Unit))×Int×Unit)) (av:List Psg) (bJ:Int) (bK:List Psg) (bL:Int) (bM:Int) (bN:List Int) (bO:Int) (be:Int) (cb:List (List (Int×Int×Unit))) (cc:List (Int×Int×Unit)):Option (List (List (Int×Int×Unit))×Int×Unit) :=
  (bif decide (be < bO) then (Option.bind (idx bN be) fun (v10:Int)=>(Option.bind (idx av bJ) fun (v11:Psg)=>(Option.bind (idx (v11.2.2.1.getD []) be) fun (v12:Int)=>(bif decide (cc.length + (1:Nat)≤memMax) then r9 av bJ bK bL bM bN bO (IntKind.i64.wrap (be + 1)) cb (cc ++ [(v10,v12,())]) else none)))) else (bif decide (cb.length + (1:Nat)≤memMax) then r7 av bK bL (IntKind.i64.wrap (bM + 1)) (cb ++ [cc]) else none))
def yJE (n:Nat) (r7:List Psg→List Psg→Int→Int→List (List (Int×Int×Unit))→Option (List (List (Int×Int×Unit))×Int×Unit)) (k:Nat) (av:List Psg) (bJ:Int) (bK:List Psg) (bL:Int) (bM:Int) (bN:List Int) (bO:Int) (be:Int) (cb:List (List (Int×Int×Unit))) (cc:List (Int×Int×Unit)):Option (List (List (Int×Int×Unit))×Int×Unit) :=
  iter (fun r y=>yKN n r7 (fun av bJ bK bL bM bN bO be cb cc=>r ((av,(bJ,(bK,(bL,(bM,(bN,(bO,(be,())))))))),((cb,(cc,())),()))) y.1.1 y.1.2.1 y.1.2.2.1 y.1.2.2.2.1 y.1.2.2.2.2.1 y.1.2.2.2.2.2.1 y.1.2.2.2.2.2.2.1 y.1.2.2.2.2.2.2.2.1 y.2.1.1 y.2.1.2.1) k ((av,(bJ,(bK,(bL,(bM,(bN,(bO,(be,())))))))),((cb,(cc,())),()))
def yIt (n:Nat) (r7:List Psg→List Psg→Int→Int→List (List (Int×Int×Unit))→Option (List (List (Int×Int×Unit))×Int×Unit)) (aO:List Psg) (bQ:List Psg) (bR:Int) (bf:Int) (cd:List (List (Int×Int×Unit))):Option (List (List (Int×Int×Unit))×Int×Unit) :=
  (bif decide (bf < bR) then (Option.bind (idx bQ bf) fun (v8:Psg)=>(yJE n r7 n (aO) (bf) (bQ) (bR) (bf) (v8.2.2.1.getD []) ((↑(v8.2.2.1.getD []).length:Int)) ((0:Int)) (cd) ([]))) else some (cd,(0:Int),()))
def yJZ (n:Nat)  (k:Nat) (aO:List Psg) (bQ:List Psg) (bR:Int) (bf:Int) (cd:List (List (Int×Int×Unit))):Option (List (List (Int×Int×Unit))×Int×Unit) :=
  iter (fun r y=>yIt n (fun aO bQ bR bf cd=>r ((aO,(bQ,(bR,(bf,())))),((cd,()),()))) y.1.1 y.1.2.1 y.1.2.2.1 y.1.2.2.2.1 y.2.1.1) k ((aO,(bQ,(bR,(bf,())))),((cd,()),()))
def yNc (n:Nat) (b:Bas) (v:List (Int×Int×Unit)) (l:List Rng):Option (List (List (Int×Int×Unit))×Int×Unit) :=
  (Option.bind (zQ_M b v l) fun (v0:Int×Unit)=>(bif v0.1 != 0 then some ([],v0.1,()) else (Option.bind (yJa v (1:Int)) fun (v1:List Int×Unit)=>(Option.bind (z6_M l fun (x:Rng×Unit)=>zZ_M x.1) fun (v2:List Cnd×Unit)=>(Option.bind (zt_M b v1.1 v2.1) fun (v3:List Psg×Int×Unit)=>(bif v3.2.1 != 0 then some ([],v3.2.1,()) else (Option.bind (yJa v (0:Int)) fun (v4:List Int×Unit)=>(Option.bind (z6_M l fun (x:Rng×Unit)=>zd_M x.1) fun (v5:List Cnd×Unit)=>(Option.bind (zt_M b v4.1 v5.1) fun (v6:List Psg×Int×Unit)=>(bif v6.2.1 != 0 then some ([],v6.2.1,()) else (yJZ n n (v3.1) (v6.1) ((↑v6.1.length:Int)) ((0:Int)) ([]))))))))))))
def yNy (b:Bas) (v:List (Int×Int×Unit)) (l:List Rng):Option (List (List (Int×Int×Unit))×Int×Unit) := yNc 1000 b v l
abbrev z03_e:Entry := { f := 66,args := .pair t41 (.pair t97 (.pair t108 .unit)),rS := .pair t119 (.pair t35 .unit),m := fun x=>yNy x.1 x.2.1 x.2.2.1 }
theorem yP1:FnOK Tryz.prog z03_e := fF (mu := [12,15]) 1000 Tryz.f66 (fun n x=>yNc n x.1 x.2.1 x.2.2.1) [[9,12,49,50,51],[9,12,13,15,49,50,51,57,58,59]] (yC yQT (yC yKY (yC yPg (yC yQ3 (yC yPJ (yC yQ1 eNil))))))
def yPZ (n:Nat) (b:Bas) (v:List Int) (l:List Cnd):Option (List Psg×Int×Unit) :=
  (Option.bind (zX_M b v) fun (v0:Int×Unit)=>(Option.bind (z7_M l fun (z:Cnd×Unit)=>zG_M b z.1) fun (v1:List Int×Unit)=>(Option.bind (y0n v1.1) fun (v2:Int×Unit)=>(Option.bind (y0n [v0.1,(z0f (decide ((↑l.length:Int) > 96)) (5:Int)).1,v2.1]) fun (v3:Int×Unit)=>(bif v3.1 != 0 then some ([],v3.1,()) else (Option.bind (zt_M b v l) fun (v4:List Psg×Int×Unit)=>some (v4.1,v4.2.1,())))))))
def yJC (b:Bas) (v:List Int) (l:List Cnd):Option (List Psg×Int×Unit) := yPZ 0 b v l
abbrev z04_e:Entry := { f := 96,args := .pair t41 (.pair t26 (.pair t54 .unit)),rS := .pair t167 (.pair t35 .unit),m := fun x=>yJC x.1 x.2.1 x.2.2.1 }
theorem yHg:FnOK Tryz.prog z04_e := fF 0 Tryz.f96 (fun n x=>yPZ n x.1 x.2.1 x.2.2.1) [] (yC yIF (yC y3z (yC yO6 (yC yQa (yC y40 (yC yPJ eNil))))))
end
end Go.Tw
end
section
set_option maxRecDepth 1000000
namespace Go.Tw
open Go.Vx Go.Vx.B Go.Proofs
noncomputable section
def yNo (n:Nat) (b:Bas) (v:List Int) (l:List Cnd):Option (List (List Int)×Int×Unit) :=
  (Option.bind (yJC b v l) fun (v0:List Psg×Int×Unit)=>(Option.bind (yPU v0.1) fun (v1:List (List Int)×Unit)=>some (v1.1,v0.2.1,())))
def yNl (b:Bas) (v:List Int) (l:List Cnd):Option (List (List Int)×Int×Unit) := yNo 0 b v l
abbrev z0l_e:Entry := { f := 27,args := .pair t41 (.pair t26 (.pair t54 .unit)),rS := .pair t56 (.pair t35 .unit),m := fun x=>yNl x.1 x.2.1 x.2.2.1 }
theorem yN2:FnOK Tryz.prog z0l_e := fF 0 Tryz.f27 (fun n x=>yNo n x.1 x.2.1 x.2.2.1) [] (yC yHg (yC yOD eNil))
def yPY (n:Nat) (b:Bas) (v:List Int) (c:Cnd):Option (List Int×Int×Unit) :=
  (Option.bind (yJC b v [c]) fun (v0:List Psg×Int×Unit)=>(bif v0.2.1 != 0 then some ([],v0.2.1,()) else (Option.bind (idx v0.1 (0:Int)) fun (v1:Psg)=>some (v1.2.1,(0:Int),()))))
def yNI (b:Bas) (v:List Int) (c:Cnd):Option (List Int×Int×Unit) := yPY 0 b v c
abbrev z0N_e:Entry := { f := 42,args := .pair t41 (.pair t26 (.pair t44 .unit)),rS := .pair t26 (.pair t35 .unit),m := fun x=>yNI x.1 x.2.1 x.2.2.1 }
theorem yNF:FnOK Tryz.prog z0N_e := fF 0 Tryz.f42 (fun n x=>yPY n x.1 x.2.1 x.2.2.1) [] (yC yHg eNil)
def yJV (n:Nat) (r1:Bas→List Psg→Int→Int→Int→Int→Int→Int→Int→Int→Option ((Int×Int×Int×Unit)×Int×Unit)) (r5:Bas→List Psg→Int→Int→List Int→Int→Int→Int→Int→Int→Int→Int→Int→Option ((Int×Int×Int×Unit)×Int×Unit)) (bg:Bas) (aP:List Psg) (aQ:Int) (aR:Int) (aS:List Int) (aT:Int) (ar:Int) (aw:Int) (ax:Int) (ay:Int) (az:Int) (aA:Int) (aB:Int):Option ((Int×Int×Int×Unit)×Int×Unit) :=
  (bif decide (ar < aT) then (Option.bind (idx aS ar) fun (v6:Int)=>(Option.bind (idx bg.2.1 ar) fun (v7:Lnk)=>(bif v7.2.1==(-1:Int) then (Option.bind (idx bg.2.1 ar) fun (v10:Lnk)=>(bif v10.2.2.1==(-1:Int) then r5 bg aP aQ aR aS aT (IntKind.i64.wrap (ar + 1)) aw ax ay az (IntKind.i64.wrap (aA + if (0:Int) > v6 then (0:Int) else v6)) (IntKind.i64.wrap (IntKind.i64.wrap (aB + if (0:Int) > IntKind.i64.wrap ((0:Int) - v6) then (0:Int) else IntKind.i64.wrap ((0:Int) - v6)) + v6)) else r5 bg aP aQ aR aS aT (IntKind.i64.wrap (ar + 1)) aw ax ay az (IntKind.i64.wrap (aA + if (0:Int) > v6 then (0:Int) else v6)) (IntKind.i64.wrap (aB + if (0:Int) > IntKind.i64.wrap ((0:Int) - v6) then (0:Int) else IntKind.i64.wrap ((0:Int) - v6))))) else (Option.bind (idx bg.2.1 ar) fun (v11:Lnk)=>(bif v11.2.2.1==(-1:Int) then r5 bg aP aQ aR aS aT (IntKind.i64.wrap (ar + 1)) aw ax ay az aA (IntKind.i64.wrap (aB + v6)) else r5 bg aP aQ aR aS aT (IntKind.i64.wrap (ar + 1)) aw ax ay az aA aB))))) else r1 bg aP aQ (IntKind.i64.wrap (aR + 1)) aw ax ay az aA aB)
def yK5 (n:Nat) (r1:Bas→List Psg→Int→Int→Int→Int→Int→Int→Int→Int→Option ((Int×Int×Int×Unit)×Int×Unit)) (k:Nat) (bg:Bas) (aP:List Psg) (aQ:Int) (aR:Int) (aS:List Int) (aT:Int) (ar:Int) (aw:Int) (ax:Int) (ay:Int) (az:Int) (aA:Int) (aB:Int):Option ((Int×Int×Int×Unit)×Int×Unit) :=
  iter (fun r y=>yJV n r1 (fun bg aP aQ aR aS aT ar aw ax ay az aA aB=>r ((bg,(aP,(aQ,(aR,(aS,(aT,(ar,()))))))),(((aw,(ax,(ay,()))),((az,(aA,(aB,()))),())),()))) y.1.1 y.1.2.1 y.1.2.2.1 y.1.2.2.2.1 y.1.2.2.2.2.1 y.1.2.2.2.2.2.1 y.1.2.2.2.2.2.2.1 y.2.1.1.1 y.2.1.1.2.1 y.2.1.1.2.2.1 y.2.1.2.1.1 y.2.1.2.1.2.1 y.2.1.2.1.2.2.1) k ((bg,(aP,(aQ,(aR,(aS,(aT,(ar,()))))))),(((aw,(ax,(ay,()))),((az,(aA,(aB,()))),())),()))
def yKI (n:Nat) (r1:Bas→List Psg→Int→Int→Int→Int→Int→Int→Int→Int→Option ((Int×Int×Int×Unit)×Int×Unit)) (r3:Bas→List Psg→Int→Int→List Int→Int→Int→Int→Int→Int→Int→Int→Int→Int→Bool→List Int→List Int→Option (List Int)→Option ((Int×Int×Int×Unit)×Int×Unit)) (ce:Bas) (bS:List Psg) (bU:Int) (bV:Int) (bW:List Int) (bX:Int) (bm:Int) (aY:Int) (aZ:Int) (b4:Int) (b5:Int) (b6:Int) (b7:Int) (bn:Int) (bp:Bool) (bq:List Int) (aM:List Int) (br:Option (List Int)):Option ((Int×Int×Int×Unit)×Int×Unit) :=
  (bif decide (bm < bX) then (Option.bind (idx bW bm) fun (v4:Int)=>r3 ce bS bU bV bW bX (IntKind.i64.wrap (bm + 1)) aY aZ b4 (IntKind.i64.wrap (b5 + v4)) b6 b7 bn bp bq aM br) else (yK5 n r1 n (ce) (bS) (bU) (bV) (aM) ((↑aM.length:Int)) ((0:Int)) (aY) (aZ) (b4) (b5) (b6) (b7)))
def yKW (n:Nat) (r1:Bas→List Psg→Int→Int→Int→Int→Int→Int→Int→Int→Option ((Int×Int×Int×Unit)×Int×Unit)) (k:Nat) (ce:Bas) (bS:List Psg) (bU:Int) (bV:Int) (bW:List Int) (bX:Int) (bm:Int) (aY:Int) (aZ:Int) (b4:Int) (b5:Int) (b6:Int) (b7:Int) (bn:Int) (bp:Bool) (bq:List Int) (aM:List Int) (br:Option (List Int)):Option ((Int×Int×Int×Unit)×Int×Unit) :=
  iter (fun r y=>yKI n r1 (fun ce bS bU bV bW bX bm aY aZ b4 b5 b6 b7 bn bp bq aM br=>r ((ce,(bS,(bU,(bV,(bW,(bX,(bm,()))))))),(((aY,(aZ,(b4,()))),((b5,(b6,(b7,()))),((bn,(bp,(bq,(aM,(br,()))))),()))),()))) y.1.1 y.1.2.1 y.1.2.2.1 y.1.2.2.2.1 y.1.2.2.2.2.1 y.1.2.2.2.2.2.1 y.1.2.2.2.2.2.2.1 y.2.1.1.1 y.2.1.1.2.1 y.2.1.1.2.2.1 y.2.1.2.1.1 y.2.1.2.1.2.1 y.2.1.2.1.2.2.1 y.2.1.2.2.1.1 y.2.1.2.2.1.2.1 y.2.1.2.2.1.2.2.1 y.2.1.2.2.1.2.2.2.1 y.2.1.2.2.1.2.2.2.2.1) k ((ce,(bS,(bU,(bV,(bW,(bX,(bm,()))))))),(((aY,(aZ,(b4,()))),((b5,(b6,(b7,()))),((bn,(bp,(bq,(aM,(br,()))))),()))),()))
def yKT (n:Nat) (r1:Bas→List Psg→Int→Int→Int→Int→Int→Int→Int→Int→Option ((Int×Int×Int×Unit)×Int×Unit)) (cg:Bas) (bY:List Psg) (bZ:Int) (bt:Int) (bu:Int) (bv:Int) (bw:Int) (b8:Int) (b9:Int) (ba:Int):Option ((Int×Int×Int×Unit)×Int×Unit) :=
  (bif decide (bt < bZ) then (Option.bind (idx bY bt) fun (v2:Psg)=>(yKW n r1 n (cg) (bY) (bZ) (bt) (v2.1.2.2.1) ((↑v2.1.2.2.1.length:Int)) ((0:Int)) (bu) (bv) (bw) (b8) (b9) (ba) (v2.1.1) (v2.1.2.1) (v2.1.2.2.1) (v2.2.1) (v2.2.2.1))) else some ((b8,b9,ba,()),(0:Int),()))
def yJg (n:Nat)  (k:Nat) (cg:Bas) (bY:List Psg) (bZ:Int) (bt:Int) (bu:Int) (bv:Int) (bw:Int) (b8:Int) (b9:Int) (ba:Int):Option ((Int×Int×Int×Unit)×Int×Unit) :=
  iter (fun r y=>yKT n (fun cg bY bZ bt bu bv bw b8 b9 ba=>r ((cg,(bY,(bZ,(bt,())))),(((bu,(bv,(bw,()))),((b8,(b9,(ba,()))),())),()))) y.1.1 y.1.2.1 y.1.2.2.1 y.1.2.2.2.1 y.2.1.1.1 y.2.1.1.2.1 y.2.1.1.2.2.1 y.2.1.2.1.1 y.2.1.2.1.2.1 y.2.1.2.1.2.2.1) k ((cg,(bY,(bZ,(bt,())))),(((bu,(bv,(bw,()))),((b8,(b9,(ba,()))),())),()))
def yPC (n:Nat) (b:Bas) (v:List Int) (l:List Cnd):Option ((Int×Int×Int×Unit)×Int×Unit) :=
  (Option.bind (yJC b v l) fun (v0:List Psg×Int×Unit)=>(bif v0.2.1 != 0 then some (((0:Int),(0:Int),(0:Int),()),v0.2.1,()) else (yJg n n (b) (v0.1) ((↑v0.1.length:Int)) ((0:Int)) ((0:Int)) ((0:Int)) ((0:Int)) ((0:Int)) ((0:Int)) ((0:Int)))))
def yOX (b:Bas) (v:List Int) (l:List Cnd):Option ((Int×Int×Int×Unit)×Int×Unit) := yPC 1000 b v l
abbrev z02_e:Entry := { f := 45,args := .pair t41 (.pair t26 (.pair t54 .unit)),rS := .pair t78 (.pair t35 .unit),m := fun x=>yOX x.1 x.2.1 x.2.2.1 }
theorem yOv:FnOK Tryz.prog z02_e := fF 1000 Tryz.f45 (fun n x=>yPC n x.1 x.2.1 x.2.2.1) [[3,6,10,28,29,30],[3,6,10,12,28,29,30,36,37,38],[3,6,10,28,29,30,49,50,51]] (yC yHg eNil)
end
end Go.Tw
end
