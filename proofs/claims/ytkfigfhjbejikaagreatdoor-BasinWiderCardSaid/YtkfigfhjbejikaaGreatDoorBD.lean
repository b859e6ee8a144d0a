import Derived.Test.YtkfigfhjbejikaaGreatDoorBT
import Derived.Test.YtkfigfhjbejikaaGreatDoorBA
import Derived.Test.YtkfigfhjbejikaaGreatDoorBC
set_option linter.all false
section
set_option maxRecDepth 1000000
namespace Go.Tw
open Go.Vx Go.Vx.B Go.Proofs
noncomputable section
abbrev zZ_a:Ty := .pair t163 (.pair (.ref t41) .unit)
abbrev zZ_r:Ty := .pair t35 .unit
def zZ_g:G := { T := T,E := [zk_e],muts := [],fz := [] }
def zZ_k:List (List Nat) := []
def yQd (n:Nat):Ann := { keep := zZ_k,fuel := n,inl := [],deep := 0 }
def zZ_m (n:Nat) (l:Lnk) (p1:Bas):Option (Int×Unit) :=
  (Option.bind (zk_M l (↑p1.1.length:Int)) fun (v0:Int×Unit)=>some (v0.1,()))
theorem yUM (n:Nat) (x:zZ_a.den):runF zZ_g (yQd n) Tryz.f102 zZ_a zZ_r x = zZ_m n x.1 x.2.1 := by kernel_rfl
def zZ_M (l:Lnk) (p1:Bas):Option (Int×Unit) := zZ_m 0 l p1
theorem yQq (l:Lnk) (p1:Bas) (y:Int×Unit) (h:zZ_M l p1 = some y) : ∃ n,zZ_m n l p1 = some y := ⟨0,h⟩
def zZ_e:Entry := { f := 102,args := zZ_a,ress := zZ_r,m := fun x=>zZ_M x.1 x.2.1 }
theorem yW1:FnOK Tryz.prog zZ_e := yT (g := zZ_g) (fn := Tryz.f102) yH yS (yE yUQ eNil) (by kernel_rfl) (by kernel_rfl) (by kernel_rfl) (fun x y h=>let ⟨n,hn⟩ := yQq x.1 x.2.1 y h; ⟨yQd n,iNil,(yUM n x).trans hn⟩)
abbrev zL_a:Ty := .pair t41 (.pair t108 .unit)
abbrev zL_r:Ty := .pair t35 .unit
def zL_g:G := { T := T,E := [z0e_e,zN_e,zA_e,z0Q_e],muts := [],fz := [] }
def zL_k:List (List Nat) := []
def yTX (n:Nat):Ann := { keep := zL_k,fuel := n,inl := [],deep := 0 }
def zL_m (n:Nat) (b:Bas) (l:List Rng):Option (Int×Unit) :=
  (Option.bind (zA_M l fun (z:Rng×Unit)=>zN_M b z.1) fun (v0:List Int×Unit)=>(Option.bind (y0c v0.1) fun (v1:Int×Unit)=>(Option.bind (y0c [(z0e (decide ((↑l.length:Int) > 96)) (5:Int)).1,v1.1]) fun (v2:Int×Unit)=>some (v2.1,()))))
theorem yUy (n:Nat) (x:zL_a.den):runF zL_g (yTX n) Tryz.f108 zL_a zL_r x = zL_m n x.1 x.2.1 := by kernel_rfl
def zL_M (b:Bas) (l:List Rng):Option (Int×Unit) := zL_m 0 b l
theorem yQV (b:Bas) (l:List Rng) (y:Int×Unit) (h:zL_M b l = some y) : ∃ n,zL_m n b l = some y := ⟨0,h⟩
def zL_e:Entry := { f := 108,args := zL_a,ress := zL_r,m := fun x=>zL_M x.1 x.2.1 }
theorem yV2:FnOK Tryz.prog zL_e := yT (g := zL_g) (fn := Tryz.f108) yH yS (yE y47 (yE yUr (yE yUo (yE y3u eNil)))) (by kernel_rfl) (by kernel_rfl) (by kernel_rfl) (fun x y h=>let ⟨n,hn⟩ := yQV x.1 x.2.1 y h; ⟨yTX n,iNil,(yUy n x).trans hn⟩)
end
end Go.Tw
end
section
set_option maxRecDepth 1000000
namespace Go.Tw
open Go.Vx Go.Vx.B Go.Proofs
noncomputable section
abbrev zj_a:Ty := .pair t41 .unit
abbrev zj_r:Ty := .pair t35 .unit
def zj_g:G := { T := T,E := [z0e_e,z0Q_e,z0F_e,z0E_e,zZ_e,zB_e],muts := [23],fz := [] }
def zj_k:List (List Nat) := [[1,4,25,26,27]]
def yRD (n:Nat):Ann := { keep := zj_k,fuel := n,inl := [],deep := 0 }
def yHm (n:Nat) (r1:Bas→List Nod→Int→Int→List (List UInt8×Bool)→Option (Int×Unit)) (aS:Bas) (al:List Nod) (bg:Int) (bd:Int) (b9:List (List UInt8×Bool)):Option (Int×Unit) :=
  (bif decide (bd < bg) then (Option.bind (idx al bd) fun (v2:Nod)=>(Option.bind (yCY v2.1) fun (v3:Bool×Unit)=>(Option.bind (y0c [(z0e (!v3.1) (8:Int)).1,(z0e ((yZ Ty.str Ty.bool b9 v2.1).getD Bool.false) (9:Int)).1,(z0E v2.2.1 (1:Int) (1000:Int)).1,(z0E v2.2.2.1 (0:Int) (1024:Int)).1]) fun (v4:Int×Unit)=>(bif v4.1 != 0 then some (v4.1,()) else r1 aS al bg (IntKind.i64.wrap (bd + 1)) (y0Q Ty.str Ty.bool b9 v2.1 Bool.true))))) else (bif decide ((↑aS.2.1.length:Int) > 16) then some ((5:Int),()) else (Option.bind (zB_M aS.2.1 fun (x:Lnk×Unit)=>zZ_M x.1 aS) fun (v5:List Int×Unit)=>(Option.bind (y0c v5.1) fun (v6:Int×Unit)=>some (v6.1,())))))
def yAg (n:Nat)  (k:Nat) (aS:Bas) (al:List Nod) (bg:Int) (bd:Int) (b9:List (List UInt8×Bool)):Option (Int×Unit) :=
  iter (fun r y=>yHm n (fun aS al bg bd b9=>r ((aS,(al,(bg,(bd,())))),((b9,()),()))) y.1.1 y.1.2.1 y.1.2.2.1 y.1.2.2.2.1 y.2.1.1) k ((aS,(al,(bg,(bd,())))),((b9,()),()))
def zj_m (n:Nat) (b:Bas):Option (Int×Unit) :=
  (Option.bind (y0c [(z0e ((↑b.1.length:Int)==0) (12:Int)).1,(z0e (decide ((↑b.1.length:Int) > 8)) (5:Int)).1]) fun (v0:Int×Unit)=>(bif v0.1 != 0 then some (v0.1,()) else (yAg n n (b) (b.1) ((↑b.1.length:Int)) ((0:Int)) ([]))))
theorem yUi (n:Nat) (x:zj_a.den):runF zj_g (yRD n) Tryz.f39 zj_a zj_r x = zj_m n x.1 := by kernel_rfl
def yGA (aS:Bas) (al:List Nod) (bd:Int) (v2:Nod) (b9:List (List UInt8×Bool)):Option ((Int×Unit)⊕(List (List UInt8×Bool))) :=
  (Option.bind (yCY v2.1) fun (v3:Bool×Unit)=>(Option.bind (y0c [(z0e (!v3.1) (8:Int)).1,(z0e ((yZ Ty.str Ty.bool b9 v2.1).getD Bool.false) (9:Int)).1,(z0E v2.2.1 (1:Int) (1000:Int)).1,(z0E v2.2.2.1 (0:Int) (1024:Int)).1]) fun (v4:Int×Unit)=>(bif v4.1 != 0 then (some (Sum.inl ((v4.1,())))) else (some (Sum.inr (y0Q Ty.str Ty.bool b9 v2.1 Bool.true))))))
def yCy (aS:Bas) (al:List Nod) (b9:List (List UInt8×Bool)):Option (Int×Unit) :=
  (bif decide ((↑aS.2.1.length:Int) > 16) then (some (((5:Int),()))) else (Option.bind (zB_M aS.2.1 fun (x:Lnk×Unit)=>zZ_M x.1 aS) fun (v5:List Int×Unit)=>(Option.bind (y0c v5.1) fun (v6:Int×Unit)=>(some ((v6.1,()))))))
theorem yHA (n:Nat) (hn:big≤n)  (aS:Bas) (al:List Nod) (b9:List (List UInt8×Bool)) (hx:List.length (al) < lenMax):LeF some (yK (fun i__ e__ s__=>yGA aS al i__ e__ s__) (fun s__=>yCy aS al s__) 0 (al) b9) (yAg n n aS al (List.length (al):Int) 0 b9) := by
  refine yN (f := some) (W := fun k__ i__ s__=>yAg n k__ aS al (List.length (al):Int) i__ s__) (body := (fun i__ e__ s__=>yGA aS al i__ e__ s__)) (fin := (fun s__=>yCy aS al s__)) (fun k__ i__ s__=>?_) hx b9 n (by unfold big at hn; unfold lenMax at hx; omega)
  show LeF _ _ (yHm n (yAg n k__) aS al (List.length (al):Int) i__ s__)
  exact y5 (y9 fun v2=>(y9 fun v3=>(y9 fun v4=>(y5 (y7 rfl) (y7 rfl))))) (y02 (y5 (y7 rfl) (y9 fun v5=>(y9 fun v6=>(y7 rfl)))))
def zj_M (b:Bas):Option (Int×Unit) :=
  (Option.bind (y0c [(z0e ((↑b.1.length:Int)==0) (12:Int)).1,(z0e (decide ((↑b.1.length:Int) > 8)) (5:Int)).1]) fun (v0:Int×Unit)=>(bif v0.1 != 0 then (some ((v0.1,()))) else (bif decide (List.length (b.1) < lenMax) then yK (fun i__ e__ s__=>yGA (b) (b.1) i__ e__ s__) (fun s__=>yCy (b) (b.1) s__) 0 (b.1) ([]) else none)))
theorem yPi (b:Bas) (y:Int×Unit) (h:zj_M b = some y) : ∃ n,zj_m n b = some y :=
  ⟨big,LeF.top (show LeF some (zj_M b) (zj_m big b) from (fun (n:Nat) (hn:big≤n)=>show LeF some (zj_M b) (zj_m n b) from (y9 fun v0=>(y5 (y7 rfl) (yL fun hx=>by apply yHA n hn; exact hx)))) big (Nat.le_refl _)) h⟩
def zj_e:Entry := { f := 39,args := zj_a,ress := zj_r,m := fun x=>zj_M x.1 }
theorem yP0:FnOK Tryz.prog zj_e := yT (g := zj_g) (fn := Tryz.f39) yH yS (yE y47 (yE y3u (yE yPV (yE y7T (yE yW1 (yE yW9 eNil)))))) (by kernel_rfl) (by kernel_rfl) (by kernel_rfl) (fun x y h=>let ⟨n,hn⟩ := yPi x.1 y h; ⟨yRD n,iNil,(yUi n x).trans hn⟩)
end
end Go.Tw
end
section
set_option maxRecDepth 1000000
namespace Go.Tw
open Go.Vx Go.Vx.B Go.Proofs
noncomputable section
abbrev za_a:Ty := .pair t41 (.pair t26 .unit)
abbrev za_r:Ty := .pair t35 .unit
def za_g:G := { T := T,E := [zj_e,zJ_e,z0Q_e],muts := [],fz := [] }
def za_k:List (List Nat) := []
def yRN (n:Nat):Ann := { keep := za_k,fuel := n,inl := [],deep := 0 }
def za_m (n:Nat) (b:Bas) (v:List Int):Option (Int×Unit) :=
  (Option.bind (zj_M b) fun (v0:Int×Unit)=>(Option.bind (zJ_M b v) fun (v1:Int×Unit)=>(Option.bind (y0c [v0.1,v1.1]) fun (v2:Int×Unit)=>some (v2.1,()))))
theorem yVB (n:Nat) (x:za_a.den):runF za_g (yRN n) Tryz.f40 za_a za_r x = za_m n x.1 x.2.1 := by kernel_rfl
def za_M (b:Bas) (v:List Int):Option (Int×Unit) := za_m 0 b v
theorem yQR (b:Bas) (v:List Int) (y:Int×Unit) (h:za_M b v = some y) : ∃ n,za_m n b v = some y := ⟨0,h⟩
def za_e:Entry := { f := 40,args := za_a,ress := za_r,m := fun x=>za_M x.1 x.2.1 }
theorem yI0:FnOK Tryz.prog za_e := yT (g := za_g) (fn := Tryz.f40) yH yS (yE yP0 (yE yVr (yE y3u eNil))) (by kernel_rfl) (by kernel_rfl) (by kernel_rfl) (fun x y h=>let ⟨n,hn⟩ := yQR x.1 x.2.1 y h; ⟨yRN n,iNil,(yVB n x).trans hn⟩)
abbrev zR_a:Ty := .pair t41 (.pair t97 (.pair t108 .unit))
abbrev zR_r:Ty := .pair t35 .unit
def zR_g:G := { T := T,E := [zO_e,zP_e,zj_e,z0e_e,z8_e,z0Q_e,zL_e],muts := [],fz := [] }
def zR_k:List (List Nat) := []
def yQO (n:Nat):Ann := { keep := zR_k,fuel := n,inl := [],deep := 0 }
def zR_m (n:Nat) (b:Bas) (v:List (Int×Int×Unit)) (l:List Rng):Option (Int×Unit) :=
  (Option.bind (zj_M b) fun (v0:Int×Unit)=>(bif v0.1 != 0 then some (v0.1,()) else (Option.bind (z8_M v fun (x:(Int×Int×Unit)×Unit)=>zP_M x.1 fun (x:Int×Unit)=>zO_M x.1) fun (v1:List Int×Unit)=>(Option.bind (y0c v1.1) fun (v2:Int×Unit)=>(Option.bind (zL_M b l) fun (v3:Int×Unit)=>(Option.bind (y0c [(z0e ((↑v.length:Int) != (↑b.1.length:Int)) (2:Int)).1,v2.1,v3.1]) fun (v4:Int×Unit)=>some (v4.1,())))))))
theorem yVj (n:Nat) (x:zR_a.den):runF zR_g (yQO n) Tryz.f117 zR_a zR_r x = zR_m n x.1 x.2.1 x.2.2.1 := by kernel_rfl
def zR_M (b:Bas) (v:List (Int×Int×Unit)) (l:List Rng):Option (Int×Unit) := zR_m 0 b v l
theorem yPe (b:Bas) (v:List (Int×Int×Unit)) (l:List Rng) (y:Int×Unit) (h:zR_M b v l = some y) : ∃ n,zR_m n b v l = some y := ⟨0,h⟩
def zR_e:Entry := { f := 117,args := zR_a,ress := zR_r,m := fun x=>zR_M x.1 x.2.1 x.2.2.1 }
theorem yO4:FnOK Tryz.prog zR_e := yT (g := zR_g) (fn := Tryz.f117) yH yS (yE yUz (yE yUn (yE yP0 (yE y47 (yE yPd (yE y3u (yE yV2 eNil))))))) (by kernel_rfl) (by kernel_rfl) (by kernel_rfl) (fun x y h=>let ⟨n,hn⟩ := yPe x.1 x.2.1 x.2.2.1 y h; ⟨yQO n,iNil,(yVj n x).trans hn⟩)
def il163:Inl := { f := 163,fn := Tryz.f163,keep := [],muts := [4],fz := [] }
theorem yKK:y3Z Tryz.prog il163 := ⟨by kernel_rfl,by kernel_rfl,fun e0 h=>by cases (show (none:Option LibK) = some e0 from h)⟩
def il162:Inl := { f := 162,fn := Tryz.f162,keep := [],muts := [],fz := [] }
theorem yL2:y3Z Tryz.prog il162 := ⟨by kernel_rfl,by kernel_rfl,fun e0 h=>by cases (show (none:Option LibK) = some e0 from h)⟩
def il185:Inl := { f := 185,fn := Tryz.f185,keep := [],muts := [2],fz := [] }
theorem yKg:y3Z Tryz.prog il185 := ⟨by kernel_rfl,by kernel_rfl,fun e0 h=>by cases (show (none:Option LibK) = some e0 from h)⟩
def il186:Inl := { f := 186,fn := Tryz.f186,keep := [[0,2,3,10,11,12,34,35]],muts := [],fz := [] }
theorem yK8:y3Z Tryz.prog il186 := ⟨by kernel_rfl,by kernel_rfl,fun e0 h=>by cases (show (none:Option LibK) = some e0 from h)⟩
abbrev zt_a:Ty := .pair t41 (.pair t26 (.pair t54 .unit))
abbrev zt_r:Ty := .pair t167 (.pair t35 .unit)
def zt_g:G := { T := T,E := [zi_e],muts := [],fz := [] }
def zt_k:List (List Nat) := []
def ySK (n:Nat):Ann := { keep := zt_k,fuel := n,inl := [il163,il162,il185,il186],deep := 8 }
def yI8 (n:Nat) (r0:Bas→List Cnd→Int→Int→List Cnd→Bas→List Cnd→Bas→List Int→List Psg→List Cnd→Bas→List Cnd→Bas→List Cnd→Bas→List Cnd→Bas→Bas→List Int→List Cnd→Bas→Int→Bas→List Int→List Cnd→List Cnd→Bas→Option (List Psg×Int×Unit)) (aW:Bas) (ak:List Cnd) (bf:Int) (ba:Int) (p0_1_0_0:List Cnd) (p0_1_0_1:Bas) (p0_6_0_0:List Cnd) (p0_6_0_1:Bas) (b1_0_0:List Int) (a8:List Psg) (k1_0_0:List Cnd) (k1_0_1:Bas) (k6_0_0:List Cnd) (k6_0_1:Bas) (k14_0_0:List Cnd) (k14_0_1:Bas) (k17_0_0:List Cnd) (k17_0_1:Bas) (aJ:Bas) (aK:List Int) (aL:List Cnd) (aM:Bas) (aN:Int) (aO:Bas) (aP:List Int) (aQ:List Cnd) (k32_0_0:List Cnd) (k32_0_1:Bas):Option (List Psg×Int×Unit) :=
  (bif decide (ba < bf) then (Option.bind (idx ak ba) fun (v1:Cnd)=>(Option.bind (zi_M aW b1_0_0 (v1.1,v1.2.1,v1.2.2.1,())) fun (v2:List Int×Option (List Int)×Bool×Unit)=>(bif !v2.2.2.1 then (bif decide (a8.length + (1:Nat)≤memMax) then (bif !v2.2.2.1 then (bif decide ((↑(a8 ++ [((v1.1,v1.2.1,v1.2.2.1,()),v2.1,Option.none,())]).length:Int) > 0) then (Option.bind (idx (a8 ++ [((v1.1,v1.2.1,v1.2.2.1,()),v2.1,Option.none,())]) (IntKind.i64.wrap ((↑(a8 ++ [((v1.1,v1.2.1,v1.2.2.1,()),v2.1,Option.none,())]).length:Int) - (1:Int)))) fun (v11:Psg)=>(Option.bind ((a8 ++ [((v1.1,v1.2.1,v1.2.2.1,()),v2.1,Option.none,())])[(IntKind.i64.wrap ((↑(a8 ++ [((v1.1,v1.2.1,v1.2.2.1,()),v2.1,Option.none,())]).length:Int) - (1:Int))).toNat]?) fun (v12:Psg)=>(bif v12.2.2.1.isNone then some ([],(4:Int),()) else some (a8 ++ [((v1.1,v1.2.1,v1.2.2.1,()),v2.1,Option.none,())],(0:Int),())))) else some (a8 ++ [((v1.1,v1.2.1,v1.2.2.1,()),v2.1,Option.none,())],(0:Int),())) else r0 aW ak bf (IntKind.i64.wrap (ba + 1)) p0_1_0_0 p0_1_0_1 p0_6_0_0 p0_6_0_1 [] (a8 ++ [((v1.1,v1.2.1,v1.2.2.1,()),v2.1,Option.none,())]) k1_0_0 k1_0_1 k6_0_0 k6_0_1 k14_0_0 k14_0_1 k17_0_0 k17_0_1 aJ aK aL aM aN aO aP aQ k32_0_0 k32_0_1) else none) else (bif decide (a8.length + (1:Nat)≤memMax) then (bif !v2.2.2.1 then (bif decide ((↑(a8 ++ [((v1.1,v1.2.1,v1.2.2.1,()),v2.1,v2.2.1,())]).length:Int) > 0) then (Option.bind (idx (a8 ++ [((v1.1,v1.2.1,v1.2.2.1,()),v2.1,v2.2.1,())]) (IntKind.i64.wrap ((↑(a8 ++ [((v1.1,v1.2.1,v1.2.2.1,()),v2.1,v2.2.1,())]).length:Int) - (1:Int)))) fun (v17:Psg)=>(Option.bind ((a8 ++ [((v1.1,v1.2.1,v1.2.2.1,()),v2.1,v2.2.1,())])[(IntKind.i64.wrap ((↑(a8 ++ [((v1.1,v1.2.1,v1.2.2.1,()),v2.1,v2.2.1,())]).length:Int) - (1:Int))).toNat]?) fun (v18:Psg)=>(bif v18.2.2.1.isNone then some ([],(4:Int),()) else some (a8 ++ [((v1.1,v1.2.1,v1.2.2.1,()),v2.1,v2.2.1,())],(0:Int),())))) else some (a8 ++ [((v1.1,v1.2.1,v1.2.2.1,()),v2.1,v2.2.1,())],(0:Int),())) else r0 aW ak bf (IntKind.i64.wrap (ba + 1)) p0_1_0_0 p0_1_0_1 p0_6_0_0 p0_6_0_1 (v2.2.1.getD []) (a8 ++ [((v1.1,v1.2.1,v1.2.2.1,()),v2.1,v2.2.1,())]) k1_0_0 k1_0_1 k6_0_0 k6_0_1 k14_0_0 k14_0_1 k17_0_0 k17_0_1 aJ aK aL aM aN aO aP aQ k32_0_0 k32_0_1) else none)))) else (bif decide ((↑a8.length:Int) > 0) then (Option.bind (idx a8 (IntKind.i64.wrap ((↑a8.length:Int) - (1:Int)))) fun (v23:Psg)=>(Option.bind (a8[(IntKind.i64.wrap ((↑a8.length:Int) - (1:Int))).toNat]?) fun (v24:Psg)=>(bif v24.2.2.1.isNone then some ([],(4:Int),()) else some (a8,(0:Int),())))) else some (a8,(0:Int),())))
def yAw (n:Nat)  (k:Nat) (aW:Bas) (ak:List Cnd) (bf:Int) (ba:Int) (p0_1_0_0:List Cnd) (p0_1_0_1:Bas) (p0_6_0_0:List Cnd) (p0_6_0_1:Bas) (b1_0_0:List Int) (a8:List Psg) (k1_0_0:List Cnd) (k1_0_1:Bas) (k6_0_0:List Cnd) (k6_0_1:Bas) (k14_0_0:List Cnd) (k14_0_1:Bas) (k17_0_0:List Cnd) (k17_0_1:Bas) (aJ:Bas) (aK:List Int) (aL:List Cnd) (aM:Bas) (aN:Int) (aO:Bas) (aP:List Int) (aQ:List Cnd) (k32_0_0:List Cnd) (k32_0_1:Bas):Option (List Psg×Int×Unit) :=
  iter (fun r y=>yI8 n (fun aW ak bf ba p0_1_0_0 p0_1_0_1 p0_6_0_0 p0_6_0_1 b1_0_0 a8 k1_0_0 k1_0_1 k6_0_0 k6_0_1 k14_0_0 k14_0_1 k17_0_0 k17_0_1 aJ aK aL aM aN aO aP aQ k32_0_0 k32_0_1=>r ((aW,(ak,(bf,(ba,())))),((((p0_1_0_0,(p0_1_0_1,())),((p0_6_0_0,(p0_6_0_1,())),())),((b1_0_0,()),((),(a8,())))),((k1_0_0,(k1_0_1,())),((k6_0_0,(k6_0_1,())),((k14_0_0,(k14_0_1,())),((k17_0_0,(k17_0_1,())),(aJ,(aK,(aL,(aM,(aN,(aO,(aP,(aQ,((k32_0_0,(k32_0_1,())),())))))))))))))))) y.1.1 y.1.2.1 y.1.2.2.1 y.1.2.2.2.1 y.2.1.1.1.1 y.2.1.1.1.2.1 y.2.1.1.2.1.1 y.2.1.1.2.1.2.1 y.2.1.2.1.1 y.2.1.2.2.2.1 y.2.2.1.1 y.2.2.1.2.1 y.2.2.2.1.1 y.2.2.2.1.2.1 y.2.2.2.2.1.1 y.2.2.2.2.1.2.1 y.2.2.2.2.2.1.1 y.2.2.2.2.2.1.2.1 y.2.2.2.2.2.2.1 y.2.2.2.2.2.2.2.1 y.2.2.2.2.2.2.2.2.1 y.2.2.2.2.2.2.2.2.2.1 y.2.2.2.2.2.2.2.2.2.2.1 y.2.2.2.2.2.2.2.2.2.2.2.1 y.2.2.2.2.2.2.2.2.2.2.2.2.1 y.2.2.2.2.2.2.2.2.2.2.2.2.2.1 y.2.2.2.2.2.2.2.2.2.2.2.2.2.2.1.1 y.2.2.2.2.2.2.2.2.2.2.2.2.2.2.1.2.1) k ((aW,(ak,(bf,(ba,())))),((((p0_1_0_0,(p0_1_0_1,())),((p0_6_0_0,(p0_6_0_1,())),())),((b1_0_0,()),((),(a8,())))),((k1_0_0,(k1_0_1,())),((k6_0_0,(k6_0_1,())),((k14_0_0,(k14_0_1,())),((k17_0_0,(k17_0_1,())),(aJ,(aK,(aL,(aM,(aN,(aO,(aP,(aQ,((k32_0_0,(k32_0_1,())),())))))))))))))))
def zt_m (n:Nat) (b:Bas) (v:List Int) (l:List Cnd):Option (List Psg×Int×Unit) :=
  (yAw n n (b) (l) ((↑l.length:Int)) ((0:Int)) (l) (b) (l) (b) (v) ([]) (l) (b) (l) (b) (l) (b) (l) (b) (b) (v) (l) (b) ((0:Int)) (b) (v) (l) (l) (b))
theorem yVJ (n:Nat) (x:zt_a.den):runF zt_g (ySK n) Tryz.f118 zt_a zt_r x = zt_m n x.1 x.2.1 x.2.2.1 := by kernel_rfl
def y93 (aW:Bas) (ak:List Cnd) (p0_1_0_0:List Cnd) (p0_1_0_1:Bas) (p0_6_0_0:List Cnd) (p0_6_0_1:Bas) (k1_0_0:List Cnd) (k1_0_1:Bas) (k6_0_0:List Cnd) (k6_0_1:Bas) (k14_0_0:List Cnd) (k14_0_1:Bas) (k17_0_0:List Cnd) (k17_0_1:Bas) (aJ:Bas) (aK:List Int) (aL:List Cnd) (aM:Bas) (aN:Int) (aO:Bas) (aP:List Int) (aQ:List Cnd) (k32_0_0:List Cnd) (k32_0_1:Bas) (ba:Int) (v1:Cnd) (b1_0_0:List Int) (a8:List Psg):Option ((List Psg×Int×Unit)⊕(List Int×List Psg)) :=
  (Option.bind (zi_M aW b1_0_0 (v1.1,v1.2.1,v1.2.2.1,())) fun (v2:List Int×Option (List Int)×Bool×Unit)=>(bif !v2.2.2.1 then (bif decide (a8.length + (1:Nat)≤memMax) then (bif !v2.2.2.1 then (bif decide ((↑(a8 ++ [((v1.1,v1.2.1,v1.2.2.1,()),v2.1,Option.none,())]).length:Int) > 0) then (Option.bind (idx (a8 ++ [((v1.1,v1.2.1,v1.2.2.1,()),v2.1,Option.none,())]) (IntKind.i64.wrap ((↑(a8 ++ [((v1.1,v1.2.1,v1.2.2.1,()),v2.1,Option.none,())]).length:Int) - (1:Int)))) fun (v11:Psg)=>(Option.bind ((a8 ++ [((v1.1,v1.2.1,v1.2.2.1,()),v2.1,Option.none,())])[(IntKind.i64.wrap ((↑(a8 ++ [((v1.1,v1.2.1,v1.2.2.1,()),v2.1,Option.none,())]).length:Int) - (1:Int))).toNat]?) fun (v12:Psg)=>(bif v12.2.2.1.isNone then (some (Sum.inl (([],(4:Int),())))) else (some (Sum.inl ((a8 ++ [((v1.1,v1.2.1,v1.2.2.1,()),v2.1,Option.none,())],(0:Int),()))))))) else (some (Sum.inl ((a8 ++ [((v1.1,v1.2.1,v1.2.2.1,()),v2.1,Option.none,())],(0:Int),()))))) else (some (Sum.inr (([]),(a8 ++ [((v1.1,v1.2.1,v1.2.2.1,()),v2.1,Option.none,())]))))) else none) else (bif decide (a8.length + (1:Nat)≤memMax) then (bif !v2.2.2.1 then (bif decide ((↑(a8 ++ [((v1.1,v1.2.1,v1.2.2.1,()),v2.1,v2.2.1,())]).length:Int) > 0) then (Option.bind (idx (a8 ++ [((v1.1,v1.2.1,v1.2.2.1,()),v2.1,v2.2.1,())]) (IntKind.i64.wrap ((↑(a8 ++ [((v1.1,v1.2.1,v1.2.2.1,()),v2.1,v2.2.1,())]).length:Int) - (1:Int)))) fun (v17:Psg)=>(Option.bind ((a8 ++ [((v1.1,v1.2.1,v1.2.2.1,()),v2.1,v2.2.1,())])[(IntKind.i64.wrap ((↑(a8 ++ [((v1.1,v1.2.1,v1.2.2.1,()),v2.1,v2.2.1,())]).length:Int) - (1:Int))).toNat]?) fun (v18:Psg)=>(bif v18.2.2.1.isNone then (some (Sum.inl (([],(4:Int),())))) else (some (Sum.inl ((a8 ++ [((v1.1,v1.2.1,v1.2.2.1,()),v2.1,v2.2.1,())],(0:Int),()))))))) else (some (Sum.inl ((a8 ++ [((v1.1,v1.2.1,v1.2.2.1,()),v2.1,v2.2.1,())],(0:Int),()))))) else (some (Sum.inr ((v2.2.1.getD []),(a8 ++ [((v1.1,v1.2.1,v1.2.2.1,()),v2.1,v2.2.1,())]))))) else none)))
def yGo (aW:Bas) (ak:List Cnd) (p0_1_0_0:List Cnd) (p0_1_0_1:Bas) (p0_6_0_0:List Cnd) (p0_6_0_1:Bas) (k1_0_0:List Cnd) (k1_0_1:Bas) (k6_0_0:List Cnd) (k6_0_1:Bas) (k14_0_0:List Cnd) (k14_0_1:Bas) (k17_0_0:List Cnd) (k17_0_1:Bas) (aJ:Bas) (aK:List Int) (aL:List Cnd) (aM:Bas) (aN:Int) (aO:Bas) (aP:List Int) (aQ:List Cnd) (k32_0_0:List Cnd) (k32_0_1:Bas) (b1_0_0:List Int) (a8:List Psg):Option (List Psg×Int×Unit) :=
  (bif decide ((↑a8.length:Int) > 0) then (Option.bind (idx a8 (IntKind.i64.wrap ((↑a8.length:Int) - (1:Int)))) fun (v23:Psg)=>(Option.bind (a8[(IntKind.i64.wrap ((↑a8.length:Int) - (1:Int))).toNat]?) fun (v24:Psg)=>(bif v24.2.2.1.isNone then (some (([],(4:Int),()))) else (some ((a8,(0:Int),())))))) else (some ((a8,(0:Int),()))))
theorem yGh (n:Nat) (hn:big≤n)  (aW:Bas) (ak:List Cnd) (p0_1_0_0:List Cnd) (p0_1_0_1:Bas) (p0_6_0_0:List Cnd) (p0_6_0_1:Bas) (k1_0_0:List Cnd) (k1_0_1:Bas) (k6_0_0:List Cnd) (k6_0_1:Bas) (k14_0_0:List Cnd) (k14_0_1:Bas) (k17_0_0:List Cnd) (k17_0_1:Bas) (aJ:Bas) (aK:List Int) (aL:List Cnd) (aM:Bas) (aN:Int) (aO:Bas) (aP:List Int) (aQ:List Cnd) (k32_0_0:List Cnd) (k32_0_1:Bas) (b1_0_0:List Int) (a8:List Psg) (hx:List.length (ak) < lenMax):LeF some (yK (fun i__ e__ s__=>y93 aW ak p0_1_0_0 p0_1_0_1 p0_6_0_0 p0_6_0_1 k1_0_0 k1_0_1 k6_0_0 k6_0_1 k14_0_0 k14_0_1 k17_0_0 k17_0_1 aJ aK aL aM aN aO aP aQ k32_0_0 k32_0_1 i__ e__ s__.1 s__.2) (fun s__=>yGo aW ak p0_1_0_0 p0_1_0_1 p0_6_0_0 p0_6_0_1 k1_0_0 k1_0_1 k6_0_0 k6_0_1 k14_0_0 k14_0_1 k17_0_0 k17_0_1 aJ aK aL aM aN aO aP aQ k32_0_0 k32_0_1 s__.1 s__.2) 0 (ak) (b1_0_0,a8)) (yAw n n aW ak (List.length (ak):Int) 0 p0_1_0_0 p0_1_0_1 p0_6_0_0 p0_6_0_1 b1_0_0 a8 k1_0_0 k1_0_1 k6_0_0 k6_0_1 k14_0_0 k14_0_1 k17_0_0 k17_0_1 aJ aK aL aM aN aO aP aQ k32_0_0 k32_0_1) := by
  refine yN (f := some) (W := fun k__ i__ s__=>yAw n k__ aW ak (List.length (ak):Int) i__ p0_1_0_0 p0_1_0_1 p0_6_0_0 p0_6_0_1 s__.1 s__.2 k1_0_0 k1_0_1 k6_0_0 k6_0_1 k14_0_0 k14_0_1 k17_0_0 k17_0_1 aJ aK aL aM aN aO aP aQ k32_0_0 k32_0_1) (body := (fun i__ e__ s__=>y93 aW ak p0_1_0_0 p0_1_0_1 p0_6_0_0 p0_6_0_1 k1_0_0 k1_0_1 k6_0_0 k6_0_1 k14_0_0 k14_0_1 k17_0_0 k17_0_1 aJ aK aL aM aN aO aP aQ k32_0_0 k32_0_1 i__ e__ s__.1 s__.2)) (fin := (fun s__=>yGo aW ak p0_1_0_0 p0_1_0_1 p0_6_0_0 p0_6_0_1 k1_0_0 k1_0_1 k6_0_0 k6_0_1 k14_0_0 k14_0_1 k17_0_0 k17_0_1 aJ aK aL aM aN aO aP aQ k32_0_0 k32_0_1 s__.1 s__.2)) (fun k__ i__ s__=>?_) hx (b1_0_0,a8) n (by unfold big at hn; unfold lenMax at hx; omega)
  show LeF _ _ (yI8 n (yAw n k__) aW ak (List.length (ak):Int) i__ p0_1_0_0 p0_1_0_1 p0_6_0_0 p0_6_0_1 s__.1 s__.2 k1_0_0 k1_0_1 k6_0_0 k6_0_1 k14_0_0 k14_0_1 k17_0_0 k17_0_1 aJ aK aL aM aN aO aP aQ k32_0_0 k32_0_1)
  exact y5 (y9 fun v1=>(y9 fun v2=>(y5 (y5 (y5 (y5 (y9 fun v11=>(y9 fun v12=>(y5 (y7 rfl) (y7 rfl)))) (y7 rfl)) (y7 rfl)) yp) (y5 (y5 (y5 (y9 fun v17=>(y9 fun v18=>(y5 (y7 rfl) (y7 rfl)))) (y7 rfl)) (y7 rfl)) yp)))) (y02 (y5 (y9 fun v23=>(y9 fun v24=>(y5 (y7 rfl) (y7 rfl)))) (y7 rfl)))
def zt_M (b:Bas) (v:List Int) (l:List Cnd):Option (List Psg×Int×Unit) :=
  (bif decide (List.length (l) < lenMax) then yK (fun i__ e__ s__=>y93 (b) (l) (l) (b) (l) (b) (l) (b) (l) (b) (l) (b) (l) (b) (b) (v) (l) (b) ((0:Int)) (b) (v) (l) (l) (b) i__ e__ s__.1 s__.2) (fun s__=>yGo (b) (l) (l) (b) (l) (b) (l) (b) (l) (b) (l) (b) (l) (b) (b) (v) (l) (b) ((0:Int)) (b) (v) (l) (l) (b) s__.1 s__.2) 0 (l) ((v),([])) else none)
theorem yQF (b:Bas) (v:List Int) (l:List Cnd) (y:List Psg×Int×Unit) (h:zt_M b v l = some y) : ∃ n,zt_m n b v l = some y :=
  ⟨big,LeF.top (show LeF some (zt_M b v l) (zt_m big b v l) from (fun (n:Nat) (hn:big≤n)=>show LeF some (zt_M b v l) (zt_m n b v l) from (yL fun hx=>by apply yGh n hn; exact hx)) big (Nat.le_refl _)) h⟩
def zt_e:Entry := { f := 118,args := zt_a,ress := zt_r,m := fun x=>zt_M x.1 x.2.1 x.2.2.1 }
theorem yN5:FnOK Tryz.prog zt_e := yT (g := zt_g) (fn := Tryz.f118) yH yS (yE yRl eNil) (by kernel_rfl) (by kernel_rfl) (by kernel_rfl) (fun x y h=>let ⟨n,hn⟩ := yQF x.1 x.2.1 x.2.2.1 y h; ⟨ySK n,(y6p yKK (y6p yL2 (y6p yKg (y6p yK8 iNil)))),(yVJ n x).trans hn⟩)
end
end Go.Tw
end
section
set_option maxRecDepth 1000000
namespace Go.Tw
open Go.Vx Go.Vx.B Go.Proofs
noncomputable section
abbrev yP6:Ty := .pair t41 (.pair t26 (.pair t44 (.pair t3 (.pair t3 .unit))))
abbrev yT0:Ty := .pair t3 (.pair t35 .unit)
def yRC:G := { T := T,E := [za_e,zF_e,z0e_e,z0E_e,z0Q_e,zl_e,zi_e],muts := [],fz := [] }
def yW2:List (List Nat) := [[3,4,5,7,13,42]]
def yM0 (n:Nat):Ann := { keep := yW2,fuel := n,inl := [],deep := 0 }
def yBw (n:Nat) (r18:Int→Int→Bas→Cnd→List Int→Int→Option (Int×Int×Unit)) (aa:Int) (a7:Int) (aB:Bas) (aG:Cnd) (ae:List Int) (aR:Int):Option (Int×Int×Unit) :=
  (bif decide (aR < 97) then (Option.bind (idx aB.1 aa) fun (v19:Nod)=>(Option.bind (idx ae aa) fun (v20:Int)=>(Option.bind (zl_M v19 v20) fun (v21:Int×Unit)=>(bif decide (v21.1 ≥ a7) then some (aR,(0:Int),()) else (bif aR==96 then some ((0:Int),(7:Int),()) else (Option.bind (zi_M aB ae aG) fun (v22:List Int×Option (List Int)×Bool×Unit)=>(bif !v22.2.2.1 then some ((0:Int),(4:Int),()) else r18 aa a7 aB aG (v22.2.1.getD []) (IntKind.i64.wrap (aR + 1))))))))) else some ((0:Int),(7:Int),()))
def y5S (n:Nat)  (k:Nat) (aa:Int) (a7:Int) (aB:Bas) (aG:Cnd) (ae:List Int) (aR:Int):Option (Int×Int×Unit) :=
  iter (fun r y=>yBw n (fun aa a7 aB aG ae aR=>r ((aa,(a7,(aB,(aG,(ae,(aR,())))))),((),()))) y.1.1 y.1.2.1 y.1.2.2.1 y.1.2.2.2.1 y.1.2.2.2.2.1 y.1.2.2.2.2.2.1) k ((aa,(a7,(aB,(aG,(ae,(aR,())))))),((),()))
def y8A (n:Nat) (b:Bas) (v:List Int) (c:Cnd) (node:Int) (level:Int):Option (Int×Int×Unit) :=
  (y5S n n (node) (level) (b) (c) (v) ((0:Int)))
def yLP (n:Nat) (b:Bas) (v:List Int) (c:Cnd) (node:Int) (level:Int):Option (Int×Int×Unit) :=
  (Option.bind (za_M b v) fun (v0:Int×Unit)=>(Option.bind (zF_M b c) fun (v1:Int×Unit)=>(bif decide (node < 0) then (Option.bind (y0c [v0.1,v1.1,(z0e Bool.true (10:Int)).1,(z0E level (0:Int) (1024:Int)).1]) fun (v2:Int×Unit)=>(bif v2.1 != 0 then some ((0:Int),v2.1,()) else (y8A n b v c node level))) else (Option.bind (y0c [v0.1,v1.1,(z0e (decide (node ≥ (↑b.1.length:Int))) (10:Int)).1,(z0E level (0:Int) (1024:Int)).1]) fun (v3:Int×Unit)=>(bif v3.1 != 0 then some ((0:Int),v3.1,()) else (y8A n b v c node level))))))
theorem yQH (n:Nat) (x:yP6.den):runF yRC (yM0 n) Tryz.f18 yP6 yT0 x = yLP n x.1 x.2.1 x.2.2.1 x.2.2.2.1 x.2.2.2.2.1 := by kernel_rfl
def yEA (aa:Int) (a7:Int) (aB:Bas) (aG:Cnd) (aR:Int) (ae:List Int):Option ((Int×Int×Unit)⊕(List Int)) :=
  (Option.bind (idx aB.1 aa) fun (v19:Nod)=>(Option.bind (idx ae aa) fun (v20:Int)=>(Option.bind (zl_M v19 v20) fun (v21:Int×Unit)=>(bif decide (v21.1 ≥ a7) then (some (Sum.inl ((aR,(0:Int),())))) else (bif aR==96 then (some (Sum.inl (((0:Int),(7:Int),())))) else (Option.bind (zi_M aB ae aG) fun (v22:List Int×Option (List Int)×Bool×Unit)=>(bif !v22.2.2.1 then (some (Sum.inl (((0:Int),(4:Int),())))) else (some (Sum.inr (v22.2.1.getD []))))))))))
def yE3 (aa:Int) (a7:Int) (aB:Bas) (aG:Cnd) (ae:List Int):Option (Int×Int×Unit) :=
  (some (((0:Int),(7:Int),())))
theorem yBc (n:Nat) (hn:big≤n)  (aa:Int) (a7:Int) (aB:Bas) (aG:Cnd) (ae:List Int) (hx:((97:Int))≤9223372036854775807):LeF some (y0G (fun i__ s__=>yEA aa a7 aB aG i__ s__) (fun s__=>yE3 aa a7 aB aG s__) (((97:Int)) - 0).toNat 0 ae) (y5S n n aa a7 aB aG ae 0) := by
  refine y1k (f := some) (W := fun k__ i__ s__=>y5S n k__ aa a7 aB aG s__ i__) (body := (fun i__ s__=>yEA aa a7 aB aG i__ s__)) (fin := (fun s__=>yE3 aa a7 aB aG s__)) (fun k__ i__ s__=>?_) hx ae n 0 (by decide) (by unfold big at hn; omega)
  show LeF _ _ (yBw n (y5S n k__) aa a7 aB aG s__ i__)
  exact y5 (y9 fun v19=>(y9 fun v20=>(y9 fun v21=>(y5 (y7 rfl) (y5 (y7 rfl) (y9 fun v22=>(y5 (y7 rfl) (y7 rfl)))))))) (y02 (y7 rfl))
def yCp (b:Bas) (v:List Int) (c:Cnd) (node:Int) (level:Int):Option (Int×Int×Unit) :=
  (bif decide (((97:Int))≤9223372036854775807) then y0G (fun i__ s__=>yEA (node) (level) (b) (c) i__ s__) (fun s__=>yE3 (node) (level) (b) (c) s__) (((97:Int)) - 0).toNat 0 (v) else none)
theorem y2X (n:Nat) (hn:big≤n)  (b:Bas) (v:List Int) (c:Cnd) (node:Int) (level:Int):LeF some (yCp b v c node level) (y8A n b v c node level) :=
  (yL fun hx=>by apply yBc n hn; exact hx)
def yHj (b:Bas) (v:List Int) (c:Cnd) (node:Int) (level:Int):Option (Int×Int×Unit) :=
  (Option.bind (za_M b v) fun (v0:Int×Unit)=>(Option.bind (zF_M b c) fun (v1:Int×Unit)=>(bif decide (node < 0) then (Option.bind (y0c [v0.1,v1.1,(z0e Bool.true (10:Int)).1,(z0E level (0:Int) (1024:Int)).1]) fun (v2:Int×Unit)=>(bif v2.1 != 0 then (some (((0:Int),v2.1,()))) else (yCp b v c node level))) else (Option.bind (y0c [v0.1,v1.1,(z0e (decide (node ≥ (↑b.1.length:Int))) (10:Int)).1,(z0E level (0:Int) (1024:Int)).1]) fun (v3:Int×Unit)=>(bif v3.1 != 0 then (some (((0:Int),v3.1,()))) else (yCp b v c node level))))))
theorem yN8 (b:Bas) (v:List Int) (c:Cnd) (node:Int) (level:Int) (y:Int×Int×Unit) (h:yHj b v c node level = some y) : ∃ n,yLP n b v c node level = some y :=
  ⟨big,LeF.top (show LeF some (yHj b v c node level) (yLP big b v c node level) from (fun (n:Nat) (hn:big≤n)=>show LeF some (yHj b v c node level) (yLP n b v c node level) from (y9 fun v0=>(y9 fun v1=>(y5 (y9 fun v2=>(y5 (y7 rfl) (by apply y2X n hn))) (y9 fun v3=>(y5 (y7 rfl) (by apply y2X n hn))))))) big (Nat.le_refl _)) h⟩
def z0O_e:Entry := { f := 18,args := yP6,ress := yT0,m := fun x=>yHj x.1 x.2.1 x.2.2.1 x.2.2.2.1 x.2.2.2.2.1 }
theorem yQP:FnOK Tryz.prog z0O_e := yT (g := yRC) (fn := Tryz.f18) yH yS (yE yI0 (yE yPH (yE y47 (yE y7T (yE y3u (yE yTk (yE yRl eNil))))))) (by kernel_rfl) (by kernel_rfl) (by kernel_rfl) (fun x y h=>let ⟨n,hn⟩ := yN8 x.1 x.2.1 x.2.2.1 x.2.2.2.1 x.2.2.2.2.1 y h; ⟨yM0 n,iNil,(yQH n x).trans hn⟩)
abbrev yMq:Ty := .pair t41 (.pair t26 .unit)
abbrev yRV:Ty := .pair t26 (.pair t35 .unit)
def ySP:G := { T := T,E := [za_e,zX_e],muts := [],fz := [] }
def yUV:List (List Nat) := []
def yMX (n:Nat):Ann := { keep := yUV,fuel := n,inl := [],deep := 0 }
def yOX (n:Nat) (b:Bas) (v:List Int):Option (List Int×Int×Unit) :=
  (Option.bind (za_M b v) fun (v0:Int×Unit)=>(bif v0.1 != 0 then some ([],v0.1,()) else (Option.bind (zX_M b v) fun (v1:List Int×Unit)=>some (v1.1,(0:Int),()))))
theorem yPC (n:Nat) (x:yMq.den):runF ySP (yMX n) Tryz.f29 yMq yRV x = yOX n x.1 x.2.1 := by kernel_rfl
def yP3 (b:Bas) (v:List Int):Option (List Int×Int×Unit) := yOX 0 b v
theorem yN1 (b:Bas) (v:List Int) (y:List Int×Int×Unit) (h:yP3 b v = some y) : ∃ n,yOX n b v = some y := ⟨0,h⟩
def z0D_e:Entry := { f := 29,args := yMq,ress := yRV,m := fun x=>yP3 x.1 x.2.1 }
theorem yPQ:FnOK Tryz.prog z0D_e := yT (g := ySP) (fn := Tryz.f29) yH yS (yE yI0 (yE ySd eNil)) (by kernel_rfl) (by kernel_rfl) (by kernel_rfl) (fun x y h=>let ⟨n,hn⟩ := yN1 x.1 x.2.1 y h; ⟨yMX n,iNil,(yPC n x).trans hn⟩)
abbrev yMw:Ty := .pair t41 (.pair t26 .unit)
abbrev yPD:Ty := .pair t26 (.pair t35 .unit)
def yS7:G := { T := T,E := [za_e,zd_e],muts := [],fz := [] }
def yUP:List (List Nat) := []
def yMS (n:Nat):Ann := { keep := yUP,fuel := n,inl := [],deep := 0 }
def yOp (n:Nat) (b:Bas) (v:List Int):Option (List Int×Int×Unit) :=
  (Option.bind (za_M b v) fun (v0:Int×Unit)=>(bif v0.1 != 0 then some ([],v0.1,()) else (Option.bind (zd_M b v) fun (v1:List Int×Unit)=>some (v1.1,(0:Int),()))))
theorem yPR (n:Nat) (x:yMw.den):runF yS7 (yMS n) Tryz.f30 yMw yPD x = yOp n x.1 x.2.1 := by kernel_rfl
def yOb (b:Bas) (v:List Int):Option (List Int×Int×Unit) := yOp 0 b v
theorem yOK (b:Bas) (v:List Int) (y:List Int×Int×Unit) (h:yOb b v = some y) : ∃ n,yOp n b v = some y := ⟨0,h⟩
def z0L_e:Entry := { f := 30,args := yMw,ress := yPD,m := fun x=>yOb x.1 x.2.1 }
theorem yT2:FnOK Tryz.prog z0L_e := yT (g := yS7) (fn := Tryz.f30) yH yS (yE yI0 (yE yQ8 eNil)) (by kernel_rfl) (by kernel_rfl) (by kernel_rfl) (fun x y h=>let ⟨n,hn⟩ := yOK x.1 x.2.1 y h; ⟨yMS n,iNil,(yPR n x).trans hn⟩)
abbrev yNv:Ty := .pair t41 (.pair t26 .unit)
abbrev ySQ:Ty := .pair t26 (.pair t35 .unit)
def yTI:G := { T := T,E := [za_e],muts := [7],fz := [] }
def yUf:List (List Nat) := [[1,7,17,18,19]]
def yM5 (n:Nat):Ann := { keep := yUf,fuel := n,inl := [],deep := 0 }
def yEy (n:Nat) (r1:List Int→List Nod→Int→Int→List Int→Option (List Int×Int×Unit)) (aX:List Int) (am:List Nod) (bh:Int) (b5:Int) (aZ:List Int):Option (List Int×Int×Unit) :=
  (bif decide (b5 < bh) then (Option.bind (idx am b5) fun (v2:Nod)=>(Option.bind (idx aX b5) fun (v3:Int)=>(bif decide (aZ.length + (1:Nat)≤memMax) then r1 aX am bh (IntKind.i64.wrap (b5 + 1)) (aZ ++ [if IntKind.i64.wrap (IntKind.i64.wrap (IntKind.i64.wrap (v2.2.1 * IntKind.i64.wrap (v2.2.2.1 + 1)) - (1:Int)) - v3) > (-1:Int) then IntKind.i64.wrap (IntKind.i64.wrap (IntKind.i64.wrap (v2.2.1 * IntKind.i64.wrap (v2.2.2.1 + 1)) - (1:Int)) - v3) else (-1:Int)]) else none))) else some (aZ,(0:Int),()))
def y7J (n:Nat)  (k:Nat) (aX:List Int) (am:List Nod) (bh:Int) (b5:Int) (aZ:List Int):Option (List Int×Int×Unit) :=
  iter (fun r y=>yEy n (fun aX am bh b5 aZ=>r ((aX,(am,(bh,(b5,())))),((aZ,()),()))) y.1.1 y.1.2.1 y.1.2.2.1 y.1.2.2.2.1 y.2.1.1) k ((aX,(am,(bh,(b5,())))),((aZ,()),()))
def yKo (n:Nat) (b:Bas) (v:List Int):Option (List Int×Int×Unit) :=
  (Option.bind (za_M b v) fun (v0:Int×Unit)=>(bif v0.1 != 0 then some ([],v0.1,()) else (y7J n n (v) (b.1) ((↑b.1.length:Int)) ((0:Int)) ([]))))
theorem yPX (n:Nat) (x:yNv.den):runF yTI (yM5 n) Tryz.f31 yNv ySQ x = yKo n x.1 x.2.1 := by kernel_rfl
def yIo (aX:List Int) (am:List Nod) (b5:Int) (v2:Nod) (aZ:List Int):Option ((List Int×Int×Unit)⊕(List Int)) :=
  (Option.bind (idx aX b5) fun (v3:Int)=>(bif decide (aZ.length + (1:Nat)≤memMax) then (some (Sum.inr (aZ ++ [if IntKind.i64.wrap (IntKind.i64.wrap (IntKind.i64.wrap (v2.2.1 * IntKind.i64.wrap (v2.2.2.1 + 1)) - (1:Int)) - v3) > (-1:Int) then IntKind.i64.wrap (IntKind.i64.wrap (IntKind.i64.wrap (v2.2.1 * IntKind.i64.wrap (v2.2.2.1 + 1)) - (1:Int)) - v3) else (-1:Int)]))) else none))
def yIz (aX:List Int) (am:List Nod) (aZ:List Int):Option (List Int×Int×Unit) :=
  (some ((aZ,(0:Int),())))
theorem yDz (n:Nat) (hn:big≤n)  (aX:List Int) (am:List Nod) (aZ:List Int) (hx:List.length (am) < lenMax):LeF some (yK (fun i__ e__ s__=>yIo aX am i__ e__ s__) (fun s__=>yIz aX am s__) 0 (am) aZ) (y7J n n aX am (List.length (am):Int) 0 aZ) := by
  refine yN (f := some) (W := fun k__ i__ s__=>y7J n k__ aX am (List.length (am):Int) i__ s__) (body := (fun i__ e__ s__=>yIo aX am i__ e__ s__)) (fin := (fun s__=>yIz aX am s__)) (fun k__ i__ s__=>?_) hx aZ n (by unfold big at hn; unfold lenMax at hx; omega)
  show LeF _ _ (yEy n (y7J n k__) aX am (List.length (am):Int) i__ s__)
  exact y5 (y9 fun v2=>(y9 fun v3=>(y5 (y7 rfl) yp))) (y02 (y7 rfl))
def yJX (b:Bas) (v:List Int):Option (List Int×Int×Unit) :=
  (Option.bind (za_M b v) fun (v0:Int×Unit)=>(bif v0.1 != 0 then (some (([],v0.1,()))) else (bif decide (List.length (b.1) < lenMax) then yK (fun i__ e__ s__=>yIo (v) (b.1) i__ e__ s__) (fun s__=>yIz (v) (b.1) s__) 0 (b.1) ([]) else none)))
theorem yO7 (b:Bas) (v:List Int) (y:List Int×Int×Unit) (h:yJX b v = some y) : ∃ n,yKo n b v = some y :=
  ⟨big,LeF.top (show LeF some (yJX b v) (yKo big b v) from (fun (n:Nat) (hn:big≤n)=>show LeF some (yJX b v) (yKo n b v) from (y9 fun v0=>(y5 (y7 rfl) (yL fun hx=>by apply yDz n hn; exact hx)))) big (Nat.le_refl _)) h⟩
def z0b_e:Entry := { f := 31,args := yNv,ress := ySQ,m := fun x=>yJX x.1 x.2.1 }
theorem yQD:FnOK Tryz.prog z0b_e := yT (g := yTI) (fn := Tryz.f31) yH yS (yE yI0 eNil) (by kernel_rfl) (by kernel_rfl) (by kernel_rfl) (fun x y h=>let ⟨n,hn⟩ := yO7 x.1 x.2.1 y h; ⟨yM5 n,iNil,(yPX n x).trans hn⟩)
abbrev yOt:Ty := .pair t41 (.pair t97 (.pair t108 .unit))
abbrev yRY:Ty := .pair t119 (.pair t35 .unit)
def yRH:G := { T := T,E := [zR_e,z0j_e,z6_e,zc_e,zt_e,ze_e],muts := [12,15],fz := [] }
def yV9:List (List Nat) := [[9,12,49,50,51],[9,12,13,15,49,50,51,57,58,59]]
def yMK (n:Nat):Ann := { keep := yV9,fuel := n,inl := [],deep := 0 }
def yFQ (n:Nat) (r7:List Psg→List Psg→Int→Int→List (List (Int×Int×Unit))→Option (List (List (Int×Int×Unit))×Int×Unit)) (r9:List Psg→Int→List Psg→Int→Int→List Int→Int→Int→List (List (Int×Int×Unit))→List (Int×Int×Unit)→Option (List (List (Int×Int×Unit))×Int×Unit)) (ac:List Psg) (aH:Int) (aC:List Psg) (aD:Int) (aE:Int) (aq:List Int) (bi:Int) (b6:Int) (aV:List (List (Int×Int×Unit))) (b4:List (Int×Int×Unit)):Option (List (List (Int×Int×Unit))×Int×Unit) :=
  (bif decide (b6 < bi) then (Option.bind (idx aq b6) fun (v10:Int)=>(Option.bind (idx ac aH) fun (v11:Psg)=>(Option.bind (idx (v11.2.2.1.getD []) b6) fun (v12:Int)=>(bif decide (b4.length + (1:Nat)≤memMax) then r9 ac aH aC aD aE aq bi (IntKind.i64.wrap (b6 + 1)) aV (b4 ++ [(v10,v12,())]) else none)))) else (bif decide (aV.length + (1:Nat)≤memMax) then r7 ac aC aD (IntKind.i64.wrap (aE + 1)) (aV ++ [b4]) else none))
def y74 (n:Nat) (r7:List Psg→List Psg→Int→Int→List (List (Int×Int×Unit))→Option (List (List (Int×Int×Unit))×Int×Unit)) (k:Nat) (ac:List Psg) (aH:Int) (aC:List Psg) (aD:Int) (aE:Int) (aq:List Int) (bi:Int) (b6:Int) (aV:List (List (Int×Int×Unit))) (b4:List (Int×Int×Unit)):Option (List (List (Int×Int×Unit))×Int×Unit) :=
  iter (fun r y=>yFQ n r7 (fun ac aH aC aD aE aq bi b6 aV b4=>r ((ac,(aH,(aC,(aD,(aE,(aq,(bi,(b6,())))))))),((aV,(b4,())),()))) y.1.1 y.1.2.1 y.1.2.2.1 y.1.2.2.2.1 y.1.2.2.2.2.1 y.1.2.2.2.2.2.1 y.1.2.2.2.2.2.2.1 y.1.2.2.2.2.2.2.2.1 y.2.1.1 y.2.1.2.1) k ((ac,(aH,(aC,(aD,(aE,(aq,(bi,(b6,())))))))),((aV,(b4,())),()))
def yEH (n:Nat) (r7:List Psg→List Psg→Int→Int→List (List (Int×Int×Unit))→Option (List (List (Int×Int×Unit))×Int×Unit)) (af:List Psg) (ah:List Psg) (bj:Int) (aT:Int) (b8:List (List (Int×Int×Unit))):Option (List (List (Int×Int×Unit))×Int×Unit) :=
  (bif decide (aT < bj) then (Option.bind (idx ah aT) fun (v8:Psg)=>(y74 n r7 n (af) (aT) (ah) (bj) (aT) (v8.2.2.1.getD []) ((↑(v8.2.2.1.getD []).length:Int)) ((0:Int)) (b8) ([]))) else some (b8,(0:Int),()))
def y7G (n:Nat)  (k:Nat) (af:List Psg) (ah:List Psg) (bj:Int) (aT:Int) (b8:List (List (Int×Int×Unit))):Option (List (List (Int×Int×Unit))×Int×Unit) :=
  iter (fun r y=>yEH n (fun af ah bj aT b8=>r ((af,(ah,(bj,(aT,())))),((b8,()),()))) y.1.1 y.1.2.1 y.1.2.2.1 y.1.2.2.2.1 y.2.1.1) k ((af,(ah,(bj,(aT,())))),((b8,()),()))
def yKk (n:Nat) (b:Bas) (v:List (Int×Int×Unit)) (l:List Rng):Option (List (List (Int×Int×Unit))×Int×Unit) :=
  (Option.bind (zR_M b v l) fun (v0:Int×Unit)=>(bif v0.1 != 0 then some ([],v0.1,()) else (Option.bind (y96 v (1:Int)) fun (v1:List Int×Unit)=>(Option.bind (z6_M l fun (x:Rng×Unit)=>zc_M x.1) fun (v2:List Cnd×Unit)=>(Option.bind (zt_M b v1.1 v2.1) fun (v3:List Psg×Int×Unit)=>(bif v3.2.1 != 0 then some ([],v3.2.1,()) else (Option.bind (y96 v (0:Int)) fun (v4:List Int×Unit)=>(Option.bind (z6_M l fun (x:Rng×Unit)=>ze_M x.1) fun (v5:List Cnd×Unit)=>(Option.bind (zt_M b v4.1 v5.1) fun (v6:List Psg×Int×Unit)=>(bif v6.2.1 != 0 then some ([],v6.2.1,()) else (y7G n n (v3.1) (v6.1) ((↑v6.1.length:Int)) ((0:Int)) ([]))))))))))))
theorem yRq (n:Nat) (x:yOt.den):runF yRH (yMK n) Tryz.f66 yOt yRY x = yKk n x.1 x.2.1 x.2.2.1 := by kernel_rfl
def yA4 (ac:List Psg) (aH:Int) (aC:List Psg) (aD:Int) (aE:Int) (aq:List Int) (aV:List (List (Int×Int×Unit))) (b6:Int) (v10:Int) (b4:List (Int×Int×Unit)):Option (((List (List (Int×Int×Unit))×Int×Unit)⊕(List (List (Int×Int×Unit))))⊕(List (Int×Int×Unit))) :=
  (Option.bind (idx ac aH) fun (v11:Psg)=>(Option.bind (idx (v11.2.2.1.getD []) b6) fun (v12:Int)=>(bif decide (b4.length + (1:Nat)≤memMax) then (some (Sum.inr (b4 ++ [(v10,v12,())]))) else none)))
def yA2 (ac:List Psg) (aH:Int) (aC:List Psg) (aD:Int) (aE:Int) (aq:List Int) (aV:List (List (Int×Int×Unit))) (b4:List (Int×Int×Unit)):Option ((List (List (Int×Int×Unit))×Int×Unit)⊕(List (List (Int×Int×Unit)))) :=
  (bif decide (aV.length + (1:Nat)≤memMax) then (some (Sum.inr (aV ++ [b4]))) else none)
theorem yD2 (n:Nat) (hn:big≤n)  (r7:List Psg→List Psg→Int→Int→List (List (Int×Int×Unit))→Option (List (List (Int×Int×Unit))×Int×Unit)) (ac:List Psg) (aH:Int) (aC:List Psg) (aD:Int) (aE:Int) (aq:List Int) (aV:List (List (Int×Int×Unit))) (b4:List (Int×Int×Unit)) (hx:List.length (aq) < lenMax):LeF (elim some fun (s__:(List (List (Int×Int×Unit))))=>r7 ac aC aD (IntKind.i64.wrap (aE + 1)) s__) (yK (fun i__ e__ s__=>yA4 ac aH aC aD aE aq aV i__ e__ s__) (fun s__=>yA2 ac aH aC aD aE aq aV s__) 0 (aq) b4) (y74 n r7 n ac aH aC aD aE aq (List.length (aq):Int) 0 aV b4) := by
  refine yN (f := (elim some fun (s__:(List (List (Int×Int×Unit))))=>r7 ac aC aD (IntKind.i64.wrap (aE + 1)) s__)) (W := fun k__ i__ s__=>y74 n r7 k__ ac aH aC aD aE aq (List.length (aq):Int) i__ aV s__) (body := (fun i__ e__ s__=>yA4 ac aH aC aD aE aq aV i__ e__ s__)) (fin := (fun s__=>yA2 ac aH aC aD aE aq aV s__)) (fun k__ i__ s__=>?_) hx b4 n (by unfold big at hn; unfold lenMax at hx; omega)
  show LeF _ _ (yFQ n r7 (y74 n r7 k__) ac aH aC aD aE aq (List.length (aq):Int) i__ aV s__)
  exact y5 (y9 fun v10=>(y9 fun v11=>(y9 fun v12=>(y5 (y7 rfl) yp)))) (y02 (y5 (y7 rfl) yp))
def y9q (af:List Psg) (ah:List Psg) (aT:Int) (v8:Psg) (b8:List (List (Int×Int×Unit))):Option ((List (List (Int×Int×Unit))×Int×Unit)⊕(List (List (Int×Int×Unit)))) :=
  (bif decide (List.length (v8.2.2.1.getD []) < lenMax) then yK (fun i__ e__ s__=>yA4 (af) (aT) (ah) ((↑ah.length:Int)) (aT) (v8.2.2.1.getD []) (b8) i__ e__ s__) (fun s__=>yA2 (af) (aT) (ah) ((↑ah.length:Int)) (aT) (v8.2.2.1.getD []) (b8) s__) 0 (v8.2.2.1.getD []) ([]) else none)
def yFg (af:List Psg) (ah:List Psg) (b8:List (List (Int×Int×Unit))):Option (List (List (Int×Int×Unit))×Int×Unit) :=
  (some ((b8,(0:Int),())))
theorem yDa (n:Nat) (hn:big≤n)  (af:List Psg) (ah:List Psg) (b8:List (List (Int×Int×Unit))) (hx:List.length (ah) < lenMax):LeF some (yK (fun i__ e__ s__=>y9q af ah i__ e__ s__) (fun s__=>yFg af ah s__) 0 (ah) b8) (y7G n n af ah (List.length (ah):Int) 0 b8) := by
  refine yN (f := some) (W := fun k__ i__ s__=>y7G n k__ af ah (List.length (ah):Int) i__ s__) (body := (fun i__ e__ s__=>y9q af ah i__ e__ s__)) (fin := (fun s__=>yFg af ah s__)) (fun k__ i__ s__=>?_) hx b8 n (by unfold big at hn; unfold lenMax at hx; omega)
  show LeF _ _ (yEH n (y7G n k__) af ah (List.length (ah):Int) i__ s__)
  exact y5 (y9 fun v8=>(yL fun hx=>by apply yD2 n hn; exact hx)) (y02 (y7 rfl))
def y5p (b:Bas) (v:List (Int×Int×Unit)) (l:List Rng):Option (List (List (Int×Int×Unit))×Int×Unit) :=
  (Option.bind (zR_M b v l) fun (v0:Int×Unit)=>(bif v0.1 != 0 then (some (([],v0.1,()))) else (Option.bind (y96 v (1:Int)) fun (v1:List Int×Unit)=>(Option.bind (z6_M l fun (x:Rng×Unit)=>zc_M x.1) fun (v2:List Cnd×Unit)=>(Option.bind (zt_M b v1.1 v2.1) fun (v3:List Psg×Int×Unit)=>(bif v3.2.1 != 0 then (some (([],v3.2.1,()))) else (Option.bind (y96 v (0:Int)) fun (v4:List Int×Unit)=>(Option.bind (z6_M l fun (x:Rng×Unit)=>ze_M x.1) fun (v5:List Cnd×Unit)=>(Option.bind (zt_M b v4.1 v5.1) fun (v6:List Psg×Int×Unit)=>(bif v6.2.1 != 0 then (some (([],v6.2.1,()))) else (bif decide (List.length (v6.1) < lenMax) then yK (fun i__ e__ s__=>y9q (v3.1) (v6.1) i__ e__ s__) (fun s__=>yFg (v3.1) (v6.1) s__) 0 (v6.1) ([]) else none)))))))))))
theorem yOi (b:Bas) (v:List (Int×Int×Unit)) (l:List Rng) (y:List (List (Int×Int×Unit))×Int×Unit) (h:y5p b v l = some y) : ∃ n,yKk n b v l = some y :=
  ⟨big,LeF.top (show LeF some (y5p b v l) (yKk big b v l) from (fun (n:Nat) (hn:big≤n)=>show LeF some (y5p b v l) (yKk n b v l) from (y9 fun v0=>(y5 (y7 rfl) (y9 fun v1=>(y9 fun v2=>(y9 fun v3=>(y5 (y7 rfl) (y9 fun v4=>(y9 fun v5=>(y9 fun v6=>(y5 (y7 rfl) (yL fun hx=>by apply yDa n hn; exact hx)))))))))))) big (Nat.le_refl _)) h⟩
def z03_e:Entry := { f := 66,args := yOt,ress := yRY,m := fun x=>y5p x.1 x.2.1 x.2.2.1 }
theorem yM8:FnOK Tryz.prog z03_e := yT (g := yRH) (fn := Tryz.f66) yH yS (yE yO4 (yE yHl (yE yQN (yE yPK (yE yN5 (yE yVf eNil)))))) (by kernel_rfl) (by kernel_rfl) (by kernel_rfl) (fun x y h=>let ⟨n,hn⟩ := yOi x.1 x.2.1 x.2.2.1 y h; ⟨yMK n,iNil,(yRq n x).trans hn⟩)
abbrev yMx:Ty := .pair t41 (.pair t26 (.pair t54 .unit))
abbrev yTv:Ty := .pair t167 (.pair t35 .unit)
def yRr:G := { T := T,E := [za_e,z0e_e,zF_e,z7_e,z0Q_e,zt_e],muts := [],fz := [] }
def yV0:List (List Nat) := []
def yMe (n:Nat):Ann := { keep := yV0,fuel := n,inl := [],deep := 0 }
def yOw (n:Nat) (b:Bas) (v:List Int) (l:List Cnd):Option (List Psg×Int×Unit) :=
  (Option.bind (za_M b v) fun (v0:Int×Unit)=>(Option.bind (z7_M l fun (z:Cnd×Unit)=>zF_M b z.1) fun (v1:List Int×Unit)=>(Option.bind (y0c v1.1) fun (v2:Int×Unit)=>(Option.bind (y0c [v0.1,(z0e (decide ((↑l.length:Int) > 96)) (5:Int)).1,v2.1]) fun (v3:Int×Unit)=>(bif v3.1 != 0 then some ([],v3.1,()) else (Option.bind (zt_M b v l) fun (v4:List Psg×Int×Unit)=>some (v4.1,v4.2.1,())))))))
theorem yRo (n:Nat) (x:yMx.den):runF yRr (yMe n) Tryz.f96 yMx yTv x = yOw n x.1 x.2.1 x.2.2.1 := by kernel_rfl
def yFp (b:Bas) (v:List Int) (l:List Cnd):Option (List Psg×Int×Unit) := yOw 0 b v l
theorem yMt (b:Bas) (v:List Int) (l:List Cnd) (y:List Psg×Int×Unit) (h:yFp b v l = some y) : ∃ n,yOw n b v l = some y := ⟨0,h⟩
def z04_e:Entry := { f := 96,args := yMx,ress := yTv,m := fun x=>yFp x.1 x.2.1 x.2.2.1 }
theorem yJq:FnOK Tryz.prog z04_e := yT (g := yRr) (fn := Tryz.f96) yH yS (yE yI0 (yE y47 (yE yPH (yE yUx (yE y3u (yE yN5 eNil)))))) (by kernel_rfl) (by kernel_rfl) (by kernel_rfl) (fun x y h=>let ⟨n,hn⟩ := yMt x.1 x.2.1 x.2.2.1 y h; ⟨yMe n,iNil,(yRo n x).trans hn⟩)
end
end Go.Tw
end
section
set_option maxRecDepth 1000000
namespace Go.Tw
open Go.Vx Go.Vx.B Go.Proofs
noncomputable section
abbrev yO8:Ty := .pair t41 (.pair t26 (.pair t54 .unit))
abbrev yT1:Ty := .pair t56 (.pair t35 .unit)
def yQj:G := { T := T,E := [z04_e,z09_e],muts := [],fz := [] }
def yVE:List (List Nat) := []
def yMc (n:Nat):Ann := { keep := yVE,fuel := n,inl := [],deep := 0 }
def yOE (n:Nat) (b:Bas) (v:List Int) (l:List Cnd):Option (List (List Int)×Int×Unit) :=
  (Option.bind (yFp b v l) fun (v0:List Psg×Int×Unit)=>(Option.bind (yG8 v0.1) fun (v1:List (List Int)×Unit)=>some (v1.1,v0.2.1,())))
theorem yPF (n:Nat) (x:yO8.den):runF yQj (yMc n) Tryz.f27 yO8 yT1 x = yOE n x.1 x.2.1 x.2.2.1 := by kernel_rfl
def yNj (b:Bas) (v:List Int) (l:List Cnd):Option (List (List Int)×Int×Unit) := yOE 0 b v l
theorem yOj (b:Bas) (v:List Int) (l:List Cnd) (y:List (List Int)×Int×Unit) (h:yNj b v l = some y) : ∃ n,yOE n b v l = some y := ⟨0,h⟩
def z0i_e:Entry := { f := 27,args := yO8,ress := yT1,m := fun x=>yNj x.1 x.2.1 x.2.2.1 }
theorem yQ3:FnOK Tryz.prog z0i_e := yT (g := yQj) (fn := Tryz.f27) yH yS (yE yJq (yE yM7 eNil)) (by kernel_rfl) (by kernel_rfl) (by kernel_rfl) (fun x y h=>let ⟨n,hn⟩ := yOj x.1 x.2.1 x.2.2.1 y h; ⟨yMc n,iNil,(yPF n x).trans hn⟩)
abbrev yNt:Ty := .pair t41 (.pair t26 (.pair t44 .unit))
abbrev yTP:Ty := .pair t26 (.pair t35 .unit)
def yTc:G := { T := T,E := [z04_e],muts := [],fz := [] }
def yUW:List (List Nat) := []
def yMF (n:Nat):Ann := { keep := yUW,fuel := n,inl := [],deep := 0 }
def yNR (n:Nat) (b:Bas) (v:List Int) (c:Cnd):Option (List Int×Int×Unit) :=
  (Option.bind (yFp b v [c]) fun (v0:List Psg×Int×Unit)=>(bif v0.2.1 != 0 then some ([],v0.2.1,()) else (Option.bind (idx v0.1 (0:Int)) fun (v1:Psg)=>some (v1.2.1,(0:Int),()))))
theorem yRT (n:Nat) (x:yNt.den):runF yTc (yMF n) Tryz.f42 yNt yTP x = yNR n x.1 x.2.1 x.2.2.1 := by kernel_rfl
def yO0 (b:Bas) (v:List Int) (c:Cnd):Option (List Int×Int×Unit) := yNR 0 b v c
theorem yOM (b:Bas) (v:List Int) (c:Cnd) (y:List Int×Int×Unit) (h:yO0 b v c = some y) : ∃ n,yNR n b v c = some y := ⟨0,h⟩
def z0M_e:Entry := { f := 42,args := yNt,ress := yTP,m := fun x=>yO0 x.1 x.2.1 x.2.2.1 }
theorem ySE:FnOK Tryz.prog z0M_e := yT (g := yTc) (fn := Tryz.f42) yH yS (yE yJq eNil) (by kernel_rfl) (by kernel_rfl) (by kernel_rfl) (fun x y h=>let ⟨n,hn⟩ := yOM x.1 x.2.1 x.2.2.1 y h; ⟨yMF n,iNil,(yRT n x).trans hn⟩)
abbrev yOf:Ty := .pair t41 (.pair t26 (.pair t54 .unit))
abbrev yRe:Ty := .pair t78 (.pair t35 .unit)
def yRL:G := { T := T,E := [z04_e],muts := [],fz := [] }
def yVY:List (List Nat) := [[3,6,10,28,29,30],[3,6,10,12,28,29,30,36,37,38],[3,6,10,28,29,30,49,50,51]]
def yMO (n:Nat):Ann := { keep := yVY,fuel := n,inl := [],deep := 0 }
def yFI (n:Nat) (r1:Bas→List Psg→Int→Int→Int→Int→Int→Int→Int→Int→Option ((Int×Int×Int×Unit)×Int×Unit)) (r5:Bas→List Psg→Int→Int→List Int→Int→Int→Int→Int→Int→Int→Int→Int→Option ((Int×Int×Int×Unit)×Int×Unit)) (aF:Bas) (ar:List Psg) (au:Int) (av:Int) (aj:List Int) (bc:Int) (aI:Int) (b0_0_5:Int) (b0_1_5:Int) (b0_2_5:Int) (b1_0_5:Int) (b1_1_5:Int) (b1_2_5:Int):Option ((Int×Int×Int×Unit)×Int×Unit) :=
  (bif decide (aI < bc) then (Option.bind (idx aj aI) fun (v6:Int)=>(Option.bind (idx aF.2.1 aI) fun (v7:Lnk)=>(bif v7.2.1==(-1:Int) then (Option.bind (idx aF.2.1 aI) fun (v10:Lnk)=>(bif v10.2.2.1==(-1:Int) then r5 aF ar au av aj bc (IntKind.i64.wrap (aI + 1)) b0_0_5 b0_1_5 b0_2_5 b1_0_5 (IntKind.i64.wrap (b1_1_5 + if (0:Int) > v6 then (0:Int) else v6)) (IntKind.i64.wrap (IntKind.i64.wrap (b1_2_5 + if (0:Int) > IntKind.i64.wrap ((0:Int) - v6) then (0:Int) else IntKind.i64.wrap ((0:Int) - v6)) + v6)) else r5 aF ar au av aj bc (IntKind.i64.wrap (aI + 1)) b0_0_5 b0_1_5 b0_2_5 b1_0_5 (IntKind.i64.wrap (b1_1_5 + if (0:Int) > v6 then (0:Int) else v6)) (IntKind.i64.wrap (b1_2_5 + if (0:Int) > IntKind.i64.wrap ((0:Int) - v6) then (0:Int) else IntKind.i64.wrap ((0:Int) - v6))))) else (Option.bind (idx aF.2.1 aI) fun (v11:Lnk)=>(bif v11.2.2.1==(-1:Int) then r5 aF ar au av aj bc (IntKind.i64.wrap (aI + 1)) b0_0_5 b0_1_5 b0_2_5 b1_0_5 b1_1_5 (IntKind.i64.wrap (b1_2_5 + v6)) else r5 aF ar au av aj bc (IntKind.i64.wrap (aI + 1)) b0_0_5 b0_1_5 b0_2_5 b1_0_5 b1_1_5 b1_2_5))))) else r1 aF ar au (IntKind.i64.wrap (av + 1)) b0_0_5 b0_1_5 b0_2_5 b1_0_5 b1_1_5 b1_2_5)
def y7N (n:Nat) (r1:Bas→List Psg→Int→Int→Int→Int→Int→Int→Int→Int→Option ((Int×Int×Int×Unit)×Int×Unit)) (k:Nat) (aF:Bas) (ar:List Psg) (au:Int) (av:Int) (aj:List Int) (bc:Int) (aI:Int) (b0_0_5:Int) (b0_1_5:Int) (b0_2_5:Int) (b1_0_5:Int) (b1_1_5:Int) (b1_2_5:Int):Option ((Int×Int×Int×Unit)×Int×Unit) :=
  iter (fun r y=>yFI n r1 (fun aF ar au av aj bc aI b0_0_5 b0_1_5 b0_2_5 b1_0_5 b1_1_5 b1_2_5=>r ((aF,(ar,(au,(av,(aj,(bc,(aI,()))))))),(((b0_0_5,(b0_1_5,(b0_2_5,()))),((b1_0_5,(b1_1_5,(b1_2_5,()))),())),()))) y.1.1 y.1.2.1 y.1.2.2.1 y.1.2.2.2.1 y.1.2.2.2.2.1 y.1.2.2.2.2.2.1 y.1.2.2.2.2.2.2.1 y.2.1.1.1 y.2.1.1.2.1 y.2.1.1.2.2.1 y.2.1.2.1.1 y.2.1.2.1.2.1 y.2.1.2.1.2.2.1) k ((aF,(ar,(au,(av,(aj,(bc,(aI,()))))))),(((b0_0_5,(b0_1_5,(b0_2_5,()))),((b1_0_5,(b1_1_5,(b1_2_5,()))),())),()))
def yFZ (n:Nat) (r1:Bas→List Psg→Int→Int→Int→Int→Int→Int→Int→Int→Option ((Int×Int×Int×Unit)×Int×Unit)) (r3:Bas→List Psg→Int→Int→List Int→Int→Int→Int→Int→Int→Int→Int→Int→Int→Bool→List Int→List Int→Option (List Int)→Option ((Int×Int×Int×Unit)×Int×Unit)) (aU:Bas) (ay:List Psg) (az:Int) (aA:Int) (ax:List Int) (bl:Int) (be:Int) (b0_0_3:Int) (b0_1_3:Int) (b0_2_3:Int) (b1_0_3:Int) (b1_1_3:Int) (b1_2_3:Int) (b2_0_3:Int) (b2_1_3:Bool) (b2_2_3:List Int) (b2_3_3:List Int) (b2_4_3:Option (List Int)):Option ((Int×Int×Int×Unit)×Int×Unit) :=
  (bif decide (be < bl) then (Option.bind (idx ax be) fun (v4:Int)=>r3 aU ay az aA ax bl (IntKind.i64.wrap (be + 1)) b0_0_3 b0_1_3 b0_2_3 (IntKind.i64.wrap (b1_0_3 + v4)) b1_1_3 b1_2_3 b2_0_3 b2_1_3 b2_2_3 b2_3_3 b2_4_3) else (y7N n r1 n (aU) (ay) (az) (aA) (b2_3_3) ((↑b2_3_3.length:Int)) ((0:Int)) (b0_0_3) (b0_1_3) (b0_2_3) (b1_0_3) (b1_1_3) (b1_2_3)))
def y7M (n:Nat) (r1:Bas→List Psg→Int→Int→Int→Int→Int→Int→Int→Int→Option ((Int×Int×Int×Unit)×Int×Unit)) (k:Nat) (aU:Bas) (ay:List Psg) (az:Int) (aA:Int) (ax:List Int) (bl:Int) (be:Int) (b0_0_3:Int) (b0_1_3:Int) (b0_2_3:Int) (b1_0_3:Int) (b1_1_3:Int) (b1_2_3:Int) (b2_0_3:Int) (b2_1_3:Bool) (b2_2_3:List Int) (b2_3_3:List Int) (b2_4_3:Option (List Int)):Option ((Int×Int×Int×Unit)×Int×Unit) :=
  iter (fun r y=>yFZ n r1 (fun aU ay az aA ax bl be b0_0_3 b0_1_3 b0_2_3 b1_0_3 b1_1_3 b1_2_3 b2_0_3 b2_1_3 b2_2_3 b2_3_3 b2_4_3=>r ((aU,(ay,(az,(aA,(ax,(bl,(be,()))))))),(((b0_0_3,(b0_1_3,(b0_2_3,()))),((b1_0_3,(b1_1_3,(b1_2_3,()))),((b2_0_3,(b2_1_3,(b2_2_3,(b2_3_3,(b2_4_3,()))))),()))),()))) y.1.1 y.1.2.1 y.1.2.2.1 y.1.2.2.2.1 y.1.2.2.2.2.1 y.1.2.2.2.2.2.1 y.1.2.2.2.2.2.2.1 y.2.1.1.1 y.2.1.1.2.1 y.2.1.1.2.2.1 y.2.1.2.1.1 y.2.1.2.1.2.1 y.2.1.2.1.2.2.1 y.2.1.2.2.1.1 y.2.1.2.2.1.2.1 y.2.1.2.2.1.2.2.1 y.2.1.2.2.1.2.2.2.1 y.2.1.2.2.1.2.2.2.2.1) k ((aU,(ay,(az,(aA,(ax,(bl,(be,()))))))),(((b0_0_3,(b0_1_3,(b0_2_3,()))),((b1_0_3,(b1_1_3,(b1_2_3,()))),((b2_0_3,(b2_1_3,(b2_2_3,(b2_3_3,(b2_4_3,()))))),()))),()))
def yEq (n:Nat) (r1:Bas→List Psg→Int→Int→Int→Int→Int→Int→Int→Int→Option ((Int×Int×Int×Unit)×Int×Unit)) (aY:Bas) (ai:List Psg) (bm:Int) (b7:Int) (b0_0_1:Int) (b0_1_1:Int) (b0_2_1:Int) (b1_0_1:Int) (b1_1_1:Int) (b1_2_1:Int):Option ((Int×Int×Int×Unit)×Int×Unit) :=
  (bif decide (b7 < bm) then (Option.bind (idx ai b7) fun (v2:Psg)=>(y7M n r1 n (aY) (ai) (bm) (b7) (v2.1.2.2.1) ((↑v2.1.2.2.1.length:Int)) ((0:Int)) (b0_0_1) (b0_1_1) (b0_2_1) (b1_0_1) (b1_1_1) (b1_2_1) (v2.1.1) (v2.1.2.1) (v2.1.2.2.1) (v2.2.1) (v2.2.2.1))) else some ((b1_0_1,b1_1_1,b1_2_1,()),(0:Int),()))
def y79 (n:Nat)  (k:Nat) (aY:Bas) (ai:List Psg) (bm:Int) (b7:Int) (b0_0_1:Int) (b0_1_1:Int) (b0_2_1:Int) (b1_0_1:Int) (b1_1_1:Int) (b1_2_1:Int):Option ((Int×Int×Int×Unit)×Int×Unit) :=
  iter (fun r y=>yEq n (fun aY ai bm b7 b0_0_1 b0_1_1 b0_2_1 b1_0_1 b1_1_1 b1_2_1=>r ((aY,(ai,(bm,(b7,())))),(((b0_0_1,(b0_1_1,(b0_2_1,()))),((b1_0_1,(b1_1_1,(b1_2_1,()))),())),()))) y.1.1 y.1.2.1 y.1.2.2.1 y.1.2.2.2.1 y.2.1.1.1 y.2.1.1.2.1 y.2.1.1.2.2.1 y.2.1.2.1.1 y.2.1.2.1.2.1 y.2.1.2.1.2.2.1) k ((aY,(ai,(bm,(b7,())))),(((b0_0_1,(b0_1_1,(b0_2_1,()))),((b1_0_1,(b1_1_1,(b1_2_1,()))),())),()))
def yKn (n:Nat) (b:Bas) (v:List Int) (l:List Cnd):Option ((Int×Int×Int×Unit)×Int×Unit) :=
  (Option.bind (yFp b v l) fun (v0:List Psg×Int×Unit)=>(bif v0.2.1 != 0 then some (((0:Int),(0:Int),(0:Int),()),v0.2.1,()) else (y79 n n (b) (v0.1) ((↑v0.1.length:Int)) ((0:Int)) ((0:Int)) ((0:Int)) ((0:Int)) ((0:Int)) ((0:Int)) ((0:Int)))))
theorem ySZ (n:Nat) (x:yOf.den):runF yRL (yMO n) Tryz.f45 yOf yRe x = yKn n x.1 x.2.1 x.2.2.1 := by kernel_rfl
def yIU (aF:Bas) (ar:List Psg) (au:Int) (av:Int) (aj:List Int) (b0_0_5:Int) (b0_1_5:Int) (b0_2_5:Int) (b1_0_5:Int) (aI:Int) (v6:Int) (b1_1_5:Int) (b1_2_5:Int):Option ((((Int×Int×Int×Unit)×Int×Unit)⊕(Int×Int×Int))⊕(Int×Int)) :=
  (Option.bind (idx aF.2.1 aI) fun (v7:Lnk)=>(bif v7.2.1==(-1:Int) then (Option.bind (idx aF.2.1 aI) fun (v10:Lnk)=>(bif v10.2.2.1==(-1:Int) then (some (Sum.inr ((IntKind.i64.wrap (b1_1_5 + if (0:Int) > v6 then (0:Int) else v6)),(IntKind.i64.wrap (IntKind.i64.wrap (b1_2_5 + if (0:Int) > IntKind.i64.wrap ((0:Int) - v6) then (0:Int) else IntKind.i64.wrap ((0:Int) - v6)) + v6))))) else (some (Sum.inr ((IntKind.i64.wrap (b1_1_5 + if (0:Int) > v6 then (0:Int) else v6)),(IntKind.i64.wrap (b1_2_5 + if (0:Int) > IntKind.i64.wrap ((0:Int) - v6) then (0:Int) else IntKind.i64.wrap ((0:Int) - v6)))))))) else (Option.bind (idx aF.2.1 aI) fun (v11:Lnk)=>(bif v11.2.2.1==(-1:Int) then (some (Sum.inr ((b1_1_5),(IntKind.i64.wrap (b1_2_5 + v6))))) else (some (Sum.inr ((b1_1_5),(b1_2_5))))))))
def yIv (aF:Bas) (ar:List Psg) (au:Int) (av:Int) (aj:List Int) (b0_0_5:Int) (b0_1_5:Int) (b0_2_5:Int) (b1_0_5:Int) (b1_1_5:Int) (b1_2_5:Int):Option (((Int×Int×Int×Unit)×Int×Unit)⊕(Int×Int×Int)) :=
  (some (Sum.inr ((b1_0_5),(b1_1_5),(b1_2_5))))
theorem yCx (n:Nat) (hn:big≤n)  (r1:Bas→List Psg→Int→Int→Int→Int→Int→Int→Int→Int→Option ((Int×Int×Int×Unit)×Int×Unit)) (aF:Bas) (ar:List Psg) (au:Int) (av:Int) (aj:List Int) (b0_0_5:Int) (b0_1_5:Int) (b0_2_5:Int) (b1_0_5:Int) (b1_1_5:Int) (b1_2_5:Int) (hx:List.length (aj) < lenMax):LeF (elim some fun (s__:(Int×Int×Int))=>r1 aF ar au (IntKind.i64.wrap (av + 1)) b0_0_5 b0_1_5 b0_2_5 s__.1 s__.2.1 s__.2.2) (yK (fun i__ e__ s__=>yIU aF ar au av aj b0_0_5 b0_1_5 b0_2_5 b1_0_5 i__ e__ s__.1 s__.2) (fun s__=>yIv aF ar au av aj b0_0_5 b0_1_5 b0_2_5 b1_0_5 s__.1 s__.2) 0 (aj) (b1_1_5,b1_2_5)) (y7N n r1 n aF ar au av aj (List.length (aj):Int) 0 b0_0_5 b0_1_5 b0_2_5 b1_0_5 b1_1_5 b1_2_5) := by
  refine yN (f := (elim some fun (s__:(Int×Int×Int))=>r1 aF ar au (IntKind.i64.wrap (av + 1)) b0_0_5 b0_1_5 b0_2_5 s__.1 s__.2.1 s__.2.2)) (W := fun k__ i__ s__=>y7N n r1 k__ aF ar au av aj (List.length (aj):Int) i__ b0_0_5 b0_1_5 b0_2_5 b1_0_5 s__.1 s__.2) (body := (fun i__ e__ s__=>yIU aF ar au av aj b0_0_5 b0_1_5 b0_2_5 b1_0_5 i__ e__ s__.1 s__.2)) (fin := (fun s__=>yIv aF ar au av aj b0_0_5 b0_1_5 b0_2_5 b1_0_5 s__.1 s__.2)) (fun k__ i__ s__=>?_) hx (b1_1_5,b1_2_5) n (by unfold big at hn; unfold lenMax at hx; omega)
  show LeF _ _ (yFI n r1 (y7N n r1 k__) aF ar au av aj (List.length (aj):Int) i__ b0_0_5 b0_1_5 b0_2_5 b1_0_5 s__.1 s__.2)
  exact y5 (y9 fun v6=>(y9 fun v7=>(y5 (y9 fun v10=>(y5 (y7 rfl) (y7 rfl))) (y9 fun v11=>(y5 (y7 rfl) (y7 rfl)))))) (y02 (y7 rfl))
def yJ4 (aU:Bas) (ay:List Psg) (az:Int) (aA:Int) (ax:List Int) (b0_0_3:Int) (b0_1_3:Int) (b0_2_3:Int) (b1_1_3:Int) (b1_2_3:Int) (b2_0_3:Int) (b2_1_3:Bool) (b2_2_3:List Int) (b2_3_3:List Int) (b2_4_3:Option (List Int)) (be:Int) (v4:Int) (b1_0_3:Int):Option ((((Int×Int×Int×Unit)×Int×Unit)⊕(Int×Int×Int))⊕(Int)) :=
  (some (Sum.inr (IntKind.i64.wrap (b1_0_3 + v4))))
def yIm (aU:Bas) (ay:List Psg) (az:Int) (aA:Int) (ax:List Int) (b0_0_3:Int) (b0_1_3:Int) (b0_2_3:Int) (b1_1_3:Int) (b1_2_3:Int) (b2_0_3:Int) (b2_1_3:Bool) (b2_2_3:List Int) (b2_3_3:List Int) (b2_4_3:Option (List Int)) (b1_0_3:Int):Option (((Int×Int×Int×Unit)×Int×Unit)⊕(Int×Int×Int)) :=
  (bif decide (List.length (b2_3_3) < lenMax) then yK (fun i__ e__ s__=>yIU (aU) (ay) (az) (aA) (b2_3_3) (b0_0_3) (b0_1_3) (b0_2_3) (b1_0_3) i__ e__ s__.1 s__.2) (fun s__=>yIv (aU) (ay) (az) (aA) (b2_3_3) (b0_0_3) (b0_1_3) (b0_2_3) (b1_0_3) s__.1 s__.2) 0 (b2_3_3) ((b1_1_3),(b1_2_3)) else none)
theorem yDk (n:Nat) (hn:big≤n)  (r1:Bas→List Psg→Int→Int→Int→Int→Int→Int→Int→Int→Option ((Int×Int×Int×Unit)×Int×Unit)) (aU:Bas) (ay:List Psg) (az:Int) (aA:Int) (ax:List Int) (b0_0_3:Int) (b0_1_3:Int) (b0_2_3:Int) (b1_1_3:Int) (b1_2_3:Int) (b2_0_3:Int) (b2_1_3:Bool) (b2_2_3:List Int) (b2_3_3:List Int) (b2_4_3:Option (List Int)) (b1_0_3:Int) (hx:List.length (ax) < lenMax):LeF (elim some fun (s__:(Int×Int×Int))=>r1 aU ay az (IntKind.i64.wrap (aA + 1)) b0_0_3 b0_1_3 b0_2_3 s__.1 s__.2.1 s__.2.2) (yK (fun i__ e__ s__=>yJ4 aU ay az aA ax b0_0_3 b0_1_3 b0_2_3 b1_1_3 b1_2_3 b2_0_3 b2_1_3 b2_2_3 b2_3_3 b2_4_3 i__ e__ s__) (fun s__=>yIm aU ay az aA ax b0_0_3 b0_1_3 b0_2_3 b1_1_3 b1_2_3 b2_0_3 b2_1_3 b2_2_3 b2_3_3 b2_4_3 s__) 0 (ax) b1_0_3) (y7M n r1 n aU ay az aA ax (List.length (ax):Int) 0 b0_0_3 b0_1_3 b0_2_3 b1_0_3 b1_1_3 b1_2_3 b2_0_3 b2_1_3 b2_2_3 b2_3_3 b2_4_3) := by
  refine yN (f := (elim some fun (s__:(Int×Int×Int))=>r1 aU ay az (IntKind.i64.wrap (aA + 1)) b0_0_3 b0_1_3 b0_2_3 s__.1 s__.2.1 s__.2.2)) (W := fun k__ i__ s__=>y7M n r1 k__ aU ay az aA ax (List.length (ax):Int) i__ b0_0_3 b0_1_3 b0_2_3 s__ b1_1_3 b1_2_3 b2_0_3 b2_1_3 b2_2_3 b2_3_3 b2_4_3) (body := (fun i__ e__ s__=>yJ4 aU ay az aA ax b0_0_3 b0_1_3 b0_2_3 b1_1_3 b1_2_3 b2_0_3 b2_1_3 b2_2_3 b2_3_3 b2_4_3 i__ e__ s__)) (fin := (fun s__=>yIm aU ay az aA ax b0_0_3 b0_1_3 b0_2_3 b1_1_3 b1_2_3 b2_0_3 b2_1_3 b2_2_3 b2_3_3 b2_4_3 s__)) (fun k__ i__ s__=>?_) hx b1_0_3 n (by unfold big at hn; unfold lenMax at hx; omega)
  show LeF _ _ (yFZ n r1 (y7M n r1 k__) aU ay az aA ax (List.length (ax):Int) i__ b0_0_3 b0_1_3 b0_2_3 s__ b1_1_3 b1_2_3 b2_0_3 b2_1_3 b2_2_3 b2_3_3 b2_4_3)
  exact y5 (y9 fun v4=>(y7 rfl)) (y02 (yL fun hx=>by apply yCx n hn; exact hx))
def yHq (aY:Bas) (ai:List Psg) (b0_0_1:Int) (b0_1_1:Int) (b0_2_1:Int) (b7:Int) (v2:Psg) (b1_0_1:Int) (b1_1_1:Int) (b1_2_1:Int):Option (((Int×Int×Int×Unit)×Int×Unit)⊕(Int×Int×Int)) :=
  (bif decide (List.length (v2.1.2.2.1) < lenMax) then yK (fun i__ e__ s__=>yJ4 (aY) (ai) ((↑ai.length:Int)) (b7) (v2.1.2.2.1) (b0_0_1) (b0_1_1) (b0_2_1) (b1_1_1) (b1_2_1) (v2.1.1) (v2.1.2.1) (v2.1.2.2.1) (v2.2.1) (v2.2.2.1) i__ e__ s__) (fun s__=>yIm (aY) (ai) ((↑ai.length:Int)) (b7) (v2.1.2.2.1) (b0_0_1) (b0_1_1) (b0_2_1) (b1_1_1) (b1_2_1) (v2.1.1) (v2.1.2.1) (v2.1.2.2.1) (v2.2.1) (v2.2.2.1) s__) 0 (v2.1.2.2.1) (b1_0_1) else none)
def yJV (aY:Bas) (ai:List Psg) (b0_0_1:Int) (b0_1_1:Int) (b0_2_1:Int) (b1_0_1:Int) (b1_1_1:Int) (b1_2_1:Int):Option ((Int×Int×Int×Unit)×Int×Unit) :=
  (some (((b1_0_1,b1_1_1,b1_2_1,()),(0:Int),())))
theorem yDu (n:Nat) (hn:big≤n)  (aY:Bas) (ai:List Psg) (b0_0_1:Int) (b0_1_1:Int) (b0_2_1:Int) (b1_0_1:Int) (b1_1_1:Int) (b1_2_1:Int) (hx:List.length (ai) < lenMax):LeF some (yK (fun i__ e__ s__=>yHq aY ai b0_0_1 b0_1_1 b0_2_1 i__ e__ s__.1 s__.2.1 s__.2.2) (fun s__=>yJV aY ai b0_0_1 b0_1_1 b0_2_1 s__.1 s__.2.1 s__.2.2) 0 (ai) (b1_0_1,b1_1_1,b1_2_1)) (y79 n n aY ai (List.length (ai):Int) 0 b0_0_1 b0_1_1 b0_2_1 b1_0_1 b1_1_1 b1_2_1) := by
  refine yN (f := some) (W := fun k__ i__ s__=>y79 n k__ aY ai (List.length (ai):Int) i__ b0_0_1 b0_1_1 b0_2_1 s__.1 s__.2.1 s__.2.2) (body := (fun i__ e__ s__=>yHq aY ai b0_0_1 b0_1_1 b0_2_1 i__ e__ s__.1 s__.2.1 s__.2.2)) (fin := (fun s__=>yJV aY ai b0_0_1 b0_1_1 b0_2_1 s__.1 s__.2.1 s__.2.2)) (fun k__ i__ s__=>?_) hx (b1_0_1,b1_1_1,b1_2_1) n (by unfold big at hn; unfold lenMax at hx; omega)
  show LeF _ _ (yEq n (y79 n k__) aY ai (List.length (ai):Int) i__ b0_0_1 b0_1_1 b0_2_1 s__.1 s__.2.1 s__.2.2)
  exact y5 (y9 fun v2=>(yL fun hx=>by apply yDk n hn; exact hx)) (y02 (y7 rfl))
def yHV (b:Bas) (v:List Int) (l:List Cnd):Option ((Int×Int×Int×Unit)×Int×Unit) :=
  (Option.bind (yFp b v l) fun (v0:List Psg×Int×Unit)=>(bif v0.2.1 != 0 then (some ((((0:Int),(0:Int),(0:Int),()),v0.2.1,()))) else (bif decide (List.length (v0.1) < lenMax) then yK (fun i__ e__ s__=>yHq (b) (v0.1) ((0:Int)) ((0:Int)) ((0:Int)) i__ e__ s__.1 s__.2.1 s__.2.2) (fun s__=>yJV (b) (v0.1) ((0:Int)) ((0:Int)) ((0:Int)) s__.1 s__.2.1 s__.2.2) 0 (v0.1) (((0:Int)),((0:Int)),((0:Int))) else none)))
theorem yOh (b:Bas) (v:List Int) (l:List Cnd) (y:(Int×Int×Int×Unit)×Int×Unit) (h:yHV b v l = some y) : ∃ n,yKn n b v l = some y :=
  ⟨big,LeF.top (show LeF some (yHV b v l) (yKn big b v l) from (fun (n:Nat) (hn:big≤n)=>show LeF some (yHV b v l) (yKn n b v l) from (y9 fun v0=>(y5 (y7 rfl) (yL fun hx=>by apply yDu n hn; exact hx)))) big (Nat.le_refl _)) h⟩
def z02_e:Entry := { f := 45,args := yOf,ress := yRe,m := fun x=>yHV x.1 x.2.1 x.2.2.1 }
theorem yTV:FnOK Tryz.prog z02_e := yT (g := yRL) (fn := Tryz.f45) yH yS (yE yJq eNil) (by kernel_rfl) (by kernel_rfl) (by kernel_rfl) (fun x y h=>let ⟨n,hn⟩ := yOh x.1 x.2.1 x.2.2.1 y h; ⟨yMO n,iNil,(ySZ n x).trans hn⟩)
end
end Go.Tw
end
