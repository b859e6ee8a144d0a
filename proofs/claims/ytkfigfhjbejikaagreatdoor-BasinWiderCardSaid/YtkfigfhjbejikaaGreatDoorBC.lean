import Derived.Test.YtkfigfhjbejikaaGreatDoorBT
import Derived.Test.YtkfigfhjbejikaaGreatDoorBA
set_option linter.all false
section
set_option maxRecDepth 1000000
namespace Go.Tw
open Go.Vx Go.Vx.B Go.Proofs
noncomputable section
abbrev yOs:Ty := .pair t56 (.pair t56 .unit)
abbrev yPn:Ty := .pair t4 .unit
def yTZ:G := { T := T,E := [z00_e],muts := [],fz := [] }
def yVC:List (List Nat) := [[0,1,5]]
def yMU (n:Nat):Ann := { keep := yVC,fuel := n,inl := [],deep := 0 }
def yFT (n:Nat) (r0:List (List Int)→List (List Int)→Int→Option (Bool×Unit)) (aD:List (List Int)) (aG:List (List Int)) (aK:Int):Option (Bool×Unit) :=
  (bif decide (aK < (↑aD.length:Int)) then (Option.bind (idx aD aK) fun (v1:List Int)=>(Option.bind (idx aG aK) fun (v2:List Int)=>(Option.bind (y8l v1 v2) fun (v3:Bool×Unit)=>(bif !v3.1 then some (Bool.false,()) else r0 aD aG (IntKind.i64.wrap (aK + 1)))))) else some (Bool.true,()))
def y6s (n:Nat)  (k:Nat) (aD:List (List Int)) (aG:List (List Int)) (aK:Int):Option (Bool×Unit) :=
  iter (fun r y=>yFT n (fun aD aG aK=>r ((aD,(aG,(aK,()))),((),()))) y.1.1 y.1.2.1 y.1.2.2.1) k ((aD,(aG,(aK,()))),((),()))
def yL7 (n:Nat) (a:List (List Int)) (b:List (List Int)):Option (Bool×Unit) :=
  (bif (↑a.length:Int) != (↑b.length:Int) then some (Bool.false,()) else (y6s n n (a) (b) ((0:Int))))
theorem yTY (n:Nat) (x:yOs.den):runF yTZ (yMU n) Tryz.f47 yOs yPn x = yL7 n x.1 x.2.1 := by kernel_rfl
def yJj (aD:List (List Int)) (aG:List (List Int)) (aK:Int) (v1:List Int):Option ((Bool×Unit)⊕Unit) :=
  (Option.bind (idx aG aK) fun (v2:List Int)=>(Option.bind (y8l v1 v2) fun (v3:Bool×Unit)=>(bif !v3.1 then (some (Sum.inl ((Bool.false,())))) else (some (Sum.inr ())))))
def yIq (aD:List (List Int)) (aG:List (List Int)):Option (Bool×Unit) :=
  (some ((Bool.true,())))
theorem yD0 (n:Nat) (hn:big≤n)  (aD:List (List Int)) (aG:List (List Int)) (hx:List.length (aD) < lenMax):LeF some (yK (fun i__ e__ s__=>yJj aD aG i__ e__) (fun s__=>yIq aD aG) 0 (aD) ()) (y6s n n aD aG 0) := by
  refine yN (f := some) (W := fun k__ i__ s__=>y6s n k__ aD aG i__) (body := (fun i__ e__ s__=>yJj aD aG i__ e__)) (fin := (fun s__=>yIq aD aG)) (fun k__ i__ s__=>?_) hx () n (by unfold big at hn; unfold lenMax at hx; omega)
  show LeF _ _ (yFT n (y6s n k__) aD aG i__)
  exact y5 (y9 fun v1=>(y9 fun v2=>(y9 fun v3=>(y5 (y7 rfl) (y7 rfl))))) (y02 (y7 rfl))
def yIK (a:List (List Int)) (b:List (List Int)):Option (Bool×Unit) :=
  (bif (↑a.length:Int) != (↑b.length:Int) then (some ((Bool.false,()))) else (bif decide (List.length (a) < lenMax) then yK (fun i__ e__ s__=>yJj (a) (b) i__ e__) (fun s__=>yIq (a) (b)) 0 (a) () else none))
theorem yOW (a:List (List Int)) (b:List (List Int)) (y:Bool×Unit) (h:yIK a b = some y) : ∃ n,yL7 n a b = some y :=
  ⟨big,LeF.top (show LeF some (yIK a b) (yL7 big a b) from (fun (n:Nat) (hn:big≤n)=>show LeF some (yIK a b) (yL7 n a b) from (y5 (y7 rfl) (yL fun hx=>by apply yD0 n hn; exact hx))) big (Nat.le_refl _)) h⟩
def z01_e:Entry := { f := 47,args := yOs,ress := yPn,m := fun x=>yIK x.1 x.2.1 }
theorem yPS:FnOK Tryz.prog z01_e := yT (g := yTZ) (fn := Tryz.f47) yH yS (yE yME eNil) (by kernel_rfl) (by kernel_rfl) (by kernel_rfl) (fun x y h=>let ⟨n,hn⟩ := yOW x.1 x.2.1 y h; ⟨yMU n,iNil,(yTY n x).trans hn⟩)
abbrev yO1:Ty := .pair t3 (.pair t3 (.pair t3 .unit))
abbrev yRu:Ty := .pair t35 .unit
def yTm:G := { T := T,E := [z0e_e],muts := [],fz := [] }
def yVx:List (List Nat) := []
def yMa (n:Nat):Ann := { keep := yVx,fuel := n,inl := [],deep := 0 }
def yK9 (n:Nat) (n1:Int) (least:Int) (most:Int):Option (Int×Unit) :=
  (bif decide (n1 < least) then some ((z0e Bool.true (3:Int)).1,()) else some ((z0e (decide (n1 > most)) (3:Int)).1,()))
theorem yT4 (n:Nat) (x:yO1.den):runF yTm (yMa n) Tryz.f90 yO1 yRu x = yK9 n x.1 x.2.1 x.2.2.1 := by kernel_rfl
def z0E (n1:Int) (least:Int) (most:Int):(Int×Unit) :=
  (bif decide (n1 < least) then ((z0e Bool.true (3:Int)).1,()) else ((z0e (decide (n1 > most)) (3:Int)).1,()))
abbrev yU0 (n1:Int) (least:Int) (most:Int):Option (Int×Unit) := some (z0E n1 least most)
theorem yOU (n1:Int) (least:Int) (most:Int) (y:Int×Unit) (h:yU0 n1 least most = some y) : ∃ n,yK9 n n1 least most = some y :=
  ⟨0,by rw [← h]; show yK9 0 n1 least most = some (z0E n1 least most); unfold yK9 z0E; first | rfl | (simp only [yQ]; done) | (simp only [yQ]; rfl)⟩
def z0E_e:Entry := { f := 90,args := yO1,ress := yRu,m := fun x=>yU0 x.1 x.2.1 x.2.2.1 }
theorem y7T:FnOK Tryz.prog z0E_e := yT (g := yTm) (fn := Tryz.f90) yH yS (yE y47 eNil) (by kernel_rfl) (by kernel_rfl) (by kernel_rfl) (fun x y h=>let ⟨n,hn⟩ := yOU x.1 x.2.1 x.2.2.1 y h; ⟨yMa n,iNil,(yT4 n x).trans hn⟩)
abbrev zq_a:Ty := .pair t22 .unit
abbrev zq_r:Ty := .pair t3 .unit
def zq_g:G := { T := T,E := [z0H_e,zo_e,z0V_e],muts := [],fz := [] }
def zq_k:List (List Nat) := [[0,3],[0,3,4]]
def yQU (n:Nat):Ann := { keep := zq_k,fuel := n,inl := [],deep := 0 }
def yIj (n:Nat) (r0:List Nod→Int→Option (Int×Unit)) (r3:List Nod→Int→Int→Option (Int×Unit)) (ax:List Nod) (av:Int) (aP:Int):Option (Int×Unit) :=
  (bif decide (aP < av) then (Option.bind (idx ax aP) fun (v4:Nod)=>(Option.bind (idx ax av) fun (v5:Nod)=>(bif v4.1==v5.1 then some ((9:Int),()) else r3 ax av (IntKind.i64.wrap (aP + 1))))) else (Option.bind (idx ax av) fun (v6:Nod)=>(Option.bind (idx ax av) fun (v7:Nod)=>(Option.bind (y5o [(zo v6.2.1 (1:Int) (1000:Int)).1,(zo v7.2.2.1 (0:Int) (1024:Int)).1]) fun (v8:Int×Unit)=>(bif v8.1 != 0 then some (v8.1,()) else r0 ax (IntKind.i64.wrap (av + 1)))))))
def yAa (n:Nat) (r0:List Nod→Int→Option (Int×Unit)) (k:Nat) (ax:List Nod) (av:Int) (aP:Int):Option (Int×Unit) :=
  iter (fun r y=>yIj n r0 (fun ax av aP=>r ((ax,(av,(aP,()))),((),()))) y.1.1 y.1.2.1 y.1.2.2.1) k ((ax,(av,(aP,()))),((),()))
def yHk (n:Nat) (r0:List Nod→Int→Option (Int×Unit)) (aA:List Nod) (aI:Int):Option (Int×Unit) :=
  (bif decide (aI < (↑aA.length:Int)) then (Option.bind (idx aA aI) fun (v1:Nod)=>(Option.bind (yCM v1.1) fun (v2:Bool×Unit)=>(bif !v2.1 then some ((8:Int),()) else (yAa n r0 n (aA) (aI) ((0:Int)))))) else some ((0:Int),()))
def yBF (n:Nat)  (k:Nat) (aA:List Nod) (aI:Int):Option (Int×Unit) :=
  iter (fun r y=>yHk n (fun aA aI=>r ((aA,(aI,())),((),()))) y.1.1 y.1.2.1) k ((aA,(aI,())),((),()))
def zq_m (n:Nat) (l:List Nod):Option (Int×Unit) :=
  (bif (↑l.length:Int)==0 then some ((12:Int),()) else (bif decide ((↑l.length:Int) > 8) then some ((5:Int),()) else (yBF n n (l) ((0:Int)))))
theorem yW7 (n:Nat) (x:zq_a.den):runF zq_g (yQU n) Tryz.f94 zq_a zq_r x = zq_m n x.1 := by kernel_rfl
def yGT (ax:List Nod) (av:Int) (aP:Int):Option (((Int×Unit)⊕Unit)⊕Unit) :=
  (Option.bind (idx ax aP) fun (v4:Nod)=>(Option.bind (idx ax av) fun (v5:Nod)=>(bif v4.1==v5.1 then (some (Sum.inl (Sum.inl (((9:Int),()))))) else (some (Sum.inr ())))))
def yHh (ax:List Nod) (av:Int):Option ((Int×Unit)⊕Unit) :=
  (Option.bind (idx ax av) fun (v6:Nod)=>(Option.bind (idx ax av) fun (v7:Nod)=>(Option.bind (y5o [(zo v6.2.1 (1:Int) (1000:Int)).1,(zo v7.2.2.1 (0:Int) (1024:Int)).1]) fun (v8:Int×Unit)=>(bif v8.1 != 0 then (some (Sum.inl ((v8.1,())))) else (some (Sum.inr ()))))))
theorem yH5 (n:Nat) (hn:big≤n)  (r0:List Nod→Int→Option (Int×Unit)) (ax:List Nod) (av:Int) (hx:(av)≤9223372036854775807):LeF (elim some fun (s__:Unit)=>r0 ax (IntKind.i64.wrap (av + 1))) (y0G (fun i__ s__=>yGT ax av i__) (fun s__=>yHh ax av) ((av) - 0).toNat 0 ()) (yAa n r0 n ax av 0) := by
  refine y1k (f := (elim some fun (s__:Unit)=>r0 ax (IntKind.i64.wrap (av + 1)))) (W := fun k__ i__ s__=>yAa n r0 k__ ax av i__) (body := (fun i__ s__=>yGT ax av i__)) (fin := (fun s__=>yHh ax av)) (fun k__ i__ s__=>?_) hx () n 0 (by decide) (by unfold big at hn; omega)
  show LeF _ _ (yIj n r0 (yAa n r0 k__) ax av i__)
  exact y5 (y9 fun v4=>(y9 fun v5=>(y5 (y7 rfl) (y7 rfl)))) (y02 (y9 fun v6=>(y9 fun v7=>(y9 fun v8=>(y5 (y7 rfl) (y7 rfl))))))
def yGI (aA:List Nod) (aI:Int) (v1:Nod):Option ((Int×Unit)⊕Unit) :=
  (Option.bind (yCM v1.1) fun (v2:Bool×Unit)=>(bif !v2.1 then (some (Sum.inl (((8:Int),())))) else (bif decide ((aI)≤9223372036854775807) then y0G (fun i__ s__=>yGT (aA) (aI) i__) (fun s__=>yHh (aA) (aI)) ((aI) - 0).toNat 0 () else none)))
def yKz (aA:List Nod):Option (Int×Unit) :=
  (some (((0:Int),())))
theorem yGd (n:Nat) (hn:big≤n)  (aA:List Nod) (hx:List.length (aA) < lenMax):LeF some (yK (fun i__ e__ s__=>yGI aA i__ e__) (fun s__=>yKz aA) 0 (aA) ()) (yBF n n aA 0) := by
  refine yN (f := some) (W := fun k__ i__ s__=>yBF n k__ aA i__) (body := (fun i__ e__ s__=>yGI aA i__ e__)) (fin := (fun s__=>yKz aA)) (fun k__ i__ s__=>?_) hx () n (by unfold big at hn; unfold lenMax at hx; omega)
  show LeF _ _ (yHk n (yBF n k__) aA i__)
  exact y5 (y9 fun v1=>(y9 fun v2=>(y5 (y7 rfl) (yL fun hx=>by apply yH5 n hn; exact hx)))) (y02 (y7 rfl))
def zq_M (l:List Nod):Option (Int×Unit) :=
  (bif (↑l.length:Int)==0 then (some (((12:Int),()))) else (bif decide ((↑l.length:Int) > 8) then (some (((5:Int),()))) else (bif decide (List.length (l) < lenMax) then yK (fun i__ e__ s__=>yGI (l) i__ e__) (fun s__=>yKz (l)) 0 (l) () else none)))
theorem yTf (l:List Nod) (y:Int×Unit) (h:zq_M l = some y) : ∃ n,zq_m n l = some y :=
  ⟨big,LeF.top (show LeF some (zq_M l) (zq_m big l) from (fun (n:Nat) (hn:big≤n)=>show LeF some (zq_M l) (zq_m n l) from (y5 (y7 rfl) (y5 (y7 rfl) (yL fun hx=>by apply yGd n hn; exact hx)))) big (Nat.le_refl _)) h⟩
def zq_e:Entry := { f := 94,args := zq_a,ress := zq_r,m := fun x=>zq_M x.1 }
theorem yVI:FnOK Tryz.prog zq_e := yT (g := zq_g) (fn := Tryz.f94) yH yS (yE yRt (yE yNa (yE yFb eNil))) (by kernel_rfl) (by kernel_rfl) (by kernel_rfl) (fun x y h=>let ⟨n,hn⟩ := yTf x.1 y h; ⟨yQU n,iNil,(yW7 n x).trans hn⟩)
abbrev zz_a:Ty := .pair t83 (.pair t3 .unit)
abbrev zz_r:Ty := .pair t3 .unit
def zz_g:G := { T := T,E := [z0Y_e,z0A_e,z0l_e,z0g_e,zo_e,z0V_e],muts := [],fz := [] }
def zz_k:List (List Nat) := []
def yQm (n:Nat):Ann := { keep := zz_k,fuel := n,inl := [],deep := 0 }
def zz_m (n:Nat) (x1:Lnk) (nodes:Int):Option (Int×Unit) :=
  (Option.bind (yDd z0Y.1 x1.1) fun (v0:Bool×Unit)=>(bif !v0.1 then some ((13:Int),()) else (bif !(z0g x1.2.1 nodes (z0l x1.1).1).1 then some ((10:Int),()) else (bif !(z0g x1.2.2.1 nodes (z0l x1.1).2.1).1 then some ((10:Int),()) else (bif x1.2.1==x1.2.2.1 then some ((17:Int),()) else (bif (z0l x1.1).1 then (Option.bind (y5o [(zo x1.2.2.2.1 (0:Int) (0:Int)).1,(zo x1.2.2.2.2.1 (1:Int) (1000:Int)).1]) fun (v4:Int×Unit)=>some (v4.1,())) else (Option.bind (y5o [(zo x1.2.2.2.1 (0:Int) (1024:Int)).1,(zo x1.2.2.2.2.1 (1:Int) (1000:Int)).1]) fun (v5:Int×Unit)=>some (v5.1,()))))))))
theorem yVl (n:Nat) (x:zz_a.den):runF zz_g (yQm n) Tryz.f95 zz_a zz_r x = zz_m n x.1 x.2.1 := by kernel_rfl
def zz_M (x1:Lnk) (nodes:Int):Option (Int×Unit) := zz_m 0 x1 nodes
theorem ySq (x1:Lnk) (nodes:Int) (y:Int×Unit) (h:zz_M x1 nodes = some y) : ∃ n,zz_m n x1 nodes = some y := ⟨0,h⟩
def zz_e:Entry := { f := 95,args := zz_a,ress := zz_r,m := fun x=>zz_M x.1 x.2.1 }
theorem yUs:FnOK Tryz.prog zz_e := yT (g := zz_g) (fn := Tryz.f95) yH yS (yE yQx (yE ySu (yE yRG (yE yRf (yE yNa (yE yFb eNil)))))) (by kernel_rfl) (by kernel_rfl) (by kernel_rfl) (fun x y h=>let ⟨n,hn⟩ := ySq x.1 x.2.1 y h; ⟨yQm n,iNil,(yVl n x).trans hn⟩)
abbrev yN4:Ty := .pair t167 .unit
abbrev yQy:Ty := .pair t56 .unit
def yQb:G := { T := T,E := [zC_e,zw_e],muts := [],fz := [] }
def yUZ:List (List Nat) := []
def yLt (n:Nat):Ann := { keep := yUZ,fuel := n,inl := [],deep := 0 }
def yL1 (n:Nat) (l:List Psg):Option (List (List Int)×Unit) :=
  (Option.bind (zC_M l fun (x:Psg×Unit)=>zw_M x.1) fun (v0:List (List Int)×Unit)=>some (v0.1,()))
theorem yTE (n:Nat) (x:yN4.den):runF yQb (yLt n) Tryz.f97 yN4 yQy x = yL1 n x.1 := by kernel_rfl
def yG8 (l:List Psg):Option (List (List Int)×Unit) := yL1 0 l
theorem yNx (l:List Psg) (y:List (List Int)×Unit) (h:yG8 l = some y) : ∃ n,yL1 n l = some y := ⟨0,h⟩
def z09_e:Entry := { f := 97,args := yN4,ress := yQy,m := fun x=>yG8 x.1 }
theorem yM7:FnOK Tryz.prog z09_e := yT (g := yQb) (fn := Tryz.f97) yH yS (yE yUj (yE yUS eNil)) (by kernel_rfl) (by kernel_rfl) (by kernel_rfl) (fun x y h=>let ⟨n,hn⟩ := yNx x.1 y h; ⟨yLt n,iNil,(yTE n x).trans hn⟩)
abbrev zX_a:Ty := .pair t41 (.pair t26 .unit)
abbrev zX_r:Ty := .pair t26 .unit
def zX_g:G := { T := T,E := [zl_e],muts := [],fz := [] }
def zX_k:List (List Nat) := [[5,15,16,17]]
def yTD (n:Nat):Ann := { keep := zX_k,fuel := n,inl := [],deep := 0 }
def yIZ (n:Nat) (r0:List Nod→Int→Int→List Int→Option (List Int×Unit)) (al:List Nod) (aM:Int) (au:Int) (aq:List Int):Option (List Int×Unit) :=
  (bif decide (au < aM) then (Option.bind (idx al au) fun (v1:Nod)=>(Option.bind (idx aq au) fun (v2:Int)=>(Option.bind (aq[au.toNat]?) fun (v3:Int)=>(Option.bind (zl_M (v1.1,v1.2.1,v1.2.2.1,()) v3) fun (v4:Int×Unit)=>(Option.bind (idx aq au) fun (v5:Int)=>(Option.bind (aq[au.toNat]?) fun (v6:Int)=>r0 al aM (IntKind.i64.wrap (au + 1)) (aq.set au.toNat v4.1))))))) else some (aq,()))
def yAZ (n:Nat)  (k:Nat) (al:List Nod) (aM:Int) (au:Int) (aq:List Int):Option (List Int×Unit) :=
  iter (fun r y=>yIZ n (fun al aM au aq=>r ((al,(aM,(au,()))),((aq,()),()))) y.1.1 y.1.2.1 y.1.2.2.1 y.2.1.1) k ((al,(aM,(au,()))),((aq,()),()))
def zX_m (n:Nat) (b:Bas) (v:List Int):Option (List Int×Unit) :=
  (bif Bool.true && decide ((0:Int)≤(↑v.length:Int)) && decide ((↑v.length:Int)≤(↑memMax:Int)) && (↑v.length:Int)==(↑v.length:Int) then (yAZ n n (b.1) ((↑b.1.length:Int)) ((0:Int)) (List.take (List.replicate (↑v.length:Int).toNat (0:Int)).length v ++ List.drop v.length (List.replicate (↑v.length:Int).toNat (0:Int)))) else none)
theorem yUe (n:Nat) (x:zX_a.den):runF zX_g (yTD n) Tryz.f98 zX_a zX_r x = zX_m n x.1 x.2.1 := by kernel_rfl
def yHG (al:List Nod) (au:Int) (v1:Nod) (aq:List Int):Option ((List Int×Unit)⊕(List Int)) :=
  (Option.bind (idx aq au) fun (v2:Int)=>(Option.bind (aq[au.toNat]?) fun (v3:Int)=>(Option.bind (zl_M (v1.1,v1.2.1,v1.2.2.1,()) v3) fun (v4:Int×Unit)=>(Option.bind (idx aq au) fun (v5:Int)=>(Option.bind (aq[au.toNat]?) fun (v6:Int)=>(some (Sum.inr (aq.set au.toNat v4.1))))))))
def yJU (al:List Nod) (aq:List Int):Option (List Int×Unit) :=
  (some ((aq,())))
theorem yGy (n:Nat) (hn:big≤n)  (al:List Nod) (aq:List Int) (hx:List.length (al) < lenMax):LeF some (yK (fun i__ e__ s__=>yHG al i__ e__ s__) (fun s__=>yJU al s__) 0 (al) aq) (yAZ n n al (List.length (al):Int) 0 aq) := by
  refine yN (f := some) (W := fun k__ i__ s__=>yAZ n k__ al (List.length (al):Int) i__ s__) (body := (fun i__ e__ s__=>yHG al i__ e__ s__)) (fin := (fun s__=>yJU al s__)) (fun k__ i__ s__=>?_) hx aq n (by unfold big at hn; unfold lenMax at hx; omega)
  show LeF _ _ (yIZ n (yAZ n k__) al (List.length (al):Int) i__ s__)
  exact y5 (y9 fun v1=>(y9 fun v2=>(y9 fun v3=>(y9 fun v4=>(y9 fun v5=>(y9 fun v6=>(y7 rfl))))))) (y02 (y7 rfl))
def zX_M (b:Bas) (v:List Int):Option (List Int×Unit) :=
  (bif Bool.true && decide ((0:Int)≤(↑v.length:Int)) && decide ((↑v.length:Int)≤(↑memMax:Int)) && (↑v.length:Int)==(↑v.length:Int) then (bif decide (List.length (b.1) < lenMax) then yK (fun i__ e__ s__=>yHG (b.1) i__ e__ s__) (fun s__=>yJU (b.1) s__) 0 (b.1) (List.take (List.replicate (↑v.length:Int).toNat (0:Int)).length v ++ List.drop v.length (List.replicate (↑v.length:Int).toNat (0:Int))) else none) else none)
theorem yT9 (b:Bas) (v:List Int) (y:List Int×Unit) (h:zX_M b v = some y) : ∃ n,zX_m n b v = some y :=
  ⟨big,LeF.top (show LeF some (zX_M b v) (zX_m big b v) from (fun (n:Nat) (hn:big≤n)=>show LeF some (zX_M b v) (zX_m n b v) from (y5 (yL fun hx=>by apply yGy n hn; exact hx) yp)) big (Nat.le_refl _)) h⟩
def zX_e:Entry := { f := 98,args := zX_a,ress := zX_r,m := fun x=>zX_M x.1 x.2.1 }
theorem ySd:FnOK Tryz.prog zX_e := yT (g := zX_g) (fn := Tryz.f98) yH yS (yE yTk eNil) (by kernel_rfl) (by kernel_rfl) (by kernel_rfl) (fun x y h=>let ⟨n,hn⟩ := yT9 x.1 x.2.1 y h; ⟨yTD n,iNil,(yUe n x).trans hn⟩)
def y5a (n:Nat) (b:Bas) (v:List Int) (c:Cnd) (x1:Lnk) (j0:Int):Option (Int×Unit) :=
  (Option.bind (idx b.1 j0) fun (v1:Nod)=>(bif x1.1==[(98:UInt8),97,114,114,105,101,114] then (bif !c.2.1 then some ((0:Int),()) else (Option.bind (idx v j0) fun (v2:Int)=>(Option.bind (idx v j0) fun (v3:Int)=>(Option.bind (yE2 (IntKind.i64.wrap (IntKind.i64.wrap (v1.2.1 * c.1) - v3)) x1.2.2.2.2.1) fun (v4:Int×Unit)=>some (if v4.1 > IntKind.i64.wrap ((0:Int) - v2) then v4.1 else IntKind.i64.wrap ((0:Int) - v2),()))))) else (bif x1.1==[(108:UInt8),101,97,107] then (Option.bind (idx v j0) fun (v5:Int)=>(Option.bind (yE2 (IntKind.i64.wrap (IntKind.i64.wrap (v1.2.1 * c.1) - v5)) x1.2.2.2.2.1) fun (v6:Int×Unit)=>some (if Bool.true = Bool.true then if v6.1 > 0 then v6.1 else (0:Int) else if v6.1 < 0 then v6.1 else (0:Int),()))) else (bif x1.1==[(111:UInt8),117,116,102,97,108,108] then (Option.bind (idx v j0) fun (v7:Int)=>(Option.bind (yE2 (IntKind.i64.wrap (v7 - IntKind.i64.wrap (v1.2.1 * if x1.2.2.2.1 > c.1 then x1.2.2.2.1 else c.1))) x1.2.2.2.2.1) fun (v8:Int×Unit)=>some (if Bool.true = Bool.true then if v8.1 > 0 then v8.1 else (0:Int) else if v8.1 < 0 then v8.1 else (0:Int),()))) else (bif x1.1==[(112:UInt8),117,109,112] then (Option.bind (idx v j0) fun (v9:Int)=>some (if Bool.true = Bool.true then if (if IntKind.i64.wrap (v9 - IntKind.i64.wrap (v1.2.1 * x1.2.2.2.1)) < x1.2.2.2.2.1 then IntKind.i64.wrap (v9 - IntKind.i64.wrap (v1.2.1 * x1.2.2.2.1)) else x1.2.2.2.2.1) > 0 then if IntKind.i64.wrap (v9 - IntKind.i64.wrap (v1.2.1 * x1.2.2.2.1)) < x1.2.2.2.2.1 then IntKind.i64.wrap (v9 - IntKind.i64.wrap (v1.2.1 * x1.2.2.2.1)) else x1.2.2.2.2.1 else (0:Int) else if (if IntKind.i64.wrap (v9 - IntKind.i64.wrap (v1.2.1 * x1.2.2.2.1)) < x1.2.2.2.2.1 then IntKind.i64.wrap (v9 - IntKind.i64.wrap (v1.2.1 * x1.2.2.2.1)) else x1.2.2.2.2.1) < 0 then if IntKind.i64.wrap (v9 - IntKind.i64.wrap (v1.2.1 * x1.2.2.2.1)) < x1.2.2.2.2.1 then IntKind.i64.wrap (v9 - IntKind.i64.wrap (v1.2.1 * x1.2.2.2.1)) else x1.2.2.2.2.1 else (0:Int),())) else (Option.bind (idx v j0) fun (v10:Int)=>(Option.bind (yE2 (IntKind.i64.wrap (v10 - IntKind.i64.wrap (v1.2.1 * x1.2.2.2.1))) x1.2.2.2.2.1) fun (v11:Int×Unit)=>some (if Bool.true = Bool.true then if v11.1 > 0 then v11.1 else (0:Int) else if v11.1 < 0 then v11.1 else (0:Int),()))))))))
def yTt (n:Nat) (b:Bas) (v:List Int) (c:Cnd) (x1:Lnk):Option (Int×Unit) :=
  (bif decide (x1.2.1 < 0) then (y5a n b v c x1 (x1.2.2.1)) else (y5a n b v c x1 (x1.2.1)))
def yGs (b:Bas) (v:List Int) (c:Cnd) (x1:Lnk):Option (Int×Unit) := yTt 0 b v c x1
abbrev zS_a:Ty := .pair t96 (.pair t176 .unit)
abbrev zS_r:Ty := .pair t35 .unit
def zS_g:G := { T := T,E := [z0e_e,z0Q_e],muts := [],fz := [] }
def zS_k:List (List Nat) := []
def ySl (n:Nat):Ann := { keep := zS_k,fuel := n,inl := [],deep := 0 }
def zS_m (n:Nat) (x1:Int×Int×Unit) (check:Int×Unit→Option (Int×Unit)):Option (Int×Unit) :=
  (Option.bind (check (x1.1,())) fun (v0:Int×Unit)=>(Option.bind (check (x1.2.1,())) fun (v1:Int×Unit)=>(Option.bind (y0c [v0.1,v1.1,(z0e (decide (x1.1 > x1.2.1)) (11:Int)).1]) fun (v2:Int×Unit)=>some (v2.1,()))))
theorem yW0 (n:Nat) (x:zS_a.den):runF zS_g (ySl n) Tryz.f158 zS_a zS_r x = zS_m n x.1 x.2.1 := by kernel_rfl
def zS_M (x1:Int×Int×Unit) (check:Int×Unit→Option (Int×Unit)):Option (Int×Unit) := zS_m 0 x1 check
theorem yS5 (x1:Int×Int×Unit) (check:Int×Unit→Option (Int×Unit)) (y:Int×Unit) (h:zS_M x1 check = some y) : ∃ n,zS_m n x1 check = some y := ⟨0,h⟩
def zS_e:Entry := { f := 158,args := zS_a,ress := zS_r,m := fun x=>zS_M x.1 x.2.1 }
theorem yNg:FnOK Tryz.prog zS_e := yT (g := zS_g) (fn := Tryz.f158) yH yS (yE y47 (yE y3u eNil)) (by kernel_rfl) (by kernel_rfl) (by kernel_rfl) (fun x y h=>let ⟨n,hn⟩ := yS5 x.1 x.2.1 y h; ⟨ySl n,iNil,(yW0 n x).trans hn⟩)
abbrev yOg:Ty := .pair t96 (.pair (.ref t3) .unit)
abbrev yRw:Ty := .pair t3 .unit
def yQ4:G := { T := T,E := [z0d_e],muts := [],fz := [] }
def yUb:List (List Nat) := []
def yLn (n:Nat):Ann := { keep := yUb,fuel := n,inl := [],deep := 0 }
def yLZ (n:Nat) (x1:Int×Int×Unit) (p1:Int):Option (Int×Unit) :=
  (Option.bind (idx (z0d x1).1 p1) fun (v0:Int)=>some (v0,()))
theorem ySn (n:Nat) (x:yOg.den):runF yQ4 (yLn n) Tryz.f165 yOg yRw x = yLZ n x.1 x.2.1 := by kernel_rfl
def yIL (x1:Int×Int×Unit) (p1:Int):Option (Int×Unit) := yLZ 0 x1 p1
theorem yOn (x1:Int×Int×Unit) (p1:Int) (y:Int×Unit) (h:yIL x1 p1 = some y) : ∃ n,yLZ n x1 p1 = some y := ⟨0,h⟩
def z0P_e:Entry := { f := 165,args := yOg,ress := yRw,m := fun x=>yIL x.1 x.2.1 }
theorem yQl:FnOK Tryz.prog z0P_e := yT (g := yQ4) (fn := Tryz.f165) yH yS (yE yML eNil) (by kernel_rfl) (by kernel_rfl) (by kernel_rfl) (fun x y h=>let ⟨n,hn⟩ := yOn x.1 x.2.1 y h; ⟨yLn n,iNil,(ySn n x).trans hn⟩)
abbrev zU_a:Ty := .pair t230 .unit
abbrev zU_r:Ty := .pair t3 .unit
def zU_g:G := { T := T,E := [z0R_e],muts := [],fz := [] }
def zU_k:List (List Nat) := []
def yTp (n:Nat):Ann := { keep := zU_k,fuel := n,inl := [],deep := 0 }
def zU_m (n:Nat) (p:Lnk×Int×Int×Int×Bool×Unit):Option (Int×Unit) :=
  (Option.bind (yHa (IntKind.i64.wrap (IntKind.i64.wrap (p.2.2.1 * p.2.2.2.1) - p.2.1)) p.1.2.2.2.2.1) fun (v0:Int×Unit)=>some (v0.1,()))
theorem yUX (n:Nat) (x:zU_a.den):runF zU_g (yTp n) Tryz.f180 zU_a zU_r x = zU_m n x.1 := by kernel_rfl
def zU_M (p:Lnk×Int×Int×Int×Bool×Unit):Option (Int×Unit) := zU_m 0 p
theorem yRQ (p:Lnk×Int×Int×Int×Bool×Unit) (y:Int×Unit) (h:zU_M p = some y) : ∃ n,zU_m n p = some y := ⟨0,h⟩
def zU_e:Entry := { f := 180,args := zU_a,ress := zU_r,m := fun x=>zU_M x.1 }
theorem yR5:FnOK Tryz.prog zU_e := yT (g := zU_g) (fn := Tryz.f180) yH yS (yE yMd eNil) (by kernel_rfl) (by kernel_rfl) (by kernel_rfl) (fun x y h=>let ⟨n,hn⟩ := yRQ x.1 y h; ⟨yTp n,iNil,(yUX n x).trans hn⟩)
abbrev zm_a:Ty := .pair t230 (.pair t3 .unit)
abbrev zm_r:Ty := .pair t3 .unit
def zm_g:G := { T := T,E := [z0R_e],muts := [],fz := [] }
def zm_k:List (List Nat) := []
def yPf (n:Nat):Ann := { keep := zm_k,fuel := n,inl := [],deep := 0 }
def zm_m (n:Nat) (p:Lnk×Int×Int×Int×Bool×Unit) (level:Int):Option (Int×Unit) :=
  (Option.bind (yHa (IntKind.i64.wrap (p.2.1 - IntKind.i64.wrap (p.2.2.1 * level))) p.1.2.2.2.2.1) fun (v0:Int×Unit)=>some (if Bool.true = Bool.true then if v0.1 > 0 then v0.1 else (0:Int) else if v0.1 < 0 then v0.1 else (0:Int),()))
theorem yUa (n:Nat) (x:zm_a.den):runF zm_g (yPf n) Tryz.f182 zm_a zm_r x = zm_m n x.1 x.2.1 := by kernel_rfl
def zm_M (p:Lnk×Int×Int×Int×Bool×Unit) (level:Int):Option (Int×Unit) := zm_m 0 p level
theorem yTC (p:Lnk×Int×Int×Int×Bool×Unit) (level:Int) (y:Int×Unit) (h:zm_M p level = some y) : ∃ n,zm_m n p level = some y := ⟨0,h⟩
def zm_e:Entry := { f := 182,args := zm_a,ress := zm_r,m := fun x=>zm_M x.1 x.2.1 }
theorem yQS:FnOK Tryz.prog zm_e := yT (g := zm_g) (fn := Tryz.f182) yH yS (yE yMd eNil) (by kernel_rfl) (by kernel_rfl) (by kernel_rfl) (fun x y h=>let ⟨n,hn⟩ := yTC x.1 x.2.1 y h; ⟨yPf n,iNil,(yUa n x).trans hn⟩)
end
end Go.Tw
end
section
set_option maxRecDepth 1000000
namespace Go.Tw
open Go.Vx Go.Vx.B Go.Proofs
noncomputable section
abbrev zp_a:Ty := .pair t25 .unit
abbrev zp_r:Ty := .pair t3 .unit
def zp_g:G := { T := T,E := [zq_e,zz_e],muts := [],fz := [] }
def zp_k:List (List Nat) := [[1,4]]
def yRZ (n:Nat):Ann := { keep := zp_k,fuel := n,inl := [],deep := 0 }
def yHL (n:Nat) (r1:Bas→Int→Option (Int×Unit)) (aB:Bas) (aR:Int):Option (Int×Unit) :=
  (bif decide (aR < (↑aB.2.1.length:Int)) then (Option.bind (idx aB.2.1 aR) fun (v2:Lnk)=>(Option.bind (zz_M v2 (↑aB.1.length:Int)) fun (v3:Int×Unit)=>(bif v3.1 != 0 then some (v3.1,()) else r1 aB (IntKind.i64.wrap (aR + 1))))) else some ((0:Int),()))
def yBI (n:Nat)  (k:Nat) (aB:Bas) (aR:Int):Option (Int×Unit) :=
  iter (fun r y=>yHL n (fun aB aR=>r ((aB,(aR,())),((),()))) y.1.1 y.1.2.1) k ((aB,(aR,())),((),()))
def zp_m (n:Nat) (b:Bas):Option (Int×Unit) :=
  (Option.bind (zq_M b.1) fun (v0:Int×Unit)=>(bif v0.1 != 0 then some (v0.1,()) else (bif decide ((↑b.2.1.length:Int) > 16) then some ((5:Int),()) else (yBI n n (b) ((0:Int))))))
theorem yVW (n:Nat) (x:zp_a.den):runF zp_g (yRZ n) Tryz.f24 zp_a zp_r x = zp_m n x.1 := by kernel_rfl
def yK1 (aB:Bas) (aR:Int) (v2:Lnk):Option ((Int×Unit)⊕Unit) :=
  (Option.bind (zz_M v2 (↑aB.1.length:Int)) fun (v3:Int×Unit)=>(bif v3.1 != 0 then (some (Sum.inl ((v3.1,())))) else (some (Sum.inr ()))))
def yOG (aB:Bas):Option (Int×Unit) :=
  (some (((0:Int),())))
theorem yGH (n:Nat) (hn:big≤n)  (aB:Bas) (hx:List.length (aB.2.1) < lenMax):LeF some (yK (fun i__ e__ s__=>yK1 aB i__ e__) (fun s__=>yOG aB) 0 (aB.2.1) ()) (yBI n n aB 0) := by
  refine yN (f := some) (W := fun k__ i__ s__=>yBI n k__ aB i__) (body := (fun i__ e__ s__=>yK1 aB i__ e__)) (fin := (fun s__=>yOG aB)) (fun k__ i__ s__=>?_) hx () n (by unfold big at hn; unfold lenMax at hx; omega)
  show LeF _ _ (yHL n (yBI n k__) aB i__)
  exact y5 (y9 fun v2=>(y9 fun v3=>(y5 (y7 rfl) (y7 rfl)))) (y02 (y7 rfl))
def zp_M (b:Bas):Option (Int×Unit) :=
  (Option.bind (zq_M b.1) fun (v0:Int×Unit)=>(bif v0.1 != 0 then (some ((v0.1,()))) else (bif decide ((↑b.2.1.length:Int) > 16) then (some (((5:Int),()))) else (bif decide (List.length (b.2.1) < lenMax) then yK (fun i__ e__ s__=>yK1 (b) i__ e__) (fun s__=>yOG (b)) 0 (b.2.1) () else none))))
theorem yU2 (b:Bas) (y:Int×Unit) (h:zp_M b = some y) : ∃ n,zp_m n b = some y :=
  ⟨big,LeF.top (show LeF some (zp_M b) (zp_m big b) from (fun (n:Nat) (hn:big≤n)=>show LeF some (zp_M b) (zp_m n b) from (y9 fun v0=>(y5 (y7 rfl) (y5 (y7 rfl) (yL fun hx=>by apply yGH n hn; exact hx))))) big (Nat.le_refl _)) h⟩
def zp_e:Entry := { f := 24,args := zp_a,ress := zp_r,m := fun x=>zp_M x.1 }
theorem yUC:FnOK Tryz.prog zp_e := yT (g := zp_g) (fn := Tryz.f24) yH yS (yE yVI (yE yUs eNil)) (by kernel_rfl) (by kernel_rfl) (by kernel_rfl) (fun x y h=>let ⟨n,hn⟩ := yU2 x.1 y h; ⟨yRZ n,iNil,(yVW n x).trans hn⟩)
def yAJ (aS:Bas) (aT:Cnd) (aN:Int) (aL:List Int) (v9:Int×Unit) (j19:List Int):Option ((List Int×List Int×Int×Unit)⊕(List Int×List Int)) :=
  (Option.bind (yLh j19) fun (v20:Bool×Unit)=>(bif v20.1 then (some (Sum.inl (([],[],(4:Int),())))) else (bif decide (aL.length + (1:Nat)≤memMax) then (some (Sum.inr ((j19),(aL ++ [v9.1])))) else none)))
def y6E (aS:Bas) (aT:Cnd) (aN:Int) (aL:List Int) (v8:Lnk) (v9:Int×Unit) (j14:List Int):Option ((List Int×List Int×Int×Unit)⊕(List Int×List Int)) :=
  (bif decide (v8.2.2.1 ≥ 0) then (Option.bind (idx j14 v8.2.2.1) fun (v15:Int)=>(Option.bind (j14[v8.2.2.1.toNat]?) fun (v16:Int)=>(Option.bind (idx j14 v8.2.2.1) fun (v17:Int)=>(Option.bind (j14[v8.2.2.1.toNat]?) fun (v18:Int)=>(yAJ aS aT aN aL v9 (j14.set v8.2.2.1.toNat (IntKind.i64.wrap (v16 + v9.1)))))))) else (yAJ aS aT aN aL v9 (j14)))
def yFX (aS:Bas) (aT:Cnd) (aN:Int) (v8:Lnk) (aQ:List Int) (aL:List Int):Option ((List Int×List Int×Int×Unit)⊕(List Int×List Int)) :=
  (Option.bind (yGs aS aQ aT (v8.1,v8.2.1,v8.2.2.1,v8.2.2.2.1,v8.2.2.2.2.1,())) fun (v9:Int×Unit)=>(bif decide (v8.2.1 ≥ 0) then (Option.bind (idx aQ v8.2.1) fun (v10:Int)=>(Option.bind (aQ[v8.2.1.toNat]?) fun (v11:Int)=>(Option.bind (idx aQ v8.2.1) fun (v12:Int)=>(Option.bind (aQ[v8.2.1.toNat]?) fun (v13:Int)=>(y6E aS aT aN aL v8 v9 (aQ.set v8.2.1.toNat (IntKind.i64.wrap (v11 - v9.1)))))))) else (y6E aS aT aN aL v8 v9 (aQ))))
def yMN (aS:Bas) (aT:Cnd) (aQ:List Int) (aL:List Int):Option (List Int×List Int×Int×Unit) :=
  (some ((aL,aQ,(0:Int),())))
def yEL (am:Bas) (ay:Cnd) (aO:Int) (aq:List Int):Option ((List Int×List Int×Int×Unit)⊕(List Int)) :=
  (Option.bind (idx aq aO) fun (v1:Int)=>(Option.bind (aq[aO.toNat]?) fun (v2:Int)=>(Option.bind (idx ay.2.2.1 aO) fun (v3:Int)=>(Option.bind (idx aq aO) fun (v4:Int)=>(Option.bind (aq[aO.toNat]?) fun (v5:Int)=>(some (Sum.inr (aq.set aO.toNat (IntKind.i64.wrap (v2 + v3))))))))))
def y8P (am:Bas) (ay:Cnd) (aq:List Int):Option (List Int×List Int×Int×Unit) :=
  (Option.bind (yLh aq) fun (v6:Bool×Unit)=>(bif v6.1 then (some (([],[],(4:Int),()))) else (bif decide (List.length (am.2.1) < lenMax) then yK (fun i__ e__ s__=>yFX (am) (ay) i__ e__ s__.1 s__.2) (fun s__=>yMN (am) (ay) s__.1 s__.2) 0 (am.2.1) ((aq),([])) else none)))
def y97 (b:Bas) (v:List Int) (c:Cnd):Option (List Int×List Int×Int×Unit) :=
  (bif decide ((0:Nat) + v.length≤memMax) then (bif decide (((↑v.length:Int))≤9223372036854775807) then yJH (fun s__=>(↑s__.length:Int)) (fun i__ s__=>yEL (b) (c) i__ s__) (fun s__=>y8P (b) (c) s__) (((↑v.length:Int)) - 0).toNat 0 (v) else none) else none)
abbrev zd_a:Ty := .pair t41 (.pair t26 .unit)
abbrev zd_r:Ty := .pair t26 .unit
def zd_g:G := { T := T,E := [zX_e],muts := [5],fz := [] }
def zd_k:List (List Nat) := [[2,5,10,11,12]]
def yR0 (n:Nat):Ann := { keep := zd_k,fuel := n,inl := [],deep := 0 }
def yJK (n:Nat) (r1:Bas→List Int→Int→Int→List Int→Option (List Int×Unit)) (aE:Bas) (ak:List Int) (aJ:Int) (aC:Int) (aF:List Int):Option (List Int×Unit) :=
  (bif decide (aC < aJ) then (Option.bind (idx ak aC) fun (v2:Int)=>(Option.bind (idx aE.1 aC) fun (v3:Nod)=>(bif decide (v2 > v3.2.2.1) then (bif decide (aF.length + (1:Nat)≤memMax) then r1 aE ak aJ (IntKind.i64.wrap (aC + 1)) (aF ++ [aC]) else none) else r1 aE ak aJ (IntKind.i64.wrap (aC + 1)) aF))) else some (aF,()))
def yAx (n:Nat)  (k:Nat) (aE:Bas) (ak:List Int) (aJ:Int) (aC:Int) (aF:List Int):Option (List Int×Unit) :=
  iter (fun r y=>yJK n (fun aE ak aJ aC aF=>r ((aE,(ak,(aJ,(aC,())))),((aF,()),()))) y.1.1 y.1.2.1 y.1.2.2.1 y.1.2.2.2.1 y.2.1.1) k ((aE,(ak,(aJ,(aC,())))),((aF,()),()))
def zd_m (n:Nat) (b:Bas) (v:List Int):Option (List Int×Unit) :=
  (Option.bind (zX_M b v) fun (v0:List Int×Unit)=>(yAx n n (b) (v0.1) ((↑v0.1.length:Int)) ((0:Int)) ([])))
theorem yUh (n:Nat) (x:zd_a.den):runF zd_g (yR0 n) Tryz.f99 zd_a zd_r x = zd_m n x.1 x.2.1 := by kernel_rfl
def yDS (aE:Bas) (ak:List Int) (aC:Int) (v2:Int) (aF:List Int):Option ((List Int×Unit)⊕(List Int)) :=
  (Option.bind (idx aE.1 aC) fun (v3:Nod)=>(bif decide (v2 > v3.2.2.1) then (bif decide (aF.length + (1:Nat)≤memMax) then (some (Sum.inr (aF ++ [aC]))) else none) else (some (Sum.inr (aF)))))
def yLc (aE:Bas) (ak:List Int) (aF:List Int):Option (List Int×Unit) :=
  (some ((aF,())))
theorem yGV (n:Nat) (hn:big≤n)  (aE:Bas) (ak:List Int) (aF:List Int) (hx:List.length (ak) < lenMax):LeF some (yK (fun i__ e__ s__=>yDS aE ak i__ e__ s__) (fun s__=>yLc aE ak s__) 0 (ak) aF) (yAx n n aE ak (List.length (ak):Int) 0 aF) := by
  refine yN (f := some) (W := fun k__ i__ s__=>yAx n k__ aE ak (List.length (ak):Int) i__ s__) (body := (fun i__ e__ s__=>yDS aE ak i__ e__ s__)) (fin := (fun s__=>yLc aE ak s__)) (fun k__ i__ s__=>?_) hx aF n (by unfold big at hn; unfold lenMax at hx; omega)
  show LeF _ _ (yJK n (yAx n k__) aE ak (List.length (ak):Int) i__ s__)
  exact y5 (y9 fun v2=>(y9 fun v3=>(y5 (y5 (y7 rfl) yp) (y7 rfl)))) (y02 (y7 rfl))
def zd_M (b:Bas) (v:List Int):Option (List Int×Unit) :=
  (Option.bind (zX_M b v) fun (v0:List Int×Unit)=>(bif decide (List.length (v0.1) < lenMax) then yK (fun i__ e__ s__=>yDS (b) (v0.1) i__ e__ s__) (fun s__=>yLc (b) (v0.1) s__) 0 (v0.1) ([]) else none))
theorem yPj (b:Bas) (v:List Int) (y:List Int×Unit) (h:zd_M b v = some y) : ∃ n,zd_m n b v = some y :=
  ⟨big,LeF.top (show LeF some (zd_M b v) (zd_m big b v) from (fun (n:Nat) (hn:big≤n)=>show LeF some (zd_M b v) (zd_m n b v) from (y9 fun v0=>(yL fun hx=>by apply yGV n hn; exact hx))) big (Nat.le_refl _)) h⟩
def zd_e:Entry := { f := 99,args := zd_a,ress := zd_r,m := fun x=>zd_M x.1 x.2.1 }
theorem yQ8:FnOK Tryz.prog zd_e := yT (g := zd_g) (fn := Tryz.f99) yH yS (yE ySd eNil) (by kernel_rfl) (by kernel_rfl) (by kernel_rfl) (fun x y h=>let ⟨n,hn⟩ := yPj x.1 x.2.1 y h; ⟨yR0 n,iNil,(yUh n x).trans hn⟩)
abbrev yOx:Ty := .pair t97 (.pair t3 .unit)
abbrev ySf:Ty := .pair t26 .unit
def yRW:G := { T := T,E := [z0P_e,zD_e],muts := [],fz := [] }
def yW6:List (List Nat) := []
def yMf (n:Nat):Ann := { keep := yW6,fuel := n,inl := [],deep := 0 }
def yKR (n:Nat) (l:List (Int×Int×Unit)) (upper:Int):Option (List Int×Unit) :=
  (Option.bind (zD_M l fun (x:(Int×Int×Unit)×Unit)=>yIL x.1 upper) fun (v0:List Int×Unit)=>some (v0.1,()))
theorem yTj (n:Nat) (x:yOx.den):runF yRW (yMf n) Tryz.f119 yOx ySf x = yKR n x.1 x.2.1 := by kernel_rfl
def y96 (l:List (Int×Int×Unit)) (upper:Int):Option (List Int×Unit) := yKR 0 l upper
theorem yOm (l:List (Int×Int×Unit)) (upper:Int) (y:List Int×Unit) (h:y96 l upper = some y) : ∃ n,yKR n l upper = some y := ⟨0,h⟩
def z0j_e:Entry := { f := 119,args := yOx,ress := ySf,m := fun x=>y96 x.1 x.2.1 }
theorem yHl:FnOK Tryz.prog z0j_e := yT (g := yRW) (fn := Tryz.f119) yH yS (yE yQl (yE yV5 eNil)) (by kernel_rfl) (by kernel_rfl) (by kernel_rfl) (fun x y h=>let ⟨n,hn⟩ := yOm x.1 x.2.1 y h; ⟨yMf n,iNil,(yTj n x).trans hn⟩)
abbrev zv_a:Ty := .pair t3 .unit
abbrev zv_r:Ty := .pair t35 .unit
def zv_g:G := { T := T,E := [z0E_e],muts := [],fz := [] }
def zv_k:List (List Nat) := []
def yQ5 (n:Nat):Ann := { keep := zv_k,fuel := n,inl := [],deep := 0 }
def zv_m (n:Nat) (n1:Int):Option (Int×Unit) :=
  some ((z0E n1 (-1024:Int) (1024:Int)).1,())
theorem yUc (n:Nat) (x:zv_a.den):runF zv_g (yQ5 n) Tryz.f137 zv_a zv_r x = zv_m n x.1 := by kernel_rfl
def zv (n1:Int):(Int×Unit) :=
  ((z0E n1 (-1024:Int) (1024:Int)).1,())
abbrev zv_M (n1:Int):Option (Int×Unit) := some (zv n1)
theorem yU4 (n1:Int) (y:Int×Unit) (h:zv_M n1 = some y) : ∃ n,zv_m n n1 = some y :=
  ⟨0,by rw [← h]; show zv_m 0 n1 = some (zv n1); unfold zv_m zv; first | rfl | (simp only [yQ]; done) | (simp only [yQ]; rfl)⟩
def zv_e:Entry := { f := 137,args := zv_a,ress := zv_r,m := fun x=>zv_M x.1 }
theorem yTO:FnOK Tryz.prog zv_e := yT (g := zv_g) (fn := Tryz.f137) yH yS (yE y7T eNil) (by kernel_rfl) (by kernel_rfl) (by kernel_rfl) (fun x y h=>let ⟨n,hn⟩ := yU4 x.1 y h; ⟨yQ5 n,iNil,(yUc n x).trans hn⟩)
abbrev zf_a:Ty := .pair t3 .unit
abbrev zf_r:Ty := .pair t35 .unit
def zf_g:G := { T := T,E := [z0E_e],muts := [],fz := [] }
def zf_k:List (List Nat) := []
def yQM (n:Nat):Ann := { keep := zf_k,fuel := n,inl := [],deep := 0 }
def zf_m (n:Nat) (n1:Int):Option (Int×Unit) :=
  some ((z0E n1 (0:Int) (100000:Int)).1,())
theorem yVp (n:Nat) (x:zf_a.den):runF zf_g (yQM n) Tryz.f139 zf_a zf_r x = zf_m n x.1 := by kernel_rfl
def zf (n1:Int):(Int×Unit) :=
  ((z0E n1 (0:Int) (100000:Int)).1,())
abbrev zf_M (n1:Int):Option (Int×Unit) := some (zf n1)
theorem yQT (n1:Int) (y:Int×Unit) (h:zf_M n1 = some y) : ∃ n,zf_m n n1 = some y :=
  ⟨0,by rw [← h]; show zf_m 0 n1 = some (zf n1); unfold zf_m zf; first | rfl | (simp only [yQ]; done) | (simp only [yQ]; rfl)⟩
def zf_e:Entry := { f := 139,args := zf_a,ress := zf_r,m := fun x=>zf_M x.1 }
theorem yQC:FnOK Tryz.prog zf_e := yT (g := zf_g) (fn := Tryz.f139) yH yS (yE y7T eNil) (by kernel_rfl) (by kernel_rfl) (by kernel_rfl) (fun x y h=>let ⟨n,hn⟩ := yQT x.1 y h; ⟨yQM n,iNil,(yVp n x).trans hn⟩)
abbrev zG_a:Ty := .pair t3 .unit
abbrev zG_r:Ty := .pair t35 .unit
def zG_g:G := { T := T,E := [z0E_e],muts := [],fz := [] }
def zG_k:List (List Nat) := []
def yTB (n:Nat):Ann := { keep := zG_k,fuel := n,inl := [],deep := 0 }
def zG_m (n:Nat) (n1:Int):Option (Int×Unit) :=
  some ((z0E n1 (0:Int) (100000000:Int)).1,())
theorem yUd (n:Nat) (x:zG_a.den):runF zG_g (yTB n) Tryz.f151 zG_a zG_r x = zG_m n x.1 := by kernel_rfl
def zG (n1:Int):(Int×Unit) :=
  ((z0E n1 (0:Int) (100000000:Int)).1,())
abbrev zG_M (n1:Int):Option (Int×Unit) := some (zG n1)
theorem yS1 (n1:Int) (y:Int×Unit) (h:zG_M n1 = some y) : ∃ n,zG_m n n1 = some y :=
  ⟨0,by rw [← h]; show zG_m 0 n1 = some (zG n1); unfold zG_m zG; first | rfl | (simp only [yQ]; done) | (simp only [yQ]; rfl)⟩
def zG_e:Entry := { f := 151,args := zG_a,ress := zG_r,m := fun x=>zG_M x.1 }
theorem yWA:FnOK Tryz.prog zG_e := yT (g := zG_g) (fn := Tryz.f151) yH yS (yE y7T eNil) (by kernel_rfl) (by kernel_rfl) (by kernel_rfl) (fun x y h=>let ⟨n,hn⟩ := yS1 x.1 y h; ⟨yTB n,iNil,(yUd n x).trans hn⟩)
abbrev zO_a:Ty := .pair t3 .unit
abbrev zO_r:Ty := .pair t35 .unit
def zO_g:G := { T := T,E := [z0E_e],muts := [],fz := [] }
def zO_k:List (List Nat) := []
def ySX (n:Nat):Ann := { keep := zO_k,fuel := n,inl := [],deep := 0 }
def zO_m (n:Nat) (n1:Int):Option (Int×Unit) :=
  some ((z0E n1 (0:Int) (100000000:Int)).1,())
theorem yVe (n:Nat) (x:zO_a.den):runF zO_g (ySX n) Tryz.f160 zO_a zO_r x = zO_m n x.1 := by kernel_rfl
def zO (n1:Int):(Int×Unit) :=
  ((z0E n1 (0:Int) (100000000:Int)).1,())
abbrev zO_M (n1:Int):Option (Int×Unit) := some (zO n1)
theorem yPz (n1:Int) (y:Int×Unit) (h:zO_M n1 = some y) : ∃ n,zO_m n n1 = some y :=
  ⟨0,by rw [← h]; show zO_m 0 n1 = some (zO n1); unfold zO_m zO; first | rfl | (simp only [yQ]; done) | (simp only [yQ]; rfl)⟩
def zO_e:Entry := { f := 160,args := zO_a,ress := zO_r,m := fun x=>zO_M x.1 }
theorem yUz:FnOK Tryz.prog zO_e := yT (g := zO_g) (fn := Tryz.f160) yH yS (yE y7T eNil) (by kernel_rfl) (by kernel_rfl) (by kernel_rfl) (fun x y h=>let ⟨n,hn⟩ := yPz x.1 y h; ⟨ySX n,iNil,(yVe n x).trans hn⟩)
abbrev zP_a:Ty := .pair t96 (.pair (.ref t176) .unit)
abbrev zP_r:Ty := .pair t35 .unit
def zP_g:G := { T := T,E := [zS_e],muts := [],fz := [] }
def zP_k:List (List Nat) := []
def yU7 (n:Nat):Ann := { keep := zP_k,fuel := n,inl := [],deep := 0 }
def zP_m (n:Nat) (x1:Int×Int×Unit) (p1:Int×Unit→Option (Int×Unit)):Option (Int×Unit) :=
  (Option.bind (zS_M x1 p1) fun (v0:Int×Unit)=>some (v0.1,()))
theorem yVO (n:Nat) (x:zP_a.den):runF zP_g (yU7 n) Tryz.f161 zP_a zP_r x = zP_m n x.1 x.2.1 := by kernel_rfl
def zP_M (x1:Int×Int×Unit) (p1:Int×Unit→Option (Int×Unit)):Option (Int×Unit) := zP_m 0 x1 p1
theorem yPa (x1:Int×Int×Unit) (p1:Int×Unit→Option (Int×Unit)) (y:Int×Unit) (h:zP_M x1 p1 = some y) : ∃ n,zP_m n x1 p1 = some y := ⟨0,h⟩
def zP_e:Entry := { f := 161,args := zP_a,ress := zP_r,m := fun x=>zP_M x.1 x.2.1 }
theorem yUn:FnOK Tryz.prog zP_e := yT (g := zP_g) (fn := Tryz.f161) yH yS (yE yNg eNil) (by kernel_rfl) (by kernel_rfl) (by kernel_rfl) (fun x y h=>let ⟨n,hn⟩ := yPa x.1 x.2.1 y h; ⟨yU7 n,iNil,(yVO n x).trans hn⟩)
abbrev zT_a:Ty := .pair t230 .unit
abbrev zT_r:Ty := .pair t3 .unit
def zT_g:G := { T := T,E := [zU_e],muts := [],fz := [] }
def zT_k:List (List Nat) := []
def yTH (n:Nat):Ann := { keep := zT_k,fuel := n,inl := [],deep := 0 }
def zT_m (n:Nat) (p:Lnk×Int×Int×Int×Bool×Unit):Option (Int×Unit) :=
  (bif !p.2.2.2.2.1 then some ((0:Int),()) else (Option.bind (zU_M p) fun (v0:Int×Unit)=>some (if v0.1 > IntKind.i64.wrap ((0:Int) - p.2.1) then v0.1 else IntKind.i64.wrap ((0:Int) - p.2.1),())))
theorem yVG (n:Nat) (x:zT_a.den):runF zT_g (yTH n) Tryz.f178 zT_a zT_r x = zT_m n x.1 := by kernel_rfl
def zT_M (p:Lnk×Int×Int×Int×Bool×Unit):Option (Int×Unit) := zT_m 0 p
theorem ySI (p:Lnk×Int×Int×Int×Bool×Unit) (y:Int×Unit) (h:zT_M p = some y) : ∃ n,zT_m n p = some y := ⟨0,h⟩
def zT_e:Entry := { f := 178,args := zT_a,ress := zT_r,m := fun x=>zT_M x.1 }
theorem yV8:FnOK Tryz.prog zT_e := yT (g := zT_g) (fn := Tryz.f178) yH yS (yE yR5 eNil) (by kernel_rfl) (by kernel_rfl) (by kernel_rfl) (fun x y h=>let ⟨n,hn⟩ := ySI x.1 y h; ⟨yTH n,iNil,(yVG n x).trans hn⟩)
abbrev yOo:Ty := .pair t230 .unit
abbrev yPT:Ty := .pair t3 .unit
def yP8:G := { T := T,E := [zU_e],muts := [],fz := [] }
def yUU:List (List Nat) := []
def yM3 (n:Nat):Ann := { keep := yUU,fuel := n,inl := [],deep := 0 }
def yKL (n:Nat) (p:Lnk×Int×Int×Int×Bool×Unit):Option (Int×Unit) :=
  (Option.bind (zU_M p) fun (v0:Int×Unit)=>some (if Bool.true = Bool.true then if v0.1 > 0 then v0.1 else (0:Int) else if v0.1 < 0 then v0.1 else (0:Int),()))
theorem yPu (n:Nat) (x:yOo.den):runF yP8 (yM3 n) Tryz.f179 yOo yPT x = yKL n x.1 := by kernel_rfl
def yGR (p:Lnk×Int×Int×Int×Bool×Unit):Option (Int×Unit) := yKL 0 p
theorem yNW (p:Lnk×Int×Int×Int×Bool×Unit) (y:Int×Unit) (h:yGR p = some y) : ∃ n,yKL n p = some y := ⟨0,h⟩
def z05_e:Entry := { f := 179,args := yOo,ress := yPT,m := fun x=>yGR x.1 }
theorem yRX:FnOK Tryz.prog z05_e := yT (g := yP8) (fn := Tryz.f179) yH yS (yE yR5 eNil) (by kernel_rfl) (by kernel_rfl) (by kernel_rfl) (fun x y h=>let ⟨n,hn⟩ := yNW x.1 y h; ⟨yM3 n,iNil,(yPu n x).trans hn⟩)
abbrev yNo:Ty := .pair t230 .unit
abbrev yRp:Ty := .pair t3 .unit
def yQK:G := { T := T,E := [zm_e],muts := [],fz := [] }
def yU9:List (List Nat) := []
def yLw (n:Nat):Ann := { keep := yU9,fuel := n,inl := [],deep := 0 }
def yKw (n:Nat) (p:Lnk×Int×Int×Int×Bool×Unit):Option (Int×Unit) :=
  (Option.bind (zm_M p (if p.1.2.2.2.1 > p.2.2.2.1 then p.1.2.2.2.1 else p.2.2.2.1)) fun (v0:Int×Unit)=>some (v0.1,()))
theorem yTA (n:Nat) (x:yNo.den):runF yQK (yLw n) Tryz.f181 yNo yRp x = yKw n x.1 := by kernel_rfl
def yGw (p:Lnk×Int×Int×Int×Bool×Unit):Option (Int×Unit) := yKw 0 p
theorem yNd (p:Lnk×Int×Int×Int×Bool×Unit) (y:Int×Unit) (h:yGw p = some y) : ∃ n,yKw n p = some y := ⟨0,h⟩
def z06_e:Entry := { f := 181,args := yNo,ress := yRp,m := fun x=>yGw x.1 }
theorem yPB:FnOK Tryz.prog z06_e := yT (g := yQK) (fn := Tryz.f181) yH yS (yE yQS eNil) (by kernel_rfl) (by kernel_rfl) (by kernel_rfl) (fun x y h=>let ⟨n,hn⟩ := yNd x.1 y h; ⟨yLw n,iNil,(yTA n x).trans hn⟩)
abbrev yMm:Ty := .pair t230 .unit
abbrev yRF:Ty := .pair t3 .unit
def yTM:G := { T := T,E := [zm_e],muts := [],fz := [] }
def yVu:List (List Nat) := []
def yMY (n:Nat):Ann := { keep := yVu,fuel := n,inl := [],deep := 0 }
def yLa (n:Nat) (p:Lnk×Int×Int×Int×Bool×Unit):Option (Int×Unit) :=
  (Option.bind (zm_M p p.1.2.2.2.1) fun (v0:Int×Unit)=>some (v0.1,()))
theorem yPb (n:Nat) (x:yMm.den):runF yTM (yMY n) Tryz.f184 yMm yRF x = yLa n x.1 := by kernel_rfl
def yH4 (p:Lnk×Int×Int×Int×Bool×Unit):Option (Int×Unit) := yLa 0 p
theorem yNs (p:Lnk×Int×Int×Int×Bool×Unit) (y:Int×Unit) (h:yH4 p = some y) : ∃ n,yLa n p = some y := ⟨0,h⟩
def z08_e:Entry := { f := 184,args := yMm,ress := yRF,m := fun x=>yH4 x.1 }
theorem yPx:FnOK Tryz.prog z08_e := yT (g := yTM) (fn := Tryz.f184) yH yS (yE yQS eNil) (by kernel_rfl) (by kernel_rfl) (by kernel_rfl) (fun x y h=>let ⟨n,hn⟩ := yNs x.1 y h; ⟨yMY n,iNil,(yPb n x).trans hn⟩)
end
end Go.Tw
end
section
set_option maxRecDepth 1000000
namespace Go.Tw
open Go.Vx Go.Vx.B Go.Proofs
noncomputable section
abbrev zF_a:Ty := .pair t41 (.pair t44 .unit)
abbrev zF_r:Ty := .pair t35 .unit
def zF_g:G := { T := T,E := [zv_e,z0e_e,zH_e,zf_e,z0Q_e],muts := [],fz := [] }
def zF_k:List (List Nat) := []
def yR2 (n:Nat):Ann := { keep := zF_k,fuel := n,inl := [],deep := 0 }
def zF_m (n:Nat) (b:Bas) (c:Cnd):Option (Int×Unit) :=
  (Option.bind (zH_M c.2.2.1 fun (x:Int×Unit)=>zf_M x.1) fun (v0:List Int×Unit)=>(Option.bind (y0c v0.1) fun (v1:Int×Unit)=>(Option.bind (y0c [(zv c.1).1,(z0e ((↑c.2.2.1.length:Int) != (↑b.1.length:Int)) (2:Int)).1,v1.1]) fun (v2:Int×Unit)=>some (v2.1,()))))
theorem yV4 (n:Nat) (x:zF_a.den):runF zF_g (yR2 n) Tryz.f88 zF_a zF_r x = zF_m n x.1 x.2.1 := by kernel_rfl
def zF_M (b:Bas) (c:Cnd):Option (Int×Unit) := zF_m 0 b c
theorem yTs (b:Bas) (c:Cnd) (y:Int×Unit) (h:zF_M b c = some y) : ∃ n,zF_m n b c = some y := ⟨0,h⟩
def zF_e:Entry := { f := 88,args := zF_a,ress := zF_r,m := fun x=>zF_M x.1 x.2.1 }
theorem yPH:FnOK Tryz.prog zF_e := yT (g := zF_g) (fn := Tryz.f88) yH yS (yE yTO (yE y47 (yE yQu (yE yQC (yE y3u eNil))))) (by kernel_rfl) (by kernel_rfl) (by kernel_rfl) (fun x y h=>let ⟨n,hn⟩ := yTs x.1 x.2.1 y h; ⟨yR2 n,iNil,(yV4 n x).trans hn⟩)
abbrev zJ_a:Ty := .pair t41 (.pair t26 .unit)
abbrev zJ_r:Ty := .pair t35 .unit
def zJ_g:G := { T := T,E := [z0e_e,zH_e,zG_e,z0Q_e],muts := [],fz := [] }
def zJ_k:List (List Nat) := []
def yT6 (n:Nat):Ann := { keep := zJ_k,fuel := n,inl := [],deep := 0 }
def zJ_m (n:Nat) (b:Bas) (v:List Int):Option (Int×Unit) :=
  (Option.bind (zH_M v fun (x:Int×Unit)=>zG_M x.1) fun (v0:List Int×Unit)=>(Option.bind (y0c v0.1) fun (v1:Int×Unit)=>(Option.bind (y0c [(z0e ((↑v.length:Int) != (↑b.1.length:Int)) (2:Int)).1,v1.1]) fun (v2:Int×Unit)=>some (v2.1,()))))
theorem yVD (n:Nat) (x:zJ_a.den):runF zJ_g (yT6 n) Tryz.f104 zJ_a zJ_r x = zJ_m n x.1 x.2.1 := by kernel_rfl
def zJ_M (b:Bas) (v:List Int):Option (Int×Unit) := zJ_m 0 b v
theorem yRg (b:Bas) (v:List Int) (y:Int×Unit) (h:zJ_M b v = some y) : ∃ n,zJ_m n b v = some y := ⟨0,h⟩
def zJ_e:Entry := { f := 104,args := zJ_a,ress := zJ_r,m := fun x=>zJ_M x.1 x.2.1 }
theorem yVr:FnOK Tryz.prog zJ_e := yT (g := zJ_g) (fn := Tryz.f104) yH yS (yE y47 (yE yQu (yE yWA (yE y3u eNil)))) (by kernel_rfl) (by kernel_rfl) (by kernel_rfl) (fun x y h=>let ⟨n,hn⟩ := yRg x.1 x.2.1 y h; ⟨yT6 n,iNil,(yVD n x).trans hn⟩)
abbrev yOT:Ty := .unit
abbrev yQ1:Ty := .pair t222 .unit
def yPp:G := { T := T,E := [zT_e,z05_e,z06_e,z07_e,z08_e],muts := [],fz := [] }
def yVP:List (List Nat) := []
def yLo (n:Nat):Ann := { keep := yVP,fuel := n,inl := [],deep := 0 }
def yK7 (n:Nat)  : Option (List (List UInt8×List Bool×((Lnk×Int×Int×Int×Bool×Unit)×Unit→Option (Int×Unit))×Unit)×Unit) :=
  some ([([(98:UInt8),97,114,114,105,101,114],[Bool.true,Bool.false],fun (x:(Lnk×Int×Int×Int×Bool×Unit)×Unit)=>zT_M x.1,()),([(108:UInt8),101,97,107],[Bool.true,Bool.false],fun (x:(Lnk×Int×Int×Int×Bool×Unit)×Unit)=>yGR x.1,()),([(111:UInt8),117,116,102,97,108,108],[Bool.false,Bool.true],fun (x:(Lnk×Int×Int×Int×Bool×Unit)×Unit)=>yGw x.1,()),([(112:UInt8),117,109,112],[Bool.false,Bool.false],fun (x:(Lnk×Int×Int×Int×Bool×Unit)×Unit)=>yLb x.1,()),([(119:UInt8),101,105,114],[Bool.false,Bool.false],fun (x:(Lnk×Int×Int×Int×Bool×Unit)×Unit)=>yH4 x.1,())],())
theorem yR7 (n:Nat) (x:yOT.den):runF yPp (yLo n) Tryz.f141 yOT yQ1 x = yK7 n := by kernel_rfl
def z0S  : (List (List UInt8×List Bool×((Lnk×Int×Int×Int×Bool×Unit)×Unit→Option (Int×Unit))×Unit)×Unit) :=
  ([([(98:UInt8),97,114,114,105,101,114],[Bool.true,Bool.false],fun (x:(Lnk×Int×Int×Int×Bool×Unit)×Unit)=>zT_M x.1,()),([(108:UInt8),101,97,107],[Bool.true,Bool.false],fun (x:(Lnk×Int×Int×Int×Bool×Unit)×Unit)=>yGR x.1,()),([(111:UInt8),117,116,102,97,108,108],[Bool.false,Bool.true],fun (x:(Lnk×Int×Int×Int×Bool×Unit)×Unit)=>yGw x.1,()),([(112:UInt8),117,109,112],[Bool.false,Bool.false],fun (x:(Lnk×Int×Int×Int×Bool×Unit)×Unit)=>yLb x.1,()),([(119:UInt8),101,105,114],[Bool.false,Bool.false],fun (x:(Lnk×Int×Int×Int×Bool×Unit)×Unit)=>yH4 x.1,())],())
abbrev ySh  : Option (List (List UInt8×List Bool×((Lnk×Int×Int×Int×Bool×Unit)×Unit→Option (Int×Unit))×Unit)×Unit) := some (z0S)
theorem yNV  (y:List (List UInt8×List Bool×((Lnk×Int×Int×Int×Bool×Unit)×Unit→Option (Int×Unit))×Unit)×Unit) (h:ySh = some y) : ∃ n,yK7 n = some y :=
  ⟨0,by rw [← h]; show yK7 0 = some (z0S); unfold yK7 z0S; first | rfl | (simp only [yQ]; done) | (simp only [yQ]; rfl)⟩
def z0S_e:Entry := { f := 141,args := yOT,ress := yQ1,m := fun x=>ySh }
theorem yMM:FnOK Tryz.prog z0S_e := yT (g := yPp) (fn := Tryz.f141) yH yS (yE yV8 (yE yRX (yE yPB (yE yP9 (yE yPx eNil))))) (by kernel_rfl) (by kernel_rfl) (by kernel_rfl) (fun x y h=>let ⟨n,hn⟩ := yNV y h; ⟨yLo n,iNil,(yR7 n x).trans hn⟩)
abbrev zb_a:Ty := .pair t104 (.pair t3 .unit)
abbrev zb_r:Ty := .pair t44 .unit
def zb_g:G := { T := T,E := [z0d_e,z0j_e],muts := [],fz := [] }
def zb_k:List (List Nat) := []
def yTu (n:Nat):Ann := { keep := zb_k,fuel := n,inl := [],deep := 0 }
def zb_m (n:Nat) (r1:Rng) (upper:Int):Option (Cnd×Unit) :=
  (Option.bind (idx (z0d r1.1).1 upper) fun (v0:Int)=>(Option.bind (y96 r1.2.2.1 upper) fun (v1:List Int×Unit)=>some ((v0,r1.2.1,v1.1,()),())))
theorem yVg (n:Nat) (x:zb_a.den):runF zb_g (yTu n) Tryz.f154 zb_a zb_r x = zb_m n x.1 x.2.1 := by kernel_rfl
def zb_M (r1:Rng) (upper:Int):Option (Cnd×Unit) := zb_m 0 r1 upper
theorem ySi (r1:Rng) (upper:Int) (y:Cnd×Unit) (h:zb_M r1 upper = some y) : ∃ n,zb_m n r1 upper = some y := ⟨0,h⟩
def zb_e:Entry := { f := 154,args := zb_a,ress := zb_r,m := fun x=>zb_M x.1 x.2.1 }
theorem ySH:FnOK Tryz.prog zb_e := yT (g := zb_g) (fn := Tryz.f154) yH yS (yE yML (yE yHl eNil)) (by kernel_rfl) (by kernel_rfl) (by kernel_rfl) (fun x y h=>let ⟨n,hn⟩ := ySi x.1 x.2.1 y h; ⟨yTu n,iNil,(yVg n x).trans hn⟩)
abbrev zI_a:Ty := .pair t96 .unit
abbrev zI_r:Ty := .pair t35 .unit
def zI_g:G := { T := T,E := [zS_e,zf_e],muts := [],fz := [] }
def zI_k:List (List Nat) := []
def ySR (n:Nat):Ann := { keep := zI_k,fuel := n,inl := [],deep := 0 }
def zI_m (n:Nat) (x1:Int×Int×Unit):Option (Int×Unit) :=
  (Option.bind (zS_M x1 fun (x:Int×Unit)=>zf_M x.1) fun (v0:Int×Unit)=>some (v0.1,()))
theorem yVy (n:Nat) (x:zI_a.den):runF zI_g (ySR n) Tryz.f157 zI_a zI_r x = zI_m n x.1 := by kernel_rfl
def zI_M (x1:Int×Int×Unit):Option (Int×Unit) := zI_m 0 x1
theorem yR6 (x1:Int×Int×Unit) (y:Int×Unit) (h:zI_M x1 = some y) : ∃ n,zI_m n x1 = some y := ⟨0,h⟩
def zI_e:Entry := { f := 157,args := zI_a,ress := zI_r,m := fun x=>zI_M x.1 }
theorem yUw:FnOK Tryz.prog zI_e := yT (g := zI_g) (fn := Tryz.f157) yH yS (yE yNg (yE yQC eNil)) (by kernel_rfl) (by kernel_rfl) (by kernel_rfl) (fun x y h=>let ⟨n,hn⟩ := yR6 x.1 y h; ⟨ySR n,iNil,(yVy n x).trans hn⟩)
end
end Go.Tw
end
section
set_option maxRecDepth 1000000
namespace Go.Tw
open Go.Vx Go.Vx.B Go.Proofs
noncomputable section
def il140:Inl := { f := 140,fn := Tryz.f140,keep := [],muts := [],fz := [] }
theorem yLf:y3Z Tryz.prog il140 := ⟨by kernel_rfl,by kernel_rfl,fun e0 h=>by cases (show (none:Option LibK) = some e0 from h)⟩
abbrev zi_a:Ty := .pair t41 (.pair t26 (.pair t44 .unit))
abbrev zi_r:Ty := .pair t26 (.pair (.nslice (.int .i64)) (.pair t4 .unit))
def zi_g:G := { T := T,E := [z0S_e,zu_e],muts := [14],fz := [] }
def zi_k:List (List Nat) := [[3,5,9,10,11,28,29,30],[3,5,9,10,11,14,15,42,43,44]]
def yRk (n:Nat):Ann := { keep := zi_k,fuel := n,inl := [il140],deep := 3 }
def y7D (n:Nat) (r12:Bas→Cnd→List (List UInt8×List Bool×((Lnk×Int×Int×Int×Bool×Unit)×Unit→Option (Int×Unit))×Unit)→List Lnk→Int→Int→Bool→List Int→List Int→Option (List Int×Option (List Int)×Bool×Unit)) (ah:Bas) (ae:Cnd) (a7:List (List UInt8×List Bool×((Lnk×Int×Int×Int×Bool×Unit)×Unit→Option (Int×Unit))×Unit)) (a8:List Lnk) (az:Int) (ai:Int) (aa:List Int) (v13:Lnk) (v17:Int×Unit) (j26:Bool) (j27:List Int):Option (List Int×Option (List Int)×Bool×Unit) :=
  (bif v13.2.2.1 != (-1:Int) then (Option.bind (idx j27 v13.2.2.1) fun (v28:Int)=>(Option.bind (j27[v13.2.2.1.toNat]?) fun (v29:Int)=>(Option.bind (idx j27 v13.2.2.1) fun (v30:Int)=>(Option.bind (j27[v13.2.2.1.toNat]?) fun (v31:Int)=>(bif j26 then (Option.bind (idx (j27.set v13.2.2.1.toNat (IntKind.i64.wrap (v29 + v17.1))) v13.2.2.1) fun (v32:Int)=>(Option.bind ((j27.set v13.2.2.1.toNat (IntKind.i64.wrap (v29 + v17.1)))[v13.2.2.1.toNat]?) fun (v33:Int)=>(bif decide (aa.length + (1:Nat)≤memMax) then r12 ah ae a7 a8 az (IntKind.i64.wrap (ai + 1)) (decide (v33≤100000000)) (aa ++ [v17.1]) (j27.set v13.2.2.1.toNat (IntKind.i64.wrap (v29 + v17.1))) else none))) else (bif decide (aa.length + (1:Nat)≤memMax) then r12 ah ae a7 a8 az (IntKind.i64.wrap (ai + 1)) Bool.false (aa ++ [v17.1]) (j27.set v13.2.2.1.toNat (IntKind.i64.wrap (v29 + v17.1))) else none)))))) else (bif decide (aa.length + (1:Nat)≤memMax) then r12 ah ae a7 a8 az (IntKind.i64.wrap (ai + 1)) j26 (aa ++ [v17.1]) j27 else none))
def yEs (n:Nat) (r12:Bas→Cnd→List (List UInt8×List Bool×((Lnk×Int×Int×Int×Bool×Unit)×Unit→Option (Int×Unit))×Unit)→List Lnk→Int→Int→Bool→List Int→List Int→Option (List Int×Option (List Int)×Bool×Unit)) (ah:Bas) (ae:Cnd) (a7:List (List UInt8×List Bool×((Lnk×Int×Int×Int×Bool×Unit)×Unit→Option (Int×Unit))×Unit)) (a8:List Lnk) (az:Int) (ai:Int) (b1_0_12:Bool) (aa:List Int) (ac:List Int):Option (List Int×Option (List Int)×Bool×Unit) :=
  (bif decide (ai < az) then (Option.bind (idx a8 ai) fun (v13:Lnk)=>(Option.bind (idx ac (zu (v13.1,v13.2.1,v13.2.2.1,v13.2.2.2.1,v13.2.2.2.2.1,())).1) fun (v14:Int)=>(Option.bind (ac[(zu (v13.1,v13.2.1,v13.2.2.1,v13.2.2.2.1,v13.2.2.2.2.1,())).1.toNat]?) fun (v15:Int)=>(Option.bind (idx ah.1 (zu (v13.1,v13.2.1,v13.2.2.1,v13.2.2.2.1,v13.2.2.2.2.1,())).1) fun (v16:Nod)=>(Option.bind (((yZ Ty.str ((Ty.arr (nat_lit 2) Ty.bool).pair (((((Ty.str.pair ((Ty.int IntKind.i64).pair ((Ty.int IntKind.i64).pair ((Ty.int IntKind.i64).pair ((Ty.int IntKind.i64).pair Ty.unit))))).pair ((Ty.int IntKind.i64).pair ((Ty.int IntKind.i64).pair ((Ty.int IntKind.i64).pair (Ty.bool.pair Ty.unit))))).pair Ty.unit).func ((Ty.int IntKind.i64).pair Ty.unit)).pair Ty.unit)) a7 v13.1).getD ([Bool.false,Bool.false],fun (x:(((Ty.str.pair ((Ty.int IntKind.i64).pair ((Ty.int IntKind.i64).pair ((Ty.int IntKind.i64).pair ((Ty.int IntKind.i64).pair Ty.unit))))).pair ((Ty.int IntKind.i64).pair ((Ty.int IntKind.i64).pair ((Ty.int IntKind.i64).pair (Ty.bool.pair Ty.unit))))).pair Ty.unit).den)=>Option.none,())).2.1 (((v13.1,v13.2.1,v13.2.2.1,v13.2.2.2.1,v13.2.2.2.2.1,()),v15,v16.2.1,ae.1,ae.2.1,()),())) fun (v17:Int×Unit)=>(bif v13.2.1 != (-1:Int) then (Option.bind (idx ac v13.2.1) fun (v18:Int)=>(Option.bind (ac[v13.2.1.toNat]?) fun (v19:Int)=>(Option.bind (idx ac v13.2.1) fun (v20:Int)=>(Option.bind (ac[v13.2.1.toNat]?) fun (v21:Int)=>(bif b1_0_12 then (Option.bind (idx (ac.set v13.2.1.toNat (IntKind.i64.wrap (v19 + IntKind.i64.wrap ((0:Int) - v17.1)))) v13.2.1) fun (v22:Int)=>(Option.bind ((ac.set v13.2.1.toNat (IntKind.i64.wrap (v19 + IntKind.i64.wrap ((0:Int) - v17.1))))[v13.2.1.toNat]?) fun (v23:Int)=>(y7D n r12 ah ae a7 a8 az ai aa v13 v17 (decide (v23≤100000000)) (ac.set v13.2.1.toNat (IntKind.i64.wrap (v19 + IntKind.i64.wrap ((0:Int) - v17.1))))))) else (y7D n r12 ah ae a7 a8 az ai aa v13 v17 (Bool.false) (ac.set v13.2.1.toNat (IntKind.i64.wrap (v19 + IntKind.i64.wrap ((0:Int) - v17.1)))))))))) else (y7D n r12 ah ae a7 a8 az ai aa v13 v17 (b1_0_12) (ac)))))))) else some (aa,some ac,b1_0_12,()))
def y6y (n:Nat)  (k:Nat) (ah:Bas) (ae:Cnd) (a7:List (List UInt8×List Bool×((Lnk×Int×Int×Int×Bool×Unit)×Unit→Option (Int×Unit))×Unit)) (a8:List Lnk) (az:Int) (ai:Int) (b1_0_12:Bool) (aa:List Int) (ac:List Int):Option (List Int×Option (List Int)×Bool×Unit) :=
  iter (fun r y=>yEs n (fun ah ae a7 a8 az ai b1_0_12 aa ac=>r ((ah,(ae,((),(a7,(a8,(az,(ai,()))))))),(((),((b1_0_12,()),(aa,(ac,())))),()))) y.1.1 y.1.2.1 y.1.2.2.2.1 y.1.2.2.2.2.1 y.1.2.2.2.2.2.1 y.1.2.2.2.2.2.2.1 y.2.1.2.1.1 y.2.1.2.2.1 y.2.1.2.2.2.1) k ((ah,(ae,((),(a7,(a8,(az,(ai,()))))))),(((),((b1_0_12,()),(aa,(ac,())))),()))
def yHO (n:Nat) (r0:Bas→Cnd→List Int→Int→Int→Bool→List Int→Option (List Int×Option (List Int)×Bool×Unit)) (am:Bas) (ay:Cnd) (aj:List Int) (aH:Int) (af:Int) (b1_0_0:Bool) (ar:List Int):Option (List Int×Option (List Int)×Bool×Unit) :=
  (bif decide (af < aH) then (Option.bind (idx aj af) fun (v1:Int)=>(bif af != (-1:Int) then (Option.bind (idx ar af) fun (v2:Int)=>(Option.bind (ar[af.toNat]?) fun (v3:Int)=>(Option.bind (idx ar af) fun (v4:Int)=>(Option.bind (ar[af.toNat]?) fun (v5:Int)=>(bif b1_0_0 then (Option.bind (idx (ar.set af.toNat (IntKind.i64.wrap (v3 + v1))) af) fun (v6:Int)=>(Option.bind ((ar.set af.toNat (IntKind.i64.wrap (v3 + v1)))[af.toNat]?) fun (v7:Int)=>r0 am ay aj aH (IntKind.i64.wrap (af + 1)) (decide (v7≤100000000)) (ar.set af.toNat (IntKind.i64.wrap (v3 + v1))))) else r0 am ay aj aH (IntKind.i64.wrap (af + 1)) Bool.false (ar.set af.toNat (IntKind.i64.wrap (v3 + v1)))))))) else r0 am ay aj aH (IntKind.i64.wrap (af + 1)) b1_0_0 ar)) else (y6y n n (am) (ay) (z0S.1) (am.2.1) ((↑am.2.1.length:Int)) ((0:Int)) (b1_0_0) ([]) (ar)))
def yAd (n:Nat)  (k:Nat) (am:Bas) (ay:Cnd) (aj:List Int) (aH:Int) (af:Int) (b1_0_0:Bool) (ar:List Int):Option (List Int×Option (List Int)×Bool×Unit) :=
  iter (fun r y=>yHO n (fun am ay aj aH af b1_0_0 ar=>r ((am,(ay,((),(aj,(aH,(af,())))))),(((),((b1_0_0,()),(ar,()))),()))) y.1.1 y.1.2.1 y.1.2.2.2.1 y.1.2.2.2.2.1 y.1.2.2.2.2.2.1 y.2.1.2.1.1 y.2.1.2.2.1) k ((am,(ay,((),(aj,(aH,(af,())))))),(((),((b1_0_0,()),(ar,()))),()))
def zi_m (n:Nat) (b:Bas) (v:List Int) (c:Cnd):Option (List Int×Option (List Int)×Bool×Unit) :=
  (bif Bool.true && decide ((0:Int)≤(↑v.length:Int)) && decide ((↑v.length:Int)≤(↑memMax:Int)) && (↑v.length:Int)==(↑v.length:Int) then (yAd n n (b) (c) (c.2.2.1) ((↑c.2.2.1.length:Int)) ((0:Int)) (Bool.true) (List.take (List.replicate (↑v.length:Int).toNat (0:Int)).length v ++ List.drop v.length (List.replicate (↑v.length:Int).toNat (0:Int)))) else none)
theorem yVA (n:Nat) (x:zi_a.den):runF zi_g (yRk n) Tryz.f92 zi_a zi_r x = zi_m n x.1 x.2.1 x.2.2.1 := by kernel_rfl
def y2n (ah:Bas) (ae:Cnd) (a7:List (List UInt8×List Bool×((Lnk×Int×Int×Int×Bool×Unit)×Unit→Option (Int×Unit))×Unit)) (a8:List Lnk) (ai:Int) (aa:List Int) (v13:Lnk) (v17:Int×Unit) (j26:Bool) (j27:List Int):Option ((List Int×Option (List Int)×Bool×Unit)⊕(Bool×List Int×List Int)) :=
  (bif v13.2.2.1 != (-1:Int) then (Option.bind (idx j27 v13.2.2.1) fun (v28:Int)=>(Option.bind (j27[v13.2.2.1.toNat]?) fun (v29:Int)=>(Option.bind (idx j27 v13.2.2.1) fun (v30:Int)=>(Option.bind (j27[v13.2.2.1.toNat]?) fun (v31:Int)=>(bif j26 then (Option.bind (idx (j27.set v13.2.2.1.toNat (IntKind.i64.wrap (v29 + v17.1))) v13.2.2.1) fun (v32:Int)=>(Option.bind ((j27.set v13.2.2.1.toNat (IntKind.i64.wrap (v29 + v17.1)))[v13.2.2.1.toNat]?) fun (v33:Int)=>(bif decide (aa.length + (1:Nat)≤memMax) then (some (Sum.inr ((decide (v33≤100000000)),(aa ++ [v17.1]),(j27.set v13.2.2.1.toNat (IntKind.i64.wrap (v29 + v17.1)))))) else none))) else (bif decide (aa.length + (1:Nat)≤memMax) then (some (Sum.inr ((Bool.false),(aa ++ [v17.1]),(j27.set v13.2.2.1.toNat (IntKind.i64.wrap (v29 + v17.1)))))) else none)))))) else (bif decide (aa.length + (1:Nat)≤memMax) then (some (Sum.inr ((j26),(aa ++ [v17.1]),(j27)))) else none))
theorem y0U (n:Nat) (hn:big≤n)  (r12:Bas→Cnd→List (List UInt8×List Bool×((Lnk×Int×Int×Int×Bool×Unit)×Unit→Option (Int×Unit))×Unit)→List Lnk→Int→Int→Bool→List Int→List Int→Option (List Int×Option (List Int)×Bool×Unit)) (ah:Bas) (ae:Cnd) (a7:List (List UInt8×List Bool×((Lnk×Int×Int×Int×Bool×Unit)×Unit→Option (Int×Unit))×Unit)) (a8:List Lnk) (ai:Int) (aa:List Int) (v13:Lnk) (v17:Int×Unit) (j26:Bool) (j27:List Int):LeF (elim some fun (s__:(Bool×List Int×List Int))=>r12 ah ae a7 a8 (List.length (a8):Int) (IntKind.i64.wrap (ai + 1)) s__.1 s__.2.1 s__.2.2) (y2n ah ae a7 a8 ai aa v13 v17 j26 j27) (y7D n r12 ah ae a7 a8 (List.length (a8):Int) ai aa v13 v17 j26 j27) :=
  (y5 (y9 fun v28=>(y9 fun v29=>(y9 fun v30=>(y9 fun v31=>(y5 (y9 fun v32=>(y9 fun v33=>(y5 (y7 rfl) yp))) (y5 (y7 rfl) yp)))))) (y5 (y7 rfl) yp))
def y9U (ah:Bas) (ae:Cnd) (a7:List (List UInt8×List Bool×((Lnk×Int×Int×Int×Bool×Unit)×Unit→Option (Int×Unit))×Unit)) (a8:List Lnk) (ai:Int) (v13:Lnk) (b1_0_12:Bool) (aa:List Int) (ac:List Int):Option ((List Int×Option (List Int)×Bool×Unit)⊕(Bool×List Int×List Int)) :=
  (Option.bind (idx ac (zu (v13.1,v13.2.1,v13.2.2.1,v13.2.2.2.1,v13.2.2.2.2.1,())).1) fun (v14:Int)=>(Option.bind (ac[(zu (v13.1,v13.2.1,v13.2.2.1,v13.2.2.2.1,v13.2.2.2.2.1,())).1.toNat]?) fun (v15:Int)=>(Option.bind (idx ah.1 (zu (v13.1,v13.2.1,v13.2.2.1,v13.2.2.2.1,v13.2.2.2.2.1,())).1) fun (v16:Nod)=>(Option.bind (((yZ Ty.str ((Ty.arr (nat_lit 2) Ty.bool).pair (((((Ty.str.pair ((Ty.int IntKind.i64).pair ((Ty.int IntKind.i64).pair ((Ty.int IntKind.i64).pair ((Ty.int IntKind.i64).pair Ty.unit))))).pair ((Ty.int IntKind.i64).pair ((Ty.int IntKind.i64).pair ((Ty.int IntKind.i64).pair (Ty.bool.pair Ty.unit))))).pair Ty.unit).func ((Ty.int IntKind.i64).pair Ty.unit)).pair Ty.unit)) a7 v13.1).getD ([Bool.false,Bool.false],fun (x:(((Ty.str.pair ((Ty.int IntKind.i64).pair ((Ty.int IntKind.i64).pair ((Ty.int IntKind.i64).pair ((Ty.int IntKind.i64).pair Ty.unit))))).pair ((Ty.int IntKind.i64).pair ((Ty.int IntKind.i64).pair ((Ty.int IntKind.i64).pair (Ty.bool.pair Ty.unit))))).pair Ty.unit).den)=>Option.none,())).2.1 (((v13.1,v13.2.1,v13.2.2.1,v13.2.2.2.1,v13.2.2.2.2.1,()),v15,v16.2.1,ae.1,ae.2.1,()),())) fun (v17:Int×Unit)=>(bif v13.2.1 != (-1:Int) then (Option.bind (idx ac v13.2.1) fun (v18:Int)=>(Option.bind (ac[v13.2.1.toNat]?) fun (v19:Int)=>(Option.bind (idx ac v13.2.1) fun (v20:Int)=>(Option.bind (ac[v13.2.1.toNat]?) fun (v21:Int)=>(bif b1_0_12 then (Option.bind (idx (ac.set v13.2.1.toNat (IntKind.i64.wrap (v19 + IntKind.i64.wrap ((0:Int) - v17.1)))) v13.2.1) fun (v22:Int)=>(Option.bind ((ac.set v13.2.1.toNat (IntKind.i64.wrap (v19 + IntKind.i64.wrap ((0:Int) - v17.1))))[v13.2.1.toNat]?) fun (v23:Int)=>(y2n ah ae a7 a8 ai aa v13 v17 (decide (v23≤100000000)) (ac.set v13.2.1.toNat (IntKind.i64.wrap (v19 + IntKind.i64.wrap ((0:Int) - v17.1))))))) else (y2n ah ae a7 a8 ai aa v13 v17 (Bool.false) (ac.set v13.2.1.toNat (IntKind.i64.wrap (v19 + IntKind.i64.wrap ((0:Int) - v17.1)))))))))) else (y2n ah ae a7 a8 ai aa v13 v17 (b1_0_12) (ac)))))))
def yF2 (ah:Bas) (ae:Cnd) (a7:List (List UInt8×List Bool×((Lnk×Int×Int×Int×Bool×Unit)×Unit→Option (Int×Unit))×Unit)) (a8:List Lnk) (b1_0_12:Bool) (aa:List Int) (ac:List Int):Option (List Int×Option (List Int)×Bool×Unit) :=
  (some ((aa,some ac,b1_0_12,())))
theorem yDQ (n:Nat) (hn:big≤n)  (ah:Bas) (ae:Cnd) (a7:List (List UInt8×List Bool×((Lnk×Int×Int×Int×Bool×Unit)×Unit→Option (Int×Unit))×Unit)) (a8:List Lnk) (b1_0_12:Bool) (aa:List Int) (ac:List Int) (hx:List.length (a8) < lenMax):LeF some (yK (fun i__ e__ s__=>y9U ah ae a7 a8 i__ e__ s__.1 s__.2.1 s__.2.2) (fun s__=>yF2 ah ae a7 a8 s__.1 s__.2.1 s__.2.2) 0 (a8) (b1_0_12,aa,ac)) (y6y n n ah ae a7 a8 (List.length (a8):Int) 0 b1_0_12 aa ac) := by
  refine yN (f := some) (W := fun k__ i__ s__=>y6y n k__ ah ae a7 a8 (List.length (a8):Int) i__ s__.1 s__.2.1 s__.2.2) (body := (fun i__ e__ s__=>y9U ah ae a7 a8 i__ e__ s__.1 s__.2.1 s__.2.2)) (fin := (fun s__=>yF2 ah ae a7 a8 s__.1 s__.2.1 s__.2.2)) (fun k__ i__ s__=>?_) hx (b1_0_12,aa,ac) n (by unfold big at hn; unfold lenMax at hx; omega)
  show LeF _ _ (yEs n (y6y n k__) ah ae a7 a8 (List.length (a8):Int) i__ s__.1 s__.2.1 s__.2.2)
  exact y5 (y9 fun v13=>(y9 fun v14=>(y9 fun v15=>(y9 fun v16=>(y9 fun v17=>(y5 (y9 fun v18=>(y9 fun v19=>(y9 fun v20=>(y9 fun v21=>(y5 (y9 fun v22=>(y9 fun v23=>(by apply y0U n hn))) (by apply y0U n hn)))))) (by apply y0U n hn))))))) (y02 (y7 rfl))
def yGP (am:Bas) (ay:Cnd) (aj:List Int) (af:Int) (v1:Int) (b1_0_0:Bool) (ar:List Int):Option ((List Int×Option (List Int)×Bool×Unit)⊕(Bool×List Int)) :=
  (bif af != (-1:Int) then (Option.bind (idx ar af) fun (v2:Int)=>(Option.bind (ar[af.toNat]?) fun (v3:Int)=>(Option.bind (idx ar af) fun (v4:Int)=>(Option.bind (ar[af.toNat]?) fun (v5:Int)=>(bif b1_0_0 then (Option.bind (idx (ar.set af.toNat (IntKind.i64.wrap (v3 + v1))) af) fun (v6:Int)=>(Option.bind ((ar.set af.toNat (IntKind.i64.wrap (v3 + v1)))[af.toNat]?) fun (v7:Int)=>(some (Sum.inr ((decide (v7≤100000000)),(ar.set af.toNat (IntKind.i64.wrap (v3 + v1)))))))) else (some (Sum.inr ((Bool.false),(ar.set af.toNat (IntKind.i64.wrap (v3 + v1))))))))))) else (some (Sum.inr ((b1_0_0),(ar)))))
def yDA (am:Bas) (ay:Cnd) (aj:List Int) (b1_0_0:Bool) (ar:List Int):Option (List Int×Option (List Int)×Bool×Unit) :=
  (bif decide (List.length (am.2.1) < lenMax) then yK (fun i__ e__ s__=>y9U (am) (ay) (z0S.1) (am.2.1) i__ e__ s__.1 s__.2.1 s__.2.2) (fun s__=>yF2 (am) (ay) (z0S.1) (am.2.1) s__.1 s__.2.1 s__.2.2) 0 (am.2.1) ((b1_0_0),([]),(ar)) else none)
theorem yG3 (n:Nat) (hn:big≤n)  (am:Bas) (ay:Cnd) (aj:List Int) (b1_0_0:Bool) (ar:List Int) (hx:List.length (aj) < lenMax):LeF some (yK (fun i__ e__ s__=>yGP am ay aj i__ e__ s__.1 s__.2) (fun s__=>yDA am ay aj s__.1 s__.2) 0 (aj) (b1_0_0,ar)) (yAd n n am ay aj (List.length (aj):Int) 0 b1_0_0 ar) := by
  refine yN (f := some) (W := fun k__ i__ s__=>yAd n k__ am ay aj (List.length (aj):Int) i__ s__.1 s__.2) (body := (fun i__ e__ s__=>yGP am ay aj i__ e__ s__.1 s__.2)) (fin := (fun s__=>yDA am ay aj s__.1 s__.2)) (fun k__ i__ s__=>?_) hx (b1_0_0,ar) n (by unfold big at hn; unfold lenMax at hx; omega)
  show LeF _ _ (yHO n (yAd n k__) am ay aj (List.length (aj):Int) i__ s__.1 s__.2)
  exact y5 (y9 fun v1=>(y5 (y9 fun v2=>(y9 fun v3=>(y9 fun v4=>(y9 fun v5=>(y5 (y9 fun v6=>(y9 fun v7=>(y7 rfl))) (y7 rfl)))))) (y7 rfl))) (y02 (yL fun hx=>by apply yDQ n hn; exact hx))
def zi_M (b:Bas) (v:List Int) (c:Cnd):Option (List Int×Option (List Int)×Bool×Unit) :=
  (bif Bool.true && decide ((0:Int)≤(↑v.length:Int)) && decide ((↑v.length:Int)≤(↑memMax:Int)) && (↑v.length:Int)==(↑v.length:Int) then (bif decide (List.length (c.2.2.1) < lenMax) then yK (fun i__ e__ s__=>yGP (b) (c) (c.2.2.1) i__ e__ s__.1 s__.2) (fun s__=>yDA (b) (c) (c.2.2.1) s__.1 s__.2) 0 (c.2.2.1) ((Bool.true),(List.take (List.replicate (↑v.length:Int).toNat (0:Int)).length v ++ List.drop v.length (List.replicate (↑v.length:Int).toNat (0:Int)))) else none) else none)
theorem yQa (b:Bas) (v:List Int) (c:Cnd) (y:List Int×Option (List Int)×Bool×Unit) (h:zi_M b v c = some y) : ∃ n,zi_m n b v c = some y :=
  ⟨big,LeF.top (show LeF some (zi_M b v c) (zi_m big b v c) from (fun (n:Nat) (hn:big≤n)=>show LeF some (zi_M b v c) (zi_m n b v c) from (y5 (yL fun hx=>by apply yG3 n hn; exact hx) yp)) big (Nat.le_refl _)) h⟩
def zi_e:Entry := { f := 92,args := zi_a,ress := zi_r,m := fun x=>zi_M x.1 x.2.1 x.2.2.1 }
theorem yRl:FnOK Tryz.prog zi_e := yT (g := zi_g) (fn := Tryz.f92) yH yS (yE yMM (yE yUA eNil)) (by kernel_rfl) (by kernel_rfl) (by kernel_rfl) (fun x y h=>let ⟨n,hn⟩ := yQa x.1 x.2.1 x.2.2.1 y h; ⟨yRk n,(y6p yLf iNil),(yVA n x).trans hn⟩)
def il150:Inl := { f := 150,fn := Tryz.f150,keep := [],muts := [],fz := [] }
theorem yKI:y3Z Tryz.prog il150 := ⟨by kernel_rfl,by kernel_rfl,fun e0 h=>by cases (show (none:Option LibK) = some e0 from h)⟩
abbrev zk_a:Ty := .pair t163 (.pair t3 .unit)
abbrev zk_r:Ty := .pair t35 .unit
def zk_g:G := { T := T,E := [z0S_e,z0e_e,z0E_e,z0Q_e],muts := [],fz := [] }
def zk_k:List (List Nat) := []
def yP7 (n:Nat):Ann := { keep := zk_k,fuel := n,inl := [il150],deep := 3 }
def y18 (n:Nat) (l:Lnk) (nodes:Int) (j5:Bool):Option (Int×Unit) :=
  (bif !j5 then some ((10:Int),()) else (bif ((yZ Ty.str ((Ty.arr (2:Nat) Ty.bool).pair (((((Ty.str.pair ((Ty.int IntKind.i64).pair ((Ty.int IntKind.i64).pair ((Ty.int IntKind.i64).pair ((Ty.int IntKind.i64).pair Ty.unit))))).pair ((Ty.int IntKind.i64).pair ((Ty.int IntKind.i64).pair ((Ty.int IntKind.i64).pair (Ty.bool.pair Ty.unit))))).pair Ty.unit).func ((Ty.int IntKind.i64).pair Ty.unit)).pair Ty.unit)) z0S.1 l.1).getD ([Bool.false,Bool.false],fun (x:(Lnk×Int×Int×Int×Bool×Unit)×Unit)=>Option.none,())).1.getD (nat_lit 1) Bool.false then (bif l.2.2.1==(-1:Int) then (bif eqV (Ty.arr (2:Nat) Ty.bool) [((yZ Ty.str ((Ty.arr (2:Nat) Ty.bool).pair (((((Ty.str.pair ((Ty.int IntKind.i64).pair ((Ty.int IntKind.i64).pair ((Ty.int IntKind.i64).pair ((Ty.int IntKind.i64).pair Ty.unit))))).pair ((Ty.int IntKind.i64).pair ((Ty.int IntKind.i64).pair ((Ty.int IntKind.i64).pair (Ty.bool.pair Ty.unit))))).pair Ty.unit).func ((Ty.int IntKind.i64).pair Ty.unit)).pair Ty.unit)) z0S.1 l.1).getD ([Bool.false,Bool.false],fun (x:(Lnk×Int×Int×Int×Bool×Unit)×Unit)=>Option.none,())).1.getD (nat_lit 0) Bool.false,((yZ Ty.str ((Ty.arr (2:Nat) Ty.bool).pair (((((Ty.str.pair ((Ty.int IntKind.i64).pair ((Ty.int IntKind.i64).pair ((Ty.int IntKind.i64).pair ((Ty.int IntKind.i64).pair Ty.unit))))).pair ((Ty.int IntKind.i64).pair ((Ty.int IntKind.i64).pair ((Ty.int IntKind.i64).pair (Ty.bool.pair Ty.unit))))).pair Ty.unit).func ((Ty.int IntKind.i64).pair Ty.unit)).pair Ty.unit)) z0S.1 l.1).getD ([Bool.false,Bool.false],fun (x:(Lnk×Int×Int×Int×Bool×Unit)×Unit)=>Option.none,())).1.getD (nat_lit 1) Bool.false] [Bool.true,Bool.false] then (Option.bind (y0c [(z0e (l.2.1==l.2.2.1) (17:Int)).1,(z0E l.2.2.2.1 (0:Int) (0:Int)).1,(z0E l.2.2.2.2.1 (1:Int) (1000:Int)).1]) fun (v27:Int×Unit)=>some (v27.1,())) else (Option.bind (y0c [(z0e (l.2.1==l.2.2.1) (17:Int)).1,(z0E l.2.2.2.1 (0:Int) (1024:Int)).1,(z0E l.2.2.2.2.1 (1:Int) (1000:Int)).1]) fun (v28:Int×Unit)=>some (v28.1,()))) else (bif !((yZ Ty.str ((Ty.arr (2:Nat) Ty.bool).pair (((((Ty.str.pair ((Ty.int IntKind.i64).pair ((Ty.int IntKind.i64).pair ((Ty.int IntKind.i64).pair ((Ty.int IntKind.i64).pair Ty.unit))))).pair ((Ty.int IntKind.i64).pair ((Ty.int IntKind.i64).pair ((Ty.int IntKind.i64).pair (Ty.bool.pair Ty.unit))))).pair Ty.unit).func ((Ty.int IntKind.i64).pair Ty.unit)).pair Ty.unit)) z0S.1 l.1).getD ([Bool.false,Bool.false],fun (x:(Lnk×Int×Int×Int×Bool×Unit)×Unit)=>Option.none,())).1.getD (nat_lit 1) Bool.false then (bif decide (l.2.2.1 ≥ 0) then (bif !decide (l.2.2.1 < nodes) then some ((10:Int),()) else (bif eqV (Ty.arr (2:Nat) Ty.bool) [((yZ Ty.str ((Ty.arr (2:Nat) Ty.bool).pair (((((Ty.str.pair ((Ty.int IntKind.i64).pair ((Ty.int IntKind.i64).pair ((Ty.int IntKind.i64).pair ((Ty.int IntKind.i64).pair Ty.unit))))).pair ((Ty.int IntKind.i64).pair ((Ty.int IntKind.i64).pair ((Ty.int IntKind.i64).pair (Ty.bool.pair Ty.unit))))).pair Ty.unit).func ((Ty.int IntKind.i64).pair Ty.unit)).pair Ty.unit)) z0S.1 l.1).getD ([Bool.false,Bool.false],fun (x:(Lnk×Int×Int×Int×Bool×Unit)×Unit)=>Option.none,())).1.getD (nat_lit 0) Bool.false,((yZ Ty.str ((Ty.arr (2:Nat) Ty.bool).pair (((((Ty.str.pair ((Ty.int IntKind.i64).pair ((Ty.int IntKind.i64).pair ((Ty.int IntKind.i64).pair ((Ty.int IntKind.i64).pair Ty.unit))))).pair ((Ty.int IntKind.i64).pair ((Ty.int IntKind.i64).pair ((Ty.int IntKind.i64).pair (Ty.bool.pair Ty.unit))))).pair Ty.unit).func ((Ty.int IntKind.i64).pair Ty.unit)).pair Ty.unit)) z0S.1 l.1).getD ([Bool.false,Bool.false],fun (x:(Lnk×Int×Int×Int×Bool×Unit)×Unit)=>Option.none,())).1.getD (nat_lit 1) Bool.false] [Bool.true,Bool.false] then (Option.bind (y0c [(z0e (l.2.1==l.2.2.1) (17:Int)).1,(z0E l.2.2.2.1 (0:Int) (0:Int)).1,(z0E l.2.2.2.2.1 (1:Int) (1000:Int)).1]) fun (v30:Int×Unit)=>some (v30.1,())) else (Option.bind (y0c [(z0e (l.2.1==l.2.2.1) (17:Int)).1,(z0E l.2.2.2.1 (0:Int) (1024:Int)).1,(z0E l.2.2.2.2.1 (1:Int) (1000:Int)).1]) fun (v31:Int×Unit)=>some (v31.1,())))) else some ((10:Int),())) else some ((10:Int),()))) else (bif !((yZ Ty.str ((Ty.arr (2:Nat) Ty.bool).pair (((((Ty.str.pair ((Ty.int IntKind.i64).pair ((Ty.int IntKind.i64).pair ((Ty.int IntKind.i64).pair ((Ty.int IntKind.i64).pair Ty.unit))))).pair ((Ty.int IntKind.i64).pair ((Ty.int IntKind.i64).pair ((Ty.int IntKind.i64).pair (Ty.bool.pair Ty.unit))))).pair Ty.unit).func ((Ty.int IntKind.i64).pair Ty.unit)).pair Ty.unit)) z0S.1 l.1).getD ([Bool.false,Bool.false],fun (x:(Lnk×Int×Int×Int×Bool×Unit)×Unit)=>Option.none,())).1.getD (nat_lit 1) Bool.false then (bif decide (l.2.2.1 ≥ 0) then (bif !decide (l.2.2.1 < nodes) then some ((10:Int),()) else (bif eqV (Ty.arr (2:Nat) Ty.bool) [((yZ Ty.str ((Ty.arr (2:Nat) Ty.bool).pair (((((Ty.str.pair ((Ty.int IntKind.i64).pair ((Ty.int IntKind.i64).pair ((Ty.int IntKind.i64).pair ((Ty.int IntKind.i64).pair Ty.unit))))).pair ((Ty.int IntKind.i64).pair ((Ty.int IntKind.i64).pair ((Ty.int IntKind.i64).pair (Ty.bool.pair Ty.unit))))).pair Ty.unit).func ((Ty.int IntKind.i64).pair Ty.unit)).pair Ty.unit)) z0S.1 l.1).getD ([Bool.false,Bool.false],fun (x:(Lnk×Int×Int×Int×Bool×Unit)×Unit)=>Option.none,())).1.getD (nat_lit 0) Bool.false,((yZ Ty.str ((Ty.arr (2:Nat) Ty.bool).pair (((((Ty.str.pair ((Ty.int IntKind.i64).pair ((Ty.int IntKind.i64).pair ((Ty.int IntKind.i64).pair ((Ty.int IntKind.i64).pair Ty.unit))))).pair ((Ty.int IntKind.i64).pair ((Ty.int IntKind.i64).pair ((Ty.int IntKind.i64).pair (Ty.bool.pair Ty.unit))))).pair Ty.unit).func ((Ty.int IntKind.i64).pair Ty.unit)).pair Ty.unit)) z0S.1 l.1).getD ([Bool.false,Bool.false],fun (x:(Lnk×Int×Int×Int×Bool×Unit)×Unit)=>Option.none,())).1.getD (nat_lit 1) Bool.false] [Bool.true,Bool.false] then (Option.bind (y0c [(z0e (l.2.1==l.2.2.1) (17:Int)).1,(z0E l.2.2.2.1 (0:Int) (0:Int)).1,(z0E l.2.2.2.2.1 (1:Int) (1000:Int)).1]) fun (v33:Int×Unit)=>some (v33.1,())) else (Option.bind (y0c [(z0e (l.2.1==l.2.2.1) (17:Int)).1,(z0E l.2.2.2.1 (0:Int) (1024:Int)).1,(z0E l.2.2.2.2.1 (1:Int) (1000:Int)).1]) fun (v34:Int×Unit)=>some (v34.1,())))) else some ((10:Int),())) else some ((10:Int),()))))
def zk_m (n:Nat) (l:Lnk) (nodes:Int):Option (Int×Unit) :=
  (bif !(yZ Ty.str ((Ty.arr (2:Nat) Ty.bool).pair (((((Ty.str.pair ((Ty.int IntKind.i64).pair ((Ty.int IntKind.i64).pair ((Ty.int IntKind.i64).pair ((Ty.int IntKind.i64).pair Ty.unit))))).pair ((Ty.int IntKind.i64).pair ((Ty.int IntKind.i64).pair ((Ty.int IntKind.i64).pair (Ty.bool.pair Ty.unit))))).pair Ty.unit).func ((Ty.int IntKind.i64).pair Ty.unit)).pair Ty.unit)) z0S.1 l.1).isSome then some ((13:Int),()) else (bif ((yZ Ty.str ((Ty.arr (2:Nat) Ty.bool).pair (((((Ty.str.pair ((Ty.int IntKind.i64).pair ((Ty.int IntKind.i64).pair ((Ty.int IntKind.i64).pair ((Ty.int IntKind.i64).pair Ty.unit))))).pair ((Ty.int IntKind.i64).pair ((Ty.int IntKind.i64).pair ((Ty.int IntKind.i64).pair (Ty.bool.pair Ty.unit))))).pair Ty.unit).func ((Ty.int IntKind.i64).pair Ty.unit)).pair Ty.unit)) z0S.1 l.1).getD ([Bool.false,Bool.false],fun (x:(Lnk×Int×Int×Int×Bool×Unit)×Unit)=>Option.none,())).1.getD (nat_lit 0) Bool.false then (bif l.2.1==(-1:Int) then (y18 n l nodes (Bool.true)) else (bif !((yZ Ty.str ((Ty.arr (2:Nat) Ty.bool).pair (((((Ty.str.pair ((Ty.int IntKind.i64).pair ((Ty.int IntKind.i64).pair ((Ty.int IntKind.i64).pair ((Ty.int IntKind.i64).pair Ty.unit))))).pair ((Ty.int IntKind.i64).pair ((Ty.int IntKind.i64).pair ((Ty.int IntKind.i64).pair (Ty.bool.pair Ty.unit))))).pair Ty.unit).func ((Ty.int IntKind.i64).pair Ty.unit)).pair Ty.unit)) z0S.1 l.1).getD ([Bool.false,Bool.false],fun (x:(Lnk×Int×Int×Int×Bool×Unit)×Unit)=>Option.none,())).1.getD (nat_lit 0) Bool.false then (bif decide (l.2.1 ≥ 0) then (y18 n l nodes (decide (l.2.1 < nodes))) else (y18 n l nodes (Bool.false))) else (y18 n l nodes (Bool.false)))) else (bif !((yZ Ty.str ((Ty.arr (2:Nat) Ty.bool).pair (((((Ty.str.pair ((Ty.int IntKind.i64).pair ((Ty.int IntKind.i64).pair ((Ty.int IntKind.i64).pair ((Ty.int IntKind.i64).pair Ty.unit))))).pair ((Ty.int IntKind.i64).pair ((Ty.int IntKind.i64).pair ((Ty.int IntKind.i64).pair (Ty.bool.pair Ty.unit))))).pair Ty.unit).func ((Ty.int IntKind.i64).pair Ty.unit)).pair Ty.unit)) z0S.1 l.1).getD ([Bool.false,Bool.false],fun (x:(Lnk×Int×Int×Int×Bool×Unit)×Unit)=>Option.none,())).1.getD (nat_lit 0) Bool.false then (bif decide (l.2.1 ≥ 0) then (y18 n l nodes (decide (l.2.1 < nodes))) else (y18 n l nodes (Bool.false))) else (y18 n l nodes (Bool.false)))))
theorem yV3 (n:Nat) (x:zk_a.den):runF zk_g (yP7 n) Tryz.f103 zk_a zk_r x = zk_m n x.1 x.2.1 := by kernel_rfl
def zk_M (l:Lnk) (nodes:Int):Option (Int×Unit) := zk_m 0 l nodes
theorem yPm (l:Lnk) (nodes:Int) (y:Int×Unit) (h:zk_M l nodes = some y) : ∃ n,zk_m n l nodes = some y := ⟨0,h⟩
def zk_e:Entry := { f := 103,args := zk_a,ress := zk_r,m := fun x=>zk_M x.1 x.2.1 }
theorem yUQ:FnOK Tryz.prog zk_e := yT (g := zk_g) (fn := Tryz.f103) yH yS (yE yMM (yE y47 (yE y7T (yE y3u eNil)))) (by kernel_rfl) (by kernel_rfl) (by kernel_rfl) (fun x y h=>let ⟨n,hn⟩ := yPm x.1 x.2.1 y h; ⟨yP7 n,(y6p yKI iNil),(yV3 n x).trans hn⟩)
abbrev zc_a:Ty := .pair t104 .unit
abbrev zc_r:Ty := .pair t44 .unit
def zc_g:G := { T := T,E := [zb_e],muts := [],fz := [] }
def zc_k:List (List Nat) := []
def yPs (n:Nat):Ann := { keep := zc_k,fuel := n,inl := [],deep := 0 }
def zc_m (n:Nat) (r1:Rng):Option (Cnd×Unit) :=
  (Option.bind (zb_M r1 (1:Int)) fun (v0:Cnd×Unit)=>some ((v0.1.1,v0.1.2.1,v0.1.2.2.1,()),()))
theorem yUG (n:Nat) (x:zc_a.den):runF zc_g (yPs n) Tryz.f110 zc_a zc_r x = zc_m n x.1 := by kernel_rfl
def zc_M (r1:Rng):Option (Cnd×Unit) := zc_m 0 r1
theorem yRb (r1:Rng) (y:Cnd×Unit) (h:zc_M r1 = some y) : ∃ n,zc_m n r1 = some y := ⟨0,h⟩
def zc_e:Entry := { f := 110,args := zc_a,ress := zc_r,m := fun x=>zc_M x.1 }
theorem yPK:FnOK Tryz.prog zc_e := yT (g := zc_g) (fn := Tryz.f110) yH yS (yE ySH eNil) (by kernel_rfl) (by kernel_rfl) (by kernel_rfl) (fun x y h=>let ⟨n,hn⟩ := yRb x.1 y h; ⟨yPs n,iNil,(yUG n x).trans hn⟩)
abbrev ze_a:Ty := .pair t104 .unit
abbrev ze_r:Ty := .pair t44 .unit
def ze_g:G := { T := T,E := [zb_e],muts := [],fz := [] }
def ze_k:List (List Nat) := []
def yT3 (n:Nat):Ann := { keep := ze_k,fuel := n,inl := [],deep := 0 }
def ze_m (n:Nat) (r1:Rng):Option (Cnd×Unit) :=
  (Option.bind (zb_M r1 (0:Int)) fun (v0:Cnd×Unit)=>some ((v0.1.1,v0.1.2.1,v0.1.2.2.1,()),()))
theorem yUJ (n:Nat) (x:ze_a.den):runF ze_g (yT3 n) Tryz.f111 ze_a ze_r x = ze_m n x.1 := by kernel_rfl
def ze_M (r1:Rng):Option (Cnd×Unit) := ze_m 0 r1
theorem yRA (r1:Rng) (y:Cnd×Unit) (h:ze_M r1 = some y) : ∃ n,ze_m n r1 = some y := ⟨0,h⟩
def ze_e:Entry := { f := 111,args := ze_a,ress := ze_r,m := fun x=>ze_M x.1 }
theorem yVf:FnOK Tryz.prog ze_e := yT (g := ze_g) (fn := Tryz.f111) yH yS (yE ySH eNil) (by kernel_rfl) (by kernel_rfl) (by kernel_rfl) (fun x y h=>let ⟨n,hn⟩ := yRA x.1 y h; ⟨yT3 n,iNil,(yUJ n x).trans hn⟩)
abbrev zN_a:Ty := .pair t41 (.pair t104 .unit)
abbrev zN_r:Ty := .pair t35 .unit
def zN_g:G := { T := T,E := [zI_e,zS_e,zv_e,z0e_e,z8_e,z0Q_e],muts := [],fz := [] }
def zN_k:List (List Nat) := []
def ySv (n:Nat):Ann := { keep := zN_k,fuel := n,inl := [],deep := 0 }
def zN_m (n:Nat) (b:Bas) (r1:Rng):Option (Int×Unit) :=
  (Option.bind (zS_M r1.1 fun (x:Int×Unit)=>zv_M x.1) fun (v0:Int×Unit)=>(Option.bind (z8_M r1.2.2.1 fun (x:(Int×Int×Unit)×Unit)=>zI_M x.1) fun (v1:List Int×Unit)=>(Option.bind (y0c v1.1) fun (v2:Int×Unit)=>(Option.bind (y0c [v0.1,(z0e ((↑r1.2.2.1.length:Int) != (↑b.1.length:Int)) (2:Int)).1,v2.1]) fun (v3:Int×Unit)=>some (v3.1,())))))
theorem yUB (n:Nat) (x:zN_a.den):runF zN_g (ySv n) Tryz.f115 zN_a zN_r x = zN_m n x.1 x.2.1 := by kernel_rfl
def zN_M (b:Bas) (r1:Rng):Option (Int×Unit) := zN_m 0 b r1
theorem yRI (b:Bas) (r1:Rng) (y:Int×Unit) (h:zN_M b r1 = some y) : ∃ n,zN_m n b r1 = some y := ⟨0,h⟩
def zN_e:Entry := { f := 115,args := zN_a,ress := zN_r,m := fun x=>zN_M x.1 x.2.1 }
theorem yUr:FnOK Tryz.prog zN_e := yT (g := zN_g) (fn := Tryz.f115) yH yS (yE yUw (yE yNg (yE yTO (yE y47 (yE yPd (yE y3u eNil)))))) (by kernel_rfl) (by kernel_rfl) (by kernel_rfl) (fun x y h=>let ⟨n,hn⟩ := yRI x.1 x.2.1 y h; ⟨ySv n,iNil,(yUB n x).trans hn⟩)
end
end Go.Tw
end
