import Derived.Test.YtkfigfhjbejikaaGreatDoorBT
import Derived.Test.YtkfigfhjbejikaaGreatDoorB0
import Derived.Test.YtkfigfhjbejikaaGreatDoorBA
set_option linter.all false
section
set_option maxRecDepth 1000000
namespace Go.Tw
open Go.Vx Go.Vx.B Go.Proofs
noncomputable section
def yHI (n:Nat) (r0:List Int→Int→Option (Int×Unit)) (aH:List Int) (aI:Int):Option (Int×Unit) :=
  (bif decide (aI < (↑aH.length:Int)) then (Option.bind (idx aH aI) fun (v1:Int)=>(bif (zp v1 (0:Int) (100000000:Int)).1 != 0 then some ((zp v1 (0:Int) (100000000:Int)).1,()) else r0 aH (IntKind.i64.wrap (aI + 1)))) else some ((0:Int),()))
def yA7 (n:Nat)  (k:Nat) (aH:List Int) (aI:Int):Option (Int×Unit) :=
  iter (fun r y=>yHI n (fun aH aI=>r ((aH,(aI,())),((),()))) y.1.1 y.1.2.1) k ((aH,(aI,())),((),()))
def zf_m (n:Nat) (b:Bas) (v:List Int):Option (Int×Unit) :=
  (bif (↑v.length:Int) != (↑b.1.length:Int) then some ((2:Int),()) else (yA7 n n (v) ((0:Int))))
def yMO (aH:List Int) (aI:Int) (v1:Int):Option ((Int×Unit)⊕Unit) :=
  (bif (zp v1 (0:Int) (100000000:Int)).1 != 0 then (some (Sum.inl (((zp v1 (0:Int) (100000000:Int)).1,())))) else (some (Sum.inr ())))
def yPF (aH:List Int):Option (Int×Unit) :=
  (some (((0:Int),())))
theorem yFc (n:Nat) (hn:big≤n)  (aH:List Int) (hx:List.length (aH) < lenMax):LeF some (yK (fun am aL af=>yMO aH am aL) (fun af=>yPF aH) 0 (aH) ()) (yA7 n n aH 0) := by
  refine yT (f := some) (W := fun aK am af=>yA7 n aK aH am) (fun aK am af=>?_) hx () n (by unfold big at hn; unfold lenMax at hx; omega)
  show LeF _ _ (yHI n (yA7 n aK) aH am)
  exact y5 (y6 fun v1=>(y5 (y7 rfl) (y7 rfl))) (y0R (y7 rfl))
def zf_M (b:Bas) (v:List Int):Option (Int×Unit) :=
  (bif (↑v.length:Int) != (↑b.1.length:Int) then (some (((2:Int),()))) else (bif decide (List.length (v) < lenMax) then yK (fun am aL af=>yMO (v) am aL) (fun af=>yPF (v)) 0 (v) () else none))
abbrev zf_e:Entry := { f := 28,args := .pair t25 (.pair t26 .unit),rS := .pair t3 .unit,m := fun x=>zf_M x.1 x.2.1 }
theorem yQe:FnOK Tryz.prog zf_e := fB Tryz.f28 (fun n x=>zf_m n x.1 x.2.1) [[1,5]] (yC yM3 eNil) fun n hn x=>(y5 (y7 rfl) (yV fun hx=>by apply yFc n hn; exact hx))
def yJr (n:Nat) (r0:List (List Int)→List (List Int)→Int→Option (Bool×Unit)) (aS:List (List Int)) (aT:List (List Int)) (aI:Int):Option (Bool×Unit) :=
  (bif decide (aI < (↑aS.length:Int)) then (Option.bind (idx aS aI) fun (v1:List Int)=>(Option.bind (idx aT aI) fun (v2:List Int)=>(Option.bind (zz_M v1 v2) fun (v3:Bool×Unit)=>(bif !v3.1 then some (Bool.false,()) else r0 aS aT (IntKind.i64.wrap (aI + 1)))))) else some (Bool.true,()))
def yK4 (n:Nat)  (k:Nat) (aS:List (List Int)) (aT:List (List Int)) (aI:Int):Option (Bool×Unit) :=
  iter (fun r y=>yJr n (fun aS aT aI=>r ((aS,(aT,(aI,()))),((),()))) y.1.1 y.1.2.1 y.1.2.2.1) k ((aS,(aT,(aI,()))),((),()))
def yOp (n:Nat) (a:List (List Int)) (b:List (List Int)):Option (Bool×Unit) :=
  (bif (↑a.length:Int) != (↑b.length:Int) then some (Bool.false,()) else (yK4 n n (a) (b) ((0:Int))))
def yNO (a:List (List Int)) (b:List (List Int)):Option (Bool×Unit) := yOp 1000 a b
abbrev z00_e:Entry := { f := 47,args := .pair t56 (.pair t56 .unit),rS := .pair t4 .unit,m := fun x=>yNO x.1 x.2.1 }
theorem yOW:FnOK Tryz.prog z00_e := fF 1000 Tryz.f47 (fun n x=>yOp n x.1 x.2.1) [[0,1,5]] (yC yNq eNil)
def yMv (n:Nat) (n1:Int) (least:Int) (most:Int):Option (Int×Unit) :=
  (bif decide (n1 < least) then some ((z0f Bool.true (3:Int)).1,()) else some ((z0f (decide (n1 > most)) (3:Int)).1,()))
def z0D (n1:Int) (least:Int) (most:Int):(Int×Unit) :=
  (bif decide (n1 < least) then ((z0f Bool.true (3:Int)).1,()) else ((z0f (decide (n1 > most)) (3:Int)).1,()))
abbrev yQA (n1:Int) (least:Int) (most:Int):Option (Int×Unit) := some (z0D n1 least most)
abbrev z0D_e:Entry := { f := 90,args := .pair t3 (.pair t3 (.pair t3 .unit)),rS := .pair t35 .unit,m := fun x=>yQA x.1 x.2.1 x.2.2.1 }
theorem y7I:FnOK Tryz.prog z0D_e := fF (hm := by intro x; show some (z0D x.1 x.2.1 x.2.2.1) = yMv 0 x.1 x.2.1 x.2.2.1; unfold yMv z0D; first | rfl | simp only [yo]) 0 Tryz.f90 (fun n x=>yMv n x.1 x.2.1 x.2.2.1) [] (yC y3z eNil)
def yGY (n:Nat) (r0:List Nod→Int→Option (Int×Unit)) (r3:List Nod→Int→Int→Option (Int×Unit)) (ay:List Nod) (ax:Int) (aQ:Int):Option (Int×Unit) :=
  (bif decide (aQ < ax) then (Option.bind (idx ay aQ) fun (v4:Nod)=>(Option.bind (idx ay ax) fun (v5:Nod)=>(bif v4.1==v5.1 then some ((9:Int),()) else r3 ay ax (IntKind.i64.wrap (aQ + 1))))) else (Option.bind (idx ay ax) fun (v6:Nod)=>(Option.bind (idx ay ax) fun (v7:Nod)=>(Option.bind (yBX [(zp v6.2.1 (1:Int) (1000:Int)).1,(zp v7.2.2.1 (0:Int) (1024:Int)).1]) fun (v8:Int×Unit)=>(bif v8.1 != 0 then some (v8.1,()) else r0 ay (IntKind.i64.wrap (ax + 1)))))))
def yAk (n:Nat) (r0:List Nod→Int→Option (Int×Unit)) (k:Nat) (ay:List Nod) (ax:Int) (aQ:Int):Option (Int×Unit) :=
  iter (fun r y=>yGY n r0 (fun ay ax aQ=>r ((ay,(ax,(aQ,()))),((),()))) y.1.1 y.1.2.1 y.1.2.2.1) k ((ay,(ax,(aQ,()))),((),()))
def yGx (n:Nat) (r0:List Nod→Int→Option (Int×Unit)) (aD:List Nod) (aN:Int):Option (Int×Unit) :=
  (bif decide (aN < (↑aD.length:Int)) then (Option.bind (idx aD aN) fun (v1:Nod)=>(Option.bind (yIG v1.1) fun (v2:Bool×Unit)=>(bif !v2.1 then some ((8:Int),()) else (yAk n r0 n (aD) (aN) ((0:Int)))))) else some ((0:Int),()))
def yAZ (n:Nat)  (k:Nat) (aD:List Nod) (aN:Int):Option (Int×Unit) :=
  iter (fun r y=>yGx n (fun aD aN=>r ((aD,(aN,())),((),()))) y.1.1 y.1.2.1) k ((aD,(aN,())),((),()))
def zr_m (n:Nat) (l:List Nod):Option (Int×Unit) :=
  (bif (↑l.length:Int)==0 then some ((12:Int),()) else (bif decide ((↑l.length:Int) > 8) then some ((5:Int),()) else (yAZ n n (l) ((0:Int)))))
def yFx (ay:List Nod) (ax:Int) (aQ:Int):Option (((Int×Unit)⊕Unit)⊕Unit) :=
  (Option.bind (idx ay aQ) fun (v4:Nod)=>(Option.bind (idx ay ax) fun (v5:Nod)=>(bif v4.1==v5.1 then (some (Sum.inl (Sum.inl (((9:Int),()))))) else (some (Sum.inr ())))))
def yI7 (ay:List Nod) (ax:Int):Option ((Int×Unit)⊕Unit) :=
  (Option.bind (idx ay ax) fun (v6:Nod)=>(Option.bind (idx ay ax) fun (v7:Nod)=>(Option.bind (yBX [(zp v6.2.1 (1:Int) (1000:Int)).1,(zp v7.2.2.1 (0:Int) (1024:Int)).1]) fun (v8:Int×Unit)=>(bif v8.1 != 0 then (some (Sum.inl ((v8.1,())))) else (some (Sum.inr ()))))))
theorem yF8 (n:Nat) (hn:big≤n)  (r0:List Nod→Int→Option (Int×Unit)) (ay:List Nod) (ax:Int) (hx:(ax)≤9223372036854775807):LeF (elim some fun (af:Unit)=>r0 ay (IntKind.i64.wrap (ax + 1))) (y1R (fun am af=>yFx ay ax am) (fun af=>yI7 ay ax) ((ax) - 0).toNat 0 ()) (yAk n r0 n ay ax 0) := by
  refine y4G (f := (elim some fun (af:Unit)=>r0 ay (IntKind.i64.wrap (ax + 1)))) (W := fun aK am af=>yAk n r0 aK ay ax am) (body := (fun am af=>yFx ay ax am)) (fin := (fun af=>yI7 ay ax)) (fun aK am af=>?_) hx () n 0 (by decide) (by unfold big at hn; omega)
  show LeF _ _ (yGY n r0 (yAk n r0 aK) ay ax am)
  exact y5 (y6 fun v4=>(y6 fun v5=>(y5 (y7 rfl) (y7 rfl)))) (y0R (y6 fun v6=>(y6 fun v7=>(y6 fun v8=>(y5 (y7 rfl) (y7 rfl))))))
def yIC (aD:List Nod) (aN:Int) (v1:Nod):Option ((Int×Unit)⊕Unit) :=
  (Option.bind (yIG v1.1) fun (v2:Bool×Unit)=>(bif !v2.1 then (some (Sum.inl (((8:Int),())))) else (bif decide ((aN)≤9223372036854775807) then y1R (fun am af=>yFx (aD) (aN) am) (fun af=>yI7 (aD) (aN)) ((aN) - 0).toNat 0 () else none)))
def yMf (aD:List Nod):Option (Int×Unit) :=
  (some (((0:Int),())))
theorem yFm (n:Nat) (hn:big≤n)  (aD:List Nod) (hx:List.length (aD) < lenMax):LeF some (yK (fun am aL af=>yIC aD am aL) (fun af=>yMf aD) 0 (aD) ()) (yAZ n n aD 0) := by
  refine yT (f := some) (W := fun aK am af=>yAZ n aK aD am) (fun aK am af=>?_) hx () n (by unfold big at hn; unfold lenMax at hx; omega)
  show LeF _ _ (yGx n (yAZ n aK) aD am)
  exact y5 (y6 fun v1=>(y6 fun v2=>(y5 (y7 rfl) (yV fun hx=>by apply yF8 n hn; exact hx)))) (y0R (y7 rfl))
def zr_M (l:List Nod):Option (Int×Unit) :=
  (bif (↑l.length:Int)==0 then (some (((12:Int),()))) else (bif decide ((↑l.length:Int) > 8) then (some (((5:Int),()))) else (bif decide (List.length (l) < lenMax) then yK (fun am aL af=>yIC (l) am aL) (fun af=>yMf (l)) 0 (l) () else none)))
abbrev zr_e:Entry := { f := 94,args := .pair t22 .unit,rS := .pair t3 .unit,m := fun x=>zr_M x.1 }
theorem yQ6:FnOK Tryz.prog zr_e := fB Tryz.f94 (fun n x=>zr_m n x.1) [[0,3],[0,3,4]] (yC yNv (yC yM3 (yC yKj eNil))) fun n hn x=>(y5 (y7 rfl) (y5 (y7 rfl) (yV fun hx=>by apply yFm n hn; exact hx)))
def zy_m (n:Nat) (x1:Lnk) (nodes:Int):Option (Int×Unit) :=
  (Option.bind (yKS z0Z.1 x1.1) fun (v0:Bool×Unit)=>(bif !v0.1 then some ((13:Int),()) else (bif !(z0k x1.2.1 nodes (z0n x1.1).1).1 then some ((10:Int),()) else (bif !(z0k x1.2.2.1 nodes (z0n x1.1).2.1).1 then some ((10:Int),()) else (bif x1.2.1==x1.2.2.1 then some ((17:Int),()) else (bif (z0n x1.1).1 then (Option.bind (yBX [(zp x1.2.2.2.1 (0:Int) (0:Int)).1,(zp x1.2.2.2.2.1 (1:Int) (1000:Int)).1]) fun (v4:Int×Unit)=>some (v4.1,())) else (Option.bind (yBX [(zp x1.2.2.2.1 (0:Int) (1024:Int)).1,(zp x1.2.2.2.2.1 (1:Int) (1000:Int)).1]) fun (v5:Int×Unit)=>some (v5.1,()))))))))
def zy_M (x1:Lnk) (nodes:Int):Option (Int×Unit) := zy_m 0 x1 nodes
abbrev zy_e:Entry := { f := 95,args := .pair t83 (.pair t3 .unit),rS := .pair t3 .unit,m := fun x=>zy_M x.1 x.2.1 }
theorem yQU:FnOK Tryz.prog zy_e := fF 0 Tryz.f95 (fun n x=>zy_m n x.1 x.2.1) [] (yC yOG (yC yOV (yC yNJ (yC yOT (yC yM3 (yC yKj eNil))))))
def yND (n:Nat) (l:List Psg):Option (List (List Int)×Unit) :=
  (Option.bind (zC_M l fun (x:Psg×Unit)=>zw_M x.1) fun (v0:List (List Int)×Unit)=>some (v0.1,()))
def yPU (l:List Psg):Option (List (List Int)×Unit) := yND 0 l
abbrev z09_e:Entry := { f := 97,args := .pair t167 .unit,rS := .pair t56 .unit,m := fun x=>yPU x.1 }
theorem yOD:FnOK Tryz.prog z09_e := fF 0 Tryz.f97 (fun n x=>yND n x.1) [] (yC yQF (yC yQK eNil))
def yGP (n:Nat) (r0:List Nod→Int→Int→List Int→Option (List Int×Unit)) (av:List Nod) (aP:Int) (aw:Int) (aB:List Int):Option (List Int×Unit) :=
  (bif decide (aw < aP) then (Option.bind (idx av aw) fun (v1:Nod)=>(Option.bind (idx aB aw) fun (v2:Int)=>(Option.bind (aB[aw.toNat]?) fun (v3:Int)=>(Option.bind (zl_M (v1.1,v1.2.1,v1.2.2.1,()) v3) fun (v4:Int×Unit)=>(Option.bind (idx aB aw) fun (v5:Int)=>(Option.bind (aB[aw.toNat]?) fun (v6:Int)=>r0 av aP (IntKind.i64.wrap (aw + 1)) (aB.set aw.toNat v4.1))))))) else some (aB,()))
def yAc (n:Nat)  (k:Nat) (av:List Nod) (aP:Int) (aw:Int) (aB:List Int):Option (List Int×Unit) :=
  iter (fun r y=>yGP n (fun av aP aw aB=>r ((av,(aP,(aw,()))),((aB,()),()))) y.1.1 y.1.2.1 y.1.2.2.1 y.2.1.1) k ((av,(aP,(aw,()))),((aB,()),()))
def zV_m (n:Nat) (b:Bas) (v:List Int):Option (List Int×Unit) :=
  (bif Bool.true && decide ((0:Int)≤(↑v.length:Int)) && decide ((↑v.length:Int)≤(↑memMax:Int)) && (↑v.length:Int)==(↑v.length:Int) then (yAc n n (b.1) ((↑b.1.length:Int)) ((0:Int)) (List.take (List.replicate (↑v.length:Int).toNat (0:Int)).length v ++ List.drop v.length (List.replicate (↑v.length:Int).toNat (0:Int)))) else none)
def yHM (av:List Nod) (aw:Int) (v1:Nod) (aB:List Int):Option ((List Int×Unit)⊕(List Int)) :=
  (Option.bind (idx aB aw) fun (v2:Int)=>(Option.bind (aB[aw.toNat]?) fun (v3:Int)=>(Option.bind (zl_M (v1.1,v1.2.1,v1.2.2.1,()) v3) fun (v4:Int×Unit)=>(Option.bind (idx aB aw) fun (v5:Int)=>(Option.bind (aB[aw.toNat]?) fun (v6:Int)=>(some (Sum.inr (aB.set aw.toNat v4.1))))))))
def yJv (av:List Nod) (aB:List Int):Option (List Int×Unit) :=
  (some ((aB,())))
theorem yF5 (n:Nat) (hn:big≤n)  (av:List Nod) (aB:List Int) (hx:List.length (av) < lenMax):LeF some (yK (fun am aL af=>yHM av am aL af) (fun af=>yJv av af) 0 (av) aB) (yAc n n av (List.length (av):Int) 0 aB) := by
  refine yT (f := some) (W := fun aK am af=>yAc n aK av (List.length (av):Int) am af) (fun aK am af=>?_) hx aB n (by unfold big at hn; unfold lenMax at hx; omega)
  show LeF _ _ (yGP n (yAc n aK) av (List.length (av):Int) am af)
  exact y5 (y6 fun v1=>(y6 fun v2=>(y6 fun v3=>(y6 fun v4=>(y6 fun v5=>(y6 fun v6=>(y7 rfl))))))) (y0R (y7 rfl))
def zV_M (b:Bas) (v:List Int):Option (List Int×Unit) :=
  (bif Bool.true && decide ((0:Int)≤(↑v.length:Int)) && decide ((↑v.length:Int)≤(↑memMax:Int)) && (↑v.length:Int)==(↑v.length:Int) then (bif decide (List.length (b.1) < lenMax) then yK (fun am aL af=>yHM (b.1) am aL af) (fun af=>yJv (b.1) af) 0 (b.1) (List.take (List.replicate (↑v.length:Int).toNat (0:Int)).length v ++ List.drop v.length (List.replicate (↑v.length:Int).toNat (0:Int))) else none) else none)
abbrev zV_e:Entry := { f := 98,args := .pair t41 (.pair t26 .unit),rS := .pair t26 .unit,m := fun x=>zV_M x.1 x.2.1 }
theorem yOF:FnOK Tryz.prog zV_e := fB Tryz.f98 (fun n x=>zV_m n x.1 x.2.1) [[5,15,16,17]] (yC yOc eNil) fun n hn x=>(y5 (yV fun hx=>by apply yF5 n hn; exact hx) yL)
def zR_m (n:Nat) (x1:Int×Int×Unit) (check:Int×Unit→Option (Int×Unit)):Option (Int×Unit) :=
  (Option.bind (check (x1.1,())) fun (v0:Int×Unit)=>(Option.bind (check (x1.2.1,())) fun (v1:Int×Unit)=>(Option.bind (y0n [v0.1,v1.1,(z0f (decide (x1.1 > x1.2.1)) (11:Int)).1]) fun (v2:Int×Unit)=>some (v2.1,()))))
def zR_M (x1:Int×Int×Unit) (check:Int×Unit→Option (Int×Unit)):Option (Int×Unit) := zR_m 0 x1 check
abbrev zR_e:Entry := { f := 158,args := .pair t96 (.pair t176 .unit),rS := .pair t35 .unit,m := fun x=>zR_M x.1 x.2.1 }
theorem yMA:FnOK Tryz.prog zR_e := fF 0 Tryz.f158 (fun n x=>zR_m n x.1 x.2.1) [] (yC y3z (yC y40 eNil))
def yOM (n:Nat) (x1:Int×Int×Unit) (p1:Int):Option (Int×Unit) :=
  (Option.bind (idx (z0e x1).1 p1) fun (v0:Int)=>some (v0,()))
def yOb (x1:Int×Int×Unit) (p1:Int):Option (Int×Unit) := yOM 0 x1 p1
abbrev z0R_e:Entry := { f := 165,args := .pair t96 (.pair (.ref t3) .unit),rS := .pair t3 .unit,m := fun x=>yOb x.1 x.2.1 }
theorem yOw:FnOK Tryz.prog z0R_e := fF 0 Tryz.f165 (fun n x=>yOM n x.1 x.2.1) [] (yC yKn eNil)
def zT_m (n:Nat) (p:Lnk×Int×Int×Int×Bool×Unit):Option (Int×Unit) :=
  (Option.bind (yM7 (IntKind.i64.wrap (IntKind.i64.wrap (p.2.2.1 * p.2.2.2.1) - p.2.1)) p.1.2.2.2.2.1) fun (v0:Int×Unit)=>some (v0.1,()))
def zT_M (p:Lnk×Int×Int×Int×Bool×Unit):Option (Int×Unit) := zT_m 0 p
abbrev zT_e:Entry := { f := 180,args := .pair t230 .unit,rS := .pair t3 .unit,m := fun x=>zT_M x.1 }
theorem yPH:FnOK Tryz.prog zT_e := fF 0 Tryz.f180 (fun n x=>zT_m n x.1) [] (yC yLG eNil)
def zm_m (n:Nat) (p:Lnk×Int×Int×Int×Bool×Unit) (level:Int):Option (Int×Unit) :=
  (Option.bind (yM7 (IntKind.i64.wrap (p.2.1 - IntKind.i64.wrap (p.2.2.1 * level))) p.1.2.2.2.2.1) fun (v0:Int×Unit)=>some (if Bool.true = Bool.true then if v0.1 > 0 then v0.1 else (0:Int) else if v0.1 < 0 then v0.1 else (0:Int),()))
def zm_M (p:Lnk×Int×Int×Int×Bool×Unit) (level:Int):Option (Int×Unit) := zm_m 0 p level
abbrev zm_e:Entry := { f := 182,args := .pair t230 (.pair t3 .unit),rS := .pair t3 .unit,m := fun x=>zm_M x.1 x.2.1 }
theorem yOe:FnOK Tryz.prog zm_e := fF 0 Tryz.f182 (fun n x=>zm_m n x.1 x.2.1) [] (yC yLG eNil)
end
end Go.Tw
end
section
set_option maxRecDepth 1000000
namespace Go.Tw
open Go.Vx Go.Vx.B Go.Proofs
noncomputable section
def yHX (n:Nat) (r1:Bas→Int→Option (Int×Unit)) (aE:Bas) (aR:Int):Option (Int×Unit) :=
  (bif decide (aR < (↑aE.2.1.length:Int)) then (Option.bind (idx aE.2.1 aR) fun (v2:Lnk)=>(Option.bind (zy_M v2 (↑aE.1.length:Int)) fun (v3:Int×Unit)=>(bif v3.1 != 0 then some (v3.1,()) else r1 aE (IntKind.i64.wrap (aR + 1))))) else some ((0:Int),()))
def yAG (n:Nat)  (k:Nat) (aE:Bas) (aR:Int):Option (Int×Unit) :=
  iter (fun r y=>yHX n (fun aE aR=>r ((aE,(aR,())),((),()))) y.1.1 y.1.2.1) k ((aE,(aR,())),((),()))
def zq_m (n:Nat) (b:Bas):Option (Int×Unit) :=
  (Option.bind (zr_M b.1) fun (v0:Int×Unit)=>(bif v0.1 != 0 then some (v0.1,()) else (bif decide ((↑b.2.1.length:Int) > 16) then some ((5:Int),()) else (yAG n n (b) ((0:Int))))))
def yLf (aE:Bas) (aR:Int) (v2:Lnk):Option ((Int×Unit)⊕Unit) :=
  (Option.bind (zy_M v2 (↑aE.1.length:Int)) fun (v3:Int×Unit)=>(bif v3.1 != 0 then (some (Sum.inl ((v3.1,())))) else (some (Sum.inr ()))))
def yOr (aE:Bas):Option (Int×Unit) :=
  (some (((0:Int),())))
theorem yFK (n:Nat) (hn:big≤n)  (aE:Bas) (hx:List.length (aE.2.1) < lenMax):LeF some (yK (fun am aL af=>yLf aE am aL) (fun af=>yOr aE) 0 (aE.2.1) ()) (yAG n n aE 0) := by
  refine yT (f := some) (W := fun aK am af=>yAG n aK aE am) (fun aK am af=>?_) hx () n (by unfold big at hn; unfold lenMax at hx; omega)
  show LeF _ _ (yHX n (yAG n aK) aE am)
  exact y5 (y6 fun v2=>(y6 fun v3=>(y5 (y7 rfl) (y7 rfl)))) (y0R (y7 rfl))
def zq_M (b:Bas):Option (Int×Unit) :=
  (Option.bind (zr_M b.1) fun (v0:Int×Unit)=>(bif v0.1 != 0 then (some ((v0.1,()))) else (bif decide ((↑b.2.1.length:Int) > 16) then (some (((5:Int),()))) else (bif decide (List.length (b.2.1) < lenMax) then yK (fun am aL af=>yLf (b) am aL) (fun af=>yOr (b)) 0 (b.2.1) () else none))))
abbrev zq_e:Entry := { f := 24,args := .pair t25 .unit,rS := .pair t3 .unit,m := fun x=>zq_M x.1 }
theorem yLj:FnOK Tryz.prog zq_e := fB Tryz.f24 (fun n x=>zq_m n x.1) [[1,4]] (yC yQ6 (yC yQU eNil)) fun n hn x=>(y6 fun v0=>(y5 (y7 rfl) (y5 (y7 rfl) (yV fun hx=>by apply yFK n hn; exact hx))))
def yHy (n:Nat) (r1:Bas→List Int→Int→Int→List Int→Option (List Int×Unit)) (aJ:Bas) (ar:List Int) (aO:Int) (aC:Int) (aF:List Int):Option (List Int×Unit) :=
  (bif decide (aC < aO) then (Option.bind (idx ar aC) fun (v2:Int)=>(Option.bind (idx aJ.1 aC) fun (v3:Nod)=>(bif decide (v2 > v3.2.2.1) then (bif decide (aF.length + (1:Nat)≤memMax) then r1 aJ ar aO (IntKind.i64.wrap (aC + 1)) (aF ++ [aC]) else none) else r1 aJ ar aO (IntKind.i64.wrap (aC + 1)) aF))) else some (aF,()))
def y9w (n:Nat)  (k:Nat) (aJ:Bas) (ar:List Int) (aO:Int) (aC:Int) (aF:List Int):Option (List Int×Unit) :=
  iter (fun r y=>yHy n (fun aJ ar aO aC aF=>r ((aJ,(ar,(aO,(aC,())))),((aF,()),()))) y.1.1 y.1.2.1 y.1.2.2.1 y.1.2.2.2.1 y.2.1.1) k ((aJ,(ar,(aO,(aC,())))),((aF,()),()))
def zc_m (n:Nat) (b:Bas) (v:List Int):Option (List Int×Unit) :=
  (Option.bind (zV_M b v) fun (v0:List Int×Unit)=>(y9w n n (b) (v0.1) ((↑v0.1.length:Int)) ((0:Int)) ([])))
def yD9 (aJ:Bas) (ar:List Int) (aC:Int) (v2:Int) (aF:List Int):Option ((List Int×Unit)⊕(List Int)) :=
  (Option.bind (idx aJ.1 aC) fun (v3:Nod)=>(bif decide (v2 > v3.2.2.1) then (bif decide (aF.length + (1:Nat)≤memMax) then (some (Sum.inr (aF ++ [aC]))) else none) else (some (Sum.inr (aF)))))
def yJB (aJ:Bas) (ar:List Int) (aF:List Int):Option (List Int×Unit) :=
  (some ((aF,())))
theorem yFv (n:Nat) (hn:big≤n)  (aJ:Bas) (ar:List Int) (aF:List Int) (hx:List.length (ar) < lenMax):LeF some (yK (fun am aL af=>yD9 aJ ar am aL af) (fun af=>yJB aJ ar af) 0 (ar) aF) (y9w n n aJ ar (List.length (ar):Int) 0 aF) := by
  refine yT (f := some) (W := fun aK am af=>y9w n aK aJ ar (List.length (ar):Int) am af) (fun aK am af=>?_) hx aF n (by unfold big at hn; unfold lenMax at hx; omega)
  show LeF _ _ (yHy n (y9w n aK) aJ ar (List.length (ar):Int) am af)
  exact y5 (y6 fun v2=>(y6 fun v3=>(y5 (y5 (y7 rfl) yL) (y7 rfl)))) (y0R (y7 rfl))
def zc_M (b:Bas) (v:List Int):Option (List Int×Unit) :=
  (Option.bind (zV_M b v) fun (v0:List Int×Unit)=>(bif decide (List.length (v0.1) < lenMax) then yK (fun am aL af=>yD9 (b) (v0.1) am aL af) (fun af=>yJB (b) (v0.1) af) 0 (v0.1) ([]) else none))
abbrev zc_e:Entry := { f := 99,args := .pair t41 (.pair t26 .unit),rS := .pair t26 .unit,m := fun x=>zc_M x.1 x.2.1 }
theorem yQf:FnOK Tryz.prog zc_e := fB (mu := [5]) Tryz.f99 (fun n x=>zc_m n x.1 x.2.1) [[2,5,10,11,12]] (yC yOF eNil) fun n hn x=>(y6 fun v0=>(yV fun hx=>by apply yFv n hn; exact hx))
def yOR (n:Nat) (l:List (Int×Int×Unit)) (upper:Int):Option (List Int×Unit) :=
  (Option.bind (zF_M l fun (x:(Int×Int×Unit)×Unit)=>yOb x.1 upper) fun (v0:List Int×Unit)=>some (v0.1,()))
def yJa (l:List (Int×Int×Unit)) (upper:Int):Option (List Int×Unit) := yOR 0 l upper
abbrev z0m_e:Entry := { f := 119,args := .pair t97 (.pair t3 .unit),rS := .pair t26 .unit,m := fun x=>yJa x.1 x.2.1 }
theorem yKY:FnOK Tryz.prog z0m_e := fF 0 Tryz.f119 (fun n x=>yOR n x.1 x.2.1) [] (yC yOw (yC yPq eNil))
def zv_m (n:Nat) (n1:Int):Option (Int×Unit) :=
  some ((z0D n1 (-1024:Int) (1024:Int)).1,())
def zv (n1:Int):(Int×Unit) :=
  ((z0D n1 (-1024:Int) (1024:Int)).1,())
abbrev zv_M (n1:Int):Option (Int×Unit) := some (zv n1)
abbrev zv_e:Entry := { f := 137,args := .pair t3 .unit,rS := .pair t35 .unit,m := fun x=>zv_M x.1 }
theorem yN3:FnOK Tryz.prog zv_e := fF (hm := by intro x; show some (zv x.1) = zv_m 0 x.1; unfold zv_m zv; first | rfl | simp only [yo]) 0 Tryz.f137 (fun n x=>zv_m n x.1) [] (yC y7I eNil)
def ze_m (n:Nat) (n1:Int):Option (Int×Unit) :=
  some ((z0D n1 (0:Int) (100000:Int)).1,())
def ze (n1:Int):(Int×Unit) :=
  ((z0D n1 (0:Int) (100000:Int)).1,())
abbrev ze_M (n1:Int):Option (Int×Unit) := some (ze n1)
abbrev ze_e:Entry := { f := 139,args := .pair t3 .unit,rS := .pair t35 .unit,m := fun x=>ze_M x.1 }
theorem yOS:FnOK Tryz.prog ze_e := fF (hm := by intro x; show some (ze x.1) = ze_m 0 x.1; unfold ze_m ze; first | rfl | simp only [yo]) 0 Tryz.f139 (fun n x=>ze_m n x.1) [] (yC y7I eNil)
def zH_m (n:Nat) (n1:Int):Option (Int×Unit) :=
  some ((z0D n1 (0:Int) (100000000:Int)).1,())
def zH (n1:Int):(Int×Unit) :=
  ((z0D n1 (0:Int) (100000000:Int)).1,())
abbrev zH_M (n1:Int):Option (Int×Unit) := some (zH n1)
abbrev zH_e:Entry := { f := 151,args := .pair t3 .unit,rS := .pair t35 .unit,m := fun x=>zH_M x.1 }
theorem yPx:FnOK Tryz.prog zH_e := fF (hm := by intro x; show some (zH x.1) = zH_m 0 x.1; unfold zH_m zH; first | rfl | simp only [yo]) 0 Tryz.f151 (fun n x=>zH_m n x.1) [] (yC y7I eNil)
def zO_m (n:Nat) (n1:Int):Option (Int×Unit) :=
  some ((z0D n1 (0:Int) (100000000:Int)).1,())
def zO (n1:Int):(Int×Unit) :=
  ((z0D n1 (0:Int) (100000000:Int)).1,())
abbrev zO_M (n1:Int):Option (Int×Unit) := some (zO n1)
abbrev zO_e:Entry := { f := 160,args := .pair t3 .unit,rS := .pair t35 .unit,m := fun x=>zO_M x.1 }
theorem yPt:FnOK Tryz.prog zO_e := fF (hm := by intro x; show some (zO x.1) = zO_m 0 x.1; unfold zO_m zO; first | rfl | simp only [yo]) 0 Tryz.f160 (fun n x=>zO_m n x.1) [] (yC y7I eNil)
def zP_m (n:Nat) (x1:Int×Int×Unit) (p1:Int×Unit→Option (Int×Unit)):Option (Int×Unit) :=
  (Option.bind (zR_M x1 p1) fun (v0:Int×Unit)=>some (v0.1,()))
def zP_M (x1:Int×Int×Unit) (p1:Int×Unit→Option (Int×Unit)):Option (Int×Unit) := zP_m 0 x1 p1
abbrev zP_e:Entry := { f := 161,args := .pair t96 (.pair (.ref t176) .unit),rS := .pair t35 .unit,m := fun x=>zP_M x.1 x.2.1 }
theorem yPh:FnOK Tryz.prog zP_e := fF 0 Tryz.f161 (fun n x=>zP_m n x.1 x.2.1) [] (yC yMA eNil)
def zS_m (n:Nat) (p:Lnk×Int×Int×Int×Bool×Unit):Option (Int×Unit) :=
  (bif !p.2.2.2.2.1 then some ((0:Int),()) else (Option.bind (zT_M p) fun (v0:Int×Unit)=>some (if v0.1 > IntKind.i64.wrap ((0:Int) - p.2.1) then v0.1 else IntKind.i64.wrap ((0:Int) - p.2.1),())))
def zS_M (p:Lnk×Int×Int×Int×Bool×Unit):Option (Int×Unit) := zS_m 0 p
abbrev zS_e:Entry := { f := 178,args := .pair t230 .unit,rS := .pair t3 .unit,m := fun x=>zS_M x.1 }
theorem yPu:FnOK Tryz.prog zS_e := fF 0 Tryz.f178 (fun n x=>zS_m n x.1) [] (yC yPH eNil)
def yOk (n:Nat) (p:Lnk×Int×Int×Int×Bool×Unit):Option (Int×Unit) :=
  (Option.bind (zT_M p) fun (v0:Int×Unit)=>some (if Bool.true = Bool.true then if v0.1 > 0 then v0.1 else (0:Int) else if v0.1 < 0 then v0.1 else (0:Int),()))
def yMX (p:Lnk×Int×Int×Int×Bool×Unit):Option (Int×Unit) := yOk 0 p
abbrev z05_e:Entry := { f := 179,args := .pair t230 .unit,rS := .pair t3 .unit,m := fun x=>yMX x.1 }
theorem yP2:FnOK Tryz.prog z05_e := fF 0 Tryz.f179 (fun n x=>yOk n x.1) [] (yC yPH eNil)
def yO9 (n:Nat) (p:Lnk×Int×Int×Int×Bool×Unit):Option (Int×Unit) :=
  (Option.bind (zm_M p (if p.1.2.2.2.1 > p.2.2.2.1 then p.1.2.2.2.1 else p.2.2.2.1)) fun (v0:Int×Unit)=>some (v0.1,()))
def yMB (p:Lnk×Int×Int×Int×Bool×Unit):Option (Int×Unit) := yO9 0 p
abbrev z06_e:Entry := { f := 181,args := .pair t230 .unit,rS := .pair t3 .unit,m := fun x=>yMB x.1 }
theorem yNd:FnOK Tryz.prog z06_e := fF 0 Tryz.f181 (fun n x=>yO9 n x.1) [] (yC yOe eNil)
def yOL (n:Nat) (p:Lnk×Int×Int×Int×Bool×Unit):Option (Int×Unit) :=
  (Option.bind (zm_M p p.1.2.2.2.1) fun (v0:Int×Unit)=>some (v0.1,()))
def yMn (p:Lnk×Int×Int×Int×Bool×Unit):Option (Int×Unit) := yOL 0 p
abbrev z08_e:Entry := { f := 184,args := .pair t230 .unit,rS := .pair t3 .unit,m := fun x=>yMn x.1 }
theorem yOC:FnOK Tryz.prog z08_e := fF 0 Tryz.f184 (fun n x=>yOL n x.1) [] (yC yOe eNil)
end
end Go.Tw
end
section
set_option maxRecDepth 1000000
namespace Go.Tw
open Go.Vx Go.Vx.B Go.Proofs
noncomputable section
def za_m (n:Nat) (b:Bas) (v:List Int):Option (Int×Unit) :=
  (Option.bind (zq_M b) fun (v0:Int×Unit)=>(bif v0.1 != 0 then some (v0.1,()) else (Option.bind (zf_M b v) fun (v1:Int×Unit)=>some (v1.1,()))))
def za_M (b:Bas) (v:List Int):Option (Int×Unit) := za_m 0 b v
abbrev za_e:Entry := { f := 32,args := .pair t25 (.pair t26 .unit),rS := .pair t3 .unit,m := fun x=>za_M x.1 x.2.1 }
theorem yPc:FnOK Tryz.prog za_e := fF 0 Tryz.f32 (fun n x=>za_m n x.1 x.2.1) [] (yC yLj (yC yQe eNil))
def zG_m (n:Nat) (b:Bas) (c:Cnd):Option (Int×Unit) :=
  (Option.bind (zI_M c.2.2.1 fun (x:Int×Unit)=>ze_M x.1) fun (v0:List Int×Unit)=>(Option.bind (y0n v0.1) fun (v1:Int×Unit)=>(Option.bind (y0n [(zv c.1).1,(z0f ((↑c.2.2.1.length:Int) != (↑b.1.length:Int)) (2:Int)).1,v1.1]) fun (v2:Int×Unit)=>some (v2.1,()))))
def zG_M (b:Bas) (c:Cnd):Option (Int×Unit) := zG_m 0 b c
abbrev zG_e:Entry := { f := 88,args := .pair t41 (.pair t44 .unit),rS := .pair t35 .unit,m := fun x=>zG_M x.1 x.2.1 }
theorem yO6:FnOK Tryz.prog zG_e := fF 0 Tryz.f88 (fun n x=>zG_m n x.1 x.2.1) [] (yC yN3 (yC y3z (yC yP4 (yC yOS (yC y40 eNil)))))
def zK_m (n:Nat) (b:Bas) (v:List Int):Option (Int×Unit) :=
  (Option.bind (zI_M v fun (x:Int×Unit)=>zH_M x.1) fun (v0:List Int×Unit)=>(Option.bind (y0n v0.1) fun (v1:Int×Unit)=>(Option.bind (y0n [(z0f ((↑v.length:Int) != (↑b.1.length:Int)) (2:Int)).1,v1.1]) fun (v2:Int×Unit)=>some (v2.1,()))))
def zK_M (b:Bas) (v:List Int):Option (Int×Unit) := zK_m 0 b v
abbrev zK_e:Entry := { f := 104,args := .pair t41 (.pair t26 .unit),rS := .pair t35 .unit,m := fun x=>zK_M x.1 x.2.1 }
theorem yPz:FnOK Tryz.prog zK_e := fF 0 Tryz.f104 (fun n x=>zK_m n x.1 x.2.1) [] (yC y3z (yC yP4 (yC yPx (yC y40 eNil))))
abbrev yMV:Ty := .unit
abbrev yP9:Ty := .pair t222 .unit
def yNk:G := { T := T,E := [zS_e,z05_e,z06_e,z07_e,z08_e],mU := [],fz := [] }
def yQ4:List (List Nat) := []
def yL8 (n:Nat):Ann := { keep := yQ4,fuel := n,inl := [],deep := 0 }
def yJ9 (n:Nat)  : Option (List (List UInt8×List Bool×((Lnk×Int×Int×Int×Bool×Unit)×Unit→Option (Int×Unit))×Unit)×Unit) :=
  some ([([(98:UInt8),97,114,114,105,101,114],[Bool.true,Bool.false],fun (x:(Lnk×Int×Int×Int×Bool×Unit)×Unit)=>zS_M x.1,()),([(108:UInt8),101,97,107],[Bool.true,Bool.false],fun (x:(Lnk×Int×Int×Int×Bool×Unit)×Unit)=>yMX x.1,()),([(111:UInt8),117,116,102,97,108,108],[Bool.false,Bool.true],fun (x:(Lnk×Int×Int×Int×Bool×Unit)×Unit)=>yMB x.1,()),([(112:UInt8),117,109,112],[Bool.false,Bool.false],fun (x:(Lnk×Int×Int×Int×Bool×Unit)×Unit)=>yLN x.1,()),([(119:UInt8),101,105,114],[Bool.false,Bool.false],fun (x:(Lnk×Int×Int×Int×Bool×Unit)×Unit)=>yMn x.1,())],())
theorem yO7 (n:Nat) (x:yMV.den):runF yNk (yL8 n) Tryz.f141 yMV yP9 x = yJ9 n := by kernel_rfl
def z0U  : (List (List UInt8×List Bool×((Lnk×Int×Int×Int×Bool×Unit)×Unit→Option (Int×Unit))×Unit)×Unit) :=
  ([([(98:UInt8),97,114,114,105,101,114],[Bool.true,Bool.false],fun (x:(Lnk×Int×Int×Int×Bool×Unit)×Unit)=>zS_M x.1,()),([(108:UInt8),101,97,107],[Bool.true,Bool.false],fun (x:(Lnk×Int×Int×Int×Bool×Unit)×Unit)=>yMX x.1,()),([(111:UInt8),117,116,102,97,108,108],[Bool.false,Bool.true],fun (x:(Lnk×Int×Int×Int×Bool×Unit)×Unit)=>yMB x.1,()),([(112:UInt8),117,109,112],[Bool.false,Bool.false],fun (x:(Lnk×Int×Int×Int×Bool×Unit)×Unit)=>yLN x.1,()),([(119:UInt8),101,105,114],[Bool.false,Bool.false],fun (x:(Lnk×Int×Int×Int×Bool×Unit)×Unit)=>yMn x.1,())],())
abbrev yNB  : Option (List (List UInt8×List Bool×((Lnk×Int×Int×Int×Bool×Unit)×Unit→Option (Int×Unit))×Unit)×Unit) := some (z0U)
theorem yLm  (y:List (List UInt8×List Bool×((Lnk×Int×Int×Int×Bool×Unit)×Unit→Option (Int×Unit))×Unit)×Unit) (h:yNB = some y) : ∃ n,yJ9 n = some y :=
  ⟨0,by rw [← h]; show yJ9 0 = some (z0U); unfold yJ9 z0U; first | rfl | (simp only [yo]; done) | (simp only [yo]; rfl)⟩
def z0U_e:Entry := { f := 141,args := yMV,rS := yP9,m := fun x=>yNB }
theorem yLF:FnOK Tryz.prog z0U_e := y2Y (g := yNk) (fn := Tryz.f141) y0q y2M (yC yPu (yC yP2 (yC yNd (yC yO0 (yC yOC eNil))))) (by kernel_rfl) (by kernel_rfl) (by kernel_rfl) (fun x y h=>let ⟨n,hn⟩ := yLm y h; ⟨yL8 n,iNil,(yO7 n x).trans hn⟩)
def zY_m (n:Nat) (r1:Rng) (upper:Int):Option (Cnd×Unit) :=
  (Option.bind (idx (z0e r1.1).1 upper) fun (v0:Int)=>(Option.bind (yJa r1.2.2.1 upper) fun (v1:List Int×Unit)=>some ((v0,r1.2.1,v1.1,()),())))
def zY_M (r1:Rng) (upper:Int):Option (Cnd×Unit) := zY_m 0 r1 upper
abbrev zY_e:Entry := { f := 154,args := .pair t104 (.pair t3 .unit),rS := .pair t44 .unit,m := fun x=>zY_M x.1 x.2.1 }
theorem yNG:FnOK Tryz.prog zY_e := fF 0 Tryz.f154 (fun n x=>zY_m n x.1 x.2.1) [] (yC yKn (yC yKY eNil))
def zJ_m (n:Nat) (x1:Int×Int×Unit):Option (Int×Unit) :=
  (Option.bind (zR_M x1 fun (x:Int×Unit)=>ze_M x.1) fun (v0:Int×Unit)=>some (v0.1,()))
def zJ_M (x1:Int×Int×Unit):Option (Int×Unit) := zJ_m 0 x1
abbrev zJ_e:Entry := { f := 157,args := .pair t96 .unit,rS := .pair t35 .unit,m := fun x=>zJ_M x.1 }
theorem yPo:FnOK Tryz.prog zJ_e := fF 0 Tryz.f157 (fun n x=>zJ_m n x.1) [] (yC yMA (yC yOS eNil))
end
end Go.Tw
end
section
set_option maxRecDepth 1000000
namespace Go.Tw
open Go.Vx Go.Vx.B Go.Proofs
noncomputable section
def il140:Inl := { f := 140,fn := Tryz.f140,keep := [],mU := [],fz := [] }
theorem yJW:y1q Tryz.prog il140 := ⟨by kernel_rfl,by kernel_rfl,fun e0 h=>by cases (show (none:Option LibK) = some e0 from h)⟩
def y6x (n:Nat) (r12:Bas→Cnd→List (List UInt8×List Bool×((Lnk×Int×Int×Int×Bool×Unit)×Unit→Option (Int×Unit))×Unit)→List Lnk→Int→Int→Bool→List Int→List Int→Option (List Int×Option (List Int)×Bool×Unit)) (aj:Bas) (ah:Cnd) (a7:List (List UInt8×List Bool×((Lnk×Int×Int×Int×Bool×Unit)×Unit→Option (Int×Unit))×Unit)) (a8:List Lnk) (az:Int) (ai:Int) (aa:List Int) (v13:Lnk) (v17:Int×Unit) (j26:Bool) (j27:List Int):Option (List Int×Option (List Int)×Bool×Unit) :=
  (bif v13.2.2.1 != (-1:Int) then (Option.bind (idx j27 v13.2.2.1) fun (v28:Int)=>(Option.bind (j27[v13.2.2.1.toNat]?) fun (v29:Int)=>(Option.bind (idx j27 v13.2.2.1) fun (v30:Int)=>(Option.bind (j27[v13.2.2.1.toNat]?) fun (v31:Int)=>(bif j26 then (Option.bind (idx (j27.set v13.2.2.1.toNat (IntKind.i64.wrap (v29 + v17.1))) v13.2.2.1) fun (v32:Int)=>(Option.bind ((j27.set v13.2.2.1.toNat (IntKind.i64.wrap (v29 + v17.1)))[v13.2.2.1.toNat]?) fun (v33:Int)=>(bif decide (aa.length + (1:Nat)≤memMax) then r12 aj ah a7 a8 az (IntKind.i64.wrap (ai + 1)) (decide (v33≤100000000)) (aa ++ [v17.1]) (j27.set v13.2.2.1.toNat (IntKind.i64.wrap (v29 + v17.1))) else none))) else (bif decide (aa.length + (1:Nat)≤memMax) then r12 aj ah a7 a8 az (IntKind.i64.wrap (ai + 1)) Bool.false (aa ++ [v17.1]) (j27.set v13.2.2.1.toNat (IntKind.i64.wrap (v29 + v17.1))) else none)))))) else (bif decide (aa.length + (1:Nat)≤memMax) then r12 aj ah a7 a8 az (IntKind.i64.wrap (ai + 1)) j26 (aa ++ [v17.1]) j27 else none))
def yEZ (n:Nat) (r12:Bas→Cnd→List (List UInt8×List Bool×((Lnk×Int×Int×Int×Bool×Unit)×Unit→Option (Int×Unit))×Unit)→List Lnk→Int→Int→Bool→List Int→List Int→Option (List Int×Option (List Int)×Bool×Unit)) (aj:Bas) (ah:Cnd) (a7:List (List UInt8×List Bool×((Lnk×Int×Int×Int×Bool×Unit)×Unit→Option (Int×Unit))×Unit)) (a8:List Lnk) (az:Int) (ai:Int) (ak:Bool) (aa:List Int) (ac:List Int):Option (List Int×Option (List Int)×Bool×Unit) :=
  (bif decide (ai < az) then (Option.bind (idx a8 ai) fun (v13:Lnk)=>(Option.bind (idx ac (zu (v13.1,v13.2.1,v13.2.2.1,v13.2.2.2.1,v13.2.2.2.2.1,())).1) fun (v14:Int)=>(Option.bind (ac[(zu (v13.1,v13.2.1,v13.2.2.1,v13.2.2.2.1,v13.2.2.2.2.1,())).1.toNat]?) fun (v15:Int)=>(Option.bind (idx aj.1 (zu (v13.1,v13.2.1,v13.2.2.1,v13.2.2.2.1,v13.2.2.2.2.1,())).1) fun (v16:Nod)=>(Option.bind (((yY Ty.str ((Ty.arr (nat_lit 2) Ty.bool).pair (((((Ty.str.pair ((Ty.int IntKind.i64).pair ((Ty.int IntKind.i64).pair ((Ty.int IntKind.i64).pair ((Ty.int IntKind.i64).pair Ty.unit))))).pair ((Ty.int IntKind.i64).pair ((Ty.int IntKind.i64).pair ((Ty.int IntKind.i64).pair (Ty.bool.pair Ty.unit))))).pair Ty.unit).func ((Ty.int IntKind.i64).pair Ty.unit)).pair Ty.unit)) a7 v13.1).getD ([Bool.false,Bool.false],fun (x:(((Ty.str.pair ((Ty.int IntKind.i64).pair ((Ty.int IntKind.i64).pair ((Ty.int IntKind.i64).pair ((Ty.int IntKind.i64).pair Ty.unit))))).pair ((Ty.int IntKind.i64).pair ((Ty.int IntKind.i64).pair ((Ty.int IntKind.i64).pair (Ty.bool.pair Ty.unit))))).pair Ty.unit).den)=>Option.none,())).2.1 (((v13.1,v13.2.1,v13.2.2.1,v13.2.2.2.1,v13.2.2.2.2.1,()),v15,v16.2.1,ah.1,ah.2.1,()),())) fun (v17:Int×Unit)=>(bif v13.2.1 != (-1:Int) then (Option.bind (idx ac v13.2.1) fun (v18:Int)=>(Option.bind (ac[v13.2.1.toNat]?) fun (v19:Int)=>(Option.bind (idx ac v13.2.1) fun (v20:Int)=>(Option.bind (ac[v13.2.1.toNat]?) fun (v21:Int)=>(bif ak then (Option.bind (idx (ac.set v13.2.1.toNat (IntKind.i64.wrap (v19 + IntKind.i64.wrap ((0:Int) - v17.1)))) v13.2.1) fun (v22:Int)=>(Option.bind ((ac.set v13.2.1.toNat (IntKind.i64.wrap (v19 + IntKind.i64.wrap ((0:Int) - v17.1))))[v13.2.1.toNat]?) fun (v23:Int)=>(y6x n r12 aj ah a7 a8 az ai aa v13 v17 (decide (v23≤100000000)) (ac.set v13.2.1.toNat (IntKind.i64.wrap (v19 + IntKind.i64.wrap ((0:Int) - v17.1))))))) else (y6x n r12 aj ah a7 a8 az ai aa v13 v17 (Bool.false) (ac.set v13.2.1.toNat (IntKind.i64.wrap (v19 + IntKind.i64.wrap ((0:Int) - v17.1)))))))))) else (y6x n r12 aj ah a7 a8 az ai aa v13 v17 (ak) (ac)))))))) else some (aa,some ac,ak,()))
def y6e (n:Nat)  (k:Nat) (aj:Bas) (ah:Cnd) (a7:List (List UInt8×List Bool×((Lnk×Int×Int×Int×Bool×Unit)×Unit→Option (Int×Unit))×Unit)) (a8:List Lnk) (az:Int) (ai:Int) (ak:Bool) (aa:List Int) (ac:List Int):Option (List Int×Option (List Int)×Bool×Unit) :=
  iter (fun r y=>yEZ n (fun aj ah a7 a8 az ai ak aa ac=>r ((aj,(ah,((),(a7,(a8,(az,(ai,()))))))),(((),((ak,()),(aa,(ac,())))),()))) y.1.1 y.1.2.1 y.1.2.2.2.1 y.1.2.2.2.2.1 y.1.2.2.2.2.2.1 y.1.2.2.2.2.2.2.1 y.2.1.2.1.1 y.2.1.2.2.1 y.2.1.2.2.2.1) k ((aj,(ah,((),(a7,(a8,(az,(ai,()))))))),(((),((ak,()),(aa,(ac,())))),()))
def yHS (n:Nat) (r0:Bas→Cnd→List Int→Int→Int→Bool→List Int→Option (List Int×Option (List Int)×Bool×Unit)) (aA:Bas) (aG:Cnd) (aq:List Int) (aM:Int) (ae:Int) (al:Bool) (au:List Int):Option (List Int×Option (List Int)×Bool×Unit) :=
  (bif decide (ae < aM) then (Option.bind (idx aq ae) fun (v1:Int)=>(bif ae != (-1:Int) then (Option.bind (idx au ae) fun (v2:Int)=>(Option.bind (au[ae.toNat]?) fun (v3:Int)=>(Option.bind (idx au ae) fun (v4:Int)=>(Option.bind (au[ae.toNat]?) fun (v5:Int)=>(bif al then (Option.bind (idx (au.set ae.toNat (IntKind.i64.wrap (v3 + v1))) ae) fun (v6:Int)=>(Option.bind ((au.set ae.toNat (IntKind.i64.wrap (v3 + v1)))[ae.toNat]?) fun (v7:Int)=>r0 aA aG aq aM (IntKind.i64.wrap (ae + 1)) (decide (v7≤100000000)) (au.set ae.toNat (IntKind.i64.wrap (v3 + v1))))) else r0 aA aG aq aM (IntKind.i64.wrap (ae + 1)) Bool.false (au.set ae.toNat (IntKind.i64.wrap (v3 + v1)))))))) else r0 aA aG aq aM (IntKind.i64.wrap (ae + 1)) al au)) else (y6e n n (aA) (aG) (z0U.1) (aA.2.1) ((↑aA.2.1.length:Int)) ((0:Int)) (al) ([]) (au)))
def yAe (n:Nat)  (k:Nat) (aA:Bas) (aG:Cnd) (aq:List Int) (aM:Int) (ae:Int) (al:Bool) (au:List Int):Option (List Int×Option (List Int)×Bool×Unit) :=
  iter (fun r y=>yHS n (fun aA aG aq aM ae al au=>r ((aA,(aG,((),(aq,(aM,(ae,())))))),(((),((al,()),(au,()))),()))) y.1.1 y.1.2.1 y.1.2.2.2.1 y.1.2.2.2.2.1 y.1.2.2.2.2.2.1 y.2.1.2.1.1 y.2.1.2.2.1) k ((aA,(aG,((),(aq,(aM,(ae,())))))),(((),((al,()),(au,()))),()))
def zi_m (n:Nat) (b:Bas) (v:List Int) (c:Cnd):Option (List Int×Option (List Int)×Bool×Unit) :=
  (bif Bool.true && decide ((0:Int)≤(↑v.length:Int)) && decide ((↑v.length:Int)≤(↑memMax:Int)) && (↑v.length:Int)==(↑v.length:Int) then (yAe n n (b) (c) (c.2.2.1) ((↑c.2.2.1.length:Int)) ((0:Int)) (Bool.true) (List.take (List.replicate (↑v.length:Int).toNat (0:Int)).length v ++ List.drop v.length (List.replicate (↑v.length:Int).toNat (0:Int)))) else none)
def yEV (aj:Bas) (ah:Cnd) (a7:List (List UInt8×List Bool×((Lnk×Int×Int×Int×Bool×Unit)×Unit→Option (Int×Unit))×Unit)) (a8:List Lnk) (ai:Int) (aa:List Int) (v13:Lnk) (v17:Int×Unit) (j26:Bool) (j27:List Int):Option ((List Int×Option (List Int)×Bool×Unit)⊕(Bool×List Int×List Int)) :=
  (bif v13.2.2.1 != (-1:Int) then (Option.bind (idx j27 v13.2.2.1) fun (v28:Int)=>(Option.bind (j27[v13.2.2.1.toNat]?) fun (v29:Int)=>(Option.bind (idx j27 v13.2.2.1) fun (v30:Int)=>(Option.bind (j27[v13.2.2.1.toNat]?) fun (v31:Int)=>(bif j26 then (Option.bind (idx (j27.set v13.2.2.1.toNat (IntKind.i64.wrap (v29 + v17.1))) v13.2.2.1) fun (v32:Int)=>(Option.bind ((j27.set v13.2.2.1.toNat (IntKind.i64.wrap (v29 + v17.1)))[v13.2.2.1.toNat]?) fun (v33:Int)=>(bif decide (aa.length + (1:Nat)≤memMax) then (some (Sum.inr ((decide (v33≤100000000)),(aa ++ [v17.1]),(j27.set v13.2.2.1.toNat (IntKind.i64.wrap (v29 + v17.1)))))) else none))) else (bif decide (aa.length + (1:Nat)≤memMax) then (some (Sum.inr ((Bool.false),(aa ++ [v17.1]),(j27.set v13.2.2.1.toNat (IntKind.i64.wrap (v29 + v17.1)))))) else none)))))) else (bif decide (aa.length + (1:Nat)≤memMax) then (some (Sum.inr ((j26),(aa ++ [v17.1]),(j27)))) else none))
theorem y0M (n:Nat) (hn:big≤n)  (r12:Bas→Cnd→List (List UInt8×List Bool×((Lnk×Int×Int×Int×Bool×Unit)×Unit→Option (Int×Unit))×Unit)→List Lnk→Int→Int→Bool→List Int→List Int→Option (List Int×Option (List Int)×Bool×Unit)) (aj:Bas) (ah:Cnd) (a7:List (List UInt8×List Bool×((Lnk×Int×Int×Int×Bool×Unit)×Unit→Option (Int×Unit))×Unit)) (a8:List Lnk) (ai:Int) (aa:List Int) (v13:Lnk) (v17:Int×Unit) (j26:Bool) (j27:List Int):LeF (elim some fun (af:(Bool×List Int×List Int))=>r12 aj ah a7 a8 (List.length (a8):Int) (IntKind.i64.wrap (ai + 1)) af.1 af.2.1 af.2.2) (yEV aj ah a7 a8 ai aa v13 v17 j26 j27) (y6x n r12 aj ah a7 a8 (List.length (a8):Int) ai aa v13 v17 j26 j27) :=
  (y5 (y6 fun v28=>(y6 fun v29=>(y6 fun v30=>(y6 fun v31=>(y5 (y6 fun v32=>(y6 fun v33=>(y5 (y7 rfl) yL))) (y5 (y7 rfl) yL)))))) (y5 (y7 rfl) yL))
def yKp (aj:Bas) (ah:Cnd) (a7:List (List UInt8×List Bool×((Lnk×Int×Int×Int×Bool×Unit)×Unit→Option (Int×Unit))×Unit)) (a8:List Lnk) (ai:Int) (v13:Lnk) (ak:Bool) (aa:List Int) (ac:List Int):Option ((List Int×Option (List Int)×Bool×Unit)⊕(Bool×List Int×List Int)) :=
  (Option.bind (idx ac (zu (v13.1,v13.2.1,v13.2.2.1,v13.2.2.2.1,v13.2.2.2.2.1,())).1) fun (v14:Int)=>(Option.bind (ac[(zu (v13.1,v13.2.1,v13.2.2.1,v13.2.2.2.1,v13.2.2.2.2.1,())).1.toNat]?) fun (v15:Int)=>(Option.bind (idx aj.1 (zu (v13.1,v13.2.1,v13.2.2.1,v13.2.2.2.1,v13.2.2.2.2.1,())).1) fun (v16:Nod)=>(Option.bind (((yY Ty.str ((Ty.arr (nat_lit 2) Ty.bool).pair (((((Ty.str.pair ((Ty.int IntKind.i64).pair ((Ty.int IntKind.i64).pair ((Ty.int IntKind.i64).pair ((Ty.int IntKind.i64).pair Ty.unit))))).pair ((Ty.int IntKind.i64).pair ((Ty.int IntKind.i64).pair ((Ty.int IntKind.i64).pair (Ty.bool.pair Ty.unit))))).pair Ty.unit).func ((Ty.int IntKind.i64).pair Ty.unit)).pair Ty.unit)) a7 v13.1).getD ([Bool.false,Bool.false],fun (x:(((Ty.str.pair ((Ty.int IntKind.i64).pair ((Ty.int IntKind.i64).pair ((Ty.int IntKind.i64).pair ((Ty.int IntKind.i64).pair Ty.unit))))).pair ((Ty.int IntKind.i64).pair ((Ty.int IntKind.i64).pair ((Ty.int IntKind.i64).pair (Ty.bool.pair Ty.unit))))).pair Ty.unit).den)=>Option.none,())).2.1 (((v13.1,v13.2.1,v13.2.2.1,v13.2.2.2.1,v13.2.2.2.2.1,()),v15,v16.2.1,ah.1,ah.2.1,()),())) fun (v17:Int×Unit)=>(bif v13.2.1 != (-1:Int) then (Option.bind (idx ac v13.2.1) fun (v18:Int)=>(Option.bind (ac[v13.2.1.toNat]?) fun (v19:Int)=>(Option.bind (idx ac v13.2.1) fun (v20:Int)=>(Option.bind (ac[v13.2.1.toNat]?) fun (v21:Int)=>(bif ak then (Option.bind (idx (ac.set v13.2.1.toNat (IntKind.i64.wrap (v19 + IntKind.i64.wrap ((0:Int) - v17.1)))) v13.2.1) fun (v22:Int)=>(Option.bind ((ac.set v13.2.1.toNat (IntKind.i64.wrap (v19 + IntKind.i64.wrap ((0:Int) - v17.1))))[v13.2.1.toNat]?) fun (v23:Int)=>(yEV aj ah a7 a8 ai aa v13 v17 (decide (v23≤100000000)) (ac.set v13.2.1.toNat (IntKind.i64.wrap (v19 + IntKind.i64.wrap ((0:Int) - v17.1))))))) else (yEV aj ah a7 a8 ai aa v13 v17 (Bool.false) (ac.set v13.2.1.toNat (IntKind.i64.wrap (v19 + IntKind.i64.wrap ((0:Int) - v17.1)))))))))) else (yEV aj ah a7 a8 ai aa v13 v17 (ak) (ac)))))))
def yLD (aj:Bas) (ah:Cnd) (a7:List (List UInt8×List Bool×((Lnk×Int×Int×Int×Bool×Unit)×Unit→Option (Int×Unit))×Unit)) (a8:List Lnk) (ak:Bool) (aa:List Int) (ac:List Int):Option (List Int×Option (List Int)×Bool×Unit) :=
  (some ((aa,some ac,ak,())))
theorem yCY (n:Nat) (hn:big≤n)  (aj:Bas) (ah:Cnd) (a7:List (List UInt8×List Bool×((Lnk×Int×Int×Int×Bool×Unit)×Unit→Option (Int×Unit))×Unit)) (a8:List Lnk) (ak:Bool) (aa:List Int) (ac:List Int) (hx:List.length (a8) < lenMax):LeF some (yK (fun am aL af=>yKp aj ah a7 a8 am aL af.1 af.2.1 af.2.2) (fun af=>yLD aj ah a7 a8 af.1 af.2.1 af.2.2) 0 (a8) (ak,aa,ac)) (y6e n n aj ah a7 a8 (List.length (a8):Int) 0 ak aa ac) := by
  refine yT (f := some) (W := fun aK am af=>y6e n aK aj ah a7 a8 (List.length (a8):Int) am af.1 af.2.1 af.2.2) (fun aK am af=>?_) hx (ak,aa,ac) n (by unfold big at hn; unfold lenMax at hx; omega)
  show LeF _ _ (yEZ n (y6e n aK) aj ah a7 a8 (List.length (a8):Int) am af.1 af.2.1 af.2.2)
  exact y5 (y6 fun v13=>(y6 fun v14=>(y6 fun v15=>(y6 fun v16=>(y6 fun v17=>(y5 (y6 fun v18=>(y6 fun v19=>(y6 fun v20=>(y6 fun v21=>(y5 (y6 fun v22=>(y6 fun v23=>(by apply y0M n hn))) (by apply y0M n hn)))))) (by apply y0M n hn))))))) (y0R (y7 rfl))
def yNA (aA:Bas) (aG:Cnd) (aq:List Int) (ae:Int) (v1:Int) (al:Bool) (au:List Int):Option ((List Int×Option (List Int)×Bool×Unit)⊕(Bool×List Int)) :=
  (bif ae != (-1:Int) then (Option.bind (idx au ae) fun (v2:Int)=>(Option.bind (au[ae.toNat]?) fun (v3:Int)=>(Option.bind (idx au ae) fun (v4:Int)=>(Option.bind (au[ae.toNat]?) fun (v5:Int)=>(bif al then (Option.bind (idx (au.set ae.toNat (IntKind.i64.wrap (v3 + v1))) ae) fun (v6:Int)=>(Option.bind ((au.set ae.toNat (IntKind.i64.wrap (v3 + v1)))[ae.toNat]?) fun (v7:Int)=>(some (Sum.inr ((decide (v7≤100000000)),(au.set ae.toNat (IntKind.i64.wrap (v3 + v1)))))))) else (some (Sum.inr ((Bool.false),(au.set ae.toNat (IntKind.i64.wrap (v3 + v1))))))))))) else (some (Sum.inr ((al),(au)))))
def yNu (aA:Bas) (aG:Cnd) (aq:List Int) (al:Bool) (au:List Int):Option (List Int×Option (List Int)×Bool×Unit) :=
  (bif decide (List.length (aA.2.1) < lenMax) then yK (fun am aL af=>yKp (aA) (aG) (z0U.1) (aA.2.1) am aL af.1 af.2.1 af.2.2) (fun af=>yLD (aA) (aG) (z0U.1) (aA.2.1) af.1 af.2.1 af.2.2) 0 (aA.2.1) ((al),([]),(au)) else none)
theorem yGB (n:Nat) (hn:big≤n)  (aA:Bas) (aG:Cnd) (aq:List Int) (al:Bool) (au:List Int) (hx:List.length (aq) < lenMax):LeF some (yK (fun am aL af=>yNA aA aG aq am aL af.1 af.2) (fun af=>yNu aA aG aq af.1 af.2) 0 (aq) (al,au)) (yAe n n aA aG aq (List.length (aq):Int) 0 al au) := by
  refine yT (f := some) (W := fun aK am af=>yAe n aK aA aG aq (List.length (aq):Int) am af.1 af.2) (fun aK am af=>?_) hx (al,au) n (by unfold big at hn; unfold lenMax at hx; omega)
  show LeF _ _ (yHS n (yAe n aK) aA aG aq (List.length (aq):Int) am af.1 af.2)
  exact y5 (y6 fun v1=>(y5 (y6 fun v2=>(y6 fun v3=>(y6 fun v4=>(y6 fun v5=>(y5 (y6 fun v6=>(y6 fun v7=>(y7 rfl))) (y7 rfl)))))) (y7 rfl))) (y0R (yV fun hx=>by apply yCY n hn; exact hx))
def zi_M (b:Bas) (v:List Int) (c:Cnd):Option (List Int×Option (List Int)×Bool×Unit) :=
  (bif Bool.true && decide ((0:Int)≤(↑v.length:Int)) && decide ((↑v.length:Int)≤(↑memMax:Int)) && (↑v.length:Int)==(↑v.length:Int) then (bif decide (List.length (c.2.2.1) < lenMax) then yK (fun am aL af=>yNA (b) (c) (c.2.2.1) am aL af.1 af.2) (fun af=>yNu (b) (c) (c.2.2.1) af.1 af.2) 0 (c.2.2.1) ((Bool.true),(List.take (List.replicate (↑v.length:Int).toNat (0:Int)).length v ++ List.drop v.length (List.replicate (↑v.length:Int).toNat (0:Int)))) else none) else none)
abbrev zi_e:Entry := { f := 92,args := .pair t41 (.pair t26 (.pair t44 .unit)),rS := .pair t26 (.pair (.nS (.int .i64)) (.pair t4 .unit)),m := fun x=>zi_M x.1 x.2.1 x.2.2.1 }
theorem yOI:FnOK Tryz.prog zi_e := fBI (mu := [14]) Tryz.f92 (fun n x=>zi_m n x.1 x.2.1 x.2.2.1) [[3,5,9,10,11,28,29,30],[3,5,9,10,11,14,15,42,43,44]] [il140] 3 (yC yLF (yC yPf eNil)) (y5Y yJW iNil) fun n hn x=>(y5 (yV fun hx=>by apply yGB n hn; exact hx) yL)
def il150:Inl := { f := 150,fn := Tryz.f150,keep := [],mU := [],fz := [] }
theorem yJk:y1q Tryz.prog il150 := ⟨by kernel_rfl,by kernel_rfl,fun e0 h=>by cases (show (none:Option LibK) = some e0 from h)⟩
def y11 (n:Nat) (l:Lnk) (nodes:Int) (j5:Bool):Option (Int×Unit) :=
  (bif !j5 then some ((10:Int),()) else (bif ((yY Ty.str ((Ty.arr (2:Nat) Ty.bool).pair (((((Ty.str.pair ((Ty.int IntKind.i64).pair ((Ty.int IntKind.i64).pair ((Ty.int IntKind.i64).pair ((Ty.int IntKind.i64).pair Ty.unit))))).pair ((Ty.int IntKind.i64).pair ((Ty.int IntKind.i64).pair ((Ty.int IntKind.i64).pair (Ty.bool.pair Ty.unit))))).pair Ty.unit).func ((Ty.int IntKind.i64).pair Ty.unit)).pair Ty.unit)) z0U.1 l.1).getD ([Bool.false,Bool.false],fun (x:(Lnk×Int×Int×Int×Bool×Unit)×Unit)=>Option.none,())).1.getD (nat_lit 1) Bool.false then (bif l.2.2.1==(-1:Int) then (bif eqV (Ty.arr (2:Nat) Ty.bool) [((yY Ty.str ((Ty.arr (2:Nat) Ty.bool).pair (((((Ty.str.pair ((Ty.int IntKind.i64).pair ((Ty.int IntKind.i64).pair ((Ty.int IntKind.i64).pair ((Ty.int IntKind.i64).pair Ty.unit))))).pair ((Ty.int IntKind.i64).pair ((Ty.int IntKind.i64).pair ((Ty.int IntKind.i64).pair (Ty.bool.pair Ty.unit))))).pair Ty.unit).func ((Ty.int IntKind.i64).pair Ty.unit)).pair Ty.unit)) z0U.1 l.1).getD ([Bool.false,Bool.false],fun (x:(Lnk×Int×Int×Int×Bool×Unit)×Unit)=>Option.none,())).1.getD (nat_lit 0) Bool.false,((yY Ty.str ((Ty.arr (2:Nat) Ty.bool).pair (((((Ty.str.pair ((Ty.int IntKind.i64).pair ((Ty.int IntKind.i64).pair ((Ty.int IntKind.i64).pair ((Ty.int IntKind.i64).pair Ty.unit))))).pair ((Ty.int IntKind.i64).pair ((Ty.int IntKind.i64).pair ((Ty.int IntKind.i64).pair (Ty.bool.pair Ty.unit))))).pair Ty.unit).func ((Ty.int IntKind.i64).pair Ty.unit)).pair Ty.unit)) z0U.1 l.1).getD ([Bool.false,Bool.false],fun (x:(Lnk×Int×Int×Int×Bool×Unit)×Unit)=>Option.none,())).1.getD (nat_lit 1) Bool.false] [Bool.true,Bool.false] then (Option.bind (y0n [(z0f (l.2.1==l.2.2.1) (17:Int)).1,(z0D l.2.2.2.1 (0:Int) (0:Int)).1,(z0D l.2.2.2.2.1 (1:Int) (1000:Int)).1]) fun (v27:Int×Unit)=>some (v27.1,())) else (Option.bind (y0n [(z0f (l.2.1==l.2.2.1) (17:Int)).1,(z0D l.2.2.2.1 (0:Int) (1024:Int)).1,(z0D l.2.2.2.2.1 (1:Int) (1000:Int)).1]) fun (v28:Int×Unit)=>some (v28.1,()))) else (bif !((yY Ty.str ((Ty.arr (2:Nat) Ty.bool).pair (((((Ty.str.pair ((Ty.int IntKind.i64).pair ((Ty.int IntKind.i64).pair ((Ty.int IntKind.i64).pair ((Ty.int IntKind.i64).pair Ty.unit))))).pair ((Ty.int IntKind.i64).pair ((Ty.int IntKind.i64).pair ((Ty.int IntKind.i64).pair (Ty.bool.pair Ty.unit))))).pair Ty.unit).func ((Ty.int IntKind.i64).pair Ty.unit)).pair Ty.unit)) z0U.1 l.1).getD ([Bool.false,Bool.false],fun (x:(Lnk×Int×Int×Int×Bool×Unit)×Unit)=>Option.none,())).1.getD (nat_lit 1) Bool.false then (bif decide (l.2.2.1 ≥ 0) then (bif !decide (l.2.2.1 < nodes) then some ((10:Int),()) else (bif eqV (Ty.arr (2:Nat) Ty.bool) [((yY Ty.str ((Ty.arr (2:Nat) Ty.bool).pair (((((Ty.str.pair ((Ty.int IntKind.i64).pair ((Ty.int IntKind.i64).pair ((Ty.int IntKind.i64).pair ((Ty.int IntKind.i64).pair Ty.unit))))).pair ((Ty.int IntKind.i64).pair ((Ty.int IntKind.i64).pair ((Ty.int IntKind.i64).pair (Ty.bool.pair Ty.unit))))).pair Ty.unit).func ((Ty.int IntKind.i64).pair Ty.unit)).pair Ty.unit)) z0U.1 l.1).getD ([Bool.false,Bool.false],fun (x:(Lnk×Int×Int×Int×Bool×Unit)×Unit)=>Option.none,())).1.getD (nat_lit 0) Bool.false,((yY Ty.str ((Ty.arr (2:Nat) Ty.bool).pair (((((Ty.str.pair ((Ty.int IntKind.i64).pair ((Ty.int IntKind.i64).pair ((Ty.int IntKind.i64).pair ((Ty.int IntKind.i64).pair Ty.unit))))).pair ((Ty.int IntKind.i64).pair ((Ty.int IntKind.i64).pair ((Ty.int IntKind.i64).pair (Ty.bool.pair Ty.unit))))).pair Ty.unit).func ((Ty.int IntKind.i64).pair Ty.unit)).pair Ty.unit)) z0U.1 l.1).getD ([Bool.false,Bool.false],fun (x:(Lnk×Int×Int×Int×Bool×Unit)×Unit)=>Option.none,())).1.getD (nat_lit 1) Bool.false] [Bool.true,Bool.false] then (Option.bind (y0n [(z0f (l.2.1==l.2.2.1) (17:Int)).1,(z0D l.2.2.2.1 (0:Int) (0:Int)).1,(z0D l.2.2.2.2.1 (1:Int) (1000:Int)).1]) fun (v30:Int×Unit)=>some (v30.1,())) else (Option.bind (y0n [(z0f (l.2.1==l.2.2.1) (17:Int)).1,(z0D l.2.2.2.1 (0:Int) (1024:Int)).1,(z0D l.2.2.2.2.1 (1:Int) (1000:Int)).1]) fun (v31:Int×Unit)=>some (v31.1,())))) else some ((10:Int),())) else some ((10:Int),()))) else (bif !((yY Ty.str ((Ty.arr (2:Nat) Ty.bool).pair (((((Ty.str.pair ((Ty.int IntKind.i64).pair ((Ty.int IntKind.i64).pair ((Ty.int IntKind.i64).pair ((Ty.int IntKind.i64).pair Ty.unit))))).pair ((Ty.int IntKind.i64).pair ((Ty.int IntKind.i64).pair ((Ty.int IntKind.i64).pair (Ty.bool.pair Ty.unit))))).pair Ty.unit).func ((Ty.int IntKind.i64).pair Ty.unit)).pair Ty.unit)) z0U.1 l.1).getD ([Bool.false,Bool.false],fun (x:(Lnk×Int×Int×Int×Bool×Unit)×Unit)=>Option.none,())).1.getD (nat_lit 1) Bool.false then (bif decide (l.2.2.1 ≥ 0) then (bif !decide (l.2.2.1 < nodes) then some ((10:Int),()) else (bif eqV (Ty.arr (2:Nat) Ty.bool) [((yY Ty.str ((Ty.arr (2:Nat) Ty.bool).pair (((((Ty.str.pair ((Ty.int IntKind.i64).pair ((Ty.int IntKind.i64).pair ((Ty.int IntKind.i64).pair ((Ty.int IntKind.i64).pair Ty.unit))))).pair ((Ty.int IntKind.i64).pair ((Ty.int IntKind.i64).pair ((Ty.int IntKind.i64).pair (Ty.bool.pair Ty.unit))))).pair Ty.unit).func ((Ty.int IntKind.i64).pair Ty.unit)).pair Ty.unit)) z0U.1 l.1).getD ([Bool.false,Bool.false],fun (x:(Lnk×Int×Int×Int×Bool×Unit)×Unit)=>Option.none,())).1.getD (nat_lit 0) Bool.false,((yY Ty.str ((Ty.arr (2:Nat) Ty.bool).pair (((((Ty.str.pair ((Ty.int IntKind.i64).pair ((Ty.int IntKind.i64).pair ((Ty.int IntKind.i64).pair ((Ty.int IntKind.i64).pair Ty.unit))))).pair ((Ty.int IntKind.i64).pair ((Ty.int IntKind.i64).pair ((Ty.int IntKind.i64).pair (Ty.bool.pair Ty.unit))))).pair Ty.unit).func ((Ty.int IntKind.i64).pair Ty.unit)).pair Ty.unit)) z0U.1 l.1).getD ([Bool.false,Bool.false],fun (x:(Lnk×Int×Int×Int×Bool×Unit)×Unit)=>Option.none,())).1.getD (nat_lit 1) Bool.false] [Bool.true,Bool.false] then (Option.bind (y0n [(z0f (l.2.1==l.2.2.1) (17:Int)).1,(z0D l.2.2.2.1 (0:Int) (0:Int)).1,(z0D l.2.2.2.2.1 (1:Int) (1000:Int)).1]) fun (v33:Int×Unit)=>some (v33.1,())) else (Option.bind (y0n [(z0f (l.2.1==l.2.2.1) (17:Int)).1,(z0D l.2.2.2.1 (0:Int) (1024:Int)).1,(z0D l.2.2.2.2.1 (1:Int) (1000:Int)).1]) fun (v34:Int×Unit)=>some (v34.1,())))) else some ((10:Int),())) else some ((10:Int),()))))
def zk_m (n:Nat) (l:Lnk) (nodes:Int):Option (Int×Unit) :=
  (bif !(yY Ty.str ((Ty.arr (2:Nat) Ty.bool).pair (((((Ty.str.pair ((Ty.int IntKind.i64).pair ((Ty.int IntKind.i64).pair ((Ty.int IntKind.i64).pair ((Ty.int IntKind.i64).pair Ty.unit))))).pair ((Ty.int IntKind.i64).pair ((Ty.int IntKind.i64).pair ((Ty.int IntKind.i64).pair (Ty.bool.pair Ty.unit))))).pair Ty.unit).func ((Ty.int IntKind.i64).pair Ty.unit)).pair Ty.unit)) z0U.1 l.1).isSome then some ((13:Int),()) else (bif ((yY Ty.str ((Ty.arr (2:Nat) Ty.bool).pair (((((Ty.str.pair ((Ty.int IntKind.i64).pair ((Ty.int IntKind.i64).pair ((Ty.int IntKind.i64).pair ((Ty.int IntKind.i64).pair Ty.unit))))).pair ((Ty.int IntKind.i64).pair ((Ty.int IntKind.i64).pair ((Ty.int IntKind.i64).pair (Ty.bool.pair Ty.unit))))).pair Ty.unit).func ((Ty.int IntKind.i64).pair Ty.unit)).pair Ty.unit)) z0U.1 l.1).getD ([Bool.false,Bool.false],fun (x:(Lnk×Int×Int×Int×Bool×Unit)×Unit)=>Option.none,())).1.getD (nat_lit 0) Bool.false then (bif l.2.1==(-1:Int) then (y11 n l nodes (Bool.true)) else (bif !((yY Ty.str ((Ty.arr (2:Nat) Ty.bool).pair (((((Ty.str.pair ((Ty.int IntKind.i64).pair ((Ty.int IntKind.i64).pair ((Ty.int IntKind.i64).pair ((Ty.int IntKind.i64).pair Ty.unit))))).pair ((Ty.int IntKind.i64).pair ((Ty.int IntKind.i64).pair ((Ty.int IntKind.i64).pair (Ty.bool.pair Ty.unit))))).pair Ty.unit).func ((Ty.int IntKind.i64).pair Ty.unit)).pair Ty.unit)) z0U.1 l.1).getD ([Bool.false,Bool.false],fun (x:(Lnk×Int×Int×Int×Bool×Unit)×Unit)=>Option.none,())).1.getD (nat_lit 0) Bool.false then (bif decide (l.2.1 ≥ 0) then (y11 n l nodes (decide (l.2.1 < nodes))) else (y11 n l nodes (Bool.false))) else (y11 n l nodes (Bool.false)))) else (bif !((yY Ty.str ((Ty.arr (2:Nat) Ty.bool).pair (((((Ty.str.pair ((Ty.int IntKind.i64).pair ((Ty.int IntKind.i64).pair ((Ty.int IntKind.i64).pair ((Ty.int IntKind.i64).pair Ty.unit))))).pair ((Ty.int IntKind.i64).pair ((Ty.int IntKind.i64).pair ((Ty.int IntKind.i64).pair (Ty.bool.pair Ty.unit))))).pair Ty.unit).func ((Ty.int IntKind.i64).pair Ty.unit)).pair Ty.unit)) z0U.1 l.1).getD ([Bool.false,Bool.false],fun (x:(Lnk×Int×Int×Int×Bool×Unit)×Unit)=>Option.none,())).1.getD (nat_lit 0) Bool.false then (bif decide (l.2.1 ≥ 0) then (y11 n l nodes (decide (l.2.1 < nodes))) else (y11 n l nodes (Bool.false))) else (y11 n l nodes (Bool.false)))))
def zk_M (l:Lnk) (nodes:Int):Option (Int×Unit) := zk_m 0 l nodes
abbrev zk_e:Entry := { f := 103,args := .pair t163 (.pair t3 .unit),rS := .pair t35 .unit,m := fun x=>zk_M x.1 x.2.1 }
theorem yQM:FnOK Tryz.prog zk_e := fFI 0 Tryz.f103 (fun n x=>zk_m n x.1 x.2.1) [] [il150] 3 (yC yLF (yC y3z (yC y7I (yC y40 eNil)))) (y5Y yJk iNil)
def zZ_m (n:Nat) (r1:Rng):Option (Cnd×Unit) :=
  (Option.bind (zY_M r1 (1:Int)) fun (v0:Cnd×Unit)=>some ((v0.1.1,v0.1.2.1,v0.1.2.2.1,()),()))
def zZ_M (r1:Rng):Option (Cnd×Unit) := zZ_m 0 r1
abbrev zZ_e:Entry := { f := 110,args := .pair t104 .unit,rS := .pair t44 .unit,m := fun x=>zZ_M x.1 }
theorem yQ3:FnOK Tryz.prog zZ_e := fF 0 Tryz.f110 (fun n x=>zZ_m n x.1) [] (yC yNG eNil)
def zd_m (n:Nat) (r1:Rng):Option (Cnd×Unit) :=
  (Option.bind (zY_M r1 (0:Int)) fun (v0:Cnd×Unit)=>some ((v0.1.1,v0.1.2.1,v0.1.2.2.1,()),()))
def zd_M (r1:Rng):Option (Cnd×Unit) := zd_m 0 r1
abbrev zd_e:Entry := { f := 111,args := .pair t104 .unit,rS := .pair t44 .unit,m := fun x=>zd_M x.1 }
theorem yQ1:FnOK Tryz.prog zd_e := fF 0 Tryz.f111 (fun n x=>zd_m n x.1) [] (yC yNG eNil)
def zN_m (n:Nat) (b:Bas) (r1:Rng):Option (Int×Unit) :=
  (Option.bind (zR_M r1.1 fun (x:Int×Unit)=>zv_M x.1) fun (v0:Int×Unit)=>(Option.bind (z8_M r1.2.2.1 fun (x:(Int×Int×Unit)×Unit)=>zJ_M x.1) fun (v1:List Int×Unit)=>(Option.bind (y0n v1.1) fun (v2:Int×Unit)=>(Option.bind (y0n [v0.1,(z0f ((↑r1.2.2.1.length:Int) != (↑b.1.length:Int)) (2:Int)).1,v2.1]) fun (v3:Int×Unit)=>some (v3.1,())))))
def zN_M (b:Bas) (r1:Rng):Option (Int×Unit) := zN_m 0 b r1
abbrev zN_e:Entry := { f := 115,args := .pair t41 (.pair t104 .unit),rS := .pair t35 .unit,m := fun x=>zN_M x.1 x.2.1 }
theorem yQV:FnOK Tryz.prog zN_e := fF 0 Tryz.f115 (fun n x=>zN_m n x.1 x.2.1) [] (yC yPo (yC yMA (yC yN3 (yC y3z (yC yPD (yC y40 eNil))))))
end
end Go.Tw
end
