import Derived.Test.YtkfigfhjbejikaaGreatDoorBT
import Derived.Test.YtkfigfhjbejikaaGreatDoorB0
import Derived.Test.YtkfigfhjbejikaaGreatDoorBA
set_option linter.all false
section
set_option maxRecDepth 1000000
namespace Go.Tw
open Go.Vx Go.Vx.B Go.Proofs
noncomputable section
def yLW (n:Nat) (r0:List (List Int)→List (List Int)→Int→Option (Bool×Unit)) (aP:List (List Int)) (aS:List (List Int)) (aM:Int):Option (Bool×Unit) :=
  (bif decide (aM < (↑aP.length:Int)) then (Option.bind (idx aP aM) fun (v1:List Int)=>(Option.bind (idx aS aM) fun (v2:List Int)=>(Option.bind (zw_M v1 v2) fun (v3:Bool×Unit)=>(bif !v3.1 then some (Bool.false,()) else r0 aP aS (IntKind.i64.wrap (aM + 1)))))) else some (Bool.true,()))
def yKd (n:Nat)  (k:Nat) (aP:List (List Int)) (aS:List (List Int)) (aM:Int):Option (Bool×Unit) :=
  iter (fun r y=>yLW n (fun aP aS aM=>r ((aP,(aS,(aM,()))),((),()))) y.1.1 y.1.2.1 y.1.2.2.1) k ((aP,(aS,(aM,()))),((),()))
def zx_m (n:Nat) (a:List (List Int)) (b:List (List Int)):Option (Bool×Unit) :=
  (bif (↑a.length:Int) != (↑b.length:Int) then some (Bool.false,()) else (yKd n n (a) (b) ((0:Int))))
def zx_M (a:List (List Int)) (b:List (List Int)):Option (Bool×Unit) := zx_m 1000 a b
abbrev zx_e:Entry := { f := 47,args := .pair t56 (.pair t56 .unit),rS := .pair t4 .unit,m := fun x=>zx_M x.1 x.2.1 }
theorem yOR:FnOK Tryz.prog zx_e := fF 1000 Tryz.f47 (fun n x=>zx_m n x.1 x.2.1) [[0,1,5]] (yC yLz eNil)
def yLL (n:Nat) (n1:Int) (least:Int) (most:Int):Option (Int×Unit) :=
  (bif decide (n1 < least) then some ((z0c Bool.true (3:Int)).1,()) else some ((z0c (decide (n1 > most)) (3:Int)).1,()))
def z0A (n1:Int) (least:Int) (most:Int):(Int×Unit) :=
  (bif decide (n1 < least) then ((z0c Bool.true (3:Int)).1,()) else ((z0c (decide (n1 > most)) (3:Int)).1,()))
abbrev yOY (n1:Int) (least:Int) (most:Int):Option (Int×Unit) := some (z0A n1 least most)
abbrev z0A_e:Entry := { f := 90,args := .pair t3 (.pair t3 (.pair t3 .unit)),rS := .pair t35 .unit,m := fun x=>yOY x.1 x.2.1 x.2.2.1 }
theorem y7u:FnOK Tryz.prog z0A_e := fF (hm := by intro x; show some (z0A x.1 x.2.1 x.2.2.1) = yLL 0 x.1 x.2.1 x.2.2.1; unfold yLL z0A; first | rfl | simp only [yp]) 0 Tryz.f90 (fun n x=>yLL n x.1 x.2.1 x.2.2.1) [] (yC y3c eNil)
def yFw (n:Nat) (r0:List Nod→Int→Option (Int×Unit)) (r3:List Nod→Int→Int→Option (Int×Unit)) (au:List Nod) (ar:Int) (aK:Int):Option (Int×Unit) :=
  (bif decide (aK < ar) then (Option.bind (idx au aK) fun (v4:Nod)=>(Option.bind (idx au ar) fun (v5:Nod)=>(bif v4.1==v5.1 then some ((9:Int),()) else r3 au ar (IntKind.i64.wrap (aK + 1))))) else (Option.bind (idx au ar) fun (v6:Nod)=>(Option.bind (idx au ar) fun (v7:Nod)=>(Option.bind (yBp [(zm v6.2.1 (1:Int) (1000:Int)).1,(zm v7.2.2.1 (0:Int) (1024:Int)).1]) fun (v8:Int×Unit)=>(bif v8.1 != 0 then some (v8.1,()) else r0 au (IntKind.i64.wrap (ar + 1)))))))
def yAO (n:Nat) (r0:List Nod→Int→Option (Int×Unit)) (k:Nat) (au:List Nod) (ar:Int) (aK:Int):Option (Int×Unit) :=
  iter (fun r y=>yFw n r0 (fun au ar aK=>r ((au,(ar,(aK,()))),((),()))) y.1.1 y.1.2.1 y.1.2.2.1) k ((au,(ar,(aK,()))),((),()))
def yHi (n:Nat) (r0:List Nod→Int→Option (Int×Unit)) (ay:List Nod) (aE:Int):Option (Int×Unit) :=
  (bif decide (aE < (↑ay.length:Int)) then (Option.bind (idx ay aE) fun (v1:Nod)=>(Option.bind (yGQ v1.1) fun (v2:Bool×Unit)=>(bif !v2.1 then some ((8:Int),()) else (yAO n r0 n (ay) (aE) ((0:Int)))))) else some ((0:Int),()))
def y9Z (n:Nat)  (k:Nat) (ay:List Nod) (aE:Int):Option (Int×Unit) :=
  iter (fun r y=>yHi n (fun ay aE=>r ((ay,(aE,())),((),()))) y.1.1 y.1.2.1) k ((ay,(aE,())),((),()))
def zo_m (n:Nat) (l:List Nod):Option (Int×Unit) :=
  (bif (↑l.length:Int)==0 then some ((12:Int),()) else (bif decide ((↑l.length:Int) > 8) then some ((5:Int),()) else (y9Z n n (l) ((0:Int)))))
def yFP (au:List Nod) (ar:Int) (aK:Int):Option (((Int×Unit)⊕Unit)⊕Unit) :=
  (Option.bind (idx au aK) fun (v4:Nod)=>(Option.bind (idx au ar) fun (v5:Nod)=>(bif v4.1==v5.1 then (some (Sum.inl (Sum.inl (((9:Int),()))))) else (some (Sum.inr ())))))
def yGh (au:List Nod) (ar:Int):Option ((Int×Unit)⊕Unit) :=
  (Option.bind (idx au ar) fun (v6:Nod)=>(Option.bind (idx au ar) fun (v7:Nod)=>(Option.bind (yBp [(zm v6.2.1 (1:Int) (1000:Int)).1,(zm v7.2.2.1 (0:Int) (1024:Int)).1]) fun (v8:Int×Unit)=>(bif v8.1 != 0 then (some (Sum.inl ((v8.1,())))) else (some (Sum.inr ()))))))
theorem yF9 (n:Nat) (hn:big≤n)  (r0:List Nod→Int→Option (Int×Unit)) (au:List Nod) (ar:Int) (hx:(ar)≤9223372036854775807):LeF (elim some fun (ak:Unit)=>r0 au (IntKind.i64.wrap (ar + 1))) (y1a (fun ax ak=>yFP au ar ax) (fun ak=>yGh au ar) ((ar) - 0).toNat 0 ()) (yAO n r0 n au ar 0) := by
  refine y4s (f := (elim some fun (ak:Unit)=>r0 au (IntKind.i64.wrap (ar + 1)))) (W := fun aL ax ak=>yAO n r0 aL au ar ax) (body := (fun ax ak=>yFP au ar ax)) (fin := (fun ak=>yGh au ar)) (fun aL ax ak=>?_) hx () n 0 (by decide) (by unfold big at hn; omega)
  show LeF _ _ (yFw n r0 (yAO n r0 aL) au ar ax)
  exact y5 (y9 fun v4=>(y9 fun v5=>(y5 (y8 rfl) (y8 rfl)))) (y0t (y9 fun v6=>(y9 fun v7=>(y9 fun v8=>(y5 (y8 rfl) (y8 rfl))))))
def yHJ (ay:List Nod) (aE:Int) (v1:Nod):Option ((Int×Unit)⊕Unit) :=
  (Option.bind (yGQ v1.1) fun (v2:Bool×Unit)=>(bif !v2.1 then (some (Sum.inl (((8:Int),())))) else (bif decide ((aE)≤9223372036854775807) then y1a (fun ax ak=>yFP (ay) (aE) ax) (fun ak=>yGh (ay) (aE)) ((aE) - 0).toNat 0 () else none)))
def yKn (ay:List Nod):Option (Int×Unit) :=
  (some (((0:Int),())))
theorem yEd (n:Nat) (hn:big≤n)  (ay:List Nod) (hx:List.length (ay) < lenMax):LeF some (yJ (fun ax aQ ak=>yHJ ay ax aQ) (fun ak=>yKn ay) 0 (ay) ()) (y9Z n n ay 0) := by
  refine yb (f := some) (W := fun aL ax ak=>y9Z n aL ay ax) (fun aL ax ak=>?_) hx () n (by unfold big at hn; unfold lenMax at hx; omega)
  show LeF _ _ (yHi n (y9Z n aL) ay ax)
  exact y5 (y9 fun v1=>(y9 fun v2=>(y5 (y8 rfl) (yd fun hx=>by apply yF9 n hn; exact hx)))) (y0t (y8 rfl))
def zo_M (l:List Nod):Option (Int×Unit) :=
  (bif (↑l.length:Int)==0 then (some (((12:Int),()))) else (bif decide ((↑l.length:Int) > 8) then (some (((5:Int),()))) else (bif decide (List.length (l) < lenMax) then yJ (fun ax aQ ak=>yHJ (l) ax aQ) (fun ak=>yKn (l)) 0 (l) () else none)))
abbrev zo_e:Entry := { f := 94,args := .pair t22 .unit,rS := .pair t3 .unit,m := fun x=>zo_M x.1 }
theorem yPJ:FnOK Tryz.prog zo_e := fB Tryz.f94 (fun n x=>zo_m n x.1) [[0,3],[0,3,4]] (yC yOC (yC yMI (yC yK4 eNil))) fun n hn x=>(y5 (y8 rfl) (y5 (y8 rfl) (yd fun hx=>by apply yEd n hn; exact hx)))
def zv_m (n:Nat) (x1:Lnk) (nodes:Int):Option (Int×Unit) :=
  (Option.bind (yJH z0W.1 x1.1) fun (v0:Bool×Unit)=>(bif !v0.1 then some ((13:Int),()) else (bif !(z0g x1.2.1 nodes (z0j x1.1).1).1 then some ((10:Int),()) else (bif !(z0g x1.2.2.1 nodes (z0j x1.1).2.1).1 then some ((10:Int),()) else (bif x1.2.1==x1.2.2.1 then some ((17:Int),()) else (bif (z0j x1.1).1 then (Option.bind (yBp [(zm x1.2.2.2.1 (0:Int) (0:Int)).1,(zm x1.2.2.2.2.1 (1:Int) (1000:Int)).1]) fun (v4:Int×Unit)=>some (v4.1,())) else (Option.bind (yBp [(zm x1.2.2.2.1 (0:Int) (1024:Int)).1,(zm x1.2.2.2.2.1 (1:Int) (1000:Int)).1]) fun (v5:Int×Unit)=>some (v5.1,()))))))))
def zv_M (x1:Lnk) (nodes:Int):Option (Int×Unit) := zv_m 0 x1 nodes
abbrev zv_e:Entry := { f := 95,args := .pair t83 (.pair t3 .unit),rS := .pair t3 .unit,m := fun x=>zv_M x.1 x.2.1 }
theorem yPN:FnOK Tryz.prog zv_e := fF 0 Tryz.f95 (fun n x=>zv_m n x.1 x.2.1) [] (yC yNs (yC yLt (yC yN9 (yC yMZ (yC yMI (yC yK4 eNil))))))
def yMH (n:Nat) (l:List Psg):Option (List (List Int)×Unit) :=
  (Option.bind (zC_M l fun (x:Psg×Unit)=>zt_M x.1) fun (v0:List (List Int)×Unit)=>some (v0.1,()))
def yNv (l:List Psg):Option (List (List Int)×Unit) := yMH 0 l
abbrev z06_e:Entry := { f := 97,args := .pair t167 .unit,rS := .pair t56 .unit,m := fun x=>yNv x.1 }
theorem yNe:FnOK Tryz.prog z06_e := fF 0 Tryz.f97 (fun n x=>yMH n x.1) [] (yC yOf (yC yOe eNil))
def yLF (n:Nat) (r0:List Nod→Int→Int→List Int→Option (List Int×Unit)) (aI:List Nod) (aJ:Int) (aA:Int) (aH:List Int):Option (List Int×Unit) :=
  (bif decide (aA < aJ) then (Option.bind (idx aI aA) fun (v1:Nod)=>(Option.bind (idx aH aA) fun (v2:Int)=>(Option.bind (aH[aA.toNat]?) fun (v3:Int)=>(Option.bind (zj_M (v1.1,v1.2.1,v1.2.2.1,()) v3) fun (v4:Int×Unit)=>(Option.bind (idx aH aA) fun (v5:Int)=>(Option.bind (aH[aA.toNat]?) fun (v6:Int)=>r0 aI aJ (IntKind.i64.wrap (aA + 1)) (aH.set aA.toNat v4.1))))))) else some (aH,()))
def yLe (n:Nat)  (k:Nat) (aI:List Nod) (aJ:Int) (aA:Int) (aH:List Int):Option (List Int×Unit) :=
  iter (fun r y=>yLF n (fun aI aJ aA aH=>r ((aI,(aJ,(aA,()))),((aH,()),()))) y.1.1 y.1.2.1 y.1.2.2.1 y.2.1.1) k ((aI,(aJ,(aA,()))),((aH,()),()))
def zV_m (n:Nat) (b:Bas) (v:List Int):Option (List Int×Unit) :=
  (bif Bool.true && decide ((0:Int)≤(↑v.length:Int)) && decide ((↑v.length:Int)≤(↑memMax:Int)) && (↑v.length:Int)==(↑v.length:Int) then (yLe n n (b.1) ((↑b.1.length:Int)) ((0:Int)) (List.take (List.replicate (↑v.length:Int).toNat (0:Int)).length v ++ List.drop v.length (List.replicate (↑v.length:Int).toNat (0:Int)))) else none)
def zV_M (b:Bas) (v:List Int):Option (List Int×Unit) := zV_m 1000 b v
abbrev zV_e:Entry := { f := 98,args := .pair t41 (.pair t26 .unit),rS := .pair t26 .unit,m := fun x=>zV_M x.1 x.2.1 }
theorem yOG:FnOK Tryz.prog zV_e := fF 1000 Tryz.f98 (fun n x=>zV_m n x.1 x.2.1) [[5,15,16,17]] (yC yN8 eNil)
def zR_m (n:Nat) (x1:Int×Int×Unit) (check:Int×Unit→Option (Int×Unit)):Option (Int×Unit) :=
  (Option.bind (check (x1.1,())) fun (v0:Int×Unit)=>(Option.bind (check (x1.2.1,())) fun (v1:Int×Unit)=>(Option.bind (y0h [v0.1,v1.1,(z0c (decide (x1.1 > x1.2.1)) (11:Int)).1]) fun (v2:Int×Unit)=>some (v2.1,()))))
def zR_M (x1:Int×Int×Unit) (check:Int×Unit→Option (Int×Unit)):Option (Int×Unit) := zR_m 0 x1 check
abbrev zR_e:Entry := { f := 158,args := .pair t96 (.pair t176 .unit),rS := .pair t35 .unit,m := fun x=>zR_M x.1 x.2.1 }
theorem yLi:FnOK Tryz.prog zR_e := fF 0 Tryz.f158 (fun n x=>zR_m n x.1 x.2.1) [] (yC y3c (yC y3q eNil))
def yMo (n:Nat) (x1:Int×Int×Unit) (p1:Int):Option (Int×Unit) :=
  (Option.bind (idx (z0b x1).1 p1) fun (v0:Int)=>some (v0,()))
def yOD (x1:Int×Int×Unit) (p1:Int):Option (Int×Unit) := yMo 0 x1 p1
abbrev z0O_e:Entry := { f := 165,args := .pair t96 (.pair (.ref t3) .unit),rS := .pair t3 .unit,m := fun x=>yOD x.1 x.2.1 }
theorem yNg:FnOK Tryz.prog z0O_e := fF 0 Tryz.f165 (fun n x=>yMo n x.1 x.2.1) [] (yC yJg eNil)
def zT_m (n:Nat) (p:Lnk×Int×Int×Int×Bool×Unit):Option (Int×Unit) :=
  (Option.bind (yLE (IntKind.i64.wrap (IntKind.i64.wrap (p.2.2.1 * p.2.2.2.1) - p.2.1)) p.1.2.2.2.2.1) fun (v0:Int×Unit)=>some (v0.1,()))
def zT_M (p:Lnk×Int×Int×Int×Bool×Unit):Option (Int×Unit) := zT_m 0 p
abbrev zT_e:Entry := { f := 180,args := .pair t230 .unit,rS := .pair t3 .unit,m := fun x=>zT_M x.1 }
theorem yMm:FnOK Tryz.prog zT_e := fF 0 Tryz.f180 (fun n x=>zT_m n x.1) [] (yC yKA eNil)
def zk_m (n:Nat) (p:Lnk×Int×Int×Int×Bool×Unit) (level:Int):Option (Int×Unit) :=
  (Option.bind (yLE (IntKind.i64.wrap (p.2.1 - IntKind.i64.wrap (p.2.2.1 * level))) p.1.2.2.2.2.1) fun (v0:Int×Unit)=>some (if Bool.true = Bool.true then if v0.1 > 0 then v0.1 else (0:Int) else if v0.1 < 0 then v0.1 else (0:Int),()))
def zk_M (p:Lnk×Int×Int×Int×Bool×Unit) (level:Int):Option (Int×Unit) := zk_m 0 p level
abbrev zk_e:Entry := { f := 182,args := .pair t230 (.pair t3 .unit),rS := .pair t3 .unit,m := fun x=>zk_M x.1 x.2.1 }
theorem yOA:FnOK Tryz.prog zk_e := fF 0 Tryz.f182 (fun n x=>zk_m n x.1 x.2.1) [] (yC yKA eNil)
end
end Go.Tw
end
section
set_option maxRecDepth 1000000
namespace Go.Tw
open Go.Vx Go.Vx.B Go.Proofs
noncomputable section
def yGr (n:Nat) (r1:Bas→Int→Option (Int×Unit)) (az:Bas) (aN:Int):Option (Int×Unit) :=
  (bif decide (aN < (↑az.2.1.length:Int)) then (Option.bind (idx az.2.1 aN) fun (v2:Lnk)=>(Option.bind (zv_M v2 (↑az.1.length:Int)) fun (v3:Int×Unit)=>(bif v3.1 != 0 then some (v3.1,()) else r1 az (IntKind.i64.wrap (aN + 1))))) else some ((0:Int),()))
def y9U (n:Nat)  (k:Nat) (az:Bas) (aN:Int):Option (Int×Unit) :=
  iter (fun r y=>yGr n (fun az aN=>r ((az,(aN,())),((),()))) y.1.1 y.1.2.1) k ((az,(aN,())),((),()))
def zn_m (n:Nat) (b:Bas):Option (Int×Unit) :=
  (Option.bind (zo_M b.1) fun (v0:Int×Unit)=>(bif v0.1 != 0 then some (v0.1,()) else (bif decide ((↑b.2.1.length:Int) > 16) then some ((5:Int),()) else (y9U n n (b) ((0:Int))))))
def yKX (az:Bas) (aN:Int) (v2:Lnk):Option ((Int×Unit)⊕Unit) :=
  (Option.bind (zv_M v2 (↑az.1.length:Int)) fun (v3:Int×Unit)=>(bif v3.1 != 0 then (some (Sum.inl ((v3.1,())))) else (some (Sum.inr ()))))
def yNf (az:Bas):Option (Int×Unit) :=
  (some (((0:Int),())))
theorem yEu (n:Nat) (hn:big≤n)  (az:Bas) (hx:List.length (az.2.1) < lenMax):LeF some (yJ (fun ax aQ ak=>yKX az ax aQ) (fun ak=>yNf az) 0 (az.2.1) ()) (y9U n n az 0) := by
  refine yb (f := some) (W := fun aL ax ak=>y9U n aL az ax) (fun aL ax ak=>?_) hx () n (by unfold big at hn; unfold lenMax at hx; omega)
  show LeF _ _ (yGr n (y9U n aL) az ax)
  exact y5 (y9 fun v2=>(y9 fun v3=>(y5 (y8 rfl) (y8 rfl)))) (y0t (y8 rfl))
def zn_M (b:Bas):Option (Int×Unit) :=
  (Option.bind (zo_M b.1) fun (v0:Int×Unit)=>(bif v0.1 != 0 then (some ((v0.1,()))) else (bif decide ((↑b.2.1.length:Int) > 16) then (some (((5:Int),()))) else (bif decide (List.length (b.2.1) < lenMax) then yJ (fun ax aQ ak=>yKX (b) ax aQ) (fun ak=>yNf (b)) 0 (b.2.1) () else none))))
abbrev zn_e:Entry := { f := 24,args := .pair t25 .unit,rS := .pair t3 .unit,m := fun x=>zn_M x.1 }
theorem yNJ:FnOK Tryz.prog zn_e := fB Tryz.f24 (fun n x=>zn_m n x.1) [[1,4]] (yC yPJ (yC yPN eNil)) fun n hn x=>(y9 fun v0=>(y5 (y8 rfl) (y5 (y8 rfl) (yd fun hx=>by apply yEu n hn; exact hx))))
def yLR (n:Nat) (r1:Bas→List Int→Int→Int→List Int→Option (List Int×Unit)) (aR:Bas) (aF:List Int) (aG:Int) (aC:Int) (aO:List Int):Option (List Int×Unit) :=
  (bif decide (aC < aG) then (Option.bind (idx aF aC) fun (v2:Int)=>(Option.bind (idx aR.1 aC) fun (v3:Nod)=>(bif decide (v2 > v3.2.2.1) then (bif decide (aO.length + (1:Nat)≤memMax) then r1 aR aF aG (IntKind.i64.wrap (aC + 1)) (aO ++ [aC]) else none) else r1 aR aF aG (IntKind.i64.wrap (aC + 1)) aO))) else some (aO,()))
def yKU (n:Nat)  (k:Nat) (aR:Bas) (aF:List Int) (aG:Int) (aC:Int) (aO:List Int):Option (List Int×Unit) :=
  iter (fun r y=>yLR n (fun aR aF aG aC aO=>r ((aR,(aF,(aG,(aC,())))),((aO,()),()))) y.1.1 y.1.2.1 y.1.2.2.1 y.1.2.2.2.1 y.2.1.1) k ((aR,(aF,(aG,(aC,())))),((aO,()),()))
def zb_m (n:Nat) (b:Bas) (v:List Int):Option (List Int×Unit) :=
  (Option.bind (zV_M b v) fun (v0:List Int×Unit)=>(yKU n n (b) (v0.1) ((↑v0.1.length:Int)) ((0:Int)) ([])))
def zb_M (b:Bas) (v:List Int):Option (List Int×Unit) := zb_m 1000 b v
abbrev zb_e:Entry := { f := 99,args := .pair t41 (.pair t26 .unit),rS := .pair t26 .unit,m := fun x=>zb_M x.1 x.2.1 }
theorem yOu:FnOK Tryz.prog zb_e := fF (mu := [5]) 1000 Tryz.f99 (fun n x=>zb_m n x.1 x.2.1) [[2,5,10,11,12]] (yC yOG eNil)
def yNO (n:Nat) (l:List (Int×Int×Unit)) (upper:Int):Option (List Int×Unit) :=
  (Option.bind (zF_M l fun (x:(Int×Int×Unit)×Unit)=>yOD x.1 upper) fun (v0:List Int×Unit)=>some (v0.1,()))
def yJ6 (l:List (Int×Int×Unit)) (upper:Int):Option (List Int×Unit) := yNO 0 l upper
abbrev z0i_e:Entry := { f := 119,args := .pair t97 (.pair t3 .unit),rS := .pair t26 .unit,m := fun x=>yJ6 x.1 x.2.1 }
theorem yK6:FnOK Tryz.prog z0i_e := fF 0 Tryz.f119 (fun n x=>yNO n x.1 x.2.1) [] (yC yNg (yC yPF eNil))
def zr_m (n:Nat) (n1:Int):Option (Int×Unit) :=
  some ((z0A n1 (-1024:Int) (1024:Int)).1,())
def zr (n1:Int):(Int×Unit) :=
  ((z0A n1 (-1024:Int) (1024:Int)).1,())
abbrev zr_M (n1:Int):Option (Int×Unit) := some (zr n1)
abbrev zr_e:Entry := { f := 137,args := .pair t3 .unit,rS := .pair t35 .unit,m := fun x=>zr_M x.1 }
theorem yNn:FnOK Tryz.prog zr_e := fF (hm := by intro x; show some (zr x.1) = zr_m 0 x.1; unfold zr_m zr; first | rfl | simp only [yp]) 0 Tryz.f137 (fun n x=>zr_m n x.1) [] (yC y7u eNil)
def zd_m (n:Nat) (n1:Int):Option (Int×Unit) :=
  some ((z0A n1 (0:Int) (100000:Int)).1,())
def zd (n1:Int):(Int×Unit) :=
  ((z0A n1 (0:Int) (100000:Int)).1,())
abbrev zd_M (n1:Int):Option (Int×Unit) := some (zd n1)
abbrev zd_e:Entry := { f := 139,args := .pair t3 .unit,rS := .pair t35 .unit,m := fun x=>zd_M x.1 }
theorem yM0:FnOK Tryz.prog zd_e := fF (hm := by intro x; show some (zd x.1) = zd_m 0 x.1; unfold zd_m zd; first | rfl | simp only [yp]) 0 Tryz.f139 (fun n x=>zd_m n x.1) [] (yC y7u eNil)
def zH_m (n:Nat) (n1:Int):Option (Int×Unit) :=
  some ((z0A n1 (0:Int) (100000000:Int)).1,())
def zH (n1:Int):(Int×Unit) :=
  ((z0A n1 (0:Int) (100000000:Int)).1,())
abbrev zH_M (n1:Int):Option (Int×Unit) := some (zH n1)
abbrev zH_e:Entry := { f := 151,args := .pair t3 .unit,rS := .pair t35 .unit,m := fun x=>zH_M x.1 }
theorem yOL:FnOK Tryz.prog zH_e := fF (hm := by intro x; show some (zH x.1) = zH_m 0 x.1; unfold zH_m zH; first | rfl | simp only [yp]) 0 Tryz.f151 (fun n x=>zH_m n x.1) [] (yC y7u eNil)
def zO_m (n:Nat) (n1:Int):Option (Int×Unit) :=
  some ((z0A n1 (0:Int) (100000000:Int)).1,())
def zO (n1:Int):(Int×Unit) :=
  ((z0A n1 (0:Int) (100000000:Int)).1,())
abbrev zO_M (n1:Int):Option (Int×Unit) := some (zO n1)
abbrev zO_e:Entry := { f := 160,args := .pair t3 .unit,rS := .pair t35 .unit,m := fun x=>zO_M x.1 }
theorem yON:FnOK Tryz.prog zO_e := fF (hm := by intro x; show some (zO x.1) = zO_m 0 x.1; unfold zO_m zO; first | rfl | simp only [yp]) 0 Tryz.f160 (fun n x=>zO_m n x.1) [] (yC y7u eNil)
def zP_m (n:Nat) (x1:Int×Int×Unit) (p1:Int×Unit→Option (Int×Unit)):Option (Int×Unit) :=
  (Option.bind (zR_M x1 p1) fun (v0:Int×Unit)=>some (v0.1,()))
def zP_M (x1:Int×Int×Unit) (p1:Int×Unit→Option (Int×Unit)):Option (Int×Unit) := zP_m 0 x1 p1
abbrev zP_e:Entry := { f := 161,args := .pair t96 (.pair (.ref t176) .unit),rS := .pair t35 .unit,m := fun x=>zP_M x.1 x.2.1 }
theorem yPP:FnOK Tryz.prog zP_e := fF 0 Tryz.f161 (fun n x=>zP_m n x.1 x.2.1) [] (yC yLi eNil)
def zS_m (n:Nat) (p:Lnk×Int×Int×Int×Bool×Unit):Option (Int×Unit) :=
  (bif !p.2.2.2.2.1 then some ((0:Int),()) else (Option.bind (zT_M p) fun (v0:Int×Unit)=>some (if v0.1 > IntKind.i64.wrap ((0:Int) - p.2.1) then v0.1 else IntKind.i64.wrap ((0:Int) - p.2.1),())))
def zS_M (p:Lnk×Int×Int×Int×Bool×Unit):Option (Int×Unit) := zS_m 0 p
abbrev zS_e:Entry := { f := 178,args := .pair t230 .unit,rS := .pair t3 .unit,m := fun x=>zS_M x.1 }
theorem yPH:FnOK Tryz.prog zS_e := fF 0 Tryz.f178 (fun n x=>zS_m n x.1) [] (yC yMm eNil)
def yMw (n:Nat) (p:Lnk×Int×Int×Int×Bool×Unit):Option (Int×Unit) :=
  (Option.bind (zT_M p) fun (v0:Int×Unit)=>some (if Bool.true = Bool.true then if v0.1 > 0 then v0.1 else (0:Int) else if v0.1 < 0 then v0.1 else (0:Int),()))
def yLI (p:Lnk×Int×Int×Int×Bool×Unit):Option (Int×Unit) := yMw 0 p
abbrev z02_e:Entry := { f := 179,args := .pair t230 .unit,rS := .pair t3 .unit,m := fun x=>yLI x.1 }
theorem yNo:FnOK Tryz.prog z02_e := fF 0 Tryz.f179 (fun n x=>yMw n x.1) [] (yC yMm eNil)
def yOE (n:Nat) (p:Lnk×Int×Int×Int×Bool×Unit):Option (Int×Unit) :=
  (Option.bind (zk_M p (if p.1.2.2.2.1 > p.2.2.2.1 then p.1.2.2.2.1 else p.2.2.2.1)) fun (v0:Int×Unit)=>some (v0.1,()))
def yLA (p:Lnk×Int×Int×Int×Bool×Unit):Option (Int×Unit) := yOE 0 p
abbrev z03_e:Entry := { f := 181,args := .pair t230 .unit,rS := .pair t3 .unit,m := fun x=>yLA x.1 }
theorem yMb:FnOK Tryz.prog z03_e := fF 0 Tryz.f181 (fun n x=>yOE n x.1) [] (yC yOA eNil)
def yMd (n:Nat) (p:Lnk×Int×Int×Int×Bool×Unit):Option (Int×Unit) :=
  (Option.bind (zk_M p p.1.2.2.2.1) fun (v0:Int×Unit)=>some (v0.1,()))
def yKk (p:Lnk×Int×Int×Int×Bool×Unit):Option (Int×Unit) := yMd 0 p
abbrev z05_e:Entry := { f := 184,args := .pair t230 .unit,rS := .pair t3 .unit,m := fun x=>yKk x.1 }
theorem yMz:FnOK Tryz.prog z05_e := fF 0 Tryz.f184 (fun n x=>yMd n x.1) [] (yC yOA eNil)
end
end Go.Tw
end
section
set_option maxRecDepth 1000000
namespace Go.Tw
open Go.Vx Go.Vx.B Go.Proofs
noncomputable section
def zG_m (n:Nat) (b:Bas) (c:Cnd):Option (Int×Unit) :=
  (Option.bind (zI_M c.2.2.1 fun (x:Int×Unit)=>zd_M x.1) fun (v0:List Int×Unit)=>(Option.bind (y0h v0.1) fun (v1:Int×Unit)=>(Option.bind (y0h [(zr c.1).1,(z0c ((↑c.2.2.1.length:Int) != (↑b.1.length:Int)) (2:Int)).1,v1.1]) fun (v2:Int×Unit)=>some (v2.1,()))))
def zG_M (b:Bas) (c:Cnd):Option (Int×Unit) := zG_m 0 b c
abbrev zG_e:Entry := { f := 88,args := .pair t41 (.pair t44 .unit),rS := .pair t35 .unit,m := fun x=>zG_M x.1 x.2.1 }
theorem yNB:FnOK Tryz.prog zG_e := fF 0 Tryz.f88 (fun n x=>zG_m n x.1 x.2.1) [] (yC yNn (yC y3c (yC yNp (yC yM0 (yC y3q eNil)))))
def zK_m (n:Nat) (b:Bas) (v:List Int):Option (Int×Unit) :=
  (Option.bind (zI_M v fun (x:Int×Unit)=>zH_M x.1) fun (v0:List Int×Unit)=>(Option.bind (y0h v0.1) fun (v1:Int×Unit)=>(Option.bind (y0h [(z0c ((↑v.length:Int) != (↑b.1.length:Int)) (2:Int)).1,v1.1]) fun (v2:Int×Unit)=>some (v2.1,()))))
def zK_M (b:Bas) (v:List Int):Option (Int×Unit) := zK_m 0 b v
abbrev zK_e:Entry := { f := 104,args := .pair t41 (.pair t26 .unit),rS := .pair t35 .unit,m := fun x=>zK_M x.1 x.2.1 }
theorem yOV:FnOK Tryz.prog zK_e := fF 0 Tryz.f104 (fun n x=>zK_m n x.1 x.2.1) [] (yC y3c (yC yNp (yC yOL (yC y3q eNil))))
abbrev yKY:Ty := .unit
abbrev yMc:Ty := .pair t222 .unit
def yNH:G := { T := T,E := [zS_e,z02_e,z03_e,z04_e,z05_e],mU := [],fz := [] }
def yOX:List (List Nat) := []
def yJp (n:Nat):Ann := { keep := yOX,fuel := n,inl := [],deep := 0 }
def yI0 (n:Nat)  : Option (List (List UInt8×List Bool×((Lnk×Int×Int×Int×Bool×Unit)×Unit→Option (Int×Unit))×Unit)×Unit) :=
  some ([([(98:UInt8),97,114,114,105,101,114],[Bool.true,Bool.false],fun (x:(Lnk×Int×Int×Int×Bool×Unit)×Unit)=>zS_M x.1,()),([(108:UInt8),101,97,107],[Bool.true,Bool.false],fun (x:(Lnk×Int×Int×Int×Bool×Unit)×Unit)=>yLI x.1,()),([(111:UInt8),117,116,102,97,108,108],[Bool.false,Bool.true],fun (x:(Lnk×Int×Int×Int×Bool×Unit)×Unit)=>yLA x.1,()),([(112:UInt8),117,109,112],[Bool.false,Bool.false],fun (x:(Lnk×Int×Int×Int×Bool×Unit)×Unit)=>yKM x.1,()),([(119:UInt8),101,105,114],[Bool.false,Bool.false],fun (x:(Lnk×Int×Int×Int×Bool×Unit)×Unit)=>yKk x.1,())],())
theorem yN1 (n:Nat) (x:yKY.den):runF yNH (yJp n) Tryz.f141 yKY yMc x = yI0 n := by kernel_rfl
def z0R  : (List (List UInt8×List Bool×((Lnk×Int×Int×Int×Bool×Unit)×Unit→Option (Int×Unit))×Unit)×Unit) :=
  ([([(98:UInt8),97,114,114,105,101,114],[Bool.true,Bool.false],fun (x:(Lnk×Int×Int×Int×Bool×Unit)×Unit)=>zS_M x.1,()),([(108:UInt8),101,97,107],[Bool.true,Bool.false],fun (x:(Lnk×Int×Int×Int×Bool×Unit)×Unit)=>yLI x.1,()),([(111:UInt8),117,116,102,97,108,108],[Bool.false,Bool.true],fun (x:(Lnk×Int×Int×Int×Bool×Unit)×Unit)=>yLA x.1,()),([(112:UInt8),117,109,112],[Bool.false,Bool.false],fun (x:(Lnk×Int×Int×Int×Bool×Unit)×Unit)=>yKM x.1,()),([(119:UInt8),101,105,114],[Bool.false,Bool.false],fun (x:(Lnk×Int×Int×Int×Bool×Unit)×Unit)=>yKk x.1,())],())
abbrev yO0  : Option (List (List UInt8×List Bool×((Lnk×Int×Int×Int×Bool×Unit)×Unit→Option (Int×Unit))×Unit)×Unit) := some (z0R)
theorem yLk  (y:List (List UInt8×List Bool×((Lnk×Int×Int×Int×Bool×Unit)×Unit→Option (Int×Unit))×Unit)×Unit) (h:yO0 = some y) : ∃ n,yI0 n = some y :=
  ⟨0,by rw [← h]; show yI0 0 = some (z0R); unfold yI0 z0R; first | rfl | (simp only [yp]; done) | (simp only [yp]; rfl)⟩
def z0R_e:Entry := { f := 141,args := yKY,rS := yMc,m := fun x=>yO0 }
theorem yJy:FnOK Tryz.prog z0R_e := y2v (g := yNH) (fn := Tryz.f141) y17 y2W (yC yPH (yC yNo (yC yMb (yC yNj (yC yMz eNil))))) (by kernel_rfl) (by kernel_rfl) (by kernel_rfl) (fun x y h=>let ⟨n,hn⟩ := yLk y h; ⟨yJp n,iNil,(yN1 n x).trans hn⟩)
def zY_m (n:Nat) (r1:Rng) (upper:Int):Option (Cnd×Unit) :=
  (Option.bind (idx (z0b r1.1).1 upper) fun (v0:Int)=>(Option.bind (yJ6 r1.2.2.1 upper) fun (v1:List Int×Unit)=>some ((v0,r1.2.1,v1.1,()),())))
def zY_M (r1:Rng) (upper:Int):Option (Cnd×Unit) := zY_m 0 r1 upper
abbrev zY_e:Entry := { f := 154,args := .pair t104 (.pair t3 .unit),rS := .pair t44 .unit,m := fun x=>zY_M x.1 x.2.1 }
theorem yN2:FnOK Tryz.prog zY_e := fF 0 Tryz.f154 (fun n x=>zY_m n x.1 x.2.1) [] (yC yJg (yC yK6 eNil))
def zJ_m (n:Nat) (x1:Int×Int×Unit):Option (Int×Unit) :=
  (Option.bind (zR_M x1 fun (x:Int×Unit)=>zd_M x.1) fun (v0:Int×Unit)=>some (v0.1,()))
def zJ_M (x1:Int×Int×Unit):Option (Int×Unit) := zJ_m 0 x1
abbrev zJ_e:Entry := { f := 157,args := .pair t96 .unit,rS := .pair t35 .unit,m := fun x=>zJ_M x.1 }
theorem yPB:FnOK Tryz.prog zJ_e := fF 0 Tryz.f157 (fun n x=>zJ_m n x.1) [] (yC yLi (yC yM0 eNil))
end
end Go.Tw
end
section
set_option maxRecDepth 1000000
namespace Go.Tw
open Go.Vx Go.Vx.B Go.Proofs
noncomputable section
def il140:Inl := { f := 140,fn := Tryz.f140,keep := [],mU := [],fz := [] }
theorem yJ9:y1u Tryz.prog il140 := ⟨by kernel_rfl,by kernel_rfl,fun e0 h=>by cases (show (none:Option LibK) = some e0 from h)⟩
def y6t (n:Nat) (r12:Bas→Cnd→List (List UInt8×List Bool×((Lnk×Int×Int×Int×Bool×Unit)×Unit→Option (Int×Unit))×Unit)→List Lnk→Int→Int→Bool→List Int→List Int→Option (List Int×Option (List Int)×Bool×Unit)) (ai:Bas) (af:Cnd) (a7:List (List UInt8×List Bool×((Lnk×Int×Int×Int×Bool×Unit)×Unit→Option (Int×Unit))×Unit)) (a8:List Lnk) (av:Int) (ah:Int) (aa:List Int) (v13:Lnk) (v17:Int×Unit) (j26:Bool) (j27:List Int):Option (List Int×Option (List Int)×Bool×Unit) :=
  (bif v13.2.2.1 != (-1:Int) then (Option.bind (idx j27 v13.2.2.1) fun (v28:Int)=>(Option.bind (j27[v13.2.2.1.toNat]?) fun (v29:Int)=>(Option.bind (idx j27 v13.2.2.1) fun (v30:Int)=>(Option.bind (j27[v13.2.2.1.toNat]?) fun (v31:Int)=>(bif j26 then (Option.bind (idx (j27.set v13.2.2.1.toNat (IntKind.i64.wrap (v29 + v17.1))) v13.2.2.1) fun (v32:Int)=>(Option.bind ((j27.set v13.2.2.1.toNat (IntKind.i64.wrap (v29 + v17.1)))[v13.2.2.1.toNat]?) fun (v33:Int)=>(bif decide (aa.length + (1:Nat)≤memMax) then r12 ai af a7 a8 av (IntKind.i64.wrap (ah + 1)) (decide (v33≤100000000)) (aa ++ [v17.1]) (j27.set v13.2.2.1.toNat (IntKind.i64.wrap (v29 + v17.1))) else none))) else (bif decide (aa.length + (1:Nat)≤memMax) then r12 ai af a7 a8 av (IntKind.i64.wrap (ah + 1)) Bool.false (aa ++ [v17.1]) (j27.set v13.2.2.1.toNat (IntKind.i64.wrap (v29 + v17.1))) else none)))))) else (bif decide (aa.length + (1:Nat)≤memMax) then r12 ai af a7 a8 av (IntKind.i64.wrap (ah + 1)) j26 (aa ++ [v17.1]) j27 else none))
def yDR (n:Nat) (r12:Bas→Cnd→List (List UInt8×List Bool×((Lnk×Int×Int×Int×Bool×Unit)×Unit→Option (Int×Unit))×Unit)→List Lnk→Int→Int→Bool→List Int→List Int→Option (List Int×Option (List Int)×Bool×Unit)) (ai:Bas) (af:Cnd) (a7:List (List UInt8×List Bool×((Lnk×Int×Int×Int×Bool×Unit)×Unit→Option (Int×Unit))×Unit)) (a8:List Lnk) (av:Int) (ah:Int) (aj:Bool) (aa:List Int) (ac:List Int):Option (List Int×Option (List Int)×Bool×Unit) :=
  (bif decide (ah < av) then (Option.bind (idx a8 ah) fun (v13:Lnk)=>(Option.bind (idx ac (zq (v13.1,v13.2.1,v13.2.2.1,v13.2.2.2.1,v13.2.2.2.2.1,())).1) fun (v14:Int)=>(Option.bind (ac[(zq (v13.1,v13.2.1,v13.2.2.1,v13.2.2.2.1,v13.2.2.2.2.1,())).1.toNat]?) fun (v15:Int)=>(Option.bind (idx ai.1 (zq (v13.1,v13.2.1,v13.2.2.1,v13.2.2.2.1,v13.2.2.2.2.1,())).1) fun (v16:Nod)=>(Option.bind (((yV Ty.str ((Ty.arr (nat_lit 2) Ty.bool).pair (((((Ty.str.pair ((Ty.int IntKind.i64).pair ((Ty.int IntKind.i64).pair ((Ty.int IntKind.i64).pair ((Ty.int IntKind.i64).pair Ty.unit))))).pair ((Ty.int IntKind.i64).pair ((Ty.int IntKind.i64).pair ((Ty.int IntKind.i64).pair (Ty.bool.pair Ty.unit))))).pair Ty.unit).func ((Ty.int IntKind.i64).pair Ty.unit)).pair Ty.unit)) a7 v13.1).getD ([Bool.false,Bool.false],fun (x:(((Ty.str.pair ((Ty.int IntKind.i64).pair ((Ty.int IntKind.i64).pair ((Ty.int IntKind.i64).pair ((Ty.int IntKind.i64).pair Ty.unit))))).pair ((Ty.int IntKind.i64).pair ((Ty.int IntKind.i64).pair ((Ty.int IntKind.i64).pair (Ty.bool.pair Ty.unit))))).pair Ty.unit).den)=>Option.none,())).2.1 (((v13.1,v13.2.1,v13.2.2.1,v13.2.2.2.1,v13.2.2.2.2.1,()),v15,v16.2.1,af.1,af.2.1,()),())) fun (v17:Int×Unit)=>(bif v13.2.1 != (-1:Int) then (Option.bind (idx ac v13.2.1) fun (v18:Int)=>(Option.bind (ac[v13.2.1.toNat]?) fun (v19:Int)=>(Option.bind (idx ac v13.2.1) fun (v20:Int)=>(Option.bind (ac[v13.2.1.toNat]?) fun (v21:Int)=>(bif aj then (Option.bind (idx (ac.set v13.2.1.toNat (IntKind.i64.wrap (v19 + IntKind.i64.wrap ((0:Int) - v17.1)))) v13.2.1) fun (v22:Int)=>(Option.bind ((ac.set v13.2.1.toNat (IntKind.i64.wrap (v19 + IntKind.i64.wrap ((0:Int) - v17.1))))[v13.2.1.toNat]?) fun (v23:Int)=>(y6t n r12 ai af a7 a8 av ah aa v13 v17 (decide (v23≤100000000)) (ac.set v13.2.1.toNat (IntKind.i64.wrap (v19 + IntKind.i64.wrap ((0:Int) - v17.1))))))) else (y6t n r12 ai af a7 a8 av ah aa v13 v17 (Bool.false) (ac.set v13.2.1.toNat (IntKind.i64.wrap (v19 + IntKind.i64.wrap ((0:Int) - v17.1)))))))))) else (y6t n r12 ai af a7 a8 av ah aa v13 v17 (aj) (ac)))))))) else some (aa,some ac,aj,()))
def y6e (n:Nat)  (k:Nat) (ai:Bas) (af:Cnd) (a7:List (List UInt8×List Bool×((Lnk×Int×Int×Int×Bool×Unit)×Unit→Option (Int×Unit))×Unit)) (a8:List Lnk) (av:Int) (ah:Int) (aj:Bool) (aa:List Int) (ac:List Int):Option (List Int×Option (List Int)×Bool×Unit) :=
  iter (fun r y=>yDR n (fun ai af a7 a8 av ah aj aa ac=>r ((ai,(af,((),(a7,(a8,(av,(ah,()))))))),(((),((aj,()),(aa,(ac,())))),()))) y.1.1 y.1.2.1 y.1.2.2.2.1 y.1.2.2.2.2.1 y.1.2.2.2.2.2.1 y.1.2.2.2.2.2.2.1 y.2.1.2.1.1 y.2.1.2.2.1 y.2.1.2.2.2.1) k ((ai,(af,((),(a7,(a8,(av,(ah,()))))))),(((),((aj,()),(aa,(ac,())))),()))
def yH8 (n:Nat) (r0:Bas→Cnd→List Int→Int→Int→Bool→List Int→Option (List Int×Option (List Int)×Bool×Unit)) (aw:Bas) (aB:Cnd) (am:List Int) (aD:Int) (ae:Int) (al:Bool) (aq:List Int):Option (List Int×Option (List Int)×Bool×Unit) :=
  (bif decide (ae < aD) then (Option.bind (idx am ae) fun (v1:Int)=>(bif ae != (-1:Int) then (Option.bind (idx aq ae) fun (v2:Int)=>(Option.bind (aq[ae.toNat]?) fun (v3:Int)=>(Option.bind (idx aq ae) fun (v4:Int)=>(Option.bind (aq[ae.toNat]?) fun (v5:Int)=>(bif al then (Option.bind (idx (aq.set ae.toNat (IntKind.i64.wrap (v3 + v1))) ae) fun (v6:Int)=>(Option.bind ((aq.set ae.toNat (IntKind.i64.wrap (v3 + v1)))[ae.toNat]?) fun (v7:Int)=>r0 aw aB am aD (IntKind.i64.wrap (ae + 1)) (decide (v7≤100000000)) (aq.set ae.toNat (IntKind.i64.wrap (v3 + v1))))) else r0 aw aB am aD (IntKind.i64.wrap (ae + 1)) Bool.false (aq.set ae.toNat (IntKind.i64.wrap (v3 + v1)))))))) else r0 aw aB am aD (IntKind.i64.wrap (ae + 1)) al aq)) else (y6e n n (aw) (aB) (z0R.1) (aw.2.1) ((↑aw.2.1.length:Int)) ((0:Int)) (al) ([]) (aq)))
def y9d (n:Nat)  (k:Nat) (aw:Bas) (aB:Cnd) (am:List Int) (aD:Int) (ae:Int) (al:Bool) (aq:List Int):Option (List Int×Option (List Int)×Bool×Unit) :=
  iter (fun r y=>yH8 n (fun aw aB am aD ae al aq=>r ((aw,(aB,((),(am,(aD,(ae,())))))),(((),((al,()),(aq,()))),()))) y.1.1 y.1.2.1 y.1.2.2.2.1 y.1.2.2.2.2.1 y.1.2.2.2.2.2.1 y.2.1.2.1.1 y.2.1.2.2.1) k ((aw,(aB,((),(am,(aD,(ae,())))))),(((),((al,()),(aq,()))),()))
def zg_m (n:Nat) (b:Bas) (v:List Int) (c:Cnd):Option (List Int×Option (List Int)×Bool×Unit) :=
  (bif Bool.true && decide ((0:Int)≤(↑v.length:Int)) && decide ((↑v.length:Int)≤(↑memMax:Int)) && (↑v.length:Int)==(↑v.length:Int) then (y9d n n (b) (c) (c.2.2.1) ((↑c.2.2.1.length:Int)) ((0:Int)) (Bool.true) (List.take (List.replicate (↑v.length:Int).toNat (0:Int)).length v ++ List.drop v.length (List.replicate (↑v.length:Int).toNat (0:Int)))) else none)
def yE3 (ai:Bas) (af:Cnd) (a7:List (List UInt8×List Bool×((Lnk×Int×Int×Int×Bool×Unit)×Unit→Option (Int×Unit))×Unit)) (a8:List Lnk) (ah:Int) (aa:List Int) (v13:Lnk) (v17:Int×Unit) (j26:Bool) (j27:List Int):Option ((List Int×Option (List Int)×Bool×Unit)⊕(Bool×List Int×List Int)) :=
  (bif v13.2.2.1 != (-1:Int) then (Option.bind (idx j27 v13.2.2.1) fun (v28:Int)=>(Option.bind (j27[v13.2.2.1.toNat]?) fun (v29:Int)=>(Option.bind (idx j27 v13.2.2.1) fun (v30:Int)=>(Option.bind (j27[v13.2.2.1.toNat]?) fun (v31:Int)=>(bif j26 then (Option.bind (idx (j27.set v13.2.2.1.toNat (IntKind.i64.wrap (v29 + v17.1))) v13.2.2.1) fun (v32:Int)=>(Option.bind ((j27.set v13.2.2.1.toNat (IntKind.i64.wrap (v29 + v17.1)))[v13.2.2.1.toNat]?) fun (v33:Int)=>(bif decide (aa.length + (1:Nat)≤memMax) then (some (Sum.inr ((decide (v33≤100000000)),(aa ++ [v17.1]),(j27.set v13.2.2.1.toNat (IntKind.i64.wrap (v29 + v17.1)))))) else none))) else (bif decide (aa.length + (1:Nat)≤memMax) then (some (Sum.inr ((Bool.false),(aa ++ [v17.1]),(j27.set v13.2.2.1.toNat (IntKind.i64.wrap (v29 + v17.1)))))) else none)))))) else (bif decide (aa.length + (1:Nat)≤memMax) then (some (Sum.inr ((j26),(aa ++ [v17.1]),(j27)))) else none))
theorem y0M (n:Nat) (hn:big≤n)  (r12:Bas→Cnd→List (List UInt8×List Bool×((Lnk×Int×Int×Int×Bool×Unit)×Unit→Option (Int×Unit))×Unit)→List Lnk→Int→Int→Bool→List Int→List Int→Option (List Int×Option (List Int)×Bool×Unit)) (ai:Bas) (af:Cnd) (a7:List (List UInt8×List Bool×((Lnk×Int×Int×Int×Bool×Unit)×Unit→Option (Int×Unit))×Unit)) (a8:List Lnk) (ah:Int) (aa:List Int) (v13:Lnk) (v17:Int×Unit) (j26:Bool) (j27:List Int):LeF (elim some fun (ak:(Bool×List Int×List Int))=>r12 ai af a7 a8 (List.length (a8):Int) (IntKind.i64.wrap (ah + 1)) ak.1 ak.2.1 ak.2.2) (yE3 ai af a7 a8 ah aa v13 v17 j26 j27) (y6t n r12 ai af a7 a8 (List.length (a8):Int) ah aa v13 v17 j26 j27) :=
  (y5 (y9 fun v28=>(y9 fun v29=>(y9 fun v30=>(y9 fun v31=>(y5 (y9 fun v32=>(y9 fun v33=>(y5 (y8 rfl) yL))) (y5 (y8 rfl) yL)))))) (y5 (y8 rfl) yL))
def yK3 (ai:Bas) (af:Cnd) (a7:List (List UInt8×List Bool×((Lnk×Int×Int×Int×Bool×Unit)×Unit→Option (Int×Unit))×Unit)) (a8:List Lnk) (ah:Int) (v13:Lnk) (aj:Bool) (aa:List Int) (ac:List Int):Option ((List Int×Option (List Int)×Bool×Unit)⊕(Bool×List Int×List Int)) :=
  (Option.bind (idx ac (zq (v13.1,v13.2.1,v13.2.2.1,v13.2.2.2.1,v13.2.2.2.2.1,())).1) fun (v14:Int)=>(Option.bind (ac[(zq (v13.1,v13.2.1,v13.2.2.1,v13.2.2.2.1,v13.2.2.2.2.1,())).1.toNat]?) fun (v15:Int)=>(Option.bind (idx ai.1 (zq (v13.1,v13.2.1,v13.2.2.1,v13.2.2.2.1,v13.2.2.2.2.1,())).1) fun (v16:Nod)=>(Option.bind (((yV Ty.str ((Ty.arr (nat_lit 2) Ty.bool).pair (((((Ty.str.pair ((Ty.int IntKind.i64).pair ((Ty.int IntKind.i64).pair ((Ty.int IntKind.i64).pair ((Ty.int IntKind.i64).pair Ty.unit))))).pair ((Ty.int IntKind.i64).pair ((Ty.int IntKind.i64).pair ((Ty.int IntKind.i64).pair (Ty.bool.pair Ty.unit))))).pair Ty.unit).func ((Ty.int IntKind.i64).pair Ty.unit)).pair Ty.unit)) a7 v13.1).getD ([Bool.false,Bool.false],fun (x:(((Ty.str.pair ((Ty.int IntKind.i64).pair ((Ty.int IntKind.i64).pair ((Ty.int IntKind.i64).pair ((Ty.int IntKind.i64).pair Ty.unit))))).pair ((Ty.int IntKind.i64).pair ((Ty.int IntKind.i64).pair ((Ty.int IntKind.i64).pair (Ty.bool.pair Ty.unit))))).pair Ty.unit).den)=>Option.none,())).2.1 (((v13.1,v13.2.1,v13.2.2.1,v13.2.2.2.1,v13.2.2.2.2.1,()),v15,v16.2.1,af.1,af.2.1,()),())) fun (v17:Int×Unit)=>(bif v13.2.1 != (-1:Int) then (Option.bind (idx ac v13.2.1) fun (v18:Int)=>(Option.bind (ac[v13.2.1.toNat]?) fun (v19:Int)=>(Option.bind (idx ac v13.2.1) fun (v20:Int)=>(Option.bind (ac[v13.2.1.toNat]?) fun (v21:Int)=>(bif aj then (Option.bind (idx (ac.set v13.2.1.toNat (IntKind.i64.wrap (v19 + IntKind.i64.wrap ((0:Int) - v17.1)))) v13.2.1) fun (v22:Int)=>(Option.bind ((ac.set v13.2.1.toNat (IntKind.i64.wrap (v19 + IntKind.i64.wrap ((0:Int) - v17.1))))[v13.2.1.toNat]?) fun (v23:Int)=>(yE3 ai af a7 a8 ah aa v13 v17 (decide (v23≤100000000)) (ac.set v13.2.1.toNat (IntKind.i64.wrap (v19 + IntKind.i64.wrap ((0:Int) - v17.1))))))) else (yE3 ai af a7 a8 ah aa v13 v17 (Bool.false) (ac.set v13.2.1.toNat (IntKind.i64.wrap (v19 + IntKind.i64.wrap ((0:Int) - v17.1)))))))))) else (yE3 ai af a7 a8 ah aa v13 v17 (aj) (ac)))))))
def yK9 (ai:Bas) (af:Cnd) (a7:List (List UInt8×List Bool×((Lnk×Int×Int×Int×Bool×Unit)×Unit→Option (Int×Unit))×Unit)) (a8:List Lnk) (aj:Bool) (aa:List Int) (ac:List Int):Option (List Int×Option (List Int)×Bool×Unit) :=
  (some ((aa,some ac,aj,())))
theorem yD4 (n:Nat) (hn:big≤n)  (ai:Bas) (af:Cnd) (a7:List (List UInt8×List Bool×((Lnk×Int×Int×Int×Bool×Unit)×Unit→Option (Int×Unit))×Unit)) (a8:List Lnk) (aj:Bool) (aa:List Int) (ac:List Int) (hx:List.length (a8) < lenMax):LeF some (yJ (fun ax aQ ak=>yK3 ai af a7 a8 ax aQ ak.1 ak.2.1 ak.2.2) (fun ak=>yK9 ai af a7 a8 ak.1 ak.2.1 ak.2.2) 0 (a8) (aj,aa,ac)) (y6e n n ai af a7 a8 (List.length (a8):Int) 0 aj aa ac) := by
  refine yb (f := some) (W := fun aL ax ak=>y6e n aL ai af a7 a8 (List.length (a8):Int) ax ak.1 ak.2.1 ak.2.2) (fun aL ax ak=>?_) hx (aj,aa,ac) n (by unfold big at hn; unfold lenMax at hx; omega)
  show LeF _ _ (yDR n (y6e n aL) ai af a7 a8 (List.length (a8):Int) ax ak.1 ak.2.1 ak.2.2)
  exact y5 (y9 fun v13=>(y9 fun v14=>(y9 fun v15=>(y9 fun v16=>(y9 fun v17=>(y5 (y9 fun v18=>(y9 fun v19=>(y9 fun v20=>(y9 fun v21=>(y5 (y9 fun v22=>(y9 fun v23=>(by apply y0M n hn))) (by apply y0M n hn)))))) (by apply y0M n hn))))))) (y0t (y8 rfl))
def yNS (aw:Bas) (aB:Cnd) (am:List Int) (ae:Int) (v1:Int) (al:Bool) (aq:List Int):Option ((List Int×Option (List Int)×Bool×Unit)⊕(Bool×List Int)) :=
  (bif ae != (-1:Int) then (Option.bind (idx aq ae) fun (v2:Int)=>(Option.bind (aq[ae.toNat]?) fun (v3:Int)=>(Option.bind (idx aq ae) fun (v4:Int)=>(Option.bind (aq[ae.toNat]?) fun (v5:Int)=>(bif al then (Option.bind (idx (aq.set ae.toNat (IntKind.i64.wrap (v3 + v1))) ae) fun (v6:Int)=>(Option.bind ((aq.set ae.toNat (IntKind.i64.wrap (v3 + v1)))[ae.toNat]?) fun (v7:Int)=>(some (Sum.inr ((decide (v7≤100000000)),(aq.set ae.toNat (IntKind.i64.wrap (v3 + v1)))))))) else (some (Sum.inr ((Bool.false),(aq.set ae.toNat (IntKind.i64.wrap (v3 + v1))))))))))) else (some (Sum.inr ((al),(aq)))))
def yNL (aw:Bas) (aB:Cnd) (am:List Int) (al:Bool) (aq:List Int):Option (List Int×Option (List Int)×Bool×Unit) :=
  (bif decide (List.length (aw.2.1) < lenMax) then yJ (fun ax aQ ak=>yK3 (aw) (aB) (z0R.1) (aw.2.1) ax aQ ak.1 ak.2.1 ak.2.2) (fun ak=>yK9 (aw) (aB) (z0R.1) (aw.2.1) ak.1 ak.2.1 ak.2.2) 0 (aw.2.1) ((al),([]),(aq)) else none)
theorem yF1 (n:Nat) (hn:big≤n)  (aw:Bas) (aB:Cnd) (am:List Int) (al:Bool) (aq:List Int) (hx:List.length (am) < lenMax):LeF some (yJ (fun ax aQ ak=>yNS aw aB am ax aQ ak.1 ak.2) (fun ak=>yNL aw aB am ak.1 ak.2) 0 (am) (al,aq)) (y9d n n aw aB am (List.length (am):Int) 0 al aq) := by
  refine yb (f := some) (W := fun aL ax ak=>y9d n aL aw aB am (List.length (am):Int) ax ak.1 ak.2) (fun aL ax ak=>?_) hx (al,aq) n (by unfold big at hn; unfold lenMax at hx; omega)
  show LeF _ _ (yH8 n (y9d n aL) aw aB am (List.length (am):Int) ax ak.1 ak.2)
  exact y5 (y9 fun v1=>(y5 (y9 fun v2=>(y9 fun v3=>(y9 fun v4=>(y9 fun v5=>(y5 (y9 fun v6=>(y9 fun v7=>(y8 rfl))) (y8 rfl)))))) (y8 rfl))) (y0t (yd fun hx=>by apply yD4 n hn; exact hx))
def zg_M (b:Bas) (v:List Int) (c:Cnd):Option (List Int×Option (List Int)×Bool×Unit) :=
  (bif Bool.true && decide ((0:Int)≤(↑v.length:Int)) && decide ((↑v.length:Int)≤(↑memMax:Int)) && (↑v.length:Int)==(↑v.length:Int) then (bif decide (List.length (c.2.2.1) < lenMax) then yJ (fun ax aQ ak=>yNS (b) (c) (c.2.2.1) ax aQ ak.1 ak.2) (fun ak=>yNL (b) (c) (c.2.2.1) ak.1 ak.2) 0 (c.2.2.1) ((Bool.true),(List.take (List.replicate (↑v.length:Int).toNat (0:Int)).length v ++ List.drop v.length (List.replicate (↑v.length:Int).toNat (0:Int)))) else none) else none)
abbrev zg_e:Entry := { f := 92,args := .pair t41 (.pair t26 (.pair t44 .unit)),rS := .pair t26 (.pair (.nS (.int .i64)) (.pair t4 .unit)),m := fun x=>zg_M x.1 x.2.1 x.2.2.1 }
theorem yMs:FnOK Tryz.prog zg_e := fBI (mu := [14]) Tryz.f92 (fun n x=>zg_m n x.1 x.2.1 x.2.2.1) [[3,5,9,10,11,28,29,30],[3,5,9,10,11,14,15,42,43,44]] [il140] 3 (yC yJy (yC yOS eNil)) (y5I yJ9 iNil) fun n hn x=>(y5 (yd fun hx=>by apply yF1 n hn; exact hx) yL)
def il150:Inl := { f := 150,fn := Tryz.f150,keep := [],mU := [],fz := [] }
theorem yIh:y1u Tryz.prog il150 := ⟨by kernel_rfl,by kernel_rfl,fun e0 h=>by cases (show (none:Option LibK) = some e0 from h)⟩
def y12 (n:Nat) (l:Lnk) (nodes:Int) (j5:Bool):Option (Int×Unit) :=
  (bif !j5 then some ((10:Int),()) else (bif ((yV Ty.str ((Ty.arr (2:Nat) Ty.bool).pair (((((Ty.str.pair ((Ty.int IntKind.i64).pair ((Ty.int IntKind.i64).pair ((Ty.int IntKind.i64).pair ((Ty.int IntKind.i64).pair Ty.unit))))).pair ((Ty.int IntKind.i64).pair ((Ty.int IntKind.i64).pair ((Ty.int IntKind.i64).pair (Ty.bool.pair Ty.unit))))).pair Ty.unit).func ((Ty.int IntKind.i64).pair Ty.unit)).pair Ty.unit)) z0R.1 l.1).getD ([Bool.false,Bool.false],fun (x:(Lnk×Int×Int×Int×Bool×Unit)×Unit)=>Option.none,())).1.getD (nat_lit 1) Bool.false then (bif l.2.2.1==(-1:Int) then (bif eqV (Ty.arr (2:Nat) Ty.bool) [((yV Ty.str ((Ty.arr (2:Nat) Ty.bool).pair (((((Ty.str.pair ((Ty.int IntKind.i64).pair ((Ty.int IntKind.i64).pair ((Ty.int IntKind.i64).pair ((Ty.int IntKind.i64).pair Ty.unit))))).pair ((Ty.int IntKind.i64).pair ((Ty.int IntKind.i64).pair ((Ty.int IntKind.i64).pair (Ty.bool.pair Ty.unit))))).pair Ty.unit).func ((Ty.int IntKind.i64).pair Ty.unit)).pair Ty.unit)) z0R.1 l.1).getD ([Bool.false,Bool.false],fun (x:(Lnk×Int×Int×Int×Bool×Unit)×Unit)=>Option.none,())).1.getD (nat_lit 0) Bool.false,((yV Ty.str ((Ty.arr (2:Nat) Ty.bool).pair (((((Ty.str.pair ((Ty.int IntKind.i64).pair ((Ty.int IntKind.i64).pair ((Ty.int IntKind.i64).pair ((Ty.int IntKind.i64).pair Ty.unit))))).pair ((Ty.int IntKind.i64).pair ((Ty.int IntKind.i64).pair ((Ty.int IntKind.i64).pair (Ty.bool.pair Ty.unit))))).pair Ty.unit).func ((Ty.int IntKind.i64).pair Ty.unit)).pair Ty.unit)) z0R.1 l.1).getD ([Bool.false,Bool.false],fun (x:(Lnk×Int×Int×Int×Bool×Unit)×Unit)=>Option.none,())).1.getD (nat_lit 1) Bool.false] [Bool.true,Bool.false] then (Option.bind (y0h [(z0c (l.2.1==l.2.2.1) (17:Int)).1,(z0A l.2.2.2.1 (0:Int) (0:Int)).1,(z0A l.2.2.2.2.1 (1:Int) (1000:Int)).1]) fun (v27:Int×Unit)=>some (v27.1,())) else (Option.bind (y0h [(z0c (l.2.1==l.2.2.1) (17:Int)).1,(z0A l.2.2.2.1 (0:Int) (1024:Int)).1,(z0A l.2.2.2.2.1 (1:Int) (1000:Int)).1]) fun (v28:Int×Unit)=>some (v28.1,()))) else (bif !((yV Ty.str ((Ty.arr (2:Nat) Ty.bool).pair (((((Ty.str.pair ((Ty.int IntKind.i64).pair ((Ty.int IntKind.i64).pair ((Ty.int IntKind.i64).pair ((Ty.int IntKind.i64).pair Ty.unit))))).pair ((Ty.int IntKind.i64).pair ((Ty.int IntKind.i64).pair ((Ty.int IntKind.i64).pair (Ty.bool.pair Ty.unit))))).pair Ty.unit).func ((Ty.int IntKind.i64).pair Ty.unit)).pair Ty.unit)) z0R.1 l.1).getD ([Bool.false,Bool.false],fun (x:(Lnk×Int×Int×Int×Bool×Unit)×Unit)=>Option.none,())).1.getD (nat_lit 1) Bool.false then (bif decide (l.2.2.1 ≥ 0) then (bif !decide (l.2.2.1 < nodes) then some ((10:Int),()) else (bif eqV (Ty.arr (2:Nat) Ty.bool) [((yV Ty.str ((Ty.arr (2:Nat) Ty.bool).pair (((((Ty.str.pair ((Ty.int IntKind.i64).pair ((Ty.int IntKind.i64).pair ((Ty.int IntKind.i64).pair ((Ty.int IntKind.i64).pair Ty.unit))))).pair ((Ty.int IntKind.i64).pair ((Ty.int IntKind.i64).pair ((Ty.int IntKind.i64).pair (Ty.bool.pair Ty.unit))))).pair Ty.unit).func ((Ty.int IntKind.i64).pair Ty.unit)).pair Ty.unit)) z0R.1 l.1).getD ([Bool.false,Bool.false],fun (x:(Lnk×Int×Int×Int×Bool×Unit)×Unit)=>Option.none,())).1.getD (nat_lit 0) Bool.false,((yV Ty.str ((Ty.arr (2:Nat) Ty.bool).pair (((((Ty.str.pair ((Ty.int IntKind.i64).pair ((Ty.int IntKind.i64).pair ((Ty.int IntKind.i64).pair ((Ty.int IntKind.i64).pair Ty.unit))))).pair ((Ty.int IntKind.i64).pair ((Ty.int IntKind.i64).pair ((Ty.int IntKind.i64).pair (Ty.bool.pair Ty.unit))))).pair Ty.unit).func ((Ty.int IntKind.i64).pair Ty.unit)).pair Ty.unit)) z0R.1 l.1).getD ([Bool.false,Bool.false],fun (x:(Lnk×Int×Int×Int×Bool×Unit)×Unit)=>Option.none,())).1.getD (nat_lit 1) Bool.false] [Bool.true,Bool.false] then (Option.bind (y0h [(z0c (l.2.1==l.2.2.1) (17:Int)).1,(z0A l.2.2.2.1 (0:Int) (0:Int)).1,(z0A l.2.2.2.2.1 (1:Int) (1000:Int)).1]) fun (v30:Int×Unit)=>some (v30.1,())) else (Option.bind (y0h [(z0c (l.2.1==l.2.2.1) (17:Int)).1,(z0A l.2.2.2.1 (0:Int) (1024:Int)).1,(z0A l.2.2.2.2.1 (1:Int) (1000:Int)).1]) fun (v31:Int×Unit)=>some (v31.1,())))) else some ((10:Int),())) else some ((10:Int),()))) else (bif !((yV Ty.str ((Ty.arr (2:Nat) Ty.bool).pair (((((Ty.str.pair ((Ty.int IntKind.i64).pair ((Ty.int IntKind.i64).pair ((Ty.int IntKind.i64).pair ((Ty.int IntKind.i64).pair Ty.unit))))).pair ((Ty.int IntKind.i64).pair ((Ty.int IntKind.i64).pair ((Ty.int IntKind.i64).pair (Ty.bool.pair Ty.unit))))).pair Ty.unit).func ((Ty.int IntKind.i64).pair Ty.unit)).pair Ty.unit)) z0R.1 l.1).getD ([Bool.false,Bool.false],fun (x:(Lnk×Int×Int×Int×Bool×Unit)×Unit)=>Option.none,())).1.getD (nat_lit 1) Bool.false then (bif decide (l.2.2.1 ≥ 0) then (bif !decide (l.2.2.1 < nodes) then some ((10:Int),()) else (bif eqV (Ty.arr (2:Nat) Ty.bool) [((yV Ty.str ((Ty.arr (2:Nat) Ty.bool).pair (((((Ty.str.pair ((Ty.int IntKind.i64).pair ((Ty.int IntKind.i64).pair ((Ty.int IntKind.i64).pair ((Ty.int IntKind.i64).pair Ty.unit))))).pair ((Ty.int IntKind.i64).pair ((Ty.int IntKind.i64).pair ((Ty.int IntKind.i64).pair (Ty.bool.pair Ty.unit))))).pair Ty.unit).func ((Ty.int IntKind.i64).pair Ty.unit)).pair Ty.unit)) z0R.1 l.1).getD ([Bool.false,Bool.false],fun (x:(Lnk×Int×Int×Int×Bool×Unit)×Unit)=>Option.none,())).1.getD (nat_lit 0) Bool.false,((yV Ty.str ((Ty.arr (2:Nat) Ty.bool).pair (((((Ty.str.pair ((Ty.int IntKind.i64).pair ((Ty.int IntKind.i64).pair ((Ty.int IntKind.i64).pair ((Ty.int IntKind.i64).pair Ty.unit))))).pair ((Ty.int IntKind.i64).pair ((Ty.int IntKind.i64).pair ((Ty.int IntKind.i64).pair (Ty.bool.pair Ty.unit))))).pair Ty.unit).func ((Ty.int IntKind.i64).pair Ty.unit)).pair Ty.unit)) z0R.1 l.1).getD ([Bool.false,Bool.false],fun (x:(Lnk×Int×Int×Int×Bool×Unit)×Unit)=>Option.none,())).1.getD (nat_lit 1) Bool.false] [Bool.true,Bool.false] then (Option.bind (y0h [(z0c (l.2.1==l.2.2.1) (17:Int)).1,(z0A l.2.2.2.1 (0:Int) (0:Int)).1,(z0A l.2.2.2.2.1 (1:Int) (1000:Int)).1]) fun (v33:Int×Unit)=>some (v33.1,())) else (Option.bind (y0h [(z0c (l.2.1==l.2.2.1) (17:Int)).1,(z0A l.2.2.2.1 (0:Int) (1024:Int)).1,(z0A l.2.2.2.2.1 (1:Int) (1000:Int)).1]) fun (v34:Int×Unit)=>some (v34.1,())))) else some ((10:Int),())) else some ((10:Int),()))))
def zi_m (n:Nat) (l:Lnk) (nodes:Int):Option (Int×Unit) :=
  (bif !(yV Ty.str ((Ty.arr (2:Nat) Ty.bool).pair (((((Ty.str.pair ((Ty.int IntKind.i64).pair ((Ty.int IntKind.i64).pair ((Ty.int IntKind.i64).pair ((Ty.int IntKind.i64).pair Ty.unit))))).pair ((Ty.int IntKind.i64).pair ((Ty.int IntKind.i64).pair ((Ty.int IntKind.i64).pair (Ty.bool.pair Ty.unit))))).pair Ty.unit).func ((Ty.int IntKind.i64).pair Ty.unit)).pair Ty.unit)) z0R.1 l.1).isSome then some ((13:Int),()) else (bif ((yV Ty.str ((Ty.arr (2:Nat) Ty.bool).pair (((((Ty.str.pair ((Ty.int IntKind.i64).pair ((Ty.int IntKind.i64).pair ((Ty.int IntKind.i64).pair ((Ty.int IntKind.i64).pair Ty.unit))))).pair ((Ty.int IntKind.i64).pair ((Ty.int IntKind.i64).pair ((Ty.int IntKind.i64).pair (Ty.bool.pair Ty.unit))))).pair Ty.unit).func ((Ty.int IntKind.i64).pair Ty.unit)).pair Ty.unit)) z0R.1 l.1).getD ([Bool.false,Bool.false],fun (x:(Lnk×Int×Int×Int×Bool×Unit)×Unit)=>Option.none,())).1.getD (nat_lit 0) Bool.false then (bif l.2.1==(-1:Int) then (y12 n l nodes (Bool.true)) else (bif !((yV Ty.str ((Ty.arr (2:Nat) Ty.bool).pair (((((Ty.str.pair ((Ty.int IntKind.i64).pair ((Ty.int IntKind.i64).pair ((Ty.int IntKind.i64).pair ((Ty.int IntKind.i64).pair Ty.unit))))).pair ((Ty.int IntKind.i64).pair ((Ty.int IntKind.i64).pair ((Ty.int IntKind.i64).pair (Ty.bool.pair Ty.unit))))).pair Ty.unit).func ((Ty.int IntKind.i64).pair Ty.unit)).pair Ty.unit)) z0R.1 l.1).getD ([Bool.false,Bool.false],fun (x:(Lnk×Int×Int×Int×Bool×Unit)×Unit)=>Option.none,())).1.getD (nat_lit 0) Bool.false then (bif decide (l.2.1 ≥ 0) then (y12 n l nodes (decide (l.2.1 < nodes))) else (y12 n l nodes (Bool.false))) else (y12 n l nodes (Bool.false)))) else (bif !((yV Ty.str ((Ty.arr (2:Nat) Ty.bool).pair (((((Ty.str.pair ((Ty.int IntKind.i64).pair ((Ty.int IntKind.i64).pair ((Ty.int IntKind.i64).pair ((Ty.int IntKind.i64).pair Ty.unit))))).pair ((Ty.int IntKind.i64).pair ((Ty.int IntKind.i64).pair ((Ty.int IntKind.i64).pair (Ty.bool.pair Ty.unit))))).pair Ty.unit).func ((Ty.int IntKind.i64).pair Ty.unit)).pair Ty.unit)) z0R.1 l.1).getD ([Bool.false,Bool.false],fun (x:(Lnk×Int×Int×Int×Bool×Unit)×Unit)=>Option.none,())).1.getD (nat_lit 0) Bool.false then (bif decide (l.2.1 ≥ 0) then (y12 n l nodes (decide (l.2.1 < nodes))) else (y12 n l nodes (Bool.false))) else (y12 n l nodes (Bool.false)))))
def zi_M (l:Lnk) (nodes:Int):Option (Int×Unit) := zi_m 0 l nodes
abbrev zi_e:Entry := { f := 103,args := .pair t163 (.pair t3 .unit),rS := .pair t35 .unit,m := fun x=>zi_M x.1 x.2.1 }
theorem yOd:FnOK Tryz.prog zi_e := fFI 0 Tryz.f103 (fun n x=>zi_m n x.1 x.2.1) [] [il150] 3 (yC yJy (yC y3c (yC y7u (yC y3q eNil)))) (y5I yIh iNil)
def zZ_m (n:Nat) (r1:Rng):Option (Cnd×Unit) :=
  (Option.bind (zY_M r1 (1:Int)) fun (v0:Cnd×Unit)=>some ((v0.1.1,v0.1.2.1,v0.1.2.2.1,()),()))
def zZ_M (r1:Rng):Option (Cnd×Unit) := zZ_m 0 r1
abbrev zZ_e:Entry := { f := 110,args := .pair t104 .unit,rS := .pair t44 .unit,m := fun x=>zZ_M x.1 }
theorem yOT:FnOK Tryz.prog zZ_e := fF 0 Tryz.f110 (fun n x=>zZ_m n x.1) [] (yC yN2 eNil)
def zc_m (n:Nat) (r1:Rng):Option (Cnd×Unit) :=
  (Option.bind (zY_M r1 (0:Int)) fun (v0:Cnd×Unit)=>some ((v0.1.1,v0.1.2.1,v0.1.2.2.1,()),()))
def zc_M (r1:Rng):Option (Cnd×Unit) := zc_m 0 r1
abbrev zc_e:Entry := { f := 111,args := .pair t104 .unit,rS := .pair t44 .unit,m := fun x=>zc_M x.1 }
theorem yOr:FnOK Tryz.prog zc_e := fF 0 Tryz.f111 (fun n x=>zc_m n x.1) [] (yC yN2 eNil)
def zN_m (n:Nat) (b:Bas) (r1:Rng):Option (Int×Unit) :=
  (Option.bind (zR_M r1.1 fun (x:Int×Unit)=>zr_M x.1) fun (v0:Int×Unit)=>(Option.bind (z8_M r1.2.2.1 fun (x:(Int×Int×Unit)×Unit)=>zJ_M x.1) fun (v1:List Int×Unit)=>(Option.bind (y0h v1.1) fun (v2:Int×Unit)=>(Option.bind (y0h [v0.1,(z0c ((↑r1.2.2.1.length:Int) != (↑b.1.length:Int)) (2:Int)).1,v2.1]) fun (v3:Int×Unit)=>some (v3.1,())))))
def zN_M (b:Bas) (r1:Rng):Option (Int×Unit) := zN_m 0 b r1
abbrev zN_e:Entry := { f := 115,args := .pair t41 (.pair t104 .unit),rS := .pair t35 .unit,m := fun x=>zN_M x.1 x.2.1 }
theorem yOz:FnOK Tryz.prog zN_e := fF 0 Tryz.f115 (fun n x=>zN_m n x.1 x.2.1) [] (yC yPB (yC yLi (yC yNn (yC y3c (yC yMD (yC y3q eNil))))))
end
end Go.Tw
end
