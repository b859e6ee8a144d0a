import Derived.Test.YtkfigfhjbejikaaGreatDoorBT
import Derived.Test.YtkfigfhjbejikaaGreatDoorB0
set_option linter.all false
section
set_option maxRecDepth 1000000
namespace Go.Tw
open Go.Vx Go.Vx.B Go.Proofs
noncomputable section
def yMK (n:Nat) (holds:Bool) (e:Int):Option (Int×Unit) :=
  (bif holds then some (e,()) else some ((0:Int),()))
def z0f (holds:Bool) (e:Int):(Int×Unit) :=
  (bif holds then (e,()) else ((0:Int),()))
abbrev yQD (holds:Bool) (e:Int):Option (Int×Unit) := some (z0f holds e)
abbrev z0f_e:Entry := { f := 89,args := .pair t4 (.pair t35 .unit),rS := .pair t35 .unit,m := fun x=>yQD x.1 x.2.1 }
theorem y3z:FnOK Tryz.prog z0f_e := fF (hm := by intro x; show some (z0f x.1 x.2.1) = yMK 0 x.1 x.2.1; unfold yMK z0f; first | rfl | simp only [yo]) 0 Tryz.f89 (fun n x=>yMK n x.1 x.2.1) [] eNil
def yE8 (n:Nat) (r0:List Int→Int→Int→Option (Int×Unit)) (ax:List Int) (aQ:Int) (aK:Int):Option (Int×Unit) :=
  (bif decide (aK < aQ) then (Option.bind (idx ax aK) fun (v1:Int)=>(bif v1 != 0 then some (v1,()) else r0 ax aQ (IntKind.i64.wrap (aK + 1)))) else some ((0:Int),()))
def y6z (n:Nat)  (k:Nat) (ax:List Int) (aQ:Int) (aK:Int):Option (Int×Unit) :=
  iter (fun r y=>yE8 n (fun ax aQ aK=>r ((ax,(aQ,(aK,()))),((),()))) y.1.1 y.1.2.1 y.1.2.2.1) k ((ax,(aQ,(aK,()))),((),()))
def yQY (n:Nat) (l:List Int):Option (Int×Unit) :=
  (y6z n n (l) ((↑l.length:Int)) ((0:Int)))
def yGU (ax:List Int) (aK:Int) (v1:Int):Option ((Int×Unit)⊕Unit) :=
  (bif v1 != 0 then (some (Sum.inl ((v1,())))) else (some (Sum.inr ())))
def yHZ (ax:List Int):Option (Int×Unit) :=
  (some (((0:Int),())))
theorem yDQ (n:Nat) (hn:big≤n)  (ax:List Int) (hx:List.length (ax) < lenMax):LeF some (yK (fun ah aw af=>yGU ax ah aw) (fun af=>yHZ ax) 0 (ax) ()) (y6z n n ax (List.length (ax):Int) 0) := by
  refine yT (f := some) (W := fun au ah af=>y6z n au ax (List.length (ax):Int) ah) (fun au ah af=>?_) hx () n (by unfold big at hn; unfold lenMax at hx; omega)
  show LeF _ _ (yE8 n (y6z n au) ax (List.length (ax):Int) ah)
  exact y5 (y6 fun v1=>(y5 (y7 rfl) (y7 rfl))) (y0R (y7 rfl))
def y0n (l:List Int):Option (Int×Unit) :=
  (bif decide (List.length (l) < lenMax) then yK (fun ah aw af=>yGU (l) ah aw) (fun af=>yHZ (l)) 0 (l) () else none)
abbrev z0S_e:Entry := { f := 87,args := .pair t174 .unit,rS := .pair t35 .unit,m := fun x=>y0n x.1 }
theorem y40:FnOK Tryz.prog z0S_e := fB Tryz.f87 (fun n x=>yQY n x.1) [[5,6,7]] eNil fun n hn x=>(yV fun hx=>by apply yDQ n hn; exact hx)
def zl_m (n:Nat) (n1:Nod) (volume:Int):Option (Int×Unit) :=
  (bif n1.2.1==0 then none else some (IntKind.i64.wrap (volume.tdiv n1.2.1),()))
def zl_M (n1:Nod) (volume:Int):Option (Int×Unit) := zl_m 0 n1 volume
abbrev zl_e:Entry := { f := 91,args := .pair t159 (.pair t3 .unit),rS := .pair t3 .unit,m := fun x=>zl_M x.1 x.2.1 }
theorem yOc:FnOK Tryz.prog zl_e := fF 0 Tryz.f91 (fun n x=>zl_m n x.1 x.2.1) [] eNil
def yOj (n:Nat) (a:Int) (b:Int):Option (Int×Unit) :=
  (bif b==0 then none else (bif decide (IntKind.i64.wrap (IntKind.i64.wrap (a.tdiv b) * b) > a) then some (IntKind.i64.wrap (IntKind.i64.wrap (a.tdiv b) - (1:Int)),()) else some (IntKind.i64.wrap (a.tdiv b),())))
def yM7 (a:Int) (b:Int):Option (Int×Unit) := yOj 0 a b
abbrev z0T_e:Entry := { f := 199,args := .pair t3 (.pair t3 .unit),rS := .pair t3 .unit,m := fun x=>yM7 x.1 x.2.1 }
theorem yLG:FnOK Tryz.prog z0T_e := fF 0 Tryz.f199 (fun n x=>yOj n x.1 x.2.1) [] eNil
def zp_m (n:Nat) (n1:Int) (low:Int) (high:Int):Option (Int×Unit) :=
  (bif decide (n1 < low) then some ((3:Int),()) else (bif decide (n1 > high) then some ((3:Int),()) else some ((0:Int),())))
def zp (n1:Int) (low:Int) (high:Int):(Int×Unit) :=
  (bif decide (n1 < low) then ((3:Int),()) else (bif decide (n1 > high) then ((3:Int),()) else ((0:Int),())))
abbrev zp_M (n1:Int) (low:Int) (high:Int):Option (Int×Unit) := some (zp n1 low high)
abbrev zp_e:Entry := { f := 93,args := .pair t3 (.pair t3 (.pair t3 .unit)),rS := .pair t3 .unit,m := fun x=>zp_M x.1 x.2.1 x.2.2.1 }
theorem yM3:FnOK Tryz.prog zp_e := fF (hm := by intro x; show some (zp x.1 x.2.1 x.2.2.1) = zp_m 0 x.1 x.2.1 x.2.2.1; unfold zp_m zp; first | rfl | simp only [yo]) 0 Tryz.f93 (fun n x=>zp_m n x.1 x.2.1 x.2.2.1) [] eNil
def yDW (n:Nat) (r0:List Int→Int→Option (Int×Unit)) (aj:List Int) (aH:Int):Option (Int×Unit) :=
  (bif decide (aH < (↑aj.length:Int)) then (Option.bind (idx aj aH) fun (v1:Int)=>(bif v1 != 0 then (Option.bind (idx aj aH) fun (v2:Int)=>some (v2,())) else r0 aj (IntKind.i64.wrap (aH + 1)))) else some ((0:Int),()))
def y6f (n:Nat)  (k:Nat) (aj:List Int) (aH:Int):Option (Int×Unit) :=
  iter (fun r y=>yDW n (fun aj aH=>r ((aj,(aH,())),((),()))) y.1.1 y.1.2.1) k ((aj,(aH,())),((),()))
def yQB (n:Nat) (l:List Int):Option (Int×Unit) :=
  (y6f n n (l) ((0:Int)))
def yEX (aj:List Int) (aH:Int) (v1:Int):Option ((Int×Unit)⊕Unit) :=
  (bif v1 != 0 then (Option.bind (idx aj aH) fun (v2:Int)=>(some (Sum.inl ((v2,()))))) else (some (Sum.inr ())))
def yEA (aj:List Int):Option (Int×Unit) :=
  (some (((0:Int),())))
theorem yDA (n:Nat) (hn:big≤n)  (aj:List Int) (hx:List.length (aj) < lenMax):LeF some (yK (fun ah aw af=>yEX aj ah aw) (fun af=>yEA aj) 0 (aj) ()) (y6f n n aj 0) := by
  refine yT (f := some) (W := fun au ah af=>y6f n au aj ah) (fun au ah af=>?_) hx () n (by unfold big at hn; unfold lenMax at hx; omega)
  show LeF _ _ (yDW n (y6f n au) aj ah)
  exact y5 (y6 fun v1=>(y5 (y6 fun v2=>(y7 rfl)) (y7 rfl))) (y0R (y7 rfl))
def yBX (l:List Int):Option (Int×Unit) :=
  (bif decide (List.length (l) < lenMax) then yK (fun ah aw af=>yEX (l) ah aw) (fun af=>yEA (l)) 0 (l) () else none)
abbrev z0X_e:Entry := { f := 121,args := .pair t26 .unit,rS := .pair t3 .unit,m := fun x=>yBX x.1 }
theorem yKj:FnOK Tryz.prog z0X_e := fB Tryz.f121 (fun n x=>yQB n x.1) [[0,3]] eNil fun n hn x=>(yV fun hx=>by apply yDA n hn; exact hx)
def yMz (n:Nat) (kind:List UInt8):Option (Bool×Bool×Unit) :=
  (bif kind==[(98:UInt8),97,114,114,105,101,114] then some (Bool.true,kind==[(111:UInt8),117,116,102,97,108,108],()) else some (kind==[(108:UInt8),101,97,107],kind==[(111:UInt8),117,116,102,97,108,108],()))
def z0n (kind:List UInt8):(Bool×Bool×Unit) :=
  (bif kind==[(98:UInt8),97,114,114,105,101,114] then (Bool.true,kind==[(111:UInt8),117,116,102,97,108,108],()) else (kind==[(108:UInt8),101,97,107],kind==[(111:UInt8),117,116,102,97,108,108],()))
abbrev yPl (kind:List UInt8):Option (Bool×Bool×Unit) := some (z0n kind)
abbrev z0n_e:Entry := { f := 145,args := .pair t9 .unit,rS := .pair t4 (.pair t4 .unit),m := fun x=>yPl x.1 }
theorem yNJ:FnOK Tryz.prog z0n_e := fF (hm := by intro x; show some (z0n x.1) = yMz 0 x.1; unfold yMz z0n; first | rfl | simp only [yo]) 0 Tryz.f145 (fun n x=>yMz n x.1) [] eNil
def yMP (n:Nat) (n1:Int) (nodes:Int) (atSea:Bool):Option (Bool×Unit) :=
  (bif atSea then some (n1==(-1:Int),()) else (bif decide (n1 ≥ 0) then some (decide (n1 < nodes),()) else some (Bool.false,())))
def z0k (n1:Int) (nodes:Int) (atSea:Bool):(Bool×Unit) :=
  (bif atSea then (n1==(-1:Int),()) else (bif decide (n1 ≥ 0) then (decide (n1 < nodes),()) else (Bool.false,())))
abbrev yPp (n1:Int) (nodes:Int) (atSea:Bool):Option (Bool×Unit) := some (z0k n1 nodes atSea)
abbrev z0k_e:Entry := { f := 146,args := .pair t3 (.pair t3 (.pair t4 .unit)),rS := .pair t4 .unit,m := fun x=>yPp x.1 x.2.1 x.2.2.1 }
theorem yOT:FnOK Tryz.prog z0k_e := fF (hm := by intro x; show some (z0k x.1 x.2.1 x.2.2.1) = yMP 0 x.1 x.2.1 x.2.2.1; unfold yMP z0k; first | rfl | simp only [yo]) 0 Tryz.f146 (fun n x=>yMP n x.1 x.2.1 x.2.2.1) [] eNil
def yLs (n:Nat) (x1:Int×Int×Unit):Option (List Int×Unit) :=
  some ([x1.1,x1.2.1],())
def z0e (x1:Int×Int×Unit):(List Int×Unit) :=
  ([x1.1,x1.2.1],())
abbrev yQS (x1:Int×Int×Unit):Option (List Int×Unit) := some (z0e x1)
abbrev z0e_e:Entry := { f := 166,args := .pair t96 .unit,rS := .pair t253 .unit,m := fun x=>yQS x.1 }
theorem yKn:FnOK Tryz.prog z0e_e := fF (hm := by intro x; show some (z0e x.1) = yLs 0 x.1; unfold yLs z0e; first | rfl | simp only [yo]) 0 Tryz.f166 (fun n x=>yLs n x.1) [] eNil
abbrev yMQ:Ty := .unit
abbrev yNW:Ty := .pair t67 .unit
def yPQ:G := { T := T,E := [],mU := [],fz := [] }
def yQI:List (List Nat) := []
def yL6 (n:Nat):Ann := { keep := yQI,fuel := n,inl := [],deep := 0 }
def yIu (n:Nat)  : Option (List (List UInt8)×Unit) :=
  some ([[(98:UInt8),97,114,114,105,101,114],[(108:UInt8),101,97,107],[(111:UInt8),117,116,102,97,108,108],[(112:UInt8),117,109,112],[(119:UInt8),101,105,114]],())
theorem yNz (n:Nat) (x:yMQ.den):runF yPQ (yL6 n) Tryz.f38 yMQ yNW x = yIu n := by kernel_rfl
def z0Z  : (List (List UInt8)×Unit) :=
  ([[(98:UInt8),97,114,114,105,101,114],[(108:UInt8),101,97,107],[(111:UInt8),117,116,102,97,108,108],[(112:UInt8),117,109,112],[(119:UInt8),101,105,114]],())
abbrev yNm  : Option (List (List UInt8)×Unit) := some (z0Z)
theorem yMY  (y:List (List UInt8)×Unit) (h:yNm = some y) : ∃ n,yIu n = some y :=
  ⟨0,by rw [← h]; show yIu 0 = some (z0Z); unfold yIu z0Z; first | rfl | (simp only [yo]; done) | (simp only [yo]; rfl)⟩
def z0Z_e:Entry := { f := 38,args := yMQ,rS := yNW,m := fun x=>yNm }
theorem yOG:FnOK Tryz.prog z0Z_e := y2Y (g := yPQ) (fn := Tryz.f38) y0q y2M eNil (by kernel_rfl) (by kernel_rfl) (by kernel_rfl) (fun x y h=>let ⟨n,hn⟩ := yMY y h; ⟨yL6 n,iNil,(yNz n x).trans hn⟩)
def yDu (n:Nat) (r7:Bas→Int→Option (Bool×Unit)) (ay:Bas) (aL:Int):Option (Bool×Unit) :=
  (bif decide (aL < (↑ay.2.1.length:Int)) then (Option.bind (idx ay.2.1 aL) fun (v8:Lnk)=>(bif decide ((↑v8.1.length:Int) > 60) then some (Bool.false,()) else r7 ay (IntKind.i64.wrap (aL + 1)))) else some (Bool.true,()))
def y6s (n:Nat)  (k:Nat) (ay:Bas) (aL:Int):Option (Bool×Unit) :=
  iter (fun r y=>yDu n (fun ay aL=>r ((ay,(aL,())),((),()))) y.1.1 y.1.2.1) k ((ay,(aL,())),((),()))
def yEW (n:Nat) (r5:Bas→Int→Option (Bool×Unit)) (av:Bas) (aM:Int):Option (Bool×Unit) :=
  (bif decide (aM < (↑av.1.length:Int)) then (Option.bind (idx av.1 aM) fun (v6:Nod)=>(bif decide ((↑v6.1.length:Int) > 60) then some (Bool.false,()) else r5 av (IntKind.i64.wrap (aM + 1)))) else (y6s n n (av) ((0:Int))))
def y6a (n:Nat)  (k:Nat) (av:Bas) (aM:Int):Option (Bool×Unit) :=
  iter (fun r y=>yEW n (fun av aM=>r ((av,(aM,())),((),()))) y.1.1 y.1.2.1) k ((av,(aM,())),((),()))
def y9s (n:Nat) (b:Bas):Option (Bool×Unit) :=
  (y6a n n (b) ((0:Int)))
def yQE (n:Nat) (b:Bas):Option (Bool×Unit) :=
  (bif decide ((↑b.1.length:Int) > 9) then some (Bool.false,()) else (bif decide ((↑b.2.1.length:Int) > 8) then (bif (↑b.2.1.length:Int) != 17 then some (Bool.false,()) else (y9s n b)) else (y9s n b)))
def yGt (ay:Bas) (aL:Int) (v8:Lnk):Option ((Bool×Unit)⊕Unit) :=
  (bif decide ((↑v8.1.length:Int) > 60) then (some (Sum.inl ((Bool.false,())))) else (some (Sum.inr ())))
def yKh (ay:Bas):Option (Bool×Unit) :=
  (some ((Bool.true,())))
theorem yCV (n:Nat) (hn:big≤n)  (ay:Bas) (hx:List.length (ay.2.1) < lenMax):LeF some (yK (fun ah aw af=>yGt ay ah aw) (fun af=>yKh ay) 0 (ay.2.1) ()) (y6s n n ay 0) := by
  refine yT (f := some) (W := fun au ah af=>y6s n au ay ah) (fun au ah af=>?_) hx () n (by unfold big at hn; unfold lenMax at hx; omega)
  show LeF _ _ (yDu n (y6s n au) ay ah)
  exact y5 (y6 fun v8=>(y5 (y7 rfl) (y7 rfl))) (y0R (y7 rfl))
def yGc (av:Bas) (aM:Int) (v6:Nod):Option ((Bool×Unit)⊕Unit) :=
  (bif decide ((↑v6.1.length:Int) > 60) then (some (Sum.inl ((Bool.false,())))) else (some (Sum.inr ())))
def yEY (av:Bas):Option (Bool×Unit) :=
  (bif decide (List.length (av.2.1) < lenMax) then yK (fun ah aw af=>yGt (av) ah aw) (fun af=>yKh (av)) 0 (av.2.1) () else none)
theorem yD4 (n:Nat) (hn:big≤n)  (av:Bas) (hx:List.length (av.1) < lenMax):LeF some (yK (fun ah aw af=>yGc av ah aw) (fun af=>yEY av) 0 (av.1) ()) (y6a n n av 0) := by
  refine yT (f := some) (W := fun au ah af=>y6a n au av ah) (fun au ah af=>?_) hx () n (by unfold big at hn; unfold lenMax at hx; omega)
  show LeF _ _ (yEW n (y6a n au) av ah)
  exact y5 (y6 fun v6=>(y5 (y7 rfl) (y7 rfl))) (y0R (yV fun hx=>by apply yCV n hn; exact hx))
def yC2 (b:Bas):Option (Bool×Unit) :=
  (bif decide (List.length (b.1) < lenMax) then yK (fun ah aw af=>yGc (b) ah aw) (fun af=>yEY (b)) 0 (b.1) () else none)
theorem y2l (n:Nat) (hn:big≤n)  (b:Bas):LeF some (yC2 b) (y9s n b) :=
  (yV fun hx=>by apply yD4 n hn; exact hx)
def yMj (b:Bas):Option (Bool×Unit) :=
  (bif decide ((↑b.1.length:Int) > 9) then (some ((Bool.false,()))) else (bif decide ((↑b.2.1.length:Int) > 8) then (bif (↑b.2.1.length:Int) != 17 then (some ((Bool.false,()))) else (yC2 b)) else (yC2 b)))
abbrev z0c_e:Entry := { f := 15,args := .pair t25 .unit,rS := .pair t4 .unit,m := fun x=>yMj x.1 }
theorem yL7:FnOK Tryz.prog z0c_e := fB Tryz.f15 (fun n x=>yQE n x.1) [[1,3],[1,4]] eNil fun n hn x=>(y5 (y7 rfl) (y5 (y5 (y7 rfl) (by apply y2l n hn)) (by apply y2l n hn)))
def yMl (n:Nat) (l:List Int):Option (List Int×Unit) :=
  (bif decide ((0:Nat) + l.length≤memMax) then some (l,()) else none)
def yLt (l:List Int):Option (List Int×Unit) := yMl 0 l
abbrev z0g_e:Entry := { f := 20,args := .pair t26 .unit,rS := .pair t26 .unit,m := fun x=>yLt x.1 }
theorem yL2:FnOK Tryz.prog z0g_e := fF (mu := [3]) 0 Tryz.f20 (fun n x=>yMl n x.1) [] eNil
def zu_m (n:Nat) (l:Lnk):Option (Int×Unit) :=
  (bif l.2.1==(-1:Int) then some (l.2.2.1,()) else some (l.2.1,()))
def zu (l:Lnk):(Int×Unit) :=
  (bif l.2.1==(-1:Int) then (l.2.2.1,()) else (l.2.1,()))
abbrev zu_M (l:Lnk):Option (Int×Unit) := some (zu l)
abbrev zu_e:Entry := { f := 142,args := .pair t163 .unit,rS := .pair t3 .unit,m := fun x=>zu_M x.1 }
theorem yPf:FnOK Tryz.prog zu_e := fF (hm := by intro x; show some (zu x.1) = zu_m 0 x.1; unfold zu_m zu; first | rfl | simp only [yo]) 0 Tryz.f142 (fun n x=>zu_m n x.1) [] eNil
def yDV (n:Nat) (r0:List (List UInt8)→List UInt8→Int→Option (Bool×Unit)) (aj:List (List UInt8)) (aB:List UInt8) (ar:Int):Option (Bool×Unit) :=
  (bif decide (ar < (↑aj.length:Int)) then (Option.bind (idx aj ar) fun (v1:List UInt8)=>(bif v1==aB then some (Bool.true,()) else r0 aj aB (IntKind.i64.wrap (ar + 1)))) else some (Bool.false,()))
def y6c (n:Nat)  (k:Nat) (aj:List (List UInt8)) (aB:List UInt8) (ar:Int):Option (Bool×Unit) :=
  iter (fun r y=>yDV n (fun aj aB ar=>r ((aj,(aB,(ar,()))),((),()))) y.1.1 y.1.2.1 y.1.2.2.1) k ((aj,(aB,(ar,()))),((),()))
def yQJ (n:Nat) (l:List (List UInt8)) (s:List UInt8):Option (Bool×Unit) :=
  (y6c n n (l) (s) ((0:Int)))
def yGf (aj:List (List UInt8)) (aB:List UInt8) (ar:Int) (v1:List UInt8):Option ((Bool×Unit)⊕Unit) :=
  (bif v1==aB then (some (Sum.inl ((Bool.true,())))) else (some (Sum.inr ())))
def yLC (aj:List (List UInt8)) (aB:List UInt8):Option (Bool×Unit) :=
  (some ((Bool.false,())))
theorem yDI (n:Nat) (hn:big≤n)  (aj:List (List UInt8)) (aB:List UInt8) (hx:List.length (aj) < lenMax):LeF some (yK (fun ah aw af=>yGf aj aB ah aw) (fun af=>yLC aj aB) 0 (aj) ()) (y6c n n aj aB 0) := by
  refine yT (f := some) (W := fun au ah af=>y6c n au aj aB ah) (fun au ah af=>?_) hx () n (by unfold big at hn; unfold lenMax at hx; omega)
  show LeF _ _ (yDV n (y6c n au) aj aB ah)
  exact y5 (y6 fun v1=>(y5 (y7 rfl) (y7 rfl))) (y0R (y7 rfl))
def yKS (l:List (List UInt8)) (s:List UInt8):Option (Bool×Unit) :=
  (bif decide (List.length (l) < lenMax) then yK (fun ah aw af=>yGf (l) (s) ah aw) (fun af=>yLC (l) (s)) 0 (l) () else none)
abbrev z0A_e:Entry := { f := 144,args := .pair t67 (.pair t9 .unit),rS := .pair t4 .unit,m := fun x=>yKS x.1 x.2.1 }
theorem yOV:FnOK Tryz.prog z0A_e := fB Tryz.f144 (fun n x=>yQJ n x.1 x.2.1) [[0,1,5]] eNil fun n hn x=>(yV fun hx=>by apply yDI n hn; exact hx)
def yN0 (n:Nat) (r0:List Int→List Int→Int→Option (Bool×Unit)) (aC:List Int) (al:List Int) (ar:Int):Option (Bool×Unit) :=
  (bif decide (ar < (↑aC.length:Int)) then (Option.bind (idx aC ar) fun (v1:Int)=>(Option.bind (idx al ar) fun (v2:Int)=>(bif v1 != v2 then some (Bool.false,()) else r0 aC al (IntKind.i64.wrap (ar + 1))))) else some (Bool.true,()))
def yM1 (n:Nat)  (k:Nat) (aC:List Int) (al:List Int) (ar:Int):Option (Bool×Unit) :=
  iter (fun r y=>yN0 n (fun aC al ar=>r ((aC,(al,(ar,()))),((),()))) y.1.1 y.1.2.1 y.1.2.2.1) k ((aC,(al,(ar,()))),((),()))
def zz_m (n:Nat) (a:List Int) (b:List Int):Option (Bool×Unit) :=
  (bif (↑a.length:Int) != (↑b.length:Int) then some (Bool.false,()) else (yM1 n n (a) (b) ((0:Int))))
def zz_M (a:List Int) (b:List Int):Option (Bool×Unit) := zz_m 1000 a b
abbrev zz_e:Entry := { f := 41,args := .pair t26 (.pair t26 .unit),rS := .pair t4 .unit,m := fun x=>zz_M x.1 x.2.1 }
theorem yNq:FnOK Tryz.prog zz_e := fF 1000 Tryz.f41 (fun n x=>zz_m n x.1 x.2.1) [[0,1,5]] eNil
end
end Go.Tw
end
section
set_option maxRecDepth 1000000
namespace Go.Tw
open Go.Vx Go.Vx.B Go.Proofs
noncomputable section
def yEo (n:Nat) (r2:List Lnk→Int→Int→List Nod→List Lnk→Option (Bas×Unit)) (am:List Lnk) (aI:Int) (aF:Int) (aD:List Nod) (aA:List Lnk):Option (Bas×Unit) :=
  (bif decide (aF < aI) then (Option.bind (idx am aF) fun (v3:Lnk)=>(bif decide (aA.length + (1:Nat)≤memMax) then r2 am aI (IntKind.i64.wrap (aF + 1)) aD (aA ++ [(v3.1,v3.2.1,v3.2.2.1,v3.2.2.2.1,v3.2.2.2.2.1,())]) else none)) else some ((aD,aA,()),()))
def y74 (n:Nat)  (k:Nat) (am:List Lnk) (aI:Int) (aF:Int) (aD:List Nod) (aA:List Lnk):Option (Bas×Unit) :=
  iter (fun r y=>yEo n (fun am aI aF aD aA=>r ((am,(aI,(aF,()))),(((),((),(aD,(aA,())))),()))) y.1.1 y.1.2.1 y.1.2.2.1 y.2.1.2.2.1 y.2.1.2.2.2.1) k ((am,(aI,(aF,()))),(((),((),(aD,(aA,())))),()))
def yE4 (n:Nat) (r0:Bas→List Nod→Int→Int→List Nod→List Lnk→Option (Bas×Unit)) (al:Bas) (ae:List Nod) (a8:Int) (aG:Int) (az:List Nod) (aE:List Lnk):Option (Bas×Unit) :=
  (bif decide (aG < a8) then (Option.bind (idx ae aG) fun (v1:Nod)=>(bif decide (az.length + (1:Nat)≤memMax) then r0 al ae a8 (IntKind.i64.wrap (aG + 1)) (az ++ [(v1.1,v1.2.1,v1.2.2.1,())]) aE else none)) else (y74 n n (al.2.1) ((↑al.2.1.length:Int)) ((0:Int)) (az) (aE)))
def y6v (n:Nat)  (k:Nat) (al:Bas) (ae:List Nod) (a8:Int) (aG:Int) (az:List Nod) (aE:List Lnk):Option (Bas×Unit) :=
  iter (fun r y=>yE4 n (fun al ae a8 aG az aE=>r ((al,(ae,(a8,(aG,())))),(((),((),(az,(aE,())))),()))) y.1.1 y.1.2.1 y.1.2.2.1 y.1.2.2.2.1 y.2.1.2.2.1 y.2.1.2.2.2.1) k ((al,(ae,(a8,(aG,())))),(((),((),(az,(aE,())))),()))
def yQZ (n:Nat) (b:Bas):Option (Bas×Unit) :=
  (y6v n n (b) (b.1) ((↑b.1.length:Int)) ((0:Int)) ([]) ([]))
def yHn (am:List Lnk) (aD:List Nod) (aF:Int) (v3:Lnk) (aA:List Lnk):Option ((Bas×Unit)⊕(List Lnk)) :=
  (bif decide (aA.length + (1:Nat)≤memMax) then (some (Sum.inr (aA ++ [(v3.1,v3.2.1,v3.2.2.1,v3.2.2.2.1,v3.2.2.2.2.1,())]))) else none)
def yKl (am:List Lnk) (aD:List Nod) (aA:List Lnk):Option (Bas×Unit) :=
  (some (((aD,aA,()),())))
theorem yCh (n:Nat) (hn:big≤n)  (am:List Lnk) (aD:List Nod) (aA:List Lnk) (hx:List.length (am) < lenMax):LeF some (yK (fun ah aw af=>yHn am aD ah aw af) (fun af=>yKl am aD af) 0 (am) aA) (y74 n n am (List.length (am):Int) 0 aD aA) := by
  refine yT (f := some) (W := fun au ah af=>y74 n au am (List.length (am):Int) ah aD af) (fun au ah af=>?_) hx aA n (by unfold big at hn; unfold lenMax at hx; omega)
  show LeF _ _ (yEo n (y74 n au) am (List.length (am):Int) ah aD af)
  exact y5 (y6 fun v3=>(y5 (y7 rfl) yL)) (y0R (y7 rfl))
def yGs (al:Bas) (ae:List Nod) (aE:List Lnk) (aG:Int) (v1:Nod) (az:List Nod):Option ((Bas×Unit)⊕(List Nod)) :=
  (bif decide (az.length + (1:Nat)≤memMax) then (some (Sum.inr (az ++ [(v1.1,v1.2.1,v1.2.2.1,())]))) else none)
def yH0 (al:Bas) (ae:List Nod) (aE:List Lnk) (az:List Nod):Option (Bas×Unit) :=
  (bif decide (List.length (al.2.1) < lenMax) then yK (fun ah aw af=>yHn (al.2.1) (az) ah aw af) (fun af=>yKl (al.2.1) (az) af) 0 (al.2.1) (aE) else none)
theorem yDP (n:Nat) (hn:big≤n)  (al:Bas) (ae:List Nod) (aE:List Lnk) (az:List Nod) (hx:List.length (ae) < lenMax):LeF some (yK (fun ah aw af=>yGs al ae aE ah aw af) (fun af=>yH0 al ae aE af) 0 (ae) az) (y6v n n al ae (List.length (ae):Int) 0 az aE) := by
  refine yT (f := some) (W := fun au ah af=>y6v n au al ae (List.length (ae):Int) ah af aE) (fun au ah af=>?_) hx az n (by unfold big at hn; unfold lenMax at hx; omega)
  show LeF _ _ (yE4 n (y6v n au) al ae (List.length (ae):Int) ah af aE)
  exact y5 (y6 fun v1=>(y5 (y7 rfl) yL)) (y0R (yV fun hx=>by apply yCh n hn; exact hx))
def yMI (b:Bas):Option (Bas×Unit) :=
  (bif decide (List.length (b.1) < lenMax) then yK (fun ah aw af=>yGs (b) (b.1) ([]) ah aw af) (fun af=>yH0 (b) (b.1) ([]) af) 0 (b.1) ([]) else none)
abbrev z0W_e:Entry := { f := 19,args := .pair t25 .unit,rS := .pair t41 .unit,m := fun x=>yMI x.1 }
theorem yKa:FnOK Tryz.prog z0W_e := fB (mu := [3]) Tryz.f19 (fun n x=>yQZ n x.1) [[1,2,3,9,10,11],[2,3,23,24,25]] eNil fun n hn x=>(yV fun hx=>by apply yDP n hn; exact hx)
def yLI (n:Nat) (r0:List (List (Int×Int×Unit))→List (List (Int×Int×Unit))→Int→Option (Bool×Unit)) (r3:List (List (Int×Int×Unit))→List (List (Int×Int×Unit))→Int→Int→Option (Bool×Unit)) (aN:List (List (Int×Int×Unit))) (aP:List (List (Int×Int×Unit))) (aJ:Int) (aO:Int):Option (Bool×Unit) :=
  (Option.bind (idx aN aJ) fun (v4:List (Int×Int×Unit))=>(bif decide (aO < (↑v4.length:Int)) then (Option.bind (idx aN aJ) fun (v5:List (Int×Int×Unit))=>(Option.bind (idx v5 aO) fun (v6:Int×Int×Unit)=>(Option.bind (idx aP aJ) fun (v7:List (Int×Int×Unit))=>(Option.bind (idx v7 aO) fun (v8:Int×Int×Unit)=>(bif !eqV ((Ty.int IntKind.i64).pair ((Ty.int IntKind.i64).pair Ty.unit)) v6 v8 then some (Bool.false,()) else r3 aN aP aJ (IntKind.i64.wrap (aO + 1))))))) else r0 aN aP (IntKind.i64.wrap (aJ + 1))))
def yMw (n:Nat) (r0:List (List (Int×Int×Unit))→List (List (Int×Int×Unit))→Int→Option (Bool×Unit)) (k:Nat) (aN:List (List (Int×Int×Unit))) (aP:List (List (Int×Int×Unit))) (aJ:Int) (aO:Int):Option (Bool×Unit) :=
  iter (fun r y=>yLI n r0 (fun aN aP aJ aO=>r ((aN,(aP,(aJ,(aO,())))),((),()))) y.1.1 y.1.2.1 y.1.2.2.1 y.1.2.2.2.1) k ((aN,(aP,(aJ,(aO,())))),((),()))
def yLi (n:Nat) (r0:List (List (Int×Int×Unit))→List (List (Int×Int×Unit))→Int→Option (Bool×Unit)) (aC:List (List (Int×Int×Unit))) (al:List (List (Int×Int×Unit))) (ar:Int):Option (Bool×Unit) :=
  (bif decide (ar < (↑aC.length:Int)) then (Option.bind (idx aC ar) fun (v1:List (Int×Int×Unit))=>(Option.bind (idx al ar) fun (v2:List (Int×Int×Unit))=>(bif (↑v1.length:Int) != (↑v2.length:Int) then some (Bool.false,()) else (yMw n r0 n (aC) (al) (ar) ((0:Int)))))) else some (Bool.true,()))
def yLU (n:Nat)  (k:Nat) (aC:List (List (Int×Int×Unit))) (al:List (List (Int×Int×Unit))) (ar:Int):Option (Bool×Unit) :=
  iter (fun r y=>yLi n (fun aC al ar=>r ((aC,(al,(ar,()))),((),()))) y.1.1 y.1.2.1 y.1.2.2.1) k ((aC,(al,(ar,()))),((),()))
def zU_m (n:Nat) (a:List (List (Int×Int×Unit))) (b:List (List (Int×Int×Unit))):Option (Bool×Unit) :=
  (bif (↑a.length:Int) != (↑b.length:Int) then some (Bool.false,()) else (yLU n n (a) (b) ((0:Int))))
def zU_M (a:List (List (Int×Int×Unit))) (b:List (List (Int×Int×Unit))):Option (Bool×Unit) := zU_m 1000 a b
abbrev zU_e:Entry := { f := 74,args := .pair t119 (.pair t119 .unit),rS := .pair t4 .unit,m := fun x=>zU_M x.1 x.2.1 }
theorem yQg:FnOK Tryz.prog zU_e := fF 1000 Tryz.f74 (fun n x=>zU_m n x.1 x.2.1) [[0,1,5],[0,1,5,6]] eNil
abbrev yML:Ty := .unit
abbrev yNE:Ty := .pair t41 .unit
def yNS:G := { T := T,E := [],mU := [],fz := [] }
def yQb:List (List Nat) := []
def yKy (n:Nat):Ann := { keep := yQb,fuel := n,inl := [],deep := 0 }
def yJH (n:Nat)  : Option (Bas×Unit) :=
  some (([([(108:UInt8),97,107,101],(10:Int),(20:Int),()),([(112:UInt8),111,108,100,101,114],(5:Int),(8:Int),())],[([(98:UInt8),97,114,114,105,101,114],(-1:Int),(0:Int),(0:Int),(2:Int),()),([(112:UInt8),117,109,112],(1:Int),(0:Int),(4:Int),(10:Int),()),([(111:UInt8),117,116,102,97,108,108],(0:Int),(-1:Int),(12:Int),(4:Int),())],()),())
theorem yPV (n:Nat) (x:yML.den):runF yNS (yKy n) Tryz.f86 yML yNE x = yJH n := by kernel_rfl
def z0h  : (Bas×Unit) :=
  (([([(108:UInt8),97,107,101],(10:Int),(20:Int),()),([(112:UInt8),111,108,100,101,114],(5:Int),(8:Int),())],[([(98:UInt8),97,114,114,105,101,114],(-1:Int),(0:Int),(0:Int),(2:Int),()),([(112:UInt8),117,109,112],(1:Int),(0:Int),(4:Int),(10:Int),()),([(111:UInt8),117,116,102,97,108,108],(0:Int),(-1:Int),(12:Int),(4:Int),())],()),())
abbrev yNb  : Option (Bas×Unit) := some (z0h)
theorem yMc  (y:Bas×Unit) (h:yNb = some y) : ∃ n,yJH n = some y :=
  ⟨0,by rw [← h]; show yJH 0 = some (z0h); unfold yJH z0h; first | rfl | (simp only [yo]; done) | (simp only [yo]; rfl)⟩
def z0h_e:Entry := { f := 86,args := yML,rS := yNE,m := fun x=>yNb }
theorem yPR:FnOK Tryz.prog z0h_e := y2Y (g := yNS) (fn := Tryz.f86) y0q y2M eNil (by kernel_rfl) (by kernel_rfl) (by kernel_rfl) (fun x y h=>let ⟨n,hn⟩ := yMc y h; ⟨yKy n,iNil,(yPV n x).trans hn⟩)
def y5B (n:Nat) (r0:List UInt8→List UInt8→Int→Option (Bool×Unit)) (ai:List UInt8) (str0__0:List UInt8) (pos0__0:Int) (j2:Bool) (j7:Bool):Option (Bool×Unit) :=
  (bif !j2 then (bif pos0__0==0 then some (Bool.false,()) else (bif !j7 then some (Bool.false,()) else r0 ai str0__0 (yk str0__0 pos0__0).2)) else r0 ai str0__0 (yk str0__0 pos0__0).2)
def y34 (n:Nat) (r0:List UInt8→List UInt8→Int→Option (Bool×Unit)) (ai:List UInt8) (str0__0:List UInt8) (pos0__0:Int) (j2:Bool):Option (Bool×Unit) :=
  (bif decide ((yk str0__0 pos0__0).1 ≥ 48) then (bif decide ((yk str0__0 pos0__0).1≤57) then (y5B n r0 ai str0__0 pos0__0 j2 (Bool.true)) else (y5B n r0 ai str0__0 pos0__0 j2 ((yk str0__0 pos0__0).1==95))) else (y5B n r0 ai str0__0 pos0__0 j2 ((yk str0__0 pos0__0).1==95)))
def yDg (n:Nat) (r0:List UInt8→List UInt8→Int→Option (Bool×Unit)) (ai:List UInt8) (str0__0:List UInt8) (pos0__0:Int):Option (Bool×Unit) :=
  (bif decide (pos0__0 < (↑str0__0.length:Int)) then (bif decide ((yk str0__0 pos0__0).1 ≥ 65) then (bif decide ((yk str0__0 pos0__0).1≤90) then (y34 n r0 ai str0__0 pos0__0 (Bool.true)) else (bif decide ((yk str0__0 pos0__0).1 ≥ 97) then (y34 n r0 ai str0__0 pos0__0 (decide ((yk str0__0 pos0__0).1≤122))) else (y34 n r0 ai str0__0 pos0__0 (Bool.false)))) else (bif decide ((yk str0__0 pos0__0).1 ≥ 97) then (y34 n r0 ai str0__0 pos0__0 (decide ((yk str0__0 pos0__0).1≤122))) else (y34 n r0 ai str0__0 pos0__0 (Bool.false)))) else (bif !ai==[] then some (decide ((↑ai.length:Int)≤24),()) else some (Bool.false,())))
def y6m (n:Nat)  (k:Nat) (ai:List UInt8) (str0__0:List UInt8) (pos0__0:Int):Option (Bool×Unit) :=
  iter (fun r y=>yDg n (fun ai str0__0 pos0__0=>r ((ai,()),(((str0__0,pos0__0),()),()))) y.1.1 y.2.1.1.1 y.2.1.1.2) k ((ai,()),(((str0__0,pos0__0),()),()))
def yPy (n:Nat) (s:List UInt8):Option (Bool×Unit) :=
  (y6m n n (s) (s) ((0:Int)))
def y76 (ai:List UInt8) (str0__0:List UInt8) (pos0__0:Int) (j2:Bool) (j7:Bool):Option ((Bool×Unit)⊕Unit) :=
  (bif !j2 then (bif pos0__0==0 then (some (Sum.inl ((Bool.false,())))) else (bif !j7 then (some (Sum.inl ((Bool.false,())))) else (some (Sum.inr ())))) else (some (Sum.inr ())))
theorem y14 (n:Nat) (hn:big≤n)  (r0:List UInt8→List UInt8→Int→Option (Bool×Unit)) (ai:List UInt8) (str0__0:List UInt8) (pos0__0:Int) (j2:Bool) (j7:Bool):LeF (elim some fun (af:Unit)=>r0 ai str0__0 (yk (str0__0) pos0__0).2) (y76 ai str0__0 pos0__0 j2 j7) (y5B n r0 ai str0__0 pos0__0 j2 j7) :=
  (y5 (y5 (y7 rfl) (y5 (y7 rfl) (y7 rfl))) (y7 rfl))
def y4f (ai:List UInt8) (str0__0:List UInt8) (pos0__0:Int) (j2:Bool):Option ((Bool×Unit)⊕Unit) :=
  (bif decide ((yk str0__0 pos0__0).1 ≥ 48) then (bif decide ((yk str0__0 pos0__0).1≤57) then (y76 ai str0__0 pos0__0 j2 (Bool.true)) else (y76 ai str0__0 pos0__0 j2 ((yk str0__0 pos0__0).1==95))) else (y76 ai str0__0 pos0__0 j2 ((yk str0__0 pos0__0).1==95)))
theorem y00 (n:Nat) (hn:big≤n)  (r0:List UInt8→List UInt8→Int→Option (Bool×Unit)) (ai:List UInt8) (str0__0:List UInt8) (pos0__0:Int) (j2:Bool):LeF (elim some fun (af:Unit)=>r0 ai str0__0 (yk (str0__0) pos0__0).2) (y4f ai str0__0 pos0__0 j2) (y34 n r0 ai str0__0 pos0__0 j2) :=
  (y5 (y5 (by apply y14 n hn) (by apply y14 n hn)) (by apply y14 n hn))
def yCD (ai:List UInt8) (str0__0:List UInt8) (pos0__0:Int):Option ((Bool×Unit)⊕Unit) :=
  (bif decide ((yk str0__0 pos0__0).1 ≥ 65) then (bif decide ((yk str0__0 pos0__0).1≤90) then (y4f ai str0__0 pos0__0 (Bool.true)) else (bif decide ((yk str0__0 pos0__0).1 ≥ 97) then (y4f ai str0__0 pos0__0 (decide ((yk str0__0 pos0__0).1≤122))) else (y4f ai str0__0 pos0__0 (Bool.false)))) else (bif decide ((yk str0__0 pos0__0).1 ≥ 97) then (y4f ai str0__0 pos0__0 (decide ((yk str0__0 pos0__0).1≤122))) else (y4f ai str0__0 pos0__0 (Bool.false))))
def yBf (ai:List UInt8) (str0__0:List UInt8):Option (Bool×Unit) :=
  (bif !ai==[] then (some ((decide ((↑ai.length:Int)≤24),()))) else (some ((Bool.false,()))))
theorem yCq (n:Nat) (hn:big≤n)  (ai:List UInt8) (str0__0:List UInt8) (hx:List.length (str0__0) < lenMax):LeF some (y8d (str0__0) (fun ah af=>yCD ai str0__0 ah) (fun af=>yBf ai str0__0) (List.length (str0__0)) 0 ()) (y6m n n ai str0__0 0) := by
  refine yIy (f := some) (W := fun au ah af=>y6m n au ai str0__0 ah) (fun au ah af=>?_) () n (by unfold big at hn; unfold lenMax at hx; omega)
  show LeF _ _ (yDg n (y6m n au) ai str0__0 ah)
  exact y5 (y5 (y5 (by apply y00 n hn) (y5 (by apply y00 n hn) (by apply y00 n hn))) (y5 (by apply y00 n hn) (by apply y00 n hn))) (y0R (y5 (y7 rfl) (y7 rfl)))
def yI2 (s:List UInt8):Option (Bool×Unit) :=
  (bif decide (List.length (s) < lenMax) then y8d (s) (fun ah af=>yCD (s) (s) ah) (fun af=>yBf (s) (s)) (List.length (s)) 0 () else none)
abbrev z0E_e:Entry := { f := 100,args := .pair t9 .unit,rS := .pair t4 .unit,m := fun x=>yI2 x.1 }
theorem yNe:FnOK Tryz.prog z0E_e := fB Tryz.f100 (fun n x=>yPy n x.1) [[0,8,16,17,20,21,22,23,24,25,30,31,34,35,40,41,42,43,44,45,50,51,52]] eNil fun n hn x=>(yV fun hx=>by apply yCq n hn; exact hx)
def yGJ (n:Nat) (r0:(Lnk×Unit→Option (Int×Unit))→List Lnk→Int→Int→List Int→Option (List Int×Unit)) (a7:Lnk×Unit→Option (Int×Unit)) (aa:List Lnk) (ae:Int) (a8:Int) (ac:List Int):Option (List Int×Unit) :=
  (bif decide (a8 < ae) then (Option.bind (idx aa a8) fun (v1:Lnk)=>(Option.bind (a7 ((v1.1,v1.2.1,v1.2.2.1,v1.2.2.2.1,v1.2.2.2.2.1,()),())) fun (v2:Int×Unit)=>(bif decide (ac.length + (1:Nat)≤memMax) then r0 a7 aa ae (IntKind.i64.wrap (a8 + 1)) (ac ++ [v2.1]) else none))) else some (ac,()))
def y9v (n:Nat)  (k:Nat) (a7:Lnk×Unit→Option (Int×Unit)) (aa:List Lnk) (ae:Int) (a8:Int) (ac:List Int):Option (List Int×Unit) :=
  iter (fun r y=>yGJ n (fun a7 aa ae a8 ac=>r ((a7,(aa,(ae,(a8,())))),((ac,()),()))) y.1.1 y.1.2.1 y.1.2.2.1 y.1.2.2.2.1 y.2.1.1) k ((a7,(aa,(ae,(a8,())))),((ac,()),()))
def zB_m (n:Nat) (l:List Lnk) (of:Lnk×Unit→Option (Int×Unit)):Option (List Int×Unit) :=
  (y9v n n (of) (l) ((↑l.length:Int)) ((0:Int)) ([]))
def yLT (a7:Lnk×Unit→Option (Int×Unit)) (aa:List Lnk) (a8:Int) (v1:Lnk) (ac:List Int):Option ((List Int×Unit)⊕(List Int)) :=
  (Option.bind (a7 ((v1.1,v1.2.1,v1.2.2.1,v1.2.2.2.1,v1.2.2.2.2.1,()),())) fun (v2:Int×Unit)=>(bif decide (ac.length + (1:Nat)≤memMax) then (some (Sum.inr (ac ++ [v2.1]))) else none))
def yOd (a7:Lnk×Unit→Option (Int×Unit)) (aa:List Lnk) (ac:List Int):Option (List Int×Unit) :=
  (some ((ac,())))
theorem yEx (n:Nat) (hn:big≤n)  (a7:Lnk×Unit→Option (Int×Unit)) (aa:List Lnk) (ac:List Int) (hx:List.length (aa) < lenMax):LeF some (yK (fun ah aw af=>yLT a7 aa ah aw af) (fun af=>yOd a7 aa af) 0 (aa) ac) (y9v n n a7 aa (List.length (aa):Int) 0 ac) := by
  refine yT (f := some) (W := fun au ah af=>y9v n au a7 aa (List.length (aa):Int) ah af) (fun au ah af=>?_) hx ac n (by unfold big at hn; unfold lenMax at hx; omega)
  show LeF _ _ (yGJ n (y9v n au) a7 aa (List.length (aa):Int) ah af)
  exact y5 (y6 fun v1=>(y6 fun v2=>(y5 (y7 rfl) yL))) (y0R (y7 rfl))
def zB_M (l:List Lnk) (of:Lnk×Unit→Option (Int×Unit)):Option (List Int×Unit) :=
  (bif decide (List.length (l) < lenMax) then yK (fun ah aw af=>yLT (of) (l) ah aw af) (fun af=>yOd (of) (l) af) 0 (l) ([]) else none)
abbrev zB_e:Entry := { f := 101,args := .pair t39 (.pair t177 .unit),rS := .pair t174 .unit,m := fun x=>zB_M x.1 x.2.1 }
theorem yPb:FnOK Tryz.prog zB_e := fB (mu := [5]) Tryz.f101 (fun n x=>zB_m n x.1 x.2.1) [[1,5,8,9,10]] eNil fun n hn x=>(yV fun hx=>by apply yEx n hn; exact hx)
def yLa (n:Nat) (r0:(Rng×Unit→Option (Cnd×Unit))→List Rng→Int→Int→List Cnd→Option (List Cnd×Unit)) (a7:Rng×Unit→Option (Cnd×Unit)) (aa:List Rng) (ae:Int) (a8:Int) (ac:List Cnd):Option (List Cnd×Unit) :=
  (bif decide (a8 < ae) then (Option.bind (idx aa a8) fun (v1:Rng)=>(Option.bind (a7 (((v1.1.1,v1.1.2.1,()),v1.2.1,v1.2.2.1,()),())) fun (v2:Cnd×Unit)=>(bif decide (ac.length + (1:Nat)≤memMax) then r0 a7 aa ae (IntKind.i64.wrap (a8 + 1)) (ac ++ [v2.1]) else none))) else some (ac,()))
def yLu (n:Nat)  (k:Nat) (a7:Rng×Unit→Option (Cnd×Unit)) (aa:List Rng) (ae:Int) (a8:Int) (ac:List Cnd):Option (List Cnd×Unit) :=
  iter (fun r y=>yLa n (fun a7 aa ae a8 ac=>r ((a7,(aa,(ae,(a8,())))),((ac,()),()))) y.1.1 y.1.2.1 y.1.2.2.1 y.1.2.2.2.1 y.2.1.1) k ((a7,(aa,(ae,(a8,())))),((ac,()),()))
def z6_m (n:Nat) (l:List Rng) (of:Rng×Unit→Option (Cnd×Unit)):Option (List Cnd×Unit) :=
  (yLu n n (of) (l) ((↑l.length:Int)) ((0:Int)) ([]))
def z6_M (l:List Rng) (of:Rng×Unit→Option (Cnd×Unit)):Option (List Cnd×Unit) := z6_m 1000 l of
abbrev z6_e:Entry := { f := 109,args := .pair t108 (.pair t186 .unit),rS := .pair t54 .unit,m := fun x=>z6_M x.1 x.2.1 }
theorem yPg:FnOK Tryz.prog z6_e := fF (mu := [5]) 1000 Tryz.f109 (fun n x=>z6_m n x.1 x.2.1) [[1,5,8,9,10]] eNil
def yHv (n:Nat) (r0:(Int×Unit→Option (List UInt8×Unit))→List Int→Int→Int→List (List UInt8)→Option (List (List UInt8)×Unit)) (a7:Int×Unit→Option (List UInt8×Unit)) (aa:List Int) (ae:Int) (a8:Int) (ac:List (List UInt8)):Option (List (List UInt8)×Unit) :=
  (bif decide (a8 < ae) then (Option.bind (idx aa a8) fun (v1:Int)=>(Option.bind (a7 (v1,())) fun (v2:List UInt8×Unit)=>(bif decide (ac.length + (1:Nat)≤memMax) then r0 a7 aa ae (IntKind.i64.wrap (a8 + 1)) (ac ++ [v2.1]) else none))) else some (ac,()))
def y9r (n:Nat)  (k:Nat) (a7:Int×Unit→Option (List UInt8×Unit)) (aa:List Int) (ae:Int) (a8:Int) (ac:List (List UInt8)):Option (List (List UInt8)×Unit) :=
  iter (fun r y=>yHv n (fun a7 aa ae a8 ac=>r ((a7,(aa,(ae,(a8,())))),((ac,()),()))) y.1.1 y.1.2.1 y.1.2.2.1 y.1.2.2.2.1 y.2.1.1) k ((a7,(aa,(ae,(a8,())))),((ac,()),()))
def zM_m (n:Nat) (l:List Int) (of:Int×Unit→Option (List UInt8×Unit)):Option (List (List UInt8)×Unit) :=
  (y9r n n (of) (l) ((↑l.length:Int)) ((0:Int)) ([]))
def yI5 (a7:Int×Unit→Option (List UInt8×Unit)) (aa:List Int) (a8:Int) (v1:Int) (ac:List (List UInt8)):Option ((List (List UInt8)×Unit)⊕(List (List UInt8))) :=
  (Option.bind (a7 (v1,())) fun (v2:List UInt8×Unit)=>(bif decide (ac.length + (1:Nat)≤memMax) then (some (Sum.inr (ac ++ [v2.1]))) else none))
def yJu (a7:Int×Unit→Option (List UInt8×Unit)) (aa:List Int) (ac:List (List UInt8)):Option (List (List UInt8)×Unit) :=
  (some ((ac,())))
theorem yFZ (n:Nat) (hn:big≤n)  (a7:Int×Unit→Option (List UInt8×Unit)) (aa:List Int) (ac:List (List UInt8)) (hx:List.length (aa) < lenMax):LeF some (yK (fun ah aw af=>yI5 a7 aa ah aw af) (fun af=>yJu a7 aa af) 0 (aa) ac) (y9r n n a7 aa (List.length (aa):Int) 0 ac) := by
  refine yT (f := some) (W := fun au ah af=>y9r n au a7 aa (List.length (aa):Int) ah af) (fun au ah af=>?_) hx ac n (by unfold big at hn; unfold lenMax at hx; omega)
  show LeF _ _ (yHv n (y9r n au) a7 aa (List.length (aa):Int) ah af)
  exact y5 (y6 fun v1=>(y6 fun v2=>(y5 (y7 rfl) yL))) (y0R (y7 rfl))
def zM_M (l:List Int) (of:Int×Unit→Option (List UInt8×Unit)):Option (List (List UInt8)×Unit) :=
  (bif decide (List.length (l) < lenMax) then yK (fun ah aw af=>yI5 (of) (l) ah aw af) (fun af=>yJu (of) (l) af) 0 (l) ([]) else none)
abbrev zM_e:Entry := { f := 128,args := .pair t26 (.pair t208 .unit),rS := .pair t67 .unit,m := fun x=>zM_M x.1 x.2.1 }
theorem yPs:FnOK Tryz.prog zM_e := fB (mu := [5]) Tryz.f128 (fun n x=>zM_m n x.1 x.2.1) [[1,5,8,9,10]] eNil fun n hn x=>(yV fun hx=>by apply yFZ n hn; exact hx)
def yIg (n:Nat) (r0:(Int×Unit→Option (Int×Unit))→List Int→Int→Int→List Int→Option (List Int×Unit)) (a7:Int×Unit→Option (Int×Unit)) (aa:List Int) (ae:Int) (a8:Int) (ac:List Int):Option (List Int×Unit) :=
  (bif decide (a8 < ae) then (Option.bind (idx aa a8) fun (v1:Int)=>(Option.bind (a7 (v1,())) fun (v2:Int×Unit)=>(bif decide (ac.length + (1:Nat)≤memMax) then r0 a7 aa ae (IntKind.i64.wrap (a8 + 1)) (ac ++ [v2.1]) else none))) else some (ac,()))
def yAS (n:Nat)  (k:Nat) (a7:Int×Unit→Option (Int×Unit)) (aa:List Int) (ae:Int) (a8:Int) (ac:List Int):Option (List Int×Unit) :=
  iter (fun r y=>yIg n (fun a7 aa ae a8 ac=>r ((a7,(aa,(ae,(a8,())))),((ac,()),()))) y.1.1 y.1.2.1 y.1.2.2.1 y.1.2.2.2.1 y.2.1.1) k ((a7,(aa,(ae,(a8,())))),((ac,()),()))
def zI_m (n:Nat) (l:List Int) (of:Int×Unit→Option (Int×Unit)):Option (List Int×Unit) :=
  (yAS n n (of) (l) ((↑l.length:Int)) ((0:Int)) ([]))
def yM6 (a7:Int×Unit→Option (Int×Unit)) (aa:List Int) (a8:Int) (v1:Int) (ac:List Int):Option ((List Int×Unit)⊕(List Int)) :=
  (Option.bind (a7 (v1,())) fun (v2:Int×Unit)=>(bif decide (ac.length + (1:Nat)≤memMax) then (some (Sum.inr (ac ++ [v2.1]))) else none))
def yOg (a7:Int×Unit→Option (Int×Unit)) (aa:List Int) (ac:List Int):Option (List Int×Unit) :=
  (some ((ac,())))
theorem yFG (n:Nat) (hn:big≤n)  (a7:Int×Unit→Option (Int×Unit)) (aa:List Int) (ac:List Int) (hx:List.length (aa) < lenMax):LeF some (yK (fun ah aw af=>yM6 a7 aa ah aw af) (fun af=>yOg a7 aa af) 0 (aa) ac) (yAS n n a7 aa (List.length (aa):Int) 0 ac) := by
  refine yT (f := some) (W := fun au ah af=>yAS n au a7 aa (List.length (aa):Int) ah af) (fun au ah af=>?_) hx ac n (by unfold big at hn; unfold lenMax at hx; omega)
  show LeF _ _ (yIg n (yAS n au) a7 aa (List.length (aa):Int) ah af)
  exact y5 (y6 fun v1=>(y6 fun v2=>(y5 (y7 rfl) yL))) (y0R (y7 rfl))
def zI_M (l:List Int) (of:Int×Unit→Option (Int×Unit)):Option (List Int×Unit) :=
  (bif decide (List.length (l) < lenMax) then yK (fun ah aw af=>yM6 (of) (l) ah aw af) (fun af=>yOg (of) (l) af) 0 (l) ([]) else none)
abbrev zI_e:Entry := { f := 138,args := .pair t26 (.pair t176 .unit),rS := .pair t174 .unit,m := fun x=>zI_M x.1 x.2.1 }
theorem yP4:FnOK Tryz.prog zI_e := fB (mu := [5]) Tryz.f138 (fun n x=>zI_m n x.1 x.2.1) [[1,5,8,9,10]] eNil fun n hn x=>(yV fun hx=>by apply yFG n hn; exact hx)
def y3j (n:Nat) (r2:List UInt8→Int→Option (Bool×Unit)) (ak:List UInt8) (aq:Int) (v3:UInt8):Option (Bool×Unit) :=
  (bif aq==0 then some (Bool.false,()) else (bif (↑v3.toNat:Int) != 95 then (bif decide ((↑v3.toNat:Int) < 48) then some (Bool.false,()) else (bif decide ((↑v3.toNat:Int) > 57) then some (Bool.false,()) else r2 ak (IntKind.i64.wrap (aq + 1)))) else r2 ak (IntKind.i64.wrap (aq + 1))))
def yEH (n:Nat) (r2:List UInt8→Int→Option (Bool×Unit)) (ak:List UInt8) (aq:Int):Option (Bool×Unit) :=
  (bif decide (aq < (↑ak.length:Int)) then (Option.bind (idx ak aq) fun (v3:UInt8)=>(bif decide ((↑v3.toNat:Int) ≥ 97) then (bif decide ((↑v3.toNat:Int)≤122) then r2 ak (IntKind.i64.wrap (aq + 1)) else (bif decide ((↑v3.toNat:Int) ≥ 65) then (bif decide ((↑v3.toNat:Int)≤90) then r2 ak (IntKind.i64.wrap (aq + 1)) else (y3j n r2 ak aq v3)) else (y3j n r2 ak aq v3))) else (bif decide ((↑v3.toNat:Int) ≥ 65) then (bif decide ((↑v3.toNat:Int)≤90) then r2 ak (IntKind.i64.wrap (aq + 1)) else (y3j n r2 ak aq v3)) else (y3j n r2 ak aq v3)))) else some (Bool.true,()))
def y6y (n:Nat)  (k:Nat) (ak:List UInt8) (aq:Int):Option (Bool×Unit) :=
  iter (fun r y=>yEH n (fun ak aq=>r ((ak,(aq,())),((),()))) y.1.1 y.1.2.1) k ((ak,(aq,())),((),()))
def yPw (n:Nat) (s:List UInt8):Option (Bool×Unit) :=
  (bif (↑s.length:Int)==0 then some (Bool.false,()) else (bif decide ((↑s.length:Int) > 24) then some (Bool.false,()) else (y6y n n (s) ((0:Int)))))
def y5k (ak:List UInt8) (aq:Int) (v3:UInt8):Option ((Bool×Unit)⊕Unit) :=
  (bif aq==0 then (some (Sum.inl ((Bool.false,())))) else (bif (↑v3.toNat:Int) != 95 then (bif decide ((↑v3.toNat:Int) < 48) then (some (Sum.inl ((Bool.false,())))) else (bif decide ((↑v3.toNat:Int) > 57) then (some (Sum.inl ((Bool.false,())))) else (some (Sum.inr ())))) else (some (Sum.inr ()))))
theorem y0J (n:Nat) (hn:big≤n)  (r2:List UInt8→Int→Option (Bool×Unit)) (ak:List UInt8) (aq:Int) (v3:UInt8):LeF (elim some fun (af:Unit)=>r2 ak (IntKind.i64.wrap (aq + 1))) (y5k ak aq v3) (y3j n r2 ak aq v3) :=
  (y5 (y7 rfl) (y5 (y5 (y7 rfl) (y5 (y7 rfl) (y7 rfl))) (y7 rfl)))
def yBG (ak:List UInt8) (aq:Int) (v3:UInt8):Option ((Bool×Unit)⊕Unit) :=
  (bif decide ((↑v3.toNat:Int) ≥ 97) then (bif decide ((↑v3.toNat:Int)≤122) then (some (Sum.inr ())) else (bif decide ((↑v3.toNat:Int) ≥ 65) then (bif decide ((↑v3.toNat:Int)≤90) then (some (Sum.inr ())) else (y5k ak aq v3)) else (y5k ak aq v3))) else (bif decide ((↑v3.toNat:Int) ≥ 65) then (bif decide ((↑v3.toNat:Int)≤90) then (some (Sum.inr ())) else (y5k ak aq v3)) else (y5k ak aq v3)))
def yHH (ak:List UInt8):Option (Bool×Unit) :=
  (some ((Bool.true,())))
theorem yCk (n:Nat) (hn:big≤n)  (ak:List UInt8) (hx:List.length (ak) < lenMax):LeF some (yK (fun ah aw af=>yBG ak ah aw) (fun af=>yHH ak) 0 (ak) ()) (y6y n n ak 0) := by
  refine yT (f := some) (W := fun au ah af=>y6y n au ak ah) (fun au ah af=>?_) hx () n (by unfold big at hn; unfold lenMax at hx; omega)
  show LeF _ _ (yEH n (y6y n au) ak ah)
  exact y5 (y6 fun v3=>(y5 (y5 (y7 rfl) (y5 (y5 (y7 rfl) (by apply y0J n hn)) (by apply y0J n hn))) (y5 (y5 (y7 rfl) (by apply y0J n hn)) (by apply y0J n hn)))) (y0R (y7 rfl))
def yIG (s:List UInt8):Option (Bool×Unit) :=
  (bif (↑s.length:Int)==0 then (some ((Bool.false,()))) else (bif decide ((↑s.length:Int) > 24) then (some ((Bool.false,()))) else (bif decide (List.length (s) < lenMax) then yK (fun ah aw af=>yBG (s) ah aw) (fun af=>yHH (s)) 0 (s) () else none)))
abbrev z0G_e:Entry := { f := 143,args := .pair t9 .unit,rS := .pair t4 .unit,m := fun x=>yIG x.1 }
theorem yNv:FnOK Tryz.prog z0G_e := fB Tryz.f143 (fun n x=>yPw n x.1) [[0,3,25,26,29,30,31,32,33,34,39,40,41,42,43,44,45,46,47,48]] eNil fun n hn x=>(y5 (y7 rfl) (y5 (y7 rfl) (yV fun hx=>by apply yCk n hn; exact hx)))
def yLk (n:Nat) (r0:(Cnd×Unit→Option (Int×Unit))→List Cnd→Int→Int→List Int→Option (List Int×Unit)) (a7:Cnd×Unit→Option (Int×Unit)) (aa:List Cnd) (ae:Int) (a8:Int) (ac:List Int):Option (List Int×Unit) :=
  (bif decide (a8 < ae) then (Option.bind (idx aa a8) fun (v1:Cnd)=>(Option.bind (a7 ((v1.1,v1.2.1,v1.2.2.1,()),())) fun (v2:Int×Unit)=>(bif decide (ac.length + (1:Nat)≤memMax) then r0 a7 aa ae (IntKind.i64.wrap (a8 + 1)) (ac ++ [v2.1]) else none))) else some (ac,()))
def yLg (n:Nat)  (k:Nat) (a7:Cnd×Unit→Option (Int×Unit)) (aa:List Cnd) (ae:Int) (a8:Int) (ac:List Int):Option (List Int×Unit) :=
  iter (fun r y=>yLk n (fun a7 aa ae a8 ac=>r ((a7,(aa,(ae,(a8,())))),((ac,()),()))) y.1.1 y.1.2.1 y.1.2.2.1 y.1.2.2.2.1 y.2.1.1) k ((a7,(aa,(ae,(a8,())))),((ac,()),()))
def z7_m (n:Nat) (l:List Cnd) (of:Cnd×Unit→Option (Int×Unit)):Option (List Int×Unit) :=
  (yLg n n (of) (l) ((↑l.length:Int)) ((0:Int)) ([]))
def z7_M (l:List Cnd) (of:Cnd×Unit→Option (Int×Unit)):Option (List Int×Unit) := z7_m 1000 l of
abbrev z7_e:Entry := { f := 147,args := .pair t54 (.pair t156 .unit),rS := .pair t174 .unit,m := fun x=>z7_M x.1 x.2.1 }
theorem yQa:FnOK Tryz.prog z7_e := fF (mu := [5]) 1000 Tryz.f147 (fun n x=>z7_m n x.1 x.2.1) [[1,5,8,9,10]] eNil
def yLX (n:Nat) (r0:(Psg×Unit→Option (List Int×Unit))→List Psg→Int→Int→List (List Int)→Option (List (List Int)×Unit)) (a7:Psg×Unit→Option (List Int×Unit)) (aa:List Psg) (ae:Int) (a8:Int) (ac:List (List Int)):Option (List (List Int)×Unit) :=
  (bif decide (a8 < ae) then (Option.bind (idx aa a8) fun (v1:Psg)=>(Option.bind (a7 (((v1.1.1,v1.1.2.1,v1.1.2.2.1,()),v1.2.1,v1.2.2.1,()),())) fun (v2:List Int×Unit)=>(bif decide (ac.length + (1:Nat)≤memMax) then r0 a7 aa ae (IntKind.i64.wrap (a8 + 1)) (ac ++ [v2.1]) else none))) else some (ac,()))
def yMs (n:Nat)  (k:Nat) (a7:Psg×Unit→Option (List Int×Unit)) (aa:List Psg) (ae:Int) (a8:Int) (ac:List (List Int)):Option (List (List Int)×Unit) :=
  iter (fun r y=>yLX n (fun a7 aa ae a8 ac=>r ((a7,(aa,(ae,(a8,())))),((ac,()),()))) y.1.1 y.1.2.1 y.1.2.2.1 y.1.2.2.2.1 y.2.1.1) k ((a7,(aa,(ae,(a8,())))),((ac,()),()))
def zC_m (n:Nat) (l:List Psg) (of:Psg×Unit→Option (List Int×Unit)):Option (List (List Int)×Unit) :=
  (yMs n n (of) (l) ((↑l.length:Int)) ((0:Int)) ([]))
def zC_M (l:List Psg) (of:Psg×Unit→Option (List Int×Unit)):Option (List (List Int)×Unit) := zC_m 1000 l of
abbrev zC_e:Entry := { f := 148,args := .pair t167 (.pair t237 .unit),rS := .pair t56 .unit,m := fun x=>zC_M x.1 x.2.1 }
theorem yQF:FnOK Tryz.prog zC_e := fF (mu := [5]) 1000 Tryz.f148 (fun n x=>zC_m n x.1 x.2.1) [[1,5,8,9,10]] eNil
def zw_m (n:Nat) (p:Psg):Option (List Int×Unit) :=
  some (p.2.2.1.getD [],())
def zw (p:Psg):(List Int×Unit) :=
  (p.2.2.1.getD [],())
abbrev zw_M (p:Psg):Option (List Int×Unit) := some (zw p)
abbrev zw_e:Entry := { f := 149,args := .pair t180 .unit,rS := .pair t26 .unit,m := fun x=>zw_M x.1 }
theorem yQK:FnOK Tryz.prog zw_e := fF (hm := by intro x; show some (zw x.1) = zw_m 0 x.1; unfold zw_m zw; first | rfl | simp only [yo]) 0 Tryz.f149 (fun n x=>zw_m n x.1) [] eNil
def yLQ (n:Nat) (r0:(Rng×Unit→Option (Int×Unit))→List Rng→Int→Int→List Int→Option (List Int×Unit)) (a7:Rng×Unit→Option (Int×Unit)) (aa:List Rng) (ae:Int) (a8:Int) (ac:List Int):Option (List Int×Unit) :=
  (bif decide (a8 < ae) then (Option.bind (idx aa a8) fun (v1:Rng)=>(Option.bind (a7 (((v1.1.1,v1.1.2.1,()),v1.2.1,v1.2.2.1,()),())) fun (v2:Int×Unit)=>(bif decide (ac.length + (1:Nat)≤memMax) then r0 a7 aa ae (IntKind.i64.wrap (a8 + 1)) (ac ++ [v2.1]) else none))) else some (ac,()))
def yLd (n:Nat)  (k:Nat) (a7:Rng×Unit→Option (Int×Unit)) (aa:List Rng) (ae:Int) (a8:Int) (ac:List Int):Option (List Int×Unit) :=
  iter (fun r y=>yLQ n (fun a7 aa ae a8 ac=>r ((a7,(aa,(ae,(a8,())))),((ac,()),()))) y.1.1 y.1.2.1 y.1.2.2.1 y.1.2.2.2.1 y.2.1.1) k ((a7,(aa,(ae,(a8,())))),((ac,()),()))
def zA_m (n:Nat) (l:List Rng) (of:Rng×Unit→Option (Int×Unit)):Option (List Int×Unit) :=
  (yLd n n (of) (l) ((↑l.length:Int)) ((0:Int)) ([]))
def zA_M (l:List Rng) (of:Rng×Unit→Option (Int×Unit)):Option (List Int×Unit) := zA_m 1000 l of
abbrev zA_e:Entry := { f := 153,args := .pair t108 (.pair t190 .unit),rS := .pair t174 .unit,m := fun x=>zA_M x.1 x.2.1 }
theorem yPm:FnOK Tryz.prog zA_e := fF (mu := [5]) 1000 Tryz.f153 (fun n x=>zA_m n x.1 x.2.1) [[1,5,8,9,10]] eNil
def yMa (n:Nat) (r0:((Int×Int×Unit)×Unit→Option (Int×Unit))→List (Int×Int×Unit)→Int→Int→List Int→Option (List Int×Unit)) (a7:(Int×Int×Unit)×Unit→Option (Int×Unit)) (aa:List (Int×Int×Unit)) (ae:Int) (a8:Int) (ac:List Int):Option (List Int×Unit) :=
  (bif decide (a8 < ae) then (Option.bind (idx aa a8) fun (v1:Int×Int×Unit)=>(Option.bind (a7 ((v1.1,v1.2.1,()),())) fun (v2:Int×Unit)=>(bif decide (ac.length + (1:Nat)≤memMax) then r0 a7 aa ae (IntKind.i64.wrap (a8 + 1)) (ac ++ [v2.1]) else none))) else some (ac,()))
def yLn (n:Nat)  (k:Nat) (a7:(Int×Int×Unit)×Unit→Option (Int×Unit)) (aa:List (Int×Int×Unit)) (ae:Int) (a8:Int) (ac:List Int):Option (List Int×Unit) :=
  iter (fun r y=>yMa n (fun a7 aa ae a8 ac=>r ((a7,(aa,(ae,(a8,())))),((ac,()),()))) y.1.1 y.1.2.1 y.1.2.2.1 y.1.2.2.2.1 y.2.1.1) k ((a7,(aa,(ae,(a8,())))),((ac,()),()))
def z8_m (n:Nat) (l:List (Int×Int×Unit)) (of:(Int×Int×Unit)×Unit→Option (Int×Unit)):Option (List Int×Unit) :=
  (yLn n n (of) (l) ((↑l.length:Int)) ((0:Int)) ([]))
def z8_M (l:List (Int×Int×Unit)) (of:(Int×Int×Unit)×Unit→Option (Int×Unit)):Option (List Int×Unit) := z8_m 1000 l of
abbrev z8_e:Entry := { f := 159,args := .pair t97 (.pair t246 .unit),rS := .pair t174 .unit,m := fun x=>z8_M x.1 x.2.1 }
theorem yPD:FnOK Tryz.prog z8_e := fF (mu := [5]) 1000 Tryz.f159 (fun n x=>z8_m n x.1 x.2.1) [[1,5,8,9,10]] eNil
def yLw (n:Nat) (r0:((Int×Int×Unit)×Unit→Option (Int×Unit))→List (Int×Int×Unit)→Int→Int→List Int→Option (List Int×Unit)) (a7:(Int×Int×Unit)×Unit→Option (Int×Unit)) (aa:List (Int×Int×Unit)) (ae:Int) (a8:Int) (ac:List Int):Option (List Int×Unit) :=
  (bif decide (a8 < ae) then (Option.bind (idx aa a8) fun (v1:Int×Int×Unit)=>(Option.bind (a7 ((v1.1,v1.2.1,()),())) fun (v2:Int×Unit)=>(bif decide (ac.length + (1:Nat)≤memMax) then r0 a7 aa ae (IntKind.i64.wrap (a8 + 1)) (ac ++ [v2.1]) else none))) else some (ac,()))
def yLb (n:Nat)  (k:Nat) (a7:(Int×Int×Unit)×Unit→Option (Int×Unit)) (aa:List (Int×Int×Unit)) (ae:Int) (a8:Int) (ac:List Int):Option (List Int×Unit) :=
  iter (fun r y=>yLw n (fun a7 aa ae a8 ac=>r ((a7,(aa,(ae,(a8,())))),((ac,()),()))) y.1.1 y.1.2.1 y.1.2.2.1 y.1.2.2.2.1 y.2.1.1) k ((a7,(aa,(ae,(a8,())))),((ac,()),()))
def zF_m (n:Nat) (l:List (Int×Int×Unit)) (of:(Int×Int×Unit)×Unit→Option (Int×Unit)):Option (List Int×Unit) :=
  (yLb n n (of) (l) ((↑l.length:Int)) ((0:Int)) ([]))
def zF_M (l:List (Int×Int×Unit)) (of:(Int×Int×Unit)×Unit→Option (Int×Unit)):Option (List Int×Unit) := zF_m 1000 l of
abbrev zF_e:Entry := { f := 164,args := .pair t97 (.pair t255 .unit),rS := .pair t26 .unit,m := fun x=>zF_M x.1 x.2.1 }
theorem yPq:FnOK Tryz.prog zF_e := fF (mu := [5]) 1000 Tryz.f164 (fun n x=>zF_m n x.1 x.2.1) [[1,5,8,9,10]] eNil
def yLW (n:Nat) (p:Lnk×Int×Int×Int×Bool×Unit):Option (Int×Unit) :=
  some (if Bool.true = Bool.true then if (if IntKind.i64.wrap (p.2.1 - IntKind.i64.wrap (p.2.2.1 * p.1.2.2.2.1)) < p.1.2.2.2.2.1 then IntKind.i64.wrap (p.2.1 - IntKind.i64.wrap (p.2.2.1 * p.1.2.2.2.1)) else p.1.2.2.2.2.1) > 0 then if IntKind.i64.wrap (p.2.1 - IntKind.i64.wrap (p.2.2.1 * p.1.2.2.2.1)) < p.1.2.2.2.2.1 then IntKind.i64.wrap (p.2.1 - IntKind.i64.wrap (p.2.2.1 * p.1.2.2.2.1)) else p.1.2.2.2.2.1 else (0:Int) else if (if IntKind.i64.wrap (p.2.1 - IntKind.i64.wrap (p.2.2.1 * p.1.2.2.2.1)) < p.1.2.2.2.2.1 then IntKind.i64.wrap (p.2.1 - IntKind.i64.wrap (p.2.2.1 * p.1.2.2.2.1)) else p.1.2.2.2.2.1) < 0 then if IntKind.i64.wrap (p.2.1 - IntKind.i64.wrap (p.2.2.1 * p.1.2.2.2.1)) < p.1.2.2.2.2.1 then IntKind.i64.wrap (p.2.1 - IntKind.i64.wrap (p.2.2.1 * p.1.2.2.2.1)) else p.1.2.2.2.2.1 else (0:Int),())
def z07 (p:Lnk×Int×Int×Int×Bool×Unit):(Int×Unit) :=
  (if Bool.true = Bool.true then if (if IntKind.i64.wrap (p.2.1 - IntKind.i64.wrap (p.2.2.1 * p.1.2.2.2.1)) < p.1.2.2.2.2.1 then IntKind.i64.wrap (p.2.1 - IntKind.i64.wrap (p.2.2.1 * p.1.2.2.2.1)) else p.1.2.2.2.2.1) > 0 then if IntKind.i64.wrap (p.2.1 - IntKind.i64.wrap (p.2.2.1 * p.1.2.2.2.1)) < p.1.2.2.2.2.1 then IntKind.i64.wrap (p.2.1 - IntKind.i64.wrap (p.2.2.1 * p.1.2.2.2.1)) else p.1.2.2.2.2.1 else (0:Int) else if (if IntKind.i64.wrap (p.2.1 - IntKind.i64.wrap (p.2.2.1 * p.1.2.2.2.1)) < p.1.2.2.2.2.1 then IntKind.i64.wrap (p.2.1 - IntKind.i64.wrap (p.2.2.1 * p.1.2.2.2.1)) else p.1.2.2.2.2.1) < 0 then if IntKind.i64.wrap (p.2.1 - IntKind.i64.wrap (p.2.2.1 * p.1.2.2.2.1)) < p.1.2.2.2.2.1 then IntKind.i64.wrap (p.2.1 - IntKind.i64.wrap (p.2.2.1 * p.1.2.2.2.1)) else p.1.2.2.2.2.1 else (0:Int),())
abbrev yLN (p:Lnk×Int×Int×Int×Bool×Unit):Option (Int×Unit) := some (z07 p)
abbrev z07_e:Entry := { f := 183,args := .pair t230 .unit,rS := .pair t3 .unit,m := fun x=>yLN x.1 }
theorem yO0:FnOK Tryz.prog z07_e := fF (hm := by intro x; show some (z07 x.1) = yLW 0 x.1; unfold yLW z07; first | rfl | simp only [yo]) 0 Tryz.f183 (fun n x=>yLW n x.1) [] eNil
end
end Go.Tw
end
