import Derived.Test.YtkfigfhjbejikaaGreatDoorBT
import Derived.Test.YtkfigfhjbejikaaGreatDoorB0
set_option linter.all false
section
set_option maxRecDepth 1000000
namespace Go.Tw
open Go.Vx Go.Vx.B Go.Proofs
noncomputable section
def yKv (n:Nat) (holds:Bool) (e:Int):Option (Int×Unit) :=
  (bif holds then some (e,()) else some ((0:Int),()))
def z0c (holds:Bool) (e:Int):(Int×Unit) :=
  (bif holds then (e,()) else ((0:Int),()))
abbrev yOM (holds:Bool) (e:Int):Option (Int×Unit) := some (z0c holds e)
abbrev z0c_e:Entry := { f := 89,args := .pair t4 (.pair t35 .unit),rS := .pair t35 .unit,m := fun x=>yOM x.1 x.2.1 }
theorem y3c:FnOK Tryz.prog z0c_e := fF (hm := by intro x; show some (z0c x.1 x.2.1) = yKv 0 x.1 x.2.1; unfold yKv z0c; first | rfl | simp only [yp]) 0 Tryz.f89 (fun n x=>yKv n x.1 x.2.1) [] eNil
def yE4 (n:Nat) (r0:List Int→Int→Int→Option (Int×Unit)) (ax:List Int) (aQ:Int) (aK:Int):Option (Int×Unit) :=
  (bif decide (aK < aQ) then (Option.bind (idx ax aK) fun (v1:Int)=>(bif v1 != 0 then some (v1,()) else r0 ax aQ (IntKind.i64.wrap (aK + 1)))) else some ((0:Int),()))
def y6j (n:Nat)  (k:Nat) (ax:List Int) (aQ:Int) (aK:Int):Option (Int×Unit) :=
  iter (fun r y=>yE4 n (fun ax aQ aK=>r ((ax,(aQ,(aK,()))),((),()))) y.1.1 y.1.2.1 y.1.2.2.1) k ((ax,(aQ,(aK,()))),((),()))
def yOi (n:Nat) (l:List Int):Option (Int×Unit) :=
  (y6j n n (l) ((↑l.length:Int)) ((0:Int)))
def yGB (ax:List Int) (aK:Int) (v1:Int):Option ((Int×Unit)⊕Unit) :=
  (bif v1 != 0 then (some (Sum.inl ((v1,())))) else (some (Sum.inr ())))
def yHQ (ax:List Int):Option (Int×Unit) :=
  (some (((0:Int),())))
theorem yCS (n:Nat) (hn:big≤n)  (ax:List Int) (hx:List.length (ax) < lenMax):LeF some (yJ (fun ah aw af=>yGB ax ah aw) (fun af=>yHQ ax) 0 (ax) ()) (y6j n n ax (List.length (ax):Int) 0) := by
  refine yb (f := some) (W := fun au ah af=>y6j n au ax (List.length (ax):Int) ah) (fun au ah af=>?_) hx () n (by unfold big at hn; unfold lenMax at hx; omega)
  show LeF _ _ (yE4 n (y6j n au) ax (List.length (ax):Int) ah)
  exact y5 (y9 fun v1=>(y5 (y8 rfl) (y8 rfl))) (y0t (y8 rfl))
def y0h (l:List Int):Option (Int×Unit) :=
  (bif decide (List.length (l) < lenMax) then yJ (fun ah aw af=>yGB (l) ah aw) (fun af=>yHQ (l)) 0 (l) () else none)
abbrev z0P_e:Entry := { f := 87,args := .pair t174 .unit,rS := .pair t35 .unit,m := fun x=>y0h x.1 }
theorem y3q:FnOK Tryz.prog z0P_e := fB Tryz.f87 (fun n x=>yOi n x.1) [[5,6,7]] eNil fun n hn x=>(yd fun hx=>by apply yCS n hn; exact hx)
def zj_m (n:Nat) (n1:Nod) (volume:Int):Option (Int×Unit) :=
  (bif n1.2.1==0 then none else some (IntKind.i64.wrap (volume.tdiv n1.2.1),()))
def zj_M (n1:Nod) (volume:Int):Option (Int×Unit) := zj_m 0 n1 volume
abbrev zj_e:Entry := { f := 91,args := .pair t159 (.pair t3 .unit),rS := .pair t3 .unit,m := fun x=>zj_M x.1 x.2.1 }
theorem yN8:FnOK Tryz.prog zj_e := fF 0 Tryz.f91 (fun n x=>zj_m n x.1 x.2.1) [] eNil
def yMO (n:Nat) (a:Int) (b:Int):Option (Int×Unit) :=
  (bif b==0 then none else (bif decide (IntKind.i64.wrap (IntKind.i64.wrap (a.tdiv b) * b) > a) then some (IntKind.i64.wrap (IntKind.i64.wrap (a.tdiv b) - (1:Int)),()) else some (IntKind.i64.wrap (a.tdiv b),())))
def yLE (a:Int) (b:Int):Option (Int×Unit) := yMO 0 a b
abbrev z0Q_e:Entry := { f := 199,args := .pair t3 (.pair t3 .unit),rS := .pair t3 .unit,m := fun x=>yLE x.1 x.2.1 }
theorem yKA:FnOK Tryz.prog z0Q_e := fF 0 Tryz.f199 (fun n x=>yMO n x.1 x.2.1) [] eNil
def zm_m (n:Nat) (n1:Int) (low:Int) (high:Int):Option (Int×Unit) :=
  (bif decide (n1 < low) then some ((3:Int),()) else (bif decide (n1 > high) then some ((3:Int),()) else some ((0:Int),())))
def zm (n1:Int) (low:Int) (high:Int):(Int×Unit) :=
  (bif decide (n1 < low) then ((3:Int),()) else (bif decide (n1 > high) then ((3:Int),()) else ((0:Int),())))
abbrev zm_M (n1:Int) (low:Int) (high:Int):Option (Int×Unit) := some (zm n1 low high)
abbrev zm_e:Entry := { f := 93,args := .pair t3 (.pair t3 (.pair t3 .unit)),rS := .pair t3 .unit,m := fun x=>zm_M x.1 x.2.1 x.2.2.1 }
theorem yMI:FnOK Tryz.prog zm_e := fF (hm := by intro x; show some (zm x.1 x.2.1 x.2.2.1) = zm_m 0 x.1 x.2.1 x.2.2.1; unfold zm_m zm; first | rfl | simp only [yp]) 0 Tryz.f93 (fun n x=>zm_m n x.1 x.2.1 x.2.2.1) [] eNil
def yDa (n:Nat) (r0:List Int→Int→Option (Int×Unit)) (aj:List Int) (aH:Int):Option (Int×Unit) :=
  (bif decide (aH < (↑aj.length:Int)) then (Option.bind (idx aj aH) fun (v1:Int)=>(bif v1 != 0 then (Option.bind (idx aj aH) fun (v2:Int)=>some (v2,())) else r0 aj (IntKind.i64.wrap (aH + 1)))) else some ((0:Int),()))
def y6o (n:Nat)  (k:Nat) (aj:List Int) (aH:Int):Option (Int×Unit) :=
  iter (fun r y=>yDa n (fun aj aH=>r ((aj,(aH,())),((),()))) y.1.1 y.1.2.1) k ((aj,(aH,())),((),()))
def yP5 (n:Nat) (l:List Int):Option (Int×Unit) :=
  (y6o n n (l) ((0:Int)))
def yEB (aj:List Int) (aH:Int) (v1:Int):Option ((Int×Unit)⊕Unit) :=
  (bif v1 != 0 then (Option.bind (idx aj aH) fun (v2:Int)=>(some (Sum.inl ((v2,()))))) else (some (Sum.inr ())))
def yDE (aj:List Int):Option (Int×Unit) :=
  (some (((0:Int),())))
theorem yCj (n:Nat) (hn:big≤n)  (aj:List Int) (hx:List.length (aj) < lenMax):LeF some (yJ (fun ah aw af=>yEB aj ah aw) (fun af=>yDE aj) 0 (aj) ()) (y6o n n aj 0) := by
  refine yb (f := some) (W := fun au ah af=>y6o n au aj ah) (fun au ah af=>?_) hx () n (by unfold big at hn; unfold lenMax at hx; omega)
  show LeF _ _ (yDa n (y6o n au) aj ah)
  exact y5 (y9 fun v1=>(y5 (y9 fun v2=>(y8 rfl)) (y8 rfl))) (y0t (y8 rfl))
def yBp (l:List Int):Option (Int×Unit) :=
  (bif decide (List.length (l) < lenMax) then yJ (fun ah aw af=>yEB (l) ah aw) (fun af=>yDE (l)) 0 (l) () else none)
abbrev z0U_e:Entry := { f := 121,args := .pair t26 .unit,rS := .pair t3 .unit,m := fun x=>yBp x.1 }
theorem yK4:FnOK Tryz.prog z0U_e := fB Tryz.f121 (fun n x=>yP5 n x.1) [[0,3]] eNil fun n hn x=>(yd fun hx=>by apply yCj n hn; exact hx)
def yKP (n:Nat) (kind:List UInt8):Option (Bool×Bool×Unit) :=
  (bif kind==[(98:UInt8),97,114,114,105,101,114] then some (Bool.true,kind==[(111:UInt8),117,116,102,97,108,108],()) else some (kind==[(108:UInt8),101,97,107],kind==[(111:UInt8),117,116,102,97,108,108],()))
def z0j (kind:List UInt8):(Bool×Bool×Unit) :=
  (bif kind==[(98:UInt8),97,114,114,105,101,114] then (Bool.true,kind==[(111:UInt8),117,116,102,97,108,108],()) else (kind==[(108:UInt8),101,97,107],kind==[(111:UInt8),117,116,102,97,108,108],()))
abbrev yOp (kind:List UInt8):Option (Bool×Bool×Unit) := some (z0j kind)
abbrev z0j_e:Entry := { f := 145,args := .pair t9 .unit,rS := .pair t4 (.pair t4 .unit),m := fun x=>yOp x.1 }
theorem yN9:FnOK Tryz.prog z0j_e := fF (hm := by intro x; show some (z0j x.1) = yKP 0 x.1; unfold yKP z0j; first | rfl | simp only [yp]) 0 Tryz.f145 (fun n x=>yKP n x.1) [] eNil
def yKD (n:Nat) (n1:Int) (nodes:Int) (atSea:Bool):Option (Bool×Unit) :=
  (bif atSea then some (n1==(-1:Int),()) else (bif decide (n1 ≥ 0) then some (decide (n1 < nodes),()) else some (Bool.false,())))
def z0g (n1:Int) (nodes:Int) (atSea:Bool):(Bool×Unit) :=
  (bif atSea then (n1==(-1:Int),()) else (bif decide (n1 ≥ 0) then (decide (n1 < nodes),()) else (Bool.false,())))
abbrev yOq (n1:Int) (nodes:Int) (atSea:Bool):Option (Bool×Unit) := some (z0g n1 nodes atSea)
abbrev z0g_e:Entry := { f := 146,args := .pair t3 (.pair t3 (.pair t4 .unit)),rS := .pair t4 .unit,m := fun x=>yOq x.1 x.2.1 x.2.2.1 }
theorem yMZ:FnOK Tryz.prog z0g_e := fF (hm := by intro x; show some (z0g x.1 x.2.1 x.2.2.1) = yKD 0 x.1 x.2.1 x.2.2.1; unfold yKD z0g; first | rfl | simp only [yp]) 0 Tryz.f146 (fun n x=>yKD n x.1 x.2.1 x.2.2.1) [] eNil
def yLc (n:Nat) (x1:Int×Int×Unit):Option (List Int×Unit) :=
  some ([x1.1,x1.2.1],())
def z0b (x1:Int×Int×Unit):(List Int×Unit) :=
  ([x1.1,x1.2.1],())
abbrev yPO (x1:Int×Int×Unit):Option (List Int×Unit) := some (z0b x1)
abbrev z0b_e:Entry := { f := 166,args := .pair t96 .unit,rS := .pair t253 .unit,m := fun x=>yPO x.1 }
theorem yJg:FnOK Tryz.prog z0b_e := fF (hm := by intro x; show some (z0b x.1) = yLc 0 x.1; unfold yLc z0b; first | rfl | simp only [yp]) 0 Tryz.f166 (fun n x=>yLc n x.1) [] eNil
abbrev yKf:Ty := .unit
abbrev yMP:Ty := .pair t67 .unit
def yNQ:G := { T := T,E := [],mU := [],fz := [] }
def yOO:List (List Nat) := []
def yJj (n:Nat):Ann := { keep := yOO,fuel := n,inl := [],deep := 0 }
def yIU (n:Nat)  : Option (List (List UInt8)×Unit) :=
  some ([[(98:UInt8),97,114,114,105,101,114],[(108:UInt8),101,97,107],[(111:UInt8),117,116,102,97,108,108],[(112:UInt8),117,109,112],[(119:UInt8),101,105,114]],())
theorem yMt (n:Nat) (x:yKf.den):runF yNQ (yJj n) Tryz.f38 yKf yMP x = yIU n := by kernel_rfl
def z0W  : (List (List UInt8)×Unit) :=
  ([[(98:UInt8),97,114,114,105,101,114],[(108:UInt8),101,97,107],[(111:UInt8),117,116,102,97,108,108],[(112:UInt8),117,109,112],[(119:UInt8),101,105,114]],())
abbrev yMY  : Option (List (List UInt8)×Unit) := some (z0W)
theorem yKS  (y:List (List UInt8)×Unit) (h:yMY = some y) : ∃ n,yIU n = some y :=
  ⟨0,by rw [← h]; show yIU 0 = some (z0W); unfold yIU z0W; first | rfl | (simp only [yp]; done) | (simp only [yp]; rfl)⟩
def z0W_e:Entry := { f := 38,args := yKf,rS := yMP,m := fun x=>yMY }
theorem yNs:FnOK Tryz.prog z0W_e := y2v (g := yNQ) (fn := Tryz.f38) y17 y2W eNil (by kernel_rfl) (by kernel_rfl) (by kernel_rfl) (fun x y h=>let ⟨n,hn⟩ := yKS y h; ⟨yJj n,iNil,(yMt n x).trans hn⟩)
def yER (n:Nat) (r7:Bas→Int→Option (Bool×Unit)) (ay:Bas) (aL:Int):Option (Bool×Unit) :=
  (bif decide (aL < (↑ay.2.1.length:Int)) then (Option.bind (idx ay.2.1 aL) fun (v8:Lnk)=>(bif decide ((↑v8.1.length:Int) > 60) then some (Bool.false,()) else r7 ay (IntKind.i64.wrap (aL + 1)))) else some (Bool.true,()))
def y6h (n:Nat)  (k:Nat) (ay:Bas) (aL:Int):Option (Bool×Unit) :=
  iter (fun r y=>yER n (fun ay aL=>r ((ay,(aL,())),((),()))) y.1.1 y.1.2.1) k ((ay,(aL,())),((),()))
def yDO (n:Nat) (r5:Bas→Int→Option (Bool×Unit)) (av:Bas) (aM:Int):Option (Bool×Unit) :=
  (bif decide (aM < (↑av.1.length:Int)) then (Option.bind (idx av.1 aM) fun (v6:Nod)=>(bif decide ((↑v6.1.length:Int) > 60) then some (Bool.false,()) else r5 av (IntKind.i64.wrap (aM + 1)))) else (y6h n n (av) ((0:Int))))
def y6v (n:Nat)  (k:Nat) (av:Bas) (aM:Int):Option (Bool×Unit) :=
  iter (fun r y=>yDO n (fun av aM=>r ((av,(aM,())),((),()))) y.1.1 y.1.2.1) k ((av,(aM,())),((),()))
def yAI (n:Nat) (b:Bas):Option (Bool×Unit) :=
  (y6v n n (b) ((0:Int)))
def yPI (n:Nat) (b:Bas):Option (Bool×Unit) :=
  (bif decide ((↑b.1.length:Int) > 9) then some (Bool.false,()) else (bif decide ((↑b.2.1.length:Int) > 8) then (bif (↑b.2.1.length:Int) != 17 then some (Bool.false,()) else (yAI n b)) else (yAI n b)))
def yHN (ay:Bas) (aL:Int) (v8:Lnk):Option ((Bool×Unit)⊕Unit) :=
  (bif decide ((↑v8.1.length:Int) > 60) then (some (Sum.inl ((Bool.false,())))) else (some (Sum.inr ())))
def yJd (ay:Bas):Option (Bool×Unit) :=
  (some ((Bool.true,())))
theorem yCV (n:Nat) (hn:big≤n)  (ay:Bas) (hx:List.length (ay.2.1) < lenMax):LeF some (yJ (fun ah aw af=>yHN ay ah aw) (fun af=>yJd ay) 0 (ay.2.1) ()) (y6h n n ay 0) := by
  refine yb (f := some) (W := fun au ah af=>y6h n au ay ah) (fun au ah af=>?_) hx () n (by unfold big at hn; unfold lenMax at hx; omega)
  show LeF _ _ (yER n (y6h n au) ay ah)
  exact y5 (y9 fun v8=>(y5 (y8 rfl) (y8 rfl))) (y0t (y8 rfl))
def yHR (av:Bas) (aM:Int) (v6:Nod):Option ((Bool×Unit)⊕Unit) :=
  (bif decide ((↑v6.1.length:Int) > 60) then (some (Sum.inl ((Bool.false,())))) else (some (Sum.inr ())))
def yEM (av:Bas):Option (Bool×Unit) :=
  (bif decide (List.length (av.2.1) < lenMax) then yJ (fun ah aw af=>yHN (av) ah aw) (fun af=>yJd (av)) 0 (av.2.1) () else none)
theorem yCI (n:Nat) (hn:big≤n)  (av:Bas) (hx:List.length (av.1) < lenMax):LeF some (yJ (fun ah aw af=>yHR av ah aw) (fun af=>yEM av) 0 (av.1) ()) (y6v n n av 0) := by
  refine yb (f := some) (W := fun au ah af=>y6v n au av ah) (fun au ah af=>?_) hx () n (by unfold big at hn; unfold lenMax at hx; omega)
  show LeF _ _ (yDO n (y6v n au) av ah)
  exact y5 (y9 fun v6=>(y5 (y8 rfl) (y8 rfl))) (y0t (yd fun hx=>by apply yCV n hn; exact hx))
def yB8 (b:Bas):Option (Bool×Unit) :=
  (bif decide (List.length (b.1) < lenMax) then yJ (fun ah aw af=>yHR (b) ah aw) (fun af=>yEM (b)) 0 (b.1) () else none)
theorem y2s (n:Nat) (hn:big≤n)  (b:Bas):LeF some (yB8 b) (yAI n b) :=
  (yd fun hx=>by apply yCI n hn; exact hx)
def yKm (b:Bas):Option (Bool×Unit) :=
  (bif decide ((↑b.1.length:Int) > 9) then (some ((Bool.false,()))) else (bif decide ((↑b.2.1.length:Int) > 8) then (bif (↑b.2.1.length:Int) != 17 then (some ((Bool.false,()))) else (yB8 b)) else (yB8 b)))
abbrev z0Z_e:Entry := { f := 15,args := .pair t25 .unit,rS := .pair t4 .unit,m := fun x=>yKm x.1 }
theorem yM3:FnOK Tryz.prog z0Z_e := fB Tryz.f15 (fun n x=>yPI n x.1) [[1,3],[1,4]] eNil fun n hn x=>(y5 (y8 rfl) (y5 (y5 (y8 rfl) (by apply y2s n hn)) (by apply y2s n hn)))
def zq_m (n:Nat) (l:Lnk):Option (Int×Unit) :=
  (bif l.2.1==(-1:Int) then some (l.2.2.1,()) else some (l.2.1,()))
def zq (l:Lnk):(Int×Unit) :=
  (bif l.2.1==(-1:Int) then (l.2.2.1,()) else (l.2.1,()))
abbrev zq_M (l:Lnk):Option (Int×Unit) := some (zq l)
abbrev zq_e:Entry := { f := 142,args := .pair t163 .unit,rS := .pair t3 .unit,m := fun x=>zq_M x.1 }
theorem yOS:FnOK Tryz.prog zq_e := fF (hm := by intro x; show some (zq x.1) = zq_m 0 x.1; unfold zq_m zq; first | rfl | simp only [yp]) 0 Tryz.f142 (fun n x=>zq_m n x.1) [] eNil
def yEE (n:Nat) (r0:List (List UInt8)→List UInt8→Int→Option (Bool×Unit)) (aj:List (List UInt8)) (aB:List UInt8) (ar:Int):Option (Bool×Unit) :=
  (bif decide (ar < (↑aj.length:Int)) then (Option.bind (idx aj ar) fun (v1:List UInt8)=>(bif v1==aB then some (Bool.true,()) else r0 aj aB (IntKind.i64.wrap (ar + 1)))) else some (Bool.false,()))
def y6g (n:Nat)  (k:Nat) (aj:List (List UInt8)) (aB:List UInt8) (ar:Int):Option (Bool×Unit) :=
  iter (fun r y=>yEE n (fun aj aB ar=>r ((aj,(aB,(ar,()))),((),()))) y.1.1 y.1.2.1 y.1.2.2.1) k ((aj,(aB,(ar,()))),((),()))
def yOo (n:Nat) (l:List (List UInt8)) (s:List UInt8):Option (Bool×Unit) :=
  (y6g n n (l) (s) ((0:Int)))
def yHO (aj:List (List UInt8)) (aB:List UInt8) (ar:Int) (v1:List UInt8):Option ((Bool×Unit)⊕Unit) :=
  (bif v1==aB then (some (Sum.inl ((Bool.true,())))) else (some (Sum.inr ())))
def yJs (aj:List (List UInt8)) (aB:List UInt8):Option (Bool×Unit) :=
  (some ((Bool.false,())))
theorem yCu (n:Nat) (hn:big≤n)  (aj:List (List UInt8)) (aB:List UInt8) (hx:List.length (aj) < lenMax):LeF some (yJ (fun ah aw af=>yHO aj aB ah aw) (fun af=>yJs aj aB) 0 (aj) ()) (y6g n n aj aB 0) := by
  refine yb (f := some) (W := fun au ah af=>y6g n au aj aB ah) (fun au ah af=>?_) hx () n (by unfold big at hn; unfold lenMax at hx; omega)
  show LeF _ _ (yEE n (y6g n au) aj aB ah)
  exact y5 (y9 fun v1=>(y5 (y8 rfl) (y8 rfl))) (y0t (y8 rfl))
def yJH (l:List (List UInt8)) (s:List UInt8):Option (Bool×Unit) :=
  (bif decide (List.length (l) < lenMax) then yJ (fun ah aw af=>yHO (l) (s) ah aw) (fun af=>yJs (l) (s)) 0 (l) () else none)
abbrev z07_e:Entry := { f := 144,args := .pair t67 (.pair t9 .unit),rS := .pair t4 .unit,m := fun x=>yJH x.1 x.2.1 }
theorem yLt:FnOK Tryz.prog z07_e := fB Tryz.f144 (fun n x=>yOo n x.1 x.2.1) [[0,1,5]] eNil fun n hn x=>(yd fun hx=>by apply yCu n hn; exact hx)
def yKQ (n:Nat) (r0:List Int→List Int→Int→Option (Bool×Unit)) (aC:List Int) (al:List Int) (ar:Int):Option (Bool×Unit) :=
  (bif decide (ar < (↑aC.length:Int)) then (Option.bind (idx aC ar) fun (v1:Int)=>(Option.bind (idx al ar) fun (v2:Int)=>(bif v1 != v2 then some (Bool.false,()) else r0 aC al (IntKind.i64.wrap (ar + 1))))) else some (Bool.true,()))
def yKl (n:Nat)  (k:Nat) (aC:List Int) (al:List Int) (ar:Int):Option (Bool×Unit) :=
  iter (fun r y=>yKQ n (fun aC al ar=>r ((aC,(al,(ar,()))),((),()))) y.1.1 y.1.2.1 y.1.2.2.1) k ((aC,(al,(ar,()))),((),()))
def zw_m (n:Nat) (a:List Int) (b:List Int):Option (Bool×Unit) :=
  (bif (↑a.length:Int) != (↑b.length:Int) then some (Bool.false,()) else (yKl n n (a) (b) ((0:Int))))
def zw_M (a:List Int) (b:List Int):Option (Bool×Unit) := zw_m 1000 a b
abbrev zw_e:Entry := { f := 41,args := .pair t26 (.pair t26 .unit),rS := .pair t4 .unit,m := fun x=>zw_M x.1 x.2.1 }
theorem yLz:FnOK Tryz.prog zw_e := fF 1000 Tryz.f41 (fun n x=>zw_m n x.1 x.2.1) [[0,1,5]] eNil
end
end Go.Tw
end
section
set_option maxRecDepth 1000000
namespace Go.Tw
open Go.Vx Go.Vx.B Go.Proofs
noncomputable section
def yEQ (n:Nat) (r2:List Lnk→Int→Int→List Nod→List Lnk→Option (Bas×Unit)) (am:List Lnk) (aI:Int) (aF:Int) (aD:List Nod) (aA:List Lnk):Option (Bas×Unit) :=
  (bif decide (aF < aI) then (Option.bind (idx am aF) fun (v3:Lnk)=>(bif decide (aA.length + (1:Nat)≤memMax) then r2 am aI (IntKind.i64.wrap (aF + 1)) aD (aA ++ [(v3.1,v3.2.1,v3.2.2.1,v3.2.2.2.1,v3.2.2.2.2.1,())]) else none)) else some ((aD,aA,()),()))
def y6Y (n:Nat)  (k:Nat) (am:List Lnk) (aI:Int) (aF:Int) (aD:List Nod) (aA:List Lnk):Option (Bas×Unit) :=
  iter (fun r y=>yEQ n (fun am aI aF aD aA=>r ((am,(aI,(aF,()))),(((),((),(aD,(aA,())))),()))) y.1.1 y.1.2.1 y.1.2.2.1 y.2.1.2.2.1 y.2.1.2.2.2.1) k ((am,(aI,(aF,()))),(((),((),(aD,(aA,())))),()))
def yEO (n:Nat) (r0:Bas→List Nod→Int→Int→List Nod→List Lnk→Option (Bas×Unit)) (al:Bas) (ae:List Nod) (a8:Int) (aG:Int) (az:List Nod) (aE:List Lnk):Option (Bas×Unit) :=
  (bif decide (aG < a8) then (Option.bind (idx ae aG) fun (v1:Nod)=>(bif decide (az.length + (1:Nat)≤memMax) then r0 al ae a8 (IntKind.i64.wrap (aG + 1)) (az ++ [(v1.1,v1.2.1,v1.2.2.1,())]) aE else none)) else (y6Y n n (al.2.1) ((↑al.2.1.length:Int)) ((0:Int)) (az) (aE)))
def y6k (n:Nat)  (k:Nat) (al:Bas) (ae:List Nod) (a8:Int) (aG:Int) (az:List Nod) (aE:List Lnk):Option (Bas×Unit) :=
  iter (fun r y=>yEO n (fun al ae a8 aG az aE=>r ((al,(ae,(a8,(aG,())))),(((),((),(az,(aE,())))),()))) y.1.1 y.1.2.1 y.1.2.2.1 y.1.2.2.2.1 y.2.1.2.2.1 y.2.1.2.2.2.1) k ((al,(ae,(a8,(aG,())))),(((),((),(az,(aE,())))),()))
def yP7 (n:Nat) (b:Bas):Option (Bas×Unit) :=
  (y6k n n (b) (b.1) ((↑b.1.length:Int)) ((0:Int)) ([]) ([]))
def yH2 (am:List Lnk) (aD:List Nod) (aF:Int) (v3:Lnk) (aA:List Lnk):Option ((Bas×Unit)⊕(List Lnk)) :=
  (bif decide (aA.length + (1:Nat)≤memMax) then (some (Sum.inr (aA ++ [(v3.1,v3.2.1,v3.2.2.1,v3.2.2.2.1,v3.2.2.2.2.1,())]))) else none)
def yJb (am:List Lnk) (aD:List Nod) (aA:List Lnk):Option (Bas×Unit) :=
  (some (((aD,aA,()),())))
theorem yCy (n:Nat) (hn:big≤n)  (am:List Lnk) (aD:List Nod) (aA:List Lnk) (hx:List.length (am) < lenMax):LeF some (yJ (fun ah aw af=>yH2 am aD ah aw af) (fun af=>yJb am aD af) 0 (am) aA) (y6Y n n am (List.length (am):Int) 0 aD aA) := by
  refine yb (f := some) (W := fun au ah af=>y6Y n au am (List.length (am):Int) ah aD af) (fun au ah af=>?_) hx aA n (by unfold big at hn; unfold lenMax at hx; omega)
  show LeF _ _ (yEQ n (y6Y n au) am (List.length (am):Int) ah aD af)
  exact y5 (y9 fun v3=>(y5 (y8 rfl) yL)) (y0t (y8 rfl))
def yGD (al:Bas) (ae:List Nod) (aE:List Lnk) (aG:Int) (v1:Nod) (az:List Nod):Option ((Bas×Unit)⊕(List Nod)) :=
  (bif decide (az.length + (1:Nat)≤memMax) then (some (Sum.inr (az ++ [(v1.1,v1.2.1,v1.2.2.1,())]))) else none)
def yHt (al:Bas) (ae:List Nod) (aE:List Lnk) (az:List Nod):Option (Bas×Unit) :=
  (bif decide (List.length (al.2.1) < lenMax) then yJ (fun ah aw af=>yH2 (al.2.1) (az) ah aw af) (fun af=>yJb (al.2.1) (az) af) 0 (al.2.1) (aE) else none)
theorem yCE (n:Nat) (hn:big≤n)  (al:Bas) (ae:List Nod) (aE:List Lnk) (az:List Nod) (hx:List.length (ae) < lenMax):LeF some (yJ (fun ah aw af=>yGD al ae aE ah aw af) (fun af=>yHt al ae aE af) 0 (ae) az) (y6k n n al ae (List.length (ae):Int) 0 az aE) := by
  refine yb (f := some) (W := fun au ah af=>y6k n au al ae (List.length (ae):Int) ah af aE) (fun au ah af=>?_) hx az n (by unfold big at hn; unfold lenMax at hx; omega)
  show LeF _ _ (yEO n (y6k n au) al ae (List.length (ae):Int) ah af aE)
  exact y5 (y9 fun v1=>(y5 (y8 rfl) yL)) (y0t (yd fun hx=>by apply yCy n hn; exact hx))
def yKz (b:Bas):Option (Bas×Unit) :=
  (bif decide (List.length (b.1) < lenMax) then yJ (fun ah aw af=>yGD (b) (b.1) ([]) ah aw af) (fun af=>yHt (b) (b.1) ([]) af) 0 (b.1) ([]) else none)
abbrev z0T_e:Entry := { f := 19,args := .pair t25 .unit,rS := .pair t41 .unit,m := fun x=>yKz x.1 }
theorem yO1:FnOK Tryz.prog z0T_e := fB (mu := [3]) Tryz.f19 (fun n x=>yP7 n x.1) [[1,2,3,9,10,11],[2,3,23,24,25]] eNil fun n hn x=>(yd fun hx=>by apply yCE n hn; exact hx)
def yKx (n:Nat) (r0:List (List (Int×Int×Unit))→List (List (Int×Int×Unit))→Int→Option (Bool×Unit)) (r3:List (List (Int×Int×Unit))→List (List (Int×Int×Unit))→Int→Int→Option (Bool×Unit)) (aN:List (List (Int×Int×Unit))) (aP:List (List (Int×Int×Unit))) (aJ:Int) (aO:Int):Option (Bool×Unit) :=
  (Option.bind (idx aN aJ) fun (v4:List (Int×Int×Unit))=>(bif decide (aO < (↑v4.length:Int)) then (Option.bind (idx aN aJ) fun (v5:List (Int×Int×Unit))=>(Option.bind (idx v5 aO) fun (v6:Int×Int×Unit)=>(Option.bind (idx aP aJ) fun (v7:List (Int×Int×Unit))=>(Option.bind (idx v7 aO) fun (v8:Int×Int×Unit)=>(bif !eqV ((Ty.int IntKind.i64).pair ((Ty.int IntKind.i64).pair Ty.unit)) v6 v8 then some (Bool.false,()) else r3 aN aP aJ (IntKind.i64.wrap (aO + 1))))))) else r0 aN aP (IntKind.i64.wrap (aJ + 1))))
def yKR (n:Nat) (r0:List (List (Int×Int×Unit))→List (List (Int×Int×Unit))→Int→Option (Bool×Unit)) (k:Nat) (aN:List (List (Int×Int×Unit))) (aP:List (List (Int×Int×Unit))) (aJ:Int) (aO:Int):Option (Bool×Unit) :=
  iter (fun r y=>yKx n r0 (fun aN aP aJ aO=>r ((aN,(aP,(aJ,(aO,())))),((),()))) y.1.1 y.1.2.1 y.1.2.2.1 y.1.2.2.2.1) k ((aN,(aP,(aJ,(aO,())))),((),()))
def yL2 (n:Nat) (r0:List (List (Int×Int×Unit))→List (List (Int×Int×Unit))→Int→Option (Bool×Unit)) (aC:List (List (Int×Int×Unit))) (al:List (List (Int×Int×Unit))) (ar:Int):Option (Bool×Unit) :=
  (bif decide (ar < (↑aC.length:Int)) then (Option.bind (idx aC ar) fun (v1:List (Int×Int×Unit))=>(Option.bind (idx al ar) fun (v2:List (Int×Int×Unit))=>(bif (↑v1.length:Int) != (↑v2.length:Int) then some (Bool.false,()) else (yKR n r0 n (aC) (al) (ar) ((0:Int)))))) else some (Bool.true,()))
def yLZ (n:Nat)  (k:Nat) (aC:List (List (Int×Int×Unit))) (al:List (List (Int×Int×Unit))) (ar:Int):Option (Bool×Unit) :=
  iter (fun r y=>yL2 n (fun aC al ar=>r ((aC,(al,(ar,()))),((),()))) y.1.1 y.1.2.1 y.1.2.2.1) k ((aC,(al,(ar,()))),((),()))
def zU_m (n:Nat) (a:List (List (Int×Int×Unit))) (b:List (List (Int×Int×Unit))):Option (Bool×Unit) :=
  (bif (↑a.length:Int) != (↑b.length:Int) then some (Bool.false,()) else (yLZ n n (a) (b) ((0:Int))))
def zU_M (a:List (List (Int×Int×Unit))) (b:List (List (Int×Int×Unit))):Option (Bool×Unit) := zU_m 1000 a b
abbrev zU_e:Entry := { f := 74,args := .pair t119 (.pair t119 .unit),rS := .pair t4 .unit,m := fun x=>zU_M x.1 x.2.1 }
theorem yOy:FnOK Tryz.prog zU_e := fF 1000 Tryz.f74 (fun n x=>zU_m n x.1 x.2.1) [[0,1,5],[0,1,5,6]] eNil
abbrev yL8:Ty := .unit
abbrev yNA:Ty := .pair t41 .unit
def yNM:G := { T := T,E := [],mU := [],fz := [] }
def yP4:List (List Nat) := []
def yJk (n:Nat):Ann := { keep := yP4,fuel := n,inl := [],deep := 0 }
def yJQ (n:Nat)  : Option (Bas×Unit) :=
  some (([([(108:UInt8),97,107,101],(10:Int),(20:Int),()),([(112:UInt8),111,108,100,101,114],(5:Int),(8:Int),())],[([(98:UInt8),97,114,114,105,101,114],(-1:Int),(0:Int),(0:Int),(2:Int),()),([(112:UInt8),117,109,112],(1:Int),(0:Int),(4:Int),(10:Int),()),([(111:UInt8),117,116,102,97,108,108],(0:Int),(-1:Int),(12:Int),(4:Int),())],()),())
theorem yO5 (n:Nat) (x:yL8.den):runF yNM (yJk n) Tryz.f86 yL8 yNA x = yJQ n := by kernel_rfl
def z0d  : (Bas×Unit) :=
  (([([(108:UInt8),97,107,101],(10:Int),(20:Int),()),([(112:UInt8),111,108,100,101,114],(5:Int),(8:Int),())],[([(98:UInt8),97,114,114,105,101,114],(-1:Int),(0:Int),(0:Int),(2:Int),()),([(112:UInt8),117,109,112],(1:Int),(0:Int),(4:Int),(10:Int),()),([(111:UInt8),117,116,102,97,108,108],(0:Int),(-1:Int),(12:Int),(4:Int),())],()),())
abbrev yO6  : Option (Bas×Unit) := some (z0d)
theorem yKW  (y:Bas×Unit) (h:yO6 = some y) : ∃ n,yJQ n = some y :=
  ⟨0,by rw [← h]; show yJQ 0 = some (z0d); unfold yJQ z0d; first | rfl | (simp only [yp]; done) | (simp only [yp]; rfl)⟩
def z0d_e:Entry := { f := 86,args := yL8,rS := yNA,m := fun x=>yO6 }
theorem yNu:FnOK Tryz.prog z0d_e := y2v (g := yNM) (fn := Tryz.f86) y17 y2W eNil (by kernel_rfl) (by kernel_rfl) (by kernel_rfl) (fun x y h=>let ⟨n,hn⟩ := yKW y h; ⟨yJk n,iNil,(yO5 n x).trans hn⟩)
def y56 (n:Nat) (r0:List UInt8→List UInt8→Int→Option (Bool×Unit)) (ai:List UInt8) (str0__0:List UInt8) (pos0__0:Int) (j2:Bool) (j7:Bool):Option (Bool×Unit) :=
  (bif !j2 then (bif pos0__0==0 then some (Bool.false,()) else (bif !j7 then some (Bool.false,()) else r0 ai str0__0 (yk str0__0 pos0__0).2)) else r0 ai str0__0 (yk str0__0 pos0__0).2)
def y32 (n:Nat) (r0:List UInt8→List UInt8→Int→Option (Bool×Unit)) (ai:List UInt8) (str0__0:List UInt8) (pos0__0:Int) (j2:Bool):Option (Bool×Unit) :=
  (bif decide ((yk str0__0 pos0__0).1 ≥ 48) then (bif decide ((yk str0__0 pos0__0).1≤57) then (y56 n r0 ai str0__0 pos0__0 j2 (Bool.true)) else (y56 n r0 ai str0__0 pos0__0 j2 ((yk str0__0 pos0__0).1==95))) else (y56 n r0 ai str0__0 pos0__0 j2 ((yk str0__0 pos0__0).1==95)))
def yDL (n:Nat) (r0:List UInt8→List UInt8→Int→Option (Bool×Unit)) (ai:List UInt8) (str0__0:List UInt8) (pos0__0:Int):Option (Bool×Unit) :=
  (bif decide (pos0__0 < (↑str0__0.length:Int)) then (bif decide ((yk str0__0 pos0__0).1 ≥ 65) then (bif decide ((yk str0__0 pos0__0).1≤90) then (y32 n r0 ai str0__0 pos0__0 (Bool.true)) else (bif decide ((yk str0__0 pos0__0).1 ≥ 97) then (y32 n r0 ai str0__0 pos0__0 (decide ((yk str0__0 pos0__0).1≤122))) else (y32 n r0 ai str0__0 pos0__0 (Bool.false)))) else (bif decide ((yk str0__0 pos0__0).1 ≥ 97) then (y32 n r0 ai str0__0 pos0__0 (decide ((yk str0__0 pos0__0).1≤122))) else (y32 n r0 ai str0__0 pos0__0 (Bool.false)))) else (bif !ai==[] then some (decide ((↑ai.length:Int)≤24),()) else some (Bool.false,())))
def y6f (n:Nat)  (k:Nat) (ai:List UInt8) (str0__0:List UInt8) (pos0__0:Int):Option (Bool×Unit) :=
  iter (fun r y=>yDL n (fun ai str0__0 pos0__0=>r ((ai,()),(((str0__0,pos0__0),()),()))) y.1.1 y.2.1.1.1 y.2.1.1.2) k ((ai,()),(((str0__0,pos0__0),()),()))
def yOx (n:Nat) (s:List UInt8):Option (Bool×Unit) :=
  (y6f n n (s) (s) ((0:Int)))
def y7X (ai:List UInt8) (str0__0:List UInt8) (pos0__0:Int) (j2:Bool) (j7:Bool):Option ((Bool×Unit)⊕Unit) :=
  (bif !j2 then (bif pos0__0==0 then (some (Sum.inl ((Bool.false,())))) else (bif !j7 then (some (Sum.inl ((Bool.false,())))) else (some (Sum.inr ())))) else (some (Sum.inr ())))
theorem y14 (n:Nat) (hn:big≤n)  (r0:List UInt8→List UInt8→Int→Option (Bool×Unit)) (ai:List UInt8) (str0__0:List UInt8) (pos0__0:Int) (j2:Bool) (j7:Bool):LeF (elim some fun (af:Unit)=>r0 ai str0__0 (yk (str0__0) pos0__0).2) (y7X ai str0__0 pos0__0 j2 j7) (y56 n r0 ai str0__0 pos0__0 j2 j7) :=
  (y5 (y5 (y8 rfl) (y5 (y8 rfl) (y8 rfl))) (y8 rfl))
def y4i (ai:List UInt8) (str0__0:List UInt8) (pos0__0:Int) (j2:Bool):Option ((Bool×Unit)⊕Unit) :=
  (bif decide ((yk str0__0 pos0__0).1 ≥ 48) then (bif decide ((yk str0__0 pos0__0).1≤57) then (y7X ai str0__0 pos0__0 j2 (Bool.true)) else (y7X ai str0__0 pos0__0 j2 ((yk str0__0 pos0__0).1==95))) else (y7X ai str0__0 pos0__0 j2 ((yk str0__0 pos0__0).1==95)))
theorem yz (n:Nat) (hn:big≤n)  (r0:List UInt8→List UInt8→Int→Option (Bool×Unit)) (ai:List UInt8) (str0__0:List UInt8) (pos0__0:Int) (j2:Bool):LeF (elim some fun (af:Unit)=>r0 ai str0__0 (yk (str0__0) pos0__0).2) (y4i ai str0__0 pos0__0 j2) (y32 n r0 ai str0__0 pos0__0 j2) :=
  (y5 (y5 (by apply y14 n hn) (by apply y14 n hn)) (by apply y14 n hn))
def yBJ (ai:List UInt8) (str0__0:List UInt8) (pos0__0:Int):Option ((Bool×Unit)⊕Unit) :=
  (bif decide ((yk str0__0 pos0__0).1 ≥ 65) then (bif decide ((yk str0__0 pos0__0).1≤90) then (y4i ai str0__0 pos0__0 (Bool.true)) else (bif decide ((yk str0__0 pos0__0).1 ≥ 97) then (y4i ai str0__0 pos0__0 (decide ((yk str0__0 pos0__0).1≤122))) else (y4i ai str0__0 pos0__0 (Bool.false)))) else (bif decide ((yk str0__0 pos0__0).1 ≥ 97) then (y4i ai str0__0 pos0__0 (decide ((yk str0__0 pos0__0).1≤122))) else (y4i ai str0__0 pos0__0 (Bool.false))))
def yBm (ai:List UInt8) (str0__0:List UInt8):Option (Bool×Unit) :=
  (bif !ai==[] then (some ((decide ((↑ai.length:Int)≤24),()))) else (some ((Bool.false,()))))
theorem yD9 (n:Nat) (hn:big≤n)  (ai:List UInt8) (str0__0:List UInt8) (hx:List.length (str0__0) < lenMax):LeF some (y8Q (str0__0) (fun ah af=>yBJ ai str0__0 ah) (fun af=>yBm ai str0__0) (List.length (str0__0)) 0 ()) (y6f n n ai str0__0 0) := by
  refine yJ1 (f := some) (W := fun au ah af=>y6f n au ai str0__0 ah) (fun au ah af=>?_) () n (by unfold big at hn; unfold lenMax at hx; omega)
  show LeF _ _ (yDL n (y6f n au) ai str0__0 ah)
  exact y5 (y5 (y5 (by apply yz n hn) (y5 (by apply yz n hn) (by apply yz n hn))) (y5 (by apply yz n hn) (by apply yz n hn))) (y0t (y5 (y8 rfl) (y8 rfl)))
def yGm (s:List UInt8):Option (Bool×Unit) :=
  (bif decide (List.length (s) < lenMax) then y8Q (s) (fun ah af=>yBJ (s) (s) ah) (fun af=>yBm (s) (s)) (List.length (s)) 0 () else none)
abbrev z0B_e:Entry := { f := 100,args := .pair t9 .unit,rS := .pair t4 .unit,m := fun x=>yGm x.1 }
theorem yMK:FnOK Tryz.prog z0B_e := fB Tryz.f100 (fun n x=>yOx n x.1) [[0,8,16,17,20,21,22,23,24,25,30,31,34,35,40,41,42,43,44,45,50,51,52]] eNil fun n hn x=>(yd fun hx=>by apply yD9 n hn; exact hx)
def yHU (n:Nat) (r0:(Lnk×Unit→Option (Int×Unit))→List Lnk→Int→Int→List Int→Option (List Int×Unit)) (a7:Lnk×Unit→Option (Int×Unit)) (aa:List Lnk) (ae:Int) (a8:Int) (ac:List Int):Option (List Int×Unit) :=
  (bif decide (a8 < ae) then (Option.bind (idx aa a8) fun (v1:Lnk)=>(Option.bind (a7 ((v1.1,v1.2.1,v1.2.2.1,v1.2.2.2.1,v1.2.2.2.2.1,()),())) fun (v2:Int×Unit)=>(bif decide (ac.length + (1:Nat)≤memMax) then r0 a7 aa ae (IntKind.i64.wrap (a8 + 1)) (ac ++ [v2.1]) else none))) else some (ac,()))
def yA7 (n:Nat)  (k:Nat) (a7:Lnk×Unit→Option (Int×Unit)) (aa:List Lnk) (ae:Int) (a8:Int) (ac:List Int):Option (List Int×Unit) :=
  iter (fun r y=>yHU n (fun a7 aa ae a8 ac=>r ((a7,(aa,(ae,(a8,())))),((ac,()),()))) y.1.1 y.1.2.1 y.1.2.2.1 y.1.2.2.2.1 y.2.1.1) k ((a7,(aa,(ae,(a8,())))),((ac,()),()))
def zB_m (n:Nat) (l:List Lnk) (of:Lnk×Unit→Option (Int×Unit)):Option (List Int×Unit) :=
  (yA7 n n (of) (l) ((↑l.length:Int)) ((0:Int)) ([]))
def yLm (a7:Lnk×Unit→Option (Int×Unit)) (aa:List Lnk) (a8:Int) (v1:Lnk) (ac:List Int):Option ((List Int×Unit)⊕(List Int)) :=
  (Option.bind (a7 ((v1.1,v1.2.1,v1.2.2.1,v1.2.2.2.1,v1.2.2.2.2.1,()),())) fun (v2:Int×Unit)=>(bif decide (ac.length + (1:Nat)≤memMax) then (some (Sum.inr (ac ++ [v2.1]))) else none))
def yMG (a7:Lnk×Unit→Option (Int×Unit)) (aa:List Lnk) (ac:List Int):Option (List Int×Unit) :=
  (some ((ac,())))
theorem yF6 (n:Nat) (hn:big≤n)  (a7:Lnk×Unit→Option (Int×Unit)) (aa:List Lnk) (ac:List Int) (hx:List.length (aa) < lenMax):LeF some (yJ (fun ah aw af=>yLm a7 aa ah aw af) (fun af=>yMG a7 aa af) 0 (aa) ac) (yA7 n n a7 aa (List.length (aa):Int) 0 ac) := by
  refine yb (f := some) (W := fun au ah af=>yA7 n au a7 aa (List.length (aa):Int) ah af) (fun au ah af=>?_) hx ac n (by unfold big at hn; unfold lenMax at hx; omega)
  show LeF _ _ (yHU n (yA7 n au) a7 aa (List.length (aa):Int) ah af)
  exact y5 (y9 fun v1=>(y9 fun v2=>(y5 (y8 rfl) yL))) (y0t (y8 rfl))
def zB_M (l:List Lnk) (of:Lnk×Unit→Option (Int×Unit)):Option (List Int×Unit) :=
  (bif decide (List.length (l) < lenMax) then yJ (fun ah aw af=>yLm (of) (l) ah aw af) (fun af=>yMG (of) (l) af) 0 (l) ([]) else none)
abbrev zB_e:Entry := { f := 101,args := .pair t39 (.pair t177 .unit),rS := .pair t174 .unit,m := fun x=>zB_M x.1 x.2.1 }
theorem yOK:FnOK Tryz.prog zB_e := fB (mu := [5]) Tryz.f101 (fun n x=>zB_m n x.1 x.2.1) [[1,5,8,9,10]] eNil fun n hn x=>(yd fun hx=>by apply yF6 n hn; exact hx)
def yL3 (n:Nat) (r0:(Rng×Unit→Option (Cnd×Unit))→List Rng→Int→Int→List Cnd→Option (List Cnd×Unit)) (a7:Rng×Unit→Option (Cnd×Unit)) (aa:List Rng) (ae:Int) (a8:Int) (ac:List Cnd):Option (List Cnd×Unit) :=
  (bif decide (a8 < ae) then (Option.bind (idx aa a8) fun (v1:Rng)=>(Option.bind (a7 (((v1.1.1,v1.1.2.1,()),v1.2.1,v1.2.2.1,()),())) fun (v2:Cnd×Unit)=>(bif decide (ac.length + (1:Nat)≤memMax) then r0 a7 aa ae (IntKind.i64.wrap (a8 + 1)) (ac ++ [v2.1]) else none))) else some (ac,()))
def yLf (n:Nat)  (k:Nat) (a7:Rng×Unit→Option (Cnd×Unit)) (aa:List Rng) (ae:Int) (a8:Int) (ac:List Cnd):Option (List Cnd×Unit) :=
  iter (fun r y=>yL3 n (fun a7 aa ae a8 ac=>r ((a7,(aa,(ae,(a8,())))),((ac,()),()))) y.1.1 y.1.2.1 y.1.2.2.1 y.1.2.2.2.1 y.2.1.1) k ((a7,(aa,(ae,(a8,())))),((ac,()),()))
def z6_m (n:Nat) (l:List Rng) (of:Rng×Unit→Option (Cnd×Unit)):Option (List Cnd×Unit) :=
  (yLf n n (of) (l) ((↑l.length:Int)) ((0:Int)) ([]))
def z6_M (l:List Rng) (of:Rng×Unit→Option (Cnd×Unit)):Option (List Cnd×Unit) := z6_m 1000 l of
abbrev z6_e:Entry := { f := 109,args := .pair t108 (.pair t186 .unit),rS := .pair t54 .unit,m := fun x=>z6_M x.1 x.2.1 }
theorem yPG:FnOK Tryz.prog z6_e := fF (mu := [5]) 1000 Tryz.f109 (fun n x=>z6_m n x.1 x.2.1) [[1,5,8,9,10]] eNil
def yFr (n:Nat) (r0:(Int×Unit→Option (List UInt8×Unit))→List Int→Int→Int→List (List UInt8)→Option (List (List UInt8)×Unit)) (a7:Int×Unit→Option (List UInt8×Unit)) (aa:List Int) (ae:Int) (a8:Int) (ac:List (List UInt8)):Option (List (List UInt8)×Unit) :=
  (bif decide (a8 < ae) then (Option.bind (idx aa a8) fun (v1:Int)=>(Option.bind (a7 (v1,())) fun (v2:List UInt8×Unit)=>(bif decide (ac.length + (1:Nat)≤memMax) then r0 a7 aa ae (IntKind.i64.wrap (a8 + 1)) (ac ++ [v2.1]) else none))) else some (ac,()))
def yAE (n:Nat)  (k:Nat) (a7:Int×Unit→Option (List UInt8×Unit)) (aa:List Int) (ae:Int) (a8:Int) (ac:List (List UInt8)):Option (List (List UInt8)×Unit) :=
  iter (fun r y=>yFr n (fun a7 aa ae a8 ac=>r ((a7,(aa,(ae,(a8,())))),((ac,()),()))) y.1.1 y.1.2.1 y.1.2.2.1 y.1.2.2.2.1 y.2.1.1) k ((a7,(aa,(ae,(a8,())))),((ac,()),()))
def zM_m (n:Nat) (l:List Int) (of:Int×Unit→Option (List UInt8×Unit)):Option (List (List UInt8)×Unit) :=
  (yAE n n (of) (l) ((↑l.length:Int)) ((0:Int)) ([]))
def yGW (a7:Int×Unit→Option (List UInt8×Unit)) (aa:List Int) (a8:Int) (v1:Int) (ac:List (List UInt8)):Option ((List (List UInt8)×Unit)⊕(List (List UInt8))) :=
  (Option.bind (a7 (v1,())) fun (v2:List UInt8×Unit)=>(bif decide (ac.length + (1:Nat)≤memMax) then (some (Sum.inr (ac ++ [v2.1]))) else none))
def yIf (a7:Int×Unit→Option (List UInt8×Unit)) (aa:List Int) (ac:List (List UInt8)):Option (List (List UInt8)×Unit) :=
  (some ((ac,())))
theorem yFL (n:Nat) (hn:big≤n)  (a7:Int×Unit→Option (List UInt8×Unit)) (aa:List Int) (ac:List (List UInt8)) (hx:List.length (aa) < lenMax):LeF some (yJ (fun ah aw af=>yGW a7 aa ah aw af) (fun af=>yIf a7 aa af) 0 (aa) ac) (yAE n n a7 aa (List.length (aa):Int) 0 ac) := by
  refine yb (f := some) (W := fun au ah af=>yAE n au a7 aa (List.length (aa):Int) ah af) (fun au ah af=>?_) hx ac n (by unfold big at hn; unfold lenMax at hx; omega)
  show LeF _ _ (yFr n (yAE n au) a7 aa (List.length (aa):Int) ah af)
  exact y5 (y9 fun v1=>(y9 fun v2=>(y5 (y8 rfl) yL))) (y0t (y8 rfl))
def zM_M (l:List Int) (of:Int×Unit→Option (List UInt8×Unit)):Option (List (List UInt8)×Unit) :=
  (bif decide (List.length (l) < lenMax) then yJ (fun ah aw af=>yGW (of) (l) ah aw af) (fun af=>yIf (of) (l) af) 0 (l) ([]) else none)
abbrev zM_e:Entry := { f := 128,args := .pair t26 (.pair t208 .unit),rS := .pair t67 .unit,m := fun x=>zM_M x.1 x.2.1 }
theorem yOU:FnOK Tryz.prog zM_e := fB (mu := [5]) Tryz.f128 (fun n x=>zM_m n x.1 x.2.1) [[1,5,8,9,10]] eNil fun n hn x=>(yd fun hx=>by apply yFL n hn; exact hx)
def yHg (n:Nat) (r0:(Int×Unit→Option (Int×Unit))→List Int→Int→Int→List Int→Option (List Int×Unit)) (a7:Int×Unit→Option (Int×Unit)) (aa:List Int) (ae:Int) (a8:Int) (ac:List Int):Option (List Int×Unit) :=
  (bif decide (a8 < ae) then (Option.bind (idx aa a8) fun (v1:Int)=>(Option.bind (a7 (v1,())) fun (v2:Int×Unit)=>(bif decide (ac.length + (1:Nat)≤memMax) then r0 a7 aa ae (IntKind.i64.wrap (a8 + 1)) (ac ++ [v2.1]) else none))) else some (ac,()))
def yAD (n:Nat)  (k:Nat) (a7:Int×Unit→Option (Int×Unit)) (aa:List Int) (ae:Int) (a8:Int) (ac:List Int):Option (List Int×Unit) :=
  iter (fun r y=>yHg n (fun a7 aa ae a8 ac=>r ((a7,(aa,(ae,(a8,())))),((ac,()),()))) y.1.1 y.1.2.1 y.1.2.2.1 y.1.2.2.2.1 y.2.1.1) k ((a7,(aa,(ae,(a8,())))),((ac,()),()))
def zI_m (n:Nat) (l:List Int) (of:Int×Unit→Option (Int×Unit)):Option (List Int×Unit) :=
  (yAD n n (of) (l) ((↑l.length:Int)) ((0:Int)) ([]))
def yN5 (a7:Int×Unit→Option (Int×Unit)) (aa:List Int) (a8:Int) (v1:Int) (ac:List Int):Option ((List Int×Unit)⊕(List Int)) :=
  (Option.bind (a7 (v1,())) fun (v2:Int×Unit)=>(bif decide (ac.length + (1:Nat)≤memMax) then (some (Sum.inr (ac ++ [v2.1]))) else none))
def yNC (a7:Int×Unit→Option (Int×Unit)) (aa:List Int) (ac:List Int):Option (List Int×Unit) :=
  (some ((ac,())))
theorem yFX (n:Nat) (hn:big≤n)  (a7:Int×Unit→Option (Int×Unit)) (aa:List Int) (ac:List Int) (hx:List.length (aa) < lenMax):LeF some (yJ (fun ah aw af=>yN5 a7 aa ah aw af) (fun af=>yNC a7 aa af) 0 (aa) ac) (yAD n n a7 aa (List.length (aa):Int) 0 ac) := by
  refine yb (f := some) (W := fun au ah af=>yAD n au a7 aa (List.length (aa):Int) ah af) (fun au ah af=>?_) hx ac n (by unfold big at hn; unfold lenMax at hx; omega)
  show LeF _ _ (yHg n (yAD n au) a7 aa (List.length (aa):Int) ah af)
  exact y5 (y9 fun v1=>(y9 fun v2=>(y5 (y8 rfl) yL))) (y0t (y8 rfl))
def zI_M (l:List Int) (of:Int×Unit→Option (Int×Unit)):Option (List Int×Unit) :=
  (bif decide (List.length (l) < lenMax) then yJ (fun ah aw af=>yN5 (of) (l) ah aw af) (fun af=>yNC (of) (l) af) 0 (l) ([]) else none)
abbrev zI_e:Entry := { f := 138,args := .pair t26 (.pair t176 .unit),rS := .pair t174 .unit,m := fun x=>zI_M x.1 x.2.1 }
theorem yNp:FnOK Tryz.prog zI_e := fB (mu := [5]) Tryz.f138 (fun n x=>zI_m n x.1 x.2.1) [[1,5,8,9,10]] eNil fun n hn x=>(yd fun hx=>by apply yFX n hn; exact hx)
def y3g (n:Nat) (r2:List UInt8→Int→Option (Bool×Unit)) (ak:List UInt8) (aq:Int) (v3:UInt8):Option (Bool×Unit) :=
  (bif aq==0 then some (Bool.false,()) else (bif (↑v3.toNat:Int) != 95 then (bif decide ((↑v3.toNat:Int) < 48) then some (Bool.false,()) else (bif decide ((↑v3.toNat:Int) > 57) then some (Bool.false,()) else r2 ak (IntKind.i64.wrap (aq + 1)))) else r2 ak (IntKind.i64.wrap (aq + 1))))
def yE0 (n:Nat) (r2:List UInt8→Int→Option (Bool×Unit)) (ak:List UInt8) (aq:Int):Option (Bool×Unit) :=
  (bif decide (aq < (↑ak.length:Int)) then (Option.bind (idx ak aq) fun (v3:UInt8)=>(bif decide ((↑v3.toNat:Int) ≥ 97) then (bif decide ((↑v3.toNat:Int)≤122) then r2 ak (IntKind.i64.wrap (aq + 1)) else (bif decide ((↑v3.toNat:Int) ≥ 65) then (bif decide ((↑v3.toNat:Int)≤90) then r2 ak (IntKind.i64.wrap (aq + 1)) else (y3g n r2 ak aq v3)) else (y3g n r2 ak aq v3))) else (bif decide ((↑v3.toNat:Int) ≥ 65) then (bif decide ((↑v3.toNat:Int)≤90) then r2 ak (IntKind.i64.wrap (aq + 1)) else (y3g n r2 ak aq v3)) else (y3g n r2 ak aq v3)))) else some (Bool.true,()))
def y6u (n:Nat)  (k:Nat) (ak:List UInt8) (aq:Int):Option (Bool×Unit) :=
  iter (fun r y=>yE0 n (fun ak aq=>r ((ak,(aq,())),((),()))) y.1.1 y.1.2.1) k ((ak,(aq,())),((),()))
def yPC (n:Nat) (s:List UInt8):Option (Bool×Unit) :=
  (bif (↑s.length:Int)==0 then some (Bool.false,()) else (bif decide ((↑s.length:Int) > 24) then some (Bool.false,()) else (y6u n n (s) ((0:Int)))))
def y5f (ak:List UInt8) (aq:Int) (v3:UInt8):Option ((Bool×Unit)⊕Unit) :=
  (bif aq==0 then (some (Sum.inl ((Bool.false,())))) else (bif (↑v3.toNat:Int) != 95 then (bif decide ((↑v3.toNat:Int) < 48) then (some (Sum.inl ((Bool.false,())))) else (bif decide ((↑v3.toNat:Int) > 57) then (some (Sum.inl ((Bool.false,())))) else (some (Sum.inr ())))) else (some (Sum.inr ()))))
theorem y0K (n:Nat) (hn:big≤n)  (r2:List UInt8→Int→Option (Bool×Unit)) (ak:List UInt8) (aq:Int) (v3:UInt8):LeF (elim some fun (af:Unit)=>r2 ak (IntKind.i64.wrap (aq + 1))) (y5f ak aq v3) (y3g n r2 ak aq v3) :=
  (y5 (y8 rfl) (y5 (y5 (y8 rfl) (y5 (y8 rfl) (y8 rfl))) (y8 rfl)))
def yBW (ak:List UInt8) (aq:Int) (v3:UInt8):Option ((Bool×Unit)⊕Unit) :=
  (bif decide ((↑v3.toNat:Int) ≥ 97) then (bif decide ((↑v3.toNat:Int)≤122) then (some (Sum.inr ())) else (bif decide ((↑v3.toNat:Int) ≥ 65) then (bif decide ((↑v3.toNat:Int)≤90) then (some (Sum.inr ())) else (y5f ak aq v3)) else (y5f ak aq v3))) else (bif decide ((↑v3.toNat:Int) ≥ 65) then (bif decide ((↑v3.toNat:Int)≤90) then (some (Sum.inr ())) else (y5f ak aq v3)) else (y5f ak aq v3)))
def yGZ (ak:List UInt8):Option (Bool×Unit) :=
  (some ((Bool.true,())))
theorem yCa (n:Nat) (hn:big≤n)  (ak:List UInt8) (hx:List.length (ak) < lenMax):LeF some (yJ (fun ah aw af=>yBW ak ah aw) (fun af=>yGZ ak) 0 (ak) ()) (y6u n n ak 0) := by
  refine yb (f := some) (W := fun au ah af=>y6u n au ak ah) (fun au ah af=>?_) hx () n (by unfold big at hn; unfold lenMax at hx; omega)
  show LeF _ _ (yE0 n (y6u n au) ak ah)
  exact y5 (y9 fun v3=>(y5 (y5 (y8 rfl) (y5 (y5 (y8 rfl) (by apply y0K n hn)) (by apply y0K n hn))) (y5 (y5 (y8 rfl) (by apply y0K n hn)) (by apply y0K n hn)))) (y0t (y8 rfl))
def yGQ (s:List UInt8):Option (Bool×Unit) :=
  (bif (↑s.length:Int)==0 then (some ((Bool.false,()))) else (bif decide ((↑s.length:Int) > 24) then (some ((Bool.false,()))) else (bif decide (List.length (s) < lenMax) then yJ (fun ah aw af=>yBW (s) ah aw) (fun af=>yGZ (s)) 0 (s) () else none)))
abbrev z0D_e:Entry := { f := 143,args := .pair t9 .unit,rS := .pair t4 .unit,m := fun x=>yGQ x.1 }
theorem yOC:FnOK Tryz.prog z0D_e := fB Tryz.f143 (fun n x=>yPC n x.1) [[0,3,25,26,29,30,31,32,33,34,39,40,41,42,43,44,45,46,47,48]] eNil fun n hn x=>(y5 (y8 rfl) (y5 (y8 rfl) (yd fun hx=>by apply yCa n hn; exact hx)))
def yL1 (n:Nat) (r0:(Cnd×Unit→Option (Int×Unit))→List Cnd→Int→Int→List Int→Option (List Int×Unit)) (a7:Cnd×Unit→Option (Int×Unit)) (aa:List Cnd) (ae:Int) (a8:Int) (ac:List Int):Option (List Int×Unit) :=
  (bif decide (a8 < ae) then (Option.bind (idx aa a8) fun (v1:Cnd)=>(Option.bind (a7 ((v1.1,v1.2.1,v1.2.2.1,()),())) fun (v2:Int×Unit)=>(bif decide (ac.length + (1:Nat)≤memMax) then r0 a7 aa ae (IntKind.i64.wrap (a8 + 1)) (ac ++ [v2.1]) else none))) else some (ac,()))
def yKO (n:Nat)  (k:Nat) (a7:Cnd×Unit→Option (Int×Unit)) (aa:List Cnd) (ae:Int) (a8:Int) (ac:List Int):Option (List Int×Unit) :=
  iter (fun r y=>yL1 n (fun a7 aa ae a8 ac=>r ((a7,(aa,(ae,(a8,())))),((ac,()),()))) y.1.1 y.1.2.1 y.1.2.2.1 y.1.2.2.2.1 y.2.1.1) k ((a7,(aa,(ae,(a8,())))),((ac,()),()))
def z7_m (n:Nat) (l:List Cnd) (of:Cnd×Unit→Option (Int×Unit)):Option (List Int×Unit) :=
  (yKO n n (of) (l) ((↑l.length:Int)) ((0:Int)) ([]))
def z7_M (l:List Cnd) (of:Cnd×Unit→Option (Int×Unit)):Option (List Int×Unit) := z7_m 1000 l of
abbrev z7_e:Entry := { f := 147,args := .pair t54 (.pair t156 .unit),rS := .pair t174 .unit,m := fun x=>z7_M x.1 x.2.1 }
theorem yOk:FnOK Tryz.prog z7_e := fF (mu := [5]) 1000 Tryz.f147 (fun n x=>z7_m n x.1 x.2.1) [[1,5,8,9,10]] eNil
def yKV (n:Nat) (r0:(Psg×Unit→Option (List Int×Unit))→List Psg→Int→Int→List (List Int)→Option (List (List Int)×Unit)) (a7:Psg×Unit→Option (List Int×Unit)) (aa:List Psg) (ae:Int) (a8:Int) (ac:List (List Int)):Option (List (List Int)×Unit) :=
  (bif decide (a8 < ae) then (Option.bind (idx aa a8) fun (v1:Psg)=>(Option.bind (a7 (((v1.1.1,v1.1.2.1,v1.1.2.2.1,()),v1.2.1,v1.2.2.1,()),())) fun (v2:List Int×Unit)=>(bif decide (ac.length + (1:Nat)≤memMax) then r0 a7 aa ae (IntKind.i64.wrap (a8 + 1)) (ac ++ [v2.1]) else none))) else some (ac,()))
def yLO (n:Nat)  (k:Nat) (a7:Psg×Unit→Option (List Int×Unit)) (aa:List Psg) (ae:Int) (a8:Int) (ac:List (List Int)):Option (List (List Int)×Unit) :=
  iter (fun r y=>yKV n (fun a7 aa ae a8 ac=>r ((a7,(aa,(ae,(a8,())))),((ac,()),()))) y.1.1 y.1.2.1 y.1.2.2.1 y.1.2.2.2.1 y.2.1.1) k ((a7,(aa,(ae,(a8,())))),((ac,()),()))
def zC_m (n:Nat) (l:List Psg) (of:Psg×Unit→Option (List Int×Unit)):Option (List (List Int)×Unit) :=
  (yLO n n (of) (l) ((↑l.length:Int)) ((0:Int)) ([]))
def zC_M (l:List Psg) (of:Psg×Unit→Option (List Int×Unit)):Option (List (List Int)×Unit) := zC_m 1000 l of
abbrev zC_e:Entry := { f := 148,args := .pair t167 (.pair t237 .unit),rS := .pair t56 .unit,m := fun x=>zC_M x.1 x.2.1 }
theorem yOf:FnOK Tryz.prog zC_e := fF (mu := [5]) 1000 Tryz.f148 (fun n x=>zC_m n x.1 x.2.1) [[1,5,8,9,10]] eNil
def zt_m (n:Nat) (p:Psg):Option (List Int×Unit) :=
  some (p.2.2.1.getD [],())
def zt (p:Psg):(List Int×Unit) :=
  (p.2.2.1.getD [],())
abbrev zt_M (p:Psg):Option (List Int×Unit) := some (zt p)
abbrev zt_e:Entry := { f := 149,args := .pair t180 .unit,rS := .pair t26 .unit,m := fun x=>zt_M x.1 }
theorem yOe:FnOK Tryz.prog zt_e := fF (hm := by intro x; show some (zt x.1) = zt_m 0 x.1; unfold zt_m zt; first | rfl | simp only [yp]) 0 Tryz.f149 (fun n x=>zt_m n x.1) [] eNil
def yLj (n:Nat) (r0:(Rng×Unit→Option (Int×Unit))→List Rng→Int→Int→List Int→Option (List Int×Unit)) (a7:Rng×Unit→Option (Int×Unit)) (aa:List Rng) (ae:Int) (a8:Int) (ac:List Int):Option (List Int×Unit) :=
  (bif decide (a8 < ae) then (Option.bind (idx aa a8) fun (v1:Rng)=>(Option.bind (a7 (((v1.1.1,v1.1.2.1,()),v1.2.1,v1.2.2.1,()),())) fun (v2:Int×Unit)=>(bif decide (ac.length + (1:Nat)≤memMax) then r0 a7 aa ae (IntKind.i64.wrap (a8 + 1)) (ac ++ [v2.1]) else none))) else some (ac,()))
def yLM (n:Nat)  (k:Nat) (a7:Rng×Unit→Option (Int×Unit)) (aa:List Rng) (ae:Int) (a8:Int) (ac:List Int):Option (List Int×Unit) :=
  iter (fun r y=>yLj n (fun a7 aa ae a8 ac=>r ((a7,(aa,(ae,(a8,())))),((ac,()),()))) y.1.1 y.1.2.1 y.1.2.2.1 y.1.2.2.2.1 y.2.1.1) k ((a7,(aa,(ae,(a8,())))),((ac,()),()))
def zA_m (n:Nat) (l:List Rng) (of:Rng×Unit→Option (Int×Unit)):Option (List Int×Unit) :=
  (yLM n n (of) (l) ((↑l.length:Int)) ((0:Int)) ([]))
def zA_M (l:List Rng) (of:Rng×Unit→Option (Int×Unit)):Option (List Int×Unit) := zA_m 1000 l of
abbrev zA_e:Entry := { f := 153,args := .pair t108 (.pair t190 .unit),rS := .pair t174 .unit,m := fun x=>zA_M x.1 x.2.1 }
theorem yP2:FnOK Tryz.prog zA_e := fF (mu := [5]) 1000 Tryz.f153 (fun n x=>zA_m n x.1 x.2.1) [[1,5,8,9,10]] eNil
def yLl (n:Nat) (r0:((Int×Int×Unit)×Unit→Option (Int×Unit))→List (Int×Int×Unit)→Int→Int→List Int→Option (List Int×Unit)) (a7:(Int×Int×Unit)×Unit→Option (Int×Unit)) (aa:List (Int×Int×Unit)) (ae:Int) (a8:Int) (ac:List Int):Option (List Int×Unit) :=
  (bif decide (a8 < ae) then (Option.bind (idx aa a8) fun (v1:Int×Int×Unit)=>(Option.bind (a7 ((v1.1,v1.2.1,()),())) fun (v2:Int×Unit)=>(bif decide (ac.length + (1:Nat)≤memMax) then r0 a7 aa ae (IntKind.i64.wrap (a8 + 1)) (ac ++ [v2.1]) else none))) else some (ac,()))
def yLJ (n:Nat)  (k:Nat) (a7:(Int×Int×Unit)×Unit→Option (Int×Unit)) (aa:List (Int×Int×Unit)) (ae:Int) (a8:Int) (ac:List Int):Option (List Int×Unit) :=
  iter (fun r y=>yLl n (fun a7 aa ae a8 ac=>r ((a7,(aa,(ae,(a8,())))),((ac,()),()))) y.1.1 y.1.2.1 y.1.2.2.1 y.1.2.2.2.1 y.2.1.1) k ((a7,(aa,(ae,(a8,())))),((ac,()),()))
def z8_m (n:Nat) (l:List (Int×Int×Unit)) (of:(Int×Int×Unit)×Unit→Option (Int×Unit)):Option (List Int×Unit) :=
  (yLJ n n (of) (l) ((↑l.length:Int)) ((0:Int)) ([]))
def z8_M (l:List (Int×Int×Unit)) (of:(Int×Int×Unit)×Unit→Option (Int×Unit)):Option (List Int×Unit) := z8_m 1000 l of
abbrev z8_e:Entry := { f := 159,args := .pair t97 (.pair t246 .unit),rS := .pair t174 .unit,m := fun x=>z8_M x.1 x.2.1 }
theorem yMD:FnOK Tryz.prog z8_e := fF (mu := [5]) 1000 Tryz.f159 (fun n x=>z8_m n x.1 x.2.1) [[1,5,8,9,10]] eNil
def yKa (n:Nat) (r0:((Int×Int×Unit)×Unit→Option (Int×Unit))→List (Int×Int×Unit)→Int→Int→List Int→Option (List Int×Unit)) (a7:(Int×Int×Unit)×Unit→Option (Int×Unit)) (aa:List (Int×Int×Unit)) (ae:Int) (a8:Int) (ac:List Int):Option (List Int×Unit) :=
  (bif decide (a8 < ae) then (Option.bind (idx aa a8) fun (v1:Int×Int×Unit)=>(Option.bind (a7 ((v1.1,v1.2.1,()),())) fun (v2:Int×Unit)=>(bif decide (ac.length + (1:Nat)≤memMax) then r0 a7 aa ae (IntKind.i64.wrap (a8 + 1)) (ac ++ [v2.1]) else none))) else some (ac,()))
def yKp (n:Nat)  (k:Nat) (a7:(Int×Int×Unit)×Unit→Option (Int×Unit)) (aa:List (Int×Int×Unit)) (ae:Int) (a8:Int) (ac:List Int):Option (List Int×Unit) :=
  iter (fun r y=>yKa n (fun a7 aa ae a8 ac=>r ((a7,(aa,(ae,(a8,())))),((ac,()),()))) y.1.1 y.1.2.1 y.1.2.2.1 y.1.2.2.2.1 y.2.1.1) k ((a7,(aa,(ae,(a8,())))),((ac,()),()))
def zF_m (n:Nat) (l:List (Int×Int×Unit)) (of:(Int×Int×Unit)×Unit→Option (Int×Unit)):Option (List Int×Unit) :=
  (yKp n n (of) (l) ((↑l.length:Int)) ((0:Int)) ([]))
def zF_M (l:List (Int×Int×Unit)) (of:(Int×Int×Unit)×Unit→Option (Int×Unit)):Option (List Int×Unit) := zF_m 1000 l of
abbrev zF_e:Entry := { f := 164,args := .pair t97 (.pair t255 .unit),rS := .pair t26 .unit,m := fun x=>zF_M x.1 x.2.1 }
theorem yPF:FnOK Tryz.prog zF_e := fF (mu := [5]) 1000 Tryz.f164 (fun n x=>zF_m n x.1 x.2.1) [[1,5,8,9,10]] eNil
def yLB (n:Nat) (p:Lnk×Int×Int×Int×Bool×Unit):Option (Int×Unit) :=
  some (if Bool.true = Bool.true then if (if IntKind.i64.wrap (p.2.1 - IntKind.i64.wrap (p.2.2.1 * p.1.2.2.2.1)) < p.1.2.2.2.2.1 then IntKind.i64.wrap (p.2.1 - IntKind.i64.wrap (p.2.2.1 * p.1.2.2.2.1)) else p.1.2.2.2.2.1) > 0 then if IntKind.i64.wrap (p.2.1 - IntKind.i64.wrap (p.2.2.1 * p.1.2.2.2.1)) < p.1.2.2.2.2.1 then IntKind.i64.wrap (p.2.1 - IntKind.i64.wrap (p.2.2.1 * p.1.2.2.2.1)) else p.1.2.2.2.2.1 else (0:Int) else if (if IntKind.i64.wrap (p.2.1 - IntKind.i64.wrap (p.2.2.1 * p.1.2.2.2.1)) < p.1.2.2.2.2.1 then IntKind.i64.wrap (p.2.1 - IntKind.i64.wrap (p.2.2.1 * p.1.2.2.2.1)) else p.1.2.2.2.2.1) < 0 then if IntKind.i64.wrap (p.2.1 - IntKind.i64.wrap (p.2.2.1 * p.1.2.2.2.1)) < p.1.2.2.2.2.1 then IntKind.i64.wrap (p.2.1 - IntKind.i64.wrap (p.2.2.1 * p.1.2.2.2.1)) else p.1.2.2.2.2.1 else (0:Int),())
def z04 (p:Lnk×Int×Int×Int×Bool×Unit):(Int×Unit) :=
  (if Bool.true = Bool.true then if (if IntKind.i64.wrap (p.2.1 - IntKind.i64.wrap (p.2.2.1 * p.1.2.2.2.1)) < p.1.2.2.2.2.1 then IntKind.i64.wrap (p.2.1 - IntKind.i64.wrap (p.2.2.1 * p.1.2.2.2.1)) else p.1.2.2.2.2.1) > 0 then if IntKind.i64.wrap (p.2.1 - IntKind.i64.wrap (p.2.2.1 * p.1.2.2.2.1)) < p.1.2.2.2.2.1 then IntKind.i64.wrap (p.2.1 - IntKind.i64.wrap (p.2.2.1 * p.1.2.2.2.1)) else p.1.2.2.2.2.1 else (0:Int) else if (if IntKind.i64.wrap (p.2.1 - IntKind.i64.wrap (p.2.2.1 * p.1.2.2.2.1)) < p.1.2.2.2.2.1 then IntKind.i64.wrap (p.2.1 - IntKind.i64.wrap (p.2.2.1 * p.1.2.2.2.1)) else p.1.2.2.2.2.1) < 0 then if IntKind.i64.wrap (p.2.1 - IntKind.i64.wrap (p.2.2.1 * p.1.2.2.2.1)) < p.1.2.2.2.2.1 then IntKind.i64.wrap (p.2.1 - IntKind.i64.wrap (p.2.2.1 * p.1.2.2.2.1)) else p.1.2.2.2.2.1 else (0:Int),())
abbrev yKM (p:Lnk×Int×Int×Int×Bool×Unit):Option (Int×Unit) := some (z04 p)
abbrev z04_e:Entry := { f := 183,args := .pair t230 .unit,rS := .pair t3 .unit,m := fun x=>yKM x.1 }
theorem yNj:FnOK Tryz.prog z04_e := fF (hm := by intro x; show some (z04 x.1) = yLB 0 x.1; unfold yLB z04; first | rfl | simp only [yp]) 0 Tryz.f183 (fun n x=>yLB n x.1) [] eNil
end
end Go.Tw
end
