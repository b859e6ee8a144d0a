import Derived.Test.YtkfigfhjbejikaaGreatDoorBT
import Derived.Test.YtkfigfhjbejikaaGreatDoorB0
import Derived.Test.YtkfigfhjbejikaaGreatDoorBA
import Derived.Test.YtkfigfhjbejikaaGreatDoorBC
import Derived.Test.YtkfigfhjbejikaaGreatDoorBD
import Derived.Test.YtkfigfhjbejikaaGreatDoorSA
set_option linter.all false
section
set_option maxRecDepth 1000000
namespace Go.Tw
open Go.Vx Go.Vx.B Go.Proofs
noncomputable section
def il125:Inl := { f := 125,fn := Tryz.f125,keep := [],mU := [],fz := [] }
theorem yK6:y1q Tryz.prog il125 := ⟨by kernel_rfl,by kernel_rfl,fun e0 h=>by cases (show (none:Option LibK) = some e0 from h)⟩
def il130:Inl := { f := 130,fn := Tryz.f130,keep := [],mU := [],fz := [] }
theorem yJy:y1q Tryz.prog il130 := ⟨by kernel_rfl,by kernel_rfl,fun e0 h=>by cases (show (none:Option LibK) = some e0 from h)⟩
def il126:Inl := { f := 126,fn := Tryz.f126,keep := [],mU := [],fz := [] }
theorem yJj:y1q Tryz.prog il126 := ⟨by kernel_rfl,by kernel_rfl,fun e0 h=>by cases (show (none:Option LibK) = some e0 from h)⟩
def il169:Inl := { f := 169,fn := Tryz.f169,lib := some (.copy 201) }
theorem yKU:y1q Tryz.prog il169 := ⟨by kernel_rfl,by kernel_rfl,fun e0 h=>by cases (show some (.copy 201:LibK) = some e0 from h); exact yMx⟩
def yEv (n:Nat) (r5:List Lnk→Int→Int→List Int→Option (List UInt8×Int×Unit)) (a7:List Lnk) (aj:Int) (af:Int) (aa:List Int):Option (List UInt8×Int×Unit) :=
  (bif decide (af < aj) then (Option.bind (idx a7 af) fun (v6:Lnk)=>(Option.bind (zM_M [v6.2.1,v6.2.2.1,v6.2.2.2.1,v6.2.2.2.2.1] fun (x:Int×Unit)=>y9n x.1) fun (v7:List (List UInt8)×Unit)=>(bif decide ((1:Nat) + v7.1.length≤memMax) then (Option.bind (y7t ([v6.1] ++ v7.1) [(32:UInt8)]) fun (v8:List UInt8×Unit)=>(bif decide (v8.1.length + (1:Nat) < strMax) then (bif decide (aa.length + (v8.1 ++ [(10:UInt8)]).length≤memMax) then r5 a7 aj (IntKind.i64.wrap (af + 1)) (aa ++ yf (v8.1 ++ [(10:UInt8)])) else none) else none)) else none))) else (bif decide ((0:Nat) < aa.length) then (bif (↑aa.length:Int)==(↑aa.length:Int) && decide ((0:Nat) < aa.length) && y4r aa then some (y0O aa,(0:Int),()) else none) else none))
def y73 (n:Nat)  (k:Nat) (a7:List Lnk) (aj:Int) (af:Int) (aa:List Int):Option (List UInt8×Int×Unit) :=
  iter (fun r y=>yEv n (fun a7 aj af aa=>r (((),(a7,(aj,(af,())))),(((),(aa,())),()))) y.1.2.1 y.1.2.2.1 y.1.2.2.2.1 y.2.1.2.1) k (((),(a7,(aj,(af,())))),(((),(aa,())),()))
def yDp (n:Nat) (r1:Bas→List Nod→Int→Int→List Int→Option (List UInt8×Int×Unit)) (ac:Bas) (a8:List Nod) (ak:Int) (ah:Int) (ae:List Int):Option (List UInt8×Int×Unit) :=
  (bif decide (ah < ak) then (Option.bind (idx a8 ah) fun (v2:Nod)=>(Option.bind (zM_M [v2.2.1,v2.2.2.1] fun (x:Int×Unit)=>y9n x.1) fun (v3:List (List UInt8)×Unit)=>(bif decide ((2:Nat) + v3.1.length≤memMax) then (Option.bind (y7t ([[(110:UInt8),111,100,101],v2.1] ++ v3.1) [(32:UInt8)]) fun (v4:List UInt8×Unit)=>(bif decide (v4.1.length + (1:Nat) < strMax) then (bif decide (ae.length + (v4.1 ++ [(10:UInt8)]).length≤memMax) then r1 ac a8 ak (IntKind.i64.wrap (ah + 1)) (ae ++ yf (v4.1 ++ [(10:UInt8)])) else none) else none)) else none))) else (y73 n n (ac.2.1) ((↑ac.2.1.length:Int)) ((0:Int)) (ae)))
def y6X (n:Nat)  (k:Nat) (ac:Bas) (a8:List Nod) (ak:Int) (ah:Int) (ae:List Int):Option (List UInt8×Int×Unit) :=
  iter (fun r y=>yDp n (fun ac a8 ak ah ae=>r ((ac,((),(a8,(ak,(ah,()))))),(((),(ae,())),()))) y.1.1 y.1.2.2.1 y.1.2.2.2.1 y.1.2.2.2.2.1 y.2.1.2.1) k ((ac,((),(a8,(ak,(ah,()))))),(((),(ae,())),()))
def yQ2 (n:Nat) (b:Bas):Option (List UInt8×Int×Unit) :=
  (Option.bind (zj_M b) fun (v0:Int×Unit)=>(bif v0.1 != 0 then some ([],v0.1,()) else (y6X n n (b) (b.1) ((↑b.1.length:Int)) ((0:Int)) ([]))))
def yBo (a7:List Lnk) (af:Int) (v6:Lnk) (aa:List Int):Option ((List UInt8×Int×Unit)⊕(List Int)) :=
  (Option.bind (zM_M [v6.2.1,v6.2.2.1,v6.2.2.2.1,v6.2.2.2.2.1] fun (x:Int×Unit)=>y9n x.1) fun (v7:List (List UInt8)×Unit)=>(bif decide ((1:Nat) + v7.1.length≤memMax) then (Option.bind (y7t ([v6.1] ++ v7.1) [(32:UInt8)]) fun (v8:List UInt8×Unit)=>(bif decide (v8.1.length + (1:Nat) < strMax) then (bif decide (aa.length + (v8.1 ++ [(10:UInt8)]).length≤memMax) then (some (Sum.inr (aa ++ yf (v8.1 ++ [(10:UInt8)])))) else none) else none)) else none))
def yAm (a7:List Lnk) (aa:List Int):Option (List UInt8×Int×Unit) :=
  (bif decide ((0:Nat) < aa.length) then (bif (↑aa.length:Int)==(↑aa.length:Int) && decide ((0:Nat) < aa.length) && y4r aa then (some ((y0O aa,(0:Int),()))) else none) else none)
theorem yCd (n:Nat) (hn:big≤n)  (a7:List Lnk) (aa:List Int) (hx:List.length (a7) < lenMax):LeF some (yK (fun al am ai=>yBo a7 al am ai) (fun ai=>yAm a7 ai) 0 (a7) aa) (y73 n n a7 (List.length (a7):Int) 0 aa) := by
  refine yT (f := some) (W := fun aq al ai=>y73 n aq a7 (List.length (a7):Int) al ai) (fun aq al ai=>?_) hx aa n (by unfold big at hn; unfold lenMax at hx; omega)
  show LeF _ _ (yEv n (y73 n aq) a7 (List.length (a7):Int) al ai)
  exact y5 (y6 fun v6=>(y6 fun v7=>(y5 (y6 fun v8=>(y5 (y5 (y7 rfl) yL) yL)) yL))) (y0R (y5 (y5 (y7 rfl) yL) yL))
def y9B (ac:Bas) (a8:List Nod) (ah:Int) (v2:Nod) (ae:List Int):Option ((List UInt8×Int×Unit)⊕(List Int)) :=
  (Option.bind (zM_M [v2.2.1,v2.2.2.1] fun (x:Int×Unit)=>y9n x.1) fun (v3:List (List UInt8)×Unit)=>(bif decide ((2:Nat) + v3.1.length≤memMax) then (Option.bind (y7t ([[(110:UInt8),111,100,101],v2.1] ++ v3.1) [(32:UInt8)]) fun (v4:List UInt8×Unit)=>(bif decide (v4.1.length + (1:Nat) < strMax) then (bif decide (ae.length + (v4.1 ++ [(10:UInt8)]).length≤memMax) then (some (Sum.inr (ae ++ yf (v4.1 ++ [(10:UInt8)])))) else none) else none)) else none))
def y8f (ac:Bas) (a8:List Nod) (ae:List Int):Option (List UInt8×Int×Unit) :=
  (bif decide (List.length (ac.2.1) < lenMax) then yK (fun al am ai=>yBo (ac.2.1) al am ai) (fun ai=>yAm (ac.2.1) ai) 0 (ac.2.1) (ae) else none)
theorem yD5 (n:Nat) (hn:big≤n)  (ac:Bas) (a8:List Nod) (ae:List Int) (hx:List.length (a8) < lenMax):LeF some (yK (fun al am ai=>y9B ac a8 al am ai) (fun ai=>y8f ac a8 ai) 0 (a8) ae) (y6X n n ac a8 (List.length (a8):Int) 0 ae) := by
  refine yT (f := some) (W := fun aq al ai=>y6X n aq ac a8 (List.length (a8):Int) al ai) (fun aq al ai=>?_) hx ae n (by unfold big at hn; unfold lenMax at hx; omega)
  show LeF _ _ (yDp n (y6X n aq) ac a8 (List.length (a8):Int) al ai)
  exact y5 (y6 fun v2=>(y6 fun v3=>(y5 (y6 fun v4=>(y5 (y5 (y7 rfl) yL) yL)) yL))) (y0R (yV fun hx=>by apply yCd n hn; exact hx))
def yIw (b:Bas):Option (List UInt8×Int×Unit) :=
  (Option.bind (zj_M b) fun (v0:Int×Unit)=>(bif v0.1 != 0 then (some (([],v0.1,()))) else (bif decide (List.length (b.1) < lenMax) then yK (fun al am ai=>y9B (b) (b.1) al am ai) (fun ai=>y8f (b) (b.1) ai) 0 (b.1) ([]) else none)))
abbrev z0P_e:Entry := { f := 78,args := .pair t41 .unit,rS := .pair t9 (.pair t35 .unit),m := fun x=>yIw x.1 }
theorem yHr:FnOK Tryz.prog z0P_e := fBI (mu := [5,27,45]) Tryz.f78 (fun n x=>yQ2 n x.1) [[1,5,6,18,19,20],[5,6,36,37,38]] [il125,il130,il126,il169] 8 (yC yJ4 (yC yPs (yC yKq (yC yNQ eNil)))) (y5Y yK6 (y5Y yJy (y5Y yJj (y5Y yKU iNil)))) fun n hn x=>(y6 fun v0=>(y5 (y7 rfl) (yV fun hx=>by apply yD5 n hn; exact hx)))
end
end Go.Tw
end
section
set_option maxRecDepth 1000000
namespace Go.Tw
open Go.Vx Go.Vx.B Go.Proofs
noncomputable section
def yPX (n:Nat)  : Option (Bool×Unit) :=
  (Option.bind (yNX z0h.1 [(100:Int),(30:Int)]) fun (v0:List Int×Int×Unit)=>(Option.bind (yJ7 z0h.1 [(100:Int),(30:Int)]) fun (v1:List Int×Int×Unit)=>(Option.bind (yNI z0h.1 [(100:Int),(30:Int)] ((16:Int),Bool.true,[(20:Int),(5:Int)],())) fun (v2:List Int×Int×Unit)=>(Option.bind (yNl z0h.1 [(100:Int),(30:Int)] [((16:Int),Bool.true,[(20:Int),(5:Int)],()),((8:Int),Bool.false,[(0:Int),(0:Int)],())]) fun (v3:List (List Int)×Int×Unit)=>(Option.bind (yOX z0h.1 [(100:Int),(30:Int)] [((16:Int),Bool.true,[(20:Int),(5:Int)],()),((8:Int),Bool.false,[(0:Int),(0:Int)],())]) fun (v4:(Int×Int×Int×Unit)×Int×Unit)=>(Option.bind (yPI z0h.1 [(100:Int),(20:Int)] ((16:Int),Bool.false,[(50:Int),(0:Int)],()) (0:Int) (20:Int)) fun (v5:Int×Int×Unit)=>(bif IntKind.i64.wrap (IntKind.i64.wrap (IntKind.i64.wrap (IntKind.i64.wrap (IntKind.i64.wrap (v0.2.1 + v1.2.1) + v2.2.1) + v3.2.1) + v4.2.1) + v5.2.1) != 0 then some (Bool.false,()) else (Option.bind (zz_M v0.1 [(10:Int),(6:Int)]) fun (v6:Bool×Unit)=>(bif !v6.1 then some (Bool.false,()) else (Option.bind (zz_M v1.1 [(109:Int),(14:Int)]) fun (v7:Bool×Unit)=>(bif !v7.1 then some (Bool.false,()) else (Option.bind (zz_M v2.1 [(20:Int),(10:Int),(0:Int)]) fun (v8:Bool×Unit)=>(bif !v8.1 then some (Bool.false,()) else (Option.bind (yNO v3.1 [[(150:Int),(25:Int)],[(147:Int),(20:Int)]]) fun (v9:Bool×Unit)=>(bif !v9.1 then some (Bool.false,()) else (bif !eqV ((Ty.int IntKind.i64).pair ((Ty.int IntKind.i64).pair ((Ty.int IntKind.i64).pair Ty.unit))) (v4.1.1,v4.1.2.1,v4.1.2.2.1,()) ((25:Int),(20:Int),(8:Int),()) then some (Bool.false,()) else (bif v5.1 != 3 then some (Bool.false,()) else (Option.bind (yNy z0h.1 [((100:Int),(110:Int),()),((20:Int),(20:Int),())] [(((8:Int),(16:Int),()),Bool.false,[((0:Int),(50:Int),()),((0:Int),(0:Int),())],())]) fun (v22:List (List (Int×Int×Unit))×Int×Unit)=>(Option.bind (yKA z0h.1 [(210:Int),(44:Int)]) fun (v23:List Int×Int×Unit)=>(Option.bind (yIw z0h.1) fun (v24:List UInt8×Int×Unit)=>(bif IntKind.i64.wrap (IntKind.i64.wrap (v22.2.1 + v23.2.1) + v24.2.1)==0 then (Option.bind (zU_M v22.1 [[((100:Int),(160:Int),()),((20:Int),(20:Int),())]]) fun (v25:Bool×Unit)=>(bif v25.1 then (Option.bind (zz_M v23.1 [(0:Int)]) fun (v26:Bool×Unit)=>(bif v26.1 then some (v24.1==[(110:UInt8),111,100,101,32,108,97,107,101,32,49,48,32,50,48,10,110,111,100,101,32,112,111,108,100,101,114,32,53,32,56,10,98,97,114,114,105,101,114,32,45,49,32,48,32,48,32,50,10,112,117,109,112,32,49,32,48,32,52,32,49,48,10,111,117,116,102,97,108,108,32,48,32,45,49,32,49,50,32,52,10],()) else some (Bool.false,()))) else some (Bool.false,()))) else some (Bool.false,()))))))))))))))))))))))
def yP0  : Option (Bool×Unit) := yPX 0
abbrev z0V_e:Entry := { f := 17,args := .unit,rS := .pair t4 .unit,m := fun x=>yP0 }
theorem yKb:FnOK Tryz.prog z0V_e := fF 0 Tryz.f17 (fun n x=>yPX n) [] (yC yPR (yC yNT (yC yL4 (yC yNF (yC yN2 (yC yOv (yC yNw (yC yNq (yC yOW (yC yP1 (yC yLE (yC yHr (yC yQg eNil)))))))))))))
end
end Go.Tw
end
section
set_option maxRecDepth 1000000
namespace Go.Tw
open Go.Vx Go.Vx.B Go.Proofs
noncomputable section
end
end Go.Tw
end
