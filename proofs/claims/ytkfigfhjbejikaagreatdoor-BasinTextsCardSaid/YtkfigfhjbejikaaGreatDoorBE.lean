import Derived.Test.YtkfigfhjbejikaaGreatDoorBT
import Derived.Test.YtkfigfhjbejikaaGreatDoorB0
import Derived.Test.YtkfigfhjbejikaaGreatDoorBA
import Derived.Test.YtkfigfhjbejikaaGreatDoorBC
import Derived.Test.YtkfigfhjbejikaaGreatDoorBD
import Derived.Test.YtkfigfhjbejikaaGreatDoorSA
set_option linter.all false
section
set_option maxRecDepth 1000000
namespace Go.Tw
open Go.Vx Go.Vx.B Go.Proofs
noncomputable section
def il125:Inl := { f := 125,fn := Tryz.f125,keep := [],mU := [],fz := [] }
theorem yJE:y1u Tryz.prog il125 := ⟨by kernel_rfl,by kernel_rfl,fun e0 h=>by cases (show (none:Option LibK) = some e0 from h)⟩
def il130:Inl := { f := 130,fn := Tryz.f130,keep := [],mU := [],fz := [] }
theorem yJ8:y1u Tryz.prog il130 := ⟨by kernel_rfl,by kernel_rfl,fun e0 h=>by cases (show (none:Option LibK) = some e0 from h)⟩
def il126:Inl := { f := 126,fn := Tryz.f126,keep := [],mU := [],fz := [] }
theorem yJC:y1u Tryz.prog il126 := ⟨by kernel_rfl,by kernel_rfl,fun e0 h=>by cases (show (none:Option LibK) = some e0 from h)⟩
def il169:Inl := { f := 169,fn := Tryz.f169,lib := some (.copy 201) }
theorem yIz:y1u Tryz.prog il169 := ⟨by kernel_rfl,by kernel_rfl,fun e0 h=>by cases (show some (.copy 201:LibK) = some e0 from h); exact yL7⟩
def yE7 (n:Nat) (r5:List Lnk→Int→Int→List Int→Option (List UInt8×Int×Unit)) (a7:List Lnk) (aj:Int) (af:Int) (aa:List Int):Option (List UInt8×Int×Unit) :=
  (bif decide (af < aj) then (Option.bind (idx a7 af) fun (v6:Lnk)=>(Option.bind (zM_M [v6.2.1,v6.2.2.1,v6.2.2.2.1,v6.2.2.2.2.1] fun (x:Int×Unit)=>yAA x.1) fun (v7:List (List UInt8)×Unit)=>(bif decide ((1:Nat) + v7.1.length≤memMax) then (Option.bind (y76 ([v6.1] ++ v7.1) [(32:UInt8)]) fun (v8:List UInt8×Unit)=>(bif decide (v8.1.length + (1:Nat) < strMax) then (bif decide (aa.length + (v8.1 ++ [(10:UInt8)]).length≤memMax) then r5 a7 aj (IntKind.i64.wrap (af + 1)) (aa ++ yh (v8.1 ++ [(10:UInt8)])) else none) else none)) else none))) else (bif decide ((0:Nat) < aa.length) then (bif (↑aa.length:Int)==(↑aa.length:Int) && decide ((0:Nat) < aa.length) && y4n aa then some (y0G aa,(0:Int),()) else none) else none))
def y6S (n:Nat)  (k:Nat) (a7:List Lnk) (aj:Int) (af:Int) (aa:List Int):Option (List UInt8×Int×Unit) :=
  iter (fun r y=>yE7 n (fun a7 aj af aa=>r (((),(a7,(aj,(af,())))),(((),(aa,())),()))) y.1.2.1 y.1.2.2.1 y.1.2.2.2.1 y.2.1.2.1) k (((),(a7,(aj,(af,())))),(((),(aa,())),()))
def yDP (n:Nat) (r1:Bas→List Nod→Int→Int→List Int→Option (List UInt8×Int×Unit)) (ac:Bas) (a8:List Nod) (ak:Int) (ah:Int) (ae:List Int):Option (List UInt8×Int×Unit) :=
  (bif decide (ah < ak) then (Option.bind (idx a8 ah) fun (v2:Nod)=>(Option.bind (zM_M [v2.2.1,v2.2.2.1] fun (x:Int×Unit)=>yAA x.1) fun (v3:List (List UInt8)×Unit)=>(bif decide ((2:Nat) + v3.1.length≤memMax) then (Option.bind (y76 ([[(110:UInt8),111,100,101],v2.1] ++ v3.1) [(32:UInt8)]) fun (v4:List UInt8×Unit)=>(bif decide (v4.1.length + (1:Nat) < strMax) then (bif decide (ae.length + (v4.1 ++ [(10:UInt8)]).length≤memMax) then r1 ac a8 ak (IntKind.i64.wrap (ah + 1)) (ae ++ yh (v4.1 ++ [(10:UInt8)])) else none) else none)) else none))) else (y6S n n (ac.2.1) ((↑ac.2.1.length:Int)) ((0:Int)) (ae)))
def y6b (n:Nat)  (k:Nat) (ac:Bas) (a8:List Nod) (ak:Int) (ah:Int) (ae:List Int):Option (List UInt8×Int×Unit) :=
  iter (fun r y=>yDP n (fun ac a8 ak ah ae=>r ((ac,((),(a8,(ak,(ah,()))))),(((),(ae,())),()))) y.1.1 y.1.2.2.1 y.1.2.2.2.1 y.1.2.2.2.2.1 y.2.1.2.1) k ((ac,((),(a8,(ak,(ah,()))))),(((),(ae,())),()))
def yOh (n:Nat) (b:Bas):Option (List UInt8×Int×Unit) :=
  (Option.bind (zh_M b) fun (v0:Int×Unit)=>(bif v0.1 != 0 then some ([],v0.1,()) else (y6b n n (b) (b.1) ((↑b.1.length:Int)) ((0:Int)) ([]))))
def yCD (a7:List Lnk) (af:Int) (v6:Lnk) (aa:List Int):Option ((List UInt8×Int×Unit)⊕(List Int)) :=
  (Option.bind (zM_M [v6.2.1,v6.2.2.1,v6.2.2.2.1,v6.2.2.2.2.1] fun (x:Int×Unit)=>yAA x.1) fun (v7:List (List UInt8)×Unit)=>(bif decide ((1:Nat) + v7.1.length≤memMax) then (Option.bind (y76 ([v6.1] ++ v7.1) [(32:UInt8)]) fun (v8:List UInt8×Unit)=>(bif decide (v8.1.length + (1:Nat) < strMax) then (bif decide (aa.length + (v8.1 ++ [(10:UInt8)]).length≤memMax) then (some (Sum.inr (aa ++ yh (v8.1 ++ [(10:UInt8)])))) else none) else none)) else none))
def yBF (a7:List Lnk) (aa:List Int):Option (List UInt8×Int×Unit) :=
  (bif decide ((0:Nat) < aa.length) then (bif (↑aa.length:Int)==(↑aa.length:Int) && decide ((0:Nat) < aa.length) && y4n aa then (some ((y0G aa,(0:Int),()))) else none) else none)
theorem yDC (n:Nat) (hn:big≤n)  (a7:List Lnk) (aa:List Int) (hx:List.length (a7) < lenMax):LeF some (yJ (fun al am ai=>yCD a7 al am ai) (fun ai=>yBF a7 ai) 0 (a7) aa) (y6S n n a7 (List.length (a7):Int) 0 aa) := by
  refine yb (f := some) (W := fun aq al ai=>y6S n aq a7 (List.length (a7):Int) al ai) (fun aq al ai=>?_) hx aa n (by unfold big at hn; unfold lenMax at hx; omega)
  show LeF _ _ (yE7 n (y6S n aq) a7 (List.length (a7):Int) al ai)
  exact y5 (y9 fun v6=>(y9 fun v7=>(y5 (y9 fun v8=>(y5 (y5 (y8 rfl) yL) yL)) yL))) (y0t (y5 (y5 (y8 rfl) yL) yL))
def y9O (ac:Bas) (a8:List Nod) (ah:Int) (v2:Nod) (ae:List Int):Option ((List UInt8×Int×Unit)⊕(List Int)) :=
  (Option.bind (zM_M [v2.2.1,v2.2.2.1] fun (x:Int×Unit)=>yAA x.1) fun (v3:List (List UInt8)×Unit)=>(bif decide ((2:Nat) + v3.1.length≤memMax) then (Option.bind (y76 ([[(110:UInt8),111,100,101],v2.1] ++ v3.1) [(32:UInt8)]) fun (v4:List UInt8×Unit)=>(bif decide (v4.1.length + (1:Nat) < strMax) then (bif decide (ae.length + (v4.1 ++ [(10:UInt8)]).length≤memMax) then (some (Sum.inr (ae ++ yh (v4.1 ++ [(10:UInt8)])))) else none) else none)) else none))
def y96 (ac:Bas) (a8:List Nod) (ae:List Int):Option (List UInt8×Int×Unit) :=
  (bif decide (List.length (ac.2.1) < lenMax) then yJ (fun al am ai=>yCD (ac.2.1) al am ai) (fun ai=>yBF (ac.2.1) ai) 0 (ac.2.1) (ae) else none)
theorem yCk (n:Nat) (hn:big≤n)  (ac:Bas) (a8:List Nod) (ae:List Int) (hx:List.length (a8) < lenMax):LeF some (yJ (fun al am ai=>y9O ac a8 al am ai) (fun ai=>y96 ac a8 ai) 0 (a8) ae) (y6b n n ac a8 (List.length (a8):Int) 0 ae) := by
  refine yb (f := some) (W := fun aq al ai=>y6b n aq ac a8 (List.length (a8):Int) al ai) (fun aq al ai=>?_) hx ae n (by unfold big at hn; unfold lenMax at hx; omega)
  show LeF _ _ (yDP n (y6b n aq) ac a8 (List.length (a8):Int) al ai)
  exact y5 (y9 fun v2=>(y9 fun v3=>(y5 (y9 fun v4=>(y5 (y5 (y8 rfl) yL) yL)) yL))) (y0t (yd fun hx=>by apply yDC n hn; exact hx))
def yI7 (b:Bas):Option (List UInt8×Int×Unit) :=
  (Option.bind (zh_M b) fun (v0:Int×Unit)=>(bif v0.1 != 0 then (some (([],v0.1,()))) else (bif decide (List.length (b.1) < lenMax) then yJ (fun al am ai=>y9O (b) (b.1) al am ai) (fun ai=>y96 (b) (b.1) ai) 0 (b.1) ([]) else none)))
abbrev z0M_e:Entry := { f := 78,args := .pair t41 .unit,rS := .pair t9 (.pair t35 .unit),m := fun x=>yI7 x.1 }
theorem yJu:FnOK Tryz.prog z0M_e := fBI (mu := [5,27,45]) Tryz.f78 (fun n x=>yOh n x.1) [[1,5,6,18,19,20],[5,6,36,37,38]] [il125,il130,il126,il169] 8 (yC yIt (yC yOU (yC yJh (yC yNP eNil)))) (y5I yJE (y5I yJ8 (y5I yJC (y5I yIz iNil)))) fun n hn x=>(y9 fun v0=>(y5 (y8 rfl) (yd fun hx=>by apply yCk n hn; exact hx)))
end
end Go.Tw
end
section
set_option maxRecDepth 1000000
namespace Go.Tw
open Go.Vx Go.Vx.B Go.Proofs
noncomputable section
def yNk (n:Nat)  : Option (Bool×Unit) :=
  (Option.bind (yO3 z0d.1 [(100:Int),(30:Int)]) fun (v0:List Int×Int×Unit)=>(Option.bind (yMW z0d.1 [(100:Int),(30:Int)]) fun (v1:List Int×Int×Unit)=>(Option.bind (yLy z0d.1 [(100:Int),(30:Int)] ((16:Int),Bool.true,[(20:Int),(5:Int)],())) fun (v2:List Int×Int×Unit)=>(Option.bind (yMU z0d.1 [(100:Int),(30:Int)] [((16:Int),Bool.true,[(20:Int),(5:Int)],()),((8:Int),Bool.false,[(0:Int),(0:Int)],())]) fun (v3:List (List Int)×Int×Unit)=>(Option.bind (zz_M z0d.1 [(100:Int),(30:Int)] [((16:Int),Bool.true,[(20:Int),(5:Int)],()),((8:Int),Bool.false,[(0:Int),(0:Int)],())]) fun (v4:(Int×Int×Int×Unit)×Int×Unit)=>(Option.bind (yNb z0d.1 [(100:Int),(20:Int)] ((16:Int),Bool.false,[(50:Int),(0:Int)],()) (0:Int) (20:Int)) fun (v5:Int×Int×Unit)=>(bif IntKind.i64.wrap (IntKind.i64.wrap (IntKind.i64.wrap (IntKind.i64.wrap (IntKind.i64.wrap (v0.2.1 + v1.2.1) + v2.2.1) + v3.2.1) + v4.2.1) + v5.2.1) != 0 then some (Bool.false,()) else (Option.bind (zw_M v0.1 [(10:Int),(6:Int)]) fun (v6:Bool×Unit)=>(bif !v6.1 then some (Bool.false,()) else (Option.bind (zw_M v1.1 [(109:Int),(14:Int)]) fun (v7:Bool×Unit)=>(bif !v7.1 then some (Bool.false,()) else (Option.bind (zw_M v2.1 [(20:Int),(10:Int),(0:Int)]) fun (v8:Bool×Unit)=>(bif !v8.1 then some (Bool.false,()) else (Option.bind (zx_M v3.1 [[(150:Int),(25:Int)],[(147:Int),(20:Int)]]) fun (v9:Bool×Unit)=>(bif !v9.1 then some (Bool.false,()) else (bif !eqV ((Ty.int IntKind.i64).pair ((Ty.int IntKind.i64).pair ((Ty.int IntKind.i64).pair Ty.unit))) (v4.1.1,v4.1.2.1,v4.1.2.2.1,()) ((25:Int),(20:Int),(8:Int),()) then some (Bool.false,()) else (bif v5.1 != 3 then some (Bool.false,()) else (Option.bind (yMu z0d.1 [((100:Int),(110:Int),()),((20:Int),(20:Int),())] [(((8:Int),(16:Int),()),Bool.false,[((0:Int),(50:Int),()),((0:Int),(0:Int),())],())]) fun (v22:List (List (Int×Int×Unit))×Int×Unit)=>(Option.bind (yN3 z0d.1 [(210:Int),(44:Int)]) fun (v23:List Int×Int×Unit)=>(Option.bind (yI7 z0d.1) fun (v24:List UInt8×Int×Unit)=>(bif IntKind.i64.wrap (IntKind.i64.wrap (v22.2.1 + v23.2.1) + v24.2.1)==0 then (Option.bind (zU_M v22.1 [[((100:Int),(160:Int),()),((20:Int),(20:Int),())]]) fun (v25:Bool×Unit)=>(bif v25.1 then (Option.bind (zw_M v23.1 [(0:Int)]) fun (v26:Bool×Unit)=>(bif v26.1 then some (v24.1==[(110:UInt8),111,100,101,32,108,97,107,101,32,49,48,32,50,48,10,110,111,100,101,32,112,111,108,100,101,114,32,53,32,56,10,98,97,114,114,105,101,114,32,45,49,32,48,32,48,32,50,10,112,117,109,112,32,49,32,48,32,52,32,49,48,10,111,117,116,102,97,108,108,32,48,32,45,49,32,49,50,32,52,10],()) else some (Bool.false,()))) else some (Bool.false,()))) else some (Bool.false,()))))))))))))))))))))))
def yNE  : Option (Bool×Unit) := yNk 0
abbrev z0S_e:Entry := { f := 17,args := .unit,rS := .pair t4 .unit,m := fun x=>yNE }
theorem yNl:FnOK Tryz.prog z0S_e := fF 0 Tryz.f17 (fun n x=>yNk n) [] (yC yNu (yC yMM (yC yNR (yC yM8 (yC yNI (yC yOZ (yC yOH (yC yLz (yC yOR (yC yN0 (yC yO4 (yC yJu (yC yOy eNil)))))))))))))
end
end Go.Tw
end
section
set_option maxRecDepth 1000000
namespace Go.Tw
open Go.Vx Go.Vx.B Go.Proofs
noncomputable section
end
end Go.Tw
end
