import Derived.Test.YtkfigfhjbejikaaGreatDoorBT
import Derived.Test.YtkfigfhjbejikaaGreatDoorBA
import Derived.Test.YtkfigfhjbejikaaGreatDoorBC
import Derived.Test.YtkfigfhjbejikaaGreatDoorBD
import Derived.Test.YtkfigfhjbejikaaGreatDoorBS
set_option linter.all false
section
set_option maxRecDepth 1000000
namespace Go.Tw
open Go.Vx Go.Vx.B Go.Proofs
noncomputable section
def il125:Inl := { f := 125,fn := Tryz.f125,keep := [],muts := [],fz := [] }
theorem yKs:y3Z Tryz.prog il125 := ⟨by kernel_rfl,by kernel_rfl,fun e0 h=>by cases (show (none:Option LibK) = some e0 from h)⟩
def il130:Inl := { f := 130,fn := Tryz.f130,keep := [],muts := [],fz := [] }
theorem yKm:y3Z Tryz.prog il130 := ⟨by kernel_rfl,by kernel_rfl,fun e0 h=>by cases (show (none:Option LibK) = some e0 from h)⟩
def il126:Inl := { f := 126,fn := Tryz.f126,keep := [],muts := [],fz := [] }
theorem yL9:y3Z Tryz.prog il126 := ⟨by kernel_rfl,by kernel_rfl,fun e0 h=>by cases (show (none:Option LibK) = some e0 from h)⟩
def il169:Inl := { f := 169,fn := Tryz.f169,lib := some (.copy 201) }
theorem yLO:y3Z Tryz.prog il169 := ⟨by kernel_rfl,by kernel_rfl,fun e0 h=>by cases (show some (.copy 201:LibK) = some e0 from h); exact yOF⟩
abbrev yOC:Ty := .pair t41 .unit
abbrev yR1:Ty := .pair t9 (.pair t35 .unit)
def ySw:G := { T := T,E := [zj_e,zM_e,z0J_e,z0K_e],muts := [5,27,45],fz := [] }
def yW8:List (List Nat) := [[1,5,6,18,19,20],[5,6,36,37,38]]
def yMI (n:Nat):Ann := { keep := yW8,fuel := n,inl := [il125,il130,il126,il169],deep := 8 }
def yEV (n:Nat) (r5:List Lnk→Int→Int→List Int→Option (List UInt8×Int×Unit)) (a7:List Lnk) (ai:Int) (af:Int) (aa:List Int):Option (List UInt8×Int×Unit) :=
  (bif decide (af < ai) then (Option.bind (idx a7 af) fun (v6:Lnk)=>(Option.bind (zM_M [v6.2.1,v6.2.2.1,v6.2.2.2.1,v6.2.2.2.2.1] fun (x:Int×Unit)=>yGa x.1) fun (v7:List (List UInt8)×Unit)=>(bif decide ((1:Nat) + v7.1.length≤memMax) then (Option.bind (yD4 ([v6.1] ++ v7.1) [(32:UInt8)]) fun (v8:List UInt8×Unit)=>(bif decide (v8.1.length + (1:Nat) < strMax) then (bif decide (aa.length + (v8.1 ++ [(10:UInt8)]).length≤memMax) then r5 a7 ai (IntKind.i64.wrap (af + 1)) (aa ++ y1a (v8.1 ++ [(10:UInt8)])) else none) else none)) else none))) else (bif decide ((0:Nat) < aa.length) then (bif (↑aa.length:Int)==(↑aa.length:Int) && decide ((0:Nat) < aa.length) && y7g aa then some (y2f aa,(0:Int),()) else none) else none))
def y7Q (n:Nat)  (k:Nat) (a7:List Lnk) (ai:Int) (af:Int) (aa:List Int):Option (List UInt8×Int×Unit) :=
  iter (fun r y=>yEV n (fun a7 ai af aa=>r (((),(a7,(ai,(af,())))),(((),(aa,())),()))) y.1.2.1 y.1.2.2.1 y.1.2.2.2.1 y.2.1.2.1) k (((),(a7,(ai,(af,())))),(((),(aa,())),()))
def yFa (n:Nat) (r1:Bas→List Nod→Int→Int→List Int→Option (List UInt8×Int×Unit)) (ac:Bas) (a8:List Nod) (aj:Int) (ah:Int) (ae:List Int):Option (List UInt8×Int×Unit) :=
  (bif decide (ah < aj) then (Option.bind (idx a8 ah) fun (v2:Nod)=>(Option.bind (zM_M [v2.2.1,v2.2.2.1] fun (x:Int×Unit)=>yGa x.1) fun (v3:List (List UInt8)×Unit)=>(bif decide ((2:Nat) + v3.1.length≤memMax) then (Option.bind (yD4 ([[(110:UInt8),111,100,101],v2.1] ++ v3.1) [(32:UInt8)]) fun (v4:List UInt8×Unit)=>(bif decide (v4.1.length + (1:Nat) < strMax) then (bif decide (ae.length + (v4.1 ++ [(10:UInt8)]).length≤memMax) then r1 ac a8 aj (IntKind.i64.wrap (ah + 1)) (ae ++ y1a (v4.1 ++ [(10:UInt8)])) else none) else none)) else none))) else (y7Q n n (ac.2.1) ((↑ac.2.1.length:Int)) ((0:Int)) (ae)))
def y6z (n:Nat)  (k:Nat) (ac:Bas) (a8:List Nod) (aj:Int) (ah:Int) (ae:List Int):Option (List UInt8×Int×Unit) :=
  iter (fun r y=>yFa n (fun ac a8 aj ah ae=>r ((ac,((),(a8,(aj,(ah,()))))),(((),(ae,())),()))) y.1.1 y.1.2.2.1 y.1.2.2.2.1 y.1.2.2.2.2.1 y.2.1.2.1) k ((ac,((),(a8,(aj,(ah,()))))),(((),(ae,())),()))
def yKa (n:Nat) (b:Bas):Option (List UInt8×Int×Unit) :=
  (Option.bind (zj_M b) fun (v0:Int×Unit)=>(bif v0.1 != 0 then some ([],v0.1,()) else (y6z n n (b) (b.1) ((↑b.1.length:Int)) ((0:Int)) ([]))))
theorem yS2 (n:Nat) (x:yOC.den):runF ySw (yMI n) Tryz.f78 yOC yR1 x = yKa n x.1 := by kernel_rfl
def yIH (a7:List Lnk) (af:Int) (v6:Lnk) (aa:List Int):Option ((List UInt8×Int×Unit)⊕(List Int)) :=
  (Option.bind (zM_M [v6.2.1,v6.2.2.1,v6.2.2.2.1,v6.2.2.2.2.1] fun (x:Int×Unit)=>yGa x.1) fun (v7:List (List UInt8)×Unit)=>(bif decide ((1:Nat) + v7.1.length≤memMax) then (Option.bind (yD4 ([v6.1] ++ v7.1) [(32:UInt8)]) fun (v8:List UInt8×Unit)=>(bif decide (v8.1.length + (1:Nat) < strMax) then (bif decide (aa.length + (v8.1 ++ [(10:UInt8)]).length≤memMax) then (some (Sum.inr (aa ++ y1a (v8.1 ++ [(10:UInt8)])))) else none) else none)) else none))
def yIl (a7:List Lnk) (aa:List Int):Option (List UInt8×Int×Unit) :=
  (bif decide ((0:Nat) < aa.length) then (bif (↑aa.length:Int)==(↑aa.length:Int) && decide ((0:Nat) < aa.length) && y7g aa then (some ((y2f aa,(0:Int),()))) else none) else none)
theorem yDL (n:Nat) (hn:big≤n)  (a7:List Lnk) (aa:List Int) (hx:List.length (a7) < lenMax):LeF some (yK (fun i__ e__ s__=>yIH a7 i__ e__ s__) (fun s__=>yIl a7 s__) 0 (a7) aa) (y7Q n n a7 (List.length (a7):Int) 0 aa) := by
  refine yN (f := some) (W := fun k__ i__ s__=>y7Q n k__ a7 (List.length (a7):Int) i__ s__) (body := (fun i__ e__ s__=>yIH a7 i__ e__ s__)) (fin := (fun s__=>yIl a7 s__)) (fun k__ i__ s__=>?_) hx aa n (by unfold big at hn; unfold lenMax at hx; omega)
  show LeF _ _ (yEV n (y7Q n k__) a7 (List.length (a7):Int) i__ s__)
  exact y5 (y9 fun v6=>(y9 fun v7=>(y5 (y9 fun v8=>(y5 (y5 (y7 rfl) yp) yp)) yp))) (y02 (y5 (y5 (y7 rfl) yp) yp))
def yJ2 (ac:Bas) (a8:List Nod) (ah:Int) (v2:Nod) (ae:List Int):Option ((List UInt8×Int×Unit)⊕(List Int)) :=
  (Option.bind (zM_M [v2.2.1,v2.2.2.1] fun (x:Int×Unit)=>yGa x.1) fun (v3:List (List UInt8)×Unit)=>(bif decide ((2:Nat) + v3.1.length≤memMax) then (Option.bind (yD4 ([[(110:UInt8),111,100,101],v2.1] ++ v3.1) [(32:UInt8)]) fun (v4:List UInt8×Unit)=>(bif decide (v4.1.length + (1:Nat) < strMax) then (bif decide (ae.length + (v4.1 ++ [(10:UInt8)]).length≤memMax) then (some (Sum.inr (ae ++ y1a (v4.1 ++ [(10:UInt8)])))) else none) else none)) else none))
def yI5 (ac:Bas) (a8:List Nod) (ae:List Int):Option (List UInt8×Int×Unit) :=
  (bif decide (List.length (ac.2.1) < lenMax) then yK (fun i__ e__ s__=>yIH (ac.2.1) i__ e__ s__) (fun s__=>yIl (ac.2.1) s__) 0 (ac.2.1) (ae) else none)
theorem yDJ (n:Nat) (hn:big≤n)  (ac:Bas) (a8:List Nod) (ae:List Int) (hx:List.length (a8) < lenMax):LeF some (yK (fun i__ e__ s__=>yJ2 ac a8 i__ e__ s__) (fun s__=>yI5 ac a8 s__) 0 (a8) ae) (y6z n n ac a8 (List.length (a8):Int) 0 ae) := by
  refine yN (f := some) (W := fun k__ i__ s__=>y6z n k__ ac a8 (List.length (a8):Int) i__ s__) (body := (fun i__ e__ s__=>yJ2 ac a8 i__ e__ s__)) (fin := (fun s__=>yI5 ac a8 s__)) (fun k__ i__ s__=>?_) hx ae n (by unfold big at hn; unfold lenMax at hx; omega)
  show LeF _ _ (yFa n (y6z n k__) ac a8 (List.length (a8):Int) i__ s__)
  exact y5 (y9 fun v2=>(y9 fun v3=>(y5 (y9 fun v4=>(y5 (y5 (y7 rfl) yp) yp)) yp))) (y02 (yL fun hx=>by apply yDL n hn; exact hx))
def yIF (b:Bas):Option (List UInt8×Int×Unit) :=
  (Option.bind (zj_M b) fun (v0:Int×Unit)=>(bif v0.1 != 0 then (some (([],v0.1,()))) else (bif decide (List.length (b.1) < lenMax) then yK (fun i__ e__ s__=>yJ2 (b) (b.1) i__ e__ s__) (fun s__=>yI5 (b) (b.1) s__) 0 (b.1) ([]) else none)))
theorem yNp (b:Bas) (y:List UInt8×Int×Unit) (h:yIF b = some y) : ∃ n,yKa n b = some y :=
  ⟨big,LeF.top (show LeF some (yIF b) (yKa big b) from (fun (n:Nat) (hn:big≤n)=>show LeF some (yIF b) (yKa n b) from (y9 fun v0=>(y5 (y7 rfl) (yL fun hx=>by apply yDJ n hn; exact hx)))) big (Nat.le_refl _)) h⟩
def z0N_e:Entry := { f := 78,args := yOC,ress := yR1,m := fun x=>yIF x.1 }
theorem ySb:FnOK Tryz.prog z0N_e := yT (g := ySw) (fn := Tryz.f78) yH yS (yE yP0 (yE yUT (yE yPg (yE yTW eNil)))) (by kernel_rfl) (by kernel_rfl) (by kernel_rfl) (fun x y h=>let ⟨n,hn⟩ := yNp x.1 y h; ⟨yMI n,(y6p yKs (y6p yKm (y6p yL9 (y6p yLO iNil)))),(yS2 n x).trans hn⟩)
end
end Go.Tw
end
section
set_option maxRecDepth 1000000
namespace Go.Tw
open Go.Vx Go.Vx.B Go.Proofs
noncomputable section
abbrev yO5:Ty := .unit
abbrev yPl:Ty := .pair t4 .unit
def yTJ:G := { T := T,E := [z0f_e,z0D_e,z0b_e,z0M_e,z0i_e,z02_e,z0O_e,z00_e,z01_e,z03_e,z0L_e,z0N_e,zV_e],muts := [],fz := [] }
def yUK:List (List Nat) := []
def yMR (n:Nat):Ann := { keep := yUK,fuel := n,inl := [],deep := 0 }
def yOa (n:Nat)  : Option (Bool×Unit) :=
  (Option.bind (yP3 z0f.1 [(100:Int),(30:Int)]) fun (v0:List Int×Int×Unit)=>(Option.bind (yJX z0f.1 [(100:Int),(30:Int)]) fun (v1:List Int×Int×Unit)=>(Option.bind (yO0 z0f.1 [(100:Int),(30:Int)] ((16:Int),Bool.true,[(20:Int),(5:Int)],())) fun (v2:List Int×Int×Unit)=>(Option.bind (yNj z0f.1 [(100:Int),(30:Int)] [((16:Int),Bool.true,[(20:Int),(5:Int)],()),((8:Int),Bool.false,[(0:Int),(0:Int)],())]) fun (v3:List (List Int)×Int×Unit)=>(Option.bind (yHV z0f.1 [(100:Int),(30:Int)] [((16:Int),Bool.true,[(20:Int),(5:Int)],()),((8:Int),Bool.false,[(0:Int),(0:Int)],())]) fun (v4:(Int×Int×Int×Unit)×Int×Unit)=>(Option.bind (yHj z0f.1 [(100:Int),(20:Int)] ((16:Int),Bool.false,[(50:Int),(0:Int)],()) (0:Int) (20:Int)) fun (v5:Int×Int×Unit)=>(bif IntKind.i64.wrap (IntKind.i64.wrap (IntKind.i64.wrap (IntKind.i64.wrap (IntKind.i64.wrap (v0.2.1 + v1.2.1) + v2.2.1) + v3.2.1) + v4.2.1) + v5.2.1) != 0 then some (Bool.false,()) else (Option.bind (y8l v0.1 [(10:Int),(6:Int)]) fun (v6:Bool×Unit)=>(bif !v6.1 then some (Bool.false,()) else (Option.bind (y8l v1.1 [(109:Int),(14:Int)]) fun (v7:Bool×Unit)=>(bif !v7.1 then some (Bool.false,()) else (Option.bind (y8l v2.1 [(20:Int),(10:Int),(0:Int)]) fun (v8:Bool×Unit)=>(bif !v8.1 then some (Bool.false,()) else (Option.bind (yIK v3.1 [[(150:Int),(25:Int)],[(147:Int),(20:Int)]]) fun (v9:Bool×Unit)=>(bif !v9.1 then some (Bool.false,()) else (bif !eqV ((Ty.int IntKind.i64).pair ((Ty.int IntKind.i64).pair ((Ty.int IntKind.i64).pair Ty.unit))) (v4.1.1,v4.1.2.1,v4.1.2.2.1,()) ((25:Int),(20:Int),(8:Int),()) then some (Bool.false,()) else (bif v5.1 != 3 then some (Bool.false,()) else (Option.bind (y5p z0f.1 [((100:Int),(110:Int),()),((20:Int),(20:Int),())] [(((8:Int),(16:Int),()),Bool.false,[((0:Int),(50:Int),()),((0:Int),(0:Int),())],())]) fun (v22:List (List (Int×Int×Unit))×Int×Unit)=>(Option.bind (yOb z0f.1 [(210:Int),(44:Int)]) fun (v23:List Int×Int×Unit)=>(Option.bind (yIF z0f.1) fun (v24:List UInt8×Int×Unit)=>(bif IntKind.i64.wrap (IntKind.i64.wrap (v22.2.1 + v23.2.1) + v24.2.1)==0 then (Option.bind (zV_M v22.1 [[((100:Int),(160:Int),()),((20:Int),(20:Int),())]]) fun (v25:Bool×Unit)=>(bif v25.1 then (Option.bind (y8l v23.1 [(0:Int)]) fun (v26:Bool×Unit)=>(bif v26.1 then some (v24.1==[(110:UInt8),111,100,101,32,108,97,107,101,32,49,48,32,50,48,10,110,111,100,101,32,112,111,108,100,101,114,32,53,32,56,10,98,97,114,114,105,101,114,32,45,49,32,48,32,48,32,50,10,112,117,109,112,32,49,32,48,32,52,32,49,48,10,111,117,116,102,97,108,108,32,48,32,45,49,32,49,50,32,52,10],()) else some (Bool.false,()))) else some (Bool.false,()))) else some (Bool.false,()))))))))))))))))))))))
theorem yT8 (n:Nat) (x:yO5.den):runF yTJ (yMR n) Tryz.f17 yO5 yPl x = yOa n := by kernel_rfl
def y22  : Option (Bool×Unit) := yOa 0
theorem yND  (y:Bool×Unit) (h:y22 = some y) : ∃ n,yOa n = some y := ⟨0,h⟩
def z0T_e:Entry := { f := 17,args := yO5,ress := yPl,m := fun x=>y22 }
theorem yPZ:FnOK Tryz.prog z0T_e := yT (g := yTJ) (fn := Tryz.f17) yH yS (yE yTn (yE yPQ (yE yQD (yE ySE (yE yQ3 (yE yTV (yE yQP (yE yME (yE yPS (yE yM8 (yE yT2 (yE ySb (yE ySs eNil))))))))))))) (by kernel_rfl) (by kernel_rfl) (by kernel_rfl) (fun x y h=>let ⟨n,hn⟩ := yND y h; ⟨yMR n,iNil,(yT8 n x).trans hn⟩)
end
end Go.Tw
end
section
set_option maxRecDepth 1000000
namespace Go.Tw
open Go.Vx Go.Vx.B Go.Proofs
noncomputable section
end
end Go.Tw
end
section
set_option maxRecDepth 1000000
namespace Go.Tw
open Go.Vx Go.Vx.B Go.Proofs
noncomputable section
def yRR (al:Bas) (aq:List Int) (am:Int) (v2:Int) (ak:List Int):Option ((List Int×Unit)⊕(List Int)) :=
  (Option.bind (idx al.1 am) fun (v3:Nod)=>(bif decide (v2 > v3.2.2.1) then (bif decide (ak.length + (1:Nat)≤memMax) then (some (Sum.inr (ak ++ [am]))) else none) else (some (Sum.inr (ak)))))
def yTS (al:Bas) (aq:List Int) (ak:List Int):Option (List Int×Unit) :=
  (some ((ak,())))
def yMs (b:Bas) (v:List Int):Option (List Int×Unit) :=
  (Option.bind (yMy b v) fun (v0:List Int×Unit)=>(bif decide (List.length (v0.1) < lenMax) then yK (fun i__ e__ s__=>yRR (b) (v0.1) i__ e__ s__) (fun s__=>yTS (b) (v0.1) s__) 0 (v0.1) ([]) else none))
end
end Go.Tw
end
