import Derived.Test.YtkfigfhjbejikaaGreatDoorBT
import Derived.Test.YtkfigfhjbejikaaGreatDoorB0
import Derived.Test.YtkfigfhjbejikaaGreatDoorBA
import Derived.Test.YtkfigfhjbejikaaGreatDoorBC
import Derived.Test.YtkfigfhjbejikaaGreatDoorBD
import Derived.Test.YtkfigfhjbejikaaGreatDoorBS
set_option linter.all false
open Go.IntKind (i64)
section
set_option maxRecDepth 1000000
namespace Go.Tw
open Go.Vx Go.Vx.B Go.Proofs
noncomputable section
def il125:Inl:={ f:=125,fn:=Tryz.f125,keep:=[],mU:=[],fz:=[] }
theorem yLm:y31 Tryz.prog il125:=⟨by kernel_rfl,by kernel_rfl,λ e0 h=>by cases (show (none:Option LibK)=some e0 from h)⟩
def il130:Inl:={ f:=130,fn:=Tryz.f130,keep:=[],mU:=[],fz:=[] }
theorem yMo:y31 Tryz.prog il130:=⟨by kernel_rfl,by kernel_rfl,λ e0 h=>by cases (show (none:Option LibK)=some e0 from h)⟩
def il126:Inl:={ f:=126,fn:=Tryz.f126,keep:=[],mU:=[],fz:=[] }
theorem yMq:y31 Tryz.prog il126:=⟨by kernel_rfl,by kernel_rfl,λ e0 h=>by cases (show (none:Option LibK)=some e0 from h)⟩
def il169:Inl:={ f:=169,fn:=Tryz.f169,lib:=some (.copy 201) }
theorem yMY:y31 Tryz.prog il169:=⟨by kernel_rfl,by kernel_rfl,λ e0 h=>by cases (show some (.copy 201:LibK)=some e0 from h);exact yNu⟩
def yLi(n:Nat)(r5:List Lnk->Int->Int->List Int->Option (List UInt8×Int×Unit))(ac:List Lnk)(ae:Int)(a8:Int)(a7:List Int):Option (List UInt8×Int×Unit):=
  (bif decide (a8 < ae)then ((idx ac a8).bind λ v6=>((zM_M [v6.2.1,v6.2.2.1,v6.2.2.2.1,v6.2.2.2.2.1] λ (x:Int×Unit)=>yMt x.1).bind λ v7=>(bif decide ((1:Nat)+v7.1.length<=memMax)then ((yL8 ([v6.1]++v7.1) [(32:UInt8)]).bind λ v8=>(bif decide (v8.1.length+(1:Nat) < strMax)then (bif decide (a7.length+(v8.1++[(10:UInt8)]).length<=memMax)then r5 ac ae (i64.wrap (a8+1)) (a7++y2o (v8.1++[(10:UInt8)]))else none)else none))else none)))else (bif decide ((0:Nat) < a7.length)then (bif (↑a7.length:Int)==(↑a7.length:Int) && decide ((0:Nat) < a7.length) && yCg a7 then some (y1G a7,(0:Int),())else none)else none))
def yMm(n:Nat)(k:Nat)(ac:List Lnk)(ae:Int)(a8:Int)(a7:List Int):Option (List UInt8×Int×Unit):=
  iter (λ r y=>yLi n (λ ac ae a8 a7=>r (((),(ac,(ae,(a8,())))),(((),(a7,())),()))) y.1.2.1 y.1.2.2.1 y.1.2.2.2.1 y.2.1.2.1) k (((),(ac,(ae,(a8,())))),(((),(a7,())),()))
def yMD(n:Nat)(r1:Bas->List Nod->Int->Int->List Int->Option (List UInt8×Int×Unit))(ai:Bas)(af:List Nod)(ah:Int)(aa:Int)(aj:List Int):Option (List UInt8×Int×Unit):=
  (bif decide (aa < ah)then ((idx af aa).bind λ v2=>((zM_M [v2.2.1,v2.2.2.1] λ (x:Int×Unit)=>yMt x.1).bind λ v3=>(bif decide ((2:Nat)+v3.1.length<=memMax)then ((yL8 ([[(110:UInt8),111,100,101],v2.1]++v3.1) [(32:UInt8)]).bind λ v4=>(bif decide (v4.1.length+(1:Nat) < strMax)then (bif decide (aj.length+(v4.1++[(10:UInt8)]).length<=memMax)then r1 ai af ah (i64.wrap (aa+1)) (aj++y2o (v4.1++[(10:UInt8)]))else none)else none))else none)))else (yMm n n (ai.2.1) ((↑ai.2.1.length:Int)) ((0:Int)) (aj)))
def yMv(n:Nat)(k:Nat)(ai:Bas)(af:List Nod)(ah:Int)(aa:Int)(aj:List Int):Option (List UInt8×Int×Unit):=
  iter (λ r y=>yMD n (λ ai af ah aa aj=>r ((ai,((),(af,(ah,(aa,()))))),(((),(aj,())),()))) y.1.1 y.1.2.2.1 y.1.2.2.2.1 y.1.2.2.2.2.1 y.2.1.2.1) k ((ai,((),(af,(ah,(aa,()))))),(((),(aj,())),()))
def yPe(n:Nat)(b:Bas):Option (List UInt8×Int×Unit):=
  ((zj_M b).bind λ v0=>(bif v0.1 != 0 then some ([],v0.1,())else (yMv n n (b) (b.1) ((↑b.1.length:Int)) ((0:Int)) ([]))))
def yQt(b:Bas):Option (List UInt8×Int×Unit):=yPe 1000 b
abbrev z0N_e:Entry:={ f:=78,args:=.pair t41 .unit,rS:=.pair t9 (.pair t35 .unit),m:=λ x=>yQt x.1 }
theorem yQ7:FnOK Tryz.prog z0N_e:=fFI (mu:=[5,27,45]) 1000 Tryz.f78 (λ n x=>yPe n x.1) [[1,5,6,18,19,20],[5,6,36,37,38]] [il125,il130,il126,il169] 8 (yF yOt (yF yRG (yF yPk (yF yP5 eNil)))) (y7g yLm (y7g yMo (y7g yMq (y7g yMY iNil))))
end
end Go.Tw
end
section
set_option maxRecDepth 1000000
namespace Go.Tw
open Go.Vx Go.Vx.B Go.Proofs
noncomputable section
def yQi(n:Nat)  : Option (Bool×Unit):=
  ((yQL z0f.1 [(100:Int),(30:Int)]).bind λ v0=>((yQk z0f.1 [(100:Int),(30:Int)]).bind λ v1=>((yPn z0f.1 [(100:Int),(30:Int)] ((16:Int),Bool.true,[(20:Int),(5:Int)],())).bind λ v2=>((yPL z0f.1 [(100:Int),(30:Int)] [((16:Int),Bool.true,[(20:Int),(5:Int)],()),((8:Int),Bool.false,[(0:Int),(0:Int)],())]).bind λ v3=>((yQa z0f.1 [(100:Int),(30:Int)] [((16:Int),Bool.true,[(20:Int),(5:Int)],()),((8:Int),Bool.false,[(0:Int),(0:Int)],())]).bind λ v4=>((yQD z0f.1 [(100:Int),(20:Int)] ((16:Int),Bool.false,[(50:Int),(0:Int)],()) (0:Int) (20:Int)).bind λ v5=>(bif i64.wrap (i64.wrap (i64.wrap (i64.wrap (i64.wrap (v0.2.1+v1.2.1)+v2.2.1)+v3.2.1)+v4.2.1)+v5.2.1) != 0 then some (Bool.false,())else ((yEw v0.1 [(10:Int),(6:Int)]).bind λ v6=>(bif !v6.1 then some (Bool.false,())else ((yEw v1.1 [(109:Int),(14:Int)]).bind λ v7=>(bif !v7.1 then some (Bool.false,())else ((yEw v2.1 [(20:Int),(10:Int),(0:Int)]).bind λ v8=>(bif !v8.1 then some (Bool.false,())else ((yQ4 v3.1 [[(150:Int),(25:Int)],[(147:Int),(20:Int)]]).bind λ v9=>(bif !v9.1 then some (Bool.false,())else (bif !eqV ((Ty.int i64).pair ((Ty.int i64).pair ((Ty.int i64).pair Ty.unit))) (v4.1.1,v4.1.2.1,v4.1.2.2.1,()) ((25:Int),(20:Int),(8:Int),())then some (Bool.false,())else (bif v5.1 != 3 then some (Bool.false,())else ((yA8 z0f.1 [((100:Int),(110:Int),()),((20:Int),(20:Int),())] [(((8:Int),(16:Int),()),Bool.false,[((0:Int),(50:Int),()),((0:Int),(0:Int),())],())]).bind λ v22=>((yPa z0f.1 [(210:Int),(44:Int)]).bind λ v23=>((yQt z0f.1).bind λ v24=>(bif i64.wrap (i64.wrap (v22.2.1+v23.2.1)+v24.2.1)==0 then ((zV_M v22.1 [[((100:Int),(160:Int),()),((20:Int),(20:Int),())]]).bind λ v25=>(bif v25.1 then ((yEw v23.1 [(0:Int)]).bind λ v26=>(bif v26.1 then some (v24.1==[(110:UInt8),111,100,101,32,108,97,107,101,32,49,48,32,50,48,10,110,111,100,101,32,112,111,108,100,101,114,32,53,32,56,10,98,97,114,114,105,101,114,32,45,49,32,48,32,48,32,50,10,112,117,109,112,32,49,32,48,32,52,32,49,48,10,111,117,116,102,97,108,108,32,48,32,45,49,32,49,50,32,52,10],())else some (Bool.false,())))else some (Bool.false,())))else some (Bool.false,()))))))))))))))))))))))
def y2x  : Option (Bool×Unit):=yQi 0
abbrev z0T_e:Entry:={ f:=17,args:=.unit,rS:=.pair t4 .unit,m:=λ x=>y2x }
theorem yPp:FnOK Tryz.prog z0T_e:=fF 0 Tryz.f17 (λ n x=>yQi n) [] (yF yQn (yF yPg (yF yQf (yF yPK (yF yPV (yF yP7 (yF yQP (yF yNK (yF yPx (yF yN8 (yF yQ5 (yF yQ7 (yF yPJ eNil)))))))))))))
end
end Go.Tw
end
section
set_option maxRecDepth 1000000
namespace Go.Tw
open Go.Vx Go.Vx.B Go.Proofs
noncomputable section
end
end Go.Tw
end
section
set_option maxRecDepth 1000000
namespace Go.Tw
open Go.Vx Go.Vx.B Go.Proofs
noncomputable section
def yQX(al:Bas)(aq:List Int)(am:Int)(v2:Int)(ak:List Int):Option ((List Int×Unit)⊕(List Int)):=
  ((idx al.1 am).bind λ v3=>(bif decide (v2 > v3.2.2.1)then (bif decide (ak.length+(1:Nat)<=memMax)then (some (Sum.inr (ak++[am])))else none)else (some (Sum.inr (ak)))))
def yQ2(al:Bas)(aq:List Int)(ak:List Int):Option (List Int×Unit):=
  (some ((ak,())))
def yOY(b:Bas)(v:List Int):Option (List Int×Unit):=
  ((yOc b v).bind λ v0=>(bif decide (List.length (v0.1) < lenMax)then yL (λ au av ar=>yQX (b) (v0.1) au av ar) (λ ar=>yQ2 (b) (v0.1) ar) 0 (v0.1) ([])else none))
end
end Go.Tw
end
