import Derived.Test.YtemgjgkbgkeknaaGreatDoorBT
import Derived.Test.YtemgjgkbgkeknaaGreatDoorB0
import Derived.Test.YtemgjgkbgkeknaaGreatDoorSB
import Derived.Test.YtemgjgkbgkeknaaGreatDoorLZ
import Derived.Test.YtemgjgkbgkeknaaGreatDoorBA
import Derived.Test.YtemgjgkbgkeknaaGreatDoorBC
import Derived.Test.YtemgjgkbgkeknaaGreatDoorBD
set_option linter.all false
section
set_option maxRecDepth 1000000
namespace Go.Tw
open Go.Vx Go.Vx.B Go.Proofs
noncomputable section
def il69:Inl:={ f:=69,fn:=Tryz.f69,keep:=[[5,6,15,16,17]],mU:=[6],fz:=[] }
theorem yNj:yn Tryz.prog il69:=⟨by kernel_rfl,by kernel_rfl,λ e0 h=>by cases (show (none:Option LibK)=some e0 from h)⟩
def yML(n:Nat)(l:List (Q2)):Option ((Q1)×Int×Int×Unit):=
  ((yKi l).bind λ v0=>(bif v0.2.2.1 != 0 then some (((0:Int),((0:Int),(0:Int),()),(0:Int),(0:Int),(0:Int),(0:Int),[],(0:Int),[],[],[],()),v0.2.1,v0.2.2.1,())else ((v0.1.2.2.1.getLast?).bind λ v1=>some (v1,(0:Int),(0:Int),()))))
def yKg(l:List (Q2)):Option ((Q1)×Int×Int×Unit):=yML 0 l
abbrev z0A_e:Entry:={ f:=30,args:=.pair t22 .unit,rS:=.pair t60 (.pair t3 (.pair t29 .unit)),m:=λ x=>yKg x.1 }
theorem yPp:FnOK Tryz.prog z0A_e:=fF 0 Tryz.f30 (λ n x=>yML n x.1) [] (yE yPr (yE yMH eNil))
def yLH(n:Nat)(r0:List UInt8->Int->List (Q2)->Option (List (Q2)×Int×Int×Unit))(a8:List UInt8)(a7:Int)(aa:List (Q2)):Option (List (Q2)×Int×Int×Unit):=
  (bif decide (a7 < (↑a8.length:Int))then (bif decide ((0:Int)<=a7) && decide (a7<=(↑a8.length:Int))then ((cutM (List.drop a7.toNat a8) [(10:UInt8)]).bind λ v1=>(bif !v1.2.2.1 then some (aa,a7,(29:Int),())else ((yOO v1.1 (↑aa.length:Int)).bind λ v2=>(bif v2.2.1 != 0 then some (aa,a7,v2.2.1,())else (bif decide (aa.length+(1:Nat)<=memMax)then r0 a8 (IntKind.i64.wrap (a7+IntKind.i64.wrap ((↑v1.1.length:Int)+1))) (aa++[v2.1])else none)))))else none)else some (aa,a7,(0:Int),()))
def yKR(n k:Nat)(a8:List UInt8)(a7:Int)(aa:List (Q2)):Option (List (Q2)×Int×Int×Unit):=
  iter (λ r y=>yLH n (λ a8 a7 aa=>r ((a8,(a7,())),((aa,()),()))) y.1.1 y.1.2.1 y.2.1.1) k ((a8,(a7,())),((aa,()),()))
def yOG(n:Nat)(log:List UInt8):Option (List (Q2)×Int×Int×Unit):=
  (bif decide ((↑log.length:Int) > 1000000)then some ([],(0:Int),(27:Int),())else (yKR n n (log) ((0:Int)) ([])))
def yQi(log:List UInt8):Option (List (Q2)×Int×Int×Unit):=yOG 1000 log
abbrev z02_e:Entry:={ f:=36,args:=.pair t9 .unit,rS:=.pair t22 (.pair t3 (.pair t29 .unit)),m:=λ x=>yQi x.1 }
theorem yPR:FnOK Tryz.prog z02_e:=fF (mu:=[5]) 1000 Tryz.f36 (λ n x=>yOG n x.1) [[0,5,6]] (yE yM2 (yE yOn eNil))
end
end Go.Tw
end
section
set_option maxRecDepth 1000000
namespace Go.Tw
open Go.Vx Go.Vx.B Go.Proofs
noncomputable section
def il62:Inl:={ f:=62,fn:=Tryz.f62,keep:=[[2,5,14,15,16]],mU:=[12,30,35],fz:=[12,30,35],rc:=true,on:=[12,30] }
theorem yN1:yn Tryz.prog il62:=⟨by kernel_rfl,by kernel_rfl,λ e0 h=>by cases (show (none:Option LibK)=some e0 from h)⟩
end
end Go.Tw
end
section
set_option maxRecDepth 1000000
namespace Go.Tw
open Go.Vx Go.Vx.B Go.Proofs
noncomputable section
end
end Go.Tw
end
