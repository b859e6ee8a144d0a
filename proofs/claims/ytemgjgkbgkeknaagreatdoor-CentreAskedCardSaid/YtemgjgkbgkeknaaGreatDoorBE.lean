import Derived.Test.YtemgjgkbgkeknaaGreatDoorBT
import Derived.Test.YtemgjgkbgkeknaaGreatDoorB0
import Derived.Test.YtemgjgkbgkeknaaGreatDoorSB
import Derived.Test.YtemgjgkbgkeknaaGreatDoorLZ
import Derived.Test.YtemgjgkbgkeknaaGreatDoorBA
import Derived.Test.YtemgjgkbgkeknaaGreatDoorBC
import Derived.Test.YtemgjgkbgkeknaaGreatDoorBD
set_option linter.all false
section
set_option maxRecDepth 1000000
namespace Go.Tw
open Go.Vx Go.Vx.B Go.Proofs
noncomputable section
def il69:Inl:={ f:=69,fn:=Tryz.f69,keep:=[[5,6,15,16,17]],mU:=[6],fz:=[] }
theorem yN5:yl Tryz.prog il69:=⟨by kernel_rfl,by kernel_rfl,λ e0 h=>by cases (show (none:Option LibK)=some e0 from h)⟩
def yLt(n:Nat)(l:List (Q2)):Option ((Q1)×Int×Int×Unit):=
  ((yJ7 l).bind λ v0=>(bif v0.2.2.1 != 0 then some (((0:Int),((0:Int),(0:Int),()),(0:Int),(0:Int),(0:Int),(0:Int),[],(0:Int),[],[],[],()),v0.2.1,v0.2.2.1,())else ((v0.1.2.2.1.getLast?).bind λ v1=>some (v1,(0:Int),(0:Int),()))))
def yFo(l:List (Q2)):Option ((Q1)×Int×Int×Unit):=yLt 0 l
abbrev z08_e:Entry:={ f:=30,args:=.pair t22 .unit,rS:=.pair t60 (.pair t3 (.pair t29 .unit)),m:=λ x=>yFo x.1 }
theorem yHN:FnOK Tryz.prog z08_e:=fF 0 Tryz.f30 (λ n x=>yLt n x.1) [] (y8 yNl (y8 yMZ eNil))
def yKe(n:Nat)(r0:List UInt8->Int->List (Q2)->Option (List (Q2)×Int×Int×Unit))(a8:List UInt8)(a7:Int)(aa:List (Q2)):Option (List (Q2)×Int×Int×Unit):=
  (bif decide (a7 < (↑a8.length:Int))then (bif decide ((0:Int)<=a7) && decide (a7<=(↑a8.length:Int))then ((cutM (List.drop a7.toNat a8) [(10:UInt8)]).bind λ v1=>(bif !v1.2.2.1 then some (aa,a7,(29:Int),())else ((yO9 v1.1 (↑aa.length:Int)).bind λ v2=>(bif v2.2.1 != 0 then some (aa,a7,v2.2.1,())else (bif decide (aa.length+(1:Nat)<=memMax)then r0 a8 (IntKind.i64.wrap (a7+IntKind.i64.wrap ((↑v1.1.length:Int)+1))) (aa++[v2.1])else none)))))else none)else some (aa,a7,(0:Int),()))
def yJg(n k:Nat)(a8:List UInt8)(a7:Int)(aa:List (Q2)):Option (List (Q2)×Int×Int×Unit):=
  iter (λ r y=>yKe n (λ a8 a7 aa=>r ((a8,(a7,())),((aa,()),()))) y.1.1 y.1.2.1 y.2.1.1) k ((a8,(a7,())),((aa,()),()))
def yNc(n:Nat)(log:List UInt8):Option (List (Q2)×Int×Int×Unit):=
  (bif decide ((↑log.length:Int) > 1000000)then some ([],(0:Int),(27:Int),())else (yJg n n (log) ((0:Int)) ([])))
def yQ2(log:List UInt8):Option (List (Q2)×Int×Int×Unit):=yNc 1000 log
abbrev z00_e:Entry:={ f:=36,args:=.pair t9 .unit,rS:=.pair t22 (.pair t3 (.pair t29 .unit)),m:=λ x=>yQ2 x.1 }
theorem yOT:FnOK Tryz.prog z00_e:=fF (mu:=[5]) 1000 Tryz.f36 (λ n x=>yNc n x.1) [[0,5,6]] (y8 yL8 (y8 yNe eNil))
end
end Go.Tw
end
section
set_option maxRecDepth 1000000
namespace Go.Tw
open Go.Vx Go.Vx.B Go.Proofs
noncomputable section
def il62:Inl:={ f:=62,fn:=Tryz.f62,keep:=[[2,5,14,15,16]],mU:=[12,30,35],fz:=[12,30,35],rc:=true,on:=[12,30] }
theorem yN9:yl Tryz.prog il62:=⟨by kernel_rfl,by kernel_rfl,λ e0 h=>by cases (show (none:Option LibK)=some e0 from h)⟩
end
end Go.Tw
end
section
set_option maxRecDepth 1000000
namespace Go.Tw
open Go.Vx Go.Vx.B Go.Proofs
noncomputable section
def yLm(n:Nat)(l:List (Q2)):Option (Q6):=
  ((yFo l).bind λ v0=>(bif v0.2.2.1 != 0 then some ([],v0.2.2.1,())else some ((zM v0.1).1,(0:Int),())))
def yMQ(l:List (Q2)):Option (Q6):=yLm 0 l
abbrev z07_e:Entry:={ f:=50,args:=.pair t22 .unit,rS:=.pair t9 (.pair t29 .unit),m:=λ x=>yMQ x.1 }
theorem yNg:FnOK Tryz.prog z07_e:=fF 0 Tryz.f50 (λ n x=>yLm n x.1) [] (y8 yHN (y8 yKi eNil))
def yMf(n:Nat)(l:List (Q2))(gate command:List UInt8):Option (Int×Unit):=
  ((yFo l).bind λ v0=>(bif v0.2.2.1 != 0 then some (v0.2.2.1,())else ((zT_M v0.1 gate).bind λ v1=>((y12 [(z0b (decide (v1.1 < 0)) (10:Int)).1,(za command).1]).bind λ v2=>(bif v2.1 != 0 then some (v2.1,())else ((idx v0.1.2.2.2.2.2.2.2.2.1 v1.1).bind λ v3=>((zQ_M v0.1 v3 command).bind λ v4=>some (v4.1,()))))))))
def yMz(l:List (Q2))(gate command:List UInt8):Option (Int×Unit):=yMf 0 l gate command
abbrev z0H_e:Entry:={ f:=53,args:=.pair t22 (.pair t9 (.pair t9 .unit)),rS:=.pair t29 .unit,m:=λ x=>yMz x.1 x.2.1 x.2.2.1 }
theorem yNS:FnOK Tryz.prog z0H_e:=fF 0 Tryz.f53 (λ n x=>yMf n x.1 x.2.1 x.2.2.1) [] (y8 yHN (y8 yJc (y8 y2z (y8 yPA (y8 y5L (y8 yNv eNil))))))
def yMh(n:Nat)(l:List (Q2))(thing:List UInt8):Option (Int×Int×Unit):=
  ((yFo l).bind λ v0=>((yFp thing).bind λ v1=>((y12 [v0.2.2.1,(z0b (!v1.1) (8:Int)).1]).bind λ v2=>(bif v2.1 != 0 then some ((0:Int),v2.1,())else ((zL_M v0.1 thing).bind λ v3=>some (v3.1,(0:Int),()))))))
def yLw(l:List (Q2))(thing:List UInt8):Option (Int×Int×Unit):=yMh 0 l thing
abbrev z01_e:Entry:={ f:=54,args:=.pair t22 (.pair t9 .unit),rS:=.pair t3 (.pair t29 .unit),m:=λ x=>yLw x.1 x.2.1 }
theorem yNT:FnOK Tryz.prog z01_e:=fF 0 Tryz.f54 (λ n x=>yMh n x.1 x.2.1) [] (y8 yHN (y8 yEr (y8 y2z (y8 y5L (y8 yMj eNil)))))
end
end Go.Tw
end
