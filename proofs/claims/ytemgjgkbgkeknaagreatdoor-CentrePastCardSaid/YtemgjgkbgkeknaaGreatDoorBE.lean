import Derived.Test.YtemgjgkbgkeknaaGreatDoorBT
import Derived.Test.YtemgjgkbgkeknaaGreatDoorB0
import Derived.Test.YtemgjgkbgkeknaaGreatDoorSB
import Derived.Test.YtemgjgkbgkeknaaGreatDoorLZ
import Derived.Test.YtemgjgkbgkeknaaGreatDoorBA
import Derived.Test.YtemgjgkbgkeknaaGreatDoorBC
import Derived.Test.YtemgjgkbgkeknaaGreatDoorBD
set_option linter.all false
section
set_option maxRecDepth 1000000
namespace Go.Tw
open Go.Vx Go.Vx.B Go.Proofs
noncomputable section
def il69:Inl:={ f:=69,fn:=Tryz.f69,keep:=[[5,6,15,16,17]],mU:=[6],fz:=[] }
theorem yOK:yo Tryz.prog il69:=⟨by kernel_rfl,by kernel_rfl,λ e0 h=>by cases (show (none:Option LibK)=some e0 from h)⟩
def yMr(n:Nat)(l:List (Q2)):Option ((Q1)×Int×Int×Unit):=
  ((yGZ l).bind λ v0=>(bif v0.2.2.1 != 0 then some (((0:Int),((0:Int),(0:Int),()),(0:Int),(0:Int),(0:Int),(0:Int),[],(0:Int),[],[],[],()),v0.2.1,v0.2.2.1,())else ((v0.1.2.2.1.getLast?).bind λ v1=>some (v1,(0:Int),(0:Int),()))))
def yN5(l:List (Q2)):Option ((Q1)×Int×Int×Unit):=yMr 0 l
abbrev z0A_e:Entry:={ f:=30,args:=.pair t22 .unit,rS:=.pair t60 (.pair t3 (.pair t29 .unit)),m:=λ x=>yN5 x.1 }
theorem yOz:FnOK Tryz.prog z0A_e:=fF 0 Tryz.f30 (λ n x=>yMr n x.1) [] (yE yMH (yE yMf eNil))
def yEI(n:Nat)(r2:Int->Int->Int->Int->Int->Int->Int->Int->Int->List UInt8->Int->List (Q2)->List (Q2)->List (Q1)->Option ((Q1)×Int×Unit))(a7 av ac ae af ah ai aj ak:Int)(am:List UInt8)(aq:Int)(ar a8:List (Q2))(aa:List (Q1)):Option ((Q1)×Int×Unit):=
  (bif decide (av < (↑a8.length:Int))then ((idx a8 av).bind λ v3=>((idx v3.2.2.2.1 (0:Int)).bind λ v4=>(bif decide (v4<=a7)then r2 a7 (IntKind.i64.wrap (av+1)) ac ae af ah ai aj ak am aq ar a8 aa else ((idx aa av).bind λ v9=>some (v9,(0:Int),())))))else ((idx aa av).bind λ v10=>some (v10,(0:Int),())))
def y7Z(n k:Nat)(a7 av ac ae af ah ai aj ak:Int)(am:List UInt8)(aq:Int)(ar a8:List (Q2))(aa:List (Q1)):Option ((Q1)×Int×Unit):=
  iter (λ r y=>yEI n (λ a7 av ac ae af ah ai aj ak am aq ar a8 aa=>r ((a7,(av,())),(((ac,(ae,(af,(ah,(ai,(aj,(ak,(am,(aq,()))))))))),((ar,(a8,(aa,()))),())),()))) y.1.1 y.1.2.1 y.2.1.1.1 y.2.1.1.2.1 y.2.1.1.2.2.1 y.2.1.1.2.2.2.1 y.2.1.1.2.2.2.2.1 y.2.1.1.2.2.2.2.2.1 y.2.1.1.2.2.2.2.2.2.1 y.2.1.1.2.2.2.2.2.2.2.1 y.2.1.1.2.2.2.2.2.2.2.2.1 y.2.1.2.1.1 y.2.1.2.1.2.1 y.2.1.2.1.2.2.1) k ((a7,(av,())),(((ac,(ae,(af,(ah,(ai,(aj,(ak,(am,(aq,()))))))))),((ar,(a8,(aa,()))),())),()))
def yRY(n:Nat)(l:List (Q2))(tick:Int):Option ((Q1)×Int×Unit):=
  ((yGZ l).bind λ v0=>((y17 [v0.2.2.1,(z0D tick (0:Int) (999999999:Int)).1]).bind λ v1=>(bif v1.1 != 0 then some (((0:Int),((0:Int),(0:Int),()),(0:Int),(0:Int),(0:Int),(0:Int),[],(0:Int),[],[],[],()),v1.1,())else (y7Z n n (tick) ((0:Int)) ((0:Int)) ((0:Int)) ((0:Int)) ((0:Int)) ((0:Int)) ((0:Int)) ((0:Int)) ([]) ((0:Int)) (v0.1.1) (v0.1.2.1) (v0.1.2.2.1)))))
def y9Q(a7 ac ae af ah ai aj ak:Int)(am:List UInt8)(aq:Int)(ar a8:List (Q2))(aa:List (Q1))(av:Int)(v3:Q2):Option (((Q1)×Int×Unit)⊕Unit):=
  ((idx v3.2.2.2.1 (0:Int)).bind λ v4=>(bif decide (v4<=a7)then (some (Sum.inr ()))else ((idx aa av).bind λ v9=>(some (Sum.inl ((v9,(0:Int),())))))))
def yBR(a7 ac ae af ah ai aj ak:Int)(am:List UInt8)(aq:Int)(ar a8:List (Q2))(aa:List (Q1)):Option ((Q1)×Int×Unit):=
  ((idx aa (↑a8.length:Int)).bind λ v10=>(some ((v10,(0:Int),()))))
theorem yD0(n:Nat)(hn:big<=n)(a7 ac ae af ah ai aj ak:Int)(am:List UInt8)(aq:Int)(ar a8:List (Q2))(aa:List (Q1))(hx:List.length (a8) < yD):LeF some (ya (λ ay aA az=>y9Q a7 ac ae af ah ai aj ak am aq ar a8 aa ay aA) (λ az=>yBR a7 ac ae af ah ai aj ak am aq ar a8 aa) 0 (a8) ()) (y7Z n n a7 0 ac ae af ah ai aj ak am aq ar a8 aa):=by
  refine yIo (f:=some) (W:=λ aB ay az=>y7Z n aB a7 ay ac ae af ah ai aj ak am aq ar a8 aa) (body:=(λ ay aA az=>y9Q a7 ac ae af ah ai aj ak am aq ar a8 aa ay aA)) (fin:=(λ az=>yBR a7 ac ae af ah ai aj ak am aq ar a8 aa)) (λ aB ay az hi__=>?_) hx () n (by unfold big at hn;unfold yD at hx;omega)
  show LeF _ _ (yEI n (y7Z n aB) a7 ay ac ae af ah ai aj ak am aq ar a8 aa)
  rcases hi__ with hi__|hi__
  · exact yMR (decide_eq_true hi__) (yH λ v3=>(yH λ v4=>(y8 (yA rfl) (yH λ v9=>(yA rfl)))))
  · subst hi__;exact yNO (by simp) (y1c (yH λ v10=>(yA rfl)))
def yNc(l:List (Q2))(tick:Int):Option ((Q1)×Int×Unit):=
  ((yGZ l).bind λ v0=>((y17 [v0.2.2.1,(z0D tick (0:Int) (999999999:Int)).1]).bind λ v1=>(bif v1.1 != 0 then (some ((((0:Int),((0:Int),(0:Int),()),(0:Int),(0:Int),(0:Int),(0:Int),[],(0:Int),[],[],[],()),v1.1,())))else (bif decide (List.length (v0.1.2.1) < yD)then ya (λ ay aA az=>y9Q (tick) ((0:Int)) ((0:Int)) ((0:Int)) ((0:Int)) ((0:Int)) ((0:Int)) ((0:Int)) ([]) ((0:Int)) (v0.1.1) (v0.1.2.1) (v0.1.2.2.1) ay aA) (λ az=>yBR (tick) ((0:Int)) ((0:Int)) ((0:Int)) ((0:Int)) ((0:Int)) ((0:Int)) ((0:Int)) ([]) ((0:Int)) (v0.1.1) (v0.1.2.1) (v0.1.2.2.1)) 0 (v0.1.2.1) ()else none))))
abbrev z0X_e:Entry:={ f:=33,args:=.pair t22 (.pair t3 .unit),rS:=.pair t60 (.pair t29 .unit),m:=λ x=>yNc x.1 x.2.1 }
theorem yOr:FnOK Tryz.prog z0X_e:=fB Tryz.f33 (λ n x=>yRY n x.1 x.2.1) [[1,4,6,10]] (yE yMH (yE yCI (yE y6j eNil))) λ n hn x=>(yH λ v0=>(yH λ v1=>(y8 (yA rfl) (yy λ hx=>by apply yD0 n hn;exact hx))))
def yJw(n:Nat)(r0:List UInt8->Int->List (Q2)->Option (List (Q2)×Int×Int×Unit))(aw:List UInt8)(au:Int)(ax:List (Q2)):Option (List (Q2)×Int×Int×Unit):=
  (bif decide (au < (↑aw.length:Int))then (bif decide ((0:Int)<=au) && decide (au<=(↑aw.length:Int))then ((cutM (List.drop au.toNat aw) [(10:UInt8)]).bind λ v1=>(bif !v1.2.2.1 then some (ax,au,(29:Int),())else ((yPl v1.1 (↑ax.length:Int)).bind λ v2=>(bif v2.2.1 != 0 then some (ax,au,v2.2.1,())else (bif decide (ax.length+(1:Nat)<=memMax)then r0 aw (IntKind.i64.wrap (au+IntKind.i64.wrap ((↑v1.1.length:Int)+1))) (ax++[v2.1])else none)))))else none)else some (ax,au,(0:Int),()))
def yKK(n k:Nat)(aw:List UInt8)(au:Int)(ax:List (Q2)):Option (List (Q2)×Int×Int×Unit):=
  iter (λ r y=>yJw n (λ aw au ax=>r ((aw,(au,())),((ax,()),()))) y.1.1 y.1.2.1 y.2.1.1) k ((aw,(au,())),((ax,()),()))
def yOh(n:Nat)(log:List UInt8):Option (List (Q2)×Int×Int×Unit):=
  (bif decide ((↑log.length:Int) > 1000000)then some ([],(0:Int),(27:Int),())else (yKK n n (log) ((0:Int)) ([])))
def yRa(log:List UInt8):Option (List (Q2)×Int×Int×Unit):=yOh 1000 log
abbrev z02_e:Entry:={ f:=36,args:=.pair t9 .unit,rS:=.pair t22 (.pair t3 (.pair t29 .unit)),m:=λ x=>yRa x.1 }
theorem yOo:FnOK Tryz.prog z02_e:=fF (mu:=[5]) 1000 Tryz.f36 (λ n x=>yOh n x.1) [[0,5,6]] (yE yMJ (yE yQ3 eNil))
end
end Go.Tw
end
section
set_option maxRecDepth 1000000
namespace Go.Tw
open Go.Vx Go.Vx.B Go.Proofs
noncomputable section
def il62:Inl:={ f:=62,fn:=Tryz.f62,keep:=[[2,5,14,15,16]],mU:=[12,30,35],fz:=[12,30,35],rc:=true,on:=[12,30] }
theorem yOC:yo Tryz.prog il62:=⟨by kernel_rfl,by kernel_rfl,λ e0 h=>by cases (show (none:Option LibK)=some e0 from h)⟩
end
end Go.Tw
end
section
set_option maxRecDepth 1000000
namespace Go.Tw
open Go.Vx Go.Vx.B Go.Proofs
noncomputable section
end
end Go.Tw
end
