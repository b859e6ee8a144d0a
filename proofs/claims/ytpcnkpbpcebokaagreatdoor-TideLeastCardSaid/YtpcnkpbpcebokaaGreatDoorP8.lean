import Derived.Test.YtpcnkpbpcebokaaGreatDoorP7
set_option linter.all false
set_option maxRecDepth 100000
namespace Go.Tw
open Go.Vx Go.Vx.B Go.Proofs
noncomputable def sumS(a b:Tid):SumS:=addL a.1 a.2.2.1 b.1 b.2.1 (a.1,a.2.1.map λ z=>(z0a z b.2.2.1).1)
noncomputable def yAg(a b:Tid):Tid×Int×Unit:=if y1Y (sumS a b).1=0 then (lowT (sumS a b).1 (sumS a b).2 (a.2.2.1 * b.2.2.1),0,())else (([],[],0,()),y1Y (sumS a b).1,())
structure SumF (a b:Tid):Prop where
 start:okS a.1.length 17179869184 (a.1,a.2.1.map λ z=>(z0a z b.2.2.1).1)
 la:a.2.1.length<=4
 lb:b.1.length<=4
 leq:b.1.length=b.2.1.length
 ok:okS a.1.length (17179869184+b.1.length * 17179869184) (sumS a b)
 len:(sumS a b).2.length<=8
 fit:∀ z∈(sumS a b).2,fits z
 den:∃ d:Nat,0 < d/\a.2.2.1 * b.2.2.1=(d:Int)/\IntKind.i64.wrap (a.2.2.1 * b.2.2.1)=(d:Int)
 sb:∀ z∈b.2.1,y0g 4194304 z=true
 da:0<=a.2.2.1/\a.2.2.1<=4096
section
variable {β:Type}
end
end Go.Tw
