import Derived.Test.YtpcnkpbpcebokaaGreatDoorPT
set_option linter.all false
set_option maxRecDepth 100000
namespace Go.Tw
open Go.Vx Go.Vx.B Go.Proofs
structure InvP (ins:Nat->Bool) (i:Nat) (s:Int×List Gau):Prop where
 one:y3m none s.2=0
 two:∀ x∈s.2,x.2.1 < (if s.1 < 0 then (i:Int)else s.1)
 three:∀ k:Nat,k < i->(has s.2 (k:Int) || decide (0<=s.1/\s.1<=(k:Int)))=ins k
 four:s.2.length<=i
 five:s.1=-1\/0<=s.1/\s.1 < i
 six:∀ x∈s.2,x.2.1<=(i:Int)
end Go.Tw
