import Derived.Test.YtpcnkpbpcebokaaGreatDoorP6
import Derived.Test.YtpcnkpbpcebokaaGreatDoorBSu
import Derived.Test.YtpcnkpbpcebokaaGreatDoorPA
set_option linter.all false
set_option maxRecDepth 100000
namespace Go.Tw
open Go.Vx Go.Vx.B Go.Proofs
def p2:Nat->Nat->Bool
 |0,_=>false
 |f+1,n=>if n % 2=0 then p2 f (n / 2)else n == 1
abbrev SumS:=List Con×List Gau
def yUy(c d:Con):Bool:=d.2.1 == c.2.1 && d.2.2.1 == c.2.2.1
noncomputable def addS(a:List Con)(c:Con)(y:Gau)(s:SumS):SumS:=
 match a.findIdx? (yUy c)with
 |some i=>(s.1,s.2.set i (z17 (s.2[i]?.getD y) y).1)
 |none=>(s.1++[c],s.2++[y])
noncomputable def addL(a:List Con)(d:Int):List Con->List Gau->SumS->SumS
 |c::l,z::v,s=>addL a d l v (addS a c (z0a z d).1 s)
 |_,_,s=>s
structure okS (n:Nat) (m:Int) (s:SumS):Prop where
 len:s.1.length=s.2.length
 low:n<=s.2.length
 bnd:∀ z∈s.2,y0g m z=true
end Go.Tw
