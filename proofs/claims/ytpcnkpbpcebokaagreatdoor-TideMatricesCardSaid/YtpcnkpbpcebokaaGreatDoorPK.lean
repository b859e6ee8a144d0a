import Derived.Test.YtpcnkpbpcebokaaGreatDoorPM4
import Derived.Test.YtpcnkpbpcebokaaGreatDoorBKe
import Derived.Test.YtpcnkpbpcebokaaGreatDoorPA
set_option linter.all false
set_option maxRecDepth 100000
namespace Go.Tw
open Go.Vx Go.Vx.B Go.Proofs
theorem yYu{r:Rec}(h:okR r)(hT:(tks r).length<=128){l:List Con}(hl:l.length<=4)(hc:∀ c∈l,y2A c):yBH r l=some (denA r l == 0,()):=by
 obtain ⟨n1,n2⟩:=y87 (tks r) l;obtain ⟨D,h1,h2,h3⟩:=yFj hT hl;unfold yBH yMh;rw[y5y h (by omega) hc]
 simp only[Option.bind_some];rw[yIP _ (by omega) (λ q hq=>by rw[n1];exact n2 q hq)]
 simp only[Option.bind_some];show some (eqV ((Ty.int IntKind.i64).pair ((Ty.int IntKind.i64).pair Ty.unit)) (detQ (norW (tks r) l)) (0,0,()),())=_
 unfold denA;rw[h1];show some ((D == 0) && (((0:Int) == 0) && true),())=some (D == 0,())
 simp
end Go.Tw
