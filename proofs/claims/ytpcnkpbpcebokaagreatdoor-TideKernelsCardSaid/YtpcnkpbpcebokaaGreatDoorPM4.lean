import Derived.Test.YtpcnkpbpcebokaaGreatDoorPG2
import Derived.Test.YtpcnkpbpcebokaaGreatDoorP8
import Derived.Test.YtpcnkpbpcebokaaGreatDoorBAn
import Derived.Test.YtpcnkpbpcebokaaGreatDoorPA
set_option linter.all false
set_option maxRecDepth 100000
namespace Go.Tw
open Go.Vx Go.Vx.B Go.Proofs
noncomputable def denA(r:Rec)(l:List Con):Int:=(detQ (norW (tks r) l)).1
theorem yMX{r:Rec}(h:okR r){l:List Con}(hl:l.length<=4)(hc:∀ c∈l,y1t c):zc_M r l=some (denA r l,()):=by
 obtain ⟨n1,n2⟩:=y81 (tks r) l;unfold zc_M zc_m;rw[y9j h (by omega) hc]
 simp only[Option.bind_some];rw[yS4 (by omega) (λ q hq=>by rw[n1];exact n2 q hq)]
 rfl
end Go.Tw
