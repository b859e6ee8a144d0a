import Derived.Test.YtpcnkpbpcebokaaGreatDoorPG2
import Derived.Test.YtpcnkpbpcebokaaGreatDoorP8
import Derived.Test.YtpcnkpbpcebokaaGreatDoorBAn
import Derived.Test.YtpcnkpbpcebokaaGreatDoorPA
set_option linter.all false
set_option maxRecDepth 100000
namespace Go.Tw
open Go.Vx Go.Vx.B Go.Proofs
noncomputable def denA(r:Rec)(l:List Con):Int:=(detQ (norW (tks r) l)).1
theorem yFh{r:Rec}(h:okR r){l:List Con}(hl:l.length<=4)(hc:∀ c∈l,y2A c):zY_M r l=some (denA r l,()):=by
 obtain ⟨n1,n2⟩:=y87 (tks r) l;unfold zY_M zY_m;rw[y9P h (by omega) hc]
 simp only[Option.bind_some];rw[ycI (by omega) (λ q hq=>by rw[n1];exact n2 q hq)]
 rfl
end Go.Tw
