import Derived.Test.YtlaebedgpkiodaaGreatDoorPF1
import Derived.Test.YtlaebedgpkiodaaGreatDoorPE4
import Derived.Test.YtlaebedgpkiodaaGreatDoorPX
import Derived.Test.YtlaebedgpkiodaaGreatDoorPY
set_option linter.all false
set_option maxRecDepth 100000
set_option exponentiation.threshold 4000
namespace Go.Tw
open Go.Vx Go.Vx.B Go.Proofs Ieee
theorem n4:Num F32 1082130432 (4 * U):=⟨false,8388608,-21,by decide,by decide,by rw[yNO (n:=4) (a:=23) (b:=2) (by decide) (by decide) (by decide)];simp⟩
noncomputable def levI(r:Rec)(t:Int):Int:=sx ((r.2.2.1[(t - r.2.1).toNat]?).getD 0)
noncomputable def levF(r:Rec)(t:Int):Gau:=(levI r t,0,())
theorem yJJ{r:Rec}(h:okR r){q:Int×Nat}(hq:q∈recd r.2.2.2.1 0 r.2.2.1):levI r (r.2.1+q.1)=sx q.2:=by
 obtain ⟨h1,_,h3⟩:=yC9 h q hq;unfold levI;rw[show r.2.1+q.1 - r.2.1=q.1 by omega,h3]
 rfl
structure lowR4 (r:Rec):Prop where
 ok:okR r
 lev:∀ x∈r.2.2.1,-64<=sx x/\sx x<=64
 few:(tks r).length<=12
theorem yOU{m:Int}{z:Gau}(h:bd m z)(hm:m < 9223372036854775807):(zr z).1=conX z:=by
 unfold bd at h;unfold zr conX;simp only;rw[yw (by omega) (by omega)]
 exact yC rfl (by simp only;omega)
theorem yLE{m:Int}{z:Gau}(h:bd m z):bd m (conX z):=by unfold bd conX at *;simp only;omega
end Go.Tw
