import Derived.Test.YtlaebedgpkiodaaGreatDoorPN2
set_option linter.all false
set_option maxRecDepth 100000
namespace Go.Tw
open Go.Vx Go.Vx.B Go.Proofs
theorem Dep.sub{T T':List Int}{v:List (Int->Gau)}(h:Dep T v)(hs:∀ t∈T',t∈T):Dep T' v:=by
 obtain ⟨c,h1,h2,h3⟩:=h;exact ⟨c,h1,h2,λ t ht=>h3 t (hs t ht)⟩
theorem yPd(n:Int):mulX (conX (y1E n)) (y1E n)=(1,0,()):=by
 unfold y1E;split
 ·rfl
 ·split
  ·rfl
  ·split<;>rfl
theorem yOZ(c:Con):∀ T:List Int,ip T (chr c) (chr c)=((T.length:Int),0,())
 |[]=>rfl
 |t::T=>by
  show addX (mulX (conX (chr c t)) (chr c t)) (ip T (chr c) (chr c))=_
  rw[yOZ c T,show mulX (conX (chr c t)) (chr c t)=(1,0,())from yPd _]
  exact yC (by simp only[addX,List.length_cons];omega) rfl
end Go.Tw
