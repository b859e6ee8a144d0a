import Derived.Test.YtpcnkpbpcebokaaGreatDoorPE7
import Derived.Test.YtpcnkpbpcebokaaGreatDoorPK
import Derived.Test.YtpcnkpbpcebokaaGreatDoorBEi
import Derived.Test.YtpcnkpbpcebokaaGreatDoorVD
set_option linter.all false
set_option maxRecDepth 100000
namespace Go.Tw
open Go.Vx Go.Vx.B Go.Proofs
theorem yUB{n:Int}(h:(Lit.int .i8 n).wf=true):-128<=n/\n<=127:=by
 have h1:IntKind.i8.min=-128:=by decide
 have h2:IntKind.i8.max=127:=by decide
 simp only[Lit.wf,h1,h2,Bool.and_eq_true,decide_eq_true_eq]at h;exact h
theorem yGD(y:Gau)(t:Int):∀ (c:List Gau) (v:List (Int->Gau)),lc (c.map λ z=>mulX z y) v t=mulX (lc c v t) y
 |[],v=>by
  show lc [] v t=mulX (lc [] v t) y
  have:lc [] v t=G0:=rfl;rw[this];exact yA (by simp[mulX,G0]) (by simp[mulX,G0])
 |z::c,[]=>by
  rw[y9Z,y9Z];exact yA (by simp[mulX,G0]) (by simp[mulX,G0])
 |z::c,f::v=>by
  show addX (mulX (mulX z y) (f t)) (lc (c.map λ z=>mulX z y) v t)=mulX (addX (mulX z (f t)) (lc c v t)) y
  rw[yGD y t c v];exact yA (by simp only[addX,mulX];grind) (by simp only[addX,mulX];grind)
end Go.Tw
