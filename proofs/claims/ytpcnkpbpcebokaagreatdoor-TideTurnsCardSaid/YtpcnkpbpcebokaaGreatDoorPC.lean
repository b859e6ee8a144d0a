import Derived.Test.YtpcnkpbpcebokaaGreatDoorPA
set_option linter.all false
set_option maxRecDepth 100000
namespace Go.Tw
open Go.Vx Go.Vx.B Go.Proofs
theorem yFs{α:Type}(p:List α)(x:α)(r:List α)(i:Int)(hi:i=(p.length:Int)):idx (p++x::r) i=some x:=by
  subst hi;rw[y5J];simp
theorem y5K{α β:Type}{body:Int→α→Unit→Option (β⊕Unit)}{fin:Unit→Option β}(l:List α)(h:∀ (p:List α) (x:α) (r:List α),l=p++x::r→body (p.length:Int) x ()=some (.inr ())) :
    ∀ (r p:List α) (i:Int),l=p++r→i=(p.length:Int)→yP body fin i r ()=fin ()
  | [],p,i,_,_=>rfl
  | x::r,p,i,hl,hi=>by
    rw[y2o,hi,h p x r hl];simp only[Option.bind_some];exact y5K l h r (p++[x]) _ (by rw[hl];simp) (by simp)
end Go.Tw
