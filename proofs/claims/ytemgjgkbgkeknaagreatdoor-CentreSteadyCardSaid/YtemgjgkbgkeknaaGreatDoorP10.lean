import Derived.Test.YtemgjgkbgkeknaaGreatDoorPT
import Derived.Test.YtemgjgkbgkeknaaGreatDoorBEvents
set_option linter.all false
set_option maxRecDepth 100000
namespace Go.Tw
open Go.Vx Go.Vx.B Go.Proofs
theorem yFh(e:Ev):∀ (l:List Ev) (i:Nat) (c:List Ev),runC (l++[e]) i c=if (runC l i c).1≠0 then runC l i c else
  if (yn (i+l.length) (runC l i c).2.2 e).1≠0 then ((yn (i+l.length) (runC l i c).2.2 e).1,((i+l.length:Nat):Int)+1,[])else (0,0,(yn (i+l.length) (runC l i c).2.2 e).2)
 |[],i,c=>rfl
 |x::l,i,c=>by
  show runC (x::(l++[e])) i c=_
  unfold runC;by_cases h:(yn i c x).1≠0
  ·rw[if_pos h,if_pos h,if_pos h]
  ·rw[if_neg h,if_neg h,yFh e l (i+1) _,show i+1+l.length=i+(x::l).length by simp;omega]
theorem yNl(l:List Ev)(e:Ev)(hl:l.length < 1000):rep (l++[e])=if (rep l).1≠0 then rep l else
  if (yn l.length (rep l).2.2 e).1≠0 then ((yn l.length (rep l).2.2 e).1,(l.length:Int)+1,[])else (0,0,(yn l.length (rep l).2.2 e).2):=by
 have e1:rep l=runC l 0 []:=by unfold rep;rw[if_neg (show ¬ 1000 < l.length by omega)]
 rw[e1];unfold rep;rw[if_neg (show ¬ 1000 < (l++[e]).length by simp;omega),yFh,Nat.zero_add]
end Go.Tw
