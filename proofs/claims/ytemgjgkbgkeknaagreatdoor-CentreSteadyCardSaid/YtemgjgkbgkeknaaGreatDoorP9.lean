import Derived.Test.YtemgjgkbgkeknaaGreatDoorPT
import Derived.Test.YtemgjgkbgkeknaaGreatDoorBAsked
set_option linter.all false
set_option maxRecDepth 100000
open Option (bind_some)
namespace Go.Tw
open Go.Vx Go.Vx.B Go.Proofs
theorem yOi(l:List Ev)(hs:y2o l):yOR l=some (if (rep l).1=0 then (adv (finR rFirst (rep l).2.2),0,())else ([],(rep l).1,())):=by
 unfold yOR yNJ;rw[yOW l hs];unfold repL;by_cases h:(rep l).1=0
 ·rw[if_pos h,if_pos h];simp only[bind_some,advC];rfl
 ·rw[if_neg h,if_neg h];simp only[bind_some];rw[bifT (show ((rep l).1 != 0)=true by simp[h])]
end Go.Tw
