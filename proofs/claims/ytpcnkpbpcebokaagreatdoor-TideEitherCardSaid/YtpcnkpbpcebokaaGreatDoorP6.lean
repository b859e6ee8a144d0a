import Derived.Test.YtpcnkpbpcebokaaGreatDoorPC
set_option linter.all false
set_option maxRecDepth 100000
namespace Go.Tw
open Go.Vx Go.Vx.B Go.Proofs
theorem yFZ{α β:Type}(q:α->Bool)(y:β):∀ l:List α,l.findSome? (λ z=>if q z then none else some y)=if l.all q then none else some y
 |[]=>rfl
 |z::l=>by
  rw[List.findSome?_cons,List.all_cons];cases h:q z with
  |true=>simpa[h]using yFZ q y l
  |false=>simp[h]
theorem yJC{α β:Type}{body:Int->α->Unit->Option (β⊕Unit)}{fin:Unit->Option β}(q:α->Bool)(y:β)(l:List α)(i:Int)
  (h:∀ i e,e∈l->body i e ()=some (if q e then .inr ()else .inl y)):yJ body fin i l ()=if l.all q then fin ()else some y:=by
 rw[y1d (λ z=>if q z then none else some y) l i λ i e he=>by rw[h i e he];cases q e<;>rfl]
 rw[yFZ];cases l.all q<;>rfl
def yNg(m:Int)(z:Gau):Bool:=decide ((z.1.natAbs:Int)<=m/\(z.2.1.natAbs:Int)<=m)
end Go.Tw
