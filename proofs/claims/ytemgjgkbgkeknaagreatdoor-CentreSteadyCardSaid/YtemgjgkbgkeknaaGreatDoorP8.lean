import Derived.Test.YtemgjgkbgkeknaaGreatDoorPT
import Derived.Test.YtemgjgkbgkeknaaGreatDoorBDays
set_option linter.all false
set_option maxRecDepth 100000
namespace Go.Tw
open Go.Vx Go.Vx.B Go.Proofs
theorem yFr{e:Ev}{d:Kd}(h:EvOk e d)(hd:d≠.undo):idx e.2.2.2.1 0=some (vlE e 0):=by
 have h1:0 < e.2.2.2.1.length:=by rw[h.nv];cases d<;>first|decide|exact absurd rfl hd
 rw[show (0:Int)=((0:Nat):Int)from rfl,y00,List.getElem?_eq_getElem h1]
 simp[List.getD,List.getElem?_eq_getElem h1]
theorem later:∀ (c:List Ev) (r:Rg) (t:Int),okC r c->t < rTk r->c.filter (λ e=>decide (vlE e 0<=t))=[]
 |[],_,_,_,_=>rfl
 |e::c,r,t,h,ht=>by
  have q:=yEh h.2.1;rw[List.filter_cons,if_neg (λ h=>by have:=of_decide_eq_true h;omega)]
  exact later c _ t h.2.2 (by rw[q.2];omega)
end Go.Tw
