import Derived.Test.YtemgjgkbgkeknaaGreatDoorPT
import Derived.Test.YtemgjgkbgkeknaaGreatDoorBDays
set_option linter.all false
set_option maxRecDepth 100000
open List (append_nil takeWhile_cons)
open Option (bind_some)
namespace Go.Tw
open Go.Vx Go.Vx.B Go.Proofs
def upto(c:List Ev)(t:Int):List Ev:=c.takeWhile λ e=>decide (vlE e 0<=t)
theorem yLx{e:Ev}{d:Kd}(h:EvOk e d)(hd:d≠.undo):idx e.2.2.2.1 0=some (vlE e 0):=by
 have h1:0 < e.2.2.2.1.length:=by rw[h.nv];cases d<;>first|decide|exact absurd rfl hd
 rw[show (0:Int)=((0:Nat):Int)from rfl,y00,List.getElem?_eq_getElem h1]
 simp[List.getD,List.getElem?_eq_getElem h1]
theorem later:∀ (c:List Ev) (r:Rg) (t:Int),okC r c->t < rTk r->c.filter (λ e=>decide (vlE e 0<=t))=[]
 |[],_,_,_,_=>rfl
 |e::c,r,t,h,ht=>by
  have q:=y5E h.2.1;rw[List.filter_cons,if_neg (λ h=>by have:=of_decide_eq_true h;omega)]
  exact later c _ t h.2.2 (by rw[q.2];omega)
theorem y5i(c:List Ev)(t:Int):c.take (upto c t).length=upto c t:=(List.prefix_iff_eq_take.1 (List.takeWhile_prefix _)).symm
theorem yM4{α:Type}{p:α->Bool}{x:α}:∀ {l:List α},x∈l.takeWhile p->p x=true
 |[],h=>by cases h
 |y::l,h=>by
  rw[takeWhile_cons]at h;split at h
  ·rename_i hy;rcases List.mem_cons.1 h with rfl|h
   ·exact hy
   ·exact yM4 h
  ·cases h
theorem yA1(c:List Ev)(t:Int)(hc:c.length<=1000)(ho:okC rFirst c)(ev:List Ev):∀ (r done:List Ev),c=done++r->done=upto done t -> 
  ya (λ i__ e__ (s__:Unit)=>y9Q t 0 0 0 0 0 0 0 [] 0 ev c (sts rFirst c) i__ e__) (λ s__=>yBR t 0 0 0 0 0 0 0 [] 0 ev c (sts rFirst c)) (done.length:Int) r ()=some (finR rFirst (done++upto r t),0,())
 |[],done,hl,hd=>by
  rw[append_nil]at hl;subst hl;rw[y1v];unfold yBR;rw[yDC,show upto [] t=[]from rfl,append_nil]
  rfl
 |e::r,done,hl,hd=>by
  have hoe:∃ d,EvOk e d/\d≠.undo:=by
   have:∀ (p:List Ev) (q:Rg),okC q (p++e::r)->∃ d,EvOk e d/\d≠.undo:=by
    intro p;induction p with
    |nil=>intro q h;exact h.1
    |cons x p ih=>intro q h;exact ih _ h.2.2
   exact this done _ (by rw[<- hl];exact ho)
  obtain ⟨d,h1,h2⟩:=hoe;rw[ye];unfold y9Q;rw[yLx h1 h2];simp only[bind_some];by_cases hv:vlE e 0<=t
  ·rw[bifT (y4 hv)];simp only[bind_some];have hd2:done++[e]=upto (done++[e]) t:=by
    unfold upto at hd ⊢;rw[List.takeWhile_append_of_pos (λ x hx=>by rw[hd]at hx;exact yM4 (p:=λ e:Ev=>decide (vlE e 0<=t)) hx),takeWhile_cons,if_pos (by simpa using hv)]
    rfl
   have:=yA1 c t hc ho ev r (done++[e]) (by rw[hl];simp) hd2
   simp only[List.length_append,List.length_cons,List.length_nil]at this;unfold y9Q at this;refine this.trans ?_
   rw[show upto (e::r) t=e::upto r t by unfold upto;rw[takeWhile_cons,if_pos (by simpa using hv)]]
   simp
  ·rw[bifF (y6 hv)];have:idx (sts rFirst c) (done.length:Int)=some (finR rFirst done):=by
    rw[y00,yF9 c rFirst done.length (by rw[hl];simp),hl,List.take_left]
   rw[this];simp only[bind_some];rw[show upto (e::r) t=[] by unfold upto;rw[takeWhile_cons,if_neg (by simpa using hv)],append_nil]
def asof(l:List Ev)(t:Int):Rg×Int×Unit:=
 if (rep l).1≠0 then (y8B,(rep l).1,())else if t < 0\/999999999 < t then (y8B,3,())else (finR rFirst (upto (rep l).2.2 t),0,())
theorem yMa(l:List Ev)(hs:y6g l)(t:Int):yNc l t=some (asof l t):=by
 unfold yNc asof;rw[crep l hs];unfold repC;by_cases h:(rep l).1=0
 ·have ok:=yCq h;rw[if_pos h,if_neg (show ¬ (rep l).1≠0 from λ g=>g h)]
  simp only[bind_some,y5G,y4O];unfold ckR;by_cases h2:t < 0\/999999999 < t
  ·rw[if_pos h2,if_pos h2];rfl
  ·rw[if_neg h2,if_neg h2];rw[bifF (show (y0o 0 0 != 0)=false from rfl),bifT (y4 (show (rep l).2.2.length < yD by have:=ok.2.1;have:=ok.2.2;unfold yD;omega))]
   exact yA1 _ t (by have:=ok.2.1;have:=ok.2.2;omega) ok.1 l _ [] rfl rfl
 ·rw[if_neg h,if_pos h];simp only[bind_some,y5G,y4O];rw[show y0o (rep l).1 (ckR t 0 999999999)=(rep l).1 by unfold y0o;simp[h],bifT (show ((rep l).1 != 0)=true by simp[h])]
theorem yAJ(c:List Ev)(r:Rg)(t:Int)(h:okC r c):okC r (upto c t):=by
 rw[<- y5i];exact yAZ _ _ _ h
end Go.Tw
