import Derived.Test.YtemgjgkbgkeknaaGreatDoorPT
import Derived.Test.YtemgjgkbgkeknaaGreatDoorBDays
set_option linter.all false
set_option maxRecDepth 100000
open List (append_nil length_nil takeWhile_cons)
open Option (bind_some)
namespace Go.Tw
open Go.Vx Go.Vx.B Go.Proofs
def upto(c:List Ev)(t:Int):List Ev:=c.takeWhile λ e=>decide (vlE e 0<=t)
theorem yLM{e:Ev}{d:Kd}(h:EvOk e d)(hd:d≠.undo):idx e.2.2.2.1 0=some (vlE e 0):=by
 have h1:0 < e.2.2.2.1.length:=by rw[h.nv];cases d<;>first|decide|exact absurd rfl hd
 rw[show (0:Int)=((0:Nat):Int)from rfl,y03,List.getElem?_eq_getElem h1]
 simp[List.getD,List.getElem?_eq_getElem h1]
theorem later:∀ (c:List Ev) (r:Rg) (t:Int),okC r c->t < rTk r->c.filter (λ e=>decide (vlE e 0<=t))=[]
 |[],_,_,_,_=>rfl
 |e::c,r,t,h,ht=>by
  have q:=yAj h.2.1;rw[List.filter_cons,if_neg (λ h=>by have:=of_decide_eq_true h;omega)]
  exact later c _ t h.2.2 (by rw[q.2];omega)
theorem yHw(c:List Ev)(t:Int):c.take (upto c t).length=upto c t:=(List.prefix_iff_eq_take.1 (List.takeWhile_prefix _)).symm
theorem yLI{α:Type}{p:α->Bool}{x:α}:∀ {l:List α},x∈l.takeWhile p->p x=true
 |[],h=>by cases h
 |y::l,h=>by
  rw[takeWhile_cons]at h;split at h
  ·rename_i hy;rcases List.mem_cons.1 h with rfl|h
   ·exact hy
   ·exact yLI h
  ·cases h
theorem y9V(c:List Ev)(t:Int)(hc:c.length<=1000)(ho:okC rFirst c)(ev:List Ev):∀ (r done:List Ev),c=done++r->done=upto done t -> 
  yc (λ i__ e__ (s__:Unit)=>y9P t 0 0 0 0 0 0 0 [] 0 ev c (sts rFirst c) i__ e__) (λ s__=>yCG t 0 0 0 0 0 0 0 [] 0 ev c (sts rFirst c)) (done.length:Int) r ()=some (finR rFirst (done++upto r t),0,())
 |[],done,hl,hd=>by
  rw[append_nil]at hl;subst hl;rw[y1t];unfold yCG;rw[yDP,show upto [] t=[]from rfl,append_nil]
  rfl
 |e::r,done,hl,hd=>by
  have hoe:∃ d,EvOk e d/\d≠.undo:=by
   have:∀ (p:List Ev) (q:Rg),okC q (p++e::r)->∃ d,EvOk e d/\d≠.undo:=by
    intro p;induction p with
    |nil=>intro q h;exact h.1
    |cons x p ih=>intro q h;exact ih _ h.2.2
   exact this done _ (by rw[<- hl];exact ho)
  obtain ⟨d,h1,h2⟩:=hoe;rw[yg];unfold y9P;rw[yLM h1 h2];simp only[bind_some];by_cases hv:vlE e 0<=t
  ·rw[bifT (y3 hv)];simp only[bind_some];have hd2:done++[e]=upto (done++[e]) t:=by
    unfold upto at hd ⊢;rw[List.takeWhile_append_of_pos (λ x hx=>by rw[hd]at hx;exact yLI (p:=λ e:Ev=>decide (vlE e 0<=t)) hx),takeWhile_cons,if_pos (by simpa using hv)]
    rfl
   have:=y9V c t hc ho ev r (done++[e]) (by rw[hl];simp) hd2
   simp only[List.length_append,List.length_cons,length_nil]at this;unfold y9P at this;refine this.trans ?_
   rw[show upto (e::r) t=e::upto r t by unfold upto;rw[takeWhile_cons,if_pos (by simpa using hv)]]
   simp
  ·rw[bifF (y5 hv)];have:idx (sts rFirst c) (done.length:Int)=some (finR rFirst done):=by
    rw[y03,yE9 c rFirst done.length (by rw[hl];simp),hl,List.take_left]
   rw[this];simp only[bind_some];rw[show upto (e::r) t=[] by unfold upto;rw[takeWhile_cons,if_neg (by simpa using hv)],append_nil]
def asof(l:List Ev)(t:Int):Rg×Int×Unit:=
 if (rep l).1≠0 then (rZero,(rep l).1,())else if t < 0\/999999999 < t then (rZero,3,())else (finR rFirst (upto (rep l).2.2 t),0,())
theorem yQ5(l:List Ev)(hs:yF7 l)(t:Int):yNe l t=some (asof l t):=by
 unfold yNe asof;rw[crep l hs];unfold repC;by_cases h:(rep l).1=0
 ·have ok:=yGp h;rw[if_pos h,if_neg (show ¬ (rep l).1≠0 from λ g=>g h)]
  simp only[bind_some,y5s,y40];unfold ckR;by_cases h2:t < 0\/999999999 < t
  ·rw[if_pos h2,if_pos h2];rfl
  ·rw[if_neg h2,if_neg h2];rw[bifF (show (y0p 0 0 != 0)=false from rfl),bifT (y3 (show (rep l).2.2.length < yD by have:=ok.2.1;have:=ok.2.2;unfold yD;omega))]
   exact y9V _ t (by have:=ok.2.1;have:=ok.2.2;omega) ok.1 l _ [] rfl rfl
 ·rw[if_neg h,if_pos h];simp only[bind_some,y5s,y40];rw[show y0p (rep l).1 (ckR t 0 999999999)=(rep l).1 by unfold y0p;simp[h],bifT (show ((rep l).1 != 0)=true by simp[h])]
theorem y6C(c:List Ev)(t:Int):∀ (r done:List Ev) (q:Rg),c=done++r->okC (finR rFirst done) r->Inv (finR rFirst done)->okC q (upto r t)->Inv q->(upto r t≠[]->q=finR rFirst done) ->
  yc (λ i__ e__ (s__:Int×Int×Int×Int×Int×Int×Int×Str×Int×(List Gt)×List Str×(List Th))=>y9m t c 0 0 0 0 0 0 0 [] 0 i__ e__ s__.1 s__.2.1 s__.2.2.1 s__.2.2.2.1 s__.2.2.2.2.1 s__.2.2.2.2.2.1 s__.2.2.2.2.2.2.1 s__.2.2.2.2.2.2.2.1 s__.2.2.2.2.2.2.2.2.1 s__.2.2.2.2.2.2.2.2.2.1 s__.2.2.2.2.2.2.2.2.2.2.1 s__.2.2.2.2.2.2.2.2.2.2.2)
   (λ s__=>yI2 t c 0 0 0 0 0 0 0 [] 0 s__.1 s__.2.1 s__.2.2.1 s__.2.2.2.1 s__.2.2.2.2.1 s__.2.2.2.2.2.1 s__.2.2.2.2.2.2.1 s__.2.2.2.2.2.2.2.1 s__.2.2.2.2.2.2.2.2.1 s__.2.2.2.2.2.2.2.2.2.1 s__.2.2.2.2.2.2.2.2.2.2.1 s__.2.2.2.2.2.2.2.2.2.2.2)
   (done.length:Int) r (rTk q,(rRl q).1,(rRl q).2.1,rRun q,rHt q,rSea q,rBa q,rSt q,rCs q,rGs q,rSs q,rTs q)=some (finR q (upto r t),0,())
 |[],done,q,hl,_,_,_,_,_=>rfl
 |e::r,done,q,hl,ho,hi,ho2,hq,he=>by
  obtain ⟨d,h1,h2⟩:=ho.1;rw[yg];unfold y9m;rw[yLM h1 h2];simp only[bind_some];have hf:=yEW e done rFirst;by_cases hv:vlE e 0<=t
  ·have hu:upto (e::r) t=e::upto r t:=by unfold upto;rw[takeWhile_cons,if_pos (by simpa using hv)]
   have hqe:=he (by rw[hu];simp)
   rw[hu]at ho2;rw[bifT (y3 hv),show idx c (done.length:Int)=some e from by rw[hl];exact y6G done e r _ rfl]
   simp only[bind_some];obtain ⟨x,hx1,hx2⟩:=raft q e d h1 h2 hq;rw[show y8X (rTk q,((rRl q).1,(rRl q).2.1,()),rRun q,rHt q,rSea q,rBa q,rSt q,rCs q,rGs q,rSs q,rTs q,()) e=some (x,(aft q e).1,())from hx1]
   simp only[bind_some];have hx3:x=(aft q e).2:=hx2 ho2.2.1;subst hx3;have:=y6C c t r (done++[e]) (aft q e).2 (by rw[hl];simp) (by rw[hf];exact ho.2.2) (by rw[hf];exact yAQ hi ho.2.1) ho2.2.2 (yAQ hq ho2.2.1) (λ _=>by rw[hf,hqe])
   simp only[List.length_append,List.length_cons,length_nil]at this;unfold y9m at this;refine this.trans ?_
   rw[hu];rfl
  ·have hu:upto (e::r) t=[]:=by unfold upto;rw[takeWhile_cons,if_neg (by simpa using hv)]
   have q2:=yAj ho.2.1;have hur:upto r t=[]:=by
    cases r with
    |nil=>rfl
    |cons y r =>
     have q3:=yAj ho.2.2.2.1;unfold upto;rw[takeWhile_cons,if_neg (λ h=>by have:=of_decide_eq_true h;omega)]
   rw[bifF (y5 hv)];simp only[bind_some];have:=y6C c t r (done++[e]) q (by rw[hl];simp) (by rw[hf];exact ho.2.2) (by rw[hf];exact yAQ hi ho.2.1) (by rw[hur];trivial) hq (λ h=>absurd hur h)
   simp only[List.length_append,List.length_cons,length_nil]at this;unfold y9m at this;refine this.trans ?_
   rw[hu,hur]
theorem yF6(c:List Ev)(r:Rg)(t:Int)(h:okC r c):okC r (upto c t):=by
 rw[<- yHw];exact yAC _ _ _ h
theorem yQE(l:List Ev)(t:Int):yMW l t=some (asof l t):=by
 unfold yMW asof;rw[rrep l];unfold repR;by_cases h:(rep l).1=0
 ·have ok:=yGp h;rw[if_pos h,if_neg (show ¬ (rep l).1≠0 from λ g=>g h)]
  simp only[bind_some,y4N];rw[bifF (show ((0:Int) != 0)=false from rfl)]
  by_cases h2:t < 0\/999999999 < t
  ·rw[if_pos h2,bifT (y3 h2)]
  ·rw[if_neg h2,bifF (y5 h2),bifT (y3 (show (rep l).2.2.length < yD by have:=ok.2.1;have:=ok.2.2;unfold yD;omega))]
   exact y6C _ t _ [] rFirst rfl ok.1 y3g (yF6 _ _ _ ok.1) y3g (λ _=>rfl)
 ·rw[if_neg h,if_pos h];simp only[bind_some];rw[bifT (show ((rep l).1 != 0)=true by simp[h])]
theorem yFT(l:List Ev)(t:Int):Small (asof l t).1:=by
 unfold asof;by_cases h:(rep l).1=0
 ·rw[if_neg (show ¬ (rep l).1≠0 from λ g=>g h)]
  by_cases h2:t < 0\/999999999 < t
  ·rw[if_pos h2];exact y9z
  ·rw[if_neg h2];exact (yAd _ _ y3g (yF6 _ _ _ (yGp h).1)).small
 ·rw[if_pos h];exact y9z
theorem yJJ(l:List Ev)(tick:Int):zu_M l tick=some (true,()):=by
 unfold zu_M zu_m;obtain ⟨b,hb,hs⟩:=yKv l 24 (by decide)
 rw[show zq_M l 24=some (b,())from hb]
 simp only[bind_some,yG1];cases b with
 |false=>rfl
 |true =>
  have hs:=hs rfl;simp only[Bool.not_true,cond_false];rw[yQ5 l (yHz hs.2),yQE];simp only[bind_some];rw[bifT (show ((asof l tick).2.1 == (asof l tick).2.1)=true by simp)]
  have sm:=yFT l tick;rw[show yK8 _=some ((asof l tick).1,())from regE (asof l tick).1 sm.g sm.t]
  simp only[bind_some];rw[show yJW (asof l tick).1 _=some (true,())from yQZ (asof l tick).1 sm.g sm.s sm.t]
  rfl
end Go.Tw
