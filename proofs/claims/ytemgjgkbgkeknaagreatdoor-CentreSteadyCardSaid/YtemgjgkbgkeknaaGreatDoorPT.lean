import Derived.Test.YtemgjgkbgkeknaaGreatDoorPS
import Derived.Test.YtemgjgkbgkeknaaGreatDoorBE
import Derived.Test.YtemgjgkbgkeknaaGreatDoorB12
set_option linter.all false
open List (length_nil)
open Option (bind_some some_or)
open Nat (le_refl)
section
set_option maxRecDepth 100000
namespace Go.Tw
open Go.Vx Go.Vx.B Go.Proofs
theorem yFi(c:List Ev)(r:Rg):(sts r c).getLast?=some (finR r c):=by
 rw[List.getLast?_eq_getElem?,y3R,Nat.add_sub_cancel,yF2 c r c.length (le_refl _),List.take_length]
theorem yJ6(c:List Ev)(r:Rg):idx (sts r c) (c.length:Int)=some (finR r c):=by
 rw[y00,yF2 c r c.length (le_refl _),List.take_length]
theorem yG5(p:List Ev)(x:Ev)(r:Rg):(sts r (p++[x])).take (p.length+1)=sts r p:=by
 rw[yBE,List.take_append_of_le_length (by rw[y3R];exact le_refl _),<- y3R p r,List.take_length]
theorem ownE(e:Ev)(d:Kd)(h:EvOk e d):yGD e=some (e,()):=by
 unfold yGD yNF;have h1:e.2.2.1.length<=memMax:=by rw[h.nn];exact nmem _ (by cases d<;>decide)
 have h2:e.2.2.2.1.length<=memMax:=by rw[h.nv];exact nmem _ (by cases d<;>decide)
 rw[bifT (y4 h1),bifT (y4 h2)];rfl
abbrev hZ:List Ev×List Ev×List Rg×Unit:=([],[],[],())
theorem y6N{x:Str}:(x == ([117,110,100,111]:List UInt8))=decide (x=Kd.undo.str):=yz x _
theorem yS9(l:List Ev)(i:Nat)(hi:i<=1000)(ev c:List Ev)(hev:ev.length=i)(hc:c.length<=i)(ho:okC rFirst c)(e:Ev)(hs:∀ s∈e.2.2.1,s.length < yB) :
  yD8 l (i:Int) e ev c (sts rFirst c)=some (if (yn i c e).1≠0 then .inl (hZ,(i:Int)+1,(yn i c e).1,())else .inr (ev++[e],(yn i c e).2,sts rFirst (yn i c e).2)):=by
 unfold yD8;have w1:IntKind.i64.wrap ((i:Int)+1)=(i:Int)+1:=y3K (by omega) (by omega)
 rw[show zo_M (e.fst,e.snd.fst,e.snd.snd.fst,e.snd.snd.snd.fst,e.snd.snd.snd.snd.fst,())=some (ckE e,())from yQ9 e hs,hev,w1]
 simp only[bind_some];unfold yn;by_cases h1:ckE e=0
 ·obtain ⟨d,hd⟩:=yFc h1;rw[if_neg (show ¬ ckE e≠0 from λ h=>h h1),bifT (show (ckE e == 0)=true from beq_iff_eq.2 h1)]
  rw[show yGD (e.fst,e.snd.fst,e.snd.snd.fst,e.snd.snd.snd.fst,e.snd.snd.snd.snd.fst,())=some (e,())from ownE e d hd]
  simp only[bind_some];by_cases h2:e.1=(i:Int)+1
  ·rw[if_neg (show ¬ e.1≠(i:Int)+1 from λ h=>h h2),bifF (show (e.1 != (i:Int)+1)=false by simp[h2]),y6N]
   by_cases h3:e.2.1=Kd.undo.str
   ·rw[if_pos h3,bifT (y4 h3)];rcases List.eq_nil_or_concat c with rfl|⟨p,x,rfl⟩
    ·rw[bifF (y5 (show ¬ (([]:List Ev).length:Int) > 0 by decide))]
     simp only[y5Y,y0l,bind_some];rfl
    ·simp only[List.concat_eq_append]at hc ho ⊢;have hl:(p++[x]).length=p.length+1:=by simp
     rw[hl]at hc;rw[bifT (y4 (show ((p++[x]).length:Int) > 0 by omega))]
     have w2:IntKind.i64.wrap (((p++[x]).length:Int) - 1)=(p.length:Int):=by rw[y3K (by omega) (by omega)];omega
     have w3:(if (p.length:Int) > 0 then (p.length:Int)else 0)=(p.length:Int):=by split<;>omega
     rw[w2];simp only[if_true];rw[w3];rw[show idx (p++[x]) (p.length:Int)=some x from yEA p x [] _ rfl,show (p++[x])[((p.length:Int)).toNat]?=some x by simp]
     simp only[bind_some,y5Y,y0l,List.getLast?_append,List.getLast?_singleton,some_or,List.dropLast_concat];rw[show (((p++[x]).length:Int) == 0)=false from by rw[beq_eq_false_iff_ne];omega]
     by_cases h4:x.2.1=Kd.command.str
     ·rw[if_pos h4,show (x.2.1 == ([99,111,109,109,97,110,100]:List UInt8))=true from beq_iff_eq.2 h4]
      rfl
     ·rw[if_neg h4,show (x.2.1 == ([99,111,109,109,97,110,100]:List UInt8))=false from by rw[yz];exact y5 h4]
      rw[show decide (0<=(p.length:Int))=true from y4 (by omega),show decide ((p.length:Int)<=((p++[x]).length:Int))=true from y4 (by omega),
       show decide (0<=((p++[x]).length:Int))=true from y4 (by omega),show decide (((p++[x]).length:Int)<=((sts rFirst (p++[x])).length:Int))=true from y4 (by rw[y3R];omega),
       show decide (i+1<=memMax)=true from y4 (y7C _ hi)]
      rw[show (((p++[x]).length:Int)).toNat=p.length+1 by omega,yG5,show (p.length:Int).toNat=p.length by omega,show (p++[x]).take p.length=p by simp]
      rfl
   ·rw[if_neg h3,bifF (y5 h3),yFi];have hinv:=yDT c rFirst yCL ho;have hdu:d≠.undo:=λ h=>h3 (by rw[hd.kind,h])
    simp only[bind_some];rw[caft _ e d hd hdu hinv];simp only[bind_some];by_cases h4:(aft (finR rFirst c) e).1=0
    ·rw[if_neg (show ¬ (aft (finR rFirst c) e).1≠0 from λ h=>h h4),h4,if_pos rfl]
     rw[show decide (c.length+1<=memMax)=true from y4 (y7C _ (by omega)),show decide ((sts rFirst c).length+1<=memMax)=true from y4 (by rw[y3R];unfold memMax;omega),show decide (i+1<=memMax)=true from y4 (y7C _ hi)]
     show some (Sum.inr (ev++[e],c++[e],sts rFirst c++[(aft (finR rFirst c) e).2]))=some (Sum.inr (ev++[e],c++[e],sts rFirst (c++[e])))
     rw[yBE]
    ·rw[if_pos h4,bifT (show ((aft (finR rFirst c) e).1 != 0)=true by simp[h4]),bifT (show ((aft (finR rFirst c) e).1 != 0)=true by simp[h4])]
     simp only[if_pos h4]
  ·rw[if_pos (show e.1≠(i:Int)+1 from h2),bifT (show (e.1 != (i:Int)+1)=true by simp[h2])]
   rfl
 ·rw[if_pos (show ckE e≠0 from h1),bifF (show (ckE e == 0)=false by simp[h1]),bifT (show (ckE e != 0)=true by simp[h1])]
  simp only[if_pos (show ckE e≠0 from h1)]
theorem yRa(l:List Ev)(i:Nat)(hi:i<=1000)(c:List Ev)(hc:c.length<=i)(ho:okC rFirst c)(e:Ev)(hl:l[i]?=some e) :
  yBd l 0 0 0 0 0 0 0 [] 0 (i:Int) e c (sts rFirst c)=some (if (yn i c e).1≠0 then .inl ([],yAg,(i:Int)+1,(yn i c e).1,())else .inr ((yn i c e).2,sts rFirst (yn i c e).2)):=by
 have w1:IntKind.i64.wrap ((i:Int)+1)=(i:Int)+1:=y3K (by omega) (by omega)
 have hx:idx l (i:Int)=some e:=(y00 _ _).trans hl;have bad:∀ n:Int,n≠0->y5D l c (sts rFirst c) (i:Int) 0 0 0 0 0 0 0 [] 0 n=some (.inl ([],yAg,(i:Int)+1,n,())):=by
  intro n hn;unfold y5D y86;rw[bifF (show (n == 0)=false by simp[hn]),bifT (show (n != 0)=true by simp[hn]),w1]
 unfold yBd;rw[yOy];simp only[bind_some];unfold yn;by_cases h1:ckE e=0
 ·obtain ⟨d,hd⟩:=yFc h1;rw[if_neg (show ¬ ckE e≠0 from λ h=>h h1),bifT (show (ckE e == 0)=true from beq_iff_eq.2 h1),hx,w1]
  simp only[bind_some];by_cases h2:e.1=(i:Int)+1
  ·rw[if_neg (show ¬ e.1≠(i:Int)+1 from λ h=>h h2),bifF (show (e.1 != (i:Int)+1)=false by simp[h2])]
   unfold y52;rw[h1,bifT (show ((0:Int) == 0)=true from rfl),hx]
   simp only[bind_some];unfold y6U;rw[y6N];by_cases h3:e.2.1=Kd.undo.str
   ·rw[if_pos h3,bifT (y4 h3)];rcases List.eq_nil_or_concat c with rfl|⟨p,x,rfl⟩
    ·rw[bifT (show ((([]:List Ev).length:Int) == 0)=true from rfl),bad 12 (by decide)]
     rfl
    ·simp only[List.concat_eq_append]at hc ho bad ⊢;have hl2:(p++[x]).length=p.length+1:=by simp
     rw[hl2]at hc;have w2:IntKind.i64.wrap (((p++[x]).length:Int) - 1)=(p.length:Int):=by rw[y3K (by omega) (by omega)];omega
     rw[bifF (show (((p++[x]).length:Int) == 0)=false from by rw[beq_eq_false_iff_ne];omega),w2]
     rw[show idx (p++[x]) (p.length:Int)=some x from yEA p x [] _ rfl]
     simp only[bind_some,List.getLast?_append,List.getLast?_singleton,some_or,List.dropLast_concat];by_cases h4:x.2.1=Kd.command.str
     ·rw[if_pos h4,bifT (show (x.2.1 == ([99,111,109,109,97,110,100]:List UInt8))=true from beq_iff_eq.2 h4),bad 19 (by decide)]
      rfl
     ·rw[if_neg h4,bifF (show (x.2.1 == ([99,111,109,109,97,110,100]:List UInt8))=false from by rw[yz];exact y5 h4)]
      rw[show decide (0<=(p.length:Int))=true from y4 (by omega),show decide ((p.length:Int)<=((p++[x]).length:Int))=true from y4 (by omega),
       show decide (0<=((p++[x]).length:Int))=true from y4 (by omega),show decide (((p++[x]).length:Int)<=((sts rFirst (p++[x])).length:Int))=true from y4 (by rw[y3R];omega)]
      rw[show (((p++[x]).length:Int)).toNat=p.length+1 by omega,yG5,show (p.length:Int).toNat=p.length by omega,show (p++[x]).take p.length=p by simp]
      rfl
   ·rw[if_neg h3,bifF (y5 h3)];have hinv:=yDT c rFirst yCL ho;have hdu:d≠.undo:=λ h=>h3 (by rw[hd.kind,h])
    unfold y5D;rw[bifT (show ((0:Int) == 0)=true from rfl),yJ6,hx]
    simp only[bind_some];obtain ⟨x,hx1,hx2⟩:=raft _ e d hd hdu hinv;rw[hx1];simp only[bind_some];unfold y86;by_cases h4:(aft (finR rFirst c) e).1=0
    ·rw[if_neg (show ¬ (aft (finR rFirst c) e).1≠0 from λ h=>h h4),h4,hx]
     rw[show decide (0+c.length<=memMax)=true from y4 (by rw[Nat.zero_add];exact nmem _ (by omega)),show decide (c.length+1<=memMax)=true from y4 (y7C _ (by omega)),show decide (0+(sts rFirst c).length<=memMax)=true from y4 (by rw[y3R];unfold memMax;omega),show decide ((sts rFirst c).length+1<=memMax)=true from y4 (by rw[y3R];unfold memMax;omega)]
     rw[hx2 h4];show some (Sum.inr (c++[e],sts rFirst c++[(aft (finR rFirst c) e).2]))=some (Sum.inr (c++[e],sts rFirst (c++[e])))
     rw[yBE]
    ·rw[if_pos h4,bifT (show ((aft (finR rFirst c) e).1 != 0)=true by simp[h4]),w1]
     simp only[if_pos h4]
  ·rw[if_pos (show e.1≠(i:Int)+1 from h2),bifT (show (e.1 != (i:Int)+1)=true by simp[h2])]
   unfold y52 y6U;rw[bifF (show ((11:Int) == 0)=false from rfl)]
   simp only[cond_false];rw[bad 11 (by decide)]
   rfl
 ·rw[if_pos (show ckE e≠0 from h1),bifF (show (ckE e == 0)=false by simp[h1])]
  unfold y52 y6U;rw[bifF (show (ckE e == 0)=false by simp[h1])]
  simp only[cond_false];rw[bad _ h1];simp only[if_pos (show ckE e≠0 from h1)]
def repC(l:List Ev)(q:Int×Int×List Ev):(List Ev×List Ev×List Rg×Unit)×Int×Int×Unit:=
 if q.1=0 then ((l,q.2.2,sts rFirst q.2.2,()),0,0,())else (hZ,q.2.1,q.1,())
def repR(q:Int×Int×List Ev):List Ev×Rg×Int×Int×Unit:=
 if q.1=0 then (q.2.2,finR rFirst q.2.2,0,0,())else ([],yAg,q.2.1,q.1,())
def y2o(l:List Ev):Prop:=∀ e∈l,∀ s∈e.2.2.1,s.length < yB
theorem yCu(l:List Ev)(hn:l.length<=1000)(hs:y2o l):∀ (r done:List Ev) (c:List Ev),l=done++r->c.length<=done.length->okC rFirst c ->
  yR (λ i__ e__ (s__:List Ev×List Ev×List Rg)=>yD8 l i__ e__ s__.1 s__.2.1 s__.2.2) (λ s__=>yIi l s__.1 s__.2.1 s__.2.2) (done.length:Int) r (done,c,sts rFirst c)=some (repC l (runC r done.length c))
 |[],done,c,hl,_,_=>by
  rw[List.append_nil]at hl;subst hl;rfl
 |e::r,done,c,hl,hc,ho=>by
  have hlen:l.length=done.length+(r.length+1):=by rw[hl];simp
  have he:e∈l:=by rw[hl];simp
  rw[yZ,yS9 l done.length (by omega) done c rfl hc ho e (hs e he)]
  unfold runC;by_cases h1:(yn done.length c e).1=0
  ·have q:=yDt ho h1;rw[if_neg (show ¬ (yn done.length c e).1≠0 from λ h=>h h1),if_neg (show ¬ (yn done.length c e).1≠0 from λ h=>h h1)]
   simp only[bind_some];have:=yCu l hn hs r (done++[e]) (yn done.length c e).2 (by rw[hl];simp) (by have:=q.2;simp;omega) q.1
   simp only[List.length_append,List.length_cons,length_nil]at this;exact this
  ·rw[if_pos h1,if_pos h1];unfold repC;simp only[bind_some];rw[if_neg h1]
theorem crep(l:List Ev)(hs:y2o l):yCU l=some (repC l (rep l)):=by
 unfold yCU rep;by_cases h:1000 < l.length
 ·rw[if_pos h,bifT (y4 (show (l.length:Int) > 1000 by omega))]
  rfl
 ·rw[if_neg h,bifF (y5 (show ¬ (l.length:Int) > 1000 by omega)),bifT (y4 (show l.length < yB by unfold yB;omega))]
  exact yCu l (by omega) hs l [] [] rfl (le_refl _) trivial
theorem yCA(l:List Ev)(hn:l.length<=1000):∀ (r done:List Ev) (c:List Ev),l=done++r->c.length<=done.length->okC rFirst c ->
  yR (λ i__ e__ (s__:List Ev×List Rg)=>yBd l 0 0 0 0 0 0 0 [] 0 i__ e__ s__.1 s__.2) (λ s__=>yFJ l 0 0 0 0 0 0 0 [] 0 s__.1 s__.2) (done.length:Int) r (c,sts rFirst c)=some (repR (runC r done.length c))
 |[],done,c,hl,_,_=>by
  rw[y1A];unfold yFJ;rw[yJ6];rfl
 |e::r,done,c,hl,hc,ho=>by
  have hlen:l.length=done.length+(r.length+1):=by rw[hl];simp
  rw[yZ,yRa l done.length (by omega) c hc ho e (by rw[hl];simp)]
  unfold runC;by_cases h1:(yn done.length c e).1=0
  ·have q:=yDt ho h1;rw[if_neg (show ¬ (yn done.length c e).1≠0 from λ h=>h h1),if_neg (show ¬ (yn done.length c e).1≠0 from λ h=>h h1)]
   simp only[bind_some];have:=yCA l hn r (done++[e]) (yn done.length c e).2 (by rw[hl];simp) (by have:=q.2;simp;omega) q.1
   simp only[List.length_append,List.length_cons,length_nil]at this;exact this
  ·rw[if_pos h1,if_pos h1];unfold repR;simp only[bind_some];rw[if_neg h1]
theorem rrep(l:List Ev):yLM l=some (repR (rep l)):=by
 unfold yLM rep;by_cases h:1000 < l.length
 ·rw[if_pos h,bifT (y4 (show (l.length:Int) > 1000 by omega))]
  rfl
 ·rw[if_neg h,bifF (y5 (show ¬ (l.length:Int) > 1000 by omega)),bifT (y4 (show l.length < yB by unfold yB;omega))]
  exact yCA l (by omega) l [] [] rfl (le_refl _) trivial
end Go.Tw
end
section
set_option maxRecDepth 1000000
namespace Go.Tw
open Go.Vx Go.Vx.B Go.Proofs
structure Sho (e:Ev):Prop where
 kind:e.2.1.length<=40
 names:e.2.2.1.length<=6
 vals:e.2.2.2.1.length<=8
 text:e.2.2.2.2.1.length<=200
 name:∀ s∈e.2.2.1,s.length<=40
theorem yIt{l:List Ev}(h:∀ e∈l,Sho e):y2o l:=λ e he s hs=>by have:=(h e he).name s hs;unfold yB;omega
theorem yMC(l:List Ev)(n:Nat)(hn:n<=1000):∃ b,zr_M l (n:Int)=some (b,())/\(b=true->l.length<=n/\∀ e∈l,Sho e):=by
 unfold zr_M;by_cases h:n < l.length
 ·rw[bifT (y4 (show (l.length:Int) > (n:Int) by omega))]
  exact ⟨false,rfl,λ h=>by cases h⟩
 rw[bifF (y5 (show ¬ (l.length:Int) > (n:Int) by omega)),bifT (y4 (show l.length < yB by unfold yB;omega))]
 have body:∀ (i:Nat) e,l[i]?=some e->yHP l (i:Int) e=some (.inl (false,()))\/(yHP l (i:Int) e=some (.inr ())/\Sho e):=by
  intro i e hi;have hx:idx l (i:Int)=some e:=(y00 _ _).trans hi;unfold yHP;rw[hx];simp only[bind_some];by_cases h1:e.2.1.length<=40
  ·rw[bifF (y5 (show ¬ (e.2.1.length:Int) > 40 by omega))]
   by_cases h2:e.2.2.1.length<=6
   ·rw[bifF (y5 (show ¬ (e.2.2.1.length:Int) > 6 by omega))]
    by_cases h3:e.2.2.2.1.length<=8
    ·rw[bifF (y5 (show ¬ (e.2.2.2.1.length:Int) > 8 by omega))]
     by_cases h4:e.2.2.2.2.1.length<=200
     ·rw[bifF (y5 (show ¬ (e.2.2.2.2.1.length:Int) > 200 by omega)),bifT (y4 (show (e.2.2.1.length:Int)<=9223372036854775807 by omega))]
      rw[y33 (λ _ s _=>some (match (if 40 < s.length then some (Sum.inl (false,()))else none:Option ((Bool×Unit)⊕Unit))with|some y=>.inl y|none=>.inr ())) e.2.2.1 (λ k s u hk=>by
       unfold yF9;rw[hx];simp only[bind_some];rw[y00,hk];simp only[bind_some];by_cases h5:40 < s.length
       ·rw[bifT (y4 (show (s.length:Int) > 40 by omega))];simp[h5]
       ·rw[bifF (y5 (show ¬ (s.length:Int) > 40 by omega))];simp[h5]) _ (by omega)]
      rw[y2O (λ s:Str=>if 40 < s.length then some (Sum.inl (false,()))else none) e.2.2.1 0 (λ k s hs=>by by_cases h5:40 < s.length<;>simp[h5])]
      by_cases h6:∀ s∈e.2.2.1,s.length<=40
      ·right
       have:e.2.2.1.findSome? (λ s:Str=>if 40 < s.length then (some (Sum.inl (false,())):Option ((Bool×Unit)⊕Unit))else none)=none:=List.findSome?_eq_none_iff.2 λ s hs=>by
        rw[if_neg (by have:=h6 s hs;omega)]
       rw[this];exact ⟨rfl,h1,h2,h3,h4,h6⟩
      ·left
       have q:∀ m:List Str,(¬ ∀ s∈m,s.length<=40)->m.findSome? (λ s:Str=>if 40 < s.length then (some (Sum.inl (false,())):Option ((Bool×Unit)⊕Unit))else none)=some (.inl (false,())):=by
        intro m;induction m with
        |nil=>intro h;exact absurd (λ s hs=>by cases hs) h
        |cons x m ih =>
         intro h;rw[List.findSome?_cons];by_cases h7:40 < x.length
         ·rw[if_pos h7]
         ·rw[if_neg h7];exact ih λ h8=>h λ s hs=>by
           rcases List.mem_cons.1 hs with rfl|hs
           ·omega
           ·exact h8 s hs
       rw[q _ h6]
     ·left;rw[bifT (y4 (show (e.2.2.2.2.1.length:Int) > 200 by omega))]
    ·left;rw[bifT (y4 (show (e.2.2.2.1.length:Int) > 8 by omega))]
   ·left;rw[bifT (y4 (show (e.2.2.1.length:Int) > 6 by omega))]
  ·left;rw[bifT (y4 (show (e.2.1.length:Int) > 40 by omega))]
 have go:∀ (r done:List Ev),l=done++r->∃ b,yR (λ i__ e__ (s__:Unit)=>yHP l i__ e__) (λ s__=>yOd l) (done.length:Int) r ()=some (b,())/\(b=true->∀ e∈r,Sho e):=by
  intro r;induction r with
  |nil=>intro done _;exact ⟨true,rfl,λ _ e he=>by cases he⟩
  |cons e r ih =>
   intro done hd;rw[yZ];rcases body done.length e (by rw[hd];simp)with h1|⟨h1,h2⟩
   ·rw[h1];exact ⟨false,rfl,λ h=>by cases h⟩
   ·rw[h1];simp only[bind_some];obtain ⟨b,hb,hb2⟩:=ih (done++[e]) (by rw[hd];simp)
    simp only[List.length_append,List.length_cons,length_nil]at hb;refine ⟨b,hb,λ h x hx=>?_⟩
    rcases List.mem_cons.1 hx with rfl|hx
    ·exact h2
    ·exact hb2 h x hx
 obtain ⟨b,hb,hb2⟩:=go l [] rfl;exact ⟨b,hb,λ h=>⟨by omega,hb2 h⟩⟩
structure Small (r:Rg):Prop where
 g:(rGs r).length<=1000
 s:(rSs r).length<=1000
 t:(rTs r).length<=1000
def repL(q:Int×Int×List Ev):Rg×Int×Int×Unit:=if q.1=0 then (finR rFirst q.2.2,0,0,())else (yAg,q.2.1,q.1,())
theorem yOW(l:List Ev)(hs:y2o l):yLu l=some (repL (rep l)):=by
 unfold yLu yOQ;rw[crep l hs];unfold repC repL;by_cases h:(rep l).1=0
 ·rw[if_pos h,if_pos h];simp only[bind_some];rw[bifF (show ((0:Int) != 0)=false from rfl),yFi]
  rfl
 ·rw[if_neg h,if_neg h];simp only[bind_some];rw[bifT (show ((rep l).1 != 0)=true by simp[h])]
theorem yO3(l:List Ev):yKa l=some (repL (rep l)):=by
 unfold yKa yOm;rw[rrep l];unfold repR repL;by_cases h:(rep l).1=0
 ·rw[if_pos h,if_pos h];rfl
 ·rw[if_neg h,if_neg h];rfl
end Go.Tw
end
