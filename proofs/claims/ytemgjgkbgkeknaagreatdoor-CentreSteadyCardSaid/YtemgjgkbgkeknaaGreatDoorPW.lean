import Derived.Test.YtemgjgkbgkeknaaGreatDoorPU
import Derived.Test.YtemgjgkbgkeknaaGreatDoorPV
import Derived.Test.YtemgjgkbgkeknaaGreatDoorBSteady
set_option linter.all false
open List (length_cons length_nil mem_append mem_cons_of_mem mem_cons_self mem_singleton)
open Option (bind_some)
section
set_option maxRecDepth 100000
namespace Go.Tw
open Go.Vx Go.Vx.B Go.Proofs
theorem yHv{i:Nat}{c:List Ev}{e x:Ev}(h:x∈(yn i c e).2):x∈c\/x=e:=by
 unfold yn at h;split at h
 ·exact .inl h
 split at h
 ·exact .inl h
 split at h
 ·cases hl:c.getLast? with
  |none=>rw[hl]at h;exact .inl h
  |some y =>
   rw[hl]at h;simp only at h;split at h
   ·exact .inl h
   ·exact .inl (List.dropLast_subset _ h)
 ·split at h
  ·exact .inl h
  ·rcases mem_append.1 h with h|h
   ·exact .inl h
   ·exact .inr (mem_singleton.1 h)
theorem yEz:∀ (l:List Ev) (i:Nat) (c:List Ev) (x:Ev),x∈(runC l i c).2.2->x∈c\/x∈l
 |[],i,c,x,h=>.inl h
 |e::l,i,c,x,h=>by
  unfold runC at h;split at h
  ·cases h
  ·rcases yEz l (i+1) _ x h with h|h
   ·rcases yHv h with h|h
    ·exact .inl h
    ·exact .inr (by rw[h];exact mem_cons_self)
   ·exact .inr (mem_cons_of_mem _ h)
theorem yNY{l:List Ev}{x:Ev}(h:x∈(rep l).2.2):x∈l:=by
 unfold rep at h;split at h
 ·cases h
 ·rcases yEz l 0 [] x h with h|h
  ·cases h
  ·exact h
theorem yIR:∀ (c:List Ev) (r:Rg),okC r c->∀ x∈c,∃ d,EvOk x d/\d≠.undo
 |[],_,_,x,h=>by cases h
 |e::c,r,ho,x,h=>by
  rcases List.mem_cons.1 h with rfl|h
  ·exact ho.1
  ·exact yIR c _ ho.2.2 x h
theorem yEn:∀ (c:List Ev) (r:Rg),okC r c->(∀ x∈lns r c,rTk r<=x.1/\∃ e∈c,x.1=vlE e 0)/\(lns r c).Pairwise λ x y=>x.1<=y.1
 |[],r,_=>⟨(λ x hx=>by cases hx),List.Pairwise.nil⟩
 |e::c,r,ho=>by
  have q:=yEh ho.2.1;have ih:=yEn c (aft r e).2 ho.2.2;have hl:∀ x∈lnE r e,x.1=vlE e 0:=by
   intro x hx;unfold lnE at hx;split at hx
   ·rw[mem_singleton.1 hx]
   ·cases hx
  refine ⟨λ x hx=>?_,?_⟩
  ·rcases mem_append.1 hx with hx|hx
   ·rw[hl x hx];exact ⟨q.1,e,mem_cons_self,rfl⟩
   ·obtain ⟨a1,e',a2,a3⟩:=ih.1 x hx;exact ⟨by omega,e',mem_cons_of_mem _ a2,a3⟩
  ·refine List.pairwise_append.2 ⟨?_,ih.2,λ x hx y hy=>?_⟩
   ·have:=y8E r e;match hm:lnE r e with
    |[]=>exact List.Pairwise.nil
    |[a]=>exact List.pairwise_singleton _ _
    |a::b::l=>rw[hm]at this;simp at this
   ·have:=hl x hx;have:=(ih.1 y hy).1;omega
theorem y8J:∀ (L:List Ln) (a b c d:Int),L.Pairwise (λ x y=>x.1<=y.1)->a<=b->b<=c->c<=d->L.filter (inN a d)=L.filter (inN a b)++(L.filter (inN b c)++L.filter (inN c d))
 |[],_,_,_,_,_,_,_,_=>rfl
 |x::L,a,b,c,d,h,h1,h2,h3=>by
  have hp:=List.pairwise_cons.1 h;have ih:=y8J L a b c d hp.2 h1 h2 h3;have none:∀ (u v:Int),v<=x.1->L.filter (inN u v)=[]:=λ u v hv=>List.filter_eq_nil_iff.2 λ y hy hin=>by
   have:=hp.1 y hy;have:=(of_decide_eq_true hin).2;omega
  have yes:∀ u v:Int,u<=x.1->x.1 < v->(x::L).filter (inN u v)=x::L.filter (inN u v):=λ u v p q=>by
   rw[List.filter_cons,if_pos (show inN u v x=true from decide_eq_true ⟨p,q⟩)]
  have no:∀ u v:Int,¬ (u<=x.1/\x.1 < v)->(x::L).filter (inN u v)=L.filter (inN u v):=λ u v p=>by
   rw[List.filter_cons,if_neg (show ¬ inN u v x=true from λ h=>p (of_decide_eq_true h))]
  by_cases k1:x.1 < a
  ·rw[no a d (by omega),no a b (by omega),no b c (by omega),no c d (by omega),ih]
  by_cases k2:x.1 < b
  ·rw[yes a d (by omega) (by omega),yes a b (by omega) k2,no b c (by omega),no c d (by omega),ih];rfl
  by_cases k3:x.1 < c
  ·rw[yes a d (by omega) (by omega),no a b (by omega),yes b c (by omega) k3,no c d (by omega),ih,none a b (by omega)];rfl
  by_cases k4:x.1 < d
  ·rw[yes a d (by omega) k4,no a b (by omega),no b c (by omega),yes c d (by omega) k4,ih,none a b (by omega),none b c (by omega)];rfl
  ·rw[no a d (by omega),no a b (by omega),no b c (by omega),no c d (by omega),ih]
structure Agr (q r:Rg):Prop where
 rl:rRl q=rRl r
 run:rRun q=rRun r
 ht:rHt q=rHt r
 sea:rSea q=rSea r
 ba:rBa q=rBa r
 st:rSt q=rSt r
theorem yJ5{q r:Rg}(h:Agr q r):adv q=adv r:=by
 unfold adv;rw[h.rl,h.ht,h.sea,h.ba,h.st]
theorem yO5(r:Rg)(d:Kd)(a b:Str)(v w:Int)(h1:d≠.rule)(h2:d≠.forecast)(h3:d≠.level)(h4:isDk d=false):Agr r (act r d a b v w).2:=by
 unfold act;cases d<;>first|exact absurd rfl h1|exact absurd rfl h2|exact absurd rfl h3|exact absurd h4 (by decide)|exact ⟨rfl,rfl,rfl,rfl,rfl,rfl⟩|(simp only;(repeat' split)<;>exact ⟨rfl,rfl,rfl,rfl,rfl,rfl⟩)
theorem Agr.trans'{a b c:Rg}(h:Agr a b)(k:Agr b c):Agr a c:=⟨h.rl.trans k.rl,h.run.trans k.run,h.ht.trans k.ht,h.sea.trans k.sea,h.ba.trans k.ba,h.st.trans k.st⟩
theorem yLq{q r:Rg}(h:Agr q r){e:Ev}{d:Kd}(he:EvOk e d)(ha:(aft r e).1=0)(h1:d≠.rule)(h2:d≠.override):Agr (wup q e) (aft r e).2/\(isDk d=true->nmE e 0=adv r):=by
 have hx:=yAO ha;have h0:(act r d (nmE e 0) (nmE e 1) (vlE e 1) (vlE e 2)).1=0:=by
  rw[y3j he]at hx;have:(aft r e).1=(act r d (nmE e 0) (nmE e 1) (vlE e 1) (vlE e 2)).1:=by rw[hx]
  rw[<- this];exact ha
 rw[hx,y3j he];have tk:∀ x:Rg,Agr x (setT x (vlE e 0)):=λ x=>⟨rfl,rfl,rfl,rfl,rfl,rfl⟩
 suffices hs:Agr (wup q e) (act r d (nmE e 0) (nmE e 1) (vlE e 1) (vlE e 2)).2/\(isDk d=true->nmE e 0=adv r)from ⟨hs.1.trans' (tk _),hs.2⟩
 unfold wup;rw[y3j he];cases d;case rule=>exact absurd rfl h1
 case override=>exact absurd rfl h2
 case decide =>
  unfold act at h0 ⊢;simp only at h0 ⊢;split at h0
  ·cases h0
  split at h0
  ·cases h0
  rename_i k1 k2;have k3:nmE e 0=adv r:=Decidable.not_not.1 k2;rw[if_neg k1,if_neg k2];refine ⟨?_,λ _=>k3⟩
  rw[k3,<- yJ5 h];refine ⟨h.rl,h.run,h.ht,h.sea,h.ba,?_⟩;show (if adv q=sWait then rSt q else adv q)=(if adv q=sWait then rSt r else adv q)
  rw[h.st]
 case forecast =>
  unfold act at h0 ⊢;simp only at h0 ⊢;split at h0
  ·cases h0
  split at h0
  ·cases h0
  rename_i k1 k2;have k3:¬ vlE e 1<=rRun q:=by rw[h.run];exact k2
  rw[if_neg k1,if_neg k2,if_neg k1,if_neg k3];exact ⟨⟨h.rl,rfl,rfl,h.sea,h.ba,h.st⟩,λ h=>by cases h⟩
 case level =>
  unfold act at h0 ⊢;simp only at h0 ⊢;split at h0
  ·rename_i k1;split at h0
   ·cases h0
   rename_i k2;simp only[if_pos k1,if_neg k2];exact ⟨⟨h.rl,h.run,h.ht,rfl,h.ba,h.st⟩,λ h=>by cases h⟩
  ·rename_i k1;split at h0
   ·rename_i k3;split at h0
    ·cases h0
    rename_i k2;simp only[if_neg k1,if_pos k3,if_neg k2];exact ⟨⟨h.rl,h.run,h.ht,h.sea,rfl,h.st⟩,λ h=>by cases h⟩
   ·cases h0
 all_goals
  refine ⟨h.trans' (yO5 r _ _ _ _ _ (by decide) (by decide) (by decide) rfl),λ h=>by cases h⟩
theorem yBi:∀ (c:List Ev) (q r:Rg),Agr q r->okC r c->(∀ x∈c,x.2.1≠Kd.rule.str/\x.2.1≠Kd.override.str)->wln q c=lns r c/\∀ x∈lns r c,x.2.1=x.2.2.1
 |[],q,r,_,_,_=>⟨rfl,(λ x hx=>by cases hx)⟩
 |e::c,q,r,h,ho,hn=>by
  obtain ⟨d,h1,h2⟩:=ho.1;have hne:=hn e mem_cons_self;have st:=yLq h h1 ho.2.1 (λ k=>hne.1 (by rw[h1.kind,k])) (λ k=>hne.2 (by rw[h1.kind,k]))
  have ih:=yBi c (wup q e) (aft r e).2 st.1 ho.2.2 λ x hx=>hn x (mem_cons_of_mem _ hx)
  have hl:lnE q e=lnE r e:=by unfold lnE;rw[yJ5 h]
  refine ⟨by unfold wln lns;rw[ih.1,hl],λ x hx=>?_⟩
  rcases mem_append.1 (show x∈lnE r e++lns (aft r e).2 c from hx)with hx|hx
  ·unfold lnE at hx;rw[y3j h1]at hx;split at hx
   ·rename_i k;rw[mem_singleton.1 hx];exact (st.2 k).symm
   ·cases hx
  ·exact ih.2 x hx
theorem yFW:∀ (L:List Ln) (i:Int),(∀ x∈L,x.2.1=x.2.2.1)->difF L i=[]
 |[],_,_=>rfl
 |x::L,i,h=>by
  unfold difF;rw[if_pos (h x mem_cons_self)];exact yFW L _ λ y hy=>h y (mem_cons_of_mem _ hy)
structure Calm (q:Rg):Prop where
 rl:rRl q=(0,0,())
 st:rSt q=y3f
theorem yAn{q:Rg}(h:Calm q):adv q=sWait:=by
 unfold adv;rw[if_neg (by rw[h.rl];exact λ k=>absurd k.2.1 (Int.lt_irrefl 0)),if_neg (by rw[h.st];exact λ k=>absurd k.1 (by decide))]
theorem yMH{q:Rg}(h:Calm q)(e:Ev):Calm (wup q e):=by
 unfold wup;cases kdE e;case decide =>
  refine ⟨h.rl,?_⟩;show (if adv q=sWait then rSt q else adv q)=y3f
  rw[if_pos (yAn h)];exact h.st
 case override =>
  refine ⟨h.rl,?_⟩;show (if adv q=sWait then rSt q else adv q)=y3f
  rw[if_pos (yAn h)];exact h.st
 case forecast=>unfold act;simp only;(repeat' split)<;>exact ⟨h.rl,h.st⟩
 case level=>unfold act;simp only;(repeat' split)<;>exact ⟨h.rl,h.st⟩
 all_goals exact h
def twin(x y:Ln):Prop:=x.1=y.1/\x.2.2.1=y.2.2.1
theorem yAB:∀ (c:List Ev) (q r:Rg),Calm q->(wln q c).length=(lns r c).length/\∀ (i:Nat) x,(wln q c)[i]?=some x->x.2.1=sWait/\∃ y,(lns r c)[i]?=some y/\twin x y
 |[],q,r,h=>⟨rfl,(λ i x hx=>by simp[wln]at hx)⟩
 |e::c,q,r,h=>by
  have ih:=yAB c (wup q e) (aft r e).2 (yMH h e);unfold wln lns lnE;cases hk:isDk (kdE e)with
  |false=>simpa using ih
  |true =>
   simp only[if_true,List.singleton_append,length_cons];refine ⟨by rw[ih.1],λ i x hx=>?_⟩
   cases i with
   |zero =>
    obtain rfl:=Option.some.inj hx;exact ⟨yAn h,_,rfl,rfl,rfl⟩
   |succ i=>exact ih.2 i x hx
end Go.Tw
end
section
set_option maxRecDepth 100000
namespace Go.Tw
open Go.Vx Go.Vx.B Go.Proofs
theorem yLE{l:List Ev}(h:(rep l).1=0){i:Nat}{e:Ev}(he:l[i]?=some e)(hu:e.2.1≠Kd.undo.str):∃ d,EvOk e d/\d≠.undo/\(aft (finR rFirst (rep (l.take i)).2.2) e).1=0:=by
 have st:=yFw (yFA h he).1 hu;obtain ⟨d,hd⟩:=yFc st.2.2.1;exact ⟨d,hd,λ e=>hu (by rw[hd.kind,e]),st.2.1⟩
theorem yKT{e:Ev}{d k:Kd}(h:e.2.1=k.str)(hk:k≠d):e.2.1≠d.str:=λ e2=>hk (y3M (h.symm.trans e2))
theorem yCF(l:List Ev)(hl:l.length<=24)(sh:y2o l)(h:(rep l).1=0):yEy l (y0C l 0 999999999) (wln (y57 (0,0,())) (rep l).2.2)=some (true,()):=by
 unfold yEy;rw[bifT (y4 (show l.length < yB by unfold yB;omega))]
 refine y8C l (λ i e he=>?_) rfl
 have hi:i < l.length:=(List.getElem?_eq_some_iff.1 he).1;have s78:∀ d,EvOk e d->isDk d=true->(aft (finR rFirst (rep (l.take i)).2.2) e).1=0->yCy l l (i:Int) e=some (.inr ()):=by
  intro d h1 hk ha;unfold yCy;rw[y4 (show 0<=(i:Int) by omega),y4 (show (i:Int)<=(l.length:Int) by omega),show (i:Int).toNat=i by omega]
  rw[yOi _ (λ x hx=>sh x (List.mem_of_mem_take hx)),if_pos (yAi h i),yJ3 h1 (yDg hk).1]
  simp only[Bool.and_self,cond_true,bind_some];rw[show ((0:Int) != 0)=false from rfl,show (e.snd.fst == ([100,101,99,105,100,101]:List UInt8))=decide (d=.decide)from kis h1 .decide]
  simp only[cond_false];have hx:=yAO ha;rw[y3j h1]at hx;have h0:(act (finR rFirst (rep (l.take i)).2.2) d (nmE e 0) (nmE e 1) (vlE e 1) (vlE e 2)).1=0:=by
   have:(aft (finR rFirst (rep (l.take i)).2.2) e).1=(act (finR rFirst (rep (l.take i)).2.2) d (nmE e 0) (nmE e 1) (vlE e 1) (vlE e 2)).1:=by rw[hx]
   rw[<- this];exact ha
  rw[yz];cases d;case decide =>
   unfold act at h0;simp only at h0;split at h0
   ·cases h0
   split at h0
   ·cases h0
   rename_i k1 k2;rw[y4 (show adv (finR rFirst (rep (l.take i)).2.2)=nmE e 0 from (Decidable.not_not.1 k2).symm)]
   rfl
  case override =>
   unfold act at h0;simp only at h0;split at h0
   ·cases h0
   split at h0
   ·cases h0
   rename_i k1 k2;rw[y5 (show ¬ adv (finR rFirst (rep (l.take i)).2.2)=nmE e 0 from λ k=>k2 k.symm)]
   rfl
  all_goals exact absurd hk (by decide)
 unfold yHi;by_cases k1:e.2.1=Kd.decide.str
 ·obtain ⟨d,h1,h2,ha⟩:=yLE h he (yKT k1 (by decide))
  rw[show (e.snd.fst == ([100,101,99,105,100,101]:List UInt8))=true from beq_iff_eq.2 k1]
  exact s78 d h1 (by rw[show d=.decide from y3M (h1.kind.symm.trans k1)];rfl) ha
 ·rw[show (e.snd.fst == ([100,101,99,105,100,101]:List UInt8))=false from by rw[yz];exact y5 k1]
  by_cases k2:e.2.1=Kd.override.str
  ·obtain ⟨d,h1,h2,ha⟩:=yLE h he (yKT k2 (by decide))
   rw[show (e.snd.fst == ([111,118,101,114,114,105,100,101]:List UInt8))=true from beq_iff_eq.2 k2]
   exact s78 d h1 (by rw[show d=.override from y3M (h1.kind.symm.trans k2)];rfl) ha
  ·rw[show (e.snd.fst == ([111,118,101,114,114,105,100,101]:List UInt8))=false from by rw[yz];exact y5 k2]
   rfl
theorem yEH(l:List Ev)(hl:l.length<=24)(sh:y2o l)(h:(rep l).1=0)(hall:y0C l 0 999999999=lns rFirst (rep l).2.2):yBo l (y0C l 0 999999999)=some (true,()):=by
 have ok:=y6s h;have hw0:y7F l (0,0,())=0:=by unfold y7F;rw[h];rfl
 have cl:=yAB (rep l).2.2 (y57 (0,0,())) rFirst ⟨rfl,rfl⟩;have ll:=yB0 (rep l).2.2 rFirst;unfold yBo;rw[yOv l sh (0,0,()),hw0,if_pos rfl];simp only[bind_some];rw[show ((0:Int) != 0)=false from rfl]
 simp only[cond_false];rw[bifF (show ((((wln (y57 (0,0,())) (rep l).2.2).length:Int) != ((y0C l 0 999999999).length:Int)))=false by rw[hall,cl.1];simp)]
 rw[bifT (y4 (show (wln (y57 (0,0,())) (rep l).2.2).length < yB by rw[cl.1];have:=ok.2.1;unfold yB;omega))]
 refine y8C _ (λ i x hx=>?_) (yCF l hl sh h)
 obtain ⟨h1,y,h2,h3,h4⟩:=cl.2 i x hx;unfold yK7;rw[show (x.2.1 == ([119,97,105,116]:List UInt8))=true from beq_iff_eq.2 h1,hall,show idx (lns rFirst (rep l).2.2) (i:Int)=some y from (y00 _ _).trans h2]
 simp only[Bool.not_true,cond_false,bind_some];rw[h3,h4];simp
structure Seen (l done:List Ev) (k:Int) (pl:Bool) (v w:Int):Prop where
 kk:0<=k/\k<=done.length
 pp:pl=true->(∀ e∈done,e.2.1≠Kd.override.str/\e.2.1≠Kd.undo.str)/\((k=0/\∀ e∈done,e.2.1≠Kd.rule.str)\/(k=1/\∃ e0 rest,done=e0::rest/\e0.2.1=Kd.rule.str/\(∀ e∈rest,e.2.1≠Kd.rule.str)/\v=vlE e0 1/\w=vlE e0 2))
theorem yBg(l:List Ev)(hl:l.length<=24)(sh:y2o l)(h:(rep l).1=0)(hall:y0C l 0 999999999=lns rFirst (rep l).2.2)(k:Int)(pl:Bool)(v w:Int)(hs:Seen l l k pl v w):yC6 l (y0C l 0 999999999) l k pl v w=some (true,()):=by
 have calm:=yEH l hl sh h hall;unfold yC6 yF8;cases pl with
 |false=>exact calm
 |true =>
  simp only[cond_true];by_cases hk:k=1
  ·rw[show (k == 1)=true from beq_iff_eq.2 hk]
   obtain ⟨h1,h2⟩:=hs.pp rfl;rcases h2 with ⟨h2,_⟩|⟨_,e0,rest,rfl,h3,h4,h5,h6⟩
   ·omega
   have hc:=yNQ h λ e he=>(h1 e he).2
   have ho:okC rFirst (e0::rest):=by have:=(y6s h).1;rwa[hc]at this
   obtain ⟨d,d1,d2⟩:=ho.1;have hd:d=.rule:=y3M (d1.kind.symm.trans h3);subst hd;have hx:=yAO ho.2.1;rw[y3j d1]at hx;have h0:(act rFirst .rule (nmE e0 0) (nmE e0 1) (vlE e0 1) (vlE e0 2)).1=0:=by
    have:(aft rFirst e0).1=(act rFirst .rule (nmE e0 0) (nmE e0 1) (vlE e0 1) (vlE e0 2)).1:=by rw[hx]
    rw[<- this];exact ho.2.1
   have hck:ckRl (vlE e0 1) (vlE e0 2)=0:=by
    unfold act at h0;simp only at h0;split at h0
    ·rename_i g;exact absurd h0 g
    ·rename_i g;exact Decidable.not_not.1 g
   have hr1:(aft rFirst e0).2=setT (mkR (rTk rFirst) (vlE e0 1,vlE e0 2,()) (rRun rFirst) (rHt rFirst) (rSea rFirst) (rBa rFirst) (rSt rFirst) (rCs rFirst) (rGs rFirst) (rSs rFirst) (rTs rFirst)) (vlE e0 0):=by
    rw[hx];unfold act;simp only[hck];rfl
   have hq:wup (y57 (v,w,())) e0=y57 (v,w,()):=by unfold wup;rw[y3j d1]
   have hl0:∀ q:Rg,lnE q e0=[]:=λ q=>by unfold lnE;rw[y3j d1];rfl
   have ag:=yBi rest (y57 (v,w,())) (aft rFirst e0).2 (by rw[hr1,h5,h6];exact ⟨rfl,rfl,rfl,rfl,rfl,rfl⟩) ho.2.2 λ x hx=>⟨h4 x hx,(h1 x (mem_cons_of_mem _ hx)).1⟩
   have e1:wln (y57 (v,w,())) (e0::rest)=lns (aft rFirst e0).2 rest:=by
    show lnE _ e0++wln (wup _ e0) rest=_
    rw[hl0,hq,ag.1];rfl
   have e2:lns rFirst (e0::rest)=lns (aft rFirst e0).2 rest:=by
    show lnE _ e0++lns _ rest=_
    rw[hl0];rfl
   have hw0:y7F (e0::rest) (v,w,())=0:=by
    unfold y7F;rw[h,show ckRl (v,w,()).1 (v,w,()).2.1=0 from by rw[h5,h6];exact hck]
    rfl
   have hlen:(lns (aft rFirst e0).2 rest).length<=1000:=by
    have:=yB0 rest (aft rFirst e0).2;simp only[length_cons]at hl;omega
   simp only[cond_true];rw[yRk _ sh (v,w,()),yOv _ sh (v,w,()),hw0,hall,hc,if_pos rfl,if_pos rfl,e1,e2,yFW _ 0 ag.2];simp only[bind_some];rw[yFf _ hlen];simp only[bind_some];rw[yP5 _ hlen];rw[hall,hc,e2]at calm;exact calm
  ·rw[show (k == 1)=false by simp[hk]]
   exact calm
theorem y6p(l:List Ev)(hl:l.length<=24)(sh:y2o l)(h:(rep l).1=0)(hall:y0C l 0 999999999=lns rFirst (rep l).2.2):∀ (r done:List Ev) (k:Int) (pl:Bool) (v w:Int),l=done++r->Seen l done k pl v w ->
  yR (λ i__ e__ (s__:Int×Bool×Int×Int)=>yCv l (y0C l 0 999999999) l i__ e__ s__.1 s__.2.1 s__.2.2.1 s__.2.2.2) (λ s__=>yC6 l (y0C l 0 999999999) l s__.1 s__.2.1 s__.2.2.1 s__.2.2.2) (done.length:Int) r (k,pl,v,w)=some (true,())
 |[],done,k,pl,v,w,hd,hs=>by
  rw[List.append_nil]at hd;subst hd;exact yBg l hl sh h hall k pl v w hs
 |e::r,done,k,pl,v,w,hd,hs=>by
  have hlen:l.length=done.length+(r.length+1):=by rw[hd];simp
  have he:l[done.length]?=some e:=by rw[hd];simp
  have next:∃ k' pl' v' w',yCv l (y0C l 0 999999999) l (done.length:Int) e k pl v w=some (.inr (k',pl',v',w'))/\Seen l (done++[e]) k' pl' v' w':=by
   have hk:=hs.kk;unfold yCv;by_cases k1:e.2.1=Kd.rule.str
   ·obtain ⟨d,h1,h2,ha⟩:=yLE h he (yKT k1 (by decide))
    have hd2:d=.rule:=y3M (h1.kind.symm.trans k1);subst hd2;obtain ⟨n,t,x,y,rfl⟩:=ev03 h1 rfl rfl;simp only[yJQ,cond_true,ix1,ix2,bind_some,Bool.not_false];rw[y3K (show -9223372036854775808<=k+1 by omega) (by omega)]
    have bad:∃ k' pl' v' w',some (Sum.inr (k+1,false,x,y))=(some (.inr (k',pl',v',w')):Option ((Bool×Unit)⊕(Int×Bool×Int×Int)))/\Seen l (done++[(n,Kd.rule.str,[],[t,x,y],[],())]) k' pl' v' w':=
     ⟨k+1,false,x,y,rfl,⟨by simp;omega,λ h=>by cases h⟩⟩
    cases pl with
    |false=>exact bad
    |true =>
     simp only[cond_true];by_cases hz:done.length=0
     ·have hdn:done=[]:=List.length_eq_zero_iff.1 hz;subst hdn;refine ⟨k+1,true,x,y,rfl,⟨by simp;omega,λ _=>⟨λ e he=>?_,.inr ⟨?_,_,[],rfl,rfl,(λ e he=>by cases he),rfl,rfl⟩⟩⟩⟩
      ·rw[mem_singleton.1 he];exact ⟨λ e=>absurd (y3M (show Kd.rule.str=Kd.override.str from e)) (by decide),λ e=>absurd (y3M (show Kd.rule.str=Kd.undo.str from e)) (by decide)⟩
      ·simp only[length_nil]at hk;omega
     ·rw[show (((done.length:Int)) == 0)=false by rw[beq_eq_false_iff_ne];omega]
      exact bad
   ·rw[show (e.snd.fst == ([114,117,108,101]:List UInt8))=false from by rw[yz];exact y5 k1]
    simp only[cond_false];have bad:∃ k' pl' v' w',some (Sum.inr (k,false,v,w))=(some (.inr (k',pl',v',w')):Option ((Bool×Unit)⊕(Int×Bool×Int×Int)))/\Seen l (done++[e]) k' pl' v' w':=
     ⟨k,false,v,w,rfl,⟨by simp;omega,λ h=>by cases h⟩⟩
    cases pl with
    |false=>exact bad
    |true =>
     simp only[cond_true];by_cases k2:e.2.1=Kd.override.str
     ·rw[show (e.snd.fst == ([111,118,101,114,114,105,100,101]:List UInt8))=true from beq_iff_eq.2 k2]
      exact bad
     ·rw[show (e.snd.fst == ([111,118,101,114,114,105,100,101]:List UInt8))=false from by rw[yz];exact y5 k2,y6N]
      by_cases k3:e.2.1=Kd.undo.str
      ·rw[y4 k3];exact bad
      ·rw[y5 k3];obtain ⟨h1,h2⟩:=hs.pp rfl;refine ⟨k,true,v,w,rfl,⟨by simp;omega,λ _=>⟨λ x hx=>?_,?_⟩⟩⟩
       ·rcases mem_append.1 hx with hx|hx
        ·exact h1 x hx
        ·rw[mem_singleton.1 hx];exact ⟨k2,k3⟩
       ·rcases h2 with ⟨a1,a2⟩|⟨a1,e0,rest,a2,a3,a4,a5,a6⟩
        ·refine .inl ⟨a1,λ x hx=>?_⟩
         rcases mem_append.1 hx with hx|hx
         ·exact a2 x hx
         ·rw[mem_singleton.1 hx];exact k1
        ·refine .inr ⟨a1,e0,rest++[e],by rw[a2];rfl,a3,λ x hx=>?_,a5,a6⟩
         rcases mem_append.1 hx with hx|hx
         ·exact a4 x hx
         ·rw[mem_singleton.1 hx];exact k1
  obtain ⟨k',pl',v',w',hb,hs'⟩:=next
  rw[yZ,hb];have ih:=y6p l hl sh h hall r (done++[e]) k' pl' v' w' (by rw[hd];simp) hs'
  simp only[List.length_append,length_cons,length_nil]at ih;exact ih
theorem y5f{l:List Ev}(h:(rep l).1=0){f t:Int}(h1:0<=f)(h2:f<=t)(h3:t<=999999999):yCJ l f t=0:=by
 unfold yCJ ckR;rw[h,if_neg (by omega),if_neg (by omega),y5 (by omega)]
 rfl
theorem yGi(l:List Ev)(hl:l.length<=24)(sh:y2o l)(h:(rep l).1=0)(hm:∀ e∈l,e.2.1≠Kd.undo.str->vlE e 0≠999999999)(u v:Int)(hu:0<=u/\u<=255)(hv:0<=v/\v<=255):yJL l [u,v] l=some (true,()):=by
 have ok:=y6s h;have lt:=yEn (rep l).2.2 rFirst ok.1;have ll:=yB0 (rep l).2.2 rFirst;have hall:y0C l 0 999999999=lns rFirst (rep l).2.2:=by
  unfold y0C;refine List.filter_eq_self.2 λ x hx=>?_
  obtain ⟨_,e,he,hv⟩:=lt.1 x hx;obtain ⟨d,d1,d2⟩:=yIR _ _ ok.1 e he;have r:=yKI d1 d2;have:=hm e (yNY he) (λ k=>d2 (y3M (d1.kind.symm.trans k)))
  exact decide_eq_true ⟨by omega,by omega⟩
 unfold yJL;simp only[ix0,ix1,bind_some,Bool.false_eq_true,if_false,if_true];rw[y3K (show -9223372036854775808<=u by omega) (by omega),y3K (show -9223372036854775808<=v by omega) (by omega)]
 have t1:=Int.tmod_nonneg 20 hu.1;have t2:=Int.tmod_lt_of_pos u (show (0:Int) < 20 by decide)
 have t3:=Int.tmod_nonneg 20 hv.1;have t4:=Int.tmod_lt_of_pos v (show (0:Int) < 20 by decide)
 have hAB:0<=(if v.tmod 20 < u.tmod 20 then v.tmod 20 else u.tmod 20)/\(if v.tmod 20 < u.tmod 20 then v.tmod 20 else u.tmod 20)<=(if v.tmod 20 > u.tmod 20 then v.tmod 20 else u.tmod 20)/\(if v.tmod 20 > u.tmod 20 then v.tmod 20 else u.tmod 20) < 20:=by
  split<;>split<;>omega
 generalize (if v.tmod 20 < u.tmod 20 then v.tmod 20 else u.tmod 20)=A at *
 generalize (if v.tmod 20 > u.tmod 20 then v.tmod 20 else u.tmod 20)=B at *
 rw[yFL l sh 0 999999999,yFL l sh 0 A,yFL l sh A B,yFL l sh B 999999999,y5f h (by omega) (by omega) (by omega),y5f h (by omega) (by omega) (by omega),y5f h (by omega) (by omega) (by omega),y5f h (by omega) (by omega) (by omega)]
 simp only[if_true,bind_some];rw[show ((0:Int) != 0)=false from rfl]
 simp only[cond_false];have fl:∀ f t,(y0C l f t).length<=24:=λ f t=>by
  have:=List.length_filter_le (inN f t) (lns rFirst (rep l).2.2);have:=ok.2.1;unfold y0C;omega
 have f0:=fl 0 999999999;have f1:=fl 0 A;have f2:=fl A B;have f3:=fl B 999999999;rw[bifF (y5 (show ¬ ((y0C l 0 999999999).length:Int) > 24 by omega)),yFf _ (by omega)]
 simp only[bind_some];rw[bifT (y4 (show (y0C l 0 A).length < yB by unfold yB;omega)),y49 id (y0C l 0 A) 0 [] (by simp;exact nmem _ (by omega)) λ i e s he hs=>by
  unfold yJK;rw[bifT (y4 hs)];rfl]
 unfold yI2;simp only[cond_false,List.map_id,List.nil_append];rw[yFf _ (show (y0C l A B).length<=1000 by omega),yFf _ (show (y0C l B 999999999).length<=1000 by omega)]
 simp only[bind_some];rw[bifT (y4 (show (y0C l 0 A).length+(y0C l A B).length<=memMax by unfold memMax;omega)),bifT (y4 (show (y0C l 0 A++y0C l A B).length+(y0C l B 999999999).length<=memMax by rw[List.length_append];unfold memMax;omega))]
 have hsp:y0C l 0 A++y0C l A B++y0C l B 999999999=y0C l 0 999999999:=by
  rw[List.append_assoc];exact (y8J (lns rFirst (rep l).2.2) 0 A B 999999999 lt.2 (by omega) (by omega) (by omega)).symm
 rw[hsp,yP5 _ (show (y0C l 0 999999999).length<=1000 by omega)]
 simp only[bind_some,Bool.not_true,cond_false];rw[bifT (y4 (show (y0C l A B).length < yB by unfold yB;omega))]
 refine y8C _ (λ i x hx=>?_) ?_
 ·have hin:=of_decide_eq_true (List.mem_filter.1 (List.mem_of_getElem? hx)).2;unfold yKJ;rw[y5 (show ¬ x.1 < A by omega),y5 (show ¬ x.1 >= B by omega)]
  rfl
 ·unfold yHg;rw[bifT (y4 (show l.length < yB by unfold yB;omega))]
  exact y6p l hl sh h hall l [] 0 true 0 0 rfl ⟨⟨by decide,by decide⟩,λ _=>⟨(λ e he=>by cases he),.inl ⟨rfl,(λ e he=>by cases he)⟩⟩⟩
theorem y8a(l:List Ev)(hl:l.length<=24)(sh:y2o l)(h:(rep l).1=0)(u v:Int)(hu:0<=u/\u<=255)(hv:0<=v/\v<=255):∀ (r done:List Ev),l=done++r->(∀ e∈done,e.2.1≠Kd.undo.str->vlE e 0≠999999999) ->
  yR (λ i__ e__ (s__:Unit)=>yAl l [u,v] l i__ e__) (λ s__=>yJL l [u,v] l) (done.length:Int) r ()=some (true,())
 |[],done,hd,hm=>by
  rw[List.append_nil]at hd;subst hd;exact yGi l hl sh h hm u v hu hv
 |e::r,done,hd,hm=>by
  have he:l[done.length]?=some e:=by rw[hd];simp
  have ih:=y8a l hl sh h u v hu hv r (done++[e]) (by rw[hd];simp)
  simp only[List.length_append,length_cons,length_nil]at ih;rw[yZ];by_cases k:e.2.1=Kd.undo.str
  ·have hb:yAl l [u,v] l (done.length:Int) e=some (.inr ()):=by
    unfold yAl;rw[y6N,y4 k];rfl
   rw[hb];exact ih λ x hx hux=>by
    rcases mem_append.1 hx with hx|hx
    ·exact hm x hx hux
    ·rw[mem_singleton.1 hx]at hux;exact absurd k hux
  ·obtain ⟨d,h1,h2,_⟩:=yLE h he k;by_cases hz:vlE e 0=999999999
   ·have hb:yAl l [u,v] l (done.length:Int) e=some (.inl (true,())):=by
     unfold yAl;rw[y6N,y5 k,yFr h1 h2];simp only[Bool.not_false,cond_true,bind_some];rw[show (vlE e 0 == 999999999)=true from beq_iff_eq.2 hz]
     rfl
    rw[hb];rfl
   ·have hb:yAl l [u,v] l (done.length:Int) e=some (.inr ()):=by
     unfold yAl;rw[y6N,y5 k,yFr h1 h2];simp only[Bool.not_false,cond_true,bind_some];rw[show (vlE e 0 == 999999999)=false from beq_eq_false_iff_ne.2 hz]
     rfl
    rw[hb];exact ih λ x hx hux=>by
     rcases mem_append.1 hx with hx|hx
     ·exact hm x hx hux
     ·rw[mem_singleton.1 hx];exact hz
theorem yHV(l:List Ev)(n:List Int)(hn:n.length=2)(hb:∀ x∈n,0<=x/\x<=255):zn_M l n=some (true,()):=by
 obtain ⟨u,v,rfl⟩:=len2 hn;unfold zn_M;obtain ⟨b,hb',hs⟩:=yDd l 24 (by decide)
 rw[show yL6 l 24=some (b,())from hb']
 simp only[bind_some];cases b with
 |false=>rfl
 |true =>
  obtain ⟨h1,h2,h3⟩:=hs rfl;simp only[Bool.not_true,cond_false];rw[bifT (y4 (show l.length < yB by unfold yB;omega))]
  exact y8a l h1 (yIt h2) h3 u v (hb u (by simp)) (hb v (by simp)) l [] rfl (λ e he=>by cases he)
end Go.Tw
end
