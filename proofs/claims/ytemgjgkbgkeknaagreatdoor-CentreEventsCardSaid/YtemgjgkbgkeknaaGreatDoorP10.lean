import Derived.Test.YtemgjgkbgkeknaaGreatDoorPT
import Derived.Test.YtemgjgkbgkeknaaGreatDoorBEvents
set_option linter.all false
set_option maxRecDepth 100000
open Option (bind_some some_or)
namespace Go.Tw
open Go.Vx Go.Vx.B Go.Proofs
theorem y5I{a:Int}(h:a≠0)(b c:Int):y07 [a,b,c]=some (a,()):=by
 rw[y9r];unfold y0R;simp[h]
theorem yQK(l:List Ev)(e0:Ev)(h0:∀ s∈e0.2.2.1,s.length < lenMax)(i:Nat)(hi:i<=1000)(ev c:List Ev)(hev:ev.length=i)(hc:c.length<=i)(ho:okC rFirst c)(e:Ev)(hs:∀ s∈e.2.2.1,s.length < lenMax) :
  yBd l l e0 e0 0 l (i:Int) e ev c (sts rFirst c)=some (if (yf i c e).1≠0 then .inl ((yf i c e).1,())else .inr (ev++[e],(yf i c e).2,sts rFirst (yf i c e).2)):=by
 unfold yBd;have w1:IntKind.i64.wrap ((i:Int)+1)=(i:Int)+1:=y3K (by omega) (by omega)
 rw[show zo_M (e.fst,e.snd.fst,e.snd.snd.fst,e.snd.snd.snd.fst,e.snd.snd.snd.snd.fst,())=some (ckE e,())from y9K e hs,hev,w1]
 simp only[bind_some,y9K e0 h0];unfold yf;by_cases h1:ckE e=0
 ·obtain ⟨d,hd⟩:=yCb h1;rw[if_neg (show ¬ ckE e≠0 from λ h=>h h1),bifT (show (ckE e == 0)=true from beq_iff_eq.2 h1)]
  rw[show y3M (e.fst,e.snd.fst,e.snd.snd.fst,e.snd.snd.snd.fst,e.snd.snd.snd.snd.fst,())=some (e,())from ownE e d hd]
  simp only[bind_some];by_cases h2:e.1=(i:Int)+1
  ·rw[if_neg (show ¬ e.1≠(i:Int)+1 from λ h=>h h2),bifF (show (e.1 != (i:Int)+1)=false by simp[h2]),yAD]
   by_cases h3:e.2.1=Kd.undo.str
   ·rw[if_pos h3,bifT (y3 h3)];rcases List.eq_nil_or_concat c with rfl|⟨p,x,rfl⟩
    ·rw[bifF (y5 (show ¬ (([]:List Ev).length:Int) > 0 by decide))]
     simp only[y4K,y0F,bind_some];rw[show y0R (bif ((([]:List Ev).length:Int) == 0)then 12 else 0) (bif false then 19 else 0)=12 from rfl,y5I (by decide)]
     rfl
    ·simp only[List.concat_eq_append]at hc ho ⊢;have hl:(p++[x]).length=p.length+1:=by simp
     rw[hl]at hc;rw[bifT (y3 (show ((p++[x]).length:Int) > 0 by omega))]
     have w2:IntKind.i64.wrap (((p++[x]).length:Int) - 1)=(p.length:Int):=by rw[y3K (by omega) (by omega)];omega
     have w3:(if (p.length:Int) > 0 then (p.length:Int)else 0)=(p.length:Int):=by split<;>omega
     rw[w2];simp only[if_true];rw[w3];rw[show idx (p++[x]) (p.length:Int)=some x from y59 p x [] _ rfl,show (p++[x])[((p.length:Int)).toNat]?=some x by simp]
     simp only[bind_some,y4K,y0F,List.getLast?_append,List.getLast?_singleton,some_or,List.dropLast_concat];rw[show (((p++[x]).length:Int) == 0)=false from by rw[beq_eq_false_iff_ne];omega]
     by_cases h4:x.2.1=Kd.command.str
     ·rw[if_pos h4,show (x.2.1 == ([99,111,109,109,97,110,100]:List UInt8))=true from beq_iff_eq.2 h4]
      rw[show y0R (bif false then 12 else 0) (bif true then 19 else 0)=19 from rfl,y5I (by decide)]
      rfl
     ·rw[if_neg h4,show (x.2.1 == ([99,111,109,109,97,110,100]:List UInt8))=false from by rw[y0G];exact y5 h4]
      rw[show decide (0<=(p.length:Int))=true from y3 (by omega),show decide ((p.length:Int)<=((p++[x]).length:Int))=true from y3 (by omega),
       show decide (0<=((p++[x]).length:Int))=true from y3 (by omega),show decide (((p++[x]).length:Int)<=((sts rFirst (p++[x])).length:Int))=true from y3 (by rw[y1c];omega),
       show decide (i+1<=memMax)=true from y3 (y4k _ hi)]
      rw[show (((p++[x]).length:Int)).toNat=p.length+1 by omega,yAr,show (p.length:Int).toNat=p.length by omega,show (p++[x]).take p.length=p by simp]
      rfl
   ·rw[if_neg h3,bifF (y5 h3),y7O];have hinv:=y6J c rFirst y4G ho;have hdu:d≠.undo:=λ h=>h3 (by rw[hd.kind,h])
    simp only[bind_some];rw[caft _ e d hd hdu hinv];simp only[bind_some];by_cases h4:(aft (finR rFirst c) e).1=0
    ·rw[if_neg (show ¬ (aft (finR rFirst c) e).1≠0 from λ h=>h h4),h4,if_pos rfl]
     rw[show decide (c.length+1<=memMax)=true from y3 (y4k _ (by omega)),show decide ((sts rFirst c).length+1<=memMax)=true from y3 (by rw[y1c];unfold memMax;omega),show decide (i+1<=memMax)=true from y3 (y4k _ hi)]
     show some (Sum.inr (ev++[e],c++[e],sts rFirst c++[(aft (finR rFirst c) e).2]))=some (Sum.inr (ev++[e],c++[e],sts rFirst (c++[e])))
     rw[y8Z]
    ·rw[if_pos h4,bifT (show ((aft (finR rFirst c) e).1 != 0)=true by simp[h4]),bifT (show ((aft (finR rFirst c) e).1 != 0)=true by simp[h4]),y5I h4]
     simp only[if_pos h4,bind_some];rw[bifT (show ((aft (finR rFirst c) e).1 != 0)=true by simp[h4])]
  ·rw[if_pos (show e.1≠(i:Int)+1 from h2),bifT (show (e.1 != (i:Int)+1)=true by simp[h2])]
   rfl
 ·rw[if_pos (show ckE e≠0 from h1),bifF (show (ckE e == 0)=false by simp[h1]),bifT (show (ckE e != 0)=true by simp[h1]),y5I h1]
  simp only[if_pos (show ckE e≠0 from h1),bind_some]
  rw[bifT (show (ckE e != 0)=true by simp[h1])]
def accE(l:List Ev)(q:Int×Int×List Ev)(e:Ev):Int:=
 if q.1≠0 then q.1 else if ckE e≠0 then ckE e else if 1000<=l.length then 5 else (yf l.length q.2.2 e).1
theorem afin(l:List Ev)(e0:Ev)(hl:l.length<=1000)(h0:∀ s∈e0.2.2.1,s.length < lenMax)(c:List Ev)(hc:c.length<=l.length)(ho:okC rFirst c) :
  yCK l l e0 e0 0 l l c (sts rFirst c)=some (accE l (0,0,c) e0,()):=by
 unfold yCK accE;have w1:IntKind.i64.wrap ((l.length:Int)+1)=(l.length:Int)+1:=y3K (by omega) (by omega)
 rw[y9K e0 h0];simp only[bind_some,y9r,y0F,ne_eq,not_true_eq_false,if_false];rw[show ∀ x,y0R 0 x=x from λ x=>rfl]
 by_cases h1:ckE e0=0
 ·rw[if_neg (show ¬ ¬ ckE e0=0 from λ h=>h h1),h1,show ∀ x,y0R 0 x=x from λ x=>rfl]
  by_cases h5:1000<=l.length
  ·rw[if_pos h5,y3 (show (l.length:Int) >= 1000 by omega)]
   rfl
  rw[if_neg h5,y5 (show ¬ (l.length:Int) >= 1000 by omega)]
  obtain ⟨d,hd⟩:=yCb h1;rw[bifF (show (((bif false then 5 else 0):Int) != 0)=false from rfl),ownE e0 d hd]
  simp only[bind_some];unfold yf;rw[if_neg (show ¬ ckE e0≠0 from λ h=>h h1),w1]
  by_cases h2:e0.1=(l.length:Int)+1
  ·rw[if_neg (show ¬ e0.1≠(l.length:Int)+1 from λ h=>h h2),bifF (show (e0.1 != (l.length:Int)+1)=false by simp[h2]),yAD]
   by_cases h3:e0.2.1=Kd.undo.str
   ·rw[if_pos h3,bifT (y3 h3)];rcases List.eq_nil_or_concat c with rfl|⟨p,x,rfl⟩
    ·rw[bifF (y5 (show ¬ (([]:List Ev).length:Int) > 0 by decide))]
     simp only[y4K,y0F,bind_some];rfl
    ·simp only[List.concat_eq_append]at hc ho ⊢;have hl2:(p++[x]).length=p.length+1:=by simp
     rw[hl2]at hc;rw[bifT (y3 (show ((p++[x]).length:Int) > 0 by omega))]
     have w2:IntKind.i64.wrap (((p++[x]).length:Int) - 1)=(p.length:Int):=by rw[y3K (by omega) (by omega)];omega
     have w3:(if (p.length:Int) > 0 then (p.length:Int)else 0)=(p.length:Int):=by split<;>omega
     rw[w2];simp only[if_true];rw[w3];rw[show idx (p++[x]) (p.length:Int)=some x from y59 p x [] _ rfl,show (p++[x])[((p.length:Int)).toNat]?=some x by simp]
     simp only[bind_some,y4K,y0F,List.getLast?_append,List.getLast?_singleton,some_or,List.dropLast_concat];rw[show (((p++[x]).length:Int) == 0)=false from by rw[beq_eq_false_iff_ne];omega]
     by_cases h4:x.2.1=Kd.command.str
     ·rw[if_pos h4,show (x.2.1 == ([99,111,109,109,97,110,100]:List UInt8))=true from beq_iff_eq.2 h4]
      rfl
     ·rw[if_neg h4,show (x.2.1 == ([99,111,109,109,97,110,100]:List UInt8))=false from by rw[y0G];exact y5 h4]
      rw[show decide (0<=(p.length:Int))=true from y3 (by omega),show decide ((p.length:Int)<=((p++[x]).length:Int))=true from y3 (by omega),
       show decide (0<=((p++[x]).length:Int))=true from y3 (by omega),show decide (((p++[x]).length:Int)<=((sts rFirst (p++[x])).length:Int))=true from y3 (by rw[y1c];omega),
       show decide (l.length+1<=memMax)=true from y3 (y4k _ hl)]
      rfl
   ·rw[if_neg h3,bifF (y5 h3),y7O];have hinv:=y6J c rFirst y4G ho;have hdu:d≠.undo:=λ h=>h3 (by rw[hd.kind,h])
    simp only[bind_some];rw[caft _ e0 d hd hdu hinv];simp only[bind_some];by_cases h4:(aft (finR rFirst c) e0).1=0
    ·rw[if_neg (show ¬ (aft (finR rFirst c) e0).1≠0 from λ h=>h h4),h4]
     rw[show decide (c.length+1<=memMax)=true from y3 (y4k _ (by omega)),show decide ((sts rFirst c).length+1<=memMax)=true from y3 (by rw[y1c];unfold memMax;omega),show decide (l.length+1<=memMax)=true from y3 (y4k _ hl)]
     rfl
    ·rw[if_pos h4,bifT (show ((aft (finR rFirst c) e0).1 != 0)=true by simp[h4])]
  ·rw[if_pos (show e0.1≠(l.length:Int)+1 from h2),bifT (show (e0.1 != (l.length:Int)+1)=true by simp[h2])]
 ·rw[if_pos (show ¬ ckE e0=0 from h1),show y0R (ckE e0) _=ckE e0 by unfold y0R;simp[h1]]
  rw[bifT (show (ckE e0 != 0)=true by simp[h1])]
theorem yOq(l:List Ev)(e0:Ev)(h0:∀ s∈e0.2.2.1,s.length < lenMax)(hn:l.length<=1000)(hs:y9i l):∀ (r done:List Ev) (c:List Ev),l=done++r->c.length<=done.length->okC rFirst c ->
  yd (λ i__ e__ (s__:List Ev×List Ev×List Rg)=>yBd l l e0 e0 0 l i__ e__ s__.1 s__.2.1 s__.2.2) (λ s__=>yCK l l e0 e0 0 l s__.1 s__.2.1 s__.2.2) (done.length:Int) r (done,c,sts rFirst c)=some (accE l (runC r done.length c) e0,())
 |[],done,c,hl,hc,ho=>by
  rw[List.append_nil]at hl;subst hl;exact afin l e0 hn h0 c hc ho
 |e::r,done,c,hl,hc,ho=>by
  have hlen:l.length=done.length+(r.length+1):=by rw[hl];simp
  have he:e∈l:=by rw[hl];simp
  rw[ym,yQK l e0 h0 done.length (by omega) done c rfl hc ho e (hs e he)]
  unfold runC;by_cases h1:(yf done.length c e).1=0
  ·have q:=yAl ho h1;rw[if_neg (show ¬ (yf done.length c e).1≠0 from λ h=>h h1),if_neg (show ¬ (yf done.length c e).1≠0 from λ h=>h h1)]
   simp only[bind_some];have:=yOq l e0 h0 hn hs r (done++[e]) (yf done.length c e).2 (by rw[hl];simp) (by have:=q.2;simp;omega) q.1
   simp only[List.length_append,List.length_cons,List.length_nil]at this;exact this
  ·rw[if_pos h1,if_pos h1];unfold accE;simp only[bind_some];rw[if_pos h1]
theorem yJx(l:List Ev)(e:Ev)(hs:y9i l)(h0:∀ s∈e.2.2.1,s.length < lenMax):yLy l e=some (accE l (rep l) e,()):=by
 unfold yLy rep;by_cases h:1000 < l.length
 ·rw[if_pos h,bifT (y3 (show (l.length:Int) > 1000 by omega)),y9K e h0]
  rfl
 ·rw[if_neg h,bifF (y5 (show ¬ (l.length:Int) > 1000 by omega)),bifT (y3 (show l.length < lenMax by unfold lenMax;omega))]
  exact yOq l e h0 (by omega) hs l [] [] rfl (Nat.le_refl _) trivial
theorem yF7(e:Ev):∀ (l:List Ev) (i:Nat) (c:List Ev),runC (l++[e]) i c=if (runC l i c).1≠0 then runC l i c else
  if (yf (i+l.length) (runC l i c).2.2 e).1≠0 then ((yf (i+l.length) (runC l i c).2.2 e).1,((i+l.length:Nat):Int)+1,[])else (0,0,(yf (i+l.length) (runC l i c).2.2 e).2)
 |[],i,c=>rfl
 |x::l,i,c=>by
  show runC (x::(l++[e])) i c=_
  unfold runC;by_cases h:(yf i c x).1≠0
  ·rw[if_pos h,if_pos h,if_pos h]
  ·rw[if_neg h,if_neg h,yF7 e l (i+1) _,show i+1+l.length=i+(x::l).length by simp;omega]
theorem yMM(l:List Ev)(e:Ev)(hl:l.length < 1000):rep (l++[e])=if (rep l).1≠0 then rep l else
  if (yf l.length (rep l).2.2 e).1≠0 then ((yf l.length (rep l).2.2 e).1,(l.length:Int)+1,[])else (0,0,(yf l.length (rep l).2.2 e).2):=by
 have e1:rep l=runC l 0 []:=by unfold rep;rw[if_neg (show ¬ 1000 < l.length by omega)]
 rw[e1];unfold rep;rw[if_neg (show ¬ 1000 < (l++[e]).length by simp;omega),yF7,Nat.zero_add]
theorem yKW(l:List Ev)(e:Ev):yLh l e=some (accE l (rep l) e,()):=by
 unfold yLh yMi accE;rw[yDn];have hr:(repL (rep l)).2.2.1=(rep l).1:=by
  unfold repL;by_cases h:(rep l).1=0
  ·rw[if_pos h,h]
  ·rw[if_neg h]
 simp only[bind_some,hr];unfold yAv;by_cases h:(rep l).1=0
 ·rw[if_neg (show ¬ (rep l).1≠0 from λ g=>g h),bifT (show ((rep l).1 == 0)=true from beq_iff_eq.2 h),yH5]
  simp only[bind_some];by_cases h1:ckE e=0
  ·rw[if_neg (show ¬ ckE e≠0 from λ g=>g h1),bifF (show (ckE e != 0)=false by simp[h1])]
   by_cases h5:1000<=l.length
   ·rw[if_pos h5,bifT (y3 (show (l.length:Int) >= 1000 by omega))]
   ·rw[if_neg h5,bifF (y5 (show ¬ (l.length:Int) >= 1000 by omega)),bifT (y3 (show 0+l.length<=memMax by rw[Nat.zero_add];exact nmem _ (by omega))),bifT (y3 (y4k _ (by omega))),yDn,yMM l e (by omega),if_neg (show ¬ (rep l).1≠0 from λ g=>g h)]
    by_cases h6:(yf l.length (rep l).2.2 e).1=0
    ·rw[if_neg (show ¬ (yf l.length (rep l).2.2 e).1≠0 from λ g=>g h6),h6]
     rfl
    ·rw[if_pos h6];unfold repL;rw[if_neg h6];rfl
  ·rw[if_pos h1,bifT (show (ckE e != 0)=true by simp[h1])]
 ·rw[if_pos h,bifF (show ((rep l).1 == 0)=false by simp[h]),bifT (show ((rep l).1 != 0)=true by simp[h])]
theorem yGV(l:List Ev)(e:Ev):zn_M l e=some (true,()):=by
 unfold zn_M zn_m;obtain ⟨b,hb,hs⟩:=yEQ l 24 (by decide)
 rw[show zr_M l 24=some (b,())from hb]
 simp only[bind_some,yFA];cases b with
 |false=>rfl
 |true =>
  have hs:=hs rfl;simp only[Bool.not_true,cond_false];obtain ⟨b,hb,hs2⟩:=yEQ [e] 1 (by decide)
  rw[show zr_M [e] 1=some (b,())from hb]
  cases b with
  |false=>rfl
  |true =>
   have h0:∀ s∈e.2.2.1,s.length < lenMax:=yCY (hs2 rfl).2 e (by simp)
   have sh:=yCY hs.2;rw[yNa l sh,yDn,y9K e h0,yH5,yJx l e sh h0,yKW];simp only[bind_some,Bool.not_true,cond_false,beq_self_eq_true,cond_true];have sm:=yFb l;rw[show yKM _=some ((repL (rep l)).1,())from regE (repL (rep l)).1 sm.g sm.t]
   simp only[bind_some];rw[show yJL (repL (rep l)).1 _=some (true,())from yQA (repL (rep l)).1 sm.g sm.s sm.t]
   rfl
end Go.Tw
