import Derived.Test.YtemgjgkbgkeknaaGreatDoorPV
import Derived.Test.YtemgjgkbgkeknaaGreatDoorBSafe
set_option linter.all false
set_option maxRecDepth 100000
open Option (bind_some)
namespace Go.Tw
open Go.Vx Go.Vx.B Go.Proofs
theorem yNm{gs:List Gt}{a:Str}{j:Nat}(h:gAt gs a=some j)(x:Gt)(hx:x.1=a):gAt (gs.set j x) a=some j:=by
 unfold gAt at h ⊢;obtain ⟨hi,hg,hn⟩:=List.findIdx?_eq_some_iff_getElem.1 h;refine List.findIdx?_eq_some_iff_getElem.2 ⟨by rw[List.length_set];exact hi,?_,λ k hk=>?_⟩
 ·rw[List.getElem_set_self];simp[hx]
 ·rw[List.getElem_set_ne (by omega)]
  exact hn k hk
theorem yHg(p:Rg)(a b:Str)(v w t:Int)(h:(act p .command a b v w).1=0):act (setT (act p .command a b v w).2 t) .command a b v w=(0,setT (act p .command a b v w).2 t):=by
 unfold act at h ⊢;simp only at h ⊢;cases hq:gAt (rGs p) a with
 |none=>rw[hq]at h;cases h
 |some j =>
  rw[hq]at h;obtain ⟨g,g1,g2,g3⟩:=y1r hq;simp only[g3]at h ⊢;split at h
  ·cases h
  rename_i k1;split at h
  ·cases h
  rename_i k2;split at h
  ·cases h
  rename_i k3;simp only[if_neg k1,if_neg k2,if_neg k3];split at h
  ·rename_i k4;split at h
   ·cases h
   rename_i k5;simp only[if_pos k4,if_neg k5];show (match gAt (rGs p) a with|none=>_|some i=>_)=_
   rw[hq];simp only[show (rGs (setT p t)).getD j g0=g from g3,if_neg k1,if_neg k2,if_neg k3,if_pos k4,if_neg k5]
  ·rename_i k4;split at h
   ·rename_i k5;exact absurd h k5
   rename_i k5;simp only[if_neg k4,if_neg k5];have hlt:j < (rGs p).length:=(List.getElem?_eq_some_iff.1 g1).1;show (match gAt ((rGs p).set j (g.1,b == y0D,v,b,g.2.2.2.2.1,())) a with|none=>_|some i=>_)=_
   rw[yNm hq (g.1,b == y0D,v,b,g.2.2.2.2.1,()) g2];have hx:((rGs p).set j (g.1,b == y0D,v,b,g.2.2.2.2.1,())).getD j g0=(g.1,b == y0D,v,b,g.2.2.2.2.1,()):=by
    simp[List.getD,List.getElem?_set_self hlt]
   simp only[show ∀ r:Rg,rGs r=(rGs p).set j (g.1,b == y0D,v,b,g.2.2.2.2.1,())->(rGs r).getD j g0=(g.1,b == y0D,v,b,g.2.2.2.2.1,())from λ r hr=>by rw[hr];exact hx]
   simp only[Int.lt_irrefl,if_false,if_true,ne_eq,not_true_eq_false]
theorem yJB(l:List Ev)(i:Nat)(p q:Rg)(hi:Inv p)(e:Ev)(d:Kd)(h1:EvOk e d)(ha:(aft p e).1=0)(hq:q=(aft p e).2)(k:Nat)(g:Gt)(hg:(rGs p)[k]?=some g)(t24:List Ev)(t25 t26:Int)(gs:List Gt) :
  y9p l (i:Int) t24 t25 t26 gs e.1 e.2.1 e.2.2.1 e.2.2.2.1 e.2.2.2.2.1 (rTk p) (rRl p).1 (rRl p).2.1 (rRun p) (rHt p) (rSea p) (rBa p) (rSt p) (rCs p) (rGs p) (rSs p) (rTs p) (rTk q) (rRl q).1 (rRl q).2.1 (rRun q) (rHt q) (rSea q) (rBa q) (rSt q) (rCs q) (rGs q) (rSs q) (rTs q) (k:Int) g=some (.inr ()):=by
 obtain ⟨g',a1,a2,a3⟩:=yBj p (kdE e) (nmE e 0) (nmE e 1) (vlE e 1) (vlE e 2) k g hg;have hq2:rGs q=rGs (act p (kdE e) (nmE e 0) (nmE e 1) (vlE e 1) (vlE e 2)).2:=by rw[hq,yAX ha]
 rw[<- hq2]at a1;have hlt:k < (rGs q).length:=(List.getElem?_eq_some_iff.1 a1).1;unfold y9p;rw[y6 (show ¬ (k:Int) >= ((rGs q).length:Int) by omega),show idx (rGs q) (k:Int)=some g' from (y0A _ _).trans a1]
 simp only[cond_false,bind_some];rw[show (g'.1 == g.1)=true from beq_iff_eq.2 a2]
 simp only[Bool.not_true,cond_false];rcases a3 with ⟨a3,a4⟩|m
 ·rw[a3,a4];simp
 ·have s82:yBg l (i:Int) t24 t25 t26 gs (k:Int) e.1 e.2.1 e.2.2.1 e.2.2.2.1 e.2.2.2.2.1 (rTk p) (rRl p).1 (rRl p).2.1 (rRun p) (rHt p) (rSea p) (rBa p) (rSt p) (rCs p) (rGs p) (rSs p) (rTs p) (rTk q) (rRl q).1 (rRl q).2.1 (rRun q) (rHt q) (rSea q) (rBa q) (rSt q) (rCs q) (rGs q) (rSs q) (rTs q) g g'=some (.inr ()):=by
   have hd:=m.kd;rw[y7m h1]at hd;subst hd;obtain ⟨n,a,b,t,v,rfl⟩:=ev22 h1 rfl rfl;have m1:a=g.1:=m.nm;have m2:v=g'.2.2.1:=m.vl;have m3:g.2.2.1 < v:=m.lt;have m4:b=y0D\/b=sRaise:=m.bb;have m5:g'.2.1=(b == y0D):=m.low;have m6:¬ (b=y0D/\rSt p=sOpen):=m.st1;have m7:¬ (b=sRaise/\rSt p=sClose):=m.st2;unfold yBg;simp only[ix0,ix1,bind_some,y9l,Bool.not_true,cond_false];rw[show (a == g.1)=true from beq_iff_eq.2 m1,show (g'.2.2.1 != v)=false by simp[m2],y6 (show ¬ g'.2.2.1<=g.2.2.1 by omega),show (g.2.2.2.2.1 == [])=true from beq_iff_eq.2 m.permit,show ((rSs p).length:Int)=0 by rw[m.ships];rfl,m5]
   simp only[Bool.not_true,cond_false,beq_self_eq_true];rw[show (((0:Int)) != 0)=false from rfl]
   simp only[cond_false];rcases m4 with rfl|rfl
   ·rw[show ((y0D:Str) == [108,111,119,101,114])=true from rfl]
    have:rSt p=sClose:=hi.st.resolve_left λ h=>m6 ⟨rfl,h⟩
    rw[show (rSt p == ([99,108,111,115,101]:List UInt8))=true from beq_iff_eq.2 this]
    rfl
   ·rw[show ((sRaise:Str) == [108,111,119,101,114])=false from rfl]
    have:rSt p=sOpen:=hi.st.resolve_right λ h=>m7 ⟨rfl,h⟩
    rw[show (rSt p == ([111,112,101,110]:List UInt8))=true from beq_iff_eq.2 this]
    rfl
  rw[s82];cases (g'.2.1 == g.2.1)<;>cases (g'.2.2.1 == g.2.2.1)<;>first|rfl|skip
  all_goals rfl
theorem yG3(l:List Ev)(hl:l.length<=24)(sh:y5J l)(h:(rep l).1=0)(i:Nat)(e:Ev)(d:Kd)(h1:EvOk e d)(he:l[i]?=some e)(p q:Rg)(hp:p=finR rFirst (rep (l.take i)).2.2)(hq:q=finR rFirst (rep (l.take (i+1))).2.2)(hn:e.1=(i:Int)+1)
  (hc:(rep (l.take (i+1))).2.2=(rep (l.take i)).2.2++[e]) (ha:(aft p e).1=0) (t24:List Ev) (t25 t26:Int) (gs:List Gt) :
  yA2 l (i:Int) t24 t25 t26 gs e.1 e.2.1 e.2.2.1 e.2.2.2.1 e.2.2.2.2.1 (rTk p) (rRl p).1 (rRl p).2.1 (rRun p) (rHt p) (rSea p) (rBa p) (rSt p) (rCs p) (rGs p) (rSs p) (rTs p) (rTk q) (rRl q).1 (rRl q).2.1 (rRun q) (rHt q) (rSea q) (rBa q) (rSt q) (rCs q) (rGs q) (rSs q) (rTs q)=some (.inr ()):=by
 have hi:i < l.length:=(List.getElem?_eq_some_iff.1 he).1;unfold yA2;rw[show (e.2.1 == ([99,111,109,109,97,110,100]:List UInt8))=decide (d=.command)from kis' h1 .command]
 by_cases hd:d=.command
 ·subst hd;obtain ⟨n,a,b,t,v,rfl⟩:=ev22 h1 rfl rfl;have hqa:q=(aft p (n,Kd.command.str,[a,b],[t,v],[],())).2:=by rw[hq,hc,y60,hp]
  have hqi:Inv q:=by rw[hq];exact yBJ (y2A h _)
  have hk:kdE (n,Kd.command.str,[a,b],[t,v],[],())=.command:=y7m h1;have hact:=yAX ha;rw[hk]at hact;have ha0:(act p .command a b v 0).1=0:=by
   have:(aft p (n,Kd.command.str,[a,b],[t,v],[],())).1=(act p .command a b v 0).1:=by rw[hact];rfl
   rw[<- this];exact ha
  have hqq:q=setT (act p .command a b v 0).2 t:=by rw[hqa,hact];rfl
  let e2:Ev:=((i:Int)+2,Kd.command.str,[a,b],[t,v],[],())
  have h2:EvOk e2 .command:=⟨by show 1<=(i:Int)+2/\(i:Int)+2<=1000;omega,rfl,rfl,rfl,h1.names,h1.vals,rfl⟩
  have h2k:kdE e2=.command:=y7m h2;have h2c:ckE e2=0:=by
   unfold ckE;rw[if_neg (show ¬ (e2.1 < 1\/1000 < e2.1) by show ¬ ((i:Int)+2 < 1\/1000 < (i:Int)+2);omega),show kd e2.2.1=some .command from yEz .command]
   simp only;rw[if_neg (show ¬ (e2.2.2.1.length≠Kd.nn .command\/e2.2.2.2.1.length≠Kd.nv .command)from by rintro (h|h)<;>exact h rfl),if_neg,if_neg,if_neg]
   ·exact λ h=>h rfl
   ·rw[Bool.not_eq_false,List.all_eq_true];exact λ x hx=>decide_eq_true (h1.vals x hx)
   ·rw[Bool.not_eq_false,List.all_eq_true];exact h1.names
  have hcmd:=yHg p a b v 0 t ha0;rw[<- hqq]at hcmd;have haf:aft q e2=(0,q):=by
   unfold aft aftK;rw[h2k,if_neg (show ¬ vlE e2 0 < rTk q by rw[hqq];exact Int.lt_irrefl _)]
   show ((act q .command a b v 0).1,setT (act q .command a b v 0).2 t)=_
   rw[hcmd];show ((0:Int),setT q t)=(0,q)
   rw[hqq]
  have hr:rep (l.take (i+1)++[e2])=(0,0,(rep (l.take (i+1))).2.2++[e2]):=by
   have hl1:(l.take (i+1)).length=i+1:=by rw[List.length_take];omega
   have st:ym (i+1) (rep (l.take (i+1))).2.2 e2=(0,(rep (l.take (i+1))).2.2++[e2]):=by
    unfold ym;rw[if_neg (show ¬ ckE e2≠0 from λ g=>g h2c),if_neg (show ¬ e2.1≠((i+1:Nat):Int)+1 from λ g=>g (by show (i:Int)+2=_;omega)),if_neg (show ¬ e2.2.1=Kd.undo.str from λ h=>absurd (yJ3 (show Kd.command.str=Kd.undo.str from h)) (by decide)),<- hq,haf]
    rfl
   rw[yHs _ _ (by omega),hl1,if_neg (show ¬ (rep (l.take (i+1))).1≠0 from λ g=>g (y2A h _)),st]
   rfl
  have hfin:finR rFirst (rep (l.take (i+1)++[e2])).2.2=q:=by
   rw[hr];show finR rFirst ((rep (l.take (i+1))).2.2++[e2])=q
   rw[y60,<- hq,haf]
  have she:y5J (l.take (i+1)++[e2]):=λ x hx=>by
   rcases List.mem_append.1 hx with hx|hx
   ·exact sh x (List.mem_of_mem_take hx)
   ·rw[List.mem_singleton.1 hx];have:=sh _ (List.mem_of_getElem? he);exact this
  rw[y4 (show Kd.command=Kd.command from rfl)]
  simp only[Bool.not_true,cond_false];rw[y3W (show -9223372036854775808<=(i:Int)+1 by omega) (by omega),y3W (show -9223372036854775808<=(i:Int)+2 by omega) (by omega)]
  have hl1:(l.take (i+1)).length=i+1:=by rw[List.length_take];omega
  rw[y4 (show 0<=(i:Int)+1 by omega),y4 (show (i:Int)+1<=(l.length:Int) by omega),show ((i:Int)+1).toNat=i+1 by omega,hl1]
  rw[y4 (show 0+(i+1)<=memMax by unfold memMax;omega),y4 (show 0+([a,b]:List Str).length<=memMax by show 0+2<=memMax;decide),y4 (show 0+([t,v]:List Int).length<=memMax by show 0+2<=memMax;decide),y4 (show i+1+1<=memMax by unfold memMax;omega)]
  simp only[Bool.and_self,cond_true];rw[show yKg (l.take (i+1)++[((i:Int)+2,[99,111,109,109,97,110,100],[a,b],[t,v],[],())])=some (q,0,0,())from by
   rw[show (l.take (i+1)++[((i:Int)+2,([99,111,109,109,97,110,100]:List UInt8),[a,b],[t,v],[],())])=l.take (i+1)++[e2]from rfl,yDY _ she,yDF (by rw[hr]),hfin]]
  simp only[bind_some];rw[show ((0:Int) != 0)=false from rfl]
  simp only[cond_false];have sm:=hqi.small;rw[show yJo (q.fst,(q.snd.fst.fst,q.snd.fst.snd.fst,()),q.snd.snd.fst,q.snd.snd.snd.fst,q.snd.snd.snd.snd.fst,q.snd.snd.snd.snd.snd.fst,q.snd.snd.snd.snd.snd.snd.fst,q.snd.snd.snd.snd.snd.snd.snd.fst,q.snd.snd.snd.snd.snd.snd.snd.snd.fst,q.snd.snd.snd.snd.snd.snd.snd.snd.snd.fst,q.snd.snd.snd.snd.snd.snd.snd.snd.snd.snd.fst,())=some (q,())from regE q sm.g sm.t]
  simp only[bind_some];rw[yQC q sm.g sm.s sm.t];rfl
 ·rw[y6 hd];rfl
where
 kis' {e:Ev} {d:Kd} (h:EvOk e d) (k:Kd):(e.2.1 == k.str)=decide (d=k):=by
  rw[h.kind,y0O];exact decide_eq_decide.2 ⟨yJ3,λ h=>by rw[h]⟩
theorem yJL(l:List Ev)(hl:l.length<=24)(sh:y5J l)(h:(rep l).1=0)(i:Nat)(e:Ev)(he:l[i]?=some e)(p q:Rg)(hp:p=finR rFirst (rep (l.take i)).2.2)(hq:q=finR rFirst (rep (l.take (i+1))).2.2)(j50:List Ev)(j51 j52:Int) :
  yCR e.1 e.2.1 e.2.2.1 e.2.2.2.1 e.2.2.2.2.1 (rTk p) (rRl p).1 (rRl p).2.1 (rRun p) (rHt p) (rSea p) (rBa p) (rSt p) (rCs p) (rGs p) (rSs p) (rTs p) (rTk q) (rRl q).1 (rRl q).2.1 (rRun q) (rHt q) (rSea q) (rBa q) (rSt q) (rCs q) (rGs q) (rSs q) (rTs q) l (i:Int) j50 j51 j52=some (.inr ()):=by
 unfold yCR;rw[yAt];by_cases hk:e.2.1=Kd.undo.str
 ·rw[bifT (y4 hk)]
 rw[bifF (y6 hk)];have st:=yEn (y7J h he).1 hk;have hc:(rep (l.take (i+1))).2.2=(rep (l.take i)).2.2++[e]:=(y7J h he).2.trans st.1;obtain ⟨d,h1⟩:=yCF st.2.2.1;have hpi:Inv p:=by rw[hp];exact yBJ (y2A h i)
 have ha:(aft p e).1=0:=by rw[hp];exact st.2.1
 have hqa:q=(aft p e).2:=by rw[hq,hc,y60,hp]
 rw[bifT (y4 (show (rGs p).length < yD by have:=hpi.gl;unfold yD;omega))]
 have:=y1j (body:=λ i__ e__ (s__:Unit)=>y9p l (i:Int) j50 j51 j52 (rGs p) e.1 e.2.1 e.2.2.1 e.2.2.2.1 e.2.2.2.2.1 (rTk p) (rRl p).1 (rRl p).2.1 (rRun p) (rHt p) (rSea p) (rBa p) (rSt p) (rCs p) (rGs p) (rSs p) (rTs p) (rTk q) (rRl q).1 (rRl q).2.1 (rRun q) (rHt q) (rSea q) (rBa q) (rSt q) (rCs q) (rGs q) (rSs q) (rTs q) i__ e__)
  (fin:=λ (s__:Unit)=>yA2 l (i:Int) j50 j51 j52 (rGs p) e.1 e.2.1 e.2.2.1 e.2.2.2.1 e.2.2.2.2.1 (rTk p) (rRl p).1 (rRl p).2.1 (rRun p) (rHt p) (rSea p) (rBa p) (rSt p) (rCs p) (rGs p) (rSs p) (rTs p) (rTk q) (rRl q).1 (rRl q).2.1 (rRun q) (rHt q) (rSea q) (rBa q) (rSt q) (rCs q) (rGs q) (rSs q) (rTs q))
  (rGs p) (λ pp x r hx=>yJB l i p q hpi e d h1 ha hqa pp.length x (by rw[hx];simp) j50 j51 j52 (rGs p)) (rGs p) [] 0 rfl rfl
 rw[this];exact yG3 l hl sh h i e d h1 he p q hp hq st.2.2.2 hc ha j50 j51 j52 (rGs p)
theorem yGy(l:List Ev)(hl:l.length<=24)(sh:y5J l)(h:(rep l).1=0)(i:Nat)(e:Ev)(he:l[i]?=some e):yLZ l l (i:Int) e=some (.inr ()):=by
 have hi:i < l.length:=(List.getElem?_eq_some_iff.1 he).1;have st:∀ n,y5J (l.take n):=λ n x hx=>sh x (List.mem_of_mem_take hx)
 have ip:=yBJ (y2A h i);have iq:=yBJ (y2A h (i+1));generalize hp:finR rFirst (rep (l.take i)).2.2=p at *;generalize hq:finR rFirst (rep (l.take (i+1))).2.2=q at *;have rest:=yJL l hl sh h i e he p q hp.symm hq.symm;unfold yLZ;rw[y3W (show -9223372036854775808<=(i:Int)+1 by omega) (by omega)]
 rw[y4 (show 0<=(i:Int) by omega),y4 (show (i:Int)<=(l.length:Int) by omega),y4 (show 0<=(i:Int)+1 by omega),y4 (show (i:Int)+1<=(l.length:Int) by omega),show (i:Int).toNat=i by omega,show ((i:Int)+1).toNat=i+1 by omega]
 rw[yDY _ (st i),yDY _ (st (i+1)),yDF (y2A h i),yDF (y2A h (i+1)),hp,hq];simp only[Bool.and_self,cond_true,bind_some];rw[show ((0:Int) != 0)=false from rfl]
 simp only[cond_false];rw[show decide ((q.2.2.2.2.2.2.2.2.1.length:Int) > 24)=false from y6 (by have:=iq.gl;show ¬ ((rGs q).length:Int) > 24;omega),show decide ((p.2.2.2.2.2.2.2.2.1.length:Int) > 24)=false from y6 (by have:=ip.gl;show ¬ ((rGs p).length:Int) > 24;omega)]
 simp only[cond_false];rw[yAt];by_cases hk:e.2.1=Kd.undo.str
 ·rw[y4 hk];unfold yCa;exact rest l (l.length:Int) (i:Int)
 ·rw[y6 hk];simp only[Bool.not_false,cond_true];unfold yCa;by_cases hs:((rSs q).length:Int) > ((rSs p).length:Int)
  ·rw[show decide ((q.2.2.2.2.2.2.2.2.2.1.length:Int) > (p.2.2.2.2.2.2.2.2.2.1.length:Int))=true from y4 hs]
   have sn:=yEn (y7J h he).1 hk;have hc:(rep (l.take (i+1))).2.2=(rep (l.take i)).2.2++[e]:=(y7J h he).2.trans sn.1;obtain ⟨d,h1⟩:=yCF sn.2.2.1;have ha:(aft p e).1=0:=by rw[<- hp];exact sn.2.1
   have hqa:q=(aft p e).2:=by rw[<- hq,hc,y60,hp]
   have hq2:rSs q=rSs (act p (kdE e) (nmE e 0) (nmE e 1) (vlE e 1) (vlE e 2)).2/\rGs q=rGs (act p (kdE e) (nmE e 0) (nmE e 1) (vlE e 1) (vlE e 2)).2:=by rw[hqa,yAX ha];exact ⟨rfl,rfl⟩
   have hsh:=yJZ p ip (kdE e) (nmE e 0) (nmE e 1) (vlE e 1) (vlE e 2) (by rw[<- hq2.1];omega)
   rw[y7m h1]at hsh;have hke:e.2.1=Kd.enter.str:=by rw[h1.kind,hsh.1]
   simp only[cond_true];rw[bifT (y4 (show (rGs q).length < yD by have:=iq.gl;unfold yD;omega))]
   refine (y1j (rGs q) (λ pp x r hx=>?_) (rGs q) [] 0 rfl rfl).trans ?_
   ·unfold yES;have:=hsh.2.2 x (by rw[y7m h1]at hq2;rw[<- hq2.2,hx];simp)
    rw[this];rfl
   ·unfold yEr;rw[show (e.snd.fst == ([101,110,116,101,114]:List UInt8))=true from beq_iff_eq.2 hke,show (p.2.2.2.2.2.2.1 == ([111,112,101,110]:List UInt8))=true from beq_iff_eq.2 hsh.2.1]
    exact rest l (l.length:Int) (i:Int)
  ·rw[show decide ((q.2.2.2.2.2.2.2.2.2.1.length:Int) > (p.2.2.2.2.2.2.2.2.2.1.length:Int))=false from y6 hs]
   exact rest l (l.length:Int) (i:Int)
theorem yJi(l:List Ev):zu_M l=some (true,()):=by
 unfold zu_M;obtain ⟨b,hb,hs⟩:=yDJ l 24 (by decide)
 rw[show yJs l 24=some (b,())from hb]
 simp only[bind_some,y9o];cases b with
 |false=>rfl
 |true =>
  obtain ⟨h1,h2,h3⟩:=hs rfl;simp only[Bool.not_true,cond_false];rw[bifT (y4 (show l.length < yD by unfold yD;omega))]
  refine yIQ l (λ i e he=>yGy l h1 (yIm h2) h3 i e he) ?_
  unfold yNB;rw[y9o];rfl
end Go.Tw
