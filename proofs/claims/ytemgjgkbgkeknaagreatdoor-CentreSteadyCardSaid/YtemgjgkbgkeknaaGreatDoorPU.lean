import Derived.Test.YtemgjgkbgkeknaaGreatDoorP9
import Derived.Test.YtemgjgkbgkeknaaGreatDoorP8
import Derived.Test.YtemgjgkbgkeknaaGreatDoorBNights
set_option linter.all false
open List (length_append length_cons)
open Option (bind_some)
open Nat (le_refl)
section
set_option maxRecDepth 100000
namespace Go.Tw
open Go.Vx Go.Vx.B Go.Proofs
abbrev Ln:=Int×Str×Str×Unit
def isDk(d:Kd):Bool:=match d with|.decide|.override=>true|_=>false
def lnE(q:Rg)(e:Ev):List Ln:=if isDk (kdE e)=true then [(vlE e 0,adv q,nmE e 0,())]else []
def lns:Rg->List Ev->List Ln
 |_,[]=>[]
 |r,e::c=>lnE r e++lns (aft r e).2 c
theorem yJ3{e:Ev}{d:Kd}(h:EvOk e d)(hd:0 < d.nn):idx e.2.2.1 0=some (nmE e 0):=by
 have h1:0 < e.2.2.1.length:=by rw[h.nn];exact hd
 rw[show (0:Int)=((0:Nat):Int)from rfl,y00,List.getElem?_eq_getElem h1]
 simp[List.getD,List.getElem?_eq_getElem h1]
theorem yDg{d:Kd}(h:isDk d=true):0 < d.nn/\d≠.undo:=by cases d<;>first|exact absurd h (by decide)|exact ⟨by decide,by decide⟩
theorem y8E(q:Rg)(e:Ev):(lnE q e).length<=1:=by unfold lnE;split<;>simp
theorem yB0:∀ (c:List Ev) (r:Rg),(lns r c).length<=c.length
 |[],_=>le_refl _
 |e::c,r=>by
  unfold lns;rw[length_append,length_cons];have:=yB0 c (aft r e).2;have:=y8E r e;omega
theorem kis{e:Ev}{d:Kd}(h:EvOk e d)(k:Kd):(e.2.1 == k.str)=decide (d=k):=by
 rw[h.kind,yz];exact decide_eq_decide.2 ⟨y3M,λ h=>by rw[h]⟩
theorem yA7{e:Ev}{d:Kd}(h:EvOk e d):(z02 e).1=isDk d:=by
 unfold z02;rw[show (e.snd.fst == ([100,101,99,105,100,101]:List UInt8))=decide (d=.decide)from kis h .decide,show (e.snd.fst == ([111,118,101,114,114,105,100,101]:List UInt8))=decide (d=.override)from kis h .override]
 cases d<;>rfl
def inN(f t:Int)(x:Ln):Bool:=decide (f<=x.1/\x.1 < t)
theorem y80(c:List Ev)(f t:Int)(hc:c.length<=1000)(ev:List Ev):∀ (r done:List Ev) (out:List Ln),c=done++r->okC (finR rFirst done) r->out.length<=done.length ->
  yR (λ i__ e__ s__=>yDF f t c ev c (sts rFirst c) i__ e__ s__) (λ s__=>yHf f t c ev c (sts rFirst c) s__) (done.length:Int) r out=some (out++(lns (finR rFirst done) r).filter (inN f t),0,())
 |[],done,out,hl,_,_=>by
  rw[y1A];show some (out,0,())=_
  simp[lns]
 |e::r,done,out,hl,ho,hout=>by
  obtain ⟨d,h1,h2⟩:=ho.1;have hlen:c.length=done.length+(r.length+1):=by rw[hl];simp
  have step:yDF f t c ev c (sts rFirst c) (done.length:Int) e out=some (.inr (out++(lnE (finR rFirst done) e).filter (inN f t))):=by
   unfold yDF y8W;rw[yFr h1 h2];simp only[bind_some];rw[show (z02 (e.fst,e.snd.fst,e.snd.snd.fst,e.snd.snd.snd.fst,e.snd.snd.snd.snd.fst,())).fst=isDk d from yA7 h1]
   unfold lnE;rw[y3j h1];cases hk:isDk d with
   |false=>simp
   |true =>
    simp only[cond_true,if_true];have hx:idx (sts rFirst c) (done.length:Int)=some (finR rFirst done):=by
     rw[y00,yF2 c rFirst done.length (by omega),hl,List.take_left]
    rw[hx,yJ3 h1 (yDg hk).1];simp only[bind_some,advC];rw[show decide (out.length+1<=memMax)=true from y4 (y7C _ (by omega))]
    by_cases h3:f<=vlE e 0
    ·rw[show decide (vlE e 0 >= f)=true from y4 h3]
     by_cases h4:vlE e 0 < t
     ·rw[show decide (vlE e 0 < t)=true from y4 h4]
      rw[List.filter_cons,if_pos (show inN f t (vlE e 0,adv (finR rFirst done),nmE e 0,())=true from y4 ⟨h3,h4⟩)]
      rfl
     ·rw[show decide (vlE e 0 < t)=false from y5 h4]
      rw[List.filter_cons,if_neg (show ¬ inN f t (vlE e 0,adv (finR rFirst done),nmE e 0,())=true from λ h=>h4 (of_decide_eq_true h).2)]
      simp
    ·rw[show decide (vlE e 0 >= f)=false from y5 h3]
     rw[List.filter_cons,if_neg (show ¬ inN f t (vlE e 0,adv (finR rFirst done),nmE e 0,())=true from λ h=>h3 (of_decide_eq_true h).1)]
     simp
  rw[yZ,step];simp only[bind_some];have hf:=yFt e done rFirst;have fl:=List.length_filter_le (inN f t) (lnE (finR rFirst done) e);have l1:=y8E (finR rFirst done) e;have:=y80 c f t hc ev r (done++[e]) (out++(lnE (finR rFirst done) e).filter (inN f t)) (by rw[hl];simp) (by rw[hf];exact ho.2.2) (by simp;omega)
  simp only[length_append,length_cons,List.length_nil]at this;refine this.trans ?_
  rw[hf];show _=some (out++(lnE (finR rFirst done) e++lns (aft (finR rFirst done) e).2 r).filter (inN f t),0,())
  rw[List.filter_append,List.append_assoc]
def yCJ(l:List Ev)(f t:Int):Int:=yp (rep l).1 (yp (ckR f 0 999999999) (yp (ckR t 0 999999999) (bif decide (t < f)then 11 else 0)))
def y0C(l:List Ev)(f t:Int):List Ln:=(lns rFirst (rep l).2.2).filter (inN f t)
theorem yFL(l:List Ev)(hs:y2o l)(f t:Int):yOq l f t=some (if yCJ l f t=0 then y0C l f t else [],yCJ l f t,()):=by
 unfold yOq yCJ y0C;rw[crep l hs];unfold repC;by_cases h:(rep l).1=0
 ·have ok:=y6s h;rw[if_pos h,h];simp only[bind_some,yIh,y5r,y0l];generalize hE:yp 0 (yp (ckR f 0 999999999) (yp (ckR t 0 999999999) (bif decide (t < f)then 11 else 0)))=E
  by_cases h2:E=0
  ·rw[h2,if_pos rfl,bifF (show ((0:Int) != 0)=false from rfl),bifT (y4 (show (rep l).2.2.length < yB by have:=ok.2.1;have:=ok.2.2;unfold yB;omega))]
   exact y80 _ f t (by have:=ok.2.1;have:=ok.2.2;omega) l _ [] [] rfl ok.1 (le_refl _)
  ·rw[if_neg h2,bifT (show (E != 0)=true by simp[h2])]
 ·rw[if_neg h];simp only[bind_some,yIh];rw[show ∀ x,yp (rep l).1 x=(rep l).1 from λ x=>by unfold yp;simp[h],show ∀ x,yp (rep l).1 x=(rep l).1 from λ x=>by unfold yp;simp[h],bifT (show ((rep l).1 != 0)=true by simp[h]),if_neg h]
def wup(q:Rg)(e:Ev):Rg:=match kdE e with
 |.decide|.override=>decd q (adv q)
 |.forecast=>(act q .forecast (nmE e 0) (nmE e 1) (vlE e 1) (vlE e 2)).2
 |.level=>(act q .level (nmE e 0) (nmE e 1) (vlE e 1) (vlE e 2)).2
 |_=>q
def wln:Rg->List Ev->List Ln
 |_,[]=>[]
 |q,e::c=>lnE q e++wln (wup q e) c
theorem yKM:∀ (c:List Ev) (r:Rg),(wln r c).length<=c.length
 |[],_=>le_refl _
 |e::c,r=>by
  unfold wln;rw[length_append,length_cons];have:=yKM c (wup r e);have:=y8E r e;omega
theorem yEC(r:Rg)(d:Kd)(a b:Str)(v w:Int)(h:d≠.forecast):rRun (act r d a b v w).2=rRun r:=by
 unfold act;cases d<;>first|exact absurd rfl h|rfl|(simp only;(repeat' split)<;>rfl)
def yLz(q r:Rg):Prop:=rRun q=rRun r
theorem wact{q r:Rg}(h:yLz q r){e:Ev}(h0:(aft r e).1=0):yLz (wup q e) (aft r e).2/\((kdE e=.forecast\/kdE e=.level)->(act q (kdE e) (nmE e 0) (nmE e 1) (vlE e 1) (vlE e 2)).1=0):=by
 unfold aft aftK at h0 ⊢;split at h0
 ·cases h0
 rename_i hn;rw[if_neg hn];unfold yLz wup;show rRun (match kdE e with|.decide|.override=>decd q (adv q)|.forecast=>(act q .forecast (nmE e 0) (nmE e 1) (vlE e 1) (vlE e 2)).2|.level=>(act q .level (nmE e 0) (nmE e 1) (vlE e 1) (vlE e 2)).2|_=>q)=rRun (act r (kdE e) (nmE e 0) (nmE e 1) (vlE e 1) (vlE e 2)).2/\_
 simp only at h0;cases hk:kdE e<;>rw[hk]at h0
 case forecast =>
  unfold act at h0 ⊢;simp only at h0 ⊢;split at h0
  ·cases h0
  split at h0
  ·cases h0
  rename_i h1 h2;have h2':¬ vlE e 1<=rRun q:=by rw[show rRun q=rRun r from h];exact h2
  rw[if_neg h1,if_neg h2',if_neg h1,if_neg h2];exact ⟨rfl,λ _=>rfl⟩
 case level =>
  refine ⟨?_,λ _=>?_⟩
  ·rw[yEC r .level _ _ _ _ (by decide)]
   show rRun (act q .level _ _ _ _).2=_
   rw[yEC q .level _ _ _ _ (by decide)]
   exact h
  ·unfold act at h0 ⊢;simp only at h0 ⊢;split at h0
   ·rename_i h1;rw[if_pos h1];split at h0
    ·cases h0
    ·rename_i h2;rw[if_neg h2]
   ·rename_i h1;rw[if_neg h1];split at h0
    ·rename_i h1;rw[if_pos h1];split at h0
     ·cases h0
     ·rename_i h2;rw[if_neg h2]
    ·cases h0
 all_goals
  refine ⟨?_,λ h=>by rcases h with h|h<;>cases h⟩
  rw[yEC r _ _ _ _ _ (by decide)]
  exact h
def y57(rl:Rl):Rg:=mkR 0 rl 0 0 0 0 y3f 0 [] [] []
end Go.Tw
end
section
set_option maxRecDepth 100000
namespace Go.Tw
open Go.Vx Go.Vx.B Go.Proofs
abbrev W7:=Int×Int×Int×Int×Str×Int×List Ln
abbrev w7 (q:Rg)(out:List Ln):W7:=(rRun q,rHt q,rSea q,rBa q,rSt q,rCs q,out)
structure Frm (rl:Rl) (q:Rg):Prop where
 tk:rTk q=0
 rl:rRl q=rl
 gs:rGs q=[]
 ss:rSs q=[]
 ts:rTs q=[]
theorem yOC{rl:Rl}{q:Rg}(h:Frm rl q)(e:Ev):Frm rl (wup q e):=by
 unfold wup;cases kdE e;case decide=>exact ⟨h.tk,h.rl,h.gs,h.ss,h.ts⟩
 case override=>exact ⟨h.tk,h.rl,h.gs,h.ss,h.ts⟩
 case forecast =>
  unfold act;simp only
  (repeat' split)<;>exact ⟨h.tk,h.rl,h.gs,h.ss,h.ts⟩
 case level =>
  unfold act;simp only
  (repeat' split)<;>exact ⟨h.tk,h.rl,h.gs,h.ss,h.ts⟩
 all_goals exact h
theorem yEd{rl:Rl}{body:Int->Ev->W7->Option ((List Ln×Int×Unit)⊕W7)}{fin:W7->Option (List Ln×Int×Unit)}
  (hb:∀ (i:Nat) e d q out,EvOk e d->d≠.undo->Frm rl q->out.length<=1000->((kdE e=.forecast\/kdE e=.level)->(act q (kdE e) (nmE e 0) (nmE e 1) (vlE e 1) (vlE e 2)).1=0)->body (i:Int) e (w7 q out)=some (.inr (w7 (wup q e) (out++lnE q e))))
  (hf:∀ q out,fin (w7 q out)=some (out,0,())) (cnt:List Ev) (hc:cnt.length<=1000):∀ (r done:List Ev) (q p:Rg) (out:List Ln),cnt=done++r->okC p r->yLz q p->Frm rl q->out.length<=done.length ->
  yR body fin (done.length:Int) r (w7 q out)=some (out++wln q r,0,())
 |[],done,q,p,out,hl,_,_,_,_=>by
  rw[y1A,hf];simp[wln]
 |e::r,done,q,p,out,hl,ho,hq,hfr,hout=>by
  have hlen:cnt.length=done.length+(r.length+1):=by rw[hl];simp
  obtain ⟨d,h1,h2⟩:=ho.1;have w:=wact hq ho.2.1;rw[yZ,hb done.length e d q out h1 h2 hfr (by omega) w.2]
  simp only[bind_some];have l1:=y8E q e;have:=yEd hb hf cnt hc r (done++[e]) (wup q e) (aft p e).2 (out++lnE q e) (by rw[hl];simp) ho.2.2 w.1 (yOC hfr e) (by simp;omega)
  simp only[length_append,length_cons,List.length_nil]at this;refine this.trans ?_
  show _=some (out++(lnE q e++wln (wup q e) r),0,())
  rw[List.append_assoc]
def y7F(l:List Ev)(rl:Rl):Int:=yp (rep l).1 (ckRl rl.1 rl.2.1)
theorem yOv(l:List Ev)(hs:y2o l)(rl:Rl):yId l rl=some (if y7F l rl=0 then wln (y57 rl) (rep l).2.2 else [],y7F l rl,()):=by
 unfold yId y7F;rw[crep l hs,show zq_M rl=some (ckRl rl.1 rl.2.1,())from yQD rl.1 rl.2.1]
 unfold repC;by_cases h:(rep l).1=0
 ·have ok:=y6s h;rw[if_pos h,h];simp only[bind_some,y5Y];generalize hE:yp 0 (ckRl rl.1 rl.2.1)=E;by_cases h2:E=0
  ·rw[h2,if_pos rfl,bifF (show ((0:Int) != 0)=false from rfl),bifT (y4 (show (rep l).2.2.length < yB by have:=ok.2.1;have:=ok.2.2;unfold yB;omega))]
   refine yEd (rl:=rl) (λ i e d q out h1 h2 hq ho hw=>?_) (λ q out=>rfl) (rep l).2.2 (by have:=ok.2.1;have:=ok.2.2;omega) (rep l).2.2 [] (y57 rl) rFirst [] rfl ok.1 rfl ⟨rfl,rfl,rfl,rfl,rfl⟩ (le_refl _)
   obtain ⟨tk,rl2,run,ht,se,ba,st,cs,gs,ss,ts,⟨⟩⟩:=q;obtain ⟨rfl,rfl,rfl,rfl,rfl⟩:=hq;generalize hq:mkR 0 rl2 run ht se ba st cs [] [] []=q at *;have hq':(0,rl2,run,ht,se,ba,st,cs,[],[],[],())=q:=hq;unfold yJ0 lnE wup;rw[hq']at hw ⊢;rw[y3j h1]at hw ⊢;rw[show (z02 (e.fst,e.snd.fst,e.snd.snd.fst,e.snd.snd.snd.fst,e.snd.snd.snd.snd.fst,())).fst=isDk d from yA7 h1]
   rw[show (e.snd.fst == ([102,111,114,101,99,97,115,116]:List UInt8))=decide (d=.forecast)from kis h1 .forecast,show (e.snd.fst == ([108,101,118,101,108]:List UInt8))=decide (d=.level)from kis h1 .level]
   rw[advC q];cases hk:isDk d with
   |true =>
    rw[yFr h1 h2,yJ3 h1 (yDg hk).1];simp only[cond_true,bind_some,if_true];rw[show decide ((w7 q out).snd.snd.snd.snd.snd.snd.length+1<=memMax)=true from y4 (y7C _ ho)]
    have hd2:d=.decide\/d=.override:=by
     cases d<;>first|exact absurd hk (by decide)|exact .inl rfl|exact .inr rfl
    rcases hd2 with rfl|rfl
    all_goals
     show _=some (Sum.inr (w7 (decd q (adv q)) (out++[(vlE e 0,adv q,nmE e 0,())])))
     unfold decd;simp only[yz,cond_true];by_cases k1:adv q=sWait
     ·have k3:¬ (adv q=sClose/\rSt q≠sClose):=λ h=>by rw[k1]at h;exact absurd h.1 (by decide)
      rw[show decide (adv q=[119,97,105,116])=true from y4 k1,if_pos k1,if_neg k3]
      rfl
     ·rw[show decide (adv q=[119,97,105,116])=false from y5 k1,if_neg k1]
      by_cases k2:adv q=sClose
      ·rw[show decide (adv q=[99,108,111,115,101])=true from y4 k2]
       by_cases k4:rSt q=sClose
       ·rw[show decide (rSt q=[99,108,111,115,101])=true from y4 k4,if_neg (show ¬ (adv q=sClose/\rSt q≠sClose)from λ h=>h.2 k4)]
        rfl
       ·rw[show decide (rSt q=[99,108,111,115,101])=false from y5 k4,if_pos (show (adv q=sClose/\rSt q≠sClose)from ⟨k2,k4⟩)]
        rfl
      ·rw[show decide (adv q=[99,108,111,115,101])=false from y5 k2,if_neg (show ¬ (adv q=sClose/\rSt q≠sClose)from λ h=>k2 h.1)]
       rfl
   |false =>
    simp only[cond_false,Bool.false_eq_true,if_false,List.append_nil];cases d;case forecast =>
     obtain ⟨n,t,v,w,rfl⟩:=ev03 h1 rfl rfl;have hx3:=hw (.inl rfl);have hx4:(act q .forecast [] [] v w).1=0:=hx3;show (bif true then (idx [t,v,w] 1).bind _ else _)=some (Sum.inr (w7 (act q .forecast [] [] v w).2 out))
     unfold act at hx4 ⊢;simp only at hx4 ⊢;split at hx4
     ·cases hx4
     split at hx4
     ·cases hx4
     rename_i k1 k2;rw[if_neg k1,if_neg k2];rfl
    case level =>
     obtain ⟨n,a,t,v,rfl⟩:=ev12 h1 rfl rfl;have hx3:=hw (.inr rfl);have hx4:(act q .level a [] v 0).1=0:=hx3;show (bif false then _ else bif true then (idx [a] 0).bind _ else _)=some (Sum.inr (w7 (act q .level a [] v 0).2 out))
     unfold act at hx4 ⊢;simp only[cond_false,cond_true,ix0,ix1,bind_some,yz]at hx4 ⊢;split at hx4
     ·rename_i k1;rw[if_pos k1,show decide (a=[115,101,97])=true from y4 k1]
      split at hx4
      ·cases hx4
      ·rename_i k2;rw[if_neg k2];rfl
     ·rename_i k1;rw[if_neg k1,show decide (a=[115,101,97])=false from y5 k1]
      split at hx4
      ·rename_i k1;rw[if_pos k1,show decide (a=[98,97,115,105,110])=true from y4 k1]
       split at hx4
       ·cases hx4
       ·rename_i k2;rw[if_neg k2];rfl
      ·cases hx4
    all_goals first|exact absurd hk (by decide)|rfl
  ·rw[if_neg h2,bifT (show (E != 0)=true by simp[h2])]
 ·rw[if_neg h];simp only[bind_some,y5Y];rw[show ∀ x,yp (rep l).1 x=(rep l).1 from λ x=>by unfold yp;simp[h],bifT (show ((rep l).1 != 0)=true by simp[h]),if_neg h]
def difF:List Ln->Int->List Int
 |[],_=>[]
 |x::l,i=>if x.2.1=x.2.2.1 then difF l (i+1)else i::difF l (i+1)
theorem yEj{β:Type}{body:Int->Ln->List Int->Option (β⊕List Int)}{fin:List Int->Option β}(xs:List Ln)(hx:xs.length<=1000)
  (hb:∀ (i:Nat) x s,xs[i]?=some x->s.length+1<=memMax->body (i:Int) x s=some (.inr (if x.2.1=x.2.2.1 then s else s++[(i:Int)]))):∀ (r done:List Ln) (s:List Int),xs=done++r->s.length<=done.length->yR body fin (done.length:Int) r s=fin (s++difF r (done.length:Int))
 |[],done,s,_,_=>by simp[y1A,difF]
 |x::r,done,s,hd,hs=>by
  have hlen:xs.length=done.length+(r.length+1):=by rw[hd];simp
  rw[yZ,hb done.length x s (by rw[hd];simp) (y7C _ (by omega))]
  simp only[bind_some];have ih:∀ s:List Int,s.length<=done.length+1->yR body fin ((done.length:Int)+1) r s=fin (s++difF r ((done.length:Int)+1)):=λ s hs=>by
   have:=yEj (fin:=fin) xs hx hb r (done++[x]) s (by rw[hd];simp) (by simpa using hs)
   simpa using this
  unfold difF;split
  ·exact ih s (by omega)
  ·rw[ih _ (by simp;omega)]
   simp
theorem eqVl(a b c d:Int)(x y z w:Str):eqV ((Ty.int IntKind.i64).pair (Ty.str.pair (Ty.str.pair Ty.unit))) (a,x,y,()) (b,z,w,())=decide (a=b/\x=z/\y=w):=by
 by_cases h1:a=b<;>by_cases h2:x=z<;>by_cases h3:y=w<;>simp[eqV,h1,h2,h3]
theorem yR3(v:Ln):eqV ((Ty.int IntKind.i64).pair (Ty.str.pair (Ty.str.pair Ty.unit))) (v.fst,v.snd.fst,v.snd.snd.fst,()) (v.fst,v.snd.snd.fst,v.snd.snd.fst,())=decide (v.2.1=v.2.2.1):=by
 rw[eqVl]
 ·exact decide_eq_decide.2 ⟨λ h=>h.2.1,λ h=>⟨rfl,h,rfl⟩⟩
 ·exact 0
 ·exact 0
theorem yRT(v:Ln):eqV ((Ty.int IntKind.i64).pair (Ty.str.pair (Ty.str.pair Ty.unit))) v v=true:=by
 obtain ⟨a,x,y,⟨⟩⟩:=v;rw[eqVl]
 ·exact y4 ⟨rfl,rfl,rfl⟩
 ·exact 0
 ·exact 0
theorem yRk(l:List Ev)(hs:y2o l)(rl:Rl):zb_M l rl=some (if y7F l rl=0 then difF (wln (y57 rl) (rep l).2.2) 0 else [],y7F l rl,()):=by
 unfold zb_M;rw[yOv l hs rl];simp only[bind_some];by_cases h:y7F l rl=0
 ·rw[if_pos h,if_pos h,h,bifF (show ((0:Int) != 0)=false from rfl)]
  have h0:(rep l).1=0:=by
   unfold y7F yp at h;split at h
   ·exact h
   ·rename_i g;simpa using g
  have ok:=y6s h0;have hl:(wln (y57 rl) (rep l).2.2).length<=1000:=by have:=yKM (rep l).2.2 (y57 rl);have:=ok.2.1;have:=ok.2.2;omega
  rw[bifT (y4 (show (wln (y57 rl) (rep l).2.2).length < yB by unfold yB;omega))]
  rw[show (0:Int)=((([]:List Ln).length:Nat):Int)from rfl,yEj (wln (y57 rl) (rep l).2.2) hl (λ i x s hx hs=>by
   unfold yNC;rw[yR3 x,y4 hs];by_cases k:x.2.1=x.2.2.1
   ·rw[y4 k,if_pos k];rfl
   ·rw[y5 k,if_neg k];rfl) _ [] [] rfl (le_refl _)]
  rfl
 ·rw[if_neg h,if_neg h,bifT (show (y7F l rl != 0)=true by simp[h])]
theorem yFf(xs:List Ln)(hx:xs.length<=1000):yO6 xs=some (xs,()):=by
 unfold yO6;rw[bifT (y4 (show xs.length < yB by unfold yB;omega)),y49 id xs 0 [] (by simp;exact nmem _ hx) λ i e s he hs=>by
  unfold yIm;rw[bifT (y4 hs)];rfl]
 unfold yJ7;simp
theorem yP5(xs:List Ln)(hx:xs.length<=1000):yOu xs xs=some (true,()):=by
 unfold yOu;rw[bifF (show ((xs.length:Int) != (xs.length:Int))=false by simp),bifT (y4 (show xs.length < yB by unfold yB;omega)),y6M xs (λ p x r e=>by
  unfold yJr;rw[e,yEA p x r _ rfl];simp only[bind_some];rw[yRT x];rfl) xs [] 0 rfl rfl]
 rfl
end Go.Tw
end
