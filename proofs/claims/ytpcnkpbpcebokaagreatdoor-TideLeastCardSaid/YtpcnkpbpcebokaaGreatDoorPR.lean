import Derived.Test.YtpcnkpbpcebokaaGreatDoorPC
set_option linter.all false
set_option maxRecDepth 100000
open List (any_cons any_eq_true)
open Option (bind_some)
namespace Go.Tw
open Go.Vx Go.Vx.B Go.Proofs Ieee
abbrev Rec:=List UInt8×Int×List Nat×List Gau×Unit
theorem y5o(l:List Int)(h:l.length < lenMax):yBm l=some (y09 l,()):=by
 unfold yBm;rw[bifT (y7 h),y1j (λ e=>if e != 0 then some (e,())else none) l 0 (λ i e _=>by
  unfold yKr;cases he:(e != 0)<;>rfl),y6J]
 unfold y09 yIt;cases l.find? (· != 0)<;>rfl
theorem yHb(n lo hi:Int):z0B n lo hi=(ckR n lo hi,()):=by
 unfold z0B ckR;by_cases h1:n < lo
 ·rw[bifT (y7 h1),y4f,cond_true,if_pos (.inl h1)]
 ·rw[bifF (yE h1),y4f];by_cases h2:n > hi
  ·rw[y7 h2,cond_true,if_pos (.inr h2)]
  ·rw[yE h2,cond_false,if_neg (by omega)]
theorem yMd{α:Type}(q:α->Int)(l:List α):l.findSome? (λ x=>if q x != 0 then some (q x,())else none)=if y09 (l.map q)=0 then none else some (y09 (l.map q),()):=by
 induction l with
 |nil=>rfl
 |cons x l ih =>
  rw[List.findSome?_cons,List.map_cons,yM];by_cases h:q x=0
  ·rw[show (q x != 0)=false by simp[h],h,yQ]
   exact ih
  ·rw[show (q x != 0)=true by simp[h],yb h,if_neg h]
   rfl
theorem yLi{α:Type}{body:Int->α->Unit->Option ((Int×Unit)⊕Unit)}{fin:Unit->Option (Int×Unit)}(q:α->Int)(l:List α)(i:Int)
  (h:∀ i e,e∈l->body i e ()=some (if q e != 0 then .inl (q e,())else .inr ())):yH body fin i l ()=if y09 (l.map q)=0 then fin ()else some (y09 (l.map q),()):=by
 rw[y1j (λ z=>if q z != 0 then some (q z,())else none) l i λ i e he=>by rw[h i e he];cases (q e != 0)<;>rfl]
 rw[yMd];by_cases h:y09 (l.map q)=0
 ·rw[if_pos h,if_pos h]
 ·rw[if_neg h,if_neg h]
theorem y6m(xs:List Nat):∀ (l:List Nat) (i:Int) (w:Int),(w=0\/l=[])->w=0 ->
  yH (λ i__ e__ s__=>yMH xs i__ e__ s__) (λ s__=>yQS xs s__) i l w=some (y09 (l.map lvE),())
 |[],i,w,_,hw=>by subst hw;rfl
 |x::l,i,w,_,hw=>by
  rw[yU];unfold yMH;rw[yK7];simp only[bind_some,List.map_cons];rw[yM];by_cases h:lvE x=0
  ·rw[bifF (by simp[h]),h,yQ]
   exact y6m xs l (i+1) 0 (.inl rfl) rfl
  ·rw[bifT (by simp[h]),yb h]
   rfl
theorem yHp(l:List Nat)(h:l.length < lenMax):zU_M l=some (y09 (l.map lvE),()):=by
 unfold zU_M;rw[bifT (y7 h)];exact y6m l l 0 0 (.inl rfl) rfl
def y70(s:Gau):Int:=if s.1 < 0\/s.2.1<=s.1\/100000 < s.2.1 then 14 else 0
def spE(p:Option Gau)(s:Gau):Int:=yP (y70 s) (match p with|some q=>if s.1<=q.2.1 then 11 else 0|none=>0)
def y3m:Option Gau->List Gau->Int
 |_,[]=>0
 |p,s::l=>yP (spE p s) (y3m (some s) l)
def y3X(l:List Gau):Int:=if 2048 < l.length then 5 else y3m none l
theorem yJW(s:Gau):zm s=(y70 s,()):=by
 unfold zm y70;by_cases h1:s.1 < 0
 ·rw[bifT (y7 h1),if_pos (.inl h1)]
 ·rw[bifF (yE h1)];by_cases h2:s.2.1<=s.1
  ·rw[bifT (y7 h2),if_pos (.inr (.inl h2))]
  ·rw[bifF (yE h2)];by_cases h3:s.2.1 > 100000
   ·rw[bifT (y7 h3),if_pos (.inr (.inr h3))]
   ·rw[bifF (yE h3),if_neg (by omega)]
theorem yJF(s:Gau):zj s=(y70 s,()):=by
 unfold zj y70;simp only[y4f,cond_true];by_cases h1:s.1 < 0
 ·rw[bifT (y7 h1),if_pos (.inl h1)]
 ·rw[bifF (yE h1)];by_cases h2:s.1 >= s.2.1
  ·rw[bifT (y7 h2),if_pos (.inr (.inl h2))]
  ·rw[bifF (yE h2)];by_cases h3:s.2.1 > 100000
   ·rw[y7 h3,if_pos (.inr (.inr h3)),cond_true]
   ·rw[yE h3,if_neg (by omega),cond_false]
theorem y69{body:Int->Gau->Unit->Option ((Int×Unit)⊕Unit)}{fin:Unit->Option (Int×Unit)}(xs:List Gau)(hf:fin ()=some (0,()))
  (hb:∀ (i:Nat) s,xs[i]?=some s->body (i:Int) s ()=some (bif spE (if i=0 then none else xs[i - 1]?) s != 0 then .inl (spE (if i=0 then none else xs[i - 1]?) s,())else .inr ())) :
  ∀ (l done:List Gau),xs=done++l->yH body fin (done.length:Int) l ()=some (y3m (if done.length=0 then none else xs[done.length - 1]?) l,())
 |[],done,_=>by rw[y1o,hf];rfl
 |s::l,done,hx=>by
  rw[yU,hb done.length s (by rw[hx];simp)]
  unfold y3m;simp only[bind_some];have ih:=y69 (body:=body) (fin:=fin) xs hf hb l (done++[s]) (by rw[hx];simp)
  simp only[List.length_append,List.length_cons,List.length_nil]at ih;rw[if_neg (by omega),show xs[done.length+(0+1) - 1]?=some s by rw[hx];simp]at ih
  generalize spE (if done.length=0 then none else xs[done.length - 1]?) s=e
  by_cases h:e=0
  ·subst h;rw[yQ];exact ih
  ·rw[bifT (by simpa using h),yb h]
theorem yJ7(l:List Gau):zd_M l=some (y3X l,()):=by
 unfold zd_M y3X;by_cases h1:2048 < l.length
 ·rw[bifT (y7 (by omega)),if_pos h1]
 ·rw[bifF (yE (by omega)),if_neg h1,bifT (y7 (by unfold lenMax;omega))]
  refine y69 (body:=λ i__ e__ s__=>yNc l i__ e__) (fin:=λ s__=>yQ4 l) l rfl (λ i s hs=>?_) l [] rfl
  have hi:i < l.length:=(List.getElem?_eq_some_iff.1 hs).1;unfold yNc spE;rw[yJW];by_cases h2:y70 s=0
  ·simp only[h2];rw[bifF (by rfl),yQ]
   by_cases h0:i=0
   ·subst h0;rw[bifF (by rfl)]
    rfl
   ·have hw:IntKind.i64.wrap ((i:Int) - 1)=((i - 1:Nat):Int):=by rw[y04 (by omega) (by omega)];omega
    rw[bifT (y7 (by omega)),y0M,hs,hw,y0M,List.getElem?_eq_getElem (show i - 1 < l.length by omega),if_neg h0]
    simp only[bind_some];by_cases h3:s.1<=(l[i - 1]'(by omega)).2.1
    ·rw[bifT (y7 h3),if_pos h3];rfl
    ·rw[bifF (yE h3),if_neg h3];rfl
  ·have h14:y70 s=14:=by
    unfold y70 at h2 ⊢;split
    ·rfl
    ·rename_i h;rw[if_neg h]at h2;exact absurd rfl h2
   rw[bifT (by simpa using h2),yb h2,bifT (by simpa using h2),h14]
theorem yLK(l:List Gau):zZ_M l=some (y3X l,()):=by
 unfold zZ_M y3X;by_cases h1:2048 < l.length
 ·rw[bifT (y7 (by omega)),if_pos h1]
 ·rw[bifF (yE (by omega)),if_neg h1,bifT (y7 (by unfold lenMax;omega))]
  refine y69 (body:=λ i__ e__ s__=>yML l l i__ e__) (fin:=λ s__=>yPH l l) l rfl (λ i s hs=>?_) l [] rfl
  have hi:i < l.length:=(List.getElem?_eq_some_iff.1 hs).1;unfold yML spE;simp only[yJF,y4f,cond_false,if_true];by_cases h0:i=0
  ·subst h0;rw[bifF (by rfl),y5o _ (y5Q _ _),yM,yM,y0Q,y0B]
   simp only[bind_some,if_true];cases (yP (y70 (s.1,s.2.1,())) 0 != 0)<;>rfl
  ·have hw:IntKind.i64.wrap ((i:Int) - 1)=((i - 1:Nat):Int):=by rw[y04 (by omega) (by omega)];omega
   have hm:(if IntKind.i64.wrap ((i:Int) - 1) > 0 then IntKind.i64.wrap ((i:Int) - 1)else 0)=((i - 1:Nat):Int):=by
    rw[hw];split<;>omega
   rw[bifT (y7 (by omega)),hm,y0M,List.getElem?_eq_getElem (show i - 1 < l.length by omega),if_neg h0]
   simp only[bind_some];have hb:(bif decide (s.1<=(l[i - 1]'(by omega)).2.1)then (11:Int)else 0)=if s.1<=(l[i - 1]'(by omega)).2.1 then 11 else 0:=by
    by_cases h3:s.1<=(l[i - 1]'(by omega)).2.1
    ·rw[y7 h3,if_pos h3];rfl
    ·rw[yE h3,if_neg h3];rfl
   rw[hb,y5o _ (y5Q _ _),yM,yM,y0Q,y0B];simp only[bind_some];show (bif yP (y70 s) _ != 0 then _ else _)=_
   cases (yP (y70 s) (if s.1<=(l[i - 1]'(by omega)).2.1 then 11 else 0) != 0)<;>rfl
def has(l:List Gau)(t:Int):Bool:=l.any λ s=>decide (s.1<=t/\t < s.2.1)
theorem has_eq(l:List Gau)(t:Int)(hl:l.length < lenMax):yI1 l t=some (has l t,()):=by
 unfold yI1;have key:=y3e (body:=λ i__ e__ s__=>yFx l t i__ e__) (fin:=λ s__=>yJq l t) l (λ s:Gau=>if decide (s.1<=t/\t < s.2.1)=true then some (true,())else none) l [] rfl (λ i e he=>by
  unfold yFx;by_cases h1:t >= e.1
  ·rw[bifT (y7 h1),y0M,he];simp only[bind_some];by_cases h2:t < e.2.1
   ·rw[bifT (y7 h2),y7 (show e.1<=t/\t < e.2.1 from ⟨h1,h2⟩)];rfl
   ·rw[bifF (yE h2),yE (show ¬ (e.1<=t/\t < e.2.1)from λ h=>h2 h.2)];rfl
  ·rw[bifF (yE h1),yE (show ¬ (e.1<=t/\t < e.2.1)from λ h=>h1 h.1)];rfl)
 rw[bifT (y7 hl)];refine (show _=_ from key).trans ?_
 have:∀ l:List Gau,l.findSome? (λ s:Gau=>if decide (s.1<=t/\t < s.2.1)=true then some (true,())else none)=if has l t=true then some (true,())else none:=by
  intro l;unfold has;induction l with
  |nil=>rfl
  |cons s l ih =>
   rw[List.findSome?_cons,any_cons];cases decide (s.1<=t/\t < s.2.1)with
   |true=>rfl
   |false =>
    simp only[Bool.false_eq_true,if_false];exact ih
 rw[this l];cases has l t<;>rfl
def nz(x:Nat):Bool:=yT .neq .f32 x 0
def yID(lv:List Nat)(g:List Gau):Prop:=∃ (i:Nat) (x:Nat),lv[i]?=some x/\nz x=true/\has g (i:Int)=true
noncomputable def yB0(r:Rec):Int:=by
 classical
 exact yP (y09 [bif isNm r.1 then 0 else 8,ckR r.2.1 0 100000,if 4096 < r.2.2.1.length then 5 else 0]) (yP (y09 (r.2.2.1.map lvE)) (yP (y3X r.2.2.2.1) (yP (if r.2.2.2.1.any (λ s=>decide ((r.2.2.1.length:Int) < s.2.1))then 14 else 0) (if yID r.2.2.1 r.2.2.2.1 then 1 else 0))))
theorem y7n{α:Type}{body:Int->α->Unit->Option ((Int×Unit)⊕Unit)}{fin:Unit->Option (Int×Unit)}(q:α->Bool)(hf:fin ()=some (-1,())) :
  ∀ (l:List α) (i:Nat),(∀ i e,e∈l->body i e ()=some (if q e then .inl (i,())else .inr ()))->∃ n,yH body fin (i:Int) l ()=some (n,())/\decide (n >= 0)=l.any q
 |[],i,_=>⟨-1,by rw[y1o,hf],rfl⟩
 |e::l,i,h=>by
  rw[yU,h i e (by simp),any_cons]
  cases hq:q e with
  |true=>exact ⟨i,rfl,by simp⟩
  |false =>
   obtain ⟨n,h1,h2⟩:=y7n (body:=body) (fin:=fin) q hf l (i+1) λ i e he=>h i e (by simp[he])
   exact ⟨n,by simpa using h1,by simpa using h2⟩
theorem yJd(l:List Gau)(f:Gau×Unit->Option (Bool×Unit))(q:Gau->Bool)(hl:l.length < lenMax)(h:∀ s∈l,f (s,())=some (q s,())):zB_M l f=some (l.any q,()):=by
 unfold zB_M zB_m zD_M;rw[bifT (y7 hl)];obtain ⟨n,h1,h2⟩:=y7n (body:=λ i__ e__ s__=>yMu l f i__ e__) (fin:=λ s__=>yPM l f) q rfl l 0 (λ i e he=>by
  unfold yMu;rw[h e he];cases q e<;>rfl)
 rw[show ((0:Nat):Int)=0 from rfl]at h1
 rw[h1];simp only[bind_some];rw[h2]
theorem yQ1(l:List Nat)(f:Nat×Unit->Option (Bool×Unit))(q:Nat->Bool)(hl:l.length < lenMax)(h:∀ s∈l,f (s,())=some (q s,())):zC_M l f=some (l.any q,()):=by
 unfold zC_M zC_m zE_M;rw[bifT (y7 hl)];obtain ⟨n,h1,h2⟩:=y7n (body:=λ i__ e__ s__=>yNA l f i__ e__) (fin:=λ s__=>yP5 l f) q rfl l 0 (λ i e he=>by
  unfold yNA;rw[h e he];cases q e<;>rfl)
 rw[show ((0:Nat):Int)=0 from rfl]at h1
 rw[h1];simp only[bind_some];rw[h2]
theorem y8G:∀ (l:List Gau) (p:Option Gau),y3m p l=0->∀ s∈l,0<=s.1/\s.1 < s.2.1/\s.2.1<=100000
 |[],_,_,s,hs=>by cases hs
 |x::l,p,h,s,hs=>by
  obtain ⟨h1,h2⟩:=yJ h;rcases List.mem_cons.1 hs with rfl|hs
  ·have h3:=(yJ h1).1;unfold y70 at h3;by_cases hq:s.1 < 0\/s.2.1<=s.1\/100000 < s.2.1
   ·rw[if_pos hq]at h3;cases h3
   ·omega
  ·exact y8G l _ h2 s hs
theorem y9f{l:List Gau}(h:y3X l=0):l.length<=2048/\y3m none l=0:=by
 unfold y3X at h;by_cases h1:2048 < l.length
 ·rw[if_pos h1]at h;cases h
 ·rw[if_neg h1]at h;exact ⟨by omega,h⟩
theorem yGA(lv:List Nat)(g:List Gau)(h:∀ s∈g,0<=s.1/\s.1 < s.2.1):(g.any λ s=>((lv.take s.2.1.toNat).drop s.1.toNat).any nz)=true ↔ yID lv g:=by
 rw[any_eq_true];constructor
 ·rintro ⟨s,hs,hx⟩
  obtain ⟨x,hx1,hx2⟩:=any_eq_true.1 hx;obtain ⟨i,hi,rfl⟩:=List.mem_iff_getElem.1 hx1;have hs2:=h s hs;simp only[List.length_drop,List.length_take]at hi;refine ⟨s.1.toNat+i,_,?_,hx2,?_⟩
  ·rw[List.getElem_drop,List.getElem_take,List.getElem?_eq_getElem]
  ·unfold has;rw[any_eq_true];exact ⟨s,hs,y7 (by omega)⟩
 ·rintro ⟨i,x,h1,h2,h3⟩
  unfold has at h3;obtain ⟨s,hs,h4⟩:=any_eq_true.1 h3;have h5:=of_decide_eq_true h4;have hs2:=h s hs;obtain ⟨hi,rfl⟩:=List.getElem?_eq_some_iff.1 h1;refine ⟨s,hs,any_eq_true.2 ⟨lv[i],?_,h2⟩⟩;refine List.mem_iff_getElem.2 ⟨i - s.1.toNat,by simp;omega,?_⟩
  rw[List.getElem_drop,List.getElem_take];congr 1
  omega
theorem yPq(r:Rec)(hn:r.1.length < lenMax)(hl:r.2.2.1.length < lenMax)(hg:r.2.2.2.1.length < lenMax):zT_M r=some (yB0 r,()):=by
 classical
 unfold zT_M zT_m yB0;rw[yGg _ hn];simp only[bind_some,y4f,yHb];rw[y5o _ (yFk _ _ _)];simp only[bind_some];have e1:(bif !isNm r.1 then (8:Int)else 0)=bif isNm r.1 then 0 else 8:=by cases isNm r.1<;>rfl
 have e2:(bif decide ((r.2.2.1.length:Int) > 4096)then (5:Int)else 0)=if 4096 < r.2.2.1.length then 5 else 0:=by
  by_cases h:4096 < r.2.2.1.length
  ·rw[if_pos h,y7 (by omega)];rfl
  ·rw[if_neg h,yE (by omega)];rfl
 rw[e1,e2];generalize y09 [bif isNm r.1 then 0 else 8,ckR r.2.1 0 100000,if 4096 < r.2.2.1.length then 5 else 0]=a
 by_cases ha:a=0
 ·subst ha;rw[bifF (by rfl),yQ,yHp _ hl,yLK]
  simp only[bind_some];rw[y5o _ (y5Q _ _),yM,yM,y0Q,y0B,<- y05];simp only[bind_some];generalize hb:yP (y09 (r.2.2.1.map lvE)) (y3X r.2.2.2.1)=b;by_cases hb0:b=0
  ·subst hb0;obtain ⟨b1,b2⟩:=yJ hb;obtain ⟨b3,b4⟩:=y9f b2;have b5:=y8G _ _ b4;rw[bifF (by rfl),yQ,yJd _ _ (λ s=>decide ((r.2.2.1.length:Int) < s.2.1)) hg λ s _=>rfl]
   simp only[bind_some];cases hc:r.2.2.2.1.any (λ s=>decide ((r.2.2.1.length:Int) < s.2.1))with
   |true=>rfl
   |false =>
    rw[bifF rfl,if_neg (by simp),yQ]
    have hto:∀ s∈r.2.2.2.1,s.2.1<=(r.2.2.1.length:Int):=λ s hs=>by
     have:=List.any_eq_false.1 hc s hs;simp at this;omega
    rw[yJd _ _ (λ s=>((r.2.2.1.take s.2.1.toNat).drop s.1.toNat).any nz) hg λ s hs=>by
     show zQ_M s r=_
     unfold zQ_M zQ_m;have h1:=b5 s hs;have h2:=hto s hs;rw[bifT (by rw[y7 h1.1,y7 (show s.1<=s.2.1 by omega),y7 h2];rfl),yQ1 _ _ nz (by simp;omega) λ x _=>rfl]
     rfl]
    simp only[bind_some];by_cases hf:yID r.2.2.1 r.2.2.2.1
    ·rw[if_pos hf,(yGA _ _ λ s hs=>⟨(b5 s hs).1,(b5 s hs).2.1⟩).2 hf];rfl
    ·rw[if_neg hf,Bool.eq_false_iff.2 λ h=>hf ((yGA _ _ λ s hs=>⟨(b5 s hs).1,(b5 s hs).2.1⟩).1 h)];rfl
  ·rw[bifT (by simpa using hb0),yb hb0]
 ·rw[bifT (by simpa using ha),yb ha]
theorem y9u(r:Rec)(hg:r.2.2.2.1.length < lenMax):∀ (l done:List Nat),r.2.2.1=done++l->∃ e,yH (λ i__ e__ s__=>yJj r i__ e__) (λ s__=>yP3 r) (done.length:Int) l ()=some (e,())/\(e=0\/e=1)/\(e=1 ↔ ∃ (i:Nat) (x:Nat),done.length<=i/\r.2.2.1[i]?=some x/\nz x=true/\has r.2.2.2.1 (i:Int)=true)
 |[],done,hx=>⟨0,rfl,.inl rfl,by
  constructor
  ·intro h;cases h
  ·rintro ⟨i,x,h1,h2,_⟩
   have:=(List.getElem?_eq_some_iff.1 h2).1;rw[hx]at this;simp at this;omega⟩
 |x::l,done,hx=>by
  have hxi:r.2.2.1[done.length]?=some x:=by rw[hx];simp
  obtain ⟨e,h1,h2,h3⟩:=y9u r hg l (done++[x]) (by rw[hx];simp)
  simp only[List.length_append,List.length_cons,List.length_nil]at h1 h3;have hb:yJj r (done.length:Int) x=some (if nz x=true/\has r.2.2.2.1 (done.length:Int)=true then .inl (1,())else .inr ()):=by
   unfold yJj;show (bif nz x then _ else _)=_
   cases hz:nz x with
   |false=>rfl
   |true =>
    rw[cond_true,has_eq _ _ hg];cases has r.2.2.2.1 (done.length:Int)<;>rfl
  rw[yU,hb];by_cases ha:nz x=true/\has r.2.2.2.1 (done.length:Int)=true
  ·refine ⟨1,?_,.inr rfl,λ _=>⟨done.length,x,Nat.le_refl _,hxi,ha.1,ha.2⟩,λ _=>rfl⟩
   rw[if_pos ha];rfl
  ·refine ⟨e,?_,h2,h3.trans ⟨?_,?_⟩⟩
   ·rw[if_neg ha];exact h1
   ·rintro ⟨i,y,q1,q2,q3,q4⟩
    exact ⟨i,y,by omega,q2,q3,q4⟩
   ·rintro ⟨i,y,q1,q2,q3,q4⟩
    refine ⟨i,y,?_,q2,q3,q4⟩;rcases Nat.lt_or_eq_of_le q1 with q|q
    ·omega
    ·subst q;rw[hxi]at q2;cases q2;exact absurd ⟨q3,q4⟩ ha
theorem yPR(r:Rec)(hg:r.2.2.2.1.length < lenMax):zV_M r=some (yB0 r,()):=by
 classical
 unfold zV_M yB0;rw[yCl];simp only[bind_some,y5e];have e:∀ n c v R:Int,yP (yP n (yP c v)) R=yP (yP n c) (yP v R):=λ n c v R=>by rw[<- y05 n c v,y05 (yP n c)]
 rw[y8H _ (y5Q _ _)];simp only[yM,y0Q,y0B];rw[e];simp only[bind_some];generalize yP (bif isNm r.1 then (0:Int)else 8) (ckR r.2.1 0 100000)=a
 by_cases ha:a=0
 ·subst ha;rw[bifF (by rfl),yQ]
  by_cases h4:4096 < r.2.2.1.length
  ·rw[bifT (y7 (by omega)),if_pos h4,yb (by decide)]
  ·rw[bifF (yE (by omega)),if_neg h4,yQ,bifT (y7 (by unfold lenMax;omega))]
   rw[yLi lvE r.2.2.1 0 λ i e _=>by
    unfold yQX;rw[yJI];simp only[bind_some];cases (lvE e != 0)<;>rfl]
   by_cases h5:y09 (r.2.2.1.map lvE)=0
   ·rw[if_pos h5,h5,yQ];unfold yQF;rw[yJ7];simp only[bind_some];by_cases h6:y3X r.2.2.2.1=0
    ·rw[bifF (by simp[h6]),h6,yQ,bifT (y7 hg)]
     rw[y1j (λ s:Gau=>if decide ((r.2.2.1.length:Int) < s.2.1)=true then some ((14:Int),())else none) r.2.2.2.1 0 λ i e _=>by
      unfold yPb;show (bif decide ((r.2.2.1.length:Int) < e.2.1)then _ else _)=_
      cases decide ((r.2.2.1.length:Int) < e.2.1)<;>rfl]
     have:∀ l:List Gau,l.findSome? (λ s:Gau=>if decide ((r.2.2.1.length:Int) < s.2.1)=true then some ((14:Int),())else none)=if l.any (λ s=>decide ((r.2.2.1.length:Int) < s.2.1))then some (14,())else none:=by
      intro l;induction l with
      |nil=>rfl
      |cons s l ih =>
       rw[List.findSome?_cons,any_cons];cases decide ((r.2.2.1.length:Int) < s.2.1)with
       |true=>rfl
       |false=>simpa using ih
     rw[this];cases r.2.2.2.1.any (λ s=>decide ((r.2.2.1.length:Int) < s.2.1))with
     |true=>rfl
     |false =>
      simp only[Bool.false_eq_true,if_false];rw[yQ];unfold yQm;rw[bifT (y7 (by unfold lenMax;omega))]
      obtain ⟨e,k1,k2,k3⟩:=y9u r hg r.2.2.1 [] rfl;rw[show (([]:List Nat).length:Int)=0 from rfl]at k1
      rw[k1];have k4:e=1 ↔ yID r.2.2.1 r.2.2.2.1:=k3.trans ⟨λ ⟨i,x,_,h⟩=>⟨i,x,h⟩,λ ⟨i,x,h⟩=>⟨i,x,Nat.zero_le _,h⟩⟩
      by_cases hf:yID r.2.2.1 r.2.2.2.1
      ·rw[if_pos hf,k4.2 hf]
      ·rw[if_neg hf];rcases k2 with k2|k2
       ·rw[k2]
       ·exact absurd (k4.1 k2) hf
    ·rw[bifT (by simpa using h6),yb h6]
   ·rw[if_neg h5,yb h5]
 ·rw[bifT (by simpa using ha),yb ha]
end Go.Tw
