import Derived.Test.YtlaebedgpkiodaaGreatDoorPL
set_option linter.all false
set_option maxRecDepth 100000
open List (any_eq_true)
open Option (bind_some)
namespace Go.Tw
open Go.Vx Go.Vx.B Go.Proofs Ieee
abbrev Rec:=List UInt8×Int×List Nat×List Gau×Unit
theorem y6G(l:List Int)(h:l.length < lenMax):yBH l=some (y0I l,()):=by
 unfold yBH;rw[bifT (yB h),y34 (λ e=>if e != 0 then some (e,())else none) l 0 (λ i e _=>by
  unfold yJg;cases he:(e != 0)<;>rfl),y6f]
 unfold y0I yJY;cases l.find? (· != 0)<;>rfl
theorem yHF(n lo hi:Int):z01 n lo hi=(ckR n lo hi,()):=by
 unfold z01 ckR;by_cases h1:n < lo
 ·rw[bifT (yB h1),y4m,cond_true,if_pos (.inl h1)]
 ·rw[bifF (yK h1),y4m];by_cases h2:n > hi
  ·rw[yB h2,cond_true,if_pos (.inr h2)]
  ·rw[yK h2,cond_false,if_neg (by omega)]
theorem y6v(xs:List Nat):∀ (l:List Nat) (i:Int) (w:Int),(w=0\/l=[])->w=0 ->
  yL (λ i__ e__ s__=>yNA xs i__ e__ s__) (λ s__=>yPz xs s__) i l w=some (y0I (l.map lvE),())
 |[],i,w,_,hw=>by subst hw;rfl
 |x::l,i,w,_,hw=>by
  rw[ya];unfold yNA;rw[yKN];simp only[bind_some,List.map_cons];rw[yU];by_cases h:lvE x=0
  ·rw[bifF (by simp[h]),h,yX]
   exact y6v xs l (i+1) 0 (.inl rfl) rfl
  ·rw[bifT (by simp[h]),y05 h]
   rfl
theorem yHQ(l:List Nat)(h:l.length < lenMax):zU_M l=some (y0I (l.map lvE),()):=by
 unfold zU_M;rw[bifT (yB h)];exact y6v l l 0 0 (.inl rfl) rfl
def yBn(s:Gau):Int:=if s.1 < 0\/s.2.1<=s.1\/100000 < s.2.1 then 14 else 0
def spE(p:Option Gau)(s:Gau):Int:=yQ (yBn s) (match p with|some q=>if s.1<=q.2.1 then 11 else 0|none=>0)
def y3Q:Option Gau->List Gau->Int
 |_,[]=>0
 |p,s::l=>yQ (spE p s) (y3Q (some s) l)
def y49(l:List Gau):Int:=if 2048 < l.length then 5 else y3Q none l
theorem yJm(s:Gau):ze s=(yBn s,()):=by
 unfold ze yBn;simp only[y4m,cond_true];by_cases h1:s.1 < 0
 ·rw[bifT (yB h1),if_pos (.inl h1)]
 ·rw[bifF (yK h1)];by_cases h2:s.1 >= s.2.1
  ·rw[bifT (yB h2),if_pos (.inr (.inl h2))]
  ·rw[bifF (yK h2)];by_cases h3:s.2.1 > 100000
   ·rw[yB h3,if_pos (.inr (.inr h3)),cond_true]
   ·rw[yK h3,if_neg (by omega),cond_false]
theorem y9p{body:Int->Gau->Unit->Option ((Int×Unit)⊕Unit)}{fin:Unit->Option (Int×Unit)}(xs:List Gau)(hf:fin ()=some (0,()))
  (hb:∀ (i:Nat) s,xs[i]?=some s->body (i:Int) s ()=some (bif spE (if i=0 then none else xs[i - 1]?) s != 0 then .inl (spE (if i=0 then none else xs[i - 1]?) s,())else .inr ())) :
  ∀ (l done:List Gau),xs=done++l->yL body fin (done.length:Int) l ()=some (y3Q (if done.length=0 then none else xs[done.length - 1]?) l,())
 |[],done,_=>by rw[y3w,hf];rfl
 |s::l,done,hx=>by
  rw[ya,hb done.length s (by rw[hx];simp)]
  unfold y3Q;simp only[bind_some];have ih:=y9p (body:=body) (fin:=fin) xs hf hb l (done++[s]) (by rw[hx];simp)
  simp only[List.length_append,List.length_cons,List.length_nil]at ih;rw[if_neg (by omega),show xs[done.length+(0+1) - 1]?=some s by rw[hx];simp]at ih
  generalize spE (if done.length=0 then none else xs[done.length - 1]?) s=e
  by_cases h:e=0
  ·subst h;rw[yX];exact ih
  ·rw[bifT (by simpa using h),y05 h]
theorem yKF(l:List Gau):zX_M l=some (y49 l,()):=by
 unfold zX_M y49;by_cases h1:2048 < l.length
 ·rw[bifT (yB (by omega)),if_pos h1]
 ·rw[bifF (yK (by omega)),if_neg h1,bifT (yB (by unfold lenMax;omega))]
  refine y9p (body:=λ i__ e__ s__=>yMO l l i__ e__) (fin:=λ s__=>yPs l l) l rfl (λ i s hs=>?_) l [] rfl
  have hi:i < l.length:=(List.getElem?_eq_some_iff.1 hs).1;unfold yMO spE;simp only[yJm,y4m,cond_false,if_true];by_cases h0:i=0
  ·subst h0;rw[bifF (by rfl),y6G _ (y6C _ _),yU,yU,y1T,y0b]
   simp only[bind_some,if_true];cases (yQ (yBn (s.1,s.2.1,())) 0 != 0)<;>rfl
  ·have hw:IntKind.i64.wrap ((i:Int) - 1)=((i - 1:Nat):Int):=by rw[yw (by omega) (by omega)];omega
   have hm:(if IntKind.i64.wrap ((i:Int) - 1) > 0 then IntKind.i64.wrap ((i:Int) - 1)else 0)=((i - 1:Nat):Int):=by
    rw[hw];split<;>omega
   rw[bifT (yB (by omega)),hm,y17,List.getElem?_eq_getElem (show i - 1 < l.length by omega),if_neg h0]
   simp only[bind_some];have hb:(bif decide (s.1<=(l[i - 1]'(by omega)).2.1)then (11:Int)else 0)=if s.1<=(l[i - 1]'(by omega)).2.1 then 11 else 0:=by
    by_cases h3:s.1<=(l[i - 1]'(by omega)).2.1
    ·rw[yB h3,if_pos h3];rfl
    ·rw[yK h3,if_neg h3];rfl
   rw[hb,y6G _ (y6C _ _),yU,yU,y1T,y0b];simp only[bind_some];show (bif yQ (yBn s) _ != 0 then _ else _)=_
   cases (yQ (yBn s) (if s.1<=(l[i - 1]'(by omega)).2.1 then 11 else 0) != 0)<;>rfl
def has(l:List Gau)(t:Int):Bool:=l.any λ s=>decide (s.1<=t/\t < s.2.1)
def nz(x:Nat):Bool:=y03 .neq .f32 x 0
def yKf(lv:List Nat)(g:List Gau):Prop:=∃ (i:Nat) (x:Nat),lv[i]?=some x/\nz x=true/\has g (i:Int)=true
noncomputable def yDq(r:Rec):Int:=by
 classical
 exact yQ (y0I [bif isNm r.1 then 0 else 8,ckR r.2.1 0 100000,if 4096 < r.2.2.1.length then 5 else 0]) (yQ (y0I (r.2.2.1.map lvE)) (yQ (y49 r.2.2.2.1) (yQ (if r.2.2.2.1.any (λ s=>decide ((r.2.2.1.length:Int) < s.2.1))then 14 else 0) (if yKf r.2.2.1 r.2.2.2.1 then 1 else 0))))
theorem y8x{α:Type}{body:Int->α->Unit->Option ((Int×Unit)⊕Unit)}{fin:Unit->Option (Int×Unit)}(q:α->Bool)(hf:fin ()=some (-1,())) :
  ∀ (l:List α) (i:Nat),(∀ i e,e∈l->body i e ()=some (if q e then .inl (i,())else .inr ()))->∃ n,yL body fin (i:Int) l ()=some (n,())/\decide (n >= 0)=l.any q
 |[],i,_=>⟨-1,by rw[y3w,hf],rfl⟩
 |e::l,i,h=>by
  rw[ya,h i e (by simp),List.any_cons]
  cases hq:q e with
  |true=>exact ⟨i,rfl,by simp⟩
  |false =>
   obtain ⟨n,h1,h2⟩:=y8x (body:=body) (fin:=fin) q hf l (i+1) λ i e he=>h i e (by simp[he])
   exact ⟨n,by simpa using h1,by simpa using h2⟩
theorem yLe(l:List Gau)(f:Gau×Unit->Option (Bool×Unit))(q:Gau->Bool)(hl:l.length < lenMax)(h:∀ s∈l,f (s,())=some (q s,())):zB_M l f=some (l.any q,()):=by
 unfold zB_M zB_m zD_M;rw[bifT (yB hl)];obtain ⟨n,h1,h2⟩:=y8x (body:=λ i__ e__ s__=>yNb l f i__ e__) (fin:=λ s__=>yPR l f) q rfl l 0 (λ i e he=>by
  unfold yNb;rw[h e he];cases q e<;>rfl)
 rw[show ((0:Nat):Int)=0 from rfl]at h1
 rw[h1];simp only[bind_some];rw[h2]
theorem yPq(l:List Nat)(f:Nat×Unit->Option (Bool×Unit))(q:Nat->Bool)(hl:l.length < lenMax)(h:∀ s∈l,f (s,())=some (q s,())):zC_M l f=some (l.any q,()):=by
 unfold zC_M zC_m zE_M;rw[bifT (yB hl)];obtain ⟨n,h1,h2⟩:=y8x (body:=λ i__ e__ s__=>yN0 l f i__ e__) (fin:=λ s__=>yP6 l f) q rfl l 0 (λ i e he=>by
  unfold yN0;rw[h e he];cases q e<;>rfl)
 rw[show ((0:Nat):Int)=0 from rfl]at h1
 rw[h1];simp only[bind_some];rw[h2]
theorem y82:∀ (l:List Gau) (p:Option Gau),y3Q p l=0->∀ s∈l,0<=s.1/\s.1 < s.2.1/\s.2.1<=100000
 |[],_,_,s,hs=>by cases hs
 |x::l,p,h,s,hs=>by
  obtain ⟨h1,h2⟩:=yI h;rcases List.mem_cons.1 hs with rfl|hs
  ·have h3:=(yI h1).1;unfold yBn at h3;by_cases hq:s.1 < 0\/s.2.1<=s.1\/100000 < s.2.1
   ·rw[if_pos hq]at h3;cases h3
   ·omega
  ·exact y82 l _ h2 s hs
theorem yAP{l:List Gau}(h:y49 l=0):l.length<=2048/\y3Q none l=0:=by
 unfold y49 at h;by_cases h1:2048 < l.length
 ·rw[if_pos h1]at h;cases h
 ·rw[if_neg h1]at h;exact ⟨by omega,h⟩
theorem yFp(lv:List Nat)(g:List Gau)(h:∀ s∈g,0<=s.1/\s.1 < s.2.1):(g.any λ s=>((lv.take s.2.1.toNat).drop s.1.toNat).any nz)=true ↔ yKf lv g:=by
 rw[any_eq_true];constructor
 ·rintro ⟨s,hs,hx⟩
  obtain ⟨x,hx1,hx2⟩:=any_eq_true.1 hx;obtain ⟨i,hi,rfl⟩:=List.mem_iff_getElem.1 hx1;have hs2:=h s hs;simp only[List.length_drop,List.length_take]at hi;refine ⟨s.1.toNat+i,_,?_,hx2,?_⟩
  ·rw[List.getElem_drop,List.getElem_take,List.getElem?_eq_getElem]
  ·unfold has;rw[any_eq_true];exact ⟨s,hs,yB (by omega)⟩
 ·rintro ⟨i,x,h1,h2,h3⟩
  unfold has at h3;obtain ⟨s,hs,h4⟩:=any_eq_true.1 h3;have h5:=of_decide_eq_true h4;have hs2:=h s hs;obtain ⟨hi,rfl⟩:=List.getElem?_eq_some_iff.1 h1;refine ⟨s,hs,any_eq_true.2 ⟨lv[i],?_,h2⟩⟩;refine List.mem_iff_getElem.2 ⟨i - s.1.toNat,by simp;omega,?_⟩
  rw[List.getElem_drop,List.getElem_take];congr 1
  omega
theorem yPZ(r:Rec)(hn:r.1.length < lenMax)(hl:r.2.2.1.length < lenMax)(hg:r.2.2.2.1.length < lenMax):zT_M r=some (yDq r,()):=by
 classical
 unfold zT_M zT_m yDq;rw[yGx _ hn];simp only[bind_some,y4m,yHF];rw[y6G _ (yG6 _ _ _)];simp only[bind_some];have e1:(bif !isNm r.1 then (8:Int)else 0)=bif isNm r.1 then 0 else 8:=by cases isNm r.1<;>rfl
 have e2:(bif decide ((r.2.2.1.length:Int) > 4096)then (5:Int)else 0)=if 4096 < r.2.2.1.length then 5 else 0:=by
  by_cases h:4096 < r.2.2.1.length
  ·rw[if_pos h,yB (by omega)];rfl
  ·rw[if_neg h,yK (by omega)];rfl
 rw[e1,e2];generalize y0I [bif isNm r.1 then 0 else 8,ckR r.2.1 0 100000,if 4096 < r.2.2.1.length then 5 else 0]=a
 by_cases ha:a=0
 ·subst ha;rw[bifF (by rfl),yX,yHQ _ hl,yKF]
  simp only[bind_some];rw[y6G _ (y6C _ _),yU,yU,y1T,y0b,<- y0K];simp only[bind_some];generalize hb:yQ (y0I (r.2.2.1.map lvE)) (y49 r.2.2.2.1)=b;by_cases hb0:b=0
  ·subst hb0;obtain ⟨b1,b2⟩:=yI hb;obtain ⟨b3,b4⟩:=yAP b2;have b5:=y82 _ _ b4;rw[bifF (by rfl),yX,yLe _ _ (λ s=>decide ((r.2.2.1.length:Int) < s.2.1)) hg λ s _=>rfl]
   simp only[bind_some];cases hc:r.2.2.2.1.any (λ s=>decide ((r.2.2.1.length:Int) < s.2.1))with
   |true=>rfl
   |false =>
    rw[bifF rfl,if_neg (by simp),yX]
    have hto:∀ s∈r.2.2.2.1,s.2.1<=(r.2.2.1.length:Int):=λ s hs=>by
     have:=List.any_eq_false.1 hc s hs;simp at this;omega
    rw[yLe _ _ (λ s=>((r.2.2.1.take s.2.1.toNat).drop s.1.toNat).any nz) hg λ s hs=>by
     show zQ_M s r=_
     unfold zQ_M zQ_m;have h1:=b5 s hs;have h2:=hto s hs;rw[bifT (by rw[yB h1.1,yB (show s.1<=s.2.1 by omega),yB h2];rfl),yPq _ _ nz (by simp;omega) λ x _=>rfl]
     rfl]
    simp only[bind_some];by_cases hf:yKf r.2.2.1 r.2.2.2.1
    ·rw[if_pos hf,(yFp _ _ λ s hs=>⟨(b5 s hs).1,(b5 s hs).2.1⟩).2 hf];rfl
    ·rw[if_neg hf,Bool.eq_false_iff.2 λ h=>hf ((yFp _ _ λ s hs=>⟨(b5 s hs).1,(b5 s hs).2.1⟩).1 h)];rfl
  ·rw[bifT (by simpa using hb0),y05 hb0]
 ·rw[bifT (by simpa using ha),y05 ha]
end Go.Tw
