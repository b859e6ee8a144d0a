import Derived.Test.YtpcnkpbpcebokaaGreatDoorPF1
import Derived.Test.YtpcnkpbpcebokaaGreatDoorPE7
import Derived.Test.YtpcnkpbpcebokaaGreatDoorPY
set_option linter.all false
set_option maxRecDepth 100000
set_option exponentiation.threshold 4000
open List (foldl_cons getElem_map length_cons length_map mem_map)
namespace Go.Tw
open Go.Vx Go.Vx.B Go.Proofs Ieee
theorem n4:Num F32 1082130432 (4 * U):=⟨false,8388608,-21,by decide,by decide,by rw[yDF (n:=4) (a:=23) (b:=2) (by decide) (by decide) (by decide)];simp⟩
theorem nm4:Num F32 3229614080 (-(4 * U)):=⟨true,8388608,-21,by decide,by decide,by rw[yDF (n:=4) (a:=23) (b:=2) (by decide) (by decide) (by decide)];simp only[if_true,Int.neg_mul,Int.one_mul];rfl⟩
theorem yFh:4 * U=64 * P16:=by decide +kernel
theorem yV2{x:Nat}(h:lvE x=0)(h1:yT BinOp.gtr FloatKind.f32 x 1082130432=false)(h2:yT BinOp.lss FloatKind.f32 x 3229614080=false):-64<=sx x/\sx x<=64:=by
 have hs:=yQt h;have g1:=y8X (k:=FloatKind.f32) hs.num n4;have g2:=yAQ (k:=FloatKind.f32) hs.num nm4;rw[g1,yFh]at h1;rw[g2,yFh]at h2;have a1:=of_decide_eq_false h1;have a2:=of_decide_eq_false h2;have b1:¬ (64:Int) < sx x:=λ h=>a1 (y4b.2 h)
 have b2:¬ sx x < -64:=λ h=>a2 (by rw[<- Int.neg_mul];exact y4b.2 h)
 omega
noncomputable def levI(r:Rec)(t:Int):Int:=sx ((r.2.2.1[(t - r.2.1).toNat]?).getD 0)
noncomputable def levF(r:Rec)(t:Int):Gau:=(levI r t,0,())
theorem yOX{r:Rec}(h:okR r){q:Int×Nat}(hq:q∈recd r.2.2.2.1 0 r.2.2.1):levI r (r.2.1+q.1)=sx q.2:=by
 obtain ⟨h1,_,h3⟩:=yBi h q hq;unfold levI;rw[show r.2.1+q.1 - r.2.1=q.1 by omega,h3]
 rfl
structure lowR4 (r:Rec):Prop where
 ok:okR r
 lev:∀ x∈r.2.2.1,-64<=sx x/\sx x<=64
 few:(tks r).length<=12
theorem yGM{r:Rec}(h:lowR4 r){t:Int}(ht:t∈tks r):-64<=levI r t/\levI r t<=64:=by
 unfold tks at ht;obtain ⟨q,hq,rfl⟩:=mem_map.1 ht;rw[yOX h.ok hq];obtain ⟨_,_,h3⟩:=yBi h.ok q hq;exact h.lev _ (List.mem_of_getElem? h3)
theorem yKU{m:Int}{z:Gau}(h:bd m z)(hm:m < 9223372036854775807):(z01 z).1=conX z:=by
 unfold bd at h;unfold z01 conX;simp only;rw[y04 (by omega) (by omega)]
 exact yA rfl (by simp only;omega)
theorem yAD{m:Int}{z:Gau}(h:bd m z):bd m (conX z):=by unfold bd conX at *;simp only;omega
theorem yI5{z:Gau}{n:Int}(h:bd 1 z)(hn:-64<=n/\n<=64):(z0a z n).1=mulX z (n,0,())/\bd 64 (mulX z (n,0,())):=by
 have e:mulX z (n,0,())=(n * z.1,n * z.2.1,()):=yA (by simp only[mulX];grind) (by simp only[mulX];grind)
 have h1:=y1d (m:=64) (k:=1) (a:=n) (b:=z.1) (by omega) h.1
 have h2:=y1d (m:=64) (k:=1) (a:=n) (b:=z.2.1) (by omega) h.2
 rw[e];refine ⟨?_,by unfold bd;simp only;omega⟩
 unfold z0a;simp only;rw[y04 (by omega) (by omega),y04 (by omega) (by omega)]
theorem yFY{r:Rec}(c:Con):∀ (R:List (Int×Nat)) (s:Int×Int) (B:Int),bd B (s.1,s.2,())->0<=B->B+64 * R.length < 9223372036854775807->(∀ q∈R,levI r (r.2.1+q.1)=sx q.2/\(-64<=sx q.2/\sx q.2<=64)) ->
  ((R.foldl (solS c r.2.1) s).1,(R.foldl (solS c r.2.1) s).2,())=addX (s.1,s.2,()) (sumX (λ t=>mulX (conX (chr c t)) (levF r t)) (R.map λ q=>r.2.1+q.1))/\bd (64 * R.length) (sumX (λ t=>mulX (conX (chr c t)) (levF r t)) (R.map λ q=>r.2.1+q.1))
 |[],s,B,hs,h0,hB,_=>⟨(y08 _).symm,yKW (by simp)⟩
 |q::R,s,B,hs,h0,hB,hq=>by
  simp only[length_cons]at hB ⊢;obtain ⟨q1,q2⟩:=hq q (by simp)
  have hc:=yKU (y8d c (r.2.1+q.1)) (by decide)
  obtain ⟨u1,u2⟩:=yI5 (yAD (y8d c (r.2.1+q.1))) q2;have hl:levF r (r.2.1+q.1)=(sx q.2,0,()):=by unfold levF;rw[q1]
  have e:solS c r.2.1 s q=((addX (s.1,s.2,()) (mulX (conX (chr c (r.2.1+q.1))) (sx q.2,0,()))).1,(addX (s.1,s.2,()) (mulX (conX (chr c (r.2.1+q.1))) (sx q.2,0,()))).2.1):=by
   unfold solS;simp only;rw[hc,u1,yDu hs u2 (by omega)]
  obtain ⟨i1,i2⟩:=yFY c R (solS c r.2.1 s q) (B+64) (by rw[e];exact y1p hs u2) (by omega) (by omega) λ q' h'=>hq q' (by simp[h'])
  rw[List.map_cons];show _=addX _ (addX (mulX (conX (chr c (r.2.1+q.1))) (levF r (r.2.1+q.1))) (sumX _ (R.map _)))/\bd _ (addX (mulX (conX (chr c (r.2.1+q.1))) (levF r (r.2.1+q.1))) (sumX _ (R.map _)))
  rw[hl];refine ⟨?_,?_⟩
  ·rw[foldl_cons,i1,e];exact y30 _ _ _
  ·have:=y1p u2 i2;refine y25 this ?_
   push_cast
   omega
theorem yAz{r:Rec}(h:lowR4 r):∀ q∈recd r.2.2.2.1 0 r.2.2.1,levI r (r.2.1+q.1)=sx q.2/\(-64<=sx q.2/\sx q.2<=64):=λ q hq=>by
 obtain ⟨_,_,h3⟩:=yBi h.ok q hq;exact ⟨yOX h.ok hq,h.lev _ (List.mem_of_getElem? h3)⟩
theorem yEh{r:Rec}(h:lowR4 r):(recd r.2.2.2.1 0 r.2.2.1).length<=12:=by
 have:=h.few;unfold tks at this;rw[length_map]at this;exact this
theorem yCK{r:Rec}(h:lowR4 r)(c:Con):solW r c=ip (tks r) (chr c) (levF r)/\bd 768 (ip (tks r) (chr c) (levF r)):=by
 have hl:=yEh h;obtain ⟨h1,h2⟩:=yFY (r:=r) c (recd r.2.2.2.1 0 r.2.2.1) (0,0) 0 (by unfold bd;simp) (by decide) (by omega) (yAz h)
 refine ⟨?_,?_⟩
 ·unfold solW;simp only;rw[h1];exact y2u _
 ·exact y25 h2 (by omega)
theorem yQZ{m k:Int}{a b c d:Gau}(ha:bd m a)(hb:bd m b)(hc:bd m c)(hd:bd m d)(hk:k=4 * (m * m)):bd k (d2 a b c d):=by
 have h1:=y2a ha hd;have h2:=y2a hb hc;have:=y1p h1 (y3n h2);unfold d2;exact y25 this (by omega)
theorem y4q{a b c d e f g h i:Gau}(ha:bd 12 a)(hb:bd 12 b)(hc:bd 12 c)(hd:bd 12 d)(he:bd 12 e)(hf:bd 12 f)(hg:bd 12 g)(hh:bd 12 h)(hi:bd 12 i):bd 41472 (d3 a b c d e f g h i):=by
 have h1:=y2a ha (yQZ (k:=576) he hf hh hi (by decide))
 have h2:=y2a hb (yQZ (k:=576) hd hf hg hi (by decide))
 have h3:=y2a hc (yQZ (k:=576) hd he hg hh (by decide))
 have:=y1p (y1p h1 (y3n h2)) h3;unfold d3;exact y25 this (by decide)
theorem yGk{c0 c1 c2 c3 b0 b1 b2 b3:Gau}(h0:bd 41472 c0)(h1:bd 41472 c1)(h2:bd 41472 c2)(h3:bd 41472 c3)(k0:bd 768 b0)(k1:bd 768 b1)(k2:bd 768 b2)(k3:bd 768 b3):bd 1000000000 (addX (addX (addX (mulX c0 b0) (mulX c1 b1)) (mulX c2 b2)) (mulX c3 b3)):=by
 have:=y1p (y1p (y1p (y2a h0 k0) (y2a h1 k1)) (y2a h2 k2)) (y2a h3 k3);exact y25 this (by decide)
theorem bdA:bdD 768 4 < 9223372036854775807:=by decide
theorem yQ8{T:List Int}{f:Int->Gau}(v:List (Int->Gau))(hv:v.length<=4)(hg:∀ a∈v,∀ b∈v,bd 12 (ip T a b))(hf:∀ a∈v,bd 768 (ip T a f)):∀ z∈y27 T v f,bd 100000000000 z:=by
 intro z hz;unfold y27 at hz;obtain ⟨j,hj,rfl⟩:=mem_map.1 hz;rcases (show v.length=4\/v.length<=3 by omega)with h4|h3
 ·obtain ⟨a,b,c,h,rfl⟩:∃ a b c h,v=[a,b,c,h]:=by
   match v,h4 with
   |[a,b,c,h],_=>exact ⟨a,b,c,h,rfl⟩
  have g:∀ x∈[a,b,c,h],∀ y∈[a,b,c,h],bd 12 (ip T x y):=hg;have ka:=hf a (by simp)
  have kb:=hf b (by simp)
  have kc:=hf c (by simp)
  have kh:=hf h (by simp)
  have aa:=g a (by simp) a (by simp)
  have ab:=g a (by simp) b (by simp)
  have ac:=g a (by simp) c (by simp)
  have ah:=g a (by simp) h (by simp)
  have ba:=g b (by simp) a (by simp)
  have bb:=g b (by simp) b (by simp)
  have bc:=g b (by simp) c (by simp)
  have bh:=g b (by simp) h (by simp)
  have ca:=g c (by simp) a (by simp)
  have cb:=g c (by simp) b (by simp)
  have cc:=g c (by simp) c (by simp)
  have ch:=g c (by simp) h (by simp)
  have ha:=g h (by simp) a (by simp)
  have hb:=g h (by simp) b (by simp)
  have hc:=g h (by simp) c (by simp)
  have hh:=g h (by simp) h (by simp)
  have hj4:=List.mem_range.1 hj;simp only[length_cons,List.length_nil]at hj4;rcases (show j=0\/j=1\/j=2\/j=3 by omega)with rfl|rfl|rfl|rfl
  ·show bd _ (detX [[ip T a f,ip T a b,ip T a c,ip T a h],[ip T b f,ip T b b,ip T b c,ip T b h],[ip T c f,ip T c b,ip T c c,ip T c h],[ip T h f,ip T h b,ip T h c,ip T h h]] [0,1,2,3])
   rw[e4];show bd _ (d4 (ip T a f) (ip T a b) (ip T a c) (ip T a h) (ip T b f) (ip T b b) (ip T b c) (ip T b h) (ip T c f) (ip T c b) (ip T c c) (ip T c h) (ip T h f) (ip T h b) (ip T h c) (ip T h h))
   rw[<- yHf];exact y25 (yGk (y4q bb bc bh cb cc ch hb hc hh) (y3n (y4q ab ac ah cb cc ch hb hc hh)) (y4q ab ac ah bb bc bh hb hc hh) (y3n (y4q ab ac ah bb bc bh cb cc ch)) ka kb kc kh) (by decide)
  ·show bd _ (detX [[ip T a a,ip T a f,ip T a c,ip T a h],[ip T b a,ip T b f,ip T b c,ip T b h],[ip T c a,ip T c f,ip T c c,ip T c h],[ip T h a,ip T h f,ip T h c,ip T h h]] [0,1,2,3])
   rw[e4];show bd _ (d4 (ip T a a) (ip T a f) (ip T a c) (ip T a h) (ip T b a) (ip T b f) (ip T b c) (ip T b h) (ip T c a) (ip T c f) (ip T c c) (ip T c h) (ip T h a) (ip T h f) (ip T h c) (ip T h h))
   rw[<- yI4];exact y25 (yGk (y3n (y4q ba bc bh ca cc ch ha hc hh)) (y4q aa ac ah ca cc ch ha hc hh) (y3n (y4q aa ac ah ba bc bh ha hc hh)) (y4q aa ac ah ba bc bh ca cc ch) ka kb kc kh) (by decide)
  ·show bd _ (detX [[ip T a a,ip T a b,ip T a f,ip T a h],[ip T b a,ip T b b,ip T b f,ip T b h],[ip T c a,ip T c b,ip T c f,ip T c h],[ip T h a,ip T h b,ip T h f,ip T h h]] [0,1,2,3])
   rw[e4];show bd _ (d4 (ip T a a) (ip T a b) (ip T a f) (ip T a h) (ip T b a) (ip T b b) (ip T b f) (ip T b h) (ip T c a) (ip T c b) (ip T c f) (ip T c h) (ip T h a) (ip T h b) (ip T h f) (ip T h h))
   rw[<- yIN];exact y25 (yGk (y4q ba bb bh ca cb ch ha hb hh) (y3n (y4q aa ab ah ca cb ch ha hb hh)) (y4q aa ab ah ba bb bh ha hb hh) (y3n (y4q aa ab ah ba bb bh ca cb ch)) ka kb kc kh) (by decide)
  ·show bd _ (detX [[ip T a a,ip T a b,ip T a c,ip T a f],[ip T b a,ip T b b,ip T b c,ip T b f],[ip T c a,ip T c b,ip T c c,ip T c f],[ip T h a,ip T h b,ip T h c,ip T h f]] [0,1,2,3])
   rw[e4];show bd _ (d4 (ip T a a) (ip T a b) (ip T a c) (ip T a f) (ip T b a) (ip T b b) (ip T b c) (ip T b f) (ip T c a) (ip T c b) (ip T c c) (ip T c f) (ip T h a) (ip T h b) (ip T h c) (ip T h f))
   rw[<- yHN];exact y25 (yGk (y3n (y4q ba bb bc ca cb cc ha hb hc)) (y4q aa ab ac ca cb cc ha hb hc) (y3n (y4q aa ab ac ba bb bc ha hb hc)) (y4q aa ab ac ba bb bc ca cb cc) ka kb kc kh) (by decide)
 ·have hpl:(putX (v.map λ a=>ip T a f) j (gm T v)).length=v.length:=by unfold putX gm;simp
  have hb:∀ q∈putX (v.map λ a=>ip T a f) j (gm T v),∀ z∈q,bd 768 z:=λ q hq z hz=>by
   unfold putX at hq;obtain ⟨i,hi,rfl⟩:=List.mem_iff_getElem.1 hq;rw[List.getElem_zipWith]at hz;rcases List.mem_or_eq_of_mem_set hz with h|h
   ·unfold gm at h;rw[getElem_map]at h;obtain ⟨b,hb,rfl⟩:=mem_map.1 h;exact y25 (hg _ (List.getElem_mem _) b hb) (by decide)
   ·rw[h,getElem_map];exact hf _ (List.getElem_mem _)
  obtain ⟨_,x2⟩:=yCi (m:=768) (by decide) bdA (by decide) (putX (v.map λ a=>ip T a f) j (gm T v)) (List.range v.length) (by rw[hpl];simp) (by omega) hb
  refine y25 x2 ?_
  rw[hpl];rcases (show v.length=0\/v.length=1\/v.length=2\/v.length=3 by omega)with q|q|q|q<;>rw[q]<;>decide
theorem yOn{r:Rec}(h:lowR4 r)(l:List Con):∀ a∈l.map chr,∀ b∈l.map chr,bd 12 (ip (tks r) a b):=λ a ha b hb=>by
 obtain ⟨x,_,rfl⟩:=mem_map.1 ha;obtain ⟨y,_,rfl⟩:=mem_map.1 hb;have hf:=h.few;obtain ⟨_,i2⟩:=yBy (T:=tks r) (by omega) x y
 exact y25 i2 (by omega)
theorem y8E{r:Rec}(h:lowR4 r){l:List Con}(hl:l.length<=4):solA r l=y27 (tks r) (l.map chr) (levF r)/\(∀ z∈solA r l,bd 100000000000 z)/\denA r l=(DX (tks r) (l.map chr)).1/\l.map (solW r)=(l.map chr).map λ a=>ip (tks r) a (levF r):=by
 have hf:=h.few;have hcol:l.map (solW r)=(l.map chr).map λ a=>ip (tks r) a (levF r):=by
  rw[List.map_map];exact List.map_congr_left λ a _=>(yCK h a).1
 have hn:=yLr (T:=tks r) (by omega) l
 have hpl:∀ j,(putX ((l.map chr).map λ a=>ip (tks r) a (levF r)) j (gm (tks r) (l.map chr))).length=l.length:=λ j=>by unfold putX gm;simp
 have hb:∀ j,∀ q∈putX ((l.map chr).map λ a=>ip (tks r) a (levF r)) j (gm (tks r) (l.map chr)),∀ z∈q,bd 768 z:=λ j q hq z hz=>by
  unfold putX at hq;obtain ⟨i,hi,rfl⟩:=List.mem_iff_getElem.1 hq;rw[List.getElem_zipWith]at hz;rcases List.mem_or_eq_of_mem_set hz with h'|h'
  ·unfold gm at h';rw[getElem_map]at h';obtain ⟨b,hb,rfl⟩:=mem_map.1 h';exact y25 (yOn h l _ (List.getElem_mem _) b hb) (by decide)
  ·rw[h',getElem_map,getElem_map];exact (yCK h _).2
 have e:solA r l=y27 (tks r) (l.map chr) (levF r):=by
  unfold solA y27;rw[length_map];refine List.map_congr_left λ j _=>?_
  rw[hcol,hn];have:=(yCi (m:=768) (by decide) bdA (by decide) (putX ((l.map chr).map λ a=>ip (tks r) a (levF r)) j (gm (tks r) (l.map chr))) (List.range l.length) (by rw[hpl];simp) (by rw[hpl];omega) (hb j)).1
  show detC (y8m (gm (tks r) (l.map chr)) j ((l.map chr).map λ a=>ip (tks r) a (levF r))) (List.range (y8m (gm (tks r) (l.map chr)) j ((l.map chr).map λ a=>ip (tks r) a (levF r))).length)=_
  rw[show y8m (gm (tks r) (l.map chr)) j ((l.map chr).map λ a=>ip (tks r) a (levF r))=putX ((l.map chr).map λ a=>ip (tks r) a (levF r)) j (gm (tks r) (l.map chr))from rfl,hpl]
  exact this
 refine ⟨e,?_,?_,hcol⟩
 ·rw[e];refine yQ8 _ (by simpa using hl) (yOn h l) λ a ha=>?_
  obtain ⟨x,_,rfl⟩:=mem_map.1 ha;exact (yCK h x).2
 ·unfold denA;rw[hn];have hb2:∀ q∈gm (tks r) (l.map chr),∀ z∈q,bd 768 z:=λ q hq z hz=>by
   unfold gm at hq;obtain ⟨a,ha,rfl⟩:=mem_map.1 hq;obtain ⟨b,hb,rfl⟩:=mem_map.1 hz;exact y25 (yOn h l a ha b hb) (by decide)
  have hgl:(gm (tks r) (l.map chr)).length=l.length:=by unfold gm;simp
  have:=(yCi (m:=768) (by decide) bdA (by decide) (gm (tks r) (l.map chr)) (List.range l.length) (by rw[hgl];simp) (by omega) hb2).1
  unfold DX;rw[length_map,<- this];show (detC (gm (tks r) (l.map chr)) (List.range (gm (tks r) (l.map chr)).length)).1=_
  rw[hgl]
theorem y4S{r:Rec}(h:lowR4 r){l:List Con}(hl:l.length<=4):0<=denA r l/\denA r l<=20736:=by
 have hf:=h.few;rw[(y8E h hl).2.2.1];obtain ⟨D,d1,d2,_⟩:=gram (tks r) (l.map chr) (by simpa using hl)
 have:=yFs (T:=tks r) (n:=12) (by omega) l l.length hl (Nat.le_refl _)
 rw[List.take_length]at this;have h4:(12:Int) ^ l.length<=20736:=by
  rcases (show l.length=0\/l.length=1\/l.length=2\/l.length=3\/l.length=4 by omega)with q|q|q|q|q<;>rw[q]<;>decide
 rw[d1]at this ⊢;simp only at this ⊢;omega
theorem yK6{r:Rec}:∀ (T:List Int),(∀ t∈T,-64<=levI r t/\levI r t<=64)->∃ F:Int,ip T (levF r) (levF r)=(F,0,())/\0<=F/\F<=4096 * T.length
 |[],_=>⟨0,rfl,by decide,by simp⟩
 |t::T,h=>by
  obtain ⟨F,f1,f2,f3⟩:=yK6 T λ u hu=>h u (by simp[hu])
  have h1:=h t (by simp)
  have h2:=y1d (m:=64) (k:=64) (a:=levI r t) (b:=levI r t) (by omega) (by omega)
  have h3:=y1R (levI r t);refine ⟨levI r t * levI r t+F,?_,by omega,by simp only[length_cons];omega⟩
  show addX (mulX (conX (levF r t)) (levF r t)) (ip T (levF r) (levF r))=_
  rw[f1];exact yA (by simp only[addX,mulX,conX,levF];grind) (by simp only[addX,mulX,conX,levF];grind)
theorem les1{r:Rec}{D:Int}(hD:0<=D/\D<=20736):∀ (R:List (Int×Nat)) (acc:Int),(∀ q∈R,levI r (r.2.1+q.1)=sx q.2/\(-64<=sx q.2/\sx q.2<=64))->0<=acc->acc+84934656 * R.length < 9223372036854775807 ->
  R.foldl (lesS D) acc=acc+D * (ip (R.map λ q=>r.2.1+q.1) (levF r) (levF r)).1
 |[],acc,_,_,_=>by
  show acc=acc+D * 0
  omega
 |q::R,acc,hq,h0,hB=>by
  simp only[length_cons]at hB;obtain ⟨q1,q2⟩:=hq q (by simp)
  have a1:=y1d (m:=64) (k:=64) (a:=sx q.2) (b:=sx q.2) (by omega) (by omega)
  have a2:=y1R (sx q.2);have a3:=y1d (m:=20736) (k:=64) (a:=D) (b:=sx q.2) (by omega) (by omega)
  have a4:0<=D * (sx q.2 * sx q.2):=Int.mul_nonneg hD.1 a2;have a5:D * (sx q.2 * sx q.2)<=20736 * 4096:=Int.mul_le_mul hD.2 (by omega) a2 (by decide)
  have e0:D * sx q.2 * sx q.2=D * (sx q.2 * sx q.2):=Int.mul_assoc _ _ _;have e:lesS D acc q=acc+D * (sx q.2 * sx q.2):=by
   unfold lesS;rw[y04 (i:=D * sx q.2) (by omega) (by omega),e0,y04 (i:=D * (sx q.2 * sx q.2)) (by omega) (by omega),y04 (by omega) (by omega)]
  rw[foldl_cons,e,les1 hD R _ (λ q' h'=>hq q' (by simp[h'])) (by omega) (by omega),List.map_cons]
  have hl:levF r (r.2.1+q.1)=(sx q.2,0,()):=by unfold levF;rw[q1]
  show _=acc+D * (addX (mulX (conX (levF r (r.2.1+q.1))) (levF r (r.2.1+q.1))) (ip (R.map λ q=>r.2.1+q.1) (levF r) (levF r))).1
  rw[hl];simp only[addX,mulX,conX];grind
theorem les2:∀ (B A:List Gau) (acc M:Int),B.length=A.length->(∀ z∈B,bd 768 z)->(∀ z∈A,bd 100000000000 z)->(-M<=acc/\acc<=M)->0<=M->M+153600000000000 * B.length < 9223372036854775807 ->
  (B.zip A).foldl lesT acc=acc - (dotX A (B.map conX)).1
 |[],[],acc,_,_,_,_,_,_,_=>by
  show acc=acc - 0
  omega
 |[],_::_,_,_,h,_,_,_,_,_=>by simp at h
 |_::_,[],_,_,h,_,_,_,_,_=>by simp at h
 |b::B,a::A,acc,M,h,hB,hA,hm,h0,hs=>by
  simp only[length_cons,Nat.add_right_cancel_iff]at h;simp only[length_cons]at hs;have k1:=hB b (by simp)
  have k2:=hA a (by simp)
  have hc:=yKU k1 (by decide)
  have ht:=y7v (yAD k1) k2 (by decide)
  have hb2:=y2a (yAD k1) k2;have e:lesT acc (b,a)=acc - (mulX (conX b) a).1:=by
   unfold lesT;simp only;rw[hc,ht];have:=hb2.1;rw[y04 (by omega) (by omega)]
  have h1:=hb2.1;rw[List.zip_cons_cons,foldl_cons,e,les2 B A _ (M+153600000000000) h (λ z hz=>hB z (by simp[hz])) (λ z hz=>hA z (by simp[hz])) (by omega) (by omega) (by omega)]
  show _=acc - (addX (mulX a (conX b)) (dotX A (B.map conX))).1
  simp only[addX,mulX,conX];grind
theorem yPB{r:Rec}(h:lowR4 r){l:List Con}(hl:l.length<=4):lesN r l=numX (tks r) (l.map chr) (levF r):=by
 obtain ⟨s1,s2,s3,s4⟩:=y8E h hl;have hd:=y4S h hl;have h12:=yEh h;have hsl:(solA r l).length=l.length:=by unfold solA;simp
 have hlr:(ip (tks r) (levF r) (levF r)).1<=49152/\0<=(ip (tks r) (levF r) (levF r)).1:=by
  obtain ⟨F,f1,f2,f3⟩:=yK6 (r:=r) (tks r) λ t ht=>yGM h ht
  have:=h.few;rw[f1];simp only;omega
 unfold lesN;rw[les1 (r:=r) hd _ 0 (yAz h) (by decide) (by omega),Int.zero_add]
 have hip:ip ((recd r.2.2.2.1 0 r.2.2.1).map λ q=>r.2.1+q.1) (levF r) (levF r)=ip (tks r) (levF r) (levF r):=rfl
 have hb1:0<=denA r l * (ip (tks r) (levF r) (levF r)).1:=Int.mul_nonneg hd.1 hlr.2;have hb2:denA r l * (ip (tks r) (levF r) (levF r)).1<=20736 * 49152:=Int.mul_le_mul hd.2 hlr.1 hlr.2 (by decide)
 rw[hip,les2 (l.map (solW r)) (solA r l) _ 2000000000 (by rw[hsl];simp) (λ z hz=>by
  obtain ⟨c,_,rfl⟩:=mem_map.1 hz;rw[(yCK h c).1];exact (yCK h c).2) s2 (by omega) (by decide) (by rw[length_map];omega)]
 unfold numX;rw[s3,s1,s4,List.map_map];congr 3
 exact List.map_congr_left λ a _=>(y3p _ _ _).symm
end Go.Tw
