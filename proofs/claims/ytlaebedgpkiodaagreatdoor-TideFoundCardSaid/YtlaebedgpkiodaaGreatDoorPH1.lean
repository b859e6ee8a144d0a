import Derived.Test.YtlaebedgpkiodaaGreatDoorPF3
set_option linter.all false
set_option maxRecDepth 100000
open List (foldl_cons length_cons length_map map_congr_left map_cons map_map mem_map)
namespace Go.Tw
open Go.Vx Go.Vx.B Go.Proofs Ieee
structure lowR5 (r:Rec):Prop where
 ok:okR r
 lev:∀ x∈r.2.2.1,-400<=sx x/\sx x<=400
 few:(tks r).length<=16
theorem bdV:bdD 6400 4 < 9223372036854775807:=by decide
theorem yJf{r:Rec}(h:lowR5 r){t:Int}(ht:t∈tks r):-400<=levI r t/\levI r t<=400:=by
 unfold tks at ht;obtain ⟨q,hq,rfl⟩:=mem_map.1 ht;rw[yJJ h.ok hq];obtain ⟨_,_,h3⟩:=yC9 h.ok q hq;exact h.lev _ (List.mem_of_getElem? h3)
theorem yEn{z:Gau}{n:Int}(h:bd 1 z)(hn:-400<=n/\n<=400):(z0N z n).1=mulX z (n,0,())/\bd 400 (mulX z (n,0,())):=by
 have e:mulX z (n,0,())=(n * z.1,n * z.2.1,()):=yC (by simp only[mulX];grind) (by simp only[mulX];grind)
 have h1:=y1G (m:=400) (k:=1) (a:=n) (b:=z.1) (by omega) h.1
 have h2:=y1G (m:=400) (k:=1) (a:=n) (b:=z.2.1) (by omega) h.2
 rw[e];refine ⟨?_,by unfold bd;simp only;omega⟩
 unfold z0N;simp only;rw[yw (by omega) (by omega),yw (by omega) (by omega)]
theorem yD2{r:Rec}(c:Con):∀ (R:List (Int×Nat)) (s:Int×Int) (B:Int),bd B (s.1,s.2,())->0<=B->B+400 * R.length < 9223372036854775807->(∀ q∈R,levI r (r.2.1+q.1)=sx q.2/\(-400<=sx q.2/\sx q.2<=400)) ->
  ((R.foldl (solS c r.2.1) s).1,(R.foldl (solS c r.2.1) s).2,())=addX (s.1,s.2,()) (sumX (λ t=>mulX (conX (chr c t)) (levF r t)) (R.map λ q=>r.2.1+q.1))/\bd (400 * R.length) (sumX (λ t=>mulX (conX (chr c t)) (levF r t)) (R.map λ q=>r.2.1+q.1))
 |[],s,B,hs,h0,hB,_=>⟨(y0N _).symm,yLf (by simp)⟩
 |q::R,s,B,hs,h0,hB,hq=>by
  simp only[length_cons]at hB ⊢;obtain ⟨q1,q2⟩:=hq q (by simp)
  have hc:=yOU (yFr c (r.2.1+q.1)) (by decide)
  obtain ⟨u1,u2⟩:=yEn (yLE (yFr c (r.2.1+q.1))) q2;have hl:levF r (r.2.1+q.1)=(sx q.2,0,()):=by unfold levF;rw[q1]
  have e:solS c r.2.1 s q=((addX (s.1,s.2,()) (mulX (conX (chr c (r.2.1+q.1))) (sx q.2,0,()))).1,(addX (s.1,s.2,()) (mulX (conX (chr c (r.2.1+q.1))) (sx q.2,0,()))).2.1):=by
   unfold solS;simp only;rw[hc,u1,yFP hs u2 (by omega)]
  obtain ⟨i1,i2⟩:=yD2 c R (solS c r.2.1 s q) (B+400) (by rw[e];exact y5n hs u2) (by omega) (by omega) λ q' h'=>hq q' (by simp[h'])
  rw[map_cons];show _=addX _ (addX (mulX (conX (chr c (r.2.1+q.1))) (levF r (r.2.1+q.1))) (sumX _ (R.map _)))/\bd _ (addX (mulX (conX (chr c (r.2.1+q.1))) (levF r (r.2.1+q.1))) (sumX _ (R.map _)))
  rw[hl];refine ⟨?_,?_⟩
  ·rw[foldl_cons,i1,e];exact y4g _ _ _
  ·have:=y5n u2 i2;refine y6Z this ?_
   push_cast
   omega
theorem y8k{r:Rec}(h:lowR5 r):∀ q∈recd r.2.2.2.1 0 r.2.2.1,levI r (r.2.1+q.1)=sx q.2/\(-400<=sx q.2/\sx q.2<=400):=λ q hq=>by
 obtain ⟨_,_,h3⟩:=yC9 h.ok q hq;exact ⟨yJJ h.ok hq,h.lev _ (List.mem_of_getElem? h3)⟩
theorem yBk{r:Rec}(h:lowR5 r):(recd r.2.2.2.1 0 r.2.2.1).length<=16:=by
 have:=h.few;unfold tks at this;rw[length_map]at this;exact this
theorem yAg{r:Rec}(h:lowR5 r)(c:Con):solW r c=ip (tks r) (chr c) (levF r)/\bd 6400 (ip (tks r) (chr c) (levF r)):=by
 have hl:=yBk h;obtain ⟨h1,h2⟩:=yD2 (r:=r) c (recd r.2.2.2.1 0 r.2.2.1) (0,0) 0 (by unfold bd;simp) (by decide) (by omega) (y8k h)
 refine ⟨?_,?_⟩
 ·unfold solW;simp only;rw[h1];exact y2d _
 ·exact y6Z h2 (by omega)
theorem yO5{r:Rec}(h:lowR5 r)(l:List Con):∀ a∈l.map chr,∀ b∈l.map chr,bd 16 (ip (tks r) a b):=λ a ha b hb=>by
 obtain ⟨x,_,rfl⟩:=mem_map.1 ha;obtain ⟨y,_,rfl⟩:=mem_map.1 hb;have hf:=h.few;obtain ⟨_,i2⟩:=yAx (T:=tks r) (by omega) x y
 exact y6Z i2 (by omega)
theorem yBg{r:Rec}(h:lowR5 r){l:List Con}(hl:l.length<=4):solA r l=y1y (tks r) (l.map chr) (levF r)/\denA r l=(DX (tks r) (l.map chr)).1/\l.map (solW r)=(l.map chr).map λ a=>ip (tks r) a (levF r):=by
 have hf:=h.few;have hcol:l.map (solW r)=(l.map chr).map λ a=>ip (tks r) a (levF r):=by
  rw[map_map];exact map_congr_left λ a _=>(yAg h a).1
 have hn:=yJA (T:=tks r) (by omega) l
 have hpl:∀ j,(putX ((l.map chr).map λ a=>ip (tks r) a (levF r)) j (gm (tks r) (l.map chr))).length=l.length:=λ j=>by unfold putX gm;simp
 have hb:∀ j,∀ q∈putX ((l.map chr).map λ a=>ip (tks r) a (levF r)) j (gm (tks r) (l.map chr)),∀ z∈q,bd 6400 z:=λ j q hq z hz=>by
  unfold putX at hq;obtain ⟨i,hi,rfl⟩:=List.mem_iff_getElem.1 hq;rw[List.getElem_zipWith]at hz;rcases List.mem_or_eq_of_mem_set hz with h'|h'
  ·unfold gm at h';rw[List.getElem_map]at h';obtain ⟨b,hb,rfl⟩:=mem_map.1 h';exact y6Z (yO5 h l _ (List.getElem_mem _) b hb) (by decide)
  ·rw[h',List.getElem_map,List.getElem_map];exact (yAg h _).2
 have e:solA r l=y1y (tks r) (l.map chr) (levF r):=by
  unfold solA y1y;rw[length_map];refine map_congr_left λ j _=>?_
  rw[hcol,hn];have:=(yFT (m:=6400) (by decide) bdV (by decide) (putX ((l.map chr).map λ a=>ip (tks r) a (levF r)) j (gm (tks r) (l.map chr))) (List.range l.length) (by rw[hpl];simp) (by rw[hpl];omega) (hb j)).1
  show detC (y8z (gm (tks r) (l.map chr)) j ((l.map chr).map λ a=>ip (tks r) a (levF r))) (List.range (y8z (gm (tks r) (l.map chr)) j ((l.map chr).map λ a=>ip (tks r) a (levF r))).length)=_
  rw[show y8z (gm (tks r) (l.map chr)) j ((l.map chr).map λ a=>ip (tks r) a (levF r))=putX ((l.map chr).map λ a=>ip (tks r) a (levF r)) j (gm (tks r) (l.map chr))from rfl,hpl]
  exact this
 refine ⟨e,?_,hcol⟩
 ·unfold denA;rw[hn];have hb2:∀ q∈gm (tks r) (l.map chr),∀ z∈q,bd 6400 z:=λ q hq z hz=>by
   unfold gm at hq;obtain ⟨a,ha,rfl⟩:=mem_map.1 hq;obtain ⟨b,hb,rfl⟩:=mem_map.1 hz;exact y6Z (yO5 h l a ha b hb) (by decide)
  have hgl:(gm (tks r) (l.map chr)).length=l.length:=by unfold gm;simp
  have:=(yFT (m:=6400) (by decide) bdV (by decide) (gm (tks r) (l.map chr)) (List.range l.length) (by rw[hgl];simp) (by omega) hb2).1
  unfold DX;rw[length_map,<- this];show (detC (gm (tks r) (l.map chr)) (List.range (gm (tks r) (l.map chr)).length)).1=_
  rw[hgl]
theorem yAZ{r:Rec}(h:lowR5 r){l:List Con}(hl:l.length<=4):0<=denA r l/\denA r l<=65536:=by
 have hf:=h.few;rw[(yBg h hl).2.1];obtain ⟨D,d1,d2,_⟩:=gram (tks r) (l.map chr) (by simpa using hl)
 have:=yGF (T:=tks r) (n:=16) (by omega) l l.length hl (Nat.le_refl _)
 rw[List.take_length]at this;have h4:(16:Int) ^ l.length<=65536:=by
  rcases (show l.length=0\/l.length=1\/l.length=2\/l.length=3\/l.length=4 by omega)with q|q|q|q|q<;>rw[q]<;>decide
 rw[d1]at this ⊢;simp only at this ⊢;omega
theorem yL4{r:Rec}:∀ (T:List Int),(∀ t∈T,-400<=levI r t/\levI r t<=400)->∃ F:Int,ip T (levF r) (levF r)=(F,0,())/\0<=F/\F<=160000 * T.length
 |[],_=>⟨0,rfl,by decide,by simp⟩
 |t::T,h=>by
  obtain ⟨F,f1,f2,f3⟩:=yL4 T λ u hu=>h u (by simp[hu])
  have h1:=h t (by simp)
  have h2:=y1G (m:=400) (k:=400) (a:=levI r t) (b:=levI r t) (by omega) (by omega)
  have h3:=y1b (levI r t);refine ⟨levI r t * levI r t+F,?_,by omega,by simp only[length_cons];omega⟩
  show addX (mulX (conX (levF r t)) (levF r t)) (ip T (levF r) (levF r))=_
  rw[f1];exact yC (by simp only[addX,mulX,conX,levF];grind) (by simp only[addX,mulX,conX,levF];grind)
theorem yQz{r:Rec}{D:Int}(hD:0<=D/\D<=65536):∀ (R:List (Int×Nat)) (acc:Int),(∀ q∈R,levI r (r.2.1+q.1)=sx q.2/\(-400<=sx q.2/\sx q.2<=400))->0<=acc->acc+10485760000 * R.length < 9223372036854775807 ->
  R.foldl (lesS D) acc=acc+D * (ip (R.map λ q=>r.2.1+q.1) (levF r) (levF r)).1
 |[],acc,_,_,_=>by
  show acc=acc+D * 0
  omega
 |q::R,acc,hq,h0,hB=>by
  simp only[length_cons]at hB;obtain ⟨q1,q2⟩:=hq q (by simp)
  have a1:=y1G (m:=400) (k:=400) (a:=sx q.2) (b:=sx q.2) (by omega) (by omega)
  have a2:=y1b (sx q.2);have a3:=y1G (m:=65536) (k:=400) (a:=D) (b:=sx q.2) (by omega) (by omega)
  have a4:0<=D * (sx q.2 * sx q.2):=Int.mul_nonneg hD.1 a2;have a5:D * (sx q.2 * sx q.2)<=65536 * 160000:=Int.mul_le_mul hD.2 (by omega) a2 (by decide)
  have e0:D * sx q.2 * sx q.2=D * (sx q.2 * sx q.2):=Int.mul_assoc _ _ _;have e:lesS D acc q=acc+D * (sx q.2 * sx q.2):=by
   unfold lesS;rw[yw (i:=D * sx q.2) (by omega) (by omega),e0,yw (i:=D * (sx q.2 * sx q.2)) (by omega) (by omega),yw (by omega) (by omega)]
  rw[foldl_cons,e,yQz hD R _ (λ q' h'=>hq q' (by simp[h'])) (by omega) (by omega),map_cons]
  have hl:levF r (r.2.1+q.1)=(sx q.2,0,()):=by unfold levF;rw[q1]
  show _=acc+D * (addX (mulX (conX (levF r (r.2.1+q.1))) (levF r (r.2.1+q.1))) (ip (R.map λ q=>r.2.1+q.1) (levF r) (levF r))).1
  rw[hl];simp only[addX,mulX,conX];grind
theorem yRH:∀ (B A:List Gau) (acc M:Int),B.length=A.length->(∀ z∈B,bd 6400 z)->(∀ z∈A,bd 6553600 z)->(-M<=acc/\acc<=M)->0<=M->M+83886080000 * B.length < 9223372036854775807 ->
  (B.zip A).foldl lesT acc=acc - (dotX A (B.map conX)).1
 |[],[],acc,_,_,_,_,_,_,_=>by
  show acc=acc - 0
  omega
 |[],_::_,_,_,h,_,_,_,_,_=>by simp at h
 |_::_,[],_,_,h,_,_,_,_,_=>by simp at h
 |b::B,a::A,acc,M,h,hB,hA,hm,h0,hs=>by
  simp only[length_cons,Nat.add_right_cancel_iff]at h;simp only[length_cons]at hs;have k1:=hB b (by simp)
  have k2:=hA a (by simp)
  have hc:=yOU k1 (by decide)
  have ht:=yEs (yLE k1) k2 (by decide)
  have hb2:=yM1 (yLE k1) k2;have e:lesT acc (b,a)=acc - (mulX (conX b) a).1:=by
   unfold lesT;simp only;rw[hc,ht];have:=hb2.1;rw[yw (by omega) (by omega)]
  have h1:=hb2.1;rw[List.zip_cons_cons,foldl_cons,e,yRH B A _ (M+83886080000) h (λ z hz=>hB z (by simp[hz])) (λ z hz=>hA z (by simp[hz])) (by omega) (by omega) (by omega)]
  show _=acc - (addX (mulX a (conX b)) (dotX A (B.map conX))).1
  simp only[addX,mulX,conX];grind
theorem yMM{r:Rec}(h:lowR5 r){l:List Con}(hl:l.length<=4)(s2:∀ z∈solA r l,bd 6553600 z):lesN r l=numX (tks r) (l.map chr) (levF r):=by
 obtain ⟨s1,s3,s4⟩:=yBg h hl;have hd:=yAZ h hl;have h12:=yBk h;have hsl:(solA r l).length=l.length:=by unfold solA;simp
 have hlr:(ip (tks r) (levF r) (levF r)).1<=2560000/\0<=(ip (tks r) (levF r) (levF r)).1:=by
  obtain ⟨F,f1,f2,f3⟩:=yL4 (r:=r) (tks r) λ t ht=>yJf h ht
  have:=h.few;rw[f1];simp only;omega
 unfold lesN;rw[yQz (r:=r) hd _ 0 (y8k h) (by decide) (by omega),Int.zero_add]
 have hip:ip ((recd r.2.2.2.1 0 r.2.2.1).map λ q=>r.2.1+q.1) (levF r) (levF r)=ip (tks r) (levF r) (levF r):=rfl
 have hb1:0<=denA r l * (ip (tks r) (levF r) (levF r)).1:=Int.mul_nonneg hd.1 hlr.2;have hb2:denA r l * (ip (tks r) (levF r) (levF r)).1<=65536 * 2560000:=Int.mul_le_mul hd.2 hlr.1 hlr.2 (by decide)
 rw[hip,yRH (l.map (solW r)) (solA r l) _ 200000000000 (by rw[hsl];simp) (λ z hz=>by
  obtain ⟨c,_,rfl⟩:=mem_map.1 hz;rw[(yAg h c).1];exact (yAg h c).2) s2 (by omega) (by decide) (by rw[length_map];omega)]
 unfold numX;rw[s3,s1,s4,map_map];congr 3
 exact map_congr_left λ a _=>(y3n _ _ _).symm
theorem yNj{r:Rec}(h:lowR5 r){l:List Con}{a:List Gau}{D M:Int}(hl:l.length=a.length)(hl4:l.length<=4)(ha:∀ z∈a,bd M z)(hM:0<=M)(hD:0<=D){t:Int}(ht:t∈tks r):bd (400 * D+4 * M) (y5x r l a D t):=by
 have h1:=yJf h ht;have h2:=ySE hM t l a hl.symm ha;have e:mulX (D,0,()) (levF r t)=(D * levI r t,0,()):=by unfold levF;exact yC (by simp[mulX]) (by simp[mulX])
 have h3:=y1G (m:=D) (k:=400) (a:=D) (b:=levI r t) (by omega) (by omega)
 have h4:(l.length:Int) * M<=4 * M:=Int.mul_le_mul_of_nonneg_right (by omega) hM
 have h5:bd (400 * D) (mulX (D,0,()) (levF r t)):=by rw[e];unfold bd;simp only;omega
 exact y6Z (y5n h5 (yRL h2)) (by omega)
theorem yOz{r:Rec}(h:lowR5 r){l:List Con}{a:List Gau}{D M:Int}(hl:l.length=a.length)(hl4:l.length<=4)(ha:∀ z∈a,bd M z)(hM:0<=M/\M<=4194304)(hD:0<=D/\D<=4096) :
  resN r (l,a,D,())=(ip (tks r) (y5x r l a D) (y5x r l a D)).1/\(0<=resN r (l,a,D,())/\resN r (l,a,D,())<=32 * ((400 * D+4 * M) * (400 * D+4 * M))):=by
 have h12:=yBk h;have hln:(l.length:Int) * (2 * M)<=4 * (2 * M):=Int.mul_le_mul_of_nonneg_right (by omega) (by omega)
 have key:=yGJ (r:=r) (l,a,D,()) (y5x r l a D) (400 * D+4 * M) (by omega) (recd r.2.2.2.1 0 r.2.2.1) 0 (λ q hq=>by
  have ht:r.2.1+q.1∈tks r:=by unfold tks;exact mem_map.2 ⟨q,hq,rfl⟩
  have hb:=yNj h hl hl4 ha hM.1 hD.1 ht;have hv:valT (l,a,D,()) (r.2.1+q.1)=lc a (l.map chr) (r.2.1+q.1):=by
   unfold valT;rw[yKO hM.1 (r.2.1+q.1) l a (0,0,()) 0 hl.symm ha (by unfold bd;simp) (by decide) (by omega)]
   exact y2d _
  have hlev:=(y8k h q hq);have e:y5x r l a D (r.2.1+q.1)=(D * sx q.2 - (lc a (l.map chr) (r.2.1+q.1)).1,-(lc a (l.map chr) (r.2.1+q.1)).2.1,()):=by
   unfold y5x levF;rw[hlev.1];exact yC (by simp only[addX,mulX,negX];grind) (by simp only[addX,mulX,negX];grind)
  have hds:=y1G (m:=D) (k:=400) (a:=D) (b:=sx q.2) (by omega) hlev.2
  rw[hv];refine ⟨?_,?_,hb⟩
  ·rw[e]at hb ⊢;have hb1:=hb.1;simp only at hb1 ⊢;rw[yw (i:=D * sx q.2) (by omega) (by omega),yw (by omega) (by omega)]
  ·rw[e];simp only;omega) (by decide) (by omega)
 obtain ⟨k1,k2,k3⟩:=key;have hip:ip ((recd r.2.2.2.1 0 r.2.2.1).map λ q=>r.2.1+q.1) (y5x r l a D) (y5x r l a D)=ip (tks r) (y5x r l a D) (y5x r l a D):=rfl
 rw[hip]at k1 k2 k3;have hr:resN r (l,a,D,())=(ip (tks r) (y5x r l a D) (y5x r l a D)).1:=by
  unfold resN;rw[k1];omega
 have hsq:=y1b (400 * D+4 * M);have h24:2 * ((400 * D+4 * M) * (400 * D+4 * M)) * ((recd r.2.2.2.1 0 r.2.2.1).length:Int)<=2 * ((400 * D+4 * M) * (400 * D+4 * M)) * 16:=Int.mul_le_mul_of_nonneg_left (by omega) (by omega)
 refine ⟨hr,by rw[hr];exact k2,?_⟩
 rw[hr];omega
theorem yD4{D:Int}:∀ (A B:List Gau),A.length=B.length->(∀ z∈y4W (D,0,()) G1 A B,z=G0)->B=A.map (mulX (D,0,()))
 |[],[],_,_=>rfl
 |[],_::_,h,_=>by simp at h
 |_::_,[],h,_=>by simp at h
 |a::A,b::B,h,hz=>by
  have h1:addX (mulX (D,0,()) a) (negX (mulX G1 b))=G0:=hz _ (by unfold y4W;simp)
  have h2:=yD4 (D:=D) A B (by simpa using h) λ z hz'=>hz z (by unfold y4W;exact List.mem_cons_of_mem _ hz')
  rw[map_cons,<- h2];congr 1
  have e1:=congrArg (λ z:Gau=>z.1) h1
  have e2:=congrArg (λ z:Gau=>z.2.1) h1
  simp only[addX,negX,mulX,G1,G0]at e1 e2;exact yC (by simp only[mulX];omega) (by simp only[mulX];omega)
theorem yNP{T:List Int}{v:List (Int->Gau)}{A:List Gau}{f:Int->Gau}(hv:v.length<=4)(hA:A.length=v.length){D:Int}(hD:DX T v=(D,0,()))(h0:D≠0)(hf:∀ t∈T,f t=lc A v t) :
  y1y T v f=A.map (mulX (D,0,()))/\numX T v f=0:=by
 have hcl:=yBW T v f;have he:∀ t∈T,y1U T v f t=lc (y4W (D,0,()) G1 A (y1y T v f)) v t:=λ t ht=>by
  rw[yEP _ _ t A _ v hA hcl,<- hf t ht];unfold y1U;rw[hD];generalize lc (y1y T v f) v t=w;exact yC (by simp only[addX,negX,mulX,G1];omega) (by simp only[addX,negX,mulX,G1];omega)
 have hs:=y8P (T:=T) hv f (y4W (D,0,()) G1 A (y1y T v f));have hself:ip T (y1U T v f) (y1U T v f)=G0:=by
  rw[<- hs];exact y5e he λ _ _=>rfl
 obtain ⟨S,s1,s2,s3⟩:=y2f (y1U T v f) T;have hS:S=0:=by
  rw[hself]at s1;exact (congrArg (λ z:Gau=>z.1) s1).symm
 have hz:=s3 hS;obtain ⟨D',d1,d2,d3⟩:=gram T v hv;have hDD:D'=D:=by
  rw[hD]at d1;exact (congrArg (λ z:Gau=>z.1) d1).symm
 have hnd:¬ Dep T v:=λ hd=>h0 (by rw[<- hDD];exact d3.2 hd)
 have hlen:(y4W (D,0,()) G1 A (y1y T v f)).length=v.length:=by rw[yCX _ _ _ _ (by rw[hA,hcl]),hA]
 refine ⟨yD4 A _ (by rw[hA,hcl]) λ z hzm=>?_,?_⟩
 ·by_cases hz0:z=G0
  ·exact hz0
  ·exact absurd ⟨_,hlen,⟨z,hzm,hz0⟩,λ t ht=>by rw[<- he t ht];exact hz t ht⟩ hnd
 ·have hn:=(yCq (T:=T) hv f).1;rw[hself,hD]at hn;have hn:(0:Int)=D * numX T v f:=hn;rcases Int.mul_eq_zero.1 hn.symm with h|h
  ·exact absurd h h0
  ·exact h
theorem yM0{D:Int}(hD:0 < D)(k:Int):gI D (D * k)=D:=by
 unfold gI;rw[Int.natAbs_mul,Nat.gcd_eq_left (Nat.dvd_mul_right _ _)];omega
theorem yNe(D:Int)(z:Gau):mulX (D,0,()) z=(D * z.1,D * z.2.1,()):=yC (by simp only[mulX];omega) (by simp only[mulX];omega)
theorem yDI{D:Int}(hD:0 < D):∀ A:List Gau,comG (A.map (mulX (D,0,()))) D=D
 |[]=>rfl
 |a::A=>by
  rw[map_cons];show comG (A.map (mulX (D,0,()))) (gI (gI D (mulX (D,0,()) a).1) (mulX (D,0,()) a).2.1)=D
  rw[yNe];simp only;rw[yM0 hD,yM0 hD];exact yDI hD A
theorem ySC{D:Int}(hD:0 < D){z:Gau}(h:bd 100 z):qG D (mulX (D,0,()) z)=z:=by
 unfold bd at h;unfold qG;rw[yNe];simp only;rw[Int.mul_tdiv_cancel_left _ (by omega),Int.mul_tdiv_cancel_left _ (by omega),yw (by omega) (by omega),yw (by omega) (by omega)]
theorem yMd{D:Int}(hD:0 < D)(hD2:D<=65536)(l:List Con){A:List Gau}(h:∀ z∈A,bd 100 z):lowA l (A.map (mulX (D,0,()))) D=(l,A,1,()):=by
 have hs:∀ z∈A.map (mulX (D,0,())),y6u 6553600 z=true:=λ z hz=>by
  obtain ⟨a,ha,rfl⟩:=mem_map.1 hz;have hb:=h a ha;unfold bd at hb;have h1:=y1G (m:=65536) (k:=100) (a:=D) (b:=a.1) (by omega) hb.1
  have h2:=y1G (m:=65536) (k:=100) (a:=D) (b:=a.2.1) (by omega) hb.2
  rw[yNe];refine yFv ?_
  unfold bd;simp only;omega
 unfold lowA;rw[yOE (m:=6553600) (by decide) _ _ (by omega) hs,yDI hD,Int.tdiv_self (by omega),map_map]
 have e:A.map (qG D ∘ mulX (D,0,()))=A:=by
  conv=>rhs;rw[<- List.map_id A]
  exact map_congr_left λ z hz=>ySC hD (h z hz)
 rw[e];rfl
theorem yRO{D:Int}(h1:1<=D)(h2:D<=9223372036854775807):lowR 0 D=(0,1,()):=by
 rw[yNT (a:=0) (b:=D) (c:=0) (d:=1) (by decide) (by decide) h1 h2 (by decide) (by decide) (by decide) (by decide) (by omega)]
 exact yJ1 (by decide) (by decide)
theorem yIr{r:Rec}(h:lowR5 r){l:List Con}{A:List Gau}(hl:l.length<=4)(hA:A.length=l.length)(hb:∀ z∈A,bd 100 z)(hf:∀ t∈tks r,levF r t=lc A (l.map chr) t) :
  (denA r l≠0->anaV r l=((l,A,1,()),0,())/\lesV r l=((0,1,()),0,()))/\lowR (resN r (l,A,1,())) (1 * 1)=(0,1,()):=by
 refine ⟨λ h0=>?_,?_⟩
 ·obtain ⟨s1,s3,s4⟩:=yBg h hl;obtain ⟨d1,d2⟩:=yAZ h hl;obtain ⟨D,e1,_⟩:=gram (tks r) (l.map chr) (by simpa using hl)
  have hD:DX (tks r) (l.map chr)=(denA r l,0,()):=by
   rw[s3,e1]
  obtain ⟨c1,c2⟩:=yNP (T:=tks r) (v:=l.map chr) (A:=A) (f:=levF r) (by simpa using hl) (by simpa using hA) hD h0 hf
  have hbig:∀ z∈solA r l,bd 6553600 z:=λ z hz=>by
   rw[s1,c1]at hz;obtain ⟨a,ha,rfl⟩:=mem_map.1 hz;have hb':=hb a ha;unfold bd at hb';have h1:=y1G (m:=65536) (k:=100) (a:=denA r l) (b:=a.1) (by omega) hb'.1
   have h2:=y1G (m:=65536) (k:=100) (a:=denA r l) (b:=a.2.1) (by omega) hb'.2
   rw[yNe];unfold bd;simp only;omega
  refine ⟨?_,?_⟩
  ·unfold anaV;rw[if_neg h0,s1,c1,yMd (by omega) d2 l hb]
  ·unfold lesV;rw[if_neg h0,yMM h hl hbig,c2,yRO (by omega) (by omega)]
 ·have hr:=(yOz h (l:=l) (a:=A) (D:=1) (M:=100) hA.symm hl hb (by decide) (by decide)).1
  have hz:∀ t∈tks r,y5x r l A 1 t=G0:=λ t ht=>by
   unfold y5x;rw[<- hf t ht];generalize levF r t=w;exact yC (by simp only[addX,negX,mulX,G0];omega) (by simp only[addX,negX,mulX,G0];omega)
  rw[hr,yB9 _ _ hz];exact yJ1 (by decide) (by decide)
end Go.Tw
