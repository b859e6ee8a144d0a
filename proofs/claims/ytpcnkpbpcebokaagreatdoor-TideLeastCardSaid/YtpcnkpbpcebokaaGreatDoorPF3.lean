import Derived.Test.YtpcnkpbpcebokaaGreatDoorPF2
import Derived.Test.YtpcnkpbpcebokaaGreatDoorPM4
set_option linter.all false
set_option maxRecDepth 100000
namespace Go.Tw
open Go.Vx Go.Vx.B Go.Proofs
theorem yMa{x:Int}(h:x.natAbs<=9223372036854775807):absW x=(x.natAbs:Int):=by
 rcases yEd (n:=x) (by omega) (by omega)with h1|h1
 ·exact h1.1
 ·omega
theorem yKB{d x:Int}(hd:0<=d)(hx:x.natAbs<=9223372036854775807):euc 130 d (absW x)=gI d x:=by
 have ha:=yMa hx;have h1:=y6C 130 d (absW x) (y6U (y2P 64 _ _ (y82 (by omega) (by omega))) (by omega))
 have h2:=yBZ 130 d (absW x) hd (by omega)
 rw[ha]at h1 h2 ⊢;rw[Int.natAbs_natCast]at h1;unfold gI;omega
theorem yOT{m:Int}(hm:m<=9223372036854775807):∀ (l:List Gau) (d:Int),0<=d->(∀ z∈l,y0g m z=true)->comA l d=comG l d
 |[],d,_,_=>rfl
 |z::l,d,hd,h=>by
  have hz:=of_decide_eq_true (h z (by simp))
  have g0:∀ a b:Int,0<=gI a b:=λ a b=>by unfold gI;omega
  unfold comA comG;rw[yKB hd (by omega),yKB (g0 _ _) (by omega)]
  exact yOT hm l _ (g0 _ _) λ y hy=>h y (by simp[hy])
theorem yBR{num den:Int}(h0:0<=num)(h1:num<=9223372036854775807)(hd:1<=den)(hd2:den<=9223372036854775807) :
  ∃ g p q:Nat,1<=g/\num=g * p/\den=g * q/\1<=q/\Nat.Coprime p q/\lowR num den=((p:Int),(q:Int),()):=by
 have hg:divr num den=gI den num:=yKB (by omega) (by omega)
 obtain ⟨n,rfl⟩:∃ n:Nat,num=n:=⟨num.toNat,by omega⟩
 obtain ⟨d,rfl⟩:∃ d:Nat,den=d:=⟨den.toNat,by omega⟩
 have hgn:gI (d:Int) (n:Int)=((Nat.gcd n d:Nat):Int):=by
  unfold gI;rw[Int.natAbs_natCast,Int.natAbs_natCast,Nat.gcd_comm]
 have hpos:0 < Nat.gcd n d:=Nat.gcd_pos_of_pos_right _ (by omega)
 obtain ⟨p,hp⟩:=Nat.gcd_dvd_left n d;obtain ⟨q,hq⟩:=Nat.gcd_dvd_right n d;have hco:Nat.Coprime (n / Nat.gcd n d) (d / Nat.gcd n d):=Nat.coprime_div_gcd_div_gcd hpos;have ep:n / Nat.gcd n d=p:=by rw[Nat.div_eq_of_eq_mul_right hpos hp]
 have eq:d / Nat.gcd n d=q:=by rw[Nat.div_eq_of_eq_mul_right hpos hq]
 rw[ep,eq]at hco;have tn:((n:Int)).tdiv ((Nat.gcd n d:Nat):Int)=p:=by rw[<- Int.ofNat_tdiv,ep]
 have td:((d:Int)).tdiv ((Nat.gcd n d:Nat):Int)=q:=by rw[<- Int.ofNat_tdiv,eq]
 have hpn:p<=n:=by rw[<- ep];exact Nat.div_le_self _ _
 have hqn:q<=d:=by rw[<- eq];exact Nat.div_le_self _ _
 refine ⟨Nat.gcd n d,p,q,hpos,?_,?_,?_,hco,?_⟩
 ·rw[<- Int.natCast_mul,<- hp]
 ·rw[<- Int.natCast_mul,<- hq]
 ·rcases Nat.eq_zero_or_pos q with h|h
  ·rw[h,Nat.mul_zero]at hq;omega
  ·exact h
 ·unfold lowR;rw[hg,hgn,tn,td,y04 (by omega) (by omega),y04 (by omega) (by omega)]
theorem yN7{a b c d:Int}(ha:0<=a)(ha2:a<=9223372036854775807)(hb:1<=b)(hb2:b<=9223372036854775807)(hc:0<=c)(hc2:c<=9223372036854775807)(hd:1<=d)(hd2:d<=9223372036854775807)(h:a * d=c * b):lowR a b=lowR c d:=by
 obtain ⟨g,p,q,g1,g2,g3,g4,g5,g6⟩:=yBR ha ha2 hb hb2;obtain ⟨k,r,s,k1,k2,k3,k4,k5,k6⟩:=yBR hc hc2 hd hd2;have e:p * s=r * q:=by
  rw[g2,g3,k2,k3]at h;have h2:((g * p * (k * s):Nat):Int)=((k * r * (g * q):Nat):Int):=by push_cast;exact h
  have h3:g * p * (k * s)=k * r * (g * q):=by exact_mod_cast h2
  have h4:(g * k) * (p * s)=(g * k) * (r * q):=by
   calc (g * k) * (p * s)=g * p * (k * s):=by simp only[Nat.mul_assoc,Nat.mul_left_comm]
    _=k * r * (g * q):=h3
    _=(g * k) * (r * q):=by simp only[Nat.mul_assoc,Nat.mul_left_comm,Nat.mul_comm]
  exact Nat.eq_of_mul_eq_mul_left (Nat.mul_pos g1 k1) h4
 have d1:q ∣ s:=g5.symm.dvd_of_dvd_mul_left (by rw[e];exact Nat.dvd_mul_left q r)
 have d2:s ∣ q:=k5.symm.dvd_of_dvd_mul_left (by rw[<- e];exact Nat.dvd_mul_left s p)
 have hqs:q=s:=Nat.dvd_antisymm d1 d2;subst hqs;have hpr:p=r:=Nat.eq_of_mul_eq_mul_right (by omega) e
 rw[g6,k6,hpr]
theorem yNl{num den Y:Int}(h0:0<=num)(h1:num<=9223372036854775807)(hd:1<=den)(hd2:den<=9223372036854775807)(h:num<=Y * den):(lowR num den).1<=Y * (lowR num den).2.1/\0<=(lowR num den).1/\(lowR num den).1<=num/\1<=(lowR num den).2.1/\(lowR num den).2.1<=den:=by
 obtain ⟨g,p,q,g1,g2,g3,g4,g5,g6⟩:=yBR h0 h1 hd hd2;rw[g6];simp only;have hg:(0:Int) < g:=by omega
 refine ⟨?_,by omega,?_,by omega,?_⟩
 ·rw[g2,g3]at h;have e:Y * ((g:Int) * q)=g * (Y * q):=by rw[Int.mul_left_comm]
  rw[e]at h;exact Int.le_of_mul_le_mul_left h hg
 ·rw[g2];have:(1:Int) * p<=g * p:=Int.mul_le_mul_of_nonneg_right (by omega) (by omega)
  omega
 ·rw[g3];have:(1:Int) * q<=g * q:=Int.mul_le_mul_of_nonneg_right (by omega) (by omega)
  omega
theorem yQJ{Y:Int}(h0:0<=Y)(h1:Y<=9223372036854775807):lowR Y 1=(Y,1,()):=by
 obtain ⟨g,p,q,g1,g2,g3,g4,g5,g6⟩:=yBR h0 h1 (den:=1) (by decide) (by decide)
 have h3:g * q=1:=by exact_mod_cast g3.symm
 have hg:g=1:=Nat.dvd_one.1 ⟨q,h3.symm⟩;have hq:q=1:=Nat.dvd_one.1 ⟨g,by rw[Nat.mul_comm];exact h3.symm⟩
 rw[g6,g2,hg,hq];simp
theorem yGs{M:Int}{z:Gau}(h:bd M z)(c:Con)(t:Int):bd M (mulX z (chr c t)):=by
 have key:∀ n:Int,bd M (mulX z (y1J n)):=λ n=>by
  unfold bd at h;unfold y1J;split
  ·unfold bd mulX;simp only;omega
  ·split
   ·unfold bd mulX;simp only;omega
   ·split
    ·unfold bd mulX;simp only;omega
    ·unfold bd mulX;simp only;omega
 exact key _
theorem yS7{M:Int}(hM:0<=M)(t:Int):∀ (l:List Con) (v:List Gau),v.length=l.length->(∀ z∈v,bd M z)->bd (l.length * M) (lc v (l.map chr) t)
 |[],v,h,_=>by
  rw[List.map_nil,y9Z];exact yKW (by simp)
 |c::l,[],h,_=>by simp at h
 |c::l,z::v,h,hv=>by
  have h1:=yGs (hv z (by simp)) c t
  have h2:=yS7 hM t l v (by simpa using h) λ y hy=>hv y (by simp[hy])
  have h3:=y1p h1 h2;refine y25 h3 ?_
  simp only[List.length_cons];push_cast
  rw[Int.add_mul];omega
noncomputable def y0W(r:Rec)(l:List Con)(a:List Gau)(D:Int)(t:Int):Gau:=addX (mulX (D,0,()) (levF r t)) (negX (lc a (l.map chr) t))
theorem yEe{r:Rec}(h:lowR4 r){l:List Con}{a:List Gau}{D M:Int}(hl:l.length=a.length)(hl4:l.length<=4)(ha:∀ z∈a,bd M z)(hM:0<=M)(hD:0<=D){t:Int}(ht:t∈tks r):bd (64 * D+4 * M) (y0W r l a D t):=by
 have h1:=yGM h ht;have h2:=yS7 hM t l a hl.symm ha;have e:mulX (D,0,()) (levF r t)=(D * levI r t,0,()):=by unfold levF;exact yA (by simp[mulX]) (by simp[mulX])
 have h3:=y1d (m:=D) (k:=64) (a:=D) (b:=levI r t) (by omega) (by omega)
 have h4:(l.length:Int) * M<=4 * M:=Int.mul_le_mul_of_nonneg_right (by omega) hM
 have h5:bd (64 * D) (mulX (D,0,()) (levF r t)):=by rw[e];unfold bd;simp only;omega
 exact y25 (y1p h5 (y3n h2)) (by omega)
theorem yH0{r:Rec}(t:Tid)(u:Int->Gau)(X:Int)(hX:0<=X/\X<=20000000):∀ (R:List (Int×Nat)) (acc:Int),
  (∀ q∈R,IntKind.i64.wrap (IntKind.i64.wrap (t.2.2.1 * sx q.2) - (valT t (r.2.1+q.1)).1)=(u (r.2.1+q.1)).1/\(valT t (r.2.1+q.1)).2.1=-(u (r.2.1+q.1)).2.1/\bd X (u (r.2.1+q.1)))->0<=acc->acc+800000000000000 * R.length < 9223372036854775807 ->
  R.foldl (resS t r.2.1) acc=acc+(ip (R.map λ q=>r.2.1+q.1) u u).1/\(0<=(ip (R.map λ q=>r.2.1+q.1) u u).1/\(ip (R.map λ q=>r.2.1+q.1) u u).1<=2 * (X * X) * R.length)
 |[],acc,_,_,_=>⟨by show acc=acc+0;omega,by show (0:Int)<=0;omega,by show (0:Int)<=2 * (X * X) * ((0:Nat):Int);simp⟩
 |q::R,acc,hq,h0,hB=>by
  simp only[List.length_cons]at hB;obtain ⟨q1,q2,q3⟩:=hq q (by simp)
  have a1:=y1d q3.1 q3.1;have a2:=y1d q3.2 q3.2;have b1:=y1R (u (r.2.1+q.1)).1;have b2:=y1R (u (r.2.1+q.1)).2.1;have hXX:X * X<=20000000 * 20000000:=Int.mul_le_mul hX.2 hX.2 hX.1 (by decide)
  have e3:(valT t (r.2.1+q.1)).2.1 * (valT t (r.2.1+q.1)).2.1=(u (r.2.1+q.1)).2.1 * (u (r.2.1+q.1)).2.1:=by rw[q2,Int.neg_mul_neg]
  have e:resS t r.2.1 acc q=acc+((u (r.2.1+q.1)).1 * (u (r.2.1+q.1)).1+(u (r.2.1+q.1)).2.1 * (u (r.2.1+q.1)).2.1):=by
   unfold resS;rw[q1,e3];generalize (u (r.2.1+q.1)).1 * (u (r.2.1+q.1)).1=A at *;generalize (u (r.2.1+q.1)).2.1 * (u (r.2.1+q.1)).2.1=B at *;rw[y04 (i:=A) (by omega) (by omega),y04 (i:=B) (by omega) (by omega),y04 (i:=A+B) (by omega) (by omega),y04 (by omega) (by omega)]
  have hi:(ip ((q::R).map λ q=>r.2.1+q.1) u u).1=((u (r.2.1+q.1)).1 * (u (r.2.1+q.1)).1+(u (r.2.1+q.1)).2.1 * (u (r.2.1+q.1)).2.1)+(ip (R.map λ q=>r.2.1+q.1) u u).1:=by
   rw[List.map_cons];show (addX (mulX (conX (u (r.2.1+q.1))) (u (r.2.1+q.1))) (ip (R.map λ q=>r.2.1+q.1) u u)).1=_
   simp only[addX,mulX,conX];grind
  obtain ⟨i1,i2,i3⟩:=yH0 t u X hX R (resS t r.2.1 acc q) (λ q' h'=>hq q' (by simp[h'])) (by rw[e];omega) (by rw[e];omega)
  rw[List.foldl_cons,i1,hi,e];refine ⟨by omega,by omega,?_⟩
  simp only[List.length_cons];push_cast
  rw[Int.mul_add];omega
theorem yOc{r:Rec}(h:lowR4 r){l:List Con}{a:List Gau}{D M:Int}(hl:l.length=a.length)(hl4:l.length<=4)(ha:∀ z∈a,bd M z)(hM:0<=M/\M<=4194304)(hD:0<=D/\D<=4096) :
  resN r (l,a,D,())=(ip (tks r) (y0W r l a D) (y0W r l a D)).1/\(0<=resN r (l,a,D,())/\resN r (l,a,D,())<=24 * ((64 * D+4 * M) * (64 * D+4 * M))):=by
 have h12:=yEh h;have hln:(l.length:Int) * (2 * M)<=4 * (2 * M):=Int.mul_le_mul_of_nonneg_right (by omega) (by omega)
 have key:=yH0 (r:=r) (l,a,D,()) (y0W r l a D) (64 * D+4 * M) (by omega) (recd r.2.2.2.1 0 r.2.2.1) 0 (λ q hq=>by
  have ht:r.2.1+q.1∈tks r:=by unfold tks;exact List.mem_map.2 ⟨q,hq,rfl⟩
  have hb:=yEe h hl hl4 ha hM.1 hD.1 ht;have hv:valT (l,a,D,()) (r.2.1+q.1)=lc a (l.map chr) (r.2.1+q.1):=by
   unfold valT;rw[yO6 hM.1 (r.2.1+q.1) l a (0,0,()) 0 hl.symm ha (by unfold bd;simp) (by decide) (by omega)]
   exact y2u _
  have hlev:=(yAz h q hq);have e:y0W r l a D (r.2.1+q.1)=(D * sx q.2 - (lc a (l.map chr) (r.2.1+q.1)).1,-(lc a (l.map chr) (r.2.1+q.1)).2.1,()):=by
   unfold y0W levF;rw[hlev.1];exact yA (by simp only[addX,mulX,negX];grind) (by simp only[addX,mulX,negX];grind)
  have hds:=y1d (m:=D) (k:=64) (a:=D) (b:=sx q.2) (by omega) hlev.2
  rw[hv];refine ⟨?_,?_,hb⟩
  ·rw[e]at hb ⊢;have hb1:=hb.1;simp only at hb1 ⊢;rw[y04 (i:=D * sx q.2) (by omega) (by omega),y04 (by omega) (by omega)]
  ·rw[e];simp only;omega) (by decide) (by omega)
 obtain ⟨k1,k2,k3⟩:=key;have hip:ip ((recd r.2.2.2.1 0 r.2.2.1).map λ q=>r.2.1+q.1) (y0W r l a D) (y0W r l a D)=ip (tks r) (y0W r l a D) (y0W r l a D):=rfl
 rw[hip]at k1 k2 k3;have hr:resN r (l,a,D,())=(ip (tks r) (y0W r l a D) (y0W r l a D)).1:=by
  unfold resN;rw[k1];omega
 have hsq:=y1R (64 * D+4 * M);have h24:2 * ((64 * D+4 * M) * (64 * D+4 * M)) * ((recd r.2.2.2.1 0 r.2.2.1).length:Int)<=2 * ((64 * D+4 * M) * (64 * D+4 * M)) * 12:=Int.mul_le_mul_of_nonneg_left (by omega) (by omega)
 refine ⟨hr,by rw[hr];exact k2,?_⟩
 rw[hr];omega
theorem yOQ{m:Int}(hm:m<=9223372036854775807){n:Int}(hn:0 < n)(t:Int):∀ (a:List Gau) (v:List (Int->Gau)),(∀ z∈a,y0g m z=true/\n ∣ z.1/\n ∣ z.2.1)->lc a v t=mulX (n,0,()) (lc (a.map (qG n)) v t)
 |[],v,_=>by
  show G0=mulX (n,0,()) G0
  exact (y5l _).symm
 |z::a,[],_=>by
  rw[y9Z,y9Z,y5l]
 |z::a,f::v,h=>by
  obtain ⟨h1,h2,h3⟩:=h z (by simp)
  have e:=(yBL hn h1 hm).2;have ez:z=mulX (n,0,()) (qG n z):=by
   rw[e];exact yA (by simp only[mulX,Int.zero_mul,Int.sub_zero];exact (Int.mul_tdiv_cancel' h2).symm) (by simp only[mulX,Int.zero_mul,Int.add_zero];exact (Int.mul_tdiv_cancel' h3).symm)
  rw[List.map_cons];show addX (mulX z (f t)) (lc a v t)=mulX (n,0,()) (addX (mulX (qG n z) (f t)) (lc (a.map (qG n)) v t))
  rw[yOQ hm hn t a v λ y hy=>h y (by simp[hy])]
  conv=>lhs;rw[ez]
  exact yA (by simp only[addX,mulX];grind) (by simp only[addX,mulX];grind)
theorem y7S{m:Int}{z:Gau}(h:y0g m z=true):bd m z:=by
 have:=of_decide_eq_true h;unfold bd;omega
theorem yAa{m:Int}{z:Gau}(h:bd m z):y0g m z=true:=by
 unfold bd at h;exact y7 (by omega)
theorem yJC{r:Rec}(h:lowR4 r){l:List Con}(hc:y1Y l=0)(hl:l.length<=4)(h0:denA r l≠0) :
  ∃ (A:List Gau) (D n:Int),lowA l (solA r l) (denA r l)=(l,A,D,())/\A.length=l.length/\(∀ z∈A,bd 100000000000 z)/\(1<=D/\D<=20736)/\0 < n/\n * D=denA r l/\y2t (l,A,D,())=0 /\
   (∀ t,y1K (tks r) (l.map chr) (levF r) t=mulX (n,0,()) (y0W r l A D t))/\DX (tks r) (l.map chr)=(denA r l,0,()):=by
 obtain ⟨s1,s2,s3,s4⟩:=y8E h hl;obtain ⟨d1,d2⟩:=y4S h hl;have hsm:∀ z∈solA r l,y0g 100000000000 z=true:=λ z hz=>yAa (s2 z hz)
 have hsl:(solA r l).length=l.length:=by unfold solA;simp
 have hlow:lowA l (solA r l) (denA r l)=lowT l (solA r l) (denA r l):=by
  unfold lowA lowT;rw[yOT (m:=100000000000) (by decide) _ _ d1 hsm]
 obtain ⟨Dn,hDn⟩:∃ k:Nat,denA r l=k:=⟨(denA r l).toNat,by omega⟩
 have hp:0 < Dn:=by omega
 obtain ⟨g1,g2,g3,g4,_⟩:=yQl (l:=l) (x:=solA r l) (D:=Dn) (m:=100000000000) hp (by omega) hc hsl.symm hsm (by decide) (by decide)
 have hn:=y7b (solA r l) Dn hp;obtain ⟨v1,v2⟩:=y7V (solA r l) (Dn:Int);have hDX:DX (tks r) (l.map chr)=(denA r l,0,()):=by
  obtain ⟨E,e1,_⟩:=gram (tks r) (l.map chr) (by simpa using hl)
  rw[e1]at s3;rw[e1,s3]
 refine ⟨(lowT l (solA r l) (Dn:Int)).2.1,(lowT l (solA r l) (Dn:Int)).2.2.1,comG (solA r l) (Dn:Int),?_,?_,λ z hz=>y7S (g2 z hz),by omega,hn,by rw[hDn];exact g4,?_,λ t=>?_,hDX⟩
 ·rw[hlow,hDn];rfl
 ·show ((solA r l).map _).length=_
  rw[List.length_map,hsl]
 ·exact g1
 ·have hlc:=yOQ (m:=100000000000) (by decide) hn t (solA r l) (l.map chr) λ z hz=>⟨hsm z hz,(v2 z hz).1,(v2 z hz).2⟩
  unfold y1K y0W;rw[<- s1,hlc,hDX,hDn];show addX (mulX ((Dn:Int),0,()) (levF r t)) (negX (mulX (comG (solA r l) (Dn:Int),0,()) (lc ((solA r l).map (qG (comG (solA r l) (Dn:Int)))) (l.map chr) t)))=mulX (comG (solA r l) (Dn:Int),0,()) (addX (mulX ((lowT l (solA r l) (Dn:Int)).2.2.1,0,()) (levF r t)) (negX (lc ((solA r l).map (qG (comG (solA r l) (Dn:Int)))) (l.map chr) t)))
  generalize lc ((solA r l).map (qG (comG (solA r l) (Dn:Int)))) (l.map chr) t=w;generalize (lowT l (solA r l) (Dn:Int)).2.2.1=E at *;generalize comG (solA r l) (Dn:Int)=n at *;generalize levF r t=L;exact yA (by simp only[addX,mulX,negX];grind) (by simp only[addX,mulX,negX];grind)
end Go.Tw
