import Derived.Test.YtlaebedgpkiodaaGreatDoorPF2
import Derived.Test.YtlaebedgpkiodaaGreatDoorPM4
set_option linter.all false
set_option maxRecDepth 100000
namespace Go.Tw
open Go.Vx Go.Vx.B Go.Proofs
theorem yNY{x:Int}(h:x.natAbs<=9223372036854775807):absW x=(x.natAbs:Int):=by
 rcases yEF (n:=x) (by omega) (by omega)with h1|h1
 ·exact h1.1
 ·omega
theorem yLT{d x:Int}(hd:0<=d)(hx:x.natAbs<=9223372036854775807):euc 130 d (absW x)=gI d x:=by
 have ha:=yNY hx;have h1:=y6U 130 d (absW x) (y6c (y2i 64 _ _ (y8s (by omega) (by omega))) (by omega))
 have h2:=yBd 130 d (absW x) hd (by omega)
 rw[ha]at h1 h2 ⊢;rw[Int.natAbs_natCast]at h1;unfold gI;omega
theorem yOE{m:Int}(hm:m<=9223372036854775807):∀ (l:List Gau) (d:Int),0<=d->(∀ z∈l,y6u m z=true)->comA l d=comG l d
 |[],d,_,_=>rfl
 |z::l,d,hd,h=>by
  have hz:=of_decide_eq_true (h z (by simp))
  have g0:∀ a b:Int,0<=gI a b:=λ a b=>by unfold gI;omega
  unfold comA comG;rw[yLT hd (by omega),yLT (g0 _ _) (by omega)]
  exact yOE hm l _ (g0 _ _) λ y hy=>h y (by simp[hy])
theorem yFK{num den:Int}(h0:0<=num)(h1:num<=9223372036854775807)(hd:1<=den)(hd2:den<=9223372036854775807) :
  ∃ g p q:Nat,1<=g/\num=g * p/\den=g * q/\1<=q/\Nat.Coprime p q/\lowR num den=((p:Int),(q:Int),()):=by
 have hg:divr num den=gI den num:=yLT (by omega) (by omega)
 obtain ⟨n,rfl⟩:∃ n:Nat,num=n:=⟨num.toNat,by omega⟩
 obtain ⟨d,rfl⟩:∃ d:Nat,den=d:=⟨den.toNat,by omega⟩
 have hgn:gI (d:Int) (n:Int)=((Nat.gcd n d:Nat):Int):=by
  unfold gI;rw[Int.natAbs_natCast,Int.natAbs_natCast,Nat.gcd_comm]
 have hpos:0 < Nat.gcd n d:=Nat.gcd_pos_of_pos_right _ (by omega)
 obtain ⟨p,hp⟩:=Nat.gcd_dvd_left n d;obtain ⟨q,hq⟩:=Nat.gcd_dvd_right n d;have hco:Nat.Coprime (n / Nat.gcd n d) (d / Nat.gcd n d):=Nat.coprime_div_gcd_div_gcd hpos;have ep:n / Nat.gcd n d=p:=by rw[Nat.div_eq_of_eq_mul_right hpos hp]
 have eq:d / Nat.gcd n d=q:=by rw[Nat.div_eq_of_eq_mul_right hpos hq]
 rw[ep,eq]at hco;have tn:((n:Int)).tdiv ((Nat.gcd n d:Nat):Int)=p:=by rw[<- Int.ofNat_tdiv,ep]
 have td:((d:Int)).tdiv ((Nat.gcd n d:Nat):Int)=q:=by rw[<- Int.ofNat_tdiv,eq]
 have hpn:p<=n:=by rw[<- ep];exact Nat.div_le_self _ _
 have hqn:q<=d:=by rw[<- eq];exact Nat.div_le_self _ _
 refine ⟨Nat.gcd n d,p,q,hpos,?_,?_,?_,hco,?_⟩
 ·rw[<- Int.natCast_mul,<- hp]
 ·rw[<- Int.natCast_mul,<- hq]
 ·rcases Nat.eq_zero_or_pos q with h|h
  ·rw[h,Nat.mul_zero]at hq;omega
  ·exact h
 ·unfold lowR;rw[hg,hgn,tn,td,yw (by omega) (by omega),yw (by omega) (by omega)]
theorem yNT{a b c d:Int}(ha:0<=a)(ha2:a<=9223372036854775807)(hb:1<=b)(hb2:b<=9223372036854775807)(hc:0<=c)(hc2:c<=9223372036854775807)(hd:1<=d)(hd2:d<=9223372036854775807)(h:a * d=c * b):lowR a b=lowR c d:=by
 obtain ⟨g,p,q,g1,g2,g3,g4,g5,g6⟩:=yFK ha ha2 hb hb2;obtain ⟨k,r,s,k1,k2,k3,k4,k5,k6⟩:=yFK hc hc2 hd hd2;have e:p * s=r * q:=by
  rw[g2,g3,k2,k3]at h;have h2:((g * p * (k * s):Nat):Int)=((k * r * (g * q):Nat):Int):=by push_cast;exact h
  have h3:g * p * (k * s)=k * r * (g * q):=by exact_mod_cast h2
  have h4:(g * k) * (p * s)=(g * k) * (r * q):=by
   calc (g * k) * (p * s)=g * p * (k * s):=by simp only[Nat.mul_assoc,Nat.mul_left_comm]
    _=k * r * (g * q):=h3
    _=(g * k) * (r * q):=by simp only[Nat.mul_assoc,Nat.mul_left_comm,Nat.mul_comm]
  exact Nat.eq_of_mul_eq_mul_left (Nat.mul_pos g1 k1) h4
 have d1:q ∣ s:=g5.symm.dvd_of_dvd_mul_left (by rw[e];exact Nat.dvd_mul_left q r)
 have d2:s ∣ q:=k5.symm.dvd_of_dvd_mul_left (by rw[<- e];exact Nat.dvd_mul_left s p)
 have hqs:q=s:=Nat.dvd_antisymm d1 d2;subst hqs;have hpr:p=r:=Nat.eq_of_mul_eq_mul_right (by omega) e
 rw[g6,k6,hpr]
theorem yJ1{Y:Int}(h0:0<=Y)(h1:Y<=9223372036854775807):lowR Y 1=(Y,1,()):=by
 obtain ⟨g,p,q,g1,g2,g3,g4,g5,g6⟩:=yFK h0 h1 (den:=1) (by decide) (by decide)
 have h3:g * q=1:=by exact_mod_cast g3.symm
 have hg:g=1:=Nat.dvd_one.1 ⟨q,h3.symm⟩;have hq:q=1:=Nat.dvd_one.1 ⟨g,by rw[Nat.mul_comm];exact h3.symm⟩
 rw[g6,g2,hg,hq];simp
theorem yNi{M:Int}{z:Gau}(h:bd M z)(c:Con)(t:Int):bd M (mulX z (chr c t)):=by
 have key:∀ n:Int,bd M (mulX z (y1E n)):=λ n=>by
  unfold bd at h;unfold y1E;split
  ·unfold bd mulX;simp only;omega
  ·split
   ·unfold bd mulX;simp only;omega
   ·split
    ·unfold bd mulX;simp only;omega
    ·unfold bd mulX;simp only;omega
 exact key _
theorem ySE{M:Int}(hM:0<=M)(t:Int):∀ (l:List Con) (v:List Gau),v.length=l.length->(∀ z∈v,bd M z)->bd (l.length * M) (lc v (l.map chr) t)
 |[],v,h,_=>by
  rw[List.map_nil,yJt];exact yLf (by simp)
 |c::l,[],h,_=>by simp at h
 |c::l,z::v,h,hv=>by
  have h1:=yNi (hv z (by simp)) c t
  have h2:=ySE hM t l v (by simpa using h) λ y hy=>hv y (by simp[hy])
  have h3:=y5n h1 h2;refine y6Z h3 ?_
  simp only[List.length_cons];push_cast
  rw[Int.add_mul];omega
noncomputable def y5x(r:Rec)(l:List Con)(a:List Gau)(D:Int)(t:Int):Gau:=addX (mulX (D,0,()) (levF r t)) (negX (lc a (l.map chr) t))
theorem yGJ{r:Rec}(t:Tid)(u:Int->Gau)(X:Int)(hX:0<=X/\X<=20000000):∀ (R:List (Int×Nat)) (acc:Int),
  (∀ q∈R,IntKind.i64.wrap (IntKind.i64.wrap (t.2.2.1 * sx q.2) - (valT t (r.2.1+q.1)).1)=(u (r.2.1+q.1)).1/\(valT t (r.2.1+q.1)).2.1=-(u (r.2.1+q.1)).2.1/\bd X (u (r.2.1+q.1)))->0<=acc->acc+800000000000000 * R.length < 9223372036854775807 ->
  R.foldl (resS t r.2.1) acc=acc+(ip (R.map λ q=>r.2.1+q.1) u u).1/\(0<=(ip (R.map λ q=>r.2.1+q.1) u u).1/\(ip (R.map λ q=>r.2.1+q.1) u u).1<=2 * (X * X) * R.length)
 |[],acc,_,_,_=>⟨by show acc=acc+0;omega,by show (0:Int)<=0;omega,by show (0:Int)<=2 * (X * X) * ((0:Nat):Int);simp⟩
 |q::R,acc,hq,h0,hB=>by
  simp only[List.length_cons]at hB;obtain ⟨q1,q2,q3⟩:=hq q (by simp)
  have a1:=y1G q3.1 q3.1;have a2:=y1G q3.2 q3.2;have b1:=y1b (u (r.2.1+q.1)).1;have b2:=y1b (u (r.2.1+q.1)).2.1;have hXX:X * X<=20000000 * 20000000:=Int.mul_le_mul hX.2 hX.2 hX.1 (by decide)
  have e3:(valT t (r.2.1+q.1)).2.1 * (valT t (r.2.1+q.1)).2.1=(u (r.2.1+q.1)).2.1 * (u (r.2.1+q.1)).2.1:=by rw[q2,Int.neg_mul_neg]
  have e:resS t r.2.1 acc q=acc+((u (r.2.1+q.1)).1 * (u (r.2.1+q.1)).1+(u (r.2.1+q.1)).2.1 * (u (r.2.1+q.1)).2.1):=by
   unfold resS;rw[q1,e3];generalize (u (r.2.1+q.1)).1 * (u (r.2.1+q.1)).1=A at *;generalize (u (r.2.1+q.1)).2.1 * (u (r.2.1+q.1)).2.1=B at *;rw[yw (i:=A) (by omega) (by omega),yw (i:=B) (by omega) (by omega),yw (i:=A+B) (by omega) (by omega),yw (by omega) (by omega)]
  have hi:(ip ((q::R).map λ q=>r.2.1+q.1) u u).1=((u (r.2.1+q.1)).1 * (u (r.2.1+q.1)).1+(u (r.2.1+q.1)).2.1 * (u (r.2.1+q.1)).2.1)+(ip (R.map λ q=>r.2.1+q.1) u u).1:=by
   rw[List.map_cons];show (addX (mulX (conX (u (r.2.1+q.1))) (u (r.2.1+q.1))) (ip (R.map λ q=>r.2.1+q.1) u u)).1=_
   simp only[addX,mulX,conX];grind
  obtain ⟨i1,i2,i3⟩:=yGJ t u X hX R (resS t r.2.1 acc q) (λ q' h'=>hq q' (by simp[h'])) (by rw[e];omega) (by rw[e];omega)
  rw[List.foldl_cons,i1,hi,e];refine ⟨by omega,by omega,?_⟩
  simp only[List.length_cons];push_cast
  rw[Int.mul_add];omega
theorem yFv{m:Int}{z:Gau}(h:bd m z):y6u m z=true:=by
 unfold bd at h;exact yB (by omega)
end Go.Tw
