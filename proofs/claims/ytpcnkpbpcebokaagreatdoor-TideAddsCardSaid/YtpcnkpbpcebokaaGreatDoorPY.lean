import Derived.Test.YtpcnkpbpcebokaaGreatDoorP8
set_option linter.all false
set_option maxRecDepth 100000
namespace Go.Tw
open Go.Vx Go.Vx.B Go.Proofs
def rot(z:Gau)(n:Int):Gau:=if n=0 then z else if n=1 then (-z.2.1,z.1,())else if n=2 then (-z.1,-z.2.1,())else (z.2.1,-z.1,())
def chrN(c:Con)(t:Int):Int:=c.2.2.1 * (t / c.2.1) % 4
theorem yBC{z:Gau}{m:Int}(h:yY m z=true)(n:Int):yY m (rot z n)=true:=by
 have:=of_decide_eq_true h;unfold rot;refine yC ?_
 split
 ·exact this
 ·split
  ·exact ⟨by simp only[Int.natAbs_neg];exact this.2,this.1⟩
  ·split
   ·simp only[Int.natAbs_neg];exact this
   ·exact ⟨this.2,by simp only[Int.natAbs_neg];exact this.1⟩
theorem yGD{z:Gau}(h:fits z){n:Int}(h0:0≤n)(h1:n < 4):(z0y z (yHL n)).1=rot z n:=by
 obtain ⟨⟨a1,a2⟩,a3,a4⟩:=h;have w0:IntKind.i64.wrap 0=0:=yo (by decide) (by decide)
 have e:n=0∨n=1∨n=2∨n=3:=by omega
 unfold z0y yHL rot;rcases e with rfl|rfl|rfl|rfl
 ·simp only[if_true,Int.mul_one,Int.mul_zero,w0,Int.sub_zero,Int.zero_add,y3s];rw[yo (i:=z.1) (by omega) (by omega),yo (i:=z.2.1) (by omega) (by omega)]
 ·simp only[show ¬ (1:Int)=0 by decide,if_false,if_true,Int.mul_one,Int.mul_zero,w0,Int.zero_sub,Int.add_zero,y3s]
  rw[yo (i:=z.1) (by omega) (by omega),yo (i:=z.2.1) (by omega) (by omega),yo (i:=-z.2.1) (by omega) (by omega)]
 ·simp only[show ¬ (2:Int)=0 by decide,show ¬ (2:Int)=1 by decide,if_false,if_true,Int.mul_neg,Int.mul_one,Int.mul_zero,w0,Int.sub_zero,Int.zero_add,y3s]
  rw[yo (i:=-z.1) (by omega) (by omega),yo (i:=-z.2.1) (by omega) (by omega)]
 ·simp only[show ¬ (3:Int)=0 by decide,show ¬ (3:Int)=1 by decide,show ¬ (3:Int)=2 by decide,if_false,Int.mul_neg,Int.mul_one,Int.mul_zero,w0,Int.zero_sub,Int.add_zero,y3s]
  rw[yo (i:=-z.1) (by omega) (by omega),yo (i:=-z.2.1) (by omega) (by omega),Int.neg_neg,yo (i:=z.2.1) (by omega) (by omega)]
def exV:List Con→List Gau→Int→Int×Int
 | c::l,z::v,t=>((rot z (chrN c t)).1+(exV l v t).1,(rot z (chrN c t)).2.1+(exV l v t).2)
 | _,_,_=>(0,0)
theorem yKK(c:Con)(l:List Con)(z:Gau)(v:List Gau)(t:Int):exV (c::l) (z::v) t=((rot z (chrN c t)).1+(exV l v t).1,(rot z (chrN c t)).2.1+(exV l v t).2):=rfl
theorem yAH{m:Int}(hm:0≤m):∀ (l:List Con) (v:List Gau) (t:Int),(∀ z∈v,yY m z=true)→((exV l v t).1.natAbs:Int)≤l.length * m∧((exV l v t).2.natAbs:Int)≤l.length * m
 | [],v,t,_=>by unfold exV;simp
 | c::l,[],t,_=>by
  unfold exV;have:0≤((c::l).length:Int) * m:=Int.mul_nonneg (by omega) hm
  simp only[Int.natAbs_zero];omega
 | c::l,z::v,t,h=>by
  have ih:=yAH hm l v t fun z hz=>h z (by simp[hz])
  have hr:=of_decide_eq_true (yBC (h z (by simp)) (chrN c t))
  unfold exV;simp only[List.length_cons];have e:((l.length+1:Nat):Int) * m=l.length * m+m:=by rw[Int.natCast_add,Int.add_mul];omega
  rw[e];omega
theorem yQ8(c:Con)(t:Int):0≤chrN c t∧chrN c t < 4:=by unfold chrN;omega
theorem yGa{m:Int}(hm:0≤m):∀ (l:List Con) (v:List Gau) (t:Int) (acc:Gau) (B:Int),(∀ z∈v,yY m z=true)→yY B acc=true→B+l.length * m < 9223372036854775807→0≤B →
  sumV l v t acc=(acc.1+(exV l v t).1,acc.2.1+(exV l v t).2,())
 | [],v,t,acc,B,_,_,_,_=>by unfold sumV exV;simp
 | c::l,[],t,acc,B,_,_,_,_=>by unfold sumV exV;simp
 | c::l,z::v,t,acc,B,h,ha,hB,hB0=>by
  simp only[List.length_cons]at hB;have e:((l.length+1:Nat):Int) * m=l.length * m+m:=by rw[Int.natCast_add,Int.add_mul];omega
  rw[e]at hB;have hl:0≤(l.length:Int) * m:=Int.mul_nonneg (by omega) hm
  obtain ⟨n0,n1⟩:=yQ8 c t;have hz:=h z (by simp)
  have hr:=yBC hz (chrN c t);have hr2:=of_decide_eq_true hr;have ha2:=of_decide_eq_true ha;have ht:(z0y z (chr c t)).1=rot z (chrN c t):=yGD (y2L hz (by omega)) n0 n1
  have hp:(z15 acc (rot z (chrN c t))).1=(acc.1+(rot z (chrN c t)).1,acc.2.1+(rot z (chrN c t)).2.1,()):=by
   unfold z15;simp only;rw[yo (by omega) (by omega),yo (by omega) (by omega)]
  unfold sumV exV;rw[ht,hp,yGa hm l v t _ (B+m) (fun z hz=>h z (by simp[hz])) (yC (by simp only;omega)) (by omega) (by omega)]
  simp only[Int.add_assoc]
theorem yHl{t:Tid}{m:Int}(hm:0≤m)(h:∀ z∈t.2.1,yY m z=true)(hB:t.1.length * m < 9223372036854775807)(k:Int):valT t k=((exV t.1 t.2.1 k).1,(exV t.1 t.2.1 k).2,()):=by
 unfold valT;rw[yGa hm t.1 t.2.1 k (0,0,()) 0 h (yC (by simp)) (by omega) (by decide)]
 simp
def mulG(d:Int)(z:Gau):Gau:=(d * z.1,d * z.2.1,())
theorem yHV(d:Int)(z:Gau)(n:Int):rot (mulG d z) n=mulG d (rot z n):=by
 unfold rot mulG;split
 ·rfl
 ·split
  ·simp only[Int.mul_neg]
  ·split
   ·simp only[Int.mul_neg]
   ·simp only[Int.mul_neg]
theorem y9b(d:Int):∀ (l:List Con) (v:List Gau) (t:Int),exV l (v.map (mulG d)) t=(d * (exV l v t).1,d * (exV l v t).2)
 | [],v,t=>by unfold exV;simp
 | c::l,[],t=>by simp[exV]
 | c::l,z::v,t=>by
  rw[List.map_cons];unfold exV;rw[yHV,y9b d l v t];unfold mulG;simp only[Int.mul_add]
theorem y1O{z:Gau}{n m k:Int}(hz:yY m z=true)(h0:0≤n)(h1:n≤k)(hb:k * m < 9223372036854775807)(hm:0≤m):(z0Z z n).1=mulG n z∧yY (k * m) (mulG n z)=true:=by
 have hz:=of_decide_eq_true hz;have key:∀ x:Int,(x.natAbs:Int)≤m→((n * x).natAbs:Int)≤k * m:=fun x hx=>by
  rw[Int.natAbs_mul];have e:((n.natAbs * x.natAbs:Nat):Int)=n * (x.natAbs:Int):=by
   rw[Int.natCast_mul,Int.natAbs_of_nonneg h0]
  rw[e];exact Int.le_trans (Int.mul_le_mul_of_nonneg_left hx h0) (Int.mul_le_mul_of_nonneg_right h1 hm)
 have k1:=key z.1 hz.1;have k2:=key z.2.1 hz.2;refine ⟨?_,yC ⟨k1,k2⟩⟩;unfold z0Z mulG;simp only;rw[yo (i:=n * z.1) (by omega) (by omega),yo (i:=n * z.2.1) (by omega) (by omega)]
theorem yHt(c:Con)(y:Gau)(t:Int):∀ (l:List Con) (v:List Gau),l.length=v.length→exV (l++[c]) (v++[y]) t=((exV l v t).1+(rot y (chrN c t)).1,(exV l v t).2+(rot y (chrN c t)).2.1)
 | [],[],_=>by simp[exV]
 | [],_::_,h=>by simp at h
 | _::_,[],h=>by simp at h
 | d::l,z::v,h=>by
  simp only[List.length_cons]at h;show exV (d::(l++[c])) (z::(v++[y])) t=_
  unfold exV;rw[yHt c y t l v (by omega)]
  simp only[Int.add_assoc]
theorem yOP(x y w:Gau)(n:Int)(h:w=(x.1+y.1,x.2.1+y.2.1,())):rot w n=((rot x n).1+(rot y n).1,(rot x n).2.1+(rot y n).2.1,()):=by
 subst h;unfold rot;split
 ·rfl
 ·split
  ·simp only;rw[Int.neg_add]
  ·split
   ·simp only;rw[Int.neg_add,Int.neg_add]
   ·simp only;rw[Int.neg_add]
theorem yIO(y:Gau)(t:Int):∀ (l:List Con) (v:List Gau) (i:Nat) (c:Con) (x w:Gau),l[i]?=some c→v[i]?=some x→w=(x.1+y.1,x.2.1+y.2.1,()) →
  exV l (v.set i w) t=((exV l v t).1+(rot y (chrN c t)).1,(exV l v t).2+(rot y (chrN c t)).2.1)
 | [],_,_,_,_,_,h,_,_=>by simp at h
 | _::_,[],_,_,_,_,_,h,_=>by simp at h
 | d::l,z::v,0,c,x,w,h1,h2,h3=>by
  simp only[List.getElem?_cons_zero,Option.some.injEq]at h1 h2;subst h1 h2;show exV (d::l) (w::v) t=_
  unfold exV;rw[yOP z y w _ h3];refine Prod.ext ?_ ?_<;>simp only<;>omega
 | d::l,z::v,i+1,c,x,w,h1,h2,h3=>by
  simp only[List.getElem?_cons_succ]at h1 h2;show exV (d::l) (z::v.set i w) t=_
  unfold exV;rw[yIO y t l v i c x w h1 h2 h3];simp only[Int.add_assoc]
theorem yJ8{c d:Con}(h:yAO c d=true)(t:Int):chrN d t=chrN c t:=by
 unfold yAO at h;rw[Bool.and_eq_true]at h;have h1:d.2.1=c.2.1:=by simpa using h.1
 have h2:d.2.2.1=c.2.2.1:=by simpa using h.2
 unfold chrN;rw[h1,h2]
theorem yNY{a:List Con}{c:Con}{y:Gau}{s:SumS}{m k:Int}(h:okS a.length m s)(hp:∃ r,s.1=a++r)(hy:yY k y=true)(hb:m+k < 9223372036854775807)(t:Int) :
  exV (addS a c y s).1 (addS a c y s).2 t=((exV s.1 s.2 t).1+(rot y (chrN c t)).1,(exV s.1 s.2 t).2+(rot y (chrN c t)).2.1)∧∃ r,(addS a c y s).1=a++r:=by
 obtain ⟨r,hr⟩:=hp;unfold addS;cases hf:a.findIdx? (yAO c)with
 | none=>exact ⟨yHt c y t s.1 s.2 h.len,r++[c],by rw[hr];simp⟩
 | some i =>
  obtain ⟨hi,hs,_⟩:=List.findIdx?_eq_some_iff_getElem.1 hf;have hi2:i < s.2.length:=Nat.lt_of_lt_of_le hi h.low;have hc:s.1[i]?=some a[i]:=by rw[hr,List.getElem?_append_left hi,List.getElem?_eq_getElem hi]
  have hx:s.2[i]?=some s.2[i]:=List.getElem?_eq_getElem hi2;have b1:=of_decide_eq_true (h.bnd _ (List.getElem_mem hi2));have b2:=of_decide_eq_true hy;refine ⟨?_,r,hr⟩;have:=yIO y t s.1 s.2 i a[i] s.2[i] (z15 (s.2[i]?.getD y) y).1 hc hx (by
   rw[hx];unfold z15;simp only[Option.getD_some];rw[yo (by omega) (by omega),yo (by omega) (by omega)])
  rw[yJ8 hs t]at this;exact this
theorem yG9{a:List Con}{d:Int}{k:Int}(hk:0≤k)(t:Int):∀ (l:List Con) (v:List Gau) (m:Int) (s:SumS),l.length=v.length→(∀ z∈v,(z0Z z d).1=mulG d z∧yY k (mulG d z)=true)→okS a.length m s→(∃ r,s.1=a++r)→0≤m→m+l.length * k < 9223372036854775807 →
  exV (addL a d l v s).1 (addL a d l v s).2 t=((exV s.1 s.2 t).1+d * (exV l v t).1,(exV s.1 s.2 t).2+d * (exV l v t).2)∧okS a.length (m+l.length * k) (addL a d l v s)∧(addL a d l v s).2.length≤s.2.length+l.length
 | [],v,m,s,_,_,h,_,_,_=>by
  unfold addL exV;simpa using h
 | c::l,[],m,s,hl,_,_,_,_,_=>by simp at hl
 | c::l,z::v,m,s,hl,hv,h,hp,hm,hM=>by
  simp only[List.length_cons]at hl hM;obtain ⟨z1,z2⟩:=hv z (by simp)
  have e:((l.length+1:Nat):Int) * k=k+l.length * k:=by rw[Int.natCast_add,Int.add_mul];omega
  have hlk:0≤(l.length:Int) * k:=Int.mul_nonneg (by omega) hk
  rw[e]at hM;obtain ⟨g1,g2⟩:=yDQ (c:=c) h z2 (by omega) hm hk
  obtain ⟨x1,x2⟩:=yNY (c:=c) h hp z2 (by omega) t
  obtain ⟨i1,i2,i3⟩:=yG9 hk t l v (m+k) _ (by omega) (fun z hz=>hv z (by simp[hz])) g1 x2 (by omega) (by omega)
  unfold addL;rw[z1,yKK];refine ⟨?_,?_,?_⟩
  ·rw[i1,x1,yHV];unfold mulG;simp only[Int.mul_add,Int.add_assoc]
  ·simp only[List.length_cons];rw[e,← Int.add_assoc];exact i2
  ·simp only[List.length_cons];omega
theorem yLr(a b:Int):gI a b ∣ a∧gI a b ∣ b:=by
 unfold gI;exact ⟨Int.ofNat_dvd_left.2 (Nat.gcd_dvd_left _ _),Int.ofNat_dvd_left.2 (Nat.gcd_dvd_right _ _)⟩
theorem yEP:∀ (l:List Gau) (d:Int),comG l d ∣ d∧∀ z∈l,comG l d ∣ z.1∧comG l d ∣ z.2.1
 | [],d=>⟨Int.dvd_refl _,fun z hz=>by cases hz⟩
 | z::l,d=>by
  unfold comG;obtain ⟨h1,h2⟩:=yEP l (gI (gI d z.1) z.2.1);obtain ⟨a1,a2⟩:=yLr (gI d z.1) z.2.1;obtain ⟨b1,b2⟩:=yLr d z.1;have h3:=Int.dvd_trans h1 a1;refine ⟨Int.dvd_trans h3 b1,fun y hy=>?_⟩
  rcases List.mem_cons.1 hy with rfl|hy
  ·exact ⟨Int.dvd_trans h3 b2,Int.dvd_trans h1 a2⟩
  ·exact h2 y hy
theorem yLC{n:Int}(h:0≤n)(a b:Int):gI (n * a) (n * b)=n * gI a b:=by
 unfold gI;rw[Int.natAbs_mul,Int.natAbs_mul,Nat.gcd_mul_left,Int.natCast_mul,Int.natAbs_of_nonneg h]
theorem yEZ{n:Int}(h:0≤n):∀ (l:List Gau) (d:Int),comG (l.map (mulG n)) (n * d)=n * comG l d
 | [],d=>rfl
 | z::l,d=>by
  rw[List.map_cons];unfold comG mulG;simp only;rw[yLC h,yLC h];exact yEZ h l _
theorem y4D{x n:Int}(hn:0 < n):(x.tdiv n).natAbs≤x.natAbs:=by
 rw[Int.natAbs_tdiv];exact Nat.div_le_self _ _
theorem yDd{m n:Int}{z:Gau}(hn:0 < n)(h:yY m z=true)(hm:m≤9223372036854775807):yY m (qG n z)=true∧qG n z=(z.1.tdiv n,z.2.1.tdiv n,()):=by
 have h1:=of_decide_eq_true h;have h2:=y4D (x:=z.1) hn;have h3:=y4D (x:=z.2.1) hn;have e:qG n z=(z.1.tdiv n,z.2.1.tdiv n,()):=by
  unfold qG;rw[yo (by omega) (by omega),yo (by omega) (by omega)]
 exact ⟨by rw[e];exact yC (by simp only;omega),e⟩
theorem yI0{l:List Con}{x:List Gau}{D:Nat}{m:Int}(hD:0 < D)(hD2:(D:Int)≤268435456)(hc:y0k l=0)(hl:l.length=x.length)(hx:∀ z∈x,yY m z=true)(hm0:0≤m)(hm:m≤8796093022208) :
  y09 (lowT l x D)=0∧(∀ z∈(lowT l x D).2.1,yY m z=true)∧(1≤(lowT l x D).2.2.1∧(lowT l x D).2.2.1≤D)∧comG x D * (lowT l x D).2.2.1=D∧∀ t,comG x D * (exV l (lowT l x D).2.1 t).1=(exV l x t).1∧comG x D * (exV l (lowT l x D).2.1 t).2=(exV l x t).2:=by
 have hp:=y4s x D hD;obtain ⟨d1,d2⟩:=yEP x D;generalize hn:comG x (D:Int)=n at hp d1 d2;have e1:(lowT l x D).2.1=x.map (qG n):=by unfold lowT;rw[hn]
 have e2:(lowT l x D).2.2.1=(D:Int).tdiv n:=by
  unfold lowT;simp only;rw[hn];have:=y4D (x:=(D:Int)) hp;rw[yo (by omega) (by omega)]
 have e3:n * (D:Int).tdiv n=D:=Int.mul_tdiv_cancel' d1;have e4:(x.map (qG n)).map (mulG n)=x:=by
  rw[List.map_map];conv=>rhs;rw[← List.map_id x]
  refine List.map_congr_left fun z hz=>?_
  have h1:=d2 z hz;have h2:=(yDd hp (hx z hz) (by omega)).2
  show mulG n (qG n z)=z
  rw[h2];unfold mulG;simp only;rw[Int.mul_tdiv_cancel' h1.1,Int.mul_tdiv_cancel' h1.2]
 have e5:1≤(D:Int).tdiv n∧(D:Int).tdiv n≤D:=by
  have h1:=y4D (x:=(D:Int)) hp;have h2:(0:Int)≤(D:Int).tdiv n:=Int.tdiv_nonneg (by omega) (by omega)
  have h3:(D:Int).tdiv n≠0:=fun h=>by rw[h]at e3;simp at e3;omega
  omega
 have hs:∀ z∈x.map (qG n),yY m z=true:=fun z hz=>by
  obtain ⟨y,hy,rfl⟩:=List.mem_map.1 hz;exact (yDd hp (hx y hy) (by omega)).1
 have e6:comG (x.map (qG n)) ((D:Int).tdiv n)=1:=by
  have h1:=yEZ (n:=n) (by omega) (x.map (qG n)) ((D:Int).tdiv n)
  rw[e4,e3,hn]at h1;have:n * 1=n * comG (x.map (qG n)) ((D:Int).tdiv n):=by rw[← h1,Int.mul_one]
  exact (Int.eq_of_mul_eq_mul_left (by omega) this).symm
 have hpz:y0j ((x.map (qG n)).map y0e)=0:=by
  unfold y0j;rw[List.find?_eq_none.2 fun e he=>by
   obtain ⟨z,hz,rfl⟩:=List.mem_map.1 he;have h1:=of_decide_eq_true (hs z hz);have h2:y0e z=0:=by
    unfold y0e;rw[yQ,yQ,y1K,y0T];unfold ckR;rw[if_neg (by omega),if_neg (by omega)]
    rfl
   simp[h2]]
  rfl
 refine ⟨?_,by rw[e1];exact hs,by rw[e2];exact e5,by rw[e2];exact e3,fun t=>?_⟩
 ·unfold y09;rw[e1,e2,hpz,e6];show yP (y0k l) _=0
  rw[hc,y04,if_pos (by simp[lowT,hl]),y04]
  unfold ckR;rw[if_neg (by omega),y04,y04,if_pos rfl]
 ·rw[e1];have h1:=y9b n l (x.map (qG n)) t;rw[e4]at h1;rw[h1];exact ⟨rfl,rfl⟩
end Go.Tw
