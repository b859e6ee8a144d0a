import Derived.Test.YtpcnkpbpcebokaaGreatDoorPY
import Derived.Test.YtpcnkpbpcebokaaGreatDoorP5
import Derived.Test.YtpcnkpbpcebokaaGreatDoorPL
import Derived.Test.YtpcnkpbpcebokaaGreatDoorBAd
import Derived.Test.YtpcnkpbpcebokaaGreatDoorVD
import Derived.Test.YtpcnkpbpcebokaaGreatDoorPA
set_option linter.all false
set_option maxRecDepth 100000
set_option exponentiation.threshold 4000
namespace Go.Tw
open Go.Vx Go.Vx.B Go.Proofs
theorem yM3{y:Int}(h:(Lit.int .u16 y).wf=true):0≤y∧y≤65535:=by
 have h1:IntKind.u16.min=0:=by decide
 have h2:IntKind.u16.max=65535:=by decide
 simp only[Lit.wf,h1,h2,Bool.and_eq_true,decide_eq_true_eq]at h;exact h
theorem yDG(z:Gau)(m:Int)(h:fits z):imax (imax (imax z.1 (IntKind.i64.wrap (0 - z.1))) z.2.1) (IntKind.i64.wrap (0 - z.2.1)) > m ↔ ¬ yY m z=true:=by
 unfold yY imax;obtain ⟨⟨h1,h2⟩,h3,h4⟩:=h;rw[yo (i:=0 - z.1) (by omega) (by omega),yo (i:=0 - z.2.1) (by omega) (by omega),decide_eq_true_eq]
 split<;>split<;>split<;>omega
theorem y9s{z:Gau}(h:yY 268435456 z=true):z0O z=(true,()):=by
 have h1:=of_decide_eq_true h;have h2:=yDG z 268435456 (y2L h (by decide))
 unfold z0O;simp only[if_true,Bool.false_eq_true,if_false];rw[bifT (yC (Int.not_lt.1 fun q=>h2.1 q h)),yC (by split<;>omega)]
structure tameT (t:Tid):Prop where
 ok:y09 t=0
 den:t.2.2.1≤64
 part:∀ z∈t.2.1,yY 10000 z=true
theorem yHO(t:Tid)(ha:t.2.1.length≤memMax):∃ s,yF7 t=some (s,())∧(s=true→tameT t):=by
 unfold yF7;rw[yW7 t ha];simp only[Option.bind_some];by_cases h:y09 t=0
 ·rw[bifF (by simp[h])]
  by_cases h2:t.2.2.1 > 64
  ·exact ⟨false,by rw[bifT (yC h2)],by simp⟩
  ·rw[bifF (yL h2),bifT (yC (yb ha))];refine ⟨t.2.1.all (yY 10000),?_,fun hs=>⟨h,by omega,fun z hz=>List.all_eq_true.1 hs z hz⟩⟩
   rw[yBz (yY 10000) (false,()) t.2.1 0 fun i e he=>by
    unfold yDa;try simp only[if_true]
    have:=yDG e 10000 (y6h (ym h) e he);cases hs:yY 10000 e with
    | true=>rw[bifF (yL (by rw[this,hs];simp))];rfl
    | false=>rw[bifT (yC (by rw[this,hs];simp))];rfl]
   cases t.2.1.all (yY 10000)<;>rfl
 ·exact ⟨false,by rw[bifT (by simpa using h)],by simp⟩
theorem tameT.small{t:Tid}(h:tameT t):y15 t=true:=by
 unfold y15;rw[Bool.and_eq_true];exact ⟨List.all_eq_true.2 fun z hz=>y1X (h.part z hz) (by decide),yC (by have:=h.den;omega)⟩
theorem y6p{t:Tid}(hn:∀ n∈t.1,n.1.length < lenMax)(hl:t.1.length < lenMax)(ha:t.2.1.length≤memMax)(ht:y09 t=0){p:Int}(h0:0≤p)(h1:p≤65535):y6Q t p 1=some ([valT t p],0,()):=by
 have hf:y2y p 1=0:=by
  unfold y2y ckR;rw[yQ,yQ,y1K,y0T,yo (by omega) (by omega),if_neg (by omega),if_neg (by omega),if_neg (by omega)]
  rfl
 rw[yDw hn hl ha,if_pos (by rw[ht,hf];rfl)]
 unfold yFn;show some ([valT t (p+(0+0))],0,())=_
 rw[show p+(0+0)=p by omega]
theorem y20{t:Tid}(h:y09 t=0):∀ n∈t.1,n.1.length < lenMax:=by
 intro n hn;unfold y09 at h;have hc:=(yS h).1;unfold y0k at hc;split at hc
 ·cases hc
 ·split at hc
  ·cases hc
  ·have:=(yDU (y6u t.1 [] hc n hn)).2;unfold isNm at this;rw[Bool.and_eq_true]at this;have:=of_decide_eq_true this.2;unfold lenMax;omega
theorem yDV:∀ (l done:List Con),(∀ c∈l,y6U c=0)→y8R done l=0∨y8R done l=9
 | [],_,_=>.inl rfl
 | n::l,done,h=>by
  unfold y8R;have hs:=h n (by simp)
  unfold conE;rw[hs,y04];cases done.any (fun d=>d.1 == n.1)with
  | true=>exact .inr rfl
  | false =>
   show yP 0 _=0∨yP 0 _=9
   rw[y04];exact yDV l _ fun c hc=>h c (by simp[hc])
theorem y9a{t:Tid}(h:y09 t=0):(∀ c∈t.1,y6U c=0)∧0 < t.1.length:=by
 unfold y09 at h;have hc:=(yS h).1;unfold y0k at hc;split at hc
 ·cases hc
 ·split at hc
  ·cases hc
  ·exact ⟨y6u t.1 [] hc,by omega⟩
structure SumV (a b:Tid) (t:Int):Prop where
 err:y0k (sumS a b).1=0∨y0k (sumS a b).1=5∨y0k (sumS a b).1=9
 good:y0k (sumS a b).1=0→y09 (y2S a b).1=0∧(1≤(y2S a b).1.2.2.1∧(y2S a b).1.2.2.1≤4096)∧yY 268435456 (valT (y2S a b).1 t)=true∧(y2S a b).2.1=0 ∧
  (valT (y2S a b).1 t).1 * (a.2.2.1 * b.2.2.1)=(b.2.2.1 * (valT a t).1+a.2.2.1 * (valT b t).1) * (y2S a b).1.2.2.1 ∧
  (valT (y2S a b).1 t).2.1 * (a.2.2.1 * b.2.2.1)=(b.2.2.1 * (valT a t).2.1+a.2.2.1 * (valT b t).2.1) * (y2S a b).1.2.2.1
theorem y6t{n v s S D:Int}(h1:n * v=S)(h2:n * s=D)(hn:0 < n):v * D=S * s:=by
 rw[← h1,← h2];rw[Int.mul_left_comm,Int.mul_assoc]
theorem y25{t:Tid}(h:tameT t)(k:Int):valT t k=((exV t.1 t.2.1 k).1,(exV t.1 t.2.1 k).2,())∧yY 40000 (valT t k)=true:=by
 have hf:=(ym h.ok).few;have e:=yHl (m:=10000) (by decide) h.part (by omega) k
 refine ⟨e,?_⟩;obtain ⟨b1,b2⟩:=yAH (m:=10000) (by decide) t.1 t.2.1 k h.part
 rw[e];exact yC (by simp only;omega)
theorem yNF{a b:Tid}(ha:tameT a)(hb:tameT b)(t:Int):SumV a b t:=by
 have oa:=ym ha.ok;have ob:=ym hb.ok;have fa:=oa.few;have fb:=ob.few;have da:=oa.den;have db:=ob.den;have da2:=ha.den;have db2:=hb.den;have la:=oa.len;have lb:=ob.len;have sa:∀ z∈a.2.1,(z0Z z b.2.2.1).1=mulG b.2.2.1 z∧yY 640000 (mulG b.2.2.1 z)=true:=fun z hz=>y1O (m:=10000) (k:=64) (ha.part z hz) (by omega) db2 (by decide) (by decide)
 have sb:∀ z∈b.2.1,(z0Z z a.2.2.1).1=mulG a.2.2.1 z∧yY 640000 (mulG a.2.2.1 z)=true:=fun z hz=>y1O (m:=10000) (k:=64) (hb.part z hz) (by omega) da2 (by decide) (by decide)
 have em:(a.2.1.map fun z=>(z0Z z b.2.2.1).1)=a.2.1.map (mulG b.2.2.1):=List.map_congr_left fun z hz=>(sa z hz).1
 have h0:okS a.1.length 640000 (a.1,a.2.1.map fun z=>(z0Z z b.2.2.1).1):=by
  refine ⟨by simpa using la,by simp[la],fun z hz=>?_⟩
  obtain ⟨y,hy,rfl⟩:=List.mem_map.1 hz;rw[(sa y hy).1];exact (sa y hy).2
 obtain ⟨x1,x2,x3⟩:=yG9 (a:=a.1) (d:=a.2.2.1) (k:=640000) (by decide) t b.1 b.2.1 640000 _ lb sb h0 ⟨[],by simp⟩ (by decide) (by omega)
 rw[em]at x1 x3;simp only[y9b]at x1;have hS:sumS a b=addL a.1 a.2.2.1 b.1 b.2.1 (a.1,a.2.1.map fun z=>(z0Z z b.2.2.1).1):=rfl
 rw[← em,← hS]at x1;rw[← hS]at x2;have hlen:(sumS a b).1.length=(sumS a b).2.length:=x2.len;have hself:∀ c∈(sumS a b).1,y6U c=0:=fun c hc=>by
  rcases y5g _ _ _ _ _ c hc with q|q
  ·exact (y9a ha.ok).1 c q
  ·exact (y9a hb.ok).1 c q
 have hpos:0 < (sumS a b).1.length:=by
  have h1:=x2.low;have h2:=(y9a ha.ok).2;omega
 have h3:1 * 1≤a.2.2.1 * b.2.2.1:=Int.mul_le_mul da.1 db.1 (by decide) (by omega)
 have h4:a.2.2.1 * b.2.2.1≤64 * 64:=Int.mul_le_mul da2 db2 (by omega) (by decide)
 refine ⟨?_,fun hc=>?_⟩
 ·unfold y0k;rw[if_neg (by omega)]
  by_cases h5:4 < (sumS a b).1.length
  ·rw[if_pos h5];exact .inr (.inl rfl)
  ·rw[if_neg h5];rcases yDV (sumS a b).1 [] hself with q|q
   ·exact .inl q
   ·exact .inr (.inr q)
 ·have h8:(sumS a b).1.length≤4:=(yBA hc).2.1;obtain ⟨D,hD⟩:∃ D:Nat,a.2.2.1 * b.2.2.1=(D:Int):=⟨(a.2.2.1 * b.2.2.1).toNat,by omega⟩
  have hx:∀ z∈(sumS a b).2,yY 3200000 z=true:=fun z hz=>y1X (x2.bnd z hz) (by omega)
  obtain ⟨g1,g2,g3,g4,g5⟩:=yI0 (l:=(sumS a b).1) (x:=(sumS a b).2) (D:=D) (m:=3200000) (by omega) (by omega) hc hlen hx (by decide) (by decide)
  have hv:y2S a b=(lowT (sumS a b).1 (sumS a b).2 D,0,()):=by
   unfold y2S;rw[if_pos hc,hD]
  rw[hv];simp only;have hp:=y4s (sumS a b).2 D (by omega)
  have lv:=yHl (t:=lowT (sumS a b).1 (sumS a b).2 D) (m:=3200000) (by decide) g2 (by show ((sumS a b).1.length:Int) * _ < _;omega) t
  obtain ⟨b1,b2⟩:=yAH (m:=3200000) (by decide) (lowT (sumS a b).1 (sumS a b).2 D).1 (lowT (sumS a b).1 (sumS a b).2 D).2.1 t g2
  have hl1:(lowT (sumS a b).1 (sumS a b).2 (D:Int)).1=(sumS a b).1:=rfl;rw[hl1]at b1 b2;have q1:=y6t (g5 t).1 g4 hp;have q2:=y6t (g5 t).2 g4 hp;rw[x1]at q1 q2;rw[lv,hl1,hD,(y25 ha t).1,(y25 hb t).1];refine ⟨g1,⟨g3.1,by omega⟩,yC (by simp only;omega),trivial,q1,q2⟩
theorem yLU{x y:Gau}(h1:x.1=y.1)(h2:x.2.1=y.2.1):eqV ((Ty.int IntKind.i64).pair ((Ty.int IntKind.i64).pair Ty.unit)) x y=true:=by
 show ((x.1 == y.1) && ((x.2.1 == y.2.1) && true))=true
 rw[h1,h2];simp
theorem y1q{x:Gau}{d m k:Int}(hx:yY m x=true)(h0:0≤d)(h1:d≤k)(hb:k * m < 9223372036854775807)(hm:0≤m):(z0Q x (d,0,())).1=(d * x.1,d * x.2.1,()):=by
 rw[yEz];exact (y1O hx h0 h1 hb hm).1
theorem yXI:((List.range 2049).all fun k=>match F32.read (lvF ((k:Int) - 1024))with
  | .number s m e=>decide (-149≤e) && (Ieee.signed s m (e+149).toNat == ((k:Int) - 1024) * 44601490397061246283071436545296723011960832)
  | _=>false)=true:=by kernel_rfl
theorem yQs{x:Int}(h0:-1024≤x)(h1:x≤1024):zZ_M (lvF x)=some (0,())∧zc_M (lvF x)=some (x,()):=by
 have h:=List.all_eq_true.1 yXI (x+1024).toNat (List.mem_range.2 (by omega))
 rw[show (((x+1024).toNat:Nat):Int) - 1024=x by omega]at h
 cases hr:F32.read (lvF x)with
 | number s m e =>
  rw[hr]at h;simp only[Bool.and_eq_true,decide_eq_true_eq,beq_iff_eq]at h;have hs:Six (lvF x) x:=by
   refine ⟨⟨s,m,e,hr,by omega,?_⟩,h0,h1⟩
   unfold sv;rw[show (e+3000).toNat=(e+149).toNat+2851 by omega,y69,h.2,Int.mul_assoc]
   congr 1
  have hl:=yUq hs;obtain ⟨n,n1,n2,n3⟩:=ySw hl;have e1:n=x:=ySA.1 (yPB n1.num hs.num);rw[yHr,hl,n3,e1];exact ⟨rfl,rfl⟩
 | infinity s=>rw[hr]at h;cases h
 | nan s t=>rw[hr]at h;cases h
theorem yP0{a b:Int}(hb:1≤b)(hb2:b≤64)(ha:(a.natAbs:Int)≤40000):let n:=nrI (IntKind.i64.wrap (IntKind.i64.wrap (2 * a)+b)) (IntKind.i64.wrap (2 * b));-b < 2 * (n * b - a)∧2 * (n * b - a)≤b∧(n.natAbs:Int)≤40001:=by
 intro n;have e:n=(2 * a+b) / (2 * b):=by
  show nrI _ _=_
  rw[yo (i:=2 * a) (by omega) (by omega),yo (i:=2 * a+b) (by omega) (by omega),yo (i:=2 * b) (by omega) (by omega)]
  unfold nrI;have h1:=Int.tdiv_mul_add_tmod (2 * a+b) (2 * b);obtain ⟨p,q⟩:=y7n (a:=2 * a+b) (b:=2 * b) (by omega)
  have hlt:=Int.tmod_lt_of_pos (2 * a+b) (show 0 < 2 * b by omega)
  have hgt:-(2 * b) < (2 * a+b).tmod (2 * b):=by
   have:=Int.natAbs_tmod (2 * a+b) (2 * b);have h3:((2 * a+b).natAbs % (2 * b).natAbs) < (2 * b).natAbs:=Nat.mod_lt _ (by omega)
   omega
  rw[yo (i:=(2 * a+b).tdiv (2 * b)) (by omega) (by omega)]
  generalize hm:(2 * a+b).tmod (2 * b)=m at h1 hlt hgt;generalize hd:(2 * a+b).tdiv (2 * b)=d at h1 p q;have hdb:-90000≤d∧d≤90000:=by omega
  by_cases hneg:m < 0
  ·rw[bifT (yC hneg),yo (by omega) (by omega)]
   symm
   refine Int.ediv_eq_iff_of_pos (by omega) |>.2 ⟨?_,?_⟩
   ·rw[Int.sub_mul];omega
   ·rw[Int.sub_mul];omega
  ·rw[bifF (yL hneg)];symm
   refine Int.ediv_eq_iff_of_pos (by omega) |>.2 ⟨?_,?_⟩
   ·omega
   ·omega
 have h1:=Int.mul_ediv_add_emod (2 * a+b) (2 * b);have h2:=Int.emod_nonneg (2 * a+b) (show 2 * b≠0 by omega)
 have h3:=Int.emod_lt_of_pos (2 * a+b) (show 0 < 2 * b by omega)
 rw[← e]at h1;have h4:2 * b * n=2 * (n * b):=by rw[Int.mul_assoc,Int.mul_comm b n]
 have h5:-(40001:Int)≤n∧n≤40001:=by
  rw[e];constructor
  ·refine Int.le_ediv_of_mul_le (by omega) ?_
   have:2 * 1≤2 * b:=by omega
   have h6:(-40001:Int) * (2 * b)≤-40001 * 2:=Int.mul_le_mul_of_nonpos_left (by decide) (by omega)
   omega
  ·refine Int.le_of_lt_add_one ?_
   refine Int.ediv_lt_of_lt_mul (by omega) ?_
   have h6:(40001+1:Int) * 2≤(40001+1) * (2 * b):=Int.mul_le_mul_of_nonneg_left (by omega) (by decide)
   omega
 refine ⟨by omega,by omega,by omega⟩
theorem yGq{t:Tid}(h:tameT t)(k:Int):-t.2.2.1 < 2 * (sixI t (valT t k) * t.2.2.1 - (valT t k).1)∧2 * (sixI t (valT t k) * t.2.2.1 - (valT t k).1)≤t.2.2.1∧((sixI t (valT t k)).natAbs:Int)≤40001:=by
 have h1:=of_decide_eq_true (y25 h k).2;exact yP0 (ym h.ok).den.1 h.den h1.1
theorem yDq{a b:Tid}(ha:tameT a)(hb:tameT b)(at0 year:Int)(p9:List Gau)(T:List (List Tid))(u v:Tid)(i:Int)(hi:idx T i=some [u,v])(h0:0≤at0)(h1:at0≤65535)
  (hu:tameT u) (hv:tameT v) (s0 s1:Int) (hs0:s0=v.2.2.1 * (valT u at0).1+u.2.2.1 * (valT v at0).1) (hs1:s1=v.2.2.1 * (valT u at0).2.1+u.2.2.1 * (valT v at0).2.1) (hd:u.2.2.1 * v.2.2.1=a.2.2.1 * b.2.2.1) :
  yB5 a b at0 year p9 T s0 s1 i=some (.inr ()):=by
 have hmem:memMax=68719476736:=rfl;have hlm:lenMax=9223372036854775808:=rfl;have ou:=ym hu.ok;have ov:=ym hv.ok;have fu:=ou.few;have fv:=ov.few;have lu:=ou.len;have lv:=ov.len;have du:=ou.den;have dv:=ov.den;have du2:=hu.den;have dv2:=hv.den;have ee:sumE u v=0:=by
  unfold sumE;rw[hu.ok,hv.ok,hu.small,hv.small];rfl
 unfold yB5;rw[hi];simp only[Option.bind_some];show Option.bind (yFz u) (fun v40=>Option.bind (yFz v) fun v41=>_)=_
 rw[yAb u (by omega) (by omega),yAb v (by omega) (by omega)]
 simp only[Option.bind_some];rw[tSum_eq (y20 hu.ok) (y20 hv.ok) (by omega) (by omega) (by omega) (by omega),if_pos ee]
 simp only[Option.bind_some];obtain ⟨he,hg⟩:=yNF hu hv at0;rcases he with he|he|he
 ·obtain ⟨g1,g2,g3,g4,g5,g6⟩:=hg he;have os:=ym g1;have fs:=os.few;have ls:=os.len;rw[bifF (by rw[g4];rfl)]
  show Option.bind (y6Q (y2S u v).1 at0 1) _=_
  rw[y6p (y20 g1) (by omega) (by omega) g1 h0 h1]
  simp only[Option.bind_some];rw[bifF (by rfl),bifF (by rfl),bifF (yL (by omega)),bifF (yL (by omega))]
  show Option.bind (some (valT (y2S u v).1 at0)) _=_
  simp only[Option.bind_some];rw[y9s g3,bifF (by rfl)]
  show Option.bind (some (valT (y2S u v).1 at0)) _=_
  simp only[Option.bind_some];have h3:1 * 1≤u.2.2.1 * v.2.2.1:=Int.mul_le_mul du.1 dv.1 (by decide) (by omega)
  have h4:u.2.2.1 * v.2.2.1≤64 * 64:=Int.mul_le_mul du2 dv2 (by omega) (by decide)
  have hsm:yY 10000000 (s0,s1,())=true:=by
   have b1:=of_decide_eq_true (y1O (m:=40000) (k:=64) (y25 hu at0).2 (n:=v.2.2.1) (by omega) dv2 (by decide) (by decide)).2
   have b2:=of_decide_eq_true (y1O (m:=40000) (k:=64) (y25 hv at0).2 (n:=u.2.2.1) (by omega) du2 (by decide) (by decide)).2
   unfold mulG at b1 b2;simp only at b1 b2;rw[hs0,hs1];exact yC (by simp only;omega)
  rw[← hd,yo (by omega) (by omega),y1q (m:=268435456) (k:=4096) g3 (by omega) (by omega) (by decide) (by decide),y1q (m:=10000000) (k:=4096) hsm (by omega) g2.2 (by decide) (by decide)]
  rw[bifF (by
   rw[yLU]
   ·rfl
   ·simp only;rw[Int.mul_comm (u.2.2.1 * v.2.2.1),g5,← hs0,Int.mul_comm]
   ·simp only;rw[Int.mul_comm (u.2.2.1 * v.2.2.1),g6,← hs1,Int.mul_comm])]
 ·have e5:(y2S u v).2.1=5:=by
   unfold y2S;rw[if_neg (by rw[he];decide)]
   exact he
  rw[e5];rfl
 ·have e9:(y2S u v).2.1=9:=by
   unfold y2S;rw[if_neg (by rw[he];decide)]
   exact he
  rw[e9];rfl
end Go.Tw
