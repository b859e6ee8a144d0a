import Derived.Test.YtpcnkpbpcebokaaGreatDoorP6
import Derived.Test.YtpcnkpbpcebokaaGreatDoorBSu
import Derived.Test.YtpcnkpbpcebokaaGreatDoorPA
set_option linter.all false
set_option maxRecDepth 100000
namespace Go.Tw
open Go.Vx Go.Vx.B Go.Proofs
def p2:Nat→Nat→Bool
 | 0,_=>false
 | f+1,n=>if n % 2=0 then p2 f (n / 2)else n == 1
theorem yMy:∀ (f n:Nat),p2 f n=true→∃ k,k < f∧n=2 ^ k
 | 0,_,h=>by cases h
 | f+1,n,h=>by
  unfold p2 at h;by_cases h2:n % 2=0
  ·rw[if_pos h2]at h;obtain ⟨k,hk,e⟩:=yMy f (n / 2) h;exact ⟨k+1,by omega,by rw[Nat.pow_succ,← e];omega⟩
  ·rw[if_neg h2]at h;exact ⟨0,by omega,by simpa using h⟩
theorem yLS(m:Nat)(h:0 < m):(2 * m) &&& (2 * m - 1)=2 * (m &&& (m - 1)):=by
 apply Nat.eq_of_testBit_eq;intro i;rw[Nat.testBit_and];cases i with
 | zero=>simp[Nat.testBit_zero]
 | succ i =>
  simp only[Nat.testBit_succ];rw[show 2 * m / 2=m by omega,show (2 * m - 1) / 2=m - 1 by omega,show 2 * (m &&& (m - 1)) / 2=m &&& (m - 1) by omega,Nat.testBit_and]
theorem yOI(m:Nat):(2 * m+1) &&& (2 * m)=2 * m:=by
 apply Nat.eq_of_testBit_eq;intro i;rw[Nat.testBit_and];cases i with
 | zero=>simp[Nat.testBit_zero]
 | succ i =>
  simp only[Nat.testBit_succ];rw[show (2 * m+1) / 2=m by omega,show 2 * m / 2=m by omega,Bool.and_self]
theorem yMo:∀ (f n:Nat),0 < n→n < 2 ^ f→p2 f n=((n &&& (n - 1)) == 0)
 | 0,n,h0,h=>by simp at h;omega
 | f+1,n,h0,h=>by
  unfold p2;by_cases h2:n % 2=0
  ·rw[if_pos h2,yMo f (n / 2) (by omega) (by rw[Nat.pow_succ]at h;omega)]
   have e:=yLS (n / 2) (by omega)
   rw[show 2 * (n / 2)=n by omega]at e
   rw[e];generalize (n / 2) &&& (n / 2 - 1)=q;by_cases hq:q=0
   ·subst hq;rfl
   ·have e1:(q == 0)=false:=by simpa using hq
    have e2:(2 * q == 0)=false:=by simp;omega
    rw[e1,e2]
  ·rw[if_neg h2];have e:=yOI (n / 2);rw[show 2 * (n / 2)+1=n by omega]at e
   rw[show n - 1=2 * (n / 2) by omega,e]
   by_cases hq:n=1
   ·subst hq;rfl
   ·have e1:(n == 1)=false:=by simpa using hq
    have e2:(2 * (n / 2) == 0)=false:=by simp;omega
    rw[e1,e2]
theorem yGW{k:FloatKind}{r:Nat}(h:(k.format.read r).isNaN=false):y0p .eql k r r=true:=by
 unfold y0p Ieee.Format.order;generalize k.format.read r=d at h;cases d with
 | number s m e=>show ((some (compare _ _)) == some Ordering.eq)=true;rw[show ∀ x:Int,compare x x=Ordering.eq from fun x=>by simp[compare,compareOfLessAndEq]];rfl
 | infinity s=>show ((some (compare _ _)) == some Ordering.eq)=true;cases s<;>rfl
 | nan s t=>simp[Ieee.Datum.isNaN]at h
def yWX:Ieee.Datum→Bool
 | .number _ m _=>decide (m≠0)
 | _=>false
theorem yFd{k:FloatKind}{x y:Nat}(hx:(k.format.read x).isNaN=false)(hy:yWX (k.format.read y)=true):(k.format.read (y0g .quo k x y)).isNaN=false:=by
 have h:∃ r,floatBits .quo k x y=some r:=by
  show ∃ r,k.format.div x y=some r
  unfold Ieee.Format.div;generalize k.format.read x=d at hx;generalize k.format.read y=e at hy;cases e with
  | number t n j =>
   have hn:n≠0:=of_decide_eq_true hy;cases d with
   | number s m i =>
    simp only[Ieee.Datum.quotient,if_neg hn];exact ⟨_,rfl⟩
   | infinity s=>exact ⟨_,rfl⟩
   | nan s t=>simp[Ieee.Datum.isNaN]at hx
  | infinity t=>cases hy
  | nan s t=>cases hy
 obtain ⟨r,hr⟩:=h;unfold y0g;rw[hr];exact y8C hr
theorem yHU:((List.range 29).all fun k=>yWX (FloatKind.f32.format.read (yk .f32 (16 * ((2 ^ k:Nat):Int)))))=true:=by kernel_rfl
def yAE(d:Int)(z:Gau):Nat×Nat:=(y0g .quo .f32 (yk .f32 z.1) (yk .f32 (IntKind.i64.wrap (16 * d))),y0g .quo .f32 (yk .f32 z.2.1) (yk .f32 (IntKind.i64.wrap (16 * d))))
def y9V(t:Tid):Int:=yN (if p2 29 t.2.2.1.toNat then 0 else 1) (if t.2.1.all (yv 16777216)then 0 else 1)
def yAL(t:Tid):List (Nat×Nat)×Int×Unit:=if y9V t=0 then (t.2.1.map (yAE t.2.2.1),0,())else ([],1,())
theorem yJs(t:Tid):y9V t=0∨y9V t=1:=by
 unfold y9V;cases p2 29 t.2.2.1.toNat<;>cases t.2.1.all (yv 16777216)<;>decide
theorem ySZ{t:Tid}(ht:okT t):0 < t.2.2.1.toNat∧t.2.2.1.toNat < 2 ^ 29∧((t.2.2.1.toNat:Nat):Int)=t.2.2.1:=by
 have:=ht.den;have e:(2:Nat) ^ 29=536870912:=by decide
 omega
theorem yJE{d:Int}(h:∃ k,k < 29∧d.toNat=2 ^ k)(h0:0≤d)(h1:d≤268435456)(z:Gau):y4P .f32 (yAE d z) (yAE d z)=true:=by
 obtain ⟨k,hk,e⟩:=h;have hw:IntKind.i64.wrap (16 * d)=16 * ((2 ^ k:Nat):Int):=by
  rw[y4L (by omega) (by omega),← e]
  omega
 have hm:=List.all_eq_true.1 yHU k (List.mem_range.2 hk);have q:∀ x:Int,y0p .eql .f32 (y0g .quo .f32 (yk .f32 x) (yk .f32 (IntKind.i64.wrap (16 * d)))) (y0g .quo .f32 (yk .f32 x) (yk .f32 (IntKind.i64.wrap (16 * d))))=true:=fun x=>by
  rw[hw];exact yGW (yFd (y5z .f32 x) hm)
 unfold y4P yAE;rw[q,q];rfl
theorem yGH{α:Type}(q:α→Bool)(l:List α):y1I (l.map fun z=>if q z then (0:Int)else 1)=if l.all q then 0 else 1:=by
 induction l with
 | nil=>rfl
 | cons z l ih =>
  rw[List.map_cons,ye,ih,List.all_cons];cases q z<;>cases l.all q<;>rfl
theorem yHC(l:List Gau)(hl:l.length≤memMax)(h:∀ z∈l,fits z):zF_M l (fun x=>yKq x.1)=some (l.map (fun z=>if yv 16777216 z then (0:Int)else 1),()):=by
 unfold zF_M;rw[bifT (yD (yK hl))];rw[y0n (fun z=>if yv 16777216 z then (0:Int)else 1) l 0 [] (by simpa using hl) fun i e s he hs=>by
  unfold yGR;show (Option.bind (some (z0Z e)) _)=_
  simp only[Option.bind_some];rw[bifT (yD hs)];unfold z0Z;try simp only[if_true]
  rw[yGq e _ (h e he),y2a];cases yv 16777216 e<;>rfl]
 rfl
theorem yRH(l:List Gau)(f:Gau×Unit→Option ((Nat×Nat)×Unit))(g:Gau→Nat×Nat)(hl:l.length≤memMax)(h:∀ z∈l,f (z,())=some (g z,())):zH_M l f=some (l.map g,()):=by
 unfold zH_M;rw[bifT (yD (yK hl)),y0n g l 0 [] (by simpa using hl) fun i e s he hs=>by
  unfold yJ2;show Option.bind (f (e,())) _=_
  rw[h e he];simp only[Option.bind_some];rw[bifT (yD hs)]]
 rfl
theorem yPO{t:Tid}(ht:okT t):(y2S .i64 .and t.2.2.1 (IntKind.i64.wrap (t.2.2.1 - 1)) != 0)=!p2 29 t.2.2.1.toNat:=by
 obtain ⟨h0,h1,h2⟩:=ySZ ht;have e29:(2:Nat) ^ 29=536870912:=by decide
 rw[yMo 29 _ h0 h1];generalize t.2.2.1.toNat=n at h0 h1 h2;rw[← h2,y4L (by omega) (by omega),show ((n:Int) - 1)=((n - 1:Nat):Int) by omega]
 have hb:y2S .i64 .and (n:Int) ((n - 1:Nat):Int)=((n &&& (n - 1):Nat):Int):=by
  unfold y2S;simp only[BitVec.ofInt_natCast,BitVec.toNat_and,BitVec.toNat_ofNat];have hk:(2:Nat) ^ IntKind.i64.bits=18446744073709551616:=by decide
  rw[hk,Nat.mod_eq_of_lt (by omega),Nat.mod_eq_of_lt (by omega)]
  have:n &&& (n - 1)≤n:=Nat.and_le_left;rw[y4L (by omega) (by omega)]
 rw[hb];generalize n &&& (n - 1)=q;by_cases hq:q=0
 ·subst hq;rfl
 ·have e1:(q == 0)=false:=by simpa using hq
  have e2:((q:Int) != 0)=true:=by simp;omega
  rw[e1,e2];rfl
theorem yKN{t:Tid}(hn:∀ n∈t.1,n.1.length < lenMax)(hl:t.1.length≤memMax)(ha:t.2.1.length≤memMax) :
  yHB t=some (if yf t=0 then yAL t else ([],yf t,())):=by
 unfold yHB yJp;rw[yEE t hn (yK hl) ha];simp only[Option.bind_some];by_cases h:yf t=0
 ·have ht:=y07 h;rw[if_pos h,bifF (by rw[h];rfl),yHC _ ha (y1d ht)]
  simp only[Option.bind_some];rw[y15 _ (by rw[List.length_map];exact yK ha),yGH]
  simp only[Option.bind_some,y2a];rw[yPO ht,y15 _ (y7Q _ _),ye,ye,y22,y1M];simp only[Option.bind_some];have e0:(bif !p2 29 t.2.2.1.toNat then (1:Int)else 0)=if p2 29 t.2.2.1.toNat then 0 else 1:=by cases p2 29 t.2.2.1.toNat<;>rfl
  rw[e0];show (bif y9V t != 0 then some ([],y9V t,())else _)=_
  unfold yAL;rcases yJs t with h1|h1
  ·rw[if_pos h1,h1,bifF (by rfl),yRH t.2.1 _ (yAE t.2.2.1) ha fun z _=>rfl]
   rfl
  ·rw[if_neg (by rw[h1];decide),h1]
   rfl
 ·rw[if_neg h,bifT (by simpa using h)]
theorem yFu(t:Tid)(i:Int)(z:Gau)(s:List (Nat×Nat))(h:fits z)(hs:s.length+1≤memMax) :
  y87 t i z s=some (if yv 16777216 z then .inr (s++[yAE t.2.2.1 z])else .inl (.inl ([],1,()))):=by
 have e:y87 t i z s=(bif decide (imax (imax (imax z.1 z.2.1) (IntKind.i64.wrap (0 - z.1))) (IntKind.i64.wrap (0 - z.2.1)) > 16777216)then (some (Sum.inl (Sum.inl (([],(1:Int),())))))else (bif decide (s.length+1≤memMax)then (some (Sum.inr (s++[yAE t.2.2.1 z])))else none)):=by
  unfold y87;try simp only[if_true]
  rfl
 rw[e,yGb z _ h,bifT (yD hs)];cases yv 16777216 z<;>rfl
theorem y9I(t:Tid):∀ (l:List Gau) (i:Int) (s:List (Nat×Nat)),(∀ z∈l,fits z)→s.length+l.length≤memMax →
  yQ (fun i__ e__ s__=>y87 t i__ e__ s__) (fun s__=>yCL t s__) i l s=some (.inl (if l.all (yv 16777216)then (s++l.map (yAE t.2.2.1),0,())else ([],1,())))
 | [],i,s,_,_=>by simp[y7s,yCL]
 | z::l,i,s,h,hl=>by
  simp only[List.length_cons]at hl;rw[y00,yFu t i z s (h z (by simp)) (by omega)]
  simp only[Option.bind_some];by_cases hz:yv 16777216 z=true
  ·have e:(z::l).all (yv 16777216)=l.all (yv 16777216):=by rw[List.all_cons,hz,Bool.true_and]
   simp only[if_pos hz,e];rw[y9I t l (i+1) _ (fun z hz=>h z (by simp[hz])) (by simp;omega)]
   simp
  ·have e:(z::l).all (yv 16777216)=false:=by rw[List.all_cons,Bool.eq_false_iff.2 hz,Bool.false_and]
   simp only[if_neg hz,e];rfl
theorem y9C{t:Tid}(ht:okT t):∀ (f n m:Nat),0 < n→n < 2 ^ f→f≤m→f≤29 →
  y4N (fun s__=>yBW t s__) m (n:Int)=some (if p2 f n then (if t.2.1.all (yv 16777216)then (t.2.1.map (yAE t.2.2.1),0,())else ([],1,()))else ([],1,()))
 | 0,n,m,h0,h1,_,_=>by simp at h1;omega
 | f+1,n,0,_,_,h,_=>by omega
 | f+1,n,m+1,h0,h1,hm,h29=>by
  have hmem:memMax=68719476736:=rfl;have hf:=ht.few;have hlen:=ht.len;have hp:(2:Nat) ^ (f+1)=2 * 2 ^ f:=Nat.pow_succ';have hp2:(2:Nat) ^ (f+1)≤2 ^ 29:=Nat.pow_le_pow_right (by decide) h29
  have hp3:(2:Nat) ^ 29=536870912:=by decide
  unfold y4N p2 yBW;rw[show ((n:Int).tmod 2)=((n % 2:Nat):Int)from (Int.ofNat_tmod n 2).symm,show ((n:Int).tdiv 2)=((n / 2:Nat):Int)from (Int.ofNat_tdiv n 2).symm]
  by_cases h2:n % 2=0
  ·rw[if_pos h2,h2,bifT (by rfl)]
   simp only[Option.bind_some];rw[y4L (by omega) (by omega)]
   exact y9C ht f (n / 2) m (by omega) (by omega) (by omega) (by omega)
  ·rw[if_neg h2,bifF (by simp;omega)]
   by_cases h3:n=1
   ·subst h3;rw[bifF (by rfl),bifT (yD (show t.2.1.length < lenMax by unfold lenMax;omega)),y9I t _ _ _ (y1d ht) (by simp;omega)]
    simp
   ·rw[bifT (by simp;omega),show (n == 1)=false by simpa using h3]
    rfl
theorem yJn{t:Tid}(ht:okT t):yCg t=some (yAL t):=by
 obtain ⟨h0,h1,h2⟩:=ySZ ht;unfold yCg;rw[← h2,y9C ht 29 _ wMax h0 h1 (by decide) (by decide)]
 unfold yAL y9V;cases p2 29 t.2.2.1.toNat<;>cases t.2.1.all (yv 16777216)<;>rfl
theorem y5R(l:List (Nat×Nat))(h:l.length < lenMax)(hs:∀ x∈l,y4P .f32 x x=true):zq_M l l=some (true,()):=by
 unfold zq_M;rw[bifF (show ((l.length:Int) != (l.length:Int))=false by simp),bifT (yD h),y49 l (fun p x r e=>by
  unfold yKw;rw[e,yCq p x r _ rfl];simp only[Option.bind_some];rw[hs x (by rw[e];simp)]
  rfl) l [] 0 rfl rfl]
 rfl
theorem yFz{t:Tid}(ht:okT t):∀ x∈(yAL t).1,y4P .f32 x x=true:=by
 intro x hx;unfold yAL at hx;by_cases h:y9V t=0
 ·rw[if_pos h]at hx;obtain ⟨z,_,rfl⟩:=List.mem_map.1 hx;have hp:p2 29 t.2.2.1.toNat=true:=by
   cases hp:p2 29 t.2.2.1.toNat with
   | true=>rfl
   | false =>
    unfold y9V at h;rw[hp,if_neg (by simp),yo (by decide)]at h
    cases h
  exact yJE (yMy 29 _ hp) (by have:=ht.den;omega) ht.den.2 z
 ·rw[if_neg h]at hx;cases hx
theorem yHY(t:Tid):(yAL t).1.length≤t.2.1.length:=by
 unfold yAL;split<;>simp
theorem y4p{α β:Type}{body:Int→α→Unit→Option (β⊕Unit)}{fin:Unit→Option β}(q:α→Bool)(K:Nat→Option β) :
  ∀ (l:List α) (d:Nat),(∀ (i:Nat) e,l[i]?=some e→body ((d+i:Nat):Int) e ()=if q e then (K (d+i)).map .inl else some (.inr ())) →
   yQ body fin (d:Int) l ()=match l.findIdx? q with|some i=>K (d+i)|none=>fin ()
 | [],d,_=>rfl
 | e::l,d,h=>by
  have h0:=h 0 e rfl;rw[Nat.add_zero]at h0;rw[y00,h0,List.findIdx?_cons];cases hq:q e with
  | true =>
   simp only[if_true,Nat.add_zero];cases K d<;>rfl
  | false =>
   simp only[Bool.false_eq_true,if_false,Option.bind_some];have ih:=y4p (body:=body) (fin:=fin) q K l (d+1) fun i e he=>by
    have:=h (i+1) e he;rw[show d+(i+1)=d+1+i by omega]at this
    exact this
   rw[show ((d:Int)+1)=((d+1:Nat):Int) by omega,ih]
   cases l.findIdx? q with
   | none=>rfl
   | some i=>show K (d+1+i)=K (d+(i+1));congr 1;omega
abbrev SumS:=List Con×List Gau
def yA4(c d:Con):Bool:=d.2.1 == c.2.1 && d.2.2.1 == c.2.2.1
noncomputable def addS(a:List Con)(c:Con)(y:Gau)(s:SumS):SumS :=
 match a.findIdx? (yA4 c)with
 | some i=>(s.1,s.2.set i (z1C (s.2[i]?.getD y) y).1)
 | none=>(s.1++[c],s.2++[y])
noncomputable def addL(a:List Con)(d:Int):List Con→List Gau→SumS→SumS
 | c::l,z::v,s=>addL a d l v (addS a c (z0d z d).1 s)
 | _,_,s=>s
structure okS (n:Nat) (m:Int) (s:SumS):Prop where
 len:s.1.length=s.2.length
 low:n≤s.2.length
 bnd:∀ z∈s.2,yv m z=true
theorem yOb{x y:Gau}{m k:Int}(hx:yv m x=true)(hy:yv k y=true)(hb:m+k < 9223372036854775807):yv (m+k) (z1C x y).1=true:=by
 have h1:=of_decide_eq_true hx;have h2:=of_decide_eq_true hy;unfold yv z1C;simp only;rw[y4L (i:=x.1+y.1) (by omega) (by omega),y4L (i:=x.2.1+y.2.1) (by omega) (by omega)]
 exact yD (by omega)
theorem y5N{m k:Int}{z:Gau}(h:yv m z=true)(hm:m≤k):yv k z=true:=by
 have:=of_decide_eq_true h;exact yD (by omega)
theorem yDB{a:List Con}{c:Con}{y:Gau}{s:SumS}{m k:Int}(h:okS a.length m s)(hy:yv k y=true)(hb:m+k < 9223372036854775807)(hm:0≤m)(hk:0≤k) :
  okS a.length (m+k) (addS a c y s)∧(addS a c y s).2.length≤s.2.length+1:=by
 unfold addS;cases hf:a.findIdx? (yA4 c)with
 | none =>
  refine ⟨⟨by simp[h.len],by have:=h.low;simp;omega,fun z hz=>?_⟩,by simp⟩
  rcases List.mem_append.1 hz with hz|hz
  ·exact y5N (h.bnd z hz) (by omega)
  ·rw[List.mem_singleton]at hz;rw[hz];exact y5N hy (by omega)
 | some i =>
  have hi:i < a.length:=(List.findIdx?_eq_some_iff_getElem.1 hf).1;have hi2:i < s.2.length:=Nat.lt_of_lt_of_le hi h.low;refine ⟨⟨by simp[h.len],by simpa using h.low,fun z hz=>?_⟩,by simp⟩
  rcases List.mem_or_eq_of_mem_set hz with hz|hz
  ·exact y5N (h.bnd z hz) (by omega)
  ·rw[hz,List.getElem?_eq_getElem hi2];exact yOb (h.bnd _ (List.getElem_mem hi2)) hy hb
theorem yIW(a b:Tid)(t43:List Con)(b0:Int)(k:Nat)(c:Con)(s:SumS)(m:Int)(y:Gau)(hy:b.2.1[k]?=some y)(h:okS a.1.length m s)(hl:s.2.length+1≤memMax) :
  y5y a b t43 b0 (k:Int) c s.1 s.2=some (.inr (addS a.1 c (z0d y a.2.2.1).1 s)):=by
 have hm:=y5Y;unfold y5y;rw[bifT (yD (show a.1.length < lenMax by have:=h.low;omega))]
 have key:=y4p (β:=(Tid×Int×Unit)⊕SumS) (body:=fun i__ e__ s__=>y76 a b (k:Int) (a.1.length:Int) t43 (t43.length:Int) (k:Int) b0 s.1 s.2 c.1 c.2.1 c.2.2.1 i__ e__) (fin:=fun s__=>y7U a b (k:Int) (a.1.length:Int) t43 (t43.length:Int) (k:Int) b0 s.1 s.2 c.1 c.2.1 c.2.2.1) (yA4 c)
  (fun i=>some (.inr (s.1,s.2.set i (z1C (s.2[i]?.getD (z0d y a.2.2.1).1) (z0d y a.2.2.1).1).1))) a.1 0 (fun i e he=>by
   have hi:i < a.1.length:=(List.getElem?_eq_some_iff.1 he).1;have hi2:i < s.2.length:=Nat.lt_of_lt_of_le hi h.low;unfold y76 yA4;rw[Nat.zero_add];have e1:eqV (Ty.str.pair ((Ty.int IntKind.i64).pair ((Ty.int IntKind.i64).pair Ty.unit))) (c.1,e.2.1,e.2.2.1,()) (c.1,c.2.1,c.2.2.1,())=(e.2.1 == c.2.1 && e.2.2.1 == c.2.2.1):=by
    show ((c.1 == c.1) && ((e.2.1 == c.2.1) && ((e.2.2.1 == c.2.2.1) && true)))=_
    simp
   rw[e1];cases (e.2.1 == c.2.1 && e.2.2.1 == c.2.2.1)with
   | false=>rfl
   | true =>
    rw[y1E,hy,cond_true];simp only[Option.bind_some];rw[bifT (yD (show (i:Int) < (a.1.length:Int) by omega)),y1E,Int.toNat_natCast,List.getElem?_eq_getElem hi2]
    rfl)
 refine (show _=_ from key).trans ?_
 unfold addS;cases a.1.findIdx? (yA4 c)with
 | some i=>simp only[Nat.zero_add]
 | none =>
  simp only;unfold y7U;rw[y1E,hy];simp only[Option.bind_some];rw[bifF (yp (by omega)),bifT (yD (by have:=h.len;omega)),bifT (yD hl)]
theorem yGw(a b:Tid)(b0:Int)(k:Nat)(c:Con)(s:SumS)(m:Int)(y:Gau)(hy:b.2.1[k]?=some y)(h:okS a.1.length m s)(hl:s.2.length+1≤memMax) :
  y9L a b b0 (k:Int) c s.1 s.2=some (.inr (addS a.1 c (z0d y a.2.2.1).1 s)):=by
 have hm:=y5Y;unfold y9L;rw[bifT (yD (show a.1.length < lenMax by have:=h.low;omega))]
 have key:=y4p (β:=(Tid×Int×Unit)⊕SumS) (body:=fun i__ e__ s__=>yC8 a b (k:Int) b0 s.1 s.2 c.1 c.2.1 c.2.2.1 i__ e__) (fin:=fun s__=>yCE a b (k:Int) b0 s.1 s.2 c.1 c.2.1 c.2.2.1) (yA4 c)
  (fun i=>some (.inr (s.1,s.2.set i (z1C (s.2[i]?.getD (z0d y a.2.2.1).1) (z0d y a.2.2.1).1).1))) a.1 0 (fun i e he=>by
   have hi:i < a.1.length:=(List.getElem?_eq_some_iff.1 he).1;have hi2:i < s.2.length:=Nat.lt_of_lt_of_le hi h.low;unfold yC8 yA4;rw[Nat.zero_add];by_cases e1:e.2.1=c.2.1
   ·rw[bifF (by simp[e1]),y1E,he]
    simp only[Option.bind_some];by_cases e2:e.2.2.1=c.2.2.1
    ·rw[bifF (by simp[e2]),e1,e2]
     simp only[beq_self_eq_true,Bool.and_self,if_true];unfold y7N;rw[y1E,hy];simp only[Option.bind_some];rw[bifT (yD (show (i:Int) < (a.1.length:Int) by omega)),y1E,Int.toNat_natCast,List.getElem?_eq_getElem hi2]
     simp only[Option.bind_some,y4K];rfl
    ·rw[bifT (by simp[e2])]
     have:(e.2.2.1 == c.2.2.1)=false:=by simp[e2]
     rw[this,Bool.and_false];rfl
   ·rw[bifT (by simp[e1])]
    have:(e.2.1 == c.2.1)=false:=by simp[e1]
    rw[this,Bool.false_and];rfl)
 refine (show _=_ from key).trans ?_
 unfold addS;cases a.1.findIdx? (yA4 c)with
 | some i=>simp only[Nat.zero_add]
 | none =>
  simp only;unfold yCE y7N;rw[y1E,hy];simp only[Option.bind_some];rw[bifF (yp (by omega)),bifT (yD (by have:=h.len;omega)),bifT (yD hl),y4K]
theorem yAu(a b:Tid)(t43:List Con)(b0:Int)(hb:∀ z∈b.2.1,yv 4194304 z=true)(hd:0≤a.2.2.1∧a.2.2.1≤4096) :
  ∀ (l:List Con) (k:Nat) (m:Int) (s:SumS),k+l.length=b.2.1.length→okS a.1.length m s→0≤m→m+l.length * 17179869184 < 9223372036854775807→s.2.length+l.length≤memMax →
   yQ (fun i__ e__ s__=>y5y a b t43 b0 i__ e__ s__.1 s__.2) (fun s__=>y4m a b t43 b0 s__.1 s__.2) (k:Int) l s=y4m a b t43 b0 (addL a.1 a.2.2.1 l (b.2.1.drop k) s).1 (addL a.1 a.2.2.1 l (b.2.1.drop k) s).2
 | [],k,m,s,hk,_,_,_,_=>by
  have:b.2.1.drop k=[]:=List.drop_eq_nil_of_le (by simp at hk;omega)
  rw[this];rfl
 | c::l,k,m,s,hk,h,hm,hM,hl=>by
  simp only[List.length_cons]at hk hl hM;have hk2:k < b.2.1.length:=by omega
  have hy:b.2.1[k]?=some b.2.1[k]:=List.getElem?_eq_getElem hk2;have hdr:b.2.1.drop k=b.2.1[k]::b.2.1.drop (k+1):=(List.getElem_cons_drop (h:=hk2)).symm;have hz:yv (4096 * 4194304) (z0d b.2.1[k] a.2.2.1).1=true:=y3g (hb _ (List.getElem_mem hk2)) hd.1 hd.2 (by decide) (by decide)
  rw[show (4096 * 4194304:Int)=17179869184 by decide]at hz
  rw[y00,yIW a b t43 b0 k c s m _ hy h (by omega)]
  simp only[Option.bind_some];have hMl:m+17179869184+(l.length:Int) * 17179869184 < 9223372036854775807:=by
   have:((l.length+1:Nat):Int) * 17179869184=(l.length:Int) * 17179869184+17179869184:=by omega
   omega
  have hN:m+17179869184 < 9223372036854775807:=by omega
  obtain ⟨g1,g2⟩:=yDB (c:=c) h hz hN hm (by decide)
  have ih:=yAu a b t43 b0 hb hd l (k+1) (m+17179869184) _ (by omega) g1 (by omega) hMl (by omega)
  rw[hdr];exact ih
theorem y9G(a b:Tid)(b0:Int)(hb:∀ z∈b.2.1,yv 4194304 z=true)(hd:0≤a.2.2.1∧a.2.2.1≤4096) :
  ∀ (l:List Con) (k:Nat) (m:Int) (s:SumS),k+l.length=b.2.1.length→okS a.1.length m s→0≤m→m+l.length * 17179869184 < 9223372036854775807→s.2.length+l.length≤memMax →
   yQ (fun i__ e__ s__=>y9L a b b0 i__ e__ s__.1 s__.2) (fun s__=>y7m a b b0 s__.1 s__.2) (k:Int) l s=y7m a b b0 (addL a.1 a.2.2.1 l (b.2.1.drop k) s).1 (addL a.1 a.2.2.1 l (b.2.1.drop k) s).2
 | [],k,m,s,hk,_,_,_,_=>by
  have:b.2.1.drop k=[]:=List.drop_eq_nil_of_le (by simp at hk;omega)
  rw[this];rfl
 | c::l,k,m,s,hk,h,hm,hM,hl=>by
  simp only[List.length_cons]at hk hl hM;have hk2:k < b.2.1.length:=by omega
  have hy:b.2.1[k]?=some b.2.1[k]:=List.getElem?_eq_getElem hk2;have hdr:b.2.1.drop k=b.2.1[k]::b.2.1.drop (k+1):=(List.getElem_cons_drop (h:=hk2)).symm;have hz:yv (4096 * 4194304) (z0d b.2.1[k] a.2.2.1).1=true:=y3g (hb _ (List.getElem_mem hk2)) hd.1 hd.2 (by decide) (by decide)
  rw[show (4096 * 4194304:Int)=17179869184 by decide]at hz
  rw[y00,yGw a b b0 k c s m _ hy h (by omega)]
  simp only[Option.bind_some];have hMl:m+17179869184+(l.length:Int) * 17179869184 < 9223372036854775807:=by
   have:((l.length+1:Nat):Int) * 17179869184=(l.length:Int) * 17179869184+17179869184:=by omega
   omega
  have hN:m+17179869184 < 9223372036854775807:=by omega
  obtain ⟨g1,g2⟩:=yDB (c:=c) h hz hN hm (by decide)
  have ih:=y9G a b b0 hb hd l (k+1) (m+17179869184) _ (by omega) g1 (by omega) hMl (by omega)
  rw[hdr];exact ih
theorem yHQ(a:List Con){d:Int}(hd:0≤d∧d≤4096):∀ (l:List Con) (v:List Gau) (m:Int) (s:SumS),(∀ z∈v,yv 4194304 z=true)→okS a.length m s→0≤m→m+l.length * 17179869184 < 9223372036854775807 →
  okS a.length (m+l.length * 17179869184) (addL a d l v s)∧(addL a d l v s).2.length≤s.2.length+l.length
 | [],v,m,s,_,h,_,_=>by
  unfold addL;simpa using h
 | c::l,[],m,s,_,h,hm,hM=>by
  unfold addL;exact ⟨⟨h.len,h.low,fun z hz=>y5N (h.bnd z hz) (by omega)⟩,by omega⟩
 | c::l,z::v,m,s,hv,h,hm,hM=>by
  simp only[List.length_cons]at hM;have hz:yv (4096 * 4194304) (z0d z d).1=true:=y3g (hv z (by simp)) hd.1 hd.2 (by decide) (by decide)
  rw[show (4096 * 4194304:Int)=17179869184 by decide]at hz
  have e:((l.length+1:Nat):Int) * 17179869184=17179869184+(l.length:Int) * 17179869184:=by omega
  obtain ⟨g1,g2⟩:=yDB (c:=c) h hz (by omega) hm (by decide)
  obtain ⟨i1,i2⟩:=yHQ a hd l v (m+17179869184) _ (fun z hz=>hv z (by simp[hz])) g1 (by omega) (by omega)
  unfold addL;simp only[List.length_cons];rw[e,← Int.add_assoc];exact ⟨i1,by omega⟩
end Go.Tw
