/- FL: floats that are small multiples of small powers of two: their sums,products,order,conversions are exact.
FM: the values of floats,times 2 to the 3000: operations that are exact. -/
import Derived.Test.YtpcnkpbpcebokaaGreatDoorVB
set_option linter.all false
open Int (natAbs_natCast neg_mul)
open Nat (div_eq_of_lt lt_of_le_of_lt min_eq_left mod_eq_of_lt mul_assoc one_mul pow_add pow_le_pow_right pow_zero shiftLeft_eq two_pow_pos)

section
namespace Go.Vx
open Ieee

/-- A number's value,times 2 to the 3000. -/
def sv(s:Bool)(m:Nat)(e:Int):Int:=signed s m (e+3000).toNat

theorem yDi(s:Bool)(m k j:Nat):signed s m (k+j)=signed s m k * 2 ^ j:=by
 unfold signed;split<;>simp only[shiftLeft_eq,pow_add]<;>push_cast
 ·rw[neg_mul,Int.mul_assoc]
 ·rw[Int.mul_assoc]

theorem yAU{s:Bool}{m:Nat}{e b:Int}(h1:b<=e)(h2:-3000<=b):sv s m e=signed s m (e - b).toNat * 2 ^ (b+3000).toNat:=by
 unfold sv;rw[show (e+3000).toNat=(e - b).toNat+(b+3000).toNat by omega,yDi]

theorem yFO(n:Nat):(0:Int) < 2 ^ n:=Int.pow_pos (by decide)

theorem yEa{a b k:Int}(hk:0 < k):compare (a * k) (b * k)=compare a b:=by
 have h1:a * k < b * k ↔ a < b:=Int.mul_lt_mul_right hk;have h2:b * k < a * k ↔ b < a:=Int.mul_lt_mul_right hk;simp only[compare,compareOfLessAndEq];by_cases h:a < b
 ·rw[if_pos h,if_pos (h1.2 h)]
 ·rw[if_neg h,if_neg (λ q=>h (h1.1 q))]
  by_cases h':a=b
  ·rw[if_pos h',if_pos (by rw[h'])]
  ·rw[if_neg h',if_neg (λ q=>h' (Int.eq_of_mul_eq_mul_right (by omega) q))]

theorem yIy{s t:Bool}{m n:Nat}{i j:Int}(hi:-3000<=i)(hj:-3000<=j):(Datum.number s m i).order (.number t n j)=some (compare (sv s m i) (sv t n j)):=by
 have h1:=yAU (s:=s) (m:=m) (e:=i) (b:=min i j) (by omega) (by omega)
 have h2:=yAU (s:=t) (m:=n) (e:=j) (b:=min i j) (by omega) (by omega)
 rw[h1,h2,yEa (yFO _)];rfl

theorem yCW(t:Int)(s:Bool)(k:Nat):signed (if t=0 then s else decide (t < 0)) t.natAbs k=t * 2 ^ k:=by
 unfold signed;by_cases h0:t=0
 ·subst h0;simp
 ·rw[if_neg h0];by_cases h:t < 0
  ·rw[if_pos (by simpa using h),shiftLeft_eq]
   push_cast
   rw[show (t.natAbs:Int)=-t by omega,neg_mul,Int.neg_neg]
  ·rw[if_neg (by simpa using h),shiftLeft_eq]
   push_cast
   rw[show (t.natAbs:Int)=t by omega]

theorem yQG{s t:Bool}{m n:Nat}{i j:Int}(hi:-3000<=i)(hj:-3000<=j):∃ u k e,(Datum.number s m i).sum (.number t n j)=some (.number u k e)/\e=min i j/\sv u k e=sv s m i+sv t n j:=by
 refine ⟨_,_,_,rfl,rfl,?_⟩;have h1:=yAU (s:=s) (m:=m) (e:=i) (b:=min i j) (by omega) (by omega)
 have h2:=yAU (s:=t) (m:=n) (e:=j) (b:=min i j) (by omega) (by omega)
 rw[h1,h2,<- Int.add_mul];exact yCW _ _ _

theorem yMO{s t:Bool}{m n:Nat}{i j:Int}(hi:-1500<=i)(hj:-1500<=j):∃ u k e,(Datum.number s m i).product (.number t n j)=some (.number u k e)/\u=(s ^^ t)/\k=m * n/\e=i+j/\sv u k e * 2 ^ 3000=sv s m i * sv t n j:=by
 refine ⟨_,_,_,rfl,rfl,rfl,rfl,?_⟩;unfold sv signed;simp only[shiftLeft_eq];have e1:(i+j+3000).toNat+3000=(i+3000).toNat+(j+3000).toNat:=by omega
 have key:((m * n * 2 ^ (i+j+3000).toNat:Nat):Int) * 2 ^ 3000=((m * 2 ^ (i+3000).toNat:Nat):Int) * ((n * 2 ^ (j+3000).toNat:Nat):Int):=by
  generalize (i+3000).toNat=a at e1 ⊢;generalize (j+3000).toNat=b at e1 ⊢;generalize (i+j+3000).toNat=c at e1 ⊢;generalize 3000=z at e1 ⊢;have:m * n * 2 ^ c * 2 ^ z=(m * 2 ^ a) * (n * 2 ^ b):=by
   rw[mul_assoc (m * n),<- pow_add,e1,pow_add];ac_rfl
  have h2:=congrArg (λ q:Nat=>(q:Int)) this
  simp only[Int.natCast_mul,Int.natCast_pow]at h2 ⊢;exact h2
 cases s<;>cases t<;>simp only[Bool.xor_false,Bool.xor_true,Bool.not_false,Bool.not_true,Bool.false_eq_true,if_false,if_true,Bool.xor_self,Bool.false_xor,Bool.true_xor]
 ·exact key
 ·rw[neg_mul,key,Int.mul_neg]
 ·rw[neg_mul,key,neg_mul]
 ·rw[key,Int.neg_mul_neg]

theorem yCR(s:Bool){n d:Nat}(h:2 ^ d ∣ n)(h0:0 < n):Toward.even.cut s n d=n / 2 ^ d:=by
 have hd:d<=n.log2:=by
  have:=Nat.le_of_dvd h0 h;exact (Nat.le_log2 (by omega)).2 this
 unfold Toward.cut;rw[min_eq_left (by omega)]
 simp only[shiftLeft_eq,one_mul];rw[Nat.mod_eq_zero_of_dvd h];have:(0:Nat) < 2 ^ d:=two_pow_pos d;simp[show ¬ (2 ^ d < 2 * 0) by omega]

/-- A number that the format has is written as it is. -/
theorem yAv(f:Format)(s:Bool){m k:Nat}{e q:Int}(hm:0 < m)(hk:k < 2 ^ (f.fractionBits+1))(hq:f.leastPlace<=q)(hv:m * 2 ^ (e+3000).toNat=k * 2 ^ (q+3000).toNat)(he:-3000<=e)(hl:-3000<=f.leastPlace)
  (hmax:e+m.log2 - f.fractionBits - f.leastPlace+2 < 2 ^ f.exponentBits) (hfe:3 < 2 ^ f.exponentBits) :
  ∃ m' e',f.read (f.nearest s m e)=.number s m' e'/\f.leastPlace<=e'/\m' * 2 ^ (e'+3000).toNat=m * 2 ^ (e+3000).toNat:=by
 generalize hlast:max (e+m.log2 - f.fractionBits) f.leastPlace=last;have hlog1:2 ^ m.log2<=m:=Nat.log2_self_le (by omega)
 have hlog2:m < 2 ^ (m.log2+1):=Nat.lt_log2_self
 -- what is kept is exact
 obtain ⟨kept,hkept,hkv⟩:∃ kept,Toward.even.cut s (m <<< (e - last).toNat) (last - e).toNat=kept/\kept * 2 ^ (last+3000).toNat=m * 2 ^ (e+3000).toNat:=by
  refine ⟨_,rfl,?_⟩;rcases Int.le_total last e with h|h
  ·rw[show (last - e).toNat=0 by omega,yCR s (by simp) (by rw[shiftLeft_eq];exact Nat.mul_pos hm (two_pow_pos _))]
   rw[pow_zero,Nat.div_one,shiftLeft_eq,mul_assoc,<- pow_add];congr 2
   omega
  ·rw[show (e - last).toNat=0 by omega,Nat.shiftLeft_zero]
   have hdvd:2 ^ (last - e).toNat ∣ m:=by
    rcases Int.le_total last q with h1|h1
    ·have:m=k * 2 ^ (q - e).toNat:=by
      have h2:(q+3000).toNat=(q - e).toNat+(e+3000).toNat:=by omega
      rw[h2,pow_add,<- mul_assoc]at hv;exact Nat.eq_of_mul_eq_mul_right (two_pow_pos _) hv
     rw[this];exact Nat.dvd_trans (Nat.pow_dvd_pow 2 (by omega)) (Nat.dvd_mul_left _ _)
    ·rcases Int.lt_or_eq_of_le h1 with h1|h1
     ·exfalso
      have h3:last=e+m.log2 - f.fractionBits:=by omega
      have h4:2 ^ (f.fractionBits+1) * 2 ^ (q+3000).toNat<=2 ^ m.log2 * 2 ^ (e+3000).toNat:=by
       rw[<- pow_add,<- pow_add];exact pow_le_pow_right (by decide) (by omega)
      have h5:2 ^ m.log2 * 2 ^ (e+3000).toNat<=m * 2 ^ (e+3000).toNat:=Nat.mul_le_mul_right _ hlog1;have h6:k * 2 ^ (q+3000).toNat < 2 ^ (f.fractionBits+1) * 2 ^ (q+3000).toNat:=Nat.mul_lt_mul_of_pos_right hk (two_pow_pos _);omega
     ·have:m=k * 2 ^ (q - e).toNat:=by
       have h2:(q+3000).toNat=(q - e).toNat+(e+3000).toNat:=by omega
       rw[h2,pow_add,<- mul_assoc]at hv;exact Nat.eq_of_mul_eq_mul_right (two_pow_pos _) hv
      rw[this];exact Nat.dvd_trans (Nat.pow_dvd_pow 2 (by omega)) (Nat.dvd_mul_left _ _)
   rw[yCR s hdvd hm];obtain ⟨c,hc⟩:=hdvd;rw[hc,Nat.mul_div_cancel_left _ (two_pow_pos _),Nat.mul_comm (2 ^ _) c,mul_assoc,<- pow_add];congr 2
   omega
 have hpos:0 < kept:=by
  rcases Nat.eq_zero_or_pos kept with h|h
  ·rw[h,Nat.zero_mul]at hkv;have:=Nat.mul_pos hm (two_pow_pos (e+3000).toNat);omega
  ·exact h
 have hlt:kept < 2 * f.binade:=by
  unfold Format.binade;have h1:kept * 2 ^ (last+3000).toNat < 2 ^ (m.log2+1) * 2 ^ (e+3000).toNat:=by
   rw[hkv];exact Nat.mul_lt_mul_of_pos_right hlog2 (two_pow_pos _)
  have h2:2 ^ (m.log2+1) * 2 ^ (e+3000).toNat<=2 ^ (f.fractionBits+1) * 2 ^ (last+3000).toNat:=by
   rw[<- pow_add,<- pow_add];exact pow_le_pow_right (by decide) (by omega)
  have h3:kept < 2 ^ (f.fractionBits+1):=Nat.lt_of_mul_lt_mul_right (Nat.lt_of_lt_of_le h1 h2);rw[Nat.pow_succ]at h3;omega
 have hge:f.leastPlace < last->f.binade<=kept:=λ h=>by
  unfold Format.binade;have h3:last=e+m.log2 - f.fractionBits:=by omega
  have h1:2 ^ f.fractionBits * 2 ^ (last+3000).toNat<=kept * 2 ^ (last+3000).toNat:=by
   rw[hkv,<- pow_add];refine Nat.le_trans (pow_le_pow_right (by decide) (?_:_<=m.log2+(e+3000).toNat)) ?_
   ·omega
   ·rw[pow_add];exact Nat.mul_le_mul_right _ hlog1
  exact Nat.le_of_mul_le_mul_right h1 (two_pow_pos _)
 have hb0:0 < f.binade:=two_pow_pos _;have hle:f.leastPlace<=last:=by omega
 have hEn:∃ E:Nat,2 ^ f.exponentBits=E+1/\((2:Int) ^ f.exponentBits=(E:Int)+1):=by
  have:=two_pow_pos f.exponentBits;refine ⟨2 ^ f.exponentBits - 1,by omega,?_⟩
  have h1:(((2:Nat) ^ f.exponentBits:Nat):Int)=(2:Int) ^ f.exponentBits:=by push_cast;rfl
  omega
 obtain ⟨E,hE,hEi⟩:=hEn;have hrung:(last - f.leastPlace).toNat * f.binade+kept < f.infRung:=by
  unfold Format.infRung;have h1:(last - f.leastPlace).toNat+2<=2 ^ f.exponentBits - 1:=by
   rw[hEi]at hmax;omega
  have h2:=Nat.mul_le_mul_right f.binade h1;rw[Nat.add_mul]at h2;omega
 generalize hr:(last - f.leastPlace).toNat * f.binade+kept=rung at hrung;have hsl:rung < f.signWeight:=Nat.lt_trans hrung f.infRung_lt;have hn:f.nearest s m e=f.word s rung:=by
  unfold Format.nearest;rw[if_neg (by omega)]
  dsimp only;rw[hlast,hkept,hr,min_eq_left (by omega)]
 have hmod:f.word s rung % f.signWeight=rung:=by
  unfold Format.word;split
  ·rw[Nat.add_mod_left,mod_eq_of_lt hsl]
  ·exact mod_eq_of_lt hsl
 have hneg:(f.word s rung / f.signWeight % 2 == 1)=s:=by
  unfold Format.word;have hsw:0 < f.signWeight:=by omega
  cases s with
  |true=>rw[if_pos rfl,Nat.add_div_left _ hsw,div_eq_of_lt hsl];rfl
  |false=>rw[if_neg (by simp),div_eq_of_lt hsl];rfl
 rw[hn];unfold Format.read;simp only[hmod,hneg];rcases Int.lt_or_eq_of_le hle with hlt2|hlt2
 ·have hk2:=hge hlt2;have hd:rung / f.binade=(last - f.leastPlace).toNat+1:=by
   rw[<- hr,Nat.add_comm,Nat.add_mul_div_right _ _ hb0,Nat.div_eq_of_lt_le (k:=1) (by omega) (by omega)]
   omega
  have hmm:rung % f.binade=kept - f.binade:=by
   rw[<- hr,Nat.add_comm,Nat.add_mul_mod_self_right];rw[Nat.mod_eq_sub_mod hk2,mod_eq_of_lt (by omega)]
  rw[if_neg (by
   intro h;rw[div_eq_of_lt h]at hd;omega),if_pos hrung]
  refine ⟨_,_,rfl,by omega,?_⟩
  rw[hmm,hd,show f.binade+(kept - f.binade)=kept by omega,Nat.add_sub_cancel,show f.leastPlace+(((last - f.leastPlace).toNat:Nat):Int)=last by omega]
  exact hkv
 ·have h0:rung=kept:=by rw[<- hr,<- hlt2];simp
  by_cases hb:kept < f.binade
  ·rw[if_pos (by omega)]
   exact ⟨_,_,rfl,Int.le_refl _,by rw[h0,hlt2];exact hkv⟩
  ·rw[if_neg (by omega),if_pos hrung]
   refine ⟨_,_,rfl,by omega,?_⟩
   have h1:rung / f.binade=1:=Nat.div_eq_of_lt_le (by omega) (by omega)
   have h2:rung % f.binade=kept - f.binade:=by
    rw[h0,Nat.mod_eq_sub_mod (by omega),mod_eq_of_lt (by omega)]
   rw[h1,h2,show f.binade+(kept - f.binade)=kept by omega]
   simp only[Nat.sub_self,Int.natCast_zero,Int.add_zero];rw[hlt2];exact hkv
end Go.Vx
end

section
set_option exponentiation.threshold 4000
namespace Go.Vx
open Ieee

/-- One;a sixteenth. -/
def U:Int:=2 ^ 3000
def P16:Int:=2 ^ 2996
theorem yUp:0 < U:=yFO 3000
theorem ySC:0 < P16:=yFO 2996
theorem U_P:U=16 * P16:=by
 unfold U P16;rw[show (3000:Nat)=4+2996 by rfl,Int.pow_add]
 rfl

def Num(f:Format)(x:Nat)(V:Int):Prop:=∃ s m e,f.read x=.number s m e/\-1100<=e/\sv s m e=V

theorem y8z(s:Bool)(m:Nat)(e:Int):(sv s m e).natAbs=m * 2 ^ (e+3000).toNat:=by
 unfold sv signed;rw[shiftLeft_eq];split
 ·rw[Int.natAbs_neg,natAbs_natCast]
 ·rw[natAbs_natCast]

theorem yF4{s:Bool}{m n:Nat}{e j:Int}(h:m * 2 ^ (e+3000).toNat=n * 2 ^ (j+3000).toNat):sv s m e=sv s n j:=by
 unfold sv signed;rw[shiftLeft_eq,shiftLeft_eq,h]

theorem yRC(s:Bool)(m:Nat)(e:Int):sv (!s) m e=- sv s m e:=by
 unfold sv signed;cases s<;>simp

/-- A value that a format writes as it is. -/
structure Has (f:Format) (V:Int):Prop where
 fits:∃ c q,V.natAbs=c * 2 ^ (q+3000).toNat/\c < 2 ^ (f.fractionBits+1)/\f.leastPlace<=q
 low:V.natAbs < 2 ^ 3128

theorem yRq(k:FloatKind):-1100<=k.format.leastPlace/\(127:Int) - k.format.fractionBits - k.format.leastPlace+2 < 2 ^ k.format.exponentBits/\(3:Int) < 2 ^ k.format.exponentBits:=by
 cases k<;>decide

theorem yPd(k:FloatKind):3 < 2 ^ k.format.exponentBits:=by cases k<;>decide

theorem y41(k:FloatKind){s:Bool}{m:Nat}{e V:Int}(hV:sv s m e=V)(he:-3000<=e)(h:Has k.format V):Num k.format (k.format.write (.number s m e)) V:=by
 obtain ⟨h1,h2,h3⟩:=yRq k;obtain ⟨c,q,hc,hc2,hq⟩:=h.fits;have ha:=y8z s m e;rw[hV]at ha;show Num k.format (k.format.nearest s m e) V
 rcases Nat.eq_zero_or_pos m with hm|hm
 ·subst hm;have hn:k.format.nearest s 0 e=k.format.word s 0:=by unfold Format.nearest;rw[if_pos rfl]
  have hr:k.format.read (k.format.word s 0)=.number s 0 k.format.leastPlace:=by cases k<;>cases s<;>decide
  rw[hn];refine ⟨s,0,_,hr,h1,?_⟩;have hV0:V=0:=by
   rw[Nat.zero_mul]at ha;exact Int.natAbs_eq_zero.1 ha
  rw[hV0];unfold sv signed;cases s<;>simp
 ·have hlog:m.log2+(e+3000).toNat < 3128:=by
   have h5:2 ^ m.log2<=m:=Nat.log2_self_le (by omega)
   have h6:2 ^ (m.log2+(e+3000).toNat)<=m * 2 ^ (e+3000).toNat:=by
    rw[pow_add];exact Nat.mul_le_mul_right _ h5
   have h7:=lt_of_le_of_lt h6 (ha ▸ h.low);exact (Nat.pow_lt_pow_iff_right (by decide)).1 h7
  obtain ⟨m',e',r1,r2,r3⟩:=yAv k.format s (m:=m) (k:=c) (e:=e) (q:=q) hm hc2 hq (by rw[<- ha,hc]) he (by omega) (by omega) (yPd k)
  exact ⟨s,m',e',r1,by omega,(yF4 r3).trans hV⟩

/-! ### Order -/
section
variable {k:FloatKind} {x y:Nat} {V W:Int}
theorem yBl(hx:Num k.format x V)(hy:Num k.format y W):k.format.order x y=some (compare V W):=by
 obtain ⟨s,m,e,h1,h2,h3⟩:=hx;obtain ⟨t,n,j,g1,g2,g3⟩:=hy;unfold Format.order;rw[h1,g1,yIy (by omega) (by omega),h3,g3]

theorem yLw(hx:Num k.format x V)(hy:Num k.format y W):yT .eql k x y=decide (V=W):=by
 unfold yT;rw[yBl hx hy];simp only[compare,compareOfLessAndEq];split
 ·rw[show decide (V=W)=false from decide_eq_false (by omega)];rfl
 ·split
  ·rename_i h;rw[show decide (V=W)=true from decide_eq_true h];rfl
  ·rename_i h;rw[show decide (V=W)=false from decide_eq_false h];rfl
theorem yAT(hx:Num k.format x V)(hy:Num k.format y W):yT .neq k x y=!decide (V=W):=by
 rw[<- yLw hx hy];rfl
theorem yAQ(hx:Num k.format x V)(hy:Num k.format y W):yT .lss k x y=decide (V < W):=by
 unfold yT;rw[yBl hx hy];simp only[compare,compareOfLessAndEq];split
 ·rename_i h;rw[show decide (V < W)=true from decide_eq_true h];rfl
 ·rename_i h;rw[show decide (V < W)=false from decide_eq_false h]
  split<;>rfl
theorem y8X(hx:Num k.format x V)(hy:Num k.format y W):yT .gtr k x y=decide (V > W):=by
 unfold yT;rw[yBl hx hy];simp only[compare,compareOfLessAndEq];split
 ·rw[show decide (V > W)=false from decide_eq_false (by omega)];rfl
 ·split
  ·rw[show decide (V > W)=false from decide_eq_false (by omega)];rfl
  ·rw[show decide (V > W)=true from decide_eq_true (by omega)];rfl

/-! ### Products,differences -/
theorem yFp{Z:Int}(hx:Num k.format x V)(hy:Num k.format y W)(hz:Z * U=V * W)(h:Has k.format Z):Num k.format (yu .mul k x y) Z:=by
 obtain ⟨s,m,e,h1,h2,h3⟩:=hx;obtain ⟨t,n,j,g1,g2,g3⟩:=hy;obtain ⟨u,c,i,q1,q2,q3,q4,q5⟩:=yMO (s:=s) (t:=t) (m:=m) (n:=n) (i:=e) (j:=j) (by omega) (by omega)
 have hb:floatBits .mul k x y=some (k.format.write (.number u c i)):=by
  show k.format.mul x y=_
  unfold Format.mul;rw[h1,g1,q1];rfl
 unfold yu;rw[hb];refine y41 k ?_ (by omega) h
 rw[h3,g3,<- hz]at q5;exact Int.eq_of_mul_eq_mul_right (by have:=yUp;unfold U at this;omega) q5

theorem yO7(hx:Num k.format x V)(hy:Num k.format y W)(h:Has k.format (V - W)):Num k.format (yu .sub k x y) (V - W):=by
 obtain ⟨s,m,e,h1,h2,h3⟩:=hx;obtain ⟨t,n,j,g1,g2,g3⟩:=hy;obtain ⟨u,c,i,q1,q2,q3⟩:=yQG (s:=s) (t:=!t) (m:=m) (n:=n) (i:=e) (j:=j) (by omega) (by omega)
 have hb:floatBits .sub k x y=some (k.format.write (.number u c i)):=by
  show k.format.sub x y=_
  unfold Format.sub;rw[h1,g1];show Option.map _ (Datum.sum _ (.number (!t) n j))=_
  rw[q1];rfl
 unfold yu;rw[hb];refine y41 k ?_ (by omega) h
 rw[q3,yRC,h3,g3];omega

/-! ### Integers -/
theorem yMy(s:Bool)(n d:Nat):Toward.zero.cut s n d=n / 2 ^ d:=by
 unfold Toward.cut;simp only[shiftLeft_eq,one_mul,Bool.toNat_false,Nat.add_zero];rcases Nat.le_total d (n.log2+2)with h|h
 ·rw[min_eq_left h]
 ·rw[Nat.min_eq_right h];have h1:n < 2 ^ (n.log2+1):=Nat.lt_log2_self;have h2:2 ^ (n.log2+1)<=2 ^ (n.log2+2):=pow_le_pow_right (by decide) (by omega)
  have h3:2 ^ (n.log2+2)<=2 ^ d:=pow_le_pow_right (by decide) h
  rw[div_eq_of_lt (by omega),div_eq_of_lt (by omega)]

theorem yMB(s:Bool)(n d:Nat):Toward.down.cut s n d=n / 2 ^ d+(s && n % 2 ^ d != 0).toNat:=by
 unfold Toward.cut;simp only[shiftLeft_eq,one_mul];rcases Nat.le_total d (n.log2+2)with h|h
 ·rw[min_eq_left h]
 ·rw[Nat.min_eq_right h];have h1:n < 2 ^ (n.log2+1):=Nat.lt_log2_self;have h2:2 ^ (n.log2+1)<=2 ^ (n.log2+2):=pow_le_pow_right (by decide) (by omega)
  have h3:2 ^ (n.log2+2)<=2 ^ d:=pow_le_pow_right (by decide) h
  rw[div_eq_of_lt (by omega),div_eq_of_lt (by omega),mod_eq_of_lt (by omega),mod_eq_of_lt (by omega)]

/-- A number's whole part,by its value. -/
theorem yCs(m:Nat){e:Int}(he:-3000<=e):m * 2 ^ e.toNat / 2 ^ (-e).toNat=m * 2 ^ (e+3000).toNat / 2 ^ 3000/\(m * 2 ^ e.toNat % 2 ^ (-e).toNat=0 ↔ m * 2 ^ (e+3000).toNat % 2 ^ 3000=0):=by
 rcases Int.le_total 0 e with h|h
 ·rw[show (-e).toNat=0 by omega,show (e+3000).toNat=e.toNat+3000 by omega,pow_add,<- mul_assoc,Nat.mul_div_cancel _ (two_pow_pos _),pow_zero,Nat.div_one,Nat.mod_one,Nat.mul_mod_left]
  exact ⟨rfl,Iff.rfl⟩
 ·have h2:(3000:Nat)=(-e).toNat+(e+3000).toNat:=by omega
  have h3:(2:Nat) ^ 3000=2 ^ (-e).toNat * 2 ^ (e+3000).toNat:=by rw[<- pow_add,<- h2]
  rw[show e.toNat=0 by omega,pow_zero,Nat.mul_one,h3,Nat.mul_div_mul_right _ _ (two_pow_pos _),Nat.mul_mod_mul_right]
  refine ⟨rfl,λ h=>by rw[h,Nat.zero_mul],λ h=>?_⟩
  have:=two_pow_pos (e+3000).toNat;rcases Nat.mul_eq_zero.1 h with h|h
  ·exact h
  ·omega

theorem yE4:U=((2 ^ 3000:Nat):Int):=(Int.natCast_pow 2 3000).symm
theorem yRm:P16=((2 ^ 2996:Nat):Int):=(Int.natCast_pow 2 2996).symm

theorem yFU(hx:Num k.format x V)(hb:V.natAbs<=1000000 * 2 ^ 3000):yk k x .i64=some (V.tdiv U):=by
 obtain ⟨s,m,e,h1,h2,h3⟩:=hx;have ha:=y8z s m e;have hd:(k.format.read x).toInt .zero=some (V.tdiv U):=by
  rw[h1];show some (signed s (Toward.zero.cut s (m <<< e.toNat) (-e).toNat) 0)=_
  rw[yMy,shiftLeft_eq,(yCs m (by omega)).1,<- h3]
  unfold sv signed;rw[shiftLeft_eq,shiftLeft_eq,pow_zero,Nat.mul_one,yE4];cases s
  ·simp only[Bool.false_eq_true,if_false];rw[<- Int.ofNat_tdiv]
  ·simp only[if_true];rw[Int.neg_tdiv,<- Int.ofNat_tdiv]
 have hr:(V.tdiv U).natAbs<=1000000:=by
  rw[Int.natAbs_tdiv,yE4,natAbs_natCast];exact Nat.div_le_of_le_mul (by rw[Nat.mul_comm];exact hb)
 show floatToIntVal k x .i64=_
 unfold floatToIntVal;show (match (k.format.read x).toInt .zero with|some n=>_|none=>_)=_
 rw[hd];have h4:IntKind.i64.min=-9223372036854775808:=by decide
 have h5:IntKind.i64.max=9223372036854775807:=by decide
 simp only[h4,h5];rw[if_pos (by omega)]

theorem y7u(k:FloatKind){n:Int}(h:n.natAbs<=16000000):Has k.format (n * U):=by
 have e:(n * U).natAbs=n.natAbs * 2 ^ ((0:Int)+3000).toNat:=by
  rw[Int.natAbs_mul,yE4,natAbs_natCast];rfl
 refine ⟨⟨n.natAbs,0,e,?_,?_⟩,?_⟩
 ·refine lt_of_le_of_lt h ?_
  cases k<;>decide
 ·cases k<;>decide
 ·rw[e,show ((0:Int)+3000).toNat=3000 by rfl]
  have h2:n.natAbs < 2 ^ 128:=lt_of_le_of_lt h (by decide)
  rw[show (3128:Nat)=128+3000 by rfl,pow_add]
  exact Nat.mul_lt_mul_of_pos_right h2 (two_pow_pos _)

theorem yEy(k:FloatKind){n:Int}(h:n.natAbs<=16000000):Has k.format (n * P16):=by
 have hP:=yRm;have e:(n * P16).natAbs=n.natAbs * 2 ^ ((-4:Int)+3000).toNat:=by
  rw[Int.natAbs_mul,hP,natAbs_natCast];rfl
 refine ⟨⟨n.natAbs,-4,e,?_,?_⟩,?_⟩
 ·refine lt_of_le_of_lt h ?_
  cases k<;>decide
 ·cases k<;>decide
 ·rw[e,show ((-4:Int)+3000).toNat=2996 by rfl]
  have h2:n.natAbs < 2 ^ 100:=lt_of_le_of_lt h (by decide)
  refine Nat.lt_of_lt_of_le (Nat.mul_lt_mul_of_pos_right h2 (two_pow_pos _)) ?_
  rw[<- pow_add];exact pow_le_pow_right (by decide) (by decide)

theorem yNd(k:FloatKind){n:Int}(h:n.natAbs<=16000000):Num k.format (y0v k n) (n * U):=by
 show Num k.format (k.format.write (.number (n < 0) n.natAbs 0)) _
 refine y41 k ?_ (by decide) (y7u k h)
 have:=yCW n false 3000;by_cases h0:n=0
 ·subst h0;unfold sv signed;simp
 ·rw[if_neg h0]at this;exact this

end

/-! ### float32 -/
theorem yJV(x:Nat):(∃ s m e,FloatKind.f32.format.read x=.number s m e/\m < 16777216/\-149<=e/\e<=104)\/(∃ s,FloatKind.f32.format.read x=.infinity s)\/(∃ s t,FloatKind.f32.format.read x=.nan s t):=by
 unfold Format.read;have hb:FloatKind.f32.format.binade=8388608:=by decide
 have hi:FloatKind.f32.format.infRung=2139095040:=by decide
 have hl:FloatKind.f32.format.leastPlace=-149:=by decide
 simp only[hb,hi,hl];generalize x % FloatKind.f32.format.signWeight=r;split
 ·exact .inl ⟨_,_,_,rfl,by omega,by omega,by omega⟩
 ·split
  ·exact .inl ⟨_,_,_,rfl,by omega,by omega,by omega⟩
  ·split
   ·exact .inr (.inl ⟨_,rfl⟩)
   ·exact .inr (.inr ⟨_,_,rfl⟩)

end Go.Vx
end
