/- FL: floats that are small multiples of small powers of two: their sums,products,order,conversions are exact. -/
import Derived.Test.YtlaebedgpkiodaaGreatDoorVB
set_option linter.all false
open Int (neg_mul)
open Nat (mul_assoc pow_add shiftLeft_eq two_pow_pos)

namespace Go.Vx
open Ieee

/-- A number's value,times 2 to the 3000. -/
def sv(s:Bool)(m:Nat)(e:Int):Int:=signed s m (e+3000).toNat

theorem y6t(s:Bool)(m k j:Nat):signed s m (k+j)=signed s m k * 2 ^ j:=by
 unfold signed;split<;>simp only[shiftLeft_eq,pow_add]<;>push_cast
 ·rw[neg_mul,Int.mul_assoc]
 ·rw[Int.mul_assoc]

theorem yB7{s:Bool}{m:Nat}{e b:Int}(h1:b<=e)(h2:-3000<=b):sv s m e=signed s m (e - b).toNat * 2 ^ (b+3000).toNat:=by
 unfold sv;rw[show (e+3000).toNat=(e - b).toNat+(b+3000).toNat by omega,y6t]

theorem yFE(n:Nat):(0:Int) < 2 ^ n:=Int.pow_pos (by decide)

theorem yF6{a b k:Int}(hk:0 < k):compare (a * k) (b * k)=compare a b:=by
 have h1:a * k < b * k ↔ a < b:=Int.mul_lt_mul_right hk;have h2:b * k < a * k ↔ b < a:=Int.mul_lt_mul_right hk;simp only[compare,compareOfLessAndEq];by_cases h:a < b
 ·rw[if_pos h,if_pos (h1.2 h)]
 ·rw[if_neg h,if_neg (λ q=>h (h1.1 q))]
  by_cases h':a=b
  ·rw[if_pos h',if_pos (by rw[h'])]
  ·rw[if_neg h',if_neg (λ q=>h' (Int.eq_of_mul_eq_mul_right (by omega) q))]

theorem yMD{s t:Bool}{m n:Nat}{i j:Int}(hi:-3000<=i)(hj:-3000<=j):(Datum.number s m i).order (.number t n j)=some (compare (sv s m i) (sv t n j)):=by
 have h1:=yB7 (s:=s) (m:=m) (e:=i) (b:=min i j) (by omega) (by omega)
 have h2:=yB7 (s:=t) (m:=n) (e:=j) (b:=min i j) (by omega) (by omega)
 rw[h1,h2,yF6 (yFE _)];rfl

theorem yDt(t:Int)(s:Bool)(k:Nat):signed (if t=0 then s else decide (t < 0)) t.natAbs k=t * 2 ^ k:=by
 unfold signed;by_cases h0:t=0
 ·subst h0;simp
 ·rw[if_neg h0];by_cases h:t < 0
  ·rw[if_pos (by simpa using h),shiftLeft_eq]
   push_cast
   rw[show (t.natAbs:Int)=-t by omega,neg_mul,Int.neg_neg]
  ·rw[if_neg (by simpa using h),shiftLeft_eq]
   push_cast
   rw[show (t.natAbs:Int)=t by omega]

theorem yQV{s t:Bool}{m n:Nat}{i j:Int}(hi:-3000<=i)(hj:-3000<=j):∃ u k e,(Datum.number s m i).sum (.number t n j)=some (.number u k e)/\e=min i j/\sv u k e=sv s m i+sv t n j:=by
 refine ⟨_,_,_,rfl,rfl,?_⟩;have h1:=yB7 (s:=s) (m:=m) (e:=i) (b:=min i j) (by omega) (by omega)
 have h2:=yB7 (s:=t) (m:=n) (e:=j) (b:=min i j) (by omega) (by omega)
 rw[h1,h2,<- Int.add_mul];exact yDt _ _ _

theorem yMH{s t:Bool}{m n:Nat}{i j:Int}(hi:-1500<=i)(hj:-1500<=j):∃ u k e,(Datum.number s m i).product (.number t n j)=some (.number u k e)/\u=(s ^^ t)/\k=m * n/\e=i+j/\sv u k e * 2 ^ 3000=sv s m i * sv t n j:=by
 refine ⟨_,_,_,rfl,rfl,rfl,rfl,?_⟩;unfold sv signed;simp only[shiftLeft_eq];have e1:(i+j+3000).toNat+3000=(i+3000).toNat+(j+3000).toNat:=by omega
 have key:((m * n * 2 ^ (i+j+3000).toNat:Nat):Int) * 2 ^ 3000=((m * 2 ^ (i+3000).toNat:Nat):Int) * ((n * 2 ^ (j+3000).toNat:Nat):Int):=by
  generalize (i+3000).toNat=a at e1 ⊢;generalize (j+3000).toNat=b at e1 ⊢;generalize (i+j+3000).toNat=c at e1 ⊢;generalize 3000=z at e1 ⊢;have:m * n * 2 ^ c * 2 ^ z=(m * 2 ^ a) * (n * 2 ^ b):=by
   rw[mul_assoc (m * n),<- pow_add,e1,pow_add];ac_rfl
  have h2:=congrArg (λ q:Nat=>(q:Int)) this
  simp only[Int.natCast_mul,Int.natCast_pow]at h2 ⊢;exact h2
 cases s<;>cases t<;>simp only[Bool.xor_false,Bool.xor_true,Bool.not_false,Bool.not_true,Bool.false_eq_true,if_false,if_true,Bool.xor_self,Bool.false_xor,Bool.true_xor]
 ·exact key
 ·rw[neg_mul,key,Int.mul_neg]
 ·rw[neg_mul,key,neg_mul]
 ·rw[key,Int.neg_mul_neg]

theorem yCO(s:Bool){n d:Nat}(h:2 ^ d ∣ n)(h0:0 < n):Toward.even.cut s n d=n / 2 ^ d:=by
 have hd:d<=n.log2:=by
  have:=Nat.le_of_dvd h0 h;exact (Nat.le_log2 (by omega)).2 this
 unfold Toward.cut;rw[Nat.min_eq_left (by omega)]
 simp only[shiftLeft_eq,Nat.one_mul];rw[Nat.mod_eq_zero_of_dvd h];have:(0:Nat) < 2 ^ d:=two_pow_pos d;simp[show ¬ (2 ^ d < 2 * 0) by omega]

/-- A number that the format has is written as it is. -/
theorem yBz(f:Format)(s:Bool){m k:Nat}{e q:Int}(hm:0 < m)(hk:k < 2 ^ (f.fractionBits+1))(hq:f.leastPlace<=q)(hv:m * 2 ^ (e+3000).toNat=k * 2 ^ (q+3000).toNat)(he:-3000<=e)(hl:-3000<=f.leastPlace)
  (hmax:e+m.log2 - f.fractionBits - f.leastPlace+2 < 2 ^ f.exponentBits) (hfe:3 < 2 ^ f.exponentBits) :
  ∃ m' e',f.read (f.nearest s m e)=.number s m' e'/\f.leastPlace<=e'/\m' * 2 ^ (e'+3000).toNat=m * 2 ^ (e+3000).toNat:=by
 generalize hlast:max (e+m.log2 - f.fractionBits) f.leastPlace=last;have hlog1:2 ^ m.log2<=m:=Nat.log2_self_le (by omega)
 have hlog2:m < 2 ^ (m.log2+1):=Nat.lt_log2_self
 -- what is kept is exact
 obtain ⟨kept,hkept,hkv⟩:∃ kept,Toward.even.cut s (m <<< (e - last).toNat) (last - e).toNat=kept/\kept * 2 ^ (last+3000).toNat=m * 2 ^ (e+3000).toNat:=by
  refine ⟨_,rfl,?_⟩;rcases Int.le_total last e with h|h
  ·rw[show (last - e).toNat=0 by omega,yCO s (by simp) (by rw[shiftLeft_eq];exact Nat.mul_pos hm (two_pow_pos _))]
   rw[Nat.pow_zero,Nat.div_one,shiftLeft_eq,mul_assoc,<- pow_add];congr 2
   omega
  ·rw[show (e - last).toNat=0 by omega,Nat.shiftLeft_zero]
   have hdvd:2 ^ (last - e).toNat ∣ m:=by
    rcases Int.le_total last q with h1|h1
    ·have:m=k * 2 ^ (q - e).toNat:=by
      have h2:(q+3000).toNat=(q - e).toNat+(e+3000).toNat:=by omega
      rw[h2,pow_add,<- mul_assoc]at hv;exact Nat.eq_of_mul_eq_mul_right (two_pow_pos _) hv
     rw[this];exact Nat.dvd_trans (Nat.pow_dvd_pow 2 (by omega)) (Nat.dvd_mul_left _ _)
    ·rcases Int.lt_or_eq_of_le h1 with h1|h1
     ·exfalso
      have h3:last=e+m.log2 - f.fractionBits:=by omega
      have h4:2 ^ (f.fractionBits+1) * 2 ^ (q+3000).toNat<=2 ^ m.log2 * 2 ^ (e+3000).toNat:=by
       rw[<- pow_add,<- pow_add];exact Nat.pow_le_pow_right (by decide) (by omega)
      have h5:2 ^ m.log2 * 2 ^ (e+3000).toNat<=m * 2 ^ (e+3000).toNat:=Nat.mul_le_mul_right _ hlog1;have h6:k * 2 ^ (q+3000).toNat < 2 ^ (f.fractionBits+1) * 2 ^ (q+3000).toNat:=Nat.mul_lt_mul_of_pos_right hk (two_pow_pos _);omega
     ·have:m=k * 2 ^ (q - e).toNat:=by
       have h2:(q+3000).toNat=(q - e).toNat+(e+3000).toNat:=by omega
       rw[h2,pow_add,<- mul_assoc]at hv;exact Nat.eq_of_mul_eq_mul_right (two_pow_pos _) hv
      rw[this];exact Nat.dvd_trans (Nat.pow_dvd_pow 2 (by omega)) (Nat.dvd_mul_left _ _)
   rw[yCO s hdvd hm];obtain ⟨c,hc⟩:=hdvd;rw[hc,Nat.mul_div_cancel_left _ (two_pow_pos _),Nat.mul_comm (2 ^ _) c,mul_assoc,<- pow_add];congr 2
   omega
 have hpos:0 < kept:=by
  rcases Nat.eq_zero_or_pos kept with h|h
  ·rw[h,Nat.zero_mul]at hkv;have:=Nat.mul_pos hm (two_pow_pos (e+3000).toNat);omega
  ·exact h
 have hlt:kept < 2 * f.binade:=by
  unfold Format.binade;have h1:kept * 2 ^ (last+3000).toNat < 2 ^ (m.log2+1) * 2 ^ (e+3000).toNat:=by
   rw[hkv];exact Nat.mul_lt_mul_of_pos_right hlog2 (two_pow_pos _)
  have h2:2 ^ (m.log2+1) * 2 ^ (e+3000).toNat<=2 ^ (f.fractionBits+1) * 2 ^ (last+3000).toNat:=by
   rw[<- pow_add,<- pow_add];exact Nat.pow_le_pow_right (by decide) (by omega)
  have h3:kept < 2 ^ (f.fractionBits+1):=Nat.lt_of_mul_lt_mul_right (Nat.lt_of_lt_of_le h1 h2);rw[Nat.pow_succ]at h3;omega
 have hge:f.leastPlace < last->f.binade<=kept:=λ h=>by
  unfold Format.binade;have h3:last=e+m.log2 - f.fractionBits:=by omega
  have h1:2 ^ f.fractionBits * 2 ^ (last+3000).toNat<=kept * 2 ^ (last+3000).toNat:=by
   rw[hkv,<- pow_add];refine Nat.le_trans (Nat.pow_le_pow_right (by decide) (?_:_<=m.log2+(e+3000).toNat)) ?_
   ·omega
   ·rw[pow_add];exact Nat.mul_le_mul_right _ hlog1
  exact Nat.le_of_mul_le_mul_right h1 (two_pow_pos _)
 have hb0:0 < f.binade:=two_pow_pos _;have hle:f.leastPlace<=last:=by omega
 have hEn:∃ E:Nat,2 ^ f.exponentBits=E+1/\((2:Int) ^ f.exponentBits=(E:Int)+1):=by
  have:=two_pow_pos f.exponentBits;refine ⟨2 ^ f.exponentBits - 1,by omega,?_⟩
  have h1:(((2:Nat) ^ f.exponentBits:Nat):Int)=(2:Int) ^ f.exponentBits:=by push_cast;rfl
  omega
 obtain ⟨E,hE,hEi⟩:=hEn;have hrung:(last - f.leastPlace).toNat * f.binade+kept < f.infRung:=by
  unfold Format.infRung;have h1:(last - f.leastPlace).toNat+2<=2 ^ f.exponentBits - 1:=by
   rw[hEi]at hmax;omega
  have h2:=Nat.mul_le_mul_right f.binade h1;rw[Nat.add_mul]at h2;omega
 generalize hr:(last - f.leastPlace).toNat * f.binade+kept=rung at hrung;have hsl:rung < f.signWeight:=Nat.lt_trans hrung f.infRung_lt;have hn:f.nearest s m e=f.word s rung:=by
  unfold Format.nearest;rw[if_neg (by omega)]
  dsimp only;rw[hlast,hkept,hr,Nat.min_eq_left (by omega)]
 have hmod:f.word s rung % f.signWeight=rung:=by
  unfold Format.word;split
  ·rw[Nat.add_mod_left,Nat.mod_eq_of_lt hsl]
  ·exact Nat.mod_eq_of_lt hsl
 have hneg:(f.word s rung / f.signWeight % 2 == 1)=s:=by
  unfold Format.word;have hsw:0 < f.signWeight:=by omega
  cases s with
  |true=>rw[if_pos rfl,Nat.add_div_left _ hsw,Nat.div_eq_of_lt hsl];rfl
  |false=>rw[if_neg (by simp),Nat.div_eq_of_lt hsl];rfl
 rw[hn];unfold Format.read;simp only[hmod,hneg];rcases Int.lt_or_eq_of_le hle with hlt2|hlt2
 ·have hk2:=hge hlt2;have hd:rung / f.binade=(last - f.leastPlace).toNat+1:=by
   rw[<- hr,Nat.add_comm,Nat.add_mul_div_right _ _ hb0,Nat.div_eq_of_lt_le (k:=1) (by omega) (by omega)]
   omega
  have hmm:rung % f.binade=kept - f.binade:=by
   rw[<- hr,Nat.add_comm,Nat.add_mul_mod_self_right];rw[Nat.mod_eq_sub_mod hk2,Nat.mod_eq_of_lt (by omega)]
  rw[if_neg (by
   intro h;rw[Nat.div_eq_of_lt h]at hd;omega),if_pos hrung]
  refine ⟨_,_,rfl,by omega,?_⟩
  rw[hmm,hd,show f.binade+(kept - f.binade)=kept by omega,Nat.add_sub_cancel,show f.leastPlace+(((last - f.leastPlace).toNat:Nat):Int)=last by omega]
  exact hkv
 ·have h0:rung=kept:=by rw[<- hr,<- hlt2];simp
  by_cases hb:kept < f.binade
  ·rw[if_pos (by omega)]
   exact ⟨_,_,rfl,Int.le_refl _,by rw[h0,hlt2];exact hkv⟩
  ·rw[if_neg (by omega),if_pos hrung]
   refine ⟨_,_,rfl,by omega,?_⟩
   have h1:rung / f.binade=1:=Nat.div_eq_of_lt_le (by omega) (by omega)
   have h2:rung % f.binade=kept - f.binade:=by
    rw[h0,Nat.mod_eq_sub_mod (by omega),Nat.mod_eq_of_lt (by omega)]
   rw[h1,h2,show f.binade+(kept - f.binade)=kept by omega]
   simp only[Nat.sub_self,Int.natCast_zero,Int.add_zero];rw[hlt2];exact hkv
end Go.Vx
