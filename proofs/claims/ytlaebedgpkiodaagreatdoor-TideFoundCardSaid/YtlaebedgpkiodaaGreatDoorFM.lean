/- FM: the values of floats,times 2 to the 3000: operations that are exact. -/
import Derived.Test.YtlaebedgpkiodaaGreatDoorFL
set_option linter.all false
open Int (natAbs_natCast)
open Nat (lt_of_le_of_lt pow_add shiftLeft_eq two_pow_pos)

set_option exponentiation.threshold 4000
namespace Go.Vx
open Ieee

/-- One;a sixteenth. -/
def U:Int:=2 ^ 3000
def P16:Int:=2 ^ 2996
theorem yTB:0 < U:=yFE 3000
theorem yP9:0 < P16:=yFE 2996
theorem U_P:U=16 * P16:=by
 unfold U P16;rw[show (3000:Nat)=4+2996 by rfl,Int.pow_add]
 rfl

def Num(f:Format)(x:Nat)(V:Int):Prop:=∃ s m e,f.read x=.number s m e/\-1100<=e/\sv s m e=V

theorem yCH(s:Bool)(m:Nat)(e:Int):(sv s m e).natAbs=m * 2 ^ (e+3000).toNat:=by
 unfold sv signed;rw[shiftLeft_eq];split
 ·rw[Int.natAbs_neg,natAbs_natCast]
 ·rw[natAbs_natCast]

theorem yIe{s:Bool}{m n:Nat}{e j:Int}(h:m * 2 ^ (e+3000).toNat=n * 2 ^ (j+3000).toNat):sv s m e=sv s n j:=by
 unfold sv signed;rw[shiftLeft_eq,shiftLeft_eq,h]

theorem yQj(s:Bool)(m:Nat)(e:Int):sv (!s) m e=- sv s m e:=by
 unfold sv signed;cases s<;>simp

/-- A value that a format writes as it is. -/
structure Has (f:Format) (V:Int):Prop where
 fits:∃ c q,V.natAbs=c * 2 ^ (q+3000).toNat/\c < 2 ^ (f.fractionBits+1)/\f.leastPlace<=q
 low:V.natAbs < 2 ^ 3128

theorem yS5(k:FloatKind):-1100<=k.format.leastPlace/\(127:Int) - k.format.fractionBits - k.format.leastPlace+2 < 2 ^ k.format.exponentBits/\(3:Int) < 2 ^ k.format.exponentBits:=by
 cases k<;>decide

theorem yPO(k:FloatKind):3 < 2 ^ k.format.exponentBits:=by cases k<;>decide

theorem y5q(k:FloatKind){s:Bool}{m:Nat}{e V:Int}(hV:sv s m e=V)(he:-3000<=e)(h:Has k.format V):Num k.format (k.format.write (.number s m e)) V:=by
 obtain ⟨h1,h2,h3⟩:=yS5 k;obtain ⟨c,q,hc,hc2,hq⟩:=h.fits;have ha:=yCH s m e;rw[hV]at ha;show Num k.format (k.format.nearest s m e) V
 rcases Nat.eq_zero_or_pos m with hm|hm
 ·subst hm;have hn:k.format.nearest s 0 e=k.format.word s 0:=by unfold Format.nearest;rw[if_pos rfl]
  have hr:k.format.read (k.format.word s 0)=.number s 0 k.format.leastPlace:=by cases k<;>cases s<;>decide
  rw[hn];refine ⟨s,0,_,hr,h1,?_⟩;have hV0:V=0:=by
   rw[Nat.zero_mul]at ha;exact Int.natAbs_eq_zero.1 ha
  rw[hV0];unfold sv signed;cases s<;>simp
 ·have hlog:m.log2+(e+3000).toNat < 3128:=by
   have h5:2 ^ m.log2<=m:=Nat.log2_self_le (by omega)
   have h6:2 ^ (m.log2+(e+3000).toNat)<=m * 2 ^ (e+3000).toNat:=by
    rw[pow_add];exact Nat.mul_le_mul_right _ h5
   have h7:=lt_of_le_of_lt h6 (ha ▸ h.low);exact (Nat.pow_lt_pow_iff_right (by decide)).1 h7
  obtain ⟨m',e',r1,r2,r3⟩:=yBz k.format s (m:=m) (k:=c) (e:=e) (q:=q) hm hc2 hq (by rw[<- ha,hc]) he (by omega) (by omega) (yPO k)
  exact ⟨s,m',e',r1,by omega,(yIe r3).trans hV⟩

/-! ### Order -/
section
variable {k:FloatKind} {x y:Nat} {V W:Int}
theorem yBC(hx:Num k.format x V)(hy:Num k.format y W):k.format.order x y=some (compare V W):=by
 obtain ⟨s,m,e,h1,h2,h3⟩:=hx;obtain ⟨t,n,j,g1,g2,g3⟩:=hy;unfold Format.order;rw[h1,g1,yMD (by omega) (by omega),h3,g3]

theorem yIp(hx:Num k.format x V)(hy:Num k.format y W):y03 .eql k x y=decide (V=W):=by
 unfold y03;rw[yBC hx hy];simp only[compare,compareOfLessAndEq];split
 ·rw[show decide (V=W)=false from decide_eq_false (by omega)];rfl
 ·split
  ·rename_i h;rw[show decide (V=W)=true from decide_eq_true h];rfl
  ·rename_i h;rw[show decide (V=W)=false from decide_eq_false h];rfl
theorem yJX(hx:Num k.format x V)(hy:Num k.format y W):y03 .neq k x y=!decide (V=W):=by
 rw[<- yIp hx hy];rfl
theorem yLp(hx:Num k.format x V)(hy:Num k.format y W):y03 .lss k x y=decide (V < W):=by
 unfold y03;rw[yBC hx hy];simp only[compare,compareOfLessAndEq];split
 ·rename_i h;rw[show decide (V < W)=true from decide_eq_true h];rfl
 ·rename_i h;rw[show decide (V < W)=false from decide_eq_false h]
  split<;>rfl
theorem yKw(hx:Num k.format x V)(hy:Num k.format y W):y03 .gtr k x y=decide (V > W):=by
 unfold y03;rw[yBC hx hy];simp only[compare,compareOfLessAndEq];split
 ·rw[show decide (V > W)=false from decide_eq_false (by omega)];rfl
 ·split
  ·rw[show decide (V > W)=false from decide_eq_false (by omega)];rfl
  ·rw[show decide (V > W)=true from decide_eq_true (by omega)];rfl

/-! ### Products,differences -/
theorem yKq{Z:Int}(hx:Num k.format x V)(hy:Num k.format y W)(hz:Z * U=V * W)(h:Has k.format Z):Num k.format (yv .mul k x y) Z:=by
 obtain ⟨s,m,e,h1,h2,h3⟩:=hx;obtain ⟨t,n,j,g1,g2,g3⟩:=hy;obtain ⟨u,c,i,q1,q2,q3,q4,q5⟩:=yMH (s:=s) (t:=t) (m:=m) (n:=n) (i:=e) (j:=j) (by omega) (by omega)
 have hb:floatBits .mul k x y=some (k.format.write (.number u c i)):=by
  show k.format.mul x y=_
  unfold Format.mul;rw[h1,g1,q1];rfl
 unfold yv;rw[hb];refine y5q k ?_ (by omega) h
 rw[h3,g3,<- hz]at q5;exact Int.eq_of_mul_eq_mul_right (by have:=yTB;unfold U at this;omega) q5

theorem yOS(hx:Num k.format x V)(hy:Num k.format y W)(h:Has k.format (V - W)):Num k.format (yv .sub k x y) (V - W):=by
 obtain ⟨s,m,e,h1,h2,h3⟩:=hx;obtain ⟨t,n,j,g1,g2,g3⟩:=hy;obtain ⟨u,c,i,q1,q2,q3⟩:=yQV (s:=s) (t:=!t) (m:=m) (n:=n) (i:=e) (j:=j) (by omega) (by omega)
 have hb:floatBits .sub k x y=some (k.format.write (.number u c i)):=by
  show k.format.sub x y=_
  unfold Format.sub;rw[h1,g1];show Option.map _ (Datum.sum _ (.number (!t) n j))=_
  rw[q1];rfl
 unfold yv;rw[hb];refine y5q k ?_ (by omega) h
 rw[q3,yQj,h3,g3];omega

/-! ### Integers -/
theorem yNW(s:Bool)(n d:Nat):Toward.zero.cut s n d=n / 2 ^ d:=by
 unfold Toward.cut;simp only[shiftLeft_eq,Nat.one_mul,Bool.toNat_false,Nat.add_zero];rcases Nat.le_total d (n.log2+2)with h|h
 ·rw[Nat.min_eq_left h]
 ·rw[Nat.min_eq_right h];have h1:n < 2 ^ (n.log2+1):=Nat.lt_log2_self;have h2:2 ^ (n.log2+1)<=2 ^ (n.log2+2):=Nat.pow_le_pow_right (by decide) (by omega)
  have h3:2 ^ (n.log2+2)<=2 ^ d:=Nat.pow_le_pow_right (by decide) h
  rw[Nat.div_eq_of_lt (by omega),Nat.div_eq_of_lt (by omega)]

/-- A number's whole part,by its value. -/
theorem yIb(m:Nat){e:Int}(he:-3000<=e):m * 2 ^ e.toNat / 2 ^ (-e).toNat=m * 2 ^ (e+3000).toNat / 2 ^ 3000/\(m * 2 ^ e.toNat % 2 ^ (-e).toNat=0 ↔ m * 2 ^ (e+3000).toNat % 2 ^ 3000=0):=by
 rcases Int.le_total 0 e with h|h
 ·rw[show (-e).toNat=0 by omega,show (e+3000).toNat=e.toNat+3000 by omega,pow_add,<- Nat.mul_assoc,Nat.mul_div_cancel _ (two_pow_pos _),Nat.pow_zero,Nat.div_one,Nat.mod_one,Nat.mul_mod_left]
  exact ⟨rfl,Iff.rfl⟩
 ·have h2:(3000:Nat)=(-e).toNat+(e+3000).toNat:=by omega
  have h3:(2:Nat) ^ 3000=2 ^ (-e).toNat * 2 ^ (e+3000).toNat:=by rw[<- pow_add,<- h2]
  rw[show e.toNat=0 by omega,Nat.pow_zero,Nat.mul_one,h3,Nat.mul_div_mul_right _ _ (two_pow_pos _),Nat.mul_mod_mul_right]
  refine ⟨rfl,λ h=>by rw[h,Nat.zero_mul],λ h=>?_⟩
  have:=two_pow_pos (e+3000).toNat;rcases Nat.mul_eq_zero.1 h with h|h
  ·exact h
  ·omega

theorem yIk:U=((2 ^ 3000:Nat):Int):=(Int.natCast_pow 2 3000).symm
theorem yS2:P16=((2 ^ 2996:Nat):Int):=(Int.natCast_pow 2 2996).symm

theorem yNf(hx:Num k.format x V)(hb:V.natAbs<=1000000 * 2 ^ 3000):ym k x .i64=some (V.tdiv U):=by
 obtain ⟨s,m,e,h1,h2,h3⟩:=hx;have ha:=yCH s m e;have hd:(k.format.read x).toInt .zero=some (V.tdiv U):=by
  rw[h1];show some (signed s (Toward.zero.cut s (m <<< e.toNat) (-e).toNat) 0)=_
  rw[yNW,shiftLeft_eq,(yIb m (by omega)).1,<- h3]
  unfold sv signed;rw[shiftLeft_eq,shiftLeft_eq,Nat.pow_zero,Nat.mul_one,yIk];cases s
  ·simp only[Bool.false_eq_true,if_false];rw[<- Int.ofNat_tdiv]
  ·simp only[if_true];rw[Int.neg_tdiv,<- Int.ofNat_tdiv]
 have hr:(V.tdiv U).natAbs<=1000000:=by
  rw[Int.natAbs_tdiv,yIk,natAbs_natCast];exact Nat.div_le_of_le_mul (by rw[Nat.mul_comm];exact hb)
 show floatToIntVal k x .i64=_
 unfold floatToIntVal;show (match (k.format.read x).toInt .zero with|some n=>_|none=>_)=_
 rw[hd];have h4:IntKind.i64.min=-9223372036854775808:=by decide
 have h5:IntKind.i64.max=9223372036854775807:=by decide
 simp only[h4,h5];rw[if_pos (by omega)]

theorem yD8(k:FloatKind){n:Int}(h:n.natAbs<=16000000):Has k.format (n * U):=by
 have e:(n * U).natAbs=n.natAbs * 2 ^ ((0:Int)+3000).toNat:=by
  rw[Int.natAbs_mul,yIk,natAbs_natCast];rfl
 refine ⟨⟨n.natAbs,0,e,?_,?_⟩,?_⟩
 ·refine lt_of_le_of_lt h ?_
  cases k<;>decide
 ·cases k<;>decide
 ·rw[e,show ((0:Int)+3000).toNat=3000 by rfl]
  have h2:n.natAbs < 2 ^ 128:=lt_of_le_of_lt h (by decide)
  rw[show (3128:Nat)=128+3000 by rfl,pow_add]
  exact Nat.mul_lt_mul_of_pos_right h2 (two_pow_pos _)

theorem yEY(k:FloatKind){n:Int}(h:n.natAbs<=16000000):Has k.format (n * P16):=by
 have hP:=yS2;have e:(n * P16).natAbs=n.natAbs * 2 ^ ((-4:Int)+3000).toNat:=by
  rw[Int.natAbs_mul,hP,natAbs_natCast];rfl
 refine ⟨⟨n.natAbs,-4,e,?_,?_⟩,?_⟩
 ·refine lt_of_le_of_lt h ?_
  cases k<;>decide
 ·cases k<;>decide
 ·rw[e,show ((-4:Int)+3000).toNat=2996 by rfl]
  have h2:n.natAbs < 2 ^ 100:=lt_of_le_of_lt h (by decide)
  refine Nat.lt_of_lt_of_le (Nat.mul_lt_mul_of_pos_right h2 (two_pow_pos _)) ?_
  rw[<- pow_add];exact Nat.pow_le_pow_right (by decide) (by decide)

theorem yN6(k:FloatKind){n:Int}(h:n.natAbs<=16000000):Num k.format (y0l k n) (n * U):=by
 show Num k.format (k.format.write (.number (n < 0) n.natAbs 0)) _
 refine y5q k ?_ (by decide) (yD8 k h)
 have:=yDt n false 3000;by_cases h0:n=0
 ·subst h0;unfold sv signed;simp
 ·rw[if_neg h0]at this;exact this

end

/-! ### float32 -/
theorem yOB(x:Nat):(∃ s m e,FloatKind.f32.format.read x=.number s m e/\m < 16777216/\-149<=e/\e<=104)\/(∃ s,FloatKind.f32.format.read x=.infinity s)\/(∃ s t,FloatKind.f32.format.read x=.nan s t):=by
 unfold Format.read;have hb:FloatKind.f32.format.binade=8388608:=by decide
 have hi:FloatKind.f32.format.infRung=2139095040:=by decide
 have hl:FloatKind.f32.format.leastPlace=-149:=by decide
 simp only[hb,hi,hl];generalize x % FloatKind.f32.format.signWeight=r;split
 ·exact .inl ⟨_,_,_,rfl,by omega,by omega,by omega⟩
 ·split
  ·exact .inl ⟨_,_,_,rfl,by omega,by omega,by omega⟩
  ·split
   ·exact .inr (.inl ⟨_,rfl⟩)
   ·exact .inr (.inr ⟨_,_,rfl⟩)

end Go.Vx
