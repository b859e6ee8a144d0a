import Derived.Test.YtpcnkpbpcebokaaGreatDoorPC
import Derived.Test.YtpcnkpbpcebokaaGreatDoorFM
set_option linter.all false
set_option maxRecDepth 100000
set_option exponentiation.threshold 4000
open Option (bind_some)
open Int (neg_mul one_mul)
open Nat (pow_add shiftLeft_eq)
namespace Go.Tw
open Go.Vx Go.Vx.B Go.Proofs Ieee
abbrev F32:=FloatKind.f32.format
abbrev F64:=FloatKind.f64.format
def lvD:Datum->Int
 |.number s m e=>if sv s m e < -(1024 * P16)\/1024 * P16 < sv s m e then 3 else if sv s m e % P16=0 then 0 else 3
 |_=>1
theorem yEg(s:Bool)(m:Nat)(e:Int):lvD (.number s m e)=if sv s m e < -(1024 * P16)\/1024 * P16 < sv s m e then 3 else if sv s m e % P16=0 then 0 else 3:=rfl
def lvE(x:Nat):Int:=lvD (F32.read x)
theorem yHe{s:Bool}{m n a b:Nat}{e:Int}(hm:m=2 ^ a)(hn:n=2 ^ b)(h:a+(e+3000).toNat=b+3000):sv s m e=(if s then -1 else 1) * (n:Int) * U:=by
 have h1:m * 2 ^ (e+3000).toNat=n * 2 ^ ((0:Int)+3000).toNat:=by
  rw[hm,hn,<- pow_add,<- pow_add,h];rfl
 rw[yE3 h1];unfold sv signed;rw[shiftLeft_eq,yE7,show ((0:Int)+3000).toNat=3000 by rfl,Int.natCast_mul]
 cases s
 ·simp only[Bool.false_eq_true,if_false,one_mul]
 ·simp only[if_true,neg_mul,one_mul]
theorem n16:Num F32 1098907648 (16 * U):=⟨false,8388608,-19,by decide,by decide,by rw[yHe (n:=16) (a:=23) (b:=4) (by decide) (by decide) (by decide)];simp⟩
theorem n64:Num F32 1115684864 (64 * U):=⟨false,8388608,-17,by decide,by decide,by rw[yHe (n:=64) (a:=23) (b:=6) (by decide) (by decide) (by decide)];simp⟩
theorem nm64:Num F32 3263168512 (-(64 * U)):=⟨true,8388608,-17,by decide,by decide,by rw[yHe (n:=64) (a:=23) (b:=6) (by decide) (by decide) (by decide)];simp only[if_true,neg_mul,one_mul];rfl⟩
theorem n0:Num F32 0 0:=⟨false,0,-149,by decide,by decide,by unfold sv signed;simp⟩
theorem d16:Num F64 4625196817309499392 (16 * U):=⟨false,4503599627370496,-48,by decide,by decide,by rw[yHe (n:=16) (a:=52) (b:=4) (by decide) (by decide) (by decide)];simp⟩
theorem d64:Num F64 4634204016564240384 (64 * U):=⟨false,4503599627370496,-46,by decide,by decide,by rw[yHe (n:=64) (a:=52) (b:=6) (by decide) (by decide) (by decide)];simp⟩
theorem dm64:Num F64 13857576053419016192 (-(64 * U)):=⟨true,4503599627370496,-46,by decide,by decide,by rw[yHe (n:=64) (a:=52) (b:=6) (by decide) (by decide) (by decide)];simp only[if_true,neg_mul,one_mul];rfl⟩
theorem dmax:Num F64 9218868437227405311 (sv false 9007199254740991 971):=⟨false,9007199254740991,971,by decide,by decide,rfl⟩
theorem y4F(c:Bool)(e:Int):z0i c e=(bif c then e else 0,()):=by
 unfold z0i;cases c<;>rfl
structure Lv (x:Nat) (s:Bool) (m:Nat) (e:Int):Prop where
 rd:F32.read x=.number s m e
 hm:m < 16777216
 lo:-149<=e
 hi:e<=104
variable {x:Nat} {s:Bool} {m:Nat} {e:Int}
theorem Lv.num(h:Lv x s m e):Num F32 x (sv s m e):=⟨s,m,e,h.rd,by have:=h.lo;omega,rfl⟩
theorem Lv.bnd(h:Lv x s m e):(sv s m e).natAbs < 2 ^ 3128:=by
 rw[y81];have h1:m * 2 ^ (e+3000).toNat < 2 ^ 24 * 2 ^ (e+3000).toNat:=Nat.mul_lt_mul_of_pos_right h.hm (Nat.two_pow_pos _);rw[<- pow_add]at h1;exact Nat.lt_of_lt_of_le h1 (Nat.pow_le_pow_right (by decide) (by have:=h.hi;omega))
theorem yLn(k:FloatKind):Has k.format 0:=by
 have:=y7w k (n:=0) (by decide)
 rwa[Int.zero_mul]at this
theorem Lv.has16(k:FloatKind)(h:Lv x s m e)(hb:(sv s m e).natAbs<=64 * 2 ^ 3000):Has k.format (16 * sv s m e):=by
 have ha:=y81 s m e;have e1:(16 * sv s m e).natAbs=m * 2 ^ ((e+4)+3000).toNat:=by
  rw[Int.natAbs_mul,ha];have:=h.lo;rw[show ((e+4)+3000).toNat=4+(e+3000).toNat by omega,pow_add]
  show 16 * _=m * (16 * _)
  rw[Nat.mul_left_comm]
 refine ⟨⟨m,e+4,e1,?_,?_⟩,?_⟩
 ·refine Nat.lt_of_lt_of_le h.hm ?_
  cases k<;>decide
 ·have:=h.lo;have hl:k.format.leastPlace<=-149:=by cases k<;>decide
  omega
 ·rw[Int.natAbs_mul];show 16 * _ < _
  have h2:16 * (sv s m e).natAbs<=1024 * 2 ^ 3000:=by
   rw[show (1024:Nat)=16 * 64 by rfl,Nat.mul_assoc]
   exact Nat.mul_le_mul_left _ hb
  refine Nat.lt_of_le_of_lt h2 ?_
  rw[show (3128:Nat)=128+3000 by rfl,pow_add]
  exact Nat.mul_lt_mul_of_pos_right (by decide) (Nat.two_pow_pos _)
theorem U64:64 * U=1024 * P16:=by rw[U_P];omega
theorem y3L{V:Int}(h:¬ (V < -(1024 * P16)\/1024 * P16 < V)):V.natAbs<=64 * 2 ^ 3000:=by
 have h1:=U64;have h2:(((64 * 2 ^ 3000:Nat)):Int)=64 * U:=by rw[yE7];exact Int.natCast_mul _ _
 omega
theorem yFB(V:Int):(16 * V).tdiv U=V.tdiv P16:=by
 rw[U_P];exact Int.mul_tdiv_mul_of_pos _ _ (by decide)
theorem yC4(V:Int):((16 * V).tdiv U * U=16 * V) ↔ V % P16=0:=by
 rw[yFB,U_P];have h1:=Int.tdiv_mul_add_tmod V P16;have h2:V % P16=0 ↔ V.tmod P16=0:=by
  rw[<- Int.dvd_iff_emod_eq_zero,Int.dvd_iff_tmod_eq_zero]
 rw[h2];have h3:V.tdiv P16 * (16 * P16)=16 * (V.tdiv P16 * P16):=by rw[Int.mul_left_comm]
 rw[h3];omega
theorem Lv.y16(h:Lv x s m e)(hr:¬ (sv s m e < -(1024 * P16)\/1024 * P16 < sv s m e)):Num F32 (y05 .mul .f32 x 1098907648) (16 * sv s m e):=
 yNQ (k:=.f32) h.num n16 (by rw[Int.mul_comm 16 (sv s m e),Int.mul_assoc]) (h.has16 .f32 (y3L hr))
theorem yPq{V:Int}(h:V.natAbs<=64 * 2 ^ 3000):(16 * V).natAbs<=1000000 * 2 ^ 3000:=by
 rw[Int.natAbs_mul];show 16 * V.natAbs<=_
 have h2:16 * V.natAbs<=1024 * 2 ^ 3000:=by
  rw[show (1024:Nat)=16 * 64 by rfl,Nat.mul_assoc]
  exact Nat.mul_le_mul_left _ h
 exact Nat.le_trans h2 (Nat.mul_le_mul_right _ (by decide))
theorem Lv.gsix(h:Lv x s m e)(hr:¬ (sv s m e < -(1024 * P16)\/1024 * P16 < sv s m e)):zd_M x=some ((sv s m e).tdiv P16,()):=by
 unfold zd_M zd_m;rw[yGb (h.y16 hr) (yPq (y3L hr)),yFB];rfl
theorem yBp{V:Int}(h:V.natAbs<=64 * 2 ^ 3000):(V.tdiv P16).natAbs<=1024:=by
 have hP:=yU5;rw[Int.natAbs_tdiv,hP,Int.natAbs_natCast];refine Nat.div_le_of_le_mul (Nat.le_trans h ?_);rw[show (3000:Nat)=4+2996 by rfl,pow_add,<- Nat.mul_assoc,Nat.mul_comm]
 exact Nat.le_refl _
theorem yJt(x:Nat):zb_M x=some (lvE x,()):=by
 unfold zb_M zb_m lvE;rcases yKN x with ⟨s,m,e,h1,h2,h3,h4⟩|⟨s,h1⟩|⟨s,t,h1⟩
 ·have h:Lv x s m e:=⟨h1,h2,h3,h4⟩;rw[h1];have c1:yT .neq .f32 (y05 .sub .f32 x x) 0=false:=by
   rw[yA8 (yRk (k:=.f32) h.num h.num (by rw[Int.sub_self];exact yLn _)) n0]
   simp
  rw[c1,cond_false,yKS h.num nm64,yF0 h.num n64,U64];rw[yEg];by_cases a1:sv s m e < -(1024 * P16)
  ·rw[bifT (y8 a1),if_pos (.inl a1)]
  ·rw[bifF (y9 a1)];by_cases a2:1024 * P16 < sv s m e
   ·rw[bifT (y8 a2),if_pos (.inr a2)]
   ·have hr:¬ (sv s m e < -(1024 * P16)\/1024 * P16 < sv s m e):=by omega
    rw[bifF (y9 (show ¬ sv s m e > 1024 * P16 from a2)),if_neg hr,h.gsix hr]
    simp only[bind_some];have hs:=yBp (y3L hr);rw[y4F,yA8 (yLX .f32 (by omega)) (h.y16 hr),<- yFB]
    by_cases hw:sv s m e % P16=0
    ·rw[if_pos hw,y8 ((yC4 _).2 hw)];rfl
    ·rw[if_neg hw,y9 (λ q=>hw ((yC4 _).1 q))]
     rfl
 ·rw[h1];have c1:yT .neq .f32 (y05 .sub .f32 x x) 0=true:=by
   have hb:floatBits .sub .f32 x x=none:=by
    show F32.sub x x=none
    unfold Format.sub;rw[h1];cases s<;>rfl
   unfold y05;rw[hb];decide
  rw[c1];rfl
 ·rw[h1];have c1:yT .neq .f32 (y05 .sub .f32 x x) 0=true:=by
   have hb:floatBits .sub .f32 x x=none:=by
    show F32.sub x x=none
    unfold Format.sub;rw[h1];rfl
   unfold y05;rw[hb];decide
  rw[c1];rfl
theorem Lv.has64(h:Lv x s m e):Has F64 (sv s m e):=
 ⟨⟨m,e,y81 s m e,Nat.lt_trans h.hm (by decide),by have:=h.lo;have:F64.leastPlace=-1074:=(by decide);omega⟩,h.bnd⟩
theorem Lv.wide(h:Lv x s m e):∃ v,y1j .f32 x .f64=some v/\Num F64 v (sv s m e)/\v < 2 ^ 64:=by
 have hn:Num F64 (F64.write (.number s m e)) (sv s m e):=y45 .f64 rfl (by have:=h.lo;omega) h.has64
 refine ⟨F64.write (.number s m e),?_,hn,Format.write_lt F64 _⟩;unfold y1j;rw[h.rd];show floatToFloatBits .f32 x .f64=_
 unfold floatToFloatBits;rw[if_neg (by decide)]
 show (match F32.read x with|.nan _ _=>none|.infinity s=>_|.number s m e=>_)=_
 rw[h.rd];show (if (F64.read (F64.write (.number s m e))).isInfinity=true then none else some (F64.write (.number s m e)))=_
 obtain ⟨s',m',e',g1,_⟩:=hn;rw[g1];rfl
theorem yKU{v:Nat}(h:v < 2 ^ 64):y8U v=v % 2 ^ 63:=by
 unfold y8U y0V;simp only[BitVec.ofInt_natCast];have h1:(~~~(BitVec.ofInt IntKind.u64.bits 9223372036854775808))=BitVec.ofNat IntKind.u64.bits (2 ^ 63 - 1):=by decide
 rw[h1,BitVec.toNat_and,BitVec.toNat_ofNat,BitVec.toNat_ofNat];have h2:(2:Nat) ^ IntKind.u64.bits=2 ^ 64:=rfl;rw[h2,Nat.mod_eq_of_lt h,Nat.mod_eq_of_lt (by decide:2 ^ 63 - 1 < 2 ^ 64),Nat.and_two_pow_sub_one_eq_mod]
 have h3:v % 2 ^ 63 < 2 ^ 63:=Nat.mod_lt _ (by decide)
 generalize v % 2 ^ 63=w at h3;have:IntKind.u64.wrap (w:Int)=w:=by
  unfold IntKind.wrap IntKind.bits IntKind.signed;simp;omega
 rw[this];exact Int.toNat_natCast w
theorem yMB{v:Nat}(h:F64.read v=.number s m e):F64.read (v % 2 ^ 63)=.number false m e:=by
 have hs:F64.signWeight=2 ^ 63:=rfl;unfold Format.read at h ⊢;simp only[hs]at h ⊢;rw[Nat.mod_mod,Nat.div_eq_of_lt (Nat.mod_lt _ (by decide))]
 generalize v % 2 ^ 63=r at h;generalize (v / 2 ^ 63 % 2 == 1)=n at h;by_cases h1:r < F64.binade
 ·rw[if_pos h1]at h ⊢;cases h;rfl
 ·rw[if_neg h1]at h ⊢;by_cases h2:r < F64.infRung
  ·rw[if_pos h2]at h ⊢;cases h;rfl
  ·rw[if_neg h2]at h;split at h<;>cases h
theorem yN0{v:Nat}{V:Int}(hv:v < 2 ^ 64)(h:Num F64 v V):∃ a,absM v=some (a,())/\Num F64 a V.natAbs:=by
 obtain ⟨s,m,e,h1,h2,h3⟩:=h;have hr:=yMB h1;refine ⟨v % 2 ^ 63,?_,false,m,e,hr,h2,?_⟩
 ·unfold absM;rw[yKU hv];show (bif (F64.read (v % 2 ^ 63)).isNaN || (F64.read v).isNaN then none else _)=_
  rw[hr,h1];rfl
 ·rw[<- h3,y81];unfold sv signed;rw[shiftLeft_eq];simp
theorem yPR{V:Int}(h:V.natAbs < 2 ^ 3128):¬ ((V.natAbs:Int) > sv false 9007199254740991 971):=by
 have h1:sv false 9007199254740991 971=((9007199254740991 * 2 ^ 3971:Nat):Int):=by
  unfold sv signed;rw[shiftLeft_eq];rfl
 rw[h1];have h2:(2:Nat) ^ 3128<=1 * 2 ^ 3971:=by
  rw[Nat.one_mul];exact Nat.pow_le_pow_right (by decide) (by decide)
 have h3:1 * 2 ^ 3971<=9007199254740991 * 2 ^ 3971:=Nat.mul_le_mul_right _ (by decide)
 have h4:=Nat.lt_of_lt_of_le h (Nat.le_trans h2 h3);generalize 9007199254740991 * 2 ^ 3971=b at h4;omega
theorem yLQ{y:Nat}{W:Int}(h:Num F64 y W)(hb:W.natAbs<=1000000 * 2 ^ 3000):∃ z Z,y7h y=some (z,())/\Num F64 z Z/\(W=Z ↔ W % U=0):=by
 obtain ⟨s,m,e,h1,h2,h3⟩:=h;have ha:=y81 s m e;rw[h3]at ha;obtain ⟨w1,w2⟩:=yC6 m (e:=e) (by omega)
 have hf:y7h y=some (F64.write (.number s (Toward.down.cut s (m <<< e.toNat) (-e).toNat) 0),()):=by
  unfold y7h;show (bif (F64.read y).isNaN then none else some (F64.write ((F64.read y).integral .down),()))=_
  rw[h1];rfl
 rw[yM1,shiftLeft_eq]at hf;have hq:m * 2 ^ e.toNat / 2 ^ (-e).toNat<=1000000:=by
  rw[w1,<- ha];exact Nat.div_le_of_le_mul (by rw[Nat.mul_comm];exact hb)
 generalize hc:m * 2 ^ e.toNat / 2 ^ (-e).toNat+(s && m * 2 ^ e.toNat % 2 ^ (-e).toNat != 0).toNat=c at hf;have hc2:c<=1000001:=by
  have:(s && m * 2 ^ e.toNat % 2 ^ (-e).toNat != 0).toNat<=1:=by cases (s && m * 2 ^ e.toNat % 2 ^ (-e).toNat != 0)<;>decide
  omega
 have hZ:sv s c 0=(if s then -(c:Int)else c) * U:=by
  unfold sv signed;rw[shiftLeft_eq,yE7,show ((0:Int)+3000).toNat=3000 by rfl,Int.natCast_mul]
  cases s
  ·simp only[Bool.false_eq_true,if_false]
  ·simp only[if_true,neg_mul]
 refine ⟨_,_,hf,y45 .f64 hZ (by decide) (y7w .f64 (by cases s<;>simp<;>omega)),?_⟩
 constructor
 ·intro h;rw[h];exact Int.mul_emod_left _ _
 ·intro h;have hdiv:(2 ^ 3000:Nat) ∣ W.natAbs:=by
   have:=Int.dvd_of_emod_eq_zero h;rw[yE7]at this;exact Int.natAbs_dvd_natAbs.2 this
  have hmod:m * 2 ^ (e+3000).toNat % 2 ^ 3000=0:=by rw[<- ha];exact Nat.mod_eq_zero_of_dvd hdiv
  have hr:=w2.2 hmod;rw[hr]at hc;simp only[bne_self_eq_false,Bool.and_false,Bool.toNat_false,Nat.add_zero]at hc;rw[<- hZ,<- h3];refine yE3 ?_
  rw[<- hc,w1,show ((0:Int)+3000).toNat=3000 by rfl]
  exact (Nat.div_mul_cancel (Nat.dvd_of_mod_eq_zero hmod)).symm
theorem yQ9(V:Int):(16 * V) % U=0 ↔ V % P16=0:=by
 rw[U_P,Int.mul_emod_mul_of_pos _ _ (by decide)]
 omega
theorem Lv.w16(h:Lv x s m e){v:Nat}(hv:Num F64 v (sv s m e))(hr:¬ (sv s m e < -(1024 * P16)\/1024 * P16 < sv s m e)):Num F64 (y05 .mul .f64 4625196817309499392 v) (16 * sv s m e):=
 yNQ (k:=.f64) d16 hv (by rw[Int.mul_assoc,Int.mul_assoc,Int.mul_comm U]) (h.has16 .f64 (y3L hr))
theorem yK9(x:Nat):zf_M x=some (lvE x,()):=by
 unfold zf_M zf_m lvE;rcases yKN x with ⟨s,m,e,h1,h2,h3,h4⟩|⟨s,h1⟩|⟨s,t,h1⟩
 ·have h:Lv x s m e:=⟨h1,h2,h3,h4⟩;obtain ⟨v,v1,v2,v3⟩:=h.wide;obtain ⟨a,a1,a2⟩:=yN0 v3 v2;rw[h1,v1];simp only[bind_some];have c1:(z0o v).1=false:=by
   show yT .neq .f64 v v=false
   rw[yA8 v2 v2];simp
  have c2:yML v 0=some (false,()):=by
   unfold yML yOr;rw[bifT (by rfl),a1]
   simp only[bind_some];rw[yF0 a2 dmax,y9 (yPR h.bnd)]
  rw[c1,cond_false,c2];simp only[bind_some,cond_false];rw[yF0 v2 d64,yKS v2 dm64,U64];rw[yEg];by_cases b1:1024 * P16 < sv s m e
  ·rw[bifT (y8 (show sv s m e > 1024 * P16 from b1)),if_pos (.inr b1)]
  ·rw[bifF (y9 (show ¬ sv s m e > 1024 * P16 from b1))]
   by_cases b2:sv s m e < -(1024 * P16)
   ·rw[bifT (y8 b2),if_pos (.inl b2)]
   ·have hr:¬ (sv s m e < -(1024 * P16)\/1024 * P16 < sv s m e):=by omega
    rw[bifF (y9 b2),if_neg hr];obtain ⟨z,Z,z1,z2,z3⟩:=yLQ (h.w16 v2 hr) (yPq (y3L hr));rw[z1];simp only[bind_some];rw[yA8 (h.w16 v2 hr) z2];by_cases hw:sv s m e % P16=0
    ·rw[if_pos hw,y8 (z3.2 ((yQ9 _).2 hw))];rfl
    ·rw[if_neg hw,y9 (λ q=>hw ((yQ9 _).1 (z3.1 q)))]
     rfl
 ·rw[h1];have v1:y1j .f32 x .f64=some (F64.write (.infinity s)):=by
   unfold y1j;rw[h1];show floatToFloatBits .f32 x .f64=_
   unfold floatToFloatBits;rw[if_neg (by decide)]
   show (match F32.read x with|.nan _ _=>none|.infinity s=>_|.number s m e=>_)=_
   rw[h1];rfl
  rw[v1];clear v1 h1;cases s
  ·refine Eq.trans (b:=some ((1:Int),())) ?_ rfl;kernel_rfl
  ·refine Eq.trans (b:=some ((1:Int),())) ?_ rfl;kernel_rfl
 ·rw[h1];have v1:y1j .f32 x .f64=some (fnan .f64):=by
   unfold y1j;rw[h1];rfl
  rw[v1];refine Eq.trans (b:=some ((1:Int),())) ?_ rfl;kernel_rfl
structure Six (x:Nat) (n:Int):Prop where
 num:Num F32 x (n * P16)
 low:-1024<=n/\n<=1024
theorem yQm{x:Nat}(h:lvE x=0):∃ n,Six x n/\zd_M x=some (n,())/\zj_M x=some (n,()):=by
 unfold lvE at h;rcases yKN x with ⟨s,m,e,h1,h2,h3,h4⟩|⟨s,h1⟩|⟨s,t,h1⟩
 ·have L:Lv x s m e:=⟨h1,h2,h3,h4⟩;rw[h1]at h;rw[yEg]at h;by_cases hr:sv s m e < -(1024 * P16)\/1024 * P16 < sv s m e
  ·rw[if_pos hr]at h;cases h
  ·rw[if_neg hr]at h;by_cases hw:sv s m e % P16=0
   ·have hs:=yBp (y3L hr);have hd:(sv s m e).tdiv P16 * P16=sv s m e:=Int.tdiv_mul_cancel (Int.dvd_of_emod_eq_zero hw);refine ⟨(sv s m e).tdiv P16,⟨by rw[hd];exact L.num,by omega⟩,L.gsix hr,?_⟩
    obtain ⟨v,v1,v2,v3⟩:=L.wide;unfold zj_M zj_m;rw[v1];simp only[bind_some];rw[yGb (L.w16 v2 hr) (yPq (y3L hr)),yFB];rfl
   ·rw[if_neg hw]at h;cases h
 ·rw[h1]at h;cases h
 ·rw[h1]at h;cases h
noncomputable def sx(x:Nat):Int:=match zd_M x with
 |some (n,_)=>n
 |none=>0
end Go.Tw
