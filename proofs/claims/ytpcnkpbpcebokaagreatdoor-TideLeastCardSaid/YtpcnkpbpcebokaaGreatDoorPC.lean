import Derived.Test.YtpcnkpbpcebokaaGreatDoorPA
import Derived.Test.YtpcnkpbpcebokaaGreatDoorFL
set_option linter.all false
open Option (bind_some)
open Int (neg_mul one_mul)
open Nat (pow_add shiftLeft_eq)
section
set_option maxRecDepth 100000
namespace Go.Tw
open Go.Vx Go.Vx.B Go.Proofs
theorem yMp(x:Int):-9223372036854775808<=IntKind.i64.wrap x/\IntKind.i64.wrap x<=9223372036854775807:=by
 rw[IntKind.wrap_i64];omega
theorem yOv{α:Type}(p:List α)(x:α)(r:List α)(i:Int)(hi:i=(p.length:Int)):idx (p++x::r) i=some x:=by
 subst hi;rw[y0M];simp
theorem yBD{α β:Type}{p:α->Option β}{l:List α}(h:l.findSome? p=none):∀ e∈l,p e=none:=List.findSome?_eq_none_iff.1 h
theorem yJ5(l:List Con)(hl:l.length < lenMax):∃ s,zq_M l=some (s,())/\(s=true->(∀ c∈l,c.1.length<=60)/\l.length<=5):=by
 unfold zq_M;rw[bifT (y7 hl),y1j (λ c:Con=>bif decide ((c.1.length:Int) > 60)then some (false,())else none) l 0 (λ i e _=>by
  unfold yQT;cases decide ((e.1.length:Int) > 60)<;>rfl)]
 cases hf:l.findSome? (λ c:Con=>bif decide ((c.1.length:Int) > 60)then some (false,())else none)with
 |some y =>
  obtain ⟨n,_,hy⟩:=List.exists_of_findSome?_eq_some hf;cases hd:decide ((n.1.length:Int) > 60)with
  |true=>rw[hd]at hy;cases hy;exact ⟨false,rfl,by simp⟩
  |false=>rw[hd]at hy;cases hy
 |none =>
  have hall:∀ c∈l,c.1.length<=60:=λ n hn=>by
   have:=yBD hf n hn;by_cases hd:(n.1.length:Int) > 60
   ·rw[y7 hd]at this;cases this
   ·omega
  show ∃ s,yNI l=some (s,())/\_
  unfold yNI;by_cases h5:(l.length:Int)<=5
  ·exact ⟨true,by rw[y7 h5],λ _=>⟨hall,by omega⟩⟩
  ·exact ⟨false,by rw[yE h5],by simp⟩
theorem yB2(l:List Con)(hl:l.length<=memMax):yQ5 l=some (l,()):=by
 have hm:=yD0;unfold yQ5;rw[bifT (y7 (show l.length < lenMax by omega)),y1P (λ n=>n) l 0 [] (by simpa using hl) (λ i e s _ hs=>by
  unfold yJk;rw[bifT (y7 hs)])]
 simp only[List.map_id_fun',id_eq,List.nil_append];rfl
end Go.Tw
end
section
set_option maxRecDepth 100000
set_option exponentiation.threshold 4000
namespace Go.Tw
open Go.Vx Go.Vx.B Go.Proofs Ieee
abbrev F32:=FloatKind.f32.format
abbrev F64:=FloatKind.f64.format
def lvD:Datum->Int
 |.number s m e=>if sv s m e < -(1024 * P16)\/1024 * P16 < sv s m e then 3 else if sv s m e % P16=0 then 0 else 3
 |_=>1
theorem yDy(s:Bool)(m:Nat)(e:Int):lvD (.number s m e)=if sv s m e < -(1024 * P16)\/1024 * P16 < sv s m e then 3 else if sv s m e % P16=0 then 0 else 3:=rfl
def lvE(x:Nat):Int:=lvD (F32.read x)
theorem yDF{s:Bool}{m n a b:Nat}{e:Int}(hm:m=2 ^ a)(hn:n=2 ^ b)(h:a+(e+3000).toNat=b+3000):sv s m e=(if s then -1 else 1) * (n:Int) * U:=by
 have h1:m * 2 ^ (e+3000).toNat=n * 2 ^ ((0:Int)+3000).toNat:=by
  rw[hm,hn,<- pow_add,<- pow_add,h];rfl
 rw[yF4 h1];unfold sv signed;rw[shiftLeft_eq,yE4,show ((0:Int)+3000).toNat=3000 by rfl,Int.natCast_mul]
 cases s
 ·simp only[Bool.false_eq_true,if_false,one_mul]
 ·simp only[if_true,neg_mul,one_mul]
theorem n16:Num F32 1098907648 (16 * U):=⟨false,8388608,-19,by decide,by decide,by rw[yDF (n:=16) (a:=23) (b:=4) (by decide) (by decide) (by decide)];simp⟩
theorem n64:Num F32 1115684864 (64 * U):=⟨false,8388608,-17,by decide,by decide,by rw[yDF (n:=64) (a:=23) (b:=6) (by decide) (by decide) (by decide)];simp⟩
theorem nm64:Num F32 3263168512 (-(64 * U)):=⟨true,8388608,-17,by decide,by decide,by rw[yDF (n:=64) (a:=23) (b:=6) (by decide) (by decide) (by decide)];simp only[if_true,neg_mul,one_mul];rfl⟩
theorem n0:Num F32 0 0:=⟨false,0,-149,by decide,by decide,by unfold sv signed;simp⟩
theorem d16:Num F64 4625196817309499392 (16 * U):=⟨false,4503599627370496,-48,by decide,by decide,by rw[yDF (n:=16) (a:=52) (b:=4) (by decide) (by decide) (by decide)];simp⟩
theorem d64:Num F64 4634204016564240384 (64 * U):=⟨false,4503599627370496,-46,by decide,by decide,by rw[yDF (n:=64) (a:=52) (b:=6) (by decide) (by decide) (by decide)];simp⟩
theorem dm64:Num F64 13857576053419016192 (-(64 * U)):=⟨true,4503599627370496,-46,by decide,by decide,by rw[yDF (n:=64) (a:=52) (b:=6) (by decide) (by decide) (by decide)];simp only[if_true,neg_mul,one_mul];rfl⟩
theorem dmax:Num F64 9218868437227405311 (sv false 9007199254740991 971):=⟨false,9007199254740991,971,by decide,by decide,rfl⟩
theorem y4f(c:Bool)(e:Int):z0d c e=(bif c then e else 0,()):=by
 unfold z0d;cases c<;>rfl
structure Lv (x:Nat) (s:Bool) (m:Nat) (e:Int):Prop where
 rd:F32.read x=.number s m e
 hm:m < 16777216
 lo:-149<=e
 hi:e<=104
variable {x:Nat} {s:Bool} {m:Nat} {e:Int}
theorem Lv.num(h:Lv x s m e):Num F32 x (sv s m e):=⟨s,m,e,h.rd,by have:=h.lo;omega,rfl⟩
theorem Lv.bnd(h:Lv x s m e):(sv s m e).natAbs < 2 ^ 3128:=by
 rw[y8z];have h1:m * 2 ^ (e+3000).toNat < 2 ^ 24 * 2 ^ (e+3000).toNat:=Nat.mul_lt_mul_of_pos_right h.hm (Nat.two_pow_pos _);rw[<- pow_add]at h1;exact Nat.lt_of_lt_of_le h1 (Nat.pow_le_pow_right (by decide) (by have:=h.hi;omega))
theorem yNQ(k:FloatKind):Has k.format 0:=by
 have:=y7u k (n:=0) (by decide)
 rwa[Int.zero_mul]at this
theorem Lv.has16(k:FloatKind)(h:Lv x s m e)(hb:(sv s m e).natAbs<=64 * 2 ^ 3000):Has k.format (16 * sv s m e):=by
 have ha:=y8z s m e;have e1:(16 * sv s m e).natAbs=m * 2 ^ ((e+4)+3000).toNat:=by
  rw[Int.natAbs_mul,ha];have:=h.lo;rw[show ((e+4)+3000).toNat=4+(e+3000).toNat by omega,pow_add]
  show 16 * _=m * (16 * _)
  rw[Nat.mul_left_comm]
 refine ⟨⟨m,e+4,e1,?_,?_⟩,?_⟩
 ·refine Nat.lt_of_lt_of_le h.hm ?_
  cases k<;>decide
 ·have:=h.lo;have hl:k.format.leastPlace<=-149:=by cases k<;>decide
  omega
 ·rw[Int.natAbs_mul];show 16 * _ < _
  have h2:16 * (sv s m e).natAbs<=1024 * 2 ^ 3000:=by
   rw[show (1024:Nat)=16 * 64 by rfl,Nat.mul_assoc]
   exact Nat.mul_le_mul_left _ hb
  refine Nat.lt_of_le_of_lt h2 ?_
  rw[show (3128:Nat)=128+3000 by rfl,pow_add]
  exact Nat.mul_lt_mul_of_pos_right (by decide) (Nat.two_pow_pos _)
theorem U64:64 * U=1024 * P16:=by rw[U_P];omega
theorem y3L{V:Int}(h:¬ (V < -(1024 * P16)\/1024 * P16 < V)):V.natAbs<=64 * 2 ^ 3000:=by
 have h1:=U64;have h2:(((64 * 2 ^ 3000:Nat)):Int)=64 * U:=by rw[yE4];exact Int.natCast_mul _ _
 omega
theorem yG1(V:Int):(16 * V).tdiv U=V.tdiv P16:=by
 rw[U_P];exact Int.mul_tdiv_mul_of_pos _ _ (by decide)
theorem yDU(V:Int):((16 * V).tdiv U * U=16 * V) ↔ V % P16=0:=by
 rw[yG1,U_P];have h1:=Int.tdiv_mul_add_tmod V P16;have h2:V % P16=0 ↔ V.tmod P16=0:=by
  rw[<- Int.dvd_iff_emod_eq_zero,Int.dvd_iff_tmod_eq_zero]
 rw[h2];have h3:V.tdiv P16 * (16 * P16)=16 * (V.tdiv P16 * P16):=by rw[Int.mul_left_comm]
 rw[h3];omega
theorem Lv.y16(h:Lv x s m e)(hr:¬ (sv s m e < -(1024 * P16)\/1024 * P16 < sv s m e)):Num F32 (yu .mul .f32 x 1098907648) (16 * sv s m e):=
 yFp (k:=.f32) h.num n16 (by rw[Int.mul_comm 16 (sv s m e),Int.mul_assoc]) (h.has16 .f32 (y3L hr))
theorem yPx{V:Int}(h:V.natAbs<=64 * 2 ^ 3000):(16 * V).natAbs<=1000000 * 2 ^ 3000:=by
 rw[Int.natAbs_mul];show 16 * V.natAbs<=_
 have h2:16 * V.natAbs<=1024 * 2 ^ 3000:=by
  rw[show (1024:Nat)=16 * 64 by rfl,Nat.mul_assoc]
  exact Nat.mul_le_mul_left _ h
 exact Nat.le_trans h2 (Nat.mul_le_mul_right _ (by decide))
theorem Lv.gsix(h:Lv x s m e)(hr:¬ (sv s m e < -(1024 * P16)\/1024 * P16 < sv s m e)):za_M x=some ((sv s m e).tdiv P16,()):=by
 unfold za_M za_m;rw[yFU (h.y16 hr) (yPx (y3L hr)),yG1];rfl
theorem yCa{V:Int}(h:V.natAbs<=64 * 2 ^ 3000):(V.tdiv P16).natAbs<=1024:=by
 have hP:=yRm;rw[Int.natAbs_tdiv,hP,Int.natAbs_natCast];refine Nat.div_le_of_le_mul (Nat.le_trans h ?_);rw[show (3000:Nat)=4+2996 by rfl,pow_add,<- Nat.mul_assoc,Nat.mul_comm]
 exact Nat.le_refl _
theorem yK7(x:Nat):zY_M x=some (lvE x,()):=by
 unfold zY_M zY_m lvE;rcases yJV x with ⟨s,m,e,h1,h2,h3,h4⟩|⟨s,h1⟩|⟨s,t,h1⟩
 ·have h:Lv x s m e:=⟨h1,h2,h3,h4⟩;rw[h1];have c1:yT .neq .f32 (yu .sub .f32 x x) 0=false:=by
   rw[yAT (yO7 (k:=.f32) h.num h.num (by rw[Int.sub_self];exact yNQ _)) n0]
   simp
  rw[c1,cond_false,yAQ h.num nm64,y8X h.num n64,U64];rw[yDy];by_cases a1:sv s m e < -(1024 * P16)
  ·rw[bifT (y7 a1),if_pos (.inl a1)]
  ·rw[bifF (yE a1)];by_cases a2:1024 * P16 < sv s m e
   ·rw[bifT (y7 a2),if_pos (.inr a2)]
   ·have hr:¬ (sv s m e < -(1024 * P16)\/1024 * P16 < sv s m e):=by omega
    rw[bifF (yE (show ¬ sv s m e > 1024 * P16 from a2)),if_neg hr,h.gsix hr]
    simp only[bind_some];have hs:=yCa (y3L hr);rw[y4f,yAT (yNd .f32 (by omega)) (h.y16 hr),<- yG1]
    by_cases hw:sv s m e % P16=0
    ·rw[if_pos hw,y7 ((yDU _).2 hw)];rfl
    ·rw[if_neg hw,yE (λ q=>hw ((yDU _).1 q))]
     rfl
 ·rw[h1];have c1:yT .neq .f32 (yu .sub .f32 x x) 0=true:=by
   have hb:floatBits .sub .f32 x x=none:=by
    show F32.sub x x=none
    unfold Format.sub;rw[h1];cases s<;>rfl
   unfold yu;rw[hb];decide
  rw[c1];rfl
 ·rw[h1];have c1:yT .neq .f32 (yu .sub .f32 x x) 0=true:=by
   have hb:floatBits .sub .f32 x x=none:=by
    show F32.sub x x=none
    unfold Format.sub;rw[h1];rfl
   unfold yu;rw[hb];decide
  rw[c1];rfl
theorem Lv.has64(h:Lv x s m e):Has F64 (sv s m e):=
 ⟨⟨m,e,y8z s m e,Nat.lt_trans h.hm (by decide),by have:=h.lo;have:F64.leastPlace=-1074:=(by decide);omega⟩,h.bnd⟩
theorem Lv.wide(h:Lv x s m e):∃ v,y1n .f32 x .f64=some v/\Num F64 v (sv s m e)/\v < 2 ^ 64:=by
 have hn:Num F64 (F64.write (.number s m e)) (sv s m e):=y41 .f64 rfl (by have:=h.lo;omega) h.has64
 refine ⟨F64.write (.number s m e),?_,hn,Format.write_lt F64 _⟩;unfold y1n;rw[h.rd];show floatToFloatBits .f32 x .f64=_
 unfold floatToFloatBits;rw[if_neg (by decide)]
 show (match F32.read x with|.nan _ _=>none|.infinity s=>_|.number s m e=>_)=_
 rw[h.rd];show (if (F64.read (F64.write (.number s m e))).isInfinity=true then none else some (F64.write (.number s m e)))=_
 obtain ⟨s',m',e',g1,_⟩:=hn;rw[g1];rfl
theorem yJv{v:Nat}(h:v < 2 ^ 64):y7x v=v % 2 ^ 63:=by
 unfold y7x y23;simp only[BitVec.ofInt_natCast];have h1:(~~~(BitVec.ofInt IntKind.u64.bits 9223372036854775808))=BitVec.ofNat IntKind.u64.bits (2 ^ 63 - 1):=by decide
 rw[h1,BitVec.toNat_and,BitVec.toNat_ofNat,BitVec.toNat_ofNat];have h2:(2:Nat) ^ IntKind.u64.bits=2 ^ 64:=rfl;rw[h2,Nat.mod_eq_of_lt h,Nat.mod_eq_of_lt (by decide:2 ^ 63 - 1 < 2 ^ 64),Nat.and_two_pow_sub_one_eq_mod]
 have h3:v % 2 ^ 63 < 2 ^ 63:=Nat.mod_lt _ (by decide)
 generalize v % 2 ^ 63=w at h3;have:IntKind.u64.wrap (w:Int)=w:=by
  unfold IntKind.wrap IntKind.bits IntKind.signed;simp;omega
 rw[this];exact Int.toNat_natCast w
theorem yNJ{v:Nat}(h:F64.read v=.number s m e):F64.read (v % 2 ^ 63)=.number false m e:=by
 have hs:F64.signWeight=2 ^ 63:=rfl;unfold Format.read at h ⊢;simp only[hs]at h ⊢;rw[Nat.mod_mod,Nat.div_eq_of_lt (Nat.mod_lt _ (by decide))]
 generalize v % 2 ^ 63=r at h;generalize (v / 2 ^ 63 % 2 == 1)=n at h;by_cases h1:r < F64.binade
 ·rw[if_pos h1]at h ⊢;cases h;rfl
 ·rw[if_neg h1]at h ⊢;by_cases h2:r < F64.infRung
  ·rw[if_pos h2]at h ⊢;cases h;rfl
  ·rw[if_neg h2]at h;split at h<;>cases h
theorem yNC{v:Nat}{V:Int}(hv:v < 2 ^ 64)(h:Num F64 v V):∃ a,absM v=some (a,())/\Num F64 a V.natAbs:=by
 obtain ⟨s,m,e,h1,h2,h3⟩:=h;have hr:=yNJ h1;refine ⟨v % 2 ^ 63,?_,false,m,e,hr,h2,?_⟩
 ·unfold absM;rw[yJv hv];show (bif (F64.read (v % 2 ^ 63)).isNaN || (F64.read v).isNaN then none else _)=_
  rw[hr,h1];rfl
 ·rw[<- h3,y8z];unfold sv signed;rw[shiftLeft_eq];simp
theorem yPc{V:Int}(h:V.natAbs < 2 ^ 3128):¬ ((V.natAbs:Int) > sv false 9007199254740991 971):=by
 have h1:sv false 9007199254740991 971=((9007199254740991 * 2 ^ 3971:Nat):Int):=by
  unfold sv signed;rw[shiftLeft_eq];rfl
 rw[h1];have h2:(2:Nat) ^ 3128<=1 * 2 ^ 3971:=by
  rw[Nat.one_mul];exact Nat.pow_le_pow_right (by decide) (by decide)
 have h3:1 * 2 ^ 3971<=9007199254740991 * 2 ^ 3971:=Nat.mul_le_mul_right _ (by decide)
 have h4:=Nat.lt_of_lt_of_le h (Nat.le_trans h2 h3);generalize 9007199254740991 * 2 ^ 3971=b at h4;omega
theorem yLv{y:Nat}{W:Int}(h:Num F64 y W)(hb:W.natAbs<=1000000 * 2 ^ 3000):∃ z Z,y90 y=some (z,())/\Num F64 z Z/\(W=Z ↔ W % U=0):=by
 obtain ⟨s,m,e,h1,h2,h3⟩:=h;have ha:=y8z s m e;rw[h3]at ha;obtain ⟨w1,w2⟩:=yCs m (e:=e) (by omega)
 have hf:y90 y=some (F64.write (.number s (Toward.down.cut s (m <<< e.toNat) (-e).toNat) 0),()):=by
  unfold y90;show (bif (F64.read y).isNaN then none else some (F64.write ((F64.read y).integral .down),()))=_
  rw[h1];rfl
 rw[yMB,shiftLeft_eq]at hf;have hq:m * 2 ^ e.toNat / 2 ^ (-e).toNat<=1000000:=by
  rw[w1,<- ha];exact Nat.div_le_of_le_mul (by rw[Nat.mul_comm];exact hb)
 generalize hc:m * 2 ^ e.toNat / 2 ^ (-e).toNat+(s && m * 2 ^ e.toNat % 2 ^ (-e).toNat != 0).toNat=c at hf;have hc2:c<=1000001:=by
  have:(s && m * 2 ^ e.toNat % 2 ^ (-e).toNat != 0).toNat<=1:=by cases (s && m * 2 ^ e.toNat % 2 ^ (-e).toNat != 0)<;>decide
  omega
 have hZ:sv s c 0=(if s then -(c:Int)else c) * U:=by
  unfold sv signed;rw[shiftLeft_eq,yE4,show ((0:Int)+3000).toNat=3000 by rfl,Int.natCast_mul]
  cases s
  ·simp only[Bool.false_eq_true,if_false]
  ·simp only[if_true,neg_mul]
 refine ⟨_,_,hf,y41 .f64 hZ (by decide) (y7u .f64 (by cases s<;>simp<;>omega)),?_⟩
 constructor
 ·intro h;rw[h];exact Int.mul_emod_left _ _
 ·intro h;have hdiv:(2 ^ 3000:Nat) ∣ W.natAbs:=by
   have:=Int.dvd_of_emod_eq_zero h;rw[yE4]at this;exact Int.natAbs_dvd_natAbs.2 this
  have hmod:m * 2 ^ (e+3000).toNat % 2 ^ 3000=0:=by rw[<- ha];exact Nat.mod_eq_zero_of_dvd hdiv
  have hr:=w2.2 hmod;rw[hr]at hc;simp only[bne_self_eq_false,Bool.and_false,Bool.toNat_false,Nat.add_zero]at hc;rw[<- hZ,<- h3];refine yF4 ?_
  rw[<- hc,w1,show ((0:Int)+3000).toNat=3000 by rfl]
  exact (Nat.div_mul_cancel (Nat.dvd_of_mod_eq_zero hmod)).symm
theorem ySt(V:Int):(16 * V) % U=0 ↔ V % P16=0:=by
 rw[U_P,Int.mul_emod_mul_of_pos _ _ (by decide)]
 omega
theorem Lv.w16(h:Lv x s m e){v:Nat}(hv:Num F64 v (sv s m e))(hr:¬ (sv s m e < -(1024 * P16)\/1024 * P16 < sv s m e)):Num F64 (yu .mul .f64 4625196817309499392 v) (16 * sv s m e):=
 yFp (k:=.f64) d16 hv (by rw[Int.mul_assoc,Int.mul_assoc,Int.mul_comm U]) (h.has16 .f64 (y3L hr))
theorem yJI(x:Nat):zb_M x=some (lvE x,()):=by
 unfold zb_M zb_m lvE;rcases yJV x with ⟨s,m,e,h1,h2,h3,h4⟩|⟨s,h1⟩|⟨s,t,h1⟩
 ·have h:Lv x s m e:=⟨h1,h2,h3,h4⟩;obtain ⟨v,v1,v2,v3⟩:=h.wide;obtain ⟨a,a1,a2⟩:=yNC v3 v2;rw[h1,v1];simp only[bind_some];have c1:(z0j v).1=false:=by
   show yT .neq .f64 v v=false
   rw[yAT v2 v2];simp
  have c2:yMv v 0=some (false,()):=by
   unfold yMv yPp;rw[bifT (by rfl),a1]
   simp only[bind_some];rw[y8X a2 dmax,yE (yPc h.bnd)]
  rw[c1,cond_false,c2];simp only[bind_some,cond_false];rw[y8X v2 d64,yAQ v2 dm64,U64];rw[yDy];by_cases b1:1024 * P16 < sv s m e
  ·rw[bifT (y7 (show sv s m e > 1024 * P16 from b1)),if_pos (.inr b1)]
  ·rw[bifF (yE (show ¬ sv s m e > 1024 * P16 from b1))]
   by_cases b2:sv s m e < -(1024 * P16)
   ·rw[bifT (y7 b2),if_pos (.inl b2)]
   ·have hr:¬ (sv s m e < -(1024 * P16)\/1024 * P16 < sv s m e):=by omega
    rw[bifF (yE b2),if_neg hr];obtain ⟨z,Z,z1,z2,z3⟩:=yLv (h.w16 v2 hr) (yPx (y3L hr));rw[z1];simp only[bind_some];rw[yAT (h.w16 v2 hr) z2];by_cases hw:sv s m e % P16=0
    ·rw[if_pos hw,y7 (z3.2 ((ySt _).2 hw))];rfl
    ·rw[if_neg hw,yE (λ q=>hw ((ySt _).1 (z3.1 q)))]
     rfl
 ·rw[h1];have v1:y1n .f32 x .f64=some (F64.write (.infinity s)):=by
   unfold y1n;rw[h1];show floatToFloatBits .f32 x .f64=_
   unfold floatToFloatBits;rw[if_neg (by decide)]
   show (match F32.read x with|.nan _ _=>none|.infinity s=>_|.number s m e=>_)=_
   rw[h1];rfl
  rw[v1];clear v1 h1;cases s
  ·refine Eq.trans (b:=some ((1:Int),())) ?_ rfl;kernel_rfl
  ·refine Eq.trans (b:=some ((1:Int),())) ?_ rfl;kernel_rfl
 ·rw[h1];have v1:y1n .f32 x .f64=some (fnan .f64):=by
   unfold y1n;rw[h1];rfl
  rw[v1];refine Eq.trans (b:=some ((1:Int),())) ?_ rfl;kernel_rfl
structure Six (x:Nat) (n:Int):Prop where
 num:Num F32 x (n * P16)
 low:-1024<=n/\n<=1024
theorem yLG{x:Nat}(h:lvE x=0):∃ n,Six x n/\za_M x=some (n,())/\zf_M x=some (n,()):=by
 unfold lvE at h;rcases yJV x with ⟨s,m,e,h1,h2,h3,h4⟩|⟨s,h1⟩|⟨s,t,h1⟩
 ·have L:Lv x s m e:=⟨h1,h2,h3,h4⟩;rw[h1]at h;rw[yDy]at h;by_cases hr:sv s m e < -(1024 * P16)\/1024 * P16 < sv s m e
  ·rw[if_pos hr]at h;cases h
  ·rw[if_neg hr]at h;by_cases hw:sv s m e % P16=0
   ·have hs:=yCa (y3L hr);have hd:(sv s m e).tdiv P16 * P16=sv s m e:=Int.tdiv_mul_cancel (Int.dvd_of_emod_eq_zero hw);refine ⟨(sv s m e).tdiv P16,⟨by rw[hd];exact L.num,by omega⟩,L.gsix hr,?_⟩
    obtain ⟨v,v1,v2,v3⟩:=L.wide;unfold zf_M zf_m;rw[v1];simp only[bind_some];rw[yFU (L.w16 v2 hr) (yPx (y3L hr)),yG1];rfl
   ·rw[if_neg hw]at h;cases h
 ·rw[h1]at h;cases h
 ·rw[h1]at h;cases h
noncomputable def sx(x:Nat):Int:=match za_M x with
 |some (n,_)=>n
 |none=>0
theorem yQt{x:Nat}(h:lvE x=0):Six x (sx x):=by
 obtain ⟨n,h1,h2,_⟩:=yLG h;unfold sx;rw[h2];exact h1
theorem y4b{n k:Int}:n * P16 < k * P16 ↔ n < k:=Int.mul_lt_mul_right ySC
theorem yT1{n k:Int}:n * P16=k * P16 ↔ n=k:=⟨λ h=>Int.eq_of_mul_eq_mul_right (by have:=ySC;omega) h,λ h=>by rw[h]⟩
end Go.Tw
end
