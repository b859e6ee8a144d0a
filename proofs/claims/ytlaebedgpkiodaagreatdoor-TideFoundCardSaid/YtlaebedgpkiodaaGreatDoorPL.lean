import Derived.Test.YtlaebedgpkiodaaGreatDoorFM
import Derived.Test.YtlaebedgpkiodaaGreatDoorPB
set_option linter.all false
set_option maxRecDepth 100000
set_option exponentiation.threshold 4000
open Int (neg_mul one_mul)
open Nat (pow_add)
namespace Go.Tw
open Go.Vx Go.Vx.B Go.Proofs Ieee
abbrev F32:=FloatKind.f32.format
abbrev F64:=FloatKind.f64.format
def lvD:Datum->Int
 |.number s m e=>if sv s m e < -(1024 * P16)\/1024 * P16 < sv s m e then 3 else if sv s m e % P16=0 then 0 else 3
 |_=>1
theorem yES(s:Bool)(m:Nat)(e:Int):lvD (.number s m e)=if sv s m e < -(1024 * P16)\/1024 * P16 < sv s m e then 3 else if sv s m e % P16=0 then 0 else 3:=rfl
def lvE(x:Nat):Int:=lvD (F32.read x)
theorem yNO{s:Bool}{m n a b:Nat}{e:Int}(hm:m=2 ^ a)(hn:n=2 ^ b)(h:a+(e+3000).toNat=b+3000):sv s m e=(if s then -1 else 1) * (n:Int) * U:=by
 have h1:m * 2 ^ (e+3000).toNat=n * 2 ^ ((0:Int)+3000).toNat:=by
  rw[hm,hn,<- pow_add,<- pow_add,h];rfl
 rw[yIe h1];unfold sv signed;rw[Nat.shiftLeft_eq,yIk,show ((0:Int)+3000).toNat=3000 by rfl,Int.natCast_mul]
 cases s
 ·simp only[Bool.false_eq_true,if_false,one_mul]
 ·simp only[if_true,neg_mul,one_mul]
theorem n16:Num F32 1098907648 (16 * U):=⟨false,8388608,-19,by decide,by decide,by rw[yNO (n:=16) (a:=23) (b:=4) (by decide) (by decide) (by decide)];simp⟩
theorem n64:Num F32 1115684864 (64 * U):=⟨false,8388608,-17,by decide,by decide,by rw[yNO (n:=64) (a:=23) (b:=6) (by decide) (by decide) (by decide)];simp⟩
theorem nm64:Num F32 3263168512 (-(64 * U)):=⟨true,8388608,-17,by decide,by decide,by rw[yNO (n:=64) (a:=23) (b:=6) (by decide) (by decide) (by decide)];simp only[if_true,neg_mul,one_mul];rfl⟩
theorem n0:Num F32 0 0:=⟨false,0,-149,by decide,by decide,by unfold sv signed;simp⟩
theorem y4m(c:Bool)(e:Int):z0Q c e=(bif c then e else 0,()):=by
 unfold z0Q;cases c<;>rfl
structure Lv (x:Nat) (s:Bool) (m:Nat) (e:Int):Prop where
 rd:F32.read x=.number s m e
 hm:m < 16777216
 lo:-149<=e
 hi:e<=104
variable {x:Nat} {s:Bool} {m:Nat} {e:Int}
theorem Lv.num(h:Lv x s m e):Num F32 x (sv s m e):=⟨s,m,e,h.rd,by have:=h.lo;omega,rfl⟩
theorem Lv.bnd(h:Lv x s m e):(sv s m e).natAbs < 2 ^ 3128:=by
 rw[yCH];have h1:m * 2 ^ (e+3000).toNat < 2 ^ 24 * 2 ^ (e+3000).toNat:=Nat.mul_lt_mul_of_pos_right h.hm (Nat.two_pow_pos _);rw[<- pow_add]at h1;exact Nat.lt_of_lt_of_le h1 (Nat.pow_le_pow_right (by decide) (by have:=h.hi;omega))
theorem yNB(k:FloatKind):Has k.format 0:=by
 have:=yD8 k (n:=0) (by decide)
 rwa[Int.zero_mul]at this
theorem Lv.has16(k:FloatKind)(h:Lv x s m e)(hb:(sv s m e).natAbs<=64 * 2 ^ 3000):Has k.format (16 * sv s m e):=by
 have ha:=yCH s m e;have e1:(16 * sv s m e).natAbs=m * 2 ^ ((e+4)+3000).toNat:=by
  rw[Int.natAbs_mul,ha];have:=h.lo;rw[show ((e+4)+3000).toNat=4+(e+3000).toNat by omega,pow_add]
  show 16 * _=m * (16 * _)
  rw[Nat.mul_left_comm]
 refine ⟨⟨m,e+4,e1,?_,?_⟩,?_⟩
 ·refine Nat.lt_of_lt_of_le h.hm ?_
  cases k<;>decide
 ·have:=h.lo;have hl:k.format.leastPlace<=-149:=by cases k<;>decide
  omega
 ·rw[Int.natAbs_mul];show 16 * _ < _
  have h2:16 * (sv s m e).natAbs<=1024 * 2 ^ 3000:=by
   rw[show (1024:Nat)=16 * 64 by rfl,Nat.mul_assoc]
   exact Nat.mul_le_mul_left _ hb
  refine Nat.lt_of_le_of_lt h2 ?_
  rw[show (3128:Nat)=128+3000 by rfl,pow_add]
  exact Nat.mul_lt_mul_of_pos_right (by decide) (Nat.two_pow_pos _)
theorem U64:64 * U=1024 * P16:=by rw[U_P];omega
theorem y7v{V:Int}(h:¬ (V < -(1024 * P16)\/1024 * P16 < V)):V.natAbs<=64 * 2 ^ 3000:=by
 have h1:=U64;have h2:(((64 * 2 ^ 3000:Nat)):Int)=64 * U:=by rw[yIk];exact Int.natCast_mul _ _
 omega
theorem yKY(V:Int):(16 * V).tdiv U=V.tdiv P16:=by
 rw[U_P];exact Int.mul_tdiv_mul_of_pos _ _ (by decide)
theorem yDb(V:Int):((16 * V).tdiv U * U=16 * V) ↔ V % P16=0:=by
 rw[yKY,U_P];have h1:=Int.tdiv_mul_add_tmod V P16;have h2:V % P16=0 ↔ V.tmod P16=0:=by
  rw[<- Int.dvd_iff_emod_eq_zero,Int.dvd_iff_tmod_eq_zero]
 rw[h2];have h3:V.tdiv P16 * (16 * P16)=16 * (V.tdiv P16 * P16):=by rw[Int.mul_left_comm]
 rw[h3];omega
theorem Lv.y16(h:Lv x s m e)(hr:¬ (sv s m e < -(1024 * P16)\/1024 * P16 < sv s m e)):Num F32 (yv .mul .f32 x 1098907648) (16 * sv s m e):=
 yKq (k:=.f32) h.num n16 (by rw[Int.mul_comm 16 (sv s m e),Int.mul_assoc]) (h.has16 .f32 (y7v hr))
theorem ySg{V:Int}(h:V.natAbs<=64 * 2 ^ 3000):(16 * V).natAbs<=1000000 * 2 ^ 3000:=by
 rw[Int.natAbs_mul];show 16 * V.natAbs<=_
 have h2:16 * V.natAbs<=1024 * 2 ^ 3000:=by
  rw[show (1024:Nat)=16 * 64 by rfl,Nat.mul_assoc]
  exact Nat.mul_le_mul_left _ h
 exact Nat.le_trans h2 (Nat.mul_le_mul_right _ (by decide))
theorem Lv.gsix(h:Lv x s m e)(hr:¬ (sv s m e < -(1024 * P16)\/1024 * P16 < sv s m e)):zY_M x=some ((sv s m e).tdiv P16,()):=by
 unfold zY_M zY_m;rw[yNf (h.y16 hr) (ySg (y7v hr)),yKY];rfl
theorem yCP{V:Int}(h:V.natAbs<=64 * 2 ^ 3000):(V.tdiv P16).natAbs<=1024:=by
 have hP:=yS2;rw[Int.natAbs_tdiv,hP,Int.natAbs_natCast];refine Nat.div_le_of_le_mul (Nat.le_trans h ?_);rw[show (3000:Nat)=4+2996 by rfl,pow_add,<- Nat.mul_assoc,Nat.mul_comm]
 exact Nat.le_refl _
theorem yKN(x:Nat):zW_M x=some (lvE x,()):=by
 unfold zW_M zW_m lvE;rcases yOB x with ⟨s,m,e,h1,h2,h3,h4⟩|⟨s,h1⟩|⟨s,t,h1⟩
 ·have h:Lv x s m e:=⟨h1,h2,h3,h4⟩;rw[h1];have c1:y03 .neq .f32 (yv .sub .f32 x x) 0=false:=by
   rw[yJX (yOS (k:=.f32) h.num h.num (by rw[Int.sub_self];exact yNB _)) n0]
   simp
  rw[c1,cond_false,yLp h.num nm64,yKw h.num n64,U64];rw[yES];by_cases a1:sv s m e < -(1024 * P16)
  ·rw[bifT (yB a1),if_pos (.inl a1)]
  ·rw[bifF (yK a1)];by_cases a2:1024 * P16 < sv s m e
   ·rw[bifT (yB a2),if_pos (.inr a2)]
   ·have hr:¬ (sv s m e < -(1024 * P16)\/1024 * P16 < sv s m e):=by omega
    rw[bifF (yK (show ¬ sv s m e > 1024 * P16 from a2)),if_neg hr,h.gsix hr]
    simp only[Option.bind_some];have hs:=yCP (y7v hr);rw[y4m,yJX (yN6 .f32 (by omega)) (h.y16 hr),<- yKY]
    by_cases hw:sv s m e % P16=0
    ·rw[if_pos hw,yB ((yDb _).2 hw)];rfl
    ·rw[if_neg hw,yK (λ q=>hw ((yDb _).1 q))]
     rfl
 ·rw[h1];have c1:y03 .neq .f32 (yv .sub .f32 x x) 0=true:=by
   have hb:floatBits .sub .f32 x x=none:=by
    show F32.sub x x=none
    unfold Format.sub;rw[h1];cases s<;>rfl
   unfold yv;rw[hb];decide
  rw[c1];rfl
 ·rw[h1];have c1:y03 .neq .f32 (yv .sub .f32 x x) 0=true:=by
   have hb:floatBits .sub .f32 x x=none:=by
    show F32.sub x x=none
    unfold Format.sub;rw[h1];rfl
   unfold yv;rw[hb];decide
  rw[c1];rfl
theorem Lv.has64(h:Lv x s m e):Has F64 (sv s m e):=
 ⟨⟨m,e,yCH s m e,Nat.lt_trans h.hm (by decide),by have:=h.lo;have:F64.leastPlace=-1074:=(by decide);omega⟩,h.bnd⟩
theorem Lv.wide(h:Lv x s m e):∃ v,y7S .f32 x .f64=some v/\Num F64 v (sv s m e)/\v < 2 ^ 64:=by
 have hn:Num F64 (F64.write (.number s m e)) (sv s m e):=y5q .f64 rfl (by have:=h.lo;omega) h.has64
 refine ⟨F64.write (.number s m e),?_,hn,Format.write_lt F64 _⟩;unfold y7S;rw[h.rd];show floatToFloatBits .f32 x .f64=_
 unfold floatToFloatBits;rw[if_neg (by decide)]
 show (match F32.read x with|.nan _ _=>none|.infinity s=>_|.number s m e=>_)=_
 rw[h.rd];show (if (F64.read (F64.write (.number s m e))).isInfinity=true then none else some (F64.write (.number s m e)))=_
 obtain ⟨s',m',e',g1,_⟩:=hn;rw[g1];rfl
structure Six (x:Nat) (n:Int):Prop where
 num:Num F32 x (n * P16)
 low:-1024<=n/\n<=1024
theorem yOI{x:Nat}(h:lvE x=0):∃ n,Six x n/\zY_M x=some (n,())/\True:=by
 unfold lvE at h;rcases yOB x with ⟨s,m,e,h1,h2,h3,h4⟩|⟨s,h1⟩|⟨s,t,h1⟩
 ·have L:Lv x s m e:=⟨h1,h2,h3,h4⟩;rw[h1]at h;rw[yES]at h;by_cases hr:sv s m e < -(1024 * P16)\/1024 * P16 < sv s m e
  ·rw[if_pos hr]at h;cases h
  ·rw[if_neg hr]at h;by_cases hw:sv s m e % P16=0
   ·have hs:=yCP (y7v hr);have hd:(sv s m e).tdiv P16 * P16=sv s m e:=Int.tdiv_mul_cancel (Int.dvd_of_emod_eq_zero hw);refine ⟨(sv s m e).tdiv P16,⟨by rw[hd];exact L.num,by omega⟩,L.gsix hr,?_⟩
    trivial
   ·rw[if_neg hw]at h;cases h
 ·rw[h1]at h;cases h
 ·rw[h1]at h;cases h
noncomputable def sx(x:Nat):Int:=match zY_M x with
 |some (n,_)=>n
 |none=>0
theorem yRN{x:Nat}(h:lvE x=0):Six x (sx x):=by
 obtain ⟨n,h1,h2,_⟩:=yOI h;unfold sx;rw[h2];exact h1
theorem yA6{n k:Int}:n * P16 < k * P16 ↔ n < k:=Int.mul_lt_mul_right yP9
theorem yO9{n k:Int}:n * P16=k * P16 ↔ n=k:=⟨λ h=>Int.eq_of_mul_eq_mul_right (by have:=yP9;omega) h,λ h=>by rw[h]⟩
theorem yPw{x:Nat}{V W:Int}(h:Num F32 x V)(g:Num F32 x W):V=W:=by
 obtain ⟨s,m,e,h1,h2,h3⟩:=h;obtain ⟨t,n,j,g1,g2,g3⟩:=g;rw[h1]at g1;cases g1;rw[<- h3,<- g3]
theorem yO3{x:Nat}{n:Int}(h:Six x n):lvE x=0:=by
 obtain ⟨⟨s,m,e,h1,h2,h3⟩,hl⟩:=h;unfold lvE;rw[h1,yES,h3];have hp:=yP9;have a1:-1024 * P16<=n * P16:=Int.mul_le_mul_of_nonneg_right hl.1 (by omega)
 have a2:n * P16<=1024 * P16:=Int.mul_le_mul_of_nonneg_right hl.2 (by omega)
 rw[neg_mul]at a1;rw[if_neg (by omega),if_pos (Int.mul_emod_left _ _)]
theorem ySY{x:Nat}{n:Int}(h:Six x n):sx x=n:=yO9.1 (yPw (yRN (yO3 h)).num h.num)
end Go.Tw
