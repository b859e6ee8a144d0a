import Derived.Test.YtlaebedgpkiodaaGreatDoorPB
set_option linter.all false
set_option maxRecDepth 100000
open Option (bind_some)
open Int (natAbs_tmod)
namespace Go.Tw
open Go.Vx Go.Vx.B Go.Proofs
def euc:Nat->Int->Int->Int
 |0,a,_=>a
 |f+1,a,b=>if b=0 then a else euc f b (a.tmod b)
def Done:Nat->Int->Int->Prop
 |0,_,b=>b=0
 |f+1,a,b=>b=0\/Done f b (a.tmod b)
theorem yBy{β:Type}{K:Int->β}{body:Int×Int->Option (β⊕(Int×Int))}
  (hb:∀ a b:Int,body (a,b)=if b=0 then some (.inl (K a))else some (.inr (b,a.tmod b))):∀ (f m:Nat) (a b:Int),f < m->Done f a b->y1H body m (a,b)=some (K (euc f a b))
 |0,m,a,b,hm,h=>by
  obtain ⟨m,rfl⟩:∃ j,m=j+1:=⟨m - 1,by omega⟩
  unfold y1H;rw[hb,if_pos (show b=0 from h)]
  rfl
 |f+1,m,a,b,hm,h=>by
  obtain ⟨m,rfl⟩:∃ j,m=j+1:=⟨m - 1,by omega⟩
  unfold y1H euc;rw[hb];by_cases h0:b=0
  ·rw[if_pos h0,if_pos h0];rfl
  ·rw[if_neg h0,if_neg h0];simp only[bind_some];exact yBy hb f m b (a.tmod b) (by omega) (h.resolve_left h0)
theorem yLP:∀ (f:Nat) (a b:Int),Done f a b->Done (f+1) a b
 |0,a,b,h=>.inl h
 |f+1,a,b,h=>by
  rcases h with h|h
  ·exact .inl h
  ·exact .inr (yLP f _ _ h)
theorem y6c{f g:Nat}{a b:Int}(h:Done f a b)(hg:f<=g):Done g a b:=by
 induction g with
 |zero=>rw[show f=0 by omega]at h;exact h
 |succ g ih =>
  rcases Nat.lt_or_eq_of_le hg with q|q
  ·exact yLP g a b (ih (by omega))
  ·rw[q]at h;exact h
theorem y2i:∀ (k:Nat) (a b:Int),b.natAbs < 2 ^ k->Done (2 * k) a b
 |0,a,b,h=>by show b=0;simp at h;omega
 |k+1,a,b,h=>by
  rw[show 2 * (k+1)=(2 * k+1)+1 by omega]
  by_cases h0:b=0
  ·exact .inl h0
  ·refine .inr ?_
   by_cases h1:a.tmod b=0
   ·exact .inl h1
   ·refine .inr (y2i k _ _ ?_);rw[natAbs_tmod,natAbs_tmod];have hb:0 < b.natAbs:=by omega
    have hr:a.natAbs % b.natAbs≠0:=by
     rw[<- natAbs_tmod];omega
    have hrb:a.natAbs % b.natAbs<=b.natAbs:=Nat.le_of_lt (Nat.mod_lt _ hb);generalize a.natAbs % b.natAbs=r at hr hrb;have h4:b.natAbs % r < r:=Nat.mod_lt _ (by omega)
    rw[Nat.pow_succ]at h;have h6:=Nat.div_add_mod b.natAbs r;have h7:1<=b.natAbs / r:=Nat.div_pos hrb (by omega)
    have h8:r * 1<=r * (b.natAbs / r):=Nat.mul_le_mul_left _ h7;omega
theorem y6U:∀ (f:Nat) (a b:Int),Done f a b->(euc f a b).natAbs=Nat.gcd a.natAbs b.natAbs
 |0,a,b,h=>by
  have h:b=0:=h;subst h;simp[euc]
 |f+1,a,b,h=>by
  unfold euc;by_cases h0:b=0
  ·subst h0;simp
  ·rw[if_neg h0,y6U f _ _ (h.resolve_left h0),natAbs_tmod,Nat.gcd_comm,<- Nat.gcd_rec,Nat.gcd_comm]
theorem yBd:∀ (f:Nat) (a b:Int),0<=a->0<=b->0<=euc f a b
 |0,a,b,h,_=>h
 |f+1,a,b,ha,hb=>by
  unfold euc;by_cases h0:b=0
  ·rw[if_pos h0];exact ha
  ·rw[if_neg h0];exact yBd f _ _ hb (Int.tmod_nonneg b ha)
def absW(n:Int):Int:=if IntKind.i64.wrap (0 - n) > n then IntKind.i64.wrap (0 - n)else n
theorem yEF{n:Int}(h0:-9223372036854775808<=n)(h1:n<=9223372036854775807):(absW n=n.natAbs/\n≠-9223372036854775808)\/(absW n=-9223372036854775808/\n=-9223372036854775808):=by
 unfold absW;by_cases h:n=-9223372036854775808
 ·subst h;exact .inr ⟨by decide,rfl⟩
 ·left
  rw[yw (by omega) (by omega)]
  refine ⟨?_,h⟩;split<;>omega
def divr(num den:Int):Int:=euc 130 den (absW num)
theorem y8s{n:Int}(h0:-9223372036854775808<=n)(h1:n<=9223372036854775807):(absW n).natAbs < 2 ^ 64:=by
 have e:(2:Nat) ^ 64=18446744073709551616:=by decide
 rcases yEF h0 h1 with h|h<;>omega
theorem yMI{num den:Int}(h0:-9223372036854775808<=num)(h1:num<=9223372036854775807):y9e den [num]=some (divr num den,()):=by
 unfold y9e;rw[bifT (yB (by simp[lenMax])),ya]
 unfold y9K;have e:(zy num).1=absW num:=by
  unfold zy absW;first|rw[if_pos rfl]|rfl
 rw[e];have:=yBy (K:=λ x=>(Sum.inr x:(Int×Unit)⊕Int)) (body:=λ s__=>y5f [num] (([num].length:Nat):Int) 0 s__.1 s__.2) (λ a b=>by
  unfold y5f;by_cases h:b=0
  ·subst h;rfl
  ·have e:(b != 0)=true:=by simp[h]
   have e2:(b == 0)=false:=by simp[h]
   simp only[e,e2,cond_true,cond_false,if_neg h]) 130 wMax den (absW num) (by unfold wMax;omega) (y6c (y2i 64 _ _ (y8s h0 h1)) (by omega))
 rw[this];rfl
theorem yPV{num den:Int}(h0:-9223372036854775808<=num)(h1:num<=9223372036854775807)(hd:1<=den)(hd2:den<=9223372036854775807):divr num den≠0/\euc 129 (absW num) den=divr num den/\Done 129 (absW num) den:=by
 have e:(2:Nat) ^ 64=18446744073709551616:=by decide
 have D1:Done 130 den (absW num):=y6c (y2i 64 _ _ (y8s h0 h1)) (by omega)
 have D2:Done 129 (absW num) den:=y6c (y2i 64 _ _ (by omega)) (by omega)
 have hn:divr num den≠0:=by
  intro h;have h3:=y6U 130 den (absW num) D1;unfold divr at h;rw[h]at h3;have:=Nat.gcd_pos_of_pos_left (absW num).natAbs (show 0 < den.natAbs by omega)
  rw[<- h3]at this;simp at this
 refine ⟨hn,?_,D2⟩;rcases yEF h0 h1 with ⟨h,_⟩|⟨h,_⟩
 ·have a1:=y6U 130 den (absW num) D1;have a2:=y6U 129 (absW num) den D2;have b1:=yBd 130 den (absW num) (by omega) (by omega)
  have b2:=yBd 129 (absW num) den (by omega) (by omega)
  rw[Nat.gcd_comm]at a2;unfold divr;omega
 ·unfold divr;rw[h];have t1:den.tmod (-9223372036854775808)=den:=by
   rw[Int.tmod_neg,Int.tmod_eq_of_lt (by omega) (by omega)]
  have q1:euc 130 den (-9223372036854775808)=euc 128 den ((-9223372036854775808:Int).tmod den):=by
   show (if (-9223372036854775808:Int)=0 then den else euc 129 (-9223372036854775808) (den.tmod (-9223372036854775808)))=_
   rw[if_neg (by decide),t1]
   show (if den=0 then _ else euc 128 den ((-9223372036854775808:Int).tmod den))=_
   rw[if_neg (by omega)]
  have q2:euc 129 (-9223372036854775808) den=euc 128 den ((-9223372036854775808:Int).tmod den):=by
   show (if den=0 then _ else euc 128 den ((-9223372036854775808:Int).tmod den))=_
   rw[if_neg (by omega)]
  rw[q1,q2]
def lowR(num den:Int):Gau:=(IntKind.i64.wrap (num.tdiv (divr num den)),IntKind.i64.wrap (den.tdiv (divr num den)),())
theorem yCz{num den:Int}(h0:-9223372036854775808<=num)(h1:num<=9223372036854775807)(hd:1<=den)(hd2:den<=9223372036854775807):y9d num den=some (lowR num den,()):=by
 obtain ⟨a,_,_⟩:=yPV h0 h1 hd hd2;unfold y9d yPg;rw[yMI h0 h1];simp only[bind_some];rw[bifF (by simpa using a),bifF (by simpa using a)]
 rfl
end Go.Tw
