import Derived.Test.YtpcnkpbpcebokaaGreatDoorPT
import Derived.Test.YtpcnkpbpcebokaaGreatDoorP6
set_option linter.all false
open Option (bind_some)
open Int (natAbs_tmod)
section
set_option maxRecDepth 100000
namespace Go.Tw
open Go.Vx Go.Vx.B Go.Proofs
noncomputable def innS(a b:Con)(s:Int×Int)(t:Int):Int×Int:=
 let z:=(z17 (s.1,s.2,()) (z0z (z01 (chr a t)).1 (chr b t)).1).1;(z.1,z.2.1)
noncomputable def innW(T:List Int)(a b:Con):Gau:=let s:=T.foldl (innS a b) (0,0);(s.1,s.2,())
theorem yLF{r:Rec}(h:okR r){a b:Con}(ha:y4I a)(hb:y4I b):yF3 r a b=some (innW (tks r) a b,()):=by
 have hl:=h.len;have hs:=h.start;unfold yF3;rw[bifT (y7 (show r.2.2.1.length < lenMax by unfold lenMax;omega))]
 refine (y5r h (λ s:Int×Int=>some ((s.1,s.2,()),())) (λ i x s=>some (.inr (innS a b s (r.2.1+i)))) (λ g s=>rfl) (λ i x g s hi hx hg=>?_) (0,0)).trans ?_
 ·dsimp only;unfold yLx;refine (y39 (i:=(i:Int)) (λ g=>rfl) g wMax hg).trans ?_
  generalize g.dropWhile (λ s=>decide (s.2.1<=(i:Int)))=g'
  unfold yAS;rw[y5z,y4P hx];simp only[bind_some];rw[y04 (i:=r.2.1+(i:Int)) (by omega) (by omega),yMF ha ⟨by omega,by omega⟩,yMF hb ⟨by omega,by omega⟩]
  rfl
 ·rw[y2E (λ s (q:Int×Nat)=>innS a b s (r.2.1+q.1)) _ _ _ λ i e s _=>rfl]
  unfold innW tks;rw[List.foldl_map]
noncomputable def norW(T:List Int)(l:List Con):List (List Gau):=l.map λ a=>l.map λ b=>innW T a b
theorem yI0{r:Rec}(h:okR r){l:List Con}(hl:l.length<=8)(hc:∀ c∈l,y4I c):y9V r l=some (norW (tks r) l,()):=by
 have hmem:memMax=68719476736:=rfl;unfold y9V yPS z8_M;rw[bifT (y7 (show l.length < lenMax by unfold lenMax;omega)),y1P (λ a=>l.map λ b=>innW (tks r) a b) l 0 [] (by simp;omega) λ i a s ha hs=>by
  unfold yPg;show Option.bind (yIx a l r) _=_
  have e:yIx a l r=some (l.map λ b=>innW (tks r) a b,()):=by
   unfold yIx yPt zA_M;rw[bifT (y7 (show l.length < lenMax by unfold lenMax;omega)),y1P (λ b=>innW (tks r) a b) l 0 [] (by simp;omega) λ i b s hb hs=>by
    unfold yMI;show Option.bind (zt_M b r a) _=_
    unfold zt_M zt_m;rw[yLF h (hc a ha) (hc b hb)];simp only[bind_some];rw[bifT (y7 hs)]]
   rfl
  rw[e];simp only[bind_some];rw[bifT (y7 hs)]]
 rfl
noncomputable def y3q(r:Rec)(l:List Con):Int:=yP (y84 r) (y1Y l)
theorem yA6(r:Rec)(l:List Con)(hn:r.1.length < lenMax)(hl:r.2.2.1.length < lenMax)(hg:r.2.2.2.1.length < lenMax)(hnl:∀ n∈l,n.1.length < lenMax)(hll:l.length < lenMax):y5s r l=some (y3q r l,()):=by
 unfold y5s yPC;rw[yFc r hn hl hg,yGd l hnl hll];simp only[bind_some];rw[y1v _ (y5Q _ _),yM,yM,y0Q,y0B];rfl
theorem yOi(r:Rec)(l:List Con)(hg:r.2.2.2.1.length < lenMax):yJb r l=some (y3q r l,()):=by
 unfold yJb yQK;rw[yMT r hg,yMm];simp only[bind_some];rw[y8H _ (y5Q _ _),yM,yM,y0Q,y0B];rfl
theorem y8u{r:Rec}{l:List Con}(h:y3q r l=0):okR r/\(tks r).length<=128/\(0 < l.length/\l.length<=4)/\∀ c∈l,y4I c:=by
 obtain ⟨h1,h2⟩:=yJ h;obtain ⟨h3,h4⟩:=yJ h1;obtain ⟨a1,a2,a3⟩:=yCY h2;refine ⟨y7W h3,?_,⟨a1,a2⟩,a3⟩;by_cases q:128 < (tks r).length
 ·rw[if_pos q]at h4;cases h4
 ·omega
end Go.Tw
end
section
set_option maxRecDepth 100000
namespace Go.Tw
open Go.Vx Go.Vx.B Go.Proofs
def euc:Nat->Int->Int->Int
 |0,a,_=>a
 |f+1,a,b=>if b=0 then a else euc f b (a.tmod b)
def Done:Nat->Int->Int->Prop
 |0,_,b=>b=0
 |f+1,a,b=>b=0\/Done f b (a.tmod b)
theorem yAr{β:Type}{K:Int->β}{body:Int×Int->Option (β⊕(Int×Int))}
  (hb:∀ a b:Int,body (a,b)=if b=0 then some (.inl (K a))else some (.inr (b,a.tmod b))):∀ (f m:Nat) (a b:Int),f < m->Done f a b->y26 body m (a,b)=some (K (euc f a b))
 |0,m,a,b,hm,h=>by
  obtain ⟨m,rfl⟩:∃ j,m=j+1:=⟨m - 1,by omega⟩
  unfold y26;rw[hb,if_pos (show b=0 from h)]
  rfl
 |f+1,m,a,b,hm,h=>by
  obtain ⟨m,rfl⟩:∃ j,m=j+1:=⟨m - 1,by omega⟩
  unfold y26 euc;rw[hb];by_cases h0:b=0
  ·rw[if_pos h0,if_pos h0];rfl
  ·rw[if_neg h0,if_neg h0];simp only[bind_some];exact yAr hb f m b (a.tmod b) (by omega) (h.resolve_left h0)
theorem yJL:∀ (f:Nat) (a b:Int),Done f a b->Done (f+1) a b
 |0,a,b,h=>.inl h
 |f+1,a,b,h=>by
  rcases h with h|h
  ·exact .inl h
  ·exact .inr (yJL f _ _ h)
theorem y6U{f g:Nat}{a b:Int}(h:Done f a b)(hg:f<=g):Done g a b:=by
 induction g with
 |zero=>rw[show f=0 by omega]at h;exact h
 |succ g ih =>
  rcases Nat.lt_or_eq_of_le hg with q|q
  ·exact yJL g a b (ih (by omega))
  ·rw[q]at h;exact h
theorem y2P:∀ (k:Nat) (a b:Int),b.natAbs < 2 ^ k->Done (2 * k) a b
 |0,a,b,h=>by show b=0;simp at h;omega
 |k+1,a,b,h=>by
  rw[show 2 * (k+1)=(2 * k+1)+1 by omega]
  by_cases h0:b=0
  ·exact .inl h0
  ·refine .inr ?_
   by_cases h1:a.tmod b=0
   ·exact .inl h1
   ·refine .inr (y2P k _ _ ?_);rw[natAbs_tmod,natAbs_tmod];have hb:0 < b.natAbs:=by omega
    have hr:a.natAbs % b.natAbs≠0:=by
     rw[<- natAbs_tmod];omega
    have hrb:a.natAbs % b.natAbs<=b.natAbs:=Nat.le_of_lt (Nat.mod_lt _ hb);generalize a.natAbs % b.natAbs=r at hr hrb;have h4:b.natAbs % r < r:=Nat.mod_lt _ (by omega)
    rw[Nat.pow_succ]at h;have h6:=Nat.div_add_mod b.natAbs r;have h7:1<=b.natAbs / r:=Nat.div_pos hrb (by omega)
    have h8:r * 1<=r * (b.natAbs / r):=Nat.mul_le_mul_left _ h7;omega
theorem y6C:∀ (f:Nat) (a b:Int),Done f a b->(euc f a b).natAbs=Nat.gcd a.natAbs b.natAbs
 |0,a,b,h=>by
  have h:b=0:=h;subst h;simp[euc]
 |f+1,a,b,h=>by
  unfold euc;by_cases h0:b=0
  ·subst h0;simp
  ·rw[if_neg h0,y6C f _ _ (h.resolve_left h0),natAbs_tmod,Nat.gcd_comm,<- Nat.gcd_rec,Nat.gcd_comm]
theorem yBZ:∀ (f:Nat) (a b:Int),0<=a->0<=b->0<=euc f a b
 |0,a,b,h,_=>h
 |f+1,a,b,ha,hb=>by
  unfold euc;by_cases h0:b=0
  ·rw[if_pos h0];exact ha
  ·rw[if_neg h0];exact yBZ f _ _ hb (Int.tmod_nonneg b ha)
def absW(n:Int):Int:=if IntKind.i64.wrap (0 - n) > n then IntKind.i64.wrap (0 - n)else n
theorem yEd{n:Int}(h0:-9223372036854775808<=n)(h1:n<=9223372036854775807):(absW n=n.natAbs/\n≠-9223372036854775808)\/(absW n=-9223372036854775808/\n=-9223372036854775808):=by
 unfold absW;by_cases h:n=-9223372036854775808
 ·subst h;exact .inr ⟨by decide,rfl⟩
 ·left
  rw[y04 (by omega) (by omega)]
  refine ⟨?_,h⟩;split<;>omega
def divr(num den:Int):Int:=euc 130 den (absW num)
theorem y82{n:Int}(h0:-9223372036854775808<=n)(h1:n<=9223372036854775807):(absW n).natAbs < 2 ^ 64:=by
 have e:(2:Nat) ^ 64=18446744073709551616:=by decide
 rcases yEd h0 h1 with h|h<;>omega
theorem yNT{num den:Int}(h0:-9223372036854775808<=num)(h1:num<=9223372036854775807):y9U den [num]=some (divr num den,()):=by
 unfold y9U;rw[bifT (y7 (by simp[lenMax])),yU]
 unfold y7z;have e:(z08 num).1=absW num:=by
  unfold z08 absW;first|rw[if_pos rfl]|rfl
 rw[e];have:=yAr (K:=λ x=>(Sum.inr x:(Int×Unit)⊕Int)) (body:=λ s__=>y5m [num] (([num].length:Nat):Int) 0 s__.1 s__.2) (λ a b=>by
  unfold y5m;by_cases h:b=0
  ·subst h;rfl
  ·have e:(b != 0)=true:=by simp[h]
   have e2:(b == 0)=false:=by simp[h]
   simp only[e,e2,cond_true,cond_false,if_neg h]) 130 wMax den (absW num) (by unfold wMax;omega) (y6U (y2P 64 _ _ (y82 h0 h1)) (by omega))
 rw[this];rfl
theorem yQj{num den:Int}(h0:-9223372036854775808<=num)(h1:num<=9223372036854775807)(hd:1<=den)(hd2:den<=9223372036854775807):divr num den≠0/\euc 129 (absW num) den=divr num den/\Done 129 (absW num) den:=by
 have e:(2:Nat) ^ 64=18446744073709551616:=by decide
 have D1:Done 130 den (absW num):=y6U (y2P 64 _ _ (y82 h0 h1)) (by omega)
 have D2:Done 129 (absW num) den:=y6U (y2P 64 _ _ (by omega)) (by omega)
 have hn:divr num den≠0:=by
  intro h;have h3:=y6C 130 den (absW num) D1;unfold divr at h;rw[h]at h3;have:=Nat.gcd_pos_of_pos_left (absW num).natAbs (show 0 < den.natAbs by omega)
  rw[<- h3]at this;simp at this
 refine ⟨hn,?_,D2⟩;rcases yEd h0 h1 with ⟨h,_⟩|⟨h,_⟩
 ·have a1:=y6C 130 den (absW num) D1;have a2:=y6C 129 (absW num) den D2;have b1:=yBZ 130 den (absW num) (by omega) (by omega)
  have b2:=yBZ 129 (absW num) den (by omega) (by omega)
  rw[Nat.gcd_comm]at a2;unfold divr;omega
 ·unfold divr;rw[h];have t1:den.tmod (-9223372036854775808)=den:=by
   rw[Int.tmod_neg,Int.tmod_eq_of_lt (by omega) (by omega)]
  have q1:euc 130 den (-9223372036854775808)=euc 128 den ((-9223372036854775808:Int).tmod den):=by
   show (if (-9223372036854775808:Int)=0 then den else euc 129 (-9223372036854775808) (den.tmod (-9223372036854775808)))=_
   rw[if_neg (by decide),t1]
   show (if den=0 then _ else euc 128 den ((-9223372036854775808:Int).tmod den))=_
   rw[if_neg (by omega)]
  have q2:euc 129 (-9223372036854775808) den=euc 128 den ((-9223372036854775808:Int).tmod den):=by
   show (if den=0 then _ else euc 128 den ((-9223372036854775808:Int).tmod den))=_
   rw[if_neg (by omega)]
  rw[q1,q2]
def lowR(num den:Int):Gau:=(IntKind.i64.wrap (num.tdiv (divr num den)),IntKind.i64.wrap (den.tdiv (divr num den)),())
theorem yDt{num den:Int}(h0:-9223372036854775808<=num)(h1:num<=9223372036854775807)(hd:1<=den)(hd2:den<=9223372036854775807):y9B num den=some (lowR num den,()):=by
 obtain ⟨a,_,_⟩:=yQj h0 h1 hd hd2;unfold y9B yQg;rw[yNT h0 h1];simp only[bind_some];rw[bifF (by simpa using a),bifF (by simpa using a)]
 rfl
end Go.Tw
end
