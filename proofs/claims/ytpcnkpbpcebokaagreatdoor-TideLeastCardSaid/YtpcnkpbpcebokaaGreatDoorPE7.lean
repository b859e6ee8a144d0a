import Derived.Test.YtpcnkpbpcebokaaGreatDoorPE1
import Derived.Test.YtpcnkpbpcebokaaGreatDoorPE6
import Derived.Test.YtpcnkpbpcebokaaGreatDoorPT
import Derived.Test.YtpcnkpbpcebokaaGreatDoorPM1
import Derived.Test.YtpcnkpbpcebokaaGreatDoorPW
import Derived.Test.YtpcnkpbpcebokaaGreatDoorP8
import Derived.Test.YtpcnkpbpcebokaaGreatDoorBWa
import Derived.Test.YtpcnkpbpcebokaaGreatDoorPA
set_option linter.all false
open Option (bind_some)
open Go.IntKind (i64)
section
set_option maxRecDepth 100000
namespace Go.Tw
open Go.Vx Go.Vx.B Go.Proofs
theorem yGO(gaps:List Gau):∀ (l:List Nat) (i j:Nat),j < l.length->has gaps ((i+j:Nat):Int)=false->∃ x,(((i+j:Nat):Int),x)∈recd gaps i l
 |[],i,j,h,_=>by simp at h
 |x::l,i,0,h,hh=>by
  rw[Nat.add_zero]at hh ⊢;refine ⟨x,?_⟩;unfold recd;rw[if_neg (by rw[hh];simp)]
  simp
 |x::l,i,j+1,h,hh=>by
  obtain ⟨y,hy⟩:=yGO gaps l (i+1) j (by simpa using h) (by rw[show i+1+j=i+(j+1) by omega];exact hh)
  refine ⟨y,?_⟩;rw[show i+1+j=i+(j+1) by omega]at hy
  unfold recd;split
  ·exact hy
  ·exact List.mem_cons_of_mem _ hy
theorem yEI(gaps:List Gau):∀ (l:List Nat) (i:Nat),∀ q∈recd gaps i l,has gaps q.1=false
 |[],i,q,h=>by cases h
 |x::l,i,q,h=>by
  unfold recd at h;by_cases hh:has gaps (i:Int)=true
  ·rw[if_pos hh]at h;exact yEI gaps l (i+1) q h
  ·rw[if_neg hh]at h;rcases List.mem_cons.1 h with rfl|h
   ·exact Bool.eq_false_iff.2 hh
   ·exact yEI gaps l (i+1) q h
theorem yOy(r:Rec)(t:Int):t∈tks r ↔ ∃ i:Nat,i < r.2.2.1.length/\has r.2.2.2.1 (i:Int)=false/\t=r.2.1+i:=by
 unfold tks;constructor
 ·intro h;obtain ⟨q,hq,rfl⟩:=List.mem_map.1 h;obtain ⟨⟨h1,h2⟩,_,_⟩:=yAW _ _ _ q hq;have h3:=yEI _ _ _ q hq;refine ⟨q.1.toNat,by omega,?_,by omega⟩
  rw[show ((q.1.toNat:Nat):Int)=q.1 by omega]
  exact h3
 ·rintro ⟨i,h1,h2,rfl⟩
  obtain ⟨x,hx⟩:=yGO r.2.2.2.1 r.2.2.1 0 i h1 (by rw[Nat.zero_add];exact h2)
  rw[Nat.zero_add]at hx;exact List.mem_map.2 ⟨_,hx,rfl⟩
theorem ySp(r:Rec)(l:List Con)(ll:l.length < lenMax):∃ b,yPu r l=some (b,())/\(b=true->y3q r l=0/\r.2.2.1.length<=12/\r.1.length<=60/\r.2.2.2.1.length<=12/\(∀ n∈l,n.1.length<=60)/\l.length<=5/\∀ x∈r.2.2.1,yT BinOp.gtr FloatKind.f32 x 1082130432=false/\yT BinOp.lss FloatKind.f32 x 3229614080=false):=by
 have hlm:lenMax=9223372036854775808:=rfl;unfold yPu;by_cases c1:(r.2.2.1.length:Int) > 12
 ·exact ⟨false,by rw[bifT (y7 c1)],λ h=>by cases h⟩
 rw[bifF (yE c1)];by_cases c2:(r.1.length:Int) > 60
 ·exact ⟨false,by rw[bifT (y7 c2)],λ h=>by cases h⟩
 rw[bifF (yE c2)];by_cases c3:(r.2.2.2.1.length:Int) > 12
 ·exact ⟨false,by rw[bifT (y7 c3)],λ h=>by cases h⟩
 rw[bifF (yE c3)];obtain ⟨s,hs,hs2⟩:=yJ5 l ll;rw[hs];simp only[bind_some];cases s with
 |false=>exact ⟨false,rfl,λ h=>by cases h⟩
 |true =>
  obtain ⟨l60,l5⟩:=hs2 rfl;rw[bifF (by rfl),yOi r l (by omega)]
  simp only[bind_some];by_cases h:y3q r l=0
  ·rw[bifF (by simpa using h),bifT (y7 (show r.2.2.1.length < lenMax by omega))]
   have key:=y3e (body:=λ i__ e__ s__=>yBk r.2.2.1 i__ e__) (fin:=λ s__=>yE3 r.2.2.1) r.2.2.1 (λ x:Nat=>if yT BinOp.gtr FloatKind.f32 x 1082130432 || yT BinOp.lss FloatKind.f32 x 3229614080 then some (false,())else none) r.2.2.1 [] rfl (λ i e he=>by
    unfold yBk;cases yT BinOp.gtr FloatKind.f32 e 1082130432<;>cases yT BinOp.lss FloatKind.f32 e 3229614080<;>rfl)
   cases hf:r.2.2.1.findSome? (λ x:Nat=>if yT BinOp.gtr FloatKind.f32 x 1082130432 || yT BinOp.lss FloatKind.f32 x 3229614080 then some (false,())else none)with
   |some y =>
    rw[hf]at key;obtain ⟨a,_,ha⟩:=List.exists_of_findSome?_eq_some hf;split at ha
    ·refine ⟨false,?_,λ h=>by cases h⟩
     rw[Option.some.inj ha];exact key
    ·cases ha
   |none =>
    rw[hf]at key;refine ⟨true,key,λ _=>⟨h,by omega,by omega,by omega,l60,l5,λ x hx=>?_⟩⟩
    have:=List.findSome?_eq_none_iff.1 hf x hx;cases h1:yT BinOp.gtr FloatKind.f32 x 1082130432<;>cases h2:yT BinOp.lss FloatKind.f32 x 3229614080<;>simp[h1,h2]at this ⊢
  ·exact ⟨false,by rw[bifT (by simpa using h)],λ h=>by cases h⟩
end Go.Tw
end
section
set_option maxRecDepth 100000
namespace Go.Tw
open Go.Vx Go.Vx.B Go.Proofs Ieee
noncomputable def resS(t:Tid)(st:Int)(acc:Int)(q:Int×Nat):Int:=
 i64.wrap (acc+i64.wrap (i64.wrap (i64.wrap (i64.wrap (t.2.2.1 * sx q.2) - (valT t (st+q.1)).1) * i64.wrap (i64.wrap (t.2.2.1 * sx q.2) - (valT t (st+q.1)).1))+i64.wrap ((valT t (st+q.1)).2.1 * (valT t (st+q.1)).2.1)))
noncomputable def resN(r:Rec)(t:Tid):Int:=(recd r.2.2.2.1 0 r.2.2.1).foldl (resS t r.2.1) 0
theorem y9t{α:Type}(h:Int->α->Int)(h0:∀ s e,-9223372036854775808<=h s e/\h s e<=9223372036854775807):∀ (l:List α) (s:Int),(-9223372036854775808<=s/\s<=9223372036854775807)->-9223372036854775808<=l.foldl h s/\l.foldl h s<=9223372036854775807
 |[],s,hs=>hs
 |e::l,s,_=>y9t h h0 l (h s e) (h0 s e)
theorem yJl(r:Rec)(t:Tid):-9223372036854775808<=resN r t/\resN r t<=9223372036854775807:=
 y9t _ (λ s e=>yMp _) _ _ (by decide)
noncomputable def resE(r:Rec)(t:Tid):Int:=yP (y84 r) (yP (y2t t) (if y2o t then 0 else 4))
theorem ySI{t:Tid}(ht:okT t)(hs:y2o t=true):i64.wrap (t.2.2.1 * t.2.2.1)=t.2.2.1 * t.2.2.1/\1<=t.2.2.1 * t.2.2.1/\t.2.2.1 * t.2.2.1<=9223372036854775807:=by
 have h1:=ht.den;have h2:=(yJu hs).2;have h3:1 * 1<=t.2.2.1 * t.2.2.1:=Int.mul_le_mul h1.1 h1.1 (by decide) (by omega)
 have h4:t.2.2.1 * t.2.2.1<=4096 * 4096:=Int.mul_le_mul h2 h2 (by omega) (by decide)
 exact ⟨y04 (by omega) (by omega),by omega,by omega⟩
theorem yKy{r:Rec}{t:Tid}(hn:r.1.length < lenMax)(hl:r.2.2.1.length < lenMax)(hg:r.2.2.2.1.length < lenMax)(hnt:∀ n∈t.1,n.1.length < lenMax)(hlt:t.1.length < lenMax)(ha:t.2.1.length<=memMax) :
  yMZ r t=some (if resE r t=0 then (lowR (resN r t) (t.2.2.1 * t.2.2.1),0,())else ((0,0,()),resE r t,())):=by
 unfold yMZ;obtain ⟨s,hs,hs2⟩:=yHK t (y0Z ha);rw[yFc r hn hl hg,yT5 t hnt hlt ha,hs];simp only[bind_some,y4K];rw[y1v _ (yFk _ _ _),yM,yM,yM,y0Q,y0B];simp only[bind_some];have e0:yP (y84 r) (yP (y2t t) (bif !s then (4:Int)else 0))=resE r t:=y64 λ _=>y64 λ h=>by
  rw[hs2 (yNU (yCA h))];cases y2o t<;>rfl
 rw[e0];by_cases h:resE r t=0
 ·rw[if_pos h,bifF (by rw[h];rfl),bifT (y7 hl)]
  obtain ⟨h1,h2⟩:=yJ h;obtain ⟨h3,h4⟩:=yJ h2;have hss:y2o t=true:=by
   cases q:y2o t with
   |true=>rfl
   |false=>rw[q]at h4;cases h4
  have ht:=yCA h3;have hr:=y7W (yJ h1).1;have hst:=hr.start;obtain ⟨d1,d2,d3⟩:=ySI ht hss;refine (y5r hr (λ s=>Option.bind (y9B s (i64.wrap (t.2.2.1 * t.2.2.1))) λ v=>some ((v.1.1,v.1.2.1,()),0,())) (λ i x s=>some (.inr (resS t r.2.1 s (i,x)))) (λ g s=>rfl) (λ i x g s hi hx hg=>?_) 0).trans ?_
  ·dsimp only;unfold yLh;refine (y39 (i:=(i:Int)) (λ g=>rfl) g wMax hg).trans ?_
   generalize g.dropWhile (λ s=>decide (s.2.1<=(i:Int)))=g'
   unfold yBC;rw[y5z,y4P hx];simp only[bind_some];rw[y04 (i:=r.2.1+(i:Int)) (by omega) (by omega),yS1 ht ⟨by omega,by omega⟩]
   rfl
  ·rw[y2E (λ s q=>resS t r.2.1 s q) _ _ _ λ i e s _=>rfl]
   show Option.bind (y9B (resN r t) _) _=_
   rw[d1,yDt (yJl r t).1 (yJl r t).2 d2 d3];rfl
 ·rw[if_neg h,bifT (by simpa using h)]
end Go.Tw
end
