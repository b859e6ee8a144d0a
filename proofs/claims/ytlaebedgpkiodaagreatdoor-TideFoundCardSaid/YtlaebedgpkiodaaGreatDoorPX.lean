import Derived.Test.YtlaebedgpkiodaaGreatDoorPT
import Derived.Test.YtlaebedgpkiodaaGreatDoorPQ
import Derived.Test.YtlaebedgpkiodaaGreatDoorPW
import Derived.Test.YtlaebedgpkiodaaGreatDoorPB
import Derived.Test.YtlaebedgpkiodaaGreatDoorPA
set_option linter.all false
set_option maxRecDepth 100000
open Option (bind_some)
open Go.IntKind (i64)
namespace Go.Tw
open Go.Vx Go.Vx.B Go.Proofs Ieee
noncomputable def resS(t:Tid)(st:Int)(acc:Int)(q:Int×Nat):Int:=
 i64.wrap (acc+i64.wrap (i64.wrap (i64.wrap (i64.wrap (t.2.2.1 * sx q.2) - (valT t (st+q.1)).1) * i64.wrap (i64.wrap (t.2.2.1 * sx q.2) - (valT t (st+q.1)).1))+i64.wrap ((valT t (st+q.1)).2.1 * (valT t (st+q.1)).2.1)))
noncomputable def resN(r:Rec)(t:Tid):Int:=(recd r.2.2.2.1 0 r.2.2.1).foldl (resS t r.2.1) 0
theorem yAE{α:Type}(h:Int->α->Int)(h0:∀ s e,-9223372036854775808<=h s e/\h s e<=9223372036854775807):∀ (l:List α) (s:Int),(-9223372036854775808<=s/\s<=9223372036854775807)->-9223372036854775808<=l.foldl h s/\l.foldl h s<=9223372036854775807
 |[],s,hs=>hs
 |e::l,s,_=>yAE h h0 l (h s e) (h0 s e)
theorem yJS(r:Rec)(t:Tid):-9223372036854775808<=resN r t/\resN r t<=9223372036854775807:=
 yAE _ (λ s e=>yNR _) _ _ (by decide)
noncomputable def resE(r:Rec)(t:Tid):Int:=yQ (y8R r) (yQ (y3F t) (if y42 t then 0 else 4))
theorem ySO{t:Tid}(ht:okT t)(hs:y42 t=true):i64.wrap (t.2.2.1 * t.2.2.1)=t.2.2.1 * t.2.2.1/\1<=t.2.2.1 * t.2.2.1/\t.2.2.1 * t.2.2.1<=9223372036854775807:=by
 have h1:=ht.den;have h2:=(yLJ hs).2;have h3:1 * 1<=t.2.2.1 * t.2.2.1:=Int.mul_le_mul h1.1 h1.1 (by decide) (by omega)
 have h4:t.2.2.1 * t.2.2.1<=4096 * 4096:=Int.mul_le_mul h2 h2 (by omega) (by decide)
 exact ⟨yw (by omega) (by omega),by omega,by omega⟩
theorem yQQ{r:Rec}{t:Tid}(hn:r.1.length < lenMax)(hl:r.2.2.1.length < lenMax)(hg:r.2.2.2.1.length < lenMax)(hnt:∀ n∈t.1,n.1.length < lenMax)(hlt:t.1.length < lenMax)(ha:t.2.1.length<=memMax) :
  zx_M r t=some (if resE r t=0 then (lowR (resN r t) (t.2.2.1 * t.2.2.1),0,())else ((0,0,()),resE r t,())):=by
 unfold zx_M;obtain ⟨s,hs,hs2⟩:=yIL t (y0M ha);rw[yFh r hn hl hg,yNo t hnt hlt ha,hs];simp only[bind_some,y4a];rw[y1C _ (yG6 _ _ _),yU,yU,yU,y1T,y0b];simp only[bind_some];have e0:yQ (y8R r) (yQ (y3F t) (bif !s then (4:Int)else 0))=resE r t:=y5d λ _=>y5d λ h=>by
  rw[hs2 (yMn (y8S h))];cases y42 t<;>rfl
 rw[e0];by_cases h:resE r t=0
 ·rw[if_pos h,bifF (by rw[h];rfl),bifT (yB hl)]
  obtain ⟨h1,h2⟩:=yI h;obtain ⟨h3,h4⟩:=yI h2;have hss:y42 t=true:=by
   cases q:y42 t with
   |true=>rfl
   |false=>rw[q]at h4;cases h4
  have ht:=y8S h3;have hr:=y5k (yI h1).1;have hst:=hr.start;obtain ⟨d1,d2,d3⟩:=ySO ht hss;refine (y5z hr (λ s=>Option.bind (y9d s (i64.wrap (t.2.2.1 * t.2.2.1))) λ v=>some ((v.1.1,v.1.2.1,()),0,())) (λ i x s=>some (.inr (resS t r.2.1 s (i,x)))) (λ g s=>rfl) (λ i x g s hi hx hg=>?_) 0).trans ?_
  ·dsimp only;unfold yPC;refine (y3A (i:=(i:Int)) (λ g=>rfl) g wMax hg).trans ?_
   generalize g.dropWhile (λ s=>decide (s.2.1<=(i:Int)))=g'
   unfold yGY;rw[y6M,y4U hx];simp only[bind_some];rw[yw (i:=r.2.1+(i:Int)) (by omega) (by omega),yOA ht ⟨by omega,by omega⟩]
   rfl
  ·rw[y3E (λ s q=>resS t r.2.1 s q) _ _ _ λ i e s _=>rfl]
   show Option.bind (y9d (resN r t) _) _=_
   rw[d1,yCz (yJS r t).1 (yJS r t).2 d2 d3];rfl
 ·rw[if_neg h,bifT (by simpa using h)]
end Go.Tw
