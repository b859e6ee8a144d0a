import Derived.Test.YtlaebedgpkiodaaGreatDoorPR
set_option linter.all false
set_option maxRecDepth 100000
open List (length_cons)
open Option (bind_some)
open Int (le_refl)
namespace Go.Tw
open Go.Vx Go.Vx.B Go.Proofs Ieee
theorem y3A{β:Type}{b2:List Gau->Option (β⊕List Gau)}{R:List Gau->Option β}{i:Int}
  (hb:∀ g:List Gau,b2 g=(bif decide ((g.length:Int) > 0)then Option.bind (idx g 0) (λ v=>bif decide (v.2.1<=i)then (bif decide ((0:Int)<=1) && decide ((1:Int)<=(g.length:Int))then some (.inr (List.drop (Int.toNat 1) g))else none)else Option.map Sum.inl (R g))else Option.map Sum.inl (R g))) :
  ∀ (g:List Gau) (m:Nat),g.length < m->y1H b2 m g=R (g.dropWhile λ s=>decide (s.2.1<=i))
 |[],m,hm=>by
  obtain ⟨m,rfl⟩:∃ j,m=j+1:=⟨m - 1,by simp at hm;omega⟩
  unfold y1H;rw[hb];show Option.bind (Option.map Sum.inl (R [])) _=R []
  cases R []<;>rfl
 |s::l,m,hm=>by
  obtain ⟨m,rfl⟩:∃ j,m=j+1:=⟨m - 1,by simp at hm;omega⟩
  simp only[length_cons]at hm;unfold y1H;rw[hb,bifT (yB (by simp))]
  show Option.bind (Option.bind (some s) _) _=_
  simp only[bind_some,List.dropWhile_cons];by_cases h:s.2.1<=i
  ·rw[bifT (yB h),bifT (by simp;omega),if_pos (yB h)]
   simp only[bind_some];exact y3A hb l m (by omega)
  ·rw[bifF (yK h),if_neg (by simpa using h)]
   cases R (s::l)<;>rfl
def yL2(g:List Gau)(i:Int):Bool:=match g with
 |[]=>false
 |s::_=>decide (s.1<=i)
theorem y6M{γ:Type}(g:List Gau)(i:Int)(A K:Option γ) :
  (bif decide ((g.length:Int) > 0)then Option.bind (idx g 0) (λ v=>bif decide (v.1<=i)then A else K)else K)=if yL2 g i then A else K:=by
 cases g with
 |nil=>rfl
 |cons s l =>
  rw[bifT (yB (by simp))]
  show (bif decide (s.1<=i)then A else K)=if decide (s.1<=i)=true then A else K
  cases decide (s.1<=i)<;>rfl
theorem y76:∀ (l:List Gau) (p:Option Gau) (s:Gau),y3Q p (s::l)=0->∀ t∈l,s.2.1 < t.1
 |[],_,_,_,t,ht=>by cases ht
 |u::l,p,s,h,t,ht=>by
  obtain ⟨h1,h2⟩:=yI h;obtain ⟨h3,h4⟩:=yI h2;have h5:=(yI h3).2;have h6:s.2.1 < u.1:=by
   simp only at h5;by_cases q:u.1<=s.2.1
   ·rw[if_pos q]at h5;cases h5
   ·omega
  rcases List.mem_cons.1 ht with rfl|ht
  ·exact h6
  ·have h7:=y76 l (some s) u h2 t ht;have h8:=y82 _ _ h2 u (by simp)
   omega
theorem yOQ(i:Int):∀ (g:List Gau) (p:Option Gau),y3Q p g=0->∃ p',y3Q p' (g.dropWhile λ s=>decide (s.2.1<=i))=0/\(∀ j,i<=j->has g j=has (g.dropWhile λ s=>decide (s.2.1<=i)) j)/\yL2 (g.dropWhile λ s=>decide (s.2.1<=i)) i=has g i
 |[],p,h=>⟨p,h,λ _ _=>rfl,rfl⟩
 |s::l,p,h=>by
  rw[List.dropWhile_cons];by_cases hs:s.2.1<=i
  ·rw[if_pos (yB hs)];obtain ⟨p',h1,h2,h3⟩:=yOQ i l (some s) (yI h).2;have e:∀ j,i<=j->has (s::l) j=has l j:=λ j hj=>by
    unfold has;rw[List.any_cons,yK (show ¬ (s.1<=j/\j < s.2.1) by omega),Bool.false_or]
   exact ⟨p',h1,λ j hj=>(e j hj).trans (h2 j hj),by rw[h3,e i (le_refl _)]⟩
  ·rw[if_neg (by simpa using hs)]
   refine ⟨p,h,λ _ _=>rfl,?_⟩
   unfold yL2 has;simp only[List.any_cons];by_cases h1:s.1<=i
   ·rw[yB h1,yB (show s.1<=i/\i < s.2.1 by omega)];rfl
   ·rw[yK h1,yK (show ¬ (s.1<=i/\i < s.2.1) by omega),Bool.false_or]
    symm
    rw[List.any_eq_false];intro t ht;have:=y76 l p s h t ht;simp;omega
theorem yJE(q:Gau->Bool):∀ g:List Gau,(g.dropWhile q).length<=g.length
 |[]=>Nat.le_refl _
 |s::l=>by
  rw[List.dropWhile_cons];split
  ·have:=yJE q l;simp only[length_cons];omega
  ·exact Nat.le_refl _
def recd(gaps:List Gau):Nat->List Nat->List (Int×Nat)
 |_,[]=>[]
 |i,x::l=>if has gaps (i:Int)then recd gaps (i+1) l else ((i:Int),x)::recd gaps (i+1) l
theorem yGl(gaps:List Gau):∀ (l:List Nat) (i:Nat),∀ p∈recd gaps i l,((i:Int)<=p.1/\p.1 < i+l.length)/\p.2∈l/\l[(p.1 - i).toNat]?=some p.2
 |[],i,p,h=>by cases h
 |x::l,i,p,h=>by
  have ih:=yGl gaps l (i+1);unfold recd at h;have tail:p∈recd gaps (i+1) l->((i:Int)<=p.1/\p.1 < i+(x::l).length)/\p.2∈x::l/\(x::l)[(p.1 - i).toNat]?=some p.2:=λ h=>by
   obtain ⟨h1,h2,h3⟩:=ih p h;simp only[length_cons];refine ⟨by omega,by simp[h2],?_⟩
   rw[show (p.1 - (i:Int)).toNat=(p.1 - ((i+1:Nat):Int)).toNat+1 by omega,List.getElem?_cons_succ]
   exact h3
  by_cases hh:has gaps (i:Int)=true
  ·rw[if_pos hh]at h;exact tail h
  ·rw[if_neg hh]at h;rcases List.mem_cons.1 h with rfl|h
   ·exact ⟨⟨le_refl _,by simp only[length_cons];omega⟩,by simp,by simp⟩
   ·exact tail h
theorem yBr(gaps:List Gau):∀ (l:List Nat) (i:Nat),(recd gaps i l).length<=l.length
 |[],i=>by simp[recd]
 |x::l,i=>by
  have:=yBr gaps l (i+1);unfold recd;split
  ·simp;omega
  ·simp;omega
theorem yFY{β σ:Type}{body:Int->Nat->List Gau×σ->Option (β⊕(List Gau×σ))}{fin:List Gau×σ->Option β}(gaps:List Gau)(fin':σ->Option β)(f:Int->Nat->σ->Option (β⊕σ))(N:Nat)(L:List Nat)
  (hf:∀ g s,fin (g,s)=fin' s) (hg:gaps.length < wMax)
  (hb:∀ (i:Nat) x g s,i < N->x∈L->g.length < wMax->body (i:Int) x (g,s)=if yL2 (g.dropWhile λ s=>decide (s.2.1<=(i:Int))) i then some (.inr (g.dropWhile (λ s=>decide (s.2.1<=(i:Int))),s))else (f (i:Int) x s).map (Sum.map id λ s'=>(g.dropWhile (λ s=>decide (s.2.1<=(i:Int))),s'))) :
  ∀ (l:List Nat) (i:Nat) (j:Int) (g:List Gau) (p:Option Gau) (s:σ),y3Q p g=0->(∀ k:Int,(i:Int)<=k->has gaps k=has g k)->g.length < wMax->i+l.length<=N->(∀ x∈l,x∈L) ->
   yL body fin (i:Int) l (g,s)=yL (λ _ (q:Int×Nat) s=>f q.1 q.2 s) fin' j (recd gaps i l) s
 |[],i,j,g,p,s,_,_,_,_,_=>by rw[y3w,hf];rfl
 |x::l,i,j,g,p,s,h1,h2,h3,h4,h5=>by
  simp only[length_cons]at h4;obtain ⟨p',q1,q2,q3⟩:=yOQ (i:Int) g p h1;rw[ya,hb i x g s (by omega) (h5 x (by simp)) h3,q3,<- h2 i (le_refl _)]
  have hlen:(g.dropWhile λ s=>decide (s.2.1<=(i:Int))).length < wMax:=Nat.lt_of_le_of_lt (yJE _ g) h3
  have ih:=λ j s=>yFY (body:=body) (fin:=fin) gaps fin' f N L hf hg hb l (i+1) j (g.dropWhile λ s=>decide (s.2.1<=(i:Int))) p' s q1 (λ k hk=>by rw[h2 k (by omega),q2 k (by omega)]) hlen (by omega) (λ x hx=>h5 x (by simp[hx]))
  unfold recd;by_cases hh:has gaps (i:Int)=true
  ·rw[if_pos hh,if_pos hh];exact ih j s
  ·rw[if_neg hh,if_neg hh,ya];cases f (i:Int) x s with
   |none=>rfl
   |some z =>
    cases z with
    |inl y=>rfl
    |inr s'=>exact ih (j+1) s'
structure okR (r:Rec):Prop where
 start:0<=r.2.1/\r.2.1<=100000
 len:r.2.2.1.length<=4096
 lev:∀ x∈r.2.2.1,lvE x=0
 spans:y3Q none r.2.2.2.1=0
 many:r.2.2.2.1.length<=2048
 ends : ∀ s ∈ r.2.2.2.1,s.2.1 <= (r.2.2.1.length : Int)
 zero:¬ yKf r.2.2.1 r.2.2.2.1
theorem y5k{r:Rec}(h:yDq r=0):okR r:=by
 classical
 unfold yDq at h;obtain ⟨h1,h2⟩:=yI h;obtain ⟨h3,h4⟩:=yI h2;obtain ⟨h5,h6⟩:=yI h4;obtain ⟨h7,h8⟩:=yI h6;have h9:=y20 h1;have ha:=y22 (n:=r.2.1) (lo:=0) (hi:=100000) (h9 _ (by simp))
 have hb:(if 4096 < r.2.2.1.length then (5:Int)else 0)=0:=h9 _ (by simp)
 obtain ⟨hc,hd⟩:=yAP h5;refine ⟨ha,?_,λ x hx=>y20 h3 _ (List.mem_map.2 ⟨x,hx,rfl⟩),hd,hc,?_,?_⟩
 ·by_cases q:4096 < r.2.2.1.length
  ·rw[if_pos q]at hb;cases hb
  ·omega
 ·intro s hs;cases q:r.2.2.2.1.any (λ s=>decide ((r.2.2.1.length:Int) < s.2.1))with
  |true=>rw[q]at h7;cases h7
  |false =>
   have:=List.any_eq_false.1 q s hs;simp at this;omega
 ·intro hf;rw[if_pos hf]at h8;cases h8
def tks(r:Rec):List Int:=(recd r.2.2.2.1 0 r.2.2.1).map λ q=>r.2.1+q.1
theorem yJa(r:Rec):(tks r).length<=r.2.2.1.length:=by
 unfold tks;rw[List.length_map];exact yBr _ _ _
theorem yC9{r:Rec}(h:okR r):∀ q∈recd r.2.2.2.1 0 r.2.2.1,(0<=q.1/\q.1 < r.2.2.1.length)/\lvE q.2=0/\r.2.2.1[q.1.toNat]?=some q.2:=by
 intro q hq;obtain ⟨h1,h2,h3⟩:=yGl _ _ _ q hq;refine ⟨by omega,h.lev _ h2,?_⟩
 simpa using h3
theorem y4U{x:Nat}(h:lvE x=0):ym .f32 (yv .mul .f32 x 1098907648) .i64=some (sx x):=by
 obtain ⟨n,h1,h2,h3⟩:=yOI h;have h4:sx x=n:=by unfold sx;rw[h2]
 rw[h4];unfold zY_M zY_m at h2;cases hq:ym .f32 (yv .mul .f32 x 1098907648) .i64 with
 |none=>rw[hq]at h2;cases h2
 |some k=>rw[hq]at h2;cases h2;rfl
theorem y5z{β σ:Type}{body:Int->Nat->List Gau×σ->Option (β⊕(List Gau×σ))}{fin:List Gau×σ->Option β}{r:Rec}(h:okR r)(fin':σ->Option β)(f:Int->Nat->σ->Option (β⊕σ))
  (hf:∀ g s,fin (g,s)=fin' s)
  (hb:∀ (i:Nat) x g s,i < 4096->lvE x=0->g.length < wMax->body (i:Int) x (g,s)=if yL2 (g.dropWhile λ s=>decide (s.2.1<=(i:Int))) i then some (.inr (g.dropWhile (λ s=>decide (s.2.1<=(i:Int))),s))else (f (i:Int) x s).map (Sum.map id λ s'=>(g.dropWhile (λ s=>decide (s.2.1<=(i:Int))),s'))) (s:σ) :
  yL body fin 0 r.2.2.1 (r.2.2.2.1,s)=yL (λ _ (q:Int×Nat) s=>f q.1 q.2 s) fin' 0 (recd r.2.2.2.1 0 r.2.2.1) s:=by
 have hw:wMax=1000000:=rfl;have hm:=h.many;have hl:=h.len;exact yFY (body:=body) (fin:=fin) r.2.2.2.1 fin' f 4096 r.2.2.1 hf (by omega) (λ i x g s hi hx hg=>hb i x g s hi (h.lev x hx) hg) r.2.2.1 0 0 r.2.2.2.1 none s h.spans (λ _ _=>rfl) (by omega) (by omega) (λ _ h=>h)
theorem yLm{r:Rec}(h:okR r):yJK r=some (tks r,()):=by
 have hmem:memMax=68719476736:=rfl;have hl:=h.len;have hs:=h.start;unfold yJK;rw[bifT (yB (show r.2.2.1.length < lenMax by unfold lenMax;omega))]
 refine (y5z h (λ s=>some (s,())) (λ i x s=>bif decide (s.length+1<=memMax)then some (.inr (s++[r.2.1+i]))else none) (λ g s=>rfl) (λ i x g s hi hx hg=>?_) []).trans ?_
 ·dsimp only;unfold yKJ;refine (y3A (i:=(i:Int)) (λ g=>rfl) g wMax hg).trans ?_
  generalize g.dropWhile (λ s=>decide (s.2.1<=(i:Int)))=g'
  unfold yAy;rw[y6M,y4U hx];simp only[bind_some];rw[yw (i:=r.2.1+(i:Int)) (by omega) (by omega)]
  cases decide (s.length+1<=memMax)<;>rfl
 ·have hr:=yBr r.2.2.2.1 r.2.2.1 0;rw[y0p (λ q:Int×Nat=>r.2.1+q.1) _ 0 [] (by simp;omega) λ i e s _ hs=>by rw[bifT (yB hs)]]
  rfl
theorem y3E{α β σ:Type}{body:Int->α->σ->Option (β⊕σ)}{fin:σ->Option β}(h:σ->α->σ) :
  ∀ (l:List α) (i:Int) (s:σ),(∀ i e s,e∈l->body i e s=some (.inr (h s e)))->yL body fin i l s=fin (l.foldl h s)
 |[],i,s,_=>rfl
 |e::l,i,s,hb=>by
  rw[ya,hb i e s (by simp)]
  simp only[bind_some];exact y3E h l (i+1) _ λ i e s he=>hb i e s (by simp[he])
noncomputable def y8R(r:Rec):Int:=yQ (yDq r) (if 128 < (tks r).length then 5 else 0)
theorem yFh(r:Rec)(hn:r.1.length < lenMax)(hl:r.2.2.1.length < lenMax)(hg:r.2.2.2.1.length < lenMax):zc_M r=some (y8R r,()):=by
 unfold zc_M zc_m y8R;rw[yPZ r hn hl hg];simp only[bind_some];by_cases h:yDq r=0
 ·rw[bifF (by simp[h]),h,yX,yLm (y5k h)]
  simp only[bind_some,y4a];by_cases q:128 < (tks r).length
  ·rw[if_pos q,yB (by omega)];rfl
  ·rw[if_neg q,yK (by omega)];rfl
 ·rw[bifT (by simpa using h),y05 h]
end Go.Tw
