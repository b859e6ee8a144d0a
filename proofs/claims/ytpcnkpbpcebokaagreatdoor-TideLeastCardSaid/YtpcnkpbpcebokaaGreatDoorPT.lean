import Derived.Test.YtpcnkpbpcebokaaGreatDoorPR
set_option linter.all false
set_option maxRecDepth 100000
open List (length_cons)
open Option (bind_some)
open Int (le_refl)
namespace Go.Tw
open Go.Vx Go.Vx.B Go.Proofs Ieee
theorem y39{β:Type}{b2:List Gau->Option (β⊕List Gau)}{R:List Gau->Option β}{i:Int}
  (hb:∀ g:List Gau,b2 g=(bif decide ((g.length:Int) > 0)then Option.bind (idx g 0) (λ v=>bif decide (v.2.1<=i)then (bif decide ((0:Int)<=1) && decide ((1:Int)<=(g.length:Int))then some (.inr (List.drop (Int.toNat 1) g))else none)else Option.map Sum.inl (R g))else Option.map Sum.inl (R g))) :
  ∀ (g:List Gau) (m:Nat),g.length < m->y26 b2 m g=R (g.dropWhile λ s=>decide (s.2.1<=i))
 |[],m,hm=>by
  obtain ⟨m,rfl⟩:∃ j,m=j+1:=⟨m - 1,by simp at hm;omega⟩
  unfold y26;rw[hb];show Option.bind (Option.map Sum.inl (R [])) _=R []
  cases R []<;>rfl
 |s::l,m,hm=>by
  obtain ⟨m,rfl⟩:∃ j,m=j+1:=⟨m - 1,by simp at hm;omega⟩
  simp only[length_cons]at hm;unfold y26;rw[hb,bifT (y7 (by simp))]
  show Option.bind (Option.bind (some s) _) _=_
  simp only[bind_some,List.dropWhile_cons];by_cases h:s.2.1<=i
  ·rw[bifT (y7 h),bifT (by simp;omega),if_pos (y7 h)]
   simp only[bind_some];exact y39 hb l m (by omega)
  ·rw[bifF (yE h),if_neg (by simpa using h)]
   cases R (s::l)<;>rfl
def yLI(g:List Gau)(i:Int):Bool:=match g with
 |[]=>false
 |s::_=>decide (s.1<=i)
theorem y5z{γ:Type}(g:List Gau)(i:Int)(A K:Option γ) :
  (bif decide ((g.length:Int) > 0)then Option.bind (idx g 0) (λ v=>bif decide (v.1<=i)then A else K)else K)=if yLI g i then A else K:=by
 cases g with
 |nil=>rfl
 |cons s l =>
  rw[bifT (y7 (by simp))]
  show (bif decide (s.1<=i)then A else K)=if decide (s.1<=i)=true then A else K
  cases decide (s.1<=i)<;>rfl
theorem y6d:∀ (l:List Gau) (p:Option Gau) (s:Gau),y3m p (s::l)=0->∀ t∈l,s.2.1 < t.1
 |[],_,_,_,t,ht=>by cases ht
 |u::l,p,s,h,t,ht=>by
  obtain ⟨h1,h2⟩:=yJ h;obtain ⟨h3,h4⟩:=yJ h2;have h5:=(yJ h3).2;have h6:s.2.1 < u.1:=by
   simp only at h5;by_cases q:u.1<=s.2.1
   ·rw[if_pos q]at h5;cases h5
   ·omega
  rcases List.mem_cons.1 ht with rfl|ht
  ·exact h6
  ·have h7:=y6d l (some s) u h2 t ht;have h8:=y8G _ _ h2 u (by simp)
   omega
theorem yO3(i:Int):∀ (g:List Gau) (p:Option Gau),y3m p g=0->∃ p',y3m p' (g.dropWhile λ s=>decide (s.2.1<=i))=0/\(∀ j,i<=j->has g j=has (g.dropWhile λ s=>decide (s.2.1<=i)) j)/\yLI (g.dropWhile λ s=>decide (s.2.1<=i)) i=has g i
 |[],p,h=>⟨p,h,λ _ _=>rfl,rfl⟩
 |s::l,p,h=>by
  rw[List.dropWhile_cons];by_cases hs:s.2.1<=i
  ·rw[if_pos (y7 hs)];obtain ⟨p',h1,h2,h3⟩:=yO3 i l (some s) (yJ h).2;have e:∀ j,i<=j->has (s::l) j=has l j:=λ j hj=>by
    unfold has;rw[List.any_cons,yE (show ¬ (s.1<=j/\j < s.2.1) by omega),Bool.false_or]
   exact ⟨p',h1,λ j hj=>(e j hj).trans (h2 j hj),by rw[h3,e i (le_refl _)]⟩
  ·rw[if_neg (by simpa using hs)]
   refine ⟨p,h,λ _ _=>rfl,?_⟩
   unfold yLI has;simp only[List.any_cons];by_cases h1:s.1<=i
   ·rw[y7 h1,y7 (show s.1<=i/\i < s.2.1 by omega)];rfl
   ·rw[yE h1,yE (show ¬ (s.1<=i/\i < s.2.1) by omega),Bool.false_or]
    symm
    rw[List.any_eq_false];intro t ht;have:=y6d l p s h t ht;simp;omega
theorem yJQ(q:Gau->Bool):∀ g:List Gau,(g.dropWhile q).length<=g.length
 |[]=>Nat.le_refl _
 |s::l=>by
  rw[List.dropWhile_cons];split
  ·have:=yJQ q l;simp only[length_cons];omega
  ·exact Nat.le_refl _
def recd(gaps:List Gau):Nat->List Nat->List (Int×Nat)
 |_,[]=>[]
 |i,x::l=>if has gaps (i:Int)then recd gaps (i+1) l else ((i:Int),x)::recd gaps (i+1) l
theorem yAW(gaps:List Gau):∀ (l:List Nat) (i:Nat),∀ p∈recd gaps i l,((i:Int)<=p.1/\p.1 < i+l.length)/\p.2∈l/\l[(p.1 - i).toNat]?=some p.2
 |[],i,p,h=>by cases h
 |x::l,i,p,h=>by
  have ih:=yAW gaps l (i+1);unfold recd at h;have tail:p∈recd gaps (i+1) l->((i:Int)<=p.1/\p.1 < i+(x::l).length)/\p.2∈x::l/\(x::l)[(p.1 - i).toNat]?=some p.2:=λ h=>by
   obtain ⟨h1,h2,h3⟩:=ih p h;simp only[length_cons];refine ⟨by omega,by simp[h2],?_⟩
   rw[show (p.1 - (i:Int)).toNat=(p.1 - ((i+1:Nat):Int)).toNat+1 by omega,List.getElem?_cons_succ]
   exact h3
  by_cases hh:has gaps (i:Int)=true
  ·rw[if_pos hh]at h;exact tail h
  ·rw[if_neg hh]at h;rcases List.mem_cons.1 h with rfl|h
   ·exact ⟨⟨le_refl _,by simp only[length_cons];omega⟩,by simp,by simp⟩
   ·exact tail h
theorem yAZ(gaps:List Gau):∀ (l:List Nat) (i:Nat),(recd gaps i l).length<=l.length
 |[],i=>by simp[recd]
 |x::l,i=>by
  have:=yAZ gaps l (i+1);unfold recd;split
  ·simp;omega
  ·simp;omega
theorem yFl{β σ:Type}{body:Int->Nat->List Gau×σ->Option (β⊕(List Gau×σ))}{fin:List Gau×σ->Option β}(gaps:List Gau)(fin':σ->Option β)(f:Int->Nat->σ->Option (β⊕σ))(N:Nat)(L:List Nat)
  (hf:∀ g s,fin (g,s)=fin' s) (hg:gaps.length < wMax)
  (hb:∀ (i:Nat) x g s,i < N->x∈L->g.length < wMax->body (i:Int) x (g,s)=if yLI (g.dropWhile λ s=>decide (s.2.1<=(i:Int))) i then some (.inr (g.dropWhile (λ s=>decide (s.2.1<=(i:Int))),s))else (f (i:Int) x s).map (Sum.map id λ s'=>(g.dropWhile (λ s=>decide (s.2.1<=(i:Int))),s'))) :
  ∀ (l:List Nat) (i:Nat) (j:Int) (g:List Gau) (p:Option Gau) (s:σ),y3m p g=0->(∀ k:Int,(i:Int)<=k->has gaps k=has g k)->g.length < wMax->i+l.length<=N->(∀ x∈l,x∈L) ->
   yH body fin (i:Int) l (g,s)=yH (λ _ (q:Int×Nat) s=>f q.1 q.2 s) fin' j (recd gaps i l) s
 |[],i,j,g,p,s,_,_,_,_,_=>by rw[y1o,hf];rfl
 |x::l,i,j,g,p,s,h1,h2,h3,h4,h5=>by
  simp only[length_cons]at h4;obtain ⟨p',q1,q2,q3⟩:=yO3 (i:Int) g p h1;rw[yU,hb i x g s (by omega) (h5 x (by simp)) h3,q3,<- h2 i (le_refl _)]
  have hlen:(g.dropWhile λ s=>decide (s.2.1<=(i:Int))).length < wMax:=Nat.lt_of_le_of_lt (yJQ _ g) h3
  have ih:=λ j s=>yFl (body:=body) (fin:=fin) gaps fin' f N L hf hg hb l (i+1) j (g.dropWhile λ s=>decide (s.2.1<=(i:Int))) p' s q1 (λ k hk=>by rw[h2 k (by omega),q2 k (by omega)]) hlen (by omega) (λ x hx=>h5 x (by simp[hx]))
  unfold recd;by_cases hh:has gaps (i:Int)=true
  ·rw[if_pos hh,if_pos hh];exact ih j s
  ·rw[if_neg hh,if_neg hh,yU];cases f (i:Int) x s with
   |none=>rfl
   |some z =>
    cases z with
    |inl y=>rfl
    |inr s'=>exact ih (j+1) s'
structure okR (r:Rec):Prop where
 start:0<=r.2.1/\r.2.1<=100000
 len:r.2.2.1.length<=4096
 lev:∀ x∈r.2.2.1,lvE x=0
 spans:y3m none r.2.2.2.1=0
 many:r.2.2.2.1.length<=2048
 ends : ∀ s ∈ r.2.2.2.1,s.2.1 <= (r.2.2.1.length : Int)
 zero:¬ yID r.2.2.1 r.2.2.2.1
theorem y7W{r:Rec}(h:yB0 r=0):okR r:=by
 classical
 unfold yB0 at h;obtain ⟨h1,h2⟩:=yJ h;obtain ⟨h3,h4⟩:=yJ h2;obtain ⟨h5,h6⟩:=yJ h4;obtain ⟨h7,h8⟩:=yJ h6;have h9:=y2V h1;have ha:=y3R (n:=r.2.1) (lo:=0) (hi:=100000) (h9 _ (by simp))
 have hb:(if 4096 < r.2.2.1.length then (5:Int)else 0)=0:=h9 _ (by simp)
 obtain ⟨hc,hd⟩:=y9f h5;refine ⟨ha,?_,λ x hx=>y2V h3 _ (List.mem_map.2 ⟨x,hx,rfl⟩),hd,hc,?_,?_⟩
 ·by_cases q:4096 < r.2.2.1.length
  ·rw[if_pos q]at hb;cases hb
  ·omega
 ·intro s hs;cases q:r.2.2.2.1.any (λ s=>decide ((r.2.2.1.length:Int) < s.2.1))with
  |true=>rw[q]at h7;cases h7
  |false =>
   have:=List.any_eq_false.1 q s hs;simp at this;omega
 ·intro hf;rw[if_pos hf]at h8;cases h8
def tks(r:Rec):List Int:=(recd r.2.2.2.1 0 r.2.2.1).map λ q=>r.2.1+q.1
theorem yQU(r:Rec):(tks r).length<=r.2.2.1.length:=by
 unfold tks;rw[List.length_map];exact yAZ _ _ _
theorem yBi{r:Rec}(h:okR r):∀ q∈recd r.2.2.2.1 0 r.2.2.1,(0<=q.1/\q.1 < r.2.2.1.length)/\lvE q.2=0/\r.2.2.1[q.1.toNat]?=some q.2:=by
 intro q hq;obtain ⟨h1,h2,h3⟩:=yAW _ _ _ q hq;refine ⟨by omega,h.lev _ h2,?_⟩
 simpa using h3
theorem yRt{r:Rec}(h:okR r):∀ t∈tks r,y5y t:=by
 intro t ht;obtain ⟨q,hq,rfl⟩:=List.mem_map.1 ht;have h1:=yBi h q hq;have h2:=h.start;have h3:=h.len;unfold y5y;omega
theorem y4P{x:Nat}(h:lvE x=0):yk .f32 (yu .mul .f32 x 1098907648) .i64=some (sx x):=by
 obtain ⟨n,h1,h2,h3⟩:=yLG h;have h4:sx x=n:=by unfold sx;rw[h2]
 rw[h4];unfold za_M za_m at h2;cases hq:yk .f32 (yu .mul .f32 x 1098907648) .i64 with
 |none=>rw[hq]at h2;cases h2
 |some k=>rw[hq]at h2;cases h2;rfl
theorem yPe{x:Nat}(h:lvE x=0):zf_M x=some (sx x,()):=by
 obtain ⟨n,h1,h2,h3⟩:=yLG h;have h4:sx x=n:=by unfold sx;rw[h2]
 rw[h3,h4]
theorem y5r{β σ:Type}{body:Int->Nat->List Gau×σ->Option (β⊕(List Gau×σ))}{fin:List Gau×σ->Option β}{r:Rec}(h:okR r)(fin':σ->Option β)(f:Int->Nat->σ->Option (β⊕σ))
  (hf:∀ g s,fin (g,s)=fin' s)
  (hb:∀ (i:Nat) x g s,i < 4096->lvE x=0->g.length < wMax->body (i:Int) x (g,s)=if yLI (g.dropWhile λ s=>decide (s.2.1<=(i:Int))) i then some (.inr (g.dropWhile (λ s=>decide (s.2.1<=(i:Int))),s))else (f (i:Int) x s).map (Sum.map id λ s'=>(g.dropWhile (λ s=>decide (s.2.1<=(i:Int))),s'))) (s:σ) :
  yH body fin 0 r.2.2.1 (r.2.2.2.1,s)=yH (λ _ (q:Int×Nat) s=>f q.1 q.2 s) fin' 0 (recd r.2.2.2.1 0 r.2.2.1) s:=by
 have hw:wMax=1000000:=rfl;have hm:=h.many;have hl:=h.len;exact yFl (body:=body) (fin:=fin) r.2.2.2.1 fin' f 4096 r.2.2.1 hf (by omega) (λ i x g s hi hx hg=>hb i x g s hi (h.lev x hx) hg) r.2.2.1 0 0 r.2.2.2.1 none s h.spans (λ _ _=>rfl) (by omega) (by omega) (λ _ h=>h)
theorem yKi{r:Rec}(h:okR r):yHn r=some (tks r,()):=by
 have hmem:memMax=68719476736:=rfl;have hl:=h.len;have hs:=h.start;unfold yHn;rw[bifT (y7 (show r.2.2.1.length < lenMax by unfold lenMax;omega))]
 refine (y5r h (λ s=>some (s,())) (λ i x s=>bif decide (s.length+1<=memMax)then some (.inr (s++[r.2.1+i]))else none) (λ g s=>rfl) (λ i x g s hi hx hg=>?_) []).trans ?_
 ·dsimp only;unfold yKE;refine (y39 (i:=(i:Int)) (λ g=>rfl) g wMax hg).trans ?_
  generalize g.dropWhile (λ s=>decide (s.2.1<=(i:Int)))=g'
  unfold yB3;rw[y5z,y4P hx];simp only[bind_some];rw[y04 (i:=r.2.1+(i:Int)) (by omega) (by omega)]
  cases decide (s.length+1<=memMax)<;>rfl
 ·have hr:=yAZ r.2.2.2.1 r.2.2.1 0;rw[y1P (λ q:Int×Nat=>r.2.1+q.1) _ 0 [] (by simp;omega) λ i e s _ hs=>by rw[bifT (y7 hs)]]
  rfl
theorem y83{r:Rec}(h:okR r):∀ (l:List Nat) (i:Nat) (s:List Int),i+l.length=r.2.2.1.length->r.2.2.1.drop i=l->s.length+l.length<=memMax ->
  y0e (λ i__ s__=>yGS r i__ s__) (λ s__=>yDG r s__) l.length (i:Int) s=some (s++(recd r.2.2.2.1 i l).map (λ q=>r.2.1+q.1),())
 |[],i,s,_,_,_=>by
  show yDG r s=_
  simp[recd,yDG]
 |x::l,i,s,hi,hd,hl=>by
  have hlen:=h.len;have hst:=h.start;simp only[length_cons]at hi hl ⊢;rw[y4m];have hrec:zu_M r (i:Int)=some (!has r.2.2.2.1 (i:Int),()):=by
   unfold zu_M zu_m;rw[bifT (y7 (by omega)),bifT (y7 (by omega)),has_eq _ _ (by have:=h.many;unfold lenMax;omega)]
   rfl
  have hd2:r.2.2.1.drop (i+1)=l:=by
   rw[<- List.drop_drop,hd];rfl
  have ih:=λ s hs=>y83 h l (i+1) s (by omega) hd2 hs
  unfold yGS recd;rw[hrec];simp only[bind_some];cases hh:has r.2.2.2.1 (i:Int)with
  |true =>
   simp only[Bool.not_true,cond_false,bind_some,if_true];exact ih s (by omega)
  |false =>
   simp only[Bool.not_false,cond_true,Bool.false_eq_true,if_false];rw[bifT (y7 (by omega)),y04 (i:=r.2.1+(i:Int)) (by omega) (by omega)]
   simp only[bind_some,List.map_cons];refine Eq.trans (ih (s++[r.2.1+(i:Int)]) (by rw[List.length_append];simp only[length_cons,List.length_nil];omega)) ?_
   rw[List.append_assoc];rfl
theorem yDI{r:Rec}(h:okR r):yN1 r=some (tks r,()):=by
 have hmem:memMax=68719476736:=rfl;have hl:=h.len;unfold yN1;rw[bifT (y7 (by omega)),show ((r.2.2.1.length:Int) - 0).toNat=r.2.2.1.length by omega]
 have:=y83 h r.2.2.1 0 [] (by omega) rfl (by simp;omega)
 exact this
theorem y2E{α β σ:Type}{body:Int->α->σ->Option (β⊕σ)}{fin:σ->Option β}(h:σ->α->σ) :
  ∀ (l:List α) (i:Int) (s:σ),(∀ i e s,e∈l->body i e s=some (.inr (h s e)))->yH body fin i l s=fin (l.foldl h s)
 |[],i,s,_=>rfl
 |e::l,i,s,hb=>by
  rw[yU,hb i e s (by simp)]
  simp only[bind_some];exact y2E h l (i+1) _ λ i e s he=>hb i e s (by simp[he])
noncomputable def y84(r:Rec):Int:=yP (yB0 r) (if 128 < (tks r).length then 5 else 0)
theorem yFc(r:Rec)(hn:r.1.length < lenMax)(hl:r.2.2.1.length < lenMax)(hg:r.2.2.2.1.length < lenMax):zh_M r=some (y84 r,()):=by
 unfold zh_M zh_m y84;rw[yPq r hn hl hg];simp only[bind_some];by_cases h:yB0 r=0
 ·rw[bifF (by simp[h]),h,yQ,yKi (y7W h)]
  simp only[bind_some,y4K];by_cases q:128 < (tks r).length
  ·rw[if_pos q,y7 (by omega)];rfl
  ·rw[if_neg q,yE (by omega)];rfl
 ·rw[bifT (by simpa using h),yb h]
theorem yMT(r:Rec)(hg:r.2.2.2.1.length < lenMax):zW_M r=some (y84 r,()):=by
 unfold zW_M zW_m y84;rw[yPR r hg];simp only[bind_some];by_cases h:yB0 r=0
 ·rw[bifF (by simp[h]),h,yQ,yDI (y7W h)]
  simp only[bind_some];by_cases q:128 < (tks r).length
  ·rw[if_pos q,bifT (y7 (by omega))]
  ·rw[if_neg q,bifF (yE (by omega))]
 ·rw[bifT (by simpa using h),yb h]
theorem yEZ(r:Rec)(hl:r.2.2.1.length<=memMax)(hg:r.2.2.2.1.length<=memMax):yPP r=some (r,()):=by
 unfold yPP yPJ;rw[bifT (y7 (by omega)),bifT (y7 (by omega))]
end Go.Tw
