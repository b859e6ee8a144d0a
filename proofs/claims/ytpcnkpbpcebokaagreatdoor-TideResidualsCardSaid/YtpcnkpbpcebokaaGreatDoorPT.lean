import Derived.Test.YtpcnkpbpcebokaaGreatDoorPR
set_option linter.all false
set_option maxRecDepth 100000
namespace Go.Tw
open Go.Vx Go.Vx.B Go.Proofs Ieee
theorem y72{β:Type}{b2:List Gau→Option (β⊕List Gau)}{R:List Gau→Option β}{i:Int}
  (hb:∀ g:List Gau,b2 g=(bif decide ((g.length:Int) > 0)then Option.bind (idx g 0) (fun v=>bif decide (v.2.1≤i)then (bif decide ((0:Int)≤1) && decide ((1:Int)≤(g.length:Int))then some (.inr (List.drop (Int.toNat 1) g))else none)else Option.map Sum.inl (R g))else Option.map Sum.inl (R g))) :
  ∀ (g:List Gau) (m:Nat),g.length < m→y1q b2 m g=R (g.dropWhile fun s=>decide (s.2.1≤i))
 | [],m,hm=>by
  obtain ⟨m,rfl⟩:∃ j,m=j+1:=⟨m - 1,by simp at hm;omega⟩
  unfold y1q;rw[hb];show Option.bind (Option.map Sum.inl (R [])) _=R []
  cases R []<;>rfl
 | s::l,m,hm=>by
  obtain ⟨m,rfl⟩:∃ j,m=j+1:=⟨m - 1,by simp at hm;omega⟩
  simp only[List.length_cons]at hm;unfold y1q;rw[hb,bifT (y7 (by simp))]
  show Option.bind (Option.bind (some s) _) _=_
  simp only[Option.bind_some,List.dropWhile_cons];by_cases h:s.2.1≤i
  ·rw[bifT (y7 h),bifT (by simp;omega),if_pos (y7 h)]
   simp only[Option.bind_some];exact y72 hb l m (by omega)
  ·rw[bifF (yG h),if_neg (by simpa using h)]
   cases R (s::l)<;>rfl
def yJD(g:List Gau)(i:Int):Bool:=match g with
 | []=>false
 | s::_=>decide (s.1≤i)
theorem yEM{γ:Type}(g:List Gau)(i:Int)(A K:Option γ) :
  (bif decide ((g.length:Int) > 0)then Option.bind (idx g 0) (fun v=>bif decide (v.1≤i)then A else K)else K)=if yJD g i then A else K:=by
 cases g with
 | nil=>rfl
 | cons s l =>
  rw[bifT (y7 (by simp))]
  show (bif decide (s.1≤i)then A else K)=if decide (s.1≤i)=true then A else K
  cases decide (s.1≤i)<;>rfl
theorem y6C:∀ (l:List Gau) (p:Option Gau) (s:Gau),y3x p (s::l)=0→∀ t∈l,s.2.1 < t.1
 | [],_,_,_,t,ht=>by cases ht
 | u::l,p,s,h,t,ht=>by
  obtain ⟨h1,h2⟩:=yM h;obtain ⟨h3,h4⟩:=yM h2;have h5:=(yM h3).2;have h6:s.2.1 < u.1:=by
   simp only at h5;by_cases q:u.1≤s.2.1
   ·rw[if_pos q]at h5;cases h5
   ·omega
  rcases List.mem_cons.1 ht with rfl|ht
  ·exact h6
  ·have h7:=y6C l (some s) u h2 t ht;have h8:=y7S _ _ h2 u (by simp)
   omega
theorem yN2(i:Int):∀ (g:List Gau) (p:Option Gau),y3x p g=0→∃ p',y3x p' (g.dropWhile fun s=>decide (s.2.1≤i))=0∧(∀ j,i≤j→has g j=has (g.dropWhile fun s=>decide (s.2.1≤i)) j)∧yJD (g.dropWhile fun s=>decide (s.2.1≤i)) i=has g i
 | [],p,h=>⟨p,h,fun _ _=>rfl,rfl⟩
 | s::l,p,h=>by
  rw[List.dropWhile_cons];by_cases hs:s.2.1≤i
  ·rw[if_pos (y7 hs)];obtain ⟨p',h1,h2,h3⟩:=yN2 i l (some s) (yM h).2;have e:∀ j,i≤j→has (s::l) j=has l j:=fun j hj=>by
    unfold has;rw[List.any_cons,yG (show ¬ (s.1≤j∧j < s.2.1) by omega),Bool.false_or]
   exact ⟨p',h1,fun j hj=>(e j hj).trans (h2 j hj),by rw[h3,e i (Int.le_refl _)]⟩
  ·rw[if_neg (by simpa using hs)]
   refine ⟨p,h,fun _ _=>rfl,?_⟩
   unfold yJD has;simp only[List.any_cons];by_cases h1:s.1≤i
   ·rw[y7 h1,y7 (show s.1≤i∧i < s.2.1 by omega)];rfl
   ·rw[yG h1,yG (show ¬ (s.1≤i∧i < s.2.1) by omega),Bool.false_or]
    symm
    rw[List.any_eq_false];intro t ht;have:=y6C l p s h t ht;simp;omega
theorem yId(q:Gau→Bool):∀ g:List Gau,(g.dropWhile q).length≤g.length
 | []=>Nat.le_refl _
 | s::l=>by
  rw[List.dropWhile_cons];split
  ·have:=yId q l;simp only[List.length_cons];omega
  ·exact Nat.le_refl _
def recd(gaps:List Gau):Nat→List Nat→List (Int×Nat)
 | _,[]=>[]
 | i,x::l=>if has gaps (i:Int)then recd gaps (i+1) l else ((i:Int),x)::recd gaps (i+1) l
theorem yEa(gaps:List Gau):∀ (l:List Nat) (i:Nat),∀ p∈recd gaps i l,((i:Int)≤p.1∧p.1 < i+l.length)∧p.2∈l∧l[(p.1 - i).toNat]?=some p.2
 | [],i,p,h=>by cases h
 | x::l,i,p,h=>by
  have ih:=yEa gaps l (i+1);unfold recd at h;have tail:p∈recd gaps (i+1) l→((i:Int)≤p.1∧p.1 < i+(x::l).length)∧p.2∈x::l∧(x::l)[(p.1 - i).toNat]?=some p.2:=fun h=>by
   obtain ⟨h1,h2,h3⟩:=ih p h;simp only[List.length_cons];refine ⟨by omega,by simp[h2],?_⟩
   rw[show (p.1 - (i:Int)).toNat=(p.1 - ((i+1:Nat):Int)).toNat+1 by omega,List.getElem?_cons_succ]
   exact h3
  by_cases hh:has gaps (i:Int)=true
  ·rw[if_pos hh]at h;exact tail h
  ·rw[if_neg hh]at h;rcases List.mem_cons.1 h with rfl|h
   ·exact ⟨⟨Int.le_refl _,by simp only[List.length_cons];omega⟩,by simp,by simp⟩
   ·exact tail h
theorem yA7(gaps:List Gau):∀ (l:List Nat) (i:Nat),(recd gaps i l).length≤l.length
 | [],i=>by simp[recd]
 | x::l,i=>by
  have:=yA7 gaps l (i+1);unfold recd;split
  ·simp;omega
  ·simp;omega
theorem yEc{β σ:Type}{body:Int→Nat→List Gau×σ→Option (β⊕(List Gau×σ))}{fin:List Gau×σ→Option β}(gaps:List Gau)(fin':σ→Option β)(f:Int→Nat→σ→Option (β⊕σ))(N:Nat)(L:List Nat)
  (hf:∀ g s,fin (g,s)=fin' s) (hg:gaps.length < wMax)
  (hb:∀ (i:Nat) x g s,i < N→x∈L→g.length < wMax→body (i:Int) x (g,s)=if yJD (g.dropWhile fun s=>decide (s.2.1≤(i:Int))) i then some (.inr (g.dropWhile (fun s=>decide (s.2.1≤(i:Int))),s))else (f (i:Int) x s).map (Sum.map id fun s'=>(g.dropWhile (fun s=>decide (s.2.1≤(i:Int))),s'))) :
  ∀ (l:List Nat) (i:Nat) (j:Int) (g:List Gau) (p:Option Gau) (s:σ),y3x p g=0→(∀ k:Int,(i:Int)≤k→has gaps k=has g k)→g.length < wMax→i+l.length≤N→(∀ x∈l,x∈L) →
   yR body fin (i:Int) l (g,s)=yR (fun _ (q:Int×Nat) s=>f q.1 q.2 s) fin' j (recd gaps i l) s
 | [],i,j,g,p,s,_,_,_,_,_=>by rw[y4w,hf];rfl
 | x::l,i,j,g,p,s,h1,h2,h3,h4,h5=>by
  simp only[List.length_cons]at h4;obtain ⟨p',q1,q2,q3⟩:=yN2 (i:Int) g p h1;rw[yk,hb i x g s (by omega) (h5 x (by simp)) h3,q3,← h2 i (Int.le_refl _)]
  have hlen:(g.dropWhile fun s=>decide (s.2.1≤(i:Int))).length < wMax:=Nat.lt_of_le_of_lt (yId _ g) h3
  have ih:=fun j s=>yEc (body:=body) (fin:=fin) gaps fin' f N L hf hg hb l (i+1) j (g.dropWhile fun s=>decide (s.2.1≤(i:Int))) p' s q1 (fun k hk=>by rw[h2 k (by omega),q2 k (by omega)]) hlen (by omega) (fun x hx=>h5 x (by simp[hx]))
  unfold recd;by_cases hh:has gaps (i:Int)=true
  ·rw[if_pos hh,if_pos hh];exact ih j s
  ·rw[if_neg hh,if_neg hh,yk];cases f (i:Int) x s with
   | none=>rfl
   | some z =>
    cases z with
    | inl y=>rfl
    | inr s'=>exact ih (j+1) s'
structure okR (r:Rec):Prop where
 start:0≤r.2.1∧r.2.1≤100000
 len:r.2.2.1.length≤4096
 lev:∀ x∈r.2.2.1,lvE x=0
 spans:y3x none r.2.2.2.1=0
 many:r.2.2.2.1.length≤2048
 ends : ∀ s ∈ r.2.2.2.1,s.2.1 ≤ (r.2.2.1.length : Int)
 zero:¬ yGV r.2.2.1 r.2.2.2.1
theorem y6V{r:Rec}(h:y9s r=0):okR r:=by
 classical
 unfold y9s at h;obtain ⟨h1,h2⟩:=yM h;obtain ⟨h3,h4⟩:=yM h2;obtain ⟨h5,h6⟩:=yM h4;obtain ⟨h7,h8⟩:=yM h6;have h9:=y2G h1;have ha:=y2O (n:=r.2.1) (lo:=0) (hi:=100000) (h9 _ (by simp))
 have hb:(if 4096 < r.2.2.1.length then (5:Int)else 0)=0:=h9 _ (by simp)
 obtain ⟨hc,hd⟩:=y8g h5;refine ⟨ha,?_,fun x hx=>y2G h3 _ (List.mem_map.2 ⟨x,hx,rfl⟩),hd,hc,?_,?_⟩
 ·by_cases q:4096 < r.2.2.1.length
  ·rw[if_pos q]at hb;cases hb
  ·omega
 ·intro s hs;cases q:r.2.2.2.1.any (fun s=>decide ((r.2.2.1.length:Int) < s.2.1))with
  | true=>rw[q]at h7;cases h7
  | false =>
   have:=List.any_eq_false.1 q s hs;simp at this;omega
 ·intro hf;rw[if_pos hf]at h8;cases h8
def tks(r:Rec):List Int:=(recd r.2.2.2.1 0 r.2.2.1).map fun q=>r.2.1+q.1
theorem yOe(r:Rec):(tks r).length≤r.2.2.1.length:=by
 unfold tks;rw[List.length_map];exact yA7 _ _ _
theorem yHx{r:Rec}(h:okR r):∀ q∈recd r.2.2.2.1 0 r.2.2.1,(0≤q.1∧q.1 < r.2.2.1.length)∧lvE q.2=0∧r.2.2.1[q.1.toNat]?=some q.2:=by
 intro q hq;obtain ⟨h1,h2,h3⟩:=yEa _ _ _ q hq;refine ⟨by omega,h.lev _ h2,?_⟩
 simpa using h3
theorem yAv{x:Nat}(h:lvE x=0):y02 .f32 (y01 .mul .f32 x 1098907648) .i64=some (sx x):=by
 obtain ⟨n,h1,h2,h3⟩:=yMv h;have h4:sx x=n:=by unfold sx;rw[h2]
 rw[h4];unfold zb_M zb_m at h2;cases hq:y02 .f32 (y01 .mul .f32 x 1098907648) .i64 with
 | none=>rw[hq]at h2;cases h2
 | some k=>rw[hq]at h2;cases h2;rfl
theorem yRO{x:Nat}(h:lvE x=0):zh_M x=some (sx x,()):=by
 obtain ⟨n,h1,h2,h3⟩:=yMv h;have h4:sx x=n:=by unfold sx;rw[h2]
 rw[h3,h4]
theorem yEz{β σ:Type}{body:Int→Nat→List Gau×σ→Option (β⊕(List Gau×σ))}{fin:List Gau×σ→Option β}{r:Rec}(h:okR r)(fin':σ→Option β)(f:Int→Nat→σ→Option (β⊕σ))
  (hf:∀ g s,fin (g,s)=fin' s)
  (hb:∀ (i:Nat) x g s,i < 4096→lvE x=0→g.length < wMax→body (i:Int) x (g,s)=if yJD (g.dropWhile fun s=>decide (s.2.1≤(i:Int))) i then some (.inr (g.dropWhile (fun s=>decide (s.2.1≤(i:Int))),s))else (f (i:Int) x s).map (Sum.map id fun s'=>(g.dropWhile (fun s=>decide (s.2.1≤(i:Int))),s'))) (s:σ) :
  yR body fin 0 r.2.2.1 (r.2.2.2.1,s)=yR (fun _ (q:Int×Nat) s=>f q.1 q.2 s) fin' 0 (recd r.2.2.2.1 0 r.2.2.1) s:=by
 have hw:wMax=1000000:=rfl;have hm:=h.many;have hl:=h.len;exact yEc (body:=body) (fin:=fin) r.2.2.2.1 fin' f 4096 r.2.2.1 hf (by omega) (fun i x g s hi hx hg=>hb i x g s hi (h.lev x hx) hg) r.2.2.1 0 0 r.2.2.2.1 none s h.spans (fun _ _=>rfl) (by omega) (by omega) (fun _ h=>h)
theorem yHt{r:Rec}(h:okR r):yBy r=some (tks r,()):=by
 have hmem:memMax=68719476736:=rfl;have hl:=h.len;have hs:=h.start;unfold yBy;rw[bifT (y7 (show r.2.2.1.length < lenMax by unfold lenMax;omega))]
 refine (yEz h (fun s=>some (s,())) (fun i x s=>bif decide (s.length+1≤memMax)then some (.inr (s++[r.2.1+i]))else none) (fun g s=>rfl) (fun i x g s hi hx hg=>?_) []).trans ?_
 ·dsimp only;unfold yEQ;refine (y72 (i:=(i:Int)) (fun g=>rfl) g wMax hg).trans ?_
  generalize g.dropWhile (fun s=>decide (s.2.1≤(i:Int)))=g'
  unfold y9T;rw[yEM,yAv hx];simp only[Option.bind_some];rw[y5T (i:=r.2.1+(i:Int)) (by omega) (by omega)]
  cases decide (s.length+1≤memMax)<;>rfl
 ·have hr:=yA7 r.2.2.2.1 r.2.2.1 0;rw[y4p (fun q:Int×Nat=>r.2.1+q.1) _ 0 [] (by simp;omega) fun i e s _ hs=>by rw[bifT (y7 hs)]]
  rfl
theorem y82{r:Rec}(h:okR r):∀ (l:List Nat) (i:Nat) (s:List Int),i+l.length=r.2.2.1.length→r.2.2.1.drop i=l→s.length+l.length≤memMax →
  y1k (fun i__ s__=>yBH r i__ s__) (fun s__=>y93 r s__) l.length (i:Int) s=some (s++(recd r.2.2.2.1 i l).map (fun q=>r.2.1+q.1),())
 | [],i,s,_,_,_=>by
  show y93 r s=_
  simp[recd,y93]
 | x::l,i,s,hi,hd,hl=>by
  have hlen:=h.len;have hst:=h.start;simp only[List.length_cons]at hi hl ⊢;rw[y8l];have hrec:zx_M r (i:Int)=some (!has r.2.2.2.1 (i:Int),()):=by
   unfold zx_M zx_m;rw[bifT (y7 (by omega)),bifT (y7 (by omega)),has_eq _ _ (by have:=h.many;unfold lenMax;omega)]
   rfl
  have hd2:r.2.2.1.drop (i+1)=l:=by
   rw[← List.drop_drop,hd];rfl
  have ih:=fun s hs=>y82 h l (i+1) s (by omega) hd2 hs
  unfold yBH recd;rw[hrec];simp only[Option.bind_some];cases hh:has r.2.2.2.1 (i:Int)with
  | true =>
   simp only[Bool.not_true,cond_false,Option.bind_some,if_true];exact ih s (by omega)
  | false =>
   simp only[Bool.not_false,cond_true,Bool.false_eq_true,if_false];rw[bifT (y7 (by omega)),y5T (i:=r.2.1+(i:Int)) (by omega) (by omega)]
   simp only[Option.bind_some,List.map_cons];refine Eq.trans (ih (s++[r.2.1+(i:Int)]) (by rw[List.length_append];simp only[List.length_cons,List.length_nil];omega)) ?_
   rw[List.append_assoc];rfl
theorem yB2{r:Rec}(h:okR r):y9t r=some (tks r,()):=by
 have hmem:memMax=68719476736:=rfl;have hl:=h.len;unfold y9t;rw[bifT (y7 (by omega)),show ((r.2.2.1.length:Int) - 0).toNat=r.2.2.1.length by omega]
 have:=y82 h r.2.2.1 0 [] (by omega) rfl (by simp;omega)
 exact this
theorem y8n{α β σ:Type}{body:Int→α→σ→Option (β⊕σ)}{fin:σ→Option β}(h:σ→α→σ) :
  ∀ (l:List α) (i:Int) (s:σ),(∀ i e s,e∈l→body i e s=some (.inr (h s e)))→yR body fin i l s=fin (l.foldl h s)
 | [],i,s,_=>rfl
 | e::l,i,s,hb=>by
  rw[yk,hb i e s (by simp)]
  simp only[Option.bind_some];exact y8n h l (i+1) _ fun i e s he=>hb i e s (by simp[he])
noncomputable def y3u(r:Rec):Int:=yL (y9s r) (if 128 < (tks r).length then 5 else 0)
theorem yJu(r:Rec)(hn:r.1.length < lenMax)(hl:r.2.2.1.length < lenMax)(hg:r.2.2.2.1.length < lenMax):zj_M r=some (y3u r,()):=by
 unfold zj_M zj_m y3u;rw[yOQ r hn hl hg];simp only[Option.bind_some];by_cases h:y9s r=0
 ·rw[bifF (by simp[h]),h,yb,yHt (y6V h)]
  simp only[Option.bind_some,y3m];by_cases q:128 < (tks r).length
  ·rw[if_pos q,y7 (by omega)];rfl
  ·rw[if_neg q,yG (by omega)];rfl
 ·rw[bifT (by simpa using h),yQ h]
theorem yKv(r:Rec)(hg:r.2.2.2.1.length < lenMax):zX_M r=some (y3u r,()):=by
 unfold zX_M zX_m y3u;rw[yOP r hg];simp only[Option.bind_some];by_cases h:y9s r=0
 ·rw[bifF (by simp[h]),h,yb,yB2 (y6V h)]
  simp only[Option.bind_some];by_cases q:128 < (tks r).length
  ·rw[if_pos q,bifT (y7 (by omega))]
  ·rw[if_neg q,bifF (yG (by omega))]
 ·rw[bifT (by simpa using h),yQ h]
theorem yS8(r:Rec)(hl:r.2.2.1.length≤memMax)(hg:r.2.2.2.1.length≤memMax):yM2 r=some (r,()):=by
 unfold yM2 yKj;rw[bifT (y7 (by omega)),bifT (y7 (by omega))]
theorem yLK{r:Rec}(h:(z0c r).1=true):r.1.length≤60∧r.2.2.1.length≤4097∧r.2.2.2.1.length≤2049:=by
 unfold z0c zg at h;by_cases h1:(r.1.length:Int)≤60
 ·rw[bifT (y7 h1)]at h;have key:(bif decide ((r.2.2.2.1.length:Int)≤8)then (true,())else ((r.2.2.2.1.length:Int) == 2049,())).1=true→r.2.2.2.1.length≤2049:=fun h=>by
   by_cases q:(r.2.2.2.1.length:Int)≤8
   ·omega
   ·rw[bifF (yG q)]at h;have:(r.2.2.2.1.length:Int)=2049:=by simpa using h
    omega
  by_cases h2:(r.2.2.1.length:Int)≤24
  ·rw[bifT (y7 h2)]at h;exact ⟨by omega,by omega,key h⟩
  ·rw[bifF (yG h2)]at h;by_cases h3:(r.2.2.1.length:Int)=130
   ·rw[bifT (by simpa using h3)]at h
    exact ⟨by omega,by omega,key h⟩
   ·rw[bifF (by simpa using h3)]at h
    by_cases h4:(r.2.2.1.length:Int)=4097
    ·rw[bifT (by simpa using h4)]at h
     exact ⟨by omega,by omega,key h⟩
    ·rw[bifF (by simpa using h4)]at h
     cases h
 ·rw[bifF (yG h1)]at h;cases h
end Go.Tw
