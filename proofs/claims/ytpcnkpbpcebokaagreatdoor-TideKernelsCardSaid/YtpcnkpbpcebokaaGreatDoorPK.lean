import Derived.Test.YtpcnkpbpcebokaaGreatDoorPM4
import Derived.Test.YtpcnkpbpcebokaaGreatDoorBKe
import Derived.Test.YtpcnkpbpcebokaaGreatDoorPA
set_option linter.all false
set_option maxRecDepth 100000
namespace Go.Tw
open Go.Vx Go.Vx.B Go.Proofs
theorem yCa{α β σ:Type}{body:Int->α->σ->Option (β⊕σ)}{fin:σ->Option β}:∀ (l:List α) (i:Int) (s:σ),
  yM body fin i l s=yM (λ i x (p:σ×Unit)=>(body i x p.1).map (Sum.map id λ s=>(s,()))) (λ p=>fin p.1) i l (s,())
 |[],i,s=>rfl
 |x::l,i,s=>by
  rw[yk,yk];simp only;cases body i x s with
  |none=>rfl
  |some z =>
   cases z with
   |inl y=>rfl
   |inr s'=>exact yCa l (i+1) s'
theorem y4x{α β σ:Type}{body:Int->σ->Option (β⊕σ)}{fin:σ->Option β}(xs:List α)(h:σ->α->σ)(I:σ->Prop)(hb:∀ (i:Nat) e s,I s->xs[i]?=some e->body (i:Int) s=some (.inr (h s e))/\I (h s e)) :
  ∀ (l done:List α) (s:σ),I s->xs=done++l->y0B body fin l.length (done.length:Int) s=fin (l.foldl h s)/\I (l.foldl h s)
 |[],done,s,hs,_=>⟨rfl,hs⟩
 |e::l,done,s,hs,hx=>by
  obtain ⟨b1,b2⟩:=hb done.length e s hs (by rw[hx];simp)
  rw[List.length_cons,y19,b1];simp only[Option.bind_some];have ih:=y4x (body:=body) (fin:=fin) xs h I hb l (done++[e]) (h s e) b2 (by rw[hx];simp)
  simp only[List.length_append,List.length_cons,List.length_nil]at ih;exact ih
def nzG(z:Gau):Bool:=!eqV ((Ty.int IntKind.i64).pair ((Ty.int IntKind.i64).pair Ty.unit)) z (0,0,())
noncomputable def kerF(r:Rec)(l:List Con)(v:List Gau):Int:=if (tks r).all (λ t=>!nzG (sumV l v t (0,0,())))then 0 else 22
noncomputable def yOD(r:Rec)(l:List Con)(v:List Gau):Int:=yT (if v.length=l.length then 0 else 2) (yT (y0C (v.map y2P)) (if v.any nzG then kerF r l v else 6))
theorem yRX(l:List Gau)(hl:l.length < lenMax):zA_M l (λ x=>zU_M x.1)=some (l.any nzG,()):=by
 unfold zA_M zA_m zD_M;rw[bifT (y5 hl)];obtain ⟨n,h1,h2⟩:=y5a (body:=λ i__ e__ s__=>yKO l (λ x=>zU_M x.1) i__ e__) (fin:=λ s__=>yMm l (λ x=>zU_M x.1)) nzG rfl l 0 (λ i e he=>by
  unfold yKO;show Option.bind (some (zU e)) _=_
  show (bif nzG e then _ else _)=_
  cases nzG e<;>rfl)
 rw[show ((0:Nat):Int)=0 from rfl]at h1
 rw[h1];simp only[Option.bind_some];rw[h2]
theorem yNN{r:Rec}{l:List Con}{v:List Gau}(hn:r.1.length < lenMax)(hl:r.2.2.1.length < lenMax)(hg:r.2.2.2.1.length < lenMax)(hnl:∀ n∈l,n.1.length < lenMax)(hll:l.length < lenMax)(hv:v.length<=memMax) :
  zn_M r l v=some (yT (y4d r l) (yOD r l v),()):=by
 unfold zn_M;rw[y9u r l hn hl hg hnl hll,yIf v hv];simp only[Option.bind_some];rw[y2F _ (by rw[List.length_map];exact y3E hv)]
 simp only[Option.bind_some,y4u];rw[y2F _ (yGa _ _ _),yW,yW,yW,y1F,y0V];simp only[Option.bind_some];have e:(bif ((v.length:Int) != (l.length:Int))then (2:Int)else 0)=if v.length=l.length then 0 else 2:=by
  by_cases h:v.length=l.length
  ·rw[if_pos h,h];simp
  ·rw[if_neg h];have:((v.length:Int) != (l.length:Int))=true:=by simpa using λ hh=>h (by omega)
   rw[this];rfl
 rw[e];unfold yOD;rw[<- y1L (if v.length=l.length then (0:Int)else 2),<- y1L (y4d r l) (yT _ _)]
 generalize hq:yT (y4d r l) (yT (if v.length=l.length then 0 else 2) (y0C (v.map y2P)))=q
 by_cases h0:q=0
 ·subst h0;obtain ⟨q1,q2⟩:=yU hq;obtain ⟨q3,q4⟩:=yU q2;obtain ⟨o1,o2,o3,o4⟩:=y8F q1;have hvl:v.length=l.length:=by
   by_cases h:v.length=l.length
   ·exact h
   ·rw[if_neg h]at q3;cases q3
  rw[bifF (by rfl),yv,yRX v (y3E hv)]
  simp only[Option.bind_some];cases hz:v.any nzG with
  |false=>rfl
  |true =>
   simp only[Bool.not_true,cond_false,if_true];rw[bifT (y5 hl),yCa];have hst:=o1.start;have hlen:=o1.len;refine (yAc o1 (λ s:Unit=>some ((0:Int),())) (λ i x s=>some (if nzG (sumV l v (r.2.1+i) (0,0,()))then .inl (22,())else .inr ())) (λ g s=>rfl) (λ i x g s hi hx hg=>?_) ()).trans ?_
   ·dsimp only;unfold yO9;refine Eq.trans (congrArg (Option.map (Sum.map id λ s=>(s,()))) (y5k (i:=(i:Int)) (λ g=>rfl) g wMax hg)) ?_
    generalize g.dropWhile (λ s=>decide (s.2.1<=(i:Int)))=g'
    unfold yGO;rw[yBB,y8P hx];simp only[Option.bind_some];rw[y25 (i:=r.2.1+(i:Int)) (by omega) (by omega),ySX (by omega) hll o4 ⟨by omega,by omega⟩]
    simp only[Option.bind_some];show Option.map _ (if yEA g' (i:Int)=true then _ else (bif nzG (sumV l v (r.2.1+(i:Int)) (0,0,()))then _ else _))=_
    cases yEA g' (i:Int)with
    |true=>rfl
    |false =>
     by_cases hh:nzG (sumV l v (r.2.1+(i:Int)) (0,0,()))=true
     ·rw[if_neg (by simp),if_neg (by simp),if_pos hh,bifT hh];rfl
     ·rw[if_neg (by simp),if_neg (by simp),if_neg hh,bifF (Bool.eq_false_iff.2 hh)];rfl
   ·rw[yCG (λ q:Int×Nat=>!nzG (sumV l v (r.2.1+q.1) (0,0,()))) (22,()) _ 0 λ i e he=>by
     cases nzG (sumV l v (r.2.1+e.1) (0,0,()))<;>rfl]
    unfold kerF tks;rw[List.all_map];show (if (recd r.2.2.2.1 0 r.2.2.1).all (λ q=>!nzG (sumV l v (r.2.1+q.1) (0,0,())))=true then some (0,())else some (22,()))=some (if (recd r.2.2.2.1 0 r.2.2.1).all (λ q=>!nzG (sumV l v (r.2.1+q.1) (0,0,())))=true then 0 else 22,())
    cases (recd r.2.2.2.1 0 r.2.2.1).all (λ q=>!nzG (sumV l v (r.2.1+q.1) (0,0,())))<;>rfl
 ·rw[bifT (by simpa using h0),yl h0]
theorem yN4{r:Rec}{l:List Con}{v:List Gau}(hr:okR r)(hc:∀ c∈l,y1t c)(hll:l.length < lenMax)(hv:v.length < lenMax):za_M r l v=some (yOD r l v,()):=by
 unfold za_M yOD;by_cases hvl:v.length=l.length
 ·rw[bifF (by rw[hvl];simp),if_pos hvl,yv,bifT (y5 hv)]
  have key:∀ (w done:List Gau) (b:Bool),v=done++w->yM (λ i__ e__ s__=>yGv l v r i__ e__ s__) (λ s__=>yI3 l v r s__) (done.length:Int) w b=if y0C (w.map y2P)=0 then yI3 l v r (b && w.all λ z=>!nzG z)else some (y0C (w.map y2P),()):=by
   intro w;induction w with
   |nil=>intro done b _;rw[y2E];simp[y0C]
   |cons z w ih =>
    intro done b hx;have hi:v[done.length]?=some z:=by rw[hx];simp
    have hb:yGv l v r (done.length:Int) z b=some (if y2P z=0 then .inr (b && !nzG z)else .inl (y2P z,())):=by
     unfold yGv;rw[yOL];simp only[Option.bind_some];by_cases hp:y2P z=0
     ·rw[bifF (by simp[hp]),if_pos hp]
      cases b with
      |false=>rfl
      |true =>
       rw[cond_true,ym,hi];simp only[Option.bind_some];unfold nzG;rw[Bool.not_not,Bool.true_and]
     ·rw[bifT (by simpa using hp),if_neg hp]
    rw[yk,hb,List.map_cons,yW];simp only[Option.bind_some];by_cases hp:y2P z=0
    ·rw[if_pos hp,hp,yv];have:=ih (done++[z]) (b && !nzG z) (by rw[hx];simp)
     simp only[List.length_append,List.length_cons,List.length_nil]at this;refine (show _=_ from this).trans ?_
     rw[List.all_cons,Bool.and_assoc]
    ·rw[if_neg hp,yl hp,if_neg hp]
  have k:=key v [] true rfl;refine (show _=_ from k).trans ?_
  by_cases hp:y0C (v.map y2P)=0
  ·rw[if_pos hp,hp,yv];unfold yI3;have ha:(true && v.all λ z=>!nzG z)=!v.any nzG:=by rw[Bool.true_and,List.not_any_eq_all_not]
   rw[ha];cases v.any nzG with
   |false=>rfl
   |true =>
    have htl:=yEM r;have hrl:=hr.len;simp only[Bool.not_true,cond_false,if_true];rw[y56 hr];simp only[Option.bind_some];rw[bifT (y5 (show (tks r).length < lenMax by unfold lenMax;omega)),yCG (λ t=>!nzG (sumV l v t (0,0,()))) (22,()) (tks r) 0 λ i t ht=>by
     unfold yLe;rw[yUU (by omega) hll hc (yK5 hr t ht)]
     simp only[Option.bind_some];show (bif nzG (sumV l v t (0,0,()))then _ else _)=_
     cases nzG (sumV l v t (0,0,()))<;>rfl]
    unfold kerF;cases (tks r).all (λ t=>!nzG (sumV l v t (0,0,())))<;>rfl
  ·rw[if_neg hp,yl hp]
 ·have:((v.length:Int) != (l.length:Int))=true:=by simpa using λ hh=>hvl (by omega)
  rw[bifT this,if_neg hvl,yl (by decide)]
noncomputable def kerO(r:Rec)(l:List Con)(k:Nat)(c:Con):List Gau:=
 ((List.range k).foldl (λ o j=>o.set j (detQ (y86 (norW (tks r) (l.take k)) j ((l.take k).map λ a=>innW (tks r) a c)))) (List.replicate l.length G0)).set k (z0n (detQ (norW (tks r) (l.take k))) (-1)).1
noncomputable def kerV(r:Rec)(l:List Con):List Gau×Int×Unit:=
 match (List.range l.length).find? λ k=>denA r (l.take (k+1)) == 0 with
 |some k=>(kerO r l k ((l[k]?).getD ([],0,0,())),0,())
 |none=>([],7,())
theorem yJG(z:Gau):(z0n z (-1)).1=(IntKind.i64.wrap (0 - z.1),IntKind.i64.wrap (0 - z.2.1),()):=by
 unfold z0n;simp only[Int.neg_mul,Int.one_mul,Int.zero_sub]
theorem yGb(f:Nat->Gau):∀ (l:List Nat) (o:List Gau),(l.foldl (λ o j=>o.set j (f j)) o).length=o.length
 |[],o=>rfl
 |j::l,o=>by
  rw[List.foldl_cons,yGb f l];simp
theorem yaF{r:Rec}(h:okR r){l:List Con}(hl:l.length<=4)(hc:∀ c∈l,y1t c)(k:Nat)(hk:k < l.length):y62 (k:Int) r l=some (kerO r l k l[k],0,()):=by
 have hmem:memMax=68719476736:=rfl;have hct:∀ c∈l.take k,y1t c:=λ c hcm=>hc c (List.mem_of_mem_take hcm)
 have hlt:(l.take k).length=k:=by rw[List.length_take];omega
 obtain ⟨n1,n2⟩:=y81 (tks r) (l.take k);rw[hlt]at n1 n2;unfold y62;rw[bifF (by simp;omega),bifT (by simp;omega),Int.toNat_natCast,y9i h (by omega) hct]
 simp only[Option.bind_some];rw[bifT (by simp;omega)]
 have hcol:zB_M (l.take k) (λ x=>yE1 x.1 r l (k:Int))=some ((l.take k).map λ a=>innW (tks r) a l[k],()):=by
  unfold zB_M;rw[bifT (y5 (show (l.take k).length < lenMax by unfold lenMax;omega)),y2D (λ a=>innW (tks r) a l[k]) (l.take k) 0 [] (by simp;omega) λ i a s ha hs=>by
   unfold yKg;show Option.bind (yE1 a r l (k:Int)) _=_
   unfold yE1 yM6;rw[ym,List.getElem?_eq_getElem hk];simp only[Option.bind_some];rw[yDD h (hct a ha) (hc _ (List.getElem_mem hk))];simp only[Option.bind_some];rw[bifT (y5 hs)]]
  rfl
 rw[hcol];simp only[Option.bind_some];rw[bifT (by simp;omega),bifT (y5 (by omega)),show ((k:Int) - 0).toNat=(List.range k).length by simp]
 obtain ⟨b1,b2⟩:=y4x (body:=λ i__ s__=>y7b (k:Int) (norW (tks r) (l.take k)) ((l.take k).map λ a=>innW (tks r) a l[k]) (k:Int) i__ s__) (fin:=λ s__=>y7T (k:Int) (norW (tks r) (l.take k)) ((l.take k).map λ a=>innW (tks r) a l[k]) (k:Int) s__) (List.range k) (λ o j=>o.set j (detQ (y86 (norW (tks r) (l.take k)) j ((l.take k).map λ a=>innW (tks r) a l[k])))) (λ o=>o.length=l.length) (λ i e s hs he=>by
  obtain ⟨hi,rfl⟩:=List.getElem?_eq_some_iff.1 he;simp only[List.length_range]at hi;rw[List.getElem_range];refine ⟨?_,by simpa using hs⟩
  unfold y7b;rw[yNp _ i _ (by simp[n1];omega) (by omega) (λ q hq=>by have:=n2 q hq;omega)]
  simp only[Option.bind_some];rw[yDk _ (by rw[y5E (by simp[n1];omega)];omega) (λ q hq=>by rw[y5E (by simp[n1];omega),n1];exact yDI n2 q hq)]
  simp only[Option.bind_some];rw[ym,List.getElem?_eq_getElem (by omega)]
  simp only[Option.bind_some];rw[Int.toNat_natCast,List.getElem?_eq_getElem (by omega)]
  rfl) (List.range k) [] (List.replicate ((l.length:Int)).toNat ((0,0,()):Gau)) (by simp) rfl
 refine (show _=_ from b1).trans ?_
 unfold y7T;rw[yDk _ (by omega) (λ q hq=>by rw[n1];exact n2 q hq)]
 simp only[Option.bind_some];have b2':((List.range k).foldl (λ o j=>o.set j (detQ (y86 (norW (tks r) (l.take k)) j ((l.take k).map λ a=>innW (tks r) a l[k])))) (List.replicate ((l.length:Int)).toNat ((0,0,()):Gau))).length=l.length:=b2
 rw[ym,List.getElem?_eq_getElem (by omega)]
 simp only[Option.bind_some];simp only[Int.toNat_natCast]at b2' ⊢;rw[List.getElem?_eq_getElem (Nat.lt_of_lt_of_eq hk b2'.symm)];rfl
theorem yUz{r:Rec}(h:okR r){l:List Con}(hl:l.length<=4)(hc:∀ c∈l,y1t c)(k:Nat)(hk:k < l.length):y4g l r (k:Int)=some (kerO r l k l[k],0,()):=by
 have hmem:memMax=68719476736:=rfl;have htl:=yEM r;have hrl:=h.len;have hct:∀ c∈l.take k,y1t c:=λ c hcm=>hc c (List.mem_of_mem_take hcm)
 have hlt:(l.take k).length=k:=by rw[List.length_take];omega
 obtain ⟨n1,n2⟩:=y81 (tks r) (l.take k);rw[hlt]at n1 n2;unfold y4g;rw[bifF (by simp;omega),bifT (by simp;omega),bifT (by simp;omega),Int.toNat_natCast,y9j h (by omega) hct]
 simp only[Option.bind_some];rw[bifT (y5 (by omega)),show ((k:Int) - 0).toNat=(l.take k).length by omega]
 have col:∀ (p done:List Con) (s:List Gau),l.take k=done++p->s.length+p.length<=memMax ->
   y0B (λ i__ s__=>y68 l r (k:Int) (norW (tks r) (l.take k)) (List.replicate ((l.length:Int)).toNat ((0,0,()):Gau)) i__ s__) (λ s__=>y5x l r (k:Int) (norW (tks r) (l.take k)) (List.replicate ((l.length:Int)).toNat ((0,0,()):Gau)) s__) p.length (done.length:Int) s=y5x l r (k:Int) (norW (tks r) (l.take k)) (List.replicate ((l.length:Int)).toNat ((0,0,()):Gau)) (s++p.map λ a=>innW (tks r) a l[k]):=by
  intro p;induction p with
  |nil=>intro done s _ _;rw[List.map_nil,List.append_nil];rfl
  |cons a p ih =>
   intro done s hx hs;simp only[List.length_cons]at hs;have ha:a∈l.take k:=by rw[hx];simp
   have hla:l[done.length]?=some a:=by
    have h1:(l.take k)[done.length]?=some a:=by rw[hx];simp
    have hlt2:done.length < k:=by
     have:=congrArg List.length hx;simp at this;omega
    rwa[List.getElem?_take_of_lt hlt2]at h1
   have hb:y68 l r (k:Int) (norW (tks r) (l.take k)) (List.replicate ((l.length:Int)).toNat ((0,0,()):Gau)) (done.length:Int) s=some (.inr (s++[innW (tks r) a l[k]])):=by
    unfold y68;rw[y56 h];simp only[Option.bind_some];rw[ym,hla];simp only[Option.bind_some];rw[ym,List.getElem?_eq_getElem hk];simp only[Option.bind_some];rw[yCO (yK5 h) (by unfold lenMax;omega) (hct a ha) (hc _ (List.getElem_mem hk))]
    simp only[Option.bind_some];rw[bifT (y5 (by omega))]
   rw[List.length_cons,y19,hb];simp only[Option.bind_some];have:=ih (done++[a]) (s++[innW (tks r) a l[k]]) (by rw[hx];simp) (by simp;omega)
   simp only[List.length_append,List.length_cons,List.length_nil]at this;refine (show _=_ from this).trans ?_
   simp
 have k1:=col (l.take k) [] [] rfl (by simp;omega)
 refine (show _=_ from k1).trans ?_
 rw[List.nil_append];unfold y5x;rw[bifT (y5 (by omega)),show ((k:Int) - 0).toNat=(List.range k).length by simp]
 obtain ⟨b1,b2⟩:=y4x (body:=λ i__ s__=>y7Z (k:Int) (norW (tks r) (l.take k)) ((l.take k).map λ a=>innW (tks r) a l[k]) i__ s__) (fin:=λ s__=>y8U (k:Int) (norW (tks r) (l.take k)) ((l.take k).map λ a=>innW (tks r) a l[k]) s__) (List.range k) (λ o j=>o.set j (detQ (y86 (norW (tks r) (l.take k)) j ((l.take k).map λ a=>innW (tks r) a l[k])))) (λ o=>o.length=l.length) (λ i e s hs he=>by
  obtain ⟨hi,rfl⟩:=List.getElem?_eq_some_iff.1 he;simp only[List.length_range]at hi;rw[List.getElem_range];refine ⟨?_,by simpa using hs⟩
  unfold y7Z;rw[yMA _ i _ (by simp[n1];omega) (by omega) (λ q hq=>by have:=n2 q hq;omega)]
  simp only[Option.bind_some];rw[yS4 (by rw[y5E (by simp[n1];omega)];omega) (λ q hq=>by rw[y5E (by simp[n1];omega),n1];exact yDI n2 q hq)]
  simp only[Option.bind_some];rw[ym,List.getElem?_eq_getElem (by omega)]
  simp only[Option.bind_some];rw[Int.toNat_natCast,List.getElem?_eq_getElem (by omega)]
  rfl) (List.range k) [] (List.replicate ((l.length:Int)).toNat ((0,0,()):Gau)) (by simp) rfl
 refine (show _=_ from b1).trans ?_
 unfold y8U;rw[yS4 (by omega) (λ q hq=>by rw[n1];exact n2 q hq)]
 simp only[Option.bind_some];have b2':((List.range k).foldl (λ o j=>o.set j (detQ (y86 (norW (tks r) (l.take k)) j ((l.take k).map λ a=>innW (tks r) a l[k])))) (List.replicate ((l.length:Int)).toNat ((0,0,()):Gau))).length=l.length:=b2
 rw[ym,List.getElem?_eq_getElem (by omega)]
 simp only[Option.bind_some];simp only[Int.toNat_natCast]at b2' ⊢;rw[List.getElem?_eq_getElem (Nat.lt_of_lt_of_eq hk b2'.symm),<- yJG];rfl
theorem yXA{r:Rec}(h:okR r)(hT:(tks r).length<=128){l:List Con}(hl:l.length<=4)(hc:∀ c∈l,y1t c):yEc r l=some (denA r l == 0,()):=by
 obtain ⟨n1,n2⟩:=y81 (tks r) l;obtain ⟨D,h1,h2,h3⟩:=yF3 hT hl;unfold yEc yLh;rw[y9i h (by omega) hc]
 simp only[Option.bind_some];rw[yDk _ (by omega) (λ q hq=>by rw[n1];exact n2 q hq)]
 simp only[Option.bind_some];show some (eqV ((Ty.int IntKind.i64).pair ((Ty.int IntKind.i64).pair Ty.unit)) (detQ (norW (tks r) l)) (0,0,()),())=_
 unfold denA;rw[h1];show some ((D == 0) && (((0:Int) == 0) && true),())=some (D == 0,())
 simp
theorem yMu{r:Rec}(hT:(tks r).length<=128){l:List Con}(hl:l.length<=4):decide (denA r l > 0)=!(denA r l == 0):=by
 obtain ⟨D,h1,h2,h3⟩:=yF3 hT hl;have e:denA r l=D:=by unfold denA;rw[h1]
 rw[e];by_cases h:D=0
 ·subst h;rfl
 ·rw[y5 (show D > 0 by omega),show (D == 0)=false by simpa using h]
  rfl
theorem y9x(q:Nat->Bool)(n k:Nat):∀ m:Nat,k+m=n->((List.range n).drop k).find? q=if k < n then (if q k then some k else ((List.range n).drop (k+1)).find? q)else none
 |0,h=>by
  rw[if_neg (by omega),List.drop_eq_nil_of_le (by simp;omega)]
  rfl
 |m+1,h=>by
  have hk:k < (List.range n).length:=by simp;omega
  rw[if_pos (by omega),<- List.getElem_cons_drop (h:=hk),List.find?_cons,List.getElem_range]
  cases q k<;>rfl
theorem yQI{r:Rec}{l:List Con}(hn:r.1.length < lenMax)(hl:r.2.2.1.length < lenMax)(hg:r.2.2.2.1.length < lenMax)(hnl:∀ n∈l,n.1.length < lenMax)(hll:l.length < lenMax) :
  yEj r l=some (if y4d r l=0 then kerV r l else ([],y4d r l,())):=by
 unfold yEj;rw[y9u r l hn hl hg hnl hll];simp only[Option.bind_some];by_cases h:y4d r l=0
 ·obtain ⟨h1,h2,h3,h4⟩:=y8F h;have h5:=h3.2;rw[if_pos h,bifF (by simp[h]),bifT (y5 (by omega)),show ((l.length:Int) - 0).toNat=l.length by omega]
  have key:∀ (m k:Nat),k+m=l.length->y0B (λ i__ s__=>y9n r l (l.length:Int) (l.length:Int) i__) (λ s__=>yBo r l (l.length:Int) (l.length:Int)) m (k:Int) () =
    some (match ((List.range l.length).drop k).find? (λ k=>denA r (l.take (k+1)) == 0)with|some k=>(kerO r l k ((l[k]?).getD ([],0,0,())),0,())|none=>([],7,())):=by
   intro m;induction m with
   |zero =>
    intro k hk;rw[y9K,List.drop_eq_nil_of_le (by simp;omega)]
    unfold yBo y62;rw[bifT (by simp)]
    rfl
   |succ m ih =>
    intro k hk;have hkl:k < l.length:=by omega
    have hb:y9n r l (l.length:Int) (l.length:Int) (k:Int)=some (if (denA r (l.take (k+1)) == 0)=true then .inl (kerO r l k l[k],0,())else .inr ()):=by
     unfold y9n;rw[y25 (by omega) (by omega),bifT (by simp;omega),show ((k:Int)+1).toNat=k+1 by omega,yXA h1 h2 (by rw[List.length_take];omega) (λ c hc=>h4 c (List.mem_of_mem_take hc))]
     simp only[Option.bind_some];cases (denA r (l.take (k+1)) == 0)with
     |true =>
      rw[cond_true,yaF h1 h5 h4 k hkl];rfl
     |false=>rfl
    rw[y19,hb,y9x _ l.length k (m+1) hk,if_pos hkl];simp only[Option.bind_some];by_cases hd:(denA r (l.take (k+1)) == 0)=true
    ·rw[if_pos hd,if_pos hd];show some (kerO r l k l[k],0,())=some (kerO r l k ((l[k]?).getD ([],0,0,())),0,())
     rw[List.getElem?_eq_getElem hkl];rfl
    ·rw[if_neg hd,if_neg hd];exact ih (k+1) (by omega)
  have:=key l.length 0 (by omega)
  refine (show _=_ from this).trans ?_
  rw[List.drop_zero];rfl
 ·rw[if_neg h,bifT (by simpa using h)]
theorem yU4{r:Rec}(h1:okR r)(h2:(tks r).length<=128){l:List Con}(h5:l.length<=4)(h4:∀ c∈l,y1t c):yGn r l=some (kerV r l):=by
 unfold yGn;have key:∀ (m k f:Nat),k+m=l.length->m < f->y2N (λ s__=>y6G l r s__) f (k:Int) =
   some (match ((List.range l.length).drop k).find? (λ k=>denA r (l.take (k+1)) == 0)with|some k=>(kerO r l k ((l[k]?).getD ([],0,0,())),0,())|none=>([],7,())):=by
  intro m;induction m with
  |zero =>
   intro k f hk hf;obtain ⟨f,rfl⟩:∃ j,f=j+1:=⟨f - 1,by omega⟩
   have hb:y6G l r (k:Int)=some (.inl ([],7,())):=by
    unfold y6G;rw[bifF (yF (by omega))]
    unfold y4g;rw[bifT (by simp;omega)]
    rfl
   unfold y2N;rw[hb,List.drop_eq_nil_of_le (by simp;omega)]
   rfl
  |succ m ih =>
   intro k f hk hf;obtain ⟨f,rfl⟩:∃ j,f=j+1:=⟨f - 1,by omega⟩
   have hkl:k < l.length:=by omega
   have htk:(l.take (k+1)).length<=4:=by rw[List.length_take];omega
   have hb:y6G l r (k:Int)=some (if (denA r (l.take (k+1)) == 0)=true then .inl (kerO r l k l[k],0,())else .inr ((k:Int)+1)):=by
    unfold y6G;rw[bifT (y5 (by omega)),y25 (by omega) (by omega),bifT (by simp;omega),show ((k:Int)+1).toNat=k+1 by omega,yMX h1 htk (λ c hc=>h4 c (List.mem_of_mem_take hc))]
    simp only[Option.bind_some];rw[yMu h2 htk];cases (denA r (l.take (k+1)) == 0)with
    |true =>
     show Option.map Sum.inl (y4g l r (k:Int))=_
     rw[yUz h1 h5 h4 k hkl];rfl
    |false=>rfl
   rw[y9x _ l.length k (m+1) hk,if_pos hkl];unfold y2N;rw[hb];simp only[Option.bind_some];by_cases hd:(denA r (l.take (k+1)) == 0)=true
   ·rw[if_pos hd,if_pos hd];show some (kerO r l k l[k],0,())=some (kerO r l k ((l[k]?).getD ([],0,0,())),0,())
    rw[List.getElem?_eq_getElem hkl];rfl
   ·rw[if_neg hd,if_neg hd];exact ih (k+1) f (by omega) (by omega)
 have:=key l.length 0 wMax (by omega) (by unfold wMax;omega)
 refine (show _=_ from this).trans ?_
 rw[List.drop_zero];rfl
theorem yNM(r:Rec)(l:List Con)(k:Nat)(c:Con):(kerO r l k c).length=l.length:=by
 unfold kerO;rw[List.length_set,yGb];simp
theorem yNS(r:Rec)(l:List Con):(kerV r l).1.length<=l.length:=by
 unfold kerV;split
 ·simp only;rw[yNM];exact Nat.le_refl _
 ·simp
theorem yKy(r:Rec)(l:List Con)(v:List Gau)(ll:l.length < lenMax):zY_M r l v=some (true,()):=by
 have hmem:memMax=68719476736:=rfl;have hlm:lenMax=9223372036854775808:=rfl;unfold zY_M zY_m;rw[yGz];simp only[Option.bind_some,Bool.not_true,cond_false];cases hsh:(z0d r).1 with
 |false=>rfl
 |true =>
  obtain ⟨r60,r97,r49⟩:=yNe hsh;obtain ⟨s,hs,hs2⟩:=yJi l ll;simp only[Bool.not_true,cond_false];rw[hs];simp only[Option.bind_some];cases s with
  |false=>rfl
  |true =>
   obtain ⟨l60,l5⟩:=hs2 rfl;have hnl:∀ n∈l,n.1.length < lenMax:=λ n hn=>by have:=l60 n hn;omega
   simp only[Bool.not_true,cond_false];by_cases h6:(v.length:Int) > 6
   ·rw[bifT (y5 h6)]
   ·rw[bifF (yF h6),yTC r (by omega) (by omega),yLm l (by omega)]
    simp only[Option.bind_some];have hnum:yMw v=some (v,()):=by
     unfold yMw yLd;rw[bifT (y5 (by omega))]
    rw[hnum];simp only[Option.bind_some];rw[yQI (by omega) (by omega) (by omega) hnl ll,yNN (by omega) (by omega) (by omega) hnl ll (by omega),yQN r l (by omega)]
    simp only[Option.bind_some];by_cases h:y4d r l=0
    ·obtain ⟨h1,h2,h3,h4⟩:=y8F h;have hk:=yNS r l;rw[if_pos h,h,yv,bifT (by rfl),yN4 h1 h4 ll (by omega),yU4 h1 h2 h3.2 h4]
     simp only[Option.bind_some];unfold y7K;rw[bifT (by simp),y3Y _ (by omega)]
     simp only[Option.bind_some,cond_true,beq_self_eq_true]
    ·rw[if_neg h,bifF (by simpa using h),yl h]
     unfold y7K;rw[bifT (by simp),y3Y _ (by simp[lenMax])]
     simp only[Option.bind_some,cond_true,beq_self_eq_true]
end Go.Tw
