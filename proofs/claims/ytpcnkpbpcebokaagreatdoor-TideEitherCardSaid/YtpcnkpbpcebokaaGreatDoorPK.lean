import Derived.Test.YtpcnkpbpcebokaaGreatDoorPM4
import Derived.Test.YtpcnkpbpcebokaaGreatDoorBKe
import Derived.Test.YtpcnkpbpcebokaaGreatDoorPA
set_option linter.all false
set_option maxRecDepth 100000
open List (getElem?_eq_getElem)
open Option (bind_some)
namespace Go.Tw
open Go.Vx Go.Vx.B Go.Proofs
theorem yC8{α β σ:Type}{body:Int->α->σ->Option (β⊕σ)}{fin:σ->Option β}:∀ (l:List α) (i:Int) (s:σ),
  yJ body fin i l s=yJ (λ i x (p:σ×Unit)=>(body i x p.1).map (Sum.map id λ s=>(s,()))) (λ p=>fin p.1) i l (s,())
 |[],i,s=>rfl
 |x::l,i,s=>by
  rw[yk,yk];simp only;cases body i x s with
  |none=>rfl
  |some z =>
   cases z with
   |inl y=>rfl
   |inr s'=>exact yC8 l (i+1) s'
theorem y7X{α β σ:Type}{body:Int->σ->Option (β⊕σ)}{fin:σ->Option β}(xs:List α)(h:σ->α->σ)(I:σ->Prop)(hb:∀ (i:Nat) e s,I s->xs[i]?=some e->body (i:Int) s=some (.inr (h s e))/\I (h s e)) :
  ∀ (l done:List α) (s:σ),I s->xs=done++l->y0b body fin l.length (done.length:Int) s=fin (l.foldl h s)/\I (l.foldl h s)
 |[],done,s,hs,_=>⟨rfl,hs⟩
 |e::l,done,s,hs,hx=>by
  obtain ⟨b1,b2⟩:=hb done.length e s hs (by rw[hx];simp)
  rw[List.length_cons,y20,b1];simp only[bind_some];have ih:=y7X (body:=body) (fin:=fin) xs h I hb l (done++[e]) (h s e) b2 (by rw[hx];simp)
  simp only[List.length_append,List.length_cons,List.length_nil]at ih;exact ih
def nzG(z:Gau):Bool:=!eqV ((Ty.int IntKind.i64).pair ((Ty.int IntKind.i64).pair Ty.unit)) z (0,0,())
noncomputable def kerF(r:Rec)(l:List Con)(v:List Gau):Int:=if (tks r).all (λ t=>!nzG (sumV l v t (0,0,())))then 0 else 22
noncomputable def yKp(r:Rec)(l:List Con)(v:List Gau):Int:=yP (if v.length=l.length then 0 else 2) (yP (y08 (v.map y5K)) (if v.any nzG then kerF r l v else 6))
theorem yPe(l:List Gau)(hl:l.length < lenMax):zA_M l (λ x=>zU_M x.1)=some (l.any nzG,()):=by
 unfold zA_M zA_m zD_M;rw[bifT (y8 hl)];obtain ⟨n,h1,h2⟩:=y53 (body:=λ i__ e__ s__=>yLu l (λ x=>zU_M x.1) i__ e__) (fin:=λ s__=>yPa l (λ x=>zU_M x.1)) nzG rfl l 0 (λ i e he=>by
  unfold yLu;show Option.bind (some (zU e)) _=_
  show (bif nzG e then _ else _)=_
  cases nzG e<;>rfl)
 rw[show ((0:Nat):Int)=0 from rfl]at h1
 rw[h1];simp only[bind_some];rw[h2]
theorem yGF{r:Rec}{l:List Con}{v:List Gau}(hn:r.1.length < lenMax)(hl:r.2.2.1.length < lenMax)(hg:r.2.2.2.1.length < lenMax)(hnl:∀ n∈l,n.1.length < lenMax)(hll:l.length < lenMax)(hv:v.length<=memMax) :
  zk_M r l v=some (yP (y0a r l) (yKp r l v),()):=by
 unfold zk_M;rw[y2v r l hn hl hg hnl hll,yKq v hv];simp only[bind_some];rw[y2G _ (by rw[List.length_map];exact y3Q hv)]
 simp only[bind_some,y4s];rw[y2G _ (yGN _ _ _),yS,yS,yS,y0s,y0R];simp only[bind_some];have e:(bif ((v.length:Int) != (l.length:Int))then (2:Int)else 0)=if v.length=l.length then 0 else 2:=by
  by_cases h:v.length=l.length
  ·rw[if_pos h,h];simp
  ·rw[if_neg h];have:((v.length:Int) != (l.length:Int))=true:=by simpa using λ hh=>h (by omega)
   rw[this];rfl
 rw[e];unfold yKp;rw[<- y1Q (if v.length=l.length then (0:Int)else 2),<- y1Q (y0a r l) (yP _ _)]
 generalize hq:yP (y0a r l) (yP (if v.length=l.length then 0 else 2) (y08 (v.map y5K)))=q
 by_cases h0:q=0
 ·subst h0;obtain ⟨q1,q2⟩:=yH hq;obtain ⟨q3,q4⟩:=yH q2;obtain ⟨o1,o2,o3,o4⟩:=y2J q1;have hvl:v.length=l.length:=by
   by_cases h:v.length=l.length
   ·exact h
   ·rw[if_neg h]at q3;cases q3
  rw[bifF (by rfl),yR,yPe v (y3Q hv)]
  simp only[bind_some];cases hz:v.any nzG with
  |false=>rfl
  |true =>
   simp only[Bool.not_true,cond_false,if_true];rw[bifT (y8 hl),yC8];have hst:=o1.start;have hlen:=o1.len;refine (yBC o1 (λ s:Unit=>some ((0:Int),())) (λ i x s=>some (if nzG (sumV l v (r.2.1+i) (0,0,()))then .inl (22,())else .inr ())) (λ g s=>rfl) (λ i x g s hi hx hg=>?_) ()).trans ?_
   ·dsimp only;unfold yPf;refine Eq.trans (congrArg (Option.map (Sum.map id λ s=>(s,()))) (y5b (i:=(i:Int)) (λ g=>rfl) g wMax hg)) ?_
    generalize g.dropWhile (λ s=>decide (s.2.1<=(i:Int)))=g'
    unfold yFk;rw[yAu,y8J hx];simp only[bind_some];rw[y0o (i:=r.2.1+(i:Int)) (by omega) (by omega),yOY (by omega) hll o4 ⟨by omega,by omega⟩]
    simp only[bind_some];show Option.map _ (if yEu g' (i:Int)=true then _ else (bif nzG (sumV l v (r.2.1+(i:Int)) (0,0,()))then _ else _))=_
    cases yEu g' (i:Int)with
    |true=>rfl
    |false =>
     by_cases hh:nzG (sumV l v (r.2.1+(i:Int)) (0,0,()))=true
     ·rw[if_neg (by simp),if_neg (by simp),if_pos hh,bifT hh];rfl
     ·rw[if_neg (by simp),if_neg (by simp),if_neg hh,bifF (Bool.eq_false_iff.2 hh)];rfl
   ·rw[yJC (λ q:Int×Nat=>!nzG (sumV l v (r.2.1+q.1) (0,0,()))) (22,()) _ 0 λ i e he=>by
     cases nzG (sumV l v (r.2.1+e.1) (0,0,()))<;>rfl]
    unfold kerF tks;rw[List.all_map];show (if (recd r.2.2.2.1 0 r.2.2.1).all (λ q=>!nzG (sumV l v (r.2.1+q.1) (0,0,())))=true then some (0,())else some (22,()))=some (if (recd r.2.2.2.1 0 r.2.2.1).all (λ q=>!nzG (sumV l v (r.2.1+q.1) (0,0,())))=true then 0 else 22,())
    cases (recd r.2.2.2.1 0 r.2.2.1).all (λ q=>!nzG (sumV l v (r.2.1+q.1) (0,0,())))<;>rfl
 ·rw[bifT (by simpa using h0),yv h0]
noncomputable def kerO(r:Rec)(l:List Con)(k:Nat)(c:Con):List Gau:=
 ((List.range k).foldl (λ o j=>o.set j (detQ (y60 (norW (tks r) (l.take k)) j ((l.take k).map λ a=>innW (tks r) a c)))) (List.replicate l.length G0)).set k (z0f (detQ (norW (tks r) (l.take k))) (-1)).1
noncomputable def kerV(r:Rec)(l:List Con):List Gau×Int×Unit:=
 match (List.range l.length).find? λ k=>denA r (l.take (k+1)) == 0 with
 |some k=>(kerO r l k ((l[k]?).getD ([],0,0,())),0,())
 |none=>([],7,())
theorem yFI(f:Nat->Gau):∀ (l:List Nat) (o:List Gau),(l.foldl (λ o j=>o.set j (f j)) o).length=o.length
 |[],o=>rfl
 |j::l,o=>by
  rw[List.foldl_cons,yFI f l];simp
theorem yRw{r:Rec}(h:okR r){l:List Con}(hl:l.length<=4)(hc:∀ c∈l,y3P c)(k:Nat)(hk:k < l.length):y5z (k:Int) r l=some (kerO r l k l[k],0,()):=by
 have hmem:memMax=68719476736:=rfl;have hct:∀ c∈l.take k,y3P c:=λ c hcm=>hc c (List.mem_of_mem_take hcm)
 have hlt:(l.take k).length=k:=by rw[List.length_take];omega
 obtain ⟨n1,n2⟩:=yAi (tks r) (l.take k);rw[hlt]at n1 n2;unfold y5z;rw[bifF (by simp;omega),bifT (by simp;omega),Int.toNat_natCast,y5y h (by omega) hct]
 simp only[bind_some];rw[bifT (by simp;omega)]
 have hcol:zB_M (l.take k) (λ x=>yH7 x.1 r l (k:Int))=some ((l.take k).map λ a=>innW (tks r) a l[k],()):=by
  unfold zB_M;rw[bifT (y8 (show (l.take k).length < lenMax by unfold lenMax;omega)),y1q (λ a=>innW (tks r) a l[k]) (l.take k) 0 [] (by simp;omega) λ i a s ha hs=>by
   unfold yLh;show Option.bind (yH7 a r l (k:Int)) _=_
   unfold yH7 yPr;rw[y04,getElem?_eq_getElem hk];simp only[bind_some];rw[y7z h (hct a ha) (hc _ (List.getElem_mem hk))];simp only[bind_some];rw[bifT (y8 hs)]]
  rfl
 rw[hcol];simp only[bind_some];rw[bifT (by simp;omega),bifT (y8 (by omega)),show ((k:Int) - 0).toNat=(List.range k).length by simp]
 obtain ⟨b1,b2⟩:=y7X (body:=λ i__ s__=>yBH (k:Int) (norW (tks r) (l.take k)) ((l.take k).map λ a=>innW (tks r) a l[k]) (k:Int) i__ s__) (fin:=λ s__=>yBY (k:Int) (norW (tks r) (l.take k)) ((l.take k).map λ a=>innW (tks r) a l[k]) (k:Int) s__) (List.range k) (λ o j=>o.set j (detQ (y60 (norW (tks r) (l.take k)) j ((l.take k).map λ a=>innW (tks r) a l[k])))) (λ o=>o.length=l.length) (λ i e s hs he=>by
  obtain ⟨hi,rfl⟩:=List.getElem?_eq_some_iff.1 he;simp only[List.length_range]at hi;rw[List.getElem_range];refine ⟨?_,by simpa using hs⟩
  unfold yBH;rw[yMv _ i _ (by simp[n1];omega) (by omega) (λ q hq=>by have:=n2 q hq;omega)]
  simp only[bind_some];rw[yAb _ (by rw[y7g (by simp[n1];omega)];omega) (λ q hq=>by rw[y7g (by simp[n1];omega),n1];exact yJW n2 q hq)]
  simp only[bind_some];rw[y04,getElem?_eq_getElem (by omega)]
  simp only[bind_some];rw[Int.toNat_natCast,getElem?_eq_getElem (by omega)]
  rfl) (List.range k) [] (List.replicate ((l.length:Int)).toNat ((0,0,()):Gau)) (by simp) rfl
 refine (show _=_ from b1).trans ?_
 unfold yBY;rw[yAb _ (by omega) (λ q hq=>by rw[n1];exact n2 q hq)]
 simp only[bind_some];have b2':((List.range k).foldl (λ o j=>o.set j (detQ (y60 (norW (tks r) (l.take k)) j ((l.take k).map λ a=>innW (tks r) a l[k])))) (List.replicate ((l.length:Int)).toNat ((0,0,()):Gau))).length=l.length:=b2
 rw[y04,getElem?_eq_getElem (by omega)]
 simp only[bind_some];simp only[Int.toNat_natCast]at b2' ⊢;rw[getElem?_eq_getElem (Nat.lt_of_lt_of_eq hk b2'.symm)];rfl
theorem yNu{r:Rec}(h:okR r)(hT:(tks r).length<=128){l:List Con}(hl:l.length<=4)(hc:∀ c∈l,y3P c):yDX r l=some (denA r l == 0,()):=by
 obtain ⟨n1,n2⟩:=yAi (tks r) l;obtain ⟨D,h1,h2,h3⟩:=yFG hT hl;unfold yDX yOH;rw[y5y h (by omega) hc]
 simp only[bind_some];rw[yAb _ (by omega) (λ q hq=>by rw[n1];exact n2 q hq)]
 simp only[bind_some];show some (eqV ((Ty.int IntKind.i64).pair ((Ty.int IntKind.i64).pair Ty.unit)) (detQ (norW (tks r) l)) (0,0,()),())=_
 unfold denA;rw[h1];show some ((D == 0) && (((0:Int) == 0) && true),())=some (D == 0,())
 simp
theorem y6K(q:Nat->Bool)(n k:Nat):∀ m:Nat,k+m=n->((List.range n).drop k).find? q=if k < n then (if q k then some k else ((List.range n).drop (k+1)).find? q)else none
 |0,h=>by
  rw[if_neg (by omega),List.drop_eq_nil_of_le (by simp;omega)]
  rfl
 |m+1,h=>by
  have hk:k < (List.range n).length:=by simp;omega
  rw[if_pos (by omega),<- List.getElem_cons_drop (h:=hk),List.find?_cons,List.getElem_range]
  cases q k<;>rfl
theorem yKF{r:Rec}{l:List Con}(hn:r.1.length < lenMax)(hl:r.2.2.1.length < lenMax)(hg:r.2.2.2.1.length < lenMax)(hnl:∀ n∈l,n.1.length < lenMax)(hll:l.length < lenMax) :
  yLr r l=some (if y0a r l=0 then kerV r l else ([],y0a r l,())):=by
 unfold yLr;rw[y2v r l hn hl hg hnl hll];simp only[bind_some];by_cases h:y0a r l=0
 ·obtain ⟨h1,h2,h3,h4⟩:=y2J h;have h5:=h3.2;rw[if_pos h,bifF (by simp[h]),bifT (y8 (by omega)),show ((l.length:Int) - 0).toNat=l.length by omega]
  have key:∀ (m k:Nat),k+m=l.length->y0b (λ i__ s__=>yBx r l (l.length:Int) (l.length:Int) i__) (λ s__=>yFU r l (l.length:Int) (l.length:Int)) m (k:Int) () =
    some (match ((List.range l.length).drop k).find? (λ k=>denA r (l.take (k+1)) == 0)with|some k=>(kerO r l k ((l[k]?).getD ([],0,0,())),0,())|none=>([],7,())):=by
   intro m;induction m with
   |zero =>
    intro k hk;rw[yHa,List.drop_eq_nil_of_le (by simp;omega)]
    unfold yFU y5z;rw[bifT (by simp)]
    rfl
   |succ m ih =>
    intro k hk;have hkl:k < l.length:=by omega
    have hb:yBx r l (l.length:Int) (l.length:Int) (k:Int)=some (if (denA r (l.take (k+1)) == 0)=true then .inl (kerO r l k l[k],0,())else .inr ()):=by
     unfold yBx;rw[y0o (by omega) (by omega),bifT (by simp;omega),show ((k:Int)+1).toNat=k+1 by omega,yNu h1 h2 (by rw[List.length_take];omega) (λ c hc=>h4 c (List.mem_of_mem_take hc))]
     simp only[bind_some];cases (denA r (l.take (k+1)) == 0)with
     |true =>
      rw[cond_true,yRw h1 h5 h4 k hkl];rfl
     |false=>rfl
    rw[y20,hb,y6K _ l.length k (m+1) hk,if_pos hkl];simp only[bind_some];by_cases hd:(denA r (l.take (k+1)) == 0)=true
    ·rw[if_pos hd,if_pos hd];show some (kerO r l k l[k],0,())=some (kerO r l k ((l[k]?).getD ([],0,0,())),0,())
     rw[getElem?_eq_getElem hkl];rfl
    ·rw[if_neg hd,if_neg hd];exact ih (k+1) (by omega)
  have:=key l.length 0 (by omega)
  refine (show _=_ from this).trans ?_
  rw[List.drop_zero];rfl
 ·rw[if_neg h,bifT (by simpa using h)]
theorem yN9(r:Rec)(l:List Con)(k:Nat)(c:Con):(kerO r l k c).length=l.length:=by
 unfold kerO;rw[List.length_set,yFI];simp
end Go.Tw
