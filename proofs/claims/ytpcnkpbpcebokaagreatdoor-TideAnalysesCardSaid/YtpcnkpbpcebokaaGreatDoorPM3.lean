import Derived.Test.YtpcnkpbpcebokaaGreatDoorPM2
import Derived.Test.YtpcnkpbpcebokaaGreatDoorPQ
set_option linter.all false
set_option maxRecDepth 100000
namespace Go.Tw
open Go.Vx Go.Vx.B Go.Proofs
def y7f(m:List (List Gau))(j:Nat)(v:List Gau):List (List Gau):=List.zipWith (λ row x=>row.set j x) m v
theorem yJJ(m:List (List Gau))(j:Nat)(v:List Gau)(i:Nat)(row:List Gau)(x:Gau)(c:List (List Gau))(hm:m[i]?=some row)(hv:v[i]?=some x)(hc:i < c.length)(hj:j < row.length)(hr:row.length<=memMax) :
  yHc m (j:Int) v (i:Int) row c=some (.inr (c.set i (row.set j x))):=by
 have g1:c[i]?=some c[i]:=List.getElem?_eq_getElem hc;have gj:row[j]?=some row[j]:=List.getElem?_eq_getElem hj;have s1:∀ y:List Gau,(c.set i y)[i]?=some y:=λ y=>by rw[List.getElem?_set_self hc]
 have s2:∀ y z:List Gau,((c.set i y).set i z)[i]?=some z:=λ y z=>by rw[List.getElem?_set_self (by simpa using hc)]
 unfold yHc;have hmem:memMax=68719476736:=rfl;rw[bifT (by simp;omega)]
 rw[yu,g1];simp only[Option.bind_some];rw[Int.toNat_natCast,g1];simp only[Option.bind_some];rw[yu,s1];simp only[Option.bind_some];rw[yu,hm];simp only[Option.bind_some];rw[bifT (y5 (by simp)),yu,s2]
 simp only[Option.bind_some];rw[yu,hv];simp only[Option.bind_some];rw[yu,gj];simp only[Option.bind_some];rw[Int.toNat_natCast,gj];simp only[Option.bind_some];rw[List.set_set,List.set_set]
theorem yCe(m:List (List Gau))(j:Nat)(v:List Gau)(hl:m.length=v.length)(hj:∀ r∈m,j < r.length/\r.length<=memMax):∀ (l done:List (List Gau)) (A B:List (List Gau)),m=done++l->A.length=done.length->B.length=l.length ->
  yM (λ i__ e__ s__=>yHc m (j:Int) v i__ e__ s__) (λ s__=>yIw m (j:Int) v s__) (done.length:Int) l (A++B)=some (A++List.zipWith (λ row x=>row.set j x) l (v.drop done.length),())
 | [],done,A,B,hm,ha,hb=>by
  have:B=[]:=List.eq_nil_of_length_eq_zero (by simpa using hb)
  subst this;rw[y25];simp[yIw]
 | r::l,done,A,B,hm,ha,hb=>by
  obtain ⟨b,B,rfl⟩:∃ b B',B=b::B':=by
   cases B with
   | nil=>simp at hb
   | cons b B=>exact ⟨b,B,rfl⟩
  have hd:done.length < v.length:=by rw[<- hl,hm];simp
  have hmi:m[done.length]?=some r:=by rw[hm];simp
  obtain ⟨q1,q2⟩:=hj r (by rw[hm];simp)
  rw[yT,yJJ m j v done.length r v[done.length] (A++b::B) hmi (List.getElem?_eq_getElem hd) (by simp[ha]) q1 q2]
  simp only[Option.bind_some];have hset:∀ y,(A++b::B).set done.length y=(A++[y])++B:=λ y=>by
   rw[<- ha,List.set_append_right _ _ (Nat.le_refl _)];simp
  rw[hset];have ih:=yCe m j v hl hj l (done++[r]) (A++[r.set j v[done.length]]) B (by rw[hm];simp) (by simp[ha]) (by simpa using hb)
  simp only[List.length_append,List.length_cons,List.length_nil]at ih;have hdv:v.drop done.length=v[done.length]::v.drop (done.length+1):=(List.getElem_cons_drop (h:=hd)).symm;rw[hdv,List.zipWith_cons_cons];refine (show _=_ from ih).trans ?_
  simp
theorem yM0(m:List (List Gau))(j:Nat)(v:List Gau)(hl:m.length=v.length)(h8:m.length<=8)(hj:∀ r∈m,j < r.length/\r.length<=8):zl_M m (j:Int) v=some (y7f m j v,()):=by
 have hmem:memMax=68719476736:=rfl;unfold zl_M;rw[bifT (by simp;omega),bifT (y5 (show m.length < lenMax by unfold lenMax;omega))]
 have:=yCe m j v hl (λ r hr=>⟨(hj r hr).1,by have:=(hj r hr).2;omega⟩) m [] [] (List.replicate ((m.length:Int)).toNat []) rfl rfl (by simp)
 refine (show _=_ from this).trans ?_
 rfl
theorem yNu(m:List (List Gau))(j:Nat)(v:List Gau)(hl:m.length=v.length)(h8:m.length<=8)(hj:∀ r∈m,j < r.length/\r.length<=8):yBe m (j:Int) v=some (y7f m j v,()):=by
 have hmem:memMax=68719476736:=rfl;unfold yBe;rw[bifT (y5 (show m.length < lenMax by unfold lenMax;omega))]
 have key:∀ (l done:List (List Gau)) (c:List (List Gau)),m=done++l->c.length+l.length<=memMax ->
   yM (λ i__ e__ s__=>y9E m (j:Int) v i__ e__ s__) (λ s__=>yDH m (j:Int) v s__) (done.length:Int) l c=some (c++List.zipWith (λ row x=>row.set j x) l (v.drop done.length),()):=by
  intro l;induction l with
  | nil=>intro done c _ _;rw[y25];simp[yDH]
  | cons r l ih =>
   intro done c hm hc;simp only[List.length_cons]at hc;have hd:done.length < v.length:=by rw[<- hl,hm];simp
   obtain ⟨q1,q2⟩:=hj r (by rw[hm];simp)
   have hb:y9E m (j:Int) v (done.length:Int) r c=some (.inr (c++[r.set j v[done.length]])):=by
    unfold y9E;rw[bifT (y5 (by omega)),yu,List.getElem?_eq_getElem hd]
    simp only[Option.bind_some];rw[yu,List.getElem?_eq_getElem q1];simp only[Option.bind_some];rw[Int.toNat_natCast,List.getElem?_eq_getElem q1];simp only[Option.bind_some];rw[bifT (y5 (by omega))]
   rw[yT,hb];simp only[Option.bind_some];have:=ih (done++[r]) (c++[r.set j v[done.length]]) (by rw[hm];simp) (by simp;omega)
   simp only[List.length_append,List.length_cons,List.length_nil]at this;have hdv:v.drop done.length=v[done.length]::v.drop (done.length+1):=(List.getElem_cons_drop (h:=hd)).symm;rw[hdv,List.zipWith_cons_cons];refine (show _=_ from this).trans ?_
   simp
 have:=key m [] [] rfl (by simp;omega)
 exact this
theorem y5O{m:List (List Gau)}{j:Nat}{v:List Gau}(hl:m.length=v.length):(y7f m j v).length=m.length:=by
 unfold y7f;rw[List.length_zipWith];omega
theorem yCo{m:List (List Gau)}{j n:Nat}{v:List Gau}(hr:∀ r∈m,r.length=n):∀ r∈y7f m j v,r.length=n:=by
 intro r h;unfold y7f at h;obtain ⟨i,hi,rfl⟩:=List.mem_iff_getElem.1 h;rw[List.getElem_zipWith,List.length_set];exact hr _ (List.getElem_mem _)
noncomputable def detQ(m:List (List Gau)):Gau:=detC m (List.range m.length)
theorem yUr(r:List Gau):selC (List.range r.length) r=r:=by
 unfold selC;have:=y3q r id G0;simpa using this
theorem ycW{m:List (List Gau)}(hn:m.length<=4)(hr:∀ r∈m,r.length=m.length):y05 8 (m,())=some (detQ m,()):=by
 have h:=yIu m (List.range m.length) 8 (by simp) hn (by omega)
 have e:m.map (selC (List.range m.length))=m:=by
  conv=>rhs;rw[<- List.map_id m]
  refine List.map_congr_left λ r hr2=>?_
  have:=yUr r;rw[hr r hr2]at this;exact this
 rw[e]at h;exact h
theorem yB6(T:List Int)(l:List Con):(norW T l).length=l.length/\∀ r∈norW T l,r.length=l.length:=by
 unfold norW;refine ⟨by simp,λ r h=>?_⟩
 obtain ⟨a,_,rfl⟩:=List.mem_map.1 h;simp
noncomputable def solS(c:Con)(st:Int)(s:Int×Int)(q:Int×Nat):Int×Int :=
 let z:=(z1M (s.1,s.2,()) (z0o (z05 (chr c (st+q.1))).1 (sx q.2)).1).1;(z.1,z.2.1)
noncomputable def solW(r:Rec)(c:Con):Gau:=let s:=(recd r.2.2.2.1 0 r.2.2.1).foldl (solS c r.2.1) (0,0);(s.1,s.2,())
theorem yTm{r:Rec}(h:okR r){c:Con}(hc:y3F c):yBU c r=some (solW r c,()):=by
 have hl:=h.len;have hs:=h.start;unfold yBU;rw[bifT (y5 (show r.2.2.1.length < lenMax by unfold lenMax;omega))]
 refine (y7B h (λ s:Int×Int=>some ((s.1,s.2,()),())) (λ i x s=>some (.inr (solS c r.2.1 s (i,x)))) (λ g s=>rfl) (λ i x g s hi hx hg=>?_) (0,0)).trans ?_
 ·dsimp only;unfold yGf;refine (y3g (i:=(i:Int)) (λ g=>rfl) g wMax hg).trans ?_
  generalize g.dropWhile (λ s=>decide (s.2.1<=(i:Int)))=g'
  unfold yAD;rw[y6l,y5M hx];simp only[Option.bind_some];rw[y1u (i:=r.2.1+(i:Int)) (by omega) (by omega),yRk hc ⟨by omega,by omega⟩]
  rfl
 ·rw[y4P (λ s (q:Int×Nat)=>solS c r.2.1 s q) _ _ _ λ i e s _=>rfl]
  rfl
theorem yE0(z:Gau)(d:Int):(z0b z (d,0,())).1=(z0o z d).1:=by
 unfold z0b z0o;simp only[Int.mul_zero,show IntKind.i64.wrap 0=0 from by rw[y1u (by decide) (by decide)],Int.sub_zero,Int.zero_add,yG4]
 rw[Int.mul_comm z.1 d,Int.mul_comm z.2.1 d]
theorem y5k{r:Rec}(h:okR r){q:Int×Nat}(hq:q∈recd r.2.2.2.1 0 r.2.2.1):y8w r (r.2.1+q.1)=some (sx q.2,()):=by
 obtain ⟨h1,h2,h3⟩:=yF3 h q hq;have hs:=h.start;have hl:=h.len;unfold y8w yNY;rw[show r.2.1+q.1 - r.2.1=q.1 by omega,y1u (by omega) (by omega)]
 have:idx r.2.2.1 q.1=some q.2:=by
  unfold idx;rw[if_pos h1.1];exact h3
 rw[this];simp only[Option.bind_some];rw[yRn h2];rfl
theorem y5q{α β σ:Type}{body:Int->σ->Option (β⊕σ)}{fin:σ->Option β}(xs:List α)(h:σ->α->σ)(hb:∀ (i:Nat) e s,xs[i]?=some e->body (i:Int) s=some (.inr (h s e))) :
  ∀ (l done:List α) (s:σ),xs=done++l->y0I body fin l.length (done.length:Int) s=fin (l.foldl h s)
 | [],done,s,_=>rfl
 | e::l,done,s,hx=>by
  rw[List.length_cons,y2p,hb done.length e s (by rw[hx];simp)]
  simp only[Option.bind_some];have ih:=y5q (body:=body) (fin:=fin) xs h hb l (done++[e]) (h s e) (by rw[hx];simp)
  simp only[List.length_append,List.length_cons,List.length_nil]at ih;exact ih
theorem yD9{r:Rec}(h:okR r){l:List Con}(hl:l.length<=4)(hc:∀ c∈l,y3F c) :
  yA8 r l=some ((List.range l.length).map (λ j=>detQ (y7f (norW (tks r) l) j (l.map (solW r)))),l.map (solW r),()):=by
 have hmem:memMax=68719476736:=rfl;have hrl:=h.len;have htl:=yE1 r;have d0:Con:=([],0,0,());obtain ⟨n1,n2⟩:=yB6 (tks r) l;unfold yA8;rw[y5L h];simp only[Option.bind_some];rw[bifT (y5 (by omega)),show ((l.length:Int) - 0).toNat=l.length by omega]
 have row:∀ (j:Nat) (hj:j < l.length) (c0:List Gau),c0.length+1<=memMax->yC8 l r (tks r) [] (j:Int) c0=some (.inr (c0++[solW r l[j]])):=λ j hj c0 hc0=>by
  unfold yC8;rw[bifT (y5 (by omega)),show (((tks r).length:Int) - 0).toNat=(recd r.2.2.2.1 0 r.2.2.1).length by unfold tks;simp]
  have key:=y5q (body:=λ i__ s__=>yBi l r (tks r) (j:Int) c0 [] i__ s__.1 s__.2) (fin:=λ s__=>yCP l r (tks r) (j:Int) c0 [] s__.1 s__.2) (recd r.2.2.2.1 0 r.2.2.1) (solS l[j] r.2.1) (λ i q s hq=>by
   have hqm:=List.mem_of_getElem? hq;have ho:=yF3 h q hqm;have hst:=h.start;have hti:idx (tks r) (i:Int)=some (r.2.1+q.1):=by
    rw[yu];unfold tks;rw[List.getElem?_map,hq];rfl
   unfold yBi;rw[yu,List.getElem?_eq_getElem hj,hti];simp only[Option.bind_some];rw[yAd (hc _ (List.getElem_mem hj)) ⟨by omega,by omega⟩,y5k h hqm]
   simp only[Option.bind_some];rw[yE0];rfl) (recd r.2.2.2.1 0 r.2.2.1) [] (0,0) rfl
  refine (show _=_ from key).trans ?_
  unfold yCP;rw[bifT (y5 hc0)];rfl
 rw[y2C (λ j=>solW r ((l[j.toNat]?).getD d0)) l.length 0 [] (by simp;omega) λ j s hj hs=>by
  rw[show (0:Int)+(j:Int)=(j:Int) by omega,row j hj s hs,Int.toNat_natCast,List.getElem?_eq_getElem hj]
  rfl]
 have e1:(List.range l.length).map (λ k:Nat=>solW r ((l[((0:Int)+(k:Int)).toNat]?).getD d0))=l.map (solW r):=by
  rw[<- y3q l (solW r) d0];refine List.map_congr_left λ k _=>?_
  rw[show ((0:Int)+(k:Int)).toNat=k by omega]
 rw[List.nil_append,e1];unfold yFF;rw[y9R h (by omega) hc]
 simp only[Option.bind_some];rw[bifT (y5 (by omega)),show ((l.length:Int) - 0).toNat=l.length by omega]
 rw[y2C (λ j=>detQ (y7f (norW (tks r) l) j.toNat (l.map (solW r)))) l.length 0 [] (by simp;omega) λ j s hj hs=>by
  unfold yGP;rw[show (0:Int)+(j:Int)=(j:Int) by omega,yNu _ j _ (by simp[n1]) (by omega) (λ q hq=>by have:=n2 q hq;omega)]
  simp only[Option.bind_some];rw[ycW (by rw[y5O (by simp[n1])];omega) (λ q hq=>by rw[y5O (by simp[n1]),n1];exact yCo n2 q hq)]
  simp only[Option.bind_some];rw[bifT (y5 hs),Int.toNat_natCast]]
 unfold yH1;rw[List.nil_append];congr 2
 refine List.map_congr_left λ k _=>?_
 rw[show ((0:Int)+(k:Int)).toNat=k by omega]
theorem yCg{r:Rec}(h:okR r){l:List Con}(hl:l.length<=4)(hc:∀ c∈l,y3F c) :
  yBO r l=some ((List.range l.length).map (λ j=>detQ (y7f (norW (tks r) l) j (l.map (solW r)))),l.map (solW r),(detQ (norW (tks r) l)).1,()):=by
 have hmem:memMax=68719476736:=rfl;obtain ⟨n1,n2⟩:=yB6 (tks r) l;have hdet:∀ m:List (List Gau),m.length<=4->(∀ q∈m,q.length=m.length)->zK_M m=some (detQ m,()):=λ m h1 h2=>yRC m h1 h2
 unfold yBO zA_M;rw[bifT (y5 (show l.length < lenMax by unfold lenMax;omega)),y1M (solW r) l 0 [] (by simp;omega) λ i c s hcl hs=>by
  unfold yJC;show Option.bind (yBU c r) _=_
  rw[yTm h (hc c hcl)];simp only[Option.bind_some];rw[bifT (y5 hs)]]
 unfold yM4;rw[List.nil_append];simp only[Option.bind_some];rw[yHq h (by omega) hc]
 simp only[Option.bind_some];rw[bifT (y5 (by omega)),show ((l.length:Int) - 0).toNat=l.length by omega]
 rw[y2C (λ j=>detQ (y7f (norW (tks r) l) j.toNat (l.map (solW r)))) l.length 0 [] (by simp;omega) λ j s hj hs=>by
  unfold yFc;rw[show (0:Int)+(j:Int)=(j:Int) by omega,yM0 _ j _ (by simp[n1]) (by omega) (λ q hq=>by have:=n2 q hq;omega)]
  simp only[Option.bind_some];rw[hdet _ (by rw[y5O (by simp[n1])];omega) (λ q hq=>by rw[y5O (by simp[n1]),n1];exact yCo n2 q hq)]
  simp only[Option.bind_some];rw[bifT (y5 hs),Int.toNat_natCast]]
 unfold yGo;rw[List.nil_append,hdet _ (by omega) (λ q hq=>by rw[n1];exact n2 q hq)]
 simp only[Option.bind_some];congr 2
 refine List.map_congr_left λ k _=>?_
 rw[show ((0:Int)+(k:Int)).toNat=k by omega]
end Go.Tw
