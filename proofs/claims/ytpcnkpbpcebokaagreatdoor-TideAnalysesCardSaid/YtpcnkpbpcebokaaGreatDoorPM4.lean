import Derived.Test.YtpcnkpbpcebokaaGreatDoorPG2
import Derived.Test.YtpcnkpbpcebokaaGreatDoorP8
import Derived.Test.YtpcnkpbpcebokaaGreatDoorBAn
import Derived.Test.YtpcnkpbpcebokaaGreatDoorPA
set_option linter.all false
set_option maxRecDepth 100000
namespace Go.Tw
open Go.Vx Go.Vx.B Go.Proofs
def inR(n:Int):Prop:=-9223372036854775808<=n/\n<=9223372036854775807
def inG(z:Gau):Prop:=inR z.1/\inR z.2.1
theorem yXL(n:Int):(z0D n).1=absW n:=by
 unfold z0D absW;first|rw[if_pos rfl]|rfl
theorem yFg(l:List Int)(i x n:Int)(hx:inR x):y9m l i x n=some (.inr (euc 130 n (absW x))):=by
 unfold y9m;rw[yXL];have:=y7R (K:=λ x=>(Sum.inr x:(Int×Unit)⊕Int)) (body:=λ s__=>y8R l ((l.length:Nat):Int) i s__.1 s__.2) (λ a b=>by
  unfold y8R;by_cases h:b=0
  ·subst h;rfl
  ·have e:(b != 0)=true:=by simp[h]
   have e2:(b == 0)=false:=by simp[h]
   simp only[e,e2,cond_true,cond_false,if_neg h]) 130 wMax n (absW x) (by unfold wMax;omega) (y5v (y27 64 _ _ (y8V hx.1 hx.2)) (by omega))
 exact this
theorem yLr(n x y:Int)(hx:inR x)(hy:inR y):y8G n [x,y]=some (euc 130 (euc 130 n (absW x)) (absW y),()):=by
 unfold y8G;rw[bifT (y5 (by simp[lenMax])),yT,yFg _ _ _ _ hx]
 simp only[Option.bind_some];rw[yT,yFg _ _ _ _ hy];rfl
theorem yGD(a x:Int)(hx:inR x):y6a a (absW x)=some (euc 130 a (absW x),()):=by
 unfold y6a;have:=y7R (K:=λ x=>((x,()):Int×Unit)) (body:=λ s__=>yC7 s__.1 s__.2) (λ a b=>by
  unfold yC7;by_cases h:b=0
  ·subst h;rfl
  ·have e:(b != 0)=true:=by simp[h]
   have e2:(b == 0)=false:=by simp[h]
   simp only[e,e2,cond_true,cond_false,if_neg h]) 130 wMax a (absW x) (by unfold wMax;omega) (y5v (y27 64 _ _ (y8V hx.1 hx.2)) (by omega))
 exact this
def comA:List Gau->Int->Int
 | [],d=>d
 | z::l,d=>comA l (euc 130 (euc 130 d (absW z.1)) (absW z.2.1))
theorem yEf:∀ (l:List Gau) (d:Int),(∀ z∈l,inG z)->d≠0->comA l d≠0
 | [],d,_,h=>h
 | z::l,d,hl,h=>by
  have hz:=hl z (by simp)
  have k:∀ (d x:Int),inR x->d≠0->euc 130 d (absW x)≠0:=λ d x hx hd he=>by
   have h3:=y87 130 d (absW x) (y5v (y27 64 _ _ (y8V hx.1 hx.2)) (by omega))
   rw[he]at h3;have:=Nat.gcd_pos_of_pos_left (absW x).natAbs (show 0 < d.natAbs by omega)
   rw[<- h3]at this;simp at this
  exact yEf l _ (λ z hz=>hl z (by simp[hz])) (k _ _ hz.2 (k _ _ hz.1 h))
theorem yeh(l:List Gau)(d:Int)(h:∀ z∈l,inG z)(hl:l.length < lenMax):yD1 l d=some (comA l d,()):=by
 unfold yD1;rw[bifT (y5 hl)];have key:∀ (xs l:List Gau) (i d:Int),(∀ z∈l,inG z)->yM (λ i__ e__ s__=>y9N xs i__ e__ s__) (λ s__=>yFn xs s__) i l d=some (comA l d,()):=by
  intro xs l;induction l with
  | nil=>intro i d _;rfl
  | cons z l ih =>
   intro i d h;have hz:=h z (by simp)
   rw[yT];have hb:y9N xs i z d=some (.inr (euc 130 (euc 130 d (absW z.1)) (absW z.2.1))):=by
    unfold y9N;rw[yLr d _ _ hz.1 hz.2];rfl
   rw[hb];exact ih (i+1) _ λ z hz=>h z (by simp[hz])
 exact key l l 0 d h
theorem ydZ(l:List Gau)(d:Int)(h:∀ z∈l,inG z)(hl:l.length < lenMax):yBa l d=some (comA l d,()):=by
 unfold yBa;rw[bifT (y5 hl)];have key:∀ (r done:List Gau) (d:Int),l=done++r->yM (λ i__ e__ s__=>y9v l i__ e__ s__) (λ s__=>yF6 l s__) (done.length:Int) r d=some (comA r d,()):=by
  intro r;induction r with
  | nil=>intro done d _;rfl
  | cons z r ih =>
   intro done d hx;have hz:=h z (by rw[hx];simp)
   have hn:l[done.length]?=some z:=by rw[hx];simp
   have hb:y9v l (done.length:Int) z d=some (.inr (euc 130 (euc 130 d (absW z.1)) (absW z.2.1))):=by
    unfold y9v;rw[yu,hn];simp only[Option.bind_some,if_true];show Option.bind (y6a d (absW z.1)) (λ v3=>Option.bind (y6a v3.1 (absW z.2.1)) λ v6=>some (Sum.inr v6.1))=_
    rw[yGD d _ hz.1];simp only[Option.bind_some];rw[yGD _ _ hz.2];rfl
   rw[yT,hb];have:=ih (done++[z]) (euc 130 (euc 130 d (absW z.1)) (absW z.2.1)) (by rw[hx];simp)
   simp only[List.length_append,List.length_cons,List.length_nil]at this;exact this
 have:=key l [] d rfl;exact this
def lowA(l:List Con)(a:List Gau)(d:Int):Tid:=(l,a.map (qG (comA a d)),IntKind.i64.wrap (d.tdiv (comA a d)),())
theorem yMC(l:List Con)(a:List Gau)(d:Int)(hd:d≠0)(hl:l.length<=memMax)(ha:a.length<=memMax)(h:∀ z∈a,inG z):yHO l a d=some (lowA l a d,()):=by
 have hp:=yEf a d h hd;have hz:(comA a d == 0)=false:=by simpa using hp
 unfold yHO yMj;rw[yeh a d h (y0L ha)];simp only[Option.bind_some];rw[yTg l hl];simp only[Option.bind_some];rw[ySK a _ (qG (comA a d)) ha λ z _=>by
  show yLF z _=_
  unfold yLF yMg;rw[bifF hz,bifF hz];rfl]
 simp only[Option.bind_some];rw[bifF hz];rfl
theorem yN4(l:List Con)(a:List Gau)(d:Int)(hd:d≠0)(hl:l.length<=memMax)(ha:a.length<=memMax)(h:∀ z∈a,inG z):yBW l a d=some (lowA l a d,()):=by
 have hp:=yEf a d h hd;have hz:(comA a d == 0)=false:=by simpa using hp
 unfold yBW;rw[ydZ a d h (y0L ha)];simp only[Option.bind_some];rw[bifT (y5 (show 0+l.length<=memMax by omega)),bifF hz,bifT (y5 (y0L ha))]
 have:=y9P (body:=λ i__ e__ s__=>yCO a (comA a d) 0 l (IntKind.i64.wrap (d.tdiv (comA a d))) i__ e__ s__) (fin:=λ s__=>yGg a (comA a d) 0 l (IntKind.i64.wrap (d.tdiv (comA a d))) s__) a (qG (comA a d)) (λ i e s he hs=>by
  unfold yCO;rw[bifF hz,yu,he];simp only[Option.bind_some];rw[bifF hz,bifT (y5 hs)];rfl) a [] [] rfl (by simpa using ha)
 exact this
theorem yLZ(r:List Gau)(D:List Nat->Gau):∀ (rest pre:List Nat) (s:Int) (acc:Gau),inG acc->inG (altC r D pre rest s acc)
 | [],pre,s,acc,h=>h
 | k::rest,pre,s,acc,h=>yLZ r D rest _ _ _ ⟨yDr _,yDr _⟩
theorem yR8(m:List (List Gau)):inG (detQ m):=by
 unfold detQ;cases m with
 | nil=>exact ⟨⟨by decide,by decide⟩,⟨by decide,by decide⟩⟩
 | cons r m=>exact yLZ r (detC m) _ _ _ _ ⟨⟨by decide,by decide⟩,⟨by decide,by decide⟩⟩
noncomputable def solA(r:Rec)(l:List Con):List Gau:=(List.range l.length).map λ j=>detQ (y7f (norW (tks r) l) j (l.map (solW r)))
noncomputable def denA(r:Rec)(l:List Con):Int:=(detQ (norW (tks r) l)).1
theorem yJr(r:Rec)(l:List Con):∀ z∈solA r l,inG z:=λ z hz=>by
 obtain ⟨j,_,rfl⟩:=List.mem_map.1 hz;exact yR8 _
theorem yGs{r:Rec}(h:okR r){l:List Con}(hl:l.length<=4)(hc:∀ c∈l,y3F c):zY_M r l=some (denA r l,()):=by
 obtain ⟨n1,n2⟩:=yB6 (tks r) l;unfold zY_M zY_m;rw[y9R h (by omega) hc]
 simp only[Option.bind_some];rw[ycW (by omega) (λ q hq=>by rw[n1];exact n2 q hq)]
 rfl
noncomputable def anaV(r:Rec)(l:List Con):Tid×Int×Unit:=if denA r l=0 then (([],[],0,()),25,())else (lowA l (solA r l) (denA r l),0,())
theorem yU5{r:Rec}(h:okR r){l:List Con}(hl:l.length<=4)(hc:∀ c∈l,y3F c):yOd r l=some (anaV r l):=by
 have hmem:memMax=68719476736:=rfl;unfold yOd yNn anaV;rw[yGs h hl hc];simp only[Option.bind_some];by_cases h0:denA r l=0
 ·rw[if_pos h0,h0];rfl
 ·rw[if_neg h0,bifF (by simpa using h0),yD9 h hl hc]
  simp only[Option.bind_some];show Option.bind (yBW l (solA r l) (denA r l)) _=_
  rw[yN4 l _ _ h0 (by omega) (by unfold solA;simp;omega) (yJr r l)]
  rfl
theorem yUf{r:Rec}{l:List Con}(hn:r.1.length < lenMax)(hl:r.2.2.1.length < lenMax)(hg:r.2.2.2.1.length < lenMax)(hnl:∀ n∈l,n.1.length < lenMax)(hll:l.length < lenMax) :
  yHk r l=some (if y3o r l=0 then anaV r l else (([],[],0,()),y3o r l,())):=by
 have hmem:memMax=68719476736:=rfl;unfold yHk yNs;rw[y99 r l hn hl hg hnl hll];simp only[Option.bind_some];by_cases h:y3o r l=0
 ·obtain ⟨h1,h2,h3,h4⟩:=y7q h;rw[if_pos h,bifF (by simp[h]),yCg h1 h3.2 h4]
  simp only[Option.bind_some];show (bif denA r l == 0 then some (([],[],0,()),25,())else Option.bind (yHO l (solA r l) (denA r l)) _)=_
  unfold anaV;by_cases h0:denA r l=0
  ·rw[if_pos h0,h0];rfl
  ·rw[if_neg h0,bifF (by simpa using h0),yMC l _ _ h0 (by omega) (by unfold solA;simp;omega) (yJr r l)]
   rfl
 ·rw[if_neg h,bifT (by simpa using h)]
noncomputable def lesS(D:Int)(acc:Int)(q:Int×Nat):Int:=IntKind.i64.wrap (acc+IntKind.i64.wrap (IntKind.i64.wrap (D * sx q.2) * sx q.2))
noncomputable def lesT(acc:Int)(p:Gau×Gau):Int:=IntKind.i64.wrap (acc - (z1F (z05 p.1).1 p.2).1.1)
noncomputable def lesN(r:Rec)(l:List Con):Int:=((l.map (solW r)).zip (solA r l)).foldl lesT ((recd r.2.2.2.1 0 r.2.2.1).foldl (lesS (denA r l)) 0)
noncomputable def lesV(r:Rec)(l:List Con):Gau×Int×Unit:=if denA r l=0 then ((0,0,()),25,())else (lowR (lesN r l) (denA r l),0,())
theorem yK1(r:Rec)(l:List Con):-9223372036854775808<=lesN r l/\lesN r l<=9223372036854775807:=by
 unfold lesN;have fr:∀ {α:Type} (h:Int->α->Int) (h0:∀ s e,-9223372036854775808<=h s e/\h s e<=9223372036854775807) (l:List α) (s:Int),(-9223372036854775808<=s/\s<=9223372036854775807)->-9223372036854775808<=l.foldl h s/\l.foldl h s<=9223372036854775807:=by
  intro α h h0 l;induction l with
  | nil=>intro s hs;exact hs
  | cons e l ih=>intro s _;exact ih (h s e) (h0 s e)
 exact fr _ (λ s e=>yDr _) _ _ (fr _ (λ s e=>yDr _) _ _ (by decide))
theorem yJa{r:Rec}{l:List Con}(hT:(tks r).length<=128)(hl:l.length<=4)(h0:denA r l≠0):1<=denA r l/\denA r l<=9223372036854775807:=by
 obtain ⟨D,h1,h2,h3⟩:=yO2 hT hl;have e:denA r l=D:=by unfold denA;rw[h1]
 omega
theorem yRu{r:Rec}(h:okR r)(hT:(tks r).length<=128){l:List Con}(hl:l.length<=4)(hc:∀ c∈l,y3F c):yHX r l=some (lesV r l):=by
 have hmem:memMax=68719476736:=rfl;have htl:=yE1 r;have hrl:=h.len;unfold yHX lesV;rw[yGs h hl hc];simp only[Option.bind_some];by_cases h0:denA r l=0
 ·rw[if_pos h0,h0];rfl
 ·rw[if_neg h0,bifF (by simpa using h0),yD9 h hl hc]
  simp only[Option.bind_some];rw[y5L h];simp only[Option.bind_some];rw[bifT (y5 (show (tks r).length < lenMax by unfold lenMax;omega))]
  show yM (λ i__ e__ s__=>y8J l r (denA r l) (solA r l) (l.map (solW r)) (tks r) 0 0 i__ e__ s__) (λ s__=>y8T l r (denA r l) (solA r l) (l.map (solW r)) (tks r) 0 0 s__) 0 (tks r) 0=_
  have key:∀ (p done:List (Int×Nat)) (s:Int),recd r.2.2.2.1 0 r.2.2.1=done++p ->
    yM (λ i__ e__ s__=>y8J l r (denA r l) (solA r l) (l.map (solW r)) (tks r) 0 0 i__ e__ s__) (λ s__=>y8T l r (denA r l) (solA r l) (l.map (solW r)) (tks r) 0 0 s__) (done.length:Int) (p.map λ q=>r.2.1+q.1) s=y8T l r (denA r l) (solA r l) (l.map (solW r)) (tks r) 0 0 (p.foldl (lesS (denA r l)) s):=by
   intro p;induction p with
   | nil=>intro done s _;rfl
   | cons q p ih =>
    intro done s hd;have hq:q∈recd r.2.2.2.1 0 r.2.2.1:=by rw[hd];simp
    have hi:idx (tks r) (done.length:Int)=some (r.2.1+q.1):=by
     rw[yu];unfold tks;rw[hd];simp
    have hb:y8J l r (denA r l) (solA r l) (l.map (solW r)) (tks r) 0 0 (done.length:Int) (r.2.1+q.1) s=some (.inr (lesS (denA r l) s q)):=by
     unfold y8J;rw[y5k h hq,hi];simp only[Option.bind_some];rw[y5k h hq];rfl
    rw[List.map_cons,yT,hb];simp only[Option.bind_some];have:=ih (done++[q]) (lesS (denA r l) s q) (by rw[hd];simp)
    simp only[List.length_append,List.length_cons,List.length_nil]at this;exact this
  have k:=key (recd r.2.2.2.1 0 r.2.2.1) [] 0 rfl;refine (show _=_ from k).trans ?_
  unfold y8T;have hz:((l.map (solW r)).zip (solA r l)).length=l.length:=by unfold solA;simp
  rw[bifT (y5 (by omega)),show ((l.length:Int) - 0).toNat=((l.map (solW r)).zip (solA r l)).length by omega]
  have k2:=y5q (body:=λ i__ s__=>yD4 l (denA r l) (solA r l) (l.map (solW r)) 0 0 i__ s__) (fin:=λ s__=>yBV l (denA r l) (solA r l) (l.map (solW r)) 0 0 s__) ((l.map (solW r)).zip (solA r l)) lesT (λ i p s hp=>by
   obtain ⟨hi,rfl⟩:=List.getElem?_eq_some_iff.1 hp;have hi1:i < (l.map (solW r)).length:=by simp;omega
   have hi2:i < (solA r l).length:=by unfold solA;simp;omega
   unfold yD4;rw[yu,List.getElem?_eq_getElem hi1,yu,List.getElem?_eq_getElem hi2];simp only[Option.bind_some,List.getElem_zip];rfl) ((l.map (solW r)).zip (solA r l)) [] ((recd r.2.2.2.1 0 r.2.2.1).foldl (lesS (denA r l)) 0) rfl
  refine (show _=_ from k2).trans ?_
  unfold yBV;obtain ⟨d1,d2⟩:=yJa hT hl h0;show Option.bind (yAn (lesN r l) (denA r l)) _=_
  rw[yJ2 (yK1 r l).1 (yK1 r l).2 d1 d2];rfl
theorem yR6{r:Rec}{l:List Con}(hn:r.1.length < lenMax)(hl:r.2.2.1.length < lenMax)(hg:r.2.2.2.1.length < lenMax)(hnl:∀ n∈l,n.1.length < lenMax)(hll:l.length < lenMax) :
  yCN r l=some (if y3o r l=0 then lesV r l else ((0,0,()),y3o r l,())):=by
 unfold yCN;rw[y99 r l hn hl hg hnl hll];simp only[Option.bind_some];by_cases h:y3o r l=0
 ·obtain ⟨h1,h2,h3,h4⟩:=y7q h;rw[if_pos h,bifF (by simp[h]),yCg h1 h3.2 h4]
  simp only[Option.bind_some];show (bif denA r l == 0 then _ else _)=_
  unfold lesV;by_cases h0:denA r l=0
  ·rw[if_pos h0,h0];rfl
  ·rw[if_neg h0,bifF (by simpa using h0),bifT (y5 hl)]
   have hz:((l.map (solW r)).zip (solA r l)).length=l.length:=by unfold solA;simp
   have h4':=h3.2;have hsl:(solA r l).length=l.length:=by unfold solA;simp
   refine (y7B h1 (λ s=>some (lowR (((l.map (solW r)).zip (solA r l)).foldl lesT s) (denA r l),0,())) (λ i x s=>some (.inr (lesS (denA r l) s (i,x)))) (λ g s=>?_) (λ i x g s hi hx hg=>?_) 0).trans ?_
   ·dsimp only;unfold yGB;show (bif decide ((solA r l).length < lenMax)then yM (λ i__ e__ s__=>y4j (l.map (solW r)) (solA r l) 0 0 (denA r l) i__ e__ s__) (λ s__=>y4c (l.map (solW r)) (solA r l) 0 0 (denA r l) s__) 0 (solA r l) s else none)=_
    rw[bifT (y5 (by unfold lenMax;omega))]
    have k2:∀ (a b da db:List Gau) (s:Int),solA r l=da++a->l.map (solW r)=db++b->da.length=db.length->a.length=b.length ->
      yM (λ i__ e__ s__=>y4j (l.map (solW r)) (solA r l) 0 0 (denA r l) i__ e__ s__) (λ s__=>y4c (l.map (solW r)) (solA r l) 0 0 (denA r l) s__) (da.length:Int) a s=y4c (l.map (solW r)) (solA r l) 0 0 (denA r l) ((b.zip a).foldl lesT s):=by
     intro a;induction a with
     | nil =>
      intro b da db s _ _ _ hab;have:b=[]:=List.eq_nil_of_length_eq_zero (by simpa using hab.symm)
      subst this;rfl
     | cons z a ih =>
      intro b da db s ha hb hd hab;obtain ⟨y,b,rfl⟩:∃ y b',b=y::b':=by
       cases b with
       | nil=>simp at hab
       | cons y b=>exact ⟨y,b,rfl⟩
      have hy:idx (l.map (solW r)) (da.length:Int)=some y:=by rw[hb];exact yEr db y b _ (by omega)
      have hbody:y4j (l.map (solW r)) (solA r l) 0 0 (denA r l) (da.length:Int) z s=some (.inr (lesT s (y,z))):=by
       unfold y4j;rw[hy];rfl
      rw[yT,hbody];simp only[Option.bind_some];have:=ih b (da++[z]) (db++[y]) (lesT s (y,z)) (by rw[ha];simp) (by rw[hb];simp) (by simp[hd]) (by simpa using hab)
      simp only[List.length_append,List.length_cons,List.length_nil]at this;exact this
    have k3:=k2 (solA r l) (l.map (solW r)) [] [] s rfl rfl rfl (by rw[hsl];simp)
    refine (show _=_ from k3).trans ?_
    unfold y4c;obtain ⟨d1,d2⟩:=yJa h2 h3.2 h0;have hin:-9223372036854775808<=((l.map (solW r)).zip (solA r l)).foldl lesT s/\((l.map (solW r)).zip (solA r l)).foldl lesT s<=9223372036854775807:=by
     have hpos:((l.map (solW r)).zip (solA r l))≠[]:=λ hh=>by rw[hh]at hz;simp at hz;omega
     have fr:∀ (L:List (Gau×Gau)) (s:Int),L≠[]->-9223372036854775808<=L.foldl lesT s/\L.foldl lesT s<=9223372036854775807:=by
      intro L;induction L with
      | nil=>intro s hh;exact absurd rfl hh
      | cons p L ih =>
       intro s _;by_cases hL:L=[]
       ·subst hL;exact yDr _
       ·exact ih (lesT s p) hL
     exact fr _ s hpos
    rw[yLP hin.1 hin.2 d1 d2];rfl
   ·dsimp only;unfold yGH;refine (y3g (i:=(i:Int)) (λ g=>rfl) g wMax hg).trans ?_
    generalize g.dropWhile (λ s=>decide (s.2.1<=(i:Int)))=g'
    unfold yB5;rw[y6l,y5M hx];rfl
   ·rw[y4P (λ s (q:Int×Nat)=>lesS (denA r l) s q) _ _ _ λ i e s _=>rfl]
    rfl
 ·rw[if_neg h,bifT (by simpa using h)]
theorem yIo(r:Rec)(l:List Con)(ll:l.length < lenMax):zS_M r l=some (true,()):=by
 have hmem:memMax=68719476736:=rfl;have hlm:lenMax=9223372036854775808:=rfl;unfold zS_M zS_m;rw[yIS];simp only[Option.bind_some,Bool.not_true,cond_false];cases hsh:(z0d r).1 with
 | false=>rfl
 | true =>
  obtain ⟨r60,r97,r49⟩:=yOJ hsh;obtain ⟨s,hs,hs2⟩:=yJl l ll;simp only[Bool.not_true,cond_false];rw[hs];simp only[Option.bind_some];cases s with
  | false=>rfl
  | true =>
   obtain ⟨l60,l5⟩:=hs2 rfl;have hnl:∀ n∈l,n.1.length < lenMax:=λ n hn=>by have:=l60 n hn;omega
   simp only[Bool.not_true,cond_false];rw[yTk r (by omega) (by omega),yNP l (by omega)]
   simp only[Option.bind_some];rw[yUf (by omega) (by omega) (by omega) hnl ll,yR6 (by omega) (by omega) (by omega) hnl ll,yUw r l (by omega)]
   simp only[Option.bind_some];by_cases h:y3o r l=0
   ·obtain ⟨h1,h2,h3,h4⟩:=y7q h;rw[if_pos h,if_pos h,bifT (by simp[h]),yRu h1 h2 h3.2 h4,yU5 h1 h3.2 h4]
    simp only[Option.bind_some];show Option.bind (yCt (anaV r l).1 (anaV r l).2.1 (anaV r l).2.1 (anaV r l).1) (λ v24=>bif v24.1 then some ((z0Z (lesV r l).1 (lesV r l).2.1 (anaV r l).2.1 (lesV r l).1).1,())else some (false,()))=_
    have hsl:(solA r l).length=l.length:=by unfold solA;simp
    by_cases h0:denA r l=0
    ·have ea:anaV r l=(([],[],0,()),25,()):=by unfold anaV;rw[if_pos h0]
     have el:lesV r l=((0,0,()),25,()):=by unfold lesV;rw[if_pos h0]
     rw[ea,el,y8h (([],[],0,()),25,()) (.inr ⟨rfl,by decide⟩) (by simp) (by simp)]
     simp only[Option.bind_some,cond_true];rw[y9t (by decide)]
    ·have ea:anaV r l=(lowA l (solA r l) (denA r l),0,()):=by unfold anaV;rw[if_neg h0]
     have el:lesV r l=(lowR (lesN r l) (denA r l),0,()):=by unfold lesV;rw[if_neg h0]
     rw[ea,el,y8h (lowA l (solA r l) (denA r l),0,()) (.inl rfl) (by unfold lowA;simp only;omega) (by unfold lowA;simp only[List.length_map];omega)]
     simp only[Option.bind_some,cond_true];rw[yJf]
   ·rw[if_neg h,if_neg h,bifF (by simpa using h)]
    rw[y8h (([],[],0,()),y3o r l,()) (.inr ⟨rfl,h⟩) (by simp) (by simp)]
    simp only[Option.bind_some,cond_true];rw[y9t h]
end Go.Tw
