import Derived.Test.YtlaebedgpkiodaaGreatDoorPD2
import Derived.Test.YtlaebedgpkiodaaGreatDoorPB
import Derived.Test.YtlaebedgpkiodaaGreatDoorPA
set_option linter.all false
set_option maxRecDepth 100000
open Option (bind_some)
open Go.IntKind (i64)
namespace Go.Tw
open Go.Vx Go.Vx.B Go.Proofs
def inR(n:Int):Prop:=-9223372036854775808<=n/\n<=9223372036854775807
def inG(z:Gau):Prop:=inR z.1/\inR z.2.1
theorem yR9(n:Int):(zy n).1=absW n:=by
 unfold zy absW;first|rw[if_pos rfl]|rfl
theorem yGo(l:List Int)(i x n:Int)(hx:inR x):y9K l i x n=some (.inr (euc 130 n (absW x))):=by
 unfold y9K;rw[yR9];have:=yBy (K:=λ x=>(Sum.inr x:(Int×Unit)⊕Int)) (body:=λ s__=>y5f l ((l.length:Nat):Int) i s__.1 s__.2) (λ a b=>by
  unfold y5f;by_cases h:b=0
  ·subst h;rfl
  ·have e:(b != 0)=true:=by simp[h]
   have e2:(b == 0)=false:=by simp[h]
   simp only[e,e2,cond_true,cond_false,if_neg h]) 130 wMax n (absW x) (by unfold wMax;omega) (y6c (y2i 64 _ _ (y8s hx.1 hx.2)) (by omega))
 exact this
theorem yNk(n x y:Int)(hx:inR x)(hy:inR y):y9e n [x,y]=some (euc 130 (euc 130 n (absW x)) (absW y),()):=by
 unfold y9e;rw[bifT (yB (by simp[lenMax])),ya,yGo _ _ _ _ hx]
 simp only[bind_some];rw[ya,yGo _ _ _ _ hy];rfl
def comA:List Gau->Int->Int
 |[],d=>d
 |z::l,d=>comA l (euc 130 (euc 130 d (absW z.1)) (absW z.2.1))
theorem yLh:∀ (l:List Gau) (d:Int),(∀ z∈l,inG z)->d≠0->comA l d≠0
 |[],d,_,h=>h
 |z::l,d,hl,h=>by
  have hz:=hl z (by simp)
  have k:∀ (d x:Int),inR x->d≠0->euc 130 d (absW x)≠0:=λ d x hx hd he=>by
   have h3:=y6U 130 d (absW x) (y6c (y2i 64 _ _ (y8s hx.1 hx.2)) (by omega))
   rw[he]at h3;have:=Nat.gcd_pos_of_pos_left (absW x).natAbs (show 0 < d.natAbs by omega)
   rw[<- h3]at this;simp at this
  exact yLh l _ (λ z hz=>hl z (by simp[hz])) (k _ _ hz.2 (k _ _ hz.1 h))
theorem yU3(l:List Gau)(d:Int)(h:∀ z∈l,inG z)(hl:l.length < lenMax):yF1 l d=some (comA l d,()):=by
 unfold yF1;rw[bifT (yB hl)];have key:∀ (xs l:List Gau) (i d:Int),(∀ z∈l,inG z)->yL (λ i__ e__ s__=>y9A xs i__ e__ s__) (λ s__=>yG8 xs s__) i l d=some (comA l d,()):=by
  intro xs l;induction l with
  |nil=>intro i d _;rfl
  |cons z l ih =>
   intro i d h;have hz:=h z (by simp)
   rw[ya];have hb:y9A xs i z d=some (.inr (euc 130 (euc 130 d (absW z.1)) (absW z.2.1))):=by
    unfold y9A;rw[yNk d _ _ hz.1 hz.2];rfl
   rw[hb];exact ih (i+1) _ λ z hz=>h z (by simp[hz])
 exact key l l 0 d h
def lowA(l:List Con)(a:List Gau)(d:Int):Tid:=(l,a.map (qG (comA a d)),i64.wrap (d.tdiv (comA a d)),())
theorem yMN(l:List Con)(a:List Gau)(d:Int)(hd:d≠0)(hl:l.length<=memMax)(ha:a.length<=memMax)(h:∀ z∈a,inG z):yJP l a d=some (lowA l a d,()):=by
 have hp:=yLh a d h hd;have hz:(comA a d == 0)=false:=by simpa using hp
 unfold yJP yPH;rw[yU3 a d h (y0M ha)];simp only[bind_some];rw[yQB l hl];simp only[bind_some];rw[yOy a _ (qG (comA a d)) ha λ z _=>by
  show zv_M z _=_
  unfold zv_M zv_m;rw[bifF hz,bifF hz];rfl]
 simp only[bind_some];rw[bifF hz];rfl
theorem yMA(r:List Gau)(D:List Nat->Gau):∀ (rest pre:List Nat) (s:Int) (acc:Gau),inG acc->inG (altC r D pre rest s acc)
 |[],pre,s,acc,h=>h
 |k::rest,pre,s,acc,h=>yMA r D rest _ _ _ ⟨yNR _,yNR _⟩
theorem yPI(m:List (List Gau)):inG (detQ m):=by
 unfold detQ;cases m with
 |nil=>exact ⟨⟨by decide,by decide⟩,⟨by decide,by decide⟩⟩
 |cons r m=>exact yMA r (detC m) _ _ _ _ ⟨⟨by decide,by decide⟩,⟨by decide,by decide⟩⟩
noncomputable def solA(r:Rec)(l:List Con):List Gau:=(List.range l.length).map λ j=>detQ (y8z (norW (tks r) l) j (l.map (solW r)))
noncomputable def denA(r:Rec)(l:List Con):Int:=(detQ (norW (tks r) l)).1
theorem yPJ(r:Rec)(l:List Con):∀ z∈solA r l,inG z:=λ z hz=>by
 obtain ⟨j,_,rfl⟩:=List.mem_map.1 hz;exact yPI _
noncomputable def anaV(r:Rec)(l:List Con):Tid×Int×Unit:=if denA r l=0 then (([],[],0,()),25,())else (lowA l (solA r l) (denA r l),0,())
theorem yP1{r:Rec}{l:List Con}(hn:r.1.length < lenMax)(hl:r.2.2.1.length < lenMax)(hg:r.2.2.2.1.length < lenMax)(hnl:∀ n∈l,n.1.length < lenMax)(hll:l.length < lenMax) :
  yK1 r l=some (if y4z r l=0 then anaV r l else (([],[],0,()),y4z r l,())):=by
 have hmem:memMax=68719476736:=rfl;unfold yK1 yQF;rw[y6a r l hn hl hg hnl hll];simp only[bind_some];by_cases h:y4z r l=0
 ·obtain ⟨h1,h2,h3,h4⟩:=yCQ h;rw[if_pos h,bifF (by simp[h]),yDe h1 h3.2 h4]
  simp only[bind_some];show (bif denA r l == 0 then some (([],[],0,()),25,())else Option.bind (yJP l (solA r l) (denA r l)) _)=_
  unfold anaV;by_cases h0:denA r l=0
  ·rw[if_pos h0,h0];rfl
  ·rw[if_neg h0,bifF (by simpa using h0),yMN l _ _ h0 (by omega) (by unfold solA;simp;omega) (yPJ r l)]
   rfl
 ·rw[if_neg h,bifT (by simpa using h)]
noncomputable def lesS(D:Int)(acc:Int)(q:Int×Nat):Int:=i64.wrap (acc+i64.wrap (i64.wrap (D * sx q.2) * sx q.2))
noncomputable def lesT(acc:Int)(p:Gau×Gau):Int:=i64.wrap (acc - (z0h (zr p.1).1 p.2).1.1)
noncomputable def lesN(r:Rec)(l:List Con):Int:=((l.map (solW r)).zip (solA r l)).foldl lesT ((recd r.2.2.2.1 0 r.2.2.1).foldl (lesS (denA r l)) 0)
noncomputable def lesV(r:Rec)(l:List Con):Gau×Int×Unit:=if denA r l=0 then ((0,0,()),25,())else (lowR (lesN r l) (denA r l),0,())
theorem yQA{r:Rec}{l:List Con}(hT:(tks r).length<=128)(hl:l.length<=4)(h0:denA r l≠0):1<=denA r l/\denA r l<=9223372036854775807:=by
 obtain ⟨D,h1,h2,h3⟩:=yMF hT hl;have e:denA r l=D:=by unfold denA;rw[h1]
 omega
theorem yQ8{r:Rec}{l:List Con}(hn:r.1.length < lenMax)(hl:r.2.2.1.length < lenMax)(hg:r.2.2.2.1.length < lenMax)(hnl:∀ n∈l,n.1.length < lenMax)(hll:l.length < lenMax) :
  yLa r l=some (if y4z r l=0 then lesV r l else ((0,0,()),y4z r l,())):=by
 unfold yLa;rw[y6a r l hn hl hg hnl hll];simp only[bind_some];by_cases h:y4z r l=0
 ·obtain ⟨h1,h2,h3,h4⟩:=yCQ h;rw[if_pos h,bifF (by simp[h]),yDe h1 h3.2 h4]
  simp only[bind_some];show (bif denA r l == 0 then _ else _)=_
  unfold lesV;by_cases h0:denA r l=0
  ·rw[if_pos h0,h0];rfl
  ·rw[if_neg h0,bifF (by simpa using h0),bifT (yB hl)]
   have hz:((l.map (solW r)).zip (solA r l)).length=l.length:=by unfold solA;simp
   have h4':=h3.2;have hsl:(solA r l).length=l.length:=by unfold solA;simp
   refine (y5z h1 (λ s=>some (lowR (((l.map (solW r)).zip (solA r l)).foldl lesT s) (denA r l),0,())) (λ i x s=>some (.inr (lesS (denA r l) s (i,x)))) (λ g s=>?_) (λ i x g s hi hx hg=>?_) 0).trans ?_
   ·dsimp only;unfold yKE;show (bif decide ((solA r l).length < lenMax)then yL (λ i__ e__ s__=>y6i (l.map (solW r)) (solA r l) 0 0 (denA r l) i__ e__ s__) (λ s__=>y6O (l.map (solW r)) (solA r l) 0 0 (denA r l) s__) 0 (solA r l) s else none)=_
    rw[bifT (yB (by unfold lenMax;omega))]
    have k2:∀ (a b da db:List Gau) (s:Int),solA r l=da++a->l.map (solW r)=db++b->da.length=db.length->a.length=b.length ->
      yL (λ i__ e__ s__=>y6i (l.map (solW r)) (solA r l) 0 0 (denA r l) i__ e__ s__) (λ s__=>y6O (l.map (solW r)) (solA r l) 0 0 (denA r l) s__) (da.length:Int) a s=y6O (l.map (solW r)) (solA r l) 0 0 (denA r l) ((b.zip a).foldl lesT s):=by
     intro a;induction a with
     |nil =>
      intro b da db s _ _ _ hab;have:b=[]:=List.eq_nil_of_length_eq_zero (by simpa using hab.symm)
      subst this;rfl
     |cons z a ih =>
      intro b da db s ha hb hd hab;obtain ⟨y,b,rfl⟩:∃ y b',b=y::b':=by
       cases b with
       |nil=>simp at hab
       |cons y b=>exact ⟨y,b,rfl⟩
      have hy:idx (l.map (solW r)) (da.length:Int)=some y:=by rw[hb];exact y8f db y b _ (by omega)
      have hbody:y6i (l.map (solW r)) (solA r l) 0 0 (denA r l) (da.length:Int) z s=some (.inr (lesT s (y,z))):=by
       unfold y6i;rw[hy];rfl
      rw[ya,hbody];simp only[bind_some];have:=ih b (da++[z]) (db++[y]) (lesT s (y,z)) (by rw[ha];simp) (by rw[hb];simp) (by simp[hd]) (by simpa using hab)
      simp only[List.length_append,List.length_cons,List.length_nil]at this;exact this
    have k3:=k2 (solA r l) (l.map (solW r)) [] [] s rfl rfl rfl (by rw[hsl];simp)
    refine (show _=_ from k3).trans ?_
    unfold y6O;obtain ⟨d1,d2⟩:=yQA h2 h3.2 h0;have hin:-9223372036854775808<=((l.map (solW r)).zip (solA r l)).foldl lesT s/\((l.map (solW r)).zip (solA r l)).foldl lesT s<=9223372036854775807:=by
     have hpos:((l.map (solW r)).zip (solA r l))≠[]:=λ hh=>by rw[hh]at hz;simp at hz;omega
     have fr:∀ (L:List (Gau×Gau)) (s:Int),L≠[]->-9223372036854775808<=L.foldl lesT s/\L.foldl lesT s<=9223372036854775807:=by
      intro L;induction L with
      |nil=>intro s hh;exact absurd rfl hh
      |cons p L ih =>
       intro s _;by_cases hL:L=[]
       ·subst hL;exact yNR _
       ·exact ih (lesT s p) hL
     exact fr _ s hpos
    rw[yCz hin.1 hin.2 d1 d2];rfl
   ·dsimp only;unfold yIc;refine (y3A (i:=(i:Int)) (λ g=>rfl) g wMax hg).trans ?_
    generalize g.dropWhile (λ s=>decide (s.2.1<=(i:Int)))=g'
    unfold yAj;rw[y6M,y4U hx];rfl
   ·rw[y3E (λ s (q:Int×Nat)=>lesS (denA r l) s q) _ _ _ λ i e s _=>rfl]
    rfl
 ·rw[if_neg h,bifT (by simpa using h)]
end Go.Tw
