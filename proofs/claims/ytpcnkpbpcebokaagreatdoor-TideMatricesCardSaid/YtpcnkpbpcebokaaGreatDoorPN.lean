import Derived.Test.YtpcnkpbpcebokaaGreatDoorPN2
import Derived.Test.YtpcnkpbpcebokaaGreatDoorBMa
import Derived.Test.YtpcnkpbpcebokaaGreatDoorPA
set_option linter.all false
set_option maxRecDepth 100000
namespace Go.Tw
open Go.Vx Go.Vx.B Go.Proofs
theorem y4e{β σ:Type}{body:Int->σ->Option (β⊕σ)}{fin:σ->Option β}(h:σ->Nat->σ)(I:Nat->σ->Prop)(N:Nat)(hb:∀ (i:Nat) s,i < N->I i s->body (i:Int) s=some (.inr (h s i))/\I (i+1) (h s i)) :
  ∀ (m k:Nat) (s:σ),k+m=N->I k s->y06 body fin m (k:Int) s=fin ((List.range' k m).foldl h s)/\I N ((List.range' k m).foldl h s)
 |0,k,s,hk,hi=>⟨rfl,by rw[<- hk];exact hi⟩
 |m+1,k,s,hk,hi=>by
  obtain ⟨b1,b2⟩:=hb k s (by omega) hi
  rw[y1W,b1];simp only[Option.bind_some];exact y4e h I N hb m (k+1) (h s k) (by omega) b2
noncomputable def sqW(z:Gau):Int:=(z0G z).1
def atC(l:List Con)(i:Nat):Con:=(l[i]?).getD ([],0,0,())
noncomputable def alk(r:Rec)(l:List Con)(i j:Nat):Bool:=sqW (innW (tks r) (atC l i) (atC l j)) == IntKind.i64.wrap (((tks r).length:Int) * ((tks r).length:Int))
noncomputable def y2y(r:Rec)(l:List Con)(c:List (List Int))(i j:Nat):List (List Int):=if alk r l i j then c++[[(i:Int),(j:Int)]]else c
noncomputable def aliT(r:Rec)(l:List Con):List (List Int):=(List.range' 0 16).foldl (λ c t=>if t / 4 < t % 4/\t % 4 < l.length then y2y r l c (t / 4) (t % 4)else c) []
noncomputable def aliR(r:Rec)(l:List Con):List (List Int):=(List.range' 0 l.length).foldl (λ c j=>(List.range' (j+1) (l.length - (j+1))).foldl (λ c k=>y2y r l c j k) c) []
theorem yaV(r:Rec){l:List Con}(hl:l.length<=4):aliT r l=aliR r l:=by
 unfold aliT aliR;generalize y2y r l=F;generalize l.length=n at hl ⊢;rcases (show n=0\/n=1\/n=2\/n=3\/n=4 by omega)with rfl|rfl|rfl|rfl|rfl<;>rfl
theorem y5N(r:Rec)(l:List Con)(c:List (List Int))(i j:Nat):(y2y r l c i j).length<=c.length+1:=by
 unfold y2y;split
 ·simp
 ·omega
theorem yFP{l:List Con}{i:Nat}(h:i < l.length):idx l (i:Int)=some (atC l i):=by
 unfold atC;rw[y0X,List.getElem?_eq_getElem h];rfl
theorem yLn{l:List Con}(hc:∀ c∈l,y2A c){i:Nat}(h:i < l.length):y2A (atC l i):=by
 unfold atC;rw[List.getElem?_eq_getElem h];exact hc _ (List.getElem_mem h)
theorem yNi{r:Rec}(h:okR r){l:List Con}(hc:∀ c∈l,y2A c)(hl:l.length<=4)(t:Nat)(ht:t < 16)(c:List (List Int))(hcl:c.length<=t) :
  y9R l r ((tks r).length:Int) (t:Int) c=some (.inr (if t / 4 < t % 4/\t % 4 < l.length then y2y r l c (t / 4) (t % 4)else c)):=by
 have hmem:memMax=68719476736:=rfl;have e1:IntKind.i64.wrap ((t:Int).tdiv 4)=((t / 4:Nat):Int):=by
  rw[Int.tdiv_eq_ediv_of_nonneg (by omega),y1s (by omega) (by omega)]
  omega
 have e2:(t:Int).tmod 4=((t % 4:Nat):Int):=by
  rw[Int.tmod_eq_emod_of_nonneg (by omega)]
  omega
 unfold y9R;rw[e1,e2];generalize hi:t / 4=i;generalize hj:t % 4=j;have hi4:i < 4:=by omega
 have hj4:j < 4:=by omega
 clear e1 e2 hi hj;by_cases a1:(i:Int) > j
 ·rw[bifT (y7 a1),if_neg (by omega)]
 ·rw[bifF (yF a1)];by_cases a2:i=j
  ·subst a2;rw[bifT (by simp[eqV]),if_neg (by omega)]
  ·have hne:eqV (Ty.arr 2 (Ty.int IntKind.i64)) [(i:Int),(j:Int)] [(j:Int),(i:Int)]=false:=by
    have:((i:Int) == (j:Int))=false:=by simpa using (by omega:(i:Int)≠j)
    simp[eqV];refine ⟨0,by omega,?_⟩
    simp;omega
   rw[bifF hne];by_cases a3:(j:Int) >= (l.length:Int)
   ·rw[bifT (y7 a3),if_neg (by omega)]
   ·rw[bifF (yF a3),if_pos (by omega),yFP (by omega),yFP (by omega)]
    simp only[Option.bind_some];rw[yC2 h (yLn hc (by omega)) (yLn hc (by omega))]
    simp only[Option.bind_some];unfold y2y;show (bif alk r l i j then _ else _)=_
    cases alk r l i j with
    |false=>rfl
    |true =>
     rw[cond_true,bifT (y7 (by omega)),if_pos rfl]
theorem yJx{r:Rec}{l:List Con}(hn:r.1.length < lenMax)(hl:r.2.2.1.length < lenMax)(hg:r.2.2.2.1.length < lenMax)(hnl:∀ n∈l,n.1.length < lenMax)(hll:l.length < lenMax) :
  yDu r l=some (if y1i r l=0 then (aliT r l,0,())else ([],y1i r l,())):=by
 unfold yDu;rw[y4E r l hn hl hg hnl hll];simp only[Option.bind_some];by_cases h:y1i r l=0
 ·obtain ⟨h1,h2,h3,h4⟩:=y3g h;have h5:=h3.2;rw[if_pos h,bifF (by simp[h]),yCh h1]
  simp only[Option.bind_some];rw[bifT (by rfl)]
  have key:=y4e (body:=λ i__ s__=>y9R l r ((tks r).length:Int) i__ s__) (fin:=λ s__=>yGA l r ((tks r).length:Int) s__) (λ c t=>if t / 4 < t % 4/\t % 4 < l.length then y2y r l c (t / 4) (t % 4)else c) (λ k c=>c.length<=k) 16 (λ t c ht hc=>by
   refine ⟨yNi h1 h4 h5 t ht c hc,?_⟩;have:=y5N r l c (t / 4) (t % 4);show (if t / 4 < t % 4/\t % 4 < l.length then y2y r l c (t / 4) (t % 4)else c).length<=t+1
   split<;>omega) 16 0 [] rfl (by simp)
  refine (show _=_ from key.1).trans ?_
  rfl
 ·rw[if_neg h,bifT (by simpa using h)]
theorem yBp{r:Rec}(h:okR r){l:List Con}(hc:∀ c∈l,y2A c)(hl:l.length<=4)(j:Nat)(hj:j < l.length):∀ (m k:Nat) (c:List (List Int)) (f:Nat),k+m=l.length->c.length+m<=64->m < f ->
  y2Q (λ s__=>y6A l (tks r) (j:Int) s__.1 s__.2) f ((k:Int),c)=some (.inr ((List.range' k m).foldl (λ c k=>y2y r l c j k) c))
 |0,k,c,f,hk,hcl,hf=>by
  obtain ⟨f,rfl⟩:∃ j,f=j+1:=⟨f - 1,by omega⟩
  unfold y2Q;have hb:y6A l (tks r) (j:Int) (k:Int) c=some (.inl (.inr c)):=by
   unfold y6A;rw[bifF (yF (by omega))]
  simp only;rw[hb];rfl
 |m+1,k,c,f,hk,hcl,hf=>by
  have hmem:memMax=68719476736:=rfl;have htl:=yJj r;have hrl:=h.len;obtain ⟨f,rfl⟩:∃ j,f=j+1:=⟨f - 1,by omega⟩
  unfold y2Q;have hb:y6A l (tks r) (j:Int) (k:Int) c=some (.inr ((k:Int)+1,y2y r l c j k)):=by
   unfold y6A;rw[bifT (y7 (by omega)),yFP hj,yFP (by omega)]
   simp only[Option.bind_some];rw[yBW (yPk h) (by unfold lenMax;omega) (yLn hc hj) (yLn hc (by omega))]
   simp only[Option.bind_some];rw[y1s (i:=(k:Int)+1) (by omega) (by omega)]
   unfold y2y;show (bif alk r l j k then _ else _)=_
   cases alk r l j k with
   |false=>rfl
   |true=>rw[cond_true,bifT (y7 (by omega)),if_pos rfl]
  simp only;rw[hb];simp only[Option.bind_some];have hs:=y5N r l c j k;have:=yBp h hc hl j hj m (k+1) (y2y r l c j k) f (by omega) (by omega) (by omega)
  exact this
theorem yC0(r:Rec)(l:List Con)(j:Nat):∀ (m k:Nat) (c:List (List Int)),((List.range' k m).foldl (λ c k=>y2y r l c j k) c).length<=c.length+m
 |0,k,c=>by simp
 |m+1,k,c=>by
  rw[List.range'_succ,List.foldl_cons];have h1:=yC0 r l j m (k+1) (y2y r l c j k);have h2:=y5N r l c j k;omega
theorem yKc{r:Rec}(h:okR r){l:List Con}(hl:l.length<=4)(hc:∀ c∈l,y2A c):yHz r l=some (aliR r l,()):=by
 unfold yHz;rw[y7f h];simp only[Option.bind_some];rw[bifT (y7 (by omega)),show ((l.length:Int) - 0).toNat=l.length by omega]
 have key:=y4e (body:=λ i__ s__=>yCj l (tks r) i__ s__) (fin:=λ s__=>yFI l (tks r) s__) (λ c j=>(List.range' (j+1) (l.length - (j+1))).foldl (λ c k=>y2y r l c j k) c) (λ k c=>c.length<=4 * k) l.length (λ j c hj hcl=>by
  constructor
  ·unfold yCj;rw[y1s (by omega) (by omega)]
   have:=yBp h hc hl j hj (l.length - (j+1)) (j+1) c wMax (by omega) (by omega) (by unfold wMax;omega)
   exact this
  ·have:=yC0 r l j (l.length - (j+1)) (j+1) c;show ((List.range' (j+1) (l.length - (j+1))).foldl (λ c k=>y2y r l c j k) c).length<=4 * (j+1)
   omega) l.length 0 [] (by omega) (by simp)
 refine (show _=_ from key.1).trans ?_
 rfl
theorem yLV(r:Rec)(l:List Con):(aliT r l).length<=16:=by
 have:∀ (m k:Nat) (c:List (List Int)),((List.range' k m).foldl (λ c t=>if t / 4 < t % 4/\t % 4 < l.length then y2y r l c (t / 4) (t % 4)else c) c).length<=c.length+m:=by
  intro m;induction m with
  |zero=>intro k c;simp
  |succ m ih =>
   intro k c;rw[List.range'_succ,List.foldl_cons];have h2:=y5N r l c (k / 4) (k % 4);refine Nat.le_trans (ih _ _) ?_
   split<;>omega
 have:=this 16 0 [];exact Nat.le_trans this (by simp)
theorem y4Y(l:List (List Int))(h:l.length < lenMax)(h2:∀ p∈l,p.length=2):zr_M l l=some (true,()):=by
 unfold zr_M;rw[bifF (show ((l.length:Int) != (l.length:Int))=false by simp),bifT (y7 h),y4I l (λ p x r e=>by
  unfold yN8;rw[e,yDf p x r _ rfl];simp only[Option.bind_some];rw[bifF (by simp[eqV])]) l [] 0 rfl rfl]
 rfl
theorem y5P(l:List (List Gau))(h:l.length < lenMax)(h2:∀ p∈l,p.length < lenMax):zy_M l l=some (true,()):=by
 unfold zy_M;rw[bifF (show ((l.length:Int) != (l.length:Int))=false by simp),bifT (y7 h),y4I l (λ p x r e=>by
  unfold yMI;rw[e,yDf p x r _ rfl];simp only[Option.bind_some];rw[y6X _ (h2 x (by rw[e];simp))]
  rfl) l [] 0 rfl rfl]
 rfl
theorem yLj(r:Rec)(l:List Con):∀ p∈aliT r l,p.length=2:=by
 have:∀ (m k:Nat) (c:List (List Int)),(∀ p∈c,p.length=2)->∀ p∈(List.range' k m).foldl (λ c t=>if t / 4 < t % 4/\t % 4 < l.length then y2y r l c (t / 4) (t % 4)else c) c,p.length=2:=by
  intro m;induction m with
  |zero=>intro k c h;exact h
  |succ m ih =>
   intro k c h;rw[List.range'_succ,List.foldl_cons];refine ih _ _ λ p hp=>?_
   split at hp
   ·unfold y2y at hp;split at hp
    ·rcases List.mem_append.1 hp with hp|hp
     ·exact h p hp
     ·rw[List.mem_singleton.1 hp];rfl
    ·exact h p hp
   ·exact h p hp
 exact this 16 0 [] λ p hp=>by cases hp
theorem yID(r:Rec)(l:List Con)(ll:l.length < lenMax):zS_M r l=some (true,()):=by
 have hmem:memMax=68719476736:=rfl;have hlm:lenMax=9223372036854775808:=rfl;unfold zS_M zS_m;rw[yGx];simp only[Option.bind_some,Bool.not_true,cond_false];cases hsh:(z0X r).1 with
 |false=>rfl
 |true =>
  obtain ⟨r60,r97,r49⟩:=yMO hsh;obtain ⟨s,hs,hs2⟩:=yKX l ll;simp only[Bool.not_true,cond_false];rw[hs];simp only[Option.bind_some];cases s with
  |false=>rfl
  |true =>
   obtain ⟨l60,l5⟩:=hs2 rfl;have hnl:∀ n∈l,n.1.length < lenMax:=λ n hn=>by have:=l60 n hn;omega
   simp only[Bool.not_true,cond_false];rw[yRg r (by omega) (by omega),yLT l (by omega)]
   simp only[Option.bind_some];have hN:yIs r l=some (if y1i r l=0 then (norW (tks r) l,0,())else ([],y1i r l,())):=by
    unfold yIs yNB;rw[y4E r l (by omega) (by omega) (by omega) hnl ll]
    simp only[Option.bind_some];by_cases h:y1i r l=0
    ·obtain ⟨h1,h2,h3,h4⟩:=y3g h;rw[if_pos h,bifF (by simp[h]),y5y h1 (by have:=h3.2;omega) h4]
     rfl
    ·rw[if_neg h,bifT (by simpa using h)]
   have hD:zj_M r l=some (if y1i r l=0 then (denA r l,0,())else (0,y1i r l,())):=by
    unfold zj_M zj_m;rw[y4E r l (by omega) (by omega) (by omega) hnl ll]
    simp only[Option.bind_some];by_cases h:y1i r l=0
    ·obtain ⟨h1,h2,h3,h4⟩:=y3g h;obtain ⟨n1,n2⟩:=y87 (tks r) l;have h5:=h3.2;rw[if_pos h,bifF (by simp[h]),y5y h1 (by omega) h4]
     simp only[Option.bind_some];rw[yIP _ (by omega) (λ q hq=>by rw[n1];exact n2 q hq)]
     rfl
    ·rw[if_neg h,bifT (by simpa using h)]
   rw[hN,hD,yMB (by omega) (by omega) (by omega) hnl ll,yJx (by omega) (by omega) (by omega) hnl ll,ySq r l (by omega)]
   simp only[Option.bind_some];by_cases h:y1i r l=0
   ·obtain ⟨h1,h2,h3,h4⟩:=y3g h;have h5:=h3.2;obtain ⟨n1,n2⟩:=y87 (tks r) l;have ha:=yLV r l;rw[if_pos h,if_pos h,if_pos h,if_pos h,h,bifT (by rfl),y9P h1 (by omega) h4,yFh h1 h5 h4,yNq h1 h5 h4,yKc h1 h5 h4,yTN h2 h5,<- yaV r h5]
    simp only[Option.bind_some];unfold y73;rw[bifT (by simp),y5P _ (show (norW (tks r) l).length < lenMax by omega) (λ p hp=>by have:=n2 p hp;omega)]
    simp only[Option.bind_some];rw[y4Y _ (show (aliT r l).length < lenMax by omega) (yLj r l)]
    unfold z0D;simp
   ·rw[if_neg h,if_neg h,if_neg h,if_neg h,bifF (by simpa using h)]
    unfold y73;rw[bifT (by simp),y5P _ (by simp[lenMax]) (λ p hp=>by cases hp)]
    simp only[Option.bind_some];rw[y4Y _ (by simp[lenMax]) (λ p hp=>by cases hp)]
    unfold z0D;have hb:(y1i r l != 0)=true:=by simpa using h
    simp[hb]
end Go.Tw
