import Derived.Test.YtpcnkpbpcebokaaGreatDoorPN2
import Derived.Test.YtpcnkpbpcebokaaGreatDoorBMa
import Derived.Test.YtpcnkpbpcebokaaGreatDoorPA
set_option linter.all false
set_option maxRecDepth 100000
open Option (bind_some)
namespace Go.Tw
open Go.Vx Go.Vx.B Go.Proofs
theorem y8Z{β σ:Type}{body:Int->σ->Option (β⊕σ)}{fin:σ->Option β}(h:σ->Nat->σ)(I:Nat->σ->Prop)(N:Nat)(hb:∀ (i:Nat) s,i < N->I i s->body (i:Int) s=some (.inr (h s i))/\I (i+1) (h s i)) :
  ∀ (m k:Nat) (s:σ),k+m=N->I k s->y0b body fin m (k:Int) s=fin ((List.range' k m).foldl h s)/\I N ((List.range' k m).foldl h s)
 |0,k,s,hk,hi=>⟨rfl,by rw[<- hk];exact hi⟩
 |m+1,k,s,hk,hi=>by
  obtain ⟨b1,b2⟩:=hb k s (by omega) hi
  rw[y20,b1];simp only[bind_some];exact y8Z h I N hb m (k+1) (h s k) (by omega) b2
noncomputable def sqW(z:Gau):Int:=(z0H z).1
def atC(l:List Con)(i:Nat):Con:=(l[i]?).getD ([],0,0,())
noncomputable def alk(r:Rec)(l:List Con)(i j:Nat):Bool:=sqW (innW (tks r) (atC l i) (atC l j)) == IntKind.i64.wrap (((tks r).length:Int) * ((tks r).length:Int))
noncomputable def y8z(r:Rec)(l:List Con)(c:List (List Int))(i j:Nat):List (List Int):=if alk r l i j then c++[[(i:Int),(j:Int)]]else c
noncomputable def aliT(r:Rec)(l:List Con):List (List Int):=(List.range' 0 16).foldl (λ c t=>if t / 4 < t % 4/\t % 4 < l.length then y8z r l c (t / 4) (t % 4)else c) []
theorem yDR(r:Rec)(l:List Con)(c:List (List Int))(i j:Nat):(y8z r l c i j).length<=c.length+1:=by
 unfold y8z;split
 ·simp
 ·omega
theorem yGT{l:List Con}{i:Nat}(h:i < l.length):idx l (i:Int)=some (atC l i):=by
 unfold atC;rw[y04,List.getElem?_eq_getElem h];rfl
theorem yQM{l:List Con}(hc:∀ c∈l,y3P c){i:Nat}(h:i < l.length):y3P (atC l i):=by
 unfold atC;rw[List.getElem?_eq_getElem h];exact hc _ (List.getElem_mem h)
theorem yLc{r:Rec}(h:okR r){l:List Con}(hc:∀ c∈l,y3P c)(hl:l.length<=4)(t:Nat)(ht:t < 16)(c:List (List Int))(hcl:c.length<=t) :
  yCj l r ((tks r).length:Int) (t:Int) c=some (.inr (if t / 4 < t % 4/\t % 4 < l.length then y8z r l c (t / 4) (t % 4)else c)):=by
 have hmem:memMax=68719476736:=rfl;have e1:IntKind.i64.wrap ((t:Int).tdiv 4)=((t / 4:Nat):Int):=by
  rw[Int.tdiv_eq_ediv_of_nonneg (by omega),y0o (by omega) (by omega)]
  omega
 have e2:(t:Int).tmod 4=((t % 4:Nat):Int):=by
  rw[Int.tmod_eq_emod_of_nonneg (by omega)]
  omega
 unfold yCj;rw[e1,e2];generalize hi:t / 4=i;generalize hj:t % 4=j;have hi4:i < 4:=by omega
 have hj4:j < 4:=by omega
 clear e1 e2 hi hj;by_cases a1:(i:Int) > j
 ·rw[bifT (y8 a1),if_neg (by omega)]
 ·rw[bifF (y9 a1)];by_cases a2:i=j
  ·subst a2;rw[bifT (by simp[eqV]),if_neg (by omega)]
  ·have hne:eqV (Ty.arr 2 (Ty.int IntKind.i64)) [(i:Int),(j:Int)] [(j:Int),(i:Int)]=false:=by
    have:((i:Int) == (j:Int))=false:=by simpa using (by omega:(i:Int)≠j)
    simp[eqV];refine ⟨0,by omega,?_⟩
    simp;omega
   rw[bifF hne];by_cases a3:(j:Int) >= (l.length:Int)
   ·rw[bifT (y8 a3),if_neg (by omega)]
   ·rw[bifF (y9 a3),if_pos (by omega),yGT (by omega),yGT (by omega)]
    simp only[bind_some];rw[y7z h (yQM hc (by omega)) (yQM hc (by omega))]
    simp only[bind_some];unfold y8z;show (bif alk r l i j then _ else _)=_
    cases alk r l i j with
    |false=>rfl
    |true =>
     rw[cond_true,bifT (y8 (by omega)),if_pos rfl]
theorem yLL{r:Rec}{l:List Con}(hn:r.1.length < lenMax)(hl:r.2.2.1.length < lenMax)(hg:r.2.2.2.1.length < lenMax)(hnl:∀ n∈l,n.1.length < lenMax)(hll:l.length < lenMax) :
  yMP r l=some (if y0a r l=0 then (aliT r l,0,())else ([],y0a r l,())):=by
 unfold yMP;rw[y2v r l hn hl hg hnl hll];simp only[bind_some];by_cases h:y0a r l=0
 ·obtain ⟨h1,h2,h3,h4⟩:=y2J h;have h5:=h3.2;rw[if_pos h,bifF (by simp[h]),yD9 h1]
  simp only[bind_some];rw[bifT (by rfl)]
  have key:=y8Z (body:=λ i__ s__=>yCj l r ((tks r).length:Int) i__ s__) (fin:=λ s__=>yKw l r ((tks r).length:Int) s__) (λ c t=>if t / 4 < t % 4/\t % 4 < l.length then y8z r l c (t / 4) (t % 4)else c) (λ k c=>c.length<=k) 16 (λ t c ht hc=>by
   refine ⟨yLc h1 h4 h5 t ht c hc,?_⟩;have:=yDR r l c (t / 4) (t % 4);show (if t / 4 < t % 4/\t % 4 < l.length then y8z r l c (t / 4) (t % 4)else c).length<=t+1
   split<;>omega) 16 0 [] rfl (by simp)
  refine (show _=_ from key.1).trans ?_
  rfl
 ·rw[if_neg h,bifT (by simpa using h)]
end Go.Tw
