import Derived.Test.YtpcnkpbpcebokaaGreatDoorPM2
import Derived.Test.YtpcnkpbpcebokaaGreatDoorPQ
set_option linter.all false
set_option maxRecDepth 100000
open Option (bind_some)
namespace Go.Tw
open Go.Vx Go.Vx.B Go.Proofs
def y60(m:List (List Gau))(j:Nat)(v:List Gau):List (List Gau):=List.zipWith (λ row x=>row.set j x) m v
theorem yIr(m:List (List Gau))(j:Nat)(v:List Gau)(i:Nat)(row:List Gau)(x:Gau)(c:List (List Gau))(hm:m[i]?=some row)(hv:v[i]?=some x)(hc:i < c.length)(hj:j < row.length)(hr:row.length<=memMax) :
  yKG m (j:Int) v (i:Int) row c=some (.inr (c.set i (row.set j x))):=by
 have g1:c[i]?=some c[i]:=List.getElem?_eq_getElem hc;have gj:row[j]?=some row[j]:=List.getElem?_eq_getElem hj;have s1:∀ y:List Gau,(c.set i y)[i]?=some y:=λ y=>by rw[List.getElem?_set_self hc]
 have s2:∀ y z:List Gau,((c.set i y).set i z)[i]?=some z:=λ y z=>by rw[List.getElem?_set_self (by simpa using hc)]
 unfold yKG;have hmem:memMax=68719476736:=rfl;rw[bifT (by simp;omega)]
 rw[y04,g1];simp only[bind_some];rw[Int.toNat_natCast,g1];simp only[bind_some];rw[y04,s1];simp only[bind_some];rw[y04,hm];simp only[bind_some];rw[bifT (y8 (by simp)),y04,s2]
 simp only[bind_some];rw[y04,hv];simp only[bind_some];rw[y04,gj];simp only[bind_some];rw[Int.toNat_natCast,gj];simp only[bind_some];rw[List.set_set,List.set_set]
theorem yCT(m:List (List Gau))(j:Nat)(v:List Gau)(hl:m.length=v.length)(hj:∀ r∈m,j < r.length/\r.length<=memMax):∀ (l done:List (List Gau)) (A B:List (List Gau)),m=done++l->A.length=done.length->B.length=l.length ->
  yJ (λ i__ e__ s__=>yKG m (j:Int) v i__ e__ s__) (λ s__=>yLg m (j:Int) v s__) (done.length:Int) l (A++B)=some (A++List.zipWith (λ row x=>row.set j x) l (v.drop done.length),())
 |[],done,A,B,hm,ha,hb=>by
  have:B=[]:=List.eq_nil_of_length_eq_zero (by simpa using hb)
  subst this;rw[y3n];simp[yLg]
 |r::l,done,A,B,hm,ha,hb=>by
  obtain ⟨b,B,rfl⟩:∃ b B',B=b::B':=by
   cases B with
   |nil=>simp at hb
   |cons b B=>exact ⟨b,B,rfl⟩
  have hd:done.length < v.length:=by rw[<- hl,hm];simp
  have hmi:m[done.length]?=some r:=by rw[hm];simp
  obtain ⟨q1,q2⟩:=hj r (by rw[hm];simp)
  rw[yk,yIr m j v done.length r v[done.length] (A++b::B) hmi (List.getElem?_eq_getElem hd) (by simp[ha]) q1 q2]
  simp only[bind_some];have hset:∀ y,(A++b::B).set done.length y=(A++[y])++B:=λ y=>by
   rw[<- ha,List.set_append_right _ _ (Nat.le_refl _)];simp
  rw[hset];have ih:=yCT m j v hl hj l (done++[r]) (A++[r.set j v[done.length]]) B (by rw[hm];simp) (by simp[ha]) (by simpa using hb)
  simp only[List.length_append,List.length_cons,List.length_nil]at ih;have hdv:v.drop done.length=v[done.length]::v.drop (done.length+1):=(List.getElem_cons_drop (h:=hd)).symm;rw[hdv,List.zipWith_cons_cons];refine (show _=_ from ih).trans ?_
  simp
theorem yMv(m:List (List Gau))(j:Nat)(v:List Gau)(hl:m.length=v.length)(h8:m.length<=8)(hj:∀ r∈m,j < r.length/\r.length<=8):zn_M m (j:Int) v=some (y60 m j v,()):=by
 have hmem:memMax=68719476736:=rfl;unfold zn_M;rw[bifT (by simp;omega),bifT (y8 (show m.length < lenMax by unfold lenMax;omega))]
 have:=yCT m j v hl (λ r hr=>⟨(hj r hr).1,by have:=(hj r hr).2;omega⟩) m [] [] (List.replicate ((m.length:Int)).toNat []) rfl rfl (by simp)
 refine (show _=_ from this).trans ?_
 rfl
theorem y7g{m:List (List Gau)}{j:Nat}{v:List Gau}(hl:m.length=v.length):(y60 m j v).length=m.length:=by
 unfold y60;rw[List.length_zipWith];omega
theorem yJW{m:List (List Gau)}{j n:Nat}{v:List Gau}(hr:∀ r∈m,r.length=n):∀ r∈y60 m j v,r.length=n:=by
 intro r h;unfold y60 at h;obtain ⟨i,hi,rfl⟩:=List.mem_iff_getElem.1 h;rw[List.getElem_zipWith,List.length_set];exact hr _ (List.getElem_mem _)
noncomputable def detQ(m:List (List Gau)):Gau:=detC m (List.range m.length)
theorem yAi(T:List Int)(l:List Con):(norW T l).length=l.length/\∀ r∈norW T l,r.length=l.length:=by
 unfold norW;refine ⟨by simp,λ r h=>?_⟩
 obtain ⟨a,_,rfl⟩:=List.mem_map.1 h;simp
end Go.Tw
