import Derived.Test.YtpcnkpbpcebokaaGreatDoorPM2
import Derived.Test.YtpcnkpbpcebokaaGreatDoorPQ
set_option linter.all false
set_option maxRecDepth 100000
namespace Go.Tw
open Go.Vx Go.Vx.B Go.Proofs
def y86(m:List (List Gau))(j:Nat)(v:List Gau):List (List Gau):=List.zipWith (λ row x=>row.set j x) m v
theorem yJX(m:List (List Gau))(j:Nat)(v:List Gau)(i:Nat)(row:List Gau)(x:Gau)(c:List (List Gau))(hm:m[i]?=some row)(hv:v[i]?=some x)(hc:i < c.length)(hj:j < row.length)(hr:row.length<=memMax) :
  yII m (j:Int) v (i:Int) row c=some (.inr (c.set i (row.set j x))):=by
 have g1:c[i]?=some c[i]:=List.getElem?_eq_getElem hc;have gj:row[j]?=some row[j]:=List.getElem?_eq_getElem hj;have s1:∀ y:List Gau,(c.set i y)[i]?=some y:=λ y=>by rw[List.getElem?_set_self hc]
 have s2:∀ y z:List Gau,((c.set i y).set i z)[i]?=some z:=λ y z=>by rw[List.getElem?_set_self (by simpa using hc)]
 unfold yII;have hmem:memMax=68719476736:=rfl;rw[bifT (by simp;omega)]
 rw[ym,g1];simp only[Option.bind_some];rw[Int.toNat_natCast,g1];simp only[Option.bind_some];rw[ym,s1];simp only[Option.bind_some];rw[ym,hm];simp only[Option.bind_some];rw[bifT (y5 (by simp)),ym,s2]
 simp only[Option.bind_some];rw[ym,hv];simp only[Option.bind_some];rw[ym,gj];simp only[Option.bind_some];rw[Int.toNat_natCast,gj];simp only[Option.bind_some];rw[List.set_set,List.set_set]
theorem yDM(m:List (List Gau))(j:Nat)(v:List Gau)(hl:m.length=v.length)(hj:∀ r∈m,j < r.length/\r.length<=memMax):∀ (l done:List (List Gau)) (A B:List (List Gau)),m=done++l->A.length=done.length->B.length=l.length ->
  yM (λ i__ e__ s__=>yII m (j:Int) v i__ e__ s__) (λ s__=>yJ1 m (j:Int) v s__) (done.length:Int) l (A++B)=some (A++List.zipWith (λ row x=>row.set j x) l (v.drop done.length),())
 |[],done,A,B,hm,ha,hb=>by
  have:B=[]:=List.eq_nil_of_length_eq_zero (by simpa using hb)
  subst this;rw[y2E];simp[yJ1]
 |r::l,done,A,B,hm,ha,hb=>by
  obtain ⟨b,B,rfl⟩:∃ b B',B=b::B':=by
   cases B with
   |nil=>simp at hb
   |cons b B=>exact ⟨b,B,rfl⟩
  have hd:done.length < v.length:=by rw[<- hl,hm];simp
  have hmi:m[done.length]?=some r:=by rw[hm];simp
  obtain ⟨q1,q2⟩:=hj r (by rw[hm];simp)
  rw[yk,yJX m j v done.length r v[done.length] (A++b::B) hmi (List.getElem?_eq_getElem hd) (by simp[ha]) q1 q2]
  simp only[Option.bind_some];have hset:∀ y,(A++b::B).set done.length y=(A++[y])++B:=λ y=>by
   rw[<- ha,List.set_append_right _ _ (Nat.le_refl _)];simp
  rw[hset];have ih:=yDM m j v hl hj l (done++[r]) (A++[r.set j v[done.length]]) B (by rw[hm];simp) (by simp[ha]) (by simpa using hb)
  simp only[List.length_append,List.length_cons,List.length_nil]at ih;have hdv:v.drop done.length=v[done.length]::v.drop (done.length+1):=(List.getElem_cons_drop (h:=hd)).symm;rw[hdv,List.zipWith_cons_cons];refine (show _=_ from ih).trans ?_
  simp
theorem yNp(m:List (List Gau))(j:Nat)(v:List Gau)(hl:m.length=v.length)(h8:m.length<=8)(hj:∀ r∈m,j < r.length/\r.length<=8):zq_M m (j:Int) v=some (y86 m j v,()):=by
 have hmem:memMax=68719476736:=rfl;unfold zq_M;rw[bifT (by simp;omega),bifT (y5 (show m.length < lenMax by unfold lenMax;omega))]
 have:=yDM m j v hl (λ r hr=>⟨(hj r hr).1,by have:=(hj r hr).2;omega⟩) m [] [] (List.replicate ((m.length:Int)).toNat []) rfl rfl (by simp)
 refine (show _=_ from this).trans ?_
 rfl
theorem yMA(m:List (List Gau))(j:Nat)(v:List Gau)(hl:m.length=v.length)(h8:m.length<=8)(hj:∀ r∈m,j < r.length/\r.length<=8):yBU m (j:Int) v=some (y86 m j v,()):=by
 have hmem:memMax=68719476736:=rfl;unfold yBU;rw[bifT (y5 (show m.length < lenMax by unfold lenMax;omega))]
 have key:∀ (l done:List (List Gau)) (c:List (List Gau)),m=done++l->c.length+l.length<=memMax ->
   yM (λ i__ e__ s__=>y9U m (j:Int) v i__ e__ s__) (λ s__=>yDK m (j:Int) v s__) (done.length:Int) l c=some (c++List.zipWith (λ row x=>row.set j x) l (v.drop done.length),()):=by
  intro l;induction l with
  |nil=>intro done c _ _;rw[y2E];simp[yDK]
  |cons r l ih =>
   intro done c hm hc;simp only[List.length_cons]at hc;have hd:done.length < v.length:=by rw[<- hl,hm];simp
   obtain ⟨q1,q2⟩:=hj r (by rw[hm];simp)
   have hb:y9U m (j:Int) v (done.length:Int) r c=some (.inr (c++[r.set j v[done.length]])):=by
    unfold y9U;rw[bifT (y5 (by omega)),ym,List.getElem?_eq_getElem hd]
    simp only[Option.bind_some];rw[ym,List.getElem?_eq_getElem q1];simp only[Option.bind_some];rw[Int.toNat_natCast,List.getElem?_eq_getElem q1];simp only[Option.bind_some];rw[bifT (y5 (by omega))]
   rw[yk,hb];simp only[Option.bind_some];have:=ih (done++[r]) (c++[r.set j v[done.length]]) (by rw[hm];simp) (by simp;omega)
   simp only[List.length_append,List.length_cons,List.length_nil]at this;have hdv:v.drop done.length=v[done.length]::v.drop (done.length+1):=(List.getElem_cons_drop (h:=hd)).symm;rw[hdv,List.zipWith_cons_cons];refine (show _=_ from this).trans ?_
   simp
 have:=key m [] [] rfl (by simp;omega)
 exact this
theorem y5E{m:List (List Gau)}{j:Nat}{v:List Gau}(hl:m.length=v.length):(y86 m j v).length=m.length:=by
 unfold y86;rw[List.length_zipWith];omega
theorem yDI{m:List (List Gau)}{j n:Nat}{v:List Gau}(hr:∀ r∈m,r.length=n):∀ r∈y86 m j v,r.length=n:=by
 intro r h;unfold y86 at h;obtain ⟨i,hi,rfl⟩:=List.mem_iff_getElem.1 h;rw[List.getElem_zipWith,List.length_set];exact hr _ (List.getElem_mem _)
noncomputable def detQ(m:List (List Gau)):Gau:=detC m (List.range m.length)
theorem ySh(r:List Gau):selC (List.range r.length) r=r:=by
 unfold selC;have:=y5J r id G0;simpa using this
theorem yS4{m:List (List Gau)}(hn:m.length<=4)(hr:∀ r∈m,r.length=m.length):yz 8 (m,())=some (detQ m,()):=by
 have h:=yKI m (List.range m.length) 8 (by simp) hn (by omega)
 have e:m.map (selC (List.range m.length))=m:=by
  conv=>rhs;rw[<- List.map_id m]
  refine List.map_congr_left λ r hr2=>?_
  have:=ySh r;rw[hr r hr2]at this;exact this
 rw[e]at h;exact h
theorem y81(T:List Int)(l:List Con):(norW T l).length=l.length/\∀ r∈norW T l,r.length=l.length:=by
 unfold norW;refine ⟨by simp,λ r h=>?_⟩
 obtain ⟨a,_,rfl⟩:=List.mem_map.1 h;simp
end Go.Tw
