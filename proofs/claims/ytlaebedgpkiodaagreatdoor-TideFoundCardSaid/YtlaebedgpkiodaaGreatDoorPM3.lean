import Derived.Test.YtlaebedgpkiodaaGreatDoorPM2
import Derived.Test.YtlaebedgpkiodaaGreatDoorPQ
set_option linter.all false
set_option maxRecDepth 100000
open Option (bind_some)
namespace Go.Tw
open Go.Vx Go.Vx.B Go.Proofs
def y8z(m:List (List Gau))(j:Nat)(v:List Gau):List (List Gau):=List.zipWith (λ row x=>row.set j x) m v
theorem yLs(m:List (List Gau))(j:Nat)(v:List Gau)(i:Nat)(row:List Gau)(x:Gau)(c:List (List Gau))(hm:m[i]?=some row)(hv:v[i]?=some x)(hc:i < c.length)(hj:j < row.length)(hr:row.length<=memMax) :
  yKb m (j:Int) v (i:Int) row c=some (.inr (c.set i (row.set j x))):=by
 have g1:c[i]?=some c[i]:=List.getElem?_eq_getElem hc;have gj:row[j]?=some row[j]:=List.getElem?_eq_getElem hj;have s1:∀ y:List Gau,(c.set i y)[i]?=some y:=λ y=>by rw[List.getElem?_set_self hc]
 have s2:∀ y z:List Gau,((c.set i y).set i z)[i]?=some z:=λ y z=>by rw[List.getElem?_set_self (by simpa using hc)]
 unfold yKb;have hmem:memMax=68719476736:=rfl;rw[bifT (by simp;omega)]
 rw[y17,g1];simp only[bind_some];rw[Int.toNat_natCast,g1];simp only[bind_some];rw[y17,s1];simp only[bind_some];rw[y17,hm];simp only[bind_some];rw[bifT (yB (by simp)),y17,s2]
 simp only[bind_some];rw[y17,hv];simp only[bind_some];rw[y17,gj];simp only[bind_some];rw[Int.toNat_natCast,gj];simp only[bind_some];rw[List.set_set,List.set_set]
theorem yCf(m:List (List Gau))(j:Nat)(v:List Gau)(hl:m.length=v.length)(hj:∀ r∈m,j < r.length/\r.length<=memMax):∀ (l done:List (List Gau)) (A B:List (List Gau)),m=done++l->A.length=done.length->B.length=l.length ->
  yL (λ i__ e__ s__=>yKb m (j:Int) v i__ e__ s__) (λ s__=>yMe m (j:Int) v s__) (done.length:Int) l (A++B)=some (A++List.zipWith (λ row x=>row.set j x) l (v.drop done.length),())
 |[],done,A,B,hm,ha,hb=>by
  have:B=[]:=List.eq_nil_of_length_eq_zero (by simpa using hb)
  subst this;rw[y3w];simp[yMe]
 |r::l,done,A,B,hm,ha,hb=>by
  obtain ⟨b,B,rfl⟩:∃ b B',B=b::B':=by
   cases B with
   |nil=>simp at hb
   |cons b B=>exact ⟨b,B,rfl⟩
  have hd:done.length < v.length:=by rw[<- hl,hm];simp
  have hmi:m[done.length]?=some r:=by rw[hm];simp
  obtain ⟨q1,q2⟩:=hj r (by rw[hm];simp)
  rw[ya,yLs m j v done.length r v[done.length] (A++b::B) hmi (List.getElem?_eq_getElem hd) (by simp[ha]) q1 q2]
  simp only[bind_some];have hset:∀ y,(A++b::B).set done.length y=(A++[y])++B:=λ y=>by
   rw[<- ha,List.set_append_right _ _ (Nat.le_refl _)];simp
  rw[hset];have ih:=yCf m j v hl hj l (done++[r]) (A++[r.set j v[done.length]]) B (by rw[hm];simp) (by simp[ha]) (by simpa using hb)
  simp only[List.length_append,List.length_cons,List.length_nil]at ih;have hdv:v.drop done.length=v[done.length]::v.drop (done.length+1):=(List.getElem_cons_drop (h:=hd)).symm;rw[hdv,List.zipWith_cons_cons];refine (show _=_ from ih).trans ?_
  simp
theorem yNl(m:List (List Gau))(j:Nat)(v:List Gau)(hl:m.length=v.length)(h8:m.length<=8)(hj:∀ r∈m,j < r.length/\r.length<=8):zd_M m (j:Int) v=some (y8z m j v,()):=by
 have hmem:memMax=68719476736:=rfl;unfold zd_M;rw[bifT (by simp;omega),bifT (yB (show m.length < lenMax by unfold lenMax;omega))]
 have:=yCf m j v hl (λ r hr=>⟨(hj r hr).1,by have:=(hj r hr).2;omega⟩) m [] [] (List.replicate ((m.length:Int)).toNat []) rfl rfl (by simp)
 refine (show _=_ from this).trans ?_
 rfl
theorem yDV{m:List (List Gau)}{j:Nat}{v:List Gau}(hl:m.length=v.length):(y8z m j v).length=m.length:=by
 unfold y8z;rw[List.length_zipWith];omega
theorem yKn{m:List (List Gau)}{j n:Nat}{v:List Gau}(hr:∀ r∈m,r.length=n):∀ r∈y8z m j v,r.length=n:=by
 intro r h;unfold y8z at h;obtain ⟨i,hi,rfl⟩:=List.mem_iff_getElem.1 h;rw[List.getElem_zipWith,List.length_set];exact hr _ (List.getElem_mem _)
noncomputable def detQ(m:List (List Gau)):Gau:=detC m (List.range m.length)
theorem yEl(T:List Int)(l:List Con):(norW T l).length=l.length/\∀ r∈norW T l,r.length=l.length:=by
 unfold norW;refine ⟨by simp,λ r h=>?_⟩
 obtain ⟨a,_,rfl⟩:=List.mem_map.1 h;simp
noncomputable def solS(c:Con)(st:Int)(s:Int×Int)(q:Int×Nat):Int×Int:=
 let z:=(z0m (s.1,s.2,()) (z0N (zr (chr c (st+q.1))).1 (sx q.2)).1).1;(z.1,z.2.1)
noncomputable def solW(r:Rec)(c:Con):Gau:=let s:=(recd r.2.2.2.1 0 r.2.2.1).foldl (solS c r.2.1) (0,0);(s.1,s.2,())
theorem yPn{r:Rec}(h:okR r){c:Con}(hc:y45 c):yIU c r=some (solW r c,()):=by
 have hl:=h.len;have hs:=h.start;unfold yIU;rw[bifT (yB (show r.2.2.1.length < lenMax by unfold lenMax;omega))]
 refine (y5z h (λ s:Int×Int=>some ((s.1,s.2,()),())) (λ i x s=>some (.inr (solS c r.2.1 s (i,x)))) (λ g s=>rfl) (λ i x g s hi hx hg=>?_) (0,0)).trans ?_
 ·dsimp only;unfold yKM;refine (y3A (i:=(i:Int)) (λ g=>rfl) g wMax hg).trans ?_
  generalize g.dropWhile (λ s=>decide (s.2.1<=(i:Int)))=g'
  unfold yBo;rw[y6M,y4U hx];simp only[bind_some];rw[yw (i:=r.2.1+(i:Int)) (by omega) (by omega),yMs hc ⟨by omega,by omega⟩]
  rfl
 ·rw[y3E (λ s (q:Int×Nat)=>solS c r.2.1 s q) _ _ _ λ i e s _=>rfl]
  rfl
theorem yDe{r:Rec}(h:okR r){l:List Con}(hl:l.length<=4)(hc:∀ c∈l,y45 c) :
  yIE r l=some ((List.range l.length).map (λ j=>detQ (y8z (norW (tks r) l) j (l.map (solW r)))),l.map (solW r),(detQ (norW (tks r) l)).1,()):=by
 have hmem:memMax=68719476736:=rfl;obtain ⟨n1,n2⟩:=yEl (tks r) l;have hdet:∀ m:List (List Gau),m.length<=4->(∀ q∈m,q.length=m.length)->zK_M m=some (detQ m,()):=λ m h1 h2=>yLX m h1 h2
 unfold yIE zA_M;rw[bifT (yB (show l.length < lenMax by unfold lenMax;omega)),y0p (solW r) l 0 [] (by simp;omega) λ i c s hcl hs=>by
  unfold yNF;show Option.bind (yIU c r) _=_
  rw[yPn h (hc c hcl)];simp only[bind_some];rw[bifT (yB hs)]]
 unfold yQ7;rw[List.nil_append];simp only[bind_some];rw[yAM h (by omega) hc]
 simp only[bind_some];rw[bifT (yB (by omega)),show ((l.length:Int) - 0).toNat=l.length by omega]
 rw[y8U (λ j=>detQ (y8z (norW (tks r) l) j.toNat (l.map (solW r)))) l.length 0 [] (by simp;omega) λ j s hj hs=>by
  unfold yKo;rw[show (0:Int)+(j:Int)=(j:Int) by omega,yNl _ j _ (by simp[n1]) (by omega) (λ q hq=>by have:=n2 q hq;omega)]
  simp only[bind_some];rw[hdet _ (by rw[yDV (by simp[n1])];omega) (λ q hq=>by rw[yDV (by simp[n1]),n1];exact yKn n2 q hq)]
  simp only[bind_some];rw[bifT (yB hs),Int.toNat_natCast]]
 unfold yLb;rw[List.nil_append,hdet _ (by omega) (λ q hq=>by rw[n1];exact n2 q hq)]
 simp only[bind_some];congr 2
 refine List.map_congr_left λ k _=>?_
 rw[show ((0:Int)+(k:Int)).toNat=k by omega]
end Go.Tw
