import Derived.Test.YtpcnkpbpcebokaaGreatDoorPE3
set_option linter.all false
set_option maxRecDepth 100000
open List (map_append map_cons)
namespace Go.Tw
open Go.Vx Go.Vx.B Go.Proofs
theorem y9M(q:Nat->Bool)(n:Nat):∀ m k0:Nat,k0+m=n->(∀ j,j < k0->q j=false) ->
  (∀ k,((List.range n).drop k0).find? q=some k->k < n/\q k=true/\∀ j,j < k->q j=false)/\(((List.range n).drop k0).find? q=none->∀ j,j < n->q j=false)
 |0,k0,h,hj=>by
  rw[y6K q n k0 0 h,if_neg (by omega)]
  exact ⟨λ k hk=>(by cases hk),λ _ j hjn=>hj j (by omega)⟩
 |m+1,k0,h,hj=>by
  rw[y6K q n k0 (m+1) h,if_pos (by omega)]
  by_cases hq:q k0=true
  ·rw[if_pos hq];exact ⟨λ k hk=>by cases hk;exact ⟨by omega,hq,hj⟩,λ hk=>(by cases hk)⟩
  ·rw[if_neg hq];exact y9M q n m (k0+1) (by omega) λ j hjk=>by
    by_cases e:j=k0
    ·rw[e];exact Bool.eq_false_iff.2 hq
    ·exact hj j (by omega)
theorem yCk{r:Rec}(hT:(tks r).length<=12){l:List Con}(hl:l.length<=4) :
  ((kerV r l).2.1=0/\Dep (tks r) (l.map chr)/\(kerV r l).1.length=l.length/\(∀ z∈(kerV r l).1,bd 82944 z)/\(∃ z∈(kerV r l).1,z≠G0)/\∀ t∈tks r,lc (kerV r l).1 (l.map chr) t=G0)\/((kerV r l).2.1=7/\(kerV r l).1=[]/\¬ Dep (tks r) (l.map chr)):=by
 obtain ⟨f1,f2⟩:=y9M (λ k=>denA r (l.take (k+1)) == 0) l.length l.length 0 (by omega) (λ j hj=>by omega)
 rw[List.drop_zero]at f1 f2;have hq:∀ k,k < l.length->((denA r (l.take (k+1)) == 0)=true ↔ Dep (tks r) ((l.take (k+1)).map chr)):=λ k hk=>by
  obtain ⟨d1,d2⟩:=yEO (r:=r) (by omega) (l:=l.take (k+1)) (by rw[List.length_take];omega)
  rw[<- d2];simp
 cases hf:(List.range l.length).find? (λ k=>denA r (l.take (k+1)) == 0)with
 |none =>
  right
  have e:kerV r l=([],7,()):=by
   unfold kerV;rw[hf]
  rw[e];refine ⟨rfl,rfl,λ hd=>?_⟩
  cases hl0:l.length with
  |zero =>
   rw[List.eq_nil_of_length_eq_zero hl0]at hd;exact y4l _ hd
  |succ n =>
   have h1:=f2 hf n (by omega)
   have h2:=(hq n (by omega)).2 (by rw[List.take_of_length_le (by omega)];exact hd)
   rw[h1]at h2;cases h2
 |some k =>
  left
  obtain ⟨k1,k2,k3⟩:=f1 k hf;have e:kerV r l=(kerO r l k l[k],0,()):=by
   unfold kerV;rw[hf];show (kerO r l k ((l[k]?).getD ([],0,0,())),0,())=_
   rw[List.getElem?_eq_getElem k1];rfl
  have hd1:Dep (tks r) ((l.take (k+1)).map chr):=(hq k k1).1 k2;have htk:l.take (k+1)=l.take k++[l[k]]:=by rw[List.take_succ,List.getElem?_eq_getElem k1];rfl
  have hnd:¬ Dep (tks r) ((l.take k).map chr):=by
   cases k with
   |zero=>exact y4l _
   |succ j =>
    intro hh;have h1:=k3 j (by omega)
    have h2:=(hq j (by omega)).2 hh
    rw[h1]at h2;cases h2
  have hlt:(l.take k).length=k:=by rw[List.length_take];omega
  have hspl:l.map chr=((l.take k).map chr++[chr l[k]])++(l.drop (k+1)).map chr:=by
   rw[show (l.take k).map chr++[chr l[k]]=(l.take k++[l[k]]).map chr by rw[map_append,map_cons,List.map_nil],<- htk,<- map_append,List.take_append_drop]
  obtain ⟨x1,x2⟩:=yOI hT hl k1 l[k];have hd2:Dep (tks r) ((l.take k).map chr++[chr l[k]]):=by
   rw[show (l.take k).map chr++[chr l[k]]=(l.take k++[l[k]]).map chr by rw[map_append,map_cons,List.map_nil],<- htk]
   exact hd1
  rw[e];refine ⟨rfl,?_,yN9 r l k _,x2,?_,λ t ht=>?_⟩
  ·rw[hspl];exact hd2.more _
  ·refine ⟨negX (DX (tks r) ((l.take k).map chr)),?_,λ h0=>?_⟩
   ·show _∈kerO r l k l[k]
    rw[x1];simp
   ·obtain ⟨D,g1,_,g3⟩:=gram (tks r) ((l.take k).map chr) (by simp;omega)
    rw[g1]at h0;have h1:-D=0:=congrArg (λ z:Gau=>z.1) h0
    exact hnd (g3.1 (by omega))
  ·show lc (kerO r l k l[k]) (l.map chr) t=G0
   have hz:=yKC (T:=tks r) (v:=(l.take k).map chr) (f:=chr l[k]) (by simp;omega) hnd hd2 t ht
   rw[x1,hspl,y6h t _ _ _ _ (by unfold y92;simp),hz,show l.length - (k+1)=((l.drop (k+1)).map chr).length by simp,yEw]
   rfl
theorem yIK{z:Gau}(h:bd 8796093022208 z):y5K z=0:=by
 unfold bd at h;unfold y5K ckR;rw[yS,yS,y0s];simp only[yP];have h1:¬ z.1 < -8796093022208:=by omega
 have h2:¬ z.1 > 8796093022208:=by omega
 have h3:¬ z.2.1 < -8796093022208:=by omega
 have h4:¬ z.2.1 > 8796093022208:=by omega
 simp[h1,h2,h3,h4]
theorem yBg(z:Gau):nzG z=true ↔ z≠G0:=by
 unfold nzG;show (!((z.1 == 0) && ((z.2.1 == 0) && true)))=true ↔ z≠G0
 constructor
 ·intro h h0;rw[h0]at h;cases h
 ·intro h;by_cases h1:z.1=0
  ·by_cases h2:z.2.1=0
   ·exact absurd (yF h1 h2) h
   ·simp[h2]
  ·simp[h1]
theorem yCf{r:Rec}{l:List Con}{v:List Gau}(hl:l.length<=4)(h1:v.length=l.length)(h2:∀ z∈v,bd 8796093022208 z)(h3:∀ t∈tks r,lc v (l.map chr) t=G0):yKp r l v=if v.any nzG then 0 else 6:=by
 unfold yKp;have e1:y08 (v.map y5K)=0:=by
  clear h1 h3;induction v with
  |nil=>rfl
  |cons z v ih =>
   rw[map_cons,yS,yIK (h2 z (by simp)),yR]
   exact ih λ y hy=>h2 y (by simp[hy])
 rw[if_pos h1,yR,e1,yR];cases v.any nzG with
 |false=>rfl
 |true =>
  rw[if_pos rfl,if_pos rfl];unfold kerF;rw[if_pos];rw[List.all_eq_true];intro t ht;have hs:sumV l v t (0,0,())=G0:=by
   have hln:(l.length:Int) * (2 * 8796093022208)<=4 * (2 * 8796093022208):=Int.mul_le_mul_of_nonneg_right (by omega) (by omega)
   rw[yNx (M:=8796093022208) (by decide) t l v (0,0,()) 0 h1 h2 (by unfold bd;simp) (by decide) (by omega),h3 t ht]
   rfl
  rw[hs];rfl
end Go.Tw
