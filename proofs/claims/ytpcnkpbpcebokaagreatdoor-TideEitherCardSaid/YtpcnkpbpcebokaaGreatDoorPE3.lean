import Derived.Test.YtpcnkpbpcebokaaGreatDoorPE1
import Derived.Test.YtpcnkpbpcebokaaGreatDoorPE2
set_option linter.all false
set_option maxRecDepth 100000
open List (length_map mem_map)
namespace Go.Tw
open Go.Vx Go.Vx.B Go.Proofs
theorem yNx{M:Int}(hM:0<=M)(t:Int):∀ (l:List Con) (v:List Gau) (acc:Gau) (B:Int),v.length=l.length->(∀ z∈v,bd M z)->bd B acc->0<=B->B+l.length * (2 * M) < 9223372036854775807->sumV l v t acc=addX acc (lc v (l.map chr) t)
 |[],v,acc,B,_,_,_,_,_=>by
  rw[List.map_nil,yGD,y0F];unfold sumV;rfl
 |c::l,[],acc,B,h,_,_,_,_=>by simp at h
 |c::l,z::v,acc,B,h,hv,ha,hB,hb=>by
  simp only[List.length_cons,Nat.add_right_cancel_iff]at h;simp only[List.length_cons]at hb;have hz:=hv z (by simp)
  have hl0:(0:Int)<=(l.length:Int) * (2 * M):=Int.mul_nonneg (by omega) (by omega)
  have hx:((l.length+1:Nat):Int) * (2 * M)=(l.length:Int) * (2 * M)+2 * M:=by
   rw[Int.natCast_add,Int.add_mul];simp
  rw[hx]at hb;have hp:(z12 z (chr c t)).1=mulX z (chr c t):=yE4 hz (yNi c t) (by omega)
  have hpb:bd (2 * M) (mulX z (chr c t)):=by
   have:=yIm hz (yNi c t);exact y83 this (by omega)
  have hq:(z1A acc (mulX z (chr c t))).1=addX acc (mulX z (chr c t)):=yJb ha hpb (by omega)
  show sumV l v t (z1A acc (z12 z (chr c t)).1).1=addX acc (addX (mulX z (chr c t)) (lc v (l.map chr) t))
  rw[hp,hq,yNx hM t l v (addX acc (mulX z (chr c t))) (B+2 * M) h (λ y hy=>hv y (by simp[hy])) (yC3 ha hpb) (by omega) (by omega),y5w]
theorem yFd(f:Nat->Gau)(n:Nat):∀ k:Nat,k<=n->(List.range k).foldl (λ o j=>o.set j (f j)) (List.replicate n G0)=(List.range k).map f++List.replicate (n - k) G0
 |0,_=>by simp
 |k+1,h=>by
  rw[List.range_succ,List.foldl_append,yFd f n k (by omega),List.foldl_cons,List.foldl_nil,List.map_append,List.map_cons,List.map_nil,List.set_append_right _ _ (by simp)]
  have e:n - k=(n - (k+1))+1:=by omega
  rw[e,List.replicate_succ];simp
theorem yQ8(f:Nat->Gau)(n k:Nat)(h:k < n)(x:Gau):((List.range k).map f++List.replicate (n - k) G0).set k x=(List.range k).map f++[x]++List.replicate (n - (k+1)) G0:=by
 rw[List.set_append_right _ _ (by simp)]
 have e:n - k=(n - (k+1))+1:=by omega
 rw[e,List.replicate_succ];simp
theorem yI4(m:List (List Gau))(j:Nat)(b:List Gau):y60 m j b=putX b j m:=rfl
theorem ySR:bdD 12 4=7962624:=by decide
theorem yOd{T:List Int}(hT:T.length<=12)(l:List Con):norW T l=gm T (l.map chr)/\∀ q∈norW T l,∀ z∈q,bd 12 z:=by
 refine ⟨yJc (T:=T) (by omega) l,λ q hq z hz=>?_⟩
 unfold norW at hq;obtain ⟨a,_,rfl⟩:=mem_map.1 hq;obtain ⟨b,_,rfl⟩:=mem_map.1 hz;obtain ⟨i1,i2⟩:=y4J (T:=T) (by omega) a b
 rw[i1];exact y83 i2 (by omega)
theorem y8B{m:List (List Gau)}(hl:m.length<=3)(h:∀ q∈m,∀ z∈q,bd 12 z):detQ m=detX m (List.range m.length)/\bd 82944 (detQ m):=by
 obtain ⟨x1,x2⟩:=yIz (m:=12) (by decide) (by rw[ySR];decide) (by decide) m (List.range m.length) (by simp) (by omega) h
 have e:detQ m=detX m (List.range m.length):=x1;refine ⟨e,?_⟩;rw[e];refine y83 x2 ?_
 rcases (show m.length=0\/m.length=1\/m.length=2\/m.length=3 by omega)with q|q|q|q<;>rw[q]<;>decide
theorem yOI{r:Rec}(hT:(tks r).length<=12){l:List Con}(hl:l.length<=4){k:Nat}(hk:k < l.length)(c:Con) :
  kerO r l k c=y92 (tks r) ((l.take k).map chr) (chr c)++[negX (DX (tks r) ((l.take k).map chr))]++List.replicate (l.length - (k+1)) G0/\∀ z∈kerO r l k c,bd 82944 z:=by
 have hlt:(l.take k).length=k:=by rw[List.length_take];omega
 obtain ⟨n1,n2⟩:=yOd hT (l.take k);have hgl:(norW (tks r) (l.take k)).length=k:=by rw[n1];unfold gm;simp;omega
 have hcol:((l.take k).map λ a=>innW (tks r) a c)=((l.take k).map chr).map λ a=>ip (tks r) a (chr c):=by
  rw[List.map_map];exact List.map_congr_left λ a _=>(y4J (by omega) a c).1
 have hcb:∀ z∈(l.take k).map (λ a=>innW (tks r) a c),bd 12 z:=λ z hz=>by
  obtain ⟨a,_,rfl⟩:=mem_map.1 hz;obtain ⟨i1,i2⟩:=y4J (T:=tks r) (by omega) a c
  rw[i1];exact y83 i2 (by omega)
 have hwl:∀ j,(y60 (norW (tks r) (l.take k)) j ((l.take k).map λ a=>innW (tks r) a c)).length=k:=λ j=>by
  rw[y7g (by simp[hgl];omega),hgl]
 have hwb:∀ j,∀ q∈y60 (norW (tks r) (l.take k)) j ((l.take k).map λ a=>innW (tks r) a c),∀ z∈q,bd 12 z:=λ j q hq z hz=>by
  unfold y60 at hq;obtain ⟨i,hi,rfl⟩:=List.mem_iff_getElem.1 hq;rw[List.getElem_zipWith]at hz;rcases List.mem_or_eq_of_mem_set hz with h|h
  ·exact n2 _ (List.getElem_mem _) z h
  ·rw[h];exact hcb _ (List.getElem_mem _)
 have hd:=y8B (m:=norW (tks r) (l.take k)) (by omega) n2
 have hdD:detQ (norW (tks r) (l.take k))=DX (tks r) ((l.take k).map chr):=by
  rw[hd.1,n1];unfold DX;rw[show (gm (tks r) ((l.take k).map chr)).length=((l.take k).map chr).length by unfold gm;simp]
 have hneg:(z0f (detQ (norW (tks r) (l.take k))) (-1)).1=negX (DX (tks r) ((l.take k).map chr)):=by
  rw[yFl hd.2 (.inr rfl) (by decide),hdD]
  exact yF (by simp only[sgnX,negX];omega) (by simp only[sgnX,negX];omega)
 have hw:∀ j,detQ (y60 (norW (tks r) (l.take k)) j ((l.take k).map λ a=>innW (tks r) a c))=detX (putX (((l.take k).map chr).map λ a=>ip (tks r) a (chr c)) j (gm (tks r) ((l.take k).map chr))) (List.range ((l.take k).map chr).length):=λ j=>by
  rw[(y8B (by rw[hwl];omega) (hwb j)).1,hwl,hcol,n1,yI4,length_map,hlt]
 have e:kerO r l k c=y92 (tks r) ((l.take k).map chr) (chr c)++[negX (DX (tks r) ((l.take k).map chr))]++List.replicate (l.length - (k+1)) G0:=by
  unfold kerO;rw[yFd _ _ _ (by omega),yQ8 _ _ _ hk,hneg]
  unfold y92;rw[length_map,hlt];congr 2
  exact List.map_congr_left λ j _=>by rw[hw j,length_map,hlt]
 refine ⟨e,λ z hz=>?_⟩
 rw[e]at hz;rcases List.mem_append.1 hz with hz|hz
 ·rcases List.mem_append.1 hz with hz|hz
  ·unfold y92 at hz;obtain ⟨j,_,rfl⟩:=mem_map.1 hz;rw[<- hw j];exact (y8B (by rw[hwl];omega) (hwb j)).2
  ·rw[List.mem_singleton.1 hz,<- hdD];exact yQT hd.2
 ·rw[List.eq_of_mem_replicate hz];exact yMh (by decide)
end Go.Tw
