import Derived.Test.YtlaebedgpkiodaaGreatDoorPH2
import Derived.Test.YtlaebedgpkiodaaGreatDoorPB
import Derived.Test.YtlaebedgpkiodaaGreatDoorPM4
import Derived.Test.YtlaebedgpkiodaaGreatDoorBFo
set_option linter.all false
set_option maxRecDepth 100000
open List (mem_append mem_singleton)
open Option (bind_some)
open Go.IntKind (i64)
namespace Go.Tw
open Go.Vx Go.Vx.B Go.Proofs Ieee
theorem yDc:∀ l:List Gau,(∀ z∈l,bd 100 z)->y0I (l.map y2x)=0
 |[],_=>rfl
 |z::l,h=>by
  have hz:=h z (by simp)
  unfold bd at hz;have e:y2x z=0:=by
   unfold y2x ckR;rw[if_neg (by omega),if_neg (by omega)]
   rfl
  rw[List.map_cons,yU,e,yX];exact yDc l λ y hy=>h y (by simp[hy])
theorem yMJ(l:List Gau):comG l 1=1:=by
 have h1:=(yG1 l 1).1;have h2:=yGL l 1 (by decide)
 exact Int.eq_one_of_dvd_one (Int.le_of_lt h2) h1
theorem yLo(a b:Int):eqV ((Ty.int i64).pair ((Ty.int i64).pair Ty.unit)) (a,b,()) (a,b,())=true:=by
 show ((a == a) && ((b == b) && true))=true
 simp
theorem yKu{l:List Con}{A:List Gau}(hck:y26 l=0)(hA:A.length=l.length)(hb:∀ z∈A,bd 100 z):y3F (l,A,1,())=0:=by
 unfold y3F;simp only;rw[hck,yX,if_pos hA,yX,yDc A hb,yMJ,if_pos rfl];rfl
section
variable {n:Nat} {V:Nat->Int} (hn:n<=16) (hV:∀ k,k < n->-400<=V k/\V k<=400) {st:Int} (hst:0<=st/\st<=65535)
 {l:List Con} {A:List Gau} (hck:y26 l=0) (hnl:∀ c∈l,c.1.length < lenMax) (hA:A.length=l.length) (hb:∀ z∈A,bd 100 z)
 (hval:∀ k,k < n->lc A (l.map chr) (st+(k:Int))=(V k,0,()))
include hn hV hst hck hnl hA hb hval
theorem yRP{c:List Nat}{G:List Nat}(hi:Inv n V c G)(x5:List Int)(i:Int)(hin:(n:Int)<=i):y5a x5 n l A 1 nmF st i c (G.map gp)=some (.inl (.inl (true,()))):=by
 have hmem:memMax=68719476736:=rfl;have hlm:lenMax=9223372036854775808:=rfl;have hl:=hi.len;have hgl:=yBj G n hi.pw hi.lt;obtain ⟨c1,c2,c3⟩:=y3N hck;have hr:=yKv hi hn hV hst;have hlow:=yQP hi hn hV hst;have htl:=yJa (nmF,st,c,G.map gp,());simp only at htl;have hrT:y8R (nmF,st,c,G.map gp,())=0:=by
  unfold y8R;rw[hr,yX,if_neg (by omega)]
 have hT:y4z (nmF,st,c,G.map gp,()) l=0:=by
  unfold y4z;rw[hrT,yX,hck]
 have hf:∀ t∈tks (nmF,st,c,G.map gp,()),levF (nmF,st,c,G.map gp,()) t=lc A (l.map chr) t:=λ t ht=>by
  obtain ⟨k,k1,k2,k3⟩:=yQU hi hn hV hst ht;rw[k3,k2,hval k k1]
 obtain ⟨f1,f2⟩:=yIr hlow c2 hA hb hf;have b1:(nmF:List UInt8).length < lenMax:=by rw[hlm];decide
 have b2:c.length < lenMax:=by omega
 have b3:(G.map gp).length < lenMax:=by rw[List.length_map];omega
 have b4:l.length < lenMax:=by omega
 have b5:A.length<=memMax:=by omega
 unfold y5a;rw[bifF (yK (by omega)),bifT (yB (by omega)),yP1 (r:=(nmF,st,c,G.map gp,())) b1 b2 b3 hnl b4,if_pos hT]
 simp only[bind_some];by_cases h0:denA (nmF,st,c,G.map gp,()) l=0
 ·have hD:zb_M (nmF,st,c,G.map gp,()) l=some (denA (nmF,st,c,G.map gp,()) l,0,()):=by
   unfold zb_M zb_m;rw[y6a (nmF,st,c,G.map gp,()) l b1 b2 b3 hnl b4];simp only[bind_some];obtain ⟨n1,n2⟩:=yEl (tks (nmF,st,c,G.map gp,())) l;rw[bifF (by simp[hT]),yAM hlow.ok (by omega) c3]
   simp only[bind_some];rw[yLX _ (by omega) (λ q hq=>by rw[n1];exact n2 q hq)]
   rfl
  unfold anaV;rw[if_pos h0,bifT (by rfl),bifT (yB (by omega)),hD,h0]
  rfl
 ·obtain ⟨g1,g2⟩:=f1 h0;have hE:resE (nmF,st,c,G.map gp,()) (l,A,1,())=0:=by
   have hs:y42 (l,A,1,())=true:=by
    unfold y42;rw[Bool.and_eq_true,List.all_eq_true];exact ⟨λ z hz=>yFv (y6Z (hb z hz) (by decide)),yB (show (1:Int)<=4096 by decide)⟩
   unfold resE;rw[hrT,yX,yKu hck hA hb,yX,if_pos hs]
  rw[g1,bifF (by rfl),bifT (yB (by omega)),yQ8 (r:=(nmF,st,c,G.map gp,())) b1 b2 b3 hnl b4,if_pos hT,g2]
  simp only[bind_some];rw[yQQ (r:=(nmF,st,c,G.map gp,())) (t:=(l,A,1,())) b1 b2 b3 hnl b4 b5,if_pos hE,f2];simp only[bind_some];rw[bifT (by rfl),bifT (by rfl),bifT (by rfl),yMU (l,A,1,()) (by simp only;omega)]
  simp only[bind_some];rw[yJ2 (l,A,1,()) (by simp only;omega) (by simp only;omega)]
  simp only[bind_some];rw[bifT (by rfl),bifT (yLo 0 1),yLo 0 1]
theorem yGV{x5:List Int}{b5:Int}(h5:idx x5 5=some b5):∀ (m i:Nat) (c G:List Nat),Inv n V c G->(∀ g∈G,g+3<=i)->i < n+3->n+3<=i+3 * m ->
  y1H (λ s__=>y5a x5 n l A 1 nmF st s__.1 s__.2.1 s__.2.2) m ((i:Int),c,G.map gp)=some (.inl (true,()))
 |0,i,c,G,_,_,h1,h2=>by omega
 |m+1,i,c,G,hi,hg,h1,h2=>by
  have hmem:memMax=68719476736:=rfl;show (y5a x5 n l A 1 nmF st (i:Int) c (G.map gp)).bind _=_
  by_cases hin:n<=i
  ·rw[yRP hn hV hst hck hnl hA hb hval hi x5 i (by omega)]
   rfl
  ·have step:∃ c' G',y5a x5 n l A 1 nmF st (i:Int) c (G.map gp)=some (.inr (((i+3:Nat):Int),c',G'.map gp))/\Inv n V c' G'/\∀ g∈G',g+3<=i+3:=by
    have hl:=hi.len;have hgl:=yBj G n hi.pw hi.lt;have e1:idx c (i:Int)=some (c[i]'(by omega)):=by rw[y17];exact List.getElem?_eq_getElem (by omega)
    have e2:c[((i:Int)).toNat]?=some (c[i]'(by omega)):=by rw[Int.toNat_natCast];exact List.getElem?_eq_getElem (by omega)
    have e3:i64.wrap ((i:Int)+3)=((i+3:Nat):Int):=by rw[yw (by omega) (by omega)];omega
    have e4:i64.wrap ((i:Int)+1)=(i:Int)+1:=yw (by omega) (by omega)
    have e5:0<=(i:Int).tdiv 3/\(i:Int).tdiv 3<=i:=by
     rw[Int.tdiv_eq_ediv_of_nonneg (by omega)]
     omega
    unfold y5a;rw[bifT (yB (by omega)),h5]
    simp only[bind_some];rw[bifF (yK (by rw[yw (by omega) (by omega)];omega)),e1,e2,e3,e4]
    simp only[bind_some];rw[bifT (yB (show (G.map gp).length+1<=memMax by rw[List.length_map];omega))]
    generalize (y2q i64 BinOp.and ((i64.wrap b5).fdiv ((2:Int) ^ Min.min (i64.wrap ((i:Int).tdiv (3:Int))).toNat i64.bits)) (1:Int) == (1:Int))=q;cases q with
    |false=>exact ⟨c,G,rfl,hi,λ g hg'=>by have:=hg g hg';omega⟩
    |true =>
     refine ⟨c.set i 0,G++[i],?_,⟨by rw[List.length_set];exact hl,λ k hk=>?_,?_,?_⟩,?_⟩
     ·rw[cond_true,List.map_append,Int.toNat_natCast];rfl
     ·rw[List.getElem?_set];by_cases hik:i=k
      ·subst hik;rw[if_pos rfl,if_pos (by omega),if_pos (by simp)]
      ·rw[if_neg hik,hi.at_ k hk];have:(k∈G++[i])=(k∈G):=by
        apply propext;rw[mem_append,mem_singleton];exact ⟨λ h=>h.elim id λ h=>absurd h.symm hik,.inl⟩
       simp only[this]
     ·rw[List.pairwise_append];refine ⟨hi.pw,List.pairwise_singleton _ _,λ a ha b hb'=>?_⟩
      rw[mem_singleton.1 hb'];exact hg a ha
     ·intro g hg';rcases mem_append.1 hg' with h|h
      ·exact hi.lt g h
      ·rw[mem_singleton.1 h];omega
     ·intro g hg';rcases mem_append.1 hg' with h|h
      ·have:=hg g h;omega
      ·rw[mem_singleton.1 h];exact Nat.le_refl _
   obtain ⟨c',G',s1,s2,s3⟩:=step;rw[s1];exact yGV h5 m (i+3) c' G' s2 s3 (by omega) (by omega)
end
end Go.Tw
