import Derived.Test.YtlaebedgpkiodaaGreatDoorPH1
import Derived.Test.YtlaebedgpkiodaaGreatDoorPB
set_option linter.all false
set_option maxRecDepth 100000
set_option exponentiation.threshold 4000
open List (mem_map)
namespace Go.Tw
open Go.Vx Go.Vx.B Go.Proofs Ieee
theorem yS3:((List.range 2049).all λ k=>match F32.read (lvF ((k:Int) - 1024))with
  |.number s m e=>decide (-149<=e) && (Ieee.signed s m (e+149).toNat == ((k:Int) - 1024) * 44601490397061246283071436545296723011960832)
  |_=>false)=true:=by kernel_rfl
theorem yEW{x:Int}(h0:-1024<=x)(h1:x<=1024):Six (lvF x) x:=by
 have h:=List.all_eq_true.1 yS3 (x+1024).toNat (List.mem_range.2 (by omega))
 rw[show (((x+1024).toNat:Nat):Int) - 1024=x by omega]at h
 cases hr:F32.read (lvF x)with
 |number s m e =>
  rw[hr]at h;simp only[Bool.and_eq_true,decide_eq_true_eq,beq_iff_eq]at h;refine ⟨⟨s,m,e,hr,by omega,?_⟩,h0,h1⟩
  unfold sv;rw[show (e+3000).toNat=(e+149).toNat+2851 by omega,y6t,h.2,Int.mul_assoc]
  congr 1
 |infinity s=>rw[hr]at h;cases h
 |nan s t=>rw[hr]at h;cases h
theorem yTT:lvF 0=0:=by kernel_rfl
theorem nz_0:nz 0=false:=by kernel_rfl
theorem ySk:Six 0 0:=by
 have:=yEW (x:=0) (by decide) (by decide)
 rw[yTT]at this;exact this
theorem yHz{l:List Int}(h:∀ e∈l,e=0):y0I l=0:=by
 induction l with
 |nil=>rfl
 |cons a l ih =>
  rw[yU,h a (by simp),yX]
  exact ih λ e he=>h e (by simp[he])
def gp(g:Nat):Gau:=((g:Int),(g:Int)+1,())
structure Inv (n:Nat) (V:Nat->Int) (c:List Nat) (G:List Nat):Prop where
 len:c.length=n
 at_:∀ k,k < n->c[k]?=some (if k∈G then 0 else lvF (V k))
 pw:G.Pairwise λ a b=>a+3<=b
 lt:∀ g∈G,g < n
theorem yO7(G:List Nat)(k:Nat):has (G.map gp) (k:Int)=decide (k∈G):=by
 unfold has;rw[Bool.eq_iff_iff,List.any_eq_true,decide_eq_true_eq];constructor
 ·rintro ⟨s,hs,h⟩
  obtain ⟨g,hg,rfl⟩:=mem_map.1 hs;have:=of_decide_eq_true h;unfold gp at this;simp only at this;rw[show k=g by omega]
  exact hg
 ·intro h;refine ⟨gp k,mem_map.2 ⟨k,h,rfl⟩,?_⟩;unfold gp;exact decide_eq_true ⟨Int.le_refl _,by simp only;omega⟩
theorem yFj:∀ (G:List Nat) (p:Option Nat),G.Pairwise (λ a b=>a+3<=b)->(∀ g∈G,g < 100000)->(∀ q,p=some q->∀ g∈G,q+3<=g)->y3Q (p.map gp) (G.map gp)=0
 |[],p,_,_,_=>by cases p<;>rfl
 |g::G,p,hw,hn,hp=>by
  obtain ⟨w1,w2⟩:=List.pairwise_cons.1 hw;have ih:=yFj G (some g) w2 (λ x hx=>hn x (by simp[hx])) λ q hq x hx=>by cases hq;exact w1 x hx
  have hg:=hn g (by simp)
  rw[List.map_cons];unfold y3Q;have h1:yBn (gp g)=0:=by
   unfold yBn gp;simp only;rw[if_neg (by omega)]
  have h2:spE (p.map gp) (gp g)=0:=by
   unfold spE;rw[h1,yX];cases p with
   |none=>rfl
   |some q =>
    have:=hp q rfl g (by simp)
    show (if (gp g).1<=(gp q).2.1 then (11:Int)else 0)=0
    unfold gp;simp only;rw[if_neg (by omega)]
  rw[h2,yX];exact ih
theorem yBj:∀ (G:List Nat) (n:Nat),G.Pairwise (λ a b=>a+3<=b)->(∀ g∈G,g < n)->G.length<=n
 |[],n,_,_=>by simp
 |g::G,n,hw,hn=>by
  obtain ⟨w1,w2⟩:=List.pairwise_cons.1 hw;have hg:=hn g (by simp)
  have key:∀ (G:List Nat) (a n:Nat),G.Pairwise (λ a b=>a+3<=b)->(∀ g∈G,g < n/\a<=g)->a<=n->G.length+a<=n:=by
   intro G;induction G with
   |nil=>intro a n _ _ h;simpa using h
   |cons x G ih =>
    intro a n hw h hle;obtain ⟨w1,w2⟩:=List.pairwise_cons.1 hw;have hx:=h x (by simp)
    have:=ih (x+1) n w2 (λ y hy=>⟨(h y (by simp[hy])).1,by have:=w1 y hy;omega⟩) (by omega)
    simp only[List.length_cons];omega
  exact key (g::G) 0 n hw (λ x hx=>⟨hn x hx,Nat.zero_le _⟩) (Nat.zero_le _)
def nmF:List UInt8:=[102,111,117,110,100]
theorem yRo:isNm nmF=true:=by kernel_rfl
theorem yEx(gaps:List Gau):∀ (l:List Nat) (i:Nat),∀ p∈recd gaps i l,has gaps p.1=false
 |[],i,p,h=>by cases h
 |x::l,i,p,h=>by
  unfold recd at h;by_cases hh:has gaps (i:Int)=true
  ·rw[if_pos hh]at h;exact yEx gaps l (i+1) p h
  ·rw[if_neg hh]at h;rcases List.mem_cons.1 h with rfl|h
   ·simpa using hh
   ·exact yEx gaps l (i+1) p h
section
variable {n:Nat} {V:Nat->Int} {c:List Nat} {G:List Nat} (hi:Inv n V c G) (hn:n<=16) (hV:∀ k,k < n->-400<=V k/\V k<=400) {st:Int} (hst:0<=st/\st<=65535)
include hi hn hV hst
theorem yJ6:∀ x∈c,∃ y:Int,Six x y/\-400<=y/\y<=400:=λ x hx=>by
 obtain ⟨k,hk,rfl⟩:=List.mem_iff_getElem.1 hx;have hkn:k < n:=by rw[<- hi.len];exact hk
 have:=hi.at_ k hkn;rw[List.getElem?_eq_getElem hk]at this;have:=Option.some.inj this;rw[this];by_cases hg:k∈G
 ·rw[if_pos hg];exact ⟨0,ySk,by decide,by decide⟩
 ·rw[if_neg hg];have hv:=hV k hkn;exact ⟨V k,yEW (by omega) (by omega),hv.1,hv.2⟩
theorem yKv:yDq (nmF,st,c,G.map gp,())=0:=by
 classical
 have hl:=hi.len;have hgl:=yBj G n hi.pw hi.lt;unfold yDq;simp only;rw[yRo];have e1:y0I [bif true then (0:Int)else 8,ckR st 0 100000,if 4096 < c.length then 5 else 0]=0:=by
  rw[if_neg (by omega)]
  unfold ckR;rw[if_neg (by omega)]
  rfl
 have e2:y0I (c.map lvE)=0:=yHz λ e he=>by
  obtain ⟨x,hx,rfl⟩:=mem_map.1 he;obtain ⟨y,hy,_⟩:=yJ6 hi hn hV hst x hx;exact yO3 hy
 have e3:y49 (G.map gp)=0:=by
  unfold y49;rw[if_neg (by rw[List.length_map];omega)]
  exact yFj G none hi.pw (λ g hg=>by have:=hi.lt g hg;omega) λ q hq=>by cases hq
 have e4:((G.map gp).any λ s=>decide ((c.length:Int) < s.2.1))=false:=by
  rw[List.any_eq_false];intro s hs;obtain ⟨g,hg,rfl⟩:=mem_map.1 hs;have:=hi.lt g hg;unfold gp;simp only[decide_eq_true_eq];omega
 have e5:¬ yKf c (G.map gp):=by
  rintro ⟨i,x,h1,h2,h3⟩
  rw[yO7]at h3;have hg:=of_decide_eq_true h3;have hin:=hi.lt i hg;rw[hi.at_ i hin,if_pos hg]at h1;cases h1;rw[nz_0]at h2;cases h2
 rw[e1,yX,e2,yX,e3,yX,e4,if_neg e5];rfl
theorem yQP:lowR5 (nmF,st,c,G.map gp,()):=by
 refine ⟨y5k (yKv hi hn hV hst),λ x hx=>?_,?_⟩
 ·obtain ⟨y,hy,h1,h2⟩:=yJ6 hi hn hV hst x hx;rw[ySY hy];exact ⟨h1,h2⟩
 ·have:=yJa (nmF,st,c,G.map gp,());have hl:=hi.len;simp only at this;omega
theorem yQU{t:Int}(ht:t∈tks (nmF,st,c,G.map gp,())):∃ k,k < n/\t=st+(k:Int)/\levF (nmF,st,c,G.map gp,()) t=(V k,0,()):=by
 have hok:=y5k (yKv hi hn hV hst);unfold tks at ht;obtain ⟨q,hq,rfl⟩:=mem_map.1 ht;obtain ⟨⟨q1,q2⟩,_,q3⟩:=yC9 hok q hq;have hno:=yEx (G.map gp) c 0 q hq;have hl:=hi.len;simp only at q1 q2 q3;obtain ⟨k,hk⟩:∃ k:Nat,q.1=(k:Int):=⟨q.1.toNat,by omega⟩
 refine ⟨k,by omega,by rw[<- hk],?_⟩
 rw[hk,yO7]at hno;have hg:=of_decide_eq_false hno;unfold levF;rw[yJJ hok hq];rw[hk,Int.toNat_natCast,hi.at_ k (by omega),if_neg hg]at q3
 have:=Option.some.inj q3;rw[<- this];have hv:=hV k (by omega)
 rw[ySY (yEW (by omega) (by omega))]
end
end Go.Tw
