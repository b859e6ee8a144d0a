import Derived.Test.YtlaebedgpkiodaaGreatDoorPM3
set_option linter.all false
set_option maxRecDepth 100000
open Int (mul_nonneg)
namespace Go.Tw
open Go.Vx Go.Vx.B Go.Proofs
def addX(x y:Gau):Gau:=(x.1+y.1,x.2.1+y.2.1,())
def mulX(x y:Gau):Gau:=(x.1 * y.1 - x.2.1 * y.2.1,x.1 * y.2.1+x.2.1 * y.1,())
def negX(x:Gau):Gau:=(-x.1,-x.2.1,())
def conX(x:Gau):Gau:=(x.1,-x.2.1,())
theorem yC{x y:Gau}(h1:x.1=y.1)(h2:x.2.1=y.2.1):x=y:=Prod.ext h1 (Prod.ext h2 rfl)
def bd(m:Int)(z:Gau):Prop:=(-m<=z.1/\z.1<=m)/\(-m<=z.2.1/\z.2.1<=m)
theorem y6Z{m k:Int}{z:Gau}(h:bd m z)(hm:m<=k):bd k z:=by unfold bd at h ⊢;omega
theorem y5n{m k:Int}{x y:Gau}(hx:bd m x)(hy:bd k y):bd (m+k) (addX x y):=by unfold bd addX at *;simp only;omega
theorem yRL{m:Int}{x:Gau}(hx:bd m x):bd m (negX x):=by unfold bd negX at *;simp only;omega
theorem y1G{a b m k:Int}(h1:-m<=a/\a<=m)(h2:-k<=b/\b<=k):-(m * k)<=a * b/\a * b<=m * k:=by
 have e:(a * b).natAbs<=(m * k).natAbs:=by
  rw[Int.natAbs_mul,Int.natAbs_mul];exact Nat.mul_le_mul (by omega) (by omega)
 have hm:0<=m * k:=mul_nonneg (by omega) (by omega)
 omega
theorem yM1{m k:Int}{x y:Gau}(hx:bd m x)(hy:bd k y):bd (2 * (m * k)) (mulX x y):=by
 have h1:=y1G hx.1 hy.1;have h2:=y1G hx.2 hy.2;have h3:=y1G hx.1 hy.2;have h4:=y1G hx.2 hy.1;unfold bd mulX;simp only;omega
theorem yEs{m k:Int}{x y:Gau}(hx:bd m x)(hy:bd k y)(hb:2 * (m * k) < 9223372036854775807):(z0h x y).1=mulX x y:=by
 have h1:=y1G hx.1 hy.1;have h2:=y1G hx.2 hy.2;have h3:=y1G hx.1 hy.2;have h4:=y1G hx.2 hy.1;unfold z0h mulX;simp only;rw[yw (i:=x.1 * y.1) (by omega) (by omega),yw (i:=x.2.1 * y.2.1) (by omega) (by omega),yw (i:=x.1 * y.2.1) (by omega) (by omega),yw (i:=x.2.1 * y.1) (by omega) (by omega),yw (by omega) (by omega),yw (by omega) (by omega)]
theorem yFP{m k:Int}{x y:Gau}(hx:bd m x)(hy:bd k y)(hb:m+k < 9223372036854775807):(z0m x y).1=addX x y:=by
 have h:=y5n hx hy;unfold bd addX at h;unfold z0m addX;simp only at h ⊢;rw[yw (by omega) (by omega),yw (by omega) (by omega)]
def sgnX(s:Int)(x:Gau):Gau:=(s * x.1,s * x.2.1,())
theorem yOO{m s:Int}{x:Gau}(hx:bd m x)(hs:s=1\/s=-1):bd m (sgnX s x):=by
 unfold bd sgnX at *;rcases hs with rfl|rfl<;>simp only<;>omega
theorem yMu{m s:Int}{x:Gau}(hx:bd m x)(hs:s=1\/s=-1)(hb:m < 9223372036854775807):(z0N x s).1=sgnX s x:=by
 have h:=yOO hx hs;unfold bd sgnX at h;unfold z0N sgnX;simp only at h ⊢;rw[yw (by omega) (by omega),yw (by omega) (by omega)]
def altX(r:List Gau)(D:List Nat->Gau):List Nat->List Nat->Int->Gau->Gau
 |_,[],_,acc=>acc
 |pre,k::rest,s,acc=>altX r D (pre++[k]) rest (-s) (addX acc (sgnX s (mulX ((r[k]?).getD G0) (D (pre++rest)))))
def detX:List (List Gau)->List Nat->Gau
 |[],_=>(1,0,())
 |r::rs,cols=>altX r (detX rs) [] cols 1 G0
def bdD(m:Int):Nat->Int
 |0=>1
 |n+1=>(n+1) * (2 * (m * bdD m n))
theorem yET{m:Int}(hm:0<=m):∀ n,0<=bdD m n
 |0=>by simp[bdD]
 |n+1=>by
  unfold bdD;have h:=mul_nonneg hm (yET hm n);exact mul_nonneg (by omega) (by omega)
theorem yLf{m:Int}(hm:0<=m):bd m G0:=by unfold bd G0;simp only;omega
theorem yOG{r:List Gau}{D E:List Nat->Gau}{m b:Int}{n:Nat}(hm:0<=m)(hb:0<=b)(hr:∀ z∈r,bd m z)(hD:∀ cs:List Nat,cs.length=n->D cs=E cs/\bd b (E cs)) :
  ∀ (rest pre:List Nat) (s:Int) (acc:Gau) (B:Int),(s=1\/s=-1)->pre.length+rest.length=n+1->bd B acc->0<=B->B+rest.length * (2 * (m * b)) < 9223372036854775807 ->
   altC r D pre rest s acc=altX r E pre rest s acc/\bd (B+rest.length * (2 * (m * b))) (altX r E pre rest s acc)
 |[],pre,s,acc,B,_,_,h,_,_=>⟨rfl,by unfold altX;exact y6Z h (by simp)⟩
 |k::rest,pre,s,acc,B,hs,hl,h,h0,hB=>by
  simp only[List.length_cons]at hl hB ⊢;have e:((rest.length+1:Nat):Int) * (2 * (m * b))=2 * (m * b)+rest.length * (2 * (m * b)):=by rw[Int.natCast_add,Int.add_mul];omega
  have hmb:0<=m * b:=mul_nonneg hm hb;have hq:0<=(rest.length:Int) * (2 * (m * b)):=mul_nonneg (by omega) (by omega)
  rw[e]at hB ⊢;obtain ⟨d1,d2⟩:=hD (pre++rest) (by simp;omega)
  have hz:bd m ((r[k]?).getD G0):=by
   cases hk:r[k]? with
   |none=>exact yLf hm
   |some z=>exact hr z (List.mem_of_getElem? hk)
  have p1:=yM1 hz d2;have p2:=yOO p1 hs;have p3:=y5n h p2;have ih:=yOG hm hb hr hD rest (pre++[k]) (-s) (addX acc (sgnX s (mulX ((r[k]?).getD G0) (E (pre++rest))))) (B+2 * (m * b)) (by omega) (by simp;omega) p3 (by omega) (by omega)
  unfold altC altX;rw[d1,yEs hz d2 (by omega),yMu p1 hs (by omega),yFP h p2 (by omega)]
  rw[<- Int.add_assoc];exact ih
theorem yFT{m:Int}(hm:0<=m)(hB:bdD m 4 < 9223372036854775807)(hm1:1<=m):∀ (rows:List (List Gau)) (cols:List Nat),rows.length=cols.length->rows.length<=4->(∀ r∈rows,∀ z∈r,bd m z) ->
  detC rows cols=detX rows cols/\bd (bdD m rows.length) (detX rows cols)
 |[],cols,_,_,_=>⟨rfl,by unfold detX bdD bd;simp⟩
 |r::rs,cols,hl,h4,hr=>by
  simp only[List.length_cons]at hl h4 ⊢;have ih:=λ cs (hc:List.length cs=rs.length)=>yFT hm hB hm1 rs cs hc.symm (by omega) (λ r h=>hr r (by simp[h]))
  have hp:=yET hm rs.length;have e:bdD m (rs.length+1)=(rs.length+1) * (2 * (m * bdD m rs.length)):=rfl;have mono:∀ n:Nat,bdD m n<=bdD m (n+1):=λ n=>by
   show bdD m n<=(n+1) * (2 * (m * bdD m n))
   have h1:=yET hm n;have h2:1 * bdD m n<=m * bdD m n:=Int.mul_le_mul_of_nonneg_right hm1 h1;have h3:1 * (2 * (m * bdD m n))<=(n+1) * (2 * (m * bdD m n)):=Int.mul_le_mul_of_nonneg_right (by omega) (by omega)
   omega
  have hB2:bdD m (rs.length+1) < 9223372036854775807:=by
   have m1:bdD m 0<=bdD m 1:=mono 0;have m2:bdD m 1<=bdD m 2:=mono 1;have m3:bdD m 2<=bdD m 3:=mono 2;have m4:bdD m 3<=bdD m 4:=mono 3;have:rs.length=0\/rs.length=1\/rs.length=2\/rs.length=3:=by omega
   rcases this with q|q|q|q<;>rw[q]
   ·show bdD m 1 < _;omega
   ·show bdD m 2 < _;omega
   ·show bdD m 3 < _;omega
   ·show bdD m 4 < _;omega
  obtain ⟨a1,a2⟩:=yOG (r:=r) (D:=detC rs) (E:=detX rs) (n:=rs.length) hm hp (hr r (by simp)) ih cols [] 1 G0 0 (.inl rfl) (by simp;omega) (yLf (by decide)) (by decide) (by
   rw[<- hl];rw[e]at hB2;push_cast
   omega)
  unfold detC detX;refine ⟨a1,?_⟩;rw[e];refine y6Z a2 ?_
  rw[<- hl];push_cast
  omega
def sumX(f:Int->Gau):List Int->Gau
 |[]=>G0
 |t::T=>addX (f t) (sumX f T)
def ip(T:List Int)(u w:Int->Gau):Gau:=sumX (λ t=>mulX (conX (u t)) (w t)) T
theorem y4g(x y z:Gau):addX (addX x y) z=addX x (addX y z):=by unfold addX;simp only[Int.add_assoc]
theorem y0N(x:Gau):addX x G0=x:=by unfold addX G0;simp only[Int.add_zero]
theorem y2d(x:Gau):addX G0 x=x:=by unfold addX G0;simp only[Int.zero_add]
theorem yOo(n:Int):bd 1 (y1E n):=by
 unfold y1E bd;split
 ·decide
 ·split
  ·decide
  ·split<;>decide
theorem yFr(c:Con)(t:Int):bd 1 (chr c t):=yOo _
theorem yOx(a b:Con)(t:Int):bd 1 (mulX (conX (chr a t)) (chr b t))/\(z0h (zr (chr a t)).1 (chr b t)).1=mulX (conX (chr a t)) (chr b t):=by
 have h:∀ m n:Int,bd 1 (mulX (conX (y1E m)) (y1E n))/\(z0h (zr (y1E m)).1 (y1E n)).1=mulX (conX (y1E m)) (y1E n):=by
  intro m n;have hh:∀ x y:Gau,(x=(1,0,())\/x=(0,1,())\/x=(-1,0,())\/x=(0,-1,()))->(y=(1,0,())\/y=(0,1,())\/y=(-1,0,())\/y=(0,-1,())) ->
    bd 1 (mulX (conX x) y)/\(z0h (zr x).1 y).1=mulX (conX x) y:=by
   intro x y hx hy;rcases hx with rfl|rfl|rfl|rfl<;>rcases hy with rfl|rfl|rfl|rfl<;>exact ⟨by unfold bd mulX conX;decide,by unfold z0h zr mulX conX;simp only;refine yC ?_ ?_<;>decide⟩
  have ht:∀ k:Int,y1E k=(1,0,())\/y1E k=(0,1,())\/y1E k=(-1,0,())\/y1E k=(0,-1,()):=λ k=>by
   unfold y1E;split
   ·exact .inl rfl
   ·split
    ·exact .inr (.inl rfl)
    ·split
     ·exact .inr (.inr (.inl rfl))
     ·exact .inr (.inr (.inr rfl))
  exact hh _ _ (ht m) (ht n)
 exact h _ _
theorem yNp(a b:Con):∀ (T:List Int) (s:Int×Int) (B:Int),bd B (s.1,s.2,())->0<=B->B+T.length < 9223372036854775807 ->
  ((T.foldl (innS a b) s).1,(T.foldl (innS a b) s).2,())=addX (s.1,s.2,()) (ip T (chr a) (chr b))/\bd T.length (ip T (chr a) (chr b))
 |[],s,B,_,_,_=>by
  refine ⟨?_,?_⟩
  ·show _=addX _ G0
   rw[y0N];rfl
  ·exact yLf (by simp)
 |t::T,s,B,hs,h0,hB=>by
  simp only[List.length_cons]at hB ⊢;obtain ⟨u1,u2⟩:=yOx a b t;have e:innS a b s t=((addX (s.1,s.2,()) (mulX (conX (chr a t)) (chr b t))).1,(addX (s.1,s.2,()) (mulX (conX (chr a t)) (chr b t))).2.1):=by
   unfold innS;simp only;rw[u2,yFP hs u1 (by omega)]
  obtain ⟨i1,i2⟩:=yNp a b T (innS a b s t) (B+1) (by rw[e];exact y5n hs u1) (by omega) (by omega)
  refine ⟨?_,?_⟩
  ·rw[List.foldl_cons,i1,e];exact y4g _ _ _
  ·have:=y5n u1 i2;refine y6Z this ?_
   push_cast
   omega
theorem yAx{T:List Int}(hT:T.length<=1000000)(a b:Con):innW T a b=ip T (chr a) (chr b)/\bd T.length (ip T (chr a) (chr b)):=by
 obtain ⟨h1,h2⟩:=yNp a b T (0,0) 0 (by unfold bd;simp) (by decide) (by omega)
 refine ⟨?_,h2⟩;unfold innW;simp only;rw[h1];exact y2d _
end Go.Tw
