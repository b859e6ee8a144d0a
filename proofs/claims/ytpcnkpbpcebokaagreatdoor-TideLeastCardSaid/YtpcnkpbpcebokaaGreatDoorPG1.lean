import Derived.Test.YtpcnkpbpcebokaaGreatDoorPM3
set_option linter.all false
open Int (mul_nonneg)
section
set_option maxRecDepth 100000
namespace Go.Tw
open Go.Vx Go.Vx.B Go.Proofs
def addX(x y:Gau):Gau:=(x.1+y.1,x.2.1+y.2.1,())
def mulX(x y:Gau):Gau:=(x.1 * y.1 - x.2.1 * y.2.1,x.1 * y.2.1+x.2.1 * y.1,())
def negX(x:Gau):Gau:=(-x.1,-x.2.1,())
def conX(x:Gau):Gau:=(x.1,-x.2.1,())
theorem yA{x y:Gau}(h1:x.1=y.1)(h2:x.2.1=y.2.1):x=y:=Prod.ext h1 (Prod.ext h2 rfl)
def bd(m:Int)(z:Gau):Prop:=(-m<=z.1/\z.1<=m)/\(-m<=z.2.1/\z.2.1<=m)
theorem y25{m k:Int}{z:Gau}(h:bd m z)(hm:m<=k):bd k z:=by unfold bd at h ⊢;omega
theorem y1p{m k:Int}{x y:Gau}(hx:bd m x)(hy:bd k y):bd (m+k) (addX x y):=by unfold bd addX at *;simp only;omega
theorem y3n{m:Int}{x:Gau}(hx:bd m x):bd m (negX x):=by unfold bd negX at *;simp only;omega
theorem y1d{a b m k:Int}(h1:-m<=a/\a<=m)(h2:-k<=b/\b<=k):-(m * k)<=a * b/\a * b<=m * k:=by
 have e:(a * b).natAbs<=(m * k).natAbs:=by
  rw[Int.natAbs_mul,Int.natAbs_mul];exact Nat.mul_le_mul (by omega) (by omega)
 have hm:0<=m * k:=mul_nonneg (by omega) (by omega)
 omega
theorem y2a{m k:Int}{x y:Gau}(hx:bd m x)(hy:bd k y):bd (2 * (m * k)) (mulX x y):=by
 have h1:=y1d hx.1 hy.1;have h2:=y1d hx.2 hy.2;have h3:=y1d hx.1 hy.2;have h4:=y1d hx.2 hy.1;unfold bd mulX;simp only;omega
theorem y7v{m k:Int}{x y:Gau}(hx:bd m x)(hy:bd k y)(hb:2 * (m * k) < 9223372036854775807):(z0z x y).1=mulX x y:=by
 have h1:=y1d hx.1 hy.1;have h2:=y1d hx.2 hy.2;have h3:=y1d hx.1 hy.2;have h4:=y1d hx.2 hy.1;unfold z0z mulX;simp only;rw[y04 (i:=x.1 * y.1) (by omega) (by omega),y04 (i:=x.2.1 * y.2.1) (by omega) (by omega),y04 (i:=x.1 * y.2.1) (by omega) (by omega),y04 (i:=x.2.1 * y.1) (by omega) (by omega),y04 (by omega) (by omega),y04 (by omega) (by omega)]
theorem yDu{m k:Int}{x y:Gau}(hx:bd m x)(hy:bd k y)(hb:m+k < 9223372036854775807):(z17 x y).1=addX x y:=by
 have h:=y1p hx hy;unfold bd addX at h;unfold z17 addX;simp only at h ⊢;rw[y04 (by omega) (by omega),y04 (by omega) (by omega)]
def sgnX(s:Int)(x:Gau):Gau:=(s * x.1,s * x.2.1,())
theorem yOL{m s:Int}{x:Gau}(hx:bd m x)(hs:s=1\/s=-1):bd m (sgnX s x):=by
 unfold bd sgnX at *;rcases hs with rfl|rfl<;>simp only<;>omega
theorem yMj{m s:Int}{x:Gau}(hx:bd m x)(hs:s=1\/s=-1)(hb:m < 9223372036854775807):(z0a x s).1=sgnX s x:=by
 have h:=yOL hx hs;unfold bd sgnX at h;unfold z0a sgnX;simp only at h ⊢;rw[y04 (by omega) (by omega),y04 (by omega) (by omega)]
def altX(r:List Gau)(D:List Nat->Gau):List Nat->List Nat->Int->Gau->Gau
 |_,[],_,acc=>acc
 |pre,k::rest,s,acc=>altX r D (pre++[k]) rest (-s) (addX acc (sgnX s (mulX ((r[k]?).getD G0) (D (pre++rest)))))
def detX:List (List Gau)->List Nat->Gau
 |[],_=>(1,0,())
 |r::rs,cols=>altX r (detX rs) [] cols 1 G0
def bdD(m:Int):Nat->Int
 |0=>1
 |n+1=>(n+1) * (2 * (m * bdD m n))
theorem yF5{m:Int}(hm:0<=m):∀ n,0<=bdD m n
 |0=>by simp[bdD]
 |n+1=>by
  unfold bdD;have h:=mul_nonneg hm (yF5 hm n);exact mul_nonneg (by omega) (by omega)
theorem yKW{m:Int}(hm:0<=m):bd m G0:=by unfold bd G0;simp only;omega
theorem yO0{r:List Gau}{D E:List Nat->Gau}{m b:Int}{n:Nat}(hm:0<=m)(hb:0<=b)(hr:∀ z∈r,bd m z)(hD:∀ cs:List Nat,cs.length=n->D cs=E cs/\bd b (E cs)) :
  ∀ (rest pre:List Nat) (s:Int) (acc:Gau) (B:Int),(s=1\/s=-1)->pre.length+rest.length=n+1->bd B acc->0<=B->B+rest.length * (2 * (m * b)) < 9223372036854775807 ->
   altC r D pre rest s acc=altX r E pre rest s acc/\bd (B+rest.length * (2 * (m * b))) (altX r E pre rest s acc)
 |[],pre,s,acc,B,_,_,h,_,_=>⟨rfl,by unfold altX;exact y25 h (by simp)⟩
 |k::rest,pre,s,acc,B,hs,hl,h,h0,hB=>by
  simp only[List.length_cons]at hl hB ⊢;have e:((rest.length+1:Nat):Int) * (2 * (m * b))=2 * (m * b)+rest.length * (2 * (m * b)):=by rw[Int.natCast_add,Int.add_mul];omega
  have hmb:0<=m * b:=mul_nonneg hm hb;have hq:0<=(rest.length:Int) * (2 * (m * b)):=mul_nonneg (by omega) (by omega)
  rw[e]at hB ⊢;obtain ⟨d1,d2⟩:=hD (pre++rest) (by simp;omega)
  have hz:bd m ((r[k]?).getD G0):=by
   cases hk:r[k]? with
   |none=>exact yKW hm
   |some z=>exact hr z (List.mem_of_getElem? hk)
  have p1:=y2a hz d2;have p2:=yOL p1 hs;have p3:=y1p h p2;have ih:=yO0 hm hb hr hD rest (pre++[k]) (-s) (addX acc (sgnX s (mulX ((r[k]?).getD G0) (E (pre++rest))))) (B+2 * (m * b)) (by omega) (by simp;omega) p3 (by omega) (by omega)
  unfold altC altX;rw[d1,y7v hz d2 (by omega),yMj p1 hs (by omega),yDu h p2 (by omega)]
  rw[<- Int.add_assoc];exact ih
theorem yCi{m:Int}(hm:0<=m)(hB:bdD m 4 < 9223372036854775807)(hm1:1<=m):∀ (rows:List (List Gau)) (cols:List Nat),rows.length=cols.length->rows.length<=4->(∀ r∈rows,∀ z∈r,bd m z) ->
  detC rows cols=detX rows cols/\bd (bdD m rows.length) (detX rows cols)
 |[],cols,_,_,_=>⟨rfl,by unfold detX bdD bd;simp⟩
 |r::rs,cols,hl,h4,hr=>by
  simp only[List.length_cons]at hl h4 ⊢;have ih:=λ cs (hc:List.length cs=rs.length)=>yCi hm hB hm1 rs cs hc.symm (by omega) (λ r h=>hr r (by simp[h]))
  have hp:=yF5 hm rs.length;have e:bdD m (rs.length+1)=(rs.length+1) * (2 * (m * bdD m rs.length)):=rfl;have mono:∀ n:Nat,bdD m n<=bdD m (n+1):=λ n=>by
   show bdD m n<=(n+1) * (2 * (m * bdD m n))
   have h1:=yF5 hm n;have h2:1 * bdD m n<=m * bdD m n:=Int.mul_le_mul_of_nonneg_right hm1 h1;have h3:1 * (2 * (m * bdD m n))<=(n+1) * (2 * (m * bdD m n)):=Int.mul_le_mul_of_nonneg_right (by omega) (by omega)
   omega
  have hB2:bdD m (rs.length+1) < 9223372036854775807:=by
   have m1:bdD m 0<=bdD m 1:=mono 0;have m2:bdD m 1<=bdD m 2:=mono 1;have m3:bdD m 2<=bdD m 3:=mono 2;have m4:bdD m 3<=bdD m 4:=mono 3;have:rs.length=0\/rs.length=1\/rs.length=2\/rs.length=3:=by omega
   rcases this with q|q|q|q<;>rw[q]
   ·show bdD m 1 < _;omega
   ·show bdD m 2 < _;omega
   ·show bdD m 3 < _;omega
   ·show bdD m 4 < _;omega
  obtain ⟨a1,a2⟩:=yO0 (r:=r) (D:=detC rs) (E:=detX rs) (n:=rs.length) hm hp (hr r (by simp)) ih cols [] 1 G0 0 (.inl rfl) (by simp;omega) (yKW (by decide)) (by decide) (by
   rw[<- hl];rw[e]at hB2;push_cast
   omega)
  unfold detC detX;refine ⟨a1,?_⟩;rw[e];refine y25 a2 ?_
  rw[<- hl];push_cast
  omega
def sumX(f:Int->Gau):List Int->Gau
 |[]=>G0
 |t::T=>addX (f t) (sumX f T)
def ip(T:List Int)(u w:Int->Gau):Gau:=sumX (λ t=>mulX (conX (u t)) (w t)) T
theorem y30(x y z:Gau):addX (addX x y) z=addX x (addX y z):=by unfold addX;simp only[Int.add_assoc]
theorem y08(x:Gau):addX x G0=x:=by unfold addX G0;simp only[Int.add_zero]
theorem y2u(x:Gau):addX G0 x=x:=by unfold addX G0;simp only[Int.zero_add]
theorem yQI(n:Int):bd 1 (y1J n):=by
 unfold y1J bd;split
 ·decide
 ·split
  ·decide
  ·split<;>decide
theorem y8d(c:Con)(t:Int):bd 1 (chr c t):=yQI _
theorem yPZ(a b:Con)(t:Int):bd 1 (mulX (conX (chr a t)) (chr b t))/\(z0z (z01 (chr a t)).1 (chr b t)).1=mulX (conX (chr a t)) (chr b t):=by
 have h:∀ m n:Int,bd 1 (mulX (conX (y1J m)) (y1J n))/\(z0z (z01 (y1J m)).1 (y1J n)).1=mulX (conX (y1J m)) (y1J n):=by
  intro m n;have hh:∀ x y:Gau,(x=(1,0,())\/x=(0,1,())\/x=(-1,0,())\/x=(0,-1,()))->(y=(1,0,())\/y=(0,1,())\/y=(-1,0,())\/y=(0,-1,())) ->
    bd 1 (mulX (conX x) y)/\(z0z (z01 x).1 y).1=mulX (conX x) y:=by
   intro x y hx hy;rcases hx with rfl|rfl|rfl|rfl<;>rcases hy with rfl|rfl|rfl|rfl<;>exact ⟨by unfold bd mulX conX;decide,by unfold z0z z01 mulX conX;simp only;refine yA ?_ ?_<;>decide⟩
  have ht:∀ k:Int,y1J k=(1,0,())\/y1J k=(0,1,())\/y1J k=(-1,0,())\/y1J k=(0,-1,()):=λ k=>by
   unfold y1J;split
   ·exact .inl rfl
   ·split
    ·exact .inr (.inl rfl)
    ·split
     ·exact .inr (.inr (.inl rfl))
     ·exact .inr (.inr (.inr rfl))
  exact hh _ _ (ht m) (ht n)
 exact h _ _
theorem yOC(a b:Con):∀ (T:List Int) (s:Int×Int) (B:Int),bd B (s.1,s.2,())->0<=B->B+T.length < 9223372036854775807 ->
  ((T.foldl (innS a b) s).1,(T.foldl (innS a b) s).2,())=addX (s.1,s.2,()) (ip T (chr a) (chr b))/\bd T.length (ip T (chr a) (chr b))
 |[],s,B,_,_,_=>by
  refine ⟨?_,?_⟩
  ·show _=addX _ G0
   rw[y08];rfl
  ·exact yKW (by simp)
 |t::T,s,B,hs,h0,hB=>by
  simp only[List.length_cons]at hB ⊢;obtain ⟨u1,u2⟩:=yPZ a b t;have e:innS a b s t=((addX (s.1,s.2,()) (mulX (conX (chr a t)) (chr b t))).1,(addX (s.1,s.2,()) (mulX (conX (chr a t)) (chr b t))).2.1):=by
   unfold innS;simp only;rw[u2,yDu hs u1 (by omega)]
  obtain ⟨i1,i2⟩:=yOC a b T (innS a b s t) (B+1) (by rw[e];exact y1p hs u1) (by omega) (by omega)
  refine ⟨?_,?_⟩
  ·rw[List.foldl_cons,i1,e];exact y30 _ _ _
  ·have:=y1p u1 i2;refine y25 this ?_
   push_cast
   omega
theorem yBy{T:List Int}(hT:T.length<=1000000)(a b:Con):innW T a b=ip T (chr a) (chr b)/\bd T.length (ip T (chr a) (chr b)):=by
 obtain ⟨h1,h2⟩:=yOC a b T (0,0) 0 (by unfold bd;simp) (by decide) (by omega)
 refine ⟨?_,h2⟩;unfold innW;simp only;rw[h1];exact y2u _
end Go.Tw
end
section
set_option maxRecDepth 100000
namespace Go.Tw
open Go.Vx Go.Vx.B Go.Proofs
def d2(a b c d:Gau):Gau:=addX (mulX a d) (negX (mulX b c))
def d3(a b c d e f g h i:Gau):Gau:=addX (addX (mulX a (d2 e f h i)) (negX (mulX b (d2 d f g i)))) (mulX c (d2 d e g h))
def d4(a b c d e f g h i j k l m n o p:Gau):Gau:=addX (addX (addX (mulX a (d3 f g h j k l n o p)) (negX (mulX b (d3 e g h i k l m o p)))) (mulX c (d3 e f h i j l m n p))) (negX (mulX d (d3 e f g i j k m n o)))
theorem yHf(g00 g01 g02 g03 g10 g11 g12 g13 g20 g21 g22 g23 g30 g31 g32 g33:Gau):(addX (addX (addX (mulX (d3 g11 g12 g13 g21 g22 g23 g31 g32 g33) g00) (mulX (negX (d3 g01 g02 g03 g21 g22 g23 g31 g32 g33)) g10)) (mulX (d3 g01 g02 g03 g11 g12 g13 g31 g32 g33) g20)) (mulX (negX (d3 g01 g02 g03 g11 g12 g13 g21 g22 g23)) g30))=d4 g00 g01 g02 g03 g10 g11 g12 g13 g20 g21 g22 g23 g30 g31 g32 g33:=yA (by simp only[d4,d3,d2,mulX,addX,negX,G0];grind) (by simp only[d4,d3,d2,mulX,addX,negX,G0];grind)
theorem yUv(g00 g01 g02 g03 g10 g11 g12 g13 g20 g21 g22 g23 g30 g31 g32 g33:Gau):(addX (addX (addX (mulX (d3 g11 g12 g13 g21 g22 g23 g31 g32 g33) g01) (mulX (negX (d3 g01 g02 g03 g21 g22 g23 g31 g32 g33)) g11)) (mulX (d3 g01 g02 g03 g11 g12 g13 g31 g32 g33) g21)) (mulX (negX (d3 g01 g02 g03 g11 g12 g13 g21 g22 g23)) g31))=G0:=yA (by simp only[d4,d3,d2,mulX,addX,negX,G0];grind) (by simp only[d4,d3,d2,mulX,addX,negX,G0];grind)
theorem yUt(g00 g01 g02 g03 g10 g11 g12 g13 g20 g21 g22 g23 g30 g31 g32 g33:Gau):(addX (addX (addX (mulX (d3 g11 g12 g13 g21 g22 g23 g31 g32 g33) g02) (mulX (negX (d3 g01 g02 g03 g21 g22 g23 g31 g32 g33)) g12)) (mulX (d3 g01 g02 g03 g11 g12 g13 g31 g32 g33) g22)) (mulX (negX (d3 g01 g02 g03 g11 g12 g13 g21 g22 g23)) g32))=G0:=yA (by simp only[d4,d3,d2,mulX,addX,negX,G0];grind) (by simp only[d4,d3,d2,mulX,addX,negX,G0];grind)
theorem yUA(g00 g01 g02 g03 g10 g11 g12 g13 g20 g21 g22 g23 g30 g31 g32 g33:Gau):(addX (addX (addX (mulX (d3 g11 g12 g13 g21 g22 g23 g31 g32 g33) g03) (mulX (negX (d3 g01 g02 g03 g21 g22 g23 g31 g32 g33)) g13)) (mulX (d3 g01 g02 g03 g11 g12 g13 g31 g32 g33) g23)) (mulX (negX (d3 g01 g02 g03 g11 g12 g13 g21 g22 g23)) g33))=G0:=yA (by simp only[d4,d3,d2,mulX,addX,negX,G0];grind) (by simp only[d4,d3,d2,mulX,addX,negX,G0];grind)
theorem yTV(g00 g01 g02 g03 g10 g11 g12 g13 g20 g21 g22 g23 g30 g31 g32 g33:Gau):(addX (addX (addX (mulX (negX (d3 g10 g12 g13 g20 g22 g23 g30 g32 g33)) g00) (mulX (d3 g00 g02 g03 g20 g22 g23 g30 g32 g33) g10)) (mulX (negX (d3 g00 g02 g03 g10 g12 g13 g30 g32 g33)) g20)) (mulX (d3 g00 g02 g03 g10 g12 g13 g20 g22 g23) g30))=G0:=yA (by simp only[d4,d3,d2,mulX,addX,negX,G0];grind) (by simp only[d4,d3,d2,mulX,addX,negX,G0];grind)
theorem yI4(g00 g01 g02 g03 g10 g11 g12 g13 g20 g21 g22 g23 g30 g31 g32 g33:Gau):(addX (addX (addX (mulX (negX (d3 g10 g12 g13 g20 g22 g23 g30 g32 g33)) g01) (mulX (d3 g00 g02 g03 g20 g22 g23 g30 g32 g33) g11)) (mulX (negX (d3 g00 g02 g03 g10 g12 g13 g30 g32 g33)) g21)) (mulX (d3 g00 g02 g03 g10 g12 g13 g20 g22 g23) g31))=d4 g00 g01 g02 g03 g10 g11 g12 g13 g20 g21 g22 g23 g30 g31 g32 g33:=yA (by simp only[d4,d3,d2,mulX,addX,negX,G0];grind) (by simp only[d4,d3,d2,mulX,addX,negX,G0];grind)
theorem yTM(g00 g01 g02 g03 g10 g11 g12 g13 g20 g21 g22 g23 g30 g31 g32 g33:Gau):(addX (addX (addX (mulX (negX (d3 g10 g12 g13 g20 g22 g23 g30 g32 g33)) g02) (mulX (d3 g00 g02 g03 g20 g22 g23 g30 g32 g33) g12)) (mulX (negX (d3 g00 g02 g03 g10 g12 g13 g30 g32 g33)) g22)) (mulX (d3 g00 g02 g03 g10 g12 g13 g20 g22 g23) g32))=G0:=yA (by simp only[d4,d3,d2,mulX,addX,negX,G0];grind) (by simp only[d4,d3,d2,mulX,addX,negX,G0];grind)
theorem yV1(g00 g01 g02 g03 g10 g11 g12 g13 g20 g21 g22 g23 g30 g31 g32 g33:Gau):(addX (addX (addX (mulX (negX (d3 g10 g12 g13 g20 g22 g23 g30 g32 g33)) g03) (mulX (d3 g00 g02 g03 g20 g22 g23 g30 g32 g33) g13)) (mulX (negX (d3 g00 g02 g03 g10 g12 g13 g30 g32 g33)) g23)) (mulX (d3 g00 g02 g03 g10 g12 g13 g20 g22 g23) g33))=G0:=yA (by simp only[d4,d3,d2,mulX,addX,negX,G0];grind) (by simp only[d4,d3,d2,mulX,addX,negX,G0];grind)
theorem yUY(g00 g01 g02 g03 g10 g11 g12 g13 g20 g21 g22 g23 g30 g31 g32 g33:Gau):(addX (addX (addX (mulX (d3 g10 g11 g13 g20 g21 g23 g30 g31 g33) g00) (mulX (negX (d3 g00 g01 g03 g20 g21 g23 g30 g31 g33)) g10)) (mulX (d3 g00 g01 g03 g10 g11 g13 g30 g31 g33) g20)) (mulX (negX (d3 g00 g01 g03 g10 g11 g13 g20 g21 g23)) g30))=G0:=yA (by simp only[d4,d3,d2,mulX,addX,negX,G0];grind) (by simp only[d4,d3,d2,mulX,addX,negX,G0];grind)
theorem yUC(g00 g01 g02 g03 g10 g11 g12 g13 g20 g21 g22 g23 g30 g31 g32 g33:Gau):(addX (addX (addX (mulX (d3 g10 g11 g13 g20 g21 g23 g30 g31 g33) g01) (mulX (negX (d3 g00 g01 g03 g20 g21 g23 g30 g31 g33)) g11)) (mulX (d3 g00 g01 g03 g10 g11 g13 g30 g31 g33) g21)) (mulX (negX (d3 g00 g01 g03 g10 g11 g13 g20 g21 g23)) g31))=G0:=yA (by simp only[d4,d3,d2,mulX,addX,negX,G0];grind) (by simp only[d4,d3,d2,mulX,addX,negX,G0];grind)
theorem yIN(g00 g01 g02 g03 g10 g11 g12 g13 g20 g21 g22 g23 g30 g31 g32 g33:Gau):(addX (addX (addX (mulX (d3 g10 g11 g13 g20 g21 g23 g30 g31 g33) g02) (mulX (negX (d3 g00 g01 g03 g20 g21 g23 g30 g31 g33)) g12)) (mulX (d3 g00 g01 g03 g10 g11 g13 g30 g31 g33) g22)) (mulX (negX (d3 g00 g01 g03 g10 g11 g13 g20 g21 g23)) g32))=d4 g00 g01 g02 g03 g10 g11 g12 g13 g20 g21 g22 g23 g30 g31 g32 g33:=yA (by simp only[d4,d3,d2,mulX,addX,negX,G0];grind) (by simp only[d4,d3,d2,mulX,addX,negX,G0];grind)
theorem yU5(g00 g01 g02 g03 g10 g11 g12 g13 g20 g21 g22 g23 g30 g31 g32 g33:Gau):(addX (addX (addX (mulX (d3 g10 g11 g13 g20 g21 g23 g30 g31 g33) g03) (mulX (negX (d3 g00 g01 g03 g20 g21 g23 g30 g31 g33)) g13)) (mulX (d3 g00 g01 g03 g10 g11 g13 g30 g31 g33) g23)) (mulX (negX (d3 g00 g01 g03 g10 g11 g13 g20 g21 g23)) g33))=G0:=yA (by simp only[d4,d3,d2,mulX,addX,negX,G0];grind) (by simp only[d4,d3,d2,mulX,addX,negX,G0];grind)
theorem yUD(g00 g01 g02 g03 g10 g11 g12 g13 g20 g21 g22 g23 g30 g31 g32 g33:Gau):(addX (addX (addX (mulX (negX (d3 g10 g11 g12 g20 g21 g22 g30 g31 g32)) g00) (mulX (d3 g00 g01 g02 g20 g21 g22 g30 g31 g32) g10)) (mulX (negX (d3 g00 g01 g02 g10 g11 g12 g30 g31 g32)) g20)) (mulX (d3 g00 g01 g02 g10 g11 g12 g20 g21 g22) g30))=G0:=yA (by simp only[d4,d3,d2,mulX,addX,negX,G0];grind) (by simp only[d4,d3,d2,mulX,addX,negX,G0];grind)
theorem yUH(g00 g01 g02 g03 g10 g11 g12 g13 g20 g21 g22 g23 g30 g31 g32 g33:Gau):(addX (addX (addX (mulX (negX (d3 g10 g11 g12 g20 g21 g22 g30 g31 g32)) g01) (mulX (d3 g00 g01 g02 g20 g21 g22 g30 g31 g32) g11)) (mulX (negX (d3 g00 g01 g02 g10 g11 g12 g30 g31 g32)) g21)) (mulX (d3 g00 g01 g02 g10 g11 g12 g20 g21 g22) g31))=G0:=yA (by simp only[d4,d3,d2,mulX,addX,negX,G0];grind) (by simp only[d4,d3,d2,mulX,addX,negX,G0];grind)
theorem yTC(g00 g01 g02 g03 g10 g11 g12 g13 g20 g21 g22 g23 g30 g31 g32 g33:Gau):(addX (addX (addX (mulX (negX (d3 g10 g11 g12 g20 g21 g22 g30 g31 g32)) g02) (mulX (d3 g00 g01 g02 g20 g21 g22 g30 g31 g32) g12)) (mulX (negX (d3 g00 g01 g02 g10 g11 g12 g30 g31 g32)) g22)) (mulX (d3 g00 g01 g02 g10 g11 g12 g20 g21 g22) g32))=G0:=yA (by simp only[d4,d3,d2,mulX,addX,negX,G0];grind) (by simp only[d4,d3,d2,mulX,addX,negX,G0];grind)
theorem yHN(g00 g01 g02 g03 g10 g11 g12 g13 g20 g21 g22 g23 g30 g31 g32 g33:Gau):(addX (addX (addX (mulX (negX (d3 g10 g11 g12 g20 g21 g22 g30 g31 g32)) g03) (mulX (d3 g00 g01 g02 g20 g21 g22 g30 g31 g32) g13)) (mulX (negX (d3 g00 g01 g02 g10 g11 g12 g30 g31 g32)) g23)) (mulX (d3 g00 g01 g02 g10 g11 g12 g20 g21 g22) g33))=d4 g00 g01 g02 g03 g10 g11 g12 g13 g20 g21 g22 g23 g30 g31 g32 g33:=yA (by simp only[d4,d3,d2,mulX,addX,negX,G0];grind) (by simp only[d4,d3,d2,mulX,addX,negX,G0];grind)
theorem rof0(g00 g01 g02 g03 g10 g11 g12 g13 g20 g21 g22 g23 g30 g31 g32 g33:Gau):(addX (mulX (negX (d3 g01 g02 g03 g11 g12 g13 g21 g22 g23)) g00) (addX (mulX (d3 g00 g02 g03 g10 g12 g13 g20 g22 g23) g01) (addX (mulX (negX (d3 g00 g01 g03 g10 g11 g13 g20 g21 g23)) g02) (mulX (d3 g00 g01 g02 g10 g11 g12 g20 g21 g22) g03))))=G0:=yA (by simp only[d4,d3,d2,mulX,addX,negX,G0];grind) (by simp only[d4,d3,d2,mulX,addX,negX,G0];grind)
theorem rof1(g00 g01 g02 g03 g10 g11 g12 g13 g20 g21 g22 g23 g30 g31 g32 g33:Gau):(addX (mulX (negX (d3 g01 g02 g03 g11 g12 g13 g21 g22 g23)) g10) (addX (mulX (d3 g00 g02 g03 g10 g12 g13 g20 g22 g23) g11) (addX (mulX (negX (d3 g00 g01 g03 g10 g11 g13 g20 g21 g23)) g12) (mulX (d3 g00 g01 g02 g10 g11 g12 g20 g21 g22) g13))))=G0:=yA (by simp only[d4,d3,d2,mulX,addX,negX,G0];grind) (by simp only[d4,d3,d2,mulX,addX,negX,G0];grind)
theorem rof2(g00 g01 g02 g03 g10 g11 g12 g13 g20 g21 g22 g23 g30 g31 g32 g33:Gau):(addX (mulX (negX (d3 g01 g02 g03 g11 g12 g13 g21 g22 g23)) g20) (addX (mulX (d3 g00 g02 g03 g10 g12 g13 g20 g22 g23) g21) (addX (mulX (negX (d3 g00 g01 g03 g10 g11 g13 g20 g21 g23)) g22) (mulX (d3 g00 g01 g02 g10 g11 g12 g20 g21 g22) g23))))=G0:=yA (by simp only[d4,d3,d2,mulX,addX,negX,G0];grind) (by simp only[d4,d3,d2,mulX,addX,negX,G0];grind)
theorem rof3(g00 g01 g02 g03 g10 g11 g12 g13 g20 g21 g22 g23 g30 g31 g32 g33:Gau):(addX (mulX (negX (d3 g01 g02 g03 g11 g12 g13 g21 g22 g23)) g30) (addX (mulX (d3 g00 g02 g03 g10 g12 g13 g20 g22 g23) g31) (addX (mulX (negX (d3 g00 g01 g03 g10 g11 g13 g20 g21 g23)) g32) (mulX (d3 g00 g01 g02 g10 g11 g12 g20 g21 g22) g33))))=d4 g00 g01 g02 g03 g10 g11 g12 g13 g20 g21 g22 g23 g30 g31 g32 g33:=yA (by simp only[d4,d3,d2,mulX,addX,negX,G0];grind) (by simp only[d4,d3,d2,mulX,addX,negX,G0];grind)
end Go.Tw
end
