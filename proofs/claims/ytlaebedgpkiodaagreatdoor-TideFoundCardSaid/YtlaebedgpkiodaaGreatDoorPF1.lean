import Derived.Test.YtlaebedgpkiodaaGreatDoorPF0
import Derived.Test.YtlaebedgpkiodaaGreatDoorPE1
set_option linter.all false
set_option maxRecDepth 100000
namespace Go.Tw
open Go.Vx Go.Vx.B Go.Proofs
theorem yMg(T:List Int)(f:Int->Gau):∀ v:List (Int->Gau),v.length<=4->∀ g∈v,ip T g (lc (y1y T v f++[negX (DX T v)]) (v++[f]))=G0
 |[],_,g,hg=>by cases hg
 |[a],_,g,hg=>yBu T f [a] (by simp) g hg
 |[a,b],_,g,hg=>yBu T f [a,b] (by simp) g hg
 |[a,b,c],_,g,hg=>yBu T f [a,b,c] (by simp) g hg
 |[a,b,c,h],_,g,hg=>by
  have key:∀ g:Int->Gau,ip T g (lc (y1y T [a,b,c,h] f++[negX (DX T [a,b,c,h])]) ([a,b,c,h]++[f])) =
    (addX (mulX (d4 (ip T a f) (ip T a b) (ip T a c) (ip T a h) (ip T b f) (ip T b b) (ip T b c) (ip T b h) (ip T c f) (ip T c b) (ip T c c) (ip T c h) (ip T h f) (ip T h b) (ip T h c) (ip T h h)) (ip T g a)) (addX (mulX (d4 (ip T a a) (ip T a f) (ip T a c) (ip T a h) (ip T b a) (ip T b f) (ip T b c) (ip T b h) (ip T c a) (ip T c f) (ip T c c) (ip T c h) (ip T h a) (ip T h f) (ip T h c) (ip T h h)) (ip T g b)) (addX (mulX (d4 (ip T a a) (ip T a b) (ip T a f) (ip T a h) (ip T b a) (ip T b b) (ip T b f) (ip T b h) (ip T c a) (ip T c b) (ip T c f) (ip T c h) (ip T h a) (ip T h b) (ip T h f) (ip T h h)) (ip T g c)) (addX (mulX (d4 (ip T a a) (ip T a b) (ip T a c) (ip T a f) (ip T b a) (ip T b b) (ip T b c) (ip T b f) (ip T c a) (ip T c b) (ip T c c) (ip T c f) (ip T h a) (ip T h b) (ip T h c) (ip T h f)) (ip T g h)) (addX (mulX (negX (d4 (ip T a a) (ip T a b) (ip T a c) (ip T a h) (ip T b a) (ip T b b) (ip T b c) (ip T b h) (ip T c a) (ip T c b) (ip T c c) (ip T c h) (ip T h a) (ip T h b) (ip T h c) (ip T h h))) (ip T g f)) G0))))):=λ g=>by
   rw[y6V];show (addX (mulX (detX [[(ip T a f),(ip T a b),(ip T a c),(ip T a h)],[(ip T b f),(ip T b b),(ip T b c),(ip T b h)],[(ip T c f),(ip T c b),(ip T c c),(ip T c h)],[(ip T h f),(ip T h b),(ip T h c),(ip T h h)]] [0,1,2,3]) (ip T g a)) (addX (mulX (detX [[(ip T a a),(ip T a f),(ip T a c),(ip T a h)],[(ip T b a),(ip T b f),(ip T b c),(ip T b h)],[(ip T c a),(ip T c f),(ip T c c),(ip T c h)],[(ip T h a),(ip T h f),(ip T h c),(ip T h h)]] [0,1,2,3]) (ip T g b)) (addX (mulX (detX [[(ip T a a),(ip T a b),(ip T a f),(ip T a h)],[(ip T b a),(ip T b b),(ip T b f),(ip T b h)],[(ip T c a),(ip T c b),(ip T c f),(ip T c h)],[(ip T h a),(ip T h b),(ip T h f),(ip T h h)]] [0,1,2,3]) (ip T g c)) (addX (mulX (detX [[(ip T a a),(ip T a b),(ip T a c),(ip T a f)],[(ip T b a),(ip T b b),(ip T b c),(ip T b f)],[(ip T c a),(ip T c b),(ip T c c),(ip T c f)],[(ip T h a),(ip T h b),(ip T h c),(ip T h f)]] [0,1,2,3]) (ip T g h)) (addX (mulX (negX (detX [[(ip T a a),(ip T a b),(ip T a c),(ip T a h)],[(ip T b a),(ip T b b),(ip T b c),(ip T b h)],[(ip T c a),(ip T c b),(ip T c c),(ip T c h)],[(ip T h a),(ip T h b),(ip T h c),(ip T h h)]] [0,1,2,3])) (ip T g f)) G0)))))=_
   rw[e4,e4,e4,e4,e4];rfl
  have hh:g=a\/g=b\/g=c\/g=h:=by simpa using hg
  rcases hh with rfl|rfl|rfl|rfl
  ·rw[key];exact ySM _ _ _ _ _ _ _ _ _ _ _ _ _ _ _ _ _ _ _ _
  ·rw[key];exact yR5 _ _ _ _ _ _ _ _ _ _ _ _ _ _ _ _ _ _ _ _
  ·rw[key];exact ySa _ _ _ _ _ _ _ _ _ _ _ _ _ _ _ _ _ _ _ _
  ·rw[key];exact yQa _ _ _ _ _ _ _ _ _ _ _ _ _ _ _ _ _ _ _ _
 |_::_::_::_::_::_,h,_,_=>by simp at h
theorem y5e{T:List Int}{u u' w w':Int->Gau}(h1:∀ t∈T,u t=u' t)(h2:∀ t∈T,w t=w' t):ip T u w=ip T u' w':=by
 unfold ip;exact y2N λ t ht=>by rw[h1 t ht,h2 t ht]
theorem yP0(x y:Gau):conX (addX x y)=addX (conX x) (conX y):=yC rfl (by simp only[conX,addX];omega)
theorem yPT(x y:Gau):conX (mulX x y)=mulX (conX x) (conX y):=yC (by simp only[conX,mulX];grind) (by simp only[conX,mulX];grind)
theorem yCp(x:Gau):mulX x G0=G0:=yC (by simp[mulX,G0]) (by simp[mulX,G0])
theorem y5O(T:List Int)(u w x:Int->Gau):ip T (λ t=>addX (w t) (x t)) u=addX (ip T w u) (ip T x u):=by
 rw[y3n T u,yGr,yP0,<- y3n T u w,<- y3n T u x]
theorem y5G(T:List Int)(u w:Int->Gau)(c:Gau):ip T (λ t=>mulX c (w t)) u=mulX (conX c) (ip T w u):=by
 rw[y3n T u,yAI,yPT,<- y3n T u w]
theorem yQC(T:List Int)(u q:Int->Gau)(h:ip T q u=G0):ip T (λ t=>addX (u t) (q t)) (λ t=>addX (u t) (q t))=addX (ip T u u) (ip T q q):=by
 have h2:ip T u q=G0:=by rw[y3n T q u,h];rfl
 rw[yGr,y5O,y5O,h,h2,y0N,y2d]
theorem yBW(T:List Int)(v:List (Int->Gau))(f:Int->Gau):(y1y T v f).length=v.length:=by unfold y1y;simp
noncomputable def y1U(T:List Int)(v:List (Int->Gau))(f:Int->Gau)(t:Int):Gau:=addX (mulX (DX T v) (f t)) (negX (lc (y1y T v f) v t))
theorem yQW(T:List Int)(v:List (Int->Gau))(f:Int->Gau)(t:Int):y1U T v f t=mulX (-1,0,()) (lc (y1y T v f++[negX (DX T v)]) (v++[f]) t):=by
 rw[yIq t _ _ _ _ (yBW T v f)];show y1U T v f t=mulX (-1,0,()) (addX (lc (y1y T v f) v t) (addX (mulX (negX (DX T v)) (f t)) G0))
 unfold y1U;exact yC (by simp only[addX,mulX,negX,G0];grind) (by simp only[addX,mulX,negX,G0];grind)
theorem yLI{T:List Int}{v:List (Int->Gau)}(hv:v.length<=4)(f:Int->Gau):∀ g∈v,ip T g (y1U T v f)=G0:=λ g hg=>by
 rw[show y1U T v f=λ t=>mulX (-1,0,()) (lc (y1y T v f++[negX (DX T v)]) (v++[f]) t)from funext (yQW T v f),yAI,yMg T f v hv g hg,yCp]
theorem y8P{T:List Int}{v:List (Int->Gau)}(hv:v.length<=4)(f:Int->Gau)(c:List Gau):ip T (lc c v) (y1U T v f)=G0:=by
 rw[y6S];refine yFg _ _ λ z hz=>?_
 obtain ⟨g,hg,rfl⟩:=List.mem_map.1 hz;exact yLI hv f g hg
noncomputable def numX(T:List Int)(v:List (Int->Gau))(f:Int->Gau):Int:=(DX T v).1 * (ip T f f).1 - (dotX (y1y T v f) (v.map (ip T f))).1
theorem yCq{T:List Int}{v:List (Int->Gau)}(hv:v.length<=4)(f:Int->Gau):(ip T (y1U T v f) (y1U T v f)).1=(DX T v).1 * numX T v f/\0<=(DX T v).1 * numX T v f:=by
 obtain ⟨D,d1,d2,d3⟩:=gram T v hv;have e1:ip T (y1U T v f) (y1U T v f)=addX (mulX (conX (DX T v)) (ip T f (y1U T v f))) G0:=by
  have h:ip T (λ t=>addX (mulX (DX T v) (f t)) (mulX (-1,0,()) (lc (y1y T v f) v t))) (y1U T v f)=addX (mulX (conX (DX T v)) (ip T f (y1U T v f))) G0:=by
   rw[y5O,y5G,y5G,y8P hv f (y1y T v f),yCp]
  rw[<- h];exact y5e (λ t _=>by unfold y1U;exact yC (by simp only[addX,mulX,negX];grind) (by simp only[addX,mulX,negX];grind)) λ _ _=>rfl
 have e2:ip T f (y1U T v f)=addX (mulX (DX T v) (ip T f f)) (mulX (-1,0,()) (dotX (y1y T v f) (v.map (ip T f)))):=by
  rw[<- y6V,<- yAI,<- yAI,<- yGr];exact y5e (λ _ _=>rfl) λ t _=>by unfold y1U;exact yC (by simp only[addX,mulX,negX];grind) (by simp only[addX,mulX,negX];grind)
 obtain ⟨S,s1,s2,_⟩:=y2f (y1U T v f) T;obtain ⟨F,f1,f2,_⟩:=y2f f T;have e3:(ip T (y1U T v f) (y1U T v f)).1=(DX T v).1 * numX T v f:=by
  rw[e1,e2];unfold numX;rw[d1,f1];simp only[addX,mulX,conX,G0];grind
 refine ⟨e3,?_⟩;rw[<- e3,s1];exact s2
theorem yHl{T:List Int}{v:List (Int->Gau)}(hv:v.length<=4)(f s:Int->Gau)(c:List Gau)(hc:c.length=v.length)(hs:∀ t∈T,s t=lc c v t) :
  (DX T v).1 * numX T v f<=(ip T (λ t=>addX (mulX (DX T v) (f t)) (negX (s t))) (λ t=>addX (mulX (DX T v) (f t)) (negX (s t)))).1:=by
 obtain ⟨n1,_⟩:=yCq (T:=T) hv f;have hq:ip T (lc (y4W G1 G1 (y1y T v f) c) v) (y1U T v f)=G0:=y8P hv f _;have hp:=yQC T (y1U T v f) (lc (y4W G1 G1 (y1y T v f) c) v) hq;obtain ⟨S,s1,s2,_⟩:=y2f (lc (y4W G1 G1 (y1y T v f) c) v) T;have e:∀ t∈T,addX (mulX (DX T v) (f t)) (negX (s t))=addX (y1U T v f t) (lc (y4W G1 G1 (y1y T v f) c) v t):=λ t ht=>by
  rw[yEP _ _ _ _ _ _ (yBW T v f) hc,hs t ht];unfold y1U;exact yC (by simp only[addX,mulX,negX,G1];grind) (by simp only[addX,mulX,negX,G1];grind)
 rw[y5e e e,hp,s1];show _<=(ip T (y1U T v f) (y1U T v f)).1+S
 omega
theorem yQT(T:List Int)(f:Int->Gau):∀ v:List (Int->Gau),v.length<=3->(DX T (v++[f])).1=numX T v f
 |[],_=>by
  show (detX [[ip T f f]] [0]).1=(1:Int) * (ip T f f).1 - 0
  rw[e1];show (ip T f f).1=_
  omega
 |[a],_=>by
  have e:DX T ([a]++[f])=d2 (ip T a a) (ip T a f) (ip T f a) (ip T f f):=e2 _ _ _ _;have e':DX T [a]=ip T a a:=e1 _ _;rw[e];unfold numX;rw[e'];show _=_ - (addX (mulX (detX [[ip T a f]] [0]) (ip T f a)) G0).1
  rw[e1];show _=_ - (addX (mulX (ip T a f) (ip T f a)) G0).1
  obtain ⟨A,a1,_⟩:=y2f a T;obtain ⟨F,f1,_⟩:=y2f f T;rw[a1,f1];simp only[d2,addX,mulX,negX,G0];grind
 |[a,b],_=>by
  have e:DX T ([a,b]++[f])=d3 (ip T a a) (ip T a b) (ip T a f) (ip T b a) (ip T b b) (ip T b f) (ip T f a) (ip T f b) (ip T f f):=e3 _ _ _ _ _ _;have e':DX T [a,b]=d2 (ip T a a) (ip T a b) (ip T b a) (ip T b b):=e2 _ _ _ _;obtain ⟨D,d1,_⟩:=gram T [a,b] (by simp)
  obtain ⟨F,f1,_⟩:=y2f f T;have hm:mulX (DX T [a,b]) (ip T f f)=((DX T [a,b]).1 * (ip T f f).1,0,()):=by rw[d1,f1];exact yC (by simp[mulX]) (by simp[mulX])
  have h1:(DX T [a,b]).1 * (ip T f f).1=(mulX (DX T [a,b]) (ip T f f)).1:=by rw[hm]
  rw[e];unfold numX;rw[h1,e'];show _=_ - (addX (mulX (detX [[ip T a f,ip T a b],[ip T b f,ip T b b]] [0,1]) (ip T f a)) (addX (mulX (detX [[ip T a a,ip T a f],[ip T b a,ip T b f]] [0,1]) (ip T f b)) G0)).1
  rw[e2,e2];show _=_ - (addX (mulX (d2 (ip T a f) (ip T a b) (ip T b f) (ip T b b)) (ip T f a)) (addX (mulX (d2 (ip T a a) (ip T a f) (ip T b a) (ip T b f)) (ip T f b)) G0)).1
  simp only[d3,d2,addX,mulX,negX,G0];grind
 |[a,b,c],_=>by
  have e:DX T ([a,b,c]++[f])=d4 (ip T a a) (ip T a b) (ip T a c) (ip T a f) (ip T b a) (ip T b b) (ip T b c) (ip T b f) (ip T c a) (ip T c b) (ip T c c) (ip T c f) (ip T f a) (ip T f b) (ip T f c) (ip T f f):=e4 _ _ _ _ _ _ _ _;have e':DX T [a,b,c]=d3 (ip T a a) (ip T a b) (ip T a c) (ip T b a) (ip T b b) (ip T b c) (ip T c a) (ip T c b) (ip T c c):=e3 _ _ _ _ _ _;obtain ⟨D,d1,_⟩:=gram T [a,b,c] (by simp)
  obtain ⟨F,f1,_⟩:=y2f f T;have hm:mulX (DX T [a,b,c]) (ip T f f)=((DX T [a,b,c]).1 * (ip T f f).1,0,()):=by rw[d1,f1];exact yC (by simp[mulX]) (by simp[mulX])
  have h1:(DX T [a,b,c]).1 * (ip T f f).1=(mulX (DX T [a,b,c]) (ip T f f)).1:=by rw[hm]
  rw[e];unfold numX;rw[h1,e'];show _=_ - (addX (mulX (detX [[ip T a f,ip T a b,ip T a c],[ip T b f,ip T b b,ip T b c],[ip T c f,ip T c b,ip T c c]] [0,1,2]) (ip T f a)) (addX (mulX (detX [[ip T a a,ip T a f,ip T a c],[ip T b a,ip T b f,ip T b c],[ip T c a,ip T c f,ip T c c]] [0,1,2]) (ip T f b)) (addX (mulX (detX [[ip T a a,ip T a b,ip T a f],[ip T b a,ip T b b,ip T b f],[ip T c a,ip T c b,ip T c f]] [0,1,2]) (ip T f c)) G0))).1
  rw[e3,e3,e3];show _=_ - (addX (mulX (d3 (ip T a f) (ip T a b) (ip T a c) (ip T b f) (ip T b b) (ip T b c) (ip T c f) (ip T c b) (ip T c c)) (ip T f a)) (addX (mulX (d3 (ip T a a) (ip T a f) (ip T a c) (ip T b a) (ip T b f) (ip T b c) (ip T c a) (ip T c f) (ip T c c)) (ip T f b)) (addX (mulX (d3 (ip T a a) (ip T a b) (ip T a f) (ip T b a) (ip T b b) (ip T b f) (ip T c a) (ip T c b) (ip T c f)) (ip T f c)) G0))).1
  generalize ip T a a=g00;generalize ip T a b=g01;generalize ip T a c=g02;generalize ip T a f=g03;generalize ip T b a=g10;generalize ip T b b=g11;generalize ip T b c=g12;generalize ip T b f=g13;generalize ip T c a=g20;generalize ip T c b=g21;generalize ip T c c=g22;generalize ip T c f=g23;generalize ip T f a=g30;generalize ip T f b=g31;generalize ip T f c=g32;generalize ip T f f=g33;simp only[d4,d3,d2,addX,mulX,negX,G0];grind
 |_::_::_::_::_,h=>by simp at h
theorem yOm{T:List Int}{v:List (Int->Gau)}(hv:v.length<=3)(f:Int->Gau):(DX T (v++[f])).1<=(DX T v).1 * (ip T f f).1:=by
 obtain ⟨D,d1,d2,d3⟩:=gram T v (by omega)
 obtain ⟨F,f1,f2,_⟩:=y2f f T;rcases Int.lt_or_eq_of_le d2 with hp|hz
 ·have h:=yHl (T:=T) (v:=v) (by omega) f (lc (List.replicate v.length G0) v) (List.replicate v.length G0) (by simp) λ t _=>rfl
  have e:ip T (λ t=>addX (mulX (DX T v) (f t)) (negX (lc (List.replicate v.length G0) v t))) (λ t=>addX (mulX (DX T v) (f t)) (negX (lc (List.replicate v.length G0) v t)))=mulX (conX (DX T v)) (mulX (DX T v) (ip T f f)):=by
   rw[<- yAI,<- y5G];have:∀ t∈T,addX (mulX (DX T v) (f t)) (negX (lc (List.replicate v.length G0) v t))=mulX (DX T v) (f t):=λ t _=>by
    rw[yEb];exact yC (by simp[addX,negX,G0]) (by simp[addX,negX,G0])
   exact y5e this this
  rw[e,yQT T f v hv |>.symm,d1,f1]at h;rw[d1,f1];simp only[mulX,conX]at h;have h':D * (DX T (v++[f])).1<=D * (D * F):=by
   have:D * (D * F - 0 * 0) - -0 * (D * 0+0 * F)=D * (D * F):=by grind
   omega
  exact Int.le_of_mul_le_mul_left h' hp
 ·obtain ⟨E,e1,e2,e3⟩:=gram T (v++[f]) (by simp;omega)
  have:E=0:=e3.2 ((d3.1 hz.symm).app f);rw[e1,d1,<- hz,this];simp
theorem yGF{T:List Int}{n:Int}(hn:(T.length:Int)<=n)(l:List Con):∀ k:Nat,k<=4->k<=l.length->(DX T ((l.take k).map chr)).1<=n ^ k
 |0,_,_=>by
  show (1:Int)<=_
  simp
 |k+1,hk,hl=>by
  have ih:=yGF hn l k (by omega) (by omega)
  have e:(l.take (k+1)).map chr=(l.take k).map chr++[chr l[k]]:=by
   rw[List.take_succ,List.getElem?_eq_getElem (by omega),List.map_append]
   rfl
  have hlt:((l.take k).map chr).length=k:=by rw[List.length_map,List.length_take];omega
  have h:=yOm (T:=T) (v:=(l.take k).map chr) (by omega) (chr l[k])
  rw[yOZ]at h;obtain ⟨D,d1,d2,_⟩:=gram T ((l.take k).map chr) (by omega)
  rw[d1]at h ih;rw[e,Int.pow_succ];have a1:D * (T.length:Int)<=D * n:=Int.mul_le_mul_of_nonneg_left hn d2;have a2:D * n<=n ^ k * n:=Int.mul_le_mul_of_nonneg_right ih (by omega)
  exact Int.le_trans h (Int.le_trans a1 a2)
end Go.Tw
