import Derived.Test.YtlaebedgpkiodaaGreatDoorPD2
set_option linter.all false
set_option maxRecDepth 100000
namespace Go.Tw
open Go.Vx Go.Vx.B Go.Proofs
def G1:Gau:=(1,0,())
theorem yTA:G1≠G0:=λ h=>by cases congrArg (λ z:Gau=>z.1) h
theorem yJt(c:List Gau)(t:Int):lc c [] t=G0:=by cases c<;>rfl
theorem yIq(t:Int):∀ (c:List Gau) (v:List (Int->Gau)) (d:List Gau) (w:List (Int->Gau)),c.length=v.length->lc (c++d) (v++w) t=addX (lc c v t) (lc d w t)
 |[],[],d,w,_=>by
  show lc d w t=addX G0 (lc d w t)
  rw[y2d]
 |[],_::_,_,_,h=>by simp at h
 |_::_,[],_,_,h=>by simp at h
 |z::c,f::v,d,w,h=>by
  show addX (mulX z (f t)) (lc (c++d) (v++w) t)=addX (addX (mulX z (f t)) (lc c v t)) (lc d w t)
  rw[yIq t c v d w (by simpa using h),y4g]
theorem Dep.cons{T:List Int}{v:List (Int->Gau)}(h:Dep T v)(f:Int->Gau):Dep T (f::v):=by
 obtain ⟨c,h1,⟨z,h2,h3⟩,h4⟩:=h;refine ⟨G0::c,by simp[h1],⟨z,by simp[h2],h3⟩,λ t ht=>?_⟩
 show addX (mulX G0 (f t)) (lc c v t)=G0
 rw[h4 t ht];unfold addX mulX G0;simp
def Span(T:List Int)(w:List (Int->Gau))(f:Int->Gau):Prop:=∃ (d:Gau) (a:List Gau),d≠G0/\a.length=w.length/\∀ t∈T,mulX d (f t)=lc a w t
abbrev Sp:=(Int->Gau)×Gau×List Gau
def y4W(x y:Gau):List Gau->List Gau->List Gau
 |a::ra,b::rb=>addX (mulX x a) (negX (mulX y b))::y4W x y ra rb
 |_,_=>[]
theorem yCX(x y:Gau):∀ (a b:List Gau),a.length=b.length->(y4W x y a b).length=a.length
 |[],[],_=>rfl
 |[],_::_,h=>by simp at h
 |_::_,[],h=>by simp at h
 |a::ra,b::rb,h=>by
  unfold y4W;simp[yCX x y ra rb (by simpa using h)]
theorem yEP(x y:Gau)(t:Int):∀ (a b:List Gau) (w:List (Int->Gau)),a.length=w.length->b.length=w.length->lc (y4W x y a b) w t=addX (mulX x (lc a w t)) (negX (mulX y (lc b w t)))
 |[],[],[],_,_=>by simp[y4W,lc,addX,mulX,negX,G0]
 |[],[],_::_,h,_=>by simp at h
 |[],_::_,_,h,h'=>by rw[<- h]at h';simp at h'
 |_::_,[],_,h,h'=>by rw[<- h']at h;simp at h
 |_::_,_::_,[],h,_=>by simp at h
 |a::ra,b::rb,f::w,h,h'=>by
  show addX (mulX (addX (mulX x a) (negX (mulX y b))) (f t)) (lc (y4W x y ra rb) w t)=addX (mulX x (addX (mulX a (f t)) (lc ra w t))) (negX (mulX y (addX (mulX b (f t)) (lc rb w t))))
  rw[yEP x y t ra rb w (by simpa using h) (by simpa using h')]
  exact yC (by simp only[addX,mulX,negX];grind) (by simp only[addX,mulX,negX];grind)
def hd(q:Sp):Gau:=(q.2.2.head?).getD G0
def clr(p:Sp)(q:Sp):Sp:=(λ t=>addX (mulX (hd p) (mulX q.2.1 (q.1 t))) (negX (mulX (hd q) (mulX p.2.1 (p.1 t)))),G1,y4W (hd p) (hd q) q.2.2.tail p.2.2.tail)
theorem Span.app{T:List Int}{w:List (Int->Gau)}{f:Int->Gau}(h:Span T w f)(g:Int->Gau):Span T (w++[g]) f:=by
 obtain ⟨d,a,h1,h2,h3⟩:=h;exact ⟨d,a++[G0],h1,by simp[h2],λ t ht=>by rw[yLC t a w g h2];exact h3 t ht⟩
theorem yEb(t:Int):∀ w:List (Int->Gau),lc (List.replicate w.length G0) w t=G0
 |[]=>rfl
 |f::w=>by
  show addX (mulX G0 (f t)) (lc (List.replicate w.length G0) w t)=G0
  rw[yEb t w];simp[addX,mulX,G0]
theorem Span.last(T:List Int)(w:List (Int->Gau))(f:Int->Gau):Span T (w++[f]) f:=by
 refine ⟨G1,List.replicate w.length G0++[G1],yTA,by simp,λ t ht=>?_⟩
 rw[yIq t _ _ _ _ (by simp),yEb,y2d]
 show _=addX (mulX G1 (f t)) G0
 rw[y0N]
end Go.Tw
