import Derived.Test.YtpcnkpbpcebokaaGreatDoorPG2
set_option linter.all false
section
set_option maxRecDepth 100000
namespace Go.Tw
open Go.Vx Go.Vx.B Go.Proofs
def G1:Gau:=(1,0,())
theorem yU6:G1≠G0:=λ h=>by cases congrArg (λ z:Gau=>z.1) h
theorem y9Z(c:List Gau)(t:Int):lc c [] t=G0:=by cases c<;>rfl
theorem yL8(t:Int):∀ (c:List Gau) (v:List (Int->Gau)) (d:List Gau) (w:List (Int->Gau)),c.length=v.length->lc (c++d) (v++w) t=addX (lc c v t) (lc d w t)
 |[],[],d,w,_=>by
  show lc d w t=addX G0 (lc d w t)
  rw[y2u]
 |[],_::_,_,_,h=>by simp at h
 |_::_,[],_,_,h=>by simp at h
 |z::c,f::v,d,w,h=>by
  show addX (mulX z (f t)) (lc (c++d) (v++w) t)=addX (addX (mulX z (f t)) (lc c v t)) (lc d w t)
  rw[yL8 t c v d w (by simpa using h),y30]
theorem Dep.cons{T:List Int}{v:List (Int->Gau)}(h:Dep T v)(f:Int->Gau):Dep T (f::v):=by
 obtain ⟨c,h1,⟨z,h2,h3⟩,h4⟩:=h;refine ⟨G0::c,by simp[h1],⟨z,by simp[h2],h3⟩,λ t ht=>?_⟩
 show addX (mulX G0 (f t)) (lc c v t)=G0
 rw[h4 t ht];unfold addX mulX G0;simp
def Span(T:List Int)(w:List (Int->Gau))(f:Int->Gau):Prop:=∃ (d:Gau) (a:List Gau),d≠G0/\a.length=w.length/\∀ t∈T,mulX d (f t)=lc a w t
abbrev Sp:=(Int->Gau)×Gau×List Gau
def yAi(x y:Gau):List Gau->List Gau->List Gau
 |a::ra,b::rb=>addX (mulX x a) (negX (mulX y b))::yAi x y ra rb
 |_,_=>[]
theorem yLd(x y:Gau)(t:Int):∀ (a b:List Gau) (w:List (Int->Gau)),a.length=w.length->b.length=w.length->lc (yAi x y a b) w t=addX (mulX x (lc a w t)) (negX (mulX y (lc b w t)))
 |[],[],[],_,_=>by simp[yAi,lc,addX,mulX,negX,G0]
 |[],[],_::_,h,_=>by simp at h
 |[],_::_,_,h,h'=>by rw[<- h]at h';simp at h'
 |_::_,[],_,h,h'=>by rw[<- h']at h;simp at h
 |_::_,_::_,[],h,_=>by simp at h
 |a::ra,b::rb,f::w,h,h'=>by
  show addX (mulX (addX (mulX x a) (negX (mulX y b))) (f t)) (lc (yAi x y ra rb) w t)=addX (mulX x (addX (mulX a (f t)) (lc ra w t))) (negX (mulX y (addX (mulX b (f t)) (lc rb w t))))
  rw[yLd x y t ra rb w (by simpa using h) (by simpa using h')]
  exact yA (by simp only[addX,mulX,negX];grind) (by simp only[addX,mulX,negX];grind)
def hd(q:Sp):Gau:=(q.2.2.head?).getD G0
def clr(p:Sp)(q:Sp):Sp:=(λ t=>addX (mulX (hd p) (mulX q.2.1 (q.1 t))) (negX (mulX (hd q) (mulX p.2.1 (p.1 t)))),G1,yAi (hd p) (hd q) q.2.2.tail p.2.2.tail)
theorem Span.app{T:List Int}{w:List (Int->Gau)}{f:Int->Gau}(h:Span T w f)(g:Int->Gau):Span T (w++[g]) f:=by
 obtain ⟨d,a,h1,h2,h3⟩:=h;exact ⟨d,a++[G0],h1,by simp[h2],λ t ht=>by rw[yJD t a w g h2];exact h3 t ht⟩
theorem yAf(t:Int):∀ w:List (Int->Gau),lc (List.replicate w.length G0) w t=G0
 |[]=>rfl
 |f::w=>by
  show addX (mulX G0 (f t)) (lc (List.replicate w.length G0) w t)=G0
  rw[yAf t w];simp[addX,mulX,G0]
theorem Span.last(T:List Int)(w:List (Int->Gau))(f:Int->Gau):Span T (w++[f]) f:=by
 refine ⟨G1,List.replicate w.length G0++[G1],yU6,by simp,λ t ht=>?_⟩
 rw[yL8 t _ _ _ _ (by simp),yAf,y2u]
 show _=addX (mulX G1 (f t)) G0
 rw[y08]
end Go.Tw
end
section
set_option maxRecDepth 100000
namespace Go.Tw
open Go.Vx Go.Vx.B Go.Proofs
theorem yGF:∀ (c l:List Gau),(∀ z∈l,z=G0)->dotX c l=G0
 |[],_,_=>by unfold dotX;rfl
 |_::_,[],_=>by unfold dotX;rfl
 |z::c,g::l,h=>by
  show addX (mulX z g) (dotX c l)=G0
  rw[h g (by simp),yGF c l λ x hx=>h x (by simp[hx])]
  simp[addX,mulX,G0]
def putX(b:List Gau)(j:Nat)(rows:List (List Gau)):List (List Gau):=List.zipWith (λ r z=>r.set j z) rows b
def y27(T:List Int)(v:List (Int->Gau))(f:Int->Gau):List Gau:=(List.range v.length).map λ j=>detX (putX (v.map λ a=>ip T a f) j (gm T v)) (List.range v.length)
theorem yBh(T:List Int)(f:Int->Gau):∀ v:List (Int->Gau),v.length<=3->∀ g∈v,ip T g (lc (y27 T v f++[negX (DX T v)]) (v++[f]))=G0
 |[],_,g,hg=>by cases hg
 |[a],_,g,hg=>by
  rw[List.mem_singleton.1 hg,y68];show addX (mulX (detX [[ip T a f]] [0]) (ip T a a)) (addX (mulX (negX (detX [[ip T a a]] [0])) (ip T a f)) G0)=G0
  rw[e1,e1];show addX (mulX (ip T a f) (ip T a a)) (addX (mulX (negX (ip T a a)) (ip T a f)) G0)=G0
  exact yA (by simp only[addX,mulX,negX,G0];grind) (by simp only[addX,mulX,negX,G0];grind)
 |[a,b],_,g,hg=>by
  have key:∀ g:Int->Gau,ip T g (lc (y27 T [a,b] f++[negX (DX T [a,b])]) ([a,b]++[f]))=addX (mulX (d2 (ip T a f) (ip T a b) (ip T b f) (ip T b b)) (ip T g a)) (addX (mulX (d2 (ip T a a) (ip T a f) (ip T b a) (ip T b f)) (ip T g b)) (addX (mulX (negX (d2 (ip T a a) (ip T a b) (ip T b a) (ip T b b))) (ip T g f)) G0)):=λ g=>by
   rw[y68];show addX (mulX (detX [[ip T a f,ip T a b],[ip T b f,ip T b b]] [0,1]) (ip T g a)) (addX (mulX (detX [[ip T a a,ip T a f],[ip T b a,ip T b f]] [0,1]) (ip T g b)) (addX (mulX (negX (detX [[ip T a a,ip T a b],[ip T b a,ip T b b]] [0,1])) (ip T g f)) G0))=_
   rw[e2,e2,e2];rfl
  rw[key];rcases List.mem_cons.1 hg with rfl|hg
  ·exact yA (by simp only[d2,addX,mulX,negX,G0];grind) (by simp only[d2,addX,mulX,negX,G0];grind)
  ·rw[List.mem_singleton.1 hg];exact yA (by simp only[d2,addX,mulX,negX,G0];grind) (by simp only[d2,addX,mulX,negX,G0];grind)
 |[a,b,h],_,g,hg=>by
  have key:∀ g:Int->Gau,ip T g (lc (y27 T [a,b,h] f++[negX (DX T [a,b,h])]) ([a,b,h]++[f])) =
    addX (mulX (d3 (ip T a f) (ip T a b) (ip T a h) (ip T b f) (ip T b b) (ip T b h) (ip T h f) (ip T h b) (ip T h h)) (ip T g a)) (addX (mulX (d3 (ip T a a) (ip T a f) (ip T a h) (ip T b a) (ip T b f) (ip T b h) (ip T h a) (ip T h f) (ip T h h)) (ip T g b)) (addX (mulX (d3 (ip T a a) (ip T a b) (ip T a f) (ip T b a) (ip T b b) (ip T b f) (ip T h a) (ip T h b) (ip T h f)) (ip T g h)) (addX (mulX (negX (d3 (ip T a a) (ip T a b) (ip T a h) (ip T b a) (ip T b b) (ip T b h) (ip T h a) (ip T h b) (ip T h h))) (ip T g f)) G0))):=λ g=>by
   rw[y68];show addX (mulX (detX [[ip T a f,ip T a b,ip T a h],[ip T b f,ip T b b,ip T b h],[ip T h f,ip T h b,ip T h h]] [0,1,2]) (ip T g a)) (addX (mulX (detX [[ip T a a,ip T a f,ip T a h],[ip T b a,ip T b f,ip T b h],[ip T h a,ip T h f,ip T h h]] [0,1,2]) (ip T g b)) (addX (mulX (detX [[ip T a a,ip T a b,ip T a f],[ip T b a,ip T b b,ip T b f],[ip T h a,ip T h b,ip T h f]] [0,1,2]) (ip T g h)) (addX (mulX (negX (detX [[ip T a a,ip T a b,ip T a h],[ip T b a,ip T b b,ip T b h],[ip T h a,ip T h b,ip T h h]] [0,1,2])) (ip T g f)) G0)))=_
   rw[e3,e3,e3,e3];rfl
  rw[key];clear key;have hh:g=a\/g=b\/g=h:=by simpa using hg
  clear hg;generalize hA:ip T a a=A;generalize hB:ip T a b=B;generalize hC:ip T a h=C;generalize hE:ip T b a=E;generalize hF:ip T b b=F;generalize hG:ip T b h=G;generalize hH:ip T h a=H;generalize hI:ip T h b=I;generalize hJ:ip T h h=J;generalize hK:ip T a f=K;generalize hL:ip T b f=L;generalize hM:ip T h f=M;rcases hh with rfl|rfl|rfl
  ·rw[hA,hB,hC,hK];exact yA (by simp only[d3,d2,addX,mulX,negX,G0];grind) (by simp only[d3,d2,addX,mulX,negX,G0];grind)
  ·rw[hE,hF,hG,hL];exact yA (by simp only[d3,d2,addX,mulX,negX,G0];grind) (by simp only[d3,d2,addX,mulX,negX,G0];grind)
  ·rw[hH,hI,hJ,hM];exact yA (by simp only[d3,d2,addX,mulX,negX,G0];grind) (by simp only[d3,d2,addX,mulX,negX,G0];grind)
 |_::_::_::_::_,h,_,_=>by simp at h
end Go.Tw
end
