import Derived.Test.YtpcnkpbpcebokaaGreatDoorPG2
set_option linter.all false
set_option maxRecDepth 100000
open List (mem_append mem_cons mem_cons_of_mem)
namespace Go.Tw
open Go.Vx Go.Vx.B Go.Proofs
def G1:Gau:=(1,0,())
theorem yPL:G1≠G0:=λ h=>by cases congrArg (λ z:Gau=>z.1) h
theorem yIe{x y:Gau}(hx:x≠G0)(hy:y≠G0):mulX x y≠G0:=λ h=>hx (mul_zero h hy)
theorem yGD(c:List Gau)(t:Int):lc c [] t=G0:=by cases c<;>rfl
theorem y6h(t:Int):∀ (c:List Gau) (v:List (Int->Gau)) (d:List Gau) (w:List (Int->Gau)),c.length=v.length->lc (c++d) (v++w) t=addX (lc c v t) (lc d w t)
 |[],[],d,w,_=>by
  show lc d w t=addX G0 (lc d w t)
  rw[y8E]
 |[],_::_,_,_,h=>by simp at h
 |_::_,[],_,_,h=>by simp at h
 |z::c,f::v,d,w,h=>by
  show addX (mulX z (f t)) (lc (c++d) (v++w) t)=addX (addX (mulX z (f t)) (lc c v t)) (lc d w t)
  rw[y6h t c v d w (by simpa using h),y5w]
theorem Dep.cons{T:List Int}{v:List (Int->Gau)}(h:Dep T v)(f:Int->Gau):Dep T (f::v):=by
 obtain ⟨c,h1,⟨z,h2,h3⟩,h4⟩:=h;refine ⟨G0::c,by simp[h1],⟨z,by simp[h2],h3⟩,λ t ht=>?_⟩
 show addX (mulX G0 (f t)) (lc c v t)=G0
 rw[h4 t ht];unfold addX mulX G0;simp
theorem Dep.mid{T:List Int}{v w:List (Int->Gau)}{f:Int->Gau}(h:Dep T (f::(v++w))):Dep T (v++f::w):=by
 obtain ⟨c,h1,⟨z,h2,h3⟩,h4⟩:=h;cases c with
 |nil=>simp at h1
 |cons a c =>
  simp only[List.length_cons,List.length_append]at h1;have e:c=c.take v.length++c.drop v.length:=(List.take_append_drop _ _).symm;have l1:(c.take v.length).length=v.length:=by rw[List.length_take];omega
  refine ⟨c.take v.length++a::c.drop v.length,by simp;omega,⟨z,?_,h3⟩,λ t ht=>?_⟩
  ·rw[e]at h2;simp only[mem_cons,mem_append]at h2 ⊢;rcases h2 with h|h|h
   ·exact .inr (.inl h)
   ·exact .inl h
   ·exact .inr (.inr h)
  ·have:=h4 t ht;rw[e]at this;have h5:addX (mulX a (f t)) (lc (c.take v.length++c.drop v.length) (v++w) t)=G0:=this;rw[y6h t _ _ _ _ l1]at h5;rw[y6h t _ _ _ _ l1];show addX (lc (c.take v.length) v t) (addX (mulX a (f t)) (lc (c.drop v.length) w t))=G0
   rw[<- h5];exact yF (by simp only[addX];omega) (by simp only[addX];omega)
def Span(T:List Int)(w:List (Int->Gau))(f:Int->Gau):Prop:=∃ (d:Gau) (a:List Gau),d≠G0/\a.length=w.length/\∀ t∈T,mulX d (f t)=lc a w t
abbrev Sp:=(Int->Gau)×Gau×List Gau
def okSp(T:List Int)(w:List (Int->Gau))(q:Sp):Prop:=q.2.1≠G0/\q.2.2.length=w.length/\∀ t∈T,mulX q.2.1 (q.1 t)=lc q.2.2 w t
def y6q(x y:Gau):List Gau->List Gau->List Gau
 |a::ra,b::rb=>addX (mulX x a) (negX (mulX y b))::y6q x y ra rb
 |_,_=>[]
theorem yDG(x y:Gau):∀ (a b:List Gau),a.length=b.length->(y6q x y a b).length=a.length
 |[],[],_=>rfl
 |[],_::_,h=>by simp at h
 |_::_,[],h=>by simp at h
 |a::ra,b::rb,h=>by
  unfold y6q;simp[yDG x y ra rb (by simpa using h)]
theorem yEV(x y:Gau)(t:Int):∀ (a b:List Gau) (w:List (Int->Gau)),a.length=w.length->b.length=w.length->lc (y6q x y a b) w t=addX (mulX x (lc a w t)) (negX (mulX y (lc b w t)))
 |[],[],[],_,_=>by simp[y6q,lc,addX,mulX,negX,G0]
 |[],[],_::_,h,_=>by simp at h
 |[],_::_,_,h,h'=>by rw[<- h]at h';simp at h'
 |_::_,[],_,h,h'=>by rw[<- h']at h;simp at h
 |_::_,_::_,[],h,_=>by simp at h
 |a::ra,b::rb,f::w,h,h'=>by
  show addX (mulX (addX (mulX x a) (negX (mulX y b))) (f t)) (lc (y6q x y ra rb) w t)=addX (mulX x (addX (mulX a (f t)) (lc ra w t))) (negX (mulX y (addX (mulX b (f t)) (lc rb w t))))
  rw[yEV x y t ra rb w (by simpa using h) (by simpa using h')]
  exact yF (by simp only[addX,mulX,negX];grind) (by simp only[addX,mulX,negX];grind)
def hd(q:Sp):Gau:=(q.2.2.head?).getD G0
def clr(p:Sp)(q:Sp):Sp:=(λ t=>addX (mulX (hd p) (mulX q.2.1 (q.1 t))) (negX (mulX (hd q) (mulX p.2.1 (p.1 t)))),G1,y6q (hd p) (hd q) q.2.2.tail p.2.2.tail)
theorem yQu{T:List Int}{w0:Int->Gau}{w:List (Int->Gau)}{p q:Sp}(hp:okSp T (w0::w) p)(hq:okSp T (w0::w) q):okSp T w (clr p q):=by
 obtain ⟨p1,p2,p3⟩:=hp;obtain ⟨q1,q2,q3⟩:=hq;obtain ⟨pf,pd,pa⟩:=p;obtain ⟨qf,qd,qa⟩:=q;cases pa with
 |nil=>simp at p2
 |cons a pa =>
  cases qa with
  |nil=>simp at q2
  |cons b qa =>
   simp only[List.length_cons,Nat.add_right_cancel_iff]at p2 q2;refine ⟨yPL,?_,λ t ht=>?_⟩
   ·show (y6q a b qa pa).length=w.length
    rw[yDG _ _ _ _ (by omega),q2]
   ·show mulX G1 (addX (mulX a (mulX qd (qf t))) (negX (mulX b (mulX pd (pf t)))))=lc (y6q a b qa pa) w t
    rw[yEV _ _ _ _ _ _ q2 p2];have e1:mulX pd (pf t)=addX (mulX a (w0 t)) (lc pa w t):=p3 t ht;have e2:mulX qd (qf t)=addX (mulX b (w0 t)) (lc qa w t):=q3 t ht;rw[e1,e2];exact yF (by simp only[addX,mulX,negX,G1];grind) (by simp only[addX,mulX,negX,G1];grind)
theorem yO6(p:Sp):∀ (c:List Gau) (L:List Sp),c.length=L.length->∃ e:Gau,∀ t,lc c (L.map λ q=>(clr p q).1) t=addX (mulX e (p.1 t)) (lc (List.zipWith (λ z q=>mulX z (mulX (hd p) q.2.1)) c L) (L.map λ q=>q.1) t)
 |[],[],_=>⟨G0,λ t=>by simp[lc,addX,mulX,G0]⟩
 |[],_::_,h=>by simp at h
 |_::_,[],h=>by simp at h
 |z::c,q::L,h=>by
  obtain ⟨e,he⟩:=yO6 p c L (by simpa using h)
  refine ⟨addX e (negX (mulX z (mulX (hd q) p.2.1))),λ t=>?_⟩
  show addX (mulX z (addX (mulX (hd p) (mulX q.2.1 (q.1 t))) (negX (mulX (hd q) (mulX p.2.1 (p.1 t)))))) (lc c (L.map λ q=>(clr p q).1) t)=addX (mulX (addX e (negX (mulX z (mulX (hd q) p.2.1)))) (p.1 t)) (addX (mulX (mulX z (mulX (hd p) q.2.1)) (q.1 t)) (lc (List.zipWith (λ z q=>mulX z (mulX (hd p) q.2.1)) c L) (L.map λ q=>q.1) t))
  rw[he t];exact yF (by simp only[addX,mulX,negX];grind) (by simp only[addX,mulX,negX];grind)
theorem yNt(p:Sp)(hp:hd p≠G0):∀ (c:List Gau) (L:List Sp),c.length=L.length->(∀ q∈L,q.2.1≠G0)->(∃ z∈c,z≠G0)->∃ z∈List.zipWith (λ z (q:Sp)=>mulX z (mulX (hd p) q.2.1)) c L,z≠G0
 |[],_,_,_,h=>by obtain ⟨z,hz,_⟩:=h;cases hz
 |_::_,[],h,_,_=>by simp at h
 |z::c,q::L,h,hL,hz=>by
  rw[List.zipWith_cons_cons];by_cases h0:z=G0
  ·obtain ⟨y,hy,hy0⟩:=hz;rcases mem_cons.1 hy with rfl|hy
   ·exact absurd h0 hy0
   ·obtain ⟨x,hx,hx0⟩:=yNt p hp c L (by simpa using h) (λ q hq=>hL q (by simp[hq])) ⟨y,hy,hy0⟩
    exact ⟨x,mem_cons_of_mem _ hx,hx0⟩
  ·exact ⟨_,List.mem_cons_self,yIe h0 (yIe hp (hL q (by simp)))⟩
theorem yAM(T:List Int):∀ (w:List (Int->Gau)) (L:List Sp),w.length < L.length->(∀ q∈L,okSp T w q)->Dep T (L.map λ q=>q.1)
 |[],[],h,_=>by simp at h
 |[],q::L,_,hL=>by
  obtain ⟨h1,h2,h3⟩:=hL q (by simp)
  refine ⟨q.2.1::List.replicate L.length G0,by simp,⟨q.2.1,by simp,h1⟩,λ t ht=>?_⟩
  have e:∀ M:List Sp,lc (List.replicate M.length G0) (M.map λ q=>q.1) t=G0:=by
   intro M;induction M with
   |nil=>rfl
   |cons m M ih =>
    show addX (mulX G0 (m.1 t)) (lc (List.replicate M.length G0) (M.map λ q=>q.1) t)=G0
    rw[ih];simp[addX,mulX,G0]
  show addX (mulX q.2.1 (q.1 t)) (lc (List.replicate L.length G0) (L.map λ q=>q.1) t)=G0
  rw[e,h3 t ht,yGD];rfl
 |w0::w,L,hl,hL=>by
  by_cases hz:∃ p∈L,hd p≠G0
  ·obtain ⟨p,hp,hp0⟩:=hz;obtain ⟨L1,L2,rfl⟩:=List.append_of_mem hp;have hL':∀ q∈L1++L2,okSp T (w0::w) q:=λ q hq=>hL q (by
    rcases mem_append.1 hq with h|h
    ·exact List.mem_append_left _ h
    ·exact List.mem_append_right _ (mem_cons_of_mem _ h))
   have ih:=yAM T w ((L1++L2).map (clr p)) (by simp at hl ⊢;omega) (λ q hq=>by
    obtain ⟨x,hx,rfl⟩:=List.mem_map.1 hq;exact yQu (hL p (by simp)) (hL' x hx))
   obtain ⟨c,c1,c2,c3⟩:=ih;rw[List.map_map]at c1 c3;have cl:c.length=(L1++L2).length:=by rw[c1,List.length_map]
   obtain ⟨e,he⟩:=yO6 p c (L1++L2) cl;obtain ⟨y,hy,hy0⟩:=yNt p hp0 c (L1++L2) cl (λ q hq=>(hL' q hq).1) c2
   have:Dep T (p.1::((L1.map λ q=>q.1)++(L2.map λ q=>q.1))):=by
    rw[<- List.map_append];refine ⟨e::List.zipWith (λ z (q:Sp)=>mulX z (mulX (hd p) q.2.1)) c (L1++L2),by simp at cl ⊢;omega,⟨y,mem_cons_of_mem _ hy,hy0⟩,λ t ht=>?_⟩
    exact (he t).symm.trans (c3 t ht)
   have:=this.mid;rw[List.map_append,List.map_cons];exact this
  ·cases L with
   |nil=>simp at hl
   |cons q L =>
    have ih:=yAM T w (L.map λ q=>(q.1,q.2.1,q.2.2.tail)) (by simp at hl ⊢;omega) (λ x hx=>by
     obtain ⟨p,hp,rfl⟩:=List.mem_map.1 hx;obtain ⟨h1,h2,h3⟩:=hL p (mem_cons_of_mem _ hp);have h0:hd p=G0:=Classical.byContradiction λ hh=>hz ⟨p,mem_cons_of_mem _ hp,hh⟩
     obtain ⟨pf,pd,pa⟩:=p;cases pa with
     |nil=>simp at h2
     |cons a pa =>
      have ha:a=G0:=h0;subst ha;refine ⟨h1,by simpa using h2,λ t ht=>?_⟩
      have e:mulX pd (pf t)=addX (mulX G0 (w0 t)) (lc pa w t):=h3 t ht;show mulX pd (pf t)=lc pa w t
      rw[e];exact yF (by simp only[addX,mulX,G0];omega) (by simp only[addX,mulX,G0];omega))
    rw[List.map_map]at ih;exact ih.cons q.1
theorem Span.app{T:List Int}{w:List (Int->Gau)}{f:Int->Gau}(h:Span T w f)(g:Int->Gau):Span T (w++[g]) f:=by
 obtain ⟨d,a,h1,h2,h3⟩:=h;exact ⟨d,a++[G0],h1,by simp[h2],λ t ht=>by rw[yJF t a w g h2];exact h3 t ht⟩
theorem yEw(t:Int):∀ w:List (Int->Gau),lc (List.replicate w.length G0) w t=G0
 |[]=>rfl
 |f::w=>by
  show addX (mulX G0 (f t)) (lc (List.replicate w.length G0) w t)=G0
  rw[yEw t w];simp[addX,mulX,G0]
theorem Span.last(T:List Int)(w:List (Int->Gau))(f:Int->Gau):Span T (w++[f]) f:=by
 refine ⟨G1,List.replicate w.length G0++[G1],yPL,by simp,λ t ht=>?_⟩
 rw[y6h t _ _ _ _ (by simp),yEw,y8E]
 show _=addX (mulX G1 (f t)) G0
 rw[y0F]
theorem yNv(t:Int):∀ (c:List Gau) (w:List (Int->Gau)),lc (c.map negX) w t=negX (lc c w t)
 |[],w=>by simp[lc,negX,G0]
 |z::c,[]=>by simp[lc,negX,G0]
 |z::c,f::w=>by
  show addX (mulX (negX z) (f t)) (lc (c.map negX) w t)=negX (addX (mulX z (f t)) (lc c w t))
  rw[yNv t c w];exact yF (by simp only[addX,mulX,negX];grind) (by simp only[addX,mulX,negX];grind)
theorem Span.of_dep{T:List Int}{w:List (Int->Gau)}{f:Int->Gau}(h:Dep T (w++[f]))(hw:¬ Dep T w):Span T w f:=by
 obtain ⟨c,h1,⟨z,h2,h3⟩,h4⟩:=h;simp only[List.length_append,List.length_cons,List.length_nil]at h1;have e:c=c.take w.length++[(c[w.length]?).getD G0]:=by
  conv=>lhs;rw[<- List.take_append_drop w.length c]
  congr 1
  rw[List.getElem?_eq_getElem (by omega),<- List.getElem_cons_drop (h:=by omega),List.drop_eq_nil_of_le (by omega)]
  rfl
 have l1:(c.take w.length).length=w.length:=by rw[List.length_take];omega
 generalize c.take w.length=a at e l1;generalize (c[w.length]?).getD G0=d at e;subst e;have hs:∀ t∈T,addX (lc a w t) (mulX d (f t))=G0:=λ t ht=>by
  have:=h4 t ht;rw[y6h t _ _ _ _ l1]at this;have h5:addX (lc a w t) (addX (mulX d (f t)) G0)=G0:=this;rwa[y0F]at h5
 have hd0:d≠G0:=λ h0=>by
  subst h0;refine hw ⟨a,l1,⟨z,?_,h3⟩,λ t ht=>?_⟩
  ·rcases mem_append.1 h2 with h|h
   ·exact h
   ·simp at h;exact absurd h h3
  ·have:=hs t ht;rw[<- this];exact yF (by simp only[addX,mulX,G0];omega) (by simp only[addX,mulX,G0];omega)
 refine ⟨d,a.map negX,hd0,by simp[l1],λ t ht=>?_⟩
 rw[yNv];have h5:=hs t ht;have g1:(lc a w t).1+(mulX d (f t)).1=0:=congrArg (λ z:Gau=>z.1) h5
 have g2:(lc a w t).2.1+(mulX d (f t)).2.1=0:=congrArg (λ z:Gau=>z.2.1) h5
 exact yF (by show _=-(lc a w t).1;omega) (by show _=-(lc a w t).2.1;omega)
theorem y9u{T:List Int}{w:List (Int->Gau)}:∀ v:List (Int->Gau),(∀ f∈v,Span T w f)->∃ L:List Sp,(L.map λ q=>q.1)=v/\∀ q∈L,okSp T w q
 |[],_=>⟨[],rfl,λ q hq=>by cases hq⟩
 |f::v,h=>by
  obtain ⟨L,h1,h2⟩:=y9u v λ g hg=>h g (by simp[hg])
  obtain ⟨d,a,h3,h4,h5⟩:=h f (by simp)
  refine ⟨(f,d,a)::L,by rw[List.map_cons,h1],λ q hq=>?_⟩
  rcases mem_cons.1 hq with rfl|hq
  ·exact ⟨h3,h4,h5⟩
  ·exact h2 q hq
theorem yAc{T:List Int}{w v:List (Int->Gau)}(hs:∀ f∈v,Span T w f)(hv:¬ Dep T v):v.length<=w.length:=by
 obtain ⟨L,h1,h2⟩:=y9u v hs;refine Nat.le_of_not_lt λ h=>hv ?_
 rw[<- h1];exact yAM T w L (by rw[<- h1]at h;simpa using h) h2
end Go.Tw
