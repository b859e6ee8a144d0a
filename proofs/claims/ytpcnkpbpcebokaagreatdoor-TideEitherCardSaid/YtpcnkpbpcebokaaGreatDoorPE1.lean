import Derived.Test.YtpcnkpbpcebokaaGreatDoorPN2
set_option linter.all false
set_option maxRecDepth 100000
open List (mem_map)
namespace Go.Tw
open Go.Vx Go.Vx.B Go.Proofs
theorem Dep.more{T:List Int}{v:List (Int->Gau)}(h:Dep T v):∀ w:List (Int->Gau),Dep T (v++w)
 |[]=>by rw[List.append_nil];exact h
 |f::w=>by
  have:=Dep.more (h.app f) w;rwa[List.append_assoc]at this
theorem Dep.sub{T T':List Int}{v:List (Int->Gau)}(h:Dep T v)(hs:∀ t∈T',t∈T):Dep T' v:=by
 obtain ⟨c,h1,h2,h3⟩:=h;exact ⟨c,h1,h2,λ t ht=>h3 t (hs t ht)⟩
theorem y4l(T:List Int):¬ Dep T []:=λ h=>by
 obtain ⟨c,h1,⟨z,h2,_⟩,_⟩:=h;have:c=[]:=List.eq_nil_of_length_eq_zero (by simpa using h1)
 subst this;cases h2
theorem y4W{r:Rec}(hT:(tks r).length<=128){l:List Con}(hl:l.length<=4):¬ Dep (tks r) ((y1T r l).map chr)/\List.Sublist (y1T r l) l/\∀ c∈l,Span (tks r) ((y1T r l).map chr) (chr c):=by
 obtain ⟨a1,⟨s,a2,a3⟩,a4,_⟩:=yIP hT l [] (by simp;omega) (y4l _)
 rw[List.nil_append]at a3;have hk:y1T r l=s:=a3;rw[a3]at a1 a4;rw[hk];exact ⟨a1,a2,a4⟩
theorem yCS{r:Rec}(hT:(tks r).length<=128){l:List Con}(hl:l.length<=4):(y1T r l).length<=l.length/\((y1T r l).length=l.length ↔ ¬ Dep (tks r) (l.map chr)):=by
 obtain ⟨a1,a2,a3⟩:=y4W hT hl;refine ⟨a2.length_le,λ h=>?_,λ h=>?_⟩
 ·rw[a2.eq_of_length h]at a1;exact a1
 ·have:=yAc (T:=tks r) (w:=(y1T r l).map chr) (v:=l.map chr) (λ f hf=>by
   obtain ⟨c,hc,rfl⟩:=mem_map.1 hf;exact a3 c hc) h
  simp only[List.length_map]at this;have:=a2.length_le;omega
theorem yJf{r r':Rec}(hT:(tks r).length<=128)(hT':(tks r').length<=128){l:List Con}(hl:l.length<=4){tq:Int}(h1:∀ t∈tks r',t∈tks r)(h2:∀ t∈tks r,t∈tks r'\/t=tq) :
  (y1T r' l).length<=(y1T r l).length/\(y1T r l).length<=(y1T r' l).length+1:=by
 obtain ⟨a1,a2,a3⟩:=y4W hT hl;obtain ⟨b1,b2,b3⟩:=y4W hT' hl;constructor
 ·have:=yAc (T:=tks r) (w:=(y1T r l).map chr) (v:=(y1T r' l).map chr) (λ f hf=>by
   obtain ⟨c,hc,rfl⟩:=mem_map.1 hf;exact a3 c (b2.subset hc)) λ h=>b1 (h.sub h1)
  simpa using this
 ·have:=yAc (T:=tks r) (w:=(y1T r' l).map chr++[λ u=>if u=tq then G1 else G0]) (v:=(y1T r l).map chr) (λ f hf=>by
   obtain ⟨c,hc,rfl⟩:=mem_map.1 hf;obtain ⟨d,a,d1,d2,d3⟩:=b3 c (a2.subset hc);refine ⟨d,a++[addX (mulX d (chr c tq)) (negX (lc a ((y1T r' l).map chr) tq))],d1,by simp[d2],λ t ht=>?_⟩
   rw[y6h t _ _ _ _ d2];show _=addX (lc a ((y1T r' l).map chr) t) (addX (mulX (addX (mulX d (chr c tq)) (negX (lc a ((y1T r' l).map chr) tq))) (if t=tq then G1 else G0)) G0)
   rw[y0F];by_cases he:t=tq
   ·subst he;rw[if_pos rfl];exact yF (by simp only[addX,mulX,negX,G1];grind) (by simp only[addX,mulX,negX,G1];grind)
   ·rw[if_neg he,d3 t ((h2 t ht).resolve_right he)];exact yF (by simp only[addX,mulX,negX,G0];grind) (by simp only[addX,mulX,negX,G0];grind)) a1
  simpa using this
theorem yPQ(n:Int):mulX (conX (y1u n)) (y1u n)=(1,0,()):=by
 unfold y1u;split
 ·rfl
 ·split
  ·rfl
  ·split<;>rfl
theorem yIt(c:Con):∀ T:List Int,ip T (chr c) (chr c)=((T.length:Int),0,())
 |[]=>rfl
 |t::T=>by
  show addX (mulX (conX (chr c t)) (chr c t)) (ip T (chr c) (chr c))=_
  rw[yIt c T,show mulX (conX (chr c t)) (chr c t)=(1,0,())from yPQ _]
  exact yF (by simp only[addX,List.length_cons];omega) rfl
theorem yKO{T:List Int}(hT:T.length<=128)(a b:Con)(h:(ip T (chr a) (chr b)).1 * (ip T (chr a) (chr b)).1+(ip T (chr a) (chr b)).2.1 * (ip T (chr a) (chr b)).2.1=(T.length:Int) * (T.length:Int)):Dep T [chr a,chr b]:=by
 obtain ⟨D,h1,_,h3⟩:=gram T [chr a,chr b] (by simp)
 refine h3.1 ?_
 have e:DX T [chr a,chr b]=d2 (ip T (chr a) (chr a)) (ip T (chr a) (chr b)) (ip T (chr b) (chr a)) (ip T (chr b) (chr b)):=e2 _ _ _ _;rw[e,yIt,yIt,y7d T (chr a) (chr b)]at h1;have h4:=congrArg (λ z:Gau=>z.1) h1
 simp only[d2,mulX,addX,negX,conX]at h4;grind
end Go.Tw
