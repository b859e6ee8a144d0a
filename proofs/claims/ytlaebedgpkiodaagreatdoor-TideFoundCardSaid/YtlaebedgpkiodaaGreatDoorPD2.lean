import Derived.Test.YtlaebedgpkiodaaGreatDoorPD0
set_option linter.all false
set_option maxRecDepth 100000
open List (map_cons map_nil mem_cons not_mem_nil)
open Int (add_zero mul_eq_zero sub_self sub_zero zero_add zero_mul)
namespace Go.Tw
open Go.Vx Go.Vx.B Go.Proofs
theorem yFb(f g:Int->Gau):∀ T:List Int,sumX (λ t=>addX (f t) (g t)) T=addX (sumX f T) (sumX g T)
 |[]=>by unfold sumX;rfl
 |t::T=>by
  unfold sumX;rw[yFb f g T];exact yC (by simp only[addX];omega) (by simp only[addX];omega)
theorem yGZ(c:Gau)(f:Int->Gau):∀ T:List Int,sumX (λ t=>mulX c (f t)) T=mulX c (sumX f T)
 |[]=>by unfold sumX mulX G0;simp
 |t::T=>by
  unfold sumX;rw[yGZ c f T];exact yC (by simp only[addX,mulX];grind) (by simp only[addX,mulX];grind)
theorem y2N{f g:Int->Gau}:∀ {T:List Int},(∀ t∈T,f t=g t)->sumX f T=sumX g T
 |[],_=>rfl
 |t::T,h=>by
  unfold sumX;rw[h t (by simp),y2N (T:=T) λ t ht=>h t (by simp[ht])]
theorem yDP:∀ T:List Int,sumX (λ _=>G0) T=G0
 |[]=>rfl
 |t::T=>by
  unfold sumX;rw[yDP T];rfl
theorem yFw(f:Int->Gau):∀ T:List Int,sumX (λ t=>conX (f t)) T=conX (sumX f T)
 |[]=>by unfold sumX conX G0;simp
 |t::T=>by
  unfold sumX;rw[yFw f T];exact yC rfl (by simp only[addX,conX];omega)
theorem yGr(T:List Int)(u w x:Int->Gau):ip T u (λ t=>addX (w t) (x t))=addX (ip T u w) (ip T u x):=by
 unfold ip;rw[<- yFb];exact y2N λ t _=>yC (by simp only[addX,mulX,conX];grind) (by simp only[addX,mulX,conX];grind)
theorem yAI(T:List Int)(u w:Int->Gau)(c:Gau):ip T u (λ t=>mulX c (w t))=mulX c (ip T u w):=by
 unfold ip;rw[<- yGZ];exact y2N λ t _=>yC (by simp only[mulX,conX];grind) (by simp only[mulX,conX];grind)
theorem y3n(T:List Int)(u w:Int->Gau):ip T w u=conX (ip T u w):=by
 unfold ip;rw[<- yFw];exact y2N λ t _=>yC (by simp only[mulX,conX];grind) (by simp only[mulX,conX];grind)
theorem yB9(T:List Int)(u:Int->Gau){w:Int->Gau}(h:∀ t∈T,w t=G0):ip T u w=G0:=by
 unfold ip;rw[<- yDP T];refine y2N λ t ht=>?_
 rw[h t ht];unfold mulX G0;simp
theorem y1b(a:Int):0<=a * a:=by
 rcases Int.le_total 0 a with h|h
 ·exact Int.mul_nonneg h h
 ·exact Int.mul_nonneg_of_nonpos_of_nonpos h h
theorem y2f(u:Int->Gau):∀ T:List Int,∃ S:Int,ip T u u=(S,0,())/\0<=S/\(S=0->∀ t∈T,u t=G0)
 |[]=>⟨0,rfl,Int.le_refl _,λ _ t ht=>by cases ht⟩
 |t::T=>by
  obtain ⟨S,h1,h2,h3⟩:=y2f u T;have a:=y1b (u t).1;have b:=y1b (u t).2.1;refine ⟨(u t).1 * (u t).1+(u t).2.1 * (u t).2.1+S,?_,by omega,λ h s hs=>?_⟩
  ·show addX (mulX (conX (u t)) (u t)) (ip T u u)=_
   rw[h1];exact yC (by simp only[addX,mulX,conX];grind) (by simp only[addX,mulX,conX];grind)
  ·rcases mem_cons.1 hs with rfl|hs
   ·have e1:(u s).1 * (u s).1=0:=by omega
    have e2:(u s).2.1 * (u s).2.1=0:=by omega
    exact yC (by rcases mul_eq_zero.1 e1 with h|h<;>exact h) (by rcases mul_eq_zero.1 e2 with h|h<;>exact h)
   ·exact h3 (by omega) s hs
def lc:List Gau->List (Int->Gau)->Int->Gau
 |z::c,f::v,t=>addX (mulX z (f t)) (lc c v t)
 |_,_,_=>G0
def dotX:List Gau->List Gau->Gau
 |z::c,g::l=>addX (mulX z g) (dotX c l)
 |_,_=>G0
theorem y6V(T:List Int)(u:Int->Gau):∀ (c:List Gau) (v:List (Int->Gau)),ip T u (lc c v)=dotX c (v.map (ip T u))
 |[],v=>yB9 T u λ t _=>by unfold lc;rfl
 |z::c,[]=>yB9 T u λ t _=>by unfold lc;rfl
 |z::c,f::v=>by
  show ip T u (λ t=>addX (mulX z (f t)) (lc c v t))=addX (mulX z (ip T u f)) (dotX c (v.map (ip T u)))
  rw[yGr T u (λ t=>mulX z (f t)) (lc c v),yAI,y6V T u c v]
theorem y6S(T:List Int)(w:Int->Gau):∀ (c:List Gau) (v:List (Int->Gau)),ip T (lc c v) w=dotX (c.map conX) (v.map λ f=>ip T f w)
 |[],v=>by
  rw[y3n T w,y6V];unfold dotX conX G0;simp
 |z::c,[]=>by
  rw[y3n T w,y6V];simp[dotX,conX,G0]
 |z::c,f::v=>by
  have ih:=y6S T w c v;rw[y3n T w,y6V]at ih;rw[y3n T w,y6V];show conX (addX (mulX z (ip T w f)) (dotX c (v.map (ip T w))))=addX (mulX (conX z) (ip T f w)) (dotX (c.map conX) (v.map λ f=>ip T f w))
  rw[<- ih,y3n T w f];exact yC (by simp only[addX,mulX,conX];grind) (by simp only[addX,mulX,conX];grind)
def Dep(T:List Int)(v:List (Int->Gau)):Prop:=∃ c:List Gau,c.length=v.length/\(∃ z∈c,z≠G0)/\∀ t∈T,lc c v t=G0
theorem yLC(t:Int):∀ (c:List Gau) (v:List (Int->Gau)) (f:Int->Gau),c.length=v.length->lc (c++[G0]) (v++[f]) t=lc c v t
 |[],[],f,_=>by
  show addX (mulX G0 (f t)) G0=G0
  unfold addX mulX G0;simp
 |[],_::_,_,h=>by simp at h
 |_::_,[],_,h=>by simp at h
 |z::c,g::v,f,h=>by
  show addX (mulX z (g t)) (lc (c++[G0]) (v++[f]) t)=addX (mulX z (g t)) (lc c v t)
  rw[yLC t c v f (by simpa using h)]
theorem Dep.app{T:List Int}{v:List (Int->Gau)}(h:Dep T v)(f:Int->Gau):Dep T (v++[f]):=by
 obtain ⟨c,h1,⟨z,h2,h3⟩,h4⟩:=h;exact ⟨c++[G0],by simp[h1],⟨z,by simp[h2],h3⟩,λ t ht=>by rw[yLC t c v f h1];exact h4 t ht⟩
theorem alt1(x:Gau):addX G0 (sgnX 1 x)=x:=yC (by simp only[addX,sgnX,G0];omega) (by simp only[addX,sgnX,G0];omega)
theorem altm(x y:Gau):addX x (sgnX (-1) y)=addX x (negX y):=yC (by simp only[addX,sgnX,negX];omega) (by simp only[addX,sgnX,negX];omega)
theorem altp(x y:Gau):addX x (sgnX (- -1) y)=addX x y:=yC (by simp only[addX,sgnX];omega) (by simp only[addX,sgnX];omega)
theorem altq(x y:Gau):addX x (sgnX (- - -1) y)=addX x (negX y):=yC (by simp only[addX,sgnX,negX];omega) (by simp only[addX,sgnX,negX];omega)
theorem mul_one(x:Gau):mulX x (1,0,())=x:=yC (by simp only[mulX];omega) (by simp only[mulX];omega)
def at0(r:List Gau)(k:Nat):Gau:=(r[k]?).getD G0
theorem e1(r:List Gau)(k:Nat):detX [r] [k]=at0 r k:=by
 show addX G0 (sgnX 1 (mulX (at0 r k) (1,0,())))=_
 rw[alt1,mul_one]
theorem e2(r s:List Gau)(i j:Nat):detX [r,s] [i,j]=d2 (at0 r i) (at0 r j) (at0 s i) (at0 s j):=by
 show addX (addX G0 (sgnX 1 (mulX (at0 r i) (detX [s] [j])))) (sgnX (-1) (mulX (at0 r j) (detX [s] [i])))=_
 rw[alt1,altm,e1,e1];rfl
theorem e3(r s u:List Gau)(i j k:Nat):detX [r,s,u] [i,j,k]=d3 (at0 r i) (at0 r j) (at0 r k) (at0 s i) (at0 s j) (at0 s k) (at0 u i) (at0 u j) (at0 u k):=by
 show addX (addX (addX G0 (sgnX 1 (mulX (at0 r i) (detX [s,u] [j,k])))) (sgnX (-1) (mulX (at0 r j) (detX [s,u] [i,k])))) (sgnX (- -1) (mulX (at0 r k) (detX [s,u] [i,j])))=_
 rw[alt1,altm,altp,e2,e2,e2];rfl
theorem e4(r s u w:List Gau)(i j k l:Nat):detX [r,s,u,w] [i,j,k,l]=d4 (at0 r i) (at0 r j) (at0 r k) (at0 r l) (at0 s i) (at0 s j) (at0 s k) (at0 s l) (at0 u i) (at0 u j) (at0 u k) (at0 u l) (at0 w i) (at0 w j) (at0 w k) (at0 w l):=by
 show addX (addX (addX (addX G0 (sgnX 1 (mulX (at0 r i) (detX [s,u,w] [j,k,l])))) (sgnX (-1) (mulX (at0 r j) (detX [s,u,w] [i,k,l])))) (sgnX (- -1) (mulX (at0 r k) (detX [s,u,w] [i,j,l])))) (sgnX (- - -1) (mulX (at0 r l) (detX [s,u,w] [i,j,k])))=_
 rw[alt1,altm,altp,altq,e3,e3,e3,e3];rfl
theorem mul_zero{x y:Gau}(h:mulX x y=G0)(hy:y≠G0):x=G0:=by
 have h1:x.1 * y.1 - x.2.1 * y.2.1=0:=congrArg (λ z:Gau=>z.1) h
 have h2:x.1 * y.2.1+x.2.1 * y.1=0:=congrArg (λ z:Gau=>z.2.1) h
 have n:0 < y.1 * y.1+y.2.1 * y.2.1:=by
  have a:=y1b y.1;have b:=y1b y.2.1;rcases Int.lt_or_eq_of_le (Int.add_nonneg a b)with q|q
  ·exact q
  ·exfalso
   have a0:y.1 * y.1=0:=by omega
   have b0:y.2.1 * y.2.1=0:=by omega
   exact hy (yC (by rcases mul_eq_zero.1 a0 with h|h<;>exact h) (by rcases mul_eq_zero.1 b0 with h|h<;>exact h))
 have k1:x.1 * (y.1 * y.1+y.2.1 * y.2.1)=0:=by grind
 have k2:x.2.1 * (y.1 * y.1+y.2.1 * y.2.1)=0:=by grind
 exact yC ((mul_eq_zero.1 k1).resolve_right (by omega)) ((mul_eq_zero.1 k2).resolve_right (by omega))
def gm(T:List Int)(v:List (Int->Gau)):List (List Gau):=v.map λ a=>v.map λ b=>ip T a b
def DX(T:List Int)(v:List (Int->Gau)):Gau:=detX (gm T v) (List.range v.length)
theorem y5w{T:List Int}{v:List (Int->Gau)}{f:Int->Gau}{D:Int}{c:List Gau}(hD:DX T v=(D,0,()))(h0:0<=D)(hd:D=0->Dep T v)(hdep:Dep T (v++[f])->DX T (v++[f])=G0)
  (hc:c.length=v.length) (hrow:∀ g∈v,dotX (c++[DX T v]) ((v++[f]).map (ip T g))=G0) (hlast:dotX (c++[DX T v]) ((v++[f]).map (ip T f))=DX T (v++[f])) :
  ∃ E:Int,DX T (v++[f])=(E,0,())/\0<=E/\(E=0 ↔ Dep T (v++[f])):=by
 rcases Int.lt_or_eq_of_le h0 with hpos|hz
 ·obtain ⟨S,s1,s2,s3⟩:=y2f (lc (c++[DX T v]) (v++[f])) T;have hfold:∀ (w:List (Int->Gau)) (d:List Gau),d.length=w.length->(∀ g∈w,ip T g (lc (c++[DX T v]) (v++[f]))=G0)->dotX ((d++[DX T v]).map conX) ((w++[f]).map λ g=>ip T g (lc (c++[DX T v]) (v++[f])))=mulX (conX (DX T v)) (DX T (v++[f])):=by
   intro w;induction w with
   |nil =>
    intro d hl _;have:d=[]:=List.eq_nil_of_length_eq_zero (by simpa using hl)
    subst this;show addX (mulX (conX (DX T v)) (ip T f (lc (c++[DX T v]) (v++[f])))) G0=_
    rw[y6V,hlast,y0N]
   |cons g w ih =>
    intro d hl hg;obtain ⟨z,d,rfl⟩:∃ z d',d=z::d':=by
     cases d with
     |nil=>simp at hl
     |cons z d=>exact ⟨z,d,rfl⟩
    show addX (mulX (conX z) (ip T g _)) (dotX ((d++[DX T v]).map conX) ((w++[f]).map _))=_
    rw[hg g (by simp),ih d (by simpa using hl) λ g hg2=>hg g (by simp[hg2])]
    exact yC (by simp only[addX,mulX,G0];grind) (by simp only[addX,mulX,G0];grind)
  have hS:=hfold v c hc λ g hg=>by rw[y6V];exact hrow g hg
  rw[<- y6S,s1,hD]at hS;have q1:S=D * (DX T (v++[f])).1:=by
   have:=congrArg (λ z:Gau=>z.1) hS
   simp only[mulX,conX]at this;grind
  have q2:0=D * (DX T (v++[f])).2.1:=by
   have:=congrArg (λ z:Gau=>z.2.1) hS
   simp only[mulX,conX]at this;grind
  have z2:(DX T (v++[f])).2.1=0:=(mul_eq_zero.1 q2.symm).resolve_left (by omega)
  refine ⟨(DX T (v++[f])).1,yC rfl z2,?_,?_,?_⟩
  ·rcases Int.le_total 0 (DX T (v++[f])).1 with h|h
   ·exact h
   ·have:=Int.mul_nonpos_of_nonneg_of_nonpos h0 h;have hS0:D * (DX T (v++[f])).1=0:=by omega
    have:=(mul_eq_zero.1 hS0).resolve_left (by omega)
    omega
  ·intro h;rw[h,Int.mul_zero]at q1;refine ⟨c++[DX T v],by simp[hc],⟨DX T v,by simp,λ hh=>?_⟩,s3 q1⟩
   rw[hD]at hh;have:=congrArg (λ z:Gau=>z.1) hh
   simp only[G0]at this;omega
  ·intro h;have:=hdep h;exact congrArg (λ z:Gau=>z.1) this
 ·have h1:=(hd hz.symm).app f;have h2:=hdep h1;exact ⟨0,h2,Int.le_refl _,λ _=>h1,λ _=>rfl⟩
theorem yRA{c:List Gau}{D:Gau}(h:∃ z∈c,z≠G0)(hz:∀ z∈c,mulX D z=G0):D=G0:=by
 obtain ⟨z,h1,h2⟩:=h;exact mul_zero (hz z h1) h2
theorem y7m(T:List Int):∀ (v:List (Int->Gau)),v.length<=4->Dep T v->DX T v=G0:=by
 intro v hv ⟨c,h1,h2,h3⟩;have rows:∀ g∈v,dotX c (v.map (ip T g))=G0:=λ g _=>by rw[<- y6V];exact yB9 T g h3
 refine yRA h2 λ z hz=>?_
 match v,c,hv,h1 with
 |[],[],_,_=>cases hz
 |[a],[x],_,_ =>
  have r0:=rows a (by simp)
  rw[show DX T [a]=at0 [ip T a a] 0 from e1 _ _]
  rw[List.mem_singleton]at hz;subst hz;rw[<- r0];exact yC (by simp[mulX,addX,dotX,at0,G0];grind) (by simp[mulX,addX,dotX,at0,G0];grind)
 |[a,b],[x,y],_,_ =>
  have r0:=rows a (by simp)
  have r1:=rows b (by simp)
  rw[show DX T [a,b]=d2 (ip T a a) (ip T a b) (ip T b a) (ip T b b)from e2 _ _ _ _]
  simp only[map_cons,map_nil,dotX,y0N]at r0 r1;generalize ip T a a=g00 at *;generalize ip T a b=g01 at *;generalize ip T b a=g10 at *;generalize ip T b b=g11 at *;simp only[mem_cons,not_mem_nil,or_false]at hz;rcases hz with rfl|rfl
  ·have e:mulX (d2 g00 g01 g10 g11) z=addX (mulX g11 (addX (mulX z g00) (mulX y g01))) (negX (mulX g01 (addX (mulX z g10) (mulX y g11)))):=yC (by simp only[d2,mulX,addX,negX];grind) (by simp only[d2,mulX,addX,negX];grind)
   rw[e,r0,r1];simp[mulX,addX,negX,G0]
  ·have e:mulX (d2 g00 g01 g10 g11) z=addX (mulX g00 (addX (mulX x g10) (mulX z g11))) (negX (mulX g10 (addX (mulX x g00) (mulX z g01)))):=yC (by simp only[d2,mulX,addX,negX];grind) (by simp only[d2,mulX,addX,negX];grind)
   rw[e,r0,r1];simp[mulX,addX,negX,G0]
 |[a,b,f],[x,y,w],_,_ =>
  have r0:=rows a (by simp)
  have r1:=rows b (by simp)
  have r2:=rows f (by simp)
  rw[show DX T [a,b,f]=d3 (ip T a a) (ip T a b) (ip T a f) (ip T b a) (ip T b b) (ip T b f) (ip T f a) (ip T f b) (ip T f f)from e3 _ _ _ _ _ _]
  simp only[map_cons,map_nil,dotX,y0N]at r0 r1 r2;generalize ip T a a=g00 at *;generalize ip T a b=g01 at *;generalize ip T a f=g02 at *;generalize ip T b a=g10 at *;generalize ip T b b=g11 at *;generalize ip T b f=g12 at *;generalize ip T f a=g20 at *;generalize ip T f b=g21 at *;generalize ip T f f=g22 at *;simp only[mem_cons,not_mem_nil,or_false]at hz;rcases hz with rfl|rfl|rfl
  ·have e:mulX (d3 g00 g01 g02 g10 g11 g12 g20 g21 g22) z=(addX (addX (mulX (d2 g11 g12 g21 g22) (addX (mulX z g00) (addX (mulX y g01) (mulX w g02)))) (mulX (negX (d2 g01 g02 g21 g22)) (addX (mulX z g10) (addX (mulX y g11) (mulX w g12))))) (mulX (d2 g01 g02 g11 g12) (addX (mulX z g20) (addX (mulX y g21) (mulX w g22))))):=yC (by simp only[d3,d2,mulX,addX,negX];grind) (by simp only[d3,d2,mulX,addX,negX];grind)
   rw[e,r0,r1,r2];simp[mulX,addX,negX,G0]
  ·have e:mulX (d3 g00 g01 g02 g10 g11 g12 g20 g21 g22) z=(addX (addX (mulX (negX (d2 g10 g12 g20 g22)) (addX (mulX x g00) (addX (mulX z g01) (mulX w g02)))) (mulX (d2 g00 g02 g20 g22) (addX (mulX x g10) (addX (mulX z g11) (mulX w g12))))) (mulX (negX (d2 g00 g02 g10 g12)) (addX (mulX x g20) (addX (mulX z g21) (mulX w g22))))):=yC (by simp only[d3,d2,mulX,addX,negX];grind) (by simp only[d3,d2,mulX,addX,negX];grind)
   rw[e,r0,r1,r2];simp[mulX,addX,negX,G0]
  ·have e:mulX (d3 g00 g01 g02 g10 g11 g12 g20 g21 g22) z=(addX (addX (mulX (d2 g10 g11 g20 g21) (addX (mulX x g00) (addX (mulX y g01) (mulX z g02)))) (mulX (negX (d2 g00 g01 g20 g21)) (addX (mulX x g10) (addX (mulX y g11) (mulX z g12))))) (mulX (d2 g00 g01 g10 g11) (addX (mulX x g20) (addX (mulX y g21) (mulX z g22))))):=yC (by simp only[d3,d2,mulX,addX,negX];grind) (by simp only[d3,d2,mulX,addX,negX];grind)
   rw[e,r0,r1,r2];simp[mulX,addX,negX,G0]
 |[a,b,f,h],[x,y,w,q],_,_ =>
  have r0:=rows a (by simp)
  have r1:=rows b (by simp)
  have r2:=rows f (by simp)
  have r3:=rows h (by simp)
  rw[show DX T [a,b,f,h]=d4 (ip T a a) (ip T a b) (ip T a f) (ip T a h) (ip T b a) (ip T b b) (ip T b f) (ip T b h) (ip T f a) (ip T f b) (ip T f f) (ip T f h) (ip T h a) (ip T h b) (ip T h f) (ip T h h)from e4 _ _ _ _ _ _ _ _]
  simp only[map_cons,map_nil,dotX,y0N]at r0 r1 r2 r3;generalize ip T a a=g00 at *;generalize ip T a b=g01 at *;generalize ip T a f=g02 at *;generalize ip T a h=g03 at *;generalize ip T b a=g10 at *;generalize ip T b b=g11 at *;generalize ip T b f=g12 at *;generalize ip T b h=g13 at *;generalize ip T f a=g20 at *;generalize ip T f b=g21 at *;generalize ip T f f=g22 at *;generalize ip T f h=g23 at *;generalize ip T h a=g30 at *;generalize ip T h b=g31 at *;generalize ip T h f=g32 at *;generalize ip T h h=g33 at *;simp only[mem_cons,not_mem_nil,or_false]at hz;rcases hz with rfl|rfl|rfl|rfl
  ·have e:∀ C0 C1 C2 C3:Gau,(addX (addX (addX (mulX (addX (addX (addX (mulX C0 g00) (mulX C1 g10)) (mulX C2 g20)) (mulX C3 g30)) z) (mulX (addX (addX (addX (mulX C0 g01) (mulX C1 g11)) (mulX C2 g21)) (mulX C3 g31)) y)) (mulX (addX (addX (addX (mulX C0 g02) (mulX C1 g12)) (mulX C2 g22)) (mulX C3 g32)) w)) (mulX (addX (addX (addX (mulX C0 g03) (mulX C1 g13)) (mulX C2 g23)) (mulX C3 g33)) q))=(addX (addX (addX (mulX C0 (addX (mulX z g00) (addX (mulX y g01) (addX (mulX w g02) (mulX q g03))))) (mulX C1 (addX (mulX z g10) (addX (mulX y g11) (addX (mulX w g12) (mulX q g13)))))) (mulX C2 (addX (mulX z g20) (addX (mulX y g21) (addX (mulX w g22) (mulX q g23)))))) (mulX C3 (addX (mulX z g30) (addX (mulX y g31) (addX (mulX w g32) (mulX q g33)))))):=λ C0 C1 C2 C3=>yC (by simp only[mulX,addX];grind) (by simp only[mulX,addX];grind)
   have e:=e (d3 g11 g12 g13 g21 g22 g23 g31 g32 g33) (negX (d3 g01 g02 g03 g21 g22 g23 g31 g32 g33)) (d3 g01 g02 g03 g11 g12 g13 g31 g32 g33) (negX (d3 g01 g02 g03 g11 g12 g13 g21 g22 g23));rw[yLj g00 g01 g02 g03 g10 g11 g12 g13 g20 g21 g22 g23 g30 g31 g32 g33,yU6 g00 g01 g02 g03 g10 g11 g12 g13 g20 g21 g22 g23 g30 g31 g32 g33,yTg g00 g01 g02 g03 g10 g11 g12 g13 g20 g21 g22 g23 g30 g31 g32 g33,yU0 g00 g01 g02 g03 g10 g11 g12 g13 g20 g21 g22 g23 g30 g31 g32 g33,r0,r1,r2,r3]at e;have e1:=congrArg (λ w:Gau=>w.1) e
   have e2:=congrArg (λ w:Gau=>w.2.1) e
   simp only[mulX,addX,G0,zero_mul,Int.mul_zero,sub_zero,add_zero,zero_add,sub_self]at e1 e2;exact yC (by simp only[mulX,G0];omega) (by simp only[mulX,G0];omega)
  ·have e:∀ C0 C1 C2 C3:Gau,(addX (addX (addX (mulX (addX (addX (addX (mulX C0 g00) (mulX C1 g10)) (mulX C2 g20)) (mulX C3 g30)) x) (mulX (addX (addX (addX (mulX C0 g01) (mulX C1 g11)) (mulX C2 g21)) (mulX C3 g31)) z)) (mulX (addX (addX (addX (mulX C0 g02) (mulX C1 g12)) (mulX C2 g22)) (mulX C3 g32)) w)) (mulX (addX (addX (addX (mulX C0 g03) (mulX C1 g13)) (mulX C2 g23)) (mulX C3 g33)) q))=(addX (addX (addX (mulX C0 (addX (mulX x g00) (addX (mulX z g01) (addX (mulX w g02) (mulX q g03))))) (mulX C1 (addX (mulX x g10) (addX (mulX z g11) (addX (mulX w g12) (mulX q g13)))))) (mulX C2 (addX (mulX x g20) (addX (mulX z g21) (addX (mulX w g22) (mulX q g23)))))) (mulX C3 (addX (mulX x g30) (addX (mulX z g31) (addX (mulX w g32) (mulX q g33)))))):=λ C0 C1 C2 C3=>yC (by simp only[mulX,addX];grind) (by simp only[mulX,addX];grind)
   have e:=e (negX (d3 g10 g12 g13 g20 g22 g23 g30 g32 g33)) (d3 g00 g02 g03 g20 g22 g23 g30 g32 g33) (negX (d3 g00 g02 g03 g10 g12 g13 g30 g32 g33)) (d3 g00 g02 g03 g10 g12 g13 g20 g22 g23);rw[yUE g00 g01 g02 g03 g10 g11 g12 g13 g20 g21 g22 g23 g30 g31 g32 g33,yJh g00 g01 g02 g03 g10 g11 g12 g13 g20 g21 g22 g23 g30 g31 g32 g33,yTX g00 g01 g02 g03 g10 g11 g12 g13 g20 g21 g22 g23 g30 g31 g32 g33,ySd g00 g01 g02 g03 g10 g11 g12 g13 g20 g21 g22 g23 g30 g31 g32 g33,r0,r1,r2,r3]at e;have e1:=congrArg (λ w:Gau=>w.1) e
   have e2:=congrArg (λ w:Gau=>w.2.1) e
   simp only[mulX,addX,G0,zero_mul,Int.mul_zero,sub_zero,add_zero,zero_add,sub_self]at e1 e2;exact yC (by simp only[mulX,G0];omega) (by simp only[mulX,G0];omega)
  ·have e:∀ C0 C1 C2 C3:Gau,(addX (addX (addX (mulX (addX (addX (addX (mulX C0 g00) (mulX C1 g10)) (mulX C2 g20)) (mulX C3 g30)) x) (mulX (addX (addX (addX (mulX C0 g01) (mulX C1 g11)) (mulX C2 g21)) (mulX C3 g31)) y)) (mulX (addX (addX (addX (mulX C0 g02) (mulX C1 g12)) (mulX C2 g22)) (mulX C3 g32)) z)) (mulX (addX (addX (addX (mulX C0 g03) (mulX C1 g13)) (mulX C2 g23)) (mulX C3 g33)) q))=(addX (addX (addX (mulX C0 (addX (mulX x g00) (addX (mulX y g01) (addX (mulX z g02) (mulX q g03))))) (mulX C1 (addX (mulX x g10) (addX (mulX y g11) (addX (mulX z g12) (mulX q g13)))))) (mulX C2 (addX (mulX x g20) (addX (mulX y g21) (addX (mulX z g22) (mulX q g23)))))) (mulX C3 (addX (mulX x g30) (addX (mulX y g31) (addX (mulX z g32) (mulX q g33)))))):=λ C0 C1 C2 C3=>yC (by simp only[mulX,addX];grind) (by simp only[mulX,addX];grind)
   have e:=e (d3 g10 g11 g13 g20 g21 g23 g30 g31 g33) (negX (d3 g00 g01 g03 g20 g21 g23 g30 g31 g33)) (d3 g00 g01 g03 g10 g11 g13 g30 g31 g33) (negX (d3 g00 g01 g03 g10 g11 g13 g20 g21 g23));rw[yTQ g00 g01 g02 g03 g10 g11 g12 g13 g20 g21 g22 g23 g30 g31 g32 g33,yTq g00 g01 g02 g03 g10 g11 g12 g13 g20 g21 g22 g23 g30 g31 g32 g33,yIs g00 g01 g02 g03 g10 g11 g12 g13 g20 g21 g22 g23 g30 g31 g32 g33,ySr g00 g01 g02 g03 g10 g11 g12 g13 g20 g21 g22 g23 g30 g31 g32 g33,r0,r1,r2,r3]at e;have e1:=congrArg (λ w:Gau=>w.1) e
   have e2:=congrArg (λ w:Gau=>w.2.1) e
   simp only[mulX,addX,G0,zero_mul,Int.mul_zero,sub_zero,add_zero,zero_add,sub_self]at e1 e2;exact yC (by simp only[mulX,G0];omega) (by simp only[mulX,G0];omega)
  ·have e:∀ C0 C1 C2 C3:Gau,(addX (addX (addX (mulX (addX (addX (addX (mulX C0 g00) (mulX C1 g10)) (mulX C2 g20)) (mulX C3 g30)) x) (mulX (addX (addX (addX (mulX C0 g01) (mulX C1 g11)) (mulX C2 g21)) (mulX C3 g31)) y)) (mulX (addX (addX (addX (mulX C0 g02) (mulX C1 g12)) (mulX C2 g22)) (mulX C3 g32)) w)) (mulX (addX (addX (addX (mulX C0 g03) (mulX C1 g13)) (mulX C2 g23)) (mulX C3 g33)) z))=(addX (addX (addX (mulX C0 (addX (mulX x g00) (addX (mulX y g01) (addX (mulX w g02) (mulX z g03))))) (mulX C1 (addX (mulX x g10) (addX (mulX y g11) (addX (mulX w g12) (mulX z g13)))))) (mulX C2 (addX (mulX x g20) (addX (mulX y g21) (addX (mulX w g22) (mulX z g23)))))) (mulX C3 (addX (mulX x g30) (addX (mulX y g31) (addX (mulX w g32) (mulX z g33)))))):=λ C0 C1 C2 C3=>yC (by simp only[mulX,addX];grind) (by simp only[mulX,addX];grind)
   have e:=e (negX (d3 g10 g11 g12 g20 g21 g22 g30 g31 g32)) (d3 g00 g01 g02 g20 g21 g22 g30 g31 g32) (negX (d3 g00 g01 g02 g10 g11 g12 g30 g31 g32)) (d3 g00 g01 g02 g10 g11 g12 g20 g21 g22);rw[ySs g00 g01 g02 g03 g10 g11 g12 g13 g20 g21 g22 g23 g30 g31 g32 g33,yT2 g00 g01 g02 g03 g10 g11 g12 g13 g20 g21 g22 g23 g30 g31 g32 g33,yU4 g00 g01 g02 g03 g10 g11 g12 g13 g20 g21 g22 g23 g30 g31 g32 g33,yM9 g00 g01 g02 g03 g10 g11 g12 g13 g20 g21 g22 g23 g30 g31 g32 g33,r0,r1,r2,r3]at e;have e1:=congrArg (λ w:Gau=>w.1) e
   have e2:=congrArg (λ w:Gau=>w.2.1) e
   simp only[mulX,addX,G0,zero_mul,Int.mul_zero,sub_zero,add_zero,zero_add,sub_self]at e1 e2;exact yC (by simp only[mulX,G0];omega) (by simp only[mulX,G0];omega)
theorem gram(T:List Int):∀ (v:List (Int->Gau)),v.length<=4->∃ D:Int,DX T v=(D,0,())/\0<=D/\(D=0 ↔ Dep T v):=by
 have g0:DX T []=(1,0,()):=rfl;have n0:¬ Dep T []:=λ ⟨c,h1,⟨z,h2,_⟩,_⟩=>by
  have:c=[]:=List.eq_nil_of_length_eq_zero (by simpa using h1)
  rw[this]at h2;cases h2
 have s1:∀ a,∃ D:Int,DX T [a]=(D,0,())/\0<=D/\(D=0 ↔ Dep T [a]):=λ a=>by
  refine y5w (v:=[]) (f:=a) (c:=[]) g0 (by decide) (λ h=>by cases h) (y7m T [a] (by simp)) rfl (λ g hg=>by cases hg) ?_
  rw[g0];show addX (mulX (1,0,()) (ip T a a)) G0=detX [[ip T a a]] [0]
  rw[e1,y0N];exact yC (by simp[mulX,at0]) (by simp[mulX,at0])
 have s2:∀ a b,∃ D:Int,DX T [a,b]=(D,0,())/\0<=D/\(D=0 ↔ Dep T [a,b]):=λ a b=>by
  obtain ⟨D,q1,q2,q3⟩:=s1 a;have ed:DX T [a]=ip T a a:=e1 _ _;refine y5w (v:=[a]) (f:=b) (c:=[negX (ip T a b)]) q1 q2 q3.1 (y7m T [a,b] (by simp)) rfl (λ g hg=>?_) ?_
  ·rw[List.mem_singleton]at hg;subst hg;rw[ed];show addX (mulX (negX (ip T g b)) (ip T g g)) (addX (mulX (ip T g g) (ip T g b)) G0)=G0
   exact yC (by simp only[mulX,addX,negX,G0];grind) (by simp only[mulX,addX,negX,G0];grind)
  ·rw[ed,show DX T ([a]++[b])=d2 (ip T a a) (ip T a b) (ip T b a) (ip T b b)from e2 _ _ _ _]
   show addX (mulX (negX (ip T a b)) (ip T b a)) (addX (mulX (ip T a a) (ip T b b)) G0)=_
   exact yC (by simp only[d2,mulX,addX,negX,G0];grind) (by simp only[d2,mulX,addX,negX,G0];grind)
 have s3:∀ a b c,∃ D:Int,DX T [a,b,c]=(D,0,())/\0<=D/\(D=0 ↔ Dep T [a,b,c]):=λ a b c=>by
  obtain ⟨D,q1,q2,q3⟩:=s2 a b;have ed:DX T [a,b]=d2 (ip T a a) (ip T a b) (ip T b a) (ip T b b):=e2 _ _ _ _;refine y5w (v:=[a,b]) (f:=c) (c:=[d2 (ip T a b) (ip T a c) (ip T b b) (ip T b c),negX (d2 (ip T a a) (ip T a c) (ip T b a) (ip T b c))]) q1 q2 q3.1 (y7m T [a,b,c] (by simp)) rfl (λ g hg=>?_) ?_
  ·rw[ed];show addX (mulX (d2 (ip T a b) (ip T a c) (ip T b b) (ip T b c)) (ip T g a)) (addX (mulX (negX (d2 (ip T a a) (ip T a c) (ip T b a) (ip T b c))) (ip T g b)) (addX (mulX (d2 (ip T a a) (ip T a b) (ip T b a) (ip T b b)) (ip T g c)) G0))=G0
   simp only[mem_cons,not_mem_nil,or_false]at hg;rcases hg with rfl|rfl
   ·exact yC (by simp only[d2,mulX,addX,negX,G0];grind) (by simp only[d2,mulX,addX,negX,G0];grind)
   ·exact yC (by simp only[d2,mulX,addX,negX,G0];grind) (by simp only[d2,mulX,addX,negX,G0];grind)
  ·rw[ed,show DX T ([a,b]++[c])=d3 (ip T a a) (ip T a b) (ip T a c) (ip T b a) (ip T b b) (ip T b c) (ip T c a) (ip T c b) (ip T c c)from e3 _ _ _ _ _ _]
   show addX (mulX (d2 (ip T a b) (ip T a c) (ip T b b) (ip T b c)) (ip T c a)) (addX (mulX (negX (d2 (ip T a a) (ip T a c) (ip T b a) (ip T b c))) (ip T c b)) (addX (mulX (d2 (ip T a a) (ip T a b) (ip T b a) (ip T b b)) (ip T c c)) G0))=_
   exact yC (by simp only[d3,d2,mulX,addX,negX,G0];grind) (by simp only[d3,d2,mulX,addX,negX,G0];grind)
 have s4:∀ a b c f,∃ D:Int,DX T [a,b,c,f]=(D,0,())/\0<=D/\(D=0 ↔ Dep T [a,b,c,f]):=λ a b c f=>by
  obtain ⟨D,q1,q2,q3⟩:=s3 a b c;have ed:DX T [a,b,c]=d3 (ip T a a) (ip T a b) (ip T a c) (ip T b a) (ip T b b) (ip T b c) (ip T c a) (ip T c b) (ip T c c):=e3 _ _ _ _ _ _;refine y5w (v:=[a,b,c]) (f:=f) (c:=[negX (d3 (ip T a b) (ip T a c) (ip T a f) (ip T b b) (ip T b c) (ip T b f) (ip T c b) (ip T c c) (ip T c f)),d3 (ip T a a) (ip T a c) (ip T a f) (ip T b a) (ip T b c) (ip T b f) (ip T c a) (ip T c c) (ip T c f),negX (d3 (ip T a a) (ip T a b) (ip T a f) (ip T b a) (ip T b b) (ip T b f) (ip T c a) (ip T c b) (ip T c f))]) q1 q2 q3.1 (y7m T [a,b,c,f] (by simp)) rfl (λ g hg=>?_) ?_
  ·rw[ed];simp only[mem_cons,not_mem_nil,or_false]at hg;rcases hg with rfl|rfl|rfl
   ·exact (congrArg (λ x=>addX _ (addX _ (addX _ x))) (y0N _)).trans (rof0 _ _ _ _ _ _ _ _ _ _ _ _ (ip T f g) (ip T f b) (ip T f c) (ip T f f))
   ·exact (congrArg (λ x=>addX _ (addX _ (addX _ x))) (y0N _)).trans (rof1 _ _ _ _ _ _ _ _ _ _ _ _ (ip T f a) (ip T f g) (ip T f c) (ip T f f))
   ·exact (congrArg (λ x=>addX _ (addX _ (addX _ x))) (y0N _)).trans (rof2 _ _ _ _ _ _ _ _ _ _ _ _ (ip T f a) (ip T f b) (ip T f g) (ip T f f))
  ·rw[ed,show DX T ([a,b,c]++[f])=d4 (ip T a a) (ip T a b) (ip T a c) (ip T a f) (ip T b a) (ip T b b) (ip T b c) (ip T b f) (ip T c a) (ip T c b) (ip T c c) (ip T c f) (ip T f a) (ip T f b) (ip T f c) (ip T f f)from e4 _ _ _ _ _ _ _ _]
   exact (congrArg (λ x=>addX _ (addX _ (addX _ x))) (y0N _)).trans (rof3 _ _ _ _ _ _ _ _ _ _ _ _ _ _ _ _)
 intro v hv;match v,hv with
 |[],_=>exact ⟨1,g0,by decide,by simp[n0]⟩
 |[a],_=>exact s1 a
 |[a,b],_=>exact s2 a b
 |[a,b,c],_=>exact s3 a b c
 |[a,b,c,f],_=>exact s4 a b c f
theorem yJA{T:List Int}(hT:T.length<=128)(l:List Con):norW T l=gm T (l.map chr):=by
 unfold norW gm;rw[List.map_map];refine List.map_congr_left λ a _=>?_
 show _=(l.map chr).map _
 rw[List.map_map];exact List.map_congr_left λ b _=>(yAx (by omega) a b).1
theorem yRJ:bdD 128 4=103079215104:=by decide
theorem yMF{T:List Int}(hT:T.length<=128){l:List Con}(hl:l.length<=4):∃ D:Int,detQ (norW T l)=(D,0,())/\(0<=D/\D<=103079215104)/\(D=0 ↔ Dep T (l.map chr)):=by
 obtain ⟨D,h1,h2,h3⟩:=gram T (l.map chr) (by simpa using hl)
 obtain ⟨n1,n2⟩:=yEl T l;have hb:∀ r∈norW T l,∀ z∈r,bd 128 z:=by
  intro r hr z hz;unfold norW at hr;obtain ⟨a,_,rfl⟩:=List.mem_map.1 hr;obtain ⟨b,_,rfl⟩:=List.mem_map.1 hz;obtain ⟨i1,i2⟩:=yAx (T:=T) (by omega) a b
  rw[i1];exact y6Z i2 (by omega)
 obtain ⟨x1,x2⟩:=yFT (m:=128) (by decide) (by rw[yRJ];decide) (by decide) (norW T l) (List.range (norW T l).length) (by simp) (by omega) hb
 have e:detX (norW T l) (List.range (norW T l).length)=DX T (l.map chr):=by
  unfold DX;rw[yJA hT,show (gm T (l.map chr)).length=(l.map chr).length by unfold gm;simp]
 have hd:detQ (norW T l)=(D,0,()):=by
  unfold detQ;rw[x1,e,h1]
 refine ⟨D,hd,⟨h2,?_⟩,h3⟩;rw[e,h1]at x2;have mono:bdD 128 (norW T l).length<=bdD 128 4:=by
  have:(norW T l).length=0\/(norW T l).length=1\/(norW T l).length=2\/(norW T l).length=3\/(norW T l).length=4:=by omega
  rcases this with q|q|q|q|q<;>rw[q]<;>decide
 rw[yRJ]at mono;have:=x2.1.2;simp only at this;omega
end Go.Tw
