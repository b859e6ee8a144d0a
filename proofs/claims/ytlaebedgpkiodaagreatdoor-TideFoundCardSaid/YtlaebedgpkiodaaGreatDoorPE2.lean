import Derived.Test.YtlaebedgpkiodaaGreatDoorPN1
set_option linter.all false
set_option maxRecDepth 100000
namespace Go.Tw
open Go.Vx Go.Vx.B Go.Proofs
theorem yFg:∀ (c l:List Gau),(∀ z∈l,z=G0)->dotX c l=G0
 |[],_,_=>by unfold dotX;rfl
 |_::_,[],_=>by unfold dotX;rfl
 |z::c,g::l,h=>by
  show addX (mulX z g) (dotX c l)=G0
  rw[h g (by simp),yFg c l λ x hx=>h x (by simp[hx])]
  simp[addX,mulX,G0]
def putX(b:List Gau)(j:Nat)(rows:List (List Gau)):List (List Gau):=List.zipWith (λ r z=>r.set j z) rows b
def y1y(T:List Int)(v:List (Int->Gau))(f:Int->Gau):List Gau:=(List.range v.length).map λ j=>detX (putX (v.map λ a=>ip T a f) j (gm T v)) (List.range v.length)
theorem yBu(T:List Int)(f:Int->Gau):∀ v:List (Int->Gau),v.length<=3->∀ g∈v,ip T g (lc (y1y T v f++[negX (DX T v)]) (v++[f]))=G0
 |[],_,g,hg=>by cases hg
 |[a],_,g,hg=>by
  rw[List.mem_singleton.1 hg,y6V];show addX (mulX (detX [[ip T a f]] [0]) (ip T a a)) (addX (mulX (negX (detX [[ip T a a]] [0])) (ip T a f)) G0)=G0
  rw[e1,e1];show addX (mulX (ip T a f) (ip T a a)) (addX (mulX (negX (ip T a a)) (ip T a f)) G0)=G0
  exact yC (by simp only[addX,mulX,negX,G0];grind) (by simp only[addX,mulX,negX,G0];grind)
 |[a,b],_,g,hg=>by
  have key:∀ g:Int->Gau,ip T g (lc (y1y T [a,b] f++[negX (DX T [a,b])]) ([a,b]++[f]))=addX (mulX (d2 (ip T a f) (ip T a b) (ip T b f) (ip T b b)) (ip T g a)) (addX (mulX (d2 (ip T a a) (ip T a f) (ip T b a) (ip T b f)) (ip T g b)) (addX (mulX (negX (d2 (ip T a a) (ip T a b) (ip T b a) (ip T b b))) (ip T g f)) G0)):=λ g=>by
   rw[y6V];show addX (mulX (detX [[ip T a f,ip T a b],[ip T b f,ip T b b]] [0,1]) (ip T g a)) (addX (mulX (detX [[ip T a a,ip T a f],[ip T b a,ip T b f]] [0,1]) (ip T g b)) (addX (mulX (negX (detX [[ip T a a,ip T a b],[ip T b a,ip T b b]] [0,1])) (ip T g f)) G0))=_
   rw[e2,e2,e2];rfl
  rw[key];rcases List.mem_cons.1 hg with rfl|hg
  ·exact yC (by simp only[d2,addX,mulX,negX,G0];grind) (by simp only[d2,addX,mulX,negX,G0];grind)
  ·rw[List.mem_singleton.1 hg];exact yC (by simp only[d2,addX,mulX,negX,G0];grind) (by simp only[d2,addX,mulX,negX,G0];grind)
 |[a,b,h],_,g,hg=>by
  have key:∀ g:Int->Gau,ip T g (lc (y1y T [a,b,h] f++[negX (DX T [a,b,h])]) ([a,b,h]++[f])) =
    addX (mulX (d3 (ip T a f) (ip T a b) (ip T a h) (ip T b f) (ip T b b) (ip T b h) (ip T h f) (ip T h b) (ip T h h)) (ip T g a)) (addX (mulX (d3 (ip T a a) (ip T a f) (ip T a h) (ip T b a) (ip T b f) (ip T b h) (ip T h a) (ip T h f) (ip T h h)) (ip T g b)) (addX (mulX (d3 (ip T a a) (ip T a b) (ip T a f) (ip T b a) (ip T b b) (ip T b f) (ip T h a) (ip T h b) (ip T h f)) (ip T g h)) (addX (mulX (negX (d3 (ip T a a) (ip T a b) (ip T a h) (ip T b a) (ip T b b) (ip T b h) (ip T h a) (ip T h b) (ip T h h))) (ip T g f)) G0))):=λ g=>by
   rw[y6V];show addX (mulX (detX [[ip T a f,ip T a b,ip T a h],[ip T b f,ip T b b,ip T b h],[ip T h f,ip T h b,ip T h h]] [0,1,2]) (ip T g a)) (addX (mulX (detX [[ip T a a,ip T a f,ip T a h],[ip T b a,ip T b f,ip T b h],[ip T h a,ip T h f,ip T h h]] [0,1,2]) (ip T g b)) (addX (mulX (detX [[ip T a a,ip T a b,ip T a f],[ip T b a,ip T b b,ip T b f],[ip T h a,ip T h b,ip T h f]] [0,1,2]) (ip T g h)) (addX (mulX (negX (detX [[ip T a a,ip T a b,ip T a h],[ip T b a,ip T b b,ip T b h],[ip T h a,ip T h b,ip T h h]] [0,1,2])) (ip T g f)) G0)))=_
   rw[e3,e3,e3,e3];rfl
  rw[key];clear key;have hh:g=a\/g=b\/g=h:=by simpa using hg
  clear hg;generalize hA:ip T a a=A;generalize hB:ip T a b=B;generalize hC:ip T a h=C;generalize hE:ip T b a=E;generalize hF:ip T b b=F;generalize hG:ip T b h=G;generalize hH:ip T h a=H;generalize hI:ip T h b=I;generalize hJ:ip T h h=J;generalize hK:ip T a f=K;generalize hL:ip T b f=L;generalize hM:ip T h f=M;rcases hh with rfl|rfl|rfl
  ·rw[hA,hB,hC,hK];exact yC (by simp only[d3,d2,addX,mulX,negX,G0];grind) (by simp only[d3,d2,addX,mulX,negX,G0];grind)
  ·rw[hE,hF,hG,hL];exact yC (by simp only[d3,d2,addX,mulX,negX,G0];grind) (by simp only[d3,d2,addX,mulX,negX,G0];grind)
  ·rw[hH,hI,hJ,hM];exact yC (by simp only[d3,d2,addX,mulX,negX,G0];grind) (by simp only[d3,d2,addX,mulX,negX,G0];grind)
 |_::_::_::_::_,h,_,_=>by simp at h
end Go.Tw
