import Derived.Test.YtpcnkpbpcebokaaGreatDoorPN1
import Derived.Test.YtpcnkpbpcebokaaGreatDoorPK
set_option linter.all false
set_option maxRecDepth 100000
open Option (bind_some)
namespace Go.Tw
open Go.Vx Go.Vx.B Go.Proofs
noncomputable def y4a(r:Rec)(k:List Con)(c:Con):List Con:=if denA r (k++[c]) == 0 then k else k++[c]
noncomputable def y1T(r:Rec)(l:List Con):List Con:=l.foldl (y4a r) []
theorem yJK(r:Rec)(k:List Con)(c:Con):(y4a r k c).length<=k.length+1:=by
 unfold y4a;split
 ·omega
 ·simp
theorem yGJ{r:Rec}{l:List Con}(hn:r.1.length < lenMax)(hl:r.2.2.1.length < lenMax)(hg:r.2.2.2.1.length < lenMax)(hnl:∀ n∈l,n.1.length < lenMax)(hll:l.length < lenMax) :
  yKx r l=some (if y0a r l=0 then (((y1T r l).length:Int),0,())else (0,y0a r l,())):=by
 have hmem:memMax=68719476736:=rfl;unfold yKx;rw[y2v r l hn hl hg hnl hll];simp only[bind_some];by_cases h:y0a r l=0
 ·obtain ⟨h1,h2,h3,h4⟩:=y2J h;have h5:=h3.2;rw[if_pos h,bifF (by simp[h]),bifT (y8 hll)]
  have key:∀ (p:List Con) (i:Nat) (k:List Con),k.length+p.length<=4->(∀ c∈k,y3P c)->(∀ c∈p,y3P c) ->
    yJ (λ i__ e__ s__=>yBZ r l i__ e__ s__) (λ s__=>yFV r l s__) (i:Int) p k=yFV r l (p.foldl (y4a r) k):=by
   intro p;induction p with
   |nil=>intro i k _ _ _;rfl
   |cons c p ih =>
    intro i k hk hok hop;simp only[List.length_cons]at hk;have hb:yBZ r l (i:Int) c k=some (.inr (y4a r k c)):=by
     unfold yBZ;rw[bifT (y8 (by omega)),bifT (y8 (by omega))]
     show Option.bind (yDX r (k++[c])) _=_
     rw[yNu h1 h2 (by simp;omega) (λ x hx=>by
      rcases List.mem_append.1 hx with hx|hx
      ·exact hok x hx
      ·rw[List.mem_singleton.1 hx];exact hop c (by simp))]
     simp only[bind_some];unfold y4a;cases (denA r (k++[c]) == 0)<;>rfl
    rw[yk,hb];simp only[bind_some];have hs:=yJK r k c;refine ih (i+1) (y4a r k c) (by omega) (λ x hx=>?_) (λ x hx=>hop x (by simp[hx]))
    unfold y4a at hx;split at hx
    ·exact hok x hx
    ·rcases List.mem_append.1 hx with hx|hx
     ·exact hok x hx
     ·rw[List.mem_singleton.1 hx];exact hop c (by simp)
  have:=key l 0 [] (by simp;omega) (λ c hc=>by cases hc) h4
  refine (show _=_ from this).trans ?_
  rfl
 ·rw[if_neg h,bifT (by simpa using h)]
theorem yEO{r:Rec}(hT:(tks r).length<=128){l:List Con}(hl:l.length<=4):0<=denA r l/\(denA r l=0 ↔ Dep (tks r) (l.map chr)):=by
 obtain ⟨D,h1,h2,h3⟩:=yFG hT hl;have e:denA r l=D:=by unfold denA;rw[h1]
 rw[e];exact ⟨h2.1,h3⟩
theorem yIP{r:Rec}(hT:(tks r).length<=128):∀ (l k:List Con),k.length+l.length<=4->¬ Dep (tks r) (k.map chr) ->
  ¬ Dep (tks r) ((l.foldl (y4a r) k).map chr)/\(∃ s,List.Sublist s l/\l.foldl (y4a r) k=k++s)/\(∀ c∈l,Span (tks r) ((l.foldl (y4a r) k).map chr) (chr c))/\∀ f,Span (tks r) (k.map chr) f->Span (tks r) ((l.foldl (y4a r) k).map chr) f
 |[],k,_,hk=>⟨hk,⟨[],List.Sublist.slnil,by simp⟩,λ c hc=>(by cases hc),λ f hf=>hf⟩
 |c::l,k,hl,hk=>by
  simp only[List.length_cons]at hl;obtain ⟨d1,d2⟩:=yEO hT (l:=k++[c]) (by simp;omega)
  rw[List.map_append,List.map_cons,List.map_nil]at d2;rw[List.foldl_cons];by_cases h0:denA r (k++[c])=0
  ·have e:y4a r k c=k:=by unfold y4a;rw[if_pos (by simpa using h0)]
   rw[e];obtain ⟨a1,⟨s,a2,a3⟩,a4,a5⟩:=yIP hT l k (by omega) hk
   refine ⟨a1,⟨s,a2.cons c,a3⟩,λ x hx=>?_,a5⟩
   rcases List.mem_cons.1 hx with rfl|hx
   ·exact a5 _ (Span.of_dep (d2.1 h0) hk)
   ·exact a4 x hx
  ·have e:y4a r k c=k++[c]:=by unfold y4a;rw[if_neg (by simpa using h0)]
   rw[e];have hk2:¬ Dep (tks r) ((k++[c]).map chr):=λ h=>h0 (d2.2 (by simpa using h))
   obtain ⟨a1,⟨s,a2,a3⟩,a4,a5⟩:=yIP hT l (k++[c]) (by simp;omega) hk2
   have em:(k++[c]).map chr=k.map chr++[chr c]:=by simp
   refine ⟨a1,⟨c::s,a2.cons_cons c,by rw[a3];simp⟩,λ x hx=>?_,λ f hf=>a5 f (by rw[em];exact hf.app _)⟩
   rcases List.mem_cons.1 hx with rfl|hx
   ·exact a5 _ (by rw[em];exact Span.last _ _ _)
   ·exact a4 x hx
end Go.Tw
