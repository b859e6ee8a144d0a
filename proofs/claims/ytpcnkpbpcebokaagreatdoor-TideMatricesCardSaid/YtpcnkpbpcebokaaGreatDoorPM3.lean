import Derived.Test.YtpcnkpbpcebokaaGreatDoorPM2
import Derived.Test.YtpcnkpbpcebokaaGreatDoorPQ
set_option linter.all false
set_option maxRecDepth 100000
namespace Go.Tw
open Go.Vx Go.Vx.B Go.Proofs
noncomputable def detQ(m:List (List Gau)):Gau:=detC m (List.range m.length)
theorem ySv(r:List Gau):selC (List.range r.length) r=r:=by
 unfold selC;have:=y53 r id G0;simpa using this
theorem ycI{m:List (List Gau)}(hn:m.length<=4)(hr:∀ r∈m,r.length=m.length):y0D 8 (m,())=some (detQ m,()):=by
 have h:=yKD m (List.range m.length) 8 (by simp) hn (by omega)
 have e:m.map (selC (List.range m.length))=m:=by
  conv=>rhs;rw[<- List.map_id m]
  refine List.map_congr_left λ r hr2=>?_
  have:=ySv r;rw[hr r hr2]at this;exact this
 rw[e]at h;exact h
theorem y87(T:List Int)(l:List Con):(norW T l).length=l.length/\∀ r∈norW T l,r.length=l.length:=by
 unfold norW;refine ⟨by simp,λ r h=>?_⟩
 obtain ⟨a,_,rfl⟩:=List.mem_map.1 h;simp
theorem y91{α β σ:Type}{body:Int->σ->Option (β⊕σ)}{fin:σ->Option β}(xs:List α)(h:σ->α->σ)(hb:∀ (i:Nat) e s,xs[i]?=some e->body (i:Int) s=some (.inr (h s e))) :
  ∀ (l done:List α) (s:σ),xs=done++l->y06 body fin l.length (done.length:Int) s=fin (l.foldl h s)
 |[],done,s,_=>rfl
 |e::l,done,s,hx=>by
  rw[List.length_cons,y1W,hb done.length e s (by rw[hx];simp)]
  simp only[Option.bind_some];have ih:=y91 (body:=body) (fin:=fin) xs h hb l (done++[e]) (h s e) (by rw[hx];simp)
  simp only[List.length_append,List.length_cons,List.length_nil]at ih;exact ih
end Go.Tw
