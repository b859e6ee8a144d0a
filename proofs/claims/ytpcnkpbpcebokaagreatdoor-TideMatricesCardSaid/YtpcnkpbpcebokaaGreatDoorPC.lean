import Derived.Test.YtpcnkpbpcebokaaGreatDoorPA
set_option linter.all false
set_option maxRecDepth 100000
namespace Go.Tw
open Go.Vx Go.Vx.B Go.Proofs
theorem yWF(x:Int):-9223372036854775808<=IntKind.i64.wrap x/\IntKind.i64.wrap x<=9223372036854775807:=by
 rw[IntKind.wrap_i64];omega
theorem yDf{α:Type}(p:List α)(x:α)(r:List α)(i:Int)(hi:i=(p.length:Int)):idx (p++x::r) i=some x:=by
 subst hi;rw[y0X];simp
theorem y4I{α β:Type}{body:Int->α->Unit->Option (β⊕Unit)}{fin:Unit->Option β}(l:List α)(h:∀ (p:List α) (x:α) (r:List α),l=p++x::r->body (p.length:Int) x ()=some (.inr ())) :
  ∀ (r p:List α) (i:Int),l=p++r->i=(p.length:Int)->yP body fin i r ()=fin ()
 |[],p,i,_,_=>rfl
 |x::r,p,i,hl,hi=>by
  rw[yz,hi,h p x r hl];simp only[Option.bind_some];exact y4I l h r (p++[x]) _ (by rw[hl];simp) (by simp)
theorem y6X(l:List Gau)(h:l.length < lenMax):zZ_M l l=some (true,()):=by
 unfold zZ_M;rw[bifF (show ((l.length:Int) != (l.length:Int))=false by simp),bifT (y7 h),y4I l (λ p x r e=>by
  unfold yMN;rw[e,yDf p x r _ rfl];simp only[Option.bind_some];rw[bifF (by simp[eqV])]) l [] 0 rfl rfl]
 rfl
theorem yB6{α β:Type}{p:α->Option β}{l:List α}(h:l.findSome? p=none):∀ e∈l,p e=none:=List.findSome?_eq_none_iff.1 h
theorem yKX(l:List Con)(hl:l.length < lenMax):∃ s,zt_M l=some (s,())/\(s=true->(∀ c∈l,c.1.length<=60)/\l.length<=5):=by
 unfold zt_M;rw[bifT (y7 hl),y22 (λ c:Con=>bif decide ((c.1.length:Int) > 60)then some (false,())else none) l 0 (λ i e _=>by
  unfold yMb;cases decide ((e.1.length:Int) > 60)<;>rfl)]
 cases hf:l.findSome? (λ c:Con=>bif decide ((c.1.length:Int) > 60)then some (false,())else none)with
 |some y =>
  obtain ⟨n,_,hy⟩:=List.exists_of_findSome?_eq_some hf;cases hd:decide ((n.1.length:Int) > 60)with
  |true=>rw[hd]at hy;cases hy;exact ⟨false,rfl,by simp⟩
  |false=>rw[hd]at hy;cases hy
 |none =>
  have hall:∀ c∈l,c.1.length<=60:=λ n hn=>by
   have:=yB6 hf n hn;by_cases hd:(n.1.length:Int) > 60
   ·rw[y7 hd]at this;cases this
   ·omega
  show ∃ s,yJB l=some (s,())/\_
  unfold yJB;by_cases h5:(l.length:Int)<=5
  ·exact ⟨true,by rw[y7 h5],λ _=>⟨hall,by omega⟩⟩
  ·exact ⟨false,by rw[yF h5],by simp⟩
theorem yLT(l:List Con)(hl:l.length<=memMax):yHZ l=some (l,()):=by
 have hm:=yJh;unfold yHZ;rw[bifT (y7 (show l.length < lenMax by omega)),y3Y (λ n=>n) l 0 [] (by simpa using hl) (λ i e s _ hs=>by
  unfold yF4;rw[bifT (y7 hs)])]
 simp only[List.map_id_fun',id_eq,List.nil_append];rfl
end Go.Tw
