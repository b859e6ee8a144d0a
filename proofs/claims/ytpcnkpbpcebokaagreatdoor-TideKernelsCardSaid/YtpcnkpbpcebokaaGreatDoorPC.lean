import Derived.Test.YtpcnkpbpcebokaaGreatDoorPA
set_option linter.all false
set_option maxRecDepth 100000
namespace Go.Tw
open Go.Vx Go.Vx.B Go.Proofs
theorem yXL(x:Int):-9223372036854775808<=IntKind.i64.wrap x/\IntKind.i64.wrap x<=9223372036854775807:=by
 rw[IntKind.wrap_i64];omega
theorem yUO{α:Type}(p:List α)(x:α)(r:List α)(i:Int)(hi:i=(p.length:Int)):idx (p++x::r) i=some x:=by
 subst hi;rw[ym];simp
theorem y9V{α β:Type}{body:Int->α->Unit->Option (β⊕Unit)}{fin:Unit->Option β}(l:List α)(h:∀ (p:List α) (x:α) (r:List α),l=p++x::r->body (p.length:Int) x ()=some (.inr ())) :
  ∀ (r p:List α) (i:Int),l=p++r->i=(p.length:Int)->yM body fin i r ()=fin ()
 |[],p,i,_,_=>rfl
 |x::r,p,i,hl,hi=>by
  rw[yk,hi,h p x r hl];simp only[Option.bind_some];exact y9V l h r (p++[x]) _ (by rw[hl];simp) (by simp)
theorem y3Y(l:List Gau)(h:l.length < lenMax):zd_M l l=some (true,()):=by
 unfold zd_M;rw[bifF (show ((l.length:Int) != (l.length:Int))=false by simp),bifT (y5 h),y9V l (λ p x r e=>by
  unfold yMF;rw[e,yUO p x r _ rfl];simp only[Option.bind_some];rw[bifF (by simp[eqV])]) l [] 0 rfl rfl]
 rfl
theorem yA1{α β:Type}{p:α->Option β}{l:List α}(h:l.findSome? p=none):∀ e∈l,p e=none:=List.findSome?_eq_none_iff.1 h
theorem yJi(l:List Con)(hl:l.length < lenMax):∃ s,zz_M l=some (s,())/\(s=true->(∀ c∈l,c.1.length<=60)/\l.length<=5):=by
 unfold zz_M;rw[bifT (y5 hl),y1a (λ c:Con=>bif decide ((c.1.length:Int) > 60)then some (false,())else none) l 0 (λ i e _=>by
  unfold yMH;cases decide ((e.1.length:Int) > 60)<;>rfl)]
 cases hf:l.findSome? (λ c:Con=>bif decide ((c.1.length:Int) > 60)then some (false,())else none)with
 |some y =>
  obtain ⟨n,_,hy⟩:=List.exists_of_findSome?_eq_some hf;cases hd:decide ((n.1.length:Int) > 60)with
  |true=>rw[hd]at hy;cases hy;exact ⟨false,rfl,by simp⟩
  |false=>rw[hd]at hy;cases hy
 |none =>
  have hall:∀ c∈l,c.1.length<=60:=λ n hn=>by
   have:=yA1 hf n hn;by_cases hd:(n.1.length:Int) > 60
   ·rw[y5 hd]at this;cases this
   ·omega
  show ∃ s,yKo l=some (s,())/\_
  unfold yKo;by_cases h5:(l.length:Int)<=5
  ·exact ⟨true,by rw[y5 h5],λ _=>⟨hall,by omega⟩⟩
  ·exact ⟨false,by rw[yF h5],by simp⟩
theorem yLm(l:List Con)(hl:l.length<=memMax):yIK l=some (l,()):=by
 have hm:=yCB;unfold yIK;rw[bifT (y5 (show l.length < lenMax by omega)),y2D (λ n=>n) l 0 [] (by simpa using hl) (λ i e s _ hs=>by
  unfold yFI;rw[bifT (y5 hs)])]
 simp only[List.map_id_fun',id_eq,List.nil_append];rfl
end Go.Tw
