import Derived.Test.YtpcnkpbpcebokaaGreatDoorPA
set_option linter.all false
set_option maxRecDepth 100000
namespace Go.Tw
open Go.Vx Go.Vx.B Go.Proofs
theorem yA4{α β:Type}{p:α->Option β}{l:List α}(h:l.findSome? p=none):∀ e∈l,p e=none:=List.findSome?_eq_none_iff.1 h
theorem yJ8(l:List Con)(hl:l.length < lenMax):∃ s,zt_M l=some (s,())/\(s=true->(∀ c∈l,c.1.length<=60)/\l.length<=5):=by
 unfold zt_M;rw[bifT (y8 hl),y1d (λ c:Con=>bif decide ((c.1.length:Int) > 60)then some (false,())else none) l 0 (λ i e _=>by
  unfold yOG;cases decide ((e.1.length:Int) > 60)<;>rfl)]
 cases hf:l.findSome? (λ c:Con=>bif decide ((c.1.length:Int) > 60)then some (false,())else none)with
 |some y =>
  obtain ⟨n,_,hy⟩:=List.exists_of_findSome?_eq_some hf;cases hd:decide ((n.1.length:Int) > 60)with
  |true=>rw[hd]at hy;cases hy;exact ⟨false,rfl,by simp⟩
  |false=>rw[hd]at hy;cases hy
 |none =>
  have hall:∀ c∈l,c.1.length<=60:=λ n hn=>by
   have:=yA4 hf n hn;by_cases hd:(n.1.length:Int) > 60
   ·rw[y8 hd]at this;cases this
   ·omega
  show ∃ s,yMg l=some (s,())/\_
  unfold yMg;by_cases h5:(l.length:Int)<=5
  ·exact ⟨true,by rw[y8 h5],λ _=>⟨hall,by omega⟩⟩
  ·exact ⟨false,by rw[y9 h5],by simp⟩
theorem y5a(l:List Con)(hl:l.length<=memMax):yMk l=some (l,()):=by
 have hm:=yCy;unfold yMk;rw[bifT (y8 (show l.length < lenMax by omega)),y1q (λ n=>n) l 0 [] (by simpa using hl) (λ i e s _ hs=>by
  unfold yKK;rw[bifT (y8 hs)])]
 simp only[List.map_id_fun',id_eq,List.nil_append];rfl
end Go.Tw
