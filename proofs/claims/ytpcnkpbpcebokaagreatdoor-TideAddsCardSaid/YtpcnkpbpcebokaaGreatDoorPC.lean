import Derived.Test.YtpcnkpbpcebokaaGreatDoorPA
set_option linter.all false
set_option maxRecDepth 100000
namespace Go.Tw
open Go.Vx Go.Vx.B Go.Proofs
theorem yIo(x:Int):-9223372036854775808≤IntKind.i64.wrap x∧IntKind.i64.wrap x≤9223372036854775807:=by
 rw[IntKind.wrap_i64];omega
theorem y9x{α β:Type}{p:α→Option β}{l:List α}(h:l.findSome? p=none):∀ e∈l,p e=none:=List.findSome?_eq_none_iff.1 h
theorem yGO(l:List Con)(hl:l.length < lenMax):∃ s,zl_M l=some (s,())∧(s=true→(∀ c∈l,c.1.length≤60)∧l.length≤5):=by
 unfold zl_M;rw[bifT (yC hl),y2j (fun c:Con=>bif decide ((c.1.length:Int) > 60)then some (false,())else none) l 0 (fun i e _=>by
  unfold yK1;cases decide ((e.1.length:Int) > 60)<;>rfl)]
 cases hf:l.findSome? (fun c:Con=>bif decide ((c.1.length:Int) > 60)then some (false,())else none)with
 | some y =>
  obtain ⟨n,_,hy⟩:=List.exists_of_findSome?_eq_some hf;cases hd:decide ((n.1.length:Int) > 60)with
  | true=>rw[hd]at hy;cases hy;exact ⟨false,rfl,by simp⟩
  | false=>rw[hd]at hy;cases hy
 | none =>
  have hall:∀ c∈l,c.1.length≤60:=fun n hn=>by
   have:=y9x hf n hn;by_cases hd:(n.1.length:Int) > 60
   ·rw[yC hd]at this;cases this
   ·omega
  show ∃ s,yID l=some (s,())∧_
  unfold yID;by_cases h5:(l.length:Int)≤5
  ·exact ⟨true,by rw[yC h5],fun _=>⟨hall,by omega⟩⟩
  ·exact ⟨false,by rw[yL h5],by simp⟩
theorem yC2(t:Tid)(hl:t.1.length < lenMax):∃ s,zm_M t=some (s,())∧(s=true→(∀ c∈t.1,c.1.length≤60)∧t.1.length≤5∧t.2.1.length≤5):=by
 unfold zm_M zm_m;obtain ⟨s,h1,h2⟩:=yGO t.1 hl;rw[h1];simp only[Option.bind_some];cases s with
 | false=>exact ⟨false,rfl,by simp⟩
 | true =>
  obtain ⟨h3,h4⟩:=h2 rfl;by_cases h5:(t.2.1.length:Int)≤5
  ·exact ⟨true,by rw[yC h5];rfl,fun _=>⟨h3,h4,by omega⟩⟩
  ·exact ⟨false,by rw[yL h5];rfl,by simp⟩
theorem yJ1(l:List Con)(hl:l.length≤memMax):yD1 l=some (l,()):=by
 have hm:=y5L;unfold yD1;rw[bifT (yC (show l.length < lenMax by omega)),y2D (fun n=>n) l 0 [] (by simpa using hl) (fun i e s _ hs=>by
  unfold yEG;rw[bifT (yC hs)])]
 simp only[List.map_id_fun',id_eq,List.nil_append];rfl
theorem yAb(t:Tid)(h1:t.1.length≤memMax)(h2:t.2.1.length≤memMax):yFz t=some (t,()):=by
 unfold yFz yJk yJN yIi;rw[yJ1 _ h1];simp only[Option.bind_some];rw[bifT (yC (show 0+t.2.1.length≤memMax by omega))]
 rfl
end Go.Tw
