import Derived.Test.YtpcnkpbpcebokaaGreatDoorPA
set_option linter.all false
set_option maxRecDepth 100000
namespace Go.Tw
open Go.Vx Go.Vx.B Go.Proofs
theorem yd0(x:Int):-9223372036854775808≤IntKind.i64.wrap x∧IntKind.i64.wrap x≤9223372036854775807:=by
 rw[IntKind.wrap_i64];omega
theorem yA0{α β:Type}{p:α→Option β}{l:List α}(h:l.findSome? p=none):∀ e∈l,p e=none:=List.findSome?_eq_none_iff.1 h
theorem yHw(l:List Con)(hl:l.length < lenMax):∃ s,zt_M l=some (s,())∧(s=true→(∀ c∈l,c.1.length≤60)∧l.length≤5):=by
 unfold zt_M;rw[bifT (y7 hl),y1J (fun c:Con=>bif decide ((c.1.length:Int) > 60)then some (false,())else none) l 0 (fun i e _=>by
  unfold yKc;cases decide ((e.1.length:Int) > 60)<;>rfl)]
 cases hf:l.findSome? (fun c:Con=>bif decide ((c.1.length:Int) > 60)then some (false,())else none)with
 | some y =>
  obtain ⟨n,_,hy⟩:=List.exists_of_findSome?_eq_some hf;cases hd:decide ((n.1.length:Int) > 60)with
  | true=>rw[hd]at hy;cases hy;exact ⟨false,rfl,by simp⟩
  | false=>rw[hd]at hy;cases hy
 | none =>
  have hall:∀ c∈l,c.1.length≤60:=fun n hn=>by
   have:=yA0 hf n hn;by_cases hd:(n.1.length:Int) > 60
   ·rw[y7 hd]at this;cases this
   ·omega
  show ∃ s,yJP l=some (s,())∧_
  unfold yJP;by_cases h5:(l.length:Int)≤5
  ·exact ⟨true,by rw[y7 h5],fun _=>⟨hall,by omega⟩⟩
  ·exact ⟨false,by rw[yG h5],by simp⟩
theorem yJ9(t:Tid)(hl:t.1.length < lenMax):∃ s,zu_M t=some (s,())∧(s=true→(∀ c∈t.1,c.1.length≤60)∧t.1.length≤5∧t.2.1.length≤5):=by
 unfold zu_M zu_m;obtain ⟨s,h1,h2⟩:=yHw t.1 hl;rw[h1];simp only[Option.bind_some];cases s with
 | false=>exact ⟨false,rfl,by simp⟩
 | true =>
  obtain ⟨h3,h4⟩:=h2 rfl;by_cases h5:(t.2.1.length:Int)≤5
  ·exact ⟨true,by rw[y7 h5];rfl,fun _=>⟨h3,h4,by omega⟩⟩
  ·exact ⟨false,by rw[yG h5];rfl,by simp⟩
theorem yMW(l:List Con)(hl:l.length≤memMax):yCx l=some (l,()):=by
 have hm:=yBa;unfold yCx;rw[bifT (y7 (show l.length < lenMax by omega)),y4p (fun n=>n) l 0 [] (by simpa using hl) (fun i e s _ hs=>by
  unfold yDs;rw[bifT (y7 hs)])]
 simp only[List.map_id_fun',id_eq,List.nil_append];rfl
theorem yTa(t:Tid)(h1:t.1.length≤memMax)(h2:t.2.1.length≤memMax):yM7 t=some (t,()):=by
 unfold yM7 yKC yLu yK7;rw[yMW _ h1];simp only[Option.bind_some];rw[bifT (y7 (show 0+t.2.1.length≤memMax by omega))]
 rfl
end Go.Tw
