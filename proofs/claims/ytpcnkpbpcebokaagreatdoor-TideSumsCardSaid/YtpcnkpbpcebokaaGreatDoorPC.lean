import Derived.Test.YtpcnkpbpcebokaaGreatDoorPA
set_option linter.all false
set_option maxRecDepth 100000
namespace Go.Tw
open Go.Vx Go.Vx.B Go.Proofs
theorem yUW(x:Int):-9223372036854775808≤IntKind.i64.wrap x∧IntKind.i64.wrap x≤9223372036854775807:=by
 rw[IntKind.wrap_i64];omega
theorem yCq{α:Type}(p:List α)(x:α)(r:List α)(i:Int)(hi:i=(p.length:Int)):idx (p++x::r) i=some x:=by
 subst hi;rw[y1E];simp
theorem y49{α β:Type}{body:Int→α→Unit→Option (β⊕Unit)}{fin:Unit→Option β}(l:List α)(h:∀ (p:List α) (x:α) (r:List α),l=p++x::r→body (p.length:Int) x ()=some (.inr ())) :
  ∀ (r p:List α) (i:Int),l=p++r→i=(p.length:Int)→yQ body fin i r ()=fin ()
 | [],p,i,_,_=>rfl
 | x::r,p,i,hl,hi=>by
  rw[y00,hi,h p x r hl];simp only[Option.bind_some];exact y49 l h r (p++[x]) _ (by rw[hl];simp) (by simp)
theorem y6Q(l:List Gau)(h:l.length < lenMax):zV_M l l=some (true,()):=by
 unfold zV_M;rw[bifF (show ((l.length:Int) != (l.length:Int))=false by simp),bifT (yD h),y49 l (fun p x r e=>by
  unfold yIz;rw[e,yCq p x r _ rfl];simp only[Option.bind_some];rw[bifF (by simp[eqV])]) l [] 0 rfl rfl]
 rfl
theorem y9a{α β:Type}{p:α→Option β}{l:List α}(h:l.findSome? p=none):∀ e∈l,p e=none:=List.findSome?_eq_none_iff.1 h
theorem yHP(l:List Con)(hl:l.length < lenMax):∃ s,zj_M l=some (s,())∧(s=true→(∀ c∈l,c.1.length≤60)∧l.length≤5):=by
 unfold zj_M;rw[bifT (yD hl),y2u (fun c:Con=>bif decide ((c.1.length:Int) > 60)then some (false,())else none) l 0 (fun i e _=>by
  unfold yK2;cases decide ((e.1.length:Int) > 60)<;>rfl)]
 cases hf:l.findSome? (fun c:Con=>bif decide ((c.1.length:Int) > 60)then some (false,())else none)with
 | some y =>
  obtain ⟨n,_,hy⟩:=List.exists_of_findSome?_eq_some hf;cases hd:decide ((n.1.length:Int) > 60)with
  | true=>rw[hd]at hy;cases hy;exact ⟨false,rfl,by simp⟩
  | false=>rw[hd]at hy;cases hy
 | none =>
  have hall:∀ c∈l,c.1.length≤60:=fun n hn=>by
   have:=y9a hf n hn;by_cases hd:(n.1.length:Int) > 60
   ·rw[yD hd]at this;cases this
   ·omega
  show ∃ s,yHz l=some (s,())∧_
  unfold yHz;by_cases h5:(l.length:Int)≤5
  ·exact ⟨true,by rw[yD h5],fun _=>⟨hall,by omega⟩⟩
  ·exact ⟨false,by rw[yp h5],by simp⟩
theorem yC3(t:Tid)(hl:t.1.length < lenMax):∃ s,zk_M t=some (s,())∧(s=true→(∀ c∈t.1,c.1.length≤60)∧t.1.length≤5∧t.2.1.length≤5):=by
 unfold zk_M zk_m;obtain ⟨s,h1,h2⟩:=yHP t.1 hl;rw[h1];simp only[Option.bind_some];cases s with
 | false=>exact ⟨false,rfl,by simp⟩
 | true =>
  obtain ⟨h3,h4⟩:=h2 rfl;by_cases h5:(t.2.1.length:Int)≤5
  ·exact ⟨true,by rw[yD h5];rfl,fun _=>⟨h3,h4,by omega⟩⟩
  ·exact ⟨false,by rw[yp h5];rfl,by simp⟩
theorem yKJ(l:List Con)(hl:l.length≤memMax):yDJ l=some (l,()):=by
 have hm:=y5Y;unfold yDJ;rw[bifT (yD (show l.length < lenMax by omega)),y0n (fun n=>n) l 0 [] (by simpa using hl) (fun i e s _ hs=>by
  unfold yEF;rw[bifT (yD hs)])]
 simp only[List.map_id_fun',id_eq,List.nil_append];rfl
theorem yN3(t:Tid)(h1:t.1.length≤memMax)(h2:t.2.1.length≤memMax):yJI t=some (t,()):=by
 unfold yJI yKj zz_M zz_m;rw[yKJ _ h1];simp only[Option.bind_some];rw[bifT (yD (show 0+t.2.1.length≤memMax by omega))]
 rfl
end Go.Tw
