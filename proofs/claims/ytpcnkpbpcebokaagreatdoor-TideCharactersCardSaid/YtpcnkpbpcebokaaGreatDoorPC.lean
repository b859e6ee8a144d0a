import Derived.Test.YtpcnkpbpcebokaaGreatDoorPA
set_option linter.all false
set_option maxRecDepth 100000
namespace Go.Tw
open Go.Vx Go.Vx.B Go.Proofs
theorem yNf{α:Type}(p:List α)(x:α)(r:List α)(i:Int)(hi:i=(p.length:Int)):idx (p++x::r) i=some x:=by
 subst hi;rw[y2z];simp
theorem y8M{α β:Type}{body:Int→α→Unit→Option (β⊕Unit)}{fin:Unit→Option β}(l:List α)(h:∀ (p:List α) (x:α) (r:List α),l=p++x::r→body (p.length:Int) x ()=some (.inr ())) :
  ∀ (r p:List α) (i:Int),l=p++r→i=(p.length:Int)→yX body fin i r ()=fin ()
 | [],p,i,_,_=>rfl
 | x::r,p,i,hl,hi=>by
  rw[y02,hi,h p x r hl];simp only[Option.bind_some];exact y8M l h r (p++[x]) _ (by rw[hl];simp) (by simp)
theorem y9S{α β:Type}{p:α→Option β}{l:List α}(h:l.findSome? p=none):∀ e∈l,p e=none:=List.findSome?_eq_none_iff.1 h
theorem yGg(l:List Con)(hl:l.length < lenMax):∃ s,zp_M l=some (s,())∧(s=true→(∀ c∈l,c.1.length≤60)∧l.length≤5):=by
 unfold zp_M;rw[bifT (y9 hl),y1v (fun c:Con=>bif decide ((c.1.length:Int) > 60)then some (false,())else none) l 0 (fun i e _=>by
  unfold yII;cases decide ((e.1.length:Int) > 60)<;>rfl)]
 cases hf:l.findSome? (fun c:Con=>bif decide ((c.1.length:Int) > 60)then some (false,())else none)with
 | some y =>
  obtain ⟨n,_,hy⟩:=List.exists_of_findSome?_eq_some hf;cases hd:decide ((n.1.length:Int) > 60)with
  | true=>rw[hd]at hy;cases hy;exact ⟨false,rfl,by simp⟩
  | false=>rw[hd]at hy;cases hy
 | none =>
  have hall:∀ c∈l,c.1.length≤60:=fun n hn=>by
   have:=y9S hf n hn;by_cases hd:(n.1.length:Int) > 60
   ·rw[y9 hd]at this;cases this
   ·omega
  show ∃ s,yFc l=some (s,())∧_
  unfold yFc;by_cases h5:(l.length:Int)≤5
  ·exact ⟨true,by rw[y9 h5],fun _=>⟨hall,by omega⟩⟩
  ·exact ⟨false,by rw[yF h5],by simp⟩
theorem yDW(l:List Con)(hl:l.length≤memMax):yF6 l=some (l,()):=by
 have hm:=yGy;unfold yF6;rw[bifT (y9 (show l.length < lenMax by omega)),y6p (fun n=>n) l 0 [] (by simpa using hl) (fun i e s _ hs=>by
  unfold yDN;rw[bifT (y9 hs)])]
 simp only[List.map_id_fun',id_eq,List.nil_append];rfl
end Go.Tw
