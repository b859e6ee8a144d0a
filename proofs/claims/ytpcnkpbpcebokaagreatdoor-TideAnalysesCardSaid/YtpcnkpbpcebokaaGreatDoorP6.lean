import Derived.Test.YtpcnkpbpcebokaaGreatDoorPC
set_option linter.all false
set_option maxRecDepth 100000
namespace Go.Tw
open Go.Vx Go.Vx.B Go.Proofs
theorem y9P{α β γ:Type}{body:Int->α->List γ->Option (β⊕List γ)}{fin:List γ->Option β}(xs:List α)(f:α->γ)
  (h:∀ (i:Nat) e s,xs[i]?=some e->s.length+1<=memMax->body (i:Int) e s=some (.inr (s++[f e]))) :
  ∀ (l done:List α) (s:List γ),xs=done++l->s.length+l.length<=memMax->yM body fin (done.length:Int) l s=fin (s++l.map f)
 | [],done,s,_,_=>by simp[y25]
 | e::l,done,s,hx,hl=>by
  simp only[List.length_cons]at hl;rw[yT,h done.length e s (by rw[hx];simp) (by omega)]
  simp only[Option.bind_some];have ih:=y9P (body:=body) (fin:=fin) xs f h l (done++[e]) (s++[f e]) (by rw[hx];simp) (by simp;omega)
  simp only[List.length_append,List.length_cons,List.length_nil]at ih;rw[show ((done.length:Int)+1)=((done.length+(0+1):Nat):Int) by omega,ih]
  simp
def yP4(m:Int)(z:Gau):Bool:=decide ((z.1.natAbs:Int)<=m/\(z.2.1.natAbs:Int)<=m)
def qG(n:Int)(z:Gau):Gau:=(IntKind.i64.wrap (z.1.tdiv n),IntKind.i64.wrap (z.2.1.tdiv n),())
theorem yTg(l:List Con)(hl:l.length<=memMax):z7_M l (λ x=>yMv x.1)=some (l,()):=by
 unfold z7_M;rw[bifT (y5 (y0L hl)),y1M (λ c=>c) l 0 [] (by simpa using hl) λ i e s _ hs=>by
  unfold yNO;show Option.bind (some (z07 e)) _=_
  simp only[Option.bind_some];rw[bifT (y5 hs)];rfl]
 simp only[List.map_id_fun',id_eq,List.nil_append];rfl
theorem ySK(l:List Gau)(f:Gau×Unit->Option (Gau×Unit))(g:Gau->Gau)(hl:l.length<=memMax)(h:∀ z∈l,f (z,())=some (g z,())):zG_M l f=some (l.map g,()):=by
 unfold zG_M;rw[bifT (y5 (y0L hl)),y1M g l 0 [] (by simpa using hl) λ i e s he hs=>by
  unfold yM2;show Option.bind (f (e,())) _=_
  rw[h e he];simp only[Option.bind_some];rw[bifT (y5 hs)]]
 rfl
end Go.Tw
