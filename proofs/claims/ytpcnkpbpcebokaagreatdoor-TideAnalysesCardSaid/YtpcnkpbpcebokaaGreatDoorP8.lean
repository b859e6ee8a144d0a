import Derived.Test.YtpcnkpbpcebokaaGreatDoorP7
set_option linter.all false
set_option maxRecDepth 100000
namespace Go.Tw
open Go.Vx Go.Vx.B Go.Proofs
noncomputable def sumS(a b:Tid):SumS:=addL a.1 a.2.2.1 b.1 b.2.1 (a.1,a.2.1.map λ z=>(z0o z b.2.2.1).1)
structure SumF (a b:Tid):Prop where
 start:okS a.1.length 17179869184 (a.1,a.2.1.map λ z=>(z0o z b.2.2.1).1)
 la:a.2.1.length<=4
 lb:b.1.length<=4
 leq:b.1.length=b.2.1.length
 ok:okS a.1.length (17179869184+b.1.length * 17179869184) (sumS a b)
 len:(sumS a b).2.length<=8
 fit:∀ z∈(sumS a b).2,fits z
 den:∃ d:Nat,0 < d/\a.2.2.1 * b.2.2.1=(d:Int)/\IntKind.i64.wrap (a.2.2.1 * b.2.2.1)=(d:Int)
 sb:∀ z∈b.2.1,yP4 4194304 z=true
 da:0<=a.2.2.1/\a.2.2.1<=4096
theorem yH5(t:Tid)(h1:t.1.length<=memMax):yCf t=some (t,()):=by
 unfold yCf;rw[bifT (y5 (y0L h1)),y1M (λ n=>n) t.1 0 [] (by simpa using h1) (λ i e s _ hs=>by
  unfold yFh;rw[bifT (y5 hs)])]
 simp only[List.map_id_fun',id_eq,List.nil_append];rfl
theorem yDE(t:Tid)(h1:t.1.length < lenMax)(h2:t.2.1.length < lenMax):yBz t t=some (true,()):=by
 unfold yBz;rw[bifF (by simp),bifF (by simp),bifT (y5 h1),y60 t.1 (λ p x r e=>by
  unfold yFZ;rw[e,yEr p x r _ rfl];simp only[Option.bind_some];rw[bifF (by simp[eqV])]) t.1 [] 0 rfl rfl]
 unfold yGy;rw[y6f _ h2];rfl
theorem yNt(t:Tid)(h1:t.1.length<=memMax)(h2:t.2.1.length<=memMax):yCt t 0 0 t=some (true,()):=by
 unfold yCt yJH;rw[bifF (by rfl),bifT (by rfl),yH5 t h1]
 simp only[Option.bind_some];rw[yDE (t.1,t.2.1,t.2.2.1,()) (y0L h1) (y0L h2)];rfl
theorem yKZ{e:Int}(h:e≠0)(w:Tid):yCt ([],[],0,()) e e w=some (true,()):=by
 unfold yCt yJH;rw[bifT (by simpa using h),bifT (by simp),yH5 _ (by simp)]
 simp only[Option.bind_some];rw[yDE _ (by simp[lenMax]) (by simp[lenMax])]
 rfl
theorem yJf(x:Gau):z0Z x 0 0 x=(true,()):=by
 unfold z0Z;rw[bifT (by rfl),bifF (by rfl),bifT (by rfl)]
 have:eqV ((Ty.int IntKind.i64).pair ((Ty.int IntKind.i64).pair Ty.unit)) x x=true:=by
  show ((x.1 == x.1) && ((x.2.1 == x.2.1) && true))=true
  simp
 rw[this]
theorem y9t{e:Int}(h:e≠0)(w:Gau):z0Z (0,0,()) e e w=(true,()):=by
 unfold z0Z;rw[bifT (by simp),bifT (by simpa using h),bifT (by rfl)]
section
variable {β:Type}
end
theorem y8h(S:Tid×Int×Unit)(h:S.2.1=0\/S.1=([],[],0,())/\S.2.1≠0)(h1:S.1.1.length<=memMax)(h2:S.1.2.1.length<=memMax):yCt S.1 S.2.1 S.2.1 S.1=some (true,()):=by
 rcases h with h|⟨h,h'⟩
 ·rw[h];exact yNt _ h1 h2
 ·rw[h];exact yKZ h' _
end Go.Tw
