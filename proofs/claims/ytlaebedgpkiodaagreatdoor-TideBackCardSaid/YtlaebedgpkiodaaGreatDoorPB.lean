import Derived.Test.YtlaebedgpkiodaaGreatDoorPA
set_option linter.all false
open Option (bind_some)
section
set_option maxRecDepth 100000
namespace Go.Tw
open Go.Vx Go.Vx.B Go.Proofs
theorem yHG{α:Type}(p:List α)(x:α)(r:List α)(i:Int)(hi:i=(p.length:Int)):idx (p++x::r) i=some x:=by
 subst hi;rw[y6P];simp
theorem y6V{α β:Type}{body:Int->α->Unit->Option (β⊕Unit)}{fin:Unit->Option β}(l:List α)(h:∀ (p:List α) (x:α) (r:List α),l=p++x::r->body (p.length:Int) x ()=some (.inr ())) :
  ∀ (r p:List α) (i:Int),l=p++r->i=(p.length:Int)->yS body fin i r ()=fin ()
 |[],p,i,_,_=>rfl
 |x::r,p,i,hl,hi=>by
  rw[y0Q,hi,h p x r hl];simp only[bind_some];exact y6V l h r (p++[x]) _ (by rw[hl];simp) (by simp)
theorem y7F(l:List Gau)(h:l.length < lenMax):zW_M l l=some (true,()):=by
 unfold zW_M;rw[bifF (show ((l.length:Int) != (l.length:Int))=false by simp),bifT (yL h),y6V l (λ p x r e=>by
  unfold yMg;rw[e,yHG p x r _ rfl];simp only[bind_some];rw[bifF (by simp[eqV])]) l [] 0 rfl rfl]
 rfl
theorem yAy{α β:Type}{p:α->Option β}{l:List α}(h:l.findSome? p=none):∀ e∈l,p e=none:=List.findSome?_eq_none_iff.1 h
theorem yH0(l:List Con)(hl:l.length < lenMax):∃ s,zl_M l=some (s,())/\(s=true->(∀ c∈l,c.1.length<=60)/\l.length<=5):=by
 unfold zl_M;rw[bifT (yL hl),y4u (λ c:Con=>bif decide ((c.1.length:Int) > 60)then some (false,())else none) l 0 (λ i e _=>by
  unfold yMs;cases decide ((e.1.length:Int) > 60)<;>rfl)]
 cases hf:l.findSome? (λ c:Con=>bif decide ((c.1.length:Int) > 60)then some (false,())else none)with
 |some y =>
  obtain ⟨n,_,hy⟩:=List.exists_of_findSome?_eq_some hf;cases hd:decide ((n.1.length:Int) > 60)with
  |true=>rw[hd]at hy;cases hy;exact ⟨false,rfl,by simp⟩
  |false=>rw[hd]at hy;cases hy
 |none =>
  have hall:∀ c∈l,c.1.length<=60:=λ n hn=>by
   have:=yAy hf n hn;by_cases hd:(n.1.length:Int) > 60
   ·rw[yL hd]at this;cases this
   ·omega
  show ∃ s,yK1 l=some (s,())/\_
  unfold yK1;by_cases h5:(l.length:Int)<=5
  ·exact ⟨true,by rw[yL h5],λ _=>⟨hall,by omega⟩⟩
  ·exact ⟨false,by rw[yo h5],by simp⟩
theorem yId(t:Tid)(hl:t.1.length < lenMax):∃ s,zm_M t=some (s,())/\(s=true->(∀ c∈t.1,c.1.length<=60)/\t.1.length<=5/\t.2.1.length<=5):=by
 unfold zm_M zm_m;obtain ⟨s,h1,h2⟩:=yH0 t.1 hl;rw[h1];simp only[bind_some];cases s with
 |false=>exact ⟨false,rfl,by simp⟩
 |true =>
  obtain ⟨h3,h4⟩:=h2 rfl;by_cases h5:(t.2.1.length:Int)<=5
  ·exact ⟨true,by rw[yL h5];rfl,λ _=>⟨h3,h4,by omega⟩⟩
  ·exact ⟨false,by rw[yo h5];rfl,by simp⟩
theorem yL1(l:List Con)(hl:l.length<=memMax):yKS l=some (l,()):=by
 have hm:=y8l;unfold yKS;rw[bifT (yL (show l.length < lenMax by omega)),y6L (λ n=>n) l 0 [] (by simpa using hl) (λ i e s _ hs=>by
  unfold yGx;rw[bifT (yL hs)])]
 simp only[List.map_id_fun',id_eq,List.nil_append];rfl
theorem yOz(t:Tid)(h1:t.1.length<=memMax)(h2:t.2.1.length<=memMax):yMT t=some (t,()):=by
 unfold yMT yMY yNJ yN5;rw[yL1 _ h1];simp only[bind_some];rw[bifT (yL (show 0+t.2.1.length<=memMax by omega))]
 rfl
end Go.Tw
end
section
set_option maxRecDepth 100000
namespace Go.Tw
open Go.Vx Go.Vx.B Go.Proofs
def yLQ(m:Int)(z:Gau):Bool:=decide ((z.1.natAbs:Int)<=m/\(z.2.1.natAbs:Int)<=m)
end Go.Tw
end
section
set_option maxRecDepth 100000
namespace Go.Tw
open Go.Vx Go.Vx.B Go.Proofs
def p2:Nat->Nat->Bool
 |0,_=>false
 |f+1,n=>if n % 2=0 then p2 f (n / 2)else n == 1
abbrev SumS:=List Con×List Gau
def yQf(c d:Con):Bool:=d.2.1 == c.2.1 && d.2.2.1 == c.2.2.1
noncomputable def addS(a:List Con)(c:Con)(y:Gau)(s:SumS):SumS:=
 match a.findIdx? (yQf c)with
 |some i=>(s.1,s.2.set i (z15 (s.2[i]?.getD y) y).1)
 |none=>(s.1++[c],s.2++[y])
noncomputable def addL(a:List Con)(d:Int):List Con->List Gau->SumS->SumS
 |c::l,z::v,s=>addL a d l v (addS a c (z0c z d).1 s)
 |_,_,s=>s
structure okS (n:Nat) (m:Int) (s:SumS):Prop where
 len:s.1.length=s.2.length
 low:n<=s.2.length
 bnd:∀ z∈s.2,yLQ m z=true
end Go.Tw
end
section
set_option maxRecDepth 100000
namespace Go.Tw
open Go.Vx Go.Vx.B Go.Proofs
noncomputable def sumS(a b:Tid):SumS:=addL a.1 a.2.2.1 b.1 b.2.1 (a.1,a.2.1.map λ z=>(z0c z b.2.2.1).1)
structure SumF (a b:Tid):Prop where
 start:okS a.1.length 17179869184 (a.1,a.2.1.map λ z=>(z0c z b.2.2.1).1)
 la:a.2.1.length<=4
 lb:b.1.length<=4
 leq:b.1.length=b.2.1.length
 ok:okS a.1.length (17179869184+b.1.length * 17179869184) (sumS a b)
 len:(sumS a b).2.length<=8
 fit:∀ z∈(sumS a b).2,fits z
 den:∃ d:Nat,0 < d/\a.2.2.1 * b.2.2.1=(d:Int)/\IntKind.i64.wrap (a.2.2.1 * b.2.2.1)=(d:Int)
 sb:∀ z∈b.2.1,yLQ 4194304 z=true
 da:0<=a.2.2.1/\a.2.2.1<=4096
theorem yK4(t:Tid)(h1:t.1.length<=memMax):yDj t=some (t,()):=by
 unfold yDj;rw[bifT (yL (y0u h1)),y6L (λ n=>n) t.1 0 [] (by simpa using h1) (λ i e s _ hs=>by
  unfold yIX;rw[bifT (yL hs)])]
 simp only[List.map_id_fun',id_eq,List.nil_append];rfl
theorem yHb(t:Tid)(h1:t.1.length < lenMax)(h2:t.2.1.length < lenMax):yHc t t=some (true,()):=by
 unfold yHc;rw[bifF (by simp),bifF (by simp),bifT (yL h1),y6V t.1 (λ p x r e=>by
  unfold yHW;rw[e,yHG p x r _ rfl];simp only[bind_some];rw[bifF (by simp[eqV])]) t.1 [] 0 rfl rfl]
 unfold yHA;rw[y7F _ h2];rfl
section
variable {β:Type}
end
end Go.Tw
end
