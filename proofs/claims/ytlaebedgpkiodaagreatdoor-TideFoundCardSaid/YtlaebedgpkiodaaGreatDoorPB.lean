import Derived.Test.YtlaebedgpkiodaaGreatDoorPA
set_option linter.all false
open Option (bind_some)
open Go.IntKind (i64)
section
set_option maxRecDepth 100000
namespace Go.Tw
open Go.Vx Go.Vx.B Go.Proofs
theorem yNR(x:Int):-9223372036854775808<=i64.wrap x/\i64.wrap x<=9223372036854775807:=by
 rw[IntKind.wrap_i64];omega
theorem y8f{α:Type}(p:List α)(x:α)(r:List α)(i:Int)(hi:i=(p.length:Int)):idx (p++x::r) i=some x:=by
 subst hi;rw[y17];simp
theorem y6b{α β:Type}{body:Int->α->Unit->Option (β⊕Unit)}{fin:Unit->Option β}(l:List α)(h:∀ (p:List α) (x:α) (r:List α),l=p++x::r->body (p.length:Int) x ()=some (.inr ())) :
  ∀ (r p:List α) (i:Int),l=p++r->i=(p.length:Int)->yL body fin i r ()=fin ()
 |[],p,i,_,_=>rfl
 |x::r,p,i,hl,hi=>by
  rw[ya,hi,h p x r hl];simp only[bind_some];exact y6b l h r (p++[x]) _ (by rw[hl];simp) (by simp)
theorem y7O(l:List Gau)(h:l.length < lenMax):zV_M l l=some (true,()):=by
 unfold zV_M;rw[bifF (show ((l.length:Int) != (l.length:Int))=false by simp),bifT (yB h),y6b l (λ p x r e=>by
  unfold yOk;rw[e,y8f p x r _ rfl];simp only[bind_some];rw[bifF (by simp[eqV])]) l [] 0 rfl rfl]
 rfl
theorem yBR{α β:Type}{p:α->Option β}{l:List α}(h:l.findSome? p=none):∀ e∈l,p e=none:=List.findSome?_eq_none_iff.1 h
theorem yLN(l:List Con)(hl:l.length < lenMax):∃ s,zi_M l=some (s,())/\(s=true->(∀ c∈l,c.1.length<=60)/\l.length<=5):=by
 unfold zi_M;rw[bifT (yB hl),y34 (λ c:Con=>bif decide ((c.1.length:Int) > 60)then some (false,())else none) l 0 (λ i e _=>by
  unfold yPu;cases decide ((e.1.length:Int) > 60)<;>rfl)]
 cases hf:l.findSome? (λ c:Con=>bif decide ((c.1.length:Int) > 60)then some (false,())else none)with
 |some y =>
  obtain ⟨n,_,hy⟩:=List.exists_of_findSome?_eq_some hf;cases hd:decide ((n.1.length:Int) > 60)with
  |true=>rw[hd]at hy;cases hy;exact ⟨false,rfl,by simp⟩
  |false=>rw[hd]at hy;cases hy
 |none =>
  have hall:∀ c∈l,c.1.length<=60:=λ n hn=>by
   have:=yBR hf n hn;by_cases hd:(n.1.length:Int) > 60
   ·rw[yB hd]at this;cases this
   ·omega
  show ∃ s,yND l=some (s,())/\_
  unfold yND;by_cases h5:(l.length:Int)<=5
  ·exact ⟨true,by rw[yB h5],λ _=>⟨hall,by omega⟩⟩
  ·exact ⟨false,by rw[yK h5],by simp⟩
end Go.Tw
end
section
set_option maxRecDepth 100000
namespace Go.Tw
open Go.Vx Go.Vx.B Go.Proofs
theorem yGN{α β:Type}(q:α->Bool)(y:β):∀ l:List α,l.findSome? (λ z=>if q z then none else some y)=if l.all q then none else some y
 |[]=>rfl
 |z::l=>by
  rw[List.findSome?_cons,List.all_cons];cases h:q z with
  |true=>simpa[h]using yGN q y l
  |false=>simp[h]
theorem yJR{α β:Type}{body:Int->α->Unit->Option (β⊕Unit)}{fin:Unit->Option β}(q:α->Bool)(y:β)(l:List α)(i:Int)
  (h:∀ i e,e∈l->body i e ()=some (if q e then .inr ()else .inl y)):yL body fin i l ()=if l.all q then fin ()else some y:=by
 rw[y34 (λ z=>if q z then none else some y) l i λ i e he=>by rw[h i e he];cases q e<;>rfl]
 rw[yGN];cases l.all q<;>rfl
def y6u(m:Int)(z:Gau):Bool:=decide ((z.1.natAbs:Int)<=m/\(z.2.1.natAbs:Int)<=m)
def y42(t:Tid):Bool:=t.2.1.all (y6u 4194304) && decide (t.2.2.1<=4096)
theorem yOu(a b m:Int):decide ((if b > a then b else a) > m)=!decide (a<=m/\b<=m):=by
 rw[<- decide_not];apply decide_eq_decide.2;split<;>omega
theorem yP4(z:Gau)(m:Int)(h:fits z):decide ((if (zy z.2.1).1 > (zy z.1).1 then (zy z.2.1).1 else (zy z.1).1) > m)=!y6u m z:=by
 rw[yK9 _ h.1.1 h.1.2,yK9 _ h.2.1 h.2.2,yOu];rfl
theorem yIL(t:Tid)(hl:t.2.1.length < lenMax):∃ s,zj_M t=some (s,())/\((∀ z∈t.2.1,fits z)->s=y42 t):=by
 have h:zj_M t=some (t.2.1.all (λ z=>!decide ((if (zy z.2.1).1 > (zy z.1).1 then (zy z.2.1).1 else (zy z.1).1) > 4194304)) && decide (t.2.2.1<=4096),()):=by
  unfold zj_M;rw[bifT (yB hl),yJR (λ z=>!decide ((if (zy z.2.1).1 > (zy z.1).1 then (zy z.2.1).1 else (zy z.1).1) > 4194304)) (false,()) t.2.1 0 λ i e he=>by
   unfold yQ6;try simp only[if_true]
   cases decide ((if (zy e.2.1).1 > (zy e.1).1 then (zy e.2.1).1 else (zy e.1).1) > 4194304)<;>rfl]
  cases t.2.1.all (λ z=>!decide ((if (zy z.2.1).1 > (zy z.1).1 then (zy z.2.1).1 else (zy z.1).1) > 4194304))<;>rfl
 refine ⟨_,h,λ hf=>?_⟩
 unfold y42;congr 1
 rw[Bool.eq_iff_iff,List.all_eq_true,List.all_eq_true];refine forall_congr' λ z=>forall_congr' λ hz=>?_
 rw[yP4 z _ (hf z hz),Bool.not_not]
theorem yGL:∀ (l:List Gau) (d:Nat),0 < d->0 < comG l d
 |[],d,h=>by simpa[comG]using h
 |z::l,d,h=>by
  unfold comG gI;refine yGL l _ ?_
  exact Nat.gcd_pos_of_pos_left _ (by rw[Int.natAbs_natCast];exact Nat.gcd_pos_of_pos_left _ (by rw[Int.natAbs_natCast];exact h))
def qG(n:Int)(z:Gau):Gau:=(i64.wrap (z.1.tdiv n),i64.wrap (z.2.1.tdiv n),())
theorem yQB(l:List Con)(hl:l.length<=memMax):z7_M l (λ x=>zu_M x.1)=some (l,()):=by
 unfold z7_M;rw[bifT (yB (y0M hl)),y0p (λ c=>c) l 0 [] (by simpa using hl) λ i e s _ hs=>by
  unfold yQ1;show Option.bind (some (zu e)) _=_
  simp only[bind_some];rw[bifT (yB hs)];rfl]
 simp only[List.map_id_fun',id_eq,List.nil_append];rfl
theorem yOy(l:List Gau)(f:Gau×Unit->Option (Gau×Unit))(g:Gau->Gau)(hl:l.length<=memMax)(h:∀ z∈l,f (z,())=some (g z,())):zG_M l f=some (l.map g,()):=by
 unfold zG_M;rw[bifT (yB (y0M hl)),y0p g l 0 [] (by simpa using hl) λ i e s he hs=>by
  unfold yOl;show Option.bind (f (e,())) _=_
  rw[h e he];simp only[bind_some];rw[bifT (yB hs)]]
 rfl
theorem yMn{t:Tid}(h:okT t):∀ z∈t.2.1,fits z:=λ z hz=>y8Q (h.part z hz)
theorem yLJ{t:Tid}(h:y42 t=true):(∀ z∈t.2.1,y6u 4194304 z=true)/\t.2.2.1<=4096:=by
 unfold y42 at h;rw[Bool.and_eq_true]at h;exact ⟨λ z hz=>List.all_eq_true.1 h.1 z hz,of_decide_eq_true h.2⟩
theorem y5d{a b c:Int}(h:a=0->b=c):yQ a b=yQ a c:=by
 by_cases ha:a=0
 ·rw[h ha]
 ·rw[y05 ha,y05 ha]
end Go.Tw
end
section
set_option maxRecDepth 100000
namespace Go.Tw
open Go.Vx Go.Vx.B Go.Proofs
def p2:Nat->Nat->Bool
 |0,_=>false
 |f+1,n=>if n % 2=0 then p2 f (n / 2)else n == 1
abbrev SumS:=List Con×List Gau
def ySz(c d:Con):Bool:=d.2.1 == c.2.1 && d.2.2.1 == c.2.2.1
noncomputable def addS(a:List Con)(c:Con)(y:Gau)(s:SumS):SumS:=
 match a.findIdx? (ySz c)with
 |some i=>(s.1,s.2.set i (z0m (s.2[i]?.getD y) y).1)
 |none=>(s.1++[c],s.2++[y])
noncomputable def addL(a:List Con)(d:Int):List Con->List Gau->SumS->SumS
 |c::l,z::v,s=>addL a d l v (addS a c (z0N z d).1 s)
 |_,_,s=>s
structure okS (n:Nat) (m:Int) (s:SumS):Prop where
 len:s.1.length=s.2.length
 low:n<=s.2.length
 bnd:∀ z∈s.2,y6u m z=true
end Go.Tw
end
section
set_option maxRecDepth 100000
namespace Go.Tw
open Go.Vx Go.Vx.B Go.Proofs
noncomputable def sumS(a b:Tid):SumS:=addL a.1 a.2.2.1 b.1 b.2.1 (a.1,a.2.1.map λ z=>(z0N z b.2.2.1).1)
structure SumF (a b:Tid):Prop where
 start:okS a.1.length 17179869184 (a.1,a.2.1.map λ z=>(z0N z b.2.2.1).1)
 la:a.2.1.length<=4
 lb:b.1.length<=4
 leq:b.1.length=b.2.1.length
 ok:okS a.1.length (17179869184+b.1.length * 17179869184) (sumS a b)
 len:(sumS a b).2.length<=8
 fit:∀ z∈(sumS a b).2,fits z
 den:∃ d:Nat,0 < d/\a.2.2.1 * b.2.2.1=(d:Int)/\i64.wrap (a.2.2.1 * b.2.2.1)=(d:Int)
 sb:∀ z∈b.2.1,y6u 4194304 z=true
 da:0<=a.2.2.1/\a.2.2.1<=4096
theorem yMU(t:Tid)(h1:t.1.length<=memMax):yOv t=some (t,()):=by
 unfold yOv;rw[bifT (yB (y0M h1)),y0p (λ n=>n) t.1 0 [] (by simpa using h1) (λ i e s _ hs=>by
  unfold yJL;rw[bifT (yB hs)])]
 simp only[List.map_id_fun',id_eq,List.nil_append];rfl
theorem yJ2(t:Tid)(h1:t.1.length < lenMax)(h2:t.2.1.length < lenMax):yPt t t=some (true,()):=by
 unfold yPt;rw[bifF (by simp),bifF (by simp),bifT (yB h1),y6b t.1 (λ p x r e=>by
  unfold yIa;rw[e,y8f p x r _ rfl];simp only[bind_some];rw[bifF (by simp[eqV])]) t.1 [] 0 rfl rfl]
 unfold yLF;rw[y7O _ h2];rfl
section
variable {β:Type}
end
end Go.Tw
end
section
set_option maxRecDepth 100000
namespace Go.Tw
open Go.Vx Go.Vx.B Go.Proofs
def lvF(x:Int):Nat:=yv .quo .f32 (y0l .f32 x) 1098907648
def nrI(a b:Int):Int:=bif decide (a.tmod b < 0)then i64.wrap (i64.wrap (a.tdiv b) - 1)else i64.wrap (a.tdiv b)
theorem yIH{a b:Int}(hb:1<=b)(hb2:b<=268435456):yE5 a b=some (nrI (i64.wrap (i64.wrap (2 * a)+b)) (i64.wrap (2 * b)),()):=by
 unfold yE5 yPx nrI;have e:i64.wrap (2 * b)=2 * b:=yw (by omega) (by omega)
 have hz:(i64.wrap (2 * b) == 0)=false:=by rw[e];simp;omega
 rw[bifF hz,bifF hz];cases decide ((i64.wrap (i64.wrap (2 * a)+b)).tmod (i64.wrap (2 * b)) < 0)<;>rfl
theorem yQv(x:Int)(h0:-9223372036854775808 < x)(h1:x<=9223372036854775807):decide ((zy x).1 > 1024)=decide (x > 1024\/x < -1024):=by
 unfold zy;first|rw[if_pos rfl,yw (i:=0 - x) (by omega) (by omega)]|rw[yw (i:=0 - x) (by omega) (by omega)]
 show decide ((if 0 - x > x then 0 - x else x) > 1024)=_
 by_cases h:0 - x > x
 ·rw[if_pos h];exact decide_eq_decide.2 ⟨λ h=>by omega,λ h=>by omega⟩
 ·rw[if_neg h];exact decide_eq_decide.2 ⟨λ h=>by omega,λ h=>by omega⟩
end Go.Tw
end
