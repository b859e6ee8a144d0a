import Derived.Test.YtpcnkpbpcebokaaGreatDoorPC
set_option linter.all false
set_option maxRecDepth 100000
open Option (bind_some)
namespace Go.Tw
open Go.Vx Go.Vx.B Go.Proofs
theorem yGG{α β:Type}(q:α->Bool)(y:β):∀ l:List α,l.findSome? (λ z=>if q z then none else some y)=if l.all q then none else some y
 |[]=>rfl
 |z::l=>by
  rw[List.findSome?_cons,List.all_cons];cases h:q z with
  |true=>simpa[h]using yGG q y l
  |false=>simp[h]
theorem yJN{α β:Type}{body:Int->α->Unit->Option (β⊕Unit)}{fin:Unit->Option β}(q:α->Bool)(y:β)(l:List α)(i:Int)
  (h:∀ i e,e∈l->body i e ()=some (if q e then .inr ()else .inl y)):yH body fin i l ()=if l.all q then fin ()else some y:=by
 rw[y1j (λ z=>if q z then none else some y) l i λ i e he=>by rw[h i e he];cases q e<;>rfl]
 rw[yGG];cases l.all q<;>rfl
def y0g(m:Int)(z:Gau):Bool:=decide ((z.1.natAbs:Int)<=m/\(z.2.1.natAbs:Int)<=m)
def y2o(t:Tid):Bool:=t.2.1.all (y0g 4194304) && decide (t.2.2.1<=4096)
theorem yPa(a b m:Int):decide ((if b > a then b else a) > m)=!decide (a<=m/\b<=m):=by
 rw[<- decide_not];apply decide_eq_decide.2;split<;>omega
theorem yPQ(z:Gau)(m:Int)(h:fits z):decide ((if (z08 z.2.1).1 > (z08 z.1).1 then (z08 z.2.1).1 else (z08 z.1).1) > m)=!y0g m z:=by
 rw[yJY _ h.1.1 h.1.2,yJY _ h.2.1 h.2.2,yPa];rfl
theorem yHK(t:Tid)(hl:t.2.1.length < lenMax):∃ s,zr_M t=some (s,())/\((∀ z∈t.2.1,fits z)->s=y2o t):=by
 have h:zr_M t=some (t.2.1.all (λ z=>!decide ((if (z08 z.2.1).1 > (z08 z.1).1 then (z08 z.2.1).1 else (z08 z.1).1) > 4194304)) && decide (t.2.2.1<=4096),()):=by
  unfold zr_M;rw[bifT (y7 hl),yJN (λ z=>!decide ((if (z08 z.2.1).1 > (z08 z.1).1 then (z08 z.2.1).1 else (z08 z.1).1) > 4194304)) (false,()) t.2.1 0 λ i e he=>by
   unfold yQ6;try simp only[if_true]
   cases decide ((if (z08 e.2.1).1 > (z08 e.1).1 then (z08 e.2.1).1 else (z08 e.1).1) > 4194304)<;>rfl]
  cases t.2.1.all (λ z=>!decide ((if (z08 z.2.1).1 > (z08 z.1).1 then (z08 z.2.1).1 else (z08 z.1).1) > 4194304))<;>rfl
 refine ⟨_,h,λ hf=>?_⟩
 unfold y2o;congr 1
 rw[Bool.eq_iff_iff,List.all_eq_true,List.all_eq_true];refine forall_congr' λ z=>forall_congr' λ hz=>?_
 rw[yPQ z _ (hf z hz),Bool.not_not]
theorem y7b:∀ (l:List Gau) (d:Nat),0 < d->0 < comG l d
 |[],d,h=>by simpa[comG]using h
 |z::l,d,h=>by
  unfold comG gI;refine y7b l _ ?_
  exact Nat.gcd_pos_of_pos_left _ (by rw[Int.natAbs_natCast];exact Nat.gcd_pos_of_pos_left _ (by rw[Int.natAbs_natCast];exact h))
def qG(n:Int)(z:Gau):Gau:=(IntKind.i64.wrap (z.1.tdiv n),IntKind.i64.wrap (z.2.1.tdiv n),())
def lowT(l:List Con)(a:List Gau)(d:Int):Tid:=(l,a.map (qG (comG a d)),IntKind.i64.wrap (d.tdiv (comG a d)),())
theorem yOh(l:List Con)(hl:l.length<=memMax):z7_M l (λ x=>yPv x.1)=some (l,()):=by
 unfold z7_M;rw[bifT (y7 (y0Z hl)),y1P (λ c=>c) l 0 [] (by simpa using hl) λ i e s _ hs=>by
  unfold yQC;show Option.bind (some (z03 e)) _=_
  simp only[bind_some];rw[bifT (y7 hs)];rfl]
 simp only[List.map_id_fun',id_eq,List.nil_append];rfl
theorem yQk(l:List Gau)(f:Gau×Unit->Option (Gau×Unit))(g:Gau->Gau)(hl:l.length<=memMax)(h:∀ z∈l,f (z,())=some (g z,())):zG_M l f=some (l.map g,()):=by
 unfold zG_M;rw[bifT (y7 (y0Z hl)),y1P g l 0 [] (by simpa using hl) λ i e s he hs=>by
  unfold yPI;show Option.bind (f (e,())) _=_
  rw[h e he];simp only[bind_some];rw[bifT (y7 hs)]]
 rfl
theorem yNU{t:Tid}(h:okT t):∀ z∈t.2.1,fits z:=λ z hz=>y89 (h.part z hz)
theorem yJu{t:Tid}(h:y2o t=true):(∀ z∈t.2.1,y0g 4194304 z=true)/\t.2.2.1<=4096:=by
 unfold y2o at h;rw[Bool.and_eq_true]at h;exact ⟨λ z hz=>List.all_eq_true.1 h.1 z hz,of_decide_eq_true h.2⟩
theorem y64{a b c:Int}(h:a=0->b=c):yP a b=yP a c:=by
 by_cases ha:a=0
 ·rw[h ha]
 ·rw[yb ha,yb ha]
end Go.Tw
