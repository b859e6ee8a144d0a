import Derived.Test.YtpcnkpbpcebokaaGreatDoorPC
set_option linter.all false
set_option maxRecDepth 100000
namespace Go.Tw
open Go.Vx Go.Vx.B Go.Proofs
theorem yDr{α β:Type}(q:α→Bool)(y:β):∀ l:List α,l.findSome? (fun z=>if q z then none else some y)=if l.all q then none else some y
 | []=>rfl
 | z::l=>by
  rw[List.findSome?_cons,List.all_cons];cases h:q z with
  | true=>simpa[h]using yDr q y l
  | false=>simp[h]
theorem yB1{α β:Type}{body:Int→α→Unit→Option (β⊕Unit)}{fin:Unit→Option β}(q:α→Bool)(y:β)(l:List α)(i:Int)
  (h:∀ i e,e∈l→body i e ()=some (if q e then .inr ()else .inl y)):yR body fin i l ()=if l.all q then fin ()else some y:=by
 rw[y1J (fun z=>if q z then none else some y) l i fun i e he=>by rw[h i e he];cases q e<;>rfl]
 rw[yDr];cases l.all q<;>rfl
def y4S(m:Int)(z:Gau):Bool:=decide ((z.1.natAbs:Int)≤m∧(z.2.1.natAbs:Int)≤m)
def y2M(t:Tid):Bool:=t.2.1.all (y4S 4194304) && decide (t.2.2.1≤4096)
theorem yP6(a b m:Int):decide ((if b > a then b else a) > m)=!decide (a≤m∧b≤m):=by
 rw[← decide_not];apply decide_eq_decide.2;split<;>omega
theorem yPL(z:Gau)(m:Int)(h:fits z):decide ((if (z0E z.2.1).1 > (z0E z.1).1 then (z0E z.2.1).1 else (z0E z.1).1) > m)=!y4S m z:=by
 rw[yHu _ h.1.1 h.1.2,yHu _ h.2.1 h.2.2,yP6];rfl
theorem yOT(z:Gau)(m:Int)(h:fits z):decide (imax (imax (imax z.1 z.2.1) (IntKind.i64.wrap (0 - z.1))) (IntKind.i64.wrap (0 - z.2.1)) > m)=!y4S m z:=by
 unfold y4S imax;obtain ⟨⟨h1,h2⟩,h3,h4⟩:=h;rw[y5T (i:=0 - z.1) (by omega) (by omega),y5T (i:=0 - z.2.1) (by omega) (by omega),← decide_not]
 apply decide_eq_decide.2;split<;>split<;>split<;>omega
theorem yFT(t:Tid)(hl:t.2.1.length < lenMax):∃ s,zv_M t=some (s,())∧((∀ z∈t.2.1,fits z)→s=y2M t):=by
 have h:zv_M t=some (t.2.1.all (fun z=>!decide ((if (z0E z.2.1).1 > (z0E z.1).1 then (z0E z.2.1).1 else (z0E z.1).1) > 4194304)) && decide (t.2.2.1≤4096),()):=by
  unfold zv_M;rw[bifT (y7 hl),yB1 (fun z=>!decide ((if (z0E z.2.1).1 > (z0E z.1).1 then (z0E z.2.1).1 else (z0E z.1).1) > 4194304)) (false,()) t.2.1 0 fun i e he=>by
   unfold yMM;try simp only[if_true]
   cases decide ((if (z0E e.2.1).1 > (z0E e.1).1 then (z0E e.2.1).1 else (z0E e.1).1) > 4194304)<;>rfl]
  cases t.2.1.all (fun z=>!decide ((if (z0E z.2.1).1 > (z0E z.1).1 then (z0E z.2.1).1 else (z0E z.1).1) > 4194304))<;>rfl
 refine ⟨_,h,fun hf=>?_⟩
 unfold y2M;congr 1
 rw[Bool.eq_iff_iff,List.all_eq_true,List.all_eq_true];refine forall_congr' fun z=>forall_congr' fun hz=>?_
 rw[yPL z _ (hf z hz),Bool.not_not]
theorem yIE(t:Tid)(h:∀ z∈t.2.1,fits z)(hl:t.2.1.length < lenMax):yG1 t=some (y2M t,()):=by
 unfold yG1 y2M;rw[bifT (y7 hl),yB1 (y4S 4194304) (false,()) t.2.1 0 fun i e he=>by
  unfold yEG;try simp only[if_true]
  rw[yOT e _ (h e he)];cases y4S 4194304 e<;>rfl]
 cases t.2.1.all (y4S 4194304)<;>rfl
theorem yET{t:Tid}(h:okT t):∀ z∈t.2.1,fits z:=fun z hz=>y4e (h.part z hz)
theorem yJb{t:Tid}(h:y2M t=true):(∀ z∈t.2.1,y4S 4194304 z=true)∧t.2.2.1≤4096:=by
 unfold y2M at h;rw[Bool.and_eq_true]at h;exact ⟨fun z hz=>List.all_eq_true.1 h.1 z hz,of_decide_eq_true h.2⟩
theorem y5B{a b c:Int}(h:a=0→b=c):yL a b=yL a c:=by
 by_cases ha:a=0
 ·rw[h ha]
 ·rw[yQ ha,yQ ha]
end Go.Tw
