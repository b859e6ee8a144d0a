import Derived.Test.YtpcnkpbpcebokaaGreatDoorPT
import Derived.Test.YtpcnkpbpcebokaaGreatDoorPW
import Derived.Test.YtpcnkpbpcebokaaGreatDoorBCh
import Derived.Test.YtpcnkpbpcebokaaGreatDoorPA
set_option linter.all false
set_option maxRecDepth 100000
namespace Go.Tw
open Go.Vx Go.Vx.B Go.Proofs Ieee
def chE(c:Con)(t:Int):Int:=yR (y66 c) (ckR t 0 100000)
theorem yIx(c:Con):yAR [c]=y66 c:=by
 show yR (yR (y66 c) (bif ([]:List Con).any _ then 9 else 0)) 0=_
 rw[y0G];exact y0G _
theorem yKr{c:Con}{t:Int}(h:chE c t=0):yEU c∧yDO t:=by
 obtain ⟨h1,h2⟩:=yn h;have h3:=y6G h2;exact ⟨(yIU h1).1,by omega,by omega⟩
theorem yIV(c:Con)(t:Int)(h:c.1.length < lenMax):zx_M c t=some (if chE c t=0 then (chr c t,0,())else ((0,0,()),chE c t,())):=by
 unfold zx_M zx_m;rw[yAf c h,yBR];simp only[Option.bind_some];rw[y4o _ (y5e _ _),yl,yl,y1X,y0G];simp only[Option.bind_some];show (bif chE c t != 0 then _ else _)=_
 by_cases h0:chE c t=0
 ·rw[if_pos h0,bifF (by simp[h0])]
  obtain ⟨h1,h2⟩:=yKr h0;rw[yWQ h1 h2];rfl
 ·rw[if_neg h0,bifT (by simpa using h0)]
  rfl
theorem yIy(z:Gau):eqV ((Ty.int IntKind.i64).pair ((Ty.int IntKind.i64).pair Ty.unit)) z z=true:=by
 show ((z.1 == z.1) && ((z.2.1 == z.2.1) && true))=true
 simp
theorem yAW(c:Con)(t:Int)(h:c.1.length < lenMax) :
  (Option.bind (zx_M (c.1,c.2.1,c.2.2.1,()) t) fun v16=>(Option.bind (zJ_M [(c.1,c.2.1,c.2.2.1,())]) fun v17=>(Option.bind (y70 [v17.1,(zc t 0 100000).1]) fun v18=>(bif v18.1 == (0:Int)then (Option.bind (zn_M (c.1,c.2.1,c.2.2.1,()) t) fun v19=>(bif v16.2.1 != v18.1 then (some (Sum.inl ((false,()))))else (bif !eqV ((Ty.int IntKind.i64).pair ((Ty.int IntKind.i64).pair Ty.unit)) (v16.1.1,v16.1.2.1,()) (v19.1.1,v19.1.2.1,())then (some (Sum.inl ((false,()))))else (some (Sum.inr ())))))else (bif v16.2.1 != v18.1 then (some (Sum.inl ((false,()))))else (bif !eqV ((Ty.int IntKind.i64).pair ((Ty.int IntKind.i64).pair Ty.unit)) (v16.1.1,v16.1.2.1,()) ((0:Int),(0:Int),())then (some (Sum.inl ((false,()))))else (some (Sum.inr ()))))))))=some (Sum.inr ():(Bool×Unit)⊕Unit):=by
 show (Option.bind (zx_M c t) fun v16=>(Option.bind (zJ_M [c]) fun v17=>_))=_
 rw[yIV c t h,y9c,yIx,y2v];simp only[Option.bind_some];rw[y6u _ (y5e _ _),yl,yl,y1X,y0G];simp only[Option.bind_some];rw[show yR (y66 c) (ckR t 0 100000)=chE c t from rfl]
 by_cases h0:chE c t=0
 ·obtain ⟨h1,h2⟩:=yKr h0;simp only[if_pos h0];rw[h0,bifT (by rfl)]
  show (Option.bind (zn_M c t) fun v19=>_)=_
  rw[yIt h1 h2];simp only[Option.bind_some];rw[bifF (by rfl),bifF (by rw[yIy];rfl)]
 ·simp only[if_neg h0];rw[bifF (by simpa using h0),bifF (by simp),bifF (by rfl)]
theorem yDo(r:Rec)(l:List Con)(t:Int)(ll:l.length < lenMax):zP_M r l t=some (true,()):=by
 have hmem:memMax=68719476736:=rfl;have hlm:lenMax=9223372036854775808:=rfl;unfold zP_M;rw[yEb];simp only[Option.bind_some,Bool.not_true,cond_false];cases hsh:(z0Q r).1 with
 | false=>rfl
 | true =>
  obtain ⟨r60,r97,r49⟩:=yIo hsh;obtain ⟨s,hs,hs2⟩:=yGg l ll;simp only[Bool.not_true,cond_false];rw[hs];simp only[Option.bind_some];cases s with
  | false=>rfl
  | true =>
   obtain ⟨l60,l5⟩:=hs2 rfl;have hnl:∀ n∈l,n.1.length < lenMax:=fun n hn=>by have:=l60 n hn;omega
   simp only[Bool.not_true,cond_false];rw[yOP r (by omega) (by omega)]
   simp only[Option.bind_some];have tail:∀ (T:List Int) (e b:Int),e=b→T.length < lenMax→yAh l t T e b T l=some (true,()):=fun T e b he hT=>by
    unfold yAh;rw[yDW l (by omega)]
    simp only[Option.bind_some];rw[yDA l hnl ll,y9c];simp only[Option.bind_some];rw[bifT (by simp),bifT (by simpa using he),y4k T hT]
    rfl
   have tail2:∀ (e b:Int),e=b→yAP l t [] e b l=some (true,()):=fun e b he=>by
    unfold yAP;rw[yDW l (by omega)]
    simp only[Option.bind_some];rw[yDA l hnl ll,y9c];simp only[Option.bind_some];rw[bifT (by simp),bifT (by simpa using he),y4k [] (by simp[lenMax])]
    rfl
   unfold yMx yJ7;rw[yNp r (by omega) (by omega) (by omega),yN1 r (by omega)]
   simp only[Option.bind_some];by_cases h:y7h r=0
   ·have hr:=yJg h;have hl:=yNB r;rw[bifF (by simp[h]),yHC hr]
    simp only[Option.bind_some];rw[bifT (by simp[h]),yH8 hr]
    simp only[Option.bind_some];rw[bifT (y9 ll),y5K (σ:=Unit) (fun s _=>s) l 0 () fun i c s hc=>by
     unfold yDp;exact yAW c t (hnl c hc)]
    exact tail (tks r) 0 (y7h r) h.symm (by omega)
   ·rw[bifT (by simpa using h)]
    simp only[Option.bind_some];rw[bifF (by simpa using h),bifT (y9 ll),y5K (σ:=Unit) (fun s _=>s) l 0 () fun i c s hc=>by
     unfold yDc;exact yAW c t (hnl c hc)]
    exact tail2 (y7h r) (y7h r) rfl
end Go.Tw
