/- BS: contracts of the library's functions: strconv.Itoa,strings.Join,and strings.Builder's look whether it was yNA. -/
import Derived.Test.YtkfigfhjbejikaaGreatDoorB0
import Derived.Test.YtkfigfhjbejikaaGreatDoorSH
import Derived.Lib.AppendIntMem

set_option linter.all false
set_option maxRecDepth 1000000
namespace Go.Tw
open Go.Vx Go.Vx.B Go.Proofs Go.RowKit

theorem y8X(f:FuncId)(fn:Func)(h:Tryz.prog.funcs[f]?=some fn)(hn:(fn.name == "runtime.NumGoroutine")=false)(hb:fn.body.isNone=false):Vx.y4B Tryz.prog f:=⟨fn,h,hn,hb⟩

theorem yNu:yKI Tryz.prog 169 201:=by
 refine ⟨y8X 169 Tryz.f169 (by kernel_rfl) (by kernel_rfl) (by kernel_rfl),λ w b p v hg hp=>?_⟩
 rcases hp with rfl|rfl
 ·refine (Any.Builder_copyCheck_fresh Tryz.lays240 Tryz.x72_240 b w (by simp[World.cell?,hg]) (by simp[World.shape?,hg];rfl) (by simp[World.frozen?,hg])).mono ?_
  rintro e w' ⟨rfl,rfl⟩
  refine ⟨rfl,?_,λ n hn=>?_,?_,rfl,rfl,rfl⟩
  ·simp[World.setCell,Array.getElem?_modify,hg]
  ·simp only[World.setCell,Array.getElem?_modify]
   rw[if_neg (λ e=>hn e.symm)]
  ·simp[World.setCell]
 ·refine (Any.Builder_copyCheck_used Tryz.lays240 Tryz.x72_240 b w (by simp[World.cell?,hg])).mono ?_
  rintro e w' ⟨rfl,rfl⟩
  exact ⟨rfl,hg,λ _ _=>rfl,rfl,rfl,rfl,rfl⟩

noncomputable def yMt(n:Int):Option (List UInt8×Unit):=bif decide (-9223372036854775808<=n) && decide (n<=9223372036854775807)then some (Lib.itoa n,())else none
noncomputable def z0J_e:Entry:={ f:=129,args:=.pair t3 .unit,rS:=.pair .str .unit,m:=λ x=>yMt x.1 }

theorem yAR(w:World){A:Nat->Prop}(hG:GlobOK A w):Lib.TabIs Tryz.prog w "internal/strconv.uint64pow10" .u64 Lib.pow10Tab:=by
 obtain ⟨_,_,t,f,h⟩:=hG.tab (GT.gl.getD 2 default) (by show _∈GT.gl;exact List.mem_of_getElem? (i:=2) rfl)
 unfold Lib.TabIs World.var?
 rw[show Tryz.prog.globalNamed "internal/strconv.uint64pow10" = some 2 by kernel_rfl]
 simp only[Option.bind_some]
 rw[show w.heap[2]?=_ from h]
 rfl

theorem yPk:FnOK Tryz.prog z0J_e:=by
 refine ⟨y8X 129 Tryz.f129 (by kernel_rfl) (by kernel_rfl) (by kernel_rfl),λ A w x l y hG hA hx hm=>?_,λ q h=>(by cases h),λ q h=>(by cases h)⟩
 obtain ⟨n,u⟩:=x
 simp only[z0J_e,y6]at hx
 obtain ⟨l1,l2,rfl,rfl,rfl⟩:=hx
 simp only[z0J_e,yMt]at hm
 cases hb:(decide (-9223372036854775808<=n) && decide (n<=9223372036854775807))with
 |false=>rw[hb]at hm;cases hm
 |true =>
  rw[hb]at hm
  cases hm
  simp only[Bool.and_eq_true,decide_eq_true_eq]at hb
  refine (Tryz.strconv_Itoa n hb.1 hb.2 w (yAR w hG)).mono ?_
  rintro e w' ⟨rfl,k,os,rfl⟩
  exact ⟨[.string ⟨(Lib.itoa n).toArray⟩],rfl,⟨_,[],rfl,rfl,rfl⟩,Lib.below_grow w.heap.size w (Nat.le_refl _) k os⟩

noncomputable def yL8(xs:List (List UInt8))(sep:List UInt8):Option (List UInt8×Unit):=
 bif decide (xs.length<=140737488355328) && decide ((Lib.join xs sep).length<=140737488355328)then some (Lib.join xs sep,())else none
noncomputable def z0K_e:Entry:={ f:=127,args:=.pair (.slice .str) (.pair .str .unit),rS:=.pair .str .unit,m:=λ x=>yL8 x.1 x.2.1 }

theorem yP5:FnOK Tryz.prog z0K_e:=by
 refine ⟨y8X 127 Tryz.f127 (by kernel_rfl) (by kernel_rfl) (by kernel_rfl),λ A w x l y hG hA hx hm=>?_,λ q h=>(by cases h),λ q h=>(by cases h)⟩
 obtain ⟨xs,sep,u⟩:=x
 obtain ⟨l1,l2,rfl,⟨p,c,rfl,hc1,hc2,hel⟩,l3,l4,rfl,rfl,rfl⟩:=hx
 change yL8 xs sep=some y at hm
 unfold yL8 at hm
 cases hb:(decide (List.length xs<=140737488355328) && decide ((Lib.join xs sep).length<=140737488355328))with
 |false=>rw[hb]at hm;cases hm
 |true =>
  rw[hb]at hm
  cases hm
  simp only[Bool.and_eq_true,decide_eq_true_eq]at hb
  show Calls Tryz.prog 127 #[.slice p (List.length xs) c,.string ⟨sep.toArray⟩] w _
  cases xs with
  |nil =>
   refine (Tryz.strings_Join_none p c ⟨sep.toArray⟩ w).mono ?_
   rintro e w' ⟨rfl,rfl⟩
   exact ⟨[.string ⟨#[]⟩],rfl,⟨_,[],rfl,rfl,rfl⟩,Below.refl _ _⟩
  |cons x0 xs =>
   obtain ⟨ad,l0,rfl,hsp,_,hlt,_⟩:=hel 0 x0 rfl
   obtain ⟨bk,o,sp⟩:=ad
   simp only at hsp hlt
   subst hsp
   have e1:(((x0::xs).map λ s=>(⟨s.toArray⟩:ByteArray)).map (·.data.toList))=x0::xs:=by simp[List.map_map,Function.comp_def]
   have e2:((x0::xs).map λ s=>(⟨s.toArray⟩:ByteArray)).length=List.length (x0::xs):=by simp
   have h:=Tryz.strings_Join bk o c ((x0::xs).map λ s=>(⟨s.toArray⟩:ByteArray)) ⟨sep.toArray⟩ w (λ j x hj=>by
    rw[List.getElem?_map,Option.map_eq_some_iff]at hj
    obtain ⟨s,hs,rfl⟩:=hj
    obtain ⟨a1,l',e,_,_,_,h1,h2⟩:=hel j s hs
    cases e
    simp only[y6]at h2
    subst h2
    have:=h1 0 _ rfl
    simpa[Ty.size]using this) hlt (by rw[e2];exact hb.1) (by rw[e2];exact hc1) (by rw[e1];exact hb.2)
   rw[e1,e2]at h
   refine h.mono ?_
   rintro e w' ⟨rfl,hbl⟩
   exact ⟨[.string ⟨(Lib.join (x0::xs) sep).toArray⟩],rfl,⟨_,[],rfl,rfl,rfl⟩,hbl⟩
end Go.Tw
