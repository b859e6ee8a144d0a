/- BS: contracts of the library's functions: strconv.Itoa,strings.Join,and strings.Builder's look whether it was copied. -/
import Derived.Test.YtlaebedgpkiodaaGreatDoorB0
import Derived.Test.YtlaebedgpkiodaaGreatDoorSH
import Derived.Lib.AppendIntMem
import Derived.WalkKit
import Derived.Deep.LoopGhost
import Derived.Lib.Walk
import Derived.Lib.SliceRun
open Nat (le_refl)

set_option linter.all false
set_option maxRecDepth 1000000
namespace Go.Tw
open Go.Vx Go.Vx.B Go.Proofs Go.RowKit

theorem y6A(f:FuncId)(fn:Func)(h:Tryz.prog.funcs[f]?=some fn)(hn:(fn.name == "runtime.NumGoroutine")=false)(hb:fn.body.isNone=false):Vx.y3q Tryz.prog f:=⟨fn,h,hn,hb⟩

theorem yPF:yLk Tryz.prog 112 128:=by
 refine ⟨y6A 112 Tryz.f112 (by kernel_rfl) (by kernel_rfl) (by kernel_rfl),λ w b p v hg hp=>?_⟩
 rcases hp with rfl|rfl
 ·refine (Any.Builder_copyCheck_fresh Tryz.lays240 Tryz.x72_240 b w (by simp[World.cell?,hg]) (by simp[World.shape?,hg];rfl) (by simp[World.frozen?,hg])).mono ?_
  rintro e w' ⟨rfl,rfl⟩
  refine ⟨rfl,?_,λ n hn=>?_,?_,rfl,rfl,rfl⟩
  ·simp[World.setCell,Array.getElem?_modify,hg]
  ·simp only[World.setCell,Array.getElem?_modify]
   rw[if_neg (λ e=>hn e.symm)]
  ·simp[World.setCell]
 ·refine (Any.Builder_copyCheck_used Tryz.lays240 Tryz.x72_240 b w (by simp[World.cell?,hg])).mono ?_
  rintro e w' ⟨rfl,rfl⟩
  exact ⟨rfl,hg,λ _ _=>rfl,rfl,rfl,rfl,rfl⟩

noncomputable def yMv(n:Int):Option (List UInt8×Unit):=bif decide (-9223372036854775808<=n) && decide (n<=9223372036854775807)then some (Lib.itoa n,())else none
noncomputable def z03_e:Entry:={ f:=64,args:=.pair t3 .unit,rS:=.pair .str .unit,m:=λ x=>yMv x.1 }

theorem yAW(w:World){A:Nat->Prop}(hG:GlobOK A w):Lib.TabIs Tryz.prog w "internal/strconv.uint64pow10" .u64 Lib.pow10Tab:=by
 obtain ⟨_,_,t,f,h⟩:=hG.tab (GT.gl.getD 2 default) (by show _∈GT.gl;exact List.mem_of_getElem? (i:=2) rfl)
 unfold Lib.TabIs World.var?
 rw[show Tryz.prog.globalNamed "internal/strconv.uint64pow10" = some 3 by kernel_rfl]
 simp only[Option.bind_some]
 rw[show w.heap[3]?=_ from h]
 rfl

theorem yRQ:FnOK Tryz.prog z03_e:=by
 refine ⟨y6A 64 Tryz.f64 (by kernel_rfl) (by kernel_rfl) (by kernel_rfl),λ A w x l y hG hA hx hm=>?_,λ q h=>(by cases h),λ q h=>(by cases h)⟩
 obtain ⟨n,u⟩:=x
 simp only[z03_e,y6]at hx
 obtain ⟨l1,l2,rfl,rfl,rfl⟩:=hx
 simp only[z03_e,yMv]at hm
 cases hb:(decide (-9223372036854775808<=n) && decide (n<=9223372036854775807))with
 |false=>rw[hb]at hm;cases hm
 |true =>
  rw[hb]at hm
  cases hm
  simp only[Bool.and_eq_true,decide_eq_true_eq]at hb
  refine (Tryz.strconv_Itoa n hb.1 hb.2 w (yAW w hG)).mono ?_
  rintro e w' ⟨rfl,k,os,rfl⟩
  exact ⟨[.string ⟨(Lib.itoa n).toArray⟩],rfl,⟨_,[],rfl,rfl,rfl⟩,Lib.below_grow w.heap.size w (le_refl _) k os⟩

noncomputable def yNJ(xs:List (List UInt8))(sep:List UInt8):Option (List UInt8×Unit):=
 bif decide (xs.length<=140737488355328) && decide ((Lib.join xs sep).length<=140737488355328)then some (Lib.join xs sep,())else none
noncomputable def z04_e:Entry:={ f:=66,args:=.pair (.slice .str) (.pair .str .unit),rS:=.pair .str .unit,m:=λ x=>yNJ x.1 x.2.1 }

theorem yRG:FnOK Tryz.prog z04_e:=by
 refine ⟨y6A 66 Tryz.f66 (by kernel_rfl) (by kernel_rfl) (by kernel_rfl),λ A w x l y hG hA hx hm=>?_,λ q h=>(by cases h),λ q h=>(by cases h)⟩
 obtain ⟨xs,sep,u⟩:=x
 obtain ⟨l1,l2,rfl,⟨p,c,rfl,hc1,hc2,hel⟩,l3,l4,rfl,rfl,rfl⟩:=hx
 change yNJ xs sep=some y at hm
 unfold yNJ at hm
 cases hb:(decide (List.length xs<=140737488355328) && decide ((Lib.join xs sep).length<=140737488355328))with
 |false=>rw[hb]at hm;cases hm
 |true =>
  rw[hb]at hm
  cases hm
  simp only[Bool.and_eq_true,decide_eq_true_eq]at hb
  show Calls Tryz.prog 66 #[.slice p (List.length xs) c,.string ⟨sep.toArray⟩] w _
  cases xs with
  |nil =>
   refine (Tryz.strings_Join_none p c ⟨sep.toArray⟩ w).mono ?_
   rintro e w' ⟨rfl,rfl⟩
   exact ⟨[.string ⟨#[]⟩],rfl,⟨_,[],rfl,rfl,rfl⟩,Below.refl _ _⟩
  |cons x0 xs =>
   obtain ⟨ad,l0,rfl,hsp,_,hlt,_⟩:=hel 0 x0 rfl
   obtain ⟨bk,o,sp⟩:=ad
   simp only at hsp hlt
   subst hsp
   have e1:(((x0::xs).map λ s=>(⟨s.toArray⟩:ByteArray)).map (·.data.toList))=x0::xs:=by simp[List.map_map,Function.comp_def]
   have e2:((x0::xs).map λ s=>(⟨s.toArray⟩:ByteArray)).length=List.length (x0::xs):=by simp
   have h:=Tryz.strings_Join bk o c ((x0::xs).map λ s=>(⟨s.toArray⟩:ByteArray)) ⟨sep.toArray⟩ w (λ j x hj=>by
    rw[List.getElem?_map,Option.map_eq_some_iff]at hj
    obtain ⟨s,hs,rfl⟩:=hj
    obtain ⟨a1,l',e,_,_,_,h1,h2⟩:=hel j s hs
    cases e
    simp only[y6]at h2
    subst h2
    have:=h1 0 _ rfl
    simpa[Ty.size]using this) hlt (by rw[e2];exact hb.1) (by rw[e2];exact hc1) (by rw[e1];exact hb.2)
   rw[e1,e2]at h
   refine h.mono ?_
   rintro e w' ⟨rfl,hbl⟩
   exact ⟨[.string ⟨(Lib.join (x0::xs) sep).toArray⟩],rfl,⟨_,[],rfl,rfl,rfl⟩,hbl⟩

/-! ### slices.Clone -/
open Go.Lib
noncomputable def z6_e:Entry:={ f:=85,args:=.pair t28 .unit,rS:=.pair t28 .unit,m:=λ x=>bif decide (List.length x.1<=memMax)then some (x.1,())else none,own:=some (34,t34) }

set_option maxHeartbeats 2000000 in
theorem yIS(i0:TypeInfo)(z:Value)(hi:Tryz.prog.info? 34=some i0)(hz0:i0.zero=some z)(hz1:i0.size=3)(hzs:z.cells.size=3)
  (hz2:i0.bytes<=2048) (p:Addr) (n c:Nat) (news:List Value) (w:World) (hl:news.length=n * 3) (hn:n<=memMax)
  (hc:∀ j u,news[j]?=some u->w.cell? (p.add j)=some u) (h1:∀ u∈news,u.oneCell'=true) :
  Calls Tryz.prog 85 #[.slice (some p) n c] w λ e w'=>∃ v',e=.returned v'/\w'.ownsRow w.heap.size 34 3 v' n news/\Below w.heap.size w w':=by
 have hmx:n<=maxLen:=by simp only[memMax]at hn;simp only[maxLen];omega
 have hbig:n * i0.bytes<=140737488355328:=by
  have:n * i0.bytes<=68719476736 * 2048:=Nat.mul_le_mul hn hz2
  omega
 have A:Aside (∀ j u,news[j]?=some u->w.cell? (p.add j)=some u):=hc
 clear hc
 have mixed:=yDi
 have u31:=Tryz.underlying28;have a31:=Tryz.isAgg28;have z31:=Tryz.sizeOf28;have v31:=Tryz.zeroValue28
 have u4:=Tryz.underlying4;have a4:=Tryz.isAgg4;have z4:=Tryz.sizeOf4;have v4:=Tryz.zeroValue4
 have q31:∀ (w:World) (a:Option Addr) (n c n' c':Nat),(binOp .eql 28 (.slice a n c) (.slice none n' c')).run Tryz.prog w=.ok (.bool a.isNone) w:=λ w a n c n' c'=>Lib.run_eql_slice_nil w _ _ a n c n' c' Tryz.underlying28
 have r31:∀ w,Sem.run Tryz.prog (underlying 28) w=.ok (TypeDesc.slice 34) w:=run_underlying Tryz.underlying28
 go_enter Tryz.func85,Tryz.ntmps85
 go_wp2_with (at_builtin;refine wpList_append_own _ rfl _ _ 28 rfl w.heap.size 34 i0 z 3 i0.bytes Tryz.underlying28 hi hz0 hz1 rfl hzs (by decide) _ _ _ rfl (World.ownsRow_made w #[] 0 (le_refl _) (Nat.zero_le _) (by simp)) p n c news rfl ?qc1 ?qc2 ?qc3 ?qc4 ?qc5 ?qc6 ?_)
 case qc1=>exact hl
 case qc2 =>
  intro j u hj
  exact Lib.cell?_alloc_some _ (A.out j u hj)
 case qc3=>exact h1
 case qc4=>rw[Nat.zero_add];exact hmx
 case qc5=>rw[Nat.zero_add];exact hbig
 case qc6=>simp
 intro v' w1 hown hgrow hnil
 go_wp2
 go_ret
 refine ⟨v',rfl,by simpa using hown,?_⟩
 exact ((Below.refl _ w).alloc (le_refl _) _).grown hgrow (by simp) (by intro k hk;simp[Value.ownBlock]at hk;omega)

theorem yHG(n c:Nat)(w:World):Calls Tryz.prog 85 #[.slice none n c] w λ e w'=>e=.returned (.slice none 0 0)/\w'=w:=by
 have mixed:=yDi
 have u31:=Tryz.underlying28;have a31:=Tryz.isAgg28;have z31:=Tryz.sizeOf28;have v31:=Tryz.zeroValue28
 have u4:=Tryz.underlying4;have a4:=Tryz.isAgg4;have z4:=Tryz.sizeOf4;have v4:=Tryz.zeroValue4
 have q31:∀ (w:World) (a:Option Addr) (n c n' c':Nat),(binOp .eql 28 (.slice a n c) (.slice none n' c')).run Tryz.prog w=.ok (.bool a.isNone) w:=λ w a n c n' c'=>Lib.run_eql_slice_nil w _ _ a n c n' c' Tryz.underlying28
 have r31:∀ w,Sem.run Tryz.prog (underlying 28) w=.ok (TypeDesc.slice 34) w:=run_underlying Tryz.underlying28
 go_enter Tryz.func85,Tryz.ntmps85
 go_wp2
 go_ret
 exact ⟨rfl,rfl⟩

theorem yUA:∃ (inf:TypeInfo) (z:Value),Tryz.prog.info? 34=some inf/\inf.zero=some z/\inf.size=3/\z.cells.size=3/\inf.bytes<=2048:=by
 obtain ⟨hu,hF,hs0⟩:=yP (u:=t34) (yMf.shape (t:=28) (i:={ ty:=t28,elem:=34,fields:=[] }) (by kernel_rfl)) (.inl rfl)
 obtain ⟨inf,d,f1,f2,f3,f4,f5,f6⟩:=hF.ex
 refine ⟨inf,_,f1,f6,f3,?_,f4⟩
 rw[y23 (yd _) (y3l _),List.size_toArray,yd]
 rfl

theorem yDF:ySV Tryz.prog 85 (34,t34):=by
 intro w p n c news hl hn hp hc h1
 obtain ⟨inf,z,i1,i2,i3,i4,i5⟩:=yUA
 cases p with
 |none =>
  have h0:=hp rfl
  subst h0
  have hnews:news=[]:=List.eq_nil_of_length_eq_zero (by simpa using hl)
  subst hnews
  refine (yHG 0 c w).mono ?_
  rintro e w' ⟨rfl,rfl⟩
  exact ⟨_,rfl,World.ownsRow_nil w' _ 34 _,Below.refl _ _⟩
 |some a=>exact yIS inf z i1 i2 i3 i4 i5 a n c news w hl hn (λ j u hj=>hc a rfl j u hj) h1

theorem yUN:FnOK Tryz.prog z6_e:=by
 refine ⟨y6A 85 Tryz.f85 (by kernel_rfl) (by kernel_rfl) (by kernel_rfl),λ A w x l y hG hA hx hm=>?_,λ q hq=>?_,λ q hq=>by cases hq⟩
 ·obtain ⟨xs,u⟩:=x
  obtain ⟨l1,l2,rfl,hx1,rfl⟩:=hx
  change (bif decide (List.length xs<=memMax)then some (xs,())else none)=some y at hm
  cases hb:decide (List.length xs<=memMax)with
  |false=>rw[hb]at hm;cases hm
  |true =>
   rw[hb]at hm
   cases hm
   have hle:=of_decide_eq_true hb
   obtain ⟨p,c,m,rfl,hp0,hpc,hml,hmx,hmc⟩:∃ (p:Option Addr) (c:Nat) (m:List Value),l1=[.slice p (List.length xs) c]/\(p=none->List.length xs=0)/\(∀ ad,p=some ad->∀ j v,m[j]?=some v->w.cell? (ad.add j)=some v) /\
     m.length=List.length xs * t34.size/\(∀ v∈m,v.oneCell'=true)/\∀ (i:Nat) (x:t34.den),(xs:List t34.den)[i]?=some x->y6 Tryz.prog t34 A w x ((m.drop (i * t34.size)).take t34.size):=by
    rcases y0C hx1 with ⟨rfl,p,c,rfl⟩|⟨b1,off,c,m,rfl,hm1,hm2⟩
    ·exact ⟨p,c,[],rfl,λ _=>rfl,λ _ _ j v hj=>by simp at hj,by simp,λ v hv=>by simp at hv,λ i x hx=>by simp at hx⟩
    ·refine ⟨some ⟨b1,off,none⟩,c,m,rfl,(λ hp=>by cases hp),λ ad had j v hj=>?_,hm2.length,λ v hv=>yp (y6.plain hm2 v hv),λ i x hx=>?_⟩
     ·cases had
      rw[y07]
      exact hm1 j v hj
     ·simp only[y6]at hm2
      exact hm2.2.2 i x hx
   refine (show Calls Tryz.prog 85 #[.slice p (List.length xs) c] w _ from yDF w p (List.length xs) c m hml hle hp0 hpc hmx).mono ?_
   rintro ex w' ⟨v',rfl,⟨_,hown⟩,hB⟩
   refine ⟨[v'],?_,⟨[v'],[],rfl,?_,rfl⟩,hB⟩
   ·rfl
   rcases hown with ⟨rfl,hn0⟩|⟨gb,cap,cur,rfl,hgb,hg,hnc,hcm,hcs2,htk⟩
   ·have hys:xs=([]:List t34.den):=List.eq_nil_of_length_eq_zero hn0
    subst hys
    exact ⟨none,0,rfl,le_refl _,Nat.zero_le _,λ i x hi=>by simp at hi⟩
   ·refine ⟨some ⟨gb,0,none⟩,cap,rfl,hnc,hcm,λ i x hi=>?_⟩
    have hi1:i < List.length xs:=(List.getElem?_eq_some_iff.1 hi).1
    have hsz:i * t34.size+t34.size<=List.length xs * t34.size:=by rw[<- Nat.succ_mul];exact Nat.mul_le_mul_right _ hi1
    refine ⟨⟨gb,0,none⟩,(m.drop (i * t34.size)).take t34.size,rfl,rfl,λ h=>Nat.lt_irrefl _ (Nat.lt_of_lt_of_le (hA _ h) hgb),yN hg,λ j v hj=>?_,(hmc i x hi).mono (λ n hn _=>hB.block n hn) (λ n hn h=>h)⟩
    have hj2:j < t34.size:=by
     have:=(List.getElem?_eq_some_iff.1 hj).1
     simp only[List.length_take]at this
     omega
    rw[List.getElem?_take,if_pos hj2,List.getElem?_drop,<- htk,List.getElem?_take,if_pos (by show _ < List.length xs * t34.size;omega)]at hj
    simp only[World.cell?,hg]
    rw[Nat.zero_add,<- Array.getElem?_toList]
    exact hj
 ·cases hq
  exact yDF
end Go.Tw
