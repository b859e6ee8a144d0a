/- BS: contracts of the library's functions: strconv.Itoa, strings.Join, and strings.Builder's look whether it was copied.
BS2: contracts of the library's functions on strings: strings.Cut, Split, TrimPrefix, strconv.Atoi. Cut and Split ask for the cell of internal/bytealg.MaxLen (some int), Atoi for strconv.ErrSyntax and ErrRange (some interface value): GT.ints, GT.ifs.
BS3: contracts of the library's functions on rows of strings: slices.Insert, Delete, BinarySearch;strings.Repeat.
BS4: calls that only look at a struct of one's own: (*centre.history).now, (*centre.Register).side.
BS5: strings.ContainsFunc with centre's own closure (what is no digit). -/
import Derived.Test.YtemgjgkbgkeknaaGreatDoorB0
import Derived.Test.YtemgjgkbgkeknaaGreatDoorSA
import Derived.Lib.AppendIntMem
import Derived.WalkKit
import Derived.Deep.LoopGhost
import Derived.Lib.Walk
import Derived.Lib.SliceRun
import Derived.Lib.AtoiErrMem
import Derived.Lib.SplitLaws
import Derived.StillTailTactics
import Derived.Laws.Rows
open List (eq_nil_of_length_eq_zero getElem?_drop getElem?_eq_getElem getElem?_map getElem?_take length_map length_take size_toArray)
open Option (map_eq_some_iff)
open Nat (le_of_eq le_refl lt_irrefl mul_le_mul sub_self succ_mul zero_add zero_le)
open Bool (and_eq_true)
open Go.IntKind (i64)

section
set_option linter.all false
set_option maxRecDepth 1000000
namespace Go.Tw
open Go.Vx Go.Vx.B Go.Proofs Go.RowKit

theorem y08(f:FuncId)(fn:Func)(h:Tryz.prog.funcs[f]?=some fn)(hn:(fn.name == "runtime.NumGoroutine")=false)(hb:fn.body.isNone=false):Vx.y28 Tryz.prog f:=⟨fn, h, hn, hb⟩

theorem yR2:yJ4 Tryz.prog 198 218:=by
 refine ⟨y08 198 Tryz.f198 (by kernel_rfl) (by kernel_rfl) (by kernel_rfl), λ w b p v hg hp=>?_⟩
 rcases hp with rfl|rfl
 ·refine (Any.Builder_copyCheck_fresh Tryz.lays240 Tryz.x72_240 b w (by simp[World.cell?, hg]) (by simp[World.shape?, hg];rfl) (by simp[World.frozen?, hg])).mono ?_
  rintro e w' ⟨rfl, rfl⟩
  refine ⟨rfl, ?_, λ n hn=>?_, ?_, rfl, rfl, rfl⟩
  ·simp[World.setCell, Array.getElem?_modify, hg]
  ·simp only[World.setCell, Array.getElem?_modify]
   rw[if_neg (λ e=>hn e.symm)]
  ·simp[World.setCell]
 ·refine (Any.Builder_copyCheck_used Tryz.lays240 Tryz.x72_240 b w (by simp[World.cell?, hg])).mono ?_
  rintro e w' ⟨rfl, rfl⟩
  exact ⟨rfl, hg, λ _ _=>rfl, rfl, rfl, rfl, rfl⟩

noncomputable def yBl(n:Int):Option (List UInt8×Unit):=bif decide (-9223372036854775808<=n) && decide (n<=9223372036854775807)then some (Lib.itoa n, ())else none
noncomputable def z0V_e:Entry:={ f:=95, args:=.pair t3 .unit, rS:=.pair .str .unit, m:=λ x=>yBl x.1 }

theorem y9w(w:World){A:Nat->Prop}(hG:GlobOK A w):Lib.TabIs Tryz.prog w "internal/strconv.uint64pow10" .u64 Lib.pow10Tab:=by
 obtain ⟨_, _, t, f, h⟩:=hG.tab (GT.gl.getD 0 default) (by show _∈GT.gl;exact List.mem_of_getElem? (i:=0) rfl)
 unfold Lib.TabIs World.var?
 rw[show Tryz.prog.globalNamed "internal/strconv.uint64pow10" = some 1 by kernel_rfl]
 simp only[Option.bind_some]
 rw[show w.heap[1]?=_ from h]
 rfl

theorem yA6:FnOK Tryz.prog z0V_e:=by
 refine ⟨y08 95 Tryz.f95 (by kernel_rfl) (by kernel_rfl) (by kernel_rfl), λ A w x l y hG hA hx hm=>?_, λ q h=>(by cases h), λ q h=>(by cases h)⟩
 obtain ⟨n, u⟩:=x
 simp only[z0V_e, Cells]at hx
 obtain ⟨l1, l2, rfl, rfl, rfl⟩:=hx
 simp only[z0V_e, yBl]at hm
 cases hb:(decide (-9223372036854775808<=n) && decide (n<=9223372036854775807))with
 |false=>rw[hb]at hm;cases hm
 |true =>
  rw[hb]at hm
  cases hm
  simp only[and_eq_true, decide_eq_true_eq]at hb
  refine (Tryz.strconv_Itoa n hb.1 hb.2 w (y9w w hG)).mono ?_
  rintro e w' ⟨rfl, k, os, rfl⟩
  exact ⟨[.string ⟨(Lib.itoa n).toArray⟩], rfl, ⟨_, [], rfl, rfl, rfl⟩, Lib.below_grow w.heap.size w (le_refl _) k os⟩

noncomputable def yHZ(xs:List (List UInt8))(sep:List UInt8):Option (List UInt8×Unit):=
 bif decide (xs.length<=140737488355328) && decide ((Lib.join xs sep).length<=140737488355328)then some (Lib.join xs sep, ())else none
noncomputable def z0W_e:Entry:={ f:=98, args:=.pair (.slice .str) (.pair .str .unit), rS:=.pair .str .unit, m:=λ x=>yHZ x.1 x.2.1 }

theorem yJP:FnOK Tryz.prog z0W_e:=by
 refine ⟨y08 98 Tryz.f98 (by kernel_rfl) (by kernel_rfl) (by kernel_rfl), λ A w x l y hG hA hx hm=>?_, λ q h=>(by cases h), λ q h=>(by cases h)⟩
 obtain ⟨xs, sep, u⟩:=x
 obtain ⟨l1, l2, rfl, ⟨p, c, rfl, hc1, hc2, hel⟩, l3, l4, rfl, rfl, rfl⟩:=hx
 change yHZ xs sep=some y at hm
 unfold yHZ at hm
 cases hb:(decide (List.length xs<=140737488355328) && decide ((Lib.join xs sep).length<=140737488355328))with
 |false=>rw[hb]at hm;cases hm
 |true =>
  rw[hb]at hm
  cases hm
  simp only[and_eq_true, decide_eq_true_eq]at hb
  show Calls Tryz.prog 98 #[.slice p (List.length xs) c, .string ⟨sep.toArray⟩] w _
  cases xs with
  |nil =>
   refine (Tryz.strings_Join_none p c ⟨sep.toArray⟩ w).mono ?_
   rintro e w' ⟨rfl, rfl⟩
   exact ⟨[.string ⟨#[]⟩], rfl, ⟨_, [], rfl, rfl, rfl⟩, Below.refl _ _⟩
  |cons x0 xs =>
   obtain ⟨ad, l0, rfl, hsp, _, hlt, _⟩:=hel 0 x0 rfl
   obtain ⟨bk, o, sp⟩:=ad
   simp only at hsp hlt
   subst hsp
   have e1:(((x0::xs).map λ s=>(⟨s.toArray⟩:ByteArray)).map (·.data.toList))=x0::xs:=by simp[List.map_map, Function.comp_def]
   have e2:((x0::xs).map λ s=>(⟨s.toArray⟩:ByteArray)).length=List.length (x0::xs):=by simp
   have h:=Tryz.strings_Join bk o c ((x0::xs).map λ s=>(⟨s.toArray⟩:ByteArray)) ⟨sep.toArray⟩ w (λ j x hj=>by
    rw[getElem?_map, map_eq_some_iff]at hj
    obtain ⟨s, hs, rfl⟩:=hj
    obtain ⟨a1, l', e, _, _, _, h1, h2⟩:=hel j s hs
    cases e
    simp only[Cells]at h2
    subst h2
    have:=h1 0 _ rfl
    simpa[Ty.size]using this) hlt (by rw[e2];exact hb.1) (by rw[e2];exact hc1) (by rw[e1];exact hb.2)
   rw[e1, e2]at h
   refine h.mono ?_
   rintro e w' ⟨rfl, hbl⟩
   exact ⟨[.string ⟨(Lib.join (x0::xs) sep).toArray⟩], rfl, ⟨_, [], rfl, rfl, rfl⟩, hbl⟩

/-! ### slices.Clone -/
open Go.Lib
noncomputable def zF_e:Entry:={ f:=160, args:=.pair t38 .unit, rS:=.pair t38 .unit, m:=λ x=>bif decide (List.length x.1<=memMax)then some (x.1, ())else none, own:=some (9, t9) }

set_option maxHeartbeats 2000000 in
theorem y9J(i0:TypeInfo)(z:Value)(hi:Tryz.prog.info? 9=some i0)(hz0:i0.zero=some z)(hz1:i0.size=1)(hzs:z.cells.size=1)
  (hz2:i0.bytes<=2048) (p:Addr) (n c:Nat) (news:List Value) (w:World) (hl:news.length=n * 1) (hn:n<=memMax)
  (hc:∀ j u, news[j]?=some u->w.cell? (p.add j)=some u) (h1:∀ u∈news, u.oneCell'=true) :
  Calls Tryz.prog 160 #[.slice (some p) n c] w λ e w'=>∃ v', e=.returned v'/\w'.ownsRow w.heap.size 9 1 v' n news/\Below w.heap.size w w':=by
 have hmx:n<=maxLen:=by simp only[memMax]at hn;simp only[maxLen];omega
 have hbig:n * i0.bytes<=140737488355328:=by
  have:n * i0.bytes<=68719476736 * 2048:=mul_le_mul hn hz2
  omega
 have A:Aside (∀ j u, news[j]?=some u->w.cell? (p.add j)=some u):=hc
 clear hc
 have mixed:=y1i
 have u31:=Tryz.underlying38;have a31:=Tryz.isAgg38;have z31:=Tryz.sizeOf38;have v31:=Tryz.zeroValue38
 have u4:=Tryz.underlying4;have a4:=Tryz.isAgg4;have z4:=Tryz.sizeOf4;have v4:=Tryz.zeroValue4
 have q31:∀ (w:World) (a:Option Addr) (n c n' c':Nat), (binOp .eql 38 (.slice a n c) (.slice none n' c')).run Tryz.prog w=.ok (.bool a.isNone) w:=λ w a n c n' c'=>Lib.run_eql_slice_nil w _ _ a n c n' c' Tryz.underlying38
 have r31:∀ w, Sem.run Tryz.prog (underlying 38) w=.ok (TypeDesc.slice 9) w:=run_underlying Tryz.underlying38
 go_enter Tryz.func160, Tryz.ntmps160
 go_wp2_with (at_builtin;refine wpList_append_own _ rfl _ _ 38 rfl w.heap.size 9 i0 z 1 i0.bytes Tryz.underlying38 hi hz0 hz1 rfl hzs (by decide) _ _ _ rfl (World.ownsRow_made w #[] 0 (le_refl _) (zero_le _) (by simp)) p n c news rfl ?qc1 ?qc2 ?qc3 ?qc4 ?qc5 ?qc6 ?_)
 case qc1=>exact hl
 case qc2 =>
  intro j u hj
  exact Lib.cell?_alloc_some _ (A.out j u hj)
 case qc3=>exact h1
 case qc4=>rw[zero_add];exact hmx
 case qc5=>rw[zero_add];exact hbig
 case qc6=>simp
 intro v' w1 hown hgrow hnil
 go_wp2
 go_ret
 refine ⟨v', rfl, by simpa using hown, ?_⟩
 exact ((Below.refl _ w).alloc (le_refl _) _).grown hgrow (by simp) (by intro k hk;simp[Value.ownBlock]at hk;omega)

theorem y94(n c:Nat)(w:World):Calls Tryz.prog 160 #[.slice none n c] w λ e w'=>e=.returned (.slice none 0 0)/\w'=w:=by
 have mixed:=y1i
 have u31:=Tryz.underlying38;have a31:=Tryz.isAgg38;have z31:=Tryz.sizeOf38;have v31:=Tryz.zeroValue38
 have u4:=Tryz.underlying4;have a4:=Tryz.isAgg4;have z4:=Tryz.sizeOf4;have v4:=Tryz.zeroValue4
 have q31:∀ (w:World) (a:Option Addr) (n c n' c':Nat), (binOp .eql 38 (.slice a n c) (.slice none n' c')).run Tryz.prog w=.ok (.bool a.isNone) w:=λ w a n c n' c'=>Lib.run_eql_slice_nil w _ _ a n c n' c' Tryz.underlying38
 have r31:∀ w, Sem.run Tryz.prog (underlying 38) w=.ok (TypeDesc.slice 9) w:=run_underlying Tryz.underlying38
 go_enter Tryz.func160, Tryz.ntmps160
 go_wp2
 go_ret
 exact ⟨rfl, rfl⟩

theorem yHq:∃ (inf:TypeInfo) (z:Value), Tryz.prog.info? 9=some inf/\inf.zero=some z/\inf.size=1/\z.cells.size=1/\inf.bytes<=2048:=by
 obtain ⟨hu, hF, hs0⟩:=yM (u:=t9) (y7D.shape (t:=38) (i:={ ty:=t38, elem:=9, fields:=[] }) (by kernel_rfl)) (.inl rfl)
 obtain ⟨inf, d, f1, f2, f3, f4, f5, f6⟩:=hF.ex
 refine ⟨inf, _, f1, f6, f3, ?_, f4⟩
 rw[y0S (yS _) (y1K _), size_toArray, yS]
 rfl

theorem y69:yJi Tryz.prog 160 (9, t9):=by
 intro w p n c news hl hn hp hc h1
 obtain ⟨inf, z, i1, i2, i3, i4, i5⟩:=yHq
 cases p with
 |none =>
  have h0:=hp rfl
  subst h0
  have hnews:news=[]:=eq_nil_of_length_eq_zero (by simpa using hl)
  subst hnews
  refine (y94 0 c w).mono ?_
  rintro e w' ⟨rfl, rfl⟩
  exact ⟨_, rfl, World.ownsRow_nil w' _ 9 _, Below.refl _ _⟩
 |some a=>exact y9J inf z i1 i2 i3 i4 i5 a n c news w hl hn (λ j u hj=>hc a rfl j u hj) h1

theorem yOT:FnOK Tryz.prog zF_e:=by
 refine ⟨y08 160 Tryz.f160 (by kernel_rfl) (by kernel_rfl) (by kernel_rfl), λ A w x l y hG hA hx hm=>?_, λ q hq=>?_, λ q hq=>by cases hq⟩
 ·obtain ⟨xs, u⟩:=x
  obtain ⟨l1, l2, rfl, hx1, rfl⟩:=hx
  change (bif decide (List.length xs<=memMax)then some (xs, ())else none)=some y at hm
  cases hb:decide (List.length xs<=memMax)with
  |false=>rw[hb]at hm;cases hm
  |true =>
   rw[hb]at hm
   cases hm
   have hle:=of_decide_eq_true hb
   obtain ⟨p, c, m, rfl, hp0, hpc, hml, hmx, hmc⟩:∃ (p:Option Addr) (c:Nat) (m:List Value), l1=[.slice p (List.length xs) c]/\(p=none->List.length xs=0)/\(∀ ad, p=some ad->∀ j v, m[j]?=some v->w.cell? (ad.add j)=some v) /\
     m.length=List.length xs * t9.size/\(∀ v∈m, v.oneCell'=true)/\∀ (i:Nat) (x:t9.den), (xs:List t9.den)[i]?=some x->Cells Tryz.prog t9 A w x ((m.drop (i * t9.size)).take t9.size):=by
    rcases y02 hx1 with ⟨rfl, p, c, rfl⟩|⟨b1, off, c, m, rfl, hm1, hm2⟩
    ·exact ⟨p, c, [], rfl, λ _=>rfl, λ _ _ j v hj=>by simp at hj, by simp, λ v hv=>by simp at hv, λ i x hx=>by simp at hx⟩
    ·refine ⟨some ⟨b1, off, none⟩, c, m, rfl, (λ hp=>by cases hp), λ ad had j v hj=>?_, hm2.length, λ v hv=>yV (Cells.plain hm2 v hv), λ i x hx=>?_⟩
     ·cases had
      rw[yu]
      exact hm1 j v hj
     ·simp only[Cells]at hm2
      exact hm2.2.2 i x hx
   refine (show Calls Tryz.prog 160 #[.slice p (List.length xs) c] w _ from y69 w p (List.length xs) c m hml hle hp0 hpc hmx).mono ?_
   rintro ex w' ⟨v', rfl, ⟨_, hown⟩, hB⟩
   refine ⟨[v'], ?_, ⟨[v'], [], rfl, ?_, rfl⟩, hB⟩
   ·rfl
   rcases hown with ⟨rfl, hn0⟩|⟨gb, cap, cur, rfl, hgb, hg, hnc, hcm, hcs2, htk⟩
   ·have hys:xs=([]:List t9.den):=eq_nil_of_length_eq_zero hn0
    subst hys
    exact ⟨none, 0, rfl, le_refl _, zero_le _, λ i x hi=>by simp at hi⟩
   ·refine ⟨some ⟨gb, 0, none⟩, cap, rfl, hnc, hcm, λ i x hi=>?_⟩
    have hi1:i < List.length xs:=(List.getElem?_eq_some_iff.1 hi).1
    have hsz:i * t9.size+t9.size<=List.length xs * t9.size:=by rw[<- succ_mul];exact Nat.mul_le_mul_right _ hi1
    refine ⟨⟨gb, 0, none⟩, (m.drop (i * t9.size)).take t9.size, rfl, rfl, λ h=>lt_irrefl _ (Nat.lt_of_lt_of_le (hA _ h) hgb), yJ hg, λ j v hj=>?_, (hmc i x hi).mono (λ n hn _=>hB.block n hn) (λ n hn h=>h)⟩
    have hj2:j < t9.size:=by
     have:=(List.getElem?_eq_some_iff.1 hj).1
     simp only[length_take]at this
     omega
    rw[getElem?_take, if_pos hj2, getElem?_drop, <- htk, getElem?_take, if_pos (by show _ < List.length xs * t9.size;omega)]at hj
    simp only[World.cell?, hg]
    rw[zero_add, <- Array.getElem?_toList]
    exact hj
 ·cases hq
  exact y69
/-! ### slices.Clone -/
noncomputable def zW_e:Entry:={ f:=166, args:=.pair t34 .unit, rS:=.pair t34 .unit, m:=λ x=>bif decide (List.length x.1<=memMax)then some (x.1, ())else none, own:=some (3, t3) }

set_option maxHeartbeats 2000000 in
theorem y9S(i0:TypeInfo)(z:Value)(hi:Tryz.prog.info? 3=some i0)(hz0:i0.zero=some z)(hz1:i0.size=1)(hzs:z.cells.size=1)
  (hz2:i0.bytes<=2048) (p:Addr) (n c:Nat) (news:List Value) (w:World) (hl:news.length=n * 1) (hn:n<=memMax)
  (hc:∀ j u, news[j]?=some u->w.cell? (p.add j)=some u) (h1:∀ u∈news, u.oneCell'=true) :
  Calls Tryz.prog 166 #[.slice (some p) n c] w λ e w'=>∃ v', e=.returned v'/\w'.ownsRow w.heap.size 3 1 v' n news/\Below w.heap.size w w':=by
 have hmx:n<=maxLen:=by simp only[memMax]at hn;simp only[maxLen];omega
 have hbig:n * i0.bytes<=140737488355328:=by
  have:n * i0.bytes<=68719476736 * 2048:=mul_le_mul hn hz2
  omega
 have A:Aside (∀ j u, news[j]?=some u->w.cell? (p.add j)=some u):=hc
 clear hc
 have mixed:=y1i
 have u31:=Tryz.underlying34;have a31:=Tryz.isAgg34;have z31:=Tryz.sizeOf34;have v31:=Tryz.zeroValue34
 have u4:=Tryz.underlying4;have a4:=Tryz.isAgg4;have z4:=Tryz.sizeOf4;have v4:=Tryz.zeroValue4
 have q31:∀ (w:World) (a:Option Addr) (n c n' c':Nat), (binOp .eql 34 (.slice a n c) (.slice none n' c')).run Tryz.prog w=.ok (.bool a.isNone) w:=λ w a n c n' c'=>Lib.run_eql_slice_nil w _ _ a n c n' c' Tryz.underlying34
 have r31:∀ w, Sem.run Tryz.prog (underlying 34) w=.ok (TypeDesc.slice 3) w:=run_underlying Tryz.underlying34
 go_enter Tryz.func166, Tryz.ntmps166
 go_wp2_with (at_builtin;refine wpList_append_own _ rfl _ _ 34 rfl w.heap.size 3 i0 z 1 i0.bytes Tryz.underlying34 hi hz0 hz1 rfl hzs (by decide) _ _ _ rfl (World.ownsRow_made w #[] 0 (le_refl _) (zero_le _) (by simp)) p n c news rfl ?qc1 ?qc2 ?qc3 ?qc4 ?qc5 ?qc6 ?_)
 case qc1=>exact hl
 case qc2 =>
  intro j u hj
  exact Lib.cell?_alloc_some _ (A.out j u hj)
 case qc3=>exact h1
 case qc4=>rw[zero_add];exact hmx
 case qc5=>rw[zero_add];exact hbig
 case qc6=>simp
 intro v' w1 hown hgrow hnil
 go_wp2
 go_ret
 refine ⟨v', rfl, by simpa using hown, ?_⟩
 exact ((Below.refl _ w).alloc (le_refl _) _).grown hgrow (by simp) (by intro k hk;simp[Value.ownBlock]at hk;omega)

theorem y9L(n c:Nat)(w:World):Calls Tryz.prog 166 #[.slice none n c] w λ e w'=>e=.returned (.slice none 0 0)/\w'=w:=by
 have mixed:=y1i
 have u31:=Tryz.underlying34;have a31:=Tryz.isAgg34;have z31:=Tryz.sizeOf34;have v31:=Tryz.zeroValue34
 have u4:=Tryz.underlying4;have a4:=Tryz.isAgg4;have z4:=Tryz.sizeOf4;have v4:=Tryz.zeroValue4
 have q31:∀ (w:World) (a:Option Addr) (n c n' c':Nat), (binOp .eql 34 (.slice a n c) (.slice none n' c')).run Tryz.prog w=.ok (.bool a.isNone) w:=λ w a n c n' c'=>Lib.run_eql_slice_nil w _ _ a n c n' c' Tryz.underlying34
 have r31:∀ w, Sem.run Tryz.prog (underlying 34) w=.ok (TypeDesc.slice 3) w:=run_underlying Tryz.underlying34
 go_enter Tryz.func166, Tryz.ntmps166
 go_wp2
 go_ret
 exact ⟨rfl, rfl⟩

theorem yHx:∃ (inf:TypeInfo) (z:Value), Tryz.prog.info? 3=some inf/\inf.zero=some z/\inf.size=1/\z.cells.size=1/\inf.bytes<=2048:=by
 obtain ⟨hu, hF, hs0⟩:=yM (u:=t3) (y7D.shape (t:=34) (i:={ ty:=t34, elem:=3, fields:=[] }) (by kernel_rfl)) (.inl rfl)
 obtain ⟨inf, d, f1, f2, f3, f4, f5, f6⟩:=hF.ex
 refine ⟨inf, _, f1, f6, f3, ?_, f4⟩
 rw[y0S (yS _) (y1K _), size_toArray, yS]
 rfl

theorem y5p:yJi Tryz.prog 166 (3, t3):=by
 intro w p n c news hl hn hp hc h1
 obtain ⟨inf, z, i1, i2, i3, i4, i5⟩:=yHx
 cases p with
 |none =>
  have h0:=hp rfl
  subst h0
  have hnews:news=[]:=eq_nil_of_length_eq_zero (by simpa using hl)
  subst hnews
  refine (y9L 0 c w).mono ?_
  rintro e w' ⟨rfl, rfl⟩
  exact ⟨_, rfl, World.ownsRow_nil w' _ 3 _, Below.refl _ _⟩
 |some a=>exact y9S inf z i1 i2 i3 i4 i5 a n c news w hl hn (λ j u hj=>hc a rfl j u hj) h1

theorem yR4:FnOK Tryz.prog zW_e:=by
 refine ⟨y08 166 Tryz.f166 (by kernel_rfl) (by kernel_rfl) (by kernel_rfl), λ A w x l y hG hA hx hm=>?_, λ q hq=>?_, λ q hq=>by cases hq⟩
 ·obtain ⟨xs, u⟩:=x
  obtain ⟨l1, l2, rfl, hx1, rfl⟩:=hx
  change (bif decide (List.length xs<=memMax)then some (xs, ())else none)=some y at hm
  cases hb:decide (List.length xs<=memMax)with
  |false=>rw[hb]at hm;cases hm
  |true =>
   rw[hb]at hm
   cases hm
   have hle:=of_decide_eq_true hb
   obtain ⟨p, c, m, rfl, hp0, hpc, hml, hmx, hmc⟩:∃ (p:Option Addr) (c:Nat) (m:List Value), l1=[.slice p (List.length xs) c]/\(p=none->List.length xs=0)/\(∀ ad, p=some ad->∀ j v, m[j]?=some v->w.cell? (ad.add j)=some v) /\
     m.length=List.length xs * t3.size/\(∀ v∈m, v.oneCell'=true)/\∀ (i:Nat) (x:t3.den), (xs:List t3.den)[i]?=some x->Cells Tryz.prog t3 A w x ((m.drop (i * t3.size)).take t3.size):=by
    rcases y02 hx1 with ⟨rfl, p, c, rfl⟩|⟨b1, off, c, m, rfl, hm1, hm2⟩
    ·exact ⟨p, c, [], rfl, λ _=>rfl, λ _ _ j v hj=>by simp at hj, by simp, λ v hv=>by simp at hv, λ i x hx=>by simp at hx⟩
    ·refine ⟨some ⟨b1, off, none⟩, c, m, rfl, (λ hp=>by cases hp), λ ad had j v hj=>?_, hm2.length, λ v hv=>yV (Cells.plain hm2 v hv), λ i x hx=>?_⟩
     ·cases had
      rw[yu]
      exact hm1 j v hj
     ·simp only[Cells]at hm2
      exact hm2.2.2 i x hx
   refine (show Calls Tryz.prog 166 #[.slice p (List.length xs) c] w _ from y5p w p (List.length xs) c m hml hle hp0 hpc hmx).mono ?_
   rintro ex w' ⟨v', rfl, ⟨_, hown⟩, hB⟩
   refine ⟨[v'], ?_, ⟨[v'], [], rfl, ?_, rfl⟩, hB⟩
   ·rfl
   rcases hown with ⟨rfl, hn0⟩|⟨gb, cap, cur, rfl, hgb, hg, hnc, hcm, hcs2, htk⟩
   ·have hys:xs=([]:List t3.den):=eq_nil_of_length_eq_zero hn0
    subst hys
    exact ⟨none, 0, rfl, le_refl _, zero_le _, λ i x hi=>by simp at hi⟩
   ·refine ⟨some ⟨gb, 0, none⟩, cap, rfl, hnc, hcm, λ i x hi=>?_⟩
    have hi1:i < List.length xs:=(List.getElem?_eq_some_iff.1 hi).1
    have hsz:i * t3.size+t3.size<=List.length xs * t3.size:=by rw[<- succ_mul];exact Nat.mul_le_mul_right _ hi1
    refine ⟨⟨gb, 0, none⟩, (m.drop (i * t3.size)).take t3.size, rfl, rfl, λ h=>lt_irrefl _ (Nat.lt_of_lt_of_le (hA _ h) hgb), yJ hg, λ j v hj=>?_, (hmc i x hi).mono (λ n hn _=>hB.block n hn) (λ n hn h=>h)⟩
    have hj2:j < t3.size:=by
     have:=(List.getElem?_eq_some_iff.1 hj).1
     simp only[length_take]at this
     omega
    rw[getElem?_take, if_pos hj2, getElem?_drop, <- htk, getElem?_take, if_pos (by show _ < List.length xs * t3.size;omega)]at hj
    simp only[World.cell?, hg]
    rw[zero_add, <- Array.getElem?_toList]
    exact hj
 ·cases hq
  exact y5p
/-! ### slices.Clone -/
noncomputable def z7_e:Entry:={ f:=213, args:=.pair t57 .unit, rS:=.pair t57 .unit, m:=λ x=>bif decide (List.length x.1<=memMax)then some (x.1, ())else none, own:=some (64, t64) }

set_option maxHeartbeats 2000000 in
theorem y9Y(i0:TypeInfo)(z:Value)(hi:Tryz.prog.info? 64=some i0)(hz0:i0.zero=some z)(hz1:i0.size=5)(hzs:z.cells.size=5)
  (hz2:i0.bytes<=2048) (p:Addr) (n c:Nat) (news:List Value) (w:World) (hl:news.length=n * 5) (hn:n<=memMax)
  (hc:∀ j u, news[j]?=some u->w.cell? (p.add j)=some u) (h1:∀ u∈news, u.oneCell'=true) :
  Calls Tryz.prog 213 #[.slice (some p) n c] w λ e w'=>∃ v', e=.returned v'/\w'.ownsRow w.heap.size 64 5 v' n news/\Below w.heap.size w w':=by
 have hmx:n<=maxLen:=by simp only[memMax]at hn;simp only[maxLen];omega
 have hbig:n * i0.bytes<=140737488355328:=by
  have:n * i0.bytes<=68719476736 * 2048:=mul_le_mul hn hz2
  omega
 have A:Aside (∀ j u, news[j]?=some u->w.cell? (p.add j)=some u):=hc
 clear hc
 have mixed:=y1i
 have u31:=Tryz.underlying57;have a31:=Tryz.isAgg57;have z31:=Tryz.sizeOf57;have v31:=Tryz.zeroValue57
 have u4:=Tryz.underlying4;have a4:=Tryz.isAgg4;have z4:=Tryz.sizeOf4;have v4:=Tryz.zeroValue4
 have q31:∀ (w:World) (a:Option Addr) (n c n' c':Nat), (binOp .eql 57 (.slice a n c) (.slice none n' c')).run Tryz.prog w=.ok (.bool a.isNone) w:=λ w a n c n' c'=>Lib.run_eql_slice_nil w _ _ a n c n' c' Tryz.underlying57
 have r31:∀ w, Sem.run Tryz.prog (underlying 57) w=.ok (TypeDesc.slice 64) w:=run_underlying Tryz.underlying57
 go_enter Tryz.func213, Tryz.ntmps213
 go_wp2_with (at_builtin;refine wpList_append_own _ rfl _ _ 57 rfl w.heap.size 64 i0 z 5 i0.bytes Tryz.underlying57 hi hz0 hz1 rfl hzs (by decide) _ _ _ rfl (World.ownsRow_made w #[] 0 (le_refl _) (zero_le _) (by simp)) p n c news rfl ?qc1 ?qc2 ?qc3 ?qc4 ?qc5 ?qc6 ?_)
 case qc1=>exact hl
 case qc2 =>
  intro j u hj
  exact Lib.cell?_alloc_some _ (A.out j u hj)
 case qc3=>exact h1
 case qc4=>rw[zero_add];exact hmx
 case qc5=>rw[zero_add];exact hbig
 case qc6=>simp
 intro v' w1 hown hgrow hnil
 go_wp2
 go_ret
 refine ⟨v', rfl, by simpa using hown, ?_⟩
 exact ((Below.refl _ w).alloc (le_refl _) _).grown hgrow (by simp) (by intro k hk;simp[Value.ownBlock]at hk;omega)

theorem y9W(n c:Nat)(w:World):Calls Tryz.prog 213 #[.slice none n c] w λ e w'=>e=.returned (.slice none 0 0)/\w'=w:=by
 have mixed:=y1i
 have u31:=Tryz.underlying57;have a31:=Tryz.isAgg57;have z31:=Tryz.sizeOf57;have v31:=Tryz.zeroValue57
 have u4:=Tryz.underlying4;have a4:=Tryz.isAgg4;have z4:=Tryz.sizeOf4;have v4:=Tryz.zeroValue4
 have q31:∀ (w:World) (a:Option Addr) (n c n' c':Nat), (binOp .eql 57 (.slice a n c) (.slice none n' c')).run Tryz.prog w=.ok (.bool a.isNone) w:=λ w a n c n' c'=>Lib.run_eql_slice_nil w _ _ a n c n' c' Tryz.underlying57
 have r31:∀ w, Sem.run Tryz.prog (underlying 57) w=.ok (TypeDesc.slice 64) w:=run_underlying Tryz.underlying57
 go_enter Tryz.func213, Tryz.ntmps213
 go_wp2
 go_ret
 exact ⟨rfl, rfl⟩

theorem yHe:∃ (inf:TypeInfo) (z:Value), Tryz.prog.info? 64=some inf/\inf.zero=some z/\inf.size=5/\z.cells.size=5/\inf.bytes<=2048:=by
 obtain ⟨hu, hF, hs0⟩:=yM (u:=t64) (y7D.shape (t:=57) (i:={ ty:=t57, elem:=64, fields:=[] }) (by kernel_rfl)) (.inl rfl)
 obtain ⟨inf, d, f1, f2, f3, f4, f5, f6⟩:=hF.ex
 refine ⟨inf, _, f1, f6, f3, ?_, f4⟩
 rw[y0S (yS _) (y1K _), size_toArray, yS]
 rfl

theorem y5J:yJi Tryz.prog 213 (64, t64):=by
 intro w p n c news hl hn hp hc h1
 obtain ⟨inf, z, i1, i2, i3, i4, i5⟩:=yHe
 cases p with
 |none =>
  have h0:=hp rfl
  subst h0
  have hnews:news=[]:=eq_nil_of_length_eq_zero (by simpa using hl)
  subst hnews
  refine (y9W 0 c w).mono ?_
  rintro e w' ⟨rfl, rfl⟩
  exact ⟨_, rfl, World.ownsRow_nil w' _ 64 _, Below.refl _ _⟩
 |some a=>exact y9Y inf z i1 i2 i3 i4 i5 a n c news w hl hn (λ j u hj=>hc a rfl j u hj) h1

theorem yRB:FnOK Tryz.prog z7_e:=by
 refine ⟨y08 213 Tryz.f213 (by kernel_rfl) (by kernel_rfl) (by kernel_rfl), λ A w x l y hG hA hx hm=>?_, λ q hq=>?_, λ q hq=>by cases hq⟩
 ·obtain ⟨xs, u⟩:=x
  obtain ⟨l1, l2, rfl, hx1, rfl⟩:=hx
  change (bif decide (List.length xs<=memMax)then some (xs, ())else none)=some y at hm
  cases hb:decide (List.length xs<=memMax)with
  |false=>rw[hb]at hm;cases hm
  |true =>
   rw[hb]at hm
   cases hm
   have hle:=of_decide_eq_true hb
   obtain ⟨p, c, m, rfl, hp0, hpc, hml, hmx, hmc⟩:∃ (p:Option Addr) (c:Nat) (m:List Value), l1=[.slice p (List.length xs) c]/\(p=none->List.length xs=0)/\(∀ ad, p=some ad->∀ j v, m[j]?=some v->w.cell? (ad.add j)=some v) /\
     m.length=List.length xs * t64.size/\(∀ v∈m, v.oneCell'=true)/\∀ (i:Nat) (x:t64.den), (xs:List t64.den)[i]?=some x->Cells Tryz.prog t64 A w x ((m.drop (i * t64.size)).take t64.size):=by
    rcases y02 hx1 with ⟨rfl, p, c, rfl⟩|⟨b1, off, c, m, rfl, hm1, hm2⟩
    ·exact ⟨p, c, [], rfl, λ _=>rfl, λ _ _ j v hj=>by simp at hj, by simp, λ v hv=>by simp at hv, λ i x hx=>by simp at hx⟩
    ·refine ⟨some ⟨b1, off, none⟩, c, m, rfl, (λ hp=>by cases hp), λ ad had j v hj=>?_, hm2.length, λ v hv=>yV (Cells.plain hm2 v hv), λ i x hx=>?_⟩
     ·cases had
      rw[yu]
      exact hm1 j v hj
     ·simp only[Cells]at hm2
      exact hm2.2.2 i x hx
   refine (show Calls Tryz.prog 213 #[.slice p (List.length xs) c] w _ from y5J w p (List.length xs) c m hml hle hp0 hpc hmx).mono ?_
   rintro ex w' ⟨v', rfl, ⟨_, hown⟩, hB⟩
   refine ⟨[v'], ?_, ⟨[v'], [], rfl, ?_, rfl⟩, hB⟩
   ·rfl
   rcases hown with ⟨rfl, hn0⟩|⟨gb, cap, cur, rfl, hgb, hg, hnc, hcm, hcs2, htk⟩
   ·have hys:xs=([]:List t64.den):=eq_nil_of_length_eq_zero hn0
    subst hys
    exact ⟨none, 0, rfl, le_refl _, zero_le _, λ i x hi=>by simp at hi⟩
   ·refine ⟨some ⟨gb, 0, none⟩, cap, rfl, hnc, hcm, λ i x hi=>?_⟩
    have hi1:i < List.length xs:=(List.getElem?_eq_some_iff.1 hi).1
    have hsz:i * t64.size+t64.size<=List.length xs * t64.size:=by rw[<- succ_mul];exact Nat.mul_le_mul_right _ hi1
    refine ⟨⟨gb, 0, none⟩, (m.drop (i * t64.size)).take t64.size, rfl, rfl, λ h=>lt_irrefl _ (Nat.lt_of_lt_of_le (hA _ h) hgb), yJ hg, λ j v hj=>?_, (hmc i x hi).mono (λ n hn _=>hB.block n hn) (λ n hn h=>h)⟩
    have hj2:j < t64.size:=by
     have:=(List.getElem?_eq_some_iff.1 hj).1
     simp only[length_take]at this
     omega
    rw[getElem?_take, if_pos hj2, getElem?_drop, <- htk, getElem?_take, if_pos (by show _ < List.length xs * t64.size;omega)]at hj
    simp only[World.cell?, hg]
    rw[zero_add, <- Array.getElem?_toList]
    exact hj
 ·cases hq
  exact y5J
/-! ### slices.Clone -/
noncomputable def z6_e:Entry:={ f:=218, args:=.pair t58 .unit, rS:=.pair t58 .unit, m:=λ x=>bif decide (List.length x.1<=memMax)then some (x.1, ())else none, own:=some (102, t102) }

set_option maxHeartbeats 2000000 in
theorem y9V(i0:TypeInfo)(z:Value)(hi:Tryz.prog.info? 102=some i0)(hz0:i0.zero=some z)(hz1:i0.size=2)(hzs:z.cells.size=2)
  (hz2:i0.bytes<=2048) (p:Addr) (n c:Nat) (news:List Value) (w:World) (hl:news.length=n * 2) (hn:n<=memMax)
  (hc:∀ j u, news[j]?=some u->w.cell? (p.add j)=some u) (h1:∀ u∈news, u.oneCell'=true) :
  Calls Tryz.prog 218 #[.slice (some p) n c] w λ e w'=>∃ v', e=.returned v'/\w'.ownsRow w.heap.size 102 2 v' n news/\Below w.heap.size w w':=by
 have hmx:n<=maxLen:=by simp only[memMax]at hn;simp only[maxLen];omega
 have hbig:n * i0.bytes<=140737488355328:=by
  have:n * i0.bytes<=68719476736 * 2048:=mul_le_mul hn hz2
  omega
 have A:Aside (∀ j u, news[j]?=some u->w.cell? (p.add j)=some u):=hc
 clear hc
 have mixed:=y1i
 have u31:=Tryz.underlying58;have a31:=Tryz.isAgg58;have z31:=Tryz.sizeOf58;have v31:=Tryz.zeroValue58
 have u4:=Tryz.underlying4;have a4:=Tryz.isAgg4;have z4:=Tryz.sizeOf4;have v4:=Tryz.zeroValue4
 have q31:∀ (w:World) (a:Option Addr) (n c n' c':Nat), (binOp .eql 58 (.slice a n c) (.slice none n' c')).run Tryz.prog w=.ok (.bool a.isNone) w:=λ w a n c n' c'=>Lib.run_eql_slice_nil w _ _ a n c n' c' Tryz.underlying58
 have r31:∀ w, Sem.run Tryz.prog (underlying 58) w=.ok (TypeDesc.slice 102) w:=run_underlying Tryz.underlying58
 go_enter Tryz.func218, Tryz.ntmps218
 go_wp2_with (at_builtin;refine wpList_append_own _ rfl _ _ 58 rfl w.heap.size 102 i0 z 2 i0.bytes Tryz.underlying58 hi hz0 hz1 rfl hzs (by decide) _ _ _ rfl (World.ownsRow_made w #[] 0 (le_refl _) (zero_le _) (by simp)) p n c news rfl ?qc1 ?qc2 ?qc3 ?qc4 ?qc5 ?qc6 ?_)
 case qc1=>exact hl
 case qc2 =>
  intro j u hj
  exact Lib.cell?_alloc_some _ (A.out j u hj)
 case qc3=>exact h1
 case qc4=>rw[zero_add];exact hmx
 case qc5=>rw[zero_add];exact hbig
 case qc6=>simp
 intro v' w1 hown hgrow hnil
 go_wp2
 go_ret
 refine ⟨v', rfl, by simpa using hown, ?_⟩
 exact ((Below.refl _ w).alloc (le_refl _) _).grown hgrow (by simp) (by intro k hk;simp[Value.ownBlock]at hk;omega)

theorem y9M(n c:Nat)(w:World):Calls Tryz.prog 218 #[.slice none n c] w λ e w'=>e=.returned (.slice none 0 0)/\w'=w:=by
 have mixed:=y1i
 have u31:=Tryz.underlying58;have a31:=Tryz.isAgg58;have z31:=Tryz.sizeOf58;have v31:=Tryz.zeroValue58
 have u4:=Tryz.underlying4;have a4:=Tryz.isAgg4;have z4:=Tryz.sizeOf4;have v4:=Tryz.zeroValue4
 have q31:∀ (w:World) (a:Option Addr) (n c n' c':Nat), (binOp .eql 58 (.slice a n c) (.slice none n' c')).run Tryz.prog w=.ok (.bool a.isNone) w:=λ w a n c n' c'=>Lib.run_eql_slice_nil w _ _ a n c n' c' Tryz.underlying58
 have r31:∀ w, Sem.run Tryz.prog (underlying 58) w=.ok (TypeDesc.slice 102) w:=run_underlying Tryz.underlying58
 go_enter Tryz.func218, Tryz.ntmps218
 go_wp2
 go_ret
 exact ⟨rfl, rfl⟩

theorem yIZ:∃ (inf:TypeInfo) (z:Value), Tryz.prog.info? 102=some inf/\inf.zero=some z/\inf.size=2/\z.cells.size=2/\inf.bytes<=2048:=by
 obtain ⟨hu, hF, hs0⟩:=yM (u:=t102) (y7D.shape (t:=58) (i:={ ty:=t58, elem:=102, fields:=[] }) (by kernel_rfl)) (.inl rfl)
 obtain ⟨inf, d, f1, f2, f3, f4, f5, f6⟩:=hF.ex
 refine ⟨inf, _, f1, f6, f3, ?_, f4⟩
 rw[y0S (yS _) (y1K _), size_toArray, yS]
 rfl

theorem y5z:yJi Tryz.prog 218 (102, t102):=by
 intro w p n c news hl hn hp hc h1
 obtain ⟨inf, z, i1, i2, i3, i4, i5⟩:=yIZ
 cases p with
 |none =>
  have h0:=hp rfl
  subst h0
  have hnews:news=[]:=eq_nil_of_length_eq_zero (by simpa using hl)
  subst hnews
  refine (y9M 0 c w).mono ?_
  rintro e w' ⟨rfl, rfl⟩
  exact ⟨_, rfl, World.ownsRow_nil w' _ 102 _, Below.refl _ _⟩
 |some a=>exact y9V inf z i1 i2 i3 i4 i5 a n c news w hl hn (λ j u hj=>hc a rfl j u hj) h1

theorem yRD:FnOK Tryz.prog z6_e:=by
 refine ⟨y08 218 Tryz.f218 (by kernel_rfl) (by kernel_rfl) (by kernel_rfl), λ A w x l y hG hA hx hm=>?_, λ q hq=>?_, λ q hq=>by cases hq⟩
 ·obtain ⟨xs, u⟩:=x
  obtain ⟨l1, l2, rfl, hx1, rfl⟩:=hx
  change (bif decide (List.length xs<=memMax)then some (xs, ())else none)=some y at hm
  cases hb:decide (List.length xs<=memMax)with
  |false=>rw[hb]at hm;cases hm
  |true =>
   rw[hb]at hm
   cases hm
   have hle:=of_decide_eq_true hb
   obtain ⟨p, c, m, rfl, hp0, hpc, hml, hmx, hmc⟩:∃ (p:Option Addr) (c:Nat) (m:List Value), l1=[.slice p (List.length xs) c]/\(p=none->List.length xs=0)/\(∀ ad, p=some ad->∀ j v, m[j]?=some v->w.cell? (ad.add j)=some v) /\
     m.length=List.length xs * t102.size/\(∀ v∈m, v.oneCell'=true)/\∀ (i:Nat) (x:t102.den), (xs:List t102.den)[i]?=some x->Cells Tryz.prog t102 A w x ((m.drop (i * t102.size)).take t102.size):=by
    rcases y02 hx1 with ⟨rfl, p, c, rfl⟩|⟨b1, off, c, m, rfl, hm1, hm2⟩
    ·exact ⟨p, c, [], rfl, λ _=>rfl, λ _ _ j v hj=>by simp at hj, by simp, λ v hv=>by simp at hv, λ i x hx=>by simp at hx⟩
    ·refine ⟨some ⟨b1, off, none⟩, c, m, rfl, (λ hp=>by cases hp), λ ad had j v hj=>?_, hm2.length, λ v hv=>yV (Cells.plain hm2 v hv), λ i x hx=>?_⟩
     ·cases had
      rw[yu]
      exact hm1 j v hj
     ·simp only[Cells]at hm2
      exact hm2.2.2 i x hx
   refine (show Calls Tryz.prog 218 #[.slice p (List.length xs) c] w _ from y5z w p (List.length xs) c m hml hle hp0 hpc hmx).mono ?_
   rintro ex w' ⟨v', rfl, ⟨_, hown⟩, hB⟩
   refine ⟨[v'], ?_, ⟨[v'], [], rfl, ?_, rfl⟩, hB⟩
   ·rfl
   rcases hown with ⟨rfl, hn0⟩|⟨gb, cap, cur, rfl, hgb, hg, hnc, hcm, hcs2, htk⟩
   ·have hys:xs=([]:List t102.den):=eq_nil_of_length_eq_zero hn0
    subst hys
    exact ⟨none, 0, rfl, le_refl _, zero_le _, λ i x hi=>by simp at hi⟩
   ·refine ⟨some ⟨gb, 0, none⟩, cap, rfl, hnc, hcm, λ i x hi=>?_⟩
    have hi1:i < List.length xs:=(List.getElem?_eq_some_iff.1 hi).1
    have hsz:i * t102.size+t102.size<=List.length xs * t102.size:=by rw[<- succ_mul];exact Nat.mul_le_mul_right _ hi1
    refine ⟨⟨gb, 0, none⟩, (m.drop (i * t102.size)).take t102.size, rfl, rfl, λ h=>lt_irrefl _ (Nat.lt_of_lt_of_le (hA _ h) hgb), yJ hg, λ j v hj=>?_, (hmc i x hi).mono (λ n hn _=>hB.block n hn) (λ n hn h=>h)⟩
    have hj2:j < t102.size:=by
     have:=(List.getElem?_eq_some_iff.1 hj).1
     simp only[length_take]at this
     omega
    rw[getElem?_take, if_pos hj2, getElem?_drop, <- htk, getElem?_take, if_pos (by show _ < List.length xs * t102.size;omega)]at hj
    simp only[World.cell?, hg]
    rw[zero_add, <- Array.getElem?_toList]
    exact hj
 ·cases hq
  exact y5z
end Go.Tw
end

section
set_option linter.all false
set_option maxRecDepth 1000000
namespace Go.Tw
open Go.Vx Go.Vx.B Go.Proofs Go.RowKit

theorem yBr(h3:0∈GT.ints){A:Nat->Prop}{w:World}(hG:GlobOK A w):∃ m, w.cell? ⟨0, 0, none⟩=some (.int .i64 m):=by
 obtain ⟨_, _, m, t, f, h⟩:=hG.ints 0 h3
 exact ⟨m, by simp[World.cell?, h]⟩
theorem ySC{b:Nat}(hb:b∈GT.ifs){A:Nat->Prop}{w:World}(hG:GlobOK A w):∃ tp p, w.cell? ⟨b, 0, none⟩=some (.iface tp p):=by
 obtain ⟨_, _, tp, p, t, f, h⟩:=hG.ifs b hb
 exact ⟨tp, p, by simp[World.cell?, h]⟩

/-! ### strings.Cut -/
noncomputable def cutM(s sep:List UInt8):Option (List UInt8×List UInt8×Bool×Unit):=
 bif decide (s.length < 4294967281)then some ((Lib.cut s sep).1, (Lib.cut s sep).2.1, (Lib.cut s sep).2.2, ())else none
noncomputable def z0g_e:Entry:={ f:=80, args:=.pair .str (.pair .str .unit), rS:=.pair .str (.pair .str (.pair .bool .unit)), m:=λ x=>cutM x.1 x.2.1 }

theorem y8D(h3:0∈GT.ints):FnOK Tryz.prog z0g_e:=by
 refine ⟨y08 80 Tryz.f80 (by kernel_rfl) (by kernel_rfl) (by kernel_rfl), λ A w x l y hG hA hx hm=>?_, λ q h=>(by cases h), λ q h=>(by cases h)⟩
 obtain ⟨s, p, u⟩:=x
 obtain ⟨l1, l2, rfl, rfl, l3, l4, rfl, rfl, rfl⟩:=hx
 change cutM s p=some y at hm
 unfold cutM at hm
 cases hb:decide (s.length < 4294967281)with
 |false=>rw[hb]at hm;cases hm
 |true =>
  rw[hb]at hm
  cases hm
  obtain ⟨m, hm3⟩:=yBr h3 hG
  refine (show Calls Tryz.prog 80 #[.string ⟨s.toArray⟩, .string ⟨p.toArray⟩] w _ from Tryz.strings_Cut ⟨s.toArray⟩ ⟨p.toArray⟩ m w (of_decide_eq_true hb) hm3).mono ?_
  rintro e w' ⟨rfl, n, rfl⟩
  exact ⟨[.string ⟨(Lib.cut s p).1.toArray⟩, .string ⟨(Lib.cut s p).2.1.toArray⟩, .bool (Lib.cut s p).2.2], rfl, ⟨[_], [_, _], rfl, rfl, [_], [_], rfl, rfl, [_], [], rfl, rfl, rfl⟩, ⟨rfl, rfl, rfl, le_refl _, λ _ _=>rfl⟩⟩

/-! ### strings.Split -/
noncomputable def yCj(s sep:List UInt8):List (List UInt8):=(Lib.splitB ⟨sep.toArray⟩ 0 (Lib.countB ⟨s.toArray⟩ ⟨sep.toArray⟩) ⟨s.toArray⟩).map (·.data.toList)
noncomputable def yHu(s sep:List UInt8):Option (List (List UInt8)×Unit):=
 bif decide (s.length < 4294967281) && decide (1<=sep.length) && decide ((yCj s sep).length=Lib.countB ⟨s.toArray⟩ ⟨sep.toArray⟩+1)then some (yCj s sep, ())else none
noncomputable def z0I_e:Entry:={ f:=52, args:=.pair .str (.pair .str .unit), rS:=.pair (.slice .str) .unit, m:=λ x=>yHu x.1 x.2.1 }

theorem y64(w:World)(o:Obj):(w.alloc o).heap[w.heap.size]?=some o:=by show (w.heap.push o)[w.heap.size]?=some o;exact Array.getElem?_push_size
theorem yFE(w:World)(o:Obj):w.heap.size < (w.alloc o).heap.size:=by show _ < (w.heap.push o).size;rw[Array.size_push];exact Nat.lt_succ_self _
theorem yGI(w:World)(cs:Array Value)(t:TypeId)(f:Nat×Nat)(j:Nat):(w.alloc (.cells cs t f)).cell? ⟨w.heap.size, j, none⟩=cs[j]?:=by simp only[World.cell?, y64];rfl

theorem y6V(h3:0∈GT.ints):FnOK Tryz.prog z0I_e:=by
 refine ⟨y08 52 Tryz.f52 (by kernel_rfl) (by kernel_rfl) (by kernel_rfl), λ A w x l y hG hA hx hm=>?_, λ q h=>(by cases h), λ q h=>(by cases h)⟩
 obtain ⟨s, p, u⟩:=x
 obtain ⟨l1, l2, rfl, rfl, l3, l4, rfl, rfl, rfl⟩:=hx
 change yHu s p=some y at hm
 unfold yHu at hm
 cases hb:(decide (s.length < 4294967281) && decide (1<=p.length) && decide ((yCj s p).length=Lib.countB ⟨s.toArray⟩ ⟨p.toArray⟩+1))with
 |false=>rw[hb]at hm;cases hm
 |true =>
  rw[hb]at hm
  cases hm
  simp only[and_eq_true, decide_eq_true_eq]at hb
  obtain ⟨⟨hs, h1⟩, hlen⟩:=hb
  obtain ⟨m, hm3⟩:=yBr h3 hG
  have hle:Lib.countB ⟨s.toArray⟩ ⟨p.toArray⟩<=s.length:=Lib.countB_le ⟨p.toArray⟩ h1 s.length ⟨s.toArray⟩ (le_refl _)
  refine (show Calls Tryz.prog 52 #[.string ⟨s.toArray⟩, .string ⟨p.toArray⟩] w _ from Tryz.strings_Split ⟨s.toArray⟩ ⟨p.toArray⟩ m w hs hm3 h1).mono ?_
  rintro e w' ⟨rfl, rfl⟩
  refine ⟨[.slice (some ⟨w.heap.size, 0, none⟩) (Lib.countB ⟨s.toArray⟩ ⟨p.toArray⟩+1) (Lib.countB ⟨s.toArray⟩ ⟨p.toArray⟩+1)], rfl, ⟨[_], [], rfl, ⟨some ⟨w.heap.size, 0, none⟩, Lib.countB ⟨s.toArray⟩ ⟨p.toArray⟩+1, by rw[<- hlen], by rw[<- hlen];exact le_refl _, ?_, λ i x hx=>?_⟩, rfl⟩, (Below.refl _ w).alloc (le_refl _) _⟩
  ·simp only[maxLen]
   omega
  ·refine ⟨⟨w.heap.size, 0, none⟩, [.string ⟨x.toArray⟩], rfl, rfl, λ h=>lt_irrefl _ (hA _ h), yFE w _, λ j v hj=>?_, rfl⟩
   cases j with
   |succ j=>simp at hj
   |zero =>
    simp only[List.getElem?_cons_zero, Option.some.injEq]at hj
    subst hj
    change (yCj s p)[i]?=some x at hx
    unfold yCj at hx
    rw[getElem?_map, map_eq_some_iff]at hx
    obtain ⟨z, hz, rfl⟩:=hx
    refine (yGI w _ _ _ _).trans ?_
    rw[show 0+i * Ty.str.size+0=i by show 0+i * 1+0=i;omega, List.getElem?_toArray, getElem?_map, hz]
    rfl

theorem yQR:FnOK Tryz.prog z0g_e:=y8D (List.mem_cons_self ..)
theorem yPP:FnOK Tryz.prog z0I_e:=y6V (List.mem_cons_self ..)
end Go.Tw
end

section
set_option linter.all false
set_option maxRecDepth 1000000
namespace Go.Tw
open Go.Vx Go.Vx.B Go.Proofs Go.RowKit

/-! ### strings.Repeat -/
noncomputable def yAv(s:List UInt8)(c:Int):Option (List UInt8×Unit):=
 bif decide (0<=c) && decide (c<=9223372036854775807) && decide (s.length * c.toNat<=140737488355328)then some (Lib.repeatL s c.toNat, ())else none
noncomputable def z08_e:Entry:={ f:=179, args:=.pair .str (.pair t3 .unit), rS:=.pair .str .unit, m:=λ x=>yAv x.1 x.2.1 }

theorem yQG:FnOK Tryz.prog z08_e:=by
 refine ⟨y08 179 Tryz.f179 (by kernel_rfl) (by kernel_rfl) (by kernel_rfl), λ A w x l y hG hA hx hm=>?_, λ q h=>(by cases h), λ q h=>(by cases h)⟩
 obtain ⟨s, c, u⟩:=x
 obtain ⟨l1, l2, rfl, rfl, l3, l4, rfl, rfl, rfl⟩:=hx
 change yAv s c=some y at hm
 unfold yAv at hm
 cases hb:(decide (0<=c) && decide (c<=9223372036854775807) && decide (s.length * c.toNat<=140737488355328))with
 |false=>rw[hb]at hm;cases hm
 |true =>
  rw[hb]at hm
  cases hm
  simp only[and_eq_true, decide_eq_true_eq]at hb
  obtain ⟨⟨h0, h1⟩, h2⟩:=hb
  have hc:((c.toNat:Nat):Int)=c:=Int.toNat_of_nonneg h0
  have h:=Tryz.strings_Repeat ⟨s.toArray⟩ c.toNat w (Int.toNat_le.2 h1) (by show s.toArray.size * c.toNat<=_;rw[size_toArray];exact h2)
  rw[hc]at h
  refine (show Calls Tryz.prog 179 #[.string ⟨s.toArray⟩, .int .i64 c] w _ from h).mono ?_
  rintro e w' ⟨rfl, hB⟩
  exact ⟨[.string ⟨(Lib.repeatL s c.toNat).toArray⟩], rfl, ⟨_, [], rfl, rfl, rfl⟩, hB⟩

/-! ### slices.BinarySearch -/
noncomputable def bsG(xs:List (List UInt8))(x:List UInt8):Nat:=Lib.bsGo (λ t=>Op.bytesLess (xs.getD t []) x) xs.length 0 xs.length
noncomputable def bsM(xs:List (List UInt8))(x:List UInt8):Option (Int×Bool×Unit):=
 bif decide (xs.length < 4611686018427387904)then some ((bsG xs x:Int), decide (bsG xs x < xs.length/\xs.getD (bsG xs x) []=x), ())else none
noncomputable def zA_e:Entry:={ f:=191, args:=.pair t38 (.pair t9 .unit), rS:=.pair t3 (.pair t4 .unit), m:=λ x=>bsM x.1 x.2.1 }

theorem y6v(x:List UInt8):(⟨x.toArray⟩:ByteArray).toList=x:=yGC x

theorem yR9:FnOK Tryz.prog zA_e:=by
 refine ⟨y08 191 Tryz.f191 (by kernel_rfl) (by kernel_rfl) (by kernel_rfl), λ A w x l y hG hA hx hm=>?_, λ q h=>(by cases h), λ q h=>(by cases h)⟩
 obtain ⟨xs, x, u⟩:=x
 obtain ⟨l1, l2, rfl, ⟨p, c, rfl, hc1, hc2, hel⟩, l3, l4, rfl, rfl, rfl⟩:=hx
 change bsM xs x=some y at hm
 unfold bsM at hm
 cases hb:decide (List.length xs < 4611686018427387904)with
 |false=>rw[hb]at hm;cases hm
 |true =>
  rw[hb]at hm
  cases hm
  have hb:=of_decide_eq_true hb
  show Calls Tryz.prog 191 #[.slice p (List.length xs) c, .string ⟨x.toArray⟩] w _
  cases xs with
  |nil =>
   refine (show Calls Tryz.prog 191 #[.slice p 0 c, .string ⟨x.toArray⟩] w _ from Any2.slices_BinarySearch_string_empty Tryz.laysNm226 p c ⟨x.toArray⟩ w).mono ?_
   rintro e w' ⟨rfl, rfl⟩
   refine ⟨[.int .i64 0, .bool false], rfl, ⟨[_], [_], rfl, ?_, [_], [], rfl, ?_, rfl⟩, Below.refl _ _⟩
   ·show [Value.int .i64 0]=[Value.int .i64 ((bsG [] x:Nat):Int)]
    have:bsG [] x=0:=by unfold bsG;simp[Lib.bsGo]
    rw[this];rfl
   ·show [Value.bool false]=[Value.bool _]
    simp
  |cons x0 xs =>
   obtain ⟨ad, l0, rfl, hsp, _, hlt, _⟩:=hel 0 x0 rfl
   obtain ⟨bk, o, sp⟩:=ad
   simp only at hsp hlt
   subst hsp
   have h:=Any2.slices_BinarySearch_string Tryz.laysNm226 bk o (List.length (x0::xs)) c (λ t=>⟨((x0::xs).getD t []).toArray⟩) ⟨x.toArray⟩ w hb (λ j hj=>by
    obtain ⟨ad1, l1, e1, _, _, _, h1, h2⟩:=hel j _ (getElem?_eq_getElem hj)
    cases e1
    simp only[Cells]at h2
    subst h2
    have h3:=h1 0 _ rfl
    rw[show o+j=o+j * Ty.str.size+0 by show o+j=o+j * 1+0;omega]
    rw[h3]
    simp only[List.getD_eq_getElem?_getD, getElem?_eq_getElem hj, Option.getD_some])
   have e2:(λ t=>Op.bytesLess (⟨((x0::xs).getD t []).toArray⟩:ByteArray).toList (⟨x.toArray⟩:ByteArray).toList)=λ t=>Op.bytesLess ((x0::xs).getD t []) x:=by
    funext t
    rw[y6v, y6v]
   rw[e2]at h
   have e3:∀ n:Nat, ((n < List.length (x0::xs)/\(⟨((x0::xs).getD n []).toArray⟩:ByteArray)=⟨x.toArray⟩) ↔ (n < List.length (x0::xs)/\(x0::xs).getD n []=x)):=λ n=>by
    constructor
    ·rintro ⟨h1, h2⟩
     refine ⟨h1, ?_⟩
     have:=congrArg (λ b:ByteArray=>b.data.toList) h2
     simpa using this
    ·rintro ⟨h1, h2⟩
     exact ⟨h1, by rw[h2]⟩
   have e4:∀ n:Nat, decide (n < List.length (x0::xs)/\(⟨((x0::xs).getD n []).toArray⟩:ByteArray)=⟨x.toArray⟩)=decide (n < List.length (x0::xs)/\(x0::xs).getD n []=x):=λ n=>by
    by_cases hp:n < List.length (x0::xs)/\(x0::xs).getD n []=x
    ·rw[decide_eq_true hp, decide_eq_true ((e3 n).2 hp)]
    ·rw[decide_eq_false hp, decide_eq_false (λ hh=>hp ((e3 n).1 hh))]
   simp only[e4]at h
   refine (show Calls Tryz.prog 191 #[.slice (some ⟨bk, o, none⟩) (List.length (x0::xs)) c, .string ⟨x.toArray⟩] w _ from h).mono ?_
   rintro e w' ⟨rfl, q, rfl⟩
   refine ⟨[.int .i64 (bsG (x0::xs) x:Nat), .bool (decide (bsG (x0::xs) x < List.length (x0::xs)/\(x0::xs).getD (bsG (x0::xs) x) []=x))], rfl, ⟨[_], [_], rfl, rfl, [_], [], rfl, rfl, rfl⟩, ⟨rfl, rfl, rfl, le_refl _, λ _ _=>rfl⟩⟩

/-! ### Rows that are written -/
theorem y0d(b:Nat):∀ (vs:List Value) (o:Nat) (w:World) (cs:Array Value) (t:TypeId) (f:Nat×Nat), w.heap[b]?=some (.cells cs t f) ->
  ∃ cs', (w.setCells b o vs).heap[b]?=some (.cells cs' t f)/\cs'.size=cs.size/\(∀ j, j < cs.size->cs'[j]?=if o<=j/\j < o+vs.length then vs[j - o]? else cs[j]?) /\
   (∀ n, n≠b->(w.setCells b o vs).heap[n]?=w.heap[n]?)/\(w.setCells b o vs).heap.size=w.heap.size/\(w.setCells b o vs).os=w.os/\(w.setCells b o vs).tape=w.tape/\(w.setCells b o vs).output=w.output
 |[], o, w, cs, t, f, h=>⟨cs, h, rfl, λ j hj=>by rw[if_neg (by simp)], λ _ _=>rfl, rfl, rfl, rfl, rfl⟩
 |v::vs, o, w, cs, t, f, h=>by
  have h1:(w.setCell ⟨b, o, none⟩ v).heap[b]?=some (.cells (cs.setIfInBounds o v) t f):=by
   simp[World.setCell, Array.getElem?_modify, h]
  obtain ⟨cs', g1, g2, g3, g4, g5, g6, g7, g8⟩:=y0d b vs (o+1) _ _ _ _ h1
  refine ⟨cs', g1, by rw[g2];simp, λ j hj=>?_, λ n hn=>?_, by rw[World.setCells, g5];simp[World.setCell], g6, g7, g8⟩
  ·rw[g3 j (by simpa using hj)]
   by_cases ho:o=j
   ·subst ho
    rw[if_neg (by omega), if_pos ⟨le_refl _, by simp⟩, sub_self, List.getElem?_cons_zero, Array.getElem?_setIfInBounds_self_of_lt hj]
   ·by_cases hr:o+1<=j/\j < o+1+vs.length
    ·rw[if_pos hr, if_pos (by simp;omega), show j - o=(j - (o+1))+1 by omega, List.getElem?_cons_succ]
    ·rw[if_neg hr, if_neg (by simp;omega), Array.getElem?_setIfInBounds_ne ho]
  ·rw[World.setCells, g4 n hn]
   simp only[World.setCell, Array.getElem?_modify]
   rw[if_neg (λ e=>hn e.symm)]

/-! ### slices.Insert, Delete -/
def strV(s:List UInt8):Value:=.string ⟨s.toArray⟩

theorem y4K(xs:List (List UInt8))(i:Nat)(x:List UInt8)(hi:i<=xs.length)(j:Nat):(y79 xs i x)[j]?=if j < i then xs[j]? else if j=i then some x else xs[j - 1]?:=by
 unfold y79
 rw[List.getElem?_append]
 have hl:(xs.take i).length=i:=by simp;omega
 rw[hl]
 split
 ·rename_i h;rw[getElem?_take, if_pos h]
 ·rename_i h
  split
  ·rename_i e;subst e;simp
  ·rename_i e
   rw[show j - i=(j - i - 1)+1 by omega, List.getElem?_cons_succ, getElem?_drop]
   congr 1
   omega

theorem yQ0(xs:List (List UInt8))(i j:Nat)(hij:i < j)(hj:j<=xs.length)(k:Nat):(y90 xs i j)[k]?=if k < i then xs[k]? else xs[k+(j - i)]?:=by
 unfold y90
 rw[List.getElem?_append]
 have hl:(xs.take i).length=i:=by simp;omega
 rw[hl]
 split
 ·rename_i h;rw[getElem?_take, if_pos h]
 ·rename_i h
  rw[getElem?_drop]
  congr 1
  omega

theorem yGH{w:World}{b:Nat}{cs:Array Value}{e:TypeId}{xs:List (List UInt8)}(hg:w.heap[b]?=some (.cells cs e (0, 0)))(hr:y4N xs cs):∀ j v, (xs.map strV)[j]?=some v->w.cell? ⟨b, 0+j, none⟩=some v:=λ j v hj=>by
 rw[getElem?_map, map_eq_some_iff]at hj
 obtain ⟨s, hs, rfl⟩:=hj
 simp only[World.cell?, hg, zero_add]
 exact hr j s hs

theorem yFV{xs:List (List UInt8)}:∀ v∈xs.map strV, v.oneCell'=true:=λ v hv=>by
 obtain ⟨s, _, rfl⟩:=List.mem_map.1 hv
 rfl

theorem yPL:yOa Tryz.prog 192 9:=by
 refine ⟨y08 192 Tryz.f192 (by kernel_rfl) (by kernel_rfl) (by kernel_rfl), λ w blk cap xs cs vb vcap x vs ve i h0 h1 hv hv0 hne hcap hmx hi hm=>?_⟩
 have hm':xs.length < 68719476736:=hm
 have hvs:∀ j v, [strV x][j]?=some v->w.cell? ⟨vb, 0+j, none⟩=some v:=λ j v hj=>by
  cases j with
  |zero=>cases hj;simp only[World.cell?, hv];exact hv0
  |succ j=>simp at hj
 have h1v:∀ v∈[strV x], v.oneCell'=true:=λ v hv=>by rw[List.mem_singleton]at hv;subst hv;rfl
 cases blk with
 |none =>
  obtain ⟨rfl, rfl⟩:=h0 rfl
  have hi0:i=0:=by simpa using hi
  subst hi0
  have h:=Any2.slices_Insert_string_end_grow Tryz.laysNm222 none 0 0 vb 0 1 vcap [] [strV x] w (by omega) (by omega) (by omega) (by omega) rfl rfl (λ _=>rfl) (λ a ha=>by cases ha) hvs h1v
  refine (show Calls Tryz.prog 192 #[.slice none 0 0, .int .i64 (0:Nat), .slice (some ⟨vb, 0, none⟩) 1 vcap] w _ from h).mono ?_
  rintro ex w' ⟨rfl, rfl⟩
  refine ⟨w.heap.size, _, _, rfl, y64 w.drew _, ?_, grownCap_ge .., grownCap_le_maxLen _ _ _ _ (by simp only[maxLen];omega), λ j s hj=>?_, .inr (le_refl _), (let g:=World.grownBy_alloc w.drew _ _;⟨g.os, g.tape, g.output, g.size, g.block⟩)⟩
  ·simp only[List.nil_append, Array.size_append, size_toArray, List.length_singleton, size_zeroCells]
   have:=grownCap_ge w (0+1) 0 (Tryz.laysNm222_ren.t 9)
   show 1+(_ - (0+1)) * 1=_
   omega
  ·rw[y4K [] 0 x (le_refl _)]at hj
   cases j with
   |zero =>
    simp at hj
    subst hj
    rw[Array.getElem?_append_left (by simp)]
    rfl
   |succ j=>simp at hj
 |some b =>
  obtain ⟨hg, hsz, hrow⟩:=h1 b rfl
  have hcs:=yGH hg hrow
  have hcl:(xs.map strV).length=xs.length:=by simp
  by_cases hin:i=xs.length
  ·subst hin
   by_cases hroom:xs.length+1<=cap
   ·have h:=Any2.slices_Insert_string_end_room Tryz.laysNm222 b 0 xs.length cap vb 0 1 vcap [strV x] w (by omega) hroom (by simp only[maxLen]at hmx;omega) rfl (λ j hj=>by
     simp only[World.cell?, hg]
     rw[Array.getElem?_eq_getElem (by omega)]
     rfl) (λ j hj=>by simp[World.frozen?, hg]) hvs h1v
    refine (show Calls Tryz.prog 192 #[.slice (some ⟨b, 0, none⟩) xs.length cap, .int .i64 xs.length, .slice (some ⟨vb, 0, none⟩) 1 vcap] w _ from h).mono ?_
    rintro ex w' ⟨rfl, rfl⟩
    obtain ⟨cs', g1, g2, g3, g4, g5, g6, g7, g8⟩:=y0d b [strV x] (0+xs.length) w cs 9 (0, 0) hg
    refine ⟨b, cap, cs', rfl, g1, by rw[g2, hsz], hroom, hmx, λ j s hj=>?_, .inl rfl, ⟨g6, g7, g8, le_of_eq g5.symm, λ n _ hn=>g4 n (λ e=>hn (by rw[e]))⟩⟩
    rw[y4K xs xs.length x (le_refl _)]at hj
    have hjl:j < cs.size:=by
     split at hj
     ·omega
     ·split at hj
      ·omega
      ·have:=(List.getElem?_eq_some_iff.1 hj).1
       omega
    rw[g3 j hjl]
    split at hj
    ·rw[if_neg (by omega)];exact hrow j s hj
    ·split at hj
     ·rename_i e;subst e;cases hj;rw[if_pos (by simp)];simp[strV]
     ·have:=(List.getElem?_eq_some_iff.1 hj).1
      omega
   ·have hc:cap=xs.length:=by omega
    have h:=Any2.slices_Insert_string_end_grow Tryz.laysNm222 (some ⟨b, 0, none⟩) xs.length cap vb 0 1 vcap (xs.map strV) [strV x] w (by omega) hcap (by omega) (by omega) hcl rfl (λ h=>by cases h) (λ a ha j v hj=>by cases ha;rw[yu];exact hcs j v hj) hvs h1v
    refine (show Calls Tryz.prog 192 #[.slice (some ⟨b, 0, none⟩) xs.length cap, .int .i64 xs.length, .slice (some ⟨vb, 0, none⟩) 1 vcap] w _ from h).mono ?_
    rintro ex w' ⟨rfl, rfl⟩
    refine ⟨w.heap.size, _, _, rfl, y64 w.drew _, ?_, grownCap_ge .., grownCap_le_maxLen _ _ _ _ (by simp only[maxLen];omega), λ j s hj=>?_, .inr (le_refl _), (let g:=World.grownBy_alloc w.drew _ _;⟨g.os, g.tape, g.output, g.size, g.block⟩)⟩
    ·simp only[Array.size_append, size_toArray, List.length_append, length_map, List.length_singleton, size_zeroCells]
     have:=grownCap_ge w (xs.length+1) cap (Tryz.laysNm222_ren.t 9)
     show xs.length+1+(_ - (xs.length+1)) * 1=_
     omega
    ·have hjx:j < xs.length+1:=by
      have:=(List.getElem?_eq_some_iff.1 hj).1
      rwa[y2g xs xs.length x (le_refl _)]at this
     rw[y4K xs xs.length x (le_refl _)]at hj
     rw[Array.getElem?_append_left (by simp;omega), List.getElem?_toArray, List.getElem?_append]
     split at hj
     ·rename_i hlt
      rw[if_pos (by simpa using hlt), getElem?_map, hj]
      rfl
     ·split at hj
      ·rename_i e;subst e;cases hj
       rw[if_neg (by simp), length_map, sub_self]
       rfl
      ·omega
  ·have hlt:i < xs.length:=by omega
   by_cases hroom:xs.length+1<=cap
   ·have h:=Any2.slices_Insert_string_shift Tryz.laysNm222 b 0 xs.length cap i vb 0 1 vcap (xs.map strV) [strV x] w hlt (by omega) hroom (by simp only[maxLen]at hmx;omega) (λ e=>hne (by rw[e])) hcl rfl hcs (λ j hj=>by
     simp only[World.cell?, hg]
     rw[Array.getElem?_eq_getElem (by omega)]
     rfl) (λ j hj=>by simp[World.frozen?, hg]) hvs yFV h1v ve 9 vs.size cs.size (by simp[World.shape?, hv]) (by simp[World.shape?, hg]) (by omega) (by simp[World.frozen?, hv]) (by simp[World.frozen?, hv])
    refine (show Calls Tryz.prog 192 #[.slice (some ⟨b, 0, none⟩) xs.length cap, .int .i64 i, .slice (some ⟨vb, 0, none⟩) 1 vcap] w _ from h).mono ?_
    rintro ex w' ⟨rfl, rfl⟩
    obtain ⟨c1, g1, g2, g3, g4, g5, g6, g7, g8⟩:=y0d b ((xs.map strV).drop i) (0+(i+1)) w.drew cs 9 (0, 0) hg
    obtain ⟨c2, k1, k2, k3, k4, k5, k6, k7, k8⟩:=y0d b [strV x] (0+i) _ c1 9 (0, 0) g1
    refine ⟨b, cap, c2, rfl, k1, by rw[k2, g2, hsz], hroom, hmx, λ j s hj=>?_, .inl rfl, ⟨k6.trans g6, k7.trans g7, k8.trans g8, le_of_eq (k5.trans g5).symm, λ n _ hn=>(k4 n (λ e=>hn (by rw[e]))).trans (g4 n (λ e=>hn (by rw[e])))⟩⟩
    have hjx:j < xs.length+1:=by
     have:=(List.getElem?_eq_some_iff.1 hj).1
     rwa[y2g xs i x hi]at this
    rw[y4K xs i x hi]at hj
    rw[k3 j (by omega), g3 j (by omega)]
    simp only[List.length_singleton, List.length_drop, length_map, zero_add]
    split at hj
    ·rw[if_neg (by omega), if_neg (by omega)];exact hrow j s hj
    ·split at hj
     ·rename_i e;subst e;cases hj;rw[if_pos (by omega), sub_self];rfl
     ·rw[if_neg (by omega), if_pos (by omega), getElem?_drop, getElem?_map, show i+(j - (i+1))=j - 1 by omega, hj]
      rfl
   ·have hc:cap=xs.length:=by omega
    have h:=Any2.slices_Insert_string_grow Tryz.laysNm222 b 0 xs.length cap i vb 0 1 vcap (xs.map strV) [strV x] w hlt (by omega) hcap (by omega) (by omega) hcl rfl hcs hvs yFV h1v
    refine (show Calls Tryz.prog 192 #[.slice (some ⟨b, 0, none⟩) xs.length cap, .int .i64 i, .slice (some ⟨vb, 0, none⟩) 1 vcap] w _ from h).mono ?_
    rintro ex w' ⟨rfl, rfl⟩
    have hge:=grownCap_ge w (xs.length+1) cap (Tryz.laysNm222_ren.t 9)
    have hsz0:(((xs.map strV).take i).toArray++Builtin.zeroCells (Value.string ⟨#[]⟩).cells (xs.length+1 - i)++Builtin.zeroCells (Value.string ⟨#[]⟩).cells (grownCap w (xs.length+1) cap (Tryz.laysNm222_ren.t 9) - (xs.length+1))).size=grownCap w (xs.length+1) cap (Tryz.laysNm222_ren.t 9):=by
     simp only[Array.size_append, size_toArray, length_take, length_map, size_zeroCells]
     show min i xs.length+(xs.length+1 - i) * 1+(_ - (xs.length+1)) * 1=_
     omega
    generalize hbig:(((xs.map strV).take i).toArray++Builtin.zeroCells (Value.string ⟨#[]⟩).cells (xs.length+1 - i)++Builtin.zeroCells (Value.string ⟨#[]⟩).cells (grownCap w (xs.length+1) cap (Tryz.laysNm222_ren.t 9) - (xs.length+1)))=big at hsz0
    have hb0:∀ j, j < i->big[j]?=(xs.map strV)[j]?:=λ j hj=>by
     rw[<- hbig, Array.append_assoc, Array.getElem?_append_left (by simp;omega), List.getElem?_toArray, getElem?_take, if_pos hj]
    have ga:=y64 w (.cells big 9)
    obtain ⟨c1, g1, g2, g3, g4, g5, g6, g7, g8⟩:=y0d w.heap.size [strV x] i ((w.alloc (.cells big 9)).drew) big 9 (0, 0) ga
    obtain ⟨c2, k1, k2, k3, k4, k5, k6, k7, k8⟩:=y0d w.heap.size ((xs.map strV).drop i) (i+1) (((w.alloc (.cells big 9)).drew.setCells w.heap.size i [strV x]).drew) c1 9 (0, 0) g1
    have gr:=World.grownBy_alloc w (.cells big 9) (some b)
    have hpos:w.heap.size < (w.alloc (.cells big 9)).heap.size:=yFE w _
    refine ⟨w.heap.size, _, c2, rfl, k1, by rw[k2, g2, hsz0], hge, grownCap_le_maxLen _ _ _ _ (by simp only[maxLen];omega), λ j s hj=>?_, .inr (le_refl _), ⟨k6.trans (g6.trans gr.os), k7.trans (g7.trans gr.tape), k8.trans (g8.trans gr.output), Nat.le_trans (Nat.le_of_lt hpos) (le_of_eq (k5.trans g5).symm), λ n hn hnb=>((k4 n (by omega)).trans (g4 n (by omega))).trans (gr.block n hn hnb)⟩⟩
    have hjx:j < xs.length+1:=by
     have:=(List.getElem?_eq_some_iff.1 hj).1
     rwa[y2g xs i x hi]at this
    rw[y4K xs i x hi]at hj
    rw[k3 j (by omega), g3 j (by omega)]
    simp only[List.length_singleton, List.length_drop, length_map]
    split at hj
    ·rename_i hji
     rw[if_neg (by omega), if_neg (by omega), hb0 j hji, getElem?_map, hj]
     rfl
    ·split at hj
     ·rename_i e;subst e;cases hj;rw[if_neg (by omega), if_pos (by omega), sub_self];rfl
     ·rw[if_pos (by omega), getElem?_drop, getElem?_map, show i+(j - (i+1))=j - 1 by omega, hj]
      rfl

theorem yPf:yOM Tryz.prog 193 9:=by
 refine ⟨y08 193 Tryz.f193 (by kernel_rfl) (by kernel_rfl) (by kernel_rfl), λ w b cap xs cs i j hg hsz hrow hcap hmx hij hj=>?_⟩
 have h:=Tryz.slices_Delete_string_cells b 0 xs.length cap i j (λ t=>⟨(xs.getD t []).toArray⟩) w hcap (by simp only[maxLen]at hmx;omega) (by omega) hj (λ k hk=>by
  simp only[World.cell?, hg, zero_add]
  rw[hrow k _ (getElem?_eq_getElem hk)]
  have:xs.getD k []=xs[k]:=by simp only[List.getD_eq_getElem?_getD, getElem?_eq_getElem hk, Option.getD_some]
  rw[this]
  rfl) (λ k hk=>by simp[World.frozen?, hg])
 refine h.mono ?_
 rintro ex w' ⟨rfl, q, rfl⟩
 have e1:Lib.strsOf (λ t=>(⟨(xs.getD t []).toArray⟩:ByteArray)) xs.length=xs:=by
  unfold Lib.strsOf
  apply List.ext_getElem?
  intro k
  rw[getElem?_map]
  by_cases hk:k < xs.length
  ·rw[List.getElem?_range hk, getElem?_eq_getElem hk]
   simp[getElem?_eq_getElem hk]
  ·rw[List.getElem?_eq_none (by simpa using hk), List.getElem?_eq_none (by omega)]
   rfl
 rw[e1]
 obtain ⟨cs', g1, g2, g3, g4, g5, g6, g7, g8⟩:=y0d b ((xs.take i++xs.drop j++List.replicate (j - i) []).map encStr) 0 (w.drewN q) cs 9 (0, 0) hg
 refine ⟨cs', rfl, g1, by rw[g2, hsz], λ k s hk=>?_, ⟨g6, g7, g8, le_of_eq g5.symm, λ n _ hn=>g4 n (λ e=>hn (by rw[e]))⟩⟩
 have hkl:=(List.getElem?_eq_some_iff.1 hk).1
 rw[y6e xs i j hij hj]at hkl
 rw[g3 k (by omega), if_pos ⟨zero_le _, by simp;omega⟩, Nat.sub_zero, getElem?_map]
 have e2:(xs.take i++xs.drop j++List.replicate (j - i) [])[k]?=some s:=by
  rw[List.getElem?_append_left (by simp;omega)]
  exact hk
 rw[e2]
 rfl
end Go.Tw
end

section
set_option linter.all false
set_option maxRecDepth 1000000
namespace Go.Tw
open Go.Vx Go.Vx.B Go.Proofs Go.RowKit

theorem yNb:RdOK Tryz.prog 116 (.part [([115, 101, 97], 5), ([98, 97, 115, 105, 110], 6)]):=by
 intro w b off s
 have mixed:=y1i
 have u60:=Tryz.underlying60;have z60:=Tryz.sizeOf60
 simp only[List.find?_cons, List.find?_nil]
 by_cases h1:(s == [115, 101, 97])=true
 ·rw[h1]
  dsimp only
  go_enter Tryz.func116, Tryz.ntmps116
  go_wp2
  go_ret
  exact ⟨rfl, Below.refl _ _⟩
 ·have h1':(s == [115, 101, 97])=false:=by simpa using h1
  rw[h1']
  by_cases h2:(s == [98, 97, 115, 105, 110])=true
  ·rw[h2]
   dsimp only
   go_enter Tryz.func116, Tryz.ntmps116
   go_wp2
   go_ret
   exact ⟨rfl, Below.refl _ _⟩
  ·have h2':(s == [98, 97, 115, 105, 110])=false:=by simpa using h2
   rw[h2']
   dsimp only
   go_enter Tryz.func116, Tryz.ntmps116
   go_wp2
   all_goals first|(go_ret;exact ⟨rfl, Below.refl _ _⟩)|trace_state

section
variable {P:Program} {ops:Array Oper} {w:World}
theorem y83{Q:Act->Prop}{a:Act}{o:Oper}{rest:List Oper}{v:Value}(hg:o.guard=none)(hr:(execOp a.eval o).run P w=.ok (.value v) w)(h:wpStill P ops w Q rest (a.put o.dst v)):wpStill P ops w Q (o::rest) a:=by
 refine wpStill_step λ K hK=>?_
 have hw:Region.wanted o (yielded ops a.tmps)=true:=by unfold Region.wanted;rw[hg]
 rw[if_pos hw]
 unfold Oper.still
 rw[hr]
 exact ⟨rfl, hK _ h⟩
end

section
variable {P:Program} {ops:Array Oper} {Q:Exit->Act->World->Prop} {a:Act} {w w':World} {rest:List Oper} {o:Oper}
theorem yL8(hg:o.guard=none)(hd:o.dst=none)(hr:(execOp a.eval o).run P w=.ok .skip w')(h:wpList P ops Q rest a w'):wpList P ops Q (o::rest) a w:=by
 have hw:Region.wanted o (yielded ops a.tmps)=true:=by unfold Region.wanted;rw[hg]
 unfold wpList
 rw[if_pos hw]
 refine Or.inl ?_
 unfold Oper.wp
 rw[hr]
 show wpList P ops Q rest (a.put o.dst undef) w'
 rw[hd]
 exact h
end

theorem yR5:RdOK Tryz.prog 77 (.last 2 t60):=by
 intro w b off pb po n c l h0 h1 h2 h3 h4 h5
 match l, h3, h4, h5 with
 |[c0, c1, c2, c3, c4, c5, c6, c7, c8, c9, c10, c11], h3, h4, h5 =>
 generalize hl:[c0, c1, c2, c3, c4, c5, c6, c7, c8, c9, c10, c11]=l at h3 h4 h5 ⊢
 have mixed:=y1i
 have u130:=Tryz.underlying130;have z130:=Tryz.sizeOf130
 have u128:=Tryz.underlying128;have z128:=Tryz.sizeOf128;have a128:=Tryz.isAgg128
 have u60:=Tryz.underlying60;have z60:=Tryz.sizeOf60;have a60:=Tryz.isAgg60;have v60:=Tryz.zeroValue60
 have u22:=Tryz.underlying22
 go_enter Tryz.func77, Tryz.ntmps77
 go_wp2
 have hal:∀ (o:Obj) (q:Addr) (v:Value), w.cell? q=some v->(w.alloc o).cell? q=some v:=λ o q v h=>Lib.cell?_alloc_some _ h
 generalize hW:w.alloc _=W
 have hB:Below w.heap.size w W:=by rw[<- hW];exact (Below.refl _ w).alloc (le_refl _) _
 have e0:W.cell? ⟨b, off+2, none⟩=some (.slice (some ⟨pb, po, none⟩) n c):=by rw[<- hW];exact hal _ _ _ h0
 have d0:yO W pb (po+(n - 1) * 12) l:=λ j v hj=>by rw[<- hW];exact hal _ _ _ (h4 j v hj)
 have hR:W.heap[w.heap.size]?=some (.cells #[Value.int i64 0, Value.int i64 0, Value.int i64 0, Value.int i64 0,
   Value.int i64 0, Value.int i64 0, Value.int i64 0, Value.string { data:=#[] },
   Value.int i64 0, Value.slice none 0 0, Value.slice none 0 0, Value.slice none 0 0] 60 (0, 0)):=by rw[<- hW];exact y64 w _
 clear hW hal
 refine wp_region_still_tail 12 (by kernel_rfl) (by kernel_rfl) ?_
 simp only[List.take_succ_cons, List.take_zero, List.drop_succ_cons, List.drop_zero]
 generalize hD:({ heap:=W.heap, tape:=W.tape, drawn:=W.drawn+1, os:=W.os, output:=W.output }:World)=D
 have e1:D.cell? ⟨b, off+2, none⟩=some (.slice (some ⟨pb, po, none⟩) n c):=by rw[<- hD];exact e0
 have d1:yO D pb (po+(n - 1) * 12) l:=by rw[<- hD];exact d0
 have hR1:D.heap[w.heap.size]?=some (.cells #[Value.int i64 0, Value.int i64 0, Value.int i64 0, Value.int i64 0,
   Value.int i64 0, Value.int i64 0, Value.int i64 0, Value.string { data:=#[] },
   Value.int i64 0, Value.slice none 0 0, Value.slice none 0 0, Value.slice none 0 0] 60 (0, 0)):=by rw[<- hD];exact hR
 have hB1:Below w.heap.size w D:=by rw[<- hD];exact ⟨hB.os, hB.tape, hB.output, hB.size, hB.block⟩
 clear hD e0 d0 hR hB
 have hn1:i64.wrap ((n:Int) - 1)=((n - 1:Nat):Int):=by
  simp only[maxLen]at h2
  rw[show ((n:Int) - 1)=((n - 1:Nat):Int) by omega]
  rw[IntKind.wrap_i64]
  omega
 have hF:Fits Tryz.prog 60 t60:=y7D.fits (t:=60) (i:={ ty:=t60, fields:=[(0, 3), (1, 33), (3, 3), (4, 3), (5, 3), (6, 3), (7, 9), (8, 3), (9, 57), (10, 38), (11, 58)] }) (by kernel_rfl)
 have hix:(Instr.indexAt 128 (.slice (some ⟨pb, po, none⟩) n c) (.int .i64 ((n - 1:Nat):Int))).run Tryz.prog D=.ok (.pointer (some ⟨pb, po+(n - 1) * 12, none⟩)) D:=by
  have:=Vx.y0w (P:=Tryz.prog) (w:=D) (t:=128) (e:=60) (k:=.i64) (n:=((n - 1:Nat):Int)) (b:=pb) (off:=po) (len:=n) (c:=c) (u:=t60) Tryz.underlying128 hF (by omega) (by omega)
  rw[this, Int.toNat_natCast]
  rfl
 subst hl
 have hld:(Instr.loadAt 60 (.pointer (some ⟨pb, po+(n - 1) * 12, none⟩))).run Tryz.prog D=.ok (.agg #[c0, c1, c2, c3, c4, c5, c6, c7, c8, c9, c10, c11]) D:=
  y1s (P:=Tryz.prog) (w:=D) hF h3 d1
 still_step
 still_step
 still_step
 still_step
 still_step
 still_step
 still_step
 still_step
 still_step
 refine y83 rfl (v:=.int .i64 ((n - 1:Nat):Int)) (by
  go_simp) ?_
 refine y83 rfl (v:=.pointer (some ⟨pb, po+(n - 1) * 12, none⟩)) (by
  simp only[execOp, Act.eval, Act.put, Sem.run_bind]
  exact (congrArg (λ r=>Result.andThen r _) hix)) ?_
 refine y83 rfl (v:=.agg #[c0, c1, c2, c3, c4, c5, c6, c7, c8, c9, c10, c11]) (by
  simp only[execOp, Act.eval, Act.put, Sem.run_bind]
  exact (congrArg (λ r=>Result.andThen r _) hld)) ?_
 refine wpStill_nil ?_
 have hst:=y0K (P:=Tryz.prog) (w:=D) hF (v:=.agg #[c0, c1, c2, c3, c4, c5, c6, c7, c8, c9, c10, c11]) (l:=[c0, c1, c2, c3, c4, c5, c6, c7, c8, c9, c10, c11]) (b:=w.heap.size) (off:=0) rfl h3 h5 hR1 (by simp)
 simp only[List.take_zero, List.nil_append]at hst
 rw[show (List.drop (0+[c0, c1, c2, c3, c4, c5, c6, c7, c8, c9, c10, c11].length) _:List Value)=[]from rfl]at hst
 simp only[List.append_nil]at hst
 generalize hZ:D.setRow w.heap.size _=Z at hst
 have hZr:Z.heap[w.heap.size]?=some (.cells #[c0, c1, c2, c3, c4, c5, c6, c7, c8, c9, c10, c11] 60 (0, 0)):=by
  rw[<- hZ]
  simp[World.setRow, Array.getElem?_modify, hR1]
 have hZB:Below w.heap.size w Z:=by
  rw[<- hZ]
  refine ⟨hB1.os, hB1.tape, hB1.output, by rw[y1H];exact hB1.size, λ n hn=>?_⟩
  rw[setRow_other D w.heap.size n _ (by omega)]
  exact hB1.block n hn
 have hs:∀ k x, (#[c0, c1, c2, c3, c4, c5, c6, c7, c8, c9, c10, c11]:Array Value)[k]?=some x->Z.cell? ⟨w.heap.size, k, none⟩=some x:=λ k x hx=>by
  simp only[World.cell?, hZr]
  exact hx
 clear hZ
 refine yL8 rfl rfl (w':=Z) (by
  simp only[execOp, Act.eval, Act.put, Sem.run_bind]
  exact (congrArg (λ r=>Result.andThen r _) hst)) ?_
 simp only[Act.put]
 go_simp
 go_wp2
 try simp only[Exit.inBlock, Exit.then]
 refine bodyPost_ret (results_cell_row (P:=Tryz.prog) (p:=2) (ty:=60) rfl _ _ w.heap.size 60 #[c0, c1, c2, c3, c4, c5, c6, c7, c8, c9, c10, c11] (0, 0) _ rfl hZr u60 rfl rfl) rfl ?_
 exact ⟨rfl, hZB⟩

noncomputable def ze_e:Entry:={ f:=77, args:=.pair t195 .unit, rS:=.pair t60 .unit, m:=λ _=>none, ex:=some (.rd (.last 2 t60)) }
theorem yNW:FnOK Tryz.prog ze_e:=
 ⟨y08 77 Tryz.f77 (by kernel_rfl) (by kernel_rfl) (by kernel_rfl), λ A w x l y hG hA hx hm=>(by cases hm), λ q h=>(by cases h), λ q h=>by cases h;exact yR5⟩
noncomputable def zU_e:Entry:={ f:=116, args:=.pair t211 (.pair t9 .unit), rS:=.pair (.ref t3) .unit, m:=λ _=>none, ex:=some (.rd (.part [([115, 101, 97], 5), ([98, 97, 115, 105, 110], 6)])) }
theorem yPu:FnOK Tryz.prog zU_e:=
 ⟨y08 116 Tryz.f116 (by kernel_rfl) (by kernel_rfl) (by kernel_rfl), λ A w x l y hG hA hx hm=>(by cases hm), λ q h=>(by cases h), λ q h=>by cases h;exact yNb⟩
end Go.Tw
end

section
set_option linter.all false
set_option maxRecDepth 1000000
namespace Go.Tw
open Go.Vx Go.Vx.B Go.Proofs Go.RowKit

/-- Whether a rune is no digit. -/
def yB6(c:Nat):Bool:=decide (c < 48) || decide (57 < c)
noncomputable def y7o(s:List UInt8)(f:Nat):Option (Bool×Unit):=
 bif Nat.beq f 127 then some (decide (0<=Lib.idxFunc yB6 true ⟨s.toArray⟩), ())else none
noncomputable def zX_e:Entry:={ f:=125, args:=.pair .str (.pair .code .unit), rS:=.pair .bool .unit, m:=λ x=>y7o x.1 x.2.1 }

theorem yMI(W:World)(x:Nat)(hx:x<=1114111):FnGives Tryz.prog 126 #[] #[encR x] (.bool (yB6 x)) W:=by
 unfold FnGives encR
 have mixed:=y1i
 have hw0:∀ n:Nat, n<=1114111->((n:Int) < 48 ↔ n < 48):=λ n _=>by omega
 unfold yB6
 by_cases h1:x < 48
 ·have h1':(x:Int) < 48:=by omega
  rw[decide_eq_true h1]
  go_enter Tryz.func126, Tryz.ntmps126
  go_wp2
  go_ret
  exact ⟨rfl, 0, rfl⟩
 ·have h1':¬ ((x:Int) < 48):=by omega
  rw[decide_eq_false h1]
  by_cases h2:57 < x
  ·have h2':57 < (x:Int):=by omega
   rw[decide_eq_true h2]
   go_enter Tryz.func126, Tryz.ntmps126
   go_wp2
   go_ret
   exact ⟨rfl, 0, rfl⟩
  ·have h2':¬ (57 < (x:Int)):=by omega
   rw[decide_eq_false h2]
   go_enter Tryz.func126, Tryz.ntmps126
   go_wp2
   go_ret
   exact ⟨rfl, 0, rfl⟩

theorem yRE:FnOK Tryz.prog zX_e:=by
 refine ⟨y08 125 Tryz.f125 (by kernel_rfl) (by kernel_rfl) (by kernel_rfl), λ A w x l y hG hA hx hm=>?_, λ q h=>(by cases h), λ q h=>(by cases h)⟩
 obtain ⟨s, c, u⟩:=x
 obtain ⟨l1, l2, rfl, rfl, l3, l4, rfl, hc, rfl⟩:=hx
 change y7o s c=some y at hm
 unfold y7o at hm
 cases hb:Nat.beq c 127 with
 |false=>rw[hb]at hm;cases hm
 |true =>
  rw[hb]at hm
  cases hm
  have hb:=Nat.eq_of_beq_eq_true hb
  subst hb
  rcases hc with ⟨hc, _⟩|⟨f, hf, rfl⟩
  ·cases hc
  ·have hf':f=126:=by injection hf with h;exact h.symm
   subst hf'
   have h:=Tryz.strings_ContainsFunc_runes 126 #[] (λ args w=>by rfl) yB6 ⟨s.toArray⟩ w (λ W x hx _=>yMI W x hx)
   refine (show Calls Tryz.prog 125 #[.string ⟨s.toArray⟩, .func (.func 126) #[] #[]] w _ from h).mono ?_
   rintro e w' ⟨rfl, hB⟩
   exact ⟨[.bool _], rfl, ⟨[_], [], rfl, rfl, rfl⟩, hB⟩
end Go.Tw
end
