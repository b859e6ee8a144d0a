/- BS: what is told of the library's functions: slices.Sort of numbers, slices.Clone of inputs; and of the examples' chart: none of its slices has spare places. -/
import Derived.Test.YtohhmdogfjmlcaaGreatB0
import Derived.Test.YtohhmdogfjmlcaaGreatSH
import Derived.WalkKit
import Derived.Deep.LoopGhost
import Derived.Lib.Walk
import Derived.Lib.SliceRun

set_option linter.all false
set_option maxRecDepth 1000000
namespace Go.Tw
open Go.Vx Go.Vx.B Go.Proofs Go.RowKit Go.Lib

theorem yAm (f : FuncId) (fn : Func) (h : Tryz.prog.funcs[f]? = some fn) (hn : (fn.name == "runtime.NumGoroutine") = false) (hb : fn.body.isNone = false) : Vx.y2r Tryz.prog f := ⟨fn, h, hn, hb⟩

/-! ### slices.Sort -/
theorem yAu (w : World) (n : Nat) (os : Array Obj) : Below w.heap.size w (Sort.grow (Sort.ahead w n) os) :=
  ⟨rfl, rfl, rfl, by show w.heap.size ≤ (w.heap ++ os).size; rw [Array.size_append]; omega, fun _ hj => Sort.heap_grow_old (Sort.ahead w n) os hj⟩

theorem yNf : yGo Tryz.prog 147 := by
  refine ⟨yAm 147 Tryz.f147 (by kernel_rfl) (by kernel_rfl) (by kernel_rfl), fun w blk cap xs rest e h0 hb hl => ?_⟩
  cases blk with
  | none =>
    obtain ⟨rfl, rfl⟩ := h0 rfl
    refine (Any.slices_Sort_int_none Tryz.lays189 none 0 w).mono ?_
    rintro ex w' ⟨rfl, rfl⟩
    exact ⟨rfl, w', rfl, fun _ _ => rfl, fun b hb => (by cases hb), rfl, rfl, rfl, Below.refl _ _⟩
  | some b =>
    have hg := hb b rfl
    have hlt : b < w.heap.size := yP hg
    have hH : Sort.Holds (Value.int .i64) w b 0 xs.toArray := fun j hj => by
      have hj' : j < xs.length := by simpa using hj
      refine ⟨?_, by simp [World.frozen?, hg]⟩
      have e1 : (xs.toArray)[j]! = xs[j] := by rw [getElem!_pos _ j hj]; simp
      simp only [World.cell?, hg, e1, Nat.zero_add]
      simp [List.getElem?_append_left, hj']
    refine (Any.slices_Sort_int Tryz.lays189 b 0 cap xs w hH hlt (by simp only [memMax] at hl; omega)).mono ?_
    rintro ex w' ⟨rfl, n, os, rfl⟩
    rw [yBy]
    have hsz : (Sort.putRow (Value.int .i64) w b 0 (y2w xs).toArray).heap.size = w.heap.size := by simp [Sort.putRow, Sort.mapBlock]
    refine ⟨rfl, Sort.putRow (Value.int .i64) w b 0 (y2w xs).toArray, hsz, fun m hm => ?_, fun b' hb' => ?_, rfl, rfl, rfl, ?_⟩
    · simp only [Sort.putRow, Sort.mapBlock, Array.getElem?_modify]
      rw [if_neg (fun e => hm (by rw [e]))]
    · cases hb'
      have hlen : (y2w xs).length = xs.length := (y3o xs).length_eq
      simp only [Sort.putRow, Sort.mapBlock, Array.getElem?_modify, if_true, hg, Option.map_some, Sort.onCells]
      congr 2
      apply Array.ext_getElem?
      intro k
      simp only [Sort.putCells, Array.getElem?_mapIdx, List.getElem?_toArray, List.size_toArray, Nat.zero_add, Nat.zero_le, true_and, Nat.sub_zero]
      by_cases hk : k < (y2w xs).length
      · rw [List.getElem?_append_left (by simpa using by omega), List.getElem?_append_left (by simpa using hk)]
        simp only [List.getElem?_map]
        rw [List.getElem?_eq_getElem (by omega : k < xs.length), List.getElem?_eq_getElem hk]
        simp only [Option.map_some, if_pos hk]
        congr 2
        rw [getElem!_pos _ k (by simpa using hk)]
        simp
      · rw [List.getElem?_append_right (by simp; omega), List.getElem?_append_right (by simp; omega)]
        simp only [List.length_map, hlen]
        cases rest[k - xs.length]? with
        | none => rfl
        | some v =>
          simp only [Option.map_some]
          rw [if_neg (by omega)]
    · exact yAu (Sort.putRow (Value.int .i64) w b 0 (y2w xs).toArray) n os

/-! ### slices.Clone -/
noncomputable def z7_e : Entry := { f := 151, args := .pair t57 .unit, ress := .pair t57 .unit, m := fun x => bif decide (List.length x.1 ≤ memMax) then some (x.1, ()) else none, own := some (55, t55) }

set_option maxHeartbeats 2000000 in
theorem yFH (i0 : TypeInfo) (z : Value) (hi : Tryz.prog.info? 55 = some i0) (hz0 : i0.zero = some z) (hz1 : i0.size = 2) (hzs : z.cells.size = 2)
    (hz2 : i0.bytes ≤ 2048) (p : Addr) (n c : Nat) (news : List Value) (w : World) (hl : news.length = n * 2) (hn : n ≤ memMax)
    (hc : ∀ j u, news[j]? = some u → w.cell? (p.add j) = some u) (h1 : ∀ u ∈ news, u.oneCell' = true) :
    Calls Tryz.prog 151 #[.slice (some p) n c] w fun e w' => ∃ v', e = .returned v' ∧ w'.ownsRow w.heap.size 55 2 v' n news ∧ Below w.heap.size w w' := by
  have hmx : n ≤ maxLen := by simp only [memMax] at hn; simp only [maxLen]; omega
  have hbig : n * i0.bytes ≤ 140737488355328 := by
    have : n * i0.bytes ≤ 68719476736 * 2048 := Nat.mul_le_mul hn hz2
    omega
  have A : Aside (∀ j u, news[j]? = some u → w.cell? (p.add j) = some u) := hc
  clear hc
  have mixed := yC
  have u57 := Tryz.underlying57; have a57 := Tryz.isAgg57; have z57 := Tryz.sizeOf57; have v57 := Tryz.zeroValue57
  have u4 := Tryz.underlying4; have a4 := Tryz.isAgg4; have z4 := Tryz.sizeOf4; have v4 := Tryz.zeroValue4
  have q57 : ∀ (w : World) (a : Option Addr) (n c n' c' : Nat), (binOp .eql 57 (.slice a n c) (.slice none n' c')).run Tryz.prog w = .ok (.bool a.isNone) w := fun w a n c n' c' => Lib.run_eql_slice_nil w _ _ a n c n' c' Tryz.underlying57
  have r57 : ∀ w, Sem.run Tryz.prog (underlying 57) w = .ok (TypeDesc.slice 55) w := run_underlying Tryz.underlying57
  go_enter Tryz.func151, Tryz.ntmps151
  go_wp2_with (at_builtin; refine wpList_append_own _ rfl _ _ 57 rfl w.heap.size 55 i0 z 2 i0.bytes Tryz.underlying57 hi hz0 hz1 rfl hzs (by decide) _ _ _ rfl (World.ownsRow_made w #[] 0 (Nat.le_refl _) (Nat.zero_le _) (by simp)) p n c news rfl ?qc1 ?qc2 ?qc3 ?qc4 ?qc5 ?qc6 ?_)
  case qc1 => exact hl
  case qc2 =>
    intro j u hj
    exact Lib.cell?_alloc_some _ (A.out j u hj)
  case qc3 => exact h1
  case qc4 => rw [Nat.zero_add]; exact hmx
  case qc5 => rw [Nat.zero_add]; exact hbig
  case qc6 => simp
  intro v' w1 hown hgrow hnil
  go_wp2
  go_ret
  refine ⟨v', rfl, by simpa using hown, ?_⟩
  exact ((Below.refl _ w).alloc (Nat.le_refl _) _).grown hgrow (by simp) (by intro k hk; simp [Value.ownBlock] at hk; omega)

theorem yFs (n c : Nat) (w : World) : Calls Tryz.prog 151 #[.slice none n c] w fun e w' => e = .returned (.slice none 0 0) ∧ w' = w := by
  have mixed := yC
  have u57 := Tryz.underlying57; have a57 := Tryz.isAgg57; have z57 := Tryz.sizeOf57; have v57 := Tryz.zeroValue57
  have u4 := Tryz.underlying4; have a4 := Tryz.isAgg4; have z4 := Tryz.sizeOf4; have v4 := Tryz.zeroValue4
  have q57 : ∀ (w : World) (a : Option Addr) (n c n' c' : Nat), (binOp .eql 57 (.slice a n c) (.slice none n' c')).run Tryz.prog w = .ok (.bool a.isNone) w := fun w a n c n' c' => Lib.run_eql_slice_nil w _ _ a n c n' c' Tryz.underlying57
  have r57 : ∀ w, Sem.run Tryz.prog (underlying 57) w = .ok (TypeDesc.slice 55) w := run_underlying Tryz.underlying57
  go_enter Tryz.func151, Tryz.ntmps151
  go_wp2
  go_ret
  exact ⟨rfl, rfl⟩

theorem yUL : ∃ (inf : TypeInfo) (z : Value), Tryz.prog.info? 55 = some inf ∧ inf.zero = some z ∧ inf.size = 2 ∧ z.cells.size = 2 ∧ inf.bytes ≤ 2048 := by
  obtain ⟨hu, hF, hs0⟩ := yT (u := t55) (yM.shape (t := 57) (i := { ty := t57, elem := 55, fields := [] }) (by kernel_rfl)) (.inl rfl)
  obtain ⟨inf, d, f1, f2, f3, f4, f5, f6⟩ := hF.ex
  refine ⟨inf, _, f1, f6, f3, ?_, f4⟩
  rw [y0p (yg _) (y1j _), List.size_toArray, yg]
  rfl

theorem yAa : yNh Tryz.prog 151 (55, t55) := by
  intro w p n c news hl hn hp hc h1
  obtain ⟨inf, z, i1, i2, i3, i4, i5⟩ := yUL
  cases p with
  | none =>
    have h0 := hp rfl
    subst h0
    have hnews : news = [] := List.eq_nil_of_length_eq_zero (by simpa using hl)
    subst hnews
    refine (yFs 0 c w).mono ?_
    rintro e w' ⟨rfl, rfl⟩
    exact ⟨_, rfl, World.ownsRow_nil w' _ 55 _, Below.refl _ _⟩
  | some a => exact yFH inf z i1 i2 i3 i4 i5 a n c news w hl hn (fun j u hj => hc a rfl j u hj) h1

theorem yWH : FnOK Tryz.prog z7_e := by
  refine ⟨yAm 151 Tryz.f151 (by kernel_rfl) (by kernel_rfl) (by kernel_rfl), fun A w x l y hG hA hx hm => ?_, fun q hq => ?_, fun q hq => by cases hq⟩
  · obtain ⟨xs, u⟩ := x
    obtain ⟨l1, l2, rfl, hx1, rfl⟩ := hx
    change (bif decide (List.length xs ≤ memMax) then some (xs, ()) else none) = some y at hm
    cases hb : decide (List.length xs ≤ memMax) with
    | false => rw [hb] at hm; cases hm
    | true =>
      rw [hb] at hm
      cases hm
      have hle := of_decide_eq_true hb
      obtain ⟨p, c, m, rfl, hp0, hpc, hml, hmx, hmc⟩ : ∃ (p : Option Addr) (c : Nat) (m : List Value), l1 = [.slice p (List.length xs) c] ∧ (p = none → List.length xs = 0) ∧ (∀ ad, p = some ad → ∀ j v, m[j]? = some v → w.cell? (ad.add j) = some v) ∧
          m.length = List.length xs * t55.size ∧ (∀ v ∈ m, v.oneCell' = true) ∧ ∀ (i : Nat) (x : t55.den), (xs : List t55.den)[i]? = some x → y4 Tryz.prog t55 A w x ((m.drop (i * t55.size)).take t55.size) := by
        rcases y0J hx1 with ⟨rfl, p, c, rfl⟩ | ⟨b1, off, c, m, rfl, hm1, hm2⟩
        · exact ⟨p, c, [], rfl, fun _ => rfl, fun _ _ j v hj => by simp at hj, by simp, fun v hv => by simp at hv, fun i x hx => by simp at hx⟩
        · refine ⟨some ⟨b1, off, none⟩, c, m, rfl, (fun hp => by cases hp), fun ad had j v hj => ?_, hm2.length, fun v hv => yy (y4.plain hm2 v hv), fun i x hx => ?_⟩
          · cases had
            rw [y09]
            exact hm1 j v hj
          · simp only [y4] at hm2
            exact hm2.2.2 i x hx
      refine (show Calls Tryz.prog 151 #[.slice p (List.length xs) c] w _ from yAa w p (List.length xs) c m hml hle hp0 hpc hmx).mono ?_
      rintro ex w' ⟨v', rfl, ⟨_, hown⟩, hB⟩
      refine ⟨[v'], ?_, ⟨[v'], [], rfl, ?_, rfl⟩, hB⟩
      · rfl
      rcases hown with ⟨rfl, hn0⟩ | ⟨gb, cap, cur, rfl, hgb, hg, hnc, hcm, hcs2, htk⟩
      · have hys : xs = ([] : List t55.den) := List.eq_nil_of_length_eq_zero hn0
        subst hys
        exact ⟨none, 0, rfl, Nat.le_refl _, Nat.zero_le _, fun i x hi => by simp at hi⟩
      · refine ⟨some ⟨gb, 0, none⟩, cap, rfl, hnc, hcm, fun i x hi => ?_⟩
        have hi1 : i < List.length xs := (List.getElem?_eq_some_iff.1 hi).1
        have hsz : i * t55.size + t55.size ≤ List.length xs * t55.size := by rw [← Nat.succ_mul]; exact Nat.mul_le_mul_right _ hi1
        refine ⟨⟨gb, 0, none⟩, (m.drop (i * t55.size)).take t55.size, rfl, rfl, fun h => Nat.lt_irrefl _ (Nat.lt_of_lt_of_le (hA _ h) hgb), yP hg, fun j v hj => ?_, (hmc i x hi).mono (fun n hn _ => hB.block n hn) (fun n hn h => h)⟩
        have hj2 : j < t55.size := by
          have := (List.getElem?_eq_some_iff.1 hj).1
          simp only [List.length_take] at this
          omega
        rw [List.getElem?_take, if_pos hj2, List.getElem?_drop, ← htk, List.getElem?_take, if_pos (by show _ < List.length xs * t55.size; omega)] at hj
        simp only [World.cell?, hg]
        rw [Nat.zero_add, ← Array.getElem?_toList]
        exact hj
  · cases hq
    exact yAa

/-! ### The examples' chart -/
noncomputable def yNs : Cha := ([([(119 : UInt8), (111 : UInt8), (114 : UInt8), (107 : UInt8)], (-1 : Int), (1 : Int), Bool.false, ()), ([(111 : UInt8), (112 : UInt8), (101 : UInt8), (110 : UInt8)], (0 : Int), (-1 : Int), Bool.false, ()), ([(108 : UInt8), (111 : UInt8), (119 : UInt8), (101 : UInt8), (114 : UInt8)], (0 : Int), (-1 : Int), Bool.true, ()), ([(99 : UInt8), (108 : UInt8), (111 : UInt8), (115 : UInt8), (101 : UInt8), (100 : UInt8)], (0 : Int), (-1 : Int), Bool.false, ()), ([(97 : UInt8), (108 : UInt8), (97 : UInt8), (114 : UInt8), (109 : UInt8)], (-1 : Int), (-1 : Int), Bool.false, ())], [((1 : Int), [(99 : UInt8), (108 : UInt8), (111 : UInt8), (115 : UInt8), (101 : UInt8)], (2 : Int), (1 : Int), (0 : Int), ()), ((2 : Int), [(100 : UInt8), (111 : UInt8), (110 : UInt8), (101 : UInt8)], (3 : Int), (0 : Int), (0 : Int), ()), ((3 : Int), [(111 : UInt8), (112 : UInt8), (101 : UInt8), (110 : UInt8)], (1 : Int), (0 : Int), (0 : Int), ()), ((0 : Int), [(102 : UInt8), (97 : UInt8), (105 : UInt8), (108 : UInt8)], (4 : Int), (0 : Int), (0 : Int), ())], ())

theorem y5a {P : Program} {A : Nat → Prop} {w : World} {u : Ty} {xs : List u.den} {l : List Value} {b : Nat} {e : TypeId} (hg : w.heap[b]? = some (.cells l.toArray e (0, 0))) (hA : ¬ A b) (hm : xs.length ≤ maxLen)
    (hc : y4 P (.arr xs.length u) A w xs l) : y4 P (.slice u) A w xs [.slice (some ⟨b, 0, none⟩) xs.length xs.length] := by
  have hlen := hc.length
  simp only [y4] at hc ⊢
  refine ⟨_, _, rfl, Nat.le_refl _, hm, fun i x hi => ?_⟩
  refine ⟨⟨b, 0, none⟩, (l.drop (i * u.size)).take u.size, rfl, rfl, hA, yP hg, fun j v hj => ?_, hc.2.2 i x hi⟩
  have hj2 : j < u.size := by
    have := (List.getElem?_eq_some_iff.1 hj).1
    simp only [List.length_take] at this
    omega
  rw [List.getElem?_take, if_pos hj2, List.getElem?_drop] at hj
  simp only [World.cell?, hg]
  rw [Nat.zero_add]
  simpa using hj

theorem yP0 (w : World) (o0 o1 o2 : Obj) : (((w.alloc o0).alloc o1).alloc o2).heap[w.heap.size + 1]? = some o1 := by
  have h1 : (w.alloc o0).heap.size = w.heap.size + 1 := size_alloc ..
  rw [heap_alloc_old ((w.alloc o0).alloc o1) o2 (r := w.heap.size + 1) (by rw [size_alloc, size_alloc]; omega), ← h1]
  exact heap_alloc_new (w.alloc o0) o1

theorem yMP (w : World) (o0 o1 o2 : Obj) : (((w.alloc o0).alloc o1).alloc o2).heap[w.heap.size + 1 + 1]? = some o2 := by
  have h1 : ((w.alloc o0).alloc o1).heap.size = w.heap.size + 1 + 1 := by rw [size_alloc, size_alloc]
  rw [← h1]
  exact heap_alloc_new ((w.alloc o0).alloc o1) o2

theorem yCq (w : World) (o0 o1 o2 : Obj) : Below w.heap.size w (((w.alloc o0).alloc o1).alloc o2) :=
  (((Below.refl _ w).alloc (Nat.le_refl _) _).alloc (by rw [size_alloc]; omega) _).alloc (by rw [size_alloc, size_alloc]; omega) _

set_option maxHeartbeats 4000000 in
theorem yN1 : ExOK Tryz.prog 85 ⟨t35, yNs⟩ := by
  intro A w hG hA
  have mixed := yC
  have u3 := Tryz.underlying3; have a3 := Tryz.isAgg3; have z3 := Tryz.sizeOf3; have v3 := Tryz.zeroValue3
  have u4 := Tryz.underlying4; have a4 := Tryz.isAgg4; have z4 := Tryz.sizeOf4; have v4 := Tryz.zeroValue4
  have u9 := Tryz.underlying9; have a9 := Tryz.isAgg9; have z9 := Tryz.sizeOf9; have v9 := Tryz.zeroValue9
  have u32 := Tryz.underlying32; have a32 := Tryz.isAgg32; have z32 := Tryz.sizeOf32; have v32 := Tryz.zeroValue32
  have u33 := Tryz.underlying33; have a33 := Tryz.isAgg33; have z33 := Tryz.sizeOf33; have v33 := Tryz.zeroValue33
  have u35 := Tryz.underlying35; have a35 := Tryz.isAgg35; have z35 := Tryz.sizeOf35; have v35 := Tryz.zeroValue35
  have u148 := Tryz.underlying148; have a148 := Tryz.isAgg148; have z148 := Tryz.sizeOf148; have v148 := Tryz.zeroValue148
  have u150 := Tryz.underlying150; have a150 := Tryz.isAgg150; have z150 := Tryz.sizeOf150; have v150 := Tryz.zeroValue150
  have u30 := Tryz.underlying30; have a30 := Tryz.isAgg30; have z30 := Tryz.sizeOf30; have v30 := Tryz.zeroValue30
  have u34 := Tryz.underlying34; have a34 := Tryz.isAgg34; have z34 := Tryz.sizeOf34; have v34 := Tryz.zeroValue34
  go_enter Tryz.func85, Tryz.ntmps85
  go_wp2
  refine bodyPost_ret (v := .agg #[.slice (some ⟨w.heap.size + 1, 0, none⟩) 5 5, .slice (some ⟨w.heap.size + 1 + 1, 0, none⟩) 4 4]) (by simp [results, show Tryz.f85.results = #[.cell 0 35] from rfl, go_sem]) rfl ?_
  refine ⟨[.slice (some ⟨w.heap.size + 1, 0, none⟩) 5 5, .slice (some ⟨w.heap.size + 1 + 1, 0, none⟩) 4 4], rfl, ?_, ?_, ?_⟩
  · refine ⟨[_], [_], rfl, ?_, [_], [], rfl, ?_, rfl⟩
    · refine y5a (b := w.heap.size + 1) (e := 150) (l := [.string ⟨#[119, 111, 114, 107]⟩, .int .i64 (-1), .int .i64 1, .bool false, .string ⟨#[111, 112, 101, 110]⟩, .int .i64 0, .int .i64 (-1), .bool false, .string ⟨#[108, 111, 119, 101, 114]⟩, .int .i64 0, .int .i64 (-1), .bool true, .string ⟨#[99, 108, 111, 115, 101, 100]⟩, .int .i64 0, .int .i64 (-1), .bool false, .string ⟨#[97, 108, 97, 114, 109]⟩, .int .i64 (-1), .int .i64 (-1), .bool false]) (yP0 w _ _ _) (fun h => by have := hA _ h; omega) (by decide) ⟨rfl, rfl, fun i x hi => ?_⟩
      match i, hi with
      | 0, hi => cases hi; exact ⟨[_], _, rfl, rfl, [_], _, rfl, rfl, [_], _, rfl, rfl, [_], _, rfl, rfl, rfl⟩
      | 1, hi => cases hi; exact ⟨[_], _, rfl, rfl, [_], _, rfl, rfl, [_], _, rfl, rfl, [_], _, rfl, rfl, rfl⟩
      | 2, hi => cases hi; exact ⟨[_], _, rfl, rfl, [_], _, rfl, rfl, [_], _, rfl, rfl, [_], _, rfl, rfl, rfl⟩
      | 3, hi => cases hi; exact ⟨[_], _, rfl, rfl, [_], _, rfl, rfl, [_], _, rfl, rfl, [_], _, rfl, rfl, rfl⟩
      | 4, hi => cases hi; exact ⟨[_], _, rfl, rfl, [_], _, rfl, rfl, [_], _, rfl, rfl, [_], _, rfl, rfl, rfl⟩
      | n + 5, hi => cases hi
    · refine y5a (b := w.heap.size + 1 + 1) (e := 148) (l := [.int .i64 1, .string ⟨#[99, 108, 111, 115, 101]⟩, .int .i64 2, .int .i64 1, .int .i64 0, .int .i64 2, .string ⟨#[100, 111, 110, 101]⟩, .int .i64 3, .int .i64 0, .int .i64 0, .int .i64 3, .string ⟨#[111, 112, 101, 110]⟩, .int .i64 1, .int .i64 0, .int .i64 0, .int .i64 0, .string ⟨#[102, 97, 105, 108]⟩, .int .i64 4, .int .i64 0, .int .i64 0]) (yMP w _ _ _) (fun h => by have := hA _ h; omega) (by decide) ⟨rfl, rfl, fun i x hi => ?_⟩
      match i, hi with
      | 0, hi => cases hi; exact ⟨[_], _, rfl, rfl, [_], _, rfl, rfl, [_], _, rfl, rfl, [_], _, rfl, rfl, [_], _, rfl, rfl, rfl⟩
      | 1, hi => cases hi; exact ⟨[_], _, rfl, rfl, [_], _, rfl, rfl, [_], _, rfl, rfl, [_], _, rfl, rfl, [_], _, rfl, rfl, rfl⟩
      | 2, hi => cases hi; exact ⟨[_], _, rfl, rfl, [_], _, rfl, rfl, [_], _, rfl, rfl, [_], _, rfl, rfl, [_], _, rfl, rfl, rfl⟩
      | 3, hi => cases hi; exact ⟨[_], _, rfl, rfl, [_], _, rfl, rfl, [_], _, rfl, rfl, [_], _, rfl, rfl, [_], _, rfl, rfl, rfl⟩
      | n + 4, hi => cases hi
  · intro p n c hm
    simp only [List.mem_cons, List.not_mem_nil, or_false, Value.slice.injEq] at hm
    rcases hm with ⟨_, rfl, rfl⟩ | ⟨_, rfl, rfl⟩ <;> rfl
  · exact yCq w _ _ _
end Go.Tw
