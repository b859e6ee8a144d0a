/- BS: what is told of the library's functions: slices.Sort of numbers, slices.Clone of inputs. -/
import Derived.Test.YtclcodeedopemaaGreatB0
import Derived.Test.YtclcodeedopemaaGreatSH
import Derived.WalkKit
import Derived.Deep.LoopGhost
import Derived.Lib.Walk
import Derived.Lib.SliceRun

set_option linter.all false
set_option maxRecDepth 1000000
namespace Go.Tw
open Go.Vx Go.Vx.B Go.Proofs Go.RowKit Go.Lib

theorem yAc (f : FuncId) (fn : Func) (h : Tryz.prog.funcs[f]? = some fn) (hn : (fn.name == "runtime.NumGoroutine") = false) (hb : fn.body.isNone = false) : Vx.y2q Tryz.prog f := ⟨fn, h, hn, hb⟩

/-! ### slices.Sort -/
theorem yAW (w : World) (n : Nat) (os : Array Obj) : Below w.heap.size w (Sort.grow (Sort.ahead w n) os) :=
  ⟨rfl, rfl, rfl, by show w.heap.size ≤ (w.heap ++ os).size; rw [Array.size_append]; omega, fun _ hj => Sort.heap_grow_old (Sort.ahead w n) os hj⟩

theorem yQf : yHj Tryz.prog 78 := by
  refine ⟨yAc 78 Tryz.f78 (by kernel_rfl) (by kernel_rfl) (by kernel_rfl), fun w blk cap xs rest e h0 hb hl => ?_⟩
  cases blk with
  | none =>
    obtain ⟨rfl, rfl⟩ := h0 rfl
    refine (Any.slices_Sort_int_none Tryz.lays189 none 0 w).mono ?_
    rintro ex w' ⟨rfl, rfl⟩
    exact ⟨rfl, w', rfl, fun _ _ => rfl, fun b hb => (by cases hb), rfl, rfl, rfl, Below.refl _ _⟩
  | some b =>
    have hg := hb b rfl
    have hlt : b < w.heap.size := yO hg
    have hH : Sort.Holds (Value.int .i64) w b 0 xs.toArray := fun j hj => by
      have hj' : j < xs.length := by simpa using hj
      refine ⟨?_, by simp [World.frozen?, hg]⟩
      have e1 : (xs.toArray)[j]! = xs[j] := by rw [getElem!_pos _ j hj]; simp
      simp only [World.cell?, hg, e1, Nat.zero_add]
      simp [List.getElem?_append_left, hj']
    refine (Any.slices_Sort_int Tryz.lays189 b 0 cap xs w hH hlt (by simp only [memMax] at hl; omega)).mono ?_
    rintro ex w' ⟨rfl, n, os, rfl⟩
    rw [yBm]
    have hsz : (Sort.putRow (Value.int .i64) w b 0 (y2R xs).toArray).heap.size = w.heap.size := by simp [Sort.putRow, Sort.mapBlock]
    refine ⟨rfl, Sort.putRow (Value.int .i64) w b 0 (y2R xs).toArray, hsz, fun m hm => ?_, fun b' hb' => ?_, rfl, rfl, rfl, ?_⟩
    · simp only [Sort.putRow, Sort.mapBlock, Array.getElem?_modify]
      rw [if_neg (fun e => hm (by rw [e]))]
    · cases hb'
      have hlen : (y2R xs).length = xs.length := (y0I xs).length_eq
      simp only [Sort.putRow, Sort.mapBlock, Array.getElem?_modify, if_true, hg, Option.map_some, Sort.onCells]
      congr 2
      apply Array.ext_getElem?
      intro k
      simp only [Sort.putCells, Array.getElem?_mapIdx, List.getElem?_toArray, List.size_toArray, Nat.zero_add, Nat.zero_le, true_and, Nat.sub_zero]
      by_cases hk : k < (y2R xs).length
      · rw [List.getElem?_append_left (by simpa using by omega), List.getElem?_append_left (by simpa using hk)]
        simp only [List.getElem?_map]
        rw [List.getElem?_eq_getElem (by omega : k < xs.length), List.getElem?_eq_getElem hk]
        simp only [Option.map_some, if_pos hk]
        congr 2
        rw [getElem!_pos _ k (by simpa using hk)]
        simp
      · rw [List.getElem?_append_right (by simp; omega), List.getElem?_append_right (by simp; omega)]
        simp only [List.length_map, hlen]
        cases rest[k - xs.length]? with
        | none => rfl
        | some v =>
          simp only [Option.map_some]
          rw [if_neg (by omega)]
    · exact yAW (Sort.putRow (Value.int .i64) w b 0 (y2R xs).toArray) n os

/-! ### slices.Clone -/
noncomputable def z7_e : Entry := { f := 83, args := .pair t50 .unit, ress := .pair t50 .unit, m := fun x => bif decide (List.length x.1 ≤ memMax) then some (x.1, ()) else none, own := some (51, t51) }

set_option maxHeartbeats 2000000 in
theorem yEh (i0 : TypeInfo) (z : Value) (hi : Tryz.prog.info? 51 = some i0) (hz0 : i0.zero = some z) (hz1 : i0.size = 2) (hzs : z.cells.size = 2)
    (hz2 : i0.bytes ≤ 2048) (p : Addr) (n c : Nat) (news : List Value) (w : World) (hl : news.length = n * 2) (hn : n ≤ memMax)
    (hc : ∀ j u, news[j]? = some u → w.cell? (p.add j) = some u) (h1 : ∀ u ∈ news, u.oneCell' = true) :
    Calls Tryz.prog 83 #[.slice (some p) n c] w fun e w' => ∃ v', e = .returned v' ∧ w'.ownsRow w.heap.size 51 2 v' n news ∧ Below w.heap.size w w' := by
  have hmx : n ≤ maxLen := by simp only [memMax] at hn; simp only [maxLen]; omega
  have hbig : n * i0.bytes ≤ 140737488355328 := by
    have : n * i0.bytes ≤ 68719476736 * 2048 := Nat.mul_le_mul hn hz2
    omega
  have A : Aside (∀ j u, news[j]? = some u → w.cell? (p.add j) = some u) := hc
  clear hc
  have mixed := yE
  have u50 := Tryz.underlying50; have a50 := Tryz.isAgg50; have z50 := Tryz.sizeOf50; have v50 := Tryz.zeroValue50
  have u4 := Tryz.underlying4; have a4 := Tryz.isAgg4; have z4 := Tryz.sizeOf4; have v4 := Tryz.zeroValue4
  have q50 : ∀ (w : World) (a : Option Addr) (n c n' c' : Nat), (binOp .eql 50 (.slice a n c) (.slice none n' c')).run Tryz.prog w = .ok (.bool a.isNone) w := fun w a n c n' c' => Lib.run_eql_slice_nil w _ _ a n c n' c' Tryz.underlying50
  have r50 : ∀ w, Sem.run Tryz.prog (underlying 50) w = .ok (TypeDesc.slice 51) w := run_underlying Tryz.underlying50
  go_enter Tryz.func83, Tryz.ntmps83
  go_wp2_with (at_builtin; refine wpList_append_own _ rfl _ _ 50 rfl w.heap.size 51 i0 z 2 i0.bytes Tryz.underlying50 hi hz0 hz1 rfl hzs (by decide) _ _ _ rfl (World.ownsRow_made w #[] 0 (Nat.le_refl _) (Nat.zero_le _) (by simp)) p n c news rfl ?qc1 ?qc2 ?qc3 ?qc4 ?qc5 ?qc6 ?_)
  case qc1 => exact hl
  case qc2 =>
    intro j u hj
    exact Lib.cell?_alloc_some _ (A.out j u hj)
  case qc3 => exact h1
  case qc4 => rw [Nat.zero_add]; exact hmx
  case qc5 => rw [Nat.zero_add]; exact hbig
  case qc6 => simp
  intro v' w1 hown hgrow hnil
  go_wp2
  go_ret
  refine ⟨v', rfl, by simpa using hown, ?_⟩
  exact ((Below.refl _ w).alloc (Nat.le_refl _) _).grown hgrow (by simp) (by intro k hk; simp [Value.ownBlock] at hk; omega)

theorem yFg (n c : Nat) (w : World) : Calls Tryz.prog 83 #[.slice none n c] w fun e w' => e = .returned (.slice none 0 0) ∧ w' = w := by
  have mixed := yE
  have u50 := Tryz.underlying50; have a50 := Tryz.isAgg50; have z50 := Tryz.sizeOf50; have v50 := Tryz.zeroValue50
  have u4 := Tryz.underlying4; have a4 := Tryz.isAgg4; have z4 := Tryz.sizeOf4; have v4 := Tryz.zeroValue4
  have q50 : ∀ (w : World) (a : Option Addr) (n c n' c' : Nat), (binOp .eql 50 (.slice a n c) (.slice none n' c')).run Tryz.prog w = .ok (.bool a.isNone) w := fun w a n c n' c' => Lib.run_eql_slice_nil w _ _ a n c n' c' Tryz.underlying50
  have r50 : ∀ w, Sem.run Tryz.prog (underlying 50) w = .ok (TypeDesc.slice 51) w := run_underlying Tryz.underlying50
  go_enter Tryz.func83, Tryz.ntmps83
  go_wp2
  go_ret
  exact ⟨rfl, rfl⟩

theorem yQz : ∃ (inf : TypeInfo) (z : Value), Tryz.prog.info? 51 = some inf ∧ inf.zero = some z ∧ inf.size = 2 ∧ z.cells.size = 2 ∧ inf.bytes ≤ 2048 := by
  obtain ⟨hu, hF, hs0⟩ := yU (u := t51) (yR.shape (t := 50) (i := { ty := t50, elem := 51, fields := [] }) (by kernel_rfl)) (.inl rfl)
  obtain ⟨inf, d, f1, f2, f3, f4, f5, f6⟩ := hF.ex
  refine ⟨inf, _, f1, f6, f3, ?_, f4⟩
  rw [y1D (yo _) (y2k _), List.size_toArray, yo]
  rfl

theorem yBX : yPu Tryz.prog 83 (51, t51) := by
  intro w p n c news hl hn hp hc h1
  obtain ⟨inf, z, i1, i2, i3, i4, i5⟩ := yQz
  cases p with
  | none =>
    have h0 := hp rfl
    subst h0
    have hnews : news = [] := List.eq_nil_of_length_eq_zero (by simpa using hl)
    subst hnews
    refine (yFg 0 c w).mono ?_
    rintro e w' ⟨rfl, rfl⟩
    exact ⟨_, rfl, World.ownsRow_nil w' _ 51 _, Below.refl _ _⟩
  | some a => exact yEh inf z i1 i2 i3 i4 i5 a n c news w hl hn (fun j u hj => hc a rfl j u hj) h1

theorem yTc : FnOK Tryz.prog z7_e := by
  refine ⟨yAc 83 Tryz.f83 (by kernel_rfl) (by kernel_rfl) (by kernel_rfl), fun A w x l y hG hA hx hm => ?_, fun q hq => ?_, fun q hq => by cases hq⟩
  · obtain ⟨xs, u⟩ := x
    obtain ⟨l1, l2, rfl, hx1, rfl⟩ := hx
    change (bif decide (List.length xs ≤ memMax) then some (xs, ()) else none) = some y at hm
    cases hb : decide (List.length xs ≤ memMax) with
    | false => rw [hb] at hm; cases hm
    | true =>
      rw [hb] at hm
      cases hm
      have hle := of_decide_eq_true hb
      obtain ⟨p, c, m, rfl, hp0, hpc, hml, hmx, hmc⟩ : ∃ (p : Option Addr) (c : Nat) (m : List Value), l1 = [.slice p (List.length xs) c] ∧ (p = none → List.length xs = 0) ∧ (∀ ad, p = some ad → ∀ j v, m[j]? = some v → w.cell? (ad.add j) = some v) ∧
          m.length = List.length xs * t51.size ∧ (∀ v ∈ m, v.oneCell' = true) ∧ ∀ (i : Nat) (x : t51.den), (xs : List t51.den)[i]? = some x → y3 Tryz.prog t51 A w x ((m.drop (i * t51.size)).take t51.size) := by
        rcases y0K hx1 with ⟨rfl, p, c, rfl⟩ | ⟨b1, off, c, m, rfl, hm1, hm2⟩
        · exact ⟨p, c, [], rfl, fun _ => rfl, fun _ _ j v hj => by simp at hj, by simp, fun v hv => by simp at hv, fun i x hx => by simp at hx⟩
        · refine ⟨some ⟨b1, off, none⟩, c, m, rfl, (fun hp => by cases hp), fun ad had j v hj => ?_, hm2.length, fun v hv => yz (y3.plain hm2 v hv), fun i x hx => ?_⟩
          · cases had
            rw [y09]
            exact hm1 j v hj
          · simp only [y3] at hm2
            exact hm2.2.2 i x hx
      refine (show Calls Tryz.prog 83 #[.slice p (List.length xs) c] w _ from yBX w p (List.length xs) c m hml hle hp0 hpc hmx).mono ?_
      rintro ex w' ⟨v', rfl, ⟨_, hown⟩, hB⟩
      refine ⟨[v'], ?_, ⟨[v'], [], rfl, ?_, rfl⟩, hB⟩
      · rfl
      rcases hown with ⟨rfl, hn0⟩ | ⟨gb, cap, cur, rfl, hgb, hg, hnc, hcm, hcs2, htk⟩
      · have hys : xs = ([] : List t51.den) := List.eq_nil_of_length_eq_zero hn0
        subst hys
        exact ⟨none, 0, rfl, Nat.le_refl _, Nat.zero_le _, fun i x hi => by simp at hi⟩
      · refine ⟨some ⟨gb, 0, none⟩, cap, rfl, hnc, hcm, fun i x hi => ?_⟩
        have hi1 : i < List.length xs := (List.getElem?_eq_some_iff.1 hi).1
        have hsz : i * t51.size + t51.size ≤ List.length xs * t51.size := by rw [← Nat.succ_mul]; exact Nat.mul_le_mul_right _ hi1
        refine ⟨⟨gb, 0, none⟩, (m.drop (i * t51.size)).take t51.size, rfl, rfl, fun h => Nat.lt_irrefl _ (Nat.lt_of_lt_of_le (hA _ h) hgb), yO hg, fun j v hj => ?_, (hmc i x hi).mono (fun n hn _ => hB.block n hn) (fun n hn h => h)⟩
        have hj2 : j < t51.size := by
          have := (List.getElem?_eq_some_iff.1 hj).1
          simp only [List.length_take] at this
          omega
        rw [List.getElem?_take, if_pos hj2, List.getElem?_drop, ← htk, List.getElem?_take, if_pos (by show _ < List.length xs * t51.size; omega)] at hj
        simp only [World.cell?, hg]
        rw [Nat.zero_add, ← Array.getElem?_toList]
        exact hj
  · cases hq
    exact yBX
end Go.Tw
