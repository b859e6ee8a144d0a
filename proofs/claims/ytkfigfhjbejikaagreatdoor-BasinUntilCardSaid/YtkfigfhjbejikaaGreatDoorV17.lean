/- V17: copies, and all operations that turn blocks of one's own together. -/
import Derived.Test.YtkfigfhjbejikaaGreatDoorV16
set_option linter.all false
namespace Go.Vx
open Go.RowKit
variable [GT]

section
variable {P : Program} {A0 : Nat → Prop} {w0 : Base} {ρ : Places} {s : St} {a : Act} {w w' : World} {g : G} {R : Type} {K : St → Option R} {r : R} {o : Oper}

theorem run_copy_zero {t t' ty e : TypeId} {i : TypeInfo} (ht : P.underlying t = some (.slice e)) (hi : P.info? e = some i) {p q : Option Addr} {n c m c' : Nat} (hn : min m n = 0) :
    (Builtin.copy_ #[t, t'] ty #[.slice p n c, .slice q m c']).run P w = .ok (.int .i64 0) w := by
  cases p <;> cases q <;> simp [Builtin.copy_, run_underlying ht, sizeOf, typeInfo, hi, Builtin.lenOf, Builtin.firstCells, hn, storeCells, loadCells, loadCellsFrom, goInt]

theorem run_copy' {t t' ty e : TypeId} {i : TypeInfo} (ht : P.underlying t = some (.slice e)) (hi : P.info? e = some i) {b n c m c' k : Nat} {ad : Addr} {cs : List Value} {cur : Array Value} {e' : TypeId}
    (hk : min m n = k) (hl : cs.length = k * i.size) (hc : ∀ j v, cs[j]? = some v → w.cell? (ad.add j) = some v) (h1 : ∀ v ∈ cs, v.oneCell' = true) (hg : w.heap[b]? = some (.cells cur e' (0, 0))) (hfit : cs.length ≤ cur.size) :
    (Builtin.copy_ #[t, t'] ty #[.slice (some ⟨b, 0, none⟩) n c, .slice (some ad) m c']).run P w = .ok (.int .i64 (k : Int)) (w.setRow b (cs ++ cur.toList.drop cs.length).toArray) := by
  have hf := run_firstCells_some (P := P) w i.size k ad m c' cs hl hc
  have hst := run_storeCells_at P b 0 e' cs 0 cur w hg (by simpa using hfit) h1
  simp only [Nat.zero_add, List.take_zero, List.nil_append] at hst
  simp [Builtin.copy_, run_underlying ht, sizeOf, typeInfo, hi, Builtin.lenOf, hk, hf, hst, goInt]

theorem effCopy_sound (hT : TabOk P g.T) (h : Rel P A0 w0 ρ s a w) {args : Array Operand} {ts : Array TypeId} (ho : o.op = .call { callee := .builtin .copy, args, argTypes := ts })
    (hk : effK g s o K = some r) : Eff P A0 w0 a w o K r := by
  simp only [effK, ho] at hk
  split at hk
  · rename_i b x t t' hargs hts
    have hS := h.settle (evalO g.T t' s x)
    generalize s.settle (evalO g.T t' s x) = s1 at hk hS
    split at hk
    · rename_i i β hi hb
      split at hk
      · rename_i e u xs nn hch
        obtain ⟨hty, hk1⟩ := ite_some hk
        clear hk
        obtain ⟨ys, hy, hk⟩ := Option.bind_eq_some_iff.1 hk1
        have hc := getD_some hch
        obtain ⟨hu, hF, hs0⟩ := shape_slice (hT.shape hi) (.inl hty)
        obtain ⟨inf, d, f1, f2, f3, f4, f5, f6⟩ := hF.ex
        obtain ⟨l, h1, h2⟩ := valOf_nil (evalO_sound (T := g.T) hS t' x).1 hy
        have hbv : a.eval b = .slice ((ρ β).blk.map fun b => ⟨b, 0, none⟩) (ρ β).len (ρ β).cap := by
          have := (evalO_sound (T := g.T) hS 0 b).1
          rw [hb] at this
          exact this
        have hwhere := args2 hargs
        have hts' := tids2 hts
        subst hwhere hts'
        have hrun : (execOp a.eval o).run P w = Result.andThen ((Builtin.copy_ #[t, t'] o.type #[a.eval b, a.eval x]).run P w) fun v w' => .ok (.value v) w' := by
          simp [execOp, ho, resolve, invoke, builtin]
        have hav : a.eval x = (Ty.slice u).wrap l := h2
        obtain ⟨hxl, hnn, hch1⟩ := (hS.chunks β _ hc).1
        have hset : s1.chunks.set β (some (Chunk.arr e u xs nn)) = s1.chunks := by
          apply List.ext_getElem?
          intro j
          by_cases hj : β = j
          · subst hj
            rw [List.getElem?_set_self (List.getElem?_eq_some_iff.1 hc).1, hc]
          · rw [List.getElem?_set_ne hj]
        have none : (ys : List u.den).take xs.length ++ xs.drop (List.length ys) = xs → min (List.length ys) xs.length = 0 → (Builtin.copy_ #[t, t'] o.type #[a.eval b, a.eval x]).run P w = .ok (.int .i64 0) w → Eff P A0 w0 a w o K r := by
          intro e1 e2 hr
          rw [e1, hset, e2] at hk
          exact Eff.val (by rw [hrun, hr]; rfl) (hS.put o.dst (sv := .val (.int .i64) ((0 : Nat) : Int)) trivial (mk_int .i64 0)) hk
        rcases slice_cells' h1 with ⟨rfl, p, c, rfl⟩ | ⟨b1, off, c, m, rfl, hm1, hm2⟩
        · refine none (by simp) (by simp) ?_
          rw [hbv, hav]
          exact run_copy_zero hu f1 (by simp)
        · rcases hch1 with ⟨q0, q1, q2⟩ | ⟨b0, vs, hb0, hg, hle, hcm, hvs, hel⟩
          · have hx : xs = [] := List.eq_nil_of_length_eq_zero (by omega)
            subst hx
            refine none (by simp) (by simp) ?_
            rw [hbv, hav, q1]
            exact run_copy_zero hu f1 (by simp)
          · have hml := hm2.length
            have e0 : vs.toList.length = vs.size := Array.length_toList
            generalize hkk : min (List.length ys) xs.length = k at hk
            have hmk : k * u.size ≤ m.length := by rw [hml]; exact Nat.mul_le_mul_right _ (by omega)
            have hvk : k * u.size ≤ vs.size := by rw [hvs]; exact Nat.mul_le_mul_right _ (by omega)
            have hcl : (m.take (k * u.size)).length = k * u.size := by rw [List.length_take]; omega
            have hr := run_copy' (P := P) (w := w) (t := t) (t' := t') (ty := o.type) hu f1 (b := b0) (n := (ρ β).len) (c := (ρ β).cap) (m := List.length ys) (c' := c) (k := k) (ad := ⟨b1, off, Option.none⟩) (cs := m.take (k * u.size)) (cur := vs) (e' := e)
              (by omega) (by rw [hcl, f3]) (fun j v hj => by
                rw [addr_add]
                rw [List.getElem?_take] at hj
                split at hj
                · exact hm1 j v hj
                · cases hj) (fun v hv => one_of_plain (Cells.plain hm2 v (List.mem_of_mem_take hv))) hg (by omega)
            rw [hcl] at hr
            have hAb : Av A0 ρ s1.chunks b0 := .inr ⟨β, _, hc, hb0⟩
            have hxs' : ((ys : List u.den).take xs.length ++ xs.drop (List.length ys)).length = xs.length := by simp; omega
            have hW := hS.write (w' := w.setRow b0 (m.take (k * u.size) ++ vs.toList.drop (k * u.size)).toArray) (ch' := .arr e u ((ys : List u.den).take xs.length ++ xs.drop (List.length ys)) nn) hc hb0
              (fun k hk => setRow_other w b0 k _ hk) (setRow_size _ _ _) rfl rfl rfl trivial (fun A hA => by
                have hK : Keep (Av A0 ρ s1.chunks) w (w.setRow b0 (m.take (k * u.size) ++ vs.toList.drop (k * u.size)).toArray) := fun k hk hkA => setRow_other w b0 k _ (fun e => hkA (e ▸ hAb))
                have hA1 : ∀ k, k < w.heap.size → A k → Av A0 ρ s1.chunks k := fun k _ hk => (hA k).1 hk
                refine ⟨hxs'.trans hxl, hnn, .inr ⟨b0, _, hb0, setRow_heap w b0 vs _ e _ hg, hle, hcm, ?_, fun j x hj => ?_⟩⟩
                · simp only [List.size_toArray, List.length_append, List.length_drop, hcl]
                  omega
                · rw [List.toList_toArray]
                  simp only [Cells] at hm2
                  have hml2 : m.length = List.length ys * u.size := hml
                  rcases Nat.lt_or_ge j k with hjk | hjk
                  · have hjk' : j * u.size + u.size ≤ k * u.size := by rw [← Nat.succ_mul]; exact Nat.mul_le_mul_right _ hjk
                    rw [List.drop_append_of_le_length (by omega), List.take_append_of_le_length (by rw [List.length_drop]; omega), List.drop_take, List.take_take, Nat.min_eq_left (by omega)]
                    have hyj : (ys : List u.den)[j]? = some x := by
                      rw [List.getElem?_append_left (by rw [List.length_take]; omega), List.getElem?_take, if_pos (by omega)] at hj
                      exact hj
                    exact (hm2.2.2 j x hyj).mono hK hA1
                  · have hjk' : k * u.size ≤ j * u.size := Nat.mul_le_mul_right _ hjk
                    have hjx : j < xs.length := by rw [← hxs']; exact (List.getElem?_eq_some_iff.1 hj).1
                    have hyk : List.length ys = k := by omega
                    have e5 : (m.take (k * u.size) ++ vs.toList.drop (k * u.size)).drop (j * u.size) = vs.toList.drop (j * u.size) := by
                      rw [List.drop_append, List.drop_eq_nil_of_le (as := m.take (k * u.size)) (by omega), List.nil_append, List.drop_drop, hcl]
                      congr 1
                      omega
                    rw [e5]
                    have hxj : xs[j]? = some x := by
                      rw [List.getElem?_append_right (by rw [List.length_take]; omega), List.getElem?_drop] at hj
                      rw [List.length_take] at hj
                      rw [← hj]
                      congr 1
                      omega
                    exact (hel j x hxj).mono hK hA1)
            refine Eff.val (v := .int .i64 (k : Int)) ?_ (hW.put o.dst (sv := .val (.int .i64) ((k : Nat) : Int)) trivial (mk_int .i64 _)) hk
            rw [hrun, hbv, hav, hb0]
            rw [show Option.map (fun b => (⟨b, 0, Option.none⟩ : Addr)) (some b0) = some ⟨b0, 0, Option.none⟩ from rfl]
            rw [show (Ty.slice u).wrap [Value.slice (some ⟨b1, off, Option.none⟩) (List.length ys) c] = Value.slice (some ⟨b1, off, Option.none⟩) (List.length ys) c from rfl]
            rw [hr]
            rfl
      · cases hk
    · cases hk
  · cases hk

theorem effK_sound (hE : ∀ e ∈ g.E, FnOK P e) (hT : TabOk P g.T) (h : Rel P A0 w0 ρ s a w) (hk : effK g s o K = some r) : Eff P A0 w0 a w o K r := by
  cases ho : o.op with
  | box e x => exact effBox_sound hT h ho hk
  | alloc e => exact effAlloc_sound hT h ho hk
  | store t ad x => exact effStore_sound hE hT h ho hk
  | makeSlice t l c => exact effMake_sound hT h ho hk
  | makeMap t x =>
    cases x with
    | none => exact effMakeMap_sound h ho hk
    | some x => simp only [effK, ho] at hk; cases hk
  | range t x => exact effRange_sound hT h ho hk
  | next it b =>
    cases b with
    | true => exact nextK_sound h ho (by simpa only [effK, ho] using hk)
    | false => simp only [effK, ho] at hk; cases hk
  | insert t m key x => exact putK_sound hE hT h (.inl ho) (by simpa only [effK, ho] using hk)
  | mapUpdate t m key x => exact putK_sound hE hT h (.inr ho) (by simpa only [effK, ho] using hk)
  | buildSlice t n ps => exact effBuild_sound hE hT h ho hk
  | assign x =>
    cases x with
    | const v =>
      cases v with
      | slice p n c =>
        cases p with
        | none =>
          cases n with
          | zero =>
            cases c with
            | zero => exact effNil_sound h ho hk
            | succ c => simp only [effK, ho] at hk; cases hk
          | succ n => simp only [effK, ho] at hk; cases hk
        | some p => simp only [effK, ho] at hk; cases hk
      | _ => simp only [effK, ho] at hk; cases hk
    | _ => simp only [effK, ho] at hk; cases hk
  | call c =>
    obtain ⟨callee, args, ts⟩ := c
    cases callee with
    | builtin b =>
      cases b with
      | append => exact effAppend_sound hT h ho hk
      | copy => exact effCopy_sound hT h ho hk
      | unsafeString => exact strData_sound hT h ho hk
      | _ => simp only [effK, ho] at hk; cases hk
    | _ => simp only [effK, ho] at hk; cases hk
  | _ => simp only [effK, ho] at hk; cases hk
end
end Go.Vx
