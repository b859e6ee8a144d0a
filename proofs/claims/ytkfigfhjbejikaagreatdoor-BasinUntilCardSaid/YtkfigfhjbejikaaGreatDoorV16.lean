/- V16: writes into boxes and into slices of one's own, and copies; and all operations of this kind together. -/
import Derived.Test.YtkfigfhjbejikaaGreatDoorV15
set_option linter.all false
namespace Go.Vx
open Go.RowKit
variable [GT]

section
variable {P : Program} {A0 : Nat → Prop} {w0 : Base} {ρ : Places} {s : St} {a : Act} {w w' : World} {g : G} {R : Type} {K : St → Option R} {r : R} {o : Oper}

theorem run_storeAt' {t : TypeId} {u : Ty} (hF : Fits P t u) {v : Value} {l : List Value} {b off : Nat} {cur : Array Value} {e : TypeId} (hv : v.cells = l.toArray) (hl : l.length = u.size) (h1 : ∀ x ∈ l, x.oneCell' = true)
    (hg : w.heap[b]? = some (.cells cur e (0, 0))) (hfit : off + l.length ≤ cur.size) :
    (Instr.storeAt t (.pointer (some ⟨b, off, none⟩)) v).run P w = .ok () (w.setRow b (cur.toList.take off ++ l ++ cur.toList.drop (off + l.length)).toArray) := by
  obtain ⟨inf, d, f1, f2, f3, _⟩ := hF.ex
  have hst := run_storeCells_at P b off e l 0 cur w hg (by simpa using hfit) h1
  simp only [Nat.add_zero] at hst
  simp only [Instr.storeAt, Instr.sureAddr, Sem.run_bind, Sem.run_pure, Result.andThen_ok, storeVar, run_sizeOf f1, hv, List.size_toArray, f3]
  rw [if_neg (by rw [hl]; simp)]
  simpa using hst

theorem setRow_size (w : World) (g : Nat) (cs : Array Value) : (w.setRow g cs).heap.size = w.heap.size := by simp [World.setRow]

theorem scalar_cells {A : Nat → Prop} {sv : SV} {v : Value} (hs : sv.scalar = true) (h : SVRel P A w ρ sv v) : v.cells = [v].toArray ∧ v.oneCell' = true := by
  cases sv with
  | undef => cases hs
  | tup t x => cases hs
  | gone => cases hs
  | val t x =>
    simp only [SV.scalar, Bool.not_eq_true'] at hs
    obtain ⟨l, hl, rfl⟩ := h
    have h1 := hl.length
    rw [size_one hs] at h1
    obtain ⟨v, rfl⟩ := List.length_eq_one_iff.1 h1
    have h2 : t.wrap [v] = v := by simp [Ty.wrap, hs]
    have hp := Cells.plain hl v (by simp)
    rw [h2]
    exact ⟨by cases v <;> first | rfl | (simp [Value.plain1] at hp), one_of_plain hp⟩
  | bptr β off => obtain ⟨b, _, rfl⟩ := h; exact ⟨rfl, rfl⟩
  | own β => cases h; exact ⟨rfl, rfl⟩
  | eptr β i sz off => obtain ⟨b, _, rfl⟩ := h; exact ⟨rfl, rfl⟩
  | clo f caps => obtain ⟨vs, rfl, _⟩ := h; exact ⟨rfl, rfl⟩
  | nils => cases h; exact ⟨rfl, rfl⟩
  | mown β => simp only [SVRel] at h; subst h; exact ⟨rfl, rfl⟩
  | yld β => obtain ⟨b, _, rfl⟩ := h; exact ⟨rfl, rfl⟩
  | mayp β e => obtain ⟨_, b, _, rfl | rfl⟩ := h <;> exact ⟨rfl, rfl⟩

theorem Rel.forget (h : Rel P A0 w0 ρ s a w) (d : Option Nat) : Rel P A0 w0 ρ (s.put d .undef) a w := by
  cases d with
  | none => exact h
  | some d =>
    have hg : ∀ (i : Nat) (x : SV), (s.slots.set d .undef)[i]? = some x → x = .undef ∨ s.slots[i]? = some x := by
      intro i x hi
      by_cases hd : d = i
      · subst hd
        rcases Nat.lt_or_ge d s.slots.length with hl | hl
        · rw [List.getElem?_set_self hl] at hi; cases hi; exact .inl rfl
        · rw [List.getElem?_eq_none (by simpa using hl)] at hi; cases hi
      · rw [List.getElem?_set_ne hd] at hi; exact .inr hi
    refine ⟨by simp [St.put, h.size], fun i x hi => ?_, h.chunks, h.inj, fun i x hi => ?_, h.cnames, h.below, h.dom, h.defers, h.dep, h.lpi, h.round, h.glob, h.ksize, h.kslots, h.knames⟩
    · rcases hg i x hi with rfl | hi
      · trivial
      · exact h.slots i x hi
    · rcases hg i x hi with rfl | hi
      · trivial
      · exact h.names i x hi

theorem Rel.freezeIf (h : Rel P A0 w0 ρ s a w) (g : G) (x : Operand) : Rel P A0 w0 ρ (Vx.freezeIf g s x) a w := by
  unfold Vx.freezeIf
  split
  · split
    · split
      · exact h.freeze _
      · exact h
    · exact h
  · exact h

/-- A box is written. -/
theorem Rel.writeBox (h : Rel P A0 w0 ρ s a w) {β b off : Nat} {u : Ty} {cells svs : List SV} {vs : Array Value} {e : TypeId} {l : List Value} (hβ : s.chunks[β]? = some (some (.box u cells))) (hb : (ρ β).blk = some b)
    (hg : w.heap[b]? = some (.cells vs e (0, 0))) (hc : CellsRel P (Av A0 ρ s.chunks) w ρ cells vs.toList) (hin : ∀ sv ∈ svs, sv.inn s.chunks.length) (hs : CellsRel P (Av A0 ρ s.chunks) w ρ svs l) :
    Rel P A0 w0 ρ { s with chunks := s.chunks.set β (some (.box u (cells.take off ++ svs ++ cells.drop (off + svs.length)))) } a (w.setRow b (vs.toList.take off ++ l ++ vs.toList.drop (off + l.length)).toArray) := by
  have hAb : Av A0 ρ s.chunks b := .inr ⟨β, _, hβ, hb⟩
  have hci := h.cnames β _ hβ
  refine h.write (ch' := .box u _) hβ hb (fun n hn => setRow_other w b n _ hn) (setRow_size _ _ _) rfl rfl rfl (fun sv hsv => ?_) (fun A hA => ?_)
  · rcases List.mem_append.1 hsv with hsv | hsv
    · rcases List.mem_append.1 hsv with hsv | hsv
      · exact hci sv (List.mem_of_mem_take hsv)
      · exact hin sv hsv
    · exact hci sv (List.mem_of_mem_drop hsv)
  · have hK : Keep (Av A0 ρ s.chunks) w (w.setRow b (vs.toList.take off ++ l ++ vs.toList.drop (off + l.length)).toArray) := fun n hn hnA => setRow_other w b n _ (fun e => hnA (e ▸ hAb))
    have hfin : CellsRel P (Av A0 ρ s.chunks) w ρ (cells.take off ++ svs ++ cells.drop (off + svs.length)) (vs.toList.take off ++ l ++ vs.toList.drop (off + l.length)) := by
      rw [hs.1]
      exact ((hc.take off).append hs).append (hc.drop _)
    have he : (ρ β).len = e := by
      obtain ⟨b', vs', e', hb', hg', ⟨_, he'⟩, _⟩ := (h.chunks β _ hβ).1
      rw [hb] at hb'; cases hb'
      rw [hg] at hg'; cases hg'
      exact he'
    refine ⟨b, _, e, hb, setRow_heap w b vs _ e _ hg, ⟨by simpa using hfin.1, he⟩, fun i sv hi => ?_⟩
    obtain ⟨v, hv, hr⟩ := hfin.2 i sv hi
    exact ⟨v, by simpa using hv, hr.mono hK (fun n _ hn => (hA n).1 hn)⟩

theorem effStore_sound (hE : ∀ e ∈ g.E, FnOK P e) (hT : TabOk P g.T) (h : Rel P A0 w0 ρ s a w) {t : TypeId} {ad x : Operand} (ho : o.op = .store t ad x) (hk : effK g s o K = some r) : Eff P A0 w0 a w o K r := by
  simp only [effK, ho] at hk
  split at hk
  · rename_i i β off hi had
    have hF := hT.fits hi
    obtain ⟨b, hb, hav⟩ : ∃ b, (ρ β).blk = some b ∧ a.eval ad = .pointer (some ⟨b, off, none⟩) := by
      have := (evalO_sound (T := g.T) h 0 ad).1
      rw [had] at this
      exact this
    split at hk
    · rename_i u cells hch
      have hc := getD_some hch
      obtain ⟨b', vs, e, hb', hg, ⟨hlen, _⟩, hcr⟩ := (h.chunks β _ hc).1
      rw [hb] at hb'; cases hb'
      have hCR : CellsRel P (Av A0 ρ s.chunks) w ρ cells vs.toList := ⟨by simpa using hlen, fun i sv hi => by simpa using hcr i sv hi⟩
      split at hk
      · simp only [Option.bind_eq_some_iff] at hk
        obtain ⟨y, hy, hk⟩ := hk
        obtain ⟨hfit, hk⟩ := ite_some hk
        obtain ⟨l, h1, h2⟩ := valOf_nil (evalO_sound (T := g.T) h t x).1 hy
        have hsc := scatter_sound (ρ := ρ) i.ty y l h1
        have hll := h1.length
        have hW := h.writeBox (off := off) hc hb hg hCR (scatter_in _ _ _) hsc
        rw [show off + (scatter i.ty y).length = off + i.ty.size by rw [← hsc.1, hll]] at hW
        refine Eff.skip (w' := _) ?_ ((hW.put o.dst (sv := .undef) (v := undef) trivial trivial).freezeIf g ad) hk
        have hrun := run_storeAt' (P := P) hF (v := a.eval x) (l := l) (b := b) (off := off) (cur := vs) (e := e) (by rw [h2]; exact cells_wrap h1) hll (fun v hv => one_of_plain (Cells.plain h1 v hv)) hg (by omega)
        simp only [execOp, ho, Sem.run_bind, hav, hrun, Result.andThen_ok, Sem.run_pure]
      · rename_i hagg
        obtain ⟨⟨hsc, hfit⟩, hk⟩ := ite_some hk
        have hsv := (asFn_sound hE i.ty (evalO_sound (T := g.T) h t x).1 (evalO_sound (T := g.T) h t x).2)
        obtain ⟨hvc, h1⟩ := scalar_cells hsc hsv.1
        have hs1 : i.ty.size = 1 := size_one (by simpa using hagg)
        have hW := h.writeBox (off := off) (svs := [asFn g.E i.ty (evalO g.T t s x)]) (l := [a.eval x]) hc hb hg hCR (fun sv hsv' => by simp only [List.mem_singleton] at hsv'; subst hsv'; exact hsv.2) (CellsRel.one hsv.1)
        have e1 : cells.take off ++ [asFn g.E i.ty (evalO g.T t s x)] ++ cells.drop (off + [asFn g.E i.ty (evalO g.T t s x)].length) = cells.set off (asFn g.E i.ty (evalO g.T t s x)) := by
          rw [List.set_eq_take_append_cons_drop, if_pos hfit]
          simp
        rw [e1] at hW
        refine Eff.skip (w' := _) ?_ ((hW.put o.dst (sv := .undef) (v := undef) trivial trivial).freezeIf g ad) hk
        have hrun := run_storeAt' (P := P) hF (v := a.eval x) (l := [a.eval x]) (b := b) (off := off) (cur := vs) (e := e) hvc (by rw [hs1]; rfl) (fun v hv => by simp only [List.mem_singleton] at hv; subst hv; exact h1) hg (by simp only [List.length_singleton]; omega)
        simp only [execOp, ho, Sem.run_bind, hav, hrun, Result.andThen_ok, Sem.run_pure]
    · cases hk
  · rename_i i β n sz off hi had
    have hF := hT.fits hi
    have hS := h.settle (evalO g.T t s x)
    obtain ⟨b, hb, hav⟩ : ∃ b, (ρ β).blk = some b ∧ a.eval ad = .pointer (some ⟨b, n * sz + off, none⟩) := by
      have := (evalO_sound (T := g.T) h 0 ad).1
      rw [had] at this
      exact this
    generalize s.settle (evalO g.T t s x) = s1 at hk hS
    split at hk
    · rename_i e u xs nn hch
      have hc := getD_some hch
      obtain ⟨hsz, hk1⟩ := ite_some hk
      clear hk
      subst hsz
      obtain ⟨y, hy, hk2⟩ := Option.bind_eq_some_iff.1 hk1
      obtain ⟨z, hz, hk3⟩ := Option.bind_eq_some_iff.1 hk2
      obtain ⟨y', hy', hk⟩ := Option.bind_eq_some_iff.1 hk3
      obtain ⟨l, h1, h2⟩ := valOf_nil (evalO_sound (T := g.T) hS t x).1 hz
      have hll := h1.length
      have hn : n < xs.length := (List.getElem?_eq_some_iff.1 hy).1
      obtain ⟨hxl, hnn, ⟨hq, _⟩ | ⟨b', vs, hb', hg, hle, hm, hvs, hel⟩⟩ := (hS.chunks β _ hc).1
      · rw [hb] at hq; cases hq
      rw [hb] at hb'; cases hb'
      have hrow : n * u.size + u.size ≤ vs.toList.length := by
        have e1 : vs.toList.length = vs.size := Array.length_toList
        have : (n + 1) * u.size ≤ (ρ β).cap * u.size := Nat.mul_le_mul_right _ (by omega)
        rw [Nat.succ_mul] at this
        omega
      obtain ⟨h3, h4⟩ := updAt_sound u y off i.ty z y' _ l (hel n y hy) h1 hy'
      have hu1 : ((vs.toList.drop (n * u.size)).take u.size).length = u.size := by rw [List.length_take, List.length_drop]; omega
      rw [hu1] at h3
      have hrun := run_storeAt' (P := P) hF (v := a.eval x) (l := l) (b := b) (off := n * u.size + off) (cur := vs) (e := e) (by rw [h2]; exact cells_wrap h1) hll (fun v hv => one_of_plain (Cells.plain h1 v hv)) hg (by
        have e1 : vs.toList.length = vs.size := Array.length_toList
        omega)
      have hAb : Av A0 ρ s1.chunks b := .inr ⟨β, _, hc, hb⟩
      have hfit : n * u.size + off + l.length ≤ vs.toList.length := by omega
      have hW := hS.write (w' := w.setRow b (vs.toList.take (n * u.size + off) ++ l ++ vs.toList.drop (n * u.size + off + l.length)).toArray) (ch' := .arr e u (xs.set n y') nn) hc hb (fun k hk => setRow_other w b k _ hk) (setRow_size _ _ _) rfl rfl rfl trivial (fun A hA => by
        have hK : Keep (Av A0 ρ s1.chunks) w (w.setRow b (vs.toList.take (n * u.size + off) ++ l ++ vs.toList.drop (n * u.size + off + l.length)).toArray) := fun k hk hkA => setRow_other w b k _ (fun e => hkA (e ▸ hAb))
        have hA1 : ∀ k, k < w.heap.size → A k → Av A0 ρ s1.chunks k := fun k _ hk => (hA k).1 hk
        refine ⟨by simpa using hxl, hnn, .inr ⟨b, _, hb, setRow_heap w b vs _ e _ hg, hle, hm, ?_, fun j x hj => ?_⟩⟩
        · have e1 : vs.toList.length = vs.size := Array.length_toList
          simp only [List.size_toArray, List.length_append, List.length_take, List.length_drop]
          omega
        · rw [List.toList_toArray]
          by_cases hnj : n = j
          · subst hnj
            rw [List.getElem?_set_self hn] at hj
            cases hj
            have e2 : ((vs.toList.take (n * u.size + off) ++ l ++ vs.toList.drop (n * u.size + off + l.length)).drop (n * u.size)).take u.size = ((vs.toList.drop (n * u.size)).take u.size).take off ++ l ++ ((vs.toList.drop (n * u.size)).take u.size).drop (off + l.length) := by
              apply List.ext_getElem?
              intro k
              have e3 := write_get (l := (vs.toList.drop (n * u.size)).take u.size) (m := l) (o := off) (by rw [hu1]; exact h3) k
              rw [part_get, e3]
              by_cases hk : k < u.size
              · rw [if_pos hk, write_get hfit, part_get, if_pos hk]
                by_cases h5 : k < off
                · rw [if_pos h5, if_pos (by omega)]
                · rw [if_neg h5, if_neg (by omega)]
                  by_cases h6 : k < off + l.length
                  · rw [if_pos h6, if_pos (by omega)]
                    congr 1
                    omega
                  · rw [if_neg h6, if_neg (by omega)]
              · rw [if_neg hk, if_neg (by omega), if_neg (by omega), part_get, if_neg hk]
            rw [e2]
            exact h4.mono hK hA1
          · rw [List.getElem?_set_ne hnj] at hj
            have e2 : ((vs.toList.take (n * u.size + off) ++ l ++ vs.toList.drop (n * u.size + off + l.length)).drop (j * u.size)).take u.size = (vs.toList.drop (j * u.size)).take u.size := by
              apply List.ext_getElem?
              intro k
              rw [part_get, part_get]
              split
              · rename_i hk
                rw [write_get hfit]
                rcases Nat.lt_or_gt_of_ne hnj with h | h
                · have h5 : (n + 1) * u.size ≤ j * u.size := Nat.mul_le_mul_right _ h
                  rw [Nat.succ_mul] at h5
                  rw [if_neg (by omega), if_neg (by omega)]
                · have h5 : (j + 1) * u.size ≤ n * u.size := Nat.mul_le_mul_right _ h
                  rw [Nat.succ_mul] at h5
                  rw [if_pos (by omega)]
              · rfl
            rw [e2]
            exact (hel j x hj).mono hK hA1)
      refine Eff.skip (w' := _) ?_ (hW.put o.dst (sv := .undef) (v := undef) trivial trivial) hk
      simp only [execOp, ho, Sem.run_bind, hav, hrun, Result.andThen_ok, Sem.run_pure]
    · cases hk
  · cases hk
end
end Go.Vx
