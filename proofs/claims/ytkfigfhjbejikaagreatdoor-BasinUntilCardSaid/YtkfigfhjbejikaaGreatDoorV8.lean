/- V8: more operations that turn no block of one's own are sound: fields, elements, parts, new values. -/
import Derived.Test.YtkfigfhjbejikaaGreatDoorV7
set_option linter.all false
namespace Go.Vx
open Go.RowKit
variable [GT]

section
variable {P : Program} {A0 : Nat → Prop} {w0 : Base} {ρ : Places} {s : St} {a : Act} {w w' : World} {g : G} {R : Type} {K : SV → Option R} {r : R} {o : Oper}

/-! ### Fields -/
theorem run_fieldAt {t : TypeId} {b off f : Nat} {fs : Array Field} {fd : Field} {u : Ty} (hu : P.underlying t = some (.struct fs)) (hf : fs[f]? = some fd) (hF : Fits P fd.type u) (h0 : u.size ≠ 0) :
    (Instr.fieldAt t (.pointer (some ⟨b, off, none⟩)) f).run P w = .ok (.pointer (some ⟨b, off + fd.offset, none⟩)) w := by
  obtain ⟨inf, d, h1, h2, h3, _⟩ := hF.ex
  have h3' : inf.size ≠ 0 := by rw [h3]; exact h0
  simp [Instr.fieldAt, run_underlying hu, hf, Instr.sureAddr, fieldPlace, run_sizeOf h1, h3', addr_add]

theorem shape_pair {t : TypeId} {i : TyI} (h : shapeB P t i = true) (hp : i.ty.isPair = true) : ∃ fs : Array Field, P.underlying t = some (.struct fs) ∧ i.fields = fs.toList.map (fun f => (f.offset, f.type)) ∧ structB P fs.toList 0 i.ty = true := by
  unfold shapeB at h
  cases hty : i.ty <;> rw [hty] at hp <;> simp [Ty.isPair] at hp
  rw [hty] at h
  cases hu : P.underlying t with
  | none => rw [hu] at h; cases h
  | some d =>
    rw [hu] at h
    cases d <;> first
      | (simp only [Bool.and_eq_true, decide_eq_true_eq] at h
         exact ⟨_, rfl, h.1, h.2⟩)
      | cases h

theorem structB_field : ∀ (t : Ty) (fs : List Field) (off f : Nat) (fd : Field), structB P fs off t = true → fs[f]? = some fd → ∃ u : Ty, Fits P fd.type u ∧ u.size ≠ 0 := by
  intro t
  induction t with
  | pair a b iha ihb =>
    intro fs off f fd hB hf
    cases fs with
    | nil => simp at hf
    | cons x fs =>
      simp only [structB, Bool.and_eq_true, beq_iff_eq, Bool.not_eq_true', beq_eq_false_iff_ne] at hB
      cases f with
      | zero => simp at hf; subst hf; exact ⟨a, fits_of hB.1.2, hB.1.1.2⟩
      | succ f => exact ihb fs _ f fd hB.2 (by simpa using hf)
  | unit =>
    intro fs off f fd hB hf
    cases fs with
    | nil => simp at hf
    | cons x fs => simp [structB] at hB
  | _ =>
    intro fs off f fd hB hf
    cases fs <;> simp [structB] at hB

theorem field_pair {t : TypeId} {i : TyI} (h : shapeB P t i = true) (hp : i.ty.isPair = true) {f : Nat} {p : Nat × TypeId} (hf : i.fields[f]? = some p) :
    ∃ (fs : Array Field) (fd : Field) (u : Ty), P.underlying t = some (.struct fs) ∧ fs[f]? = some fd ∧ Fits P fd.type u ∧ u.size ≠ 0 ∧ p = (fd.offset, fd.type) := by
  obtain ⟨fs, h1, h2, h3⟩ := shape_pair h hp
  rw [h2, List.getElem?_map, Option.map_eq_some_iff] at hf
  obtain ⟨fd, h4, rfl⟩ := hf
  obtain ⟨u, h5, h6⟩ := structB_field _ _ _ _ _ h3 h4
  exact ⟨fs, fd, u, h1, by simpa using h4, h5, h6, rfl⟩

theorem fieldOf_pair {t : Ty} {x : t.den} {f : Nat} {tv : TV} (h : fieldOf t x f = some tv) : t.isPair = true := by
  cases t <;> simp_all [fieldOf, Ty.isPair]

theorem fieldAddr_sound (hT : TabOk P g.T) (h : Rel P A0 w0 ρ s a w) {t : TypeId} {x : Operand} {f : Nat} (ho : o.op = .fieldAddr t x f) (hk : pureK g s o K = some r) : Yld P A0 ρ s a w o K r := by
  simp only [pureK, ho] at hk
  have hx := (evalO_sound (T := g.T) h 0 x).1
  have hxn := (evalO_sound (T := g.T) h 0 x).2
  have hex : execOp a.eval o = (do pure (.value (← Instr.fieldAt t (a.eval x) f))) := by simp only [execOp, ho]
  split at hk
  · rename_i i u y hi he
    rw [he] at hx
    split at hk
    · rename_i hu
      subst hu
      simp only [Option.bind_eq_some_iff] at hk
      obtain ⟨tv, hf, hk⟩ := hk
      obtain ⟨b, off, l, hv, h1, h2, h3, h4⟩ := ref_inv hx
      obtain ⟨fs, h5, h6, h7⟩ := shape_pair (hT.shape hi) (fieldOf_pair hf)
      obtain ⟨fd, h8, h9, h10, h11, h12, h13⟩ := fieldOf_sound _ _ _ _ _ _ _ h7 h4 hf
      have h14 := h3.sub fd.offset tv.t.size
      exact Yld.of_run (sv := .val (.ref tv.t) tv.x) hex (by rw [hv]; exact run_fieldAt h5 (by simpa using h8) h9 h10) (mk_ref h1 h2 h14 (by simpa using h13)) trivial hk
    · cases hk
  · rename_i i β off hi he
    rw [he] at hx hxn
    obtain ⟨b, hb, hv⟩ := hx
    split at hk
    · rename_i hp
      simp only [Option.bind_eq_some_iff] at hk
      obtain ⟨p, hf, hk⟩ := hk
      obtain ⟨fs, fd, u, h1, h2, h3, h4, rfl⟩ := field_pair (hT.shape hi) hp hf
      exact Yld.of_run (sv := .bptr β (off + fd.offset)) hex (by rw [hv]; exact run_fieldAt h1 h2 h3 h4) ⟨b, hb, rfl⟩ hxn hk
    · cases hk
  · rename_i i β n sz off hi he
    rw [he] at hx hxn
    obtain ⟨b, hb, hv⟩ := hx
    split at hk
    · rename_i hp
      simp only [Option.bind_eq_some_iff] at hk
      obtain ⟨p, hf, hk⟩ := hk
      obtain ⟨fs, fd, u, h1, h2, h3, h4, rfl⟩ := field_pair (hT.shape hi) hp hf
      exact Yld.of_run (sv := .eptr β n sz (off + fd.offset)) hex (by rw [hv]; exact run_fieldAt h1 h2 h3 h4) ⟨b, hb, by rw [Nat.add_assoc]⟩ hxn hk
    · cases hk
  · cases hk

theorem agg_inv {A : Nat → Prop} {t : Ty} {x : t.den} {v : Value} (ht : t.agg = true) (h : SVRel P A w ρ (.val t x) v) : ∃ l, Cells P t A w x l ∧ v = .agg l.toArray := by
  obtain ⟨l, hl, rfl⟩ := h
  exact ⟨l, hl, by simp [Ty.wrap, ht]⟩

theorem field_sound (hT : TabOk P g.T) (h : Rel P A0 w0 ρ s a w) {t : TypeId} {x : Operand} {f : Nat} (ho : o.op = .field t x f) (hk : pureK g s o K = some r) : Yld P A0 ρ s a w o K r := by
  simp only [pureK, ho] at hk
  have hx := (evalO_sound (T := g.T) h 0 x).1
  have hex : execOp a.eval o = (do pure (.value (← Instr.field t (a.eval x) f))) := by simp only [execOp, ho]
  split at hk
  · rename_i i u y hi he
    rw [he] at hx
    split at hk
    · rename_i hu
      subst hu
      simp only [Option.bind_eq_some_iff] at hk
      obtain ⟨tv, hf, hk⟩ := hk
      have hp := fieldOf_pair hf
      obtain ⟨l, hl, hv⟩ := agg_inv (by cases hty : i.ty <;> simp_all [Ty.isPair, Ty.agg]) hx
      obtain ⟨fs, h5, h6, h7⟩ := shape_pair (hT.shape hi) hp
      obtain ⟨fd, h8, h9, h10, h11, h12, h13⟩ := fieldOf_sound _ _ _ _ _ _ _ h7 hl hf
      refine Yld.of_run (sv := .val tv.t tv.x) (v := tv.t.wrap ((l.drop fd.offset).take tv.t.size)) hex ?_ ⟨_, by simpa using h13, rfl⟩ trivial hk
      rw [hv]
      have hrp := run_part (w := w) h9 (cs := l.toArray) (off := fd.offset) (by simpa using h12)
      have h8' : fs[f]? = some fd := by simpa using h8
      simp only [Instr.field, Sem.run_bind, run_underlying h5, Result.andThen_ok, h8', asAgg, Sem.run_pure]
      simpa using hrp
    · cases hk
  · cases hk

/-! ### Elements -/
theorem run_indexAt_slice {t e : TypeId} {k : IntKind} {n : Int} {b off len c : Nat} {u : Ty} (hu : P.underlying t = some (.slice e)) (hF : Fits P e u) (h0 : 0 ≤ n) (h1 : n < (len : Int)) :
    (Instr.indexAt t (.slice (some ⟨b, off, none⟩) len c) (.int k n)).run P w = .ok (.pointer (some ⟨b, off + n.toNat * u.size, none⟩)) w := by
  obtain ⟨inf, d, h2, h3, h4, _⟩ := hF.ex
  by_cases hl : len ≤ 1 <;> simp [Instr.indexAt, asIntOf, run_underlying hu, h0, h1, run_sizeOf h2, h4, addr_add]

theorem run_indexAt_arr {t e : TypeId} {k : IntKind} {n : Int} {b off len : Nat} {u : Ty} (hu : P.underlying t = some (.array len e)) (hF : Fits P e u) (h0 : 0 ≤ n) (h1 : n < (len : Int)) :
    (Instr.indexAt t (.pointer (some ⟨b, off, none⟩)) (.int k n)).run P w = .ok (.pointer (some ⟨b, off + n.toNat * u.size, none⟩)) w := by
  obtain ⟨inf, d, h2, h3, h4, _⟩ := hF.ex
  by_cases hl : len ≤ 1 <;> simp [Instr.indexAt, asIntOf, run_underlying hu, h0, h1, run_sizeOf h2, h4, addr_add, Instr.sureAddr]

theorem shape_arr {t : TypeId} {i : TyI} {n : Nat} {u : Ty} (h : shapeB P t i = true) (hty : i.ty = .arr n u) : P.underlying t = some (.array n i.elem) ∧ Fits P i.elem u ∧ u.size ≠ 0 := by
  unfold shapeB at h
  rw [hty] at h
  cases hu : P.underlying t with
  | none => rw [hu] at h; cases h
  | some d =>
    rw [hu] at h
    cases d <;> first
      | (simp only [Bool.and_eq_true, beq_iff_eq, Bool.not_eq_true', beq_eq_false_iff_ne] at h
         exact ⟨by rw [h.1.1.1, h.1.1.2], fits_of (h.1.1.2 ▸ h.1.2), h.2⟩)
      | cases h

theorem shape_ref {t : TypeId} {i : TyI} {u : Ty} (h : shapeB P t i = true) (hty : i.ty = .ref u) : P.underlying t = some (.pointer i.elem) := by
  unfold shapeB at h
  rw [hty] at h
  split at h <;> simp_all

theorem shape_str {t : TypeId} {i : TyI} (h : shapeB P t i = true) (hty : i.ty = .str) : P.underlying t = some .string := by
  unfold shapeB at h
  rw [hty] at h
  cases hu : P.underlying t with
  | none => rw [hu] at h; cases h
  | some d => rw [hu] at h; cases d <;> first | rfl | cases h

theorem elemIs_or {t u : Ty} (h : t.elemIs u = true) : t = .slice u ∨ t = .nslice u := by
  simpa [Ty.elemIs] using h

theorem idx_some {α : Type} {xs : List α} {n : Int} {y : α} (h : idx xs n = some y) : 0 ≤ n ∧ xs[n.toNat]? = some y ∧ n < (xs.length : Int) := by
  unfold idx at h
  split at h
  · rename_i h0
    have := (List.getElem?_eq_some_iff.1 h).1
    exact ⟨h0, h, by omega⟩
  · cases h

theorem slice_elem {A : Nat → Prop} {u : Ty} {xs : List u.den} {p : Option Addr} {c : Nat}
    (h3 : ∀ (i : Nat) (x : u.den), xs[i]? = some x → ∃ (a : Addr) (l' : List Value), p = some a ∧ a.spot = none ∧ ¬ A a.block ∧ a.block < w.heap.size ∧ CellsAt w a.block (a.off + i * u.size) l' ∧ Cells P u A w x l')
    {t e : TypeId} {k : IntKind} {n : Int} {y : u.den} (hu : P.underlying t = some (.slice e)) (hF : Fits P e u) (hn : idx xs n = some y) :
    ∃ v, (Instr.indexAt t (.slice p xs.length c) (.int k n)).run P w = .ok v w ∧ SVRel P A w ρ (.val (.ref u) y) v := by
  obtain ⟨h0, h1, h2⟩ := idx_some hn
  obtain ⟨⟨b, off, sp⟩, l, rfl, hs, h4, h5, h6, h7⟩ := h3 _ _ h1
  simp only at hs
  subst hs
  exact ⟨_, run_indexAt_slice hu hF h0 h2, mk_ref h4 h5 h6 h7⟩

theorem indexAddr_sound (hT : TabOk P g.T) (h : Rel P A0 w0 ρ s a w) {t : TypeId} {x ix : Operand} (ho : o.op = .indexAddr t x ix) (hk : pureK g s o K = some r) : Yld P A0 ρ s a w o K r := by
  simp only [pureK, ho] at hk
  have hx := (evalO_sound (T := g.T) h t x).1
  have hxn := (evalO_sound (T := g.T) h t x).2
  have hix := (evalO_sound (T := g.T) h 0 ix).1
  have hex : execOp a.eval o = (do pure (.value (← Instr.indexAt t (a.eval x) (a.eval ix)))) := by simp only [execOp, ho]
  split at hk
  · rename_i i k n u xs hi he1 he2
    rw [he1] at hix
    rw [he2] at hx
    split at hk
    · rename_i hel
      simp only [Option.bind_eq_some_iff] at hk
      obtain ⟨y, hy, hk⟩ := hk
      obtain ⟨h1, h2, _⟩ := shape_slice (hT.shape hi) (elemIs_or hel)
      obtain ⟨l, hl, hv⟩ := hx
      simp only [Cells] at hl
      obtain ⟨p, c, rfl, _, _, h3⟩ := hl
      obtain ⟨v, h4, h5⟩ := slice_elem (ρ := ρ) (k := k) (c := c) h3 h1 h2 hy
      exact Yld.of_run (sv := .val (.ref u) y) hex (by rw [hv, int_inv hix]; exact h4) h5 trivial hk
    · cases hk
  · rename_i i k n u xs hi he1 he2
    rw [he1] at hix
    rw [he2] at hx
    split at hk
    · rename_i hel
      simp only [Option.bind_eq_some_iff] at hk
      obtain ⟨y, hy, hk⟩ := hk
      obtain ⟨h1, h2, _⟩ := shape_slice (hT.shape hi) (elemIs_or hel)
      obtain ⟨l, hl, hv⟩ := hx
      simp only [Cells] at hl
      obtain ⟨p, c, rfl, _, _, _, _, h3⟩ := hl
      obtain ⟨v, h4, h5⟩ := slice_elem (ρ := ρ) (k := k) (c := c) h3 h1 h2 hy
      exact Yld.of_run (sv := .val (.ref u) y) hex (by rw [hv, int_inv hix]; exact h4) h5 trivial hk
    · cases hk
  · rename_i i k n m u xs hi he1 he2
    rw [he1] at hix
    rw [he2] at hx
    split at hk
    · rename_i hty
      simp only [Option.bind_eq_some_iff] at hk
      obtain ⟨y, hy, hk⟩ := hk
      obtain ⟨h1, h2, _⟩ := shape_arr (hT.shape hi) hty
      obtain ⟨b, off, l, hv, h3, h4, h5, h6⟩ := ref_inv hx
      simp only [Cells] at h6
      obtain ⟨h7, h8, h9⟩ := h6
      obtain ⟨h10, h11, h12⟩ := idx_some hy
      refine Yld.of_run (sv := .val (.ref u) y) hex (by rw [hv, int_inv hix]; exact run_indexAt_arr h1 h2 h10 (by omega)) (mk_ref h3 h4 (h5.sub (n.toNat * u.size) u.size) (h9 _ _ h11)) trivial hk
    · cases hk
  · rename_i i k n β hi he1 he2
    rw [he1] at hix
    rw [he2] at hx hxn
    split at hk
    · rename_i e u xs nn hch
      split at hk
      · rename_i hel
        simp only [Option.bind_eq_some_iff] at hk
        obtain ⟨y, hy, hk⟩ := hk
        obtain ⟨h1, h2, _⟩ := shape_slice (hT.shape hi) (elemIs_or hel)
        obtain ⟨h3, h4, h5⟩ := idx_some hy
        have hc := (h.chunks β _ (getD_some hch)).1
        obtain ⟨b, l, hb, h6, h7⟩ := arr_at hc h4
        obtain ⟨hlen, _⟩ := hc
        simp only [SVRel] at hx
        rw [hb] at hx
        refine Yld.of_run (sv := .eptr β n.toNat u.size 0) (v := .pointer (some ⟨b, n.toNat * u.size + 0, none⟩)) hex ?_ ⟨b, hb, rfl⟩ hxn hk
        rw [hx, int_inv hix, Option.map_some]
        have := run_indexAt_slice (P := P) (w := w) (k := k) (b := b) (off := 0) (len := (ρ β).len) (c := (ρ β).cap) h1 h2 h3 (by rw [← hlen]; exact h5)
        simpa using this
      · cases hk
    · cases hk
  · rename_i i k n β off hi he1 he2
    rw [he1] at hix
    rw [he2] at hx hxn
    split at hk
    · rename_i m u hty
      cases hb : (decide (0 ≤ n) && decide (n < (m : Int))) with
      | false => simp [hb] at hk
      | true =>
        simp only [hb, cond_true] at hk
        simp only [Bool.and_eq_true, decide_eq_true_eq] at hb
        obtain ⟨h1, h2, _⟩ := shape_arr (hT.shape hi) hty
        obtain ⟨b, hbk, hv⟩ := hx
        exact Yld.of_run (sv := .bptr β (off + n.toNat * u.size)) hex (by rw [hv, int_inv hix]; exact run_indexAt_arr h1 h2 hb.1 hb.2) ⟨b, hbk, rfl⟩ hxn hk
    · cases hk
  · cases hk

theorem index_sound (hT : TabOk P g.T) (h : Rel P A0 w0 ρ s a w) {t : TypeId} {x ix : Operand} (ho : o.op = .index t x ix) (hk : pureK g s o K = some r) : Yld P A0 ρ s a w o K r := by
  simp only [pureK, ho] at hk
  have hx := (evalO_sound (T := g.T) h t x).1
  have hix := (evalO_sound (T := g.T) h 0 ix).1
  have hex : execOp a.eval o = (do pure (.value (← Instr.index t (a.eval x) (a.eval ix)))) := by simp only [execOp, ho]
  split at hk
  · rename_i i k n bs hi he1 he2
    rw [he1] at hix
    rw [he2] at hx
    split at hk
    · rename_i hty
      simp only [Option.bind_eq_some_iff] at hk
      obtain ⟨c, hc, hk⟩ := hk
      obtain ⟨h1, h2, h3⟩ := idx_some hc
      have hu := shape_str (hT.shape hi) hty
      refine Yld.of_run (sv := .val (.int .u8) (c.toNat : Int)) (v := .int .u8 c.toNat) hex ?_ (mk_int _ _) trivial hk
      rw [str_inv hx, int_inv hix]
      have h4 : (⟨(bs : List UInt8).toArray⟩ : ByteArray)[n.toNat]? = some c := by
        have hlt : n.toNat < (bs : List UInt8).length := by omega
        rw [getElem?_pos (⟨(bs : List UInt8).toArray⟩ : ByteArray) n.toNat (by simpa [ByteArray.size] using hlt)]
        rw [List.getElem?_eq_getElem hlt] at h2
        exact h2
      simp [Instr.index, asIntOf, run_underlying hu, h1, h4]
    · cases hk
  · rename_i i k n m u xs hi he1 he2
    rw [he1] at hix
    rw [he2] at hx
    split at hk
    · rename_i hty
      simp only [Option.bind_eq_some_iff] at hk
      obtain ⟨y, hy, hk⟩ := hk
      obtain ⟨h1, h2, h3⟩ := idx_some hy
      obtain ⟨h4, h5, _⟩ := shape_arr (hT.shape hi) hty
      obtain ⟨l, hl, hv⟩ := agg_inv rfl hx
      simp only [Cells] at hl
      obtain ⟨h6, h7, h8⟩ := hl
      obtain ⟨inf, d, h9, h10, h11, _⟩ := h5.ex
      have key : ∀ (n : Int) (k : Nat), 0 ≤ n → n < (k : Int) → n.toNat + 1 ≤ k := fun _ _ _ _ => by omega
      have hnm := key n m h1 (by rw [← h7]; exact h3)
      have hle : n.toNat * u.size + u.size ≤ l.length := by
        rw [h6, ← Nat.succ_mul]
        exact Nat.mul_le_mul_right _ hnm
      have hp := run_part (w := w) h5 (cs := l.toArray) (off := n.toNat * u.size) (by simpa using hle)
      refine Yld.of_run (sv := .val u y) hex (v := u.wrap ((l.drop (n.toNat * u.size)).take u.size)) ?_ ⟨_, h8 _ _ h2, rfl⟩ trivial hk
      rw [hv, int_inv hix]
      have hnm' : n < (m : Int) := by rw [← h7]; exact h3
      simp only [Instr.index, asIntOf, Sem.run_bind, Sem.run_pure, Result.andThen_ok, run_underlying h4]
      simp only [h1, hnm', and_self, if_true, Sem.run_bind, run_sizeOf h9, Result.andThen_ok, h11]
      simpa using hp
    · cases hk
  · cases hk

theorem extract_sound (h : Rel P A0 w0 ρ s a w) {x : Operand} {n : Nat} (ho : o.op = .extract x n) (hk : pureK g s o K = some r) : Yld P A0 ρ s a w o K r := by
  simp only [pureK, ho] at hk
  have hx := (evalO_sound (T := g.T) h 0 x).1
  split at hk
  · rename_i t y he
    rw [he] at hx
    simp only [Option.bind_eq_some_iff] at hk
    obtain ⟨tv, hf, hk⟩ := hk
    obtain ⟨l, hl, hv⟩ := hx
    obtain ⟨l', h1, h2⟩ := tupAt_sound _ _ _ _ _ hl hf
    exact Yld.of_run (m := Instr.extract (a.eval x) n) (sv := .val tv.t tv.x) (by simp only [execOp, ho]) (by rw [hv]; simp [Instr.extract, h2]) ⟨l', h1, rfl⟩ trivial hk
  · cases hk

theorem nilCheck_sound (h : Rel P A0 w0 ρ s a w) {x : Operand} (ho : o.op = .nilCheck x) (hk : pureK g s o K = some r) : Yld P A0 ρ s a w o K r := by
  simp only [pureK, ho, ptrK] at hk
  have hx := evalO_sound (T := g.T) h 0 x
  have hrun : ∀ b : Addr, a.eval x = .pointer (some b) → (execOp a.eval o).run P w = .ok (.value (.pointer (some b))) w := fun b hb => by
    simp [execOp, ho, hb]
  split at hk
  · rename_i β off he
    rw [he] at hx
    obtain ⟨b, hb, hv⟩ := hx.1
    exact Yld.here (sv := .bptr β off) (hrun _ hv) ⟨b, hb, rfl⟩ hx.2 hk
  · rename_i β n sz off he
    rw [he] at hx
    obtain ⟨b, hb, hv⟩ := hx.1
    exact Yld.here (sv := .eptr β n sz off) (hrun _ hv) ⟨b, hb, rfl⟩ hx.2 hk
  · rename_i t y he
    rw [he] at hx
    obtain ⟨b, off, l, hv, h1, h2, h3, h4⟩ := ref_inv hx.1
    exact Yld.here (hrun _ hv) (hv ▸ hx.1) hx.2 hk
  · cases hk

theorem convert_sound (hT : TabOk P g.T) (h : Rel P A0 w0 ρ s a w) {sr d : TypeId} {x : Operand} (ho : o.op = .convert sr d x) (hk : pureK g s o K = some r) : Yld P A0 ρ s a w o K r := by
  simp only [pureK, ho] at hk
  have hx := (evalO_sound (T := g.T) h d x).1
  have hex : execOp a.eval o = (do pure (.value (← Go.convert sr d (a.eval x)))) := by simp only [execOp, ho]
  cases hj : lookT g.T sr with
  | none => rw [hj] at hk; simp at hk
  | some j =>
  rw [hj] at hk
  simp only [Option.isNone_some, Bool.false_eq_true, if_false] at hk
  obtain ⟨_, ds, _, h2, _⟩ := (hT.fits hj).ex
  split at hk
  · rename_i i k n hi he
    rw [he] at hx
    split at hk
    · rename_i k' hty
      have hu : P.underlying d = some (.int k') := by
        have hs := hT.shape hi
        unfold shapeB at hs
        rw [hty] at hs
        cases hu : P.underlying d with
        | none => rw [hu] at hs; cases hs
        | some e => rw [hu] at hs; cases e <;> first | (simp only [decide_eq_true_eq] at hs; rw [hs]) | cases hs
      refine Yld.of_run (sv := .val (.int k') (k'.wrap n)) (v := .int k' (k'.wrap n)) hex ?_ (mk_int _ _) trivial hk
      rw [int_inv hx]
      simp [Go.convert, run_underlying h2, run_underlying hu, Conv.intToInt]
    · cases hk
  · rename_i i bs hi he
    rw [he] at hx
    split at hk
    · rename_i hty
      have hu := shape_str (hT.shape hi) hty
      refine Yld.of_run (sv := .val .str bs) (v := .string ⟨(bs : List UInt8).toArray⟩) hex ?_ (mk_str _) trivial hk
      rw [str_inv hx]
      simp [Go.convert, run_underlying h2, run_underlying hu]
    · cases hk
  · cases hk
end
end Go.Vx
