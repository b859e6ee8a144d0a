/- V14: operations that turn blocks of one's own: new ones, writes, slices that grow. -/
import Derived.Test.YtkfigfhjbejikaaGreatDoorV13
import Derived.Laws.MakeOwn
import Derived.Laws.CopyRow
set_option linter.all false
namespace Go.Vx
open Go.RowKit
variable [GT]

section
variable {P : Program} {A0 : Nat → Prop} {w0 : Base} {ρ : Places} {s : St} {a : Act} {w w' : World} {g : G} {R : Type} {K : St → Option R} {r : R} {o : Oper}

/-- An operation runs (to a value, or to nothing), and behind it a state stands from which the rest goes on. -/
def Eff (P : Program) (A0 : Nat → Prop) (w0 : Base) (a : Act) (w : World) (o : Oper) (K : St → Option R) (r : R) : Prop :=
  ∃ a' w' ρ' s', ((∃ v, (execOp a.eval o).run P w = .ok (.value v) w' ∧ a' = a.put o.dst v) ∨ ((execOp a.eval o).run P w = .ok .skip w' ∧ a' = a.put o.dst undef)) ∧ Rel P A0 w0 ρ' s' a' w' ∧ K s' = some r

theorem Eff.val {v : Value} {ρ' : Places} {s' : St} (h1 : (execOp a.eval o).run P w = .ok (.value v) w') (h2 : Rel P A0 w0 ρ' s' (a.put o.dst v) w') (h3 : K s' = some r) : Eff P A0 w0 a w o K r :=
  ⟨_, w', ρ', s', .inl ⟨v, h1, rfl⟩, h2, h3⟩

theorem Eff.skip {ρ' : Places} {s' : St} (h1 : (execOp a.eval o).run P w = .ok .skip w') (h2 : Rel P A0 w0 ρ' s' (a.put o.dst undef) w') (h3 : K s' = some r) : Eff P A0 w0 a w o K r :=
  ⟨_, w', ρ', s', .inr ⟨h1, rfl⟩, h2, h3⟩

theorem Yld.eff {F : SV → Option R} (h : Rel P A0 w0 ρ s a w) (hy : Yld P A0 ρ s a w o F r) (hF : ∀ sv, F sv = K (s.put o.dst sv)) : Eff P A0 w0 a w o K r := by
  obtain ⟨sv, v, w', h1, h2, h3, h4, h5⟩ := hy
  exact Eff.val h1 ((h.step h2).put o.dst h4 h3) ((hF sv).symm.trans h5)

theorem scatter_in (n : Nat) : ∀ (t : Ty) (x : t.den), ∀ sv ∈ scatter t x, sv.inn n := by
  intro t
  induction t with
  | pair a b iha ihb =>
    intro x sv hs
    rcases List.mem_append.1 hs with hs | hs
    · exact iha _ sv hs
    · exact ihb _ sv hs
  | arr m t ih =>
    intro x sv hs
    obtain ⟨i, _, hi⟩ := List.mem_flatMap.1 hs
    exact ih _ sv hi
  | unit => intro x sv hs; cases hs
  | _ => intro x sv hs; simp only [scatter, List.mem_singleton] at hs; subst hs; trivial

theorem zeroSV_in (n : Nat) : ∀ (t : Ty), ∀ sv ∈ zeroSV t, sv.inn n := by
  intro t
  induction t with
  | pair a b iha ihb =>
    intro sv hs
    rcases List.mem_append.1 hs with hs | hs
    · exact iha sv hs
    · exact ihb sv hs
  | arr m t ih =>
    intro sv hs
    obtain ⟨l, hl, hi⟩ := List.mem_flatten.1 hs
    rw [List.mem_replicate] at hl
    rw [hl.2] at hi
    exact ih sv hi
  | unit => intro sv hs; cases hs
  | _ => intro sv hs; simp only [zeroSV, List.mem_singleton] at hs; subst hs; trivial

/-- A new box. -/
theorem Rel.newBox (h : Rel P A0 w0 ρ s a w) {t : Ty} {cells : List SV} {l : List Value} {e : TypeId} (d : Option Nat) (hin : ∀ sv ∈ cells, sv.inn s.chunks.length)
    (hc : ∀ A, (∀ n, n < w.heap.size → A n → Av A0 ρ s.chunks n) → CellsRel P A (w.alloc (.cells l.toArray e)) ρ cells l) :
    ∃ ρ', Rel P A0 w0 ρ' ({ s with chunks := s.chunks ++ [some (Chunk.box t cells)] }.put d (.bptr s.chunks.length 0)) (a.put d (.pointer (some ⟨w.heap.size, 0, none⟩))) (w.alloc (.cells l.toArray e)) := by
  have h1 := h.newChunk (.box t cells) ⟨some w.heap.size, e, 0⟩ (below_alloc w (.cells l.toArray e)) (fun b hb => by cases hb; exact Nat.le_refl _) hin
    (fun A hA _ => ⟨w.heap.size, l.toArray, e, rfl, heap_alloc_new w _, ⟨by simpa using (hc A hA).1, rfl⟩, fun i sv hi => by simpa using (hc A hA).2 i sv hi⟩)
  refine ⟨_, h1.put d (sv := .bptr s.chunks.length 0) ?_ ?_⟩
  · show s.chunks.length < (s.chunks ++ [_]).length
    simp
  · exact ⟨w.heap.size, by rw [Places.set_self], rfl⟩

theorem Rel.newSelf (h : Rel P A0 w0 ρ s a w) {t : Ty} {cells : List SV} {l : List Value} {e : TypeId} (d : Option Nat) (hin : ∀ sv ∈ cells, sv.inn s.chunks.length)
    (hc : ∀ A, (∀ n, n < w.heap.size → A n → Av A0 ρ s.chunks n) → CellsRel P A (w.alloc (.cells l.toArray e)) ρ cells l) (h0 : ∀ u, t = .pair (.ref .unit) u → l[0]? = some (.pointer none)) :
    ∃ ρ', Rel P A0 w0 ρ' ({ s with chunks := s.chunks ++ [some (Chunk.box t (selfCells t s.chunks.length e cells))] }.put d (.bptr s.chunks.length 0)) (a.put d (.pointer (some ⟨w.heap.size, 0, none⟩))) (w.alloc (.cells l.toArray e)) := by
  by_cases ht : ∃ u, t = .pair (.ref .unit) u
  · obtain ⟨u, rfl⟩ := ht
    have h1 := h.newChunk (.box (.pair (.ref .unit) u) cells) ⟨some w.heap.size, e, 0⟩ (below_alloc w (.cells l.toArray e)) (fun b hb => by cases hb; exact Nat.le_refl _) hin
      (fun A hA _ => ⟨w.heap.size, l.toArray, e, rfl, heap_alloc_new w _, ⟨by simpa using (hc A hA).1, rfl⟩, fun i sv hi => by simpa using (hc A hA).2 i sv hi⟩)
    have hβ : (s.chunks ++ [some (Chunk.box (.pair (.ref .unit) u) cells)])[s.chunks.length]? = some (some (Chunk.box (.pair (.ref .unit) u) cells)) := by simp
    have h2 := h1.write (w' := w.alloc (.cells l.toArray e)) (ch' := .box (.pair (.ref .unit) u) (selfCells (.pair (.ref .unit) u) s.chunks.length e cells)) hβ (b := w.heap.size) (by rw [Places.set_self]) (fun _ _ => rfl) rfl rfl rfl rfl
      (fun sv hs => by
        simp only [selfCells] at hs
        rcases List.mem_or_eq_of_mem_set hs with hs | rfl
        · exact SV.inn_mono (by simp) (hin sv hs)
        · show s.chunks.length < (s.chunks ++ [_]).length
          simp)
      (fun A hA => by
        obtain ⟨b, vs, e', hb, hg, ⟨hlen, he⟩, hcr⟩ := (h1.chunks _ _ hβ).1.keep (w' := w.alloc (.cells l.toArray e)) (A' := A) (fun _ _ => rfl) (fun n _ hn => (hA n).1 hn)
        refine ⟨b, vs, e', hb, hg, ⟨by simp [selfCells, hlen], he⟩, fun i sv hi => ?_⟩
        simp only [selfCells, List.getElem?_set] at hi
        split at hi
        · rename_i hi0
          subst hi0
          split at hi
          · cases hi
            rw [Places.set_self] at hb he
            cases hb
            rw [heap_alloc_new] at hg
            cases hg
            refine ⟨.pointer none, by simpa using h0 u rfl, ?_⟩
            show ((ρ.set s.chunks.length ⟨some w.heap.size, e, 0⟩) s.chunks.length).len = e ∧ _
            rw [Places.set_self]
            exact ⟨rfl, w.heap.size, rfl, .inl rfl⟩
          · cases hi
        · exact hcr i sv hi)
    have e1 : (s.chunks ++ [some (Chunk.box (.pair (.ref .unit) u) cells)]).set s.chunks.length (some (Chunk.box (.pair (.ref .unit) u) (selfCells (.pair (.ref .unit) u) s.chunks.length e cells))) = s.chunks ++ [some (Chunk.box (.pair (.ref .unit) u) (selfCells (.pair (.ref .unit) u) s.chunks.length e cells))] := by
      simp
    simp only at h2
    rw [e1] at h2
    refine ⟨_, h2.put d (sv := .bptr s.chunks.length 0) ?_ ?_⟩
    · show s.chunks.length < (s.chunks ++ [_]).length
      simp
    · exact ⟨w.heap.size, by rw [Places.set_self], rfl⟩
  · have e1 : selfCells t s.chunks.length e cells = cells := by
      unfold selfCells
      split
      · exact absurd ⟨_, rfl⟩ ht
      · rfl
    rw [e1]
    exact h.newBox d hin hc

theorem wrap_cells_len {t : Ty} {l : List Value} (h : l.length = t.size) (hp : ∀ v ∈ l, Value.plain1 v = true) : (t.wrap l).cells = l.toArray := by
  unfold Ty.wrap
  split
  · rfl
  · rename_i ha
    have h1 : t.size = 1 := size_one (by simpa using ha)
    rw [h1] at h
    obtain ⟨v, rfl⟩ := List.length_eq_one_iff.1 h
    have := hp v (by simp)
    cases v <;> first | rfl | (simp [Value.plain1] at this)

theorem zeroV_plain : ∀ (t : Ty), ∀ v ∈ t.zeroV, Value.plain1 v = true := by
  intro t
  induction t with
  | pair a b iha ihb =>
    intro v hs
    rcases List.mem_append.1 hs with hs | hs
    · exact iha v hs
    · exact ihb v hs
  | arr m t ih =>
    intro v hs
    obtain ⟨l, hl, hi⟩ := List.mem_flatten.1 hs
    rw [List.mem_replicate] at hl
    rw [hl.2] at hi
    exact ih v hi
  | unit => intro v hs; cases hs
  | _ => intro v hs; simp only [Ty.zeroV, List.mem_singleton] at hs; subst hs; rfl

/-- Slices without a block yet. -/
theorem Rel.addNone (T : List (TypeId × TyI)) : ∀ (l : List TypeId) {ρ : Places} {s : St}, Rel P A0 w0 ρ s a w → ∃ ρ', Rel P A0 w0 ρ' { s with chunks := s.chunks ++ ownChunks T l } a w ∧
    (∀ β, β < s.chunks.length → ρ' β = ρ β) ∧ ∀ β, s.chunks.length ≤ β → β < s.chunks.length + (ownChunks T l).length → ρ' β = ⟨none, 0, 0⟩
  | [], ρ, s, h => ⟨ρ, by simpa [ownChunks] using h, fun _ _ => rfl, fun β h1 h2 => by simp [ownChunks] at h2; omega⟩
  | t :: l, ρ, s, h => by
    unfold ownChunks
    split
    · exact ⟨ρ, by simpa using h, fun _ _ => rfl, fun β h1 h2 => by simp at h2; omega⟩
    · rename_i i _
      split
      · rename_i u _
        have h1 := h.newChunk (w' := w) (.arr i.elem u [] false) ⟨none, 0, 0⟩ (Below.refl _ _) (fun b hb => by cases hb) trivial
          (fun A hA _ => ⟨rfl, fun h => by simp at h, .inl ⟨rfl, rfl, rfl⟩⟩)
        obtain ⟨ρ', h2, h3, h4⟩ := Rel.addNone T l h1
        simp only [List.length_append, List.length_singleton] at h3 h4
        refine ⟨ρ', by simpa using h2, fun β hβ => ?_, fun β hβ hβ' => ?_⟩
        · rw [h3 β (by omega)]
          exact Places.set_lt ρ _ hβ
        · by_cases he : β = s.chunks.length
          · subst he
            rw [h3 _ (by omega)]
            exact Places.set_self ρ _ _
          · refine h4 β (by omega) ?_
            simp only [List.length_cons] at hβ'
            omega
      · exact Rel.addNone T l h

theorem ownCells_sound {T : List (TypeId × TyI)} {A : Nat → Prop} : ∀ (l : List TypeId) (m : Nat) (u : Ty), prodOf T l = some u → (∀ β, m ≤ β → β < m + (ownChunks T l).length → ρ β = ⟨none, 0, 0⟩) →
    CellsRel P A w ρ (ownCells T l m) u.zeroV ∧ ∀ sv ∈ ownCells T l m, sv.inn (m + (ownChunks T l).length)
  | [], m, u, h, _ => by
    simp only [prodOf, Option.some.injEq] at h
    subst h
    exact ⟨⟨rfl, fun i sv hi => by simp [ownCells] at hi⟩, fun sv hs => by simp [ownCells] at hs⟩
  | t :: l, m, u, h, hρ => by
    simp only [prodOf, Option.bind_eq_some_iff, Option.map_eq_some_iff] at h
    obtain ⟨i, hi, b, hb, rfl⟩ := h
    by_cases hsl : ∃ v, i.ty = .slice v
    · obtain ⟨v, hv⟩ := hsl
      have hch : ownChunks T (t :: l) = some (.arr i.elem v [] false) :: ownChunks T l := by simp only [ownChunks, hi, hv]
      have hce : ownCells T (t :: l) m = .own m :: ownCells T l (m + 1) := by simp only [ownCells, hi, hv]
      rw [hch] at hρ ⊢
      rw [hce]
      simp only [List.length_cons] at hρ ⊢
      obtain ⟨h1, h2⟩ := ownCells_sound l (m + 1) b hb (fun β h3 h4 => hρ β (by omega) (by omega))
      refine ⟨?_, fun sv hs => ?_⟩
      · rw [show (Ty.pair i.ty b).zeroV = i.ty.zeroV ++ b.zeroV from rfl, hv]
        refine CellsRel.append (s1 := [.own m]) (CellsRel.one ?_) h1
        show _ = Value.slice _ _ _
        rw [hρ m (by omega) (by omega)]
        rfl
      · rcases List.mem_cons.1 hs with rfl | hs
        · show m < _
          omega
        · exact SV.inn_mono (by omega) (h2 sv hs)
    · have hch : ownChunks T (t :: l) = ownChunks T l := by
        simp only [ownChunks, hi]
        split
        · rename_i v hv; exact absurd ⟨v, hv⟩ hsl
        · rfl
      have hce : ownCells T (t :: l) m = zeroSV i.ty ++ ownCells T l m := by
        simp only [ownCells, hi]
        split
        · rename_i v hv; exact absurd ⟨v, hv⟩ hsl
        · rfl
      rw [hch] at hρ ⊢
      rw [hce]
      obtain ⟨h1, h2⟩ := ownCells_sound l m b hb hρ
      refine ⟨CellsRel.append (zero_sound _) h1, fun sv hs => ?_⟩
      rcases List.mem_append.1 hs with hs | hs
      · exact zeroSV_in _ _ sv hs
      · exact h2 sv hs

theorem allocOwn_sound (h : Rel P A0 w0 ρ s a w) {e : TypeId} {i : TyI} (hi : lookT g.T e = some i) (hrun : (execOp a.eval o).run P w = .ok (.value (.pointer (some ⟨w.heap.size, 0, none⟩))) (w.alloc (.cells i.ty.zeroV.toArray e))) (hk : allocOwn g s e i o.dst K = some r) : Eff P A0 w0 a w o K r := by
  unfold allocOwn at hk
  split at hk
  · rename_i u hu
    obtain ⟨ρ', g1, g2, g3⟩ := Rel.addNone g.T [e] h
    have hpr : prodOf g.T [e] = some (.pair i.ty .unit) := by simp [prodOf, hi]
    obtain ⟨ρ2, hR⟩ := g1.newBox (t := i.ty) (cells := ownCells g.T [e] s.chunks.length) (l := i.ty.zeroV) (e := e) o.dst
      (by have := (ownCells_sound (P := P) (A := fun _ => False) (w := w) (ρ := ρ') [e] s.chunks.length _ hpr g3).2; simpa using this)
      (fun A hA => by rw [show i.ty.zeroV = (Ty.pair i.ty .unit).zeroV by simp [Ty.zeroV]]; exact (ownCells_sound [e] s.chunks.length _ hpr g3).1)
    exact Eff.val hrun hR hk
  · obtain ⟨hp, hk'⟩ := ite_some hk
    obtain ⟨ρ', g1, g2, g3⟩ := Rel.addNone g.T (i.fields.map (·.2)) h
    obtain ⟨ρ2, hR⟩ := g1.newSelf (t := i.ty) (cells := ownCells g.T (i.fields.map (·.2)) s.chunks.length) (l := i.ty.zeroV) (e := e) o.dst
      (by have := (ownCells_sound (P := P) (A := fun _ => False) (w := w) (ρ := ρ') (i.fields.map (·.2)) s.chunks.length _ hp g3).2; simpa using this)
      (fun A hA => (ownCells_sound (i.fields.map (·.2)) s.chunks.length _ hp g3).1)
      (fun u hu => by rw [hu]; rfl)
    exact Eff.val hrun hR hk'

theorem effAlloc_sound (hT : TabOk P g.T) (h : Rel P A0 w0 ρ s a w) {e : TypeId} (ho : o.op = .alloc e) (hk : effK g s o K = some r) : Eff P A0 w0 a w o K r := by
  simp only [effK, ho] at hk
  split at hk
  · rename_i i hi
    obtain ⟨inf, d, h1, h2, h3, h4, h5, h6⟩ := (hT.fits hi).ex
    have hc : (i.ty.wrap i.ty.zeroV).cells = i.ty.zeroV.toArray := wrap_cells_len (zeroV_length _) (zeroV_plain _)
    have hrun : (execOp a.eval o).run P w = .ok (.value (.pointer (some ⟨w.heap.size, 0, none⟩))) (w.alloc (.cells i.ty.zeroV.toArray e)) := by
      simp only [execOp, ho, Sem.run_bind, Instr.alloc, run_zeroValue h1 h6, newVar, newRow, hc, Result.andThen_ok, Sem.run_pure]
      simp
    split at hk
    · exact allocOwn_sound h hi hrun hk
    · obtain ⟨ρ', hR⟩ := h.newBox (t := i.ty) (cells := zeroSV i.ty) (l := i.ty.zeroV) (e := e) o.dst (zeroSV_in _ _) (fun A hA => zero_sound _)
      exact Eff.val hrun hR hk
  · cases hk

theorem effBox_sound (hT : TabOk P g.T) (h : Rel P A0 w0 ρ s a w) {e : TypeId} {x : Operand} (ho : o.op = .box e x) (hk : effK g s o K = some r) : Eff P A0 w0 a w o K r := by
  simp only [effK, ho] at hk
  split at hk
  · rename_i hnb
    split at hk
    · rename_i i hi
      unfold isNilBox at hnb
      rw [hi] at hnb
      split at hnb
      · rename_i j hs hj
        cases hj
        split at hnb
        · rename_i v hv
          refine allocOwn_sound h hi ?_ hk
          have hx : a.eval x = .slice none 0 0 := by
            have := (evalO_sound (T := g.T) h e x).1
            rw [hs] at this
            exact this
          simp only [execOp, ho, Sem.run_bind, run_box', hx, Result.andThen_ok, Sem.run_pure]
          rw [hv]
          rfl
        · cases hnb
      · cases hnb
    · cases hk
  have hS := h.settle (evalO g.T e s x)
  generalize s.settle (evalO g.T e s x) = s1 at hk hS
  split at hk
  · rename_i i hi
    simp only [Option.bind_eq_some_iff] at hk
    obtain ⟨y, hy, hk⟩ := hk
    have hs := (evalO_sound (T := g.T) hS e x).1
    obtain ⟨l, h1, h2⟩ := valOf_nil hs hy
    have hc := cells_wrap h1
    obtain ⟨ρ', hR⟩ := hS.newBox (t := i.ty) (cells := scatter i.ty y) (l := l) (e := e) o.dst (scatter_in _ _ _) (fun A hA => scatter_sound _ _ _ (h1.mono (keep_alloc _ _ _) hA))
    refine Eff.val ?_ hR hk
    simp only [execOp, ho, Sem.run_bind, run_box', Result.andThen_ok, Sem.run_pure, h2, hc]
  · cases hk

/-- A new slice. -/
theorem Rel.newArr (h : Rel P A0 w0 ρ s a w) {u : Ty} {xs : List u.den} {l : List Value} {e : TypeId} (d : Option Nat) (hm : xs.length ≤ maxLen)
    (hc : ∀ A, (∀ n, n < w.heap.size → A n → Av A0 ρ s.chunks n) → Cells P (.arr xs.length u) A (w.alloc (.cells l.toArray e)) xs l) :
    ∃ ρ', Rel P A0 w0 ρ' ({ s with chunks := s.chunks ++ [some (Chunk.arr e u xs true)] }.put d (.own s.chunks.length)) (a.put d (.slice (some ⟨w.heap.size, 0, none⟩) xs.length xs.length)) (w.alloc (.cells l.toArray e)) := by
  have h1 := h.newChunk (.arr e u xs true) ⟨some w.heap.size, xs.length, xs.length⟩ (below_alloc w (.cells l.toArray e)) (fun b hb => by cases hb; exact Nat.le_refl _) trivial
    (fun A hA _ => by
      have := hc A hA
      simp only [Cells] at this
      obtain ⟨h1, h2, h3⟩ := this
      exact ⟨rfl, (fun _ hx => by cases hx), Or.inr ⟨w.heap.size, l.toArray, rfl, heap_alloc_new w _, Nat.le_refl _, hm, by simpa using h1, fun i x hi => by simpa using h3 i x hi⟩⟩)
  refine ⟨_, h1.put d (sv := .own s.chunks.length) ?_ ?_⟩
  · show s.chunks.length < (s.chunks ++ [_]).length
    simp
  · show _ = Value.slice _ _ _
    rw [Places.set_self]
    rfl

theorem effMake_sound (hT : TabOk P g.T) (h : Rel P A0 w0 ρ s a w) {t : TypeId} {l c : Operand} (ho : o.op = .makeSlice t l c) (hk : effK g s o K = some r) : Eff P A0 w0 a w o K r := by
  simp only [effK, ho] at hk
  split at hk
  · rename_i i n m hi h1 h2
    split at hk
    · rename_i u hty
      cases hb : (u.zok && decide (0 ≤ n) && decide (n ≤ (memMax : Int)) && n == m) with
      | false => rw [hb] at hk; cases hk
      | true =>
        rw [hb] at hk
        simp only [cond_true] at hk
        simp only [Bool.and_eq_true, decide_eq_true_eq, beq_iff_eq] at hb
        obtain ⟨⟨⟨hz, h0⟩, hm⟩, rfl⟩ := hb
        have h0 : @LE.le Int _ 0 n := h0
        have hm : @LE.le Int _ n 68719476736 := hm
        have e1 := int_inv (h1 ▸ (evalO_sound (T := g.T) h 0 l).1)
        have e2 := int_inv (h2 ▸ (evalO_sound (T := g.T) h 0 c).1)
        obtain ⟨hu, hF, hs0⟩ := shape_slice (hT.shape hi) (.inl hty)
        obtain ⟨inf, d, f1, f2, f3, f4, f5, f6⟩ := hF.ex
        obtain ⟨inf', z, g1, g2, g3, g4, g5⟩ := zero_cells hF hz
        rw [f1] at g1; cases g1
        have hr := range_zero u.zeroV n.toNat
        rw [zeroV_length] at hr
        have hnm : n.toNat ≤ memMax := by simp only [memMax]; omega
        have hrep := List.length_replicate (n := n.toNat) (a := u.dflt)
        obtain ⟨ρ', hR⟩ := h.newArr (u := u) (xs := List.replicate n.toNat u.dflt) (l := (List.replicate n.toNat u.zeroV).flatten) (e := i.elem) o.dst
          (by rw [hrep]; simp only [maxLen]; simp only [memMax] at hnm; omega)
          (fun A hA => by have := replicate_cells (P := P) (A := A) (w := w.alloc (.cells (List.replicate n.toNat u.zeroV).flatten.toArray i.elem)) n.toNat hz; rw [hrep]; exact this)
        rw [hrep] at hR
        refine Eff.val ?_ hR hk
        have hby : (inf.bytes : Int) * n ≤ 281474976710656 := by
          have hN : inf.bytes * n.toNat ≤ 2048 * 68719476736 := Nat.mul_le_mul f4 hnm
          have : (inf.bytes : Int) * n = ((inf.bytes * n.toNat : Nat) : Int) := by rw [Int.natCast_mul]; congr 1; exact (Int.toNat_of_nonneg h0).symm
          rw [this]
          generalize inf.bytes * n.toNat = q at hN
          omega
        have hrun := run_make (P := P) w t i.elem inf z hu f1 g2 .i64 .i64 n n h0 (Int.le_refl _) hby (by omega)
        simp only [execOp, ho, Sem.run_bind, e1, e2, hrun, Result.andThen_ok, Sem.run_pure]
        congr 3
        unfold madeCells
        rw [g3, g4]
        apply Array.toList_inj.1
        rw [Array.toList_map, Array.toList_range, ← hr]
    · cases hk
  · cases hk

theorem effBuild_sound (hE : ∀ e ∈ g.E, FnOK P e) (hT : TabOk P g.T) (h : Rel P A0 w0 ρ s a w) {t : TypeId} {n : Nat} {ps : Array (Nat × Operand)} (ho : o.op = .buildSlice t n ps) (hk : effK g s o K = some r) : Eff P A0 w0 a w o K r := by
  simp only [effK, ho] at hk
  have hS := Rel.settleAll (ps.toList.map (·.2)) h
  generalize settleAll (ps.toList.map (·.2)) s = s1 at hk hS
  split at hk
  · rename_i i hi
    split at hk
    · rename_i u hty
      split at hk
      · cases hk
      · rename_i hz
        simp only [Bool.not_eq_true', Bool.and_eq_true, decide_eq_true_eq, Bool.not_eq_false] at hz
        simp only [Option.bind_eq_some_iff] at hk
        obtain ⟨y, hy, hk⟩ := hk
        obtain ⟨h1, h2, h0⟩ := shape_slice (hT.shape hi) (.inl hty)
        obtain ⟨cs, h3, h4⟩ := elemsK_sound hE hS _ _ _ _ (replicate_cells n hz.1) hy
        have h4' := h4
        simp only [Cells] at h4'
        obtain ⟨h5, h6, h7⟩ := h4'
        have hn : y.length ≤ maxLen := by
          rw [h6]
          simp only [maxLen]
          have : n * 1 ≤ n * u.size := Nat.mul_le_mul_left _ (by omega)
          omega
        obtain ⟨ρ', hR⟩ := hS.newArr (u := u) (xs := y) (l := cs.toList) (e := i.elem) o.dst hn
          (fun A hA => by rw [h6]; exact h4.mono (keep_alloc _ _ _) hA)
        rw [h6] at hR
        refine Eff.val ?_ hR hk
        simp only [execOp, ho, Sem.run_bind]
        rw [run_buildSlice' h1 h2 hz.1 hz.2 (by rw [toList_mapM]; exact h3)]
        rfl
    · cases hk
  · cases hk

theorem effNil_sound (h : Rel P A0 w0 ρ s a w) (ho : o.op = .assign (.const (.slice none 0 0))) (hk : effK g s o K = some r) : Eff P A0 w0 a w o K r := by
  simp only [effK, ho] at hk
  split at hk
  · rename_i i hi
    split at hk
    · rename_i u hty
      have h1 := h.newChunk (w' := w) (.arr i.elem u [] false) ⟨none, 0, 0⟩ (Below.refl _ _) (fun b hb => by cases hb) trivial
        (fun A hA _ => ⟨rfl, fun h => by simp at h, .inl ⟨rfl, rfl, rfl⟩⟩)
      refine Eff.val (v := .slice none 0 0) (w' := w) ?_ (h1.put o.dst (sv := .own s.chunks.length) ?_ ?_) hk
      · simp [execOp, ho, Act.eval]
      · show s.chunks.length < (s.chunks ++ [_]).length
        simp
      · show _ = Value.slice _ _ _
        rw [Places.set_self]
        rfl
    · cases hk
  · cases hk

/-! ### Ranges over strings -/
theorem effRange_sound (hT : TabOk P g.T) (h : Rel P A0 w0 ρ s a w) {t : TypeId} {x : Operand} (ho : o.op = .range t x) (hk : effK g s o K = some r) : Eff P A0 w0 a w o K r := by
  simp only [effK, ho] at hk
  have hx := (evalO_sound (T := g.T) h t x).1
  split at hk
  · rename_i i bs hi he
    obtain ⟨hty, hk⟩ := ite_some hk
    rw [he] at hx
    have hu := shape_str (hT.shape hi) hty
    have h1 := h.newChunk (.it bs 0) ⟨some w.heap.size, 0, 0⟩ (below_alloc w (.stringIter ⟨bs.toArray⟩ 0)) (fun b hb => by cases hb; exact Nat.le_refl _) trivial
      (fun A hA _ => ⟨w.heap.size, 0, rfl, heap_alloc_new w _, rfl⟩)
    refine Eff.val (v := .pointer (some ⟨w.heap.size, 0, none⟩)) ?_ (h1.put o.dst (sv := .bptr s.chunks.length 0) ?_ ?_) hk
    · simp only [execOp, ho, str_inv hx]
      simp [Instr.range, run_underlying hu]
    · show s.chunks.length < (s.chunks ++ [_]).length
      simp
    · refine ⟨w.heap.size, ?_, rfl⟩
      show (Places.set ρ s.chunks.length ⟨some w.heap.size, 0, 0⟩ s.chunks.length).blk = _
      rw [Places.set_self]
  · cases hk

theorem nextK_sound (h : Rel P A0 w0 ρ s a w) {it : Operand} (ho : o.op = .next it true) (hk : nextK g s o it K = some r) : Eff P A0 w0 a w o K r := by
  unfold nextK at hk
  have hx := (evalO_sound (T := g.T) h 0 it).1
  split at hk
  · rename_i β he
    rw [he] at hx
    split at hk
    · rename_i bs q hch
      have hc := getD_some hch
      obtain ⟨b, n, hb, h1, rfl⟩ := (h.chunks β _ hc).1
      obtain ⟨b', hb', hv⟩ := hx
      rw [hb] at hb'; cases hb'
      have hsz : (⟨bs.toArray⟩ : ByteArray).size = bs.length := by simp [ByteArray.size]
      cases hd : decide ((n : Int) < (bs.length : Int)) with
      | true =>
        rw [hd] at hk
        simp only [cond_true] at hk
        have hlt : n < (⟨bs.toArray⟩ : ByteArray).size := by simp at hd; omega
        have hset : ∀ ob : Obj, (setObj b ob).run P w = .ok () { w with heap := w.heap.setIfInBounds b ob } := fun ob => by simp [setObj, Sem.run, h1]
        have hW := h.write (w' := { w with heap := w.heap.setIfInBounds b (.stringIter ⟨bs.toArray⟩ (n + (Utf8.decode ⟨bs.toArray⟩ n).2)) }) (ch' := .it bs (runeAt bs (n : Int)).2) hc hb (fun m hm => by simp [Array.getElem?_setIfInBounds_ne (Ne.symm hm)]) (by simp) rfl rfl rfl trivial
          (fun A hA => ⟨b, n + (Utf8.decode ⟨bs.toArray⟩ n).2, hb, by simp [lt_of_get h1], by simp [runeAt]⟩)
        refine Eff.val (v := .tuple #[.bool true, .int .i64 (n : Int), .int .i32 ((Utf8.decode ⟨bs.toArray⟩ n).1 : Int)]) ?_ (hW.put o.dst (sv := .tup (.pair .bool (.pair (.int .i64) (.pair (.int .i32) .unit))) (true, (n : Int), (runeAt bs (n : Int)).1, ())) trivial ?_) hk
        · simp only [execOp, ho, hv, Instr.next, getObj, Sem.run_bind, Sem.run, h1, Result.andThen_ok, hlt, if_true, hset]
          rfl
        · refine ⟨[.bool true, .int .i64 (n : Int), .int .i32 ((Utf8.decode ⟨bs.toArray⟩ n).1 : Int)], ⟨[.bool true], _, rfl, rfl, ⟨[.int .i64 (n : Int)], _, rfl, rfl, ⟨[.int .i32 ((Utf8.decode ⟨bs.toArray⟩ n).1 : Int)], [], rfl, ?_, rfl⟩⟩⟩, rfl⟩
          simp [Cells, runeAt]
      | false =>
        rw [hd] at hk
        simp only [cond_false] at hk
        have hlt : ¬ n < (⟨bs.toArray⟩ : ByteArray).size := by simp at hd; omega
        refine Eff.val (v := .tuple #[.bool false]) (w' := w) ?_ (h.put o.dst (sv := .tup (.pair .bool .unit) (false, ())) trivial ?_) hk
        · simp only [execOp, ho, hv, Instr.next, getObj, Sem.run_bind, Sem.run, h1, Result.andThen_ok, hlt, if_false]
          rfl
        · exact ⟨[.bool false], ⟨[.bool false], [], rfl, rfl, rfl⟩, rfl⟩
    · cases hk
  · cases hk

/-! ### Maps -/
theorem effMakeMap_sound (h : Rel P A0 w0 ρ s a w) {t : TypeId} (ho : o.op = .makeMap t none) (hk : effK g s o K = some r) : Eff P A0 w0 a w o K r := by
  simp only [effK, ho] at hk
  split at hk
  · split at hk
    · rename_i u v hty
      have h1 := h.newChunk (.mp u v []) ⟨some w.heap.size, 0, 0⟩ (below_alloc w (.map #[] 0)) (fun b hb => by cases hb; exact Nat.le_refl _) trivial
        (fun A hA _ => ⟨w.heap.size, #[], 0, rfl, heap_alloc_new w _, rfl, fun i x hi => by simp at hi⟩)
      refine Eff.val (v := .map (some w.heap.size)) ?_ (h1.put o.dst (sv := .mown s.chunks.length) ?_ ?_) hk
      · simp only [execOp, ho, Option.map_none, Instr.makeMap]
        rfl
      · show s.chunks.length < (s.chunks ++ [_]).length
        simp
      · show Value.map (some w.heap.size) = .map (Places.set ρ s.chunks.length ⟨some w.heap.size, 0, 0⟩ s.chunks.length).blk
        rw [Places.set_self]
    · cases hk
  · cases hk

theorem sameBits_key {u : Ty} (hu : u.keyOk = true) (y : u.den) (n : Nat) : Instr.sameBits n (keyVal u y) (keyVal u y) = true := by
  cases u with
  | str => cases n <;> simp [keyVal, Instr.sameBits, bytes_beq]
  | int j => cases n <;> simp [keyVal, Instr.sameBits]
  | _ => cases hu

theorem putK_sound (hE : ∀ e ∈ g.E, FnOK P e) (hT : TabOk P g.T) (h : Rel P A0 w0 ρ s a w) {t : TypeId} {m key x : Operand} (ho : o.op = .insert t m key x ∨ o.op = .mapUpdate t m key x) (hk : putK g s o t m key x K = some r) : Eff P A0 w0 a w o K r := by
  unfold putK at hk
  have hS := h.settle (evalO g.T 0 s x)
  dsimp only at hk
  generalize s.settle (evalO g.T 0 s x) = s1 at hk hS
  split at hk
  · rename_i i β hi hm
    split at hk
    · rename_i u v es hch
      obtain ⟨⟨hty, hkey⟩, hk⟩ := ite_some hk
      obtain ⟨y, hy, hk⟩ := Option.bind_eq_some_iff.1 hk
      obtain ⟨z, hz, hk⟩ := Option.bind_eq_some_iff.1 hk
      have hc := getD_some hch
      obtain ⟨kt, et, dk, h1, h2, h3, h4, h5⟩ := shape_map (hT.shape hi) hty
      obtain ⟨ly, hly, hiv⟩ := valOf_nil (evalO_sound (T := g.T) hS 0 key).1 hy
      rw [(wrap_key hkey hly).1] at hiv
      obtain ⟨lz, hlz, hxv⟩ := argOf_nil hE (evalO_sound (T := g.T) hS 0 x).1 hz
      have hmv := (evalO_sound (T := g.T) hS t m).1
      rw [hm] at hmv
      obtain ⟨b, ms, c, hb, g1, g2, g3⟩ := (hS.chunks β _ hc).1
      simp only [SVRel] at hmv
      rw [hb] at hmv
      have hex : (execOp a.eval o).run P w = ((Instr.mapUpdate t (a.eval m) (a.eval key) (a.eval x)).run P w).andThen fun _ w' => .ok .skip w' := by
        rcases ho with ho | ho <;> (simp only [execOp, ho, Sem.run_bind]; rfl)
      have hkeys : ∀ (j : Nat) (e : MapEntry) (p : u.den × v.den), ms.toList[j]? = some e → es[j]? = some p → e.key = keyVal u p.1 := by
        intro j e p he hp
        obtain ⟨m', lv, r1, r2, r3, r4⟩ := g3 j p hp
        rw [Array.getElem?_toList, r1] at he
        cases he
        exact key_cells hkey r2
      have hK : Keep (Av A0 ρ s1.chunks) w w := fun _ _ _ => rfl
      have hlt := lt_of_get g1
      have hset : ∀ ob : Obj, (setObj b ob).run P w = .ok () { w with heap := w.heap.setIfInBounds b ob } := fun ob => by simp [setObj, Sem.run, g1]
      have fin : ∀ (ms' : Array MapEntry) (c' : Nat), (Instr.mapUpdate t (a.eval m) (a.eval key) (a.eval x)).run P w = .ok () { w with heap := w.heap.setIfInBounds b (.map ms' c') } → ms'.size = (mapPut u v es y z).length →
          (∀ (j : Nat) (p : u.den × v.den), (mapPut u v es y z)[j]? = some p → ∃ (e : MapEntry) (lv : List Value), ms'[j]? = some e ∧ Cells P u (Av A0 ρ s1.chunks) w p.1 [e.key] ∧ Cells P v (Av A0 ρ s1.chunks) w p.2 lv ∧ e.val = v.wrap lv) →
          Eff P A0 w0 a w o K r := by
        intro ms' c' hrun hlen hent
        have hKw : Keep (Av A0 ρ s1.chunks) w { w with heap := w.heap.setIfInBounds b (.map ms' c') } := fun n hn hnA => by
          have : b ≠ n := fun e => hnA (.inr ⟨β, _, hc, e ▸ hb⟩)
          simp [Array.getElem?_setIfInBounds_ne this]
        have hW := hS.write (w' := { w with heap := w.heap.setIfInBounds b (.map ms' c') }) (ch' := .mp u v (mapPut u v es y z)) hc hb (fun n hn => by simp [Array.getElem?_setIfInBounds_ne (Ne.symm hn)]) (by simp) rfl rfl rfl trivial
          (fun A hA => ⟨b, ms', c', hb, by simp [hlt], hlen, fun j p hj => by
            obtain ⟨e, lv, r1, r2, r3, r4⟩ := hent j p hj
            exact ⟨e, lv, r1, r2.mono hKw (fun n _ hn => (hA n).1 hn), r3.mono hKw (fun n _ hn => (hA n).1 hn), r4⟩⟩)
        refine Eff.skip ?_ (hW.put o.dst (sv := .undef) (v := undef) trivial trivial) hk
        rw [hex, hrun]
        rfl
      rcases find_key h5 y ms.toList es 0 (by simpa using g2) hkeys with ⟨r1, r2, r3⟩ | ⟨j, e, p, r1, r2, r3, r4, r5, r6⟩
      · refine fin (ms.push { key := keyVal u y, val := a.eval x, born := c }) (c + 1) ?_ (by rw [r3]; simp [g2]) (fun j p hj => ?_)
        · rw [hmv, hiv]
          unfold Instr.mapUpdate
          simp only [Sem.run_bind, run_underlying h1, Result.andThen_ok, run_getMap g1, run_checkKey h4 h5, run_findKey h4 r1, hset]
        · rw [r3] at hj
          rcases Nat.lt_or_ge j es.length with hl | hl
          · rw [List.getElem?_append_left hl] at hj
            obtain ⟨e, lv, q1, q2, q3, q4⟩ := g3 j p hj
            exact ⟨e, lv, by rw [Array.getElem?_push_lt (by omega)]; rw [← q1, Array.getElem?_eq_getElem (by omega)], q2, q3, q4⟩
          · have hjl : j = es.length := by
              have := (List.getElem?_eq_some_iff.1 hj).1
              simp at this
              omega
            subst hjl
            simp at hj
            subst hj
            exact ⟨{ key := keyVal u y, val := a.eval x, born := c }, lz, by rw [← g2]; simp, key_cells' y hkey, hlz, hxv⟩
      · obtain ⟨e0, lv0, q1, q2, q3, q4⟩ := g3 j p r2
        rw [Array.getElem?_toList] at r1
        rw [q1, Option.some.injEq] at r1
        subst r1
        have hjs : j < ms.size := (Array.getElem?_eq_some_iff.1 q1).1
        have hek : e0.key = keyVal u y := by rw [key_cells hkey q2, r3]
        refine fin (ms.modify j fun e => { e with key := keyVal u y, val := a.eval x }) c ?_ (by rw [r6]; simp [g2]) (fun i p' hi => ?_)
        · rw [hmv, hiv]
          unfold Instr.mapUpdate
          simp only [Sem.run_bind, run_underlying h1, Result.andThen_ok, run_getMap g1, run_checkKey h4 h5, run_findKey h4 r4, Nat.zero_add, q1, Option.map_some, Option.getD_some, hek, Instr.keyThatStays, sameBits_key hkey, if_true, Sem.run_pure, hset]
        · rw [r6] at hi
          by_cases hij : i = j
          · subst hij
            rw [List.getElem?_set_self (by omega)] at hi
            cases hi
            refine ⟨_, lz, by rw [Array.getElem?_modify, if_pos rfl, q1]; rfl, key_cells' y hkey, hlz, hxv⟩
          · rw [List.getElem?_set_ne (Ne.symm hij)] at hi
            obtain ⟨e1, lv1, n1, n2, n3, n4⟩ := g3 i p' hi
            exact ⟨e1, lv1, by rw [Array.getElem?_modify, if_neg (Ne.symm hij), n1], n2, n3, n4⟩
    · cases hk
  · cases hk
end
end Go.Vx
