/- V5: the executor's functions on values are sound. -/
import Derived.Test.YtkfigfhjbejikaaGreatDoorV4
set_option linter.all false
namespace Go.Vx
open Go.RowKit
variable [GT]

section
variable {P : Program} {A A' : Nat → Prop} {w w' : World} {ρ : Places}

theorem cast'_eq {a b : Ty} {x : a.den} {y : b.den} (h : cast' a b x = some y) : ∃ e : a = b, y = e ▸ x := by
  unfold cast' at h
  split at h
  · rename_i e; cases h; exact ⟨e, rfl⟩
  · cases h

theorem cast'_cells {a b : Ty} {x : a.den} {y : b.den} {l : List Value} (h : cast' a b x = some y) (hc : Cells P a A w x l) : Cells P b A w y l ∧ b = a := by
  obtain ⟨e, rfl⟩ := cast'_eq h
  subst e
  exact ⟨hc, rfl⟩

theorem nslice_slice {t : Ty} {x : Option (List t.den)} {l : List Value} (h : Cells P (.nslice t) A w x l) : Cells P (.slice t) A w (x.getD []) l := by
  simp only [Cells] at h ⊢
  obtain ⟨p, c, rfl, h0, h4, h1, h2, h3⟩ := h
  exact ⟨p, c, rfl, h1, h2, h3⟩

theorem conv_cells {a b : Ty} {x : a.den} {y : b.den} {l : List Value} (h : conv a b x = some y) (hc : Cells P a A w x l) : Cells P b A w y l ∧ b.agg = a.agg := by
  unfold conv at h
  split at h
  · split at h
    · rename_i e
      subst e
      cases h
      exact ⟨nslice_slice hc, rfl⟩
    · cases h
  · obtain ⟨h1, h2⟩ := cast'_cells h hc
    subst h2
    exact ⟨h1, rfl⟩

theorem wrap_agg {a b : Ty} (h : b.agg = a.agg) (l : List Value) : b.wrap l = a.wrap l := by
  unfold Ty.wrap; rw [h]

/-- A scalar's cell is its value. -/
theorem scalar_cell {t : Ty} {x : t.den} {l : List Value} (ht : t.agg = false) (h : Cells P t A w x l) : l = [t.wrap l] := by
  have hl := h.length
  have h1 : t.size = 1 := by cases t <;> simp_all [Ty.agg, Ty.size]
  rw [h1] at hl
  obtain ⟨v, rfl⟩ := List.length_eq_one_iff.1 hl
  simp [Ty.wrap, ht]

theorem nil_slice (t : Ty) : Cells P (.slice t) A w ([] : List t.den) [.slice none 0 0] := by
  simp only [Cells]
  exact ⟨none, 0, rfl, Nat.le_refl _, Nat.zero_le _, fun i x h => by simp at h⟩

theorem nil_nslice (t : Ty) : Cells P (.nslice t) A w (none : Option (List t.den)) [.slice none 0 0] := by
  simp only [Cells]
  exact ⟨none, 0, rfl, by simp, fun _ => rfl, Nat.le_refl _, Nat.zero_le _, fun i x h => by simp at h⟩

theorem readC_cells : ∀ (t : Ty) (l : List Value) (x : t.den), readC t l = some x → Cells P t A w x l := by
  intro t
  induction t with
  | bool => intro l x h; simp only [readC] at h; split at h <;> simp_all [Cells]
  | int k => intro l x h; simp only [readC] at h; split at h <;> simp_all [Cells]
  | str =>
    intro l x h
    simp only [readC] at h
    split at h
    · cases h
      simp only [Cells]
    · cases h
  | unit => intro l x h; simp only [readC] at h; split at h <;> simp_all [Cells]
  | pair a b iha ihb =>
    intro l x h
    simp only [readC] at h
    simp only [Option.bind_eq_some_iff, Option.map_eq_some_iff] at h
    obtain ⟨y, hy, z, hz, rfl⟩ := h
    simp only [Cells]
    exact ⟨_, _, (List.take_append_drop _ _).symm, iha _ _ hy, ihb _ _ hz⟩
  | slice t ih =>
    intro l x h
    simp only [readC] at h
    split at h
    · cases h; exact nil_slice t
    · cases h
  | nslice t ih =>
    intro l x h
    simp only [readC] at h
    split at h
    · cases h; exact nil_nslice t
    · cases h
  | err => intro l x h; simp only [readC] at h; split at h <;> simp_all [Cells]
  | map k v _ _ => intro l x h; simp only [readC] at h; split at h <;> simp_all [Cells]
  | arr n t ih =>
    intro l x h
    simp only [readC] at h
    split at h
    · rename_i hl
      simp only [Cells]
      have hm : ∀ (is : List Nat) (ys : List t.den), is.mapM (fun i => readC t ((l.drop (i * t.size)).take t.size)) = some ys → ys.length = is.length ∧ ∀ (j : Nat) (y : t.den), ys[j]? = some y → ∃ i, is[j]? = some i ∧ readC t ((l.drop (i * t.size)).take t.size) = some y := by
        intro is
        induction is with
        | nil => intro ys h; simp at h; subst h; simp
        | cons i is ihs =>
          intro ys h
          simp only [List.mapM_cons, Option.bind_eq_bind, Option.bind_eq_some_iff, Option.pure_def, Option.some.injEq] at h
          obtain ⟨y, hy, zs, hz, rfl⟩ := h
          obtain ⟨h1, h2⟩ := ihs zs hz
          refine ⟨by simp [h1], fun j z hj => ?_⟩
          cases j with
          | zero => simp at hj; subst hj; exact ⟨i, rfl, hy⟩
          | succ j => simpa using h2 j z (by simpa using hj)
      obtain ⟨h1, h2⟩ := hm _ _ h
      refine ⟨hl, by simpa using h1, fun i y hi => ?_⟩
      obtain ⟨j, hj, hr⟩ := h2 i y hi
      have : j = i := by
        have := List.getElem?_eq_some_iff.1 hj
        obtain ⟨_, h⟩ := this
        simpa using h.symm
      subst this
      exact ih _ _ hr
    · cases h
  | _ => intro l x h; simp [readC] at h
end

section
variable {P : Program} {A0 : Nat → Prop} {w0 : Base} {ρ : Places} {s : St} {a : Act} {w w' : World} {T : List (TypeId × TyI)}

theorem constSV_sound {A : Nat → Prop} (τ : TypeId) (v : Value) (n : Nat) : SVRel P A w ρ (constSV T τ v) v ∧ (constSV T τ v).inn n := by
  unfold constSV
  split
  · exact ⟨⟨_, rfl, rfl⟩, trivial⟩
  · exact ⟨⟨_, rfl, rfl⟩, trivial⟩
  · exact ⟨⟨_, rfl, rfl⟩, trivial⟩
  · exact ⟨rfl, trivial⟩
  · exact ⟨⟨_, .inl ⟨rfl, rfl⟩, rfl⟩, trivial⟩
  · split
    · split
      · rename_i i _ x hx
        split
        · rename_i hagg
          exact ⟨⟨_, readC_cells _ _ _ hx, by simp [Ty.wrap, hagg]⟩, trivial⟩
        · exact ⟨trivial, trivial⟩
      · exact ⟨trivial, trivial⟩
    · exact ⟨trivial, trivial⟩
  · split
    · split
      · exact ⟨⟨[.map none], by simp [Cells], rfl⟩, trivial⟩
      · exact ⟨trivial, trivial⟩
    · exact ⟨trivial, trivial⟩
  · exact ⟨trivial, trivial⟩

theorem Rel.inn (h : Rel P A0 w0 ρ s a w) (i : Nat) : (s.get i).inn s.chunks.length := by
  unfold St.get
  rcases hi : s.slots[i]? with _ | sv
  · simp [List.getD, hi, SV.inn]
  · have := h.names i sv hi
    simpa [List.getD, hi] using this

theorem evalO_sound (h : Rel P A0 w0 ρ s a w) (τ : TypeId) (x : Operand) :
    SVRel P (Av A0 ρ s.chunks) w ρ (evalO T τ s x) (a.eval x) ∧ (evalO T τ s x).inn s.chunks.length := by
  cases x with
  | tmp t => exact ⟨h.get t, h.inn t⟩
  | const v => exact constSV_sound τ v _
  | global b =>
    have hG := h.globW
    show SVRel P (Av A0 ρ s.chunks) w ρ (globSV GT.gl b) (.pointer (some ⟨b, 0, none⟩)) ∧ (globSV GT.gl b).inn s.chunks.length
    clear h
    unfold GlobOK at hG
    generalize (GT.gl : List (Nat × Ty × List Value)) = L at hG ⊢
    induction L with
    | nil => exact ⟨trivial, trivial⟩
    | cons p L ih =>
      unfold globSV
      split
      · rename_i hb
        have hb' : p.1 = b := by simpa using hb
        subst hb'
        split
        · rename_i x hx
          obtain ⟨h1, h2, h3⟩ := hG p (List.mem_cons_self ..)
          exact ⟨⟨[.pointer (some ⟨p.1, 0, none⟩)], ⟨⟨p.1, 0, none⟩, p.2.2, rfl, rfl, h1, h2, row_cellsAt h3, readC_cells _ _ _ hx⟩, rfl⟩, trivial⟩
        · exact ⟨trivial, trivial⟩
      · exact ih (fun q hq => hG q (List.mem_cons_of_mem _ hq))
  | func f => exact ⟨⟨[], rfl, trivial⟩, trivial⟩

/-- The block of a slice of one's own, read as a list. -/
theorem map_cells {A A' : Nat → Prop} {p : Place} {k v : Ty} {es : List (k.den × v.den)} (h : ChunkRel P A w ρ p (.mp k v es)) (hA : ∀ n, n < w.heap.size → A' n → A n) (hb : ∀ b, p.blk = some b → ¬ A' b) :
    ∃ b, p.blk = some b ∧ Cells P (.map k v) A' w es [.map (some b)] := by
  obtain ⟨b, ms, c, h1, h2, h3, h4⟩ := h
  refine ⟨b, h1, .inr ⟨b, ms, c, rfl, hb b h1, h2, h3, fun i x hi => ?_⟩⟩
  obtain ⟨e, lv, h5, h6, h7, h8⟩ := h4 i x hi
  exact ⟨e, lv, h5, h6.mono (fun _ _ _ => rfl) hA, h7.mono (fun _ _ _ => rfl) hA, h8⟩

theorem arr_cells {A A' : Nat → Prop} {p : Place} {e : TypeId} {t : Ty} {xs : List t.den} {nn : Bool} (h : ChunkRel P A w ρ p (.arr e t xs nn)) (hA : ∀ n, n < w.heap.size → A' n → A n) (hb : ∀ b, p.blk = some b → ¬ A' b) :
    (nn = false → Cells P (.slice t) A' w xs [.slice (p.blk.map fun b => ⟨b, 0, none⟩) p.len p.cap]) ∧
    (nn = true → Cells P (.nslice t) A' w (some xs) [.slice (p.blk.map fun b => ⟨b, 0, none⟩) p.len p.cap]) ∧
    Cells P (.slice t) A' w xs [.slice (p.blk.map fun b => ⟨b, 0, none⟩) p.len p.cap] := by
  obtain ⟨hlen, hnn, h⟩ := h
  have key : p.len ≤ p.cap ∧ p.cap ≤ maxLen ∧ ∀ (i : Nat) (x : t.den), xs[i]? = some x → ∃ (a : Addr) (l' : List Value), (p.blk.map fun b => (⟨b, 0, none⟩ : Addr)) = some a ∧ a.spot = none ∧ ¬ A' a.block ∧ a.block < w.heap.size ∧ CellsAt w a.block (a.off + i * t.size) l' ∧ Cells P t A' w x l' := by
    rcases h with ⟨h1, h2, h3⟩ | ⟨b, vs, h1, h2, h3, h4, h5, h6⟩
    · refine ⟨by omega, by rw [h3]; simp [maxLen], fun i x hx => ?_⟩
      have : xs = [] := List.eq_nil_of_length_eq_zero (by omega)
      subst this
      simp at hx
    · refine ⟨h3, h4, fun i x hx => ⟨⟨b, 0, none⟩, (vs.toList.drop (i * t.size)).take t.size, by simp [h1], rfl, hb b h1, lt_of_get h2, ?_, (h6 i x hx).mono (fun _ _ _ => rfl) hA⟩⟩
      intro j v hj
      rw [List.getElem?_take] at hj
      split at hj
      · rw [List.getElem?_drop] at hj
        simp only [World.cell?, h2, Nat.zero_add]
        simpa using hj
      · cases hj
  have hs : Cells P (.slice t) A' w xs [.slice (p.blk.map fun b => ⟨b, 0, none⟩) p.len p.cap] := by
    simp only [Cells]
    exact ⟨_, p.cap, by rw [hlen], by rw [hlen]; exact key.1, key.2.1, key.2.2⟩
  refine ⟨fun _ => hs, fun hn => ?_, hs⟩
  simp only [Cells, Option.getD_some]
  have hne := hnn hn
  refine ⟨_, p.cap, by rw [hlen], ?_, ?_, by rw [hlen]; exact key.1, key.2.1, key.2.2⟩
  · simp [hne]
  · intro h0; simp [hne] at h0

theorem getD_some {cs : List (Option Chunk)} {β : Nat} {ch : Chunk} (h : cs.getD β none = some ch) : cs[β]? = some (some ch) := by
  rw [List.getD_eq_getElem?_getD] at h
  cases hc : cs[β]? with
  | none => simp [hc] at h
  | some o => simp [hc] at h; rw [h]

/-- A slot as a typed value. -/
theorem valOf_sound {A A' : Nat → Prop} {cs : List (Option Chunk)} (hA : ∀ n, n < w.heap.size → A' n → A n)
    (hc : ∀ β ch, cs[β]? = some (some ch) → ChunkRel P A w ρ (ρ β) ch ∧ ∀ b, (ρ β).blk = some b → ¬ A' b)
    {sv : SV} {v : Value} {t : Ty} {x : t.den} (hs : SVRel P A w ρ sv v) (h : valOf cs sv t = some x) : ∃ l, Cells P t A' w x l ∧ v = t.wrap l := by
  unfold valOf at h
  split at h
  · rename_i u y
    obtain ⟨l, hl, rfl⟩ := hs
    obtain ⟨h1, h2⟩ := conv_cells h hl
    exact ⟨l, h1.mono (fun _ _ _ => rfl) hA, (wrap_agg h2 l).symm⟩
  · simp only [SVRel] at hs
    subst hs
    split at h
    · cases h
      exact ⟨[.slice none 0 0], nil_slice _, rfl⟩
    · cases h
      exact ⟨[.slice none 0 0], nil_nslice _, rfl⟩
    · cases h
  · rename_i β
    simp only [SVRel] at hs
    subst hs
    simp only [Option.bind_eq_some_iff] at h
    obtain ⟨tv, h1, h2⟩ := h
    unfold ownVal at h1
    split at h1
    · rename_i e u xs nn hch
      obtain ⟨h3, h4⟩ := hc β _ (getD_some hch)
      obtain ⟨h5, h6, h7⟩ := arr_cells h3 hA h4
      cases nn with
      | true =>
        simp at h1
        subst h1
        obtain ⟨h8, h9⟩ := conv_cells h2 (h6 rfl)
        exact ⟨_, h8, by rw [wrap_agg h9]; rfl⟩
      | false =>
        simp at h1
        subst h1
        obtain ⟨h8, h9⟩ := conv_cells h2 (h5 rfl)
        exact ⟨_, h8, by rw [wrap_agg h9]; rfl⟩
    · cases h1
  · rename_i β
    simp only [SVRel] at hs
    subst hs
    simp only [Option.bind_eq_some_iff] at h
    obtain ⟨tv, h1, h2⟩ := h
    unfold ownMap at h1
    split at h1
    · rename_i k u es hch
      obtain ⟨h3, h4⟩ := hc β _ (getD_some hch)
      obtain ⟨b, h5, h6⟩ := map_cells h3 hA h4
      simp at h1
      subst h1
      obtain ⟨h8, h9⟩ := conv_cells h2 h6
      exact ⟨_, h8, by rw [wrap_agg h9, h5]; rfl⟩
    · cases h1
  · cases h

theorem valOf_nil {A : Nat → Prop} {sv : SV} {v : Value} {t : Ty} {x : t.den} (hs : SVRel P A w ρ sv v) (h : valOf [] sv t = some x) : ∃ l, Cells P t A w x l ∧ v = t.wrap l :=
  valOf_sound (cs := []) (fun _ _ h => h) (fun β ch h => by simp at h) hs h

/-! ### Boxes -/
def CellsRel (P : Program) (A : Nat → Prop) (w : World) (ρ : Places) (svs : List SV) (vs : List Value) : Prop :=
  vs.length = svs.length ∧ ∀ (i : Nat) (sv : SV), svs[i]? = some sv → ∃ v, vs[i]? = some v ∧ SVRel P A w ρ sv v

theorem CellsRel.take {A : Nat → Prop} {svs : List SV} {vs : List Value} (h : CellsRel P A w ρ svs vs) (n : Nat) : CellsRel P A w ρ (svs.take n) (vs.take n) := by
  refine ⟨by simp [h.1], fun i sv hi => ?_⟩
  rw [List.getElem?_take] at hi
  split at hi
  · rename_i hn
    obtain ⟨v, h1, h2⟩ := h.2 i sv hi
    exact ⟨v, by rw [List.getElem?_take, if_pos hn]; exact h1, h2⟩
  · cases hi

theorem CellsRel.drop {A : Nat → Prop} {svs : List SV} {vs : List Value} (h : CellsRel P A w ρ svs vs) (n : Nat) : CellsRel P A w ρ (svs.drop n) (vs.drop n) := by
  refine ⟨by simp [h.1], fun i sv hi => ?_⟩
  rw [List.getElem?_drop] at hi
  obtain ⟨v, h1, h2⟩ := h.2 _ sv hi
  exact ⟨v, by rw [List.getElem?_drop]; exact h1, h2⟩

theorem CellsRel.append {A : Nat → Prop} {s1 s2 : List SV} {v1 v2 : List Value} (h1 : CellsRel P A w ρ s1 v1) (h2 : CellsRel P A w ρ s2 v2) : CellsRel P A w ρ (s1 ++ s2) (v1 ++ v2) := by
  refine ⟨by simp [h1.1, h2.1], fun i sv hi => ?_⟩
  rcases Nat.lt_or_ge i s1.length with hl | hl
  · rw [List.getElem?_append_left hl] at hi
    rw [List.getElem?_append_left (by rw [h1.1]; exact hl)]
    exact h1.2 i sv hi
  · rw [List.getElem?_append_right hl] at hi
    rw [List.getElem?_append_right (by rw [h1.1]; exact hl), h1.1]
    exact h2.2 _ sv hi

theorem CellsRel.one {A : Nat → Prop} {sv : SV} {v : Value} (h : SVRel P A w ρ sv v) : CellsRel P A w ρ [sv] [v] := by
  refine ⟨rfl, fun i x hi => ?_⟩
  cases i with
  | zero => simp at hi; subst hi; exact ⟨v, rfl, h⟩
  | succ i => simp at hi

theorem gather_scalar {A : Nat → Prop} {t : Ty} (ht : t.agg = false) {sv : SV} {vs : List Value} {x : t.den} (hr : CellsRel P A w ρ [sv] vs) (h : valOf [] sv t = some x) : Cells P t A w x vs := by
  obtain ⟨v, h1, h2⟩ := hr.2 0 sv rfl
  have hl := hr.1
  obtain ⟨v', rfl⟩ := List.length_eq_one_iff.1 hl
  simp at h1
  subst h1
  obtain ⟨l, h3, h4⟩ := valOf_nil h2 h
  have := scalar_cell ht h3
  rw [← h4] at this
  rw [← this]
  exact h3

theorem gather_sound {A : Nat → Prop} : ∀ (t : Ty) (svs : List SV) (vs : List Value) (x : t.den), CellsRel P A w ρ svs vs → gather t svs = some x → Cells P t A w x vs := by
  intro t
  induction t with
  | unit =>
    intro svs vs x hr h
    simp only [gather] at h
    split at h <;> simp_all [CellsRel, Cells]
  | pair a b iha ihb =>
    intro svs vs x hr h
    simp only [gather] at h
    simp only [Option.bind_eq_some_iff, Option.map_eq_some_iff] at h
    obtain ⟨y, hy, z, hz, rfl⟩ := h
    simp only [Cells]
    exact ⟨_, _, (List.take_append_drop a.size vs).symm, iha _ _ _ (hr.take _) hy, ihb _ _ _ (hr.drop _) hz⟩
  | arr n t ih =>
    intro svs vs x hr h
    simp only [gather] at h
    split at h
    · rename_i hl
      simp only [Cells]
      have hm : ∀ (is : List Nat) (ys : List t.den), is.mapM (fun i => gather t ((svs.drop (i * t.size)).take t.size)) = some ys → ys.length = is.length ∧ ∀ (j : Nat) (y : t.den), ys[j]? = some y → ∃ i, is[j]? = some i ∧ gather t ((svs.drop (i * t.size)).take t.size) = some y := by
        intro is
        induction is with
        | nil => intro ys h; simp at h; subst h; simp
        | cons i is ihs =>
          intro ys h
          simp only [List.mapM_cons, Option.bind_eq_bind, Option.bind_eq_some_iff, Option.pure_def, Option.some.injEq] at h
          obtain ⟨y, hy, zs, hz, rfl⟩ := h
          obtain ⟨h1, h2⟩ := ihs zs hz
          refine ⟨by simp [h1], fun j z hj => ?_⟩
          cases j with
          | zero => simp at hj; subst hj; exact ⟨i, rfl, hy⟩
          | succ j => simpa using h2 j z (by simpa using hj)
      obtain ⟨h1, h2⟩ := hm _ _ h
      refine ⟨by rw [hr.1]; exact hl, by simpa using h1, fun i y hi => ?_⟩
      obtain ⟨j, hj, hg⟩ := h2 i y hi
      have : j = i := by
        obtain ⟨_, h⟩ := List.getElem?_eq_some_iff.1 hj
        simpa using h.symm
      subst this
      exact ih _ _ _ ((hr.drop _).take _) hg
    · cases h
  | _ =>
    intro svs vs x hr h
    simp only [gather, one] at h
    split at h
    · exact gather_scalar rfl hr h
    · cases h

theorem scatter_sound {A : Nat → Prop} : ∀ (t : Ty) (x : t.den) (l : List Value), Cells P t A w x l → CellsRel P A w ρ (scatter t x) l := by
  intro t
  induction t with
  | unit => intro x l h; simp only [Cells] at h; subst h; exact ⟨rfl, fun i sv hi => by simp [scatter] at hi⟩
  | pair a b iha ihb =>
    intro x l h
    simp only [Cells] at h
    obtain ⟨l1, l2, rfl, h1, h2⟩ := h
    exact (iha _ _ h1).append (ihb _ _ h2)
  | arr n t ih =>
    intro xs l h
    simp only [Cells] at h
    obtain ⟨h1, h2, h3⟩ := h
    unfold scatter
    have key : ∀ m, m ≤ n → CellsRel P A w ρ ((List.range m).flatMap fun i => scatter t (List.getD xs i t.dflt)) (l.take (m * t.size)) := by
      intro m
      induction m with
      | zero => intro _; exact ⟨by simp, fun i sv hi => by simp at hi⟩
      | succ m ihm =>
        intro hm
        rw [List.range_succ, List.flatMap_append, List.flatMap_singleton]
        rw [show (m + 1) * t.size = m * t.size + t.size by rw [Nat.add_mul, Nat.one_mul], List.take_add]
        have hm' : m < List.length xs := by omega
        refine (ihm (by omega)).append (ih _ _ (h3 m _ ?_))
        rw [List.getD_eq_getElem?_getD, List.getElem?_eq_getElem hm']
        rfl
    have := key n (Nat.le_refl _)
    rwa [← h1, List.take_length] at this
  | _ =>
    intro x l h
    have hs := scalar_cell (t := _) rfl h
    rw [hs]
    exact CellsRel.one ⟨l, h, rfl⟩

theorem zero_sound {A : Nat → Prop} : ∀ (t : Ty), CellsRel P A w ρ (zeroSV t) t.zeroV := by
  intro t
  induction t with
  | unit => exact ⟨rfl, fun i sv hi => by simp [zeroSV] at hi⟩
  | pair a b iha ihb => exact iha.append ihb
  | arr n t ih =>
    unfold zeroSV Ty.zeroV
    induction n with
    | zero => exact ⟨rfl, fun i sv hi => by simp at hi⟩
    | succ n ihn => simpa [List.replicate_succ] using ih.append ihn
  | bool => exact CellsRel.one ⟨_, rfl, rfl⟩
  | int k => exact CellsRel.one ⟨_, rfl, rfl⟩
  | str => exact CellsRel.one ⟨_, rfl, rfl⟩
  | slice t _ => exact CellsRel.one rfl
  | nslice t _ => exact CellsRel.one rfl
  | err => exact CellsRel.one ⟨_, .inl ⟨rfl, rfl⟩, rfl⟩
  | flt k => exact CellsRel.one ⟨_, rfl, rfl⟩
  | _ => exact CellsRel.one trivial

theorem zeroV_length : ∀ t : Ty, t.zeroV.length = t.size := by
  intro t
  induction t with
  | pair a b iha ihb => simp [Ty.zeroV, Ty.size, iha, ihb]
  | arr n t ih => simp [Ty.zeroV, Ty.size, ih]
  | _ => rfl

theorem dflt_cells {A : Nat → Prop} : ∀ (t : Ty), t.zok = true → Cells P t A w t.dflt t.zeroV := by
  intro t
  induction t with
  | pair a b iha ihb =>
    intro h
    simp only [Ty.zok, Bool.and_eq_true] at h
    exact ⟨_, _, rfl, iha h.1, ihb h.2⟩
  | arr n t ih =>
    intro h
    have hz := ih h
    simp only [Cells]
    refine ⟨by simp [Ty.zeroV, zeroV_length], by simp [Ty.dflt], fun i x hi => ?_⟩
    have hi' := List.getElem?_eq_some_iff.1 hi
    obtain ⟨hlt, hx⟩ := hi'
    simp [Ty.dflt] at hlt hx
    subst hx
    have : ((Ty.arr n t).zeroV.drop (i * t.size)).take t.size = t.zeroV := by
      show (((List.replicate n t.zeroV).flatten).drop (i * t.size)).take t.size = t.zeroV
      have key : ∀ (n i : Nat), i < n → (((List.replicate n t.zeroV).flatten).drop (i * t.size)).take t.size = t.zeroV := by
        intro n
        induction n with
        | zero => intro i h; omega
        | succ n ihn =>
          intro i hi
          rw [List.replicate_succ, List.flatten_cons]
          cases i with
          | zero => simp [← zeroV_length t]
          | succ i =>
            rw [show (i + 1) * t.size = t.zeroV.length + i * t.size by rw [zeroV_length, Nat.add_mul, Nat.one_mul, Nat.add_comm], List.drop_append]
            simp only [Nat.add_sub_cancel_left]
            rw [List.drop_eq_nil_of_le (by omega), List.nil_append]
            exact ihn i (by omega)
      exact key n i hlt
    rw [this]
    exact hz
  | bool => intro _; rfl
  | int k => intro _; rfl
  | str => intro _; rfl
  | unit => intro _; rfl
  | slice t _ => intro _; exact nil_slice t
  | nslice t _ => intro _; exact nil_nslice t
  | err => intro _; exact .inl ⟨rfl, rfl⟩
  | flt k => intro _; rfl
  | cplx k => intro _; rfl
  | map k v _ _ => intro _; exact .inl ⟨rfl, rfl⟩
  | func a b _ _ => intro _; exact .inl ⟨rfl, fun _ => rfl⟩
  | ref t _ => intro h; cases h

/-! ### Parts -/
theorem fieldOf_sound {A : Nat → Prop} : ∀ (t : Ty) (fs : List Field) (off : Nat) (x : t.den) (l : List Value) (f : Nat) (tv : TV), structB P fs off t = true → Cells P t A w x l → fieldOf t x f = some tv →
    ∃ fd, fs[f]? = some fd ∧ Fits P fd.type tv.t ∧ tv.t.size ≠ 0 ∧ off ≤ fd.offset ∧ fd.offset - off + tv.t.size ≤ l.length ∧ Cells P tv.t A w tv.x ((l.drop (fd.offset - off)).take tv.t.size) := by
  intro t
  induction t with
  | pair a b iha ihb =>
    intro fs off x l f tv hB hc h
    cases fs with
    | nil => simp [structB] at hB
    | cons fd fs =>
      simp only [structB, Bool.and_eq_true, beq_iff_eq, Bool.not_eq_true', beq_eq_false_iff_ne] at hB
      simp only [Cells] at hc
      obtain ⟨l1, l2, rfl, h1, h2⟩ := hc
      cases f with
      | zero =>
        simp only [fieldOf, Option.some.injEq] at h
        subst h
        have h0 : fd.offset - off = 0 := by omega
        refine ⟨fd, rfl, fits_of hB.1.2, hB.1.1.2, by omega, ?_, ?_⟩
        · rw [h0]; simp [h1.length]
        · rw [h0]
          simp only [List.drop_zero]
          rw [← h1.length, List.take_left]
          exact h1
      | succ f =>
        simp only [fieldOf] at h
        obtain ⟨fd', h3, h4, h5, h6, h7, h8⟩ := ihb fs _ _ _ f tv hB.2 h2 h
        have e : fd'.offset - off = l1.length + (fd'.offset - (off + a.size)) := by rw [h1.length]; omega
        refine ⟨fd', by simpa using h3, h4, h5, by omega, ?_, ?_⟩
        · rw [e]; simp; omega
        · rw [e, List.drop_append, List.drop_eq_nil_of_le (by omega), List.nil_append, Nat.add_sub_cancel_left]
          exact h8
  | _ => intro fs off x l f tv _ _ h; simp [fieldOf] at h

theorem take_drop_take {α : Type} (l : List α) (o n m k : Nat) (h : o + n ≤ m) : (((l.drop k).take m).drop o).take n = (l.drop (k + o)).take n := by
  rw [List.drop_take, List.take_take, List.drop_drop]
  congr 1
  omega

theorem compAt_sound {A : Nat → Prop} : ∀ (t : Ty) (x : t.den) (off : Nat) (τ : Ty) (y : τ.den) (l : List Value), Cells P t A w x l → compAt t x off τ = some y → off + τ.size ≤ l.length ∧ Cells P τ A w y ((l.drop off).take τ.size) := by
  intro t
  induction t with
  | pair a b iha ihb =>
    intro x off τ y l hc h
    unfold compAt at h
    split at h
    · rename_i e
      obtain ⟨rfl, rfl⟩ := e
      cases h
      have := hc.length
      refine ⟨by omega, ?_⟩
      rw [List.drop_zero, ← this, List.take_length]
      exact hc
    · simp only [Cells] at hc
      obtain ⟨l1, l2, rfl, h1, h2⟩ := hc
      simp only at h
      split at h
      · rename_i hlt
        obtain ⟨h3, h4⟩ := iha _ _ _ _ _ h1 h
        refine ⟨by simp; omega, ?_⟩
        rw [List.drop_append, List.take_append]
        have e1 : off - l1.length = 0 := by omega
        have e2 : τ.size - (l1.drop off).length = 0 := by simp; omega
        rw [e2, List.take_zero, List.append_nil]
        exact h4
      · rename_i hge
        have hlen := h1.length
        obtain ⟨h3, h4⟩ := ihb _ _ _ _ _ h2 h
        refine ⟨by simp; omega, ?_⟩
        rw [List.drop_append, List.drop_eq_nil_of_le (by omega), List.nil_append, hlen]
        exact h4
  | _ =>
    intro x off τ y l hc h
    unfold compAt at h
    split at h
    · rename_i e
      obtain ⟨rfl, rfl⟩ := e
      cases h
      have := hc.length
      refine ⟨by omega, ?_⟩
      rw [List.drop_zero, ← this, List.take_length]
      exact hc
    · simp at h

theorem updAt_sound {A : Nat → Prop} : ∀ (t : Ty) (x : t.den) (off : Nat) (τ : Ty) (y : τ.den) (x' : t.den) (l m : List Value), Cells P t A w x l → Cells P τ A w y m → updAt t x off τ y = some x' →
    off + m.length ≤ l.length ∧ Cells P t A w x' (l.take off ++ m ++ l.drop (off + m.length)) := by
  intro t
  induction t with
  | pair a b iha ihb =>
    intro x off τ y x' l m hc hm h
    unfold updAt at h
    split at h
    · rename_i e
      obtain ⟨rfl, rfl⟩ := e
      cases h
      have h1 := hc.length
      have h2 := hm.length
      refine ⟨by omega, ?_⟩
      rw [List.take_zero, List.nil_append, Nat.zero_add, List.drop_eq_nil_of_le (by omega), List.append_nil]
      exact hm
    · simp only [Cells] at hc
      obtain ⟨l1, l2, rfl, h1, h2⟩ := hc
      simp only at h
      split at h
      · rename_i hlt
        simp only [Option.map_eq_some_iff] at h
        obtain ⟨q, hq, rfl⟩ := h
        obtain ⟨h3, h4⟩ := iha _ _ _ _ _ _ _ h1 hm hq
        refine ⟨by simp; omega, ?_⟩
        simp only [Cells]
        refine ⟨l1.take off ++ m ++ l1.drop (off + m.length), l2, ?_, h4, h2⟩
        rw [List.take_append_of_le_length (by omega), List.drop_append_of_le_length (by omega)]
        simp
      · rename_i hge
        have hlen := h1.length
        simp only [Option.map_eq_some_iff] at h
        obtain ⟨q, hq, rfl⟩ := h
        obtain ⟨h3, h4⟩ := ihb _ _ _ _ _ _ _ h2 hm hq
        refine ⟨by simp; omega, ?_⟩
        simp only [Cells]
        refine ⟨l1, l2.take (off - a.size) ++ m ++ l2.drop (off - a.size + m.length), ?_, h1, h4⟩
        rw [List.take_append, List.drop_append, List.take_of_length_le (by omega), List.drop_eq_nil_of_le (by omega), hlen]
        simp
        congr 2
        omega
  | _ =>
    intro x off τ y x' l m hc hm h
    unfold updAt at h
    split at h
    · rename_i e
      obtain ⟨rfl, rfl⟩ := e
      cases h
      have h1 := hc.length
      have h2 := hm.length
      refine ⟨by omega, ?_⟩
      rw [List.take_zero, List.nil_append, Nat.zero_add, List.drop_eq_nil_of_le (by omega), List.append_nil]
      exact hm
    · simp at h

theorem tupAt_sound {A : Nat → Prop} : ∀ (t : Ty) (x : t.den) (l : List Value) (n : Nat) (tv : TV), Cells P t A w x l → tupAt t x n = some tv → ∃ l', Cells P tv.t A w tv.x l' ∧ (t.group l)[n]? = some (tv.t.wrap l') := by
  intro t
  induction t with
  | pair a b iha ihb =>
    intro x l n tv hc h
    simp only [Cells] at hc
    obtain ⟨l1, l2, rfl, h1, h2⟩ := hc
    have e1 : (l1 ++ l2).take a.size = l1 := by rw [← h1.length, List.take_left]
    have e2 : (l1 ++ l2).drop a.size = l2 := by rw [← h1.length, List.drop_left]
    cases n with
    | zero =>
      simp only [tupAt, Option.some.injEq] at h
      subst h
      exact ⟨l1, h1, by simp [Ty.group, e1]⟩
    | succ n =>
      simp only [tupAt] at h
      obtain ⟨l', h3, h4⟩ := ihb _ _ n tv h2 h
      exact ⟨l', h3, by simpa [Ty.group, e2] using h4⟩
  | _ => intro x l n tv _ h; simp [tupAt] at h
end
/-- What the table of contracts says of the program. -/
def FnOK (P : Program) (e : Entry) : Prop :=
  Enters P e.f ∧ ∀ (A : Nat → Prop) (w : World) (x : e.args.den) (l : List Value) (y : e.ress.den), GlobOK A w → (∀ n, A n → n < w.heap.size) → Cells P e.args A w x l → e.m x = some y →
    Calls P e.f (e.args.group l).toArray w fun ex w' => ∃ ly, ex = .returned (pack (e.ress.group ly)) ∧ Cells P e.ress A w' y ly ∧ Below w.heap.size w w'

section
variable {P : Program} {A0 : Nat → Prop} {w0 : Base} {ρ : Places} {s : St} {a : Act} {w w' : World} {g : G}

/-! ### Arguments -/
theorem flat_cells {A A' : Nat → Prop} : ∀ {t : Ty} {x : t.den} {l : List Value}, t.flat = true → Cells P t A w x l → Cells P t A' w' x l := by
  intro t
  induction t with
  | pair a b iha ihb =>
    intro x l hf h
    simp only [Ty.flat, Bool.and_eq_true] at hf
    simp only [Cells] at h ⊢
    obtain ⟨l1, l2, rfl, h1, h2⟩ := h
    exact ⟨l1, l2, rfl, iha hf.1 h1, ihb hf.2 h2⟩
  | arr n t ih =>
    intro x l hf h
    simp only [Cells] at h ⊢
    exact ⟨h.1, h.2.1, fun i y hy => ih hf (h.2.2 i y hy)⟩
  | bool | int _ | str | unit | flt _ | cplx _ | err => intro x l _ h; exact h
  | _ => intro x l hf h; cases hf

theorem app_cells {A : Nat → Prop} {t : Ty} {y : t.den} {ly : List Value} (hy : Cells P t A w y ly) : ∀ {a : Ty} {x : a.den} {l : List Value}, Cells P a A w x l →
    ∃ l', Cells P (a.app t) A w (appDen a t x y) l' ∧ (a.app t).group l' = a.group l ++ t.group ly := by
  intro a
  induction a with
  | pair a b iha ihb =>
    intro x l h
    simp only [Cells] at h
    obtain ⟨l1, l2, rfl, h1, h2⟩ := h
    obtain ⟨l', h3, h4⟩ := ihb h2
    refine ⟨l1 ++ l', ⟨l1, l', rfl, h1, h3⟩, ?_⟩
    have e1 : (l1 ++ l2).take a.size = l1 := by rw [← h1.length, List.take_left]
    have e2 : (l1 ++ l2).drop a.size = l2 := by rw [← h1.length, List.drop_left]
    have e3 : (l1 ++ l').take a.size = l1 := by rw [← h1.length, List.take_left]
    have e4 : (l1 ++ l').drop a.size = l' := by rw [← h1.length, List.drop_left]
    simp only [Ty.group, Ty.app, e1, e2, e3, e4, h4, List.cons_append]
  | _ => intro x l h; exact ⟨ly, hy, by simp [Ty.group, Ty.app]⟩

theorem capsTV_cells {A : Nat → Prop} : ∀ {cs : List Cap} {vs : List Value} {c : TV}, capsTV cs = some c → CapsRel P A w ρ cs vs → ∃ l, Cells P c.t A w c.x l ∧ c.t.group l = vs
  | [], [], c, h, _ => by
    simp only [capsTV, Option.some.injEq] at h
    subst h
    exact ⟨[], rfl, rfl⟩
  | [], _ :: _, _, _, h => h.elim
  | .box β :: cs, _, c, h, _ => by simp [capsTV] at h
  | .val t x :: cs, [], c, _, h => h.elim
  | .val t x :: cs, v :: vs, c, h, hr => by
    simp only [capsTV, Option.map_eq_some_iff] at h
    obtain ⟨d, hd, rfl⟩ := h
    obtain ⟨l2, h3, h4⟩ := capsTV_cells hd hr.2
    obtain ⟨l1, h1, rfl⟩ := hr.1
    refine ⟨l1 ++ l2, ⟨l1, l2, rfl, h1, h3⟩, ?_⟩
    have e1 : (l1 ++ l2).take t.size = l1 := by rw [← h1.length, List.take_left]
    have e2 : (l1 ++ l2).drop t.size = l2 := by rw [← h1.length, List.drop_left]
    simp only [Ty.group, e1, e2, h4]

theorem findE_mem : ∀ {E : List Entry} {f : FuncId} {e : Entry}, findE E f = some e → e ∈ E ∧ e.f = f
  | [], _, _, h => by simp [findE] at h
  | e' :: l, f, e, h => by
    unfold findE at h
    split at h
    · rename_i he
      simp at he h
      subst h
      exact ⟨List.mem_cons_self .., he⟩
    · exact ⟨List.mem_cons_of_mem _ (findE_mem h).1, (findE_mem h).2⟩

theorem cloVal_cells (hE : ∀ e ∈ g.E, FnOK P e) {A A' : Nat → Prop} (hA : ∀ n, n < w.heap.size → A' n → A n) {f : FuncId} {caps : List Cap} {ta tb : Ty} {m : ta.den → Option tb.den} {v : Value} (hs : SVRel P A w ρ (.clo f caps) v) (h : cloVal g.E f caps ta tb = some m) :
    ∃ l, Cells P (.func ta tb) A' w m l ∧ v = (Ty.func ta tb).wrap l := by
  obtain ⟨vs, rfl, hr⟩ := hs
  unfold cloVal at h
  simp only [Option.bind_eq_some_iff] at h
  obtain ⟨e, he, c, hc, h⟩ := h
  obtain ⟨hm, rfl⟩ := findE_mem he
  split at h
  · rename_i heq
    obtain ⟨lc, h1, h2⟩ := capsTV_cells hc hr
    obtain ⟨f, ea, er, em⟩ := e
    obtain ⟨h3, h4⟩ := heq
    simp only at h3 h4
    subst h3 h4
    simp only [Option.some.injEq] at h
    obtain ⟨hEn, hF⟩ := hE _ hm
    refine ⟨_, .inr ⟨f, #[], vs.toArray, fun n => n < w.heap.size ∧ ¬ A' n, rfl, hEn, fun n hn => ⟨hn.2, hn.1⟩, fun A2 w2 hG2 h5 h6 x lx y hx hy => ?_⟩, rfl⟩
    subst h
    have h1' : Cells P c.t A2 w2 c.x lc := (h1.mono (fun _ _ _ => rfl) hA).mono (fun n hn hnA => h5 n ⟨hn, hnA⟩) (fun n hn hn2 => Classical.byContradiction fun hc => (h6 n hn2).2 ⟨hn, hc⟩)
    obtain ⟨l', h7, h8⟩ := app_cells h1' hx
    have := hF A2 w2 (appDen ta c.t x c.x) l' y hG2 (fun n hn => (h6 n hn).1) h7 hy
    rw [h8, h2] at this
    have e2 : #[] ++ (ta.group lx).toArray ++ vs.toArray = (ta.group lx ++ vs).toArray := by simp
    rw [e2]
    exact this
  · cases h

theorem argOf_sound (hE : ∀ e ∈ g.E, FnOK P e) {A A' : Nat → Prop} {cs : List (Option Chunk)} (hA : ∀ n, n < w.heap.size → A' n → A n)
    (hc : ∀ β ch, cs[β]? = some (some ch) → ChunkRel P A w ρ (ρ β) ch ∧ ∀ b, (ρ β).blk = some b → ¬ A' b)
    {sv : SV} {v : Value} {t : Ty} {x : t.den} (hs : SVRel P A w ρ sv v) (h : argOf g.E cs sv t = some x) : ∃ l, Cells P t A' w x l ∧ v = t.wrap l := by
  unfold argOf at h
  split at h
  · exact cloVal_cells hE hA hs h
  · exact valOf_sound hA hc hs h

theorem argOf_nil (hE : ∀ e ∈ g.E, FnOK P e) {A : Nat → Prop} {sv : SV} {v : Value} {t : Ty} {x : t.den} (hs : SVRel P A w ρ sv v) (h : argOf g.E [] sv t = some x) : ∃ l, Cells P t A w x l ∧ v = t.wrap l :=
  argOf_sound hE (cs := []) (fun _ _ h => h) (fun β ch h => by simp at h) hs h

theorem asFn_sound (hE : ∀ e ∈ g.E, FnOK P e) {A : Nat → Prop} (t : Ty) {sv : SV} {v : Value} {n : Nat} (hs : SVRel P A w ρ sv v) (hn : sv.inn n) : SVRel P A w ρ (asFn g.E t sv) v ∧ (asFn g.E t sv).inn n := by
  unfold asFn
  split
  · split
    · rename_i m hm
      exact ⟨cloVal_cells hE (fun _ _ h => h) hs hm, trivial⟩
    · exact ⟨hs, hn⟩
  · exact ⟨hs, hn⟩

theorem loadAs_sound {A : Nat → Prop} {t' : TypeId} {u t : Ty} {x : u.den} {y : TV} {l : List Value} (h : loadAs u t x = some y) (hc : Cells P u A w x l) (hF : Fits P t' t) : Cells P y.t A w y.x l ∧ Fits P t' y.t := by
  unfold loadAs at h
  split at h
  · split at h
    · rename_i hu
      cases h
      subst hu
      exact ⟨hc, ⟨fun h => (by cases h), hF.ex⟩⟩
    · cases h
  · obtain ⟨z, hz, rfl⟩ := Option.map_eq_some_iff.1 h
    exact ⟨(cast'_cells hz hc).1, hF⟩
end
end Go.Vx
