/- V9: new values: structs, arrays, slices out of parts, boxes, closures, cuts, lengths; and all operations that turn no block of one's own together. -/
import Derived.Test.YtkfigfhjbejikaaGreatDoorV8
import Derived.Great.BuildSlice
set_option linter.all false
namespace Go.Vx
open Go.RowKit
variable [GT]

section
variable {P : Program} {A0 : Nat → Prop} {w0 : Base} {ρ : Places} {s : St} {a : Act} {w w' : World} {g : G} {R : Type} {K : SV → Option R} {r : R} {o : Oper}

/-- No cell is a struct. -/
def Value.plain1 : Value → Bool
  | .agg _ | .tuple _ => false
  | _ => true

theorem Cells.plain {A : Nat → Prop} : ∀ {t : Ty} {x : t.den} {l : List Value}, Cells P t A w x l → ∀ v ∈ l, Value.plain1 v = true := by
  intro t
  induction t with
  | pair a b iha ihb =>
    intro x l h v hv
    simp only [Cells] at h
    obtain ⟨l1, l2, rfl, h1, h2⟩ := h
    rcases List.mem_append.1 hv with hv | hv
    · exact iha h1 v hv
    · exact ihb h2 v hv
  | arr n t ih =>
    intro xs l h v hv
    simp only [Cells] at h
    obtain ⟨h1, h2, h3⟩ := h
    obtain ⟨j, hj⟩ := List.mem_iff_getElem?.1 hv
    have hlt := (List.getElem?_eq_some_iff.1 hj).1
    have hs : 0 < t.size := by
      rcases Nat.eq_zero_or_pos t.size with h0 | h0
      · rw [h0] at h1; omega
      · exact h0
    have hd : j / t.size < n := by rw [Nat.div_lt_iff_lt_mul hs, ← h1]; exact hlt
    have hx : (xs : List t.den)[j / t.size]? = some (xs : List t.den)[j / t.size] := List.getElem?_eq_getElem (by rw [h2]; exact hd)
    refine ih (h3 _ _ hx) v ?_
    have hm := Nat.mod_lt j hs
    refine List.mem_iff_getElem?.2 ⟨j % t.size, ?_⟩
    rw [List.getElem?_take, if_pos hm, List.getElem?_drop]
    rw [Nat.mul_comm, Nat.div_add_mod]
    exact hj
  | unit => intro x l h v hv; simp only [Cells] at h; subst h; cases hv
  | bool => intro x l h v hv; simp only [Cells] at h; subst h; simp at hv; subst hv; rfl
  | int k => intro x l h v hv; simp only [Cells] at h; subst h; simp at hv; subst hv; rfl
  | str => intro x l h v hv; simp only [Cells] at h; subst h; simp at hv; subst hv; rfl
  | slice t _ => intro x l h v hv; simp only [Cells] at h; obtain ⟨p, c, rfl, _⟩ := h; simp at hv; subst hv; rfl
  | nslice t _ => intro x l h v hv; simp only [Cells] at h; obtain ⟨p, c, rfl, _⟩ := h; simp at hv; subst hv; rfl
  | ref t _ => intro x l h v hv; simp only [Cells] at h; obtain ⟨p, c, rfl, _⟩ := h; simp at hv; subst hv; rfl
  | func a b _ _ =>
    intro x l h v hv
    simp only [Cells] at h
    rcases h with ⟨rfl, _⟩ | ⟨f, fi, c, _, rfl, _⟩ <;> simp at hv <;> subst hv <;> rfl
  | map k v _ _ =>
    intro x l h v hv
    simp only [Cells] at h
    rcases h with ⟨rfl, _⟩ | ⟨r, ms, c, rfl, _⟩ <;> simp at hv <;> subst hv <;> rfl
  | err =>
    intro x l h v hv
    simp only [Cells] at h
    rcases h with ⟨_, rfl⟩ | ⟨_, t, u, rfl⟩ <;> simp at hv <;> subst hv <;> rfl
  | flt k => intro x l h v hv; simp only [Cells] at h; subst h; simp at hv; subst hv; rfl
  | cplx k => intro x l h v hv; simp only [Cells] at h; subst h; simp at hv; subst hv; rfl

theorem cells_wrap {A : Nat → Prop} {t : Ty} {x : t.den} {l : List Value} (h : Cells P t A w x l) : (t.wrap l).cells = l.toArray := by
  unfold Ty.wrap
  split
  · rfl
  · rename_i ht
    have ht : t.agg = false := by simpa using ht
    have h1 := scalar_cell ht h
    have h2 := h.plain
    rw [h1] at h2 ⊢
    have := h2 _ (List.mem_singleton.2 rfl)
    simp only [List.headD_cons]
    cases hw : t.wrap l <;> rw [hw] at this <;> first | rfl | (simp [Value.plain1] at this)

/-- A run of cells is written into others. -/
theorem write_fold : ∀ (vs : List Value) (k off : Nat) (cs : Array Value), off + k + vs.length ≤ cs.size →
    ((vs.zipIdx k).foldl (fun cs p => cs.setIfInBounds (off + p.2) p.1) cs).toList = cs.toList.take (off + k) ++ vs ++ cs.toList.drop (off + k + vs.length)
  | [], k, off, cs, _ => by simp
  | v :: vs, k, off, cs, h => by
    simp only [List.length_cons] at h
    rw [List.zipIdx_cons, List.foldl_cons, write_fold vs (k + 1) off _ (by simp; omega)]
    have hlt : off + k < cs.toList.length := by simp; omega
    simp only [Array.toList_setIfInBounds, List.length_cons]
    rw [show off + (k + 1) = off + k + 1 by omega, List.take_set, List.drop_set_of_lt (by omega)]
    rw [List.take_succ_eq_append_getElem hlt, List.set_append]
    have e1 : (List.take (off + k) cs.toList).length = off + k := by simp at hlt ⊢; omega
    rw [if_neg (by omega), e1, Nat.sub_self, List.set_cons_zero]
    rw [show off + k + 1 + vs.length = off + k + (vs.length + 1) by omega]
    simp

theorem fill_one {place : Nat → Option (Nat × Nat)} {cs : Array Value} {i off sz : Nat} {v : Value} {m : List Value} {rest : List (Nat × Value)} (hp : place i = some (off, sz)) (hv : v.cells = m.toArray) (hm : m.length = sz) (hle : off + sz ≤ cs.size) :
    Instr.fill place cs ((i, v) :: rest) = Instr.fill place (cs.toList.take off ++ m ++ cs.toList.drop (off + sz)).toArray rest := by
  subst hm
  simp only [Instr.fill, hp, hv]
  rw [if_neg (by simp; omega)]
  congr 1
  apply Array.toList_inj.1
  have := write_fold m 0 off cs (by omega)
  simp only [Nat.add_zero] at this
  rw [← this, ← Array.foldl_toList]
  simp

theorem setField_sound {A : Nat → Prop} (hE : ∀ e ∈ g.E, FnOK P e) : ∀ (t : Ty) (fs : List Field) (off : Nat) (x x' : t.den) (l : List Value) (f : Nat) (sv : SV) (v : Value), structB P fs off t = true → Cells P t A w x l → SVRel P A w ρ sv v → setField g.E t x f sv = some x' →
    ∃ fd m inf, fs[f]? = some fd ∧ P.info? fd.type = some inf ∧ m.length = inf.size ∧ v.cells = m.toArray ∧ off ≤ fd.offset ∧ fd.offset - off + m.length ≤ l.length ∧ Cells P t A w x' (l.take (fd.offset - off) ++ m ++ l.drop (fd.offset - off + m.length)) := by
  intro t
  induction t with
  | pair a b iha ihb =>
    intro fs off x x' l f sv v hB hc hs h
    cases fs with
    | nil => simp [structB] at hB
    | cons fd fs =>
      simp only [structB, Bool.and_eq_true, beq_iff_eq, Bool.not_eq_true', beq_eq_false_iff_ne] at hB
      simp only [Cells] at hc
      obtain ⟨l1, l2, rfl, h1, h2⟩ := hc
      cases f with
      | zero =>
        simp only [setField, Option.map_eq_some_iff] at h
        obtain ⟨y, hy, rfl⟩ := h
        obtain ⟨m, h3, h4⟩ := argOf_nil hE hs hy
        obtain ⟨inf, d, h5, h6, h7, _⟩ := (fits_of hB.1.2).ex
        have h0 : fd.offset - off = 0 := by omega
        have hml := h3.length
        have h1l := h1.length
        refine ⟨fd, m, inf, rfl, h5, by rw [h3.length, h7], by rw [h4]; exact cells_wrap h3, by omega, by rw [h0]; simp; omega, ?_⟩
        rw [h0]
        simp only [Cells]
        refine ⟨m, l2, ?_, h3, h2⟩
        rw [Nat.zero_add, List.take_zero, List.nil_append, hml, ← h1l, List.drop_left]
      | succ f =>
        simp only [setField, Option.map_eq_some_iff] at h
        obtain ⟨q, hq, rfl⟩ := h
        obtain ⟨fd', m, inf, h3, h4, h5, h6, h7, h8, h9⟩ := ihb fs _ _ _ _ f sv v hB.2 h2 hs hq
        have h1l := h1.length
        have e : fd'.offset - off = l1.length + (fd'.offset - (off + a.size)) := by omega
        refine ⟨fd', m, inf, by simpa using h3, h4, h5, h6, by omega, by rw [e]; simp; omega, ?_⟩
        simp only [Cells]
        refine ⟨l1, _, ?_, h1, h9⟩
        rw [e, List.take_append, List.drop_append, List.take_of_length_le (by omega), List.drop_eq_nil_of_le (by omega), List.nil_append]
        simp
        congr 2
        omega
  | _ => intro fs off x x' l f sv v _ _ _ h; simp [setField] at h

theorem partsK_sound (hE : ∀ e ∈ g.E, FnOK P e) (h : Rel P A0 w0 ρ s a w) {T : List (TypeId × TyI)} {tys : List (Nat × TypeId)} {t : Ty} {fs : List Field} (hB : structB P fs 0 t = true)
    {places : List (Nat × Nat)} (hpl : fs.mapM (fun f => (P.info? f.type).map fun i => (f.offset, i.size)) = some places) :
    ∀ (ps : List (Nat × Operand)) (x y : t.den) (l : List Value), Cells P t (Av A0 ρ s.chunks) w x l → partsK g.E s T tys t ps x = some y →
      ∃ cs, Instr.fill (places.toArray[·]?) l.toArray (ps.map fun p => (p.1, a.eval p.2)) = some cs ∧ Cells P t (Av A0 ρ s.chunks) w y cs.toList := by
  intro ps
  induction ps with
  | nil => intro x y l hc hk; simp only [partsK, Option.some.injEq] at hk; subst hk; exact ⟨l.toArray, rfl, hc⟩
  | cons p ps ih =>
    intro x y l hc hk
    simp only [partsK, Option.bind_eq_some_iff] at hk
    obtain ⟨x', hx', hk⟩ := hk
    have hs := (evalO_sound (T := T) h ((tys.getD p.1 (0, 0)).2) p.2).1
    obtain ⟨fd, m, inf, h1, h2, h3, h4, h5, h6, h7⟩ := setField_sound hE _ _ _ _ _ _ _ _ _ hB hc hs hx'
    have hp : places[p.1]? = some (fd.offset, inf.size) := by
      have key : ∀ (fs : List Field) (places : List (Nat × Nat)) (i : Nat), fs.mapM (fun f => (P.info? f.type).map fun i => (f.offset, i.size)) = some places → fs[i]? = some fd → places[i]? = some (fd.offset, inf.size) := by
        intro fs
        induction fs with
        | nil => intro places i _ hi; simp at hi
        | cons f fs ihf =>
          intro places i hm hi
          simp only [List.mapM_cons, Option.bind_eq_bind, Option.bind_eq_some_iff, Option.map_eq_some_iff, Option.pure_def, Option.some.injEq] at hm
          obtain ⟨q, ⟨j, hj, rfl⟩, rest, hr, rfl⟩ := hm
          cases i with
          | zero => simp at hi; subst hi; rw [h2] at hj; cases hj; rfl
          | succ i => simpa using ihf rest i hr (by simpa using hi)
      exact key _ _ _ hpl h1
    obtain ⟨cs, h8, h9⟩ := ih x' y _ h7 hk
    refine ⟨cs, ?_, h9⟩
    rw [List.map_cons, fill_one (off := fd.offset) (sz := inf.size) (by simpa using hp) h4 h3 (by simp; omega), ← h8]
    simp [h3]

theorem places_of : ∀ (t : Ty) (fs : List Field) (off : Nat), structB P fs off t = true → ∃ pl, fs.mapM (fun f => (P.info? f.type).map fun i => (f.offset, i.size)) = some pl := by
  intro t
  induction t with
  | pair a b iha ihb =>
    intro fs off hB
    cases fs with
    | nil => simp [structB] at hB
    | cons f fs =>
      simp only [structB, Bool.and_eq_true] at hB
      obtain ⟨inf, d, h5, _⟩ := (fits_of hB.1.2).ex
      obtain ⟨pl, hpl⟩ := ihb fs _ hB.2
      exact ⟨(f.offset, inf.size) :: pl, by simp [List.mapM_cons, h5, hpl]⟩
  | unit =>
    intro fs off hB
    cases fs with
    | nil => exact ⟨[], rfl⟩
    | cons f fs => simp [structB] at hB
  | _ => intro fs off hB; cases fs <;> simp [structB] at hB

theorem toList_mapM {ps : Array (Nat × Operand)} : (ps.map fun (i, x) => (i, a.eval x)).toList = ps.toList.map fun p => (p.1, a.eval p.2) := by simp

theorem zero_cells {t : TypeId} {u : Ty} (hF : Fits P t u) (hz : u.zok = true) : ∃ inf z, P.info? t = some inf ∧ inf.zero = some z ∧ inf.size = u.size ∧ z.cells = u.zeroV.toArray ∧ z = u.wrap u.zeroV := by
  obtain ⟨inf, d, h1, h2, h3, h4, h5, h6⟩ := hF.ex
  have hd : Cells P u (fun _ => False) default u.dflt u.zeroV := dflt_cells u hz
  exact ⟨inf, _, h1, h6, h3, cells_wrap hd, rfl⟩

theorem write_get {l m : List Value} {o : Nat} (h : o + m.length ≤ l.length) (j : Nat) : (l.take o ++ m ++ l.drop (o + m.length))[j]? = if j < o then l[j]? else if j < o + m.length then m[j - o]? else l[j]? := by
  have e1 : (l.take o).length = o := by simp; omega
  rw [List.append_assoc, List.getElem?_append]
  split
  · rename_i h1
    rw [e1] at h1
    rw [if_pos h1, List.getElem?_take, if_pos h1]
  · rename_i h1
    rw [e1] at h1
    rw [if_neg h1, e1, List.getElem?_append]
    split
    · rw [if_pos (by omega)]
    · rw [if_neg (by omega), List.getElem?_drop]
      congr 1
      omega

theorem part_get (l : List Value) (o k j : Nat) : ((l.drop o).take k)[j]? = if j < k then l[o + j]? else none := by
  rw [List.getElem?_take]
  split
  · rw [List.getElem?_drop]
  · rfl

theorem arr_set {A : Nat → Prop} {n : Nat} {u : Ty} {xs : List u.den} {l m : List Value} {i : Nat} {y : u.den} (hc : Cells P (.arr n u) A w xs l) (hi : i < n) (hm : Cells P u A w y m) :
    i * u.size + m.length ≤ l.length ∧ Cells P (.arr n u) A w (xs.set i y) (l.take (i * u.size) ++ m ++ l.drop (i * u.size + m.length)) := by
  simp only [Cells] at hc ⊢
  obtain ⟨h1, h2, h3⟩ := hc
  have hml := hm.length
  have hle : i * u.size + m.length ≤ l.length := by
    rw [h1, hml, ← Nat.succ_mul]
    exact Nat.mul_le_mul_right _ hi
  refine ⟨hle, by simp only [List.length_append, List.length_take, List.length_drop]; omega, by simpa using h2, fun j x hj => ?_⟩
  by_cases hij : i = j
  · subst hij
    rw [List.getElem?_set_self (by omega)] at hj
    cases hj
    have : ((l.take (i * u.size) ++ m ++ l.drop (i * u.size + m.length)).drop (i * u.size)).take u.size = m := by
      have e1 : (l.take (i * u.size)).length = i * u.size := by simp; omega
      rw [List.append_assoc, List.drop_append, List.drop_eq_nil_of_le (by omega), List.nil_append, e1, Nat.sub_self, List.drop_zero, ← hml, List.take_left]
    rw [this]
    exact hm
  · rw [List.getElem?_set_ne hij] at hj
    have : ((l.take (i * u.size) ++ m ++ l.drop (i * u.size + m.length)).drop (j * u.size)).take u.size = (l.drop (j * u.size)).take u.size := by
      apply List.ext_getElem?
      intro k
      rw [part_get, part_get]
      split
      · rename_i hk
        rw [write_get hle]
        rcases Nat.lt_or_gt_of_ne hij with h | h
        · have h5 : (i + 1) * u.size ≤ j * u.size := Nat.mul_le_mul_right _ h
          rw [Nat.add_mul, Nat.one_mul] at h5
          rw [if_neg (by omega), if_neg (by omega)]
        · have h5 : (j + 1) * u.size ≤ i * u.size := Nat.mul_le_mul_right _ h
          rw [Nat.add_mul, Nat.one_mul] at h5
          rw [if_pos (by omega)]
      · rfl
    rw [this]
    exact h3 j x hj

theorem elemsK_sound (hE : ∀ e ∈ g.E, FnOK P e) (h : Rel P A0 w0 ρ s a w) {T : List (TypeId × TyI)} {u : Ty} {e : TypeId} {n : Nat} :
    ∀ (ps : List (Nat × Operand)) (xs ys : List u.den) (l : List Value), Cells P (.arr n u) (Av A0 ρ s.chunks) w xs l → elemsK g.E s T u e ps xs = some ys →
      ∃ cs, Instr.fill (fun i => some (i * u.size, u.size)) l.toArray (ps.map fun p => (p.1, a.eval p.2)) = some cs ∧ Cells P (.arr n u) (Av A0 ρ s.chunks) w ys cs.toList := by
  intro ps
  induction ps with
  | nil => intro xs ys l hc hk; simp only [elemsK, Option.some.injEq] at hk; subst hk; exact ⟨l.toArray, rfl, hc⟩
  | cons p ps ih =>
    intro xs ys l hc hk
    simp only [elemsK] at hk
    split at hk
    · rename_i hlt
      simp only [Option.bind_eq_some_iff] at hk
      obtain ⟨y, hy, hk⟩ := hk
      have hs := (evalO_sound (T := T) h e p.2).1
      obtain ⟨m, h1, h2⟩ := argOf_nil hE hs hy
      have hn : xs.length = n := by simp only [Cells] at hc; exact hc.2.1
      obtain ⟨h3, h4⟩ := arr_set (i := p.1) hc (by omega) h1
      obtain ⟨cs, h5, h6⟩ := ih _ ys _ h4 hk
      refine ⟨cs, ?_, h6⟩
      rw [List.map_cons, fill_one (off := p.1 * u.size) (sz := u.size) rfl (by rw [h2]; exact cells_wrap h1) h1.length (by simpa [h1.length] using h3), ← h5, h1.length]
    · cases hk

theorem replicate_cells {A : Nat → Prop} (n : Nat) {u : Ty} (hz : u.zok = true) : Cells P (.arr n u) A w (List.replicate n u.dflt) (List.replicate n u.zeroV).flatten := by
  have := dflt_cells (P := P) (A := A) (w := w) (.arr n u) hz
  exact this

theorem range_zero (z : List Value) : ∀ n, (List.range (n * z.length)).map (fun i => z.toArray[i % z.toArray.size]!) = (List.replicate n z).flatten := by
  intro n
  induction n with
  | zero => simp
  | succ n ih =>
    rw [List.replicate_succ', List.flatten_append, ← ih, Nat.add_mul, Nat.one_mul, List.range_add, List.map_append]
    congr 1
    simp only [List.map_map, List.flatten_cons, List.flatten_nil, List.append_nil]
    apply List.ext_getElem?
    intro j
    rw [List.getElem?_map]
    rcases Nat.lt_or_ge j z.length with hj | hj
    · rw [List.getElem?_range hj]
      have : (n * z.length + j) % z.length = j := by rw [Nat.mul_comm, Nat.mul_add_mod, Nat.mod_eq_of_lt hj]
      simp [this, hj]
    · rw [List.getElem?_eq_none (by simpa using hj), List.getElem?_eq_none hj]
      rfl

theorem build_sound (hE : ∀ e ∈ g.E, FnOK P e) (hT : TabOk P g.T) (h : Rel P A0 w0 ρ s a w) {t : TypeId} {ps : Array (Nat × Operand)} (ho : o.op = .build t ps) (hk : pureK g s o K = some r) : Yld P A0 ρ s a w o K r := by
  simp only [pureK, ho] at hk
  have hex : execOp a.eval o = (do pure (.value (← Instr.build t (ps.map fun (i, x) => (i, a.eval x))))) := by simp only [execOp, ho]
  split at hk
  · rename_i i hi
    split at hk
    · rename_i n u hty
      split at hk
      · rename_i hz
        simp only [Option.bind_eq_some_iff] at hk
        obtain ⟨y, hy, hk⟩ := hk
        obtain ⟨h1, h2, _⟩ := shape_arr (hT.shape hi) hty
        have hF := hT.fits hi
        rw [hty] at hF
        obtain ⟨inf, z, h3, h4, h5, h6, h7⟩ := zero_cells hF (by simpa [Ty.zok] using hz)
        obtain ⟨ie, d, h8, h9, h10, _⟩ := h2.ex
        obtain ⟨cs, h11, h12⟩ := elemsK_sound hE h _ _ _ _ (replicate_cells n hz) hy
        have hb : P.built t (ps.map fun (i, x) => (i, a.eval x)).toList = some cs := by
          unfold Program.built
          simp only [h3, h1, h4, h8, h6, h10]
          rw [toList_mapM]
          exact h11
        exact Yld.of_run (sv := .val (.arr n u) y) hex (run_build w t _ cs hb) ⟨cs.toList, h12, by simp [Ty.wrap, Ty.agg]⟩ trivial hk
      · cases hk
    · rename_i b c hty
      split at hk
      · rename_i hz
        simp only [Option.bind_eq_some_iff] at hk
        obtain ⟨y, hy, hk⟩ := hk
        obtain ⟨fs, h1, h2, h3⟩ := shape_pair (hT.shape hi) (by rw [hty]; rfl)
        have hF := hT.fits hi
        rw [hty] at hF h3
        obtain ⟨inf, z, h4, h5, h6, h7, h8⟩ := zero_cells hF hz
        obtain ⟨pl, hpl⟩ := places_of _ _ _ h3
        obtain ⟨cs, h11, h12⟩ := partsK_sound hE h h3 hpl _ _ _ _ (dflt_cells _ hz) hy
        have hb : P.built t (ps.map fun (i, x) => (i, a.eval x)).toList = some cs := by
          unfold Program.built
          simp only [h4, h1, h5, hpl, h7]
          rw [toList_mapM]
          exact h11
        exact Yld.of_run (sv := .val (.pair b c) y) hex (run_build w t _ cs hb) ⟨cs.toList, h12, by simp [Ty.wrap, Ty.agg]⟩ trivial hk
      · cases hk
    · cases hk
  · cases hk

theorem run_buildSlice' {t e : TypeId} {n : Nat} {parts : Array (Nat × Value)} {u : Ty} {cs : Array Value} (hu : P.underlying t = some (.slice e)) (hF : Fits P e u) (hz : u.zok = true) (hs : n * u.size ≤ 16777216)
    (hf : Instr.fill (fun i => some (i * u.size, u.size)) (List.replicate n u.zeroV).flatten.toArray parts.toList = some cs) :
    (Instr.buildSlice t n parts).run P w = .ok (.slice (some ⟨w.heap.size, 0, none⟩) n n) (w.alloc (.cells cs e)) := by
  obtain ⟨ie, z, h1, h2, h3, h4, h5⟩ := zero_cells hF hz
  have hzl := zeroV_length u
  have hr := range_zero u.zeroV n
  rw [hzl] at hr
  by_cases h0 : n * u.size = 0
  · have he : (List.replicate n u.zeroV).flatten = [] := by rw [← hr, h0]; rfl
    rw [he] at hf
    have hr0 : Array.range 0 = #[] := rfl
    simp [Instr.buildSlice, run_underlying hu, sizeOf, typeInfo, h1, h3, h0, newRow, hr0, hf]
  · refine run_buildSlice w t e n parts cs ie z hu h1 h2 (by rw [h3]; omega) (by rw [h3]; exact h0) ?_
    rw [h3, h4]
    rw [← hf]
    congr 1
    apply Array.toList_inj.1
    rw [Array.toList_map, Array.toList_range, ← hr]
end
end Go.Vx
