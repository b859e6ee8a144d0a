/- V15: slices that grow, and writes into blocks of one's own. -/
import Derived.Test.YtkfigfhjbejikaaGreatDoorV14
import Derived.Lib.AppendStr
import Derived.Lib.UnsafeStr
import Derived.Laws.AppendOwn
set_option linter.all false
namespace Go.Vx
open Go.RowKit
variable [GT]

section
variable {P : Program} {A0 : Nat → Prop} {w0 : Base} {ρ : Places} {s : St} {a : Act} {w w' : World} {g : G} {R : Type} {K : St → Option R} {r : R} {o : Oper}

/-- A block of one's own gives way to another one (that lies where it lay, or is new). -/
theorem Rel.grow (h : Rel P A0 w0 ρ s a w) {β : Nat} {ch ch' : Chunk} {p : Place} (hβ : s.chunks[β]? = some (some ch)) (hg : w.grownBy w' (ρ β).blk) (hp : ∀ b, p.blk = some b → (ρ β).blk = some b ∨ w.heap.size ≤ b)
    (hi : ch'.inn s.chunks.length)
    (hc : ∀ A, (∀ n, n < w.heap.size → A n → Av A0 ρ s.chunks n) → ChunkRel P A w' ρ p ch') (hlp : ch'.lpNo = none := by rfl) (hnl : ch.lpNo = none := by rfl) :
    Rel P A0 w0 (ρ.set s.chunks.length p) { s with chunks := s.chunks.set β none ++ [some ch'] } a w' := by
  have hlen : (s.chunks.set β none).length = s.chunks.length := by simp
  have he : ∀ γ, γ < s.chunks.length → ρ.set s.chunks.length p γ = ρ γ := fun γ hγ => Places.set_lt ρ p hγ
  have hβl : β < s.chunks.length := (List.getElem?_eq_some_iff.1 hβ).1
  have hcs : ∀ (γ : Nat) (c : Chunk), (s.chunks.set β none ++ [some ch'])[γ]? = some (some c) → (γ ≠ β ∧ γ < s.chunks.length ∧ s.chunks[γ]? = some (some c)) ∨ (γ = s.chunks.length ∧ c = ch') := by
    intro γ c hg
    rcases chunk_cases hg with ⟨h1, h2⟩ | ⟨h1, h2⟩
    · rw [hlen] at h1
      by_cases hb : β = γ
      · subst hb
        rw [List.getElem?_set_self h1] at h2
        cases h2
      · rw [List.getElem?_set_ne hb] at h2
        exact .inl ⟨fun e => hb e.symm, h1, h2⟩
    · rw [hlen] at h1
      exact .inr ⟨h1, h2⟩
  have hnb : ∀ (γ : Nat) (c : Chunk), γ ≠ β → s.chunks[γ]? = some (some c) → ∀ b, (ρ γ).blk = some b → (ρ β).blk ≠ some b := by
    intro γ c hne hgc b hb hbb
    exact hne (h.inj γ β c ch hgc hβ (hb.trans hbb.symm) (by rw [hb]; simp))
  have hA : ∀ n, n < w.heap.size → Av A0 (ρ.set s.chunks.length p) (s.chunks.set β none ++ [some ch']) n → Av A0 ρ s.chunks n := by
    rintro n hn (h0 | ⟨γ, c, hb, hbn⟩)
    · exact .inl h0
    · rcases hcs γ c hb with ⟨h1, h2, h3⟩ | ⟨rfl, rfl⟩
      · rw [he γ h2] at hbn
        exact .inr ⟨γ, c, h3, hbn⟩
      · rw [Places.set_self] at hbn
        rcases hp n hbn with h1 | h1
        · exact .inr ⟨β, ch, hβ, h1⟩
        · omega
  have hK : Keep (Av A0 ρ s.chunks) w w' := fun n hn hnA => hg.block n hn (fun e => hnA (.inr ⟨β, ch, hβ, e.symm⟩))
  have hbw : ∀ b, (ρ β).blk = some b → w0.w.heap.size ≤ b := (h.chunks β ch hβ).2
  refine ⟨h.size, fun i sv hs => ((h.slots i sv hs).congr he (h.names i sv hs)).mono hK hA, fun γ c hgc => ?_, fun γ δ c d hgc hd hbg hne => ?_, fun i sv hs => SV.inn_mono (by simp) (h.names i sv hs), fun γ c hgc => ?_,
    ⟨hg.os.trans h.below.os, hg.tape.trans h.below.tape, hg.output.trans h.below.output, Nat.le_trans h.below.size hg.size, fun n hn => (hg.block n (Nat.lt_of_lt_of_le hn h.below.size) (fun e => by have := hbw n e.symm; omega)).trans (h.below.block n hn)⟩, h.dom, (let ⟨_, hm⟩ := h.defers; marks_keep hm fun r hr => (hg.block r (lt_of_get hr) fun e => (h.chunks β ch hβ).1.no_mark e.symm hr).trans hr), h.dep, (fun γ c q hc hq => by
      rcases hcs γ c hc with ⟨_, _, h3⟩ | ⟨_, rfl⟩
      · exact h.lpi γ c q h3 hq
      · rw [hlp] at hq; cases hq), (fun l hl => by
      obtain ⟨r, hr⟩ := h.round l hl
      exact ⟨r, (hg.block l (lt_of_get hr) fun e => (h.chunks β ch hβ).1.no_loop hnl e.symm hr).trans hr⟩), h.glob, h.ksize, fun i sv hs => ((h.kslots i sv hs).congr he (h.knames i sv hs)).mono hK hA, fun i sv hs => SV.inn_mono (by simp) (h.knames i sv hs)⟩
  · rcases hcs γ c hgc with ⟨h1, h2, h3⟩ | ⟨rfl, rfl⟩
    · rw [he γ h2]
      refine ⟨?_, (h.chunks γ c h3).2⟩
      have h4 := (h.chunks γ c h3).1.congr he (h.cnames γ c h3)
      have hb' := hnb γ c h1 h3
      cases c with
      | box t cells =>
        obtain ⟨b, vs, e, hb, f1, f2, f3⟩ := h4
        exact ⟨b, vs, e, hb, (hg.block b (lt_of_get f1) (fun e => hb' b hb e.symm)).trans f1, f2, fun i sv hi => let ⟨v, hv, hr⟩ := f3 i sv hi; ⟨v, hv, hr.mono hK hA⟩⟩
      | arr e t xs nn =>
        obtain ⟨f2, hn, f1⟩ := h4
        refine ⟨f2, hn, ?_⟩
        rcases f1 with f1 | ⟨b, vs, hb, f1, f3, f4, f5, f6⟩
        · exact .inl f1
        · exact .inr ⟨b, vs, hb, (hg.block b (lt_of_get f1) (fun e => hb' b hb e.symm)).trans f1, f3, f4, f5, fun i x hi => (f6 i x hi).mono hK hA⟩
      | mp k v es =>
        obtain ⟨b, ms, c, hb, f1, f2, f3⟩ := h4
        refine ⟨b, ms, c, hb, (hg.block b (lt_of_get f1) (fun e => hb' b hb e.symm)).trans f1, f2, fun i x hi => ?_⟩
        obtain ⟨e, lv, q4, q5, q6, q7⟩ := f3 i x hi
        exact ⟨e, lv, q4, q5.mono hK hA, q6.mono hK hA, q7⟩
      | it bs q =>
        obtain ⟨b, n, hb, f1, f2⟩ := h4
        exact ⟨b, n, hb, (hg.block b (lt_of_get f1) (fun e => hb' b hb e.symm)).trans f1, f2⟩
      | lp j info cells st =>
        obtain ⟨b, r, hb, f1, f2, f3, f4⟩ := h4
        exact ⟨b, r, hb, (hg.block b (lt_of_get f1) (fun e => hb' b hb e.symm)).trans f1, f2, f3, fun i sv hi => let ⟨v, hv, hr⟩ := f4 i sv hi; ⟨v, hv, hr.mono hK hA⟩⟩
    · rw [Places.set_self]
      refine ⟨(hc _ hA).congr he hi, fun b hb => ?_⟩
      rcases hp b hb with h1 | h1
      · exact hbw b h1
      · exact Nat.le_trans h.below.size h1
  · have new : ∀ (γ : Nat) (c : Chunk), γ ≠ β → s.chunks[γ]? = some (some c) → (ρ γ).blk = p.blk → (ρ γ).blk = none := by
      intro γ c hne hgc hbp
      cases hq : (ρ γ).blk with
      | none => rfl
      | some b =>
        rcases hp b (hbp ▸ hq) with h1 | h1
        · exact absurd h1 (hnb γ c hne hgc b hq)
        · have := (h.chunks γ c hgc).1.lt hq
          omega
    rcases hcs γ c hgc with ⟨h1, h2, h3⟩ | ⟨h1, _⟩ <;> rcases hcs δ d hd with ⟨h4, h5, h6⟩ | ⟨h4, _⟩
    · rw [he γ h2, he δ h5] at hbg; rw [he γ h2] at hne
      exact h.inj γ δ c d h3 h6 hbg hne
    · subst h4
      rw [he γ h2, Places.set_self] at hbg; rw [he γ h2] at hne
      exact absurd (new γ c h1 h3 hbg) hne
    · subst h1
      rw [he δ h5, Places.set_self] at hbg; rw [Places.set_self] at hne
      exact absurd (hbg.trans (new δ d h4 h6 hbg.symm)) hne
    · omega
  · rcases hcs γ c hgc with ⟨h1, h2, h3⟩ | ⟨rfl, rfl⟩
    · exact Chunk.inn_mono (by simp) (h.cnames γ c h3)
    · exact Chunk.inn_mono (by simp) hi

theorem one_of_plain {v : Value} (h : Value.plain1 v = true) : v.oneCell' = true := by
  cases v <;> first | rfl | (simp [Value.plain1] at h)

/-- The elements of a slice, cell by cell. -/
theorem slice_cells {A : Nat → Prop} {u : Ty} (b : Nat) : ∀ (xs : List u.den) (off : Nat), (∀ (i : Nat) (x : u.den), xs[i]? = some x → ∃ l', CellsAt w b (off + i * u.size) l' ∧ Cells P u A w x l') →
    ∃ l, CellsAt w b off l ∧ Cells P (.arr xs.length u) A w xs l
  | [], off, _ => ⟨[], fun j v hj => by simp at hj, by simp [Cells]⟩
  | x :: xs, off, h => by
    obtain ⟨l0, h0, h1⟩ := h 0 x rfl
    obtain ⟨l, h2, h3⟩ := slice_cells b xs (off + u.size) (fun i y hy => by
      obtain ⟨l', e1, e2⟩ := h (i + 1) y hy
      exact ⟨l', by rw [show off + u.size + i * u.size = off + (i + 1) * u.size by rw [Nat.add_mul]; omega]; exact e1, e2⟩)
    have hl0 := h1.length
    simp only [Cells] at h3
    obtain ⟨h4, _, h5⟩ := h3
    refine ⟨l0 ++ l, fun j v hj => ?_, ?_⟩
    · rw [List.getElem?_append] at hj
      split at hj
      · have := h0 j v hj
        rwa [Nat.zero_mul, Nat.add_zero] at this
      · have := h2 (j - l0.length) v hj
        rwa [show off + u.size + (j - l0.length) = off + j by omega] at this
    · simp only [Cells]
      refine ⟨by rw [List.length_append, h4, hl0, List.length_cons, Nat.succ_mul]; omega, trivial, fun i y hy => ?_⟩
      cases i with
      | zero =>
        simp at hy
        subst hy
        rw [Nat.zero_mul, List.drop_zero, ← hl0, List.take_left]
        exact h1
      | succ i =>
        have := h5 i y (by simpa using hy)
        rw [Nat.succ_mul, List.drop_append, List.drop_eq_nil_of_le (by omega), List.nil_append, show i * u.size + u.size - l0.length = i * u.size by omega]
        exact this

theorem run_append_none {t ty e : TypeId} {i : TypeInfo} (ht : P.underlying t = some (.slice e)) (hi : P.info? e = some i) {p q : Option Addr} {n c c' : Nat} (hn : n ≤ c) :
    (Builtin.append_ #[t, t] ty #[.slice p n c, .slice q 0 c']).run P w = .ok (.slice p n c) w := by
  cases p <;> cases q <;> simp [Builtin.append_, run_underlying ht, sizeOf, typeInfo, hi, Builtin.lenOf, Builtin.firstCells, hn, storeCells, loadCells, loadCellsFrom]

/-- A slice out of its cells. -/
theorem slice_cells' {A : Nat → Prop} {u : Ty} {ys : List u.den} {l : List Value} (h : Cells P (.slice u) A w ys l) :
    (ys = [] ∧ ∃ p c, l = [.slice p 0 c]) ∨ ∃ b off c m, l = [.slice (some ⟨b, off, none⟩) (List.length ys) c] ∧ CellsAt w b off m ∧ Cells P (.arr (List.length ys) u) A w ys m := by
  simp only [Cells] at h
  obtain ⟨p, c, rfl, h1, h2, h3⟩ := h
  cases ys with
  | nil => exact .inl ⟨rfl, p, c, rfl⟩
  | cons y ys' =>
    obtain ⟨ad, _, e0, hsp, _⟩ := h3 0 y rfl
    subst e0
    obtain ⟨b, off, sp⟩ := ad
    simp only at hsp
    subst hsp
    obtain ⟨m, h4, h5⟩ := slice_cells (P := P) (A := A) (w := w) (u := u) b (y :: ys') off (fun i x hx => by
      obtain ⟨a1, l', e1, _, _, _, e2, e3⟩ := h3 i x hx
      cases e1
      exact ⟨l', e2, e3⟩)
    exact .inr ⟨b, off, c, m, rfl, h4, h5⟩

theorem args2 {args : Array Operand} {b x : Operand} (h : args.toList = [b, x]) : args = #[b, x] := by
  apply Array.toList_inj.1; simpa using h

theorem tids2 {ts : Array TypeId} {t u : TypeId} (h : ts.toList = [t, u]) : ts = #[t, u] := by
  apply Array.toList_inj.1; simpa using h

theorem grownBy_refl (w : World) (row : Option Nat) : w.grownBy w row := ⟨rfl, rfl, rfl, Nat.le_refl _, fun _ _ _ => rfl⟩

/-- A row of one's own as the kit has it. -/
theorem arr_owns {A : Nat → Prop} {p : Place} {e : TypeId} {u : Ty} {xs : List u.den} {nn : Bool} (h : ChunkRel P A w ρ p (.arr e u xs nn)) {base : Nat} (hb : ∀ b, p.blk = some b → base ≤ b) :
    ∃ l, w.ownsRow base e u.size (.slice (p.blk.map fun b => ⟨b, 0, none⟩) p.len p.cap) xs.length l ∧ Cells P (.arr xs.length u) A w xs l := by
  obtain ⟨h1, h2, h3⟩ := h
  rcases h3 with ⟨h4, h5, h6⟩ | ⟨b, vs, hb', h4, h5, h6, h7, h8⟩
  · have : xs = [] := List.eq_nil_of_length_eq_zero (by omega)
    subst this
    rw [h4, h5, h6]
    exact ⟨[], World.ownsRow_nil w base e u.size, by simp [Cells]⟩
  · have hle : List.length xs * u.size ≤ vs.toList.length := by
      have e1 : vs.toList.length = vs.size := Array.length_toList
      rw [e1, h7]; exact Nat.mul_le_mul_right _ (by omega)
    refine ⟨vs.toList.take (xs.length * u.size), ⟨by rw [List.length_take]; omega, .inr ⟨b, p.cap, vs, by rw [hb', h1]; rfl, hb b hb', h4, by omega, h6, h7, rfl⟩⟩, ?_⟩
    simp only [Cells]
    refine ⟨by rw [List.length_take]; omega, trivial, fun i x hx => ?_⟩
    have hi := (List.getElem?_eq_some_iff.1 hx).1
    have hm : i * u.size + u.size ≤ xs.length * u.size := by rw [← Nat.succ_mul]; exact Nat.mul_le_mul_right _ hi
    rw [List.drop_take, List.take_take, Nat.min_eq_left (by omega)]
    exact h8 i x hx

/-- And back. -/
theorem owns_place {e : TypeId} {size : Nat} {v : Value} {base n : Nat} {l : List Value} (h : w.ownsRow base e size v n l) : ∃ p : Place, v = .slice (p.blk.map fun b => ⟨b, 0, none⟩) p.len p.cap := by
  rcases h.2 with ⟨rfl, rfl⟩ | ⟨g, cap, cur, rfl, _⟩
  · exact ⟨⟨none, 0, 0⟩, rfl⟩
  · exact ⟨⟨some g, n, cap⟩, rfl⟩

theorem owns_arr {A : Nat → Prop} {e : TypeId} {u : Ty} {zs : List u.den} {nn : Bool} {base n : Nat} {l : List Value} {p : Place} (h : w.ownsRow base e u.size (.slice (p.blk.map fun b => ⟨b, 0, none⟩) p.len p.cap) n l) (hn : zs.length = n) (hc : Cells P (.arr n u) A w zs l)
    (hnn : nn = true → p.blk ≠ none) : ChunkRel P A w ρ p (.arr e u zs nn) := by
  simp only [Cells] at hc
  obtain ⟨h1, h2, h3⟩ := hc
  obtain ⟨blk, len, cap⟩ := p
  rcases h.2 with ⟨hv, rfl⟩ | ⟨g, cap', cur, hv, hb, hg, hle, hm, hs, ht⟩
  · cases blk with
    | some q => cases hv
    | none =>
      cases hv
      exact ⟨hn, hnn, .inl ⟨rfl, rfl, rfl⟩⟩
  · cases blk with
    | none => cases hv
    | some q =>
      cases hv
      refine ⟨hn, hnn, .inr ⟨g, cur, rfl, hg, hle, hm, hs, fun i x hx => ?_⟩⟩
      have hi : i < len := by have := (List.getElem?_eq_some_iff.1 hx).1; have e2 : List.length zs = len := hn; omega
      have := h3 i x hx
      have hm : i * u.size + u.size ≤ len * u.size := by rw [← Nat.succ_mul]; exact Nat.mul_le_mul_right _ hi
      simp only at ht
      rw [← ht, List.drop_take, List.take_take, Nat.min_eq_left (by omega)] at this
      exact this

/-- Where a slice lies that was added to. -/
theorem append_where {t ty e : TypeId} {i : TypeInfo} {z : Value} (ht : P.underlying t = some (.slice e)) (hi : P.info? e = some i) (hz : i.zero = some z) {size bytes : Nat} (hsize : i.size = size) (hby : i.bytes = bytes) (hzs : z.cells.size = size) (hsz : 0 < size)
    {p : Place} {base n : Nat} {xs : List Value} (hown : w.ownsRow base e size (.slice (p.blk.map fun b => ⟨b, 0, none⟩) p.len p.cap) n xs) {a : Addr} {m c : Nat} {news : List Value} (hl : news.length = m * size) (hnews : ∀ j u, news[j]? = some u → w.cell? (a.add j) = some u) (h1 : ∀ u ∈ news, u.oneCell' = true)
    (h63 : n + m ≤ maxLen) (hbytes : (n + m) * bytes ≤ 140737488355328) {v' : Value} {w' : World} (hr : (Builtin.append_ #[t, t] ty #[.slice (p.blk.map fun b => ⟨b, 0, none⟩) p.len p.cap, .slice (some a) m c]).run P w = .ok v' w') {q : Place} (hq : v' = .slice (q.blk.map fun b => ⟨b, 0, none⟩) q.len q.cap) :
    ∀ b, q.blk = some b → p.blk = some b ∨ w.heap.size ≤ b := by
  intro b hb
  subst hsize hby
  obtain ⟨blk, len, cap⟩ := p
  obtain ⟨qb, ql, qc⟩ := q
  simp only at hb hq
  subst hb
  cases blk with
  | none =>
    obtain ⟨v2, w2, hr2, ho2, _, _⟩ := run_append_own (P := P) w w.heap.size t ty e i z i.size i.bytes ht hi hz rfl rfl hzs hsz (.slice none len cap) n xs
      (by
        refine ⟨hown.1, ?_⟩
        rcases hown.2 with h | ⟨g, cap', cur, hv, _⟩
        · exact .inl h
        · cases hv) a m c news hl hnews h1 h63 hbytes (Nat.le_refl _)
    rw [show Option.map (fun b => (⟨b, 0, none⟩ : Addr)) (none : Option Nat) = none from rfl] at hr
    rw [hr2] at hr
    cases hr
    rcases ho2.2 with ⟨h, _⟩ | ⟨g, cap', cur, h, h3, _⟩
    · rw [h] at hq; cases hq
    · rw [h] at hq
      cases hq
      exact .inr h3
  | some b0 =>
    rcases hown.2 with ⟨h, _⟩ | ⟨g, cap', cur, h, h3, hg, hnc, hcm, hcs, htake⟩
    · cases h
    · cases h
      by_cases hroom : len + m ≤ cap
      · have hfit : len * i.size + news.length ≤ cur.size := by rw [hl, hcs, ← Nat.add_mul]; exact Nat.mul_le_mul_right _ hroom
        have hr2 := run_append_room (P := P) w t ty e i ht hi b0 len cap cur hg a m c news hl hnews h1 hroom hfit
        rw [show Option.map (fun b => (⟨b, 0, none⟩ : Addr)) (some b0) = some ⟨b0, 0, none⟩ from rfl] at hr
        rw [hr2] at hr
        cases hr
        cases hq
        exact .inl rfl
      · have holds : ∀ j u, xs[j]? = some u → w.cell? ((⟨b0, 0, none⟩ : Addr).add j) = some u := hown.cells (g := b0) rfl
        have hr2 := run_append_grow (P := P) w t ty e i z ht hi hz ⟨b0, 0, none⟩ len cap xs hown.1 holds a m c news hl hnews (by omega) (by simp only [maxLen] at h63; omega) (growslice_fits (by omega) hbytes)
        rw [show Option.map (fun b => (⟨b, 0, none⟩ : Addr)) (some b0) = some ⟨b0, 0, none⟩ from rfl] at hr
        rw [hr2] at hr
        cases hr
        cases hq
        exact .inr (Nat.le_refl _)

/-- Where a slice lies to which a string's bytes were added. -/
theorem append_where_str {t u ty e : TypeId} {i : TypeInfo} (ht : P.underlying t = some (.slice e)) (hu : P.underlying u = some .string) (hi : P.info? e = some i) (hz : i.zero = some (.int .u8 0)) (hsize : i.size = 1) (hby : i.bytes = 1)
    {p : Place} {base n : Nat} {xs : List Value} (hown : w.ownsRow base e 1 (.slice (p.blk.map fun b => ⟨b, 0, none⟩) p.len p.cap) n xs) {s : ByteArray}
    (h63 : n + s.size ≤ maxLen) (hbytes : n + s.size ≤ 140737488355328) {v' : Value} {w' : World} (hr : (Builtin.append_ #[t, u] ty #[.slice (p.blk.map fun b => ⟨b, 0, none⟩) p.len p.cap, .string s]).run P w = .ok v' w') {q : Place} (hq : v' = .slice (q.blk.map fun b => ⟨b, 0, none⟩) q.len q.cap) :
    ∀ b, q.blk = some b → p.blk = some b ∨ w.heap.size ≤ b := by
  intro b hb
  obtain ⟨blk, len, cap⟩ := p
  obtain ⟨qb, ql, qc⟩ := q
  simp only at hb hq
  subst hb
  cases blk with
  | none =>
    obtain ⟨v2, w2, hr2, ho2, _, _⟩ := Lib.run_append_own_string (P := P) w w.heap.size t u ty e i ht hu hi hz hsize hby (.slice none len cap) n xs
      (by
        refine ⟨hown.1, ?_⟩
        rcases hown.2 with h | ⟨g, cap', cur, hv, _⟩
        · exact .inl h
        · cases hv) s h63 hbytes (Nat.le_refl _)
    rw [show Option.map (fun b => (⟨b, 0, none⟩ : Addr)) (none : Option Nat) = none from rfl] at hr
    rw [hr2] at hr
    cases hr
    rcases ho2.2 with ⟨h, _⟩ | ⟨g, cap', cur, h, h3, _⟩
    · rw [h] at hq; cases hq
    · rw [h] at hq
      cases hq
      exact .inr h3
  | some b0 =>
    rcases hown.2 with ⟨h, _⟩ | ⟨g, cap', cur, h, h3, hg, hnc, hcm, hcs, htake⟩
    · cases h
    · cases h
      rw [show Option.map (fun b => (⟨b, 0, none⟩ : Addr)) (some b0) = some ⟨b0, 0, none⟩ from rfl] at hr
      by_cases hroom : len + s.size ≤ cap
      · have hr2 := Lib.run_append_room_string (P := P) w t u ty e i ht hu hi hsize b0 len cap cur hg s hroom (by rw [hcs, Nat.mul_one]; exact hroom)
        rw [hr2] at hr
        cases hr
        cases hq
        exact .inl rfl
      · have hb2 : len + s.size ≤ 140737488355328 := hbytes
        have hxl : xs.length = len * i.size := by rw [hsize]; exact hown.1
        have holds : ∀ j u, xs[j]? = some u → w.cell? ((⟨b0, 0, none⟩ : Addr).add j) = some u := hown.cells (g := b0) rfl
        have hr2 := Lib.run_append_grow_string (P := P) w t u ty e i (.int .u8 0) ht hu hi hz ⟨b0, 0, none⟩ len cap xs hxl holds s (by omega) (by simp only [maxLen] at h63; omega) (by rw [hby]; exact growslice_fits (by omega) (by omega))
        rw [hr2] at hr
        cases hr
        cases hq
        exact .inr (Nat.le_refl _)

theorem strInts_cells {A : Nat → Prop} (bs : List UInt8) : Cells P (.arr bs.length (.int .u8)) A w (strInts bs) (Lib.strCells ⟨bs.toArray⟩) := by
  simp only [Cells]
  refine ⟨by simp [Lib.strCells, Ty.size], by simp [strInts], fun i x hx => ?_⟩
  simp only [strInts, List.getElem?_map, Option.map_eq_some_iff] at hx
  obtain ⟨c, hc, rfl⟩ := hx
  have hi : i < bs.length := (List.getElem?_eq_some_iff.1 hc).1
  apply List.ext_getElem?
  intro j
  rw [show (Ty.int IntKind.u8).size = 1 from rfl, Nat.mul_one, List.getElem?_take]
  split
  · have : j = 0 := by omega
    subst this
    simp [Lib.strCells, List.getElem?_drop, hc]
  · cases j with
    | zero => omega
    | succ j => simp

theorem arr_append {A : Nat → Prop} {u : Ty} {xs ys : List u.den} {l m : List Value} (h1 : Cells P (.arr xs.length u) A w xs l) (h2 : Cells P (.arr ys.length u) A w ys m) :
    Cells P (.arr (xs.length + ys.length) u) A w (xs ++ ys) (l ++ m) := by
  simp only [Cells] at h1 h2 ⊢
  obtain ⟨a1, _, a3⟩ := h1
  obtain ⟨b1, _, b3⟩ := h2
  refine ⟨by rw [List.length_append, a1, b1, Nat.add_mul], by simp, fun i x hx => ?_⟩
  rw [List.getElem?_append] at hx
  split at hx
  · rename_i hi
    have hm : i * u.size + u.size ≤ xs.length * u.size := by rw [← Nat.succ_mul]; exact Nat.mul_le_mul_right _ hi
    rw [List.drop_append_of_le_length (by omega), List.take_append_of_le_length (by rw [List.length_drop]; omega)]
    exact a3 i x hx
  · rename_i hi
    have e : i * u.size = l.length + (i - xs.length) * u.size := by rw [a1, ← Nat.add_mul]; congr 1; omega
    rw [e, List.drop_append, List.drop_eq_nil_of_le (by omega), List.nil_append, Nat.add_sub_cancel_left]
    exact b3 _ x hx

theorem appendStr_sound (hT : TabOk P g.T) (h : Rel P A0 w0 ρ s a w) {args : Array Operand} {ts : Array TypeId} (ho : o.op = .call { callee := .builtin .append, args, argTypes := ts })
    {b x : Operand} {t t' : TypeId} (hargs : args.toList = [b, x]) (hts : ts.toList = [t, t']) (hstr : isStrT g.T t' = true) (hk : appendStrK g s o b x t t' K = some r) : Eff P A0 w0 a w o K r := by
  unfold appendStrK at hk
  split at hk
  · rename_i i β bs hi hb hx
    split at hk
    · rename_i e xs nn hch
      split at hk
      · rename_i hcond
        obtain ⟨rfl, hty⟩ := hcond
        cases hle : decide (List.length xs + List.length bs ≤ memMax) with
        | false => rw [hle] at hk; cases hk
        | true =>
          rw [hle] at hk
          simp only [cond_true] at hk
          have hle := of_decide_eq_true hle
          have hc := getD_some hch
          obtain ⟨hu, hF, hs0⟩ := shape_slice (hT.shape hi) (.inl hty)
          obtain ⟨inf, d, f1, f2, f3, f4, f5, f6⟩ := hF.ex
          have f8 := hF.by8 rfl inf f1
          have hut : P.underlying t' = some .string := by
            unfold isStrT at hstr
            split at hstr
            · rename_i j hj
              split at hstr
              · rename_i hjs
                exact shape_str (hT.shape hj) hjs
              · cases hstr
            · cases hstr
          have hxv : a.eval x = .string ⟨bs.toArray⟩ := by
            have := (evalO_sound (T := g.T) h t' x).1
            rw [hx] at this
            exact str_inv this
          have hbv : a.eval b = _ := hb ▸ (evalO_sound (T := g.T) h 0 b).1
          have hwhere := args2 hargs
          have hts' := tids2 hts
          subst hwhere hts'
          have hrun : (execOp a.eval o).run P w = Result.andThen ((Builtin.append_ #[t, t'] o.type #[a.eval b, a.eval x]).run P w) fun v w' => .ok (.value v) w' := by
            simp [execOp, ho, resolve, invoke, builtin]
          have hch1 := (h.chunks β _ hc).1
          obtain ⟨lx, hown, hlx⟩ := arr_owns hch1 (base := w0.w.heap.size) (h.chunks β _ hc).2
          have hsz : (⟨bs.toArray⟩ : ByteArray).size = bs.length := rfl
          obtain ⟨v', w', hr, hown', hg, hnil⟩ := Lib.run_append_own_string (P := P) w w0.w.heap.size t t' o.type i.elem inf hu hut f1 f6 f3 f8
            _ (List.length xs) lx hown ⟨bs.toArray⟩ (by rw [hsz]; simp only [maxLen]; simp only [memMax] at hle; omega) (by rw [hsz]; simp only [memMax] at hle; omega) h.below.size
          have hob : (Value.slice ((ρ β).blk.map fun b => ⟨b, 0, none⟩) (ρ β).len (ρ β).cap).ownBlock = (ρ β).blk := by
            cases (ρ β).blk <;> rfl
          rw [hob] at hg
          have hKA : ∀ A, (∀ n, n < w.heap.size → A n → Av A0 ρ s.chunks n) → Cells P (.arr (List.length xs + List.length bs) (.int .u8)) A w' (xs ++ strInts bs) (lx ++ Lib.strCells ⟨bs.toArray⟩) := by
            intro A hA
            have hK : Keep (Av A0 ρ s.chunks) w w' := fun n hn hnA => hg.block n hn (fun e => hnA (.inr ⟨β, _, hc, e.symm⟩))
            have h2 := strInts_cells (P := P) (A := Av A0 ρ s.chunks) (w := w) bs
            have e3 : (strInts bs).length = bs.length := by simp [strInts]
            rw [← e3] at h2
            have := (arr_append hlx h2).mono hK hA
            rw [e3] at this
            exact this
          obtain ⟨p, hv⟩ := owns_place hown'
          have hnn : nn = true → p.blk ≠ none := by
            intro hn e
            have hv2 : v' = .slice none 0 0 := by
              rcases hown'.2 with ⟨h, _⟩ | ⟨g, cap', cur, h, _⟩
              · exact h
              · rw [hv, e] at h; cases h
            have := (hnil.1 hv2).1
            have h5 := hch1.2.1 hn
            cases hq : (ρ β).blk with
            | none => exact h5 hq
            | some q => rw [hq] at this; cases this
          have hwh := append_where_str (P := P) hu hut f1 f6 f3 f8 hown (s := ⟨bs.toArray⟩) (by rw [hsz]; simp only [maxLen]; simp only [memMax] at hle; omega) (by rw [hsz]; simp only [memMax] at hle; omega) hr hv
          rw [hv] at hown'
          have hG := h.grow (ch' := .arr i.elem (.int .u8) (xs ++ strInts bs) nn) hc hg hwh trivial (fun A hA => owns_arr (ρ := ρ) (nn := nn) hown' (by simp [strInts, hsz]) (by rw [hsz]; exact hKA A hA) hnn)
          refine Eff.val (v := v') (w' := w') (by rw [hrun, hbv, hxv, hr]; rfl) (hG.put o.dst (sv := .own s.chunks.length) ?_ ?_) hk
          · show s.chunks.length < (s.chunks.set β none ++ [_]).length
            simp
          · show v' = Value.slice _ _ _
            rw [Places.set_self]
            exact hv
      · cases hk
    · cases hk
  · cases hk

theorem strData_sound (hT : TabOk P g.T) (h : Rel P A0 w0 ρ s a w) {args : Array Operand} {ts : Array TypeId} (ho : o.op = .call { callee := .builtin .unsafeString, args, argTypes := ts }) (hk : effK g s o K = some r) : Eff P A0 w0 a w o K r := by
  simp only [effK, ho] at hk
  split at hk
  · rename_i x n t t2 hargs hts
    have hwhere := args2 hargs
    have hts' := tids2 hts
    subst hwhere hts'
    unfold strDataK at hk
    split at hk
    · rename_i i β m hi hx hn
      split at hk
      · rename_i e xs nn hch
        split at hk
        · rename_i j hj
          split at hk
          · rename_i hcond
            obtain ⟨h1, rfl, h3⟩ := hcond
            cases hb : (m == (List.length xs : Int) && decide (0 < List.length xs) && isBytes xs) with
            | false => rw [hb] at hk; cases hk
            | true =>
              rw [hb] at hk
              simp only [cond_true] at hk
              simp only [Bool.and_eq_true, beq_iff_eq, decide_eq_true_eq] at hb
              obtain ⟨⟨rfl, hne⟩, hby⟩ := hb
              have hc := getD_some hch
              obtain ⟨hlen, _, hq⟩ := (h.chunks β _ hc).1
              have hpos : 0 < List.length xs := hne
              rcases hq with ⟨_, h4, _⟩ | ⟨b, vs, hbk, h4, h5, h6, h7, h8⟩
              · omega
              · have hxv : a.eval x = .pointer (some ⟨b, 0, none⟩) := by
                  have := (evalO_sound (T := g.T) h 0 x).1
                  rw [hx] at this
                  obtain ⟨b', hb', hv⟩ := this
                  rw [hbk] at hb'
                  cases hb'
                  exact hv
                have hnv : a.eval n = .int .i64 (List.length xs : Int) := by
                  have := (evalO_sound (T := g.T) h 0 n).1
                  rw [hn] at this
                  exact int_inv this
                have hpt : P.underlying t = some (.pointer i.elem) := shape_ref (hT.shape hi) h1
                have hF := hT.fits hj
                rw [h3] at hF
                obtain ⟨inf, d, f1, f2, f3, f4, f5, f6⟩ := hF.ex
                have hce : P.cellsOf i.elem = 1 := by simp [Program.cellsOf, f1, f3, Ty.size]
                have hvl : vs.size = (ρ β).cap := by rw [h7]; simp [Ty.size]
                have hbl : (bytesOf xs).length = List.length xs := by simp [bytesOf]
                have hcell : ∀ (j : Nat) (c : UInt8), (bytesOf xs)[j]? = some c → w.cell? ((⟨b, 0, none⟩ : Addr).add j) = some (.int .u8 c.toNat) := by
                  intro j c hjc
                  simp only [bytesOf, List.getElem?_map, Option.map_eq_some_iff] at hjc
                  obtain ⟨z, hz, rfl⟩ := hjc
                  have h9 := h8 j z hz
                  have hz2 : 0 ≤ z ∧ z < 256 := by
                    have := List.all_eq_true.1 hby z (List.mem_of_getElem? hz)
                    simpa using this
                  have h10 : vs.toList[j]? = some (.int .u8 z) := by
                    have := congrArg (·[0]?) h9
                    simpa [Ty.size, List.getElem?_take, List.getElem?_drop] using this
                  have h11 : ((UInt8.ofNat z.toNat).toNat : Int) = z := by
                    rw [UInt8.toNat_ofNat']
                    omega
                  rw [h11]
                  rw [addr_add]
                  simp only [World.cell?, h4, Option.isSome_none, Bool.false_eq_true, if_false, Nat.zero_add]
                  simpa using h10
                have hrun := Lib.run_unsafeString_row (P := P) (w := w) t t2 o.type i.elem hpt hce b vs.size (by simp [World.shape?, h4]) (bytesOf xs) (by intro e; rw [e] at hbl; simp at hbl; omega) (by rw [hbl]; omega) (by
                  rw [hbl]
                  simp only [maxLen] at h6
                  omega) hcell
                rw [hbl] at hrun
                have hw := h.writeDrop (w' := w.freeze ⟨b, 0, none⟩ (List.length xs)) hc hbk rfl (fun n hn => by
                  unfold World.freeze
                  rw [if_neg (by omega)]
                  simp only [Array.getElem?_modify]
                  rw [if_neg (fun e => hn e.symm)]) (by
                  unfold World.freeze
                  rw [if_neg (by omega)]
                  simp) (by unfold World.freeze; split <;> rfl) (by unfold World.freeze; split <;> rfl) (by unfold World.freeze; split <;> rfl)
                refine Eff.val (v := .string ⟨(bytesOf xs).toArray⟩) ?_ (hw.put o.dst (sv := .val .str (bytesOf xs)) trivial (mk_str _)) hk
                simp [execOp, ho, resolve, invoke, builtin, hxv, hnv, hrun]
          · cases hk
        · cases hk
      · cases hk
    · cases hk
  · cases hk

theorem effAppend_sound (hT : TabOk P g.T) (h : Rel P A0 w0 ρ s a w) {args : Array Operand} {ts : Array TypeId} (ho : o.op = .call { callee := .builtin .append, args, argTypes := ts })
    (hk : effK g s o K = some r) : Eff P A0 w0 a w o K r := by
  have hstr : ∀ (b x : Operand) (t t' : TypeId), args.toList = [b, x] → ts.toList = [t, t'] → isStrT g.T t' = true → appendStrK g s o b x t t' K = some r → Eff P A0 w0 a w o K r := fun b x t t' h1 h2 h3 h4 => appendStr_sound hT h ho h1 h2 h3 h4
  simp only [effK, ho] at hk
  split at hk
  · rename_i b x t t' hargs hts
    split at hk
    · rename_i hst
      exact hstr b x t t' hargs hts hst hk
    have hS := h.settle (evalO g.T t' s x)
    generalize s.settle (evalO g.T t' s x) = s1 at hk hS
    split at hk
    · rename_i i β hi hb
      split at hk
      · rename_i e u xs nn hch
        split at hk
        · rename_i hcond
          obtain ⟨rfl, hty, rfl⟩ := hcond
          simp only [Option.bind_eq_some_iff] at hk
          obtain ⟨ys, hy, hk⟩ := hk
          cases hle : decide (xs.length + List.length ys ≤ memMax) with
          | false => rw [hle] at hk; cases hk
          | true =>
            rw [hle] at hk
            simp only [cond_true] at hk
            have hle := of_decide_eq_true hle
            have hc := getD_some hch
            obtain ⟨hu, hF, hs0⟩ := shape_slice (hT.shape hi) (.inl hty)
            obtain ⟨inf, d, f1, f2, f3, f4, f5, f6⟩ := hF.ex
            obtain ⟨l, h1, h2⟩ := valOf_nil (evalO_sound (T := g.T) hS t' x).1 hy
            have hbv : a.eval b = _ := hb ▸ (evalO_sound (T := g.T) hS 0 b).1
            have hwhere := args2 hargs
            have hts' := tids2 hts
            subst hwhere hts'
            have hrun : (execOp a.eval o).run P w = Result.andThen ((Builtin.append_ #[t', t'] o.type #[a.eval b, a.eval x]).run P w) fun v w' => .ok (.value v) w' := by
              simp [execOp, ho, resolve, invoke, builtin]
            have hch1 := (hS.chunks β _ hc).1
            have fin : ∀ (v' : Value) (w' : World) (p : Place), (Builtin.append_ #[t', t'] o.type #[a.eval b, a.eval x]).run P w = .ok v' w' → v' = .slice (p.blk.map fun b => ⟨b, 0, none⟩) p.len p.cap → w.grownBy w' (ρ β).blk →
                (∀ b, p.blk = some b → (ρ β).blk = some b ∨ w.heap.size ≤ b) → (∀ A, (∀ n, n < w.heap.size → A n → Av A0 ρ s1.chunks n) → ChunkRel P A w' ρ p (.arr i.elem u (xs ++ ys) nn)) → Eff P A0 w0 a w o K r := by
              intro v' w' p hr hv hg hp hcr
              have hG := hS.grow (ch' := .arr i.elem u (xs ++ ys) nn) hc hg hp trivial hcr
              refine Eff.val (v := v') (w' := w') (by rw [hrun, hr]; rfl) (hG.put o.dst (sv := .own s1.chunks.length) ?_ ?_) hk
              · show s1.chunks.length < (s1.chunks.set β none ++ [_]).length
                simp
              · show v' = Value.slice _ _ _
                rw [Places.set_self]
                exact hv
            have hav : a.eval x = (Ty.slice u).wrap l := h2
            rcases slice_cells' h1 with ⟨rfl, p, c, rfl⟩ | ⟨b1, off, c, m, rfl, hm1, hm2⟩
            · have hcap : (ρ β).len ≤ (ρ β).cap := by
                obtain ⟨_, _, ⟨_, q1, q2⟩ | ⟨_, _, _, _, q, _⟩⟩ := hch1
                · omega
                · exact q
              refine fin _ w (ρ β) ?_ rfl (grownBy_refl w _) (fun b hb => .inl hb) (fun A hA => ?_)
              · rw [hbv, hav]
                exact run_append_none hu f1 hcap
              · rw [show (xs ++ ([] : List u.den)) = xs from List.append_nil xs]
                exact hch1.keep (fun _ _ => rfl) hA
            · obtain ⟨lx, hown, hlx⟩ := arr_owns hch1 (base := w0.w.heap.size) (hS.chunks β _ hc).2
              have hml := hm2.length
              have hby : (xs.length + List.length ys) * inf.bytes ≤ 140737488355328 := by
                have : (xs.length + List.length ys) * inf.bytes ≤ 68719476736 * 2048 := Nat.mul_le_mul hle f4
                omega
              obtain ⟨zinf, hz6⟩ : ∃ z, inf.zero = some z ∧ z = u.wrap u.zeroV := ⟨_, f6, rfl⟩
              have hzc : zinf.cells.size = u.size := by
                rw [hz6.2, wrap_cells_len (zeroV_length _) (zeroV_plain _), List.size_toArray, zeroV_length]
              obtain ⟨v', w', hr, hown', hg, hnil⟩ := run_append_own (P := P) w w0.w.heap.size t' o.type i.elem inf zinf u.size inf.bytes hu f1 hz6.1 f3 rfl hzc (by omega)
                _ xs.length lx hown ⟨b1, off, none⟩ (List.length ys) c m hml (fun j v hj => by rw [addr_add]; exact hm1 j v hj) (fun v hv => one_of_plain (Cells.plain hm2 v hv))
                (by simp only [maxLen]; simp only [memMax] at hle; omega) hby hS.below.size
              have hob : (Value.slice ((ρ β).blk.map fun b => ⟨b, 0, none⟩) (ρ β).len (ρ β).cap).ownBlock = (ρ β).blk := by
                cases (ρ β).blk <;> rfl
              rw [hob] at hg
              have hKA : ∀ A, (∀ n, n < w.heap.size → A n → Av A0 ρ s1.chunks n) → Cells P (.arr (xs.length + List.length ys) u) A w' (xs ++ ys) (lx ++ m) := by
                intro A hA
                have hK : Keep (Av A0 ρ s1.chunks) w w' := fun n hn hnA => hg.block n hn (fun e => hnA (.inr ⟨β, _, hc, e.symm⟩))
                exact (arr_append hlx hm2).mono hK hA
              obtain ⟨p, hv⟩ := owns_place hown'
              have hnn : nn = true → p.blk ≠ none := by
                intro hn e
                have hv2 : v' = .slice none 0 0 := by
                  rcases hown'.2 with ⟨h, _⟩ | ⟨g, cap', cur, h, _⟩
                  · exact h
                  · rw [hv, e] at h; cases h
                have := (hnil.1 hv2).1
                have h5 := hch1.2.1 hn
                cases hq : (ρ β).blk with
                | none => exact h5 hq
                | some q => rw [hq] at this; cases this
              have hr' : (Builtin.append_ #[t', t'] o.type #[a.eval b, a.eval x]).run P w = .ok v' w' := by
                rw [hbv, hav]
                exact hr
              have hwh := append_where (P := P) hu f1 hz6.1 f3 rfl hzc (by omega) hown (a := ⟨b1, off, none⟩) (m := List.length ys) (c := c) (news := m) hml (fun j v hj => by rw [addr_add]; exact hm1 j v hj) (fun v hv => one_of_plain (Cells.plain hm2 v hv)) (by simp only [maxLen]; simp only [memMax] at hle; omega) hby hr hv
              rw [hv] at hown'
              exact fin v' w' p hr' hv hg hwh (fun A hA => owns_arr (ρ := ρ) (nn := nn) hown' (by simp) (hKA A hA) hnn)
        · cases hk
      · cases hk
    · cases hk
  · cases hk
end
end Go.Vx
