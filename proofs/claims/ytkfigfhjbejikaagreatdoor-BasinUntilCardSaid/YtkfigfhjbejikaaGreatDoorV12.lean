/- V12: steps of the state alone: a block of one's own becomes a value for good; slots are forgotten; names are changed. -/
import Derived.Test.YtkfigfhjbejikaaGreatDoorV11
set_option linter.all false
namespace Go.Vx
open Go.RowKit
variable [GT]

section
variable {P : Program} {A0 : Nat → Prop} {w0 : Base} {ρ : Places} {s : St} {a : Act} {w w' : World} {g : G}

theorem chunk_of_sub {cs : List (Option Chunk)} {β γ : Nat} {f : SV → SV} {ch' : Chunk} (h : ((cs.set β none).map (Option.map (Chunk.map f)))[γ]? = some (some ch')) :
    γ ≠ β ∧ ∃ ch, cs[γ]? = some (some ch) ∧ ch' = ch.map f := by
  rw [List.getElem?_map, Option.map_eq_some_iff] at h
  obtain ⟨o, h1, h2⟩ := h
  rw [Option.map_eq_some_iff] at h2
  obtain ⟨ch, rfl, rfl⟩ := h2
  by_cases hb : β = γ
  · subst hb
    rw [List.getElem?_set] at h1
    simp at h1
  · rw [List.getElem?_set_ne hb] at h1
    exact ⟨fun e => hb e.symm, ch, h1, rfl⟩

theorem Av_sub {β : Nat} {f : SV → SV} {n : Nat} (h : Av A0 ρ ((s.chunks.set β none).map (Option.map (Chunk.map f))) n) : Av A0 ρ s.chunks n := by
  rcases h with h | ⟨γ, c, hc, hb⟩
  · exact .inl h
  · obtain ⟨_, ch, h1, _⟩ := chunk_of_sub hc
    exact .inr ⟨γ, ch, h1, hb⟩

theorem Rel.free (h : Rel P A0 w0 ρ s a w) {β : Nat} {ch : Chunk} (hc : s.chunks[β]? = some (some ch)) {f : SV → SV} {b : Nat} (hb : (ρ β).blk = some b) : ¬ Av A0 ρ ((s.chunks.set β none).map (Option.map (Chunk.map f))) b := by
  rintro (h0 | ⟨γ, c, hg, hbg⟩)
  · have := h.dom b h0
    have := (h.chunks β ch hc).2 b hb
    omega
  · obtain ⟨hne, c', h1, _⟩ := chunk_of_sub hg
    exact hne (h.inj γ β c' ch h1 hc (hbg.trans hb.symm) (by rw [hbg]; simp))

theorem Rel.sub (h : Rel P A0 w0 ρ s a w) (β : Nat) (f : SV → SV)
    (hf : ∀ sv v, sv.inn s.chunks.length → SVRel P (Av A0 ρ s.chunks) w ρ sv v → SVRel P (Av A0 ρ ((s.chunks.set β none).map (Option.map (Chunk.map f)))) w ρ (f sv) v)
    (hn : ∀ sv, sv.inn s.chunks.length → (f sv).inn s.chunks.length) : Rel P A0 w0 ρ (s.sub β f) a w := by
  have hlen : ((s.chunks.set β none).map (Option.map (Chunk.map f))).length = s.chunks.length := by simp
  refine ⟨by simpa [St.sub] using h.size, fun i sv hi => ?_, fun γ c hg => ?_, fun γ δ c d hg hd hbg hne => ?_, fun i sv hi => ?_, fun γ c hg => ?_, h.below, h.dom, h.defers, h.dep, (fun γ c q hg hq => ?_), h.round, h.glob, by simpa [St.sub] using h.ksize, fun i sv hi => ?_, fun i sv hi => ?_⟩
  · simp only [St.sub, List.getElem?_map, Option.map_eq_some_iff] at hi
    obtain ⟨sv', h1, rfl⟩ := hi
    exact hf _ _ (h.names i sv' h1) (h.slots i sv' h1)
  · obtain ⟨_, ch, h1, rfl⟩ := chunk_of_sub hg
    refine ⟨?_, (h.chunks γ ch h1).2⟩
    have hr := (h.chunks γ ch h1).1
    have hi := h.cnames γ ch h1
    cases ch with
    | box t cells =>
      obtain ⟨b, vs, e, hb, h2, h3, h4⟩ := hr
      refine ⟨b, vs, e, hb, h2, by simpa [Chunk.map] using h3, fun i sv hs => ?_⟩
      simp only [List.getElem?_map, Option.map_eq_some_iff] at hs
      obtain ⟨sv', h5, rfl⟩ := hs
      obtain ⟨v, h6, h7⟩ := h4 i sv' h5
      exact ⟨v, h6, hf _ _ (hi sv' (List.mem_of_getElem? h5)) h7⟩
    | lp i info cells st =>
      obtain ⟨b, r, hb, h2, h3, h4, h5⟩ := hr
      refine ⟨b, r, hb, h2, h3, by simpa using h4, fun i sv hs => ?_⟩
      simp only [List.getElem?_map, Option.map_eq_some_iff] at hs
      obtain ⟨sv', h6, rfl⟩ := hs
      obtain ⟨v, h7, h8⟩ := h5 i sv' h6
      exact ⟨v, h7, hf _ _ (hi sv' (List.mem_of_getElem? h6)) h8⟩
    | arr e t xs nn => exact hr.keep (fun _ _ => rfl) (fun n _ hn => Av_sub hn)
    | mp k v es => exact hr.keep (fun _ _ => rfl) (fun n _ hn => Av_sub hn)
    | it bs q => exact hr.keep (fun _ _ => rfl) (fun n _ hn => Av_sub hn)
  · obtain ⟨_, c1, h1, _⟩ := chunk_of_sub hg
    obtain ⟨_, c2, h2, _⟩ := chunk_of_sub hd
    exact h.inj γ δ c1 c2 h1 h2 hbg hne
  · simp only [St.sub, List.getElem?_map, Option.map_eq_some_iff] at hi
    obtain ⟨sv', h1, rfl⟩ := hi
    show (f sv').inn ((s.chunks.set β none).map (Option.map (Chunk.map f))).length
    rw [hlen]
    exact hn _ (h.names i sv' h1)
  · obtain ⟨_, ch, h1, rfl⟩ := chunk_of_sub hg
    show (ch.map f).inn ((s.chunks.set β none).map (Option.map (Chunk.map f))).length
    rw [hlen]
    have hi := h.cnames γ ch h1
    cases ch with
    | box t cells =>
      intro sv hs
      obtain ⟨sv', h2, rfl⟩ := List.mem_map.1 hs
      exact hn _ (hi sv' h2)
    | lp i info cells st =>
      intro sv hs
      obtain ⟨sv', h2, rfl⟩ := List.mem_map.1 hs
      exact hn _ (hi sv' h2)
    | arr e t xs nn => trivial
    | mp k v es => trivial
    | it bs q => trivial
  · obtain ⟨_, ch, h1, rfl⟩ := chunk_of_sub hg
    exact h.lpi γ ch q h1 (by cases ch <;> exact hq)
  · simp only [St.sub, List.getElem?_map, Option.map_eq_some_iff] at hi
    obtain ⟨sv', h1, rfl⟩ := hi
    exact hf _ _ (h.knames i sv' h1) (h.kslots i sv' h1)
  · simp only [St.sub, List.getElem?_map, Option.map_eq_some_iff] at hi
    obtain ⟨sv', h1, rfl⟩ := hi
    show (f sv').inn ((s.chunks.set β none).map (Option.map (Chunk.map f))).length
    rw [hlen]
    exact hn _ (h.knames i sv' h1)

theorem CapsRel.sub {A A' : Nat → Prop} {β : Nat} {t : Ty} {x : t.den} (hA : ∀ n, n < w.heap.size → A' n → A n) (hx : ∀ b, (ρ β).blk = some b → SVRel P A' w ρ (.val (.ref t) x) (.pointer (some ⟨b, 0, none⟩))) :
    ∀ {cs : List Cap} {vs : List Value}, CapsRel P A w ρ cs vs → CapsRel P A' w ρ (cs.map (CapSub β t x)) vs
  | [], [], _ => trivial
  | [], _ :: _, h => h
  | _ :: _, [], h => h
  | .box γ :: cs, v :: vs, h => by
    refine ⟨?_, CapsRel.sub hA hx h.2⟩
    have h1 := h.1
    simp only [CapSub]
    split
    · rename_i e
      subst e
      obtain ⟨b, hb, rfl⟩ := h1
      exact hx b hb
    · exact h1
  | .val u y :: cs, v :: vs, h => by
    refine ⟨?_, CapsRel.sub hA hx h.2⟩
    obtain ⟨l, hl, e⟩ := h.1
    exact ⟨l, hl.mono (fun _ _ _ => rfl) hA, e⟩

theorem CapsIn.sub {β : Nat} {u : Ty} {x : u.den} {n : Nat} : ∀ {cs : List Cap}, CapsIn n cs → CapsIn n (cs.map (CapSub β u x))
  | [], _ => trivial
  | .box γ :: cs, h => by
    simp only [List.map_cons, CapSub]
    split
    · exact CapsIn.sub h.2
    · exact ⟨h.1, CapsIn.sub h.2⟩
  | .val _ _ :: cs, h => CapsIn.sub (cs := cs) h

theorem Rel.freeze (h : Rel P A0 w0 ρ s a w) (β : Nat) : Rel P A0 w0 ρ (s.freeze β) a w := by
  unfold St.freeze
  split
  · rename_i e t xs nn hch
    have hc := getD_some hch
    obtain ⟨h1, h2, h3⟩ := arr_cells (A' := Av A0 ρ ((s.chunks.set β none).map (Option.map (Chunk.map (subArr β (if nn then .val (.nslice t) (some xs) else .val (.slice t) xs)))))) (h.chunks β _ hc).1 (fun n _ hn => Av_sub hn) (fun b hb => h.free hc hb)
    have hval : SVRel P (Av A0 ρ ((s.chunks.set β none).map (Option.map (Chunk.map (subArr β (if nn then .val (.nslice t) (some xs) else .val (.slice t) xs)))))) w ρ (if nn then .val (.nslice t) (some xs) else .val (.slice t) xs) (.slice ((ρ β).blk.map fun b => ⟨b, 0, none⟩) (ρ β).len (ρ β).cap) := by
      cases nn with
      | true => exact ⟨_, h2 rfl, rfl⟩
      | false => exact ⟨_, h1 rfl, rfl⟩
    have hin : (if nn then SV.val (.nslice t) (some xs) else .val (.slice t) xs).inn s.chunks.length := by cases nn <;> trivial
    clear h1 h2 h3
    generalize (if nn then SV.val (.nslice t) (some xs) else .val (.slice t) xs) = V at *
    refine h.sub β _ (fun sv v hi hs => ?_) (fun sv hi => ?_)
    · cases sv with
      | own γ =>
        simp only [subArr]
        split
        · rename_i e'
          subst e'
          simp only [SVRel] at hs
          subst hs
          exact hval
        · exact hs
      | _ => exact hs.mono (fun _ _ _ => rfl) (fun n _ hn => Av_sub hn)
    · cases sv with
      | own γ =>
        simp only [subArr]
        split
        · exact hin
        · exact hi
      | _ => exact hi
  · rename_i t cells hch
    split
    · rename_i x hx
      have hc := getD_some hch
      have hval : ∀ b, (ρ β).blk = some b → SVRel P (Av A0 ρ ((s.chunks.set β none).map (Option.map (Chunk.map (subBox β t x))))) w ρ (.val (.ref t) x) (.pointer (some ⟨b, 0, none⟩)) := by
        intro b hb
        obtain ⟨b', vs, hb', h1, h2⟩ := box_at (h.chunks β _ hc).1
        rw [hb] at hb'; cases hb'
        have h3 := gather_sound _ _ _ _ h2 hx
        obtain ⟨b'', vs', e, hb'', h4, _⟩ := (h.chunks β _ hc).1
        rw [hb] at hb''; cases hb''
        exact mk_ref (h.free hc hb) (lt_of_get h4) h1 (h3.mono (fun _ _ _ => rfl) (fun n _ hn => Av_sub hn))
      refine h.sub β _ (fun sv v hi hs => ?_) (fun sv hi => ?_)
      · cases sv with
        | bptr γ off =>
          simp only [subBox]
          split
          · rename_i e
            subst e
            split
            · rename_i e0
              subst e0
              obtain ⟨b, hb, rfl⟩ := hs
              exact hval b hb
            · trivial
          · exact hs
        | clo f caps =>
          obtain ⟨vs, h1, h2⟩ := hs
          exact ⟨vs, h1, CapsRel.sub (fun n _ hn => Av_sub hn) hval h2⟩
        | _ => exact hs.mono (fun _ _ _ => rfl) (fun n _ hn => Av_sub hn)
      · cases sv with
        | bptr γ off =>
          simp only [subBox]
          split
          · split <;> trivial
          · exact hi
        | clo f caps => exact CapsIn.sub hi
        | _ => exact hi
    · exact h
  · rename_i k u es hch
    have hc := getD_some hch
    obtain ⟨b, hb, hm⟩ := map_cells (A' := Av A0 ρ ((s.chunks.set β none).map (Option.map (Chunk.map (subMap β (.val (.map k u) es)))))) (h.chunks β _ hc).1 (fun n _ hn => Av_sub hn) (fun b hb => h.free hc hb)
    refine h.sub β _ (fun sv v hi hs => ?_) (fun sv hi => ?_)
    · cases sv with
      | mown γ =>
        simp only [subMap]
        split
        · rename_i e'
          subst e'
          simp only [SVRel] at hs
          subst hs
          exact ⟨_, hm, by rw [hb]; rfl⟩
        · exact hs
      | _ => exact hs.mono (fun _ _ _ => rfl) (fun n _ hn => Av_sub hn)
    · cases sv with
      | mown γ =>
        simp only [subMap]
        split
        · trivial
        · exact hi
      | _ => exact hi
  · exact h

theorem freeze_len (s : St) (β : Nat) : (s.freeze β).chunks.length = s.chunks.length := by
  unfold St.freeze
  split
  · simp [St.sub]
  · split
    · simp [St.sub]
    · rfl
  · simp [St.sub]
  · rfl

theorem Rel.freezeCaps : ∀ (cs : List Cap) {s : St}, Rel P A0 w0 ρ s a w → Rel P A0 w0 ρ (Vx.freezeCaps cs s) a w
  | [], _, h => h
  | .box β :: cs, _, h => Rel.freezeCaps cs (h.freeze β)
  | .val _ _ :: cs, _, h => Rel.freezeCaps cs h

theorem Rel.settle (h : Rel P A0 w0 ρ s a w) (sv : SV) : Rel P A0 w0 ρ (s.settle sv) a w := by
  unfold St.settle
  split
  · exact h.freeze _
  · exact h.freeze _
  · exact h.freezeCaps _
  · exact h

theorem Rel.settleAll : ∀ (xs : List Operand) {s : St}, Rel P A0 w0 ρ s a w → Rel P A0 w0 ρ (Vx.settleAll xs s) a w
  | [], _, h => h
  | .tmp t :: l, _, h => Rel.settleAll l (h.settle _)
  | .const _ :: l, _, h => Rel.settleAll l h
  | .global _ :: l, _, h => Rel.settleAll l h
  | .func _ :: l, _, h => Rel.settleAll l h

/-! ### Forgetting, and other names -/

/-- A state that says no more than another one, under other names. -/
structure Weak (P : Program) (A0 : Nat → Prop) (w : World) (ρ ρ' : Places) (s s' : St) : Prop where
  len : s'.slots.length = s.slots.length
  slots : ∀ (i : Nat) (sv sv' : SV) (v : Value), s.slots[i]? = some sv → s'.slots[i]? = some sv' → SVRel P (Av A0 ρ s.chunks) w ρ sv v → SVRel P (Av A0 ρ' s'.chunks) w ρ' sv' v
  chunks : ∀ (β : Nat) (ch' : Chunk), s'.chunks[β]? = some (some ch') → ∃ γ ch, s.chunks[γ]? = some (some ch) ∧ ρ' β = ρ γ ∧ (ChunkRel P (Av A0 ρ s.chunks) w ρ (ρ γ) ch → ChunkRel P (Av A0 ρ' s'.chunks) w ρ' (ρ γ) ch')
  inj : ∀ (β δ : Nat) (c d : Chunk), s'.chunks[β]? = some (some c) → s'.chunks[δ]? = some (some d) → (ρ' β).blk = (ρ' δ).blk → (ρ' β).blk ≠ none → β = δ
  names : ∀ (i : Nat) (sv : SV), s'.slots[i]? = some sv → sv.inn s'.chunks.length
  cnames : ∀ (β : Nat) (ch : Chunk), s'.chunks[β]? = some (some ch) → ch.inn s'.chunks.length
  klen : s'.kept.length = s.kept.length
  kslots : ∀ (i : Nat) (sv sv' : SV) (v : Value), s.kept[i]? = some sv → s'.kept[i]? = some sv' → SVRel P (Av A0 ρ s.chunks) w ρ sv v → SVRel P (Av A0 ρ' s'.chunks) w ρ' sv' v
  knames : ∀ (i : Nat) (sv : SV), s'.kept[i]? = some sv → sv.inn s'.chunks.length
  dep : s'.dep = s.dep
  nmk : s'.nmk = 0 → s.nmk = 0
  rnd : s'.rnd = s.rnd

theorem Rel.weak (h : Rel P A0 w0 ρ s a w) {ρ' : Places} {s' : St} (hw : Weak P A0 w ρ ρ' s s') (hl : ∀ (β : Nat) (ch : Chunk) (q : Nat × LpInfo), s'.chunks[β]? = some (some ch) → ch.lpNo = some q → w0.infos[q.1]? = some q.2) : Rel P A0 w0 ρ' s' a w := by
  refine ⟨hw.len.trans h.size, fun i sv' hi => ?_, fun β ch' hb => ?_, hw.inj, hw.names, hw.cnames, h.below, h.dom, (let ⟨ms, ⟨q1, q2, q3⟩, q4⟩ := h.defers; ⟨ms, ⟨q1, fun h0 => q2 (hw.nmk h0), q3⟩, q4⟩), ⟨hw.dep.trans h.dep.1, hw.rnd.trans h.dep.2⟩, hl, h.round, h.glob, hw.klen.trans h.ksize, fun i sv' hi => ?_, hw.knames⟩
  · have hlt : i < s.slots.length := hw.len ▸ (List.getElem?_eq_some_iff.1 hi).1
    exact hw.slots i _ sv' _ (List.getElem?_eq_getElem hlt) hi (h.slots i _ (List.getElem?_eq_getElem hlt))
  · obtain ⟨γ, ch, h1, h2, h3⟩ := hw.chunks β ch' hb
    rw [h2]
    exact ⟨h3 (h.chunks γ ch h1).1, (h.chunks γ ch h1).2⟩
  · have hlt : i < s.kept.length := hw.klen ▸ (List.getElem?_eq_some_iff.1 hi).1
    exact hw.kslots i _ sv' _ (List.getElem?_eq_getElem hlt) hi (h.kslots i _ (List.getElem?_eq_getElem hlt))
end
end Go.Vx
