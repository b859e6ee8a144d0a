/- V13: at a loop's head: slots are forgotten, names are changed; a state with other contents of the same types. -/
import Derived.Test.YtkfigfhjbejikaaGreatDoorV12
set_option linter.all false
namespace Go.Vx
open Go.RowKit
variable [GT]

section
variable {P : Program} {A0 : Nat → Prop} {w0 : Base} {ρ : Places} {s : St} {a : Act} {w w' : World} {g : G}

theorem ite_some {α : Type} {c : Prop} [Decidable c] {x : Option α} {y : α} (h : (if c then x else none) = some y) : c ∧ x = some y := by
  split at h
  · exact ⟨‹_›, h⟩
  · cases h

theorem bindmap_some {α β γ : Type} {o : Option α} {p : Option β} {f : α → β → γ} {y : γ} (h : (o.bind fun a => p.map fun b => f a b) = some y) : ∃ a b, o = some a ∧ p = some b ∧ f a b = y := by
  cases o with
  | none => cases h
  | some a => cases p with
    | none => cases h
    | some b => exact ⟨a, b, rfl, rfl, Option.some.inj h⟩

theorem newName_get {l : List Nat} {β : Nat} (h : l.contains β = true) : newName l β < l.length ∧ l.getD (newName l β) 0 = β := by
  have hm : β ∈ l := by simpa using h
  have hlt : l.idxOf β < l.length := List.idxOf_lt_length_of_mem hm
  refine ⟨hlt, ?_⟩
  unfold newName
  rw [List.getD_eq_getElem?_getD, List.getElem?_eq_getElem hlt]
  simp

def rePlace (ρ : Places) (l : List Nat) : Places := fun i => ρ (l.getD i 0)

theorem rePlace_new {l : List Nat} {β : Nat} (h : l.contains β = true) : rePlace ρ l (newName l β) = ρ β := by
  unfold rePlace; rw [(newName_get h).2]

theorem capsRename_sound {A A' : Nat → Prop} {l : List Nat} (hA : ∀ n, n < w.heap.size → A' n → A n) : ∀ {cs ds : List Cap} {vs : List Value}, capsRename l cs = some ds → CapsRel P A w ρ cs vs → CapsRel P A' w (rePlace ρ l) ds vs ∧ CapsIn l.length ds
  | [], ds, vs, h, hr => by
    simp [capsRename] at h
    subst h
    cases vs with
    | nil => exact ⟨trivial, trivial⟩
    | cons v vs => exact hr.elim
  | c :: cs, ds, vs, h, hr => by
    simp only [capsRename, Option.bind_eq_some_iff, Option.map_eq_some_iff] at h
    obtain ⟨d, hd, ds', hds, rfl⟩ := h
    cases vs with
    | nil => exact hr.elim
    | cons v vs =>
      obtain ⟨h1, h2⟩ := capsRename_sound hA hds hr.2
      have h0 := hr.1
      cases c with
      | box β =>
        simp only [Cap.rename] at hd
        split at hd
        · rename_i hc
          cases hd
          refine ⟨⟨?_, h1⟩, (newName_get hc).1, h2⟩
          simp only [CapRel, rePlace_new hc]
          exact h0
        · cases hd
      | val t x =>
        simp only [Cap.rename, Option.some.injEq] at hd
        subst hd
        obtain ⟨m, hm, e⟩ := h0
        exact ⟨⟨⟨m, hm.mono (fun _ _ _ => rfl) hA, e⟩, h1⟩, h2⟩

theorem rename_sound {A A' : Nat → Prop} {l : List Nat} (hA : ∀ n, n < w.heap.size → A' n → A n) {sv : SV} {v : Value} (h : SVRel P A w ρ sv v) : SVRel P A' w (rePlace ρ l) (sv.rename l) v := by
  cases sv with
  | undef => trivial
  | val t x => obtain ⟨m, hm, e⟩ := h; exact ⟨m, hm.mono (fun _ _ _ => rfl) hA, e⟩
  | tup t x => obtain ⟨m, hm, e⟩ := h; exact ⟨m, hm.mono (fun _ _ _ => rfl) hA, e⟩
  | nils => exact h
  | gone => exact h
  | bptr β off =>
    simp only [SV.rename]
    split
    · rename_i hc
      simp only [SVRel, rePlace_new hc]
      exact h
    · trivial
  | own β =>
    simp only [SV.rename]
    split
    · rename_i hc
      simp only [SVRel, rePlace_new hc]
      exact h
    · trivial
  | eptr β i sz off =>
    simp only [SV.rename]
    split
    · rename_i hc
      simp only [SVRel, rePlace_new hc]
      exact h
    · trivial
  | mown β =>
    simp only [SV.rename]
    split
    · rename_i hc
      simp only [SVRel, rePlace_new hc]
      exact h
    · trivial
  | yld β =>
    simp only [SV.rename]
    split
    · rename_i hc
      simp only [SVRel, rePlace_new hc]
      exact h
    · trivial
  | mayp β e =>
    simp only [SV.rename]
    split
    · rename_i hc
      simp only [SVRel, rePlace_new hc]
      exact h
    · trivial
  | clo f caps =>
    simp only [SV.rename]
    split
    · rename_i cs hcs
      obtain ⟨vs, e, hr⟩ := h
      exact ⟨vs, e, (capsRename_sound hA hcs hr).1⟩
    · trivial

theorem capsRename_in {l : List Nat} : ∀ {cs ds : List Cap}, capsRename l cs = some ds → CapsIn l.length ds
  | [], ds, h => by simp [capsRename] at h; subst h; trivial
  | c :: cs, ds, h => by
    simp only [capsRename, Option.bind_eq_some_iff, Option.map_eq_some_iff] at h
    obtain ⟨d, hd, ds', hds, rfl⟩ := h
    have h2 := capsRename_in hds
    cases c with
    | box β =>
      simp only [Cap.rename] at hd
      split at hd
      · rename_i hc; cases hd; exact ⟨(newName_get hc).1, h2⟩
      · cases hd
    | val t x => simp only [Cap.rename, Option.some.injEq] at hd; subst hd; exact h2

theorem rename_in {l : List Nat} (sv : SV) : (sv.rename l).inn l.length := by
  cases sv with
  | bptr β off => simp only [SV.rename]; split; exact (newName_get ‹_›).1; trivial
  | own β => simp only [SV.rename]; split; exact (newName_get ‹_›).1; trivial
  | eptr β i sz off => simp only [SV.rename]; split; exact (newName_get ‹_›).1; trivial
  | mown β => simp only [SV.rename]; split; exact (newName_get ‹_›).1; trivial
  | yld β => simp only [SV.rename]; split; exact (newName_get ‹_›).1; trivial
  | mayp β e => simp only [SV.rename]; split; exact (newName_get ‹_›).1; trivial
  | clo f caps =>
    simp only [SV.rename]
    split
    · exact capsRename_in ‹_›
    · trivial
  | _ => trivial

theorem widen_sound {A : Nat → Prop} {sv : SV} {v : Value} (h : SVRel P A w ρ sv v) : SVRel P A w ρ (widen sv) v := by
  unfold widen
  split
  · obtain ⟨m, hm, e⟩ := h
    exact ⟨m, nslice_slice hm, e⟩
  · exact h

theorem keep_get (keep : List Nat) : ∀ (l : List SV) (k i : Nat) (sv' : SV), (keepSlots keep k l)[i]? = some sv' → ∃ sv, l[i]? = some sv ∧ (sv' = widen sv ∨ sv' = .undef)
  | [], _, i, _, h => by simp [keepSlots] at h
  | sv :: l, k, i, sv', h => by
    simp only [keepSlots] at h
    cases i with
    | zero =>
      simp at h
      subst h
      refine ⟨sv, rfl, ?_⟩
      split
      · exact .inl rfl
      · exact .inr rfl
    | succ i => simpa using keep_get keep l (k + 1) i sv' (by simpa using h)

theorem keep_length (keep : List Nat) : ∀ (l : List SV) (k : Nat), (keepSlots keep k l).length = l.length
  | [], _ => rfl
  | sv :: l, k => by simp [keepSlots, keep_length keep l (k + 1)]

theorem canonWith_weak (h : Rel P A0 w0 ρ s a w) (l keep : List Nat) : Weak P A0 w ρ (rePlace ρ l) s (canonWith l keep s) := by
  unfold canonWith
  have hch : ∀ (i : Nat) (ch' : Chunk), (l.zipIdx.map fun p => if newName l p.1 = p.2 then (s.chunks.getD p.1 none).map (Chunk.map (SV.rename l)) else none)[i]? = some (some ch') →
      ∃ γ ch, s.chunks[γ]? = some (some ch) ∧ rePlace ρ l i = ρ γ ∧ ch' = ch.map (SV.rename l) ∧ newName l γ = i := by
    intro i ch' hi
    rw [List.getElem?_map, Option.map_eq_some_iff] at hi
    obtain ⟨⟨γ, j⟩, h1, h2⟩ := hi
    rw [List.getElem?_zipIdx] at h1
    simp only [Option.map_eq_some_iff, Nat.zero_add, Prod.mk.injEq] at h1
    obtain ⟨γ', h3, rfl, rfl⟩ := h1
    simp only at h2
    split at h2
    · rename_i hn
      rw [Option.map_eq_some_iff] at h2
      obtain ⟨ch, h4, rfl⟩ := h2
      exact ⟨γ', ch, getD_some h4, by unfold rePlace; rw [List.getD_eq_getElem?_getD, h3]; rfl, rfl, hn⟩
    · cases h2
  have hA : ∀ n, Av A0 (rePlace ρ l) (l.zipIdx.map fun p => if newName l p.1 = p.2 then (s.chunks.getD p.1 none).map (Chunk.map (SV.rename l)) else none) n → Av A0 ρ s.chunks n := by
    rintro n (h0 | ⟨i, c, hc, hb⟩)
    · exact .inl h0
    · obtain ⟨γ, ch, h1, h2, _⟩ := hch i c hc
      rw [h2] at hb
      exact .inr ⟨γ, ch, h1, hb⟩
  refine ⟨by simp [keep_length], fun i sv sv' v hs hs' hr => ?_, fun i ch' hi => ?_, fun i j c d hi hj hij hne => ?_, fun i sv hs => ?_, fun i ch hi => ?_, by simp, fun i sv sv' v hs hs' hr => ?_, fun i sv hs => ?_, rfl, id, rfl⟩
  · simp only [List.getElem?_map, Option.map_eq_some_iff] at hs'
    obtain ⟨sv1, h1, rfl⟩ := hs'
    obtain ⟨sv2, h2, h3⟩ := keep_get keep _ _ _ _ h1
    rw [hs] at h2
    cases h2
    rcases h3 with rfl | rfl
    · exact rename_sound (fun n _ hn => hA n hn) (widen_sound hr)
    · trivial
  · obtain ⟨γ, ch, h1, h2, rfl, _⟩ := hch i ch' hi
    refine ⟨γ, ch, h1, h2, fun hr => ?_⟩
    cases ch with
    | box t cells =>
      obtain ⟨b, vs, e, hb, h3, h4, h5⟩ := hr
      refine ⟨b, vs, e, hb, h3, by simpa [Chunk.map] using h4, fun j sv hj => ?_⟩
      simp only [List.getElem?_map, Option.map_eq_some_iff] at hj
      obtain ⟨sv', h6, rfl⟩ := hj
      obtain ⟨v, h7, h8⟩ := h5 j sv' h6
      exact ⟨v, h7, rename_sound (fun n _ hn => hA n hn) h8⟩
    | lp j info cells st =>
      obtain ⟨b, r, hb, h3, h4, h5, h6⟩ := hr
      refine ⟨b, r, hb, h3, h4, by simpa using h5, fun j sv hj => ?_⟩
      simp only [List.getElem?_map, Option.map_eq_some_iff] at hj
      obtain ⟨sv', h7, rfl⟩ := hj
      obtain ⟨v, h8, h9⟩ := h6 j sv' h7
      exact ⟨v, h8, rename_sound (fun n _ hn => hA n hn) h9⟩
    | arr e t xs nn => exact (ChunkRel.keep hr (fun _ _ => rfl) (fun n _ hn => hA n hn))
    | mp k v es => exact (ChunkRel.keep hr (fun _ _ => rfl) (fun n _ hn => hA n hn))
    | it bs q => exact (ChunkRel.keep hr (fun _ _ => rfl) (fun n _ hn => hA n hn))
  · obtain ⟨γ, ch, h1, h2, _, h3⟩ := hch i c hi
    obtain ⟨δ, dh, h4, h5, _, h6⟩ := hch j d hj
    rw [h2, h5] at hij
    rw [h2] at hne
    have := h.inj γ δ ch dh h1 h4 hij hne
    rw [← h3, ← h6, this]
  · simp only [List.getElem?_map, Option.map_eq_some_iff] at hs
    obtain ⟨sv1, _, rfl⟩ := hs
    simpa using rename_in (l := l) sv1
  · obtain ⟨γ, ch', _, _, rfl, _⟩ := hch i ch hi
    cases ch' with
    | box t cells =>
      intro sv hs
      obtain ⟨sv', _, rfl⟩ := List.mem_map.1 hs
      simpa using rename_in (l := l) sv'
    | lp j info cells st =>
      intro sv hs
      obtain ⟨sv', _, rfl⟩ := List.mem_map.1 hs
      simpa using rename_in (l := l) sv'
    | arr e t xs nn => trivial
    | mp k v es => trivial
    | it bs q => trivial
  · simp only [List.getElem?_map, Option.map_eq_some_iff] at hs'
    obtain ⟨sv1, h1, rfl⟩ := hs'
    rw [hs] at h1
    cases h1
    exact rename_sound (fun n _ hn => hA n hn) hr
  · simp only [List.getElem?_map, Option.map_eq_some_iff] at hs
    obtain ⟨sv1, _, rfl⟩ := hs
    simpa using rename_in (l := l) sv1

theorem canon_weak (h : Rel P A0 w0 ρ s a w) (keep : List Nat) : ∃ ρ', Weak P A0 w ρ ρ' s (canon keep s) := ⟨_, canonWith_weak h _ keep⟩

/-- The range loops of a state are those that the walk has begun. -/
def LpI (I : List LpInfo) (s : St) : Prop := ∀ (β : Nat) (ch : Chunk) (q : Nat × LpInfo), s.chunks[β]? = some (some ch) → ch.lpNo = some q → I[q.1]? = some q.2

theorem canon_lp {I : List LpInfo} (h : LpI I s) (keep : List Nat) : LpI I (canon keep s) := by
  intro β ch q hb hq
  unfold canon canonWith at hb
  simp only [List.getElem?_map, Option.map_eq_some_iff] at hb
  obtain ⟨⟨γ, j⟩, _, h2⟩ := hb
  split at h2
  · rw [Option.map_eq_some_iff] at h2
    obtain ⟨c, h4, rfl⟩ := h2
    exact h γ c q (getD_some h4) (by cases c <;> exact hq)
  · cases h2

theorem Rel.canon (h : Rel P A0 w0 ρ s a w) (keep : List Nat) : ∃ ρ', Rel P A0 w0 ρ' (Vx.canon keep s) a w := by
  obtain ⟨ρ', hw⟩ := canon_weak h keep
  exact ⟨ρ', h.weak hw (canon_lp h.lpi keep)⟩

/-! ### A state with other contents -/
theorem capsAs_sound {A A' : Nat → Prop} (hA : ∀ n, n < w.heap.size → A' n → A n) : ∀ {l l' : List Cap} {y : (capsTy l).den} {vs : List Value}, capsAs l l' = some y → CapsRel P A w ρ l' vs → CapsRel P A' w ρ (capsFill l y) vs
  | [], [], _, vs, _, h => by cases vs with | nil => trivial | cons v vs => exact h.elim
  | [], _ :: _, _, _, h, _ => by simp [capsAs] at h
  | .val t x :: l, [], _, _, h, _ => by simp [capsAs] at h
  | .box β :: l, [], _, _, h, _ => by simp [capsAs] at h
  | .val t x :: l, .box γ :: l', _, _, h, _ => by simp [capsAs] at h
  | .box β :: l, .val u z :: l', _, _, h, _ => by simp [capsAs] at h
  | .val t x :: l, .val u z :: l', y, vs, h, hr => by
    obtain ⟨p, q, hp, hq, rfl⟩ := bindmap_some (γ := (capsTy (.val t x :: l)).den) (f := fun a b => (a, b)) h
    cases vs with
    | nil => exact hr.elim
    | cons v vs =>
      refine ⟨?_, capsAs_sound hA hq hr.2⟩
      obtain ⟨m, hm, e⟩ := hr.1
      obtain ⟨h1, h2⟩ := cast'_cells hp hm
      exact ⟨m, h1.mono (fun _ _ _ => rfl) hA, by rw [h2]; exact e⟩
  | .box β :: l, .box γ :: l', y, vs, h, hr => by
    obtain ⟨e, h'⟩ := ite_some (α := (capsTy l).den) h
    subst e
    cases vs with
    | nil => exact hr.elim
    | cons v vs => exact ⟨hr.1, capsAs_sound hA h' hr.2⟩

theorem slotsAs_sound {A A' : Nat → Prop} (hA : ∀ n, n < w.heap.size → A' n → A n) : ∀ (l l' : List SV) (y : (slotsTy l).den), slotsAs l l' = some y →
    (slotsFill l y).length = l'.length ∧ ∀ (i : Nat) (sv sv' : SV) (v : Value), l'[i]? = some sv → (slotsFill l y)[i]? = some sv' → SVRel P A w ρ sv v → SVRel P A' w ρ sv' v := by
  intro l
  induction l with
  | nil =>
    intro l' y h
    cases l' with
    | nil => exact ⟨rfl, fun i sv sv' v hi => by simp at hi⟩
    | cons x l' => simp [slotsAs] at h
  | cons x l ih =>
    intro l' y h
    have step : ∀ (x' : SV) (l'' : List SV) (z : (slotsTy l).den) (fx : SV) (fl : List SV), slotsAs l l'' = some z → fl = fx :: slotsFill l z → (∀ v, SVRel P A w ρ x' v → SVRel P A' w ρ fx v) →
        fl.length = (x' :: l'').length ∧ ∀ (i : Nat) (sv sv' : SV) (v : Value), (x' :: l'')[i]? = some sv → fl[i]? = some sv' → SVRel P A w ρ sv v → SVRel P A' w ρ sv' v := by
      intro x' l'' z fx fl hz hfl hx
      obtain ⟨h1, h2⟩ := ih l'' z hz
      subst hfl
      refine ⟨by simp [h1], fun i sv sv' v hi hi' hr => ?_⟩
      cases i with
      | zero => simp at hi hi'; subst hi; subst hi'; exact hx v hr
      | succ i => exact h2 i sv sv' v (by simpa using hi) (by simpa using hi') hr
    have mono : ∀ (sv : SV) (v : Value), SVRel P A w ρ sv v → SVRel P A' w ρ sv v := fun sv v h => h.mono (fun _ _ _ => rfl) hA
    cases l' with
    | nil => cases x <;> simp only [slotsAs, reduceCtorEq] at h
    | cons x' l'' =>
      cases x with
      | undef => exact step x' l'' y .undef _ h rfl (fun _ _ => trivial)
      | eptr β i sz off => exact step x' l'' y .undef _ h rfl (fun _ _ => trivial)
      | tup t z => exact step x' l'' y .undef _ h rfl (fun _ _ => trivial)
      | gone => exact step x' l'' y .undef _ h rfl (fun _ _ => trivial)
      | nils =>
        obtain ⟨e, h'⟩ := ite_some (α := (slotsTy l).den) h
        have e' : x' = .nils := by cases x' <;> simp [isNils] at e; rfl
        subst e'
        exact step .nils l'' y .nils _ h' rfl (fun v => mono .nils v)
      | bptr β off =>
        obtain ⟨e, h'⟩ := ite_some (α := (slotsTy l).den) h
        have e' : x' = .bptr β off := by
          cases x' <;> simp [isBptr] at e
          rw [e.1, e.2]
        subst e'
        exact step _ l'' y _ _ h' rfl (fun v => mono _ v)
      | own β =>
        obtain ⟨e, h'⟩ := ite_some (α := (slotsTy l).den) h
        have e' : x' = .own β := by
          cases x' <;> simp [isOwn] at e
          rw [e]
        subst e'
        exact step _ l'' y _ _ h' rfl (fun v => mono _ v)
      | mown β =>
        obtain ⟨e, h'⟩ := ite_some (α := (slotsTy l).den) h
        have e' : x' = .mown β := by
          cases x' <;> simp [isMown] at e
          rw [e]
        subst e'
        exact step _ l'' y _ _ h' rfl (fun v => mono _ v)
      | yld β =>
        obtain ⟨e, h'⟩ := ite_some (α := (slotsTy l).den) h
        have e' : x' = .yld β := by
          cases x' <;> simp [isYld] at e
          rw [e]
        subst e'
        exact step _ l'' y _ _ h' rfl (fun v => mono _ v)
      | mayp β d =>
        obtain ⟨e, h'⟩ := ite_some (α := (slotsTy l).den) h
        have e' : x' = .mayp β d := by
          cases x' <;> simp [isMayp] at e
          rw [e.1, e.2]
        subst e'
        exact step _ l'' y _ _ h' rfl (fun v => mono _ v)
      | clo f cs =>
        obtain ⟨p, q, hp, hq, rfl⟩ := bindmap_some (γ := (slotsTy (.clo f cs :: l)).den) (f := fun a b => (a, b)) h
        unfold asClo at hp
        split at hp
        · rename_i f' ds
          split at hp
          · rename_i e
            subst e
            refine step _ l'' q _ _ hq rfl (fun v hv => ?_)
            obtain ⟨vs, e, hr⟩ := hv
            exact ⟨vs, e, capsAs_sound hA hp hr⟩
          · cases hp
        · cases hp
      | val t z =>
        obtain ⟨p, q, hp, hq, rfl⟩ := bindmap_some (γ := (slotsTy (.val t z :: l)).den) (f := fun a b => (a, b)) h
        refine step _ l'' q (.val t p) _ hq rfl (fun v hv => ?_)
        unfold asVal at hp
        split at hp
        · obtain ⟨m, hm, e⟩ := hv
          obtain ⟨h1, h2⟩ := conv_cells hp hm
          exact ⟨m, h1.mono (fun _ _ _ => rfl) hA, by rw [wrap_agg h2]; exact e⟩
        · simp only [SVRel] at hv
          subst hv
          split at hp
          · cases hp; exact ⟨_, nil_slice _, rfl⟩
          · cases hp; exact ⟨_, nil_nslice _, rfl⟩
          · cases hp
        · cases hp

theorem chunksAs_sound {A A' : Nat → Prop} {I : List LpInfo} (hA : ∀ n, n < w.heap.size → A' n → A n) : ∀ (l l' : List (Option Chunk)) (y : (chunksTy l).den), chunksAs l l' = some y →
    (∀ (β : Nat) (ch : Chunk) (q : Nat × LpInfo), l[β]? = some (some ch) → ch.lpNo = some q → I[q.1]? = some q.2) → (∀ (β : Nat) (ch : Chunk) (q : Nat × LpInfo), l'[β]? = some (some ch) → ch.lpNo = some q → I[q.1]? = some q.2) →
    ∀ (i : Nat) (ch' : Chunk), (chunksFill l y)[i]? = some (some ch') → ∃ ch, l'[i]? = some (some ch) ∧ ∀ p, ChunkRel P A w ρ p ch → ChunkRel P A' w ρ p ch' := by
  intro l
  induction l with
  | nil => intro l' y h hI hI' i ch' hi; simp [chunksFill] at hi
  | cons x l ih =>
    intro l' y h hI hI' i ch' hi
    cases l' with
    | nil => cases x with | none => cases h | some c => cases c <;> cases h
    | cons x' l'' =>
    have ih := fun (l' : List (Option Chunk)) (y : (chunksTy l).den) (h : chunksAs l l' = some y) (e : l' = l'') => ih l' y h (fun β ch q hb => hI (β + 1) ch q (by simpa using hb)) (by subst e; exact fun β ch q hb => hI' (β + 1) ch q (by simpa using hb))
    cases x with
    | none =>
      cases i with
      | zero => simp [chunksFill] at hi
      | succ i => exact ih l'' y h rfl i ch' hi
    | some c =>
      cases c with
      | box t cells =>
        obtain ⟨p, hp, h2⟩ := Option.bind_eq_some_iff.1 (show ((asBox t cells x').bind fun y => (chunksAs l l'').map fun z => (y, z)) = some y from h)
        obtain ⟨q, hq, rfl⟩ := Option.map_eq_some_iff.1 h2
        cases i with
        | succ i => exact ih l'' q hq rfl i ch' hi
        | zero =>
          have hi' : some (Chunk.box t (slotsFill cells p)) = some ch' := by simpa [chunksFill] using hi
          cases hi'
          unfold asBox at hp
          split at hp
          · rename_i u cells'
            obtain ⟨rfl, hp2⟩ := ite_some hp
            refine ⟨_, rfl, fun pl hr => ?_⟩
            obtain ⟨b, vs, e, hb, h3, h4, h5⟩ := hr
            obtain ⟨h6, h7⟩ := slotsAs_sound (P := P) (ρ := ρ) (A := A) (A' := A') hA cells cells' p hp2
            refine ⟨b, vs, e, hb, h3, by rw [h6]; exact h4, fun j sv hj => ?_⟩
            have hlt : j < cells'.length := h6 ▸ (List.getElem?_eq_some_iff.1 hj).1
            obtain ⟨v, h8, h9⟩ := h5 j _ (List.getElem?_eq_getElem hlt)
            exact ⟨v, h8, h7 j _ sv v (List.getElem?_eq_getElem hlt) hj h9⟩
          · cases hp
      | arr e t xs nn =>
        obtain ⟨p, hp, h2⟩ := Option.bind_eq_some_iff.1 (show ((asArr e t nn x').bind fun y => (chunksAs l l'').map fun z => (y, z)) = some y from h)
        obtain ⟨q, hq, rfl⟩ := Option.map_eq_some_iff.1 h2
        cases i with
        | succ i => exact ih l'' q hq rfl i ch' hi
        | zero =>
          have hi' : some (Chunk.arr e t p nn) = some ch' := by simpa [chunksFill] using hi
          cases hi'
          unfold asArr at hp
          split at hp
          · rename_i e' u xs' nn'
            obtain ⟨⟨rfl, hnn⟩, hp2⟩ := ite_some hp
            refine ⟨_, rfl, fun pl hr => ?_⟩
            obtain ⟨e2, he2⟩ := cast'_eq hp2
            cases e2
            simp only at he2
            subst he2
            have hr' := hr.keep (w' := w) (A' := A') (fun _ _ => rfl) hA
            obtain ⟨h1, h2, h3⟩ := hr'
            exact ⟨h1, fun hn => h2 (hnn hn), h3⟩
          · cases hp
      | mp k v es =>
        obtain ⟨p, hp, h2⟩ := Option.bind_eq_some_iff.1 (show ((asMp k v x').bind fun y => (chunksAs l l'').map fun z => (y, z)) = some y from h)
        obtain ⟨q, hq, rfl⟩ := Option.map_eq_some_iff.1 h2
        cases i with
        | succ i => exact ih l'' q hq rfl i ch' hi
        | zero =>
          have hi' : some (Chunk.mp k v p) = some ch' := by simpa [chunksFill] using hi
          cases hi'
          unfold asMp at hp
          split at hp
          · rename_i k' v' es'
            refine ⟨_, rfl, fun pl hr => ?_⟩
            obtain ⟨e2, he2⟩ := cast'_eq hp
            cases e2
            simp only at he2
            subst he2
            exact hr.keep (w' := w) (A' := A') (fun _ _ => rfl) hA
          · cases hp
      | it bs q =>
        obtain ⟨p, hp, h2⟩ := Option.bind_eq_some_iff.1 (show ((asIt x').bind fun y => (chunksAs l l'').map fun z => (y, z)) = some y from h)
        obtain ⟨q, hq, rfl⟩ := Option.map_eq_some_iff.1 h2
        cases i with
        | succ i => exact ih l'' q hq rfl i ch' hi
        | zero =>
          have hi' : some (Chunk.it p.1 p.2) = some ch' := by simpa [chunksFill] using hi
          cases hi'
          unfold asIt at hp
          split at hp
          · cases hp
            exact ⟨_, rfl, fun pl hr => hr.keep (w' := w) (A' := A') (fun _ _ => rfl) hA⟩
          · cases hp
      | lp j info cells st =>
        obtain ⟨p, hp, h2⟩ := Option.bind_eq_some_iff.1 (show ((asLp j cells st x').bind fun y => (chunksAs l l'').map fun z => (y, z)) = some y from h)
        obtain ⟨q, hq, rfl⟩ := Option.map_eq_some_iff.1 h2
        cases i with
        | succ i => exact ih l'' q hq rfl i ch' hi
        | zero =>
          have hi' : some (Chunk.lp j info (slotsFill cells p) st) = some ch' := by simpa [chunksFill] using hi
          cases hi'
          unfold asLp at hp
          split at hp
          · rename_i j' info' cells' st'
            obtain ⟨⟨rfl, rfl⟩, hp2⟩ := ite_some hp
            have e1 := hI 0 _ (j, info) rfl rfl
            have e2 := hI' 0 _ (j, info') rfl rfl
            simp only at e1 e2
            rw [e1] at e2
            cases e2
            refine ⟨_, rfl, fun pl hr => ?_⟩
            obtain ⟨b, r, hb, h3, h4, h5, h6⟩ := hr
            obtain ⟨h7, h8⟩ := slotsAs_sound (P := P) (ρ := ρ) (A := A) (A' := A') hA cells cells' p hp2
            refine ⟨b, r, hb, h3, h4, by rw [h7]; exact h5, fun j sv hj => ?_⟩
            have hlt : j < cells'.length := h7 ▸ (List.getElem?_eq_some_iff.1 hj).1
            obtain ⟨v, h9, h10⟩ := h6 j _ (List.getElem?_eq_getElem hlt)
            exact ⟨v, h9, h8 j _ sv v (List.getElem?_eq_getElem hlt) hj h10⟩
          · cases hp

structure St.Ok (s : St) : Prop where
  names : ∀ (i : Nat) (sv : SV), s.slots[i]? = some sv → sv.inn s.chunks.length
  cnames : ∀ (β : Nat) (ch : Chunk), s.chunks[β]? = some (some ch) → ch.inn s.chunks.length
  knames : ∀ (i : Nat) (sv : SV), s.kept[i]? = some sv → sv.inn s.chunks.length

theorem Rel.ok (h : Rel P A0 w0 ρ s a w) : s.Ok := ⟨h.names, h.cnames, h.knames⟩

theorem capsFill_in {n : Nat} : ∀ {l : List Cap} (y : (capsTy l).den), CapsIn n l → CapsIn n (capsFill l y)
  | [], _, _ => trivial
  | .val t x :: l, y, h => capsFill_in (l := l) y.2 h
  | .box β :: l, y, h => ⟨h.1, capsFill_in (l := l) y h.2⟩

theorem slotsFill_in {n : Nat} : ∀ {l : List SV} (y : (slotsTy l).den), (∀ sv ∈ l, sv.inn n) → ∀ sv ∈ slotsFill l y, sv.inn n
  | [], _, _ => fun sv h => by simp [slotsFill] at h
  | x :: l, y, hl => by
    have ih : ∀ z, ∀ sv ∈ slotsFill l z, sv.inn n := fun z => slotsFill_in (l := l) z (fun sv hs => hl sv (List.mem_cons_of_mem _ hs))
    have h0 := hl x (List.mem_cons_self ..)
    intro sv hs
    cases x <;> rcases List.mem_cons.1 hs with rfl | hs <;> first | exact ih _ sv hs | trivial | exact h0 | exact capsFill_in _ h0

theorem chunksFill_length : ∀ (l : List (Option Chunk)) (y : (chunksTy l).den), (chunksFill l y).length = l.length
  | [], _ => rfl
  | some (.box _ _) :: l, y => congrArg (· + 1) (chunksFill_length l y.2)
  | some (.arr _ _ _ _) :: l, y => congrArg (· + 1) (chunksFill_length l y.2)
  | some (.mp _ _ _) :: l, y => congrArg (· + 1) (chunksFill_length l y.2)
  | some (.it _ _) :: l, y => congrArg (· + 1) (chunksFill_length l y.2)
  | some (.lp _ _ _ _) :: l, y => congrArg (· + 1) (chunksFill_length l y.2)
  | none :: l, y => congrArg (· + 1) (chunksFill_length l y)

theorem chunksFill_in {n : Nat} : ∀ {l : List (Option Chunk)} (y : (chunksTy l).den), (∀ ch, some ch ∈ l → ch.inn n) → ∀ ch, some ch ∈ chunksFill l y → ch.inn n
  | [], _, _ => fun sv h => by simp [chunksFill] at h
  | x :: l, y, hl => by
    have ih : ∀ z, ∀ ch, some ch ∈ chunksFill l z → ch.inn n := fun z => chunksFill_in (l := l) z (fun sv hs => hl sv (List.mem_cons_of_mem _ hs))
    intro ch hs
    rcases x with _ | (⟨t, cells⟩ | ⟨e, t, xs, nn⟩ | ⟨k, v, es⟩ | ⟨bs, q⟩ | ⟨i, info, cells, st⟩)
    · rcases List.mem_cons.1 hs with hc | hs
      · cases hc
      · exact ih y ch hs
    · rcases List.mem_cons.1 hs with hc | hs
      · cases hc
        exact slotsFill_in _ (hl _ (List.mem_cons_self ..))
      · exact ih _ ch hs
    · rcases List.mem_cons.1 hs with hc | hs
      · cases hc
        trivial
      · exact ih _ ch hs
    · rcases List.mem_cons.1 hs with hc | hs
      · cases hc
        trivial
      · exact ih _ ch hs
    · rcases List.mem_cons.1 hs with hc | hs
      · cases hc
        trivial
      · exact ih _ ch hs
    · rcases List.mem_cons.1 hs with hc | hs
      · cases hc
        exact slotsFill_in _ (hl _ (List.mem_cons_self ..))
      · exact ih _ ch hs

theorem chunksFill_lp {I : List LpInfo} : ∀ {l : List (Option Chunk)} (y : (chunksTy l).den), (∀ (β : Nat) (ch : Chunk) (q : Nat × LpInfo), l[β]? = some (some ch) → ch.lpNo = some q → I[q.1]? = some q.2) →
    ∀ (β : Nat) (ch : Chunk) (q : Nat × LpInfo), (chunksFill l y)[β]? = some (some ch) → ch.lpNo = some q → I[q.1]? = some q.2
  | [], _, _ => fun β ch q hb => by simp [chunksFill] at hb
  | x :: l, y, hI => by
    have ih : ∀ (z : (chunksTy l).den) (β : Nat) (ch : Chunk) (q : Nat × LpInfo), (chunksFill l z)[β]? = some (some ch) → ch.lpNo = some q → I[q.1]? = some q.2 :=
      fun z => chunksFill_lp (l := l) z (fun β ch q hb => hI (β + 1) ch q (by simpa using hb))
    intro β ch q hb hq
    rcases x with _ | (⟨t, cells⟩ | ⟨e, t, xs, nn⟩ | ⟨k, v, es⟩ | ⟨bs, q0⟩ | ⟨i, info, cells, st⟩) <;> (cases β with
      | zero => (first | (simp [chunksFill] at hb; done) | (simp [chunksFill] at hb; subst hb; first | (cases hq; done) | exact hI 0 _ q rfl hq))
      | succ β => exact ih _ β ch q (by simpa [chunksFill] using hb) hq)

theorem stFill_lp {I : List LpInfo} (h : LpI I s) (y : (stTy s).den) : LpI I (stFill s y) := chunksFill_lp (l := s.chunks) y.2.1 h

theorem stFill_ok (h : s.Ok) (y : (stTy s).den) : (stFill s y).Ok := by
  have h1 : (stFill s y).chunks.length = s.chunks.length := chunksFill_length _ _
  refine ⟨fun i sv hi => ?_, fun β ch hb => ?_, fun i sv hi => ?_⟩
  · rw [h1]
    refine slotsFill_in (l := s.slots) y.1 (fun sv hs => ?_) sv (List.mem_of_getElem? hi)
    obtain ⟨j, hj⟩ := List.getElem?_of_mem hs
    exact h.names j sv hj
  · rw [h1]
    refine chunksFill_in (l := s.chunks) y.2.1 (fun c hs => ?_) ch (List.mem_of_getElem? hb)
    obtain ⟨j, hj⟩ := List.getElem?_of_mem hs
    exact h.cnames j c hj
  · rw [h1]
    refine slotsFill_in (l := s.kept) y.2.2 (fun sv hs => ?_) sv (List.mem_of_getElem? hi)
    obtain ⟨j, hj⟩ := List.getElem?_of_mem hs
    exact h.knames j sv hj

theorem slotsFill_length : ∀ (l : List SV) (y : (slotsTy l).den), (slotsFill l y).length = l.length
  | [], _ => rfl
  | x :: l, y => by cases x <;> exact congrArg (· + 1) (slotsFill_length l _)

theorem fill_weak {s' : St} (h : Rel P A0 w0 ρ s' a w) (hs : s.Ok) (hI : LpI w0.infos s) (hd : s.dep = s'.dep ∧ s.rnd = s'.rnd) {y : (stTy s).den} (hy : stAs s s' = some y) : Weak P A0 w ρ ρ s' (stFill s y) := by
  have hnm : ¬ (s.nmk = 0 ∧ s'.nmk ≠ 0) := by
    intro hc
    unfold stAs at hy
    rw [if_pos hc] at hy
    cases hy
  unfold stAs at hy
  rw [if_neg hnm] at hy
  obtain ⟨p, hp, hy2⟩ := Option.bind_eq_some_iff.1 (show ((slotsAs s.slots s'.slots).bind fun y => (chunksAs s.chunks s'.chunks).bind fun z => (slotsAs s.kept s'.kept).map fun u => (y, z, u)) = some y from hy)
  obtain ⟨q, hq, hy3⟩ := Option.bind_eq_some_iff.1 hy2
  obtain ⟨u, hu, rfl⟩ := Option.map_eq_some_iff.1 hy3
  have hok := stFill_ok hs (p, q, u)
  have hch : ∀ (A A' : Nat → Prop), (∀ n, n < w.heap.size → A' n → A n) → ∀ (i : Nat) (ch' : Chunk), (chunksFill s.chunks q)[i]? = some (some ch') → ∃ ch, s'.chunks[i]? = some (some ch) ∧ ∀ p, ChunkRel P A w ρ p ch → ChunkRel P A' w ρ p ch' :=
    fun A A' hA => chunksAs_sound hA s.chunks s'.chunks q hq hI h.lpi
  have hsub : ∀ (i : Nat) (ch' : Chunk), (chunksFill s.chunks q)[i]? = some (some ch') → ∃ ch, s'.chunks[i]? = some (some ch) := by
    intro i ch' hi
    obtain ⟨ch, h1, _⟩ := hch (fun _ => True) (fun _ => True) (fun _ _ h => h) i ch' hi
    exact ⟨ch, h1⟩
  have hA : ∀ n, n < w.heap.size → Av A0 ρ (chunksFill s.chunks q) n → Av A0 ρ s'.chunks n := by
    rintro n hn (h0 | ⟨i, c, hc, hb⟩)
    · exact .inl h0
    · obtain ⟨ch, h1⟩ := hsub i c hc
      exact .inr ⟨i, ch, h1, hb⟩
  have hsl := fun (A A' : Nat → Prop) (hA : ∀ n, n < w.heap.size → A' n → A n) => slotsAs_sound (P := P) (ρ := ρ) hA s.slots s'.slots p hp
  have hkl := fun (A A' : Nat → Prop) (hA : ∀ n, n < w.heap.size → A' n → A n) => slotsAs_sound (P := P) (ρ := ρ) hA s.kept s'.kept u hu
  refine ⟨(hsl _ _ hA).1, fun i sv sv' v h1 h2 h3 => (hsl _ _ hA).2 i sv sv' v h1 h2 h3, fun i ch' hi => ?_, fun i j c d hi hj hij hne => ?_, hok.names, hok.cnames, (hkl _ _ hA).1, fun i sv sv' v h1 h2 h3 => (hkl _ _ hA).2 i sv sv' v h1 h2 h3, hok.knames, hd.1, fun h0 => Classical.byContradiction fun hn => hnm ⟨h0, hn⟩, hd.2⟩
  · obtain ⟨ch, h1, h2⟩ := hch _ _ hA i ch' hi
    exact ⟨i, ch, h1, rfl, h2 _⟩
  · obtain ⟨c', h1⟩ := hsub i c hi
    obtain ⟨d', h2⟩ := hsub j d hj
    exact h.inj i j c' d' h1 h2 hij hne

theorem cast'_self (t : Ty) (x : t.den) : cast' t t x = some x := by simp [cast']

theorem conv_self (t : Ty) (x : t.den) : conv t t x = some x := by
  cases t <;> exact cast'_self _ x

theorem capsAs_self : ∀ l : List Cap, capsAs l l = some (capsX l)
  | [] => rfl
  | .val t x :: l => by
    show ((cast' t t x).bind fun y => (capsAs l l).map fun z => (y, z)) = _
    rw [cast'_self, capsAs_self l]; rfl
  | .box β :: l => by
    show (if β = β then capsAs l l else none) = some (capsX l)
    rw [if_pos rfl, capsAs_self l]

theorem slotsAs_self : ∀ l : List SV, slotsAs l l = some (slotsX l)
  | [] => rfl
  | .val t x :: l => by
    show ((conv t t x).bind fun y => (slotsAs l l).map fun z => (y, z)) = _
    rw [conv_self, slotsAs_self l]; rfl
  | .clo f cs :: l => by
    show ((if f = f then capsAs cs cs else none).bind fun y => (slotsAs l l).map fun z => (y, z)) = _
    rw [if_pos rfl, capsAs_self, slotsAs_self l]; rfl
  | .undef :: l | .eptr _ _ _ _ :: l | .tup _ _ :: l | .gone :: l => slotsAs_self l
  | .nils :: l => slotsAs_self l
  | .bptr β o :: l => by
    show (if (decide (β = β) && decide (o = o)) = true then slotsAs l l else none) = some (slotsX l)
    rw [if_pos (by simp), slotsAs_self l]
  | .own β :: l => by
    show (if (decide (β = β)) = true then slotsAs l l else none) = some (slotsX l)
    rw [if_pos (by simp), slotsAs_self l]
  | .mown β :: l => by
    show (if (decide (β = β)) = true then slotsAs l l else none) = some (slotsX l)
    rw [if_pos (by simp), slotsAs_self l]
  | .yld β :: l => by
    show (if (decide (β = β)) = true then slotsAs l l else none) = some (slotsX l)
    rw [if_pos (by simp), slotsAs_self l]
  | .mayp β e :: l => by
    show (if (decide (β = β) && decide (e = e)) = true then slotsAs l l else none) = some (slotsX l)
    rw [if_pos (by simp), slotsAs_self l]

theorem chunksAs_self : ∀ l : List (Option Chunk), chunksAs l l = some (chunksX l)
  | [] => rfl
  | some (.box t cells) :: l => by
    show ((if t = t then slotsAs cells cells else none).bind fun y => (chunksAs l l).map fun z => (y, z)) = _
    rw [if_pos rfl, slotsAs_self, chunksAs_self l]; rfl
  | some (.arr e t xs nn) :: l => by
    show ((if e = e ∧ (nn = true → nn = true) then cast' (.slice t) (.slice t) xs else none).bind fun y => (chunksAs l l).map fun z => (y, z)) = _
    rw [if_pos ⟨rfl, fun h => h⟩, cast'_self, chunksAs_self l]; rfl
  | some (.mp k v es) :: l => by
    show ((cast' (.map k v) (.map k v) es).bind fun y => (chunksAs l l).map fun z => (y, z)) = _
    rw [cast'_self, chunksAs_self l]; rfl
  | some (.it bs q) :: l => by
    show ((some (bs, q)).bind fun y => (chunksAs l l).map fun z => (y, z)) = _
    rw [chunksAs_self l]; rfl
  | some (.lp i info cells st) :: l => by
    show ((if i = i ∧ st = st then slotsAs cells cells else none).bind fun y => (chunksAs l l).map fun z => (y, z)) = _
    rw [if_pos ⟨rfl, rfl⟩, slotsAs_self, chunksAs_self l]; rfl
  | none :: l => chunksAs_self l

theorem stAs_self (s : St) : stAs s s = some (stX s) := by
  unfold stAs
  rw [if_neg (fun h => h.2 h.1), slotsAs_self, chunksAs_self, slotsAs_self]; rfl

theorem headS_weak (h : Rel P A0 w0 ρ s a w) (c : Code) (keep : List Nat) : ∃ ρ', Rel P A0 w0 ρ' (headS c keep s) a w := by
  obtain ⟨ρ', h1⟩ := h.canon keep
  refine ⟨ρ', h1.size, h1.slots, h1.chunks, h1.inj, h1.names, h1.cnames, h1.below, h1.dom, ?_, h1.dep, h1.lpi, h1.round, h1.glob, h1.ksize, h1.kslots, h1.knames⟩
  obtain ⟨ms, ⟨q1, q2, q3⟩, q4⟩ := h1.defers
  refine ⟨ms, ⟨q1, fun h0 => ?_, q3⟩, q4⟩
  unfold headS at h0
  dsimp only at h0
  split at h0
  · cases h0
  · exact q2 h0

theorem canon_ok (h : Rel P A0 w0 ρ s a w) (keep : List Nat) : (canon keep s).Ok := by
  obtain ⟨ρ', h1⟩ := canon_weak h keep
  exact ⟨h1.names, h1.cnames, h1.knames⟩
end
end Go.Vx
