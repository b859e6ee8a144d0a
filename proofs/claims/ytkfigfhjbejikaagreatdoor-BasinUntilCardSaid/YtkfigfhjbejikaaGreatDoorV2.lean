/- V2: the executor's states (slots and blocks of its own), how a state stands for a frame and a world (Rel), and the steps that keep it. -/
import Derived.Test.YtkfigfhjbejikaaGreatDoorV1
set_option linter.all false
namespace Go.Vx
open Go.RowKit
variable [GT]

/-- What a closure has captured: a box of its maker's, or a value. -/
inductive Cap where
  | box (β : Nat)
  | val (t : Ty) (x : t.den)

/-- A range over a function: its body, and what the executor wants to know of it. -/
structure LpInfo where
  ps : Array Tmp
  assign : Code
  body : Code
  keep : List (List Nat)
  muts : List Nat
  fz : List Nat

inductive Jump where
  | exit (id : Nat)
  | ret
  deriving DecidableEq

inductive LpSt where
  | ready
  | busy
  | done (j : Jump)
  | over
  deriving DecidableEq

def Jump.code : Jump → Code
  | .exit id => .exit id
  | .ret => .ret

def LpSt.state : LpSt → LoopState
  | .ready => .ready
  | .busy => .busy
  | .done _ => .done
  | .over => .exhausted

def LpSt.pending : LpSt → Option Code
  | .done j => some j.code
  | _ => none

def LpOK (info : LpInfo) (st : LpSt) (r : Loop) : Prop := r.params = info.ps ∧ r.assign = info.assign ∧ r.body = info.body ∧ r.state = st.state ∧ (st = .over ∨ r.pending = st.pending)

/-- What a slot holds. -/
inductive SV where
  | undef
  | val (t : Ty) (x : t.den)
  | bptr (β off : Nat)
  | own (β : Nat)
  | eptr (β i sz off : Nat)
  | clo (f : FuncId) (caps : List Cap)
  | tup (t : Ty) (x : t.den)
  | nils
  | mown (β : Nat)
  | yld (β : Nat)
  | mayp (β e : Nat)
  | gone

/-- A block of the function's own. -/
inductive Chunk where
  | box (t : Ty) (cells : List SV)
  | arr (e : TypeId) (t : Ty) (xs : List t.den) (nn : Bool)
  | mp (k v : Ty) (es : List (k.den × v.den))
  | it (bs : List UInt8) (q : Int)
  | lp (i : Nat) (info : LpInfo) (cells : List SV) (st : LpSt)

/-- The frames above wait: their slots are kept. -/
structure St where
  slots : List SV
  chunks : List (Option Chunk)
  kept : List SV := []
  dep : Nat := 0
  nmk : Nat := 0
  rnd : Bool := false

/-- Where the walk began: the world, and the values that the waiting frames' slots hold. -/
structure Base where
  w : World
  ext : List Value
  infos : List LpInfo := []
  ro : Option Nat := none
  marks : List Nat := []
  rounds : List Nat := []

def St.get (s : St) (i : Nat) : SV := s.slots.getD i .undef
def St.put (s : St) (d : Option Nat) (x : SV) : St := match d with | some i => { s with slots := s.slots.set i x } | none => s

/-- Where a block of its own lies: its number, and of a slice its length and its capacity. -/
structure Place where
  blk : Option Nat
  len : Nat
  cap : Nat

abbrev Places := Nat → Place

def Av (A0 : Nat → Prop) (ρ : Places) (cs : List (Option Chunk)) : Nat → Prop :=
  fun n => A0 n ∨ ∃ β ch, cs[β]? = some (some ch) ∧ (ρ β).blk = some n

def CapRel (P : Program) (A : Nat → Prop) (w : World) (ρ : Places) : Cap → Value → Prop
  | .box β, v => ∃ b, (ρ β).blk = some b ∧ v = .pointer (some ⟨b, 0, none⟩)
  | .val t x, v => ∃ l, Cells P t A w x l ∧ v = t.wrap l

def CapsRel (P : Program) (A : Nat → Prop) (w : World) (ρ : Places) : List Cap → List Value → Prop
  | [], [] => True
  | c :: cs, v :: vs => CapRel P A w ρ c v ∧ CapsRel P A w ρ cs vs
  | _, _ => False

def SVRel (P : Program) (A : Nat → Prop) (w : World) (ρ : Places) : SV → Value → Prop
  | .undef, _ => True
  | .val t x, v => ∃ l, Cells P t A w x l ∧ v = t.wrap l
  | .bptr β off, v => ∃ b, (ρ β).blk = some b ∧ v = .pointer (some ⟨b, off, none⟩)
  | .own β, v => v = .slice ((ρ β).blk.map fun b => ⟨b, 0, none⟩) (ρ β).len (ρ β).cap
  | .eptr β i sz off, v => ∃ b, (ρ β).blk = some b ∧ v = .pointer (some ⟨b, i * sz + off, none⟩)
  | .clo f caps, v => ∃ vs, v = .func (.func f) #[] vs.toArray ∧ CapsRel P A w ρ caps vs
  | .tup t x, v => ∃ l, Cells P t A w x l ∧ v = .tuple (t.group l).toArray
  | .nils, v => v = .slice none 0 0
  | .gone, v => v = undef
  | .mown β, v => v = .map (ρ β).blk
  | .yld β, v => ∃ b, (ρ β).blk = some b ∧ v = .func (.yield b) #[] #[]
  | .mayp β e, v => (ρ β).len = e ∧ ∃ b, (ρ β).blk = some b ∧ (v = .pointer none ∨ v = .pointer (some ⟨b, 0, none⟩))

def ChunkRel (P : Program) (A : Nat → Prop) (w : World) (ρ : Places) (p : Place) : Chunk → Prop
  | .box _ cells => ∃ (b : Nat) (vs : Array Value) (e : TypeId), p.blk = some b ∧ w.heap[b]? = some (.cells vs e (0, 0)) ∧ (vs.size = cells.length ∧ p.len = e) ∧ ∀ (i : Nat) (sv : SV), cells[i]? = some sv → ∃ v, vs[i]? = some v ∧ SVRel P A w ρ sv v
  | .arr e t xs nn => xs.length = p.len ∧ (nn = true → p.blk ≠ none) ∧ ((p.blk = none ∧ p.len = 0 ∧ p.cap = 0) ∨ ∃ (b : Nat) (vs : Array Value), p.blk = some b ∧ w.heap[b]? = some (.cells vs e (0, 0)) ∧ p.len ≤ p.cap ∧ p.cap ≤ maxLen ∧ vs.size = p.cap * t.size ∧
      ∀ (i : Nat) (x : t.den), xs[i]? = some x → Cells P t A w x ((vs.toList.drop (i * t.size)).take t.size))
  | .mp k v es => ∃ (b : Nat) (ms : Array MapEntry) (clock : Nat), p.blk = some b ∧ w.heap[b]? = some (.map ms clock) ∧ ms.size = es.length ∧
      ∀ (i : Nat) (x : k.den × v.den), es[i]? = some x → ∃ (e : MapEntry) (lv : List Value), ms[i]? = some e ∧ Cells P k A w x.1 [e.key] ∧ Cells P v A w x.2 lv ∧ e.val = v.wrap lv
  | .it bs q => ∃ b n : Nat, p.blk = some b ∧ w.heap[b]? = some (.stringIter ⟨bs.toArray⟩ n) ∧ q = (n : Int)
  | .lp _ info cells st => ∃ (b : Nat) (r : Loop), p.blk = some b ∧ w.heap[b]? = some (.loop r) ∧ LpOK info st r ∧ r.tmps.size = cells.length ∧ ∀ (i : Nat) (sv : SV), cells[i]? = some sv → ∃ v, r.tmps[i]? = some v ∧ SVRel P A w ρ sv v

/-! The names of blocks in a state: those below the length of its list of chunks are in use; a new one is the next. -/
def CapsIn (n : Nat) : List Cap → Prop
  | [] => True
  | .box β :: cs => β < n ∧ CapsIn n cs
  | .val _ _ :: cs => CapsIn n cs

def SV.inn (n : Nat) : SV → Prop
  | .bptr β _ | .own β | .eptr β _ _ _ | .mown β | .yld β | .mayp β _ => β < n
  | .clo _ caps => CapsIn n caps
  | _ => True

def Chunk.inn (n : Nat) : Chunk → Prop
  | .box _ cells => ∀ sv ∈ cells, sv.inn n
  | .lp _ _ cells _ => ∀ sv ∈ cells, sv.inn n
  | .arr _ _ _ _ | .mp _ _ _ | .it _ _ => True

/-- A range loop's number and its body. -/
def Chunk.lpNo : Chunk → Option (Nat × LpInfo)
  | .lp i info _ _ => some (i, info)
  | _ => none

/-- The marks that ranges over functions leave among the deferred calls. -/
def markD (r : Nat) : Deferred := { target := .collected r, args := #[] }

structure Rel (P : Program) (A0 : Nat → Prop) (w0 : Base) (ρ : Places) (s : St) (a : Act) (w : World) : Prop where
  size : s.slots.length = a.tmps.size
  slots : ∀ (i : Nat) (sv : SV), s.slots[i]? = some sv → SVRel P (Av A0 ρ s.chunks) w ρ sv (a.tmps.getD i undef)
  chunks : ∀ (β : Nat) (ch : Chunk), s.chunks[β]? = some (some ch) → ChunkRel P (Av A0 ρ s.chunks) w ρ (ρ β) ch ∧ ∀ b, (ρ β).blk = some b → w0.w.heap.size ≤ b
  inj : ∀ (β γ : Nat) (c d : Chunk), s.chunks[β]? = some (some c) → s.chunks[γ]? = some (some d) → (ρ β).blk = (ρ γ).blk → (ρ β).blk ≠ none → β = γ
  names : ∀ (i : Nat) (sv : SV), s.slots[i]? = some sv → sv.inn s.chunks.length
  cnames : ∀ (β : Nat) (ch : Chunk), s.chunks[β]? = some (some ch) → ch.inn s.chunks.length
  below : Below w0.w.heap.size w0.w w
  dom : ∀ n, A0 n → n < w0.w.heap.size
  defers : ∃ ms : List Nat, (a.defers = ms.map markD ∧ (s.nmk = 0 → ms = []) ∧ (ms ++ w0.marks).Nodup) ∧ ∀ r, r ∈ ms ∨ r ∈ w0.marks → w.heap[r]? = some (.deferred (some [])) ∧ w0.w.heap.size ≤ r
  dep : s.dep = w0.infos.length ∧ s.rnd = w0.ro.isSome
  lpi : ∀ (β : Nat) (ch : Chunk) (q : Nat × LpInfo), s.chunks[β]? = some (some ch) → ch.lpNo = some q → w0.infos[q.1]? = some q.2
  round : ∀ l, w0.ro = some l ∨ l ∈ w0.rounds → ∃ r : Loop, w.heap[l]? = some (.loop r)
  glob : GlobOK A0 w0.w
  ksize : s.kept.length = w0.ext.length
  kslots : ∀ (i : Nat) (sv : SV), s.kept[i]? = some sv → SVRel P (Av A0 ρ s.chunks) w ρ sv (w0.ext.getD i undef)
  knames : ∀ (i : Nat) (sv : SV), s.kept[i]? = some sv → sv.inn s.chunks.length

section
variable {P : Program} {A0 : Nat → Prop} {w0 : Base} {ρ : Places} {s : St} {a : Act} {w w' : World}

theorem CapsRel.mono {A A' : Nat → Prop} : ∀ {cs : List Cap} {vs : List Value}, CapsRel P A w ρ cs vs → Keep A w w' → (∀ n, n < w.heap.size → A' n → A n) → CapsRel P A' w' ρ cs vs
  | [], [], _, _, _ => trivial
  | [], _ :: _, h, _, _ => h
  | _ :: _, [], h, _, _ => h
  | c :: cs, v :: vs, h, hk, hA => by
    refine ⟨?_, CapsRel.mono h.2 hk hA⟩
    have h1 := h.1
    cases c with
    | box β => exact h1
    | val t x => obtain ⟨l, hl, e⟩ := h1; exact ⟨l, hl.mono hk hA, e⟩

theorem SVRel.mono {A A' : Nat → Prop} {sv : SV} {v : Value} (h : SVRel P A w ρ sv v) (hk : Keep A w w') (hA : ∀ n, n < w.heap.size → A' n → A n) : SVRel P A' w' ρ sv v := by
  cases sv with
  | val t x => obtain ⟨l, hl, e⟩ := h; exact ⟨l, hl.mono hk hA, e⟩
  | tup t x => obtain ⟨l, hl, e⟩ := h; exact ⟨l, hl.mono hk hA, e⟩
  | clo f caps => obtain ⟨vs, e, hc⟩ := h; exact ⟨vs, e, hc.mono hk hA⟩
  | _ => exact h

theorem Rel.get (h : Rel P A0 w0 ρ s a w) (i : Nat) : SVRel P (Av A0 ρ s.chunks) w ρ (s.get i) (a.eval (.tmp i)) := by
  unfold St.get Act.eval
  rcases hi : s.slots[i]? with _ | sv
  · simp [List.getD, hi, SVRel]
  · have := h.slots i sv hi
    simpa [List.getD, hi] using this

theorem Rel.put (h : Rel P A0 w0 ρ s a w) {sv : SV} {v : Value} (d : Option Nat) (hn : sv.inn s.chunks.length) (hv : SVRel P (Av A0 ρ s.chunks) w ρ sv v) : Rel P A0 w0 ρ (s.put d sv) (a.put d v) w := by
  cases d with
  | none => exact h
  | some d =>
    refine ⟨by simp [St.put, Act.put, h.size], fun i x hi => ?_, h.chunks, h.inj, fun i x hi => ?_, h.cnames, h.below, h.dom, h.defers, h.dep, h.lpi, h.round, h.glob, h.ksize, h.kslots, h.knames⟩
    case refine_2 =>
      simp only [St.put] at hi
      by_cases hd : d = i
      · subst hd
        rcases Nat.lt_or_ge d s.slots.length with hl | hl
        · rw [List.getElem?_set_self hl] at hi; cases hi; exact hn
        · rw [List.getElem?_eq_none (by simpa using hl)] at hi; cases hi
      · rw [List.getElem?_set_ne hd] at hi; exact h.names i x hi
    simp only [St.put, Act.put] at hi ⊢
    by_cases hd : d = i
    · subst hd
      have hlt : d < s.slots.length := by
        rcases Nat.lt_or_ge d s.slots.length with h | h
        · exact h
        · rw [List.getElem?_eq_none (by simpa using h)] at hi; cases hi
      rw [List.getElem?_set_self hlt] at hi
      cases hi
      have : d < a.tmps.size := h.size ▸ hlt
      simpa [Array.getD_eq_getD_getElem?, Array.getElem?_setIfInBounds, this] using hv
    · rw [List.getElem?_set_ne hd] at hi
      have := h.slots i x hi
      simpa [Array.getD_eq_getD_getElem?, Array.getElem?_setIfInBounds_ne hd] using this

/-- The world goes on, and every block that was there is as it was. -/
theorem ChunkRel.keep {A A' : Nat → Prop} {p : Place} {ch : Chunk} (h : ChunkRel P A w ρ p ch) (hk : ∀ n, n < w.heap.size → w'.heap[n]? = w.heap[n]?) (hA : ∀ n, n < w.heap.size → A' n → A n) : ChunkRel P A' w' ρ p ch := by
  have hK : Keep A w w' := fun n hn _ => hk n hn
  cases ch with
  | box t cells =>
    obtain ⟨b, vs, e, hb, h1, h2, h3⟩ := h
    exact ⟨b, vs, e, hb, (hk _ (lt_of_get h1)).trans h1, h2, fun i sv hi => let ⟨v, hv, hr⟩ := h3 i sv hi; ⟨v, hv, hr.mono hK hA⟩⟩
  | arr e t xs nn =>
    obtain ⟨h2, hn, h⟩ := h
    refine ⟨h2, hn, ?_⟩
    rcases h with h | ⟨b, vs, hb, h1, h3, h4, h5, h6⟩
    · exact .inl h
    · exact .inr ⟨b, vs, hb, (hk _ (lt_of_get h1)).trans h1, h3, h4, h5, fun i x hi => (h6 i x hi).mono hK hA⟩
  | mp k v es =>
    obtain ⟨b, ms, c, hb, h1, h2, h3⟩ := h
    refine ⟨b, ms, c, hb, (hk _ (lt_of_get h1)).trans h1, h2, fun i x hi => ?_⟩
    obtain ⟨e, lv, h4, h5, h6, h7⟩ := h3 i x hi
    exact ⟨e, lv, h4, h5.mono hK hA, h6.mono hK hA, h7⟩
  | it bs q =>
    obtain ⟨b, n, hb, h1, h2⟩ := h
    exact ⟨b, n, hb, (hk _ (lt_of_get h1)).trans h1, h2⟩
  | lp i info cells st =>
    obtain ⟨b, r, hb, h1, h2, h3, h4⟩ := h
    exact ⟨b, r, hb, (hk _ (lt_of_get h1)).trans h1, h2, h3, fun i sv hi => let ⟨v, hv, hr⟩ := h4 i sv hi; ⟨v, hv, hr.mono hK hA⟩⟩

theorem marks_keep {ms : List Nat} {k : Nat} (h : (a.defers = ms.map markD ∧ (k = 0 → ms = []) ∧ (ms ++ w0.marks).Nodup) ∧ ∀ r, r ∈ ms ∨ r ∈ w0.marks → w.heap[r]? = some (Obj.deferred (some [])) ∧ w0.w.heap.size ≤ r)
    (hk : ∀ r : Nat, w.heap[r]? = some (Obj.deferred (some [])) → w'.heap[r]? = some (Obj.deferred (some []))) : ∃ ms : List Nat, (a.defers = ms.map markD ∧ (k = 0 → ms = []) ∧ (ms ++ w0.marks).Nodup) ∧ ∀ r, r ∈ ms ∨ r ∈ w0.marks → w'.heap[r]? = some (Obj.deferred (some [])) ∧ w0.w.heap.size ≤ r :=
  ⟨ms, h.1, fun r hr => ⟨hk r (h.2 r hr).1, (h.2 r hr).2⟩⟩

theorem below_get {w w' : World} (hb : Below w.heap.size w w') {n : Nat} {o : Obj} (h : w.heap[n]? = some o) : w'.heap[n]? = some o := (hb.block n (lt_of_get h)).trans h

theorem Rel.step (h : Rel P A0 w0 ρ s a w) (hb : Below w.heap.size w w') : Rel P A0 w0 ρ s a w' :=
  ⟨h.size, fun i sv hi => (h.slots i sv hi).mono (fun n hn _ => hb.block n hn) (fun _ _ h => h),
    fun β ch hc => ⟨(h.chunks β ch hc).1.keep hb.block (fun _ _ h => h), (h.chunks β ch hc).2⟩, h.inj, h.names, h.cnames, h.below.trans (hb.mono h.below.size), h.dom, (let ⟨_, hm⟩ := h.defers; marks_keep hm fun r hr => below_get hb hr), h.dep, h.lpi, (fun l hl => let ⟨r, hr⟩ := h.round l hl; ⟨r, below_get hb hr⟩), h.glob, h.ksize, fun i sv hi => (h.kslots i sv hi).mono (fun n hn _ => hb.block n hn) (fun _ _ h => h), h.knames⟩

theorem Rel.drawn (h : Rel P A0 w0 ρ s a w) (n : Nat) : Rel P A0 w0 ρ s a { w with drawn := n } :=
  h.step ⟨rfl, rfl, rfl, Nat.le_refl _, fun _ _ => rfl⟩

/-- A block of one's own. -/
theorem ChunkRel.lt {A : Nat → Prop} {p : Place} {ch : Chunk} (h : ChunkRel P A w ρ p ch) {b : Nat} (hb : p.blk = some b) : b < w.heap.size := by
  cases ch with
  | box t cells =>
    obtain ⟨b', vs, e, hb', h1, _⟩ := h
    rw [hb] at hb'; cases hb'
    exact lt_of_get h1
  | arr e t xs nn =>
    obtain ⟨_, _, ⟨h, _⟩ | ⟨b', vs, hb', h1, _⟩⟩ := h
    · rw [hb] at h; cases h
    · rw [hb] at hb'; cases hb'
      exact lt_of_get h1
  | mp k v es =>
    obtain ⟨b', ms, c, hb', h1, _⟩ := h
    rw [hb] at hb'; cases hb'
    exact lt_of_get h1
  | it bs q =>
    obtain ⟨b', n, hb', h1, _⟩ := h
    rw [hb] at hb'; cases hb'
    exact lt_of_get h1
  | lp i info cells st =>
    obtain ⟨b', r, hb', h1, _⟩ := h
    rw [hb] at hb'; cases hb'
    exact lt_of_get h1

/-- A block of one's own is no block of deferred calls. -/
theorem ChunkRel.no_mark {A : Nat → Prop} {p : Place} {ch : Chunk} (h : ChunkRel P A w ρ p ch) {b : Nat} (hb : p.blk = some b) : w.heap[b]? ≠ some (.deferred (some [])) := by
  intro hd
  cases ch with
  | box t cells =>
    obtain ⟨b', vs, e, hb', h1, _⟩ := h
    rw [hb] at hb'; cases hb'
    rw [hd] at h1; cases h1
  | arr e t xs nn =>
    obtain ⟨_, _, ⟨h, _⟩ | ⟨b', vs, hb', h1, _⟩⟩ := h
    · rw [hb] at h; cases h
    · rw [hb] at hb'; cases hb'
      rw [hd] at h1; cases h1
  | mp k v es =>
    obtain ⟨b', ms, c, hb', h1, _⟩ := h
    rw [hb] at hb'; cases hb'
    rw [hd] at h1; cases h1
  | it bs q =>
    obtain ⟨b', n, hb', h1, _⟩ := h
    rw [hb] at hb'; cases hb'
    rw [hd] at h1; cases h1
  | lp i info cells st =>
    obtain ⟨b', r, hb', h1, _⟩ := h
    rw [hb] at hb'; cases hb'
    rw [hd] at h1; cases h1

theorem ChunkRel.no_loop {A : Nat → Prop} {p : Place} {ch : Chunk} (h : ChunkRel P A w ρ p ch) (hn : ch.lpNo = none) {b : Nat} (hb : p.blk = some b) {r : Loop} : w.heap[b]? ≠ some (.loop r) := by
  intro hd
  cases ch with
  | box t cells =>
    obtain ⟨b', vs, e, hb', h1, _⟩ := h
    rw [hb] at hb'; cases hb'
    rw [hd] at h1; cases h1
  | arr e t xs nn =>
    obtain ⟨_, _, ⟨h, _⟩ | ⟨b', vs, hb', h1, _⟩⟩ := h
    · rw [hb] at h; cases h
    · rw [hb] at hb'; cases hb'
      rw [hd] at h1; cases h1
  | mp k v es =>
    obtain ⟨b', ms, c, hb', h1, _⟩ := h
    rw [hb] at hb'; cases hb'
    rw [hd] at h1; cases h1
  | it bs q =>
    obtain ⟨b', n, hb', h1, _⟩ := h
    rw [hb] at hb'; cases hb'
    rw [hd] at h1; cases h1
  | lp i info cells st => cases hn

theorem Rel.av_lt (h : Rel P A0 w0 ρ s a w) {n : Nat} (hn : Av A0 ρ s.chunks n) : n < w.heap.size := by
  rcases hn with hn | ⟨β, ch, hc, hb⟩
  · exact Nat.lt_of_lt_of_le (h.dom n hn) h.below.size
  · exact (h.chunks β ch hc).1.lt hb

def Places.set (ρ : Places) (β : Nat) (p : Place) : Places := fun γ => if γ = β then p else ρ γ


theorem Places.set_lt (ρ : Places) {β n : Nat} (p : Place) (h : β < n) : ρ.set n p β = ρ β := by
  unfold Places.set; rw [if_neg (by omega)]

theorem Places.set_self (ρ : Places) (n : Nat) (p : Place) : ρ.set n p n = p := by
  unfold Places.set; rw [if_pos rfl]

theorem CapsRel.congr {A : Nat → Prop} {ρ' : Places} {n : Nat} (he : ∀ β, β < n → ρ' β = ρ β) : ∀ {cs : List Cap} {vs : List Value}, CapsIn n cs → CapsRel P A w ρ cs vs → CapsRel P A w ρ' cs vs
  | [], [], _, _ => trivial
  | [], _ :: _, _, h => h
  | _ :: _, [], _, h => h
  | .box β :: cs, v :: vs, hi, h => ⟨by have := h.1; simp only [CapRel] at this ⊢; rw [he β hi.1]; exact this, CapsRel.congr he hi.2 h.2⟩
  | .val t x :: cs, v :: vs, hi, h => ⟨h.1, CapsRel.congr he hi h.2⟩

theorem SVRel.congr {A : Nat → Prop} {ρ' : Places} {n : Nat} (he : ∀ β, β < n → ρ' β = ρ β) {sv : SV} {v : Value} (hi : sv.inn n) (h : SVRel P A w ρ sv v) : SVRel P A w ρ' sv v := by
  cases sv with
  | bptr β off => simp only [SVRel] at h ⊢; rw [he β hi]; exact h
  | own β => simp only [SVRel] at h ⊢; rw [he β hi]; exact h
  | mown β => simp only [SVRel] at h ⊢; rw [he β hi]; exact h
  | yld β => simp only [SVRel] at h ⊢; rw [he β hi]; exact h
  | mayp β e => simp only [SVRel] at h ⊢; rw [he β hi]; exact h
  | eptr β i sz off => simp only [SVRel] at h ⊢; rw [he β hi]; exact h
  | clo f caps => obtain ⟨vs, h2, h3⟩ := h; exact ⟨vs, h2, h3.congr he hi⟩
  | _ => exact h

theorem CapsIn.mono {n m : Nat} (hnm : n ≤ m) : ∀ {cs : List Cap}, CapsIn n cs → CapsIn m cs
  | [], _ => trivial
  | .box _ :: _, h => ⟨Nat.lt_of_lt_of_le h.1 hnm, CapsIn.mono hnm h.2⟩
  | .val _ _ :: cs, h => CapsIn.mono (cs := cs) hnm h

theorem SV.inn_mono {n m : Nat} (hnm : n ≤ m) {sv : SV} (h : sv.inn n) : sv.inn m := by
  cases sv with
  | bptr β off => exact Nat.lt_of_lt_of_le h hnm
  | own β => exact Nat.lt_of_lt_of_le h hnm
  | mown β => exact Nat.lt_of_lt_of_le h hnm
  | yld β => exact Nat.lt_of_lt_of_le h hnm
  | mayp β e => exact Nat.lt_of_lt_of_le h hnm
  | eptr β i sz off => exact Nat.lt_of_lt_of_le h hnm
  | clo f caps => exact CapsIn.mono hnm h
  | _ => trivial

theorem Chunk.inn_mono {n m : Nat} (hnm : n ≤ m) {ch : Chunk} (h : ch.inn n) : ch.inn m := by
  cases ch with
  | box cells => exact fun sv hs => SV.inn_mono hnm (h sv hs)
  | lp i info cells st => exact fun sv hs => SV.inn_mono hnm (h sv hs)
  | arr e t xs nn => trivial
  | mp k v es => trivial
  | it bs q => trivial

theorem ChunkRel.congr {A : Nat → Prop} {ρ' : Places} {n : Nat} (he : ∀ β, β < n → ρ' β = ρ β) {p : Place} {ch : Chunk} (hi : ch.inn n) (h : ChunkRel P A w ρ p ch) : ChunkRel P A w ρ' p ch := by
  cases ch with
  | box t cells =>
    obtain ⟨b, vs, e, hb, h1, h2, h3⟩ := h
    exact ⟨b, vs, e, hb, h1, h2, fun i sv hs => let ⟨v, hv, hr⟩ := h3 i sv hs; ⟨v, hv, hr.congr he (hi sv (List.mem_of_getElem? hs))⟩⟩
  | lp i info cells st =>
    obtain ⟨b, r, hb, h1, h2, h3, h4⟩ := h
    exact ⟨b, r, hb, h1, h2, h3, fun i sv hs => let ⟨v, hv, hr⟩ := h4 i sv hs; ⟨v, hv, hr.congr he (hi sv (List.mem_of_getElem? hs))⟩⟩
  | arr e t xs nn => simpa only [ChunkRel] using h
  | mp k v es => simpa only [ChunkRel] using h
  | it bs q => simpa only [ChunkRel] using h

theorem chunk_cases {cs : List (Option Chunk)} {ch c : Chunk} {β : Nat} (hb : (cs ++ [some ch])[β]? = some (some c)) : (β < cs.length ∧ cs[β]? = some (some c)) ∨ (β = cs.length ∧ c = ch) := by
  rcases Nat.lt_or_ge β cs.length with hl | hl
  · rw [List.getElem?_append_left hl] at hb; exact .inl ⟨hl, hb⟩
  · rcases Nat.lt_or_ge cs.length β with h' | h'
    · rw [List.getElem?_eq_none (by simp; omega)] at hb; cases hb
    · have : β = cs.length := by omega
      subst this
      simp at hb
      exact .inr ⟨rfl, hb.symm⟩

/-- A new block of one's own (or none yet: a nil slice), the world having gone on beside. -/
theorem Rel.newChunk (h : Rel P A0 w0 ρ s a w) (ch : Chunk) (p : Place) (hw : Below w.heap.size w w') (hp : ∀ b, p.blk = some b → w.heap.size ≤ b) (hi : ch.inn s.chunks.length)
    (hc : ∀ A, (∀ n, n < w.heap.size → A n → Av A0 ρ s.chunks n) → (∀ n, w.heap.size ≤ n → A n → p.blk = some n) → ChunkRel P A w' ρ p ch) (hlp : ∀ q, ch.lpNo = some q → w0.infos[q.1]? = some q.2 := by intro q h; cases h) :
    Rel P A0 w0 (ρ.set s.chunks.length p) { s with chunks := s.chunks ++ [some ch] } a w' := by
  have he : ∀ β, β < s.chunks.length → ρ.set s.chunks.length p β = ρ β := fun β hβ => Places.set_lt ρ p hβ
  have hold : ∀ n, n < w.heap.size → w'.heap[n]? = w.heap[n]? := hw.block
  have hA : ∀ n, n < w.heap.size → Av A0 (ρ.set s.chunks.length p) (s.chunks ++ [some ch]) n → Av A0 ρ s.chunks n := by
    rintro n hn (h0 | ⟨β, c, hb, hbn⟩)
    · exact .inl h0
    · rcases chunk_cases hb with ⟨hl, hb⟩ | ⟨rfl, rfl⟩
      · rw [he β hl] at hbn
        exact .inr ⟨β, c, hb, hbn⟩
      · rw [Places.set_self] at hbn
        have := hp n hbn
        omega
  have hA' : ∀ n, w.heap.size ≤ n → Av A0 (ρ.set s.chunks.length p) (s.chunks ++ [some ch]) n → p.blk = some n := by
    rintro n hn (h0 | ⟨β, c, hb, hbn⟩)
    · have := h.dom n h0
      have := h.below.size
      omega
    · rcases chunk_cases hb with ⟨hl, hb⟩ | ⟨rfl, rfl⟩
      · rw [he β hl] at hbn
        have := (h.chunks β c hb).1.lt hbn
        omega
      · rwa [Places.set_self] at hbn
  have hK : Keep (Av A0 ρ s.chunks) w w' := fun n hn _ => hold n hn
  refine ⟨h.size, fun i sv hs => ((h.slots i sv hs).congr he (h.names i sv hs)).mono hK hA, fun β c hb => ?_, fun β γ c d hb hg hbg hne => ?_, fun i sv hs => SV.inn_mono (by simp) (h.names i sv hs), fun β c hb => ?_, h.below.trans (hw.mono h.below.size), h.dom, (let ⟨_, hm⟩ := h.defers; marks_keep hm fun r hr => below_get hw hr), h.dep, (fun β c q hb hq => by
    rcases chunk_cases hb with ⟨_, hb⟩ | ⟨_, rfl⟩
    · exact h.lpi β c q hb hq
    · exact hlp q hq), (fun l hl => let ⟨r, hr⟩ := h.round l hl; ⟨r, below_get hw hr⟩), h.glob, h.ksize, fun i sv hs => ((h.kslots i sv hs).congr he (h.knames i sv hs)).mono hK hA, fun i sv hs => SV.inn_mono (by simp) (h.knames i sv hs)⟩
  · rcases chunk_cases hb with ⟨hl, hb⟩ | ⟨rfl, rfl⟩
    · rw [he β hl]
      exact ⟨((h.chunks β c hb).1.congr he (h.cnames β c hb)).keep hold hA, (h.chunks β c hb).2⟩
    · rw [Places.set_self]
      exact ⟨(hc _ hA hA').congr he hi, fun b hb => Nat.le_trans h.below.size (hp b hb)⟩
  · rcases chunk_cases hb with ⟨h1, h2⟩ | ⟨h1, _⟩ <;> rcases chunk_cases hg with ⟨h3, h4⟩ | ⟨h3, _⟩
    · rw [he β h1, he γ h3] at hbg; rw [he β h1] at hne; exact h.inj β γ c d h2 h4 hbg hne
    · subst h3; rw [he β h1] at hbg hne; rw [Places.set_self] at hbg
      cases hq : (ρ β).blk with
      | none => exact absurd hq hne
      | some b => have h5 := (h.chunks β c h2).1.lt hq; have h6 := hp b (hbg ▸ hq); omega
    · subst h1; rw [he γ h3, Places.set_self] at hbg; rw [Places.set_self] at hne
      cases hq : p.blk with
      | none => exact absurd hq hne
      | some b => have h5 := (h.chunks γ d h4).1.lt (hbg ▸ hq); have h6 := hp b hq; omega
    · omega
  · rcases chunk_cases hb with ⟨hl, hb⟩ | ⟨rfl, rfl⟩
    · exact Chunk.inn_mono (by simp) (h.cnames β c hb)
    · exact Chunk.inn_mono (by simp) hi

/-- A block of one's own is given up (its names go stale). -/
theorem Rel.drop (h : Rel P A0 w0 ρ s a w) (β : Nat) : Rel P A0 w0 ρ { s with chunks := s.chunks.set β none } a w := by
  have hsub : ∀ (γ : Nat) (c : Chunk), (s.chunks.set β none)[γ]? = some (some c) → s.chunks[γ]? = some (some c) := by
    intro γ c hg
    by_cases hb : β = γ
    · subst hb
      rw [List.getElem?_set] at hg
      simp at hg
    · rwa [List.getElem?_set_ne hb] at hg
  have hA : ∀ n, n < w.heap.size → Av A0 ρ (s.chunks.set β none) n → Av A0 ρ s.chunks n := by
    rintro n hn (h0 | ⟨γ, c, hb, hbn⟩)
    · exact .inl h0
    · exact .inr ⟨γ, c, hsub γ c hb, hbn⟩
  have hK : Keep (Av A0 ρ s.chunks) w w := fun _ _ _ => rfl
  refine ⟨h.size, fun i sv hs => (h.slots i sv hs).mono hK hA, fun γ c hb => ⟨(h.chunks γ c (hsub γ c hb)).1.keep (fun _ _ => rfl) hA, (h.chunks γ c (hsub γ c hb)).2⟩,
    fun γ δ c d hb hg hbg hne => h.inj γ δ c d (hsub γ c hb) (hsub δ d hg) hbg hne, fun i sv hs => by simpa using h.names i sv hs, fun γ c hb => by simpa using h.cnames γ c (hsub γ c hb), h.below, h.dom, h.defers, h.dep, (fun γ c q hb hq => h.lpi γ c q (hsub γ c hb) hq), h.round, h.glob, h.ksize, fun i sv hs => (h.kslots i sv hs).mono hK hA, fun i sv hs => by simpa using h.knames i sv hs⟩

/-- Some blocks of one's own are given up, and range loops that are over are forgotten. -/
theorem Rel.dropAll (h : Rel P A0 w0 ρ s a w) {cs : List (Option Chunk)} (hlen : cs.length = s.chunks.length) (hsub : ∀ (γ : Nat) (c : Chunk), cs[γ]? = some (some c) → s.chunks[γ]? = some (some c)) : Rel P A0 w0 ρ { s with chunks := cs } a w := by
  have hA : ∀ n, n < w.heap.size → Av A0 ρ cs n → Av A0 ρ s.chunks n := by
    rintro n hn (h0 | ⟨γ, c, hb, hbn⟩)
    · exact .inl h0
    · exact .inr ⟨γ, c, hsub γ c hb, hbn⟩
  have hK : Keep (Av A0 ρ s.chunks) w w := fun _ _ _ => rfl
  refine ⟨h.size, fun i sv hs => (h.slots i sv hs).mono hK hA, fun γ c hb => ⟨(h.chunks γ c (hsub γ c hb)).1.keep (fun _ _ => rfl) hA, (h.chunks γ c (hsub γ c hb)).2⟩,
    fun γ δ c d hb hg hbg hne => h.inj γ δ c d (hsub γ c hb) (hsub δ d hg) hbg hne, fun i sv hs => by rw [hlen]; exact h.names i sv hs, fun γ c hb => by rw [hlen]; exact h.cnames γ c (hsub γ c hb), h.below, h.dom, h.defers, h.dep, (fun γ c q hb hq => h.lpi γ c q (hsub γ c hb) hq), h.round, h.glob, h.ksize, fun i sv hs => (h.kslots i sv hs).mono hK hA, fun i sv hs => by rw [hlen]; exact h.knames i sv hs⟩

/-- One block of one's own is written: nothing else turns. -/
theorem Rel.write (h : Rel P A0 w0 ρ s a w) {β b : Nat} {ch ch' : Chunk} (hβ : s.chunks[β]? = some (some ch)) (hb : (ρ β).blk = some b)
    (hk : ∀ n, n ≠ b → w'.heap[n]? = w.heap[n]?) (hsz : w'.heap.size = w.heap.size) (ho : w'.os = w.os) (ht : w'.tape = w.tape) (hu : w'.output = w.output) (hi : ch'.inn s.chunks.length)
    (hc : ∀ A, (∀ n, A n ↔ Av A0 ρ s.chunks n) → ChunkRel P A w' ρ (ρ β) ch') (hlp : ch'.lpNo = ch.lpNo := by rfl) : Rel P A0 w0 ρ { s with chunks := s.chunks.set β (some ch') } a w' := by
  have hβl : β < s.chunks.length := by
    rcases Nat.lt_or_ge β s.chunks.length with hl | hl
    · exact hl
    · rw [List.getElem?_eq_none (by simpa using hl)] at hβ; cases hβ
  have hcs : ∀ (γ : Nat) (c : Chunk), (s.chunks.set β (some ch'))[γ]? = some (some c) → (γ = β ∧ c = ch') ∨ (γ ≠ β ∧ s.chunks[γ]? = some (some c)) := by
    intro γ c hg
    by_cases hbg : β = γ
    · subst hbg
      rw [List.getElem?_set_self hβl] at hg
      cases hg
      exact .inl ⟨rfl, rfl⟩
    · rw [List.getElem?_set_ne hbg] at hg; exact .inr ⟨fun e => hbg e.symm, hg⟩
  have hA : ∀ n, Av A0 ρ (s.chunks.set β (some ch')) n ↔ Av A0 ρ s.chunks n := by
    intro n
    constructor
    · rintro (h0 | ⟨γ, c, hg, hbn⟩)
      · exact .inl h0
      · rcases hcs γ c hg with ⟨rfl, rfl⟩ | ⟨_, hg⟩
        · exact .inr ⟨γ, ch, hβ, hbn⟩
        · exact .inr ⟨γ, c, hg, hbn⟩
    · rintro (h0 | ⟨γ, c, hg, hbn⟩)
      · exact .inl h0
      · by_cases hbg : β = γ
        · subst hbg
          exact .inr ⟨β, ch', by rw [List.getElem?_set_self hβl], hbn⟩
        · exact .inr ⟨γ, c, by rw [List.getElem?_set_ne hbg]; exact hg, hbn⟩
  have hAb : Av A0 ρ s.chunks b := .inr ⟨β, ch, hβ, hb⟩
  have hK : Keep (Av A0 ρ s.chunks) w w' := fun n _ hn => hk n (fun e => hn (e ▸ hAb))
  have hA1 : ∀ n, n < w.heap.size → Av A0 ρ (s.chunks.set β (some ch')) n → Av A0 ρ s.chunks n := fun n _ hn => (hA n).1 hn
  have hother : ∀ (γ : Nat) (c : Chunk), γ ≠ β → s.chunks[γ]? = some (some c) → ChunkRel P (Av A0 ρ (s.chunks.set β (some ch'))) w' ρ (ρ γ) c := by
    intro γ c hne hg
    have h1 := (h.chunks γ c hg).1
    have hnb : ∀ b', (ρ γ).blk = some b' → b' ≠ b := by
      intro b' hb' e
      subst e
      exact hne (h.inj γ β c ch hg hβ (hb'.trans hb.symm) (by rw [hb']; simp))
    cases c with
    | box t cells =>
      obtain ⟨b', vs, e, hb', h1, h2, h3⟩ := h1
      exact ⟨b', vs, e, hb', (hk _ (hnb b' hb')).trans h1, h2, fun i sv hi => let ⟨v, hv, hr⟩ := h3 i sv hi; ⟨v, hv, hr.mono hK hA1⟩⟩
    | arr e t xs nn =>
      obtain ⟨h2, hn, h1⟩ := h1
      refine ⟨h2, hn, ?_⟩
      rcases h1 with h1 | ⟨b', vs, hb', h1, h3, h4, h5, h6⟩
      · exact .inl h1
      · exact .inr ⟨b', vs, hb', (hk _ (hnb b' hb')).trans h1, h3, h4, h5, fun i x hi => (h6 i x hi).mono hK hA1⟩
    | mp k v es =>
      obtain ⟨b', ms, c, hb', h1, h2, h3⟩ := h1
      refine ⟨b', ms, c, hb', (hk _ (hnb b' hb')).trans h1, h2, fun i x hi => ?_⟩
      obtain ⟨e, lv, h4, h5, h6, h7⟩ := h3 i x hi
      exact ⟨e, lv, h4, h5.mono hK hA1, h6.mono hK hA1, h7⟩
    | it bs q =>
      obtain ⟨b', n, hb', h1, h2⟩ := h1
      exact ⟨b', n, hb', (hk _ (hnb b' hb')).trans h1, h2⟩
    | lp j info cells st =>
      obtain ⟨b', r, hb', h1, h2, h3, h4⟩ := h1
      exact ⟨b', r, hb', (hk _ (hnb b' hb')).trans h1, h2, h3, fun i sv hi => let ⟨v, hv, hr⟩ := h4 i sv hi; ⟨v, hv, hr.mono hK hA1⟩⟩
  have hbw : w0.w.heap.size ≤ b := (h.chunks β ch hβ).2 b hb
  refine ⟨h.size, fun i sv hs => (h.slots i sv hs).mono hK hA1, fun γ c hg => ?_, fun γ δ c d hg hd hbg hne => ?_, fun i sv hs => by simpa using h.names i sv hs, fun γ c hg => ?_, ⟨ho.trans h.below.os, ht.trans h.below.tape, hu.trans h.below.output, hsz ▸ h.below.size, fun n hn => (hk n (by omega)).trans (h.below.block n hn)⟩, h.dom, (let ⟨_, hm⟩ := h.defers; marks_keep hm fun r hr => (hk r fun e => (h.chunks β ch hβ).1.no_mark hb (e ▸ hr)).trans hr), h.dep, (fun γ c q hg hq => by
    rcases hcs γ c hg with ⟨rfl, rfl⟩ | ⟨_, hg⟩
    · exact h.lpi γ ch q hβ (hlp ▸ hq)
    · exact h.lpi γ c q hg hq), (fun l hl => by
    obtain ⟨r, hr⟩ := h.round l hl
    by_cases hlb : l = b
    · subst hlb
      have h1 := (h.chunks β ch hβ).1
      cases ch with
      | lp i info cells st =>
        cases ch' with
        | lp i' info' cells' st' =>
          obtain ⟨b', r', hb', h2, _⟩ := hc _ (fun n => Iff.rfl)
          rw [hb] at hb'; cases hb'
          exact ⟨r', h2⟩
        | _ => cases hlp
      | box t cells =>
        obtain ⟨b', vs, e, hb', h2, _⟩ := h1
        rw [hb] at hb'; cases hb'
        rw [hr] at h2; cases h2
      | arr e t xs nn =>
        obtain ⟨_, _, ⟨h2, _⟩ | ⟨b', vs, hb', h2, _⟩⟩ := h1
        · rw [hb] at h2; cases h2
        · rw [hb] at hb'; cases hb'
          rw [hr] at h2; cases h2
      | mp k v es =>
        obtain ⟨b', ms, c, hb', h2, _⟩ := h1
        rw [hb] at hb'; cases hb'
        rw [hr] at h2; cases h2
      | it bs q =>
        obtain ⟨b', n, hb', h2, _⟩ := h1
        rw [hb] at hb'; cases hb'
        rw [hr] at h2; cases h2
    · exact ⟨r, (hk l hlb).trans hr⟩), h.glob, h.ksize, fun i sv hs => (h.kslots i sv hs).mono hK hA1, fun i sv hs => by simpa using h.knames i sv hs⟩
  · rcases hcs γ c hg with ⟨rfl, rfl⟩ | ⟨hne, hg⟩
    · exact ⟨hc _ hA, (h.chunks γ ch hβ).2⟩
    · exact ⟨hother γ c hne hg, (h.chunks γ c hg).2⟩
  · have old : ∀ (γ : Nat) (c : Chunk), (s.chunks.set β (some ch'))[γ]? = some (some c) → ∃ c', s.chunks[γ]? = some (some c') := by
      intro γ c hg
      rcases hcs γ c hg with ⟨rfl, rfl⟩ | ⟨_, hg⟩
      · exact ⟨ch, hβ⟩
      · exact ⟨c, hg⟩
    obtain ⟨c1, h1⟩ := old γ c hg
    obtain ⟨c2, h2⟩ := old δ d hd
    exact h.inj γ δ c1 c2 h1 h2 hbg hne
  · rcases hcs γ c hg with ⟨rfl, rfl⟩ | ⟨_, hg⟩
    · simpa using hi
    · simpa using h.cnames γ c hg

/-- One block of one's own is written, and given up. -/
theorem Rel.writeDrop (h : Rel P A0 w0 ρ s a w) {β b : Nat} {ch : Chunk} (hβ : s.chunks[β]? = some (some ch)) (hb : (ρ β).blk = some b) (hnl : ch.lpNo = none)
    (hk : ∀ n, n ≠ b → w'.heap[n]? = w.heap[n]?) (hsz : w'.heap.size = w.heap.size) (ho : w'.os = w.os) (ht : w'.tape = w.tape) (hu : w'.output = w.output) : Rel P A0 w0 ρ { s with chunks := s.chunks.set β none } a w' := by
  have hcs : ∀ (γ : Nat) (c : Chunk), (s.chunks.set β none)[γ]? = some (some c) → γ ≠ β ∧ s.chunks[γ]? = some (some c) := by
    intro γ c hg
    by_cases hbg : β = γ
    · subst hbg
      rw [List.getElem?_set] at hg
      simp at hg
    · rw [List.getElem?_set_ne hbg] at hg
      exact ⟨fun e => hbg e.symm, hg⟩
  have hA1 : ∀ n, n < w.heap.size → Av A0 ρ (s.chunks.set β none) n → Av A0 ρ s.chunks n := by
    rintro n hn (h0 | ⟨γ, c, hb, hbn⟩)
    · exact .inl h0
    · exact .inr ⟨γ, c, (hcs γ c hb).2, hbn⟩
  have hAb : Av A0 ρ s.chunks b := .inr ⟨β, ch, hβ, hb⟩
  have hK : Keep (Av A0 ρ s.chunks) w w' := fun n hn hnA => hk n fun e => hnA (e ▸ hAb)
  have hbw : w0.w.heap.size ≤ b := (h.chunks β ch hβ).2 b hb
  refine ⟨h.size, fun i sv hs => (h.slots i sv hs).mono hK hA1, fun γ c hg => ?_, fun γ δ c d hg hd hbg hne => h.inj γ δ c d (hcs γ c hg).2 (hcs δ d hd).2 hbg hne, fun i sv hs => by simpa using h.names i sv hs, fun γ c hg => by simpa using h.cnames γ c (hcs γ c hg).2, ⟨ho.trans h.below.os, ht.trans h.below.tape, hu.trans h.below.output, hsz ▸ h.below.size, fun n hn => (hk n (by omega)).trans (h.below.block n hn)⟩, h.dom, (let ⟨_, hm⟩ := h.defers; marks_keep hm fun r hr => (hk r fun e => (h.chunks β ch hβ).1.no_mark hb (e ▸ hr)).trans hr), h.dep, (fun γ c q hg hq => h.lpi γ c q (hcs γ c hg).2 hq), (fun l hl => by
    obtain ⟨r, hr⟩ := h.round l hl
    exact ⟨r, (hk l fun e => (h.chunks β ch hβ).1.no_loop hnl hb (e ▸ hr)).trans hr⟩), h.glob, h.ksize, fun i sv hs => (h.kslots i sv hs).mono hK hA1, fun i sv hs => by simpa using h.knames i sv hs⟩
  obtain ⟨hne, hg⟩ := hcs γ c hg
  refine ⟨?_, (h.chunks γ c hg).2⟩
  have h1 := (h.chunks γ c hg).1
  have hnb : ∀ b', (ρ γ).blk = some b' → b' ≠ b := by
    intro b' hb' e
    subst e
    exact hne (h.inj γ β c ch hg hβ (hb'.trans hb.symm) (by rw [hb']; simp))
  cases c with
  | box t cells =>
    obtain ⟨b', vs, e, hb', h1, h2, h3⟩ := h1
    exact ⟨b', vs, e, hb', (hk _ (hnb b' hb')).trans h1, h2, fun i sv hi => let ⟨v, hv, hr⟩ := h3 i sv hi; ⟨v, hv, hr.mono hK hA1⟩⟩
  | arr e t xs nn =>
    obtain ⟨h2, hn, h1⟩ := h1
    refine ⟨h2, hn, ?_⟩
    rcases h1 with h1 | ⟨b', vs, hb', h1, h3, h4, h5, h6⟩
    · exact .inl h1
    · exact .inr ⟨b', vs, hb', (hk _ (hnb b' hb')).trans h1, h3, h4, h5, fun i x hi => (h6 i x hi).mono hK hA1⟩
  | mp k v es =>
    obtain ⟨b', ms, c, hb', h1, h2, h3⟩ := h1
    refine ⟨b', ms, c, hb', (hk _ (hnb b' hb')).trans h1, h2, fun i x hi => ?_⟩
    obtain ⟨e, lv, h4, h5, h6, h7⟩ := h3 i x hi
    exact ⟨e, lv, h4, h5.mono hK hA1, h6.mono hK hA1, h7⟩
  | it bs q =>
    obtain ⟨b', n, hb', h1, h2⟩ := h1
    exact ⟨b', n, hb', (hk _ (hnb b' hb')).trans h1, h2⟩
  | lp j info cells st =>
    obtain ⟨b', r, hb', h1, h2, h3, h4⟩ := h1
    exact ⟨b', r, hb', (hk _ (hnb b' hb')).trans h1, h2, h3, fun i sv hi => let ⟨v, hv, hr⟩ := h4 i sv hi; ⟨v, hv, hr.mono hK hA1⟩⟩

theorem Rel.globW (h : Rel P A0 w0 ρ s a w) : GlobOK (Av A0 ρ s.chunks) w := fun p hp => by
  obtain ⟨h1, h2, h3⟩ := h.glob p hp
  refine ⟨?_, Nat.lt_of_lt_of_le h2 h.below.size, ?_⟩
  · rintro (h0 | ⟨β, ch, hc, hb⟩)
    · exact h1 h0
    · have := (h.chunks β ch hc).2 _ hb
      omega
  · obtain ⟨t, f, h4⟩ := h3
    exact ⟨t, f, (h.below.block p.1 h2).trans h4⟩
end
end Go.Vx
