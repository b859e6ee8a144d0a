/- V1: typed values, and how a typed value lies in memory (the relation Cells); it is kept by every step of the world that leaves its blocks alone. -/
import Derived.WalkKit
import Derived.Still
import Derived.Deep.Quiet
set_option linter.all false
namespace Go.Vx
open Go.RowKit

/-- The types of the executor's values. -/
inductive Ty where
  | bool | int (k : IntKind) | str | unit | pair (a b : Ty) | slice (t : Ty) | ref (t : Ty) | func (a b : Ty)
  | arr (n : Nat) (t : Ty) | nslice (t : Ty) | map (k v : Ty) | err | flt (k : FloatKind) | cplx (k : FloatKind)
  deriving DecidableEq, Inhabited

@[reducible] def Ty.den : Ty → Type
  | .bool => Bool
  | .int _ => Int
  | .str => List UInt8
  | .unit => Unit
  | .pair a b => a.den × b.den
  | .slice t => List t.den
  | .ref t => t.den
  | .func a b => a.den → Option b.den
  | .arr _ t => List t.den
  | .nslice t => Option (List t.den)
  | .map k v => List (k.den × v.den)
  | .err => Bool
  | .flt _ => Nat
  | .cplx _ => Nat × Nat

/-- How many cells a value takes. -/
def Ty.size : Ty → Nat
  | .unit => 0
  | .pair a b => a.size + b.size
  | .arr n t => n * t.size
  | _ => 1

/-- Is it a struct or an array? -/
def Ty.agg : Ty → Bool
  | .unit | .pair _ _ | .arr _ _ => true
  | _ => false

def Ty.dflt : (t : Ty) → t.den
  | .bool => false
  | .int _ => (0 : Int)
  | .str => ([] : List UInt8)
  | .unit => ()
  | .pair a b => (a.dflt, b.dflt)
  | .slice _ => ([] : List _)
  | .ref t => t.dflt
  | .func _ _ => fun _ => none
  | .arr n t => List.replicate n t.dflt
  | .nslice _ => none
  | .map _ _ => ([] : List _)
  | .err => true
  | .flt _ => (0 : Nat)
  | .cplx _ => ((0 : Nat), (0 : Nat))

/-- One value out of its cells. -/
def Ty.wrap (t : Ty) (l : List Value) : Value := if t.agg then .agg l.toArray else l.headD undef

/-- The values of a product's parts, out of all cells. -/
def Ty.group : Ty → List Value → List Value
  | .pair a b, l => a.wrap (l.take a.size) :: b.group (l.drop a.size)
  | _, _ => []

/-- Results: one value, or a tuple. -/
def pack (vs : List Value) : Value := match vs with | [v] => v | vs => .tuple vs.toArray

/-- The package-level variables whose contents are known: block, type, cells. -/
class GT where
  gl : List (Nat × Ty × List Value)

variable [GT]

def CellsAt (w : World) (b off : Nat) (l : List Value) : Prop := ∀ j v, l[j]? = some v → w.cell? ⟨b, off + j, none⟩ = some v

/-- The package-level variables hold what is known of them, and are no block of one's own. -/
def GlobOK (A : Nat → Prop) (w : World) : Prop := ∀ p ∈ GT.gl, ¬ A p.1 ∧ p.1 < w.heap.size ∧ ∃ t f, w.heap[p.1]? = some (.cells p.2.2.toArray t f)

omit [GT] in
theorem row_cellsAt {w : World} {b : Nat} {l : List Value} (h : ∃ t f, w.heap[b]? = some (.cells l.toArray t f)) : CellsAt w b 0 l := by
  obtain ⟨t, f, h⟩ := h
  intro j v hj
  simp only [World.cell?, h]
  simpa using hj

/-- The function has a body that is entered. -/
def Enters (P : Program) (f : FuncId) : Prop := ∃ fn, P.funcs[f]? = some fn ∧ (fn.name == "runtime.NumGoroutine") = false ∧ fn.body.isNone = false

def Cells (P : Program) : (t : Ty) → (Nat → Prop) → World → t.den → List Value → Prop
  | .bool, _, _, b, l => l = [.bool b]
  | .int k, _, _, n, l => l = [.int k n]
  | .str, _, _, s, l => l = [.string ⟨s.toArray⟩]
  | .unit, _, _, _, l => l = []
  | .pair a b, A, w, x, l => ∃ l1 l2, l = l1 ++ l2 ∧ Cells P a A w x.1 l1 ∧ Cells P b A w x.2 l2
  | .slice t, A, w, xs, l => ∃ p c, l = [.slice p (List.length xs) c] ∧ List.length xs ≤ c ∧ c ≤ maxLen ∧
      ∀ (i : Nat) (x : t.den), (xs : List t.den)[i]? = some x → ∃ (a : Addr) (l' : List Value), p = some a ∧ a.spot = none ∧ ¬ A a.block ∧ a.block < w.heap.size ∧ CellsAt w a.block (a.off + i * t.size) l' ∧ Cells P t A w x l'
  | .ref t, A, w, x, l => ∃ (a : Addr) (l' : List Value), l = [.pointer (some a)] ∧ a.spot = none ∧ ¬ A a.block ∧ a.block < w.heap.size ∧ CellsAt w a.block a.off l' ∧ Cells P t A w x l'
  | .arr n t, A, w, xs, l => l.length = n * t.size ∧ List.length xs = n ∧ ∀ (i : Nat) (x : t.den), (xs : List t.den)[i]? = some x → Cells P t A w x ((l.drop (i * t.size)).take t.size)
  | .nslice t, A, w, o, l => ∃ p c, l = [.slice p (List.length (Option.getD o [])) c] ∧ (p = none ↔ o = none) ∧ (p = none → c = 0) ∧ List.length (Option.getD o []) ≤ c ∧ c ≤ maxLen ∧
      ∀ (i : Nat) (x : t.den), (Option.getD o [] : List t.den)[i]? = some x → ∃ (a : Addr) (l' : List Value), p = some a ∧ a.spot = none ∧ ¬ A a.block ∧ a.block < w.heap.size ∧ CellsAt w a.block (a.off + i * t.size) l' ∧ Cells P t A w x l'
  | .map k v, A, w, es, l => (l = [.map none] ∧ es = []) ∨ ∃ (r : Nat) (ms : Array MapEntry) (clock : Nat), l = [.map (some r)] ∧ ¬ A r ∧ w.heap[r]? = some (.map ms clock) ∧ ms.size = List.length es ∧
      ∀ (i : Nat) (x : k.den × v.den), (es : List (k.den × v.den))[i]? = some x → ∃ (e : MapEntry) (lv : List Value), ms[i]? = some e ∧ Cells P k A w x.1 [e.key] ∧ Cells P v A w x.2 lv ∧ e.val = v.wrap lv
  | .err, _, _, b, l => (b = true ∧ l = [.nilIface]) ∨ (b = false ∧ ∃ t v, l = [.iface t v])
  | .flt k, _, _, n, l => l = [.float k n]
  | .cplx k, _, _, x, l => l = [.complex k x.1 x.2]
  | .func a b, A, w, g, l => (l = [.nilFunc] ∧ ∀ x, g x = none) ∨ ∃ (f : FuncId) (first caps : Array Value) (S : Nat → Prop), l = [.func (.func f) first caps] ∧ Enters P f ∧ (∀ n, S n → ¬ A n ∧ n < w.heap.size) ∧
      ∀ (A' : Nat → Prop) (w' : World), GlobOK A' w' → (∀ n, S n → w'.heap[n]? = w.heap[n]?) → (∀ n, A' n → n < w'.heap.size ∧ ¬ S n) →
        ∀ (x : a.den) (lx : List Value) (y : b.den), Cells P a A' w' x lx → g x = some y →
          Calls P f (first ++ (a.group lx).toArray ++ caps) w' fun e w'' => ∃ ly, e = .returned (pack (b.group ly)) ∧ Cells P b A' w'' y ly ∧ Below w'.heap.size w' w''

theorem Cells.length {P : Program} : {t : Ty} → {A : Nat → Prop} → {w : World} → {x : t.den} → {l : List Value} → Cells P t A w x l → l.length = t.size
  | .bool, _, _, _, _, h => by simp only [Cells] at h; subst h; rfl
  | .int _, _, _, _, _, h => by simp only [Cells] at h; subst h; rfl
  | .str, _, _, _, _, h => by simp only [Cells] at h; subst h; rfl
  | .unit, _, _, _, _, h => by simp only [Cells] at h; subst h; rfl
  | .pair a b, _, _, _, _, h => by
    simp only [Cells] at h
    obtain ⟨l1, l2, rfl, h1, h2⟩ := h
    simp [Ty.size, Cells.length h1, Cells.length h2]
  | .slice _, _, _, _, _, h => by simp only [Cells] at h; obtain ⟨p, c, rfl, _⟩ := h; rfl
  | .ref _, _, _, _, _, h => by simp only [Cells] at h; obtain ⟨p, c, rfl, _⟩ := h; rfl
  | .func _ _, _, _, _, _, h => by
    simp only [Cells] at h
    rcases h with ⟨rfl, _⟩ | ⟨f, fi, c, _, rfl, _⟩ <;> rfl
  | .arr _ _, _, _, _, _, h => by simp only [Cells] at h; exact h.1
  | .nslice _, _, _, _, _, h => by simp only [Cells] at h; obtain ⟨p, c, rfl, _⟩ := h; rfl
  | .map _ _, _, _, _, _, h => by
    simp only [Cells] at h
    rcases h with ⟨rfl, _⟩ | ⟨r, ms, c, rfl, _⟩ <;> rfl
  | .err, _, _, _, _, h => by
    simp only [Cells] at h
    rcases h with ⟨_, rfl⟩ | ⟨_, t, v, rfl⟩ <;> rfl
  | .flt _, _, _, _, _, h => by simp only [Cells] at h; subst h; rfl
  | .cplx _, _, _, _, _, h => by simp only [Cells] at h; subst h; rfl

/-- All blocks outside A are as they were. -/
def Keep (A : Nat → Prop) (w w' : World) : Prop := ∀ n, n < w.heap.size → ¬ A n → w'.heap[n]? = w.heap[n]?

theorem block_lt {w : World} {b o : Nat} {v : Value} (h : w.cell? ⟨b, o, none⟩ = some v) : b < w.heap.size := by
  have := World.block_lt_of_cell? w ⟨b, o, none⟩ h
  exact this

theorem lt_of_get {w : World} {n : Nat} {o : Obj} (h : w.heap[n]? = some o) : n < w.heap.size := (Array.getElem?_eq_some_iff.1 h).1

theorem Keep.lt {A : Nat → Prop} {w w' : World} (h : Keep A w w') {n : Nat} (hn : n < w.heap.size) (hA : ¬ A n) : n < w'.heap.size := by
  have := h n hn hA
  rw [Array.getElem?_eq_getElem hn] at this
  exact lt_of_get this

theorem CellsAt.keep {A : Nat → Prop} {w w' : World} {b off : Nat} {l : List Value} (h : CellsAt w b off l) (hk : Keep A w w') (hA : ¬ A b) : CellsAt w' b off l :=
  fun j v hj => by
    have h1 := h j v hj
    have := hk b (block_lt h1) hA
    rw [World.cell?_of_block (w := w) (a := ⟨b, off + j, none⟩) this]
    exact h1

/-- A typed value stays where it lies, as the world goes on and as other blocks are shunned. -/
theorem Cells.mono {P : Program} : {t : Ty} → {A A' : Nat → Prop} → {w w' : World} → {x : t.den} → {l : List Value} →
    Cells P t A w x l → Keep A w w' → (∀ n, n < w.heap.size → A' n → A n) → Cells P t A' w' x l
  | .bool, _, _, _, _, _, _, h, _, _ => h
  | .int _, _, _, _, _, _, _, h, _, _ => h
  | .str, _, _, _, _, _, _, h, _, _ => h
  | .unit, _, _, _, _, _, _, h, _, _ => h
  | .pair a b, A, A', w, w', x, l, h, hk, hA => by
    simp only [Cells] at h ⊢
    obtain ⟨l1, l2, rfl, h1, h2⟩ := h
    exact ⟨l1, l2, rfl, Cells.mono h1 hk hA, Cells.mono h2 hk hA⟩
  | .slice t, A, A', w, w', xs, l, h, hk, hA => by
    simp only [Cells] at h ⊢
    obtain ⟨p, c, rfl, h1, h2, h3⟩ := h
    refine ⟨p, c, rfl, h1, h2, fun i x hx => ?_⟩
    obtain ⟨a, l', rfl, hs, hn, hlt, hc, hl⟩ := h3 i x hx
    exact ⟨a, l', rfl, hs, fun hb => hn (hA _ hlt hb), hk.lt hlt hn, hc.keep hk hn, Cells.mono hl hk hA⟩
  | .ref t, A, A', w, w', x, l, h, hk, hA => by
    simp only [Cells] at h ⊢
    obtain ⟨a, l', rfl, hs, hn, hlt, hc, hl⟩ := h
    exact ⟨a, l', rfl, hs, fun hb => hn (hA _ hlt hb), hk.lt hlt hn, hc.keep hk hn, Cells.mono hl hk hA⟩
  | .func a b, A, A', w, w', g, l, h, hk, hA => by
    simp only [Cells] at h ⊢
    rcases h with h | ⟨f, first, caps, S, rfl, he, hS, hr⟩
    · exact .inl h
    refine .inr ⟨f, first, caps, S, rfl, he, fun n hn => ⟨fun hb => (hS n hn).1 (hA _ (hS n hn).2 hb), hk.lt (hS n hn).2 (hS n hn).1⟩, fun A2 w2 hG2 h2 hA2 => ?_⟩
    exact hr A2 w2 hG2 (fun n hn => (h2 n hn).trans (hk n (hS n hn).2 (hS n hn).1)) hA2
  | .arr n t, A, A', w, w', xs, l, h, hk, hA => by
    simp only [Cells] at h ⊢
    exact ⟨h.1, h.2.1, fun i x hx => Cells.mono (h.2.2 i x hx) hk hA⟩
  | .nslice t, A, A', w, w', xs, l, h, hk, hA => by
    simp only [Cells] at h ⊢
    obtain ⟨p, c, rfl, h0, h4, h1, h2, h3⟩ := h
    refine ⟨p, c, rfl, h0, h4, h1, h2, fun i x hx => ?_⟩
    obtain ⟨a, l', rfl, hs, hn, hlt, hc, hl⟩ := h3 i x hx
    exact ⟨a, l', rfl, hs, fun hb => hn (hA _ hlt hb), hk.lt hlt hn, hc.keep hk hn, Cells.mono hl hk hA⟩
  | .map k v, A, A', w, w', es, l, h, hk, hA => by
    simp only [Cells] at h ⊢
    rcases h with h | ⟨r, ms, clock, rfl, hn, hr, hs, he⟩
    · exact .inl h
    refine .inr ⟨r, ms, clock, rfl, fun hb => hn (hA _ (lt_of_get hr) hb), (hk r (lt_of_get hr) hn).trans hr, hs, fun i x hx => ?_⟩
    obtain ⟨e, lv, h1, h2, h3, h4⟩ := he i x hx
    exact ⟨e, lv, h1, Cells.mono h2 hk hA, Cells.mono h3 hk hA, h4⟩
  | .err, _, _, _, _, _, _, h, _, _ => h
  | .flt _, _, _, _, _, _, _, h, _, _ => h
  | .cplx _, _, _, _, _, _, _, h, _, _ => h
end Go.Vx
