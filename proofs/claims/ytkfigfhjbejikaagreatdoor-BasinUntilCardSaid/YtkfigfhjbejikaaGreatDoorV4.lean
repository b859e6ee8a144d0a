/- V4: the table of types against the program; the runs of the memory operations on typed cells. -/
import Derived.Test.YtkfigfhjbejikaaGreatDoorV3
set_option linter.all false
namespace Go.Vx
open Go.RowKit
variable [GT]

/-! ### Closed checks of the table -/
def vEq : Value → Value → Bool
  | .bool a, .bool b => a == b
  | .int j a, .int k b => decide (j = k) && a == b
  | .string a, .string b => decide (a.data.toList = b.data.toList)
  | .slice none a b, .slice none c d => a == c && b == d
  | .nilIface, .nilIface => true
  | .nilFunc, .nilFunc => true
  | .pointer none, .pointer none => true
  | .map none, .map none => true
  | .float j a, .float k b => decide (j = k) && a == b
  | .complex j a b, .complex k c d => decide (j = k) && a == c && b == d
  | _, _ => false

theorem vEq_eq {a b : Value} (h : vEq a b = true) : a = b := by
  unfold vEq at h
  split at h <;> simp_all
  rename_i a b
  cases a; cases b
  simp at h
  rw [ByteArray.mk.injEq]
  exact h

def lEq : List Value → List Value → Bool
  | [], [] => true
  | a :: l, b :: r => vEq a b && lEq l r
  | _, _ => false

theorem lEq_eq : ∀ {l r : List Value}, lEq l r = true → l = r
  | [], [], _ => rfl
  | [], _ :: _, h => by simp [lEq] at h
  | _ :: _, [], h => by simp [lEq] at h
  | a :: l, b :: r, h => by
    simp only [lEq, Bool.and_eq_true] at h
    rw [vEq_eq h.1, lEq_eq h.2]

def aggD : TypeDesc → Bool
  | .struct _ | .array _ _ => true
  | _ => false

def zeroOk (t : Ty) : Option Value → Bool
  | some (.agg cs) => t.agg && lEq cs.toList t.zeroV
  | some v => !t.agg && lEq [v] t.zeroV
  | none => false

theorem zeroOk_eq {t : Ty} {z : Option Value} (h : zeroOk t z = true) : z = some (t.wrap t.zeroV) := by
  unfold zeroOk at h
  split at h
  · rename_i cs
    simp only [Bool.and_eq_true] at h
    have := lEq_eq h.2
    simp [Ty.wrap, h.1, ← this]
  · rename_i v _
    simp only [Bool.and_eq_true, Bool.not_eq_true'] at h
    have := lEq_eq h.2
    simp [Ty.wrap, h.1, ← this]
  · cases h

/-- A Go type fits a type of the executor. -/
structure Fits (P : Program) (t : TypeId) (u : Ty) : Prop where
  by8 : u = .int .u8 → ∀ inf, P.info? t = some inf → inf.bytes = 1
  ex : ∃ inf d, P.info? t = some inf ∧ P.underlying t = some d ∧ inf.size = u.size ∧ inf.bytes ≤ 2048 ∧ aggD d = u.agg ∧ inf.zero = some (u.wrap u.zeroV)

def fitsB (P : Program) (t : TypeId) (u : Ty) : Bool :=
  match P.info? t, P.underlying t with
  | some inf, some d => inf.size == u.size && decide (inf.bytes ≤ 2048) && aggD d == u.agg && zeroOk u inf.zero && (!decide (u = .int .u8) || inf.bytes == 1)
  | _, _ => false

theorem fits_of {P : Program} {t : TypeId} {u : Ty} (h : fitsB P t u = true) : Fits P t u := by
  unfold fitsB at h
  split at h
  · rename_i inf d h1 h2
    simp only [Bool.and_eq_true, beq_iff_eq, decide_eq_true_eq] at h
    obtain ⟨h, h8⟩ := h
    refine ⟨fun hu inf' hi => ?_, inf, d, h1, h2, h.1.1.1, h.1.1.2, h.1.2, zeroOk_eq h.2⟩
    rw [h1] at hi
    cases hi
    simpa [hu] using h8
  · cases h

def structB (P : Program) : List Field → Nat → Ty → Bool
  | [], _, .unit => true
  | f :: fs, off, .pair a b => f.offset == off && !(a.size == 0) && fitsB P f.type a && structB P fs (off + a.size) b
  | _, _, _ => false

def shapeB (P : Program) (t : TypeId) (i : TyI) : Bool :=
  match i.ty, P.underlying t with
  | .slice u, some (.slice e) | .nslice u, some (.slice e) => e == i.elem && fitsB P e u && !(u.size == 0)
  | .arr n u, some (.array m e) => n == m && e == i.elem && fitsB P e u && !(u.size == 0)
  | .pair a b, some (.struct fs) => decide (i.fields = fs.toList.map fun f => (f.offset, f.type)) && structB P fs.toList 0 (.pair a b)
  | .unit, some (.struct fs) => decide (i.fields = fs.toList.map fun f => (f.offset, f.type)) && structB P fs.toList 0 .unit
  | .int k, some (.int j) => decide (k = j)
  | .str, some .string => true
  | .bool, some .bool => true
  | .map k v, some (.map kt et) => fitsB P kt k && fitsB P et v && (match k, P.underlying kt with | .str, some .string => true | .int j, some (.int l) => decide (j = l) | _, _ => false)
  | .flt k, some (.float j) => decide (k = j)
  | .cplx k, some (.complex j) => decide (k = j)
  | .func _ _, some (.func _ _ _) => true
  | .ref _, some (.pointer e) => e == i.elem
  | .err, some (.interface _) => true
  | _, _ => false

/-- Types whose values '==' compares part by part. -/
def cmpF (P : Program) (rec : TypeId → Ty → Bool) : List Field → Nat → Ty → Bool
  | [], _, .unit => true
  | f :: fs, off, .pair a b => !(f.name == "_") && f.offset == off && fitsB P f.type a && rec f.type a && cmpF P rec fs (off + a.size) b
  | _, _, _ => false

def cmpB (P : Program) : Nat → TypeId → Ty → Bool
  | 0, _, _ => false
  | d + 1, t, u => match u, P.underlying t with
    | .bool, some .bool => true
    | .int _, some (.int _) => true
    | .str, some .string => true
    | .unit, some (.struct fs) => !P.stoodInHeld t && cmpF P (cmpB P d) fs.toList 0 .unit
    | .pair a b, some (.struct fs) => !P.stoodInHeld t && cmpF P (cmpB P d) fs.toList 0 (.pair a b)
    | .arr n v, some (.array m e) => n == m && fitsB P e v && cmpB P d e v
    | _, _ => false

def eqB (P : Program) (t : TypeId) (u : Ty) : Bool := !(u.agg && u.cmp) || (cmpB P 30 t u && !P.eqGuardType P.depth t)

def rowB (P : Program) (p : TypeId × TyI) : Bool := fitsB P p.1 p.2.ty && shapeB P p.1 p.2 && eqB P p.1 p.2.ty

/-- The table is the program's. -/
def TabOk (P : Program) (T : List (TypeId × TyI)) : Prop := T.all (rowB P) = true

theorem lookT_mem : ∀ {T : List (TypeId × TyI)} {t : TypeId} {i : TyI}, lookT T t = some i → (t, i) ∈ T
  | [], _, _, h => by simp [lookT] at h
  | (u, j) :: l, t, i, h => by
    unfold lookT at h
    split at h
    · rename_i he
      simp at he h
      subst he h
      simp
    · exact List.mem_cons_of_mem _ (lookT_mem h)

theorem TabOk.fits {P : Program} {T : List (TypeId × TyI)} (h : TabOk P T) {t : TypeId} {i : TyI} (hl : lookT T t = some i) : Fits P t i.ty := by
  have := List.all_eq_true.1 h (t, i) (lookT_mem hl)
  simp only [rowB, Bool.and_eq_true] at this
  exact fits_of this.1.1

theorem TabOk.shape {P : Program} {T : List (TypeId × TyI)} (h : TabOk P T) {t : TypeId} {i : TyI} (hl : lookT T t = some i) : shapeB P t i = true := by
  have := List.all_eq_true.1 h (t, i) (lookT_mem hl)
  simp only [rowB, Bool.and_eq_true] at this
  exact this.1.2

theorem TabOk.eq {P : Program} {T : List (TypeId × TyI)} (h : TabOk P T) {t : TypeId} {i : TyI} (hl : lookT T t = some i) : eqB P t i.ty = true := by
  have := List.all_eq_true.1 h (t, i) (lookT_mem hl)
  simp only [rowB, Bool.and_eq_true] at this
  exact this.2

/-! ### Runs -/
section
variable {P : Program} {w : World}

theorem run_isAgg {t : TypeId} {d : TypeDesc} (h : P.underlying t = some d) : (isAgg t).run P w = .ok (aggD d) w := by
  unfold isAgg aggD
  simp only [Sem.run_bind, run_underlying h, Result.andThen_ok]
  cases d <;> simp

theorem run_sizeOf {t : TypeId} {inf : TypeInfo} (h : P.info? t = some inf) : (sizeOf t).run P w = .ok inf.size w := by
  simp [sizeOf, typeInfo, h]

theorem run_zeroValue {t : TypeId} {inf : TypeInfo} {z : Value} (h : P.info? t = some inf) (hz : inf.zero = some z) : (zeroValue t).run P w = .ok z w := by
  simp [zeroValue, typeInfo, h, hz]

theorem addr_add (b off n : Nat) : (⟨b, off, none⟩ : Addr).add n = ⟨b, off + n, none⟩ := by
  unfold Addr.add; split <;> simp_all

theorem run_loadCellsFrom {b off : Nat} : ∀ (l : List Value) (i : Nat) (acc : Array Value), CellsAt w b (off + i) l →
    (loadCellsFrom ⟨b, off, none⟩ i l.length acc).run P w = .ok (acc ++ l.toArray) w
  | [], i, acc, _ => by simp [loadCellsFrom]
  | v :: l, i, acc, h => by
    have h0 := h 0 v rfl
    simp only [Nat.add_zero] at h0
    have ih := run_loadCellsFrom l (i + 1) (acc.push v) (fun j u hj => by
      have := h (j + 1) u hj
      rwa [show off + i + (j + 1) = off + (i + 1) + j by omega] at this)
    simp only [List.length_cons, loadCellsFrom, Sem.run_bind, addr_add, load, Sem.run, h0, Result.andThen_ok]
    simpa using ih

theorem run_loadAt {b off : Nat} {l : List Value} {t : TypeId} {u : Ty} (hf : Fits P t u) (hl : l.length = u.size) (h : CellsAt w b off l) :
    (Instr.loadAt t (.pointer (some ⟨b, off, none⟩))).run P w = .ok (u.wrap l) w := by
  obtain ⟨inf, d, h1, h2, h3, _, h5, _⟩ := hf.ex
  unfold Instr.loadAt
  simp only [Instr.sureAddr, Sem.run_bind, Sem.run_pure, Result.andThen_ok, loadVar, run_isAgg h2]
  cases hd : aggD d with
  | true =>
    have hu : u.agg = true := by rw [← h5]; exact hd
    simp only [if_true, Sem.run_bind, run_sizeOf h1, Result.andThen_ok, loadCells]
    rw [h3, ← hl, run_loadCellsFrom l 0 #[] (by simpa using h)]
    simp [Ty.wrap, hu]
  | false =>
    have hu : u.agg = false := by rw [← h5]; exact hd
    have h1 : u.size = 1 := by cases u <;> simp_all [Ty.agg, Ty.size]
    rw [h1] at hl
    obtain ⟨v, rfl⟩ := List.length_eq_one_iff.1 hl
    have h0 := h 0 v rfl
    simp only [Nat.add_zero] at h0
    simp [Ty.wrap, hu, load, Sem.run, h0]
end
end Go.Vx
