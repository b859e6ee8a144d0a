/- V24: arguments that are read as data, as typed values. -/
import Derived.Test.YtkfigfhjbejikaaGreatDoorV23
import Derived.Deep.Slices
import Derived.OpenShut
import Derived.ReadAgain
import Derived.ChangeBears
import Derived.Deep.DeepHandedRow
set_option linter.all false
namespace Go.Vx
open Go.RowKit Go.Deep
variable [GT]

/-- What a typed value that came in is: numbers in their ranges, no length too great. -/
def Ty.wf : (t : Ty) → t.den → Prop
  | .bool, _ => True
  | .int k, n => (Lit.int k n).wf = true
  | .str, s => List.length (s : List UInt8) ≤ maxLen
  | .unit, _ => True
  | .pair a b, x => a.wf x.1 ∧ b.wf x.2
  | .slice t, xs => List.length (xs : List t.den) ≤ maxLen ∧ ∀ y, y ∈ (xs : List t.den) → t.wf y
  | .arr n t, xs => List.length (xs : List t.den) = n ∧ ∀ y, y ∈ (xs : List t.den) → t.wf y
  | _, _ => True

def fieldsOpen (P : Program) (rec : TypeId → Ty → Bool) : List Field → Nat → Ty → Bool
  | [], _, .unit => true
  | f :: fs, off, .pair a b => f.offset == off && !(a.size == 0) && P.cellsOf f.type == a.size && rec f.type a && fieldsOpen P rec fs (off + a.size) b
  | _, _, _ => false

def openB (P : Program) : Nat → TypeId → Ty → Bool
  | 0, _, _ => false
  | d + 1, t, u => match u, P.underlying t with
    | .bool, some .bool => true
    | .int k, some (.int j) => decide (k = j)
    | .str, some .string => true
    | .slice v, some (.slice e) => P.cellsOf e == v.size && !(v.size == 0) && openB P d e v
    | .arr n v, some (.array m e) => n == m && P.cellsOf e == v.size && P.cellsOf t == n * v.size && openB P d e v
    | .pair a b, some (.struct fs) => P.cellsOf t == (Ty.pair a b).size && fieldsOpen P (openB P d) fs.toList 0 (.pair a b)
    | .unit, some (.struct fs) => P.cellsOf t == 0 && fieldsOpen P (openB P d) fs.toList 0 .unit
    | _, _ => false

section
variable {H : Type} {enc : TypeId × Value → H} {P : Program} {w : World} {sp : Nat → Bool} {held : Bool}

abbrev noA : Nat → Prop := fun _ => False

theorem fields_cells {rec : TypeId → Ty → Bool} {m : Nat} (hrec : ∀ (t : TypeId) (u : Ty) (cs : List Value) (x : DataW H × List MemPlace), rec t u = true → DataW.trod enc P w 0 sp held m t cs = some x → ∃ y : u.den, Cells P u noA w y cs ∧ u.wf y) :
    ∀ (fs : List Field) (off : Nat) (u : Ty) (cs : List Value), fieldsOpen P rec fs off u = true → off + u.size ≤ cs.length →
      (∀ f ∈ fs, ∃ x, DataW.trod enc P w 0 sp held m f.type ((cs.drop f.offset).take (P.cellsOf f.type)) = some x) →
      ∃ y : u.den, Cells P u noA w y ((cs.drop off).take u.size) ∧ u.wf y
  | [], off, u, cs, h, _, _ => by
    cases u with
    | unit => exact ⟨(), by simp [Cells, Ty.size], trivial⟩
    | _ => simp [fieldsOpen] at h
  | f :: fs, off, u, cs, h, hl, hx => by
    cases u with
    | pair a b =>
      simp only [fieldsOpen, Bool.and_eq_true, beq_iff_eq] at h
      obtain ⟨⟨⟨⟨h1, _⟩, h3⟩, h4⟩, h5⟩ := h
      simp only [Ty.size] at hl ⊢
      obtain ⟨x, hx0⟩ := hx f (by simp)
      rw [h1, h3] at hx0
      obtain ⟨y, hy, hw⟩ := hrec _ _ _ _ h4 hx0
      obtain ⟨z, hz, hw2⟩ := fields_cells hrec fs (off + a.size) b cs h5 (by omega) (fun g hg => hx g (by simp [hg]))
      refine ⟨(y, z), ?_, hw, hw2⟩
      simp only [Cells]
      refine ⟨_, _, ?_, hy, hz⟩
      rw [List.take_add, List.drop_drop]
    | _ => simp [fieldsOpen] at h

theorem trod_cells : ∀ (d fuel : Nat) (t : TypeId) (u : Ty) (cs : List Value) (x : DataW H × List MemPlace), openB P d t u = true → DataW.trod enc P w 0 sp held fuel t cs = some x → ∃ y : u.den, Cells P u noA w y cs ∧ u.wf y
  | 0, _, _, _, _, _, h, _ => by simp [openB] at h
  | d + 1, fuel, t, u, cs, x, h, hx => by
    cases ht : P.underlying t with
    | none => cases u <;> simp [openB, ht] at h
    | some D =>
      have struct : ∀ (fs : Array Field) (v : Ty), P.underlying t = some (.struct fs) → P.cellsOf t = v.size → fieldsOpen P (openB P d) fs.toList 0 v = true → ∃ y : v.den, Cells P v noA w y cs ∧ v.wf y := fun fs v hu hs hf => by
        obtain ⟨xs, m, _, _, hl, hn, hget⟩ := DataW.trod_struct hu hx
        obtain ⟨y, h1, h2⟩ := fields_cells (rec := openB P d) (m := m) (fun t u cs x => trod_cells d m t u cs x) fs.toList 0 v cs hf (by omega) (fun f hf => by
          obtain ⟨i, hi, he⟩ := List.getElem_of_mem hf
          have hi' : i < xs.length := by rw [hn]; simpa using hi
          refine ⟨xs[i], ?_⟩
          rw [hget i f (by rw [← he]; simp at hi ⊢), List.getElem?_eq_getElem hi'])
        refine ⟨y, ?_, h2⟩
        rw [List.drop_zero, List.take_of_length_le (by omega)] at h1
        exact h1
      cases u with
      | bool =>
        cases D <;> simp [openB, ht] at h
        obtain ⟨b, rfl, _⟩ := DataW.trod_bool ht hx
        exact ⟨b, rfl, trivial⟩
      | int k =>
        cases D <;> simp [openB, ht] at h
        subst h
        obtain ⟨n, rfl, _, hw⟩ := DataW.trod_int ht hx
        exact ⟨n, rfl, hw⟩
      | str =>
        cases D <;> simp [openB, ht] at h
        obtain ⟨s, rfl, _, hw⟩ := DataW.trod_string ht hx
        refine ⟨s.data.toList, by simp [Cells], ?_⟩
        simpa [Ty.wf] using hw
      | unit =>
        cases D <;> simp [openB, ht] at h
        exact struct _ .unit ht h.1 h.2
      | pair a b =>
        cases D <;> simp [openB, ht] at h
        exact struct _ (.pair a b) ht h.1 h.2
      | slice v =>
        cases D with
        | slice e =>
          simp [openB, ht] at h
          obtain ⟨⟨h1, h2⟩, h3⟩ := h
          rcases open_slice ht hx with ⟨rfl, _⟩ | ⟨a, len, cap, m, n, DD, Pl, rfl, _, hlc, hcm, hm, _, hel⟩
          · exact ⟨([] : List v.den), nil_slice v, by simp [Ty.wf]⟩
          · have hlm : len ≤ m := by rw [hm]; split <;> omega
            have spot0 : 0 < len → a.spot = none := fun h0 => by
              obtain ⟨cs', hc, _⟩ := hel 0 (by omega)
              obtain ⟨_, hlen, hget⟩ := World.cells?_some hc
              rw [h1] at hget hlen
              have h3 := hget 0 (by omega)
              rw [List.getElem?_eq_getElem (by omega), Nat.zero_mul] at h3
              have e0 : ((a.add 0).add 0) = a := by simp [Addr.add]
              rw [e0] at h3
              unfold World.cell? at h3
              split at h3
              · cases hs : a.spot with
                | none => rfl
                | some q => rw [hs] at h3; simp at h3
              · cases h3
            have one : ∀ i, i < len → ∃ y : v.den, (a.spot = none ∧ a.block < w.heap.size ∧ ∃ l', CellsAt w a.block (a.off + i * v.size) l' ∧ Cells P v noA w y l') ∧ v.wf y := fun i hi => by
              obtain ⟨cs', hc, hr⟩ := hel i (by omega)
              obtain ⟨y, hy, hw⟩ := trod_cells d n e v cs' _ h3 hr
              obtain ⟨_, hlen, hget⟩ := World.cells?_some hc
              rw [h1] at hget hlen
              have hsp := spot0 (by omega)
              have hat : CellsAt w a.block (a.off + i * v.size) cs' ∧ a.spot = none := by
                refine ⟨fun j u hj => ?_, hsp⟩
                have hj' : j < v.size := by rw [← hlen]; exact (List.getElem?_eq_some_iff.1 hj).1
                have := (hget j hj').trans hj
                obtain ⟨ab, ao, asp⟩ := a
                simp only at hsp
                subst hsp
                rw [addr_add, addr_add] at this
                exact this
              have hblk : a.block < w.heap.size := by
                have h0 : 0 < cs'.length := by omega
                exact block_lt (hat.1 0 cs'[0] (List.getElem?_eq_getElem h0))
              exact ⟨y, ⟨hat.2, hblk, cs', hat.1, hy⟩, hw⟩
            have hch : ∃ f : Fin len → v.den, ∀ i : Fin len, (a.spot = none ∧ a.block < w.heap.size ∧ ∃ l', CellsAt w a.block (a.off + i.val * v.size) l' ∧ Cells P v noA w (f i) l') ∧ v.wf (f i) :=
              ⟨fun i => Classical.choose (one i.val i.isLt), fun i => Classical.choose_spec (one i.val i.isLt)⟩
            obtain ⟨f, hf⟩ := hch
            refine ⟨(List.ofFn f : List v.den), ?_, ?_⟩
            · simp only [Cells]
              refine ⟨some a, cap, by simp, by simpa using hlc, hcm, fun i y hy => ?_⟩
              obtain ⟨hi, he⟩ := List.getElem?_eq_some_iff.1 hy
              simp at hi he
              subst he
              obtain ⟨⟨g1, g2, l', g3, g4⟩, _⟩ := hf ⟨i, hi⟩
              exact ⟨a, l', rfl, g1, fun h => h, g2, g3, g4⟩
            · simp only [Ty.wf]
              refine ⟨by simp; omega, fun y hy => ?_⟩
              obtain ⟨i, rfl⟩ := (List.mem_ofFn).1 hy
              exact (hf i).2
        | _ => simp [openB, ht] at h
      | arr n v =>
        cases D with
        | array m e =>
          simp [openB, ht] at h
          obtain ⟨⟨⟨h0, h1⟩, h2⟩, h3⟩ := h
          subst h0
          obtain ⟨xs, fu, _, _, hl, hn, hget⟩ := DataW.trod_array ht hx
          have one : ∀ i, i < n → ∃ y : v.den, Cells P v noA w y ((cs.drop (i * v.size)).take v.size) ∧ v.wf y := fun i hi => by
            have := hget i hi
            rw [h1, List.getElem?_eq_getElem (by omega)] at this
            exact trod_cells d fu e v _ _ h3 this
          have hch : ∃ f : Fin n → v.den, ∀ i : Fin n, Cells P v noA w (f i) ((cs.drop (i.val * v.size)).take v.size) ∧ v.wf (f i) :=
            ⟨fun i => Classical.choose (one i.val i.isLt), fun i => Classical.choose_spec (one i.val i.isLt)⟩
          obtain ⟨f, hf⟩ := hch
          refine ⟨(List.ofFn f : List v.den), ?_, ?_⟩
          · simp only [Cells]
            refine ⟨by omega, by simp, fun i y hy => ?_⟩
            obtain ⟨hi, he⟩ := List.getElem?_eq_some_iff.1 hy
            simp at hi he
            subst he
            exact (hf ⟨i, hi⟩).1
          · simp only [Ty.wf]
            refine ⟨by simp, fun y hy => ?_⟩
            obtain ⟨i, rfl⟩ := (List.mem_ofFn).1 hy
            exact (hf i).2
        | _ => simp [openB, ht] at h
      | _ => simp [openB, ht] at h

end
end Go.Vx
