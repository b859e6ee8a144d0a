/- V10: boxes, slices out of parts, closures, cuts, lengths; and all operations that turn no block of one's own together. -/
import Derived.Test.YtkfigfhjbejikaaGreatDoorV9
set_option linter.all false
namespace Go.Vx
open Go.RowKit
variable [GT]

section
variable {P : Program} {A0 : Nat → Prop} {w0 : Base} {ρ : Places} {s : St} {a : Act} {w w' : World} {g : G} {R : Type} {K : SV → Option R} {r : R} {o : Oper}

theorem below_alloc (w : World) (o : Obj) : Below w.heap.size w (w.alloc o) := (Below.refl _ _).alloc (Nat.le_refl _) o

theorem keep_alloc (A : Nat → Prop) (w : World) (o : Obj) : Keep A w (w.alloc o) := fun n hn _ => Below.heap_alloc w o n hn

theorem new_cells (w : World) (cs : Array Value) (e : TypeId) : CellsAt (w.alloc (.cells cs e)) w.heap.size 0 cs.toList := by
  intro j v hj
  have : (w.alloc (.cells cs e)).heap[w.heap.size]? = some (.cells cs e (0, 0)) := heap_alloc_new w _
  simp only [World.cell?, this, Nat.zero_add]
  simpa using hj

theorem size_alloc (w : World) (o : Obj) : (w.alloc o).heap.size = w.heap.size + 1 := by show (w.heap.push o).size = _; simp

theorem run_box' {e : TypeId} {v : Value} : (Instr.box e v).run P w = .ok (.pointer (some ⟨w.heap.size, 0, none⟩)) (w.alloc (.cells v.cells e)) := by
  simp [Instr.box, newVar, newRow]

theorem box_sound (h : Rel P A0 w0 ρ s a w) {e : TypeId} {x : Operand} (ho : o.op = .box e x) (hk : pureK g s o K = some r) : Yld P A0 ρ s a w o K r := by
  simp only [pureK, ho] at hk
  split at hk
  · cases hk
  · split at hk
    · rename_i i hi
      simp only [Option.bind_eq_some_iff] at hk
      obtain ⟨y, hy, hk⟩ := hk
      have hs := (evalO_sound (T := g.T) h e x).1
      obtain ⟨l, h1, h2⟩ := valOf_nil hs hy
      have hc := cells_wrap h1
      refine ⟨.val (.ref i.ty) y, .pointer (some ⟨w.heap.size, 0, none⟩), w.alloc (.cells (a.eval x).cells e), ?_, below_alloc _ _, ?_, trivial, hk⟩
      · simp only [execOp, ho, Sem.run_bind, run_box', Result.andThen_ok, Sem.run_pure]
      · refine mk_ref (l := l) (fun hA => ?_) (by rw [size_alloc]; omega) ?_ (h1.mono (keep_alloc _ _ _) (fun _ _ h => h))
        · have := h.av_lt hA; omega
        · rw [h2, hc]
          have := new_cells w l.toArray e
          simpa using this
    · cases hk

theorem buildSlice_sound (hE : ∀ e ∈ g.E, FnOK P e) (hT : TabOk P g.T) (h : Rel P A0 w0 ρ s a w) {t : TypeId} {n : Nat} {ps : Array (Nat × Operand)} (ho : o.op = .buildSlice t n ps) (hk : pureK g s o K = some r) : Yld P A0 ρ s a w o K r := by
  simp only [pureK, ho] at hk
  split at hk
  · cases hk
  · split at hk
    · rename_i i hi
      split at hk
      · rename_i u hty
        split at hk
        · rename_i hz
          simp only [Bool.and_eq_true, decide_eq_true_eq] at hz
          simp only [Option.bind_eq_some_iff] at hk
          obtain ⟨y, hy, hk⟩ := hk
          obtain ⟨h1, h2, _⟩ := shape_slice (hT.shape hi) (.inl hty)
          obtain ⟨cs, h3, h4⟩ := elemsK_sound hE h _ _ _ _ (replicate_cells n hz.1) hy
          refine ⟨.val (.slice u) y, .slice (some ⟨w.heap.size, 0, none⟩) n n, w.alloc (.cells cs i.elem), ?_, below_alloc _ _, ?_, trivial, hk⟩
          · simp only [execOp, ho, Sem.run_bind]
            rw [run_buildSlice' h1 h2 hz.1 hz.2 (by rw [toList_mapM]; exact h3)]
            rfl
          · simp only [Cells] at h4
            obtain ⟨h5, h6, h7⟩ := h4
            refine ⟨[.slice (some ⟨w.heap.size, 0, none⟩) n n], ?_, rfl⟩
            simp only [Cells]
            have hn : n ≤ maxLen := by
              simp only [maxLen]
              have : u.size ≠ 0 := (shape_slice (hT.shape hi) (.inl hty)).2.2
              have : n * 1 ≤ n * u.size := Nat.mul_le_mul_left _ (by omega)
              omega
            refine ⟨some ⟨w.heap.size, 0, none⟩, n, by rw [h6], by rw [h6]; exact Nat.le_refl _, hn, fun j x hj => ?_⟩
            refine ⟨⟨w.heap.size, 0, none⟩, _, rfl, rfl, fun hA => ?_, by show w.heap.size < _; rw [size_alloc]; omega, ?_, (h7 j x hj).mono (keep_alloc _ _ _) (fun _ _ h => h)⟩
            · have := h.av_lt hA
              exact absurd this (Nat.lt_irrefl _)
            · exact (new_cells w cs i.elem).sub (j * u.size) u.size
        · cases hk
      · cases hk
    · cases hk

theorem capsOf_sound (h : Rel P A0 w0 ρ s a w) {T : List (TypeId × TyI)} : ∀ (xs : List Operand) (cs : List Cap), capsOf (xs.map fun x => evalO T 0 s x) = some cs → CapsRel P (Av A0 ρ s.chunks) w ρ cs (xs.map a.eval) ∧ CapsIn s.chunks.length cs := by
  intro xs
  induction xs with
  | nil => intro cs hc; simp [capsOf] at hc; subst hc; exact ⟨trivial, trivial⟩
  | cons x xs ih =>
    intro cs hc
    obtain ⟨h1, h2⟩ := evalO_sound (T := T) h 0 x
    simp only [List.map_cons] at hc ⊢
    cases he : evalO T 0 s x with
    | bptr β off =>
      rw [he] at hc h1 h2
      cases off with
      | zero =>
        simp only [capsOf, Option.map_eq_some_iff] at hc
        obtain ⟨ds, hd, rfl⟩ := hc
        obtain ⟨h3, h4⟩ := ih ds hd
        exact ⟨⟨h1, h3⟩, h2, h4⟩
      | succ off => simp [capsOf] at hc
    | val t y =>
      rw [he] at hc h1 h2
      simp only [capsOf, Option.map_eq_some_iff] at hc
      obtain ⟨ds, hd, rfl⟩ := hc
      obtain ⟨h3, h4⟩ := ih ds hd
      exact ⟨⟨h1, h3⟩, h4⟩
    | _ => rw [he] at hc; simp [capsOf] at hc

theorem methK_sound (hE : ∀ e ∈ g.E, FnOK P e) (h : Rel P A0 w0 ρ s a w) {f : FuncId} {first : List Operand} (hk : methK g s f first K = some r) :
    ∃ sv v, SVRel P (Av A0 ρ s.chunks) w ρ sv v ∧ sv.inn s.chunks.length ∧ K sv = some r ∧ v = .func (.func f) (first.map a.eval).toArray #[] := by
  unfold methK at hk
  split at hk
  · rename_i x ef t b tr m hfe
    obtain ⟨y, hy, hk⟩ := Option.bind_eq_some_iff.1 hk
    obtain ⟨ly, hly, hxv⟩ := valOf_nil (evalO_sound (T := g.T) h 0 x).1 hy
    obtain ⟨hm, rfl⟩ := findE_mem hfe
    obtain ⟨hEn, hF⟩ := hE _ hm
    refine ⟨.val (.func b tr) (fun z => m (y, z)), .func (.func ef) #[a.eval x] #[], ⟨_, .inr ⟨ef, #[a.eval x], #[], fun n => n < w.heap.size ∧ ¬ Av A0 ρ s.chunks n, rfl, hEn, fun n hn => ⟨hn.2, hn.1⟩, fun A2 w2 hG2 h5 h6 z lz q hz hq => ?_⟩, rfl⟩, trivial, hk, rfl⟩
    have hly' : Cells P t A2 w2 y ly := (hly.mono (w' := w2) (A' := fun n => ¬ (n < w.heap.size ∧ ¬ Av A0 ρ s.chunks n) ∧ A2 n) (fun n hn hnA => h5 n ⟨hn, hnA⟩) (fun n hn hn2 => Classical.byContradiction fun hc => hn2.1 ⟨hn, hc⟩)).mono (fun _ _ _ => rfl) (fun n _ hn2 => ⟨(h6 n hn2).2, hn2⟩)
    have := hF A2 w2 (y, z) (ly ++ lz) q hG2 (fun n hn => (h6 n hn).1) ⟨ly, lz, rfl, hly', hz⟩ hq
    have e1 : (ly ++ lz).take t.size = ly := by rw [← hly.length, List.take_left]
    have e2 : (ly ++ lz).drop t.size = lz := by rw [← hly.length, List.drop_left]
    simp only [Ty.group, e1, e2, ← hxv] at this
    have e3 : (#[a.eval x] ++ (b.group lz).toArray ++ #[] : Array Value) = (a.eval x :: b.group lz).toArray := by
      apply Array.toList_inj.1; simp
    rw [e3]
    exact this
  · cases hk

theorem makeFunc_sound (hE : ∀ e ∈ g.E, FnOK P e) (h : Rel P A0 w0 ρ s a w) {fn : Fn} {first caps : Array Operand} (ho : o.op = .makeFunc fn first caps) (hk : pureK g s o K = some r) : Yld P A0 ρ s a w o K r := by
  simp only [pureK, ho] at hk
  split at hk <;> try (cases hk; done)
  all_goals first
    | (rename_i f first' caps' heq
       obtain ⟨rfl, rfl, rfl⟩ : fn = .func f ∧ first = first' ∧ caps = caps' := by cases heq; exact ⟨rfl, rfl, rfl⟩
       split at hk
       · rename_i hf
         simp only [Option.bind_eq_some_iff] at hk
         obtain ⟨cs, hc, hk⟩ := hk
         obtain ⟨h1, h2⟩ := capsOf_sound h _ _ hc
         have hf0 : first = #[] := Array.eq_empty_of_size_eq_zero hf
         refine Yld.of_run (m := Instr.makeFunc (.func f) (first.map a.eval) (caps.map a.eval)) (sv := .clo f cs) (by simp only [execOp, ho]) (v := .func (.func f) #[] (caps.toList.map a.eval).toArray) ?_ ⟨_, rfl, h1⟩ h2 hk
         rw [hf0]
         have : caps.map a.eval = (caps.toList.map a.eval).toArray := by apply Array.toList_inj.1; simp
         simp [Instr.makeFunc, this]
       · split at hk
         · rename_i hc0
           obtain ⟨sv, v, m1, m2, m3, rfl⟩ := methK_sound hE h hk
           have hc1 : caps = #[] := Array.eq_empty_of_size_eq_zero hc0
           refine Yld.of_run (m := Instr.makeFunc (.func f) (first.map a.eval) (caps.map a.eval)) (sv := sv) (by simp only [execOp, ho]) (v := .func (.func f) (first.toList.map a.eval).toArray #[]) ?_ m1 m2 m3
           rw [hc1]
           have : first.map a.eval = (first.toList.map a.eval).toArray := by apply Array.toList_inj.1; simp
           simp [Instr.makeFunc, this]
         · cases hk)
    | (simp_all; done)

/-! ### Cuts -/
theorem run_sliceBound {k : IntKind} {n : Int} {y : Nat} {c : BoundsCode} (h0 : 0 ≤ n) (h1 : n ≤ (y : Int)) : (Instr.sliceBound (.int k n) y c).run P w = .ok n.toNat w := by
  simp [Instr.sliceBound, asIntOf, h0, h1]

theorem bound_sound (h : Rel P A0 w0 ρ s a w) {T : List (TypeId × TyI)} {x : Option Operand} {b : Option Int} (hb : bound T s x = some b) :
    (x = none ∧ b = none) ∨ ∃ y n k, x = some y ∧ b = some n ∧ a.eval y = .int k n := by
  cases x with
  | none => simp [bound] at hb; exact .inl ⟨rfl, hb.symm⟩
  | some y =>
    simp only [bound, Option.map_eq_some_iff] at hb
    obtain ⟨n, hn, rfl⟩ := hb
    have hs := (evalO_sound (T := T) h 0 y).1
    cases he : evalO T 0 s y <;> rw [he] at hn <;> try (simp [intOfSV] at hn; done)
    rename_i t z
    cases t <;> try (simp [intOfSV] at hn; done)
    rename_i k
    simp [intOfSV] at hn
    subst hn
    rw [he] at hs
    exact .inr ⟨y, z, k, rfl, rfl, int_inv hs⟩

/-- The bounds of a cut. -/
theorem sliceK_sound {α : Type} {xs : List α} {l h : Option Int} {K : List α → Option R} (hk : sliceK xs l h K = some r) :
    ∃ lo hi : Nat, lo ≤ hi ∧ hi ≤ xs.length ∧ K ((xs.take hi).drop lo) = some r ∧
      (l = none ∧ lo = 0 ∨ ∃ n, l = some n ∧ 0 ≤ n ∧ lo = n.toNat ∧ n ≤ (hi : Int)) ∧ (h = none ∧ hi = xs.length ∨ ∃ n, h = some n ∧ 0 ≤ n ∧ hi = n.toNat ∧ n ≤ (xs.length : Int)) := by
  unfold sliceK at hk
  split at hk
  · exact ⟨0, xs.length, Nat.zero_le _, Nat.le_refl _, by simpa using hk, .inl ⟨rfl, rfl⟩, .inl ⟨rfl, rfl⟩⟩
  · rename_i n
    cases hb : (decide (0 ≤ n) && decide (n ≤ (xs.length : Int))) with
    | false => simp [hb] at hk
    | true =>
      simp only [hb, cond_true] at hk
      simp only [Bool.and_eq_true, decide_eq_true_eq] at hb
      exact ⟨n.toNat, xs.length, by omega, Nat.le_refl _, by simpa using hk, .inr ⟨n, rfl, hb.1, rfl, hb.2⟩, .inl ⟨rfl, rfl⟩⟩
  · rename_i n
    cases hb : (decide (0 ≤ n) && decide (n ≤ (xs.length : Int))) with
    | false => simp [hb] at hk
    | true =>
      simp only [hb, cond_true] at hk
      simp only [Bool.and_eq_true, decide_eq_true_eq] at hb
      exact ⟨0, n.toNat, Nat.zero_le _, by omega, by simpa using hk, .inl ⟨rfl, rfl⟩, .inr ⟨n, rfl, hb.1, rfl, hb.2⟩⟩
  · rename_i m n
    cases hb : (decide (0 ≤ m) && decide (m ≤ n) && decide (n ≤ (xs.length : Int))) with
    | false => simp [hb] at hk
    | true =>
      simp only [hb, cond_true] at hk
      simp only [Bool.and_eq_true, decide_eq_true_eq] at hb
      exact ⟨m.toNat, n.toNat, by omega, by omega, hk, .inr ⟨m, rfl, hb.1.1, rfl, by omega⟩, .inr ⟨n, rfl, by omega, rfl, hb.2⟩⟩

theorem run_sliceBounds {sl : Bool} {len cap : Nat} {lo hi : Option Operand} {l h : Option Int} {x y : Nat}
    (hl : (lo = none ∧ l = none) ∨ ∃ y n k, lo = some y ∧ l = some n ∧ a.eval y = .int k n)
    (hh : (hi = none ∧ h = none) ∨ ∃ y n k, hi = some y ∧ h = some n ∧ a.eval y = .int k n)
    (h1 : l = none ∧ x = 0 ∨ ∃ n, l = some n ∧ 0 ≤ n ∧ x = n.toNat ∧ n ≤ (y : Int)) (h2 : h = none ∧ y = len ∨ ∃ n, h = some n ∧ 0 ≤ n ∧ y = n.toNat ∧ n ≤ (len : Int)) (hlc : len ≤ cap) :
    (Instr.sliceBounds sl len cap (lo.map a.eval) (hi.map a.eval) none).run P w = .ok (x, y, cap) w := by
  have eh : ∀ z n k, hi = some z → h = some n → a.eval z = .int k n → ∀ c, (Instr.sliceBound (.int k n) cap c).run P w = .ok y w := by
    intro z n k _ e _ c
    rcases h2 with ⟨h, _⟩ | ⟨m, h, h3, h4, h5⟩
    · rw [e] at h; cases h
    · rw [e] at h; cases h
      rw [h4]
      exact run_sliceBound h3 (by omega)
  have el : ∀ z n k, lo = some z → l = some n → a.eval z = .int k n → ∀ c, (Instr.sliceBound (.int k n) y c).run P w = .ok x w := by
    intro z n k _ e _ c
    rcases h1 with ⟨h, _⟩ | ⟨m, h, h3, h4, h5⟩
    · rw [e] at h; cases h
    · rw [e] at h; cases h
      rw [h4]
      exact run_sliceBound h3 h5
  have eh0 : h = none → y = len := by
    intro e
    rcases h2 with ⟨_, h⟩ | ⟨m, h, _⟩
    · exact h
    · rw [e] at h; cases h
  have el0 : l = none → x = 0 := by
    intro e
    rcases h1 with ⟨_, h⟩ | ⟨m, h, _⟩
    · exact h
    · rw [e] at h; cases h
  unfold Instr.sliceBounds
  rcases hl with ⟨rfl, rfl⟩ | ⟨z, n, k, rfl, rfl, hz⟩ <;> rcases hh with ⟨rfl, rfl⟩ | ⟨z', n', k', rfl, rfl, hz'⟩
  · simp [eh0 rfl, el0 rfl]
  · simp [el0 rfl, hz', eh z' n' k' rfl rfl hz']
  · have := eh0 rfl
    subst this
    simp [hz, el z n k rfl rfl hz]
  · simp [hz, hz', eh z' n' k' rfl rfl hz', el z n k rfl rfl hz]

theorem take_drop_get {α : Type} (xs : List α) (lo hi i : Nat) (x : α) (h : ((xs.take hi).drop lo)[i]? = some x) : xs[lo + i]? = some x := by
  rw [List.getElem?_drop, List.getElem?_take] at h
  split at h
  · exact h
  · cases h

theorem slice_cut {A : Nat → Prop} {u : Ty} {xs : List u.den} {p : Option Addr} {c lo hi : Nat} (hlo : lo ≤ hi) (hhi : hi ≤ xs.length) (hc : xs.length ≤ c) (hcm : c ≤ maxLen)
    (h3 : ∀ (i : Nat) (x : u.den), xs[i]? = some x → ∃ (a : Addr) (l' : List Value), p = some a ∧ a.spot = none ∧ ¬ A a.block ∧ a.block < w.heap.size ∧ CellsAt w a.block (a.off + i * u.size) l' ∧ Cells P u A w x l') :
    Cells P (.slice u) A w ((xs.take hi).drop lo) [.slice (if c = lo then p else p.map (·.add (lo * u.size))) (hi - lo) (c - lo)] := by
  have hlen : ((xs.take hi).drop lo).length = hi - lo := by simp; omega
  simp only [Cells]
  refine ⟨_, c - lo, by rw [hlen], by rw [hlen]; omega, by omega, fun i x hx => ?_⟩
  have hi' := (List.getElem?_eq_some_iff.1 hx).1
  rw [hlen] at hi'
  obtain ⟨a, l', rfl, hs, h4, h5, h6, h7⟩ := h3 _ _ (take_drop_get xs lo hi i x hx)
  rw [if_neg (by omega)]
  obtain ⟨b, off, sp⟩ := a
  simp only at hs
  subst hs
  refine ⟨⟨b, off + lo * u.size, none⟩, l', by simp [addr_add], rfl, h4, h5, ?_, h7⟩
  simp only
  rw [Nat.add_assoc, ← Nat.add_mul]
  exact h6

theorem run_slice_slice {t e : TypeId} {u : Ty} {p : Option Addr} {len c x y : Nat} {lo hi : Option Value} (hu : P.underlying t = some (.slice e)) (hF : Fits P e u)
    (hb : (Instr.sliceBounds true len c lo hi none).run P w = .ok (x, y, c) w) :
    (Instr.sliceAt t (.slice p len c) lo hi none).run P w = .ok (.slice (if c = x then p else p.map (·.add (x * u.size))) (y - x) (c - x)) w := by
  obtain ⟨inf, d, h1, h2, h3, _⟩ := hF.ex
  simp [Instr.sliceAt, Instr.slice, run_underlying hu, hb, run_sizeOf h1, h3]

theorem sliceOp_sound (hT : TabOk P g.T) (h : Rel P A0 w0 ρ s a w) {t : TypeId} {x : Operand} {lo hi mx : Option Operand} (ho : o.op = .slice t x lo hi mx) (hk : pureK g s o K = some r) : Yld P A0 ρ s a w o K r := by
  simp only [pureK, ho] at hk
  have hx := (evalO_sound (T := g.T) h t x).1
  split at hk
  · rename_i l hh hl1 hl2
    have hex : execOp a.eval o = (do pure (.value (← Instr.sliceAt t (a.eval x) (lo.map a.eval) (hi.map a.eval) none))) := by simp only [execOp, ho, Option.map_none]
    have b1 := bound_sound h hl1
    have b2 := bound_sound h hl2
    split at hk
    · rename_i i u xs hi he
      rw [he] at hx
      split at hk
      · rename_i hel
        obtain ⟨x1, y1, h1, h2, h3, h4, h5⟩ := sliceK_sound hk
        obtain ⟨h6, h7, _⟩ := shape_slice (hT.shape hi) (elemIs_or hel)
        obtain ⟨m, hm, hv⟩ := hx
        simp only [Cells] at hm
        obtain ⟨p, c, rfl, h8, h9, h10⟩ := hm
        have hb := run_sliceBounds (P := P) (w := w) (sl := true) (cap := c) b1 b2 h4 h5 h8
        exact Yld.of_run (sv := .val (.slice u) _) hex (by rw [hv]; exact run_slice_slice h6 h7 hb) ⟨_, slice_cut h1 h2 h8 h9 h10, rfl⟩ trivial h3
      · cases hk
    · rename_i i u xs hi he
      rw [he] at hx
      split at hk
      · rename_i hel
        obtain ⟨x1, y1, h1, h2, h3, h4, h5⟩ := sliceK_sound hk
        obtain ⟨h6, h7, _⟩ := shape_slice (hT.shape hi) (elemIs_or hel)
        obtain ⟨m, hm, hv⟩ := hx
        simp only [Cells] at hm
        obtain ⟨p, c, rfl, _, _, h8, h9, h10⟩ := hm
        have hb := run_sliceBounds (P := P) (w := w) (sl := true) (cap := c) b1 b2 h4 h5 h8
        exact Yld.of_run (sv := .val (.slice u) _) hex (by rw [hv]; exact run_slice_slice h6 h7 hb) ⟨_, slice_cut h1 h2 h8 h9 h10, rfl⟩ trivial h3
      · cases hk
    · rename_i i bs hi he
      rw [he] at hx
      split at hk
      · rename_i hty
        obtain ⟨x1, y1, h1, h2, h3, h4, h5⟩ := sliceK_sound hk
        have hu := shape_str (hT.shape hi) hty
        have hb := run_sliceBounds (P := P) (w := w) (sl := false) (cap := (bs : List UInt8).length) b1 b2 h4 h5 (Nat.le_refl _)
        refine Yld.of_run (sv := .val .str _) hex (v := .string ⟨(((bs : List UInt8).take y1).drop x1).toArray⟩) ?_ (mk_str _) trivial h3
        rw [str_inv hx]
        have hs : (⟨(bs : List UInt8).toArray⟩ : ByteArray).size = (bs : List UInt8).length := by simp [ByteArray.size]
        have hex : (⟨(bs : List UInt8).toArray⟩ : ByteArray).extract x1 y1 = ⟨(((bs : List UInt8).take y1).drop x1).toArray⟩ := by
          rw [ByteArray.ext_iff]
          simp [List.extract_eq_take_drop, List.drop_take]
        simp [Instr.sliceAt, Instr.slice, run_underlying hu, hs, hb, hex]
      · cases hk
    · cases hk
  · cases hk
end
end Go.Vx
