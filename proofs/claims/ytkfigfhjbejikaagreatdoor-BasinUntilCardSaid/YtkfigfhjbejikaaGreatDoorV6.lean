/- V6: operations that turn no block of one's own: what they yield is sound. -/
import Derived.Test.YtkfigfhjbejikaaGreatDoorV5
set_option linter.all false
namespace Go.Vx
open Go.RowKit
variable [GT]

section
variable {P : Program} {A0 : Nat → Prop} {w0 : Base} {ρ : Places} {s : St} {a : Act} {w w' : World} {g : G} {R : Type} {K : SV → Option R} {r : R} {o : Oper}

/-- What an operation yields, and in which world. -/
def Yld (P : Program) (A0 : Nat → Prop) (ρ : Places) (s : St) (a : Act) (w : World) (o : Oper) (K : SV → Option R) (r : R) : Prop :=
  ∃ sv v w', (execOp a.eval o).run P w = .ok (.value v) w' ∧ Below w.heap.size w w' ∧ SVRel P (Av A0 ρ s.chunks) w' ρ sv v ∧ sv.inn s.chunks.length ∧ K sv = some r

theorem Yld.here {sv : SV} {v : Value} (h1 : (execOp a.eval o).run P w = .ok (.value v) w) (h2 : SVRel P (Av A0 ρ s.chunks) w ρ sv v) (h3 : sv.inn s.chunks.length) (h4 : K sv = some r) : Yld P A0 ρ s a w o K r :=
  ⟨sv, v, w, h1, Below.refl _ _, h2, h3, h4⟩

theorem int_inv {A : Nat → Prop} {k : IntKind} {n : Int} {v : Value} (h : SVRel P A w ρ (.val (.int k) n) v) : v = .int k n := by
  obtain ⟨l, hl, rfl⟩ := h
  simp only [Cells] at hl; subst hl; rfl

theorem bool_inv {A : Nat → Prop} {b : Bool} {v : Value} (h : SVRel P A w ρ (.val .bool b) v) : v = .bool b := by
  obtain ⟨l, hl, rfl⟩ := h
  simp only [Cells] at hl; subst hl; rfl

theorem str_inv {A : Nat → Prop} {b : List UInt8} {v : Value} (h : SVRel P A w ρ (.val .str b) v) : v = .string ⟨b.toArray⟩ := by
  obtain ⟨l, hl, rfl⟩ := h
  simp only [Cells] at hl; subst hl; rfl

theorem mk_int {A : Nat → Prop} (k : IntKind) (n : Int) : SVRel P A w ρ (.val (.int k) n) (.int k n) := ⟨_, rfl, rfl⟩
theorem mk_bool {A : Nat → Prop} (b : Bool) : SVRel P A w ρ (.val .bool b) (.bool b) := ⟨_, rfl, rfl⟩
theorem mk_str {A : Nat → Prop} (b : List UInt8) : SVRel P A w ρ (.val .str b) (.string ⟨b.toArray⟩) := ⟨_, rfl, rfl⟩

theorem ref_inv {A : Nat → Prop} {t : Ty} {x : t.den} {v : Value} (h : SVRel P A w ρ (.val (.ref t) x) v) :
    ∃ b off l, v = .pointer (some ⟨b, off, none⟩) ∧ ¬ A b ∧ b < w.heap.size ∧ CellsAt w b off l ∧ Cells P t A w x l := by
  obtain ⟨l, hl, rfl⟩ := h
  simp only [Cells] at hl
  obtain ⟨⟨b, off, sp⟩, l', rfl, hs, h1, h2, h3, h4⟩ := hl
  simp only at hs
  subst hs
  exact ⟨b, off, l', rfl, h1, h2, h3, h4⟩

theorem mk_ref {A : Nat → Prop} {t : Ty} {x : t.den} {b off : Nat} {l : List Value} (h1 : ¬ A b) (h2 : b < w.heap.size) (h3 : CellsAt w b off l) (h4 : Cells P t A w x l) :
    SVRel P A w ρ (.val (.ref t) x) (.pointer (some ⟨b, off, none⟩)) :=
  ⟨[.pointer (some ⟨b, off, none⟩)], ⟨⟨b, off, none⟩, l, rfl, rfl, h1, h2, h3, h4⟩, rfl⟩

theorem CellsAt.sub {b off : Nat} {l : List Value} (h : CellsAt w b off l) (k n : Nat) : CellsAt w b (off + k) ((l.drop k).take n) := by
  intro j v hj
  rw [List.getElem?_take] at hj
  split at hj
  · rw [List.getElem?_drop] at hj
    have := h (k + j) v hj
    rwa [← Nat.add_assoc] at this
  · cases hj

/-! ### Arithmetic -/
theorem bitsOp_run (k : IntKind) (op : BinOp) (x y : Int) (hop : op = .and ∨ op = .or ∨ op = .xor ∨ op = .andNot) : (Op.intBits op k x y).run P w = .ok (.int k (bitsOp k op x y)) w := by
  rcases hop with rfl | rfl | rfl | rfl <;> simp [Op.intBits, bitsOp]

theorem str_toList (b : List UInt8) : (⟨b.toArray⟩ : ByteArray).toList = b := by
  simp [ByteArray.toList_eq]

/-- What a pure reckoning yields. -/
def Rk (P : Program) (w : World) (ρ : Places) (m : Sem Value) (K : SV → Option R) (r : R) : Prop :=
  ∃ sv v, m.run P w = .ok v w ∧ (∀ A, SVRel P A w ρ sv v) ∧ (∀ n, sv.inn n) ∧ K sv = some r

theorem intK_sound {k : IntKind} {x y : Int} {op : BinOp} {t : TypeId} (h : intK op k x y K = some r) : Rk P w ρ (Go.binOp op t (.int k x) (.int k y)) K r := by
  have mi : ∀ n : Int, (Go.binOp op t (.int k x) (.int k y)).run P w = .ok (.int k n) w → K (.val (.int k) n) = some r → Rk P w ρ (Go.binOp op t (.int k x) (.int k y)) K r :=
    fun n h1 h2 => ⟨_, _, h1, fun A => mk_int k n, fun _ => trivial, h2⟩
  have mb : ∀ n : Bool, (Go.binOp op t (.int k x) (.int k y)).run P w = .ok (.bool n) w → K (.val .bool n) = some r → Rk P w ρ (Go.binOp op t (.int k x) (.int k y)) K r :=
    fun n h1 h2 => ⟨_, _, h1, fun A => mk_bool n, fun _ => trivial, h2⟩
  unfold intK at h
  cases op <;> simp only [reduceCtorEq] at h
  case add => exact mi _ (by simp [Go.binOp, Op.intArith]) h
  case sub => exact mi _ (by simp [Go.binOp, Op.intArith]) h
  case mul => exact mi _ (by simp [Go.binOp, Op.intArith]) h
  case quo =>
    cases hy : (y == 0) with
    | true => simp [hy] at h
    | false =>
      simp only [hy, cond_false] at h
      have hy0 : y ≠ 0 := by simpa using hy
      exact mi _ (by simp [Go.binOp, Op.intDiv, hy0]) h
  case rem =>
    cases hy : (y == 0) with
    | true => simp [hy] at h
    | false =>
      simp only [hy, cond_false] at h
      have hy0 : y ≠ 0 := by simpa using hy
      exact mi _ (by simp [Go.binOp, Op.intDiv, hy0]) h
  case and => exact mi _ (by simp only [Go.binOp, ne_eq, not_true_eq_false, if_false]; exact bitsOp_run k _ x y (by simp)) h
  case or => exact mi _ (by simp only [Go.binOp, ne_eq, not_true_eq_false, if_false]; exact bitsOp_run k _ x y (by simp)) h
  case xor => exact mi _ (by simp only [Go.binOp, ne_eq, not_true_eq_false, if_false]; exact bitsOp_run k _ x y (by simp)) h
  case andNot => exact mi _ (by simp only [Go.binOp, ne_eq, not_true_eq_false, if_false]; exact bitsOp_run k _ x y (by simp)) h
  case eql => exact mb _ (by simp [Go.binOp, Op.intCmp]) h
  case neq => exact mb _ (by simp [Go.binOp, Op.intCmp]) h
  case lss => exact mb _ (by simp [Go.binOp, Op.intCmp]) h
  case leq => exact mb _ (by simp [Go.binOp, Op.intCmp]) h
  case gtr => exact mb _ (by simp [Go.binOp, Op.intCmp]) h
  case geq => exact mb _ (by simp [Go.binOp, Op.intCmp]) h

theorem shiftK_sound {k j : IntKind} {x y : Int} {op : BinOp} {t : TypeId} (hop : op = .shl ∨ op = .shr) (h : shiftK op k x y K = some r) : Rk P w ρ (Go.binOp op t (.int k x) (.int j y)) K r := by
  have mi : ∀ n : Int, (Go.binOp op t (.int k x) (.int j y)).run P w = .ok (.int k n) w → K (.val (.int k) n) = some r → Rk P w ρ (Go.binOp op t (.int k x) (.int j y)) K r :=
    fun n h1 h2 => ⟨_, _, h1, fun A => mk_int k n, fun _ => trivial, h2⟩
  unfold shiftK at h
  cases hy : decide (y < 0) with
  | true => simp [hy] at h
  | false =>
    simp only [hy, cond_false] at h
    have hy0 : ¬ y < 0 := by simpa using hy
    rcases hop with rfl | rfl
    · exact mi _ (by simp [Go.binOp, Op.shift, hy0]) h
    · exact mi _ (by simp [Go.binOp, Op.shift, hy0]) h

theorem strK_sound {x y : List UInt8} {op : BinOp} {t : TypeId} (h : strK op x y K = some r) : Rk P w ρ (Go.binOp op t (.string ⟨x.toArray⟩) (.string ⟨y.toArray⟩)) K r := by
  have mb : ∀ n : Bool, (Go.binOp op t (.string ⟨x.toArray⟩) (.string ⟨y.toArray⟩)).run P w = .ok (.bool n) w → K (.val .bool n) = some r → Rk P w ρ (Go.binOp op t (.string ⟨x.toArray⟩) (.string ⟨y.toArray⟩)) K r :=
    fun n h1 h2 => ⟨_, _, h1, fun A => mk_bool n, fun _ => trivial, h2⟩
  unfold strK at h
  cases op <;> simp only [reduceCtorEq] at h
  case add =>
    cases hy : decide (x.length + y.length < strMax) with
    | false => simp [hy] at h
    | true =>
      simp only [hy, cond_true] at h
      have hl : x.length + y.length < strMax := by simpa using hy
      refine ⟨_, _, ?_, fun A => mk_str (x ++ y), fun _ => trivial, h⟩
      have : ¬ ((x.length + y.length : Nat) : Int) > IntKind.i64.max := by
        simp only [strMax] at hl
        simp [IntKind.max, IntKind.signed, IntKind.bits]; omega
      simp only [Go.binOp, Op.stringOp, ByteArray.size, List.size_toArray, if_neg this, Sem.run_pure]
      congr 2
  case eql => exact mb _ (by simp [Go.binOp, Op.stringOp]) h
  case neq => exact mb _ (by simp [Go.binOp, Op.stringOp]) h
  case lss => exact mb _ (by simp [Go.binOp, Op.stringOp]) h
  case leq => exact mb _ (by simp [Go.binOp, Op.stringOp]) h
  case gtr => exact mb _ (by simp [Go.binOp, Op.stringOp]) h
  case geq => exact mb _ (by simp [Go.binOp, Op.stringOp]) h

theorem shape_bool {t : TypeId} {i : TyI} (h : shapeB P t i = true) (hty : i.ty = .bool) : P.underlying t = some .bool := by
  unfold shapeB at h
  rw [hty] at h
  cases hu : P.underlying t with
  | none => rw [hu] at h; cases h
  | some d => rw [hu] at h; cases d <;> first | rfl | cases h

theorem shape_slice {t : TypeId} {i : TyI} {u : Ty} (h : shapeB P t i = true) (hty : i.ty = .slice u ∨ i.ty = .nslice u) : P.underlying t = some (.slice i.elem) ∧ Fits P i.elem u ∧ u.size ≠ 0 := by
  unfold shapeB at h
  cases hu : P.underlying t with
  | none => rcases hty with e | e <;> rw [e, hu] at h <;> cases h
  | some d =>
    rcases hty with e | e <;> rw [e, hu] at h <;> cases d <;> first
      | (simp only [Bool.and_eq_true, beq_iff_eq, Bool.not_eq_true', beq_eq_false_iff_ne] at h
         exact ⟨by rw [h.1.1], fits_of (h.1.1 ▸ h.1.2), h.2⟩)
      | cases h

theorem run_equalIn_bool {t : TypeId} (d : Nat) (x y : Bool) (hu : P.underlying t = some .bool) : (Op.equalIn (d + 1) t (.bool x) (.bool y)).run P w = .ok (x == y) w := by
  simp [Op.equalIn, run_underlying hu]

theorem run_equalIn_slice {t e : TypeId} (d : Nat) (p : Option Addr) (n c : Nat) (hu : P.underlying t = some (.slice e)) : (Op.equalIn (d + 1) t (.slice p n c) (.slice none 0 0)).run P w = .ok p.isNone w := by
  cases p <;> simp [Op.equalIn, run_underlying hu]

theorem run_eq_of {t : TypeId} {x y : Value} {b : Bool} (h : ∀ d, (Op.equalIn (d + 1) t x y).run P w = .ok b w) : (Op.equal t x y).run P w = .ok b w := h 9999

theorem binK_sound {A : Nat → Prop} (hT : TabOk P g.T) {t : TypeId} {i : TyI} (hl : lookT g.T t = some i) {op : BinOp} {sx sy : SV} {vx vy : Value} (hx : SVRel P A w ρ sx vx) (hy : SVRel P A w ρ sy vy)
    (hp : ∀ t p, t.agg = true → sx ≠ .val t p) (h : binK i.ty op sx sy K = some r) : Rk P w ρ (Go.binOp op t vx vy) K r := by
  unfold binK at h
  split at h
  · rw [int_inv hx, int_inv hy]
    split at h
    · exact shiftK_sound (.inl rfl) h
    · exact shiftK_sound (.inr rfl) h
    · split at h
      · rename_i e; subst e; exact intK_sound h
      · cases h
  · rw [str_inv hx, str_inv hy]
    exact strK_sound h
  · rw [bool_inv hx, bool_inv hy]
    split at h
    · rename_i p q hty
      have hu := shape_bool (hT.shape hl) hty
      have he := run_eq_of (w := w) (fun d => run_equalIn_bool (P := P) (w := w) d p q hu)
      split at h
      · exact ⟨_, .bool (p == q), by simp only [Go.binOp, Sem.run_bind, he, Result.andThen_ok, Sem.run_pure], fun A => mk_bool _, fun _ => trivial, h⟩
      · exact ⟨_, .bool (!(p == q)), by simp only [Go.binOp, Sem.run_bind, he, Result.andThen_ok, Sem.run_pure], fun A => mk_bool _, fun _ => trivial, h⟩
      · cases h
    · cases h
  · rename_i u x
    obtain ⟨l, hc, rfl⟩ := hx
    simp only [Cells] at hc
    obtain ⟨p, c, rfl, h0, _⟩ := hc
    simp only [SVRel] at hy
    subst hy
    have hn : p.isNone = Option.isNone x := by
      cases p <;> cases x <;> simp_all
    have he : ∀ e, P.underlying t = some (.slice e) → (Op.equal t (.slice p (List.length (Option.getD x [])) c) (.slice none 0 0)).run P w = .ok (Option.isNone x) w := fun e hu => by
      rw [← hn]
      exact run_eq_of (w := w) (fun d => run_equalIn_slice (P := P) (w := w) d p (List.length (Option.getD x [])) c hu)
    split at h
    · rename_i v hty
      have he := he _ (shape_slice (hT.shape hl) (.inl hty)).1
      split at h
      · exact ⟨_, .bool (Option.isNone x), by simp only [Ty.wrap, Ty.agg, Bool.false_eq_true, if_false, List.headD_cons, Go.binOp, Sem.run_bind, he, Result.andThen_ok, Sem.run_pure], fun A => mk_bool _, fun _ => trivial, h⟩
      · exact ⟨_, .bool (!Option.isNone x), by simp only [Ty.wrap, Ty.agg, Bool.false_eq_true, if_false, List.headD_cons, Go.binOp, Sem.run_bind, he, Result.andThen_ok, Sem.run_pure], fun A => mk_bool _, fun _ => trivial, h⟩
      · cases h
    · rename_i v hty
      have he := he _ (shape_slice (hT.shape hl) (.inr hty)).1
      split at h
      · exact ⟨_, .bool (Option.isNone x), by simp only [Ty.wrap, Ty.agg, Bool.false_eq_true, if_false, List.headD_cons, Go.binOp, Sem.run_bind, he, Result.andThen_ok, Sem.run_pure], fun A => mk_bool _, fun _ => trivial, h⟩
      · exact ⟨_, .bool (!Option.isNone x), by simp only [Ty.wrap, Ty.agg, Bool.false_eq_true, if_false, List.headD_cons, Go.binOp, Sem.run_bind, he, Result.andThen_ok, Sem.run_pure], fun A => mk_bool _, fun _ => trivial, h⟩
      · cases h
    · cases h
  · exact absurd rfl (hp _ _ rfl)
  · exact absurd rfl (hp _ _ rfl)
  · cases h

theorem unK_sound {A : Nat → Prop} {op : UnOp} {sx : SV} {vx : Value} (hx : SVRel P A w ρ sx vx) (h : unK op sx K = some r) : Rk P w ρ (Op.unary op vx) K r := by
  unfold unK at h
  split at h
  · rw [int_inv hx]
    exact ⟨_, _, by simp [Op.unary, Op.intArith], fun A => mk_int _ _, fun _ => trivial, h⟩
  · rename_i k n
    rw [int_inv hx]
    exact ⟨_, _, by simp only [Op.unary]; exact bitsOp_run k .xor _ n (by simp), fun A => mk_int _ _, fun _ => trivial, h⟩
  · rw [bool_inv hx]
    exact ⟨_, _, by simp [Op.unary], fun A => mk_bool _, fun _ => trivial, h⟩
  · cases h

/-- The guard on equations lets the values of the executor by. -/
theorem run_eqGuard {op : BinOp} {t : TypeId} {x y : Operand} {u v : Value} (h : (∀ cs, u ≠ .agg cs) ∧ (u ≠ .nilIface ∨ v ≠ .nilIface ∨ y = .const .nilIface)) : (eqGuard op t x y u v).run P w = .ok () w := by
  unfold eqGuard
  revert h
  have hm : ((∀ cs, u ≠ .agg cs) ∧ (u ≠ .nilIface ∨ v ≠ .nilIface ∨ y = .const .nilIface)) → ((match u, v with
    | .nilIface, .nilIface => do
      if (x matches .const _) || (y matches .const _) then return
      if ← Op.eqGuardIn Op.maxDepth t u v then unsupported (.noEntry "binop/eql: two nil values of an interface type with methods, neither of them the literal nil")
    | .agg _, .agg _ => do
      if !(← program).eqGuardType (← program).depth t then return
      if ← Op.eqGuardIn Op.maxDepth t u v then unsupported (.noEntry "binop/eql: two nil values of an interface type with methods, in a part of a struct or an array")
    | _, _ => pure ()) : Sem Unit).run P w = .ok () w := by
    intro h
    split
    · rcases h.2 with h | h | h
      · exact absurd rfl h
      · exact absurd rfl h
      · subst h; simp
    · exact absurd rfl (h.1 _)
    · simp
  intro h
  cases op <;> first | exact hm h | simp
end
end Go.Vx
