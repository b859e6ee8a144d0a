/- BO: a copy of numbers is a list in memory of its own. -/
import Derived.Test.YtohhmdogfjmlcaaGreatBA

set_option linter.all false
set_option maxRecDepth 1000000
namespace Go.Tw
open Go.Vx Go.Vx.B Go.Proofs Go.RowKit Go.Lib

noncomputable def intsO_e : Entry := { z0o_e with own := some (3, .int .i64) }

theorem y4e {P : Program} {w : World} {ops : Array Oper} {rest : List Oper} {o : Oper} {a : Act} {Q : Exit → Act → World → Prop} (hgd : o.guard = none) (s x : Operand) (t : TypeId)
    (ho : o.op = .call { callee := .builtin .append, args := #[s, x], argTypes := #[t, t] }) {e : TypeId} {i : TypeInfo} (ht : P.underlying t = some (.slice e)) (hi : P.info? e = some i)
    {p q : Option Addr} {n c c' : Nat} (hs : a.eval s = .slice p n c) (hx : a.eval x = .slice q 0 c') (hn : n ≤ c) (h : wpList P ops Q rest (a.put o.dst (.slice p n c)) w) : wpList P ops Q (o :: rest) a w :=
  wpList_plain hgd fun _ hK => by
    have hr := y34 (P := P) (w := w) (ty := o.type) ht hi (p := p) (q := q) (c' := c') hn
    unfold Oper.wp execOp
    simp only [ho, resolve, invoke, builtin, Sem.run_bind, Sem.run_pure, Result.andThen_ok, List.map_toArray, List.map_cons, List.map_nil, hs, hx, hr]
    exact hK _ _ h

set_option maxHeartbeats 2000000 in
theorem yBl (i0 : TypeInfo) (z : Value) (hi : Tryz.prog.info? 3 = some i0) (hz0 : i0.zero = some z) (hz1 : i0.size = 1) (hzs : z.cells.size = 1)
    (hz2 : i0.bytes ≤ 2048) (p : Option Addr) (n c : Nat) (news : List Value) (w : World) (hp : p = none → n = 0) (hl : news.length = n * 1) (hn : n ≤ memMax)
    (hc : ∀ a, p = some a → ∀ j u, news[j]? = some u → w.cell? (a.add j) = some u) (h1 : ∀ u ∈ news, u.oneCell' = true) :
    Calls Tryz.prog 50 #[.slice p n c] w fun e w' => ∃ v', e = .returned v' ∧ w'.ownsRow w.heap.size 3 1 v' n news ∧ Below w.heap.size w w' := by
  have hmx : n ≤ maxLen := by simp only [memMax] at hn; simp only [maxLen]; omega
  have hbig : n * i0.bytes ≤ 140737488355328 := by
    have : n * i0.bytes ≤ 68719476736 * 2048 := Nat.mul_le_mul hn hz2
    omega
  have mixed := yC
  have u28 := Tryz.underlying28; have a28 := Tryz.isAgg28; have z28 := Tryz.sizeOf28; have v28 := Tryz.zeroValue28
  have r28 : ∀ w, Sem.run Tryz.prog (underlying 28) w = .ok (TypeDesc.slice 3) w := run_underlying Tryz.underlying28
  cases p with
  | none =>
    have h0 := hp rfl
    subst h0
    have hnews : news = [] := List.eq_nil_of_length_eq_zero (by simpa using hl)
    subst hnews
    go_enter Tryz.func50, Tryz.ntmps50
    go_wp2_with (at_builtin; refine y4e rfl _ _ 28 rfl Tryz.underlying28 hi rfl rfl (Nat.le_refl _) ?_)
    go_wp2
    go_ret
    refine ⟨_, rfl, World.ownsRow_made w #[] 0 (Nat.le_refl _) (Nat.zero_le _) (by simp), ?_⟩
    exact (Below.refl _ w).alloc (Nat.le_refl _) _
  | some p =>
    have A : Aside (∀ j u, news[j]? = some u → w.cell? (p.add j) = some u) := hc p rfl
    clear hc
    go_enter Tryz.func50, Tryz.ntmps50
    go_wp2_with (at_builtin; refine wpList_append_own _ rfl _ _ 28 rfl w.heap.size 3 i0 z 1 i0.bytes Tryz.underlying28 hi hz0 hz1 rfl hzs (by decide) _ _ _ rfl (World.ownsRow_made w #[] 0 (Nat.le_refl _) (Nat.zero_le _) (by simp)) p n c news rfl ?qc1 ?qc2 ?qc3 ?qc4 ?qc5 ?qc6 ?_)
    case qc1 => exact hl
    case qc2 =>
      intro j u hj
      exact Lib.cell?_alloc_some _ (A.out j u hj)
    case qc3 => exact h1
    case qc4 => rw [Nat.zero_add]; exact hmx
    case qc5 => rw [Nat.zero_add]; exact hbig
    case qc6 => simp
    intro v' w1 hown hgrow hnil
    go_wp2
    go_ret
    refine ⟨v', rfl, by simpa using hown, ?_⟩
    exact ((Below.refl _ w).alloc (Nat.le_refl _) _).grown hgrow (by simp) (by intro k hk; simp [Value.ownBlock] at hk; omega)

theorem yQE : ∃ (inf : TypeInfo) (z : Value), Tryz.prog.info? 3 = some inf ∧ inf.zero = some z ∧ inf.size = 1 ∧ z.cells.size = 1 ∧ inf.bytes ≤ 2048 := by
  obtain ⟨hu, hF, hs0⟩ := yT (u := t3) (yM.shape (t := 28) (i := { ty := t28, elem := 3, fields := [] }) (by kernel_rfl)) (.inl rfl)
  obtain ⟨inf, d, f1, f2, f3, f4, f5, f6⟩ := hF.ex
  refine ⟨inf, _, f1, f6, f3, ?_, f4⟩
  rw [y0p (yg _) (y1j _), List.size_toArray, yg]
  rfl

theorem yJd : yNh Tryz.prog 50 (3, .int .i64) := by
  intro w p n c news hl hn hp hc h1
  obtain ⟨inf, z, i1, i2, i3, i4, i5⟩ := yQE
  exact yBl inf z i1 i2 i3 i4 i5 p n c news w hp hl hn hc h1

theorem yJB : FnOK Tryz.prog intsO_e :=
  ⟨yI5.1, yI5.2.1, fun q hq => by
    cases (show some ((3, Ty.int .i64) : TypeId × Ty) = some q from hq)
    exact yJd, fun q hq => by cases hq⟩
end Go.Tw
