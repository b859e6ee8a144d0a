import Derived.Test.YtkfigfhjbejikaaGreatDoorLP
set_option linter.all false
namespace Go.Tw
open Go.Vx
variable {σ β R : Type} {f : β → Option R}
def yBb (body : Int → σ → Option (β ⊕ σ)) (fin : σ → Option β) : Nat → σ → Option β
  | 0,s => fin s
  | m + 1,s => (body (m : Int) s).bind fun z => match z with
    | .inl y => some y
    | .inr s' => yBb body fin m s'
theorem yIR {i : Int} (h0 : 0 ≤ i) (h1 : i ≤ 9223372036854775807) : IntKind.i64.wrap (i - 1) = i - 1 := by
  unfold IntKind.wrap IntKind.bits IntKind.signed;simp only [Nat.reduceSub,Int.reducePow,decide_eq_true_eq,Bool.true_and];split <;> omega
theorem yLA {W : Nat → Int → σ → Option R} {body : Int → σ → Option (β ⊕ σ)} {fin : σ → Option β}
    (h : ∀ (k : Nat) (i : Int) (s : σ),LeF (elim f fun s' => W k (IntKind.i64.wrap (i - 1)) s')
      (bif decide (i ≥ 0) then body i s else (fin s).map .inl) (W (k + 1) i s)) :
    ∀ (m k : Nat) (s : σ),(m : Int) ≤ 9223372036854775808 → m < k → LeF f (yBb body fin m s) (W k ((m : Int) - 1) s) := by
  intro m;induction m with
  | zero =>
    intro k s hm hk y hy;cases k with
    | zero => omega
    | succ k =>
      refine h k _ s y ?_
      have : decide (((0 : Nat) : Int) - 1 ≥ 0) = false := by simp
      rw [this];simp only [cond_false];simp only [yBb] at hy;cases hf : fin s with
      | none => rw [hf] at hy; cases hy
      | some z => rw [hf] at hy; exact hy
  | succ m ih =>
    intro k s hm hk y hy;cases k with
    | zero => omega
    | succ k =>
      refine h k _ s y ?_
      have e : (((m + 1 : Nat) : Int) - 1) = (m : Int) := by omega
      rw [e];have : decide ((m : Int) ≥ 0) = true := by simp
      rw [this];simp only [cond_true];simp only [yBb] at hy;cases hb : body (m : Int) s with
      | none => rw [hb] at hy; cases hy
      | some z =>
        rw [hb] at hy;simp only [Option.bind_some] at hy ⊢;cases z with
        | inl v => exact hy
        | inr s' =>
          show W k (IntKind.i64.wrap ((m : Int) - 1)) s' = some y
          rw [yIR (by omega) (by omega)]
          exact ih k s' (by omega) (by omega) y hy
theorem yJn {W : Nat → Int → σ → Option R} {body : Int → σ → Option (β ⊕ σ)} {fin : σ → Option β}
    (h : ∀ (k : Nat) (i : Int) (s : σ),LeF (elim f fun s' => W k (IntKind.i64.wrap (i - 1)) s')
      (bif decide (i ≥ 0) then body i s else (fin s).map .inl) (W (k + 1) i s))
    (i0 : Int) (hx : -1 ≤ i0 ∧ i0 ≤ 9223372036854775807) (s : σ) (k : Nat) (hk : big ≤ k) : LeF f (yBb body fin (i0 + 1).toNat s) (W k i0 s) := by
  have e : ((((i0 + 1).toNat : Nat) : Int) - 1) = i0 := by omega
  have := yLA h (i0 + 1).toNat k s (by omega) (by unfold big at hk; omega)
  rw [e] at this;exact this
end Go.Tw
