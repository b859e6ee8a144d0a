import Derived.Test.YtimaoihjoojcdaaGreatDoorLP
set_option linter.all false
namespace Go.Tw
open Go.Vx
variable {σ β R : Type} {f : β → Option R}
def wMax : Nat := 1000000
def yDk (body : σ → Option (β ⊕ σ)) : Nat → σ → Option β
  | 0,_ => none
  | m + 1,s => (body s).bind fun z => match z with
    | .inl y => some y
    | .inr s' => yDk body m s'
theorem yJm {W : Nat → σ → Option R} {body : σ → Option (β ⊕ σ)}
    (h : ∀ (k : Nat) (s : σ),LeF (elim f fun s' => W k s') (body s) (W (k + 1) s)) :
    ∀ (m k : Nat) (s : σ),m < k → LeF f (yDk body m s) (W k s) := by
  intro m;induction m with
  | zero => intro k s _ y hy; cases hy
  | succ m ih =>
    intro k s hk y hy;cases k with
    | zero => omega
    | succ k =>
      refine h k s y ?_
      simp only [yDk] at hy;cases hb : body s with
      | none => rw [hb] at hy; cases hy
      | some z =>
        rw [hb] at hy;simp only [Option.bind_some] at hy ⊢;cases z with
        | inl v => exact hy
        | inr s' => exact ih k s' (by omega) y hy
end Go.Tw
