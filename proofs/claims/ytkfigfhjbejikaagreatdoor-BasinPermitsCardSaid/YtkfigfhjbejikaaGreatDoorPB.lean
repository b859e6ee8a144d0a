/- P9: runs: the program's passages are the reference's steps; the errors of a run's arguments.
P10: BasinSteps: the law.
P11: levels, nodes above their limits, the first one in a run.
P12: the balance of a run.
P13: BasinRuns: the law. -/
import Derived.Test.YtkfigfhjbejikaaGreatDoorPA
import Derived.Test.YtkfigfhjbejikaaGreatDoorBE
import Derived.Test.YtkfigfhjbejikaaGreatDoorB16
import Derived.Test.YtkfigfhjbejikaaGreatDoorB17

section
set_option linter.all false
set_option maxRecDepth 100000
namespace Go.Tw
open Go.Vx Go.Vx.B Go.Proofs

/-! ### A step -/
/-- A step, if what it leaves fits. -/
noncomputable def stepD (b : Bas) (v : List Int) (c : Cnd) : Option (List Int × List Int) :=
  match ref04_Moved_M b v c with
  | some (f, o, e, _) => if e = 0 then some (f, o) else none
  | none => none

/-! ### A run -/
/-! ### The errors of a run's arguments -/
theorem ckCond_zero {b : Bas} {c : Cnd} (h : ckCond b c = 0) : (-1024 ≤ c.1 ∧ c.1 ≤ 1024) ∧ c.2.2.1.length = b.1.length ∧ ∀ x ∈ c.2.2.1, 0 ≤ x ∧ x ≤ 100000 := by
  obtain ⟨h1, h2⟩ := firstOf_eq0 h
  obtain ⟨h3, h4⟩ := firstOf_eq0 h2
  refine ⟨ckR_zero h1, ?_, fun x hx => ckR_zero (firstE_zero h4 _ (List.mem_map.2 ⟨x, hx, rfl⟩))⟩
  cases he : ((c.2.2.1.length : Int) != (b.1.length : Int)) with
  | true => rw [he] at h3; cases h3
  | false => have h11 : (c.2.2.1.length : Int) = (b.1.length : Int) := by simpa using he
             omega

end Go.Tw
end

section
set_option linter.all false
set_option maxRecDepth 100000
namespace Go.Tw
open Go.Vx Go.Vx.B Go.Proofs

/-- A loop that asks of each element what is so, ends. -/
theorem loopL_same {α β : Type} {body : Int → α → Unit → Option (β ⊕ Unit)} {fin : Unit → Option β} (l : List α) (h : ∀ (p : List α) (x : α) (r : List α), l = p ++ x :: r → body (p.length : Int) x () = some (.inr ())) :
    ∀ (r p : List α) (i : Int), l = p ++ r → i = (p.length : Int) → loopL body fin i r () = fin ()
  | [], p, i, _, _ => rfl
  | x :: r, p, i, hl, hi => by
    rw [loopL_cons, hi, h p x r hl]
    simp only [Option.bind_some]
    exact loopL_same l h r (p ++ [x]) _ (by rw [hl]; simp) (by simp)

theorem sameInts_refl (l : List Int) (h : l.length < lenMax) : ref01_SameInts_M l l = some (true, ()) := by
  unfold ref01_SameInts_M
  rw [bifF (show ((l.length : Int) != (l.length : Int)) = false by simp), bifT (dec_true h), loopL_same l (fun p x r e => by
    unfold ref01_SameInts_b0
    rw [e, idx_mid p x r _ rfl]
    simp only [Option.bind_some]
    rw [bifF (show (x != x) = false by simp)]) l [] 0 rfl rfl]
  rfl

/-! ### What a step is -/
end Go.Tw
end

section
set_option linter.all false
set_option maxRecDepth 100000
namespace Go.Tw
open Go.Vx Go.Vx.B Go.Proofs

/-! ### Levels, in the program -/
/-! ### Nodes above their limits -/
/-! ### The volumes of passages -/
/-! ### The first node above its limit -/
end Go.Tw
end

section
set_option linter.all false
set_option maxRecDepth 100000
namespace Go.Tw
open Go.Vx Go.Vx.B Go.Proofs

theorem max2 (f : Int) : (if f > (0 : Int) then f else (0 : Int)) = max 0 f := by split <;> omega

/-! ### Loops that only gather -/
/-! ### The balance -/
end Go.Tw
end

section
set_option linter.all false
set_option maxRecDepth 100000
namespace Go.Tw
open Go.Vx Go.Vx.B Go.Proofs

end Go.Tw
end
