import Derived.Test.YtclcodeedopemaaGreatP16
set_option linter.all false
set_option maxRecDepth 100000
namespace Go.Tw
open Go.Vx Go.Vx.B Go.Proofs
theorem yIf {α : Type} (l : List α) (d : α) {p : List Int} (hp : p.Perm ((List.range l.length).map fun (j : Nat) => (j : Int))) : (p.map fun j => l.getD j.toNat d).Perm l := by
  refine (hp.map _).trans ?_
  rw [List.map_map]
  refine List.Perm.of_eq ?_
  apply List.ext_getElem
  · simp
  · intro i h1 h2
    simp [List.getD_eq_getElem?_getD, List.getElem?_eq_getElem h2]
theorem yQn {k : Int} (h : (Lit.int .u16 k).wf = true) : 0 ≤ k ∧ k ≤ 65535 := by
  unfold Lit.wf at h
  rw [Bool.and_eq_true, decide_eq_true_eq, decide_eq_true_eq] at h
  exact h
end Go.Tw
