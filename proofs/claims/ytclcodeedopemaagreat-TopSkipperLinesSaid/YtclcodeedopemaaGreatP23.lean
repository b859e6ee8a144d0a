import Derived.Test.YtclcodeedopemaaGreatP22
set_option linter.all false
set_option maxRecDepth 100000
namespace Go.Tw
open Go.Vx Go.Vx.B Go.Proofs
theorem yGG : ∀ {l : List Inp}, (∀ x ∈ l, inE x = 0) → insE l = 0
  | [], _ => rfl
  | x :: l, h => by
    unfold insE
    exact yM.2 ⟨h x (by simp), yGG fun y hy => h y (by simp [hy])⟩
theorem yAg {l m : List Inp} (hl : yv l = 0) (hm : m.length ≤ 64) (h : ∀ x ∈ m, x ∈ l) : yv m = 0 := by
  have h2 : insE l = 0 := by
    unfold yv at hl
    split at hl
    · cases hl
    · exact hl
  unfold yv
  rw [if_neg (by omega)]
  exact yGG fun x hx => y5x l h2 x (h x hx)
section
variable (c : Cha) (l : List Inp) (g : Goa) (hs : Sh c) (hk : y0m c = 0) (hcl : yK5 c) (hl : l.length ≤ 6) (hw : ∀ x ∈ l, x.1.length < lenMax) (hsc : yv l = 0) (hg : yPT c l.length g = 0) (hg1 : g.1.length ≤ 17) (hg2 : g.2.1.length ≤ 17)
include hs hk hcl hl hw hsc
include hg hg1 hg2
end
end Go.Tw
