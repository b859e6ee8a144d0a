import Derived.Test.YtkfigfhjbejikaaGreatDoorP24
set_option linter.all false
set_option maxRecDepth 100000
namespace Go.Tw
open Go.Vx Go.Vx.B Go.Proofs
theorem y8I : ∀ {l : List Int}, (∀ e ∈ l, e = 0) → y0K l = 0
  | [], _ => rfl
  | e :: l, h => by
    rw [yh, y8I (l := l) (fun x hx => h x (by simp [hx])), h e (by simp)]
    rfl
theorem y5n {b : Bas} {v : List Int} (h : Fit b.1.length v) : y7S b v = 0 := by
  unfold y7S;rw [show ((v.length : Int) != (b.1.length : Int)) = false by rw [h.1]; simp, y8I (fun e he => by
    obtain ⟨x, hx, rfl⟩ := List.mem_map.1 he;have := y5Z h x hx;unfold ckR;rw [if_neg (by omega)])]
  rfl
section
variable (V : List Int) (L : List Cnd) (b : Bas) (run : List (List Int)) (T97 : List Cnd) (a0 a1 a2 : Int)
end
end Go.Tw
