import Derived.Test.YtclcodeedopemaaGreatPY
set_option linter.all false
set_option maxRecDepth 100000
namespace Go.Tw
open Go.Vx Go.Vx.B Go.Proofs
def yDu (l : List Cmd) : Prop := ∀ c ∈ l, ∀ d ∈ l, c.1 = d.1 → c.2.2.1 = d.2.2.1
theorem yBJ {done : List Cmd} {c : Cmd} : y5W done c = false ↔ ∀ d ∈ done, d.1 = c.1 → d.2.2.1 = c.2.2.1 := by
  unfold y5W
  rw [List.any_eq_false]
  constructor
  · intro h d hd e
    have := h d hd
    simpa [e] using this
  · intro h d hd
    by_cases e : d.1 = c.1
    · simp [h d hd e]
    · simp [e]
theorem y4q : ∀ (l done : List Cmd), yDu done → (y8a done l = 0 ↔ (∀ c ∈ l, cmdF c = 0) ∧ yDu (done ++ l))
  | [], done, h => by simp [y8a, h]
  | c :: l, done, h => by
    unfold y8a cmdE
    rw [yM, yM]
    have hb : (bif y5W done c then (30 : Int) else 0) = 0 ↔ y5W done c = false := by cases y5W done c <;> simp
    rw [hb, yBJ]
    have agS : (∀ d ∈ done, d.1 = c.1 → d.2.2.1 = c.2.2.1) → yDu (done ++ [c]) := by
      intro hd x hx y hy e
      rw [List.mem_append, List.mem_singleton] at hx hy
      rcases hx with hx | rfl <;> rcases hy with hy | rfl
      · exact h x hx y hy e
      · exact hd x hx e
      · exact (hd y hy e.symm).symm
      · rfl
    constructor
    · rintro ⟨⟨h1, h2⟩, h3⟩
      obtain ⟨h4, h5⟩ := (y4q l (done ++ [c]) (agS h2)).1 h3
      refine ⟨fun x hx => ?_, by rw [List.append_assoc] at h5; exact h5⟩
      rw [List.mem_cons] at hx
      rcases hx with rfl | hx
      · exact h1
      · exact h4 x hx
    · rintro ⟨h1, h2⟩
      have h3 : ∀ d ∈ done, d.1 = c.1 → d.2.2.1 = c.2.2.1 := fun d hd e => h2 d (by simp [hd]) c (by simp) e
      refine ⟨⟨h1 c (by simp), h3⟩, (y4q l (done ++ [c]) (agS h3)).2 ⟨fun x hx => h1 x (by simp [hx]), by rw [List.append_assoc]; exact h2⟩⟩
theorem yC4 {l : List Cmd} : y2m l = 0 ↔ l.length ≤ 256 ∧ (∀ c ∈ l, cmdF c = 0) ∧ yDu l := by
  unfold y2m
  have := y4q l [] (fun c hc => by cases hc)
  rw [List.nil_append] at this
  split
  · constructor
    · intro h; cases h
    · intro h; omega
  · rw [this]
    constructor
    · intro h; exact ⟨by omega, h⟩
    · intro h; exact h.2
theorem yBd {l : List Cmd} (h : yDu l) (n : Int) (e : List UInt8) : ev l n = some e ↔ ∃ c ∈ l, c.1 = n ∧ c.2.2.1 = e := by
  constructor
  · intro hh
    obtain ⟨d, h1, h2, h3⟩ := yFC hh
    exact ⟨d, h1, h2, h3⟩
  · rintro ⟨c, hc, rfl, rfl⟩
    unfold ev
    cases hf : l.find? (fun d => d.1 == c.1) with
    | none => exact absurd (List.find?_eq_none.1 hf c hc) (by simp)
    | some d =>
      have h1 := List.find?_some hf
      have h2 := List.mem_of_find?_eq_some hf
      simp only [Option.map_some]
      congr 1
      exact h d h2 c hc (by simpa using h1)
theorem yFD {c : Cmd} : cmdF c = 0 ↔ ckR c.1 1 999999999 = 0 ∧ ckR c.2.1 0 1 = 0 ∧ isNm c.2.2.1 = true := by
  unfold cmdF
  rw [yQ, yQ, yQ, yk, yX, yM, yM]
  have : (bif isNm c.2.2.1 then (0 : Int) else 8) = 0 ↔ isNm c.2.2.1 = true := by cases isNm c.2.2.1 <;> simp
  rw [this]
end Go.Tw
