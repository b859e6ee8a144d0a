import Derived.Test.YtohhmdogfjmlcaaGreatPZ
import Derived.Test.YtohhmdogfjmlcaaGreatB15
set_option linter.all false
set_option maxRecDepth 100000
namespace Go.Tw
open Go.Vx Go.Vx.B Go.Proofs
def one (b : Bool) (leaf : Int) (e : List UInt8) (v : Int) : List Cas := bif b then [(leaf, e, v, ())] else []
theorem evts_mem : ∀ (l : List Tra) (s : List (List UInt8)) (e : List UInt8), e ∈ l.foldl evF s → e ∈ s ∨ ∃ t ∈ l, t.2.1 = e
  | [], s, e, h => .inl h
  | t :: l, s, e, h => by
    rcases evts_mem l (evF s t) e h with h | ⟨u, hu, h⟩
    · unfold evF at h
      cases hb : s.contains t.2.1 with
      | true => rw [hb] at h; exact .inl h
      | false =>
        rw [hb] at h
        rcases List.mem_append.1 h with h | h
        · exact .inl h
        · rw [List.mem_singleton] at h; exact .inr ⟨t, by simp, h.symm⟩
    · exact .inr ⟨u, by simp [hu], h⟩
theorem evts_ok {c : Cha} (hs : Sh c) (hc : Valid c) {e : List UInt8} (h : e ∈ evts c.2.1) : isNm e = true ∧ e.length < lenMax := by
  rcases evts_mem c.2.1 [] e h with h | ⟨t, ht, rfl⟩
  · cases h
  · exact ⟨(hc.tra t ht).2.2.2.2.1, hs.words.2 t ht⟩
end Go.Tw
