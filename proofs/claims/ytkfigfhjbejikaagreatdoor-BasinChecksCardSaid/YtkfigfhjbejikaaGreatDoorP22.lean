/- P22: BasinChecks: the law. -/
import Derived.Test.YtkfigfhjbejikaaGreatDoorP21
import Derived.Test.YtkfigfhjbejikaaGreatDoorB29

set_option linter.all false
set_option maxRecDepth 100000
namespace Go.Tw
open Go.Vx Go.Vx.B Go.Proofs

theorem checks_end (b : Bas) (v : List Int) (hn : ∀ n ∈ b.1, n.1.length < lenMax) (h1 : b.1.length ≤ memMax) (h2 : b.2.1.length ≤ memMax) (hv : v.length ≤ memMax) (l a r : List Int) (e : Int) (he : e = ckCV b v) (hl : l.length < lenMax) (ha : a.length < lenMax) (hr : r.length < lenMax) :
    law04_BasinChecks_m_j51 0 b v (l, e, ()) (a, e, ()) (r, e, ()) (e, ()) l a r = some (true, ()) := by
  subst he
  have hm := memMax_lt
  have aw : (law04_awake_M.bind fun v6 => some (v6.1, ())) = some (true, ()) := by rw [awake_true]; rfl
  unfold law04_BasinChecks_m_j51
  rw [show basin_Kinds.fst = ref04_Kinds.fst from rfl, sameWords_refl _ (by simp [ref04_Kinds, lenMax]), given_eq b h1 h2, ints_eq v hv]
  simp only [Option.bind_some, cond_true]
  rw [bbasin_eq b hn, rbasin_eq, bcv_eq b v hn hv]
  simp only [Option.bind_some, beq_self_eq_true, cond_true]
  rw [sameInts_refl l hl, sameInts_refl a ha, sameInts_refl r hr]
  simp only [Option.bind_some, cond_true]
  exact aw

/-- **BasinChecks**: for every input the law answers true. -/
theorem basinChecks_law (b : Bas) (v : List Int) : law04_BasinChecks_M b v = some (true, ()) := by
  have hmem : memMax = 68719476736 := rfl
  have aw : (law04_awake_M.bind fun v6 => some (v6.1, ())) = some (true, ()) := by rw [awake_true]; rfl
  unfold law04_BasinChecks_M law04_BasinChecks_m
  obtain ⟨s, hs, hs2⟩ := short_eq b
  rw [hs]
  simp only [Option.bind_some]
  cases s with
  | false => exact aw
  | true =>
    obtain ⟨h9, h17, h60⟩ := hs2 rfl
    simp only [Bool.not_true, cond_false]
    by_cases hv : v.length ≤ 9
    · rw [bifF (dec_false (show ¬ (v.length : Int) > 9 by omega))]
      have hnn : ∀ n ∈ b.1, n.1.length < lenMax := fun n hn => by have := h60 n hn; unfold lenMax; omega
      rw [given_eq b (by omega) (by omega), ints_eq v (by omega)]
      simp only [Option.bind_some]
      rw [rcv_eq b v (by unfold lenMax; omega)]
      by_cases h0 : ckCV b v = 0
      · obtain ⟨hb, hvl, _⟩ := ckCV_zero h0
        obtain ⟨r, r1, r2, r3⟩ := babove1 b v hnn h0
        have h8 := hb.nodes
        have hll := lvls_length v b.1 hvl
        have hrr := rooms_len b.1 v
        rw [blevels1 b v hnn h0, r1, broom_eq b v hnn h0]
        simp only [Option.bind_some]
        rw [bifT (show (ckCV b v == 0) = true by simpa using h0), rlevels_eq b hb v hvl, r2, rroom_eq b v hb hvl]
        simp only [Option.bind_some]
        rw [h0]
        exact checks_end b v hnn (by omega) (by omega) (by omega) _ _ _ 0 h0.symm (by unfold lenMax; omega) (by unfold lenMax; omega) (by unfold lenMax; omega)
      · obtain ⟨e1, e2, e3⟩ := checks_bad b v hnn (by omega) h0
        rw [e1, e2, e3]
        simp only [Option.bind_some]
        rw [bifF (show (ckCV b v == 0) = false by simpa using h0)]
        exact checks_end b v hnn (by omega) (by omega) (by omega) _ _ _ _ rfl (by simp [lenMax]) (by simp [lenMax]) (by simp [lenMax])
    · rw [bifT (dec_true (show (v.length : Int) > 9 by omega))]
      exact aw
end Go.Tw
