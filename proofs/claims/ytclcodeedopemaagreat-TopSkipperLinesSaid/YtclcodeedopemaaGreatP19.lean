import Derived.Test.YtclcodeedopemaaGreatPZ
set_option linter.all false
set_option maxRecDepth 100000
namespace Go.Tw
open Go.Vx Go.Vx.B Go.Proofs
def OkIn (x : Inp) : Prop := isNm x.1 = true ∧ x.1.length < lenMax ∧ 0 ≤ x.2.1 ∧ x.2.1 ≤ 15
theorem yNK {c : Cha} (hc : Valid c) {leaf : Int} (hl : IsLf c leaf) {e : List UInt8} {v : Int} (h : (stp c leaf e v).2 = 0) : IsLf c (stp c leaf e v).1 := by
  have hm := y6A c e v 17 leaf
  change ∀ t, t ∈ y3f c leaf e v → _ at hm
  unfold stp at h ⊢
  match hq : y3f c leaf e v with
  | [] => exact hl
  | [t] =>
    rw [hq] at hm
    have ht := hc.tra t (hm t (by simp))
    exact y4i c hc _ ht.2.2.1 ht.2.2.2.1
  | t :: u :: l => rw [hq] at h; cases h
def Goes (c : Cha) : Int → List Inp → List Int → Prop
  | _, [], ts => ts = []
  | leaf, x :: l, ts => (stp c leaf x.1 x.2.1).2 = 0 ∧ ∃ r, ts = (stp c leaf x.1 x.2.1).1 :: r ∧ Goes c (stp c leaf x.1 x.2.1).1 l r
structure PI (c : Cha) (ps : List Pth) : Prop where
  wi : WI c ps
  lf : ∀ p ∈ ps, IsLf c p.1
  go : ∀ p ∈ ps, (∀ x ∈ p.2.1, OkIn x) ∧ ∃ ts, Goes c (entr c 0) p.2.1 ts ∧ ts.getLastD (entr c 0) = p.1
end Go.Tw
