import Derived.Test.YtkfigfhjbejikaaGreatDoorP20
import Derived.Test.YtkfigfhjbejikaaGreatDoorP18
set_option linter.all false
set_option maxRecDepth 100000
namespace Go.Tw
open Go.Vx Go.Vx.B Go.Proofs
theorem yTM {y : Int} (h : (Lit.int .u8 y).wf = true) : 0 ≤ y ∧ y ≤ 255 := by
  simp only [Lit.wf, Bool.and_eq_true, decide_eq_true_eq] at h;have e1 : IntKind.min .u8 = 0 := by decide
  have e2 : IntKind.max .u8 = 255 := by decide
  omega
def InI (x : Itv) (n : Int) : Prop := x.1 ≤ n ∧ n ≤ x.2.1
def y4I : List Itv → List Int → Prop
  | [], [] => True
  | x :: l, n :: q => InI x n ∧ y4I l q
  | _, _ => False
theorem y4I.len : ∀ {l : List Itv} {q : List Int}, y4I l q → q.length = l.length
  | [], [], _ => rfl
  | x :: l, n :: q, h => by simp [y4I.len h.2]
  | [], _ :: _, h => h.elim
  | _ :: _, [], h => h.elim
theorem y4I.app : ∀ {l : List Itv} {q : List Int} {x : Itv} {n : Int}, y4I l q → InI x n → y4I (l ++ [x]) (q ++ [n])
  | [], [], _, _, _, h => ⟨h, trivial⟩
  | _ :: l, _ :: q, _, _, h, h2 => ⟨h.1, y4I.app h.2 h2⟩
  | [], _ :: _, _, _, h, _ => h.elim
  | _ :: _, [], _, _, h, _ => h.elim
theorem y4I.le : ∀ {l : List Itv} {q : List Int}, y4I l q → ∀ i, gv (l.map (endI false)) i ≤ gv q i ∧ gv q i ≤ gv (l.map (endI true)) i
  | [], [], _, i => by simp [gv]
  | x :: l, n :: q, h, 0 => h.1
  | x :: l, n :: q, h, i + 1 => y4I.le h.2 i
  | [], _ :: _, h, _ => h.elim
  | _ :: _, [], h, _ => h.elim
theorem y4I.mem : ∀ {l : List Itv} {q : List Int}, y4I l q → ∀ n ∈ q, ∃ x ∈ l, InI x n
  | [], [], _, n, hn => by simp at hn
  | x :: l, m :: q, h, n, hn => by
    rcases List.mem_cons.1 hn with rfl | hn
    · exact ⟨x, by simp, h.1⟩
    · obtain ⟨y, hy, hi⟩ := y4I.mem h.2 n hn;exact ⟨y, by simp [hy], hi⟩
  | [], _ :: _, h, _, _ => h.elim
  | _ :: _, [], h, _, _ => h.elim
structure RngOK (b : Bas) (r : Rng) : Prop where
  tide : -1024 ≤ r.1.1 ∧ r.1.1 ≤ r.1.2.1 ∧ r.1.2.1 ≤ 1024
  len : r.2.2.1.length = b.1.length
  flow : ∀ x ∈ r.2.2.1, 0 ≤ x.1 ∧ x.1 ≤ x.2.1 ∧ x.2.1 ≤ 100000
theorem yGJ {n lo hi : Int} (h1 : lo ≤ n) (h2 : n ≤ hi) : ckR n lo hi = 0 := by unfold ckR; rw [if_neg (by omega)]
theorem y38 : ∀ {l : List Int}, (∀ e ∈ l, e = 0) → y0K l = 0
  | [], _ => rfl
  | a :: l, h => by rw [yh, h a (by simp), y38 (fun e he => h e (by simp [he]))]; rfl
theorem yB2 {b : Bas} {c : Cnd} (ht : -1024 ≤ c.1 ∧ c.1 ≤ 1024) (hl : c.2.2.1.length = b.1.length) (hf : ∀ x ∈ c.2.2.1, 0 ≤ x ∧ x ≤ 100000) : y0N b c = 0 := by
  unfold y0N;rw [yGJ ht.1 ht.2, hl, y38 (by intro e he; obtain ⟨x, hx, rfl⟩ := List.mem_map.1 he; exact yGJ (hf x hx).1 (hf x hx).2)]
  simp [yQ]
structure InR (r : Rng) (c : Cnd) : Prop where
  tide : InI r.1 c.1
  opn : c.2.1 = r.2.1
  flow : y4I r.2.2.1 c.2.2.1
theorem InR.ok {b : Bas} {r : Rng} {c : Cnd} (h : InR r c) (hr : RngOK b r) : y0N b c = 0 := by
  have h1 := h.tide;have h2 := hr.tide;unfold InI at h1;refine yB2 (by omega) (by rw [h.flow.len, hr.len]) fun n hn => ?_
  obtain ⟨x, hx, hi⟩ := h.flow.mem n hn;have := hr.flow x hx;unfold InI at hi;omega
def InRs : List Rng → List Cnd → Prop
  | [], [] => True
  | r :: l, c :: q => InR r c ∧ InRs l q
  | _, _ => False
theorem InRs.len : ∀ {l : List Rng} {q : List Cnd}, InRs l q → q.length = l.length
  | [], [], _ => rfl
  | x :: l, n :: q, h => by simp [InRs.len h.2]
  | [], _ :: _, h => h.elim
  | _ :: _, [], h => h.elim
theorem InRs.ok {b : Bas} : ∀ {l : List Rng} {q : List Cnd}, InRs l q → (∀ r ∈ l, RngOK b r) → ∀ c ∈ q, y0N b c = 0
  | [], [], _, _, c, hc => by simp at hc
  | r :: l, d :: q, h, hr, c, hc => by
    rcases List.mem_cons.1 hc with rfl | hc
    · exact h.1.ok (hr r (by simp))
    · exact InRs.ok h.2 (fun r h => hr r (by simp [h])) c hc
  | [], _ :: _, h, _, _, _ => h.elim
  | _ :: _, [], h, _, _, _ => h.elim
theorem InRs.le : ∀ {l : List Rng} {q : List Cnd}, InRs l q → y5Q (l.map (yNG false)) q ∧ y5Q q (l.map (yNG true))
  | [], [], _ => ⟨trivial, trivial⟩
  | r :: l, c :: q, h => ⟨⟨⟨h.1.tide.1, h.1.opn.symm, fun i => (h.1.flow.le i).1⟩, (InRs.le h.2).1⟩, ⟨⟨h.1.tide.2, h.1.opn, fun i => (h.1.flow.le i).2⟩, (InRs.le h.2).2⟩⟩
  | [], _ :: _, h => h.elim
  | _ :: _, [], h => h.elim
structure VolsOK (b : Bas) (v : List Itv) (m : List Int) : Prop where
  len : v.length = b.1.length
  inn : y4I v m
  rng : ∀ x ∈ v, 0 ≤ x.1 ∧ x.1 ≤ x.2.1 ∧ x.2.1 ≤ 100000000
theorem y6E.len : ∀ {ps hp : List (Cnd × List Int × List Int)}, y6E ps hp → ps.length = hp.length
  | [], [], _ => rfl
  | x :: p, y :: q, h => by simp [y6E.len h.2]
  | [], _ :: _, h => h.elim
  | _ :: _, [], h => h.elim
theorem y6E.at : ∀ {ps hp : List (Cnd × List Int × List Int)}, y6E ps hp → ∀ (i : Nat) x y, ps[i]? = some x → hp[i]? = some y → Le x.2.2 y.2.2
  | [], [], _, i, x, y, h, _ => by simp at h
  | a :: p, c :: q, h, 0, x, y, h1, h2 => by cases h1; cases h2; exact h.1
  | a :: p, c :: q, h, i + 1, x, y, h1, h2 => y6E.at h.2 i x y (by simpa using h1) (by simpa using h2)
  | [], _ :: _, h, _, _, _, _, _ => h.elim
  | _ :: _, [], h, _, _, _, _, _ => h.elim
theorem yG2 {b : Bas} {v : List Int} {l : List Cnd} (hb : y0q b = 0) (hv : Fit b.1.length v) (hl : l.length ≤ 96) (hc : ∀ c ∈ l, y0N b c = 0) : y7i b v l = 0 := by
  unfold y7i ckCV y7S yCm;rw [hb, hv.1, y38 (by intro e he; obtain ⟨x, hx, rfl⟩ := List.mem_map.1 he; exact yGJ (y5Z hv x hx).1 (y5Z hv x hx).2), yF (show ¬ (l.length : Int) > 96 by omega),
    y38 (by intro e he; obtain ⟨x, hx, rfl⟩ := List.mem_map.1 he; exact hc x hx)]
  simp [yQ]
theorem yOl (b : Bas) (v : List Int) (l : List Cnd) (hk0 : y0q b = 0) (hn : ∀ n ∈ b.1, n.1.length < lenMax) (hv : Fit b.1.length v) (hl : l.length ≤ 96) (hc : ∀ c ∈ l, y0N b c = 0) :
    y9u b v l = some (match runD b v l with | some ps => (ps.map (·.2.2), 0, ()) | none => ([], 4, ())) := by
  have hb := y1A hk0;have h8 := hb.nodes;have hvl := hv.1;have hmem : memMax = 68719476736 := rfl;have hcl : ∀ c ∈ l, c.2.2.1.length = b.1.length := fun c h => (y01 (hc c h)).len
  have h0 := yG2 hk0 hv hl hc;unfold y9u yIs;rw [yCO b v l hn (by omega) (by omega) (fun c hc' => by have := hcl c hc'; omega), bifF (by simpa using h0), yLI b hb v l hvl hcl (by omega)]
  cases hr : runD b v l with
  | none =>
    simp only [Option.bind_some];have := y8u [] (by simp)
    simp only [List.map_nil] at this;rw [this];rfl
  | some ps =>
    obtain ⟨k1, k2⟩ := y4k hb hvl hcl hr;simp only [Option.bind_some];rw [y8u ps (by omega)]
    rfl
end Go.Tw
