import Derived.Test.YtclcodeedopemaaGreatPS
import Derived.Test.YtclcodeedopemaaGreatPZ
import Derived.Test.YtclcodeedopemaaGreatP19
import Derived.Test.YtclcodeedopemaaGreatB14
import Derived.Test.YtclcodeedopemaaGreatP22
section
set_option linter.all false
set_option maxRecDepth 100000
namespace Go.Tw
open Go.Vx Go.Vx.B Go.Proofs
theorem yDh (p : Int → List UInt8 → Int → Bool) (leaf : Int) (e : List UInt8) : ∀ (m : Nat) (v w : Int), v ≤ w → w < v + m → p leaf e w = true → (leaf, e, w, ()) ∈ y1s p leaf e m v
  | 0, v, w, h1, h2, _ => by omega
  | m + 1, v, w, h1, h2, hp => by
    unfold y1s
    by_cases h : v = w
    · subst h
      rw [hp]
      simp
    · exact List.mem_append.2 (.inr (yDh p leaf e m (v + 1) w (by omega) (by omega) hp))
theorem yDl (p : Int → List UInt8 → Int → Bool) (leaf : Int) : ∀ (ev : List (List UInt8)) (e : List UInt8) (w : Int), e ∈ ev → 0 ≤ w → w ≤ 15 → p leaf e w = true → (leaf, e, w, ()) ∈ y23 p leaf ev
  | e' :: l, e, w, he, h0, h1, hp => by
    unfold y23
    rcases List.mem_cons.1 he with rfl | he
    · exact List.mem_append.2 (.inl (yDh p leaf e 16 0 w h0 (by omega) hp))
    · exact List.mem_append.2 (.inr (yDl p leaf l e w he h0 h1 hp))
theorem yDD (p : Int → List UInt8 → Int → Bool) (ev : List (List UInt8)) : ∀ (ls : List Int) (leaf : Int) (e : List UInt8) (w : Int), leaf ∈ ls → e ∈ ev → 0 ≤ w → w ≤ 15 → p leaf e w = true → (leaf, e, w, ()) ∈ y11 p ev ls
  | x :: l, leaf, e, w, hl, he, h0, h1, hp => by
    unfold y11
    rcases List.mem_cons.1 hl with rfl | hl
    · exact List.mem_append.2 (.inl (yDl p leaf ev e w he h0 h1 hp))
    · exact List.mem_append.2 (.inr (yDD p ev l leaf e w hl he h0 h1 hp))
theorem yIw (c : Cha) (here : Pth) (e : List UInt8) (v : Int) (ps : List Pth) : ps <+: addW c here e v ps := by
  unfold addW
  split
  · exact List.prefix_append ..
  · exact List.prefix_rfl
theorem yGM (c : Cha) (here : Pth) (e : List UInt8) : ∀ (m : Nat) (v : Int) (ps : List Pth), ps <+: wv c here e m v ps
  | 0, _, _ => List.prefix_rfl
  | m + 1, v, ps => (yIw c here e v ps).trans (yGM c here e m (v + 1) _)
theorem yCx (c : Cha) (here : Pth) : ∀ (ev : List (List UInt8)) (ps : List Pth), ps <+: we c here ev ps
  | [], _ => List.prefix_rfl
  | e :: l, ps => (yGM c here e 16 0 ps).trans (yCx c here l _)
theorem y9k {ps qs : List Pth} (h : ps <+: qs) {x : Int} (hx : (lvs ps).contains x = true) : (lvs qs).contains x = true := by
  obtain ⟨r, rfl⟩ := h
  simp only [lvs, List.map_append, List.contains_eq_mem, List.mem_append, decide_eq_true_eq] at hx ⊢
  exact .inl hx
theorem yJI (c : Cha) (here : Pth) (e : List UInt8) (v : Int) (ps : List Pth) (h : (stp c here.1 e v).2 = 0) : (lvs (addW c here e v ps)).contains (stp c here.1 e v).1 = true := by
  unfold addW
  cases hc : (lvs ps).contains (stp c here.1 e v).1 with
  | true => simp only [h, hc, Bool.true_eq_false, and_false, if_false]
  | false =>
    simp only [h, and_self, if_true]
    simp [lvs]
theorem yLC (c : Cha) (here : Pth) (e : List UInt8) : ∀ (m : Nat) (v w : Int) (ps : List Pth), v ≤ w → w < v + m → (stp c here.1 e w).2 = 0 → (lvs (wv c here e m v ps)).contains (stp c here.1 e w).1 = true
  | 0, v, w, ps, h1, h2, _ => by omega
  | m + 1, v, w, ps, h1, h2, h => by
    unfold wv
    by_cases hv : v = w
    · subst hv
      exact y9k (yGM c here e m (v + 1) _) (yJI c here e v ps h)
    · exact yLC c here e m (v + 1) w _ (by omega) (by omega) h
theorem yLX (c : Cha) (here : Pth) : ∀ (ev : List (List UInt8)) (e : List UInt8) (w : Int) (ps : List Pth), e ∈ ev → 0 ≤ w → w ≤ 15 → (stp c here.1 e w).2 = 0 → (lvs (we c here ev ps)).contains (stp c here.1 e w).1 = true
  | e' :: l, e, w, ps, he, h0, h1, h => by
    unfold we
    rcases List.mem_cons.1 he with rfl | he
    · exact y9k (yCx c here l _) (yLC c here e 16 0 w ps h0 (by omega) h)
    · exact yLX c here l e w _ he h0 h1 h
def Clos (c : Cha) (ev : List (List UInt8)) (ps : List Pth) (here : Pth) : Prop := ∀ e ∈ ev, ∀ w, 0 ≤ w → w ≤ 15 → (stp c here.1 e w).2 = 0 → (lvs ps).contains (stp c here.1 e w).1 = true
theorem yAz (c : Cha) (hc : Valid c) (ev : List (List UInt8)) : ∀ (r i : Nat) (ps : List Pth), WI c ps → i ≤ ps.length → 17 ≤ i + r → (∀ (j : Nat) (here : Pth), j < i → ps[j]? = some here → Clos c ev ps here) → ∀ here ∈ wout c ev r i ps, Clos c ev (wout c ev r i ps) here
  | 0, i, ps, h, hi, hr, _ => by
    have := h.few hc
    omega
  | r + 1, i, ps, h, hi, hr, hj => by
    unfold wout
    split
    · rename_i here hh
      have hpre := yCx c here ev ps
      have hlen := hpre.length_le
      have hlt := (List.getElem?_eq_some_iff.1 hh).1
      refine yAz c hc ev r (i + 1) _ (yCt c hc here i ev ps h hh).1 (by omega) (by omega) fun j q hji hq => ?_
      have hq' : ps[j]? = some q := by
        obtain ⟨t, ht⟩ := hpre
        rw [← ht, List.getElem?_append_left (by omega)] at hq
        exact hq
      by_cases hjj : j = i
      · subst hjj
        rw [hh] at hq'
        cases hq'
        exact fun e he w h0 h1 hs => yLX c here ev e w ps he h0 h1 hs
      · exact fun e he w h0 h1 hs => y9k hpre (hj j q (by omega) hq' e he w h0 h1 hs)
    · rename_i hn
      intro here hm
      obtain ⟨j, hj'⟩ := List.mem_iff_getElem?.1 hm
      have : j < ps.length := (List.getElem?_eq_some_iff.1 hj').1
      have : ps.length ≤ i := by simpa using hn
      exact hj j here (by omega) hj'
theorem yMf (c : Cha) (hc : Valid c) : ∀ here ∈ WS c, Clos c (evts c.2.1) (WS c) here :=
  yAz c hc _ wMax 0 _ (y5p c hc) (by simp) (by decide) (fun j here hj => by omega)
theorem yIW {c : Cha} (hc : Valid c) {leaf : Int} (hl : leaf ∈ RS c) {e : List UInt8} (he : e ∈ evts c.2.1) {w : Int} (h0 : 0 ≤ w) (h1 : w ≤ 15) (hs : (stp c leaf e w).2 = 0) : (stp c leaf e w).1 ∈ RS c := by
  have hp : ∀ x, x ∈ RS c ↔ x ∈ lvs (WS c) := fun x => (y0I (lvs (WS c))).mem_iff
  obtain ⟨here, hm, rfl⟩ := List.mem_map.1 ((hp leaf).1 hl)
  have := yMf c hc here hm e he w h0 h1 hs
  exact (hp _).2 (by simpa using this)
end Go.Tw
end
section
set_option linter.all false
set_option maxRecDepth 100000
namespace Go.Tw
open Go.Vx Go.Vx.B Go.Proofs
abbrev kc : Ty := .pair (.int .i64) (.pair .str (.pair (.int .i64) .unit))
theorem yGr (x y : kc.den) : eqV kc x y = true ↔ x = y := by
  obtain ⟨a, b, d, u⟩ := x
  obtain ⟨a', b', d', u'⟩ := y
  show ((a : Int) == a' && ((b : List UInt8) == b' && ((d : Int) == d' && true))) = true ↔ _
  simp only [Bool.and_true, Bool.and_eq_true, beq_iff_eq]
  constructor
  · rintro ⟨rfl, rfl, rfl⟩; rfl
  · intro h; cases h; exact ⟨rfl, rfl, rfl⟩
def kn (l : List Cas) (m : List (Cas × Bool)) : List (Cas × Bool) := l.foldl (fun m x => yp kc .bool m x true) m
theorem yL7 (x : Cas) : ∀ (l : List Cas) (m : List (Cas × Bool)), (yM kc .bool (kn l m) x).getD false = (decide (x ∈ l) || (yM kc .bool m x).getD false)
  | [], m => by simp [kn]
  | y :: l, m => by
    show (yM kc .bool (kn l (yp kc .bool m y true)) x).getD false = _
    rw [yL7 x l, y20 yGr]
    by_cases h : x = y
    · subst h
      rw [(yGr x x).2 rfl]
      simp
    · have hf : eqV kc x y = false := by
        cases hq : eqV kc x y with
        | true => exact absurd ((yGr x y).1 hq) h
        | false => rfl
      rw [hf]
      simp [h]
theorem yDZ (l : List Inp) (c : Cha) (R : List Int) (ev : List (List UInt8)) (s : Int) (fs : List Fai) (ag : List Cas) : ∀ (r : List Cas) (k : Int) (m : List (Cas × Bool)),
    yH (fun i__ e__ s__ => yCn l c R ev s fs ag i__ e__ s__) (fun s__ => y8K l c R ev s fs ag s__) k r m = y8K l c R ev s fs ag (kn r m)
  | [], k, m => rfl
  | x :: r, k, m => by
    rw [yH]
    exact yDZ l c R ev s fs ag r (k + 1) _
end Go.Tw
end
section
set_option linter.all false
set_option maxRecDepth 100000
namespace Go.Tw
open Go.Vx Go.Vx.B Go.Proofs
theorem yOt {c : Cha} (hc : Valid c) (here : Pth) {e : List UInt8} (he : ∀ v : Int, 0 ≤ v → v ≤ 15 → OkIn (e, v, ())) (i : Nat) : ∀ (m : Nat) (v : Int) (ps : List Pth), 0 ≤ v → v + m ≤ 16 → PI c ps → ps[i]? = some here → PI c (wv c here e m v ps) ∧ (wv c here e m v ps)[i]? = some here
  | 0, v, ps, _, _, h, hi => ⟨h, hi⟩
  | m + 1, v, ps, h0, h1, h, hi => yOt hc here he i m (v + 1) _ (by omega) (by omega) (yNG c hc here e v (he v h0 (by omega)) ps i h hi) (y8n c here e v ps i here hi)
theorem yQe {c : Cha} (hc : Valid c) (here : Pth) (i : Nat) : ∀ (ev : List (List UInt8)) (ps : List Pth), (∀ e ∈ ev, ∀ v : Int, 0 ≤ v → v ≤ 15 → OkIn (e, v, ())) → PI c ps → ps[i]? = some here → PI c (we c here ev ps) ∧ (we c here ev ps)[i]? = some here
  | [], ps, _, h, hi => ⟨h, hi⟩
  | e :: l, ps, he, h, hi =>
    have h1 := yOt hc here (he e (by simp)) i 16 0 ps (by omega) (by omega) h hi
    yQe hc here i l _ (fun e' h' => he e' (by simp [h'])) h1.1 h1.2
theorem yIq {c : Cha} (hc : Valid c) (ev : List (List UInt8)) (he : ∀ e ∈ ev, ∀ v : Int, 0 ≤ v → v ≤ 15 → OkIn (e, v, ())) : ∀ (r i : Nat) (ps : List Pth), PI c ps → PI c (wout c ev r i ps)
  | 0, i, ps, h => h
  | r + 1, i, ps, h => by
    unfold wout
    split
    · rename_i here hi
      exact yIq hc ev he r (i + 1) _ (yQe hc here i ev ps he h hi).1
    · exact h
theorem yTt {c : Cha} (hc : Valid c) (he : ∀ e ∈ evts c.2.1, ∀ v : Int, 0 ≤ v → v ≤ 15 → OkIn (e, v, ())) : PI c (WS c) :=
  yIq hc _ he wMax 0 _ (yJP c hc)
theorem yBz {c : Cha} {leaf : Int} (hl : leaf ∈ RS c) {e : List UInt8} (he : e ∈ evts c.2.1) {w : Int} (h0 : 0 ≤ w) (h1 : w ≤ 15) :
    (yM kc .bool (kn (y11 (y0X c) (evts c.2.1) (RS c)) []) (leaf, e, w, ())).getD false = y0X c leaf e w := by
  rw [yL7]
  simp only [yM, Option.getD_none, Bool.or_false]
  cases hp : y0X c leaf e w with
  | true => exact decide_eq_true (yDD _ _ _ leaf e w hl he h0 h1 hp)
  | false =>
    refine decide_eq_false fun hm => ?_
    have : ∀ (ls : List Int) (y : Cas), y ∈ y11 (y0X c) (evts c.2.1) ls → y0X c y.1 y.2.1 y.2.2.1 = true := by
      have hV : ∀ (leaf : Int) (e : List UInt8) (m : Nat) (v : Int) (y : Cas), y ∈ y1s (y0X c) leaf e m v → y0X c y.1 y.2.1 y.2.2.1 = true := by
        intro leaf e m
        induction m with
        | zero => intro v y h; cases h
        | succ m ih =>
          intro v y h
          unfold y1s at h
          rcases List.mem_append.1 h with h | h
          · cases hq : y0X c leaf e v with
            | false => rw [hq] at h; cases h
            | true =>
              rw [hq, cond_true, List.mem_singleton] at h
              subst h
              exact hq
          · exact ih (v + 1) y h
      have hE : ∀ (leaf : Int) (ev : List (List UInt8)) (y : Cas), y ∈ y23 (y0X c) leaf ev → y0X c y.1 y.2.1 y.2.2.1 = true := by
        intro leaf ev
        induction ev with
        | nil => intro y h; cases h
        | cons e ev ih =>
          intro y h
          unfold y23 at h
          rcases List.mem_append.1 h with h | h
          · exact hV _ _ _ _ y h
          · exact ih y h
      intro ls
      induction ls with
      | nil => intro y h; cases h
      | cons x ls ih =>
        intro y h
        unfold y11 at h
        rcases List.mem_append.1 h with h | h
        · exact hE _ _ y h
        · exact ih y h
    have := this _ _ hm
    rw [hp] at this
    cases this
end Go.Tw
end
section
set_option linter.all false
set_option maxRecDepth 100000
namespace Go.Tw
open Go.Vx Go.Vx.B Go.Proofs
theorem yAY : ∀ (l : List Tra) (s : List (List UInt8)) (e : List UInt8), e ∈ l.foldl evF s → e ∈ s ∨ ∃ t ∈ l, t.2.1 = e
  | [], s, e, h => .inl h
  | t :: l, s, e, h => by
    rcases yAY l (evF s t) e h with h | ⟨u, hu, h⟩
    · unfold evF at h
      cases hb : s.contains t.2.1 with
      | true => rw [hb] at h; exact .inl h
      | false =>
        rw [hb] at h
        rcases List.mem_append.1 h with h | h
        · exact .inl h
        · rw [List.mem_singleton] at h; exact .inr ⟨t, by simp, h.symm⟩
    · exact .inr ⟨u, by simp [hu], h⟩
theorem yE5 {c : Cha} (hs : Sh c) (hc : Valid c) {e : List UInt8} (h : e ∈ evts c.2.1) : isNm e = true ∧ e.length < lenMax := by
  rcases yAY c.2.1 [] e h with h | ⟨t, ht, rfl⟩
  · cases h
  · exact ⟨(hc.tra t ht).2.2.2.2.1, hs.words.2 t ht⟩
theorem yKn {c : Cha} (hs : Sh c) (hc : Valid c) : PI c (WS c) :=
  yTt hc fun e he v h0 h1 => ⟨(yE5 hs hc he).1, (yE5 hs hc he).2, h0, h1⟩
theorem yBh (c : Cha) (leaf : Int) {e : List UInt8} (v : Int) (h : e ∉ evts c.2.1) : stp c leaf e v = (leaf, 0) := by
  have : y1j c leaf e v = [] := yCM c e v (fun t ht he => h (y9D c.2.1 [] e (.inr ⟨t, ht, he⟩))) 17 leaf
  unfold stp
  rw [this]
theorem yQg {c : Cha} (hc : Valid c) {leaf : Int} (hl : leaf ∈ RS c) (e : List UInt8) {w : Int} (h0 : 0 ≤ w) (h1 : w ≤ 15) (hs : (stp c leaf e w).2 = 0) : (stp c leaf e w).1 ∈ RS c := by
  by_cases he : e ∈ evts c.2.1
  · exact yIW hc hl he h0 h1 hs
  · rw [yBh c leaf w he]; exact hl
theorem yN8 {c : Cha} (hs : Sh c) (hc : Valid c) {leaf : Int} (hl : leaf ∈ RS c) : IsLf c leaf := by
  obtain ⟨p, hp, rfl⟩ := List.mem_map.1 ((y0I (lvs (WS c))).mem_iff.1 hl)
  exact (yKn hs hc).lf p hp
theorem yIy {c : Cha} (hc : Valid c) : entr c 0 ∈ RS c := by
  refine (y0I (lvs (WS c))).mem_iff.2 ?_
  have pre : ∀ (r i : Nat) (ps : List Pth), ps <+: wout c (evts c.2.1) r i ps := by
    intro r
    induction r with
    | zero => intro i ps; exact List.prefix_rfl
    | succ r ih =>
      intro i ps
      unfold wout
      split
      · exact (yCx c _ _ _).trans (ih _ _)
      · exact List.prefix_rfl
  have h : (lvs (WS c)).contains (entr c 0) = true := y9k (pre wMax 0 [(entr c 0, [], ())]) (by simp [lvs])
  simpa using h
theorem yCY {c : Cha} (hcl : yBb c) (hs : Sh c) (hc : Valid c) {leaf : Int} (hl : leaf ∈ RS c) {e : List UInt8} (he : e ∈ evts c.2.1) {w : Int} (h0 : 0 ≤ w) (h1 : w ≤ 15) (hodd : (yP .i64 .and w 1 == 1) = true) :
    (yM kc .bool (kn (y11 (y0X c) (evts c.2.1) (RS c)) []) (leaf, e, w, ())).getD false = mvs c (stp c leaf e w).1 := by
  rw [yBz hl he h0 h1]
  unfold y0X y9A
  rw [hcl leaf (yN8 hs hc hl) e w h0 h1, show (yP .i64 .and w 1 != 0) = true by rw [eq_of_beq hodd]; rfl]
  simp
end Go.Tw
end
section
set_option linter.all false
set_option maxRecDepth 100000
namespace Go.Tw
open Go.Vx Go.Vx.B Go.Proofs
theorem yJs {c : Cha} (hs : Sh c) (hk : yQ c = 0) (R : List Int) (i : Int) {x : Int} (hx : x ∈ RS c) : y7h c R i x = some (.inr ()) := by
  have hmem : memMax = 68719476736 := rfl
  have hc := y0i c hk
  have hpi := yKn hs hc
  obtain ⟨h0, h1⟩ := yCz c hc x hx
  have htr : trE2 c [x] = 0 := by
    unfold trE2 lstE
    rw [if_neg (by simp)]
    refine yD.2 ⟨hk, ?_⟩
    have : y4B c x = false := by unfold y4B; simp; omega
    simp [this]
  have hp : ∃ p ∈ WS c, p.1 = x ∧ y4A (WS c) [x] = (p.2.1, 0) := by
    unfold y4A
    cases hf : (WS c).find? (fun p => [x].contains p.1) with
    | some p =>
      have h2 := List.find?_some hf
      rw [y5a] at h2
      exact ⟨p, List.mem_of_find?_eq_some hf, eq_of_beq h2, rfl⟩
    | none =>
      exfalso
      obtain ⟨p, hp, hpx⟩ := List.mem_map.1 ((y0I (lvs (WS c))).mem_iff.1 hx)
      have := List.find?_eq_none.1 hf p hp
      rw [y5a] at this
      exact this (by rw [hpx]; simp)
  obtain ⟨p, hpm, rfl, htc⟩ := hp
  obtain ⟨hok, ts, hgo, hlast⟩ := hpi.go p hpm
  have hlen : p.2.1.length ≤ 16 := by
    have := y7P c hc [p.1]
    rw [htc] at this
    exact this
  unfold y7h
  rw [y9N c hs]
  simp only [Option.bind_some]
  rw [yGf c hs _ (by simp), if_pos htr, htc]
  simp only [Option.bind_some]
  rw [bifF (show ((0 : Int) != 0) = false from rfl), bifT (y6 (by omega)), yJu c hs [p.1] p.2.1 (by simp) (by omega) (fun y hy => (hok y hy).2.1),
    if_pos (show yF (trE2 c [p.1]) (ym p.2.1) = 0 from yD.2 ⟨htr, y8r (by omega) hok⟩)]
  have hpr : yIu c [p.1] p.2.1 = 0 := by
    unfold yIu run0
    rw [y7u 0 [] hgo, List.nil_append, hlast]
    simp [yF]
  rw [hpr]
  rfl
theorem yH6 {c : Cha} (hs : Sh c) (hk : yQ c = 0) (R : List Int) : ∀ (r : List Int) (k : Int), (∀ x ∈ r, x ∈ RS c) →
    yH (fun i__ e__ s__ => y7h c R i__ e__) (fun s__ => yAf c R) k r () = some (true, ())
  | [], k, _ => by
    rw [yH]
    unfold yAf
    rw [y7m]
    rfl
  | x :: r, k, h => by
    rw [yH, yJs hs hk R k (h x (by simp))]
    exact yH6 hs hk R r (k + 1) (fun y hy => h y (by simp [hy]))
end Go.Tw
end
section
set_option linter.all false
set_option maxRecDepth 100000
namespace Go.Tw
open Go.Vx Go.Vx.B Go.Proofs
theorem yBQ {c : Cha} (hcl : yBb c) (hs : Sh c) (hk : yQ c = 0) (l : List Inp) (start : Int) (run : List Int) (fs : List Fai) (n t : Int) (l2 : List Inp) (i : Int) (k0 : List UInt8) (k1 k2 k3 : Int) (x : Inp) (comes : Bool)
    {leaf : Int} (hl : leaf ∈ RS c) {w : Int} (h0 : 0 ≤ w) (h1 : w ≤ 15) (hx : x.1.length < lenMax) (next : Int) (hn : comes = true → next = (stp c leaf x.1 w).1)
    (hw : ∀ e : List UInt8, y5m (evts c.2.1) e = some ((evts c.2.1).contains e, ())) :
    y6T l c (RS c) (evts c.2.1) start run leaf fs n t l2 i (kn (y11 (y0X c) (evts c.2.1) (RS c)) []) k0 k1 k2 k3 x next comes w = some (.inr next) := by
  have hc := y0i c hk
  unfold y6T
  cases comes with
  | false => rfl
  | true =>
    rw [cond_true]
    cases hodd : (yP .i64 .and w 1 == 1) with
    | false => rfl
    | true =>
      rw [cond_true, hw, Option.bind_some]
      cases he : (evts c.2.1).contains x.1 with
      | false => rfl
      | true =>
        have hem : x.1 ∈ evts c.2.1 := by simpa using he
        have hnx := hn rfl
        have hr : next ∈ RS c := by rw [hnx]; exact yIW hc hl hem h0 h1 (hcl leaf (yN8 hs hc hl) x.1 w h0 h1)
        obtain ⟨g0, g1⟩ := yCz c hc next hr
        obtain ⟨j, rfl⟩ := Int.eq_ofNat_of_zero_le g0
        have hj : j < c.1.length := by omega
        have hkn := yCY hcl hs hc hl hem h0 h1 hodd
        have hst : c.1[j]? = some (c.1[j]) := List.getElem?_eq_getElem hj
        rw [cond_true, y1v, hst, Option.bind_some]
        change (bif !((yM kc .bool _ (leaf, x.1, w, ())).getD false == _) then _ else _) = _
        rw [hkn, ← hnx]
        unfold mvs
        rw [Int.toNat_natCast, hst]
        simp
end Go.Tw
end
section
set_option linter.all false
set_option maxRecDepth 100000
namespace Go.Tw
open Go.Vx Go.Vx.B Go.Proofs
theorem yGj : ∀ b : Fin 4, yP .i64 .and (b.val : Int) 3 = b.val := by decide +kernel
theorem yHU : ∀ (v : Fin 16) (b : Fin 4), yP .i64 .andNot (v.val : Int) (IntKind.i64.wrap (1 * 2 ^ min (b.val : Int).toNat IntKind.i64.bits)) = setB v.val b.val 0 := by decide +kernel
theorem yJF (v b : Int) : yP .i64 .or (yP .i64 .andNot v (IntKind.i64.wrap (1 * 2 ^ min b.toNat IntKind.i64.bits))) (IntKind.i64.wrap (1 * 2 ^ min b.toNat IntKind.i64.bits)) = setB v b 1 := rfl
theorem yD8 (l : List Inp) (c : Cha) (R : List Int) (ev : List (List UInt8)) (start : Int) (run : List Int) (leaf : Int) (fs : List Fai) (n t : Int) (l2 : List Inp) (i : Int) (m : List (Cas × Bool)) (k0 : List UInt8) (k1 b w : Int) (x : Inp) (next : Int) (comes q : Bool)
    (hx : 0 ≤ x.2.1 ∧ x.2.1 ≤ 15) (hb : 0 ≤ b ∧ b ≤ 3) (hw : 0 ≤ w ∧ w ≤ 1) :
    yAI l c R ev start run leaf fs n t l2 i m k0 k1 b w x next comes q = y6T l c R ev start run leaf fs n t l2 i m k0 k1 b w x next comes (bif q then setB x.2.1 b w else x.2.1) := by
  unfold yAI
  cases q with
  | false => rfl
  | true =>
    have e3 := yGj ⟨b.toNat, by omega⟩
    rw [show ((⟨b.toNat, by omega⟩ : Fin 4).val : Int) = b by simp; omega] at e3
    rw [cond_true, e3, bifF (yG (by omega))]
    rcases (show w = 0 ∨ w = 1 by omega) with rfl | rfl
    · rw [bifF (show ((0 : Int) == 1) = false from rfl), cond_true]
      have := yHU ⟨x.2.1.toNat, by omega⟩ ⟨b.toNat, by omega⟩
      rw [show ((⟨x.2.1.toNat, by omega⟩ : Fin 16).val : Int) = x.2.1 by simp; omega, show ((⟨b.toNat, by omega⟩ : Fin 4).val : Int) = b by simp; omega] at this
      rw [this]
    · rw [bifT (show ((1 : Int) == 1) = true from rfl), cond_true, yJF]
end Go.Tw
end
section
set_option linter.all false
set_option maxRecDepth 100000
namespace Go.Tw
open Go.Vx Go.Vx.B Go.Proofs
theorem yEo {n : Int} {f : Fai} (h : y1h n f = 0) : (0 ≤ f.2.2.1 ∧ f.2.2.1 ≤ 3) ∧ (0 ≤ f.2.2.2.1 ∧ f.2.2.2.1 ≤ 1) := by
  unfold y1h at h
  split at h
  · split at h
    · omega
    · cases h
  · split at h
    · split at h
      · omega
      · cases h
    · split at h
      · obtain ⟨_, h⟩ := yD.1 h
        obtain ⟨hb, hw⟩ := yD.1 h
        exact ⟨y1C hb, y1C hw⟩
      · cases h
theorem yJ4 {c : Cha} (hcl : yBb c) (hs : Sh c) (hk : yQ c = 0) (l : List Inp) (start : Int) (run : List Int) (fs : List Fai) (n t : Int) (l2 : List Inp) (i : Int) {N : Int} {f : Fai} (hf : y1h N f = 0) {x : Inp} (hx : 0 ≤ x.2.1 ∧ x.2.1 ≤ 15) (hxl : x.1.length < lenMax)
    {leaf : Int} (hl : leaf ∈ RS c) (next : Int) (hi : idx run i = some next) (hr : next ∈ RS c) (hn : next = if (dF f i x).2 = true then (stp c leaf (dF f i x).1.1 (dF f i x).1.2.1).1 else leaf)
    (hev : (evts c.2.1).length < lenMax) :
    y7s l c (RS c) (evts c.2.1) start run fs n t l2 (kn (y11 (y0X c) (evts c.2.1) (RS c)) []) f.1 f.2.1 f.2.2.1 f.2.2.2.1 i x leaf = some (.inr next) := by
  have hc := y0i c hk
  obtain ⟨g0, g1⟩ := yCz c hc next hr
  have hRl := y7K c hc
  obtain ⟨hb, hw⟩ := yEo hf
  have hdr := y68 f N hf i x hx
  have hhw : ∀ e : List UInt8, y5m (evts c.2.1) e = some ((evts c.2.1).contains e, ()) := fun e => y7t _ e hev
  unfold y7s
  rw [hi, Option.bind_some, bifF (yG (by omega)), bifF (yG (by omega)), yGZ _ _ (by unfold lenMax; omega), Option.bind_some, bifF (show (!(RS c).contains next) = false by simpa using hr)]
  have hsl : stuckW ≠ lostW := by decide
  unfold dF at hn hdr
  change (bif f.1 == lostW then _ else _) = _
  unfold yAp
  by_cases h1 : f.1 = lostW
  · have e1 : (f.1 == lostW) = true := by simpa using h1
    have e2 : (f.1 == stuckW) = false := by rw [h1]; decide
    change (bif f.1 == lostW then (bif f.2.1 == i then (bif f.1 == stuckW then _ else _) else (bif f.1 == stuckW then _ else _)) else _) = _
    rw [if_pos h1] at hn
    rw [bifT e1, bifF e2, bifF e2, yD8 _ _ _ _ _ _ _ _ _ _ _ _ _ _ _ _ _ _ _ _ _ hx hb hw, yD8 _ _ _ _ _ _ _ _ _ _ _ _ _ _ _ _ _ _ _ _ _ hx hb hw, cond_false]
    cases hq : f.2.1 == i with
    | true =>
      rw [cond_true]
      exact yBQ hcl hs hk _ _ _ _ _ _ _ _ _ _ _ _ x false hl hx.1 hx.2 hxl next (fun h => by cases h) hhw
    | false =>
      rw [cond_false]
      refine yBQ hcl hs hk _ _ _ _ _ _ _ _ _ _ _ _ x true hl hx.1 hx.2 hxl next (fun _ => ?_) hhw
      rw [hn, if_pos (show (i != f.2.1) = true by rw [bne_iff_ne]; intro h; rw [h] at hq; simp at hq)]
  · have e1 : (f.1 == lostW) = false := by simpa using h1
    rw [bifF e1]
    change (bif f.1 == stuckW then _ else _) = _
    rw [if_neg h1] at hn hdr
    rw [yD8 _ _ _ _ _ _ _ _ _ _ _ _ _ _ _ _ _ _ _ _ _ hx hb hw, yD8 _ _ _ _ _ _ _ _ _ _ _ _ _ _ _ _ _ _ _ _ _ hx hb hw, cond_false]
    by_cases h2 : f.1 = stuckW
    · rw [bifT (show (f.1 == stuckW) = true by simpa using h2)]
      rw [if_pos h2] at hn hdr
      by_cases h3 : f.2.1 ≤ i
      · rw [if_pos h3] at hn hdr
        rw [show decide (i ≥ f.2.1) = true from decide_eq_true h3, cond_true]
        exact yBQ hcl hs hk _ _ _ _ _ _ _ _ _ _ _ _ x true hl hdr.1 hdr.2 hxl next (fun _ => hn) hhw
      · rw [if_neg h3] at hn
        rw [show decide (i ≥ f.2.1) = false from decide_eq_false h3, cond_false]
        exact yBQ hcl hs hk _ _ _ _ _ _ _ _ _ _ _ _ x true hl hx.1 hx.2 hxl next (fun _ => hn) hhw
    · rw [bifF (show (f.1 == stuckW) = false by simpa using h2)]
      rw [if_neg h2] at hn
      exact yBQ hcl hs hk _ _ _ _ _ _ _ _ _ _ _ _ x true hl hx.1 hx.2 hxl next (fun _ => hn) hhw
end Go.Tw
end
section
set_option linter.all false
set_option maxRecDepth 100000
namespace Go.Tw
open Go.Vx Go.Vx.B Go.Proofs
theorem yGP {c : Cha} (hcl : yBb c) (hs : Sh c) (hk : yQ c = 0) (l : List Inp) (start : Int) (run : List Int) (fs : List Fai) (n t : Int) (l2 : List Inp) {N : Int} {f : Fai} (hf : y1h N f = 0) (hev : (evts c.2.1).length < lenMax) :
    ∀ (r : List Inp) (pre : List Int) (leaf : Int), (∀ x ∈ r, (0 ≤ x.2.1 ∧ x.2.1 ≤ 15) ∧ x.1.length < lenMax) → leaf ∈ RS c → run = pre ++ trc c (dF f) r (pre.length : Int) leaf →
    yH (fun i__ e__ s__ => y7s l c (RS c) (evts c.2.1) start run fs n t l2 (kn (y11 (y0X c) (evts c.2.1) (RS c)) []) f.1 f.2.1 f.2.2.1 f.2.2.2.1 i__ e__ s__)
      (fun s__ => yD0 l c (RS c) (evts c.2.1) start run fs n t l2 (kn (y11 (y0X c) (evts c.2.1) (RS c)) []) f.1 f.2.1 f.2.2.1 f.2.2.2.1 s__) (pre.length : Int) r leaf = some (.inr ())
  | [], pre, leaf, _, _, _ => rfl
  | x :: r, pre, leaf, hx, hl, hrun => by
    have hc := y0i c hk
    have hx0 := hx x (by simp)
    have hdr := y68 f N hf (pre.length : Int) x hx0.1
    have hnr : (if (dF f (pre.length : Int) x).2 = true then (stp c leaf (dF f (pre.length : Int) x).1.1 (dF f (pre.length : Int) x).1.2.1).1 else leaf) ∈ RS c := by
      split
      · exact yQg hc hl _ hdr.1 hdr.2 (hcl leaf (yN8 hs hc hl) _ _ hdr.1 hdr.2)
      · exact hl
    unfold trc at hrun
    have hi : idx run (pre.length : Int) = some (if (dF f (pre.length : Int) x).2 = true then (stp c leaf (dF f (pre.length : Int) x).1.1 (dF f (pre.length : Int) x).1.2.1).1 else leaf) := by
      rw [y1v, hrun, List.getElem?_append_right (Nat.le_refl _), Nat.sub_self]
      rfl
    rw [yH, yJ4 hcl hs hk l start run fs n t l2 (pre.length : Int) hf hx0.1 hx0.2 hl _ hi hnr rfl hev, Option.bind_some]
    have ih := yGP hcl hs hk l start run fs n t l2 hf hev r (pre ++ [if (dF f (pre.length : Int) x).2 = true then (stp c leaf (dF f (pre.length : Int) x).1.1 (dF f (pre.length : Int) x).1.2.1).1 else leaf]) _ (fun y hy => hx y (by simp [hy])) hnr
      (by rw [hrun]; simp)
    rw [List.length_append, List.length_singleton, Int.natCast_add, Int.natCast_one] at ih
    exact ih
end Go.Tw
end
section
set_option linter.all false
set_option maxRecDepth 100000
namespace Go.Tw
open Go.Vx Go.Vx.B Go.Proofs
theorem yJY {c : Cha} (hcl : yBb c) (hs : Sh c) (hk : yQ c = 0) (l : List Inp) (hll : l.length ≤ 100) (hsc : ym l = 0) (hw : ∀ x ∈ l, x.1.length < lenMax) (fs : List Fai) (i : Int) {f : Fai} (hf : y1h l.length f = 0) (hev : (evts c.2.1).length < lenMax) :
    y8V l c (RS c) (evts c.2.1) (entr c 0) fs (kn (y11 (y0X c) (evts c.2.1) (RS c)) []) i f = some (.inr ()) := by
  have hmem : memMax = 68719476736 := rfl
  have hc := y0i c hk
  have hpos := hc.pos
  have hv15 := y3V hsc
  have e0 := y1e c hc 0 (by omega) (by omega)
  unfold y8V
  rw [y9N c hs]
  simp only [Option.bind_some]
  rw [yAk l (by omega)]
  simp only [Option.bind_some]
  rw [show (f.1, f.2.1, f.2.2.1, f.2.2.2.1, ()) = f from rfl, yKg c hs l hll hw f, if_pos (show E1 c l f = 0 from yD.2 ⟨hk, yD.2 ⟨hsc, hf⟩⟩)]
  have hp : yKD c l f = (trc c (dF f) l 0 (entr c 0), 0) := by
    unfold yKD
    rw [y6X hc hcl (dF f) l 0 (entr c 0) [] e0 (fun j x hx => y68 f _ hf j x (hv15 x hx))]
    rfl
  rw [hp]
  simp only [Option.bind_some]
  rw [bifF (show ((0 : Int) != 0) = false from rfl), y7x, bifF (show ((l.length : Int) != (l.length : Int)) = false by simp), bifT (y6 (by unfold lenMax; omega))]
  exact yGP hcl hs hk l (entr c 0) (trc c (dF f) l 0 (entr c 0)) fs (fs.length : Int) i l hf hev l [] (entr c 0) (fun x hx => ⟨hv15 x hx, hw x hx⟩) (yIy hc) rfl
theorem yGS {c : Cha} (hcl : yBb c) (hs : Sh c) (hk : yQ c = 0) (l : List Inp) (hll : l.length ≤ 100) (hsc : ym l = 0) (hw : ∀ x ∈ l, x.1.length < lenMax) (fs : List Fai) (hev : (evts c.2.1).length < lenMax) :
    ∀ (r : List Fai) (k : Int), (∀ f ∈ r, y1h l.length f = 0) →
    yH (fun i__ e__ s__ => y8V l c (RS c) (evts c.2.1) (entr c 0) fs (kn (y11 (y0X c) (evts c.2.1) (RS c)) []) i__ e__) (fun s__ => yAU l c (RS c) (evts c.2.1) (entr c 0) fs (kn (y11 (y0X c) (evts c.2.1) (RS c)) [])) k r () = some (true, ())
  | [], k, _ => by
    rw [yH]
    unfold yAU
    have := y7K c (y0i c hk)
    rw [bifT (y6 (by unfold lenMax; omega))]
    exact yH6 hs hk (RS c) (RS c) 0 (fun x hx => hx)
  | f :: r, k, h => by
    rw [yH, yJY hcl hs hk l hll hsc hw fs k (h f (by simp)) hev]
    exact yGS hcl hs hk l hll hsc hw fs hev r (k + 1) (fun y hy => h y (by simp [hy]))
end Go.Tw
end
section
set_option linter.all false
set_option maxRecDepth 100000
namespace Go.Tw
open Go.Vx Go.Vx.B Go.Proofs
theorem y5L (c : Cha) (leaf : Int) : ∀ ev : List (List UInt8), (y23 (y0X c) leaf ev).length ≤ 8 * ev.length
  | [] => by simp [y23]
  | e :: l => by
    have h1 := yDz c leaf e 8 0 (by decide)
    have h2 := y5f (y9A c) leaf e 8 (((0 : Nat) : Int) + 1)
    have h3 := y5L c leaf l
    unfold y23
    rw [List.length_append, List.length_cons]
    have h4 : (y1s (y0X c) leaf e 16 0).length ≤ 8 := by
      have : y1s (y0X c) leaf e 16 0 = yEl (y9A c) leaf e 8 (((0 : Nat) : Int) + 1) := h1
      rw [this]; exact h2
    omega
theorem y5K (c : Cha) (ev : List (List UInt8)) (hev : ev.length ≤ 8) : ∀ ls : List Int, (y11 (y0X c) ev ls).length ≤ 64 * ls.length
  | [] => by simp [y11]
  | x :: l => by
    have h1 := y5L c x ev
    have h2 := y5K c ev hev l
    unfold y11
    rw [List.length_append, List.length_cons]
    omega
theorem yNb {c : Cha} (hs : Sh c) (hc : Valid c) : (RS c).length ≤ c.1.length := by
  rw [show (RS c).length = (lvs (WS c)).length from (y0I (lvs (WS c))).length_eq]
  refine y9Z c.1.length _ (yKn hs hc).wi.nd (fun x hx => ?_)
  obtain ⟨p, hp, rfl⟩ := List.mem_map.1 hx
  exact (yKn hs hc).wi.rg p hp
end Go.Tw
end
section
set_option linter.all false
set_option maxRecDepth 100000
namespace Go.Tw
open Go.Vx Go.Vx.B Go.Proofs
theorem yIM {c : Cha} (h : y7X c = some (true, ())) (hv : c.1.length ≤ 16) : c.1.length ≤ 7 := by
  unfold y7X at h
  by_cases h2 : (c.1.length : Int) > 7
  · rw [bifT (y6 h2), bifT (show ((c.1.length : Int) != 17) = true by rw [bne_iff_ne]; omega)] at h
    cases h
  · omega
theorem yBd (c : Cha) (l : List Inp) (hll : l.length < lenMax) : zP_M c l = some (true, ()) := by
  have hmem : memMax = 68719476736 := rfl
  have aw : (zj_M.bind fun (v6 : Bool × Unit) => some (v6.1, ())) = some (true, ()) := by rw [y7m]; rfl
  unfold zP_M
  obtain ⟨s, hs, hs2⟩ := yJq c
  obtain ⟨b, hb, hb2⟩ := y7W l hll
  rw [hs, Option.bind_some]
  cases s with
  | false => exact aw
  | true =>
    have hc := hs2 rfl
    rw [bifF (show (!(true, ()).1) = false from rfl), hb, Option.bind_some]
    cases b with
    | false => exact aw
    | true =>
      have h40 := (hb2 rfl).2
      have hw : ∀ x ∈ l, x.1.length < lenMax := fun x hx => by have := h40 x hx; unfold lenMax; omega
      rw [bifF (show (!(true, ()).1) = false from rfl)]
      by_cases hl6 : (l.length : Int) > 6
      · rw [bifT (y6 hl6)]; exact aw
      rw [bifF (yG hl6), yHM]
      simp only [Option.bind_some]
      by_cases hk : ¬ yQ c = 0
      · rw [bifT (show (yQ c != 0) = true by simpa using hk)]; exact aw
      replace hk := Classical.not_not.1 hk
      rw [bifF (show (yQ c != 0) = false by simpa using hk), yG3]
      simp only [Option.bind_some]
      by_cases hsc : ¬ ym l = 0
      · rw [bifT (show (ym l != 0) = true by simpa using hsc)]; exact aw
      replace hsc := Classical.not_not.1 hsc
      rw [bifF (show (ym l != 0) = false by simpa using hsc)]
      have hv := y0i c hk
      unfold zq_M zq_m
      rw [yHS c hv true]
      simp only [Option.bind_some]
      by_cases ha : ¬ y11 (y2z c true) (evts c.2.1) (y0c 0 c.1) = []
      · rw [bifT (show ((((y11 (y2z c true) (evts c.2.1) (y0c 0 c.1)).length : Nat) : Int) != 0) = true by simpa using ha)]; exact aw
      replace ha := Classical.not_not.1 ha
      rw [ha, bifF (show ((([] : List Cas).length : Int) != 0) = false from rfl)]
      have hcl := yJS ha
      have hl : l.length ≤ 6 := by omega
      have hfew : c.1.length ≤ 7 := yIM hs hv.few
      have hRf := yNb hc hv
      have hkd := hv.kinds
      have hfl : (yAX l.length).length = 1 + 9 * l.length := by unfold yAX; rw [List.length_cons, y5d]; omega
      have hFails : zx_M l = some (yAX l.length, 0, ()) := by
        unfold zx_M zx_m
        rw [y5E l (by omega) hw, Option.bind_some, hsc, bifF (show ((0 : Int) != 0) = false from rfl), yHr l.length (by omega)]
        rfl
      have hag := y5K c (evts c.2.1) hkd (RS c)
      rw [y9N c hc]
      simp only [Option.bind_some]
      rw [yBx c hc, yHO c hc, yF5 c hc, yG8 c hc, if_pos hk, if_pos hk, if_pos hk, if_pos hk, yAk l (by omega)]
      simp only [Option.bind_some]
      rw [hFails]
      simp only [Option.bind_some]
      rw [show (IntKind.i64.wrap (IntKind.i64.wrap (IntKind.i64.wrap (IntKind.i64.wrap ((0 : Int) + 0) + 0) + 0) + 0) != 0) = false by decide, cond_false]
      rw [hfl, show IntKind.i64.wrap ((9 : Int) * (l.length : Int)) = 9 * (l.length : Int) from yB0 (by omega) (by omega), show IntKind.i64.wrap ((1 : Int) + 9 * (l.length : Int)) = ((1 + 9 * l.length : Nat) : Int) by rw [yB0 (by omega) (by omega)]; omega]
      rw [bifF (show (((1 + 9 * l.length : Nat) : Int) != ((1 + 9 * l.length : Nat) : Int)) = false by simp), bifF (yG (by omega)), bifT (y6 (by unfold lenMax; omega)), yDZ]
      unfold y8K
      rw [bifT (y6 (by unfold lenMax; omega))]
      exact yGS hcl hc hk l (by omega) hsc hw (yAX l.length) (by unfold lenMax; omega) (yAX l.length) 0 (fun f hf => yHy l.length f hf)
end Go.Tw
end
