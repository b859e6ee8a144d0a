import Derived.Test.YtkfigfhjbejikaaGreatDoorP28
import Derived.Test.YtkfigfhjbejikaaGreatDoorP25
import Derived.Test.YtkfigfhjbejikaaGreatDoorPB
import Derived.Test.YtkfigfhjbejikaaGreatDoorBG
set_option linter.all false
set_option maxRecDepth 100000
namespace Go.Tw
open Go.Vx Go.Vx.B Go.Proofs
structure MoreOK (x : Int × Int × Int × Int × Unit) : Prop where
  node : 0 ≤ x.1 ∧ x.1 ≤ 255
  vol : 0 ≤ x.2.1 ∧ x.2.1 ≤ 255
  flow : 0 ≤ x.2.2.1 ∧ x.2.2.1 ≤ 255
  tide : 0 ≤ x.2.2.2.1 ∧ x.2.2.2.1 ≤ 255
def lev (d : Int) (node : Int) (v : List Int) : Int := wr ((gv v node.toNat).tdiv d)
theorem yJ0 {d node : Int} {N : Nat} {v v' : List Int} (hd : 1 ≤ d) (hv : Fit N v) (hv' : Fit N v') (h : Le v v') : lev d node v ≤ lev d node v' := by
  have h1 := hv.2 node.toNat;have h2 := hv'.2 node.toNat;have h3 := h node.toNat;have q1 := Int.ediv_nonneg h1.1 (show 0 ≤ d by omega)
  have q2 := Int.ediv_nonneg h2.1 (show 0 ≤ d by omega)
  have q3 := Int.ediv_le_self (a := gv v node.toNat) d h1.1;have q4 := Int.ediv_le_self (a := gv v' node.toNat) d h2.1;unfold lev;rw [Int.tdiv_eq_ediv_of_nonneg h1.1, Int.tdiv_eq_ediv_of_nonneg h2.1, yd (by omega) (by omega), yd (by omega) (by omega)]
  exact y2w hd h3
theorem y2G (b : Bas) (hb : BasOK b) (c : Cnd) (hc : c.2.2.1.length = b.1.length) (node level : Int) (h0 : 0 ≤ node) (h1 : node < b.1.length) (nd : Nod) (hnd : idx b.1 node = some nd) (i : Int) (v : List Int) (hv : v.length = b.1.length) :
    y3X node level b c i v = (bif decide (lev nd.2.1 node v ≥ level) then some (.inl (i, 0, ())) else bif i == 96 then some (.inl (0, 7, ())) else match y1n b v c with
      | some (f, o) => some (.inr o)
      | none => some (.inl (0, 4, ()))) := by
  obtain ⟨e1, _⟩ := y0a (out := v) h0 (by rw [hv]; exact h1)
  have hm : nd ∈ b.1 := by
    unfold idx at hnd;rw [if_pos h0] at hnd;exact List.mem_of_getElem? hnd
  have ha : nd.2.1 ≠ 0 := by have := (hb.area _ hm).1; omega
  have e5 : zi_M nd (v.getD node.toNat 0) = some (lev nd.2.1 node v, ()) := by
    unfold zi_M zi_m;rw [bifF (beq_eq_false_iff_ne.2 ha)];rfl
  unfold y3X;rw [hnd, e1];simp only [Option.bind_some];rw [e5];simp only [Option.bind_some];cases decide (lev nd.2.1 node v ≥ level) with
  | true => rfl
  | false =>
    simp only [cond_false];cases (i == 96) with
    | true => rfl
    | false =>
      simp only [cond_false];rcases y8d b hb v c hv hc with ⟨f, o, s1, _, s3, _⟩ | ⟨s1, _, f, o, s3⟩
      · rw [s1, s3]; rfl
      · rw [s1, s3]; rfl
section
variable (b : Bas) (hb : BasOK b) (he : ∀ x ∈ b.2.1, EndsOK x) (node level : Int) (h0 : 0 ≤ node) (h1 : node < b.1.length) (nd : Nod) (hnd : idx b.1 node = some nd)
include hb he h0 h1 hnd
theorem yD2 (c : Cnd) (hc : CondOK b c) : ∀ (m : Nat) (i : Int) (v : List Int), Fit b.1.length v →
    ∃ y, y0h (fun i__ s__ => y3X node level b c i__ s__) (fun s__ => y5T node level b c s__) m i v = some y ∧ (y.2.1 = 0 → i ≤ y.1)
  | 0, i, v, _ => ⟨(0, 7, ()), rfl, fun h => by cases h⟩
  | m + 1, i, v, hv => by
    unfold y0h;rw [y2G b hb c hc.len node level h0 h1 nd hnd i v hv.1];cases decide (lev nd.2.1 node v ≥ level) with
    | true => exact ⟨_, rfl, fun _ => Int.le_refl _⟩
    | false =>
      simp only [cond_false];cases (i == 96) with
      | true => exact ⟨_, rfl, fun h => by cases h⟩
      | false =>
        simp only [cond_false];cases hs : y1n b v c with
        | none => exact ⟨_, rfl, fun h => by cases h⟩
        | some y =>
          obtain ⟨f, o⟩ := y;obtain ⟨y, r1, r2⟩ := yD2 c hc m (i + 1) o (y2i hb he hv hc hs);exact ⟨y, r1, fun h => by have := r2 h; omega⟩
theorem y8L (c c' : Cnd) (hc : CondOK b c) (hc' : CondOK b c') (hcl : CLe c c') : ∀ (m : Nat) (i : Int) (v v' : List Int), Fit b.1.length v → Fit b.1.length v' → Le v v' →
    ∃ y y', y0h (fun i__ s__ => y3X node level b c i__ s__) (fun s__ => y5T node level b c s__) m i v = some y ∧
      y0h (fun i__ s__ => y3X node level b c' i__ s__) (fun s__ => y5T node level b c' s__) m i v' = some y' ∧
      (y.2.1 = 0 → y'.2.1 = 4 ∨ (y'.2.1 = 0 ∧ y'.1 ≤ y.1))
  | 0, i, v, v', _, _, _ => ⟨(0, 7, ()), (0, 7, ()), rfl, rfl, fun h => by cases h⟩
  | m + 1, i, v, v', hv, hv', hle => by
    have hm : nd ∈ b.1 := by
      have := hnd;unfold idx at this;rw [if_pos h0] at this;exact List.mem_of_getElem? this
    have hlev := yJ0 (node := node) (hb.area nd hm).1 hv hv' hle;obtain ⟨y0, g1, g2⟩ := yD2 b hb he node level h0 h1 nd hnd c hc (m + 1) i v hv;by_cases hr' : lev nd.2.1 node v' ≥ level
    · refine ⟨y0, (i, 0, ()), g1, ?_, fun h => .inr ⟨rfl, g2 h⟩⟩
      unfold y0h;rw [y2G b hb c' hc'.len node level h0 h1 nd hnd i v' hv'.1, y8 hr'];rfl
    · by_cases hi : (i == 96) = true
      · refine ⟨(0, 7, ()), (0, 7, ()), ?_, ?_, fun h => by cases h⟩ <;> unfold y0h
        · rw [y2G b hb c hc.len node level h0 h1 nd hnd i v hv.1, yF (by omega), hi]; rfl
        · rw [y2G b hb c' hc'.len node level h0 h1 nd hnd i v' hv'.1, yF hr', hi]; rfl
      · have hi : (i == 96) = false := by simpa using hi
        cases hs : y1n b v' c' with
        | none =>
          refine ⟨y0, (0, 4, ()), g1, ?_, fun _ => .inl rfl⟩
          unfold y0h;rw [y2G b hb c' hc'.len node level h0 h1 nd hnd i v' hv'.1, yF hr', hi, hs]; rfl
        | some z =>
          obtain ⟨f', o'⟩ := z;obtain ⟨f, o, k1, k2⟩ := y8z hb he hv hv' hc hc' hle hcl hs;obtain ⟨y, y', r1, r2, r3⟩ := y8L c c' hc hc' hcl m (i + 1) o o' (y2i hb he hv hc k1) (y2i hb he hv' hc' hs) k2;refine ⟨y, y', ?_, ?_, r3⟩ <;> unfold y0h
          · rw [y2G b hb c hc.len node level h0 h1 nd hnd i v hv.1, yF (by omega), hi, k1]; exact r1
          · rw [y2G b hb c' hc'.len node level h0 h1 nd hnd i v' hv'.1, yF hr', hi, hs]; exact r2
end
theorem yGZ {b : Bas} {v : List Int} {c : Cnd} {node level : Int} (hk0 : y0q b = 0) (hv : Fit b.1.length v) (hc : y0N b c = 0) (h0 : 0 ≤ node) (h1 : node < b.1.length) : ckU b v c node level = ckR level 0 1024 := by
  unfold ckU ckCV;rw [hk0, y5n hv, hc, yF (show ¬ (node < 0 ∨ (b.1.length : Int) ≤ node) by omega)]
  simp [yQ]
def upN (cap n d : Int) : Int := if wr (n + d) < cap then wr (n + d) else cap
def upC (k : Int) (x : Int × Int × Int × Int × Unit) (c : Cnd) : Cnd :=
  (upN 1024 c.1 ((wr x.2.2.2.1).tmod 8), c.2.1, c.2.2.1.set k.toNat (upN 100000 (gv c.2.2.1 k.toNat) (wr x.2.2.1)), c.2.2.2)
theorem yDl {cap n d : Int} (h0 : 0 ≤ d) (hd : d ≤ 255) (hn : -1024 ≤ n) (hc : n ≤ cap) (hcap : cap ≤ 100000) : n ≤ upN cap n d ∧ upN cap n d ≤ cap := by
  unfold upN;rw [yd (by omega) (by omega)]
  split <;> omega
theorem yK9 {l : List Int} {k i : Nat} {y : Int} (hk : k < l.length) : gv (l.set k y) i = if i = k then y else gv l i := by
  unfold gv;by_cases h : i = k
  · subst h;rw [if_pos rfl];simp [List.getD, hk]
  · rw [if_neg h];simp [List.getD, List.getElem?_set_ne (Ne.symm h)]
theorem yBY {x : Int × Int × Int × Int × Unit} (hx : MoreOK x) : 0 ≤ (wr x.2.2.2.1).tmod 8 ∧ (wr x.2.2.2.1).tmod 8 ≤ 7 := by
  have h := hx.tide;rw [yd (by omega) (by omega), Int.tmod_eq_emod_of_nonneg h.1]
  omega
theorem yJq {b : Bas} {c : Cnd} {k : Int} {x : Int × Int × Int × Int × Unit} (hx : MoreOK x) (h : y0N b c = 0) : y0N b (upC k x c) = 0 := by
  obtain ⟨h1, h2, h3⟩ := y4Z h;have ht := yBY hx;have hf := hx.flow;have hw : wr x.2.2.1 = x.2.2.1 := yd (by omega) (by omega)
  have g := yCv (y01 h) k.toNat;have u1 := yDl (cap := 1024) (n := c.1) ht.1 (by omega) h1.1 h1.2 (by omega)
  have u2 := yDl (cap := 100000) (n := gv c.2.2.1 k.toNat) (d := x.2.2.1) hf.1 hf.2 (by omega) g.2 (by omega)
  refine yB2 (show -1024 ≤ upN 1024 c.1 ((wr x.2.2.2.1).tmod 8) ∧ upN 1024 c.1 ((wr x.2.2.2.1).tmod 8) ≤ 1024 by omega) (by show (c.2.2.1.set _ _).length = _; rw [List.length_set, h2]) fun n hn => ?_
  rcases List.mem_or_eq_of_mem_set (show n ∈ c.2.2.1.set k.toNat (upN 100000 (gv c.2.2.1 k.toNat) (wr x.2.2.1)) from hn) with hn | rfl
  · exact h3 n hn
  · rw [hw]; omega
theorem yKW {b : Bas} {c : Cnd} {k : Int} {x : Int × Int × Int × Int × Unit} (hx : MoreOK x) (h : y0N b c = 0) (h0 : 0 ≤ k) (hk : k < b.1.length) : CLe c (upC k x c) := by
  obtain ⟨h1, h2, h3⟩ := y4Z h;have ht := yBY hx;have hf := hx.flow;have hw : wr x.2.2.1 = x.2.2.1 := yd (by omega) (by omega)
  have g := yCv (y01 h) k.toNat;have u1 := yDl (cap := 1024) (n := c.1) ht.1 (by omega) h1.1 h1.2 (by omega)
  have u2 := yDl (cap := 100000) (n := gv c.2.2.1 k.toNat) (d := x.2.2.1) hf.1 hf.2 (by omega) g.2 (by omega)
  refine ⟨u1.1, rfl, fun i => ?_⟩
  show gv c.2.2.1 i ≤ gv (c.2.2.1.set k.toNat (upN 100000 (gv c.2.2.1 k.toNat) (wr x.2.2.1))) i
  rw [yK9 (by omega), hw]
  split
  · rename_i e;rw [e];exact u2.1
  · exact Int.le_refl _
theorem y73 {f : Cnd → Cnd} : ∀ {l : List Cnd}, (∀ c ∈ l, CLe c (f c)) → y5Q l (l.map f)
  | [], _ => trivial
  | c :: l, h => ⟨h c (by simp), y73 fun x hx => h x (by simp [hx])⟩
theorem yBk (l : List Cnd) (b : Bas) (x : Int × Int × Int × Int × Unit) (t : Int) (hx : MoreOK x) : ∀ (m : Nat) (i : Int) (s : List Int), 0 ≤ i → i + m = s.length → s.length ≤ 8 → (∀ e ∈ s, 0 ≤ e ∧ e ≤ 20000) →
    ∃ v, y0h (fun i__ s__ => y8e l b x t i__ s__) (fun s__ => y77 l b x t s__) m i s = y77 l b x t v ∧ v.length = s.length ∧ ∀ e ∈ v, 0 ≤ e ∧ e ≤ 20000
  | 0, i, s, _, _, _, hs => ⟨s, rfl, rfl, hs⟩
  | m + 1, i, s, h0, hm, h8, hs => by
    obtain ⟨e1, e2⟩ := y0a (out := s) (j := i) h0 (by omega)
    have ht := hx.tide;have q : 0 ≤ 7 * (i + 1) * x.2.2.2.1 ∧ 7 * (i + 1) * x.2.2.2.1 ≤ 20000 := by
      have q1 : 0 ≤ 7 * (i + 1) * x.2.2.2.1 := Int.mul_nonneg (by omega) ht.1
      have q2 := Int.mul_le_mul (show 7 * (i + 1) ≤ 56 by omega) ht.2 ht.1 (show (0 : Int) ≤ 56 by omega)
      omega
    have hbody : y8e l b x t i s = some (.inr (s.set i.toNat (7 * (i + 1) * x.2.2.2.1))) := by
      unfold y8e;rw [e1, e2];simp only [Option.bind_some];show some (Sum.inr (s.set i.toNat (wr (wr (7 * wr (i + 1)) * wr x.2.2.2.1)))) = _
      rw [yd (n := i + 1) (by omega) (by omega), yd (n := 7 * (i + 1)) (by omega) (by omega), yd (n := x.2.2.2.1) (by omega) (by omega), yd (by omega) (by omega)]
    obtain ⟨v, r1, r2, r3⟩ := yBk l b x t hx m (i + 1) (s.set i.toNat (7 * (i + 1) * x.2.2.2.1)) (by omega) (by rw [List.length_set]; omega) (by rw [List.length_set]; exact h8) (fun e he => by
      rcases List.mem_or_eq_of_mem_set he with he | rfl
      · exact hs e he
      · exact q)
    refine ⟨v, ?_, by rw [r2, List.length_set], r3⟩
    unfold y0h;rw [hbody];exact r1
theorem yB8 (l : List Cnd) (b : Bas) (x : Int × Int × Int × Int × Unit) (v : List Int) (k t : Int) (w : List Int) (h0 : 0 ≤ k) (hk : k < b.1.length) : ∀ (r P : List Cnd) (i : Int), i = (P.length : Int) → (∀ c ∈ r, c.2.2.1.length = b.1.length) →
    y0h (fun i__ s__ => y8y l b x v k t w i__ s__) (fun s__ => y7U l b x v k t w s__) r.length i (P ++ r) = y7U l b x v k t w (P ++ r.map (upC k x))
  | [], P, i, _, _ => rfl
  | c :: r, P, i, hi, hc => by
    have e1 : ∀ y, idx (P ++ y :: r) i = some y := fun y => y3w P y r i hi
    have e2 : ∀ y, (P ++ y :: r)[i.toNat]? = some y := fun y => by
      have := e1 y;unfold idx at this;rwa [if_pos (by omega)] at this
    have e3 : ∀ y z, (P ++ y :: r).set i.toNat z = P ++ z :: r := fun y z => y9D P y z r i hi
    obtain ⟨e4, e5⟩ := y0a (out := c.2.2.1) h0 (by rw [hc c (by simp)]; exact hk)
    have hbody : y8y l b x v k t w i (P ++ c :: r) = some (.inr (P ++ upC k x c :: r)) := by
      unfold y8y;simp only [e1, e2, e3, e4, e5, Option.bind_some];rfl
    show y0h _ _ (r.length + 1) i (P ++ c :: r) = _
    unfold y0h;rw [hbody];have := yB8 l b x v k t w h0 hk r (P ++ [upC k x c]) (i + 1) (by simp [hi]) (fun y hy => hc y (by simp [hy]))
    simpa using this
section
variable (l : List Cnd) (b : Bas) (v : List Int) (k : Int) (w : List Int) (l' : List Cnd) (LO HI : List (List Int))
theorem y8o (i t1 t2 : Int) (r s : List Int) (hL : idx LO i = some r) (hH : idx HI i = some s) (hrs : s.length = r.length) (hle : Le r s) : ∀ (m : Nat) (j : Int), 0 ≤ j → j + m = r.length →
    y0h (fun j__ s__ => y8t l b v k w l' LO HI i t1 t2 (r.length : Int) j__) (fun s__ => yDy l b v k w l' LO HI i t1 t2 (r.length : Int)) m j () = some (.inr ())
  | 0, j, _, _ => rfl
  | m + 1, j, h0, hm => by
    obtain ⟨e1, _⟩ := y0a (out := r) (j := j) h0 (by omega)
    obtain ⟨e2, _⟩ := y0a (out := s) (j := j) h0 (by omega)
    have hbody : y8t l b v k w l' LO HI i t1 t2 (r.length : Int) j = some (.inr ()) := by
      unfold y8t;rw [hL, hH];simp only [Option.bind_some];rw [e1, e2];simp only [Option.bind_some];rw [bifF (yF (by have := hle j.toNat; unfold gv at this; omega))]
    unfold y0h;rw [hbody];exact y8o i t1 t2 r s hL hH hrs hle m (j + 1) (by omega) (by omega)
theorem yAg (h8 : b.1.length ≤ 8) : ∀ (a c pa pc : List (List Int)) (i : Int), LO = pa ++ a → HI = pc ++ c → i = (pa.length : Int) → pa.length = pc.length → a.length = c.length → (∀ r ∈ a, Fit b.1.length r) → (∀ r ∈ c, Fit b.1.length r) →
    (∀ (j : Nat) r s, a[j]? = some r → c[j]? = some s → Le r s) →
    yL (fun i__ e__ s__ => y8U l b v k w l' LO HI i__ e__) (fun s__ => y6y l b v k w l' LO HI) i a () = y6y l b v k w l' LO HI
  | [], [], pa, pc, i, _, _, _, _, _, _, _, _ => rfl
  | r :: a, s :: c, pa, pc, i, hL, hH, hi, hp, hl, hr, hs, hle => by
    have f1 := hr r (by simp)
    have f2 := hs s (by simp)
    have g1 := f1.1;have g2 := f2.1;have e1 : idx LO i = some r := by rw [hL]; exact y3w pa r a i hi
    have e2 : idx HI i = some s := by rw [hH]; exact y3w pc s c i (by omega)
    have hbody : y8U l b v k w l' LO HI i r = some (.inr ()) := by
      unfold y8U;rw [y9g b r (by unfold lenMax; omega), y5n f1]
      simp only [Option.bind_some];rw [bifF (show ((0 : Int) != 0) = false from rfl), e2]
      simp only [Option.bind_some];rw [y9g b s (by unfold lenMax; omega), y5n f2]
      simp only [Option.bind_some];rw [bifF (show ((0 : Int) != 0) = false from rfl), e1]
      simp only [Option.bind_some];rw [bifT (y8 (show (r.length : Int) ≤ 9223372036854775807 by omega))]
      exact y8o l b v k w l' LO HI i _ _ r s e1 e2 (by omega) (hle 0 r s rfl rfl) _ 0 (by omega) (by omega)
    rw [y00, hbody];exact yAg h8 a c (pa ++ [r]) (pc ++ [s]) (i + 1) (by rw [hL]; simp) (by rw [hH]; simp) (by simp [hi]) (by simp [hp]) (by simpa using hl) (fun y hy => hr y (by simp [hy])) (fun y hy => hs y (by simp [hy]))
      (fun j y z h1 h2 => hle (j + 1) y z (by simpa using h1) (by simpa using h2))
  | [], _ :: _, _, _, _, _, _, _, _, hl, _, _, _ => by simp at hl
  | _ :: _, [], _, _, _, _, _, _, _, hl, _, _, _ => by simp at hl
end
section
variable (l : List Cnd) (b : Bas) (v w : List Int) (k : Int) (x : Int × Int × Int × Int × Unit) (hx : MoreOK x) (hk0 : y0q b = 0) (hn : ∀ n ∈ b.1, n.1.length < lenMax) (hv : Fit b.1.length v) (hw : Fit b.1.length w) (hle : Le v w)
  (hl : l.length ≤ 12) (hl0 : l.length ≠ 0) (hc : ∀ c ∈ l, y0N b c = 0) (h0 : 0 ≤ k) (hk : k < b.1.length)
include hx hk0 hn hv hw hle hl hl0 hc h0 hk
theorem yJe (LO HI : List (List Int)) : y6y l b v k w (l.map (upC k x)) LO HI = some (true, ()) := by
  have hmem : memMax = 68719476736 := rfl;have aw : (y1r.bind fun v6 => some (v6.1, ())) = some (true, ()) := by rw [y4C]; rfl
  have hb := y1A hk0;have he := y68 hk0;have h8 := hb.nodes;have h16 := hb.links;have hvl := hv.1;have hwl := hw.1;match l, hl0, hc with
  | c :: l, _, hc =>
    have hc0 := hc c (by simp)
    have hc1 := yJq (k := k) hx hc0;have hcl := yKW hx hc0 h0 hk;have n0 := (y01 hc0).len;have n1 := (y01 hc1).len;have hkn : k.toNat < b.1.length := by omega
    obtain ⟨nd, hnd⟩ : ∃ nd, idx b.1 k = some nd := ⟨b.1[k.toNat], by unfold idx; rw [if_pos h0]; exact List.getElem?_eq_getElem hkn⟩
    obtain ⟨y, y', r1, r2, r3⟩ := y8L b hb he k nd.2.2.1 h0 hk nd hnd c (upC k x c) (y01 hc0) (y01 hc1) hcl 97 0 v w hv hw hle;have u1 : y5J b v c k nd.2.2.1 = some (if ckR nd.2.2.1 0 1024 = 0 then y else (0, ckR nd.2.2.1 0 1024, ())) := by
      rw [yQO b v c k nd.2.2.1 hn (by omega) (by omega), yGZ hk0 hv hc0 h0 hk]
      by_cases hz : ckR nd.2.2.1 0 1024 = 0
      · rw [if_pos hz, bifF (by simpa using hz)]; exact r1
      · rw [if_neg hz, bifT (by simpa using hz)]
    have u2 : y5J b w ((upC k x c).1, (upC k x c).2.1, (upC k x c).2.2.1, ()) k nd.2.2.1 = some (if ckR nd.2.2.1 0 1024 = 0 then y' else (0, ckR nd.2.2.1 0 1024, ())) := by
      show y5J b w (upC k x c) k nd.2.2.1 = _
      rw [yQO b w (upC k x c) k nd.2.2.1 hn (by omega) (by omega), yGZ hk0 hw hc1 h0 hk]
      by_cases hz : ckR nd.2.2.1 0 1024 = 0
      · rw [if_pos hz, bifF (by simpa using hz)]; exact r2
      · rw [if_neg hz, bifT (by simpa using hz)]
    unfold y6y;rw [hnd, yDc b (by omega) (by omega), y5R v (by omega), y5R w (by omega), show idx (c :: l) 0 = some c from rfl, show idx ((c :: l).map (upC k x)) 0 = some (upC k x c) from rfl]
    simp only [Option.bind_some];rw [y61 c (by omega), y5R (upC k x c).2.2.1 (by omega)]
    simp only [Option.bind_some];rw [u1, u2];simp only [Option.bind_some];by_cases hz : ckR nd.2.2.1 0 1024 = 0
    · rw [if_pos hz, if_pos hz];by_cases h4 : y.2.1 = 0
      · rw [bifF (show (y.2.1 != 0) = false by simpa using h4)]
        rcases r3 h4 with h5 | ⟨h5, h6⟩
        · rw [bifT (show (y'.2.1 == 4) = true by simpa using h5)]
          exact aw
        · rw [h5, bifF (show ((0 : Int) == 4) = false from rfl), bifT (show ((0 : Int) == 0) = true from rfl), bifT (y8 h6)]
          exact aw
      · rw [bifT (show (y.2.1 != 0) = true by simpa using h4)]
        exact aw
    · rw [if_neg hz, bifT (show ((((0 : Int), ckR nd.2.2.1 0 1024, ()) : Int × Int × Unit).2.1 != 0) = true by simpa using hz)]
      exact aw
theorem yIq (t : Int) : y7U l b x v k t w (l.map (upC k x)) = some (true, ()) := by
  have hmem : memMax = 68719476736 := rfl;have aw : (y1r.bind fun v6 => some (v6.1, ())) = some (true, ()) := by rw [y4C]; rfl
  have hb := y1A hk0;have he := y68 hk0;have h8 := hb.nodes;have h16 := hb.links;have hvl := hv.1;have hwl := hw.1;have hc' : ∀ c ∈ l.map (upC k x), y0N b c = 0 := fun c h => by
    obtain ⟨c0, h1, rfl⟩ := List.mem_map.1 h;exact yJq hx (hc c0 h1)
  have hcl : y5Q l (l.map (upC k x)) := y73 fun c h => yKW hx (hc c h) h0 hk
  unfold y7U;rw [yDc b (by omega) (by omega), y5R v (by omega), y5R w (by omega), yAI l (by omega) (fun c h => by have := (y01 (hc c h)).len; omega)]
  simp only [Option.bind_some];rw [yOl b v l hk0 hn hv (by omega) hc, yOl b w (l.map (upC k x)) hk0 hn hw (by simp; omega) hc']
  simp only [Option.bind_some];cases hH : runD b w (l.map (upC k x)) with
  | none =>
    cases hL : runD b v l with
    | none =>
      show y14 l b v k w (l.map (upC k x)) ([], 4, ()) ([], 4, ()) = _
      unfold y14;exact aw
    | some ps =>
      show y14 l b v k w (l.map (upC k x)) (ps.map (·.2.2), 0, ()) ([], 4, ()) = _
      unfold y14;exact aw
  | some hp =>
    obtain ⟨ps, hL, hrl⟩ := yB7 hb he hv hw (fun c h => y01 (hc c h)) (fun c h => y01 (hc' c h)) hle hcl hH
    rw [hL];show y14 l b v k w (l.map (upC k x)) (ps.map (·.2.2), 0, ()) (hp.map (·.2.2), 0, ()) = _
    obtain ⟨k1, k2⟩ := y4k hb hvl (fun c h => (y01 (hc c h)).len) hL
    obtain ⟨k3, k4⟩ := y4k hb hwl (fun c h => (y01 (hc' c h)).len) hH
    rw [List.length_map] at k3;unfold y14;rw [bifF (show ((0 : Int) != 0) = false from rfl), bifF (show (((ps.map (·.2.2)).length : Int) != (l.length : Int)) = false by simp [k1]), bifF (show (((hp.map (·.2.2)).length : Int) != (l.length : Int)) = false by simp [k3]),
      bifT (y8 (show (ps.map (·.2.2)).length < lenMax by simp [lenMax]; omega)),
      yAg l b v k w (l.map (upC k x)) (ps.map (·.2.2)) (hp.map (·.2.2)) h8 (ps.map (·.2.2)) (hp.map (·.2.2)) [] [] 0 rfl rfl rfl rfl (by simp; omega)
        (fun r h => by obtain ⟨y, h1, rfl⟩ := List.mem_map.1 h; exact y9O hb he hv (fun c h => y01 (hc c h)) hL y h1)
        (fun r h => by obtain ⟨y, h1, rfl⟩ := List.mem_map.1 h; exact y9O hb he hw (fun c h => y01 (hc' c h)) hH y h1)
        (fun j r s h1 h2 => by
          rw [List.getElem?_map, Option.map_eq_some_iff] at h1 h2;obtain ⟨xa, h1, rfl⟩ := h1;obtain ⟨xc, h2, rfl⟩ := h2;exact hrl.at j xa xc h1 h2)]
    exact yJe l b v w k x hx hk0 hn hv hw hle hl hl0 hc h0 hk _ _
theorem yGb : y8a l w l b x (some v) k l = some (true, ()) := by
  unfold y8a;rw [bifT (y8 (show ((l.length : Nat) : Int) ≤ 9223372036854775807 by omega))]
  have h := yB8 l b x v k (l.length : Int) w h0 hk l [] 0 rfl (fun c h => (y01 (hc c h)).len)
  rw [List.nil_append, List.nil_append] at h;have e : (((l.length : Nat) : Int) - 0).toNat = l.length := by omega
  rw [e];exact h.trans (yIq l b v w k x hx hk0 hn hv hw hle hl hl0 hc h0 hk _)
end
theorem yJS (l : List Cnd) (b : Bas) (x : Int × Int × Int × Int × Unit) (t : Int) (v : List Int) (hx : MoreOK x) (hk0 : y0q b = 0) (hn : ∀ n ∈ b.1, n.1.length < lenMax) (hlc : ∀ c ∈ l, c.2.2.1.length < lenMax) (hl : l.length ≤ 12) (hl0 : l.length ≠ 0)
    (hv : v.length = b.1.length) (hs : ∀ e ∈ v, 0 ≤ e ∧ e ≤ 20000) : y77 l b x t v = some (true, ()) := by
  have hmem : memMax = 68719476736 := rfl;have aw : (y1r.bind fun v6 => some (v6.1, ())) = some (true, ()) := by rw [y4C]; rfl
  have hb := y1A hk0;have h8 := hb.nodes;have hp := hb.pos;unfold y77;rw [yIX b v l (by unfold lenMax; omega) (by unfold lenMax; omega) hlc]
  simp only [Option.bind_some];by_cases hr : y7i b v l = 0
  · rw [bifF (show (y7i b v l != 0) = false by simpa using hr), bifF (show ((b.1.length : Int) == 0) = false by simp; intro h; rw [h] at hp; simp at hp), bifT (y8 (show v.length ≤ memMax by omega))]
    obtain ⟨g1, g2, g3, g4, g5⟩ := yFP hr;have hnode := hx.node;have hvol := hx.vol;have hk : 0 ≤ (wr x.1).tmod (b.1.length : Int) ∧ (wr x.1).tmod (b.1.length : Int) < b.1.length := by
      rw [yd (by omega) (by omega), Int.tmod_eq_emod_of_nonneg hnode.1]
      exact ⟨Int.emod_nonneg _ (by omega), Int.emod_lt_of_pos _ (by omega)⟩
    show ((idx v ((wr x.1).tmod (b.1.length : Int))).bind _) = _
    generalize (wr x.1).tmod (b.1.length : Int) = k at hk ⊢;obtain ⟨e1, e2⟩ := y0a (out := v) hk.1 (by omega)
    rw [e1, e2];simp only [Option.bind_some];have hgk : 0 ≤ gv v k.toNat ∧ gv v k.toNat ≤ 20000 := hs _ (yE7 (by omega))
    have ew : wr (gv v k.toNat + wr x.2.1) = gv v k.toNat + x.2.1 := by rw [yd (n := x.2.1) (by omega) (by omega), yd (by omega) (by omega)]
    rw [bifT (y8 (show l.length < lenMax by unfold lenMax; omega)), y1M (fun c => c) l 0 [] (by simp; omega) (fun i e s he hsl => by
      unfold yD4;rw [bifT (y8 (show e.2.2.1.length ≤ memMax by have := (y01 (g5 e he)).len; omega)), y8 (show 0 < 1 by omega), y8 hsl]
      rfl)]
    rw [List.map_id', List.nil_append];show y8a l (v.set k.toNat (wr (gv v k.toNat + wr x.2.1))) l b x (some v) k l = _
    rw [ew];refine yGb l b v _ k x hx hk0 hn (yJs g2 g3) (yJs (by rw [List.length_set, g2]) fun e he => ?_) (fun i => ?_) hl hl0 g5 hk.1 hk.2
    · rcases List.mem_or_eq_of_mem_set he with he | rfl
      · exact g3 e he
      · omega
    · rw [yK9 (by omega)]
      split
      · rename_i h; rw [h]; omega
      · exact Int.le_refl _
  · rw [bifT (show (y7i b v l != 0) = true by simpa using hr)]
    exact aw
theorem yES (b : Bas) (l : List Cnd) (x : Int × Int × Int × Int × Unit) (hx : MoreOK x) (hlc : ∀ c ∈ l, c.2.2.1.length < lenMax) : zS_M b l x = some (true, ()) := by
  have hmem : memMax = 68719476736 := rfl;have aw : (y1r.bind fun v6 => some (v6.1, ())) = some (true, ()) := by rw [y4C]; rfl
  unfold zS_M;obtain ⟨s, hs, hs2⟩ := yJ6 b;rw [hs];simp only [Option.bind_some];cases s with
  | false => exact aw
  | true =>
    obtain ⟨h9, h17, h60⟩ := hs2 rfl;simp only [Bool.not_true, cond_false];rw [yBr];simp only [Option.bind_some];by_cases hk0 : y0q b = 0
    · rw [bifF (show (y0q b != 0) = false by simpa using hk0)]
      have hb := y1A hk0;have h8 := hb.nodes;have hn : ∀ n ∈ b.1, n.1.length < lenMax := fun n hn => by have := h60 n hn; unfold lenMax; omega
      by_cases hl : l.length ≤ 12
      · rw [bifF (yF (show ¬ (l.length : Int) > 12 by omega))]
        by_cases hl0 : l.length = 0
        · rw [bifT (show ((l.length : Int) == 0) = true by simp [hl0])]
          exact aw
        · rw [bifF (show ((l.length : Int) == 0) = false by simpa using hl0), y8 (show (0 : Int) ≤ (b.1.length : Int) by omega), y8 (show (b.1.length : Int) ≤ (memMax : Int) by omega), show ((b.1.length : Int) == (b.1.length : Int)) = true by simp]
          simp only [Bool.and_self, cond_true];have er : (List.replicate ((b.1.length : Int)).toNat (0 : Int)).length = b.1.length := by simp
          rw [bifT (y8 (show (((List.replicate ((b.1.length : Int)).toNat (0 : Int)).length : Nat) : Int) ≤ 9223372036854775807 by rw [er]; omega))]
          obtain ⟨v, r1, r2, r3⟩ := yBk l b x (((List.replicate ((b.1.length : Int)).toNat (0 : Int)).length : Nat) : Int) hx ((((List.replicate ((b.1.length : Int)).toNat (0 : Int)).length : Nat) : Int) - 0).toNat 0 (List.replicate ((b.1.length : Int)).toNat (0 : Int))
            (by omega) (by rw [er]; omega) (by rw [er]; exact h8) (fun e he => by
              have := (List.mem_replicate.1 he).2;omega)
          rw [r1];exact yJS l b x _ v hx hk0 hn hlc hl hl0 (by rw [r2, er]) r3
      · rw [bifT (y8 (show (l.length : Int) > 12 by omega))]
        exact aw
    · rw [bifT (show (y0q b != 0) = true by simpa using hk0)]
      exact aw
end Go.Tw
