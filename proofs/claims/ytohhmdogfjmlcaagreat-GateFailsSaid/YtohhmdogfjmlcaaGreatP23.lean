import Derived.Test.YtohhmdogfjmlcaaGreatP22
import Derived.Test.YtohhmdogfjmlcaaGreatB18
set_option linter.all false
set_option maxRecDepth 100000
namespace Go.Tw
open Go.Vx Go.Vx.B Go.Proofs
theorem yH8 : ∀ {l : List Inp}, (∀ x ∈ l, inE x = 0) → insE l = 0
  | [], _ => rfl
  | x :: l, h => by
    unfold insE
    exact y8.2 ⟨h x (by simp), yH8 fun y hy => h y (by simp [hy])⟩
theorem yBU {l m : List Inp} (hl : yX l = 0) (hm : m.length ≤ 64) (h : ∀ x ∈ m, x ∈ l) : yX m = 0 := by
  have h2 : insE l = 0 := by
    unfold yX at hl
    split at hl
    · cases hl
    · exact hl
  unfold yX
  rw [if_neg (by omega)]
  exact yH8 fun x hx => y9N l h2 x (h x hx)
section
variable (c : Cha) (l : List Inp) (g : Goa) (hs : Sh c) (hk : yu c = 0) (hcl : yMS c) (hl : l.length ≤ 6) (hw : ∀ x ∈ l, x.1.length < lenMax) (hsc : yX l = 0) (hg : y3z c l.length g = 0) (hg1 : g.1.length ≤ 17) (hg2 : g.2.1.length ≤ 17)
abbrev RN (c : Cha) (l : List Inp) : List Int := rnl c l (entr c 0)
abbrev TF (c : Cha) (l : List Inp) (f : Fai) : List Int := trc c (dF f) l 0 (entr c 0)
abbrev SV2 (c : Cha) (l : List Inp) (g : Goa) (f : Fai) : Bool := srvL g (entr c 0 :: TF c l f)
abbrev WK (c : Cha) (l : List Inp) (g : Goa) (fs : List Fai) : List Fai := fs.filter fun f => !SV2 c l g f
theorem yBt {n : Int} {f : Fai} (h : y0l n f = 0) (hn : 0 ≤ n) : 0 ≤ f.2.1 ∧ f.2.1 ≤ n := by
  unfold y0l at h
  split at h
  · split at h
    · rename_i h1; omega
    · cases h
  · split at h
    · split at h
      · have := y0L h; omega
      · cases h
    · split at h
      · have := y0L (y8.1 h).1; omega
      · cases h
include hs hk hcl hl hw hsc
theorem yPl : IsLf c (entr c 0) := by
  have hc := y1u c hk
  have := hc.pos
  exact y3G c hc 0 (by omega) (by omega)
theorem y7A (m : List Inp) (hm : ∀ x ∈ m, x ∈ l) (hml : m.length ≤ 12) : y5v c m = some (RN c m, 0, ()) := by
  have hsm : yX m = 0 := yBU hsc (by omega) hm
  have hv := y0g hsm
  rw [yMh c hs m (by omega) (fun x hx => hw x (hm x hx)), if_pos (show runE c m = 0 from y8.2 ⟨hk, hsm⟩)]
  unfold run0
  rw [y54 (y1u c hk) hcl y3R m 0 (entr c 0) [] (yPl c l hs hk hcl hl hw hsc) (fun j x hx => hv x hx)]
  rfl
theorem y8o (f : Fai) (hf : y0l l.length f = 0) : y5t c l f = (TF c l f, 0) := by
  have hv := y0g hsc
  unfold y5t
  rw [y54 (y1u c hk) hcl (dF f) l 0 (entr c 0) [] (yPl c l hs hk hcl hl hw hsc) (fun j x hx => yEO f l.length hf j x (hv x hx))]
  rfl
theorem y6w (f : Fai) (hf : y0l l.length f = 0) : srv c l g f = (SV2 c l g f, 0) := by
  unfold srv
  rw [y8o c l hs hk hcl hl hw hsc f hf]
  rfl
theorem yQ4 (f : Fai) (hf : y0l l.length f = 0) (n : List Int) (W : List Fai) (at_ : Int) (all : List Fai) (t i : Int) :
    y8i f.1 f.2.1 (c, l, g, ()) n (RN c l) W at_ (TF c l f) all t i = some (.inr at_) := by
  have hmem : memMax = 68719476736 := rfl
  have hr := yBt hf (by omega)
  have hRl : (RN c l).length = l.length := y07 _ _ _ _ _
  have hTl : (TF c l f).length = l.length := y07 _ _ _ _ _
  unfold y8i
  rw [show ([(108 : UInt8), (111 : UInt8), (115 : UInt8), (116 : UInt8)] : List UInt8) = lostW from rfl]
  by_cases hlost : ¬ f.1 = lostW
  · rw [bifF (show (f.1 == lostW) = false by simpa using hlost)]
    rfl
  replace hlost := Classical.not_not.1 hlost
  rw [bifT (show (f.1 == lostW) = true by simpa using hlost)]
  have hlt : f.2.1 < l.length := by
    unfold y0l at hf
    rw [if_neg (by rw [hlost]; decide), if_pos hlost] at hf
    split at hf
    · have := y0L hf; omega
    · cases hf
  obtain ⟨k, hk2⟩ : ∃ k : Nat, f.2.1 = (k : Int) := ⟨f.2.1.toNat, by omega⟩
  have hkl : k < l.length := by omega
  rw [y6 (show f.2.1 < ((RN c l).length : Int) by omega)]
  have hwr : IntKind.i64.wrap (f.2.1 + 1) = ((k + 1 : Nat) : Int) := by rw [y4V (by omega) (by omega)]; omega
  unfold yDu
  simp only [hwr]
  rw [show f.2.1.toNat = k by omega, show ((k + 1 : Nat) : Int).toNat = k + 1 by omega]
  have hrest : ∀ x ∈ l.take k ++ l.drop (k + 1), x ∈ l := fun x hx => by
    rcases List.mem_append.1 hx with h | h
    · exact List.mem_of_mem_take h
    · exact List.mem_of_mem_drop h
  have hrl : (l.take k ++ l.drop (k + 1)).length = l.length - 1 := by rw [List.length_append, List.length_take, List.length_drop]; omega
  have hmr : (RN c (l.take k ++ l.drop (k + 1))).length = l.length - 1 := by rw [y07, hrl]
  have hl2 := yNJ hlost
  have heq : (TF c l f).take k ++ (TF c l f).drop (k + 1) = RN c (l.take k ++ l.drop (k + 1)) := yD2 c (dF f) k l 0 (entr c 0) hkl (fun j x hj => hl2.1 j x (by omega)) (fun x => by
    have := hl2.2 x
    rwa [hk2, show (k : Int) = 0 + (k : Int) by omega] at this)
  rw [cond_true, bifT (by rw [Bool.and_eq_true]; exact ⟨y6 (by omega), y6 (by omega)⟩), bifT (y6 (by rw [List.length_take]; omega)), bifT (by rw [Bool.and_eq_true]; exact ⟨y6 (by omega), y6 (by omega)⟩),
    bifT (y6 (by rw [List.length_take, List.length_drop]; omega)), y62 c hs]
  simp only [Option.bind_some]
  rw [y56 _ (by rw [hrl]; omega)]
  simp only [Option.bind_some]
  rw [y7A c l hs hk hcl hl hw hsc _ hrest (by rw [hrl]; omega)]
  simp only [Option.bind_some]
  rw [hmr, hRl, show IntKind.i64.wrap ((l.length : Int) - 1) = ((l.length - 1 : Nat) : Int) by rw [y4V (by omega) (by omega)]; omega]
  rw [bifF (show ((0 : Int) != 0) = false from rfl), bifF (show ((((l.length - 1 : Nat) : Int)) != ((l.length - 1 : Nat) : Int)) = false by simp)]
  rw [bifT (by rw [Bool.and_eq_true, hTl]; exact ⟨y6 (by omega), y6 (by omega)⟩), bifT (y6 (by rw [List.length_take]; omega)), bifT (by rw [Bool.and_eq_true, hTl]; exact ⟨y6 (by omega), y6 (by omega)⟩),
    bifT (y6 (by rw [List.length_take, List.length_drop]; omega)), heq, y14 _ (by rw [hmr]; unfold lenMax; omega)]
  rfl
theorem yHo (f : Fai) (hf : y0l l.length f = 0) (hb : 0 ≤ f.2.2.1 ∧ f.2.2.1 ≤ 3) (n : List Int) (W : List Fai) (at_ : Int) (all : List Fai) (t i : Int) (T S : List Int) (xs : List Inp) (fin : Bool → Option ((Bool × Unit) ⊕ Int)) : ∀ (r : List Inp) (j : Int) (as_ : Bool),
    yI (fun i__ e__ s__ => y8u (c, l, g, ()) n S W at_ T all t i xs f.1 f.2.1 f.2.2.1 f.2.2.2.1 i__ e__ s__) fin j r as_ = fin (as_ && r.all fun x => bitB x.2.1 f.2.2.1 f.2.2.2.1)
  | [], j, as_ => by rw [List.all_nil, Bool.and_true]; rfl
  | x :: r, j, as_ => by
    have hbody : y8u (c, l, g, ()) n S W at_ T all t i xs f.1 f.2.1 f.2.2.1 f.2.2.2.1 j x as_ = some (.inr (as_ && bitB x.2.1 f.2.2.1 f.2.2.2.1)) := by
      unfold y8u
      cases as_ with
      | false => rfl
      | true =>
        rw [cond_true, bifF (yH (by omega)), Bool.true_and]
        rfl
    rw [yZ, hbody, List.all_cons]
    simp only [Option.bind_some]
    rw [yHo f hf hb n W at_ all t i T S xs fin r (j + 1), Bool.and_assoc]
theorem yLN (f : Fai) (hf : y0l l.length f = 0) (n : List Int) (W : List Fai) (at_ : Int) (all : List Fai) (i : Int) (e : Int) :
    yB8 (c, l, g, ()) n (RN c l) W all i f (TF c l f, e, ()) at_ = some (.inr at_) := by
  have hmem : memMax = 68719476736 := rfl
  have hv := y0g hsc
  have hr := yBt hf (by omega)
  have h91 := fun t => yQ4 c l g hs hk hcl hl hw hsc f hf n W at_ all t i
  have hTl : (TF c l f).length = l.length := y07 _ _ _ _ _
  unfold yB8
  rw [show ([(115 : UInt8), (116 : UInt8), (117 : UInt8), (99 : UInt8), (107 : UInt8)] : List UInt8) = stuckW from rfl]
  by_cases hst : ¬ f.1 = stuckW
  · rw [bifF (show (f.1 == stuckW) = false by simpa using hst)]
    unfold y8W
    exact h91 _
  replace hst := Classical.not_not.1 hst
  rw [bifT (show (f.1 == stuckW) = true by simpa using hst)]
  have hbw : (0 ≤ f.2.2.1 ∧ f.2.2.1 ≤ 3) ∧ (0 ≤ f.2.2.2.1 ∧ f.2.2.2.1 ≤ 1) := by
    unfold y0l at hf
    rw [if_neg (by rw [hst]; decide), if_neg (by rw [hst]; decide), if_pos hst] at hf
    obtain ⟨_, h⟩ := y8.1 hf
    exact ⟨y0L (y8.1 h).1, y0L (y8.1 h).2⟩
  rw [bifT (y6 (by omega)), y6 (show f.2.2.1 < 4 by omega)]
  unfold y8W
  simp only
  rw [cond_true, bifT (by rw [Bool.and_eq_true]; exact ⟨y6 (by omega), y6 (by omega)⟩), bifT (y6 (by rw [List.length_drop]; unfold lenMax; omega))]
  rw [yHo c l g hs hk hcl hl hw hsc f hf hbw.1, Bool.true_and]
  unfold yED
  cases hall : (l.drop f.2.1.toNat).all fun x => bitB x.2.1 f.2.2.1 f.2.2.2.1 with
  | false => exact h91 _
  | true =>
    have hsame : TF c l f = RN c l := y9K l 0 (entr c 0) fun j x hx => by
      rcases Int.lt_or_le (0 + (j : Int)) f.2.1 with h | h
      · exact yBS h x
      · refine yJc hst hbw.1 hbw.2 (hv x (List.mem_of_getElem? hx)) (List.all_eq_true.1 hall x ?_)
        refine List.mem_of_getElem? (i := j - f.2.1.toNat) ?_
        rw [List.getElem?_drop, show f.2.1.toNat + (j - f.2.1.toNat) = j by omega]
        exact hx
    have h91' := h91 (all.length : Int)
    rw [hsame] at h91'
    rw [cond_true, hsame, y14 _ (by rw [y07]; unfold lenMax; omega)]
    exact h91'
include hg hg1 hg2
theorem yW7 (f : Fai) (hf : y0l l.length f = 0) (n : List Int) (W Wd Wr : List Fai) (hW : W = Wd ++ (bif SV2 c l g f then [] else [f]) ++ Wr) (hWl : W.length ≤ 1000) (all : List Fai) (i : Int) (hi : i = 0 → f.1 = noneW) :
    y80 (c, l, g, ()) n (RN c l) W all i f (Wd.length : Int) = some (.inr ((Wd ++ (bif SV2 c l g f then [] else [f])).length : Int)) := by
  have hmem : memMax = 68719476736 := rfl
  have hr := yBt hf (by omega)
  have hRl : (RN c l).length = l.length := y07 _ _ _ _ _
  have hTl : (TF c l f).length = l.length := y07 _ _ _ _ _
  have hgoal : y7g g = some (g, ()) := by
    unfold y7g yH0
    rw [y9l g.1 (by omega), Option.bind_some, y9l g.2.1 (by omega), Option.bind_some]
  have hE1 : E1 c l f = 0 := y8.2 ⟨hk, y8.2 ⟨hsc, hf⟩⟩
  have hE2 : E2 c l g f = 0 := y8.2 ⟨hk, y8.2 ⟨hsc, y8.2 ⟨hg, hf⟩⟩⟩
  have hsame : ∀ {k : Nat}, k ≤ f.2.1.toNat → (TF c l f).take k = (RN c l).take k := fun {k} hkk => y9I k l 0 (entr c 0) fun j x hj hx => yBS (by omega) x
  have h93 : yAO (c, l, g, ()) n (RN c l) W (Wd.length : Int) all i f (TF c l f, 0, ()) (SV2 c l g f, 0, ()) = some (.inr ((Wd ++ (bif SV2 c l g f then [] else [f])).length : Int)) := by
    unfold yAO
    simp only
    rw [bifT (by rw [Bool.and_eq_true]; exact ⟨y6 (by omega), y6 (by omega)⟩), bifT (by rw [Bool.and_eq_true]; exact ⟨y6 (by omega), y6 (by omega)⟩), hsame (Nat.le_refl _), y14 _ (by rw [List.length_take]; unfold lenMax; omega)]
    simp only [Option.bind_some]
    rw [bifF (show (!(true, ()).1) = false from rfl)]
    cases hsv : SV2 c l g f with
    | true =>
      rw [bifF (show (!true) = false from rfl), yLN c l g hs hk hcl hl hw hsc f hf]
      simp
    | false =>
      rw [hsv, cond_false] at hW
      have hWi : W[Wd.length]? = some f := by rw [hW]; simp
      have hWn : Wd.length < W.length := (List.getElem?_eq_some_iff.1 hWi).1
      rw [bifT (show (!false) = true from rfl), bifF (yH (by omega)), y2U, hWi, Option.bind_some]
      rw [show ((f.1, f.2.1, f.2.2.1, f.2.2.2.1, ()) : Fai) = f from rfl, yCp, bifF (show (!true) = false from rfl), yLN c l g hs hk hcl hl hw hsc f hf, y4V (by omega) (by omega)]
      simp
  unfold y80
  simp only
  rw [y62 c hs]
  simp only [Option.bind_some]
  rw [y56 l (by omega)]
  simp only [Option.bind_some]
  rw [show ((f.1, f.2.1, f.2.2.1, f.2.2.2.1, ()) : Fai) = f from rfl, yJq c hs l (by omega) hw f, if_pos hE1, hgoal]
  simp only [Option.bind_some]
  rw [yF1 c hs l (by omega) hw g hg1 hg2 f, if_pos hE2, y8o c l hs hk hcl hl hw hsc f hf, y6w c l g hs hk hcl hl hw hsc f hf]
  simp only [Option.bind_some]
  rw [bifF (show ((0 : Int) != 0) = false from rfl), bifF (show (((TF c l f).length : Int) != ((RN c l).length : Int)) = false by rw [hTl, hRl]; simp)]
  have hlow : decide (f.2.1 < 0) = false := yH (by omega)
  have hhigh : decide (f.2.1 > ((RN c l).length : Int)) = false := yH (by omega)
  by_cases h0 : i = 0
  · have hT : TF c l f = RN c l := y9K l 0 (entr c 0) fun j x _ => yMZ (hi h0) _ x
    rw [bifT (show (i == 0) = true by simpa using h0), hT, y14 _ (by rw [hRl]; unfold lenMax; omega)]
    simp only [Option.bind_some]
    rw [hT] at h93
    rw [bifF (show (!(true, ()).1) = false from rfl), hlow, cond_false, hhigh, cond_false]
    exact h93
  · rw [bifF (show (i == 0) = false by simpa using h0), hlow, cond_false, hhigh, cond_false]
    exact h93
theorem yI4 (n : List Int) (W : List Fai) (hWl : W.length ≤ 1000) (all : List Fai) (fin : Int → Option (Bool × Unit)) : ∀ (r : List Fai) (i : Int) (Wd : List Fai), W = Wd ++ WK c l g r → (∀ f ∈ r, y0l l.length f = 0) → (i = 0 → ∀ f, r.head? = some f → f.1 = noneW) → 0 ≤ i →
    yI (fun i__ e__ s__ => y80 (c, l, g, ()) n (RN c l) W all i__ e__ s__) fin i r (Wd.length : Int) = fin (W.length : Int)
  | [], i, Wd, hW, _, _, _ => by
    rw [y4r, hW]
    simp [WK]
  | f :: r, i, Wd, hW, hr, hi, h0 => by
    have hW' : W = Wd ++ (bif SV2 c l g f then [] else [f]) ++ WK c l g r := by
      rw [hW, WK, List.filter_cons]
      cases SV2 c l g f <;> simp [WK]
    rw [yZ, yW7 c l g hs hk hcl hl hw hsc hg hg1 hg2 f (hr f (by simp)) n W Wd _ hW' hWl all i (fun h => hi h f rfl)]
    simp only [Option.bind_some]
    exact yI4 n W hWl all fin r (i + 1) (Wd ++ (bif SV2 c l g f then [] else [f])) hW' (fun f hf => hr f (by simp [hf])) (fun h => by omega) (by omega)
theorem yWj (n : List Int) (k : Int) (hn : idx n 0 = some k) (hk0 : 0 ≤ k) (hk1 : k ≤ 255) (W all : List Fai) :
    y8J (c, l, g, ()) n (RN c l) W all (W.length : Int) = some (true, ()) := by
  have hmem : memMax = 68719476736 := rfl
  have hRl : (RN c l).length = l.length := y07 _ _ _ _ _
  unfold y8J
  rw [hn, Option.bind_some, hRl]
  have e1 : IntKind.i64.wrap ((l.length : Int) + 1) = (l.length : Int) + 1 := y4V (by omega) (by omega)
  have e2 : IntKind.i64.wrap k = k := y4V (by omega) (by omega)
  have e3 : 0 ≤ k.tmod ((l.length : Int) + 1) ∧ k.tmod ((l.length : Int) + 1) ≤ l.length := by
    have h1 := Int.tmod_nonneg ((l.length : Int) + 1) hk0
    have h2 := Int.tmod_lt_of_pos k (show 0 < (l.length : Int) + 1 by omega)
    omega
  simp only [e1, e2]
  generalize k.tmod ((l.length : Int) + 1) = q at e3 ⊢
  rw [bifF (show ((l.length : Int) + 1 == 0) = false by simp; omega), y62 c hs]
  simp only [Option.bind_some]
  rw [bifT (by rw [Bool.and_eq_true]; exact ⟨y6 e3.1, y6 e3.2⟩), y56 _ (by rw [List.length_take]; omega)]
  simp only [Option.bind_some]
  rw [y7A c l hs hk hcl hl hw hsc _ (fun x hx => List.mem_of_mem_take hx) (by rw [List.length_take]; omega)]
  simp only [Option.bind_some]
  rw [bifF (show ((0 : Int) != 0) = false from rfl), bifT (by rw [Bool.and_eq_true]; exact ⟨y6 e3.1, y6 e3.2⟩), show RN c (l.take q.toNat) = (RN c l).take q.toNat from yEM c _ l 0 _,
    y14 _ (by rw [List.length_take]; unfold lenMax; omega)]
  simp only [Option.bind_some]
  rw [bifF (show (!(true, ()).1) = false from rfl)]
  simp
end
theorem yXg {k : Int} (h : (Lit.int .u8 k).wf = true) : 0 ≤ k ∧ k ≤ 255 := by
  unfold Lit.wf at h
  rw [Bool.and_eq_true, decide_eq_true_eq, decide_eq_true_eq] at h
  exact h
theorem yJE (d : Drl) (n : List Int) (hll : d.2.1.length < lenMax) (hn : n.length = 2) (hn2 : ∀ y ∈ n, 0 ≤ y ∧ y ≤ 255) : zz_M d n = some (true, ()) := by
  have hmem : memMax = 68719476736 := rfl
  obtain ⟨c, l, g, _⟩ := d
  change l.length < lenMax at hll
  have aw : (y3x.bind fun (v6 : Bool × Unit) => some (v6.1, ())) = some (true, ()) := by rw [y8C]; rfl
  unfold zz_M
  conv => lhs; arg 1; rw [y8C]
  rw [Option.bind_some, bifF (show (!(true, ()).1) = false from rfl)]
  have hshort : ∃ s, zi_M (c, l, g, ()) = some (s, ()) ∧ (s = true → Sh c ∧ l.length ≤ 65 ∧ (∀ x ∈ l, x.1.length ≤ 40) ∧ g.1.length ≤ 17 ∧ g.2.1.length ≤ 17) := by
    unfold zi_M zi_m
    obtain ⟨s, hs, hs2⟩ := yIy c
    obtain ⟨b, hb, hb2⟩ := y7s l hll
    simp only
    rw [hs, hb]
    cases s with
    | false => exact ⟨false, rfl, fun h => by cases h⟩
    | true =>
      cases b with
      | false => exact ⟨false, rfl, fun h => by cases h⟩
      | true =>
        simp only [Option.bind_some, cond_true]
        unfold z04
        by_cases h1 : (g.1.length : Int) ≤ 17
        · rw [bifT (y6 h1)]
          exact ⟨_, rfl, fun h => ⟨hs2 rfl, (hb2 rfl).1, (hb2 rfl).2, by omega, by have := of_decide_eq_true h; omega⟩⟩
        · rw [bifF (yH h1)]
          exact ⟨false, rfl, fun h => by cases h⟩
  obtain ⟨s, hs, hs2⟩ := hshort
  rw [hs, Option.bind_some]
  cases s with
  | false => exact aw
  | true =>
    obtain ⟨hc, h65, h40, hg1, hg2⟩ := hs2 rfl
    have hw : ∀ x ∈ l, x.1.length < lenMax := fun x hx => by have := h40 x hx; unfold lenMax; omega
    rw [bifF (show (!(true, ()).1) = false from rfl)]
    simp only
    by_cases hl6 : (l.length : Int) > 6
    · rw [bifT (y6 hl6)]; exact aw
    rw [bifF (yH hl6), yBm, Option.bind_some]
    by_cases hE : ¬ E3 c l g = 0
    · rw [bifT (show (E3 c l g != 0) = true by simpa using hE)]; exact aw
    replace hE := Classical.not_not.1 hE
    rw [bifF (show (E3 c l g != 0) = false by simpa using hE)]
    obtain ⟨hk, hE'⟩ := y8.1 hE
    obtain ⟨hsc, hg⟩ := y8.1 hE'
    have hv := y1u c hk
    unfold yGK yKa
    rw [yHP c hv true]
    simp only [Option.bind_some]
    by_cases ha : ¬ y9Z (y2z c true) (evts c.2.1) (y0e 0 c.1) = []
    · rw [bifT (show ((((y9Z (y2z c true) (evts c.2.1) (y0e 0 c.1)).length : Nat) : Int) != 0) = true by simpa using ha)]; exact aw
    replace ha := Classical.not_not.1 ha
    rw [ha, bifF (show ((([] : List Cas).length : Int) != 0) = false from rfl)]
    have hcl := yJx ha
    have hl : l.length ≤ 6 := by omega
    have hgoal : y7g g = some (g, ()) := by
      unfold y7g yH0
      rw [y9l g.1 (by omega), Option.bind_some, y9l g.2.1 (by omega), Option.bind_some]
    have hfl : (y1V l.length).length = 1 + 9 * l.length := by unfold y1V; rw [List.length_cons, y3W]; omega
    have hRl : (RN c l).length = l.length := y07 _ _ _ _ _
    have hwk : wk c l g (y1V l.length) [] = (WK c l g (y1V l.length), 0) := by
      rw [yEU c l g (y1V l.length) [] (fun f hf => by rw [y6w c l g hc hk hcl hl hw hsc f (y4i l.length f hf)]), List.nil_append]
      congr 1
      refine List.filter_congr fun f hf => ?_
      rw [y6w c l g hc hk hcl hl hw hsc f (y4i l.length f hf)]
    have hWl : (WK c l g (y1V l.length)).length ≤ 1000 := by
      have := List.length_filter_le (fun f => !SV2 c l g f) (y1V l.length)
      show (List.filter _ _).length ≤ _
      omega
    have hFails : yFy l = some (y1V l.length, 0, ()) := by
      unfold yFy yKE
      rw [y2F l (by omega) hw, Option.bind_some, hsc, bifF (show ((0 : Int) != 0) = false from rfl), yAg l.length (by omega)]
      rfl
    rw [y62 c hc]
    simp only [Option.bind_some]
    rw [y56 l (by omega)]
    simp only [Option.bind_some]
    rw [y7A c l hc hk hcl hl hw hsc l (fun x hx => hx) (by omega), hFails, hgoal]
    simp only [Option.bind_some]
    rw [yKb c hc l (by omega) hw g hg1 hg2, if_pos hE, hwk]
    simp only [Option.bind_some]
    rw [show (IntKind.i64.wrap (IntKind.i64.wrap ((0 : Int) + 0) + 0) != 0) = false by decide, cond_false, bifF (show (((RN c l).length : Int) != (l.length : Int)) = false by rw [hRl]; simp)]
    rw [hRl, hfl, show IntKind.i64.wrap ((9 : Int) * (l.length : Int)) = 9 * (l.length : Int) from y4V (by omega) (by omega), show IntKind.i64.wrap ((1 : Int) + 9 * (l.length : Int)) = ((1 + 9 * l.length : Nat) : Int) by rw [y4V (by omega) (by omega)]; omega]
    rw [bifF (show (((1 + 9 * l.length : Nat) : Int) != ((1 + 9 * l.length : Nat) : Int)) = false by simp), bifT (y6 (by unfold lenMax; omega))]
    have hlp := yI4 c l g hc hk hcl hl hw hsc hg hg1 hg2 n (WK c l g (y1V l.length)) hWl (y1V l.length) (fun s__ => y8J (c, l, g, ()) n (RN c l) (WK c l g (y1V l.length)) (y1V l.length) s__) (y1V l.length) 0 [] (by simp) (y4i l.length) (fun _ f hf => by
      unfold y1V at hf
      cases hf
      rfl) (by omega)
    refine hlp.trans ?_
    obtain ⟨k, hk1⟩ : ∃ k, n[0]? = some k := ⟨n[0]'(by omega), List.getElem?_eq_getElem (by omega)⟩
    have hkr := hn2 k (List.mem_of_getElem? hk1)
    exact yWj c l g hc hk hcl hl hw hsc hg hg1 hg2 n k (by rw [y5O _ (by omega)]; exact hk1) hkr.1 hkr.2 _ _
end Go.Tw
