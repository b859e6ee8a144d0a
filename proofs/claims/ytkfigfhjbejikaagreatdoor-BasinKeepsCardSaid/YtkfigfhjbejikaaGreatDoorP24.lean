/- P24: BasinKeeps: the law's inner loop. -/
import Derived.Test.YtkfigfhjbejikaaGreatDoorP23
import Derived.Test.YtkfigfhjbejikaaGreatDoorB26

set_option linter.all false
set_option maxRecDepth 100000
namespace Go.Tw
open Go.Vx Go.Vx.B Go.Proofs

theorem foldl_tot : ∀ (l : List Int) (n : Int), (∀ x ∈ l, 0 ≤ x ∧ x ≤ 100000000) → 0 ≤ n → n + 100000000 * (l.length : Int) ≤ 1000000000000 → l.foldl (fun n x => wr (n + x)) n = n + tot l
  | [], n, _, _, _ => by simp [tot]
  | x :: l, n, h, h0, h1 => by
    have hx := h x (by simp)
    simp only [List.length_cons] at h1
    have e : 100000000 * ((l.length + 1 : Nat) : Int) = 100000000 * (l.length : Int) + 100000000 := by rw [Int.natCast_add, Int.mul_add]; simp
    rw [List.foldl_cons, wr_small (by omega) (by omega), foldl_tot l (n + x) (fun y hy => h y (by simp [hy])) (by omega) (by omega)]
    simp only [tot]
    omega

theorem total_eq (v : List Int) (h : ∀ x ∈ v, 0 ≤ x ∧ x ≤ 100000000) (hl : v.length ≤ 9) : law04_total_M v = some (tot v, ()) := by
  unfold law04_total_M
  rw [bifT (dec_true (show v.length < lenMax by unfold lenMax; omega)), loopL_fold (fun n x => wr (n + x)) v 0 0 (fun i e s _ => by unfold law04_total_b0; rfl)]
  unfold law04_total_f0
  rw [foldl_tot v 0 h (by omega) (by omega)]
  simp

section
variable (V : List Int) (L : List Cnd) (b : Bas) (run : List (List Int)) (riv : Int) (i : Int) (F N : List Int) (T97 : List Cnd) (t98 t99 : Int) (T160 : List Lnk) (a0 a1 a2 : Int) (ct : Int) (co : Bool) (cf : List Int)

theorem keeps_s74 (k : Int) (x : Lnk) (f sum : Int) (opn : Bool) (hF : idx F k = some f) (hs : SignOK (ct, co, cf, ()) x f) :
    law04_BasinKeeps_s74 V L b run riv opn i F N T97 t98 t99 T160 k a0 a1 a2 ct co cf x sum = some (.inr (opn || x.1 == kL, sum)) := by
  obtain ⟨h1, h2⟩ := hs
  have fin : (bif opn then (some (Sum.inr ((true), (sum))) : Option (((Bool × Unit) ⊕ (List Int × Int × Bool)) ⊕ (Bool × Int))) else (some (Sum.inr ((x.fst == [(108 : UInt8), (101 : UInt8), (97 : UInt8), (107 : UInt8)]), (sum))))) = some (.inr (opn || x.1 == kL, sum)) := by
    cases opn <;> rfl
  unfold law04_BasinKeeps_s74
  rw [hF]
  simp only [Option.bind_some]
  by_cases hf : f < 0
  · have hk := h1 hf
    have hkb : (x.1 == [(98 : UInt8), (97 : UInt8), (114 : UInt8), (114 : UInt8), (105 : UInt8), (101 : UInt8), (114 : UInt8)]) = true := by rw [hk]; decide
    rw [bifT (dec_true hf), hkb]
    simp only [Bool.not_true, cond_false]
    cases hco : co with
    | false =>
      have := h2 hco hk
      omega
    | true =>
      simp only [Bool.not_true, cond_false]
      exact fin
  · rw [bifF (dec_false hf)]
    cases hco : co with
    | false =>
      simp only [Bool.not_false, cond_true]
      cases hkb : (x.1 == [(98 : UInt8), (97 : UInt8), (114 : UInt8), (114 : UInt8), (105 : UInt8), (101 : UInt8), (114 : UInt8)]) with
      | false => simp only [cond_false]; exact fin
      | true =>
        have hk : x.1 = kB := eq_of_beq hkb
        have h0 := h2 hco hk
        simp only [cond_true]
        rw [bifF (show (f != 0) = false by rw [h0]; rfl)]
        exact fin
    | true =>
      simp only [Bool.not_true, cond_false]
      exact fin

theorem keeps_b54 (hx : ∀ x ∈ b.2.1, LinkOK x b.1.length) (k : Int) (x : Lnk) (hm : x ∈ b.2.1) (f sum : Int) (opn : Bool) (hF : idx F k = some f) (hs : SignOK (ct, co, cf, ()) x f) (hb1 : -100000000 ≤ f ∧ f ≤ 200000000) (hb2 : -1000000000000 ≤ sum ∧ sum ≤ 1000000000000) :
    law04_BasinKeeps_b54 V L b run riv i F N T97 t98 t99 T160 a0 a1 a2 ct co cf k x opn sum = some (.inr (opn || x.1 == kL, sum + bal x f)) := by
  have hL := hx x hm
  have hne := hL.ne
  unfold law04_BasinKeeps_b54 law04_BasinKeeps_s75 bal
  rw [hF]
  simp only [Option.bind_some]
  have w1 : IntKind.i64.wrap (sum + f) = sum + f := wr_small (by omega) (by omega)
  have w2 : IntKind.i64.wrap (sum - f) = sum - f := wr_small (by omega) (by omega)
  rw [w1, w2]
  rcases hL.from_ with h1 | h1 <;> rcases hL.to_ with h2 | h2
  · omega
  · rw [bifT (dec_true (show x.2.1 < 0 by omega)), bifF (dec_false (show ¬ x.2.2.1 < 0 by omega)), keeps_s74 V L b run riv i F N T97 t98 t99 T160 a0 a1 a2 ct co cf k x f _ opn hF hs, if_pos h1, if_neg (by omega)]
    simp
  · rw [bifF (dec_false (show ¬ x.2.1 < 0 by omega)), bifT (dec_true (show x.2.2.1 < 0 by omega)), keeps_s74 V L b run riv i F N T97 t98 t99 T160 a0 a1 a2 ct co cf k x f _ opn hF hs, if_neg (by omega), if_pos h2]
    simp [Int.sub_eq_add_neg]
  · rw [bifF (dec_false (show ¬ x.2.1 < 0 by omega)), bifF (dec_false (show ¬ x.2.2.1 < 0 by omega)), keeps_s74 V L b run riv i F N T97 t98 t99 T160 a0 a1 a2 ct co cf k x f _ opn hF hs, if_neg (by omega), if_neg (by omega)]
    simp

theorem bal_bound {x : Lnk} {f : Int} (h : -100000000 ≤ f ∧ f ≤ 200000000) : -300000000 ≤ bal x f ∧ bal x f ≤ 300000000 := by
  unfold bal
  split <;> split <;> omega

theorem keeps_links (hx : ∀ x ∈ b.2.1, LinkOK x b.1.length) : ∀ (l : List Lnk) (gs : List Int) (p : List Lnk) (pg : List Int) (k : Int) (opn : Bool) (sum : Int), b.2.1 = p ++ l → F = pg ++ gs → k = (p.length : Int) → k = (pg.length : Int) → gs.length = l.length →
    (∀ (j : Nat) (x : Lnk) (g : Int), l[j]? = some x → gs[j]? = some g → SignOK (ct, co, cf, ()) x g ∧ -100000000 ≤ g ∧ g ≤ 200000000) → -1000000000000 + 300000000 * (l.length : Int) ≤ sum → sum + 300000000 * (l.length : Int) ≤ 1000000000000 →
    loopL (fun i__ e__ (s__ : Bool × Int) => law04_BasinKeeps_b54 V L b run riv i F N T97 t98 t99 T160 a0 a1 a2 ct co cf i__ e__ s__.1 s__.2) (fun s__ => law04_BasinKeeps_f54 V L b run riv i F N T97 t98 t99 T160 a0 a1 a2 ct co cf s__.1 s__.2) k l (opn, sum) =
      law04_BasinKeeps_f54 V L b run riv i F N T97 t98 t99 T160 a0 a1 a2 ct co cf (opn || l.any (fun x => x.1 == kL)) (sum + balL l gs) := by
  intro l
  induction l with
  | nil =>
    intro gs p pg k opn sum hp hF hk hk2 hl hs h1 h2
    cases gs with
    | nil => rw [loopL_nil, List.any_nil, Bool.or_false]; simp only [balL, Int.add_zero]
    | cons f gs => simp at hl
  | cons x l ih =>
    intro gs p pg k opn sum hp hF hk hk2 hl hs h1 h2
    cases gs with
    | nil => simp at hl
    | cons f gs =>
      simp only [List.length_cons] at hl h1 h2
      have e : 300000000 * ((l.length + 1 : Nat) : Int) = 300000000 * (l.length : Int) + 300000000 := by rw [Int.natCast_add, Int.mul_add]; simp
      obtain ⟨s1, s2⟩ := hs 0 x f rfl rfl
      have hb := bal_bound (x := x) s2
      rw [loopL_cons]
      show (Option.bind (law04_BasinKeeps_b54 V L b run riv i F N T97 t98 t99 T160 a0 a1 a2 ct co cf k x opn sum) _) = _
      rw [keeps_b54 V L b run riv i F N T97 t98 t99 T160 a0 a1 a2 ct co cf hx k x (by rw [hp]; simp) f sum opn (by rw [hF]; exact idx_mid pg f gs k hk2) s1 s2 (by omega)]
      simp only [Option.bind_some]
      rw [ih gs (p ++ [x]) (pg ++ [f]) (k + 1) _ _ (by rw [hp]; simp) (by rw [hF]; simp) (by simp [hk]) (by rw [hk2]; simp) (by omega) (fun j y g hy hg => hs (j + 1) y g (by simpa using hy) (by simpa using hg)) (by omega) (by omega)]
      rw [List.any_cons, Bool.or_assoc]
      simp only [balL]
      rw [Int.add_assoc]

theorem keeps_fin (opn : Bool) (hN : ∀ x ∈ N, 0 ≤ x ∧ x ≤ 100000000) (hNl : N.length ≤ 8) (hcf : ∀ x ∈ cf, 0 ≤ x ∧ x ≤ 100000) (hcl : cf.length ≤ 8) (row : List Int) (hr : idx run i = some row) :
    law04_BasinKeeps_f54 V L b run riv i F N T97 t98 t99 T160 a0 a1 a2 ct co cf opn (tot N) = some (.inr (row, wr (riv + tot cf), opn || co)) := by
  unfold law04_BasinKeeps_f54
  rw [total_eq N hN (by omega), total_eq cf (fun x hx => by have := hcf x hx; omega) (by omega), hr]
  simp only [Option.bind_some]
  rw [bifF (show (tot N != tot N) = false by simp)]
  cases opn <;> rfl
end
end Go.Tw
