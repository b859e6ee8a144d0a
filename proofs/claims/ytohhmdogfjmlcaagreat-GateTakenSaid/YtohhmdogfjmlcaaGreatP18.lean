import Derived.Test.YtohhmdogfjmlcaaGreatPZ
import Derived.Test.YtohhmdogfjmlcaaGreatB15
set_option linter.all false
set_option maxRecDepth 100000
namespace Go.Tw
open Go.Vx Go.Vx.B Go.Proofs
def par (c : Cha) (s : Int) : Int := match c.1[s.toNat]? with | some st => st.2.1 | none => -1
def arD (c : Cha) : Nat → Int → List Int
  | 0, _ => []
  | k + 1, s => if s < 0 then [] else s :: arD c k (par c s)
theorem par_lt {c : Cha} (hc : Valid c) {s : Int} (h0 : 0 ≤ s) (h1 : s < c.1.length) : -1 ≤ par c s ∧ par c s < s := by
  unfold par
  rw [List.getElem?_eq_getElem (show s.toNat < c.1.length by omega)]
  have := hc.parent s.toNat _ (List.getElem?_eq_getElem (show s.toNat < c.1.length by omega))
  simp only
  omega
theorem ar_loop (c : Cha) (hc : Valid c) : ∀ (k r : Nat) (s : Int) (out : List Int), -1 ≤ s → s < c.1.length → s + 1 ≤ k → s + 1 < r → (out.length : Int) + s ≤ 15 →
    loopW (fun s__ => z0F_b0 c s__.1 s__.2) r (s, out) = some (out ++ arD c k s, ())
  | k, 0, s, out, h0, _, _, hr, _ => by omega
  | 0, r + 1, s, out, h0, h1, hk, hr, ho => by
    simp only [loopW]
    unfold z0F_b0
    rw [bifF (dec_false (show ¬ s ≥ 0 by omega))]
    simp [arD]
  | k + 1, r + 1, s, out, h0, h1, hk, hr, ho => by
    have hmem : memMax = 68719476736 := rfl
    simp only [loopW]
    unfold arD
    by_cases hs : s < 0
    · have hb : z0F_b0 c s out = some (.inl (out, ())) := by
        unfold z0F_b0
        rw [bifF (dec_false (show ¬ s ≥ 0 by omega))]
      rw [hb, if_pos hs]
      simp
    · have hb : z0F_b0 c s out = some (.inr (par c s, out ++ [s])) := by
        unfold z0F_b0 par
        rw [bifT (dec_true (show s ≥ 0 by omega)), bifT (dec_true (show (out.length : Int) < 20 by omega)), bifT (dec_true (show out.length + 1 ≤ memMax by omega)), idx_int _ (by omega), List.getElem?_eq_getElem (show s.toNat < c.1.length by omega)]
        rfl
      have hp := par_lt hc (by omega) h1
      rw [hb, if_neg hs]
      simp only [Option.bind_some]
      rw [ar_loop c hc k r (par c s) (out ++ [s]) (by omega) (by omega) (by omega) (by omega) (by simp; omega)]
      simp
theorem around_eq (c : Cha) (hc : Valid c) (s : Int) (h0 : -1 ≤ s) (h1 : s < c.1.length) : z0F_M c s = some (arD c 17 s, ()) := by
  have := hc.few
  unfold z0F_M
  have := ar_loop c hc 17 wMax s [] h0 h1 (by omega) (by unfold wMax; omega) (by simp; omega)
  simpa using this
theorem arD_length (c : Cha) : ∀ (k : Nat) (s : Int), (arD c k s).length ≤ k
  | 0, s => Nat.le_refl _
  | k + 1, s => by
    unfold arD
    split
    · simp
    · have := arD_length c k (par c s)
      simp; omega
theorem arD_par (c : Cha) (hc : Valid c) : ∀ (k : Nat) (s x : Int), s < c.1.length → s + 1 ≤ k → x ∈ arD c k s → 0 ≤ par c x → par c x ∈ arD c k s
  | 0, s, x, _, _, h, _ => by cases h
  | k + 1, s, x, h1, hk, h, hp => by
    unfold arD at h ⊢
    by_cases hs : s < 0
    · rw [if_pos hs] at h; cases h
    · rw [if_neg hs] at h ⊢
      have hlt := par_lt hc (show 0 ≤ s by omega) h1
      rw [List.mem_cons] at h ⊢
      right
      rcases h with rfl | h
      · cases k with
        | zero => omega
        | succ k => unfold arD; rw [if_neg (by omega)]; simp
      · exact arD_par c hc k (par c s) x (by omega) (by omega) h hp
theorem init_par {c : Cha} (h : ckChart c = 0) {i : Nat} {s : Sta} (hs : c.1[i]? = some s) (hi : s.2.2.1 ≠ -1) : par c s.2.2.1 = i := by
  unfold ckChart at h
  split at h
  · cases h
  split at h
  · cases h
  simp only [firstOf_eq_zero] at h
  have := fmsE_zero c.1 c.1 0 h.2.1 i s hs
  rw [Int.zero_add] at this
  unfold fmE at this
  cases hk : ((kids (i : Int) 0 c.1).length == 0) with
  | true =>
    rw [hk, cond_true] at this
    cases hb : (s.2.2.1 != -1) with
    | true => rw [hb] at this; cases this
    | false => exact absurd (by simpa using hb) hi
  | false =>
    rw [hk, cond_false] at this
    cases hb : (s.2.2.2.1 || !(kids (i : Int) 0 c.1).contains s.2.2.1) with
    | true => rw [hb] at this; cases this
    | false =>
      simp only [Bool.or_eq_false_iff, Bool.not_eq_false'] at hb
      have hm : s.2.2.1 ∈ kids (i : Int) 0 c.1 := List.contains_iff_mem.1 hb.2
      obtain ⟨j, s', e1, e2, e3⟩ := kids_mem _ _ _ _ hm
      unfold par
      rw [e1, Int.zero_add, Int.toNat_natCast, e2]
      exact e3
theorem ent_range (c : Cha) (hc : Valid c) : ∀ (k : Nat) (i : Int), 0 ≤ i → i < c.1.length → 0 ≤ ent c k i ∧ ent c k i < c.1.length
  | 0, i, h0, h1 => ⟨h0, h1⟩
  | k + 1, i, h0, h1 => by
    unfold ent
    rw [List.getElem?_eq_getElem (show i.toNat < c.1.length by omega)]
    simp only
    split
    · exact ⟨h0, h1⟩
    · rename_i hi
      have := hc.initial i.toNat _ (List.getElem?_eq_getElem (show i.toNat < c.1.length by omega))
      rcases this with h | h
      · exact absurd h hi
      · exact ent_range c hc k _ (by omega) h.2
theorem ent_anc (c : Cha) (hk : ckChart c = 0) (hc : Valid c) : ∀ (k : Nat) (i : Int), 0 ≤ i → i < c.1.length → i ∈ arD c 17 (ent c k i)
  | 0, i, h0, h1 => by
    unfold ent arD
    rw [if_neg (by omega)]; simp
  | k + 1, i, h0, h1 => by
    have hi := List.getElem?_eq_getElem (show i.toNat < c.1.length by omega)
    unfold ent
    rw [hi]
    simp only
    split
    · unfold arD
      rw [if_neg (by omega)]; simp
    · rename_i hne
      have hr : 0 ≤ c.1[i.toNat].2.2.1 ∧ c.1[i.toNat].2.2.1 < c.1.length := by
        rcases hc.initial i.toNat _ hi with h | h
        · exact absurd h hne
        · exact ⟨by omega, h.2⟩
      have h2 := ent_range c hc k _ hr.1 hr.2
      have h3 := ent_anc c hk hc k _ hr.1 hr.2
      have hp : par c c.1[i.toNat].2.2.1 = i := by rw [init_par hk hi hne]; omega
      have := hc.few
      have h4 := arD_par c hc 17 _ _ h2.2 (by omega) h3 (by rw [hp]; exact h0)
      rw [hp] at h4
      exact h4
theorem fit_loop (c e5 m7 a9 mi am leaf) (ev : List UInt8) (v s : Int) (t84 t85 t86 t108 t109 t110 t114 t119 t120 t121 t126) : ∀ (r : List Tra) (i n to : Int), 0 ≤ n → n + r.length ≤ 1000 →
    loopL (fun i__ e__ s__ => zr_b35 c e5 m7 a9 mi am leaf ev v s t84 t85 t86 t108 t109 t110 t114 t119 t120 t121 t126 i__ e__ s__.1 s__.2) (fun s__ => zr_f35 c e5 m7 a9 mi am leaf ev v s t84 t85 t86 t108 t109 t110 t114 t119 t120 t121 t126 s__.1 s__.2) i r (n, to)
      = zr_f35 c e5 m7 a9 mi am leaf ev v s t84 t85 t86 t108 t109 t110 t114 t119 t120 t121 t126 (n + ((r.filter (fitB s ev v)).length : Nat)) (((r.filter (fitB s ev v)).map fun t => t.2.2.1).getLastD to)
  | [], i, n, to, _, _ => by simp [loopL_nil]
  | t :: r, i, n, to, h0, h1 => by
    simp only [List.length_cons] at h1
    have hb : zr_b35 c e5 m7 a9 mi am leaf ev v s t84 t85 t86 t108 t109 t110 t114 t119 t120 t121 t126 i t n to = some (.inr (if fitB s ev v t = true then (n + 1, t.2.2.1) else (n, to))) := by
      unfold zr_b35 fitB
      rw [wrapS (by omega) (by omega)]
      cases (t.1 == s) <;> cases (t.2.1 == ev) <;> cases (bitsOp .i64 .and v t.2.2.2.1 == t.2.2.2.2.1) <;> rfl
    rw [loopL_cons, hb]
    simp only [Option.bind_some]
    by_cases hf : fitB s ev v t = true
    · rw [if_pos hf, fit_loop c e5 m7 a9 mi am leaf ev v s t84 t85 t86 t108 t109 t110 t114 t119 t120 t121 t126 r (i + 1) (n + 1) t.2.2.1 (by omega) (by omega), List.filter_cons, if_pos hf]
      simp only [List.length_cons, List.map_cons, List.getLastD_cons]
      congr 1
      omega
    · rw [if_neg hf, fit_loop c e5 m7 a9 mi am leaf ev v s t84 t85 t86 t108 t109 t110 t114 t119 t120 t121 t126 r (i + 1) n to h0 (by omega), List.filter_cons, if_neg hf]
theorem map_inl_bind {α β : Type} (x : Option α) (f : β → Option α) : ((x.map (Sum.inl : α → α ⊕ β)).bind fun z => match z with | .inl y => some y | .inr s => f s) = x := by
  cases x <;> rfl
theorem tk_loop (c : Cha) (hc : Valid c) (e5 m7 a9 mi am leaf) (ev : List UInt8) (v : Int) (t84 t85 t86 t108 t109 t110 t114 t119) : ∀ (k : Nat) (s i : Int), s < c.1.length →
    loopL (fun i__ e__ s__ => zr_b33 c e5 m7 a9 mi am leaf ev v t84 t85 t86 t108 t109 t110 t114 t119 i__ e__ s__.1 s__.2) (fun s__ => zr_f33 c e5 m7 a9 mi am leaf ev v t84 t85 t86 t108 t109 t110 t114 t119 s__.1 s__.2) i (arD c k s) (0, 0)
      = zr_s93 c e5 m7 a9 mi am leaf ev v ((tk c ev v k s).length : Nat) (((tk c ev v k s).map fun t => t.2.2.1).getLastD 0) t84 t85 t86 t108 t109 t110 t114
  | 0, s, i, _ => rfl
  | k + 1, s, i, h1 => by
    have hm := hc.moves
    unfold arD tk
    by_cases hs : s < 0
    · rw [if_pos hs, if_pos hs]; rfl
    · rw [if_neg hs, if_neg hs, List.getElem?_eq_getElem (show s.toNat < c.1.length by omega)]
      simp only
      have hpar : par c s = c.1[s.toNat].2.1 := by unfold par; rw [List.getElem?_eq_getElem (show s.toNat < c.1.length by omega)]
      have hlt := par_lt hc (show 0 ≤ s by omega) h1
      rw [loopL_cons]
      have hb : zr_b33 c e5 m7 a9 mi am leaf ev v t84 t85 t86 t108 t109 t110 t114 t119 i s 0 0 = if (c.2.1.filter (fitB s ev v)).length = 0 then some (.inr (0, 0)) else
          (zr_s93 c e5 m7 a9 mi am leaf ev v ((c.2.1.filter (fitB s ev v)).length : Nat) (((c.2.1.filter (fitB s ev v)).map fun t => t.2.2.1).getLastD 0) t84 t85 t86 t108 t109 t110 t114).map Sum.inl := by
        unfold zr_b33
        rw [bifT (dec_true (show c.2.1.length < lenMax by unfold lenMax; omega)), fit_loop c e5 m7 a9 mi am leaf ev v s t84 t85 t86 t108 t109 t110 t114 t119 _ _ c.2.1 c.2.1 0 0 0 (by omega) (by omega), Int.zero_add]
        unfold zr_f35
        split
        · rename_i h
          rw [List.length_eq_zero_iff.1 h]
          rfl
        · rename_i h
          rw [bifT (dec_true (show (((c.2.1.filter (fitB s ev v)).length : Nat) : Int) > 0 by omega))]
      simp only [hb]
      split
      · simp only [Option.bind_some]
        rw [← hpar]
        exact tk_loop c hc e5 m7 a9 mi am leaf ev v t84 t85 t86 t108 t109 t110 t114 t119 k (par c s) (i + 1) (by omega)
      · exact map_inl_bind _ _
def one (b : Bool) (leaf : Int) (e : List UInt8) (v : Int) : List Cas := bif b then [(leaf, e, v, ())] else []
theorem case_eq (c : Cha) (hs : Sh c) (hk : ckChart c = 0) (e5 : List (List UInt8)) (m a A B A' B' : List Cas) (leaf : Int) (hl : IsLf c leaf) (e : List UInt8) (hn : isNm e = true) (hel : e.length < lenMax) (v : Int) (hv0 : 0 ≤ v) (hv1 : v ≤ 15)
    (hm : m = A ++ one (pMany c false leaf e v) leaf e v ++ B) (ha : a = A' ++ one (pMany c true leaf e v) leaf e v ++ B') (hml : m.length ≤ 1000000) (hal : a.length ≤ 1000000) (t84 t85 t86 t108 t109 t110) :
    zr_s93 c e5 m a (A.length : Nat) (A'.length : Nat) leaf e v ((takes c leaf e v).length : Nat) (((takes c leaf e v).map fun t => t.2.2.1).getLastD 0) t84 t85 t86 t108 t109 t110 v =
      some (.inr (c, e5, m, a, ((A ++ one (pMany c false leaf e v) leaf e v).length : Nat), ((A' ++ one (pMany c true leaf e v) leaf e v).length : Nat), leaf, e, t84, t85, t86, t108, t109, t110, v + 1)) := by
  have hc := valid_of c hk
  obtain ⟨l0, l1, st, l2, l3⟩ := hl
  have hst : stepE c leaf (e, v, ()) = 0 := by
    unfold stepE
    rw [hk]
    refine firstOf_eq_zero.2 ⟨rfl, firstOf_eq_zero.2 ⟨?_, ?_⟩⟩
    · unfold lfE
      rw [if_neg (by omega), l2]
      simp [l3]
    · unfold inE nmE
      simp only [hn, cond_true]
      refine firstOf_eq_zero.2 ⟨rfl, ?_⟩
      unfold ckR
      rw [if_neg (by omega)]
  unfold zr_s93
  rw [chart_eq c hs]
  simp only [Option.bind_some]
  rw [gStep_eq c hs leaf (e, v, ()) hel, if_pos hst]
  simp only [Option.bind_some]
  rw [wrapS (show -9223372036854775808 ≤ v + 1 by omega) (by omega)]
  have hmem := takes_mem c e v 17 leaf
  change ∀ t, t ∈ takes c leaf e v → _ at hmem
  unfold stp
  unfold pMany at hm ha ⊢
  match h : takes c leaf e v with
  | [] =>
    rw [h] at hm ha
    simp only [Bool.not_false, Bool.not_true, one, cond_true, cond_false, List.append_nil] at hm ha ⊢
    have hlen : A.length < m.length := by rw [hm]; simp
    rw [bifT (show (((([] : List Tra).length : Nat) : Int) == 0) = true from rfl), bifF (show ((0 : Int) != 0) = false from rfl), bifF (show (leaf != leaf) = false by simp), bifF (dec_false (by omega)),
      show idx m (A.length : Int) = some (leaf, e, v, ()) by rw [hm, List.append_assoc]; exact idx_mid A (leaf, e, v, ()) B _ rfl]
    simp only [Option.bind_some]
    rw [eqV_case, bifF (show (!true) = false from rfl), wrapS (by omega) (by omega)]
    simp
  | [t] =>
    rw [h] at hm ha hmem
    simp only [one, cond_false, List.append_nil] at hm ha ⊢
    have ht := hc.tra t (hmem t (by simp))
    have hlf := entr_leaf c hc _ ht.2.2.1 ht.2.2.2.1
    obtain ⟨f0, f1, fs, f2, f3⟩ := hlf
    have hfew := hc.few
    rw [bifF (show (((([t] : List Tra).length : Nat) : Int) == 0) = false from rfl), bifF (dec_false (show ¬ ((([t] : List Tra).length : Nat) : Int) > 1 by simp)), bifF (show ((0 : Int) != 0) = false from rfl), bifF (dec_false (show ¬ entr c t.2.2.1 < 0 by omega)), bifF (dec_false (show ¬ entr c t.2.2.1 ≥ (c.1.length : Int) by omega)),
      idx_int _ f0, f2]
    simp only [Option.bind_some]
    rw [bifF (show (fs.2.2.1 != -1) = false by rw [f3]; rfl), around_eq c hc _ (by omega) f1]
    simp only [Option.bind_some]
    rw [hasInt_eq _ _ (by have := arD_length c 17 (entr c t.2.2.1); unfold lenMax; omega)]
    simp only [Option.bind_some]
    have hanc : (arD c 17 (entr c t.2.2.1)).contains (([t].map fun t => t.2.2.1).getLastD 0) = true := List.contains_iff_mem.2 (ent_anc c hk hc 17 t.2.2.1 ht.2.2.1 ht.2.2.2.1)
    rw [hanc]
    rfl
  | t :: u :: l =>
    rw [h] at hm ha
    simp only [one, cond_true, cond_false, List.append_nil] at hm ha ⊢
    have hlen : A'.length < a.length := by rw [ha]; simp
    rw [bifF (show ((((t :: u :: l : List Tra).length : Nat) : Int) == 0) = false by simp; omega), bifT (dec_true (show (((t :: u :: l : List Tra).length : Nat) : Int) > 1 by simp; omega)), bifF (show ((30 : Int) != 30) = false from rfl), bifF (dec_false (by omega)),
      show idx a (A'.length : Int) = some (leaf, e, v, ()) by rw [ha, List.append_assoc]; exact idx_mid A' (leaf, e, v, ()) B' _ rfl]
    simp only [Option.bind_some]
    rw [eqV_case, bifF (show (!true) = false from rfl), wrapS (by omega) (by omega)]
    simp
theorem tv_loop (c : Cha) (hs : Sh c) (hk : ckChart c = 0) (e5 : List (List UInt8)) (m a B B' : List Cas) (leaf : Int) (hl : IsLf c leaf) (e : List UInt8) (hn : isNm e = true) (hel : e.length < lenMax) (hml : m.length ≤ 1000000) (hal : a.length ≤ 1000000) (t84 t85 t86 t108 t109 t110) :
    ∀ (k r : Nat) (v : Int) (A A' : List Cas), v + k = 16 → 0 ≤ v → k < r → m = A ++ pickV (pMany c false) leaf e k v ++ B → a = A' ++ pickV (pMany c true) leaf e k v ++ B' →
    loopW (fun s__ => zr_b31 s__.1 s__.2.1 s__.2.2.1 s__.2.2.2.1 s__.2.2.2.2.1 s__.2.2.2.2.2.1 s__.2.2.2.2.2.2.1 s__.2.2.2.2.2.2.2.1 s__.2.2.2.2.2.2.2.2.1 s__.2.2.2.2.2.2.2.2.2.1 s__.2.2.2.2.2.2.2.2.2.2.1 s__.2.2.2.2.2.2.2.2.2.2.2.1 s__.2.2.2.2.2.2.2.2.2.2.2.2.1 s__.2.2.2.2.2.2.2.2.2.2.2.2.2.1 s__.2.2.2.2.2.2.2.2.2.2.2.2.2.2) r
      (c, e5, m, a, ((A.length : Nat) : Int), ((A'.length : Nat) : Int), leaf, e, t84, t85, t86, t108, t109, t110, v) =
      some (.inr (c, e5, m, a, (((A ++ pickV (pMany c false) leaf e k v).length : Nat) : Int), (((A' ++ pickV (pMany c true) leaf e k v).length : Nat) : Int), leaf, t84, t85, t86, t108, t109, IntKind.i64.wrap (t110 + 1)))
  | k, 0, v, A, A', _, _, hr, _, _ => by omega
  | 0, r + 1, v, A, A', hv, h0, hr, hm, ha => by
    simp only [loopW]
    unfold zr_b31
    rw [bifF (dec_false (show ¬ v < 16 by omega))]
    simp [pickV]
  | k + 1, r + 1, v, A, A', hv, h0, hr, hm, ha => by
    have hc := valid_of c hk
    simp only [pickV] at hm ha
    have hb : zr_b31 c e5 m a ((A.length : Nat) : Int) ((A'.length : Nat) : Int) leaf e t84 t85 t86 t108 t109 t110 v = some (.inr (c, e5, m, a, (((A ++ one (pMany c false leaf e v) leaf e v).length : Nat) : Int), (((A' ++ one (pMany c true leaf e v) leaf e v).length : Nat) : Int), leaf, e, t84, t85, t86, t108, t109, t110, v + 1)) := by
      unfold zr_b31
      rw [bifT (dec_true (show v < 16 by omega)), around_eq c hc leaf (by have := hl.1; omega) hl.2.1]
      simp only [Option.bind_some]
      rw [bifT (dec_true (by have := arD_length c 17 leaf; unfold lenMax; omega)), tk_loop c hc e5 m a _ _ leaf e v t84 t85 t86 t108 t109 t110 v (arD c 17 leaf) 17 leaf 0 hl.2.1]
      exact case_eq c hs hk e5 m a A (pickV (pMany c false) leaf e k (v + 1) ++ B) A' (pickV (pMany c true) leaf e k (v + 1) ++ B') leaf hl e hn hel v h0 (by omega) (by rw [hm]; simp [one]) (by rw [ha]; simp [one]) hml hal t84 t85 t86 t108 t109 t110
    simp only [loopW, hb, Option.bind_some]
    rw [tv_loop c hs hk e5 m a B B' leaf hl e hn hel hml hal t84 t85 t86 t108 t109 t110 k r (v + 1) (A ++ one (pMany c false leaf e v) leaf e v) (A' ++ one (pMany c true leaf e v) leaf e v) (by omega) (by omega) (by omega) (by rw [hm]; simp [one]) (by rw [ha]; simp [one])]
    simp [pickV, one]
theorem te_loop (c : Cha) (hs : Sh c) (hk : ckChart c = 0) (e5 : List (List UInt8)) (he5 : e5.length ≤ 1000) (m a B B' : List Cas) (leaf : Int) (hl : IsLf c leaf) (hml : m.length ≤ 1000000) (hal : a.length ≤ 1000000) (t84 t85 t86) (hw : ∀ e ∈ e5, isNm e = true ∧ e.length < lenMax) :
    ∀ (l done : List (List UInt8)) (r : Nat) (A A' : List Cas), e5 = done ++ l → l.length < r → m = A ++ pickE (pMany c false) leaf l ++ B → a = A' ++ pickE (pMany c true) leaf l ++ B' →
    loopW (fun s__ => zr_b29 s__.1 s__.2.1 s__.2.2.1 s__.2.2.2.1 s__.2.2.2.2.1 s__.2.2.2.2.2.1 s__.2.2.2.2.2.2.1 s__.2.2.2.2.2.2.2.1 s__.2.2.2.2.2.2.2.2.1 s__.2.2.2.2.2.2.2.2.2.1 s__.2.2.2.2.2.2.2.2.2.2.1 s__.2.2.2.2.2.2.2.2.2.2.2.1 s__.2.2.2.2.2.2.2.2.2.2.2.2) r
      (c, e5, m, a, ((A.length : Nat) : Int), ((A'.length : Nat) : Int), leaf, t84, t85, t86, e5, (e5.length : Int), (done.length : Int)) =
      some (.inr (c, e5, m, a, (((A ++ pickE (pMany c false) leaf l).length : Nat) : Int), (((A' ++ pickE (pMany c true) leaf l).length : Nat) : Int), t84, t85, IntKind.i64.wrap (t86 + 1)))
  | l, done, 0, A, A', _, hr, _, _ => by omega
  | [], done, r + 1, A, A', hd, hr, hm, ha => by
    simp only [loopW]
    unfold zr_b29
    rw [List.append_nil] at hd
    rw [bifF (dec_false (show ¬ (done.length : Int) < (e5.length : Int) by rw [hd]; omega))]
    simp [pickE]
  | e :: l, done, r + 1, A, A', hd, hr, hm, ha => by
    simp only [pickE] at hm ha
    simp only [List.length_cons] at hr
    have hlen : done.length < e5.length := by rw [hd]; simp
    obtain ⟨hn, hel⟩ := hw e (by rw [hd]; simp)
    have hb : zr_b29 c e5 m a ((A.length : Nat) : Int) ((A'.length : Nat) : Int) leaf t84 t85 t86 e5 (e5.length : Int) (done.length : Int) = some (.inr (c, e5, m, a, (((A ++ pickV (pMany c false) leaf e 16 0).length : Nat) : Int), (((A' ++ pickV (pMany c true) leaf e 16 0).length : Nat) : Int), leaf, t84, t85, t86, e5, (e5.length : Int), (done.length : Int) + 1)) := by
      unfold zr_b29
      rw [bifT (dec_true (show (done.length : Int) < (e5.length : Int) by omega)), show idx e5 (done.length : Int) = some e by rw [hd]; exact idx_mid done e l _ rfl]
      simp only [Option.bind_some]
      have := tv_loop c hs hk e5 m a (pickE (pMany c false) leaf l ++ B) (pickE (pMany c true) leaf l ++ B') leaf hl e hn hel hml hal t84 t85 t86 e5 (e5.length : Int) (done.length : Int) 16 wMax 0 A A' (by omega) (by omega) (by unfold wMax; omega) (by rw [hm]; simp) (by rw [ha]; simp)
      rw [wrapS (by omega) (by omega)] at this
      exact this
    simp only [loopW, hb, Option.bind_some]
    have := te_loop c hs hk e5 he5 m a B B' leaf hl hml hal t84 t85 t86 hw l (done ++ [e]) r (A ++ pickV (pMany c false) leaf e 16 0) (A' ++ pickV (pMany c true) leaf e 16 0) (by rw [hd]; simp) (by omega) (by rw [hm]; simp) (by rw [ha]; simp)
    rw [show ((done ++ [e]).length : Int) = (done.length : Int) + 1 by simp] at this
    rw [this]
    simp [pickE]
theorem tl_loop (c : Cha) (hs : Sh c) (hk : ckChart c = 0) (e5 : List (List UInt8)) (he5 : e5.length ≤ 1000) (m a : List Cas) (ls : List Int) (hls : ls.length ≤ 1000) (hlf : ∀ x ∈ ls, IsLf c x) (hml : m.length ≤ 1000000) (hal : a.length ≤ 1000000) (hw : ∀ e ∈ e5, isNm e = true ∧ e.length < lenMax) :
    ∀ (l done : List Int) (r : Nat) (A A' : List Cas), ls = done ++ l → l.length < r → m = A ++ pickL (pMany c false) e5 l → a = A' ++ pickL (pMany c true) e5 l →
    loopW (fun s__ => zr_b22 s__.1 s__.2.1 s__.2.2.1 s__.2.2.2.1 s__.2.2.2.2.1 s__.2.2.2.2.2.1 s__.2.2.2.2.2.2.1 s__.2.2.2.2.2.2.2.1 s__.2.2.2.2.2.2.2.2) r
      (c, e5, m, a, ((A.length : Nat) : Int), ((A'.length : Nat) : Int), ls, (ls.length : Int), (done.length : Int)) = some (true, ())
  | l, done, 0, A, A', _, hr, _, _ => by omega
  | [], done, r + 1, A, A', hd, hr, hm, ha => by
    simp only [loopW]
    unfold zr_b22
    rw [List.append_nil] at hd
    simp only [pickL, List.append_nil] at hm ha
    rw [bifF (dec_false (show ¬ (done.length : Int) < (ls.length : Int) by rw [hd]; omega)), hm, bifT (show ((A.length : Int) == (A.length : Int)) = true by simp), ha]
    simp
  | x :: l, done, r + 1, A, A', hd, hr, hm, ha => by
    simp only [pickL] at hm ha
    simp only [List.length_cons] at hr
    have hlen : done.length < ls.length := by rw [hd]; simp
    have hx := hlf x (by rw [hd]; simp)
    obtain ⟨x0, x1, st, x2, x3⟩ := hx
    have hb : zr_b22 c e5 m a ((A.length : Nat) : Int) ((A'.length : Nat) : Int) ls (ls.length : Int) (done.length : Int) = some (.inr (c, e5, m, a, (((A ++ pickE (pMany c false) x e5).length : Nat) : Int), (((A' ++ pickE (pMany c true) x e5).length : Nat) : Int), ls, (ls.length : Int), (done.length : Int) + 1)) := by
      unfold zr_b22
      rw [bifT (dec_true (show (done.length : Int) < (ls.length : Int) by omega)), show idx ls (done.length : Int) = some x by rw [hd]; exact idx_mid done x l _ rfl]
      simp only [Option.bind_some]
      rw [bifF (dec_false (show ¬ x < 0 by omega)), bifF (dec_false (show ¬ x ≥ (c.1.length : Int) by omega)), idx_int _ x0, x2]
      simp only [Option.bind_some]
      rw [bifF (show (st.2.2.1 != -1) = false by rw [x3]; rfl)]
      have := te_loop c hs hk e5 he5 m a (pickL (pMany c false) e5 l) (pickL (pMany c true) e5 l) x ⟨x0, x1, st, x2, x3⟩ hml hal ls (ls.length : Int) (done.length : Int) hw e5 [] wMax A A' rfl (by unfold wMax; omega) (by rw [hm]; simp) (by rw [ha]; simp)
      rw [wrapS (by omega) (by omega)] at this
      exact this
    simp only [loopW, hb, Option.bind_some]
    have := tl_loop c hs hk e5 he5 m a ls hls hlf hml hal hw l (done ++ [x]) r (A ++ pickE (pMany c false) x e5) (A' ++ pickE (pMany c true) x e5) (by rw [hd]; simp) (by omega) (by rw [hm]; simp) (by rw [ha]; simp)
    rw [show ((done ++ [x]).length : Int) = (done.length : Int) + 1 by simp] at this
    exact this
theorem leavesF_lf : ∀ (l : List Sta) (k x : Int), x ∈ leavesF k l → ∃ (j : Nat) (s : Sta), x = k + j ∧ l[j]? = some s ∧ s.2.2.1 = -1
  | [], k, x, h => by cases h
  | s :: l, k, x, h => by
    unfold leavesF at h
    rcases List.mem_append.1 h with h | h
    · split at h
      · rename_i hs
        rw [List.mem_singleton] at h
        exact ⟨0, s, by omega, rfl, by simpa using hs⟩
      · cases h
    · obtain ⟨j, s', h1, h2, h3⟩ := leavesF_lf l (k + 1) x h
      exact ⟨j + 1, s', by omega, by simpa using h2, h3⟩
theorem leaves_lf {c : Cha} {x : Int} (h : x ∈ leavesF 0 c.1) : IsLf c x := by
  obtain ⟨j, s, h1, h2, h3⟩ := leavesF_lf c.1 0 x h
  have := (List.getElem?_eq_some_iff.1 h2).1
  rw [Int.zero_add] at h1
  subst h1
  exact ⟨by omega, by omega, s, by simpa using h2, h3⟩
theorem evts_mem : ∀ (l : List Tra) (s : List (List UInt8)) (e : List UInt8), e ∈ l.foldl evF s → e ∈ s ∨ ∃ t ∈ l, t.2.1 = e
  | [], s, e, h => .inl h
  | t :: l, s, e, h => by
    rcases evts_mem l (evF s t) e h with h | ⟨u, hu, h⟩
    · unfold evF at h
      cases hb : s.contains t.2.1 with
      | true => rw [hb] at h; exact .inl h
      | false =>
        rw [hb] at h
        rcases List.mem_append.1 h with h | h
        · exact .inl h
        · rw [List.mem_singleton] at h; exact .inr ⟨t, by simp, h.symm⟩
    · exact .inr ⟨u, by simp [hu], h⟩
theorem evts_ok {c : Cha} (hs : Sh c) (hc : Valid c) {e : List UInt8} (h : e ∈ evts c.2.1) : isNm e = true ∧ e.length < lenMax := by
  rcases evts_mem c.2.1 [] e h with h | ⟨t, ht, rfl⟩
  · cases h
  · exact ⟨(hc.tra t ht).2.2.2.2.1, hs.words.2 t ht⟩
theorem gateTaken_law (c : Cha) : zr_M c = some (true, ()) := by
  have aw : (z0Q_M.bind fun (v6 : Bool × Unit) => some (v6.1, ())) = some (true, ()) := by rw [awake_true]; rfl
  unfold zr_M
  obtain ⟨s, hs, hs2⟩ := short_eq c
  rw [hs]
  conv => lhs; arg 1; rw [awake_true]
  rw [Option.bind_some, bifF (show (!(true, ()).1) = false from rfl), Option.bind_some]
  cases s with
  | false => exact aw
  | true =>
    have hsh := hs2 rfl
    rw [bifF (show (!(true, ()).1) = false from rfl), rchart_eq]
    simp only [Option.bind_some]
    by_cases hk : ckChart c = 0
    · have hc := valid_of c hk
      have hlv := leavesF_length c.1 0
      have hkd := hc.kinds
      have hfew := hc.few
      have h1 := pickL_length (pMany c false) (evts c.2.1) (by omega) (leavesF 0 c.1)
      have h2 := pickL_length (pMany c true) (evts c.2.1) (by omega) (leavesF 0 c.1)
      rw [bifF (show (ckChart c != 0) = false by simpa using hk), chart_eq c hsh]
      simp only [Option.bind_some]
      rw [gLeaves_eq c hsh, gEvents_eq c hsh, gMissing_eq c hsh, gAmbiguous_eq c hsh, if_pos hk, if_pos hk, if_pos hk, if_pos hk]
      simp only [Option.bind_some]
      rw [show (IntKind.i64.wrap (IntKind.i64.wrap (IntKind.i64.wrap ((0 : Int) + 0) + 0) + 0) != 0) = false by decide, cond_false, bifF (dec_false (by omega)), bifF (dec_false (by omega))]
      exact tl_loop c hsh hk (evts c.2.1) (by omega) _ _ (leavesF 0 c.1) (by omega) (fun x hx => leaves_lf hx) (by omega) (by omega) (fun e he => evts_ok hsh hc he) (leavesF 0 c.1) [] wMax [] [] rfl (by unfold wMax; omega) rfl rfl
    · rw [bifT (show (ckChart c != 0) = true by simpa using hk)]
      exact aw
end Go.Tw
