import Derived.Test.YtohhmdogfjmlcaaGreatP20
set_option linter.all false
set_option maxRecDepth 100000
namespace Go.Tw
open Go.Vx Go.Vx.B Go.Proofs
theorem pickV_mem (p : Int → List UInt8 → Int → Bool) (leaf : Int) (e : List UInt8) : ∀ (m : Nat) (v : Int) (y : Cas), y ∈ pickV p leaf e m v → ∃ w, v ≤ w ∧ w < v + m ∧ y = (leaf, e, w, ()) ∧ p leaf e w = true
  | 0, v, y, h => by cases h
  | m + 1, v, y, h => by
    unfold pickV at h
    rcases List.mem_append.1 h with h | h
    · cases hp : p leaf e v with
      | false => rw [hp] at h; cases h
      | true =>
        rw [hp] at h
        rw [cond_true, List.mem_singleton] at h
        exact ⟨v, by omega, by omega, h, hp⟩
    · obtain ⟨w, h1, h2, h3, h4⟩ := pickV_mem p leaf e m (v + 1) y h
      exact ⟨w, by omega, by omega, h3, h4⟩
theorem pickE_mem (p : Int → List UInt8 → Int → Bool) (leaf : Int) : ∀ (ev : List (List UInt8)) (y : Cas), y ∈ pickE p leaf ev → ∃ e ∈ ev, ∃ w, 0 ≤ w ∧ w ≤ 15 ∧ y = (leaf, e, w, ()) ∧ p leaf e w = true
  | [], y, h => by cases h
  | e :: l, y, h => by
    unfold pickE at h
    rcases List.mem_append.1 h with h | h
    · obtain ⟨w, h1, h2, h3, h4⟩ := pickV_mem p leaf e 16 0 y h
      exact ⟨e, by simp, w, h1, by omega, h3, h4⟩
    · obtain ⟨e', he, w, h1⟩ := pickE_mem p leaf l y h
      exact ⟨e', by simp [he], w, h1⟩
theorem pickL_mem (p : Int → List UInt8 → Int → Bool) (ev : List (List UInt8)) : ∀ (ls : List Int) (y : Cas), y ∈ pickL p ev ls → ∃ leaf ∈ ls, ∃ e ∈ ev, ∃ w, 0 ≤ w ∧ w ≤ 15 ∧ y = (leaf, e, w, ()) ∧ p leaf e w = true
  | [], y, h => by cases h
  | x :: l, y, h => by
    unfold pickL at h
    rcases List.mem_append.1 h with h | h
    · obtain ⟨e, he, w, h1⟩ := pickE_mem p x ev y h
      exact ⟨x, by simp, e, he, w, h1⟩
    · obtain ⟨x', hx, h1⟩ := pickL_mem p ev l y h
      exact ⟨x', by simp [hx], h1⟩
section
variable {c : Cha} (hs : Sh c) (hk : ckChart c = 0)
include hs hk
theorem r_steps (r3 s5 at_) (i : Int) (run : List Int) (a1 a2 a3 a4) : ∀ (l : List Inp) (done ts : List Int) (leaf : Int), run = done ++ ts → Goes c leaf l ts → IsLf c leaf → (∀ x ∈ l, OkIn x) → ts.getLastD leaf = i →
    loopL (fun i__ e__ s__ => zg_b85 c r3 s5 at_ i run a1 a2 a3 a4 i__ e__ s__) (fun s__ => zg_f85 c r3 s5 at_ i run a1 a2 a3 a4 s__) (done.length : Int) l leaf = some (.inr at_)
  | [], done, ts, leaf, hr, hg, hl, hx, hi => by
    cases (show ts = [] from hg)
    rw [loopL_nil]
    unfold zg_f85
    have : leaf = i := hi
    rw [this, bifF (show (i != i) = false by simp)]
  | x :: l, done, ts, leaf, hr, ⟨h0, r, h1, h2⟩, hl, hx, hi => by
    have hc := valid_of c hk
    subst h1
    have hb : zg_b85 c r3 s5 at_ i run a1 a2 a3 a4 (done.length : Int) x leaf = some (.inr (stp c leaf x.1 x.2.1).1) := by
      unfold zg_b85
      rw [chart_eq c hs]
      simp only [Option.bind_some]
      rw [show z0a_M c leaf (x.1, x.2.1, ()) = _ from gStep_ok hs hk hl (hx x (by simp))]
      simp only [Option.bind_some]
      rw [h0, bifF (show ((0 : Int) != 0) = false from rfl), show idx run (done.length : Int) = some (stp c leaf x.1 x.2.1).1 by rw [hr]; exact idx_mid done _ r _ rfl]
      simp only [Option.bind_some]
      rw [bifF (by simp)]
    rw [loopL_cons, hb]
    simp only [Option.bind_some]
    have := r_steps r3 s5 at_ i run a1 a2 a3 a4 l (done ++ [(stp c leaf x.1 x.2.1).1]) r (stp c leaf x.1 x.2.1).1 (by rw [hr]; simp) h2 (stp_lf hc hl h0) (fun y hy => hx y (by simp [hy])) (by rw [List.getLastD_cons] at hi; exact hi)
    rw [show ((done ++ [(stp c leaf x.1 x.2.1).1]).length : Int) = (done.length : Int) + 1 by simp] at this
    exact this
theorem r_state (ps : List Pth) (hps : ps = WS c) (hpi : PI c ps) (dep : List Int) (hdp : DepOK c dep ps) (t : Int) (x : Nat) (hx : x < c.1.length) (R done rest : List Int) (hR : R = done ++ List.replicate ((lvs ps).count (x : Int)) (x : Int) ++ rest) (hRl : R.length ≤ 16) :
    zg_b57 c R (entr c 0) t dep (x : Int) (done.length : Int) = some (.inr (((done ++ List.replicate ((lvs ps).count (x : Int)) (x : Int)).length : Nat) : Int)) := by
  have hmem : memMax = 68719476736 := rfl
  have hc := valid_of c hk
  have hn16 := hc.few
  have hp := hc.pos
  unfold zg_b57
  have htr : trE2 c [(x : Int)] = 0 := by
    unfold trE2 lstE
    rw [if_neg (by simp)]
    refine firstOf_eq_zero.2 ⟨hk, ?_⟩
    have : foreign c (x : Int) = false := by unfold foreign; simp; omega
    simp [this]
  rw [chart_eq c hs]
  simp only [Option.bind_some]
  rw [gTrace_eq c hs _ (by simp), if_pos htr]
  simp only [Option.bind_some]
  rw [idx_nat, Int.toNat_natCast, hdp.2 x hx]
  simp only [Option.bind_some]
  by_cases hn : (lvs ps).contains (x : Int) = false
  · have hneg : depOf ps x < 0 := by rw [depOf_some]; exact hn
    have hcnt : (lvs ps).count (x : Int) = 0 := List.count_eq_zero_of_not_mem fun h => by rw [Bool.eq_false_iff] at hn; exact hn (List.contains_iff_mem.2 h)
    rw [bifT (dec_true hneg)]
    have h7 : traceOf (WS c) [(x : Int)] = ([], 7) := by
      rw [← hps]
      unfold depOf at hneg
      unfold traceOf
      cases hf : ps.find? (fun p => [(x : Int)].contains p.1) with
      | none => rfl
      | some p => rw [hf] at hneg; simp only at hneg; omega
    rw [h7, bifF (show ((7 : Int) != 7) = false from rfl), hcnt]
    simp
  · have hneg : ¬ depOf ps x < 0 := by rw [depOf_some]; exact hn
    rw [bifF (dec_false hneg)]
    have hmemx : (x : Int) ∈ lvs ps := List.contains_iff_mem.1 (by simpa using hn)
    have hcnt : (lvs ps).count (x : Int) = 1 := List.Nodup.count hpi.wi.nd |>.trans (if_pos hmemx)
    cases hf : ps.find? (fun p => [(x : Int)].contains p.1) with
    | none =>
      exfalso
      unfold depOf at hneg
      rw [hf] at hneg
      simp at hneg
    | some p =>
      have hpm := List.mem_of_find?_eq_some hf
      have hpx : p.1 = (x : Int) := by have := List.find?_some hf; rw [one_contains] at this; simpa using this
      have ht : traceOf (WS c) [(x : Int)] = (p.2.1, 0) := by rw [← hps]; unfold traceOf; rw [hf]
      have hd : depOf ps x = (p.2.1.length : Int) := by unfold depOf; rw [hf]
      obtain ⟨g1, ts, g2, g3⟩ := hpi.go p hpm
      have hpl : p.2.1.length < c.1.length := by
        obtain ⟨j, hj, hpj⟩ := List.getElem_of_mem hpm
        have h2 := hpi.wi.ln j p (by rw [List.getElem?_eq_getElem hj, hpj])
        have hle := nodup_le c.1.length (lvs ps) hpi.wi.nd (fun x hx => by
          obtain ⟨p, hp, rfl⟩ := List.mem_map.1 hx
          exact hpi.wi.rg p hp)
        simp only [List.length_map] at hle
        omega
      have hw : ∀ y ∈ p.2.1, y.1.length < lenMax := fun y hy => (g1 y hy).2.1
      have hsc : ckScript p.2.1 = 0 := ckScript_zero (by omega) g1
      have hrun : run0 c p.2.1 = (ts, 0) := by unfold run0; rw [plays_goes 0 [] g2]; rfl
      have htl := goes_length g2
      have hprov : provE c [(x : Int)] p.2.1 = 0 := by
        unfold provE
        rw [hrun]
        refine firstOf_eq_zero.2 ⟨rfl, ?_⟩
        rw [g3, one_contains, hpx]
        simp
      rw [ht, hd]
      simp only
      rw [bifF (show ((0 : Int) != 0) = false from rfl)]
      have hat : done.length < R.length := by rw [hR, hcnt]; simp
      rw [bifF (show ((p.2.1.length : Int) != (p.2.1.length : Int)) = false by simp), bifF (dec_false (show ¬ (p.2.1.length : Int) > (c.1.length : Int) by omega)), bifF (dec_false (show ¬ (done.length : Int) ≥ (R.length : Int) by omega)),
        show idx R (done.length : Int) = some (x : Int) by rw [hR, hcnt, List.append_assoc]; exact idx_mid done (x : Int) rest _ rfl]
      simp only [Option.bind_some]
      rw [bifF (show ((x : Int) != (x : Int)) = false by simp), inputs_eq _ (by omega)]
      simp only [Option.bind_some]
      rw [script_eq _ (by omega)]
      simp only [Option.bind_some]
      rw [gprov_eq c hs _ _ (by simp) (by omega) hw, if_pos (firstOf_eq_zero.2 ⟨htr, hsc⟩), hprov]
      simp only [Option.bind_some]
      rw [bifF (show ((0 : Int) != 0) = false from rfl), gRun_eq c hs _ (by omega) hw, if_pos (show runE c p.2.1 = 0 from firstOf_eq_zero.2 ⟨hk, hsc⟩), hrun]
      simp only [Option.bind_some]
      rw [bifF (show ((0 : Int) != 0) = false from rfl), bifF (show ((ts.length : Int) != (p.2.1.length : Int)) = false by rw [htl]; simp), bifT (dec_true (show p.2.1.length < lenMax by unfold lenMax; omega)), wrapS (by omega) (by omega)]
      have := r_steps hs hk R (entr c 0) ((done.length : Int) + 1) (x : Int) ts t (x : Int) p.2.1 dep p.2.1 [] ts (entr c 0) rfl g2 (entr_leaf c hc 0 (by omega) (by omega)) g1 (by rw [g3, hpx])
      rw [show ((([] : List Int).length : Nat) : Int) = 0 from rfl] at this
      rw [this, hcnt]
      simp
theorem r_states (ps : List Pth) (hps : ps = WS c) (hpi : PI c ps) (dep : List Int) (hdp : DepOK c dep ps) (t : Int) (R : List Int) (hRl : R.length ≤ 16) :
    ∀ (m x : Nat) (done : List Int), x + m = c.1.length → R = done ++ rea (lvs ps) m (x : Int) →
    loopN (fun i__ s__ => zg_b57 c R (entr c 0) t dep i__ s__) (fun s__ => zg_f57 c R (entr c 0) t dep s__) m (x : Int) (done.length : Int) = zg_f57 c R (entr c 0) t dep (R.length : Int)
  | 0, x, done, hx, hR => by
    simp only [rea, List.append_nil] at hR
    rw [hR]
    rfl
  | m + 1, x, done, hx, hR => by
    have hb := r_state hs hk ps hps hpi dep hdp t x (by omega) R done (rea (lvs ps) m ((x : Int) + 1)) (by rw [hR]; simp [rea]) hRl
    simp only [loopN, hb, Option.bind_some]
    have := r_states ps hps hpi dep hdp t R hRl m (x + 1) (done ++ List.replicate ((lvs ps).count (x : Int)) (x : Int)) (by omega) (by
      rw [hR]
      simp [rea])
    rw [show (((x + 1 : Nat)) : Int) = (x : Int) + 1 by omega] at this
    exact this
theorem r_against (ps : List Pth) (hps : ps = WS c) (hpi : PI c ps) (dep : List Int) (hdp : DepOK c dep ps) (t : Int) :
    zg_f57 c (RS c) (entr c 0) t dep ((RS c).length : Int) = some (true, ()) := by
  have hc := valid_of c hk
  have hkd := hc.kinds
  have hRl := RS_length c hc
  have hpl := pickL_length (pLock c) (evts c.2.1) (by omega) (RS c)
  unfold zg_f57
  rw [chart_eq c hs]
  simp only [Option.bind_some]
  rw [gAgainst_eq c hs, if_pos hk]
  simp only [Option.bind_some]
  rw [bifF (show ((0 : Int) != 0) = false from rfl), bifF (show (((RS c).length : Int) != ((RS c).length : Int)) = false by simp), bifT (dec_true (by unfold lenMax; omega))]
  rw [loopL_same (pickL (pLock c) (evts c.2.1) (RS c)) (fun p y r hp => ?_) _ [] 0 rfl rfl]
  · rfl
  · obtain ⟨leaf, hl, e, he, w, w0, w1, rfl, hlk⟩ := pickL_mem _ _ _ y (by rw [hp]; simp)
    have hlm : leaf ∈ lvs ps := by rw [hps]; exact (sortI_perm _).mem_iff.1 hl
    obtain ⟨p', hp', hpl'⟩ := List.mem_map.1 hlm
    have hlf := hpi.lf p' hp'
    rw [hpl'] at hlf
    obtain ⟨l0, l1, l2⟩ := hlf
    obtain ⟨x, rfl⟩ := Int.eq_ofNat_of_zero_le l0
    have hneg : ¬ depOf ps x < 0 := by
      rw [depOf_some]
      intro hh
      rw [Bool.eq_false_iff] at hh
      exact hh (List.contains_iff_mem.2 hlm)
    have hok := evts_ok hs hc he
    unfold pLock at hlk
    rw [Bool.and_eq_true] at hlk
    obtain ⟨hl1, hl2⟩ := hlk
    unfold pMove at hl2
    rw [Bool.and_eq_true] at hl2
    have h0 : (stp c (x : Int) e w).2 = 0 := by simpa using hl2.1
    obtain ⟨f0, f1, st, f2, f3⟩ := stp_lf hc ⟨l0, l1, l2⟩ h0
    have hmv : st.2.2.2.1 = true := by have := hl2.2; unfold mvs at this; rw [f2] at this; exact this
    unfold zg_b104
    simp only
    rw [bifF (dec_false (show ¬ (x : Int) < 0 by omega)), bifF (dec_false (show ¬ (x : Int) ≥ (c.1.length : Int) by omega)), idx_nat, Int.toNat_natCast, hdp.2 x (by omega)]
    simp only [Option.bind_some]
    rw [bifF (dec_false hneg), bifF (show (bitsOp .i64 .and w 1 == 0) = false by simpa using hl1), bifF (dec_false (show ¬ w < 0 by omega)), bifF (dec_false (show ¬ w > 15 by omega)), chart_eq c hs]
    simp only [Option.bind_some]
    rw [gStep_ok hs hk ⟨l0, l1, l2⟩ (x := (e, w, ())) ⟨hok.1, hok.2, w0, w1⟩]
    simp only [Option.bind_some]
    rw [h0, bifF (show ((0 : Int) != 0) = false from rfl), bifF (dec_false (by omega)), bifF (dec_false (by omega)), idx_int _ f0, f2]
    simp only [Option.bind_some]
    rw [hmv]
    rfl
theorem r_fill (r3 s5 ev t) (n : Nat) (hn : n = c.1.length) : ∀ (m k : Nat) (dep : List Int), dep.length = n → k + m = n → (∀ j : Nat, j < k → dep[j]? = some (-1)) →
    loopN (fun i__ s__ => zg_b24 c r3 s5 ev t i__ s__) (fun s__ => zg_f24 c r3 s5 ev t s__) m (k : Int) dep = zg_f24 c r3 s5 ev t (List.replicate n (-1))
  | 0, k, dep, hd, hkm, h => by
    have : dep = List.replicate n (-1) := by
      apply List.ext_getElem?
      intro j
      by_cases hj : j < n
      · rw [h j (by omega)]; simp [hj]
      · rw [List.getElem?_eq_none (by omega), List.getElem?_eq_none (by simp; omega)]
    rw [← this]; rfl
  | m + 1, k, dep, hd, hkm, h => by
    have hv : dep[k]? = some dep[k] := List.getElem?_eq_getElem (by omega)
    have hb : zg_b24 c r3 s5 ev t (k : Int) dep = some (.inr (dep.set k (-1))) := by
      unfold zg_b24
      rw [idx_nat, hv]
      simp only [Option.bind_some, Int.toNat_natCast]
      rw [hv]; rfl
    simp only [loopN, hb, Option.bind_some]
    refine r_fill r3 s5 ev t n hn m (k + 1) (dep.set k (-1)) (by simp [hd]) (by omega) fun j hj => ?_
    rw [List.getElem?_set]
    by_cases e : k = j
    · subst e; rw [if_pos rfl, if_pos (by omega)]
    · rw [if_neg e]; exact h j (by omega)
theorem r_all (r3) (hr3 : r3 = RS c) (t) : zg_f24 c r3 (entr c 0) (evts c.2.1) t (List.replicate c.1.length (-1)) = some (true, ()) := by
  have hc := valid_of c hk
  have hp := hc.pos
  have hn16 := hc.few
  subst hr3
  obtain ⟨l0, l1, l2⟩ := entr_leaf c hc 0 (by omega) (by omega)
  obtain ⟨s, hse⟩ := Int.eq_ofNat_of_zero_le l0
  have hsn : s < c.1.length := by omega
  unfold zg_f24
  rw [hse, idx_nat, Int.toNat_natCast, show (List.replicate c.1.length (-1 : Int))[s]? = some (-1) by simp [hsn]]
  simp only [Option.bind_some]
  have hpi := PI_start c hc
  have hdp : DepOK c ((List.replicate c.1.length (-1)).set s 0) ([] ++ [(entr c 0, [], ())]) := DepOK_snoc (ps := []) ⟨by simp, fun x hx => by simp [hx, depOf]⟩ (entr c 0, [], ()) s hse (by simp [lvs]) 0 rfl
  obtain ⟨dep', h1, h2, h3⟩ := r_levels hs hk (RS c) (s : Int) wMax [] [(entr c 0, [], ())] 1 _ wMax hpi hdp (fun p hp => by rw [List.mem_singleton] at hp; subst hp; rfl) (by omega) (by omega) (by unfold wMax; simp) (by unfold wMax; simp)
  rw [show lvs [(entr c 0, [], ())] = [(s : Int)] by simp [lvs, hse]] at h1
  rw [h1]
  change PI c (WS c) at h2
  change DepOK c dep' (WS c) at h3
  unfold zg_s127
  rw [bifT (dec_true (show (c.1.length : Int) ≤ 9223372036854775807 by omega)), show ((c.1.length : Int) - 0).toNat = c.1.length by omega, ← hse]
  have hRl := RS_length c hc
  have hre := rea_sort (lvs (WS c)) c.1.length (fun x hx => by
    obtain ⟨p, hp, rfl⟩ := List.mem_map.1 hx
    exact h2.wi.rg p hp)
  have := r_states hs hk (WS c) rfl h2 dep' h3 (c.1.length : Int) (RS c) hRl c.1.length 0 [] (by omega) (by rw [List.nil_append]; exact hre.symm)
  rw [show ((([] : List Int).length : Nat) : Int) = 0 from rfl, show (((0 : Nat)) : Int) = 0 from rfl] at this
  rw [this]
  exact r_against hs hk (WS c) rfl h2 dep' h3 (c.1.length : Int)
end
theorem gateReaches_law (c : Cha) : zg_M c = some (true, ()) := by
  have hmem : memMax = 68719476736 := rfl
  have aw : (z0O_M.bind fun (v6 : Bool × Unit) => some (v6.1, ())) = some (true, ()) := by rw [awake_true]; rfl
  unfold zg_M
  obtain ⟨s, hs, hs2⟩ := short_eq c
  rw [hs]
  conv => lhs; arg 1; rw [awake_true]
  rw [Option.bind_some, bifF (show (!(true, ()).1) = false from rfl), Option.bind_some]
  cases s with
  | false => exact aw
  | true =>
    have hsh := hs2 rfl
    rw [bifF (show (!(true, ()).1) = false from rfl), rchart_eq]
    simp only [Option.bind_some]
    by_cases hk : ckChart c = 0
    · have hc := valid_of c hk
      have hp := hc.pos
      have hkd := hc.kinds
      have hfew := hc.few
      have hRn : (RS c).length ≤ c.1.length := by
        have := (sortI_perm (lvs (WS c))).length_eq
        unfold RS
        rw [this]
        exact nodup_le c.1.length _ (WS_inv c hc).nd (fun x hx => by
          obtain ⟨p, hp, rfl⟩ := List.mem_map.1 hx
          exact (WS_inv c hc).rg p hp)
      obtain ⟨l0, l1, l2⟩ := entr_leaf c hc 0 (by omega) (by omega)
      rw [bifF (show (ckChart c != 0) = false by simpa using hk), chart_eq c hsh]
      simp only [Option.bind_some]
      rw [gReach_eq c hsh, gStart_eq c hsh, gEvents_eq c hsh, if_pos hk, if_pos hk, if_pos hk]
      simp only [Option.bind_some]
      rw [show (IntKind.i64.wrap (IntKind.i64.wrap ((0 : Int) + 0) + 0) != 0) = false by decide, cond_false, bifF (dec_false (by omega)), bifF (dec_false (by omega)), bifF (dec_false (by omega)), bifF (dec_false (by omega)),
        bifT (by simp [hmem]; omega), Int.toNat_natCast, List.length_replicate, bifT (dec_true (by omega)), show ((c.1.length : Int) - 0).toNat = c.1.length by omega]
      have := r_fill hsh hk (RS c) (entr c 0) (evts c.2.1) (c.1.length : Int) c.1.length rfl c.1.length 0 (List.replicate c.1.length 0) (by simp) (by omega) (fun j hj => by omega)
      rw [show (((0 : Nat)) : Int) = 0 from rfl] at this
      rw [this]
      exact r_all hsh hk (RS c) rfl _
    · rw [bifT (show (ckChart c != 0) = true by simpa using hk)]
      exact aw
end Go.Tw
