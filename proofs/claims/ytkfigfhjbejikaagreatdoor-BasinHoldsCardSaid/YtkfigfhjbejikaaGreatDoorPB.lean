/- P9: runs: the program's passages are the reference's steps; the errors of a run's arguments.
P10: BasinSteps: the law.
P11: levels, nodes above their limits, the first one in a run.
P12: the balance of a run.
P13: BasinRuns: the law. -/
import Derived.Test.YtkfigfhjbejikaaGreatDoorPA
import Derived.Test.YtkfigfhjbejikaaGreatDoorBE
import Derived.Test.YtkfigfhjbejikaaGreatDoorB16
import Derived.Test.YtkfigfhjbejikaaGreatDoorB17

section
set_option linter.all false
set_option maxRecDepth 100000
namespace Go.Tw
open Go.Vx Go.Vx.B Go.Proofs

/-! ### A step -/
/-- A step, if what it leaves fits. -/
noncomputable def stepD (b : Bas) (v : List Int) (c : Cnd) : Option (List Int × List Int) :=
  match z0f_M b v c with
  | some (f, o, e, _) => if e = 0 then some (f, o) else none
  | none => none

theorem stepD_both (b : Bas) (hb : BasOK b) (v : List Int) (c : Cnd) (hv : v.length = b.1.length) (hc : c.2.2.1.length = b.1.length) :
    (∃ f o, stepD b v c = some (f, o) ∧ z0f_M b v c = some (f, o, 0, ()) ∧ zi_M b v c = some (f, some o, true, ()) ∧ o.length = b.1.length ∧ fits8 o = true) ∨
    (stepD b v c = none ∧ z0f_M b v c = some ([], [], 4, ()) ∧ ∃ f o, zi_M b v c = some (f, some o, false, ())) := by
  obtain ⟨f, o, ⟨h1, h2, h3, h4⟩ | ⟨h1, h2⟩⟩ := step_same b hb v c hv hc
  · exact .inl ⟨f, o, by unfold stepD; rw [h1]; rfl, h1, h2, h3, h4⟩
  · exact .inr ⟨by unfold stepD; rw [h1]; rfl, h1, f, o, h2⟩

/-! ### A run -/
noncomputable def runD (b : Bas) : List Int → List Cnd → Option (List (Cnd × List Int × List Int))
  | _, [] => some []
  | v, c :: l => match stepD b v c with
    | none => none
    | some (f, o) => (runD b o l).map ((c, f, o) :: ·)
def psg (x : Cnd × List Int × List Int) : Psg := (x.1, x.2.1, some x.2.2, ())

theorem runD_cons_none {b : Bas} {v : List Int} {c : Cnd} {l : List Cnd} (h : stepD b v c = none) : runD b v (c :: l) = none := by
  simp only [runD, h]
theorem runD_cons_some {b : Bas} {v : List Int} {c : Cnd} {l : List Cnd} {f o : List Int} (h : stepD b v c = some (f, o)) : runD b v (c :: l) = (runD b o l).map ((c, f, o) :: ·) := by
  simp only [runD, h]

theorem wr_small {n : Int} (h1 : -9223372036854775808 ≤ n) (h2 : n ≤ 9223372036854775807) : wr n = n := by
  unfold wr IntKind.wrap IntKind.bits IntKind.signed
  simp only [Nat.reduceSub, Int.reducePow, decide_eq_true_eq, Bool.true_and]
  split <;> omega

theorem idx_last {α : Type} (p : List α) (x : α) (h : p.length < memMax) : idx (p ++ [x]) (wr (((p ++ [x]).length : Int) - 1)) = some x ∧ (p ++ [x])[(wr (((p ++ [x]).length : Int) - 1)).toNat]? = some x := by
  have hm : memMax = 68719476736 := rfl
  have e : wr (((p ++ [x]).length : Int) - 1) = (p.length : Int) := by
    rw [show (((p ++ [x]).length : Int) - 1) = (p.length : Int) by simp]
    exact wr_small (by omega) (by omega)
  rw [e]
  exact ⟨idx_mid p x [] _ rfl, by simp⟩

theorem brun_fin (b : Bas) (L : List Cnd) (v0 v : List Int) (s : List Psg) (hs : s.length ≤ memMax) (hall : ∀ x ∈ s, x.2.2.1.isNone = false) :
    zu_f0 b L L b L b L b L b L b L b b v0 L b 0 b v0 L L b v s = some (s, 0, ()) := by
  unfold zu_f0
  rcases List.eq_nil_or_concat s with rfl | ⟨p, x, rfl⟩
  · rfl
  · rw [List.concat_eq_append] at *
    obtain ⟨e1, e2⟩ := idx_last p x (by simp at hs; omega)
    rw [bifT (dec_true (show ((p ++ [x]).length : Int) > 0 by simp))]
    unfold wr at e1 e2
    rw [e1]
    simp only [Option.bind_some]
    rw [e2]
    simp only [Option.bind_some]
    rw [bifF (hall x (by simp))]

theorem brun_loop (b : Bas) (hb : BasOK b) (L : List Cnd) (v0 : List Int) : ∀ (l : List Cnd) (i : Int) (v : List Int) (s : List Psg), v.length = b.1.length → (∀ c ∈ l, c.2.2.1.length = b.1.length) → s.length + l.length ≤ memMax → (∀ x ∈ s, x.2.2.1.isNone = false) →
    loopL (fun i__ e__ (s__ : List Int × List Psg) => zu_b0 b L L b L b L b L b L b L b b v0 L b 0 b v0 L L b i__ e__ s__.1 s__.2) (fun s__ => zu_f0 b L L b L b L b L b L b L b b v0 L b 0 b v0 L L b s__.1 s__.2) i l (v, s) =
      some (match runD b v l with | some ps => (s ++ ps.map psg, 0, ()) | none => ([], 4, ()))
  | [], i, v, s, hv, hl, hs, hall => by
    rw [loopL_nil, brun_fin b L v0 v s (by simpa using hs) hall]
    simp [runD]
  | c :: l, i, v, s, hv, hl, hs, hall => by
    simp only [List.length_cons] at hs
    rcases stepD_both b hb v c hv (hl c (by simp)) with ⟨f, o, h1, h2, h3, h4, h5⟩ | ⟨h1, h2, f, o, h3⟩
    · have hbody : zu_b0 b L L b L b L b L b L b L b b v0 L b 0 b v0 L L b i c v s = some (Sum.inr (o, s ++ [((c, f, some o, ()) : Psg)])) := by
        unfold zu_b0
        rw [show (c.fst, c.snd.fst, c.snd.snd.fst, ()) = c from rfl, h3]
        simp only [Option.bind_some, Bool.not_true, cond_false]
        rw [bifT (dec_true (show s.length + 1 ≤ memMax by omega))]
        rfl
      rw [loopL_cons]
      show (Option.bind (zu_b0 b L L b L b L b L b L b L b b v0 L b 0 b v0 L L b i c v s) _) = _
      rw [hbody, runD_cons_some h1]
      simp only [Option.bind_some]
      rw [brun_loop b hb L v0 l (i + 1) o _ h4 (fun c hc => hl c (by simp [hc])) (by simp; omega) (by
        intro x hx
        rcases List.mem_append.1 hx with hx | hx
        · exact hall x hx
        · simp at hx; subst hx; rfl)]
      cases runD b o l with
      | none => rfl
      | some ps => simp [psg]
    · have hbody : zu_b0 b L L b L b L b L b L b L b b v0 L b 0 b v0 L L b i c v s = some (Sum.inl ([], 4, ())) := by
        unfold zu_b0
        rw [show (c.fst, c.snd.fst, c.snd.snd.fst, ()) = c from rfl, h3]
        simp only [Option.bind_some, Bool.not_false, cond_true]
        rw [bifT (dec_true (show s.length + 1 ≤ memMax by omega))]
        obtain ⟨e1, e2⟩ := idx_last s ((c, f, none, ()) : Psg) (by omega)
        rw [bifT (dec_true (show ((s ++ [((c, f, none, ()) : Psg)]).length : Int) > 0 by simp))]
        unfold wr at e1 e2
        rw [e1]
        simp only [Option.bind_some]
        rw [e2]
        rfl
      rw [loopL_cons]
      show (Option.bind (zu_b0 b L L b L b L b L b L b L b b v0 L b 0 b v0 L L b i c v s) _) = _
      rw [hbody, runD_cons_none h1]
      rfl

theorem brun_eq (b : Bas) (hb : BasOK b) (v : List Int) (l : List Cnd) (hv : v.length = b.1.length) (hl : ∀ c ∈ l, c.2.2.1.length = b.1.length) (hn : l.length ≤ memMax) :
    zu_M b v l = some (match runD b v l with | some ps => (ps.map psg, 0, ()) | none => ([], 4, ())) := by
  have := memMax_lt
  unfold zu_M
  rw [bifT (dec_true (show l.length < lenMax by omega)), brun_loop b hb l v l 0 v [] hv hl (by simpa using hn) (by simp)]
  rfl

/-! ### The errors of a run's arguments -/
def ckConds (b : Bas) (l : List Cnd) : Int := firstE (l.map (ckCond b))
def ckRun (b : Bas) (v : List Int) (l : List Cnd) : Int := firstOf (ckCV b v) (firstOf (bif decide ((l.length : Int) > 96) then 5 else 0) (ckConds b l))

theorem mapCond_eq (l : List Cnd) (of : Cnd × Unit → Option (Int × Unit)) (g : Cnd → Int) (h : ∀ e ∈ l, of (e, ()) = some (g e, ())) (hl : l.length ≤ memMax) : z7_M l of = some (l.map g, ()) := by
  have hm := memMax_lt
  unfold z7_M
  rw [bifT (dec_true (show l.length < lenMax by omega)), loopL_app g l 0 [] (by simpa using hl) (fun i e s he hs => by
    unfold z7_b0
    rw [h e he]
    simp only [Option.bind_some]
    rw [bifT (dec_true hs)])]
  rfl

theorem bchecked_eq (b : Bas) (v : List Int) (l : List Cnd) (hn : ∀ n ∈ b.1, n.1.length < lenMax) (hv : v.length ≤ memMax) (hl : l.length ≤ memMax) (hc : ∀ c ∈ l, c.2.2.1.length ≤ memMax) :
    z06_M b v l = bif ckRun b v l != 0 then some ([], ckRun b v l, ()) else zu_M b v l := by
  have hm := memMax_lt
  unfold z06_M z06_m ckRun ckConds
  rw [bcv_eq b v hn hv, mapCond_eq l _ (ckCond b) (fun e he => bcond_eq b e (hc e he)) hl]
  simp only [Option.bind_some, when_eq]
  rw [bfirst_eq _ (by simp; omega)]
  simp only [Option.bind_some]
  rw [bfirst_eq _ (by simp [lenMax])]
  simp only [Option.bind_some, firstE_cons, firstE_nil, firstOf_zero]
  cases (firstOf (ckCV b v) (firstOf (bif decide ((l.length : Int) > 96) then 5 else 0) (firstE (l.map (ckCond b)))) != 0) with
  | true => rfl
  | false =>
    simp only [cond_false]
    cases zu_M b v l with
    | none => rfl
    | some y => rfl

theorem ckCond_zero {b : Bas} {c : Cnd} (h : ckCond b c = 0) : (-1024 ≤ c.1 ∧ c.1 ≤ 1024) ∧ c.2.2.1.length = b.1.length ∧ ∀ x ∈ c.2.2.1, 0 ≤ x ∧ x ≤ 100000 := by
  obtain ⟨h1, h2⟩ := firstOf_eq0 h
  obtain ⟨h3, h4⟩ := firstOf_eq0 h2
  refine ⟨ckR_zero h1, ?_, fun x hx => ckR_zero (firstE_zero h4 _ (List.mem_map.2 ⟨x, hx, rfl⟩))⟩
  cases he : ((c.2.2.1.length : Int) != (b.1.length : Int)) with
  | true => rw [he] at h3; cases h3
  | false => have h11 : (c.2.2.1.length : Int) = (b.1.length : Int) := by simpa using he
             omega

end Go.Tw
end

section
set_option linter.all false
set_option maxRecDepth 100000
namespace Go.Tw
open Go.Vx Go.Vx.B Go.Proofs

/-! ### What a step is -/
noncomputable def linksD (b : Bas) (c : Cnd) : List Lnk → List Int → List Int → Option (List Int × List Int)
  | [], fs, out => some (fs, out)
  | x :: l, fs, out => if fits8 (mv b c x out) = true then linksD b c l (fs ++ [fl b c x out]) (mv b c x out) else none

noncomputable def movedD (b : Bas) (v : List Int) (c : Cnd) : Option (List Int × List Int) :=
  if fits8 (inflow v c.2.2.1) = true then linksD b c b.2.1 [] (inflow v c.2.2.1) else none

theorem rlinks_D (b : Bas) (c : Cnd) (h8 : b.1.length ≤ 8) : ∀ (l : List Lnk) (i : Int) (fs out : List Int), (∀ x ∈ l, LinkOK x b.1.length) → out.length = b.1.length → fs.length + l.length ≤ memMax →
    rLoop b c i l (out, fs) = some (match linksD b c l fs out with | some (f, o) => (f, o, 0, ()) | none => ([], [], 4, ()))
  | [], i, fs, out, _, _, _ => rfl
  | x :: l, i, fs, out, hx, hN, hl => by
    simp only [List.length_cons] at hl
    have hL := hx x (by simp)
    unfold rLoop
    rw [loopL_cons, rlink_body b c i x hL h8 fs out hN (by omega)]
    simp only [Option.bind_some, linksD]
    by_cases hm : fits8 (mv b c x out) = true
    · rw [bifT hm, if_pos hm]
      exact rlinks_D b c h8 l (i + 1) (fs ++ [fl b c x out]) (mv b c x out) (fun y hy => hx y (by simp [hy])) (by rw [mv_length]; exact hN) (by simp; omega)
    · rw [bifF (by simpa using hm), if_neg hm]

theorem moved_D (b : Bas) (hb : BasOK b) (v : List Int) (c : Cnd) (hv : v.length = b.1.length) (hc : c.2.2.1.length = b.1.length) :
    z0f_M b v c = some (match movedD b v c with | some (f, o) => (f, o, 0, ()) | none => ([], [], 4, ())) := by
  have h8 := hb.nodes
  have hl := hb.links
  have hin : (inflow v c.2.2.1).length = b.1.length := by rw [inflow_length v _ (by omega)]; exact hv
  have hmem : memMax = 68719476736 := rfl
  have hr : z0f_M b v c = z0f_f0 b c (inflow v c.2.2.1) := by
    unfold z0f_M
    rw [bifT (dec_true (show 0 + v.length ≤ memMax by omega)), bifT (dec_true (show (v.length : Int) ≤ 9223372036854775807 by omega))]
    have := rin_loop b c v.length c.2.2.1 v [] [] 0 rfl rfl rfl (by omega) rfl
    rw [List.nil_append, List.nil_append] at this
    rw [show ((v.length : Int) - 0).toNat = v.length by omega]
    exact this
  rw [hr]
  unfold z0f_f0 movedD
  rw [tooMuch_eq _ (by rw [hin]; unfold lenMax; omega)]
  simp only [Option.bind_some]
  by_cases hf : fits8 (inflow v c.2.2.1) = true
  · rw [if_pos hf, hf]
    simp only [Bool.not_true, cond_false]
    rw [bifT (dec_true (show b.2.1.length < lenMax by unfold lenMax; omega))]
    exact rlinks_D b c h8 b.2.1 0 [] (inflow v c.2.2.1) hb.link hin (by simp; omega)
  · rw [if_neg hf, show fits8 (inflow v c.2.2.1) = false by simpa using hf]
    rfl

theorem stepD_eq (b : Bas) (hb : BasOK b) (v : List Int) (c : Cnd) (hv : v.length = b.1.length) (hc : c.2.2.1.length = b.1.length) : stepD b v c = movedD b v c := by
  unfold stepD
  rw [moved_D b hb v c hv hc]
  cases movedD b v c with
  | none => rfl
  | some y => rfl

theorem linksD_len {b : Bas} {c : Cnd} : ∀ {l : List Lnk} {fs out f o : List Int}, linksD b c l fs out = some (f, o) → f.length = fs.length + l.length ∧ o.length = out.length
  | [], fs, out, f, o, h => by simp only [linksD, Option.some.injEq, Prod.mk.injEq] at h; obtain ⟨rfl, rfl⟩ := h; simp
  | x :: l, fs, out, f, o, h => by
    simp only [linksD] at h
    split at h
    · obtain ⟨h1, h2⟩ := linksD_len h
      rw [mv_length] at h2
      simp at h1
      exact ⟨by simp; omega, h2⟩
    · cases h

theorem stepD_len {b : Bas} (hb : BasOK b) {v : List Int} {c : Cnd} (hv : v.length = b.1.length) (hc : c.2.2.1.length = b.1.length) {f o : List Int} (h : stepD b v c = some (f, o)) : f.length = b.2.1.length ∧ o.length = b.1.length := by
  rw [stepD_eq b hb v c hv hc] at h
  unfold movedD at h
  split at h
  · obtain ⟨h1, h2⟩ := linksD_len h
    rw [inflow_length v _ (by omega)] at h2
    exact ⟨by simpa using h1, by omega⟩
  · cases h

end Go.Tw
end

section
set_option linter.all false
set_option maxRecDepth 100000
namespace Go.Tw
open Go.Vx Go.Vx.B Go.Proofs

/-! ### Levels, in the program -/
theorem blevels_loop : ∀ (l : List Nod) (L : List Nod) (i : Int) (p v : List Int), i = (p.length : Int) → v.length = l.length → (∀ n ∈ l, n.2.1 ≠ 0) →
    loopL (fun i__ e__ s__ => zX_b0 L i__ e__ s__) (fun s__ => zX_f0 L s__) i l (p ++ v) = some (p ++ lvls v l, ())
  | [], L, i, p, [], hi, hv, hn => by rw [loopL_nil]; simp [zX_f0, lvls]
  | n :: l, L, i, p, x :: v, hi, hv, hn => by
    have hbody : zX_b0 L i n (p ++ x :: v) = some (.inr (p ++ wr (x.tdiv n.2.1) :: v)) := by
      unfold zX_b0
      rw [idx_mid p x v i hi, get_mid p x v i hi]
      simp only [Option.bind_some]
      have e5 : zm_M (n.1, n.2.1, n.2.2.1, ()) x = some (wr (x.tdiv n.2.1), ()) := by
        unfold zm_M zm_m
        rw [bifF (beq_eq_false_iff_ne.2 (hn n (by simp)))]
      rw [e5]
      simp only [Option.bind_some]
      rw [set_mid p x _ v i hi]
    rw [loopL_cons, hbody]
    simp only [Option.bind_some]
    have := blevels_loop l L (i + 1) (p ++ [wr (x.tdiv n.2.1)]) v (by simp [hi]) (by simpa using hv) (fun n hn' => hn n (by simp [hn']))
    rw [List.append_assoc] at this
    simp only [List.singleton_append] at this
    rw [this]
    simp [lvls]
  | [], L, i, p, _ :: _, hi, hv, hn => by simp at hv
  | _ :: _, L, i, p, [], hi, hv, hn => by simp at hv

theorem blevels_eq (b : Bas) (hb : BasOK b) (v : List Int) (hv : v.length = b.1.length) : zX_M b v = some (lvls v b.1, ()) := by
  have h8 := hb.nodes
  have hmem : memMax = 68719476736 := rfl
  unfold zX_M
  have e1 : (true && decide ((0 : Int) ≤ (v.length : Int)) && decide ((v.length : Int) ≤ (memMax : Int)) && (v.length : Int) == (v.length : Int)) = true := by
    rw [dec_true (show (0 : Int) ≤ (v.length : Int) by omega), dec_true (show (v.length : Int) ≤ (memMax : Int) by omega)]; simp
  rw [bifT e1, bifT (dec_true (show b.1.length < lenMax by unfold lenMax; omega))]
  have e2 : List.take (List.replicate (v.length : Int).toNat (0 : Int)).length v ++ List.drop v.length (List.replicate (v.length : Int).toNat (0 : Int)) = v := by simp
  rw [e2]
  exact blevels_loop b.1 b.1 0 [] v rfl hv (fun n hn => by have := (hb.area n hn).1; omega)

/-! ### Nodes above their limits -/
theorem above_loop (b : Bas) (T : List Int) : ∀ (l : List Int) (i : Int) (s : List Int), 0 ≤ i → i + l.length ≤ b.1.length → s.length + l.length ≤ memMax →
    ∃ r, loopL (fun i__ e__ s__ => zd_b1 b T i__ e__ s__) (fun s__ => zd_f1 b T s__) i l s = some (r, ()) ∧ r.length ≤ s.length + l.length
  | [], i, s, _, _, _ => ⟨s, rfl, by simp⟩
  | x :: l, i, s, h0, h1, h2 => by
    simp only [List.length_cons] at h1 h2
    have hi : i.toNat < b.1.length := by omega
    have e3 : idx b.1 i = some b.1[i.toNat] := by unfold idx; rw [if_pos h0]; exact List.getElem?_eq_getElem hi
    rw [loopL_cons]
    unfold zd_b1
    rw [e3]
    simp only [Option.bind_some]
    cases decide (x > b.1[i.toNat].2.2.1) with
    | true =>
      rw [cond_true, bifT (dec_true (show s.length + 1 ≤ memMax by omega))]
      simp only [Option.bind_some]
      obtain ⟨r, r1, r2⟩ := above_loop b T l (i + 1) (s ++ [i]) (by omega) (by omega) (by simp; omega)
      unfold zd_b1 at r1
      exact ⟨r, r1, by simp at r2 ⊢; omega⟩
    | false =>
      rw [cond_false]
      simp only [Option.bind_some]
      obtain ⟨r, r1, r2⟩ := above_loop b T l (i + 1) s (by omega) (by omega) (by omega)
      unfold zd_b1 at r1
      exact ⟨r, r1, by simp at r2 ⊢; omega⟩

theorem above_same (b : Bas) (hb : BasOK b) (v : List Int) (hv : v.length = b.1.length) : ∃ r, zd_M b v = some (r, ()) ∧ z0c_M b v = some (r, ()) ∧ r.length ≤ 8 := by
  have h8 := hb.nodes
  have hl := lvls_length v b.1 hv
  obtain ⟨r, r1, r2⟩ := above_loop b (lvls v b.1) (lvls v b.1) 0 [] (by omega) (by omega) (by simp [memMax]; omega)
  refine ⟨r, ?_, ?_, by simp at r2; omega⟩
  · unfold zd_M
    rw [blevels_eq b hb v hv]
    simp only [Option.bind_some]
    rw [bifT (dec_true (show (lvls v b.1).length < lenMax by unfold lenMax; omega))]
    exact r1
  · unfold z0c_M
    rw [rlevels_eq b hb v hv]
    simp only [Option.bind_some]
    rw [bifT (dec_true (show (lvls v b.1).length < lenMax by unfold lenMax; omega))]
    exact r1

/-! ### The volumes of passages -/
theorem volumes_eq (ps : List (Cnd × List Int × List Int)) (h : ps.length ≤ memMax) : z0B_M (ps.map psg) = some (ps.map (·.2.2), ()) := by
  have hm := memMax_lt
  unfold z0B_M z0B_m zC_M
  rw [bifT (dec_true (show (ps.map psg).length < lenMax by simp; omega)), loopL_app (fun p : Psg => p.2.2.1.getD []) (ps.map psg) 0 [] (by simpa using h) (fun i e s he hs => by
    unfold zC_b0
    simp only [Option.bind_some]
    rw [bifT (dec_true hs)]
    rfl)]
  show some (_, ()) = _
  congr 2
  simp [psg]

/-! ### The first node above its limit -/
theorem runD_outs {b : Bas} (hb : BasOK b) : ∀ {l : List Cnd} {v : List Int} {ps : List (Cnd × List Int × List Int)}, v.length = b.1.length → (∀ c ∈ l, c.2.2.1.length = b.1.length) → runD b v l = some ps →
    ps.length = l.length ∧ ∀ x ∈ ps, x.2.2.length = b.1.length ∧ x.2.1.length = b.2.1.length ∧ x.1 ∈ l
  | [], v, ps, hv, hl, h => by simp only [runD, Option.some.injEq] at h; subst h; simp
  | c :: l, v, ps, hv, hl, h => by
    simp only [runD] at h
    cases hs : stepD b v c with
    | none => rw [hs] at h; cases h
    | some y =>
      obtain ⟨f, o⟩ := y
      rw [hs] at h
      simp only [Option.map_eq_some_iff] at h
      obtain ⟨qs, h1, rfl⟩ := h
      obtain ⟨n1, n2⟩ := stepD_len hb hv (hl c (by simp)) hs
      obtain ⟨k1, k2⟩ := runD_outs hb n2 (fun c hc => hl c (by simp [hc])) h1
      refine ⟨by simp [k1], fun x hx => ?_⟩
      rcases List.mem_cons.1 hx with rfl | hx
      · exact ⟨n2, n1, by simp⟩
      · obtain ⟨m1, m2, m3⟩ := k2 x hx
        exact ⟨m1, m2, by simp [m3]⟩

def hitD (i : Int) : List Int → (Int × Int × Int × Unit) ⊕ Unit
  | [] => .inr ()
  | j :: _ => .inl (i, j, 0, ())

end Go.Tw
end

section
set_option linter.all false
set_option maxRecDepth 100000
namespace Go.Tw
open Go.Vx Go.Vx.B Go.Proofs

theorem max2 (f : Int) : (if f > (0 : Int) then f else (0 : Int)) = max 0 f := by split <;> omega

/-! ### Loops that only gather -/
/-! ### The balance -/
end Go.Tw
end

section
set_option linter.all false
set_option maxRecDepth 100000
namespace Go.Tw
open Go.Vx Go.Vx.B Go.Proofs

end Go.Tw
end
