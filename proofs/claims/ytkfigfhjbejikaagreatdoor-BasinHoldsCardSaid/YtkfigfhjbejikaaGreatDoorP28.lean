/- P28: numbers of an interval, conditions that a range permits, and what a run of them leaves. -/
import Derived.Test.YtkfigfhjbejikaaGreatDoorP20
import Derived.Test.YtkfigfhjbejikaaGreatDoorP18

set_option linter.all false
set_option maxRecDepth 100000
namespace Go.Tw
open Go.Vx Go.Vx.B Go.Proofs

/-! ### A number of an interval, by a share -/
theorem share16 {d m : Int} (hd : 0 ≤ d) (hm : 0 ≤ m) (hm2 : m ≤ 16) : 0 ≤ d * m / 16 ∧ d * m / 16 ≤ d ∧ 0 ≤ d * m ∧ d * m ≤ d * 16 := by
  have h1 : 0 ≤ d * m := Int.mul_nonneg hd hm
  have h2 : d * m ≤ d * 16 := Int.mul_le_mul_of_nonneg_left hm2 hd
  refine ⟨Int.ediv_nonneg h1 (by omega), ?_, h1, h2⟩
  generalize d * m = k at *
  omega

theorem tmod17 {s : Int} (h : 0 ≤ s) : 0 ≤ s.tmod 17 ∧ s.tmod 17 ≤ 16 := by
  rw [Int.tmod_eq_emod_of_nonneg h]; omega

theorem betw_in {x : Itv} {s : Int} (hx : x.1 ≤ x.2.1) (h1 : -1024 ≤ x.1) (h2 : x.2.1 ≤ 100000) (hs : 0 ≤ s) (hs2 : s ≤ 255) : ∃ n, z0C x s = (n, ()) ∧ x.1 ≤ n ∧ n ≤ x.2.1 := by
  refine ⟨_, rfl, ?_⟩
  obtain ⟨m1, m2⟩ := tmod17 hs
  obtain ⟨e1, e2, e3, e4⟩ := share16 (d := x.2.1 - x.1) (m := s.tmod 17) (by omega) m1 m2
  have key : wr (x.1 + wr ((wr (wr (x.2.1 - x.1) * (wr s).tmod 17)).tdiv 16)) = x.1 + (x.2.1 - x.1) * s.tmod 17 / 16 := by
    rw [wr_small (n := s) (by omega) (by omega), wr_small (n := x.2.1 - x.1) (by omega) (by omega), wr_small (n := (x.2.1 - x.1) * s.tmod 17) (by omega) (by omega), Int.tdiv_eq_ediv_of_nonneg e3,
      wr_small (n := (x.2.1 - x.1) * s.tmod 17 / 16) (by omega) (by omega), wr_small (by omega) (by omega)]
  show x.1 ≤ wr (x.1 + wr ((wr (wr (x.2.1 - x.1) * (wr s).tmod 17)).tdiv 16)) ∧ wr (x.1 + wr ((wr (wr (x.2.1 - x.1) * (wr s).tmod 17)).tdiv 16)) ≤ x.2.1
  rw [key]
  omega

/-! ### Numbers of intervals -/
def InI (x : Itv) (n : Int) : Prop := x.1 ≤ n ∧ n ≤ x.2.1
def InAll : List Itv → List Int → Prop
  | [], [] => True
  | x :: l, n :: q => InI x n ∧ InAll l q
  | _, _ => False

theorem InAll.len : ∀ {l : List Itv} {q : List Int}, InAll l q → q.length = l.length
  | [], [], _ => rfl
  | x :: l, n :: q, h => by simp [InAll.len h.2]
  | [], _ :: _, h => h.elim
  | _ :: _, [], h => h.elim

theorem InAll.app : ∀ {l : List Itv} {q : List Int} {x : Itv} {n : Int}, InAll l q → InI x n → InAll (l ++ [x]) (q ++ [n])
  | [], [], _, _, _, h => ⟨h, trivial⟩
  | _ :: l, _ :: q, _, _, h, h2 => ⟨h.1, InAll.app h.2 h2⟩
  | [], _ :: _, _, _, h, _ => h.elim
  | _ :: _, [], _, _, h, _ => h.elim

theorem InAll.le : ∀ {l : List Itv} {q : List Int}, InAll l q → ∀ i, gv (l.map (endI false)) i ≤ gv q i ∧ gv q i ≤ gv (l.map (endI true)) i
  | [], [], _, i => by simp [gv]
  | x :: l, n :: q, h, 0 => h.1
  | x :: l, n :: q, h, i + 1 => InAll.le h.2 i
  | [], _ :: _, h, _ => h.elim
  | _ :: _, [], h, _ => h.elim

theorem InAll.mem : ∀ {l : List Itv} {q : List Int}, InAll l q → ∀ n ∈ q, ∃ x ∈ l, InI x n
  | [], [], _, n, hn => by simp at hn
  | x :: l, m :: q, h, n, hn => by
    rcases List.mem_cons.1 hn with rfl | hn
    · exact ⟨x, by simp, h.1⟩
    · obtain ⟨y, hy, hi⟩ := InAll.mem h.2 n hn
      exact ⟨y, by simp [hy], hi⟩
  | [], _ :: _, h, _, _ => h.elim
  | _ :: _, [], h, _, _ => h.elim

theorem InAll.corn (up : Bool) : ∀ {l : List Itv}, (∀ x ∈ l, x.1 ≤ x.2.1) → InAll l (l.map (endI up))
  | [], _ => trivial
  | x :: l, h => ⟨by have := h x (by simp); cases up <;> (unfold InI endI; simp; omega), InAll.corn up fun y hy => h y (by simp [hy])⟩

theorem InAll.allIn : ∀ {l : List Itv} {q : List Int}, InAll l q → Go.Tw.allIn q l = true
  | [], [], _ => rfl
  | x :: l, n :: q, h => by
    unfold Go.Tw.allIn inI
    rw [dec_true h.1.1, dec_true h.1.2, InAll.allIn h.2]
    rfl
  | [], _ :: _, h => h.elim
  | _ :: _, [], h => h.elim

/-! ### Ranges that are good, conditions within them -/
structure RngOK (b : Bas) (r : Rng) : Prop where
  tide : -1024 ≤ r.1.1 ∧ r.1.1 ≤ r.1.2.1 ∧ r.1.2.1 ≤ 1024
  len : r.2.2.1.length = b.1.length
  flow : ∀ x ∈ r.2.2.1, 0 ≤ x.1 ∧ x.1 ≤ x.2.1 ∧ x.2.1 ≤ 100000

theorem ckIv_zero {x : Itv} {lo hi : Int} (h : ckIv x lo hi = 0) : lo ≤ x.1 ∧ x.1 ≤ x.2.1 ∧ x.2.1 ≤ hi := by
  obtain ⟨h1, h2⟩ := firstOf_eq0 h
  obtain ⟨h3, h4⟩ := firstOf_eq0 h2
  have g1 := ckR_zero h1
  have g2 := ckR_zero h3
  by_cases hh : x.1 > x.2.1
  · rw [dec_true hh] at h4; cases h4
  · omega

theorem rngOK_of {b : Bas} {r : Rng} (h : ckRng b r = 0) : RngOK b r := by
  obtain ⟨h1, h2⟩ := firstOf_eq0 h
  obtain ⟨_, h3⟩ := firstOf_eq0 h2
  exact ⟨ckIv_zero h1, ckRng_zero h, fun x hx => ckIv_zero (firstE_zero h3 _ (List.mem_map.2 ⟨x, hx, rfl⟩))⟩

theorem ckRngs_zero {b : Bas} {l : List Rng} (h : ckRngs b l = 0) : ∀ r ∈ l, ckRng b r = 0 := by
  obtain ⟨_, h2⟩ := firstOf_eq0 h
  exact fun r hr => firstE_zero h2 _ (List.mem_map.2 ⟨r, hr, rfl⟩)

theorem ckR_ok {n lo hi : Int} (h1 : lo ≤ n) (h2 : n ≤ hi) : ckR n lo hi = 0 := by unfold ckR; rw [if_neg (by omega)]
theorem firstE_all0 : ∀ {l : List Int}, (∀ e ∈ l, e = 0) → firstE l = 0
  | [], _ => rfl
  | a :: l, h => by rw [firstE_cons, h a (by simp), firstE_all0 (fun e he => h e (by simp [he]))]; rfl
theorem ckCond_of {b : Bas} {c : Cnd} (ht : -1024 ≤ c.1 ∧ c.1 ≤ 1024) (hl : c.2.2.1.length = b.1.length) (hf : ∀ x ∈ c.2.2.1, 0 ≤ x ∧ x ≤ 100000) : ckCond b c = 0 := by
  unfold ckCond
  rw [ckR_ok ht.1 ht.2, hl, firstE_all0 (by intro e he; obtain ⟨x, hx, rfl⟩ := List.mem_map.1 he; exact ckR_ok (hf x hx).1 (hf x hx).2)]
  simp [firstOf]

structure InR (r : Rng) (c : Cnd) : Prop where
  tide : InI r.1 c.1
  opn : c.2.1 = r.2.1
  flow : InAll r.2.2.1 c.2.2.1

theorem InR.ok {b : Bas} {r : Rng} {c : Cnd} (h : InR r c) (hr : RngOK b r) : ckCond b c = 0 := by
  have h1 := h.tide
  have h2 := hr.tide
  unfold InI at h1
  refine ckCond_of (by omega) (by rw [h.flow.len, hr.len]) fun n hn => ?_
  obtain ⟨x, hx, hi⟩ := h.flow.mem n hn
  have := hr.flow x hx
  unfold InI at hi
  omega

theorem InR.corn {b : Bas} {r : Rng} (hr : RngOK b r) (up : Bool) : InR r (cornR up r) :=
  ⟨by have := hr.tide; cases up <;> (unfold InI cornR endI; simp; omega), rfl, InAll.corn up fun x hx => (hr.flow x hx).2.1⟩

theorem InR.permits {r : Rng} {c : Cnd} (h : InR r c) : permits r c = true := by
  unfold Go.Tw.permits inI
  rw [h.opn, h.flow.allIn, dec_true h.tide.1, dec_true h.tide.2]
  simp

theorem beyond_not {r : Rng} {c : Cnd} : permits r (r.1.2.1 + 1, c.2.1, c.2.2.1, ()) = false := by
  unfold Go.Tw.permits inI
  rw [dec_false (show ¬ (r.1.2.1 + 1, c.2.1, c.2.2.1, ()).1 ≤ r.1.2.1 by show ¬ r.1.2.1 + 1 ≤ r.1.2.1; omega)]
  simp

theorem beyond_ck {b : Bas} {r : Rng} {c : Cnd} (h : InR r c) (hr : RngOK b r) : ckCond b (r.1.2.1 + 1, c.2.1, c.2.2.1, ()) = 0 ∨ ckCond b (r.1.2.1 + 1, c.2.1, c.2.2.1, ()) = 3 := by
  have h2 := hr.tide
  by_cases hh : r.1.2.1 + 1 ≤ 1024
  · refine .inl (ckCond_of (by show -1024 ≤ r.1.2.1 + 1 ∧ r.1.2.1 + 1 ≤ 1024; omega) (by show c.2.2.1.length = _; rw [h.flow.len, hr.len]) fun n hn => ?_)
    obtain ⟨x, hx, hi⟩ := h.flow.mem n hn
    have := hr.flow x hx
    unfold InI at hi
    omega
  · refine .inr ?_
    unfold ckCond
    have : ckR ((r.1.2.1 + 1, c.2.1, c.2.2.1, ()) : Cnd).1 (-1024) 1024 = 3 := by
      show ckR (r.1.2.1 + 1) (-1024) 1024 = 3
      unfold ckR
      rw [if_pos (by omega)]
    rw [this]
    rfl

def InRs : List Rng → List Cnd → Prop
  | [], [] => True
  | r :: l, c :: q => InR r c ∧ InRs l q
  | _, _ => False

theorem InRs.len : ∀ {l : List Rng} {q : List Cnd}, InRs l q → q.length = l.length
  | [], [], _ => rfl
  | x :: l, n :: q, h => by simp [InRs.len h.2]
  | [], _ :: _, h => h.elim
  | _ :: _, [], h => h.elim

theorem InRs.corn {b : Bas} (up : Bool) : ∀ {l : List Rng}, (∀ r ∈ l, RngOK b r) → InRs l (l.map (cornR up))
  | [], _ => trivial
  | r :: l, h => ⟨InR.corn (h r (by simp)) up, InRs.corn up fun y hy => h y (by simp [hy])⟩

theorem InRs.ok {b : Bas} : ∀ {l : List Rng} {q : List Cnd}, InRs l q → (∀ r ∈ l, RngOK b r) → ∀ c ∈ q, ckCond b c = 0
  | [], [], _, _, c, hc => by simp at hc
  | r :: l, d :: q, h, hr, c, hc => by
    rcases List.mem_cons.1 hc with rfl | hc
    · exact h.1.ok (hr r (by simp))
    · exact InRs.ok h.2 (fun r h => hr r (by simp [h])) c hc
  | [], _ :: _, h, _, _, _ => h.elim
  | _ :: _, [], h, _, _, _ => h.elim

theorem InRs.le : ∀ {l : List Rng} {q : List Cnd}, InRs l q → CondsLe (l.map (cornR false)) q ∧ CondsLe q (l.map (cornR true))
  | [], [], _ => ⟨trivial, trivial⟩
  | r :: l, c :: q, h => ⟨⟨⟨h.1.tide.1, h.1.opn.symm, fun i => (h.1.flow.le i).1⟩, (InRs.le h.2).1⟩, ⟨⟨h.1.tide.2, h.1.opn, fun i => (h.1.flow.le i).2⟩, (InRs.le h.2).2⟩⟩
  | [], _ :: _, h => h.elim
  | _ :: _, [], h => h.elim

/-! ### Volumes of intervals -/
structure VolsOK (b : Bas) (v : List Itv) (m : List Int) : Prop where
  len : v.length = b.1.length
  inn : InAll v m
  rng : ∀ x ∈ v, 0 ≤ x.1 ∧ x.1 ≤ x.2.1 ∧ x.2.1 ≤ 100000000

theorem VolsOK.fit {b : Bas} {v : List Itv} {m : List Int} (h : VolsOK b v m) : Fit b.1.length m :=
  fit_of (by rw [h.inn.len, h.len]) fun n hn => by
    obtain ⟨x, hx, hi⟩ := h.inn.mem n hn
    have := h.rng x hx
    unfold InI at hi
    omega

theorem VolsOK.corn {b : Bas} {v : List Itv} {m : List Int} (h : VolsOK b v m) (up : Bool) : VolsOK b v (v.map (endI up)) :=
  ⟨h.len, InAll.corn up fun x hx => (h.rng x hx).2.1, h.rng⟩

theorem VolsOK.ck {b : Bas} {v : List Itv} {m : List Int} (h : VolsOK b v m) : ckIvs v b.1.length 100000000 = 0 := by
  unfold ckIvs
  rw [h.len, firstE_all0 (by
    intro e he
    obtain ⟨x, hx, rfl⟩ := List.mem_map.1 he
    obtain ⟨h1, h2, h3⟩ := h.rng x hx
    unfold ckIv
    rw [ckR_ok h1 (by omega), ckR_ok (by omega) h3, dec_false (show ¬ x.1 > x.2.1 by omega)]
    rfl)]
  simp [firstOf]

/-! ### A run of what lies between -/
theorem run_between {b : Bas} (hk0 : ckBasin b = 0) {v : List Itv} {m : List Int} {l : List Rng} {q : List Cnd} (hv : VolsOK b v m) (hr : ∀ r ∈ l, RngOK b r) (hq : InRs l q) {hp : List (Cnd × List Int × List Int)}
    (hh : runD b (v.map (endI true)) (l.map (cornR true)) = some hp) : ∃ ps, runD b m q = some ps ∧ RowsLe ps hp :=
  runD_mono (ckBasin_zero hk0) (ckBasin_ends hk0) hv.fit (hv.corn true).fit (fun c hc => condOK_of (hq.ok hr c hc)) (fun c hc => condOK_of ((InRs.corn (b := b) true hr).ok hr c hc)) (fun i => (hv.inn.le i).2) hq.le.2 hh

theorem run_above {b : Bas} (hk0 : ckBasin b = 0) {v : List Itv} {m : List Int} {l : List Rng} {q : List Cnd} (hv : VolsOK b v m) (hr : ∀ r ∈ l, RngOK b r) (hq : InRs l q) {ps : List (Cnd × List Int × List Int)}
    (hh : runD b m q = some ps) : ∃ lp, runD b (v.map (endI false)) (l.map (cornR false)) = some lp ∧ RowsLe lp ps :=
  runD_mono (ckBasin_zero hk0) (ckBasin_ends hk0) (hv.corn false).fit hv.fit (fun c hc => condOK_of ((InRs.corn (b := b) false hr).ok hr c hc)) (fun c hc => condOK_of (hq.ok hr c hc)) (fun i => (hv.inn.le i).1) hq.le.1 hh

/-! ### A node above its limit stays so with more water -/
def overL : List Int → List Nod → Bool
  | x :: l, n :: nl => decide (x > n.2.2.1) || overL l nl
  | _, _ => false

theorem above_any (b : Bas) (T : List Int) : ∀ (l : List Int) (pn nl : List Nod) (i : Int) (s : List Int), b.1 = pn ++ nl → i = (pn.length : Int) → l.length = nl.length → s.length + l.length ≤ memMax →
    ∃ r, loopL (fun i__ e__ s__ => zd_b1 b T i__ e__ s__) (fun s__ => zd_f1 b T s__) i l s = some (r, ()) ∧ decide ((r.length : Int) > 0) = (decide ((s.length : Int) > 0) || overL l nl)
  | [], pn, [], i, s, _, _, _, _ => ⟨s, rfl, by simp [overL]⟩
  | x :: l, pn, n :: nl, i, s, hb, hi, hl, hs => by
    simp only [List.length_cons] at hl hs
    have hbody : zd_b1 b T i x s = some (.inr (if x > n.2.2.1 then s ++ [i] else s)) := by
      unfold zd_b1
      rw [hb, idx_mid pn n nl i hi]
      simp only [Option.bind_some]
      by_cases hx : x > n.2.2.1
      · rw [dec_true hx, cond_true, bifT (dec_true (show s.length + 1 ≤ memMax by omega)), if_pos hx]
      · rw [dec_false hx, cond_false, if_neg hx]
    rw [loopL_cons, hbody]
    simp only [Option.bind_some]
    obtain ⟨r, r1, r2⟩ := above_any b T l (pn ++ [n]) nl (i + 1) (if x > n.2.2.1 then s ++ [i] else s) (by rw [hb]; simp) (by simp [hi]) (by omega) (by split <;> (try simp) <;> omega)
    refine ⟨r, r1, ?_⟩
    rw [r2, show overL (x :: l) (n :: nl) = (decide (x > n.2.2.1) || overL l nl) from rfl]
    by_cases hx : x > n.2.2.1
    · rw [if_pos hx, dec_true hx, dec_true (show (((s ++ [i]).length : Nat) : Int) > 0 by simp)]; simp
    · rw [if_neg hx, dec_false hx]; simp
  | [], _, _ :: _, _, _, _, _, h, _ => by simp at h
  | _ :: _, _, [], _, _, _, _, h, _ => by simp at h

theorem wet_eq {b : Bas} (hb : BasOK b) {w : List Int} (hw : w.length = b.1.length) : wet b w = overL (lvls w b.1) b.1 := by
  have h8 := hb.nodes
  have hl := lvls_length w b.1 hw
  obtain ⟨r, r1, r2⟩ := above_any b (lvls w b.1) (lvls w b.1) [] b.1 0 [] rfl rfl (by omega) (by simp [memMax]; omega)
  have e : z0c_M b w = some (r, ()) := by
    unfold z0c_M
    rw [rlevels_eq b hb w hw]
    simp only [Option.bind_some]
    rw [bifT (dec_true (show (lvls w b.1).length < lenMax by unfold lenMax; omega))]
    exact r1
  unfold wet
  rw [e]
  simpa using r2

theorem over_mono : ∀ (nl : List Nod) (u w : List Int), u.length = nl.length → w.length = nl.length → (∀ n ∈ nl, 1 ≤ n.2.1 ∧ n.2.1 ≤ 1000) → (∀ i, 0 ≤ gv u i ∧ gv u i ≤ 100000000) → (∀ i, 0 ≤ gv w i ∧ gv w i ≤ 100000000) → Le u w →
    overL (lvls u nl) nl = true → overL (lvls w nl) nl = true
  | [], [], [], _, _, _, _, _, _, h => h
  | n :: nl, x :: u, y :: w, hu, hw, ha, fu, fw, hle, h => by
    unfold lvls overL at h ⊢
    have a := ha n (by simp)
    have x0 : 0 ≤ x ∧ x ≤ 100000000 := fu 0
    have y0 : 0 ≤ y ∧ y ≤ 100000000 := fw 0
    have xy : x ≤ y := hle 0
    have ex : wr (x.tdiv n.2.1) = x / n.2.1 := by
      have q1 := Int.ediv_nonneg x0.1 (show 0 ≤ n.2.1 by omega)
      have q2 := Int.ediv_le_self n.2.1 x0.1
      rw [Int.tdiv_eq_ediv_of_nonneg x0.1, wr_small (by omega) (by omega)]
    have ey : wr (y.tdiv n.2.1) = y / n.2.1 := by
      have q1 := Int.ediv_nonneg y0.1 (show 0 ≤ n.2.1 by omega)
      have q2 := Int.ediv_le_self n.2.1 y0.1
      rw [Int.tdiv_eq_ediv_of_nonneg y0.1, wr_small (by omega) (by omega)]
    have hd := div_mono a.1 xy
    rw [ex] at h
    rw [ey]
    rcases Bool.or_eq_true_iff.1 h with h | h
    · rw [dec_true (show y / n.2.1 > n.2.2.1 by have := of_decide_eq_true h; omega)]; rfl
    · rw [over_mono nl u w (by simpa using hu) (by simpa using hw) (fun m hm => ha m (by simp [hm])) (fun i => fu (i + 1)) (fun i => fw (i + 1)) (fun i => hle (i + 1)) h, Bool.or_true]
  | [], _ :: _, _, h, _, _, _, _, _, _ => by simp at h
  | [], [], _ :: _, _, h, _, _, _, _, _ => by simp at h
  | _ :: _, [], _, h, _, _, _, _, _, _ => by simp at h
  | _ :: _, _ :: _, [], _, h, _, _, _, _, _ => by simp at h

theorem wet_mono {b : Bas} (hb : BasOK b) {u w : List Int} (hu : Fit b.1.length u) (hw : Fit b.1.length w) (hle : Le u w) (h : wet b u = true) : wet b w = true := by
  rw [wet_eq hb hu.1] at h
  rw [wet_eq hb hw.1]
  exact over_mono b.1 u w hu.1 hw.1 hb.area hu.2 hw.2 hle h

theorem wets_mono {b : Bas} (hb : BasOK b) : ∀ (ps hp : List (Cnd × List Int × List Int)), (∀ x ∈ ps, Fit b.1.length x.2.2) → (∀ x ∈ hp, Fit b.1.length x.2.2) → RowsLe ps hp → (ps.any fun x => wet b x.2.2) = true → (hp.any fun x => wet b x.2.2) = true
  | [], [], _, _, _, h => h
  | x :: ps, y :: hp, h1, h2, hle, h => by
    rw [List.any_cons] at h ⊢
    rcases Bool.or_eq_true_iff.1 h with h | h
    · rw [wet_mono hb (h1 x (by simp)) (h2 y (by simp)) hle.1 h, Bool.true_or]
    · rw [wets_mono hb ps hp (fun z hz => h1 z (by simp [hz])) (fun z hz => h2 z (by simp [hz])) hle.2 h, Bool.or_true]
  | [], _ :: _, _, _, h, _ => h.elim
  | _ :: _, [], _, _, h, _ => h.elim

theorem RowsLe.len : ∀ {ps hp : List (Cnd × List Int × List Int)}, RowsLe ps hp → ps.length = hp.length
  | [], [], _ => rfl
  | x :: p, y :: q, h => by simp [RowsLe.len h.2]
  | [], _ :: _, h => h.elim
  | _ :: _, [], h => h.elim

theorem RowsLe.at : ∀ {ps hp : List (Cnd × List Int × List Int)}, RowsLe ps hp → ∀ (i : Nat) x y, ps[i]? = some x → hp[i]? = some y → Le x.2.2 y.2.2
  | [], [], _, i, x, y, h, _ => by simp at h
  | a :: p, c :: q, h, 0, x, y, h1, h2 => by cases h1; cases h2; exact h.1
  | a :: p, c :: q, h, i + 1, x, y, h1, h2 => RowsLe.at h.2 i x y (by simpa using h1) (by simpa using h2)
  | [], _ :: _, h, _, _, _, _, _ => h.elim
  | _ :: _, [], h, _, _, _, _, _ => h.elim

/-! ### The program's answers about a run -/
theorem ckRun_all {b : Bas} {v : List Int} {l : List Cnd} (hb : ckBasin b = 0) (hv : Fit b.1.length v) (hl : l.length ≤ 96) (hc : ∀ c ∈ l, ckCond b c = 0) : ckRun b v l = 0 := by
  unfold ckRun ckCV ckVols ckConds
  rw [hb, hv.1, firstE_all0 (by intro e he; obtain ⟨x, hx, rfl⟩ := List.mem_map.1 he; exact ckR_ok (fit_mem hv x hx).1 (fit_mem hv x hx).2), dec_false (show ¬ (l.length : Int) > 96 by omega),
    firstE_all0 (by intro e he; obtain ⟨x, hx, rfl⟩ := List.mem_map.1 he; exact hc x hx)]
  simp [firstOf]

theorem bRunM (b : Bas) (v : List Int) (l : List Cnd) (hk0 : ckBasin b = 0) (hn : ∀ n ∈ b.1, n.1.length < lenMax) (hv : Fit b.1.length v) (hl : l.length ≤ 96) (hc : ∀ c ∈ l, ckCond b c = 0) :
    z0p_M b v l = some (match runD b v l with | some ps => (ps.map (·.2.2), 0, ()) | none => ([], 4, ())) := by
  have hb := ckBasin_zero hk0
  have h8 := hb.nodes
  have hvl := hv.1
  have hmem : memMax = 68719476736 := rfl
  have hcl : ∀ c ∈ l, c.2.2.1.length = b.1.length := fun c h => (condOK_of (hc c h)).len
  have h0 := ckRun_all hk0 hv hl hc
  unfold z0p_M z0p_m
  rw [bchecked_eq b v l hn (by omega) (by omega) (fun c hc' => by have := hcl c hc'; omega), bifF (by simpa using h0), brun_eq b hb v l hvl hcl (by omega)]
  cases hr : runD b v l with
  | none =>
    simp only [Option.bind_some]
    have := volumes_eq [] (by simp)
    simp only [List.map_nil] at this
    rw [this]
    rfl
  | some ps =>
    obtain ⟨k1, k2⟩ := runD_outs hb hvl hcl hr
    simp only [Option.bind_some]
    rw [volumes_eq ps (by omega)]
    rfl

theorem bfirst_loop (b : Bas) (hb : BasOK b) (T : List Psg) : ∀ (ps : List (Cnd × List Int × List Int)) (i : Int), (∀ x ∈ ps, x.2.2.length = b.1.length) →
    ∃ y1 y2, loopL (fun i__ e__ s__ => z0R_b1 b 0 0 false T i__ e__) (fun s__ => z0R_f1 b 0 0 false T) i (ps.map psg) () = some (y1, y2, (bif ps.any fun x => wet b x.2.2 then 0 else 7), ())
  | [], i, _ => ⟨_, _, rfl⟩
  | x :: ps, i, h => by
    obtain ⟨r, r1, r2, r3⟩ := above_same b hb x.2.2 (h x (by simp))
    have hw : wet b x.2.2 = decide ((r.length : Int) > 0) := by unfold wet; rw [r2]
    simp only [List.map_cons, List.any_cons]
    rw [loopL_cons]
    have e1 : z0R_b1 b 0 0 false T i (psg x) = some (hitD i r) := by
      unfold z0R_b1
      rw [show (psg x).snd.snd.fst.getD [] = x.2.2 from rfl, r1]
      simp only [Option.bind_some]
      rw [bifT (dec_true (show r.length < lenMax by unfold lenMax; omega))]
      cases r with
      | nil => rfl
      | cons j r => rfl
    rw [e1, hw]
    cases r with
    | nil => exact bfirst_loop b hb T ps (i + 1) (fun y hy => h y (by simp [hy]))
    | cons j r => exact ⟨i, j, by rw [dec_true (show ((j :: r).length : Int) > 0 by simp)]; rfl⟩

theorem bFirstM (b : Bas) (v : List Int) (l : List Cnd) (hk0 : ckBasin b = 0) (hn : ∀ n ∈ b.1, n.1.length < lenMax) (hv : Fit b.1.length v) (hl : l.length ≤ 96) (hc : ∀ c ∈ l, ckCond b c = 0) {ps : List (Cnd × List Int × List Int)} (hr : runD b v l = some ps) :
    ∃ y1 y2, z0R_M b v l = some (y1, y2, (bif ps.any fun x => wet b x.2.2 then 0 else 7), ()) := by
  have hb := ckBasin_zero hk0
  have h8 := hb.nodes
  have hvl := hv.1
  have hmem : memMax = 68719476736 := rfl
  have hcl : ∀ c ∈ l, c.2.2.1.length = b.1.length := fun c h => (condOK_of (hc c h)).len
  have h0 := ckRun_all hk0 hv hl hc
  obtain ⟨k1, k2⟩ := runD_outs hb hvl hcl hr
  obtain ⟨y1, y2, hy⟩ := bfirst_loop b hb (ps.map psg) ps 0 (fun x hx => (k2 x hx).1)
  refine ⟨y1, y2, ?_⟩
  unfold z0R_M
  rw [bchecked_eq b v l hn (by omega) (by omega) (fun c hc' => by have := hcl c hc'; omega), bifF (by simpa using h0), brun_eq b hb v l hvl hcl (by omega), hr]
  simp only [Option.bind_some]
  rw [bifF (show ((0 : Int) != 0) = false from rfl), bifT (dec_true (show (ps.map psg).length < lenMax by simp [lenMax]; omega))]
  exact hy
end Go.Tw
