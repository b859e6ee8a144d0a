/- P19: enclosures and whether a basin is safe: the program's and the reference's are the same. -/
import Derived.Test.YtkfigfhjbejikaaGreatDoorPC

set_option linter.all false
set_option maxRecDepth 100000
namespace Go.Tw
open Go.Vx Go.Vx.B Go.Proofs

/-! ### The errors of what is enclosed -/
def ckEnc (b : Bas) (v : List Itv) (l : List Rng) : Int := firstOf (ckBasin b) (firstOf (ckIvs v b.1.length 100000000) (ckRngs b l))

theorem bEnc_eq (b : Bas) (v : List Itv) (l : List Rng) (hn : ∀ n ∈ b.1, n.1.length < lenMax) (hv : v.length ≤ memMax) (hl : l.length ≤ memMax) (hr : ∀ r ∈ l, r.2.2.1.length ≤ memMax) : zR_M b v l = some (ckEnc b v l, ()) := by
  have hm := memMax_lt
  have e0 : ckEnc b v l = bif ckBasin b != 0 then ckBasin b else firstOf (ckIvs v b.1.length 100000000) (ckRngs b l) := by
    unfold ckEnc firstOf
    cases (ckBasin b != 0) <;> rfl
  rw [e0]
  unfold zR_M zR_m
  rw [bbasin_eq b hn]
  simp only [Option.bind_some]
  cases (ckBasin b != 0) with
  | true => rfl
  | false =>
    simp only [cond_false]
    rw [mapIv_eq v _ (fun x => ckIv x 0 100000000) (fun e _ => by
      show zP_M e (fun x => zO_M x.fst) = _
      unfold zP_M zP_m
      rw [bIv_eq e _ 0 100000000 (fun n => by show some (zO n) = _; unfold zO; rw [within_eq])]
      rfl) hv, bRngs_eq b l hl hr]
    simp only [Option.bind_some, when_eq]
    rw [bfirst_eq _ (by simp; omega)]
    simp only [Option.bind_some]
    rw [bfirst_eq _ (by simp [lenMax])]
    simp only [Option.bind_some, firstE_cons, firstE_nil, firstOf_zero]
    unfold ckIvs
    rw [firstOf_assoc]

/-! ### Enclosures -/
def encRow (lo hi : List Int) : List Itv := List.zipWith (fun a b => (a, b, ())) lo hi
def encRows (lo hi : List (List Int)) : List (List Itv) := List.zipWith encRow lo hi

noncomputable def runC (b : Bas) (v : List Itv) (l : List Rng) (up : Bool) : Option (List (Cnd × List Int × List Int)) := runD b (v.map (endI up)) (l.map (cornR up))

noncomputable def encD (b : Bas) (v : List Itv) (l : List Rng) : List (List Itv) × Int × Unit :=
  match runC b v l true, runC b v l false with
  | some hp, some lp => (encRows (lp.map (·.2.2)) (hp.map (·.2.2)), 0, ())
  | _, _ => ([], 4, ())

theorem benc_inner (H T : List Psg) (i n : Int) (r : List Int) (c0 : List (List Itv)) (x : Psg) (hH : idx H i = some x) : ∀ (lo q p : List Int) (t : Int) (s : List Itv), x.2.2.1.getD [] = p ++ q → t = (p.length : Int) → q.length = lo.length → s.length + lo.length ≤ memMax →
    loopL (fun i__ e__ s__ => z05_b9 H i T n i r c0 i__ e__ s__) (fun s__ => z05_f9 H i T n i r c0 s__) t lo s = z05_f9 H i T n i r c0 (s ++ encRow lo q)
  | [], [], p, t, s, _, _, _, _ => by rw [loopL_nil]; simp [encRow]
  | a :: lo, y :: q, p, t, s, hp, ht, hl, hs => by
    simp only [List.length_cons] at hs hl
    have hbody : z05_b9 H i T n i r c0 t a s = some (.inr (s ++ [(a, y, ())])) := by
      unfold z05_b9
      rw [hH]
      simp only [Option.bind_some]
      rw [hp, idx_mid p y q t ht]
      simp only [Option.bind_some]
      rw [bifT (dec_true (show s.length + 1 ≤ memMax by omega))]
    rw [loopL_cons, hbody]
    simp only [Option.bind_some]
    rw [benc_inner H T i n r c0 x hH lo q (p ++ [y]) (t + 1) _ (by rw [hp]; simp) (by simp [ht]) (by omega) (by simp; omega)]
    simp [encRow]
  | [], _ :: _, _, _, _, _, _, h, _ => by simp at h
  | _ :: _, [], _, _, _, _, _, h, _ => by simp at h

theorem benc_outer (N : Nat) (hN : N ≤ 8) (H T : List Psg) : ∀ (lp hp : List (Cnd × List Int × List Int)) (p : List Psg) (i : Int) (s : List (List Itv)), H = p ++ hp.map psg → i = (p.length : Int) → hp.length = lp.length → s.length + lp.length ≤ memMax →
    (∀ x ∈ lp, x.2.2.length = N) → (∀ x ∈ hp, x.2.2.length = N) →
    loopL (fun i__ e__ s__ => z05_b7 H T i__ e__ s__) (fun s__ => z05_f7 H T s__) i (lp.map psg) s = some (s ++ encRows (lp.map (·.2.2)) (hp.map (·.2.2)), 0, ())
  | [], [], p, i, s, _, _, _, _, _, _ => by
    show some (s, 0, ()) = _
    simp [encRows]
  | x :: lp, y :: hp, p, i, s, hH, hi, hl, hs, h1, h2 => by
    simp only [List.length_cons] at hs hl
    have hmem : memMax = 68719476736 := rfl
    have hx := h1 x (by simp)
    have hy := h2 y (by simp)
    have hbody : z05_b7 H T i (psg x) s = some (.inr (s ++ [encRow x.2.2 y.2.2])) := by
      unfold z05_b7
      rw [show (psg x).snd.snd.fst.getD [] = x.2.2 from rfl, bifT (dec_true (show x.2.2.length < lenMax by unfold lenMax; omega)),
        benc_inner H T i _ _ s (psg y) (by rw [hH]; exact idx_mid p (psg y) (hp.map psg) i hi) x.2.2 y.2.2 [] 0 [] rfl rfl (by omega) (by simp; omega)]
      unfold z05_f9
      rw [bifT (dec_true (show s.length + 1 ≤ memMax by omega)), List.nil_append]
    rw [List.map_cons, loopL_cons, hbody]
    simp only [Option.bind_some]
    rw [benc_outer N hN H T lp hp (p ++ [psg y]) (i + 1) _ (by rw [hH]; simp) (by simp [hi]) (by omega) (by simp; omega) (fun z hz => h1 z (by simp [hz])) (fun z hz => h2 z (by simp [hz]))]
    simp [encRows]
  | [], _ :: _, _, _, _, _, _, h, _, _, _ => by simp at h
  | _ :: _, [], _, _, _, _, _, h, _, _, _ => by simp at h

theorem cornR_len {l : List Rng} {N : Nat} {up : Bool} (h : ∀ r ∈ l, r.2.2.1.length = N) : ∀ c ∈ l.map (cornR up), c.2.2.1.length = N := by
  intro c hc
  obtain ⟨r, hr, rfl⟩ := List.mem_map.1 hc
  show (r.2.2.1.map (endI up)).length = N
  rw [List.length_map]
  exact h r hr

theorem bmapC (l : List Rng) (up : Bool) (hl : l.length ≤ memMax) (hr : ∀ r ∈ l, r.2.2.1.length ≤ memMax) :
    (z6_M l fun (x : Rng × Unit) => bif up then zc_M x.fst else ze_M x.fst) = some (l.map (cornR up), ()) :=
  mapRC_eq l _ (cornR up) (fun e he => by
    cases up with
    | true =>
      show zc_M e = _
      unfold zc_M zc_m
      rw [show (1 : Int) = upI true from rfl, bcorner1_eq e true (hr e he)]
      rfl
    | false =>
      show ze_M e = _
      unfold ze_M ze_m
      rw [show (0 : Int) = upI false from rfl, bcorner1_eq e false (hr e he)]
      rfl) hl

/-- What the arguments of enclosures must be. -/
structure EncOK (b : Bas) (v : List Itv) (l : List Rng) : Prop where
  bas : BasOK b
  vols : v.length = b.1.length
  many : l.length ≤ 96
  rngs : ∀ r ∈ l, r.2.2.1.length = b.1.length

theorem EncOK.lens {b : Bas} {v : List Itv} {l : List Rng} (h : EncOK b v l) : v.length ≤ memMax ∧ l.length ≤ memMax ∧ (∀ r ∈ l, r.2.2.1.length ≤ memMax) ∧ (∀ up, (v.map (endI up)).length = b.1.length) ∧ (∀ up, (l.map (cornR up)).length ≤ memMax) := by
  have hmem : memMax = 68719476736 := rfl
  have h8 := h.bas.nodes
  have hv := h.vols
  have hl := h.many
  refine ⟨by omega, by omega, fun r hr => by have := h.rngs r hr; omega, fun up => by simp [hv], fun up => by simp; omega⟩

theorem ckEnc_zero {b : Bas} {v : List Itv} {l : List Rng} (h : ckEnc b v l = 0) : EncOK b v l := by
  obtain ⟨h1, h2⟩ := firstOf_eq0 h
  obtain ⟨h3, h4⟩ := firstOf_eq0 h2
  obtain ⟨h5, h6⟩ := firstOf_eq0 h3
  obtain ⟨h7, h8⟩ := firstOf_eq0 h4
  have len : ∀ {x y : Int}, (bif x != y then (2 : Int) else 0) = 0 → x = y := by
    intro x y e
    cases he : (x != y) with
    | true => rw [he] at e; cases e
    | false => simpa using he
  refine ⟨ckBasin_zero h1, by have := len h5; omega, ?_, fun r hr => ?_⟩
  · by_cases hh : (l.length : Int) > 96
    · rw [dec_true hh] at h7; cases h7
    · omega
  · have h9 := firstE_zero h8 _ (List.mem_map.2 ⟨r, hr, rfl⟩)
    obtain ⟨_, h10⟩ := firstOf_eq0 h9
    obtain ⟨h11, _⟩ := firstOf_eq0 h10
    have := len h11
    omega

theorem benclose_eq (b : Bas) (v : List Itv) (l : List Rng) (hn : ∀ n ∈ b.1, n.1.length < lenMax) (h0 : ckEnc b v l = 0) : z05_M b v l = some (encD b v l) := by
  have hE := ckEnc_zero h0
  have hmem : memMax = 68719476736 := rfl
  obtain ⟨g1, g2, g3, g4, g5⟩ := hE.lens
  have h8 := hE.bas.nodes
  have hh := bmapC l true g2 g3
  have hlw := bmapC l false g2 g3
  have hm96 := hE.many
  simp only [cond_true, cond_false] at hh hlw
  unfold z05_M encD runC
  rw [bEnc_eq b v l hn g1 g2 g3, h0]
  simp only [Option.bind_some]
  rw [bifF (show ((0 : Int) != 0) = false from rfl), show (1 : Int) = upI true from rfl, bends_eq v true g1, hh]
  simp only [Option.bind_some]
  rw [brun_eq b hE.bas _ _ (g4 true) (cornR_len hE.rngs) (g5 true)]
  cases hr1 : runD b (v.map (endI true)) (l.map (cornR true)) with
  | none => rfl
  | some hp =>
    simp only [Option.bind_some]
    rw [bifF (show ((0 : Int) != 0) = false from rfl), show (0 : Int) = upI false from rfl, bends_eq v false g1, hlw]
    simp only [Option.bind_some]
    rw [brun_eq b hE.bas _ _ (g4 false) (cornR_len hE.rngs) (g5 false)]
    cases hr2 : runD b (v.map (endI false)) (l.map (cornR false)) with
    | none => rfl
    | some lp =>
      simp only [Option.bind_some]
      obtain ⟨k1, k2⟩ := runD_outs hE.bas (g4 true) (cornR_len hE.rngs) hr1
      obtain ⟨k3, k4⟩ := runD_outs hE.bas (g4 false) (cornR_len hE.rngs) hr2
      rw [List.length_map] at k1 k3
      rw [bifF (show ((0 : Int) != upI false) = false from rfl), bifT (dec_true (show (lp.map psg).length < lenMax by simp [lenMax]; omega))]
      exact benc_outer b.1.length h8 (hp.map psg) (lp.map psg) lp hp [] 0 [] rfl rfl (by omega) (by simp; omega) (fun x hx => (k4 x hx).1) (fun x hx => (k2 x hx).1)

/-! ### Safe -/
noncomputable def wet (b : Bas) (w : List Int) : Bool := match z0c_M b w with | some (r, _) => decide ((r.length : Int) > 0) | none => false
noncomputable def safeD (b : Bas) (v : List Itv) (l : List Rng) : Bool × Int × Unit :=
  match runC b v l true with
  | some ps => (!(ps.any fun x => wet b x.2.2), 0, ())
  | none => (false, 4, ())

theorem bany_loop (b : Bas) (hb : BasOK b) (S : List (List Int)) (f : List Int × Unit → Option (Bool × Unit)) (hf : ∀ w, f (w, ()) = zY_M w b) : ∀ (ps : List (List Int)) (i : Int), 0 ≤ i → (∀ x ∈ ps, x.length = b.1.length) →
    ∃ k, loopL (fun i__ e__ s__ => zK_b0 S f i__ e__) (fun s__ => zK_f0 S f) i ps () = some (k, ()) ∧ decide (k ≥ 0) = ps.any (wet b)
  | [], i, _, _ => ⟨-1, rfl, rfl⟩
  | x :: ps, i, hi, h => by
    obtain ⟨r, r1, r2, r3⟩ := above_same b hb x (h x (by simp))
    have hw : wet b x = decide ((r.length : Int) > 0) := by unfold wet; rw [r2]
    have hbody : zK_b0 S f i x = bif wet b x then some (.inl (i, ())) else some (.inr ()) := by
      unfold zK_b0
      rw [hf]
      unfold zY_M zY_m
      rw [r1, hw]
      rfl
    rw [loopL_cons, hbody, List.any_cons]
    cases wet b x with
    | true => exact ⟨i, rfl, by rw [dec_true hi]; rfl⟩
    | false =>
      simp only [cond_false, Option.bind_some, Bool.false_or]
      exact bany_loop b hb S f hf ps (i + 1) (by omega) (fun y hy => h y (by simp [hy]))

theorem bsafe_eq (b : Bas) (v : List Itv) (l : List Rng) (hE : EncOK b v l) : zh_M b v l = some (safeD b v l) := by
  have hmem : memMax = 68719476736 := rfl
  obtain ⟨g1, g2, g3, g4, g5⟩ := hE.lens
  have hm96 := hE.many
  have hh := bmapC l true g2 g3
  simp only [cond_true] at hh
  unfold zh_M zh_m safeD runC
  rw [show (1 : Int) = upI true from rfl, bends_eq v true g1, hh]
  simp only [Option.bind_some]
  rw [brun_eq b hE.bas _ _ (g4 true) (cornR_len hE.rngs) (g5 true)]
  cases hr : runD b (v.map (endI true)) (l.map (cornR true)) with
  | none => rfl
  | some ps =>
    obtain ⟨k1, k2⟩ := runD_outs hE.bas (g4 true) (cornR_len hE.rngs) hr
    rw [List.length_map] at k1
    simp only [Option.bind_some]
    rw [bifF (show ((0 : Int) != 0) = false from rfl), volumes_eq ps (by omega)]
    simp only [Option.bind_some]
    unfold zE_M zE_m zK_M
    rw [bifT (dec_true (show (ps.map (·.2.2)).length < lenMax by simp [lenMax]; omega))]
    obtain ⟨k, hk1, hk2⟩ := bany_loop b hE.bas (ps.map (·.2.2)) (fun x => zY_M x.fst b) (fun w => rfl) (ps.map (·.2.2)) 0 (by omega) (by
      intro x hx
      obtain ⟨y, hy, rfl⟩ := List.mem_map.1 hx
      exact (k2 y hy).1)
    rw [hk1]
    simp only [Option.bind_some]
    rw [hk2, List.any_map]
    rfl

theorem bSafe_eq (b : Bas) (v : List Itv) (l : List Rng) (hn : ∀ n ∈ b.1, n.1.length < lenMax) (h0 : ckEnc b v l = 0) : z0i_M b v l = some (safeD b v l) := by
  have hE := ckEnc_zero h0
  obtain ⟨g1, g2, g3, g4, g5⟩ := hE.lens
  unfold z0i_M z0i_m
  rw [bEnc_eq b v l hn g1 g2 g3, h0, bsafe_eq b v l hE]
  rfl
end Go.Tw
