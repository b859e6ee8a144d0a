import Derived.Test.YtkfigfhjbejikaaGreatDoorPA
import Derived.Test.YtkfigfhjbejikaaGreatDoorBE
import Derived.Test.YtkfigfhjbejikaaGreatDoorB16
import Derived.Test.YtkfigfhjbejikaaGreatDoorB17
set_option linter.all false
section
set_option maxRecDepth 100000
namespace Go.Tw
open Go.Vx Go.Vx.B Go.Proofs
noncomputable def y1n (b : Bas) (v : List Int) (c : Cnd) : Option (List Int × List Int) :=
  match y8E b v c with
  | some (f, o, e, _) => if e = 0 then some (f, o) else none
  | none => none
theorem y8d (b : Bas) (hb : BasOK b) (v : List Int) (c : Cnd) (hv : v.length = b.1.length) (hc : c.2.2.1.length = b.1.length) :
    (∃ f o, y1n b v c = some (f, o) ∧ y8E b v c = some (f, o, 0, ()) ∧ zf_M b v c = some (f, some o, true, ()) ∧ o.length = b.1.length ∧ y0m o = true) ∨
    (y1n b v c = none ∧ y8E b v c = some ([], [], 4, ()) ∧ ∃ f o, zf_M b v c = some (f, some o, false, ())) := by
  obtain ⟨f, o, ⟨h1, h2, h3, h4⟩ | ⟨h1, h2⟩⟩ := yHK b hb v c hv hc
  · exact .inl ⟨f, o, by unfold y1n; rw [h1]; rfl, h1, h2, h3, h4⟩
  · exact .inr ⟨by unfold y1n; rw [h1]; rfl, h1, f, o, h2⟩
noncomputable def runD (b : Bas) : List Int → List Cnd → Option (List (Cnd × List Int × List Int))
  | _, [] => some []
  | v, c :: l => match y1n b v c with
    | none => none
    | some (f, o) => (runD b o l).map ((c, f, o) :: ·)
def psg (x : Cnd × List Int × List Int) : Psg := (x.1, x.2.1, some x.2.2, ())
theorem y87 {b : Bas} {v : List Int} {c : Cnd} {l : List Cnd} (h : y1n b v c = none) : runD b v (c :: l) = none := by
  simp only [runD, h]
theorem y7z {b : Bas} {v : List Int} {c : Cnd} {l : List Cnd} {f o : List Int} (h : y1n b v c = some (f, o)) : runD b v (c :: l) = (runD b o l).map ((c, f, o) :: ·) := by
  simp only [runD, h]
theorem yd {n : Int} (h1 : -9223372036854775808 ≤ n) (h2 : n ≤ 9223372036854775807) : wr n = n := by
  unfold wr IntKind.wrap IntKind.bits IntKind.signed;simp only [Nat.reduceSub, Int.reducePow, decide_eq_true_eq, Bool.true_and];split <;> omega
theorem yDk {α : Type} (p : List α) (x : α) (h : p.length < memMax) : idx (p ++ [x]) (wr (((p ++ [x]).length : Int) - 1)) = some x ∧ (p ++ [x])[(wr (((p ++ [x]).length : Int) - 1)).toNat]? = some x := by
  have hm : memMax = 68719476736 := rfl;have e : wr (((p ++ [x]).length : Int) - 1) = (p.length : Int) := by
    rw [show (((p ++ [x]).length : Int) - 1) = (p.length : Int) by simp]
    exact yd (by omega) (by omega)
  rw [e];exact ⟨y3w p x [] _ rfl, by simp⟩
theorem yIW (b : Bas) (L : List Cnd) (v0 v : List Int) (s : List Psg) (hs : s.length ≤ memMax) (hall : ∀ x ∈ s, x.2.2.1.isNone = false) :
    yEP b L L b L b L b L b L b L b b v0 L b 0 b v0 L L b v s = some (s, 0, ()) := by
  unfold yEP;rcases List.eq_nil_or_concat s with rfl | ⟨p, x, rfl⟩
  · rfl
  · rw [List.concat_eq_append] at *;obtain ⟨e1, e2⟩ := yDk p x (by simp at hs; omega)
    rw [bifT (y8 (show ((p ++ [x]).length : Int) > 0 by simp))]
    unfold wr at e1 e2;rw [e1];simp only [Option.bind_some];rw [e2];simp only [Option.bind_some];rw [bifF (hall x (by simp))]
theorem yBf (b : Bas) (hb : BasOK b) (L : List Cnd) (v0 : List Int) : ∀ (l : List Cnd) (i : Int) (v : List Int) (s : List Psg), v.length = b.1.length → (∀ c ∈ l, c.2.2.1.length = b.1.length) → s.length + l.length ≤ memMax → (∀ x ∈ s, x.2.2.1.isNone = false) →
    yL (fun i__ e__ (s__ : List Int × List Psg) => y86 b L L b L b L b L b L b L b b v0 L b 0 b v0 L L b i__ e__ s__.1 s__.2) (fun s__ => yEP b L L b L b L b L b L b L b b v0 L b 0 b v0 L L b s__.1 s__.2) i l (v, s) =
      some (match runD b v l with | some ps => (s ++ ps.map psg, 0, ()) | none => ([], 4, ()))
  | [], i, v, s, hv, hl, hs, hall => by
    rw [y6z, yIW b L v0 v s (by simpa using hs) hall]
    simp [runD]
  | c :: l, i, v, s, hv, hl, hs, hall => by
    simp only [List.length_cons] at hs;rcases y8d b hb v c hv (hl c (by simp)) with ⟨f, o, h1, h2, h3, h4, h5⟩ | ⟨h1, h2, f, o, h3⟩
    · have hbody : y86 b L L b L b L b L b L b L b b v0 L b 0 b v0 L L b i c v s = some (Sum.inr (o, s ++ [((c, f, some o, ()) : Psg)])) := by
        unfold y86;rw [show (c.fst, c.snd.fst, c.snd.snd.fst, ()) = c from rfl, h3]
        simp only [Option.bind_some, Bool.not_true, cond_false];rw [bifT (y8 (show s.length + 1 ≤ memMax by omega))]
        rfl
      rw [y00];show (Option.bind (y86 b L L b L b L b L b L b L b b v0 L b 0 b v0 L L b i c v s) _) = _
      rw [hbody, y7z h1];simp only [Option.bind_some];rw [yBf b hb L v0 l (i + 1) o _ h4 (fun c hc => hl c (by simp [hc])) (by simp; omega) (by
        intro x hx;rcases List.mem_append.1 hx with hx | hx
        · exact hall x hx
        · simp at hx; subst hx; rfl)]
      cases runD b o l with
      | none => rfl
      | some ps => simp [psg]
    · have hbody : y86 b L L b L b L b L b L b L b b v0 L b 0 b v0 L L b i c v s = some (Sum.inl ([], 4, ())) := by
        unfold y86;rw [show (c.fst, c.snd.fst, c.snd.snd.fst, ()) = c from rfl, h3]
        simp only [Option.bind_some, Bool.not_false, cond_true];rw [bifT (y8 (show s.length + 1 ≤ memMax by omega))]
        obtain ⟨e1, e2⟩ := yDk s ((c, f, none, ()) : Psg) (by omega)
        rw [bifT (y8 (show ((s ++ [((c, f, none, ()) : Psg)]).length : Int) > 0 by simp))]
        unfold wr at e1 e2;rw [e1];simp only [Option.bind_some];rw [e2];rfl
      rw [y00];show (Option.bind (y86 b L L b L b L b L b L b L b b v0 L b 0 b v0 L L b i c v s) _) = _
      rw [hbody, y87 h1];rfl
theorem yLI (b : Bas) (hb : BasOK b) (v : List Int) (l : List Cnd) (hv : v.length = b.1.length) (hl : ∀ c ∈ l, c.2.2.1.length = b.1.length) (hn : l.length ≤ memMax) :
    zo_M b v l = some (match runD b v l with | some ps => (ps.map psg, 0, ()) | none => ([], 4, ())) := by
  have := y0y;unfold zo_M;rw [bifT (y8 (show l.length < lenMax by omega)), yBf b hb l v l 0 v [] hv hl (by simpa using hn) (by simp)]
  rfl
def yCm (b : Bas) (l : List Cnd) : Int := y0K (l.map (y0N b))
def y7i (b : Bas) (v : List Int) (l : List Cnd) : Int := yQ (ckCV b v) (yQ (bif decide ((l.length : Int) > 96) then 5 else 0) (yCm b l))
theorem yIX (b : Bas) (v : List Int) (l : List Cnd) (hv : v.length < lenMax) (hl : l.length < lenMax) (hc : ∀ c ∈ l, c.2.2.1.length < lenMax) : zw_M b v l = some (y7i b v l, ()) := by
  unfold zw_M y7i yQ;rw [yQb b v hv];simp only [Option.bind_some];cases (ckCV b v != 0) with
  | true => rfl
  | false =>
    simp only [cond_false];rw [if_neg (by simp)]
    cases decide ((l.length : Int) > 96) with
    | true => rfl
    | false =>
      simp only [cond_false];rw [bifT (y8 hl), y4w (y0N b) l 0 (fun i e he => by
        unfold yJM;rw [yJN b e (hc e he)];simp only [Option.bind_some];cases (y0N b e != 0) <;> rfl) rfl]
      rfl
theorem yEq (l : List Cnd) (of : Cnd × Unit → Option (Int × Unit)) (g : Cnd → Int) (h : ∀ e ∈ l, of (e, ()) = some (g e, ())) (hl : l.length ≤ memMax) : z7_M l of = some (l.map g, ()) := by
  have hm := y0y;unfold z7_M;rw [bifT (y8 (show l.length < lenMax by omega)), y1M g l 0 [] (by simpa using hl) (fun i e s he hs => by
    unfold yIy;rw [h e he];simp only [Option.bind_some];rw [bifT (y8 hs)])]
  rfl
theorem yCO (b : Bas) (v : List Int) (l : List Cnd) (hn : ∀ n ∈ b.1, n.1.length < lenMax) (hv : v.length ≤ memMax) (hl : l.length ≤ memMax) (hc : ∀ c ∈ l, c.2.2.1.length ≤ memMax) :
    yBS b v l = bif y7i b v l != 0 then some ([], y7i b v l, ()) else zo_M b v l := by
  have hm := y0y;unfold yBS yJA y7i yCm;rw [yKP b v hn hv, yEq l _ (y0N b) (fun e he => yDq b e (hc e he)) hl]
  simp only [Option.bind_some, y1b];rw [y0V _ (by simp; omega)]
  simp only [Option.bind_some];rw [y0V _ (by simp [lenMax])]
  simp only [Option.bind_some, yh, y2Z, y1g];cases (yQ (ckCV b v) (yQ (bif decide ((l.length : Int) > 96) then 5 else 0) (y0K (l.map (y0N b)))) != 0) with
  | true => rfl
  | false =>
    simp only [cond_false];cases zo_M b v l with
    | none => rfl
    | some y => rfl
theorem yH8 {b : Bas} {v : List Int} (h : ckCV b v = 0) : BasOK b ∧ v.length = b.1.length ∧ ∀ x ∈ v, 0 ≤ x ∧ x ≤ 100000000 := by
  obtain ⟨h1, h2⟩ := y0T h;obtain ⟨h3, h4⟩ := y0T h2;refine ⟨y1A h1, ?_, fun x hx => y33 (y08 h4 _ (List.mem_map.2 ⟨x, hx, rfl⟩))⟩
  cases he : ((v.length : Int) != (b.1.length : Int)) with
  | true => rw [he] at h3; cases h3
  | false => have h11 : (v.length : Int) = (b.1.length : Int) := by simpa using he
             omega
theorem y4Z {b : Bas} {c : Cnd} (h : y0N b c = 0) : (-1024 ≤ c.1 ∧ c.1 ≤ 1024) ∧ c.2.2.1.length = b.1.length ∧ ∀ x ∈ c.2.2.1, 0 ≤ x ∧ x ≤ 100000 := by
  obtain ⟨h1, h2⟩ := y0T h;obtain ⟨h3, h4⟩ := y0T h2;refine ⟨y33 h1, ?_, fun x hx => y33 (y08 h4 _ (List.mem_map.2 ⟨x, hx, rfl⟩))⟩
  cases he : ((c.2.2.1.length : Int) != (b.1.length : Int)) with
  | true => rw [he] at h3; cases h3
  | false => have h11 : (c.2.2.1.length : Int) = (b.1.length : Int) := by simpa using he
             omega
theorem yFP {b : Bas} {v : List Int} {l : List Cnd} (h : y7i b v l = 0) : BasOK b ∧ v.length = b.1.length ∧ (∀ x ∈ v, 0 ≤ x ∧ x ≤ 100000000) ∧ l.length ≤ 96 ∧ ∀ c ∈ l, y0N b c = 0 := by
  obtain ⟨h1, h2⟩ := y0T h;obtain ⟨h3, h4⟩ := y0T h2;obtain ⟨g1, g2, g3⟩ := yH8 h1;refine ⟨g1, g2, g3, ?_, fun c hc => y08 h4 _ (List.mem_map.2 ⟨c, hc, rfl⟩)⟩
  by_cases hh : (l.length : Int) > 96
  · rw [y8 hh] at h3; cases h3
  · omega
end Go.Tw
end
section
set_option maxRecDepth 100000
namespace Go.Tw
open Go.Vx Go.Vx.B Go.Proofs
noncomputable def y2L (b : Bas) (c : Cnd) : List Lnk → List Int → List Int → Option (List Int × List Int)
  | [], fs, out => some (fs, out)
  | x :: l, fs, out => if y0m (mv b c x out) = true then y2L b c l (fs ++ [fl b c x out]) (mv b c x out) else none
noncomputable def y7G (b : Bas) (v : List Int) (c : Cnd) : Option (List Int × List Int) :=
  if y0m (y0A v c.2.2.1) = true then y2L b c b.2.1 [] (y0A v c.2.2.1) else none
theorem yDZ (b : Bas) (c : Cnd) (h8 : b.1.length ≤ 8) : ∀ (l : List Lnk) (i : Int) (fs out : List Int), (∀ x ∈ l, LinkOK x b.1.length) → out.length = b.1.length → fs.length + l.length ≤ memMax →
    yGH b c i l (out, fs) = some (match y2L b c l fs out with | some (f, o) => (f, o, 0, ()) | none => ([], [], 4, ()))
  | [], i, fs, out, _, _, _ => rfl
  | x :: l, i, fs, out, hx, hN, hl => by
    simp only [List.length_cons] at hl;have hL := hx x (by simp)
    unfold yGH;rw [y00, y8n b c i x hL h8 fs out hN (by omega)]
    simp only [Option.bind_some, y2L];by_cases hm : y0m (mv b c x out) = true
    · rw [bifT hm, if_pos hm];exact yDZ b c h8 l (i + 1) (fs ++ [fl b c x out]) (mv b c x out) (fun y hy => hx y (by simp [hy])) (by rw [y2B]; exact hN) (by simp; omega)
    · rw [bifF (by simpa using hm), if_neg hm]
theorem yM0 (b : Bas) (hb : BasOK b) (v : List Int) (c : Cnd) (hv : v.length = b.1.length) (hc : c.2.2.1.length = b.1.length) :
    y8E b v c = some (match y7G b v c with | some (f, o) => (f, o, 0, ()) | none => ([], [], 4, ())) := by
  have h8 := hb.nodes;have hl := hb.links;have hin : (y0A v c.2.2.1).length = b.1.length := by rw [y1K v _ (by omega)]; exact hv
  have hmem : memMax = 68719476736 := rfl;have hr : y8E b v c = y7I b c (y0A v c.2.2.1) := by
    unfold y8E;rw [bifT (y8 (show 0 + v.length ≤ memMax by omega)), bifT (y8 (show (v.length : Int) ≤ 9223372036854775807 by omega))]
    have := y9h b c v.length c.2.2.1 v [] [] 0 rfl rfl rfl (by omega) rfl
    rw [List.nil_append, List.nil_append] at this;rw [show ((v.length : Int) - 0).toNat = v.length by omega]
    exact this
  rw [hr];unfold y7I y7G;rw [y5o _ (by rw [hin]; unfold lenMax; omega)]
  simp only [Option.bind_some];by_cases hf : y0m (y0A v c.2.2.1) = true
  · rw [if_pos hf, hf];simp only [Bool.not_true, cond_false];rw [bifT (y8 (show b.2.1.length < lenMax by unfold lenMax; omega))]
    exact yDZ b c h8 b.2.1 0 [] (y0A v c.2.2.1) hb.link hin (by simp; omega)
  · rw [if_neg hf, show y0m (y0A v c.2.2.1) = false by simpa using hf]
    rfl
theorem y6T (b : Bas) (hb : BasOK b) (v : List Int) (c : Cnd) (hv : v.length = b.1.length) (hc : c.2.2.1.length = b.1.length) : y1n b v c = y7G b v c := by
  unfold y1n;rw [yM0 b hb v c hv hc];cases y7G b v c with
  | none => rfl
  | some y => rfl
theorem y8T {b : Bas} {c : Cnd} : ∀ {l : List Lnk} {fs out f o : List Int}, y2L b c l fs out = some (f, o) → f.length = fs.length + l.length ∧ o.length = out.length
  | [], fs, out, f, o, h => by simp only [y2L, Option.some.injEq, Prod.mk.injEq] at h; obtain ⟨rfl, rfl⟩ := h; simp
  | x :: l, fs, out, f, o, h => by
    simp only [y2L] at h;split at h
    · obtain ⟨h1, h2⟩ := y8T h;rw [y2B] at h2;simp at h1;exact ⟨by simp; omega, h2⟩
    · cases h
theorem yFk {b : Bas} (hb : BasOK b) {v : List Int} {c : Cnd} (hv : v.length = b.1.length) (hc : c.2.2.1.length = b.1.length) {f o : List Int} (h : y1n b v c = some (f, o)) : f.length = b.2.1.length ∧ o.length = b.1.length := by
  rw [y6T b hb v c hv hc] at h;unfold y7G at h;split at h
  · obtain ⟨h1, h2⟩ := y8T h;rw [y1K v _ (by omega)] at h2
    exact ⟨by simpa using h1, by omega⟩
  · cases h
end Go.Tw
end
section
set_option maxRecDepth 100000
namespace Go.Tw
open Go.Vx Go.Vx.B Go.Proofs
theorem y8u (ps : List (Cnd × List Int × List Int)) (h : ps.length ≤ memMax) : yGy (ps.map psg) = some (ps.map (·.2.2), ()) := by
  have hm := y0y;unfold yGy yIf zC_M;rw [bifT (y8 (show (ps.map psg).length < lenMax by simp; omega)), y1M (fun p : Psg => p.2.2.1.getD []) (ps.map psg) 0 [] (by simpa using h) (fun i e s he hs => by
    unfold yJb;simp only [Option.bind_some];rw [bifT (y8 hs)];rfl)]
  show some (_, ()) = _
  congr 2
  simp [psg]
theorem y4k {b : Bas} (hb : BasOK b) : ∀ {l : List Cnd} {v : List Int} {ps : List (Cnd × List Int × List Int)}, v.length = b.1.length → (∀ c ∈ l, c.2.2.1.length = b.1.length) → runD b v l = some ps →
    ps.length = l.length ∧ ∀ x ∈ ps, x.2.2.length = b.1.length ∧ x.2.1.length = b.2.1.length ∧ x.1 ∈ l
  | [], v, ps, hv, hl, h => by simp only [runD, Option.some.injEq] at h; subst h; simp
  | c :: l, v, ps, hv, hl, h => by
    simp only [runD] at h;cases hs : y1n b v c with
    | none => rw [hs] at h; cases h
    | some y =>
      obtain ⟨f, o⟩ := y;rw [hs] at h;simp only [Option.map_eq_some_iff] at h;obtain ⟨qs, h1, rfl⟩ := h;obtain ⟨n1, n2⟩ := yFk hb hv (hl c (by simp)) hs
      obtain ⟨k1, k2⟩ := y4k hb n2 (fun c hc => hl c (by simp [hc])) h1
      refine ⟨by simp [k1], fun x hx => ?_⟩
      rcases List.mem_cons.1 hx with rfl | hx
      · exact ⟨n2, n1, by simp⟩
      · obtain ⟨m1, m2, m3⟩ := k2 x hx;exact ⟨m1, m2, by simp [m3]⟩
end Go.Tw
end
section
set_option maxRecDepth 100000
namespace Go.Tw
open Go.Vx Go.Vx.B Go.Proofs
theorem max2 (f : Int) : (if f > (0 : Int) then f else (0 : Int)) = max 0 f := by split <;> omega
end Go.Tw
end
section
set_option maxRecDepth 100000
namespace Go.Tw
open Go.Vx Go.Vx.B Go.Proofs
theorem yAI (l : List Cnd) (hl : l.length ≤ memMax) (hc : ∀ c ∈ l, c.2.2.1.length ≤ memMax) : zk_M l = some (l, ()) := by
  have hm := y0y;unfold zk_M;rw [bifT (y8 (show l.length < lenMax by omega)), y1M (fun c => c) l 0 [] (by simpa using hl) (fun i e s he hs => by
    unfold yIL;rw [show (e.fst, e.snd.fst, e.snd.snd.fst, ()) = e from rfl, y61 e (hc e he)]
    simp only [Option.bind_some];rw [bifT (y8 hs)])]
  simp only [List.map_id_fun', id_eq, List.nil_append];rfl
end Go.Tw
end
