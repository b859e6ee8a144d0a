import Derived.Test.YtkfigfhjbejikaaGreatDoorPC
set_option linter.all false
set_option maxRecDepth 100000
namespace Go.Tw
open Go.Vx Go.Vx.B Go.Proofs
def yAG (b : Bas) (v : List Itv) (l : List Rng) : Int := yR (y0A b) (yR (y94 v b.1.length 100000000) (y4D b l))
theorem yDH (b : Bas) (v : List Itv) (l : List Rng) (hn : ∀ n ∈ b.1,n.1.length < lenMax) (hv : v.length ≤ memMax) (hl : l.length ≤ memMax) (hr : ∀ r ∈ l,r.2.2.1.length ≤ memMax) : zR_M b v l = some (yAG b v l,()) := by
  have hm := y0X;have e0 : yAG b v l = bif y0A b != 0 then y0A b else yR (y94 v b.1.length 100000000) (y4D b l) := by
    unfold yAG yR;cases (y0A b != 0) <;> rfl
  rw [e0];unfold zR_M zR_m;rw [yJY b hn];simp only [Option.bind_some];cases (y0A b != 0) with
  | true => rfl
  | false =>
    simp only [cond_false];rw [yEv v _ (fun x => ckIv x 0 100000000) (fun e _ => by
      show zP_M e (fun x => zO_M x.fst) = _
      unfold zP_M zP_m;rw [yIg e _ 0 100000000 (fun n => by show some (zO n) = _; unfold zO; rw [y1P])]
      rfl) hv,yL8 b l hl hr]
    simp only [Option.bind_some,y1e];rw [y0k _ (by simp; omega)]
    simp only [Option.bind_some];rw [y0k _ (by simp [lenMax])]
    simp only [Option.bind_some,yk,y27,y1H];unfold y94;rw [y5H]
def y0t (lo hi : List Int) : List Itv := List.zipWith (fun a b => (a,b,())) lo hi
def yy (lo hi : List (List Int)) : List (List Itv) := List.zipWith y0t lo hi
noncomputable def runC (b : Bas) (v : List Itv) (l : List Rng) (up : Bool) : Option (List (Cnd × List Int × List Int)) := runD b (v.map (endI up)) (l.map (y2E up))
noncomputable def encD (b : Bas) (v : List Itv) (l : List Rng) : List (List Itv) × Int × Unit :=
  match runC b v l true,runC b v l false with
  | some hp,some lp => (yy (lp.map (·.2.2)) (hp.map (·.2.2)),0,())
  | _,_ => ([],4,())
theorem y9z (H T : List Psg) (i n : Int) (r : List Int) (c0 : List (List Itv)) (x : Psg) (hH : idx H i = some x) : ∀ (lo q p : List Int) (t : Int) (s : List Itv),x.2.2.1.getD [] = p ++ q → t = (p.length : Int) → q.length = lo.length → s.length + lo.length ≤ memMax →
    yK (fun i__ e__ s__ => yA4 H i T n i r c0 i__ e__ s__) (fun s__ => yA2 H i T n i r c0 s__) t lo s = yA2 H i T n i r c0 (s ++ y0t lo q)
  | [],[],p,t,s,_,_,_,_ => by rw [y33]; simp [y0t]
  | a :: lo,y :: q,p,t,s,hp,ht,hl,hs => by
    simp only [List.length_cons] at hs hl;have hbody : yA4 H i T n i r c0 t a s = some (.inr (s ++ [(a,y,())])) := by
      unfold yA4;rw [hH];simp only [Option.bind_some];rw [hp,y0x p y q t ht];simp only [Option.bind_some];rw [bifT (yA (show s.length + 1 ≤ memMax by omega))]
    rw [yg,hbody];simp only [Option.bind_some];rw [y9z H T i n r c0 x hH lo q (p ++ [y]) (t + 1) _ (by rw [hp]; simp) (by simp [ht]) (by omega) (by simp; omega)]
    simp [y0t]
  | [],_ :: _,_,_,_,_,_,h,_ => by simp at h
  | _ :: _,[],_,_,_,_,_,h,_ => by simp at h
theorem y98 (N : Nat) (hN : N ≤ 8) (H T : List Psg) : ∀ (lp hp : List (Cnd × List Int × List Int)) (p : List Psg) (i : Int) (s : List (List Itv)),H = p ++ hp.map psg → i = (p.length : Int) → hp.length = lp.length → s.length + lp.length ≤ memMax →
    (∀ x ∈ lp,x.2.2.length = N) → (∀ x ∈ hp,x.2.2.length = N) →
    yK (fun i__ e__ s__ => y9q H T i__ e__ s__) (fun s__ => yFg H T s__) i (lp.map psg) s = some (s ++ yy (lp.map (·.2.2)) (hp.map (·.2.2)),0,())
  | [],[],p,i,s,_,_,_,_,_,_ => by
    show some (s,0,()) = _
    simp [yy]
  | x :: lp,y :: hp,p,i,s,hH,hi,hl,hs,h1,h2 => by
    simp only [List.length_cons] at hs hl;have hmem : memMax = 68719476736 := rfl;have hx := h1 x (by simp)
    have hy := h2 y (by simp)
    have hbody : y9q H T i (psg x) s = some (.inr (s ++ [y0t x.2.2 y.2.2])) := by
      unfold y9q;rw [show (psg x).snd.snd.fst.getD [] = x.2.2 from rfl,bifT (yA (show x.2.2.length < lenMax by unfold lenMax; omega)),
        y9z H T i _ _ s (psg y) (by rw [hH]; exact y0x p (psg y) (hp.map psg) i hi) x.2.2 y.2.2 [] 0 [] rfl rfl (by omega) (by simp; omega)]
      unfold yA2;rw [bifT (yA (show s.length + 1 ≤ memMax by omega)),List.nil_append]
    rw [List.map_cons,yg,hbody];simp only [Option.bind_some];rw [y98 N hN H T lp hp (p ++ [psg y]) (i + 1) _ (by rw [hH]; simp) (by simp [hi]) (by omega) (by simp; omega) (fun z hz => h1 z (by simp [hz])) (fun z hz => h2 z (by simp [hz]))]
    simp [yy]
  | [],_ :: _,_,_,_,_,_,h,_,_,_ => by simp at h
  | _ :: _,[],_,_,_,_,_,h,_,_,_ => by simp at h
theorem y2i {l : List Rng} {N : Nat} {up : Bool} (h : ∀ r ∈ l,r.2.2.1.length = N) : ∀ c ∈ l.map (y2E up),c.2.2.1.length = N := by
  intro c hc;obtain ⟨r,hr,rfl⟩ := List.mem_map.1 hc;show (r.2.2.1.map (endI up)).length = N
  rw [List.length_map];exact h r hr
theorem yOv (l : List Rng) (up : Bool) (hl : l.length ≤ memMax) (hr : ∀ r ∈ l,r.2.2.1.length ≤ memMax) :
    (z6_M l fun (x : Rng × Unit) => bif up then zc_M x.fst else ze_M x.fst) = some (l.map (y2E up),()) :=
  yKu l _ (y2E up) (fun e he => by
    cases up with
    | true =>
      show zc_M e = _
      unfold zc_M zc_m;rw [show (1 : Int) = upI true from rfl,y7t e true (hr e he)]
      rfl
    | false =>
      show ze_M e = _
      unfold ze_M ze_m;rw [show (0 : Int) = upI false from rfl,y7t e false (hr e he)]
      rfl) hl
structure EncOK (b : Bas) (v : List Itv) (l : List Rng) : Prop where
  bas : BasOK b
  vols : v.length = b.1.length
  many : l.length ≤ 96
  rngs : ∀ r ∈ l,r.2.2.1.length = b.1.length
theorem EncOK.lens {b : Bas} {v : List Itv} {l : List Rng} (h : EncOK b v l) : v.length ≤ memMax ∧ l.length ≤ memMax ∧ (∀ r ∈ l,r.2.2.1.length ≤ memMax) ∧ (∀ up,(v.map (endI up)).length = b.1.length) ∧ (∀ up,(l.map (y2E up)).length ≤ memMax) := by
  have hmem : memMax = 68719476736 := rfl;have h8 := h.bas.nodes;have hv := h.vols;have hl := h.many;refine ⟨by omega,by omega,fun r hr => by have := h.rngs r hr; omega,fun up => by simp [hv],fun up => by simp; omega⟩
theorem y6C {b : Bas} {v : List Itv} {l : List Rng} (h : yAG b v l = 0) : EncOK b v l := by
  obtain ⟨h1,h2⟩ := yb h;obtain ⟨h3,h4⟩ := yb h2;obtain ⟨h5,h6⟩ := yb h3;obtain ⟨h7,h8⟩ := yb h4;have len : ∀ {x y : Int},(bif x != y then (2 : Int) else 0) = 0 → x = y := by
    intro x y e;cases he : (x != y) with
    | true => rw [he] at e; cases e
    | false => simpa using he
  refine ⟨y04 h1,by have := len h5; omega,?_,fun r hr => ?_⟩
  · by_cases hh : (l.length : Int) > 96
    · rw [yA hh] at h7; cases h7
    · omega
  · have h9 := y07 h8 _ (List.mem_map.2 ⟨r,hr,rfl⟩);obtain ⟨_,h10⟩ := yb h9;obtain ⟨h11,_⟩ := yb h10;have := len h11;omega
theorem y4o (b : Bas) (v : List Itv) (l : List Rng) (hn : ∀ n ∈ b.1,n.1.length < lenMax) (h0 : yAG b v l = 0) : y5p b v l = some (encD b v l) := by
  have hE := y6C h0;have hmem : memMax = 68719476736 := rfl;obtain ⟨g1,g2,g3,g4,g5⟩ := hE.lens;have h8 := hE.bas.nodes;have hh := yOv l true g2 g3;have hlw := yOv l false g2 g3;have hm96 := hE.many;simp only [cond_true,cond_false] at hh hlw;unfold y5p encD runC;rw [yDH b v l hn g1 g2 g3,h0];simp only [Option.bind_some];rw [bifF (show ((0 : Int) != 0) = false from rfl),show (1 : Int) = upI true from rfl,y6u v true g1,hh]
  simp only [Option.bind_some];rw [yDE b hE.bas _ _ (g4 true) (y2i hE.rngs) (g5 true)];cases hr1 : runD b (v.map (endI true)) (l.map (y2E true)) with
  | none => rfl
  | some hp =>
    simp only [Option.bind_some];rw [bifF (show ((0 : Int) != 0) = false from rfl),show (0 : Int) = upI false from rfl,y6u v false g1,hlw]
    simp only [Option.bind_some];rw [yDE b hE.bas _ _ (g4 false) (y2i hE.rngs) (g5 false)];cases hr2 : runD b (v.map (endI false)) (l.map (y2E false)) with
    | none => rfl
    | some lp =>
      simp only [Option.bind_some];obtain ⟨k1,k2⟩ := y3q hE.bas (g4 true) (y2i hE.rngs) hr1;obtain ⟨k3,k4⟩ := y3q hE.bas (g4 false) (y2i hE.rngs) hr2;rw [List.length_map] at k1 k3;rw [bifF (show ((0 : Int) != upI false) = false from rfl),bifT (yA (show (lp.map psg).length < lenMax by simp [lenMax]; omega))]
      exact y98 b.1.length h8 (hp.map psg) (lp.map psg) lp hp [] 0 [] rfl rfl (by omega) (by simp; omega) (fun x hx => (k4 x hx).1) (fun x hx => (k2 x hx).1)
noncomputable def wet (b : Bas) (w : List Int) : Bool := match yMs b w with | some (r,_) => decide ((r.length : Int) > 0) | none => false
noncomputable def y0g (b : Bas) (v : List Itv) (l : List Rng) : Bool × Int × Unit :=
  match runC b v l true with
  | some ps => (!(ps.any fun x => wet b x.2.2),0,())
  | none => (false,4,())
theorem yCV (b : Bas) (hb : BasOK b) (S : List (List Int)) (f : List Int × Unit → Option (Bool × Unit)) (hf : ∀ w,f (w,()) = zY_M w b) : ∀ (ps : List (List Int)) (i : Int),0 ≤ i → (∀ x ∈ ps,x.length = b.1.length) →
    ∃ k,yK (fun i__ e__ s__ => yGu S f i__ e__) (fun s__ => yKG S f) i ps () = some (k,()) ∧ decide (k ≥ 0) = ps.any (wet b)
  | [],i,_,_ => ⟨-1,rfl,rfl⟩
  | x :: ps,i,hi,h => by
    obtain ⟨r,r1,r2,r3⟩ := yGQ b hb x (h x (by simp))
    have hw : wet b x = decide ((r.length : Int) > 0) := by unfold wet; rw [r2]
    have hbody : yGu S f i x = bif wet b x then some (.inl (i,())) else some (.inr ()) := by
      unfold yGu;rw [hf];unfold zY_M zY_m;rw [r1,hw];rfl
    rw [yg,hbody,List.any_cons];cases wet b x with
    | true => exact ⟨i,rfl,by rw [yA hi]; rfl⟩
    | false =>
      simp only [cond_false,Option.bind_some,Bool.false_or];exact yCV b hb S f hf ps (i + 1) (by omega) (fun y hy => h y (by simp [hy]))
theorem yEM (b : Bas) (v : List Itv) (l : List Rng) (hE : EncOK b v l) : zh_M b v l = some (y0g b v l) := by
  have hmem : memMax = 68719476736 := rfl;obtain ⟨g1,g2,g3,g4,g5⟩ := hE.lens;have hm96 := hE.many;have hh := yOv l true g2 g3;simp only [cond_true] at hh;unfold zh_M zh_m y0g runC;rw [show (1 : Int) = upI true from rfl,y6u v true g1,hh]
  simp only [Option.bind_some];rw [yDE b hE.bas _ _ (g4 true) (y2i hE.rngs) (g5 true)];cases hr : runD b (v.map (endI true)) (l.map (y2E true)) with
  | none => rfl
  | some ps =>
    obtain ⟨k1,k2⟩ := y3q hE.bas (g4 true) (y2i hE.rngs) hr;rw [List.length_map] at k1;simp only [Option.bind_some];rw [bifF (show ((0 : Int) != 0) = false from rfl),yGg ps (by omega)]
    simp only [Option.bind_some];unfold zE_M zE_m zK_M;rw [bifT (yA (show (ps.map (·.2.2)).length < lenMax by simp [lenMax]; omega))]
    obtain ⟨k,hk1,hk2⟩ := yCV b hE.bas (ps.map (·.2.2)) (fun x => zY_M x.fst b) (fun w => rfl) (ps.map (·.2.2)) 0 (by omega) (by
      intro x hx;obtain ⟨y,hy,rfl⟩ := List.mem_map.1 hx;exact (k2 y hy).1)
    rw [hk1];simp only [Option.bind_some];rw [hk2,List.any_map];rfl
theorem yKr (b : Bas) (v : List Itv) (l : List Rng) (hn : ∀ n ∈ b.1,n.1.length < lenMax) (h0 : yAG b v l = 0) : yFm b v l = some (y0g b v l) := by
  have hE := y6C h0;obtain ⟨g1,g2,g3,g4,g5⟩ := hE.lens;unfold yFm yJz;rw [yDH b v l hn g1 g2 g3,h0,yEM b v l hE];rfl
end Go.Tw
