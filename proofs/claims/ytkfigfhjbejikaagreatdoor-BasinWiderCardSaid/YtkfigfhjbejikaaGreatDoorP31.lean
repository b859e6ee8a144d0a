import Derived.Test.YtkfigfhjbejikaaGreatDoorP28
import Derived.Test.YtkfigfhjbejikaaGreatDoorP27
import Derived.Test.YtkfigfhjbejikaaGreatDoorBG
set_option linter.all false
set_option maxRecDepth 100000
namespace Go.Tw
open Go.Vx Go.Vx.B Go.Proofs
theorem yMo (b : Bas) (l : List Rng) (hl : l.length < lenMax) (hr : ∀ r ∈ l,r.2.2.1.length < lenMax) : zg_M b l = some (yR (y0A b) (y4D b l),()) := by
  unfold zg_M zg_m yR;rw [yIV];simp only [Option.bind_some];cases (y0A b != 0) with
  | true => rfl
  | false =>
    simp only [cond_false];rw [if_neg (by simp),yLV b l hl hr]
    rfl
theorem yEh {out : List Int} {i : Nat} (h : i < out.length) : out[i]? = some (gv out i) := by
  unfold gv;simp [List.getD,List.getElem?_eq_getElem h]
theorem y9o {lo hi : List Int} {k : Nat} {u : Itv} (h : (y0t lo hi)[k]? = some u) : u = (gv lo k,gv hi k,()) ∧ k < lo.length ∧ k < hi.length := by
  unfold y0t at h;rw [List.getElem?_zipWith] at h;by_cases h1 : k < lo.length
  · by_cases h2 : k < hi.length
    · rw [yEh h1,yEh h2] at h;simp only [Option.some.injEq] at h;exact ⟨h.symm,h1,h2⟩
    · rw [List.getElem?_eq_none (l := hi) (by omega)] at h
      cases h' : lo[k]? <;> rw [h'] at h <;> cases h
  · rw [List.getElem?_eq_none (l := lo) (by omega)] at h
    cases h
theorem y4x {lo hi : List Int} {N : Nat} (h1 : lo.length = N) (h2 : hi.length = N) : (y0t lo hi).length = N := by
  unfold y0t; simp; omega
theorem yHP {lo hi : List Int} {N k : Nat} (h1 : lo.length = N) (h2 : hi.length = N) (hk : k < N) : (y0t lo hi)[k]? = some (gv lo k,gv hi k,()) := by
  unfold y0t;rw [List.getElem?_zipWith,yEh (by omega),yEh (by omega)]
theorem yE5 {lo hi : List Int} (h : lo.length = hi.length) : (y0t lo hi).map (endI false) = lo ∧ (y0t lo hi).map (endI true) = hi := by
  induction lo generalizing hi with
  | nil => cases hi with
    | nil => exact ⟨rfl,rfl⟩
    | cons => simp at h
  | cons a lo ih => cases hi with
    | nil => simp at h
    | cons c hi =>
      obtain ⟨h1,h2⟩ := ih (hi := hi) (by simpa using h)
      constructor
      · show a :: (y0t lo hi).map (endI false) = _; rw [h1]
      · show c :: (y0t lo hi).map (endI true) = _; rw [h2]
theorem yMT {b : Bas} {v : List Itv} (hl : v.length = b.1.length) (hr : ∀ x ∈ v,0 ≤ x.1 ∧ x.1 ≤ x.2.1 ∧ x.2.1 ≤ 100000000) : VolsOK b v (v.map (endI true)) :=
  ⟨hl,y2Q.corn true fun x hx => (hr x hx).2.1,hr⟩
theorem yJ7 {b : Bas} {lo hi : List Int} (h1 : Fit b.1.length lo) (h2 : Fit b.1.length hi) (hle : Le lo hi) : VolsOK b (y0t lo hi) ((y0t lo hi).map (endI true)) :=
  yMT (y4x h1.1 h2.1) fun x hx => by
    obtain ⟨k,hk,rfl⟩ := List.getElem_of_mem hx;obtain ⟨e,_,_⟩ := y9o (List.getElem?_eq_getElem hk);rw [e];exact ⟨(h1.2 k).1,hle k,(h2.2 k).2⟩
theorem y5i {b : Bas} {v : List Itv} {m : List Int} {l : List Rng} (hk0 : y0A b = 0) (hv : VolsOK b v m) (hl : l.length ≤ 96) (hck : ∀ r ∈ l,y1t b r = 0) : yAG b v l = 0 := by
  unfold yAG y4D;rw [hk0,hv.ck,yG (show ¬ (l.length : Int) > 96 by omega),y2P (by
    intro e he;obtain ⟨r,hr,rfl⟩ := List.mem_map.1 he;exact hck r hr)]
  rfl
theorem yEx {b : Bas} {v : List Itv} {l : List Rng} (h : runC b v l true = none) : encD b v l = ([],4,()) := by
  unfold encD;rw [h]
theorem yAS {b : Bas} (hk0 : y0A b = 0) {v : List Itv} {m : List Int} {l : List Rng} (hv : VolsOK b v m) (hck : ∀ r ∈ l,y1t b r = 0) {hp : List (Cnd × List Int × List Int)} (h : runC b v l true = some hp) :
    ∃ lp,runC b v l false = some lp ∧ y3U lp hp ∧ encD b v l = (yy (lp.map (·.2.2)) (hp.map (·.2.2)),0,()) := by
  have hro : ∀ r ∈ l,RngOK b r := fun r h => y1z (hck r h)
  obtain ⟨lp,h1,h2⟩ := yDm hk0 (hv.corn false) hro (InRs.corn (b := b) false hro) h;refine ⟨lp,h1,h2,?_⟩;unfold encD;rw [h,show runC b v l false = some lp from h1]
theorem y4S {b : Bas} (hk0 : y0A b = 0) {v : List Itv} {m : List Int} {l : List Rng} (hv : VolsOK b v m) (hck : ∀ r ∈ l,y1t b r = 0) {up : Bool} {ps : List (Cnd × List Int × List Int)} (h : runC b v l up = some ps) :
    ps.length = l.length ∧ ∀ x ∈ ps,Fit b.1.length x.2.2 := by
  have hb := y04 hk0;have hro : ∀ r ∈ l,RngOK b r := fun r h => y1z (hck r h)
  have hc := (InRs.corn (b := b) up hro).ok hro;obtain ⟨k1,_⟩ := y3q hb (hv.corn up).fit.1 (fun c h => (y13 (hc c h)).len) h
  exact ⟨by simpa using k1,yFi hb (y2V hk0) (hv.corn up).fit (fun c h => y13 (hc c h)) h⟩
def wT (d n : Int) : Int := if wr (n - wr d) > -1024 then wr (n - wr d) else -1024
def wI (d : Int) (x : Itv) : Itv := (x.1,(if wr (x.2.1 + wr d) < 100000 then wr (x.2.1 + wr d) else 100000),x.2.2)
def wd (d : Int) (r : Rng) : Rng := ((wT d r.1.1,r.1.2),r.2.1,r.2.2.1.map (wI d),r.2.2.2)
theorem yQX {d n : Int} (h0 : 0 ≤ d) (h1 : d ≤ 255) (hn : -1024 ≤ n) (hn2 : n ≤ 1024) : -1024 ≤ wT d n ∧ wT d n ≤ n := by
  unfold wT;rw [ym (n := d) (by omega) (by omega),ym (by omega) (by omega)]
  split <;> omega
theorem yNH {d : Int} {x : Itv} (h0 : 0 ≤ d) (h1 : d ≤ 255) (hx : 0 ≤ x.1 ∧ x.1 ≤ x.2.1 ∧ x.2.1 ≤ 100000) : (wI d x).1 = x.1 ∧ x.2.1 ≤ (wI d x).2.1 ∧ (wI d x).2.1 ≤ 100000 := by
  unfold wI;rw [ym (n := d) (by omega) (by omega),ym (by omega) (by omega)]
  refine ⟨rfl,?_,?_⟩ <;> dsimp only <;> split <;> omega
theorem yTL {b : Bas} {r : Rng} (h : RngOK b r) : y1t b r = 0 := by
  have ht := h.tide;unfold y1t y94;rw [h.len,y2P (by
    intro e he;obtain ⟨x,hx,rfl⟩ := List.mem_map.1 he;obtain ⟨h1,h2,h3⟩ := h.flow x hx;unfold ckIv;rw [y6N h1 (by omega),y6N (by omega) h3,yG (show ¬ x.1 > x.2.1 by omega)]
    rfl)]
  unfold ckIv;rw [y6N ht.1 (by omega),y6N (by omega) ht.2.2,yG (show ¬ r.1.1 > r.1.2.1 by omega)]
  simp [yR]
theorem yUR {b : Bas} {r : Rng} {d : Int} (h0 : 0 ≤ d) (h1 : d ≤ 255) (h : RngOK b r) : RngOK b (wd d r) := by
  have ht := h.tide;have hw := yQX h0 h1 ht.1 (by omega)
  refine ⟨show -1024 ≤ wT d r.1.1 ∧ wT d r.1.1 ≤ r.1.2.1 ∧ r.1.2.1 ≤ 1024 by omega,by show (r.2.2.1.map _).length = _; rw [List.length_map,h.len],fun x hx => ?_⟩
  obtain ⟨y,hy,rfl⟩ := List.mem_map.1 (show x ∈ r.2.2.1.map (wI d) from hx)
  have hf := h.flow y hy;obtain ⟨k1,k2,k3⟩ := yNH h0 h1 hf;omega
theorem yDZ {f g : Itv → Int} : ∀ (l : List Itv) (i : Nat),(∀ x ∈ l,f x ≤ g x) → gv (l.map f) i ≤ gv (l.map g) i
  | [],i,_ => by simp [gv]
  | x :: l,0,h => h x (by simp)
  | x :: l,i + 1,h => yDZ l i fun y hy => h y (by simp [hy])
theorem yTw {b : Bas} {r : Rng} {d : Int} (h0 : 0 ≤ d) (h1 : d ≤ 255) (h : RngOK b r) : CLe (y2E false (wd d r)) (y2E false r) := by
  have ht := h.tide;have hw := yQX h0 h1 ht.1 (by omega)
  refine ⟨hw.2,rfl,fun i => ?_⟩
  show gv ((r.2.2.1.map (wI d)).map (endI false)) i ≤ gv (r.2.2.1.map (endI false)) i
  rw [List.map_map];exact yDZ _ i fun x hx => by
    have := yNH h0 h1 (h.flow x hx);show (wI d x).1 ≤ x.1
    omega
theorem yOy {b : Bas} {r : Rng} {d : Int} (h0 : 0 ≤ d) (h1 : d ≤ 255) (h : RngOK b r) : CLe (y2E true r) (y2E true (wd d r)) := by
  refine ⟨Int.le_refl _,rfl,fun i => ?_⟩
  show gv (r.2.2.1.map (endI true)) i ≤ gv ((r.2.2.1.map (wI d)).map (endI true)) i
  rw [List.map_map];exact yDZ _ i fun x hx => by
    have := yNH h0 h1 (h.flow x hx);show x.2.1 ≤ (wI d x).2.1
    omega
theorem y7X {f g : Rng → Cnd} : ∀ {l : List Rng},(∀ r ∈ l,CLe (f r) (g r)) → y4i (l.map f) (l.map g)
  | [],_ => trivial
  | r :: l,h => ⟨h r (by simp),y7X fun x hx => h x (by simp [hx])⟩
section
variable (l : List Rng) (b : Bas) (p : List Int) (d : Int) (hp : idx p 1 = some d)
include hp
theorem yJs (t58 t59 tn : Int) (V : List Itv) (P R : List Rng) (i : Int) (hi : i = (P.length : Int)) (t : Itv) (o : Bool) (u : Unit) : ∀ (fr dn : List Itv) (k : Int),k = (dn.length : Int) →
    y0G (fun i__ s__ => y9B l b p i t58 t59 tn V i__ s__) (fun s__ => yEi l b p i t58 t59 tn V s__) fr.length k (P ++ (t,o,dn ++ fr,u) :: R) = some (.inr (P ++ (t,o,dn ++ fr.map (wI d),u) :: R))
  | [],dn,k,_ => rfl
  | x :: fr,dn,k,hk => by
    have e1 : ∀ y,idx (P ++ y :: R) i = some y := fun y => y0x P y R i hi
    have e2 : ∀ y,(P ++ y :: R)[i.toNat]? = some y := fun y => y3L P y R i hi
    have e3 : ∀ y z,(P ++ y :: R).set i.toNat z = P ++ z :: R := fun y z => y3H P y z R i hi
    have e4 : idx (dn ++ x :: fr) k = some x := y0x dn x fr k hk;have e5 : (dn ++ x :: fr)[k.toNat]? = some x := y3L dn x fr k hk;have e6 : ∀ z,(dn ++ x :: fr).set k.toNat z = dn ++ z :: fr := fun z => y3H dn x z fr k hk
    have hbody : y9B l b p i t58 t59 tn V k (P ++ (t,o,dn ++ x :: fr,u) :: R) = some (.inr (P ++ (t,o,dn ++ wI d x :: fr,u) :: R)) := by
      unfold y9B;simp only [e1,e2,e3,e4,e5,e6,hp,Option.bind_some];rfl
    show y0G _ _ (fr.length + 1) k _ = _
    unfold y0G;rw [hbody];have := yJs t58 t59 tn V P R i hi t o u fr (dn ++ [wI d x]) (k + 1) (by simp [hk])
    simpa using this
theorem yCF (t : Int) (V : List Itv) : ∀ (R P : List Rng) (i : Int),i = (P.length : Int) → (∀ r ∈ R,r.2.2.1.length ≤ 8) →
    y0G (fun i__ s__ => y9V l b p t V i__ s__) (fun s__ => y7p l b p t V s__) R.length i (P ++ R) = y7p l b p t V (P ++ R.map (wd d))
  | [],P,i,_,_ => rfl
  | r :: R,P,i,hi,hr => by
    have e1 : ∀ y,idx (P ++ y :: R) i = some y := fun y => y0x P y R i hi
    have e2 : ∀ y,(P ++ y :: R)[i.toNat]? = some y := fun y => y3L P y R i hi
    have e3 : ∀ y z,(P ++ y :: R).set i.toNat z = P ++ z :: R := fun y z => y3H P y z R i hi
    have h8 := hr r (by simp)
    have hbody : y9V l b p t V i (P ++ r :: R) = some (.inr (P ++ wd d r :: R)) := by
      unfold y9V;simp only [e1,e2,e3,hp,Option.bind_some];rw [bifT (yA (show (r.2.2.1.length : Int) ≤ 9223372036854775807 by omega)),show ((r.2.2.1.length : Int) - 0).toNat = r.2.2.1.length by omega]
      have := yJs l b p d hp t i (r.2.2.1.length : Int) V P R i hi (wT d r.1.1,r.1.2) r.2.1 r.2.2.2 r.2.2.1 [] 0 rfl;exact this
    show y0G _ _ (R.length + 1) i _ = _
    unfold y0G;rw [hbody];have := yCF t V R (P ++ [wd d r]) (i + 1) (by simp [hi]) (fun y hy => hr y (by simp [hy]))
    simpa using this
end
theorem yIw {b : Bas} {l : List Rng} (k : Int) (h : ∀ r ∈ l,y1t b r = 0) : ∀ r ∈ clD k 0 l,y1t b r = 0 := by
  have key : ∀ (l : List Rng) (i : Int),(∀ r ∈ l,y1t b r = 0) → ∀ r ∈ clD k i l,y1t b r = 0 := by
    intro l;induction l with
    | nil => intro i _ r hr; simp [clD] at hr
    | cons x l ih =>
      intro i h r hr;rcases List.mem_cons.1 hr with rfl | hr
      · exact h x (by simp)
      · exact ih (i + 1) (fun y hy => h y (by simp [hy])) r hr
  exact key l 0 h
theorem yF3 (b : Bas) (v : List Itv) (l : List Rng) : (y0g b v l).2.1 = 0 ∨ (y0g b v l).2.1 = 4 := by
  unfold y0g;cases runC b v l true with
  | none => exact .inr rfl
  | some ps => exact .inl rfl
theorem yEU (b : Bas) (v : List Itv) (l : List Rng) : ∀ m : Nat,(latD b v l m).2.1 = 4 ∨
    ((latD b v l m).2.1 = 24 ∧ ∀ n : Nat,n < m → (y0g b v (clD n 0 l)).2.1 = 0 ∧ (y0g b v (clD n 0 l)).1 = false) ∨
    ((latD b v l m).2.1 = 0 ∧ ∃ k : Nat,(latD b v l m).1 = (k : Int) ∧ k < m ∧ (y0g b v (clD k 0 l)).1 = true ∧ ∀ n : Nat,k < n → n < m → (y0g b v (clD n 0 l)).1 = false)
  | 0 => .inr (.inl ⟨rfl,fun n h => by omega⟩)
  | m + 1 => by
    unfold latD;rcases yF3 b v (clD m 0 l) with he | he
    · rw [he,bifF (show ((0 : Int) != 0) = false from rfl)]
      cases hs : (y0g b v (clD m 0 l)).1 with
      | true =>
        rw [cond_true];exact .inr (.inr ⟨rfl,m,rfl,by omega,hs,fun n h1 h2 => by omega⟩)
      | false =>
        rw [cond_false];rcases yEU b v l m with h | ⟨h1,h2⟩ | ⟨h1,k,h2,h3,h4,h5⟩
        · exact .inl h
        · refine .inr (.inl ⟨h1,fun n hn => ?_⟩)
          by_cases hnm : n = m
          · subst hnm; exact ⟨he,hs⟩
          · exact h2 n (by omega)
        · refine .inr (.inr ⟨h1,k,h2,by omega,h4,fun n hk hn => ?_⟩)
          by_cases hnm : n = m
          · subst hnm; exact hs
          · exact h5 n hk (by omega)
    · rw [he,bifT (show ((4 : Int) != 0) = true from rfl)]
      exact .inl rfl
section
variable (b : Bas) (V : List Itv) (M : List Int) (l : List Rng) (hk0 : y0A b = 0) (hn : ∀ n ∈ b.1,n.1.length < lenMax) (hv : VolsOK b V M) (hl : l.length ≤ 8) (hck : ∀ r ∈ l,y1t b r = 0) (k e4 : Int)
include hk0 hn hv hl hck
theorem yEc (n t1 t2 t3 : Int) : ∀ (r p : List Rng) (i : Int),i = (p.length : Int) →
    y0G (fun i__ s__ => y5q l b V k e4 n t1 t2 t3 i__ s__) (fun s__ => y4r l b V k e4 n t1 t2 t3 s__) r.length i (p ++ r) = y4r l b V k e4 n t1 t2 t3 (p ++ clD n i r)
  | [],p,i,_ => rfl
  | x :: r,p,i,hi => by
    have hbody : y5q l b V k e4 n t1 t2 t3 i (p ++ x :: r) = some (.inr (p ++ (x.1,decide (i < n),x.2.2.1,()) :: r)) := by
      unfold y5q;rw [y0x p x r i hi];simp only [Option.bind_some];rw [y3L p x r i hi];simp only [Option.bind_some];rw [y3H p x _ r i hi]
    show y0G _ _ (r.length + 1) i _ = _
    unfold y0G;rw [hbody];have := yEc n t1 t2 t3 r (p ++ [(x.1,decide (i < n),x.2.2.1,())]) (i + 1) (by simp [hi])
    simpa [clD] using this
theorem yIQ (n t1 t2 t3 : Int)
    (hs : (y0g b V (clD n 0 l)).2.1 = 0 → (e4 = 0 ∧ (n = k → (y0g b V (clD n 0 l)).1 = true) ∧ (n > k → (y0g b V (clD n 0 l)).1 = false)) ∨ (e4 = 24 ∧ (y0g b V (clD n 0 l)).1 = false)) :
    y4r l b V k e4 n t1 t2 t3 (clD n 0 l) = some (.inr ()) := by
  have hmem : memMax = 68719476736 := rfl;have hb := y04 hk0;have h8 := hb.nodes;have h16 := hb.links;have hvl := hv.len;unfold y4r;rw [y7R b (by omega) (by omega),y2b V (by omega)]
  simp only [Option.bind_some];rw [yKr b V _ hn (y5i hk0 hv (by rw [y68]; omega) (yIw n hck))]
  simp only [Option.bind_some];rcases yF3 b V (clD n 0 l) with he | he
  · rcases hs he with ⟨h1,h2,h3⟩ | ⟨h1,h2⟩
    · rw [he,h1];by_cases hnk : n = k
      · rw [h2 hnk,hnk];simp
      · have hne : (n == k) = false := by simpa using hnk
        by_cases hgt : n > k
        · rw [h3 hgt];simp [hne]
        · cases (y0g b V (clD n 0 l)).1 <;> simp [hne,hgt]
    · rw [he,h1,h2];simp
  · rw [he];simp
theorem yK2 (n t1 t2 : Int)
    (hs : (y0g b V (clD n 0 l)).2.1 = 0 → (e4 = 0 ∧ (n = k → (y0g b V (clD n 0 l)).1 = true) ∧ (n > k → (y0g b V (clD n 0 l)).1 = false)) ∨ (e4 = 24 ∧ (y0g b V (clD n 0 l)).1 = false)) :
    yK (fun i__ e__ s__ => y7n l l b V k e4 n t1 t2 i__ e__ s__) (fun s__ => y88 l l b V k e4 n t1 t2 s__) 0 l [] = some (.inr ()) := by
  have hmem : memMax = 68719476736 := rfl;have hb := y04 hk0;have h8 := hb.nodes;rw [y0Z (fun c => c) l 0 [] (by simp; omega) (fun i e s he hsl => by
    unfold y7n;rw [bifT (yA (show e.2.2.1.length ≤ memMax by have := (y1z (hck e he)).len; omega)),yA (show 0 < 1 by omega),yA hsl]
    rfl)]
  rw [List.map_id',List.nil_append];unfold y88;rw [bifT (yA (show ((l.length : Nat) : Int) ≤ 9223372036854775807 by omega)),show (((l.length : Nat) : Int) - 0).toNat = l.length by omega]
  have := yEc b V M l hk0 hn hv hl hck k e4 n t1 t2 (l.length : Int) l [] 0 rfl;rw [List.nil_append,List.nil_append] at this;rw [this];exact yIQ b V M l hk0 hn hv hl hck k e4 n t1 t2 _ hs
theorem yFP (t : Int) (hs : ∀ n : Nat,n ≤ l.length → (y0g b V (clD n 0 l)).2.1 = 0 → (e4 = 0 ∧ ((n : Int) = k → (y0g b V (clD n 0 l)).1 = true) ∧ ((n : Int) > k → (y0g b V (clD n 0 l)).1 = false)) ∨ (e4 = 24 ∧ (y0g b V (clD n 0 l)).1 = false)) :
    ∀ (m : Nat) (n : Nat),n + m = l.length + 1 → y0G (fun i__ s__ => y66 l b V k e4 t i__) (fun s__ => y65 l b V k e4 t) m (n : Int) () = some (true,())
  | 0,n,_ => by
    show y65 l b V k e4 t = _
    unfold y65;rw [y4N];rfl
  | m + 1,n,hm => by
    have hbody : y66 l b V k e4 t (n : Int) = some (.inr ()) := by
      unfold y66;rw [bifT (yA (show l.length < lenMax by unfold lenMax; omega))]
      exact yK2 b V M l hk0 hn hv hl hck k e4 n t n (hs n (by omega))
    unfold y0G;rw [hbody];have := yFP t hs m (n + 1) (by omega)
    simpa using this
end
section
variable (b : Bas) (V : List Itv) (M : List Int) (l : List Rng) (hk0 : y0A b = 0) (hn : ∀ n ∈ b.1,n.1.length < lenMax) (hv : VolsOK b V M) (hl : l.length ≤ 8) (hck : ∀ r ∈ l,y1t b r = 0)
include hk0 hn hv hl hck
theorem yD6 : y7z l b V = some (true,()) := by
  have hmem : memMax = 68719476736 := rfl;have aw : (y22.bind fun v6 => some (v6.1,())) = some (true,()) := by rw [y4N]; rfl
  have hb := y04 hk0;have h8 := hb.nodes;have h16 := hb.links;have hvl := hv.len;have hrl : ∀ r ∈ l,r.2.2.1.length ≤ memMax := fun r h => by have := (y1z (hck r h)).len; omega
  unfold y7z;rw [y7R b (by omega) (by omega),y2b V (by omega),y7u l (by omega) hrl]
  simp only [Option.bind_some];rw [yGE b V l hn (y5i hk0 hv (by omega) hck)]
  simp only [Option.bind_some];have fin : ∀ k e4 : Int,(∀ n : Nat,n ≤ l.length → (y0g b V (clD n 0 l)).2.1 = 0 → (e4 = 0 ∧ ((n : Int) = k → (y0g b V (clD n 0 l)).1 = true) ∧ ((n : Int) > k → (y0g b V (clD n 0 l)).1 = false)) ∨ (e4 = 24 ∧ (y0g b V (clD n 0 l)).1 = false)) →
      y4u l b V (k,e4,()) = some (true,()) := fun k e4 hs => by
    unfold y4u;have ew : IntKind.i64.wrap ((l.length : Int) + 1) = (l.length : Int) + 1 := ym (by omega) (by omega)
    rw [ew,bifT (yA (show (l.length : Int) + 1 ≤ 9223372036854775807 by omega)),show ((l.length : Int) + 1 - 0).toNat = l.length + 1 by omega]
    exact yFP b V M l hk0 hn hv hl hck k e4 _ hs (l.length + 1) 0 (by omega)
  rcases yEU b V l (l.length + 1) with h | ⟨h1,h2⟩ | ⟨h1,k,h2,h3,h4,h5⟩
  · rw [h,bifT (show ((4 : Int) == 4) = true from rfl)]
    exact aw
  · have f := fin (latD b V l (l.length + 1)).1 24 (fun n hn he => .inr ⟨rfl,(h2 n (by omega)).2⟩)
    have e : latD b V l (l.length + 1) = ((latD b V l (l.length + 1)).1,24,()) := by
      rw [← h1]
    rw [h1,bifF (show ((24 : Int) == 4) = false from rfl),bifT (show ((24 : Int) != 0) = true from rfl),bifF (show ((24 : Int) != 24) = false from rfl),bifF (show ((24 : Int) == 0) = false from rfl),e]
    exact f
  · have f := fin (k : Int) 0 (fun n hn he => .inl ⟨rfl,fun e => by
      have : n = k := by omega
      rw [this]; exact h4,fun g => h5 n (by omega) (by omega)⟩)
    have e : latD b V l (l.length + 1) = ((k : Int),0,()) := by rw [← h1,← h2]
    rw [e];dsimp only;rw [bifF (show ((0 : Int) == 4) = false from rfl),bifF (show ((0 : Int) != 0) = false from rfl),bifT (show ((0 : Int) == 0) = true from rfl),bifF (yG (show ¬ (k : Int) < 0 by omega)),bifF (yG (show ¬ (k : Int) > (l.length : Int) by omega))]
    exact f
theorem yHD {hp lp : List (Cnd × List Int × List Int)} (hh : runC b V l true = some hp) (hlo : runC b V l false = some lp) (hle : y3U lp hp) (n : Nat) (hnl : n < l.length) :
    ∃ x,(yy (lp.map (·.2.2)) (hp.map (·.2.2)))[n]? = some x ∧ VolsOK b x (x.map (endI true)) ∧ encD b x (l.drop (n + 1)) = ((yy (lp.map (·.2.2)) (hp.map (·.2.2))).drop (n + 1),0,()) := by
  have hb := y04 hk0;have he := y2V hk0;have hro : ∀ r ∈ l,RngOK b r := fun r h => y1z (hck r h)
  have hcT := (InRs.corn (b := b) true hro).ok hro;have hcF := (InRs.corn (b := b) false hro).ok hro;obtain ⟨oh,a1,a2,a3⟩ := y9j hb he n _ _ hp hh (hv.corn true).fit (fun c h => y13 (hcT c h)) (by simpa using hnl)
  obtain ⟨ol,c1,c2,c3⟩ := y9j hb he n _ _ lp hlo (hv.corn false).fit (fun c h => y13 (hcF c h)) (by simpa using hnl)
  have hlh : Le ol oh := by
    rw [List.getElem?_map,Option.map_eq_some_iff] at a1 c1;obtain ⟨y,y1,rfl⟩ := a1;obtain ⟨z,z1,rfl⟩ := c1;exact hle.at n z y z1 y1
  obtain ⟨m1,m2⟩ := yE5 (lo := ol) (hi := oh) (by rw [a3.1,c3.1])
  refine ⟨y0t ol oh,?_,yJ7 c3 a3 hlh,?_⟩
  · unfold yy;rw [List.getElem?_zipWith,c1,a1]
  · rw [← List.map_drop] at a2 c2;unfold encD runC;rw [m1,m2,a2,c2];unfold yy;rw [List.drop_zipWith,← List.map_drop,← List.map_drop]
theorem yJd {hp lp : List (Cnd × List Int × List Int)} (hh : runC b V l true = some hp) (hlo : runC b V l false = some lp) (hle : y3U lp hp) (p : List Int) (d : Int) (hpd : idx p 1 = some d) (h0 : 0 ≤ d) (h1 : d ≤ 255) (Y : List (List Itv)) :
    y7Z l b p V (yy (lp.map (·.2.2)) (hp.map (·.2.2))) Y = some (true,()) := by
  have hmem : memMax = 68719476736 := rfl;have hb := y04 hk0;have h8 := hb.nodes;have h16 := hb.links;have hlat := yD6 b V M l hk0 hn hv hl hck;have hrl : ∀ r ∈ l,r.2.2.1.length ≤ memMax := fun r h => by have := (y1z (hck r h)).len; omega
  obtain ⟨k1,k2⟩ := y4S hk0 hv hck hh;obtain ⟨k3,k4⟩ := y4S hk0 hv hck hlo;have hX : (yy (lp.map (·.2.2)) (hp.map (·.2.2))).length = l.length := by simp [yy]; omega
  unfold y7Z;by_cases hl0 : l.length = 0
  · rw [bifF (yG (show ¬ (l.length : Int) > 0 by omega))]
    exact hlat
  · rw [bifT (yA (show (l.length : Int) > 0 by omega)),hpd]
    simp only [Option.bind_some];rw [bifF (show ((l.length : Int) == 0) = false by simpa using hl0),y7R b (by omega) (by omega)]
    simp only [Option.bind_some];show ((idx (yy (lp.map (·.2.2)) (hp.map (·.2.2))) ((wr d).tmod (l.length : Int))).bind _) = _
    have hm : 0 ≤ (wr d).tmod (l.length : Int) ∧ (wr d).tmod (l.length : Int) < l.length := by
      rw [ym (by omega) (by omega),Int.tmod_eq_emod_of_nonneg h0]
      exact ⟨Int.emod_nonneg _ (by omega),Int.emod_lt_of_pos _ (by omega)⟩
    obtain ⟨n,hn'⟩ : ∃ n : Nat,(wr d).tmod (l.length : Int) = (n : Int) := ⟨((wr d).tmod (l.length : Int)).toNat,by omega⟩
    have hd : (IntKind.i64.wrap d).tmod (l.length : Int) = (n : Int) := hn';rw [hn'] at hm;obtain ⟨x,x1,x2,x3⟩ := yHD b V M l hk0 hn hv hl hck hh hlo hle n (by omega)
    have hxl := x2.len;have ew : IntKind.i64.wrap ((n : Int) + 1) = (n : Int) + 1 := ym (by omega) (by omega)
    rw [hn',ew,show idx (yy (lp.map (·.2.2)) (hp.map (·.2.2))) (n : Int) = some x by unfold idx; rw [if_pos (by omega)]; exact x1]
    simp only [Option.bind_some];rw [y2b x (by omega)]
    simp only [Option.bind_some];rw [bifT (by rw [yA (show (0 : Int) ≤ (n : Int) + 1 by omega),yA (show (n : Int) + 1 ≤ (l.length : Int) by omega)]; rfl),show ((n : Int) + 1).toNat = n + 1 by omega,
      y7u (l.drop (n + 1)) (by simp; omega) (fun r h => hrl r (List.mem_of_mem_drop h))]
    simp only [Option.bind_some];rw [y4o b x _ hn (y5i hk0 x2 (by simp; omega) fun r h => hck r (List.mem_of_mem_drop h)),x3]
    simp only [Option.bind_some];rw [bifF (show ((0 : Int) != 0) = false from rfl),bifT (by rw [yA (show (0 : Int) ≤ (n : Int) + 1 by omega),yA (show (n : Int) + 1 ≤ ((yy (lp.map (·.2.2)) (hp.map (·.2.2))).length : Int) by omega)]; rfl),
      yCl _ (by unfold lenMax; simp; omega) (fun r h => by
        have := y89 (N := b.1.length) _ (hp.map (·.2.2)) (fun y hy => by
          obtain ⟨z,hz,rfl⟩ := List.mem_map.1 hy;exact Nat.le_of_eq (k4 z hz).1) r (List.mem_of_mem_drop h)
        omega)]
    simp only [Option.bind_some,Bool.not_true,cond_false];exact hlat
end
section
variable (l : List Rng) (b : Bas) (p : List Int) (V : List Itv) (X Y : List (List Itv))
def InW (u w : Itv) : Prop := 0 ≤ u.1 ∧ u.2.1 ≤ 100000000 ∧ u.1 ≤ u.2.1 ∧ w.1 ≤ u.1 ∧ u.2.1 ≤ w.2.1
theorem y9O (i t1 t2 : Int) (x y : List Itv) (hx : idx X i = some x) (hy : idx Y i = some y) (hxy : ∀ (k : Nat) u,x[k]? = some u → ∃ w,y[k]? = some w ∧ InW u w) : ∀ (m : Nat) (k : Nat),k + m = x.length →
    y0G (fun j__ s__ => y9Q l b p V X Y i t1 t2 (x.length : Int) j__) (fun s__ => yFE l b p V X Y i t1 t2 (x.length : Int)) m (k : Int) () = some (.inr ())
  | 0,k,_ => rfl
  | m + 1,k,hm => by
    have hk : k < x.length := by omega
    have e1 : idx x (k : Int) = some x[k] := by unfold idx; rw [if_pos (by omega)]; exact List.getElem?_eq_getElem hk
    obtain ⟨w,w1,h1,h2,h3,h4,h5⟩ := hxy k x[k] (List.getElem?_eq_getElem hk);have e2 : idx y (k : Int) = some w := by unfold idx; rw [if_pos (by omega)]; exact w1
    have hbody : y9Q l b p V X Y i t1 t2 (x.length : Int) (k : Int) = some (.inr ()) := by
      unfold y9Q;simp only [hx,hy,e1,e2,Option.bind_some];rw [bifF (yG (by omega)),bifF (yG (by omega)),bifF (yG (by omega)),bifF (yG (by omega)),bifF (yG (by omega))]
    unfold y0G;rw [hbody];have := y9O i t1 t2 x y hx hy hxy m (k + 1) (by omega)
    simpa using this
theorem yJZ (h8 : b.1.length ≤ 8) (hXY : ∀ (i : Nat) x,X[i]? = some x → ∃ y,Y[i]? = some y ∧ x.length = b.1.length ∧ y.length = b.1.length ∧ ∀ (k : Nat) u,x[k]? = some u → ∃ w,y[k]? = some w ∧ InW u w) :
    yK (fun i__ e__ s__ => yBs l b p V X Y i__ e__) (fun s__ => y7Z l b p V X Y) 0 X () = y7Z l b p V X Y :=
  y64 X (fun q x r e => by
    have hx : X[q.length]? = some x := by rw [e]; simp
    obtain ⟨y,y1,y2,y3,y4⟩ := hXY q.length x hx;have hix : idx X (q.length : Int) = some x := by unfold idx; rw [if_pos (by omega)]; exact hx
    have hiy : idx Y (q.length : Int) = some y := by unfold idx; rw [if_pos (by omega)]; exact y1
    unfold yBs;rw [bifF (show ((x.length : Int) != (b.1.length : Int)) = false by simp [y2]),hiy]
    simp only [Option.bind_some];rw [bifF (show ((y.length : Int) != (b.1.length : Int)) = false by simp [y3]),hix]
    simp only [Option.bind_some];rw [bifT (yA (show (x.length : Int) ≤ 9223372036854775807 by omega)),show ((x.length : Int) - 0).toNat = x.length by omega]
    exact y9O l b p V X Y _ _ _ x y hix hiy y4 x.length 0 (by omega)) X [] 0 rfl rfl
end
section
variable (b : Bas) (V : List Itv) (M : List Int) (l : List Rng) (hk0 : y0A b = 0) (hn : ∀ n ∈ b.1,n.1.length < lenMax) (hv : VolsOK b V M) (hl : l.length ≤ 8) (hck : ∀ r ∈ l,y1t b r = 0) (p : List Int) (d : Int) (hpd : idx p 1 = some d) (h0 : 0 ≤ d) (h1 : d ≤ 255)
include hk0 hn hv hl hck hpd h0 h1
theorem yIt (t : Int) : y7p l b p t V (l.map (wd d)) = some (true,()) := by
  have hmem : memMax = 68719476736 := rfl;have aw : (y22.bind fun v6 => some (v6.1,())) = some (true,()) := by rw [y4N]; rfl
  have hb := y04 hk0;have he := y2V hk0;have h8 := hb.nodes;have h16 := hb.links;have hvl := hv.len;have hro : ∀ r ∈ l,RngOK b r := fun r h => y1z (hck r h)
  have hrl : ∀ r ∈ l,r.2.2.1.length ≤ memMax := fun r h => by have := (hro r h).len; omega
  have hrw : ∀ r ∈ l.map (wd d),RngOK b r := fun r h => by
    obtain ⟨x,hx,rfl⟩ := List.mem_map.1 h;exact yUR h0 h1 (hro x hx)
  have hcw : ∀ r ∈ l.map (wd d),y1t b r = 0 := fun r h => yTL (hrw r h)
  have cT := (InRs.corn (b := b) true hro).ok hro;have cF := (InRs.corn (b := b) false hro).ok hro;have wT := (InRs.corn (b := b) true hrw).ok hrw;have wF := (InRs.corn (b := b) false hrw).ok hrw;have leT : y4i (l.map (y2E true)) ((l.map (wd d)).map (y2E true)) := by rw [List.map_map]; exact y7X fun r h => yOy h0 h1 (hro r h)
  have leF : y4i ((l.map (wd d)).map (y2E false)) (l.map (y2E false)) := by rw [List.map_map]; exact y7X fun r h => yTw h0 h1 (hro r h)
  unfold y7p;rw [y7R b (by omega) (by omega),y2b V (by omega),y7u l (by omega) hrl]
  simp only [Option.bind_some];rw [y4o b V l hn (y5i hk0 hv (by omega) hck),y4o b V (l.map (wd d)) hn (y5i hk0 hv (by simp; omega) hcw)]
  simp only [Option.bind_some];cases hy : runC b V (l.map (wd d)) true with
  | none =>
    rw [yEx hy];cases hx : runC b V l true with
    | none =>
      rw [yEx hx];show y5E l b p V ([],4,()) ([],4,()) true = _
      unfold y5E;exact aw
    | some hp =>
      obtain ⟨lp,_,_,e1⟩ := yAS hk0 hv hck hx;rw [e1];show y5E l b p V (yy (lp.map (·.2.2)) (hp.map (·.2.2)),0,()) ([],4,()) true = _
      unfold y5E;exact aw
  | some hq =>
    obtain ⟨hp,hx,hle1⟩ := y52 hb he (hv.corn true).fit (hv.corn true).fit (fun c h => y13 (cT c h)) (fun c h => y13 (wT c h)) (fun _ => Int.le_refl _) leT hy
    have hx : runC b V l true = some hp := hx;obtain ⟨lp,g1,g2,g3⟩ := yAS hk0 hv hck hx;obtain ⟨lq,q1,q2,q3⟩ := yAS hk0 hv hcw hy;obtain ⟨lq',q1',hle2⟩ := y52 hb he (hv.corn false).fit (hv.corn false).fit (fun c h => y13 (wF c h)) (fun c h => y13 (cF c h)) (fun _ => Int.le_refl _) leF g1
    have eq : lq' = lq := Option.some.inj (q1'.symm.trans q1);subst eq;obtain ⟨k1,k2⟩ := y4S hk0 hv hck hx;obtain ⟨k3,k4⟩ := y4S hk0 hv hck g1;obtain ⟨k5,k6⟩ := y4S hk0 hv hcw hy;obtain ⟨k7,k8⟩ := y4S hk0 hv hcw q1;rw [List.length_map] at k5 k7;rw [g3,q3];show y5E l b p V (yy (lp.map (·.2.2)) (hp.map (·.2.2)),0,()) (yy (lq'.map (·.2.2)) (hq.map (·.2.2)),0,()) false = _
    unfold y5E;have hX : (yy (lp.map (·.2.2)) (hp.map (·.2.2))).length = l.length := by simp [yy]; omega
    have hY : (yy (lq'.map (·.2.2)) (hq.map (·.2.2))).length = l.length := by simp [yy]; omega
    rw [cond_false,bifF (by simp [hX]),bifF (by simp [hY]),bifT (yA (show (yy (lp.map (·.2.2)) (hp.map (·.2.2))).length < lenMax by unfold lenMax; omega)),
      yJZ l b p V _ _ h8 (fun i x hxi => by
        unfold yy at hxi;rw [List.getElem?_zipWith] at hxi;have hi : i < l.length := by
          by_cases hi : i < l.length
          · exact hi
          · rw [List.getElem?_eq_none (l := lp.map (·.2.2)) (by simp; omega)] at hxi
            cases hxi
        have a1 : (lp.map (·.2.2))[i]? = some (lp[i]'(by omega)).2.2 := by simp [List.getElem?_eq_getElem (show i < lp.length by omega)]
        have a2 : (hp.map (·.2.2))[i]? = some (hp[i]'(by omega)).2.2 := by simp [List.getElem?_eq_getElem (show i < hp.length by omega)]
        have a3 : (lq'.map (·.2.2))[i]? = some (lq'[i]'(by omega)).2.2 := by simp [List.getElem?_eq_getElem (show i < lq'.length by omega)]
        have a4 : (hq.map (·.2.2))[i]? = some (hq[i]'(by omega)).2.2 := by simp [List.getElem?_eq_getElem (show i < hq.length by omega)]
        rw [a1,a2] at hxi;have f1 := k4 (lp[i]'(by omega)) (List.getElem_mem _)
        have f2 := k2 (hp[i]'(by omega)) (List.getElem_mem _)
        have f3 := k8 (lq'[i]'(by omega)) (List.getElem_mem _)
        have f4 := k6 (hq[i]'(by omega)) (List.getElem_mem _)
        have g1 := g2.at i _ _ (List.getElem?_eq_getElem (show i < lp.length by omega)) (List.getElem?_eq_getElem (show i < hp.length by omega))
        have g2 := hle1.at i _ _ (List.getElem?_eq_getElem (show i < hp.length by omega)) (List.getElem?_eq_getElem (show i < hq.length by omega))
        have g3 := hle2.at i _ _ (List.getElem?_eq_getElem (show i < lq'.length by omega)) (List.getElem?_eq_getElem (show i < lp.length by omega))
        generalize (lp[i]'(by omega)).2.2 = lo at *
        generalize (hp[i]'(by omega)).2.2 = hi' at *
        generalize (lq'[i]'(by omega)).2.2 = lo2 at *
        generalize (hq[i]'(by omega)).2.2 = hi2 at *
        have hxe : y0t lo hi' = x := Option.some.inj hxi;subst hxe;refine ⟨y0t lo2 hi2,by unfold yy; rw [List.getElem?_zipWith,a3,a4],y4x f1.1 f2.1,y4x f3.1 f4.1,fun k u hu => ?_⟩
        obtain ⟨u1,u2,u3⟩ := y9o hu;refine ⟨_,yHP f3.1 f4.1 (show k < b.1.length by rw [← f1.1]; exact u2),?_⟩
        rw [u1];exact ⟨(f1.2 k).1,(f2.2 k).2,g1 k,g3 k,g2 k⟩)]
    exact yJd b V M l hk0 hn hv hl hck hx g1 g2 p d hpd h0 h1 _
end
theorem yCT (l : List Rng) (b : Bas) (p : List Int) (c t : Int) (hpc : idx p 0 = some c) (h0 : 0 ≤ c) (h1 : c ≤ 255) : ∀ (m : Nat) (i : Int) (s : List Itv),s.length + m ≤ 8 → (∀ x ∈ s,0 ≤ x.1 ∧ x.1 ≤ x.2.1 ∧ x.2.1 ≤ 100000000) →
    ∃ v,y0G (fun i__ s__ => yFw l b p t i__ s__) (fun s__ => yD1 l b p t s__) m i s = yD1 l b p t v ∧ v.length = s.length + m ∧ ∀ x ∈ v,0 ≤ x.1 ∧ x.1 ≤ x.2.1 ∧ x.2.1 ≤ 100000000
  | 0,i,s,_,hs => ⟨s,rfl,rfl,hs⟩
  | m + 1,i,s,hm,hs => by
    have hmem : memMax = 68719476736 := rfl;have hbody : yFw l b p t i s = some (.inr (s ++ [(0,c,())])) := by
      unfold yFw;rw [hpc];simp only [Option.bind_some];rw [bifT (yA (show s.length + 1 ≤ memMax by omega)),show IntKind.i64.wrap c = c from ym (by omega) (by omega)]
    obtain ⟨v,r1,r2,r3⟩ := yCT l b p c t hpc h0 h1 m (i + 1) (s ++ [(0,c,())]) (by simp; omega) (fun x hx => by
      rcases List.mem_append.1 hx with hx | hx
      · exact hs x hx
      · simp only [List.mem_singleton] at hx;subst hx;show 0 ≤ (0 : Int) ∧ 0 ≤ c ∧ c ≤ 100000000
        omega)
    refine ⟨v,?_,by rw [r2]; simp; omega,r3⟩
    unfold y0G;rw [hbody];exact r1
theorem yOD (l : List Rng) (b : Bas) (p : List Int) (t : Int) (V : List Itv) (hk0 : y0A b = 0) (hn : ∀ n ∈ b.1,n.1.length < lenMax) (hv : VolsOK b V (V.map (endI true))) (hl : l.length ≤ 8) (hck : ∀ r ∈ l,y1t b r = 0) (d : Int) (hpd : idx p 1 = some d) (h0 : 0 ≤ d) (h1 : d ≤ 255) :
    yD1 l b p t V = some (true,()) := by
  have hmem : memMax = 68719476736 := rfl;have hb := y04 hk0;have h8 := hb.nodes;unfold yD1;rw [bifT (yA (show l.length < lenMax by unfold lenMax; omega)),y0Z (fun c => c) l 0 [] (by simp; omega) (fun i e s he hsl => by
    unfold yEr;rw [bifT (yA (show e.2.2.1.length ≤ memMax by have := (y1z (hck e he)).len; omega)),yA (show 0 < 1 by omega),yA hsl]
    rfl)]
  rw [List.map_id',List.nil_append];unfold yEX;rw [bifT (yA (show ((l.length : Nat) : Int) ≤ 9223372036854775807 by omega)),show (((l.length : Nat) : Int) - 0).toNat = l.length by omega]
  have := yCF l b p d hpd (l.length : Int) V l [] 0 rfl (fun r hr => by have := (y1z (hck r hr)).len; omega)
  rw [List.nil_append,List.nil_append] at this;rw [this];exact yIt b V _ l hk0 hn hv hl hck p d hpd h0 h1 _
structure TwoOK (p : List Int) : Prop where
  len : p.length = 2
  byte : ∀ x ∈ p,0 ≤ x ∧ x ≤ 255
theorem yJx (b : Bas) (l : List Rng) (p : List Int) (hp : TwoOK p) (hlr : ∀ r ∈ l,r.2.2.1.length < lenMax) : zn_M b l p = some (true,()) := by
  have hmem : memMax = 68719476736 := rfl;have aw : (y22.bind fun v6 => some (v6.1,())) = some (true,()) := by rw [y4N]; rfl
  unfold zn_M;obtain ⟨s,hs,hs2⟩ := yKB b;rw [hs];simp only [Option.bind_some];cases s with
  | false => exact aw
  | true =>
    obtain ⟨h9,h17,h60⟩ := hs2 rfl;simp only [Bool.not_true,cond_false];by_cases hl : l.length ≤ 8
    · rw [bifF (yG (show ¬ (l.length : Int) > 8 by omega)),yMo b l (by unfold lenMax; omega) hlr]
      simp only [Option.bind_some];by_cases h0 : yR (y0A b) (y4D b l) = 0
      · rw [h0,bifF (show ((0 : Int) != 0) = false from rfl)]
        obtain ⟨hk0,hk1⟩ := yb h0;have hb := y04 hk0;have h8 := hb.nodes;have hn : ∀ n ∈ b.1,n.1.length < lenMax := fun n hn => by have := h60 n hn; unfold lenMax; omega
        have hlen := hp.len;have e0 : idx p 0 = some p[0] := by unfold idx; rw [if_pos (by omega)]; exact List.getElem?_eq_getElem (by omega)
        have e1 : idx p 1 = some p[1] := by unfold idx; rw [if_pos (by omega)]; exact List.getElem?_eq_getElem (by omega)
        have b0 := hp.byte p[0] (List.getElem_mem _);have b1 := hp.byte p[1] (List.getElem_mem _);obtain ⟨V,r1,r2,r3⟩ := yCT l b p p[0] (b.1.length : Int) e0 b0.1 b0.2 b.1.length 0 [] (by simp; omega) (by simp)
        rw [bifT (yA (show (b.1.length : Int) ≤ 9223372036854775807 by omega)),show ((b.1.length : Int) - 0).toNat = b.1.length by omega,r1]
        exact yOD l b p _ V hk0 hn (yMT (by simpa using r2) r3) hl (yDq hk1) p[1] e1 b1.1 b1.2
      · rw [bifT (show (yR (y0A b) (y4D b l) != 0) = true by simpa using h0)]
        exact aw
    · rw [bifT (yA (show (l.length : Int) > 8 by omega))]
      exact aw
end Go.Tw
