import Derived.Test.YtkfigfhjbejikaaGreatDoorPB
import Derived.Test.YtkfigfhjbejikaaGreatDoorBF
import Derived.Test.YtkfigfhjbejikaaGreatDoorB23
set_option linter.all false
section
set_option maxRecDepth 100000
namespace Go.Tw
open Go.Vx Go.Vx.B Go.Proofs
abbrev Itv := Int × Int × Unit
def ckIv (x : Itv) (lo hi : Int) : Int := yR (ckR x.1 lo hi) (yR (ckR x.2.1 lo hi) (bif decide (x.1 > x.2.1) then 11 else 0))
def y94 (l : List Itv) (n : Int) (most : Int) : Int := yR (bif (l.length : Int) != n then 2 else 0) (y0Y (l.map fun x => ckIv x 0 most))
def y1t (b : Bas) (r : Rng) : Int := yR (ckIv r.1 (-1024) 1024) (y94 r.2.2.1 b.1.length 100000)
def y4D (b : Bas) (l : List Rng) : Int := yR (bif decide ((l.length : Int) > 96) then 5 else 0) (y0Y (l.map (y1t b)))
theorem y5H (a b c : Int) : yR (yR a b) c = yR a (yR b c) := by
  unfold yR;cases ha : (a != 0) <;> simp_all
theorem yLp (x : Itv) (lo hi : Int) : zW_M x lo hi = some (ckIv x lo hi,()) := by
  unfold zW_M zW_m ckIv;simp only [y0V];rw [y5L _ (by simp [lenMax]),yk,yk,y27,y1H,← y5H]
  simp only [Option.bind_some];generalize yR (ckR x.1 lo hi) (ckR x.2.1 lo hi) = e;unfold yR;cases he : (e != 0) with
  | true => rfl
  | false =>
    simp only [cond_false];rw [if_neg (by simp)]
    cases decide (x.1 > x.2.1) <;> rfl
theorem yNq (b : Bas) (l : List Itv) (most : Int) (hl : l.length < lenMax) : zQ_M b l most = some (y94 l b.1.length most,()) := by
  unfold zQ_M y94 yR;cases ((l.length : Int) != (b.1.length : Int)) with
  | true => rfl
  | false =>
    simp only [cond_false];rw [if_neg (by simp),bifT (yA hl),y8X (fun x => ckIv x 0 most) l 0 (fun i e he => by
      unfold yKt;rw [yLp];simp only [Option.bind_some];cases (ckIv e 0 most != 0) <;> rfl) rfl]
theorem yOe (b : Bas) (r : Rng) (hl : r.2.2.1.length < lenMax) : zy_M b r = some (y1t b r,()) := by
  unfold zy_M zy_m y1t;rw [yLp,yNq b _ _ hl];simp only [Option.bind_some];rw [y5L _ (by simp [lenMax])]
  simp only [Option.bind_some,yk,y27,y1H]
theorem yLV (b : Bas) (l : List Rng) (hl : l.length < lenMax) (hr : ∀ r ∈ l,r.2.2.1.length < lenMax) : zr_M b l = some (y4D b l,()) := by
  unfold zr_M y4D yR;cases decide ((l.length : Int) > 96) with
  | true => rfl
  | false =>
    simp only [cond_false];rw [if_neg (by simp),bifT (yA hl),y8X (y1t b) l 0 (fun i e he => by
      unfold yKS;rw [yOe b e (hr e he)];simp only [Option.bind_some];cases (y1t b e != 0) <;> rfl) rfl]
theorem yIg (x : Itv) (check : Int × Unit → Option (Int × Unit)) (lo hi : Int) (h : ∀ n,check (n,()) = some (ckR n lo hi,())) : zS_M x check = some (ckIv x lo hi,()) := by
  unfold zS_M zS_m ckIv;rw [h,h];simp only [Option.bind_some,y1e];rw [y0k _ (by simp [lenMax])]
  simp only [Option.bind_some,yk,y27,y1H]
theorem yEv (l : List Itv) (of : Itv × Unit → Option (Int × Unit)) (g : Itv → Int) (h : ∀ e ∈ l,of (e,()) = some (g e,())) (hl : l.length ≤ memMax) : z8_M l of = some (l.map g,()) := by
  have hm := y0X;unfold z8_M;rw [bifT (yA (show l.length < lenMax by omega)),y0Z g l 0 [] (by simpa using hl) (fun i e s he hs => by
    unfold yLJ;rw [show (e.fst,e.snd.fst,()) = e from rfl,h e he]
    simp only [Option.bind_some];rw [bifT (yA hs)])]
  rfl
theorem yNJ (b : Bas) (r : Rng) (hl : r.2.2.1.length ≤ memMax) : zN_M b r = some (y1t b r,()) := by
  have hm := y0X;unfold zN_M zN_m y1t y94;rw [yIg r.1 _ (-1024) 1024 (fun n => by show some (zv n) = _; unfold zv; rw [y1P]),
    yEv r.2.2.1 _ (fun x => ckIv x 0 100000) (fun e _ => by
      show zI_M e = _
      unfold zI_M zI_m;rw [yIg e _ 0 100000 (fun n => by show some (zf n) = _; unfold zf; rw [y1P])]
      rfl) hl]
  simp only [Option.bind_some,y1e];rw [y0k _ (by simp; omega)]
  simp only [Option.bind_some];rw [y0k _ (by simp [lenMax])]
  simp only [Option.bind_some,yk,y27,y1H]
theorem yHX (l : List Rng) (of : Rng × Unit → Option (Int × Unit)) (g : Rng → Int) (h : ∀ e ∈ l,of (e,()) = some (g e,())) (hl : l.length ≤ memMax) : zA_M l of = some (l.map g,()) := by
  have hm := y0X;unfold zA_M;rw [bifT (yA (show l.length < lenMax by omega)),y0Z g l 0 [] (by simpa using hl) (fun i e s he hs => by
    unfold yLL;rw [show ((e.fst.fst,e.fst.snd.fst,()),e.snd.fst,e.snd.snd.fst,()) = e from rfl,h e he]
    simp only [Option.bind_some];rw [bifT (yA hs)])]
  rfl
theorem yL8 (b : Bas) (l : List Rng) (hl : l.length ≤ memMax) (hr : ∀ r ∈ l,r.2.2.1.length ≤ memMax) : zL_M b l = some (y4D b l,()) := by
  have hm := y0X;unfold zL_M zL_m y4D;rw [yHX l _ (y1t b) (fun e he => yNJ b e (hr e he)) hl]
  simp only [Option.bind_some,y1e];rw [y0k _ (by simp; omega)]
  simp only [Option.bind_some];rw [y0k _ (by simp [lenMax])]
  simp only [Option.bind_some,yk,y27,y1H]
end Go.Tw
end
section
set_option maxRecDepth 100000
namespace Go.Tw
open Go.Vx Go.Vx.B Go.Proofs
def endI (up : Bool) (x : Itv) : Int := bif up then x.2.1 else x.1
def y2E (up : Bool) (r : Rng) : Cnd := (endI up r.1,r.2.1,r.2.2.1.map (endI up),())
def upI (up : Bool) : Int := bif up then 1 else 0
theorem yFY (x : Itv) (up : Bool) : idx (z0d x).1 (upI up) = some (endI up x) := by
  unfold z0d;cases up <;> rfl
theorem y6u (l : List Itv) (up : Bool) (hl : l.length ≤ memMax) : y96 l (upI up) = some (l.map (endI up),()) := by
  have hm := y0X;unfold y96 yKR zD_M;rw [bifT (yA (show l.length < lenMax by omega)),y0Z (endI up) l 0 [] (by simpa using hl) (fun i e s he hs => by
    unfold yLX;show (Option.bind (yIL e (upI up)) _) = _
    unfold yIL yLZ;rw [yFY];simp only [Option.bind_some];rw [bifT (yA hs)])]
  rfl
theorem y7t (r : Rng) (up : Bool) (hl : r.2.2.1.length ≤ memMax) : zb_M r (upI up) = some (y2E up r,()) := by
  unfold zb_M zb_m;rw [yFY,y6u _ up hl];rfl
theorem yKu (l : List Rng) (of : Rng × Unit → Option (Cnd × Unit)) (g : Rng → Cnd) (h : ∀ e ∈ l,of (e,()) = some (g e,())) (hl : l.length ≤ memMax) : z6_M l of = some (l.map g,()) := by
  have hm := y0X;unfold z6_M;rw [bifT (yA (show l.length < lenMax by omega)),y0Z g l 0 [] (by simpa using hl) (fun i e s he hs => by
    unfold yK0;rw [show ((e.fst.fst,e.fst.snd.fst,()),e.snd.fst,e.snd.snd.fst,()) = e from rfl,h e he]
    simp only [Option.bind_some];rw [bifT (yA hs)])]
  rfl
end Go.Tw
end
section
set_option maxRecDepth 100000
namespace Go.Tw
open Go.Vx Go.Vx.B Go.Proofs
theorem yGB {b : Bas} {r : Rng} (h : y1t b r = 0) : r.2.2.1.length = b.1.length := by
  obtain ⟨_,h2⟩ := yb h;obtain ⟨h3,_⟩ := yb h2;cases he : ((r.2.2.1.length : Int) != (b.1.length : Int)) with
  | true => rw [he] at h3; cases h3
  | false => have h11 : (r.2.2.1.length : Int) = (b.1.length : Int) := by simpa using he
             omega
end Go.Tw
end
section
set_option maxRecDepth 100000
namespace Go.Tw
open Go.Vx Go.Vx.B Go.Proofs
theorem ySo (r : Rng) (h : r.2.2.1.length ≤ memMax) : yH6 r = some (r,()) := by
  unfold yH6 yKb zx_M zx_m;rw [bifT (yA (show 0 + r.2.2.1.length ≤ memMax by omega))]
  rfl
theorem y7u (l : List Rng) (hl : l.length ≤ memMax) (hr : ∀ r ∈ l,r.2.2.1.length ≤ memMax) : y6n l = some (l,()) := by
  have hm := y0X;unfold y6n;rw [bifT (yA (show l.length < lenMax by omega)),y0Z (fun c => c) l 0 [] (by simpa using hl) (fun i e s he hs => by
    unfold yEZ;rw [show ((e.fst.fst,e.fst.snd.fst,()),e.snd.fst,e.snd.snd.fst,()) = e from rfl,ySo e (hr e he)]
    simp only [Option.bind_some];rw [bifT (yA hs)])]
  simp only [List.map_id_fun',id_eq,List.nil_append];rfl
section
variable (b : Bas) (r : Rng) (c : Cnd) (hn : ∀ n ∈ b.1,n.1.length < lenMax) (h1 : b.1.length ≤ memMax) (h2 : b.2.1.length ≤ memMax) (hr : r.2.2.1.length ≤ memMax) (hc : c.2.2.1.length ≤ memMax) (both : Int) (hb : both = 0 → c.2.2.1.length = r.2.2.1.length)
include hn h1 h2 hr hc hb
end
end Go.Tw
end
