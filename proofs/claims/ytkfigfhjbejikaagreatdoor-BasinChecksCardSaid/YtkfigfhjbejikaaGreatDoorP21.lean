/- P21: kinds, levels, nodes above their limits, room: the program's and the reference's are the same. -/
import Derived.Test.YtkfigfhjbejikaaGreatDoorPB

set_option linter.all false
set_option maxRecDepth 100000
namespace Go.Tw
open Go.Vx Go.Vx.B Go.Proofs

noncomputable def roomV (n : Nod) (x : Int) : Int :=
  if Bool.true = Bool.true then if Go.IntKind.i64.wrap (Go.IntKind.i64.wrap (Go.IntKind.i64.wrap (n.snd.fst * Go.IntKind.i64.wrap (n.snd.snd.fst + (1 : Int))) - (1 : Int)) - x) > (-1 : Int) then Go.IntKind.i64.wrap (Go.IntKind.i64.wrap (Go.IntKind.i64.wrap (n.snd.fst * Go.IntKind.i64.wrap (n.snd.snd.fst + (1 : Int))) - (1 : Int)) - x) else (-1 : Int) else if Go.IntKind.i64.wrap (Go.IntKind.i64.wrap (Go.IntKind.i64.wrap (n.snd.fst * Go.IntKind.i64.wrap (n.snd.snd.fst + (1 : Int))) - (1 : Int)) - x) < (-1 : Int) then Go.IntKind.i64.wrap (Go.IntKind.i64.wrap (Go.IntKind.i64.wrap (n.snd.fst * Go.IntKind.i64.wrap (n.snd.snd.fst + (1 : Int))) - (1 : Int)) - x) else (-1 : Int)
noncomputable def rooms (l : List Nod) (v : List Int) : List Int := List.zipWith roomV l v

theorem broom_loop (V : List Int) (L : List Nod) : ∀ (l : List Nod) (p v : List Int) (i : Int) (s : List Int), V = p ++ v → i = (p.length : Int) → v.length = l.length → s.length + l.length ≤ memMax →
    loopL (fun i__ e__ s__ => basin_Room_b1 V L i__ e__ s__) (fun s__ => basin_Room_f1 V L s__) i l s = some (s ++ rooms l v, 0, ())
  | [], p, [], i, s, _, _, _, _ => by show some (s, 0, ()) = _; simp [rooms]
  | n :: l, p, x :: v, i, s, hV, hi, hl, hs => by
    simp only [List.length_cons] at hs hl
    have hbody : basin_Room_b1 V L i n s = some (.inr (s ++ [roomV n x])) := by
      unfold basin_Room_b1
      rw [hV, idx_mid p x v i hi]
      simp only [Option.bind_some]
      rw [bifT (dec_true (show s.length + 1 ≤ memMax by omega))]
      rfl
    rw [loopL_cons, hbody]
    simp only [Option.bind_some]
    rw [broom_loop V L l (p ++ [x]) v (i + 1) _ (by rw [hV]; simp) (by simp [hi]) (by omega) (by simp; omega)]
    simp [rooms]
  | [], _, _ :: _, _, _, _, _, h, _ => by simp at h
  | _ :: _, _, [], _, _, _, _, h, _ => by simp at h

theorem rroom_loop (b : Bas) (V : List Int) : ∀ (l pl : List Nod) (p v : List Int) (i : Int) (s : List Int) (m : Nat), V = p ++ v → b.1 = pl ++ l → i = (p.length : Int) → i = (pl.length : Int) → v.length = l.length → m = v.length → s.length + l.length ≤ memMax →
    loopN (fun i__ s__ => ref04_Room_b0 V b i__ s__) (fun s__ => ref04_Room_f0 V b s__) m i s = some (s ++ rooms l v, ())
  | [], pl, p, [], i, s, m, _, _, _, _, _, hm, _ => by subst hm; show some (s, ()) = _; simp [rooms]
  | n :: l, pl, p, x :: v, i, s, m, hV, hb, hi, hi2, hl, hm, hs => by
    simp only [List.length_cons] at hs hl hm
    subst hm
    have hbody : ref04_Room_b0 V b i s = some (.inr (s ++ [roomV n x])) := by
      unfold ref04_Room_b0
      rw [hb, idx_mid pl n l i hi2, hV, idx_mid p x v i hi]
      simp only [Option.bind_some]
      rw [bifT (dec_true (show s.length + 1 ≤ memMax by omega))]
      rfl
    show (Option.bind (ref04_Room_b0 V b i s) _) = _
    rw [hbody]
    simp only [Option.bind_some]
    rw [rroom_loop b V l (pl ++ [n]) (p ++ [x]) v (i + 1) _ _ (by rw [hV]; simp) (by rw [hb]; simp) (by simp [hi]) (by rw [hi2]; simp) (by omega) rfl (by simp; omega)]
    simp [rooms]
  | [], _, _, _ :: _, _, _, _, _, _, _, _, h, _, _ => by simp at h
  | _ :: _, _, _, [], _, _, _, _, _, _, _, h, _, _ => by simp at h

theorem rooms_len (l : List Nod) (v : List Int) : (rooms l v).length ≤ l.length := by unfold rooms; simp; omega

theorem broom_eq (b : Bas) (v : List Int) (hn : ∀ n ∈ b.1, n.1.length < lenMax) (h0 : ckCV b v = 0) : basin_Room_M b v = some (rooms b.1 v, 0, ()) := by
  obtain ⟨hb, hv, _⟩ := ckCV_zero h0
  have h8 := hb.nodes
  have hmem : memMax = 68719476736 := rfl
  unfold basin_Room_M
  rw [bcv_eq b v hn (by omega), h0]
  simp only [Option.bind_some]
  rw [bifF (show ((0 : Int) != 0) = false from rfl), bifT (dec_true (show b.1.length < lenMax by unfold lenMax; omega))]
  exact broom_loop v b.1 b.1 [] v 0 [] rfl rfl hv (by simp; omega)

theorem rroom_eq (b : Bas) (v : List Int) (hb : BasOK b) (hv : v.length = b.1.length) : ref04_Room_M b v = some (rooms b.1 v, ()) := by
  have h8 := hb.nodes
  have hmem : memMax = 68719476736 := rfl
  unfold ref04_Room_M
  rw [bifT (dec_true (show (v.length : Int) ≤ 9223372036854775807 by omega))]
  exact rroom_loop b v b.1 [] [] v 0 [] _ rfl rfl rfl rfl hv (by omega) (by simp; omega)

theorem blevels1 (b : Bas) (v : List Int) (hn : ∀ n ∈ b.1, n.1.length < lenMax) (h0 : ckCV b v = 0) : basin_Levels_M b v = some (lvls v b.1, 0, ()) := by
  obtain ⟨hb, hv, _⟩ := ckCV_zero h0
  have h8 := hb.nodes
  have hmem : memMax = 68719476736 := rfl
  unfold basin_Levels_M basin_Levels_m
  rw [bcv_eq b v hn (by omega), h0]
  simp only [Option.bind_some]
  rw [bifF (show ((0 : Int) != 0) = false from rfl), blevels_eq b hb v hv]
  rfl

theorem babove1 (b : Bas) (v : List Int) (hn : ∀ n ∈ b.1, n.1.length < lenMax) (h0 : ckCV b v = 0) : ∃ r, basin_Above_M b v = some (r, 0, ()) ∧ ref04_Above_M b v = some (r, ()) ∧ r.length ≤ 8 := by
  obtain ⟨hb, hv, _⟩ := ckCV_zero h0
  have h8 := hb.nodes
  have hmem : memMax = 68719476736 := rfl
  obtain ⟨r, r1, r2, r3⟩ := above_same b hb v hv
  refine ⟨r, ?_, r2, r3⟩
  unfold basin_Above_M basin_Above_m
  rw [bcv_eq b v hn (by omega), h0]
  simp only [Option.bind_some]
  rw [bifF (show ((0 : Int) != 0) = false from rfl), r1]
  rfl

theorem checks_bad (b : Bas) (v : List Int) (hn : ∀ n ∈ b.1, n.1.length < lenMax) (hv : v.length ≤ memMax) (h0 : ckCV b v ≠ 0) :
    basin_Levels_M b v = some ([], ckCV b v, ()) ∧ basin_Above_M b v = some ([], ckCV b v, ()) ∧ basin_Room_M b v = some ([], ckCV b v, ()) := by
  have hne : (ckCV b v != 0) = true := by simpa using h0
  refine ⟨?_, ?_, ?_⟩
  · unfold basin_Levels_M basin_Levels_m
    rw [bcv_eq b v hn hv]
    simp only [Option.bind_some]
    rw [bifT hne]
  · unfold basin_Above_M basin_Above_m
    rw [bcv_eq b v hn hv]
    simp only [Option.bind_some]
    rw [bifT hne]
  · unfold basin_Room_M
    rw [bcv_eq b v hn hv]
    simp only [Option.bind_some]
    rw [bifT hne]

theorem sameWords_refl (l : List (List UInt8)) (h : l.length < lenMax) : ref01_SameWords_M l l = some (true, ()) := by
  unfold ref01_SameWords_M
  rw [bifF (show ((l.length : Int) != (l.length : Int)) = false by simp), bifT (dec_true h), loopL_same l (fun p x r e => by
    unfold ref01_SameWords_b0
    rw [e, idx_mid p x r _ rfl]
    simp only [Option.bind_some]
    rw [show (!x == x) = false by simp]
    rfl) l [] 0 rfl rfl]
  rfl
end Go.Tw
