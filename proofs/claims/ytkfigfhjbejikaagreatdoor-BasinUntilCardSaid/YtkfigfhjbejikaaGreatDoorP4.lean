/- P4: basins, volumes, conditions: their errors, in the program and in the reference. -/
import Derived.Test.YtkfigfhjbejikaaGreatDoorP3
set_option linter.all false
set_option maxRecDepth 100000
namespace Go.Tw
open Go.Vx Go.Vx.B Go.Proofs

theorem loopL_err {α : Type} {body : Int → α → Unit → Option ((Int × Unit) ⊕ Unit)} {fin : Unit → Option (Int × Unit)} (g : α → Int) (l : List α) (i : Int) (hb : ∀ i e, e ∈ l → body i e () = some (bif g e != 0 then .inl (g e, ()) else .inr ())) (hf : fin () = some (0, ())) :
    loopL body fin i l () = some (firstE (l.map g), ()) := by
  rw [loopL_find (fun e => bif g e != 0 then some (g e, ()) else none) l i (fun i e he => by
    rw [hb i e he]
    cases (g e != 0) <;> rfl)]
  clear hb
  induction l with
  | nil => exact hf
  | cons e l ih =>
    rw [List.findSome?_cons, List.map_cons, firstE_cons, firstOf]
    cases (g e != 0) with
    | true => rfl
    | false => exact ih

/-! ### Mapped -/
theorem mapLink_eq (l : List Lnk) (of : Lnk × Unit → Option (Int × Unit)) (g : Lnk → Int) (h : ∀ e ∈ l, of (e, ()) = some (g e, ())) (hl : l.length ≤ memMax) : basin_mapped_basin_Link_api_Errno_M l of = some (l.map g, ()) := by
  unfold basin_mapped_basin_Link_api_Errno_M
  have hm := memMax_lt
  rw [bifT (dec_true (show l.length < lenMax by omega)), loopL_app g l 0 [] (by simpa using hl) (fun i e s he hs => by
    unfold basin_mapped_basin_Link_api_Errno_b0
    rw [show of ((e.fst, e.snd.fst, e.snd.snd.fst, e.snd.snd.snd.fst, e.snd.snd.snd.snd.fst, ()), ()) = of (e, ()) from rfl, h e he]
    simp only [Option.bind_some]
    rw [bifT (dec_true hs)])]
  rfl

theorem mapInt_eq (l : List Int) (of : Int × Unit → Option (Int × Unit)) (g : Int → Int) (h : ∀ e ∈ l, of (e, ()) = some (g e, ())) (hl : l.length ≤ memMax) : basin_mapped_int_api_Errno_M l of = some (l.map g, ()) := by
  unfold basin_mapped_int_api_Errno_M
  have hm := memMax_lt
  rw [bifT (dec_true (show l.length < lenMax by omega)), loopL_app g l 0 [] (by simpa using hl) (fun i e s he hs => by
    unfold basin_mapped_int_api_Errno_b0
    rw [h e he]
    simp only [Option.bind_some]
    rw [bifT (dec_true hs)])]
  rfl

/-! ### Basins -/
def ckBasin (b : Bas) : Int :=
  firstOf (ckNodes b.1) (bif decide (16 < b.2.1.length) then 5 else firstE (b.2.1.map fun x => ckLink x (b.1.length : Int)))

theorem rbasin_eq (b : Bas) : ref04_CheckBasin_M b = some (ckBasin b, ()) := by
  unfold ref04_CheckBasin_M ckBasin firstOf
  rw [rnodes_eq]
  simp only [Option.bind_some]
  cases h : (ckNodes b.1 != 0) with
  | true => rfl
  | false =>
    simp only [cond_false]
    rw [if_neg (by simp)]
    by_cases h16 : 16 < b.2.1.length
    · rw [bifT (dec_true (show (b.2.1.length : Int) > 16 by omega)), bifT (dec_true h16)]
    · rw [bifF (dec_false (show ¬ (b.2.1.length : Int) > 16 by omega)), bifF (dec_false h16), bifT (dec_true (show b.2.1.length < lenMax by unfold lenMax; omega))]
      exact loopL_err (fun x => ckLink x (b.1.length : Int)) _ 0 (fun i e _ => by
        unfold ref04_CheckBasin_b1
        rw [rlink_eq]
        simp only [Option.bind_some]
        cases (ckLink e (b.1.length : Int) != 0) <;> rfl) rfl

/-- What the program knows of names: those of the nodes before. -/
def Knows (m : List (List UInt8 × Bool)) (done : List Nod) : Prop := ∀ k, (mapGet .str .bool m k).getD false = done.any fun d => d.1 == k

theorem mapGet_put (m : List (List UInt8 × Bool)) (k k' : List UInt8) : (mapGet .str .bool (mapPut .str .bool m k true) k').getD false = ((k == k') || (mapGet .str .bool m k').getD false) := by
  induction m with
  | nil =>
    show (mapGet .str .bool [(k, true)] k').getD false = _
    simp only [mapGet, eqV]
    by_cases h : k' = k
    · subst h; simp
    · have h1 : (k' == k) = false := beq_eq_false_iff_ne.2 h
      have h2 : (k == k') = false := beq_eq_false_iff_ne.2 (Ne.symm h)
      show (bif (k' == k) then some true else none).getD false = _
      rw [h1, h2]; rfl
  | cons p m ih =>
    show (mapGet .str .bool (bif (k == p.1) then (k, true) :: m else p :: mapPut .str .bool m k true) k').getD false = _
    by_cases h : k = p.1
    · have h1 : (k == p.1) = true := by simp [h]
      rw [h1, cond_true]
      show (bif (k' == k) then some true else mapGet .str .bool m k').getD false = ((k == k') || (bif (k' == p.1) then some p.2 else mapGet .str .bool m k').getD false)
      by_cases h2 : k' = k
      · have e1 : (k' == k) = true := by simp [h2]
        have e2 : (k == k') = true := by simp [h2]
        rw [e1, e2]; rfl
      · have e1 : (k' == k) = false := beq_eq_false_iff_ne.2 h2
        have e2 : (k == k') = false := beq_eq_false_iff_ne.2 (Ne.symm h2)
        have e3 : (k' == p.1) = false := by rw [← h]; exact e1
        rw [e1, e2, e3]; rfl
    · have h1 : (k == p.1) = false := beq_eq_false_iff_ne.2 h
      rw [h1, cond_false]
      show (bif (k' == p.1) then some p.2 else mapGet .str .bool (mapPut .str .bool m k true) k').getD false = ((k == k') || (bif (k' == p.1) then some p.2 else mapGet .str .bool m k').getD false)
      by_cases h2 : k' = p.1
      · have e1 : (k' == p.1) = true := by simp [h2]
        have e2 : (k == k') = false := by rw [h2]; exact h1
        rw [e1, e2]; rfl
      · have e1 : (k' == p.1) = false := beq_eq_false_iff_ne.2 h2
        rw [e1]
        exact ih

theorem Knows.put {m : List (List UInt8 × Bool)} {done : List Nod} (h : Knows m done) (n : Nod) : Knows (mapPut .str .bool m n.1 true) (done ++ [n]) := by
  intro k
  rw [mapGet_put, h k, List.any_append]
  simp [Bool.or_comm]

theorem small4 (a b c d : Int) : [a, b, c, d].length < lenMax := by simp [lenMax]
theorem small2 (a b : Int) : [a, b].length < lenMax := by simp [lenMax]

theorem bnodes_loop (b : Bas) (hn : ∀ n ∈ b.1, n.1.length < lenMax) : ∀ (l done : List Nod) (i : Int) (m : List (List UInt8 × Bool)), (∀ n ∈ l, n.1.length < lenMax) → Knows m done →
    ∃ m', loopL (fun i__ e__ s__ => basin_CheckBasin_b1 b b.1 i__ e__ s__) (fun s__ => basin_CheckBasin_f1 b b.1 s__) i l m = bif nodesE done l != 0 then some (nodesE done l, ()) else basin_CheckBasin_f1 b b.1 m'
  | [], done, i, m, _, _ => ⟨m, rfl⟩
  | n :: l, done, i, m, hl, hk => by
    have hb : basin_CheckBasin_b1 b b.1 i n m = some (bif nodeE done n != 0 then .inl (nodeE done n, ()) else .inr (mapPut .str .bool m n.1 true)) := by
      unfold basin_CheckBasin_b1
      rw [gname_eq n.1 (hl n (by simp))]
      simp only [Option.bind_some, when_eq, within_eq, hk n.1]
      rw [bfirst_eq _ (small4 _ _ _ _)]
      have e : firstE [bif !isNm n.1 then 8 else 0, bif done.any (fun d => d.1 == n.1) then 9 else 0, ckR n.2.1 1 1000, ckR n.2.2.1 0 1024] = nodeE done n := by
        unfold nodeE
        cases isNm n.1 <;> rfl
      simp only [Option.bind_some, e]
      cases (nodeE done n != 0) <;> rfl
    rw [loopL_cons, hb]
    simp only [Option.bind_some, nodesE, firstOf]
    cases h : (nodeE done n != 0) with
    | true => exact ⟨m, by simp [h]⟩
    | false =>
      obtain ⟨m', hm⟩ := bnodes_loop b hn l (done ++ [n]) (i + 1) (mapPut .str .bool m n.1 true) (fun x hx => hl x (by simp [hx])) (hk.put n)
      exact ⟨m', by rw [if_neg (by simp)]; exact hm⟩

theorem ckNodes_zero {l : List Nod} (h : ckNodes l = 0) : 0 < l.length ∧ l.length ≤ 8 ∧ nodesE [] l = 0 := by
  unfold ckNodes at h
  split at h
  · cases h
  · split at h
    · cases h
    · exact ⟨by omega, by omega, h⟩

theorem bbasin_eq (b : Bas) (hn : ∀ n ∈ b.1, n.1.length < lenMax) : basin_CheckBasin_M b = some (ckBasin b, ()) := by
  unfold basin_CheckBasin_M
  simp only [when_eq]
  rw [bfirst_eq _ (small2 _ _)]
  simp only [Option.bind_some]
  have fin : ∀ m, basin_CheckBasin_f1 b b.1 m = some (bif decide (16 < b.2.1.length) then 5 else firstE (b.2.1.map fun x => ckLink x (b.1.length : Int)), ()) := fun m => by
    unfold basin_CheckBasin_f1
    by_cases h16 : 16 < b.2.1.length
    · rw [bifT (dec_true (show (b.2.1.length : Int) > 16 by omega)), bifT (dec_true h16)]
    · rw [bifF (dec_false (show ¬ (b.2.1.length : Int) > 16 by omega)), bifF (dec_false h16)]
      rw [mapLink_eq b.2.1 _ (fun x => ckLink x (b.1.length : Int)) (fun e _ => by
        unfold basin_CheckBasin_1_M basin_CheckBasin_1_m
        rw [blink_eq]; rfl) (by unfold memMax; omega)]
      simp only [Option.bind_some]
      rw [bfirst_eq _ (by rw [List.length_map]; unfold lenMax; omega)]
      rfl
  unfold ckBasin ckNodes
  by_cases h0 : b.1.length = 0
  · have e1 : ((b.1.length : Int) == 0) = true := by simp [h0]
    rw [e1, if_pos h0]
    simp [firstE_cons, firstOf]
  · have e1 : ((b.1.length : Int) == 0) = false := by simpa using h0
    rw [e1, if_neg h0]
    by_cases h8 : 8 < b.1.length
    · rw [dec_true (show (b.1.length : Int) > 8 by omega), if_pos h8]
      simp [firstE_cons, firstOf]
    · rw [dec_false (show ¬ (b.1.length : Int) > 8 by omega), if_neg h8]
      have e2 : firstE [bif false then 12 else 0, bif false then 5 else 0] = 0 := by decide
      rw [e2]
      rw [bifF (show ((0 : Int) != 0) = false by decide), bifT (dec_true (show b.1.length < lenMax by unfold lenMax; omega))]
      obtain ⟨m', hm⟩ := bnodes_loop b hn b.1 [] 0 [] hn (fun k => rfl)
      refine (show _ = _ from hm).trans ?_
      rw [fin m', firstOf]
      cases (nodesE [] b.1 != 0) <;> rfl

/-! ### Volumes and conditions -/
def ckVols (b : Bas) (v : List Int) : Int := firstOf (bif (v.length : Int) != (b.1.length : Int) then 2 else 0) (firstE (v.map fun n => ckR n 0 100000000))
def ckCond (b : Bas) (c : Cnd) : Int := firstOf (ckR c.1 (-1024) 1024) (firstOf (bif (c.2.2.1.length : Int) != (b.1.length : Int) then 2 else 0) (firstE (c.2.2.1.map fun n => ckR n 0 100000)))

theorem rvols_eq (b : Bas) (v : List Int) (h : v.length < lenMax) : ref04_OnlyVolumes_M b v = some (ckVols b v, ()) := by
  unfold ref04_OnlyVolumes_M ckVols firstOf
  cases ((v.length : Int) != (b.1.length : Int)) with
  | true => rfl
  | false =>
    simp only [cond_false]
    rw [bifT (dec_true h), if_neg (by decide)]
    exact loopL_err (fun n => ckR n 0 100000000) v 0 (fun i e _ => by
      unfold ref04_OnlyVolumes_b0
      rw [checkRange_eq]
      cases (ckR e 0 100000000 != 0) <;> rfl) rfl

theorem rcond_eq (b : Bas) (c : Cnd) (h : c.2.2.1.length < lenMax) : ref04_OnlyCondition_M b c = some (ckCond b c, ()) := by
  unfold ref04_OnlyCondition_M ckCond firstOf
  rw [checkRange_eq]
  simp only
  cases (ckR c.1 (-1024) 1024 != 0) with
  | true => rfl
  | false =>
    simp only [cond_false]
    rw [if_neg (by simp)]
    cases ((c.2.2.1.length : Int) != (b.1.length : Int)) with
    | true => rfl
    | false =>
      simp only [cond_false]
      rw [bifT (dec_true h), if_neg (by decide)]
      exact loopL_err (fun n => ckR n 0 100000) c.2.2.1 0 (fun i e _ => by
        unfold ref04_OnlyCondition_b0
        rw [checkRange_eq]
        cases (ckR e 0 100000 != 0) <;> rfl) rfl

theorem bvols_eq (b : Bas) (v : List Int) (h : v.length ≤ memMax) : basin_Basin_checkVolumes_M b v = some (ckVols b v, ()) := by
  have hm := memMax_lt
  unfold basin_Basin_checkVolumes_M basin_Basin_checkVolumes_m
  rw [mapInt_eq v _ (fun n => ckR n 0 100000000) (fun e _ => by
    show some (basin_Basin_checkVolumes_1 e) = _
    unfold basin_Basin_checkVolumes_1
    rw [within_eq]) h]
  simp only [Option.bind_some]
  rw [bfirst_eq _ (by rw [List.length_map]; omega)]
  simp only [Option.bind_some, when_eq]
  rw [bfirst_eq _ (small2 _ _)]
  simp only [Option.bind_some, firstE_cons, firstE_nil, firstOf_zero]
  rfl

theorem bcond_eq (b : Bas) (c : Cnd) (h : c.2.2.1.length ≤ memMax) : basin_Basin_checkCondition_M b c = some (ckCond b c, ()) := by
  have hm := memMax_lt
  unfold basin_Basin_checkCondition_M basin_Basin_checkCondition_m
  rw [mapInt_eq c.2.2.1 _ (fun n => ckR n 0 100000) (fun e _ => by
    show some (basin_checkInflow e) = _
    unfold basin_checkInflow
    rw [within_eq]) h]
  simp only [Option.bind_some]
  rw [bfirst_eq _ (by rw [List.length_map]; omega)]
  simp only [Option.bind_some, when_eq, basin_checkTide, within_eq]
  rw [bfirst_eq _ (small3 _ _ _)]
  simp only [Option.bind_some, firstE_cons, firstE_nil, firstOf_zero]
  rfl

def ckCV (b : Bas) (v : List Int) : Int := firstOf (ckBasin b) (ckVols b v)

theorem rcv_eq (b : Bas) (v : List Int) (h : v.length < lenMax) : ref04_CheckVolumes_M b v = some (ckCV b v, ()) := by
  unfold ref04_CheckVolumes_M ref04_CheckVolumes_m ckCV firstOf
  rw [rbasin_eq]
  simp only [Option.bind_some]
  cases (ckBasin b != 0) with
  | true => rfl
  | false =>
    simp only [cond_false]
    rw [rvols_eq b v h, if_neg (by simp)]
    rfl

theorem bcv_eq (b : Bas) (v : List Int) (hn : ∀ n ∈ b.1, n.1.length < lenMax) (h : v.length ≤ memMax) : basin_CheckVolumes_M b v = some (ckCV b v, ()) := by
  unfold basin_CheckVolumes_M basin_CheckVolumes_m
  rw [bbasin_eq b hn, Option.bind_some, bvols_eq b v h]
  simp only [Option.bind_some]
  rw [bfirst_eq _ (small2 _ _)]
  simp only [Option.bind_some, firstE_cons, firstE_nil, firstOf_zero]
  rfl
end Go.Tw
