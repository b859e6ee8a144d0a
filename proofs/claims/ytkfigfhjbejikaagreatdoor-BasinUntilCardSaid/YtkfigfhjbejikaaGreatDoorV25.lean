/- V25: a law's row out of its contract: what came in as data is typed; the call answers true; every argument reads as it did. -/
import Derived.Test.YtkfigfhjbejikaaGreatDoorV24
import Derived.WideKeyArgs
import Derived.ChangeSame
import Derived.ChangeVars
import Derived.RowKit
set_option linter.all false
namespace Go.Vx
open Go.RowKit Go.ChangeShapes Go.WideShapes
variable [GT]

def prodU : List (TypeId × Ty) → Ty
  | [] => .unit
  | q :: l => .pair q.2 (prodU l)

section
variable {H : Type} {enc : TypeId × Value → H} {P : Program}

omit [GT] in
theorem okWide_slice {w : World} {r : Reach} {b : Nat} {t e : TypeId} {v : Value} (ht : P.underlying t = some (.slice e)) (h : Value.okWide P w r b t v) : ∃ p n c, v = .slice p n c := by
  simp only [Value.okWide, ht, Cell.okWide] at h
  cases v <;> simp_all [Cell.ok]

omit [GT] in
/-- A value that came in is wrapped as its type says. -/
theorem wrap_open {W : World} {r : Reach} {b : Nat} {t : TypeId} {u : Ty} {v : Value} {d : Nat} (h : openB P d t u = true) (hv : Value.okWide P W r b t v) : u.wrap v.cells.toList = v := by
  cases d with
  | zero => simp [openB] at h
  | succ d =>
    cases ht : P.underlying t with
    | none => cases u <;> simp [openB, ht] at h
    | some D =>
      have agg : (∃ cs, v = .agg cs) → u.agg = true → u.wrap v.cells.toList = v := by
        rintro ⟨cs, rfl⟩ hu
        simp [Ty.wrap, hu, Value.cells]
      cases u with
      | bool =>
        cases D <;> simp [openB, ht] at h
        obtain ⟨x, rfl⟩ := okWide_bool ht hv
        rfl
      | int k =>
        cases D <;> simp [openB, ht] at h
        obtain ⟨x, rfl⟩ := okWide_int ht hv
        rfl
      | str =>
        cases D <;> simp [openB, ht] at h
        obtain ⟨x, rfl⟩ := okWide_string ht hv
        rfl
      | slice x =>
        cases D <;> simp [openB, ht] at h
        obtain ⟨p, n, c, rfl⟩ := okWide_slice ht hv
        rfl
      | unit =>
        cases D <;> simp [openB, ht] at h
        refine agg ?_ rfl
        simp only [Value.okWide, ht] at hv
        obtain ⟨cs, rfl, _⟩ := hv
        exact ⟨cs, rfl⟩
      | pair x y =>
        cases D <;> simp [openB, ht] at h
        refine agg ?_ rfl
        simp only [Value.okWide, ht] at hv
        obtain ⟨cs, rfl, _⟩ := hv
        exact ⟨cs, rfl⟩
      | arr n x =>
        cases D <;> simp [openB, ht] at h
        refine agg ?_ rfl
        simp only [Value.okWide, ht] at hv
        obtain ⟨cs, rfl, _⟩ := hv
        exact ⟨cs, rfl⟩
      | _ => simp [openB] at h

theorem args_open {W : World} {r : Reach} {b : Nat} {sp : Nat → Bool} {held : Bool} : ∀ (ts : List (TypeId × Ty)) (vs : List Value) (ds : List (DataW H)) (p : List MemPlace), (∀ q ∈ ts, openB P 30 q.1 q.2 = true) →
    (∀ (j : Nat) t v, (ts.map (·.1))[j]? = some t → vs[j]? = some v → Value.okWide P W r b t v) → DataW.TrodAll enc P W 0 sp held (ts.map (·.1)) vs ds p →
    ∃ (x : (prodU ts).den) (l : List Value), Cells P (prodU ts) noA W x l ∧ (prodU ts).group l = vs ∧ (prodU ts).wf x
  | [], vs, ds, p, _, _, h => by
    obtain ⟨rfl, rfl, rfl⟩ := trodAll_nil h
    exact ⟨(), [], rfl, rfl, trivial⟩
  | q :: ts, vs, ds, p, ho, hv, h => by
    obtain ⟨v, vs', d, ds', p1, p2, rfl, rfl, rfl, h1, h2⟩ := trodAll_cons h
    obtain ⟨fuel, hf⟩ := h1
    have hoq := ho q (by simp)
    obtain ⟨y, hy, hw⟩ := trod_cells 30 fuel q.1 q.2 _ _ hoq hf
    obtain ⟨x, l, hx, hg, hw2⟩ := args_open ts vs' ds' p2 (fun q hq => ho q (by simp [hq])) (fun j t v hj hvj => hv (j + 1) t v (by simpa using hj) (by simpa using hvj)) h2
    have hwr := wrap_open hoq (hv 0 q.1 v rfl rfl)
    refine ⟨(y, x), v.cells.toList ++ l, ⟨_, _, rfl, hy, hx⟩, ?_, hw, hw2⟩
    show q.2.wrap ((v.cells.toList ++ l).take q.2.size) :: (prodU ts).group ((v.cells.toList ++ l).drop q.2.size) = v :: vs'
    rw [← hy.length, List.take_left, List.drop_left, hwr, hg]

omit [GT] in
theorem post_of_below {f : Func} {s : ChangeSpec} {apart fresh handsOn again : Bool} {W W' : World} {args : Array Value} {v : Value} {ds gs : List (DataW H)} {before pa pv : List MemPlace}
    (hW : DataW.Whole enc P f.params.toList s.vars apart W args.toList ds gs before)
    (hres : ∀ (b : Nat) (sp : Nat → Bool) (hd : Bool), DataW.TrodAll enc P W' b sp hd f.resultTypes.toList (v.resultList f.resultTypes.size) (s.fn H (ds ++ gs)).results [])
    (hargs : ∀ sp : Nat → Bool, (∀ p ∈ before, sp p.block = true) → DataW.TrodAll enc P W' 0 sp true f.params.toList args.toList (s.fn H (ds ++ gs)).args pa)
    (hvars : ∀ sp : Nat → Bool, (∀ p ∈ before, sp p.block = true) → DataW.TrodVars enc P W' sp s.vars (s.fn H (ds ++ gs)).vars pv)
    (hps : before = pa ++ pv) (hb : Below W.heap.size W W')
    (hok : ∀ (j : Nat) (t : TypeId) (r : Value), f.resultTypes[j]? = some t → (v.resultList f.resultTypes.size)[j]? = some r → Value.okWide P W' .any 0 t r) :
    s.post enc P f apart fresh handsOn again W args v W' := by
  have hold : ∀ p ∈ before, (fun b => decide (b < W.heap.size)) p.block = true := fun p hp => by simpa using hW.lt p hp
  have hlt : ∀ p ∈ before, p.block < W.heap.size := fun p hp => hW.lt p hp
  refine ⟨ds, gs, before, [], pa, pv, hW, hres _ _ _, hargs _ hold, hvars _ hold, World.keptBut_mono (fun p hp => ⟨hp, ?_⟩) (hb.frame (· ∈ before)), fun _ => ?_⟩
  · rw [hps, List.mem_append] at hp
    exact Or.inr hp
  · obtain ⟨_, _, _, _, _, hz, hn⟩ := hW
    refine ⟨hok, _, _, ([] ++ pa) ++ pv, ⟨[] ++ pa, pv, trodAll_append (hargs _ (fun _ _ => rfl)) (hres _ _ _), hvars _ (fun _ _ => rfl), rfl, ?_, ?_⟩, ?_⟩
    · intro b off hp
      have hp' : MemPlace.cell b off ∈ before := by rw [hps]; simpa using hp
      have : b < W.heap.size := hlt _ hp'
      rw [hb.frozen (p := ⟨b, off, none⟩) this]
      exact hz b off hp'
    · intro ha
      have := hn ha
      rw [hps] at this
      simpa using this
    · intro p hp _
      rw [hps]
      simpa using hp

omit [GT] in
theorem trodAll_stays {W W' : World} (hl : laidOutB P = true) (hb : Below W.heap.size W W') {sp' : Nat → Bool} : ∀ (ts : List TypeId) (vs : List Value) (ds : List (DataW H)) (ps : List MemPlace),
    (∀ t ∈ ts, P.readableRec t = true ∧ t < P.types.size) → DataW.TrodAll enc P W 0 (fun _ => true) true ts vs ds ps → (∀ p ∈ ps, sp' p.block = true) → (∀ p ∈ ps, p.block < W.heap.size) → DataW.TrodAll enc P W' 0 sp' true ts vs ds ps
  | [], _, _, _, _, h, _, _ => by
    obtain ⟨rfl, rfl, rfl⟩ := trodAll_nil h
    exact trodAll_mk0
  | t :: ts, _, _, _, hr, h, hs, hlt => by
    obtain ⟨v, vs, d, ds, p, q, rfl, rfl, rfl, h1, h2⟩ := trodAll_cons h
    exact ⟨p, q, Go.WideElems.Trod_stays hl (hr t (by simp)).1 (hr t (by simp)).2 h1 (fun x hx => hb.same (hlt x (by simp [hx]))) (fun x hx => hs x (by simp [hx])),
      trodAll_stays hl hb ts vs ds q (fun u hu => hr u (by simp [hu])) h2 (fun x hx => hs x (by simp [hx])) (fun x hx => hlt x (by simp [hx])), rfl⟩

/-- **A law's row.** -/
theorem law_row {fn : Func} {spec : ChangeSpec} {ts : List (TypeId × Ty)} {f : FuncId} {m : (prodU ts).den → Option (Bool × Unit)} {tb : TypeId} (hOK : FnOK P ⟨f, prodU ts, .pair .bool .unit, m⟩)
    (hparams : fn.params.toList = ts.map (·.1)) (hres : fn.resultTypes = #[tb]) (htb : P.underlying tb = some .bool) (hopen : ∀ q ∈ ts, openB P 30 q.1 q.2 = true)
    (hl : laidOutB P = true) (hread : ∀ q ∈ ts, P.readableRec q.1 = true ∧ q.1 < P.types.size) (hvars : spec.vars = [])
    (hspec : ∀ ds : List (DataW H), ds.length = ts.length → spec.fn H ds = { results := [.lit (.bool true)], args := ds })
    (law : ∀ x, (prodU ts).wf x → m x = some (true, ()))
    (W : World) (base : Nat) (args : Array Value) (ds gs : List (DataW H)) (before : List MemPlace) (hval : ∀ (j : Nat) t v, fn.params[j]? = some t → args[j]? = some v → Value.okWide P W .any base t v)
    (hW : DataW.Whole enc P fn.params.toList spec.vars false W args.toList ds gs before) (hG : GlobOK noA W) :
    Calls P f args W fun e W' => ∃ v, e = .returned v ∧ spec.post enc P fn false true false false W args v W' := by
  have hW' := hW
  have hlt : ∀ p ∈ before, p.block < W.heap.size := fun p hp => hW.lt p hp
  obtain ⟨p, q, hA, hV, rfl, hfz, hnd⟩ := hW
  rw [hvars] at hV
  obtain ⟨rfl, rfl⟩ := trodVars_none hV
  have hA' := hA
  rw [hparams] at hA'
  obtain ⟨x, l, hx, hg, hw⟩ := args_open ts args.toList ds p hopen (fun j t v hj hv => hval j t v (by rw [← Array.getElem?_toList, hparams]; exact hj) (by simpa using hv)) hA'
  have hc := hOK.2 noA W x l (true, ()) hG (fun _ h => h.elim) hx (law x hw)
  have e1 : ((prodU ts).group l).toArray = args := by rw [hg]
  have hlen : ds.length = ts.length := by
    have : ∀ (ts : List TypeId) (vs : List Value) (ds : List (DataW H)) (ps : List MemPlace), DataW.TrodAll enc P W 0 (fun _ => true) true ts vs ds ps → ds.length = ts.length := by
      intro ts
      induction ts with
      | nil => intro vs ds ps h; obtain ⟨_, rfl, _⟩ := trodAll_nil h; rfl
      | cons t ts ih =>
        intro vs ds ps h
        obtain ⟨v, vs', d, ds', p1, p2, rfl, rfl, rfl, _, h2⟩ := trodAll_cons h
        simp [ih _ _ _ h2]
    rw [this _ _ _ _ hA']; simp
  have hs := hspec ds hlen
  change Calls P f ((prodU ts).group l).toArray W _ at hc
  rw [e1] at hc
  refine hc.mono ?_
  rintro e W' ⟨ly, rfl, hly, hb⟩
  refine ⟨_, rfl, ?_⟩
  have hly' : ly = [.bool true] := by
    obtain ⟨l1, l2, rfl, rfl, rfl⟩ := hly
    rfl
  subst hly'
  have hv : pack ((Ty.pair .bool .unit).group [.bool true]) = .bool true := rfl
  show spec.post enc P fn false true false false W args (pack ((Ty.pair .bool .unit).group [.bool true])) W'
  rw [hv]
  refine post_of_below (pa := p) (pv := []) hW' ?_ ?_ ?_ rfl hb ?_
  · intro b sp hd
    rw [List.append_nil, hs, hres]
    exact trodAll_cons_mk (shut_bool htb true) trodAll_mk0
  · intro sp hsp
    rw [List.append_nil, hs]
    exact trodAll_stays hl hb _ _ _ _ (fun t ht => by
      rw [hparams] at ht
      obtain ⟨q, hq, rfl⟩ := List.mem_map.1 ht
      exact hread q hq) hA (fun x hx => hsp x (by simp [hx])) (fun x hx => hlt x (by simp [hx]))
  · intro sp hsp
    rw [hvars, List.append_nil, hs]
    rfl
  · exact ok_one hres rfl (okWide_bool_mk htb true)
end
end Go.Vx
