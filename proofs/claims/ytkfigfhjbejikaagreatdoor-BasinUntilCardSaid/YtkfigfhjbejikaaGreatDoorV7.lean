/- V7: operations that turn no block of one's own are sound. -/
import Derived.Test.YtkfigfhjbejikaaGreatDoorV6
import Derived.Laws.StructEq
import Derived.ChangeKeysEq
set_option linter.all false
namespace Go.Vx
open Go.RowKit
variable [GT]

section
variable {P : Program} {A0 : Nat → Prop} {w0 : Base} {ρ : Places} {s : St} {a : Act} {w w' : World} {g : G} {R : Type} {K : SV → Option R} {r : R} {o : Oper}

theorem Yld.of_run {m : Sem Value} {sv : SV} {v : Value} (ho : execOp a.eval o = (do pure (.value (← m)))) (h1 : m.run P w = .ok v w) (h2 : SVRel P (Av A0 ρ s.chunks) w ρ sv v) (h3 : sv.inn s.chunks.length) (h4 : K sv = some r) : Yld P A0 ρ s a w o K r :=
  Yld.here (by rw [ho]; simp only [Sem.run_bind, h1, Result.andThen_ok, Sem.run_pure]) h2 h3 h4

theorem Yld.of_rk {m : Sem Value} (ho : execOp a.eval o = (do pure (.value (← m)))) (h : Rk P w ρ m K r) : Yld P A0 ρ s a w o K r := by
  obtain ⟨sv, v, h1, h2, h3, h4⟩ := h
  exact Yld.of_run ho h1 (h2 _) (h3 _) h4

theorem move_sound (h : Rel P A0 w0 ρ s a w) {x : Operand} (ho : o.op = .move x ∨ o.op = .assign x) (hk : K (evalO g.T o.type s x) = some r) : Yld P A0 ρ s a w o K r := by
  obtain ⟨h1, h2⟩ := evalO_sound (T := g.T) h o.type x
  refine Yld.here ?_ h1 h2 hk
  rcases ho with ho | ho <;> simp [execOp, ho]

theorem pick_sound (h : Rel P A0 w0 ρ s a w) {c x y : Operand} (ho : o.op = .pick c x y) (hk : pureK g s o K = some r) : Yld P A0 ρ s a w o K r := by
  simp only [pureK, ho] at hk
  have hc := (evalO_sound (T := g.T) h 0 c).1
  split at hk
  · rename_i p he
    rw [he] at hc
    have hv := bool_inv hc
    cases p with
    | true =>
      obtain ⟨h1, h2⟩ := evalO_sound (T := g.T) h o.type x
      exact Yld.here (by simp [execOp, ho, hv, asBool]) h1 h2 hk
    | false =>
      obtain ⟨h1, h2⟩ := evalO_sound (T := g.T) h o.type y
      exact Yld.here (by simp [execOp, ho, hv, asBool]) h1 h2 hk
  · cases hk

/-- A load of a whole typed value. -/
theorem Yld.loaded {t : TypeId} {x : Operand} (ho : o.op = .load t x) {b off : Nat} {l : List Value} {u : Ty} {y : u.den} (hx : a.eval x = .pointer (some ⟨b, off, none⟩)) (hf : Fits P t u) (hc : CellsAt w b off l)
    (hl : Cells P u (Av A0 ρ s.chunks) w y l) (hk : K (.val u y) = some r) : Yld P A0 ρ s a w o K r :=
  Yld.of_run (m := Instr.loadAt t (a.eval x)) (sv := .val u y) (by simp only [execOp, ho]) (by rw [hx]; exact run_loadAt hf hl.length hc) ⟨l, hl, rfl⟩ trivial hk

theorem box_at {A : Nat → Prop} {β : Nat} {t : Ty} {cells : List SV} (h : ChunkRel P A w ρ (ρ β) (.box t cells)) : ∃ b vs, (ρ β).blk = some b ∧ CellsAt w b 0 vs ∧ CellsRel P A w ρ cells vs := by
  obtain ⟨b, vs, e, hb, h1, h2, h3⟩ := h
  refine ⟨b, vs.toList, hb, fun j v hj => ?_, by simpa using h2.1, fun i sv hi => by simpa using h3 i sv hi⟩
  simp only [World.cell?, h1, Nat.zero_add]
  simpa using hj

theorem arr_at {A : Nat → Prop} {β : Nat} {e : TypeId} {u : Ty} {xs : List u.den} {nn : Bool} (h : ChunkRel P A w ρ (ρ β) (.arr e u xs nn)) {n : Nat} {x : u.den} (hn : xs[n]? = some x) :
    ∃ b l, (ρ β).blk = some b ∧ CellsAt w b (n * u.size) l ∧ Cells P u A w x l := by
  obtain ⟨hlen, _, h⟩ := h
  rcases h with ⟨_, h2, _⟩ | ⟨b, vs, h1, h2, h3, h4, h5, h6⟩
  · have : xs = [] := List.eq_nil_of_length_eq_zero (by omega)
    subst this; simp at hn
  · refine ⟨b, _, h1, ?_, h6 n x hn⟩
    intro j v hj
    rw [List.getElem?_take] at hj
    split at hj
    · rw [List.getElem?_drop] at hj
      simp only [World.cell?, h2]
      simpa using hj
    · cases hj

theorem size_one {t : Ty} (h : t.agg = false) : t.size = 1 := by cases t <;> simp_all [Ty.agg, Ty.size]

theorem compTV_sound {A : Nat → Prop} {t' : TypeId} {t : Ty} {x : t.den} {off : Nat} {τ : Ty} {y : TV} {l : List Value} (hc : Cells P t A w x l) (h : compTV t x off τ = some y) (hF : Fits P t' τ) :
    off + y.t.size ≤ l.length ∧ Cells P y.t A w y.x ((l.drop off).take y.t.size) ∧ Fits P t' y.t := by
  unfold compTV at h
  split at h
  · rename_i z hz
    cases h
    obtain ⟨h3, h4⟩ := compAt_sound _ _ _ _ _ _ hc hz
    exact ⟨h3, h4, hF⟩
  · split at h
    · obtain ⟨z, hz, rfl⟩ := Option.map_eq_some_iff.1 h
      obtain ⟨h3, h4⟩ := compAt_sound _ _ _ _ _ _ hc hz
      exact ⟨h3, h4, ⟨fun h => (by cases h), hF.ex⟩⟩
    · cases h

theorem load_sound (hT : TabOk P g.T) (h : Rel P A0 w0 ρ s a w) {t : TypeId} {x : Operand} (ho : o.op = .load t x) (hk : pureK g s o K = some r) : Yld P A0 ρ s a w o K r := by
  simp only [pureK, ho] at hk
  have hx := (evalO_sound (T := g.T) h 0 x).1
  split at hk
  · rename_i i u y hi he
    rw [he] at hx
    obtain ⟨b, off, l, hv, h1, h2, h3, h4⟩ := ref_inv hx
    simp only [Option.bind_eq_some_iff] at hk
    obtain ⟨z, hz, hk⟩ := hk
    obtain ⟨h5, h6⟩ := loadAs_sound hz h4 (hT.fits hi)
    exact Yld.loaded ho hv h6 h3 h5 hk
  · rename_i i β off hi he
    rw [he] at hx
    obtain ⟨b, hb, hv⟩ := hx
    split at hk
    · rename_i u cells hch
      obtain ⟨b', vs, hb', h1, h2⟩ := box_at (h.chunks β _ (getD_some hch)).1
      rw [hb] at hb'; cases hb'
      split at hk
      · simp only [Option.bind_eq_some_iff] at hk
        obtain ⟨z, hz, hk⟩ := hk
        have h3 := gather_sound _ _ _ _ ((h2.drop off).take _) hz
        exact Yld.loaded ho hv (hT.fits hi) (by have := h1.sub off i.ty.size; rwa [Nat.zero_add] at this) h3 hk
      · rename_i hagg
        have hagg : i.ty.agg = false := by simpa using hagg
        simp only [Option.bind_eq_some_iff] at hk
        obtain ⟨sv, hc, hk⟩ := hk
        obtain ⟨v, h3, h4⟩ := h2.2 off sv hc
        have h5 : CellsAt w b off [v] := fun j u hj => by
          cases j with
          | zero => simp at hj; subst hj; have := h1 off v h3; rwa [Nat.zero_add] at this
          | succ j => simp at hj
        refine Yld.of_run (m := Instr.loadAt t (a.eval x)) (by simp only [execOp, ho]) (by rw [hv]; exact run_loadAt (hT.fits hi) (by rw [size_one hagg]; rfl) h5) ?_ ?_ hk
        · simpa [Ty.wrap, hagg] using h4
        · exact h.cnames β _ (getD_some hch) sv (List.mem_of_getElem? hc)
    · cases hk
  · rename_i i β n sz off hi he
    rw [he] at hx
    obtain ⟨b, hb, hv⟩ := hx
    split at hk
    · rename_i e u xs nn hch
      split at hk
      · rename_i hsz
        simp only [Option.bind_eq_some_iff] at hk
        obtain ⟨y, hy, z, hz, hk⟩ := hk
        obtain ⟨b', l, hb', h1, h2⟩ := arr_at (h.chunks β _ (getD_some hch)).1 hy
        rw [hb] at hb'; cases hb'
        obtain ⟨h3, h4, h5⟩ := compTV_sound h2 hz (hT.fits hi)
        exact Yld.loaded ho (by rw [hv, hsz]) h5 (h1.sub off z.t.size) h4 hk
      · cases hk
    · cases hk
  · cases hk

theorem run_part {t : TypeId} {u : Ty} (hF : Fits P t u) {cs : Array Value} {off : Nat} (h : off + u.size ≤ cs.size) : (part t cs off).run P w = .ok (u.wrap ((cs.toList.drop off).take u.size)) w := by
  obtain ⟨inf, d, h1, h2, h3, _, h5, _⟩ := hF.ex
  unfold part
  simp only [Sem.run_bind, run_isAgg h2, Result.andThen_ok]
  cases hd : aggD d with
  | true =>
    have hu : u.agg = true := by rw [← h5]; exact hd
    simp only [if_true, Sem.run_bind, run_sizeOf h1, Result.andThen_ok, Sem.run_pure, h3]
    congr 1
    unfold Ty.wrap
    rw [if_pos hu]
    congr 1
    apply Array.toList_inj.1
    simp [List.extract_eq_take_drop]
  | false =>
    have hu : u.agg = false := by rw [← h5]; exact hd
    have h1 := size_one hu
    rw [h1] at h ⊢
    have hlt : off < cs.size := by omega
    have hd : (cs.toList.drop off).take 1 = [cs[off]] := by
      rw [List.drop_eq_getElem_cons (by simpa using hlt)]
      simp
    rw [hd]
    simp [Ty.wrap, hu, hlt]

theorem eqFields_run {d m : Nat}
    (ih : ∀ {t : TypeId} {u : Ty} {A : Nat → Prop} {x y : u.den} {lx ly : List Value}, cmpB P m t u = true → Cells P u A w x lx → Cells P u A w y ly → (Op.equalIn (d + m) t (u.wrap lx) (u.wrap ly)).run P w = .ok (eqV u x y) w) :
    ∀ (fs : List Field) (off : Nat) (u : Ty) {A : Nat → Prop} (x y : u.den) (lx ly px py : List Value), cmpF P (cmpB P m) fs off u = true → Cells P u A w x lx → Cells P u A w y ly → px.length = off → py.length = off →
      (Op.eqFields (d + m) (px ++ lx).toArray (py ++ ly).toArray fs).run P w = .ok (eqV u x y) w := by
  intro fs
  induction fs with
  | nil =>
    intro off u A x y lx ly px py hc hx hy h1 h2
    cases u
    case unit => simp [Op.eqFields, eqV]
    all_goals simp [cmpF] at hc
  | cons f fs ihf =>
    intro off u A x y lx ly px py hc hx hy h1 h2
    cases u
    case pair a b =>
      simp only [cmpF, Bool.and_eq_true, Bool.not_eq_true', beq_eq_false_iff_ne, beq_iff_eq] at hc
      obtain ⟨⟨⟨⟨c1, c2⟩, c3⟩, c4⟩, c5⟩ := hc
      simp only [Cells] at hx hy
      obtain ⟨x1, x2, rfl, hx1, hx2⟩ := hx
      obtain ⟨y1, y2, rfl, hy1, hy2⟩ := hy
      have lx1 := hx1.length
      have ly1 := hy1.length
      have p1 := run_part (w := w) (fits_of c3) (cs := (px ++ (x1 ++ x2)).toArray) (off := f.offset) (by simp; omega)
      have p2 := run_part (w := w) (fits_of c3) (cs := (py ++ (y1 ++ y2)).toArray) (off := f.offset) (by simp; omega)
      have e1 : ((px ++ (x1 ++ x2)).toArray.toList.drop f.offset).take a.size = x1 := by
        rw [c2, ← h1, ← lx1]; simp
      have e2 : ((py ++ (y1 ++ y2)).toArray.toList.drop f.offset).take a.size = y1 := by
        rw [c2, ← h2, ← ly1]; simp
      rw [e1] at p1
      rw [e2] at p2
      have hr := ihf (off + a.size) b x.2 y.2 x2 y2 (px ++ x1) (py ++ y1) c5 hx2 hy2 (by simp; omega) (by simp; omega)
      simp only [List.append_assoc] at hr
      simp only [Op.eqFields, ne_eq, c1, not_false_eq_true, if_true, Sem.run_bind, p1, p2, Result.andThen_ok, ih c4 hx1 hy1]
      have hv : eqV (.pair a b) x y = (eqV a x.1 y.1 && eqV b x.2 y.2) := rfl
      rw [hv]
      cases hq : eqV a x.1 y.1
      · simp
      · simpa using hr
    all_goals simp [cmpF] at hc

theorem run_equalIn_cmp (d : Nat) : ∀ (m : Nat) {t : TypeId} {u : Ty} {A : Nat → Prop} {x y : u.den} {lx ly : List Value}, cmpB P m t u = true → Cells P u A w x lx → Cells P u A w y ly →
    (Op.equalIn (d + m) t (u.wrap lx) (u.wrap ly)).run P w = .ok (eqV u x y) w := by
  intro m
  induction m with
  | zero => intro t u A x y lx ly h; cases h
  | succ m ih =>
    intro t u A x y lx ly h hx hy
    have hs : ∀ {v : Ty} {fs : Array Field} {x y : v.den} {lx ly : List Value}, P.underlying t = some (.struct fs) → P.stoodInHeld t = false → v.agg = true → cmpF P (cmpB P m) fs.toList 0 v = true → Cells P v A w x lx → Cells P v A w y ly →
        (Op.equalIn (d + (m + 1)) t (v.wrap lx) (v.wrap ly)).run P w = .ok (eqV v x y) w := by
      intro v fs x y lx ly hu hh ha hc hx hy
      have hf : P.fieldsOf t = fs := by unfold Program.fieldsOf; rw [hu]
      rw [show d + (m + 1) = (d + m) + 1 from rfl]
      unfold Ty.wrap
      rw [if_pos ha, if_pos ha, run_equalIn_struct w (d + m) t _ _ (by rw [hf]; exact hu) hh, hf]
      have := eqFields_run (d := d) ih fs.toList 0 v x y lx ly [] [] hc hx hy rfl rfl
      simpa using this
    unfold cmpB at h
    split at h
    · rename_i hu
      simp only [Cells] at hx hy; subst hx; subst hy
      exact Go.run_equalIn_bool w (d + m) t _ _ hu
    · rename_i hu
      simp only [Cells] at hx hy; subst hx; subst hy
      exact run_equalIn_int w (d + m) t _ _ _ _ hu
    · rename_i hu
      simp only [Cells] at hx hy; subst hx; subst hy
      refine (run_equalIn_string w (d + m) t _ _ hu).trans ?_
      simp only [eqV, ByteArray.toList_eq]
    · rename_i fs hu
      simp only [Bool.and_eq_true, Bool.not_eq_true'] at h
      exact hs hu h.1 rfl h.2 hx hy
    · rename_i fs hu
      simp only [Bool.and_eq_true, Bool.not_eq_true'] at h
      exact hs hu h.1 rfl h.2 hx hy
    · rename_i n v k e hu
      simp only [Bool.and_eq_true, beq_iff_eq] at h
      obtain ⟨⟨rfl, hf⟩, hc⟩ := h
      have hF := fits_of hf
      obtain ⟨inf, dd, i1, i2, i3, _⟩ := hF.ex
      simp only [Cells] at hx hy
      obtain ⟨a1, a2, a3⟩ := hx
      obtain ⟨b1, b2, b3⟩ := hy
      rw [show d + (m + 1) = (d + m) + 1 from rfl]
      have ha : (Ty.arr n v).agg = true := rfl
      unfold Ty.wrap
      rw [if_pos ha, if_pos ha, run_equalIn_array w (d + m) _ _ hu i1]
      have hsz : P.cellsOf e = v.size := by simp [Program.cellsOf, i1, i3]
      rw [hsz]
      have items : ∀ is : List Nat, (∀ i ∈ is, i < n) → (Op.eqItems (d + m) e v.size lx.toArray ly.toArray is).run P w = .ok (is.all fun i => eqV v (List.getD x i v.dflt) (List.getD y i v.dflt)) w := by
        intro is
        induction is with
        | nil => intro _; simp [Op.eqItems]
        | cons i is ihs =>
          intro hi
          have hlt := hi i (List.mem_cons_self ..)
          have hb : i * v.size + v.size ≤ n * v.size := by rw [← Nat.succ_mul]; exact Nat.mul_le_mul_right _ hlt
          have p1 := run_part (w := w) hF (cs := lx.toArray) (off := i * v.size) (by simp; omega)
          have p2 := run_part (w := w) hF (cs := ly.toArray) (off := i * v.size) (by simp; omega)
          have hxi : (x : List v.den)[i]? = some (List.getD x i v.dflt) := by
            rw [List.getD_eq_getElem?_getD, List.getElem?_eq_getElem (by omega)]; rfl
          have hyi : (y : List v.den)[i]? = some (List.getD y i v.dflt) := by
            rw [List.getD_eq_getElem?_getD, List.getElem?_eq_getElem (by omega)]; rfl
          have he := ih hc (a3 i _ hxi) (b3 i _ hyi)
          simp only [Op.eqItems, Sem.run_bind, p1, p2, Result.andThen_ok, he, List.all_cons]
          have hr := ihs (fun j hj => hi j (List.mem_cons_of_mem _ hj))
          cases hq : eqV v (List.getD x i v.dflt) (List.getD y i v.dflt)
          · simp
          · simpa using hr
      exact items (List.range n) (fun i hi => List.mem_range.1 hi)
    · cases h

theorem binK_plain {A : Nat → Prop} {ty : Ty} {op : BinOp} {sx sy : SV} {vx : Value} (hx : SVRel P A w ρ sx vx) (hp : ∀ t p, t.agg = true → sx ≠ .val t p) (h : binK ty op sx sy K = some r) : (∀ cs, vx ≠ .agg cs) ∧ vx ≠ .nilIface := by
  unfold binK at h
  split at h
  · rw [int_inv hx]; exact ⟨fun _ => by simp, by simp⟩
  · rw [str_inv hx]; exact ⟨fun _ => by simp, by simp⟩
  · rw [bool_inv hx]; exact ⟨fun _ => by simp, by simp⟩
  · obtain ⟨l, hc, rfl⟩ := hx
    simp only [Cells] at hc
    obtain ⟨p, c, rfl, h0, _⟩ := hc
    exact ⟨fun _ => by simp [Ty.wrap, Ty.agg], by simp [Ty.wrap, Ty.agg]⟩
  · exact absurd rfl (hp _ _ rfl)
  · exact absurd rfl (hp _ _ rfl)
  · cases h

theorem aggK_inv {ty : Ty} {op : BinOp} {t : Ty} {p : t.den} {u : Ty} {q : u.den} (h : aggK ty op t p u q K = some r) :
    ∃ q' : t.den, SV.val u q = .val t q' ∧ ty = t ∧ t.cmp = true ∧ (op = .eql ∧ K (.val .bool (eqV t p q')) = some r ∨ op = .neq ∧ K (.val .bool (!eqV t p q')) = some r) := by
  unfold aggK at h
  split at h
  · rename_i hu
    subst hu
    split at h
    · rename_i hc
      refine ⟨q, rfl, hc.1, hc.2, ?_⟩
      split at h
      · exact .inl ⟨rfl, h⟩
      · exact .inr ⟨rfl, h⟩
      · cases h
    · cases h
  · cases h

theorem binK_agg {ty t : Ty} (ht : t.agg = true) {op : BinOp} {p : t.den} {sy : SV} (h : binK ty op (.val t p) sy K = some r) :
    ∃ q : t.den, sy = .val t q ∧ ty = t ∧ t.cmp = true ∧ (op = .eql ∧ K (.val .bool (eqV t p q)) = some r ∨ op = .neq ∧ K (.val .bool (!eqV t p q)) = some r) := by
  cases t with
  | pair a b =>
    cases sy with
    | val u q => exact aggK_inv (show aggK ty op (.pair a b) p u q K = some r from h)
    | _ => cases h
  | arr n t =>
    cases sy with
    | val u q => exact aggK_inv (show aggK ty op (.arr n t) p u q K = some r from h)
    | _ => cases h
  | unit => cases sy <;> cases h
  | _ => cases ht

theorem shape_err {t : TypeId} {i : TyI} (h : shapeB P t i = true) (hty : i.ty = .err) : ∃ ms, P.underlying t = some (.interface ms) := by
  unfold shapeB at h
  rw [hty] at h
  cases hu : P.underlying t with
  | none => rw [hu] at h; cases h
  | some d => rw [hu] at h; cases d <;> first | exact ⟨_, rfl⟩ | cases h

theorem run_equalIn_nil {t : TypeId} {ms : Array (String × TypeId)} (d : Nat) (v : Value) (hu : P.underlying t = some (.interface ms)) (hv : v = .nilIface ∨ ∃ u x, v = .iface u x) : (Op.equalIn (d + 1) t v .nilIface).run P w = .ok (v matches .nilIface) w := by
  rcases hv with rfl | ⟨u, x, rfl⟩ <;> simp [Op.equalIn, run_underlying hu]

theorem binOp_sound (hT : TabOk P g.T) (h : Rel P A0 w0 ρ s a w) {op : BinOp} {t yt : TypeId} {x y : Operand} (ho : o.op = .binOp op t x y yt) (hk : pureK g s o K = some r) : Yld P A0 ρ s a w o K r := by
  simp only [pureK, ho] at hk
  have hx := (evalO_sound (T := g.T) h t x).1
  have hy := (evalO_sound (T := g.T) h t y).1
  have hex : execOp a.eval o = (do pure (.value (← (do eqGuard op t x y (a.eval x) (a.eval y); Go.binOp op t (a.eval x) (a.eval y))))) := by simp only [execOp, ho]
  split at hk
  · cases hk
  · rename_i i hi
    have err : ∀ b : Bool, SVRel P (Av A0 ρ s.chunks) w ρ (.val .err b) (a.eval x) → i.ty = .err → y = .const .nilIface →
        ((eqGuard op t x y (a.eval x) (a.eval y)).run P w = .ok () w ∧ (Op.equal t (a.eval x) .nilIface).run P w = .ok b w) ∧ a.eval y = .nilIface ∧ (∀ k n, a.eval x ≠ .int k n) ∧ (∀ k n, a.eval x ≠ .float k n) ∧ (∀ k n m, a.eval x ≠ .complex k n m) ∧ (∀ s, a.eval x ≠ .string s) := by
      intro b hb hty hny
      obtain ⟨ms, hu⟩ := shape_err (hT.shape hi) hty
      have hv : a.eval x = .nilIface ∧ b = true ∨ b = false ∧ ∃ u v, a.eval x = .iface u v := by
        obtain ⟨l, hl, hv⟩ := hb
        simp only [Cells] at hl
        rcases hl with ⟨rfl, rfl⟩ | ⟨rfl, u, v, rfl⟩
        · exact .inl ⟨hv, rfl⟩
        · exact .inr ⟨rfl, u, v, hv⟩
      have hyv : a.eval y = .nilIface := by rw [hny]; rfl
      refine ⟨⟨run_eqGuard ⟨fun cs => ?_, .inr (.inr hny)⟩, ?_⟩, hyv, ?_⟩
      · rcases hv with ⟨h1, _⟩ | ⟨_, u, v, h1⟩ <;> rw [h1] <;> simp
      · rcases hv with ⟨h1, h2⟩ | ⟨h2, u, v, h1⟩
        · rw [h1, h2]; exact run_eq_of fun d => run_equalIn_nil d _ hu (.inl rfl)
        · rw [h1, h2]; exact run_eq_of fun d => run_equalIn_nil d _ hu (.inr ⟨u, v, rfl⟩)
      · rcases hv with ⟨h1, _⟩ | ⟨_, u, v, h1⟩ <;> rw [h1] <;> simp
    split at hk
    · rename_i b hty he
      rw [he] at hx
      obtain ⟨⟨h1, h2⟩, h3, h4, h5, h6, h7⟩ := err b hx hty rfl
      refine Yld.of_run hex (v := .bool b) ?_ (mk_bool b) trivial hk
      rw [h3] at h1 ⊢
      simp only [Sem.run_bind, h1, Result.andThen_ok]
      unfold Go.binOp
      split <;> simp_all
    · rename_i b hty he
      rw [he] at hx
      obtain ⟨⟨h1, h2⟩, h3, h4, h5, h6, h7⟩ := err b hx hty rfl
      refine Yld.of_run hex (v := .bool (!b)) ?_ (mk_bool _) trivial hk
      rw [h3] at h1 ⊢
      simp only [Sem.run_bind, h1, Result.andThen_ok]
      unfold Go.binOp
      split <;> simp_all
    · by_cases hp : ∃ u p, u.agg = true ∧ evalO g.T t s x = .val u p
      · obtain ⟨u, p, ag, hp⟩ := hp
        rw [hp] at hk hx
        obtain ⟨q, hq, hty, hc, hk2⟩ := binK_agg ag hk
        rw [hq] at hy
        have he := hT.eq hi
        rw [hty] at he
        simp only [eqB, ag, hc, Bool.and_self, Bool.not_true, Bool.false_or, Bool.and_eq_true, Bool.not_eq_true'] at he
        obtain ⟨l1, c1, e1⟩ := hx
        obtain ⟨l2, c2, e2⟩ := hy
        have hrun := run_equalIn_cmp (P := P) (w := w) 9970 30 he.1 c1 c2
        simp only [Ty.wrap, ag, if_true] at e1 e2 hrun
        rcases hk2 with ⟨rfl, hk2⟩ | ⟨rfl, hk2⟩
        · refine Yld.of_run hex (v := .bool (eqV u p q)) ?_ (mk_bool _) trivial hk2
          rw [e1, e2]
          simp only [Sem.run_bind, run_eqGuard_agg w _ t x _ _ _ he.2, Result.andThen_ok, run_eql_struct, hrun]
        · refine Yld.of_run hex (v := .bool (!eqV u p q)) ?_ (mk_bool _) trivial hk2
          rw [e1, e2]
          simp only [Sem.run_bind, run_eqGuard_agg w _ t x _ _ _ he.2, Result.andThen_ok, run_neq_struct, hrun]
      · have hp' : ∀ u p, u.agg = true → evalO g.T t s x ≠ .val u p := fun u p ag e => hp ⟨u, p, ag, e⟩
        obtain ⟨sv, v, h1, h2, h3, h4⟩ := binK_sound hT hi hx hy hp' hk
        obtain ⟨h5, h6⟩ := binK_plain hx hp' hk
        refine Yld.of_run hex (v := v) ?_ (h2 _) (h3 _) h4
        simp only [Sem.run_bind, run_eqGuard ⟨h5, .inl h6⟩, Result.andThen_ok]
        exact h1

theorem unOp_sound (h : Rel P A0 w0 ρ s a w) {op : UnOp} {t : TypeId} {x : Operand} (ho : o.op = .unOp op t x) (hk : pureK g s o K = some r) : Yld P A0 ρ s a w o K r := by
  simp only [pureK, ho] at hk
  have hx := (evalO_sound (T := g.T) h t x).1
  exact Yld.of_rk (by simp only [execOp, ho]) (unK_sound hx hk)
end
end Go.Vx
