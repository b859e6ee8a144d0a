/- V23: functions. -/
import Derived.Test.YtkfigfhjbejikaaGreatDoorV22
set_option linter.all false
namespace Go.Vx
open Go.RowKit
variable [GT]

section
variable {P : Program} {A0 : Nat → Prop} {w0 : Base} {ρ : Places} {s s' : St} {a : Act} {w w' : World} {g : G} {R : Type} {r : R} {ops : Array Oper}

/-! ### Functions -/
theorem argSlots_sound {A : Nat → Prop} : ∀ {t : Ty} {x : t.den} {l : List Value}, Cells P t A w x l → CellsRel P A w ρ (argSlots t x) (t.group l) := by
  intro t
  induction t with
  | pair a b iha ihb =>
    intro x l h
    simp only [Cells] at h
    obtain ⟨l1, l2, rfl, h1, h2⟩ := h
    have e1 : (l1 ++ l2).take a.size = l1 := by rw [← h1.length, List.take_left]
    have e2 : (l1 ++ l2).drop a.size = l2 := by rw [← h1.length, List.drop_left]
    have ih := ihb h2
    simp only [argSlots, Ty.group, e1, e2]
    refine ⟨by simpa using ih.1, fun i sv hi => ?_⟩
    cases i with
    | zero => simp at hi; subst hi; exact ⟨_, rfl, l1, h1, rfl⟩
    | succ i => obtain ⟨v, h3, h4⟩ := ih.2 i sv (by simpa using hi); exact ⟨v, by simpa using h3, h4⟩
  | _ => intro x l h; exact ⟨rfl, fun i sv hi => by simp [argSlots] at hi⟩

theorem argSlots_in (n : Nat) : ∀ {t : Ty} {x : t.den}, ∀ sv ∈ argSlots t x, sv.inn n := by
  intro t
  induction t with
  | pair a b iha ihb =>
    intro x sv hs
    simp only [argSlots, List.mem_cons] at hs
    rcases hs with rfl | hs
    · trivial
    · exact ihb sv hs
  | _ => intro x sv hs; simp [argSlots] at hs

theorem Rel.settleR (h : Rel P A0 w0 ρ s a w) (sv : SV) : Rel P A0 w0 ρ (s.settleR sv) a w := by
  unfold St.settleR
  split
  · refine Rel.freeze ?_ _
    split
    · exact Rel.settleCells _ h
    · exact h
  · exact h.settle _

theorem Rel.settleRes : ∀ (l : List ResultVar) {s : St}, Rel P A0 w0 ρ s a w → Rel P A0 w0 ρ (Vx.settleRes l s) a w
  | [], _, h => h
  | .tmp t :: l, _, h => Rel.settleRes l (h.settleR _)
  | .cell _ _ :: l, _, h => Rel.settleRes l (h.settleIn _)

/-- What a result variable hands back. -/
def resV (P : Program) (a : Act) (w : World) (v : ResultVar) (u : Value) : Prop :=
  (match v with
    | .tmp t => (pure (a.tmps.getD t undef) : Sem Value)
    | .cell p t => do loadVar t (← asAddr (a.tmps.getD p undef))).run P w = .ok u w

theorem cellOf_soundA (hT : TabOk P g.T) (h : Rel P A0 w0 ρ s a w) {t ty : Nat} {ta : Ty} {x : ta.den} (hx : cellOf g.T s t ty ta = some x) : ∃ l, Cells P ta (Av A0 ρ s.chunks) w x l ∧ resV P a w (.cell t ty) (ta.wrap l) := by
  unfold cellOf at hx
  split at hx
  · rename_i i β off hi hs
    obtain ⟨rfl, hx⟩ := ite_some hx
    split at hx
    · rename_i u cells hch
      have hc := getD_some hch
      obtain ⟨b, hb, hv⟩ : ∃ b, (ρ β).blk = some b ∧ a.tmps.getD t undef = .pointer (some ⟨b, off, none⟩) := by
        have := h.get t
        rw [hs] at this
        exact this
      obtain ⟨b', vs, hb', h1, h2⟩ := box_at (h.chunks β _ hc).1
      rw [hb] at hb'; cases hb'
      have h3 := gather_sound _ _ _ _ ((h2.drop off).take i.ty.size) hx
      have h4 := h3.length
      refine ⟨_, h3, ?_⟩
      have hl := run_loadAt (P := P) (w := w) (b := b) (off := off) (hT.fits hi) h4 (by
        have := h1.sub off i.ty.size
        rwa [Nat.zero_add] at this)
      unfold resV
      dsimp only
      rw [hv]
      simp only [Instr.loadAt, Instr.sureAddr, Sem.run_bind, Sem.run_pure, Result.andThen_ok] at hl
      simp only [asAddr, Sem.run_bind, Sem.run_pure, Result.andThen_ok]
      exact hl
    · cases hx
  · cases hx

theorem cellOf_sound (hT : TabOk P g.T) (h : Rel P A0 w0 ρ s a w) {t ty : Nat} {ta : Ty} {x : ta.den} (hx : cellOf g.T s t ty ta = some x) : ∃ l, Cells P ta A0 w x l ∧ resV P a w (.cell t ty) (ta.wrap l) := by
  obtain ⟨l, h1, h2⟩ := cellOf_soundA hT h hx
  exact ⟨l, h1.mono (fun _ _ _ => rfl) (fun n _ hn => .inl hn), h2⟩

theorem resOf_sound (hT : TabOk P g.T) (hE : ∀ e ∈ g.E, FnOK P e) (h : Rel P A0 w0 ρ s a w) : ∀ {t : Ty} {l : List ResultVar} {y : t.den}, resOf g.E g.T s t l = some y →
    ∃ ly, Cells P t A0 w y ly ∧ (t.group ly).length = l.length ∧ ∀ (i : Nat) (v : ResultVar) (u : Value), l[i]? = some v → (t.group ly)[i]? = some u → resV P a w v u := by
  intro t
  induction t with
  | unit =>
    intro l y hr
    cases l with
    | nil => exact ⟨[], rfl, rfl, fun i v u hv => by simp at hv⟩
    | cons _ _ => simp [resOf] at hr
  | pair ta tb iha ihb =>
    intro l y hr
    have step : ∀ (v0 : ResultVar) (l : List ResultVar) (x : ta.den) (y2 : tb.den) (l1 : List Value), Cells P ta A0 w x l1 → resV P a w v0 (ta.wrap l1) → resOf g.E g.T s tb l = some y2 →
        ∃ ly, Cells P (.pair ta tb) A0 w (x, y2) ly ∧ ((Ty.pair ta tb).group ly).length = (v0 :: l).length ∧ ∀ (i : Nat) (v : ResultVar) (u : Value), (v0 :: l)[i]? = some v → ((Ty.pair ta tb).group ly)[i]? = some u → resV P a w v u := by
      intro v0 l x y2 l1 h1 h2 hy2
      obtain ⟨l2, h3, h4, h5⟩ := ihb hy2
      have e1 : (l1 ++ l2).take ta.size = l1 := by rw [← h1.length, List.take_left]
      have e2 : (l1 ++ l2).drop ta.size = l2 := by rw [← h1.length, List.drop_left]
      refine ⟨l1 ++ l2, ⟨l1, l2, rfl, h1, h3⟩, by simp [Ty.group, e2, h4], fun i v u hv hu => ?_⟩
      simp only [Ty.group, e1, e2] at hu
      cases i with
      | zero => simp at hv hu; subst hv hu; exact h2
      | succ i => exact h5 i v u (by simpa using hv) (by simpa using hu)
    cases l with
    | nil => simp [resOf] at hr
    | cons v l =>
      cases v with
      | cell p ty =>
        obtain ⟨x, y2, hx, hy2, rfl⟩ := bindmap_some (γ := (Ty.pair ta tb).den) (f := fun a b => (a, b)) hr
        obtain ⟨l1, h1, h2⟩ := cellOf_sound hT h hx
        exact step _ l x y2 l1 h1 h2 hy2
      | tmp k =>
        obtain ⟨x, y2, hx, hy2, rfl⟩ := bindmap_some (γ := (Ty.pair ta tb).den) (f := fun a b => (a, b)) hr
        obtain ⟨l1, h1, h2⟩ := argOf_sound hE (A := Av A0 ρ s.chunks) (A' := A0) (fun n _ hn => .inl hn) (fun β ch hb => ⟨(h.chunks β ch hb).1, fun b hb' hA => by
          have h3 := (h.chunks β ch hb).2 b hb'
          have h4 := h.dom b hA
          omega⟩) (h.get k) hx
        refine step _ l x y2 l1 h1 ?_ hy2
        unfold resV
        rw [← h2]
        rfl
  | _ => intro l y hr; simp [resOf] at hr

theorem mapM_results {F : ResultVar → Sem Value} : ∀ (rs : List ResultVar) (l : List Value), l.length = rs.length → (∀ (i : Nat) (v : ResultVar) (u : Value), rs[i]? = some v → l[i]? = some u → (F v).run P w = .ok u w) → (rs.mapM F).run P w = .ok l w
  | [], l, hl, _ => by cases l with | nil => rfl | cons _ _ => simp at hl
  | v :: rs, [], hl, _ => by simp at hl
  | v :: rs, u :: l, hl, h => by
    rw [List.mapM_cons]
    simp only [Sem.run_bind, h 0 v u rfl rfl, Sem.run_pure, Result.andThen_ok, mapM_results rs l (by simpa using hl) (fun i v' u' hv hu => h (i + 1) v' u' (by simpa using hv) (by simpa using hu))]

theorem run_results {fn : Func} {l : List Value} (hl : l.length = fn.results.toList.length) (h : ∀ (i : Nat) (v : ResultVar) (u : Value), fn.results.toList[i]? = some v → l[i]? = some u → resV P a w v u) : (results fn a.tmps).run P w = .ok (pack l) w := by
  unfold results
  rw [Array.mapM_eq_mapM_toList]
  simp only [Sem.run_bind, Sem.run_map]
  rw [mapM_results fn.results.toList l hl (fun i v u hv hu => by have := h i v u hv hu; unfold resV at this; cases v <;> exact this)]
  simp only [Result.andThen_ok]
  unfold pack
  rcases l with _ | ⟨v, _ | ⟨u, l⟩⟩ <;> simp

theorem retSV_sound (hT : TabOk P g.T) (h : Rel P A0 w0 ρ s a w) {v : ResultVar} {sv : SV} (hv : retSV g.T s v = some sv) : ∃ u, resV P a w v u ∧ SVRel P (Av A0 ρ s.chunks) w ρ sv u ∧ sv.inn s.chunks.length := by
  cases v with
  | tmp t =>
    cases hv
    exact ⟨a.tmps.getD t undef, by unfold resV; rfl, h.get t, h.inn t⟩
  | cell t ty =>
    simp only [retSV] at hv
    split at hv
    · rename_i i _
      rw [Option.map_eq_some_iff] at hv
      obtain ⟨x, hx, rfl⟩ := hv
      obtain ⟨l, h1, h2⟩ := cellOf_soundA hT h hx
      exact ⟨_, h2, ⟨l, h1, rfl⟩, trivial⟩
    · cases hv

theorem retSVs_sound (hT : TabOk P g.T) (h : Rel P A0 w0 ρ s a w) : ∀ {rs : List ResultVar} {svs : List SV}, retSVs g.T s rs = some svs → ∃ us, CellsRel P (Av A0 ρ s.chunks) w ρ svs us ∧ us.length = rs.length ∧ ∀ (i : Nat) (v : ResultVar) (u : Value), rs[i]? = some v → us[i]? = some u → resV P a w v u
  | [], _, hh => by cases hh; exact ⟨[], ⟨rfl, fun i sv hi => by simp at hi⟩, rfl, fun i v u hv => by simp at hv⟩
  | v :: rs, svs, hh => by
    simp only [retSVs, Option.bind_eq_some_iff, Option.map_eq_some_iff] at hh
    obtain ⟨sv, h1, svs', h2, rfl⟩ := hh
    obtain ⟨u, h3, h4, _⟩ := retSV_sound hT h h1
    obtain ⟨us, h5, h6, h7⟩ := retSVs_sound hT h h2
    refine ⟨u :: us, ⟨by simp [h5.1], fun i sv' hi => ?_⟩, by simp [h6], fun i v' u' hv hu => ?_⟩
    · cases i with
      | zero => simp at hi; subst hi; exact ⟨u, rfl, h4⟩
      | succ i => obtain ⟨v', h8, h9⟩ := h5.2 i sv' (by simpa using hi); exact ⟨v', by simpa using h8, h9⟩
    · cases i with
      | zero => simp at hv hu; subst hv hu; exact h3
      | succ i => exact h7 i v' u' (by simpa using hv) (by simpa using hu)

theorem retK_sound (hT : TabOk P g.T) (hE : ∀ e ∈ g.E, FnOK P e) (h : Rel P A0 w0 ρ s a w) {fn : Func} {K : SV → St → Option R} (hk : retK g fn s K = some r) :
    ∃ u s' sv, (results fn a.tmps).run P w = .ok u w ∧ Rel P A0 w0 ρ s' a w ∧ SVRel P (Av A0 ρ s'.chunks) w ρ sv u ∧ sv.inn s'.chunks.length ∧ K sv s' = some r := by
  unfold retK at hk
  split at hk
  · rename_i hrs
    refine ⟨_, s, _, run_results (l := []) (by rw [hrs]; rfl) (fun i v u hv hu => by simp at hu), h, (show SVRel P (Av A0 ρ s.chunks) w ρ (.tup .unit ()) (pack []) from ⟨[], rfl, rfl⟩), trivial, hk⟩
  · rename_i t hrs
    refine ⟨_, s, _, run_results (l := [a.tmps.getD t undef]) (by rw [hrs]; rfl) (fun i v u hv hu => ?_), h, h.get t, h.inn t, hk⟩
    rw [hrs] at hv
    cases i with
    | zero => rw [List.getElem?_cons_zero, Option.some.injEq] at hv hu; subst hv hu; unfold resV; rfl
    | succ i => simp at hv
  · simp only [Option.bind_eq_some_iff] at hk
    obtain ⟨ty, _, svs, h2, y, h3, h4⟩ := hk
    have hS := Rel.settleRes fn.results.toList h
    generalize Vx.settleRes fn.results.toList s = s1 at *
    obtain ⟨us, h5, h6, h7⟩ := retSVs_sound hT hS h2
    obtain ⟨l, h8, h9⟩ := argsOf_sound hE (A' := Av A0 ρ s1.chunks) (cs := []) (fun _ _ h => h) (fun β ch hb => by simp at hb) h5 h3
    obtain ⟨h10, h11⟩ := resSV_sound (ρ := ρ) (n := s1.chunks.length) h8
    refine ⟨_, s1, _, run_results (l := us) h6 h7, hS, ?_, h11, h4⟩
    rw [h9] at h10
    exact h10

theorem retK_nat {fn : Func} (K : SV → St → Option R) : retK g fn s K = (retK g fn s fun sv s => some (sv, s)).bind fun p => K p.1 p.2 := by
  unfold retK
  split
  · rfl
  · rfl
  · simp only [Option.bind_assoc, Option.bind_some]

theorem findI_mem : ∀ {I : List Inl} {f : FuncId} {e : Inl}, findI I f = some e → e ∈ I ∧ e.f = f
  | [], _, _, h => by cases h
  | i :: I, f, e, h => by
    unfold findI at h
    split at h
    · rename_i hb
      cases h
      exact ⟨List.mem_cons_self .., by simpa using hb⟩
    · obtain ⟨h1, h2⟩ := findI_mem h
      exact ⟨List.mem_cons_of_mem _ h1, h2⟩

/-- What the table of entered functions says of the program. -/
def CopyOK (P : Program) (f : FuncId) (e0 : TypeId) : Prop :=
  Enters P f ∧ ∀ (w : World) (b : Nat) (p v : Value), w.heap[b]? = some (.cells #[p, v] e0 (0, 0)) → (p = .pointer none ∨ p = .pointer (some ⟨b, 0, none⟩)) →
    Calls P f #[.pointer (some ⟨b, 0, none⟩)] w fun ex w' => ex = .returned (.tuple #[]) ∧ w'.heap[b]? = some (.cells #[.pointer (some ⟨b, 0, none⟩), v] e0 (0, 0)) ∧
      (∀ n, n ≠ b → w'.heap[n]? = w.heap[n]?) ∧ w'.heap.size = w.heap.size ∧ w'.os = w.os ∧ w'.tape = w.tape ∧ w'.output = w.output

def InlOK (P : Program) (i : Inl) : Prop := P.funcs[i.f]? = some i.fn ∧ (i.fn.name == "runtime.NumGoroutine") = false ∧ ∀ e0, i.lib = some e0 → CopyOK P i.f e0

theorem copyK_nat {e0 : Nat} {svs : List SV} (K : SV → St → Option R) : copyK e0 svs s K = (copyK e0 svs s fun sv s => some (sv, s)).bind fun p => K p.1 p.2 := by
  unfold copyK
  split
  · split
    · split <;> rfl
    · rfl
  · rfl

theorem copyK_sound {A0 : Nat → Prop} {w0 : Base} {f : FuncId} {e0 : Nat} (hO : CopyOK P f e0) (h : Rel P A0 w0 ρ s a w) {svs : List SV} {vs : List Value} (hv : CellsRel P (Av A0 ρ s.chunks) w ρ svs vs) {K : SV → St → Option R} {r : R} (hk : copyK e0 svs s K = some r) :
    Enters P f ∧ Calls P f vs.toArray w (Back P A0 w0 a K r) := by
  refine ⟨hO.1, ?_⟩
  unfold copyK at hk
  split at hk
  · rename_i β
    obtain ⟨v0, hv0, b, hb, rfl⟩ := hv.2 0 _ rfl
    have hvs : vs = [.pointer (some ⟨b, 0, none⟩)] := by
      have hl := hv.1
      match vs, hl, hv0 with
      | [x], _, h0 => simp at h0; rw [h0]
    subst hvs
    split at hk
    · rename_i t γ e sv hch
      obtain ⟨hcond, hk2⟩ := ite_some hk
      clear hk
      obtain ⟨rfl, rfl⟩ := hcond
      have hc := getD_some hch
      obtain ⟨b', cs, e', hb', hg, ⟨hlen, hpe⟩, hcr⟩ := (h.chunks γ _ hc).1
      rw [hb] at hb'; cases hb'
      obtain ⟨p, hp, he, b2, hb2, hpp⟩ := hcr 0 _ rfl
      rw [hb] at hb2; cases hb2
      obtain ⟨v, hv1, hvr⟩ := hcr 1 _ rfl
      have hcs : cs = #[p, v] := by
        apply Array.ext
        · simpa using hlen
        · intro i h1 h2
          match i, h2 with
          | 0, _ => simpa [Array.getElem?_eq_getElem h1] using hp
          | 1, _ => simpa [Array.getElem?_eq_getElem h1] using hv1
      subst hcs
      rw [he] at hpe
      subst hpe
      refine (hO.2 w b p v hg hpp).mono fun ex w' ⟨h1, h2, h3, h4, h5, h6, h7⟩ => ?_
      have hW := h.write (w' := w') (ch' := .box t [.mayp γ e, sv]) hc hb h3 h4 h5 h6 h7 (h.cnames γ _ hc) (fun A hA => by
        refine ⟨b, _, e, hb, h2, ⟨rfl, he⟩, fun i x hi => ?_⟩
        match i, hi with
        | 0, hi => simp at hi; subst hi; exact ⟨_, rfl, he, b, hb, .inr rfl⟩
        | 1, hi =>
          simp at hi; subst hi
          have hAb : Av A0 ρ s.chunks b := .inr ⟨γ, _, hc, hb⟩
          exact ⟨v, rfl, hvr.mono (fun n hn hnA => h3 n fun e => hnA (e ▸ hAb)) (fun n _ hn => (hA n).1 hn)⟩
        | i + 2, hi => simp at hi)
      have e1 : s.chunks.set γ (some (.box t [.mayp γ e, sv])) = s.chunks := by
        apply List.ext_getElem?
        intro n
        rw [List.getElem?_set]
        split
        · rename_i hn
          subst hn
          split
          · exact hc.symm
          · rename_i hl
            rw [List.getElem?_eq_none (by omega)] at hc
            cases hc
        · rfl
      rw [e1] at hW
      exact ⟨_, ρ, s, .tup .unit (), h1, hW, ⟨[], rfl, rfl⟩, trivial, hk2⟩
    · cases hk
  · cases hk

theorem endRound_nat {s0 : St} {e : Exit} (K : SV → St → Option R) : endRound s0 e s K = (endRound s0 e s fun sv s => some (sv, s)).bind fun p => K p.1 p.2 := by
  unfold endRound
  simp only [Option.bind_assoc, Option.bind_some]

theorem inl_nat (I : List Inl) (fuel : Nat) (d : Nat) : CallNat (inl g I fuel d) := by
  induction d with
  | zero => intro R n svs s K; rfl
  | succ d ihd =>
    intro R n svs s K
    unfold inl
    cases n with
    | fn n =>
      dsimp only
      split
      · rfl
      split
      · exact copyK_nat K
      · split
        · rfl
        · conv => rhs; rw [exec_nat ihd]
          rw [exec_nat ihd (R := R), Option.bind_assoc]
          congr 1
          funext p
          obtain ⟨e, s'⟩ := p
          have key : ∀ fn : Func, (if s'.leaves then retK g fn { s' with nmk := 0 } fun sv s'' => K sv (leaveS s'' s) else none) = (if s'.leaves then retK g fn { s' with nmk := 0 } fun sv s'' => some (sv, leaveS s'' s) else none).bind fun p => K p.1 p.2 := by
            intro fn
            split
            · conv => rhs; rw [retK_nat]
              rw [retK_nat (R := R), Option.bind_assoc]; rfl
            · rfl
          cases e with
          | normal => exact key _
          | ret => exact key _
          | _ => rfl
    | round info =>
      dsimp only
      conv => rhs; rw [exec_nat ihd]
      rw [exec_nat ihd (R := R), Option.bind_assoc]
      congr 1
      funext p
      obtain ⟨e, s1⟩ := p
      cases e with
      | normal =>
        dsimp only
        rw [Option.bind_assoc]
        congr 1
        funext β
        rw [Option.bind_assoc]
        congr 1
        funext s2
        conv => rhs; rw [exec_nat ihd]
        rw [exec_nat ihd (R := R), Option.bind_assoc]
        congr 1
        funext p
        exact endRound_nat K
      | _ => rfl

/-- The base of a frame that is entered. -/
def Base.enter (w0 : Base) (a : Act) (ms : List Nat) (ro : Option Nat) : Base :=
  { w := w0.w, ext := a.tmps.toList ++ w0.ext, infos := w0.infos, ro := ro, marks := ms ++ w0.marks, rounds := w0.ro.toList ++ w0.rounds }

theorem enterS_rel {A0 : Nat → Prop} {w0 : Base} (h : Rel P A0 w0 ρ s a w) {svs : List SV} {vs : List Value} (hv : CellsRel P (Av A0 ρ s.chunks) w ρ svs vs) (hn : ∀ sv ∈ svs, sv.inn s.chunks.length) (n : Nat) (ro : Option Nat) (hro : ∀ l, ro = some l → ∃ r : Loop, w.heap[l]? = some (.loop r)) :
    ∃ ms : List Nat, a.defers = ms.map markD ∧ (s.nmk = 0 → ms = []) ∧ (ms ++ w0.marks).Nodup ∧ Rel P A0 (w0.enter a ms ro) ρ (enterS s svs n ro.isSome) { tmps := vs.toArray ++ Array.replicate (n - vs.toArray.size) undef, defers := [] } w := by
  obtain ⟨ms, ⟨m1, m2, m3⟩, m4⟩ := h.defers
  refine ⟨ms, m1, m2, m3, by simp [enterS, hv.1], fun i sv hi => ?_, h.chunks, h.inj, fun i sv hi => ?_, h.cnames, h.below, h.dom, ⟨[], ⟨rfl, fun _ => rfl, by simpa [Base.enter] using m3⟩, fun r hr => ?_⟩, ⟨h.dep.1, rfl⟩, h.lpi, fun l hl => ?_, h.glob, by simp [enterS, Base.enter, h.ksize, h.size], fun i sv hi => ?_, fun i sv hi => ?_⟩
  · simp only [enterS] at hi
    rw [List.getElem?_append] at hi
    split at hi
    · rename_i hlt
      obtain ⟨v, h1, h2⟩ := hv.2 i sv hi
      have e1 : (vs.toArray ++ Array.replicate (n - vs.toArray.size) undef).getD i undef = v := by
        rw [Array.getD_eq_getD_getElem?, Array.getElem?_append_left (by simp [hv.1]; omega)]
        simp [h1]
      rw [e1]
      exact h2
    · rw [List.getElem?_replicate] at hi
      split at hi
      · cases hi; trivial
      · cases hi
  · simp only [enterS] at hi
    rw [List.getElem?_append] at hi
    split at hi
    · exact hn sv (List.mem_of_getElem? hi)
    · rw [List.getElem?_replicate] at hi
      split at hi
      · cases hi; trivial
      · cases hi
  · rcases hr with hr | hr
    · cases hr
    · simp only [Base.enter, List.mem_append] at hr
      exact m4 r hr
  · rcases hl with hl | hl
    · exact hro l hl
    · simp only [Base.enter, List.mem_append, Option.mem_toList] at hl
      exact h.round l hl
  · simp only [enterS, Base.enter] at hi ⊢
    rw [List.getElem?_append] at hi
    rw [List.getD_eq_getElem?_getD, List.getElem?_append, Array.length_toList, ← h.size]
    split at hi
    · rename_i hlt
      rw [if_pos hlt, Array.getElem?_toList, ← Array.getD_eq_getD_getElem?]
      exact h.slots i sv hi
    · rename_i hlt
      rw [if_neg hlt, ← List.getD_eq_getElem?_getD]
      exact h.kslots _ sv hi
  · simp only [enterS] at hi
    rw [List.getElem?_append] at hi
    split at hi
    · exact h.names i sv hi
    · exact h.knames _ sv hi

theorem leaveS_rel {A0 : Nat → Prop} {w0 : Base} {s0 : St} {a0 a : Act} {ms : List Nat} {ro : Option Nat} (hm : s0.slots.length = a0.tmps.size) (hd : a0.defers = ms.map markD) (hn : s0.nmk = 0 → ms = []) (hnd : (ms ++ w0.marks).Nodup) (hrn : s0.rnd = w0.ro.isSome)
    (h : Rel P A0 (w0.enter a0 ms ro) ρ s a w) : Rel P A0 w0 ρ (leaveS s s0) a0 w := by
  have hk := h.ksize
  simp only [Base.enter, List.length_append, Array.length_toList] at hk
  obtain ⟨ms', _, m4⟩ := h.defers
  refine ⟨by simp [leaveS, hk, hm], fun i sv hi => ?_, h.chunks, h.inj, fun i sv hi => ?_, h.cnames, h.below, h.dom, ⟨ms, ⟨hd, hn, hnd⟩, fun r hr => m4 r (.inr (by simpa [Base.enter] using hr))⟩, ⟨h.dep.1, hrn⟩, h.lpi, fun l hl => h.round l (.inr (by simpa [Base.enter, Option.mem_toList] using hl)), h.glob, by simp [leaveS, hk, hm], fun i sv hi => ?_, fun i sv hi => ?_⟩
  · simp only [leaveS, List.getElem?_take] at hi
    split at hi
    · rename_i hlt
      have := h.kslots i sv hi
      simp only [Base.enter, List.getD_eq_getElem?_getD, List.getElem?_append, Array.length_toList] at this
      rw [if_pos (by omega), Array.getElem?_toList, ← Array.getD_eq_getD_getElem?] at this
      exact this
    · cases hi
  · simp only [leaveS, List.getElem?_take] at hi
    split at hi
    · exact h.knames i sv hi
    · cases hi
  · simp only [leaveS, List.getElem?_drop] at hi
    have := h.kslots _ sv hi
    simp only [Base.enter, List.getD_eq_getElem?_getD, List.getElem?_append, Array.length_toList] at this
    rw [if_neg (by omega), hm, Nat.add_sub_cancel_left, ← List.getD_eq_getElem?_getD] at this
    exact this
  · simp only [leaveS, List.getElem?_drop] at hi
    exact h.knames _ sv hi

/-! ### Marks are taken as a function is left -/
/-- The world, some blocks of deferred calls shut. -/
structure Shut (ms : List Nat) (w w' : World) : Prop where
  os : w'.os = w.os
  tape : w'.tape = w.tape
  output : w'.output = w.output
  size : w'.heap.size = w.heap.size
  other : ∀ n, n ∉ ms → w'.heap[n]? = w.heap[n]?
  were : ∀ r, r ∈ ms → w.heap[r]? = some (.deferred (some []))

variable {ms : List Nat}

theorem Shut.same (h : Shut ms w w') {n : Nat} (hn : w.heap[n]? ≠ some (.deferred (some []))) : w'.heap[n]? = w.heap[n]? := h.other n fun hm => hn (h.were n hm)

theorem cellsAt_shut (h : Shut ms w w') {b off : Nat} {l : List Value} (hc : CellsAt w b off l) : CellsAt w' b off l := fun j v hj => by
  have h1 := hc j v hj
  have hne : w.heap[b]? ≠ some (.deferred (some [])) := by
    intro hd
    simp [World.cell?, hd] at h1
  rw [World.cell?_of_block (w := w) (a := ⟨b, off + j, none⟩) (h.same hne)]
  exact h1

theorem Cells.shut (h : Shut ms w w') {A : Nat → Prop} : ∀ {t : Ty} {x : t.den} {l : List Value}, t.noFn = true → Cells P t A w x l → Cells P t A w' x l := by
  have hsz := h.size
  intro t
  induction t with
  | pair a b iha ihb =>
    intro x l hn hc
    simp only [Ty.noFn, Bool.and_eq_true] at hn
    simp only [Cells] at hc ⊢
    obtain ⟨l1, l2, rfl, h1, h2⟩ := hc
    exact ⟨l1, l2, rfl, iha hn.1 h1, ihb hn.2 h2⟩
  | slice t ih =>
    intro x l hn hc
    simp only [Cells] at hc ⊢
    obtain ⟨p, c, rfl, h1, h2, h3⟩ := hc
    refine ⟨p, c, rfl, h1, h2, fun i y hy => ?_⟩
    obtain ⟨a, l', rfl, hs, hnA, hlt, hcc, hl⟩ := h3 i y hy
    exact ⟨a, l', rfl, hs, hnA, by rw [hsz]; exact hlt, cellsAt_shut h hcc, ih hn hl⟩
  | ref t ih =>
    intro x l hn hc
    simp only [Cells] at hc ⊢
    obtain ⟨a, l', rfl, hs, hnA, hlt, hcc, hl⟩ := hc
    exact ⟨a, l', rfl, hs, hnA, by rw [hsz]; exact hlt, cellsAt_shut h hcc, ih hn hl⟩
  | arr n t ih =>
    intro x l hn hc
    simp only [Cells] at hc ⊢
    exact ⟨hc.1, hc.2.1, fun i y hy => ih hn (hc.2.2 i y hy)⟩
  | nslice t ih =>
    intro x l hn hc
    simp only [Cells] at hc ⊢
    obtain ⟨p, c, rfl, h0, h4, h1, h2, h3⟩ := hc
    refine ⟨p, c, rfl, h0, h4, h1, h2, fun i y hy => ?_⟩
    obtain ⟨a, l', rfl, hs, hnA, hlt, hcc, hl⟩ := h3 i y hy
    exact ⟨a, l', rfl, hs, hnA, by rw [hsz]; exact hlt, cellsAt_shut h hcc, ih hn hl⟩
  | map k v ihk ihv =>
    intro x l hn hc
    simp only [Ty.noFn, Bool.and_eq_true] at hn
    simp only [Cells] at hc ⊢
    rcases hc with hc | ⟨r, ms, clock, rfl, hnA, hr, hs, he⟩
    · exact .inl hc
    refine .inr ⟨r, ms, clock, rfl, hnA, (h.same (by rw [hr]; intro hd; cases hd)).trans hr, hs, fun i y hy => ?_⟩
    obtain ⟨e, lv, h1, h2, h3, h4⟩ := he i y hy
    exact ⟨e, lv, h1, ihk hn.1 h2, ihv hn.2 h3, h4⟩
  | func a b => intro x l hn; cases hn
  | _ => intro x l _ hc; exact hc

theorem CapsRel.shut (h : Shut ms w w') {A : Nat → Prop} : ∀ {cs : List Cap} {vs : List Value}, cs.all Cap.noFn = true → CapsRel P A w ρ cs vs → CapsRel P A w' ρ cs vs
  | [], [], _, _ => trivial
  | [], _ :: _, _, hr => hr
  | _ :: _, [], _, hr => hr
  | c :: cs, v :: vs, hn, hr => by
    simp only [List.all_cons, Bool.and_eq_true] at hn
    refine ⟨?_, CapsRel.shut h hn.2 hr.2⟩
    have h1 := hr.1
    cases c with
    | box β => exact h1
    | val t x => obtain ⟨l, hl, e⟩ := h1; exact ⟨l, hl.shut h hn.1, e⟩

theorem SVRel.shut (h : Shut ms w w') {A : Nat → Prop} {sv : SV} {v : Value} (hn : sv.noFn = true) (hr : SVRel P A w ρ sv v) : SVRel P A w' ρ sv v := by
  cases sv with
  | val t x => obtain ⟨l, hl, e⟩ := hr; exact ⟨l, hl.shut h hn, e⟩
  | tup t x => obtain ⟨l, hl, e⟩ := hr; exact ⟨l, hl.shut h hn, e⟩
  | clo f caps => obtain ⟨vs, e, hc⟩ := hr; exact ⟨vs, e, hc.shut h hn⟩
  | _ => exact hr

theorem ChunkRel.shut (h : Shut ms w w') {A : Nat → Prop} {p : Place} {ch : Chunk} (hn : Chunk.noFn (some ch) = true) (hr : ChunkRel P A w ρ p ch) : ChunkRel P A w' ρ p ch := by
  cases ch with
  | box t cells =>
    obtain ⟨b, vs, e, hb, h1, h2, h3⟩ := hr
    exact ⟨b, vs, e, hb, (h.same (by rw [h1]; intro hd; cases hd)).trans h1, h2, fun i sv hi => let ⟨v, hv, hs⟩ := h3 i sv hi; ⟨v, hv, hs.shut h (List.all_eq_true.1 hn sv (List.mem_of_getElem? hi))⟩⟩
  | arr e t xs nn =>
    obtain ⟨h2, hnn, h1⟩ := hr
    refine ⟨h2, hnn, ?_⟩
    rcases h1 with h1 | ⟨b, vs, hb, h1, h3, h4, h5, h6⟩
    · exact .inl h1
    · exact .inr ⟨b, vs, hb, (h.same (by rw [h1]; intro hd; cases hd)).trans h1, h3, h4, h5, fun i x hi => (h6 i x hi).shut h hn⟩
  | mp k v es =>
    simp only [Chunk.noFn, Bool.and_eq_true] at hn
    obtain ⟨b, ms, c, hb, h1, h2, h3⟩ := hr
    refine ⟨b, ms, c, hb, (h.same (by rw [h1]; intro hd; cases hd)).trans h1, h2, fun i x hi => ?_⟩
    obtain ⟨e, lv, h4, h5, h6, h7⟩ := h3 i x hi
    exact ⟨e, lv, h4, h5.shut h hn.1, h6.shut h hn.2, h7⟩
  | it bs q =>
    obtain ⟨b, n, hb, h1, h2⟩ := hr
    exact ⟨b, n, hb, (h.same (by rw [h1]; intro hd; cases hd)).trans h1, h2⟩
  | lp i info cells st =>
    obtain ⟨b, r, hb, h1, h2, h3, h4⟩ := hr
    exact ⟨b, r, hb, (h.same (by rw [h1]; intro hd; cases hd)).trans h1, h2, h3, fun i sv hi => let ⟨v, hv, hs⟩ := h4 i sv hi; ⟨v, hv, hs.shut h (List.all_eq_true.1 hn sv (List.mem_of_getElem? hi))⟩⟩

/-- A function is left: its marks are taken, and behind that the state stands as it stood. -/
theorem Rel.taken (h : Rel P A0 w0 ρ s a w) (hl : s.leaves = true) {fn : Func} {R' : Ending → World → Prop}
    (hR : ∀ w', Rel P A0 w0 ρ { s with nmk := 0 } { a with defers := [] } w' → ∃ v, (results fn a.tmps).run P w' = .ok v w' ∧ R' (.returned v) w') :
    LeavesInM (wideR none) 0 P fn a.tmps R' a.defers .returning w := by
  obtain ⟨ms, ⟨m1, m2, m3⟩, m4⟩ := h.defers
  rw [m1]
  have key : ∀ (l gone : List Nat) (w1 : World), ms = gone ++ l → (∀ r, r ∈ l ∨ r ∈ w0.marks → w1.heap[r]? = some (.deferred (some []))) → Shut ms w w1 → (gone = [] → w1 = w) →
      LeavesInM (wideR none) 0 P fn a.tmps R' (l.map markD) .returning w1 := by
    intro l
    induction l with
    | nil =>
      intro gone w1 hms hmk hs heq
      rw [List.append_nil] at hms
      subst hms
      have hdef : ∃ ms : List Nat, (({ a with defers := [] } : Act).defers = ms.map markD ∧ (0 = 0 → ms = []) ∧ (ms ++ w0.marks).Nodup) ∧ ∀ r, r ∈ ms ∨ r ∈ w0.marks → w1.heap[r]? = some (.deferred (some [])) ∧ w0.w.heap.size ≤ r :=
        ⟨[], ⟨rfl, fun _ => rfl, by simpa using (List.nodup_append.1 m3).2.1⟩, fun r hr => ⟨hmk r (by simpa using hr), (m4 r (.inr (by simpa using hr))).2⟩⟩
      have hR1 : Rel P A0 w0 ρ { s with nmk := 0 } { a with defers := [] } w1 := by
        rcases (Bool.or_eq_true _ _ ▸ hl : (s.nmk == 0) = true ∨ (s.slots.all SV.noFn && s.kept.all SV.noFn && s.chunks.all Chunk.noFn) = true) with h0 | h0
        · have e := heq (m2 (by simpa using h0))
          subst e
          exact ⟨h.size, h.slots, h.chunks, h.inj, h.names, h.cnames, h.below, h.dom, hdef, h.dep, h.lpi, h.round, h.glob, h.ksize, h.kslots, h.knames⟩
        · simp only [Bool.and_eq_true] at h0
          obtain ⟨⟨n1, n2⟩, n3⟩ := h0
          refine ⟨h.size, fun i sv hi => (h.slots i sv hi).shut hs (List.all_eq_true.1 n1 sv (List.mem_of_getElem? hi)), fun β ch hb => ⟨(h.chunks β ch hb).1.shut hs (List.all_eq_true.1 n3 _ (List.mem_of_getElem? hb)), (h.chunks β ch hb).2⟩, h.inj, h.names, h.cnames,
            ⟨hs.os.trans h.below.os, hs.tape.trans h.below.tape, hs.output.trans h.below.output, hs.size ▸ h.below.size, fun n hn => ?_⟩, h.dom, hdef, h.dep, h.lpi, fun l hl => ?_, h.glob, h.ksize, fun i sv hi => (h.kslots i sv hi).shut hs (List.all_eq_true.1 n2 sv (List.mem_of_getElem? hi)), h.knames⟩
          · exact (hs.other n fun hm => absurd hn (Nat.not_lt.2 (m4 n (.inl hm)).2)).trans (h.below.block n hn)
          · obtain ⟨rc, hrc⟩ := h.round l hl
            exact ⟨rc, (hs.same (by rw [hrc]; intro hd; cases hd)).trans hrc⟩
      obtain ⟨v, h1, h2⟩ := hR w1 hR1
      exact ⟨v, h1, h2⟩
    | cons r l ih =>
      intro gone w1 hms hmk hs heq
      have hr := hmk r (.inl (List.mem_cons_self ..))
      have hnd : (r :: l ++ w0.marks).Nodup := by
        rw [hms, List.append_assoc] at m3
        exact (List.nodup_append.1 m3).2.1
      rw [List.cons_append, List.nodup_cons] at hnd
      refine ⟨(by intro hc; cases hc), .inl ⟨r, _, rfl, run_takeDeferred hr, ih (gone ++ [r]) _ (by rw [hms]; simp) (fun q hq => ?_) ?_ (fun hc => by simp at hc)⟩⟩
      · have hqr : q ≠ r := by
          rintro rfl
          rcases hq with hq | hq
          · exact hnd.1 (List.mem_append.2 (.inl hq))
          · exact hnd.1 (List.mem_append.2 (.inr hq))
        rw [World.putObj_heap_other hqr]
        rcases hq with hq | hq
        · exact hmk q (.inl (List.mem_cons_of_mem _ hq))
        · exact hmk q (.inr hq)
      · refine ⟨hs.os, hs.tape, hs.output, by simp [World.putObj, hs.size], fun n hn => ?_, hs.were⟩
        have hnr : n ≠ r := by
          rintro rfl
          exact hn (by rw [hms]; simp)
        rw [World.putObj_heap_other hnr]
        exact hs.other n hn
  exact key ms [] w rfl (fun r hr => (m4 r hr).1) ⟨rfl, rfl, rfl, rfl, fun _ _ => rfl, fun r hr => (m4 r (.inl hr)).1⟩ (fun _ => rfl)

theorem handle_sound {a0 : Act} {ms : List Nat} {ro : Option Nat} {l : Nat} {ext : List Value} {m : Nat} (hm : m = a0.tmps.size) (he : w0.ext = .func (.yield l) #[] #[] :: ext) (h : Rel P A0 (w0.enter a0 ms ro) ρ s a w) {β : Nat} (hh : handleOf m s = some β) : (ρ β).blk = some l := by
  unfold handleOf at hh
  split at hh
  · rename_i β' kept hk
    cases hh
    have h0 : s.kept[m]? = some (.yld β) := by
      have := congrArg (·[0]?) hk
      simpa [List.getElem?_drop] using this
    obtain ⟨b, hb, hv⟩ := h.kslots m _ h0
    subst hm
    simp only [Base.enter, he, List.getD_eq_getElem?_getD, List.getElem?_append, Array.length_toList, Nat.lt_irrefl, if_false, Nat.sub_self, List.getElem?_cons_zero, Option.getD_some, Value.func.injEq, Fn.yield.injEq] at hv
    rw [hb, hv.1]
  · cases hh

theorem setLp_inv {β : Nat} {old st : LpSt} {s' : St} (h : s.setLp β old st = some s') : ∃ i info cells, s.chunks[β]? = some (some (.lp i info cells old)) ∧ s' = { s with chunks := s.chunks.set β (some (.lp i info cells st)) } := by
  unfold St.setLp at h
  split at h
  · rename_i i info cells st' hch
    split at h
    · rename_i e
      subst e
      cases h
      exact ⟨i, info, cells, getD_some hch, rfl⟩
    · cases h
  · cases h

theorem inl_ok (hm : P.follows .mixedOrders = true) (hT : TabOk P g.T) (hE : ∀ e ∈ g.E, FnOK P e) {I : List Inl} (hI : ∀ i ∈ I, InlOK P i) (fuel : Nat) (d : Nat) : CallOK P (inl g I fuel d) ∧ RoundOK P (inl g I fuel d) := by
  induction d with
  | zero => exact ⟨fun _ _ _ h => (by cases h), fun _ _ _ _ _ _ h => (by cases h)⟩
  | succ d ihd =>
    obtain ⟨ihC, ihR⟩ := ihd
    refine ⟨?_, ?_⟩
    · intro A0 w0 ρ s a w R K r n svs vs h hv hn hk
      unfold inl at hk
      dsimp only at hk
      split at hk
      · cases hk
      · rename_i i hi
        obtain ⟨hmem, rfl⟩ := findI_mem hi
        obtain ⟨hf, hname, hlib⟩ := hI i hmem
        split at hk
        · rename_i e0 he0
          exact copyK_sound (hlib e0 he0) h hv hk
        split at hk
        · cases hk
        · rename_i c hb
          obtain ⟨ms, m1, m2, m3, hR⟩ := enterS_rel h hv hn i.fn.ntmps none (fun l hl => by cases hl)
          refine ⟨⟨i.fn, hf, hname, by rw [hb]; rfl⟩, callsR.1 (callsIn_of_wp_marks (F := wideR none) (n := 0) hf hb trivial ?_ rfl)⟩
          refine exec_sound (g := { g with muts := i.muts, fz := i.fz }) ihC ihR (inl_nat I fuel d) hm hT hE c i.keep hR hk fun ex ρ s' a' w' he hR' hK => ?_
          have fin : (if s'.leaves then retK g i.fn { s' with nmk := 0 } fun sv s'' => K sv (leaveS s'' s) else none) = some r → LeavesInM (wideR none) 0 P i.fn a'.tmps (Back P A0 w0 a K r) a'.defers .returning w' := by
            intro hr
            obtain ⟨hl, hr⟩ := ite_some hr
            refine hR'.taken hl fun w2 hR2 => ?_
            obtain ⟨u, s2, sv, h1, h2, h3, h4, h5⟩ := retK_sound hT hE hR2 hr
            exact ⟨u, h1, u, ρ, _, sv, rfl, leaveS_rel h.size m1 m2 m3 h.dep.2 h2, h3, h4, h5⟩
          cases ex with
          | normal => exact fin hK
          | ret => exact fin hK
          | exit id => cases hK
          | _ => cases he
    · intro A0 w0 ρ s a w R K r info svs vs l β i cells ext kept fnn h hv hn he hkp hc hk
      unfold inl at hk
      dsimp only at hk
      have hbl : (ρ β).blk = some l := by
        obtain ⟨b, hb, hv0⟩ := h.kslots 0 (.yld β) (by rw [hkp]; rfl)
        simp only [he, List.getD_cons_zero, Value.func.injEq, Fn.yield.injEq] at hv0
        rw [hb, hv0.1]
      have hlo : ∃ rc : Loop, w.heap[l]? = some (.loop rc) := by
        obtain ⟨b, rc, hb, g1, _⟩ := (h.chunks β _ hc).1
        rw [hbl] at hb; cases hb
        exact ⟨rc, g1⟩
      obtain ⟨ms, m1, m2, m3, hR⟩ := enterS_rel h hv hn 0 (some l) (fun l' hl => by cases hl; exact hlo)
      refine roundIn_of_wpIn (F := wideR none) trivial ?_
      have e0 : (vs.toArray ++ Array.replicate (0 - vs.toArray.size) undef) = vs.toArray := by simp
      rw [e0] at hR
      show info.assign.wpIn (wideR (some l)) 0 P _ _ _
      refine exec_sound (w0 := w0.enter a ms (some l)) (g := { g with muts := info.muts, fz := info.fz }) ihC ihR (inl_nat I fuel d) hm hT hE info.assign info.keep hR hk fun ex ρ1 s1 a1 w1 hpe hR1 hK1 => ?_
      cases ex with
      | normal =>
        dsimp only at hK1
        obtain ⟨β1, hh1, hK1⟩ := Option.bind_eq_some_iff.1 hK1
        obtain ⟨s2, hs2, hK1⟩ := Option.bind_eq_some_iff.1 hK1
        have hb1 := handle_sound h.size he hR1 hh1
        obtain ⟨i1, info1, cells1, hc1, rfl⟩ := setLp_inv hs2
        obtain ⟨b, rc, hb, g1, ⟨_, _, _, g5, g6⟩, _⟩ := (hR1.chunks β1 _ hc1).1
        rw [hb1] at hb; cases hb
        have hW := hR1.writeLp (st' := .busy) (rc' := { rc with state := .busy }) hc1 hb1 g1 rfl rfl rfl rfl rfl (.inr (g6.resolve_left (by intro hx; cases hx)))
        refine ⟨_, run_beginRound g1 g5, ?_⟩
        show info.body.wpIn (wideR (some l)) 0 P _ _ _
        refine exec_sound (w0 := w0.enter a ms (some l)) (g := { g with muts := info.muts, fz := info.fz }) ihC ihR (inl_nat I fuel d) hm hT hE info.body (info.keep.drop (loops info.assign)) hW hK1 fun ex ρ2 s3 a3 w3 hpe hR3 hK3 => ?_
        unfold endRound at hK3
        obtain ⟨β3, hh3, hK3⟩ := Option.bind_eq_some_iff.1 hK3
        obtain ⟨st, hst, hK3⟩ := Option.bind_eq_some_iff.1 hK3
        obtain ⟨s4, hs4, hK3⟩ := Option.bind_eq_some_iff.1 hK3
        have hb3 := handle_sound h.size he hR3 hh3
        obtain ⟨i3, info3, cells3, hc3, rfl⟩ := setLp_inv hs4
        obtain ⟨b, rc3, hb, f1, ⟨_, _, _, f5, f6⟩, _⟩ := (hR3.chunks β3 _ hc3).1
        rw [hb3] at hb; cases hb
        have fin : ∀ jump : Option Code, (if jump.isNone then LoopState.ready else .done) = st.state → jump = st.pending → (jump.isNone = (st == .ready)) →
            ∃ v w', (Instr.endRound l jump).run P w3 = .ok v w' ∧ Back P A0 w0 a K r (.returned v) w' := by
          intro jump j1 j2 j3
          refine ⟨_, _, run_endRound jump f1, ?_⟩
          have hW3 := hR3.writeLp (st' := st) (rc' := { rc3 with state := if jump.isNone then .ready else .done, pending := jump }) hc3 hb3 f1 rfl rfl rfl rfl j1 (.inr j2)
          exact ⟨_, ρ2, _, _, rfl, leaveS_rel h.size m1 m2 m3 h.dep.2 hW3, (show SVRel P _ _ ρ2 (.val .bool (st == .ready)) _ by rw [j3]; exact mk_bool _), trivial, hK3⟩
        cases ex with
        | normal => cases hst; exact fin none rfl rfl rfl
        | exit id => cases hst; exact fin (some (.exit id)) rfl rfl rfl
        | ret => cases hst; exact fin (some .ret) rfl rfl rfl
        | _ => cases hpe
      | _ => cases hK1

/-- **A function's contract**, by the executor's word. -/
theorem fn_ok (hm : P.follows .mixedOrders = true) (hT : TabOk P g.T) (hE : ∀ e ∈ g.E, FnOK P e) {fn : Func} {e : Entry} (hf : P.funcs[e.f]? = some fn) (hname : (fn.name == "runtime.NumGoroutine") = false)
    (hbody : fn.body.isNone = false)
    (h : ∀ x y, e.m x = some y → ∃ an : Ann, (∀ i ∈ an.inl, InlOK P i) ∧ runF g an fn e.args e.ress x = some y) : FnOK P e := by
  cases hb : fn.body with
  | none => rw [hb] at hbody; cases hbody
  | some c =>
    refine ⟨⟨fn, hf, hname, by rw [hb]; rfl⟩, fun A w x l y hG hA hx hmx => ?_⟩
    obtain ⟨an, hI, hr⟩ := h x y hmx
    unfold runF at hr
    rw [hb] at hr
    dsimp only at hr
    refine callsR.1 (callsIn_of_wp_marks (F := wideR none) (n := 0) hf hb trivial ?_ rfl)
    have hargs := argSlots_sound (ρ := fun _ => ⟨none, 0, 0⟩) hx
    have hlen : (argSlots e.args x).length = (e.args.group l).length := hargs.1.symm
    have hR : Rel P A ⟨w, [], [], none, [], []⟩ (fun _ => ⟨none, 0, 0⟩) { slots := argSlots e.args x ++ List.replicate (fn.ntmps - (argSlots e.args x).length) .undef, chunks := [] } { tmps := (e.args.group l).toArray ++ Array.replicate (fn.ntmps - (e.args.group l).toArray.size) undef, defers := [] } w := by
      refine ⟨by simp [hlen], fun i sv hi => ?_, fun β ch hb => by simp at hb, fun β γ c d hb => by simp at hb, fun i sv hi => ?_, fun β ch hb => by simp at hb, Below.refl _ _, hA, ⟨[], ⟨rfl, fun _ => rfl, List.nodup_nil⟩, fun r hr => (by rcases hr with hr | hr <;> cases hr)⟩, ⟨rfl, rfl⟩, fun β ch q hb => (by simp at hb), fun l hl => (by rcases hl with hl | hl <;> cases hl), hG, rfl, fun i sv hi => (by simp at hi), fun i sv hi => (by simp at hi)⟩
      · rw [List.getElem?_append] at hi
        split at hi
        · rename_i hlt
          obtain ⟨v, hv, hs⟩ := hargs.2 i sv hi
          have e1 : ((e.args.group l).toArray ++ Array.replicate (fn.ntmps - (e.args.group l).toArray.size) undef).getD i undef = v := by
            rw [Array.getD_eq_getD_getElem?, Array.getElem?_append_left (by simp; omega)]
            simp [hv]
          rw [e1]
          exact hs.mono (fun _ _ _ => rfl) (fun n _ hn => by
            rcases hn with hn | ⟨β, ch, hc, _⟩
            · exact hn
            · simp at hc)
        · rw [List.getElem?_replicate] at hi
          split at hi
          · cases hi; trivial
          · cases hi
      · rw [List.getElem?_append] at hi
        split at hi
        · exact argSlots_in _ sv (List.mem_of_getElem? hi)
        · rw [List.getElem?_replicate] at hi
          split at hi
          · cases hi; trivial
          · cases hi
    obtain ⟨hC, hRd⟩ := inl_ok hm hT hE hI an.fuel an.deep
    refine exec_sound (w0 := ⟨w, [], [], none, [], []⟩) hC hRd (inl_nat an.inl an.fuel an.deep) hm hT hE c an.keep hR hr fun ex ρ s a w' he hR' hK => ?_
    have fin : (if s.leaves then resOf g.E g.T (settleRes fn.results.toList { s with nmk := 0 }) e.ress fn.results.toList else none) = some y →
        LeavesInM (wideR none) 0 P fn a.tmps (fun ex w' => ∃ ly, ex = .returned (pack (e.ress.group ly)) ∧ Cells P e.ress A w' y ly ∧ Below w.heap.size w w') a.defers .returning w' := by
      intro hy
      obtain ⟨hl, hy⟩ := ite_some hy
      refine hR'.taken hl fun w2 hR2 => ?_
      have hS := Rel.settleRes fn.results.toList hR2
      obtain ⟨ly, h1, h2, h3⟩ := resOf_sound hT hE hS hy
      exact ⟨_, run_results h2 h3, ly, rfl, h1, hS.below⟩
    cases ex with
    | normal => exact fin hK
    | ret => exact fin hK
    | exit id => cases hK
    | _ => cases he
end
end Go.Vx
