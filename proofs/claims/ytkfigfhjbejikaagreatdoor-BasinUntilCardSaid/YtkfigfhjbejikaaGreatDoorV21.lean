/- V21: regions: in the order of the text, and in whatever order is drawn. -/
import Derived.Test.YtkfigfhjbejikaaGreatDoorV20
import Derived.OrdersIn
import Derived.LoopNIn
set_option linter.all false
namespace Go.Vx
open Go.RowKit
variable [GT]

section
variable {P : Program} {A0 : Nat → Prop} {w0 : Base} {ρ : Places} {s s' : St} {a : Act} {w w' : World} {g : G} {R : Type} {K : St → Option R} {r : R} {o : Oper} {ops : Array Oper} {md : Region.Mode}

/-! ### One operation -/
theorem Rel.settleCells : ∀ (l : List SV) {s : St}, Rel P A0 w0 ρ s a w → Rel P A0 w0 ρ (Vx.settleCells l s) a w
  | [], _, h => h
  | sv :: l, _, h => Rel.settleCells l (h.settle sv)

theorem Rel.settleIn (h : Rel P A0 w0 ρ s a w) (sv : SV) : Rel P A0 w0 ρ (s.settleIn sv) a w := by
  unfold St.settleIn
  split
  · split
    · exact Rel.settleCells _ h
    · exact h
  · exact h

theorem Rel.preK (h : Rel P A0 w0 ρ s a w) (g : G) (o : Oper) : Rel P A0 w0 ρ (Vx.preK g o s) a w := by
  unfold Vx.preK
  split
  · split
    · split
      · exact h.settleIn _
      · exact h
    · exact h
  · exact h

theorem allocD_eff {R : Type} {s : St} {o : Oper} {K : St → Option R} {r : R} (h : allocD g s o K = some r) : effK g s o K = some r := by
  unfold allocD at h
  split at h
  · rename_i e ho
    unfold effK
    rw [ho]
    dsimp only
    split at h
    · cases h
    · rename_i hm
      cases hl : lookT g.T e with
      | none => rw [hl] at h; cases h
      | some i => rw [hl] at h; simpa [hm] using h
  · cases h

theorem storeD_eff {R : Type} {s : St} {o : Oper} {K : St → Option R} {r : R} (h : storeD g s o K = some r) : effK g s o K = some r := by
  unfold storeD at h
  split at h
  · rename_i t p x ho
    unfold effK
    rw [ho]
    dsimp only
    split at h
    · cases h
    · rename_i hfz
      have hfi : ∀ z : St, freezeIf g z (.tmp p) = z := fun z => by unfold freezeIf; simp only [hfz]; rfl
      have he : evalO g.T 0 s (.tmp p) = s.get p := rfl
      rw [he]
      cases hl : lookT g.T t with
      | none => rw [hl] at h; cases h
      | some i =>
        rw [hl] at h
        cases hv : s.get p with
        | bptr β off =>
          rw [hv] at h
          dsimp only at h ⊢
          simp only [hfi]
          exact h
        | _ => rw [hv] at h; cases h
  · cases h

theorem effD_eff {R : Type} {s : St} {o : Oper} {K : St → Option R} {r : R} (h : effD g s o K = some r) : effK g s o K = some r := by
  unfold effD at h
  split at h
  · exact allocD_eff h
  · exact storeD_eff h

/-- What it does to the state: new contents, one slot; the same wherever the operands and the contents are the same. -/
theorem effD_form {s s1 : St} {o : Oper} (h : effD g s o some = some s1) : ∃ C u, (allocOp o = true → ∃ c, C = s.chunks ++ [c]) ∧
    ∀ z : St, z.chunks = s.chunks → (∀ x ∈ o.op.operands.toList, ∀ τ, evalO g.T τ z x = evalO g.T τ s x) → effD g z o some = some ({ z with chunks := C }.put o.dst u) := by
  unfold effD at h
  split at h
  · rename_i ha
    unfold allocD at h
    split at h
    · rename_i e ho
      split at h
      · cases h
      · rename_i hm
        split at h
        · rename_i ti hl
          refine ⟨s.chunks ++ [some (Chunk.box ti.ty (zeroSV ti.ty))], .bptr s.chunks.length 0, fun _ => ⟨_, rfl⟩, fun z hz _ => ?_⟩
          unfold effD
          rw [if_pos ha]
          unfold allocD
          rw [ho]
          dsimp only
          rw [if_neg hm, hl, hz]
        · cases h
    · cases h
  · rename_i ha
    unfold storeD at h
    split at h
    · rename_i t p x ho
      split at h
      · cases h
      · rename_i hfz
        cases hl : lookT g.T t with
        | none => rw [hl] at h; cases h
        | some i =>
          rw [hl] at h
          cases hv : s.get p with
          | bptr β off =>
            rw [hv] at h
            dsimp only at h
            cases hc : s.chunks.getD β none with
            | none => rw [hc] at h; cases h
            | some c =>
              rw [hc] at h
              cases c with
              | box u cells =>
                dsimp only at h
                have op : ∀ z : St, (∀ x ∈ o.op.operands.toList, ∀ τ, evalO g.T τ z x = evalO g.T τ s x) → z.get p = s.get p ∧ ∀ τ, evalO g.T τ z x = evalO g.T τ s x := fun z hz => by
                  rw [ho] at hz
                  exact ⟨hz (.tmp p) (by simp [Op.operands]) 0, hz x (by simp [Op.operands])⟩
                split at h
                · rename_i hag
                  obtain ⟨y, hy, h⟩ := Option.bind_eq_some_iff.1 h
                  obtain ⟨hle, h⟩ := ite_some h
                  refine ⟨s.chunks.set β (some (Chunk.box u (cells.take off ++ scatter i.ty y ++ cells.drop (off + i.ty.size)))), .undef, fun hq => absurd hq ha, fun z hz hev => ?_⟩
                  obtain ⟨e1, e2⟩ := op z hev
                  unfold effD
                  rw [if_neg ha]
                  unfold storeD
                  rw [ho]
                  dsimp only
                  rw [if_neg hfz, hl, e1, hv]
                  dsimp only
                  rw [hz, hc]
                  dsimp only
                  rw [if_pos hag, e2, hy]
                  simp only [Option.bind_some]
                  rw [if_pos hle]
                · rename_i hag
                  obtain ⟨hle, h⟩ := ite_some h
                  refine ⟨s.chunks.set β (some (Chunk.box u (cells.set off (asFn g.E i.ty (evalO g.T t s x))))), .undef, fun hq => absurd hq ha, fun z hz hev => ?_⟩
                  obtain ⟨e1, e2⟩ := op z hev
                  unfold effD
                  rw [if_neg ha]
                  unfold storeD
                  rw [ho]
                  dsimp only
                  rw [if_neg hfz, hl, e1, hv]
                  dsimp only
                  rw [hz, hc]
                  dsimp only
                  rw [if_neg hag, e2, if_pos hle]
              | _ => cases h
          | _ => rw [hv] at h; cases h
    · cases h

theorem stepOp_sound {call : (R : Type) → CallK R} (hC : CallOK P call) (hRd : RoundOK P call) (hT : TabOk P g.T) (hE : ∀ e ∈ g.E, FnOK P e) (h : Rel P A0 w0 ρ s a w) {dr : Bool} (hk : stepOp g (call R) dr s o K = some r) : OpTo P w0.ro o a w (Goes P A0 w0 K r) := by
  unfold stepOp at hk
  split at hk
  · have hk : effK g s o K = some r := by
      split at hk
      · exact effD_eff hk
      · exact hk
    exact (effK_sound hE hT h hk).opTo (fun c hc => by simp [effK, hc] at hk)
  · dsimp only at hk
    have hS : Rel P A0 w0 ρ (if dr = true then s else preK g o (settleAll (escapes o) s)) a w := by
      split
      · exact h
      · exact (Rel.settleAll _ h).preK g o
    generalize (if dr = true then s else preK g o (settleAll (escapes o) s)) = s1 at hk hS
    split at hk
    · rename_i f args ts ho
      exact callK_sound hC hRd hE hS ho hk
    · exact ((pureK_sound hE hT hS hk).eff hS (fun sv => rfl)).opTo (fun c hc => by simp [pureK, hc] at hk)

/-- What a drawn operation yields. -/
def contractD (g : G) (ta tr : Ty) (m : ta.den → Option tr.den) (s : St) (c : Call) (caps : St → List SV) : Option SV :=
  if tr.flat then (argsOf g.E s.chunks ta (argTs g.T s c.args.toList c.argTypes.toList ++ caps s)).bind fun x => (m x).bind fun y => some (resSV tr y)
  else (argsOf g.E [] ta (argTs g.T s c.args.toList c.argTypes.toList ++ caps s)).bind fun x => (m x).bind fun y => some (resSV tr y)

def callD (g : G) (s : St) (c : Call) (f : Operand) : Option SV :=
  match evalO g.T 0 s f with
  | .clo n _ => (match findE g.E n with
    | some e => contractD g e.args e.ress e.m s c (calleeCaps g.T f)
    | none => none)
  | .val (.func a b) m => contractD g a b m s c (fun _ => [])
  | _ => none

def stepD (g : G) (s : St) (o : Oper) : Option SV :=
  if isEff g o then none else
  match o.op with
  | .call { callee := .value f, args, argTypes } => callD g s { callee := .value f, args, argTypes } f
  | _ => pureK g s o some

theorem contractD_spec {ta tr : Ty} {m : ta.den → Option tr.den} {c : Call} {caps : St → List SV} {dst : Option Nat} :
    contractK g ta tr m s c caps true dst some = (contractD g ta tr m s c caps).map fun sv => s.put dst sv := by
  unfold contractK contractD
  split
  · cases argsOf g.E s.chunks ta (argTs g.T s c.args.toList c.argTypes.toList ++ caps s) with
    | none => rfl
    | some x =>
      simp only [Option.bind_some]
      cases m x <;> rfl
  · simp only [if_true]
    cases argsOf g.E [] ta (argTs g.T s c.args.toList c.argTypes.toList ++ caps s) with
    | none => rfl
    | some x =>
      simp only [Option.bind_some]
      cases m x <;> rfl

theorem stepD_spec {call : CallK St} (he : isEff g o = false) : stepOp g call true s o some = (stepD g s o).map fun sv => s.put o.dst sv := by
  unfold stepOp stepD
  rw [he]
  simp only [Bool.false_eq_true, if_false]
  · simp only [if_true]
    split
    · rename_i f args ts ho
      simp only [ho]
      unfold callK callD
      generalize evalO g.T 0 s f = sv
      cases sv with
      | clo n caps =>
        dsimp only
        cases findE g.E n with
        | none => rfl
        | some e => exact contractD_spec
      | val t m => cases t <;> first | rfl | exact contractD_spec
      | _ => rfl
    · rename_i hno
      split
      · rename_i f args ts ho
        exact absurd ho (hno f args ts)
      · rw [pureK_nat, Option.map_eq_bind]
        rfl

theorem contractD_local {ta tr : Ty} {m : ta.den → Option tr.den} {c : Call} {caps : St → List SV} (hc : s'.chunks = s.chunks) (h : ∀ x ∈ c.args.toList, ∀ τ, evalO g.T τ s' x = evalO g.T τ s x) (hcaps : caps s' = caps s) :
    contractD g ta tr m s' c caps = contractD g ta tr m s c caps := by
  unfold contractD
  rw [argTs_local h, hcaps, hc]

theorem stepD_local (hc : s'.chunks = s.chunks) (h : ∀ x ∈ o.op.operands.toList, ∀ τ, evalO g.T τ s' x = evalO g.T τ s x) : stepD g s' o = stepD g s o := by
  unfold stepD
  split
  · rfl
  · split
    · rename_i f args ts ho
      rw [ho] at h
      have hf : ∀ τ, evalO g.T τ s' f = evalO g.T τ s f := fun τ => h f (by simp [Op.operands, Call.operands]) τ
      have ha : ∀ x ∈ args.toList, ∀ τ, evalO g.T τ s' x = evalO g.T τ s x := fun x hx τ => h x (by simp [Op.operands, Call.operands]; right; simpa using hx) τ
      unfold callD
      rw [hf 0]
      split
      · split
        · exact contractD_local hc ha (by unfold calleeCaps; rw [hf 0])
        · rfl
      · exact contractD_local hc ha rfl
      · rfl
    · exact pureK_local _ hc h

theorem stepD_ext {cs' : List (Option Chunk)} (hx : Ext s.chunks cs') {sv : SV} (h : stepD g s o = some sv) : stepD g { s with chunks := cs' } o = some sv := by
  have he : ∀ x τ, evalO g.T τ { s with chunks := cs' } x = evalO g.T τ s x := fun x τ => by cases x <;> rfl
  unfold stepD at h ⊢
  split at h
  · cases h
  · rename_i hf
    rw [if_neg hf]
    split at h
    · rename_i f args ts ho
      have ct : ∀ {ta tr : Ty} {m : ta.den → Option tr.den} {c : Call} {caps : St → List SV}, caps { s with chunks := cs' } = caps s → contractD g ta tr m s c caps = some sv → contractD g ta tr m { s with chunks := cs' } c caps = some sv := by
        intro ta tr m c caps hcaps h
        unfold contractD at h ⊢
        rw [hcaps, argTs_local (s' := { s with chunks := cs' }) (s := s) (fun x _ τ => he x τ)]
        split at h
        · rename_i hfl
          rw [if_pos hfl]
          obtain ⟨x, h1, h2⟩ := Option.bind_eq_some_iff.1 h
          rw [argsOf_ext hx h1]
          exact h2
        · rename_i hfl
          rw [if_neg hfl]
          exact h
      unfold callD at h ⊢
      rw [he]
      split at h
      · rename_i n caps hv
        split at h
        · rename_i e hfe
          exact ct (by unfold calleeCaps; rw [he]) h
        · cases h
      · exact ct rfl h
      · cases h
    · exact pureK_ext hx h

theorem stepD_slot {C : List (Option Chunk)} (hs : slotOnly o = true) : stepD g { s with chunks := C } o = stepD g s o := by
  have he : ∀ x τ, evalO g.T τ { s with chunks := C } x = evalO g.T τ s x := fun x τ => by cases x <;> rfl
  unfold stepD
  split
  · rfl
  · unfold slotOnly at hs
    unfold pureK
    cases ho : o.op with
    | move x => exact congrArg some (he x _)
    | assign x => exact congrArg some (he x _)
    | pick c a b => simp only [he]
    | binOp op t x y z => simp only [he]
    | unOp op t x => simp only [he]
    | convert t u x => simp only [he]
    | field t x f => simp only [he]
    | extract x n => simp only [he]
    | _ => first | (rw [ho] at hs; cases hs; done) | (rw [ho] at hs; done) | (rw [ho] at hs; simp at hs; done)

/-! ### Guards -/
def guardS (ops : Array Oper) (s : St) (o : Oper) : Option Bool :=
  match o.guard with
  | none => some true
  | some (j, want) => (guardB ops s j).map fun b => b == some want

theorem guardS_sound (h : Rel P A0 w0 ρ s a w) {b : Bool} (hg : guardS ops s o = some b) : Region.wanted o (yielded ops a.tmps) = b := by
  unfold guardS at hg
  unfold Region.wanted
  split at hg
  · rename_i hgd
    rw [hgd]
    cases hg; rfl
  · rename_i j want hgd
    rw [hgd]
    rw [Option.map_eq_some_iff] at hg
    obtain ⟨b', hb', rfl⟩ := hg
    unfold guardB at hb'
    split at hb'
    · rename_i t ht
      split at hb'
      · rename_i b2 hb2
        cases hb'
        have := h.get t
        rw [hb2] at this
        have hv := bool_inv this
        have hy : yielded ops a.tmps j = some b2 := by
          unfold yielded
          rw [ht]
          simp only [Option.bind_some]
          simp only [Act.eval] at hv
          rw [Array.getD_eq_getD_getElem?] at hv
          cases hq : a.tmps[t]? with
          | none => rw [hq] at hv; cases hv
          | some v => rw [hq] at hv; simp at hv; subst hv; rfl
        simp only [hy]
      · rename_i hb2
        cases hb'
        have := h.get t
        rw [hb2] at this
        have hv : a.eval (.tmp t) = undef := this
        have hy : yielded ops a.tmps j = none := by
          unfold yielded
          rw [ht]
          simp only [Option.bind_some]
          simp only [Act.eval] at hv
          rw [Array.getD_eq_getD_getElem?] at hv
          cases hq : a.tmps[t]? with
          | none => rfl
          | some v => rw [hq] at hv; simp at hv; subst hv; rfl
        simp only [hy]
      · cases hb'
    · cases hb'

theorem put_get_ne {d i : Nat} {sv : SV} (h : d ≠ i) : (s.put (some d) sv).get i = s.get i := by
  unfold St.put St.get
  simp only [List.getD_eq_getElem?_getD]
  rw [List.getElem?_set_ne h]

theorem put_chunks (d : Option Nat) (sv : SV) : (s.put d sv).chunks = s.chunks := by cases d <;> rfl

theorem evalO_put {T : List (TypeId × TyI)} {τ : TypeId} {d : Option Nat} {sv : SV} {x : Operand} (h : ∀ t, d = some t → x ≠ .tmp t) : evalO T τ (s.put d sv) x = evalO T τ s x := by
  cases d with
  | none => rfl
  | some t =>
    cases x with
    | tmp k => exact put_get_ne (fun e => h t rfl (by rw [e]))
    | _ => rfl

theorem stepD_put {d : Option Nat} {sv : SV} (h : ∀ t, d = some t → t ∉ o.looksAt ops) : stepD g (s.put d sv) o = stepD g s o :=
  stepD_local (put_chunks d sv) fun x hx τ => evalO_put fun t ht hxt => h t ht (by
    subst hxt
    exact List.mem_append_left _ (List.mem_filterMap.2 ⟨.tmp t, by simpa using hx, rfl⟩))

theorem guardS_put {d : Option Nat} {sv : SV} (h : ∀ t, d = some t → t ∉ o.looksAt ops) : guardS ops (s.put d sv) o = guardS ops s o := by
  cases d with
  | none => rfl
  | some t =>
    unfold guardS
    cases hg : o.guard with
    | none => rfl
    | some gw =>
      obtain ⟨j, want⟩ := gw
      have : guardB ops (s.put (some t) sv) j = guardB ops s j := by
        unfold guardB
        cases ht : (ops[j]?).bind (·.dst) with
        | none => rfl
        | some u =>
          have hne : t ≠ u := fun e => h t rfl (by subst e; simp [Oper.looksAt, hg, ht])
          simp only [put_get_ne hne]
      simp only [this]

theorem put_comm {d e : Option Nat} {x y : SV} (h : ∀ t, d = some t → e ≠ some t) : (s.put d x).put e y = (s.put e y).put d x := by
  cases d with
  | none => rfl
  | some t =>
    cases e with
    | none => rfl
    | some u =>
      have hne : t ≠ u := fun e => h t rfl (by rw [e])
      simp only [St.put]
      rw [List.set_comm _ _ hne]

/-! ### The machine of orders, over states -/
def sOp (g : G) (call : CallK St) (ops : Array Oper) (T : Nat → Bool) (i : Nat) (K : St → Prop) (s : St) : Prop :=
  match ops[i]? with
  | none => K s
  | some o => match guardS ops s o with
    | some true => ∃ s', stepOp g call (T i) s o some = some s' ∧ K s'
    | some false => K (s.put o.dst .gone)
    | none => False

def anyS (g : G) (call : CallK St) (md : Region.Mode) (ops : Array Oper) (T : Nat → Bool) (Q : St → Prop) : Nat → Array Bool → St → Prop
  | 0, listed, s => Region.ready md ops listed = [] ∧ Q s
  | fuel + 1, listed, s => (Region.ready md ops listed = [] → Q s) ∧ ∀ i ∈ Region.ready md ops listed, sOp g call ops T i (anyS g call md ops T Q fuel (listed.setIfInBounds i true)) s

theorem sOp_mono {call : CallK St} {T : Nat → Bool} {i : Nat} {K K' : St → Prop} (h : ∀ s, K s → K' s) (hh : sOp g call ops T i K s) : sOp g call ops T i K' s := by
  unfold sOp at *
  split
  · rename_i ho; rw [ho] at hh; exact h _ hh
  · rename_i o ho
    rw [ho] at hh
    dsimp only at hh
    split
    · rename_i hg; rw [hg] at hh; obtain ⟨s', h1, h2⟩ := hh; exact ⟨s', h1, h _ h2⟩
    · rename_i hg; rw [hg] at hh; exact h _ hh
    · rename_i hg; rw [hg] at hh; exact hh

theorem wpOp_of_sOp {call : (R : Type) → CallK R} (hC : CallOK P call) (hRd : RoundOK P call) (hT : TabOk P g.T) (hE : ∀ e ∈ g.E, FnOK P e) {T : Nat → Bool} {i : Nat} {K : St → Prop} {K' : Act → World → Prop} {Q' : Exit → Act → World → Prop} (h : Rel P A0 w0 ρ s a w)
    (hK : ∀ ρ s a w, Rel P A0 w0 ρ s a w → K s → K' a w) (hh : sOp g (call St) ops T i K s) : wpOpIn (wideR w0.ro) 0 P ops Q' i K' a w := by
  unfold sOp at hh
  unfold wpOpIn
  split
  · rename_i ho; rw [ho] at hh; exact hK _ _ _ _ h hh
  · rename_i o ho
    rw [ho] at hh
    dsimp only at hh
    split at hh
    · rename_i hg
      rw [if_pos (guardS_sound h hg)]
      obtain ⟨s', h1, h2⟩ := hh
      refine (stepOp_sound hC hRd hT hE h h1 K' Q' ?_)
      rintro a' w' ⟨ρ', s2, hR, h3⟩
      cases h3
      exact hK _ _ _ _ hR h2
    · rename_i hg
      rw [guardS_sound h hg]
      simp only [Bool.false_eq_true, if_false]
      exact ⟨fun _ _ => trivial, hK _ _ _ _ (h.put o.dst (sv := .gone) (v := undef) trivial rfl) hh⟩
    · exact hh.elim

theorem wpAny_of_anyS {call : (R : Type) → CallK R} (hC : CallOK P call) (hRd : RoundOK P call) (hT : TabOk P g.T) (hE : ∀ e ∈ g.E, FnOK P e) {T : Nat → Bool} {Q : St → Prop} {Q' : Exit → Act → World → Prop} (hQ : ∀ ρ s a w, Rel P A0 w0 ρ s a w → Q s → Q' .normal a w) :
    ∀ (fuel : Nat) (listed : Array Bool) {ρ : Places} {s : St} {a : Act} {w : World}, Rel P A0 w0 ρ s a w → anyS g (call St) md ops T Q fuel listed s → wpAnyIn (wideR w0.ro) 0 P md ops Q' fuel listed a w
  | 0, _, _, _, _, _, h, hh => ⟨hh.1, hQ _ _ _ _ h hh.2⟩
  | fuel + 1, _, _, _, _, _, h, hh => ⟨fun h0 => hQ _ _ _ _ h (hh.1 h0), fun i hi => wpOp_of_sOp hC hRd hT hE h (fun _ _ _ _ hR hK => wpAny_of_anyS hC hRd hT hE hQ fuel _ hR hK) (hh.2 i hi)⟩

/-- What one operation yields here. -/
def YieldsS (g : G) (ops : Array Oper) (o : Oper) (sv : SV) (s : St) : Prop :=
  (guardS ops s o = some true ∧ stepD g s o = some sv) ∨ (guardS ops s o = some false ∧ sv = .gone)

theorem YieldsS.sOp {call : CallK St} {T : Nat → Bool} {i : Nat} {sv : SV} (hi : ops[i]? = some o) (hTi : T i = true) (hy : YieldsS g ops o sv s) {K : St → Prop} (h : K (s.put o.dst sv)) : sOp g call ops T i K s := by
  unfold Vx.sOp
  rw [hi]
  dsimp only
  rcases hy with ⟨h1, h2⟩ | ⟨h1, rfl⟩
  · rw [h1, hTi]
    have he : isEff g o = false := by
      cases he : isEff g o with
      | false => rfl
      | true => unfold stepD at h2; rw [he] at h2; cases h2
    exact ⟨_, by rw [stepD_spec he, h2]; rfl, h⟩
  · rw [h1]; exact h

theorem yieldsS_of_sOp {call : CallK St} {T : Nat → Bool} {i : Nat} {K : St → Prop} (hi : ops[i]? = some o) (hTi : T i = true) (he : isEff g o = false) (h : sOp g call ops T i K s) : ∃ sv, YieldsS g ops o sv s ∧ K (s.put o.dst sv) := by
  unfold sOp at h
  rw [hi] at h
  dsimp only at h
  split at h
  · rename_i hg
    obtain ⟨s', h1, h2⟩ := h
    rw [hTi, stepD_spec he, Option.map_eq_some_iff] at h1
    obtain ⟨sv, h3, rfl⟩ := h1
    exact ⟨sv, .inl ⟨hg, h3⟩, h2⟩
  · rename_i hg
    exact ⟨.gone, .inr ⟨hg, rfl⟩, h⟩
  · exact h.elim

theorem sOp_put {call : CallK St} {T : Nat → Bool} {j : Nat} {oi oj : Oper} {sv : SV} (hj : ops[j]? = some oj) (hTj : T j = true) (hap : oi.apart ops oj = true) (hso : isEff g oj = true → allocOp oj = true ∨ slotOnly oi = true) {K : St → Prop}
    (hy : YieldsS g ops oi sv s) (h : sOp g call ops T j K (s.put oi.dst sv)) : sOp g call ops T j (fun s' => YieldsS g ops oi sv s' ∧ K (s'.put oi.dst sv)) s := by
  obtain ⟨h1, h2, h3⟩ := Oper.apart_spec hap
  have keep : ∀ (u : SV), YieldsS g ops oi sv (s.put oj.dst u) := fun u => by
    unfold YieldsS at *
    rw [stepD_put h3, guardS_put h3]
    exact hy
  cases he : isEff g oj with
  | false =>
    obtain ⟨u, hu, hK⟩ := yieldsS_of_sOp hj hTj he h
    have hu' : YieldsS g ops oj u s := by
      unfold YieldsS at *
      rw [stepD_put h1, guardS_put h1] at hu
      exact hu
    exact hu'.sOp hj hTj ⟨keep u, by rw [← put_comm h2]; exact hK⟩
  | true =>
    unfold sOp at h ⊢
    rw [hj] at h ⊢
    dsimp only at h ⊢
    rw [guardS_put h1] at h
    split at h
    · rename_i hg
      obtain ⟨s1, q1, q2⟩ := h
      rw [hTj] at q1
      unfold stepOp at q1
      rw [he] at q1
      simp only [if_true] at q1
      obtain ⟨C, u, hC, hst⟩ := effD_form q1
      have hop : ∀ x ∈ oj.op.operands.toList, ∀ τ, evalO g.T τ s x = evalO g.T τ (s.put oi.dst sv) x := fun x hx τ => (evalO_put fun t ht hxt => h1 t ht (by
        subst hxt
        exact List.mem_append_left _ (List.mem_filterMap.2 ⟨.tmp t, by simpa using hx, rfl⟩))).symm
      refine ⟨_, by rw [hTj]; unfold stepOp; rw [he]; simp only [if_true]; exact hst s (put_chunks _ _).symm hop, ?_, ?_⟩
      · have hg2 : guardS ops ({ s with chunks := C } : St) oi = guardS ops s oi := rfl
        rcases hy with ⟨y1, y2⟩ | ⟨y1, y2⟩
        · refine .inl ⟨by rw [guardS_put h3, hg2]; exact y1, ?_⟩
          rw [stepD_put h3]
          rcases hso he with ha | ha
          · obtain ⟨c, rfl⟩ := hC ha
            rw [put_chunks]
            exact stepD_ext (ext_append _ _) y2
          · rw [stepD_slot ha]; exact y2
        · exact .inr ⟨by rw [guardS_put h3, hg2]; exact y1, y2⟩
      · rw [hst _ rfl (fun _ _ _ => rfl)] at q1
        cases q1
        have e2 : ({ s.put oi.dst sv with chunks := C } : St) = ({ s with chunks := C } : St).put oi.dst sv := by
          cases oi.dst <;> rfl
        rw [e2, put_comm h2] at q2
        exact q2
    · rename_i hg
      refine ⟨keep .gone, ?_⟩
      rw [← put_comm h2]
      exact h
    · exact h.elim

/-! ### Who waits for whom -/
theorem maskOf_bit {acc : List Nat} {i : Nat} : ∀ (l : List Edge) (s : Nat), Nat.testBit (l.foldl (fun s e => if Region.binds md e then (s ||| 2 ^ e.on) ||| acc.getD e.on 0 else s) s) i = true →
    Nat.testBit s i = true ∨ ∃ e ∈ l, Region.binds md e = true ∧ (e.on = i ∨ Nat.testBit (acc.getD e.on 0) i = true)
  | [], s, h => .inl h
  | e :: l, s, h => by
    rw [List.foldl_cons] at h
    rcases maskOf_bit l _ h with h1 | ⟨e', h1, h2⟩
    · split at h1
      · rename_i hb
        simp only [Nat.testBit_or, Bool.or_eq_true] at h1
        rcases h1 with (h1 | h1) | h1
        · exact .inl h1
        · refine .inr ⟨e, List.mem_cons_self .., hb, .inl ?_⟩
          rw [Nat.testBit_two_pow] at h1
          simpa using h1
        · exact .inr ⟨e, List.mem_cons_self .., hb, .inr h1⟩
      · exact .inl h1
    · exact .inr ⟨e', List.mem_cons_of_mem _ h1, h2⟩

/-- The masks tell of edges. -/
def MasksOk (md : Region.Mode) (ops : List Oper) (ms : List Nat) : Prop :=
  ∀ j i, waits ms j i = true → ∃ o, ops[j]? = some o ∧ ∃ e ∈ o.after, Region.binds md e = true ∧ (e.on = i ∨ (e.on < j ∧ waits ms e.on i = true))

theorem masks_ok : ∀ (l pre : List Oper) (acc : List Nat), acc.length = pre.length → MasksOk md pre acc → MasksOk md (pre ++ l) (masks md l acc)
  | [], pre, acc, _, h => by rw [List.append_nil]; exact h
  | o :: l, pre, acc, hl, h => by
    have := masks_ok l (pre ++ [o]) (acc ++ [maskOf md acc o.after.toList]) (by simp [hl]) (fun j i hw => by
      have old : ∀ p, p < acc.length → (acc ++ [maskOf md acc o.after.toList]).getD p 0 = acc.getD p 0 := fun p hp => by
        rw [List.getD_eq_getElem?_getD, List.getD_eq_getElem?_getD, List.getElem?_append_left hp]
      rcases Nat.lt_trichotomy j acc.length with hj | hj | hj
      · unfold waits at hw
        rw [old j hj] at hw
        obtain ⟨q, h1, e, h2, h3, h4⟩ := h j i hw
        refine ⟨q, by rw [List.getElem?_append_left (by omega)]; exact h1, e, h2, h3, ?_⟩
        rcases h4 with h4 | ⟨h4, h5⟩
        · exact .inl h4
        · refine .inr ⟨h4, ?_⟩
          unfold waits
          rw [old _ (by omega)]
          exact h5
      · unfold waits at hw
        rw [List.getD_eq_getElem?_getD, hj, List.getElem?_append_right (Nat.le_refl _)] at hw
        simp only [Nat.sub_self, List.getElem?_cons_zero, Option.getD_some] at hw
        unfold maskOf at hw
        rcases maskOf_bit _ _ hw with h1 | ⟨e, h1, h2, h3⟩
        · simp at h1
        · refine ⟨o, by rw [List.getElem?_append_right (by omega)]; simp [hj, hl], e, by simpa using h1, h2, ?_⟩
          rcases h3 with h3 | h3
          · exact .inl h3
          · rcases Nat.lt_or_ge e.on acc.length with h4 | h4
            · refine .inr ⟨by omega, ?_⟩
              unfold waits
              rw [old _ h4]
              exact h3
            · rw [List.getD_eq_getElem?_getD, List.getElem?_eq_none h4] at h3
              simp at h3
      · unfold waits at hw
        rw [List.getD_eq_getElem?_getD, List.getElem?_eq_none (by simp; omega)] at hw
        simp at hw)
    rw [List.append_assoc] at this
    exact this

/-- What is listed came behind what it waits for. -/
def Closed (md : Region.Mode) (ops : Array Oper) (listed : Array Bool) : Prop :=
  ∀ p o, ops[p]? = some o → listed.getD p false = true → ∀ e ∈ o.after, Region.binds md e = true → listed.getD e.on false = true

theorem Closed.step {listed : Array Bool} (h : Closed md ops listed) {j : Nat} (hj : j ∈ Region.ready md ops listed) : Closed md ops (listed.setIfInBounds j true) := by
  intro p o hp hl e he hb
  by_cases hpj : j = p
  · subst hpj
    obtain ⟨_, o', ho', hall⟩ := mem_ready.1 hj
    rw [hp] at ho'
    cases ho'
    exact getD_set_true (hall e he hb)
  · refine getD_set_true (h p o hp ?_ e he hb)
    rwa [getD_set_ne false hpj] at hl

theorem waits_unlisted {ms : List Nat} (hm : MasksOk md ops.toList ms) {listed : Array Bool} (hc : Closed md ops listed) {i : Nat} (hi : listed.getD i false = false) :
    ∀ (j : Nat), waits ms j i = true → ∃ o, ops[j]? = some o ∧ ∃ e ∈ o.after, Region.binds md e = true ∧ listed.getD e.on false = false := by
  intro j
  induction j using Nat.strongRecOn with
  | ind j ih =>
    intro hw
    obtain ⟨o, h1, e, h2, h3, h4⟩ := hm j i hw
    refine ⟨o, by simpa using h1, e, h2, h3, ?_⟩
    rcases h4 with rfl | ⟨h4, h5⟩
    · exact hi
    · obtain ⟨o', g1, e', g2, g3, g4⟩ := ih e.on h4 h5
      cases hq : listed.getD e.on false with
      | false => rfl
      | true =>
        have := hc e.on o' g1 hq e' g2 g3
        rw [g4] at this
        cases this

theorem ready_not_waits {ms : List Nat} (hm : MasksOk md ops.toList ms) {listed : Array Bool} (hc : Closed md ops listed) {i j : Nat} (hi : listed.getD i true = false) (hj : j ∈ Region.ready md ops listed) : waits ms j i = false := by
  cases hw : waits ms j i with
  | false => rfl
  | true =>
    have hi' : listed.getD i false = false := by
      rw [Array.getD_eq_getD_getElem?] at hi ⊢
      cases hq : listed[i]? with
      | none => rfl
      | some b => rw [hq] at hi; simpa using hi
    obtain ⟨o, h1, e, h2, h3, h4⟩ := waits_unlisted hm hc hi' j hw
    obtain ⟨_, o', g1, g2⟩ := mem_ready.1 hj
    rw [h1] at g1
    cases g1
    have := g2 e h2 h3
    rw [h4] at this
    cases this

theorem anyS_first {call : CallK St} {T : Nat → Bool} {Q : St → Prop} {i : Nat} {oi : Oper} {sv : SV} {ms : List Nat} (hm : MasksOk md ops.toList ms) (hi : ops[i]? = some oi) (hTi : T i = true) :
    ∀ (fuel : Nat) (listed : Array Bool) (s : St), Closed md ops listed →
      (∀ j oj, ops[j]? = some oj → j ≠ i → listed.getD j true = false → waits ms j i = false → (∀ e ∈ oj.after, Region.binds md e = true → e.on ≠ i) → oi.apart ops oj = true ∧ T j = true ∧ (isEff g oj = true → allocOp oj = true ∨ slotOnly oi = true)) →
      i ∈ Region.ready md ops listed → YieldsS g ops oi sv s →
      anyS g call md ops T Q fuel (listed.setIfInBounds i true) (s.put oi.dst sv) → anyS g call md ops T Q (fuel + 1) listed s := by
  intro fuel
  induction fuel with
  | zero =>
    intro listed s _ _ hr hy H
    refine ⟨fun h => (by rw [h] at hr; cases hr), fun j hj => ?_⟩
    by_cases hji : j = i
    · subst hji; exact hy.sOp hi hTi H
    · have := ready_mono hj hji
      rw [H.1] at this
      cases this
  | succ fuel ih =>
    intro listed s hcl hfree hr hy H
    refine ⟨fun h => (by rw [h] at hr; cases hr), fun j hj => ?_⟩
    by_cases hji : j = i
    · subst hji; exact hy.sOp hi hTi H
    · have h1 := H.2 j (ready_mono hj hji)
      obtain ⟨hjun, oj, hoj, hall⟩ := mem_ready.1 hj
      have hnot : ∀ e ∈ oj.after, Region.binds md e = true → e.on ≠ i := fun e he hb heq => by
        have h1 := hall e he hb
        have h0 := (mem_ready.1 hr).1
        rw [heq] at h1
        rcases Nat.lt_or_ge i listed.size with h' | h'
        · simp [h'] at h0 h1; rw [h0] at h1; cases h1
        · simp [Array.getElem?_eq_none h'] at h1
      obtain ⟨hap, hTj, hso⟩ := hfree j oj hoj hji hjun (ready_not_waits hm hcl (mem_ready.1 hr).1 hj) hnot
      have h2 := sOp_put hoj hTj hap hso hy h1
      have hfree' : ∀ k ok, ops[k]? = some ok → k ≠ i → (listed.setIfInBounds j true).getD k true = false → waits ms k i = false →
          (∀ e ∈ ok.after, Region.binds md e = true → e.on ≠ i) → oi.apart ops ok = true ∧ T k = true ∧ (isEff g ok = true → allocOp ok = true ∨ slotOnly oi = true) := fun k ok hk hki hun hw hno => by
        refine hfree k ok hk hki ?_ hw hno
        by_cases hjk : j = k
        · subst hjk; exact hjun
        · rw [getD_set_ne true hjk] at hun; exact hun
      refine sOp_mono (fun s' h3 => ih (listed.setIfInBounds j true) s' (hcl.step hj) hfree' (ready_mono hr (Ne.symm hji)) h3.1 ?_) h2
      rw [Array.setIfInBounds_comm _ _ hji]
      exact h3.2

/-- The order of the text. -/
def runS (g : G) (call : CallK St) (ops : Array Oper) (T : Nat → Bool) (Q : St → Prop) : List Oper → Nat → St → Prop
  | [], _, s => Q s
  | _ :: l, k, s => sOp g call ops T k (runS g call ops T Q l (k + 1)) s

theorem anyS_lex {call : CallK St} {T : Nat → Bool} {Q : St → Prop} {ms : List Nat} (hm : MasksOk md ops.toList ms) (hTail : ∀ j o, ops[j]? = some o → T j = false → ∀ i, i < j → waits ms j i = true) (hT2 : ∀ i j, i ≤ j → T i = false → T j = false)
    (hAl : ∀ i o, ops[i]? = some o → isEff g o = true → T i = true → (∀ j oj, ops[j]? = some oj → i < j → waits ms j i = true) ∧ (∀ j oj, ops[j]? = some oj → j < i → waits ms i j = true ∨ allocOp o = true ∨ slotOnly oj = true)) :
    ∀ (l : List Oper) (k : Nat) (listed : Array Bool) (s : St), (∀ j, l[j]? = ops[k + j]?) → (∀ j, j < ops.size → listed.getD j true = decide (j < k)) →
    Closed md ops listed → Region.lexFrom md ops l.length k listed = true → runS g call ops T Q l k s → anyS g call md ops T Q l.length listed s
  | [], _, _, _, _, _, _, hB, h => ⟨by simpa [Region.lexFrom] using hB, h⟩
  | o :: l, k, listed, s, hl, hlist, hcl, hB, h => by
    have h0 : ops[k]? = some o := by simpa using (hl 0).symm
    have hksz : k < ops.size := (Array.getElem?_eq_some_iff.1 h0).1
    simp only [List.length_cons, Region.lexFrom, Bool.and_eq_true] at hB
    obtain ⟨⟨hr, hf⟩, hB'⟩ := hB
    have hrk : k ∈ Region.ready md ops listed := by simpa using hr
    have hnext : ∀ j, j < ops.size → (listed.setIfInBounds k true).getD j true = decide (j < k + 1) := by
      intro j hj
      by_cases hkj : k = j
      · subst hkj
        have : (listed.setIfInBounds k true).getD k true = true := by
          rw [Array.getD_eq_getD_getElem?]
          by_cases hs : k < listed.size
          · simp [hs]
          · simp [hs]
        rw [this]
        simp
      · rw [getD_set_ne true hkj, hlist j hj]
        congr 1
        apply propext
        omega
    have hrec := anyS_lex (call := call) (Q := Q) hm hTail hT2 hAl l (k + 1) (listed.setIfInBounds k true)
    have hl' : ∀ j, l[j]? = ops[k + 1 + j]? := fun j => by have := hl (j + 1); simpa [Nat.add_assoc, Nat.add_comm 1 j] using this
    by_cases hcase : T k = true ∧ isEff g o = false
    · obtain ⟨hTk, he⟩ := hcase
      obtain ⟨sv, hy, hK⟩ := yieldsS_of_sOp h0 hTk he h
      refine anyS_first hm h0 hTk l.length listed s hcl (fun j oj hoj hji hun hnw hno => ?_) hrk hy (hrec _ hl' hnext (hcl.step hrk) hB' hK)
      have hj : k < j := by
        have hjs := (Array.getElem?_eq_some_iff.1 hoj).1
        rw [hlist j hjs] at hun
        simp at hun
        omega
      have hTj : T j = true := by
        cases hTj : T j with
        | true => rfl
        | false =>
          rw [hTail j oj hoj hTj k hj] at hnw
          cases hnw
      refine ⟨Region.free_spec h0 hf j oj hoj hji hun hno, hTj, fun hej => ?_⟩
      rcases (hAl j oj hoj hej hTj).2 k o h0 hj with hw | hq
      · rw [hw] at hnw; cases hnw
      · exact hq
    · have hafter : ∀ j oj, ops[j]? = some oj → k < j → waits ms j k = true := fun j oj hoj hj => by
        cases hTk : T k with
        | false => exact hTail j oj hoj (hT2 k j (by omega) hTk) k hj
        | true =>
          cases he : isEff g o with
          | true => exact (hAl k o h0 he hTk).1 j oj hoj hj
          | false => exact absurd ⟨hTk, he⟩ hcase
      refine ⟨fun hn => (by rw [hn] at hrk; cases hrk), fun j hj => ?_⟩
      have hjk : j = k := by
        obtain ⟨hjun, oj, hoj, hall⟩ := mem_ready.1 hj
        have hjs := (Array.getElem?_eq_some_iff.1 hoj).1
        rw [hlist j hjs] at hjun
        simp at hjun
        rcases Nat.lt_or_ge k j with h' | h'
        · have := ready_not_waits hm hcl (mem_ready.1 hrk).1 hj
          rw [hafter j oj hoj h'] at this
          cases this
        · omega
      subst hjk
      exact sOp_mono (fun s' hs' => hrec s' hl' hnext (hcl.step hrk) hB' hs') h
end
end Go.Vx
