/- V22: code as a whole, and functions. -/
import Derived.Test.YtkfigfhjbejikaaGreatDoorV21
import Derived.LoopNIn
import Derived.Scope
import Derived.RangeFuncNested
set_option linter.all false
namespace Go.Vx
open Go.RowKit
variable [GT]

section
variable {P : Program} {A0 : Nat → Prop} {w0 : Base} {ρ : Places} {s s' : St} {a : Act} {w w' : World} {g : G} {R : Type} {r : R} {ops : Array Oper}

omit [GT] in
theorem setG_eq {j : Nat} {b : Bool} (h : guardB ops s j = some (some b)) : setG ops s j b = s := by
  unfold guardB at h
  unfold setG
  split at h
  · rename_i t ht
    split at h
    · rename_i b' hs
      cases h
      unfold St.put
      dsimp only
      have : s.slots.set t (.val .bool b) = s.slots := by
        apply List.ext_getElem?
        intro i
        by_cases hti : t = i
        · subst hti
          rcases Nat.lt_or_ge t s.slots.length with hl | hl
          · rw [List.getElem?_set_self hl]
            unfold St.get at hs
            rw [List.getD_eq_getElem?_getD, List.getElem?_eq_getElem hl] at hs
            rw [List.getElem?_eq_getElem hl]
            exact congrArg some hs.symm
          · rw [List.getElem?_eq_none (by simpa using hl), List.getElem?_eq_none hl]
        · rw [List.getElem?_set_ne hti]
      rw [this]
    · cases h
    · cases h
  · cases h

theorem runS_of {call : (R : Type) → CallK R} (hN : CallNat call) {T : Nat → Bool} {Q : St → Prop} {dr : Bool} (l2 : List Oper) : ∀ (l : List Oper) (k : Nat) (s : St) (F : St → Option R), (∀ j, j < l.length → l[j]? = ops[k + j]?) → (∀ j, j < l.length → T (k + j) = dr) →
    runOps g (call R) dr ops l s F = some r → (∀ s', F s' = some r → runS g (call St) ops T Q l2 (k + l.length) s') → runS g (call St) ops T Q (l ++ l2) k s
  | [], k, s, F, _, _, h, hF => hF s h
  | o :: l, k, s, F, hl, hT, h, hF => by
    have h0 : ops[k]? = some o := by simpa using (hl 0 (by simp)).symm
    have hTk : T k = dr := by simpa using hT 0 (by simp)
    have ih := fun s' (h' : runOps g (call R) dr ops l s' F = some r) => runS_of hN l2 l (k + 1) s' F
      (fun j hj => by have := hl (j + 1) (by simp; omega); simpa [Nat.add_assoc, Nat.add_comm 1 j] using this)
      (fun j hj => by have := hT (j + 1) (by simp; omega); simpa [Nat.add_assoc, Nat.add_comm 1 j] using this) h'
      (fun s' hs' => by have := hF s' hs'; simpa [Nat.add_assoc, Nat.add_comm 1 l.length] using this)
    show sOp g (call St) ops T k (runS g (call St) ops T Q (l ++ l2) (k + 1)) s
    unfold sOp
    rw [h0]
    dsimp only
    unfold runOps at h
    unfold guardS
    cases hg : o.guard with
    | none =>
      rw [hg] at h
      dsimp only at h ⊢
      rw [stepOp_nat hN, Option.bind_eq_some_iff] at h
      obtain ⟨s', h1, h2⟩ := h
      rw [hTk]
      exact ⟨s', h1, ih s' h2⟩
    | some gw =>
      obtain ⟨j, want⟩ := gw
      rw [hg] at h
      dsimp only at h ⊢
      rw [Option.bind_eq_some_iff] at h
      obtain ⟨ob, hb, h⟩ := h
      rw [hb]
      simp only [Option.map_some]
      have yes : stepOp g (call R) dr s o (fun s' => runOps g (call R) dr ops l s' F) = some r → (match some true with
          | some true => ∃ s', stepOp g (call St) (T k) s o some = some s' ∧ runS g (call St) ops T Q (l ++ l2) (k + 1) s'
          | some false => runS g (call St) ops T Q (l ++ l2) (k + 1) (s.put o.dst .gone)
          | none => False) := fun h => by
        rw [stepOp_nat hN, Option.bind_eq_some_iff] at h
        obtain ⟨s', h1, h2⟩ := h
        rw [hTk]
        exact ⟨s', h1, ih s' h2⟩
      cases ob with
      | none => cases want <;> exact ih _ h
      | some b =>
        dsimp only at h
        cases want <;> cases b <;> (
          simp only [cond_true, cond_false] at h
          rw [setG_eq hb] at h
          first | exact yes h | exact ih _ h)

theorem wpOps_of_runS {call : (R : Type) → CallK R} (hC : CallOK P call) (hRd : RoundOK P call) (hT : TabOk P g.T) (hE : ∀ e ∈ g.E, FnOK P e) {T : Nat → Bool} {Q : St → Prop} {Q' : Exit → Act → World → Prop} (hQ : ∀ ρ s a w, Rel P A0 w0 ρ s a w → Q s → Q' .normal a w) :
    ∀ (l : List Oper) (k : Nat) {ρ : Places} {s : St} {a : Act} {w : World}, Rel P A0 w0 ρ s a w → runS g (call St) ops T Q l k s → wpOpsIn (wideR w0.ro) 0 P ops Q' (List.range' k l.length) a w
  | [], _, _, _, _, _, h, hh => hQ _ _ _ _ h hh
  | _ :: l, k, _, _, _, _, h, hh => by
    simp only [List.length_cons, List.range'_succ]
    rw [wpOpsIn_cons]
    exact wpOp_of_sOp hC hRd hT hE h (fun _ _ _ _ hR hK => wpOps_of_runS hC hRd hT hE hQ l (k + 1) hR hK) hh

theorem region_sound {call : (R : Type) → CallK R} (hC : CallOK P call) (hRd : RoundOK P call) (hN : CallNat call) (hm : P.follows .mixedOrders = true) (hT : TabOk P g.T) (hE : ∀ e ∈ g.E, FnOK P e) {K : St → Option R} {Q : Exit → Act → World → Prop} {id : Nat} {draw : Bool} (h : Rel P A0 w0 ρ s a w)
    (hk : regionK g (call R) ops draw s K = some r) (hQ : ∀ ρ s a w, Rel P A0 w0 ρ s a w → K s = some r → Q .normal a w) : (Code.region id ops draw).wpIn (wideR w0.ro) 0 P Q a w := by
  unfold regionK at hk
  cases draw with
  | false =>
    simp only [Bool.false_eq_true, if_false] at hk
    have hr := runS_of hN (g := g) (ops := ops) (T := fun _ => false) (Q := fun s => K s = some r) [] ops.toList 0 s K (fun j _ => by simp) (fun _ _ => rfl) hk (fun s' hs' => hs')
    rw [List.append_nil] at hr
    refine wpIn_region ?_
    have := wpOps_of_runS hC hRd hT hE hQ ops.toList 0 h hr
    rw [List.range_eq_range']
    simpa using this
  | true =>
    simp only [if_true] at hk
    replace h := Rel.settleAll (clos ops.toList s) h
    generalize settleAll (clos ops.toList s) s = s at h hk
    unfold regionD at hk
    obtain ⟨hB, hk⟩ := ite_some hk
    rw [Bool.and_eq_true] at hB
    obtain ⟨hB, hEf⟩ := hB
    rw [Bool.and_eq_true] at hB
    obtain ⟨hB, hTl⟩ := hB
    have hm0 : MasksOk .any ops.toList (masks .any ops.toList []) := masks_ok ops.toList [] [] rfl (fun j i h => by simp [waits] at h)
    generalize masks .any ops.toList [] = ms at hk hTl hEf hm0
    have hn : ops.size - tailLen ms ops.size ≤ ops.size := Nat.sub_le _ _
    have e0 : ops.toList.length = ops.size := Array.length_toList
    generalize ops.size - tailLen ms ops.size = n at hk hTl hn hEf
    simp only [Region.lexB, Bool.and_eq_true] at hB
    have hr := runS_of hN (g := g) (ops := ops) (T := fun j => decide (j < n)) (Q := fun s => K s = some r) (ops.toList.drop n) (ops.toList.take n) 0 s _
      (fun j hj => by
        rw [List.length_take] at hj
        rw [List.getElem?_take, if_pos (by omega)]
        simp)
      (fun j hj => by
        rw [List.length_take] at hj
        simp; omega) hk (fun s' hs' => by
        have := runS_of hN (g := g) (ops := ops) (T := fun j => decide (j < n)) (Q := fun s => K s = some r) [] (ops.toList.drop n) (0 + (ops.toList.take n).length) s' K
          (fun j hj => by
            rw [List.length_drop] at hj
            rw [List.getElem?_drop, List.length_take, Nat.zero_add]
            rw [Nat.min_eq_left (by omega)]
            simp)
          (fun j hj => by
            rw [List.length_drop] at hj
            simp only [List.length_take, decide_eq_false_iff_not]
            omega) hs' (fun s' hs' => hs')
        rw [List.append_nil] at this
        exact this)
    rw [List.take_append_drop] at hr
    have h1 := h.drawn (w.drawn + 1)
    refine wpIn_region_any hm (wpAny_of_anyS (md := .any) (T := fun j => decide (j < n)) hC hRd hT hE hQ _ _ h1 ?_)
    have := anyS_lex (g := g) (call := call St) (md := .any) (ops := ops) (T := fun j => decide (j < n)) (Q := fun s => K s = some r) hm0 (fun j o hj hTj i hi => by
        simp at hTj
        have hm : (o, j) ∈ ops.toList.zipIdx := by
          rw [List.mem_iff_getElem?]
          refine ⟨j, ?_⟩
          rw [List.getElem?_zipIdx]
          simp [hj]
        have h3 := List.all_eq_true.1 hTl _ hm
        simp only [Bool.or_eq_true, decide_eq_true_eq] at h3
        rcases h3 with h3 | h3
        · omega
        · exact List.all_eq_true.1 h3 i (List.mem_range.2 hi))
      (fun i j hij hi => by simp at hi ⊢; omega) (fun i o hi he hTi => by
        have hm : (o, i) ∈ ops.toList.zipIdx := by
          rw [List.mem_iff_getElem?]
          refine ⟨i, ?_⟩
          rw [List.getElem?_zipIdx]
          simp [hi]
        have h3 := List.all_eq_true.1 hEf _ hm
        simp only [decide_eq_true_eq] at hTi
        simp only [Bool.or_eq_true, decide_eq_true_eq] at h3
        rcases h3 with h3 | h3
        · omega
        · unfold effAt at h3
          rw [he] at h3
          simp only [Bool.not_true, Bool.false_or] at h3
          refine ⟨fun j oj hoj hij => ?_, fun j oj hoj hji => ?_⟩
          · have h4 := List.all_eq_true.1 h3 j (List.mem_range.2 (Array.getElem?_eq_some_iff.1 hoj).1)
            rw [if_pos hij] at h4
            have hne : ¬ j = i := by omega
            simp only [hne, decide_false, Bool.false_or] at h4
            exact h4
          · have h4 := List.all_eq_true.1 h3 j (List.mem_range.2 (Array.getElem?_eq_some_iff.1 hoj).1)
            rw [if_neg (by omega), hoj] at h4
            have hne : ¬ j = i := by omega
            simp only [hne, decide_false, Bool.false_or, Bool.or_eq_true] at h4
            rcases h4 with (h4 | h4) | h4
            · exact .inl h4
            · exact .inr (.inl h4)
            · exact .inr (.inr h4)) ops.toList 0 (Array.replicate ops.size false) s (fun j => by simp) (fun j hj => by simp [hj]) (fun p o hp hl => by simp [Array.getD_eq_getD_getElem?, Array.getElem?_replicate] at hl; split at hl <;> simp at hl) (by simpa using hB.2) hr
    simpa using this

/-! ### Code -/
def plainE : Exit → Bool
  | .normal | .exit _ | .ret => true
  | _ => false

omit [GT] in
theorem stepR_scope {b : Frame} {k : List Item} {cs : List Frame} {c : Code} : step P (lone (b.atR a (.code (.scope c) :: k)) cs w) = .next (lone (b.atR a (.code c :: .inScope c :: k)) cs w) :=
  step_lone_go (by simp [stepG, stepG.exec, Frame.atR])
omit [GT] in
theorem stepR_inScope {b : Frame} {k : List Item} {cs : List Frame} {c : Code} : step P (lone (b.atR a (.inScope c :: k)) cs w) = .next (lone (b.atR a k) cs w) :=
  step_lone_go (by simp [stepG, stepG.exec, Frame.atR])

omit [GT] in
theorem wpIn_scope_straight {F : Fence} {n : Nat} {c : Code} {Q : Exit → Act → World → Prop} (h : c.wpIn F n P (Exit.noGoto Q) a w) : (Code.scope c).wpIn F n P Q a w := by
  intro b k cs hro hb hr
  obtain ⟨e, a₁, w₁, hq, harr⟩ := h b (.inScope c :: k) cs hro hb hr
  have h0 : StepsIn (Machine.fenced P F) P (lone (b.atR a (.code (.scope c) :: k)) cs w) (lone (b.atR a (.code c :: .inScope c :: k)) cs w) := .one (fenced_calm hb hr rfl) stepR_scope
  have hx : ∀ id, exitTo id (.inScope c :: k) = exitTo id k := fun id => by simp [exitTo]
  cases e with
  | normal => exact ⟨.normal, a₁, w₁, hq, h0.trans (StepsIn.trans harr (.one (fenced_calm hb hr rfl) stepR_inScope))⟩
  | exit id => exact ⟨.exit id, a₁, w₁, hq, fun k' hk => h0.trans (harr.1 k' (by rw [hx]; exact hk)), fun hro' hk => let ⟨k₁, h1, h2⟩ := harr.2 hro' (by rw [hx]; exact hk); ⟨k₁, h1, h0.trans h2⟩⟩
  | goto l => exact hq.elim
  | ret => exact ⟨_, a₁, w₁, hq, .of_steps h0 harr⟩
  | panic ch => exact ⟨_, a₁, w₁, hq, .of_steps h0 harr⟩
  | outgrown => exact ⟨_, a₁, w₁, hq, .of_steps h0 harr⟩

/-! ### A range over a function -/
/-- The base, one range loop more. -/
def Base.range (w0 : Base) (info : LpInfo) : Base := { w0 with infos := w0.infos ++ [info] }

theorem Rel.range (h : Rel P A0 w0 ρ s a w) (info : LpInfo) : Rel P A0 (w0.range info) ρ { s with dep := s.dep + 1 } a w :=
  ⟨h.size, h.slots, h.chunks, h.inj, h.names, h.cnames, h.below, h.dom, h.defers, ⟨by simp [Base.range, h.dep.1], h.dep.2⟩, fun β ch q hb hq => by
      have h1 := h.lpi β ch q hb hq
      have hlt := (List.getElem?_eq_some_iff.1 h1).1
      show (w0.infos ++ [info])[q.1]? = some q.2
      rw [List.getElem?_append_left hlt, h1], h.round, h.glob, h.ksize, h.kslots, h.knames⟩

/-- The last range loop is over. -/
theorem Rel.unrange {info : LpInfo} (h : Rel P A0 (w0.range info) ρ s a w) (hlp : ∀ (β : Nat) (ch : Chunk) (q : Nat × LpInfo), s.chunks[β]? = some (some ch) → ch.lpNo = some q → q.1 < s.dep - 1) : Rel P A0 w0 ρ { s with dep := s.dep - 1 } a w :=
  have hd : s.dep = w0.infos.length + 1 := by simpa [Base.range] using h.dep.1
  ⟨h.size, h.slots, h.chunks, h.inj, h.names, h.cnames, h.below, h.dom, h.defers, ⟨by show s.dep - 1 = _; omega, h.dep.2⟩, fun β ch q hb hq => by
      have h1 := h.lpi β ch q hb hq
      have hlt := hlp β ch q hb hq
      have h2 : (w0.infos ++ [info])[q.1]? = some q.2 := h1
      rwa [List.getElem?_append_left (by omega)] at h2, h.round, h.glob, h.ksize, h.kslots, h.knames⟩

/-- A mark more. -/
theorem Rel.mark (h : Rel P A0 w0 ρ s a w) {r : Nat} (hr : w.heap[r]? = some (.deferred (some []))) (hr0 : w0.w.heap.size ≤ r) (hnew : ∀ ms : List Nat, a.defers = ms.map markD → r ∉ ms) (hnew' : r ∉ w0.marks) :
    Rel P A0 w0 ρ { s with nmk := s.nmk + 1 } { a with defers := markD r :: a.defers } w := by
  obtain ⟨ms, ⟨h1, h2, h3⟩, h4⟩ := h.defers
  refine ⟨h.size, h.slots, h.chunks, h.inj, h.names, h.cnames, h.below, h.dom, ⟨r :: ms, ⟨by simp [h1], fun h0 => by simp at h0, ?_⟩, fun q hq => ?_⟩, h.dep, h.lpi, h.round, h.glob, h.ksize, h.kslots, h.knames⟩
  · rw [List.cons_append, List.nodup_cons]
    refine ⟨fun hm => ?_, h3⟩
    rcases List.mem_append.1 hm with hm | hm
    · exact hnew ms h1 hm
    · exact hnew' hm
  · rcases hq with hq | hq
    · rcases List.mem_cons.1 hq with rfl | hq
      · exact ⟨hr, hr0⟩
      · exact h4 q (.inl hq)
    · exact h4 q (.inr hq)

theorem marks_lt (h : Rel P A0 w0 ρ s a w) : (∀ ms : List Nat, a.defers = ms.map markD → w.heap.size ∉ ms) ∧ w.heap.size ∉ w0.marks := by
  obtain ⟨ms0, ⟨h1, h2, h3⟩, h4⟩ := h.defers
  have key : ∀ r, r ∈ ms0 ∨ r ∈ w0.marks → r < w.heap.size := fun r hr => lt_of_get (h4 r hr).1
  refine ⟨fun ms hms hin => ?_, fun hin => Nat.lt_irrefl _ (key _ (.inr hin))⟩
  have e : ms = ms0 := by
    have := hms.symm.trans h1
    have inj : Function.Injective markD := fun x y hxy => by
      have := congrArg Deferred.target hxy
      simpa [markD] using this
    exact (List.map_inj_right (fun x y hxy => inj hxy)).1 this
  subst e
  exact Nat.lt_irrefl _ (key _ (.inl hin))

theorem run_rangeCall {f : Operand} {l : Nat} {n : FuncId} {caps : List Value} (hf : a.eval f = .func (.func n) #[] caps.toArray) (hE : Enters P n) :
    ∃ d, (resolve a.eval (rangeCall f l) 0).run P w = .ok d w ∧ (invoke d.target d.args).run P w = .ok (.enter n ((.func (.yield l) #[] #[] :: caps).toArray)) w := by
  obtain ⟨fn, h1, h2, h3⟩ := hE
  refine ⟨{ target := .fn (.func n) caps.toArray, args := #[.func (.yield l) #[] #[]] }, ?_, ?_⟩
  · simp only [rangeCall, resolve, hf, Deferred.ofValue, Sem.run_pure]
    simp [Act.eval]
  · have e1 : (#[Value.func (.yield l) #[] #[]] ++ caps.toArray) = (Value.func (.yield l) #[] #[] :: caps).toArray := by
      apply Array.toList_inj.1; simp
    simp only [invoke, callFunc, e1, Sem.run_bind]
    simp [h1]
    rw [if_neg (by simpa using h2), if_neg (by intro hb; rw [hb] at h3; cases h3)]

/-- Entering a range over a function: the record, the mark, the handle. -/
theorem Rel.enterRange (h : Rel P A0 w0 ρ s a w) (fn : FuncId) (info : LpInfo) :
    ∃ l mark w1 ρ1, (Instr.enterLoop fn a.tmps info.ps info.assign info.body w0.ro).run P w = .ok (l, mark) w1 ∧
      (∀ sv v, sv.inn s.chunks.length → SVRel P (Av A0 ρ s.chunks) w ρ sv v → SVRel P (Av A0 ρ1 (s.chunks ++ [some (.lp s.dep info s.slots .ready)])) w1 ρ1 sv v) ∧
      (∃ b, (ρ1 s.chunks.length).blk = some b ∧ b = l) ∧
      Rel P A0 ((w0.range info).push (.func (.yield l) #[] #[])) ρ1 { s with chunks := s.chunks ++ [some (.lp s.dep info s.slots .ready)], kept := .yld s.chunks.length :: s.kept, dep := s.dep + 1, nmk := if s.rnd then s.nmk else s.nmk + 1 }
        { a with defers := mark ++ a.defers } w1 := by
  have hif : (if s.rnd then s.nmk else s.nmk + 1) = if w0.ro.isSome then s.nmk else s.nmk + 1 := by rw [h.dep.2]
  rw [hif]
  clear hif
  have gen : ∀ (wA : World) (d : Nat), Below w.heap.size w wA → ∀ {s2 : St} {a2 : Act}, s2.slots = s.slots → s2.chunks = s.chunks → s2.kept = s.kept → s2.dep = s.dep → a2.tmps = a.tmps → Rel P A0 w0 ρ s2 a2 wA →
      ∃ ρ1, (∀ sv v, sv.inn s.chunks.length → SVRel P (Av A0 ρ s.chunks) w ρ sv v → SVRel P (Av A0 ρ1 (s.chunks ++ [some (.lp s.dep info s.slots .ready)])) (wA.alloc (.loop { state := .ready, pending := none, fn, tmps := a.tmps, params := info.ps, assign := info.assign, body := info.body, defers := d })) ρ1 sv v) ∧
        (∃ b, (ρ1 s.chunks.length).blk = some b ∧ b = wA.heap.size) ∧
        Rel P A0 ((w0.range info).push (.func (.yield wA.heap.size) #[] #[])) ρ1 { s2 with chunks := s.chunks ++ [some (.lp s.dep info s.slots .ready)], kept := .yld s.chunks.length :: s.kept, dep := s.dep + 1 } a2
          (wA.alloc (.loop { state := .ready, pending := none, fn, tmps := a.tmps, params := info.ps, assign := info.assign, body := info.body, defers := d })) := by
    intro wA d hb s2 a2 e1 e2 e3 e4 e5 h2
    obtain ⟨sl, ch, ke, de, nm, rd⟩ := s2
    simp only at e1 e2 e3 e4
    subst e1 e2 e3 e4
    have hbl := below_alloc wA (.loop { state := .ready, pending := none, fn, tmps := a.tmps, params := info.ps, assign := info.assign, body := info.body, defers := d })
    have h3 := (h2.range info).newChunk (.lp s.dep info s.slots .ready) ⟨some wA.heap.size, 0, 0⟩ hbl (fun b hb => by cases hb; exact Nat.le_refl _) (fun sv hs => by
        obtain ⟨i, hi⟩ := List.getElem?_of_mem hs
        exact h2.names i sv hi)
      (fun A hA _ => ⟨wA.heap.size, _, rfl, heap_alloc_new wA _, ⟨rfl, rfl, rfl, rfl, .inr rfl⟩, by rw [h.size], fun i sv hi => by
        have h4 := h2.slots i sv hi
        have hlt : i < a.tmps.size := h.size ▸ (List.getElem?_eq_some_iff.1 hi).1
        refine ⟨a.tmps.getD i undef, by simp [Array.getD_eq_getD_getElem?, hlt], ?_⟩
        rw [e5] at h4
        exact h4.mono (fun n hn _ => hbl.block n hn) hA⟩)
      (fun q hq => by
        cases hq
        show (w0.infos ++ [info])[s.dep]? = some info
        rw [h.dep.1]
        simp)
    refine ⟨_, fun sv v hi hv => ?_, ⟨wA.heap.size, by rw [Places.set_self], rfl⟩, h3.push (sv := .yld s.chunks.length) ⟨wA.heap.size, by rw [Places.set_self], rfl⟩ (by show s.chunks.length < (s.chunks ++ [_]).length; simp)⟩
    have he : ∀ β, β < s.chunks.length → ρ.set s.chunks.length ⟨some wA.heap.size, 0, 0⟩ β = ρ β := fun β hβ => Places.set_lt ρ _ hβ
    refine (hv.congr he hi).mono (fun n hn _ => (hbl.block n (Nat.lt_of_lt_of_le hn hb.size)).trans (hb.block n hn)) (fun n hn hA => ?_)
    rcases hA with h0 | ⟨β, c, hc, hbn⟩
    · exact .inl h0
    · rcases chunk_cases hc with ⟨hl, hc⟩ | ⟨rfl, rfl⟩
      · rw [he β hl] at hbn
        exact .inr ⟨β, c, hc, hbn⟩
      · rw [Places.set_self] at hbn
        cases hbn
        exact absurd hn (Nat.not_lt.2 hb.size)
  cases hro : w0.ro with
  | none =>
    have hb1 := below_alloc w (.deferred (some []))
    have h1 := (h.step hb1).mark (r := w.heap.size) (heap_alloc_new w _) h.below.size (marks_lt h).1 (marks_lt h).2
    obtain ⟨ρ1, g1, g2, g3⟩ := gen (w.alloc (.deferred (some []))) w.heap.size hb1 (s2 := { s with nmk := s.nmk + 1 }) (a2 := { a with defers := markD w.heap.size :: a.defers }) rfl rfl rfl rfl rfl h1
    rw [World.size_alloc] at g2 g3
    exact ⟨_, _, _, ρ1, run_enterLoop_outer .., g1, g2, g3⟩
  | some l0 =>
    obtain ⟨r0, hr0⟩ := h.round l0 (.inl hro)
    obtain ⟨ρ1, g1, g2, g3⟩ := gen w r0.defers (Below.refl _ _) rfl rfl rfl rfl rfl h
    exact ⟨_, _, _, ρ1, run_enterLoop_inner hr0 .., g1, g2, g3⟩

theorem forget_get {d : Nat} {cs : List (Option Chunk)} {γ : Nat} {c : Chunk} (h : (forgetLp d cs)[γ]? = some (some c)) : cs[γ]? = some (some c) ∧ ∀ q, c.lpNo = some q → q.1 < d := by
  unfold forgetLp at h
  rw [List.getElem?_map, Option.map_eq_some_iff] at h
  obtain ⟨o, h1, h2⟩ := h
  rw [h1]
  split at h2
  · split at h2
    · rename_i hi
      cases h2
      exact ⟨rfl, fun q hq => by cases hq; exact hi⟩
    · cases h2
  · rename_i hno
    subst h2
    refine ⟨rfl, fun q hq => ?_⟩
    cases c with
    | lp i info cells st => exact absurd rfl (hno i info cells st)
    | _ => cases hq

/-- The record of a loop is written. -/
theorem Rel.writeLp (h : Rel P A0 w0 ρ s a w) {β l i : Nat} {info : LpInfo} {cells : List SV} {st st' : LpSt} {rc rc' : Loop} (hc : s.chunks[β]? = some (some (.lp i info cells st))) (hb : (ρ β).blk = some l) (hl : w.heap[l]? = some (.loop rc))
    (ht : rc'.tmps = rc.tmps) (hp : rc'.params = rc.params) (ha : rc'.assign = rc.assign) (hbd : rc'.body = rc.body) (hst : rc'.state = st'.state) (hpe : st' = .over ∨ rc'.pending = st'.pending) :
    Rel P A0 w0 ρ { s with chunks := s.chunks.set β (some (.lp i info cells st')) } a (w.putObj l (.loop rc')) := by
  obtain ⟨b', rec', hb', g1, ⟨g2, g3, g4, _, _⟩, g5, g6⟩ := (h.chunks β _ hc).1
  rw [hb] at hb'; cases hb'
  rw [hl] at g1; cases g1
  have hlt := lt_of_get hl
  have hK : Keep (Av A0 ρ s.chunks) w (w.putObj l (.loop rc')) := fun n hn hnA => World.putObj_heap_other (fun e => hnA (.inr ⟨β, _, hc, e ▸ hb⟩))
  exact h.write hc hb (fun n hn => World.putObj_heap_other hn) (by simp [World.putObj]) rfl rfl rfl (show Chunk.inn s.chunks.length (.lp i info cells st') from h.cnames β (.lp i info cells st) hc)
    (fun A hA => ⟨l, rc', hb, World.putObj_heap_same hlt, ⟨hp.trans g2, ha.trans g3, hbd.trans g4, hst, hpe⟩, by rw [ht]; exact g5, fun j sv hj => by
      obtain ⟨v, h1, h2⟩ := g6 j sv hj
      exact ⟨v, by rw [ht]; exact h1, h2.mono hK (fun n _ hn => (hA n).1 hn)⟩⟩)

/-- Behind a range over a function. -/
theorem Rel.endRange {info : LpInfo} {l : Nat} {K : Exit → St → Option R} (h : Rel P A0 ((w0.range info).push (.func (.yield l) #[] #[])) ρ s a w) (hk : Vx.endRange s K = some r) :
    ∃ jump w' s' e, (Instr.endLoop l).run P w = .ok jump w' ∧ Rel P A0 w0 ρ s' a w' ∧ K e s' = some r ∧ ((jump = none ∧ e = .normal) ∨ (∃ id, jump = some (.exit id) ∧ e = .exit id) ∨ (jump = some .ret ∧ e = .ret)) := by
  unfold Vx.endRange at hk
  split at hk
  · rename_i β kept hkp
    split at hk
    · rename_i i info' cells st hch
      obtain ⟨e, he, hk⟩ := Option.bind_eq_some_iff.1 hk
      have hc := getD_some hch
      have hh := h.kslots 0 (.yld β) (by rw [hkp]; rfl)
      obtain ⟨b, hb, hv⟩ := hh
      have hbl : b = l := by
        simp only [Base.push, List.getD_cons_zero, Value.func.injEq, Fn.yield.injEq] at hv
        exact hv.1.symm
      subst hbl
      obtain ⟨b', rc, hb', g1, ⟨g2, g3, g4, g5, g6⟩, g7, g8⟩ := (h.chunks β _ hc).1
      rw [hb] at hb'; cases hb'
      have hnb : rc.state ≠ .busy := by
        rw [g5]
        intro hs
        cases st <;> simp [LpSt.state, LpSt.exit] at hs he
      have hnv : st ≠ .over := by
        intro hs
        subst hs
        simp [LpSt.exit] at he
      have hpe : rc.pending = st.pending := g6.resolve_left hnv
      have h1 := h.writeLp (st' := .over) (rc' := { rc with state := .exhausted }) hc hb g1 rfl rfl rfl rfl rfl (.inl rfl)
      have h2 := h1.dropAll (cs := forgetLp (s.dep - 1) (s.chunks.set β none)) (by simp [forgetLp]) (fun γ c hg => by
        obtain ⟨h3, _⟩ := forget_get hg
        by_cases hbg : β = γ
        · subst hbg
          rw [List.getElem?_set] at h3
          simp at h3
        · rw [List.getElem?_set_ne hbg] at h3 ⊢; exact h3)
      have h3 := h2.pop hkp
      have h4 := h3.unrange (fun γ c q hg hq => (forget_get hg).2 q hq)
      refine ⟨rc.pending, _, _, e, run_endLoop g1 hnb, h4, hk, ?_⟩
      rw [hpe]
      cases st with
      | ready => cases he; exact .inl ⟨rfl, rfl⟩
      | busy => cases he
      | over => cases he
      | done j =>
        cases j with
        | exit id => cases he; exact .inr (.inl ⟨id, rfl, rfl⟩)
        | ret => cases he; exact .inr (.inr ⟨rfl, rfl⟩)
    · cases hk
  · cases hk

theorem exec_sound {call : (R : Type) → CallK R} (hC : CallOK P call) (hRd : RoundOK P call) (hN : CallNat call) (hm : P.follows .mixedOrders = true) (hT : TabOk P g.T) (hE : ∀ e ∈ g.E, FnOK P e) {fuel : Nat} : ∀ (c : Code) (kp : List (List Nat)) {ρ : Places} {s : St} {a : Act} {w : World} {K : Exit → St → Option R} {Q : Exit → Act → World → Prop},
    Rel P A0 w0 ρ s a w → exec g (call R) fuel c kp s K = some r → (∀ e ρ s a w, plainE e = true → Rel P A0 w0 ρ s a w → K e s = some r → Q e a w) → c.wpIn (wideR w0.ro) 0 P Q a w := by
  intro c
  induction c with
  | skip => intro kp ρ s a w K Q h hk hQ; exact wpIn_skip (hQ .normal _ _ _ _ rfl h hk)
  | region id ops draw => intro kp ρ s a w K Q h hk hQ; exact region_sound hC hRd hN hm hT hE h hk (fun ρ s a w hR hK => hQ .normal _ _ _ _ rfl hR hK)
  | seq x y ihx ihy =>
    intro kp ρ s a w K Q h hk hQ
    refine wpIn_seq (ihx kp h hk fun e ρ s a w he hR hK => ?_)
    cases e with
    | normal => exact ihy _ hR hK hQ
    | exit id => exact hQ _ _ _ _ _ rfl hR hK
    | ret => exact hQ _ _ _ _ _ rfl hR hK
    | _ => cases he
  | cond c x y ihx ihy =>
    intro kp ρ s a w K Q h hk hQ
    simp only [exec] at hk
    split at hk
    · rename_i p hp
      have hv := (evalO_sound (T := g.T) h 0 c).1
      rw [hp] at hv
      refine wpIn_cond (bool_inv hv) ?_
      cases p with
      | true => exact ihx _ h hk hQ
      | false => exact ihy _ h hk hQ
    · cases hk
  | block id c ih =>
    intro kp ρ s a w K Q h hk hQ
    refine wpIn_block (ih kp h hk fun e ρ s a w he hR hK => ?_)
    cases e with
    | normal => exact hQ _ _ _ _ _ rfl hR hK
    | exit id' =>
      simp only [Exit.inBlock]
      dsimp only at hK
      split at hK
      · rename_i hid; rw [if_pos hid]; exact hQ _ _ _ _ _ rfl hR hK
      · rename_i hid; rw [if_neg hid]; exact hQ _ _ _ _ _ rfl hR hK
    | ret => exact hQ _ _ _ _ _ rfl hR hK
    | _ => cases he
  | loop c ih =>
    intro kp ρ s a w K Q h hk hQ
    simp only [exec] at hk
    have hs0 : (headS c (kp.headD []) s).Ok := let h0 := canon_ok h (kp.headD []); ⟨h0.names, h0.cnames, h0.knames⟩
    have hI0 : LpI w0.infos (headS c (kp.headD []) s) := canon_lp h.lpi _
    have hd0 : ∀ s' : St, s'.dep = w0.infos.length ∧ s'.rnd = w0.ro.isSome → (headS c (kp.headD []) s).dep = s'.dep ∧ (headS c (kp.headD []) s).rnd = s'.rnd := fun s' hs' => ⟨h.dep.1.trans hs'.1.symm, h.dep.2.trans hs'.2.symm⟩
    obtain ⟨ρ1, h1⟩ := headS_weak h c (kp.headD [])
    have h2 := h1.weak (fill_weak h1 hs0 hI0 ⟨rfl, rfl⟩ (stAs_self _)) (stFill_lp hI0 _)
    clear h1 h
    generalize headS c (kp.headD []) s = s0 at *
    generalize stX s0 = y at *
    refine wpIn_loop_rounds fuel ?_
    generalize hF : (fun (r : (stTy s0).den → Option R) (y : (stTy s0).den) => exec g (call R) fuel c kp.tail (stFill s0 y) fun e s' => match e with
      | .normal => (stAs s0 (canon (kp.headD []) s')).bind r
      | e => K e s') = F at hk
    generalize fuel = n at hk
    induction n generalizing ρ1 a w y with
    | zero => cases hk
    | succ n ihn =>
      have hk2 : F (iter F n) y = some r := hk
      rw [← hF] at hk2
      refine ih kp.tail h2 hk2 fun e ρ' s' a' w' he hR hK => ?_
      cases e with
      | normal =>
        dsimp only at hK
        obtain ⟨y', hy', hk'⟩ := Option.bind_eq_some_iff.1 hK
        rw [hF] at hk'
        obtain ⟨ρ2, h3⟩ := hR.canon (kp.headD [])
        exact ihn ρ2 y' (h3.weak (fill_weak h3 hs0 hI0 (hd0 _ h3.dep) hy') (stFill_lp hI0 _)) hk'
      | exit id => exact hQ _ _ _ _ _ rfl hR hK
      | ret => exact hQ _ _ _ _ _ rfl hR hK
      | _ => cases he
  | scope c ih =>
    intro kp ρ s a w K Q h hk hQ
    refine wpIn_scope_straight (ih kp h hk fun e ρ s a w he hR hK => ?_)
    cases e with
    | normal => exact hQ _ _ _ _ _ rfl hR hK
    | exit id => exact hQ _ _ _ _ _ rfl hR hK
    | ret => exact hQ _ _ _ _ _ rfl hR hK
    | _ => cases he
  | rangeFunc f ps x y _ _ =>
    intro kp ρ s a w K Q h hk hQ
    simp only [exec, rangeK] at hk
    split at hk
    · rename_i n caps hev
      obtain ⟨hs, hin⟩ := evalO_sound (T := g.T) h 0 f
      rw [hev] at hs hin
      obtain ⟨vs, hfv, hr⟩ := hs
      refine wpIn_rangeFunc fun fn _ => ?_
      obtain ⟨l, mark, w1, ρ1, e1, e2, ⟨b, hb, hbl⟩, h1⟩ := h.enterRange fn { ps := ps, assign := x, body := y, keep := kp, muts := g.muts, fz := g.fz }
      subst hbl
      obtain ⟨hEn, hCalls⟩ := hC h1 (svs := .yld s.chunks.length :: capsSV caps) (vs := .func (.yield b) #[] #[] :: vs) (by
          have hcv := capsSV_sound hr
          refine ⟨by simp [hcv.1], fun i sv hi => ?_⟩
          cases i with
          | zero => simp at hi; subst hi; exact ⟨_, rfl, b, hb, rfl⟩
          | succ i =>
            obtain ⟨v, q1, q2⟩ := hcv.2 i sv (by simpa using hi)
            exact ⟨v, by simpa using q1, e2 sv v (capsSV_in hin sv (List.mem_of_getElem? (by simpa using hi))) q2⟩)
        (fun sv hs => by
          rcases List.mem_cons.1 hs with rfl | hs
          · show s.chunks.length < (s.chunks ++ [_]).length
            simp
          · exact SV.inn_mono (by simp) (capsSV_in hin sv hs)) hk
      obtain ⟨d, hres, hinv⟩ := run_rangeCall (P := P) (w := w1) (l := b) hfv hEn
      refine ⟨b, mark, w1, d, w1, n, _, w1, e1, hres, fun _ _ => trivial, hinv, fun h => (by cases h), callsR.2 (hCalls.mono fun ex w2 hB => ?_)⟩
      obtain ⟨v, ρ2, s2, sv, rfl, hR, _, _, hK2⟩ := hB
      obtain ⟨jump, w3, s3, e, g1, g2, g3, g4⟩ := hR.endRange hK2
      refine ⟨jump, w3, g1, ?_⟩
      rcases g4 with ⟨rfl, rfl⟩ | ⟨id, rfl, rfl⟩ | ⟨rfl, rfl⟩
      · exact hQ .normal _ _ _ _ rfl g2 g3
      · exact wpIn_exit (hQ _ _ _ _ _ rfl g2 g3)
      · exact wpIn_ret (hQ _ _ _ _ _ rfl g2 g3)
    · cases hk
  | exit id => intro kp ρ s a w K Q h hk hQ; exact wpIn_exit (hQ _ _ _ _ _ rfl h hk)
  | ret => intro kp ρ s a w K Q h hk hQ; exact wpIn_ret (hQ _ _ _ _ _ rfl h hk)
  | label l => intro kp ρ s a w K Q h hk hQ; exact wpIn_label (hQ .normal _ _ _ _ rfl h hk)
  | _ => intro kp ρ s a w K Q h hk hQ; simp [exec] at hk

end
end Go.Vx
