/- V18: calls by contract. -/
import Derived.Test.YtkfigfhjbejikaaGreatDoorV17
import Derived.RangeFuncLeaves
import Derived.RangeFuncRecord
set_option linter.all false
namespace Go.Vx
open Go.RowKit
variable [GT]

section
variable {P : Program} {A0 : Nat → Prop} {w0 : Base} {ρ : Places} {s : St} {a : Act} {w w' : World} {g : G} {R : Type} {K : St → Option R} {r : R} {o : Oper}

/-- Nothing is fenced off; the frame is a function's, or a round's. -/
def wideR (ro : Option Nat) : Fence := { Fence.wide with round := ro }

omit [GT] in
theorem callsR {ro : Option Nat} {n : Nat} {f : FuncId} {args : Array Value} {Q : Ending → World → Prop} : CallsIn (wideR ro) n P f args w Q ↔ Calls P f args w Q := callsIn_wide (n := n)

omit [GT] in
theorem round_any {ro ro' : Option Nat} {n l : Nat} {f : FuncId} {tmps : Array Value} {x y : Code} {Q : Ending → World → Prop} (h : RoundIn (wideR ro) n P l f tmps x y w Q) : RoundIn (wideR ro') n P l f tmps x y w Q := h

/-- The operation leads on to one of some frames and worlds. -/
def OpTo (P : Program) (ro : Option Nat) (o : Oper) (a : Act) (w : World) (N : Act → World → Prop) : Prop :=
  ∀ (next : Act → World → Prop) (Q : Exit → Act → World → Prop), (∀ a' w', N a' w' → next a' w') → o.wpIn (wideR ro) 0 P a w next Q

omit [GT] in
theorem OpTo.of_calls {ro : Option Nat} {N : Act → World → Prop} {n : FuncId} {args : Array Value} {Q : Ending → World → Prop} (hnd : ∀ c, o.op ≠ .defer c) (hrun : (execOp a.eval o).run P w = .ok (.enter n args) w) (hc : Calls P n args w Q)
    (hQ : ∀ e w', Q e w' → ∃ v, e = .returned v ∧ N (a.put o.dst v) w') : OpTo P ro o a w N := by
  intro next Q' hn
  refine ⟨fun _ _ => trivial, ?_⟩
  rw [Oper.semAt_eq _ _ _ hnd, hrun, Oper.uponIn_enter]
  refine ⟨fun h => (by cases h), callsR.2 (hc.mono fun e w' hq => ?_)⟩
  obtain ⟨v, rfl, h⟩ := hQ e w' hq
  exact hn _ _ h

/-- Behind it a state stands from which the rest goes on. -/
def Goes (P : Program) (A0 : Nat → Prop) (w0 : Base) (K : St → Option R) (r : R) (a : Act) (w : World) : Prop :=
  ∃ ρ s, Rel P A0 w0 ρ s a w ∧ K s = some r

theorem Eff.opTo (h : Eff P A0 w0 a w o K r) (hnd : ∀ c, o.op ≠ .defer c) : OpTo P w0.ro o a w (Goes P A0 w0 K r) := by
  obtain ⟨a', w', ρ', s', h1, h2, h3⟩ := h
  intro next Q hn
  refine ⟨fun _ _ => trivial, ?_⟩
  rw [Oper.semAt_eq _ _ _ hnd]
  rcases h1 with ⟨v, h1, rfl⟩ | ⟨h1, rfl⟩
  · rw [h1]; exact hn _ _ ⟨ρ', s', h2, h3⟩
  · rw [h1]; exact hn _ _ ⟨ρ', s', h2, h3⟩

theorem run_enter {args : Array Operand} {ts : Array TypeId} {f : Operand} (ho : o.op = .call { callee := .value f, args, argTypes := ts }) {n : FuncId} {first caps : List Value}
    (hf : a.eval f = .func (.func n) first.toArray caps.toArray) (hE : Enters P n) :
    (execOp a.eval o).run P w = .ok (.enter n ((first ++ args.toList.map a.eval ++ caps).toArray)) w := by
  obtain ⟨fn, h1, h2, h3⟩ := hE
  have e1 : (first.toArray ++ args.map a.eval ++ caps.toArray) = (first ++ args.toList.map a.eval ++ caps).toArray := by
    apply Array.toList_inj.1; simp
  simp only [execOp, ho, resolve, hf, Deferred.ofValue, Sem.run_bind, Sem.run_pure, Result.andThen_ok, invoke, callFunc, e1]
  simp [h1]
  rw [if_neg (by simpa using h2), if_neg (by intro hb; rw [hb] at h3; cases h3)]

variable (hE : ∀ e ∈ g.E, FnOK P e)
include hE

theorem argsOf_sound {A A' : Nat → Prop} {cs : List (Option Chunk)} (hA : ∀ n, n < w.heap.size → A' n → A n)
    (hc : ∀ β ch, cs[β]? = some (some ch) → ChunkRel P A w ρ (ρ β) ch ∧ ∀ b, (ρ β).blk = some b → ¬ A' b) :
    ∀ {t : Ty} {svs : List SV} {vs : List Value} {x : t.den}, CellsRel P A w ρ svs vs → argsOf g.E cs t svs = some x → ∃ l, Cells P t A' w x l ∧ t.group l = vs := by
  intro t
  induction t with
  | unit =>
    intro svs vs x hr h
    cases svs with
    | cons _ _ => simp [argsOf] at h
    | nil => exact ⟨[], rfl, by have := hr.1; simp at this; simp [Ty.group, this]⟩
  | pair a b iha ihb =>
    intro svs vs x hr h
    cases svs with
    | nil => simp [argsOf] at h
    | cons sv l =>
      simp only [argsOf, Option.bind_eq_some_iff, Option.map_eq_some_iff] at h
      obtain ⟨p, hp, q, hq, rfl⟩ := h
      cases vs with
      | nil => have := hr.1; simp at this
      | cons v vs =>
        obtain ⟨v', hv', h0⟩ := hr.2 0 sv rfl
        simp at hv'
        subst hv'
        obtain ⟨l1, h1, rfl⟩ := argOf_sound hE hA hc h0 hp
        obtain ⟨l2, h3, h4⟩ := ihb (vs := vs) ⟨by have := hr.1; simpa using this, fun i sv hi => by simpa using hr.2 (i + 1) sv (by simpa using hi)⟩ hq
        refine ⟨l1 ++ l2, ⟨l1, l2, rfl, h1, h3⟩, ?_⟩
        have e1 : (l1 ++ l2).take a.size = l1 := by rw [← h1.length, List.take_left]
        have e2 : (l1 ++ l2).drop a.size = l2 := by rw [← h1.length, List.drop_left]
        simp only [Ty.group, e1, e2, h4]
  | _ => intro svs vs x hr h; simp [argsOf] at h

omit hE in
theorem argTs_sound (h : Rel P A0 w0 ρ s a w) : ∀ (xs : List Operand) (ts : List TypeId), CellsRel P (Av A0 ρ s.chunks) w ρ (argTs g.T s xs ts) (xs.map a.eval)
  | [], _ => ⟨rfl, fun i sv hi => by simp [argTs] at hi⟩
  | x :: l, ts => by
    have ih := argTs_sound h l ts.tail
    refine ⟨by simpa [argTs] using ih.1, fun i sv hi => ?_⟩
    cases i with
    | zero =>
      simp [argTs] at hi
      subst hi
      exact ⟨a.eval x, rfl, (evalO_sound h _ x).1⟩
    | succ i =>
      obtain ⟨v, h1, h2⟩ := ih.2 i sv (by simpa [argTs] using hi)
      exact ⟨v, by simpa using h1, h2⟩

omit hE in
theorem capsSV_sound {A : Nat → Prop} : ∀ {cs : List Cap} {vs : List Value}, CapsRel P A w ρ cs vs → CellsRel P A w ρ (capsSV cs) vs
  | [], [], _ => ⟨rfl, fun i sv hi => by simp [capsSV] at hi⟩
  | [], _ :: _, h => h.elim
  | _ :: _, [], h => by rename_i c cs; cases c <;> exact h.elim
  | c :: cs, v :: vs, h => by
    have ih := capsSV_sound h.2
    have h0 := h.1
    cases c with
    | box β =>
      refine ⟨by simpa [capsSV] using ih.1, fun i sv hi => ?_⟩
      cases i with
      | zero => simp [capsSV] at hi; subst hi; exact ⟨v, rfl, h0⟩
      | succ i =>
        obtain ⟨u, h1, h2⟩ := ih.2 i sv (by simpa [capsSV] using hi)
        exact ⟨u, by simpa using h1, h2⟩
    | val t x =>
      refine ⟨by simpa [capsSV] using ih.1, fun i sv hi => ?_⟩
      cases i with
      | zero => simp [capsSV] at hi; subst hi; exact ⟨v, rfl, h0⟩
      | succ i =>
        obtain ⟨u, h1, h2⟩ := ih.2 i sv (by simpa [capsSV] using hi)
        exact ⟨u, by simpa using h1, h2⟩

omit hE in
theorem resSV_sound {A : Nat → Prop} {n : Nat} : ∀ {t : Ty} {y : t.den} {l : List Value}, Cells P t A w y l → SVRel P A w ρ (resSV t y) (pack (t.group l)) ∧ (resSV t y).inn n := by
  intro t y l h
  cases t with
  | pair a b =>
    cases b with
    | unit =>
      simp only [Cells] at h
      obtain ⟨l1, l2, rfl, h1, h2⟩ := h
      have e1 : (l1 ++ l2).take a.size = l1 := by rw [← h1.length, List.take_left]
      exact ⟨⟨l1, h1, by simp [pack, Ty.group, e1]⟩, trivial⟩
    | pair b c =>
      exact ⟨⟨l, h, by simp [pack, Ty.group]⟩, trivial⟩
    | _ => exact ⟨trivial, trivial⟩
  | unit =>
    simp only [Cells] at h
    subst h
    exact ⟨⟨[], rfl, rfl⟩, trivial⟩
  | _ => exact ⟨trivial, trivial⟩

/-- What a called function does, whatever it is: a contract, or a function value. -/
def Does (P : Program) (S : Nat → Prop) (w : World) (n : FuncId) (cv : List Value) (ta tr : Ty) (m : ta.den → Option tr.den) (first caps : List Value) : Prop :=
  ∀ (A' : Nat → Prop) (x : ta.den) (l vs : List Value) (y : tr.den), GlobOK A' w → (∀ n, A' n → n < w.heap.size) → (∀ n, A' n → S n) → Cells P ta A' w x l → ta.group l = vs ++ cv → m x = some y →
    Calls P n (first ++ vs ++ caps).toArray w fun ex w' => ∃ ly, ex = .returned (pack (tr.group ly)) ∧ Cells P tr A' w' y ly ∧ Below w.heap.size w w'

omit hE in
theorem Does.opTo {args : Array Operand} {ts : Array TypeId} {f : Operand} (ho : o.op = .call { callee := .value f, args, argTypes := ts }) {n : FuncId} {cv first caps : List Value} {ta tr : Ty} {m : ta.den → Option tr.den} {A' : Nat → Prop}
    {s : St} (h : Rel P A0 w0 ρ s a w) (hn : Enters P n) (hf : a.eval f = .func (.func n) first.toArray caps.toArray) (hd : Does P (fun n => Av A0 ρ s.chunks n) w n cv ta tr m first caps)
    (hA' : ∀ n, A' n → Av A0 ρ s.chunks n) {x : ta.den} {l : List Value} {y : tr.den} (hx : Cells P ta A' w x l) (hg : ta.group l = args.toList.map a.eval ++ cv) (hy : m x = some y)
    (hres : tr.flat = true ∨ ∀ n, Av A0 ρ s.chunks n → A' n) (hk : K (s.put o.dst (resSV tr y)) = some r) : OpTo P w0.ro o a w (Goes P A0 w0 K r) := by
  refine OpTo.of_calls (by rw [ho]; intro c hc; cases hc) (run_enter ho hf hn) (hd A' x l _ y (fun p hp => ⟨fun hb => (h.globW p hp).1 (hA' _ hb), (h.globW p hp).2⟩) (fun n hn => h.av_lt (hA' n hn)) hA' hx hg hy) ?_
  rintro e w' ⟨ly, rfl, h1, h2⟩
  have h1' : Cells P tr (Av A0 ρ s.chunks) w' y ly := by
    rcases hres with hr | hr
    · exact flat_cells hr h1
    · exact h1.mono (fun _ _ _ => rfl) (fun n _ hn => hr n hn)
  obtain ⟨h3, h4⟩ := resSV_sound (ρ := ρ) (n := s.chunks.length) h1'
  exact ⟨_, rfl, ρ, _, (h.step h2).put o.dst h4 h3, hk⟩

theorem contractK_sound (h : Rel P A0 w0 ρ s a w) {args : Array Operand} {ts : Array TypeId} {f : Operand} (ho : o.op = .call { callee := .value f, args, argTypes := ts }) {n : FuncId} {cv first caps : List Value} {ta tr : Ty} {m : ta.den → Option tr.den} {dr : Bool}
    (hn : Enters P n) (hf : a.eval f = .func (.func n) first.toArray caps.toArray) (hd : Does P (Av A0 ρ s.chunks) w n cv ta tr m first caps) {cs : St → List SV} (hcs : CellsRel P (Av A0 ρ s.chunks) w ρ (cs s) cv) (hcs' : ∀ xs, CellsRel P (Av A0 ρ (settleAll xs s).chunks) w ρ (cs (settleAll xs s)) cv)
    (hsub : ∀ (xs : List Operand) (n : Nat), Av A0 ρ (settleAll xs s).chunks n → Av A0 ρ s.chunks n)
    (hk : contractK g ta tr m s { callee := .value f, args, argTypes := ts } cs dr o.dst K = some r) : OpTo P w0.ro o a w (Goes P A0 w0 K r) := by
  unfold contractK at hk
  split at hk
  · rename_i hfl
    obtain ⟨x, hx, hk1⟩ := Option.bind_eq_some_iff.1 hk
    obtain ⟨y, hy, hk2⟩ := Option.bind_eq_some_iff.1 hk1
    obtain ⟨l, h1, h2⟩ := argsOf_sound hE (A' := fun _ => False) (fun _ _ h => h.elim) (fun β ch hb => ⟨(h.chunks β ch hb).1, fun _ _ h => h⟩) ((argTs_sound (g := g) h args.toList ts.toList).append hcs) hx
    exact Does.opTo ho h hn hf hd (fun _ h => h.elim) h1 h2 hy (.inl hfl) hk2
  · split at hk
    · obtain ⟨x, hx, hk1⟩ := Option.bind_eq_some_iff.1 hk
      obtain ⟨y, hy, hk2⟩ := Option.bind_eq_some_iff.1 hk1
      obtain ⟨l, h1, h2⟩ := argsOf_sound hE (A' := Av A0 ρ s.chunks) (cs := []) (fun _ _ h => h) (fun β ch hb => by simp at hb) ((argTs_sound (g := g) h args.toList ts.toList).append hcs) hx
      exact Does.opTo ho h hn hf hd (fun _ h => h) h1 h2 hy (.inr fun _ h => h) hk2
    · simp only at hk
      have hsub' := hsub (args.toList ++ [f])
      have hS := Rel.settleAll (args.toList ++ [f]) h
      have hcs1 := hcs' (args.toList ++ [f])
      generalize settleAll (args.toList ++ [f]) s = s1 at hk hS hsub' hcs1
      obtain ⟨x, hx, hk1⟩ := Option.bind_eq_some_iff.1 hk
      obtain ⟨y, hy, hk2⟩ := Option.bind_eq_some_iff.1 hk1
      obtain ⟨l, h1, h2⟩ := argsOf_sound hE (A' := Av A0 ρ s1.chunks) (cs := []) (fun _ _ h => h) (fun β ch hb => by simp at hb) ((argTs_sound (g := g) hS args.toList ts.toList).append hcs1) hx
      refine Does.opTo ho hS hn hf (fun A' x l vs y hG' hA1 hA2 => hd A' x l vs y hG' hA1 (fun n hn => hsub' n (hA2 n hn))) (fun _ h => h) h1 h2 hy (.inr fun _ h => h) hk2

end

section
variable {P : Program} {A0 : Nat → Prop} {w0 : Base} {ρ : Places} {s : St} {a : Act} {w w' : World} {g : G} {R : Type} {K : St → Option R} {r : R} {o : Oper}

/-- Settling makes no block one's own. -/
theorem Av_freeze {n : Nat} (β : Nat) (h : Av A0 ρ (s.freeze β).chunks n) : Av A0 ρ s.chunks n := by
  unfold St.freeze at h
  split at h
  · exact Av_sub h
  · split at h
    · exact Av_sub h
    · exact h
  · exact Av_sub h
  · exact h

theorem Av_freezeCaps {n : Nat} : ∀ (cs : List Cap) {s : St}, Av A0 ρ (freezeCaps cs s).chunks n → Av A0 ρ s.chunks n
  | [], _, h => h
  | .box β :: cs, _, h => Av_freeze β (Av_freezeCaps cs h)
  | .val _ _ :: cs, _, h => Av_freezeCaps cs h

theorem Av_settle {n : Nat} (sv : SV) (h : Av A0 ρ (s.settle sv).chunks n) : Av A0 ρ s.chunks n := by
  unfold St.settle at h
  split at h
  · exact Av_freeze _ h
  · exact Av_freeze _ h
  · exact Av_freezeCaps _ h
  · exact h

theorem Av_settleAll {n : Nat} : ∀ (xs : List Operand) {s : St}, Av A0 ρ (settleAll xs s).chunks n → Av A0 ρ s.chunks n
  | [], _, h => h
  | .tmp t :: l, _, h => Av_settle _ (Av_settleAll l h)
  | .const _ :: l, _, h => Av_settleAll l h
  | .global _ :: l, _, h => Av_settleAll l h
  | .func _ :: l, _, h => Av_settleAll l h

theorem get_sub {i β : Nat} {f : SV → SV} (hf : f .undef = .undef) : (s.sub β f).get i = f (s.get i) := by
  unfold St.get St.sub
  simp only [List.getD_eq_getElem?_getD, List.getElem?_map]
  cases s.slots[i]? with
  | none => simp [hf]
  | some x => rfl

theorem freeze_clo {i β : Nat} {n : FuncId} {caps : List Cap} (h : s.get i = .clo n caps) : ∃ caps', (s.freeze β).get i = .clo n caps' := by
  unfold St.freeze
  split
  · rw [get_sub rfl, h]; exact ⟨caps, rfl⟩
  · split
    · rw [get_sub rfl, h]; exact ⟨_, rfl⟩
    · exact ⟨caps, h⟩
  · rw [get_sub rfl, h]; exact ⟨caps, rfl⟩
  · exact ⟨caps, h⟩

theorem freezeCaps_clo {i : Nat} {n : FuncId} : ∀ (cs : List Cap) {s : St} {caps : List Cap}, s.get i = .clo n caps → ∃ caps', (freezeCaps cs s).get i = .clo n caps'
  | [], _, caps, h => ⟨caps, h⟩
  | .box β :: cs, _, _, h => let ⟨_, h'⟩ := freeze_clo (β := β) h; freezeCaps_clo cs h'
  | .val _ _ :: cs, _, _, h => freezeCaps_clo cs h

theorem settle_clo {i : Nat} {n : FuncId} {caps : List Cap} (sv : SV) (h : s.get i = .clo n caps) : ∃ caps', (s.settle sv).get i = .clo n caps' := by
  unfold St.settle
  split
  · exact freeze_clo h
  · exact freeze_clo h
  · exact freezeCaps_clo _ h
  · exact ⟨caps, h⟩

theorem settleAll_clo {i : Nat} {n : FuncId} : ∀ (xs : List Operand) {s : St} {caps : List Cap}, s.get i = .clo n caps → ∃ caps', (settleAll xs s).get i = .clo n caps'
  | [], _, caps, h => ⟨caps, h⟩
  | .tmp t :: l, s, _, h => let ⟨_, h'⟩ := settle_clo (s.get t) h; settleAll_clo l h'
  | .const _ :: l, _, _, h => settleAll_clo l h
  | .global _ :: l, _, _, h => settleAll_clo l h
  | .func _ :: l, _, _, h => settleAll_clo l h

theorem evalO_clo {T : List (TypeId × TyI)} {f : Operand} {n : FuncId} {caps : List Cap} (h : evalO T 0 s f = .clo n caps) (xs : List Operand) : ∃ caps', evalO T 0 (settleAll xs s) f = .clo n caps' := by
  cases f with
  | tmp t => exact settleAll_clo xs h
  | const v => exact ⟨caps, h⟩
  | global k => exact ⟨caps, h⟩
  | func k => cases h; exact ⟨[], rfl⟩

theorem argTs_in (h : Rel P A0 w0 ρ s a w) : ∀ (xs : List Operand) (ts : List TypeId), ∀ sv ∈ argTs g.T s xs ts, sv.inn s.chunks.length
  | [], _ => fun sv hs => by simp [argTs] at hs
  | x :: l, ts => fun sv hs => by
    simp only [argTs, List.mem_cons] at hs
    rcases hs with rfl | hs
    · exact (evalO_sound h _ x).2
    · exact argTs_in h l ts.tail sv hs

theorem capsSV_in {n : Nat} : ∀ {cs : List Cap}, CapsIn n cs → ∀ sv ∈ capsSV cs, sv.inn n
  | [], _ => fun sv hs => by simp [capsSV] at hs
  | .box β :: cs, h => fun sv hs => by
    simp only [capsSV, List.mem_cons] at hs
    rcases hs with rfl | hs
    · exact h.1
    · exact capsSV_in h.2 sv hs
  | .val t x :: cs, h => fun sv hs => by
    simp only [capsSV, List.mem_cons] at hs
    rcases hs with rfl | hs
    · trivial
    · exact capsSV_in (cs := cs) h sv hs

/-- What stands behind a function that was entered, or a round. -/
def Back (P : Program) (A0 : Nat → Prop) (w0 : Base) (a : Act) (K : SV → St → Option R) (r : R) (ex : Ending) (w' : World) : Prop :=
  ∃ v ρ' s' sv, ex = .returned v ∧ Rel P A0 w0 ρ' s' a w' ∧ SVRel P (Av A0 ρ' s'.chunks) w' ρ' sv v ∧ sv.inn s'.chunks.length ∧ K sv s' = some r

/-- Calls by the callee's own code do what the state says. -/
def CallOK (P : Program) (call : (R : Type) → CallK R) : Prop :=
  ∀ {A0 : Nat → Prop} {w0 : Base} {ρ : Places} {s : St} {a : Act} {w : World} {R : Type} {K : SV → St → Option R} {r : R} {n : FuncId} {svs : List SV} {vs : List Value},
    Rel P A0 w0 ρ s a w → CellsRel P (Av A0 ρ s.chunks) w ρ svs vs → (∀ sv ∈ svs, sv.inn s.chunks.length) → call R (.fn n) svs s K = some r →
      Enters P n ∧ Calls P n vs.toArray w (Back P A0 w0 a K r)

/-- And so do rounds. -/
def RoundOK (P : Program) (call : (R : Type) → CallK R) : Prop :=
  ∀ {A0 : Nat → Prop} {w0 : Base} {ρ : Places} {s : St} {a : Act} {w : World} {R : Type} {K : SV → St → Option R} {r : R} {info : LpInfo} {svs : List SV} {vs : List Value} {l β i : Nat} {cells : List SV} {ext : List Value} {kept : List SV} {fnn : FuncId},
    Rel P A0 w0 ρ s a w → CellsRel P (Av A0 ρ s.chunks) w ρ svs vs → (∀ sv ∈ svs, sv.inn s.chunks.length) → w0.ext = .func (.yield l) #[] #[] :: ext → s.kept = .yld β :: kept →
    s.chunks[β]? = some (some (.lp i info cells .ready)) → call R (.round info) svs s K = some r → RoundIn (wideR none) 0 P l fnn vs.toArray info.assign info.body w (Back P A0 w0 a K r)

/-- The base of a frame that calls yield: the handle of the loop lies on top of what waits. -/
def Base.push (w0 : Base) (v : Value) : Base := { w0 with ext := v :: w0.ext }

theorem Rel.push (h : Rel P A0 w0 ρ s a w) {sv : SV} {v : Value} (hv : SVRel P (Av A0 ρ s.chunks) w ρ sv v) (hi : sv.inn s.chunks.length) : Rel P A0 (w0.push v) ρ { s with kept := sv :: s.kept } a w :=
  ⟨h.size, h.slots, h.chunks, h.inj, h.names, h.cnames, h.below, h.dom, h.defers, h.dep, h.lpi, h.round, h.glob, by simp [Base.push, h.ksize],
    fun i sv' hs => by
      cases i with
      | zero => simp at hs; subst hs; exact hv
      | succ i => exact h.kslots i sv' (by simpa using hs),
    fun i sv' hs => by
      cases i with
      | zero => simp at hs; subst hs; exact hi
      | succ i => exact h.knames i sv' (by simpa using hs)⟩

theorem Rel.pop {sv : SV} {kept : List SV} {v : Value} (h : Rel P A0 (w0.push v) ρ s a w) (hk : s.kept = sv :: kept) : Rel P A0 w0 ρ { s with kept := kept } a w :=
  ⟨h.size, h.slots, h.chunks, h.inj, h.names, h.cnames, h.below, h.dom, h.defers, h.dep, h.lpi, h.round, h.glob, by have := h.ksize; rw [hk] at this; simpa [Base.push] using this,
    fun i sv' hs => h.kslots (i + 1) sv' (by rw [hk]; simpa using hs), fun i sv' hs => h.knames (i + 1) sv' (by rw [hk]; simpa using hs)⟩

theorem roundSlots_sound {A : Nat → Prop} : ∀ (ps : List Tmp) (svs : List SV) (vs : List Value) (l : List SV) (t : Array Value), CellsRel P A w ρ svs vs → CellsRel P A w ρ l t.toList →
    CellsRel P A w ρ (roundSlots ps svs l) ((ps.zip vs).foldl (fun (tmps : Array Value) (p : Tmp × Value) => tmps.setIfInBounds p.1 p.2) t).toList
  | [], svs, vs, l, t, _, h => by unfold roundSlots; simpa using h
  | p :: ps, [], vs, l, t, hv, h => by
    have : vs = [] := List.eq_nil_of_length_eq_zero (by simpa using hv.1)
    subst this
    unfold roundSlots
    simpa using h
  | p :: ps, x :: xs, vs, l, t, hv, h => by
    cases vs with
    | nil => have := hv.1; simp at this
    | cons v vs =>
      unfold roundSlots
      simp only [List.zip_cons_cons, List.foldl_cons]
      refine roundSlots_sound ps xs vs _ _ ⟨by have := hv.1; simpa using this, fun i sv hi => by simpa using hv.2 (i + 1) sv (by simpa using hi)⟩ ⟨by simpa using h.1, fun i sv hi => ?_⟩
      obtain ⟨u, hu, h0⟩ := hv.2 0 x rfl
      simp at hu
      subst hu
      by_cases hpi : p = i
      · subst hpi
        have hlt : p < l.length := by
          have := (List.getElem?_eq_some_iff.1 hi).1
          simpa using this
        rw [List.getElem?_set_self hlt] at hi
        cases hi
        have hlt2 : p < t.size := by have := h.1; rw [Array.length_toList] at this; exact this ▸ hlt
        exact ⟨v, by simp [Array.getElem?_setIfInBounds, hlt2], h0⟩
      · rw [List.getElem?_set_ne hpi] at hi
        obtain ⟨u, h1, h2⟩ := h.2 i sv hi
        exact ⟨u, by rw [Array.getElem?_toList] at h1 ⊢; rw [Array.getElem?_setIfInBounds_ne hpi]; exact h1, h2⟩

theorem roundSlots_in {n : Nat} : ∀ (ps : List Tmp) (svs l : List SV), (∀ sv ∈ svs, sv.inn n) → (∀ sv ∈ l, sv.inn n) → ∀ sv ∈ roundSlots ps svs l, sv.inn n
  | [], svs, l, _, h => by unfold roundSlots; exact h
  | p :: ps, [], l, _, h => by unfold roundSlots; exact h
  | p :: ps, x :: xs, l, hx, h => by
    unfold roundSlots
    refine roundSlots_in ps xs _ (fun sv hs => hx sv (List.mem_cons_of_mem _ hs)) (fun sv hs => ?_)
    rcases List.mem_or_eq_of_mem_set hs with hs | rfl
    · exact h sv hs
    · exact hx _ (List.mem_cons_self ..)

theorem run_yield_call {args : Array Operand} {ts : Array TypeId} {f : Operand} (ho : o.op = .call { callee := .value f, args, argTypes := ts }) {l : Nat} {rec' : Loop}
    (hf : a.eval f = .func (.yield l) #[] #[]) (hl : w.heap[l]? = some (.loop rec')) (hs : args.size = rec'.params.size) :
    (execOp a.eval o).run P w = .ok (.round l rec'.fn ((rec'.params.zip (args.map a.eval)).foldl (fun tmps (t, v) => tmps.setIfInBounds t v) rec'.tmps) rec'.assign rec'.body) w := by
  have hl' := run_getLoop (P := P) hl
  simp only [execOp, ho, resolve, hf, Deferred.ofValue, Sem.run_bind, Sem.run_pure, Result.andThen_ok, invoke, callFunc, Array.empty_append, Array.append_empty, Instr.yield, hl']
  simp [hs]

theorem yieldK_sound {call : (R : Type) → CallK R} (hRd : RoundOK P call) (h : Rel P A0 w0 ρ s a w) {args : Array Operand} {ts : Array TypeId} {f : Operand} (ho : o.op = .call { callee := .value f, args, argTypes := ts })
    {β : Nat} (hev : evalO g.T 0 s f = .yld β) (hk : yieldK g (call R) s o { callee := .value f, args, argTypes := ts } f β K = some r) : OpTo P w0.ro o a w (Goes P A0 w0 K r) := by
  unfold yieldK at hk
  split at hk
  · rename_i i info cells hch
    dsimp only at hk
    obtain ⟨hlen, hk⟩ := ite_some hk
    have hc := getD_some hch
    obtain ⟨hs, hin⟩ := evalO_sound (T := g.T) h 0 f
    rw [hev] at hs hin
    obtain ⟨b, hb, hfv⟩ := hs
    obtain ⟨b', rec', hb', g1, ⟨g2, g3, g4, _, _⟩, g5, g6⟩ := (h.chunks β _ hc).1
    rw [hb] at hb'; cases hb'
    have hargs := argTs_sound (g := g) h args.toList ts.toList
    have hsz : args.size = rec'.params.size := by
      have := hargs.1
      simp only [List.length_map, Array.length_toList] at this
      rw [this, hlen, g2]
    have hcells : CellsRel P (Av A0 ρ s.chunks) w ρ cells rec'.tmps.toList := ⟨by simpa using g5, fun i sv hi => by simpa using g6 i sv hi⟩
    have hslots := roundSlots_sound info.ps.toList _ _ cells rec'.tmps hargs hcells
    have hP := h.push (sv := .yld β) (v := .func (.yield b) #[] #[]) ⟨b, hb, rfl⟩ hin
    have hrun := run_yield_call (P := P) (w := w) ho hfv g1 hsz
    have hround := hRd (fnn := rec'.fn) hP hslots (roundSlots_in _ _ _ (argTs_in h _ _) (h.cnames β _ hc)) rfl rfl hc hk
    intro next Q' hn
    refine ⟨fun _ _ => trivial, ?_⟩
    rw [Oper.semAt_eq _ _ _ (by rw [ho]; intro c hc; cases hc), hrun, Oper.uponIn_round]
    refine ⟨fun h => (by cases h), ?_⟩
    have e1 : ((rec'.params.zip (args.map a.eval)).foldl (fun tmps (t, v) => tmps.setIfInBounds t v) rec'.tmps) = ((info.ps.toList.zip (args.toList.map a.eval)).foldl (fun (tmps : Array Value) (p : Tmp × Value) => tmps.setIfInBounds p.1 p.2) rec'.tmps) := by
      rw [g2, ← Array.foldl_toList]
      simp
    rw [e1, g3, g4]
    simp only [Array.toArray_toList] at hround
    refine (round_any (ro' := w0.ro) hround).mono fun e w' hq => ?_
    obtain ⟨v, ρ', s', sv, rfl, h1, h2, h3, h4⟩ := hq
    dsimp only at h4
    split at h4
    · rename_i β' kept hkp
      split at h4
      · rename_i bb
        refine hn _ _ ⟨ρ', _, (h1.pop hkp).put o.dst h3 h2, h4⟩
      · cases h4
    · cases h4
  · cases hk

theorem callK_sound {call : (R : Type) → CallK R} (hC : CallOK P call) (hRd : RoundOK P call) (hE : ∀ e ∈ g.E, FnOK P e) (h : Rel P A0 w0 ρ s a w) {args : Array Operand} {ts : Array TypeId} {f : Operand} (ho : o.op = .call { callee := .value f, args, argTypes := ts }) {dr : Bool}
    (hk : callK g (call R) dr s o { callee := .value f, args, argTypes := ts } f K = some r) : OpTo P w0.ro o a w (Goes P A0 w0 K r) := by
  unfold callK at hk
  split at hk
  · rename_i n caps hev
    split at hk
    · rename_i e he
      obtain ⟨hm, rfl⟩ := findE_mem he
      have hs := (evalO_sound (T := g.T) h 0 f).1
      rw [hev] at hs
      obtain ⟨vs, hfv, hr⟩ := hs
      obtain ⟨hEn, hF⟩ := hE e hm
      refine contractK_sound hE h ho hEn hfv (cv := vs) (fun A' x l us y hG' hA1 hA2 hx hg hy => ?_) ?_ (fun xs => ?_) (fun xs n hn => Av_settleAll xs hn) hk
      · have := hF A' w x l y hG' hA1 hx hy
        rw [hg] at this
        exact this
      · unfold calleeCaps
        rw [hev]
        exact capsSV_sound hr
      · obtain ⟨caps', hev'⟩ := evalO_clo hev xs
        have hS := Rel.settleAll xs h
        have hs' := (evalO_sound (T := g.T) hS 0 f).1
        rw [hev'] at hs'
        obtain ⟨vs', hfv', hr'⟩ := hs'
        rw [hfv] at hfv'
        simp only [Value.func.injEq] at hfv'
        have e1 : vs = vs' := by have := congrArg Array.toList hfv'.2.2; simpa using this
        unfold calleeCaps
        rw [hev', e1]
        exact capsSV_sound hr'
    · split at hk
      · cases hk
      · have hs := evalO_sound (T := g.T) h 0 f
        rw [hev] at hs
        obtain ⟨⟨vs, hfv, hr⟩, hin⟩ := hs
        have hcaps : calleeCaps g.T f s = capsSV caps := by unfold calleeCaps; rw [hev]
        rw [hcaps] at hk
        obtain ⟨hEn, hCalls⟩ := hC h ((argTs_sound (g := g) h args.toList ts.toList).append (capsSV_sound hr)) (fun sv hs => by
          rcases List.mem_append.1 hs with hs | hs
          · exact argTs_in h _ _ sv hs
          · exact capsSV_in hin sv hs) hk
        refine OpTo.of_calls (by rw [ho]; intro c hc; cases hc) (run_enter ho hfv hEn) hCalls ?_
        rintro e w' ⟨v, ρ', s', sv, rfl, hR, hv, hi, hK⟩
        exact ⟨_, rfl, ρ', _, hR.put o.dst hi hv, hK⟩
  · rename_i ta tb m hev
    have hs := (evalO_sound (T := g.T) h 0 f).1
    rw [hev] at hs
    obtain ⟨l0, hl0, hfv⟩ := hs
    simp only [Cells] at hl0
    rcases hl0 with ⟨rfl, hnone⟩ | ⟨n, first, caps, S, rfl, hEn, hS, hd⟩
    · have bad : ∀ {E : List Entry} {cs : List (Option Chunk)} {svs : List SV} {k : tb.den → Option R}, ((argsOf E cs ta svs).bind fun x => (m x).bind k) = some r → False := by
        intro E cs svs k hb
        obtain ⟨x, _, h2⟩ := Option.bind_eq_some_iff.1 hb
        rw [hnone x] at h2
        cases h2
      unfold contractK at hk
      split at hk
      · exact (bad hk).elim
      · split at hk
        · exact (bad hk).elim
        · exact (bad hk).elim
    · refine contractK_sound hE h ho (cv := []) (first := first.toList) (caps := caps.toList) hEn (by rw [hfv]; simp [Ty.wrap, Ty.agg]) (fun A' x l us y hG' hA1 hA2 hx hg hy => ?_) ⟨rfl, fun i sv hi => by simp at hi⟩ (fun xs => ⟨rfl, fun i sv hi => by simp at hi⟩) (fun xs n hn => Av_settleAll xs hn) hk
      have := hd A' w hG' (fun _ _ => rfl) (fun n hn => ⟨hA1 n hn, fun hSn => (hS n hSn).1 (hA2 n hn)⟩) x l y hx hy
      rw [hg, List.append_nil] at this
      have e1 : first ++ us.toArray ++ caps = (first.toList ++ us ++ caps.toList).toArray := by apply Array.toList_inj.1; simp
      rw [← e1]
      exact this
  · rename_i β hev
    split at hk
    · cases hk
    · exact yieldK_sound hRd h ho hev hk
  · cases hk
end
end Go.Vx
