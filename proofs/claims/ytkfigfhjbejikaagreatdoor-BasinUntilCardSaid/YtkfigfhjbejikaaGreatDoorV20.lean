/- V20: what an operation yields is known from its operands and the blocks of one's own alone. -/
import Derived.Test.YtkfigfhjbejikaaGreatDoorV19
set_option linter.all false
namespace Go.Vx
open Go.RowKit
variable [GT]

section
variable {R : Type} {g : G} {s s' : St} {o : Oper}

theorem partsK_local {E : List Entry} {T : List (TypeId × TyI)} {tys : List (Nat × TypeId)} {t : Ty} : ∀ {ps : List (Nat × Operand)} {x : t.den}, (∀ p ∈ ps, ∀ τ, evalO T τ s' p.2 = evalO T τ s p.2) → partsK E s' T tys t ps x = partsK E s T tys t ps x
  | [], _, _ => rfl
  | p :: ps, x, h => by
    simp only [partsK]
    rw [h p (List.mem_cons_self ..)]
    congr 1
    funext y
    exact partsK_local (fun q hq => h q (List.mem_cons_of_mem _ hq))

theorem elemsK_local {E : List Entry} {T : List (TypeId × TyI)} {u : Ty} {e : TypeId} : ∀ {ps : List (Nat × Operand)} {xs : List u.den}, (∀ p ∈ ps, ∀ τ, evalO T τ s' p.2 = evalO T τ s p.2) → elemsK E s' T u e ps xs = elemsK E s T u e ps xs
  | [], _, _ => rfl
  | p :: ps, xs, h => by
    simp only [elemsK]
    rw [h p (List.mem_cons_self ..)]
    split
    · congr 1
      funext y
      exact elemsK_local (fun q hq => h q (List.mem_cons_of_mem _ hq))
    · rfl

theorem argTs_local {T : List (TypeId × TyI)} : ∀ {xs : List Operand} {ts : List TypeId}, (∀ x ∈ xs, ∀ τ, evalO T τ s' x = evalO T τ s x) → argTs T s' xs ts = argTs T s xs ts
  | [], _, _ => rfl
  | x :: xs, ts, h => by
    simp only [argTs]
    rw [h x (List.mem_cons_self ..), argTs_local (fun y hy => h y (List.mem_cons_of_mem _ hy))]

theorem map_local {T : List (TypeId × TyI)} {τ : TypeId} : ∀ {xs : List Operand}, (∀ x ∈ xs, ∀ τ, evalO T τ s' x = evalO T τ s x) → xs.map (fun x => evalO T τ s' x) = xs.map fun x => evalO T τ s x
  | [], _ => rfl
  | x :: xs, h => by
    simp only [List.map_cons]
    rw [h x (List.mem_cons_self ..), map_local (fun y hy => h y (List.mem_cons_of_mem _ hy))]

theorem methK_local {f : FuncId} {K : SV → Option R} : ∀ {xs : List Operand}, (∀ x ∈ xs, ∀ τ, evalO g.T τ s' x = evalO g.T τ s x) → methK g s' f xs K = methK g s f xs K := by
  intro xs h
  unfold methK
  cases xs with
  | nil => rfl
  | cons x l =>
    cases l with
    | nil =>
      have hx := h x (List.mem_cons_self ..) 0
      cases findE g.E f with
      | none => rfl
      | some e =>
        obtain ⟨ef, ea, er, em⟩ := e
        cases ea with
        | pair t b => dsimp only; rw [hx]
        | _ => rfl
    | cons _ _ => rfl

theorem pureK_local (K : SV → Option R) (hc : s'.chunks = s.chunks) (h : ∀ x ∈ o.op.operands.toList, ∀ τ, evalO g.T τ s' x = evalO g.T τ s x) : pureK g s' o K = pureK g s o K := by
  unfold pureK
  cases ho : o.op with
  | move x => rw [ho] at h; simp [Op.operands] at h; simp only [h]
  | assign x => rw [ho] at h; simp [Op.operands] at h; simp only [h]
  | pick c a b => rw [ho] at h; simp [Op.operands] at h; simp only [h]
  | load t a => rw [ho] at h; simp [Op.operands] at h; simp only [h, hc]
  | binOp op t x y yt =>
    rw [ho] at h
    simp [Op.operands] at h
    simp only [h.1]
    have hy : evalO g.T t s' y = evalO g.T t s y := h.2 t
    cases lookT g.T t with
    | none => rfl
    | some i =>
      dsimp only
      split
      · rfl
      · rfl
      · rw [hy]
  | unOp op t x => rw [ho] at h; simp [Op.operands] at h; simp only [h]
  | convert a b x => rw [ho] at h; simp [Op.operands] at h; simp only [h]
  | field t x f => rw [ho] at h; simp [Op.operands] at h; simp only [h]
  | fieldAddr t x f => rw [ho] at h; simp [Op.operands] at h; simp only [h]
  | indexAddr t x i => rw [ho] at h; simp [Op.operands] at h; simp only [h, hc]
  | index t x i => rw [ho] at h; simp [Op.operands] at h; simp only [h]
  | extract x n => rw [ho] at h; simp [Op.operands] at h; simp only [h]
  | lookup t x ix ok => rw [ho] at h; simp [Op.operands] at h; simp only [h, hc]
  | box e x => rw [ho] at h; simp [Op.operands] at h; simp only [h]
  | build t ps =>
    rw [ho] at h
    have h' : ∀ p ∈ ps.toList, ∀ τ, evalO g.T τ s' p.2 = evalO g.T τ s p.2 := fun p hp τ => h p.2 (by simp [Op.operands]; exact ⟨p.1, by simpa using hp⟩) τ
    simp only [partsK_local h', elemsK_local h']
  | buildSlice t n ps =>
    rw [ho] at h
    have h' : ∀ p ∈ ps.toList, ∀ τ, evalO g.T τ s' p.2 = evalO g.T τ s p.2 := fun p hp τ => h p.2 (by simp [Op.operands]; exact ⟨p.1, by simpa using hp⟩) τ
    simp only [elemsK_local h']
  | makeFunc f first caps =>
    rw [ho] at h
    have h' : ∀ x ∈ caps.toList, ∀ τ, evalO g.T τ s' x = evalO g.T τ s x := fun x hx τ => h x (by simp [Op.operands]; right; simpa using hx) τ
    have h2 : ∀ x ∈ first.toList, ∀ τ, evalO g.T τ s' x = evalO g.T τ s x := fun x hx τ => h x (by simp [Op.operands]; left; simpa using hx) τ
    cases f <;> simp only [map_local h', methK_local h2]
  | slice t x lo hi mx =>
    rw [ho] at h
    have hx : ∀ τ, evalO g.T τ s' x = evalO g.T τ s x := fun τ => h x (by simp [Op.operands]) τ
    have hb : ∀ y, (y = lo ∨ y = hi) → bound g.T s' y = bound g.T s y := by
      intro y hy
      cases y with
      | none => rfl
      | some z =>
        simp only [bound]
        rw [h z (by rcases hy with rfl | rfl <;> simp [Op.operands]) 0]
    simp only [hx, hb lo (.inl rfl), hb hi (.inr rfl)]
  | nilCheck x => rw [ho] at h; simp [Op.operands] at h; simp only [h]
  | call c =>
    obtain ⟨callee, args, ts⟩ := c
    cases callee with
    | builtin b =>
      rw [ho] at h
      have h' : ∀ x ∈ args.toList, ∀ τ, evalO g.T τ s' x = evalO g.T τ s x := fun x hx τ => h x (by simp [Op.operands, Call.operands]; simpa using hx) τ
      have hl : (match args.toList, ts.toList with
          | [x], [t] => (match lookT g.T t with
            | some i => lenK i.ty s'.chunks (evalO g.T t s' x) K
            | none => none)
          | _, _ => none) = (match args.toList, ts.toList with
          | [x], [t] => (match lookT g.T t with
            | some i => lenK i.ty s.chunks (evalO g.T t s x) K
            | none => none)
          | _, _ => none) := by
        split
        · rename_i x t h1 h2
          rw [h' x (by rw [h1]; simp), hc]
        · rfl
      have hd : (match args.toList with
          | [x] => dataK s'.chunks (evalO g.T 0 s' x) K
          | _ => none) = (match args.toList with
          | [x] => dataK s.chunks (evalO g.T 0 s x) K
          | _ => none) := by
        split
        · rename_i x h1
          rw [h' x (by rw [h1]; simp), hc]
        · rfl
      cases b <;> first | exact hl | exact hd | (simp only [map_local h']) | rfl
    | _ => rfl
  | _ => rfl

/-! ### More blocks of one's own -/
def Ext (cs cs' : List (Option Chunk)) : Prop := ∀ β c, cs.getD β none = some c → cs'.getD β none = some c

theorem ext_append (cs l : List (Option Chunk)) : Ext cs (cs ++ l) := fun β c h => by
  rw [List.getD_eq_getElem?_getD] at h ⊢
  rcases Nat.lt_or_ge β cs.length with hl | hl
  · rw [List.getElem?_append_left hl]; exact h
  · rw [List.getElem?_eq_none hl] at h; cases h

section
variable {cs cs' : List (Option Chunk)}
theorem ownVal_ext (hx : Ext cs cs') {β : Nat} {v : TV} (h : ownVal cs β = some v) : ownVal cs' β = some v := by
  unfold ownVal at h ⊢
  cases hc : cs.getD β none with
  | none => rw [hc] at h; cases h
  | some c => rw [hc] at h; rw [hx β c hc]; exact h
theorem ownMap_ext (hx : Ext cs cs') {β : Nat} {v : TV} (h : ownMap cs β = some v) : ownMap cs' β = some v := by
  unfold ownMap at h ⊢
  cases hc : cs.getD β none with
  | none => rw [hc] at h; cases h
  | some c => rw [hc] at h; rw [hx β c hc]; exact h
theorem valOf_ext (hx : Ext cs cs') {sv : SV} {t : Ty} {y : t.den} (h : valOf cs sv t = some y) : valOf cs' sv t = some y := by
  unfold valOf at h ⊢
  cases sv with
  | own β =>
    obtain ⟨v, h1, h2⟩ := Option.bind_eq_some_iff.1 h
    exact Option.bind_eq_some_iff.2 ⟨v, ownVal_ext hx h1, h2⟩
  | mown β =>
    obtain ⟨v, h1, h2⟩ := Option.bind_eq_some_iff.1 h
    exact Option.bind_eq_some_iff.2 ⟨v, ownMap_ext hx h1, h2⟩
  | _ => exact h
theorem argOf_ext (hx : Ext cs cs') {E : List Entry} {sv : SV} {t : Ty} {y : t.den} (h : argOf E cs sv t = some y) : argOf E cs' sv t = some y := by
  unfold argOf at h ⊢
  split
  · exact h
  · rename_i hno
    split at h
    · exact absurd rfl (hno _ _ _ _ rfl)
    · exact valOf_ext hx h
theorem argsOf_ext (hx : Ext cs cs') {E : List Entry} : ∀ {t : Ty} {l : List SV} {y : t.den}, argsOf E cs t l = some y → argsOf E cs' t l = some y
  | .unit, [], _, h => h
  | .pair a b, sv :: l, y, h => by
    obtain ⟨x, h1, h2⟩ := Option.bind_eq_some_iff.1 (show ((argOf E cs sv a).bind fun x => (argsOf E cs b l).map fun y => (x, y)) = some y from h)
    obtain ⟨z, h3, rfl⟩ := Option.map_eq_some_iff.1 h2
    show ((argOf E cs' sv a).bind fun x => (argsOf E cs' b l).map fun y => (x, y)) = _
    rw [argOf_ext hx h1, argsOf_ext hx h3]
    rfl
theorem mapOf_ext (hx : Ext cs cs') {sv : SV} {v : TV} (h : mapOf cs sv = some v) : mapOf cs' sv = some v := by
  unfold mapOf at h ⊢
  cases sv with
  | mown β => exact ownMap_ext hx h
  | val t x => cases t <;> exact h
  | _ => exact h
theorem dataK_ext (hx : Ext cs cs') {sv : SV} {K : SV → Option R} {r : R} (h : dataK cs sv K = some r) : dataK cs' sv K = some r := by
  cases sv with
  | own β =>
    unfold dataK at h ⊢
    dsimp only at h ⊢
    cases hc : cs.getD β none with
    | none => rw [hc] at h; cases h
    | some c => rw [hc] at h; rw [hx β c hc]; exact h
  | _ => cases h

theorem lenK_ext (hx : Ext cs cs') {ty : Ty} {sv : SV} {K : SV → Option R} {r : R} (h : lenK ty cs sv K = some r) : lenK ty cs' sv K = some r := by
  cases sv with
  | own β =>
    unfold lenK at h ⊢
    dsimp only at h ⊢
    split at h
    · rename_i hs
      rw [if_pos hs]
      cases hc : cs.getD β none with
      | none => rw [hc] at h; cases h
      | some c => rw [hc] at h; rw [hx β c hc]; exact h
    · cases h
  | val t x => cases t <;> exact h
  | _ => exact h
end

theorem pureK_ext {K : SV → Option R} {r : R} {cs' : List (Option Chunk)} (hx : Ext s.chunks cs') (h : pureK g s o K = some r) : pureK g { s with chunks := cs' } o K = some r := by
  have he : ∀ x τ, evalO g.T τ { s with chunks := cs' } x = evalO g.T τ s x := fun x τ => by cases x <;> rfl
  unfold pureK at h ⊢
  cases ho : o.op with
  | load t a =>
    rw [ho] at h
    dsimp only at h ⊢
    rw [he]
    cases hl : lookT g.T t with
    | none => rw [hl] at h; cases h
    | some i =>
      rw [hl] at h
      cases hv : evalO g.T 0 s a with
      | bptr β off =>
        rw [hv] at h
        dsimp only at h ⊢
        cases hc : s.chunks.getD β none with
        | none => rw [hc] at h; cases h
        | some c => rw [hc] at h; rw [hx β c hc]; exact h
      | eptr β n sz off =>
        rw [hv] at h
        dsimp only at h ⊢
        cases hc : s.chunks.getD β none with
        | none => rw [hc] at h; cases h
        | some c => rw [hc] at h; rw [hx β c hc]; exact h
      | val u x => rw [hv] at h; cases u <;> exact h
      | _ => rw [hv] at h; exact h
  | indexAddr t x ix =>
    rw [ho] at h
    dsimp only at h ⊢
    rw [he, he]
    cases hl : lookT g.T t with
    | none => rw [hl] at h; cases h
    | some i =>
      rw [hl] at h
      cases hi : evalO g.T 0 s ix with
      | val u n =>
        rw [hi] at h
        cases hv : evalO g.T t s x with
        | own β =>
          rw [hv] at h
          cases u with
          | int k =>
            dsimp only at h ⊢
            cases hc : s.chunks.getD β none with
            | none => rw [hc] at h; cases h
            | some c => rw [hc] at h; rw [hx β c hc]; exact h
          | _ => exact h
        | val w y =>
          rw [hv] at h
          cases u with
          | int k =>
            cases w with
            | ref w => cases w <;> exact h
            | _ => exact h
          | _ => exact h
        | _ => rw [hv] at h; cases u <;> exact h
      | _ => rw [hi] at h; exact h
  | lookup t x ix ok =>
    rw [ho] at h
    dsimp only at h ⊢
    rw [he, he]
    cases hm : mapOf s.chunks (evalO g.T t s x) with
    | none =>
      rw [hm] at h
      split at h
      · rename_i q; cases q
      · cases h
    | some v => rw [hm] at h; rw [mapOf_ext hx hm]; exact h
  | build t ps =>
    rw [ho] at h
    have h' : ∀ p ∈ ps.toList, ∀ τ, evalO g.T τ { s with chunks := cs' } p.2 = evalO g.T τ s p.2 := fun p _ τ => he p.2 τ
    simp only [partsK_local h', elemsK_local h']
    exact h
  | buildSlice t n ps =>
    rw [ho] at h
    have h' : ∀ p ∈ ps.toList, ∀ τ, evalO g.T τ { s with chunks := cs' } p.2 = evalO g.T τ s p.2 := fun p _ τ => he p.2 τ
    simp only [elemsK_local h']
    exact h
  | call c =>
    rw [ho] at h
    obtain ⟨callee, args, ts⟩ := c
    cases callee with
    | builtin b =>
      cases b with
      | len =>
        dsimp only at h ⊢
        split
        · rename_i x t h1 h2
          rw [h1, h2] at h
          dsimp only at h
          rw [he]
          cases hl : lookT g.T t with
          | none => rw [hl] at h; cases h
          | some i => rw [hl] at h; exact lenK_ext hx h
        · rename_i hno
          split at h
          · rename_i x t h1 h2; exact absurd h2 (hno _ _ h1)
          · cases h
      | unsafeSliceData =>
        dsimp only at h ⊢
        split
        · rename_i x h1
          rw [h1] at h
          dsimp only at h
          rw [he]
          exact dataK_ext hx h
        · rename_i hno
          split at h
          · rename_i x h1; exact absurd h1 (hno _)
          · cases h
      | max =>
        have h' : ∀ x ∈ args.toList, ∀ τ, evalO g.T τ { s with chunks := cs' } x = evalO g.T τ s x := fun x _ τ => he x τ
        simp only [map_local h']
        exact h
      | min =>
        have h' : ∀ x ∈ args.toList, ∀ τ, evalO g.T τ { s with chunks := cs' } x = evalO g.T τ s x := fun x _ τ => he x τ
        simp only [map_local h']
        exact h
      | _ => exact h
    | _ => exact h
  | slice t x lo hi mx =>
    rw [ho] at h
    have hb : ∀ y, bound g.T { s with chunks := cs' } y = bound g.T s y := fun y => by
      cases y with
      | none => rfl
      | some z => simp only [bound, he]
    simp only [he, hb]
    exact h
  | makeFunc f first caps =>
    rw [ho] at h
    have h' : ∀ x ∈ caps.toList, ∀ τ, evalO g.T τ { s with chunks := cs' } x = evalO g.T τ s x := fun x _ τ => he x τ
    have h2 : ∀ x ∈ first.toList, ∀ τ, evalO g.T τ { s with chunks := cs' } x = evalO g.T τ s x := fun x _ τ => he x τ
    cases f <;> first | exact h | (simp only [map_local h', methK_local h2]; exact h)
  | _ => rw [ho] at h; first | exact h | (simp only [he]; exact h)
end
end Go.Vx
