import Derived.Test.YtimaoihjoojcdaaGreatDoorVD
import Derived.OrdersIn
import Derived.LoopNIn
import Derived.Scope
import Derived.RangeFuncNested
set_option linter.all false
section
namespace Go.Vx
open Go.RowKit
variable [GT]
section
variable {R : Type} {g : G} {s s' : St} {o : Oper}
theorem y3r {E : List Entry} {T : List (TypeId × TyI)} {tys : List (Nat × TypeId)} {t : Ty} : ∀ {ps : List (Nat × Operand)} {x : t.den},(∀ p ∈ ps,∀ τ,y7 T τ s' p.2 = y7 T τ s p.2) → y6k E s' T tys t ps x = y6k E s T tys t ps x
  | [],_,_ => rfl
  | p :: ps,x,h => by
    simp only [y6k];rw [h p (List.mem_cons_self ..)];congr 1
    funext y
    exact y3r (fun q hq => h q (List.mem_cons_of_mem _ hq))
theorem y16 {E : List Entry} {T : List (TypeId × TyI)} {u : Ty} {e : TypeId} : ∀ {ps : List (Nat × Operand)} {xs : List u.den},(∀ p ∈ ps,∀ τ,y7 T τ s' p.2 = y7 T τ s p.2) → y3g E s' T u e ps xs = y3g E s T u e ps xs
  | [],_,_ => rfl
  | p :: ps,xs,h => by
    simp only [y3g];rw [h p (List.mem_cons_self ..)];split
    · congr 1
      funext y
      exact y16 (fun q hq => h q (List.mem_cons_of_mem _ hq))
    · rfl
theorem y4p {T : List (TypeId × TyI)} : ∀ {xs : List Operand} {ts : List TypeId},(∀ x ∈ xs,∀ τ,y7 T τ s' x = y7 T τ s x) → y1x T s' xs ts = y1x T s xs ts
  | [],_,_ => rfl
  | x :: xs,ts,h => by
    simp only [y1x];rw [h x (List.mem_cons_self ..),y4p (fun y hy => h y (List.mem_cons_of_mem _ hy))]
theorem y2r {T : List (TypeId × TyI)} {τ : TypeId} : ∀ {xs : List Operand},(∀ x ∈ xs,∀ τ,y7 T τ s' x = y7 T τ s x) → xs.map (fun x => y7 T τ s' x) = xs.map fun x => y7 T τ s x
  | [],_ => rfl
  | x :: xs,h => by
    simp only [List.map_cons];rw [h x (List.mem_cons_self ..),y2r (fun y hy => h y (List.mem_cons_of_mem _ hy))]
theorem y8U {f : FuncId} {K : SV → Option R} : ∀ {xs : List Operand},(∀ x ∈ xs,∀ τ,y7 g.T τ s' x = y7 g.T τ s x) → yA0 g s' f xs K = yA0 g s f xs K := by
  intro xs h;unfold yA0;cases xs with
  | nil => rfl
  | cons x l =>
    cases l with
    | nil =>
      have hx := h x (List.mem_cons_self ..) 0;dsimp only;rw [hx]
    | cons _ _ => rfl
theorem yD1 (K : SV → Option R) (hc : s'.cH = s.cH) (h : ∀ x ∈ o.op.operands.toList,∀ τ,y7 g.T τ s' x = y7 g.T τ s x) : yc g s' o K = yc g s o K := by
  unfold yc;cases ho : o.op with
  | move x => rw [ho] at h; simp [Op.operands] at h; simp only [h]
  | assign x => rw [ho] at h; simp [Op.operands] at h; simp only [h]
  | pick c a b => rw [ho] at h; simp [Op.operands] at h; simp only [h]
  | load t a => rw [ho] at h; simp [Op.operands] at h; simp only [h,hc]
  | binOp op t x y yt =>
    rw [ho] at h;simp [Op.operands] at h;simp only [h.1];have hy : y7 g.T t s' y = y7 g.T t s y := h.2 t;cases yM g.T t with
    | none => rfl
    | some i =>
      dsimp only;split
      · rfl
      · rfl
      · rw [hy]
  | unOp op t x => rw [ho] at h; simp [Op.operands] at h; simp only [h]
  | convert a b x => rw [ho] at h; simp [Op.operands] at h; simp only [h]
  | field t x f => rw [ho] at h; simp [Op.operands] at h; simp only [h,hc]
  | fieldAddr t x f => rw [ho] at h; simp [Op.operands] at h; simp only [h]
  | indexAddr t x i => rw [ho] at h; simp [Op.operands] at h; simp only [h,hc]
  | index t x i => rw [ho] at h; simp [Op.operands] at h; simp only [h]
  | extract x n => rw [ho] at h; simp [Op.operands] at h; simp only [h,hc]
  | lookup t x ix ok => rw [ho] at h; simp [Op.operands] at h; simp only [h,hc]
  | box e x => rw [ho] at h; simp [Op.operands] at h; simp only [h]
  | build t ps =>
    rw [ho] at h;have h' : ∀ p ∈ ps.toList,∀ τ,y7 g.T τ s' p.2 = y7 g.T τ s p.2 := fun p hp τ => h p.2 (by simp [Op.operands]; exact ⟨p.1,by simpa using hp⟩) τ
    simp only [y3r h',y16 h']
  | buildSlice t n ps =>
    rw [ho] at h;have h' : ∀ p ∈ ps.toList,∀ τ,y7 g.T τ s' p.2 = y7 g.T τ s p.2 := fun p hp τ => h p.2 (by simp [Op.operands]; exact ⟨p.1,by simpa using hp⟩) τ
    simp only [y16 h']
  | makeFunc f first caps =>
    rw [ho] at h;have h' : ∀ x ∈ caps.toList,∀ τ,y7 g.T τ s' x = y7 g.T τ s x := fun x hx τ => h x (by simp [Op.operands]; right; simpa using hx) τ
    have h2 : ∀ x ∈ first.toList,∀ τ,y7 g.T τ s' x = y7 g.T τ s x := fun x hx τ => h x (by simp [Op.operands]; left; simpa using hx) τ
    cases f <;> simp only [y2r h',y8U h2]
  | slice t x lo hi mx =>
    rw [ho] at h;have hx : ∀ τ,y7 g.T τ s' x = y7 g.T τ s x := fun τ => h x (by simp [Op.operands]) τ
    have hb : ∀ y,(y = lo ∨ y = hi) → y7h g.T s' y = y7h g.T s y := by
      intro y hy;cases y with
      | none => rfl
      | some z =>
        simp only [y7h];rw [h z (by rcases hy with rfl | rfl <;> simp [Op.operands]) 0]
    simp only [hx,hb lo (.inl rfl),hb hi (.inr rfl)]
  | nilCheck x => rw [ho] at h; simp [Op.operands] at h; simp only [h]
  | call c =>
    obtain ⟨callee,args,ts⟩ := c;cases callee with
    | builtin b =>
      rw [ho] at h;have h' : ∀ x ∈ args.toList,∀ τ,y7 g.T τ s' x = y7 g.T τ s x := fun x hx τ => h x (by simp [Op.operands,Call.operands]; simpa using hx) τ
      have hl : (match args.toList,ts.toList with
          | [x],[t] => (match yM g.T t with
            | some i => lenK i.ty s'.cH (y7 g.T t s' x) K
            | none => none)
          | _,_ => none) = (match args.toList,ts.toList with
          | [x],[t] => (match yM g.T t with
            | some i => lenK i.ty s.cH (y7 g.T t s x) K
            | none => none)
          | _,_ => none) := by
        split
        · rename_i x t h1 h2;rw [h' x (by rw [h1]; simp),hc]
        · rfl
      have hd : (match args.toList with
          | [x] => y91 s'.cH (y7 g.T 0 s' x) K
          | _ => none) = (match args.toList with
          | [x] => y91 s.cH (y7 g.T 0 s x) K
          | _ => none) := by
        split
        · rename_i x h1;rw [h' x (by rw [h1]; simp),hc]
        · rfl
      cases b <;> first | exact hl | exact hd | (simp only [y2r h']) | rfl
    | _ => rfl
  | _ => rfl
def Ext (cs cs' : List (Option Chunk)) : Prop := ∀ β c,cs.getD β none = some c → cs'.getD β none = some c
theorem y9I (cs l : List (Option Chunk)) : Ext cs (cs ++ l) := fun β c h => by
  rw [List.getD_eq_getElem?_getD] at h ⊢;rcases Nat.lt_or_ge β cs.length with hl | hl
  · rw [List.getElem?_append_left hl]; exact h
  · rw [List.getElem?_eq_none hl] at h; cases h
section
variable {cs cs' : List (Option Chunk)}
theorem yFy (hx : Ext cs cs') {β : Nat} {v : TV} (h : y9e cs β = some v) : y9e cs' β = some v := by
  unfold y9e at h ⊢;cases hc : cs.getD β none with
  | none => rw [hc] at h; cases h
  | some c => rw [hc] at h; rw [hx β c hc]; exact h
theorem y9H (hx : Ext cs cs') {β : Nat} {v : TV} (h : y5F cs β = some v) : y5F cs' β = some v := by
  unfold y5F at h ⊢;cases hc : cs.getD β none with
  | none => rw [hc] at h; cases h
  | some c => rw [hc] at h; rw [hx β c hc]; exact h
theorem yH3 (hx : Ext cs cs') {sv : SV} {t : Ty} {y : t.den} (h : y0T cs sv t = some y) : y0T cs' sv t = some y := by
  unfold y0T at h ⊢;cases sv with
  | own β =>
    obtain ⟨v,h1,h2⟩ := Option.bind_eq_some_iff.1 h;exact Option.bind_eq_some_iff.2 ⟨v,yFy hx h1,h2⟩
  | mO β =>
    obtain ⟨v,h1,h2⟩ := Option.bind_eq_some_iff.1 h;exact Option.bind_eq_some_iff.2 ⟨v,y9H hx h1,h2⟩
  | _ => exact h
theorem yHM (hx : Ext cs cs') {E : List Entry} {sv : SV} {t : Ty} {y : t.den} (h : y4q E cs sv t = some y) : y4q E cs' sv t = some y := by
  unfold y4q at h;split at h
  · exact h
  · exact h
  · rename_i hno hno2;have e : y4q E cs' sv t = y0T cs' sv t := by
      unfold y4q;split
      · exact (hno _ _ _ _ rfl rfl).elim
      · exact (hno2 _ rfl rfl).elim
      · rfl
    rw [e];exact yH3 hx h
theorem y9V (hx : Ext cs cs') {E : List Entry} : ∀ {t : Ty} {l : List SV} {y : t.den},y1J E cs t l = some y → y1J E cs' t l = some y
  | .unit,[],_,h => h
  | .pair a b,sv :: l,y,h => by
    obtain ⟨x,h1,h2⟩ := Option.bind_eq_some_iff.1 (show ((y4q E cs sv a).bind fun x => (y1J E cs b l).map fun y => (x,y)) = some y from h)
    obtain ⟨z,h3,rfl⟩ := Option.map_eq_some_iff.1 h2;show ((y4q E cs' sv a).bind fun x => (y1J E cs' b l).map fun y => (x,y)) = _
    rw [yHM hx h1,y9V hx h3];rfl
theorem yIe (hx : Ext cs cs') {sv : SV} {v : TV} (h : yAG cs sv = some v) : yAG cs' sv = some v := by
  unfold yAG at h ⊢;cases sv with
  | mO β => exact y9H hx h
  | val t x => cases t <;> exact h
  | _ => exact h
theorem yHW (hx : Ext cs cs') {sv : SV} {K : SV → Option R} {r : R} (h : y91 cs sv K = some r) : y91 cs' sv K = some r := by
  cases sv with
  | own β =>
    unfold y91 at h ⊢;dsimp only at h ⊢;cases hc : cs.getD β none with
    | none => rw [hc] at h; cases h
    | some c => rw [hc] at h; rw [hx β c hc]; exact h
  | _ => cases h
theorem yKI (hx : Ext cs cs') {ty : Ty} {sv : SV} {K : SV → Option R} {r : R} (h : lenK ty cs sv K = some r) : lenK ty cs' sv K = some r := by
  cases sv with
  | own β =>
    unfold lenK at h ⊢;dsimp only at h ⊢;split at h
    · rename_i hs;rw [if_pos hs];cases hc : cs.getD β none with
      | none => rw [hc] at h; cases h
      | some c => rw [hc] at h; rw [hx β c hc]; exact h
    · cases h
  | nO β m =>
    unfold lenK at h ⊢;dsimp only at h ⊢;split at h
    · rename_i hs;rw [if_pos hs];cases hc : cs.getD β none with
      | none => rw [hc] at h; cases h
      | some c => rw [hc] at h; rw [hx β c hc]; exact h
    · cases h
  | val t x => cases t <;> exact h
  | _ => exact h
end
theorem y8h {K : SV → Option R} {r : R} {cs' : List (Option Chunk)} (hx : Ext s.cH cs') (h : yc g s o K = some r) : yc g { s with cH := cs' } o K = some r := by
  have he : ∀ x τ,y7 g.T τ { s with cH := cs' } x = y7 g.T τ s x := fun x τ => by cases x <;> rfl
  unfold yc at h ⊢;cases ho : o.op with
  | load t a =>
    rw [ho] at h;dsimp only at h ⊢;rw [he];have hc : ¬ ((g.vl && !(y7 g.T 0 s a).isVal) = true) := by intro hc; rw [if_pos hc] at h; cases h
    rw [if_neg hc] at h ⊢;clear hc;cases hl : yM g.T t with
    | none => rw [hl] at h; cases h
    | some i =>
      rw [hl] at h;cases hv : y7 g.T 0 s a with
      | bP β off =>
        rw [hv] at h;dsimp only at h ⊢;cases hc : s.cH.getD β none with
        | none => rw [hc] at h; cases h
        | some c => rw [hc] at h; rw [hx β c hc]; exact h
      | eP β n sz off =>
        rw [hv] at h;dsimp only at h ⊢;cases hc : s.cH.getD β none with
        | none => rw [hc] at h; cases h
        | some c => rw [hc] at h; rw [hx β c hc]; exact h
      | nP β n j sz off =>
        rw [hv] at h;dsimp only at h ⊢;cases hc : s.cH.getD β none with
        | none => rw [hc] at h; cases h
        | some c => rw [hc] at h; rw [hx β c hc]; exact h
      | val u x => rw [hv] at h; cases u <;> exact h
      | _ => rw [hv] at h; exact h
  | field t x f =>
    rw [ho] at h;dsimp only at h ⊢;rw [he];cases hl : yM g.T t with
    | none => rw [hl] at h; cases h
    | some i =>
      rw [hl] at h;cases hv : y7 g.T 0 s x with
      | sR β =>
        rw [hv] at h;dsimp only at h ⊢;cases hc : s.cH.getD β none with
        | none => rw [hc] at h; cases h
        | some c => rw [hc] at h; rw [hx β c hc]; exact h
      | _ => rw [hv] at h; exact h
  | indexAddr t x ix =>
    rw [ho] at h;dsimp only at h ⊢;rw [he,he];cases hl : yM g.T t with
    | none => rw [hl] at h; cases h
    | some i =>
      rw [hl] at h;cases hi : y7 g.T 0 s ix with
      | val u n =>
        rw [hi] at h;cases hv : y7 g.T t s x with
        | own β =>
          rw [hv] at h;cases u with
          | int k =>
            dsimp only at h ⊢;cases hc : s.cH.getD β none with
            | none => rw [hc] at h; cases h
            | some c => rw [hc] at h; rw [hx β c hc]; exact h
          | _ => exact h
        | nO β m =>
          rw [hv] at h;cases u with
          | int k =>
            dsimp only at h ⊢;cases hc : s.cH.getD β none with
            | none => rw [hc] at h; cases h
            | some c => rw [hc] at h; rw [hx β c hc]; exact h
          | _ => exact h
        | val w y =>
          rw [hv] at h;cases u with
          | int k =>
            cases w with
            | ref w => cases w <;> exact h
            | _ => exact h
          | _ => exact h
        | bP β off =>
          rw [hv] at h;cases u with
          | int k =>
            dsimp only at h ⊢;cases hc : s.cH.getD β none with
            | none =>
              rw [hc] at h;dsimp only at h;exfalso
              cases hty : i.ty with
              | arr m v => rw [hty] at h; dsimp only at h; revert h; generalize (decide (0 ≤ (show Int from n)) && decide ((show Int from n) < (m : Int))) = b; intro h; cases b <;> cases h
              | _ => rw [hty] at h; cases h
            | some c => rw [hc] at h; rw [hx β c hc]; exact h
          | _ => exact h
        | _ => rw [hv] at h; cases u <;> exact h
      | _ => rw [hi] at h; exact h
  | lookup t x ix ok =>
    rw [ho] at h;dsimp only at h ⊢;rw [he,he];cases hm : yAG s.cH (y7 g.T t s x) with
    | none =>
      rw [hm] at h;cases hi : yM g.T t with
      | none => rw [hi] at h; cases h
      | some i =>
        rw [hi] at h;dsimp only at h;cases hh : y8f s.cH (y7 g.T t s x) with
        | none => rw [hh] at h; cases h
        | some hv =>
          rw [hh] at h;obtain ⟨β,e,es,h1,h2⟩ := y8Y hh;have h3 : cs'.getD β none = some (.mps hv.k e hv.u es (some (hv.x,hv.γ))) := hx β _ (by rw [List.getD_eq_getElem?_getD,h2]; rfl)
          have h4 : yAG cs' (y7 g.T t s x) = none := by rw [h1]; unfold yAG y5F; dsimp only; rw [h3]
          have h5 : y8f cs' (y7 g.T t s x) = some hv := by rw [h1]; unfold y8f; dsimp only; rw [h3]
          rw [h4,h5];exact h
    | some v =>
      rw [hm] at h;rw [yIe hx hm];cases hi : yM g.T t with
      | none => rw [hi] at h; exact h
      | some i =>
        rw [hi] at h;obtain ⟨vt,vx⟩ := v;cases vt <;> exact h
  | build t ps =>
    rw [ho] at h;have h' : ∀ p ∈ ps.toList,∀ τ,y7 g.T τ { s with cH := cs' } p.2 = y7 g.T τ s p.2 := fun p _ τ => he p.2 τ
    simp only [y3r h',y16 h'];exact h
  | buildSlice t n ps =>
    rw [ho] at h;have h' : ∀ p ∈ ps.toList,∀ τ,y7 g.T τ { s with cH := cs' } p.2 = y7 g.T τ s p.2 := fun p _ τ => he p.2 τ
    simp only [y16 h'];exact h
  | call c =>
    rw [ho] at h;obtain ⟨callee,args,ts⟩ := c;cases callee with
    | builtin b =>
      cases b with
      | len =>
        dsimp only at h ⊢;split
        · rename_i x t h1 h2;rw [h1,h2] at h;dsimp only at h;rw [he];cases hl : yM g.T t with
          | none => rw [hl] at h; cases h
          | some i => rw [hl] at h; exact yKI hx h
        · rename_i hno;split at h
          · rename_i x t h1 h2; exact absurd h2 (hno _ _ h1)
          · cases h
      | unsafeSliceData =>
        dsimp only at h ⊢;split
        · rename_i x h1;rw [h1] at h;dsimp only at h;rw [he];exact yHW hx h
        · rename_i hno;split at h
          · rename_i x h1; exact absurd h1 (hno _)
          · cases h
      | max =>
        have h' : ∀ x ∈ args.toList,∀ τ,y7 g.T τ { s with cH := cs' } x = y7 g.T τ s x := fun x _ τ => he x τ
        simp only [y2r h'];exact h
      | min =>
        have h' : ∀ x ∈ args.toList,∀ τ,y7 g.T τ { s with cH := cs' } x = y7 g.T τ s x := fun x _ τ => he x τ
        simp only [y2r h'];exact h
      | _ => exact h
    | _ => exact h
  | slice t x lo hi mx =>
    rw [ho] at h;have hb : ∀ y,y7h g.T { s with cH := cs' } y = y7h g.T s y := fun y => by
      cases y with
      | none => rfl
      | some z => simp only [y7h,he]
    simp only [he,hb];exact h
  | makeFunc f first caps =>
    rw [ho] at h;have h' : ∀ x ∈ caps.toList,∀ τ,y7 g.T τ { s with cH := cs' } x = y7 g.T τ s x := fun x _ τ => he x τ
    have h2 : ∀ x ∈ first.toList,∀ τ,y7 g.T τ { s with cH := cs' } x = y7 g.T τ s x := fun x _ τ => he x τ
    cases f <;> first | exact h | (simp only [y2r h',y8U h2]; exact h)
  | extract x n =>
    rw [ho] at h;dsimp only at h ⊢;rw [he];cases hv : y7 g.T 0 s x with
    | sR β =>
      rw [hv] at h;dsimp only at h ⊢;cases hc : s.cH.getD β none with
      | none => rw [hc] at h; cases h
      | some c => rw [hc] at h; rw [hx β c hc]; exact h
    | _ => rw [hv] at h; exact h
  | _ => rw [ho] at h; first | exact h | (simp only [he]; exact h)
end
end Go.Vx
end
section
namespace Go.Vx
open Go.RowKit
variable [GT]
section
variable {P : Program} {A0 : Nat → Prop} {w0 : Base} {ρ : Places} {s s' : St} {a : Act} {w w' : World} {g : G} {R : Type} {K : St → Option R} {r : R} {o : Oper} {ops : Array Oper} {md : Region.Mode}
theorem Rel.settleCells : ∀ (l : List SV) {s : St},Rel P A0 w0 ρ s a w → Rel P A0 w0 ρ (Vx.settleCells l s) a w
  | [],_,h => h
  | sv :: l,_,h => Rel.settleCells l (h.settle sv)
theorem Rel.settleIn (h : Rel P A0 w0 ρ s a w) (sv : SV) : Rel P A0 w0 ρ (s.settleIn sv) a w := by
  unfold St.settleIn;split
  · split
    · exact Rel.settleCells _ h
    · exact h
  · exact h
theorem Rel.preK (h : Rel P A0 w0 ρ s a w) (g : G) (o : Oper) : Rel P A0 w0 ρ (Vx.preK g o s) a w := by
  unfold Vx.preK;split
  · split
    · split
      · exact h.settleIn _
      · exact h
    · exact h
  · exact h
theorem y2m {r β : Nat} {sv : SV} (hs : sv.names = [β]) (h : sv.has r = false) : β ≠ r := by
  intro e;subst e;unfold SV.has at h;rw [hs] at h;simp at h
theorem yLy {r : Nat} {f : FuncId} {caps : List Cap} (h : (SV.clo f caps).has r = false) : ∀ β,Cap.box β ∈ caps → β ≠ r := by
  intro β hb e;subst e;have : (SV.clo f caps).has β = true := by
    unfold SV.has SV.names;rw [List.contains_iff_mem];exact List.mem_filterMap.2 ⟨_,hb,rfl⟩
  rw [this] at h;cases h
theorem yY.congrN {A : Nat → Prop} {ρ' : Places} {r : Nat} (he : ∀ β,β ≠ r → ρ' β = ρ β) : ∀ {cs : List Cap} {vs : List Value},(∀ β,Cap.box β ∈ cs → β ≠ r) → yY P A w ρ cs vs → yY P A w ρ' cs vs
  | [],[],_,_ => trivial
  | [],_ :: _,_,h => h
  | _ :: _,[],_,h => h
  | .box β :: cs,v :: vs,hi,h => ⟨by have := h.1; simp only [yCh] at this ⊢; rw [he β (hi β (by simp))]; exact this,yY.congrN he (fun γ hγ => hi γ (by simp [hγ])) h.2⟩
  | .val t x :: cs,v :: vs,hi,h => ⟨h.1,yY.congrN he (fun γ hγ => hi γ (by simp [hγ])) h.2⟩
theorem yC.congrN {A : Nat → Prop} {ρ' : Places} {r : Nat} (he : ∀ β,β ≠ r → ρ' β = ρ β) {sv : SV} {v : Value} (hi : sv.has r = false) (h : yC P A w ρ sv v) : yC P A w ρ' sv v := by
  cases sv with
  | bP β off => have := y2m (β := β) rfl hi; simp only [yC] at h ⊢; rw [he β this]; exact h
  | own β => have := y2m (β := β) rfl hi; simp only [yC] at h ⊢; rw [he β this]; exact h
  | mO β => have := y2m (β := β) rfl hi; simp only [yC] at h ⊢; rw [he β this]; exact h
  | yld β => have := y2m (β := β) rfl hi; simp only [yC] at h ⊢; rw [he β this]; exact h
  | mP β e => have := y2m (β := β) rfl hi; simp only [yC] at h ⊢; rw [he β this]; exact h
  | eP β i sz off => have := y2m (β := β) rfl hi; simp only [yC] at h ⊢; rw [he β this]; exact h
  | oS β i sz => have := y2m (β := β) rfl hi; simp only [yC] at h ⊢; rw [he β this]; exact h
  | sR β => have := y2m (β := β) rfl hi; simp only [yC] at h ⊢; rw [he β this]; exact h
  | nO β i => have := y2m (β := β) rfl hi; simp only [yC] at h ⊢; rw [he β this]; exact h
  | nP β i j sz off => have := y2m (β := β) rfl hi; simp only [yC] at h ⊢; rw [he β this]; exact h
  | meth f β => have := y2m (β := β) rfl hi; simp only [yC] at h ⊢; rw [he β this]; exact h
  | clo f caps => obtain ⟨vs,h2,h3⟩ := h; exact ⟨vs,h2,h3.congrN he (yLy hi)⟩
  | _ => exact h
theorem y2k {r : Nat} {cells : List SV} (h : cells.any (SV.has r) = false) : ∀ sv ∈ cells,sv.has r = false := by
  intro sv hs;cases hq : sv.has r with
  | false => rfl
  | true =>
    have : cells.any (SV.has r) = true := List.any_eq_true.2 ⟨sv,hs,hq⟩;rw [this] at h;cases h
theorem y8.congrN {A : Nat → Prop} {ρ' : Places} {r : Nat} (he : ∀ β,β ≠ r → ρ' β = ρ β) {p : Place} {ch : Chunk} (hi : ch.has r = false) (h : y8 P A w ρ p ch) : y8 P A w ρ' p ch := by
  cases ch with
  | box t cells =>
    obtain ⟨b,vs,e,hb,h1,h2,h3⟩ := h;exact ⟨b,vs,e,hb,h1,h2,fun i sv hs => let ⟨v,hv,hr⟩ := h3 i sv hs; ⟨v,hv,hr.congrN he (y2k hi sv (List.mem_of_getElem? hs))⟩⟩
  | lp i info cells st =>
    obtain ⟨b,r,hb,h1,h2,h3,h4⟩ := h;exact ⟨b,r,hb,h1,h2,h3,fun i sv hs => let ⟨v,hv,hr⟩ := h4 i sv hs; ⟨v,hv,hr.congrN he (y2k hi sv (List.mem_of_getElem? hs))⟩⟩
  | arr e t xs nn => simpa only [y8] using h
  | mp k v es => simpa only [y8] using h
  | it bs q => simpa only [y8] using h
  | mps k e u es hole =>
    have hh : ∀ q,hole = some q → q.2 ≠ r := fun q hq hqr => by
      subst hq;simp only [Chunk.has,hqr,beq_self_eq_true] at hi;cases hi
    obtain ⟨b,ms,c,hb,h1,h2,⟨h3,h4⟩,h5⟩ := h;refine ⟨b,ms,c,hb,h1,h2,⟨h3,fun q hq hx => ?_⟩,fun i x hx => ?_⟩
    · rw [he _ (hh q hq)]; exact h4 q hq hx
    · obtain ⟨en,o,h6,h7,h8,h9⟩ := h5 i x hx;refine ⟨en,o,h6,h7,h8,?_⟩;rcases h9 with ⟨q,hq,h9,h10,h11⟩ | h9
      · exact .inl ⟨q,hq,h9,h10,by rw [he _ (hh q hq)]; exact h11⟩
      · exact .inr h9
  | rcd t cells =>
    obtain ⟨h1,h2,h3,h4⟩ := h;exact ⟨h1,h2,h3,fun i sv hs => let ⟨v,hv,hr⟩ := h4 i sv hs; ⟨v,hv,hr.congrN he (y2k hi sv (List.mem_of_getElem? hs))⟩⟩
  | nst e t o e' u xs => simpa only [y8] using h
theorem y4Y {r : Nat} (h : y50 r s = true) : (∀ (i : Nat) (sv : SV),s.slots[i]? = some sv → sv.has r = false) ∧ (∀ (i : Nat) (sv : SV),s.kept[i]? = some sv → sv.has r = false) ∧ (∀ (β : Nat) (ch : Chunk),s.cH[β]? = some (some ch) → ch.has r = false) := by
  unfold y50 at h;simp only [Bool.and_eq_true] at h;obtain ⟨⟨h1,h2⟩,h3⟩ := h;refine ⟨fun i sv hi => ?_,fun i sv hi => ?_,fun β ch hc => ?_⟩
  · simpa using List.all_eq_true.1 h1 sv (List.mem_of_getElem? hi)
  · simpa using List.all_eq_true.1 h2 sv (List.mem_of_getElem? hi)
  · simpa using List.all_eq_true.1 h3 _ (List.mem_of_getElem? hc)
theorem Rel.moved {C : List (Option Chunk)} {e : TypeId} {u : Ty} {xs : List u.den} {nn : Bool} {q d : Nat} {s0 : St} {a0 : Act} {wa : World} {ρ0 : Places} (hs : Rel P A0 w0 ρ0 s0 a0 wa) (hl : C.length = s0.cH.length)
    (hsub : ∀ (β : Nat) (ch : Chunk),C[β]? = some (some ch) → s0.cH[β]? = some (some ch)) (hq : q < C.length) (hqn : (C.getD q none).isSome = false) (hno : y50 q s0 = true)
    (h : Rel P A0 w0 ρ (({ s0 with cH := C ++ [some (Chunk.arr e u xs nn)] } : St).put (some d) (.own C.length)) a w) :
    Rel P A0 w0 (ρ.set q (ρ C.length)) (({ s0 with cH := C.set q (some (Chunk.arr e u xs nn)) } : St).put (some d) (.own q)) a w := by
  obtain ⟨n1,n2,n3⟩ := y4Y hno;have he : ∀ β,β ≠ q → ρ.set q (ρ C.length) β = ρ β := fun β hβ => by unfold Places.set; rw [if_neg hβ]
  have hself : ρ.set q (ρ C.length) q = ρ C.length := Places.set_self ρ q _;have hCq : C[q]? = some none := by
    rw [List.getD_eq_getElem?_getD] at hqn;rw [List.getElem?_eq_getElem hq] at hqn ⊢;cases hc : C[q] with
    | none => rfl
    | some c => rw [hc] at hqn; simp at hqn
  have new : ∀ (β : Nat) (ch : Chunk),(C.set q (some (Chunk.arr e u xs nn)))[β]? = some (some ch) → (β = q ∧ ch = Chunk.arr e u xs nn) ∨ (β ≠ q ∧ C[β]? = some (some ch)) := by
    intro β ch hc;by_cases hb : q = β
    · subst hb;rw [List.getElem?_set_self hq] at hc;simp only [Option.some.injEq] at hc;exact .inl ⟨rfl,hc.symm⟩
    · rw [List.getElem?_set_ne hb] at hc;exact .inr ⟨Ne.symm hb,hc⟩
  have old : ∀ (β : Nat) (ch : Chunk),C[β]? = some (some ch) → (C ++ [some (Chunk.arr e u xs nn)])[β]? = some (some ch) := fun β ch hc => by
    rw [List.getElem?_append_left (List.getElem?_eq_some_iff.1 hc).1]; exact hc
  have last : (C ++ [some (Chunk.arr e u xs nn)])[C.length]? = some (some (Chunk.arr e u xs nn)) := by simp
  have hA : ∀ n,Av A0 (ρ.set q (ρ C.length)) (C.set q (some (Chunk.arr e u xs nn))) n → Av A0 ρ (C ++ [some (Chunk.arr e u xs nn)]) n := by
    rintro n ((h0 | ⟨β,ch,hc,hb⟩) | ⟨β,ch,hc,hb⟩)
    · exact .inl (.inl h0)
    · rcases new β ch hc with ⟨rfl,rfl⟩ | ⟨hne,hc⟩
      · rw [hself] at hb;exact .inl (.inr ⟨C.length,_,last,hb⟩)
      · rw [he β hne] at hb;exact .inl (.inr ⟨β,ch,old β ch hc,hb⟩)
    · rcases new β ch hc with ⟨rfl,rfl⟩ | ⟨hne,hc⟩
      · rw [hself] at hb;exact .inr ⟨C.length,_,last,hb⟩
      · rw [he β hne] at hb;exact .inr ⟨β,ch,old β ch hc,hb⟩
  have hK : Keep (Av A0 ρ (C ++ [some (Chunk.arr e u xs nn)])) w w := fun _ _ _ => rfl
  have hch : ∀ (β : Nat) (ch : Chunk),C[β]? = some (some ch) → ch.has q = false := fun β ch hc => n3 β ch (hsub β ch hc)
  have conv : ∀ {sv : SV} {v : Value},sv.has q = false → yC P (Av A0 ρ (C ++ [some (Chunk.arr e u xs nn)])) w ρ sv v → yC P (Av A0 (ρ.set q (ρ C.length)) (C.set q (some (Chunk.arr e u xs nn)))) w (ρ.set q (ρ C.length)) sv v :=
    fun hi hr => (hr.mono hK fun n _ h => hA n h).congrN he hi
  have hlen : (C.set q (some (Chunk.arr e u xs nn))).length = s0.cH.length := by rw [List.length_set,hl]
  refine ⟨by have h0 := h.size; rw [St.put_slots,List.length_set] at h0 ⊢; exact h0,fun i sv hi => ?_,fun β ch hc => ?_,fun β γ c1 c2 hb hc e1 e2 => ?_,fun i sv hi => ?_,fun β ch hc => ?_,h.below,h.dom,h.defers,h.dep,fun β ch p hc hp => ?_,h.round,h.glob,h.kZ,fun i sv hi => ?_,fun i sv hi => ?_,⟨fun β ch hc hm => ?_,fun β ch n hc hn => ?_,fun β γ c d n hc hd hn => ?_,fun β γ c d n hc hd hn hm => ?_⟩⟩
  · rw [St.put_slots] at hi;change (s0.slots.set d (.own q))[i]? = some sv at hi
    by_cases hd : d = i
    · subst hd;have hlt : d < s0.slots.length := by
        rcases Nat.lt_or_ge d s0.slots.length with hl | hl
        · exact hl
        · rw [List.getElem?_eq_none (by simpa using hl)] at hi; cases hi
      rw [List.getElem?_set_self hlt] at hi;cases hi;have := h.slots d (.own C.length) (by rw [St.put_slots]; exact List.getElem?_set_self hlt)
      simp only [yC] at this ⊢;rw [hself];exact this
    · rw [List.getElem?_set_ne hd] at hi;exact conv (n1 i sv hi) (h.slots i sv (by rw [St.put_slots]; exact (List.getElem?_set_ne hd).trans hi))
  · rcases new β ch hc with ⟨rfl,rfl⟩ | ⟨hne,hc⟩
    · have := h.cH C.length _ last;rw [hself];refine ⟨?_,this.2⟩;have h2 : y8 P (Av A0 (ρ.set β (ρ C.length)) (C.set β (some (Chunk.arr e u xs nn)))) w ρ (ρ C.length) (Chunk.arr e u xs nn) := this.1.keep (fun _ _ => rfl) (fun n _ h => hA n h)
      show y8 P (Av A0 (ρ.set β (ρ C.length)) (C.set β (some (Chunk.arr e u xs nn)))) w (ρ.set β (ρ C.length)) (ρ C.length) (Chunk.arr e u xs nn)
      simpa only [y8] using h2
    · have := h.cH β ch (old β ch hc);rw [he β hne];exact ⟨(this.1.keep (fun _ _ => rfl) (fun n _ h => hA n h)).congrN he (hch β ch hc),this.2⟩
  · rcases new β c1 hb with ⟨b1,b2⟩ | ⟨b1,b2⟩ <;> rcases new γ c2 hc with ⟨d1,d2⟩ | ⟨d1,d2⟩
    · rw [b1,d1]
    · subst b1;rw [hself,he γ d1] at e1;rw [hself] at e2;have := h.inj C.length γ _ _ last (old γ c2 d2) e1 e2;have := (List.getElem?_eq_some_iff.1 d2).1;omega
    · subst d1;rw [hself,he β b1] at e1;rw [he β b1] at e2;have := h.inj β C.length _ _ (old β c1 b2) last e1 e2;have := (List.getElem?_eq_some_iff.1 b2).1;omega
    · rw [he β b1,he γ d1] at e1;rw [he β b1] at e2;exact h.inj β γ _ _ (old β c1 b2) (old γ c2 d2) e1 e2
  · rw [St.put_slots] at hi;change (s0.slots.set d (.own q))[i]? = some sv at hi
    show sv.inn (({ s0 with cH := C.set q (some (Chunk.arr e u xs nn)) } : St).put (some d) (.own q)).cH.length
    rw [show (({ s0 with cH := C.set q (some (Chunk.arr e u xs nn)) } : St).put (some d) (.own q)).cH = C.set q (some (Chunk.arr e u xs nn)) from rfl,hlen]
    by_cases hd : d = i
    · subst hd;have hlt : d < s0.slots.length := by
        rcases Nat.lt_or_ge d s0.slots.length with hl | hl
        · exact hl
        · rw [List.getElem?_eq_none (by simpa using hl)] at hi; cases hi
      rw [List.getElem?_set_self hlt] at hi;cases hi;show q < _
      omega
    · rw [List.getElem?_set_ne hd] at hi;exact hs.names i sv hi
  · show ch.inn (C.set q (some (Chunk.arr e u xs nn))).length
    rw [hlen];rcases new β ch hc with ⟨rfl,rfl⟩ | ⟨hne,hc⟩
    · trivial
    · exact hs.cN β ch (hsub β ch hc)
  · rcases new β ch hc with ⟨rfl,rfl⟩ | ⟨hne,hc⟩
    · cases hp
    · exact h.lpi β ch p (old β ch hc) hp
  · exact conv (n2 i sv hi) (h.kS i sv hi)
  · show sv.inn (C.set q (some (Chunk.arr e u xs nn))).length
    rw [hlen];exact hs.kN i sv hi
  · rcases new β ch hc with ⟨rfl,rfl⟩ | ⟨hne,hc⟩
    · rw [hself]; exact h.subs.plain C.length _ last rfl
    · rw [he β hne]; exact h.subs.plain β ch (old β ch hc) hm
  · rcases new β ch hc with ⟨rfl,rfl⟩ | ⟨hne,hc⟩
    · rw [hself] at hn; exact h.subs.base C.length _ n last hn
    · rw [he β hne] at hn; exact h.subs.base β ch n (old β ch hc) hn
  · have up : ∀ (β : Nat) (ch : Chunk),(C.set q (some (Chunk.arr e u xs nn)))[β]? = some (some ch) → ∃ β0 c0,(C ++ [some (Chunk.arr e u xs nn)])[β0]? = some (some c0) ∧ ρ.set q (ρ C.length) β = ρ β0 := by
      intro β ch hc;rcases new β ch hc with ⟨rfl,rfl⟩ | ⟨hne,hc⟩
      · exact ⟨C.length,_,last,hself⟩
      · exact ⟨β,ch,old β ch hc,he β hne⟩
    obtain ⟨β0,c0,h1,h2⟩ := up β c hc;obtain ⟨γ0,d0,h3,h4⟩ := up γ d hd;rw [h2] at hn;rw [h4];exact h.subs.apart β0 γ0 c0 d0 n h1 h3 hn
  · rcases new β c hc with ⟨b1,b2⟩ | ⟨b1,b2⟩ <;> rcases new γ d hd with ⟨d1,d2⟩ | ⟨d1,d2⟩
    · rw [b1,d1]
    · subst b1;rw [hself] at hn;rw [he γ d1] at hm;have := h.subs.one C.length γ _ _ n last (old γ d d2) hn hm;have := (List.getElem?_eq_some_iff.1 d2).1;omega
    · subst d1;rw [he β b1] at hn;rw [hself] at hm;have := h.subs.one β C.length _ _ n (old β c b2) last hn hm;have := (List.getElem?_eq_some_iff.1 b2).1;omega
    · rw [he β b1] at hn;rw [he γ d1] at hm;exact h.subs.one β γ _ _ n (old β c b2) (old γ d d2) hn hm
theorem y3X {n β : Nat} {ch : Chunk} : (s.pad n).cH[β]? = some (some ch) ↔ s.cH[β]? = some (some ch) := by
  unfold St.pad;dsimp only;rcases Nat.lt_or_ge β s.cH.length with hl | hl
  · rw [List.getElem?_append_left hl]
  · rw [List.getElem?_append_right hl,List.getElem?_eq_none hl,List.getElem?_replicate];constructor
    · intro h; split at h <;> cases h
    · intro h; cases h
theorem Rel.pad (h : Rel P A0 w0 ρ s a w) (n : Nat) : Rel P A0 w0 ρ (s.pad n) a w := by
  have hA : Av A0 ρ (s.pad n).cH = Av A0 ρ s.cH := by
    funext k
    unfold Av Sub;simp only [y3X]
  have hlen : s.cH.length ≤ (s.pad n).cH.length := by unfold St.pad; simp
  exact ⟨h.size,fun i sv hi => by rw [hA]; exact h.slots i sv hi,fun β ch hc => by rw [hA]; exact h.cH β ch (y3X.1 hc),fun β γ c d hb hc => h.inj β γ c d (y3X.1 hb) (y3X.1 hc),
    fun i sv hi => SV.inn_mono hlen (h.names i sv hi),fun β ch hc => Chunk.inn_mono hlen (h.cN β ch (y3X.1 hc)),h.below,h.dom,h.defers,h.dep,fun β ch q hc => h.lpi β ch q (y3X.1 hc),h.round,h.glob,h.kZ,
    fun i sv hi => by rw [hA]; exact h.kS i sv hi,fun i sv hi => SV.inn_mono hlen (h.kN i sv hi),h.subs.sub fun β ch hc => ⟨ch,y3X.1 hc,id⟩⟩
theorem yGS {R : Type} {s : St} {o : Oper} {K : St → Option R} {r : R} (h : y5M g s o K = some r) : effK g s o K = some r := by
  unfold y5M at h;split at h
  · rename_i e ho;unfold effK;rw [ho];dsimp only;split at h
    · cases h
    · rename_i hm0;have hm : y6G g o.dst = false := by
        simp only [Bool.or_eq_true,not_or,Bool.not_eq_true] at hm0;exact hm0.1
      cases hl : yM g.T e with
      | none => rw [hl] at h; cases h
      | some i => rw [hl] at h; simpa [hm] using h
  · cases h
theorem yK0 {cs : List (Option Chunk)} {sv : SV} {t : Ty} {y : t.den} (h : y0T cs sv t = some y) : xOf sv t = none := by
  unfold xOf;split
  · cases h
  · rfl
theorem yAc {cs cs' : List (Option Chunk)} {sv : SV} {t : Ty} {y : t.den} (h : y0T cs sv t = some y) : y7U cs' t sv = none := by
  unfold y7U;split
  · cases h
  · rfl
theorem yBe {ps : List (Nat × Operand)} (h : y0v s (ps.map (·.2)) = false) : yIM s ps = false := by
  unfold yIM;split
  · rename_i x;split
    · rename_i β hx;simp [y0v,hx] at h
    · rfl
  · rfl
theorem yHU {cs : List (Option Chunk)} {β : Nat} {e : TypeId} {u : Ty} {xs : List u.den} {nn : Bool} (h : cs.getD β none = some (.arr e u xs nn)) : yMf cs (.own β) = false := by
  unfold yMf;dsimp only;rw [h]
theorem yBg {sv : SV} {t : Ty} {z : t.den} (h : y0T [] sv t = some z) : s.settle sv = s := by
  cases sv <;> first | rfl | (exfalso; revert h; simp [y0T,y9e,y5F])
theorem yFm {R : Type} {s : St} {o : Oper} {K : St → Option R} {r : R} (h : y5u g s o K = some r) : effK g s o K = some r := by
  unfold y5u at h;split at h
  · rename_i t p x ho;unfold effK;rw [ho];dsimp only;split at h
    · cases h
    · rename_i hfz;have hfi : ∀ z : St,freezeIf g z (.tmp p) = z := fun z => by unfold freezeIf; simp only [hfz]; rfl
      have he : y7 g.T 0 s (.tmp p) = s.get p := rfl;rw [he];cases hl : yM g.T t with
      | none => rw [hl] at h; cases h
      | some i =>
        rw [hl] at h;cases hv : s.get p with
        | bP β off =>
          rw [hv] at h;dsimp only at h ⊢;simp only [hfi];split at h
          · split at h
            · rename_i hag;rw [if_pos hag];obtain ⟨y,hy,h⟩ := Option.bind_eq_some_iff.1 h;rw [yK0 hy,yAc hy,hy];exact h
            · rename_i hag;rw [if_neg hag];exact h
          · cases h
        | eP β n sz off =>
          rw [hv] at h;dsimp only at h ⊢;cases hc : s.cH.getD β none with
          | none => rw [hc] at h; cases h
          | some c =>
            rw [hc] at h;cases c with
            | arr e u xs nn =>
              have hs : s.settle (y7 g.T t s x) = s := by
                dsimp only at h;obtain ⟨_,h⟩ := yD h;obtain ⟨y,_,h⟩ := Option.bind_eq_some_iff.1 h;obtain ⟨z,hz,_⟩ := Option.bind_eq_some_iff.1 h;exact yBg hz
              have hn : yIj s β off (y7 g.T t s x) = false := by
                unfold yIj;split
                · rename_i h2; rw [hc] at h2; cases h2
                · rfl
              rw [hn,hs,hc];exact h
            | _ => cases h
        | _ => rw [hv] at h; cases h
  · cases h
noncomputable def y2q {R : Type} (g : G) (s : St) (o : Oper) (k : St → Option R) : Option R := if y0g o then y5M g s o k else y5u g s o k
theorem yGz {R : Type} {s : St} {o : Oper} {K : St → Option R} {r : R} (h : y2q g s o K = some r) : effK g s o K = some r := by
  unfold y2q at h;split at h
  · exact yGS h
  · exact yFm h
theorem y17 {R : Type} {s : St} {o : Oper} {K : St → Option R} {r : R} (h : effD g s o K = some r) : (y2c g o = true ∧ newD g s o K = some r) ∨ (y2c g o = false ∧ (g.ap.isEmpty = true ∨ y0g o = true) ∧ y2q g s o K = some r) := by
  unfold effD at h;cases hn : y2c g o with
  | true => rw [hn] at h; exact .inl ⟨rfl,h⟩
  | false =>
    rw [hn] at h;simp only [Bool.false_eq_true,if_false] at h;unfold y2q;split at h
    · rename_i ha; exact .inr ⟨rfl,.inr ha,by rw [if_pos ha]; exact h⟩
    · rename_i ha;split at h
      · rename_i he; exact .inr ⟨rfl,.inl he,by rw [if_neg ha]; exact h⟩
      · cases h
theorem y51 {o : Oper} (h : y0g o = true) : y2c g o = false := by
  unfold y0g at h;unfold y2c y2X;split at h
  · rename_i e ho; rw [ho]; rfl
  · cases h
theorem yJ1 (r : Nat) : ∀ (t : Ty),∀ sv ∈ y0t t,sv.has r = false := by
  intro t;induction t with
  | pair a b iha ihb =>
    intro sv hs;simp only [y0t,List.mem_append] at hs;rcases hs with hs | hs
    · exact iha sv hs
    · exact ihb sv hs
  | arr n t ih =>
    intro sv hs;simp only [y0t,List.mem_flatten] at hs;obtain ⟨l,hl,hs⟩ := hs;rw [List.eq_of_mem_replicate hl] at hs;exact ih sv hs
  | unit => intro sv hs; simp [y0t] at hs
  | _ => intro sv hs; simp only [y0t,List.mem_singleton] at hs; subst hs; rfl
theorem y3B {s s1 : St} {o : Oper} (ha : y0g o = true) (h : y2q g s o some = some s1) : ∃ ch : Chunk,(∀ r,ch.has r = false) ∧ apAt g o.dst = none ∧
    ∀ z : St,y2q g z o some = some ({ z with cH := z.cH ++ [some ch] }.put o.dst (.bP z.cH.length 0)) := by
  unfold y2q at h;rw [if_pos ha] at h;unfold y5M at h;split at h
  · rename_i e ho;split at h
    · cases h
    · rename_i hm;split at h
      · rename_i ti hl;refine ⟨Chunk.box ti.ty (y0t ti.ty),fun r => ?_,?_,fun z => ?_⟩
        · show (y0t ti.ty).any (SV.has r) = false
          rw [List.any_eq_false];intro sv hs;rw [yJ1 r ti.ty sv hs];simp
        · simp only [Bool.or_eq_true,not_or,Bool.not_eq_true,Option.isSome_eq_false_iff,Option.isNone_iff_eq_none] at hm;exact hm.2
        · unfold y2q;rw [if_pos ha];unfold y5M;rw [ho];dsimp only;rw [if_neg hm,hl]
      · cases h
  · cases h
theorem yGC {s s1 : St} {o : Oper} (h : y2q g s o some = some s1) : ∃ C u,(y0g o = true → ∃ c,C = s.cH ++ [c]) ∧
    ∀ z : St,z.cH = s.cH → (∀ x ∈ o.op.operands.toList,∀ τ,y7 g.T τ z x = y7 g.T τ s x) → y2q g z o some = some ({ z with cH := C }.put o.dst u) := by
  unfold y2q at h;split at h
  · rename_i ha;unfold y5M at h;split at h
    · rename_i e ho;split at h
      · cases h
      · rename_i hm;split at h
        · rename_i ti hl;refine ⟨s.cH ++ [some (Chunk.box ti.ty (y0t ti.ty))],.bP s.cH.length 0,fun _ => ⟨_,rfl⟩,fun z hz _ => ?_⟩
          unfold y2q;rw [if_pos ha];unfold y5M;rw [ho];dsimp only;rw [if_neg hm,hl,hz]
        · cases h
    · cases h
  · rename_i ha;unfold y5u at h;split at h
    · rename_i t p x ho;split at h
      · cases h
      · rename_i hfz;cases hl : yM g.T t with
        | none => rw [hl] at h; cases h
        | some i =>
          rw [hl] at h;cases hv : s.get p with
          | bP β off =>
            rw [hv] at h;dsimp only at h;cases hc : s.cH.getD β none with
            | none => rw [hc] at h; cases h
            | some c =>
              rw [hc] at h;cases c with
              | box u cells =>
                dsimp only at h;have op : ∀ z : St,(∀ x ∈ o.op.operands.toList,∀ τ,y7 g.T τ z x = y7 g.T τ s x) → z.get p = s.get p ∧ ∀ τ,y7 g.T τ z x = y7 g.T τ s x := fun z hz => by
                  rw [ho] at hz;exact ⟨hz (.tmp p) (by simp [Op.operands]) 0,hz x (by simp [Op.operands])⟩
                split at h
                · rename_i hag;obtain ⟨y,hy,h⟩ := Option.bind_eq_some_iff.1 h;obtain ⟨hle,h⟩ := yD h;refine ⟨s.cH.set β (some (Chunk.box u (cells.take off ++ y0P i.ty y ++ cells.drop (off + i.ty.size)))),.undef,fun hq => absurd hq ha,fun z hz hev => ?_⟩
                  obtain ⟨e1,e2⟩ := op z hev;unfold y2q;rw [if_neg ha];unfold y5u;rw [ho];dsimp only;rw [if_neg hfz,hl,e1,hv];dsimp only;rw [hz,hc];dsimp only;rw [if_pos hag,e2,hy];simp only [Option.bind_some];rw [if_pos hle]
                · rename_i hag;obtain ⟨hle,h⟩ := yD h;refine ⟨s.cH.set β (some (Chunk.box u (cells.set off (asFn g.E i.ty (y7 g.T t s x))))),.undef,fun hq => absurd hq ha,fun z hz hev => ?_⟩
                  obtain ⟨e1,e2⟩ := op z hev;unfold y2q;rw [if_neg ha];unfold y5u;rw [ho];dsimp only;rw [if_neg hfz,hl,e1,hv];dsimp only;rw [hz,hc];dsimp only;rw [if_neg hag,e2,if_pos hle]
              | _ => cases h
          | eP β n sz off =>
            rw [hv] at h;dsimp only at h;cases hc : s.cH.getD β none with
            | none => rw [hc] at h; cases h
            | some c =>
              rw [hc] at h;cases c with
              | arr e u xs nn =>
                dsimp only at h;have op : ∀ z : St,(∀ x ∈ o.op.operands.toList,∀ τ,y7 g.T τ z x = y7 g.T τ s x) → z.get p = s.get p ∧ ∀ τ,y7 g.T τ z x = y7 g.T τ s x := fun z hz => by
                  rw [ho] at hz;exact ⟨hz (.tmp p) (by simp [Op.operands]) 0,hz x (by simp [Op.operands])⟩
                obtain ⟨hsz,h⟩ := yD h;obtain ⟨y,hy,h⟩ := Option.bind_eq_some_iff.1 h;obtain ⟨v,hvv,h⟩ := Option.bind_eq_some_iff.1 h;obtain ⟨y',hy',h⟩ := Option.bind_eq_some_iff.1 h;refine ⟨s.cH.set β (some (Chunk.arr e u (xs.set n y') nn)),.undef,fun hq => absurd hq ha,fun z hz hev => ?_⟩
                obtain ⟨e1,e2⟩ := op z hev;unfold y2q;rw [if_neg ha];unfold y5u;rw [ho];dsimp only;rw [if_neg hfz,hl,e1,hv];dsimp only;rw [hz,hc];dsimp only;rw [if_pos hsz,e2,hy];simp only [Option.bind_some];rw [hvv];simp only [Option.bind_some];rw [hy'];simp only [Option.bind_some]
              | _ => cases h
          | _ => rw [hv] at h; cases h
    · cases h
theorem yDt {T : List (TypeId × TyI)} {τ : TypeId} {v : Value} {q : Nat} : (y46 T τ v).has q = false := by
  unfold y46;repeat' split
  all_goals rfl
theorem y9G {q : Nat} : ∀ (l : List (Nat × Ty × List Value)) (b : Nat),(y5P l b).has q = false
  | [],_ => rfl
  | p :: l,b => by
    unfold y5P;split
    · split <;> rfl
    · exact y9G l b
theorem yIV {T : List (TypeId × TyI)} {τ : TypeId} {q : Nat} {x : Operand} (h : y50 q s = true) : (y7 T τ s x).has q = false := by
  cases x with
  | tmp t =>
    show (s.get t).has q = false
    rw [St.get_def];rw [List.getD_eq_getElem?_getD];cases hs : s.slots[t]? with
    | none => rfl
    | some sv => exact (y4Y h).1 t sv hs
  | const v => exact yDt
  | global b => exact y9G _ b
  | func f => rfl
theorem y8A {s : St} : ∀ {l : List Operand},y0v s l = false → settleAll l s = s
  | [],_ => rfl
  | x :: l,h => by
    unfold y0v at h;rw [List.any_cons,Bool.or_eq_false_iff] at h;have ih := y8A (s := s) (l := l) h.2;cases x with
    | tmp t =>
      have h1 := h.1;dsimp only at h1;have : s.settle (s.get t) = s := by
        cases hv : s.get t <;> rw [hv] at h1 <;> first | rfl | cases h1
      show settleAll l (s.settle (s.get t)) = s
      rw [this]; exact ih
    | _ => exact ih
theorem yBD {T : List (TypeId × TyI)} {τ : TypeId} {v : Value} : s.settle (y46 T τ v) = s := by
  unfold y46;repeat' split
  all_goals rfl
theorem y8F : ∀ (l : List (Nat × Ty × List Value)) (b : Nat),s.settle (y5P l b) = s
  | [],_ => rfl
  | p :: l,b => by
    unfold y5P;split
    · split <;> rfl
    · exact y8F l b
theorem y82 {T : List (TypeId × TyI)} {τ : TypeId} {x : Operand} (h : y0v s [x] = false) : s.settle (y7 T τ s x) = s := by
  cases x with
  | tmp t =>
    unfold y0v at h;rw [List.any_cons,Bool.or_eq_false_iff] at h;have h1 := h.1;dsimp only at h1;show s.settle (s.get t) = s
    cases hv : s.get t <;> rw [hv] at h1 <;> first | rfl | cases h1
  | const v => exact yBD
  | global b => exact y8F _ b
  | func f => rfl
theorem y3n {T : List (TypeId × TyI)} {z : St} {l : List Operand} (h : ∀ x ∈ l,∀ τ,y7 T τ z x = y7 T τ s x) : y0v z l = y0v s l := by
  unfold y0v;induction l with
  | nil => rfl
  | cons x l ih =>
    rw [List.any_cons,List.any_cons,ih (fun y hy => h y (by simp [hy]))]
    congr 1
    cases x with
    | tmp t =>
      have : z.get t = s.get t := h (.tmp t) (by simp) 0
      simp only [this]
    | _ => rfl
theorem y2v {s1 : St} (h : newD g s o some = some s1) : ∃ (kill : Option Nat) (q : Nat) (e : TypeId) (u : Ty) (xs : List u.den) (nn fin : Bool),apAt g o.dst = some (kill,q) ∧ (∃ d,o.dst = some d ∧ d < s.slots.length ∧ exe s (d,kill,q) = false) ∧
    (∀ β,kill = some β → β < q ∧ (s.cH.getD β none).isSome = true ∧ ∃ x ∈ o.op.operands.toList,y7 g.T 0 s x = .own β) ∧
    s1 = (({ s with cH := (kl s.cH kill).set q (cq fin e u xs nn) } : St).put o.dst (vq fin q u xs nn)) ∧
    effX g s o some = some (({ s with cH := kl s.cH kill ++ [some (Chunk.arr e u xs nn)] } : St).put o.dst (.own s.cH.length)) ∧
    ∀ z : St,(∀ d,o.dst = some d → d < z.slots.length ∧ exe z (d,kill,q) = false) → (∀ β,kill = some β → z.cH.getD β none = s.cH.getD β none) → (∀ x ∈ o.op.operands.toList,∀ τ,y7 g.T τ z x = y7 g.T τ s x) →
      newD g z o some = some (({ z with cH := (kl z.cH kill).set q (cq fin e u xs nn) } : St).put o.dst (vq fin q u xs nn)) := by
  unfold newD at h;cases hap : apAt g o.dst with
  | none => rw [hap] at h; cases h
  | some kq =>
    obtain ⟨kill,q⟩ := kq;rw [hap] at h;dsimp only at h;obtain ⟨hf2,h⟩ := yD h;unfold y8a at hf2;have hf2 : ∃ d,o.dst = some d ∧ d < s.slots.length ∧ exe s (d,kill,q) = false := by
      cases hd : o.dst with
      | none => rw [hd] at hf2; cases hf2
      | some d =>
        rw [hd] at hf2;simp only [Slots.has_eq,Bool.and_eq_true,decide_eq_true_eq,Bool.not_eq_true'] at hf2;exact ⟨d,rfl,hf2.1,hf2.2⟩
    have nexe : ∀ {z : St},(∀ d,o.dst = some d → d < z.slots.length ∧ exe z (d,kill,q) = false) → y8a z o kill q = true := by
      intro z hz;unfold y8a;obtain ⟨d,hd,_⟩ := hf2;rw [hd];obtain ⟨z1,z2⟩ := hz d hd;dsimp only;rw [Slots.has_eq,decide_eq_true (show d < z.sl.toList.length from z1),z2]
      rfl
    cases kill with
    | none =>
      split at h
      · rename_i t n ps ho _;cases hl : yM g.T t with
        | none => rw [hl] at h; cases h
        | some i =>
          rw [hl] at h;dsimp only at h;split at h
          · rename_i u hty;split at h
            · cases h
            · rename_i hz;simp only [Bool.or_eq_true,not_or,Bool.not_eq_true] at hz;obtain ⟨hz1,hz2⟩ := hz;obtain ⟨y,hy,h⟩ := Option.bind_eq_some_iff.1 h;cases h;refine ⟨none,q,i.elem,u,y,!y8x g o,false,rfl,hf2,(fun β hβ => by cases hβ),rfl,?_,fun z z2 z3 z4 => ?_⟩
              · rw [show effX g s o some = effK g s o some by unfold effX y2X y9d; rw [ho]]
                unfold effK;rw [ho];dsimp only;rw [if_neg (by rw [yBe hz2]; simp),y8A hz2,hl]
                dsimp only;rw [hty];dsimp only;rw [if_neg (by rw [hz1]; simp),hy]
                rfl
              · unfold newD;rw [hap];dsimp only;rw [if_pos (nexe z2),ho];dsimp only;rw [hl];dsimp only;rw [hty];dsimp only;have hop : ∀ p ∈ ps.toList,∀ τ,y7 g.T τ z p.2 = y7 g.T τ s p.2 := fun p hp τ => z4 p.2 (by rw [ho]; simp [Op.operands]; exact ⟨p.1,by simpa using hp⟩) τ
                rw [y3n (s := s) (T := g.T) (fun x hx τ => by
                  obtain ⟨p,hp,rfl⟩ := List.mem_map.1 hx;exact hop p hp τ),y16 hop,hz1,hz2,hy]
                rfl
          · cases h
      · rename_i hk; cases hk
      · rename_i nf args ts ho _;split at h
        · rename_i q' x t hq ha hts;split at h
          · cases h
          · rename_i hset;simp only [Bool.not_eq_true] at hset;obtain ⟨ys,hy,h⟩ := Option.bind_eq_some_iff.1 h;have hle : List.length ys ≤ memMax := by
              by_cases hle : List.length ys ≤ memMax
              · exact hle
              · rw [decide_eq_false hle] at h; cases h
            rw [decide_eq_true hle,cond_true] at h;cases h;have hx : x ∈ o.op.operands.toList := by rw [ho]; simp [Op.operands,Call.operands]; right; rw [← Array.mem_toList_iff,ha]; simp
            refine ⟨none,q,q'.1,q'.2,ys,false,false,rfl,hf2,(fun β hβ => by cases hβ),rfl,?_,fun z z2 z3 z4 => ?_⟩
            · unfold effX;rw [hq];dsimp only;unfold ownK;rw [ho];dsimp only;rw [ha,hts];dsimp only;rw [y82 hset,hy];simp only [Option.bind_some];rw [decide_eq_true hle];rfl
            · unfold newD;rw [hap];dsimp only;rw [if_pos (nexe z2),ho];dsimp only;rw [hq,ha,hts];dsimp only;have e1 : y0v z [x] = y0v s [x] := y3n (T := g.T) (fun y hy τ => by simp at hy; subst hy; exact z4 _ hx τ)
              rw [e1,hset,z4 x hx t,hy];simp only [Bool.false_eq_true,if_false,Option.bind_some];rw [decide_eq_true hle];rfl
        · cases h
      · cases h
    | some β =>
      split at h
      · rename_i hk; cases hk
      · rename_i args ts β' ho hk;cases hk;split at h
        · rename_i b x t t' ha hts;split at h
          · cases h
          · rename_i hstr;simp only [Bool.or_eq_true,not_or,Bool.not_eq_true] at hstr;obtain ⟨hs1,hs2⟩ := hstr;have hb : b ∈ o.op.operands.toList := by rw [ho]; simp [Op.operands,Call.operands]; rw [← Array.mem_toList_iff,ha]; simp
            have hx : x ∈ o.op.operands.toList := by rw [ho]; simp [Op.operands,Call.operands]; rw [← Array.mem_toList_iff,ha]; simp
            split at h
            · rename_i i γ hl hv;obtain ⟨hg,h⟩ := yD h;obtain ⟨rfl,hlt⟩ := hg;split at h
              · rename_i e u xs nn hc;obtain ⟨hi,h⟩ := yD h;obtain ⟨ys,hy,h⟩ := Option.bind_eq_some_iff.1 h;have hle : xs.length + List.length ys ≤ memMax := by
                  by_cases hle : xs.length + List.length ys ≤ memMax
                  · exact hle
                  · rw [decide_eq_false hle] at h; cases h
                rw [decide_eq_true hle,cond_true] at h;cases h;refine ⟨some γ,q,e,u,xs ++ ys,nn,y8x g o,rfl,hf2,fun β hβ => ?_,rfl,?_,fun z z2 z3 z4 => ?_⟩
                · cases hβ;exact ⟨hlt,by rw [hc]; rfl,b,hb,hv⟩
                · rw [show effX g s o some = effK g s o some by unfold effX y2X y9d; rw [ho]]
                  unfold effK;rw [ho];dsimp only;rw [ha,hts];dsimp only;rw [if_neg (by rw [hs1]; simp),if_neg (by rw [hv,yHU hc]; simp),y82 hs2,hl,hv]
                  dsimp only;rw [hc];dsimp only;rw [if_pos hi,hy];simp only [Option.bind_some];rw [show decide (xs.length + List.length ys ≤ memMax) = true from decide_eq_true hle]
                  rfl
                · unfold newD;rw [hap];dsimp only;rw [if_pos (nexe z2),ho];dsimp only;rw [ha,hts];dsimp only;have e1 : y0v z [x] = y0v s [x] := y3n (T := g.T) (fun y hy τ => by simp at hy; subst hy; exact z4 _ hx τ)
                  rw [e1,hs1,hs2,hl,z4 b hb 0,hv];dsimp only;rw [if_neg (show ¬ ((false || false) = true) by simp),if_pos (show γ = γ ∧ γ < q from ⟨rfl,hlt⟩),z3 γ rfl,hc]
                  dsimp only;rw [if_pos hi,z4 x hx t',hy];simp only [Option.bind_some];rw [decide_eq_true hle];rfl
              · cases h
            · cases h
        · cases h
      · rename_i hk; cases hk
      · cases h
theorem y0K (cs : List (Option Chunk)) (k : Option Nat) : (kl cs k).length = cs.length := by cases k <;> simp [kl]
theorem yHi {cs : List (Option Chunk)} {k : Option Nat} {β : Nat} {ch : Chunk} (h : (kl cs k)[β]? = some (some ch)) : cs[β]? = some (some ch) := by
  cases k with
  | none => exact h
  | some γ =>
    unfold kl at h;by_cases hb : γ = β
    · subst hb;rw [List.getElem?_set] at h;split at h
      · split at h <;> cases h
      · exact h
    · rwa [List.getElem?_set_ne hb] at h
theorem yDu {cs : List (Option Chunk)} {k : Option Nat} {β : Nat} : (kl cs k).getD β none = if k = some β then none else cs.getD β none := by
  cases k with
  | none => simp [kl]
  | some γ =>
    unfold kl;rw [List.getD_eq_getElem?_getD,List.getD_eq_getElem?_getD,List.getElem?_set];by_cases hb : γ = β
    · subst hb;rw [if_pos rfl,if_pos rfl];split <;> rfl
    · rw [if_neg hb,if_neg (by simpa using hb)]
theorem yJL {l : List (Nat × Option Nat × Nat)} {t : Nat} {p : Nat × Option Nat × Nat} (h : l.find? (fun p => p.1 == t) = some p) : p ∈ l ∧ p.1 = t :=
  ⟨List.mem_of_find?_eq_some h,by have := List.find?_some h; simpa using this⟩
theorem y4Z {d : Option Nat} {kill : Option Nat} {q : Nat} (ha : apAt g d = some (kill,q)) : ∃ t,d = some t ∧ (t,kill,q) ∈ g.ap := by
  unfold apAt at ha;obtain ⟨t,ht,ha⟩ := Option.bind_eq_some_iff.1 ha;obtain ⟨p,hp,e⟩ := Option.map_eq_some_iff.1 ha;obtain ⟨h1,h2⟩ := yJL hp;refine ⟨t,ht,?_⟩;rw [← e,← h2];exact h1
theorem yCa {q d : Nat} {kill : Option Nat} (hf : y0M g s = true) (ha : apAt g (some d) = some (kill,q)) (hn : exe s (d,kill,q) = false) : q < s.cH.length ∧ (s.cH.getD q none).isSome = false ∧ y50 q s = true := by
  obtain ⟨t,ht,hm⟩ := y4Z ha;cases ht;have := List.all_eq_true.1 hf _ hm;simp only [hn,Bool.false_or,Bool.and_eq_true,decide_eq_true_eq] at this;obtain ⟨⟨h1,h2⟩,h3⟩ := this;refine ⟨h1,?_,h3⟩;cases hc : s.cH.getD q none with
  | none => rfl
  | some c => rw [hc] at h2; cases h2
theorem yIp {q : Nat} {v sv : SV} (h : sv.has q = false) : y1H q v sv = sv := by
  cases sv with
  | own γ =>
    have := y2m (β := γ) rfl h;show (if γ = q then v else SV.own γ) = _
    rw [if_neg this]
  | _ => rfl
theorem y1z {q : Nat} {v : SV} : ∀ {l : List SV},(∀ sv ∈ l,sv.has q = false) → l.map (y1H q v) = l
  | [],_ => rfl
  | x :: l,h => by rw [List.map_cons,yIp (h x (by simp)),y1z (fun y hy => h y (by simp [hy]))]
theorem yC6 {q : Nat} {v : SV} {ch : Chunk} (h : ch.has q = false) : ch.map (y1H q v) = ch := by
  cases ch with
  | box t cells => show Chunk.box t (cells.map (y1H q v)) = _; rw [y1z (y2k h)]
  | lp i info cells st => show Chunk.lp i info (cells.map (y1H q v)) st = _; rw [y1z (y2k h)]
  | rcd t cells => show Chunk.rcd t (cells.map (y1H q v)) = _; rw [y1z (y2k h)]
  | _ => rfl
theorem Rel.fin {C : List (Option Chunk)} {e : TypeId} {u : Ty} {xs : List u.den} {nn : Bool} {q d : Nat} {s0 : St} (h : Rel P A0 w0 ρ (({ s0 with cH := C.set q (some (Chunk.arr e u xs nn)) } : St).put (some d) (.own q)) a w) (hq : q < C.length)
    (hno : y50 q s0 = true) (hC : ∀ (β : Nat) (ch : Chunk),C[β]? = some (some ch) → ch.has q = false) : Rel P A0 w0 ρ (({ s0 with cH := C.set q none } : St).put (some d) (vq true q u xs nn)) a w := by
  obtain ⟨n1,n2,_⟩ := y4Y hno;have hf := h.freeze q;have e1 : (({ s0 with cH := C.set q (some (Chunk.arr e u xs nn)) } : St).put (some d) (.own q)).cH.getD q none = some (Chunk.arr e u xs nn) := by
    show (C.set q _).getD q none = _
    rw [List.getD_eq_getElem?_getD,List.getElem?_set_self hq];rfl
  have hsl : ∀ v : SV,(s0.slots.set d (.own q)).map (y1H q v) = s0.slots.set d v := by
    intro v;rw [List.map_set,y1z (fun sv hs => by obtain ⟨i,hi⟩ := List.mem_iff_getElem?.1 hs; exact n1 i sv hi)]
    show s0.slots.set d (if q = q then v else SV.own q) = _
    rw [if_pos rfl]
  have hkp : ∀ v : SV,s0.kept.map (y1H q v) = s0.kept := fun v => y1z (fun sv hs => by obtain ⟨i,hi⟩ := List.mem_iff_getElem?.1 hs; exact n2 i sv hi)
  have hch : ∀ v : SV,((C.set q (some (Chunk.arr e u xs nn))).set q none).map (Option.map (Chunk.map (y1H q v))) = C.set q none := by
    intro v;rw [List.set_set];apply List.ext_getElem?;intro n;rw [List.getElem?_map];cases hn : (C.set q none)[n]? with
    | none => rfl
    | some c =>
      cases c with
      | none => rfl
      | some ch =>
        have : C[n]? = some (some ch) := by
          by_cases hqn : q = n
          · subst hqn;rw [List.getElem?_set_self hq] at hn;cases hn
          · rwa [List.getElem?_set_ne hqn] at hn
        simp only [Option.map_some,yC6 (hC n ch this)]
  unfold St.freeze at hf;rw [e1] at hf;dsimp only at hf;have e2 : ∀ v : SV,(({ s0 with cH := C.set q (some (Chunk.arr e u xs nn)) } : St).put (some d) (.own q)).sub q (y1H q v) = ({ s0 with cH := C.set q none } : St).put (some d) v := by
    intro v;have e3 : (s0.sl.set d (.own q)).map (y1H q v) = s0.sl.set d v := Slots.ext_list (by rw [Slots.toList_map,Slots.toList_set,Slots.toList_set]; exact hsl v)
    show ({ sl := (s0.sl.set d (.own q)).map (y1H q v),cH := ((C.set q (some (Chunk.arr e u xs nn))).set q none).map (Option.map (Chunk.map (y1H q v))),kept := s0.kept.map (y1H q v),dep := s0.dep,nmk := s0.nmk,rnd := s0.rnd } : St) = { sl := s0.sl.set d v,cH := C.set q none,kept := s0.kept,dep := s0.dep,nmk := s0.nmk,rnd := s0.rnd }
    rw [e3,hkp,hch]
  rw [e2] at hf;exact hf
theorem yGl {R : Type} {K : St → Option R} {r : R} (hE : ∀ e ∈ g.E,FnOK P e) (hT : yl P g.T) (hf : y0M g s = true) (h : Rel P A0 w0 ρ s a w) (hk : newD g s o K = some r) : OpTo P w0.ro o a w (Goes P A0 w0 K r) := by
  rw [yEG] at hk;obtain ⟨s1,h1,h2⟩ := Option.bind_eq_some_iff.1 hk;obtain ⟨kill,q,e,u,xs,nn,fin,ha,hn,hkill,rfl,heff,_⟩ := y2v h1;obtain ⟨d,hd,_,hn⟩ := hn;rw [hd] at ha;obtain ⟨hq,hn,hno⟩ := yCa hf ha hn;have hX := y9Z hE hT h heff;intro next Q hnx
  refine hX next Q fun a' w' hg => hnx a' w' ?_
  obtain ⟨ρ',s',hR,hs'⟩ := hg;cases hs';rw [hd] at hR h2;have hM := Rel.moved (C := kl s.cH kill) h (y0K _ _) (fun β ch hc => yHi hc) (by rw [y0K]; exact hq) (by
    rw [yDu];split
    · rfl
    · exact hn) hno (by rw [y0K]; exact hR)
  cases fin with
  | false => exact ⟨_,_,hM,h2⟩
  | true => exact ⟨_,_,hM.fin (by rw [y0K]; exact hq) hno (fun β ch hc => (y4Y hno).2.2 β ch (yHi hc)),h2⟩
theorem yMC (h : g.ap = []) (sv : SV) : okD g o sv = true := by unfold okD; rw [h]; rfl
theorem yFv {R : Type} {K : SV → Option R} {r : R} (h : y7o g s o K = some r) : yc g (msk g s) o K = some r := by
  unfold y7o at h;split at h
  · cases h
  · exact h
theorem yDf (h : g.ap = []) : msk g s = s := by unfold msk; rw [h]; rfl
theorem y4D (h : g.ap = []) : y0M g s = true := by unfold y0M; rw [h]; rfl
theorem yHV : ∀ (l : List (Nat × Option Nat × Nat)) (cs : List (Option Chunk)),Ext (mskL l cs) cs
  | [],_,_,_,h => h
  | p :: l,cs,β,c,h => by
    have := yHV l _ β c h;rw [List.getD_eq_getElem?_getD,List.getElem?_set] at this;split at this
    · split at this <;> cases this
    · rw [← List.getD_eq_getElem?_getD,yDu] at this;split at this
      · cases this
      · exact this
theorem yCW {call : (R : Type) → y09 R} (hC : y5S P call) (hRd : y35 P call) (hT : yl P g.T) (hE : ∀ e ∈ g.E,FnOK P e) (h : Rel P A0 w0 ρ s a w) {dr : Bool} (hf : dr = true → y0M g s = true) (hk : y08 g (call R) dr s o K = some r) : OpTo P w0.ro o a w (Goes P A0 w0 K r) := by
  unfold y08 at hk;split at hk
  · split at hk
    · rename_i hdr;rcases y17 hk with ⟨hn,hk⟩ | ⟨hn,_,hk⟩
      · exact yGl hE hT (hf hdr) h hk
      · have hk : effK g s o K = some r := yGz hk;exact (y9o hE hT h hk).opTo (fun c hc => by simp [effK,hc] at hk)
    · exact y9Z hE hT h hk
  · dsimp only at hk;have hS : Rel P A0 w0 ρ (if dr = true then s else preK g o (settleAll (yDB o) s)) a w := by
      split
      · exact h
      · exact (Rel.settleAll _ h).preK g o
    generalize (if dr = true then s else preK g o (settleAll (yDB o) s)) = s1 at hk hS
    split at hk
    · rename_i f args ts ho;split at hk
      · cases hk
      · exact yDq hC hRd hE hS ho hk
    · split at hk
      · rw [y5e] at hk;obtain ⟨sv,h1,h2⟩ := Option.bind_eq_some_iff.1 hk;obtain ⟨_,h2⟩ := yD h2;have h1 := yFv h1;have h3 : yc g s1 o some = some sv := y8h (s := msk g s1) (cs' := s1.cH) (yHV g.ap s1.cH) h1;have h4 : yc g s1 o (fun sv => K (s1.put o.dst sv)) = some r := by rw [y56,h3]; exact h2
        exact ((y83 hE hT hS h4).eff hS (fun sv => rfl)).opTo (fun c hc => by simp [yc,hc] at h4)
      · exact ((y83 hE hT hS hk).eff hS (fun sv => rfl)).opTo (fun c hc => by simp [yc,hc] at hk)
noncomputable def y11 (g : G) (ta tr : Ty) (m : ta.den → Option tr.den) (s : St) (c : Call) (caps : St → List SV) : Option SV :=
  if tr.flat then (y1J g.E s.cH ta (y1x g.T s c.args.toList c.argTypes.toList ++ caps s)).bind fun x => (m x).bind fun y => some (yAE tr y)
  else (y1J g.E [] ta (y1x g.T s c.args.toList c.argTypes.toList ++ caps s)).bind fun x => (m x).bind fun y => some (yAE tr y)
noncomputable def yKL (g : G) (d : Option Nat) (s : St) (c : Call) (f : Operand) : Option SV :=
  match y7 g.T 0 s f with
  | .clo n _ => (match yG3 g d n with
    | some e => y11 g e.args e.rS e.m s c (y0q g.T f)
    | none => none)
  | .val (.func a b) m => y11 g a b m s c (fun _ => [])
  | _ => none
noncomputable def y2W (g : G) (s : St) (o : Oper) : Option SV :=
  if y1g g o then none else
  match o.op with
  | .call { callee := .value f,args,argTypes } => if g.ap.isEmpty then yKL g o.dst s { callee := .value f,args,argTypes } f else none
  | _ => y7o g s o some
noncomputable def yHy (g : G) (s : St) (o : Oper) : Option SV := (y2W g s o).bind fun sv => if okD g o sv then some sv else none
theorem y4g {ta tr : Ty} {m : ta.den → Option tr.den} {c : Call} {caps : St → List SV} {dst : Option Nat} :
    y0k g ta tr m s c caps true dst some = (y11 g ta tr m s c caps).map fun sv => s.put dst sv := by
  unfold y0k y11;simp only [Bool.true_or,Bool.and_true];split
  · cases y1J g.E s.cH ta (y1x g.T s c.args.toList c.argTypes.toList ++ caps s) with
    | none => rfl
    | some x =>
      simp only [Option.bind_some];cases m x <;> rfl
  · simp only [if_true];cases y1J g.E [] ta (y1x g.T s c.args.toList c.argTypes.toList ++ caps s) with
    | none => rfl
    | some x =>
      simp only [Option.bind_some];cases m x <;> rfl
theorem y9t {call : y09 St} (he : y1g g o = false) : y08 g call true s o some = (yHy g s o).map fun sv => s.put o.dst sv := by
  unfold y08 yHy y2W;rw [he];simp only [Bool.false_eq_true,if_false]
  · simp only [if_true];split
    · rename_i f args ts ho;simp only [ho];cases ha : g.ap.isEmpty with
      | false => rfl
      | true =>
        have ha' : g.ap = [] := List.isEmpty_iff.1 ha;simp only [Bool.not_true,Bool.and_false,Bool.false_eq_true,if_false,if_true,yMC ha'];rw [show ∀ x : Option SV,(x.bind fun sv => some sv) = x from fun x => by cases x <;> rfl]
        unfold yD7 yKL;generalize y7 g.T 0 s f = sv;cases sv with
        | clo n caps =>
          dsimp only;cases yG3 g o.dst n with
          | none => rfl
          | some e => exact y4g
        | val t m => cases t <;> first | rfl | exact y4g
        | _ => rfl
    · rename_i hno;split
      · rename_i f args ts ho;exact absurd ho (hno f args ts)
      · rw [y5e,Option.map_bind];congr 1
        funext sv
        show (if okD g o sv = true then some (s.put o.dst sv) else none) = Option.map _ (if okD g o sv = true then some sv else none)
        split <;> rfl
theorem y3y {ta tr : Ty} {m : ta.den → Option tr.den} {c : Call} {caps : St → List SV} (hc : s'.cH = s.cH) (h : ∀ x ∈ c.args.toList,∀ τ,y7 g.T τ s' x = y7 g.T τ s x) (hcaps : caps s' = caps s) :
    y11 g ta tr m s' c caps = y11 g ta tr m s c caps := by
  unfold y11;rw [y4p h,hcaps,hc]
theorem y4y (hm : mskL g.ap s'.cH = mskL g.ap s.cH) (h : ∀ x ∈ o.op.operands.toList,∀ τ,y7 g.T τ s' x = y7 g.T τ s x) : y2W g s' o = y2W g s o := by
  unfold y2W;split
  · rfl
  · split
    · rename_i f args ts ho;rw [ho] at h;split
      · rename_i ha;have ha' : g.ap = [] := List.isEmpty_iff.1 ha;have hc : s'.cH = s.cH := by rw [ha'] at hm; exact hm
        have hf : ∀ τ,y7 g.T τ s' f = y7 g.T τ s f := fun τ => h f (by simp [Op.operands,Call.operands]) τ
        have ha : ∀ x ∈ args.toList,∀ τ,y7 g.T τ s' x = y7 g.T τ s x := fun x hx τ => h x (by simp [Op.operands,Call.operands]; right; simpa using hx) τ
        unfold yKL;rw [hf 0];split
        · split
          · exact y3y hc ha (by unfold y0q; rw [hf 0])
          · rfl
        · exact y3y hc ha rfl
        · rfl
      · rfl
    · unfold y7o;have hfr : y1R g s' o = y1R g s o := by
        unfold y1R;cases ho : o.op with
        | field t x f => rw [ho] at h; simp only [h x (by simp [Op.operands])]
        | extract x f => rw [ho] at h; simp only [h x (by simp [Op.operands])]
        | _ => rfl
      rw [hfr];split
      · rfl
      · exact yD1 _ hm h
theorem yBo {cs' : List (Option Chunk)} (ha : g.ap = []) (hx : Ext s.cH cs') {sv : SV} (h : y2W g s o = some sv) : y2W g { s with cH := cs' } o = some sv := by
  have he : ∀ x τ,y7 g.T τ { s with cH := cs' } x = y7 g.T τ s x := fun x τ => by cases x <;> rfl
  unfold y2W at h ⊢;split at h
  · cases h
  · rename_i hf;rw [if_neg hf];split at h
    · rename_i f args ts ho;have ha2 : g.ap.isEmpty = true := List.isEmpty_iff.2 ha;rw [if_pos ha2] at h ⊢;have ct : ∀ {ta tr : Ty} {m : ta.den → Option tr.den} {c : Call} {caps : St → List SV},caps { s with cH := cs' } = caps s → y11 g ta tr m s c caps = some sv → y11 g ta tr m { s with cH := cs' } c caps = some sv := by
        intro ta tr m c caps hcaps h;unfold y11 at h ⊢;rw [hcaps,y4p (s' := { s with cH := cs' }) (s := s) (fun x _ τ => he x τ)]
        split at h
        · rename_i hfl;rw [if_pos hfl];obtain ⟨x,h1,h2⟩ := Option.bind_eq_some_iff.1 h;rw [y9V hx h1];exact h2
        · rename_i hfl;rw [if_neg hfl];exact h
      unfold yKL at h ⊢;rw [he];split at h
      · rename_i n caps hv;split at h
        · rename_i e hfe;exact ct (by unfold y0q; rw [he]) h
        · cases h
      · exact ct rfl h
      · cases h
    · unfold y7o at h ⊢;have hfr : y1R g { s with cH := cs' } o = y1R g s o := by
        unfold y1R;cases ho : o.op with
        | field t x f => simp only [he]
        | extract x f => simp only [he]
        | _ => rfl
      rw [hfr];split at h
      · cases h
      · rename_i hn;rw [if_neg hn];rw [yDf ha] at h ⊢;exact y8h hx h
theorem yG7 {cs' : List (Option Chunk)} (hx0 : Ext s.cH cs') (hx : Ext (mskL g.ap s.cH) (mskL g.ap cs')) {sv : SV} (h : y2W g s o = some sv) : y2W g { s with cH := cs' } o = some sv := by
  by_cases ha : g.ap = []
  · exact yBo ha hx0 h
  have he : ∀ x τ,y7 g.T τ { s with cH := cs' } x = y7 g.T τ s x := fun x τ => by cases x <;> rfl
  unfold y2W at h ⊢;split at h
  · cases h
  · rename_i hf;rw [if_neg hf];split at h
    · rename_i f args ts ho;rw [if_neg (fun h2 => ha (List.isEmpty_iff.1 h2))] at h
      cases h
    · unfold y7o at h ⊢;have hfr : y1R g { s with cH := cs' } o = y1R g s o := by
        unfold y1R;cases ho : o.op with
        | field t x f => simp only [he]
        | extract x f => simp only [he]
        | _ => rfl
      rw [hfr];split at h
      · cases h
      · rename_i hn;rw [if_neg hn];exact y8h (s := msk g s) (cs' := mskL g.ap cs') hx h
theorem yFg {C : List (Option Chunk)} (ha : g.ap = []) (hs : yGq g o = true) : y2W g { s with cH := C } o = y2W g s o := by
  have he : ∀ x τ,y7 g.T τ { s with cH := C } x = y7 g.T τ s x := fun x τ => by cases x <;> rfl
  unfold y2W y7o y1R;rw [yDf ha,yDf ha];split
  · rfl
  · unfold yGq yEZ yLN at hs;unfold yc;cases ho : o.op with
    | load t a =>
      rw [ho] at hs;have hv : g.vl = true := by simpa using hs
      simp only [he,hv,Bool.true_and];cases y7 g.T 0 s a with
      | val u x => cases yM g.T t with | none => rfl | some i => cases u <;> rfl
      | _ => rfl
    | fieldAddr t x f => simp only [he]
    | move x => exact congrArg some (he x _)
    | assign x => simp only [he]
    | pick c a b => simp only [he]
    | binOp op t x y z => simp only [he]
    | unOp op t x => simp only [he]
    | convert t u x => simp only [he]
    | field t x f =>
      simp only [he];cases y7 g.T 0 s x with
      | sR β => rfl
      | _ => cases yM g.T t <;> rfl
    | extract x n =>
      simp only [he];cases y7 g.T 0 s x <;> rfl
    | _ => first | (rw [ho] at hs; cases hs; done) | (rw [ho] at hs; done) | (rw [ho] at hs; simp at hs; done)
noncomputable def y1I (ops : Array Oper) (s : St) (o : Oper) : Option Bool :=
  match o.guard with
  | none => some true
  | some (j,want) => (y55 ops s j).map fun b => b == some want
theorem y6m (h : Rel P A0 w0 ρ s a w) {b : Bool} (hg : y1I ops s o = some b) : Region.wanted o (yielded ops a.tmps) = b := by
  unfold y1I at hg;unfold Region.wanted;split at hg
  · rename_i hgd;rw [hgd];cases hg; rfl
  · rename_i j want hgd;rw [hgd];rw [Option.map_eq_some_iff] at hg;obtain ⟨b',hb',rfl⟩ := hg;unfold y55 at hb';split at hb'
    · rename_i t ht;split at hb'
      · rename_i b2 hb2;cases hb';have := h.get t;rw [hb2] at this;have hv := y3L this;have hy : yielded ops a.tmps j = some b2 := by
          unfold yielded;rw [ht];simp only [Option.bind_some];simp only [Act.eval] at hv;rw [Array.getD_eq_getD_getElem?] at hv;cases hq : a.tmps[t]? with
          | none => rw [hq] at hv; cases hv
          | some v => rw [hq] at hv; simp at hv; subst hv; rfl
        simp only [hy]
      · rename_i hb2;cases hb';have := h.get t;rw [hb2] at this;have hv : a.eval (.tmp t) = undef := this;have hy : yielded ops a.tmps j = none := by
          unfold yielded;rw [ht];simp only [Option.bind_some];simp only [Act.eval] at hv;rw [Array.getD_eq_getD_getElem?] at hv;cases hq : a.tmps[t]? with
          | none => rfl
          | some v => rw [hq] at hv; simp at hv; subst hv; rfl
        simp only [hy]
      · cases hb'
    · cases hb'
theorem y6N {d i : Nat} {sv : SV} (h : d ≠ i) : (s.put (some d) sv).get i = s.get i := by
  rw [St.get_def,St.get_def,St.put_slots];simp only [List.getD_eq_getElem?_getD];rw [List.getElem?_set_ne h]
theorem yT (d : Option Nat) (sv : SV) : (s.put d sv).cH = s.cH := by cases d <;> rfl
theorem yGx {T : List (TypeId × TyI)} {τ : TypeId} {d : Option Nat} {sv : SV} {x : Operand} (h : ∀ t,d = some t → x ≠ .tmp t) : y7 T τ (s.put d sv) x = y7 T τ s x := by
  cases d with
  | none => rfl
  | some t =>
    cases x with
    | tmp k => exact y6N (fun e => h t rfl (by rw [e]))
    | _ => rfl
theorem y37 {d : Option Nat} {sv : SV} (h : ∀ t,d = some t → t ∉ o.looksAt ops) : ∀ x ∈ o.op.operands.toList,∀ τ,y7 g.T τ (s.put d sv) x = y7 g.T τ s x :=
  fun x hx τ => yGx fun t ht hxt => h t ht (by
    subst hxt;exact List.mem_append_left _ (List.mem_filterMap.2 ⟨.tmp t,by simpa using hx,rfl⟩))
theorem y1k {d : Option Nat} {sv : SV} (h : ∀ t,d = some t → t ∉ o.looksAt ops) : y2W g (s.put d sv) o = y2W g s o :=
  y4y (by rw [yT]) (y37 h)
theorem yd {d : Option Nat} {sv : SV} (h : ∀ t,d = some t → t ∉ o.looksAt ops) : y1I ops (s.put d sv) o = y1I ops s o := by
  cases d with
  | none => rfl
  | some t =>
    unfold y1I;cases hg : o.guard with
    | none => rfl
    | some gw =>
      obtain ⟨j,want⟩ := gw;have : y55 ops (s.put (some t) sv) j = y55 ops s j := by
        unfold y55;cases ht : (ops[j]?).bind (·.dst) with
        | none => rfl
        | some u =>
          have hne : t ≠ u := fun e => h t rfl (by subst e; simp [Oper.looksAt,hg,ht])
          simp only [y6N hne]
      simp only [this]
theorem y13 {d e : Option Nat} {x y : SV} (h : ∀ t,d = some t → e ≠ some t) : (s.put d x).put e y = (s.put e y).put d x := by
  cases d with
  | none => rfl
  | some t =>
    cases e with
    | none => rfl
    | some u =>
      have hne : t ≠ u := fun e => h t rfl (by rw [e])
      show ({ s with sl := (s.sl.set t x).set u y } : St) = { s with sl := (s.sl.set u y).set t x }
      rw [show (s.sl.set t x).set u y = (s.sl.set u y).set t x from Slots.ext_list (by simp only [Slots.toList_set]; exact List.set_comm _ _ hne)]
def sOp (g : G) (call : y09 St) (ops : Array Oper) (T : Nat → Bool) (i : Nat) (K : St → Prop) (s : St) : Prop :=
  match ops[i]? with
  | none => K s
  | some o => (T i = true → y0M g s = true) ∧ match y1I ops s o with
    | some true => ∃ s',y08 g call (T i) s o some = some s' ∧ K s'
    | some false => (T i = true → y1N g s o = true) ∧ K (s.put o.dst .gone)
    | none => False
def anyS (g : G) (call : y09 St) (md : Region.Mode) (ops : Array Oper) (T : Nat → Bool) (Q : St → Prop) : Nat → Array Bool → St → Prop
  | 0,listed,s => Region.ready md ops listed = [] ∧ Q s
  | fuel + 1,listed,s => (Region.ready md ops listed = [] → Q s) ∧ ∀ i ∈ Region.ready md ops listed,sOp g call ops T i (anyS g call md ops T Q fuel (listed.setIfInBounds i true)) s
theorem yK6 {call : y09 St} {T : Nat → Bool} {i : Nat} {K K' : St → Prop} (h : ∀ s,K s → K' s) (hh : sOp g call ops T i K s) : sOp g call ops T i K' s := by
  unfold sOp at *;split
  · rename_i ho; rw [ho] at hh; exact h _ hh
  · rename_i o ho;rw [ho] at hh;dsimp only at hh;obtain ⟨hf,hh⟩ := hh;refine ⟨hf,?_⟩;split
    · rename_i hg; rw [hg] at hh; obtain ⟨s',h1,h2⟩ := hh; exact ⟨s',h1,h _ h2⟩
    · rename_i hg; rw [hg] at hh; exact ⟨hh.1,h _ hh.2⟩
    · rename_i hg; rw [hg] at hh; exact hh
theorem y8J {call : (R : Type) → y09 R} (hC : y5S P call) (hRd : y35 P call) (hT : yl P g.T) (hE : ∀ e ∈ g.E,FnOK P e) {T : Nat → Bool} {i : Nat} {K : St → Prop} {K' : Act → World → Prop} {Q' : Exit → Act → World → Prop} (h : Rel P A0 w0 ρ s a w)
    (hK : ∀ ρ s a w,Rel P A0 w0 ρ s a w → K s → K' a w) (hh : sOp g (call St) ops T i K s) : wpOpIn (y3A w0.ro) 0 P ops Q' i K' a w := by
  unfold sOp at hh;unfold wpOpIn;split
  · rename_i ho; rw [ho] at hh; exact hK _ _ _ _ h hh
  · rename_i o ho;rw [ho] at hh;dsimp only at hh;obtain ⟨hf,hh⟩ := hh;split at hh
    · rename_i hg;rw [if_pos (y6m h hg)];obtain ⟨s',h1,h2⟩ := hh;refine (yCW hC hRd hT hE h hf h1 K' Q' ?_);rintro a' w' ⟨ρ',s2,hR,h3⟩
      cases h3;exact hK _ _ _ _ hR h2
    · rename_i hg;rw [y6m h hg];simp only [Bool.false_eq_true,if_false];exact ⟨fun _ _ => trivial,hK _ _ _ _ (h.put o.dst (sv := .gone) (v := undef) trivial rfl) hh.2⟩
    · exact hh.elim
theorem y59 {call : (R : Type) → y09 R} (hC : y5S P call) (hRd : y35 P call) (hT : yl P g.T) (hE : ∀ e ∈ g.E,FnOK P e) {T : Nat → Bool} {Q : St → Prop} {Q' : Exit → Act → World → Prop} (hQ : ∀ ρ s a w,Rel P A0 w0 ρ s a w → Q s → Q' .normal a w) :
    ∀ (fuel : Nat) (listed : Array Bool) {ρ : Places} {s : St} {a : Act} {w : World},Rel P A0 w0 ρ s a w → anyS g (call St) md ops T Q fuel listed s → wpAnyIn (y3A w0.ro) 0 P md ops Q' fuel listed a w
  | 0,_,_,_,_,_,h,hh => ⟨hh.1,hQ _ _ _ _ h hh.2⟩
  | fuel + 1,_,_,_,_,_,h,hh => ⟨fun h0 => hQ _ _ _ _ h (hh.1 h0),fun i hi => y8J hC hRd hT hE h (fun _ _ _ _ hR hK => y59 hC hRd hT hE hQ fuel _ hR hK) (hh.2 i hi)⟩
def Runs (g : G) (call : y09 St) (ops : Array Oper) (o : Oper) (s s1 : St) : Prop :=
  y0M g s = true ∧ ((y1I ops s o = some true ∧ y08 g call true s o some = some s1) ∨ (y1I ops s o = some false ∧ y1N g s o = true ∧ s1 = s.put o.dst .gone))
theorem Runs.sOp {call : y09 St} {T : Nat → Bool} {i : Nat} {s1 : St} (hi : ops[i]? = some o) (hTi : T i = true) (h : Runs g call ops o s s1) {K : St → Prop} (hK : K s1) : sOp g call ops T i K s := by
  unfold Vx.sOp;rw [hi];dsimp only;obtain ⟨hf,h⟩ := h;refine ⟨fun _ => hf,?_⟩
  rcases h with ⟨h1,h2⟩ | ⟨h1,h0,rfl⟩
  · rw [h1,hTi]; exact ⟨s1,h2,hK⟩
  · rw [h1]; exact ⟨fun _ => h0,hK⟩
theorem y8W {call : y09 St} {T : Nat → Bool} {i : Nat} {K : St → Prop} (hi : ops[i]? = some o) (hTi : T i = true) (h : sOp g call ops T i K s) : ∃ s1,Runs g call ops o s s1 ∧ K s1 := by
  unfold sOp at h;rw [hi] at h;dsimp only at h;obtain ⟨hf,h⟩ := h;split at h
  · rename_i hg;obtain ⟨s1,h1,h2⟩ := h;rw [hTi] at h1;exact ⟨s1,⟨hf hTi,.inl ⟨hg,h1⟩⟩,h2⟩
  · rename_i hg;exact ⟨_,⟨hf hTi,.inr ⟨hg,h.1 hTi,rfl⟩⟩,h.2⟩
  · exact h.elim
def yDA (g : G) (ops : Array Oper) (o : Oper) (sv : SV) (s : St) : Prop :=
  (y1I ops s o = some true ∧ yHy g s o = some sv) ∨ (y1I ops s o = some false ∧ okD g o .gone = true ∧ sv = .gone)
theorem y0L {sv : SV} : yHy g s o = some sv ↔ y2W g s o = some sv ∧ okD g o sv = true := by
  unfold yHy;rw [Option.bind_eq_some_iff];constructor
  · rintro ⟨x,h1,h2⟩
    obtain ⟨h3,h4⟩ := yD h2;cases h4;exact ⟨h1,h3⟩
  · rintro ⟨h1,h2⟩
    exact ⟨sv,h1,by rw [if_pos h2]⟩
omit [GT] in
theorem y1K {sv : SV} : okD g o sv = true ↔ ∀ p ∈ g.ap,sv.has p.2.2 = false ∧ o.dst ≠ some p.1 := by
  unfold okD;rw [List.all_eq_true];simp only [Bool.and_eq_true,Bool.not_eq_true',bne_iff_ne]
theorem y7s {d : Option Nat} (h : apAt g d = none) : ∀ p ∈ g.ap,d ≠ some p.1 := by
  intro p hp hd;subst hd;unfold apAt at h;simp only [Option.bind_some,Option.map_eq_none_iff,List.find?_eq_none] at h;exact h p hp (by simp)
theorem yG6 (he : y1g g o = false) : y1N g s o = true ↔ okD g o .gone = true := by
  unfold y1N;rw [y1K,Bool.or_eq_true];constructor
  · rintro (h | h)
    · have h := List.isEmpty_iff.1 h;exact fun p hp => by rw [h] at hp; cases hp
    · refine fun p hp => ⟨rfl,fun hd => ?_⟩
      cases ha : apAt g o.dst with
      | none => exact y7s ha p hp hd
      | some q => rw [ha,he] at h; simp at h
  · intro h2;refine .inr ?_
    cases ha : apAt g o.dst with
    | none => rfl
    | some q =>
      obtain ⟨kill,r⟩ := q;obtain ⟨t,ht,hm⟩ := y4Z ha;exact absurd ht (h2 _ hm).2
theorem y1L {call : y09 St} (he : y1g g o = false) {s1 : St} : Runs g call ops o s s1 ↔ y0M g s = true ∧ ∃ sv,yDA g ops o sv s ∧ s1 = s.put o.dst sv := by
  unfold Runs yDA;rw [y9t he,yG6 he];constructor
  · rintro ⟨hf,⟨h1,h2⟩ | ⟨h1,h0,rfl⟩⟩
    · rw [Option.map_eq_some_iff] at h2;obtain ⟨sv,h3,rfl⟩ := h2;exact ⟨hf,sv,.inl ⟨h1,h3⟩,rfl⟩
    · exact ⟨hf,.gone,.inr ⟨h1,h0,rfl⟩,rfl⟩
  · rintro ⟨hf,sv,⟨h1,h2⟩ | ⟨h1,h0,rfl⟩,rfl⟩
    · exact ⟨hf,.inl ⟨h1,by rw [h2]; rfl⟩⟩
    · exact ⟨hf,.inr ⟨h1,h0,rfl⟩⟩
theorem y4M {sv : SV} (h : yDA g ops o sv s) : ∀ p ∈ g.ap,sv.has p.2.2 = false ∧ o.dst ≠ some p.1 := by
  rcases h with ⟨_,h⟩ | ⟨_,h,rfl⟩
  · exact y1K.1 (y0L.1 h).2
  · exact y1K.1 h
theorem y43 {q : Nat} {d : Option Nat} {sv : SV} (h : y50 q s = true) (hs : sv.has q = false) : y50 q (s.put d sv) = true := by
  cases d with
  | none => exact h
  | some t =>
    unfold y50 at h ⊢;simp only [Bool.and_eq_true] at h ⊢;refine ⟨⟨?_,h.1.2⟩,h.2⟩;refine List.all_eq_true.2 fun x hx => ?_
    rw [St.put_slots] at hx;rcases List.mem_or_eq_of_mem_set hx with hx | rfl
    · exact List.all_eq_true.1 h.1.1 x hx
    · rw [hs]; rfl
theorem yBb {d : Nat} {sv : SV} (h : d < s.slots.length) : (s.put (some d) sv).get d = sv := by
  rw [St.get_def,St.put_slots];simp only [List.getD_eq_getElem?_getD];rw [List.getElem?_set_self h];rfl
theorem y0w (d : Option Nat) (sv : SV) : (s.put d sv).slots.length = s.slots.length := by cases d <;> simp [St.put_slots,St.put_none]
theorem y0X {p : Nat × Option Nat × Nat} {d : Option Nat} {sv : SV} (h : d ≠ some p.1) : exe (s.put d sv) p = exe s p := by
  unfold exe;rw [Slots.has_eq,Slots.has_eq,show (s.put d sv).sl.toList.length = s.sl.toList.length from y0w d sv]
  congr 1
  cases d with
  | none => rfl
  | some t =>
    have : (s.put (some t) sv).get p.1 = s.get p.1 := y6N (fun e => h (by rw [e]))
    rw [this]
theorem yFt {p : Nat × Option Nat × Nat} {C : List (Option Chunk)} : exe ({ s with cH := C } : St) p = exe s p := rfl
theorem y2u {d : Option Nat} {sv : SV} (h : y0M g s = true) (hs : ∀ p ∈ g.ap,sv.has p.2.2 = false ∧ d ≠ some p.1) : y0M g (s.put d sv) = true := by
  refine List.all_eq_true.2 fun p hp => ?_
  have := List.all_eq_true.1 h p hp;rw [yT,y0X (hs p hp).2];simp only [Bool.or_eq_true,Bool.and_eq_true] at this ⊢;rcases this with h1 | ⟨h1,h2⟩
  · exact .inl h1
  · exact .inr ⟨h1,y43 h2 (hs p hp).1⟩
theorem yBI {l : List (Nat × Option Nat × Nat)} (h : (l.map (·.1)).Nodup) {p q : Nat × Option Nat × Nat} (hp : p ∈ l) (hq : q ∈ l) (e : p.1 = q.1) : p = q := by
  induction l with
  | nil => cases hp
  | cons x l ih =>
    rw [List.map_cons,List.nodup_cons] at h;rcases List.mem_cons.1 hp with e1 | h1 <;> rcases List.mem_cons.1 hq with e2 | h2
    · rw [e1,e2]
    · exact absurd (List.mem_map.2 ⟨q,h2,by rw [← e,e1]⟩) h.1
    · exact absurd (List.mem_map.2 ⟨p,h1,by rw [e,e2]⟩) h.1
    · exact ih h.2 h1 h2
theorem yIf {l : List (Nat × Option Nat × Nat)} (h : (l.map (·.2.2)).Nodup) {p q : Nat × Option Nat × Nat} (hp : p ∈ l) (hq : q ∈ l) (e : p.2.2 = q.2.2) : p = q := by
  induction l with
  | nil => cases hp
  | cons x l ih =>
    rw [List.map_cons,List.nodup_cons] at h;rcases List.mem_cons.1 hp with e1 | h1 <;> rcases List.mem_cons.1 hq with e2 | h2
    · rw [e1,e2]
    · exact absurd (List.mem_map.2 ⟨q,h2,by rw [← e,e1]⟩) h.1
    · exact absurd (List.mem_map.2 ⟨p,h1,by rw [e,e2]⟩) h.1
    · exact ih h.2 h1 h2
theorem y4Q {kill : Option Nat} {q : Nat} {e : TypeId} {u : Ty} {xs : List u.den} {nn fin : Bool} {d : Nat} (h : y0M g s = true) (hn1 : (g.ap.map (·.1)).Nodup) (hn2 : (g.ap.map (·.2.2)).Nodup) (ha : apAt g (some d) = some (kill,q)) (hd : d < s.slots.length)
    (hx : exe s (d,kill,q) = false) : y0M g (({ s with cH := (kl s.cH kill).set q (cq fin e u xs nn) } : St).put (some d) (vq fin q u xs nn)) = true := by
  obtain ⟨t,ht,hm⟩ := y4Z ha;cases ht;have refs : ∀ r : Nat,(q ≠ r ∨ fin = true) → y50 r s = true → y50 r (({ s with cH := (kl s.cH kill).set q (cq fin e u xs nn) } : St).put (some d) (vq fin q u xs nn)) = true := by
    intro r hr h2;refine y43 ?_ (by
      unfold vq;cases fin with
      | true => cases nn <;> rfl
      | false => simp only [Bool.false_eq_true,or_false] at hr; simp [SV.has,SV.names]; exact fun hh => hr hh.symm)
    unfold y50 at h2 ⊢;simp only [Bool.and_eq_true] at h2 ⊢;refine ⟨h2.1,List.all_eq_true.2 fun c hc => ?_⟩
    rcases List.mem_or_eq_of_mem_set hc with hc | rfl
    · cases c with
      | none => rfl
      | some ch =>
        obtain ⟨i,hi⟩ := List.mem_iff_getElem?.1 hc;exact List.all_eq_true.1 h2.2 _ (List.mem_of_getElem? (yHi hi))
    · cases fin <;> rfl
  refine List.all_eq_true.2 fun p hp => ?_
  have := List.all_eq_true.1 h p hp;rw [yT];by_cases hpd : p.1 = d
  · have hpe : p = (d,kill,q) := yBI hn1 hp hm hpd;subst hpe;cases fin with
    | false =>
      have : exe (({ s with cH := (kl s.cH kill).set q (cq false e u xs nn) } : St).put (some d) (vq false q u xs nn)) (d,kill,q) = true := by
        unfold exe;rw [Slots.has_eq,show (({ s with cH := (kl s.cH kill).set q (cq false e u xs nn) } : St).put (some d) (vq false q u xs nn)).sl.toList.length = s.slots.length from y0w _ _]
        dsimp only;rw [yBb (by exact hd),decide_eq_true (show d < s.slots.length from hd)]
        simp [vq]
      rw [this];rfl
    | true =>
      simp only [hx,Bool.false_or,Bool.and_eq_true,decide_eq_true_eq] at this;obtain ⟨⟨h1,h3⟩,h2⟩ := this;simp only [Bool.or_eq_true,Bool.and_eq_true,decide_eq_true_eq];refine .inr ⟨⟨by rw [List.length_set,y0K]; exact h1,?_⟩,refs q (.inr rfl) h2⟩
      rw [List.getD_eq_getElem?_getD,List.getElem?_set_self (by rw [y0K]; exact h1)]
      rfl
  · have hpq : p.2.2 ≠ q := fun hh => hpd (by rw [yIf hn2 hp hm hh])
    rw [y0X (fun hh => hpd (by simpa using hh.symm))]
    simp only [Bool.or_eq_true,Bool.and_eq_true,decide_eq_true_eq] at this ⊢;rcases this with h1 | ⟨⟨h1,h3⟩,h2⟩
    · exact .inl h1
    · refine .inr ⟨⟨by rw [List.length_set,y0K]; exact h1,?_⟩,refs p.2.2 (.inl (Ne.symm hpq)) h2⟩
      rw [List.getD_eq_getElem?_getD,List.getElem?_set_ne (Ne.symm hpq),← List.getD_eq_getElem?_getD,yDu];split
      · rfl
      · exact h3
theorem y1X (hn1 : (g.ap.map (·.1)).Nodup) (hf : y0M g s = true) (h : y1N g s o = true) : y0M g (s.put o.dst .gone) = true := by
  unfold y1N at h;rw [Bool.or_eq_true] at h;rcases h with h | h
  · exact y4D (List.isEmpty_iff.1 h)
  cases ha : apAt g o.dst with
  | none => exact y2u hf fun p hp => ⟨rfl,y7s ha p hp⟩
  | some q =>
    obtain ⟨kill,r⟩ := q;obtain ⟨d,hd,hm⟩ := y4Z ha;rw [ha] at h;simp only [Bool.and_eq_true] at h;have h4 := h.2;unfold y8a at h4;rw [hd] at h4;simp only [Bool.and_eq_true,Bool.not_eq_true'] at h4;obtain ⟨_,hx⟩ := h4;rw [hd];refine List.all_eq_true.2 fun p hp => ?_
    have := List.all_eq_true.1 hf p hp;rw [yT];by_cases hpd : p.1 = d
    · have hpe : p = (d,kill,r) := yBI hn1 hp hm hpd;subst hpe;rw [hx] at this;simp only [Bool.false_or,Bool.and_eq_true] at this;simp only [Bool.or_eq_true,Bool.and_eq_true];exact .inr ⟨this.1,y43 this.2 rfl⟩
    · rw [y0X (fun hh => hpd (by simpa using hh.symm))]
      simp only [Bool.or_eq_true,Bool.and_eq_true] at this ⊢;rcases this with h1 | ⟨h1,h2⟩
      · exact .inl h1
      · exact .inr ⟨h1,y43 h2 rfl⟩
theorem y2S {s' : St} (h : y1N g s' o = true) (hl : s.slots.length = s'.slots.length) (hx : ∀ (d : Nat) (kill : Option Nat) (r : Nat),o.dst = some d → exe s (d,kill,r) = exe s' (d,kill,r)) : y1N g s o = true := by
  unfold y1N at h ⊢;rw [Bool.or_eq_true] at h ⊢;rcases h with h | h
  · exact .inl h
  refine .inr ?_
  cases ha : apAt g o.dst with
  | none => rfl
  | some q =>
    rw [ha] at h;dsimp only at h ⊢;rw [Bool.and_eq_true] at h ⊢;refine ⟨h.1,?_⟩;have h4 := h.2;unfold y8a at h4 ⊢;cases hd : o.dst with
    | none => rw [hd] at h4; exact h4
    | some d =>
      rw [hd] at h4;dsimp only at h4 ⊢;rw [Slots.has_eq,show s.sl.toList.length = s'.sl.toList.length from hl,hx d _ _ hd,← Slots.has_eq]
      exact h4
theorem y2U {ch : Chunk} {d : Option Nat} (h : y0M g s = true) (hch : ∀ r,ch.has r = false) (hd : apAt g d = none) : y0M g (({ s with cH := s.cH ++ [some ch] } : St).put d (.bP s.cH.length 0)) = true := by
  refine List.all_eq_true.2 fun p hp => ?_
  have := List.all_eq_true.1 h p hp;have hdp : d ≠ some p.1 := y7s hd p hp;rw [yT,y0X (s := { s with cH := s.cH ++ [some ch] }) hdp,yFt]
  simp only [Bool.or_eq_true,Bool.and_eq_true,decide_eq_true_eq] at this ⊢;rcases this with h1 | ⟨⟨h1,h2⟩,h3⟩
  · exact .inl h1
  · refine .inr ⟨⟨by simp; omega,?_⟩,y43 ?_ ?_⟩
    · rw [List.getD_eq_getElem?_getD,List.getElem?_append_left h1,← List.getD_eq_getElem?_getD];exact h2
    · unfold y50 at h3 ⊢;simp only [Bool.and_eq_true] at h3 ⊢;refine ⟨h3.1,?_⟩;show (s.cH ++ [some ch]).all _ = true
      rw [List.all_append,h3.2];simp [hch]
    · show [s.cH.length].contains p.2.2 = false
      have : p.2.2 ≠ s.cH.length := by omega
      simpa using this
theorem yIq (d : Option Nat) (sv : SV) (C : List (Option Chunk)) : ({ s.put d sv with cH := C } : St) = ({ s with cH := C } : St).put d sv := by cases d <;> rfl
theorem y8P {call : y09 St} {s' : St} (hn1 : (g.ap.map (·.1)).Nodup) (hn2 : (g.ap.map (·.2.2)).Nodup) (hf : y0M g s = true) (h : y08 g call true s o some = some s') : y0M g s' = true := by
  cases he : y1g g o with
  | false =>
    rw [y9t he,Option.map_eq_some_iff] at h;obtain ⟨sv,h,rfl⟩ := h;exact y2u hf (y1K.1 (y0L.1 h).2)
  | true =>
    unfold y08 at h;rw [he] at h;simp only [if_true] at h;rcases y17 h with ⟨_,h⟩ | ⟨_,hemp | hal,h⟩
    · obtain ⟨kill,q,e,u,xs,nn,fin,ha,⟨d,hd,hdl,hx⟩,_,rfl,_,_⟩ := y2v h;rw [hd] at ha ⊢;exact y4Q hf hn1 hn2 ha hdl hx
    · exact y4D (List.isEmpty_iff.1 hemp)
    · obtain ⟨ch,h1,h2,h3⟩ := y3B hal h;rw [h3 s] at h;cases h;exact y2U hf h1 h2
theorem y0C.no {n r : Nat} (hr : n ≤ r) : ∀ {cs : List Cap},y0C n cs → (cs.filterMap fun | .box β => some β | _ => none).contains r = false
  | [],_ => rfl
  | .box β :: cs,h => by
    have h1 : β < n := h.1;have h2 := y0C.no hr h.2;rw [List.filterMap_cons];simp only [List.contains_cons,h2,Bool.or_false];simp; omega
  | .val _ _ :: cs,h => by
    rw [List.filterMap_cons];exact y0C.no (cs := cs) hr h
theorem SV.inn_no {n r : Nat} (hr : n ≤ r) : ∀ {sv : SV},sv.inn n → sv.has r = false := by
  intro sv h;cases sv with
  | clo f caps => exact y0C.no hr h
  | bP β _ => simp only [SV.inn] at h; simp [SV.has,SV.names]; omega
  | own β => simp only [SV.inn] at h; simp [SV.has,SV.names]; omega
  | eP β _ _ _ => simp only [SV.inn] at h; simp [SV.has,SV.names]; omega
  | mO β => simp only [SV.inn] at h; simp [SV.has,SV.names]; omega
  | yld β => simp only [SV.inn] at h; simp [SV.has,SV.names]; omega
  | mP β _ => simp only [SV.inn] at h; simp [SV.has,SV.names]; omega
  | oS β _ _ => simp only [SV.inn] at h; simp [SV.has,SV.names]; omega
  | sR β => simp only [SV.inn] at h; simp [SV.has,SV.names]; omega
  | nO β _ => simp only [SV.inn] at h; simp [SV.has,SV.names]; omega
  | nP β _ _ _ _ => simp only [SV.inn] at h; simp [SV.has,SV.names]; omega
  | meth f β => simp only [SV.inn] at h; simp [SV.has,SV.names]; omega
  | _ => rfl
theorem Chunk.inn_no {n r : Nat} (hr : n ≤ r) {ch : Chunk} (h : ch.inn n) : ch.has r = false := by
  cases ch with
  | box t cells => exact List.any_eq_false.2 fun sv hs => by rw [SV.inn_no hr (h sv hs)]; simp
  | lp i info cells st => exact List.any_eq_false.2 fun sv hs => by rw [SV.inn_no hr (h sv hs)]; simp
  | rcd t cells => exact List.any_eq_false.2 fun sv hs => by rw [SV.inn_no hr (h sv hs)]; simp
  | mps k e u es hole =>
    cases hole with
    | none => rfl
    | some q =>
      have := h q rfl;simp only [Chunk.has,beq_eq_false_iff_ne];omega
  | _ => rfl
theorem yGa (h : Rel P A0 w0 ρ s a w) (ha : ∀ p ∈ g.ap,s.cH.length ≤ p.2.2 ∧ p.2.2 < s.cH.length + g.ap.length) : y0M g (s.pad g.ap.length) = true := by
  refine List.all_eq_true.2 fun p hp => ?_
  obtain ⟨h1,h2⟩ := ha p hp;rw [Bool.or_eq_true];refine .inr ?_
  simp only [Bool.and_eq_true,decide_eq_true_eq];refine ⟨⟨by unfold St.pad; simp; omega,?_⟩,?_⟩
  · unfold St.pad;dsimp only;rw [List.getD_eq_getElem?_getD,List.getElem?_append_right h1,List.getElem?_replicate];split <;> rfl
  · unfold y50;simp only [Bool.and_eq_true];refine ⟨⟨List.all_eq_true.2 fun sv hs => ?_,List.all_eq_true.2 fun sv hs => ?_⟩,List.all_eq_true.2 fun c hc => ?_⟩
    · obtain ⟨i,hi⟩ := List.mem_iff_getElem?.1 hs;rw [SV.inn_no h1 (h.names i sv hi)]; rfl
    · obtain ⟨i,hi⟩ := List.mem_iff_getElem?.1 hs;rw [SV.inn_no h1 (h.kN i sv hi)]; rfl
    · cases c with
      | none => rfl
      | some ch =>
        obtain ⟨i,hi⟩ := List.mem_iff_getElem?.1 hc;dsimp only;rw [Chunk.inn_no h1 (h.cN i ch (y3X.1 hi))];rfl
theorem y9R {acc : List Nat} {i : Nat} : ∀ (l : List Edge) (s : Nat),Nat.testBit (l.foldl (fun s e => if Region.binds md e then (s ||| 2 ^ e.on) ||| acc.getD e.on 0 else s) s) i = true →
    Nat.testBit s i = true ∨ ∃ e ∈ l,Region.binds md e = true ∧ (e.on = i ∨ Nat.testBit (acc.getD e.on 0) i = true)
  | [],s,h => .inl h
  | e :: l,s,h => by
    rw [List.foldl_cons] at h;rcases y9R l _ h with h1 | ⟨e',h1,h2⟩
    · split at h1
      · rename_i hb;simp only [Nat.testBit_or,Bool.or_eq_true] at h1;rcases h1 with (h1 | h1) | h1
        · exact .inl h1
        · refine .inr ⟨e,List.mem_cons_self ..,hb,.inl ?_⟩;rw [Nat.testBit_two_pow] at h1;simpa using h1
        · exact .inr ⟨e,List.mem_cons_self ..,hb,.inr h1⟩
      · exact .inl h1
    · exact .inr ⟨e',List.mem_cons_of_mem _ h1,h2⟩
def y4u (md : Region.Mode) (ops : List Oper) (ms : List Nat) : Prop :=
  ∀ j i,y2e ms j i = true → ∃ o,ops[j]? = some o ∧ ∃ e ∈ o.after,Region.binds md e = true ∧ (e.on = i ∨ (e.on < j ∧ y2e ms e.on i = true))
theorem yFA : ∀ (l pre : List Oper) (acc : List Nat),acc.length = pre.length → y4u md pre acc → y4u md (pre ++ l) (yJ9 md l acc)
  | [],pre,acc,_,h => by rw [List.append_nil]; exact h
  | o :: l,pre,acc,hl,h => by
    have := yFA l (pre ++ [o]) (acc ++ [yEk md acc o.after.toList]) (by simp [hl]) (fun j i hw => by
      have old : ∀ p,p < acc.length → (acc ++ [yEk md acc o.after.toList]).getD p 0 = acc.getD p 0 := fun p hp => by
        rw [List.getD_eq_getElem?_getD,List.getD_eq_getElem?_getD,List.getElem?_append_left hp]
      rcases Nat.lt_trichotomy j acc.length with hj | hj | hj
      · unfold y2e at hw;rw [old j hj] at hw;obtain ⟨q,h1,e,h2,h3,h4⟩ := h j i hw;refine ⟨q,by rw [List.getElem?_append_left (by omega)]; exact h1,e,h2,h3,?_⟩
        rcases h4 with h4 | ⟨h4,h5⟩
        · exact .inl h4
        · refine .inr ⟨h4,?_⟩;unfold y2e;rw [old _ (by omega)]
          exact h5
      · unfold y2e at hw;rw [List.getD_eq_getElem?_getD,hj,List.getElem?_append_right (Nat.le_refl _)] at hw;simp only [Nat.sub_self,List.getElem?_cons_zero,Option.getD_some] at hw;unfold yEk at hw;rcases y9R _ _ hw with h1 | ⟨e,h1,h2,h3⟩
        · simp at h1
        · refine ⟨o,by rw [List.getElem?_append_right (by omega)]; simp [hj,hl],e,by simpa using h1,h2,?_⟩
          rcases h3 with h3 | h3
          · exact .inl h3
          · rcases Nat.lt_or_ge e.on acc.length with h4 | h4
            · refine .inr ⟨by omega,?_⟩
              unfold y2e;rw [old _ h4];exact h3
            · rw [List.getD_eq_getElem?_getD,List.getElem?_eq_none h4] at h3;simp at h3
      · unfold y2e at hw;rw [List.getD_eq_getElem?_getD,List.getElem?_eq_none (by simp; omega)] at hw
        simp at hw)
    rw [List.append_assoc] at this;exact this
def y7n (md : Region.Mode) (ops : Array Oper) (listed : Array Bool) : Prop :=
  ∀ p o,ops[p]? = some o → listed.getD p false = true → ∀ e ∈ o.after,Region.binds md e = true → listed.getD e.on false = true
theorem y7n.step {listed : Array Bool} (h : y7n md ops listed) {j : Nat} (hj : j ∈ Region.ready md ops listed) : y7n md ops (listed.setIfInBounds j true) := by
  intro p o hp hl e he hb;by_cases hpj : j = p
  · subst hpj;obtain ⟨_,o',ho',hall⟩ := mem_ready.1 hj;rw [hp] at ho';cases ho';exact getD_set_true (hall e he hb)
  · refine getD_set_true (h p o hp ?_ e he hb);rwa [getD_set_ne false hpj] at hl
theorem y8p {ms : List Nat} (hm : y4u md ops.toList ms) {listed : Array Bool} (hc : y7n md ops listed) {i : Nat} (hi : listed.getD i false = false) :
    ∀ (j : Nat),y2e ms j i = true → ∃ o,ops[j]? = some o ∧ ∃ e ∈ o.after,Region.binds md e = true ∧ listed.getD e.on false = false := by
  intro j;induction j using Nat.strongRecOn with
  | ind j ih =>
    intro hw;obtain ⟨o,h1,e,h2,h3,h4⟩ := hm j i hw;refine ⟨o,by simpa using h1,e,h2,h3,?_⟩
    rcases h4 with rfl | ⟨h4,h5⟩
    · exact hi
    · obtain ⟨o',g1,e',g2,g3,g4⟩ := ih e.on h4 h5;cases hq : listed.getD e.on false with
      | false => rfl
      | true =>
        have := hc e.on o' g1 hq e' g2 g3;rw [g4] at this;cases this
theorem y3Z {ms : List Nat} (hm : y4u md ops.toList ms) {listed : Array Bool} (hc : y7n md ops listed) {i j : Nat} (hi : listed.getD i true = false) (hj : j ∈ Region.ready md ops listed) : y2e ms j i = false := by
  cases hw : y2e ms j i with
  | false => rfl
  | true =>
    have hi' : listed.getD i false = false := by
      rw [Array.getD_eq_getD_getElem?] at hi ⊢;cases hq : listed[i]? with
      | none => rfl
      | some b => rw [hq] at hi; simpa using hi
    obtain ⟨o,h1,e,h2,h3,h4⟩ := y8p hm hc hi' j hw;obtain ⟨_,o',g1,g2⟩ := mem_ready.1 hj;rw [h1] at g1;cases g1;have := g2 e h2 h3;rw [h4] at this;cases this
def runS (g : G) (call : y09 St) (ops : Array Oper) (T : Nat → Bool) (Q : St → Prop) : List Oper → Nat → St → Prop
  | [],_,s => Q s
  | _ :: l,k,s => sOp g call ops T k (runS g call ops T Q l (k + 1)) s
def marks : List (Nat × Option Nat × Nat) → List Nat
  | [] => []
  | p :: l => p.2.2 :: (p.2.1.toList ++ marks l)
theorem yBq : ∀ {l : List (Nat × Option Nat × Nat)} {t q : Nat} {kill : Option Nat},(t,kill,q) ∈ l → q ∈ marks l ∧ ∀ β,kill = some β → β ∈ marks l
  | p :: l,t,q,kill,h => by
    unfold marks;rcases List.mem_cons.1 h with e | h
    · subst e;exact ⟨List.mem_cons_self ..,fun β hβ => by subst hβ; simp⟩
    · obtain ⟨h1,h2⟩ := yBq h;exact ⟨by simp [h1],fun β hβ => by simp [h2 β hβ]⟩
theorem yCO {cs : List (Option Chunk)} {k : Option Nat} {n : Nat} : (kl cs k)[n]? = if n < cs.length ∧ k = some n then some none else cs[n]? := by
  cases k with
  | none => simp [kl]
  | some γ =>
    unfold kl;rw [List.getElem?_set];by_cases h : γ = n
    · subst h;by_cases h2 : γ < cs.length
      · simp [h2]
      · simp [h2,List.getElem?_eq_none (Nat.le_of_not_lt h2)]
    · simp [h]
theorem y7w {cs : List (Option Chunk)} {q n : Nat} {x : Option Chunk} : (cs.set q x)[n]? = if n < cs.length ∧ q = n then some x else cs[n]? := by
  rw [List.getElem?_set];by_cases h : q = n
  · subst h;by_cases h2 : q < cs.length
    · simp [h2]
    · simp [h2,List.getElem?_eq_none (Nat.le_of_not_lt h2)]
  · simp [h]
theorem y7M : ∀ (l : List (Nat × Option Nat × Nat)) (cs : List (Option Chunk)) (n : Nat),(mskL l cs)[n]? = if n < cs.length ∧ n ∈ marks l then some none else cs[n]?
  | [],cs,n => by simp [mskL,marks]
  | p :: l,cs,n => by
    unfold mskL marks;rw [y7M l,y7w,yCO,List.length_set,y0K];by_cases h1 : n < cs.length
    · by_cases h2 : n ∈ marks l
      · simp [h1,h2]
      · by_cases h3 : p.2.2 = n
        · simp [h1,h2,h3]
        · by_cases h4 : p.2.1 = some n
          · simp [h1,h2,h3,h4]
          · have h5 : n ∉ p.2.1.toList := fun hh => h4 (by simpa [Option.mem_toList] using hh)
            simp [h1,h2,h3,h4,h5,Ne.symm h3]
    · simp [h1]
theorem yFB {l : List (Nat × Option Nat × Nat)} {t q : Nat} {kill : Option Nat} (h : (t,kill,q) ∈ l) (cs : List (Option Chunk)) (x : Option Chunk) : mskL l ((kl cs kill).set q x) = mskL l cs := by
  obtain ⟨h1,h2⟩ := yBq h;apply List.ext_getElem?;intro n;rw [y7M,y7M,y7w,yCO,List.length_set,y0K];by_cases hn : n < cs.length
  · by_cases hm : n ∈ marks l
    · simp [hn,hm]
    · have e1 : q ≠ n := fun e => hm (e ▸ h1)
      have e2 : kill ≠ some n := fun e => hm (h2 n e)
      simp [hn,hm,e1,e2]
  · simp [hn]
theorem yNT {cs : List (Option Chunk)} {ki kj : Option Nat} {qi qj : Nat} {x y : Option Chunk} (h1 : qi ≠ qj) (h2 : ki ≠ some qj) (h3 : kj ≠ some qi) :
    (kl ((kl cs ki).set qi x) kj).set qj y = (kl ((kl cs kj).set qj y) ki).set qi x := by
  apply List.ext_getElem?;intro n;simp only [y7w,yCO,List.length_set,y0K];by_cases hn : n < cs.length
  · by_cases a : qj = n
    · subst a;simp [hn,h1,h2]
    · by_cases b : qi = n
      · subst b;simp [hn,a,h3]
      · simp [hn,a,b];by_cases c : kj = some n <;> by_cases d : ki = some n <;> simp [c,d]
  · simp [hn]
theorem y87 {cs : List (Option Chunk)} {k : Option Nat} {q n : Nat} {x : Option Chunk} (h1 : n ≠ q) (h2 : k ≠ some n) : ((kl cs k).set q x).getD n none = cs.getD n none := by
  rw [List.getD_eq_getElem?_getD,List.getD_eq_getElem?_getD,y7w,yCO];simp [Ne.symm h1,h2]
theorem yKS (l : List (Nat × Option Nat × Nat)) (cs : List (Option Chunk)) (c : Option Chunk) : Ext (mskL l cs) (mskL l (cs ++ [c])) := fun β ch h => by
  rw [List.getD_eq_getElem?_getD] at h ⊢;rw [y7M] at h ⊢;split at h
  · cases h
  · rename_i hn;have hl : β < cs.length := by
      rcases Nat.lt_or_ge β cs.length with hl | hl
      · exact hl
      · rw [List.getElem?_eq_none hl] at h; cases h
    rw [if_neg (fun hh => hn ⟨hl,hh.2⟩),List.getElem?_append_left hl]
    exact h
theorem yFc {cs : List (Option Chunk)} {k : Option Nat} {q : Nat} {x c : Option Chunk} (hk : ∀ β,k = some β → β < cs.length) (hq : q < cs.length) : (kl (cs ++ [c]) k).set q x = (kl cs k).set q x ++ [c] := by
  have h1 : kl (cs ++ [c]) k = kl cs k ++ [c] := by
    cases k with
    | none => rfl
    | some β => exact List.set_append_left _ _ (hk β rfl)
  rw [h1,List.set_append_left _ _ (by rw [y0K]; exact hq)]
theorem y64 {call : y09 St} {o : Oper} {ch : Chunk} (ha : y0g o = true) (he : y1g g o = true) (hf : y0M g s = true) (hg : y1I ops s o = some true)
    (hz : ∀ z : St,y2q g z o some = some ({ z with cH := z.cH ++ [some ch] }.put o.dst (.bP z.cH.length 0))) : Runs g call ops o s (({ s with cH := s.cH ++ [some ch] } : St).put o.dst (.bP s.cH.length 0)) := by
  refine ⟨hf,.inl ⟨hg,?_⟩⟩;unfold y08 effD;rw [he,y51 ha];simp only [if_true,Bool.false_eq_true,if_false,ha];have := hz s;unfold y2q at this;rw [if_pos ha] at this;exact this
def yHD (g : G) (oi oj : Oper) : Prop :=
  (y1g g oi = false ∧ (y1g g oj = true → (y2c g oj = true ∧ g.ap ≠ []) ∨ y0g oj = true ∨ yGq g oi = true)) ∨
  (y1g g oi = true ∧ y2c g oi = true ∧ g.ap ≠ [] ∧ (y1g g oj = false ∨ y0g oj = true ∨ (y2c g oj = true ∧ apLt g oi oj = true)))
theorem swap {call : y09 St} {oi oj : Oper} {s1 s2 : St} (hn1 : (g.ap.map (·.1)).Nodup) (hn2 : (g.ap.map (·.2.2)).Nodup) (hap : oi.apart ops oj = true) (hc : yHD g oi oj)
    (h1 : Runs g call ops oi s s1) (h2 : Runs g call ops oj s1 s2) : ∃ s',Runs g call ops oj s s' ∧ Runs g call ops oi s' s2 := by
  obtain ⟨a1,a2,a3⟩ := Oper.apart_spec hap;have a2' : ∀ t,oj.dst = some t → oi.dst ≠ some t := fun t ht hh => a2 t hh ht
  rcases hc with ⟨hei,hc⟩ | ⟨hei,hni,hne,hc⟩
  · obtain ⟨hfs,sv,yi,rfl⟩ := (y1L hei).1 h1;have hsv := y4M yi;have again : ∀ (s' : St) (u : SV),y1I ops (s'.put oj.dst u) oi = y1I ops s oi → y2W g (s'.put oj.dst u) oi = y2W g s oi → y0M g (s'.put oj.dst u) = true → Runs g call ops oi (s'.put oj.dst u) ((s'.put oj.dst u).put oi.dst sv) := by
      intro s' u e1 e2 e3;refine (y1L hei).2 ⟨e3,sv,?_,rfl⟩;rcases yi with ⟨y1,y2⟩ | ⟨y1,_,y2⟩
      · exact .inl ⟨by rw [e1]; exact y1,y0L.2 ⟨by rw [e2]; exact (y0L.1 y2).1,y1K.2 hsv⟩⟩
      · exact .inr ⟨by rw [e1]; exact y1,y1K.2 fun p hp => ⟨rfl,(hsv p hp).2⟩,y2⟩
    cases hej : y1g g oj with
    | false =>
      obtain ⟨_,u,yj,rfl⟩ := (y1L hej).1 h2;have hu := y4M yj;refine ⟨s.put oj.dst u,(y1L hej).2 ⟨hfs,u,?_,rfl⟩,?_⟩
      · rcases yj with ⟨y1,y2⟩ | ⟨y1,_,y2⟩
        · exact .inl ⟨by rw [yd a1] at y1; exact y1,y0L.2 ⟨by rw [← y1k (sv := sv) a1]; exact (y0L.1 y2).1,y1K.2 hu⟩⟩
        · exact .inr ⟨by rw [yd a1] at y1; exact y1,y1K.2 fun p hp => ⟨rfl,(hu p hp).2⟩,y2⟩
      · rw [y13 a2];exact again s u (yd a3) (y1k a3) (y2u hfs hu)
    | true =>
      rcases h2.2 with ⟨g2,h2⟩ | ⟨g2,g3,rfl⟩
      · rw [yd a1] at g2;unfold y08 at h2;rw [hej] at h2;simp only [if_true] at h2;have hop : ∀ x ∈ oj.op.operands.toList,∀ τ,y7 g.T τ s x = y7 g.T τ (s.put oi.dst sv) x := fun x hx τ => (y37 a1 x hx τ).symm
        rcases y17 h2 with ⟨hnj,h2⟩ | ⟨hnj,hemp,h2⟩
        · obtain ⟨kill,q,e,u,xs,nn,fin,ha,⟨d,hd,hdl,hx⟩,_,rfl,_,hz⟩ := y2v h2;rw [hd] at ha;obtain ⟨t,ht,hm⟩ := y4Z ha;cases ht;rw [y0w] at hdl;rw [y0X (a2' d hd)] at hx;have hs := hz s (fun d' hd' => by rw [hd] at hd'; cases hd'; exact ⟨hdl,hx⟩) (fun β _ => by rw [yT]) hop
          refine ⟨_,⟨hfs,.inl ⟨g2,by unfold y08 effD; rw [hej,hnj]; simp only [if_true]; exact hs⟩⟩,?_⟩
          have := again { s with cH := (kl s.cH kill).set q (cq fin e u xs nn) } (vq fin q u xs nn) (yd a3) ((y1k a3).trans (y4y (yFB hm _ _) (fun x _ τ => by cases x <;> rfl))) (by
            rw [hd]; exact y4Q hfs hn1 hn2 ha hdl hx)
          rw [y13 a2'] at this;have e3 : ({ s.put oi.dst sv with cH := (kl (s.put oi.dst sv).cH kill).set q (cq fin e u xs nn) } : St) = ({ s with cH := (kl s.cH kill).set q (cq fin e u xs nn) } : St).put oi.dst sv := by
            cases oi.dst <;> rfl
          rw [e3];exact this
        by_cases hal : y0g oj = true
        · obtain ⟨ch,k1,k2,k3⟩ := y3B hal h2;rw [k3] at h2;cases h2;refine ⟨_,y64 hal hej hfs g2 k3,?_⟩;have hf' := y2U (d := oj.dst) hfs k1 k2;have e3 : (({ s.put oi.dst sv with cH := (s.put oi.dst sv).cH ++ [some ch] } : St).put oj.dst (.bP (s.put oi.dst sv).cH.length 0)) = ((({ s with cH := s.cH ++ [some ch] } : St).put oj.dst (.bP s.cH.length 0)).put oi.dst sv) := by
            rw [yT,yIq,y13 a2]
          rw [e3];refine (y1L hei).2 ⟨hf',sv,?_,rfl⟩;rcases yi with ⟨y1,y2⟩ | ⟨y1,_,y2⟩
          · refine .inl ⟨by rw [yd (s := { s with cH := s.cH ++ [some ch] }) a3]; exact y1,y0L.2 ⟨?_,y1K.2 hsv⟩⟩
            rw [y1k (s := { s with cH := s.cH ++ [some ch] }) a3]
            exact yG7 (y9I _ _) (yKS _ _ _) (y0L.1 y2).1
          · exact .inr ⟨by rw [yd (s := { s with cH := s.cH ++ [some ch] }) a3]; exact y1,y1K.2 fun p hp => ⟨rfl,(hsv p hp).2⟩,y2⟩
        · have hemp : g.ap.isEmpty = true := by
            rcases hemp with h | h
            · exact h
            · exact absurd h hal
          have hap0 : g.ap = [] := List.isEmpty_iff.1 hemp;obtain ⟨C,u,hC,hst⟩ := yGC h2;have hs := hst s (yT _ _).symm hop;refine ⟨_,⟨hfs,.inl ⟨g2,by unfold y08 effD; rw [hej,hnj,hemp]; unfold y2q at hs; rw [if_neg hal] at hs; simp only [if_true,Bool.false_eq_true,if_false]; rw [if_neg hal]; exact hs⟩⟩,?_⟩
          have e2 : y2W g (({ s with cH := C } : St).put oj.dst u) oi = y2W g s oi → Runs g call ops oi (({ s with cH := C } : St).put oj.dst u) s2 := fun e2 => by
            have := again { s with cH := C } u (yd a3) e2 (y4D hap0)
            rw [hst _ rfl (fun _ _ _ => rfl)] at h2
            cases h2;rw [y13 a2'] at this;have e3 : ({ s.put oi.dst sv with cH := C } : St) = ({ s with cH := C } : St).put oi.dst sv := by
              cases oi.dst <;> rfl
            rw [e3];exact this
          rcases yi with ⟨y1,y2⟩ | ⟨y1,_,y2⟩
          · refine e2 ((y1k a3).trans ?_);have h0 := (y0L.1 y2).1;rcases hc hej with ⟨hn,_⟩ | ha | ha
            · rw [hnj] at hn; cases hn
            · obtain ⟨c,rfl⟩ := hC ha;rw [yT,h0];exact yBo hap0 (y9I _ _) h0
            · exact yFg hap0 ha
          ·
            rw [hst _ rfl (fun _ _ _ => rfl)] at h2
            cases h2;refine ⟨y4D hap0,.inr ⟨by rw [yd a3]; exact y1,by unfold y1N; rw [hap0]; rfl,?_⟩⟩
            subst y2;have e3 : ({ s.put oi.dst SV.gone with cH := C } : St) = ({ s with cH := C } : St).put oi.dst .gone := by
              cases oi.dst <;> rfl
            rw [e3,y13 a2]
      · rw [yd a1] at g2;have g4 : y1N g s oj = true := y2S g3 (y0w ..).symm (fun d _ _ hd => (y0X (a2' d hd)).symm)
        refine ⟨s.put oj.dst .gone,⟨hfs,.inr ⟨g2,g4,rfl⟩⟩,?_⟩;rw [y13 a2];exact again s .gone (yd a3) (y1k a3) (y1X hn1 hfs g4)
  · have runI : ∀ {z z' : St},y0M g z = true → y1I ops z oi = some true → newD g z oi some = some z' → Runs g call ops oi z z' := fun hf hg h => ⟨hf,.inl ⟨hg,by unfold y08 effD; rw [hei,hni]; simp only [if_true]; exact h⟩⟩
    have hfs := h1.1;rcases h1.2 with ⟨gi,h1⟩ | ⟨gi,gi2,rfl⟩
    · have r1 : newD g s oi some = some s1 := by
        unfold y08 at h1;rw [hei] at h1;simp only [if_true] at h1;rcases y17 h1 with ⟨_,h⟩ | ⟨h,_⟩
        · exact h
        · rw [hni] at h; cases h
      obtain ⟨ki,qi,ei,ui,xi,ni,fi,hai,⟨di,hdi,hdil,hxi⟩,hki,rfl,_,hzi⟩ := y2v r1;rw [hdi] at hai;obtain ⟨t,ht,hmi⟩ := y4Z hai;cases ht;obtain ⟨hqi,hqin,hno⟩ := yCa hfs hai hxi;have gj : y1I ops (({ s with cH := (kl s.cH ki).set qi (cq fi ei ui xi ni) } : St).put oi.dst (vq fi qi ui xi ni)) oj = y1I ops s oj := yd (s := { s with cH := (kl s.cH ki).set qi (cq fi ei ui xi ni) }) a1
      have opj : ∀ x ∈ oj.op.operands.toList,∀ τ,y7 g.T τ s x = y7 g.T τ (({ s with cH := (kl s.cH ki).set qi (cq fi ei ui xi ni) } : St).put oi.dst (vq fi qi ui xi ni)) x := fun x hx τ => by
        rw [y37 a1 x hx τ];cases x <;> rfl
      have behind : ∀ u : SV,y0M g (s.put oj.dst u) = true → Runs g call ops oi (s.put oj.dst u) ((({ s with cH := (kl s.cH ki).set qi (cq fi ei ui xi ni) } : St).put oi.dst (vq fi qi ui xi ni)).put oj.dst u) := fun u hu => by
        have := hzi (s.put oj.dst u) (fun d hd => by
          rw [hdi] at hd; cases hd;rw [y0w,y0X (fun hh => a2 di hdi hh)]
          exact ⟨hdil,hxi⟩) (fun β _ => by rw [yT]) (fun x hx τ => y37 a3 x hx τ)
        have e : (({ s.put oj.dst u with cH := (kl (s.put oj.dst u).cH ki).set qi (cq fi ei ui xi ni) } : St).put oi.dst (vq fi qi ui xi ni)) = ((({ s with cH := (kl s.cH ki).set qi (cq fi ei ui xi ni) } : St).put oi.dst (vq fi qi ui xi ni)).put oj.dst u) := by
          rw [yT,y13 a2];cases oj.dst <;> rfl
        rw [e] at this;exact runI hu ((yd a3).trans gi) this
      by_cases hej : y1g g oj = false
      · obtain ⟨_,u,yj,rfl⟩ := (y1L hej).1 h2;have hu := y4M yj;refine ⟨s.put oj.dst u,(y1L hej).2 ⟨hfs,u,?_,rfl⟩,behind u (y2u hfs hu)⟩;rcases yj with ⟨y1,y2⟩ | ⟨y1,_,y2⟩
        · refine .inl ⟨gj.symm.trans y1,y0L.2 ⟨?_,y1K.2 hu⟩⟩;rw [← (y0L.1 y2).1];exact ((y1k a1).trans (y4y (yFB hmi _ _) (fun x _ τ => by cases x <;> rfl))).symm
        · exact .inr ⟨gj.symm.trans y1,y1K.2 fun p hp => ⟨rfl,(hu p hp).2⟩,y2⟩
      by_cases hal : y0g oj = true
      · have hej' : y1g g oj = true := by simpa using hej
        rcases h2.2 with ⟨g2,h2⟩ | ⟨g2,g3,rfl⟩
        · unfold y08 at h2;rw [hej'] at h2;simp only [if_true] at h2;have h2 : y2q g (({ s with cH := (kl s.cH ki).set qi (cq fi ei ui xi ni) } : St).put oi.dst (vq fi qi ui xi ni)) oj some = some s2 := by
            rcases y17 h2 with ⟨h,_⟩ | ⟨_,_,h⟩
            · rw [y51 hal] at h; cases h
            · exact h
          obtain ⟨ch,k1,k2,k3⟩ := y3B hal h2;rw [k3] at h2;cases h2;refine ⟨_,y64 hal hej' hfs (gj.symm.trans g2) k3,?_⟩;have hi := hzi (({ s with cH := s.cH ++ [some ch] } : St).put oj.dst (.bP s.cH.length 0)) (fun d hd => by
              rw [hdi] at hd; cases hd;rw [y0w,y0X (fun hh => a2 di hdi hh)]
              exact ⟨hdil,hxi⟩) (fun β hβ => by
              have := (hki β hβ).1;rw [yT,List.getD_eq_getElem?_getD,List.getD_eq_getElem?_getD,List.getElem?_append_left (by omega)]) (fun x hx τ => by
              rw [y37 a3 x hx τ];cases x <;> rfl)
          refine runI (y2U hfs k1 k2) ((yd (s := { s with cH := s.cH ++ [some ch] }) a3).trans gi) (hi.trans (congrArg some ?_))
          rw [yT,yT,yFc (fun β hβ => by have := (hki β hβ).1; omega) hqi]
          have e0 : ((kl s.cH ki).set qi (cq fi ei ui xi ni)).length = s.cH.length := by rw [List.length_set,y0K]
          rw [e0];have e1 : ∀ (D : List (Option Chunk)),({ (({ s with cH := s.cH ++ [some ch] } : St).put oj.dst (.bP s.cH.length 0)) with cH := D } : St) = ({ s with cH := D } : St).put oj.dst (.bP s.cH.length 0) := fun D => by cases oj.dst <;> rfl
          have e2 : ∀ (D : List (Option Chunk)),({ (({ s with cH := (kl s.cH ki).set qi (cq fi ei ui xi ni) } : St).put oi.dst (vq fi qi ui xi ni)) with cH := D } : St) = ({ s with cH := D } : St).put oi.dst (vq fi qi ui xi ni) := fun D => by cases oi.dst <;> rfl
          rw [e1,e2,y13 a2']
        · have g4 : y1N g s oj = true := y2S g3 (y0w (s := { s with cH := (kl s.cH ki).set qi (cq fi ei ui xi ni) }) ..).symm (fun d _ _ hd => (y0X (s := { s with cH := (kl s.cH ki).set qi (cq fi ei ui xi ni) }) (a2' d hd)).symm)
          exact ⟨s.put oj.dst .gone,⟨hfs,.inr ⟨gj.symm.trans g2,g4,rfl⟩⟩,behind .gone (y1X hn1 hfs g4)⟩
      · have hej' : y1g g oj = true := by simpa using hej
        obtain ⟨hnj,hlt⟩ : y2c g oj = true ∧ apLt g oi oj = true := by
          rcases hc with h | h | h
          · exact absurd h hej
          · exact absurd h hal
          · exact h
        rcases h2.2 with ⟨g2,h2⟩ | ⟨g2,g3,rfl⟩
        · have r2 : newD g (({ s with cH := (kl s.cH ki).set qi (cq fi ei ui xi ni) } : St).put oi.dst (vq fi qi ui xi ni)) oj some = some s2 := by
            unfold y08 at h2;rw [hej'] at h2;simp only [if_true] at h2;rcases y17 h2 with ⟨_,h⟩ | ⟨h,_⟩
            · exact h
            · rw [hnj] at h; cases h
          obtain ⟨kj,qj,ej,uj,xj,nj,fj,haj,⟨dj,hdj,hdjl,hxj⟩,hkj,rfl,_,hzj⟩ := y2v r2;rw [hdj] at haj;have hlt : qi < qj := by
            unfold apLt at hlt;rw [hdi,hdj,hai,haj] at hlt;simpa using hlt
          rw [y0w] at hdjl;rw [y0X (a2' dj hdj)] at hxj;have kq : ∀ β,kj = some β → β ≠ qi ∧ ki ≠ some β := by
            intro β hβ;obtain ⟨_,k2,x,hx,hv⟩ := hkj β hβ;rw [← opj x hx 0] at hv;have h3 := yIV (T := g.T) (τ := 0) (x := x) hno;rw [hv] at h3;have h4 : β ≠ qi := y2m rfl h3;refine ⟨h4,fun hh => ?_⟩
            rw [yT,List.getD_eq_getElem?_getD,y7w,yCO] at k2;rw [hh] at k2;by_cases hl : β < s.cH.length
            · simp [hl,Ne.symm h4] at k2
            · rw [if_neg (fun hh => hl (by simpa [y0K] using hh.1)),if_neg (fun hh => hl hh.1),List.getElem?_eq_none (Nat.le_of_not_lt hl)] at k2
              cases k2
          have hs := hzj s (fun d hd => by rw [hdj] at hd; cases hd; exact ⟨hdjl,hxj⟩) (fun β hβ => by
            rw [yT];exact (y87 (kq β hβ).1 (kq β hβ).2).symm) opj
          refine ⟨_,⟨hfs,.inl ⟨gj.symm.trans g2,by unfold y08 effD; rw [hej',hnj]; simp only [if_true]; exact hs⟩⟩,?_⟩
          have hi := hzi (({ s with cH := (kl s.cH kj).set qj (cq fj ej uj xj nj) } : St).put oj.dst (vq fj qj uj xj nj)) (fun d hd => by
              rw [hdi] at hd; cases hd;rw [y0w,y0X (fun hh => a2 di hdi hh)]
              exact ⟨hdil,hxi⟩) (fun β hβ => by
              rw [yT];refine y87 ?_ (fun hh => (kq β hh).2 hβ)
              have := (hki β hβ).1;omega) (fun x hx τ => by
              rw [y37 a3 x hx τ];cases x <;> rfl)
          refine runI (by rw [hdj]; exact y4Q hfs hn1 hn2 haj hdjl hxj) ((yd (s := { s with cH := (kl s.cH kj).set qj (cq fj ej uj xj nj) }) a3).trans gi) (hi.trans (congrArg some ?_))
          rw [yT,yT];have ec := yNT (cs := s.cH) (ki := ki) (kj := kj) (qi := qi) (qj := qj) (x := cq fi ei ui xi ni) (y := cq fj ej uj xj nj) (by omega) (fun hh => by have := (hki qj hh).1; omega) (fun hh => (kq qi hh).1 rfl)
          rw [← ec];have e1 : ∀ (D : List (Option Chunk)),({ (({ s with cH := (kl s.cH kj).set qj (cq fj ej uj xj nj) } : St).put oj.dst (vq fj qj uj xj nj)) with cH := D } : St) = ({ s with cH := D } : St).put oj.dst (vq fj qj uj xj nj) := fun D => by cases oj.dst <;> rfl
          have e2 : ∀ (D : List (Option Chunk)),({ (({ s with cH := (kl s.cH ki).set qi (cq fi ei ui xi ni) } : St).put oi.dst (vq fi qi ui xi ni)) with cH := D } : St) = ({ s with cH := D } : St).put oi.dst (vq fi qi ui xi ni) := fun D => by cases oi.dst <;> rfl
          rw [e1,e2,y13 a2']
        · have g4 : y1N g s oj = true := y2S g3 (y0w (s := { s with cH := (kl s.cH ki).set qi (cq fi ei ui xi ni) }) ..).symm (fun d _ _ hd => (y0X (s := { s with cH := (kl s.cH ki).set qi (cq fi ei ui xi ni) }) (a2' d hd)).symm)
          exact ⟨s.put oj.dst .gone,⟨hfs,.inr ⟨gj.symm.trans g2,g4,rfl⟩⟩,behind .gone (y1X hn1 hfs g4)⟩
    ·
      have gj : y1I ops (s.put oi.dst .gone) oj = y1I ops s oj := yd a1;have behind : ∀ u : SV,y0M g (s.put oj.dst u) = true → Runs g call ops oi (s.put oj.dst u) ((s.put oi.dst .gone).put oj.dst u) := fun u hu => by
        rw [y13 a2];exact ⟨hu,.inr ⟨(yd a3).trans gi,y2S gi2 (y0w ..) (fun d _ _ hd => y0X (fun hh => a2 d hd hh)),rfl⟩⟩
      by_cases hej : y1g g oj = false
      · obtain ⟨_,u,yj,rfl⟩ := (y1L hej).1 h2;have hu := y4M yj;refine ⟨s.put oj.dst u,(y1L hej).2 ⟨hfs,u,?_,rfl⟩,behind u (y2u hfs hu)⟩;rcases yj with ⟨y1,y2⟩ | ⟨y1,_,y2⟩
        · exact .inl ⟨gj.symm.trans y1,y0L.2 ⟨by rw [← y1k (sv := .gone) a1]; exact (y0L.1 y2).1,y1K.2 hu⟩⟩
        · exact .inr ⟨gj.symm.trans y1,y1K.2 fun p hp => ⟨rfl,(hu p hp).2⟩,y2⟩
      by_cases hal : y0g oj = true
      · have hej' : y1g g oj = true := by simpa using hej
        rcases h2.2 with ⟨g2,h2⟩ | ⟨g2,g3,rfl⟩
        · unfold y08 at h2;rw [hej'] at h2;simp only [if_true] at h2;have h2 : y2q g (s.put oi.dst .gone) oj some = some s2 := by
            rcases y17 h2 with ⟨h,_⟩ | ⟨_,_,h⟩
            · rw [y51 hal] at h; cases h
            · exact h
          obtain ⟨ch,k1,k2,k3⟩ := y3B hal h2;rw [k3] at h2;cases h2;refine ⟨_,y64 hal hej' hfs (gj.symm.trans g2) k3,⟨y2U hfs k1 k2,.inr ⟨(yd (s := { s with cH := s.cH ++ [some ch] }) a3).trans gi,y2S gi2 (y0w (s := { s with cH := s.cH ++ [some ch] }) ..) (fun d _ _ hd => y0X (s := { s with cH := s.cH ++ [some ch] }) (fun hh => a2 d hd hh)),?_⟩⟩⟩
          rw [yT,yIq,y13 a2]
        · have g4 : y1N g s oj = true := y2S g3 (y0w ..).symm (fun d _ _ hd => (y0X (a2' d hd)).symm)
          exact ⟨s.put oj.dst .gone,⟨hfs,.inr ⟨gj.symm.trans g2,g4,rfl⟩⟩,behind .gone (y1X hn1 hfs g4)⟩
      · have hej' : y1g g oj = true := by simpa using hej
        obtain ⟨hnj,_⟩ : y2c g oj = true ∧ apLt g oi oj = true := by
          rcases hc with h | h | h
          · exact absurd h hej
          · exact absurd h hal
          · exact h
        rcases h2.2 with ⟨g2,h2⟩ | ⟨g2,g3,rfl⟩
        · have r2 : newD g (s.put oi.dst .gone) oj some = some s2 := by
            unfold y08 at h2;rw [hej'] at h2;simp only [if_true] at h2;rcases y17 h2 with ⟨_,h⟩ | ⟨h,_⟩
            · exact h
            · rw [hnj] at h; cases h
          obtain ⟨kj,qj,ej,uj,xj,nj,fj,haj,⟨dj,hdj,hdjl,hxj⟩,hkj,rfl,_,hzj⟩ := y2v r2;rw [hdj] at haj;rw [y0w] at hdjl;rw [y0X (a2' dj hdj)] at hxj;have hs := hzj s (fun d hd => by rw [hdj] at hd; cases hd; exact ⟨hdjl,hxj⟩) (fun β hβ => by rw [yT]) (fun x hx τ => (y37 a1 x hx τ).symm)
          refine ⟨_,⟨hfs,.inl ⟨gj.symm.trans g2,by unfold y08 effD; rw [hej',hnj]; simp only [if_true]; exact hs⟩⟩,?_⟩
          refine ⟨by rw [hdj]; exact y4Q hfs hn1 hn2 haj hdjl hxj,.inr ⟨(yd (s := { s with cH := (kl s.cH kj).set qj (cq fj ej uj xj nj) }) a3).trans gi,y2S gi2 (y0w ..) (fun d _ _ hd => y0X (s := { s with cH := (kl s.cH kj).set qj (cq fj ej uj xj nj) }) (fun hh => a2 d hd hh)),?_⟩⟩
          rw [yT,y13 a2'];congr 1
          cases oi.dst <;> rfl
        · have g4 : y1N g s oj = true := y2S g3 (y0w ..).symm (fun d _ _ hd => (y0X (a2' d hd)).symm)
          exact ⟨s.put oj.dst .gone,⟨hfs,.inr ⟨gj.symm.trans g2,g4,rfl⟩⟩,behind .gone (y1X hn1 hfs g4)⟩
theorem yGe {call : y09 St} {T : Nat → Bool} {Q : St → Prop} {i : Nat} {oi : Oper} {ms : List Nat} (hn1 : (g.ap.map (·.1)).Nodup) (hn2 : (g.ap.map (·.2.2)).Nodup) (hm : y4u md ops.toList ms) (hi : ops[i]? = some oi) (hTi : T i = true) :
    ∀ (fuel : Nat) (listed : Array Bool) (s s1 : St),y7n md ops listed →
      (∀ j oj,ops[j]? = some oj → j ≠ i → listed.getD j true = false → y2e ms j i = false → (∀ e ∈ oj.after,Region.binds md e = true → e.on ≠ i) → oi.apart ops oj = true ∧ T j = true ∧ yHD g oi oj) →
      i ∈ Region.ready md ops listed → Runs g call ops oi s s1 →
      anyS g call md ops T Q fuel (listed.setIfInBounds i true) s1 → anyS g call md ops T Q (fuel + 1) listed s := by
  intro fuel;induction fuel with
  | zero =>
    intro listed s s1 _ _ hr hy H;refine ⟨fun h => (by rw [h] at hr; cases hr),fun j hj => ?_⟩
    by_cases hji : j = i
    · subst hji; exact hy.sOp hi hTi H
    · have := ready_mono hj hji;rw [H.1] at this;cases this
  | succ fuel ih =>
    intro listed s s1 hcl hfree hr hy H;refine ⟨fun h => (by rw [h] at hr; cases hr),fun j hj => ?_⟩
    by_cases hji : j = i
    · subst hji; exact hy.sOp hi hTi H
    · have h1 := H.2 j (ready_mono hj hji);obtain ⟨hjun,oj,hoj,hall⟩ := mem_ready.1 hj;have hnot : ∀ e ∈ oj.after,Region.binds md e = true → e.on ≠ i := fun e he hb heq => by
        have h1 := hall e he hb;have h0 := (mem_ready.1 hr).1;rw [heq] at h1;rcases Nat.lt_or_ge i listed.size with h' | h'
        · simp [h'] at h0 h1; rw [h0] at h1; cases h1
        · simp [Array.getElem?_eq_none h'] at h1
      obtain ⟨hap,hTj,hso⟩ := hfree j oj hoj hji hjun (y3Z hm hcl (mem_ready.1 hr).1 hj) hnot;obtain ⟨s2,r2,h2⟩ := y8W hoj hTj h1;obtain ⟨s',r3,r4⟩ := swap hn1 hn2 hap hso hy r2;have hfree' : ∀ k ok,ops[k]? = some ok → k ≠ i → (listed.setIfInBounds j true).getD k true = false → y2e ms k i = false →
          (∀ e ∈ ok.after,Region.binds md e = true → e.on ≠ i) → oi.apart ops ok = true ∧ T k = true ∧ yHD g oi ok := fun k ok hk hki hun hw hno => by
        refine hfree k ok hk hki ?_ hw hno;by_cases hjk : j = k
        · subst hjk; exact hjun
        · rw [getD_set_ne true hjk] at hun; exact hun
      refine r3.sOp hoj hTj (ih (listed.setIfInBounds j true) s' s2 (hcl.step hj) hfree' (ready_mono hr (Ne.symm hji)) r4 ?_);rw [Array.setIfInBounds_comm _ _ hji];exact h2
theorem yEg {call : y09 St} {T : Nat → Bool} {Q : St → Prop} {ms : List Nat} (hn1 : (g.ap.map (·.1)).Nodup) (hn2 : (g.ap.map (·.2.2)).Nodup) (hm : y4u md ops.toList ms) (hTail : ∀ j o,ops[j]? = some o → T j = false → ∀ i,i < j → y2e ms j i = true) (hT2 : ∀ i j,i ≤ j → T i = false → T j = false)
    (hAl : ∀ i o,ops[i]? = some o → y1g g o = true → T i = true → (∀ j oj,ops[j]? = some oj → i < j → y2e ms j i = true ∨ (y2c g o = true ∧ g.ap ≠ [] ∧ (y1g g oj = false ∨ y0g oj = true ∨ (y2c g oj = true ∧ apLt g o oj = true)))) ∧ (∀ j oj,ops[j]? = some oj → j < i → y2e ms i j = true ∨ y0g o = true ∨ yGq g oj = true ∨ (y2c g o = true ∧ g.ap ≠ []))) :
    ∀ (l : List Oper) (k : Nat) (listed : Array Bool) (s : St),(∀ j,l[j]? = ops[k + j]?) → (∀ j,j < ops.size → listed.getD j true = decide (j < k)) →
    y7n md ops listed → Region.lexFrom md ops l.length k listed = true → runS g call ops T Q l k s → anyS g call md ops T Q l.length listed s
  | [],_,_,_,_,_,_,hB,h => ⟨by simpa [Region.lexFrom] using hB,h⟩
  | o :: l,k,listed,s,hl,hlist,hcl,hB,h => by
    have h0 : ops[k]? = some o := by simpa using (hl 0).symm
    have hksz : k < ops.size := (Array.getElem?_eq_some_iff.1 h0).1;simp only [List.length_cons,Region.lexFrom,Bool.and_eq_true] at hB;obtain ⟨⟨hr,hf⟩,hB'⟩ := hB;have hrk : k ∈ Region.ready md ops listed := by simpa using hr
    have hnext : ∀ j,j < ops.size → (listed.setIfInBounds k true).getD j true = decide (j < k + 1) := by
      intro j hj;by_cases hkj : k = j
      · subst hkj;have : (listed.setIfInBounds k true).getD k true = true := by
          rw [Array.getD_eq_getD_getElem?];by_cases hs : k < listed.size
          · simp [hs]
          · simp [hs]
        rw [this];simp
      · rw [getD_set_ne true hkj,hlist j hj];congr 1
        apply propext;omega
    have hrec := yEg (call := call) (Q := Q) hn1 hn2 hm hTail hT2 hAl l (k + 1) (listed.setIfInBounds k true);have hl' : ∀ j,l[j]? = ops[k + 1 + j]? := fun j => by have := hl (j + 1); simpa [Nat.add_assoc,Nat.add_comm 1 j] using this
    by_cases hcase : T k = true ∧ (y1g g o = false ∨ (y2c g o = true ∧ g.ap ≠ []))
    · obtain ⟨hTk,he⟩ := hcase;obtain ⟨s1,hy,hK⟩ := y8W h0 hTk h;refine yGe hn1 hn2 hm h0 hTk l.length listed s s1 hcl (fun j oj hoj hji hun hnw hno => ?_) hrk hy (hrec _ hl' hnext (hcl.step hrk) hB' hK)
      have hj : k < j := by
        have hjs := (Array.getElem?_eq_some_iff.1 hoj).1;rw [hlist j hjs] at hun;simp at hun;omega
      have hTj : T j = true := by
        cases hTj : T j with
        | true => rfl
        | false =>
          rw [hTail j oj hoj hTj k hj] at hnw;cases hnw
      refine ⟨Region.free_spec h0 hf j oj hoj hji hun hno,hTj,?_⟩;cases hek : y1g g o with
      | false =>
        refine .inl ⟨hek,fun hej => ?_⟩
        rcases (hAl j oj hoj hej hTj).2 k o h0 hj with hw | hq | hq | hq
        · rw [hw] at hnw; cases hnw
        · exact .inr (.inl hq)
        · exact .inr (.inr hq)
        · exact .inl hq
      | true =>
        have he : y2c g o = true ∧ g.ap ≠ [] := by
          rcases he with h | h
          · rw [hek] at h; cases h
          · exact h
        rcases (hAl k o h0 hek hTk).1 j oj hoj hj with hw | ⟨_,_,hq⟩
        · rw [hw] at hnw; cases hnw
        · exact .inr ⟨hek,he.1,he.2,hq⟩
    · have hafter : ∀ j oj,ops[j]? = some oj → k < j → y2e ms j k = true := fun j oj hoj hj => by
        cases hTk : T k with
        | false => exact hTail j oj hoj (hT2 k j (by omega) hTk) k hj
        | true =>
          cases he : y1g g o with
          | true =>
            rcases (hAl k o h0 he hTk).1 j oj hoj hj with h | ⟨h1,h2,_⟩
            · exact h
            · exact absurd ⟨hTk,.inr ⟨h1,h2⟩⟩ hcase
          | false => exact absurd ⟨hTk,.inl he⟩ hcase
      refine ⟨fun hn => (by rw [hn] at hrk; cases hrk),fun j hj => ?_⟩
      have hjk : j = k := by
        obtain ⟨hjun,oj,hoj,hall⟩ := mem_ready.1 hj;have hjs := (Array.getElem?_eq_some_iff.1 hoj).1;rw [hlist j hjs] at hjun;simp at hjun;rcases Nat.lt_or_ge k j with h' | h'
        · have := y3Z hm hcl (mem_ready.1 hrk).1 hj;rw [hafter j oj hoj h'] at this;cases this
        · omega
      subst hjk;exact yK6 (fun s' hs' => hrec s' hl' hnext (hcl.step hrk) hB' hs') h
end
end Go.Vx
end
section
namespace Go.Vx
open Go.RowKit
variable [GT]
section
variable {P : Program} {A0 : Nat → Prop} {w0 : Base} {ρ : Places} {s s' : St} {a : Act} {w w' : World} {g : G} {R : Type} {r : R} {ops : Array Oper}
omit [GT] in
theorem yMO {j : Nat} {b : Bool} (h : y55 ops s j = some (some b)) : setG ops s j b = s := by
  unfold y55 at h;unfold setG;split at h
  · rename_i t ht;split at h
    · rename_i b' hs;cases h;show ({ s with sl := s.sl.set t (.val .bool b) } : St) = s
      have : s.slots.set t (.val .bool b) = s.slots := by
        apply List.ext_getElem?;intro i;by_cases hti : t = i
        · subst hti;rcases Nat.lt_or_ge t s.slots.length with hl | hl
          · rw [List.getElem?_set_self hl];rw [St.get_def] at hs;rw [List.getD_eq_getElem?_getD,List.getElem?_eq_getElem hl] at hs;rw [List.getElem?_eq_getElem hl];exact congrArg some hs.symm
          · rw [List.getElem?_eq_none (by simpa using hl),List.getElem?_eq_none hl]
        · rw [List.getElem?_set_ne hti]
      rw [show s.sl.set t (.val .bool b) = s.sl from Slots.ext_list (by rw [Slots.toList_set]; exact this)]
    · cases h
    · cases h
  · cases h
theorem yAQ {call : (R : Type) → y09 R} (hN : y2C call) {T : Nat → Bool} {Q : St → Prop} {dr : Bool} (hn : dr = true → (g.ap.map (·.1)).Nodup ∧ (g.ap.map (·.2.2)).Nodup) (l2 : List Oper) : ∀ (l : List Oper) (k : Nat) (s : St) (F : St → Option R),(dr = true → y0M g s = true) → (∀ j,j < l.length → l[j]? = ops[k + j]?) → (∀ j,j < l.length → T (k + j) = dr) →
    y0d g (call R) dr ops l s F = some r → (∀ s',F s' = some r → runS g (call St) ops T Q l2 (k + l.length) s') → runS g (call St) ops T Q (l ++ l2) k s
  | [],k,s,F,_,_,_,h,hF => hF s h
  | o :: l,k,s,F,hap,hl,hT,h,hF => by
    have h0 : ops[k]? = some o := by simpa using (hl 0 (by simp)).symm
    have hTk : T k = dr := by simpa using hT 0 (by simp)
    have ih := fun s' (hap' : dr = true → y0M g s' = true) (h' : y0d g (call R) dr ops l s' F = some r) => yAQ hN hn l2 l (k + 1) s' F hap'
      (fun j hj => by have := hl (j + 1) (by simp; omega); simpa [Nat.add_assoc,Nat.add_comm 1 j] using this)
      (fun j hj => by have := hT (j + 1) (by simp; omega); simpa [Nat.add_assoc,Nat.add_comm 1 j] using this) h'
      (fun s' hs' => by have := hF s' hs'; simpa [Nat.add_assoc,Nat.add_comm 1 l.length] using this)
    show sOp g (call St) ops T k (runS g (call St) ops T Q (l ++ l2) (k + 1)) s
    unfold sOp;rw [h0];dsimp only;refine ⟨fun ht => hap (hTk ▸ ht),?_⟩
    unfold y0d at h;unfold y1I;cases hg : o.guard with
    | none =>
      rw [hg] at h;dsimp only at h ⊢;rw [y20 hN,Option.bind_eq_some_iff] at h;obtain ⟨s',h1,h2⟩ := h;rw [hTk];exact ⟨s',h1,ih s' (fun hd => by subst hd; exact y8P (hn rfl).1 (hn rfl).2 (hap rfl) h1) h2⟩
    | some gw =>
      obtain ⟨j,want⟩ := gw;rw [hg] at h;dsimp only at h ⊢;rw [Option.bind_eq_some_iff] at h;obtain ⟨ob,hb,h⟩ := h;rw [hb];simp only [Option.map_some];have yes : y08 g (call R) dr s o (fun s' => y0d g (call R) dr ops l s' F) = some r → (match some true with
          | some true => ∃ s',y08 g (call St) (T k) s o some = some s' ∧ runS g (call St) ops T Q (l ++ l2) (k + 1) s'
          | some false => (T k = true → y1N g s o = true) ∧ runS g (call St) ops T Q (l ++ l2) (k + 1) (s.put o.dst .gone)
          | none => False) := fun h => by
        rw [y20 hN,Option.bind_eq_some_iff] at h;obtain ⟨s',h1,h2⟩ := h;rw [hTk];exact ⟨s',h1,ih s' (fun hd => by subst hd; exact y8P (hn rfl).1 (hn rfl).2 (hap rfl) h1) h2⟩
      have no : (bif dr && !y1N g s o then none else y0d g (call R) dr ops l (s.put o.dst .gone) F) = some r → (T k = true → y1N g s o = true) ∧ runS g (call St) ops T Q (l ++ l2) (k + 1) (s.put o.dst .gone) := fun h => by
        cases hq : dr && !y1N g s o with
        | true => rw [hq] at h; cases h
        | false =>
          rw [hq] at h;have hg2 : dr = true → y1N g s o = true := fun hd => by rw [hd] at hq; simpa using hq
          exact ⟨fun ht => hg2 (hTk ▸ ht),ih _ (fun hd => y1X (hn hd).1 (hap hd) (hg2 hd)) h⟩
      cases ob with
      | none => cases want <;> exact no h
      | some b =>
        dsimp only at h;cases want <;> cases b <;> (
          simp only [cond_true,cond_false] at h;rw [yMO hb] at h;first | exact yes h | exact no h)
theorem y5g {call : (R : Type) → y09 R} (hC : y5S P call) (hRd : y35 P call) (hT : yl P g.T) (hE : ∀ e ∈ g.E,FnOK P e) {T : Nat → Bool} {Q : St → Prop} {Q' : Exit → Act → World → Prop} (hQ : ∀ ρ s a w,Rel P A0 w0 ρ s a w → Q s → Q' .normal a w) :
    ∀ (l : List Oper) (k : Nat) {ρ : Places} {s : St} {a : Act} {w : World},Rel P A0 w0 ρ s a w → runS g (call St) ops T Q l k s → wpOpsIn (y3A w0.ro) 0 P ops Q' (List.range' k l.length) a w
  | [],_,_,_,_,_,h,hh => hQ _ _ _ _ h hh
  | _ :: l,k,_,_,_,_,h,hh => by
    simp only [List.length_cons,List.range'_succ];rw [wpOpsIn_cons];exact y8J hC hRd hT hE h (fun _ _ _ _ hR hK => y5g hC hRd hT hE hQ l (k + 1) hR hK) hh
omit [GT] in
theorem y4r : ∀ {l : List Nat},yBK l = true → l.Nodup
  | [],_ => List.nodup_nil
  | a :: l,h => by
    unfold yBK at h;simp only [Bool.and_eq_true,Bool.not_eq_true'] at h;refine List.nodup_cons.2 ⟨fun hm => ?_,y4r h.2⟩
    have : l.contains a = true := List.contains_iff_mem.2 hm;rw [this] at h;cases h.1
theorem Rel.sepS : ∀ (l : List Oper) {s : St},Rel P A0 w0 ρ s a w → Rel P A0 w0 ρ (Vx.sepS g l s) a w
  | [],_,h => h
  | o :: l,s,h => by
    unfold Vx.sepS;refine Rel.sepS l ?_
    split
    · split
      · split
        · exact h.freeze _
        · exact h
      · exact h
    · exact h
theorem yC4 {call : (R : Type) → y09 R} (hC : y5S P call) (hRd : y35 P call) (hN : y2C call) (hm : P.follows .mixedOrders = true) (hT : yl P g.T) (hE : ∀ e ∈ g.E,FnOK P e) {K : St → Option R} {Q : Exit → Act → World → Prop} {id : Nat} {draw : Bool} (h : Rel P A0 w0 ρ s a w)
    (hk : y6H g (call R) ops draw s K = some r) (hQ : ∀ ρ s a w,Rel P A0 w0 ρ s a w → K s = some r → Q .normal a w) : (Code.region id ops draw).wpIn (y3A w0.ro) 0 P Q a w := by
  unfold y6H at hk;cases draw with
  | false =>
    simp only [Bool.false_eq_true,if_false] at hk;have hr := yAQ hN (g := g) (ops := ops) (T := fun _ => false) (Q := fun s => K s = some r) (fun h => by cases h) [] ops.toList 0 s K (fun h => by cases h) (fun j _ => by simp) (fun _ _ => rfl) hk (fun s' hs' => hs')
    rw [List.append_nil] at hr;refine wpIn_region ?_
    have := y5g hC hRd hT hE hQ ops.toList 0 h hr;rw [List.range_eq_range'];simpa using this
  | true =>
    simp only [if_true] at hk;replace h := Rel.sepS (g := g) ops.toList h
    generalize Vx.sepS g ops.toList s = s at h hk;replace h := Rel.settleAll (clos ops.toList s) h
    generalize settleAll (clos ops.toList s) s = s at h hk;replace h := Rel.settleCells (lent g ops.toList s) h
    generalize settleCells (lent g ops.toList s) s = s at h hk;replace h := h.splitAt (g := g) ops.toList
    obtain ⟨ρ,h⟩ := h;generalize Vx.splitAt g ops.toList s = s at h hk;generalize apOf g _ ops.toList _ [] = ap at hk;unfold yDM at hk;obtain ⟨hA,hk⟩ := yD hk;obtain ⟨hn1,hn2,hr3⟩ : (ap.map (·.1)).Nodup ∧ (ap.map (·.2.2)).Nodup ∧ ∀ p ∈ ap,s.cH.length ≤ p.2.2 ∧ p.2.2 < s.cH.length + ap.length := by
      rw [Bool.or_eq_true] at hA;rcases hA with hA | hA
      · have hA := List.isEmpty_iff.1 hA;subst hA;exact ⟨List.nodup_nil,List.nodup_nil,fun p hp => by cases hp⟩
      · simp only [Bool.and_eq_true] at hA;refine ⟨y4r hA.1.1,y4r hA.1.2,fun p hp => ?_⟩
        have := List.all_eq_true.1 hA.2 p hp;simpa using this
    generalize (ops.toList.zipIdx.any fun p => decide (p.2 < _) && !yKX { g with ap := ap } _ ops p.1 p.2) = vl at hk
    generalize hg' : ({ g with ap := ap,vl := vl } : G) = g' at hk
    have hT' : yl P g'.T := by rw [← hg']; exact hT
    have hE' : ∀ e ∈ g'.E,FnOK P e := by rw [← hg']; exact hE
    have hap : g'.ap = ap := by rw [← hg']
    rw [← hap] at hn1 hn2 hr3 hk;have hfree : y0M g' (s.pad g'.ap.length) = true := yGa h hr3;replace h := h.pad g'.ap.length
    generalize s.pad g'.ap.length = s at h hk hfree;clear hT hE;unfold yDe at hk;obtain ⟨hB,hk⟩ := yD hk;rw [Bool.and_eq_true] at hB;obtain ⟨hB,hEf⟩ := hB;rw [Bool.and_eq_true] at hB;obtain ⟨hB,hTl⟩ := hB;have hm0 : y4u .any ops.toList (yJ9 .any ops.toList []) := yFA ops.toList [] [] rfl (fun j i h => by simp [y2e] at h)
    generalize yJ9 .any ops.toList [] = ms at hk hTl hEf hm0;have hn : ops.size - yDc ms ops.size ≤ ops.size := Nat.sub_le _ _;have e0 : ops.toList.length = ops.size := Array.length_toList;generalize ops.size - yDc ms ops.size = n at hk hTl hn hEf;simp only [Region.lexB,Bool.and_eq_true] at hB;have hr := yAQ hN (g := g') (ops := ops) (T := fun j => decide (j < n)) (Q := fun s => K s = some r) (fun _ => ⟨hn1,hn2⟩) (ops.toList.drop n) (ops.toList.take n) 0 s _ (fun _ => hfree)
      (fun j hj => by
        rw [List.length_take] at hj;rw [List.getElem?_take,if_pos (by omega)]
        simp)
      (fun j hj => by
        rw [List.length_take] at hj;simp; omega) hk (fun s' hs' => by
        have := yAQ hN (g := g') (ops := ops) (T := fun j => decide (j < n)) (Q := fun s => K s = some r) (fun h => by cases h) [] (ops.toList.drop n) (0 + (ops.toList.take n).length) s' K (fun h => by cases h)
          (fun j hj => by
            rw [List.length_drop] at hj;rw [List.getElem?_drop,List.length_take,Nat.zero_add];rw [Nat.min_eq_left (by omega)]
            simp)
          (fun j hj => by
            rw [List.length_drop] at hj;simp only [List.length_take,decide_eq_false_iff_not];omega) hs' (fun s' hs' => hs')
        rw [List.append_nil] at this;exact this)
    rw [List.take_append_drop] at hr;have h1 := h.drawn (w.drawn + 1);refine wpIn_region_any hm (y59 (g := g') (md := .any) (T := fun j => decide (j < n)) hC hRd hT' hE' hQ _ _ h1 ?_)
    have := yEg (g := g') (call := call St) (md := .any) (ops := ops) (T := fun j => decide (j < n)) (Q := fun s => K s = some r) hn1 hn2 hm0 (fun j o hj hTj i hi => by
        simp at hTj;have hm : (o,j) ∈ ops.toList.zipIdx := by
          rw [List.mem_iff_getElem?];refine ⟨j,?_⟩;rw [List.getElem?_zipIdx];simp [hj]
        have h3 := List.all_eq_true.1 hTl _ hm;simp only [Bool.or_eq_true,decide_eq_true_eq] at h3;rcases h3 with h3 | h3
        · omega
        · exact List.all_eq_true.1 h3 i (List.mem_range.2 hi))
      (fun i j hij hi => by simp at hi ⊢; omega) (fun i o hi he hTi => by
        have hm : (o,i) ∈ ops.toList.zipIdx := by
          rw [List.mem_iff_getElem?];refine ⟨i,?_⟩;rw [List.getElem?_zipIdx];simp [hi]
        have h3 := List.all_eq_true.1 hEf _ hm;simp only [decide_eq_true_eq] at hTi;simp only [Bool.or_eq_true,decide_eq_true_eq] at h3;rcases h3 with h3 | h3
        · omega
        · unfold yKX at h3;rw [he] at h3;simp only [Bool.not_true,Bool.false_or] at h3;refine ⟨fun j oj hoj hij => ?_,fun j oj hoj hji => ?_⟩
          · have h4 := List.all_eq_true.1 h3 j (List.mem_range.2 (Array.getElem?_eq_some_iff.1 hoj).1);rw [if_pos hij,hoj] at h4;have hne : ¬ j = i := by omega
            simp only [hne,decide_false,Bool.false_or,Bool.or_eq_true,Bool.and_eq_true,Bool.not_eq_true',List.isEmpty_eq_false_iff] at h4;rcases h4 with h4 | ⟨⟨h4,h5⟩,(h6 | h6) | h6⟩
            · exact .inl h4
            · exact .inr ⟨h4,h5,.inl h6⟩
            · exact .inr ⟨h4,h5,.inr (.inl h6)⟩
            · exact .inr ⟨h4,h5,.inr (.inr h6)⟩
          · have h4 := List.all_eq_true.1 h3 j (List.mem_range.2 (Array.getElem?_eq_some_iff.1 hoj).1);rw [if_neg (by omega),hoj] at h4
            have hne : ¬ j = i := by omega
            simp only [hne,decide_false,Bool.false_or,Bool.or_eq_true,Bool.and_eq_true,Bool.not_eq_true',List.isEmpty_eq_false_iff] at h4;rcases h4 with (h4 | h4) | h4 | ⟨h4,h5⟩
            · exact .inl h4
            · exact .inr (.inl h4)
            · exact .inr (.inr (.inl h4))
            · exact .inr (.inr (.inr ⟨h4,h5⟩))) ops.toList 0 (Array.replicate ops.size false) s (fun j => by simp) (fun j hj => by simp [hj]) (fun p o hp hl => by simp [Array.getD_eq_getD_getElem?,Array.getElem?_replicate] at hl; split at hl <;> simp at hl) (by simpa using hB.2) hr
    simpa using this
def yPW : Exit → Bool
  | .normal | .exit _ | .ret => true
  | _ => false
omit [GT] in
theorem yDE {b : Frame} {k : List Item} {cs : List Frame} {c : Code} : step P (lone (b.atR a (.code (.scope c) :: k)) cs w) = .next (lone (b.atR a (.code c :: .inScope c :: k)) cs w) :=
  step_lone_go (by simp [stepG,stepG.exec,Frame.atR])
omit [GT] in
theorem yAh {b : Frame} {k : List Item} {cs : List Frame} {c : Code} : step P (lone (b.atR a (.inScope c :: k)) cs w) = .next (lone (b.atR a k) cs w) :=
  step_lone_go (by simp [stepG,stepG.exec,Frame.atR])
omit [GT] in
theorem y4s {F : Fence} {n : Nat} {c : Code} {Q : Exit → Act → World → Prop} (h : c.wpIn F n P (Exit.noGoto Q) a w) : (Code.scope c).wpIn F n P Q a w := by
  intro b k cs hro hb hr;obtain ⟨e,a₁,w₁,hq,harr⟩ := h b (.inScope c :: k) cs hro hb hr;have h0 : StepsIn (Machine.fenced P F) P (lone (b.atR a (.code (.scope c) :: k)) cs w) (lone (b.atR a (.code c :: .inScope c :: k)) cs w) := .one (fenced_calm hb hr rfl) yDE;have hx : ∀ id,exitTo id (.inScope c :: k) = exitTo id k := fun id => by simp [exitTo]
  cases e with
  | normal => exact ⟨.normal,a₁,w₁,hq,h0.trans (StepsIn.trans harr (.one (fenced_calm hb hr rfl) yAh))⟩
  | exit id => exact ⟨.exit id,a₁,w₁,hq,fun k' hk => h0.trans (harr.1 k' (by rw [hx]; exact hk)),fun hro' hk => let ⟨k₁,h1,h2⟩ := harr.2 hro' (by rw [hx]; exact hk); ⟨k₁,h1,h0.trans h2⟩⟩
  | goto l => exact hq.elim
  | ret => exact ⟨_,a₁,w₁,hq,.of_steps h0 harr⟩
  | panic ch => exact ⟨_,a₁,w₁,hq,.of_steps h0 harr⟩
  | outgrown => exact ⟨_,a₁,w₁,hq,.of_steps h0 harr⟩
theorem y9S (cs : List (Option Chunk)) (sv : SV) : clrV cs sv = sv ∨ clrV cs sv = .undef := by
  unfold clrV;split
  · split
    · exact .inr rfl
    · exact .inl rfl
  · exact .inl rfl
theorem Rel.clr (h : Rel P A0 w0 ρ s a w) : Rel P A0 w0 ρ (clrS s) a w := by
  have hsl : (clrS s).slots = s.slots.map (clrV s.cH) := Slots.toList_map _ _;refine ⟨by rw [hsl,List.length_map]; exact h.size,fun i sv hi => ?_,h.cH,h.inj,fun i sv hi => ?_,h.cN,h.below,h.dom,h.defers,h.dep,h.lpi,h.round,h.glob,h.kZ,h.kS,h.kN,h.subs⟩
  · rw [hsl] at hi;simp only [List.getElem?_map,Option.map_eq_some_iff] at hi;obtain ⟨sv',h1,rfl⟩ := hi;rcases y9S s.cH sv' with e | e <;> rw [e]
    · exact h.slots i sv' h1
    · trivial
  · rw [hsl] at hi;simp only [List.getElem?_map,Option.map_eq_some_iff] at hi;obtain ⟨sv',h1,rfl⟩ := hi;rcases y9S s.cH sv' with e | e <;> rw [e]
    · exact h.names i sv' h1
    · trivial
def Base.range (w0 : Base) (info : LpInfo) : Base := { w0 with infos := w0.infos ++ [info] }
theorem Rel.range (h : Rel P A0 w0 ρ s a w) (info : LpInfo) : Rel P A0 (w0.range info) ρ { s with dep := s.dep + 1 } a w :=
  ⟨h.size,h.slots,h.cH,h.inj,h.names,h.cN,h.below,h.dom,h.defers,⟨by simp [Base.range,h.dep.1],h.dep.2⟩,fun β ch q hb hq => by
      have h1 := h.lpi β ch q hb hq;have hlt := (List.getElem?_eq_some_iff.1 h1).1;show (w0.infos ++ [info])[q.1]? = some q.2
      rw [List.getElem?_append_left hlt,h1],h.round,h.glob,h.kZ,h.kS,h.kN,h.subs⟩
theorem Rel.unrange {info : LpInfo} (h : Rel P A0 (w0.range info) ρ s a w) (hlp : ∀ (β : Nat) (ch : Chunk) (q : Nat × LpInfo),s.cH[β]? = some (some ch) → ch.lpNo = some q → q.1 < s.dep - 1) : Rel P A0 w0 ρ { s with dep := s.dep - 1 } a w :=
  have hd : s.dep = w0.infos.length + 1 := by simpa [Base.range] using h.dep.1
  ⟨h.size,h.slots,h.cH,h.inj,h.names,h.cN,h.below,h.dom,h.defers,⟨by show s.dep - 1 = _; omega,h.dep.2⟩,fun β ch q hb hq => by
      have h1 := h.lpi β ch q hb hq;have hlt := hlp β ch q hb hq;have h2 : (w0.infos ++ [info])[q.1]? = some q.2 := h1;rwa [List.getElem?_append_left (by omega)] at h2,h.round,h.glob,h.kZ,h.kS,h.kN,h.subs⟩
theorem Rel.mark (h : Rel P A0 w0 ρ s a w) {r : Nat} (hr : w.heap[r]? = some (.deferred (some []))) (hr0 : w0.w.heap.size ≤ r) (hnew : ∀ ms : List Nat,a.defers = ms.map markD → r ∉ ms) (hnew' : r ∉ w0.marks) :
    Rel P A0 w0 ρ { s with nmk := s.nmk + 1 } { a with defers := markD r :: a.defers } w := by
  obtain ⟨ms,⟨h1,h2,h3⟩,h4⟩ := h.defers;refine ⟨h.size,h.slots,h.cH,h.inj,h.names,h.cN,h.below,h.dom,⟨r :: ms,⟨by simp [h1],fun h0 => by simp at h0,?_⟩,fun q hq => ?_⟩,h.dep,h.lpi,h.round,h.glob,h.kZ,h.kS,h.kN,h.subs⟩
  · rw [List.cons_append,List.nodup_cons];refine ⟨fun hm => ?_,h3⟩
    rcases List.mem_append.1 hm with hm | hm
    · exact hnew ms h1 hm
    · exact hnew' hm
  · rcases hq with hq | hq
    · rcases List.mem_cons.1 hq with rfl | hq
      · exact ⟨hr,hr0⟩
      · exact h4 q (.inl hq)
    · exact h4 q (.inr hq)
theorem yEC (h : Rel P A0 w0 ρ s a w) : (∀ ms : List Nat,a.defers = ms.map markD → w.heap.size ∉ ms) ∧ w.heap.size ∉ w0.marks := by
  obtain ⟨ms0,⟨h1,h2,h3⟩,h4⟩ := h.defers;have key : ∀ r,r ∈ ms0 ∨ r ∈ w0.marks → r < w.heap.size := fun r hr => yG (h4 r hr).1
  refine ⟨fun ms hms hin => ?_,fun hin => Nat.lt_irrefl _ (key _ (.inr hin))⟩
  have e : ms = ms0 := by
    have := hms.symm.trans h1;have inj : Function.Injective markD := fun x y hxy => by
      have := congrArg Deferred.target hxy;simpa [markD] using this
    exact (List.map_inj_right (fun x y hxy => inj hxy)).1 this
  subst e;exact Nat.lt_irrefl _ (key _ (.inl hin))
theorem yAY {f : Operand} {l : Nat} {n : FuncId} {caps : List Value} (hf : a.eval f = .func (.func n) #[] caps.toArray) (hE : y3R P n) :
    ∃ d,(resolve a.eval (rangeCall f l) 0).run P w = .ok d w ∧ (invoke d.target d.args).run P w = .ok (.enter n ((.func (.yield l) #[] #[] :: caps).toArray)) w := by
  obtain ⟨fn,h1,h2,h3⟩ := hE;refine ⟨{ target := .fn (.func n) caps.toArray,args := #[.func (.yield l) #[] #[]] },?_,?_⟩
  · simp only [rangeCall,resolve,hf,Deferred.ofValue,Sem.run_pure];simp [Act.eval]
  · have e1 : (#[Value.func (.yield l) #[] #[]] ++ caps.toArray) = (Value.func (.yield l) #[] #[] :: caps).toArray := by
      apply Array.toList_inj.1; simp
    simp only [invoke,callFunc,e1,Sem.run_bind];simp [h1];rw [if_neg (by simpa using h2),if_neg (by intro hb; rw [hb] at h3; cases h3)]
theorem Rel.enterRange (h : Rel P A0 w0 ρ s a w) (fn : FuncId) (info : LpInfo) :
    ∃ l mark w1 ρ1,(Instr.enterLoop fn a.tmps info.ps info.assign info.body w0.ro).run P w = .ok (l,mark) w1 ∧
      (∀ sv v,sv.inn s.cH.length → yC P (Av A0 ρ s.cH) w ρ sv v → yC P (Av A0 ρ1 (s.cH ++ [some (.lp s.dep info s.slots .ready)])) w1 ρ1 sv v) ∧
      (∃ b,(ρ1 s.cH.length).blk = some b ∧ b = l) ∧
      Rel P A0 ((w0.range info).push (.func (.yield l) #[] #[])) ρ1 { s with cH := s.cH ++ [some (.lp s.dep info s.slots .ready)],kept := .yld s.cH.length :: s.kept,dep := s.dep + 1,nmk := if s.rnd then s.nmk else s.nmk + 1 }
        { a with defers := mark ++ a.defers } w1 := by
  have hif : (if s.rnd then s.nmk else s.nmk + 1) = if w0.ro.isSome then s.nmk else s.nmk + 1 := by rw [h.dep.2]
  rw [hif];clear hif;have gen : ∀ (wA : World) (d : Nat),Below w.heap.size w wA → ∀ {s2 : St} {a2 : Act},s2.sl = s.sl → s2.cH = s.cH → s2.kept = s.kept → s2.dep = s.dep → a2.tmps = a.tmps → Rel P A0 w0 ρ s2 a2 wA →
      ∃ ρ1,(∀ sv v,sv.inn s.cH.length → yC P (Av A0 ρ s.cH) w ρ sv v → yC P (Av A0 ρ1 (s.cH ++ [some (.lp s.dep info s.slots .ready)])) (wA.alloc (.loop { state := .ready,pending := none,fn,tmps := a.tmps,params := info.ps,assign := info.assign,body := info.body,defers := d })) ρ1 sv v) ∧
        (∃ b,(ρ1 s.cH.length).blk = some b ∧ b = wA.heap.size) ∧
        Rel P A0 ((w0.range info).push (.func (.yield wA.heap.size) #[] #[])) ρ1 { s2 with cH := s.cH ++ [some (.lp s.dep info s.slots .ready)],kept := .yld s.cH.length :: s.kept,dep := s.dep + 1 } a2
          (wA.alloc (.loop { state := .ready,pending := none,fn,tmps := a.tmps,params := info.ps,assign := info.assign,body := info.body,defers := d })) := by
    intro wA d hb s2 a2 e1 e2 e3 e4 e5 h2;obtain ⟨sl,ch,ke,de,nm,rd⟩ := s2;simp only at e1 e2 e3 e4;subst e1 e2 e3 e4;have hbl := y0G wA (.loop { state := .ready,pending := none,fn,tmps := a.tmps,params := info.ps,assign := info.assign,body := info.body,defers := d });have h3 := (h2.range info).newChunk (.lp s.dep info s.slots .ready) ⟨some wA.heap.size,0,0,[],[],[]⟩ hbl (fun b hb => by cases hb; exact Nat.le_refl _) (fun sv hs => by
        obtain ⟨i,hi⟩ := List.getElem?_of_mem hs;exact h2.names i sv hi)
      (fun A hA _ => ⟨wA.heap.size,_,rfl,heap_alloc_new wA _,⟨rfl,rfl,rfl,rfl,.inr rfl⟩,by rw [h.size],fun i sv hi => by
        have h4 := h2.slots i sv hi;have hlt : i < a.tmps.size := h.size ▸ (List.getElem?_eq_some_iff.1 hi).1;refine ⟨a.tmps.getD i undef,by simp [Array.getD_eq_getD_getElem?,hlt],?_⟩
        rw [e5] at h4;exact h4.mono (fun n hn _ => hbl.block n hn) hA⟩)
      (fun q hq => by
        cases hq;show (w0.infos ++ [info])[s.dep]? = some info
        rw [h.dep.1];simp)
    refine ⟨_,fun sv v hi hv => ?_,⟨wA.heap.size,by rw [Places.set_self],rfl⟩,h3.push (sv := .yld s.cH.length) ⟨wA.heap.size,by rw [Places.set_self],rfl⟩ (by show s.cH.length < (s.cH ++ [_]).length; simp)⟩
    have he : ∀ β,β < s.cH.length → ρ.set s.cH.length ⟨some wA.heap.size,0,0,[],[],[]⟩ β = ρ β := fun β hβ => Places.set_lt ρ _ hβ
    refine (hv.congr he hi).mono (fun n hn _ => (hbl.block n (Nat.lt_of_lt_of_le hn hb.size)).trans (hb.block n hn)) (fun n hn hA => ?_)
    rcases hA with (h0 | ⟨β,c,hc,hbn⟩) | ⟨β,c,hc,hbn⟩
    · exact .inl (.inl h0)
    · rcases yV hc with ⟨hl,hc⟩ | ⟨rfl,rfl⟩
      · rw [he β hl] at hbn;exact .inl (.inr ⟨β,c,hc,hbn⟩)
      · rw [Places.set_self] at hbn;cases hbn
    · rcases yV hc with ⟨hl,hc⟩ | ⟨rfl,rfl⟩
      · rw [he β hl] at hbn;exact .inr ⟨β,c,hc,hbn⟩
      · rw [Places.set_self] at hbn;cases hbn;exact absurd hn (Nat.not_lt.2 hb.size)
  cases hro : w0.ro with
  | none =>
    have hb1 := y0G w (.deferred (some []));have h1 := (h.step hb1).mark (r := w.heap.size) (heap_alloc_new w _) h.below.size (yEC h).1 (yEC h).2;obtain ⟨ρ1,g1,g2,g3⟩ := gen (w.alloc (.deferred (some []))) w.heap.size hb1 (s2 := { s with nmk := s.nmk + 1 }) (a2 := { a with defers := markD w.heap.size :: a.defers }) rfl rfl rfl rfl rfl h1
    rw [World.size_alloc] at g2 g3;exact ⟨_,_,_,ρ1,run_enterLoop_outer ..,g1,g2,g3⟩
  | some l0 =>
    obtain ⟨r0,hr0⟩ := h.round l0 (.inl hro);obtain ⟨ρ1,g1,g2,g3⟩ := gen w r0.defers (Below.refl _ _) rfl rfl rfl rfl rfl h;exact ⟨_,_,_,ρ1,run_enterLoop_inner hr0 ..,g1,g2,g3⟩
theorem y9l {d : Nat} {cs : List (Option Chunk)} {γ : Nat} {c : Chunk} (h : (y5B d cs)[γ]? = some (some c)) : cs[γ]? = some (some c) ∧ ∀ q,c.lpNo = some q → q.1 < d := by
  unfold y5B at h;rw [List.getElem?_map,Option.map_eq_some_iff] at h;obtain ⟨o,h1,h2⟩ := h;rw [h1];split at h2
  · split at h2
    · rename_i hi;cases h2;exact ⟨rfl,fun q hq => by cases hq; exact hi⟩
    · cases h2
  · rename_i hno;subst h2;refine ⟨rfl,fun q hq => ?_⟩
    cases c with
    | lp i info cells st => exact absurd rfl (hno i info cells st)
    | _ => cases hq
theorem Rel.writeLp (h : Rel P A0 w0 ρ s a w) {β l i : Nat} {info : LpInfo} {cells : List SV} {st st' : LpSt} {rc rc' : Loop} (hc : s.cH[β]? = some (some (.lp i info cells st))) (hb : (ρ β).blk = some l) (hl : w.heap[l]? = some (.loop rc))
    (ht : rc'.tmps = rc.tmps) (hp : rc'.params = rc.params) (ha : rc'.assign = rc.assign) (hbd : rc'.body = rc.body) (hst : rc'.state = st'.state) (hpe : st' = .over ∨ rc'.pending = st'.pending) :
    Rel P A0 w0 ρ { s with cH := s.cH.set β (some (.lp i info cells st')) } a (w.putObj l (.loop rc')) := by
  obtain ⟨b',rec',hb',g1,⟨g2,g3,g4,_,_⟩,g5,g6⟩ := (h.cH β _ hc).1;rw [hb] at hb'; cases hb';rw [hl] at g1; cases g1;have hlt := yG hl;have hK : Keep (Av A0 ρ s.cH) w (w.putObj l (.loop rc')) := fun n hn hnA => World.putObj_heap_other (fun e => hnA (.inr ⟨β,_,hc,e ▸ hb⟩))
  exact h.write hc hb (fun n hn => World.putObj_heap_other hn) (by simp [World.putObj]) rfl rfl rfl (show Chunk.inn s.cH.length (.lp i info cells st') from h.cN β (.lp i info cells st) hc)
    (fun A hA => ⟨l,rc',hb,World.putObj_heap_same hlt,⟨hp.trans g2,ha.trans g3,hbd.trans g4,hst,hpe⟩,by rw [ht]; exact g5,fun j sv hj => by
      obtain ⟨v,h1,h2⟩ := g6 j sv hj;exact ⟨v,by rw [ht]; exact h1,h2.mono hK (fun n _ hn => (hA n).1 hn)⟩⟩)
theorem Rel.endRange {info : LpInfo} {l : Nat} {K : Exit → St → Option R} (h : Rel P A0 ((w0.range info).push (.func (.yield l) #[] #[])) ρ s a w) (hk : Vx.endRange s K = some r) :
    ∃ jump w' s' e,(Instr.endLoop l).run P w = .ok jump w' ∧ Rel P A0 w0 ρ s' a w' ∧ K e s' = some r ∧ ((jump = none ∧ e = .normal) ∨ (∃ id,jump = some (.exit id) ∧ e = .exit id) ∨ (jump = some .ret ∧ e = .ret)) := by
  unfold Vx.endRange at hk;split at hk
  · rename_i β kept hkp;split at hk
    · rename_i i info' cells st hch;obtain ⟨e,he,hk⟩ := Option.bind_eq_some_iff.1 hk;have hc := getD_some hch;have hh := h.kS 0 (.yld β) (by rw [hkp]; rfl)
      obtain ⟨b,hb,hv⟩ := hh;have hbl : b = l := by
        simp only [Base.push,List.getD_cons_zero,Value.func.injEq,Fn.yield.injEq] at hv;exact hv.1.symm
      subst hbl;obtain ⟨b',rc,hb',g1,⟨g2,g3,g4,g5,g6⟩,g7,g8⟩ := (h.cH β _ hc).1;rw [hb] at hb'; cases hb';have hnb : rc.state ≠ .busy := by
        rw [g5];intro hs;cases st <;> simp [LpSt.state,LpSt.exit] at hs he
      have hnv : st ≠ .over := by
        intro hs;subst hs;simp [LpSt.exit] at he
      have hpe : rc.pending = st.pending := g6.resolve_left hnv;have h1 := h.writeLp (st' := .over) (rc' := { rc with state := .exhausted }) hc hb g1 rfl rfl rfl rfl rfl (.inl rfl)
      have h2 := h1.dropAll (cs := y5B (s.dep - 1) (s.cH.set β none)) (by simp [y5B]) (fun γ c hg => by
        obtain ⟨h3,_⟩ := y9l hg;by_cases hbg : β = γ
        · subst hbg;rw [List.getElem?_set] at h3;simp at h3
        · rw [List.getElem?_set_ne hbg] at h3 ⊢; exact h3)
      have h3 := h2.pop hkp;have h4 := h3.unrange (fun γ c q hg hq => (y9l hg).2 q hq)
      refine ⟨rc.pending,_,_,e,run_endLoop g1 hnb,h4,hk,?_⟩;rw [hpe];cases st with
      | ready => cases he; exact .inl ⟨rfl,rfl⟩
      | busy => cases he
      | over => cases he
      | done j =>
        cases j with
        | exit id => cases he; exact .inr (.inl ⟨id,rfl,rfl⟩)
        | ret => cases he; exact .inr (.inr ⟨rfl,rfl⟩)
    · cases hk
  · cases hk
theorem y4O {call : (R : Type) → y09 R} (hC : y5S P call) (hRd : y35 P call) (hN : y2C call) (hm : P.follows .mixedOrders = true) (hT : yl P g.T) (hE : ∀ e ∈ g.E,FnOK P e) {fuel : Nat} : ∀ (c : Code) (kp : List (List Nat)) {ρ : Places} {s : St} {a : Act} {w : World} {K : Exit → St → Option R} {Q : Exit → Act → World → Prop},
    Rel P A0 w0 ρ s a w → exec g (call R) fuel c kp s K = some r → (∀ e ρ s a w,yPW e = true → Rel P A0 w0 ρ s a w → K e s = some r → Q e a w) → c.wpIn (y3A w0.ro) 0 P Q a w := by
  intro c;induction c with
  | skip => intro kp ρ s a w K Q h hk hQ; exact wpIn_skip (hQ .normal _ _ _ _ rfl h hk)
  | region id ops draw => intro kp ρ s a w K Q h hk hQ; exact yC4 hC hRd hN hm hT hE h hk (fun ρ s a w hR hK => hQ .normal _ _ _ _ rfl hR hK)
  | seq x y ihx ihy =>
    intro kp ρ s a w K Q h hk hQ;refine wpIn_seq (ihx kp h hk fun e ρ s a w he hR hK => ?_)
    cases e with
    | normal => exact ihy _ hR hK hQ
    | exit id => exact hQ _ _ _ _ _ rfl hR hK
    | ret => exact hQ _ _ _ _ _ rfl hR hK
    | _ => cases he
  | cond c x y ihx ihy =>
    intro kp ρ s a w K Q h hk hQ;simp only [exec] at hk;split at hk
    · rename_i p hp;have hv := (y3 (T := g.T) h 0 c).1;rw [hp] at hv;refine wpIn_cond (y3L hv) ?_
      cases p with
      | true => exact ihx _ h hk hQ
      | false => exact ihy _ h hk hQ
    · cases hk
  | block id c ih =>
    intro kp ρ s a w K Q h hk hQ;refine wpIn_block (ih kp h hk fun e ρ s a w he hR hK => ?_)
    cases e with
    | normal => exact hQ _ _ _ _ _ rfl hR hK
    | exit id' =>
      simp only [Exit.inBlock];dsimp only at hK;split at hK
      · rename_i hid; rw [if_pos hid]; exact hQ _ _ _ _ _ rfl hR hK
      · rename_i hid; rw [if_neg hid]; exact hQ _ _ _ _ _ rfl hR hK
    | ret => exact hQ _ _ _ _ _ rfl hR hK
    | _ => cases he
  | loop c ih =>
    intro kp ρ s a w K Q h hk hQ;simp only [exec] at hk;have hf := (h.frz c).frzK (kp.headD []);have hs0 : (y6o c (kp.headD []) s).Ok := let h0 := yJg hf (kp.headD []); ⟨h0.names,h0.cN,h0.kN⟩
    have hI0 : LpI w0.infos (y6o c (kp.headD []) s) := yES hf.lpi _;have hd0 : ∀ s' : St,s'.dep = w0.infos.length ∧ s'.rnd = w0.ro.isSome → (y6o c (kp.headD []) s).dep = s'.dep ∧ (y6o c (kp.headD []) s).rnd = s'.rnd := fun s' hs' => ⟨hf.dep.1.trans hs'.1.symm,hf.dep.2.trans hs'.2.symm⟩
    clear hf;obtain ⟨ρ1,h1⟩ := yG4 h c (kp.headD []);have h2 := h1.weak (yBl h1 hs0 hI0 ⟨rfl,rfl⟩ (yIO _)) (yBj hI0 _);clear h1 h;generalize y6o c (kp.headD []) s = s0 at *;generalize stX s0 = y at *;refine wpIn_loop_rounds fuel ?_
    generalize hF : (fun (r : (stTy s0).den → Option R) (y : (stTy s0).den) => exec g (call R) fuel c kp.tail (y4i s0 y) fun e s' => match e with
      | .normal => (stAs s0 (canon (kp.headD []) (frzK (kp.headD []) s'))).bind r
      | e => K e s') = F at hk
    generalize fuel = n at hk;induction n generalizing ρ1 a w y with
    | zero => cases hk
    | succ n ihn =>
      have hk2 : F (iter F n) y = some r := hk;rw [← hF] at hk2;refine ih kp.tail h2 hk2 fun e ρ' s' a' w' he hR hK => ?_
      cases e with
      | normal =>
        dsimp only at hK;obtain ⟨y',hy',hk'⟩ := Option.bind_eq_some_iff.1 hK;rw [hF] at hk';obtain ⟨ρ2,h3⟩ := (hR.frzK (kp.headD [])).canon (kp.headD []);exact ihn ρ2 y' (h3.weak (yBl h3 hs0 hI0 (hd0 _ h3.dep) hy') (yBj hI0 _)) hk'
      | exit id => exact hQ _ _ _ _ _ rfl hR hK
      | ret => exact hQ _ _ _ _ _ rfl hR hK
      | _ => cases he
  | scope c ih =>
    intro kp ρ s a w K Q h hk hQ;refine y4s (ih kp h hk fun e ρ s a w he hR hK => ?_)
    cases e with
    | normal => exact hQ _ _ _ _ _ rfl hR hK
    | exit id => exact hQ _ _ _ _ _ rfl hR hK
    | ret => exact hQ _ _ _ _ _ rfl hR hK
    | _ => cases he
  | rangeFunc f ps x y _ _ =>
    intro kp ρ s a w K Q h hk hQ;simp only [exec] at hk;replace h := (h.live g.lv).clr
    generalize clrS (s.live g.lv) = s at h hk;unfold yIu at hk;split at hk
    · rename_i n caps hev;obtain ⟨hs,hin⟩ := y3 (T := g.T) h 0 f;rw [hev] at hs hin;obtain ⟨vs,hfv,hr⟩ := hs;refine wpIn_rangeFunc fun fn _ => ?_
      obtain ⟨l,mark,w1,ρ1,e1,e2,⟨b,hb,hbl⟩,h1⟩ := h.enterRange fn { ps := ps,assign := x,body := y,keep := kp,mU := g.mU,fz := g.fz,lv := g.lv,sep := g.sep };subst hbl;obtain ⟨hEn,hCalls⟩ := hC h1 (svs := .yld s.cH.length :: y1T caps) (vs := .func (.yield b) #[] #[] :: vs) (by
          have hcv := y1m hr;refine ⟨by simp [hcv.1],fun i sv hi => ?_⟩
          cases i with
          | zero => simp at hi; subst hi; exact ⟨_,rfl,b,hb,rfl⟩
          | succ i =>
            obtain ⟨v,q1,q2⟩ := hcv.2 i sv (by simpa using hi)
            exact ⟨v,by simpa using q1,e2 sv v (y3x hin sv (List.mem_of_getElem? (by simpa using hi))) q2⟩)
        (fun sv hs => by
          rcases List.mem_cons.1 hs with rfl | hs
          · show s.cH.length < (s.cH ++ [_]).length
            simp
          · exact SV.inn_mono (by simp) (y3x hin sv hs)) hk
      obtain ⟨d,hres,hinv⟩ := yAY (P := P) (w := w1) (l := b) hfv hEn;refine ⟨b,mark,w1,d,w1,n,_,w1,e1,hres,fun _ _ => trivial,hinv,fun h => (by cases h),yEY.2 (hCalls.mono fun ex w2 hB => ?_)⟩
      obtain ⟨v,ρ2,s2,sv,rfl,hR,_,_,hK2⟩ := hB;obtain ⟨jump,w3,s3,e,g1,g2,g3,g4⟩ := hR.endRange hK2;refine ⟨jump,w3,g1,?_⟩;rcases g4 with ⟨rfl,rfl⟩ | ⟨id,rfl,rfl⟩ | ⟨rfl,rfl⟩
      · exact hQ .normal _ _ _ _ rfl g2 g3
      · exact wpIn_exit (hQ _ _ _ _ _ rfl g2 g3)
      · exact wpIn_ret (hQ _ _ _ _ _ rfl g2 g3)
    · cases hk
  | exit id => intro kp ρ s a w K Q h hk hQ; exact wpIn_exit (hQ _ _ _ _ _ rfl h hk)
  | ret => intro kp ρ s a w K Q h hk hQ; exact wpIn_ret (hQ _ _ _ _ _ rfl h hk)
  | label l => intro kp ρ s a w K Q h hk hQ; exact wpIn_label (hQ .normal _ _ _ _ rfl h hk)
  | _ => intro kp ρ s a w K Q h hk hQ; simp [exec] at hk
end
end Go.Vx
end
