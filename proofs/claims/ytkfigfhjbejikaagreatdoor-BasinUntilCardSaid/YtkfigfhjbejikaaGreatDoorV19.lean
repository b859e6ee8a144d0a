/- V19: how an operation goes on does not matter to what it yields. -/
import Derived.Test.YtkfigfhjbejikaaGreatDoorV18
set_option linter.all false
namespace Go.Vx
open Go.RowKit
variable [GT]

section
variable {R : Type} {g : G} {s : St} {o : Oper}

theorem intK_nat (op : BinOp) (k : IntKind) (a b : Int) (K : SV → Option R) : intK op k a b K = (intK op k a b some).bind K := by
  unfold intK
  split <;> first | rfl | (cases (b == 0) <;> rfl)

theorem shiftK_nat (op : BinOp) (k : IntKind) (a b : Int) (K : SV → Option R) : shiftK op k a b K = (shiftK op k a b some).bind K := by
  unfold shiftK
  cases decide (b < 0)
  · simp only [cond_false]
    split <;> rfl
  · rfl

theorem strK_nat (op : BinOp) (a b : List UInt8) (K : SV → Option R) : strK op a b K = (strK op a b some).bind K := by
  unfold strK
  split <;> first | rfl | (cases decide (a.length + b.length < strMax) <;> rfl)

theorem aggK_nat (ty : Ty) (op : BinOp) (t : Ty) (p : t.den) (u : Ty) (q : u.den) (K : SV → Option R) : aggK ty op t p u q K = (aggK ty op t p u q some).bind K := by
  unfold aggK
  split
  · split
    · split <;> rfl
    · rfl
  · rfl

theorem binK_nat (ty : Ty) (op : BinOp) (x y : SV) (K : SV → Option R) : binK ty op x y K = (binK ty op x y some).bind K := by
  unfold binK
  split
  · split
    · exact shiftK_nat ..
    · exact shiftK_nat ..
    · split
      · exact intK_nat ..
      · rfl
  · exact strK_nat ..
  · split
    · split <;> rfl
    · rfl
  · split
    · split <;> rfl
    · split <;> rfl
    · rfl
  · exact aggK_nat ..
  · exact aggK_nat ..
  · rfl

theorem unK_nat (op : UnOp) (x : SV) (K : SV → Option R) : unK op x K = (unK op x some).bind K := by
  unfold unK
  split <;> rfl

theorem lenK_nat (ty : Ty) (cs : List (Option Chunk)) (x : SV) (K : SV → Option R) : lenK ty cs x K = (lenK ty cs x some).bind K := by
  unfold lenK
  split
  · split <;> rfl
  · split <;> rfl
  · split <;> rfl
  · split <;> rfl
  · split
    · split <;> rfl
    · rfl
  · split <;> rfl

theorem sliceK_nat {α : Type} (xs : List α) (lo hi : Option Int) (F : List α → SV) (K : SV → Option R) : (sliceK xs lo hi fun ys => K (F ys)) = (sliceK xs lo hi fun ys => some (F ys)).bind K := by
  unfold sliceK
  split
  · rfl
  · rename_i l
    cases (decide (0 ≤ l) && decide (l ≤ (xs.length : Int))) <;> rfl
  · rename_i h
    cases (decide (0 ≤ h) && decide (h ≤ (xs.length : Int))) <;> rfl
  · rename_i l h
    cases (decide (0 ≤ l) && decide (l ≤ h) && decide (h ≤ (xs.length : Int))) <;> rfl

theorem maxK_nat (mx : Bool) (xs : List SV) (K : SV → Option R) : maxK mx xs K = (maxK mx xs some).bind K := by
  unfold maxK
  split
  · split <;> rfl
  · rfl

theorem bind_nat {α : Type} (x : Option α) (F : α → SV) (K : SV → Option R) : (x.bind fun y => K (F y)) = (x.bind fun y => some (F y)).bind K := by cases x <;> rfl

theorem methK_nat (f : FuncId) (first : List Operand) (K : SV → Option R) : methK g s f first K = (methK g s f first some).bind K := by
  unfold methK
  split
  · rw [Option.bind_assoc]; rfl
  · rfl

theorem dataK_nat (cs : List (Option Chunk)) (sv : SV) (K : SV → Option R) : dataK cs sv K = (dataK cs sv some).bind K := by
  unfold dataK
  split
  · split
    · rename_i xs _ _
      cases decide (0 < List.length xs) <;> rfl
    · rfl
  · rfl

theorem ptrK_nat (sv : SV) (K : SV → Option R) : ptrK sv K = (ptrK sv some).bind K := by
  unfold ptrK
  split <;> rfl

theorem pureK_nat (K : SV → Option R) : pureK g s o K = (pureK g s o some).bind K := by
  unfold pureK
  split
  · rfl
  · rfl
  · split
    · rename_i p _
      cases p <;> rfl
    · rfl
  · split
    · exact bind_nat ..
    · split
      · split
        · exact bind_nat ..
        · exact bind_nat (F := fun y => y) ..
      · rfl
    · split
      · split
        · simp only [Option.bind_assoc, Option.bind_some]
        · rfl
      · rfl
    · rfl
  · split
    · rfl
    · split
      · rfl
      · rfl
      · exact binK_nat ..
  · exact unK_nat ..
  · split
    · rfl
    · split
      · split <;> rfl
      · split <;> rfl
      · rfl
  · split
    · split
      · exact bind_nat ..
      · rfl
    · rfl
  · split
    · split
      · exact bind_nat ..
      · rfl
    · split
      · exact bind_nat ..
      · rfl
    · split
      · exact bind_nat ..
      · rfl
    · rfl
  · split
    · split
      · exact bind_nat ..
      · rfl
    · split
      · exact bind_nat ..
      · rfl
    · split
      · exact bind_nat ..
      · rfl
    · split
      · split
        · exact bind_nat ..
        · rfl
      · rfl
    · rename_i n _ _ _ _ _
      split
      · rename_i m _ _
        cases hb : (decide (0 ≤ n) && decide (n < (m : Int))) <;> rfl
      · rfl
    · rfl
  · split
    · split
      · exact bind_nat ..
      · rfl
    · split
      · exact bind_nat ..
      · rfl
    · rfl
  · split
    · split
      · rw [Option.bind_assoc]
        congr 1
        funext y
        unfold lookupK
        split <;> rfl
      · rfl
    · rfl
  · split
    · exact bind_nat ..
    · rfl
  · split
    · rfl
    · split
      · exact bind_nat ..
      · rfl
  · split
    · split
      · split
        · exact bind_nat ..
        · rfl
      · split
        · exact bind_nat ..
        · rfl
      · rfl
    · rfl
  · split
    · rfl
    · split
      · split
        · split
          · exact bind_nat ..
          · rfl
        · rfl
      · rfl
  · split
    · exact bind_nat ..
    · split
      · exact methK_nat ..
      · rfl
  · split
    · split
      · split
        · exact sliceK_nat ..
        · rfl
      · split
        · exact sliceK_nat ..
        · rfl
      · split
        · exact sliceK_nat ..
        · rfl
      · rfl
    · rfl
  · split
    · split
      · split
        · exact lenK_nat ..
        · rfl
      · rfl
    · exact maxK_nat ..
    · exact maxK_nat ..
    · split
      · exact dataK_nat ..
      · rfl
    · rfl
  · exact ptrK_nat ..
  · rfl

theorem bindS_nat {α : Type} (x : Option α) (F : α → St) (K : St → Option R) : (x.bind fun y => K (F y)) = (x.bind fun y => some (F y)).bind K := by cases x <;> rfl

theorem putK_nat {t : TypeId} {m key x : Operand} (K : St → Option R) : putK g s o t m key x K = (putK g s o t m key x some).bind K := by
  unfold putK
  dsimp only
  split
  · split
    · split
      · simp only [Option.bind_assoc, Option.bind_some]
      · rfl
    · rfl
  · rfl

theorem appendStrK_nat {b x : Operand} {t t' : TypeId} (K : St → Option R) : appendStrK g s o b x t t' K = (appendStrK g s o b x t t' some).bind K := by
  unfold appendStrK
  split
  · split
    · split
      · rename_i i β bs _ _ _ _ e xs nn _ _
        cases decide (List.length xs + List.length bs ≤ memMax) <;> rfl
      · rfl
    · rfl
  · rfl

theorem strDataK_nat {x n : Operand} {t : TypeId} (K : St → Option R) : strDataK g s o x n t K = (strDataK g s o x n t some).bind K := by
  unfold strDataK
  split
  · split
    · split
      · split
        · rename_i m _ _ _ _ e xs _ _ _ _ _ _
          cases (m == (List.length xs : Int) && decide (0 < List.length xs) && isBytes xs) <;> rfl
        · rfl
      · rfl
    · rfl
  · rfl

theorem allocOwn_nat {e : TypeId} {i : TyI} {d : Option Nat} (K : St → Option R) : allocOwn g s e i d K = (allocOwn g s e i d some).bind K := by
  unfold allocOwn
  split
  · rfl
  · dsimp only
    split <;> rfl

theorem effK_nat (K : St → Option R) : effK g s o K = (effK g s o some).bind K := by
  unfold effK
  split
  · split
    · split
      · exact allocOwn_nat ..
      · rfl
    dsimp only
    split
    · exact bindS_nat ..
    · rfl
  · split
    · split
      · exact allocOwn_nat ..
      · rfl
    · rfl
  · split
    · split
      · split
        · rename_i t _ x _ _ _ _ _ _ _ _ _ _ _
          cases valOf [] (evalO g.T _ s _) _ with
          | none => rfl
          | some y =>
            simp only [Option.bind_some]
            split <;> rfl
        · split <;> rfl
      · rfl
    · dsimp only
      split
      · split
        · simp only [Option.bind_assoc, Option.bind_some]
        · rfl
      · rfl
    · rfl
  · split
    · split <;> rfl
    · rfl
  · split
    · split <;> rfl
    · rfl
  · unfold nextK
    split
    · split
      · rename_i bs q _; cases decide (q < (List.length bs : Int)) <;> rfl
      · rfl
    · rfl
  · exact putK_nat ..
  · exact putK_nat ..
  · split
    · split
      · rename_i n m _ _ _ _ u _
        cases (u.zok && decide (0 ≤ n) && decide (n ≤ (memMax : Int)) && n == m) <;> rfl
      · rfl
    · rfl
  · dsimp only
    split
    · split
      · split
        · rfl
        · exact bindS_nat ..
      · rfl
    · rfl
  · split
    · split <;> rfl
    · rfl
  · split
    · exact strDataK_nat ..
    · rfl
  · split
    · split
      · exact appendStrK_nat ..
      dsimp only
      split
      · split
        · rename_i e u xs nn _
          split
          · rw [Option.bind_assoc]
            congr 1
            funext ys
            cases decide (xs.length + List.length ys ≤ memMax) <;> rfl
          · rfl
        · rfl
      · rfl
    · rfl
  · split
    · dsimp only
      split
      · split
        · split
          · exact bindS_nat ..
          · rfl
        · rfl
      · rfl
    · rfl
  · rfl

theorem contractK_nat {ta tr : Ty} {m : ta.den → Option tr.den} {c : Call} {caps : St → List SV} {dr : Bool} {dst : Option Nat} (K : St → Option R) :
    contractK g ta tr m s c caps dr dst K = (contractK g ta tr m s c caps dr dst some).bind K := by
  unfold contractK
  split
  · simp only [Option.bind_assoc, Option.bind_some]
  · split
    · simp only [Option.bind_assoc, Option.bind_some]
    · simp only [Option.bind_assoc, Option.bind_some]

def CallNat (call : (R : Type) → CallK R) : Prop :=
  ∀ {R : Type} (n : Tgt) (svs : List SV) (s : St) (K : SV → St → Option R), call R n svs s K = (call (SV × St) n svs s fun sv s => some (sv, s)).bind fun p => K p.1 p.2

theorem yieldK_nat {call : (R : Type) → CallK R} (hN : CallNat call) {c : Call} {f : Operand} {β : Nat} (K : St → Option R) : yieldK g (call R) s o c f β K = (yieldK g (call St) s o c f β some).bind K := by
  unfold yieldK
  split
  · dsimp only
    split
    · rw [hN, hN (R := St), Option.bind_assoc]
      congr 1
      funext p
      split
      · split <;> rfl
      · rfl
    · rfl
  · rfl

theorem callK_nat {call : (R : Type) → CallK R} (hN : CallNat call) {dr : Bool} {c : Call} {f : Operand} (K : St → Option R) : callK g (call R) dr s o c f K = (callK g (call St) dr s o c f some).bind K := by
  unfold callK
  split
  · split
    · exact contractK_nat ..
    · split
      · rfl
      · rw [hN, hN (R := St), Option.bind_assoc]
        rfl
  · exact contractK_nat ..
  · split
    · rfl
    · exact yieldK_nat hN ..
  · rfl

theorem stepOp_nat {call : (R : Type) → CallK R} (hN : CallNat call) {dr : Bool} (K : St → Option R) : stepOp g (call R) dr s o K = (stepOp g (call St) dr s o some).bind K := by
  unfold stepOp
  split
  · split
    · unfold effD
      split
      · unfold allocD
        split
        · split
          · rfl
          · split <;> rfl
        · rfl
      · unfold storeD
        split
        · split
          · rfl
          · split
            · split
              · split
                · rename_i t _ x _ _ _ _ _ _ _ _ _ _ _ _
                  cases valOf [] (evalO g.T _ s _) _ with
                  | none => rfl
                  | some y =>
                    simp only [Option.bind_some]
                    split <;> rfl
                · split <;> rfl
              · rfl
            · rfl
        · rfl
    · exact effK_nat ..
  · dsimp only
    split
    · exact callK_nat hN ..
    · rw [pureK_nat, pureK_nat (R := St), Option.bind_assoc]
      rfl

theorem runOps_nat {call : (R : Type) → CallK R} (hN : CallNat call) {dr : Bool} {ops : Array Oper} : ∀ (l : List Oper) {R : Type} (s : St) (K : St → Option R), runOps g (call R) dr ops l s K = (runOps g (call St) dr ops l s some).bind K
  | [], _, _, _ => rfl
  | o :: l, R, s, K => by
    have ih := fun {R : Type} s (K : St → Option R) => runOps_nat hN (ops := ops) (dr := dr) l s K
    unfold runOps
    split
    · conv => rhs; rw [stepOp_nat hN]
      rw [stepOp_nat hN (R := R), Option.bind_assoc]
      congr 1
      funext s'
      exact ih s' K
    · cases hb : guardB ops s _ with
      | none => rfl
      | some ob =>
        simp only [Option.bind_some]
        cases ob with
        | none => exact ih _ K
        | some b =>
          dsimp only
          rename_i want _
          have st : ∀ s1 : St, (stepOp g (call R) dr s1 o fun s' => runOps g (call R) dr ops l s' K) = (stepOp g (call St) dr s1 o fun s' => runOps g (call St) dr ops l s' some).bind K := fun s1 => by
            conv => rhs; rw [stepOp_nat hN]
            rw [stepOp_nat hN (R := R), Option.bind_assoc]
            congr 1
            funext s'
            exact ih s' K
          cases want <;> cases b <;> first | exact st _ | exact ih _ K

theorem regionK_nat {call : (R : Type) → CallK R} (hN : CallNat call) {R : Type} {ops : Array Oper} {draw : Bool} (s : St) (K : St → Option R) : regionK g (call R) ops draw s K = (regionK g (call St) ops draw s some).bind K := by
  unfold regionK
  split
  · unfold regionD
    split
    · conv => rhs; rw [runOps_nat hN]
      rw [runOps_nat hN (R := R), Option.bind_assoc]
      congr 1
      funext s'
      exact runOps_nat hN _ _ _
    · rfl
  · exact runOps_nat hN _ _ _

theorem exec_nat {call : (R : Type) → CallK R} (hN : CallNat call) {fuel : Nat} : ∀ (c : Code) {R : Type} (kp : List (List Nat)) (s : St) (K : Exit → St → Option R),
    exec g (call R) fuel c kp s K = (exec g (call (Exit × St)) fuel c kp s fun e s => some (e, s)).bind fun p => K p.1 p.2 := by
  intro c
  induction c with
  | region id ops draw =>
    intro R kp s K
    simp only [exec]
    conv => rhs; rw [regionK_nat hN]
    rw [regionK_nat hN (R := R), Option.bind_assoc]
    rfl
  | seq x y ihx ihy =>
    intro R kp s K
    simp only [exec]
    conv => rhs; rw [ihx]
    rw [ihx (R := R), Option.bind_assoc]
    congr 1
    funext p
    obtain ⟨e, s'⟩ := p
    cases e with
    | normal => exact ihy _ _ _
    | _ => rfl
  | cond c x y ihx ihy =>
    intro R kp s K
    simp only [exec]
    split
    · rename_i p _
      cases p with
      | true => exact ihx _ _ _
      | false => exact ihy _ _ _
    · rfl
  | block id c ih =>
    intro R kp s K
    simp only [exec]
    conv => rhs; rw [ih]
    rw [ih (R := R), Option.bind_assoc]
    congr 1
    funext p
    obtain ⟨e, s'⟩ := p
    cases e with
    | exit i =>
      dsimp only
      split <;> rfl
    | _ => rfl
  | loop c ih =>
    intro R kp s K
    simp only [exec]
    generalize stX (headS c (kp.headD []) s) = y
    generalize hs0 : headS c (kp.headD []) s = s0 at y
    have key : ∀ (n : Nat) (y : (stTy s0).den),
        iter (fun (r : (stTy s0).den → Option R) (y : (stTy s0).den) => exec g (call R) fuel c kp.tail (stFill s0 y) fun e s' => match e with
          | .normal => (stAs s0 (canon (kp.headD []) s')).bind r
          | e => K e s') n y =
        (iter (fun (r : (stTy s0).den → Option (Exit × St)) (y : (stTy s0).den) => exec g (call (Exit × St)) fuel c kp.tail (stFill s0 y) fun e s' => match e with
          | .normal => (stAs s0 (canon (kp.headD []) s')).bind r
          | e => some (e, s')) n y).bind fun p => K p.1 p.2 := by
      intro n
      induction n with
      | zero => intro y; rfl
      | succ n ihn =>
        intro y
        simp only [iter]
        conv => rhs; rw [ih]
        rw [ih (R := R), Option.bind_assoc]
        congr 1
        funext p
        obtain ⟨e, s'⟩ := p
        cases e with
        | normal =>
          dsimp only
          cases stAs s0 (canon (kp.headD []) s') with
          | none => rfl
          | some z => exact ihn z
        | _ => rfl
    subst hs0
    exact key fuel y
  | scope c ih => intro R kp s K; simp only [exec]; exact ih _ _ _
  | rangeFunc f ps x y _ _ =>
    intro R kp s K
    simp only [exec, rangeK]
    split
    · conv => rhs; rw [hN]
      rw [hN (R := R), Option.bind_assoc]
      congr 1
      funext p
      unfold endRange
      split
      · split
        · rw [Option.bind_assoc]
          rfl
        · rfl
      · rfl
    · rfl
  | _ => intro R kp s K; rfl
end
end Go.Vx
