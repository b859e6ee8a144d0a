import Derived.Lib.ItoaNum
import Derived.Lib.AtoiTie
import Derived.Lib.SplitLaws
import Derived.Lib.Strings
import Derived.Test.YtimaoihjoojcdaaGreatDoorXA
import Derived.Test.YtimaoihjoojcdaaGreatDoorSA
import Derived.Test.YtimaoihjoojcdaaGreatDoorLP
set_option linter.all false
section
namespace Go.S
open Go.Lib
abbrev Str := List UInt8
theorem y6O : ∀ (l : Str) (acc : Nat) (b : UInt8),decFrom acc (l ++ [b]) = (decFrom acc l).bind fun n => (digitVal b).map fun d => n * 10 + d
  | [],acc,b => by
    simp only [List.nil_append,decFrom,Option.bind_some];cases digitVal b <;> rfl
  | a :: l,acc,b => by
    simp only [List.cons_append,decFrom];cases digitVal a with
    | none => rfl
    | some d => exact y6O l _ b
theorem yRe (k : Nat) (h : k < 256) : (UInt8.ofNat k).toNat = k := by
  rw [UInt8.toNat_ofNat']; exact Nat.mod_eq_of_lt h
theorem y9Q {a b : UInt8} (h : a.toNat = b.toNat) : a = b := UInt8.toNat_inj.1 h
theorem yDA : ∀ (k u : Nat),u < 10 ^ (k + 1) → nDigits u ≤ k + 1
  | 0,u,h => by rw [nDigits_small (by simpa using h)]; exact Nat.le_refl _
  | k + 1,u,h => by
    by_cases hu : u < 10
    · rw [nDigits_small hu]; omega
    · rw [nDigits_big hu];have := yDA k (u / 10) (by rw [Nat.pow_succ] at h; omega)
      omega
theorem yRs {k u : Nat} (h : nDigits u ≤ k) : u < 10 ^ k :=
  Nat.lt_of_lt_of_le (lt_pow_nDigits u) (Nat.pow_le_pow_right (by decide) h)
theorem yMH (n : Nat) : ∀ (l : Str) (u : Nat),l.length = n → l ≠ [] → (∀ b t,l = b :: t → t ≠ [] → b ≠ 48) → decFrom 0 l = some u → decDigits u = l ∧ (l.head? ≠ some 48 → 0 < u) := by
  induction n with
  | zero => intro l u hl hn; exact absurd (List.eq_nil_of_length_eq_zero hl) hn
  | succ n ih =>
    intro l u hl hn h0 hd;obtain ⟨l',b,rfl⟩ : ∃ l' b,l = l' ++ [b] := ⟨l.dropLast,l.getLast hn,(List.dropLast_concat_getLast hn).symm⟩;rw [y6O] at hd;obtain ⟨m,hm,hd⟩ := Option.bind_eq_some_iff.1 hd;obtain ⟨d,hb,rfl⟩ := Option.map_eq_some_iff.1 hd;obtain ⟨hb1,hb2,rfl⟩ := digitVal_eq hb;have hbb : UInt8.ofNat (48 + (b.toNat - 48)) = b := y9Q (by rw [yRe _ (by omega)]; omega)
    cases l' with
    | nil =>
      simp only [decFrom,Option.some.injEq] at hm;subst hm;refine ⟨?_,fun hne => ?_⟩
      · rw [decDigits,dif_pos (by omega)]
        simp only [Nat.zero_mul,Nat.zero_add,hbb,List.nil_append]
      · simp only [List.nil_append,List.head?_cons,ne_eq,Option.some.injEq] at hne;rcases Nat.lt_or_ge 48 b.toNat with h | h
        · omega
        · exact absurd (y9Q (by show b.toNat = 48; omega)) hne
    | cons a t =>
      have hlen : (a :: t).length = n := by simpa using hl
      have ha : a ≠ 48 := h0 a (t ++ [b]) rfl (by simp)
      obtain ⟨h1,h2⟩ := ih (a :: t) m hlen (by simp) (fun b' t' e ht => by cases e; exact ha) hm
      have hpos := h2 (by simpa using ha)
      refine ⟨?_,fun _ => by omega⟩
      rw [decDigits,dif_neg (by omega),show (m * 10 + (b.toNat - 48)) / 10 = m by omega,show (m * 10 + (b.toNat - 48)) % 10 = b.toNat - 48 by omega,h1,hbb]
def numb (mx : Nat) (l : Str) : Option Nat := if l.length = 0 ∨ mx < l.length ∨ (1 < l.length ∧ l.head? = some 48) then none else decFrom 0 l
theorem yKm {mx : Nat} {l : Str} {u : Nat} (h : numb mx l = some u) : decDigits u = l ∧ u < 10 ^ mx := by
  unfold numb at h;split at h
  · cases h
  · rename_i hc;have h1 : decDigits u = l := (yMH _ l u rfl (fun e => hc (.inl (by rw [e]; rfl))) (fun b t e ht hb => hc (.inr (.inr ⟨by rw [e]; have := List.length_pos_iff.2 ht; simp; omega,by rw [e,hb]; rfl⟩))) h).1
    exact ⟨h1,yRs (by rw [← decDigits_length,h1]; omega)⟩
def sgn (mx : Nat) : Str → Option Int
  | [] => none
  | b :: r => if b = 45 then (match numb mx r with | some n => if 0 < n then some (-(n : Int)) else none | none => none) else Option.map (fun (n : Nat) => (n : Int)) (numb mx (b :: r))
theorem yHO (mx : Nat) (r : Str) : sgn mx (45 :: r) = (match numb mx r with | some n => if 0 < n then some (-(n : Int)) else none | none => none) := by
  unfold sgn;exact if_pos rfl
theorem yIn (mx : Nat) {b : UInt8} (hb : b ≠ 45) (r : Str) : sgn mx (b :: r) = Option.map (fun (n : Nat) => (n : Int)) (numb mx (b :: r)) := by
  unfold sgn;exact if_neg hb
def yg (c : UInt8) : Str → List Str
  | [] => [[]]
  | b :: l => if b = c then [] :: yg c l else match yg c l with | [] => [[b]] | x :: xs => (b :: x) :: xs
theorem y2L (c : UInt8) (s : Str) : yg c s ≠ [] := by
  cases s with
  | nil => simp [yg]
  | cons b l => unfold yg; split; · simp
                split <;> simp
def y1e (c : UInt8) : List Str → Str
  | [] => []
  | [x] => x
  | x :: y :: r => x ++ c :: y1e c (y :: r)
theorem y6C (c : UInt8) (x : Str) {r : List Str} (h : r ≠ []) : y1e c (x :: r) = x ++ c :: y1e c r := by
  cases r with
  | nil => exact absurd rfl h
  | cons y r => rfl
theorem y8K (c : UInt8) : ∀ s : Str,y1e c (yg c s) = s
  | [] => rfl
  | b :: l => by
    have ih := y8K c l;unfold yg;split
    · rename_i hb;rw [y6C c [] (y2L c l),ih,hb]; rfl
    · split
      · rename_i he; exact absurd he (y2L c l)
      · rename_i y ys he;rw [he] at ih;cases ys with
        | nil => exact congrArg (b :: ·) ih
        | cons z zs => exact congrArg (b :: ·) ih
theorem y4I (c : UInt8) : ∀ (x t : Str),c ∉ x → yg c (x ++ c :: t) = x :: yg c t
  | [],t,_ => by simp [yg]
  | b :: x,t,h => by
    simp only [List.mem_cons,not_or] at h;rw [List.cons_append,yg,if_neg (fun e => h.1 e.symm),y4I c x t h.2]
theorem y34 (c : UInt8) : ∀ (x : Str),c ∉ x → yg c x = [x]
  | [],_ => rfl
  | b :: x,h => by
    simp only [List.mem_cons,not_or] at h;rw [yg,if_neg (fun e => h.1 e.symm),y34 c x h.2]
theorem yEu (c : UInt8) : ∀ l : List Str,[c].intercalate l = y1e c l
  | [] => rfl
  | [x] => by simp [List.intercalate,y1e]
  | x :: y :: r => by
    rw [y6C c x (by simp),← yEu c (y :: r)]
    simp [List.intercalate,List.intersperse]
theorem y1z (c : UInt8) : ∀ s : Str,(yg c s).length = s.count c + 1
  | [] => rfl
  | b :: l => by
    unfold yg;split
    · rename_i hb;rw [List.length_cons,y1z c l,hb,List.count_cons_self]
    · rename_i hb;split
      · rename_i he; exact absurd he (y2L c l)
      · rename_i y ys he;have := y1z c l;rw [he] at this;rw [List.count_cons_of_ne (by simpa using hb)]
        simpa using this
theorem yBB : ∀ (s : Str) (c : UInt8),(index s [c] = -1 ∧ c ∉ s) ∨ ∃ x t,s = x ++ c :: t ∧ c ∉ x ∧ index s [c] = (x.length : Int)
  | [],c => .inl ⟨by simp [index],by simp⟩
  | b :: l,c => by
    by_cases h : b = c
    · subst h;exact .inr ⟨[],l,rfl,by simp,by rw [index]; simp [List.isPrefixOf]⟩
    · have hp : ([c] : List UInt8).isPrefixOf (b :: l) = false := by simp [List.isPrefixOf,Ne.symm h]
      have hix : index (b :: l) [c] = if index l [c] == -1 then -1 else index l [c] + 1 := by rw [index,hp]; simp
      rcases yBB l c with ⟨h1,h2⟩ | ⟨x,t,rfl,h2,h3⟩
      · refine .inl ⟨by rw [hix,h1]; rfl,?_⟩
        simp only [List.mem_cons,not_or];exact ⟨fun e => h e.symm,h2⟩
      · refine .inr ⟨b :: x,t,rfl,?_,?_⟩
        · simp only [List.mem_cons,not_or];exact ⟨fun e => h e.symm,h2⟩
        · rw [hix,h3,if_neg (by rw [beq_iff_eq]; omega)]
          simp
theorem yEa (c : UInt8) : ∀ (k : Nat) (s : Str),s.count c = k → splitK [c] 0 k s = yg c s
  | 0,s,h => by
    have : c ∉ s := List.count_eq_zero.1 h;rw [y34 c s this]; rfl
  | k + 1,s,h => by
    unfold splitK;rcases yBB s c with ⟨h1,h2⟩ | ⟨x,t,rfl,h2,h3⟩
    · rw [List.count_eq_zero.2 h2] at h; omega
    · rw [if_neg (by rw [h3,beq_iff_eq]; omega),h3,y4I c x t h2]
      have hc : t.count c = k := by
        rw [List.count_append,List.count_eq_zero.2 h2,List.count_cons_self] at h; omega
      simp only [Int.toNat_natCast,Nat.add_zero,List.length_cons,List.length_nil];rw [List.take_left,show x.length + (0 + 1) = x.length + 1 from rfl,← List.drop_drop,List.drop_left,List.drop_one,List.tail_cons,yEa c k t hc]
theorem yKe (c : UInt8) (s : Str) : (splitB ⟨[c].toArray⟩ 0 (countB ⟨s.toArray⟩ ⟨[c].toArray⟩) ⟨s.toArray⟩).map (·.data.toList) = yg c s := by
  rw [splitB_data];refine yEa c _ s ?_
  exact (count_one c s).symm
theorem y2I (c : UInt8) : ∀ (s x : Str),x ∈ yg c s → x.length ≤ s.length
  | [],x,h => by simp only [yg,List.mem_singleton] at h; subst h; simp
  | b :: l,x,h => by
    unfold yg at h;split at h
    · rcases List.mem_cons.1 h with rfl | h
      · simp
      · have := y2I c l x h; simp; omega
    · split at h
      · rename_i he; exact absurd he (y2L c l)
      · rename_i y ys he;rcases List.mem_cons.1 h with rfl | h
        · have := y2I c l y (by rw [he]; exact List.mem_cons_self ..)
          simp; omega
        · have := y2I c l x (by rw [he]; exact List.mem_cons_of_mem _ h); simp; omega
theorem yAo : ∀ (s : Str) (c : UInt8),(indexByte s c = -1 ∧ c ∉ s) ∨ ∃ x t,s = x ++ c :: t ∧ c ∉ x ∧ indexByte s c = (x.length : Int)
  | s,c => by
    by_cases h : indexByte s c = -1
    · refine .inl ⟨h,fun hm => ?_⟩
      obtain ⟨k,hk⟩ := List.getElem?_of_mem hm;exact indexByte_none h k hk
    · have hge : -1 ≤ indexByte s c := by
        clear h;induction s with
        | nil => simp [indexByte]
        | cons b l ih => unfold indexByte; split; · omega
                         · split <;> omega
      obtain ⟨o,ho⟩ : ∃ o : Nat,indexByte s c = o := ⟨(indexByte s c).toNat,by omega⟩
      obtain ⟨h1,h2⟩ := indexByte_some ho;refine .inr ⟨s.take o,s.drop (o + 1),?_,?_,?_⟩
      · have hlt := (List.getElem?_eq_some_iff.1 h1).1;have e : c = s[o] := by rw [List.getElem?_eq_getElem hlt] at h1; exact (Option.some.inj h1).symm
        rw [e,List.getElem_cons_drop hlt,List.take_append_drop]
      · intro hm;obtain ⟨k,hk⟩ := List.getElem?_of_mem hm;rw [List.getElem?_take] at hk;split at hk
        · exact h2 k (by assumption) hk
        · cases hk
      · rw [ho,List.length_take];have := (List.getElem?_eq_some_iff.1 h1).1;omega
end Go.S
end
section
set_option maxRecDepth 1000000
namespace Go.SA
open Go.Vx Go.Vx.B Go.Tw Go.S Go.Lib
theorem bT {α : Type} {c : Bool} {a b : α} (h : c = true) : (bif c then a else b) = a := by rw [h]; rfl
theorem bF {α : Type} {c : Bool} {a b : α} (h : c = false) : (bif c then a else b) = b := by rw [h]; rfl
theorem dT {p : Prop} [Decidable p] (h : p) : decide p = true := decide_eq_true h
theorem dF {p : Prop} [Decidable p] (h : ¬ p) : decide p = false := decide_eq_false h
theorem w64 {n : Int} (h1 : -9223372036854775808 ≤ n) (h2 : n < 9223372036854775808) : IntKind.i64.wrap n = n := by
  unfold IntKind.wrap IntKind.bits IntKind.signed;by_cases h : 0 ≤ n
  · have h3 : n % 2 ^ 64 = n := Int.emod_eq_of_lt h (by omega)
    simp only [h3];have h4 : ¬ (n ≥ 2 ^ (64 - 1)) := by omega
    simp [h4];omega
  · have h3 : n % 2 ^ 64 = n + 2 ^ 64 := by
      rw [← Int.add_emod_right];exact Int.emod_eq_of_lt (by omega) (by omega)
    simp only [h3];have h4 : n + 2 ^ 64 ≥ 2 ^ (64 - 1) := by omega
    simp [h4];omega
theorem w8 {n : Int} (h1 : 0 ≤ n) (h2 : n < 256) : IntKind.u8.wrap n = n := by
  unfold IntKind.wrap IntKind.bits IntKind.signed;have h3 : n % 2 ^ 8 = n := Int.emod_eq_of_lt h1 (by omega)
  simp only [h3];simp
theorem y4t (c : UInt8) (s : Str) (hs : s.length < memMax) : ∀ (k i from_ : Nat) (out : List Str),i + k = s.length + 1 → from_ ≤ i → out.length ≤ from_ → i ≤ s.length → c ∉ (s.take i).drop from_ →
    y21 (fun i__ s__ => y4j s (c.toNat : Int) i__ s__.1 s__.2) (fun s__ => yBe s (c.toNat : Int) s__.1 s__.2) k (i : Int) ((from_ : Int),out) = some (out ++ yg c (s.drop from_),())
  | 0,i,f,out,h,_,_,h2,_ => by omega
  | k + 1,i,f,out,h,hf,ho,hi,hc => by
    have hcut : List.drop f (List.take i s) = (s.take i).drop f := rfl;rcases Nat.lt_or_ge i s.length with hlt | hge
    · have hg : idx s (i : Int) = some s[i] := by rw [y3y,List.getElem?_eq_getElem hlt]
      have hb1 : ((i : Int) == (s.length : Int)) = false := by rw [beq_eq_false_iff_ne]; omega
      have hd : s.drop f = (s.take i).drop f ++ s[i] :: s.drop (i + 1) := by
        have e1 : s = s.take i ++ s[i] :: s.drop (i + 1) := by rw [List.getElem_cons_drop hlt,List.take_append_drop]
        conv => lhs; rw [e1]
        rw [List.drop_append_of_le_length (by rw [List.length_take]; omega)]
      by_cases he : s[i] = c
      · have hbody : y4j s (c.toNat : Int) (i : Int) (f : Int) out = some (.inr (((i + 1 : Nat) : Int),out ++ [(s.take i).drop f])) := by
          unfold y4j y9L;rw [hb1,cond_false,hg,Option.bind_some,he,show (((c.toNat : Nat) : Int) == ((c.toNat : Nat) : Int)) = true by simp,cond_true,
            bT (by rw [dT (Int.natCast_nonneg f),dT (by omega),dT (by omega)]; rfl),bT (dT (by simp only [memMax] at hs ⊢; omega)),y2N (by omega) (by simp only [memMax] at hs; omega)]
          simp only [Int.toNat_natCast];rfl
        simp only [y21];rw [hbody];simp only [Option.bind_some];have ih := y4t c s hs k (i + 1) (i + 1) (out ++ [(s.take i).drop f]) (by omega) (Nat.le_refl _) (by simp; omega) (by omega) (by rw [List.drop_take]; simp)
        refine (show _ = _ from ?_).trans (ih.trans ?_)
        · rfl
        · rw [List.append_assoc,hd,he,y4I c _ _ hc];rfl
      · have hbody : y4j s (c.toNat : Int) (i : Int) (f : Int) out = some (.inr ((f : Int),out)) := by
          unfold y4j y9L;rw [hb1,cond_false,hg,Option.bind_some,show (((s[i].toNat : Nat) : Int) == ((c.toNat : Nat) : Int)) = false by
            rw [beq_eq_false_iff_ne]; intro e; exact he (y9Q (Int.ofNat.inj e)),cond_false]
        simp only [y21];rw [hbody];simp only [Option.bind_some];refine (show _ = _ from ?_).trans (y4t c s hs k (i + 1) f out (by omega) (by omega) ho (by omega) ?_)
        · rfl
        · rw [List.take_succ_eq_append_getElem hlt,List.drop_append_of_le_length (by rw [List.length_take]; omega)]
          simp only [List.mem_append,List.mem_singleton,not_or];exact ⟨hc,fun e => he e.symm⟩
    · have e : i = s.length := by omega
      subst e;have hk : k = 0 := by omega
      subst hk;have hbody : y4j s (c.toNat : Int) (s.length : Int) (f : Int) out = some (.inr (((s.length + 1 : Nat) : Int),out ++ [(s.take s.length).drop f])) := by
        unfold y4j y9L;rw [show ((s.length : Int) == (s.length : Int)) = true by simp,cond_true,cond_true,
          bT (by rw [dT (Int.natCast_nonneg f),dT (by omega),dT (by omega)]; rfl),bT (dT (by simp only [memMax] at hs ⊢; omega)),y2N (by omega) (by simp only [memMax] at hs; omega)]
        simp only [Int.toNat_natCast];rfl
      simp only [y21];rw [hbody];simp only [Option.bind_some];unfold yBe;rw [List.take_length] at hc ⊢;rw [y34 c _ hc]
theorem yB3 (c : UInt8) (s : Str) (hs : s.length < memMax) : yFf s (c.toNat : Int) = some (yg c s,()) := by
  unfold yFf;rw [bT (dT (by simp only [memMax] at hs; omega)),show ((s.length : Int) + 1 - 0).toNat = s.length + 1 by omega]
  have := y4t c s hs (s.length + 1) 0 0 [] (by omega) (Nat.le_refl _) (Nat.le_refl _) (Nat.zero_le _) (by simp)
  rw [List.drop_zero,List.nil_append] at this;exact this
theorem yHr (c : UInt8) (s : Str) (hs : s.length < 4294967281) : yCB s [c] = some (yg c s,()) := by
  have e : Go.Tw.yCX s [c] = yg c s := yKe c s;unfold yCB;rw [e,bT];rw [dT hs,dT (by simp),dT]
  · rfl
  · rw [y1z];have h1 : countB ⟨s.toArray⟩ ⟨[c].toArray⟩ = s.count c := count_one c s;rw [h1]
theorem yAn (d : Nat) : ∀ (np : Int),0 ≤ np → np < 10 ^ (d + 1) → np < 9223372036854775808 → yP (d + 1) (np,()) = some (decDigits np.toNat,()) := by
  have one : ∀ (e : Nat) (np : Int),0 ≤ np → np < 10 → yP (e + 1) (np,()) = some (decDigits np.toNat,()) := fun e np h0 h1 => by
    show @y8m ⟨yP e⟩ np = _
    unfold y8m yE2;rw [bF (dF (by omega)),bF (dF (by omega)),bF (dF (by omega)),w64 (by omega) (by omega),w8 (by omega) (by omega),decDigits,dif_pos (by omega)]
    unfold y0Y;simp only [List.map_cons,List.map_nil];rw [show ((48 : Int) + np).toNat = 48 + np.toNat by omega]
  induction d with
  | zero => intro np h0 h1 _; exact one 0 np h0 (by omega)
  | succ d ih =>
    intro np h0 h1 h2;by_cases h9 : np ≤ 9
    · exact one _ np h0 (by omega)
    · have hdiv : np.tdiv 10 = np / 10 := Int.tdiv_eq_ediv_of_nonneg h0;have hmod : np.tmod 10 = np % 10 := Int.tmod_eq_emod_of_nonneg h0;show @y8m ⟨yP (d + 1)⟩ np = _
      unfold y8m yE2;have hp : (10 : Int) ^ (d + 1 + 1) = 10 ^ (d + 1) * 10 := Int.pow_succ ..;rw [hp] at h1;rw [bT (dT (by omega)),hdiv,hmod,w64 (by omega) (by omega)]
      show (Option.bind (yP (d + 1) (np / 10,())) _) = _
      rw [ih (np / 10) (by omega) (by omega) (by omega),Option.bind_some]
      show (Option.bind (yP (d + 1) (np % 10,())) _) = _
      rw [one d (np % 10) (by omega) (by omega),Option.bind_some]
      have l1 := yDA 18 (np / 10).toNat (by omega)
      have l2 := yDA 18 (np % 10).toNat (by omega)
      rw [bT (dT (by simp only [decDigits_length,strMax]; omega))]
      have e : decDigits np.toNat = decDigits (np / 10).toNat ++ decDigits (np % 10).toNat := by
        conv => lhs; rw [decDigits]
        rw [dif_neg (by omega),show np.toNat / 10 = (np / 10).toNat by omega,show np.toNat % 10 = (np % 10).toNat by omega]
        congr 1
        rw [decDigits,dif_pos (by omega)]
      rw [e]
theorem yL1 (d : Nat) : (10 : Int) ≤ 10 ^ (d + 1) := by
  have : (0 : Int) < 10 ^ d := Int.pow_pos (by decide)
  rw [Int.pow_succ];omega
theorem yJb (d : Nat) : ∀ (np : Int),np < 0 → -(10 ^ (d + 1) : Int) < np → -9223372036854775808 ≤ np → yP (d + 2) (np,()) = some (45 :: decDigits (-np).toNat,()) := by
  have one : ∀ (e : Nat) (np : Int),np < 0 → -10 < np → yP (e + 2) (np,()) = some (45 :: decDigits (-np).toNat,()) := fun e np h0 h1 => by
    show @y8m ⟨yP (e + 1)⟩ np = _
    unfold y8m yE2;rw [bF (dF (by omega)),bF (dF (by omega)),bT (dT h0),w64 (by omega) (by omega)]
    show (Option.bind (yP (e + 1) (0 - np,())) _) = _
    rw [yAn e (0 - np) (by omega) (by have := yL1 e; omega) (by omega),Option.bind_some]
    have l1 := yDA 18 (0 - np).toNat (by omega)
    rw [bT (dT (by simp only [decDigits_length,strMax]; omega)),Int.zero_sub]
    rfl
  induction d with
  | zero => intro np h0 h1 _; exact one 0 np h0 (by omega)
  | succ d ih =>
    intro np h0 h1 h2;by_cases h9 : -10 < np
    · exact one _ np h0 h9
    · have hdiv : np.tdiv 10 = -((-np) / 10) := by
        have := Int.neg_tdiv (-np) 10;rw [Int.neg_neg] at this;rw [this,Int.tdiv_eq_ediv_of_nonneg (by omega)]
      have hmod : np.tmod 10 = -((-np) % 10) := by
        have := Int.neg_tmod (-np) 10;rw [Int.neg_neg] at this;rw [this,Int.tmod_eq_emod_of_nonneg (by omega)]
      show @y8m ⟨yP (d + 2)⟩ np = _
      unfold y8m yE2;have hp : (10 : Int) ^ (d + 1 + 1) = 10 ^ (d + 1) * 10 := Int.pow_succ ..;rw [hp] at h1;rw [bF (dF (by omega)),bT (dT (by omega)),hdiv,hmod,w64 (by omega) (by omega),w64 (by omega) (by omega)]
      show (Option.bind (yP (d + 2) (-(-np / 10),())) _) = _
      rw [ih (-(-np / 10)) (by omega) (by omega) (by omega),Option.bind_some]
      show (Option.bind (yP (d + 2) (0 - -(-np % 10),())) _) = _
      rw [yAn (d + 1) (0 - -(-np % 10)) (by omega) (by have := yL1 (d + 1); omega) (by omega),Option.bind_some]
      have l1 := yDA 18 (-(-(-np / 10))).toNat (by omega)
      have l2 := yDA 18 (0 - -(-np % 10)).toNat (by omega)
      rw [bT (dT (by simp only [decDigits_length,strMax,List.length_cons]; omega))]
      have e : decDigits (-np).toNat = decDigits (-(-(-np / 10))).toNat ++ decDigits (0 - -(-np % 10)).toNat := by
        conv => lhs; rw [decDigits]
        rw [dif_neg (by omega),show (-np).toNat / 10 = (-(-(-np / 10))).toNat by omega,show (-np).toNat % 10 = (0 - -(-np % 10)).toNat by omega]
        congr 1
        rw [decDigits,dif_pos (by omega)]
      rw [e];rfl
def I64 (n : Int) : Prop := -9223372036854775808 ≤ n ∧ n < 9223372036854775808
theorem yMn (n : Int) (h : I64 n) : yP 24 (n,()) = some (itoa n,()) := by
  obtain ⟨h1,h2⟩ := h;unfold itoa;split
  · rw [yJb 22 n (by omega) (by omega) h1,show (-n).toNat = n.natAbs by omega]
  · rw [yAn 23 n (by omega) (by omega) h2]
theorem y4W (n : Int) (h : I64 n) : yKg n = some (itoa n,()) := by
  unfold yKg;obtain ⟨h1,h2⟩ := h;rw [bT];rw [dT h1,dT (by omega)]
  rfl
theorem yFO (s0 : Str) (h0 : s0.length ≤ 9) : ∀ (l pre : Str) (u : Nat),s0 = pre ++ l → u < 10 ^ pre.length →
    yI (fun i__ e__ s__ => y4a s0 i__ e__ s__) (fun s__ => yCg s0 s__) (pre.length : Int) l (u : Int) = some (match decFrom u l with | some n => ((n : Int),true,()) | none => (0,false,()))
  | [],pre,u,_,_ => by simp [yI,yCg,decFrom]
  | b :: l,pre,u,h,hu => by
    have hg : idx s0 (pre.length : Int) = some b := by rw [y3y,h]; simp
    have hlen : pre.length < 9 := by rw [h] at h0; simp at h0; omega
    have hub : u < 10 ^ 9 := Nat.lt_of_lt_of_le hu (Nat.pow_le_pow_right (by decide) (by omega))
    have hbt : b.toNat < 256 := b.toNat_lt;simp only [yI,decFrom];by_cases h1 : b.toNat < 48
    · have hbody : y4a s0 (pre.length : Int) b (u : Int) = some (.inl (0,false,())) := by
        unfold y4a;rw [bT (dT (by omega))]
      have hd : digitVal b = none := by unfold digitVal; rw [if_neg (by omega)]
      rw [hbody,hd];rfl
    · by_cases h2 : 57 < b.toNat
      · have hbody : y4a s0 (pre.length : Int) b (u : Int) = some (.inl (0,false,())) := by
          unfold y4a;rw [bF (dF (by omega)),hg,Option.bind_some,bT (dT (by omega))]
        have hd : digitVal b = none := by unfold digitVal; rw [if_neg (by omega)]
        rw [hbody,hd];rfl
      · have hbody : y4a s0 (pre.length : Int) b (u : Int) = some (.inr ((u * 10 + (b.toNat - 48) : Nat) : Int)) := by
          unfold y4a;rw [bF (dF (by omega)),hg,Option.bind_some,bF (dF (by omega)),Option.bind_some,w8 (by omega) (by omega),w64 (n := 10 * (u : Int)) (by omega) (by omega),w64 (n := (b.toNat : Int) - 48) (by omega) (by omega),w64 (by omega) (by omega)]
          congr 2
          omega
        have hd : digitVal b = some (b.toNat - 48) := by unfold digitVal; rw [if_pos (by omega)]
        rw [hbody,hd];simp only [Option.bind_some];have := yFO s0 h0 l (pre ++ [b]) (u * 10 + (b.toNat - 48)) (by rw [h]; simp) (by rw [List.length_append,List.length_singleton,Nat.pow_succ]; omega)
        rw [show ((pre ++ [b]).length : Int) = (pre.length : Int) + 1 by simp] at this
        exact this
theorem y5j (s : Str) : yG9 s = some (match numb 9 s with | some n => ((n : Int),true,()) | none => (0,false,())) := by
  unfold yG9 numb;by_cases h0 : s.length = 0
  · rw [bT (by rw [beq_iff_eq]; omega),if_pos (.inl h0)]
  · rw [bF (by rw [beq_eq_false_iff_ne]; omega)]
    by_cases h9 : 9 < s.length
    · rw [bT (dT (by omega)),if_pos (.inr (.inl h9))]
    · rw [bF (dF (by omega))]
      have hloop : y8f s = some (match decFrom 0 s with | some n => ((n : Int),true,()) | none => (0,false,())) := by
        unfold y8f;rw [bT (dT (by simp only [lenMax]; omega))]
        exact yFO s (by omega) s [] 0 rfl (by decide)
      cases s with
      | nil => simp at h0
      | cons b l =>
        by_cases h1 : 1 < (b :: l).length
        · rw [bT (dT (by omega))]
          have hg : idx (b :: l) (0 : Int) = some b := y3y (b :: l) 0;rw [hg,Option.bind_some];by_cases hb : b = 48
          · rw [bT (by rw [hb]; rfl),if_pos (.inr (.inr ⟨h1,by rw [hb]; rfl⟩))]
          · rw [bF (by rw [beq_eq_false_iff_ne]; intro e; exact hb (y9Q (Int.ofNat.inj e))),hloop,if_neg]
            rintro (h | h | ⟨_,h⟩)
            · exact h0 h
            · exact h9 h
            · simp only [List.head?_cons,Option.some.injEq] at h; exact hb h
        · rw [bF (dF (by omega)),hloop,if_neg]
          rintro (h | h | ⟨h,_⟩)
          · exact h0 h
          · exact h9 h
          · exact h1 h
theorem yHK (s : Str) : ∃ v,yKR s = some (v,(sgn 9 s).isSome,()) ∧ ∀ x,sgn 9 s = some x → v = x := by
  unfold yKR yJn;have plain : ∀ b l,s = b :: l → b ≠ 45 → ∃ v,y3B 0 s false = some (v,(sgn 9 s).isSome,()) ∧ ∀ x,sgn 9 s = some x → v = x := fun b l e hb => by
    unfold y3B;rw [cond_false,y5j];subst e;rw [yIn 9 hb l];cases numb 9 (b :: l) with
    | none => exact ⟨0,rfl,fun x hx => by cases hx⟩
    | some n => exact ⟨n,rfl,fun x hx => by cases hx; rfl⟩
  cases s with
  | nil =>
    rw [bF (dF (by simp))]
    unfold y3B;rw [cond_false,y5j];exact ⟨0,rfl,fun x hx => by cases hx⟩
  | cons b l =>
    by_cases h1 : 1 < (b :: l).length
    · rw [bT (dT (by omega))]
      have hg : idx (b :: l) (0 : Int) = some b := y3y (b :: l) 0;rw [hg,Option.bind_some];by_cases hb : b = 45
      · subst hb;rw [show (((45 : UInt8).toNat : Int) == (45 : Int)) = true by rfl]
        unfold y3B;rw [cond_true,bT (by rw [dT (by omega),dT (by omega)]; rfl)]
        rw [show List.drop (Int.toNat (1 : Int)) ((45 : UInt8) :: l) = l from rfl,y5j,Option.bind_some,yHO]
        cases hn : numb 9 l with
        | none => exact ⟨_,by simp only [cond_false]; rfl,fun x hx => by cases hx⟩
        | some n =>
          have hlt := (yKm hn).2;simp only [cond_true];by_cases hpos : 0 < n
          · refine ⟨_,by rw [w64 (by omega) (by omega),dT (by omega),if_pos hpos]; rfl,fun x hx => ?_⟩
            rw [if_pos hpos] at hx;cases hx;omega
          · refine ⟨_,by rw [dF (by omega),if_neg hpos]; rfl,fun x hx => ?_⟩
            rw [if_neg hpos] at hx;cases hx
      · rw [show (((b.toNat : Nat) : Int) == (45 : Int)) = false by rw [beq_eq_false_iff_ne]; intro e; exact hb (y9Q (Int.ofNat.inj e))]
        exact plain b l rfl hb
    · rw [bF (dF (by omega))]
      by_cases hb : b = 45
      · subst hb;have hl : l = [] := by cases l with | nil => rfl | cons _ _ => simp at h1
        subst hl;unfold y3B;rw [cond_false,y5j];exact ⟨0,by rfl,fun x hx => by cases hx⟩
      · exact plain b l rfl hb
theorem yI7 (x : Str) (h : x.length < 9223372036854775000) : zl_M (x ++ [10]) [10] = some (x,true,()) := by
  unfold zl_M zl_m zB_M zB_m zD_M zD_m;have e1 : ((x ++ [(10 : UInt8)]).length : Int) = (x.length : Int) + 1 := by simp
  have e2 : (([(10 : UInt8)] : List UInt8).length : Int) = 1 := rfl;rw [e1,e2,bT (dT (by omega)),w64 (by omega) (by omega),bT (by rw [dT (by omega),dT (by omega)]; rfl),show ((x.length : Int) + 1 - 1).toNat = x.length by omega,List.drop_left,Option.bind_some,
    bF (by simp),bT (by rw [dT (by omega),dT (by omega)]; rfl),List.take_left]
  rfl
theorem yLw (x : Str) (h : x.length < 9223372036854775000) (hx : (10 : UInt8) ∉ x) : zl_M x [10] = some (x,false,()) := by
  unfold zl_M zl_m zB_M zB_m;have : zD_M x [10] = some (false,()) := by
    unfold zD_M zD_m;have e2 : (([(10 : UInt8)] : List UInt8).length : Int) = 1 := rfl;rw [e2];by_cases h1 : (x.length : Int) ≥ 1
    · rw [bT (dT h1),w64 (by omega) (by omega),bT (by rw [dT (by omega),dT (by omega)]; rfl)]
      have : (List.drop ((x.length : Int) - 1).toNat x == [(10 : UInt8)]) = false := by
        rw [beq_eq_false_iff_ne];intro e;exact hx (List.mem_of_mem_drop (by rw [e]; exact List.mem_singleton.2 rfl))
      rw [this]
    · rw [bF (dF h1)]
  rw [this,Option.bind_some,bT (by rfl),Option.bind_some]
theorem yFG (l : List Str) (h1 : l.length ≤ 140737488355328) (h2 : (y1e 32 l).length ≤ 140737488355328) : yDC l [32] = some (y1e 32 l,()) := by
  have e : Lib.join l [32] = y1e 32 l := yEu 32 l;unfold yDC;rw [e,bT];rw [dT h1,dT h2];rfl
theorem yGi (s : Str) : y0Y (yo s) = s := by
  unfold y0Y yo;rw [List.map_map];conv => rhs; rw [← List.map_id s]
  refine List.map_congr_left fun b _ => ?_
  show UInt8.ofNat ((b.toNat : Int)).toNat = b
  rw [Int.toNat_natCast];exact UInt8.ofNat_toNat
theorem yBw (s : Str) : y7g (yo s) = true := by
  unfold y7g yo;rw [List.all_map,List.all_eq_true];intro b _;have := b.toNat_lt;simp only [Function.comp,Bool.and_eq_true,decide_eq_true_eq];omega
theorem yEK (a b : Str) : yo a ++ yo b = yo (a ++ b) := by
  unfold yo;rw [List.map_append]
end Go.SA
end
