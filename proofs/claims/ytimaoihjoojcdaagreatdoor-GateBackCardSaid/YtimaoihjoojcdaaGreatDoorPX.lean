import Derived.Lib.ItoaNum
import Derived.Lib.AtoiTie
import Derived.Lib.SplitLaws
import Derived.Lib.Strings
import Derived.Test.YtimaoihjoojcdaaGreatDoorXA
import Derived.Test.YtimaoihjoojcdaaGreatDoorSA
import Derived.Test.YtimaoihjoojcdaaGreatDoorLP
set_option linter.all false
section
namespace Go.S
open Go.Lib
abbrev Str := List UInt8
theorem y3h : ∀ (l : Str) (acc : Nat) (b : UInt8),decFrom acc (l ++ [b]) = (decFrom acc l).bind fun n => (digitVal b).map fun d => n * 10 + d
  | [],acc,b => by
    simp only [List.nil_append,decFrom,Option.bind_some];cases digitVal b <;> rfl
  | a :: l,acc,b => by
    simp only [List.cons_append,decFrom];cases digitVal a with
    | none => rfl
    | some d => exact y3h l _ b
theorem yJf (k : Nat) (h : k < 256) : (UInt8.ofNat k).toNat = k := by
  rw [UInt8.toNat_ofNat']; exact Nat.mod_eq_of_lt h
theorem yHC {a b : UInt8} (h : a.toNat = b.toNat) : a = b := UInt8.toNat_inj.1 h
theorem y6P (k : Nat) (h : k < 10) : digitVal (UInt8.ofNat (48 + k)) = some k := by
  unfold digitVal;rw [yJf _ (by omega),if_pos (by omega)]
  congr 1; omega
theorem yN0 (u : Nat) : decFrom 0 (decDigits u) = some u := by
  induction u using Nat.strongRecOn with
  | _ u ih =>
    by_cases h : u < 10
    · rw [decDigits,dif_pos h];simp only [decFrom,y6P u h];congr 1; omega
    · rw [decDigits,dif_neg h,y3h,ih (u / 10) (by omega),Option.bind_some,y6P _ (by omega)]
      simp only [Option.map_some];congr 1; omega
theorem y9q (u : Nat) : decDigits u ≠ [] := by
  rw [decDigits]; split <;> simp
theorem yD9 {u : Nat} {b : UInt8} (h : b ∈ decDigits u) : 48 ≤ b.toNat ∧ b.toNat ≤ 57 := by
  rw [decDigits_eq] at h;obtain ⟨t,_,rfl⟩ := List.mem_map.1 h;unfold dg;rw [yJf _ (by omega)]
  omega
theorem yMe : ∀ (k u : Nat),u < 10 ^ (k + 1) → nDigits u ≤ k + 1
  | 0,u,h => by rw [nDigits_small (by simpa using h)]; exact Nat.le_refl _
  | k + 1,u,h => by
    by_cases hu : u < 10
    · rw [nDigits_small hu]; omega
    · rw [nDigits_big hu];have := yMe k (u / 10) (by rw [Nat.pow_succ] at h; omega)
      omega
theorem yRh {k u : Nat} (h : nDigits u ≤ k) : u < 10 ^ k :=
  Nat.lt_of_lt_of_le (lt_pow_nDigits u) (Nat.pow_le_pow_right (by decide) h)
theorem yJj : ∀ {u : Nat} {b : UInt8} {l : Str},decDigits u = b :: l → l ≠ [] → b ≠ 48 := by
  intro u;induction u using Nat.strongRecOn with
  | _ u ih =>
    intro b l h hl;rw [decDigits] at h;split at h
    · simp only [List.cons.injEq] at h;exact absurd h.2.symm hl
    · rename_i hu;cases hd : decDigits (u / 10) with
      | nil => exact absurd hd (y9q _)
      | cons a t =>
        rw [hd] at h;simp only [List.cons_append,List.cons.injEq] at h;obtain ⟨rfl,rfl⟩ := h;cases t with
        | cons c t => exact ih _ (by omega) hd (by simp)
        | nil =>
          rw [decDigits] at hd;split at hd
          · rename_i h10;simp only [List.cons.injEq,and_true] at hd;subst hd;intro e;have := congrArg UInt8.toNat e;rw [yJf _ (by omega)] at this
            have h48 : (48 : UInt8).toNat = 48 := rfl;omega
          · have := congrArg List.length hd;simp only [List.length_append,List.length_cons,List.length_nil] at this;have h2 := List.length_pos_iff.2 (y9q (u / 10 / 10));omega
theorem yNu (n : Nat) : ∀ (l : Str) (u : Nat),l.length = n → l ≠ [] → (∀ b t,l = b :: t → t ≠ [] → b ≠ 48) → decFrom 0 l = some u → decDigits u = l ∧ (l.head? ≠ some 48 → 0 < u) := by
  induction n with
  | zero => intro l u hl hn; exact absurd (List.eq_nil_of_length_eq_zero hl) hn
  | succ n ih =>
    intro l u hl hn h0 hd;obtain ⟨l',b,rfl⟩ : ∃ l' b,l = l' ++ [b] := ⟨l.dropLast,l.getLast hn,(List.dropLast_concat_getLast hn).symm⟩;rw [y3h] at hd;obtain ⟨m,hm,hd⟩ := Option.bind_eq_some_iff.1 hd;obtain ⟨d,hb,rfl⟩ := Option.map_eq_some_iff.1 hd;obtain ⟨hb1,hb2,rfl⟩ := digitVal_eq hb;have hbb : UInt8.ofNat (48 + (b.toNat - 48)) = b := yHC (by rw [yJf _ (by omega)]; omega)
    cases l' with
    | nil =>
      simp only [decFrom,Option.some.injEq] at hm;subst hm;refine ⟨?_,fun hne => ?_⟩
      · rw [decDigits,dif_pos (by omega)]
        simp only [Nat.zero_mul,Nat.zero_add,hbb,List.nil_append]
      · simp only [List.nil_append,List.head?_cons,ne_eq,Option.some.injEq] at hne;rcases Nat.lt_or_ge 48 b.toNat with h | h
        · omega
        · exact absurd (yHC (by show b.toNat = 48; omega)) hne
    | cons a t =>
      have hlen : (a :: t).length = n := by simpa using hl
      have ha : a ≠ 48 := h0 a (t ++ [b]) rfl (by simp)
      obtain ⟨h1,h2⟩ := ih (a :: t) m hlen (by simp) (fun b' t' e ht => by cases e; exact ha) hm
      have hpos := h2 (by simpa using ha)
      refine ⟨?_,fun _ => by omega⟩
      rw [decDigits,dif_neg (by omega),show (m * 10 + (b.toNat - 48)) / 10 = m by omega,show (m * 10 + (b.toNat - 48)) % 10 = b.toNat - 48 by omega,h1,hbb]
def numb (mx : Nat) (l : Str) : Option Nat := if l.length = 0 ∨ mx < l.length ∨ (1 < l.length ∧ l.head? = some 48) then none else decFrom 0 l
theorem yE0 {mx : Nat} {l : Str} {u : Nat} (h : numb mx l = some u) : decDigits u = l ∧ u < 10 ^ mx := by
  unfold numb at h;split at h
  · cases h
  · rename_i hc;have h1 : decDigits u = l := (yNu _ l u rfl (fun e => hc (.inl (by rw [e]; rfl))) (fun b t e ht hb => hc (.inr (.inr ⟨by rw [e]; have := List.length_pos_iff.2 ht; simp; omega,by rw [e,hb]; rfl⟩))) h).1
    exact ⟨h1,yRh (by rw [← decDigits_length,h1]; omega)⟩
theorem yFN {mx u : Nat} (h : u < 10 ^ (mx + 1)) : numb (mx + 1) (decDigits u) = some u := by
  unfold numb;have hl := yMe mx u h;rw [if_neg,yN0];rintro (h1 | h1 | ⟨h1,h2⟩)
  · exact y9q u (List.eq_nil_of_length_eq_zero h1)
  · rw [decDigits_length] at h1; omega
  · cases hd : decDigits u with
    | nil => exact y9q u hd
    | cons b t =>
      rw [hd] at h1 h2;simp only [List.head?_cons,Option.some.injEq] at h2;exact yJj hd (by intro e; rw [e] at h1; simp at h1) h2
def sgn (mx : Nat) : Str → Option Int
  | [] => none
  | b :: r => if b = 45 then (match numb mx r with | some n => if 0 < n then some (-(n : Int)) else none | none => none) else Option.map (fun (n : Nat) => (n : Int)) (numb mx (b :: r))
theorem yCw (mx : Nat) (r : Str) : sgn mx (45 :: r) = (match numb mx r with | some n => if 0 < n then some (-(n : Int)) else none | none => none) := by
  unfold sgn;exact if_pos rfl
theorem yCk (mx : Nat) {b : UInt8} (hb : b ≠ 45) (r : Str) : sgn mx (b :: r) = Option.map (fun (n : Nat) => (n : Int)) (numb mx (b :: r)) := by
  unfold sgn;exact if_neg hb
theorem yEo {v : Int} {b : UInt8} (h : b ∈ itoa v) : b = 45 ∨ 48 ≤ b.toNat ∧ b.toNat ≤ 57 := by
  unfold itoa at h;split at h
  · rcases List.mem_cons.1 h with h | h
    · exact .inl h
    · exact .inr (yD9 h)
  · exact .inr (yD9 h)
theorem yH2 (v : Int) : itoa v ≠ [] := by
  unfold itoa;split
  · simp
  · exact y9q _
theorem yKO (u : Nat) : ∃ b r,decDigits u = b :: r ∧ b ≠ 45 ∧ b ≠ 43 := by
  cases hd : decDigits u with
  | nil => exact absurd hd (y9q u)
  | cons b r =>
    have := yD9 (u := u) (b := b) (by rw [hd]; exact List.mem_cons_self ..)
    refine ⟨b,r,rfl,?_,?_⟩ <;> rintro rfl <;> exact absurd this (by decide)
theorem yJh {mx : Nat} {v : Int} (h : v.natAbs < 10 ^ (mx + 1)) : sgn (mx + 1) (itoa v) = some v := by
  unfold itoa;split
  · rename_i hv;rw [yCw,yFN h];dsimp only;rw [if_pos (by omega)]
    congr 1; omega
  · rename_i hv;obtain ⟨b,r,hd,h45,_⟩ := yKO v.toNat;rw [hd];rw [yCk _ h45,← hd,yFN (by omega)]
    simp only [Option.map_some];congr 1; omega
theorem y4a {mx : Nat} {l : Str} {v : Int} (h : sgn mx l = some v) : itoa v = l ∧ v.natAbs < 10 ^ mx := by
  cases l with
  | nil => cases h
  | cons b r =>
    by_cases hb : b = 45
    · subst hb;rw [yCw] at h;split at h
      · rename_i n hn;split at h
        · cases h;obtain ⟨h1,h2⟩ := yE0 hn;refine ⟨?_,by omega⟩
          unfold itoa;rw [if_pos (by omega),show (-(n : Int)).natAbs = n by omega,h1]
        · cases h
      · cases h
    · rw [yCk _ hb] at h;obtain ⟨n,hn,rfl⟩ := Option.map_eq_some_iff.1 h;obtain ⟨h1,h2⟩ := yE0 hn;refine ⟨?_,by omega⟩
      unfold itoa;rw [if_neg (by omega)]
      exact h1
def yf (c : UInt8) : Str → List Str
  | [] => [[]]
  | b :: l => if b = c then [] :: yf c l else match yf c l with | [] => [[b]] | x :: xs => (b :: x) :: xs
theorem y2A (c : UInt8) (s : Str) : yf c s ≠ [] := by
  cases s with
  | nil => simp [yf]
  | cons b l => unfold yf; split; · simp
                split <;> simp
def y0a (c : UInt8) : List Str → Str
  | [] => []
  | [x] => x
  | x :: y :: r => x ++ c :: y0a c (y :: r)
theorem y25 (c : UInt8) (x : Str) {r : List Str} (h : r ≠ []) : y0a c (x :: r) = x ++ c :: y0a c r := by
  cases r with
  | nil => exact absurd rfl h
  | cons y r => rfl
theorem y4o (c : UInt8) : ∀ s : Str,y0a c (yf c s) = s
  | [] => rfl
  | b :: l => by
    have ih := y4o c l;unfold yf;split
    · rename_i hb;rw [y25 c [] (y2A c l),ih,hb]; rfl
    · split
      · rename_i he; exact absurd he (y2A c l)
      · rename_i y ys he;rw [he] at ih;cases ys with
        | nil => exact congrArg (b :: ·) ih
        | cons z zs => exact congrArg (b :: ·) ih
theorem y2g (c : UInt8) : ∀ (x t : Str),c ∉ x → yf c (x ++ c :: t) = x :: yf c t
  | [],t,_ => by simp [yf]
  | b :: x,t,h => by
    simp only [List.mem_cons,not_or] at h;rw [List.cons_append,yf,if_neg (fun e => h.1 e.symm),y2g c x t h.2]
theorem y3J (c : UInt8) : ∀ (x : Str),c ∉ x → yf c x = [x]
  | [],_ => rfl
  | b :: x,h => by
    simp only [List.mem_cons,not_or] at h;rw [yf,if_neg (fun e => h.1 e.symm),y3J c x h.2]
theorem y31 (c : UInt8) : ∀ l : List Str,l ≠ [] → (∀ x ∈ l,c ∉ x) → yf c (y0a c l) = l
  | [],h,_ => absurd rfl h
  | [x],_,h => y3J c x (h x (List.mem_cons_self ..))
  | x :: y :: r,_,h => by
    rw [y25 c x (by simp),y2g c x _ (h x (List.mem_cons_self ..)),y31 c (y :: r) (by simp) (fun z hz => h z (List.mem_cons_of_mem _ hz))]
theorem yFY (c : UInt8) : ∀ l : List Str,[c].intercalate l = y0a c l
  | [] => rfl
  | [x] => by simp [List.intercalate,y0a]
  | x :: y :: r => by
    rw [y25 c x (by simp),← yFY c (y :: r)]
    simp [List.intercalate,List.intersperse]
theorem y30 (c : UInt8) : ∀ s : Str,(yf c s).length = s.count c + 1
  | [] => rfl
  | b :: l => by
    unfold yf;split
    · rename_i hb;rw [List.length_cons,y30 c l,hb,List.count_cons_self]
    · rename_i hb;split
      · rename_i he; exact absurd he (y2A c l)
      · rename_i y ys he;have := y30 c l;rw [he] at this;rw [List.count_cons_of_ne (by simpa using hb)]
        simpa using this
theorem yBp : ∀ (s : Str) (c : UInt8),(index s [c] = -1 ∧ c ∉ s) ∨ ∃ x t,s = x ++ c :: t ∧ c ∉ x ∧ index s [c] = (x.length : Int)
  | [],c => .inl ⟨by simp [index],by simp⟩
  | b :: l,c => by
    by_cases h : b = c
    · subst h;exact .inr ⟨[],l,rfl,by simp,by rw [index]; simp [List.isPrefixOf]⟩
    · have hp : ([c] : List UInt8).isPrefixOf (b :: l) = false := by simp [List.isPrefixOf,Ne.symm h]
      have hix : index (b :: l) [c] = if index l [c] == -1 then -1 else index l [c] + 1 := by rw [index,hp]; simp
      rcases yBp l c with ⟨h1,h2⟩ | ⟨x,t,rfl,h2,h3⟩
      · refine .inl ⟨by rw [hix,h1]; rfl,?_⟩
        simp only [List.mem_cons,not_or];exact ⟨fun e => h e.symm,h2⟩
      · refine .inr ⟨b :: x,t,rfl,?_,?_⟩
        · simp only [List.mem_cons,not_or];exact ⟨fun e => h e.symm,h2⟩
        · rw [hix,h3,if_neg (by rw [beq_iff_eq]; omega)]
          simp
theorem yEK (c : UInt8) : ∀ (k : Nat) (s : Str),s.count c = k → splitK [c] 0 k s = yf c s
  | 0,s,h => by
    have : c ∉ s := List.count_eq_zero.1 h;rw [y3J c s this]; rfl
  | k + 1,s,h => by
    unfold splitK;rcases yBp s c with ⟨h1,h2⟩ | ⟨x,t,rfl,h2,h3⟩
    · rw [List.count_eq_zero.2 h2] at h; omega
    · rw [if_neg (by rw [h3,beq_iff_eq]; omega),h3,y2g c x t h2]
      have hc : t.count c = k := by
        rw [List.count_append,List.count_eq_zero.2 h2,List.count_cons_self] at h; omega
      simp only [Int.toNat_natCast,Nat.add_zero,List.length_cons,List.length_nil];rw [List.take_left,show x.length + (0 + 1) = x.length + 1 from rfl,← List.drop_drop,List.drop_left,List.drop_one,List.tail_cons,yEK c k t hc]
theorem yJd (c : UInt8) (s : Str) : (splitB ⟨[c].toArray⟩ 0 (countB ⟨s.toArray⟩ ⟨[c].toArray⟩) ⟨s.toArray⟩).map (·.data.toList) = yf c s := by
  rw [splitB_data];refine yEK c _ s ?_
  exact (count_one c s).symm
theorem y4B (c : UInt8) : ∀ (s x : Str),x ∈ yf c s → x.length ≤ s.length
  | [],x,h => by simp only [yf,List.mem_singleton] at h; subst h; simp
  | b :: l,x,h => by
    unfold yf at h;split at h
    · rcases List.mem_cons.1 h with rfl | h
      · simp
      · have := y4B c l x h; simp; omega
    · split at h
      · rename_i he; exact absurd he (y2A c l)
      · rename_i y ys he;rcases List.mem_cons.1 h with rfl | h
        · have := y4B c l y (by rw [he]; exact List.mem_cons_self ..)
          simp; omega
        · have := y4B c l x (by rw [he]; exact List.mem_cons_of_mem _ h); simp; omega
theorem yAZ : ∀ (s : Str) (c : UInt8),(indexByte s c = -1 ∧ c ∉ s) ∨ ∃ x t,s = x ++ c :: t ∧ c ∉ x ∧ indexByte s c = (x.length : Int)
  | s,c => by
    by_cases h : indexByte s c = -1
    · refine .inl ⟨h,fun hm => ?_⟩
      obtain ⟨k,hk⟩ := List.getElem?_of_mem hm;exact indexByte_none h k hk
    · have hge : -1 ≤ indexByte s c := by
        clear h;induction s with
        | nil => simp [indexByte]
        | cons b l ih => unfold indexByte; split; · omega
                         · split <;> omega
      obtain ⟨o,ho⟩ : ∃ o : Nat,indexByte s c = o := ⟨(indexByte s c).toNat,by omega⟩
      obtain ⟨h1,h2⟩ := indexByte_some ho;refine .inr ⟨s.take o,s.drop (o + 1),?_,?_,?_⟩
      · have hlt := (List.getElem?_eq_some_iff.1 h1).1;have e : c = s[o] := by rw [List.getElem?_eq_getElem hlt] at h1; exact (Option.some.inj h1).symm
        rw [e,List.getElem_cons_drop hlt,List.take_append_drop]
      · intro hm;obtain ⟨k,hk⟩ := List.getElem?_of_mem hm;rw [List.getElem?_take] at hk;split at hk
        · exact h2 k (by assumption) hk
        · cases hk
      · rw [ho,List.length_take];have := (List.getElem?_eq_some_iff.1 h1).1;omega
end Go.S
end
section
set_option maxRecDepth 1000000
namespace Go.SA
open Go.Vx Go.Vx.B Go.Tw Go.S Go.Lib
theorem bT {α : Type} {c : Bool} {a b : α} (h : c = true) : (bif c then a else b) = a := by rw [h]; rfl
theorem bF {α : Type} {c : Bool} {a b : α} (h : c = false) : (bif c then a else b) = b := by rw [h]; rfl
theorem dT {p : Prop} [Decidable p] (h : p) : decide p = true := decide_eq_true h
theorem dF {p : Prop} [Decidable p] (h : ¬ p) : decide p = false := decide_eq_false h
theorem w64 {n : Int} (h1 : -9223372036854775808 ≤ n) (h2 : n < 9223372036854775808) : IntKind.i64.wrap n = n := by
  unfold IntKind.wrap IntKind.bits IntKind.signed;by_cases h : 0 ≤ n
  · have h3 : n % 2 ^ 64 = n := Int.emod_eq_of_lt h (by omega)
    simp only [h3];have h4 : ¬ (n ≥ 2 ^ (64 - 1)) := by omega
    simp [h4];omega
  · have h3 : n % 2 ^ 64 = n + 2 ^ 64 := by
      rw [← Int.add_emod_right];exact Int.emod_eq_of_lt (by omega) (by omega)
    simp only [h3];have h4 : n + 2 ^ 64 ≥ 2 ^ (64 - 1) := by omega
    simp [h4];omega
theorem yIh (c : UInt8) (s : Str) (hs : s.length < 4294967281) : yBm s [c] = some (yf c s,()) := by
  have e : Go.Tw.yCB s [c] = yf c s := yJd c s;unfold yBm;rw [e,bT];rw [dT hs,dT (by simp),dT]
  · rfl
  · rw [y30];have h1 : countB ⟨s.toArray⟩ ⟨[c].toArray⟩ = s.count c := count_one c s;rw [h1]
def I64 (n : Int) : Prop := -9223372036854775808 ≤ n ∧ n < 9223372036854775808
theorem y4J (n : Int) (h : I64 n) : yJu n = some (itoa n,()) := by
  unfold yJu;obtain ⟨h1,h2⟩ := h;rw [bT];rw [dT h1,dT (by omega)]
  rfl
theorem yGm (x : Str) (h : x.length < 9223372036854775000) : zl_M (x ++ [10]) [10] = some (x,true,()) := by
  unfold zl_M zl_m zB_M zB_m zD_M zD_m;have e1 : ((x ++ [(10 : UInt8)]).length : Int) = (x.length : Int) + 1 := by simp
  have e2 : (([(10 : UInt8)] : List UInt8).length : Int) = 1 := rfl;rw [e1,e2,bT (dT (by omega)),w64 (by omega) (by omega),bT (by rw [dT (by omega),dT (by omega)]; rfl),show ((x.length : Int) + 1 - 1).toNat = x.length by omega,List.drop_left,Option.bind_some,
    bF (by simp),bT (by rw [dT (by omega),dT (by omega)]; rfl),List.take_left]
  rfl
theorem yNl (x : Str) (h : x.length < 9223372036854775000) (hx : (10 : UInt8) ∉ x) : zl_M x [10] = some (x,false,()) := by
  unfold zl_M zl_m zB_M zB_m;have : zD_M x [10] = some (false,()) := by
    unfold zD_M zD_m;have e2 : (([(10 : UInt8)] : List UInt8).length : Int) = 1 := rfl;rw [e2];by_cases h1 : (x.length : Int) ≥ 1
    · rw [bT (dT h1),w64 (by omega) (by omega),bT (by rw [dT (by omega),dT (by omega)]; rfl)]
      have : (List.drop ((x.length : Int) - 1).toNat x == [(10 : UInt8)]) = false := by
        rw [beq_eq_false_iff_ne];intro e;exact hx (List.mem_of_mem_drop (by rw [e]; exact List.mem_singleton.2 rfl))
      rw [this]
    · rw [bF (dF h1)]
  rw [this,Option.bind_some,bT (by rfl),Option.bind_some]
theorem yEh (l : List Str) (h1 : l.length ≤ 140737488355328) (h2 : (y0a 32 l).length ≤ 140737488355328) : yDL l [32] = some (y0a 32 l,()) := by
  have e : Lib.join l [32] = y0a 32 l := yFY 32 l;unfold yDL;rw [e,bT];rw [dT h1,dT h2];rfl
theorem yGd (s : Str) : y0f (yn s) = s := by
  unfold y0f yn;rw [List.map_map];conv => rhs; rw [← List.map_id s]
  refine List.map_congr_left fun b _ => ?_
  show UInt8.ofNat ((b.toNat : Int)).toNat = b
  rw [Int.toNat_natCast];exact UInt8.ofNat_toNat
theorem yB2 (s : Str) : y86 (yn s) = true := by
  unfold y86 yn;rw [List.all_map,List.all_eq_true];intro b _;have := b.toNat_lt;simp only [Function.comp,Bool.and_eq_true,decide_eq_true_eq];omega
theorem yEN (a b : Str) : yn a ++ yn b = yn (a ++ b) := by
  unfold yn;rw [List.map_append]
end Go.SA
end
