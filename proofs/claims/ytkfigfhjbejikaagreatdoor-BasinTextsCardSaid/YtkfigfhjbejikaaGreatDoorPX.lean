import Derived.Lib.ItoaNum
import Derived.Lib.AtoiTie
import Derived.Lib.SplitLaws
import Derived.Lib.Strings
import Derived.Test.YtkfigfhjbejikaaGreatDoorXA
import Derived.Test.YtkfigfhjbejikaaGreatDoorSA
import Derived.Test.YtkfigfhjbejikaaGreatDoorLP
set_option linter.all false
section
namespace Go.S
open Go.Lib
abbrev Str := List UInt8
theorem y3d : ∀ (l : Str) (acc : Nat) (b : UInt8),decFrom acc (l ++ [b]) = (decFrom acc l).bind fun n => (digitVal b).map fun d => n * 10 + d
  | [],acc,b => by
    simp only [List.nil_append,decFrom,Option.bind_some];cases digitVal b <;> rfl
  | a :: l,acc,b => by
    simp only [List.cons_append,decFrom];cases digitVal a with
    | none => rfl
    | some d => exact y3d l _ b
theorem yJS (k : Nat) (h : k < 256) : (UInt8.ofNat k).toNat = k := by
  rw [UInt8.toNat_ofNat']; exact Nat.mod_eq_of_lt h
theorem yAd {a b : UInt8} (h : a.toNat = b.toNat) : a = b := UInt8.toNat_inj.1 h
theorem y60 (k : Nat) (h : k < 10) : digitVal (UInt8.ofNat (48 + k)) = some k := by
  unfold digitVal;rw [yJS _ (by omega),if_pos (by omega)]
  congr 1; omega
theorem yGJ (u : Nat) : decFrom 0 (decDigits u) = some u := by
  induction u using Nat.strongRecOn with
  | _ u ih =>
    by_cases h : u < 10
    · rw [decDigits,dif_pos h];simp only [decFrom,y60 u h];congr 1; omega
    · rw [decDigits,dif_neg h,y3d,ih (u / 10) (by omega),Option.bind_some,y60 _ (by omega)]
      simp only [Option.map_some];congr 1; omega
theorem y9M (u : Nat) : decDigits u ≠ [] := by
  rw [decDigits]; split <;> simp
theorem yKJ {u : Nat} {b : UInt8} (h : b ∈ decDigits u) : 48 ≤ b.toNat ∧ b.toNat ≤ 57 := by
  rw [decDigits_eq] at h;obtain ⟨t,_,rfl⟩ := List.mem_map.1 h;unfold dg;rw [yJS _ (by omega)]
  omega
theorem y7f : ∀ (k u : Nat),u < 10 ^ (k + 1) → nDigits u ≤ k + 1
  | 0,u,h => by rw [nDigits_small (by simpa using h)]; exact Nat.le_refl _
  | k + 1,u,h => by
    by_cases hu : u < 10
    · rw [nDigits_small hu]; omega
    · rw [nDigits_big hu];have := y7f k (u / 10) (by rw [Nat.pow_succ] at h; omega)
      omega
theorem yLG {k u : Nat} (h : nDigits u ≤ k) : u < 10 ^ k :=
  Nat.lt_of_lt_of_le (lt_pow_nDigits u) (Nat.pow_le_pow_right (by decide) h)
theorem yIQ : ∀ {u : Nat} {b : UInt8} {l : Str},decDigits u = b :: l → l ≠ [] → b ≠ 48 := by
  intro u;induction u using Nat.strongRecOn with
  | _ u ih =>
    intro b l h hl;rw [decDigits] at h;split at h
    · simp only [List.cons.injEq] at h;exact absurd h.2.symm hl
    · rename_i hu;cases hd : decDigits (u / 10) with
      | nil => exact absurd hd (y9M _)
      | cons a t =>
        rw [hd] at h;simp only [List.cons_append,List.cons.injEq] at h;obtain ⟨rfl,rfl⟩ := h;cases t with
        | cons c t => exact ih _ (by omega) hd (by simp)
        | nil =>
          rw [decDigits] at hd;split at hd
          · rename_i h10;simp only [List.cons.injEq,and_true] at hd;subst hd;intro e;have := congrArg UInt8.toNat e;rw [yJS _ (by omega)] at this
            have h48 : (48 : UInt8).toNat = 48 := rfl;omega
          · have := congrArg List.length hd;simp only [List.length_append,List.length_cons,List.length_nil] at this;have h2 := List.length_pos_iff.2 (y9M (u / 10 / 10));omega
theorem yLh (n : Nat) : ∀ (l : Str) (u : Nat),l.length = n → l ≠ [] → (∀ b t,l = b :: t → t ≠ [] → b ≠ 48) → decFrom 0 l = some u → decDigits u = l ∧ (l.head? ≠ some 48 → 0 < u) := by
  induction n with
  | zero => intro l u hl hn; exact absurd (List.eq_nil_of_length_eq_zero hl) hn
  | succ n ih =>
    intro l u hl hn h0 hd;obtain ⟨l',b,rfl⟩ : ∃ l' b,l = l' ++ [b] := ⟨l.dropLast,l.getLast hn,(List.dropLast_concat_getLast hn).symm⟩;rw [y3d] at hd;obtain ⟨m,hm,hd⟩ := Option.bind_eq_some_iff.1 hd;obtain ⟨d,hb,rfl⟩ := Option.map_eq_some_iff.1 hd;obtain ⟨hb1,hb2,rfl⟩ := digitVal_eq hb;have hbb : UInt8.ofNat (48 + (b.toNat - 48)) = b := yAd (by rw [yJS _ (by omega)]; omega)
    cases l' with
    | nil =>
      simp only [decFrom,Option.some.injEq] at hm;subst hm;refine ⟨?_,fun hne => ?_⟩
      · rw [decDigits,dif_pos (by omega)]
        simp only [Nat.zero_mul,Nat.zero_add,hbb,List.nil_append]
      · simp only [List.nil_append,List.head?_cons,ne_eq,Option.some.injEq] at hne;rcases Nat.lt_or_ge 48 b.toNat with h | h
        · omega
        · exact absurd (yAd (by show b.toNat = 48; omega)) hne
    | cons a t =>
      have hlen : (a :: t).length = n := by simpa using hl
      have ha : a ≠ 48 := h0 a (t ++ [b]) rfl (by simp)
      obtain ⟨h1,h2⟩ := ih (a :: t) m hlen (by simp) (fun b' t' e ht => by cases e; exact ha) hm
      have hpos := h2 (by simpa using ha)
      refine ⟨?_,fun _ => by omega⟩
      rw [decDigits,dif_neg (by omega),show (m * 10 + (b.toNat - 48)) / 10 = m by omega,show (m * 10 + (b.toNat - 48)) % 10 = b.toNat - 48 by omega,h1,hbb]
def numb (mx : Nat) (l : Str) : Option Nat := if l.length = 0 ∨ mx < l.length ∨ (1 < l.length ∧ l.head? = some 48) then none else decFrom 0 l
theorem yAL {mx : Nat} {l : Str} {u : Nat} (h : numb mx l = some u) : decDigits u = l ∧ u < 10 ^ mx := by
  unfold numb at h;split at h
  · cases h
  · rename_i hc;have h1 : decDigits u = l := (yLh _ l u rfl (fun e => hc (.inl (by rw [e]; rfl))) (fun b t e ht hb => hc (.inr (.inr ⟨by rw [e]; have := List.length_pos_iff.2 ht; simp; omega,by rw [e,hb]; rfl⟩))) h).1
    exact ⟨h1,yLG (by rw [← decDigits_length,h1]; omega)⟩
theorem yDm {mx u : Nat} (h : u < 10 ^ (mx + 1)) : numb (mx + 1) (decDigits u) = some u := by
  unfold numb;have hl := y7f mx u h;rw [if_neg,yGJ];rintro (h1 | h1 | ⟨h1,h2⟩)
  · exact y9M u (List.eq_nil_of_length_eq_zero h1)
  · rw [decDigits_length] at h1; omega
  · cases hd : decDigits u with
    | nil => exact y9M u hd
    | cons b t =>
      rw [hd] at h1 h2;simp only [List.head?_cons,Option.some.injEq] at h2;exact yIQ hd (by intro e; rw [e] at h1; simp at h1) h2
def sgn (mx : Nat) : Str → Option Int
  | [] => none
  | b :: r => if b = 45 then (match numb mx r with | some n => if 0 < n then some (-(n : Int)) else none | none => none) else Option.map (fun (n : Nat) => (n : Int)) (numb mx (b :: r))
theorem yCF (mx : Nat) (r : Str) : sgn mx (45 :: r) = (match numb mx r with | some n => if 0 < n then some (-(n : Int)) else none | none => none) := by
  unfold sgn;exact if_pos rfl
theorem yD1 (mx : Nat) {b : UInt8} (hb : b ≠ 45) (r : Str) : sgn mx (b :: r) = Option.map (fun (n : Nat) => (n : Int)) (numb mx (b :: r)) := by
  unfold sgn;exact if_neg hb
theorem y9S (u : Nat) : ∃ b r,decDigits u = b :: r ∧ b ≠ 45 ∧ b ≠ 43 := by
  cases hd : decDigits u with
  | nil => exact absurd hd (y9M u)
  | cons b r =>
    have := yKJ (u := u) (b := b) (by rw [hd]; exact List.mem_cons_self ..)
    refine ⟨b,r,rfl,?_,?_⟩ <;> rintro rfl <;> exact absurd this (by decide)
theorem yHz {mx : Nat} {v : Int} (h : v.natAbs < 10 ^ (mx + 1)) : sgn (mx + 1) (itoa v) = some v := by
  unfold itoa;split
  · rename_i hv;rw [yCF,yDm h];dsimp only;rw [if_pos (by omega)]
    congr 1; omega
  · rename_i hv;obtain ⟨b,r,hd,h45,_⟩ := y9S v.toNat;rw [hd];rw [yD1 _ h45,← hd,yDm (by omega)]
    simp only [Option.map_some];congr 1; omega
theorem yA9 {mx : Nat} {l : Str} {v : Int} (h : sgn mx l = some v) : itoa v = l ∧ v.natAbs < 10 ^ mx := by
  cases l with
  | nil => cases h
  | cons b r =>
    by_cases hb : b = 45
    · subst hb;rw [yCF] at h;split at h
      · rename_i n hn;split at h
        · cases h;obtain ⟨h1,h2⟩ := yAL hn;refine ⟨?_,by omega⟩
          unfold itoa;rw [if_pos (by omega),show (-(n : Int)).natAbs = n by omega,h1]
        · cases h
      · cases h
    · rw [yD1 _ hb] at h;obtain ⟨n,hn,rfl⟩ := Option.map_eq_some_iff.1 h;obtain ⟨h1,h2⟩ := yAL hn;refine ⟨?_,by omega⟩
      unfold itoa;rw [if_neg (by omega)]
      exact h1
theorem yDW (u : Nat) : trimPrefix (decDigits u) [45] = decDigits u := by
  obtain ⟨b,r,hd,h45,_⟩ := y9S u;rw [hd];unfold trimPrefix hasPrefix;rw [if_neg];simp [List.isPrefixOf,Ne.symm h45]
theorem yNV {mx : Nat} {w : Str} {n : Int} (h1 : itoa n = w) (h2 : (trimPrefix w [45]).length ≤ mx + 1) : sgn (mx + 1) w = some n := by
  subst h1;refine yHz ?_
  unfold itoa at h2;split at h2
  · have e : trimPrefix (45 :: decDigits n.natAbs) [45] = decDigits n.natAbs := by
      unfold trimPrefix hasPrefix;rw [if_pos (by simp [List.isPrefixOf])]
      rfl
    rw [e,decDigits_length] at h2;exact yLG h2
  · rw [yDW,decDigits_length] at h2;have := yLG h2;omega
theorem yLQ {mx : Nat} {w : Str} {n : Int} (h : sgn (mx + 1) w = some n) : (trimPrefix w [45]).length ≤ mx + 1 := by
  obtain ⟨h1,h2⟩ := yA9 h;subst h1;unfold itoa;split
  · have e : trimPrefix (45 :: decDigits n.natAbs) [45] = decDigits n.natAbs := by
      unfold trimPrefix hasPrefix;rw [if_pos (by simp [List.isPrefixOf])]
      rfl
    rw [e,decDigits_length];exact y7f mx _ h2
  · rw [yDW,decDigits_length];exact y7f mx _ (by omega)
theorem yH7 {mx : Nat} (hm : mx + 1 ≤ 17) {v : Int} (h : v.natAbs < 10 ^ (mx + 1)) : atoiAll (itoa v) = .ok v := by
  have hlen : (itoa v).length ≤ 18 := by
    have := y7f mx v.natAbs h;unfold itoa;split
    · simp only [List.length_cons,decDigits_length]; omega
    · rw [decDigits_length,show v.toNat = v.natAbs by omega]; omega
  rw [atoiAll_short _ hlen];have : atoi (itoa v) = some v := by
    have dn : ∀ u,decNat (decDigits u) = some u := fun u => by
      unfold decNat;rw [if_neg (by simpa using y9M u),yGJ]
    unfold itoa;split
    · show Option.map (fun (m : Nat) => -(m : Int)) (decNat (decDigits v.natAbs)) = _
      rw [dn];simp only [Option.map_some];congr 1; omega
    · obtain ⟨b,r,hd,h45,h43⟩ := y9S v.toNat;rw [hd];have e : atoi (b :: r) = Option.map (fun (m : Nat) => (m : Int)) (decNat (b :: r)) := by
        simp only [atoi,beq_iff_eq,if_neg h45,if_neg h43]
      rw [e,← hd,dn];simp only [Option.map_some];congr 1; omega
  rw [this];rfl
theorem yIE {mx : Nat} (hm : mx + 1 ≤ 17) {w : Str} {v : Int} (h : sgn (mx + 1) w = some v) : atoiAll w = .ok v := by
  obtain ⟨h1,h2⟩ := yA9 h;rw [← h1];exact yH7 hm h2
def yg (c : UInt8) : Str → List Str
  | [] => [[]]
  | b :: l => if b = c then [] :: yg c l else match yg c l with | [] => [[b]] | x :: xs => (b :: x) :: xs
theorem y2y (c : UInt8) (s : Str) : yg c s ≠ [] := by
  cases s with
  | nil => simp [yg]
  | cons b l => unfold yg; split; · simp
                split <;> simp
def y2Q (c : UInt8) : List Str → Str
  | [] => []
  | [x] => x
  | x :: y :: r => x ++ c :: y2Q c (y :: r)
theorem yEl (c : UInt8) (x : Str) {r : List Str} (h : r ≠ []) : y2Q c (x :: r) = x ++ c :: y2Q c r := by
  cases r with
  | nil => exact absurd rfl h
  | cons y r => rfl
theorem y4F (c : UInt8) : ∀ (x t : Str),c ∉ x → yg c (x ++ c :: t) = x :: yg c t
  | [],t,_ => by simp [yg]
  | b :: x,t,h => by
    simp only [List.mem_cons,not_or] at h;rw [List.cons_append,yg,if_neg (fun e => h.1 e.symm),y4F c x t h.2]
theorem y3R (c : UInt8) : ∀ (x : Str),c ∉ x → yg c x = [x]
  | [],_ => rfl
  | b :: x,h => by
    simp only [List.mem_cons,not_or] at h;rw [yg,if_neg (fun e => h.1 e.symm),y3R c x h.2]
theorem yEP (c : UInt8) : ∀ l : List Str,[c].intercalate l = y2Q c l
  | [] => rfl
  | [x] => by simp [List.intercalate,y2Q]
  | x :: y :: r => by
    rw [yEl c x (by simp),← yEP c (y :: r)]
    simp [List.intercalate,List.intersperse]
theorem y0n (c : UInt8) : ∀ s : Str,(yg c s).length = s.count c + 1
  | [] => rfl
  | b :: l => by
    unfold yg;split
    · rename_i hb;rw [List.length_cons,y0n c l,hb,List.count_cons_self]
    · rename_i hb;split
      · rename_i he; exact absurd he (y2y c l)
      · rename_i y ys he;have := y0n c l;rw [he] at this;rw [List.count_cons_of_ne (by simpa using hb)]
        simpa using this
theorem yBi : ∀ (s : Str) (c : UInt8),(index s [c] = -1 ∧ c ∉ s) ∨ ∃ x t,s = x ++ c :: t ∧ c ∉ x ∧ index s [c] = (x.length : Int)
  | [],c => .inl ⟨by simp [index],by simp⟩
  | b :: l,c => by
    by_cases h : b = c
    · subst h;exact .inr ⟨[],l,rfl,by simp,by rw [index]; simp [List.isPrefixOf]⟩
    · have hp : ([c] : List UInt8).isPrefixOf (b :: l) = false := by simp [List.isPrefixOf,Ne.symm h]
      have hix : index (b :: l) [c] = if index l [c] == -1 then -1 else index l [c] + 1 := by rw [index,hp]; simp
      rcases yBi l c with ⟨h1,h2⟩ | ⟨x,t,rfl,h2,h3⟩
      · refine .inl ⟨by rw [hix,h1]; rfl,?_⟩
        simp only [List.mem_cons,not_or];exact ⟨fun e => h e.symm,h2⟩
      · refine .inr ⟨b :: x,t,rfl,?_,?_⟩
        · simp only [List.mem_cons,not_or];exact ⟨fun e => h e.symm,h2⟩
        · rw [hix,h3,if_neg (by rw [beq_iff_eq]; omega)]
          simp
theorem yDr (c : UInt8) : ∀ (k : Nat) (s : Str),s.count c = k → splitK [c] 0 k s = yg c s
  | 0,s,h => by
    have : c ∉ s := List.count_eq_zero.1 h;rw [y3R c s this]; rfl
  | k + 1,s,h => by
    unfold splitK;rcases yBi s c with ⟨h1,h2⟩ | ⟨x,t,rfl,h2,h3⟩
    · rw [List.count_eq_zero.2 h2] at h; omega
    · rw [if_neg (by rw [h3,beq_iff_eq]; omega),h3,y4F c x t h2]
      have hc : t.count c = k := by
        rw [List.count_append,List.count_eq_zero.2 h2,List.count_cons_self] at h; omega
      simp only [Int.toNat_natCast,Nat.add_zero,List.length_cons,List.length_nil];rw [List.take_left,show x.length + (0 + 1) = x.length + 1 from rfl,← List.drop_drop,List.drop_left,List.drop_one,List.tail_cons,yDr c k t hc]
theorem yJY (c : UInt8) (s : Str) : (splitB ⟨[c].toArray⟩ 0 (countB ⟨s.toArray⟩ ⟨[c].toArray⟩) ⟨s.toArray⟩).map (·.data.toList) = yg c s := by
  rw [splitB_data];refine yDr c _ s ?_
  exact (count_one c s).symm
theorem y28 (c : UInt8) : ∀ (s x : Str),x ∈ yg c s → x.length ≤ s.length
  | [],x,h => by simp only [yg,List.mem_singleton] at h; subst h; simp
  | b :: l,x,h => by
    unfold yg at h;split at h
    · rcases List.mem_cons.1 h with rfl | h
      · simp
      · have := y28 c l x h; simp; omega
    · split at h
      · rename_i he; exact absurd he (y2y c l)
      · rename_i y ys he;rcases List.mem_cons.1 h with rfl | h
        · have := y28 c l y (by rw [he]; exact List.mem_cons_self ..)
          simp; omega
        · have := y28 c l x (by rw [he]; exact List.mem_cons_of_mem _ h); simp; omega
theorem yAC : ∀ (s : Str) (c : UInt8),(indexByte s c = -1 ∧ c ∉ s) ∨ ∃ x t,s = x ++ c :: t ∧ c ∉ x ∧ indexByte s c = (x.length : Int)
  | s,c => by
    by_cases h : indexByte s c = -1
    · refine .inl ⟨h,fun hm => ?_⟩
      obtain ⟨k,hk⟩ := List.getElem?_of_mem hm;exact indexByte_none h k hk
    · have hge : -1 ≤ indexByte s c := by
        clear h;induction s with
        | nil => simp [indexByte]
        | cons b l ih => unfold indexByte; split; · omega
                         · split <;> omega
      obtain ⟨o,ho⟩ : ∃ o : Nat,indexByte s c = o := ⟨(indexByte s c).toNat,by omega⟩
      obtain ⟨h1,h2⟩ := indexByte_some ho;refine .inr ⟨s.take o,s.drop (o + 1),?_,?_,?_⟩
      · have hlt := (List.getElem?_eq_some_iff.1 h1).1;have e : c = s[o] := by rw [List.getElem?_eq_getElem hlt] at h1; exact (Option.some.inj h1).symm
        rw [e,List.getElem_cons_drop hlt,List.take_append_drop]
      · intro hm;obtain ⟨k,hk⟩ := List.getElem?_of_mem hm;rw [List.getElem?_take] at hk;split at hk
        · exact h2 k (by assumption) hk
        · cases hk
      · rw [ho,List.length_take];have := (List.getElem?_eq_some_iff.1 h1).1;omega
end Go.S
end
section
set_option maxRecDepth 1000000
namespace Go.SA
open Go.Vx Go.Vx.B Go.Tw Go.S Go.Lib
theorem bT {α : Type} {c : Bool} {a b : α} (h : c = true) : (bif c then a else b) = a := by rw [h]; rfl
theorem bF {α : Type} {c : Bool} {a b : α} (h : c = false) : (bif c then a else b) = b := by rw [h]; rfl
theorem dT {p : Prop} [Decidable p] (h : p) : decide p = true := decide_eq_true h
theorem dF {p : Prop} [Decidable p] (h : ¬ p) : decide p = false := decide_eq_false h
theorem w64 {n : Int} (h1 : -9223372036854775808 ≤ n) (h2 : n < 9223372036854775808) : IntKind.i64.wrap n = n := by
  unfold IntKind.wrap IntKind.bits IntKind.signed;by_cases h : 0 ≤ n
  · have h3 : n % 2 ^ 64 = n := Int.emod_eq_of_lt h (by omega)
    simp only [h3];have h4 : ¬ (n ≥ 2 ^ (64 - 1)) := by omega
    simp [h4];omega
  · have h3 : n % 2 ^ 64 = n + 2 ^ 64 := by
      rw [← Int.add_emod_right];exact Int.emod_eq_of_lt (by omega) (by omega)
    simp only [h3];have h4 : n + 2 ^ 64 ≥ 2 ^ (64 - 1) := by omega
    simp [h4];omega
theorem w8 {n : Int} (h1 : 0 ≤ n) (h2 : n < 256) : IntKind.u8.wrap n = n := by
  unfold IntKind.wrap IntKind.bits IntKind.signed;have h3 : n % 2 ^ 8 = n := Int.emod_eq_of_lt h1 (by omega)
  simp only [h3];simp
theorem y4p (c : UInt8) (s : Str) (hs : s.length < memMax) : ∀ (k i from_ : Nat) (out : List Str),i + k = s.length + 1 → from_ ≤ i → out.length ≤ from_ → i ≤ s.length → c ∉ (s.take i).drop from_ →
    y1a (fun i__ s__ => y4Q s (c.toNat : Int) i__ s__.1 s__.2) (fun s__ => yAz s (c.toNat : Int) s__.1 s__.2) k (i : Int) ((from_ : Int),out) = some (out ++ yg c (s.drop from_),())
  | 0,i,f,out,h,_,_,h2,_ => by omega
  | k + 1,i,f,out,h,hf,ho,hi,hc => by
    have hcut : List.drop f (List.take i s) = (s.take i).drop f := rfl;rcases Nat.lt_or_ge i s.length with hlt | hge
    · have hg : idx s (i : Int) = some s[i] := by rw [y2z,List.getElem?_eq_getElem hlt]
      have hb1 : ((i : Int) == (s.length : Int)) = false := by rw [beq_eq_false_iff_ne]; omega
      have hd : s.drop f = (s.take i).drop f ++ s[i] :: s.drop (i + 1) := by
        have e1 : s = s.take i ++ s[i] :: s.drop (i + 1) := by rw [List.getElem_cons_drop hlt,List.take_append_drop]
        conv => lhs; rw [e1]
        rw [List.drop_append_of_le_length (by rw [List.length_take]; omega)]
      by_cases he : s[i] = c
      · have hbody : y4Q s (c.toNat : Int) (i : Int) (f : Int) out = some (.inr (((i + 1 : Nat) : Int),out ++ [(s.take i).drop f])) := by
          unfold y4Q y9H;rw [hb1,cond_false,hg,Option.bind_some,he,show (((c.toNat : Nat) : Int) == ((c.toNat : Nat) : Int)) = true by simp,cond_true,
            bT (by rw [dT (Int.natCast_nonneg f),dT (by omega),dT (by omega)]; rfl),bT (dT (by simp only [memMax] at hs ⊢; omega)),y2D (by omega) (by simp only [memMax] at hs; omega)]
          simp only [Int.toNat_natCast];rfl
        simp only [y1a];rw [hbody];simp only [Option.bind_some];have ih := y4p c s hs k (i + 1) (i + 1) (out ++ [(s.take i).drop f]) (by omega) (Nat.le_refl _) (by simp; omega) (by omega) (by rw [List.drop_take]; simp)
        refine (show _ = _ from ?_).trans (ih.trans ?_)
        · rfl
        · rw [List.append_assoc,hd,he,y4F c _ _ hc];rfl
      · have hbody : y4Q s (c.toNat : Int) (i : Int) (f : Int) out = some (.inr ((f : Int),out)) := by
          unfold y4Q y9H;rw [hb1,cond_false,hg,Option.bind_some,show (((s[i].toNat : Nat) : Int) == ((c.toNat : Nat) : Int)) = false by
            rw [beq_eq_false_iff_ne]; intro e; exact he (yAd (Int.ofNat.inj e)),cond_false]
        simp only [y1a];rw [hbody];simp only [Option.bind_some];refine (show _ = _ from ?_).trans (y4p c s hs k (i + 1) f out (by omega) (by omega) ho (by omega) ?_)
        · rfl
        · rw [List.take_succ_eq_append_getElem hlt,List.drop_append_of_le_length (by rw [List.length_take]; omega)]
          simp only [List.mem_append,List.mem_singleton,not_or];exact ⟨hc,fun e => he e.symm⟩
    · have e : i = s.length := by omega
      subst e;have hk : k = 0 := by omega
      subst hk;have hbody : y4Q s (c.toNat : Int) (s.length : Int) (f : Int) out = some (.inr (((s.length + 1 : Nat) : Int),out ++ [(s.take s.length).drop f])) := by
        unfold y4Q y9H;rw [show ((s.length : Int) == (s.length : Int)) = true by simp,cond_true,cond_true,
          bT (by rw [dT (Int.natCast_nonneg f),dT (by omega),dT (by omega)]; rfl),bT (dT (by simp only [memMax] at hs ⊢; omega)),y2D (by omega) (by simp only [memMax] at hs; omega)]
        simp only [Int.toNat_natCast];rfl
      simp only [y1a];rw [hbody];simp only [Option.bind_some];unfold yAz;rw [List.take_length] at hc ⊢;rw [y3R c _ hc]
theorem yBt (c : UInt8) (s : Str) (hs : s.length < memMax) : yFA s (c.toNat : Int) = some (yg c s,()) := by
  unfold yFA;rw [bT (dT (by simp only [memMax] at hs; omega)),show ((s.length : Int) + 1 - 0).toNat = s.length + 1 by omega]
  have := y4p c s hs (s.length + 1) 0 0 [] (by omega) (Nat.le_refl _) (Nat.le_refl _) (Nat.zero_le _) (by simp)
  rw [List.drop_zero,List.nil_append] at this;exact this
theorem yBS (c : UInt8) (s : Str) (hs : s.length < 4294967281) : yBT s [c] = some (yg c s,()) := by
  have e : Go.Tw.yBs s [c] = yg c s := yJY c s;unfold yBT;rw [e,bT];rw [dT hs,dT (by simp),dT]
  · rfl
  · rw [y0n];have h1 : countB ⟨s.toArray⟩ ⟨[c].toArray⟩ = s.count c := count_one c s;rw [h1]
theorem yAU (d : Nat) : ∀ (np : Int),0 ≤ np → np < 10 ^ (d + 1) → np < 9223372036854775808 → yP (d + 1) (np,()) = some (decDigits np.toNat,()) := by
  have one : ∀ (e : Nat) (np : Int),0 ≤ np → np < 10 → yP (e + 1) (np,()) = some (decDigits np.toNat,()) := fun e np h0 h1 => by
    show @y8C ⟨yP e⟩ np = _
    unfold y8C yCi;rw [bF (dF (by omega)),bF (dF (by omega)),bF (dF (by omega)),w64 (by omega) (by omega),w8 (by omega) (by omega),decDigits,dif_pos (by omega)]
    unfold y0G;simp only [List.map_cons,List.map_nil];rw [show ((48 : Int) + np).toNat = 48 + np.toNat by omega]
  induction d with
  | zero => intro np h0 h1 _; exact one 0 np h0 (by omega)
  | succ d ih =>
    intro np h0 h1 h2;by_cases h9 : np ≤ 9
    · exact one _ np h0 (by omega)
    · have hdiv : np.tdiv 10 = np / 10 := Int.tdiv_eq_ediv_of_nonneg h0;have hmod : np.tmod 10 = np % 10 := Int.tmod_eq_emod_of_nonneg h0;show @y8C ⟨yP (d + 1)⟩ np = _
      unfold y8C yCi;have hp : (10 : Int) ^ (d + 1 + 1) = 10 ^ (d + 1) * 10 := Int.pow_succ ..;rw [hp] at h1;rw [bT (dT (by omega)),hdiv,hmod,w64 (by omega) (by omega)]
      show (Option.bind (yP (d + 1) (np / 10,())) _) = _
      rw [ih (np / 10) (by omega) (by omega) (by omega),Option.bind_some]
      show (Option.bind (yP (d + 1) (np % 10,())) _) = _
      rw [one d (np % 10) (by omega) (by omega),Option.bind_some]
      have l1 := y7f 18 (np / 10).toNat (by omega)
      have l2 := y7f 18 (np % 10).toNat (by omega)
      rw [bT (dT (by simp only [decDigits_length,strMax]; omega))]
      have e : decDigits np.toNat = decDigits (np / 10).toNat ++ decDigits (np % 10).toNat := by
        conv => lhs; rw [decDigits]
        rw [dif_neg (by omega),show np.toNat / 10 = (np / 10).toNat by omega,show np.toNat % 10 = (np % 10).toNat by omega]
        congr 1
        rw [decDigits,dif_pos (by omega)]
      rw [e]
theorem yJt (d : Nat) : (10 : Int) ≤ 10 ^ (d + 1) := by
  have : (0 : Int) < 10 ^ d := Int.pow_pos (by decide)
  rw [Int.pow_succ];omega
theorem yIY (d : Nat) : ∀ (np : Int),np < 0 → -(10 ^ (d + 1) : Int) < np → -9223372036854775808 ≤ np → yP (d + 2) (np,()) = some (45 :: decDigits (-np).toNat,()) := by
  have one : ∀ (e : Nat) (np : Int),np < 0 → -10 < np → yP (e + 2) (np,()) = some (45 :: decDigits (-np).toNat,()) := fun e np h0 h1 => by
    show @y8C ⟨yP (e + 1)⟩ np = _
    unfold y8C yCi;rw [bF (dF (by omega)),bF (dF (by omega)),bT (dT h0),w64 (by omega) (by omega)]
    show (Option.bind (yP (e + 1) (0 - np,())) _) = _
    rw [yAU e (0 - np) (by omega) (by have := yJt e; omega) (by omega),Option.bind_some]
    have l1 := y7f 18 (0 - np).toNat (by omega)
    rw [bT (dT (by simp only [decDigits_length,strMax]; omega)),Int.zero_sub]
    rfl
  induction d with
  | zero => intro np h0 h1 _; exact one 0 np h0 (by omega)
  | succ d ih =>
    intro np h0 h1 h2;by_cases h9 : -10 < np
    · exact one _ np h0 h9
    · have hdiv : np.tdiv 10 = -((-np) / 10) := by
        have := Int.neg_tdiv (-np) 10;rw [Int.neg_neg] at this;rw [this,Int.tdiv_eq_ediv_of_nonneg (by omega)]
      have hmod : np.tmod 10 = -((-np) % 10) := by
        have := Int.neg_tmod (-np) 10;rw [Int.neg_neg] at this;rw [this,Int.tmod_eq_emod_of_nonneg (by omega)]
      show @y8C ⟨yP (d + 2)⟩ np = _
      unfold y8C yCi;have hp : (10 : Int) ^ (d + 1 + 1) = 10 ^ (d + 1) * 10 := Int.pow_succ ..;rw [hp] at h1;rw [bF (dF (by omega)),bT (dT (by omega)),hdiv,hmod,w64 (by omega) (by omega),w64 (by omega) (by omega)]
      show (Option.bind (yP (d + 2) (-(-np / 10),())) _) = _
      rw [ih (-(-np / 10)) (by omega) (by omega) (by omega),Option.bind_some]
      show (Option.bind (yP (d + 2) (0 - -(-np % 10),())) _) = _
      rw [yAU (d + 1) (0 - -(-np % 10)) (by omega) (by have := yJt (d + 1); omega) (by omega),Option.bind_some]
      have l1 := y7f 18 (-(-(-np / 10))).toNat (by omega)
      have l2 := y7f 18 (0 - -(-np % 10)).toNat (by omega)
      rw [bT (dT (by simp only [decDigits_length,strMax,List.length_cons]; omega))]
      have e : decDigits (-np).toNat = decDigits (-(-(-np / 10))).toNat ++ decDigits (0 - -(-np % 10)).toNat := by
        conv => lhs; rw [decDigits]
        rw [dif_neg (by omega),show (-np).toNat / 10 = (-(-(-np / 10))).toNat by omega,show (-np).toNat % 10 = (0 - -(-np % 10)).toNat by omega]
        congr 1
        rw [decDigits,dif_pos (by omega)]
      rw [e];rfl
def I64 (n : Int) : Prop := -9223372036854775808 ≤ n ∧ n < 9223372036854775808
theorem y5v (n : Int) (h : I64 n) : yP 24 (n,()) = some (itoa n,()) := by
  obtain ⟨h1,h2⟩ := h;unfold itoa;split
  · rw [yIY 22 n (by omega) (by omega) h1,show (-n).toNat = n.natAbs by omega]
  · rw [yAU 23 n (by omega) (by omega) h2]
theorem y6m (n : Int) (h : I64 n) : yAA n = some (itoa n,()) := by
  unfold yAA;obtain ⟨h1,h2⟩ := h;rw [bT];rw [dT h1,dT (by omega)]
  rfl
theorem yDu (s0 : Str) (h0 : s0.length ≤ 9) : ∀ (l pre : Str) (u : Nat),s0 = pre ++ l → u < 10 ^ pre.length →
    yJ (fun i__ e__ s__ => y4L s0 i__ e__ s__) (fun s__ => yB4 s0 s__) (pre.length : Int) l (u : Int) = some (match decFrom u l with | some n => ((n : Int),true,()) | none => (0,false,()))
  | [],pre,u,_,_ => by simp [yJ,yB4,decFrom]
  | b :: l,pre,u,h,hu => by
    have hg : idx s0 (pre.length : Int) = some b := by rw [y2z,h]; simp
    have hlen : pre.length < 9 := by rw [h] at h0; simp at h0; omega
    have hub : u < 10 ^ 9 := Nat.lt_of_lt_of_le hu (Nat.pow_le_pow_right (by decide) (by omega))
    have hbt : b.toNat < 256 := b.toNat_lt;simp only [yJ,decFrom];by_cases h1 : b.toNat < 48
    · have hbody : y4L s0 (pre.length : Int) b (u : Int) = some (.inl (0,false,())) := by
        unfold y4L;rw [bT (dT (by omega))]
      have hd : digitVal b = none := by unfold digitVal; rw [if_neg (by omega)]
      rw [hbody,hd];rfl
    · by_cases h2 : 57 < b.toNat
      · have hbody : y4L s0 (pre.length : Int) b (u : Int) = some (.inl (0,false,())) := by
          unfold y4L;rw [bF (dF (by omega)),hg,Option.bind_some,bT (dT (by omega))]
        have hd : digitVal b = none := by unfold digitVal; rw [if_neg (by omega)]
        rw [hbody,hd];rfl
      · have hbody : y4L s0 (pre.length : Int) b (u : Int) = some (.inr ((u * 10 + (b.toNat - 48) : Nat) : Int)) := by
          unfold y4L;rw [bF (dF (by omega)),hg,Option.bind_some,bF (dF (by omega)),Option.bind_some,w8 (by omega) (by omega),w64 (n := 10 * (u : Int)) (by omega) (by omega),w64 (n := (b.toNat : Int) - 48) (by omega) (by omega),w64 (by omega) (by omega)]
          congr 2
          omega
        have hd : digitVal b = some (b.toNat - 48) := by unfold digitVal; rw [if_pos (by omega)]
        rw [hbody,hd];simp only [Option.bind_some];have := yDu s0 h0 l (pre ++ [b]) (u * 10 + (b.toNat - 48)) (by rw [h]; simp) (by rw [List.length_append,List.length_singleton,Nat.pow_succ]; omega)
        rw [show ((pre ++ [b]).length : Int) = (pre.length : Int) + 1 by simp] at this
        exact this
theorem y5X (s : Str) : yEe s = some (match numb 9 s with | some n => ((n : Int),true,()) | none => (0,false,())) := by
  unfold yEe numb;by_cases h0 : s.length = 0
  · rw [bT (by rw [beq_iff_eq]; omega),if_pos (.inl h0)]
  · rw [bF (by rw [beq_eq_false_iff_ne]; omega)]
    by_cases h9 : 9 < s.length
    · rw [bT (dT (by omega)),if_pos (.inr (.inl h9))]
    · rw [bF (dF (by omega))]
      have hloop : y81 s = some (match decFrom 0 s with | some n => ((n : Int),true,()) | none => (0,false,())) := by
        unfold y81;rw [bT (dT (by simp only [lenMax]; omega))]
        exact yDu s (by omega) s [] 0 rfl (by decide)
      cases s with
      | nil => simp at h0
      | cons b l =>
        by_cases h1 : 1 < (b :: l).length
        · rw [bT (dT (by omega))]
          have hg : idx (b :: l) (0 : Int) = some b := y2z (b :: l) 0;rw [hg,Option.bind_some];by_cases hb : b = 48
          · rw [bT (by rw [hb]; rfl),if_pos (.inr (.inr ⟨h1,by rw [hb]; rfl⟩))]
          · rw [bF (by rw [beq_eq_false_iff_ne]; intro e; exact hb (yAd (Int.ofNat.inj e))),hloop,if_neg]
            rintro (h | h | ⟨_,h⟩)
            · exact h0 h
            · exact h9 h
            · simp only [List.head?_cons,Option.some.injEq] at h; exact hb h
        · rw [bF (dF (by omega)),hloop,if_neg]
          rintro (h | h | ⟨h,_⟩)
          · exact h0 h
          · exact h9 h
          · exact h1 h
theorem yGt (s : Str) : ∃ v,yJ5 s = some (v,(sgn 9 s).isSome,()) ∧ ∀ x,sgn 9 s = some x → v = x := by
  unfold yJ5 yIg;have plain : ∀ b l,s = b :: l → b ≠ 45 → ∃ v,y3C 0 s false = some (v,(sgn 9 s).isSome,()) ∧ ∀ x,sgn 9 s = some x → v = x := fun b l e hb => by
    unfold y3C;rw [cond_false,y5X];subst e;rw [yD1 9 hb l];cases numb 9 (b :: l) with
    | none => exact ⟨0,rfl,fun x hx => by cases hx⟩
    | some n => exact ⟨n,rfl,fun x hx => by cases hx; rfl⟩
  cases s with
  | nil =>
    rw [bF (dF (by simp))]
    unfold y3C;rw [cond_false,y5X];exact ⟨0,rfl,fun x hx => by cases hx⟩
  | cons b l =>
    by_cases h1 : 1 < (b :: l).length
    · rw [bT (dT (by omega))]
      have hg : idx (b :: l) (0 : Int) = some b := y2z (b :: l) 0;rw [hg,Option.bind_some];by_cases hb : b = 45
      · subst hb;rw [show (((45 : UInt8).toNat : Int) == (45 : Int)) = true by rfl]
        unfold y3C;rw [cond_true,bT (by rw [dT (by omega),dT (by omega)]; rfl)]
        rw [show List.drop (Int.toNat (1 : Int)) ((45 : UInt8) :: l) = l from rfl,y5X,Option.bind_some,yCF]
        cases hn : numb 9 l with
        | none => exact ⟨_,by simp only [cond_false]; rfl,fun x hx => by cases hx⟩
        | some n =>
          have hlt := (yAL hn).2;simp only [cond_true];by_cases hpos : 0 < n
          · refine ⟨_,by rw [w64 (by omega) (by omega),dT (by omega),if_pos hpos]; rfl,fun x hx => ?_⟩
            rw [if_pos hpos] at hx;cases hx;omega
          · refine ⟨_,by rw [dF (by omega),if_neg hpos]; rfl,fun x hx => ?_⟩
            rw [if_neg hpos] at hx;cases hx
      · rw [show (((b.toNat : Nat) : Int) == (45 : Int)) = false by rw [beq_eq_false_iff_ne]; intro e; exact hb (yAd (Int.ofNat.inj e))]
        exact plain b l rfl hb
    · rw [bF (dF (by omega))]
      by_cases hb : b = 45
      · subst hb;have hl : l = [] := by cases l with | nil => rfl | cons _ _ => simp at h1
        subst hl;unfold y3C;rw [cond_false,y5X];exact ⟨0,by rfl,fun x hx => by cases hx⟩
      · exact plain b l rfl hb
def atv (w : Str) : Int := match atoiAll w with | .ok v => v | .syntax => 0 | .range => atoiSat w
def atk (w : Str) : Bool := match atoiAll w with | .ok _ => true | _ => false
def wrg (w : Str) : Bool := !atk w || !(itoa (atv w) == w) || decide (9 < (trimPrefix w [45]).length)
theorem yAK (w : Str) (h : w.length ≤ 281474976710656) : yGl w = some (atv w,atk w,()) := by
  unfold yGl atv atk;rw [bT (dT h)];cases atoiAll w <;> rfl
theorem yG7 (w : Str) : I64 (atv w) := by
  unfold atv;cases h : atoiAll w with
  | ok v => have := atoiAll_bounds h; exact ⟨this.1,by show v < _; omega⟩
  | «syntax» => exact ⟨by show (-9223372036854775808 : Int) ≤ 0; decide,by show (0 : Int) < 9223372036854775808; decide⟩
  | range => have := atoiSat_bounds w; exact ⟨this.1,by show atoiSat w < _; omega⟩
theorem y5s (w : Str) : sgn 9 w = if wrg w then none else some (atv w) := by
  cases h : sgn 9 w with
  | some v =>
    have h1 := yIE (mx := 8) (by decide) h
    have h2 := (yA9 h).1;have h3 := yLQ (mx := 8) h;have e1 : atv w = v := by unfold atv; rw [h1]
    have e2 : atk w = true := by unfold atk; rw [h1]
    have : wrg w = false := by unfold wrg; rw [e2,e1,h2,dF (by omega)]; simp
    rw [this,e1];rfl
  | none =>
    cases hw : wrg w with
    | true => rfl
    | false =>
      unfold wrg at hw;simp only [Bool.or_eq_false_iff,Bool.not_eq_false',beq_iff_eq,decide_eq_false_iff_not,Nat.not_lt] at hw;have := yNV (mx := 8) hw.1.2 hw.2;rw [h] at this;cases this
theorem yHW (x : Str) (h : x.length < 9223372036854775000) : ze_M (x ++ [10]) [10] = some (x,true,()) := by
  unfold ze_M ze_m zD_M zD_m zE_M zE_m;have e1 : ((x ++ [(10 : UInt8)]).length : Int) = (x.length : Int) + 1 := by simp
  have e2 : (([(10 : UInt8)] : List UInt8).length : Int) = 1 := rfl;rw [e1,e2,bT (dT (by omega)),w64 (by omega) (by omega),bT (by rw [dT (by omega),dT (by omega)]; rfl),show ((x.length : Int) + 1 - 1).toNat = x.length by omega,List.drop_left,Option.bind_some,
    bF (by simp),bT (by rw [dT (by omega),dT (by omega)]; rfl),List.take_left]
  rfl
theorem yL5 (x : Str) (h : x.length < 9223372036854775000) (hx : (10 : UInt8) ∉ x) : ze_M x [10] = some (x,false,()) := by
  unfold ze_M ze_m zD_M zD_m;have : zE_M x [10] = some (false,()) := by
    unfold zE_M zE_m;have e2 : (([(10 : UInt8)] : List UInt8).length : Int) = 1 := rfl;rw [e2];by_cases h1 : (x.length : Int) ≥ 1
    · rw [bT (dT h1),w64 (by omega) (by omega),bT (by rw [dT (by omega),dT (by omega)]; rfl)]
      have : (List.drop ((x.length : Int) - 1).toNat x == [(10 : UInt8)]) = false := by
        rw [beq_eq_false_iff_ne];intro e;exact hx (List.mem_of_mem_drop (by rw [e]; exact List.mem_singleton.2 rfl))
      rw [this]
    · rw [bF (dF h1)]
  rw [this,Option.bind_some,bT (by rfl),Option.bind_some]
theorem yEL (l : List Str) (h1 : l.length ≤ 140737488355328) (h2 : (y2Q 32 l).length ≤ 140737488355328) : y76 l [32] = some (y2Q 32 l,()) := by
  have e : Lib.join l [32] = y2Q 32 l := yEP 32 l;unfold y76;rw [e,bT];rw [dT h1,dT h2];rfl
theorem yFY (s : Str) : y0G (yh s) = s := by
  unfold y0G yh;rw [List.map_map];conv => rhs; rw [← List.map_id s]
  refine List.map_congr_left fun b _ => ?_
  show UInt8.ofNat ((b.toNat : Int)).toNat = b
  rw [Int.toNat_natCast];exact UInt8.ofNat_toNat
theorem yAm (s : Str) : y4n (yh s) = true := by
  unfold y4n yh;rw [List.all_map,List.all_eq_true];intro b _;have := b.toNat_lt;simp only [Function.comp,Bool.and_eq_true,decide_eq_true_eq];omega
theorem yE1 (a b : Str) : yh a ++ yh b = yh (a ++ b) := by
  unfold yh;rw [List.map_append]
end Go.SA
end
