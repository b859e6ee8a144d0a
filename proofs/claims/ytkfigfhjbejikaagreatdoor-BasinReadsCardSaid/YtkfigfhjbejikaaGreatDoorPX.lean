import Derived.Lib.ItoaNum
import Derived.Lib.AtoiTie
import Derived.Lib.SplitLaws
import Derived.Lib.Strings
import Derived.Test.YtkfigfhjbejikaaGreatDoorXA
import Derived.Test.YtkfigfhjbejikaaGreatDoorSA
import Derived.Test.YtkfigfhjbejikaaGreatDoorLP
set_option linter.all false
section
namespace Go.S
open Go.Lib
abbrev Str := List UInt8
theorem y3g : ∀ (l : Str) (acc : Nat) (b : UInt8),decFrom acc (l ++ [b]) = (decFrom acc l).bind fun n => (digitVal b).map fun d => n * 10 + d
  | [],acc,b => by
    simp only [List.nil_append,decFrom,Option.bind_some];cases digitVal b <;> rfl
  | a :: l,acc,b => by
    simp only [List.cons_append,decFrom];cases digitVal a with
    | none => rfl
    | some d => exact y3g l _ b
theorem yJA (k : Nat) (h : k < 256) : (UInt8.ofNat k).toNat = k := by
  rw [UInt8.toNat_ofNat']; exact Nat.mod_eq_of_lt h
theorem yGu {a b : UInt8} (h : a.toNat = b.toNat) : a = b := UInt8.toNat_inj.1 h
theorem y6G (k : Nat) (h : k < 10) : digitVal (UInt8.ofNat (48 + k)) = some k := by
  unfold digitVal;rw [yJA _ (by omega),if_pos (by omega)]
  congr 1; omega
theorem yIK (u : Nat) : decFrom 0 (decDigits u) = some u := by
  induction u using Nat.strongRecOn with
  | _ u ih =>
    by_cases h : u < 10
    · rw [decDigits,dif_pos h];simp only [decFrom,y6G u h];congr 1; omega
    · rw [decDigits,dif_neg h,y3g,ih (u / 10) (by omega),Option.bind_some,y6G _ (by omega)]
      simp only [Option.map_some];congr 1; omega
theorem y8y (u : Nat) : decDigits u ≠ [] := by
  rw [decDigits]; split <;> simp
theorem yD2 {u : Nat} {b : UInt8} (h : b ∈ decDigits u) : 48 ≤ b.toNat ∧ b.toNat ≤ 57 := by
  rw [decDigits_eq] at h;obtain ⟨t,_,rfl⟩ := List.mem_map.1 h;unfold dg;rw [yJA _ (by omega)]
  omega
theorem yFT : ∀ (k u : Nat),u < 10 ^ (k + 1) → nDigits u ≤ k + 1
  | 0,u,h => by rw [nDigits_small (by simpa using h)]; exact Nat.le_refl _
  | k + 1,u,h => by
    by_cases hu : u < 10
    · rw [nDigits_small hu]; omega
    · rw [nDigits_big hu];have := yFT k (u / 10) (by rw [Nat.pow_succ] at h; omega)
      omega
theorem yMS {k u : Nat} (h : nDigits u ≤ k) : u < 10 ^ k :=
  Nat.lt_of_lt_of_le (lt_pow_nDigits u) (Nat.pow_le_pow_right (by decide) h)
theorem yJh : ∀ {u : Nat} {b : UInt8} {l : Str},decDigits u = b :: l → l ≠ [] → b ≠ 48 := by
  intro u;induction u using Nat.strongRecOn with
  | _ u ih =>
    intro b l h hl;rw [decDigits] at h;split at h
    · simp only [List.cons.injEq] at h;exact absurd h.2.symm hl
    · rename_i hu;cases hd : decDigits (u / 10) with
      | nil => exact absurd hd (y8y _)
      | cons a t =>
        rw [hd] at h;simp only [List.cons_append,List.cons.injEq] at h;obtain ⟨rfl,rfl⟩ := h;cases t with
        | cons c t => exact ih _ (by omega) hd (by simp)
        | nil =>
          rw [decDigits] at hd;split at hd
          · rename_i h10;simp only [List.cons.injEq,and_true] at hd;subst hd;intro e;have := congrArg UInt8.toNat e;rw [yJA _ (by omega)] at this
            have h48 : (48 : UInt8).toNat = 48 := rfl;omega
          · have := congrArg List.length hd;simp only [List.length_append,List.length_cons,List.length_nil] at this;have h2 := List.length_pos_iff.2 (y8y (u / 10 / 10));omega
theorem yLp (n : Nat) : ∀ (l : Str) (u : Nat),l.length = n → l ≠ [] → (∀ b t,l = b :: t → t ≠ [] → b ≠ 48) → decFrom 0 l = some u → decDigits u = l ∧ (l.head? ≠ some 48 → 0 < u) := by
  induction n with
  | zero => intro l u hl hn; exact absurd (List.eq_nil_of_length_eq_zero hl) hn
  | succ n ih =>
    intro l u hl hn h0 hd;obtain ⟨l',b,rfl⟩ : ∃ l' b,l = l' ++ [b] := ⟨l.dropLast,l.getLast hn,(List.dropLast_concat_getLast hn).symm⟩;rw [y3g] at hd;obtain ⟨m,hm,hd⟩ := Option.bind_eq_some_iff.1 hd;obtain ⟨d,hb,rfl⟩ := Option.map_eq_some_iff.1 hd;obtain ⟨hb1,hb2,rfl⟩ := digitVal_eq hb;have hbb : UInt8.ofNat (48 + (b.toNat - 48)) = b := yGu (by rw [yJA _ (by omega)]; omega)
    cases l' with
    | nil =>
      simp only [decFrom,Option.some.injEq] at hm;subst hm;refine ⟨?_,fun hne => ?_⟩
      · rw [decDigits,dif_pos (by omega)]
        simp only [Nat.zero_mul,Nat.zero_add,hbb,List.nil_append]
      · simp only [List.nil_append,List.head?_cons,ne_eq,Option.some.injEq] at hne;rcases Nat.lt_or_ge 48 b.toNat with h | h
        · omega
        · exact absurd (yGu (by show b.toNat = 48; omega)) hne
    | cons a t =>
      have hlen : (a :: t).length = n := by simpa using hl
      have ha : a ≠ 48 := h0 a (t ++ [b]) rfl (by simp)
      obtain ⟨h1,h2⟩ := ih (a :: t) m hlen (by simp) (fun b' t' e ht => by cases e; exact ha) hm
      have hpos := h2 (by simpa using ha)
      refine ⟨?_,fun _ => by omega⟩
      rw [decDigits,dif_neg (by omega),show (m * 10 + (b.toNat - 48)) / 10 = m by omega,show (m * 10 + (b.toNat - 48)) % 10 = b.toNat - 48 by omega,h1,hbb]
def numb (mx : Nat) (l : Str) : Option Nat := if l.length = 0 ∨ mx < l.length ∨ (1 < l.length ∧ l.head? = some 48) then none else decFrom 0 l
theorem yDq {mx : Nat} {l : Str} {u : Nat} (h : numb mx l = some u) : decDigits u = l ∧ u < 10 ^ mx := by
  unfold numb at h;split at h
  · cases h
  · rename_i hc;have h1 : decDigits u = l := (yLp _ l u rfl (fun e => hc (.inl (by rw [e]; rfl))) (fun b t e ht hb => hc (.inr (.inr ⟨by rw [e]; have := List.length_pos_iff.2 ht; simp; omega,by rw [e,hb]; rfl⟩))) h).1
    exact ⟨h1,yMS (by rw [← decDigits_length,h1]; omega)⟩
theorem yEm {mx u : Nat} (h : u < 10 ^ (mx + 1)) : numb (mx + 1) (decDigits u) = some u := by
  unfold numb;have hl := yFT mx u h;rw [if_neg,yIK];rintro (h1 | h1 | ⟨h1,h2⟩)
  · exact y8y u (List.eq_nil_of_length_eq_zero h1)
  · rw [decDigits_length] at h1; omega
  · cases hd : decDigits u with
    | nil => exact y8y u hd
    | cons b t =>
      rw [hd] at h1 h2;simp only [List.head?_cons,Option.some.injEq] at h2;exact yJh hd (by intro e; rw [e] at h1; simp at h1) h2
def sgn (mx : Nat) : Str → Option Int
  | [] => none
  | b :: r => if b = 45 then (match numb mx r with | some n => if 0 < n then some (-(n : Int)) else none | none => none) else Option.map (fun (n : Nat) => (n : Int)) (numb mx (b :: r))
theorem yIk (mx : Nat) (r : Str) : sgn mx (45 :: r) = (match numb mx r with | some n => if 0 < n then some (-(n : Int)) else none | none => none) := by
  unfold sgn;exact if_pos rfl
theorem yHs (mx : Nat) {b : UInt8} (hb : b ≠ 45) (r : Str) : sgn mx (b :: r) = Option.map (fun (n : Nat) => (n : Int)) (numb mx (b :: r)) := by
  unfold sgn;exact if_neg hb
theorem yDb {v : Int} {b : UInt8} (h : b ∈ itoa v) : b = 45 ∨ 48 ≤ b.toNat ∧ b.toNat ≤ 57 := by
  unfold itoa at h;split at h
  · rcases List.mem_cons.1 h with h | h
    · exact .inl h
    · exact .inr (yD2 h)
  · exact .inr (yD2 h)
theorem yAX (u : Nat) : ∃ b r,decDigits u = b :: r ∧ b ≠ 45 ∧ b ≠ 43 := by
  cases hd : decDigits u with
  | nil => exact absurd hd (y8y u)
  | cons b r =>
    have := yD2 (u := u) (b := b) (by rw [hd]; exact List.mem_cons_self ..)
    refine ⟨b,r,rfl,?_,?_⟩ <;> rintro rfl <;> exact absurd this (by decide)
theorem yDm {mx : Nat} {v : Int} (h : v.natAbs < 10 ^ (mx + 1)) : sgn (mx + 1) (itoa v) = some v := by
  unfold itoa;split
  · rename_i hv;rw [yIk,yEm h];dsimp only;rw [if_pos (by omega)]
    congr 1; omega
  · rename_i hv;obtain ⟨b,r,hd,h45,_⟩ := yAX v.toNat;rw [hd];rw [yHs _ h45,← hd,yEm (by omega)]
    simp only [Option.map_some];congr 1; omega
theorem y1t {mx : Nat} {l : Str} {v : Int} (h : sgn mx l = some v) : itoa v = l ∧ v.natAbs < 10 ^ mx := by
  cases l with
  | nil => cases h
  | cons b r =>
    by_cases hb : b = 45
    · subst hb;rw [yIk] at h;split at h
      · rename_i n hn;split at h
        · cases h;obtain ⟨h1,h2⟩ := yDq hn;refine ⟨?_,by omega⟩
          unfold itoa;rw [if_pos (by omega),show (-(n : Int)).natAbs = n by omega,h1]
        · cases h
      · cases h
    · rw [yHs _ hb] at h;obtain ⟨n,hn,rfl⟩ := Option.map_eq_some_iff.1 h;obtain ⟨h1,h2⟩ := yDq hn;refine ⟨?_,by omega⟩
      unfold itoa;rw [if_neg (by omega)]
      exact h1
theorem yEc (u : Nat) : trimPrefix (decDigits u) [45] = decDigits u := by
  obtain ⟨b,r,hd,h45,_⟩ := yAX u;rw [hd];unfold trimPrefix hasPrefix;rw [if_neg];simp [List.isPrefixOf,Ne.symm h45]
theorem yNj {mx : Nat} {w : Str} {n : Int} (h1 : itoa n = w) (h2 : (trimPrefix w [45]).length ≤ mx + 1) : sgn (mx + 1) w = some n := by
  subst h1;refine yDm ?_
  unfold itoa at h2;split at h2
  · have e : trimPrefix (45 :: decDigits n.natAbs) [45] = decDigits n.natAbs := by
      unfold trimPrefix hasPrefix;rw [if_pos (by simp [List.isPrefixOf])]
      rfl
    rw [e,decDigits_length] at h2;exact yMS h2
  · rw [yEc,decDigits_length] at h2;have := yMS h2;omega
theorem yMT {mx : Nat} {w : Str} {n : Int} (h : sgn (mx + 1) w = some n) : (trimPrefix w [45]).length ≤ mx + 1 := by
  obtain ⟨h1,h2⟩ := y1t h;subst h1;unfold itoa;split
  · have e : trimPrefix (45 :: decDigits n.natAbs) [45] = decDigits n.natAbs := by
      unfold trimPrefix hasPrefix;rw [if_pos (by simp [List.isPrefixOf])]
      rfl
    rw [e,decDigits_length];exact yFT mx _ h2
  · rw [yEc,decDigits_length];exact yFT mx _ (by omega)
theorem yHm {mx : Nat} (hm : mx + 1 ≤ 17) {v : Int} (h : v.natAbs < 10 ^ (mx + 1)) : atoiAll (itoa v) = .ok v := by
  have hlen : (itoa v).length ≤ 18 := by
    have := yFT mx v.natAbs h;unfold itoa;split
    · simp only [List.length_cons,decDigits_length]; omega
    · rw [decDigits_length,show v.toNat = v.natAbs by omega]; omega
  rw [atoiAll_short _ hlen];have : atoi (itoa v) = some v := by
    have dn : ∀ u,decNat (decDigits u) = some u := fun u => by
      unfold decNat;rw [if_neg (by simpa using y8y u),yIK]
    unfold itoa;split
    · show Option.map (fun (m : Nat) => -(m : Int)) (decNat (decDigits v.natAbs)) = _
      rw [dn];simp only [Option.map_some];congr 1; omega
    · obtain ⟨b,r,hd,h45,h43⟩ := yAX v.toNat;rw [hd];have e : atoi (b :: r) = Option.map (fun (m : Nat) => (m : Int)) (decNat (b :: r)) := by
        simp only [atoi,beq_iff_eq,if_neg h45,if_neg h43]
      rw [e,← hd,dn];simp only [Option.map_some];congr 1; omega
  rw [this];rfl
theorem yJR {mx : Nat} (hm : mx + 1 ≤ 17) {w : Str} {v : Int} (h : sgn (mx + 1) w = some v) : atoiAll w = .ok v := by
  obtain ⟨h1,h2⟩ := y1t h;rw [← h1];exact yHm hm h2
def yc (c : UInt8) : Str → List Str
  | [] => [[]]
  | b :: l => if b = c then [] :: yc c l else match yc c l with | [] => [[b]] | x :: xs => (b :: x) :: xs
theorem y2K (c : UInt8) (s : Str) : yc c s ≠ [] := by
  cases s with
  | nil => simp [yc]
  | cons b l => unfold yc; split; · simp
                split <;> simp
def y0s (c : UInt8) : List Str → Str
  | [] => []
  | [x] => x
  | x :: y :: r => x ++ c :: y0s c (y :: r)
theorem y1x (c : UInt8) (x : Str) {r : List Str} (h : r ≠ []) : y0s c (x :: r) = x ++ c :: y0s c r := by
  cases r with
  | nil => exact absurd rfl h
  | cons y r => rfl
theorem y4v (c : UInt8) : ∀ s : Str,y0s c (yc c s) = s
  | [] => rfl
  | b :: l => by
    have ih := y4v c l;unfold yc;split
    · rename_i hb;rw [y1x c [] (y2K c l),ih,hb]; rfl
    · split
      · rename_i he; exact absurd he (y2K c l)
      · rename_i y ys he;rw [he] at ih;cases ys with
        | nil => exact congrArg (b :: ·) ih
        | cons z zs => exact congrArg (b :: ·) ih
theorem y24 (c : UInt8) : ∀ (x t : Str),c ∉ x → yc c (x ++ c :: t) = x :: yc c t
  | [],t,_ => by simp [yc]
  | b :: x,t,h => by
    simp only [List.mem_cons,not_or] at h;rw [List.cons_append,yc,if_neg (fun e => h.1 e.symm),y24 c x t h.2]
theorem y2B (c : UInt8) : ∀ (x : Str),c ∉ x → yc c x = [x]
  | [],_ => rfl
  | b :: x,h => by
    simp only [List.mem_cons,not_or] at h;rw [yc,if_neg (fun e => h.1 e.symm),y2B c x h.2]
theorem y3N (c : UInt8) : ∀ l : List Str,l ≠ [] → (∀ x ∈ l,c ∉ x) → yc c (y0s c l) = l
  | [],h,_ => absurd rfl h
  | [x],_,h => y2B c x (h x (List.mem_cons_self ..))
  | x :: y :: r,_,h => by
    rw [y1x c x (by simp),y24 c x _ (h x (List.mem_cons_self ..)),y3N c (y :: r) (by simp) (fun z hz => h z (List.mem_cons_of_mem _ hz))]
theorem yEP (c : UInt8) : ∀ l : List Str,[c].intercalate l = y0s c l
  | [] => rfl
  | [x] => by simp [List.intercalate,y0s]
  | x :: y :: r => by
    rw [y1x c x (by simp),← yEP c (y :: r)]
    simp [List.intercalate,List.intersperse]
theorem y3G (c : UInt8) : ∀ s : Str,(yc c s).length = s.count c + 1
  | [] => rfl
  | b :: l => by
    unfold yc;split
    · rename_i hb;rw [List.length_cons,y3G c l,hb,List.count_cons_self]
    · rename_i hb;split
      · rename_i he; exact absurd he (y2K c l)
      · rename_i y ys he;have := y3G c l;rw [he] at this;rw [List.count_cons_of_ne (by simpa using hb)]
        simpa using this
theorem yBI : ∀ (s : Str) (c : UInt8),(index s [c] = -1 ∧ c ∉ s) ∨ ∃ x t,s = x ++ c :: t ∧ c ∉ x ∧ index s [c] = (x.length : Int)
  | [],c => .inl ⟨by simp [index],by simp⟩
  | b :: l,c => by
    by_cases h : b = c
    · subst h;exact .inr ⟨[],l,rfl,by simp,by rw [index]; simp [List.isPrefixOf]⟩
    · have hp : ([c] : List UInt8).isPrefixOf (b :: l) = false := by simp [List.isPrefixOf,Ne.symm h]
      have hix : index (b :: l) [c] = if index l [c] == -1 then -1 else index l [c] + 1 := by rw [index,hp]; simp
      rcases yBI l c with ⟨h1,h2⟩ | ⟨x,t,rfl,h2,h3⟩
      · refine .inl ⟨by rw [hix,h1]; rfl,?_⟩
        simp only [List.mem_cons,not_or];exact ⟨fun e => h e.symm,h2⟩
      · refine .inr ⟨b :: x,t,rfl,?_,?_⟩
        · simp only [List.mem_cons,not_or];exact ⟨fun e => h e.symm,h2⟩
        · rw [hix,h3,if_neg (by rw [beq_iff_eq]; omega)]
          simp
theorem yED (c : UInt8) : ∀ (k : Nat) (s : Str),s.count c = k → splitK [c] 0 k s = yc c s
  | 0,s,h => by
    have : c ∉ s := List.count_eq_zero.1 h;rw [y2B c s this]; rfl
  | k + 1,s,h => by
    unfold splitK;rcases yBI s c with ⟨h1,h2⟩ | ⟨x,t,rfl,h2,h3⟩
    · rw [List.count_eq_zero.2 h2] at h; omega
    · rw [if_neg (by rw [h3,beq_iff_eq]; omega),h3,y24 c x t h2]
      have hc : t.count c = k := by
        rw [List.count_append,List.count_eq_zero.2 h2,List.count_cons_self] at h; omega
      simp only [Int.toNat_natCast,Nat.add_zero,List.length_cons,List.length_nil];rw [List.take_left,show x.length + (0 + 1) = x.length + 1 from rfl,← List.drop_drop,List.drop_left,List.drop_one,List.tail_cons,yED c k t hc]
theorem yKL (c : UInt8) (s : Str) : (splitB ⟨[c].toArray⟩ 0 (countB ⟨s.toArray⟩ ⟨[c].toArray⟩) ⟨s.toArray⟩).map (·.data.toList) = yc c s := by
  rw [splitB_data];refine yED c _ s ?_
  exact (count_one c s).symm
theorem y3v (c : UInt8) : ∀ (s x : Str),x ∈ yc c s → x.length ≤ s.length
  | [],x,h => by simp only [yc,List.mem_singleton] at h; subst h; simp
  | b :: l,x,h => by
    unfold yc at h;split at h
    · rcases List.mem_cons.1 h with rfl | h
      · simp
      · have := y3v c l x h; simp; omega
    · split at h
      · rename_i he; exact absurd he (y2K c l)
      · rename_i y ys he;rcases List.mem_cons.1 h with rfl | h
        · have := y3v c l y (by rw [he]; exact List.mem_cons_self ..)
          simp; omega
        · have := y3v c l x (by rw [he]; exact List.mem_cons_of_mem _ h); simp; omega
theorem yAb : ∀ (s : Str) (c : UInt8),(indexByte s c = -1 ∧ c ∉ s) ∨ ∃ x t,s = x ++ c :: t ∧ c ∉ x ∧ indexByte s c = (x.length : Int)
  | s,c => by
    by_cases h : indexByte s c = -1
    · refine .inl ⟨h,fun hm => ?_⟩
      obtain ⟨k,hk⟩ := List.getElem?_of_mem hm;exact indexByte_none h k hk
    · have hge : -1 ≤ indexByte s c := by
        clear h;induction s with
        | nil => simp [indexByte]
        | cons b l ih => unfold indexByte; split; · omega
                         · split <;> omega
      obtain ⟨o,ho⟩ : ∃ o : Nat,indexByte s c = o := ⟨(indexByte s c).toNat,by omega⟩
      obtain ⟨h1,h2⟩ := indexByte_some ho;refine .inr ⟨s.take o,s.drop (o + 1),?_,?_,?_⟩
      · have hlt := (List.getElem?_eq_some_iff.1 h1).1;have e : c = s[o] := by rw [List.getElem?_eq_getElem hlt] at h1; exact (Option.some.inj h1).symm
        rw [e,List.getElem_cons_drop hlt,List.take_append_drop]
      · intro hm;obtain ⟨k,hk⟩ := List.getElem?_of_mem hm;rw [List.getElem?_take] at hk;split at hk
        · exact h2 k (by assumption) hk
        · cases hk
      · rw [ho,List.length_take];have := (List.getElem?_eq_some_iff.1 h1).1;omega
end Go.S
end
section
set_option maxRecDepth 1000000
namespace Go.SA
open Go.Vx Go.Vx.B Go.Tw Go.S Go.Lib
theorem bT {α : Type} {c : Bool} {a b : α} (h : c = true) : (bif c then a else b) = a := by rw [h]; rfl
theorem bF {α : Type} {c : Bool} {a b : α} (h : c = false) : (bif c then a else b) = b := by rw [h]; rfl
theorem dT {p : Prop} [Decidable p] (h : p) : decide p = true := decide_eq_true h
theorem dF {p : Prop} [Decidable p] (h : ¬ p) : decide p = false := decide_eq_false h
theorem w64 {n : Int} (h1 : -9223372036854775808 ≤ n) (h2 : n < 9223372036854775808) : IntKind.i64.wrap n = n := by
  unfold IntKind.wrap IntKind.bits IntKind.signed;by_cases h : 0 ≤ n
  · have h3 : n % 2 ^ 64 = n := Int.emod_eq_of_lt h (by omega)
    simp only [h3];have h4 : ¬ (n ≥ 2 ^ (64 - 1)) := by omega
    simp [h4];omega
  · have h3 : n % 2 ^ 64 = n + 2 ^ 64 := by
      rw [← Int.add_emod_right];exact Int.emod_eq_of_lt (by omega) (by omega)
    simp only [h3];have h4 : n + 2 ^ 64 ≥ 2 ^ (64 - 1) := by omega
    simp [h4];omega
theorem y4w (c : UInt8) (s : Str) (hs : s.length < memMax) : ∀ (k i from_ : Nat) (out : List Str),i + k = s.length + 1 → from_ ≤ i → out.length ≤ from_ → i ≤ s.length → c ∉ (s.take i).drop from_ →
    y1R (fun i__ s__ => y4Y s (c.toNat : Int) i__ s__.1 s__.2) (fun s__ => yBQ s (c.toNat : Int) s__.1 s__.2) k (i : Int) ((from_ : Int),out) = some (out ++ yc c (s.drop from_),())
  | 0,i,f,out,h,_,_,h2,_ => by omega
  | k + 1,i,f,out,h,hf,ho,hi,hc => by
    have hcut : List.drop f (List.take i s) = (s.take i).drop f := rfl;rcases Nat.lt_or_ge i s.length with hlt | hge
    · have hg : idx s (i : Int) = some s[i] := by rw [y4U,List.getElem?_eq_getElem hlt]
      have hb1 : ((i : Int) == (s.length : Int)) = false := by rw [beq_eq_false_iff_ne]; omega
      have hd : s.drop f = (s.take i).drop f ++ s[i] :: s.drop (i + 1) := by
        have e1 : s = s.take i ++ s[i] :: s.drop (i + 1) := by rw [List.getElem_cons_drop hlt,List.take_append_drop]
        conv => lhs; rw [e1]
        rw [List.drop_append_of_le_length (by rw [List.length_take]; omega)]
      by_cases he : s[i] = c
      · have hbody : y4Y s (c.toNat : Int) (i : Int) (f : Int) out = some (.inr (((i + 1 : Nat) : Int),out ++ [(s.take i).drop f])) := by
          unfold y4Y y94;rw [hb1,cond_false,hg,Option.bind_some,he,show (((c.toNat : Nat) : Int) == ((c.toNat : Nat) : Int)) = true by simp,cond_true,
            bT (by rw [dT (Int.natCast_nonneg f),dT (by omega),dT (by omega)]; rfl),bT (dT (by simp only [memMax] at hs ⊢; omega)),y29 (by omega) (by simp only [memMax] at hs; omega)]
          simp only [Int.toNat_natCast];rfl
        simp only [y1R];rw [hbody];simp only [Option.bind_some];have ih := y4w c s hs k (i + 1) (i + 1) (out ++ [(s.take i).drop f]) (by omega) (Nat.le_refl _) (by simp; omega) (by omega) (by rw [List.drop_take]; simp)
        refine (show _ = _ from ?_).trans (ih.trans ?_)
        · rfl
        · rw [List.append_assoc,hd,he,y24 c _ _ hc];rfl
      · have hbody : y4Y s (c.toNat : Int) (i : Int) (f : Int) out = some (.inr ((f : Int),out)) := by
          unfold y4Y y94;rw [hb1,cond_false,hg,Option.bind_some,show (((s[i].toNat : Nat) : Int) == ((c.toNat : Nat) : Int)) = false by
            rw [beq_eq_false_iff_ne]; intro e; exact he (yGu (Int.ofNat.inj e)),cond_false]
        simp only [y1R];rw [hbody];simp only [Option.bind_some];refine (show _ = _ from ?_).trans (y4w c s hs k (i + 1) f out (by omega) (by omega) ho (by omega) ?_)
        · rfl
        · rw [List.take_succ_eq_append_getElem hlt,List.drop_append_of_le_length (by rw [List.length_take]; omega)]
          simp only [List.mem_append,List.mem_singleton,not_or];exact ⟨hc,fun e => he e.symm⟩
    · have e : i = s.length := by omega
      subst e;have hk : k = 0 := by omega
      subst hk;have hbody : y4Y s (c.toNat : Int) (s.length : Int) (f : Int) out = some (.inr (((s.length + 1 : Nat) : Int),out ++ [(s.take s.length).drop f])) := by
        unfold y4Y y94;rw [show ((s.length : Int) == (s.length : Int)) = true by simp,cond_true,cond_true,
          bT (by rw [dT (Int.natCast_nonneg f),dT (by omega),dT (by omega)]; rfl),bT (dT (by simp only [memMax] at hs ⊢; omega)),y29 (by omega) (by simp only [memMax] at hs; omega)]
        simp only [Int.toNat_natCast];rfl
      simp only [y1R];rw [hbody];simp only [Option.bind_some];unfold yBQ;rw [List.take_length] at hc ⊢;rw [y2B c _ hc]
theorem yHP (c : UInt8) (s : Str) (hs : s.length < memMax) : yGC s (c.toNat : Int) = some (yc c s,()) := by
  unfold yGC;rw [bT (dT (by simp only [memMax] at hs; omega)),show ((s.length : Int) + 1 - 0).toNat = s.length + 1 by omega]
  have := y4w c s hs (s.length + 1) 0 0 [] (by omega) (Nat.le_refl _) (Nat.le_refl _) (Nat.zero_le _) (by simp)
  rw [List.drop_zero,List.nil_append] at this;exact this
theorem yBK (c : UInt8) (s : Str) (hs : s.length < 4294967281) : yBC s [c] = some (yc c s,()) := by
  have e : Go.Tw.yBF s [c] = yc c s := yKL c s;unfold yBC;rw [e,bT];rw [dT hs,dT (by simp),dT]
  · rfl
  · rw [y3G];have h1 : countB ⟨s.toArray⟩ ⟨[c].toArray⟩ = s.count c := count_one c s;rw [h1]
def I64 (n : Int) : Prop := -9223372036854775808 ≤ n ∧ n < 9223372036854775808
theorem y6w (n : Int) (h : I64 n) : y9n n = some (itoa n,()) := by
  unfold y9n;obtain ⟨h1,h2⟩ := h;rw [bT];rw [dT h1,dT (by omega)]
  rfl
theorem yGe (x : Str) (h : x.length < 9223372036854775000) : zg_M (x ++ [10]) [10] = some (x,true,()) := by
  unfold zg_M zg_m zD_M zD_m zE_M zE_m;have e1 : ((x ++ [(10 : UInt8)]).length : Int) = (x.length : Int) + 1 := by simp
  have e2 : (([(10 : UInt8)] : List UInt8).length : Int) = 1 := rfl;rw [e1,e2,bT (dT (by omega)),w64 (by omega) (by omega),bT (by rw [dT (by omega),dT (by omega)]; rfl),show ((x.length : Int) + 1 - 1).toNat = x.length by omega,List.drop_left,Option.bind_some,
    bF (by simp),bT (by rw [dT (by omega),dT (by omega)]; rfl),List.take_left]
  rfl
theorem yLr (x : Str) (h : x.length < 9223372036854775000) (hx : (10 : UInt8) ∉ x) : zg_M x [10] = some (x,false,()) := by
  unfold zg_M zg_m zD_M zD_m;have : zE_M x [10] = some (false,()) := by
    unfold zE_M zE_m;have e2 : (([(10 : UInt8)] : List UInt8).length : Int) = 1 := rfl;rw [e2];by_cases h1 : (x.length : Int) ≥ 1
    · rw [bT (dT h1),w64 (by omega) (by omega),bT (by rw [dT (by omega),dT (by omega)]; rfl)]
      have : (List.drop ((x.length : Int) - 1).toNat x == [(10 : UInt8)]) = false := by
        rw [beq_eq_false_iff_ne];intro e;exact hx (List.mem_of_mem_drop (by rw [e]; exact List.mem_singleton.2 rfl))
      rw [this]
    · rw [bF (dF h1)]
  rw [this,Option.bind_some,bT (by rfl),Option.bind_some]
theorem yET (l : List Str) (h1 : l.length ≤ 140737488355328) (h2 : (y0s 32 l).length ≤ 140737488355328) : y7t l [32] = some (y0s 32 l,()) := by
  have e : Lib.join l [32] = y0s 32 l := yEP 32 l;unfold y7t;rw [e,bT];rw [dT h1,dT h2];rfl
theorem yFF (s : Str) : y0O (yf s) = s := by
  unfold y0O yf;rw [List.map_map];conv => rhs; rw [← List.map_id s]
  refine List.map_congr_left fun b _ => ?_
  show UInt8.ofNat ((b.toNat : Int)).toNat = b
  rw [Int.toNat_natCast];exact UInt8.ofNat_toNat
theorem yB6 (s : Str) : y4r (yf s) = true := by
  unfold y4r yf;rw [List.all_map,List.all_eq_true];intro b _;have := b.toNat_lt;simp only [Function.comp,Bool.and_eq_true,decide_eq_true_eq];omega
theorem yE2 (a b : Str) : yf a ++ yf b = yf (a ++ b) := by
  unfold yf;rw [List.map_append]
end Go.SA
end
section
set_option maxRecDepth 1000000
namespace Go.SA
open Go.Vx Go.Vx.B Go.Tw Go.S Go.Lib
def atv (w : Str) : Int := match atoiAll w with | .ok v => v | .syntax => 0 | .range => atoiSat w
def atk (w : Str) : Bool := match atoiAll w with | .ok _ => true | _ => false
def wrg (w : Str) : Bool := !atk w || !(itoa (atv w) == w) || decide (9 < (trimPrefix w [45]).length)
theorem yAD (w : Str) (h : w.length ≤ 281474976710656) : yIl w = some (atv w,atk w,()) := by
  unfold yIl atv atk;rw [bT (dT h)];cases atoiAll w <;> rfl
theorem yIi (w : Str) : I64 (atv w) := by
  unfold atv;cases h : atoiAll w with
  | ok v => have := atoiAll_bounds h; exact ⟨this.1,by show v < _; omega⟩
  | «syntax» => exact ⟨by show (-9223372036854775808 : Int) ≤ 0; decide,by show (0 : Int) < 9223372036854775808; decide⟩
  | range => have := atoiSat_bounds w; exact ⟨this.1,by show atoiSat w < _; omega⟩
theorem y5i (w : Str) : sgn 9 w = if wrg w then none else some (atv w) := by
  cases h : sgn 9 w with
  | some v =>
    have h1 := yJR (mx := 8) (by decide) h
    have h2 := (y1t h).1;have h3 := yMT (mx := 8) h;have e1 : atv w = v := by unfold atv; rw [h1]
    have e2 : atk w = true := by unfold atk; rw [h1]
    have : wrg w = false := by unfold wrg; rw [e2,e1,h2,dF (by omega)]; simp
    rw [this,e1];rfl
  | none =>
    cases hw : wrg w with
    | true => rfl
    | false =>
      unfold wrg at hw;simp only [Bool.or_eq_false_iff,Bool.not_eq_false',beq_iff_eq,decide_eq_false_iff_not,Nat.not_lt] at hw;have := yNj (mx := 8) hw.1.2 hw.2;rw [h] at this;cases this
end Go.SA
end
