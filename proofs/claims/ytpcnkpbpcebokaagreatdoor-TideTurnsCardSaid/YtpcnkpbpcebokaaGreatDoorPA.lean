import Derived.Test.YtpcnkpbpcebokaaGreatDoorBD
import Derived.KernelRfl
import Derived.Test.YtpcnkpbpcebokaaGreatDoorLQ
import Derived.Test.YtpcnkpbpcebokaaGreatDoorLR
set_option linter.all false
section
set_option maxRecDepth 1000000
namespace Go.Tw
open Go.Vx Go.Vx.B Go.Proofs
theorem yEG:yON=some (true,()):=by kernel_rfl
end Go.Tw
end
section
set_option maxRecDepth 100000
namespace Go.Tw
open Go.Vx Go.Vx.B Go.Proofs
section
variable {α β γ σ:Type}
theorem y7T{body:Int→α→σ→Option (β⊕σ)}{fin:σ→Option β}{i:Int}{s:σ}:yP body fin i [] s=fin s:=rfl
theorem y2o{body:Int→α→σ→Option (β⊕σ)}{fin:σ→Option β}{i:Int}{e:α}{l:List α}{s:σ}:yP body fin i (e::l) s=(body i e s).bind fun z=>match z with
    | .inl y=>some y
    | .inr s'=>yP body fin (i+1) l s':=rfl
theorem y5F{body:Int→α→Unit→Option (β⊕Unit)}{fin:Unit→Option β}(p:α→Option β) :
    ∀ (l:List α) (i:Int),(∀ i e,e∈l→body i e ()=some (match p e with|some y=>.inl y|none=>.inr ()))→yP body fin i l ()=match l.findSome? p with|some y=>some y|none=>fin ()
  | [],i,_=>rfl
  | e::l,i,h=>by
    rw[y2o,h i e (by simp),List.findSome?_cons]
    cases p e with
    | none=>exact y5F p l (i+1) fun i e he=>h i e (by simp[he])
    | some y=>rfl
theorem yB3{body:Int→α→List γ→Option (β⊕List γ)}{fin:List γ→Option β}(f:α→γ) :
    ∀ (l:List α) (i:Int) (s:List γ),s.length+l.length≤memMax→(∀ i e s,e∈l→s.length+1≤memMax→body i e s=some (.inr (s++[f e])))→yP body fin i l s=fin (s++l.map f)
  | [],i,s,_,_=>by simp[y7T]
  | e::l,i,s,hl,h=>by
    simp only[List.length_cons]at hl;rw[y2o,h i e s (by simp) (by omega)]
    simp only[Option.bind_some];rw[yB3 f l (i+1) (s++[f e]) (by simp;omega) fun i e s he hs=>h i e s (by simp[he]) hs]
    simp
end
theorem yU{p:Prop}[Decidable p](h:p):decide p=true:=decide_eq_true h
theorem yp{p:Prop}[Decidable p](h:¬ p):decide p=false:=decide_eq_false h
theorem bifT{α:Type}{c:Bool}{a b:α}(h:c=true):(bif c then a else b)=a:=by rw[h];rfl
theorem bifF{α:Type}{c:Bool}{a b:α}(h:c=false):(bif c then a else b)=b:=by rw[h];rfl
theorem yGQ:memMax < lenMax:=by decide
def ckR(n lo hi:Int):Int:=if n < lo∨hi < n then 3 else 0
def y2E(l:List Int):Int:=(l.find? (· != 0)).getD 0
theorem yEF(l:List Int):l.findSome? (fun e=>if e != 0 then some (e,())else none)=(l.find? (· != 0)).map fun e=>(e,()):=by
  induction l with
  | nil=>rfl
  | cons e l ih =>
    rw[List.findSome?_cons,List.find?_cons];cases he:(e != 0)with
    | true=>rfl
    | false=>simpa using ih
theorem yGx(l:List Int)(h:l.length < lenMax):y1m l=some (y2E l,()):=by
  unfold y1m;rw[bifT (yU h),y5F (fun e=>if e != 0 then some (e,())else none) l 0 (fun i e _=>by
    unfold yDZ;cases he:(e != 0)<;>rfl),yEF]
  unfold y2E yDB;cases l.find? (· != 0)<;>rfl
theorem y5J{α:Type}(l:List α)(i:Nat):idx l (i:Int)=l[i]?:=by
  unfold idx;rw[if_pos (Int.natCast_nonneg i)];rfl
def y4J(a b:Int):Int:=if a != 0 then a else b
theorem y7K(a:Int)(l:List Int):y2E (a::l)=y4J a (y2E l):=by
  unfold y2E y4J;rw[List.find?_cons];cases h:(a != 0)<;>rfl
end Go.Tw
end
section
set_option maxRecDepth 100000
namespace Go.Tw
open Go.Vx Go.Vx.B Go.Proofs
abbrev Con:=List UInt8×Int×Int×Unit
abbrev Gau:=Int×Int×Unit
abbrev Tid:=List Con×List Gau×Int×Unit
def yNH(m:List (List UInt8×Bool))(done:List Con):Prop:=∀ k,(y06 .str .bool m k).getD false=done.any fun d=>d.1 == k
theorem yFY(m:List (List UInt8×Bool))(k k':List UInt8):(y06 .str .bool (y0P .str .bool m k true) k').getD false=((k == k') || (y06 .str .bool m k').getD false):=by
  induction m with
  | nil =>
    show (y06 .str .bool [(k,true)] k').getD false=_
    simp only[y06,eqV];by_cases h:k'=k
    · subst h;simp
    · have h1:(k' == k)=false:=beq_eq_false_iff_ne.2 h;have h2:(k == k')=false:=beq_eq_false_iff_ne.2 (Ne.symm h);show (bif (k' == k)then some true else none).getD false=_
      rw[h1,h2];rfl
  | cons p m ih =>
    show (y06 .str .bool (bif (k == p.1)then (k,true)::m else p::y0P .str .bool m k true) k').getD false=_
    by_cases h:k=p.1
    · have h1:(k == p.1)=true:=by simp[h]
      rw[h1,cond_true];show (bif (k' == k)then some true else y06 .str .bool m k').getD false=((k == k') || (bif (k' == p.1)then some p.2 else y06 .str .bool m k').getD false)
      by_cases h2:k'=k
      · have e1:(k' == k)=true:=by simp[h2]
        have e2:(k == k')=true:=by simp[h2]
        rw[e1,e2];rfl
      · have e1:(k' == k)=false:=beq_eq_false_iff_ne.2 h2;have e2:(k == k')=false:=beq_eq_false_iff_ne.2 (Ne.symm h2);have e3:(k' == p.1)=false:=by rw[← h];exact e1
        rw[e1,e2,e3];rfl
    · have h1:(k == p.1)=false:=beq_eq_false_iff_ne.2 h;rw[h1,cond_false];show (bif (k' == p.1)then some p.2 else y06 .str .bool (y0P .str .bool m k true) k').getD false=((k == k') || (bif (k' == p.1)then some p.2 else y06 .str .bool m k').getD false)
      by_cases h2:k'=p.1
      · have e1:(k' == p.1)=true:=by simp[h2]
        have e2:(k == k')=false:=by rw[h2];exact h1
        rw[e1,e2];rfl
      · have e1:(k' == p.1)=false:=beq_eq_false_iff_ne.2 h2;rw[e1];exact ih
theorem yNH.put{m:List (List UInt8×Bool)}{done:List Con}(h:yNH m done)(n:Con):yNH (y0P .str .bool m n.1 true) (done++[n]):=by
  intro k;rw[yFY,h k,List.any_append];simp[Bool.or_comm]
end Go.Tw
end
section
set_option maxRecDepth 100000
namespace Go.Tw
open Go.Vx Go.Vx.B Go.Proofs
theorem yEc{i:Int}(h0:-9223372036854775808≤i)(h1:i≤9223372036854775807):IntKind.i64.wrap i=i:=by
  rw[IntKind.wrap_i64];omega
def gI(a b:Int):Int:=(Nat.gcd a.natAbs b.natAbs:Nat)
def comG:List Gau→Int→Int
  | [],d=>d
  | z::l,d=>comG l (gI (gI d z.1) z.2.1)
def fits(z:Gau):Prop:=(-9223372036854775807≤z.1∧z.1≤9223372036854775807)∧(-9223372036854775807≤z.2.1∧z.2.1≤9223372036854775807)
def ySX(z:Gau):Int:=y2E [ckR z.1 (-8796093022208) 8796093022208,ckR z.2.1 (-8796093022208) 8796093022208]
theorem yBt{l:List Int}(h:y2E l=0):∀ e∈l,e=0:=by
  induction l with
  | nil=>intro e he;cases he
  | cons a l ih =>
    rw[y7K]at h;unfold y4J at h;by_cases ha:a=0
    · subst ha;simp only[bne_self_eq_false,Bool.false_eq_true,if_false]at h;intro e he;rcases List.mem_cons.1 he with rfl|he
      · rfl
      · exact ih h e he
    · have:(a != 0)=true:=by simp[ha]
      rw[this,if_pos rfl]at h;exact absurd h ha
theorem y8p{n:Nat}(h:n≤memMax):n < lenMax:=Nat.lt_of_le_of_lt h yGQ
theorem yEZ{a b:Int}(h:a≠0):y4J a b=a:=by unfold y4J;rw[if_pos (by simpa using h)]
theorem yI6(b:Int):y4J 0 b=b:=by unfold y4J;rw[if_neg (by simp)]
end Go.Tw
end
section
set_option maxRecDepth 100000
namespace Go.Tw
open Go.Vx Go.Vx.B Go.Proofs
theorem yEa{β σ:Type}{body:Int→σ→Option (β⊕σ)}{fin:σ→Option β}{i:Int}{s:σ}:y1g body fin 0 i s=fin s:=rfl
theorem yFR{β σ:Type}{body:Int→σ→Option (β⊕σ)}{fin:σ→Option β}{m:Nat}{i:Int}{s:σ}:y1g body fin (m+1) i s=(body i s).bind fun z=>match z with
    | .inl y=>some y
    | .inr s'=>y1g body fin m (i+1) s':=rfl
def yUf(c:Con):Prop:=(1≤c.2.1∧c.2.1≤96)∧(0≤c.2.2.1∧c.2.2.1≤3)
structure okT (t:Tid):Prop where
  len:t.1.length=t.2.1.length
  few:t.1.length≤4
  con:∀ c∈t.1,yUf c
  den:1≤t.2.2.1∧t.2.2.1≤268435456
  part:∀ z∈t.2.1,ySX z=0
  red:comG t.2.1 t.2.2.1=1
end Go.Tw
end
