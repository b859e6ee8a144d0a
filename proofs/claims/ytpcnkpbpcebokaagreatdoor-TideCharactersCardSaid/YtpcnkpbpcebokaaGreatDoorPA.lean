import Derived.Test.YtpcnkpbpcebokaaGreatDoorBD
import Derived.KernelRfl
import Derived.Test.YtpcnkpbpcebokaaGreatDoorLQ
import Derived.Test.YtpcnkpbpcebokaaGreatDoorLR
set_option linter.all false
section
set_option maxRecDepth 1000000
namespace Go.Tw
open Go.Vx Go.Vx.B Go.Proofs
theorem yEb:yNG=some (true,()):=by kernel_rfl
end Go.Tw
end
section
set_option maxRecDepth 100000
namespace Go.Tw
open Go.Vx Go.Vx.B Go.Proofs
section
variable {α β γ σ:Type}
theorem y4d{body:Int→α→σ→Option (β⊕σ)}{fin:σ→Option β}{i:Int}{s:σ}:yX body fin i [] s=fin s:=rfl
theorem y02{body:Int→α→σ→Option (β⊕σ)}{fin:σ→Option β}{i:Int}{e:α}{l:List α}{s:σ}:yX body fin i (e::l) s=(body i e s).bind fun z=>match z with
  | .inl y=>some y
  | .inr s'=>yX body fin (i+1) l s':=rfl
theorem y1v{body:Int→α→Unit→Option (β⊕Unit)}{fin:Unit→Option β}(p:α→Option β) :
  ∀ (l:List α) (i:Int),(∀ i e,e∈l→body i e ()=some (match p e with|some y=>.inl y|none=>.inr ()))→yX body fin i l ()=match l.findSome? p with|some y=>some y|none=>fin ()
 | [],i,_=>rfl
 | e::l,i,h=>by
  rw[y02,h i e (by simp),List.findSome?_cons]
  cases p e with
  | none=>exact y1v p l (i+1) fun i e he=>h i e (by simp[he])
  | some y=>rfl
theorem y6p{body:Int→α→List γ→Option (β⊕List γ)}{fin:List γ→Option β}(f:α→γ) :
  ∀ (l:List α) (i:Int) (s:List γ),s.length+l.length≤memMax→(∀ i e s,e∈l→s.length+1≤memMax→body i e s=some (.inr (s++[f e])))→yX body fin i l s=fin (s++l.map f)
 | [],i,s,_,_=>by simp[y4d]
 | e::l,i,s,hl,h=>by
  simp only[List.length_cons]at hl;rw[y02,h i e s (by simp) (by omega)]
  simp only[Option.bind_some];rw[y6p f l (i+1) (s++[f e]) (by simp;omega) fun i e s he hs=>h i e s (by simp[he]) hs]
  simp
end
theorem y9{p:Prop}[Decidable p](h:p):decide p=true:=decide_eq_true h
theorem yF{p:Prop}[Decidable p](h:¬ p):decide p=false:=decide_eq_false h
theorem bifT{α:Type}{c:Bool}{a b:α}(h:c=true):(bif c then a else b)=a:=by rw[h];rfl
theorem bifF{α:Type}{c:Bool}{a b:α}(h:c=false):(bif c then a else b)=b:=by rw[h];rfl
theorem yGy:memMax < lenMax:=by decide
def ckR(n lo hi:Int):Int:=if n < lo∨hi < n then 3 else 0
def y0Q(l:List Int):Int:=(l.find? (· != 0)).getD 0
theorem y2v(n lo hi:Int):zc n lo hi=(ckR n lo hi,()):=by
 unfold zc ckR;by_cases h1:n < lo
 ·rw[bifT (y9 h1),if_pos (.inl h1)]
 ·rw[bifF (yF h1)];by_cases h2:n > hi
  ·rw[bifT (y9 h2),if_pos (.inr h2)]
  ·rw[bifF (yF h2),if_neg (by omega)]
theorem y7b(c:Bool)(e:Int):z14 c e=(bif c then e else 0,()):=by
 unfold z14;cases c<;>rfl
theorem yBR(n lo hi:Int):z0b n lo hi=(ckR n lo hi,()):=by
 unfold z0b ckR;by_cases h1:n < lo
 ·rw[bifT (y9 h1),y7b,cond_true,if_pos (.inl h1)]
 ·rw[bifF (yF h1),y7b];by_cases h2:n > hi
  ·rw[y9 h2,cond_true,if_pos (.inr h2)]
  ·rw[yF h2,cond_false,if_neg (by omega)]
theorem y5J(l:List Int):l.findSome? (fun e=>if e != 0 then some (e,())else none)=(l.find? (· != 0)).map fun e=>(e,()):=by
 induction l with
 | nil=>rfl
 | cons e l ih =>
  rw[List.findSome?_cons,List.find?_cons];cases he:(e != 0)with
  | true=>rfl
  | false=>simpa using ih
theorem y4o(l:List Int)(h:l.length < lenMax):y1p l=some (y0Q l,()):=by
 unfold y1p;rw[bifT (y9 h),y1v (fun e=>if e != 0 then some (e,())else none) l 0 (fun i e _=>by
  unfold yCl;cases he:(e != 0)<;>rfl),y5J]
 unfold y0Q yCv;cases l.find? (· != 0)<;>rfl
theorem y2z{α:Type}(l:List α)(i:Nat):idx l (i:Int)=l[i]?:=by
 unfold idx;rw[if_pos (Int.natCast_nonneg i)];rfl
theorem y4S{α β:Type}{body:Int→α→Unit→Option (β⊕Unit)}{fin:Unit→Option β}(xs:List α)(p:α→Option β) :
  ∀ (l done:List α),xs=done++l→(∀ (i:Nat) e,xs[i]?=some e→body (i:Int) e ()=some (match p e with|some y=>.inl y|none=>.inr ())) →
   yX body fin (done.length:Int) l ()=match l.findSome? p with|some y=>some y|none=>fin ()
 | [],done,_,_=>rfl
 | e::l,done,hx,h=>by
  rw[y02,h done.length e (by rw[hx];simp),List.findSome?_cons]
  cases p e with
  | none =>
   have:=y4S (body:=body) (fin:=fin) xs p l (done++[e]) (by rw[hx];simp) h
   simp only[List.length_append,List.length_cons,List.length_nil]at this;exact this
  | some y=>rfl
theorem y6u(l:List Int)(h:l.length < lenMax):y70 l=some (y0Q l,()):=by
 unfold y70;have:=y4S (body:=fun i__ e__ s__=>yBP l i__ e__) (fin:=fun s__=>yA2 l) l (fun e=>if e != 0 then some (e,())else none) l [] rfl (fun i e hi=>by
  unfold yBP;cases he:(e != 0)with
  | true=>rw[y2z,hi];rfl
  | false=>rfl)
 rw[bifT (y9 h)];refine this.trans ?_
 rw[y5J];unfold y0Q yA2;cases l.find? (· != 0)<;>rfl
def y4P(c:Nat):Bool:=decide (65≤c∧c≤90∨97≤c∧c≤122)
def y6j(c:Nat):Bool:=decide (48≤c∧c≤57∨c=95)
def nmOk:Bool→List UInt8→Bool
 | _,[]=>true
 | first,c::l=>(y4P c.toNat || (!first && y6j c.toNat)) && nmOk false l
def isNm(s:List UInt8):Bool:=nmOk true s && decide (0 < s.length∧s.length≤24)
theorem y8Y:∀ (s0 s:List UInt8) (i:Int),0≤i→yX (fun i__ e__ s__=>y8S s0 i__ e__) (fun s__=>yCw s0) i s ()=some (nmOk (decide (i=0)) s,())
  | s0,[],i,_=>rfl
  | s0,c::l,i,hi=>by
    rw[y02];have ih:=y8Y s0 l (i+1) (by omega)
    have e0:decide (i+1=0)=false:=yF (by omega)
    rw[e0]at ih;unfold nmOk;have hb:y8S s0 i c=some (if (y4P c.toNat || (!decide (i=0) && y6j c.toNat))=true then .inr ()else .inl (false,())):=by
      unfold y8S y5F y4P y6j;have g3:(i == 0)=decide (i=0):=by by_cases h:i=0<;>simp[h]
      have g4:((c.toNat:Int) != 95)=!decide ((c.toNat:Int)=95):=by by_cases h:(c.toNat:Int)=95<;>simp[h]
      rw[g3,g4];by_cases h1:(97:Int)≤c.toNat<;>by_cases h2:(c.toNat:Int)≤122<;>by_cases h3:(65:Int)≤c.toNat<;>by_cases h4:(c.toNat:Int)≤90<;>by_cases h5:(c.toNat:Int) < 48<;>by_cases h6:(c.toNat:Int) > 57<;>by_cases h7:(c.toNat:Int)=95<;>by_cases h8:i=0 <;>
        first
        | omega
        | (have g1:(decide (65≤c.toNat∧c.toNat≤90∨97≤c.toNat∧c.toNat≤122))=decide ((65:Int)≤c.toNat∧(c.toNat:Int)≤90∨(97:Int)≤c.toNat∧(c.toNat:Int)≤122):=by
            apply decide_eq_decide.2;omega
           have g2:(decide (48≤c.toNat∧c.toNat≤57∨c.toNat=95))=decide (¬ (c.toNat:Int) < 48∧¬ (c.toNat:Int) > 57∨(c.toNat:Int)=95):=by
            apply decide_eq_decide.2;omega
           rw[g1,g2];simp[h1,h2,h3,h4,h5,h6,h7,h8])
    rw[hb];simp only[Option.bind_some];by_cases hc:(y4P c.toNat || (!decide (i=0) && y6j c.toNat))=true
    · rw[if_pos hc,hc,Bool.true_and];exact ih
    · rw[if_neg hc,Bool.eq_false_iff.2 hc];rfl
theorem yJ4(s:List UInt8):yC0 s=some (isNm s,()):=by
 unfold yC0 isNm;by_cases h0:s.length=0
 ·have:((s.length:Int) == 0)=true:=by simp[h0]
  rw[bifT this,show decide (0 < s.length∧s.length≤24)=false from yF (by omega),Bool.and_false]
 ·have:((s.length:Int) == 0)=false:=by simpa using h0
  rw[bifF this];by_cases h1:24 < s.length
  ·rw[bifT (y9 (by omega)),show decide (0 < s.length∧s.length≤24)=false from yF (by omega),Bool.and_false]
  ·rw[bifF (yF (show ¬ ((s.length:Int) > 24) by omega)),bifT (y9 (show s.length < lenMax by unfold lenMax;omega)),y8Y s s 0 (by omega),y9 rfl]
   rw[show decide (0 < s.length∧s.length≤24)=true from y9 ⟨by omega,by omega⟩,Bool.and_true]
theorem yLV{bs:List UInt8}{i:Nat}{c:UInt8}(h:bs[i]?=some c):(⟨bs.toArray⟩:ByteArray).get! i=c:=by
 show bs.toArray[i]! = c
 rw[getElem!_def];simp[h]
theorem yFG{bs:List UInt8}{i:Nat}{c:UInt8}(h:bs[i]?=some c)(hc:c.toNat < 128):yZ bs (i:Int)=((c.toNat:Int),(i:Int)+1):=by
 unfold yZ Utf8.decode;have h0:(⟨bs.toArray⟩:ByteArray).get! ((i:Int).toNat+0)=c:=by rw[Int.toNat_natCast,Nat.add_zero];exact yLV h
 simp only[h0];rw[if_pos hc];rfl
theorem yG1{bs:List UInt8}{i:Nat}{c:UInt8}(h:bs[i]?=some c)(hc:128≤c.toNat):128≤(yZ bs (i:Int)).1:=by
 unfold yZ Utf8.decode;have h0:(⟨bs.toArray⟩:ByteArray).get! ((i:Int).toNat+0)=c:=by rw[Int.toNat_natCast,Nat.add_zero];exact yLV h
 simp only[h0];rw[if_neg (by omega)]
 have he:Utf8.runeError=65533:=rfl;split
 ·split
  ·rename_i h2;show (128:Int)≤((_:Nat):Int);omega
  ·rw[he];decide
 ·split
  ·split
   ·rename_i h2;simp only[Bool.and_eq_true,decide_eq_true_eq]at h2;show (128:Int)≤((_:Nat):Int);omega
   ·rw[he];decide
  ·split
   ·split
    ·rename_i h2;simp only[Bool.and_eq_true,decide_eq_true_eq]at h2;show (128:Int)≤((_:Nat):Int);omega
    ·rw[he];decide
   ·rw[he];decide
def y96(r:Int):Bool:=decide (65≤r∧r≤90∨97≤r∧r≤122)
def yDX(r:Int):Bool:=decide (48≤r∧r≤57∨r=95)
theorem yEe(s str:List UInt8)(pos:Int):y8Z s str pos=some (if (y96 (yZ str pos).1 || (!decide (pos=0) && yDX (yZ str pos).1))=true then .inr ()else .inl (false,())):=by
 unfold y8Z y4F y7Z y96 yDX;generalize (yZ str pos).1=r;have g3:(pos == 0)=decide (pos=0):=by by_cases h:pos=0<;>simp[h]
 have g4:(r == 95)=decide (r=95):=by by_cases h:r=95<;>simp[h]
 rw[g3,g4];by_cases h1:r ≥ 97<;>by_cases h2:r≤122<;>by_cases h3:r ≥ 65<;>by_cases h4:r≤90<;>by_cases h5:r ≥ 48<;>by_cases h6:r≤57<;>by_cases h7:r=95<;>by_cases h8:pos=0 <;>
  first
  | omega
  | simp[h1,h2,h3,h4,h5,h6,h7,h8]
theorem y8b(s:List UInt8):∀ (m i:Nat),s.length≤i+m→i≤s.length →
  y7s s (fun i__ s__=>y8Z s s i__) (fun s__=>y85 s s) m (i:Int) ()=bif nmOk (decide (i=0)) (s.drop i)then y85 s s else some (false,())
 | m,i,hm,hi=>by
  by_cases hl:i=s.length
  ·have e1:s.drop i=[]:=List.drop_eq_nil_of_le (by omega)
   have e2:decide ((i:Int) < (s.length:Int))=false:=yF (by omega)
   rw[e1];cases m<;>(unfold y7s;rw[bifF e2];rfl)
  ·have hlt:i < s.length:=by omega
   obtain ⟨m,rfl⟩:∃ k,m=k+1:=⟨m - 1,by omega⟩
   have hd:s.drop i=s[i]::s.drop (i+1):=(List.getElem_cons_drop (h:=hlt)).symm;have hg:s[i]?=some s[i]:=List.getElem?_eq_getElem hlt;have e0:decide ((i:Int)=0)=decide (i=0):=decide_eq_decide.2 (by omega)
   unfold y7s;rw[bifT (y9 (show (i:Int) < (s.length:Int) by omega)),yEe,hd,e0]
   simp only[Option.bind_some];by_cases hc:s[i].toNat < 128
   ·rw[yFG hg hc];have e1:y96 (s[i].toNat:Int)=y4P s[i].toNat:=decide_eq_decide.2 (by omega)
    have e2:yDX (s[i].toNat:Int)=y6j s[i].toNat:=decide_eq_decide.2 (by omega)
    simp only[e1,e2,nmOk];by_cases hb:(y4P s[i].toNat || (!decide (i=0) && y6j s[i].toNat))=true
    ·rw[if_pos hb,hb,Bool.true_and];have ih:=y8b s m (i+1) (by omega) (by omega)
     have e3:decide (i+1=0)=false:=yF (by omega)
     rw[e3,show ((i+1:Nat):Int)=(i:Int)+1 by omega]at ih
     exact ih
    ·rw[if_neg hb,Bool.eq_false_iff.2 hb,Bool.false_and];rfl
   ·have h1:=yG1 hg (by omega)
    have e1:y96 (yZ s (i:Int)).1=false:=yF (by omega)
    have e2:yDX (yZ s (i:Int)).1=false:=yF (by omega)
    have e3:y4P s[i].toNat=false:=yF (by omega)
    have e4:y6j s[i].toNat=false:=yF (by omega)
    simp[e1,e2,nmOk,e3,e4]
theorem yDH(s:List UInt8)(h:s.length < lenMax):yAn s=some (isNm s,()):=by
 unfold yAn;have:=y8b s s.length 0 (by omega) (by omega)
 rw[List.drop_zero,show decide (0=0)=true from rfl]at this
 rw[bifT (y9 h)];refine (show _=_ from this).trans ?_
 unfold isNm y85;cases hn:nmOk true s with
 | false=>rfl
 | true =>
  rw[cond_true,Bool.true_and];cases s with
  | nil=>rfl
  | cons c l =>
   have e:decide (((c::l).length:Int)≤24)=decide (0 < (c::l).length∧(c::l).length≤24):=decide_eq_decide.2 (by simp only[List.length_cons];omega)
   rw[← e];rfl
def yR(a b:Int):Int:=if a != 0 then a else b
theorem y1X:y0Q []=0:=rfl
theorem yl(a:Int)(l:List Int):y0Q (a::l)=yR a (y0Q l):=by
 unfold y0Q yR;rw[List.find?_cons];cases h:(a != 0)<;>rfl
theorem y0G(a:Int):yR a 0=a:=by
 unfold yR;by_cases h:a=0<;>simp[h]
end Go.Tw
end
section
set_option maxRecDepth 100000
namespace Go.Tw
open Go.Vx Go.Vx.B Go.Proofs
abbrev Con:=List UInt8×Int×Int×Unit
abbrev Gau:=Int×Int×Unit
abbrev Tid:=List Con×List Gau×Int×Unit
def y66(c:Con):Int:=y0Q [bif isNm c.1 then 0 else 8,ckR c.2.1 1 96,ckR c.2.2.1 0 3]
def conE(done:List Con)(c:Con):Int:=yR (y66 c) (bif done.any (fun d=>d.1 == c.1)then 9 else 0)
def yEy:List Con→List Con→Int
 | _,[]=>0
 | done,n::l=>yR (conE done n) (yEy (done++[n]) l)
def yAR(l:List Con):Int:=if l.length=0 then 12 else if 4 < l.length then 5 else yEy [] l
theorem y5e(a b:Int):[a,b].length < lenMax:=by simp[lenMax]
theorem yGj(a b c:Int):[a,b,c].length < lenMax:=by simp[lenMax]
theorem yBK(s:List UInt8):zl_M s=some (bif isNm s then 0 else 8,()):=by
 unfold zl_M zl_m;rw[yJ4];cases isNm s<;>rfl
theorem y8I(l:List Con)(i:Nat)(n:Con)(hn:l[i]?=some n){fin:Unit→Option ((Int×Unit)⊕Unit)}:∀ (m k:Nat),k+m=i →
  y24 (fun i__ s__=>yE8 l (i:Int) i__) fin m (k:Int) ()=if ((l.drop k).take m).any (fun d=>d.1 == n.1)=true then some (.inl (9,()))else fin ()
 | 0,k,_=>by simp[y24]
 | m+1,k,hk=>by
  have hi:i < l.length:=(List.getElem?_eq_some_iff.1 hn).1;have hkl:k < l.length:=by omega
  unfold y24;have hb:yE8 l (i:Int) (k:Int)=some (if (l[k].1 == n.1)=true then .inl (.inl (9,()))else .inr ()):=by
   unfold yE8;rw[y2z,y2z,hn,List.getElem?_eq_getElem hkl];simp only[Option.bind_some];cases (l[k].1 == n.1)<;>rfl
  rw[hb];simp only[Option.bind_some];have hd:(l.drop k).take (m+1)=l[k]::(l.drop (k+1)).take m:=by
   rw[← List.getElem_cons_drop (h:=hkl),List.take_succ_cons]
  rw[hd,List.any_cons];cases h:(l[k].1 == n.1)with
  | true=>rfl
  | false =>
   rw[if_neg (by simp),Bool.false_or]
   have ih:=y8I l i n hn (fin:=fin) m (k+1) (by omega)
   rw[show ((k+1:Nat):Int)=(k:Int)+1 by omega]at ih
   exact ih
theorem yET(l:List Con)(hl:l.length≤4)(i:Nat)(n:Con)(hn:l[i]?=some n) :
  yEg l (i:Int) n=some (bif conE (l.take i) n != 0 then .inl (conE (l.take i) n,())else .inr ()):=by
 have hi:i < l.length:=(List.getElem?_eq_some_iff.1 hn).1;unfold yEg;rw[yBK,y2z,hn];simp only[Option.bind_some,y2v];rw[y6u _ (yGj _ _ _)];simp only[Option.bind_some];show (bif (y66 n != 0)then some (Sum.inl (y66 n,()))else _)=_
 unfold conE yR;cases hs:(y66 n != 0)with
 | true=>simp only[cond_true,if_true,hs]
 | false =>
  simp only[cond_false,Bool.false_eq_true,if_false];rw[bifT (y9 (show (i:Int)≤9223372036854775807 by omega))]
  have e1:((i:Int) - 0).toNat=i:=by omega
  rw[e1];have:=y8I l i n hn (fin:=fun s__=>yKK l (i:Int)) i 0 (by omega)
  rw[show ((0:Nat):Int)=0 from rfl]at this
  rw[this,List.drop_zero];cases hany:(l.take i).any (fun d=>d.1 == n.1)with
  | true=>rw[if_pos rfl];rfl
  | false=>rw[if_neg (by simp)];rfl
theorem y8N(xs:List Con)(hl:xs.length≤4):∀ (l done:List Con),xs=done++l →
  yX (fun i__ e__ s__=>yEg xs i__ e__) (fun s__=>yJw xs) (done.length:Int) l ()=some (yEy done l,())
 | [],done,_=>rfl
 | n::l,done,hx=>by
  have hn:xs[done.length]?=some n:=by rw[hx];simp
  rw[y02,yET xs hl done.length n hn];have ht:xs.take done.length=done:=by rw[hx];simp
  rw[ht];simp only[Option.bind_some,yEy,yR];cases h:(conE done n != 0)with
  | true=>rfl
  | false =>
   have ih:=y8N xs hl l (done++[n]) (by rw[hx];simp)
   simp only[List.length_append,List.length_cons,List.length_nil]at ih;exact ih
theorem y9c(l:List Con):zJ_M l=some (yAR l,()):=by
 unfold zJ_M yAR;by_cases h0:l.length=0
 ·rw[bifT (show ((l.length:Int) == 0)=true by simp[h0]),if_pos h0]
 ·rw[bifF (show ((l.length:Int) == 0)=false by simpa using h0),if_neg h0]
  by_cases h8:4 < l.length
  ·rw[bifT (y9 (show (l.length:Int) > 4 by omega)),if_pos h8]
  ·rw[bifF (yF (show ¬ (l.length:Int) > 4 by omega)),if_neg h8,bifT (y9 (show l.length < lenMax by unfold lenMax;omega))]
   exact y8N l (by omega) l [] rfl
def yIb(m:List (List UInt8×Bool))(done:List Con):Prop:=∀ k,(y07 .str .bool m k).getD false=done.any fun d=>d.1 == k
theorem yFD(m:List (List UInt8×Bool))(k k':List UInt8):(y07 .str .bool (y0R .str .bool m k true) k').getD false=((k == k') || (y07 .str .bool m k').getD false):=by
 induction m with
 | nil =>
  show (y07 .str .bool [(k,true)] k').getD false=_
  simp only[y07,eqV];by_cases h:k'=k
  ·subst h;simp
  ·have h1:(k' == k)=false:=beq_eq_false_iff_ne.2 h;have h2:(k == k')=false:=beq_eq_false_iff_ne.2 (Ne.symm h);show (bif (k' == k)then some true else none).getD false=_
   rw[h1,h2];rfl
 | cons p m ih =>
  show (y07 .str .bool (bif (k == p.1)then (k,true)::m else p::y0R .str .bool m k true) k').getD false=_
  by_cases h:k=p.1
  ·have h1:(k == p.1)=true:=by simp[h]
   rw[h1,cond_true];show (bif (k' == k)then some true else y07 .str .bool m k').getD false=((k == k') || (bif (k' == p.1)then some p.2 else y07 .str .bool m k').getD false)
   by_cases h2:k'=k
   ·have e1:(k' == k)=true:=by simp[h2]
    have e2:(k == k')=true:=by simp[h2]
    rw[e1,e2];rfl
   ·have e1:(k' == k)=false:=beq_eq_false_iff_ne.2 h2;have e2:(k == k')=false:=beq_eq_false_iff_ne.2 (Ne.symm h2);have e3:(k' == p.1)=false:=by rw[← h];exact e1
    rw[e1,e2,e3];rfl
  ·have h1:(k == p.1)=false:=beq_eq_false_iff_ne.2 h;rw[h1,cond_false];show (bif (k' == p.1)then some p.2 else y07 .str .bool (y0R .str .bool m k true) k').getD false=((k == k') || (bif (k' == p.1)then some p.2 else y07 .str .bool m k').getD false)
   by_cases h2:k'=p.1
   ·have e1:(k' == p.1)=true:=by simp[h2]
    have e2:(k == k')=false:=by rw[h2];exact h1
    rw[e1,e2];rfl
   ·have e1:(k' == p.1)=false:=beq_eq_false_iff_ne.2 h2;rw[e1];exact ih
theorem yIb.put{m:List (List UInt8×Bool)}{done:List Con}(h:yIb m done)(n:Con):yIb (y0R .str .bool m n.1 true) (done++[n]):=by
 intro k;rw[yFD,h k,List.any_append];simp[Bool.or_comm]
theorem yAf(c:Con)(h:c.1.length < lenMax):zM_M c=some (y66 c,()):=by
 unfold zM_M zM_m;rw[yDH c.1 h];simp only[Option.bind_some,y7b,yBR];rw[y4o _ (yGj _ _ _)];unfold y66;cases isNm c.1<;>rfl
theorem y8Q(xs:List Con):∀ (l done:List Con) (i:Int) (m:List (List UInt8×Bool)),(∀ n∈l,n.1.length < lenMax)→yIb m done →
  yX (fun i__ e__ s__=>yE6 xs i__ e__ s__) (fun s__=>yKL xs s__) i l m=some (yEy done l,())
 | [],done,i,m,_,_=>rfl
 | n::l,done,i,m,hl,hk=>by
  have hb:yE6 xs i n m=some (bif conE done n != 0 then .inl (conE done n,())else .inr (y0R .str .bool m n.1 true)):=by
   unfold yE6;rw[yAf _ (hl n (by simp))]
   simp only[Option.bind_some,y7b,hk n.1];rw[y4o _ (y5e _ _)];have e:y0Q [y66 (n.fst,n.snd.fst,n.snd.snd.fst,()),bif done.any (fun d=>d.1 == n.1)then 9 else 0]=conE done n:=by
    rw[yl,yl,y1X,y0G];rfl
   simp only[Option.bind_some,e];cases (conE done n != 0)<;>rfl
  rw[y02,hb];simp only[Option.bind_some,yEy,yR];cases h:(conE done n != 0)with
  | true=>rfl
  | false =>
   simp only[cond_false,Bool.false_eq_true,if_false];exact y8Q xs l (done++[n]) (i+1) _ (fun x hx=>hl x (by simp[hx])) (hk.put n)
theorem yDA(l:List Con)(hn:∀ n∈l,n.1.length < lenMax)(hl:l.length < lenMax):zL_M l=some (yAR l,()):=by
 unfold zL_M yAR;simp only[y7b];rw[y4o _ (y5e _ _)];simp only[Option.bind_some];by_cases h0:l.length=0
 ·rw[show ((l.length:Int) == 0)=true by simp[h0],if_pos h0]
  rfl
 ·rw[show ((l.length:Int) == 0)=false by simpa using h0,if_neg h0]
  by_cases h8:4 < l.length
  ·rw[y9 (show (l.length:Int) > 4 by omega),if_pos h8]
   rfl
  ·rw[yF (show ¬ (l.length:Int) > 4 by omega),if_neg h8]
   rw[bifF (by rfl),bifT (y9 hl)]
   exact y8Q l l [] 0 [] hn (fun k=>rfl)
end Go.Tw
end
section
set_option maxRecDepth 100000
namespace Go.Tw
open Go.Vx Go.Vx.B Go.Proofs
theorem yE1{i:Int}(h0:-9223372036854775808≤i)(h1:i≤9223372036854775807):IntKind.i64.wrap i=i:=by
 rw[IntKind.wrap_i64];omega
def gI(a b:Int):Int:=(Nat.gcd a.natAbs b.natAbs:Nat)
def comG:List Gau→Int→Int
 | [],d=>d
 | z::l,d=>comG l (gI (gI d z.1) z.2.1)
def fits(z:Gau):Prop:=(-9223372036854775807≤z.1∧z.1≤9223372036854775807)∧(-9223372036854775807≤z.2.1∧z.2.1≤9223372036854775807)
def yUF(z:Gau):Int:=y0Q [ckR z.1 (-8796093022208) 8796093022208,ckR z.2.1 (-8796093022208) 8796093022208]
theorem y4T{l:List Int}(h:y0Q l=0):∀ e∈l,e=0:=by
 induction l with
 | nil=>intro e he;cases he
 | cons a l ih =>
  rw[yl]at h;unfold yR at h;by_cases ha:a=0
  ·subst ha;simp only[bne_self_eq_false,Bool.false_eq_true,if_false]at h;intro e he;rcases List.mem_cons.1 he with rfl|he
   ·rfl
   ·exact ih h e he
  ·have:(a != 0)=true:=by simp[ha]
   rw[this,if_pos rfl]at h;exact absurd h ha
theorem y6G{n lo hi:Int}(h:ckR n lo hi=0):lo≤n∧n≤hi:=by
 unfold ckR at h;split at h
 ·cases h
 ·omega
theorem y03{a b:Int}(h:a≠0):yR a b=a:=by unfold yR;rw[if_pos (by simpa using h)]
theorem y0E(b:Int):yR 0 b=b:=by unfold yR;rw[if_neg (by simp)]
theorem y2t(a b c:Int):yR (yR a b) c=yR a (yR b c):=by
 by_cases h:a=0
 ·subst h;simp only[y0E]
 ·rw[y03 h,y03 h,y03 h]
end Go.Tw
end
section
set_option maxRecDepth 100000
namespace Go.Tw
open Go.Vx Go.Vx.B Go.Proofs
theorem yEz{β σ:Type}{body:Int→σ→Option (β⊕σ)}{fin:σ→Option β}{m:Nat}{i:Int}{s:σ}:y24 body fin (m+1) i s=(body i s).bind fun z=>match z with
  | .inl y=>some y
  | .inr s'=>y24 body fin m (i+1) s':=rfl
def yKo(n:Int):Gau:=if n=0 then (1,0,())else if n=1 then (0,1,())else if n=2 then (-1,0,())else (0,-1,())
def chr(c:Con)(tick:Int):Gau:=yKo (c.2.2.1 * (tick / c.2.1) % 4)
def yEU(c:Con):Prop:=(1≤c.2.1∧c.2.1≤96)∧(0≤c.2.2.1∧c.2.2.1≤3)
def yDO(t:Int):Prop:=0≤t∧t≤200000
theorem yDU{c:Con}{t:Int}(hc:yEU c)(ht:yDO t):IntKind.i64.wrap (c.2.2.1 * IntKind.i64.wrap (t.tdiv c.2.1))=c.2.2.1 * (t / c.2.1)∧0≤c.2.2.1 * (t / c.2.1)∧c.2.2.1 * (t / c.2.1)≤600000:=by
 obtain ⟨⟨h1,h2⟩,h3,h4⟩:=hc;obtain ⟨h5,h6⟩:=ht;have e1:t.tdiv c.2.1=t / c.2.1:=Int.tdiv_eq_ediv_of_nonneg h5;have h7:0≤t / c.2.1:=Int.ediv_nonneg h5 (by omega)
 have h8:t / c.2.1≤t:=Int.ediv_le_self _ h5;generalize t / c.2.1=q at e1 h7 h8;have h9:0≤c.2.2.1 * q:=Int.mul_nonneg h3 h7;have h10:c.2.2.1 * q≤3 * q:=Int.mul_le_mul_of_nonneg_right h4 h7;rw[e1,yE1 (i:=q) (by omega) (by omega),yE1 (by omega) (by omega)]
 exact ⟨rfl,h9,by omega⟩
theorem mod4(k:Int):k % 4=0∨k % 4=1∨k % 4=2∨k % 4=3:=by omega
theorem yWQ{c:Con}{t:Int}(hc:yEU c)(ht:yDO t):zS_M c t=some (chr c t,()):=by
 unfold zS_M zS_m chr;obtain ⟨h1,h2,h3⟩:=yDU hc ht;have hl:(c.2.1 == 0)=false:=by have:=hc.1.1;simp;omega
 rw[bifF hl];rw[h1];generalize c.2.2.1 * (t / c.2.1)=k at h2 h3;have e:k.tmod 4=k % 4:=Int.tmod_eq_emod_of_nonneg h2;rw[e];rcases mod4 k with h|h|h|h<;>rw[h]<;>rfl
theorem yPD(k:Int)(h2:0≤k)(h3:k≤600000):yCW (1,0,()) k=some (yKo (k % 4),()):=by
 unfold yCW;have e:k.tmod 4=k % 4:=Int.tmod_eq_emod_of_nonneg h2;rw[e];rcases mod4 k with h|h|h|h<;>rw[h]<;>rfl
theorem yIt{c:Con}{t:Int}(hc:yEU c)(ht:yDO t):zn_M c t=some (chr c t,()):=by
 unfold zn_M zn_m chr;obtain ⟨h1,h2,h3⟩:=yDU hc ht;have hl:(c.2.1 == 0)=false:=by have:=hc.1.1;simp;omega
 rw[bifF hl,h1,yPD _ h2 h3];rfl
structure okT (t:Tid):Prop where
 len:t.1.length=t.2.1.length
 few:t.1.length≤4
 con:∀ c∈t.1,yEU c
 den:1≤t.2.2.1∧t.2.2.1≤268435456
 part:∀ z∈t.2.1,yUF z=0
 red:comG t.2.1 t.2.2.1=1
theorem yn{a b:Int}(h:yR a b=0):a=0∧b=0:=by
 by_cases ha:a=0
 ·subst ha;rw[y0E]at h;exact ⟨rfl,h⟩
 ·rw[y03 ha]at h;exact absurd h ha
theorem yIU{c:Con}(h:y66 c=0):yEU c∧isNm c.1=true:=by
 have h1:=y4T h;refine ⟨⟨y6G (h1 _ (by simp)),y6G (h1 _ (by simp))⟩,?_⟩
 have:=h1 _ (List.mem_cons_self ..);cases hn:isNm c.1 with
 | true=>rfl
 | false=>rw[hn]at this;cases this
end Go.Tw
end
