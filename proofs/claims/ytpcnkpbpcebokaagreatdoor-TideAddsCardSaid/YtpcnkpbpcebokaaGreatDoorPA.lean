import Derived.Test.YtpcnkpbpcebokaaGreatDoorBD
import Derived.KernelRfl
import Derived.Test.YtpcnkpbpcebokaaGreatDoorLQ
import Derived.Test.YtpcnkpbpcebokaaGreatDoorLR
set_option linter.all false
section
set_option maxRecDepth 1000000
namespace Go.Tw
open Go.Vx Go.Vx.B Go.Proofs
theorem yFA:yOy=some (true,()):=by kernel_rfl
end Go.Tw
end
section
set_option maxRecDepth 100000
namespace Go.Tw
open Go.Vx Go.Vx.B Go.Proofs
section
variable {α β γ σ:Type}
theorem yG5{body:Int→α→σ→Option (β⊕σ)}{fin:σ→Option β}{i:Int}{s:σ}:yf body fin i [] s=fin s:=rfl
theorem y06{body:Int→α→σ→Option (β⊕σ)}{fin:σ→Option β}{i:Int}{e:α}{l:List α}{s:σ}:yf body fin i (e::l) s=(body i e s).bind fun z=>match z with
  | .inl y=>some y
  | .inr s'=>yf body fin (i+1) l s':=rfl
theorem y2j{body:Int→α→Unit→Option (β⊕Unit)}{fin:Unit→Option β}(p:α→Option β) :
  ∀ (l:List α) (i:Int),(∀ i e,e∈l→body i e ()=some (match p e with|some y=>.inl y|none=>.inr ()))→yf body fin i l ()=match l.findSome? p with|some y=>some y|none=>fin ()
 | [],i,_=>rfl
 | e::l,i,h=>by
  rw[y06,h i e (by simp),List.findSome?_cons]
  cases p e with
  | none=>exact y2j p l (i+1) fun i e he=>h i e (by simp[he])
  | some y=>rfl
theorem y2D{body:Int→α→List γ→Option (β⊕List γ)}{fin:List γ→Option β}(f:α→γ) :
  ∀ (l:List α) (i:Int) (s:List γ),s.length+l.length≤memMax→(∀ i e s,e∈l→s.length+1≤memMax→body i e s=some (.inr (s++[f e])))→yf body fin i l s=fin (s++l.map f)
 | [],i,s,_,_=>by simp[yG5]
 | e::l,i,s,hl,h=>by
  simp only[List.length_cons]at hl;rw[y06,h i e s (by simp) (by omega)]
  simp only[Option.bind_some];rw[y2D f l (i+1) (s++[f e]) (by simp;omega) fun i e s he hs=>h i e s (by simp[he]) hs]
  simp
end
theorem yC{p:Prop}[Decidable p](h:p):decide p=true:=decide_eq_true h
theorem yL{p:Prop}[Decidable p](h:¬ p):decide p=false:=decide_eq_false h
theorem bifT{α:Type}{c:Bool}{a b:α}(h:c=true):(bif c then a else b)=a:=by rw[h];rfl
theorem bifF{α:Type}{c:Bool}{a b:α}(h:c=false):(bif c then a else b)=b:=by rw[h];rfl
theorem y5L:memMax < lenMax:=by decide
def ckR(n lo hi:Int):Int:=if n < lo∨hi < n then 3 else 0
def y0j(l:List Int):Int:=(l.find? (· != 0)).getD 0
theorem y39(n lo hi:Int):za n lo hi=(ckR n lo hi,()):=by
 unfold za ckR;by_cases h1:n < lo
 ·rw[bifT (yC h1),if_pos (.inl h1)]
 ·rw[bifF (yL h1)];by_cases h2:n > hi
  ·rw[bifT (yC h2),if_pos (.inr h2)]
  ·rw[bifF (yL h2),if_neg (by omega)]
theorem y3g(c:Bool)(e:Int):z16 c e=(bif c then e else 0,()):=by
 unfold z16;cases c<;>rfl
theorem y2s(n lo hi:Int):z0b n lo hi=(ckR n lo hi,()):=by
 unfold z0b ckR;by_cases h1:n < lo
 ·rw[bifT (yC h1),y3g,cond_true,if_pos (.inl h1)]
 ·rw[bifF (yL h1),y3g];by_cases h2:n > hi
  ·rw[yC h2,cond_true,if_pos (.inr h2)]
  ·rw[yL h2,cond_false,if_neg (by omega)]
theorem y9B(l:List Int):l.findSome? (fun e=>if e != 0 then some (e,())else none)=(l.find? (· != 0)).map fun e=>(e,()):=by
 induction l with
 | nil=>rfl
 | cons e l ih =>
  rw[List.findSome?_cons,List.find?_cons];cases he:(e != 0)with
  | true=>rfl
  | false=>simpa using ih
theorem y17(l:List Int)(h:l.length < lenMax):y1h l=some (y0j l,()):=by
 unfold y1h;rw[bifT (yC h),y2j (fun e=>if e != 0 then some (e,())else none) l 0 (fun i e _=>by
  unfold yE5;cases he:(e != 0)<;>rfl),y9B]
 unfold y0j yEa;cases l.find? (· != 0)<;>rfl
theorem y3Q{α:Type}(l:List α)(i:Nat):idx l (i:Int)=l[i]?:=by
 unfold idx;rw[if_pos (Int.natCast_nonneg i)];rfl
theorem y7Z{α β:Type}{body:Int→α→Unit→Option (β⊕Unit)}{fin:Unit→Option β}(xs:List α)(p:α→Option β) :
  ∀ (l done:List α),xs=done++l→(∀ (i:Nat) e,xs[i]?=some e→body (i:Int) e ()=some (match p e with|some y=>.inl y|none=>.inr ())) →
   yf body fin (done.length:Int) l ()=match l.findSome? p with|some y=>some y|none=>fin ()
 | [],done,_,_=>rfl
 | e::l,done,hx,h=>by
  rw[y06,h done.length e (by rw[hx];simp),List.findSome?_cons]
  cases p e with
  | none =>
   have:=y7Z (body:=body) (fin:=fin) xs p l (done++[e]) (by rw[hx];simp) h
   simp only[List.length_append,List.length_cons,List.length_nil]at this;exact this
  | some y=>rfl
theorem yBO(l:List Int)(h:l.length < lenMax):yA9 l=some (y0j l,()):=by
 unfold yA9;have:=y7Z (body:=fun i__ e__ s__=>yAl l i__ e__) (fin:=fun s__=>yCD l) l (fun e=>if e != 0 then some (e,())else none) l [] rfl (fun i e hi=>by
  unfold yAl;cases he:(e != 0)with
  | true=>rw[y3Q,hi];rfl
  | false=>rfl)
 rw[bifT (yC h)];refine this.trans ?_
 rw[y9B];unfold y0j yCD;cases l.find? (· != 0)<;>rfl
def y4h(c:Nat):Bool:=decide (65≤c∧c≤90∨97≤c∧c≤122)
def y79(c:Nat):Bool:=decide (48≤c∧c≤57∨c=95)
def nmOk:Bool→List UInt8→Bool
 | _,[]=>true
 | first,c::l=>(y4h c.toNat || (!first && y79 c.toNat)) && nmOk false l
def isNm(s:List UInt8):Bool:=nmOk true s && decide (0 < s.length∧s.length≤24)
theorem y8n:∀ (s0 s:List UInt8) (i:Int),0≤i→yf (fun i__ e__ s__=>y8Y s0 i__ e__) (fun s__=>yES s0) i s ()=some (nmOk (decide (i=0)) s,())
  | s0,[],i,_=>rfl
  | s0,c::l,i,hi=>by
    rw[y06];have ih:=y8n s0 l (i+1) (by omega)
    have e0:decide (i+1=0)=false:=yL (by omega)
    rw[e0]at ih;unfold nmOk;have hb:y8Y s0 i c=some (if (y4h c.toNat || (!decide (i=0) && y79 c.toNat))=true then .inr ()else .inl (false,())):=by
      unfold y8Y y5m y4h y79;have g3:(i == 0)=decide (i=0):=by by_cases h:i=0<;>simp[h]
      have g4:((c.toNat:Int) != 95)=!decide ((c.toNat:Int)=95):=by by_cases h:(c.toNat:Int)=95<;>simp[h]
      rw[g3,g4];by_cases h1:(97:Int)≤c.toNat<;>by_cases h2:(c.toNat:Int)≤122<;>by_cases h3:(65:Int)≤c.toNat<;>by_cases h4:(c.toNat:Int)≤90<;>by_cases h5:(c.toNat:Int) < 48<;>by_cases h6:(c.toNat:Int) > 57<;>by_cases h7:(c.toNat:Int)=95<;>by_cases h8:i=0 <;>
        first
        | omega
        | (have g1:(decide (65≤c.toNat∧c.toNat≤90∨97≤c.toNat∧c.toNat≤122))=decide ((65:Int)≤c.toNat∧(c.toNat:Int)≤90∨(97:Int)≤c.toNat∧(c.toNat:Int)≤122):=by
            apply decide_eq_decide.2;omega
           have g2:(decide (48≤c.toNat∧c.toNat≤57∨c.toNat=95))=decide (¬ (c.toNat:Int) < 48∧¬ (c.toNat:Int) > 57∨(c.toNat:Int)=95):=by
            apply decide_eq_decide.2;omega
           rw[g1,g2];simp[h1,h2,h3,h4,h5,h6,h7,h8])
    rw[hb];simp only[Option.bind_some];by_cases hc:(y4h c.toNat || (!decide (i=0) && y79 c.toNat))=true
    · rw[if_pos hc,hc,Bool.true_and];exact ih
    · rw[if_neg hc,Bool.eq_false_iff.2 hc];rfl
theorem yIc(s:List UInt8):yDA s=some (isNm s,()):=by
 unfold yDA isNm;by_cases h0:s.length=0
 ·have:((s.length:Int) == 0)=true:=by simp[h0]
  rw[bifT this,show decide (0 < s.length∧s.length≤24)=false from yL (by omega),Bool.and_false]
 ·have:((s.length:Int) == 0)=false:=by simpa using h0
  rw[bifF this];by_cases h1:24 < s.length
  ·rw[bifT (yC (by omega)),show decide (0 < s.length∧s.length≤24)=false from yL (by omega),Bool.and_false]
  ·rw[bifF (yL (show ¬ ((s.length:Int) > 24) by omega)),bifT (yC (show s.length < lenMax by unfold lenMax;omega)),y8n s s 0 (by omega),yC rfl]
   rw[show decide (0 < s.length∧s.length≤24)=true from yC ⟨by omega,by omega⟩,Bool.and_true]
theorem yLE{bs:List UInt8}{i:Nat}{c:UInt8}(h:bs[i]?=some c):(⟨bs.toArray⟩:ByteArray).get! i=c:=by
 show bs.toArray[i]! = c
 rw[getElem!_def];simp[h]
theorem yF1{bs:List UInt8}{i:Nat}{c:UInt8}(h:bs[i]?=some c)(hc:c.toNat < 128):yc bs (i:Int)=((c.toNat:Int),(i:Int)+1):=by
 unfold yc Utf8.decode;have h0:(⟨bs.toArray⟩:ByteArray).get! ((i:Int).toNat+0)=c:=by rw[Int.toNat_natCast,Nat.add_zero];exact yLE h
 simp only[h0];rw[if_pos hc];rfl
theorem yHW{bs:List UInt8}{i:Nat}{c:UInt8}(h:bs[i]?=some c)(hc:128≤c.toNat):128≤(yc bs (i:Int)).1:=by
 unfold yc Utf8.decode;have h0:(⟨bs.toArray⟩:ByteArray).get! ((i:Int).toNat+0)=c:=by rw[Int.toNat_natCast,Nat.add_zero];exact yLE h
 simp only[h0];rw[if_neg (by omega)]
 have he:Utf8.runeError=65533:=rfl;split
 ·split
  ·rename_i h2;show (128:Int)≤((_:Nat):Int);omega
  ·rw[he];decide
 ·split
  ·split
   ·rename_i h2;simp only[Bool.and_eq_true,decide_eq_true_eq]at h2;show (128:Int)≤((_:Nat):Int);omega
   ·rw[he];decide
  ·split
   ·split
    ·rename_i h2;simp only[Bool.and_eq_true,decide_eq_true_eq]at h2;show (128:Int)≤((_:Nat):Int);omega
    ·rw[he];decide
   ·rw[he];decide
def yA2(r:Int):Bool:=decide (65≤r∧r≤90∨97≤r∧r≤122)
def yDi(r:Int):Bool:=decide (48≤r∧r≤57∨r=95)
theorem yFD(s str:List UInt8)(pos:Int):y8s s str pos=some (if (yA2 (yc str pos).1 || (!decide (pos=0) && yDi (yc str pos).1))=true then .inr ()else .inl (false,())):=by
 unfold y8s y4o y7x yA2 yDi;generalize (yc str pos).1=r;have g3:(pos == 0)=decide (pos=0):=by by_cases h:pos=0<;>simp[h]
 have g4:(r == 95)=decide (r=95):=by by_cases h:r=95<;>simp[h]
 rw[g3,g4];by_cases h1:r ≥ 97<;>by_cases h2:r≤122<;>by_cases h3:r ≥ 65<;>by_cases h4:r≤90<;>by_cases h5:r ≥ 48<;>by_cases h6:r≤57<;>by_cases h7:r=95<;>by_cases h8:pos=0 <;>
  first
  | omega
  | simp[h1,h2,h3,h4,h5,h6,h7,h8]
theorem y96(s:List UInt8):∀ (m i:Nat),s.length≤i+m→i≤s.length →
  y83 s (fun i__ s__=>y8s s s i__) (fun s__=>y8z s s) m (i:Int) ()=bif nmOk (decide (i=0)) (s.drop i)then y8z s s else some (false,())
 | m,i,hm,hi=>by
  by_cases hl:i=s.length
  ·have e1:s.drop i=[]:=List.drop_eq_nil_of_le (by omega)
   have e2:decide ((i:Int) < (s.length:Int))=false:=yL (by omega)
   rw[e1];cases m<;>(unfold y83;rw[bifF e2];rfl)
  ·have hlt:i < s.length:=by omega
   obtain ⟨m,rfl⟩:∃ k,m=k+1:=⟨m - 1,by omega⟩
   have hd:s.drop i=s[i]::s.drop (i+1):=(List.getElem_cons_drop (h:=hlt)).symm;have hg:s[i]?=some s[i]:=List.getElem?_eq_getElem hlt;have e0:decide ((i:Int)=0)=decide (i=0):=decide_eq_decide.2 (by omega)
   unfold y83;rw[bifT (yC (show (i:Int) < (s.length:Int) by omega)),yFD,hd,e0]
   simp only[Option.bind_some];by_cases hc:s[i].toNat < 128
   ·rw[yF1 hg hc];have e1:yA2 (s[i].toNat:Int)=y4h s[i].toNat:=decide_eq_decide.2 (by omega)
    have e2:yDi (s[i].toNat:Int)=y79 s[i].toNat:=decide_eq_decide.2 (by omega)
    simp only[e1,e2,nmOk];by_cases hb:(y4h s[i].toNat || (!decide (i=0) && y79 s[i].toNat))=true
    ·rw[if_pos hb,hb,Bool.true_and];have ih:=y96 s m (i+1) (by omega) (by omega)
     have e3:decide (i+1=0)=false:=yL (by omega)
     rw[e3,show ((i+1:Nat):Int)=(i:Int)+1 by omega]at ih
     exact ih
    ·rw[if_neg hb,Bool.eq_false_iff.2 hb,Bool.false_and];rfl
   ·have h1:=yHW hg (by omega)
    have e1:yA2 (yc s (i:Int)).1=false:=yL (by omega)
    have e2:yDi (yc s (i:Int)).1=false:=yL (by omega)
    have e3:y4h s[i].toNat=false:=yL (by omega)
    have e4:y79 s[i].toNat=false:=yL (by omega)
    simp[e1,e2,nmOk,e3,e4]
theorem yKa(s:List UInt8)(h:s.length < lenMax):yB0 s=some (isNm s,()):=by
 unfold yB0;have:=y96 s s.length 0 (by omega) (by omega)
 rw[List.drop_zero,show decide (0=0)=true from rfl]at this
 rw[bifT (yC h)];refine (show _=_ from this).trans ?_
 unfold isNm y8z;cases hn:nmOk true s with
 | false=>rfl
 | true =>
  rw[cond_true,Bool.true_and];cases s with
  | nil=>rfl
  | cons c l =>
   have e:decide (((c::l).length:Int)≤24)=decide (0 < (c::l).length∧(c::l).length≤24):=decide_eq_decide.2 (by simp only[List.length_cons];omega)
   rw[← e];rfl
def yP(a b:Int):Int:=if a != 0 then a else b
theorem y1K:y0j []=0:=rfl
theorem yQ(a:Int)(l:List Int):y0j (a::l)=yP a (y0j l):=by
 unfold y0j yP;rw[List.find?_cons];cases h:(a != 0)<;>rfl
theorem y0T(a:Int):yP a 0=a:=by
 unfold yP;by_cases h:a=0<;>simp[h]
end Go.Tw
end
section
set_option maxRecDepth 100000
namespace Go.Tw
open Go.Vx Go.Vx.B Go.Proofs
abbrev Con:=List UInt8×Int×Int×Unit
abbrev Gau:=Int×Int×Unit
abbrev Tid:=List Con×List Gau×Int×Unit
def y6U(c:Con):Int:=y0j [bif isNm c.1 then 0 else 8,ckR c.2.1 1 96,ckR c.2.2.1 0 3]
def conE(done:List Con)(c:Con):Int:=yP (y6U c) (bif done.any (fun d=>d.1 == c.1)then 9 else 0)
def y8R:List Con→List Con→Int
 | _,[]=>0
 | done,n::l=>yP (conE done n) (y8R (done++[n]) l)
def y0k(l:List Con):Int:=if l.length=0 then 12 else if 4 < l.length then 5 else y8R [] l
theorem y92(a b:Int):[a,b].length < lenMax:=by simp[lenMax]
theorem yEK(a b c:Int):[a,b,c].length < lenMax:=by simp[lenMax]
theorem yRt(a b c d:Int):[a,b,c,d].length < lenMax:=by simp[lenMax]
theorem yHp(s:List UInt8):zh_M s=some (bif isNm s then 0 else 8,()):=by
 unfold zh_M zh_m;rw[yIc];cases isNm s<;>rfl
theorem y94(l:List Con)(i:Nat)(n:Con)(hn:l[i]?=some n){fin:Unit→Option ((Int×Unit)⊕Unit)}:∀ (m k:Nat),k+m=i →
  y2e (fun i__ s__=>yEx l (i:Int) i__) fin m (k:Int) ()=if ((l.drop k).take m).any (fun d=>d.1 == n.1)=true then some (.inl (9,()))else fin ()
 | 0,k,_=>by simp[y2e]
 | m+1,k,hk=>by
  have hi:i < l.length:=(List.getElem?_eq_some_iff.1 hn).1;have hkl:k < l.length:=by omega
  unfold y2e;have hb:yEx l (i:Int) (k:Int)=some (if (l[k].1 == n.1)=true then .inl (.inl (9,()))else .inr ()):=by
   unfold yEx;rw[y3Q,y3Q,hn,List.getElem?_eq_getElem hkl];simp only[Option.bind_some];cases (l[k].1 == n.1)<;>rfl
  rw[hb];simp only[Option.bind_some];have hd:(l.drop k).take (m+1)=l[k]::(l.drop (k+1)).take m:=by
   rw[← List.getElem_cons_drop (h:=hkl),List.take_succ_cons]
  rw[hd,List.any_cons];cases h:(l[k].1 == n.1)with
  | true=>rfl
  | false =>
   rw[if_neg (by simp),Bool.false_or]
   have ih:=y94 l i n hn (fin:=fin) m (k+1) (by omega)
   rw[show ((k+1:Nat):Int)=(k:Int)+1 by omega]at ih
   exact ih
theorem yEm(l:List Con)(hl:l.length≤4)(i:Nat)(n:Con)(hn:l[i]?=some n) :
  yFw l (i:Int) n=some (bif conE (l.take i) n != 0 then .inl (conE (l.take i) n,())else .inr ()):=by
 have hi:i < l.length:=(List.getElem?_eq_some_iff.1 hn).1;unfold yFw;rw[yHp,y3Q,hn];simp only[Option.bind_some,y39];rw[yBO _ (yEK _ _ _)];simp only[Option.bind_some];show (bif (y6U n != 0)then some (Sum.inl (y6U n,()))else _)=_
 unfold conE yP;cases hs:(y6U n != 0)with
 | true=>simp only[cond_true,if_true,hs]
 | false =>
  simp only[cond_false,Bool.false_eq_true,if_false];rw[bifT (yC (show (i:Int)≤9223372036854775807 by omega))]
  have e1:((i:Int) - 0).toNat=i:=by omega
  rw[e1];have:=y94 l i n hn (fin:=fun s__=>yJM l (i:Int)) i 0 (by omega)
  rw[show ((0:Nat):Int)=0 from rfl]at this
  rw[this,List.drop_zero];cases hany:(l.take i).any (fun d=>d.1 == n.1)with
  | true=>rw[if_pos rfl];rfl
  | false=>rw[if_neg (by simp)];rfl
theorem y8a(xs:List Con)(hl:xs.length≤4):∀ (l done:List Con),xs=done++l →
  yf (fun i__ e__ s__=>yFw xs i__ e__) (fun s__=>yJ4 xs) (done.length:Int) l ()=some (y8R done l,())
 | [],done,_=>rfl
 | n::l,done,hx=>by
  have hn:xs[done.length]?=some n:=by rw[hx];simp
  rw[y06,yEm xs hl done.length n hn];have ht:xs.take done.length=done:=by rw[hx];simp
  rw[ht];simp only[Option.bind_some,y8R,yP];cases h:(conE done n != 0)with
  | true=>rfl
  | false =>
   have ih:=y8a xs hl l (done++[n]) (by rw[hx];simp)
   simp only[List.length_append,List.length_cons,List.length_nil]at ih;exact ih
theorem yIp(l:List Con):zJ_M l=some (y0k l,()):=by
 unfold zJ_M y0k;by_cases h0:l.length=0
 ·rw[bifT (show ((l.length:Int) == 0)=true by simp[h0]),if_pos h0]
 ·rw[bifF (show ((l.length:Int) == 0)=false by simpa using h0),if_neg h0]
  by_cases h8:4 < l.length
  ·rw[bifT (yC (show (l.length:Int) > 4 by omega)),if_pos h8]
  ·rw[bifF (yL (show ¬ (l.length:Int) > 4 by omega)),if_neg h8,bifT (yC (show l.length < lenMax by unfold lenMax;omega))]
   exact y8a l (by omega) l [] rfl
def yJf(m:List (List UInt8×Bool))(done:List Con):Prop:=∀ k,(y0D .str .bool m k).getD false=done.any fun d=>d.1 == k
theorem yFv(m:List (List UInt8×Bool))(k k':List UInt8):(y0D .str .bool (y0U .str .bool m k true) k').getD false=((k == k') || (y0D .str .bool m k').getD false):=by
 induction m with
 | nil =>
  show (y0D .str .bool [(k,true)] k').getD false=_
  simp only[y0D,eqV];by_cases h:k'=k
  ·subst h;simp
  ·have h1:(k' == k)=false:=beq_eq_false_iff_ne.2 h;have h2:(k == k')=false:=beq_eq_false_iff_ne.2 (Ne.symm h);show (bif (k' == k)then some true else none).getD false=_
   rw[h1,h2];rfl
 | cons p m ih =>
  show (y0D .str .bool (bif (k == p.1)then (k,true)::m else p::y0U .str .bool m k true) k').getD false=_
  by_cases h:k=p.1
  ·have h1:(k == p.1)=true:=by simp[h]
   rw[h1,cond_true];show (bif (k' == k)then some true else y0D .str .bool m k').getD false=((k == k') || (bif (k' == p.1)then some p.2 else y0D .str .bool m k').getD false)
   by_cases h2:k'=k
   ·have e1:(k' == k)=true:=by simp[h2]
    have e2:(k == k')=true:=by simp[h2]
    rw[e1,e2];rfl
   ·have e1:(k' == k)=false:=beq_eq_false_iff_ne.2 h2;have e2:(k == k')=false:=beq_eq_false_iff_ne.2 (Ne.symm h2);have e3:(k' == p.1)=false:=by rw[← h];exact e1
    rw[e1,e2,e3];rfl
  ·have h1:(k == p.1)=false:=beq_eq_false_iff_ne.2 h;rw[h1,cond_false];show (bif (k' == p.1)then some p.2 else y0D .str .bool (y0U .str .bool m k true) k').getD false=((k == k') || (bif (k' == p.1)then some p.2 else y0D .str .bool m k').getD false)
   by_cases h2:k'=p.1
   ·have e1:(k' == p.1)=true:=by simp[h2]
    have e2:(k == k')=false:=by rw[h2];exact h1
    rw[e1,e2];rfl
   ·have e1:(k' == p.1)=false:=beq_eq_false_iff_ne.2 h2;rw[e1];exact ih
theorem yJf.put{m:List (List UInt8×Bool)}{done:List Con}(h:yJf m done)(n:Con):yJf (y0U .str .bool m n.1 true) (done++[n]):=by
 intro k;rw[yFv,h k,List.any_append];simp[Bool.or_comm]
theorem yGM(c:Con)(h:c.1.length < lenMax):zM_M c=some (y6U c,()):=by
 unfold zM_M zM_m;rw[yKa c.1 h];simp only[Option.bind_some,y3g,y2s];rw[y17 _ (yEK _ _ _)];unfold y6U;cases isNm c.1<;>rfl
theorem y8i(xs:List Con):∀ (l done:List Con) (i:Int) (m:List (List UInt8×Bool)),(∀ n∈l,n.1.length < lenMax)→yJf m done →
  yf (fun i__ e__ s__=>yEs xs i__ e__ s__) (fun s__=>yJE xs s__) i l m=some (y8R done l,())
 | [],done,i,m,_,_=>rfl
 | n::l,done,i,m,hl,hk=>by
  have hb:yEs xs i n m=some (bif conE done n != 0 then .inl (conE done n,())else .inr (y0U .str .bool m n.1 true)):=by
   unfold yEs;rw[yGM _ (hl n (by simp))]
   simp only[Option.bind_some,y3g,hk n.1];rw[y17 _ (y92 _ _)];have e:y0j [y6U (n.fst,n.snd.fst,n.snd.snd.fst,()),bif done.any (fun d=>d.1 == n.1)then 9 else 0]=conE done n:=by
    rw[yQ,yQ,y1K,y0T];rfl
   simp only[Option.bind_some,e];cases (conE done n != 0)<;>rfl
  rw[y06,hb];simp only[Option.bind_some,y8R,yP];cases h:(conE done n != 0)with
  | true=>rfl
  | false =>
   simp only[cond_false,Bool.false_eq_true,if_false];exact y8i xs l (done++[n]) (i+1) _ (fun x hx=>hl x (by simp[hx])) (hk.put n)
theorem yDX(l:List Con)(hn:∀ n∈l,n.1.length < lenMax)(hl:l.length < lenMax):zL_M l=some (y0k l,()):=by
 unfold zL_M y0k;simp only[y3g];rw[y17 _ (y92 _ _)];simp only[Option.bind_some];by_cases h0:l.length=0
 ·rw[show ((l.length:Int) == 0)=true by simp[h0],if_pos h0]
  rfl
 ·rw[show ((l.length:Int) == 0)=false by simpa using h0,if_neg h0]
  by_cases h8:4 < l.length
  ·rw[yC (show (l.length:Int) > 4 by omega),if_pos h8]
   rfl
  ·rw[yL (show ¬ (l.length:Int) > 4 by omega),if_neg h8]
   rw[bifF (by rfl),bifT (yC hl)]
   exact y8i l l [] 0 [] hn (fun k=>rfl)
end Go.Tw
end
section
set_option maxRecDepth 100000
namespace Go.Tw
open Go.Vx Go.Vx.B Go.Proofs
theorem yo{i:Int}(h0:-9223372036854775808≤i)(h1:i≤9223372036854775807):IntKind.i64.wrap i=i:=by
 rw[IntKind.wrap_i64];omega
def gI(a b:Int):Int:=(Nat.gcd a.natAbs b.natAbs:Nat)
theorem y9T{β:Type}(K:Int→β)(body:Int×Int→Option (β⊕(Int×Int)))
  (hb:∀ a b:Int,body (a,b)=if b=0 then some (.inl (K a))else some (.inr (b,a.tmod b))) :
  ∀ (k m:Nat) (a b:Nat),b < 2 ^ k→2 * k+1≤m→y8Q body m ((a:Int),(b:Int))=some (K (Nat.gcd a b:Nat))
 | k,0,a,b,_,hm=>by omega
 | k,m+1,a,b,hk,hm=>by
  unfold y8Q;rw[hb];by_cases h0:b=0
  ·subst h0;rw[if_pos (by rfl),Nat.gcd_zero_right]
   rfl
  ·rw[if_neg (by omega)]
   simp only[Option.bind_some];have e1:(a:Int).tmod (b:Int)=((a % b:Nat):Int):=by rw[Int.ofNat_tmod]
   rw[e1];have hr:a % b < b:=Nat.mod_lt _ (by omega)
   have hg:Nat.gcd a b=Nat.gcd b (a % b):=by rw[Nat.gcd_comm a b,Nat.gcd_rec b a,Nat.gcd_comm]
   have hk1:1≤k:=by
    rcases Nat.eq_zero_or_pos k with h|h
    ·subst h;simp at hk;omega
    ·exact h
   match m,hm with
   | 0,hm=>omega
   | m+1,hm =>
    unfold y8Q;rw[hb];by_cases h1:a % b=0
    ·rw[if_pos (by omega),hg,h1,Nat.gcd_zero_right]
     rfl
    ·rw[if_neg (by omega)]
     simp only[Option.bind_some];generalize hr2:a % b=r at *;have e2:(b:Int).tmod ((r:Nat):Int)=((b % r:Nat):Int):=(Int.ofNat_tmod b r).symm;rw[e2];have hlt:b % r < 2 ^ (k - 1):=by
      have h3:2 * (b % r) < b:=by
       have h4:b % r < r:=Nat.mod_lt _ (by omega)
       have h5:b % r+r≤b:=by
        have h6:=Nat.div_add_mod b r;have h7:1≤b / r:=Nat.div_pos (by omega) (by omega)
        have h8:r * 1≤r * (b / r):=Nat.mul_le_mul_left _ h7;omega
       omega
      have h9:2 ^ k=2 * 2 ^ (k - 1):=by
       rw[← Nat.pow_succ'];congr 1
       omega
      omega
     rw[y9T K body hb (k - 1) m r (b % r) hlt (by omega),hg,Nat.gcd_comm b,Nat.gcd_rec r b,Nat.gcd_comm]
theorem yIC(n:Int)(h0:-9223372036854775807≤n)(h1:n≤9223372036854775807):(z06 n).1=(n.natAbs:Int):=by
 unfold z06;simp only[if_true];rw[yo (by omega) (by omega)]
 split<;>omega
theorem yG4(n:Int)(h0:-9223372036854775807≤n)(h1:n≤9223372036854775807):(if IntKind.i64.wrap (0 - n) > n then IntKind.i64.wrap (0 - n)else n)=(n.natAbs:Int):=by
 rw[yo (by omega) (by omega)]
 split<;>omega
theorem yVx{n:Int}(h0:-9223372036854775807≤n)(h1:n≤9223372036854775807):n.natAbs < 2 ^ 63:=by
 have:(2:Nat) ^ 63=9223372036854775808:=by decide
 omega
theorem yGH(a:Nat)(n:Int)(h0:-9223372036854775807≤n)(h1:n≤9223372036854775807):y8S (a:Int) (n.natAbs:Int)=some (gI a n,()):=by
 unfold y8S;have:=y9T (fun x=>(x,())) (fun s__=>yCJ s__.1 s__.2) (fun a b=>by
  unfold yCJ;by_cases h:b=0
  ·subst h;rfl
  ·have e:(b != 0)=true:=by simp[h]
   have e2:(b == 0)=false:=by simp[h]
   simp only[e,e2,cond_true,cond_false,if_neg h]) 63 wMax a n.natAbs (yVx h0 h1) (by unfold wMax;omega)
 rw[this];rfl
theorem yBV(l:List Int)(i:Int)(n:Int)(a:Nat)(h0:-9223372036854775807≤n)(h1:n≤9223372036854775807):yBq l i n (a:Int)=some (.inr (gI a n)):=by
 unfold yBq;rw[yIC n h0 h1];have:=y9T (fun x=>(Sum.inr x:(Int×Unit)⊕Int)) (fun s__=>yAf l ((l.length:Int)) i s__.1 s__.2) (fun a b=>by
  unfold yAf;by_cases h:b=0
  ·subst h;rfl
  ·have e:(b != 0)=true:=by simp[h]
   have e2:(b == 0)=false:=by simp[h]
   simp only[e,e2,cond_true,cond_false,if_neg h]) 63 wMax a n.natAbs (yVx h0 h1) (by unfold wMax;omega)
 rw[this];rfl
theorem yDn(a b:Int):∃ n:Nat,gI a b=(n:Int):=⟨_,rfl⟩
theorem yJ6(a:Nat)(x y:Int)(h0:-9223372036854775807≤x)(h1:x≤9223372036854775807)(h2:-9223372036854775807≤y)(h3:y≤9223372036854775807):yAA (a:Int) [x,y]=some (gI (gI a x) y,()):=by
 unfold yAA;rw[bifT (yC (by simp[lenMax])),y06,yBV _ _ _ _ h0 h1]
 simp only[Option.bind_some];obtain ⟨n,hn⟩:=yDn a x;rw[hn,y06,yBV _ _ _ _ h2 h3];rfl
def comG:List Gau→Int→Int
 | [],d=>d
 | z::l,d=>comG l (gI (gI d z.1) z.2.1)
def fits(z:Gau):Prop:=(-9223372036854775807≤z.1∧z.1≤9223372036854775807)∧(-9223372036854775807≤z.2.1∧z.2.1≤9223372036854775807)
theorem yB7(xs:List Gau):∀ (l:List Gau) (i:Int) (d:Nat),(∀ z∈l,fits z)→yf (fun i__ e__ s__=>yBZ xs i__ e__ s__) (fun s__=>yEV xs s__) i l (d:Int)=some (comG l d,())
 | [],i,d,_=>rfl
 | z::l,i,d,h=>by
  have hz:=h z (by simp)
  rw[y06];unfold yBZ;rw[yJ6 d _ _ hz.1.1 hz.1.2 hz.2.1 hz.2.2];simp only[Option.bind_some,comG];obtain ⟨n,hn⟩:=yDn (gI d z.1) z.2.1;rw[hn];exact yB7 xs l (i+1) n fun z hz=>h z (by simp[hz])
theorem yIR(l:List Gau)(d:Nat)(h:∀ z∈l,fits z)(hl:l.length < lenMax):yBc l (d:Int)=some (comG l d,()):=by
 unfold yBc;rw[bifT (yC hl)];exact yB7 l l 0 d h
theorem yC9(xs:List Gau):∀ (l done:List Gau) (d:Nat),xs=done++l→(∀ z∈l,fits z)→yf (fun i__ e__ s__=>y8U xs i__ e__ s__) (fun s__=>yEW xs s__) (done.length:Int) l (d:Int)=some (comG l d,())
 | [],_,d,_,_=>rfl
 | z::l,done,d,hx,h=>by
  have hz:=h z (by simp)
  have hn:xs[done.length]?=some z:=by rw[hx];simp
  rw[y06];have hb:y8U xs (done.length:Int) z (d:Int)=some (.inr (gI (gI d z.1) z.2.1)):=by
   unfold y8U;rw[y3Q,hn];simp only[Option.bind_some,if_true];rw[yG4 _ hz.1.1 hz.1.2,yGH d _ hz.1.1 hz.1.2];simp only[Option.bind_some];rw[yG4 _ hz.2.1 hz.2.2];obtain ⟨n,hn⟩:=yDn d z.1;rw[hn,yGH n _ hz.2.1 hz.2.2];rfl
  rw[hb];simp only[Option.bind_some,comG];obtain ⟨n,hn2⟩:=yDn (gI d z.1) z.2.1;rw[hn2];have ih:=yC9 xs l (done++[z]) n (by rw[hx];simp) fun z hz=>h z (by simp[hz])
  simp only[List.length_append,List.length_cons,List.length_nil]at ih;exact ih
theorem yQT(l:List Gau)(d:Nat)(h:∀ z∈l,fits z)(hl:l.length < lenMax):yBs l (d:Int)=some (comG l d,()):=by
 unfold yBs;rw[bifT (yC hl)];exact yC9 l l [] d rfl h
def y0e(z:Gau):Int:=y0j [ckR z.1 (-8796093022208) 8796093022208,ckR z.2.1 (-8796093022208) 8796093022208]
theorem y3D{l:List Int}(h:y0j l=0):∀ e∈l,e=0:=by
 induction l with
 | nil=>intro e he;cases he
 | cons a l ih =>
  rw[yQ]at h;unfold yP at h;by_cases ha:a=0
  ·subst ha;simp only[bne_self_eq_false,Bool.false_eq_true,if_false]at h;intro e he;rcases List.mem_cons.1 he with rfl|he
   ·rfl
   ·exact ih h e he
  ·have:(a != 0)=true:=by simp[ha]
   rw[this,if_pos rfl]at h;exact absurd h ha
theorem y1E{n lo hi:Int}(h:ckR n lo hi=0):lo≤n∧n≤hi:=by
 unfold ckR at h;split at h
 ·cases h
 ·omega
theorem yDH{z:Gau}(h:y0e z=0):(-8796093022208≤z.1∧z.1≤8796093022208)∧(-8796093022208≤z.2.1∧z.2.1≤8796093022208):=by
 have h1:=y3D h;exact ⟨y1E (h1 _ (by simp)),y1E (h1 _ (by simp))⟩
theorem y4f{z:Gau}(h:y0e z=0):fits z:=by
 have:=yDH h;unfold fits;omega
theorem yJm(z:Gau):zv_M z=some (y0e z,()):=by
 unfold zv_M zv_m;simp only[y2s];rw[y17 _ (y92 _ _)];rfl
theorem yK7(z:Gau):zi_M z=some (y0e z,()):=by
 unfold zi_M zi_m;simp only[y39];rw[yBO _ (y92 _ _)];rfl
theorem yb{n:Nat}(h:n≤memMax):n < lenMax:=Nat.lt_of_le_of_lt h y5L
theorem yGv(l:List Gau)(hl:l.length≤memMax):zF_M l (fun x=>zv_M x.1)=some (l.map y0e,()):=by
 unfold zF_M;rw[bifT (yC (yb hl))];rw[y2D y0e l 0 [] (by simpa using hl) fun i e s _ hs=>by
  unfold yJS;show (Option.bind (zv_M e) _)=_
  rw[yJm];simp only[Option.bind_some];rw[bifT (yC hs)]]
 rfl
def y09(t:Tid):Int :=
 yP (y0k t.1) (yP (if t.2.1.length=t.1.length then 0 else 2) (yP (ckR t.2.2.1 1 268435456) (yP (y0j (t.2.1.map y0e)) (if comG t.2.1 t.2.2.1=1 then 0 else 1))))
theorem y01{a b:Int}(h:a≠0):yP a b=a:=by unfold yP;rw[if_pos (by simpa using h)]
theorem y04(b:Int):yP 0 b=b:=by unfold yP;rw[if_neg (by simp)]
theorem y0W(a b c:Int):yP (yP a b) c=yP a (yP b c):=by
 by_cases h:a=0
 ·subst h;simp only[y04]
 ·rw[y01 h,y01 h,y01 h]
theorem y5t{l:List Gau}(h:y0j (l.map y0e)=0):∀ z∈l,y0e z=0:=fun z hz=>y3D h _ (List.mem_map.2 ⟨z,hz,rfl⟩)
theorem yER(t:Tid)(hn:∀ n∈t.1,n.1.length < lenMax)(hl:t.1.length < lenMax)(ha:t.2.1.length≤memMax):zu_M t=some (y09 t,()):=by
 unfold zu_M zu_m;rw[yDX _ hn hl,yGv _ ha];simp only[Option.bind_some];rw[y17 _ (by rw[List.length_map];exact yb ha)]
 simp only[Option.bind_some,y3g,y2s];rw[y17 _ (yRt _ _ _ _)];simp only[Option.bind_some];have e:(bif ((t.2.1.length:Int) != (t.1.length:Int))then (2:Int)else 0)=if t.2.1.length=t.1.length then 0 else 2:=by
  by_cases h:t.2.1.length=t.1.length
  ·rw[if_pos h,h];simp
  ·rw[if_neg h];have:((t.2.1.length:Int) != (t.1.length:Int))=true:=by simpa using fun hh=>h (by omega)
   rw[this];rfl
 rw[e,yQ,yQ,yQ,yQ,y1K,y0T];unfold y09;rw[← y0W,← y0W,← y0W,← y0W,← y0W];generalize hq:yP (yP (yP (y0k t.1) (if t.2.1.length=t.1.length then 0 else 2)) (ckR t.2.2.1 1 268435456)) (y0j (t.2.1.map y0e))=q
 by_cases h0:q=0
 ·subst h0;have hp:y0j (t.2.1.map y0e)=0∧ckR t.2.2.1 1 268435456=0:=by
   rw[y0W,y0W]at hq;by_cases h1:y0k t.1=0
   ·rw[h1,y04]at hq;by_cases h2:t.2.1.length=t.1.length
    ·rw[if_pos h2,y04]at hq;by_cases h3:ckR t.2.2.1 1 268435456=0
     ·rw[h3,y04]at hq;exact ⟨hq,h3⟩
     ·rw[y01 h3]at hq;exact absurd hq h3
    ·rw[if_neg h2,y01 (by decide)]at hq;cases hq
   ·rw[y01 h1]at hq;exact absurd hq h1
  have hd:=y1E hp.2;obtain ⟨d,hd2⟩:∃ d:Nat,t.2.2.1=(d:Int):=⟨t.2.2.1.toNat,by omega⟩
  rw[bifF (by rfl),y04,hd2,yIR _ d (fun z hz=>y4f (y5t hp.1 z hz)) (yb ha)]
  simp only[Option.bind_some];by_cases hc:comG t.2.1 (d:Int)=1
  ·rw[if_pos hc,hc];rfl
  ·rw[if_neg hc];have:(comG t.2.1 (d:Int) != 1)=true:=by simpa using hc
   rw[this];rfl
 ·rw[bifT (by simpa using h0),y01 h0]
theorem yCl(t:Tid)(l:List Gau)(i:Int):yf (fun i__ e__ s__=>yGi t i__ e__) (fun s__=>yEh t) i l ()=if y0j (l.map y0e)=0 then yEh t else some (y0j (l.map y0e),()):=by
 rw[y2j (fun z=>if y0e z != 0 then some (y0e z,())else none) l i fun i z _=>by
  unfold yGi;rw[yK7];simp only[Option.bind_some];cases h:(y0e z != 0)<;>rfl]
 induction l with
 | nil=>rfl
 | cons z l ih =>
  rw[List.findSome?_cons,List.map_cons,yQ];by_cases h:y0e z=0
  ·have e:(y0e z != 0)=false:=by simp[h]
   rw[e,if_neg (by simp),h,y04]
   exact ih
  ·have e:(y0e z != 0)=true:=by simp[h]
   rw[e,if_pos rfl,y01 h,if_neg h]
theorem yW7(t:Tid)(ha:t.2.1.length≤memMax):zj_M t=some (y09 t,()):=by
 unfold zj_M y09;rw[yIp];simp only[Option.bind_some,y39];by_cases h1:y0k t.1=0
 ·rw[h1,bifF (by rfl),y04]
  by_cases h2:t.2.1.length=t.1.length
  ·rw[if_pos h2,y04,bifF (by rw[h2];simp)]
   by_cases h3:ckR t.2.2.1 1 268435456=0
   ·rw[h3,bifF (by rfl),y04,bifT (yC (yb ha)),yCl]
    by_cases h4:y0j (t.2.1.map y0e)=0
    ·rw[if_pos h4,h4,y04];have hd:=y1E h3;obtain ⟨d,hd2⟩:∃ d:Nat,t.2.2.1=(d:Int):=⟨t.2.2.1.toNat,by omega⟩
     unfold yEh;rw[hd2,yQT _ d (fun z hz=>y4f (y5t h4 z hz)) (yb ha)]
     simp only[Option.bind_some];by_cases hc:comG t.2.1 (d:Int)=1
     ·rw[if_pos hc,hc];rfl
     ·rw[if_neg hc];have:(comG t.2.1 (d:Int) != 1)=true:=by simpa using hc
      rw[this];rfl
    ·rw[if_neg h4,y01 h4]
   ·rw[bifT (by simpa using h3),y01 h3]
  ·rw[if_neg h2,y01 (by decide),bifT (by simpa using fun hh=>h2 (by omega))]
 ·rw[bifT (by simpa using h1),y01 h1]
end Go.Tw
end
section
set_option maxRecDepth 100000
namespace Go.Tw
open Go.Vx Go.Vx.B Go.Proofs
theorem y8g{β σ:Type}{body:Int→σ→Option (β⊕σ)}{fin:σ→Option β}{i:Int}{s:σ}:y2e body fin 0 i s=fin s:=rfl
theorem y5v{β σ:Type}{body:Int→σ→Option (β⊕σ)}{fin:σ→Option β}{m:Nat}{i:Int}{s:σ}:y2e body fin (m+1) i s=(body i s).bind fun z=>match z with
  | .inl y=>some y
  | .inr s'=>y2e body fin m (i+1) s':=rfl
theorem yBy{β γ:Type}{body:Int→List γ→Option (β⊕List γ)}{fin:List γ→Option β}(f:Int→γ) :
  ∀ (m:Nat) (i:Int) (s:List γ),s.length+m≤memMax→(∀ (k:Nat) s,k < m→s.length+1≤memMax→body (i+k) s=some (.inr (s++[f (i+k)])))→y2e body fin m i s=fin (s++(List.range m).map fun k:Nat=>f (i+k))
 | 0,i,s,_,_=>by simp[y8g]
 | m+1,i,s,hl,h=>by
  have h0:=h 0 s (by omega) (by omega)
  rw[show i+((0:Nat):Int)=i by omega]at h0
  rw[y5v,h0];simp only[Option.bind_some];rw[yBy f m (i+1) (s++[f i]) (by simp;omega) fun k s hk hs=>by
   have:=h (k+1) s (by omega) hs
   rw[show i+((k+1:Nat):Int)=i+1+(k:Int) by omega]at this
   exact this]
  congr 1
  rw[List.range_succ_eq_map,List.map_cons,List.map_map,List.append_assoc];congr 1
  simp only[List.singleton_append,List.cons.injEq];refine ⟨by congr 1;omega,List.map_congr_left fun k _=>?_⟩
  show f (i+1+(k:Int))=f (i+((k+1:Nat):Int))
  congr 1
  omega
def yHL(n:Int):Gau:=if n=0 then (1,0,())else if n=1 then (0,1,())else if n=2 then (-1,0,())else (0,-1,())
def chr(c:Con)(tick:Int):Gau:=yHL (c.2.2.1 * (tick / c.2.1) % 4)
def yCU(c:Con):Prop:=(1≤c.2.1∧c.2.1≤96)∧(0≤c.2.2.1∧c.2.2.1≤3)
def yBk(t:Int):Prop:=0≤t∧t≤200000
theorem yKP{c:Con}{t:Int}(hc:yCU c)(ht:yBk t):IntKind.i64.wrap (c.2.2.1 * IntKind.i64.wrap (t.tdiv c.2.1))=c.2.2.1 * (t / c.2.1)∧0≤c.2.2.1 * (t / c.2.1)∧c.2.2.1 * (t / c.2.1)≤600000:=by
 obtain ⟨⟨h1,h2⟩,h3,h4⟩:=hc;obtain ⟨h5,h6⟩:=ht;have e1:t.tdiv c.2.1=t / c.2.1:=Int.tdiv_eq_ediv_of_nonneg h5;have h7:0≤t / c.2.1:=Int.ediv_nonneg h5 (by omega)
 have h8:t / c.2.1≤t:=Int.ediv_le_self _ h5;generalize t / c.2.1=q at e1 h7 h8;have h9:0≤c.2.2.1 * q:=Int.mul_nonneg h3 h7;have h10:c.2.2.1 * q≤3 * q:=Int.mul_le_mul_of_nonneg_right h4 h7;rw[e1,yo (i:=q) (by omega) (by omega),yo (by omega) (by omega)]
 exact ⟨rfl,h9,by omega⟩
theorem mod4(k:Int):k % 4=0∨k % 4=1∨k % 4=2∨k % 4=3:=by omega
theorem yZJ{c:Con}{t:Int}(hc:yCU c)(ht:yBk t):zR_M c t=some (chr c t,()):=by
 unfold zR_M zR_m chr;obtain ⟨h1,h2,h3⟩:=yKP hc ht;have hl:(c.2.1 == 0)=false:=by have:=hc.1.1;simp;omega
 rw[bifF hl];rw[h1];generalize c.2.2.1 * (t / c.2.1)=k at h2 h3;have e:k.tmod 4=k % 4:=Int.tmod_eq_emod_of_nonneg h2;rw[e];rcases mod4 k with h|h|h|h<;>rw[h]<;>rfl
noncomputable def sumV:List Con→List Gau→Int→Gau→Gau
 | c::l,z::v,t,acc=>sumV l v t (z15 acc (z0y z (chr c t)).1).1
 | _,_,_,acc=>acc
theorem yBT(v:List Gau)(t:Int)(xs:List Con)(ht:yBk t):∀ (l:List Con) (d:Nat) (x y:Int),l.length+d=v.length→(∀ c∈l,yCU c) →
  yf (fun i__ e__ s__=>y8m v t xs 0 0 i__ e__ s__.1 s__.2) (fun s__=>yE0 v t xs 0 0 s__.1 s__.2) (d:Int) l (x,y)=some (sumV l (v.drop d) t (x,y,()),())
 | [],d,x,y,hl,_=>by
  have:v.drop d=[]:=List.drop_eq_nil_of_le (by simp at hl;omega)
  rw[this];rfl
 | c::l,d,x,y,hl,hc=>by
  simp only[List.length_cons]at hl;have hd:d < v.length:=by omega
  have hv:v[d]?=some v[d]:=List.getElem?_eq_getElem hd;have hdr:v.drop d=v[d]::v.drop (d+1):=(List.getElem_cons_drop (h:=hd)).symm;have hb:y8m v t xs 0 0 (d:Int) c x y=some (.inr ((z15 (x,y,()) (z0y v[d] (chr c t)).1).1.1,(z15 (x,y,()) (z0y v[d] (chr c t)).1).1.2.1)):=by
   unfold y8m;rw[y3Q,hv];simp only[Option.bind_some];rw[yZJ (c:=(c.1,c.2.1,c.2.2.1,())) (hc c (by simp)) ht]
   rfl
  rw[y06];simp only[hb,Option.bind_some];have ih:=yBT v t xs ht l (d+1) (z15 (x,y,()) (z0y v[d] (chr c t)).1).1.1 (z15 (x,y,()) (z0y v[d] (chr c t)).1).1.2.1 (by omega) fun c hc2=>hc c (by simp[hc2])
  rw[hdr];exact ih
theorem yQm{l:List Con}{v:List Gau}{t:Int}(hl:l.length=v.length)(hlm:l.length < lenMax)(hc:∀ c∈l,yCU c)(ht:yBk t):yCs l v t=some (sumV l v t (0,0,()),()):=by
 unfold yCs;rw[bifT (yC hlm)];exact yBT v t l ht l 0 0 0 (by omega) hc
structure okT (t:Tid):Prop where
 len:t.1.length=t.2.1.length
 few:t.1.length≤4
 con:∀ c∈t.1,yCU c
 den:1≤t.2.2.1∧t.2.2.1≤268435456
 part:∀ z∈t.2.1,y0e z=0
 red:comG t.2.1 t.2.2.1=1
noncomputable def valT(t:Tid)(tick:Int):Gau:=sumV t.1 t.2.1 tick (0,0,())
theorem yWd{t:Tid}(h:okT t){k:Int}(hk:yBk k):yBp t k=some (valT t k,()):=by
 unfold yBp yJB;rw[yQm h.len (by have:=h.few;unfold lenMax;omega) h.con hk]
 rfl
theorem yS{a b:Int}(h:yP a b=0):a=0∧b=0:=by
 by_cases ha:a=0
 ·subst ha;rw[y04]at h;exact ⟨rfl,h⟩
 ·rw[y01 ha]at h;exact absurd h ha
theorem y6u:∀ (l done:List Con),y8R done l=0→∀ c∈l,y6U c=0
 | [],_,_,c,hc=>by cases hc
 | n::l,done,h,c,hc=>by
  obtain ⟨h1,h2⟩:=yS h;rcases List.mem_cons.1 hc with rfl|hc
  ·exact (yS h1).1
  ·exact y6u l _ h2 c hc
theorem yDU{c:Con}(h:y6U c=0):yCU c∧isNm c.1=true:=by
 have h1:=y3D h;refine ⟨⟨y1E (h1 _ (by simp)),y1E (h1 _ (by simp))⟩,?_⟩
 have:=h1 _ (List.mem_cons_self ..);cases hn:isNm c.1 with
 | true=>rfl
 | false=>rw[hn]at this;cases this
theorem yBA{l:List Con}(h:y0k l=0):0 < l.length∧l.length≤4∧(∀ c∈l,yCU c):=by
 unfold y0k at h;split at h
 ·cases h
 ·split at h
  ·cases h
  ·exact ⟨by omega,by omega,fun c hc=>(yDU (y6u l [] h c hc)).1⟩
theorem ym{t:Tid}(h:y09 t=0):okT t:=by
 unfold y09 at h;obtain ⟨h1,h2⟩:=yS h;obtain ⟨h3,h4⟩:=yS h2;obtain ⟨h5,h6⟩:=yS h4;obtain ⟨h7,h8⟩:=yS h6;obtain ⟨a1,a2,a3⟩:=yBA h1;refine ⟨?_,a2,a3,y1E h5,y5t h7,?_⟩
 ·by_cases hl:t.2.1.length=t.1.length
  ·exact hl.symm
  ·rw[if_neg hl]at h3;cases h3
 ·by_cases hg:comG t.2.1 t.2.2.1=1
  ·exact hg
  ·rw[if_neg hg]at h8;cases h8
def y2y(p n:Int):Int:=yP (y0j [ckR p 0 100000,ckR n 0 4096]) (ckR (IntKind.i64.wrap (p+n)) 0 100000)
theorem yK9(p n:Int):zw_M p n=some (y2y p n,()):=by
 unfold zw_M zw_m y2y;simp only[y2s];rw[y17 _ (y92 _ _)];simp only[Option.bind_some];unfold yP;cases h:(y0j [ckR p 0 100000,ckR n 0 4096] != 0)<;>rfl
theorem yBn{p n:Int}(h:y2y p n=0):(0≤p∧p≤100000)∧(0≤n∧n≤4096)∧p+n≤100000:=by
 obtain ⟨h1,h2⟩:=yS h;have h3:=y3D h1;have h4:=y1E (n:=p) (lo:=0) (hi:=100000) (h3 _ (by simp))
 have h5:=y1E (n:=n) (lo:=0) (hi:=4096) (h3 _ (by simp))
 have h6:=y1E h2;rw[yo (by omega) (by omega)]at h6
 exact ⟨h4,h5,h6.2⟩
noncomputable def yFn(t:Tid)(p n:Int):List Gau:=(List.range n.toNat).map fun k:Nat=>valT t (p+(0+k))
theorem yHe(t:Tid)(p n:Int):(yFn t p n).length=n.toNat:=by simp[yFn]
theorem yDw{t:Tid}(hn:∀ n∈t.1,n.1.length < lenMax)(hl:t.1.length < lenMax)(ha:t.2.1.length≤memMax)(p n:Int) :
  y6Q t p n=some (if yP (y09 t) (y2y p n)=0 then (yFn t p n,0,())else ([],yP (y09 t) (y2y p n),())):=by
 unfold y6Q;rw[yER t hn hl ha,yK9];simp only[Option.bind_some];rw[y17 _ (y92 _ _),yQ,yQ,y1K,y0T];simp only[Option.bind_some];by_cases h:yP (y09 t) (y2y p n)=0
 ·rw[if_pos h,h,bifF (by rfl)]
  obtain ⟨h1,h2⟩:=yS h;have ht:=ym h1;obtain ⟨h3,h4,h5⟩:=yBn h2;rw[bifT (yC (by omega)),show (n - 0).toNat=n.toNat by omega]
  rw[yBy (fun i=>valT t (p+i)) n.toNat 0 [] (by simp only[memMax,List.length_nil];omega) fun k s hk hs=>by
   unfold yDh;rw[yo (by omega) (by omega),yWd ht ⟨by omega,by omega⟩]
   simp only[Option.bind_some];rw[bifT (yC hs)]]
  rfl
 ·rw[if_neg h,bifT (by simpa using h)]
end Go.Tw
end
