import Derived.Test.YtpcnkpbpcebokaaGreatDoorBD
import Derived.KernelRfl
import Derived.Test.YtpcnkpbpcebokaaGreatDoorLQ
import Derived.Test.YtpcnkpbpcebokaaGreatDoorLR
set_option linter.all false
section
set_option maxRecDepth 1000000
namespace Go.Tw
open Go.Vx Go.Vx.B Go.Proofs
theorem yFd:yQe=some (true,()):=by kernel_rfl
end Go.Tw
end
section
set_option maxRecDepth 100000
namespace Go.Tw
open Go.Vx Go.Vx.B Go.Proofs
section
variable {α β γ σ:Type}
theorem y4w{body:Int→α→σ→Option (β⊕σ)}{fin:σ→Option β}{i:Int}{s:σ}:yR body fin i [] s=fin s:=rfl
theorem yk{body:Int→α→σ→Option (β⊕σ)}{fin:σ→Option β}{i:Int}{e:α}{l:List α}{s:σ}:yR body fin i (e::l) s=(body i e s).bind fun z=>match z with
  | .inl y=>some y
  | .inr s'=>yR body fin (i+1) l s':=rfl
theorem y1J{body:Int→α→Unit→Option (β⊕Unit)}{fin:Unit→Option β}(p:α→Option β) :
  ∀ (l:List α) (i:Int),(∀ i e,e∈l→body i e ()=some (match p e with|some y=>.inl y|none=>.inr ()))→yR body fin i l ()=match l.findSome? p with|some y=>some y|none=>fin ()
 | [],i,_=>rfl
 | e::l,i,h=>by
  rw[yk,h i e (by simp),List.findSome?_cons]
  cases p e with
  | none=>exact y1J p l (i+1) fun i e he=>h i e (by simp[he])
  | some y=>rfl
theorem y4p{body:Int→α→List γ→Option (β⊕List γ)}{fin:List γ→Option β}(f:α→γ) :
  ∀ (l:List α) (i:Int) (s:List γ),s.length+l.length≤memMax→(∀ i e s,e∈l→s.length+1≤memMax→body i e s=some (.inr (s++[f e])))→yR body fin i l s=fin (s++l.map f)
 | [],i,s,_,_=>by simp[y4w]
 | e::l,i,s,hl,h=>by
  simp only[List.length_cons]at hl;rw[yk,h i e s (by simp) (by omega)]
  simp only[Option.bind_some];rw[y4p f l (i+1) (s++[f e]) (by simp;omega) fun i e s he hs=>h i e s (by simp[he]) hs]
  simp
end
theorem y7{p:Prop}[Decidable p](h:p):decide p=true:=decide_eq_true h
theorem yG{p:Prop}[Decidable p](h:¬ p):decide p=false:=decide_eq_false h
theorem bifT{α:Type}{c:Bool}{a b:α}(h:c=true):(bif c then a else b)=a:=by rw[h];rfl
theorem bifF{α:Type}{c:Bool}{a b:α}(h:c=false):(bif c then a else b)=b:=by rw[h];rfl
theorem yBa:memMax < lenMax:=by decide
def ckR(n lo hi:Int):Int:=if n < lo∨hi < n then 3 else 0
def y07(l:List Int):Int:=(l.find? (· != 0)).getD 0
theorem y1x(n lo hi:Int):zd n lo hi=(ckR n lo hi,()):=by
 unfold zd ckR;by_cases h1:n < lo
 ·rw[bifT (y7 h1),if_pos (.inl h1)]
 ·rw[bifF (yG h1)];by_cases h2:n > hi
  ·rw[bifT (y7 h2),if_pos (.inr h2)]
  ·rw[bifF (yG h2),if_neg (by omega)]
theorem y3m(c:Bool)(e:Int):z1M c e=(bif c then e else 0,()):=by
 unfold z1M;cases c<;>rfl
theorem y7f(n lo hi:Int):z0p n lo hi=(ckR n lo hi,()):=by
 unfold z0p ckR;by_cases h1:n < lo
 ·rw[bifT (y7 h1),y3m,cond_true,if_pos (.inl h1)]
 ·rw[bifF (yG h1),y3m];by_cases h2:n > hi
  ·rw[y7 h2,cond_true,if_pos (.inr h2)]
  ·rw[yG h2,cond_false,if_neg (by omega)]
theorem y5a(l:List Int):l.findSome? (fun e=>if e != 0 then some (e,())else none)=(l.find? (· != 0)).map fun e=>(e,()):=by
 induction l with
 | nil=>rfl
 | cons e l ih =>
  rw[List.findSome?_cons,List.find?_cons];cases he:(e != 0)with
  | true=>rfl
  | false=>simpa using ih
theorem y28(l:List Int)(h:l.length < lenMax):y1y l=some (y07 l,()):=by
 unfold y1y;rw[bifT (y7 h),y1J (fun e=>if e != 0 then some (e,())else none) l 0 (fun i e _=>by
  unfold yF1;cases he:(e != 0)<;>rfl),y5a]
 unfold y07 yEW;cases l.find? (· != 0)<;>rfl
theorem y1c{α:Type}(l:List α)(i:Nat):idx l (i:Int)=l[i]?:=by
 unfold idx;rw[if_pos (Int.natCast_nonneg i)];rfl
theorem y4T{α β:Type}{body:Int→α→Unit→Option (β⊕Unit)}{fin:Unit→Option β}(xs:List α)(p:α→Option β) :
  ∀ (l done:List α),xs=done++l→(∀ (i:Nat) e,xs[i]?=some e→body (i:Int) e ()=some (match p e with|some y=>.inl y|none=>.inr ())) →
   yR body fin (done.length:Int) l ()=match l.findSome? p with|some y=>some y|none=>fin ()
 | [],done,_,_=>rfl
 | e::l,done,hx,h=>by
  rw[yk,h done.length e (by rw[hx];simp),List.findSome?_cons]
  cases p e with
  | none =>
   have:=y4T (body:=body) (fin:=fin) xs p l (done++[e]) (by rw[hx];simp) h
   simp only[List.length_append,List.length_cons,List.length_nil]at this;exact this
  | some y=>rfl
theorem y59(l:List Int)(h:l.length < lenMax):y7A l=some (y07 l,()):=by
 unfold y7A;have:=y4T (body:=fun i__ e__ s__=>yCA l i__ e__) (fin:=fun s__=>yCR l) l (fun e=>if e != 0 then some (e,())else none) l [] rfl (fun i e hi=>by
  unfold yCA;cases he:(e != 0)with
  | true=>rw[y1c,hi];rfl
  | false=>rfl)
 rw[bifT (y7 h)];refine this.trans ?_
 rw[y5a];unfold y07 yCR;cases l.find? (· != 0)<;>rfl
def y4g(c:Nat):Bool:=decide (65≤c∧c≤90∨97≤c∧c≤122)
def y7q(c:Nat):Bool:=decide (48≤c∧c≤57∨c=95)
def nmOk:Bool→List UInt8→Bool
 | _,[]=>true
 | first,c::l=>(y4g c.toNat || (!first && y7q c.toNat)) && nmOk false l
def isNm(s:List UInt8):Bool:=nmOk true s && decide (0 < s.length∧s.length≤24)
theorem y8o:∀ (s0 s:List UInt8) (i:Int),0≤i→yR (fun i__ e__ s__=>y9C s0 i__ e__) (fun s__=>yDu s0) i s ()=some (nmOk (decide (i=0)) s,())
  | s0,[],i,_=>rfl
  | s0,c::l,i,hi=>by
    rw[yk];have ih:=y8o s0 l (i+1) (by omega)
    have e0:decide (i+1=0)=false:=yG (by omega)
    rw[e0]at ih;unfold nmOk;have hb:y9C s0 i c=some (if (y4g c.toNat || (!decide (i=0) && y7q c.toNat))=true then .inr ()else .inl (false,())):=by
      unfold y9C y5c y4g y7q;have g3:(i == 0)=decide (i=0):=by by_cases h:i=0<;>simp[h]
      have g4:((c.toNat:Int) != 95)=!decide ((c.toNat:Int)=95):=by by_cases h:(c.toNat:Int)=95<;>simp[h]
      rw[g3,g4];by_cases h1:(97:Int)≤c.toNat<;>by_cases h2:(c.toNat:Int)≤122<;>by_cases h3:(65:Int)≤c.toNat<;>by_cases h4:(c.toNat:Int)≤90<;>by_cases h5:(c.toNat:Int) < 48<;>by_cases h6:(c.toNat:Int) > 57<;>by_cases h7:(c.toNat:Int)=95<;>by_cases h8:i=0 <;>
        first
        | omega
        | (have g1:(decide (65≤c.toNat∧c.toNat≤90∨97≤c.toNat∧c.toNat≤122))=decide ((65:Int)≤c.toNat∧(c.toNat:Int)≤90∨(97:Int)≤c.toNat∧(c.toNat:Int)≤122):=by
            apply decide_eq_decide.2;omega
           have g2:(decide (48≤c.toNat∧c.toNat≤57∨c.toNat=95))=decide (¬ (c.toNat:Int) < 48∧¬ (c.toNat:Int) > 57∨(c.toNat:Int)=95):=by
            apply decide_eq_decide.2;omega
           rw[g1,g2];simp[h1,h2,h3,h4,h5,h6,h7,h8])
    rw[hb];simp only[Option.bind_some];by_cases hc:(y4g c.toNat || (!decide (i=0) && y7q c.toNat))=true
    · rw[if_pos hc,hc,Bool.true_and];exact ih
    · rw[if_neg hc,Bool.eq_false_iff.2 hc];rfl
theorem yKh(s:List UInt8):yDd s=some (isNm s,()):=by
 unfold yDd isNm;by_cases h0:s.length=0
 ·have:((s.length:Int) == 0)=true:=by simp[h0]
  rw[bifT this,show decide (0 < s.length∧s.length≤24)=false from yG (by omega),Bool.and_false]
 ·have:((s.length:Int) == 0)=false:=by simpa using h0
  rw[bifF this];by_cases h1:24 < s.length
  ·rw[bifT (y7 (by omega)),show decide (0 < s.length∧s.length≤24)=false from yG (by omega),Bool.and_false]
  ·rw[bifF (yG (show ¬ ((s.length:Int) > 24) by omega)),bifT (y7 (show s.length < lenMax by unfold lenMax;omega)),y8o s s 0 (by omega),y7 rfl]
   rw[show decide (0 < s.length∧s.length≤24)=true from y7 ⟨by omega,by omega⟩,Bool.and_true]
theorem yNA{bs:List UInt8}{i:Nat}{c:UInt8}(h:bs[i]?=some c):(⟨bs.toArray⟩:ByteArray).get! i=c:=by
 show bs.toArray[i]! = c
 rw[getElem!_def];simp[h]
theorem yFp{bs:List UInt8}{i:Nat}{c:UInt8}(h:bs[i]?=some c)(hc:c.toNat < 128):yf bs (i:Int)=((c.toNat:Int),(i:Int)+1):=by
 unfold yf Utf8.decode;have h0:(⟨bs.toArray⟩:ByteArray).get! ((i:Int).toNat+0)=c:=by rw[Int.toNat_natCast,Nat.add_zero];exact yNA h
 simp only[h0];rw[if_pos hc];rfl
theorem yJn{bs:List UInt8}{i:Nat}{c:UInt8}(h:bs[i]?=some c)(hc:128≤c.toNat):128≤(yf bs (i:Int)).1:=by
 unfold yf Utf8.decode;have h0:(⟨bs.toArray⟩:ByteArray).get! ((i:Int).toNat+0)=c:=by rw[Int.toNat_natCast,Nat.add_zero];exact yNA h
 simp only[h0];rw[if_neg (by omega)]
 have he:Utf8.runeError=65533:=rfl;split
 ·split
  ·rename_i h2;show (128:Int)≤((_:Nat):Int);omega
  ·rw[he];decide
 ·split
  ·split
   ·rename_i h2;simp only[Bool.and_eq_true,decide_eq_true_eq]at h2;show (128:Int)≤((_:Nat):Int);omega
   ·rw[he];decide
  ·split
   ·split
    ·rename_i h2;simp only[Bool.and_eq_true,decide_eq_true_eq]at h2;show (128:Int)≤((_:Nat):Int);omega
    ·rw[he];decide
   ·rw[he];decide
def yAX(r:Int):Bool:=decide (65≤r∧r≤90∨97≤r∧r≤122)
def yF2(r:Int):Bool:=decide (48≤r∧r≤57∨r=95)
theorem yGy(s str:List UInt8)(pos:Int):y97 s str pos=some (if (yAX (yf str pos).1 || (!decide (pos=0) && yF2 (yf str pos).1))=true then .inr ()else .inl (false,())):=by
 unfold y97 y4Z y7r yAX yF2;generalize (yf str pos).1=r;have g3:(pos == 0)=decide (pos=0):=by by_cases h:pos=0<;>simp[h]
 have g4:(r == 95)=decide (r=95):=by by_cases h:r=95<;>simp[h]
 rw[g3,g4];by_cases h1:r ≥ 97<;>by_cases h2:r≤122<;>by_cases h3:r ≥ 65<;>by_cases h4:r≤90<;>by_cases h5:r ≥ 48<;>by_cases h6:r≤57<;>by_cases h7:r=95<;>by_cases h8:pos=0 <;>
  first
  | omega
  | simp[h1,h2,h3,h4,h5,h6,h7,h8]
theorem y9F(s:List UInt8):∀ (m i:Nat),s.length≤i+m→i≤s.length →
  y8N s (fun i__ s__=>y97 s s i__) (fun s__=>y9A s s) m (i:Int) ()=bif nmOk (decide (i=0)) (s.drop i)then y9A s s else some (false,())
 | m,i,hm,hi=>by
  by_cases hl:i=s.length
  ·have e1:s.drop i=[]:=List.drop_eq_nil_of_le (by omega)
   have e2:decide ((i:Int) < (s.length:Int))=false:=yG (by omega)
   rw[e1];cases m<;>(unfold y8N;rw[bifF e2];rfl)
  ·have hlt:i < s.length:=by omega
   obtain ⟨m,rfl⟩:∃ k,m=k+1:=⟨m - 1,by omega⟩
   have hd:s.drop i=s[i]::s.drop (i+1):=(List.getElem_cons_drop (h:=hlt)).symm;have hg:s[i]?=some s[i]:=List.getElem?_eq_getElem hlt;have e0:decide ((i:Int)=0)=decide (i=0):=decide_eq_decide.2 (by omega)
   unfold y8N;rw[bifT (y7 (show (i:Int) < (s.length:Int) by omega)),yGy,hd,e0]
   simp only[Option.bind_some];by_cases hc:s[i].toNat < 128
   ·rw[yFp hg hc];have e1:yAX (s[i].toNat:Int)=y4g s[i].toNat:=decide_eq_decide.2 (by omega)
    have e2:yF2 (s[i].toNat:Int)=y7q s[i].toNat:=decide_eq_decide.2 (by omega)
    simp only[e1,e2,nmOk];by_cases hb:(y4g s[i].toNat || (!decide (i=0) && y7q s[i].toNat))=true
    ·rw[if_pos hb,hb,Bool.true_and];have ih:=y9F s m (i+1) (by omega) (by omega)
     have e3:decide (i+1=0)=false:=yG (by omega)
     rw[e3,show ((i+1:Nat):Int)=(i:Int)+1 by omega]at ih
     exact ih
    ·rw[if_neg hb,Bool.eq_false_iff.2 hb,Bool.false_and];rfl
   ·have h1:=yJn hg (by omega)
    have e1:yAX (yf s (i:Int)).1=false:=yG (by omega)
    have e2:yF2 (yf s (i:Int)).1=false:=yG (by omega)
    have e3:y4g s[i].toNat=false:=yG (by omega)
    have e4:y7q s[i].toNat=false:=yG (by omega)
    simp[e1,e2,nmOk,e3,e4]
theorem yDv(s:List UInt8)(h:s.length < lenMax):yAy s=some (isNm s,()):=by
 unfold yAy;have:=y9F s s.length 0 (by omega) (by omega)
 rw[List.drop_zero,show decide (0=0)=true from rfl]at this
 rw[bifT (y7 h)];refine (show _=_ from this).trans ?_
 unfold isNm y9A;cases hn:nmOk true s with
 | false=>rfl
 | true =>
  rw[cond_true,Bool.true_and];cases s with
  | nil=>rfl
  | cons c l =>
   have e:decide (((c::l).length:Int)≤24)=decide (0 < (c::l).length∧(c::l).length≤24):=decide_eq_decide.2 (by simp only[List.length_cons];omega)
   rw[← e];rfl
def yL(a b:Int):Int:=if a != 0 then a else b
theorem y1L:y07 []=0:=rfl
theorem yT(a:Int)(l:List Int):y07 (a::l)=yL a (y07 l):=by
 unfold y07 yL;rw[List.find?_cons];cases h:(a != 0)<;>rfl
theorem y0T(a:Int):yL a 0=a:=by
 unfold yL;by_cases h:a=0<;>simp[h]
end Go.Tw
end
section
set_option maxRecDepth 100000
namespace Go.Tw
open Go.Vx Go.Vx.B Go.Proofs
abbrev Con:=List UInt8×Int×Int×Unit
abbrev Gau:=Int×Int×Unit
abbrev Tid:=List Con×List Gau×Int×Unit
def y9x(c:Con):Int:=y07 [bif isNm c.1 then 0 else 8,ckR c.2.1 1 96,ckR c.2.2.1 0 3]
def conE(done:List Con)(c:Con):Int:=yL (y9x c) (bif done.any (fun d=>d.1 == c.1)then 9 else 0)
def yDn:List Con→List Con→Int
 | _,[]=>0
 | done,n::l=>yL (conE done n) (yDn (done++[n]) l)
def y4N(l:List Con):Int:=if l.length=0 then 12 else if 4 < l.length then 5 else yDn [] l
theorem y5V(a b:Int):[a,b].length < lenMax:=by simp[lenMax]
theorem yFL(a b c:Int):[a,b,c].length < lenMax:=by simp[lenMax]
theorem yVR(a b c d:Int):[a,b,c,d].length < lenMax:=by simp[lenMax]
theorem yAp(s:List UInt8):zm_M s=some (bif isNm s then 0 else 8,()):=by
 unfold zm_M zm_m;rw[yKh];cases isNm s<;>rfl
theorem y96(l:List Con)(i:Nat)(n:Con)(hn:l[i]?=some n){fin:Unit→Option ((Int×Unit)⊕Unit)}:∀ (m k:Nat),k+m=i →
  y1k (fun i__ s__=>yFV l (i:Int) i__) fin m (k:Int) ()=if ((l.drop k).take m).any (fun d=>d.1 == n.1)=true then some (.inl (9,()))else fin ()
 | 0,k,_=>by simp[y1k]
 | m+1,k,hk=>by
  have hi:i < l.length:=(List.getElem?_eq_some_iff.1 hn).1;have hkl:k < l.length:=by omega
  unfold y1k;have hb:yFV l (i:Int) (k:Int)=some (if (l[k].1 == n.1)=true then .inl (.inl (9,()))else .inr ()):=by
   unfold yFV;rw[y1c,y1c,hn,List.getElem?_eq_getElem hkl];simp only[Option.bind_some];cases (l[k].1 == n.1)<;>rfl
  rw[hb];simp only[Option.bind_some];have hd:(l.drop k).take (m+1)=l[k]::(l.drop (k+1)).take m:=by
   rw[← List.getElem_cons_drop (h:=hkl),List.take_succ_cons]
  rw[hd,List.any_cons];cases h:(l[k].1 == n.1)with
  | true=>rfl
  | false =>
   rw[if_neg (by simp),Bool.false_or]
   have ih:=y96 l i n hn (fin:=fin) m (k+1) (by omega)
   rw[show ((k+1:Nat):Int)=(k:Int)+1 by omega]at ih
   exact ih
theorem yFl(l:List Con)(hl:l.length≤4)(i:Nat)(n:Con)(hn:l[i]?=some n) :
  yGE l (i:Int) n=some (bif conE (l.take i) n != 0 then .inl (conE (l.take i) n,())else .inr ()):=by
 have hi:i < l.length:=(List.getElem?_eq_some_iff.1 hn).1;unfold yGE;rw[yAp,y1c,hn];simp only[Option.bind_some,y1x];rw[y59 _ (yFL _ _ _)];simp only[Option.bind_some];show (bif (y9x n != 0)then some (Sum.inl (y9x n,()))else _)=_
 unfold conE yL;cases hs:(y9x n != 0)with
 | true=>simp only[cond_true,if_true,hs]
 | false =>
  simp only[cond_false,Bool.false_eq_true,if_false];rw[bifT (y7 (show (i:Int)≤9223372036854775807 by omega))]
  have e1:((i:Int) - 0).toNat=i:=by omega
  rw[e1];have:=y96 l i n hn (fin:=fun s__=>yJw l (i:Int)) i 0 (by omega)
  rw[show ((0:Nat):Int)=0 from rfl]at this
  rw[this,List.drop_zero];cases hany:(l.take i).any (fun d=>d.1 == n.1)with
  | true=>rw[if_pos rfl];rfl
  | false=>rw[if_neg (by simp)];rfl
theorem y9N(xs:List Con)(hl:xs.length≤4):∀ (l done:List Con),xs=done++l →
  yR (fun i__ e__ s__=>yGE xs i__ e__) (fun s__=>yKi xs) (done.length:Int) l ()=some (yDn done l,())
 | [],done,_=>rfl
 | n::l,done,hx=>by
  have hn:xs[done.length]?=some n:=by rw[hx];simp
  rw[yk,yFl xs hl done.length n hn];have ht:xs.take done.length=done:=by rw[hx];simp
  rw[ht];simp only[Option.bind_some,yDn,yL];cases h:(conE done n != 0)with
  | true=>rfl
  | false =>
   have ih:=y9N xs hl l (done++[n]) (by rw[hx];simp)
   simp only[List.length_append,List.length_cons,List.length_nil]at ih;exact ih
theorem yLy(l:List Con):zJ_M l=some (y4N l,()):=by
 unfold zJ_M y4N;by_cases h0:l.length=0
 ·rw[bifT (show ((l.length:Int) == 0)=true by simp[h0]),if_pos h0]
 ·rw[bifF (show ((l.length:Int) == 0)=false by simpa using h0),if_neg h0]
  by_cases h8:4 < l.length
  ·rw[bifT (y7 (show (l.length:Int) > 4 by omega)),if_pos h8]
  ·rw[bifF (yG (show ¬ (l.length:Int) > 4 by omega)),if_neg h8,bifT (y7 (show l.length < lenMax by unfold lenMax;omega))]
   exact y9N l (by omega) l [] rfl
def yKN(m:List (List UInt8×Bool))(done:List Con):Prop:=∀ k,(y0B .str .bool m k).getD false=done.any fun d=>d.1 == k
theorem yGJ(m:List (List UInt8×Bool))(k k':List UInt8):(y0B .str .bool (y0S .str .bool m k true) k').getD false=((k == k') || (y0B .str .bool m k').getD false):=by
 induction m with
 | nil =>
  show (y0B .str .bool [(k,true)] k').getD false=_
  simp only[y0B,eqV];by_cases h:k'=k
  ·subst h;simp
  ·have h1:(k' == k)=false:=beq_eq_false_iff_ne.2 h;have h2:(k == k')=false:=beq_eq_false_iff_ne.2 (Ne.symm h);show (bif (k' == k)then some true else none).getD false=_
   rw[h1,h2];rfl
 | cons p m ih =>
  show (y0B .str .bool (bif (k == p.1)then (k,true)::m else p::y0S .str .bool m k true) k').getD false=_
  by_cases h:k=p.1
  ·have h1:(k == p.1)=true:=by simp[h]
   rw[h1,cond_true];show (bif (k' == k)then some true else y0B .str .bool m k').getD false=((k == k') || (bif (k' == p.1)then some p.2 else y0B .str .bool m k').getD false)
   by_cases h2:k'=k
   ·have e1:(k' == k)=true:=by simp[h2]
    have e2:(k == k')=true:=by simp[h2]
    rw[e1,e2];rfl
   ·have e1:(k' == k)=false:=beq_eq_false_iff_ne.2 h2;have e2:(k == k')=false:=beq_eq_false_iff_ne.2 (Ne.symm h2);have e3:(k' == p.1)=false:=by rw[← h];exact e1
    rw[e1,e2,e3];rfl
  ·have h1:(k == p.1)=false:=beq_eq_false_iff_ne.2 h;rw[h1,cond_false];show (bif (k' == p.1)then some p.2 else y0B .str .bool (y0S .str .bool m k true) k').getD false=((k == k') || (bif (k' == p.1)then some p.2 else y0B .str .bool m k').getD false)
   by_cases h2:k'=p.1
   ·have e1:(k' == p.1)=true:=by simp[h2]
    have e2:(k == k')=false:=by rw[h2];exact h1
    rw[e1,e2];rfl
   ·have e1:(k' == p.1)=false:=beq_eq_false_iff_ne.2 h2;rw[e1];exact ih
theorem yKN.put{m:List (List UInt8×Bool)}{done:List Con}(h:yKN m done)(n:Con):yKN (y0S .str .bool m n.1 true) (done++[n]):=by
 intro k;rw[yGJ,h k,List.any_append];simp[Bool.or_comm]
theorem yHY(c:Con)(h:c.1.length < lenMax):zM_M c=some (y9x c,()):=by
 unfold zM_M zM_m;rw[yDv c.1 h];simp only[Option.bind_some,y3m,y7f];rw[y28 _ (yFL _ _ _)];unfold y9x;cases isNm c.1<;>rfl
theorem y9D(xs:List Con):∀ (l done:List Con) (i:Int) (m:List (List UInt8×Bool)),(∀ n∈l,n.1.length < lenMax)→yKN m done →
  yR (fun i__ e__ s__=>yGl xs i__ e__ s__) (fun s__=>yKI xs s__) i l m=some (yDn done l,())
 | [],done,i,m,_,_=>rfl
 | n::l,done,i,m,hl,hk=>by
  have hb:yGl xs i n m=some (bif conE done n != 0 then .inl (conE done n,())else .inr (y0S .str .bool m n.1 true)):=by
   unfold yGl;rw[yHY _ (hl n (by simp))]
   simp only[Option.bind_some,y3m,hk n.1];rw[y28 _ (y5V _ _)];have e:y07 [y9x (n.fst,n.snd.fst,n.snd.snd.fst,()),bif done.any (fun d=>d.1 == n.1)then 9 else 0]=conE done n:=by
    rw[yT,yT,y1L,y0T];rfl
   simp only[Option.bind_some,e];cases (conE done n != 0)<;>rfl
  rw[yk,hb];simp only[Option.bind_some,yDn,yL];cases h:(conE done n != 0)with
  | true=>rfl
  | false =>
   simp only[cond_false,Bool.false_eq_true,if_false];exact y9D xs l (done++[n]) (i+1) _ (fun x hx=>hl x (by simp[hx])) (hk.put n)
theorem yMD(l:List Con)(hn:∀ n∈l,n.1.length < lenMax)(hl:l.length < lenMax):zL_M l=some (y4N l,()):=by
 unfold zL_M y4N;simp only[y3m];rw[y28 _ (y5V _ _)];simp only[Option.bind_some];by_cases h0:l.length=0
 ·rw[show ((l.length:Int) == 0)=true by simp[h0],if_pos h0]
  rfl
 ·rw[show ((l.length:Int) == 0)=false by simpa using h0,if_neg h0]
  by_cases h8:4 < l.length
  ·rw[y7 (show (l.length:Int) > 4 by omega),if_pos h8]
   rfl
  ·rw[yG (show ¬ (l.length:Int) > 4 by omega),if_neg h8]
   rw[bifF (by rfl),bifT (y7 hl)]
   exact y9D l l [] 0 [] hn (fun k=>rfl)
end Go.Tw
end
section
set_option maxRecDepth 100000
namespace Go.Tw
open Go.Vx Go.Vx.B Go.Proofs
theorem y5T{i:Int}(h0:-9223372036854775808≤i)(h1:i≤9223372036854775807):IntKind.i64.wrap i=i:=by
 rw[IntKind.wrap_i64];omega
def gI(a b:Int):Int:=(Nat.gcd a.natAbs b.natAbs:Nat)
theorem y9m{β:Type}(K:Int→β)(body:Int×Int→Option (β⊕(Int×Int)))
  (hb:∀ a b:Int,body (a,b)=if b=0 then some (.inl (K a))else some (.inr (b,a.tmod b))) :
  ∀ (k m:Nat) (a b:Nat),b < 2 ^ k→2 * k+1≤m→y1q body m ((a:Int),(b:Int))=some (K (Nat.gcd a b:Nat))
 | k,0,a,b,_,hm=>by omega
 | k,m+1,a,b,hk,hm=>by
  unfold y1q;rw[hb];by_cases h0:b=0
  ·subst h0;rw[if_pos (by rfl),Nat.gcd_zero_right]
   rfl
  ·rw[if_neg (by omega)]
   simp only[Option.bind_some];have e1:(a:Int).tmod (b:Int)=((a % b:Nat):Int):=by rw[Int.ofNat_tmod]
   rw[e1];have hr:a % b < b:=Nat.mod_lt _ (by omega)
   have hg:Nat.gcd a b=Nat.gcd b (a % b):=by rw[Nat.gcd_comm a b,Nat.gcd_rec b a,Nat.gcd_comm]
   have hk1:1≤k:=by
    rcases Nat.eq_zero_or_pos k with h|h
    ·subst h;simp at hk;omega
    ·exact h
   match m,hm with
   | 0,hm=>omega
   | m+1,hm =>
    unfold y1q;rw[hb];by_cases h1:a % b=0
    ·rw[if_pos (by omega),hg,h1,Nat.gcd_zero_right]
     rfl
    ·rw[if_neg (by omega)]
     simp only[Option.bind_some];generalize hr2:a % b=r at *;have e2:(b:Int).tmod ((r:Nat):Int)=((b % r:Nat):Int):=(Int.ofNat_tmod b r).symm;rw[e2];have hlt:b % r < 2 ^ (k - 1):=by
      have h3:2 * (b % r) < b:=by
       have h4:b % r < r:=Nat.mod_lt _ (by omega)
       have h5:b % r+r≤b:=by
        have h6:=Nat.div_add_mod b r;have h7:1≤b / r:=Nat.div_pos (by omega) (by omega)
        have h8:r * 1≤r * (b / r):=Nat.mul_le_mul_left _ h7;omega
       omega
      have h9:2 ^ k=2 * 2 ^ (k - 1):=by
       rw[← Nat.pow_succ'];congr 1
       omega
      omega
     rw[y9m K body hb (k - 1) m r (b % r) hlt (by omega),hg,Nat.gcd_comm b,Nat.gcd_rec r b,Nat.gcd_comm]
theorem yHu(n:Int)(h0:-9223372036854775807≤n)(h1:n≤9223372036854775807):(z0E n).1=(n.natAbs:Int):=by
 unfold z0E;simp only[if_true];rw[y5T (by omega) (by omega)]
 split<;>omega
theorem yJB(n:Int)(h0:-9223372036854775807≤n)(h1:n≤9223372036854775807):(if IntKind.i64.wrap (0 - n) > n then IntKind.i64.wrap (0 - n)else n)=(n.natAbs:Int):=by
 rw[y5T (by omega) (by omega)]
 split<;>omega
theorem yUI{n:Int}(h0:-9223372036854775807≤n)(h1:n≤9223372036854775807):n.natAbs < 2 ^ 63:=by
 have:(2:Nat) ^ 63=9223372036854775808:=by decide
 omega
theorem yHk(a:Nat)(n:Int)(h0:-9223372036854775807≤n)(h1:n≤9223372036854775807):y8D (a:Int) (n.natAbs:Int)=some (gI a n,()):=by
 unfold y8D;have:=y9m (fun x=>(x,())) (fun s__=>yBn s__.1 s__.2) (fun a b=>by
  unfold yBn;by_cases h:b=0
  ·subst h;rfl
  ·have e:(b != 0)=true:=by simp[h]
   have e2:(b == 0)=false:=by simp[h]
   simp only[e,e2,cond_true,cond_false,if_neg h]) 63 wMax a n.natAbs (yUI h0 h1) (by unfold wMax;omega)
 rw[this];rfl
theorem yBp(l:List Int)(i:Int)(n:Int)(a:Nat)(h0:-9223372036854775807≤n)(h1:n≤9223372036854775807):y92 l i n (a:Int)=some (.inr (gI a n)):=by
 unfold y92;rw[yHu n h0 h1];have:=y9m (fun x=>(Sum.inr x:(Int×Unit)⊕Int)) (fun s__=>y83 l ((l.length:Int)) i s__.1 s__.2) (fun a b=>by
  unfold y83;by_cases h:b=0
  ·subst h;rfl
  ·have e:(b != 0)=true:=by simp[h]
   have e2:(b == 0)=false:=by simp[h]
   simp only[e,e2,cond_true,cond_false,if_neg h]) 63 wMax a n.natAbs (yUI h0 h1) (by unfold wMax;omega)
 rw[this];rfl
theorem yEg(a b:Int):∃ n:Nat,gI a b=(n:Int):=⟨_,rfl⟩
theorem yMV(a:Nat)(x y:Int)(h0:-9223372036854775807≤x)(h1:x≤9223372036854775807)(h2:-9223372036854775807≤y)(h3:y≤9223372036854775807):y7g (a:Int) [x,y]=some (gI (gI a x) y,()):=by
 unfold y7g;rw[bifT (y7 (by simp[lenMax])),yk,yBp _ _ _ _ h0 h1]
 simp only[Option.bind_some];obtain ⟨n,hn⟩:=yEg a x;rw[hn,yk,yBp _ _ _ _ h2 h3];rfl
def comG:List Gau→Int→Int
 | [],d=>d
 | z::l,d=>comG l (gI (gI d z.1) z.2.1)
def fits(z:Gau):Prop:=(-9223372036854775807≤z.1∧z.1≤9223372036854775807)∧(-9223372036854775807≤z.2.1∧z.2.1≤9223372036854775807)
theorem yBj(xs:List Gau):∀ (l:List Gau) (i:Int) (d:Nat),(∀ z∈l,fits z)→yR (fun i__ e__ s__=>yBU xs i__ e__ s__) (fun s__=>yF6 xs s__) i l (d:Int)=some (comG l d,())
 | [],i,d,_=>rfl
 | z::l,i,d,h=>by
  have hz:=h z (by simp)
  rw[yk];unfold yBU;rw[yMV d _ _ hz.1.1 hz.1.2 hz.2.1 hz.2.2];simp only[Option.bind_some,comG];obtain ⟨n,hn⟩:=yEg (gI d z.1) z.2.1;rw[hn];exact yBj xs l (i+1) n fun z hz=>h z (by simp[hz])
theorem yQ6(l:List Gau)(d:Nat)(h:∀ z∈l,fits z)(hl:l.length < lenMax):yCP l (d:Int)=some (comG l d,()):=by
 unfold yCP;rw[bifT (y7 hl)];exact yBj l l 0 d h
theorem yBx(xs:List Gau):∀ (l done:List Gau) (d:Nat),xs=done++l→(∀ z∈l,fits z)→yR (fun i__ e__ s__=>y9J xs i__ e__ s__) (fun s__=>yEp xs s__) (done.length:Int) l (d:Int)=some (comG l d,())
 | [],_,d,_,_=>rfl
 | z::l,done,d,hx,h=>by
  have hz:=h z (by simp)
  have hn:xs[done.length]?=some z:=by rw[hx];simp
  rw[yk];have hb:y9J xs (done.length:Int) z (d:Int)=some (.inr (gI (gI d z.1) z.2.1)):=by
   unfold y9J;rw[y1c,hn];simp only[Option.bind_some,if_true];rw[yJB _ hz.1.1 hz.1.2,yHk d _ hz.1.1 hz.1.2];simp only[Option.bind_some];rw[yJB _ hz.2.1 hz.2.2];obtain ⟨n,hn⟩:=yEg d z.1;rw[hn,yHk n _ hz.2.1 hz.2.2];rfl
  rw[hb];simp only[Option.bind_some,comG];obtain ⟨n,hn2⟩:=yEg (gI d z.1) z.2.1;rw[hn2];have ih:=yBx xs l (done++[z]) n (by rw[hx];simp) fun z hz=>h z (by simp[hz])
  simp only[List.length_append,List.length_cons,List.length_nil]at ih;exact ih
theorem yPp(l:List Gau)(d:Nat)(h:∀ z∈l,fits z)(hl:l.length < lenMax):yBo l (d:Int)=some (comG l d,()):=by
 unfold yBo;rw[bifT (y7 hl)];exact yBx l l [] d rfl h
def y0y(z:Gau):Int:=y07 [ckR z.1 (-8796093022208) 8796093022208,ckR z.2.1 (-8796093022208) 8796093022208]
theorem y2G{l:List Int}(h:y07 l=0):∀ e∈l,e=0:=by
 induction l with
 | nil=>intro e he;cases he
 | cons a l ih =>
  rw[yT]at h;unfold yL at h;by_cases ha:a=0
  ·subst ha;simp only[bne_self_eq_false,Bool.false_eq_true,if_false]at h;intro e he;rcases List.mem_cons.1 he with rfl|he
   ·rfl
   ·exact ih h e he
  ·have:(a != 0)=true:=by simp[ha]
   rw[this,if_pos rfl]at h;exact absurd h ha
theorem y2O{n lo hi:Int}(h:ckR n lo hi=0):lo≤n∧n≤hi:=by
 unfold ckR at h;split at h
 ·cases h
 ·omega
theorem yCr{z:Gau}(h:y0y z=0):(-8796093022208≤z.1∧z.1≤8796093022208)∧(-8796093022208≤z.2.1∧z.2.1≤8796093022208):=by
 have h1:=y2G h;exact ⟨y2O (h1 _ (by simp)),y2O (h1 _ (by simp))⟩
theorem y4e{z:Gau}(h:y0y z=0):fits z:=by
 have:=yCr h;unfold fits;omega
theorem yLt(z:Gau):yCj z=some (y0y z,()):=by
 unfold yCj yLl;simp only[y7f];rw[y28 _ (y5V _ _)];rfl
theorem yLd(z:Gau):zp_M z=some (y0y z,()):=by
 unfold zp_M zp_m;simp only[y1x];rw[y59 _ (y5V _ _)];rfl
theorem y0m{n:Nat}(h:n≤memMax):n < lenMax:=Nat.lt_of_le_of_lt h yBa
theorem yIt(l:List Gau)(hl:l.length≤memMax):zF_M l (fun x=>yCj x.1)=some (l.map y0y,()):=by
 unfold zF_M;rw[bifT (y7 (y0m hl))];rw[y4p y0y l 0 [] (by simpa using hl) fun i e s _ hs=>by
  unfold yLL;show (Option.bind (yCj e) _)=_
  rw[yLt];simp only[Option.bind_some];rw[bifT (y7 hs)]]
 rfl
def y2e(t:Tid):Int :=
 yL (y4N t.1) (yL (if t.2.1.length=t.1.length then 0 else 2) (yL (ckR t.2.2.1 1 268435456) (yL (y07 (t.2.1.map y0y)) (if comG t.2.1 t.2.2.1=1 then 0 else 1))))
theorem yQ{a b:Int}(h:a≠0):yL a b=a:=by unfold yL;rw[if_pos (by simpa using h)]
theorem yb(b:Int):yL 0 b=b:=by unfold yL;rw[if_neg (by simp)]
theorem yy(a b c:Int):yL (yL a b) c=yL a (yL b c):=by
 by_cases h:a=0
 ·subst h;simp only[yb]
 ·rw[yQ h,yQ h,yQ h]
theorem y5Z{l:List Gau}(h:y07 (l.map y0y)=0):∀ z∈l,y0y z=0:=fun z hz=>y2G h _ (List.mem_map.2 ⟨z,hz,rfl⟩)
theorem yWt(t:Tid)(hn:∀ n∈t.1,n.1.length < lenMax)(hl:t.1.length < lenMax)(ha:t.2.1.length≤memMax):y8C t=some (y2e t,()):=by
 unfold y8C yMC;rw[yMD _ hn hl,yIt _ ha];simp only[Option.bind_some];rw[y28 _ (by rw[List.length_map];exact y0m ha)]
 simp only[Option.bind_some,y3m,y7f];rw[y28 _ (yVR _ _ _ _)];simp only[Option.bind_some];have e:(bif ((t.2.1.length:Int) != (t.1.length:Int))then (2:Int)else 0)=if t.2.1.length=t.1.length then 0 else 2:=by
  by_cases h:t.2.1.length=t.1.length
  ·rw[if_pos h,h];simp
  ·rw[if_neg h];have:((t.2.1.length:Int) != (t.1.length:Int))=true:=by simpa using fun hh=>h (by omega)
   rw[this];rfl
 rw[e,yT,yT,yT,yT,y1L,y0T];unfold y2e;rw[← yy,← yy,← yy,← yy,← yy];generalize hq:yL (yL (yL (y4N t.1) (if t.2.1.length=t.1.length then 0 else 2)) (ckR t.2.2.1 1 268435456)) (y07 (t.2.1.map y0y))=q
 by_cases h0:q=0
 ·subst h0;have hp:y07 (t.2.1.map y0y)=0∧ckR t.2.2.1 1 268435456=0:=by
   rw[yy,yy]at hq;by_cases h1:y4N t.1=0
   ·rw[h1,yb]at hq;by_cases h2:t.2.1.length=t.1.length
    ·rw[if_pos h2,yb]at hq;by_cases h3:ckR t.2.2.1 1 268435456=0
     ·rw[h3,yb]at hq;exact ⟨hq,h3⟩
     ·rw[yQ h3]at hq;exact absurd hq h3
    ·rw[if_neg h2,yQ (by decide)]at hq;cases hq
   ·rw[yQ h1]at hq;exact absurd hq h1
  have hd:=y2O hp.2;obtain ⟨d,hd2⟩:∃ d:Nat,t.2.2.1=(d:Int):=⟨t.2.2.1.toNat,by omega⟩
  rw[bifF (by rfl),yb,hd2,yQ6 _ d (fun z hz=>y4e (y5Z hp.1 z hz)) (y0m ha)]
  simp only[Option.bind_some];by_cases hc:comG t.2.1 (d:Int)=1
  ·rw[if_pos hc,hc];rfl
  ·rw[if_neg hc];have:(comG t.2.1 (d:Int) != 1)=true:=by simpa using hc
   rw[this];rfl
 ·rw[bifT (by simpa using h0),yQ h0]
theorem yDj(t:Tid)(l:List Gau)(i:Int):yR (fun i__ e__ s__=>yH5 t i__ e__) (fun s__=>yGk t) i l ()=if y07 (l.map y0y)=0 then yGk t else some (y07 (l.map y0y),()):=by
 rw[y1J (fun z=>if y0y z != 0 then some (y0y z,())else none) l i fun i z _=>by
  unfold yH5;rw[yLd];simp only[Option.bind_some];cases h:(y0y z != 0)<;>rfl]
 induction l with
 | nil=>rfl
 | cons z l ih =>
  rw[List.findSome?_cons,List.map_cons,yT];by_cases h:y0y z=0
  ·have e:(y0y z != 0)=false:=by simp[h]
   rw[e,if_neg (by simp),h,yb]
   exact ih
  ·have e:(y0y z != 0)=true:=by simp[h]
   rw[e,if_pos rfl,yQ h,if_neg h]
theorem yWh(t:Tid)(ha:t.2.1.length≤memMax):zq_M t=some (y2e t,()):=by
 unfold zq_M y2e;rw[yLy];simp only[Option.bind_some,y1x];by_cases h1:y4N t.1=0
 ·rw[h1,bifF (by rfl),yb]
  by_cases h2:t.2.1.length=t.1.length
  ·rw[if_pos h2,yb,bifF (by rw[h2];simp)]
   by_cases h3:ckR t.2.2.1 1 268435456=0
   ·rw[h3,bifF (by rfl),yb,bifT (y7 (y0m ha)),yDj]
    by_cases h4:y07 (t.2.1.map y0y)=0
    ·rw[if_pos h4,h4,yb];have hd:=y2O h3;obtain ⟨d,hd2⟩:∃ d:Nat,t.2.2.1=(d:Int):=⟨t.2.2.1.toNat,by omega⟩
     unfold yGk;rw[hd2,yPp _ d (fun z hz=>y4e (y5Z h4 z hz)) (y0m ha)]
     simp only[Option.bind_some];by_cases hc:comG t.2.1 (d:Int)=1
     ·rw[if_pos hc,hc];rfl
     ·rw[if_neg hc];have:(comG t.2.1 (d:Int) != 1)=true:=by simpa using hc
      rw[this];rfl
    ·rw[if_neg h4,yQ h4]
   ·rw[bifT (by simpa using h3),yQ h3]
  ·rw[if_neg h2,yQ (by decide),bifT (by simpa using fun hh=>h2 (by omega))]
 ·rw[bifT (by simpa using h1),yQ h1]
end Go.Tw
end
section
set_option maxRecDepth 100000
namespace Go.Tw
open Go.Vx Go.Vx.B Go.Proofs
theorem y8l{β σ:Type}{body:Int→σ→Option (β⊕σ)}{fin:σ→Option β}{m:Nat}{i:Int}{s:σ}:y1k body fin (m+1) i s=(body i s).bind fun z=>match z with
  | .inl y=>some y
  | .inr s'=>y1k body fin m (i+1) s':=rfl
def yN3(n:Int):Gau:=if n=0 then (1,0,())else if n=1 then (0,1,())else if n=2 then (-1,0,())else (0,-1,())
def chr(c:Con)(tick:Int):Gau:=yN3 (c.2.2.1 * (tick / c.2.1) % 4)
def y8R(c:Con):Prop:=(1≤c.2.1∧c.2.1≤96)∧(0≤c.2.2.1∧c.2.2.1≤3)
def y5L(t:Int):Prop:=0≤t∧t≤200000
theorem yEN{c:Con}{t:Int}(hc:y8R c)(ht:y5L t):IntKind.i64.wrap (c.2.2.1 * IntKind.i64.wrap (t.tdiv c.2.1))=c.2.2.1 * (t / c.2.1)∧0≤c.2.2.1 * (t / c.2.1)∧c.2.2.1 * (t / c.2.1)≤600000:=by
 obtain ⟨⟨h1,h2⟩,h3,h4⟩:=hc;obtain ⟨h5,h6⟩:=ht;have e1:t.tdiv c.2.1=t / c.2.1:=Int.tdiv_eq_ediv_of_nonneg h5;have h7:0≤t / c.2.1:=Int.ediv_nonneg h5 (by omega)
 have h8:t / c.2.1≤t:=Int.ediv_le_self _ h5;generalize t / c.2.1=q at e1 h7 h8;have h9:0≤c.2.2.1 * q:=Int.mul_nonneg h3 h7;have h10:c.2.2.1 * q≤3 * q:=Int.mul_le_mul_of_nonneg_right h4 h7;rw[e1,y5T (i:=q) (by omega) (by omega),y5T (by omega) (by omega)]
 exact ⟨rfl,h9,by omega⟩
theorem mod4(k:Int):k % 4=0∨k % 4=1∨k % 4=2∨k % 4=3:=by omega
theorem yd9{c:Con}{t:Int}(hc:y8R c)(ht:y5L t):zS_M c t=some (chr c t,()):=by
 unfold zS_M zS_m chr;obtain ⟨h1,h2,h3⟩:=yEN hc ht;have hl:(c.2.1 == 0)=false:=by have:=hc.1.1;simp;omega
 rw[bifF hl];rw[h1];generalize c.2.2.1 * (t / c.2.1)=k at h2 h3;have e:k.tmod 4=k % 4:=Int.tmod_eq_emod_of_nonneg h2;rw[e];rcases mod4 k with h|h|h|h<;>rw[h]<;>rfl
theorem yPg(k:Int)(h2:0≤k)(h3:k≤600000):yDD (1,0,()) k=some (yN3 (k % 4),()):=by
 unfold yDD;have e:k.tmod 4=k % 4:=Int.tmod_eq_emod_of_nonneg h2;rw[e];rcases mod4 k with h|h|h|h<;>rw[h]<;>rfl
theorem yKq{c:Con}{t:Int}(hc:y8R c)(ht:y5L t):zo_M c t=some (chr c t,()):=by
 unfold zo_M zo_m chr;obtain ⟨h1,h2,h3⟩:=yEN hc ht;have hl:(c.2.1 == 0)=false:=by have:=hc.1.1;simp;omega
 rw[bifF hl,h1,yPg _ h2 h3];rfl
noncomputable def sumV:List Con→List Gau→Int→Gau→Gau
 | c::l,z::v,t,acc=>sumV l v t (z1L acc (z1C z (chr c t)).1).1
 | _,_,_,acc=>acc
theorem yC3(v:List Gau)(t:Int)(xs:List Con)(ht:y5L t):∀ (l:List Con) (d:Nat) (x y:Int),l.length+d=v.length→(∀ c∈l,y8R c) →
  yR (fun i__ e__ s__=>y8t v t xs 0 0 i__ e__ s__.1 s__.2) (fun s__=>yEd v t xs 0 0 s__.1 s__.2) (d:Int) l (x,y)=some (sumV l (v.drop d) t (x,y,()),())
 | [],d,x,y,hl,_=>by
  have:v.drop d=[]:=List.drop_eq_nil_of_le (by simp at hl;omega)
  rw[this];rfl
 | c::l,d,x,y,hl,hc=>by
  simp only[List.length_cons]at hl;have hd:d < v.length:=by omega
  have hv:v[d]?=some v[d]:=List.getElem?_eq_getElem hd;have hdr:v.drop d=v[d]::v.drop (d+1):=(List.getElem_cons_drop (h:=hd)).symm;have hb:y8t v t xs 0 0 (d:Int) c x y=some (.inr ((z1L (x,y,()) (z1C v[d] (chr c t)).1).1.1,(z1L (x,y,()) (z1C v[d] (chr c t)).1).1.2.1)):=by
   unfold y8t;rw[y1c,hv];simp only[Option.bind_some];rw[yd9 (c:=(c.1,c.2.1,c.2.2.1,())) (hc c (by simp)) ht]
   rfl
  rw[yk];simp only[hb,Option.bind_some];have ih:=yC3 v t xs ht l (d+1) (z1L (x,y,()) (z1C v[d] (chr c t)).1).1.1 (z1L (x,y,()) (z1C v[d] (chr c t)).1).1.2.1 (by omega) fun c hc2=>hc c (by simp[hc2])
  rw[hdr];exact ih
theorem yQz{l:List Con}{v:List Gau}{t:Int}(hl:l.length=v.length)(hlm:l.length < lenMax)(hc:∀ c∈l,y8R c)(ht:y5L t):yCp l v t=some (sumV l v t (0,0,()),()):=by
 unfold yCp;rw[bifT (y7 hlm)];exact yC3 v t l ht l 0 0 0 (by omega) hc
theorem yC7(l:List Con)(v:List Gau)(t:Int)(ht:y5L t)(hl:l.length=v.length)(hc:∀ c∈l,y8R c):∀ (m d:Nat) (x y:Int),d+m=l.length →
  y1k (fun i__ s__=>y8b l v t 0 0 i__ s__.1 s__.2) (fun s__=>yFH l v t 0 0 s__.1 s__.2) m (d:Int) (x,y)=some (sumV (l.drop d) (v.drop d) t (x,y,()),())
 | 0,d,x,y,h=>by
  have:l.drop d=[]:=List.drop_eq_nil_of_le (by omega)
  rw[this];rfl
 | m+1,d,x,y,h=>by
  have hd:d < v.length:=by omega
  have hd2:d < l.length:=by omega
  have hv:v[d]?=some v[d]:=List.getElem?_eq_getElem hd;have hv2:l[d]?=some l[d]:=List.getElem?_eq_getElem hd2;have hdr:v.drop d=v[d]::v.drop (d+1):=(List.getElem_cons_drop (h:=hd)).symm;have hdr2:l.drop d=l[d]::l.drop (d+1):=(List.getElem_cons_drop (h:=hd2)).symm;have hb:y8b l v t 0 0 (d:Int) x y=some (.inr ((z1L (x,y,()) (z1C v[d] (chr l[d] t)).1).1.1,(z1L (x,y,()) (z1C v[d] (chr l[d] t)).1).1.2.1)):=by
   unfold y8b;rw[y1c,hv,y1c,hv2];simp only[Option.bind_some];rw[yKq (hc _ (List.getElem_mem hd2)) ht];rfl
  rw[y8l];simp only[hb,Option.bind_some];have ih:=yC7 l v t ht hl hc m (d+1) (z1L (x,y,()) (z1C v[d] (chr l[d] t)).1).1.1 (z1L (x,y,()) (z1C v[d] (chr l[d] t)).1).1.2.1 (by omega)
  rw[hdr,hdr2];exact ih
theorem yOl{l:List Con}{v:List Gau}{t:Int}(hl:l.length=v.length)(hlm:l.length < lenMax)(hc:∀ c∈l,y8R c)(ht:y5L t):yD6 l v t=some (sumV l v t (0,0,()),()):=by
 unfold yD6;have h1:(l.length:Int)≤9223372036854775807:=by unfold lenMax at hlm;omega
 have h2:((l.length:Int) - 0).toNat=l.length:=by omega
 rw[bifT (y7 h1),h2];exact yC7 l v t ht hl hc l.length 0 0 0 (by omega)
structure okT (t:Tid):Prop where
 len:t.1.length=t.2.1.length
 few:t.1.length≤4
 con:∀ c∈t.1,y8R c
 den:1≤t.2.2.1∧t.2.2.1≤268435456
 part:∀ z∈t.2.1,y0y z=0
 red:comG t.2.1 t.2.2.1=1
noncomputable def valT(t:Tid)(tick:Int):Gau:=sumV t.1 t.2.1 tick (0,0,())
theorem yTY{t:Tid}(h:okT t){k:Int}(hk:y5L k):y8G t k=some (valT t k,()):=by
 unfold y8G yK9;rw[yQz h.len (by have:=h.few;unfold lenMax;omega) h.con hk]
 rfl
theorem yJ3{t:Tid}(h:okT t){k:Int}(hk:y5L k):yGi t k=some (valT t k,()):=by
 unfold yGi yLS;rw[yOl h.len (by have:=h.few;unfold lenMax;omega) h.con hk]
 rfl
theorem yM{a b:Int}(h:yL a b=0):a=0∧b=0:=by
 by_cases ha:a=0
 ·subst ha;rw[yb]at h;exact ⟨rfl,h⟩
 ·rw[yQ ha]at h;exact absurd h ha
theorem yE3:∀ (l done:List Con),yDn done l=0→∀ c∈l,y9x c=0
 | [],_,_,c,hc=>by cases hc
 | n::l,done,h,c,hc=>by
  obtain ⟨h1,h2⟩:=yM h;rcases List.mem_cons.1 hc with rfl|hc
  ·exact (yM h1).1
  ·exact yE3 l _ h2 c hc
theorem yMK{c:Con}(h:y9x c=0):y8R c∧isNm c.1=true:=by
 have h1:=y2G h;refine ⟨⟨y2O (h1 _ (by simp)),y2O (h1 _ (by simp))⟩,?_⟩
 have:=h1 _ (List.mem_cons_self ..);cases hn:isNm c.1 with
 | true=>rfl
 | false=>rw[hn]at this;cases this
theorem yIy{l:List Con}(h:y4N l=0):0 < l.length∧l.length≤4∧(∀ c∈l,y8R c):=by
 unfold y4N at h;split at h
 ·cases h
 ·split at h
  ·cases h
  ·exact ⟨by omega,by omega,fun c hc=>(yMK (yE3 l [] h c hc)).1⟩
theorem y7O{t:Tid}(h:y2e t=0):okT t:=by
 unfold y2e at h;obtain ⟨h1,h2⟩:=yM h;obtain ⟨h3,h4⟩:=yM h2;obtain ⟨h5,h6⟩:=yM h4;obtain ⟨h7,h8⟩:=yM h6;obtain ⟨a1,a2,a3⟩:=yIy h1;refine ⟨?_,a2,a3,y2O h5,y5Z h7,?_⟩
 ·by_cases hl:t.2.1.length=t.1.length
  ·exact hl.symm
  ·rw[if_neg hl]at h3;cases h3
 ·by_cases hg:comG t.2.1 t.2.2.1=1
  ·exact hg
  ·rw[if_neg hg]at h8;cases h8
end Go.Tw
end
