import Derived.Test.YtpcnkpbpcebokaaGreatDoorBD
import Derived.KernelRfl
import Derived.Test.YtpcnkpbpcebokaaGreatDoorLQ
import Derived.Test.YtpcnkpbpcebokaaGreatDoorLR
set_option linter.all false
section
set_option maxRecDepth 1000000
namespace Go.Tw
open Go.Vx Go.Vx.B Go.Proofs
theorem yGx:yQN=some (true,()):=by kernel_rfl
end Go.Tw
end
section
set_option maxRecDepth 100000
namespace Go.Tw
open Go.Vx Go.Vx.B Go.Proofs
section
variable {α β γ σ:Type}
theorem y5J{body:Int->α->σ->Option (β⊕σ)}{fin:σ->Option β}{i:Int}{s:σ}:yP body fin i [] s=fin s:=rfl
theorem yz{body:Int->α->σ->Option (β⊕σ)}{fin:σ->Option β}{i:Int}{e:α}{l:List α}{s:σ}:yP body fin i (e::l) s=(body i e s).bind λ z=>match z with
  |.inl y=>some y
  |.inr s'=>yP body fin (i+1) l s':=rfl
theorem y22{body:Int->α->Unit->Option (β⊕Unit)}{fin:Unit->Option β}(p:α->Option β) :
  ∀ (l:List α) (i:Int),(∀ i e,e∈l->body i e ()=some (match p e with|some y=>.inl y|none=>.inr ()))->yP body fin i l ()=match l.findSome? p with|some y=>some y|none=>fin ()
 |[],i,_=>rfl
 |e::l,i,h=>by
  rw[yz,h i e (by simp),List.findSome?_cons]
  cases p e with
  |none=>exact y22 p l (i+1) λ i e he=>h i e (by simp[he])
  |some y=>rfl
theorem y3Y{body:Int->α->List γ->Option (β⊕List γ)}{fin:List γ->Option β}(f:α->γ) :
  ∀ (l:List α) (i:Int) (s:List γ),s.length+l.length<=memMax->(∀ i e s,e∈l->s.length+1<=memMax->body i e s=some (.inr (s++[f e])))->yP body fin i l s=fin (s++l.map f)
 |[],i,s,_,_=>by simp[y5J]
 |e::l,i,s,hl,h=>by
  simp only[List.length_cons]at hl;rw[yz,h i e s (by simp) (by omega)]
  simp only[Option.bind_some];rw[y3Y f l (i+1) (s++[f e]) (by simp;omega) λ i e s he hs=>h i e s (by simp[he]) hs]
  simp
end
theorem y7{p:Prop}[Decidable p](h:p):decide p=true:=decide_eq_true h
theorem yF{p:Prop}[Decidable p](h:¬ p):decide p=false:=decide_eq_false h
theorem bifT{α:Type}{c:Bool}{a b:α}(h:c=true):(bif c then a else b)=a:=by rw[h];rfl
theorem bifF{α:Type}{c:Bool}{a b:α}(h:c=false):(bif c then a else b)=b:=by rw[h];rfl
theorem yJh:memMax < lenMax:=by decide
def ckR(n lo hi:Int):Int:=if n < lo\/hi < n then 3 else 0
def y0U(l:List Int):Int:=(l.find? (· != 0)).getD 0
theorem y5B(n lo hi:Int):ze n lo hi=(ckR n lo hi,()):=by
 unfold ze ckR;by_cases h1:n < lo
 ·rw[bifT (y7 h1),if_pos (.inl h1)]
 ·rw[bifF (yF h1)];by_cases h2:n > hi
  ·rw[bifT (y7 h2),if_pos (.inr h2)]
  ·rw[bifF (yF h2),if_neg (by omega)]
theorem y5m(c:Bool)(e:Int):z1F c e=(bif c then e else 0,()):=by
 unfold z1F;cases c<;>rfl
theorem yJr(n lo hi:Int):z0k n lo hi=(ckR n lo hi,()):=by
 unfold z0k ckR;by_cases h1:n < lo
 ·rw[bifT (y7 h1),y5m,cond_true,if_pos (.inl h1)]
 ·rw[bifF (yF h1),y5m];by_cases h2:n > hi
  ·rw[y7 h2,cond_true,if_pos (.inr h2)]
  ·rw[yF h2,cond_false,if_neg (by omega)]
theorem y5x(l:List Int):l.findSome? (λ e=>if e != 0 then some (e,())else none)=(l.find? (· != 0)).map λ e=>(e,()):=by
 induction l with
 |nil=>rfl
 |cons e l ih =>
  rw[List.findSome?_cons,List.find?_cons];cases he:(e != 0)with
  |true=>rfl
  |false=>simpa using ih
theorem y54(l:List Int)(h:l.length < lenMax):y2H l=some (y0U l,()):=by
 unfold y2H;rw[bifT (y7 h),y22 (λ e=>if e != 0 then some (e,())else none) l 0 (λ i e _=>by
  unfold yEy;cases he:(e != 0)<;>rfl),y5x]
 unfold y0U yFJ;cases l.find? (· != 0)<;>rfl
theorem y0X{α:Type}(l:List α)(i:Nat):idx l (i:Int)=l[i]?:=by
 unfold idx;rw[if_pos (Int.natCast_nonneg i)];rfl
theorem y4l{α β:Type}{body:Int->α->Unit->Option (β⊕Unit)}{fin:Unit->Option β}(xs:List α)(p:α->Option β) :
  ∀ (l done:List α),xs=done++l->(∀ (i:Nat) e,xs[i]?=some e->body (i:Int) e ()=some (match p e with|some y=>.inl y|none=>.inr ())) ->
   yP body fin (done.length:Int) l ()=match l.findSome? p with|some y=>some y|none=>fin ()
 |[],done,_,_=>rfl
 |e::l,done,hx,h=>by
  rw[yz,h done.length e (by rw[hx];simp),List.findSome?_cons]
  cases p e with
  |none =>
   have:=y4l (body:=body) (fin:=fin) xs p l (done++[e]) (by rw[hx];simp) h
   simp only[List.length_append,List.length_cons,List.length_nil]at this;exact this
  |some y=>rfl
theorem y8I(l:List Int)(h:l.length < lenMax):y80 l=some (y0U l,()):=by
 unfold y80;have:=y4l (body:=λ i__ e__ s__=>yCl l i__ e__) (fin:=λ s__=>yBk l) l (λ e=>if e != 0 then some (e,())else none) l [] rfl (λ i e hi=>by
  unfold yCl;cases he:(e != 0)with
  |true=>rw[y0X,hi];rfl
  |false=>rfl)
 rw[bifT (y7 h)];refine this.trans ?_
 rw[y5x];unfold y0U yBk;cases l.find? (· != 0)<;>rfl
def y4a(c:Nat):Bool:=decide (65<=c/\c<=90\/97<=c/\c<=122)
def y7h(c:Nat):Bool:=decide (48<=c/\c<=57\/c=95)
def nmOk:Bool->List UInt8->Bool
 |_,[]=>true
 | first,c::l=>(y4a c.toNat || (!first && y7h c.toNat)) && nmOk false l
def isNm(s:List UInt8):Bool:=nmOk true s && decide (0 < s.length/\s.length<=24)
theorem y9E:∀ (s0 s:List UInt8) (i:Int),0<=i->yP (λ i__ e__ s__=>y8z s0 i__ e__) (λ s__=>yFl s0) i s ()=some (nmOk (decide (i=0)) s,())
  |s0,[],i,_=>rfl
  |s0,c::l,i,hi=>by
    rw[yz];have ih:=y9E s0 l (i+1) (by omega)
    have e0:decide (i+1=0)=false:=yF (by omega)
    rw[e0]at ih;unfold nmOk;have hb:y8z s0 i c=some (if (y4a c.toNat || (!decide (i=0) && y7h c.toNat))=true then .inr ()else .inl (false,())):=by
      unfold y8z y5w y4a y7h;have g3:(i == 0)=decide (i=0):=by by_cases h:i=0<;>simp[h]
      have g4:((c.toNat:Int) != 95)=!decide ((c.toNat:Int)=95):=by by_cases h:(c.toNat:Int)=95<;>simp[h]
      rw[g3,g4];by_cases h1:(97:Int)<=c.toNat<;>by_cases h2:(c.toNat:Int)<=122<;>by_cases h3:(65:Int)<=c.toNat<;>by_cases h4:(c.toNat:Int)<=90<;>by_cases h5:(c.toNat:Int) < 48<;>by_cases h6:(c.toNat:Int) > 57<;>by_cases h7:(c.toNat:Int)=95<;>by_cases h8:i=0 <;>
        first
        | omega
        | (have g1:(decide (65<=c.toNat/\c.toNat<=90\/97<=c.toNat/\c.toNat<=122))=decide ((65:Int)<=c.toNat/\(c.toNat:Int)<=90\/(97:Int)<=c.toNat/\(c.toNat:Int)<=122):=by
            apply decide_eq_decide.2;omega
           have g2:(decide (48<=c.toNat/\c.toNat<=57\/c.toNat=95))=decide (¬ (c.toNat:Int) < 48/\¬ (c.toNat:Int) > 57\/(c.toNat:Int)=95):=by
            apply decide_eq_decide.2;omega
           rw[g1,g2];simp[h1,h2,h3,h4,h5,h6,h7,h8])
    rw[hb];simp only[Option.bind_some];by_cases hc:(y4a c.toNat || (!decide (i=0) && y7h c.toNat))=true
    · rw[if_pos hc,hc,Bool.true_and];exact ih
    · rw[if_neg hc,Bool.eq_false_iff.2 hc];rfl
theorem yM3(s:List UInt8):yDl s=some (isNm s,()):=by
 unfold yDl isNm;by_cases h0:s.length=0
 ·have:((s.length:Int) == 0)=true:=by simp[h0]
  rw[bifT this,show decide (0 < s.length/\s.length<=24)=false from yF (by omega),Bool.and_false]
 ·have:((s.length:Int) == 0)=false:=by simpa using h0
  rw[bifF this];by_cases h1:24 < s.length
  ·rw[bifT (y7 (by omega)),show decide (0 < s.length/\s.length<=24)=false from yF (by omega),Bool.and_false]
  ·rw[bifF (yF (show ¬ ((s.length:Int) > 24) by omega)),bifT (y7 (show s.length < lenMax by unfold lenMax;omega)),y9E s s 0 (by omega),y7 rfl]
   rw[show decide (0 < s.length/\s.length<=24)=true from y7 ⟨by omega,by omega⟩,Bool.and_true]
theorem yPJ{bs:List UInt8}{i:Nat}{c:UInt8}(h:bs[i]?=some c):(⟨bs.toArray⟩:ByteArray).get! i=c:=by
 show bs.toArray[i]! = c
 rw[getElem!_def];simp[h]
theorem yI7{bs:List UInt8}{i:Nat}{c:UInt8}(h:bs[i]?=some c)(hc:c.toNat < 128):ye bs (i:Int)=((c.toNat:Int),(i:Int)+1):=by
 unfold ye Utf8.decode;have h0:(⟨bs.toArray⟩:ByteArray).get! ((i:Int).toNat+0)=c:=by rw[Int.toNat_natCast,Nat.add_zero];exact yPJ h
 simp only[h0];rw[if_pos hc];rfl
theorem yJ5{bs:List UInt8}{i:Nat}{c:UInt8}(h:bs[i]?=some c)(hc:128<=c.toNat):128<=(ye bs (i:Int)).1:=by
 unfold ye Utf8.decode;have h0:(⟨bs.toArray⟩:ByteArray).get! ((i:Int).toNat+0)=c:=by rw[Int.toNat_natCast,Nat.add_zero];exact yPJ h
 simp only[h0];rw[if_neg (by omega)]
 have he:Utf8.runeError=65533:=rfl;split
 ·split
  ·rename_i h2;show (128:Int)<=((_:Nat):Int);omega
  ·rw[he];decide
 ·split
  ·split
   ·rename_i h2;simp only[Bool.and_eq_true,decide_eq_true_eq]at h2;show (128:Int)<=((_:Nat):Int);omega
   ·rw[he];decide
  ·split
   ·split
    ·rename_i h2;simp only[Bool.and_eq_true,decide_eq_true_eq]at h2;show (128:Int)<=((_:Nat):Int);omega
    ·rw[he];decide
   ·rw[he];decide
def yAJ(r:Int):Bool:=decide (65<=r/\r<=90\/97<=r/\r<=122)
def yEz(r:Int):Bool:=decide (48<=r/\r<=57\/r=95)
theorem yGZ(s str:List UInt8)(pos:Int):y9o s str pos=some (if (yAJ (ye str pos).1 || (!decide (pos=0) && yEz (ye str pos).1))=true then .inr ()else .inl (false,())):=by
 unfold y9o y4Z y8X yAJ yEz;generalize (ye str pos).1=r;have g3:(pos == 0)=decide (pos=0):=by by_cases h:pos=0<;>simp[h]
 have g4:(r == 95)=decide (r=95):=by by_cases h:r=95<;>simp[h]
 rw[g3,g4];by_cases h1:r >= 97<;>by_cases h2:r<=122<;>by_cases h3:r >= 65<;>by_cases h4:r<=90<;>by_cases h5:r >= 48<;>by_cases h6:r<=57<;>by_cases h7:r=95<;>by_cases h8:pos=0 <;>
  first
  | omega
  | simp[h1,h2,h3,h4,h5,h6,h7,h8]
theorem y9j(s:List UInt8):∀ (m i:Nat),s.length<=i+m->i<=s.length ->
  y8Z s (λ i__ s__=>y9o s s i__) (λ s__=>y9k s s) m (i:Int) ()=bif nmOk (decide (i=0)) (s.drop i)then y9k s s else some (false,())
 |m,i,hm,hi=>by
  by_cases hl:i=s.length
  ·have e1:s.drop i=[]:=List.drop_eq_nil_of_le (by omega)
   have e2:decide ((i:Int) < (s.length:Int))=false:=yF (by omega)
   rw[e1];cases m<;>(unfold y8Z;rw[bifF e2];rfl)
  ·have hlt:i < s.length:=by omega
   obtain ⟨m,rfl⟩:∃ k,m=k+1:=⟨m - 1,by omega⟩
   have hd:s.drop i=s[i]::s.drop (i+1):=(List.getElem_cons_drop (h:=hlt)).symm;have hg:s[i]?=some s[i]:=List.getElem?_eq_getElem hlt;have e0:decide ((i:Int)=0)=decide (i=0):=decide_eq_decide.2 (by omega)
   unfold y8Z;rw[bifT (y7 (show (i:Int) < (s.length:Int) by omega)),yGZ,hd,e0]
   simp only[Option.bind_some];by_cases hc:s[i].toNat < 128
   ·rw[yI7 hg hc];have e1:yAJ (s[i].toNat:Int)=y4a s[i].toNat:=decide_eq_decide.2 (by omega)
    have e2:yEz (s[i].toNat:Int)=y7h s[i].toNat:=decide_eq_decide.2 (by omega)
    simp only[e1,e2,nmOk];by_cases hb:(y4a s[i].toNat || (!decide (i=0) && y7h s[i].toNat))=true
    ·rw[if_pos hb,hb,Bool.true_and];have ih:=y9j s m (i+1) (by omega) (by omega)
     have e3:decide (i+1=0)=false:=yF (by omega)
     rw[e3,show ((i+1:Nat):Int)=(i:Int)+1 by omega]at ih
     exact ih
    ·rw[if_neg hb,Bool.eq_false_iff.2 hb,Bool.false_and];rfl
   ·have h1:=yJ5 hg (by omega)
    have e1:yAJ (ye s (i:Int)).1=false:=yF (by omega)
    have e2:yEz (ye s (i:Int)).1=false:=yF (by omega)
    have e3:y4a s[i].toNat=false:=yF (by omega)
    have e4:y7h s[i].toNat=false:=yF (by omega)
    simp[e1,e2,nmOk,e3,e4]
theorem yGB(s:List UInt8)(h:s.length < lenMax):yC6 s=some (isNm s,()):=by
 unfold yC6;have:=y9j s s.length 0 (by omega) (by omega)
 rw[List.drop_zero,show decide (0=0)=true from rfl]at this
 rw[bifT (y7 h)];refine (show _=_ from this).trans ?_
 unfold isNm y9k;cases hn:nmOk true s with
 |false=>rfl
 |true =>
  rw[cond_true,Bool.true_and];cases s with
  |nil=>rfl
  |cons c l =>
   have e:decide (((c::l).length:Int)<=24)=decide (0 < (c::l).length/\(c::l).length<=24):=decide_eq_decide.2 (by simp only[List.length_cons];omega)
   rw[<- e];rfl
def yb(a b:Int):Int:=if a != 0 then a else b
theorem y1b:y0U []=0:=rfl
theorem yl(a:Int)(l:List Int):y0U (a::l)=yb a (y0U l):=by
 unfold y0U yb;rw[List.find?_cons];cases h:(a != 0)<;>rfl
theorem y0g(a:Int):yb a 0=a:=by
 unfold yb;by_cases h:a=0<;>simp[h]
end Go.Tw
end
section
set_option maxRecDepth 100000
namespace Go.Tw
open Go.Vx Go.Vx.B Go.Proofs
abbrev Con:=List UInt8×Int×Int×Unit
abbrev Gau:=Int×Int×Unit
abbrev Tid:=List Con×List Gau×Int×Unit
def yAA(c:Con):Int:=y0U [bif isNm c.1 then 0 else 8,ckR c.2.1 1 96,ckR c.2.2.1 0 3]
def conE(done:List Con)(c:Con):Int:=yb (yAA c) (bif done.any (λ d=>d.1 == c.1)then 9 else 0)
def yDw:List Con->List Con->Int
 |_,[]=>0
 |done,n::l=>yb (conE done n) (yDw (done++[n]) l)
def y7W(l:List Con):Int:=if l.length=0 then 12 else if 4 < l.length then 5 else yDw [] l
theorem y6H(a b:Int):[a,b].length < lenMax:=by simp[lenMax]
theorem yJG(a b c:Int):[a,b,c].length < lenMax:=by simp[lenMax]
theorem yD3(s:List UInt8):zn_M s=some (bif isNm s then 0 else 8,()):=by
 unfold zn_M zn_m;rw[yM3];cases isNm s<;>rfl
theorem y9b(l:List Con)(i:Nat)(n:Con)(hn:l[i]?=some n){fin:Unit->Option ((Int×Unit)⊕Unit)}:∀ (m k:Nat),k+m=i ->
  y06 (λ i__ s__=>yH2 l (i:Int) i__) fin m (k:Int) ()=if ((l.drop k).take m).any (λ d=>d.1 == n.1)=true then some (.inl (9,()))else fin ()
 |0,k,_=>by simp[y06]
 |m+1,k,hk=>by
  have hi:i < l.length:=(List.getElem?_eq_some_iff.1 hn).1;have hkl:k < l.length:=by omega
  unfold y06;have hb:yH2 l (i:Int) (k:Int)=some (if (l[k].1 == n.1)=true then .inl (.inl (9,()))else .inr ()):=by
   unfold yH2;rw[y0X,y0X,hn,List.getElem?_eq_getElem hkl];simp only[Option.bind_some];cases (l[k].1 == n.1)<;>rfl
  rw[hb];simp only[Option.bind_some];have hd:(l.drop k).take (m+1)=l[k]::(l.drop (k+1)).take m:=by
   rw[<- List.getElem_cons_drop (h:=hkl),List.take_succ_cons]
  rw[hd,List.any_cons];cases h:(l[k].1 == n.1)with
  |true=>rfl
  |false =>
   rw[if_neg (by simp),Bool.false_or]
   have ih:=y9b l i n hn (fin:=fin) m (k+1) (by omega)
   rw[show ((k+1:Nat):Int)=(k:Int)+1 by omega]at ih
   exact ih
theorem yGW(l:List Con)(hl:l.length<=4)(i:Nat)(n:Con)(hn:l[i]?=some n) :
  yHT l (i:Int) n=some (bif conE (l.take i) n != 0 then .inl (conE (l.take i) n,())else .inr ()):=by
 have hi:i < l.length:=(List.getElem?_eq_some_iff.1 hn).1;unfold yHT;rw[yD3,y0X,hn];simp only[Option.bind_some,y5B];rw[y8I _ (yJG _ _ _)];simp only[Option.bind_some];show (bif (yAA n != 0)then some (Sum.inl (yAA n,()))else _)=_
 unfold conE yb;cases hs:(yAA n != 0)with
 |true=>simp only[cond_true,if_true,hs]
 |false =>
  simp only[cond_false,Bool.false_eq_true,if_false];rw[bifT (y7 (show (i:Int)<=9223372036854775807 by omega))]
  have e1:((i:Int) - 0).toNat=i:=by omega
  rw[e1];have:=y9b l i n hn (fin:=λ s__=>yNa l (i:Int)) i 0 (by omega)
  rw[show ((0:Nat):Int)=0 from rfl]at this
  rw[this,List.drop_zero];cases hany:(l.take i).any (λ d=>d.1 == n.1)with
  |true=>rw[if_pos rfl];rfl
  |false=>rw[if_neg (by simp)];rfl
theorem y9l(xs:List Con)(hl:xs.length<=4):∀ (l done:List Con),xs=done++l ->
  yP (λ i__ e__ s__=>yHT xs i__ e__) (λ s__=>yMf xs) (done.length:Int) l ()=some (yDw done l,())
 |[],done,_=>rfl
 |n::l,done,hx=>by
  have hn:xs[done.length]?=some n:=by rw[hx];simp
  rw[yz,yGW xs hl done.length n hn];have ht:xs.take done.length=done:=by rw[hx];simp
  rw[ht];simp only[Option.bind_some,yDw,yb];cases h:(conE done n != 0)with
  |true=>rfl
  |false =>
   have ih:=y9l xs hl l (done++[n]) (by rw[hx];simp)
   simp only[List.length_append,List.length_cons,List.length_nil]at ih;exact ih
theorem yLz(l:List Con):zJ_M l=some (y7W l,()):=by
 unfold zJ_M y7W;by_cases h0:l.length=0
 ·rw[bifT (show ((l.length:Int) == 0)=true by simp[h0]),if_pos h0]
 ·rw[bifF (show ((l.length:Int) == 0)=false by simpa using h0),if_neg h0]
  by_cases h8:4 < l.length
  ·rw[bifT (y7 (show (l.length:Int) > 4 by omega)),if_pos h8]
  ·rw[bifF (yF (show ¬ (l.length:Int) > 4 by omega)),if_neg h8,bifT (y7 (show l.length < lenMax by unfold lenMax;omega))]
   exact y9l l (by omega) l [] rfl
def yM8(m:List (List UInt8×Bool))(done:List Con):Prop:=∀ k,(y0P .str .bool m k).getD false=done.any λ d=>d.1 == k
theorem yGV(m:List (List UInt8×Bool))(k k':List UInt8):(y0P .str .bool (y1K .str .bool m k true) k').getD false=((k == k') || (y0P .str .bool m k').getD false):=by
 induction m with
 |nil =>
  show (y0P .str .bool [(k,true)] k').getD false=_
  simp only[y0P,eqV];by_cases h:k'=k
  ·subst h;simp
  ·have h1:(k' == k)=false:=beq_eq_false_iff_ne.2 h;have h2:(k == k')=false:=beq_eq_false_iff_ne.2 (Ne.symm h);show (bif (k' == k)then some true else none).getD false=_
   rw[h1,h2];rfl
 |cons p m ih =>
  show (y0P .str .bool (bif (k == p.1)then (k,true)::m else p::y1K .str .bool m k true) k').getD false=_
  by_cases h:k=p.1
  ·have h1:(k == p.1)=true:=by simp[h]
   rw[h1,cond_true];show (bif (k' == k)then some true else y0P .str .bool m k').getD false=((k == k') || (bif (k' == p.1)then some p.2 else y0P .str .bool m k').getD false)
   by_cases h2:k'=k
   ·have e1:(k' == k)=true:=by simp[h2]
    have e2:(k == k')=true:=by simp[h2]
    rw[e1,e2];rfl
   ·have e1:(k' == k)=false:=beq_eq_false_iff_ne.2 h2;have e2:(k == k')=false:=beq_eq_false_iff_ne.2 (Ne.symm h2);have e3:(k' == p.1)=false:=by rw[<- h];exact e1
    rw[e1,e2,e3];rfl
  ·have h1:(k == p.1)=false:=beq_eq_false_iff_ne.2 h;rw[h1,cond_false];show (bif (k' == p.1)then some p.2 else y0P .str .bool (y1K .str .bool m k true) k').getD false=((k == k') || (bif (k' == p.1)then some p.2 else y0P .str .bool m k').getD false)
   by_cases h2:k'=p.1
   ·have e1:(k' == p.1)=true:=by simp[h2]
    have e2:(k == k')=false:=by rw[h2];exact h1
    rw[e1,e2];rfl
   ·have e1:(k' == p.1)=false:=beq_eq_false_iff_ne.2 h2;rw[e1];exact ih
theorem yM8.put{m:List (List UInt8×Bool)}{done:List Con}(h:yM8 m done)(n:Con):yM8 (y1K .str .bool m n.1 true) (done++[n]):=by
 intro k;rw[yGV,h k,List.any_append];simp[Bool.or_comm]
theorem yJF(c:Con)(h:c.1.length < lenMax):zM_M c=some (yAA c,()):=by
 unfold zM_M zM_m;rw[yGB c.1 h];simp only[Option.bind_some,y5m,yJr];rw[y54 _ (yJG _ _ _)];unfold yAA;cases isNm c.1<;>rfl
theorem y9e(xs:List Con):∀ (l done:List Con) (i:Int) (m:List (List UInt8×Bool)),(∀ n∈l,n.1.length < lenMax)->yM8 m done ->
  yP (λ i__ e__ s__=>yHQ xs i__ e__ s__) (λ s__=>yLa xs s__) i l m=some (yDw done l,())
 |[],done,i,m,_,_=>rfl
 |n::l,done,i,m,hl,hk=>by
  have hb:yHQ xs i n m=some (bif conE done n != 0 then .inl (conE done n,())else .inr (y1K .str .bool m n.1 true)):=by
   unfold yHQ;rw[yJF _ (hl n (by simp))]
   simp only[Option.bind_some,y5m,hk n.1];rw[y54 _ (y6H _ _)];have e:y0U [yAA (n.fst,n.snd.fst,n.snd.snd.fst,()),bif done.any (λ d=>d.1 == n.1)then 9 else 0]=conE done n:=by
    rw[yl,yl,y1b,y0g];rfl
   simp only[Option.bind_some,e];cases (conE done n != 0)<;>rfl
  rw[yz,hb];simp only[Option.bind_some,yDw,yb];cases h:(conE done n != 0)with
  |true=>rfl
  |false =>
   simp only[cond_false,Bool.false_eq_true,if_false];exact y9e xs l (done++[n]) (i+1) _ (λ x hx=>hl x (by simp[hx])) (hk.put n)
theorem yLg(l:List Con)(hn:∀ n∈l,n.1.length < lenMax)(hl:l.length < lenMax):zL_M l=some (y7W l,()):=by
 unfold zL_M y7W;simp only[y5m];rw[y54 _ (y6H _ _)];simp only[Option.bind_some];by_cases h0:l.length=0
 ·rw[show ((l.length:Int) == 0)=true by simp[h0],if_pos h0]
  rfl
 ·rw[show ((l.length:Int) == 0)=false by simpa using h0,if_neg h0]
  by_cases h8:4 < l.length
  ·rw[y7 (show (l.length:Int) > 4 by omega),if_pos h8]
   rfl
  ·rw[yF (show ¬ (l.length:Int) > 4 by omega),if_neg h8]
   rw[bifF (by rfl),bifT (y7 hl)]
   exact y9e l l [] 0 [] hn (λ k=>rfl)
end Go.Tw
end
section
set_option maxRecDepth 100000
namespace Go.Tw
open Go.Vx Go.Vx.B Go.Proofs
theorem y1s{i:Int}(h0:-9223372036854775808<=i)(h1:i<=9223372036854775807):IntKind.i64.wrap i=i:=by
 rw[IntKind.wrap_i64];omega
def gI(a b:Int):Int:=(Nat.gcd a.natAbs b.natAbs:Nat)
def comG:List Gau->Int->Int
 |[],d=>d
 |z::l,d=>comG l (gI (gI d z.1) z.2.1)
def fits(z:Gau):Prop:=(-9223372036854775807<=z.1/\z.1<=9223372036854775807)/\(-9223372036854775807<=z.2.1/\z.2.1<=9223372036854775807)
def yZ4(z:Gau):Int:=y0U [ckR z.1 (-8796093022208) 8796093022208,ckR z.2.1 (-8796093022208) 8796093022208]
theorem y4m{l:List Int}(h:y0U l=0):∀ e∈l,e=0:=by
 induction l with
 |nil=>intro e he;cases he
 |cons a l ih =>
  rw[yl]at h;unfold yb at h;by_cases ha:a=0
  ·subst ha;simp only[bne_self_eq_false,Bool.false_eq_true,if_false]at h;intro e he;rcases List.mem_cons.1 he with rfl|he
   ·rfl
   ·exact ih h e he
  ·have:(a != 0)=true:=by simp[ha]
   rw[this,if_pos rfl]at h;exact absurd h ha
theorem yB8{n lo hi:Int}(h:ckR n lo hi=0):lo<=n/\n<=hi:=by
 unfold ckR at h;split at h
 ·cases h
 ·omega
theorem y00{a b:Int}(h:a≠0):yb a b=a:=by unfold yb;rw[if_pos (by simpa using h)]
theorem y08(b:Int):yb 0 b=b:=by unfold yb;rw[if_neg (by simp)]
theorem y3C(a b c:Int):yb (yb a b) c=yb a (yb b c):=by
 by_cases h:a=0
 ·subst h;simp only[y08]
 ·rw[y00 h,y00 h,y00 h]
end Go.Tw
end
section
set_option maxRecDepth 100000
namespace Go.Tw
open Go.Vx Go.Vx.B Go.Proofs
theorem yHj{β σ:Type}{body:Int->σ->Option (β⊕σ)}{fin:σ->Option β}{i:Int}{s:σ}:y06 body fin 0 i s=fin s:=rfl
theorem y1W{β σ:Type}{body:Int->σ->Option (β⊕σ)}{fin:σ->Option β}{m:Nat}{i:Int}{s:σ}:y06 body fin (m+1) i s=(body i s).bind λ z=>match z with
  |.inl y=>some y
  |.inr s'=>y06 body fin m (i+1) s':=rfl
theorem y5b{β γ:Type}{body:Int->List γ->Option (β⊕List γ)}{fin:List γ->Option β}(f:Int->γ) :
  ∀ (m:Nat) (i:Int) (s:List γ),s.length+m<=memMax->(∀ (k:Nat) s,k < m->s.length+1<=memMax->body (i+k) s=some (.inr (s++[f (i+k)])))->y06 body fin m i s=fin (s++(List.range m).map λ k:Nat=>f (i+k))
 |0,i,s,_,_=>by simp[yHj]
 |m+1,i,s,hl,h=>by
  have h0:=h 0 s (by omega) (by omega)
  rw[show i+((0:Nat):Int)=i by omega]at h0
  rw[y1W,h0];simp only[Option.bind_some];rw[y5b f m (i+1) (s++[f i]) (by simp;omega) λ k s hk hs=>by
   have:=h (k+1) s (by omega) hs
   rw[show i+((k+1:Nat):Int)=i+1+(k:Int) by omega]at this
   exact this]
  congr 1
  rw[List.range_succ_eq_map,List.map_cons,List.map_map,List.append_assoc];congr 1
  simp only[List.singleton_append,List.cons.injEq];refine ⟨by congr 1;omega,List.map_congr_left λ k _=>?_⟩
  show f (i+1+(k:Int))=f (i+((k+1:Nat):Int))
  congr 1
  omega
def y2x(n:Int):Gau:=if n=0 then (1,0,())else if n=1 then (0,1,())else if n=2 then (-1,0,())else (0,-1,())
def chr(c:Con)(tick:Int):Gau:=y2x (c.2.2.1 * (tick / c.2.1) % 4)
def y2A(c:Con):Prop:=(1<=c.2.1/\c.2.1<=96)/\(0<=c.2.2.1/\c.2.2.1<=3)
def y9W(t:Int):Prop:=0<=t/\t<=200000
theorem yEm{c:Con}{t:Int}(hc:y2A c)(ht:y9W t):IntKind.i64.wrap (c.2.2.1 * IntKind.i64.wrap (t.tdiv c.2.1))=c.2.2.1 * (t / c.2.1)/\0<=c.2.2.1 * (t / c.2.1)/\c.2.2.1 * (t / c.2.1)<=600000:=by
 obtain ⟨⟨h1,h2⟩,h3,h4⟩:=hc;obtain ⟨h5,h6⟩:=ht;have e1:t.tdiv c.2.1=t / c.2.1:=Int.tdiv_eq_ediv_of_nonneg h5;have h7:0<=t / c.2.1:=Int.ediv_nonneg h5 (by omega)
 have h8:t / c.2.1<=t:=Int.ediv_le_self _ h5;generalize t / c.2.1=q at e1 h7 h8;have h9:0<=c.2.2.1 * q:=Int.mul_nonneg h3 h7;have h10:c.2.2.1 * q<=3 * q:=Int.mul_le_mul_of_nonneg_right h4 h7;rw[e1,y1s (i:=q) (by omega) (by omega),y1s (by omega) (by omega)]
 exact ⟨rfl,h9,by omega⟩
theorem mod4(k:Int):k % 4=0\/k % 4=1\/k % 4=2\/k % 4=3:=by omega
theorem yYN{c:Con}{t:Int}(hc:y2A c)(ht:y9W t):zR_M c t=some (chr c t,()):=by
 unfold zR_M zR_m chr;obtain ⟨h1,h2,h3⟩:=yEm hc ht;have hl:(c.2.1 == 0)=false:=by have:=hc.1.1;simp;omega
 rw[bifF hl];rw[h1];generalize c.2.2.1 * (t / c.2.1)=k at h2 h3;have e:k.tmod 4=k % 4:=Int.tmod_eq_emod_of_nonneg h2;rw[e];rcases mod4 k with h|h|h|h<;>rw[h]<;>rfl
theorem yQy(k:Int)(h2:0<=k)(h3:k<=600000):yEN (1,0,()) k=some (y2x (k % 4),()):=by
 unfold yEN;have e:k.tmod 4=k % 4:=Int.tmod_eq_emod_of_nonneg h2;rw[e];rcases mod4 k with h|h|h|h<;>rw[h]<;>rfl
theorem yFx{c:Con}{t:Int}(hc:y2A c)(ht:y9W t):zq_M c t=some (chr c t,()):=by
 unfold zq_M zq_m chr;obtain ⟨h1,h2,h3⟩:=yEm hc ht;have hl:(c.2.1 == 0)=false:=by have:=hc.1.1;simp;omega
 rw[bifF hl,h1,yQy _ h2 h3];rfl
structure okT (t:Tid):Prop where
 len:t.1.length=t.2.1.length
 few:t.1.length<=4
 con:∀ c∈t.1,y2A c
 den:1<=t.2.2.1/\t.2.2.1<=268435456
 part:∀ z∈t.2.1,yZ4 z=0
 red:comG t.2.1 t.2.2.1=1
theorem yc{a b:Int}(h:yb a b=0):a=0/\b=0:=by
 by_cases ha:a=0
 ·subst ha;rw[y08]at h;exact ⟨rfl,h⟩
 ·rw[y00 ha]at h;exact absurd h ha
theorem yFt:∀ (l done:List Con),yDw done l=0->∀ c∈l,yAA c=0
 |[],_,_,c,hc=>by cases hc
 |n::l,done,h,c,hc=>by
  obtain ⟨h1,h2⟩:=yc h;rcases List.mem_cons.1 hc with rfl|hc
  ·exact (yc h1).1
  ·exact yFt l _ h2 c hc
theorem yNj{c:Con}(h:yAA c=0):y2A c/\isNm c.1=true:=by
 have h1:=y4m h;refine ⟨⟨yB8 (h1 _ (by simp)),yB8 (h1 _ (by simp))⟩,?_⟩
 have:=h1 _ (List.mem_cons_self ..);cases hn:isNm c.1 with
 |true=>rfl
 |false=>rw[hn]at this;cases this
theorem yJ6{l:List Con}(h:y7W l=0):0 < l.length/\l.length<=4/\(∀ c∈l,y2A c):=by
 unfold y7W at h;split at h
 ·cases h
 ·split at h
  ·cases h
  ·exact ⟨by omega,by omega,λ c hc=>(yNj (yFt l [] h c hc)).1⟩
end Go.Tw
end
