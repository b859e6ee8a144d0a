import Derived.Test.YtpcnkpbpcebokaaGreatDoorBD
import Derived.KernelRfl
import Derived.Test.YtpcnkpbpcebokaaGreatDoorLP
set_option linter.all false
open List (length_cons)
open Option (bind_some)
open Nat (gcd_comm)
section
set_option maxRecDepth 1000000
namespace Go.Tw
open Go.Vx Go.Vx.B Go.Proofs
theorem yIP:yRG=some (true,()):=by kernel_rfl
end Go.Tw
end
section
set_option maxRecDepth 100000
namespace Go.Tw
open Go.Vx Go.Vx.B Go.Proofs
section
variable {α β γ σ:Type}
theorem y1o{body:Int->α->σ->Option (β⊕σ)}{fin:σ->Option β}{i:Int}{s:σ}:yH body fin i [] s=fin s:=rfl
theorem yU{body:Int->α->σ->Option (β⊕σ)}{fin:σ->Option β}{i:Int}{e:α}{l:List α}{s:σ}:yH body fin i (e::l) s=(body i e s).bind λ z=>match z with
  |.inl y=>some y
  |.inr s'=>yH body fin (i+1) l s':=rfl
theorem y1j{body:Int->α->Unit->Option (β⊕Unit)}{fin:Unit->Option β}(p:α->Option β) :
  ∀ (l:List α) (i:Int),(∀ i e,e∈l->body i e ()=some (match p e with|some y=>.inl y|none=>.inr ()))->yH body fin i l ()=match l.findSome? p with|some y=>some y|none=>fin ()
 |[],i,_=>rfl
 |e::l,i,h=>by
  rw[yU,h i e (by simp),List.findSome?_cons]
  cases p e with
  |none=>exact y1j p l (i+1) λ i e he=>h i e (by simp[he])
  |some y=>rfl
theorem y1P{body:Int->α->List γ->Option (β⊕List γ)}{fin:List γ->Option β}(f:α->γ) :
  ∀ (l:List α) (i:Int) (s:List γ),s.length+l.length<=memMax->(∀ i e s,e∈l->s.length+1<=memMax->body i e s=some (.inr (s++[f e])))->yH body fin i l s=fin (s++l.map f)
 |[],i,s,_,_=>by simp[y1o]
 |e::l,i,s,hl,h=>by
  simp only[length_cons]at hl;rw[yU,h i e s (by simp) (by omega)]
  simp only[bind_some];rw[y1P f l (i+1) (s++[f e]) (by simp;omega) λ i e s he hs=>h i e s (by simp[he]) hs]
  simp
end
theorem y7{p:Prop}[Decidable p](h:p):decide p=true:=decide_eq_true h
theorem yE{p:Prop}[Decidable p](h:¬ p):decide p=false:=decide_eq_false h
theorem bifT{α:Type}{c:Bool}{a b:α}(h:c=true):(bif c then a else b)=a:=by rw[h];rfl
theorem bifF{α:Type}{c:Bool}{a b:α}(h:c=false):(bif c then a else b)=b:=by rw[h];rfl
theorem yD0:memMax < lenMax:=by decide
def ckR(n lo hi:Int):Int:=if n < lo\/hi < n then 3 else 0
def y09(l:List Int):Int:=(l.find? (· != 0)).getD 0
theorem y5e(n lo hi:Int):zc n lo hi=(ckR n lo hi,()):=by
 unfold zc ckR;by_cases h1:n < lo
 ·rw[bifT (y7 h1),if_pos (.inl h1)]
 ·rw[bifF (yE h1)];by_cases h2:n > hi
  ·rw[bifT (y7 h2),if_pos (.inr h2)]
  ·rw[bifF (yE h2),if_neg (by omega)]
theorem y4K(c:Bool)(e:Int):z18 c e=(bif c then e else 0,()):=by
 unfold z18;cases c<;>rfl
theorem y7s(n lo hi:Int):z0c n lo hi=(ckR n lo hi,()):=by
 unfold z0c ckR;by_cases h1:n < lo
 ·rw[bifT (y7 h1),y4K,cond_true,if_pos (.inl h1)]
 ·rw[bifF (yE h1),y4K];by_cases h2:n > hi
  ·rw[y7 h2,cond_true,if_pos (.inr h2)]
  ·rw[yE h2,cond_false,if_neg (by omega)]
theorem y6J(l:List Int):l.findSome? (λ e=>if e != 0 then some (e,())else none)=(l.find? (· != 0)).map λ e=>(e,()):=by
 induction l with
 |nil=>rfl
 |cons e l ih =>
  rw[List.findSome?_cons,List.find?_cons];cases he:(e != 0)with
  |true=>rfl
  |false=>simpa using ih
theorem y1v(l:List Int)(h:l.length < lenMax):y2h l=some (y09 l,()):=by
 unfold y2h;rw[bifT (y7 h),y1j (λ e=>if e != 0 then some (e,())else none) l 0 (λ i e _=>by
  unfold yKG;cases he:(e != 0)<;>rfl),y6J]
 unfold y09 yKC;cases l.find? (· != 0)<;>rfl
theorem y0M{α:Type}(l:List α)(i:Nat):idx l (i:Int)=l[i]?:=by
 unfold idx;rw[if_pos (Int.natCast_nonneg i)];rfl
theorem y3e{α β:Type}{body:Int->α->Unit->Option (β⊕Unit)}{fin:Unit->Option β}(xs:List α)(p:α->Option β) :
  ∀ (l done:List α),xs=done++l->(∀ (i:Nat) e,xs[i]?=some e->body (i:Int) e ()=some (match p e with|some y=>.inl y|none=>.inr ())) ->
   yH body fin (done.length:Int) l ()=match l.findSome? p with|some y=>some y|none=>fin ()
 |[],done,_,_=>rfl
 |e::l,done,hx,h=>by
  rw[yU,h done.length e (by rw[hx];simp),List.findSome?_cons]
  cases p e with
  |none =>
   have:=y3e (body:=body) (fin:=fin) xs p l (done++[e]) (by rw[hx];simp) h
   simp only[List.length_append,length_cons,List.length_nil]at this;exact this
  |some y=>rfl
theorem y8H(l:List Int)(h:l.length < lenMax):yDK l=some (y09 l,()):=by
 unfold yDK;have:=y3e (body:=λ i__ e__ s__=>yFt l i__ e__) (fin:=λ s__=>yFz l) l (λ e=>if e != 0 then some (e,())else none) l [] rfl (λ i e hi=>by
  unfold yFt;cases he:(e != 0)with
  |true=>rw[y0M,hi];rfl
  |false=>rfl)
 rw[bifT (y7 h)];refine this.trans ?_
 rw[y6J];unfold y09 yFz;cases l.find? (· != 0)<;>rfl
def y5A(c:Nat):Bool:=decide (65<=c/\c<=90\/97<=c/\c<=122)
def y8e(c:Nat):Bool:=decide (48<=c/\c<=57\/c=95)
def nmOk:Bool->List UInt8->Bool
 |_,[]=>true
 | first,c::l=>(y5A c.toNat || (!first && y8e c.toNat)) && nmOk false l
def isNm(s:List UInt8):Bool:=nmOk true s && decide (0 < s.length/\s.length<=24)
theorem yA2:∀ (s0 s:List UInt8) (i:Int),0<=i->yH (λ i__ e__ s__=>yD1 s0 i__ e__) (λ s__=>yKh s0) i s ()=some (nmOk (decide (i=0)) s,())
  |s0,[],i,_=>rfl
  |s0,c::l,i,hi=>by
    rw[yU];have ih:=yA2 s0 l (i+1) (by omega)
    have e0:decide (i+1=0)=false:=yE (by omega)
    rw[e0]at ih;unfold nmOk;have hb:yD1 s0 i c=some (if (y5A c.toNat || (!decide (i=0) && y8e c.toNat))=true then .inr ()else .inl (false,())):=by
      unfold yD1 y6H y5A y8e;have g3:(i == 0)=decide (i=0):=by by_cases h:i=0<;>simp[h]
      have g4:((c.toNat:Int) != 95)=!decide ((c.toNat:Int)=95):=by by_cases h:(c.toNat:Int)=95<;>simp[h]
      rw[g3,g4];by_cases h1:(97:Int)<=c.toNat<;>by_cases h2:(c.toNat:Int)<=122<;>by_cases h3:(65:Int)<=c.toNat<;>by_cases h4:(c.toNat:Int)<=90<;>by_cases h5:(c.toNat:Int) < 48<;>by_cases h6:(c.toNat:Int) > 57<;>by_cases h7:(c.toNat:Int)=95<;>by_cases h8:i=0 <;>
        first
        | omega
        | (have g1:(decide (65<=c.toNat/\c.toNat<=90\/97<=c.toNat/\c.toNat<=122))=decide ((65:Int)<=c.toNat/\(c.toNat:Int)<=90\/(97:Int)<=c.toNat/\(c.toNat:Int)<=122):=by
            apply decide_eq_decide.2;omega
           have g2:(decide (48<=c.toNat/\c.toNat<=57\/c.toNat=95))=decide (¬ (c.toNat:Int) < 48/\¬ (c.toNat:Int) > 57\/(c.toNat:Int)=95):=by
            apply decide_eq_decide.2;omega
           rw[g1,g2];simp[h1,h2,h3,h4,h5,h6,h7,h8])
    rw[hb];simp only[bind_some];by_cases hc:(y5A c.toNat || (!decide (i=0) && y8e c.toNat))=true
    · rw[if_pos hc,hc,Bool.true_and];exact ih
    · rw[if_neg hc,Bool.eq_false_iff.2 hc];rfl
theorem yNb(s:List UInt8):yMc s=some (isNm s,()):=by
 unfold yMc isNm;by_cases h0:s.length=0
 ·have:((s.length:Int) == 0)=true:=by simp[h0]
  rw[bifT this,show decide (0 < s.length/\s.length<=24)=false from yE (by omega),Bool.and_false]
 ·have:((s.length:Int) == 0)=false:=by simpa using h0
  rw[bifF this];by_cases h1:24 < s.length
  ·rw[bifT (y7 (by omega)),show decide (0 < s.length/\s.length<=24)=false from yE (by omega),Bool.and_false]
  ·rw[bifF (yE (show ¬ ((s.length:Int) > 24) by omega)),bifT (y7 (show s.length < lenMax by unfold lenMax;omega)),yA2 s s 0 (by omega),y7 rfl]
   rw[show decide (0 < s.length/\s.length<=24)=true from y7 ⟨by omega,by omega⟩,Bool.and_true]
theorem yOA{bs:List UInt8}{i:Nat}{c:UInt8}(h:bs[i]?=some c):(⟨bs.toArray⟩:ByteArray).get! i=c:=by
 show bs.toArray[i]! = c
 rw[getElem!_def];simp[h]
theorem yI8{bs:List UInt8}{i:Nat}{c:UInt8}(h:bs[i]?=some c)(hc:c.toNat < 128):yf bs (i:Int)=((c.toNat:Int),(i:Int)+1):=by
 unfold yf Utf8.decode;have h0:(⟨bs.toArray⟩:ByteArray).get! ((i:Int).toNat+0)=c:=by rw[Int.toNat_natCast,Nat.add_zero];exact yOA h
 simp only[h0];rw[if_pos hc];rfl
theorem yJ4{bs:List UInt8}{i:Nat}{c:UInt8}(h:bs[i]?=some c)(hc:128<=c.toNat):128<=(yf bs (i:Int)).1:=by
 unfold yf Utf8.decode;have h0:(⟨bs.toArray⟩:ByteArray).get! ((i:Int).toNat+0)=c:=by rw[Int.toNat_natCast,Nat.add_zero];exact yOA h
 simp only[h0];rw[if_neg (by omega)]
 have he:Utf8.runeError=65533:=rfl;split
 ·split
  ·rename_i h2;show (128:Int)<=((_:Nat):Int);omega
  ·rw[he];decide
 ·split
  ·split
   ·rename_i h2;simp only[Bool.and_eq_true,decide_eq_true_eq]at h2;show (128:Int)<=((_:Nat):Int);omega
   ·rw[he];decide
  ·split
   ·split
    ·rename_i h2;simp only[Bool.and_eq_true,decide_eq_true_eq]at h2;show (128:Int)<=((_:Nat):Int);omega
    ·rw[he];decide
   ·rw[he];decide
def yAR(r:Int):Bool:=decide (65<=r/\r<=90\/97<=r/\r<=122)
def yFg(r:Int):Bool:=decide (48<=r/\r<=57\/r=95)
theorem yIn(s str:List UInt8)(pos:Int):yDZ s str pos=some (if (yAR (yf str pos).1 || (!decide (pos=0) && yFg (yf str pos).1))=true then .inr ()else .inl (false,())):=by
 unfold yDZ y51 y8K yAR yFg;generalize (yf str pos).1=r;have g3:(pos == 0)=decide (pos=0):=by by_cases h:pos=0<;>simp[h]
 have g4:(r == 95)=decide (r=95):=by by_cases h:r=95<;>simp[h]
 rw[g3,g4];by_cases h1:r >= 97<;>by_cases h2:r<=122<;>by_cases h3:r >= 65<;>by_cases h4:r<=90<;>by_cases h5:r >= 48<;>by_cases h6:r<=57<;>by_cases h7:r=95<;>by_cases h8:pos=0 <;>
  first
  | omega
  | simp[h1,h2,h3,h4,h5,h6,h7,h8]
theorem y9X(s:List UInt8):∀ (m i:Nat),s.length<=i+m->i<=s.length ->
  y9G s (λ i__ s__=>yDZ s s i__) (λ s__=>yDs s s) m (i:Int) ()=bif nmOk (decide (i=0)) (s.drop i)then yDs s s else some (false,())
 |m,i,hm,hi=>by
  by_cases hl:i=s.length
  ·have e1:s.drop i=[]:=List.drop_eq_nil_of_le (by omega)
   have e2:decide ((i:Int) < (s.length:Int))=false:=yE (by omega)
   rw[e1];cases m<;>(unfold y9G;rw[bifF e2];rfl)
  ·have hlt:i < s.length:=by omega
   obtain ⟨m,rfl⟩:∃ k,m=k+1:=⟨m - 1,by omega⟩
   have hd:s.drop i=s[i]::s.drop (i+1):=(List.getElem_cons_drop (h:=hlt)).symm;have hg:s[i]?=some s[i]:=List.getElem?_eq_getElem hlt;have e0:decide ((i:Int)=0)=decide (i=0):=decide_eq_decide.2 (by omega)
   unfold y9G;rw[bifT (y7 (show (i:Int) < (s.length:Int) by omega)),yIn,hd,e0]
   simp only[bind_some];by_cases hc:s[i].toNat < 128
   ·rw[yI8 hg hc];have e1:yAR (s[i].toNat:Int)=y5A s[i].toNat:=decide_eq_decide.2 (by omega)
    have e2:yFg (s[i].toNat:Int)=y8e s[i].toNat:=decide_eq_decide.2 (by omega)
    simp only[e1,e2,nmOk];by_cases hb:(y5A s[i].toNat || (!decide (i=0) && y8e s[i].toNat))=true
    ·rw[if_pos hb,hb,Bool.true_and];have ih:=y9X s m (i+1) (by omega) (by omega)
     have e3:decide (i+1=0)=false:=yE (by omega)
     rw[e3,show ((i+1:Nat):Int)=(i:Int)+1 by omega]at ih
     exact ih
    ·rw[if_neg hb,Bool.eq_false_iff.2 hb,Bool.false_and];rfl
   ·have h1:=yJ4 hg (by omega)
    have e1:yAR (yf s (i:Int)).1=false:=yE (by omega)
    have e2:yFg (yf s (i:Int)).1=false:=yE (by omega)
    have e3:y5A s[i].toNat=false:=yE (by omega)
    have e4:y8e s[i].toNat=false:=yE (by omega)
    simp[e1,e2,nmOk,e3,e4]
theorem yGg(s:List UInt8)(h:s.length < lenMax):yJ0 s=some (isNm s,()):=by
 unfold yJ0;have:=y9X s s.length 0 (by omega) (by omega)
 rw[List.drop_zero,show decide (0=0)=true from rfl]at this
 rw[bifT (y7 h)];refine (show _=_ from this).trans ?_
 unfold isNm yDs;cases hn:nmOk true s with
 |false=>rfl
 |true =>
  rw[cond_true,Bool.true_and];cases s with
  |nil=>rfl
  |cons c l =>
   have e:decide (((c::l).length:Int)<=24)=decide (0 < (c::l).length/\(c::l).length<=24):=decide_eq_decide.2 (by simp only[length_cons];omega)
   rw[<- e];rfl
def yP(a b:Int):Int:=if a != 0 then a else b
theorem y0Q:y09 []=0:=rfl
theorem yM(a:Int)(l:List Int):y09 (a::l)=yP a (y09 l):=by
 unfold y09 yP;rw[List.find?_cons];cases h:(a != 0)<;>rfl
theorem y0B(a:Int):yP a 0=a:=by
 unfold yP;by_cases h:a=0<;>simp[h]
end Go.Tw
end
section
set_option maxRecDepth 100000
namespace Go.Tw
open Go.Vx Go.Vx.B Go.Proofs
abbrev Con:=List UInt8×Int×Int×Unit
abbrev Gau:=Int×Int×Unit
abbrev Tid:=List Con×List Gau×Int×Unit
def yBg(c:Con):Int:=y09 [bif isNm c.1 then 0 else 8,ckR c.2.1 1 96,ckR c.2.2.1 0 3]
def conE(done:List Con)(c:Con):Int:=yP (yBg c) (bif done.any (λ d=>d.1 == c.1)then 9 else 0)
def yEq:List Con->List Con->Int
 |_,[]=>0
 |done,n::l=>yP (conE done n) (yEq (done++[n]) l)
def y1Y(l:List Con):Int:=if l.length=0 then 12 else if 4 < l.length then 5 else yEq [] l
theorem y5Q(a b:Int):[a,b].length < lenMax:=by simp[lenMax]
theorem yFk(a b c:Int):[a,b,c].length < lenMax:=by simp[lenMax]
theorem ySq(a b c d:Int):[a,b,c,d].length < lenMax:=by simp[lenMax]
theorem yCl(s:List UInt8):zl_M s=some (bif isNm s then 0 else 8,()):=by
 unfold zl_M zl_m;rw[yNb];cases isNm s<;>rfl
theorem yAB(l:List Con)(i:Nat)(n:Con)(hn:l[i]?=some n){fin:Unit->Option ((Int×Unit)⊕Unit)}:∀ (m k:Nat),k+m=i ->
  y0e (λ i__ s__=>yHM l (i:Int) i__) fin m (k:Int) ()=if ((l.drop k).take m).any (λ d=>d.1 == n.1)=true then some (.inl (9,()))else fin ()
 |0,k,_=>by simp[y0e]
 |m+1,k,hk=>by
  have hi:i < l.length:=(List.getElem?_eq_some_iff.1 hn).1;have hkl:k < l.length:=by omega
  unfold y0e;have hb:yHM l (i:Int) (k:Int)=some (if (l[k].1 == n.1)=true then .inl (.inl (9,()))else .inr ()):=by
   unfold yHM;rw[y0M,y0M,hn,List.getElem?_eq_getElem hkl];simp only[bind_some];cases (l[k].1 == n.1)<;>rfl
  rw[hb];simp only[bind_some];have hd:(l.drop k).take (m+1)=l[k]::(l.drop (k+1)).take m:=by
   rw[<- List.getElem_cons_drop (h:=hkl),List.take_succ_cons]
  rw[hd,List.any_cons];cases h:(l[k].1 == n.1)with
  |true=>rfl
  |false =>
   rw[if_neg (by simp),Bool.false_or]
   have ih:=yAB l i n hn (fin:=fin) m (k+1) (by omega)
   rw[show ((k+1:Nat):Int)=(k:Int)+1 by omega]at ih
   exact ih
theorem yHj(l:List Con)(hl:l.length<=4)(i:Nat)(n:Con)(hn:l[i]?=some n) :
  yKd l (i:Int) n=some (bif conE (l.take i) n != 0 then .inl (conE (l.take i) n,())else .inr ()):=by
 have hi:i < l.length:=(List.getElem?_eq_some_iff.1 hn).1;unfold yKd;rw[yCl,y0M,hn];simp only[bind_some,y5e];rw[y8H _ (yFk _ _ _)];simp only[bind_some];show (bif (yBg n != 0)then some (Sum.inl (yBg n,()))else _)=_
 unfold conE yP;cases hs:(yBg n != 0)with
 |true=>simp only[cond_true,if_true,hs]
 |false =>
  simp only[cond_false,Bool.false_eq_true,if_false];rw[bifT (y7 (show (i:Int)<=9223372036854775807 by omega))]
  have e1:((i:Int) - 0).toNat=i:=by omega
  rw[e1];have:=yAB l i n hn (fin:=λ s__=>yNB l (i:Int)) i 0 (by omega)
  rw[show ((0:Nat):Int)=0 from rfl]at this
  rw[this,List.drop_zero];cases hany:(l.take i).any (λ d=>d.1 == n.1)with
  |true=>rw[if_pos rfl];rfl
  |false=>rw[if_neg (by simp)];rfl
theorem y9i(xs:List Con)(hl:xs.length<=4):∀ (l done:List Con),xs=done++l ->
  yH (λ i__ e__ s__=>yKd xs i__ e__) (λ s__=>yP9 xs) (done.length:Int) l ()=some (yEq done l,())
 |[],done,_=>rfl
 |n::l,done,hx=>by
  have hn:xs[done.length]?=some n:=by rw[hx];simp
  rw[yU,yHj xs hl done.length n hn];have ht:xs.take done.length=done:=by rw[hx];simp
  rw[ht];simp only[bind_some,yEq,yP];cases h:(conE done n != 0)with
  |true=>rfl
  |false =>
   have ih:=y9i xs hl l (done++[n]) (by rw[hx];simp)
   simp only[List.length_append,length_cons,List.length_nil]at ih;exact ih
theorem yMm(l:List Con):zJ_M l=some (y1Y l,()):=by
 unfold zJ_M y1Y;by_cases h0:l.length=0
 ·rw[bifT (show ((l.length:Int) == 0)=true by simp[h0]),if_pos h0]
 ·rw[bifF (show ((l.length:Int) == 0)=false by simpa using h0),if_neg h0]
  by_cases h8:4 < l.length
  ·rw[bifT (y7 (show (l.length:Int) > 4 by omega)),if_pos h8]
  ·rw[bifF (yE (show ¬ (l.length:Int) > 4 by omega)),if_neg h8,bifT (y7 (show l.length < lenMax by unfold lenMax;omega))]
   exact y9i l (by omega) l [] rfl
def yMe(m:List (List UInt8×Bool))(done:List Con):Prop:=∀ k,(y0T .str .bool m k).getD false=done.any λ d=>d.1 == k
theorem yIO(m:List (List UInt8×Bool))(k k':List UInt8):(y0T .str .bool (y1X .str .bool m k true) k').getD false=((k == k') || (y0T .str .bool m k').getD false):=by
 induction m with
 |nil =>
  show (y0T .str .bool [(k,true)] k').getD false=_
  simp only[y0T,eqV];by_cases h:k'=k
  ·subst h;simp
  ·have h1:(k' == k)=false:=beq_eq_false_iff_ne.2 h;have h2:(k == k')=false:=beq_eq_false_iff_ne.2 (Ne.symm h);show (bif (k' == k)then some true else none).getD false=_
   rw[h1,h2];rfl
 |cons p m ih =>
  show (y0T .str .bool (bif (k == p.1)then (k,true)::m else p::y1X .str .bool m k true) k').getD false=_
  by_cases h:k=p.1
  ·have h1:(k == p.1)=true:=by simp[h]
   rw[h1,cond_true];show (bif (k' == k)then some true else y0T .str .bool m k').getD false=((k == k') || (bif (k' == p.1)then some p.2 else y0T .str .bool m k').getD false)
   by_cases h2:k'=k
   ·have e1:(k' == k)=true:=by simp[h2]
    have e2:(k == k')=true:=by simp[h2]
    rw[e1,e2];rfl
   ·have e1:(k' == k)=false:=beq_eq_false_iff_ne.2 h2;have e2:(k == k')=false:=beq_eq_false_iff_ne.2 (Ne.symm h2);have e3:(k' == p.1)=false:=by rw[<- h];exact e1
    rw[e1,e2,e3];rfl
  ·have h1:(k == p.1)=false:=beq_eq_false_iff_ne.2 h;rw[h1,cond_false];show (bif (k' == p.1)then some p.2 else y0T .str .bool (y1X .str .bool m k true) k').getD false=((k == k') || (bif (k' == p.1)then some p.2 else y0T .str .bool m k').getD false)
   by_cases h2:k'=p.1
   ·have e1:(k' == p.1)=true:=by simp[h2]
    have e2:(k == k')=false:=by rw[h2];exact h1
    rw[e1,e2];rfl
   ·have e1:(k' == p.1)=false:=beq_eq_false_iff_ne.2 h2;rw[e1];exact ih
theorem yMe.put{m:List (List UInt8×Bool)}{done:List Con}(h:yMe m done)(n:Con):yMe (y1X .str .bool m n.1 true) (done++[n]):=by
 intro k;rw[yIO,h k,List.any_append];simp[Bool.or_comm]
theorem yLW(c:Con)(h:c.1.length < lenMax):zM_M c=some (yBg c,()):=by
 unfold zM_M zM_m;rw[yGg c.1 h];simp only[bind_some,y4K,y7s];rw[y1v _ (yFk _ _ _)];unfold yBg;cases isNm c.1<;>rfl
theorem yAK(xs:List Con):∀ (l done:List Con) (i:Int) (m:List (List UInt8×Bool)),(∀ n∈l,n.1.length < lenMax)->yMe m done ->
  yH (λ i__ e__ s__=>yKZ xs i__ e__ s__) (λ s__=>yOs xs s__) i l m=some (yEq done l,())
 |[],done,i,m,_,_=>rfl
 |n::l,done,i,m,hl,hk=>by
  have hb:yKZ xs i n m=some (bif conE done n != 0 then .inl (conE done n,())else .inr (y1X .str .bool m n.1 true)):=by
   unfold yKZ;rw[yLW _ (hl n (by simp))]
   simp only[bind_some,y4K,hk n.1];rw[y1v _ (y5Q _ _)];have e:y09 [yBg (n.fst,n.snd.fst,n.snd.snd.fst,()),bif done.any (λ d=>d.1 == n.1)then 9 else 0]=conE done n:=by
    rw[yM,yM,y0Q,y0B];rfl
   simp only[bind_some,e];cases (conE done n != 0)<;>rfl
  rw[yU,hb];simp only[bind_some,yEq,yP];cases h:(conE done n != 0)with
  |true=>rfl
  |false =>
   simp only[cond_false,Bool.false_eq_true,if_false];exact yAK xs l (done++[n]) (i+1) _ (λ x hx=>hl x (by simp[hx])) (hk.put n)
theorem yGd(l:List Con)(hn:∀ n∈l,n.1.length < lenMax)(hl:l.length < lenMax):zL_M l=some (y1Y l,()):=by
 unfold zL_M y1Y;simp only[y4K];rw[y1v _ (y5Q _ _)];simp only[bind_some];by_cases h0:l.length=0
 ·rw[show ((l.length:Int) == 0)=true by simp[h0],if_pos h0]
  rfl
 ·rw[show ((l.length:Int) == 0)=false by simpa using h0,if_neg h0]
  by_cases h8:4 < l.length
  ·rw[y7 (show (l.length:Int) > 4 by omega),if_pos h8]
   rfl
  ·rw[yE (show ¬ (l.length:Int) > 4 by omega),if_neg h8]
   rw[bifF (by rfl),bifT (y7 hl)]
   exact yAK l l [] 0 [] hn (λ k=>rfl)
end Go.Tw
end
section
set_option maxRecDepth 100000
namespace Go.Tw
open Go.Vx Go.Vx.B Go.Proofs
theorem y04{i:Int}(h0:-9223372036854775808<=i)(h1:i<=9223372036854775807):IntKind.i64.wrap i=i:=by
 rw[IntKind.wrap_i64];omega
def gI(a b:Int):Int:=(Nat.gcd a.natAbs b.natAbs:Nat)
theorem yFQ{β:Type}(K:Int->β)(body:Int×Int->Option (β⊕(Int×Int)))
  (hb:∀ a b:Int,body (a,b)=if b=0 then some (.inl (K a))else some (.inr (b,a.tmod b))) :
  ∀ (k m:Nat) (a b:Nat),b < 2 ^ k->2 * k+1<=m->y26 body m ((a:Int),(b:Int))=some (K (Nat.gcd a b:Nat))
 |k,0,a,b,_,hm=>by omega
 |k,m+1,a,b,hk,hm=>by
  unfold y26;rw[hb];by_cases h0:b=0
  ·subst h0;rw[if_pos (by rfl),Nat.gcd_zero_right]
   rfl
  ·rw[if_neg (by omega)]
   simp only[bind_some];have e1:(a:Int).tmod (b:Int)=((a % b:Nat):Int):=by rw[Int.ofNat_tmod]
   rw[e1];have hr:a % b < b:=Nat.mod_lt _ (by omega)
   have hg:Nat.gcd a b=Nat.gcd b (a % b):=by rw[gcd_comm a b,Nat.gcd_rec b a,gcd_comm]
   have hk1:1<=k:=by
    rcases Nat.eq_zero_or_pos k with h|h
    ·subst h;simp at hk;omega
    ·exact h
   match m,hm with
   |0,hm=>omega
   |m+1,hm =>
    unfold y26;rw[hb];by_cases h1:a % b=0
    ·rw[if_pos (by omega),hg,h1,Nat.gcd_zero_right]
     rfl
    ·rw[if_neg (by omega)]
     simp only[bind_some];generalize hr2:a % b=r at *;have e2:(b:Int).tmod ((r:Nat):Int)=((b % r:Nat):Int):=(Int.ofNat_tmod b r).symm;rw[e2];have hlt:b % r < 2 ^ (k - 1):=by
      have h3:2 * (b % r) < b:=by
       have h4:b % r < r:=Nat.mod_lt _ (by omega)
       have h5:b % r+r<=b:=by
        have h6:=Nat.div_add_mod b r;have h7:1<=b / r:=Nat.div_pos (by omega) (by omega)
        have h8:r * 1<=r * (b / r):=Nat.mul_le_mul_left _ h7;omega
       omega
      have h9:2 ^ k=2 * 2 ^ (k - 1):=by
       rw[<- Nat.pow_succ'];congr 1
       omega
      omega
     rw[yFQ K body hb (k - 1) m r (b % r) hlt (by omega),hg,gcd_comm b,Nat.gcd_rec r b,gcd_comm]
theorem yJY(n:Int)(h0:-9223372036854775807<=n)(h1:n<=9223372036854775807):(z08 n).1=(n.natAbs:Int):=by
 unfold z08;simp only[if_true];rw[y04 (by omega) (by omega)]
 split<;>omega
theorem yU9{n:Int}(h0:-9223372036854775807<=n)(h1:n<=9223372036854775807):n.natAbs < 2 ^ 63:=by
 have:(2:Nat) ^ 63=9223372036854775808:=by decide
 omega
theorem yCF(l:List Int)(i:Int)(n:Int)(a:Nat)(h0:-9223372036854775807<=n)(h1:n<=9223372036854775807):y7z l i n (a:Int)=some (.inr (gI a n)):=by
 unfold y7z;rw[yJY n h0 h1];have:=yFQ (λ x=>(Sum.inr x:(Int×Unit)⊕Int)) (λ s__=>y5m l ((l.length:Int)) i s__.1 s__.2) (λ a b=>by
  unfold y5m;by_cases h:b=0
  ·subst h;rfl
  ·have e:(b != 0)=true:=by simp[h]
   have e2:(b == 0)=false:=by simp[h]
   simp only[e,e2,cond_true,cond_false,if_neg h]) 63 wMax a n.natAbs (yU9 h0 h1) (by unfold wMax;omega)
 rw[this];rfl
theorem yO1(a b:Int):∃ n:Nat,gI a b=(n:Int):=⟨_,rfl⟩
theorem yME(a:Nat)(x y:Int)(h0:-9223372036854775807<=x)(h1:x<=9223372036854775807)(h2:-9223372036854775807<=y)(h3:y<=9223372036854775807):y9U (a:Int) [x,y]=some (gI (gI a x) y,()):=by
 unfold y9U;rw[bifT (y7 (by simp[lenMax])),yU,yCF _ _ _ _ h0 h1]
 simp only[bind_some];obtain ⟨n,hn⟩:=yO1 a x;rw[hn,yU,yCF _ _ _ _ h2 h3];rfl
def comG:List Gau->Int->Int
 |[],d=>d
 |z::l,d=>comG l (gI (gI d z.1) z.2.1)
def fits(z:Gau):Prop:=(-9223372036854775807<=z.1/\z.1<=9223372036854775807)/\(-9223372036854775807<=z.2.1/\z.2.1<=9223372036854775807)
theorem yCr(xs:List Gau):∀ (l:List Gau) (i:Int) (d:Nat),(∀ z∈l,fits z)->yH (λ i__ e__ s__=>y8C xs i__ e__ s__) (λ s__=>yH4 xs s__) i l (d:Int)=some (comG l d,())
 |[],i,d,_=>rfl
 |z::l,i,d,h=>by
  have hz:=h z (by simp)
  rw[yU];unfold y8C;rw[yME d _ _ hz.1.1 hz.1.2 hz.2.1 hz.2.2];simp only[bind_some,comG];obtain ⟨n,hn⟩:=yO1 (gI d z.1) z.2.1;rw[hn];exact yCr xs l (i+1) n λ z hz=>h z (by simp[hz])
theorem yOx(l:List Gau)(d:Nat)(h:∀ z∈l,fits z)(hl:l.length < lenMax):yFI l (d:Int)=some (comG l d,()):=by
 unfold yFI;rw[bifT (y7 hl)];exact yCr l l 0 d h
def y1t(z:Gau):Int:=y09 [ckR z.1 (-8796093022208) 8796093022208,ckR z.2.1 (-8796093022208) 8796093022208]
theorem y2V{l:List Int}(h:y09 l=0):∀ e∈l,e=0:=by
 induction l with
 |nil=>intro e he;cases he
 |cons a l ih =>
  rw[yM]at h;unfold yP at h;by_cases ha:a=0
  ·subst ha;simp only[bne_self_eq_false,Bool.false_eq_true,if_false]at h;intro e he;rcases List.mem_cons.1 he with rfl|he
   ·rfl
   ·exact ih h e he
  ·have:(a != 0)=true:=by simp[ha]
   rw[this,if_pos rfl]at h;exact absurd h ha
theorem y3R{n lo hi:Int}(h:ckR n lo hi=0):lo<=n/\n<=hi:=by
 unfold ckR at h;split at h
 ·cases h
 ·omega
theorem yEg{z:Gau}(h:y1t z=0):(-8796093022208<=z.1/\z.1<=8796093022208)/\(-8796093022208<=z.2.1/\z.2.1<=8796093022208):=by
 have h1:=y2V h;exact ⟨y3R (h1 _ (by simp)),y3R (h1 _ (by simp))⟩
theorem y89{z:Gau}(h:y1t z=0):fits z:=by
 have:=yEg h;unfold fits;omega
theorem yMG(z:Gau):zz_M z=some (y1t z,()):=by
 unfold zz_M zz_m;simp only[y7s];rw[y1v _ (y5Q _ _)];rfl
theorem y0Z{n:Nat}(h:n<=memMax):n < lenMax:=Nat.lt_of_le_of_lt h yD0
theorem yJS(l:List Gau)(hl:l.length<=memMax):zF_M l (λ x=>zz_M x.1)=some (l.map y1t,()):=by
 unfold zF_M;rw[bifT (y7 (y0Z hl))];rw[y1P y1t l 0 [] (by simpa using hl) λ i e s _ hs=>by
  unfold yPD;show (Option.bind (zz_M e) _)=_
  rw[yMG];simp only[bind_some];rw[bifT (y7 hs)]]
 rfl
def y2t(t:Tid):Int:=
 yP (y1Y t.1) (yP (if t.2.1.length=t.1.length then 0 else 2) (yP (ckR t.2.2.1 1 268435456) (yP (y09 (t.2.1.map y1t)) (if comG t.2.1 t.2.2.1=1 then 0 else 1))))
theorem yb{a b:Int}(h:a≠0):yP a b=a:=by unfold yP;rw[if_pos (by simpa using h)]
theorem yQ(b:Int):yP 0 b=b:=by unfold yP;rw[if_neg (by simp)]
theorem y05(a b c:Int):yP (yP a b) c=yP a (yP b c):=by
 by_cases h:a=0
 ·subst h;simp only[yQ]
 ·rw[yb h,yb h,yb h]
theorem yA0{l:List Gau}(h:y09 (l.map y1t)=0):∀ z∈l,y1t z=0:=λ z hz=>y2V h _ (List.mem_map.2 ⟨z,hz,rfl⟩)
theorem yT5(t:Tid)(hn:∀ n∈t.1,n.1.length < lenMax)(hl:t.1.length < lenMax)(ha:t.2.1.length<=memMax):zy_M t=some (y2t t,()):=by
 unfold zy_M zy_m;rw[yGd _ hn hl,yJS _ ha];simp only[bind_some];rw[y1v _ (by rw[List.length_map];exact y0Z ha)]
 simp only[bind_some,y4K,y7s];rw[y1v _ (ySq _ _ _ _)];simp only[bind_some];have e:(bif ((t.2.1.length:Int) != (t.1.length:Int))then (2:Int)else 0)=if t.2.1.length=t.1.length then 0 else 2:=by
  by_cases h:t.2.1.length=t.1.length
  ·rw[if_pos h,h];simp
  ·rw[if_neg h];have:((t.2.1.length:Int) != (t.1.length:Int))=true:=by simpa using λ hh=>h (by omega)
   rw[this];rfl
 rw[e,yM,yM,yM,yM,y0Q,y0B];unfold y2t;rw[<- y05,<- y05,<- y05,<- y05,<- y05];generalize hq:yP (yP (yP (y1Y t.1) (if t.2.1.length=t.1.length then 0 else 2)) (ckR t.2.2.1 1 268435456)) (y09 (t.2.1.map y1t))=q
 by_cases h0:q=0
 ·subst h0;have hp:y09 (t.2.1.map y1t)=0/\ckR t.2.2.1 1 268435456=0:=by
   rw[y05,y05]at hq;by_cases h1:y1Y t.1=0
   ·rw[h1,yQ]at hq;by_cases h2:t.2.1.length=t.1.length
    ·rw[if_pos h2,yQ]at hq;by_cases h3:ckR t.2.2.1 1 268435456=0
     ·rw[h3,yQ]at hq;exact ⟨hq,h3⟩
     ·rw[yb h3]at hq;exact absurd hq h3
    ·rw[if_neg h2,yb (by decide)]at hq;cases hq
   ·rw[yb h1]at hq;exact absurd hq h1
  have hd:=y3R hp.2;obtain ⟨d,hd2⟩:∃ d:Nat,t.2.2.1=(d:Int):=⟨t.2.2.1.toNat,by omega⟩
  rw[bifF (by rfl),yQ,hd2,yOx _ d (λ z hz=>y89 (yA0 hp.1 z hz)) (y0Z ha)]
  simp only[bind_some];by_cases hc:comG t.2.1 (d:Int)=1
  ·rw[if_pos hc,hc];rfl
  ·rw[if_neg hc];have:(comG t.2.1 (d:Int) != 1)=true:=by simpa using hc
   rw[this];rfl
 ·rw[bifT (by simpa using h0),yb h0]
end Go.Tw
end
section
set_option maxRecDepth 100000
namespace Go.Tw
open Go.Vx Go.Vx.B Go.Proofs
theorem yIr{β σ:Type}{body:Int->σ->Option (β⊕σ)}{fin:σ->Option β}{i:Int}{s:σ}:y0e body fin 0 i s=fin s:=rfl
theorem y4m{β σ:Type}{body:Int->σ->Option (β⊕σ)}{fin:σ->Option β}{m:Nat}{i:Int}{s:σ}:y0e body fin (m+1) i s=(body i s).bind λ z=>match z with
  |.inl y=>some y
  |.inr s'=>y0e body fin m (i+1) s':=rfl
theorem yDo{β γ:Type}{body:Int->List γ->Option (β⊕List γ)}{fin:List γ->Option β}(f:Int->γ) :
  ∀ (m:Nat) (i:Int) (s:List γ),s.length+m<=memMax->(∀ (k:Nat) s,k < m->s.length+1<=memMax->body (i+k) s=some (.inr (s++[f (i+k)])))->y0e body fin m i s=fin (s++(List.range m).map λ k:Nat=>f (i+k))
 |0,i,s,_,_=>by simp[yIr]
 |m+1,i,s,hl,h=>by
  have h0:=h 0 s (by omega) (by omega)
  rw[show i+((0:Nat):Int)=i by omega]at h0
  rw[y4m,h0];simp only[bind_some];rw[yDo f m (i+1) (s++[f i]) (by simp;omega) λ k s hk hs=>by
   have:=h (k+1) s (by omega) hs
   rw[show i+((k+1:Nat):Int)=i+1+(k:Int) by omega]at this
   exact this]
  congr 1
  rw[List.range_succ_eq_map,List.map_cons,List.map_map,List.append_assoc];congr 1
  simp only[List.singleton_append,List.cons.injEq];refine ⟨by congr 1;omega,List.map_congr_left λ k _=>?_⟩
  show f (i+1+(k:Int))=f (i+((k+1:Nat):Int))
  congr 1
  omega
def y1J(n:Int):Gau:=if n=0 then (1,0,())else if n=1 then (0,1,())else if n=2 then (-1,0,())else (0,-1,())
def chr(c:Con)(tick:Int):Gau:=y1J (c.2.2.1 * (tick / c.2.1) % 4)
def y4I(c:Con):Prop:=(1<=c.2.1/\c.2.1<=96)/\(0<=c.2.2.1/\c.2.2.1<=3)
def y5y(t:Int):Prop:=0<=t/\t<=200000
theorem yFq{c:Con}{t:Int}(hc:y4I c)(ht:y5y t):IntKind.i64.wrap (c.2.2.1 * IntKind.i64.wrap (t.tdiv c.2.1))=c.2.2.1 * (t / c.2.1)/\0<=c.2.2.1 * (t / c.2.1)/\c.2.2.1 * (t / c.2.1)<=600000:=by
 obtain ⟨⟨h1,h2⟩,h3,h4⟩:=hc;obtain ⟨h5,h6⟩:=ht;have e1:t.tdiv c.2.1=t / c.2.1:=Int.tdiv_eq_ediv_of_nonneg h5;have h7:0<=t / c.2.1:=Int.ediv_nonneg h5 (by omega)
 have h8:t / c.2.1<=t:=Int.ediv_le_self _ h5;generalize t / c.2.1=q at e1 h7 h8;have h9:0<=c.2.2.1 * q:=Int.mul_nonneg h3 h7;have h10:c.2.2.1 * q<=3 * q:=Int.mul_le_mul_of_nonneg_right h4 h7;rw[e1,y04 (i:=q) (by omega) (by omega),y04 (by omega) (by omega)]
 exact ⟨rfl,h9,by omega⟩
theorem mod4(k:Int):k % 4=0\/k % 4=1\/k % 4=2\/k % 4=3:=by omega
theorem yMF{c:Con}{t:Int}(hc:y4I c)(ht:y5y t):zR_M c t=some (chr c t,()):=by
 unfold zR_M zR_m chr;obtain ⟨h1,h2,h3⟩:=yFq hc ht;have hl:(c.2.1 == 0)=false:=by have:=hc.1.1;simp;omega
 rw[bifF hl];rw[h1];generalize c.2.2.1 * (t / c.2.1)=k at h2 h3;have e:k.tmod 4=k % 4:=Int.tmod_eq_emod_of_nonneg h2;rw[e];rcases mod4 k with h|h|h|h<;>rw[h]<;>rfl
theorem yQD(k:Int)(h2:0<=k)(h3:k<=600000):yMP (1,0,()) k=some (y1J (k % 4),()):=by
 unfold yMP;have e:k.tmod 4=k % 4:=Int.tmod_eq_emod_of_nonneg h2;rw[e];rcases mod4 k with h|h|h|h<;>rw[h]<;>rfl
theorem yGT{c:Con}{t:Int}(hc:y4I c)(ht:y5y t):zo_M c t=some (chr c t,()):=by
 unfold zo_M zo_m chr;obtain ⟨h1,h2,h3⟩:=yFq hc ht;have hl:(c.2.1 == 0)=false:=by have:=hc.1.1;simp;omega
 rw[bifF hl,h1,yQD _ h2 h3];rfl
noncomputable def sumV:List Con->List Gau->Int->Gau->Gau
 |c::l,z::v,t,acc=>sumV l v t (z17 acc (z0z z (chr c t)).1).1
 |_,_,_,acc=>acc
theorem yDJ(v:List Gau)(t:Int)(xs:List Con)(ht:y5y t):∀ (l:List Con) (d:Nat) (x y:Int),l.length+d=v.length->(∀ c∈l,y4I c) ->
  yH (λ i__ e__ s__=>yDV v t xs 0 0 i__ e__ s__.1 s__.2) (λ s__=>yKf v t xs 0 0 s__.1 s__.2) (d:Int) l (x,y)=some (sumV l (v.drop d) t (x,y,()),())
 |[],d,x,y,hl,_=>by
  have:v.drop d=[]:=List.drop_eq_nil_of_le (by simp at hl;omega)
  rw[this];rfl
 |c::l,d,x,y,hl,hc=>by
  simp only[length_cons]at hl;have hd:d < v.length:=by omega
  have hv:v[d]?=some v[d]:=List.getElem?_eq_getElem hd;have hdr:v.drop d=v[d]::v.drop (d+1):=(List.getElem_cons_drop (h:=hd)).symm;have hb:yDV v t xs 0 0 (d:Int) c x y=some (.inr ((z17 (x,y,()) (z0z v[d] (chr c t)).1).1.1,(z17 (x,y,()) (z0z v[d] (chr c t)).1).1.2.1)):=by
   unfold yDV;rw[y0M,hv];simp only[bind_some];rw[yMF (c:=(c.1,c.2.1,c.2.2.1,())) (hc c (by simp)) ht]
   rfl
  rw[yU];simp only[hb,bind_some];have ih:=yDJ v t xs ht l (d+1) (z17 (x,y,()) (z0z v[d] (chr c t)).1).1.1 (z17 (x,y,()) (z0z v[d] (chr c t)).1).1.2.1 (by omega) λ c hc2=>hc c (by simp[hc2])
  rw[hdr];exact ih
theorem yP2{l:List Con}{v:List Gau}{t:Int}(hl:l.length=v.length)(hlm:l.length < lenMax)(hc:∀ c∈l,y4I c)(ht:y5y t):yNP l v t=some (sumV l v t (0,0,()),()):=by
 unfold yNP;rw[bifT (y7 hlm)];exact yDJ v t l ht l 0 0 0 (by omega) hc
structure okT (t:Tid):Prop where
 len:t.1.length=t.2.1.length
 few:t.1.length<=4
 con:∀ c∈t.1,y4I c
 den:1<=t.2.2.1/\t.2.2.1<=268435456
 part:∀ z∈t.2.1,y1t z=0
 red:comG t.2.1 t.2.2.1=1
noncomputable def valT(t:Tid)(tick:Int):Gau:=sumV t.1 t.2.1 tick (0,0,())
theorem yS1{t:Tid}(h:okT t){k:Int}(hk:y5y k):yAM t k=some (valT t k,()):=by
 unfold yAM yQM;rw[yP2 h.len (by have:=h.few;unfold lenMax;omega) h.con hk]
 rfl
theorem yJ{a b:Int}(h:yP a b=0):a=0/\b=0:=by
 by_cases ha:a=0
 ·subst ha;rw[yQ]at h;exact ⟨rfl,h⟩
 ·rw[yb ha]at h;exact absurd h ha
theorem yH7:∀ (l done:List Con),yEq done l=0->∀ c∈l,yBg c=0
 |[],_,_,c,hc=>by cases hc
 |n::l,done,h,c,hc=>by
  obtain ⟨h1,h2⟩:=yJ h;rcases List.mem_cons.1 hc with rfl|hc
  ·exact (yJ h1).1
  ·exact yH7 l _ h2 c hc
theorem yNW{c:Con}(h:yBg c=0):y4I c/\isNm c.1=true:=by
 have h1:=y2V h;refine ⟨⟨y3R (h1 _ (by simp)),y3R (h1 _ (by simp))⟩,?_⟩
 have:=h1 _ (List.mem_cons_self ..);cases hn:isNm c.1 with
 |true=>rfl
 |false=>rw[hn]at this;cases this
theorem yCY{l:List Con}(h:y1Y l=0):0 < l.length/\l.length<=4/\(∀ c∈l,y4I c):=by
 unfold y1Y at h;split at h
 ·cases h
 ·split at h
  ·cases h
  ·exact ⟨by omega,by omega,λ c hc=>(yNW (yH7 l [] h c hc)).1⟩
theorem yCA{t:Tid}(h:y2t t=0):okT t:=by
 unfold y2t at h;obtain ⟨h1,h2⟩:=yJ h;obtain ⟨h3,h4⟩:=yJ h2;obtain ⟨h5,h6⟩:=yJ h4;obtain ⟨h7,h8⟩:=yJ h6;obtain ⟨a1,a2,a3⟩:=yCY h1;refine ⟨?_,a2,a3,y3R h5,yA0 h7,?_⟩
 ·by_cases hl:t.2.1.length=t.1.length
  ·exact hl.symm
  ·rw[if_neg hl]at h3;cases h3
 ·by_cases hg:comG t.2.1 t.2.2.1=1
  ·exact hg
  ·rw[if_neg hg]at h8;cases h8
end Go.Tw
end
