import Derived.Test.YtlaebedgpkiodaaGreatDoorBD
import Derived.KernelRfl
set_option linter.all false
open List (findSome?_cons length_cons length_nil)
open Option (bind_some)
open Nat (gcd_comm)
section
set_option maxRecDepth 1000000
namespace Go.Tw
open Go.Vx Go.Vx.B Go.Proofs
theorem yG9:yNq=some (true,()):=by kernel_rfl
end Go.Tw
end
section
set_option maxRecDepth 100000
namespace Go.Tw
open Go.Vx Go.Vx.B Go.Proofs
section
variable {α β γ σ:Type}
theorem yJE{body:Int->α->σ->Option (β⊕σ)}{fin:σ->Option β}{i:Int}{s:σ}:yQ body fin i [] s=fin s:=rfl
theorem y0L{body:Int->α->σ->Option (β⊕σ)}{fin:σ->Option β}{i:Int}{e:α}{l:List α}{s:σ}:yQ body fin i (e::l) s=(body i e s).bind λ z=>match z with
  |.inl y=>some y
  |.inr s'=>yQ body fin (i+1) l s':=rfl
theorem y4x{body:Int->α->Unit->Option (β⊕Unit)}{fin:Unit->Option β}(p:α->Option β) :
  ∀ (l:List α) (i:Int),(∀ i e,e∈l->body i e ()=some (match p e with|some y=>.inl y|none=>.inr ()))->yQ body fin i l ()=match l.findSome? p with|some y=>some y|none=>fin ()
 |[],i,_=>rfl
 |e::l,i,h=>by
  rw[y0L,h i e (by simp),findSome?_cons]
  cases p e with
  |none=>exact y4x p l (i+1) λ i e he=>h i e (by simp[he])
  |some y=>rfl
theorem y5f{body:Int->α->List γ->Option (β⊕List γ)}{fin:List γ->Option β}(f:α->γ) :
  ∀ (l:List α) (i:Int) (s:List γ),s.length+l.length<=memMax->(∀ i e s,e∈l->s.length+1<=memMax->body i e s=some (.inr (s++[f e])))->yQ body fin i l s=fin (s++l.map f)
 |[],i,s,_,_=>by simp[yJE]
 |e::l,i,s,hl,h=>by
  simp only[length_cons]at hl;rw[y0L,h i e s (by simp) (by omega)]
  simp only[bind_some];rw[y5f f l (i+1) (s++[f e]) (by simp;omega) λ i e s he hs=>h i e s (by simp[he]) hs]
  simp
end
theorem yM{p:Prop}[Decidable p](h:p):decide p=true:=decide_eq_true h
theorem yo{p:Prop}[Decidable p](h:¬ p):decide p=false:=decide_eq_false h
theorem bifT{α:Type}{c:Bool}{a b:α}(h:c=true):(bif c then a else b)=a:=by rw[h];rfl
theorem bifF{α:Type}{c:Bool}{a b:α}(h:c=false):(bif c then a else b)=b:=by rw[h];rfl
theorem y7o:memMax < lenMax:=by decide
def ckR(n lo hi:Int):Int:=if n < lo\/hi < n then 3 else 0
def y1O(l:List Int):Int:=(l.find? (· != 0)).getD 0
theorem y3p(n lo hi:Int):za n lo hi=(ckR n lo hi,()):=by
 unfold za ckR;by_cases h1:n < lo
 ·rw[bifT (yM h1),if_pos (.inl h1)]
 ·rw[bifF (yo h1)];by_cases h2:n > hi
  ·rw[bifT (yM h2),if_pos (.inr h2)]
  ·rw[bifF (yo h2),if_neg (by omega)]
theorem y6W(c:Bool)(e:Int):z16 c e=(bif c then e else 0,()):=by
 unfold z16;cases c<;>rfl
theorem y84(n lo hi:Int):z0e n lo hi=(ckR n lo hi,()):=by
 unfold z0e ckR;by_cases h1:n < lo
 ·rw[bifT (yM h1),y6W,cond_true,if_pos (.inl h1)]
 ·rw[bifF (yo h1),y6W];by_cases h2:n > hi
  ·rw[yM h2,cond_true,if_pos (.inr h2)]
  ·rw[yo h2,cond_false,if_neg (by omega)]
theorem y9c(l:List Int):l.findSome? (λ e=>if e != 0 then some (e,())else none)=(l.find? (· != 0)).map λ e=>(e,()):=by
 induction l with
 |nil=>rfl
 |cons e l ih =>
  rw[findSome?_cons,List.find?_cons];cases he:(e != 0)with
  |true=>rfl
  |false=>simpa using ih
theorem y3Q(l:List Int)(h:l.length < lenMax):y3c l=some (y1O l,()):=by
 unfold y3c;rw[bifT (yM h),y4x (λ e=>if e != 0 then some (e,())else none) l 0 (λ i e _=>by
  unfold yI1;cases he:(e != 0)<;>rfl),y9c]
 unfold y1O yII;cases l.find? (· != 0)<;>rfl
theorem y6T{α:Type}(l:List α)(i:Nat):idx l (i:Int)=l[i]?:=by
 unfold idx;rw[if_pos (Int.natCast_nonneg i)];rfl
theorem y7m{α β:Type}{body:Int->α->Unit->Option (β⊕Unit)}{fin:Unit->Option β}(xs:List α)(p:α->Option β) :
  ∀ (l done:List α),xs=done++l->(∀ (i:Nat) e,xs[i]?=some e->body (i:Int) e ()=some (match p e with|some y=>.inl y|none=>.inr ())) ->
   yQ body fin (done.length:Int) l ()=match l.findSome? p with|some y=>some y|none=>fin ()
 |[],done,_,_=>rfl
 |e::l,done,hx,h=>by
  rw[y0L,h done.length e (by rw[hx];simp),findSome?_cons]
  cases p e with
  |none =>
   have:=y7m (body:=body) (fin:=fin) xs p l (done++[e]) (by rw[hx];simp) h
   simp only[List.length_append,length_cons,length_nil]at this;exact this
  |some y=>rfl
theorem yBq(l:List Int)(h:l.length < lenMax):yFc l=some (y1O l,()):=by
 unfold yFc;have:=y7m (body:=λ i__ e__ s__=>yFR l i__ e__) (fin:=λ s__=>yEv l) l (λ e=>if e != 0 then some (e,())else none) l [] rfl (λ i e hi=>by
  unfold yFR;cases he:(e != 0)with
  |true=>rw[y6T,hi];rfl
  |false=>rfl)
 rw[bifT (yM h)];refine this.trans ?_
 rw[y9c];unfold y1O yEv;cases l.find? (· != 0)<;>rfl
def y5V(c:Nat):Bool:=decide (65<=c/\c<=90\/97<=c/\c<=122)
def y83(c:Nat):Bool:=decide (48<=c/\c<=57\/c=95)
def nmOk:Bool->List UInt8->Bool
 |_,[]=>true
 | first,c::l=>(y5V c.toNat || (!first && y83 c.toNat)) && nmOk false l
def isNm(s:List UInt8):Bool:=nmOk true s && decide (0 < s.length/\s.length<=24)
theorem yA4:∀ (s0 s:List UInt8) (i:Int),0<=i->yQ (λ i__ e__ s__=>yBS s0 i__ e__) (λ s__=>yIy s0) i s ()=some (nmOk (decide (i=0)) s,())
  |s0,[],i,_=>rfl
  |s0,c::l,i,hi=>by
    rw[y0L];have ih:=yA4 s0 l (i+1) (by omega)
    have e0:decide (i+1=0)=false:=yo (by omega)
    rw[e0]at ih;unfold nmOk;have hb:yBS s0 i c=some (if (y5V c.toNat || (!decide (i=0) && y83 c.toNat))=true then .inr ()else .inl (false,())):=by
      unfold yBS y6i y5V y83;have g3:(i == 0)=decide (i=0):=by by_cases h:i=0<;>simp[h]
      have g4:((c.toNat:Int) != 95)=!decide ((c.toNat:Int)=95):=by by_cases h:(c.toNat:Int)=95<;>simp[h]
      rw[g3,g4];by_cases h1:(97:Int)<=c.toNat<;>by_cases h2:(c.toNat:Int)<=122<;>by_cases h3:(65:Int)<=c.toNat<;>by_cases h4:(c.toNat:Int)<=90<;>by_cases h5:(c.toNat:Int) < 48<;>by_cases h6:(c.toNat:Int) > 57<;>by_cases h7:(c.toNat:Int)=95<;>by_cases h8:i=0 <;>
        first
        | omega
        | (have g1:(decide (65<=c.toNat/\c.toNat<=90\/97<=c.toNat/\c.toNat<=122))=decide ((65:Int)<=c.toNat/\(c.toNat:Int)<=90\/(97:Int)<=c.toNat/\(c.toNat:Int)<=122):=by
            apply decide_eq_decide.2;omega
           have g2:(decide (48<=c.toNat/\c.toNat<=57\/c.toNat=95))=decide (¬ (c.toNat:Int) < 48/\¬ (c.toNat:Int) > 57\/(c.toNat:Int)=95):=by
            apply decide_eq_decide.2;omega
           rw[g1,g2];simp[h1,h2,h3,h4,h5,h6,h7,h8])
    rw[hb];simp only[bind_some];by_cases hc:(y5V c.toNat || (!decide (i=0) && y83 c.toNat))=true
    · rw[if_pos hc,hc,Bool.true_and];exact ih
    · rw[if_neg hc,Bool.eq_false_iff.2 hc];rfl
theorem yKW(s:List UInt8):yLN s=some (isNm s,()):=by
 unfold yLN isNm;by_cases h0:s.length=0
 ·have:((s.length:Int) == 0)=true:=by simp[h0]
  rw[bifT this,show decide (0 < s.length/\s.length<=24)=false from yo (by omega),Bool.and_false]
 ·have:((s.length:Int) == 0)=false:=by simpa using h0
  rw[bifF this];by_cases h1:24 < s.length
  ·rw[bifT (yM (by omega)),show decide (0 < s.length/\s.length<=24)=false from yo (by omega),Bool.and_false]
  ·rw[bifF (yo (show ¬ ((s.length:Int) > 24) by omega)),bifT (yM (show s.length < lenMax by unfold lenMax;omega)),yA4 s s 0 (by omega),yM rfl]
   rw[show decide (0 < s.length/\s.length<=24)=true from yM ⟨by omega,by omega⟩,Bool.and_true]
theorem yLj{bs:List UInt8}{i:Nat}{c:UInt8}(h:bs[i]?=some c):(⟨bs.toArray⟩:ByteArray).get! i=c:=by
 show bs.toArray[i]! = c
 rw[getElem!_def];simp[h]
theorem yFs{bs:List UInt8}{i:Nat}{c:UInt8}(h:bs[i]?=some c)(hc:c.toNat < 128):yW bs (i:Int)=((c.toNat:Int),(i:Int)+1):=by
 unfold yW Utf8.decode;have h0:(⟨bs.toArray⟩:ByteArray).get! ((i:Int).toNat+0)=c:=by rw[Int.toNat_natCast,Nat.add_zero];exact yLj h
 simp only[h0];rw[if_pos hc];rfl
theorem yIA{bs:List UInt8}{i:Nat}{c:UInt8}(h:bs[i]?=some c)(hc:128<=c.toNat):128<=(yW bs (i:Int)).1:=by
 unfold yW Utf8.decode;have h0:(⟨bs.toArray⟩:ByteArray).get! ((i:Int).toNat+0)=c:=by rw[Int.toNat_natCast,Nat.add_zero];exact yLj h
 simp only[h0];rw[if_neg (by omega)]
 have he:Utf8.runeError=65533:=rfl;split
 ·split
  ·rename_i h2;show (128:Int)<=((_:Nat):Int);omega
  ·rw[he];decide
 ·split
  ·split
   ·rename_i h2;simp only[Bool.and_eq_true,decide_eq_true_eq]at h2;show (128:Int)<=((_:Nat):Int);omega
   ·rw[he];decide
  ·split
   ·split
    ·rename_i h2;simp only[Bool.and_eq_true,decide_eq_true_eq]at h2;show (128:Int)<=((_:Nat):Int);omega
    ·rw[he];decide
   ·rw[he];decide
def yBC(r:Int):Bool:=decide (65<=r/\r<=90\/97<=r/\r<=122)
def yEy(r:Int):Bool:=decide (48<=r/\r<=57\/r=95)
theorem yGE(s str:List UInt8)(pos:Int):yCP s str pos=some (if (yBC (yW str pos).1 || (!decide (pos=0) && yEy (yW str pos).1))=true then .inr ()else .inl (false,())):=by
 unfold yCP y5L y8W yBC yEy;generalize (yW str pos).1=r;have g3:(pos == 0)=decide (pos=0):=by by_cases h:pos=0<;>simp[h]
 have g4:(r == 95)=decide (r=95):=by by_cases h:r=95<;>simp[h]
 rw[g3,g4];by_cases h1:r >= 97<;>by_cases h2:r<=122<;>by_cases h3:r >= 65<;>by_cases h4:r<=90<;>by_cases h5:r >= 48<;>by_cases h6:r<=57<;>by_cases h7:r=95<;>by_cases h8:pos=0 <;>
  first
  | omega
  | simp[h1,h2,h3,h4,h5,h6,h7,h8]
theorem y9o(s:List UInt8):∀ (m i:Nat),s.length<=i+m->i<=s.length ->
  y9C s (λ i__ s__=>yCP s s i__) (λ s__=>yCR s s) m (i:Int) ()=bif nmOk (decide (i=0)) (s.drop i)then yCR s s else some (false,())
 |m,i,hm,hi=>by
  by_cases hl:i=s.length
  ·have e1:s.drop i=[]:=List.drop_eq_nil_of_le (by omega)
   have e2:decide ((i:Int) < (s.length:Int))=false:=yo (by omega)
   rw[e1];cases m<;>(unfold y9C;rw[bifF e2];rfl)
  ·have hlt:i < s.length:=by omega
   obtain ⟨m,rfl⟩:∃ k,m=k+1:=⟨m - 1,by omega⟩
   have hd:s.drop i=s[i]::s.drop (i+1):=(List.getElem_cons_drop (h:=hlt)).symm;have hg:s[i]?=some s[i]:=List.getElem?_eq_getElem hlt;have e0:decide ((i:Int)=0)=decide (i=0):=decide_eq_decide.2 (by omega)
   unfold y9C;rw[bifT (yM (show (i:Int) < (s.length:Int) by omega)),yGE,hd,e0]
   simp only[bind_some];by_cases hc:s[i].toNat < 128
   ·rw[yFs hg hc];have e1:yBC (s[i].toNat:Int)=y5V s[i].toNat:=decide_eq_decide.2 (by omega)
    have e2:yEy (s[i].toNat:Int)=y83 s[i].toNat:=decide_eq_decide.2 (by omega)
    simp only[e1,e2,nmOk];by_cases hb:(y5V s[i].toNat || (!decide (i=0) && y83 s[i].toNat))=true
    ·rw[if_pos hb,hb,Bool.true_and];have ih:=y9o s m (i+1) (by omega) (by omega)
     have e3:decide (i+1=0)=false:=yo (by omega)
     rw[e3,show ((i+1:Nat):Int)=(i:Int)+1 by omega]at ih
     exact ih
    ·rw[if_neg hb,Bool.eq_false_iff.2 hb,Bool.false_and];rfl
   ·have h1:=yIA hg (by omega)
    have e1:yBC (yW s (i:Int)).1=false:=yo (by omega)
    have e2:yEy (yW s (i:Int)).1=false:=yo (by omega)
    have e3:y5V s[i].toNat=false:=yo (by omega)
    have e4:y83 s[i].toNat=false:=yo (by omega)
    simp[e1,e2,nmOk,e3,e4]
theorem yL0(s:List UInt8)(h:s.length < lenMax):yHH s=some (isNm s,()):=by
 unfold yHH;have:=y9o s s.length 0 (by omega) (by omega)
 rw[List.drop_zero,show decide (0=0)=true from rfl]at this
 rw[bifT (yM h)];refine (show _=_ from this).trans ?_
 unfold isNm yCR;cases hn:nmOk true s with
 |false=>rfl
 |true =>
  rw[cond_true,Bool.true_and];cases s with
  |nil=>rfl
  |cons c l =>
   have e:decide (((c::l).length:Int)<=24)=decide (0 < (c::l).length/\(c::l).length<=24):=decide_eq_decide.2 (by simp only[length_cons];omega)
   rw[<- e];rfl
def yr(a b:Int):Int:=if a != 0 then a else b
theorem y9r:y1O []=0:=rfl
theorem y0r(a:Int)(l:List Int):y1O (a::l)=yr a (y1O l):=by
 unfold y1O yr;rw[List.find?_cons];cases h:(a != 0)<;>rfl
theorem y75(a:Int):yr a 0=a:=by
 unfold yr;by_cases h:a=0<;>simp[h]
end Go.Tw
end
section
set_option maxRecDepth 100000
namespace Go.Tw
open Go.Vx Go.Vx.B Go.Proofs
abbrev Con:=List UInt8×Int×Int×Unit
abbrev Gau:=Int×Int×Unit
abbrev Tid:=List Con×List Gau×Int×Unit
def yAH(c:Con):Int:=y1O [bif isNm c.1 then 0 else 8,ckR c.2.1 1 96,ckR c.2.2.1 0 3]
def conE(done:List Con)(c:Con):Int:=yr (yAH c) (bif done.any (λ d=>d.1 == c.1)then 9 else 0)
def yDj:List Con->List Con->Int
 |_,[]=>0
 |done,n::l=>yr (conE done n) (yDj (done++[n]) l)
def y4V(l:List Con):Int:=if l.length=0 then 12 else if 4 < l.length then 5 else yDj [] l
theorem yFD(a b:Int):[a,b].length < lenMax:=by simp[lenMax]
theorem yLm(a b c:Int):[a,b,c].length < lenMax:=by simp[lenMax]
theorem yPu(a b c d:Int):[a,b,c,d].length < lenMax:=by simp[lenMax]
theorem yJ5(s:List UInt8):zh_M s=some (bif isNm s then 0 else 8,()):=by
 unfold zh_M zh_m;rw[yKW];cases isNm s<;>rfl
theorem y9T(l:List Con)(i:Nat)(n:Con)(hn:l[i]?=some n){fin:Unit->Option ((Int×Unit)⊕Unit)}:∀ (m k:Nat),k+m=i ->
  y1j (λ i__ s__=>yG0 l (i:Int) i__) fin m (k:Int) ()=if ((l.drop k).take m).any (λ d=>d.1 == n.1)=true then some (.inl (9,()))else fin ()
 |0,k,_=>by simp[y1j]
 |m+1,k,hk=>by
  have hi:i < l.length:=(List.getElem?_eq_some_iff.1 hn).1;have hkl:k < l.length:=by omega
  unfold y1j;have hb:yG0 l (i:Int) (k:Int)=some (if (l[k].1 == n.1)=true then .inl (.inl (9,()))else .inr ()):=by
   unfold yG0;rw[y6T,y6T,hn,List.getElem?_eq_getElem hkl];simp only[bind_some];cases (l[k].1 == n.1)<;>rfl
  rw[hb];simp only[bind_some];have hd:(l.drop k).take (m+1)=l[k]::(l.drop (k+1)).take m:=by
   rw[<- List.getElem_cons_drop (h:=hkl),List.take_succ_cons]
  rw[hd,List.any_cons];cases h:(l[k].1 == n.1)with
  |true=>rfl
  |false =>
   rw[if_neg (by simp),Bool.false_or]
   have ih:=y9T l i n hn (fin:=fin) m (k+1) (by omega)
   rw[show ((k+1:Nat):Int)=(k:Int)+1 by omega]at ih
   exact ih
theorem yFn(l:List Con)(hl:l.length<=4)(i:Nat)(n:Con)(hn:l[i]?=some n) :
  yH0 l (i:Int) n=some (bif conE (l.take i) n != 0 then .inl (conE (l.take i) n,())else .inr ()):=by
 have hi:i < l.length:=(List.getElem?_eq_some_iff.1 hn).1;unfold yH0;rw[yJ5,y6T,hn];simp only[bind_some,y3p];rw[yBq _ (yLm _ _ _)];simp only[bind_some];show (bif (yAH n != 0)then some (Sum.inl (yAH n,()))else _)=_
 unfold conE yr;cases hs:(yAH n != 0)with
 |true=>simp only[cond_true,if_true,hs]
 |false =>
  simp only[cond_false,Bool.false_eq_true,if_false];rw[bifT (yM (show (i:Int)<=9223372036854775807 by omega))]
  have e1:((i:Int) - 0).toNat=i:=by omega
  rw[e1];have:=y9T l i n hn (fin:=λ s__=>yKX l (i:Int)) i 0 (by omega)
  rw[show ((0:Nat):Int)=0 from rfl]at this
  rw[this,List.drop_zero];cases hany:(l.take i).any (λ d=>d.1 == n.1)with
  |true=>rw[if_pos rfl];rfl
  |false=>rw[if_neg (by simp)];rfl
theorem y9z(xs:List Con)(hl:xs.length<=4):∀ (l done:List Con),xs=done++l ->
  yQ (λ i__ e__ s__=>yH0 xs i__ e__) (λ s__=>yMO xs) (done.length:Int) l ()=some (yDj done l,())
 |[],done,_=>rfl
 |n::l,done,hx=>by
  have hn:xs[done.length]?=some n:=by rw[hx];simp
  rw[y0L,yFn xs hl done.length n hn];have ht:xs.take done.length=done:=by rw[hx];simp
  rw[ht];simp only[bind_some,yDj,yr];cases h:(conE done n != 0)with
  |true=>rfl
  |false =>
   have ih:=y9z xs hl l (done++[n]) (by rw[hx];simp)
   simp only[List.length_append,length_cons,length_nil]at ih;exact ih
theorem yKG(l:List Con):zJ_M l=some (y4V l,()):=by
 unfold zJ_M y4V;by_cases h0:l.length=0
 ·rw[bifT (show ((l.length:Int) == 0)=true by simp[h0]),if_pos h0]
 ·rw[bifF (show ((l.length:Int) == 0)=false by simpa using h0),if_neg h0]
  by_cases h8:4 < l.length
  ·rw[bifT (yM (show (l.length:Int) > 4 by omega)),if_pos h8]
  ·rw[bifF (yo (show ¬ (l.length:Int) > 4 by omega)),if_neg h8,bifT (yM (show l.length < lenMax by unfold lenMax;omega))]
   exact y9z l (by omega) l [] rfl
def yLG(m:List (List UInt8×Bool))(done:List Con):Prop:=∀ k,(y0J .str .bool m k).getD false=done.any λ d=>d.1 == k
theorem yGm(m:List (List UInt8×Bool))(k k':List UInt8):(y0J .str .bool (y1b .str .bool m k true) k').getD false=((k == k') || (y0J .str .bool m k').getD false):=by
 induction m with
 |nil =>
  show (y0J .str .bool [(k,true)] k').getD false=_
  simp only[y0J,eqV];by_cases h:k'=k
  ·subst h;simp
  ·have h1:(k' == k)=false:=beq_eq_false_iff_ne.2 h;have h2:(k == k')=false:=beq_eq_false_iff_ne.2 (Ne.symm h);show (bif (k' == k)then some true else none).getD false=_
   rw[h1,h2];rfl
 |cons p m ih =>
  show (y0J .str .bool (bif (k == p.1)then (k,true)::m else p::y1b .str .bool m k true) k').getD false=_
  by_cases h:k=p.1
  ·have h1:(k == p.1)=true:=by simp[h]
   rw[h1,cond_true];show (bif (k' == k)then some true else y0J .str .bool m k').getD false=((k == k') || (bif (k' == p.1)then some p.2 else y0J .str .bool m k').getD false)
   by_cases h2:k'=k
   ·have e1:(k' == k)=true:=by simp[h2]
    have e2:(k == k')=true:=by simp[h2]
    rw[e1,e2];rfl
   ·have e1:(k' == k)=false:=beq_eq_false_iff_ne.2 h2;have e2:(k == k')=false:=beq_eq_false_iff_ne.2 (Ne.symm h2);have e3:(k' == p.1)=false:=by rw[<- h];exact e1
    rw[e1,e2,e3];rfl
  ·have h1:(k == p.1)=false:=beq_eq_false_iff_ne.2 h;rw[h1,cond_false];show (bif (k' == p.1)then some p.2 else y0J .str .bool (y1b .str .bool m k true) k').getD false=((k == k') || (bif (k' == p.1)then some p.2 else y0J .str .bool m k').getD false)
   by_cases h2:k'=p.1
   ·have e1:(k' == p.1)=true:=by simp[h2]
    have e2:(k == k')=false:=by rw[h2];exact h1
    rw[e1,e2];rfl
   ·have e1:(k' == p.1)=false:=beq_eq_false_iff_ne.2 h2;rw[e1];exact ih
theorem yLG.put{m:List (List UInt8×Bool)}{done:List Con}(h:yLG m done)(n:Con):yLG (y1b .str .bool m n.1 true) (done++[n]):=by
 intro k;rw[yGm,h k,List.any_append];simp[Bool.or_comm]
theorem yIx(c:Con)(h:c.1.length < lenMax):zM_M c=some (yAH c,()):=by
 unfold zM_M zM_m;rw[yL0 c.1 h];simp only[bind_some,y6W,y84];rw[y3Q _ (yLm _ _ _)];unfold yAH;cases isNm c.1<;>rfl
theorem y9N(xs:List Con):∀ (l done:List Con) (i:Int) (m:List (List UInt8×Bool)),(∀ n∈l,n.1.length < lenMax)->yLG m done ->
  yQ (λ i__ e__ s__=>yIH xs i__ e__ s__) (λ s__=>yMo xs s__) i l m=some (yDj done l,())
 |[],done,i,m,_,_=>rfl
 |n::l,done,i,m,hl,hk=>by
  have hb:yIH xs i n m=some (bif conE done n != 0 then .inl (conE done n,())else .inr (y1b .str .bool m n.1 true)):=by
   unfold yIH;rw[yIx _ (hl n (by simp))]
   simp only[bind_some,y6W,hk n.1];rw[y3Q _ (yFD _ _)];have e:y1O [yAH (n.fst,n.snd.fst,n.snd.snd.fst,()),bif done.any (λ d=>d.1 == n.1)then 9 else 0]=conE done n:=by
    rw[y0r,y0r,y9r,y75];rfl
   simp only[bind_some,e];cases (conE done n != 0)<;>rfl
  rw[y0L,hb];simp only[bind_some,yDj,yr];cases h:(conE done n != 0)with
  |true=>rfl
  |false =>
   simp only[cond_false,Bool.false_eq_true,if_false];exact y9N xs l (done++[n]) (i+1) _ (λ x hx=>hl x (by simp[hx])) (hk.put n)
theorem yKB(l:List Con)(hn:∀ n∈l,n.1.length < lenMax)(hl:l.length < lenMax):zL_M l=some (y4V l,()):=by
 unfold zL_M y4V;simp only[y6W];rw[y3Q _ (yFD _ _)];simp only[bind_some];by_cases h0:l.length=0
 ·rw[show ((l.length:Int) == 0)=true by simp[h0],if_pos h0]
  rfl
 ·rw[show ((l.length:Int) == 0)=false by simpa using h0,if_neg h0]
  by_cases h8:4 < l.length
  ·rw[yM (show (l.length:Int) > 4 by omega),if_pos h8]
   rfl
  ·rw[yo (show ¬ (l.length:Int) > 4 by omega),if_neg h8]
   rw[bifF (by rfl),bifT (yM hl)]
   exact y9N l l [] 0 [] hn (λ k=>rfl)
end Go.Tw
end
section
set_option maxRecDepth 100000
namespace Go.Tw
open Go.Vx Go.Vx.B Go.Proofs
theorem yPB{i:Int}(h0:-9223372036854775808<=i)(h1:i<=9223372036854775807):IntKind.i64.wrap i=i:=by
 rw[IntKind.wrap_i64];omega
def gI(a b:Int):Int:=(Nat.gcd a.natAbs b.natAbs:Nat)
theorem yAw{β:Type}(K:Int->β)(body:Int×Int->Option (β⊕(Int×Int)))
  (hb:∀ a b:Int,body (a,b)=if b=0 then some (.inl (K a))else some (.inr (b,a.tmod b))) :
  ∀ (k m:Nat) (a b:Nat),b < 2 ^ k->2 * k+1<=m->y60 body m ((a:Int),(b:Int))=some (K (Nat.gcd a b:Nat))
 |k,0,a,b,_,hm=>by omega
 |k,m+1,a,b,hk,hm=>by
  unfold y60;rw[hb];by_cases h0:b=0
  ·subst h0;rw[if_pos (by rfl),Nat.gcd_zero_right]
   rfl
  ·rw[if_neg (by omega)]
   simp only[bind_some];have e1:(a:Int).tmod (b:Int)=((a % b:Nat):Int):=by rw[Int.ofNat_tmod]
   rw[e1];have hr:a % b < b:=Nat.mod_lt _ (by omega)
   have hg:Nat.gcd a b=Nat.gcd b (a % b):=by rw[gcd_comm a b,Nat.gcd_rec b a,gcd_comm]
   have hk1:1<=k:=by
    rcases Nat.eq_zero_or_pos k with h|h
    ·subst h;simp at hk;omega
    ·exact h
   match m,hm with
   |0,hm=>omega
   |m+1,hm =>
    unfold y60;rw[hb];by_cases h1:a % b=0
    ·rw[if_pos (by omega),hg,h1,Nat.gcd_zero_right]
     rfl
    ·rw[if_neg (by omega)]
     simp only[bind_some];generalize hr2:a % b=r at *;have e2:(b:Int).tmod ((r:Nat):Int)=((b % r:Nat):Int):=(Int.ofNat_tmod b r).symm;rw[e2];have hlt:b % r < 2 ^ (k - 1):=by
      have h3:2 * (b % r) < b:=by
       have h4:b % r < r:=Nat.mod_lt _ (by omega)
       have h5:b % r+r<=b:=by
        have h6:=Nat.div_add_mod b r;have h7:1<=b / r:=Nat.div_pos (by omega) (by omega)
        have h8:r * 1<=r * (b / r):=Nat.mul_le_mul_left _ h7;omega
       omega
      have h9:2 ^ k=2 * 2 ^ (k - 1):=by
       rw[<- Nat.pow_succ'];congr 1
       omega
      omega
     rw[yAw K body hb (k - 1) m r (b % r) hlt (by omega),hg,gcd_comm b,Nat.gcd_rec r b,gcd_comm]
theorem yOz(n:Int)(h0:-9223372036854775807<=n)(h1:n<=9223372036854775807):(z06 n).1=(n.natAbs:Int):=by
 unfold z06;simp only[if_true];rw[yPB (by omega) (by omega)]
 split<;>omega
theorem yIz(n:Int)(h0:-9223372036854775807<=n)(h1:n<=9223372036854775807):(if IntKind.i64.wrap (0 - n) > n then IntKind.i64.wrap (0 - n)else n)=(n.natAbs:Int):=by
 rw[yPB (by omega) (by omega)]
 split<;>omega
theorem yPf{n:Int}(h0:-9223372036854775807<=n)(h1:n<=9223372036854775807):n.natAbs < 2 ^ 63:=by
 have:(2:Nat) ^ 63=9223372036854775808:=by decide
 omega
theorem yIY(a:Nat)(n:Int)(h0:-9223372036854775807<=n)(h1:n<=9223372036854775807):yE8 (a:Int) (n.natAbs:Int)=some (gI a n,()):=by
 unfold yE8;have:=yAw (λ x=>(x,())) (λ s__=>yEd s__.1 s__.2) (λ a b=>by
  unfold yEd;by_cases h:b=0
  ·subst h;rfl
  ·have e:(b != 0)=true:=by simp[h]
   have e2:(b == 0)=false:=by simp[h]
   simp only[e,e2,cond_true,cond_false,if_neg h]) 63 wMax a n.natAbs (yPf h0 h1) (by unfold wMax;omega)
 rw[this];rfl
theorem yBO(l:List Int)(i:Int)(n:Int)(a:Nat)(h0:-9223372036854775807<=n)(h1:n<=9223372036854775807):yFZ l i n (a:Int)=some (.inr (gI a n)):=by
 unfold yFZ;rw[yOz n h0 h1];have:=yAw (λ x=>(Sum.inr x:(Int×Unit)⊕Int)) (λ s__=>yBZ l ((l.length:Int)) i s__.1 s__.2) (λ a b=>by
  unfold yBZ;by_cases h:b=0
  ·subst h;rfl
  ·have e:(b != 0)=true:=by simp[h]
   have e2:(b == 0)=false:=by simp[h]
   simp only[e,e2,cond_true,cond_false,if_neg h]) 63 wMax a n.natAbs (yPf h0 h1) (by unfold wMax;omega)
 rw[this];rfl
theorem yEn(a b:Int):∃ n:Nat,gI a b=(n:Int):=⟨_,rfl⟩
theorem yKE(a:Nat)(x y:Int)(h0:-9223372036854775807<=x)(h1:x<=9223372036854775807)(h2:-9223372036854775807<=y)(h3:y<=9223372036854775807):yGU (a:Int) [x,y]=some (gI (gI a x) y,()):=by
 unfold yGU;rw[bifT (yM (by simp[lenMax])),y0L,yBO _ _ _ _ h0 h1]
 simp only[bind_some];obtain ⟨n,hn⟩:=yEn a x;rw[hn,y0L,yBO _ _ _ _ h2 h3];rfl
def comG:List Gau->Int->Int
 |[],d=>d
 |z::l,d=>comG l (gI (gI d z.1) z.2.1)
def fits(z:Gau):Prop:=(-9223372036854775807<=z.1/\z.1<=9223372036854775807)/\(-9223372036854775807<=z.2.1/\z.2.1<=9223372036854775807)
theorem yCn(xs:List Gau):∀ (l:List Gau) (i:Int) (d:Nat),(∀ z∈l,fits z)->yQ (λ i__ e__ s__=>yFG xs i__ e__ s__) (λ s__=>yHa xs s__) i l (d:Int)=some (comG l d,())
 |[],i,d,_=>rfl
 |z::l,i,d,h=>by
  have hz:=h z (by simp)
  rw[y0L];unfold yFG;rw[yKE d _ _ hz.1.1 hz.1.2 hz.2.1 hz.2.2];simp only[bind_some,comG];obtain ⟨n,hn⟩:=yEn (gI d z.1) z.2.1;rw[hn];exact yCn xs l (i+1) n λ z hz=>h z (by simp[hz])
theorem yMh(l:List Gau)(d:Nat)(h:∀ z∈l,fits z)(hl:l.length < lenMax):yHn l (d:Int)=some (comG l d,()):=by
 unfold yHn;rw[bifT (yM hl)];exact yCn l l 0 d h
theorem yCu(xs:List Gau):∀ (l done:List Gau) (d:Nat),xs=done++l->(∀ z∈l,fits z)->yQ (λ i__ e__ s__=>yCF xs i__ e__ s__) (λ s__=>yIt xs s__) (done.length:Int) l (d:Int)=some (comG l d,())
 |[],_,d,_,_=>rfl
 |z::l,done,d,hx,h=>by
  have hz:=h z (by simp)
  have hn:xs[done.length]?=some z:=by rw[hx];simp
  rw[y0L];have hb:yCF xs (done.length:Int) z (d:Int)=some (.inr (gI (gI d z.1) z.2.1)):=by
   unfold yCF;rw[y6T,hn];simp only[bind_some,if_true];rw[yIz _ hz.1.1 hz.1.2,yIY d _ hz.1.1 hz.1.2];simp only[bind_some];rw[yIz _ hz.2.1 hz.2.2];obtain ⟨n,hn⟩:=yEn d z.1;rw[hn,yIY n _ hz.2.1 hz.2.2];rfl
  rw[hb];simp only[bind_some,comG];obtain ⟨n,hn2⟩:=yEn (gI d z.1) z.2.1;rw[hn2];have ih:=yCu xs l (done++[z]) n (by rw[hx];simp) λ z hz=>h z (by simp[hz])
  simp only[List.length_append,length_cons,length_nil]at ih;exact ih
theorem yNi(l:List Gau)(d:Nat)(h:∀ z∈l,fits z)(hl:l.length < lenMax):yHh l (d:Int)=some (comG l d,()):=by
 unfold yHh;rw[bifT (yM hl)];exact yCu l l [] d rfl h
def y18(z:Gau):Int:=y1O [ckR z.1 (-8796093022208) 8796093022208,ckR z.2.1 (-8796093022208) 8796093022208]
theorem y3q{l:List Int}(h:y1O l=0):∀ e∈l,e=0:=by
 induction l with
 |nil=>intro e he;cases he
 |cons a l ih =>
  rw[y0r]at h;unfold yr at h;by_cases ha:a=0
  ·subst ha;simp only[bne_self_eq_false,Bool.false_eq_true,if_false]at h;intro e he;rcases List.mem_cons.1 he with rfl|he
   ·rfl
   ·exact ih h e he
  ·have:(a != 0)=true:=by simp[ha]
   rw[this,if_pos rfl]at h;exact absurd h ha
theorem y2M{n lo hi:Int}(h:ckR n lo hi=0):lo<=n/\n<=hi:=by
 unfold ckR at h;split at h
 ·cases h
 ·omega
theorem yDv{z:Gau}(h:y18 z=0):(-8796093022208<=z.1/\z.1<=8796093022208)/\(-8796093022208<=z.2.1/\z.2.1<=8796093022208):=by
 have h1:=y3q h;exact ⟨y2M (h1 _ (by simp)),y2M (h1 _ (by simp))⟩
theorem y7v{z:Gau}(h:y18 z=0):fits z:=by
 have:=yDv h;unfold fits;omega
theorem yKr(z:Gau):zv_M z=some (y18 z,()):=by
 unfold zv_M zv_m;simp only[y84];rw[y3Q _ (yFD _ _)];rfl
theorem yK6(z:Gau):zi_M z=some (y18 z,()):=by
 unfold zi_M zi_m;simp only[y3p];rw[yBq _ (yFD _ _)];rfl
theorem y0C{n:Nat}(h:n<=memMax):n < lenMax:=Nat.lt_of_le_of_lt h y7o
theorem yIJ(l:List Gau)(hl:l.length<=memMax):zF_M l (λ x=>zv_M x.1)=some (l.map y18,()):=by
 unfold zF_M;rw[bifT (yM (y0C hl))];rw[y5f y18 l 0 [] (by simpa using hl) λ i e s _ hs=>by
  unfold yNJ;show (Option.bind (zv_M e) _)=_
  rw[yKr];simp only[bind_some];rw[bifT (yM hs)]]
 rfl
def y10(t:Tid):Int:=
 yr (y4V t.1) (yr (if t.2.1.length=t.1.length then 0 else 2) (yr (ckR t.2.2.1 1 268435456) (yr (y1O (t.2.1.map y18)) (if comG t.2.1 t.2.2.1=1 then 0 else 1))))
theorem y03{a b:Int}(h:a≠0):yr a b=a:=by unfold yr;rw[if_pos (by simpa using h)]
theorem y0k(b:Int):yr 0 b=b:=by unfold yr;rw[if_neg (by simp)]
theorem y0T(a b c:Int):yr (yr a b) c=yr a (yr b c):=by
 by_cases h:a=0
 ·subst h;simp only[y0k]
 ·rw[y03 h,y03 h,y03 h]
theorem y6Q{l:List Gau}(h:y1O (l.map y18)=0):∀ z∈l,y18 z=0:=λ z hz=>y3q h _ (List.mem_map.2 ⟨z,hz,rfl⟩)
theorem yLs(t:Tid)(hn:∀ n∈t.1,n.1.length < lenMax)(hl:t.1.length < lenMax)(ha:t.2.1.length<=memMax):zu_M t=some (y10 t,()):=by
 unfold zu_M zu_m;rw[yKB _ hn hl,yIJ _ ha];simp only[bind_some];rw[y3Q _ (by rw[List.length_map];exact y0C ha)]
 simp only[bind_some,y6W,y84];rw[y3Q _ (yPu _ _ _ _)];simp only[bind_some];have e:(bif ((t.2.1.length:Int) != (t.1.length:Int))then (2:Int)else 0)=if t.2.1.length=t.1.length then 0 else 2:=by
  by_cases h:t.2.1.length=t.1.length
  ·rw[if_pos h,h];simp
  ·rw[if_neg h];have:((t.2.1.length:Int) != (t.1.length:Int))=true:=by simpa using λ hh=>h (by omega)
   rw[this];rfl
 rw[e,y0r,y0r,y0r,y0r,y9r,y75];unfold y10;rw[<- y0T,<- y0T,<- y0T,<- y0T,<- y0T];generalize hq:yr (yr (yr (y4V t.1) (if t.2.1.length=t.1.length then 0 else 2)) (ckR t.2.2.1 1 268435456)) (y1O (t.2.1.map y18))=q
 by_cases h0:q=0
 ·subst h0;have hp:y1O (t.2.1.map y18)=0/\ckR t.2.2.1 1 268435456=0:=by
   rw[y0T,y0T]at hq;by_cases h1:y4V t.1=0
   ·rw[h1,y0k]at hq;by_cases h2:t.2.1.length=t.1.length
    ·rw[if_pos h2,y0k]at hq;by_cases h3:ckR t.2.2.1 1 268435456=0
     ·rw[h3,y0k]at hq;exact ⟨hq,h3⟩
     ·rw[y03 h3]at hq;exact absurd hq h3
    ·rw[if_neg h2,y03 (by decide)]at hq;cases hq
   ·rw[y03 h1]at hq;exact absurd hq h1
  have hd:=y2M hp.2;obtain ⟨d,hd2⟩:∃ d:Nat,t.2.2.1=(d:Int):=⟨t.2.2.1.toNat,by omega⟩
  rw[bifF (by rfl),y0k,hd2,yMh _ d (λ z hz=>y7v (y6Q hp.1 z hz)) (y0C ha)]
  simp only[bind_some];by_cases hc:comG t.2.1 (d:Int)=1
  ·rw[if_pos hc,hc];rfl
  ·rw[if_neg hc];have:(comG t.2.1 (d:Int) != 1)=true:=by simpa using hc
   rw[this];rfl
 ·rw[bifT (by simpa using h0),y03 h0]
theorem yDN(t:Tid)(l:List Gau)(i:Int):yQ (λ i__ e__ s__=>yKz t i__ e__) (λ s__=>yId t) i l ()=if y1O (l.map y18)=0 then yId t else some (y1O (l.map y18),()):=by
 rw[y4x (λ z=>if y18 z != 0 then some (y18 z,())else none) l i λ i z _=>by
  unfold yKz;rw[yK6];simp only[bind_some];cases h:(y18 z != 0)<;>rfl]
 induction l with
 |nil=>rfl
 |cons z l ih =>
  rw[findSome?_cons,List.map_cons,y0r];by_cases h:y18 z=0
  ·have e:(y18 z != 0)=false:=by simp[h]
   rw[e,if_neg (by simp),h,y0k]
   exact ih
  ·have e:(y18 z != 0)=true:=by simp[h]
   rw[e,if_pos rfl,y03 h,if_neg h]
theorem yLV(t:Tid)(ha:t.2.1.length<=memMax):zj_M t=some (y10 t,()):=by
 unfold zj_M y10;rw[yKG];simp only[bind_some,y3p];by_cases h1:y4V t.1=0
 ·rw[h1,bifF (by rfl),y0k]
  by_cases h2:t.2.1.length=t.1.length
  ·rw[if_pos h2,y0k,bifF (by rw[h2];simp)]
   by_cases h3:ckR t.2.2.1 1 268435456=0
   ·rw[h3,bifF (by rfl),y0k,bifT (yM (y0C ha)),yDN]
    by_cases h4:y1O (t.2.1.map y18)=0
    ·rw[if_pos h4,h4,y0k];have hd:=y2M h3;obtain ⟨d,hd2⟩:∃ d:Nat,t.2.2.1=(d:Int):=⟨t.2.2.1.toNat,by omega⟩
     unfold yId;rw[hd2,yNi _ d (λ z hz=>y7v (y6Q h4 z hz)) (y0C ha)]
     simp only[bind_some];by_cases hc:comG t.2.1 (d:Int)=1
     ·rw[if_pos hc,hc];rfl
     ·rw[if_neg hc];have:(comG t.2.1 (d:Int) != 1)=true:=by simpa using hc
      rw[this];rfl
    ·rw[if_neg h4,y03 h4]
   ·rw[bifT (by simpa using h3),y03 h3]
  ·rw[if_neg h2,y03 (by decide),bifT (by simpa using λ hh=>h2 (by omega))]
 ·rw[bifT (by simpa using h1),y03 h1]
end Go.Tw
end
section
set_option maxRecDepth 100000
namespace Go.Tw
open Go.Vx Go.Vx.B Go.Proofs
def yNF(c:Con):Prop:=(1<=c.2.1/\c.2.1<=96)/\(0<=c.2.2.1/\c.2.2.1<=3)
structure okT (t:Tid):Prop where
 len:t.1.length=t.2.1.length
 few:t.1.length<=4
 con:∀ c∈t.1,yNF c
 den:1<=t.2.2.1/\t.2.2.1<=268435456
 part:∀ z∈t.2.1,y18 z=0
 red:comG t.2.1 t.2.2.1=1
theorem y0V{a b:Int}(h:yr a b=0):a=0/\b=0:=by
 by_cases ha:a=0
 ·subst ha;rw[y0k]at h;exact ⟨rfl,h⟩
 ·rw[y03 ha]at h;exact absurd h ha
theorem yAi:∀ (l done:List Con),yDj done l=0->∀ c∈l,yAH c=0
 |[],_,_,c,hc=>by cases hc
 |n::l,done,h,c,hc=>by
  obtain ⟨h1,h2⟩:=y0V h;rcases List.mem_cons.1 hc with rfl|hc
  ·exact (y0V h1).1
  ·exact yAi l _ h2 c hc
theorem yEs{c:Con}(h:yAH c=0):yNF c/\isNm c.1=true:=by
 have h1:=y3q h;refine ⟨⟨y2M (h1 _ (by simp)),y2M (h1 _ (by simp))⟩,?_⟩
 have:=h1 _ (List.mem_cons_self ..);cases hn:isNm c.1 with
 |true=>rfl
 |false=>rw[hn]at this;cases this
theorem yJF{l:List Con}(h:y4V l=0):0 < l.length/\l.length<=4/\(∀ c∈l,yNF c):=by
 unfold y4V at h;split at h
 ·cases h
 ·split at h
  ·cases h
  ·exact ⟨by omega,by omega,λ c hc=>(yEs (yAi l [] h c hc)).1⟩
theorem yBk{t:Tid}(h:y10 t=0):okT t:=by
 unfold y10 at h;obtain ⟨h1,h2⟩:=y0V h;obtain ⟨h3,h4⟩:=y0V h2;obtain ⟨h5,h6⟩:=y0V h4;obtain ⟨h7,h8⟩:=y0V h6;obtain ⟨a1,a2,a3⟩:=yJF h1;refine ⟨?_,a2,a3,y2M h5,y6Q h7,?_⟩
 ·by_cases hl:t.2.1.length=t.1.length
  ·exact hl.symm
  ·rw[if_neg hl]at h3;cases h3
 ·by_cases hg:comG t.2.1 t.2.2.1=1
  ·exact hg
  ·rw[if_neg hg]at h8;cases h8
end Go.Tw
end
