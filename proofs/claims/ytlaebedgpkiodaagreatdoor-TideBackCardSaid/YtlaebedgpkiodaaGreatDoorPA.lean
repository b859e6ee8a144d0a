import Derived.Test.YtlaebedgpkiodaaGreatDoorBD
import Derived.KernelRfl
set_option linter.all false
open List (findSome?_cons length_cons length_nil)
open Option (bind_some)
open Nat (gcd_comm)
section
set_option maxRecDepth 1000000
namespace Go.Tw
open Go.Vx Go.Vx.B Go.Proofs
theorem yFl:yO3=some (true,()):=by kernel_rfl
end Go.Tw
end
section
set_option maxRecDepth 100000
namespace Go.Tw
open Go.Vx Go.Vx.B Go.Proofs
section
variable {α β γ σ:Type}
theorem yIr{body:Int->α->σ->Option (β⊕σ)}{fin:σ->Option β}{i:Int}{s:σ}:yS body fin i [] s=fin s:=rfl
theorem y0Q{body:Int->α->σ->Option (β⊕σ)}{fin:σ->Option β}{i:Int}{e:α}{l:List α}{s:σ}:yS body fin i (e::l) s=(body i e s).bind λ z=>match z with
  |.inl y=>some y
  |.inr s'=>yS body fin (i+1) l s':=rfl
theorem y4u{body:Int->α->Unit->Option (β⊕Unit)}{fin:Unit->Option β}(p:α->Option β) :
  ∀ (l:List α) (i:Int),(∀ i e,e∈l->body i e ()=some (match p e with|some y=>.inl y|none=>.inr ()))->yS body fin i l ()=match l.findSome? p with|some y=>some y|none=>fin ()
 |[],i,_=>rfl
 |e::l,i,h=>by
  rw[y0Q,h i e (by simp),findSome?_cons]
  cases p e with
  |none=>exact y4u p l (i+1) λ i e he=>h i e (by simp[he])
  |some y=>rfl
theorem y6L{body:Int->α->List γ->Option (β⊕List γ)}{fin:List γ->Option β}(f:α->γ) :
  ∀ (l:List α) (i:Int) (s:List γ),s.length+l.length<=memMax->(∀ i e s,e∈l->s.length+1<=memMax->body i e s=some (.inr (s++[f e])))->yS body fin i l s=fin (s++l.map f)
 |[],i,s,_,_=>by simp[yIr]
 |e::l,i,s,hl,h=>by
  simp only[length_cons]at hl;rw[y0Q,h i e s (by simp) (by omega)]
  simp only[bind_some];rw[y6L f l (i+1) (s++[f e]) (by simp;omega) λ i e s he hs=>h i e s (by simp[he]) hs]
  simp
end
theorem yL{p:Prop}[Decidable p](h:p):decide p=true:=decide_eq_true h
theorem yo{p:Prop}[Decidable p](h:¬ p):decide p=false:=decide_eq_false h
theorem bifT{α:Type}{c:Bool}{a b:α}(h:c=true):(bif c then a else b)=a:=by rw[h];rfl
theorem bifF{α:Type}{c:Bool}{a b:α}(h:c=false):(bif c then a else b)=b:=by rw[h];rfl
theorem y8l:memMax < lenMax:=by decide
def ckR(n lo hi:Int):Int:=if n < lo\/hi < n then 3 else 0
def y1O(l:List Int):Int:=(l.find? (· != 0)).getD 0
theorem y3d(n lo hi:Int):za n lo hi=(ckR n lo hi,()):=by
 unfold za ckR;by_cases h1:n < lo
 ·rw[bifT (yL h1),if_pos (.inl h1)]
 ·rw[bifF (yo h1)];by_cases h2:n > hi
  ·rw[bifT (yL h2),if_pos (.inr h2)]
  ·rw[bifF (yo h2),if_neg (by omega)]
theorem y6e(c:Bool)(e:Int):z16 c e=(bif c then e else 0,()):=by
 unfold z16;cases c<;>rfl
theorem y8Z(n lo hi:Int):z0e n lo hi=(ckR n lo hi,()):=by
 unfold z0e ckR;by_cases h1:n < lo
 ·rw[bifT (yL h1),y6e,cond_true,if_pos (.inl h1)]
 ·rw[bifF (yo h1),y6e];by_cases h2:n > hi
  ·rw[yL h2,cond_true,if_pos (.inr h2)]
  ·rw[yo h2,cond_false,if_neg (by omega)]
theorem y9m(l:List Int):l.findSome? (λ e=>if e != 0 then some (e,())else none)=(l.find? (· != 0)).map λ e=>(e,()):=by
 induction l with
 |nil=>rfl
 |cons e l ih =>
  rw[findSome?_cons,List.find?_cons];cases he:(e != 0)with
  |true=>rfl
  |false=>simpa using ih
theorem y3N(l:List Int)(h:l.length < lenMax):y3h l=some (y1O l,()):=by
 unfold y3h;rw[bifT (yL h),y4u (λ e=>if e != 0 then some (e,())else none) l 0 (λ i e _=>by
  unfold yJG;cases he:(e != 0)<;>rfl),y9m]
 unfold y1O yIV;cases l.find? (· != 0)<;>rfl
theorem y6P{α:Type}(l:List α)(i:Nat):idx l (i:Int)=l[i]?:=by
 unfold idx;rw[if_pos (Int.natCast_nonneg i)];rfl
theorem y8M{α β:Type}{body:Int->α->Unit->Option (β⊕Unit)}{fin:Unit->Option β}(xs:List α)(p:α->Option β) :
  ∀ (l done:List α),xs=done++l->(∀ (i:Nat) e,xs[i]?=some e->body (i:Int) e ()=some (match p e with|some y=>.inl y|none=>.inr ())) ->
   yS body fin (done.length:Int) l ()=match l.findSome? p with|some y=>some y|none=>fin ()
 |[],done,_,_=>rfl
 |e::l,done,hx,h=>by
  rw[y0Q,h done.length e (by rw[hx];simp),findSome?_cons]
  cases p e with
  |none =>
   have:=y8M (body:=body) (fin:=fin) xs p l (done++[e]) (by rw[hx];simp) h
   simp only[List.length_append,length_cons,length_nil]at this;exact this
  |some y=>rfl
theorem yBN(l:List Int)(h:l.length < lenMax):yGR l=some (y1O l,()):=by
 unfold yGR;have:=y8M (body:=λ i__ e__ s__=>yEC l i__ e__) (fin:=λ s__=>yEF l) l (λ e=>if e != 0 then some (e,())else none) l [] rfl (λ i e hi=>by
  unfold yEC;cases he:(e != 0)with
  |true=>rw[y6P,hi];rfl
  |false=>rfl)
 rw[bifT (yL h)];refine this.trans ?_
 rw[y9m];unfold y1O yEF;cases l.find? (· != 0)<;>rfl
def y4U(c:Nat):Bool:=decide (65<=c/\c<=90\/97<=c/\c<=122)
def y6t(c:Nat):Bool:=decide (48<=c/\c<=57\/c=95)
def nmOk:Bool->List UInt8->Bool
 |_,[]=>true
 | first,c::l=>(y4U c.toNat || (!first && y6t c.toNat)) && nmOk false l
def isNm(s:List UInt8):Bool:=nmOk true s && decide (0 < s.length/\s.length<=24)
theorem y9u:∀ (s0 s:List UInt8) (i:Int),0<=i->yS (λ i__ e__ s__=>yCZ s0 i__ e__) (λ s__=>yIh s0) i s ()=some (nmOk (decide (i=0)) s,())
  |s0,[],i,_=>rfl
  |s0,c::l,i,hi=>by
    rw[y0Q];have ih:=y9u s0 l (i+1) (by omega)
    have e0:decide (i+1=0)=false:=yo (by omega)
    rw[e0]at ih;unfold nmOk;have hb:yCZ s0 i c=some (if (y4U c.toNat || (!decide (i=0) && y6t c.toNat))=true then .inr ()else .inl (false,())):=by
      unfold yCZ y6Q y4U y6t;have g3:(i == 0)=decide (i=0):=by by_cases h:i=0<;>simp[h]
      have g4:((c.toNat:Int) != 95)=!decide ((c.toNat:Int)=95):=by by_cases h:(c.toNat:Int)=95<;>simp[h]
      rw[g3,g4];by_cases h1:(97:Int)<=c.toNat<;>by_cases h2:(c.toNat:Int)<=122<;>by_cases h3:(65:Int)<=c.toNat<;>by_cases h4:(c.toNat:Int)<=90<;>by_cases h5:(c.toNat:Int) < 48<;>by_cases h6:(c.toNat:Int) > 57<;>by_cases h7:(c.toNat:Int)=95<;>by_cases h8:i=0 <;>
        first
        | omega
        | (have g1:(decide (65<=c.toNat/\c.toNat<=90\/97<=c.toNat/\c.toNat<=122))=decide ((65:Int)<=c.toNat/\(c.toNat:Int)<=90\/(97:Int)<=c.toNat/\(c.toNat:Int)<=122):=by
            apply decide_eq_decide.2;omega
           have g2:(decide (48<=c.toNat/\c.toNat<=57\/c.toNat=95))=decide (¬ (c.toNat:Int) < 48/\¬ (c.toNat:Int) > 57\/(c.toNat:Int)=95):=by
            apply decide_eq_decide.2;omega
           rw[g1,g2];simp[h1,h2,h3,h4,h5,h6,h7,h8])
    rw[hb];simp only[bind_some];by_cases hc:(y4U c.toNat || (!decide (i=0) && y6t c.toNat))=true
    · rw[if_pos hc,hc,Bool.true_and];exact ih
    · rw[if_neg hc,Bool.eq_false_iff.2 hc];rfl
theorem yKU(s:List UInt8):yL6 s=some (isNm s,()):=by
 unfold yL6 isNm;by_cases h0:s.length=0
 ·have:((s.length:Int) == 0)=true:=by simp[h0]
  rw[bifT this,show decide (0 < s.length/\s.length<=24)=false from yo (by omega),Bool.and_false]
 ·have:((s.length:Int) == 0)=false:=by simpa using h0
  rw[bifF this];by_cases h1:24 < s.length
  ·rw[bifT (yL (by omega)),show decide (0 < s.length/\s.length<=24)=false from yo (by omega),Bool.and_false]
  ·rw[bifF (yo (show ¬ ((s.length:Int) > 24) by omega)),bifT (yL (show s.length < lenMax by unfold lenMax;omega)),y9u s s 0 (by omega),yL rfl]
   rw[show decide (0 < s.length/\s.length<=24)=true from yL ⟨by omega,by omega⟩,Bool.and_true]
theorem yLn{bs:List UInt8}{i:Nat}{c:UInt8}(h:bs[i]?=some c):(⟨bs.toArray⟩:ByteArray).get! i=c:=by
 show bs.toArray[i]! = c
 rw[getElem!_def];simp[h]
theorem yGB{bs:List UInt8}{i:Nat}{c:UInt8}(h:bs[i]?=some c)(hc:c.toNat < 128):yV bs (i:Int)=((c.toNat:Int),(i:Int)+1):=by
 unfold yV Utf8.decode;have h0:(⟨bs.toArray⟩:ByteArray).get! ((i:Int).toNat+0)=c:=by rw[Int.toNat_natCast,Nat.add_zero];exact yLn h
 simp only[h0];rw[if_pos hc];rfl
theorem yH6{bs:List UInt8}{i:Nat}{c:UInt8}(h:bs[i]?=some c)(hc:128<=c.toNat):128<=(yV bs (i:Int)).1:=by
 unfold yV Utf8.decode;have h0:(⟨bs.toArray⟩:ByteArray).get! ((i:Int).toNat+0)=c:=by rw[Int.toNat_natCast,Nat.add_zero];exact yLn h
 simp only[h0];rw[if_neg (by omega)]
 have he:Utf8.runeError=65533:=rfl;split
 ·split
  ·rename_i h2;show (128:Int)<=((_:Nat):Int);omega
  ·rw[he];decide
 ·split
  ·split
   ·rename_i h2;simp only[Bool.and_eq_true,decide_eq_true_eq]at h2;show (128:Int)<=((_:Nat):Int);omega
   ·rw[he];decide
  ·split
   ·split
    ·rename_i h2;simp only[Bool.and_eq_true,decide_eq_true_eq]at h2;show (128:Int)<=((_:Nat):Int);omega
    ·rw[he];decide
   ·rw[he];decide
def yAG(r:Int):Bool:=decide (65<=r/\r<=90\/97<=r/\r<=122)
def yFJ(r:Int):Bool:=decide (48<=r/\r<=57\/r=95)
theorem yGo(s str:List UInt8)(pos:Int):yBy s str pos=some (if (yAG (yV str pos).1 || (!decide (pos=0) && yFJ (yV str pos).1))=true then .inr ()else .inl (false,())):=by
 unfold yBy y5V y7v yAG yFJ;generalize (yV str pos).1=r;have g3:(pos == 0)=decide (pos=0):=by by_cases h:pos=0<;>simp[h]
 have g4:(r == 95)=decide (r=95):=by by_cases h:r=95<;>simp[h]
 rw[g3,g4];by_cases h1:r >= 97<;>by_cases h2:r<=122<;>by_cases h3:r >= 65<;>by_cases h4:r<=90<;>by_cases h5:r >= 48<;>by_cases h6:r<=57<;>by_cases h7:r=95<;>by_cases h8:pos=0 <;>
  first
  | omega
  | simp[h1,h2,h3,h4,h5,h6,h7,h8]
theorem y9Z(s:List UInt8):∀ (m i:Nat),s.length<=i+m->i<=s.length ->
  y9C s (λ i__ s__=>yBy s s i__) (λ s__=>yCw s s) m (i:Int) ()=bif nmOk (decide (i=0)) (s.drop i)then yCw s s else some (false,())
 |m,i,hm,hi=>by
  by_cases hl:i=s.length
  ·have e1:s.drop i=[]:=List.drop_eq_nil_of_le (by omega)
   have e2:decide ((i:Int) < (s.length:Int))=false:=yo (by omega)
   rw[e1];cases m<;>(unfold y9C;rw[bifF e2];rfl)
  ·have hlt:i < s.length:=by omega
   obtain ⟨m,rfl⟩:∃ k,m=k+1:=⟨m - 1,by omega⟩
   have hd:s.drop i=s[i]::s.drop (i+1):=(List.getElem_cons_drop (h:=hlt)).symm;have hg:s[i]?=some s[i]:=List.getElem?_eq_getElem hlt;have e0:decide ((i:Int)=0)=decide (i=0):=decide_eq_decide.2 (by omega)
   unfold y9C;rw[bifT (yL (show (i:Int) < (s.length:Int) by omega)),yGo,hd,e0]
   simp only[bind_some];by_cases hc:s[i].toNat < 128
   ·rw[yGB hg hc];have e1:yAG (s[i].toNat:Int)=y4U s[i].toNat:=decide_eq_decide.2 (by omega)
    have e2:yFJ (s[i].toNat:Int)=y6t s[i].toNat:=decide_eq_decide.2 (by omega)
    simp only[e1,e2,nmOk];by_cases hb:(y4U s[i].toNat || (!decide (i=0) && y6t s[i].toNat))=true
    ·rw[if_pos hb,hb,Bool.true_and];have ih:=y9Z s m (i+1) (by omega) (by omega)
     have e3:decide (i+1=0)=false:=yo (by omega)
     rw[e3,show ((i+1:Nat):Int)=(i:Int)+1 by omega]at ih
     exact ih
    ·rw[if_neg hb,Bool.eq_false_iff.2 hb,Bool.false_and];rfl
   ·have h1:=yH6 hg (by omega)
    have e1:yAG (yV s (i:Int)).1=false:=yo (by omega)
    have e2:yFJ (yV s (i:Int)).1=false:=yo (by omega)
    have e3:y4U s[i].toNat=false:=yo (by omega)
    have e4:y6t s[i].toNat=false:=yo (by omega)
    simp[e1,e2,nmOk,e3,e4]
theorem yKb(s:List UInt8)(h:s.length < lenMax):yH8 s=some (isNm s,()):=by
 unfold yH8;have:=y9Z s s.length 0 (by omega) (by omega)
 rw[List.drop_zero,show decide (0=0)=true from rfl]at this
 rw[bifT (yL h)];refine (show _=_ from this).trans ?_
 unfold isNm yCw;cases hn:nmOk true s with
 |false=>rfl
 |true =>
  rw[cond_true,Bool.true_and];cases s with
  |nil=>rfl
  |cons c l =>
   have e:decide (((c::l).length:Int)<=24)=decide (0 < (c::l).length/\(c::l).length<=24):=decide_eq_decide.2 (by simp only[length_cons];omega)
   rw[<- e];rfl
def yq(a b:Int):Int:=if a != 0 then a else b
theorem yA1:y1O []=0:=rfl
theorem y0n(a:Int)(l:List Int):y1O (a::l)=yq a (y1O l):=by
 unfold y1O yq;rw[List.find?_cons];cases h:(a != 0)<;>rfl
theorem y6u(a:Int):yq a 0=a:=by
 unfold yq;by_cases h:a=0<;>simp[h]
end Go.Tw
end
section
set_option maxRecDepth 100000
namespace Go.Tw
open Go.Vx Go.Vx.B Go.Proofs
abbrev Con:=List UInt8×Int×Int×Unit
abbrev Gau:=Int×Int×Unit
abbrev Tid:=List Con×List Gau×Int×Unit
def yB4(c:Con):Int:=y1O [bif isNm c.1 then 0 else 8,ckR c.2.1 1 96,ckR c.2.2.1 0 3]
def conE(done:List Con)(c:Con):Int:=yq (yB4 c) (bif done.any (λ d=>d.1 == c.1)then 9 else 0)
def yDA:List Con->List Con->Int
 |_,[]=>0
 |done,n::l=>yq (conE done n) (yDA (done++[n]) l)
def y4H(l:List Con):Int:=if l.length=0 then 12 else if 4 < l.length then 5 else yDA [] l
theorem yEY(a b:Int):[a,b].length < lenMax:=by simp[lenMax]
theorem yLZ(a b c:Int):[a,b,c].length < lenMax:=by simp[lenMax]
theorem yNl(a b c d:Int):[a,b,c,d].length < lenMax:=by simp[lenMax]
theorem yHt(s:List UInt8):zh_M s=some (bif isNm s then 0 else 8,()):=by
 unfold zh_M zh_m;rw[yKU];cases isNm s<;>rfl
theorem y9a(l:List Con)(i:Nat)(n:Con)(hn:l[i]?=some n){fin:Unit->Option ((Int×Unit)⊕Unit)}:∀ (m k:Nat),k+m=i ->
  y2D (λ i__ s__=>yFd l (i:Int) i__) fin m (k:Int) ()=if ((l.drop k).take m).any (λ d=>d.1 == n.1)=true then some (.inl (9,()))else fin ()
 |0,k,_=>by simp[y2D]
 |m+1,k,hk=>by
  have hi:i < l.length:=(List.getElem?_eq_some_iff.1 hn).1;have hkl:k < l.length:=by omega
  unfold y2D;have hb:yFd l (i:Int) (k:Int)=some (if (l[k].1 == n.1)=true then .inl (.inl (9,()))else .inr ()):=by
   unfold yFd;rw[y6P,y6P,hn,List.getElem?_eq_getElem hkl];simp only[bind_some];cases (l[k].1 == n.1)<;>rfl
  rw[hb];simp only[bind_some];have hd:(l.drop k).take (m+1)=l[k]::(l.drop (k+1)).take m:=by
   rw[<- List.getElem_cons_drop (h:=hkl),List.take_succ_cons]
  rw[hd,List.any_cons];cases h:(l[k].1 == n.1)with
  |true=>rfl
  |false =>
   rw[if_neg (by simp),Bool.false_or]
   have ih:=y9a l i n hn (fin:=fin) m (k+1) (by omega)
   rw[show ((k+1:Nat):Int)=(k:Int)+1 by omega]at ih
   exact ih
theorem yGL(l:List Con)(hl:l.length<=4)(i:Nat)(n:Con)(hn:l[i]?=some n) :
  yHU l (i:Int) n=some (bif conE (l.take i) n != 0 then .inl (conE (l.take i) n,())else .inr ()):=by
 have hi:i < l.length:=(List.getElem?_eq_some_iff.1 hn).1;unfold yHU;rw[yHt,y6P,hn];simp only[bind_some,y3d];rw[yBN _ (yLZ _ _ _)];simp only[bind_some];show (bif (yB4 n != 0)then some (Sum.inl (yB4 n,()))else _)=_
 unfold conE yq;cases hs:(yB4 n != 0)with
 |true=>simp only[cond_true,if_true,hs]
 |false =>
  simp only[cond_false,Bool.false_eq_true,if_false];rw[bifT (yL (show (i:Int)<=9223372036854775807 by omega))]
  have e1:((i:Int) - 0).toNat=i:=by omega
  rw[e1];have:=y9a l i n hn (fin:=λ s__=>yKe l (i:Int)) i 0 (by omega)
  rw[show ((0:Nat):Int)=0 from rfl]at this
  rw[this,List.drop_zero];cases hany:(l.take i).any (λ d=>d.1 == n.1)with
  |true=>rw[if_pos rfl];rfl
  |false=>rw[if_neg (by simp)];rfl
theorem y9c(xs:List Con)(hl:xs.length<=4):∀ (l done:List Con),xs=done++l ->
  yS (λ i__ e__ s__=>yHU xs i__ e__) (λ s__=>yLw xs) (done.length:Int) l ()=some (yDA done l,())
 |[],done,_=>rfl
 |n::l,done,hx=>by
  have hn:xs[done.length]?=some n:=by rw[hx];simp
  rw[y0Q,yGL xs hl done.length n hn];have ht:xs.take done.length=done:=by rw[hx];simp
  rw[ht];simp only[bind_some,yDA,yq];cases h:(conE done n != 0)with
  |true=>rfl
  |false =>
   have ih:=y9c xs hl l (done++[n]) (by rw[hx];simp)
   simp only[List.length_append,length_cons,length_nil]at ih;exact ih
theorem yL8(l:List Con):zJ_M l=some (y4H l,()):=by
 unfold zJ_M y4H;by_cases h0:l.length=0
 ·rw[bifT (show ((l.length:Int) == 0)=true by simp[h0]),if_pos h0]
 ·rw[bifF (show ((l.length:Int) == 0)=false by simpa using h0),if_neg h0]
  by_cases h8:4 < l.length
  ·rw[bifT (yL (show (l.length:Int) > 4 by omega)),if_pos h8]
  ·rw[bifF (yo (show ¬ (l.length:Int) > 4 by omega)),if_neg h8,bifT (yL (show l.length < lenMax by unfold lenMax;omega))]
   exact y9c l (by omega) l [] rfl
def yJX(m:List (List UInt8×Bool))(done:List Con):Prop:=∀ k,(y0N .str .bool m k).getD false=done.any λ d=>d.1 == k
theorem yGM(m:List (List UInt8×Bool))(k k':List UInt8):(y0N .str .bool (y1S .str .bool m k true) k').getD false=((k == k') || (y0N .str .bool m k').getD false):=by
 induction m with
 |nil =>
  show (y0N .str .bool [(k,true)] k').getD false=_
  simp only[y0N,eqV];by_cases h:k'=k
  ·subst h;simp
  ·have h1:(k' == k)=false:=beq_eq_false_iff_ne.2 h;have h2:(k == k')=false:=beq_eq_false_iff_ne.2 (Ne.symm h);show (bif (k' == k)then some true else none).getD false=_
   rw[h1,h2];rfl
 |cons p m ih =>
  show (y0N .str .bool (bif (k == p.1)then (k,true)::m else p::y1S .str .bool m k true) k').getD false=_
  by_cases h:k=p.1
  ·have h1:(k == p.1)=true:=by simp[h]
   rw[h1,cond_true];show (bif (k' == k)then some true else y0N .str .bool m k').getD false=((k == k') || (bif (k' == p.1)then some p.2 else y0N .str .bool m k').getD false)
   by_cases h2:k'=k
   ·have e1:(k' == k)=true:=by simp[h2]
    have e2:(k == k')=true:=by simp[h2]
    rw[e1,e2];rfl
   ·have e1:(k' == k)=false:=beq_eq_false_iff_ne.2 h2;have e2:(k == k')=false:=beq_eq_false_iff_ne.2 (Ne.symm h2);have e3:(k' == p.1)=false:=by rw[<- h];exact e1
    rw[e1,e2,e3];rfl
  ·have h1:(k == p.1)=false:=beq_eq_false_iff_ne.2 h;rw[h1,cond_false];show (bif (k' == p.1)then some p.2 else y0N .str .bool (y1S .str .bool m k true) k').getD false=((k == k') || (bif (k' == p.1)then some p.2 else y0N .str .bool m k').getD false)
   by_cases h2:k'=p.1
   ·have e1:(k' == p.1)=true:=by simp[h2]
    have e2:(k == k')=false:=by rw[h2];exact h1
    rw[e1,e2];rfl
   ·have e1:(k' == p.1)=false:=beq_eq_false_iff_ne.2 h2;rw[e1];exact ih
theorem yJX.put{m:List (List UInt8×Bool)}{done:List Con}(h:yJX m done)(n:Con):yJX (y1S .str .bool m n.1 true) (done++[n]):=by
 intro k;rw[yGM,h k,List.any_append];simp[Bool.or_comm]
theorem yGq(c:Con)(h:c.1.length < lenMax):zM_M c=some (yB4 c,()):=by
 unfold zM_M zM_m;rw[yKb c.1 h];simp only[bind_some,y6e,y8Z];rw[y3N _ (yLZ _ _ _)];unfold yB4;cases isNm c.1<;>rfl
theorem y9L(xs:List Con):∀ (l done:List Con) (i:Int) (m:List (List UInt8×Bool)),(∀ n∈l,n.1.length < lenMax)->yJX m done ->
  yS (λ i__ e__ s__=>yIq xs i__ e__ s__) (λ s__=>yNM xs s__) i l m=some (yDA done l,())
 |[],done,i,m,_,_=>rfl
 |n::l,done,i,m,hl,hk=>by
  have hb:yIq xs i n m=some (bif conE done n != 0 then .inl (conE done n,())else .inr (y1S .str .bool m n.1 true)):=by
   unfold yIq;rw[yGq _ (hl n (by simp))]
   simp only[bind_some,y6e,hk n.1];rw[y3N _ (yEY _ _)];have e:y1O [yB4 (n.fst,n.snd.fst,n.snd.snd.fst,()),bif done.any (λ d=>d.1 == n.1)then 9 else 0]=conE done n:=by
    rw[y0n,y0n,yA1,y6u];rfl
   simp only[bind_some,e];cases (conE done n != 0)<;>rfl
  rw[y0Q,hb];simp only[bind_some,yDA,yq];cases h:(conE done n != 0)with
  |true=>rfl
  |false =>
   simp only[cond_false,Bool.false_eq_true,if_false];exact y9L xs l (done++[n]) (i+1) _ (λ x hx=>hl x (by simp[hx])) (hk.put n)
theorem yKL(l:List Con)(hn:∀ n∈l,n.1.length < lenMax)(hl:l.length < lenMax):zL_M l=some (y4H l,()):=by
 unfold zL_M y4H;simp only[y6e];rw[y3N _ (yEY _ _)];simp only[bind_some];by_cases h0:l.length=0
 ·rw[show ((l.length:Int) == 0)=true by simp[h0],if_pos h0]
  rfl
 ·rw[show ((l.length:Int) == 0)=false by simpa using h0,if_neg h0]
  by_cases h8:4 < l.length
  ·rw[yL (show (l.length:Int) > 4 by omega),if_pos h8]
   rfl
  ·rw[yo (show ¬ (l.length:Int) > 4 by omega),if_neg h8]
   rw[bifF (by rfl),bifT (yL hl)]
   exact y9L l l [] 0 [] hn (λ k=>rfl)
end Go.Tw
end
section
set_option maxRecDepth 100000
namespace Go.Tw
open Go.Vx Go.Vx.B Go.Proofs
theorem yPM{i:Int}(h0:-9223372036854775808<=i)(h1:i<=9223372036854775807):IntKind.i64.wrap i=i:=by
 rw[IntKind.wrap_i64];omega
def gI(a b:Int):Int:=(Nat.gcd a.natAbs b.natAbs:Nat)
theorem yB2{β:Type}(K:Int->β)(body:Int×Int->Option (β⊕(Int×Int)))
  (hb:∀ a b:Int,body (a,b)=if b=0 then some (.inl (K a))else some (.inr (b,a.tmod b))) :
  ∀ (k m:Nat) (a b:Nat),b < 2 ^ k->2 * k+1<=m->y5d body m ((a:Int),(b:Int))=some (K (Nat.gcd a b:Nat))
 |k,0,a,b,_,hm=>by omega
 |k,m+1,a,b,hk,hm=>by
  unfold y5d;rw[hb];by_cases h0:b=0
  ·subst h0;rw[if_pos (by rfl),Nat.gcd_zero_right]
   rfl
  ·rw[if_neg (by omega)]
   simp only[bind_some];have e1:(a:Int).tmod (b:Int)=((a % b:Nat):Int):=by rw[Int.ofNat_tmod]
   rw[e1];have hr:a % b < b:=Nat.mod_lt _ (by omega)
   have hg:Nat.gcd a b=Nat.gcd b (a % b):=by rw[gcd_comm a b,Nat.gcd_rec b a,gcd_comm]
   have hk1:1<=k:=by
    rcases Nat.eq_zero_or_pos k with h|h
    ·subst h;simp at hk;omega
    ·exact h
   match m,hm with
   |0,hm=>omega
   |m+1,hm =>
    unfold y5d;rw[hb];by_cases h1:a % b=0
    ·rw[if_pos (by omega),hg,h1,Nat.gcd_zero_right]
     rfl
    ·rw[if_neg (by omega)]
     simp only[bind_some];generalize hr2:a % b=r at *;have e2:(b:Int).tmod ((r:Nat):Int)=((b % r:Nat):Int):=(Int.ofNat_tmod b r).symm;rw[e2];have hlt:b % r < 2 ^ (k - 1):=by
      have h3:2 * (b % r) < b:=by
       have h4:b % r < r:=Nat.mod_lt _ (by omega)
       have h5:b % r+r<=b:=by
        have h6:=Nat.div_add_mod b r;have h7:1<=b / r:=Nat.div_pos (by omega) (by omega)
        have h8:r * 1<=r * (b / r):=Nat.mul_le_mul_left _ h7;omega
       omega
      have h9:2 ^ k=2 * 2 ^ (k - 1):=by
       rw[<- Nat.pow_succ'];congr 1
       omega
      omega
     rw[yB2 K body hb (k - 1) m r (b % r) hlt (by omega),hg,gcd_comm b,Nat.gcd_rec r b,gcd_comm]
theorem yP9(n:Int)(h0:-9223372036854775807<=n)(h1:n<=9223372036854775807):(z06 n).1=(n.natAbs:Int):=by
 unfold z06;simp only[if_true];rw[yPM (by omega) (by omega)]
 split<;>omega
theorem yHV(n:Int)(h0:-9223372036854775807<=n)(h1:n<=9223372036854775807):(if IntKind.i64.wrap (0 - n) > n then IntKind.i64.wrap (0 - n)else n)=(n.natAbs:Int):=by
 rw[yPM (by omega) (by omega)]
 split<;>omega
theorem yOo{n:Int}(h0:-9223372036854775807<=n)(h1:n<=9223372036854775807):n.natAbs < 2 ^ 63:=by
 have:(2:Nat) ^ 63=9223372036854775808:=by decide
 omega
theorem yHm(a:Nat)(n:Int)(h0:-9223372036854775807<=n)(h1:n<=9223372036854775807):yCz (a:Int) (n.natAbs:Int)=some (gI a n,()):=by
 unfold yCz;have:=yB2 (λ x=>(x,())) (λ s__=>yEc s__.1 s__.2) (λ a b=>by
  unfold yEc;by_cases h:b=0
  ·subst h;rfl
  ·have e:(b != 0)=true:=by simp[h]
   have e2:(b == 0)=false:=by simp[h]
   simp only[e,e2,cond_true,cond_false,if_neg h]) 63 wMax a n.natAbs (yOo h0 h1) (by unfold wMax;omega)
 rw[this];rfl
theorem yBj(l:List Int)(i:Int)(n:Int)(a:Nat)(h0:-9223372036854775807<=n)(h1:n<=9223372036854775807):yEt l i n (a:Int)=some (.inr (gI a n)):=by
 unfold yEt;rw[yP9 n h0 h1];have:=yB2 (λ x=>(Sum.inr x:(Int×Unit)⊕Int)) (λ s__=>yCF l ((l.length:Int)) i s__.1 s__.2) (λ a b=>by
  unfold yCF;by_cases h:b=0
  ·subst h;rfl
  ·have e:(b != 0)=true:=by simp[h]
   have e2:(b == 0)=false:=by simp[h]
   simp only[e,e2,cond_true,cond_false,if_neg h]) 63 wMax a n.natAbs (yOo h0 h1) (by unfold wMax;omega)
 rw[this];rfl
theorem yF3(a b:Int):∃ n:Nat,gI a b=(n:Int):=⟨_,rfl⟩
theorem yJx(a:Nat)(x y:Int)(h0:-9223372036854775807<=x)(h1:x<=9223372036854775807)(h2:-9223372036854775807<=y)(h3:y<=9223372036854775807):yFw (a:Int) [x,y]=some (gI (gI a x) y,()):=by
 unfold yFw;rw[bifT (yL (by simp[lenMax])),y0Q,yBj _ _ _ _ h0 h1]
 simp only[bind_some];obtain ⟨n,hn⟩:=yF3 a x;rw[hn,y0Q,yBj _ _ _ _ h2 h3];rfl
def comG:List Gau->Int->Int
 |[],d=>d
 |z::l,d=>comG l (gI (gI d z.1) z.2.1)
def fits(z:Gau):Prop:=(-9223372036854775807<=z.1/\z.1<=9223372036854775807)/\(-9223372036854775807<=z.2.1/\z.2.1<=9223372036854775807)
theorem yBh(xs:List Gau):∀ (l:List Gau) (i:Int) (d:Nat),(∀ z∈l,fits z)->yS (λ i__ e__ s__=>yEb xs i__ e__ s__) (λ s__=>yIY xs s__) i l (d:Int)=some (comG l d,())
 |[],i,d,_=>rfl
 |z::l,i,d,h=>by
  have hz:=h z (by simp)
  rw[y0Q];unfold yEb;rw[yJx d _ _ hz.1.1 hz.1.2 hz.2.1 hz.2.2];simp only[bind_some,comG];obtain ⟨n,hn⟩:=yF3 (gI d z.1) z.2.1;rw[hn];exact yBh xs l (i+1) n λ z hz=>h z (by simp[hz])
theorem yMx(l:List Gau)(d:Nat)(h:∀ z∈l,fits z)(hl:l.length < lenMax):yHO l (d:Int)=some (comG l d,()):=by
 unfold yHO;rw[bifT (yL hl)];exact yBh l l 0 d h
theorem yCC(xs:List Gau):∀ (l done:List Gau) (d:Nat),xs=done++l->(∀ z∈l,fits z)->yS (λ i__ e__ s__=>yCQ xs i__ e__ s__) (λ s__=>yJ7 xs s__) (done.length:Int) l (d:Int)=some (comG l d,())
 |[],_,d,_,_=>rfl
 |z::l,done,d,hx,h=>by
  have hz:=h z (by simp)
  have hn:xs[done.length]?=some z:=by rw[hx];simp
  rw[y0Q];have hb:yCQ xs (done.length:Int) z (d:Int)=some (.inr (gI (gI d z.1) z.2.1)):=by
   unfold yCQ;rw[y6P,hn];simp only[bind_some,if_true];rw[yHV _ hz.1.1 hz.1.2,yHm d _ hz.1.1 hz.1.2];simp only[bind_some];rw[yHV _ hz.2.1 hz.2.2];obtain ⟨n,hn⟩:=yF3 d z.1;rw[hn,yHm n _ hz.2.1 hz.2.2];rfl
  rw[hb];simp only[bind_some,comG];obtain ⟨n,hn2⟩:=yF3 (gI d z.1) z.2.1;rw[hn2];have ih:=yCC xs l (done++[z]) n (by rw[hx];simp) λ z hz=>h z (by simp[hz])
  simp only[List.length_append,length_cons,length_nil]at ih;exact ih
theorem yNN(l:List Gau)(d:Nat)(h:∀ z∈l,fits z)(hl:l.length < lenMax):yI8 l (d:Int)=some (comG l d,()):=by
 unfold yI8;rw[bifT (yL hl)];exact yCC l l [] d rfl h
def y1A(z:Gau):Int:=y1O [ckR z.1 (-8796093022208) 8796093022208,ckR z.2.1 (-8796093022208) 8796093022208]
theorem y3b{l:List Int}(h:y1O l=0):∀ e∈l,e=0:=by
 induction l with
 |nil=>intro e he;cases he
 |cons a l ih =>
  rw[y0n]at h;unfold yq at h;by_cases ha:a=0
  ·subst ha;simp only[bne_self_eq_false,Bool.false_eq_true,if_false]at h;intro e he;rcases List.mem_cons.1 he with rfl|he
   ·rfl
   ·exact ih h e he
  ·have:(a != 0)=true:=by simp[ha]
   rw[this,if_pos rfl]at h;exact absurd h ha
theorem y2J{n lo hi:Int}(h:ckR n lo hi=0):lo<=n/\n<=hi:=by
 unfold ckR at h;split at h
 ·cases h
 ·omega
theorem yE5{z:Gau}(h:y1A z=0):(-8796093022208<=z.1/\z.1<=8796093022208)/\(-8796093022208<=z.2.1/\z.2.1<=8796093022208):=by
 have h1:=y3b h;exact ⟨y2J (h1 _ (by simp)),y2J (h1 _ (by simp))⟩
theorem y7s{z:Gau}(h:y1A z=0):fits z:=by
 have:=yE5 h;unfold fits;omega
theorem yJo(z:Gau):zv_M z=some (y1A z,()):=by
 unfold zv_M zv_m;simp only[y8Z];rw[y3N _ (yEY _ _)];rfl
theorem yKd(z:Gau):zi_M z=some (y1A z,()):=by
 unfold zi_M zi_m;simp only[y3d];rw[yBN _ (yEY _ _)];rfl
theorem y0u{n:Nat}(h:n<=memMax):n < lenMax:=Nat.lt_of_le_of_lt h y8l
theorem yHl(l:List Gau)(hl:l.length<=memMax):zF_M l (λ x=>zv_M x.1)=some (l.map y1A,()):=by
 unfold zF_M;rw[bifT (yL (y0u hl))];rw[y6L y1A l 0 [] (by simpa using hl) λ i e s _ hs=>by
  unfold yMb;show (Option.bind (zv_M e) _)=_
  rw[yJo];simp only[bind_some];rw[bifT (yL hs)]]
 rfl
def y0A(t:Tid):Int:=
 yq (y4H t.1) (yq (if t.2.1.length=t.1.length then 0 else 2) (yq (ckR t.2.2.1 1 268435456) (yq (y1O (t.2.1.map y1A)) (if comG t.2.1 t.2.2.1=1 then 0 else 1))))
theorem y02{a b:Int}(h:a≠0):yq a b=a:=by unfold yq;rw[if_pos (by simpa using h)]
theorem y0p(b:Int):yq 0 b=b:=by unfold yq;rw[if_neg (by simp)]
theorem y0T(a b c:Int):yq (yq a b) c=yq a (yq b c):=by
 by_cases h:a=0
 ·subst h;simp only[y0p]
 ·rw[y02 h,y02 h,y02 h]
theorem y6b{l:List Gau}(h:y1O (l.map y1A)=0):∀ z∈l,y1A z=0:=λ z hz=>y3b h _ (List.mem_map.2 ⟨z,hz,rfl⟩)
theorem yLq(t:Tid)(hn:∀ n∈t.1,n.1.length < lenMax)(hl:t.1.length < lenMax)(ha:t.2.1.length<=memMax):zu_M t=some (y0A t,()):=by
 unfold zu_M zu_m;rw[yKL _ hn hl,yHl _ ha];simp only[bind_some];rw[y3N _ (by rw[List.length_map];exact y0u ha)]
 simp only[bind_some,y6e,y8Z];rw[y3N _ (yNl _ _ _ _)];simp only[bind_some];have e:(bif ((t.2.1.length:Int) != (t.1.length:Int))then (2:Int)else 0)=if t.2.1.length=t.1.length then 0 else 2:=by
  by_cases h:t.2.1.length=t.1.length
  ·rw[if_pos h,h];simp
  ·rw[if_neg h];have:((t.2.1.length:Int) != (t.1.length:Int))=true:=by simpa using λ hh=>h (by omega)
   rw[this];rfl
 rw[e,y0n,y0n,y0n,y0n,yA1,y6u];unfold y0A;rw[<- y0T,<- y0T,<- y0T,<- y0T,<- y0T];generalize hq:yq (yq (yq (y4H t.1) (if t.2.1.length=t.1.length then 0 else 2)) (ckR t.2.2.1 1 268435456)) (y1O (t.2.1.map y1A))=q
 by_cases h0:q=0
 ·subst h0;have hp:y1O (t.2.1.map y1A)=0/\ckR t.2.2.1 1 268435456=0:=by
   rw[y0T,y0T]at hq;by_cases h1:y4H t.1=0
   ·rw[h1,y0p]at hq;by_cases h2:t.2.1.length=t.1.length
    ·rw[if_pos h2,y0p]at hq;by_cases h3:ckR t.2.2.1 1 268435456=0
     ·rw[h3,y0p]at hq;exact ⟨hq,h3⟩
     ·rw[y02 h3]at hq;exact absurd hq h3
    ·rw[if_neg h2,y02 (by decide)]at hq;cases hq
   ·rw[y02 h1]at hq;exact absurd hq h1
  have hd:=y2J hp.2;obtain ⟨d,hd2⟩:∃ d:Nat,t.2.2.1=(d:Int):=⟨t.2.2.1.toNat,by omega⟩
  rw[bifF (by rfl),y0p,hd2,yMx _ d (λ z hz=>y7s (y6b hp.1 z hz)) (y0u ha)]
  simp only[bind_some];by_cases hc:comG t.2.1 (d:Int)=1
  ·rw[if_pos hc,hc];rfl
  ·rw[if_neg hc];have:(comG t.2.1 (d:Int) != 1)=true:=by simpa using hc
   rw[this];rfl
 ·rw[bifT (by simpa using h0),y02 h0]
theorem yDF(t:Tid)(l:List Gau)(i:Int):yS (λ i__ e__ s__=>yK8 t i__ e__) (λ s__=>yHB t) i l ()=if y1O (l.map y1A)=0 then yHB t else some (y1O (l.map y1A),()):=by
 rw[y4u (λ z=>if y1A z != 0 then some (y1A z,())else none) l i λ i z _=>by
  unfold yK8;rw[yKd];simp only[bind_some];cases h:(y1A z != 0)<;>rfl]
 induction l with
 |nil=>rfl
 |cons z l ih =>
  rw[findSome?_cons,List.map_cons,y0n];by_cases h:y1A z=0
  ·have e:(y1A z != 0)=false:=by simp[h]
   rw[e,if_neg (by simp),h,y0p]
   exact ih
  ·have e:(y1A z != 0)=true:=by simp[h]
   rw[e,if_pos rfl,y02 h,if_neg h]
theorem yPJ(t:Tid)(ha:t.2.1.length<=memMax):zj_M t=some (y0A t,()):=by
 unfold zj_M y0A;rw[yL8];simp only[bind_some,y3d];by_cases h1:y4H t.1=0
 ·rw[h1,bifF (by rfl),y0p]
  by_cases h2:t.2.1.length=t.1.length
  ·rw[if_pos h2,y0p,bifF (by rw[h2];simp)]
   by_cases h3:ckR t.2.2.1 1 268435456=0
   ·rw[h3,bifF (by rfl),y0p,bifT (yL (y0u ha)),yDF]
    by_cases h4:y1O (t.2.1.map y1A)=0
    ·rw[if_pos h4,h4,y0p];have hd:=y2J h3;obtain ⟨d,hd2⟩:∃ d:Nat,t.2.2.1=(d:Int):=⟨t.2.2.1.toNat,by omega⟩
     unfold yHB;rw[hd2,yNN _ d (λ z hz=>y7s (y6b h4 z hz)) (y0u ha)]
     simp only[bind_some];by_cases hc:comG t.2.1 (d:Int)=1
     ·rw[if_pos hc,hc];rfl
     ·rw[if_neg hc];have:(comG t.2.1 (d:Int) != 1)=true:=by simpa using hc
      rw[this];rfl
    ·rw[if_neg h4,y02 h4]
   ·rw[bifT (by simpa using h3),y02 h3]
  ·rw[if_neg h2,y02 (by decide),bifT (by simpa using λ hh=>h2 (by omega))]
 ·rw[bifT (by simpa using h1),y02 h1]
end Go.Tw
end
section
set_option maxRecDepth 100000
namespace Go.Tw
open Go.Vx Go.Vx.B Go.Proofs
def yM8(c:Con):Prop:=(1<=c.2.1/\c.2.1<=96)/\(0<=c.2.2.1/\c.2.2.1<=3)
structure okT (t:Tid):Prop where
 len:t.1.length=t.2.1.length
 few:t.1.length<=4
 con:∀ c∈t.1,yM8 c
 den:1<=t.2.2.1/\t.2.2.1<=268435456
 part:∀ z∈t.2.1,y1A z=0
 red:comG t.2.1 t.2.2.1=1
theorem y0F{a b:Int}(h:yq a b=0):a=0/\b=0:=by
 by_cases ha:a=0
 ·subst ha;rw[y0p]at h;exact ⟨rfl,h⟩
 ·rw[y02 ha]at h;exact absurd h ha
theorem yB0:∀ (l done:List Con),yDA done l=0->∀ c∈l,yB4 c=0
 |[],_,_,c,hc=>by cases hc
 |n::l,done,h,c,hc=>by
  obtain ⟨h1,h2⟩:=y0F h;rcases List.mem_cons.1 hc with rfl|hc
  ·exact (y0F h1).1
  ·exact yB0 l _ h2 c hc
theorem yFL{c:Con}(h:yB4 c=0):yM8 c/\isNm c.1=true:=by
 have h1:=y3b h;refine ⟨⟨y2J (h1 _ (by simp)),y2J (h1 _ (by simp))⟩,?_⟩
 have:=h1 _ (List.mem_cons_self ..);cases hn:isNm c.1 with
 |true=>rfl
 |false=>rw[hn]at this;cases this
theorem yBl{l:List Con}(h:y4H l=0):0 < l.length/\l.length<=4/\(∀ c∈l,yM8 c):=by
 unfold y4H at h;split at h
 ·cases h
 ·split at h
  ·cases h
  ·exact ⟨by omega,by omega,λ c hc=>(yFL (yB0 l [] h c hc)).1⟩
theorem yBW{t:Tid}(h:y0A t=0):okT t:=by
 unfold y0A at h;obtain ⟨h1,h2⟩:=y0F h;obtain ⟨h3,h4⟩:=y0F h2;obtain ⟨h5,h6⟩:=y0F h4;obtain ⟨h7,h8⟩:=y0F h6;obtain ⟨a1,a2,a3⟩:=yBl h1;refine ⟨?_,a2,a3,y2J h5,y6b h7,?_⟩
 ·by_cases hl:t.2.1.length=t.1.length
  ·exact hl.symm
  ·rw[if_neg hl]at h3;cases h3
 ·by_cases hg:comG t.2.1 t.2.2.1=1
  ·exact hg
  ·rw[if_neg hg]at h8;cases h8
end Go.Tw
end
