import Derived.Test.YtpcnkpbpcebokaaGreatDoorBD
import Derived.KernelRfl
import Derived.Test.YtpcnkpbpcebokaaGreatDoorLQ
import Derived.Test.YtpcnkpbpcebokaaGreatDoorLR
set_option linter.all false
open List (length_cons)
open Option (bind_some)
section
set_option maxRecDepth 1000000
namespace Go.Tw
open Go.Vx Go.Vx.B Go.Proofs
theorem yHr:yRb=some (true,()):=by kernel_rfl
end Go.Tw
end
section
set_option maxRecDepth 100000
namespace Go.Tw
open Go.Vx Go.Vx.B Go.Proofs
section
variable {α β γ σ:Type}
theorem y3n{body:Int->α->σ->Option (β⊕σ)}{fin:σ->Option β}{i:Int}{s:σ}:yJ body fin i [] s=fin s:=rfl
theorem yk{body:Int->α->σ->Option (β⊕σ)}{fin:σ->Option β}{i:Int}{e:α}{l:List α}{s:σ}:yJ body fin i (e::l) s=(body i e s).bind λ z=>match z with
  |.inl y=>some y
  |.inr s'=>yJ body fin (i+1) l s':=rfl
theorem y1d{body:Int->α->Unit->Option (β⊕Unit)}{fin:Unit->Option β}(p:α->Option β) :
  ∀ (l:List α) (i:Int),(∀ i e,e∈l->body i e ()=some (match p e with|some y=>.inl y|none=>.inr ()))->yJ body fin i l ()=match l.findSome? p with|some y=>some y|none=>fin ()
 |[],i,_=>rfl
 |e::l,i,h=>by
  rw[yk,h i e (by simp),List.findSome?_cons]
  cases p e with
  |none=>exact y1d p l (i+1) λ i e he=>h i e (by simp[he])
  |some y=>rfl
theorem y1q{body:Int->α->List γ->Option (β⊕List γ)}{fin:List γ->Option β}(f:α->γ) :
  ∀ (l:List α) (i:Int) (s:List γ),s.length+l.length<=memMax->(∀ i e s,e∈l->s.length+1<=memMax->body i e s=some (.inr (s++[f e])))->yJ body fin i l s=fin (s++l.map f)
 |[],i,s,_,_=>by simp[y3n]
 |e::l,i,s,hl,h=>by
  simp only[length_cons]at hl;rw[yk,h i e s (by simp) (by omega)]
  simp only[bind_some];rw[y1q f l (i+1) (s++[f e]) (by simp;omega) λ i e s he hs=>h i e s (by simp[he]) hs]
  simp
end
theorem y8{p:Prop}[Decidable p](h:p):decide p=true:=decide_eq_true h
theorem y9{p:Prop}[Decidable p](h:¬ p):decide p=false:=decide_eq_false h
theorem bifT{α:Type}{c:Bool}{a b:α}(h:c=true):(bif c then a else b)=a:=by rw[h];rfl
theorem bifF{α:Type}{c:Bool}{a b:α}(h:c=false):(bif c then a else b)=b:=by rw[h];rfl
theorem yCy:memMax < lenMax:=by decide
def ckR(n lo hi:Int):Int:=if n < lo\/hi < n then 3 else 0
def y08(l:List Int):Int:=(l.find? (· != 0)).getD 0
theorem y5v(n lo hi:Int):zg n lo hi=(ckR n lo hi,()):=by
 unfold zg ckR;by_cases h1:n < lo
 ·rw[bifT (y8 h1),if_pos (.inl h1)]
 ·rw[bifF (y9 h1)];by_cases h2:n > hi
  ·rw[bifT (y8 h2),if_pos (.inr h2)]
  ·rw[bifF (y9 h2),if_neg (by omega)]
theorem y4s(c:Bool)(e:Int):z1B c e=(bif c then e else 0,()):=by
 unfold z1B;cases c<;>rfl
theorem yCI(n lo hi:Int):z0h n lo hi=(ckR n lo hi,()):=by
 unfold z0h ckR;by_cases h1:n < lo
 ·rw[bifT (y8 h1),y4s,cond_true,if_pos (.inl h1)]
 ·rw[bifF (y9 h1),y4s];by_cases h2:n > hi
  ·rw[y8 h2,cond_true,if_pos (.inr h2)]
  ·rw[y9 h2,cond_false,if_neg (by omega)]
theorem y67(l:List Int):l.findSome? (λ e=>if e != 0 then some (e,())else none)=(l.find? (· != 0)).map λ e=>(e,()):=by
 induction l with
 |nil=>rfl
 |cons e l ih =>
  rw[List.findSome?_cons,List.find?_cons];cases he:(e != 0)with
  |true=>rfl
  |false=>simpa using ih
theorem y2G(l:List Int)(h:l.length < lenMax):y2I l=some (y08 l,()):=by
 unfold y2I;rw[bifT (y8 h),y1d (λ e=>if e != 0 then some (e,())else none) l 0 (λ i e _=>by
  unfold yJO;cases he:(e != 0)<;>rfl),y67]
 unfold y08 yIM;cases l.find? (· != 0)<;>rfl
theorem y04{α:Type}(l:List α)(i:Nat):idx l (i:Int)=l[i]?:=by
 unfold idx;rw[if_pos (Int.natCast_nonneg i)];rfl
theorem y3B{α β:Type}{body:Int->α->Unit->Option (β⊕Unit)}{fin:Unit->Option β}(xs:List α)(p:α->Option β) :
  ∀ (l done:List α),xs=done++l->(∀ (i:Nat) e,xs[i]?=some e->body (i:Int) e ()=some (match p e with|some y=>.inl y|none=>.inr ())) ->
   yJ body fin (done.length:Int) l ()=match l.findSome? p with|some y=>some y|none=>fin ()
 |[],done,_,_=>rfl
 |e::l,done,hx,h=>by
  rw[yk,h done.length e (by rw[hx];simp),List.findSome?_cons]
  cases p e with
  |none =>
   have:=y3B (body:=body) (fin:=fin) xs p l (done++[e]) (by rw[hx];simp) h
   simp only[List.length_append,length_cons,List.length_nil]at this;exact this
  |some y=>rfl
theorem y85(l:List Int)(h:l.length < lenMax):yBr l=some (y08 l,()):=by
 unfold yBr;have:=y3B (body:=λ i__ e__ s__=>yFN l i__ e__) (fin:=λ s__=>yGW l) l (λ e=>if e != 0 then some (e,())else none) l [] rfl (λ i e hi=>by
  unfold yFN;cases he:(e != 0)with
  |true=>rw[y04,hi];rfl
  |false=>rfl)
 rw[bifT (y8 h)];refine this.trans ?_
 rw[y67];unfold y08 yGW;cases l.find? (· != 0)<;>rfl
def y4p(c:Nat):Bool:=decide (65<=c/\c<=90\/97<=c/\c<=122)
def y8k(c:Nat):Bool:=decide (48<=c/\c<=57\/c=95)
def nmOk:Bool->List UInt8->Bool
 |_,[]=>true
 | first,c::l=>(y4p c.toNat || (!first && y8k c.toNat)) && nmOk false l
def isNm(s:List UInt8):Bool:=nmOk true s && decide (0 < s.length/\s.length<=24)
theorem y9K:∀ (s0 s:List UInt8) (i:Int),0<=i->yJ (λ i__ e__ s__=>yD7 s0 i__ e__) (λ s__=>yKh s0) i s ()=some (nmOk (decide (i=0)) s,())
  |s0,[],i,_=>rfl
  |s0,c::l,i,hi=>by
    rw[yk];have ih:=y9K s0 l (i+1) (by omega)
    have e0:decide (i+1=0)=false:=y9 (by omega)
    rw[e0]at ih;unfold nmOk;have hb:yD7 s0 i c=some (if (y4p c.toNat || (!decide (i=0) && y8k c.toNat))=true then .inr ()else .inl (false,())):=by
      unfold yD7 y6E y4p y8k;have g3:(i == 0)=decide (i=0):=by by_cases h:i=0<;>simp[h]
      have g4:((c.toNat:Int) != 95)=!decide ((c.toNat:Int)=95):=by by_cases h:(c.toNat:Int)=95<;>simp[h]
      rw[g3,g4];by_cases h1:(97:Int)<=c.toNat<;>by_cases h2:(c.toNat:Int)<=122<;>by_cases h3:(65:Int)<=c.toNat<;>by_cases h4:(c.toNat:Int)<=90<;>by_cases h5:(c.toNat:Int) < 48<;>by_cases h6:(c.toNat:Int) > 57<;>by_cases h7:(c.toNat:Int)=95<;>by_cases h8:i=0 <;>
        first
        | omega
        | (have g1:(decide (65<=c.toNat/\c.toNat<=90\/97<=c.toNat/\c.toNat<=122))=decide ((65:Int)<=c.toNat/\(c.toNat:Int)<=90\/(97:Int)<=c.toNat/\(c.toNat:Int)<=122):=by
            apply decide_eq_decide.2;omega
           have g2:(decide (48<=c.toNat/\c.toNat<=57\/c.toNat=95))=decide (¬ (c.toNat:Int) < 48/\¬ (c.toNat:Int) > 57\/(c.toNat:Int)=95):=by
            apply decide_eq_decide.2;omega
           rw[g1,g2];simp[h1,h2,h3,h4,h5,h6,h7,h8])
    rw[hb];simp only[bind_some];by_cases hc:(y4p c.toNat || (!decide (i=0) && y8k c.toNat))=true
    · rw[if_pos hc,hc,Bool.true_and];exact ih
    · rw[if_neg hc,Bool.eq_false_iff.2 hc];rfl
theorem yMd(s:List UInt8):yMt s=some (isNm s,()):=by
 unfold yMt isNm;by_cases h0:s.length=0
 ·have:((s.length:Int) == 0)=true:=by simp[h0]
  rw[bifT this,show decide (0 < s.length/\s.length<=24)=false from y9 (by omega),Bool.and_false]
 ·have:((s.length:Int) == 0)=false:=by simpa using h0
  rw[bifF this];by_cases h1:24 < s.length
  ·rw[bifT (y8 (by omega)),show decide (0 < s.length/\s.length<=24)=false from y9 (by omega),Bool.and_false]
  ·rw[bifF (y9 (show ¬ ((s.length:Int) > 24) by omega)),bifT (y8 (show s.length < lenMax by unfold lenMax;omega)),y9K s s 0 (by omega),y8 rfl]
   rw[show decide (0 < s.length/\s.length<=24)=true from y8 ⟨by omega,by omega⟩,Bool.and_true]
theorem yNh{bs:List UInt8}{i:Nat}{c:UInt8}(h:bs[i]?=some c):(⟨bs.toArray⟩:ByteArray).get! i=c:=by
 show bs.toArray[i]! = c
 rw[getElem!_def];simp[h]
theorem yHy{bs:List UInt8}{i:Nat}{c:UInt8}(h:bs[i]?=some c)(hc:c.toNat < 128):yd bs (i:Int)=((c.toNat:Int),(i:Int)+1):=by
 unfold yd Utf8.decode;have h0:(⟨bs.toArray⟩:ByteArray).get! ((i:Int).toNat+0)=c:=by rw[Int.toNat_natCast,Nat.add_zero];exact yNh h
 simp only[h0];rw[if_pos hc];rfl
theorem yL5{bs:List UInt8}{i:Nat}{c:UInt8}(h:bs[i]?=some c)(hc:128<=c.toNat):128<=(yd bs (i:Int)).1:=by
 unfold yd Utf8.decode;have h0:(⟨bs.toArray⟩:ByteArray).get! ((i:Int).toNat+0)=c:=by rw[Int.toNat_natCast,Nat.add_zero];exact yNh h
 simp only[h0];rw[if_neg (by omega)]
 have he:Utf8.runeError=65533:=rfl;split
 ·split
  ·rename_i h2;show (128:Int)<=((_:Nat):Int);omega
  ·rw[he];decide
 ·split
  ·split
   ·rename_i h2;simp only[Bool.and_eq_true,decide_eq_true_eq]at h2;show (128:Int)<=((_:Nat):Int);omega
   ·rw[he];decide
  ·split
   ·split
    ·rename_i h2;simp only[Bool.and_eq_true,decide_eq_true_eq]at h2;show (128:Int)<=((_:Nat):Int);omega
    ·rw[he];decide
   ·rw[he];decide
def yAU(r:Int):Bool:=decide (65<=r/\r<=90\/97<=r/\r<=122)
def yG2(r:Int):Bool:=decide (48<=r/\r<=57\/r=95)
theorem yHQ(s str:List UInt8)(pos:Int):yC5 s str pos=some (if (yAU (yd str pos).1 || (!decide (pos=0) && yG2 (yd str pos).1))=true then .inr ()else .inl (false,())):=by
 unfold yC5 y4x y8A yAU yG2;generalize (yd str pos).1=r;have g3:(pos == 0)=decide (pos=0):=by by_cases h:pos=0<;>simp[h]
 have g4:(r == 95)=decide (r=95):=by by_cases h:r=95<;>simp[h]
 rw[g3,g4];by_cases h1:r >= 97<;>by_cases h2:r<=122<;>by_cases h3:r >= 65<;>by_cases h4:r<=90<;>by_cases h5:r >= 48<;>by_cases h6:r<=57<;>by_cases h7:r=95<;>by_cases h8:pos=0 <;>
  first
  | omega
  | simp[h1,h2,h3,h4,h5,h6,h7,h8]
theorem y9c(s:List UInt8):∀ (m i:Nat),s.length<=i+m->i<=s.length ->
  y95 s (λ i__ s__=>yC5 s s i__) (λ s__=>yCc s s) m (i:Int) ()=bif nmOk (decide (i=0)) (s.drop i)then yCc s s else some (false,())
 |m,i,hm,hi=>by
  by_cases hl:i=s.length
  ·have e1:s.drop i=[]:=List.drop_eq_nil_of_le (by omega)
   have e2:decide ((i:Int) < (s.length:Int))=false:=y9 (by omega)
   rw[e1];cases m<;>(unfold y95;rw[bifF e2];rfl)
  ·have hlt:i < s.length:=by omega
   obtain ⟨m,rfl⟩:∃ k,m=k+1:=⟨m - 1,by omega⟩
   have hd:s.drop i=s[i]::s.drop (i+1):=(List.getElem_cons_drop (h:=hlt)).symm;have hg:s[i]?=some s[i]:=List.getElem?_eq_getElem hlt;have e0:decide ((i:Int)=0)=decide (i=0):=decide_eq_decide.2 (by omega)
   unfold y95;rw[bifT (y8 (show (i:Int) < (s.length:Int) by omega)),yHQ,hd,e0]
   simp only[bind_some];by_cases hc:s[i].toNat < 128
   ·rw[yHy hg hc];have e1:yAU (s[i].toNat:Int)=y4p s[i].toNat:=decide_eq_decide.2 (by omega)
    have e2:yG2 (s[i].toNat:Int)=y8k s[i].toNat:=decide_eq_decide.2 (by omega)
    simp only[e1,e2,nmOk];by_cases hb:(y4p s[i].toNat || (!decide (i=0) && y8k s[i].toNat))=true
    ·rw[if_pos hb,hb,Bool.true_and];have ih:=y9c s m (i+1) (by omega) (by omega)
     have e3:decide (i+1=0)=false:=y9 (by omega)
     rw[e3,show ((i+1:Nat):Int)=(i:Int)+1 by omega]at ih
     exact ih
    ·rw[if_neg hb,Bool.eq_false_iff.2 hb,Bool.false_and];rfl
   ·have h1:=yL5 hg (by omega)
    have e1:yAU (yd s (i:Int)).1=false:=y9 (by omega)
    have e2:yG2 (yd s (i:Int)).1=false:=y9 (by omega)
    have e3:y4p s[i].toNat=false:=y9 (by omega)
    have e4:y8k s[i].toNat=false:=y9 (by omega)
    simp[e1,e2,nmOk,e3,e4]
theorem yGU(s:List UInt8)(h:s.length < lenMax):yLH s=some (isNm s,()):=by
 unfold yLH;have:=y9c s s.length 0 (by omega) (by omega)
 rw[List.drop_zero,show decide (0=0)=true from rfl]at this
 rw[bifT (y8 h)];refine (show _=_ from this).trans ?_
 unfold isNm yCc;cases hn:nmOk true s with
 |false=>rfl
 |true =>
  rw[cond_true,Bool.true_and];cases s with
  |nil=>rfl
  |cons c l =>
   have e:decide (((c::l).length:Int)<=24)=decide (0 < (c::l).length/\(c::l).length<=24):=decide_eq_decide.2 (by simp only[length_cons];omega)
   rw[<- e];rfl
def yP(a b:Int):Int:=if a != 0 then a else b
theorem y0s:y08 []=0:=rfl
theorem yS(a:Int)(l:List Int):y08 (a::l)=yP a (y08 l):=by
 unfold y08 yP;rw[List.find?_cons];cases h:(a != 0)<;>rfl
theorem y0R(a:Int):yP a 0=a:=by
 unfold yP;by_cases h:a=0<;>simp[h]
end Go.Tw
end
section
set_option maxRecDepth 100000
namespace Go.Tw
open Go.Vx Go.Vx.B Go.Proofs
abbrev Con:=List UInt8×Int×Int×Unit
abbrev Gau:=Int×Int×Unit
abbrev Tid:=List Con×List Gau×Int×Unit
def y7b(c:Con):Int:=y08 [bif isNm c.1 then 0 else 8,ckR c.2.1 1 96,ckR c.2.2.1 0 3]
def conE(done:List Con)(c:Con):Int:=yP (y7b c) (bif done.any (λ d=>d.1 == c.1)then 9 else 0)
def yBt:List Con->List Con->Int
 |_,[]=>0
 |done,n::l=>yP (conE done n) (yBt (done++[n]) l)
def y5X(l:List Con):Int:=if l.length=0 then 12 else if 4 < l.length then 5 else yBt [] l
theorem y5g(a b:Int):[a,b].length < lenMax:=by simp[lenMax]
theorem yGN(a b c:Int):[a,b,c].length < lenMax:=by simp[lenMax]
theorem yBe(s:List UInt8):zp_M s=some (bif isNm s then 0 else 8,()):=by
 unfold zp_M zp_m;rw[yMd];cases isNm s<;>rfl
theorem y9l(l:List Con)(i:Nat)(n:Con)(hn:l[i]?=some n){fin:Unit->Option ((Int×Unit)⊕Unit)}:∀ (m k:Nat),k+m=i ->
  y0b (λ i__ s__=>yHS l (i:Int) i__) fin m (k:Int) ()=if ((l.drop k).take m).any (λ d=>d.1 == n.1)=true then some (.inl (9,()))else fin ()
 |0,k,_=>by simp[y0b]
 |m+1,k,hk=>by
  have hi:i < l.length:=(List.getElem?_eq_some_iff.1 hn).1;have hkl:k < l.length:=by omega
  unfold y0b;have hb:yHS l (i:Int) (k:Int)=some (if (l[k].1 == n.1)=true then .inl (.inl (9,()))else .inr ()):=by
   unfold yHS;rw[y04,y04,hn,List.getElem?_eq_getElem hkl];simp only[bind_some];cases (l[k].1 == n.1)<;>rfl
  rw[hb];simp only[bind_some];have hd:(l.drop k).take (m+1)=l[k]::(l.drop (k+1)).take m:=by
   rw[<- List.getElem_cons_drop (h:=hkl),List.take_succ_cons]
  rw[hd,List.any_cons];cases h:(l[k].1 == n.1)with
  |true=>rfl
  |false =>
   rw[if_neg (by simp),Bool.false_or]
   have ih:=y9l l i n hn (fin:=fin) m (k+1) (by omega)
   rw[show ((k+1:Nat):Int)=(k:Int)+1 by omega]at ih
   exact ih
theorem yH4(l:List Con)(hl:l.length<=4)(i:Nat)(n:Con)(hn:l[i]?=some n) :
  yIF l (i:Int) n=some (bif conE (l.take i) n != 0 then .inl (conE (l.take i) n,())else .inr ()):=by
 have hi:i < l.length:=(List.getElem?_eq_some_iff.1 hn).1;unfold yIF;rw[yBe,y04,hn];simp only[bind_some,y5v];rw[y85 _ (yGN _ _ _)];simp only[bind_some];show (bif (y7b n != 0)then some (Sum.inl (y7b n,()))else _)=_
 unfold conE yP;cases hs:(y7b n != 0)with
 |true=>simp only[cond_true,if_true,hs]
 |false =>
  simp only[cond_false,Bool.false_eq_true,if_false];rw[bifT (y8 (show (i:Int)<=9223372036854775807 by omega))]
  have e1:((i:Int) - 0).toNat=i:=by omega
  rw[e1];have:=y9l l i n hn (fin:=λ s__=>yMs l (i:Int)) i 0 (by omega)
  rw[show ((0:Nat):Int)=0 from rfl]at this
  rw[this,List.drop_zero];cases hany:(l.take i).any (λ d=>d.1 == n.1)with
  |true=>rw[if_pos rfl];rfl
  |false=>rw[if_neg (by simp)];rfl
theorem y9N(xs:List Con)(hl:xs.length<=4):∀ (l done:List Con),xs=done++l ->
  yJ (λ i__ e__ s__=>yIF xs i__ e__) (λ s__=>yOR xs) (done.length:Int) l ()=some (yBt done l,())
 |[],done,_=>rfl
 |n::l,done,hx=>by
  have hn:xs[done.length]?=some n:=by rw[hx];simp
  rw[yk,yH4 xs hl done.length n hn];have ht:xs.take done.length=done:=by rw[hx];simp
  rw[ht];simp only[bind_some,yBt,yP];cases h:(conE done n != 0)with
  |true=>rfl
  |false =>
   have ih:=y9N xs hl l (done++[n]) (by rw[hx];simp)
   simp only[List.length_append,length_cons,List.length_nil]at ih;exact ih
theorem yMZ(l:List Con):zL_M l=some (y5X l,()):=by
 unfold zL_M y5X;by_cases h0:l.length=0
 ·rw[bifT (show ((l.length:Int) == 0)=true by simp[h0]),if_pos h0]
 ·rw[bifF (show ((l.length:Int) == 0)=false by simpa using h0),if_neg h0]
  by_cases h8:4 < l.length
  ·rw[bifT (y8 (show (l.length:Int) > 4 by omega)),if_pos h8]
  ·rw[bifF (y9 (show ¬ (l.length:Int) > 4 by omega)),if_neg h8,bifT (y8 (show l.length < lenMax by unfold lenMax;omega))]
   exact y9N l (by omega) l [] rfl
def yMy(m:List (List UInt8×Bool))(done:List Con):Prop:=∀ k,(y0N .str .bool m k).getD false=done.any λ d=>d.1 == k
theorem yH3(m:List (List UInt8×Bool))(k k':List UInt8):(y0N .str .bool (y1I .str .bool m k true) k').getD false=((k == k') || (y0N .str .bool m k').getD false):=by
 induction m with
 |nil =>
  show (y0N .str .bool [(k,true)] k').getD false=_
  simp only[y0N,eqV];by_cases h:k'=k
  ·subst h;simp
  ·have h1:(k' == k)=false:=beq_eq_false_iff_ne.2 h;have h2:(k == k')=false:=beq_eq_false_iff_ne.2 (Ne.symm h);show (bif (k' == k)then some true else none).getD false=_
   rw[h1,h2];rfl
 |cons p m ih =>
  show (y0N .str .bool (bif (k == p.1)then (k,true)::m else p::y1I .str .bool m k true) k').getD false=_
  by_cases h:k=p.1
  ·have h1:(k == p.1)=true:=by simp[h]
   rw[h1,cond_true];show (bif (k' == k)then some true else y0N .str .bool m k').getD false=((k == k') || (bif (k' == p.1)then some p.2 else y0N .str .bool m k').getD false)
   by_cases h2:k'=k
   ·have e1:(k' == k)=true:=by simp[h2]
    have e2:(k == k')=true:=by simp[h2]
    rw[e1,e2];rfl
   ·have e1:(k' == k)=false:=beq_eq_false_iff_ne.2 h2;have e2:(k == k')=false:=beq_eq_false_iff_ne.2 (Ne.symm h2);have e3:(k' == p.1)=false:=by rw[<- h];exact e1
    rw[e1,e2,e3];rfl
  ·have h1:(k == p.1)=false:=beq_eq_false_iff_ne.2 h;rw[h1,cond_false];show (bif (k' == p.1)then some p.2 else y0N .str .bool (y1I .str .bool m k true) k').getD false=((k == k') || (bif (k' == p.1)then some p.2 else y0N .str .bool m k').getD false)
   by_cases h2:k'=p.1
   ·have e1:(k' == p.1)=true:=by simp[h2]
    have e2:(k == k')=false:=by rw[h2];exact h1
    rw[e1,e2];rfl
   ·have e1:(k' == p.1)=false:=beq_eq_false_iff_ne.2 h2;rw[e1];exact ih
theorem yMy.put{m:List (List UInt8×Bool)}{done:List Con}(h:yMy m done)(n:Con):yMy (y1I .str .bool m n.1 true) (done++[n]):=by
 intro k;rw[yH3,h k,List.any_append];simp[Bool.or_comm]
theorem yIq(c:Con)(h:c.1.length < lenMax):zO_M c=some (y7b c,()):=by
 unfold zO_M zO_m;rw[yGU c.1 h];simp only[bind_some,y4s,yCI];rw[y2G _ (yGN _ _ _)];unfold y7b;cases isNm c.1<;>rfl
theorem y9O(xs:List Con):∀ (l done:List Con) (i:Int) (m:List (List UInt8×Bool)),(∀ n∈l,n.1.length < lenMax)->yMy m done ->
  yJ (λ i__ e__ s__=>yLM xs i__ e__ s__) (λ s__=>yPD xs s__) i l m=some (yBt done l,())
 |[],done,i,m,_,_=>rfl
 |n::l,done,i,m,hl,hk=>by
  have hb:yLM xs i n m=some (bif conE done n != 0 then .inl (conE done n,())else .inr (y1I .str .bool m n.1 true)):=by
   unfold yLM;rw[yIq _ (hl n (by simp))]
   simp only[bind_some,y4s,hk n.1];rw[y2G _ (y5g _ _)];have e:y08 [y7b (n.fst,n.snd.fst,n.snd.snd.fst,()),bif done.any (λ d=>d.1 == n.1)then 9 else 0]=conE done n:=by
    rw[yS,yS,y0s,y0R];rfl
   simp only[bind_some,e];cases (conE done n != 0)<;>rfl
  rw[yk,hb];simp only[bind_some,yBt,yP];cases h:(conE done n != 0)with
  |true=>rfl
  |false =>
   simp only[cond_false,Bool.false_eq_true,if_false];exact y9O xs l (done++[n]) (i+1) _ (λ x hx=>hl x (by simp[hx])) (hk.put n)
theorem yN4(l:List Con)(hn:∀ n∈l,n.1.length < lenMax)(hl:l.length < lenMax):zN_M l=some (y5X l,()):=by
 unfold zN_M y5X;simp only[y4s];rw[y2G _ (y5g _ _)];simp only[bind_some];by_cases h0:l.length=0
 ·rw[show ((l.length:Int) == 0)=true by simp[h0],if_pos h0]
  rfl
 ·rw[show ((l.length:Int) == 0)=false by simpa using h0,if_neg h0]
  by_cases h8:4 < l.length
  ·rw[y8 (show (l.length:Int) > 4 by omega),if_pos h8]
   rfl
  ·rw[y9 (show ¬ (l.length:Int) > 4 by omega),if_neg h8]
   rw[bifF (by rfl),bifT (y8 hl)]
   exact y9O l l [] 0 [] hn (λ k=>rfl)
end Go.Tw
end
section
set_option maxRecDepth 100000
namespace Go.Tw
open Go.Vx Go.Vx.B Go.Proofs
theorem y0o{i:Int}(h0:-9223372036854775808<=i)(h1:i<=9223372036854775807):IntKind.i64.wrap i=i:=by
 rw[IntKind.wrap_i64];omega
def gI(a b:Int):Int:=(Nat.gcd a.natAbs b.natAbs:Nat)
def comG:List Gau->Int->Int
 |[],d=>d
 |z::l,d=>comG l (gI (gI d z.1) z.2.1)
def fits(z:Gau):Prop:=(-9223372036854775807<=z.1/\z.1<=9223372036854775807)/\(-9223372036854775807<=z.2.1/\z.2.1<=9223372036854775807)
def y5K(z:Gau):Int:=y08 [ckR z.1 (-8796093022208) 8796093022208,ckR z.2.1 (-8796093022208) 8796093022208]
theorem y4w{l:List Int}(h:y08 l=0):∀ e∈l,e=0:=by
 induction l with
 |nil=>intro e he;cases he
 |cons a l ih =>
  rw[yS]at h;unfold yP at h;by_cases ha:a=0
  ·subst ha;simp only[bne_self_eq_false,Bool.false_eq_true,if_false]at h;intro e he;rcases List.mem_cons.1 he with rfl|he
   ·rfl
   ·exact ih h e he
  ·have:(a != 0)=true:=by simp[ha]
   rw[this,if_pos rfl]at h;exact absurd h ha
theorem yBD{n lo hi:Int}(h:ckR n lo hi=0):lo<=n/\n<=hi:=by
 unfold ckR at h;split at h
 ·cases h
 ·omega
theorem yME(z:Gau):yCx z=some (y5K z,()):=by
 unfold yCx yOE;simp only[yCI];rw[y2G _ (y5g _ _)];rfl
theorem y3Q{n:Nat}(h:n<=memMax):n < lenMax:=Nat.lt_of_le_of_lt h yCy
theorem yKq(l:List Gau)(hl:l.length<=memMax):zH_M l (λ x=>yCx x.1)=some (l.map y5K,()):=by
 unfold zH_M;rw[bifT (y8 (y3Q hl))];rw[y1q y5K l 0 [] (by simpa using hl) λ i e s _ hs=>by
  unfold yPz;show (Option.bind (yCx e) _)=_
  rw[yME];simp only[bind_some];rw[bifT (y8 hs)]]
 rfl
theorem yv{a b:Int}(h:a≠0):yP a b=a:=by unfold yP;rw[if_pos (by simpa using h)]
theorem yR(b:Int):yP 0 b=b:=by unfold yP;rw[if_neg (by simp)]
theorem y1Q(a b c:Int):yP (yP a b) c=yP a (yP b c):=by
 by_cases h:a=0
 ·subst h;simp only[yR]
 ·rw[yv h,yv h,yv h]
end Go.Tw
end
section
set_option maxRecDepth 100000
namespace Go.Tw
open Go.Vx Go.Vx.B Go.Proofs
theorem yHa{β σ:Type}{body:Int->σ->Option (β⊕σ)}{fin:σ->Option β}{i:Int}{s:σ}:y0b body fin 0 i s=fin s:=rfl
theorem y20{β σ:Type}{body:Int->σ->Option (β⊕σ)}{fin:σ->Option β}{m:Nat}{i:Int}{s:σ}:y0b body fin (m+1) i s=(body i s).bind λ z=>match z with
  |.inl y=>some y
  |.inr s'=>y0b body fin m (i+1) s':=rfl
def y1u(n:Int):Gau:=if n=0 then (1,0,())else if n=1 then (0,1,())else if n=2 then (-1,0,())else (0,-1,())
def chr(c:Con)(tick:Int):Gau:=y1u (c.2.2.1 * (tick / c.2.1) % 4)
def y3P(c:Con):Prop:=(1<=c.2.1/\c.2.1<=96)/\(0<=c.2.2.1/\c.2.2.1<=3)
def yF7(t:Int):Prop:=0<=t/\t<=200000
theorem yMf{c:Con}{t:Int}(hc:y3P c)(ht:yF7 t):IntKind.i64.wrap (c.2.2.1 * IntKind.i64.wrap (t.tdiv c.2.1))=c.2.2.1 * (t / c.2.1)/\0<=c.2.2.1 * (t / c.2.1)/\c.2.2.1 * (t / c.2.1)<=600000:=by
 obtain ⟨⟨h1,h2⟩,h3,h4⟩:=hc;obtain ⟨h5,h6⟩:=ht;have e1:t.tdiv c.2.1=t / c.2.1:=Int.tdiv_eq_ediv_of_nonneg h5;have h7:0<=t / c.2.1:=Int.ediv_nonneg h5 (by omega)
 have h8:t / c.2.1<=t:=Int.ediv_le_self _ h5;generalize t / c.2.1=q at e1 h7 h8;have h9:0<=c.2.2.1 * q:=Int.mul_nonneg h3 h7;have h10:c.2.2.1 * q<=3 * q:=Int.mul_le_mul_of_nonneg_right h4 h7;rw[e1,y0o (i:=q) (by omega) (by omega),y0o (by omega) (by omega)]
 exact ⟨rfl,h9,by omega⟩
theorem mod4(k:Int):k % 4=0\/k % 4=1\/k % 4=2\/k % 4=3:=by omega
theorem yP9{c:Con}{t:Int}(hc:y3P c)(ht:yF7 t):zT_M c t=some (chr c t,()):=by
 unfold zT_M zT_m chr;obtain ⟨h1,h2,h3⟩:=yMf hc ht;have hl:(c.2.1 == 0)=false:=by have:=hc.1.1;simp;omega
 rw[bifF hl];rw[h1];generalize c.2.2.1 * (t / c.2.1)=k at h2 h3;have e:k.tmod 4=k % 4:=Int.tmod_eq_emod_of_nonneg h2;rw[e];rcases mod4 k with h|h|h|h<;>rw[h]<;>rfl
noncomputable def sumV:List Con->List Gau->Int->Gau->Gau
 |c::l,z::v,t,acc=>sumV l v t (z1A acc (z12 z (chr c t)).1).1
 |_,_,_,acc=>acc
theorem yCD(v:List Gau)(t:Int)(xs:List Con)(ht:yF7 t):∀ (l:List Con) (d:Nat) (x y:Int),l.length+d=v.length->(∀ c∈l,y3P c) ->
  yJ (λ i__ e__ s__=>yBs v t xs 0 0 i__ e__ s__.1 s__.2) (λ s__=>yLR v t xs 0 0 s__.1 s__.2) (d:Int) l (x,y)=some (sumV l (v.drop d) t (x,y,()),())
 |[],d,x,y,hl,_=>by
  have:v.drop d=[]:=List.drop_eq_nil_of_le (by simp at hl;omega)
  rw[this];rfl
 |c::l,d,x,y,hl,hc=>by
  simp only[length_cons]at hl;have hd:d < v.length:=by omega
  have hv:v[d]?=some v[d]:=List.getElem?_eq_getElem hd;have hdr:v.drop d=v[d]::v.drop (d+1):=(List.getElem_cons_drop (h:=hd)).symm;have hb:yBs v t xs 0 0 (d:Int) c x y=some (.inr ((z1A (x,y,()) (z12 v[d] (chr c t)).1).1.1,(z1A (x,y,()) (z12 v[d] (chr c t)).1).1.2.1)):=by
   unfold yBs;rw[y04,hv];simp only[bind_some];rw[yP9 (c:=(c.1,c.2.1,c.2.2.1,())) (hc c (by simp)) ht]
   rfl
  rw[yk];simp only[hb,bind_some];have ih:=yCD v t xs ht l (d+1) (z1A (x,y,()) (z12 v[d] (chr c t)).1).1.1 (z1A (x,y,()) (z12 v[d] (chr c t)).1).1.2.1 (by omega) λ c hc2=>hc c (by simp[hc2])
  rw[hdr];exact ih
theorem yOY{l:List Con}{v:List Gau}{t:Int}(hl:l.length=v.length)(hlm:l.length < lenMax)(hc:∀ c∈l,y3P c)(ht:yF7 t):yBo l v t=some (sumV l v t (0,0,()),()):=by
 unfold yBo;rw[bifT (y8 hlm)];exact yCD v t l ht l 0 0 0 (by omega) hc
structure okT (t:Tid):Prop where
 len:t.1.length=t.2.1.length
 few:t.1.length<=4
 con:∀ c∈t.1,y3P c
 den:1<=t.2.2.1/\t.2.2.1<=268435456
 part:∀ z∈t.2.1,y5K z=0
 red:comG t.2.1 t.2.2.1=1
theorem yH{a b:Int}(h:yP a b=0):a=0/\b=0:=by
 by_cases ha:a=0
 ·subst ha;rw[yR]at h;exact ⟨rfl,h⟩
 ·rw[yv ha]at h;exact absurd h ha
theorem yAk:∀ (l done:List Con),yBt done l=0->∀ c∈l,y7b c=0
 |[],_,_,c,hc=>by cases hc
 |n::l,done,h,c,hc=>by
  obtain ⟨h1,h2⟩:=yH h;rcases List.mem_cons.1 hc with rfl|hc
  ·exact (yH h1).1
  ·exact yAk l _ h2 c hc
theorem yMC{c:Con}(h:y7b c=0):y3P c/\isNm c.1=true:=by
 have h1:=y4w h;refine ⟨⟨yBD (h1 _ (by simp)),yBD (h1 _ (by simp))⟩,?_⟩
 have:=h1 _ (List.mem_cons_self ..);cases hn:isNm c.1 with
 |true=>rfl
 |false=>rw[hn]at this;cases this
theorem yJD{l:List Con}(h:y5X l=0):0 < l.length/\l.length<=4/\(∀ c∈l,y3P c):=by
 unfold y5X at h;split at h
 ·cases h
 ·split at h
  ·cases h
  ·exact ⟨by omega,by omega,λ c hc=>(yMC (yAk l [] h c hc)).1⟩
end Go.Tw
end
