import Derived.Test.YtlaebedgpkiodaaGreatDoorBD
import Derived.KernelRfl
set_option linter.all false
open List (length_cons length_nil)
open Option (bind_some)
open Nat (gcd_comm)
section
set_option maxRecDepth 1000000
namespace Go.Tw
open Go.Vx Go.Vx.B Go.Proofs
theorem yH1:yQy=some (true,()):=by kernel_rfl
end Go.Tw
end
section
set_option maxRecDepth 100000
namespace Go.Tw
open Go.Vx Go.Vx.B Go.Proofs
section
variable {α β γ σ:Type}
theorem y3w{body:Int->α->σ->Option (β⊕σ)}{fin:σ->Option β}{i:Int}{s:σ}:yL body fin i [] s=fin s:=rfl
theorem ya{body:Int->α->σ->Option (β⊕σ)}{fin:σ->Option β}{i:Int}{e:α}{l:List α}{s:σ}:yL body fin i (e::l) s=(body i e s).bind λ z=>match z with
  |.inl y=>some y
  |.inr s'=>yL body fin (i+1) l s':=rfl
theorem y34{body:Int->α->Unit->Option (β⊕Unit)}{fin:Unit->Option β}(p:α->Option β) :
  ∀ (l:List α) (i:Int),(∀ i e,e∈l->body i e ()=some (match p e with|some y=>.inl y|none=>.inr ()))->yL body fin i l ()=match l.findSome? p with|some y=>some y|none=>fin ()
 |[],i,_=>rfl
 |e::l,i,h=>by
  rw[ya,h i e (by simp),List.findSome?_cons]
  cases p e with
  |none=>exact y34 p l (i+1) λ i e he=>h i e (by simp[he])
  |some y=>rfl
theorem y0p{body:Int->α->List γ->Option (β⊕List γ)}{fin:List γ->Option β}(f:α->γ) :
  ∀ (l:List α) (i:Int) (s:List γ),s.length+l.length<=memMax->(∀ i e s,e∈l->s.length+1<=memMax->body i e s=some (.inr (s++[f e])))->yL body fin i l s=fin (s++l.map f)
 |[],i,s,_,_=>by simp[y3w]
 |e::l,i,s,hl,h=>by
  simp only[length_cons]at hl;rw[ya,h i e s (by simp) (by omega)]
  simp only[bind_some];rw[y0p f l (i+1) (s++[f e]) (by simp;omega) λ i e s he hs=>h i e s (by simp[he]) hs]
  simp
end
theorem yB{p:Prop}[Decidable p](h:p):decide p=true:=decide_eq_true h
theorem yK{p:Prop}[Decidable p](h:¬ p):decide p=false:=decide_eq_false h
theorem bifT{α:Type}{c:Bool}{a b:α}(h:c=true):(bif c then a else b)=a:=by rw[h];rfl
theorem bifF{α:Type}{c:Bool}{a b:α}(h:c=false):(bif c then a else b)=b:=by rw[h];rfl
theorem yK4:memMax < lenMax:=by decide
def ckR(n lo hi:Int):Int:=if n < lo\/hi < n then 3 else 0
def y0I(l:List Int):Int:=(l.find? (· != 0)).getD 0
theorem yBh(n lo hi:Int):zZ n lo hi=(ckR n lo hi,()):=by
 unfold zZ ckR;by_cases h1:n < lo
 ·rw[bifT (yB h1),if_pos (.inl h1)]
 ·rw[bifF (yK h1)];by_cases h2:n > hi
  ·rw[bifT (yB h2),if_pos (.inr h2)]
  ·rw[bifF (yK h2),if_neg (by omega)]
theorem y4a(c:Bool)(e:Int):z0n c e=(bif c then e else 0,()):=by
 unfold z0n;cases c<;>rfl
theorem y5o(n lo hi:Int):z0P n lo hi=(ckR n lo hi,()):=by
 unfold z0P ckR;by_cases h1:n < lo
 ·rw[bifT (yB h1),y4a,cond_true,if_pos (.inl h1)]
 ·rw[bifF (yK h1),y4a];by_cases h2:n > hi
  ·rw[yB h2,cond_true,if_pos (.inr h2)]
  ·rw[yK h2,cond_false,if_neg (by omega)]
theorem y6f(l:List Int):l.findSome? (λ e=>if e != 0 then some (e,())else none)=(l.find? (· != 0)).map λ e=>(e,()):=by
 induction l with
 |nil=>rfl
 |cons e l ih =>
  rw[List.findSome?_cons,List.find?_cons];cases he:(e != 0)with
  |true=>rfl
  |false=>simpa using ih
theorem y1C(l:List Int)(h:l.length < lenMax):y2z l=some (y0I l,()):=by
 unfold y2z;rw[bifT (yB h),y34 (λ e=>if e != 0 then some (e,())else none) l 0 (λ i e _=>by
  unfold yLy;cases he:(e != 0)<;>rfl),y6f]
 unfold y0I yJl;cases l.find? (· != 0)<;>rfl
theorem y17{α:Type}(l:List α)(i:Nat):idx l (i:Int)=l[i]?:=by
 unfold idx;rw[if_pos (Int.natCast_nonneg i)];rfl
theorem y86{α β:Type}{body:Int->α->Unit->Option (β⊕Unit)}{fin:Unit->Option β}(xs:List α)(p:α->Option β) :
  ∀ (l done:List α),xs=done++l->(∀ (i:Nat) e,xs[i]?=some e->body (i:Int) e ()=some (match p e with|some y=>.inl y|none=>.inr ())) ->
   yL body fin (done.length:Int) l ()=match l.findSome? p with|some y=>some y|none=>fin ()
 |[],done,_,_=>rfl
 |e::l,done,hx,h=>by
  rw[ya,h done.length e (by rw[hx];simp),List.findSome?_cons]
  cases p e with
  |none =>
   have:=y86 (body:=body) (fin:=fin) xs p l (done++[e]) (by rw[hx];simp) h
   simp only[List.length_append,length_cons,length_nil]at this;exact this
  |some y=>rfl
theorem yKS(l:List Int)(h:l.length < lenMax):yKz l=some (y0I l,()):=by
 unfold yKz;have:=y86 (body:=λ i__ e__ s__=>yGS l i__ e__) (fin:=λ s__=>yGQ l) l (λ e=>if e != 0 then some (e,())else none) l [] rfl (λ i e hi=>by
  unfold yGS;cases he:(e != 0)with
  |true=>rw[y17,hi];rfl
  |false=>rfl)
 rw[bifT (yB h)];refine this.trans ?_
 rw[y6f];unfold y0I yGQ;cases l.find? (· != 0)<;>rfl
def y5L(c:Nat):Bool:=decide (65<=c/\c<=90\/97<=c/\c<=122)
def y88(c:Nat):Bool:=decide (48<=c/\c<=57\/c=95)
def nmOk:Bool->List UInt8->Bool
 |_,[]=>true
 | first,c::l=>(y5L c.toNat || (!first && y88 c.toNat)) && nmOk false l
def isNm(s:List UInt8):Bool:=nmOk true s && decide (0 < s.length/\s.length<=24)
theorem yAS:∀ (s0 s:List UInt8) (i:Int),0<=i->yL (λ i__ e__ s__=>yDR s0 i__ e__) (λ s__=>yKr s0) i s ()=some (nmOk (decide (i=0)) s,())
  |s0,[],i,_=>rfl
  |s0,c::l,i,hi=>by
    rw[ya];have ih:=yAS s0 l (i+1) (by omega)
    have e0:decide (i+1=0)=false:=yK (by omega)
    rw[e0]at ih;unfold nmOk;have hb:yDR s0 i c=some (if (y5L c.toNat || (!decide (i=0) && y88 c.toNat))=true then .inr ()else .inl (false,())):=by
      unfold yDR y6P y5L y88;have g3:(i == 0)=decide (i=0):=by by_cases h:i=0<;>simp[h]
      have g4:((c.toNat:Int) != 95)=!decide ((c.toNat:Int)=95):=by by_cases h:(c.toNat:Int)=95<;>simp[h]
      rw[g3,g4];by_cases h1:(97:Int)<=c.toNat<;>by_cases h2:(c.toNat:Int)<=122<;>by_cases h3:(65:Int)<=c.toNat<;>by_cases h4:(c.toNat:Int)<=90<;>by_cases h5:(c.toNat:Int) < 48<;>by_cases h6:(c.toNat:Int) > 57<;>by_cases h7:(c.toNat:Int)=95<;>by_cases h8:i=0 <;>
        first
        | omega
        | (have g1:(decide (65<=c.toNat/\c.toNat<=90\/97<=c.toNat/\c.toNat<=122))=decide ((65:Int)<=c.toNat/\(c.toNat:Int)<=90\/(97:Int)<=c.toNat/\(c.toNat:Int)<=122):=by
            apply decide_eq_decide.2;omega
           have g2:(decide (48<=c.toNat/\c.toNat<=57\/c.toNat=95))=decide (¬ (c.toNat:Int) < 48/\¬ (c.toNat:Int) > 57\/(c.toNat:Int)=95):=by
            apply decide_eq_decide.2;omega
           rw[g1,g2];simp[h1,h2,h3,h4,h5,h6,h7,h8])
    rw[hb];simp only[bind_some];by_cases hc:(y5L c.toNat || (!decide (i=0) && y88 c.toNat))=true
    · rw[if_pos hc,hc,Bool.true_and];exact ih
    · rw[if_neg hc,Bool.eq_false_iff.2 hc];rfl
theorem yNN(s:List UInt8):yN9 s=some (isNm s,()):=by
 unfold yN9 isNm;by_cases h0:s.length=0
 ·have:((s.length:Int) == 0)=true:=by simp[h0]
  rw[bifT this,show decide (0 < s.length/\s.length<=24)=false from yK (by omega),Bool.and_false]
 ·have:((s.length:Int) == 0)=false:=by simpa using h0
  rw[bifF this];by_cases h1:24 < s.length
  ·rw[bifT (yB (by omega)),show decide (0 < s.length/\s.length<=24)=false from yK (by omega),Bool.and_false]
  ·rw[bifF (yK (show ¬ ((s.length:Int) > 24) by omega)),bifT (yB (show s.length < lenMax by unfold lenMax;omega)),yAS s s 0 (by omega),yB rfl]
   rw[show decide (0 < s.length/\s.length<=24)=true from yB ⟨by omega,by omega⟩,Bool.and_true]
theorem yNx{bs:List UInt8}{i:Nat}{c:UInt8}(h:bs[i]?=some c):(⟨bs.toArray⟩:ByteArray).get! i=c:=by
 show bs.toArray[i]! = c
 rw[getElem!_def];simp[h]
theorem yHp{bs:List UInt8}{i:Nat}{c:UInt8}(h:bs[i]?=some c)(hc:c.toNat < 128):yg bs (i:Int)=((c.toNat:Int),(i:Int)+1):=by
 unfold yg Utf8.decode;have h0:(⟨bs.toArray⟩:ByteArray).get! ((i:Int).toNat+0)=c:=by rw[Int.toNat_natCast,Nat.add_zero];exact yNx h
 simp only[h0];rw[if_pos hc];rfl
theorem yJz{bs:List UInt8}{i:Nat}{c:UInt8}(h:bs[i]?=some c)(hc:128<=c.toNat):128<=(yg bs (i:Int)).1:=by
 unfold yg Utf8.decode;have h0:(⟨bs.toArray⟩:ByteArray).get! ((i:Int).toNat+0)=c:=by rw[Int.toNat_natCast,Nat.add_zero];exact yNx h
 simp only[h0];rw[if_neg (by omega)]
 have he:Utf8.runeError=65533:=rfl;split
 ·split
  ·rename_i h2;show (128:Int)<=((_:Nat):Int);omega
  ·rw[he];decide
 ·split
  ·split
   ·rename_i h2;simp only[Bool.and_eq_true,decide_eq_true_eq]at h2;show (128:Int)<=((_:Nat):Int);omega
   ·rw[he];decide
  ·split
   ·split
    ·rename_i h2;simp only[Bool.and_eq_true,decide_eq_true_eq]at h2;show (128:Int)<=((_:Nat):Int);omega
    ·rw[he];decide
   ·rw[he];decide
def yBN(r:Int):Bool:=decide (65<=r/\r<=90\/97<=r/\r<=122)
def yG3(r:Int):Bool:=decide (48<=r/\r<=57\/r=95)
theorem yIA(s str:List UInt8)(pos:Int):yD0 s str pos=some (if (yBN (yg str pos).1 || (!decide (pos=0) && yG3 (yg str pos).1))=true then .inr ()else .inl (false,())):=by
 unfold yD0 y5C y9H yBN yG3;generalize (yg str pos).1=r;have g3:(pos == 0)=decide (pos=0):=by by_cases h:pos=0<;>simp[h]
 have g4:(r == 95)=decide (r=95):=by by_cases h:r=95<;>simp[h]
 rw[g3,g4];by_cases h1:r >= 97<;>by_cases h2:r<=122<;>by_cases h3:r >= 65<;>by_cases h4:r<=90<;>by_cases h5:r >= 48<;>by_cases h6:r<=57<;>by_cases h7:r=95<;>by_cases h8:pos=0 <;>
  first
  | omega
  | simp[h1,h2,h3,h4,h5,h6,h7,h8]
theorem yAC(s:List UInt8):∀ (m i:Nat),s.length<=i+m->i<=s.length ->
  y9X s (λ i__ s__=>yD0 s s i__) (λ s__=>yCK s s) m (i:Int) ()=bif nmOk (decide (i=0)) (s.drop i)then yCK s s else some (false,())
 |m,i,hm,hi=>by
  by_cases hl:i=s.length
  ·have e1:s.drop i=[]:=List.drop_eq_nil_of_le (by omega)
   have e2:decide ((i:Int) < (s.length:Int))=false:=yK (by omega)
   rw[e1];cases m<;>(unfold y9X;rw[bifF e2];rfl)
  ·have hlt:i < s.length:=by omega
   obtain ⟨m,rfl⟩:∃ k,m=k+1:=⟨m - 1,by omega⟩
   have hd:s.drop i=s[i]::s.drop (i+1):=(List.getElem_cons_drop (h:=hlt)).symm;have hg:s[i]?=some s[i]:=List.getElem?_eq_getElem hlt;have e0:decide ((i:Int)=0)=decide (i=0):=decide_eq_decide.2 (by omega)
   unfold y9X;rw[bifT (yB (show (i:Int) < (s.length:Int) by omega)),yIA,hd,e0]
   simp only[bind_some];by_cases hc:s[i].toNat < 128
   ·rw[yHp hg hc];have e1:yBN (s[i].toNat:Int)=y5L s[i].toNat:=decide_eq_decide.2 (by omega)
    have e2:yG3 (s[i].toNat:Int)=y88 s[i].toNat:=decide_eq_decide.2 (by omega)
    simp only[e1,e2,nmOk];by_cases hb:(y5L s[i].toNat || (!decide (i=0) && y88 s[i].toNat))=true
    ·rw[if_pos hb,hb,Bool.true_and];have ih:=yAC s m (i+1) (by omega) (by omega)
     have e3:decide (i+1=0)=false:=yK (by omega)
     rw[e3,show ((i+1:Nat):Int)=(i:Int)+1 by omega]at ih
     exact ih
    ·rw[if_neg hb,Bool.eq_false_iff.2 hb,Bool.false_and];rfl
   ·have h1:=yJz hg (by omega)
    have e1:yBN (yg s (i:Int)).1=false:=yK (by omega)
    have e2:yG3 (yg s (i:Int)).1=false:=yK (by omega)
    have e3:y5L s[i].toNat=false:=yK (by omega)
    have e4:y88 s[i].toNat=false:=yK (by omega)
    simp[e1,e2,nmOk,e3,e4]
theorem yGx(s:List UInt8)(h:s.length < lenMax):yLS s=some (isNm s,()):=by
 unfold yLS;have:=yAC s s.length 0 (by omega) (by omega)
 rw[List.drop_zero,show decide (0=0)=true from rfl]at this
 rw[bifT (yB h)];refine (show _=_ from this).trans ?_
 unfold isNm yCK;cases hn:nmOk true s with
 |false=>rfl
 |true =>
  rw[cond_true,Bool.true_and];cases s with
  |nil=>rfl
  |cons c l =>
   have e:decide (((c::l).length:Int)<=24)=decide (0 < (c::l).length/\(c::l).length<=24):=decide_eq_decide.2 (by simp only[length_cons];omega)
   rw[<- e];rfl
def yQ(a b:Int):Int:=if a != 0 then a else b
theorem y1T:y0I []=0:=rfl
theorem yU(a:Int)(l:List Int):y0I (a::l)=yQ a (y0I l):=by
 unfold y0I yQ;rw[List.find?_cons];cases h:(a != 0)<;>rfl
theorem y0b(a:Int):yQ a 0=a:=by
 unfold yQ;by_cases h:a=0<;>simp[h]
end Go.Tw
end
section
set_option maxRecDepth 100000
namespace Go.Tw
open Go.Vx Go.Vx.B Go.Proofs
abbrev Con:=List UInt8×Int×Int×Unit
abbrev Gau:=Int×Int×Unit
abbrev Tid:=List Con×List Gau×Int×Unit
def y6d(c:Con):Int:=y0I [bif isNm c.1 then 0 else 8,ckR c.2.1 1 96,ckR c.2.2.1 0 3]
def conE(done:List Con)(c:Con):Int:=yQ (y6d c) (bif done.any (λ d=>d.1 == c.1)then 9 else 0)
def y9k:List Con->List Con->Int
 |_,[]=>0
 |done,n::l=>yQ (conE done n) (y9k (done++[n]) l)
def y26(l:List Con):Int:=if l.length=0 then 12 else if 4 < l.length then 5 else y9k [] l
theorem y6C(a b:Int):[a,b].length < lenMax:=by simp[lenMax]
theorem yG6(a b c:Int):[a,b,c].length < lenMax:=by simp[lenMax]
theorem yQi(a b c d:Int):[a,b,c,d].length < lenMax:=by simp[lenMax]
theorem yLx(s:List UInt8):zg_M s=some (bif isNm s then 0 else 8,()):=by
 unfold zg_M zg_m;rw[yNN];cases isNm s<;>rfl
theorem yAR(l:List Con)(i:Nat)(n:Con)(hn:l[i]?=some n){fin:Unit->Option ((Int×Unit)⊕Unit)}:∀ (m k:Nat),k+m=i ->
  y1r (λ i__ s__=>yHe l (i:Int) i__) fin m (k:Int) ()=if ((l.drop k).take m).any (λ d=>d.1 == n.1)=true then some (.inl (9,()))else fin ()
 |0,k,_=>by simp[y1r]
 |m+1,k,hk=>by
  have hi:i < l.length:=(List.getElem?_eq_some_iff.1 hn).1;have hkl:k < l.length:=by omega
  unfold y1r;have hb:yHe l (i:Int) (k:Int)=some (if (l[k].1 == n.1)=true then .inl (.inl (9,()))else .inr ()):=by
   unfold yHe;rw[y17,y17,hn,List.getElem?_eq_getElem hkl];simp only[bind_some];cases (l[k].1 == n.1)<;>rfl
  rw[hb];simp only[bind_some];have hd:(l.drop k).take (m+1)=l[k]::(l.drop (k+1)).take m:=by
   rw[<- List.getElem_cons_drop (h:=hkl),List.take_succ_cons]
  rw[hd,List.any_cons];cases h:(l[k].1 == n.1)with
  |true=>rfl
  |false =>
   rw[if_neg (by simp),Bool.false_or]
   have ih:=yAR l i n hn (fin:=fin) m (k+1) (by omega)
   rw[show ((k+1:Nat):Int)=(k:Int)+1 by omega]at ih
   exact ih
theorem yHN(l:List Con)(hl:l.length<=4)(i:Nat)(n:Con)(hn:l[i]?=some n) :
  yLW l (i:Int) n=some (bif conE (l.take i) n != 0 then .inl (conE (l.take i) n,())else .inr ()):=by
 have hi:i < l.length:=(List.getElem?_eq_some_iff.1 hn).1;unfold yLW;rw[yLx,y17,hn];simp only[bind_some,yBh];rw[yKS _ (yG6 _ _ _)];simp only[bind_some];show (bif (y6d n != 0)then some (Sum.inl (y6d n,()))else _)=_
 unfold conE yQ;cases hs:(y6d n != 0)with
 |true=>simp only[cond_true,if_true,hs]
 |false =>
  simp only[cond_false,Bool.false_eq_true,if_false];rw[bifT (yB (show (i:Int)<=9223372036854775807 by omega))]
  have e1:((i:Int) - 0).toNat=i:=by omega
  rw[e1];have:=yAR l i n hn (fin:=λ s__=>yN3 l (i:Int)) i 0 (by omega)
  rw[show ((0:Nat):Int)=0 from rfl]at this
  rw[this,List.drop_zero];cases hany:(l.take i).any (λ d=>d.1 == n.1)with
  |true=>rw[if_pos rfl];rfl
  |false=>rw[if_neg (by simp)];rfl
theorem y9q(xs:List Con)(hl:xs.length<=4):∀ (l done:List Con),xs=done++l ->
  yL (λ i__ e__ s__=>yLW xs i__ e__) (λ s__=>yP3 xs) (done.length:Int) l ()=some (y9k done l,())
 |[],done,_=>rfl
 |n::l,done,hx=>by
  have hn:xs[done.length]?=some n:=by rw[hx];simp
  rw[ya,yHN xs hl done.length n hn];have ht:xs.take done.length=done:=by rw[hx];simp
  rw[ht];simp only[bind_some,y9k,yQ];cases h:(conE done n != 0)with
  |true=>rfl
  |false =>
   have ih:=y9q xs hl l (done++[n]) (by rw[hx];simp)
   simp only[List.length_append,length_cons,length_nil]at ih;exact ih
theorem yMt(l:List Con):zJ_M l=some (y26 l,()):=by
 unfold zJ_M y26;by_cases h0:l.length=0
 ·rw[bifT (show ((l.length:Int) == 0)=true by simp[h0]),if_pos h0]
 ·rw[bifF (show ((l.length:Int) == 0)=false by simpa using h0),if_neg h0]
  by_cases h8:4 < l.length
  ·rw[bifT (yB (show (l.length:Int) > 4 by omega)),if_pos h8]
  ·rw[bifF (yK (show ¬ (l.length:Int) > 4 by omega)),if_neg h8,bifT (yB (show l.length < lenMax by unfold lenMax;omega))]
   exact y9q l (by omega) l [] rfl
def yNC(m:List (List UInt8×Bool))(done:List Con):Prop:=∀ k,(y0Z .str .bool m k).getD false=done.any λ d=>d.1 == k
theorem yH2(m:List (List UInt8×Bool))(k k':List UInt8):(y0Z .str .bool (y1Z .str .bool m k true) k').getD false=((k == k') || (y0Z .str .bool m k').getD false):=by
 induction m with
 |nil =>
  show (y0Z .str .bool [(k,true)] k').getD false=_
  simp only[y0Z,eqV];by_cases h:k'=k
  ·subst h;simp
  ·have h1:(k' == k)=false:=beq_eq_false_iff_ne.2 h;have h2:(k == k')=false:=beq_eq_false_iff_ne.2 (Ne.symm h);show (bif (k' == k)then some true else none).getD false=_
   rw[h1,h2];rfl
 |cons p m ih =>
  show (y0Z .str .bool (bif (k == p.1)then (k,true)::m else p::y1Z .str .bool m k true) k').getD false=_
  by_cases h:k=p.1
  ·have h1:(k == p.1)=true:=by simp[h]
   rw[h1,cond_true];show (bif (k' == k)then some true else y0Z .str .bool m k').getD false=((k == k') || (bif (k' == p.1)then some p.2 else y0Z .str .bool m k').getD false)
   by_cases h2:k'=k
   ·have e1:(k' == k)=true:=by simp[h2]
    have e2:(k == k')=true:=by simp[h2]
    rw[e1,e2];rfl
   ·have e1:(k' == k)=false:=beq_eq_false_iff_ne.2 h2;have e2:(k == k')=false:=beq_eq_false_iff_ne.2 (Ne.symm h2);have e3:(k' == p.1)=false:=by rw[<- h];exact e1
    rw[e1,e2,e3];rfl
  ·have h1:(k == p.1)=false:=beq_eq_false_iff_ne.2 h;rw[h1,cond_false];show (bif (k' == p.1)then some p.2 else y0Z .str .bool (y1Z .str .bool m k true) k').getD false=((k == k') || (bif (k' == p.1)then some p.2 else y0Z .str .bool m k').getD false)
   by_cases h2:k'=p.1
   ·have e1:(k' == p.1)=true:=by simp[h2]
    have e2:(k == k')=false:=by rw[h2];exact h1
    rw[e1,e2];rfl
   ·have e1:(k' == p.1)=false:=beq_eq_false_iff_ne.2 h2;rw[e1];exact ih
theorem yNC.put{m:List (List UInt8×Bool)}{done:List Con}(h:yNC m done)(n:Con):yNC (y1Z .str .bool m n.1 true) (done++[n]):=by
 intro k;rw[yH2,h k,List.any_append];simp[Bool.or_comm]
theorem yKm(c:Con)(h:c.1.length < lenMax):zM_M c=some (y6d c,()):=by
 unfold zM_M zM_m;rw[yGx c.1 h];simp only[bind_some,y4a,y5o];rw[y1C _ (yG6 _ _ _)];unfold y6d;cases isNm c.1<;>rfl
theorem yAV(xs:List Con):∀ (l done:List Con) (i:Int) (m:List (List UInt8×Bool)),(∀ n∈l,n.1.length < lenMax)->yNC m done ->
  yL (λ i__ e__ s__=>yM7 xs i__ e__ s__) (λ s__=>yPX xs s__) i l m=some (y9k done l,())
 |[],done,i,m,_,_=>rfl
 |n::l,done,i,m,hl,hk=>by
  have hb:yM7 xs i n m=some (bif conE done n != 0 then .inl (conE done n,())else .inr (y1Z .str .bool m n.1 true)):=by
   unfold yM7;rw[yKm _ (hl n (by simp))]
   simp only[bind_some,y4a,hk n.1];rw[y1C _ (y6C _ _)];have e:y0I [y6d (n.fst,n.snd.fst,n.snd.snd.fst,()),bif done.any (λ d=>d.1 == n.1)then 9 else 0]=conE done n:=by
    rw[yU,yU,y1T,y0b];rfl
   simp only[bind_some,e];cases (conE done n != 0)<;>rfl
  rw[ya,hb];simp only[bind_some,y9k,yQ];cases h:(conE done n != 0)with
  |true=>rfl
  |false =>
   simp only[cond_false,Bool.false_eq_true,if_false];exact yAV xs l (done++[n]) (i+1) _ (λ x hx=>hl x (by simp[hx])) (hk.put n)
theorem yFs(l:List Con)(hn:∀ n∈l,n.1.length < lenMax)(hl:l.length < lenMax):zL_M l=some (y26 l,()):=by
 unfold zL_M y26;simp only[y4a];rw[y1C _ (y6C _ _)];simp only[bind_some];by_cases h0:l.length=0
 ·rw[show ((l.length:Int) == 0)=true by simp[h0],if_pos h0]
  rfl
 ·rw[show ((l.length:Int) == 0)=false by simpa using h0,if_neg h0]
  by_cases h8:4 < l.length
  ·rw[yB (show (l.length:Int) > 4 by omega),if_pos h8]
   rfl
  ·rw[yK (show ¬ (l.length:Int) > 4 by omega),if_neg h8]
   rw[bifF (by rfl),bifT (yB hl)]
   exact yAV l l [] 0 [] hn (λ k=>rfl)
end Go.Tw
end
section
set_option maxRecDepth 100000
namespace Go.Tw
open Go.Vx Go.Vx.B Go.Proofs
theorem yw{i:Int}(h0:-9223372036854775808<=i)(h1:i<=9223372036854775807):IntKind.i64.wrap i=i:=by
 rw[IntKind.wrap_i64];omega
def gI(a b:Int):Int:=(Nat.gcd a.natAbs b.natAbs:Nat)
theorem yGy{β:Type}(K:Int->β)(body:Int×Int->Option (β⊕(Int×Int)))
  (hb:∀ a b:Int,body (a,b)=if b=0 then some (.inl (K a))else some (.inr (b,a.tmod b))) :
  ∀ (k m:Nat) (a b:Nat),b < 2 ^ k->2 * k+1<=m->y1H body m ((a:Int),(b:Int))=some (K (Nat.gcd a b:Nat))
 |k,0,a,b,_,hm=>by omega
 |k,m+1,a,b,hk,hm=>by
  unfold y1H;rw[hb];by_cases h0:b=0
  ·subst h0;rw[if_pos (by rfl),Nat.gcd_zero_right]
   rfl
  ·rw[if_neg (by omega)]
   simp only[bind_some];have e1:(a:Int).tmod (b:Int)=((a % b:Nat):Int):=by rw[Int.ofNat_tmod]
   rw[e1];have hr:a % b < b:=Nat.mod_lt _ (by omega)
   have hg:Nat.gcd a b=Nat.gcd b (a % b):=by rw[gcd_comm a b,Nat.gcd_rec b a,gcd_comm]
   have hk1:1<=k:=by
    rcases Nat.eq_zero_or_pos k with h|h
    ·subst h;simp at hk;omega
    ·exact h
   match m,hm with
   |0,hm=>omega
   |m+1,hm =>
    unfold y1H;rw[hb];by_cases h1:a % b=0
    ·rw[if_pos (by omega),hg,h1,Nat.gcd_zero_right]
     rfl
    ·rw[if_neg (by omega)]
     simp only[bind_some];generalize hr2:a % b=r at *;have e2:(b:Int).tmod ((r:Nat):Int)=((b % r:Nat):Int):=(Int.ofNat_tmod b r).symm;rw[e2];have hlt:b % r < 2 ^ (k - 1):=by
      have h3:2 * (b % r) < b:=by
       have h4:b % r < r:=Nat.mod_lt _ (by omega)
       have h5:b % r+r<=b:=by
        have h6:=Nat.div_add_mod b r;have h7:1<=b / r:=Nat.div_pos (by omega) (by omega)
        have h8:r * 1<=r * (b / r):=Nat.mul_le_mul_left _ h7;omega
       omega
      have h9:2 ^ k=2 * 2 ^ (k - 1):=by
       rw[<- Nat.pow_succ'];congr 1
       omega
      omega
     rw[yGy K body hb (k - 1) m r (b % r) hlt (by omega),hg,gcd_comm b,Nat.gcd_rec r b,gcd_comm]
theorem yK9(n:Int)(h0:-9223372036854775807<=n)(h1:n<=9223372036854775807):(zy n).1=(n.natAbs:Int):=by
 unfold zy;simp only[if_true];rw[yw (by omega) (by omega)]
 split<;>omega
theorem yT3{n:Int}(h0:-9223372036854775807<=n)(h1:n<=9223372036854775807):n.natAbs < 2 ^ 63:=by
 have:(2:Nat) ^ 63=9223372036854775808:=by decide
 omega
theorem yCt(l:List Int)(i:Int)(n:Int)(a:Nat)(h0:-9223372036854775807<=n)(h1:n<=9223372036854775807):y9K l i n (a:Int)=some (.inr (gI a n)):=by
 unfold y9K;rw[yK9 n h0 h1];have:=yGy (λ x=>(Sum.inr x:(Int×Unit)⊕Int)) (λ s__=>y5f l ((l.length:Int)) i s__.1 s__.2) (λ a b=>by
  unfold y5f;by_cases h:b=0
  ·subst h;rfl
  ·have e:(b != 0)=true:=by simp[h]
   have e2:(b == 0)=false:=by simp[h]
   simp only[e,e2,cond_true,cond_false,if_neg h]) 63 wMax a n.natAbs (yT3 h0 h1) (by unfold wMax;omega)
 rw[this];rfl
theorem yOf(a b:Int):∃ n:Nat,gI a b=(n:Int):=⟨_,rfl⟩
theorem yNa(a:Nat)(x y:Int)(h0:-9223372036854775807<=x)(h1:x<=9223372036854775807)(h2:-9223372036854775807<=y)(h3:y<=9223372036854775807):y9e (a:Int) [x,y]=some (gI (gI a x) y,()):=by
 unfold y9e;rw[bifT (yB (by simp[lenMax])),ya,yCt _ _ _ _ h0 h1]
 simp only[bind_some];obtain ⟨n,hn⟩:=yOf a x;rw[hn,ya,yCt _ _ _ _ h2 h3];rfl
def comG:List Gau->Int->Int
 |[],d=>d
 |z::l,d=>comG l (gI (gI d z.1) z.2.1)
def fits(z:Gau):Prop:=(-9223372036854775807<=z.1/\z.1<=9223372036854775807)/\(-9223372036854775807<=z.2.1/\z.2.1<=9223372036854775807)
theorem yDD(xs:List Gau):∀ (l:List Gau) (i:Int) (d:Nat),(∀ z∈l,fits z)->yL (λ i__ e__ s__=>y9A xs i__ e__ s__) (λ s__=>yG8 xs s__) i l (d:Int)=some (comG l d,())
 |[],i,d,_=>rfl
 |z::l,i,d,h=>by
  have hz:=h z (by simp)
  rw[ya];unfold y9A;rw[yNa d _ _ hz.1.1 hz.1.2 hz.2.1 hz.2.2];simp only[bind_some,comG];obtain ⟨n,hn⟩:=yOf (gI d z.1) z.2.1;rw[hn];exact yDD xs l (i+1) n λ z hz=>h z (by simp[hz])
theorem yPc(l:List Gau)(d:Nat)(h:∀ z∈l,fits z)(hl:l.length < lenMax):yF1 l (d:Int)=some (comG l d,()):=by
 unfold yF1;rw[bifT (yB hl)];exact yDD l l 0 d h
def y2x(z:Gau):Int:=y0I [ckR z.1 (-8796093022208) 8796093022208,ckR z.2.1 (-8796093022208) 8796093022208]
theorem y20{l:List Int}(h:y0I l=0):∀ e∈l,e=0:=by
 induction l with
 |nil=>intro e he;cases he
 |cons a l ih =>
  rw[yU]at h;unfold yQ at h;by_cases ha:a=0
  ·subst ha;simp only[bne_self_eq_false,Bool.false_eq_true,if_false]at h;intro e he;rcases List.mem_cons.1 he with rfl|he
   ·rfl
   ·exact ih h e he
  ·have:(a != 0)=true:=by simp[ha]
   rw[this,if_pos rfl]at h;exact absurd h ha
theorem y22{n lo hi:Int}(h:ckR n lo hi=0):lo<=n/\n<=hi:=by
 unfold ckR at h;split at h
 ·cases h
 ·omega
theorem yER{z:Gau}(h:y2x z=0):(-8796093022208<=z.1/\z.1<=8796093022208)/\(-8796093022208<=z.2.1/\z.2.1<=8796093022208):=by
 have h1:=y20 h;exact ⟨y22 (h1 _ (by simp)),y22 (h1 _ (by simp))⟩
theorem y8Q{z:Gau}(h:y2x z=0):fits z:=by
 have:=yER h;unfold fits;omega
theorem yNZ(z:Gau):zp_M z=some (y2x z,()):=by
 unfold zp_M zp_m;simp only[y5o];rw[y1C _ (y6C _ _)];rfl
theorem y0M{n:Nat}(h:n<=memMax):n < lenMax:=Nat.lt_of_le_of_lt h yK4
theorem yJn(l:List Gau)(hl:l.length<=memMax):zF_M l (λ x=>zp_M x.1)=some (l.map y2x,()):=by
 unfold zF_M;rw[bifT (yB (y0M hl))];rw[y0p y2x l 0 [] (by simpa using hl) λ i e s _ hs=>by
  unfold yQD;show (Option.bind (zp_M e) _)=_
  rw[yNZ];simp only[bind_some];rw[bifT (yB hs)]]
 rfl
def y3F(t:Tid):Int:=
 yQ (y26 t.1) (yQ (if t.2.1.length=t.1.length then 0 else 2) (yQ (ckR t.2.2.1 1 268435456) (yQ (y0I (t.2.1.map y2x)) (if comG t.2.1 t.2.2.1=1 then 0 else 1))))
theorem y05{a b:Int}(h:a≠0):yQ a b=a:=by unfold yQ;rw[if_pos (by simpa using h)]
theorem yX(b:Int):yQ 0 b=b:=by unfold yQ;rw[if_neg (by simp)]
theorem y0K(a b c:Int):yQ (yQ a b) c=yQ a (yQ b c):=by
 by_cases h:a=0
 ·subst h;simp only[yX]
 ·rw[y05 h,y05 h,y05 h]
theorem y9r{l:List Gau}(h:y0I (l.map y2x)=0):∀ z∈l,y2x z=0:=λ z hz=>y20 h _ (List.mem_map.2 ⟨z,hz,rfl⟩)
theorem yNo(t:Tid)(hn:∀ n∈t.1,n.1.length < lenMax)(hl:t.1.length < lenMax)(ha:t.2.1.length<=memMax):zo_M t=some (y3F t,()):=by
 unfold zo_M zo_m;rw[yFs _ hn hl,yJn _ ha];simp only[bind_some];rw[y1C _ (by rw[List.length_map];exact y0M ha)]
 simp only[bind_some,y4a,y5o];rw[y1C _ (yQi _ _ _ _)];simp only[bind_some];have e:(bif ((t.2.1.length:Int) != (t.1.length:Int))then (2:Int)else 0)=if t.2.1.length=t.1.length then 0 else 2:=by
  by_cases h:t.2.1.length=t.1.length
  ·rw[if_pos h,h];simp
  ·rw[if_neg h];have:((t.2.1.length:Int) != (t.1.length:Int))=true:=by simpa using λ hh=>h (by omega)
   rw[this];rfl
 rw[e,yU,yU,yU,yU,y1T,y0b];unfold y3F;rw[<- y0K,<- y0K,<- y0K,<- y0K,<- y0K];generalize hq:yQ (yQ (yQ (y26 t.1) (if t.2.1.length=t.1.length then 0 else 2)) (ckR t.2.2.1 1 268435456)) (y0I (t.2.1.map y2x))=q
 by_cases h0:q=0
 ·subst h0;have hp:y0I (t.2.1.map y2x)=0/\ckR t.2.2.1 1 268435456=0:=by
   rw[y0K,y0K]at hq;by_cases h1:y26 t.1=0
   ·rw[h1,yX]at hq;by_cases h2:t.2.1.length=t.1.length
    ·rw[if_pos h2,yX]at hq;by_cases h3:ckR t.2.2.1 1 268435456=0
     ·rw[h3,yX]at hq;exact ⟨hq,h3⟩
     ·rw[y05 h3]at hq;exact absurd hq h3
    ·rw[if_neg h2,y05 (by decide)]at hq;cases hq
   ·rw[y05 h1]at hq;exact absurd hq h1
  have hd:=y22 hp.2;obtain ⟨d,hd2⟩:∃ d:Nat,t.2.2.1=(d:Int):=⟨t.2.2.1.toNat,by omega⟩
  rw[bifF (by rfl),yX,hd2,yPc _ d (λ z hz=>y8Q (y9r hp.1 z hz)) (y0M ha)]
  simp only[bind_some];by_cases hc:comG t.2.1 (d:Int)=1
  ·rw[if_pos hc,hc];rfl
  ·rw[if_neg hc];have:(comG t.2.1 (d:Int) != 1)=true:=by simpa using hc
   rw[this];rfl
 ·rw[bifT (by simpa using h0),y05 h0]
end Go.Tw
end
section
set_option maxRecDepth 100000
namespace Go.Tw
open Go.Vx Go.Vx.B Go.Proofs
theorem yHR{β σ:Type}{body:Int->σ->Option (β⊕σ)}{fin:σ->Option β}{i:Int}{s:σ}:y1r body fin 0 i s=fin s:=rfl
theorem yAB{β σ:Type}{body:Int->σ->Option (β⊕σ)}{fin:σ->Option β}{m:Nat}{i:Int}{s:σ}:y1r body fin (m+1) i s=(body i s).bind λ z=>match z with
  |.inl y=>some y
  |.inr s'=>y1r body fin m (i+1) s':=rfl
theorem y8U{β γ:Type}{body:Int->List γ->Option (β⊕List γ)}{fin:List γ->Option β}(f:Int->γ) :
  ∀ (m:Nat) (i:Int) (s:List γ),s.length+m<=memMax->(∀ (k:Nat) s,k < m->s.length+1<=memMax->body (i+k) s=some (.inr (s++[f (i+k)])))->y1r body fin m i s=fin (s++(List.range m).map λ k:Nat=>f (i+k))
 |0,i,s,_,_=>by simp[yHR]
 |m+1,i,s,hl,h=>by
  have h0:=h 0 s (by omega) (by omega)
  rw[show i+((0:Nat):Int)=i by omega]at h0
  rw[yAB,h0];simp only[bind_some];rw[y8U f m (i+1) (s++[f i]) (by simp;omega) λ k s hk hs=>by
   have:=h (k+1) s (by omega) hs
   rw[show i+((k+1:Nat):Int)=i+1+(k:Int) by omega]at this
   exact this]
  congr 1
  rw[List.range_succ_eq_map,List.map_cons,List.map_map,List.append_assoc];congr 1
  simp only[List.singleton_append,List.cons.injEq];refine ⟨by congr 1;omega,List.map_congr_left λ k _=>?_⟩
  show f (i+1+(k:Int))=f (i+((k+1:Nat):Int))
  congr 1
  omega
def y1E(n:Int):Gau:=if n=0 then (1,0,())else if n=1 then (0,1,())else if n=2 then (-1,0,())else (0,-1,())
def chr(c:Con)(tick:Int):Gau:=y1E (c.2.2.1 * (tick / c.2.1) % 4)
def y45(c:Con):Prop:=(1<=c.2.1/\c.2.1<=96)/\(0<=c.2.2.1/\c.2.2.1<=3)
def yCu(t:Int):Prop:=0<=t/\t<=200000
theorem yMk{c:Con}{t:Int}(hc:y45 c)(ht:yCu t):IntKind.i64.wrap (c.2.2.1 * IntKind.i64.wrap (t.tdiv c.2.1))=c.2.2.1 * (t / c.2.1)/\0<=c.2.2.1 * (t / c.2.1)/\c.2.2.1 * (t / c.2.1)<=600000:=by
 obtain ⟨⟨h1,h2⟩,h3,h4⟩:=hc;obtain ⟨h5,h6⟩:=ht;have e1:t.tdiv c.2.1=t / c.2.1:=Int.tdiv_eq_ediv_of_nonneg h5;have h7:0<=t / c.2.1:=Int.ediv_nonneg h5 (by omega)
 have h8:t / c.2.1<=t:=Int.ediv_le_self _ h5;generalize t / c.2.1=q at e1 h7 h8;have h9:0<=c.2.2.1 * q:=Int.mul_nonneg h3 h7;have h10:c.2.2.1 * q<=3 * q:=Int.mul_le_mul_of_nonneg_right h4 h7;rw[e1,yw (i:=q) (by omega) (by omega),yw (by omega) (by omega)]
 exact ⟨rfl,h9,by omega⟩
theorem mod4(k:Int):k % 4=0\/k % 4=1\/k % 4=2\/k % 4=3:=by omega
theorem yMs{c:Con}{t:Int}(hc:y45 c)(ht:yCu t):zR_M c t=some (chr c t,()):=by
 unfold zR_M zR_m chr;obtain ⟨h1,h2,h3⟩:=yMk hc ht;have hl:(c.2.1 == 0)=false:=by have:=hc.1.1;simp;omega
 rw[bifF hl];rw[h1];generalize c.2.2.1 * (t / c.2.1)=k at h2 h3;have e:k.tmod 4=k % 4:=Int.tmod_eq_emod_of_nonneg h2;rw[e];rcases mod4 k with h|h|h|h<;>rw[h]<;>rfl
noncomputable def sumV:List Con->List Gau->Int->Gau->Gau
 |c::l,z::v,t,acc=>sumV l v t (z0m acc (z0h z (chr c t)).1).1
 |_,_,_,acc=>acc
theorem yDN(v:List Gau)(t:Int)(xs:List Con)(ht:yCu t):∀ (l:List Con) (d:Nat) (x y:Int),l.length+d=v.length->(∀ c∈l,y45 c) ->
  yL (λ i__ e__ s__=>yCJ v t xs 0 0 i__ e__ s__.1 s__.2) (λ s__=>yLQ v t xs 0 0 s__.1 s__.2) (d:Int) l (x,y)=some (sumV l (v.drop d) t (x,y,()),())
 |[],d,x,y,hl,_=>by
  have:v.drop d=[]:=List.drop_eq_nil_of_le (by simp at hl;omega)
  rw[this];rfl
 |c::l,d,x,y,hl,hc=>by
  simp only[length_cons]at hl;have hd:d < v.length:=by omega
  have hv:v[d]?=some v[d]:=List.getElem?_eq_getElem hd;have hdr:v.drop d=v[d]::v.drop (d+1):=(List.getElem_cons_drop (h:=hd)).symm;have hb:yCJ v t xs 0 0 (d:Int) c x y=some (.inr ((z0m (x,y,()) (z0h v[d] (chr c t)).1).1.1,(z0m (x,y,()) (z0h v[d] (chr c t)).1).1.2.1)):=by
   unfold yCJ;rw[y17,hv];simp only[bind_some];rw[yMs (c:=(c.1,c.2.1,c.2.2.1,())) (hc c (by simp)) ht]
   rfl
  rw[ya];simp only[hb,bind_some];have ih:=yDN v t xs ht l (d+1) (z0m (x,y,()) (z0h v[d] (chr c t)).1).1.1 (z0m (x,y,()) (z0h v[d] (chr c t)).1).1.2.1 (by omega) λ c hc2=>hc c (by simp[hc2])
  rw[hdr];exact ih
theorem yPW{l:List Con}{v:List Gau}{t:Int}(hl:l.length=v.length)(hlm:l.length < lenMax)(hc:∀ c∈l,y45 c)(ht:yCu t):yNG l v t=some (sumV l v t (0,0,()),()):=by
 unfold yNG;rw[bifT (yB hlm)];exact yDN v t l ht l 0 0 0 (by omega) hc
structure okT (t:Tid):Prop where
 len:t.1.length=t.2.1.length
 few:t.1.length<=4
 con:∀ c∈t.1,y45 c
 den:1<=t.2.2.1/\t.2.2.1<=268435456
 part:∀ z∈t.2.1,y2x z=0
 red:comG t.2.1 t.2.2.1=1
noncomputable def valT(t:Tid)(tick:Int):Gau:=sumV t.1 t.2.1 tick (0,0,())
theorem yOA{t:Tid}(h:okT t){k:Int}(hk:yCu k):yAh t k=some (valT t k,()):=by
 unfold yAh yPG;rw[yPW h.len (by have:=h.few;unfold lenMax;omega) h.con hk]
 rfl
theorem yI{a b:Int}(h:yQ a b=0):a=0/\b=0:=by
 by_cases ha:a=0
 ·subst ha;rw[yX]at h;exact ⟨rfl,h⟩
 ·rw[y05 ha]at h;exact absurd h ha
theorem yG2:∀ (l done:List Con),y9k done l=0->∀ c∈l,y6d c=0
 |[],_,_,c,hc=>by cases hc
 |n::l,done,h,c,hc=>by
  obtain ⟨h1,h2⟩:=yI h;rcases List.mem_cons.1 hc with rfl|hc
  ·exact (yI h1).1
  ·exact yG2 l _ h2 c hc
theorem yGP{c:Con}(h:y6d c=0):y45 c/\isNm c.1=true:=by
 have h1:=y20 h;refine ⟨⟨y22 (h1 _ (by simp)),y22 (h1 _ (by simp))⟩,?_⟩
 have:=h1 _ (List.mem_cons_self ..);cases hn:isNm c.1 with
 |true=>rfl
 |false=>rw[hn]at this;cases this
theorem y3N{l:List Con}(h:y26 l=0):0 < l.length/\l.length<=4/\(∀ c∈l,y45 c):=by
 unfold y26 at h;split at h
 ·cases h
 ·split at h
  ·cases h
  ·exact ⟨by omega,by omega,λ c hc=>(yGP (yG2 l [] h c hc)).1⟩
theorem y8S{t:Tid}(h:y3F t=0):okT t:=by
 unfold y3F at h;obtain ⟨h1,h2⟩:=yI h;obtain ⟨h3,h4⟩:=yI h2;obtain ⟨h5,h6⟩:=yI h4;obtain ⟨h7,h8⟩:=yI h6;obtain ⟨a1,a2,a3⟩:=y3N h1;refine ⟨?_,a2,a3,y22 h5,y9r h7,?_⟩
 ·by_cases hl:t.2.1.length=t.1.length
  ·exact hl.symm
  ·rw[if_neg hl]at h3;cases h3
 ·by_cases hg:comG t.2.1 t.2.2.1=1
  ·exact hg
  ·rw[if_neg hg]at h8;cases h8
def y73(p n:Int):Int:=yQ (y0I [ckR p 0 100000,ckR n 0 4096]) (ckR (IntKind.i64.wrap (p+n)) 0 100000)
theorem yMm(p n:Int):zq_M p n=some (y73 p n,()):=by
 unfold zq_M zq_m y73;simp only[y5o];rw[y1C _ (y6C _ _)];simp only[bind_some];unfold yQ;cases h:(y0I [ckR p 0 100000,ckR n 0 4096] != 0)<;>rfl
theorem yJp{p n:Int}(h:y73 p n=0):(0<=p/\p<=100000)/\(0<=n/\n<=4096)/\p+n<=100000:=by
 obtain ⟨h1,h2⟩:=yI h;have h3:=y20 h1;have h4:=y22 (n:=p) (lo:=0) (hi:=100000) (h3 _ (by simp))
 have h5:=y22 (n:=n) (lo:=0) (hi:=4096) (h3 _ (by simp))
 have h6:=y22 h2;rw[yw (by omega) (by omega)]at h6
 exact ⟨h4,h5,h6.2⟩
noncomputable def yHb(t:Tid)(p n:Int):List Gau:=(List.range n.toNat).map λ k:Nat=>valT t (p+(0+k))
theorem yKQ(t:Tid)(p n:Int):(yHb t p n).length=n.toNat:=by simp[yHb]
theorem yNS{t:Tid}(hn:∀ n∈t.1,n.1.length < lenMax)(hl:t.1.length < lenMax)(ha:t.2.1.length<=memMax)(p n:Int) :
  yHk t p n=some (if yQ (y3F t) (y73 p n)=0 then (yHb t p n,0,())else ([],yQ (y3F t) (y73 p n),())):=by
 unfold yHk;rw[yNo t hn hl ha,yMm];simp only[bind_some];rw[y1C _ (y6C _ _),yU,yU,y1T,y0b];simp only[bind_some];by_cases h:yQ (y3F t) (y73 p n)=0
 ·rw[if_pos h,h,bifF (by rfl)]
  obtain ⟨h1,h2⟩:=yI h;have ht:=y8S h1;obtain ⟨h3,h4,h5⟩:=yJp h2;rw[bifT (yB (by omega)),show (n - 0).toNat=n.toNat by omega]
  rw[y8U (λ i=>valT t (p+i)) n.toNat 0 [] (by simp only[memMax,length_nil];omega) λ k s hk hs=>by
   unfold yM8;rw[yw (by omega) (by omega),yOA ht ⟨by omega,by omega⟩]
   simp only[bind_some];rw[bifT (yB hs)]]
  rfl
 ·rw[if_neg h,bifT (by simpa using h)]
end Go.Tw
end
