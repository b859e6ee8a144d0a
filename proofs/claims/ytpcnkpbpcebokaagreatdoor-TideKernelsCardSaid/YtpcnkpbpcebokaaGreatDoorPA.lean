import Derived.Test.YtpcnkpbpcebokaaGreatDoorBD
import Derived.KernelRfl
import Derived.Test.YtpcnkpbpcebokaaGreatDoorLQ
import Derived.Test.YtpcnkpbpcebokaaGreatDoorLR
set_option linter.all false
section
set_option maxRecDepth 1000000
namespace Go.Tw
open Go.Vx Go.Vx.B Go.Proofs
theorem yGz:yTh=some (true,()):=by kernel_rfl
end Go.Tw
end
section
set_option maxRecDepth 100000
namespace Go.Tw
open Go.Vx Go.Vx.B Go.Proofs
section
variable {α β γ σ:Type}
theorem y2E{body:Int->α->σ->Option (β⊕σ)}{fin:σ->Option β}{i:Int}{s:σ}:yM body fin i [] s=fin s:=rfl
theorem yk{body:Int->α->σ->Option (β⊕σ)}{fin:σ->Option β}{i:Int}{e:α}{l:List α}{s:σ}:yM body fin i (e::l) s=(body i e s).bind λ z=>match z with
  |.inl y=>some y
  |.inr s'=>yM body fin (i+1) l s':=rfl
theorem y1a{body:Int->α->Unit->Option (β⊕Unit)}{fin:Unit->Option β}(p:α->Option β) :
  ∀ (l:List α) (i:Int),(∀ i e,e∈l->body i e ()=some (match p e with|some y=>.inl y|none=>.inr ()))->yM body fin i l ()=match l.findSome? p with|some y=>some y|none=>fin ()
 |[],i,_=>rfl
 |e::l,i,h=>by
  rw[yk,h i e (by simp),List.findSome?_cons]
  cases p e with
  |none=>exact y1a p l (i+1) λ i e he=>h i e (by simp[he])
  |some y=>rfl
theorem y2D{body:Int->α->List γ->Option (β⊕List γ)}{fin:List γ->Option β}(f:α->γ) :
  ∀ (l:List α) (i:Int) (s:List γ),s.length+l.length<=memMax->(∀ i e s,e∈l->s.length+1<=memMax->body i e s=some (.inr (s++[f e])))->yM body fin i l s=fin (s++l.map f)
 |[],i,s,_,_=>by simp[y2E]
 |e::l,i,s,hl,h=>by
  simp only[List.length_cons]at hl;rw[yk,h i e s (by simp) (by omega)]
  simp only[Option.bind_some];rw[y2D f l (i+1) (s++[f e]) (by simp;omega) λ i e s he hs=>h i e s (by simp[he]) hs]
  simp
end
theorem y5{p:Prop}[Decidable p](h:p):decide p=true:=decide_eq_true h
theorem yF{p:Prop}[Decidable p](h:¬ p):decide p=false:=decide_eq_false h
theorem bifT{α:Type}{c:Bool}{a b:α}(h:c=true):(bif c then a else b)=a:=by rw[h];rfl
theorem bifF{α:Type}{c:Bool}{a b:α}(h:c=false):(bif c then a else b)=b:=by rw[h];rfl
theorem yCB:memMax < lenMax:=by decide
def ckR(n lo hi:Int):Int:=if n < lo\/hi < n then 3 else 0
def y0C(l:List Int):Int:=(l.find? (· != 0)).getD 0
theorem y3H(n lo hi:Int):zi n lo hi=(ckR n lo hi,()):=by
 unfold zi ckR;by_cases h1:n < lo
 ·rw[bifT (y5 h1),if_pos (.inl h1)]
 ·rw[bifF (yF h1)];by_cases h2:n > hi
  ·rw[bifT (y5 h2),if_pos (.inr h2)]
  ·rw[bifF (yF h2),if_neg (by omega)]
theorem y4u(c:Bool)(e:Int):z1K c e=(bif c then e else 0,()):=by
 unfold z1K;cases c<;>rfl
theorem yC8(n lo hi:Int):z0p n lo hi=(ckR n lo hi,()):=by
 unfold z0p ckR;by_cases h1:n < lo
 ·rw[bifT (y5 h1),y4u,cond_true,if_pos (.inl h1)]
 ·rw[bifF (yF h1),y4u];by_cases h2:n > hi
  ·rw[y5 h2,cond_true,if_pos (.inr h2)]
  ·rw[yF h2,cond_false,if_neg (by omega)]
theorem y61(l:List Int):l.findSome? (λ e=>if e != 0 then some (e,())else none)=(l.find? (· != 0)).map λ e=>(e,()):=by
 induction l with
 |nil=>rfl
 |cons e l ih =>
  rw[List.findSome?_cons,List.find?_cons];cases he:(e != 0)with
  |true=>rfl
  |false=>simpa using ih
theorem y2F(l:List Int)(h:l.length < lenMax):y1j l=some (y0C l,()):=by
 unfold y1j;rw[bifT (y5 h),y1a (λ e=>if e != 0 then some (e,())else none) l 0 (λ i e _=>by
  unfold yGD;cases he:(e != 0)<;>rfl),y61]
 unfold y0C yFJ;cases l.find? (· != 0)<;>rfl
theorem ym{α:Type}(l:List α)(i:Nat):idx l (i:Int)=l[i]?:=by
 unfold idx;rw[if_pos (Int.natCast_nonneg i)];rfl
theorem y4z{α β:Type}{body:Int->α->Unit->Option (β⊕Unit)}{fin:Unit->Option β}(xs:List α)(p:α->Option β) :
  ∀ (l done:List α),xs=done++l->(∀ (i:Nat) e,xs[i]?=some e->body (i:Int) e ()=some (match p e with|some y=>.inl y|none=>.inr ())) ->
   yM body fin (done.length:Int) l ()=match l.findSome? p with|some y=>some y|none=>fin ()
 |[],done,_,_=>rfl
 |e::l,done,hx,h=>by
  rw[yk,h done.length e (by rw[hx];simp),List.findSome?_cons]
  cases p e with
  |none =>
   have:=y4z (body:=body) (fin:=fin) xs p l (done++[e]) (by rw[hx];simp) h
   simp only[List.length_append,List.length_cons,List.length_nil]at this;exact this
  |some y=>rfl
theorem y5W(l:List Int)(h:l.length < lenMax):y6g l=some (y0C l,()):=by
 unfold y6g;have:=y4z (body:=λ i__ e__ s__=>yCv l i__ e__) (fin:=λ s__=>yC0 l) l (λ e=>if e != 0 then some (e,())else none) l [] rfl (λ i e hi=>by
  unfold yCv;cases he:(e != 0)with
  |true=>rw[ym,hi];rfl
  |false=>rfl)
 rw[bifT (y5 h)];refine this.trans ?_
 rw[y61];unfold y0C yC0;cases l.find? (· != 0)<;>rfl
def y4m(c:Nat):Bool:=decide (65<=c/\c<=90\/97<=c/\c<=122)
def y8a(c:Nat):Bool:=decide (48<=c/\c<=57\/c=95)
def nmOk:Bool->List UInt8->Bool
 |_,[]=>true
 | first,c::l=>(y4m c.toNat || (!first && y8a c.toNat)) && nmOk false l
def isNm(s:List UInt8):Bool:=nmOk true s && decide (0 < s.length/\s.length<=24)
theorem y9D:∀ (s0 s:List UInt8) (i:Int),0<=i->yM (λ i__ e__ s__=>y9q s0 i__ e__) (λ s__=>yF0 s0) i s ()=some (nmOk (decide (i=0)) s,())
  |s0,[],i,_=>rfl
  |s0,c::l,i,hi=>by
    rw[yk];have ih:=y9D s0 l (i+1) (by omega)
    have e0:decide (i+1=0)=false:=yF (by omega)
    rw[e0]at ih;unfold nmOk;have hb:y9q s0 i c=some (if (y4m c.toNat || (!decide (i=0) && y8a c.toNat))=true then .inr ()else .inl (false,())):=by
      unfold y9q y65 y4m y8a;have g3:(i == 0)=decide (i=0):=by by_cases h:i=0<;>simp[h]
      have g4:((c.toNat:Int) != 95)=!decide ((c.toNat:Int)=95):=by by_cases h:(c.toNat:Int)=95<;>simp[h]
      rw[g3,g4];by_cases h1:(97:Int)<=c.toNat<;>by_cases h2:(c.toNat:Int)<=122<;>by_cases h3:(65:Int)<=c.toNat<;>by_cases h4:(c.toNat:Int)<=90<;>by_cases h5:(c.toNat:Int) < 48<;>by_cases h6:(c.toNat:Int) > 57<;>by_cases h7:(c.toNat:Int)=95<;>by_cases h8:i=0 <;>
        first
        | omega
        | (have g1:(decide (65<=c.toNat/\c.toNat<=90\/97<=c.toNat/\c.toNat<=122))=decide ((65:Int)<=c.toNat/\(c.toNat:Int)<=90\/(97:Int)<=c.toNat/\(c.toNat:Int)<=122):=by
            apply decide_eq_decide.2;omega
           have g2:(decide (48<=c.toNat/\c.toNat<=57\/c.toNat=95))=decide (¬ (c.toNat:Int) < 48/\¬ (c.toNat:Int) > 57\/(c.toNat:Int)=95):=by
            apply decide_eq_decide.2;omega
           rw[g1,g2];simp[h1,h2,h3,h4,h5,h6,h7,h8])
    rw[hb];simp only[Option.bind_some];by_cases hc:(y4m c.toNat || (!decide (i=0) && y8a c.toNat))=true
    · rw[if_pos hc,hc,Bool.true_and];exact ih
    · rw[if_neg hc,Bool.eq_false_iff.2 hc];rfl
theorem yMy(s:List UInt8):yDW s=some (isNm s,()):=by
 unfold yDW isNm;by_cases h0:s.length=0
 ·have:((s.length:Int) == 0)=true:=by simp[h0]
  rw[bifT this,show decide (0 < s.length/\s.length<=24)=false from yF (by omega),Bool.and_false]
 ·have:((s.length:Int) == 0)=false:=by simpa using h0
  rw[bifF this];by_cases h1:24 < s.length
  ·rw[bifT (y5 (by omega)),show decide (0 < s.length/\s.length<=24)=false from yF (by omega),Bool.and_false]
  ·rw[bifF (yF (show ¬ ((s.length:Int) > 24) by omega)),bifT (y5 (show s.length < lenMax by unfold lenMax;omega)),y9D s s 0 (by omega),y5 rfl]
   rw[show decide (0 < s.length/\s.length<=24)=true from y5 ⟨by omega,by omega⟩,Bool.and_true]
theorem yPf{bs:List UInt8}{i:Nat}{c:UInt8}(h:bs[i]?=some c):(⟨bs.toArray⟩:ByteArray).get! i=c:=by
 show bs.toArray[i]! = c
 rw[getElem!_def];simp[h]
theorem yHv{bs:List UInt8}{i:Nat}{c:UInt8}(h:bs[i]?=some c)(hc:c.toNat < 128):yf bs (i:Int)=((c.toNat:Int),(i:Int)+1):=by
 unfold yf Utf8.decode;have h0:(⟨bs.toArray⟩:ByteArray).get! ((i:Int).toNat+0)=c:=by rw[Int.toNat_natCast,Nat.add_zero];exact yPf h
 simp only[h0];rw[if_pos hc];rfl
theorem yJO{bs:List UInt8}{i:Nat}{c:UInt8}(h:bs[i]?=some c)(hc:128<=c.toNat):128<=(yf bs (i:Int)).1:=by
 unfold yf Utf8.decode;have h0:(⟨bs.toArray⟩:ByteArray).get! ((i:Int).toNat+0)=c:=by rw[Int.toNat_natCast,Nat.add_zero];exact yPf h
 simp only[h0];rw[if_neg (by omega)]
 have he:Utf8.runeError=65533:=rfl;split
 ·split
  ·rename_i h2;show (128:Int)<=((_:Nat):Int);omega
  ·rw[he];decide
 ·split
  ·split
   ·rename_i h2;simp only[Bool.and_eq_true,decide_eq_true_eq]at h2;show (128:Int)<=((_:Nat):Int);omega
   ·rw[he];decide
  ·split
   ·split
    ·rename_i h2;simp only[Bool.and_eq_true,decide_eq_true_eq]at h2;show (128:Int)<=((_:Nat):Int);omega
    ·rw[he];decide
   ·rw[he];decide
def yBC(r:Int):Bool:=decide (65<=r/\r<=90\/97<=r/\r<=122)
def yFX(r:Int):Bool:=decide (48<=r/\r<=57\/r=95)
theorem yIS(s str:List UInt8)(pos:Int):y9t s str pos=some (if (yBC (yf str pos).1 || (!decide (pos=0) && yFX (yf str pos).1))=true then .inr ()else .inl (false,())):=by
 unfold y9t y4n y8L yBC yFX;generalize (yf str pos).1=r;have g3:(pos == 0)=decide (pos=0):=by by_cases h:pos=0<;>simp[h]
 have g4:(r == 95)=decide (r=95):=by by_cases h:r=95<;>simp[h]
 rw[g3,g4];by_cases h1:r >= 97<;>by_cases h2:r<=122<;>by_cases h3:r >= 65<;>by_cases h4:r<=90<;>by_cases h5:r >= 48<;>by_cases h6:r<=57<;>by_cases h7:r=95<;>by_cases h8:pos=0 <;>
  first
  | omega
  | simp[h1,h2,h3,h4,h5,h6,h7,h8]
theorem y9l(s:List UInt8):∀ (m i:Nat),s.length<=i+m->i<=s.length ->
  y90 s (λ i__ s__=>y9t s s i__) (λ s__=>y9a s s) m (i:Int) ()=bif nmOk (decide (i=0)) (s.drop i)then y9a s s else some (false,())
 |m,i,hm,hi=>by
  by_cases hl:i=s.length
  ·have e1:s.drop i=[]:=List.drop_eq_nil_of_le (by omega)
   have e2:decide ((i:Int) < (s.length:Int))=false:=yF (by omega)
   rw[e1];cases m<;>(unfold y90;rw[bifF e2];rfl)
  ·have hlt:i < s.length:=by omega
   obtain ⟨m,rfl⟩:∃ k,m=k+1:=⟨m - 1,by omega⟩
   have hd:s.drop i=s[i]::s.drop (i+1):=(List.getElem_cons_drop (h:=hlt)).symm;have hg:s[i]?=some s[i]:=List.getElem?_eq_getElem hlt;have e0:decide ((i:Int)=0)=decide (i=0):=decide_eq_decide.2 (by omega)
   unfold y90;rw[bifT (y5 (show (i:Int) < (s.length:Int) by omega)),yIS,hd,e0]
   simp only[Option.bind_some];by_cases hc:s[i].toNat < 128
   ·rw[yHv hg hc];have e1:yBC (s[i].toNat:Int)=y4m s[i].toNat:=decide_eq_decide.2 (by omega)
    have e2:yFX (s[i].toNat:Int)=y8a s[i].toNat:=decide_eq_decide.2 (by omega)
    simp only[e1,e2,nmOk];by_cases hb:(y4m s[i].toNat || (!decide (i=0) && y8a s[i].toNat))=true
    ·rw[if_pos hb,hb,Bool.true_and];have ih:=y9l s m (i+1) (by omega) (by omega)
     have e3:decide (i+1=0)=false:=yF (by omega)
     rw[e3,show ((i+1:Nat):Int)=(i:Int)+1 by omega]at ih
     exact ih
    ·rw[if_neg hb,Bool.eq_false_iff.2 hb,Bool.false_and];rfl
   ·have h1:=yJO hg (by omega)
    have e1:yBC (yf s (i:Int)).1=false:=yF (by omega)
    have e2:yFX (yf s (i:Int)).1=false:=yF (by omega)
    have e3:y4m s[i].toNat=false:=yF (by omega)
    have e4:y8a s[i].toNat=false:=yF (by omega)
    simp[e1,e2,nmOk,e3,e4]
theorem yFH(s:List UInt8)(h:s.length < lenMax):yBW s=some (isNm s,()):=by
 unfold yBW;have:=y9l s s.length 0 (by omega) (by omega)
 rw[List.drop_zero,show decide (0=0)=true from rfl]at this
 rw[bifT (y5 h)];refine (show _=_ from this).trans ?_
 unfold isNm y9a;cases hn:nmOk true s with
 |false=>rfl
 |true =>
  rw[cond_true,Bool.true_and];cases s with
  |nil=>rfl
  |cons c l =>
   have e:decide (((c::l).length:Int)<=24)=decide (0 < (c::l).length/\(c::l).length<=24):=decide_eq_decide.2 (by simp only[List.length_cons];omega)
   rw[<- e];rfl
def yT(a b:Int):Int:=if a != 0 then a else b
theorem y1F:y0C []=0:=rfl
theorem yW(a:Int)(l:List Int):y0C (a::l)=yT a (y0C l):=by
 unfold y0C yT;rw[List.find?_cons];cases h:(a != 0)<;>rfl
theorem y0V(a:Int):yT a 0=a:=by
 unfold yT;by_cases h:a=0<;>simp[h]
end Go.Tw
end
section
set_option maxRecDepth 100000
namespace Go.Tw
open Go.Vx Go.Vx.B Go.Proofs
abbrev Con:=List UInt8×Int×Int×Unit
abbrev Gau:=Int×Int×Unit
abbrev Tid:=List Con×List Gau×Int×Unit
def yAp(c:Con):Int:=y0C [bif isNm c.1 then 0 else 8,ckR c.2.1 1 96,ckR c.2.2.1 0 3]
def conE(done:List Con)(c:Con):Int:=yT (yAp c) (bif done.any (λ d=>d.1 == c.1)then 9 else 0)
def yEF:List Con->List Con->Int
 |_,[]=>0
 |done,n::l=>yT (conE done n) (yEF (done++[n]) l)
def y7d(l:List Con):Int:=if l.length=0 then 12 else if 4 < l.length then 5 else yEF [] l
theorem y4V(a b:Int):[a,b].length < lenMax:=by simp[lenMax]
theorem yGa(a b c:Int):[a,b,c].length < lenMax:=by simp[lenMax]
theorem yC2(s:List UInt8):zt_M s=some (bif isNm s then 0 else 8,()):=by
 unfold zt_M zt_m;rw[yMy];cases isNm s<;>rfl
theorem y9F(l:List Con)(i:Nat)(n:Con)(hn:l[i]?=some n){fin:Unit->Option ((Int×Unit)⊕Unit)}:∀ (m k:Nat),k+m=i ->
  y0B (λ i__ s__=>yHL l (i:Int) i__) fin m (k:Int) ()=if ((l.drop k).take m).any (λ d=>d.1 == n.1)=true then some (.inl (9,()))else fin ()
 |0,k,_=>by simp[y0B]
 |m+1,k,hk=>by
  have hi:i < l.length:=(List.getElem?_eq_some_iff.1 hn).1;have hkl:k < l.length:=by omega
  unfold y0B;have hb:yHL l (i:Int) (k:Int)=some (if (l[k].1 == n.1)=true then .inl (.inl (9,()))else .inr ()):=by
   unfold yHL;rw[ym,ym,hn,List.getElem?_eq_getElem hkl];simp only[Option.bind_some];cases (l[k].1 == n.1)<;>rfl
  rw[hb];simp only[Option.bind_some];have hd:(l.drop k).take (m+1)=l[k]::(l.drop (k+1)).take m:=by
   rw[<- List.getElem_cons_drop (h:=hkl),List.take_succ_cons]
  rw[hd,List.any_cons];cases h:(l[k].1 == n.1)with
  |true=>rfl
  |false =>
   rw[if_neg (by simp),Bool.false_or]
   have ih:=y9F l i n hn (fin:=fin) m (k+1) (by omega)
   rw[show ((k+1:Nat):Int)=(k:Int)+1 by omega]at ih
   exact ih
theorem yHZ(l:List Con)(hl:l.length<=4)(i:Nat)(n:Con)(hn:l[i]?=some n) :
  yHY l (i:Int) n=some (bif conE (l.take i) n != 0 then .inl (conE (l.take i) n,())else .inr ()):=by
 have hi:i < l.length:=(List.getElem?_eq_some_iff.1 hn).1;unfold yHY;rw[yC2,ym,hn];simp only[Option.bind_some,y3H];rw[y5W _ (yGa _ _ _)];simp only[Option.bind_some];show (bif (yAp n != 0)then some (Sum.inl (yAp n,()))else _)=_
 unfold conE yT;cases hs:(yAp n != 0)with
 |true=>simp only[cond_true,if_true,hs]
 |false =>
  simp only[cond_false,Bool.false_eq_true,if_false];rw[bifT (y5 (show (i:Int)<=9223372036854775807 by omega))]
  have e1:((i:Int) - 0).toNat=i:=by omega
  rw[e1];have:=y9F l i n hn (fin:=λ s__=>yNC l (i:Int)) i 0 (by omega)
  rw[show ((0:Nat):Int)=0 from rfl]at this
  rw[this,List.drop_zero];cases hany:(l.take i).any (λ d=>d.1 == n.1)with
  |true=>rw[if_pos rfl];rfl
  |false=>rw[if_neg (by simp)];rfl
theorem y9T(xs:List Con)(hl:xs.length<=4):∀ (l done:List Con),xs=done++l ->
  yM (λ i__ e__ s__=>yHY xs i__ e__) (λ s__=>yMJ xs) (done.length:Int) l ()=some (yEF done l,())
 |[],done,_=>rfl
 |n::l,done,hx=>by
  have hn:xs[done.length]?=some n:=by rw[hx];simp
  rw[yk,yHZ xs hl done.length n hn];have ht:xs.take done.length=done:=by rw[hx];simp
  rw[ht];simp only[Option.bind_some,yEF,yT];cases h:(conE done n != 0)with
  |true=>rfl
  |false =>
   have ih:=y9T xs hl l (done++[n]) (by rw[hx];simp)
   simp only[List.length_append,List.length_cons,List.length_nil]at ih;exact ih
theorem yOE(l:List Con):zL_M l=some (y7d l,()):=by
 unfold zL_M y7d;by_cases h0:l.length=0
 ·rw[bifT (show ((l.length:Int) == 0)=true by simp[h0]),if_pos h0]
 ·rw[bifF (show ((l.length:Int) == 0)=false by simpa using h0),if_neg h0]
  by_cases h8:4 < l.length
  ·rw[bifT (y5 (show (l.length:Int) > 4 by omega)),if_pos h8]
  ·rw[bifF (yF (show ¬ (l.length:Int) > 4 by omega)),if_neg h8,bifT (y5 (show l.length < lenMax by unfold lenMax;omega))]
   exact y9T l (by omega) l [] rfl
def yMl(m:List (List UInt8×Bool))(done:List Con):Prop:=∀ k,(y0P .str .bool m k).getD false=done.any λ d=>d.1 == k
theorem yHX(m:List (List UInt8×Bool))(k k':List UInt8):(y0P .str .bool (y1P .str .bool m k true) k').getD false=((k == k') || (y0P .str .bool m k').getD false):=by
 induction m with
 |nil =>
  show (y0P .str .bool [(k,true)] k').getD false=_
  simp only[y0P,eqV];by_cases h:k'=k
  ·subst h;simp
  ·have h1:(k' == k)=false:=beq_eq_false_iff_ne.2 h;have h2:(k == k')=false:=beq_eq_false_iff_ne.2 (Ne.symm h);show (bif (k' == k)then some true else none).getD false=_
   rw[h1,h2];rfl
 |cons p m ih =>
  show (y0P .str .bool (bif (k == p.1)then (k,true)::m else p::y1P .str .bool m k true) k').getD false=_
  by_cases h:k=p.1
  ·have h1:(k == p.1)=true:=by simp[h]
   rw[h1,cond_true];show (bif (k' == k)then some true else y0P .str .bool m k').getD false=((k == k') || (bif (k' == p.1)then some p.2 else y0P .str .bool m k').getD false)
   by_cases h2:k'=k
   ·have e1:(k' == k)=true:=by simp[h2]
    have e2:(k == k')=true:=by simp[h2]
    rw[e1,e2];rfl
   ·have e1:(k' == k)=false:=beq_eq_false_iff_ne.2 h2;have e2:(k == k')=false:=beq_eq_false_iff_ne.2 (Ne.symm h2);have e3:(k' == p.1)=false:=by rw[<- h];exact e1
    rw[e1,e2,e3];rfl
  ·have h1:(k == p.1)=false:=beq_eq_false_iff_ne.2 h;rw[h1,cond_false];show (bif (k' == p.1)then some p.2 else y0P .str .bool (y1P .str .bool m k true) k').getD false=((k == k') || (bif (k' == p.1)then some p.2 else y0P .str .bool m k').getD false)
   by_cases h2:k'=p.1
   ·have e1:(k' == p.1)=true:=by simp[h2]
    have e2:(k == k')=false:=by rw[h2];exact h1
    rw[e1,e2];rfl
   ·have e1:(k' == p.1)=false:=beq_eq_false_iff_ne.2 h2;rw[e1];exact ih
theorem yMl.put{m:List (List UInt8×Bool)}{done:List Con}(h:yMl m done)(n:Con):yMl (y1P .str .bool m n.1 true) (done++[n]):=by
 intro k;rw[yHX,h k,List.any_append];simp[Bool.or_comm]
theorem yKk(c:Con)(h:c.1.length < lenMax):zO_M c=some (yAp c,()):=by
 unfold zO_M zO_m;rw[yFH c.1 h];simp only[Option.bind_some,y4u,yC8];rw[y2F _ (yGa _ _ _)];unfold yAp;cases isNm c.1<;>rfl
theorem y96(xs:List Con):∀ (l done:List Con) (i:Int) (m:List (List UInt8×Bool)),(∀ n∈l,n.1.length < lenMax)->yMl m done ->
  yM (λ i__ e__ s__=>yI8 xs i__ e__ s__) (λ s__=>yMK xs s__) i l m=some (yEF done l,())
 |[],done,i,m,_,_=>rfl
 |n::l,done,i,m,hl,hk=>by
  have hb:yI8 xs i n m=some (bif conE done n != 0 then .inl (conE done n,())else .inr (y1P .str .bool m n.1 true)):=by
   unfold yI8;rw[yKk _ (hl n (by simp))]
   simp only[Option.bind_some,y4u,hk n.1];rw[y2F _ (y4V _ _)];have e:y0C [yAp (n.fst,n.snd.fst,n.snd.snd.fst,()),bif done.any (λ d=>d.1 == n.1)then 9 else 0]=conE done n:=by
    rw[yW,yW,y1F,y0V];rfl
   simp only[Option.bind_some,e];cases (conE done n != 0)<;>rfl
  rw[yk,hb];simp only[Option.bind_some,yEF,yT];cases h:(conE done n != 0)with
  |true=>rfl
  |false =>
   simp only[cond_false,Bool.false_eq_true,if_false];exact y96 xs l (done++[n]) (i+1) _ (λ x hx=>hl x (by simp[hx])) (hk.put n)
theorem yNi(l:List Con)(hn:∀ n∈l,n.1.length < lenMax)(hl:l.length < lenMax):zN_M l=some (y7d l,()):=by
 unfold zN_M y7d;simp only[y4u];rw[y2F _ (y4V _ _)];simp only[Option.bind_some];by_cases h0:l.length=0
 ·rw[show ((l.length:Int) == 0)=true by simp[h0],if_pos h0]
  rfl
 ·rw[show ((l.length:Int) == 0)=false by simpa using h0,if_neg h0]
  by_cases h8:4 < l.length
  ·rw[y5 (show (l.length:Int) > 4 by omega),if_pos h8]
   rfl
  ·rw[yF (show ¬ (l.length:Int) > 4 by omega),if_neg h8]
   rw[bifF (by rfl),bifT (y5 hl)]
   exact y96 l l [] 0 [] hn (λ k=>rfl)
end Go.Tw
end
section
set_option maxRecDepth 100000
namespace Go.Tw
open Go.Vx Go.Vx.B Go.Proofs
theorem y25{i:Int}(h0:-9223372036854775808<=i)(h1:i<=9223372036854775807):IntKind.i64.wrap i=i:=by
 rw[IntKind.wrap_i64];omega
def gI(a b:Int):Int:=(Nat.gcd a.natAbs b.natAbs:Nat)
def comG:List Gau->Int->Int
 |[],d=>d
 |z::l,d=>comG l (gI (gI d z.1) z.2.1)
def fits(z:Gau):Prop:=(-9223372036854775807<=z.1/\z.1<=9223372036854775807)/\(-9223372036854775807<=z.2.1/\z.2.1<=9223372036854775807)
def y2P(z:Gau):Int:=y0C [ckR z.1 (-8796093022208) 8796093022208,ckR z.2.1 (-8796093022208) 8796093022208]
theorem y4t{l:List Int}(h:y0C l=0):∀ e∈l,e=0:=by
 induction l with
 |nil=>intro e he;cases he
 |cons a l ih =>
  rw[yW]at h;unfold yT at h;by_cases ha:a=0
  ·subst ha;simp only[bne_self_eq_false,Bool.false_eq_true,if_false]at h;intro e he;rcases List.mem_cons.1 he with rfl|he
   ·rfl
   ·exact ih h e he
  ·have:(a != 0)=true:=by simp[ha]
   rw[this,if_pos rfl]at h;exact absurd h ha
theorem yAq{n lo hi:Int}(h:ckR n lo hi=0):lo<=n/\n<=hi:=by
 unfold ckR at h;split at h
 ·cases h
 ·omega
theorem yM4(z:Gau):yAf z=some (y2P z,()):=by
 unfold yAf yOM;simp only[yC8];rw[y2F _ (y4V _ _)];rfl
theorem yOL(z:Gau):zx_M z=some (y2P z,()):=by
 unfold zx_M zx_m;simp only[y3H];rw[y5W _ (y4V _ _)];rfl
theorem y3E{n:Nat}(h:n<=memMax):n < lenMax:=Nat.lt_of_le_of_lt h yCB
theorem yIf(l:List Gau)(hl:l.length<=memMax):zH_M l (λ x=>yAf x.1)=some (l.map y2P,()):=by
 unfold zH_M;rw[bifT (y5 (y3E hl))];rw[y2D y2P l 0 [] (by simpa using hl) λ i e s _ hs=>by
  unfold yNI;show (Option.bind (yAf e) _)=_
  rw[yM4];simp only[Option.bind_some];rw[bifT (y5 hs)]]
 rfl
theorem yl{a b:Int}(h:a≠0):yT a b=a:=by unfold yT;rw[if_pos (by simpa using h)]
theorem yv(b:Int):yT 0 b=b:=by unfold yT;rw[if_neg (by simp)]
theorem y1L(a b c:Int):yT (yT a b) c=yT a (yT b c):=by
 by_cases h:a=0
 ·subst h;simp only[yv]
 ·rw[yl h,yl h,yl h]
end Go.Tw
end
section
set_option maxRecDepth 100000
namespace Go.Tw
open Go.Vx Go.Vx.B Go.Proofs
theorem y9K{β σ:Type}{body:Int->σ->Option (β⊕σ)}{fin:σ->Option β}{i:Int}{s:σ}:y0B body fin 0 i s=fin s:=rfl
theorem y19{β σ:Type}{body:Int->σ->Option (β⊕σ)}{fin:σ->Option β}{m:Nat}{i:Int}{s:σ}:y0B body fin (m+1) i s=(body i s).bind λ z=>match z with
  |.inl y=>some y
  |.inr s'=>y0B body fin m (i+1) s':=rfl
theorem y5S{β γ:Type}{body:Int->List γ->Option (β⊕List γ)}{fin:List γ->Option β}(f:Int->γ) :
  ∀ (m:Nat) (i:Int) (s:List γ),s.length+m<=memMax->(∀ (k:Nat) s,k < m->s.length+1<=memMax->body (i+k) s=some (.inr (s++[f (i+k)])))->y0B body fin m i s=fin (s++(List.range m).map λ k:Nat=>f (i+k))
 |0,i,s,_,_=>by simp[y9K]
 |m+1,i,s,hl,h=>by
  have h0:=h 0 s (by omega) (by omega)
  rw[show i+((0:Nat):Int)=i by omega]at h0
  rw[y19,h0];simp only[Option.bind_some];rw[y5S f m (i+1) (s++[f i]) (by simp;omega) λ k s hk hs=>by
   have:=h (k+1) s (by omega) hs
   rw[show i+((k+1:Nat):Int)=i+1+(k:Int) by omega]at this
   exact this]
  congr 1
  rw[List.range_succ_eq_map,List.map_cons,List.map_map,List.append_assoc];congr 1
  simp only[List.singleton_append,List.cons.injEq];refine ⟨by congr 1;omega,List.map_congr_left λ k _=>?_⟩
  show f (i+1+(k:Int))=f (i+((k+1:Nat):Int))
  congr 1
  omega
def y2m(n:Int):Gau:=if n=0 then (1,0,())else if n=1 then (0,1,())else if n=2 then (-1,0,())else (0,-1,())
def chr(c:Con)(tick:Int):Gau:=y2m (c.2.2.1 * (tick / c.2.1) % 4)
def y1t(c:Con):Prop:=(1<=c.2.1/\c.2.1<=96)/\(0<=c.2.2.1/\c.2.2.1<=3)
def y4Z(t:Int):Prop:=0<=t/\t<=200000
theorem yFY{c:Con}{t:Int}(hc:y1t c)(ht:y4Z t):IntKind.i64.wrap (c.2.2.1 * IntKind.i64.wrap (t.tdiv c.2.1))=c.2.2.1 * (t / c.2.1)/\0<=c.2.2.1 * (t / c.2.1)/\c.2.2.1 * (t / c.2.1)<=600000:=by
 obtain ⟨⟨h1,h2⟩,h3,h4⟩:=hc;obtain ⟨h5,h6⟩:=ht;have e1:t.tdiv c.2.1=t / c.2.1:=Int.tdiv_eq_ediv_of_nonneg h5;have h7:0<=t / c.2.1:=Int.ediv_nonneg h5 (by omega)
 have h8:t / c.2.1<=t:=Int.ediv_le_self _ h5;generalize t / c.2.1=q at e1 h7 h8;have h9:0<=c.2.2.1 * q:=Int.mul_nonneg h3 h7;have h10:c.2.2.1 * q<=3 * q:=Int.mul_le_mul_of_nonneg_right h4 h7;rw[e1,y25 (i:=q) (by omega) (by omega),y25 (by omega) (by omega)]
 exact ⟨rfl,h9,by omega⟩
theorem mod4(k:Int):k % 4=0\/k % 4=1\/k % 4=2\/k % 4=3:=by omega
theorem yTu{c:Con}{t:Int}(hc:y1t c)(ht:y4Z t):zT_M c t=some (chr c t,()):=by
 unfold zT_M zT_m chr;obtain ⟨h1,h2,h3⟩:=yFY hc ht;have hl:(c.2.1 == 0)=false:=by have:=hc.1.1;simp;omega
 rw[bifF hl];rw[h1];generalize c.2.2.1 * (t / c.2.1)=k at h2 h3;have e:k.tmod 4=k % 4:=Int.tmod_eq_emod_of_nonneg h2;rw[e];rcases mod4 k with h|h|h|h<;>rw[h]<;>rfl
theorem ySm(k:Int)(h2:0<=k)(h3:k<=600000):yEa (1,0,()) k=some (y2m (k % 4),()):=by
 unfold yEa;have e:k.tmod 4=k % 4:=Int.tmod_eq_emod_of_nonneg h2;rw[e];rcases mod4 k with h|h|h|h<;>rw[h]<;>rfl
theorem yBK{c:Con}{t:Int}(hc:y1t c)(ht:y4Z t):zw_M c t=some (chr c t,()):=by
 unfold zw_M zw_m chr;obtain ⟨h1,h2,h3⟩:=yFY hc ht;have hl:(c.2.1 == 0)=false:=by have:=hc.1.1;simp;omega
 rw[bifF hl,h1,ySm _ h2 h3];rfl
noncomputable def sumV:List Con->List Gau->Int->Gau->Gau
 |c::l,z::v,t,acc=>sumV l v t (z1J acc (z1B z (chr c t)).1).1
 |_,_,_,acc=>acc
theorem yCe(v:List Gau)(t:Int)(xs:List Con)(ht:y4Z t):∀ (l:List Con) (d:Nat) (x y:Int),l.length+d=v.length->(∀ c∈l,y1t c) ->
  yM (λ i__ e__ s__=>y92 v t xs 0 0 i__ e__ s__.1 s__.2) (λ s__=>yFh v t xs 0 0 s__.1 s__.2) (d:Int) l (x,y)=some (sumV l (v.drop d) t (x,y,()),())
 |[],d,x,y,hl,_=>by
  have:v.drop d=[]:=List.drop_eq_nil_of_le (by simp at hl;omega)
  rw[this];rfl
 |c::l,d,x,y,hl,hc=>by
  simp only[List.length_cons]at hl;have hd:d < v.length:=by omega
  have hv:v[d]?=some v[d]:=List.getElem?_eq_getElem hd;have hdr:v.drop d=v[d]::v.drop (d+1):=(List.getElem_cons_drop (h:=hd)).symm;have hb:y92 v t xs 0 0 (d:Int) c x y=some (.inr ((z1J (x,y,()) (z1B v[d] (chr c t)).1).1.1,(z1J (x,y,()) (z1B v[d] (chr c t)).1).1.2.1)):=by
   unfold y92;rw[ym,hv];simp only[Option.bind_some];rw[yTu (c:=(c.1,c.2.1,c.2.2.1,())) (hc c (by simp)) ht]
   rfl
  rw[yk];simp only[hb,Option.bind_some];have ih:=yCe v t xs ht l (d+1) (z1J (x,y,()) (z1B v[d] (chr c t)).1).1.1 (z1J (x,y,()) (z1B v[d] (chr c t)).1).1.2.1 (by omega) λ c hc2=>hc c (by simp[hc2])
  rw[hdr];exact ih
theorem ySX{l:List Con}{v:List Gau}{t:Int}(hl:l.length=v.length)(hlm:l.length < lenMax)(hc:∀ c∈l,y1t c)(ht:y4Z t):y7y l v t=some (sumV l v t (0,0,()),()):=by
 unfold y7y;rw[bifT (y5 hlm)];exact yCe v t l ht l 0 0 0 (by omega) hc
theorem yCw(l:List Con)(v:List Gau)(t:Int)(ht:y4Z t)(hl:l.length=v.length)(hc:∀ c∈l,y1t c):∀ (m d:Nat) (x y:Int),d+m=l.length ->
  y0B (λ i__ s__=>y9X l v t 0 0 i__ s__.1 s__.2) (λ s__=>yGR l v t 0 0 s__.1 s__.2) m (d:Int) (x,y)=some (sumV (l.drop d) (v.drop d) t (x,y,()),())
 |0,d,x,y,h=>by
  have:l.drop d=[]:=List.drop_eq_nil_of_le (by omega)
  rw[this];rfl
 |m+1,d,x,y,h=>by
  have hd:d < v.length:=by omega
  have hd2:d < l.length:=by omega
  have hv:v[d]?=some v[d]:=List.getElem?_eq_getElem hd;have hv2:l[d]?=some l[d]:=List.getElem?_eq_getElem hd2;have hdr:v.drop d=v[d]::v.drop (d+1):=(List.getElem_cons_drop (h:=hd)).symm;have hdr2:l.drop d=l[d]::l.drop (d+1):=(List.getElem_cons_drop (h:=hd2)).symm;have hb:y9X l v t 0 0 (d:Int) x y=some (.inr ((z1J (x,y,()) (z1B v[d] (chr l[d] t)).1).1.1,(z1J (x,y,()) (z1B v[d] (chr l[d] t)).1).1.2.1)):=by
   unfold y9X;rw[ym,hv,ym,hv2];simp only[Option.bind_some];rw[yBK (hc _ (List.getElem_mem hd2)) ht];rfl
  rw[y19];simp only[hb,Option.bind_some];have ih:=yCw l v t ht hl hc m (d+1) (z1J (x,y,()) (z1B v[d] (chr l[d] t)).1).1.1 (z1J (x,y,()) (z1B v[d] (chr l[d] t)).1).1.2.1 (by omega)
  rw[hdr,hdr2];exact ih
theorem yUU{l:List Con}{v:List Gau}{t:Int}(hl:l.length=v.length)(hlm:l.length < lenMax)(hc:∀ c∈l,y1t c)(ht:y4Z t):yBu l v t=some (sumV l v t (0,0,()),()):=by
 unfold yBu;have h1:(l.length:Int)<=9223372036854775807:=by unfold lenMax at hlm;omega
 have h2:((l.length:Int) - 0).toNat=l.length:=by omega
 rw[bifT (y5 h1),h2];exact yCw l v t ht hl hc l.length 0 0 0 (by omega)
structure okT (t:Tid):Prop where
 len:t.1.length=t.2.1.length
 few:t.1.length<=4
 con:∀ c∈t.1,y1t c
 den:1<=t.2.2.1/\t.2.2.1<=268435456
 part:∀ z∈t.2.1,y2P z=0
 red:comG t.2.1 t.2.2.1=1
theorem yU{a b:Int}(h:yT a b=0):a=0/\b=0:=by
 by_cases ha:a=0
 ·subst ha;rw[yv]at h;exact ⟨rfl,h⟩
 ·rw[yl ha]at h;exact absurd h ha
theorem yFz:∀ (l done:List Con),yEF done l=0->∀ c∈l,yAp c=0
 |[],_,_,c,hc=>by cases hc
 |n::l,done,h,c,hc=>by
  obtain ⟨h1,h2⟩:=yU h;rcases List.mem_cons.1 hc with rfl|hc
  ·exact (yU h1).1
  ·exact yFz l _ h2 c hc
theorem yMf{c:Con}(h:yAp c=0):y1t c/\isNm c.1=true:=by
 have h1:=y4t h;refine ⟨⟨yAq (h1 _ (by simp)),yAq (h1 _ (by simp))⟩,?_⟩
 have:=h1 _ (List.mem_cons_self ..);cases hn:isNm c.1 with
 |true=>rfl
 |false=>rw[hn]at this;cases this
theorem yIY{l:List Con}(h:y7d l=0):0 < l.length/\l.length<=4/\(∀ c∈l,y1t c):=by
 unfold y7d at h;split at h
 ·cases h
 ·split at h
  ·cases h
  ·exact ⟨by omega,by omega,λ c hc=>(yMf (yFz l [] h c hc)).1⟩
end Go.Tw
end
