import Derived.Test.YtpcnkpbpcebokaaGreatDoorBD
import Derived.KernelRfl
import Derived.Test.YtpcnkpbpcebokaaGreatDoorLQ
import Derived.Test.YtpcnkpbpcebokaaGreatDoorLR
set_option linter.all false
section
set_option maxRecDepth 1000000
namespace Go.Tw
open Go.Vx Go.Vx.B Go.Proofs
theorem yIS:yUo=some (true,()):=by kernel_rfl
end Go.Tw
end
section
set_option maxRecDepth 100000
namespace Go.Tw
open Go.Vx Go.Vx.B Go.Proofs
section
variable {α β γ σ:Type}
theorem y25{body:Int->α->σ->Option (β⊕σ)}{fin:σ->Option β}{i:Int}{s:σ}:yM body fin i [] s=fin s:=rfl
theorem yT{body:Int->α->σ->Option (β⊕σ)}{fin:σ->Option β}{i:Int}{e:α}{l:List α}{s:σ}:yM body fin i (e::l) s=(body i e s).bind λ z=>match z with
  | .inl y=>some y
  | .inr s'=>yM body fin (i+1) l s':=rfl
theorem y1x{body:Int->α->Unit->Option (β⊕Unit)}{fin:Unit->Option β}(p:α->Option β) :
  ∀ (l:List α) (i:Int),(∀ i e,e∈l->body i e ()=some (match p e with|some y=>.inl y|none=>.inr ()))->yM body fin i l ()=match l.findSome? p with|some y=>some y|none=>fin ()
 | [],i,_=>rfl
 | e::l,i,h=>by
  rw[yT,h i e (by simp),List.findSome?_cons]
  cases p e with
  | none=>exact y1x p l (i+1) λ i e he=>h i e (by simp[he])
  | some y=>rfl
theorem y1M{body:Int->α->List γ->Option (β⊕List γ)}{fin:List γ->Option β}(f:α->γ) :
  ∀ (l:List α) (i:Int) (s:List γ),s.length+l.length<=memMax->(∀ i e s,e∈l->s.length+1<=memMax->body i e s=some (.inr (s++[f e])))->yM body fin i l s=fin (s++l.map f)
 | [],i,s,_,_=>by simp[y25]
 | e::l,i,s,hl,h=>by
  simp only[List.length_cons]at hl;rw[yT,h i e s (by simp) (by omega)]
  simp only[Option.bind_some];rw[y1M f l (i+1) (s++[f e]) (by simp;omega) λ i e s he hs=>h i e s (by simp[he]) hs]
  simp
end
theorem y5{p:Prop}[Decidable p](h:p):decide p=true:=decide_eq_true h
theorem yF{p:Prop}[Decidable p](h:¬ p):decide p=false:=decide_eq_false h
theorem bifT{α:Type}{c:Bool}{a b:α}(h:c=true):(bif c then a else b)=a:=by rw[h];rfl
theorem bifF{α:Type}{c:Bool}{a b:α}(h:c=false):(bif c then a else b)=b:=by rw[h];rfl
theorem yCx:memMax < lenMax:=by decide
def ckR(n lo hi:Int):Int:=if n < lo\/hi < n then 3 else 0
def y0V(l:List Int):Int:=(l.find? (· != 0)).getD 0
theorem y54(n lo hi:Int):ze n lo hi=(ckR n lo hi,()):=by
 unfold ze ckR;by_cases h1:n < lo
 ·rw[bifT (y5 h1),if_pos (.inl h1)]
 ·rw[bifF (yF h1)];by_cases h2:n > hi
  ·rw[bifT (y5 h2),if_pos (.inr h2)]
  ·rw[bifF (yF h2),if_neg (by omega)]
theorem y5g(c:Bool)(e:Int):z1N c e=(bif c then e else 0,()):=by
 unfold z1N;cases c<;>rfl
theorem yKX(n lo hi:Int):z0q n lo hi=(ckR n lo hi,()):=by
 unfold z0q ckR;by_cases h1:n < lo
 ·rw[bifT (y5 h1),y5g,cond_true,if_pos (.inl h1)]
 ·rw[bifF (yF h1),y5g];by_cases h2:n > hi
  ·rw[y5 h2,cond_true,if_pos (.inr h2)]
  ·rw[yF h2,cond_false,if_neg (by omega)]
theorem y5n(l:List Int):l.findSome? (λ e=>if e != 0 then some (e,())else none)=(l.find? (· != 0)).map λ e=>(e,()):=by
 induction l with
 | nil=>rfl
 | cons e l ih =>
  rw[List.findSome?_cons,List.find?_cons];cases he:(e != 0)with
  | true=>rfl
  | false=>simpa using ih
theorem y5K(l:List Int)(h:l.length < lenMax):y2K l=some (y0V l,()):=by
 unfold y2K;rw[bifT (y5 h),y1x (λ e=>if e != 0 then some (e,())else none) l 0 (λ i e _=>by
  unfold yH3;cases he:(e != 0)<;>rfl),y5n]
 unfold y0V yF9;cases l.find? (· != 0)<;>rfl
theorem yu{α:Type}(l:List α)(i:Nat):idx l (i:Int)=l[i]?:=by
 unfold idx;rw[if_pos (Int.natCast_nonneg i)];rfl
theorem y4m{α β:Type}{body:Int->α->Unit->Option (β⊕Unit)}{fin:Unit->Option β}(xs:List α)(p:α->Option β) :
  ∀ (l done:List α),xs=done++l->(∀ (i:Nat) e,xs[i]?=some e->body (i:Int) e ()=some (match p e with|some y=>.inl y|none=>.inr ())) ->
   yM body fin (done.length:Int) l ()=match l.findSome? p with|some y=>some y|none=>fin ()
 | [],done,_,_=>rfl
 | e::l,done,hx,h=>by
  rw[yT,h done.length e (by rw[hx];simp),List.findSome?_cons]
  cases p e with
  | none =>
   have:=y4m (body:=body) (fin:=fin) xs p l (done++[e]) (by rw[hx];simp) h
   simp only[List.length_append,List.length_cons,List.length_nil]at this;exact this
  | some y=>rfl
theorem y8E(l:List Int)(h:l.length < lenMax):y8e l=some (y0V l,()):=by
 unfold y8e;have:=y4m (body:=λ i__ e__ s__=>yC3 l i__ e__) (fin:=λ s__=>yBd l) l (λ e=>if e != 0 then some (e,())else none) l [] rfl (λ i e hi=>by
  unfold yC3;cases he:(e != 0)with
  | true=>rw[yu,hi];rfl
  | false=>rfl)
 rw[bifT (y5 h)];refine this.trans ?_
 rw[y5n];unfold y0V yBd;cases l.find? (· != 0)<;>rfl
def y4f(c:Nat):Bool:=decide (65<=c/\c<=90\/97<=c/\c<=122)
def y7n(c:Nat):Bool:=decide (48<=c/\c<=57\/c=95)
def nmOk:Bool->List UInt8->Bool
 | _,[]=>true
 | first,c::l=>(y4f c.toNat || (!first && y7n c.toNat)) && nmOk false l
def isNm(s:List UInt8):Bool:=nmOk true s && decide (0 < s.length/\s.length<=24)
theorem y9y:∀ (s0 s:List UInt8) (i:Int),0<=i->yM (λ i__ e__ s__=>y9U s0 i__ e__) (λ s__=>yGm s0) i s ()=some (nmOk (decide (i=0)) s,())
  | s0,[],i,_=>rfl
  | s0,c::l,i,hi=>by
    rw[yT];have ih:=y9y s0 l (i+1) (by omega)
    have e0:decide (i+1=0)=false:=yF (by omega)
    rw[e0]at ih;unfold nmOk;have hb:y9U s0 i c=some (if (y4f c.toNat || (!decide (i=0) && y7n c.toNat))=true then .inr ()else .inl (false,())):=by
      unfold y9U y5p y4f y7n;have g3:(i == 0)=decide (i=0):=by by_cases h:i=0<;>simp[h]
      have g4:((c.toNat:Int) != 95)=!decide ((c.toNat:Int)=95):=by by_cases h:(c.toNat:Int)=95<;>simp[h]
      rw[g3,g4];by_cases h1:(97:Int)<=c.toNat<;>by_cases h2:(c.toNat:Int)<=122<;>by_cases h3:(65:Int)<=c.toNat<;>by_cases h4:(c.toNat:Int)<=90<;>by_cases h5:(c.toNat:Int) < 48<;>by_cases h6:(c.toNat:Int) > 57<;>by_cases h7:(c.toNat:Int)=95<;>by_cases h8:i=0 <;>
        first
        | omega
        | (have g1:(decide (65<=c.toNat/\c.toNat<=90\/97<=c.toNat/\c.toNat<=122))=decide ((65:Int)<=c.toNat/\(c.toNat:Int)<=90\/(97:Int)<=c.toNat/\(c.toNat:Int)<=122):=by
            apply decide_eq_decide.2;omega
           have g2:(decide (48<=c.toNat/\c.toNat<=57\/c.toNat=95))=decide (¬ (c.toNat:Int) < 48/\¬ (c.toNat:Int) > 57\/(c.toNat:Int)=95):=by
            apply decide_eq_decide.2;omega
           rw[g1,g2];simp[h1,h2,h3,h4,h5,h6,h7,h8])
    rw[hb];simp only[Option.bind_some];by_cases hc:(y4f c.toNat || (!decide (i=0) && y7n c.toNat))=true
    · rw[if_pos hc,hc,Bool.true_and];exact ih
    · rw[if_neg hc,Bool.eq_false_iff.2 hc];rfl
theorem yMG(s:List UInt8):yE9 s=some (isNm s,()):=by
 unfold yE9 isNm;by_cases h0:s.length=0
 ·have:((s.length:Int) == 0)=true:=by simp[h0]
  rw[bifT this,show decide (0 < s.length/\s.length<=24)=false from yF (by omega),Bool.and_false]
 ·have:((s.length:Int) == 0)=false:=by simpa using h0
  rw[bifF this];by_cases h1:24 < s.length
  ·rw[bifT (y5 (by omega)),show decide (0 < s.length/\s.length<=24)=false from yF (by omega),Bool.and_false]
  ·rw[bifF (yF (show ¬ ((s.length:Int) > 24) by omega)),bifT (y5 (show s.length < lenMax by unfold lenMax;omega)),y9y s s 0 (by omega),y5 rfl]
   rw[show decide (0 < s.length/\s.length<=24)=true from y5 ⟨by omega,by omega⟩,Bool.and_true]
theorem yP7{bs:List UInt8}{i:Nat}{c:UInt8}(h:bs[i]?=some c):(⟨bs.toArray⟩:ByteArray).get! i=c:=by
 show bs.toArray[i]! = c
 rw[getElem!_def];simp[h]
theorem yI6{bs:List UInt8}{i:Nat}{c:UInt8}(h:bs[i]?=some c)(hc:c.toNat < 128):yf bs (i:Int)=((c.toNat:Int),(i:Int)+1):=by
 unfold yf Utf8.decode;have h0:(⟨bs.toArray⟩:ByteArray).get! ((i:Int).toNat+0)=c:=by rw[Int.toNat_natCast,Nat.add_zero];exact yP7 h
 simp only[h0];rw[if_pos hc];rfl
theorem yJb{bs:List UInt8}{i:Nat}{c:UInt8}(h:bs[i]?=some c)(hc:128<=c.toNat):128<=(yf bs (i:Int)).1:=by
 unfold yf Utf8.decode;have h0:(⟨bs.toArray⟩:ByteArray).get! ((i:Int).toNat+0)=c:=by rw[Int.toNat_natCast,Nat.add_zero];exact yP7 h
 simp only[h0];rw[if_neg (by omega)]
 have he:Utf8.runeError=65533:=rfl;split
 ·split
  ·rename_i h2;show (128:Int)<=((_:Nat):Int);omega
  ·rw[he];decide
 ·split
  ·split
   ·rename_i h2;simp only[Bool.and_eq_true,decide_eq_true_eq]at h2;show (128:Int)<=((_:Nat):Int);omega
   ·rw[he];decide
  ·split
   ·split
    ·rename_i h2;simp only[Bool.and_eq_true,decide_eq_true_eq]at h2;show (128:Int)<=((_:Nat):Int);omega
    ·rw[he];decide
   ·rw[he];decide
def yA9(r:Int):Bool:=decide (65<=r/\r<=90\/97<=r/\r<=122)
def yGS(r:Int):Bool:=decide (48<=r/\r<=57\/r=95)
theorem yIF(s str:List UInt8)(pos:Int):y9n s str pos=some (if (yA9 (yf str pos).1 || (!decide (pos=0) && yGS (yf str pos).1))=true then .inr ()else .inl (false,())):=by
 unfold y9n y4l y7b yA9 yGS;generalize (yf str pos).1=r;have g3:(pos == 0)=decide (pos=0):=by by_cases h:pos=0<;>simp[h]
 have g4:(r == 95)=decide (r=95):=by by_cases h:r=95<;>simp[h]
 rw[g3,g4];by_cases h1:r >= 97<;>by_cases h2:r<=122<;>by_cases h3:r >= 65<;>by_cases h4:r<=90<;>by_cases h5:r >= 48<;>by_cases h6:r<=57<;>by_cases h7:r=95<;>by_cases h8:pos=0 <;>
  first
  | omega
  | simp[h1,h2,h3,h4,h5,h6,h7,h8]
theorem y9f(s:List UInt8):∀ (m i:Nat),s.length<=i+m->i<=s.length ->
  y8s s (λ i__ s__=>y9n s s i__) (λ s__=>y9Z s s) m (i:Int) ()=bif nmOk (decide (i=0)) (s.drop i)then y9Z s s else some (false,())
 | m,i,hm,hi=>by
  by_cases hl:i=s.length
  ·have e1:s.drop i=[]:=List.drop_eq_nil_of_le (by omega)
   have e2:decide ((i:Int) < (s.length:Int))=false:=yF (by omega)
   rw[e1];cases m<;>(unfold y8s;rw[bifF e2];rfl)
  ·have hlt:i < s.length:=by omega
   obtain ⟨m,rfl⟩:∃ k,m=k+1:=⟨m - 1,by omega⟩
   have hd:s.drop i=s[i]::s.drop (i+1):=(List.getElem_cons_drop (h:=hlt)).symm;have hg:s[i]?=some s[i]:=List.getElem?_eq_getElem hlt;have e0:decide ((i:Int)=0)=decide (i=0):=decide_eq_decide.2 (by omega)
   unfold y8s;rw[bifT (y5 (show (i:Int) < (s.length:Int) by omega)),yIF,hd,e0]
   simp only[Option.bind_some];by_cases hc:s[i].toNat < 128
   ·rw[yI6 hg hc];have e1:yA9 (s[i].toNat:Int)=y4f s[i].toNat:=decide_eq_decide.2 (by omega)
    have e2:yGS (s[i].toNat:Int)=y7n s[i].toNat:=decide_eq_decide.2 (by omega)
    simp only[e1,e2,nmOk];by_cases hb:(y4f s[i].toNat || (!decide (i=0) && y7n s[i].toNat))=true
    ·rw[if_pos hb,hb,Bool.true_and];have ih:=y9f s m (i+1) (by omega) (by omega)
     have e3:decide (i+1=0)=false:=yF (by omega)
     rw[e3,show ((i+1:Nat):Int)=(i:Int)+1 by omega]at ih
     exact ih
    ·rw[if_neg hb,Bool.eq_false_iff.2 hb,Bool.false_and];rfl
   ·have h1:=yJb hg (by omega)
    have e1:yA9 (yf s (i:Int)).1=false:=yF (by omega)
    have e2:yGS (yf s (i:Int)).1=false:=yF (by omega)
    have e3:y4f s[i].toNat=false:=yF (by omega)
    have e4:y7n s[i].toNat=false:=yF (by omega)
    simp[e1,e2,nmOk,e3,e4]
theorem yFJ(s:List UInt8)(h:s.length < lenMax):yCF s=some (isNm s,()):=by
 unfold yCF;have:=y9f s s.length 0 (by omega) (by omega)
 rw[List.drop_zero,show decide (0=0)=true from rfl]at this
 rw[bifT (y5 h)];refine (show _=_ from this).trans ?_
 unfold isNm y9Z;cases hn:nmOk true s with
 | false=>rfl
 | true =>
  rw[cond_true,Bool.true_and];cases s with
  | nil=>rfl
  | cons c l =>
   have e:decide (((c::l).length:Int)<=24)=decide (0 < (c::l).length/\(c::l).length<=24):=decide_eq_decide.2 (by simp only[List.length_cons];omega)
   rw[<- e];rfl
def yd(a b:Int):Int:=if a != 0 then a else b
theorem y1Y:y0V []=0:=rfl
theorem ym(a:Int)(l:List Int):y0V (a::l)=yd a (y0V l):=by
 unfold y0V yd;rw[List.find?_cons];cases h:(a != 0)<;>rfl
theorem y0l(a:Int):yd a 0=a:=by
 unfold yd;by_cases h:a=0<;>simp[h]
end Go.Tw
end
section
set_option maxRecDepth 100000
namespace Go.Tw
open Go.Vx Go.Vx.B Go.Proofs
abbrev Con:=List UInt8×Int×Int×Unit
abbrev Gau:=Int×Int×Unit
abbrev Tid:=List Con×List Gau×Int×Unit
def yAB(c:Con):Int:=y0V [bif isNm c.1 then 0 else 8,ckR c.2.1 1 96,ckR c.2.2.1 0 3]
def conE(done:List Con)(c:Con):Int:=yd (yAB c) (bif done.any (λ d=>d.1 == c.1)then 9 else 0)
def yDY:List Con->List Con->Int
 | _,[]=>0
 | done,n::l=>yd (conE done n) (yDY (done++[n]) l)
def y7l(l:List Con):Int:=if l.length=0 then 12 else if 4 < l.length then 5 else yDY [] l
theorem y64(a b:Int):[a,b].length < lenMax:=by simp[lenMax]
theorem yKu(a b c:Int):[a,b,c].length < lenMax:=by simp[lenMax]
theorem yBt(s:List UInt8):zn_M s=some (bif isNm s then 0 else 8,()):=by
 unfold zn_M zn_m;rw[yMG];cases isNm s<;>rfl
theorem y9K(l:List Con)(i:Nat)(n:Con)(hn:l[i]?=some n){fin:Unit->Option ((Int×Unit)⊕Unit)}:∀ (m k:Nat),k+m=i ->
  y0I (λ i__ s__=>yIg l (i:Int) i__) fin m (k:Int) ()=if ((l.drop k).take m).any (λ d=>d.1 == n.1)=true then some (.inl (9,()))else fin ()
 | 0,k,_=>by simp[y0I]
 | m+1,k,hk=>by
  have hi:i < l.length:=(List.getElem?_eq_some_iff.1 hn).1;have hkl:k < l.length:=by omega
  unfold y0I;have hb:yIg l (i:Int) (k:Int)=some (if (l[k].1 == n.1)=true then .inl (.inl (9,()))else .inr ()):=by
   unfold yIg;rw[yu,yu,hn,List.getElem?_eq_getElem hkl];simp only[Option.bind_some];cases (l[k].1 == n.1)<;>rfl
  rw[hb];simp only[Option.bind_some];have hd:(l.drop k).take (m+1)=l[k]::(l.drop (k+1)).take m:=by
   rw[<- List.getElem_cons_drop (h:=hkl),List.take_succ_cons]
  rw[hd,List.any_cons];cases h:(l[k].1 == n.1)with
  | true=>rfl
  | false =>
   rw[if_neg (by simp),Bool.false_or]
   have ih:=y9K l i n hn (fin:=fin) m (k+1) (by omega)
   rw[show ((k+1:Nat):Int)=(k:Int)+1 by omega]at ih
   exact ih
theorem yH9(l:List Con)(hl:l.length<=4)(i:Nat)(n:Con)(hn:l[i]?=some n) :
  yI5 l (i:Int) n=some (bif conE (l.take i) n != 0 then .inl (conE (l.take i) n,())else .inr ()):=by
 have hi:i < l.length:=(List.getElem?_eq_some_iff.1 hn).1;unfold yI5;rw[yBt,yu,hn];simp only[Option.bind_some,y54];rw[y8E _ (yKu _ _ _)];simp only[Option.bind_some];show (bif (yAB n != 0)then some (Sum.inl (yAB n,()))else _)=_
 unfold conE yd;cases hs:(yAB n != 0)with
 | true=>simp only[cond_true,if_true,hs]
 | false =>
  simp only[cond_false,Bool.false_eq_true,if_false];rw[bifT (y5 (show (i:Int)<=9223372036854775807 by omega))]
  have e1:((i:Int) - 0).toNat=i:=by omega
  rw[e1];have:=y9K l i n hn (fin:=λ s__=>yOK l (i:Int)) i 0 (by omega)
  rw[show ((0:Nat):Int)=0 from rfl]at this
  rw[this,List.drop_zero];cases hany:(l.take i).any (λ d=>d.1 == n.1)with
  | true=>rw[if_pos rfl];rfl
  | false=>rw[if_neg (by simp)];rfl
theorem y9e(xs:List Con)(hl:xs.length<=4):∀ (l done:List Con),xs=done++l ->
  yM (λ i__ e__ s__=>yI5 xs i__ e__) (λ s__=>yMl xs) (done.length:Int) l ()=some (yDY done l,())
 | [],done,_=>rfl
 | n::l,done,hx=>by
  have hn:xs[done.length]?=some n:=by rw[hx];simp
  rw[yT,yH9 xs hl done.length n hn];have ht:xs.take done.length=done:=by rw[hx];simp
  rw[ht];simp only[Option.bind_some,yDY,yd];cases h:(conE done n != 0)with
  | true=>rfl
  | false =>
   have ih:=y9e xs hl l (done++[n]) (by rw[hx];simp)
   simp only[List.length_append,List.length_cons,List.length_nil]at ih;exact ih
theorem yOE(l:List Con):zJ_M l=some (y7l l,()):=by
 unfold zJ_M y7l;by_cases h0:l.length=0
 ·rw[bifT (show ((l.length:Int) == 0)=true by simp[h0]),if_pos h0]
 ·rw[bifF (show ((l.length:Int) == 0)=false by simpa using h0),if_neg h0]
  by_cases h8:4 < l.length
  ·rw[bifT (y5 (show (l.length:Int) > 4 by omega)),if_pos h8]
  ·rw[bifF (yF (show ¬ (l.length:Int) > 4 by omega)),if_neg h8,bifT (y5 (show l.length < lenMax by unfold lenMax;omega))]
   exact y9e l (by omega) l [] rfl
def yNg(m:List (List UInt8×Bool))(done:List Con):Prop:=∀ k,(y0P .str .bool m k).getD false=done.any λ d=>d.1 == k
theorem yHN(m:List (List UInt8×Bool))(k k':List UInt8):(y0P .str .bool (y1K .str .bool m k true) k').getD false=((k == k') || (y0P .str .bool m k').getD false):=by
 induction m with
 | nil =>
  show (y0P .str .bool [(k,true)] k').getD false=_
  simp only[y0P,eqV];by_cases h:k'=k
  ·subst h;simp
  ·have h1:(k' == k)=false:=beq_eq_false_iff_ne.2 h;have h2:(k == k')=false:=beq_eq_false_iff_ne.2 (Ne.symm h);show (bif (k' == k)then some true else none).getD false=_
   rw[h1,h2];rfl
 | cons p m ih =>
  show (y0P .str .bool (bif (k == p.1)then (k,true)::m else p::y1K .str .bool m k true) k').getD false=_
  by_cases h:k=p.1
  ·have h1:(k == p.1)=true:=by simp[h]
   rw[h1,cond_true];show (bif (k' == k)then some true else y0P .str .bool m k').getD false=((k == k') || (bif (k' == p.1)then some p.2 else y0P .str .bool m k').getD false)
   by_cases h2:k'=k
   ·have e1:(k' == k)=true:=by simp[h2]
    have e2:(k == k')=true:=by simp[h2]
    rw[e1,e2];rfl
   ·have e1:(k' == k)=false:=beq_eq_false_iff_ne.2 h2;have e2:(k == k')=false:=beq_eq_false_iff_ne.2 (Ne.symm h2);have e3:(k' == p.1)=false:=by rw[<- h];exact e1
    rw[e1,e2,e3];rfl
  ·have h1:(k == p.1)=false:=beq_eq_false_iff_ne.2 h;rw[h1,cond_false];show (bif (k' == p.1)then some p.2 else y0P .str .bool (y1K .str .bool m k true) k').getD false=((k == k') || (bif (k' == p.1)then some p.2 else y0P .str .bool m k').getD false)
   by_cases h2:k'=p.1
   ·have e1:(k' == p.1)=true:=by simp[h2]
    have e2:(k == k')=false:=by rw[h2];exact h1
    rw[e1,e2];rfl
   ·have e1:(k' == p.1)=false:=beq_eq_false_iff_ne.2 h2;rw[e1];exact ih
theorem yNg.put{m:List (List UInt8×Bool)}{done:List Con}(h:yNg m done)(n:Con):yNg (y1K .str .bool m n.1 true) (done++[n]):=by
 intro k;rw[yHN,h k,List.any_append];simp[Bool.or_comm]
theorem yKv(c:Con)(h:c.1.length < lenMax):zM_M c=some (yAB c,()):=by
 unfold zM_M zM_m;rw[yFJ c.1 h];simp only[Option.bind_some,y5g,yKX];rw[y5K _ (yKu _ _ _)];unfold yAB;cases isNm c.1<;>rfl
theorem y9w(xs:List Con):∀ (l done:List Con) (i:Int) (m:List (List UInt8×Bool)),(∀ n∈l,n.1.length < lenMax)->yNg m done ->
  yM (λ i__ e__ s__=>yI8 xs i__ e__ s__) (λ s__=>yOW xs s__) i l m=some (yDY done l,())
 | [],done,i,m,_,_=>rfl
 | n::l,done,i,m,hl,hk=>by
  have hb:yI8 xs i n m=some (bif conE done n != 0 then .inl (conE done n,())else .inr (y1K .str .bool m n.1 true)):=by
   unfold yI8;rw[yKv _ (hl n (by simp))]
   simp only[Option.bind_some,y5g,hk n.1];rw[y5K _ (y64 _ _)];have e:y0V [yAB (n.fst,n.snd.fst,n.snd.snd.fst,()),bif done.any (λ d=>d.1 == n.1)then 9 else 0]=conE done n:=by
    rw[ym,ym,y1Y,y0l];rfl
   simp only[Option.bind_some,e];cases (conE done n != 0)<;>rfl
  rw[yT,hb];simp only[Option.bind_some,yDY,yd];cases h:(conE done n != 0)with
  | true=>rfl
  | false =>
   simp only[cond_false,Bool.false_eq_true,if_false];exact y9w xs l (done++[n]) (i+1) _ (λ x hx=>hl x (by simp[hx])) (hk.put n)
theorem yM9(l:List Con)(hn:∀ n∈l,n.1.length < lenMax)(hl:l.length < lenMax):zL_M l=some (y7l l,()):=by
 unfold zL_M y7l;simp only[y5g];rw[y5K _ (y64 _ _)];simp only[Option.bind_some];by_cases h0:l.length=0
 ·rw[show ((l.length:Int) == 0)=true by simp[h0],if_pos h0]
  rfl
 ·rw[show ((l.length:Int) == 0)=false by simpa using h0,if_neg h0]
  by_cases h8:4 < l.length
  ·rw[y5 (show (l.length:Int) > 4 by omega),if_pos h8]
   rfl
  ·rw[yF (show ¬ (l.length:Int) > 4 by omega),if_neg h8]
   rw[bifF (by rfl),bifT (y5 hl)]
   exact y9w l l [] 0 [] hn (λ k=>rfl)
end Go.Tw
end
section
set_option maxRecDepth 100000
namespace Go.Tw
open Go.Vx Go.Vx.B Go.Proofs
theorem y1u{i:Int}(h0:-9223372036854775808<=i)(h1:i<=9223372036854775807):IntKind.i64.wrap i=i:=by
 rw[IntKind.wrap_i64];omega
def gI(a b:Int):Int:=(Nat.gcd a.natAbs b.natAbs:Nat)
def comG:List Gau->Int->Int
 | [],d=>d
 | z::l,d=>comG l (gI (gI d z.1) z.2.1)
def fits(z:Gau):Prop:=(-9223372036854775807<=z.1/\z.1<=9223372036854775807)/\(-9223372036854775807<=z.2.1/\z.2.1<=9223372036854775807)
def yZX(z:Gau):Int:=y0V [ckR z.1 (-8796093022208) 8796093022208,ckR z.2.1 (-8796093022208) 8796093022208]
theorem y4s{l:List Int}(h:y0V l=0):∀ e∈l,e=0:=by
 induction l with
 | nil=>intro e he;cases he
 | cons a l ih =>
  rw[ym]at h;unfold yd at h;by_cases ha:a=0
  ·subst ha;simp only[bne_self_eq_false,Bool.false_eq_true,if_false]at h;intro e he;rcases List.mem_cons.1 he with rfl|he
   ·rfl
   ·exact ih h e he
  ·have:(a != 0)=true:=by simp[ha]
   rw[this,if_pos rfl]at h;exact absurd h ha
theorem yAI{n lo hi:Int}(h:ckR n lo hi=0):lo<=n/\n<=hi:=by
 unfold ckR at h;split at h
 ·cases h
 ·omega
theorem y0L{n:Nat}(h:n<=memMax):n < lenMax:=Nat.lt_of_le_of_lt h yCx
theorem y01{a b:Int}(h:a≠0):yd a b=a:=by unfold yd;rw[if_pos (by simpa using h)]
theorem y09(b:Int):yd 0 b=b:=by unfold yd;rw[if_neg (by simp)]
theorem y3K(a b c:Int):yd (yd a b) c=yd a (yd b c):=by
 by_cases h:a=0
 ·subst h;simp only[y09]
 ·rw[y01 h,y01 h,y01 h]
end Go.Tw
end
section
set_option maxRecDepth 100000
namespace Go.Tw
open Go.Vx Go.Vx.B Go.Proofs
theorem yI2{β σ:Type}{body:Int->σ->Option (β⊕σ)}{fin:σ->Option β}{i:Int}{s:σ}:y0I body fin 0 i s=fin s:=rfl
theorem y2p{β σ:Type}{body:Int->σ->Option (β⊕σ)}{fin:σ->Option β}{m:Nat}{i:Int}{s:σ}:y0I body fin (m+1) i s=(body i s).bind λ z=>match z with
  | .inl y=>some y
  | .inr s'=>y0I body fin m (i+1) s':=rfl
theorem y2C{β γ:Type}{body:Int->List γ->Option (β⊕List γ)}{fin:List γ->Option β}(f:Int->γ) :
  ∀ (m:Nat) (i:Int) (s:List γ),s.length+m<=memMax->(∀ (k:Nat) s,k < m->s.length+1<=memMax->body (i+k) s=some (.inr (s++[f (i+k)])))->y0I body fin m i s=fin (s++(List.range m).map λ k:Nat=>f (i+k))
 | 0,i,s,_,_=>by simp[yI2]
 | m+1,i,s,hl,h=>by
  have h0:=h 0 s (by omega) (by omega)
  rw[show i+((0:Nat):Int)=i by omega]at h0
  rw[y2p,h0];simp only[Option.bind_some];rw[y2C f m (i+1) (s++[f i]) (by simp;omega) λ k s hk hs=>by
   have:=h (k+1) s (by omega) hs
   rw[show i+((k+1:Nat):Int)=i+1+(k:Int) by omega]at this
   exact this]
  congr 1
  rw[List.range_succ_eq_map,List.map_cons,List.map_map,List.append_assoc];congr 1
  simp only[List.singleton_append,List.cons.injEq];refine ⟨by congr 1;omega,List.map_congr_left λ k _=>?_⟩
  show f (i+1+(k:Int))=f (i+((k+1:Nat):Int))
  congr 1
  omega
def y2w(n:Int):Gau:=if n=0 then (1,0,())else if n=1 then (0,1,())else if n=2 then (-1,0,())else (0,-1,())
def chr(c:Con)(tick:Int):Gau:=y2w (c.2.2.1 * (tick / c.2.1) % 4)
def y3F(c:Con):Prop:=(1<=c.2.1/\c.2.1<=96)/\(0<=c.2.2.1/\c.2.2.1<=3)
def y9X(t:Int):Prop:=0<=t/\t<=200000
theorem yGQ{c:Con}{t:Int}(hc:y3F c)(ht:y9X t):IntKind.i64.wrap (c.2.2.1 * IntKind.i64.wrap (t.tdiv c.2.1))=c.2.2.1 * (t / c.2.1)/\0<=c.2.2.1 * (t / c.2.1)/\c.2.2.1 * (t / c.2.1)<=600000:=by
 obtain ⟨⟨h1,h2⟩,h3,h4⟩:=hc;obtain ⟨h5,h6⟩:=ht;have e1:t.tdiv c.2.1=t / c.2.1:=Int.tdiv_eq_ediv_of_nonneg h5;have h7:0<=t / c.2.1:=Int.ediv_nonneg h5 (by omega)
 have h8:t / c.2.1<=t:=Int.ediv_le_self _ h5;generalize t / c.2.1=q at e1 h7 h8;have h9:0<=c.2.2.1 * q:=Int.mul_nonneg h3 h7;have h10:c.2.2.1 * q<=3 * q:=Int.mul_le_mul_of_nonneg_right h4 h7;rw[e1,y1u (i:=q) (by omega) (by omega),y1u (by omega) (by omega)]
 exact ⟨rfl,h9,by omega⟩
theorem mod4(k:Int):k % 4=0\/k % 4=1\/k % 4=2\/k % 4=3:=by omega
theorem yRk{c:Con}{t:Int}(hc:y3F c)(ht:y9X t):zR_M c t=some (chr c t,()):=by
 unfold zR_M zR_m chr;obtain ⟨h1,h2,h3⟩:=yGQ hc ht;have hl:(c.2.1 == 0)=false:=by have:=hc.1.1;simp;omega
 rw[bifF hl];rw[h1];generalize c.2.2.1 * (t / c.2.1)=k at h2 h3;have e:k.tmod 4=k % 4:=Int.tmod_eq_emod_of_nonneg h2;rw[e];rcases mod4 k with h|h|h|h<;>rw[h]<;>rfl
theorem yTo(k:Int)(h2:0<=k)(h3:k<=600000):yEC (1,0,()) k=some (y2w (k % 4),()):=by
 unfold yEC;have e:k.tmod 4=k % 4:=Int.tmod_eq_emod_of_nonneg h2;rw[e];rcases mod4 k with h|h|h|h<;>rw[h]<;>rfl
theorem yAd{c:Con}{t:Int}(hc:y3F c)(ht:y9X t):zq_M c t=some (chr c t,()):=by
 unfold zq_M zq_m chr;obtain ⟨h1,h2,h3⟩:=yGQ hc ht;have hl:(c.2.1 == 0)=false:=by have:=hc.1.1;simp;omega
 rw[bifF hl,h1,yTo _ h2 h3];rfl
structure okT (t:Tid):Prop where
 len:t.1.length=t.2.1.length
 few:t.1.length<=4
 con:∀ c∈t.1,y3F c
 den:1<=t.2.2.1/\t.2.2.1<=268435456
 part:∀ z∈t.2.1,yZX z=0
 red:comG t.2.1 t.2.2.1=1
theorem yb{a b:Int}(h:yd a b=0):a=0/\b=0:=by
 by_cases ha:a=0
 ·subst ha;rw[y09]at h;exact ⟨rfl,h⟩
 ·rw[y01 ha]at h;exact absurd h ha
theorem yFm:∀ (l done:List Con),yDY done l=0->∀ c∈l,yAB c=0
 | [],_,_,c,hc=>by cases hc
 | n::l,done,h,c,hc=>by
  obtain ⟨h1,h2⟩:=yb h;rcases List.mem_cons.1 hc with rfl|hc
  ·exact (yb h1).1
  ·exact yFm l _ h2 c hc
theorem yMe{c:Con}(h:yAB c=0):y3F c/\isNm c.1=true:=by
 have h1:=y4s h;refine ⟨⟨yAI (h1 _ (by simp)),yAI (h1 _ (by simp))⟩,?_⟩
 have:=h1 _ (List.mem_cons_self ..);cases hn:isNm c.1 with
 | true=>rfl
 | false=>rw[hn]at this;cases this
theorem yL2{l:List Con}(h:y7l l=0):0 < l.length/\l.length<=4/\(∀ c∈l,y3F c):=by
 unfold y7l at h;split at h
 ·cases h
 ·split at h
  ·cases h
  ·exact ⟨by omega,by omega,λ c hc=>(yMe (yFm l [] h c hc)).1⟩
end Go.Tw
end
