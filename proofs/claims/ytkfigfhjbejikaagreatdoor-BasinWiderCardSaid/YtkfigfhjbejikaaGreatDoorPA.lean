import Derived.Test.YtkfigfhjbejikaaGreatDoorBE
set_option linter.all false
open List (findSome?_cons getElem?_eq_getElem length_cons nil_append)
open Option (bind_some)
open Bool (and_eq_true eq_false_iff)
section
set_option maxRecDepth 100000
namespace Go.Tw
open Go.Vx Go.Vx.B Go.Proofs
section
variable {α β γ σ:Type}
theorem y3R{body:Int->α->σ->Option (β⊕σ)}{fin:σ->Option β}{i:Int}{s:σ}:yL body fin i [] s=fin s:=rfl
theorem yg{body:Int->α->σ->Option (β⊕σ)}{fin:σ->Option β}{i:Int}{e:α}{l:List α}{s:σ}:yL body fin i (e::l) s=(body i e s).bind λ z=>match z with
  |.inl y=>some y
  |.inr s'=>yL body fin (i+1) l s':=rfl
theorem y23{body:Int->α->Unit->Option (β⊕Unit)}{fin:Unit->Option β}(p:α->Option β) :
  ∀ (l:List α) (i:Int),(∀ i e,e∈l->body i e ()=some (match p e with|some y=>.inl y|none=>.inr ()))->yL body fin i l ()=match l.findSome? p with|some y=>some y|none=>fin ()
 |[],i,_=>rfl
 |e::l,i,h=>by
  rw[yg,h i e (by simp),findSome?_cons]
  cases p e with
  |none=>exact y23 p l (i+1) λ i e he=>h i e (by simp[he])
  |some y=>rfl
theorem y0k{body:Int->α->List γ->Option (β⊕List γ)}{fin:List γ->Option β}(f:α->γ) :
  ∀ (l:List α) (i:Int) (s:List γ),s.length+l.length<=memMax->(∀ i e s,e∈l->s.length+1<=memMax->body i e s=some (.inr (s++[f e])))->yL body fin i l s=fin (s++l.map f)
 |[],i,s,_,_=>by simp[y3R]
 |e::l,i,s,hl,h=>by
  simp only[length_cons]at hl;rw[yg,h i e s (by simp) (by omega)]
  simp only[bind_some];rw[y0k f l (i+1) (s++[f e]) (by simp;omega) λ i e s he hs=>h i e s (by simp[he]) hs]
  simp
end
theorem yA{p:Prop}[Decidable p](h:p):decide p=true:=decide_eq_true h
theorem yH{p:Prop}[Decidable p](h:¬ p):decide p=false:=decide_eq_false h
theorem bifT{α:Type}{c:Bool}{a b:α}(h:c=true):(bif c then a else b)=a:=by rw[h];rfl
theorem bifF{α:Type}{c:Bool}{a b:α}(h:c=false):(bif c then a else b)=b:=by rw[h];rfl
theorem y0i:memMax < lenMax:=by decide
def ckR(n lo hi:Int):Int:=if n < lo\/hi < n then 3 else 0
def y0l(l:List Int):Int:=(l.find? (· != 0)).getD 0
theorem y0f(n lo hi:Int):zo n lo hi=(ckR n lo hi,()):=by
 unfold zo ckR;by_cases h1:n < lo
 ·rw[bifT (yA h1),if_pos (.inl h1)]
 ·rw[bifF (yH h1)];by_cases h2:n > hi
  ·rw[bifT (yA h2),if_pos (.inr h2)]
  ·rw[bifF (yH h2),if_neg (by omega)]
theorem y2E(c:Bool)(e:Int):z0e c e=(bif c then e else 0,()):=by
 unfold z0e;cases c<;>rfl
theorem y1y(n lo hi:Int):z0E n lo hi=(ckR n lo hi,()):=by
 unfold z0E ckR;by_cases h1:n < lo
 ·rw[bifT (yA h1),y2E,cond_true,if_pos (.inl h1)]
 ·rw[bifF (yH h1),y2E];by_cases h2:n > hi
  ·rw[yA h2,cond_true,if_pos (.inr h2)]
  ·rw[yH h2,cond_false,if_neg (by omega)]
theorem yAe(l:List Int):l.findSome? (λ e=>if e != 0 then some (e,())else none)=(l.find? (· != 0)).map λ e=>(e,()):=by
 induction l with
 |nil=>rfl
 |cons e l ih =>
  rw[findSome?_cons,List.find?_cons];cases he:(e != 0)with
  |true=>rfl
  |false=>simpa using ih
theorem y12(l:List Int)(h:l.length < lenMax):y15 l=some (y0l l,()):=by
 unfold y15;rw[bifT (yA h),y23 (λ e=>if e != 0 then some (e,())else none) l 0 (λ i e _=>by
  unfold yJx;cases he:(e != 0)<;>rfl),yAe]
 unfold y0l yJw;cases l.find? (· != 0)<;>rfl
theorem y9i{α:Type}(l:List α)(i:Nat):idx l (i:Int)=l[i]?:=by
 unfold idx;rw[if_pos (Int.natCast_nonneg i)];rfl
theorem y8Z{α β:Type}{body:Int->α->Unit->Option (β⊕Unit)}{fin:Unit->Option β}(xs:List α)(p:α->Option β) :
  ∀ (l done:List α),xs=done++l->(∀ (i:Nat) e,xs[i]?=some e->body (i:Int) e ()=some (match p e with|some y=>.inl y|none=>.inr ())) ->
   yL body fin (done.length:Int) l ()=match l.findSome? p with|some y=>some y|none=>fin ()
 |[],done,_,_=>rfl
 |e::l,done,hx,h=>by
  rw[yg,h done.length e (by rw[hx];simp),findSome?_cons]
  cases p e with
  |none =>
   have:=y8Z (body:=body) (fin:=fin) xs p l (done++[e]) (by rw[hx];simp) h
   simp only[List.length_append,length_cons,List.length_nil]at this;exact this
  |some y=>rfl
theorem y6I(l:List Int)(h:l.length < lenMax):yAD l=some (y0l l,()):=by
 unfold yAD;have:=y8Z (body:=λ i__ e__ s__=>yG7 l i__ e__) (fin:=λ s__=>yFl l) l (λ e=>if e != 0 then some (e,())else none) l [] rfl (λ i e hi=>by
  unfold yG7;cases he:(e != 0)with
  |true=>rw[y9i,hi];rfl
  |false=>rfl)
 rw[bifT (yA h)];refine this.trans ?_
 rw[yAe];unfold y0l yFl;cases l.find? (· != 0)<;>rfl
def y5a(c:Nat):Bool:=decide (65<=c/\c<=90\/97<=c/\c<=122)
def y9J(c:Nat):Bool:=decide (48<=c/\c<=57\/c=95)
def nmOk:Bool->List UInt8->Bool
 |_,[]=>true
 | first,c::l=>(y5a c.toNat || (!first && y9J c.toNat)) && nmOk false l
def isNm(s:List UInt8):Bool:=nmOk true s && decide (0 < s.length/\s.length<=24)
theorem yB2:∀ (s0 s:List UInt8) (i:Int),0<=i->yL (λ i__ e__ s__=>yE4 s0 i__ e__) (λ s__=>yJC s0) i s ()=some (nmOk (decide (i=0)) s,())
  |s0,[],i,_=>rfl
  |s0,c::l,i,hi=>by
    rw[yg];have ih:=yB2 s0 l (i+1) (by omega)
    have e0:decide (i+1=0)=false:=yH (by omega)
    rw[e0]at ih;unfold nmOk;have hb:yE4 s0 i c=some (if (y5a c.toNat || (!decide (i=0) && y9J c.toNat))=true then .inr ()else .inl (false,())):=by
      unfold yE4 y72 y5a y9J;have g3:(i == 0)=decide (i=0):=by by_cases h:i=0<;>simp[h]
      have g4:((c.toNat:Int) != 95)=!decide ((c.toNat:Int)=95):=by by_cases h:(c.toNat:Int)=95<;>simp[h]
      rw[g3,g4];by_cases h1:(97:Int)<=c.toNat<;>by_cases h2:(c.toNat:Int)<=122<;>by_cases h3:(65:Int)<=c.toNat<;>by_cases h4:(c.toNat:Int)<=90<;>by_cases h5:(c.toNat:Int) < 48<;>by_cases h6:(c.toNat:Int) > 57<;>by_cases h7:(c.toNat:Int)=95<;>by_cases h8:i=0 <;>
        first
        | omega
        | (have g1:(decide (65<=c.toNat/\c.toNat<=90\/97<=c.toNat/\c.toNat<=122))=decide ((65:Int)<=c.toNat/\(c.toNat:Int)<=90\/(97:Int)<=c.toNat/\(c.toNat:Int)<=122):=by
            apply decide_eq_decide.2;omega
           have g2:(decide (48<=c.toNat/\c.toNat<=57\/c.toNat=95))=decide (¬ (c.toNat:Int) < 48/\¬ (c.toNat:Int) > 57\/(c.toNat:Int)=95):=by
            apply decide_eq_decide.2;omega
           rw[g1,g2];simp[h1,h2,h3,h4,h5,h6,h7,h8])
    rw[hb];simp only[bind_some];by_cases hc:(y5a c.toNat || (!decide (i=0) && y9J c.toNat))=true
    · rw[if_pos hc,hc,Bool.true_and];exact ih
    · rw[if_neg hc,eq_false_iff.2 hc];rfl
theorem yMg(s:List UInt8):yK6 s=some (isNm s,()):=by
 unfold yK6 isNm;by_cases h0:s.length=0
 ·have:((s.length:Int) == 0)=true:=by simp[h0]
  rw[bifT this,show decide (0 < s.length/\s.length<=24)=false from yH (by omega),Bool.and_false]
 ·have:((s.length:Int) == 0)=false:=by simpa using h0
  rw[bifF this];by_cases h1:24 < s.length
  ·rw[bifT (yA (by omega)),show decide (0 < s.length/\s.length<=24)=false from yH (by omega),Bool.and_false]
  ·rw[bifF (yH (show ¬ ((s.length:Int) > 24) by omega)),bifT (yA (show s.length < lenMax by unfold lenMax;omega)),yB2 s s 0 (by omega),yA rfl]
   rw[show decide (0 < s.length/\s.length<=24)=true from yA ⟨by omega,by omega⟩,Bool.and_true]
end Go.Tw
end
section
set_option maxRecDepth 100000
namespace Go.Tw
open Go.Vx Go.Vx.B Go.Proofs
theorem yN9{bs:List UInt8}{i:Nat}{c:UInt8}(h:bs[i]?=some c):(⟨bs.toArray⟩:ByteArray).get! i=c:=by
 show bs.toArray[i]! = c
 rw[getElem!_def];simp[h]
theorem yHS{bs:List UInt8}{i:Nat}{c:UInt8}(h:bs[i]?=some c)(hc:c.toNat < 128):yp bs (i:Int)=((c.toNat:Int),(i:Int)+1):=by
 unfold yp Utf8.decode;have h0:(⟨bs.toArray⟩:ByteArray).get! ((i:Int).toNat+0)=c:=by rw[Int.toNat_natCast,Nat.add_zero];exact yN9 h
 simp only[h0];rw[if_pos hc];rfl
theorem yKT{bs:List UInt8}{i:Nat}{c:UInt8}(h:bs[i]?=some c)(hc:128<=c.toNat):128<=(yp bs (i:Int)).1:=by
 unfold yp Utf8.decode;have h0:(⟨bs.toArray⟩:ByteArray).get! ((i:Int).toNat+0)=c:=by rw[Int.toNat_natCast,Nat.add_zero];exact yN9 h
 simp only[h0];rw[if_neg (by omega)]
 have he:Utf8.runeError=65533:=rfl;split
 ·split
  ·rename_i h2;show (128:Int)<=((_:Nat):Int);omega
  ·rw[he];decide
 ·split
  ·split
   ·rename_i h2;simp only[and_eq_true,decide_eq_true_eq]at h2;show (128:Int)<=((_:Nat):Int);omega
   ·rw[he];decide
  ·split
   ·split
    ·rename_i h2;simp only[and_eq_true,decide_eq_true_eq]at h2;show (128:Int)<=((_:Nat):Int);omega
    ·rw[he];decide
   ·rw[he];decide
def yCR(r:Int):Bool:=decide (65<=r/\r<=90\/97<=r/\r<=122)
def yGP(r:Int):Bool:=decide (48<=r/\r<=57\/r=95)
theorem yHT(s str:List UInt8)(pos:Int):yDR s str pos=some (if (yCR (yp str pos).1 || (!decide (pos=0) && yGP (yp str pos).1))=true then .inr ()else .inl (false,())):=by
 unfold yDR y5o y8V yCR yGP;generalize (yp str pos).1=r;have g3:(pos == 0)=decide (pos=0):=by by_cases h:pos=0<;>simp[h]
 have g4:(r == 95)=decide (r=95):=by by_cases h:r=95<;>simp[h]
 rw[g3,g4];by_cases h1:r >= 97<;>by_cases h2:r<=122<;>by_cases h3:r >= 65<;>by_cases h4:r<=90<;>by_cases h5:r >= 48<;>by_cases h6:r<=57<;>by_cases h7:r=95<;>by_cases h8:pos=0 <;>
  first
  | omega
  | simp[h1,h2,h3,h4,h5,h6,h7,h8]
theorem yBG(s:List UInt8):∀ (m i:Nat),s.length<=i+m->i<=s.length ->
  yAC s (λ i__ s__=>yDR s s i__) (λ s__=>yCt s s) m (i:Int) ()=bif nmOk (decide (i=0)) (s.drop i)then yCt s s else some (false,())
 |m,i,hm,hi=>by
  by_cases hl:i=s.length
  ·have e1:s.drop i=[]:=List.drop_eq_nil_of_le (by omega)
   have e2:decide ((i:Int) < (s.length:Int))=false:=yH (by omega)
   rw[e1];cases m<;>(unfold yAC;rw[bifF e2];rfl)
  ·have hlt:i < s.length:=by omega
   obtain ⟨m,rfl⟩:∃ k,m=k+1:=⟨m - 1,by omega⟩
   have hd:s.drop i=s[i]::s.drop (i+1):=(List.getElem_cons_drop (h:=hlt)).symm;have hg:s[i]?=some s[i]:=getElem?_eq_getElem hlt;have e0:decide ((i:Int)=0)=decide (i=0):=decide_eq_decide.2 (by omega)
   unfold yAC;rw[bifT (yA (show (i:Int) < (s.length:Int) by omega)),yHT,hd,e0]
   simp only[bind_some];by_cases hc:s[i].toNat < 128
   ·rw[yHS hg hc];have e1:yCR (s[i].toNat:Int)=y5a s[i].toNat:=decide_eq_decide.2 (by omega)
    have e2:yGP (s[i].toNat:Int)=y9J s[i].toNat:=decide_eq_decide.2 (by omega)
    simp only[e1,e2,nmOk];by_cases hb:(y5a s[i].toNat || (!decide (i=0) && y9J s[i].toNat))=true
    ·rw[if_pos hb,hb,Bool.true_and];have ih:=yBG s m (i+1) (by omega) (by omega)
     have e3:decide (i+1=0)=false:=yH (by omega)
     rw[e3,show ((i+1:Nat):Int)=(i:Int)+1 by omega]at ih
     exact ih
    ·rw[if_neg hb,eq_false_iff.2 hb,Bool.false_and];rfl
   ·have h1:=yKT hg (by omega)
    have e1:yCR (yp s (i:Int)).1=false:=yH (by omega)
    have e2:yGP (yp s (i:Int)).1=false:=yH (by omega)
    have e3:y5a s[i].toNat=false:=yH (by omega)
    have e4:y9J s[i].toNat=false:=yH (by omega)
    simp[e1,e2,nmOk,e3,e4]
theorem yLs(s:List UInt8)(h:s.length < lenMax):yJ9 s=some (isNm s,()):=by
 unfold yJ9;have:=yBG s s.length 0 (by omega) (by omega)
 rw[List.drop_zero,show decide (0=0)=true from rfl]at this
 rw[bifT (yA h)];refine (show _=_ from this).trans ?_
 unfold isNm yCt;cases hn:nmOk true s with
 |false=>rfl
 |true =>
  rw[cond_true,Bool.true_and];cases s with
  |nil=>rfl
  |cons c l =>
   have e:decide (((c::l).length:Int)<=24)=decide (0 < (c::l).length/\(c::l).length<=24):=decide_eq_decide.2 (by simp only[length_cons];omega)
   rw[<- e];rfl
def yS(a b:Int):Int:=if a != 0 then a else b
theorem y2e:y0l []=0:=rfl
theorem yk(a:Int)(l:List Int):y0l (a::l)=yS a (y0l l):=by
 unfold y0l yS;rw[List.find?_cons];cases h:(a != 0)<;>rfl
theorem y1f(a:Int):yS a 0=a:=by
 unfold yS;by_cases h:a=0<;>simp[h]
def y7e(done:List Nod)(n:Nod):Int:=
 y0l [bif isNm n.1 then 0 else 8,bif done.any (λ d=>d.1 == n.1)then 9 else 0,ckR n.2.1 1 1000,ckR n.2.2.1 0 1024]
def y4p:List Nod->List Nod->Int
 |_,[]=>0
 |done,n::l=>yS (y7e done n) (y4p (done++[n]) l)
def y5c(l:List Nod):Int:=if l.length=0 then 12 else if 8 < l.length then 5 else y4p [] l
theorem yAx(l:List Nod)(i:Nat)(n:Nod)(hn:l[i]?=some n){fin:Unit->Option ((Int×Unit)⊕Unit)}:∀ (m k:Nat),k+m=i ->
  y0I (λ i__ s__=>yI3 l (i:Int) i__) fin m (k:Int) ()=if ((l.drop k).take m).any (λ d=>d.1 == n.1)=true then some (.inl (9,()))else fin ()
 |0,k,_=>by simp[y0I]
 |m+1,k,hk=>by
  have hi:i < l.length:=(List.getElem?_eq_some_iff.1 hn).1;have hkl:k < l.length:=by omega
  unfold y0I;have hb:yI3 l (i:Int) (k:Int)=some (if (l[k].1 == n.1)=true then .inl (.inl (9,()))else .inr ()):=by
   unfold yI3;rw[y9i,y9i,hn,getElem?_eq_getElem hkl];simp only[bind_some];cases (l[k].1 == n.1)<;>rfl
  rw[hb];simp only[bind_some];have hd:(l.drop k).take (m+1)=l[k]::(l.drop (k+1)).take m:=by
   rw[<- List.getElem_cons_drop (h:=hkl),List.take_succ_cons]
  rw[hd,List.any_cons];cases h:(l[k].1 == n.1)with
  |true=>rfl
  |false =>
   rw[if_neg (by simp),Bool.false_or]
   have ih:=yAx l i n hn (fin:=fin) m (k+1) (by omega)
   rw[show ((k+1:Nat):Int)=(k:Int)+1 by omega]at ih
   exact ih
theorem yEl(l:List Nod)(hl:l.length<=8)(i:Nat)(n:Nod)(hn:l[i]?=some n) :
  yIw l (i:Int) n=some (bif y7e (l.take i) n != 0 then .inl (y7e (l.take i) n,())else .inr ()):=by
 have hi:i < l.length:=(List.getElem?_eq_some_iff.1 hn).1;unfold yIw;rw[yMg];simp only[bind_some];unfold y7e;cases hnm:isNm n.1 with
 |false =>
  simp only[Bool.not_false,cond_true,yk];rfl
 |true =>
  simp only[Bool.not_true,cond_false];rw[bifT (yA (show (i:Int)<=9223372036854775807 by omega))]
  have e1:((i:Int) - 0).toNat=i:=by omega
  rw[e1];have:=yAx l i n hn (fin:=λ s__=>yIk l (i:Int)) i 0 (by omega)
  rw[show ((0:Nat):Int)=0 from rfl]at this
  rw[this,List.drop_zero];cases hany:(l.take i).any (λ d=>d.1 == n.1)with
  |true =>
   rw[if_pos rfl];simp[yk,yS]
  |false =>
   rw[if_neg (by simp)]
   unfold yIk;rw[y9i,hn];simp only[bind_some,y0f];rw[y6I _ (by simp[lenMax])]
   simp only[bind_some];have e2:y0l [bif true then 0 else 8,bif false then 9 else 0,ckR n.2.1 1 1000,ckR n.2.2.1 0 1024]=y0l [ckR n.2.1 1 1000,ckR n.2.2.1 0 1024]:=by
    simp[yk,yS]
   rw[e2];cases (y0l [ckR n.2.1 1 1000,ckR n.2.2.1 0 1024] != 0)<;>rfl
theorem y8N(xs:List Nod)(hl:xs.length<=8):∀ (l done:List Nod),xs=done++l ->
  yL (λ i__ e__ s__=>yIw xs i__ e__) (λ s__=>yOy xs) (done.length:Int) l ()=some (y4p done l,())
 |[],done,_=>rfl
 |n::l,done,hx=>by
  have hn:xs[done.length]?=some n:=by rw[hx];simp
  rw[yg,yEl xs hl done.length n hn];have ht:xs.take done.length=done:=by rw[hx];simp
  rw[ht];simp only[bind_some,y4p,yS];cases h:(y7e done n != 0)with
  |true=>rfl
  |false =>
   have ih:=y8N xs hl l (done++[n]) (by rw[hx];simp)
   simp only[List.length_append,length_cons,List.length_nil]at ih;exact ih
theorem yL2(l:List Nod):zq_M l=some (y5c l,()):=by
 unfold zq_M y5c;by_cases h0:l.length=0
 ·rw[bifT (show ((l.length:Int) == 0)=true by simp[h0]),if_pos h0]
 ·rw[bifF (show ((l.length:Int) == 0)=false by simpa using h0),if_neg h0]
  by_cases h8:8 < l.length
  ·rw[bifT (yA (show (l.length:Int) > 8 by omega)),if_pos h8]
  ·rw[bifF (yH (show ¬ (l.length:Int) > 8 by omega)),if_neg h8,bifT (yA (show l.length < lenMax by unfold lenMax;omega))]
   exact y8N l (by omega) l [] rfl
end Go.Tw
end
section
set_option maxRecDepth 100000
namespace Go.Tw
open Go.Vx Go.Vx.B Go.Proofs
def kB:List UInt8:=[98,97,114,114,105,101,114]
def kL:List UInt8:=[108,101,97,107]
def kO:List UInt8:=[111,117,116,102,97,108,108]
def kP:List UInt8:=[112,117,109,112]
def kW:List UInt8:=[119,101,105,114]
def y0b(k:List UInt8):Option (Bool×Bool):=
 if k=kB then some (true,false)else if k=kL then some (true,false)else if k=kO then some (false,true)else if k=kP then some (false,false)else if k=kW then some (false,false)else none
def fitN(n nodes:Int)(sea:Bool):Bool:=bif sea then n == -1 else decide (0<=n) && decide (n < nodes)
def y11(x:Lnk)(nodes:Int):Int:=
 match y0b x.1 with
 |none=>13
 |some (s,t)=>bif fitN x.2.1 nodes s && fitN x.2.2.1 nodes t then
   y0l [bif x.2.1 == x.2.2.1 then 17 else 0,ckR x.2.2.2.1 0 (bif s then 0 else 1024),ckR x.2.2.2.2.1 1 1000]else 10
theorem y29(k:List UInt8):k=kB\/k=kL\/k=kO\/k=kP\/k=kW\/(k≠kB/\k≠kL/\k≠kO/\k≠kP/\k≠kW):=by
 by_cases h1:k=kB
 ·exact .inl h1
 by_cases h2:k=kL
 ·exact .inr (.inl h2)
 by_cases h3:k=kO
 ·exact .inr (.inr (.inl h3))
 by_cases h4:k=kP
 ·exact .inr (.inr (.inr (.inl h4)))
 by_cases h5:k=kW
 ·exact .inr (.inr (.inr (.inr (.inl h5))))
 exact .inr (.inr (.inr (.inr (.inr ⟨h1,h2,h3,h4,h5⟩))))
theorem yQT(a b c:Int):[a,b,c].length < lenMax:=by simp[lenMax]
theorem yLz(x:Lnk)(nodes:Int):zk_M x nodes=some (y11 x nodes,()):=by
 obtain ⟨k,f,t,a,r,u⟩:=x;have fin:∀ (m:Int),((y15 [bif f == t then 17 else 0,ckR a 0 m,ckR r 1 1000]).bind λ v27=>some (v27.fst,()))=some (y0l [bif f == t then 17 else 0,ckR a 0 m,ckR r 1 1000],()):=λ m=>by
  rw[y12 _ (yQT _ _ _)];rfl
 have r2:∀ g:Nat->Bool,(List.range 2).all g=(g 0 && g 1):=λ g=>by simp[List.range_succ]
 rcases y29 k with rfl|rfl|rfl|rfl|rfl|⟨h1,h2,h3,h4,h5⟩
 ·simp only[y11,show y0b kB=some (true,false) by decide,fitN]
  simp[zk_M,zk_m,y1R,z0S,yZ,eqV,kB,y1y,y2E,fin,r2];cases (f == -1)<;>cases (decide (0<=t))<;>cases (decide (t < nodes))<;>rfl
 ·simp only[y11,show y0b kL=some (true,false) by decide,fitN]
  simp[zk_M,zk_m,y1R,z0S,yZ,eqV,kL,y1y,y2E,fin,r2];cases (f == -1)<;>cases (decide (0<=t))<;>cases (decide (t < nodes))<;>rfl
 ·simp only[y11,show y0b kO=some (false,true) by decide,fitN]
  simp[zk_M,zk_m,y1R,z0S,yZ,eqV,kO,y1y,y2E,fin,r2];cases (t == -1)<;>cases (decide (0<=f))<;>cases (decide (f < nodes))<;>rfl
 ·simp only[y11,show y0b kP=some (false,false) by decide,fitN]
  simp[zk_M,zk_m,y1R,z0S,yZ,eqV,kP,y1y,y2E,fin,r2];cases (decide (0<=t))<;>cases (decide (t < nodes))<;>cases (decide (0<=f))<;>cases (decide (f < nodes))<;>rfl
 ·simp only[y11,show y0b kW=some (false,false) by decide,fitN]
  simp[zk_M,zk_m,y1R,z0S,yZ,eqV,kW,y1y,y2E,fin,r2];cases (decide (0<=t))<;>cases (decide (t < nodes))<;>cases (decide (0<=f))<;>cases (decide (f < nodes))<;>rfl
 ·have g1:(k == [98,97,114,114,105,101,114])=false:=beq_eq_false_iff_ne.2 h1;have g2:(k == [108,101,97,107])=false:=beq_eq_false_iff_ne.2 h2;have g3:(k == [111,117,116,102,97,108,108])=false:=beq_eq_false_iff_ne.2 h3;have g4:(k == [112,117,109,112])=false:=beq_eq_false_iff_ne.2 h4;have g5:(k == [119,101,105,114])=false:=beq_eq_false_iff_ne.2 h5;simp only[y11,show y0b k=none by simp[y0b,h1,h2,h3,h4,h5]]
  simp only[zk_M,zk_m,z0S,yZ,eqV,g1,g2,g3,g4,g5];rfl
theorem y2c(k:List UInt8):yMW z0Y.1 k=some (decide (k=kB\/k=kL\/k=kO\/k=kP\/k=kW),()):=by
 rcases y29 k with rfl|rfl|rfl|rfl|rfl|⟨h1,h2,h3,h4,h5⟩
 ·decide
 ·decide
 ·decide
 ·decide
 ·decide
 ·have g1:([98,97,114,114,105,101,114] == k)=false:=beq_eq_false_iff_ne.2 (Ne.symm h1);have g2:([108,101,97,107] == k)=false:=beq_eq_false_iff_ne.2 (Ne.symm h2);have g3:([111,117,116,102,97,108,108] == k)=false:=beq_eq_false_iff_ne.2 (Ne.symm h3);have g4:([112,117,109,112] == k)=false:=beq_eq_false_iff_ne.2 (Ne.symm h4);have g5:([119,101,105,114] == k)=false:=beq_eq_false_iff_ne.2 (Ne.symm h5);rw[decide_eq_false (by simp[h1,h2,h3,h4,h5])]
  unfold yMW;rw[bifT (yA (show z0Y.1.length < lenMax by decide))]
  rw[y23 (λ w=>if (w == k)=true then some (true,())else none) _ 0 (λ i e _=>by
   unfold yJF;cases he:(e == k)<;>rfl)]
  have:z0Y.1.findSome? (λ w=>if (w == k)=true then some (true,())else none)=none:=by
   show List.findSome? _ [[98,97,114,114,105,101,114],[108,101,97,107],[111,117,116,102,97,108,108],[112,117,109,112],[119,101,105,114]]=none
   simp only[findSome?_cons,g1,g2,g3,g4,g5,List.findSome?_nil];rfl
  rw[this];rfl
theorem y4Y(c:Bool)(a b:Int):(bif c then some (17,())else (yAD [a,b]).bind λ v4=>some (v4.fst,()))=some (y0l [bif c then 17 else 0,a,b],()):=by
 cases c with
 |true=>rfl
 |false =>
  rw[y6I _ (by simp[lenMax])]
  simp only[cond_false,yk (0:Int),yS];rfl
theorem yLt(x:Lnk)(nodes:Int):zz_M x nodes=some (y11 x nodes,()):=by
 obtain ⟨k,f,t,a,r,u⟩:=x;rcases y29 k with rfl|rfl|rfl|rfl|rfl|⟨h1,h2,h3,h4,h5⟩
 ·simp only[y11,show y0b kB=some (true,false) by decide,fitN]
  simp only[zz_M,zz_m,y2c,show decide (kB=kB\/kB=kL\/kB=kO\/kB=kP\/kB=kW)=true by decide,bind_some]
  simp[z0l,z0g,kB,y0f,y4Y];cases (f == -1)<;>cases (decide (0<=t))<;>cases (decide (t < nodes))<;>rfl
 ·simp only[y11,show y0b kL=some (true,false) by decide,fitN]
  simp only[zz_M,zz_m,y2c,show decide (kL=kB\/kL=kL\/kL=kO\/kL=kP\/kL=kW)=true by decide,bind_some]
  simp[z0l,z0g,kL,y0f,y4Y];cases (f == -1)<;>cases (decide (0<=t))<;>cases (decide (t < nodes))<;>rfl
 ·simp only[y11,show y0b kO=some (false,true) by decide,fitN]
  simp only[zz_M,zz_m,y2c,show decide (kO=kB\/kO=kL\/kO=kO\/kO=kP\/kO=kW)=true by decide,bind_some]
  simp[z0l,z0g,kO,y0f,y4Y];cases (t == -1)<;>cases (decide (0<=f))<;>cases (decide (f < nodes))<;>rfl
 ·simp only[y11,show y0b kP=some (false,false) by decide,fitN]
  simp only[zz_M,zz_m,y2c,show decide (kP=kB\/kP=kL\/kP=kO\/kP=kP\/kP=kW)=true by decide,bind_some]
  simp[z0l,z0g,kP,y0f,y4Y];cases (decide (0<=t))<;>cases (decide (t < nodes))<;>cases (decide (0<=f))<;>cases (decide (f < nodes))<;>rfl
 ·simp only[y11,show y0b kW=some (false,false) by decide,fitN]
  simp only[zz_M,zz_m,y2c,show decide (kW=kB\/kW=kL\/kW=kO\/kW=kP\/kW=kW)=true by decide,bind_some]
  simp[z0l,z0g,kW,y0f,y4Y];cases (decide (0<=t))<;>cases (decide (t < nodes))<;>cases (decide (0<=f))<;>cases (decide (f < nodes))<;>rfl
 ·simp only[y11,show y0b k=none by simp[y0b,h1,h2,h3,h4,h5]]
  simp only[zz_M,zz_m,y2c,show decide (k=kB\/k=kL\/k=kO\/k=kP\/k=kW)=false by simp[h1,h2,h3,h4,h5],bind_some]
  rfl
end Go.Tw
end
section
set_option maxRecDepth 100000
namespace Go.Tw
open Go.Vx Go.Vx.B Go.Proofs
theorem y8i{α:Type}{body:Int->α->Unit->Option ((Int×Unit)⊕Unit)}{fin:Unit->Option (Int×Unit)}(g:α->Int)(l:List α)(i:Int)(hb:∀ i e,e∈l->body i e ()=some (bif g e != 0 then .inl (g e,())else .inr ()))(hf:fin ()=some (0,())) :
  yL body fin i l ()=some (y0l (l.map g),()):=by
 rw[y23 (λ e=>bif g e != 0 then some (g e,())else none) l i (λ i e he=>by
  rw[hb i e he];cases (g e != 0)<;>rfl)]
 clear hb;induction l with
 |nil=>exact hf
 |cons e l ih =>
  rw[findSome?_cons,List.map_cons,yk,yS];cases (g e != 0)with
  |true=>rfl
  |false=>exact ih
theorem yIC(l:List Lnk)(of:Lnk×Unit->Option (Int×Unit))(g:Lnk->Int)(h:∀ e∈l,of (e,())=some (g e,()))(hl:l.length<=memMax):zB_M l of=some (l.map g,()):=by
 unfold zB_M;have hm:=y0i;rw[bifT (yA (show l.length < lenMax by omega)),y0k g l 0 [] (by simpa using hl) (λ i e s he hs=>by
  unfold yNi;rw[show of ((e.fst,e.snd.fst,e.snd.snd.fst,e.snd.snd.snd.fst,e.snd.snd.snd.snd.fst,()),())=of (e,())from rfl,h e he]
  simp only[bind_some];rw[bifT (yA hs)])]
 rfl
def y0D(b:Bas):Int:=
 yS (y5c b.1) (bif decide (16 < b.2.1.length)then 5 else y0l (b.2.1.map λ x=>y11 x (b.1.length:Int)))
theorem yKV(b:Bas):zp_M b=some (y0D b,()):=by
 unfold zp_M y0D yS;rw[yL2];simp only[bind_some];cases h:(y5c b.1 != 0)with
 |true=>rfl
 |false =>
  simp only[cond_false];rw[if_neg (by simp)]
  by_cases h16:16 < b.2.1.length
  ·rw[bifT (yA (show (b.2.1.length:Int) > 16 by omega)),bifT (yA h16)]
  ·rw[bifF (yH (show ¬ (b.2.1.length:Int) > 16 by omega)),bifF (yH h16),bifT (yA (show b.2.1.length < lenMax by unfold lenMax;omega))]
   exact y8i (λ x=>y11 x (b.1.length:Int)) _ 0 (λ i e _=>by
    unfold yNo;rw[yLt];simp only[bind_some];cases (y11 e (b.1.length:Int) != 0)<;>rfl) rfl
def yM8(m:List (List UInt8×Bool))(done:List Nod):Prop:=∀ k,(yZ .str .bool m k).getD false=done.any λ d=>d.1 == k
theorem yHz(m:List (List UInt8×Bool))(k k':List UInt8):(yZ .str .bool (y0a .str .bool m k true) k').getD false=((k == k') || (yZ .str .bool m k').getD false):=by
 induction m with
 |nil =>
  show (yZ .str .bool [(k,true)] k').getD false=_
  simp only[yZ,eqV];by_cases h:k'=k
  ·subst h;simp
  ·have h1:(k' == k)=false:=beq_eq_false_iff_ne.2 h;have h2:(k == k')=false:=beq_eq_false_iff_ne.2 (Ne.symm h);show (bif (k' == k)then some true else none).getD false=_
   rw[h1,h2];rfl
 |cons p m ih =>
  show (yZ .str .bool (bif (k == p.1)then (k,true)::m else p::y0a .str .bool m k true) k').getD false=_
  by_cases h:k=p.1
  ·have h1:(k == p.1)=true:=by simp[h]
   rw[h1,cond_true];show (bif (k' == k)then some true else yZ .str .bool m k').getD false=((k == k') || (bif (k' == p.1)then some p.2 else yZ .str .bool m k').getD false)
   by_cases h2:k'=k
   ·have e1:(k' == k)=true:=by simp[h2]
    have e2:(k == k')=true:=by simp[h2]
    rw[e1,e2];rfl
   ·have e1:(k' == k)=false:=beq_eq_false_iff_ne.2 h2;have e2:(k == k')=false:=beq_eq_false_iff_ne.2 (Ne.symm h2);have e3:(k' == p.1)=false:=by rw[<- h];exact e1
    rw[e1,e2,e3];rfl
  ·have h1:(k == p.1)=false:=beq_eq_false_iff_ne.2 h;rw[h1,cond_false];show (bif (k' == p.1)then some p.2 else yZ .str .bool (y0a .str .bool m k true) k').getD false=((k == k') || (bif (k' == p.1)then some p.2 else yZ .str .bool m k').getD false)
   by_cases h2:k'=p.1
   ·have e1:(k' == p.1)=true:=by simp[h2]
    have e2:(k == k')=false:=by rw[h2];exact h1
    rw[e1,e2];rfl
   ·have e1:(k' == p.1)=false:=beq_eq_false_iff_ne.2 h2;rw[e1];exact ih
theorem yM8.put{m:List (List UInt8×Bool)}{done:List Nod}(h:yM8 m done)(n:Nod):yM8 (y0a .str .bool m n.1 true) (done++[n]):=by
 intro k;rw[yHz,h k,List.any_append];simp[Bool.or_comm]
theorem yQo(a b c d:Int):[a,b,c,d].length < lenMax:=by simp[lenMax]
theorem yPv(a b:Int):[a,b].length < lenMax:=by simp[lenMax]
theorem y8t(b:Bas)(hn:∀ n∈b.1,n.1.length < lenMax):∀ (l done:List Nod) (i:Int) (m:List (List UInt8×Bool)),(∀ n∈l,n.1.length < lenMax)->yM8 m done ->
  ∃ m',yL (λ i__ e__ s__=>yIx b b.1 i__ e__ s__) (λ s__=>yH3 b b.1 s__) i l m=bif y4p done l != 0 then some (y4p done l,())else yH3 b b.1 m'
 |[],done,i,m,_,_=>⟨m,rfl⟩
 |n::l,done,i,m,hl,hk=>by
  have hb:yIx b b.1 i n m=some (bif y7e done n != 0 then .inl (y7e done n,())else .inr (y0a .str .bool m n.1 true)):=by
   unfold yIx;rw[yLs n.1 (hl n (by simp))]
   simp only[bind_some,y2E,y1y,hk n.1];rw[y12 _ (yQo _ _ _ _)];have e:y0l [bif !isNm n.1 then 8 else 0,bif done.any (λ d=>d.1 == n.1)then 9 else 0,ckR n.2.1 1 1000,ckR n.2.2.1 0 1024]=y7e done n:=by
    unfold y7e;cases isNm n.1<;>rfl
   simp only[bind_some,e];cases (y7e done n != 0)<;>rfl
  rw[yg,hb];simp only[bind_some,y4p,yS];cases h:(y7e done n != 0)with
  |true=>exact ⟨m,by simp[h]⟩
  |false =>
   obtain ⟨m',hm⟩:=y8t b hn l (done++[n]) (i+1) (y0a .str .bool m n.1 true) (λ x hx=>hl x (by simp[hx])) (hk.put n)
   exact ⟨m',by rw[if_neg (by simp)];exact hm⟩
theorem yD8{l:List Nod}(h:y5c l=0):0 < l.length/\l.length<=8/\y4p [] l=0:=by
 unfold y5c at h;split at h
 ·cases h
 ·split at h
  ·cases h
  ·exact ⟨by omega,by omega,h⟩
theorem yJq(b:Bas)(hn:∀ n∈b.1,n.1.length < lenMax):zj_M b=some (y0D b,()):=by
 unfold zj_M;simp only[y2E];rw[y12 _ (yPv _ _)];simp only[bind_some];have fin:∀ m,yH3 b b.1 m=some (bif decide (16 < b.2.1.length)then 5 else y0l (b.2.1.map λ x=>y11 x (b.1.length:Int)),()):=λ m=>by
  unfold yH3;by_cases h16:16 < b.2.1.length
  ·rw[bifT (yA (show (b.2.1.length:Int) > 16 by omega)),bifT (yA h16)]
  ·rw[bifF (yH (show ¬ (b.2.1.length:Int) > 16 by omega)),bifF (yH h16)]
   rw[yIC b.2.1 _ (λ x=>y11 x (b.1.length:Int)) (λ e _=>by
    unfold zZ_M zZ_m;rw[yLz];rfl) (by unfold memMax;omega)]
   simp only[bind_some];rw[y12 _ (by rw[List.length_map];unfold lenMax;omega)]
   rfl
 unfold y0D y5c;by_cases h0:b.1.length=0
 ·have e1:((b.1.length:Int) == 0)=true:=by simp[h0]
  rw[e1,if_pos h0];simp[yk,yS]
 ·have e1:((b.1.length:Int) == 0)=false:=by simpa using h0
  rw[e1,if_neg h0];by_cases h8:8 < b.1.length
  ·rw[yA (show (b.1.length:Int) > 8 by omega),if_pos h8]
   simp[yk,yS]
  ·rw[yH (show ¬ (b.1.length:Int) > 8 by omega),if_neg h8]
   have e2:y0l [bif false then 12 else 0,bif false then 5 else 0]=0:=by decide
   rw[e2];rw[bifF (show ((0:Int) != 0)=false by decide),bifT (yA (show b.1.length < lenMax by unfold lenMax;omega))]
   obtain ⟨m',hm⟩:=y8t b hn b.1 [] 0 [] hn (λ k=>rfl)
   refine (show _=_ from hm).trans ?_
   rw[fin m',yS];cases (y4p [] b.1 != 0)<;>rfl
def yBF(b:Bas)(c:Cnd):Int:=yS (ckR c.1 (-1024) 1024) (yS (bif (c.2.2.1.length:Int) != (b.1.length:Int)then 2 else 0) (y0l (c.2.2.1.map λ n=>ckR n 0 100000)))
end Go.Tw
end
section
set_option maxRecDepth 100000
namespace Go.Tw
open Go.Vx Go.Vx.B Go.Proofs
abbrev wr (a:Int):Int:=IntKind.i64.wrap a
theorem yMZ(a b:Int)(h:a % 18446744073709551616=b % 18446744073709551616):wr a=wr b:=by
 unfold wr IntKind.wrap IntKind.bits IntKind.signed;simp only;rw[show (2:Int) ^ 64=18446744073709551616 by decide,h]
theorem yKo(a:Int):wr a % 18446744073709551616=a % 18446744073709551616:=by
 unfold wr IntKind.wrap IntKind.bits IntKind.signed;simp only[show (2:Int) ^ 64=18446744073709551616 by decide]
 split<;>omega
theorem yLu(a b:Int):wr (a+wr (0 - b))=wr (a - b):=by
 apply yMZ;have:=yKo (0 - b);omega
theorem y07:∀ {l:List Int},y0l l=0->∀ e∈l,e=0
 |[],_,e,he=>by simp at he
 |a::l,h,e,he=>by
  rw[yk]at h;unfold yS at h;by_cases ha:a=0
  ·rcases List.mem_cons.1 he with rfl|he
   ·exact ha
   ·rw[ha]at h;exact y07 h e he
  ·rw[if_pos (by simpa using ha)]at h;exact absurd h ha
theorem ya{a b:Int}(h:yS a b=0):a=0/\b=0:=by
 unfold yS at h;by_cases ha:a=0
 ·subst ha;exact ⟨rfl,h⟩
 ·rw[if_pos (by simpa using ha)]at h;exact absurd h ha
theorem y39{n lo hi:Int}(h:ckR n lo hi=0):lo<=n/\n<=hi:=by
 unfold ckR at h;split at h
 ·cases h
 ·omega
structure LinkOK (x:Lnk) (N:Nat):Prop where
 kind:y0b x.1≠none
 from_:x.2.1=-1\/(0<=x.2.1/\x.2.1 < N)
 to_:x.2.2.1=-1\/(0<=x.2.2.1/\x.2.2.1 < N)
 ne:x.2.1≠x.2.2.1
 some_:x.2.1≠-1\/x.2.2.1≠-1
 at_:0<=x.2.2.2.1/\x.2.2.2.1<=1024
 rate:1<=x.2.2.2.2.1/\x.2.2.2.2.1<=1000
theorem yC9{n N:Int}{s:Bool}(h:fitN n N s=true):(s=true/\n=-1)\/(s=false/\0<=n/\n < N):=by
 cases s with
 |true=>exact .inl ⟨rfl,by simpa[fitN]using h⟩
 |false =>
  simp only[fitN,cond_false,and_eq_true,decide_eq_true_eq]at h;exact .inr ⟨rfl,h⟩
theorem yEs{x:Lnk}{N:Nat}(h:y11 x (N:Int)=0):LinkOK x N:=by
 unfold y11 at h;split at h
 ·cases h
 ·rename_i s t he;cases hf:(fitN x.2.1 (N:Int) s && fitN x.2.2.1 (N:Int) t)with
  |false=>rw[hf]at h;cases h
  |true =>
   rw[hf]at h;simp only[cond_true]at h;simp only[and_eq_true]at hf;have h1:=y07 h _ (List.mem_cons_self ..);have h2:=y39 (y07 h _ (List.mem_cons_of_mem _ (List.mem_cons_self ..)));have h3:=y39 (y07 h _ (List.mem_cons_of_mem _ (List.mem_cons_of_mem _ (List.mem_cons_self ..))));have hne:x.2.1≠x.2.2.1:=by
    intro e;rw[show (x.2.1 == x.2.2.1)=true by simp[e]]at h1
    cases h1
   refine ⟨by rw[he];simp,?_,?_,hne,?_,?_,h3⟩
   ·rcases yC9 hf.1 with ⟨_,h⟩|⟨_,h⟩
    ·exact .inl h
    ·exact .inr h
   ·rcases yC9 hf.2 with ⟨_,h⟩|⟨_,h⟩
    ·exact .inl h
    ·exact .inr h
   ·rcases yC9 hf.1 with ⟨_,h⟩|⟨_,h⟩
    ·rcases yC9 hf.2 with ⟨_,h'⟩|⟨_,h'⟩
     ·exact absurd (h.trans h'.symm) hne
     ·exact .inr (by omega)
    ·exact .inl (by omega)
   ·cases s
    ·exact h2
    ·have:(0:Int)<=x.2.2.2.1/\x.2.2.2.1<=0:=h2;omega
structure BasOK (b:Bas):Prop where
 pos:0 < b.1.length
 nodes:b.1.length<=8
 links:b.2.1.length<=16
 area:∀ n∈b.1,1<=n.2.1/\n.2.1<=1000
 limit:∀ n∈b.1,0<=n.2.2.1/\n.2.2.1<=1024
 link:∀ x∈b.2.1,LinkOK x b.1.length
theorem y5Z:∀ {l done:List Nod},y4p done l=0->∀ n∈l,(1<=n.2.1/\n.2.1<=1000)/\0<=n.2.2.1/\n.2.2.1<=1024
 |[],_,_,n,hn=>by simp at hn
 |m::l,done,h,n,hn=>by
  obtain ⟨h1,h2⟩:=ya (show yS (y7e done m) (y4p (done++[m]) l)=0 from h)
  rcases List.mem_cons.1 hn with rfl|hn
  ·exact ⟨y39 (y07 h1 _ (by simp)),y39 (y07 h1 _ (by simp))⟩
  ·exact y5Z h2 n hn
theorem y02{b:Bas}(h:y0D b=0):BasOK b:=by
 obtain ⟨h1,h2⟩:=ya h;obtain ⟨g1,g2,g3⟩:=yD8 h1;by_cases h16:16 < b.2.1.length
 ·rw[yA h16]at h2;cases h2
 ·rw[yH h16,cond_false]at h2;exact ⟨g1,g2,by omega,λ n hn=>(y5Z g3 n hn).1,λ n hn=>(y5Z g3 n hn).2,λ x hx=>yEs (y07 h2 _ (List.mem_map.2 ⟨x,hx,rfl⟩))⟩
theorem y50(a r:Int):yM9 a r=yF5 a r:=rfl
noncomputable def flo(a r:Int):Int:=bif decide (wr (wr (a.tdiv r) * r) > a)then wr (wr (a.tdiv r) - 1)else wr (a.tdiv r)
theorem yAN(a r:Int)(h:r≠0):yF5 a r=some (flo a r,()):=by
 unfold yF5 yQF flo;rw[bifF (beq_eq_false_iff_ne.2 h)];cases decide (wr (wr (a.tdiv r) * r) > a)<;>rfl
def imax(a b:Int):Int:=if b > a then b else a
def imin(a b:Int):Int:=if b < a then b else a
noncomputable def y6d(x:Lnk)(vol area tide:Int)(opn:Bool):Int:=
 if x.1=kB then (bif opn then imax (wr (0 - vol)) (flo (wr (wr (area * tide) - vol)) x.2.2.2.2.1)else 0)
 else if x.1=kL then imax 0 (flo (wr (wr (area * tide) - vol)) x.2.2.2.2.1)
 else if x.1=kO then imax 0 (flo (wr (vol - wr (area * imax tide x.2.2.2.1))) x.2.2.2.2.1)
 else if x.1=kP then imax 0 (imin x.2.2.2.2.1 (wr (vol - wr (area * x.2.2.2.1))))
 else imax 0 (flo (wr (vol - wr (area * x.2.2.2.1))) x.2.2.2.2.1)
abbrev plT:Ty:=.pair (.pair .str (.pair (.int .i64) (.pair (.int .i64) (.pair (.int .i64) (.pair (.int .i64) .unit))))) (.pair (.int .i64) (.pair (.int .i64) (.pair (.int .i64) (.pair .bool .unit))))
abbrev yPW:Ty:=.pair (.arr 2 .bool) (.pair (.func (.pair plT .unit) (.pair (.int .i64) .unit)) .unit)
noncomputable def yKB(k:List UInt8):(Lnk×Int×Int×Int×Bool×Unit)×Unit->Option (Int×Unit):=
 ((yZ .str yPW z0S.1 k).getD ([false,false],λ _=>none,())).2.1
theorem yHp{x:Lnk}(hk:y0b x.1≠none)(hr:x.2.2.2.2.1≠0)(vol area tide:Int)(opn:Bool):yKB x.1 ((x,vol,area,tide,opn,()),())=some (y6d x vol area tide opn,()):=by
 obtain ⟨k,f,t,a,r,u⟩:=x;simp only at hk hr;have hf:=λ a=>yAN a r hr
 rcases y29 k with rfl|rfl|rfl|rfl|rfl|⟨h1,h2,h3,h4,h5⟩
 ·show zT_M ((kB,f,t,a,r,u),vol,area,tide,opn,())=_
  simp only[zT_M,zT_m,zU_M,zU_m,y50,hf,y6d,bind_some];cases opn<;>rfl
 ·show yJM ((kL,f,t,a,r,u),vol,area,tide,opn,())=_
  simp only[yJM,yO8,zU_M,zU_m,y50,hf,y6d,bind_some];rfl
 ·show yJa ((kO,f,t,a,r,u),vol,area,tide,opn,())=_
  simp only[yJa,yNq,zm_M,zm_m,y50,hf,y6d,bind_some];rfl
 ·rfl
 ·show yJf ((kW,f,t,a,r,u),vol,area,tide,opn,())=_
  simp only[yJf,yOa,zm_M,zm_m,y50,hf,y6d,bind_some];rfl
 ·exact absurd (by simp[y0b,h1,h2,h3,h4,h5]) hk
theorem yMK{x:Lnk}(hk:y0b x.1≠none)(hr:x.2.2.2.2.1≠0)(b:Bas)(v:List Int)(c:Cnd)(n:Nod)(vol j:Int)(hj:(if x.2.1 < 0 then x.2.2.1 else x.2.1)=j)(hn:idx b.1 j=some n)(hv:idx v j=some vol) :
  yIW b v c x=some (y6d x vol n.2.1 c.1 c.2.1,()):=by
 obtain ⟨k,f,t,a,r,u⟩:=x;simp only at hk hr hj;have hf:=λ a=>yAN a r hr
 have h0:yIW b v c (k,f,t,a,r,u)=y66 0 b v c (k,f,t,a,r,u) j:=by
  unfold yIW yPf;subst hj;by_cases hlt:f < 0
  ·rw[bifT (yA hlt),if_pos hlt]
  ·rw[bifF (yH hlt),if_neg hlt]
 rw[h0];unfold y66;rw[hn,hv];simp only[bind_some];rcases y29 k with rfl|rfl|rfl|rfl|rfl|⟨h1,h2,h3,h4,h5⟩
 ·rw[bifT (show (kB == [98,97,114,114,105,101,114])=true by decide)]
  simp only[hf,bind_some,y6d];cases c.2.1<;>rfl
 ·rw[bifF (show (kL == [98,97,114,114,105,101,114])=false by decide),bifT (show (kL == [108,101,97,107])=true by decide)]
  simp only[hf,bind_some,y6d];rfl
 ·rw[bifF (show (kO == [98,97,114,114,105,101,114])=false by decide),bifF (show (kO == [108,101,97,107])=false by decide),bifT (show (kO == [111,117,116,102,97,108,108])=true by decide)]
  simp only[hf,bind_some,y6d];rfl
 ·rw[bifF (show (kP == [98,97,114,114,105,101,114])=false by decide),bifF (show (kP == [108,101,97,107])=false by decide),bifF (show (kP == [111,117,116,102,97,108,108])=false by decide),bifT (show (kP == [112,117,109,112])=true by decide)]
  rfl
 ·rw[bifF (show (kW == [98,97,114,114,105,101,114])=false by decide),bifF (show (kW == [108,101,97,107])=false by decide),bifF (show (kW == [111,117,116,102,97,108,108])=false by decide),bifF (show (kW == [112,117,109,112])=false by decide)]
  simp only[hf,bind_some,y6d];rfl
 ·exact absurd (by simp[y0b,h1,h2,h3,h4,h5]) hk
end Go.Tw
end
section
set_option maxRecDepth 100000
namespace Go.Tw
open Go.Vx Go.Vx.B Go.Proofs
def maxV:Int:=100000000
def y18(v:List Int):Bool:=v.all λ x=>decide (x<=maxV)
theorem y6i(v:List Int)(h:v.length < lenMax):yMk v=some (!y18 v,()):=by
 unfold yMk;rw[bifT (yA h),y23 (λ x=>bif decide (x > 100000000)then some (true,())else none) v 0 (λ i e _=>by
  unfold yNJ;cases decide (e > 100000000)<;>rfl)]
 unfold y18 yNB;clear h;induction v with
 |nil=>rfl
 |cons x v ih =>
  rw[findSome?_cons,List.all_cons];by_cases hx:x<=maxV
  ·rw[yA hx,yH (show ¬ x > 100000000 by unfold maxV at hx;omega)]
   exact ih
  ·rw[yH hx,yA (show x > 100000000 by unfold maxV at hx;omega)]
   rfl
def y0G:List Int->List Int->List Int
 |x::v,n::l=>wr (x+n)::y0G v l
 |_,_=>[]
theorem y1u:∀ (v l:List Int),v.length=l.length->(y0G v l).length=v.length
 |[],[],_=>rfl
 |x::v,n::l,h=>by simp[y0G,y1u v l (by simpa using h)]
 |[],_::_,h=>by simp at h
 |_::_,[],h=>by simp at h
theorem y1I{α:Type}(p:List α)(x:α)(r:List α)(i:Int)(hi:i=(p.length:Int)):idx (p++x::r) i=some x:=by
 subst hi;rw[y9i];simp
theorem y41{α:Type}(p:List α)(x y:α)(r:List α)(i:Int)(hi:i=(p.length:Int)):(p++x::r).set i.toNat y=p++y::r:=by
 subst hi;simp
theorem y45{α:Type}(p:List α)(x:α)(r:List α)(i:Int)(hi:i=(p.length:Int)):(p++x::r)[i.toNat]?=some x:=by
 subst hi;simp
theorem yGt(b:Bas)(c:Cnd)(t:List Int):∀ (l rest p:List Int) (i:Int) (fine:Bool),i=(p.length:Int)->rest.length=l.length ->
  yL (λ i__ e__ s__=>yLG b c t i__ e__ s__.1 s__.2) (λ s__=>yIS b c t s__.1 s__.2) i l (fine,p++rest) =
   yIS b c t (fine && y18 (y0G rest l)) (p++y0G rest l)
 |[],[],p,i,fine,_,_=>by
  rw[y3R];simp[y0G,y18]
 |n::l,x::rest,p,i,fine,hi,hl=>by
  have hb:yLG b c t i n fine (p++x::rest)=some (.inr (fine && decide (wr (x+n)<=maxV),p++wr (x+n)::rest)):=by
   unfold yLG;rw[bifT (show (i != -1)=true by simp;omega)]
   rw[y1I p x rest i hi,y45 p x rest i hi];simp only[bind_some];cases fine with
   |true =>
    simp only[cond_true,y41 p x _ rest i hi];rw[y1I p _ rest i hi,y45 p _ rest i hi];rfl
   |false =>
    simp only[cond_false,y41 p x _ rest i hi];rfl
  rw[yg,hb];simp only[bind_some];have ih:=yGt b c t l rest (p++[wr (x+n)]) (i+1) (fine && decide (wr (x+n)<=maxV)) (by simp[hi]) (by simpa using hl)
  rw[show (p++[wr (x+n)])++rest=p++wr (x+n)::rest by simp]at ih
  rw[ih];simp[y0G,y18,Bool.and_assoc]
theorem yBj(b:Bas)(c:Cnd):∀ (m:Nat) (l rest p q:List Int) (i:Int),i=(p.length:Int)->p.length=q.length->c.2.2.1=q++l->rest.length=l.length->m=rest.length ->
  yCE (λ s__=>(List.length s__:Int)) (λ i__ s__=>yGL b c i__ s__) (λ s__=>y8v b c s__) m i (p++rest)=y8v b c (p++y0G rest l)
 |0,l,rest,p,q,i,hi,hq,hc,hl,hm=>by
  have e1:rest=[]:=List.eq_nil_of_length_eq_zero hm.symm;subst e1;unfold yCE;have e2:decide (i < (List.length (p++([]:List Int)):Int))=false:=yH (by simp;omega)
  rw[e2];simp[y0G]
 |m+1,l,rest,p,q,i,hi,hq,hc,hl,hm=>by
  match rest,l,hl,hm with
  |x::rest,n::l,hl,hm =>
   unfold yCE;have e2:decide (i < (List.length (p++x::rest):Int))=true:=yA (by simp;omega)
   rw[e2,cond_true];have hb:yGL b c i (p++x::rest)=some (.inr (p++wr (x+n)::rest)):=by
    unfold yGL;rw[y1I p x rest i hi,y45 p x rest i hi,hc,y1I q n l i (by omega)]
    simp only[bind_some,y41 p x _ rest i hi]
   rw[hb];simp only[bind_some];have ih:=yBj b c m l rest (p++[wr (x+n)]) (q++[n]) (i+1) (by simp[hi]) (by simp[hq]) (by simp[hc]) (by simpa using hl) (by simpa using hm)
   rw[show (p++[wr (x+n)])++rest=p++wr (x+n)::rest by simp]at ih
   rw[ih];simp[y0G]
def y0O(out:List Int)(j n:Int):List Int:=if j=-1 then out else out.set j.toNat (wr (out.getD j.toNat 0+n))
def okAt(out:List Int)(j:Int):Bool:=decide (j=-1) || decide (out.getD j.toNat 0<=maxV)
theorem y0A(out:List Int)(j n:Int):(y0O out j n).length=out.length:=by unfold y0O;split<;>simp
theorem y3B{out:List Int}{j:Int}(h0:0<=j)(h1:j < out.length):idx out j=some (out.getD j.toNat 0)/\out[j.toNat]?=some (out.getD j.toNat 0):=by
 have hj:j.toNat < out.length:=by omega
 have h2:out[j.toNat]?=some (out.getD j.toNat 0):=by simp[List.getD,getElem?_eq_getElem hj]
 refine ⟨?_,h2⟩;unfold idx;rw[if_pos h0];exact h2
def atL(x:Lnk):Int:=if x.2.1=-1 then x.2.2.1 else x.2.1
noncomputable def fl(b:Bas)(c:Cnd)(x:Lnk)(out:List Int):Int:=y6d x (out.getD (atL x).toNat 0) (b.1.getD (atL x).toNat ([],0,0,())).2.1 c.1 c.2.1
noncomputable def mv(b:Bas)(c:Cnd)(x:Lnk)(out:List Int):List Int:=y0O (y0O out x.2.1 (wr (0 - fl b c x out))) x.2.2.1 (fl b c x out)
noncomputable def okL(b:Bas)(c:Cnd)(x:Lnk)(out:List Int):Bool:=okAt (y0O out x.2.1 (wr (0 - fl b c x out))) x.2.1 && okAt (mv b c x out) x.2.2.1
theorem yON(x:Lnk):(zu (x.1,x.2.1,x.2.2.1,x.2.2.2.1,x.2.2.2.2.1,())).1=atL x:=by
 unfold zu atL;simp only;by_cases h:x.2.1=-1
 ·rw[bifT (show (x.2.1 == -1)=true by simpa using h),if_pos h]
 ·rw[bifF (show (x.2.1 == -1)=false by simpa using h),if_neg h]
theorem yGH{x:Lnk}{N:Nat}(h:LinkOK x N):0<=atL x/\atL x < N:=by
 have h1:=h.from_;have h2:=h.to_;have h3:=h.some_;unfold atL;split<;>omega
theorem yKt(b:Bas)(c:Cnd)(all:List (List UInt8×yPW.den))(t:List Lnk)(i:Int)(fs:List Int)(x:Lnk){N:Nat}(hx:LinkOK x N)(f:Int)(fine:Bool)(out:List Int)(hN:out.length=N)(hfs:fs.length+1<=memMax) :
  y3d b c all t i fs x (f,()) fine out=some (.inr (fine && okAt (y0O out x.2.2.1 f) x.2.2.1,fs++[f],y0O out x.2.2.1 f)):=by
 unfold y3d;have hd:decide (fs.length+1<=memMax)=true:=yA hfs;by_cases ht:x.2.2.1=-1
 ·rw[bifF (show (x.2.2.1 != -1)=false by simpa using ht),bifT hd]
  unfold y0O okAt;rw[if_pos ht,yA ht];simp
 ·rw[bifT (show (x.2.2.1 != -1)=true by simpa using ht)]
  have hto:0<=x.2.2.1/\x.2.2.1 < (out.length:Int):=by
   rcases hx.to_ with h|h
   ·exact absurd h ht
   ·rw[hN];exact h
  obtain ⟨e1,e2⟩:=y3B hto.1 hto.2;rw[e1,e2];simp only[bind_some];have ea:y0O out x.2.2.1 f=out.set x.2.2.1.toNat (wr (out.getD x.2.2.1.toNat 0+f)):=by unfold y0O;rw[if_neg ht]
  have hto2:0<=x.2.2.1/\x.2.2.1 < ((y0O out x.2.2.1 f).length:Int):=by rw[y0A];exact hto
  obtain ⟨g1,g2⟩:=y3B hto2.1 hto2.2;rw[ea]at g1 g2;cases fine with
  |true =>
   simp only[cond_true];rw[g1,g2];simp only[bind_some];rw[bifT hd];unfold okAt;rw[yH ht,ea];rfl
  |false =>
   simp only[cond_false];rw[bifT hd,ea];rfl
theorem yAm(b:Bas)(c:Cnd)(t:List Lnk)(i:Int)(x:Lnk)(hx:LinkOK x b.1.length)(fine:Bool)(fs out:List Int)(hN:out.length=b.1.length)(hfs:fs.length+1<=memMax) :
  yDb b c z0S.1 t i x fine fs out=some (.inr (fine && okL b c x out,fs++[fl b c x out],mv b c x out)):=by
 have hat:=yGH hx;have e0:yDb b c z0S.1 t i x fine fs out =
   ((idx out (zu (x.1,x.2.1,x.2.2.1,x.2.2.2.1,x.2.2.2.2.1,())).1).bind λ v14=>(out[(zu (x.1,x.2.1,x.2.2.1,x.2.2.2.1,x.2.2.2.2.1,())).1.toNat]?).bind λ v15 =>
    (idx b.1 (zu (x.1,x.2.1,x.2.2.1,x.2.2.2.1,x.2.2.2.2.1,())).1).bind λ v16=>(yKB x.1 ((x,v15,v16.2.1,c.1,c.2.1,()),())).bind λ v17 =>
     bif x.2.1 != -1 then (idx out x.2.1).bind λ v18=>(out[x.2.1.toNat]?).bind λ v19=>(idx out x.2.1).bind λ v20=>(out[x.2.1.toNat]?).bind λ v21 =>
      bif fine then (idx (out.set x.2.1.toNat (wr (v19+wr (0 - v17.1)))) x.2.1).bind λ v22=>((out.set x.2.1.toNat (wr (v19+wr (0 - v17.1))))[x.2.1.toNat]?).bind λ v23 =>
       y3d b c z0S.1 t i fs x v17 (decide (v23<=100000000)) (out.set x.2.1.toNat (wr (v19+wr (0 - v17.1))))
      else y3d b c z0S.1 t i fs x v17 false (out.set x.2.1.toNat (wr (v19+wr (0 - v17.1))))
     else y3d b c z0S.1 t i fs x v17 fine out):=rfl
 rw[e0,yON];obtain ⟨e1,e2⟩:=y3B (out:=out) hat.1 (by rw[hN];exact hat.2)
 have e3:idx b.1 (atL x)=some (b.1.getD (atL x).toNat ([],0,0,())):=by
  unfold idx;rw[if_pos hat.1];have:(atL x).toNat < b.1.length:=by omega
  simp[List.getD,getElem?_eq_getElem this]
 rw[e1,e2,e3];simp only[bind_some];rw[yHp hx.kind (by have:=hx.rate;omega)]
 simp only[bind_some];show (bif x.2.1 != -1 then _ else y3d b c z0S.1 t i fs x (fl b c x out,()) fine out)=_
 change (bif x.2.1 != -1 then (idx out x.2.1).bind λ v18=>(out[x.2.1.toNat]?).bind λ v19=>(idx out x.2.1).bind λ v20=>(out[x.2.1.toNat]?).bind λ v21 =>
      bif fine then (idx (out.set x.2.1.toNat (wr (v19+wr (0 - fl b c x out)))) x.2.1).bind λ v22=>((out.set x.2.1.toNat (wr (v19+wr (0 - fl b c x out))))[x.2.1.toNat]?).bind λ v23 =>
       y3d b c z0S.1 t i fs x (fl b c x out,()) (decide (v23<=100000000)) (out.set x.2.1.toNat (wr (v19+wr (0 - fl b c x out))))
      else y3d b c z0S.1 t i fs x (fl b c x out,()) false (out.set x.2.1.toNat (wr (v19+wr (0 - fl b c x out))))
     else y3d b c z0S.1 t i fs x (fl b c x out,()) fine out)=_
 by_cases hf:x.2.1=-1
 ·rw[bifF (show (x.2.1 != -1)=false by simpa using hf),yKt b c _ t i fs x hx _ fine out hN hfs]
  unfold okL mv;have e5:∀ n,y0O out x.2.1 n=out:=λ n=>by unfold y0O;rw[if_pos hf]
  have e6:okAt out x.2.1=true:=by unfold okAt;rw[yA hf];rfl
  rw[e5,e6,Bool.true_and]
 ·rw[bifT (show (x.2.1 != -1)=true by simpa using hf)]
  have hfr:0<=x.2.1/\x.2.1 < (out.length:Int):=by
   rcases hx.from_ with h|h
   ·exact absurd h hf
   ·rw[hN];exact h
  obtain ⟨g1,g2⟩:=y3B hfr.1 hfr.2;rw[g1,g2];simp only[bind_some];have ea:y0O out x.2.1 (wr (0 - fl b c x out))=out.set x.2.1.toNat (wr (out.getD x.2.1.toNat 0+wr (0 - fl b c x out))):=by unfold y0O;rw[if_neg hf]
  have hfr2:0<=x.2.1/\x.2.1 < ((y0O out x.2.1 (wr (0 - fl b c x out))).length:Int):=by rw[y0A];exact hfr
  obtain ⟨k1,k2⟩:=y3B hfr2.1 hfr2.2;rw[<- ea];cases fine with
  |true =>
   simp only[cond_true];rw[k1,k2];simp only[bind_some];rw[yKt b c _ t i fs x hx _ _ _ (by rw[y0A];exact hN) hfs]
   unfold okL mv;have e6:okAt (y0O out x.2.1 (wr (0 - fl b c x out))) x.2.1=decide ((y0O out x.2.1 (wr (0 - fl b c x out))).getD x.2.1.toNat 0<=100000000):=by unfold okAt;rw[yH hf];rfl
   rw[e6,Bool.true_and]
  |false =>
   simp only[cond_false];rw[yKt b c _ t i fs x hx _ _ _ (by rw[y0A];exact hN) hfs]
   simp[mv]
end Go.Tw
end
section
set_option maxRecDepth 100000
namespace Go.Tw
open Go.Vx Go.Vx.B Go.Proofs
theorem yD5{out:List Int}{j n:Int}(h:j=-1):y0O out j n=out:=by unfold y0O;rw[if_pos h]
theorem yAp{out:List Int}{j n:Int}(h:¬ j=-1):y0O out j n=out.set j.toNat (wr (out.getD j.toNat 0+n)):=by unfold y0O;rw[if_neg h]
theorem yFc{v:List Int}{i:Nat}(h:i < v.length):v[i]?=some (v.getD i 0):=by simp[List.getD,getElem?_eq_getElem h]
theorem y9D{v:List Int}(h:y18 v=true){i:Nat}{x:Int}(hi:v[i]?=some x):x<=maxV:=by
 have:=List.all_eq_true.1 h x (List.mem_of_getElem? hi);simpa using this
theorem yMV{v:List Int}(h:∀ (i:Nat) (x:Int),v[i]?=some x->x<=maxV):y18 v=true:=by
 unfold y18;rw[List.all_eq_true];intro x hx;obtain ⟨i,hi,rfl⟩:=List.getElem_of_mem hx;exact decide_eq_true (h i _ (getElem?_eq_getElem hi))
theorem y8p{out:List Int}(h:y18 out=true)(j n:Int)(hj:j=-1\/(0<=j/\j < out.length)):y18 (y0O out j n)=okAt (y0O out j n) j:=by
 unfold okAt;by_cases hm:j=-1
 ·rw[yA hm,Bool.true_or];unfold y0O;rw[if_pos hm];exact h
 ·rw[yH hm,Bool.false_or];have hj:=hj.resolve_left hm;have hl:j.toNat < out.length:=by omega
  have e:y0O out j n=out.set j.toNat (wr (out.getD j.toNat 0+n)):=by unfold y0O;rw[if_neg hm]
  have e2:(y0O out j n).getD j.toNat 0=wr (out.getD j.toNat 0+n):=by
   rw[e];simp[List.getD,hl]
  rw[e2];by_cases hw:wr (out.getD j.toNat 0+n)<=maxV
  ·rw[yA hw];refine yMV λ i x hi=>?_
   rw[e,List.getElem?_set]at hi;split at hi
   ·cases hi;exact hw
   ·exact y9D h hi
  ·rw[yH hw];rw[eq_false_iff];intro hf;exact hw (y9D hf (i:=j.toNat) (by rw[e];simp[hl]))
theorem yMP(b:Bas)(c:Cnd){x:Lnk}{N:Nat}(hx:LinkOK x N){out:List Int}(hN:out.length=N)(h:y18 out=true):y18 (mv b c x out)=okL b c x out:=by
 unfold okL;have hfr:x.2.1=-1\/(0<=x.2.1/\x.2.1 < (out.length:Int)):=by rw[hN];exact hx.from_
 have hto:x.2.2.1=-1\/(0<=x.2.2.1/\x.2.2.1 < ((y0O out x.2.1 (wr (0 - fl b c x out))).length:Int)):=by rw[y0A,hN];exact hx.to_
 have h1:=y8p h x.2.1 (wr (0 - fl b c x out)) hfr;cases ho:okAt (y0O out x.2.1 (wr (0 - fl b c x out))) x.2.1 with
 |true =>
  rw[Bool.true_and];exact y8p (h1.trans ho) x.2.2.1 (fl b c x out) hto
 |false =>
  rw[Bool.false_and,eq_false_iff];intro hf;unfold okAt at ho;rw[Bool.or_eq_false_iff]at ho;have hm:¬ x.2.1=-1:=of_decide_eq_false ho.1;have hj:=hfr.resolve_left hm;have hw:=of_decide_eq_false ho.2;apply hw;refine y9D hf (i:=x.2.1.toNat) ?_
  have hl:x.2.1.toNat < (y0O out x.2.1 (wr (0 - fl b c x out))).length:=by rw[y0A];omega
  unfold mv;by_cases ht:x.2.2.1=-1
  ·rw[yD5 ht];exact yFc hl
  ·have ht2:=hto.resolve_left ht;have hne:x.2.2.1.toNat≠x.2.1.toNat:=by have:=hx.ne;omega
   rw[yAp ht,List.getElem?_set_ne hne];exact yFc hl
theorem y2v(b:Bas)(c:Cnd)(x:Lnk)(out:List Int):(mv b c x out).length=out.length:=by unfold mv;rw[y0A,y0A]
theorem yAI(b:Bas)(c:Cnd)(i:Int)(x:Lnk)(hx:LinkOK x b.1.length)(hN8:b.1.length<=8)(fs out:List Int)(hN:out.length=b.1.length)(hfs:fs.length+1<=memMax) :
  yGF b c i x out fs=some (bif y18 (mv b c x out)then .inr (mv b c x out,fs++[fl b c x out])else .inl ([],[],4,())):=by
 have hat:=yGH hx;unfold yGF;obtain ⟨e1,e2⟩:=y3B (out:=out) hat.1 (by rw[hN];exact hat.2)
 have e3:idx b.1 (atL x)=some (b.1.getD (atL x).toNat ([],0,0,())):=by
  unfold idx;rw[if_pos hat.1];have:(atL x).toNat < b.1.length:=by omega
  simp[List.getD,getElem?_eq_getElem this]
 have hj:(if x.2.1 < 0 then x.2.2.1 else x.2.1)=atL x:=by
  unfold atL;have:=hx.from_;by_cases hm:x.2.1=-1
  ·rw[if_pos hm,if_pos (by omega)]
  ·rw[if_neg hm,if_neg (by omega)]
 have hr:=hx.rate;rw[show yIW b out c (x.fst,x.snd.fst,x.snd.snd.fst,x.snd.snd.snd.fst,x.snd.snd.snd.snd.fst,())=yIW b out c x from rfl,yMK hx.kind (by omega) b out c _ _ _ hj e3 e1]
 simp only[bind_some];change (bif decide (x.2.1 >= 0)then (idx out x.2.1).bind λ v10=>(out[x.2.1.toNat]?).bind λ v11=>(idx out x.2.1).bind λ v12=>(out[x.2.1.toNat]?).bind λ v13=>y6x b c i fs x (fl b c x out,()) (out.set x.2.1.toNat (wr (v11 - fl b c x out)))else y6x b c i fs x (fl b c x out,()) out)=_
 have hfr:x.2.1=-1\/(0<=x.2.1/\x.2.1 < (out.length:Int)):=by rw[hN];exact hx.from_
 have s22:y6x b c i fs x (fl b c x out,()) (y0O out x.2.1 (wr (0 - fl b c x out)))=some (bif y18 (mv b c x out)then .inr (mv b c x out,fs++[fl b c x out])else .inl ([],[],4,())):=by
  have s21:yCD b c i fs (fl b c x out,()) (mv b c x out)=some (bif y18 (mv b c x out)then .inr (mv b c x out,fs++[fl b c x out])else .inl ([],[],4,())):=by
   unfold yCD;rw[y6i _ (by rw[y2v,hN];unfold lenMax;omega)]
   simp only[bind_some];cases y18 (mv b c x out)with
   |true =>
    simp only[Bool.not_true,cond_false,cond_true];rw[bifT (yA hfs)]
   |false=>rfl
  unfold y6x;have hto:x.2.2.1=-1\/(0<=x.2.2.1/\x.2.2.1 < ((y0O out x.2.1 (wr (0 - fl b c x out))).length:Int)):=by rw[y0A,hN];exact hx.to_
  by_cases ht:x.2.2.1=-1
  ·rw[bifF (yH (show ¬ x.2.2.1 >= 0 by omega))]
   have e:mv b c x out=y0O out x.2.1 (wr (0 - fl b c x out)):=by unfold mv;rw[yD5 ht]
   rw[<- e];exact s21
  ·have ht2:=hto.resolve_left ht;rw[bifT (yA (show x.2.2.1 >= 0 by omega))]
   obtain ⟨g1,g2⟩:=y3B ht2.1 ht2.2;rw[g1,g2];simp only[bind_some];have e:mv b c x out=(y0O out x.2.1 (wr (0 - fl b c x out))).set x.2.2.1.toNat (wr ((y0O out x.2.1 (wr (0 - fl b c x out))).getD x.2.2.1.toNat 0+fl b c x out)):=by unfold mv;rw[yAp ht]
   rw[show (y0O out x.2.1 (wr (0 - fl b c x out))).set x.2.2.1.toNat (IntKind.i64.wrap ((y0O out x.2.1 (wr (0 - fl b c x out))).getD x.2.2.1.toNat 0+fl b c x out))=mv b c x out from e.symm]
   exact s21
 by_cases hf:x.2.1=-1
 ·rw[bifF (yH (show ¬ x.2.1 >= 0 by omega))]
  have e:y0O out x.2.1 (wr (0 - fl b c x out))=out:=by unfold y0O;rw[if_pos hf]
  rw[e]at s22;exact s22
 ·have hf2:=hfr.resolve_left hf;rw[bifT (yA (show x.2.1 >= 0 by omega))]
  obtain ⟨g1,g2⟩:=y3B hf2.1 hf2.2;rw[g1,g2];simp only[bind_some];have e:y0O out x.2.1 (wr (0 - fl b c x out))=out.set x.2.1.toNat (wr (out.getD x.2.1.toNat 0 - fl b c x out)):=by unfold y0O;rw[if_neg hf,yLu]
  rw[e]at s22;exact s22
noncomputable abbrev yK5 (b:Bas) (c:Cnd) (i:Int) (l:List Lnk) (s:Bool×List Int×List Int):Option (List Int×Option (List Int)×Bool×Unit):=
 yL (λ i__ e__ s__=>yDb b c z0S.1 b.2.1 i__ e__ s__.1 s__.2.1 s__.2.2) (λ s__=>yLQ b c z0S.1 b.2.1 s__.1 s__.2.1 s__.2.2) i l s
noncomputable abbrev yKg (b:Bas) (c:Cnd) (i:Int) (l:List Lnk) (s:List Int×List Int):Option (List Int×List Int×Int×Unit):=
 yL (λ i__ e__ s__=>yGF b c i__ e__ s__.1 s__.2) (λ s__=>yNP b c s__.1 s__.2) i l s
theorem y8J(b:Bas)(c:Cnd):∀ (l:List Lnk) (i:Int) (fs out:List Int),(∀ x∈l,LinkOK x b.1.length)->out.length=b.1.length->fs.length+l.length<=memMax->∃ fs' out',yK5 b c i l (false,fs,out)=some (fs',some out',false,())
 |[],i,fs,out,_,_,_=>⟨fs,out,rfl⟩
 |x::l,i,fs,out,hx,hN,hl=>by
  simp only[length_cons]at hl;unfold yK5;rw[yg,yAm b c _ i x (hx x (by simp)) false fs out hN (by omega)]
  simp only[bind_some,Bool.false_and];exact y8J b c l (i+1) (fs++[fl b c x out]) (mv b c x out) (λ y hy=>hx y (by simp[hy])) (by rw[y2v];exact hN) (by simp;omega)
theorem yB5(b:Bas)(c:Cnd)(h8:b.1.length<=8):∀ (l:List Lnk) (i i':Int) (fs out:List Int),(∀ x∈l,LinkOK x b.1.length)->out.length=b.1.length->fs.length+l.length<=memMax->y18 out=true ->
  ∃ fs' out',(yKg b c i' l (out,fs)=some (fs',out',0,())/\yK5 b c i l (true,fs,out)=some (fs',some out',true,())/\out'.length=b.1.length/\y18 out'=true) \/
   (yKg b c i' l (out,fs)=some ([],[],4,())/\yK5 b c i l (true,fs,out)=some (fs',some out',false,()))
 |[],i,i',fs,out,_,hN,_,hf=>⟨fs,out,.inl ⟨rfl,rfl,hN,hf⟩⟩
 |x::l,i,i',fs,out,hx,hN,hl,hf=>by
  simp only[length_cons]at hl;have hL:=hx x (by simp)
  unfold yKg yK5;rw[yg,yg,yAI b c i' x hL h8 fs out hN (by omega),yAm b c _ i x hL true fs out hN (by omega)]
  simp only[bind_some,Bool.true_and];have he:=yMP b c hL hN hf;rw[<- he];cases hm:y18 (mv b c x out)with
  |true =>
   simp only[cond_true];exact yB5 b c h8 l (i+1) (i'+1) (fs++[fl b c x out]) (mv b c x out) (λ y hy=>hx y (by simp[hy])) (by rw[y2v];exact hN) (by simp;omega) hm
  |false =>
   simp only[cond_false];obtain ⟨fs',out',h⟩:=y8J b c l (i+1) (fs++[fl b c x out]) (mv b c x out) (λ y hy=>hx y (by simp[hy])) (by rw[y2v];exact hN) (by simp;omega)
   exact ⟨fs',out',.inr ⟨trivial,h⟩⟩
theorem yJ5(b:Bas)(hb:BasOK b)(v:List Int)(c:Cnd)(hv:v.length=b.1.length)(hc:c.2.2.1.length=b.1.length) :
  ∃ fs out,(yA0 b v c=some (fs,out,0,())/\zi_M b v c=some (fs,some out,true,())/\out.length=b.1.length/\y18 out=true) \/
   (yA0 b v c=some ([],[],4,())/\zi_M b v c=some (fs,some out,false,())):=by
 have h8:=hb.nodes;have hl:=hb.links;have hin:(y0G v c.2.2.1).length=b.1.length:=by rw[y1u v _ (by omega)];exact hv
 have hmem:memMax=68719476736:=rfl;have hr:yA0 b v c=y8v b c (y0G v c.2.2.1):=by
  unfold yA0;rw[bifT (yA (show 0+v.length<=memMax by omega)),bifT (yA (show (v.length:Int)<=9223372036854775807 by omega))]
  have:=yBj b c v.length c.2.2.1 v [] [] 0 rfl rfl rfl (by omega) rfl
  rw[nil_append,nil_append]at this;rw[show ((v.length:Int) - 0).toNat=v.length by omega]
  exact this
 have hp:zi_M b v c=yIS b c c.2.2.1 (y18 (y0G v c.2.2.1)) (y0G v c.2.2.1):=by
  unfold zi_M;have e1:(true && decide ((0:Int)<=(v.length:Int)) && decide ((v.length:Int)<=(memMax:Int)) && (v.length:Int) == (v.length:Int))=true:=by
   rw[yA (show (0:Int)<=(v.length:Int) by omega),yA (show (v.length:Int)<=(memMax:Int) by omega)];simp
  rw[bifT e1,bifT (yA (show c.2.2.1.length < lenMax by unfold lenMax;omega))]
  have e2:List.take (List.replicate (v.length:Int).toNat (0:Int)).length v++List.drop v.length (List.replicate (v.length:Int).toNat (0:Int))=v:=by simp
  rw[e2];have:=yGt b c c.2.2.1 c.2.2.1 v [] 0 true rfl (by omega)
  rw[nil_append,nil_append,Bool.true_and]at this;exact this
 rw[hr,hp];have hlm:decide (List.length b.2.1 < lenMax)=true:=yA (by unfold lenMax;omega)
 unfold y8v yIS;rw[y6i _ (by rw[hin];unfold lenMax;omega)]
 simp only[bind_some];rw[bifT hlm];cases hf:y18 (y0G v c.2.2.1)with
 |false =>
  obtain ⟨fs',out',h⟩:=y8J b c b.2.1 0 [] (y0G v c.2.2.1) hb.link hin (by simp;omega)
  exact ⟨fs',out',.inr ⟨rfl,by rw[bifT hlm];exact h⟩⟩
 |true =>
  simp only[Bool.not_true,cond_false];rw[bifT hlm];exact yB5 b c h8 b.2.1 0 0 [] (y0G v c.2.2.1) hb.link hin (by simp;omega) hf
end Go.Tw
end
section
set_option maxRecDepth 100000
namespace Go.Tw
open Go.Vx Go.Vx.B Go.Proofs
def lvls:List Int->List Nod->List Int
 |x::v,n::l=>wr (x.tdiv n.2.1)::lvls v l
 |_,_=>[]
theorem y8c:∀ (v:List Int) (l:List Nod),v.length=l.length->(lvls v l).length=v.length
 |[],[],_=>rfl
 |x::v,n::l,h=>by simp[lvls,y8c v l (by simpa using h)]
 |[],_::_,h=>by simp at h
 |_::_,[],h=>by simp at h
theorem y76(b:Bas)(v0:List Int):∀ (v:List Int) (l pn:List Nod) (i:Int) (s:List Int),b.1=pn++l->i=(pn.length:Int)->v.length=l.length->(∀ n∈b.1,n.2.1≠0)->s.length+v.length<=memMax ->
  yL (λ i__ e__ s__=>yGK v0 b i__ e__ s__) (λ s__=>yJL v0 b s__) i v s=some (s++lvls v l,())
 |[],[],pn,i,s,_,_,_,_,_=>by rw[y3R];simp[yJL,lvls]
 |x::v,n::l,pn,i,s,hb,hi,hl,hn,hs=>by
  simp only[length_cons]at hs;have hbody:yGK v0 b i x s=some (.inr (s++[wr (x.tdiv n.2.1)])):=by
   unfold yGK;rw[hb,y1I pn n l i hi];simp only[bind_some];rw[bifF (beq_eq_false_iff_ne.2 (hn n (by rw[hb];simp))),bifT (yA (show s.length+1<=memMax by omega))]
  rw[yg,hbody];simp only[bind_some];rw[y76 b v0 v l (pn++[n]) (i+1) (s++[wr (x.tdiv n.2.1)]) (by rw[hb];simp) (by simp[hi]) (by simpa using hl) hn (by simp;omega)]
  simp[lvls]
 |[],_::_,_,_,_,_,_,h,_,_=>by simp at h
 |_::_,[],_,_,_,_,_,h,_,_=>by simp at h
theorem yI0(b:Bas)(hb:BasOK b)(v:List Int)(hv:v.length=b.1.length):yOc b v=some (lvls v b.1,()):=by
 have h8:=hb.nodes;have hmem:memMax=68719476736:=rfl;unfold yOc;rw[bifT (yA (show v.length < lenMax by unfold lenMax;omega)),y76 b v v b.1 [] 0 [] rfl rfl hv (λ n hn=>by have:=(hb.area n hn).1;omega) (by simp;omega)]
 rfl
theorem yC6{α β:Type}{p:α->Option β}{l:List α}(h:l.findSome? p=none):∀ e∈l,p e=none:=List.findSome?_eq_none_iff.1 h
theorem yGC(b:Bas)(hn:b.1.length < lenMax)(hl:b.2.1.length < lenMax):∃ s,yDH b=some (s,())/\(s=true->∀ n∈b.1,n.1.length<=60):=by
 unfold yDH;rw[bifT (yA hn),y23 (λ n=>bif decide ((n.1.length:Int) > 60)then some (false,())else none) b.1 0 (λ i e _=>by
  unfold yId;cases decide ((e.1.length:Int) > 60)<;>rfl)]
 cases hf:b.1.findSome? (λ n=>bif decide ((n.1.length:Int) > 60)then some (false,())else none)with
 |some y =>
  obtain ⟨n,_,hy⟩:=List.exists_of_findSome?_eq_some hf;cases hd:decide ((n.1.length:Int) > 60)with
  |true=>rw[hd]at hy;cases hy;exact ⟨false,rfl,by simp⟩
  |false=>rw[hd]at hy;cases hy
 |none =>
  have hall:∀ n∈b.1,n.1.length<=60:=λ n hn=>by
   have:=yC6 hf n hn;by_cases hd:(n.1.length:Int) > 60
   ·rw[yA hd]at this;cases this
   ·omega
  show ∃ s,yG9 b=some (s,())/\_
  unfold yG9;rw[bifT (yA hl),y23 (λ n=>bif decide ((n.1.length:Int) > 60)then some (false,())else none) b.2.1 0 (λ i e _=>by
   unfold yJD;cases decide ((e.1.length:Int) > 60)<;>rfl)]
  cases hg:b.2.1.findSome? (λ n=>bif decide ((n.1.length:Int) > 60)then some (false,())else none)with
  |some y =>
   obtain ⟨n,_,hy⟩:=List.exists_of_findSome?_eq_some hg;cases hd:decide ((n.1.length:Int) > 60)with
   |true=>rw[hd]at hy;cases hy;exact ⟨false,rfl,by simp⟩
   |false=>rw[hd]at hy;cases hy
  |none=>exact ⟨true,rfl,λ _=>hall⟩
theorem yMr(b:Bas):∃ s,yIs b=some (s,())/\(s=true->b.1.length<=9/\b.2.1.length<=17/\∀ n∈b.1,n.1.length<=60):=by
 unfold yIs;by_cases h9:b.1.length<=9
 ·rw[bifF (yH (show ¬ (b.1.length:Int) > 9 by omega))]
  by_cases h8:b.2.1.length<=8
  ·rw[bifF (yH (show ¬ (b.2.1.length:Int) > 8 by omega))]
   obtain ⟨s,h1,h2⟩:=yGC b (by unfold lenMax;omega) (by unfold lenMax;omega)
   exact ⟨s,h1,λ hs=>⟨h9,by omega,h2 hs⟩⟩
  ·rw[bifT (yA (show (b.2.1.length:Int) > 8 by omega))]
   by_cases h17:b.2.1.length=17
   ·rw[bifF (show ((b.2.1.length:Int) != 17)=false by simp[h17])]
    obtain ⟨s,h1,h2⟩:=yGC b (by unfold lenMax;omega) (by unfold lenMax;omega)
    exact ⟨s,h1,λ hs=>⟨h9,by omega,h2 hs⟩⟩
   ·rw[bifT (show ((b.2.1.length:Int) != 17)=true by simp;omega)]
    exact ⟨false,rfl,by simp⟩
 ·rw[bifT (yA (show (b.1.length:Int) > 9 by omega))]
  exact ⟨false,rfl,by simp⟩
theorem y85(b:Bas)(h1:b.1.length<=memMax)(h2:b.2.1.length<=memMax):y6v b=some (b,()):=by
 have hm:=y0i;unfold y6v;rw[bifT (yA (show b.1.length < lenMax by omega)),y0k (λ n=>n) b.1 0 [] (by simpa using h1) (λ i e s _ hs=>by
  unfold yIh;rw[bifT (yA hs)])]
 simp only[List.map_id_fun',id_eq,nil_append];unfold yLC;rw[bifT (yA (show b.2.1.length < lenMax by omega)),y0k (λ n=>n) b.2.1 0 [] (by simpa using h2) (λ i e s _ hs=>by
  unfold yK4;rw[bifT (yA hs)])]
 simp only[List.map_id_fun',id_eq,nil_append];rfl
theorem y5C:y2x=some (true,()):=by kernel_rfl
end Go.Tw
end
