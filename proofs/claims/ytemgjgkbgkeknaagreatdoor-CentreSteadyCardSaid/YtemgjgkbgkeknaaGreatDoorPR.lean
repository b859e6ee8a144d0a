import Derived.Test.YtemgjgkbgkeknaaGreatDoorPQ
import Derived.Test.YtemgjgkbgkeknaaGreatDoorBA
import Derived.Test.YtemgjgkbgkeknaaGreatDoorBD
set_option linter.all false
open List (all_cons findSome?_cons length_cons length_nil)
open Option (bind_some)
section
set_option maxRecDepth 100000
namespace Go.Tw
open Go.Vx Go.Vx.B Go.Proofs
section
variable {α β γ σ:Type}
theorem y1A{body:Int->α->σ->Option (β⊕σ)}{fin:σ->Option β}{i:Int}{s:σ}:yR body fin i [] s=fin s:=rfl
theorem yZ{body:Int->α->σ->Option (β⊕σ)}{fin:σ->Option β}{i:Int}{e:α}{l:List α}{s:σ}:yR body fin i (e::l) s=(body i e s).bind λ z=>match z with
  |.inl y=>some y
  |.inr s'=>yR body fin (i+1) l s':=rfl
theorem y2O{body:Int->α->Unit->Option (β⊕Unit)}{fin:Unit->Option β}(p:α->Option β) :
  ∀ (l:List α) (i:Int),(∀ i e,e∈l->body i e ()=some (match p e with|some y=>.inl y|none=>.inr ()))->yR body fin i l ()=match l.findSome? p with|some y=>some y|none=>fin ()
 |[],i,_=>rfl
 |e::l,i,h=>by
  rw[yZ,h i e (by simp),findSome?_cons]
  cases p e with
  |none=>exact y2O p l (i+1) λ i e he=>h i e (by simp[he])
  |some y=>rfl
theorem y49{body:Int->α->List γ->Option (β⊕List γ)}{fin:List γ->Option β}(f:α->γ) :
  ∀ (l:List α) (i:Int) (s:List γ),s.length+l.length<=memMax->(∀ i e s,e∈l->s.length+1<=memMax->body i e s=some (.inr (s++[f e])))->yR body fin i l s=fin (s++l.map f)
 |[],i,s,_,_=>by simp[y1A]
 |e::l,i,s,hl,h=>by
  simp only[length_cons]at hl;rw[yZ,h i e s (by simp) (by omega)]
  simp only[bind_some];rw[y49 f l (i+1) (s++[f e]) (by simp;omega) λ i e s he hs=>h i e s (by simp[he]) hs]
  simp
end
theorem y4{p:Prop}[Decidable p](h:p):decide p=true:=decide_eq_true h
theorem y5{p:Prop}[Decidable p](h:¬ p):decide p=false:=decide_eq_false h
theorem bifT{α:Type}{c:Bool}{a b:α}(h:c=true):(bif c then a else b)=a:=by rw[h];rfl
theorem bifF{α:Type}{c:Bool}{a b:α}(h:c=false):(bif c then a else b)=b:=by rw[h];rfl
def ckR(n lo hi:Int):Int:=if n < lo\/hi < n then 3 else 0
def y8x(l:List Int):Int:=(l.find? (· != 0)).getD 0
theorem y0l(c:Bool)(e:Int):z0a c e=(bif c then e else 0,()):=by
 unfold z0a;cases c<;>rfl
theorem y5r(n lo hi:Int):z0E n lo hi=(ckR n lo hi,()):=by
 unfold z0E ckR;by_cases h1:n < lo
 ·rw[bifT (y4 h1),y0l,cond_true,if_pos (.inl h1)]
 ·rw[bifF (y5 h1),y0l];by_cases h2:n > hi
  ·rw[y4 h2,cond_true,if_pos (.inr h2)]
  ·rw[y5 h2,cond_false,if_neg (by omega)]
theorem yHU(l:List Int):l.findSome? (λ e=>if e != 0 then some (e,())else none)=(l.find? (· != 0)).map λ e=>(e,()):=by
 induction l with
 |nil=>rfl
 |cons e l ih =>
  rw[findSome?_cons,List.find?_cons];cases he:(e != 0)with
  |true=>rfl
  |false=>simpa using ih
theorem y4T(l:List Int)(h:l.length < yB):y15 l=some (y8x l,()):=by
 unfold y15;rw[bifT (y4 h),y2O (λ e=>if e != 0 then some (e,())else none) l 0 (λ i e _=>by
  unfold yJ8;cases he:(e != 0)<;>rfl),yHU]
 unfold y8x yI1;cases l.find? (· != 0)<;>rfl
theorem y00{α:Type}(l:List α)(i:Nat):idx l (i:Int)=l[i]?:=by
 unfold idx;rw[if_pos (Int.natCast_nonneg i)];rfl
theorem y9a:∀ (s0 s:List UInt8) (i:Int),0<=i->yR (λ i__ e__ s__=>yCq s0 i__ e__) (λ s__=>yJz s0) i s ()=some (nmOk (decide (i=0)) s,())
  |s0,[],i,_=>rfl
  |s0,c::l,i,hi=>by
    rw[yZ];have ih:=y9a s0 l (i+1) (by omega)
    have e0:decide (i+1=0)=false:=y5 (by omega)
    rw[e0]at ih;unfold nmOk;have hb:yCq s0 i c=some (if (y5B c.toNat || (!decide (i=0) && y7q c.toNat))=true then .inr ()else .inl (false,())):=by
      unfold yCq y6S y5B y7q;have g3:(i == 0)=decide (i=0):=by by_cases h:i=0<;>simp[h]
      have g4:((c.toNat:Int) != 95)=!decide ((c.toNat:Int)=95):=by by_cases h:(c.toNat:Int)=95<;>simp[h]
      rw[g3,g4];by_cases h1:(97:Int)<=c.toNat<;>by_cases h2:(c.toNat:Int)<=122<;>by_cases h3:(65:Int)<=c.toNat<;>by_cases h4:(c.toNat:Int)<=90<;>by_cases h5:(c.toNat:Int) < 48<;>by_cases h6:(c.toNat:Int) > 57<;>by_cases h7:(c.toNat:Int)=95<;>by_cases h8:i=0 <;>
        first
        | omega
        | (have g1:(decide (65<=c.toNat/\c.toNat<=90\/97<=c.toNat/\c.toNat<=122))=decide ((65:Int)<=c.toNat/\(c.toNat:Int)<=90\/(97:Int)<=c.toNat/\(c.toNat:Int)<=122):=by
            apply decide_eq_decide.2;omega
           have g2:(decide (48<=c.toNat/\c.toNat<=57\/c.toNat=95))=decide (¬ (c.toNat:Int) < 48/\¬ (c.toNat:Int) > 57\/(c.toNat:Int)=95):=by
            apply decide_eq_decide.2;omega
           rw[g1,g2];simp[h1,h2,h3,h4,h5,h6,h7,h8])
    rw[hb];simp only[bind_some];by_cases hc:(y5B c.toNat || (!decide (i=0) && y7q c.toNat))=true
    · rw[if_pos hc,hc,Bool.true_and];exact ih
    · rw[if_neg hc,Bool.eq_false_iff.2 hc];rfl
theorem yLW(s:List UInt8):yIQ s=some (isNm s,()):=by
 unfold yIQ isNm;by_cases h0:s.length=0
 ·have:((s.length:Int) == 0)=true:=by simp[h0]
  rw[bifT this,show decide (0 < s.length/\s.length<=24)=false from y5 (by omega),Bool.and_false]
 ·have:((s.length:Int) == 0)=false:=by simpa using h0
  rw[bifF this];by_cases h1:24 < s.length
  ·rw[bifT (y4 (by omega)),show decide (0 < s.length/\s.length<=24)=false from y5 (by omega),Bool.and_false]
  ·rw[bifF (y5 (show ¬ ((s.length:Int) > 24) by omega)),bifT (y4 (show s.length < yB by unfold yB;omega)),y9a s s 0 (by omega),y4 rfl]
   rw[show decide (0 < s.length/\s.length<=24)=true from y4 ⟨by omega,by omega⟩,Bool.and_true]
theorem yMO{bs:List UInt8}{i:Nat}{c:UInt8}(h:bs[i]?=some c):(⟨bs.toArray⟩:ByteArray).get! i=c:=by
 show bs.toArray[i]! = c
 rw[getElem!_def];simp[h]
theorem yGo{bs:List UInt8}{i:Nat}{c:UInt8}(h:bs[i]?=some c)(hc:c.toNat < 128):yf bs (i:Int)=((c.toNat:Int),(i:Int)+1):=by
 unfold yf Utf8.decode;have h0:(⟨bs.toArray⟩:ByteArray).get! ((i:Int).toNat+0)=c:=by rw[Int.toNat_natCast,Nat.add_zero];exact yMO h
 simp only[h0];rw[if_pos hc];rfl
theorem yKS{bs:List UInt8}{i:Nat}{c:UInt8}(h:bs[i]?=some c)(hc:128<=c.toNat):128<=(yf bs (i:Int)).1:=by
 unfold yf Utf8.decode;have h0:(⟨bs.toArray⟩:ByteArray).get! ((i:Int).toNat+0)=c:=by rw[Int.toNat_natCast,Nat.add_zero];exact yMO h
 simp only[h0];rw[if_neg (by omega)]
 have he:Utf8.runeError=65533:=rfl;split
 ·split
  ·rename_i h2;show (128:Int)<=((_:Nat):Int);omega
  ·rw[he];decide
 ·split
  ·split
   ·rename_i h2;simp only[Bool.and_eq_true,decide_eq_true_eq]at h2;show (128:Int)<=((_:Nat):Int);omega
   ·rw[he];decide
  ·split
   ·split
    ·rename_i h2;simp only[Bool.and_eq_true,decide_eq_true_eq]at h2;show (128:Int)<=((_:Nat):Int);omega
    ·rw[he];decide
   ·rw[he];decide
def yBF(r:Int):Bool:=decide (65<=r/\r<=90\/97<=r/\r<=122)
def yEw(r:Int):Bool:=decide (48<=r/\r<=57\/r=95)
theorem yGb(s str:List UInt8)(pos:Int):yD6 s str pos=some (if (yBF (yf str pos).1 || (!decide (pos=0) && yEw (yf str pos).1))=true then .inr ()else .inl (false,())):=by
 unfold yD6 y5I y7y yBF yEw;generalize (yf str pos).1=r;have g3:(pos == 0)=decide (pos=0):=by by_cases h:pos=0<;>simp[h]
 have g4:(r == 95)=decide (r=95):=by by_cases h:r=95<;>simp[h]
 rw[g3,g4];by_cases h1:r >= 97<;>by_cases h2:r<=122<;>by_cases h3:r >= 65<;>by_cases h4:r<=90<;>by_cases h5:r >= 48<;>by_cases h6:r<=57<;>by_cases h7:r=95<;>by_cases h8:pos=0 <;>
  first
  | omega
  | simp[h1,h2,h3,h4,h5,h6,h7,h8]
theorem yA0(s:List UInt8):∀ (m i:Nat),s.length<=i+m->i<=s.length ->
  y98 s (λ i__ s__=>yD6 s s i__) (λ s__=>yCg s s) m (i:Int) ()=bif nmOk (decide (i=0)) (s.drop i)then yCg s s else some (false,())
 |m,i,hm,hi=>by
  by_cases hl:i=s.length
  ·have e1:s.drop i=[]:=List.drop_eq_nil_of_le (by omega)
   have e2:decide ((i:Int) < (s.length:Int))=false:=y5 (by omega)
   rw[e1];cases m<;>(unfold y98;rw[bifF e2];rfl)
  ·have hlt:i < s.length:=by omega
   obtain ⟨m,rfl⟩:∃ k,m=k+1:=⟨m - 1,by omega⟩
   have hd:s.drop i=s[i]::s.drop (i+1):=(List.getElem_cons_drop (h:=hlt)).symm;have hg:s[i]?=some s[i]:=List.getElem?_eq_getElem hlt;have e0:decide ((i:Int)=0)=decide (i=0):=decide_eq_decide.2 (by omega)
   unfold y98;rw[bifT (y4 (show (i:Int) < (s.length:Int) by omega)),yGb,hd,e0]
   simp only[bind_some];by_cases hc:s[i].toNat < 128
   ·rw[yGo hg hc];have e1:yBF (s[i].toNat:Int)=y5B s[i].toNat:=decide_eq_decide.2 (by omega)
    have e2:yEw (s[i].toNat:Int)=y7q s[i].toNat:=decide_eq_decide.2 (by omega)
    simp only[e1,e2,nmOk];by_cases hb:(y5B s[i].toNat || (!decide (i=0) && y7q s[i].toNat))=true
    ·rw[if_pos hb,hb,Bool.true_and];have ih:=yA0 s m (i+1) (by omega) (by omega)
     have e3:decide (i+1=0)=false:=y5 (by omega)
     rw[e3,show ((i+1:Nat):Int)=(i:Int)+1 by omega]at ih
     exact ih
    ·rw[if_neg hb,Bool.eq_false_iff.2 hb,Bool.false_and];rfl
   ·have h1:=yKS hg (by omega)
    have e1:yBF (yf s (i:Int)).1=false:=y5 (by omega)
    have e2:yEw (yf s (i:Int)).1=false:=y5 (by omega)
    have e3:y5B s[i].toNat=false:=y5 (by omega)
    have e4:y7q s[i].toNat=false:=y5 (by omega)
    simp[e1,e2,nmOk,e3,e4]
theorem yLw(s:List UInt8)(h:s.length < yB):yIl s=some (isNm s,()):=by
 unfold yIl;have:=yA0 s s.length 0 (by omega) (by omega)
 rw[List.drop_zero,show decide (0=0)=true from rfl]at this
 rw[bifT (y4 h)];refine (show _=_ from this).trans ?_
 unfold isNm yCg;cases hn:nmOk true s with
 |false=>rfl
 |true =>
  rw[cond_true,Bool.true_and];cases s with
  |nil=>rfl
  |cons c l =>
   have e:decide (((c::l).length:Int)<=24)=decide (0 < (c::l).length/\(c::l).length<=24):=decide_eq_decide.2 (by simp only[length_cons];omega)
   rw[<- e];rfl
def yp(a b:Int):Int:=if a != 0 then a else b
theorem y6K:y8x []=0:=rfl
theorem y0R(a:Int)(l:List Int):y8x (a::l)=yp a (y8x l):=by
 unfold y8x yp;rw[List.find?_cons];cases h:(a != 0)<;>rfl
theorem y4Q(a:Int):yp a 0=a:=by
 unfold yp;by_cases h:a=0<;>simp[h]
theorem yEA{α:Type}(p:List α)(x:α)(r:List α)(i:Int)(hi:i=(p.length:Int)):idx (p++x::r) i=some x:=by
 subst hi;rw[y00];simp
theorem y6M{α β:Type}{body:Int->α->Unit->Option (β⊕Unit)}{fin:Unit->Option β}(l:List α)(h:∀ (p:List α) (x:α) (r:List α),l=p++x::r->body (p.length:Int) x ()=some (.inr ())) :
  ∀ (r p:List α) (i:Int),l=p++r->i=(p.length:Int)->yR body fin i r ()=fin ()
 |[],p,i,_,_=>rfl
 |x::r,p,i,hl,hi=>by
  rw[yZ,hi,h p x r hl];simp only[bind_some];exact y6M l h r (p++[x]) _ (by rw[hl];simp) (by simp)
theorem yIw{α β σ:Type}{bodyN:Int->σ->Option (β⊕σ)}{bodyL:Int->α->σ->Option (β⊕σ)}{fin:σ->Option β}(xs:List α)(h:∀ (i:Nat) x s,xs[i]?=some x->bodyN (i:Int) s=bodyL (i:Int) x s) :
  ∀ (r done:List α) (s:σ),xs=done++r->y2y bodyN fin r.length (done.length:Int) s=yR bodyL fin (done.length:Int) r s
 |[],done,s,_=>rfl
 |e::r,done,s,hx=>by
  have h0:xs[done.length]?=some e:=by rw[hx];simp
  rw[yZ];show (bodyN _ s).bind _=_
  rw[h done.length e s h0];cases hb:bodyL (done.length:Int) e s with
  |none=>rfl
  |some z =>
   cases z with
   |inl y=>rfl
   |inr s' =>
    have:=yIw (fin:=fin) xs h r (done++[e]) s' (by rw[hx];simp)
    simp only[List.length_append,length_cons,length_nil]at this;exact this
theorem y33{α β σ:Type}{bodyN:Int->σ->Option (β⊕σ)}(bodyL:Int->α->σ->Option (β⊕σ)){fin:σ->Option β}(xs:List α)(h:∀ (i:Nat) x s,xs[i]?=some x->bodyN (i:Int) s=bodyL (i:Int) x s)(m:Nat)(hm:m=xs.length)(s:σ) :
  y2y bodyN fin m 0 s=yR bodyL fin 0 xs s:=by
 subst hm;exact yIw xs h xs [] s rfl
theorem yCc{α β σ:Type}{b1 b2:Int->α->σ->Option (β⊕σ)}{fin:σ->Option β}(xs:List α)(h:∀ (i:Nat) x s,xs[i]?=some x->b1 (i:Int) x s=b2 (i:Int) x s) :
  ∀ (r done:List α) (s:σ),xs=done++r->yR b1 fin (done.length:Int) r s=yR b2 fin (done.length:Int) r s
 |[],done,s,_=>rfl
 |e::r,done,s,hx=>by
  have h0:xs[done.length]?=some e:=by rw[hx];simp
  rw[yZ,yZ,h done.length e s h0];cases hb:b2 (done.length:Int) e s with
  |none=>rfl
  |some z =>
   cases z with
   |inl y=>rfl
   |inr s' =>
    have:=yCc (fin:=fin) xs h r (done++[e]) s' (by rw[hx];simp)
    simp only[List.length_append,length_cons,length_nil]at this;exact this
theorem y6J{α:Type}(q:α->Bool)(n:Int)(hn:n≠0):∀ l:List α,y8x (l.map λ x=>bif q x then 0 else n)=bif l.all q then 0 else n
 |[]=>rfl
 |x::l=>by
  rw[List.map_cons,y0R,y6J q n hn l,all_cons];unfold yp;cases q x with
  |false=>simp[hn]
  |true=>simp
end Go.Tw
end
section
set_option maxRecDepth 100000
namespace Go.Tw
open Go.Vx Go.Vx.B Go.Proofs
def Kd.code:Kd->Nat
 |.gate=>149
 |.rule=>150
 |.forecast=>151
 |.level=>152
 |.decide=>153
 |.override=>154
 |.command=>155
 |.lock=>156
 |.unlock=>157
 |.enter=>158
 |.leave=>159
 |.issue=>160
 |.undo=>0
abbrev fmT:Ty:=(Ty.arr (2:Nat) (Ty.int IntKind.i64)).pair (Ty.code.pair Ty.unit)
theorem y01(d:Kd):y0A Ty.str fmT z0L.fst d.str=some ([(d.nn:Int),(d.nv:Int)],d.code,()):=by
 cases d<;>rfl
theorem kne{k:Str}(h:kd k=none)(d:Kd):(k == d.str)=false:=by simpa using yOH h d
theorem yDI{k:Str}(h:kd k=none):y0A Ty.str fmT z0L.fst k=none:=by
 have hh:∀ d:Kd,eqV Ty.str k d.str=false:=λ d=>kne h d
 have h0:eqV Ty.str k [103,97,116,101]=false:=hh .gate;have h1:eqV Ty.str k [114,117,108,101]=false:=hh .rule;have h2:eqV Ty.str k [102,111,114,101,99,97,115,116]=false:=hh .forecast;have h3:eqV Ty.str k [108,101,118,101,108]=false:=hh .level;have h4:eqV Ty.str k [100,101,99,105,100,101]=false:=hh .decide;have h5:eqV Ty.str k [111,118,101,114,114,105,100,101]=false:=hh .override;have h6:eqV Ty.str k [99,111,109,109,97,110,100]=false:=hh .command;have h7:eqV Ty.str k [108,111,99,107]=false:=hh .lock;have h8:eqV Ty.str k [117,110,108,111,99,107]=false:=hh .unlock;have h9:eqV Ty.str k [101,110,116,101,114]=false:=hh .enter;have h10:eqV Ty.str k [108,101,97,118,101]=false:=hh .leave;have h11:eqV Ty.str k [105,115,115,117,101]=false:=hh .issue;have h12:eqV Ty.str k [117,110,100,111]=false:=hh .undo;unfold z0L;simp only[y0A,h0,h1,h2,h3,h4,h5,h6,h7,h8,h9,h10,h11,h12,cond_false]
theorem yHk(d:Kd):z0i d.str=(((d.nn:Int),(d.nv:Int),true,()),()):=by
 cases d<;>rfl
theorem yJB{k:Str}(h:kd k=none):z0i k=((0,0,false,()),()):=by
 have h0:(k == [103,97,116,101])=false:=kne h .gate;have h1:(k == [114,117,108,101])=false:=kne h .rule;have h2:(k == [102,111,114,101,99,97,115,116])=false:=kne h .forecast;have h3:(k == [108,101,118,101,108])=false:=kne h .level;have h4:(k == [100,101,99,105,100,101])=false:=kne h .decide;have h5:(k == [111,118,101,114,114,105,100,101])=false:=kne h .override;have h6:(k == [99,111,109,109,97,110,100])=false:=kne h .command;have h7:(k == [108,111,99,107])=false:=kne h .lock;have h8:(k == [117,110,108,111,99,107])=false:=kne h .unlock;have h9:(k == [101,110,116,101,114])=false:=kne h .enter;have h10:(k == [108,101,97,118,101])=false:=kne h .leave;have h11:(k == [105,115,115,117,101])=false:=kne h .issue;have h12:(k == [117,110,100,111])=false:=kne h .undo;unfold z0i y0M y2C;simp only[h0,h1,h2,h3,h4,h5,h6,h7,h8,h9,h10,h11,h12,cond_false]
theorem yN5(l:List Int)(f:Int->Int)(F:Int×Unit->Option (Int×Unit))(hf:∀ x∈l,F (x,())=some (f x,()))(h:l.length<=1000):zE_M l F=some (l.map f,()):=by
 unfold zE_M;rw[bifT (y4 (show l.length < yB by unfold yB;omega)),y49 f l 0 [] (by simp;unfold memMax;omega) λ i e s he hs=>by
  unfold yNO;rw[hf e he];simp only[bind_some];rw[bifT (y4 hs)]]
 rfl
theorem yNp(l:List Str)(f:Str->Int)(F:Str×Unit->Option (Int×Unit))(hf:∀ x∈l,F (x,())=some (f x,()))(h:l.length<=1000):zC_M l F=some (l.map f,()):=by
 unfold zC_M;rw[bifT (y4 (show l.length < yB by unfold yB;omega)),y49 f l 0 [] (by simp;unfold memMax;omega) λ i e s he hs=>by
  unfold yNq;rw[hf e he];simp only[bind_some];rw[bifT (y4 hs)]]
 rfl
theorem y6X(n lo hi:Int):z0G n lo hi=(decide (n < lo\/hi < n),()):=by
 unfold z0G;by_cases h1:n < lo
 ·rw[bifT (y4 h1),y4 (show n < lo\/hi < n from .inl h1)]
 ·rw[bifF (y5 h1),decide_eq_decide.2 (show n > hi ↔ n < lo\/hi < n by omega)]
theorem yNS(a b c d:Int):eqV (Ty.arr (2:Nat) (Ty.int IntKind.i64)) [a,b] [c,d]=decide (a=c/\b=d):=by
 unfold eqV;simp only[List.range,List.range.loop,all_cons,List.all_nil,List.getD_cons_zero,List.getD_cons_succ,Bool.and_true];by_cases h1:a=c<;>by_cases h2:b=d<;>simp[eqV,h1,h2]
theorem yFP(a b c:Int):y15 [a,b,c]=some (yp a (yp b c),()):=by
 rw[y4T [a,b,c] (show 3 < yB by decide),y0R,y0R,y0R,y6K,y4Q]
theorem y5Y(a b:Int):y15 [a,b]=some (yp a b,()):=by
 rw[y4T [a,b] (show 2 < yB by decide),y0R,y0R,y6K,y4Q]
theorem yIh(a b c d:Int):y15 [a,b,c,d]=some (yp a (yp b (yp c d)),()):=by
 rw[y4T [a,b,c,d] (show 4 < yB by decide),y0R,y0R,y0R,y0R,y6K,y4Q]
theorem yQ9(e:Ev)(hs:∀ s∈e.2.2.1,s.length < yB):zo_M e=some (ckE e,()):=by
 unfold zo_M zo_m ckE;simp only[yFP,y5r,y0l,bind_some];unfold ckR;by_cases h1:e.1 < 1\/1000 < e.1
 ·rw[if_pos h1,if_pos h1];rfl
 rw[if_neg h1,if_neg h1];cases hk:kd e.2.1 with
 |none =>
  rw[yDI hk];rfl
 |some d =>
  rw[yEb hk,y01];simp only[Option.isSome_some,Bool.not_true,cond_false,Option.getD_some,List.getD_cons_zero,List.getD_cons_succ];erw [yNS]
  by_cases h2:e.2.2.1.length≠d.nn\/e.2.2.2.1.length≠d.nv
  ·rw[if_pos h2,y5 (show ¬ ((e.2.2.1.length:Int)=(d.nn:Int)/\(e.2.2.2.1.length:Int)=(d.nv:Int)) by omega)]
   rfl
  ·rw[if_neg h2,y4 (show ((e.2.2.1.length:Int)=(d.nn:Int)/\(e.2.2.2.1.length:Int)=(d.nv:Int)) by omega)]
   have hn:d.nn<=2:=by cases d<;>decide
   have hv:d.nv<=3:=by cases d<;>decide
   rw[bifF (show (yp 0 (yp 0 (bif !true then (2:Int)else 0)) != 0)=false from rfl)]
   rw[yNp e.2.2.1 (λ s=>bif isNm s then 0 else 8) _ (λ s h=>by
    unfold zY_M zY_m;rw[yLw s (hs s h)];simp only[bind_some,y0l];cases isNm s<;>rfl) (by omega)]
   rw[yN5 e.2.2.2.1 (λ v=>bif decide (0<=v/\v<=999999999)then 0 else 3) _ (λ v h=>by
    unfold zZ_M zZ;rw[y5r];unfold ckR;by_cases h3:v < 0\/999999999 < v
    ·rw[if_pos h3,y5 (by omega)];rfl
    ·rw[if_neg h3,y4 (by omega)];rfl) (by omega)]
   simp only[bind_some];rw[y4T _ (by simp;unfold yB;omega),y4T _ (by simp;unfold yB;omega),y6J _ _ (by decide),y6J _ _ (by decide)]
   simp only[bind_some];cases h3:e.2.2.1.all isNm with
   |false=>rfl
   |true =>
    cases h4:e.2.2.2.1.all (λ v=>decide (0<=v/\v<=999999999))with
    |false=>rfl
    |true =>
     cases h5:e.2.2.2.2.1 with
     |nil=>rfl
     |cons a l=>rfl
theorem yOy(e:Ev):zv_M e=some (ckE e,()):=by
 unfold zv_M ckE;simp only[y6X];by_cases h1:e.1 < 1\/1000 < e.1
 ·rw[if_pos h1,bifT (y4 h1)]
 rw[if_neg h1,bifF (y5 h1)];cases hk:kd e.2.1 with
 |none =>
  rw[yJB hk];rfl
 |some d =>
  rw[yEb hk,yHk];simp only[Bool.not_true,cond_false];have hn:d.nn<=2:=by cases d<;>decide
  have hv:d.nv<=3:=by cases d<;>decide
  by_cases h2:e.2.2.1.length=d.nn
  ·rw[bifF (show ((e.2.2.1.length:Int) != (d.nn:Int))=false by simp[h2])]
   by_cases h3:e.2.2.2.1.length=d.nv
   ·rw[bifF (show ((e.2.2.2.1.length:Int) != (d.nv:Int))=false by simp[h3]),if_neg (by simp[h2,h3]),bifT (y4 (by omega))]
    rw[y33 (λ i s _=>some (match (if isNm s=false then some ((8:Int),())else none)with|some y=>.inl y|none=>.inr ())) e.2.2.1 (λ i x s hx=>by
     unfold yO7;rw[y00,hx];simp only[bind_some];rw[yLW];cases isNm x<;>rfl) _ (by omega),y2O (λ s=>if isNm s=false then some ((8:Int),())else none) _ _ λ i e he=>by cases isNm e<;>rfl]
    have q:∀ l:List Str,l.findSome? (λ s=>if isNm s=false then some ((8:Int),())else none)=if l.all isNm=false then some (8,())else none:=by
     intro l;induction l with
     |nil=>rfl
     |cons x l ih=>rw[findSome?_cons,all_cons,ih];cases isNm x<;>rfl
    rw[q];cases h4:e.2.2.1.all isNm with
    |false=>rfl
    |true =>
     simp only[Bool.true_eq_false,if_false];unfold yNo;rw[bifT (y4 (by omega))]
     rw[y33 (λ i (v:Int) _=>some (match (if (decide (0<=v/\v<=999999999))=false then some ((3:Int),())else none)with|some y=>.inl y|none=>.inr ())) e.2.2.2.1 (λ i x s hx=>by
      unfold yNP;rw[y00,hx];simp only[bind_some,y6X];by_cases h:x < 0\/999999999 < x
      ·rw[bifT (y4 h),y5 (show ¬ (0<=x/\x<=999999999) by omega)];rfl
      ·rw[bifF (y5 h),y4 (show (0<=x/\x<=999999999) by omega)];rfl) _ (by omega),y2O (λ (v:Int)=>if (decide (0<=v/\v<=999999999))=false then some ((3:Int),())else none) _ _ λ i e he=>by cases decide (0<=e/\e<=999999999)<;>rfl]
     have q2:∀ l:List Int,l.findSome? (λ v=>if (decide (0<=v/\v<=999999999))=false then some ((3:Int),())else none)=if l.all (λ v=>decide (0<=v/\v<=999999999))=false then some (3,())else none:=by
      intro l;induction l with
      |nil=>rfl
      |cons x l ih=>rw[findSome?_cons,all_cons,ih];cases decide (0<=x/\x<=999999999)<;>rfl
     rw[q2];cases h5:e.2.2.2.1.all (λ v=>decide (0<=v/\v<=999999999))with
     |false=>rfl
     |true =>
      simp only[Bool.true_eq_false,if_false];unfold yOb;cases h6:e.2.2.2.2.1 with
      |nil=>rfl
      |cons a l=>rfl
   ·rw[bifT (show ((e.2.2.2.1.length:Int) != (d.nv:Int))=true by simp;omega),if_pos (.inr h3)]
  ·rw[bifT (show ((e.2.2.1.length:Int) != (d.nn:Int))=true by simp;omega),if_pos (.inl h2)]
end Go.Tw
end
section
set_option maxRecDepth 100000
namespace Go.Tw
open Go.Vx Go.Vx.B Go.Proofs
def gI(o:Option Nat):Int:=match o with|none=>-1|some i=>(i:Int)
theorem y6h{α:Type}(q:α->Bool){body:Int->α->Unit->Option ((Int×Unit)⊕Unit)}{fin:Unit->Option (Int×Unit)}(xs:List α)(hb:∀ (i:Nat) x,xs[i]?=some x->body (i:Int) x ()=some (bif q x then .inl ((i:Int),())else .inr ()))(hf:fin ()=some (-1,())) :
  yR body fin 0 xs ()=some (gI (xs.findIdx? q),()):=by
 have gen:∀ (r done:List α),xs=done++r->yR body fin (done.length:Int) r ()=some (match r.findIdx? q with|none=>-1|some i=>((done.length+i:Nat):Int),()):=by
  intro r;induction r with
  |nil=>intro done _;exact hf
  |cons x r ih =>
   intro done hx;rw[yZ,hb done.length x (by rw[hx];simp),List.findIdx?_cons]
   cases hq:q x with
   |true=>rfl
   |false =>
    simp only[cond_false,bind_some];have:=ih (done++[x]) (by rw[hx];simp)
    simp only[List.length_append,length_cons,length_nil]at this;refine this.trans ?_
    simp only[Bool.false_eq_true,if_false];cases r.findIdx? q with
    |none=>rfl
    |some i=>show some (((done.length+(0+1)+i:Nat):Int),())=some (((done.length+(i+1):Nat):Int),());rw[show done.length+(0+1)+i=done.length+(i+1) by omega]
 have:=gen xs [] rfl;refine this.trans ?_
 unfold gI;cases xs.findIdx? q with
 |none=>rfl
 |some i=>simp
theorem yBT(r:Rg)(a:Str)(h:(rGs r).length<=1000):yDl r a=some (gI (gAt (rGs r) a),()):=by
 unfold yDl;rw[bifT (y4 (show (rGs r).length < yB by unfold yB;omega))]
 refine y6h (λ g:Gt=>g.1 == a) (rGs r) (λ i x hx=>?_) rfl
 unfold yHo;cases x.1 == a<;>rfl
theorem yK5{α:Type}(xs:List α)(q:α->Bool)(F:Int×Unit->Option (Bool×Unit))(hF:∀ (i:Nat) x,xs[i]?=some x->F ((i:Int),())=some (q x,()))(h:xs.length<=1000):yJd (xs.length:Int) F=some (gI (xs.findIdx? q),()):=by
 unfold yJd;rw[bifT (y4 (by omega)),y33 (λ i x _=>some (bif q x then .inl (i,())else .inr ())) xs (λ i x s hx=>by
  unfold yIY;rw[hF i x hx];cases q x<;>rfl) _ (by omega)]
 exact y6h q xs (λ i x _=>rfl) rfl
theorem yLn(r:Rg)(a:Str)(h:(rGs r).length<=1000):zT_M r a=some (gI (gAt (rGs r) a),()):=by
 unfold zT_M zT_m;rw[yK5 (rGs r) (λ g=>g.1 == a) _ (λ i x hx=>by
  unfold zN_M zN_m;show (idx (rGs r) (i:Int)).bind _=_
  rw[y00,hx];rfl) h]
 rfl
theorem yQp(r:Rg)(a:Str)(h:(rTs r).length<=1000):zS_M r a=some (gI (tAt (rTs r) a),()):=by
 unfold zS_M zS_m;rw[yK5 (rTs r) (λ g=>g.1 == a) _ (λ i x hx=>by
  unfold zK_M zK_m;show (idx (rTs r) (i:Int)).bind _=_
  rw[y00,hx];rfl) h]
 rfl
theorem nmem(n:Nat)(h:n<=1000):n<=memMax:=by unfold memMax;omega
theorem y7C(n:Nat)(h:n<=1000):n+1<=memMax:=by unfold memMax;omega
theorem yOh(r:Rg)(i:Nat)(g x:Gt)(h:(rGs r).length<=1000)(hg:(rGs r)[i]?=some g):yHL r (i:Int) x=some (mkR (rTk r) (rRl r) (rRun r) (rHt r) (rSea r) (rBa r) (rSt r) (rCs r) ((rGs r).set i x) (rSs r) (rTs r),()):=by
 unfold yHL yOF;rw[bifT (y4 (by rw[Nat.zero_add];exact nmem _ h))]
 rw[show idx r.2.2.2.2.2.2.2.2.1 (i:Int)=some g from (y00 _ _).trans hg,show r.2.2.2.2.2.2.2.2.1[(i:Int).toNat]?=some g from hg]
 rfl
theorem yz(a b:Str):(a == b)=decide (a=b):=by by_cases h:a=b<;>simp[h]
theorem advR(r:Rg):z0P r=(adv r,()):=by
 unfold z0P y0J adv;simp only[yz];by_cases h1:rSt r=y3f
 ·rw[show decide (r.2.2.2.2.2.2.1=[111,112,101,110])=true from y4 h1]
  by_cases h2:0 < (rRl r).1
  ·rw[show decide (r.2.1.1 > 0)=true from y4 h2]
   by_cases h3:(rRl r).1<=rHt r
   ·rw[show decide (r.2.2.2.1 >= r.2.1.1)=true from y4 h3,if_pos ⟨h1,h2,h3⟩]
    rfl
   ·rw[show decide (r.2.2.2.1 >= r.2.1.1)=false from y5 h3,if_neg (λ h=>h3 h.2.2),if_neg (λ h=>by rw[h1]at h;exact absurd h.1 (by decide))]
    rw[show decide (r.2.2.2.2.2.2.1=[99,108,111,115,101])=false from y5 (by show ¬ rSt r=sClose;rw[h1];decide)]
    rfl
  ·rw[show decide (r.2.1.1 > 0)=false from y5 h2,if_neg (λ h=>h2 h.2.1),if_neg (λ h=>by rw[h1]at h;exact absurd h.1 (by decide))]
   rw[show decide (r.2.2.2.2.2.2.1=[99,108,111,115,101])=false from y5 (by show ¬ rSt r=sClose;rw[h1];decide)]
   rfl
 ·rw[show decide (r.2.2.2.2.2.2.1=[111,112,101,110])=false from y5 h1,if_neg (λ h=>h1 h.1)]
  by_cases h2:rSt r=sClose
  ·rw[show decide (r.2.2.2.2.2.2.1=[99,108,111,115,101])=true from y4 h2]
   by_cases h3:rSea r<=(rRl r).2.1
   ·rw[show decide (r.2.2.2.2.1<=r.2.1.2.1)=true from y4 h3]
    by_cases h4:rSea r<=rBa r
    ·rw[show decide (r.2.2.2.2.1<=r.2.2.2.2.2.1)=true from y4 h4,if_pos ⟨h2,h3,h4⟩];rfl
    ·rw[show decide (r.2.2.2.2.1<=r.2.2.2.2.2.1)=false from y5 h4,if_neg (λ h=>h4 h.2.2)];rfl
   ·rw[show decide (r.2.2.2.2.1<=r.2.1.2.1)=false from y5 h3,if_neg (λ h=>h3 h.2.1)];rfl
  ·rw[show decide (r.2.2.2.2.2.2.1=[99,108,111,115,101])=false from y5 h2,if_neg (λ h=>h2 h.1)];rfl
theorem advC(r:Rg):zM r=(adv r,()):=by
 rw[<- advR];unfold zM z0P ye y0J;cases (r.2.2.2.2.2.2.1 == ([111,112,101,110]:List UInt8))<;>cases decide (r.2.1.1 > 0)<;>cases decide (r.2.2.2.1 >= r.2.1.1)<;>rfl
theorem yPr(r:Rg)(s:Str):z0H r s=(decd r s,()):=by
 unfold z0H decd;simp only[yz];by_cases h1:s=sClose
 ·have h3:s≠sWait:=by rw[h1];decide
  rw[show decide (s=[99,108,111,115,101])=true from y4 h1,show decide (s=[119,97,105,116])=false from y5 h3,if_neg h3]
  by_cases h2:rSt r=sClose
  ·rw[show decide (r.2.2.2.2.2.2.1=[99,108,111,115,101])=true from y4 h2,if_neg (show ¬ (s=sClose/\rSt r≠sClose)from λ h=>h.2 h2)]
   rfl
  ·rw[show decide (r.2.2.2.2.2.2.1=[99,108,111,115,101])=false from y5 h2,if_pos (show (s=sClose/\rSt r≠sClose)from And.intro h1 h2)]
   rfl
 ·rw[show decide (s=[99,108,111,115,101])=false from y5 h1,if_neg (show ¬ (s=sClose/\rSt r≠sClose)from λ h=>h1 h.1)]
  by_cases h2:s=sWait
  ·rw[show decide (s=[119,97,105,116])=true from y4 h2,if_pos h2]
   rfl
  ·rw[show decide (s=[119,97,105,116])=false from y5 h2,if_neg h2]
   rfl
theorem yIT(s:Str):zw s=(decide (y3z s),()):=by
 unfold zw y3z;simp only[yz];by_cases h1:s=sClose
 ·rw[show decide (s=[99,108,111,115,101])=true from y4 h1,show decide (s=sClose\/s=y3f\/s=sWait)=true from y4 (.inl h1)];rfl
 ·by_cases h2:s=y3f
  ·rw[show decide (s=[99,108,111,115,101])=false from y5 h1,show decide (s=[111,112,101,110])=true from y4 h2,show decide (s=sClose\/s=y3f\/s=sWait)=true from y4 (.inr (.inl h2))];rfl
  ·rw[show decide (s=[99,108,111,115,101])=false from y5 h1,show decide (s=[111,112,101,110])=false from y5 h2]
   by_cases h3:s=sWait
   ·rw[show decide (s=[119,97,105,116])=true from y4 h3,show decide (s=sClose\/s=y3f\/s=sWait)=true from y4 (.inr (.inr h3))];rfl
   ·rw[show decide (s=[119,97,105,116])=false from y5 h3,show decide (s=sClose\/s=y3f\/s=sWait)=false from y5 (by rintro (h|h|h);exact h1 h;exact h2 h;exact h3 h)];rfl
theorem yMm(s:Str):zV s=(if y3z s then 0 else 13,()):=by
 have h:=yIT s;unfold zV;unfold zw at h;simp only[y0l];generalize (s == ([99,108,111,115,101]:List UInt8))=x at h ⊢;generalize (s == ([111,112,101,110]:List UInt8))=y at h ⊢;generalize (s == ([119,97,105,116]:List UInt8))=z at h ⊢;by_cases hd:y3z s
 ·rw[y4 hd]at h;rw[if_pos hd];cases x<;>cases y<;>cases z<;>first|rfl|cases h
 ·rw[y5 hd]at h;rw[if_neg hd];cases x<;>cases y<;>cases z<;>first|rfl|cases h
theorem yMd(s:Str):zz s=(decide (s=y1B\/s=y1j),()):=by
 unfold zz;simp only[yz];by_cases h1:s=y1B
 ·rw[show decide (s=[108,111,119,101,114])=true from y4 h1,y4 (show s=y1B\/s=y1j from .inl h1)];rfl
 ·rw[show decide (s=[108,111,119,101,114])=false from y5 h1]
  show (decide (s=y1j),())=_
  rw[decide_eq_decide.2 (show s=y1j ↔ s=y1B\/s=y1j from ⟨.inr,λ h=>h.resolve_left h1⟩)]
theorem yP3(s:Str):za s=(if s=y1B\/s=y1j then 0 else 13,()):=by
 have h:=yMd s;unfold za;unfold zz at h;simp only[y0l];generalize (s == ([108,111,119,101,114]:List UInt8))=x at h ⊢;generalize (s == ([114,97,105,115,101]:List UInt8))=y at h ⊢;by_cases hd:s=y1B\/s=y1j
 ·rw[y4 hd]at h;rw[if_pos hd];cases x<;>cases y<;>first|rfl|cases h
 ·rw[y5 hd]at h;rw[if_neg hd];cases x<;>cases y<;>first|rfl|cases h
theorem ckHt(n:Int):zd n=(ckR n 0 4096,()):=by
 unfold zd;rw[y5r]
theorem yQD(v w:Int):zq_M (v,w,())=some (ckRl v w,()):=by
 unfold zq_M zq_m;simp only[ckHt,y0l,yFP,bind_some];unfold ckRl ckR yp;have q:∀ p x:Int,p=x->some (p,())=some (x,()):=λ p x e=>by rw[e]
 apply q;by_cases h1:v < 0\/4096 < v
 ·rw[if_pos h1,if_pos (show v < 0\/4096 < v\/w < 0\/4096 < w by omega)];rfl
 ·by_cases h2:w < 0\/4096 < w
  ·rw[if_neg h1,if_pos h2,if_pos (show v < 0\/4096 < v\/w < 0\/4096 < w by omega)];rfl
  ·rw[if_neg h1,if_neg h2,if_neg (show ¬ (v < 0\/4096 < v\/w < 0\/4096 < w) by omega)]
   by_cases h3:v < w
   ·rw[y4 (show w > v from h3)];simp[h3]
   ·rw[y5 (show ¬ w > v from h3)];simp[h3]
theorem yRo(v w:Int):zy (v,w,())=(ckRl v w,()):=by
 unfold zy;simp only[y6X];unfold ckRl;by_cases h1:v < 0\/4096 < v
 ·rw[if_pos (by omega),bifT (y4 h1)]
 ·rw[bifF (y5 h1)];by_cases h2:w < 0\/4096 < w
  ·rw[if_pos (by omega),bifT (y4 h2)]
  ·rw[bifF (y5 h2),if_neg (by omega)]
   by_cases h3:v < w
   ·rw[if_pos h3,bifT (y4 h3)]
   ·rw[if_neg h3,bifF (y5 h3)]
theorem mvsR(r:Rg)(g:Gt)(s:Str):z0e r g s=(mvs r g s,()):=by
 unfold z0e mvs;simp only[yz];by_cases h1:g.2.2.2.2.1≠[]
 ·rw[if_pos h1,bifT (show (!decide (g.2.2.2.2.1=[]))=true by simp[h1])]
 rw[if_neg h1,bifF (show (!decide (g.2.2.2.2.1=[]))=false by simpa using h1)]
 by_cases h2:rSs r≠[]
 ·rw[if_pos h2,bifT (y4 (by have:(rSs r).length≠0:=λ h=>h2 (List.length_eq_zero_iff.1 h);show ((rSs r).length:Int) > 0;omega))]
 rw[if_neg h2,bifF (y5 (by have:(rSs r).length=0:=List.length_eq_zero_iff.2 (Decidable.not_not.1 h2);show ¬ ((rSs r).length:Int) > 0;omega))]
 by_cases h3:s=y1B
 ·subst h3;by_cases h4:rSt r=y3f
  ·rw[if_pos (.inl ⟨rfl,h4⟩),show decide (r.2.2.2.2.2.2.1=[111,112,101,110])=true from y4 h4];rfl
  ·rw[if_neg (by rintro (h|h);exact h4 h.2;exact absurd h.1 (by decide)),show decide (r.2.2.2.2.2.2.1=[111,112,101,110])=false from y5 h4];rfl
 ·rw[show decide (s=[108,111,119,101,114])=false from y5 h3]
  by_cases h5:s=y1j
  ·subst h5;by_cases h4:rSt r=sClose
   ·rw[if_pos (.inr ⟨rfl,h4⟩),show decide (r.2.2.2.2.2.2.1=[99,108,111,115,101])=true from y4 h4];rfl
   ·rw[if_neg (by rintro (h|h);exact h3 h.1;exact h4 h.2),show decide (r.2.2.2.2.2.2.1=[99,108,111,115,101])=false from y5 h4];rfl
  ·rw[if_neg (by rintro (h|h);exact h3 h.1;exact h5 h.1),show decide (s=[114,97,105,115,101])=false from y5 h5];rfl
theorem mvsC(r:Rg)(g:Gt)(s:Str):zQ_M r g s=some (mvs r g s,()):=by
 have h:some (z0e r g s)=zQ_M r g s:=by
  unfold zQ_M zQ_m z0e;simp only[yFP,y0l,bind_some];generalize (!g.2.2.2.2.1 == [])=a;generalize decide ((r.2.2.2.2.2.2.2.2.2.1.length:Int) > 0)=b;generalize (s == ([108,111,119,101,114]:List UInt8))=c;generalize (s == ([114,97,105,115,101]:List UInt8))=d;generalize (r.2.2.2.2.2.2.1 == ([111,112,101,110]:List UInt8))=e;generalize (r.2.2.2.2.2.2.1 == ([99,108,111,115,101]:List UInt8))=f;cases a<;>cases b<;>cases c<;>cases d<;>cases e<;>cases f<;>rfl
 rw[<- h,mvsR]
theorem addG(l:List Gt)(x:Gt)(h:l.length<=1000):zI_M l x=some (l++[x],()):=by
 unfold zI_M zI_m;rw[bifT (y4 (nmem _ h)),bifT (y4 (y7C _ h))]
theorem addT(l:List Th)(x:Th)(h:l.length<=1000):zH_M l x=some (l++[x],()):=by
 unfold zH_M zH_m;rw[bifT (y4 (nmem _ h)),bifT (y4 (y7C _ h))]
theorem y2l{α γ β:Type}{body:Int->α->List γ->Option (β⊕List γ)}{fin:List γ->Option β}(q:α->Bool)(f:α->γ) :
  ∀ (l:List α) (i:Int) (s:List γ),s.length+l.length<=memMax->(∀ i e s,e∈l->s.length+1<=memMax->body i e s=some (.inr (bif q e then s++[f e]else s)))->yR body fin i l s=fin (s++(l.filter q).map f)
 |[],i,s,_,_=>by simp[y1A]
 |e::l,i,s,hl,h=>by
  simp only[length_cons]at hl;rw[yZ,h i e s (by simp) (by omega),List.filter_cons]
  simp only[bind_some];cases q e with
  |false =>
   simp only[cond_false,Bool.false_eq_true,if_false];exact y2l q f l (i+1) s (by omega) λ i e s he hs=>h i e s (by simp[he]) hs
  |true =>
   simp only[cond_true,if_true,List.map_cons];rw[y2l q f l (i+1) (s++[f e]) (by simp;omega) λ i e s he hs=>h i e s (by simp[he]) hs]
   simp
theorem yPZ(r:Rg)(q:Gt->Bool)(F:Gt×Unit->Option (Bool×Unit))(hF:∀ g,F (g,())=some (q g,()))(h:(rGs r).length<=1000):zR_M r F=some (((rGs r).filter q).map (·.1),()):=by
 unfold zR_M;rw[bifT (y4 (show (rGs r).length < yB by unfold yB;omega)),y2l q (·.1) (rGs r) 0 [] (by simp;exact nmem _ h) λ i e s he hs=>by
  unfold yO8;rw[show F ((e.fst,e.snd.fst,e.snd.snd.fst,e.snd.snd.snd.fst,e.snd.snd.snd.snd.fst,()),())=some (q e,())from hF e]
  simp only[bind_some];rw[bifT (y4 (show s.length+1<=memMax from hs))]
  cases q e<;>rfl]
 rfl
theorem hasW(l:List Str)(a:Str)(h:l.length<=1000):yE6 l a=some (decide (a∈l),()):=by
 unfold yE6;rw[bifT (y4 (show l.length < yB by unfold yB;omega)),y2O (λ x=>if x=a then some (true,())else none) l 0 λ i e he=>by
  unfold yJG;rw[yz];by_cases hx:e=a
  ·rw[y4 hx,if_pos hx];rfl
  ·rw[y5 hx,if_neg hx];rfl]
 have q:∀ l:List Str,l.findSome? (λ x=>if x=a then some (true,())else none)=if a∈l then some (true,())else none:=by
  intro l;induction l with
  |nil=>rfl
  |cons x l ih =>
   rw[findSome?_cons,ih];by_cases hx:x=a
   ·subst hx;simp
   ·rw[if_neg hx];by_cases hm:a∈l
    ·simp[hm]
    ·simp[hm,Ne.symm hx]
 rw[q];by_cases hm:a∈l
 ·rw[if_pos hm,y4 hm]
 ·rw[if_neg hm,y5 hm];rfl
theorem bsC(l:List Str)(a:Str)(h:l.length<=1000)(hs:srt l):bsM l a=some (((cntS a l:Nat):Int),decide (a∈l),()):=by
 have hg:bsG l a=cntS a l:=by
  unfold bsG;refine yEP _ (cntS a l) l.length (λ t ht=>?_) (λ t ht hn=>?_) _ _ _ (by omega) (by omega) (yDM a l) (Nat.le_refl _)
  ·have hl:t < l.length:=Nat.lt_of_lt_of_le ht (yDM a l);rw[show l.getD t []=l[t] by simp[List.getD,List.getElem?_eq_getElem hl]]
   exact yJS a l t hl ht
  ·rw[show l.getD t []=l[t] by simp[List.getD,List.getElem?_eq_getElem hn]]
   exact yI0 a l hs t hn ht
 unfold bsM;rw[bifT (y4 (by omega)),hg]
 have:decide (cntS a l < l.length/\l.getD (cntS a l) []=a)=decide (a∈l):=by
  apply decide_eq_decide.2;constructor
  ·rintro ⟨h1,h2⟩
   rw[<- h2,show l.getD (cntS a l) []=l[cntS a l] by simp[List.getD,List.getElem?_eq_getElem h1]]
   exact List.getElem_mem _
  ·intro hm;have h1:=(y7Y hs hm).1;obtain ⟨h2,h3⟩:=List.getElem?_eq_some_iff.1 h1;exact ⟨h2,by simp[List.getD,h1]⟩
 rw[this]
theorem insC(l:List Str)(a:Str)(h:a ∉ l):y79 l (cntS a l) a=insS a l:=by
 unfold y79;exact (yIz a l h).symm
theorem cutC(l:List Str)(a:Str)(hs:srt l)(h:a∈l):y90 l (cntS a l) (cntS a l+1)=delS a l:=by
 unfold y90;exact (y7Y hs h).2.symm
end Go.Tw
end
