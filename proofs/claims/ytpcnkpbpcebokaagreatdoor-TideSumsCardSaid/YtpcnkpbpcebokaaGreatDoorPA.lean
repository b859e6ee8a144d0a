import Derived.Test.YtpcnkpbpcebokaaGreatDoorBD
import Derived.KernelRfl
import Derived.Test.YtpcnkpbpcebokaaGreatDoorLQ
import Derived.Test.YtpcnkpbpcebokaaGreatDoorLR
set_option linter.all false
section
set_option maxRecDepth 1000000
namespace Go.Tw
open Go.Vx Go.Vx.B Go.Proofs
theorem yFx:yPu=some (true,()):=by kernel_rfl
end Go.Tw
end
section
set_option maxRecDepth 100000
namespace Go.Tw
open Go.Vx Go.Vx.B Go.Proofs
section
variable {α β γ σ:Type}
theorem y7s{body:Int→α→σ→Option (β⊕σ)}{fin:σ→Option β}{i:Int}{s:σ}:yQ body fin i [] s=fin s:=rfl
theorem y00{body:Int→α→σ→Option (β⊕σ)}{fin:σ→Option β}{i:Int}{e:α}{l:List α}{s:σ}:yQ body fin i (e::l) s=(body i e s).bind fun z=>match z with
  | .inl y=>some y
  | .inr s'=>yQ body fin (i+1) l s':=rfl
theorem y2u{body:Int→α→Unit→Option (β⊕Unit)}{fin:Unit→Option β}(p:α→Option β) :
  ∀ (l:List α) (i:Int),(∀ i e,e∈l→body i e ()=some (match p e with|some y=>.inl y|none=>.inr ()))→yQ body fin i l ()=match l.findSome? p with|some y=>some y|none=>fin ()
 | [],i,_=>rfl
 | e::l,i,h=>by
  rw[y00,h i e (by simp),List.findSome?_cons]
  cases p e with
  | none=>exact y2u p l (i+1) fun i e he=>h i e (by simp[he])
  | some y=>rfl
theorem y0n{body:Int→α→List γ→Option (β⊕List γ)}{fin:List γ→Option β}(f:α→γ) :
  ∀ (l:List α) (i:Int) (s:List γ),s.length+l.length≤memMax→(∀ i e s,e∈l→s.length+1≤memMax→body i e s=some (.inr (s++[f e])))→yQ body fin i l s=fin (s++l.map f)
 | [],i,s,_,_=>by simp[y7s]
 | e::l,i,s,hl,h=>by
  simp only[List.length_cons]at hl;rw[y00,h i e s (by simp) (by omega)]
  simp only[Option.bind_some];rw[y0n f l (i+1) (s++[f e]) (by simp;omega) fun i e s he hs=>h i e s (by simp[he]) hs]
  simp
end
theorem yD{p:Prop}[Decidable p](h:p):decide p=true:=decide_eq_true h
theorem yp{p:Prop}[Decidable p](h:¬ p):decide p=false:=decide_eq_false h
theorem bifT{α:Type}{c:Bool}{a b:α}(h:c=true):(bif c then a else b)=a:=by rw[h];rfl
theorem bifF{α:Type}{c:Bool}{a b:α}(h:c=false):(bif c then a else b)=b:=by rw[h];rfl
theorem y5Y:memMax < lenMax:=by decide
def ckR(n lo hi:Int):Int:=if n < lo∨hi < n then 3 else 0
def y1I(l:List Int):Int:=(l.find? (· != 0)).getD 0
theorem y0u(n lo hi:Int):zZ n lo hi=(ckR n lo hi,()):=by
 unfold zZ ckR;by_cases h1:n < lo
 ·rw[bifT (yD h1),if_pos (.inl h1)]
 ·rw[bifF (yp h1)];by_cases h2:n > hi
  ·rw[bifT (yD h2),if_pos (.inr h2)]
  ·rw[bifF (yp h2),if_neg (by omega)]
theorem y2a(c:Bool)(e:Int):z1D c e=(bif c then e else 0,()):=by
 unfold z1D;cases c<;>rfl
theorem y3v(n lo hi:Int):z0f n lo hi=(ckR n lo hi,()):=by
 unfold z0f ckR;by_cases h1:n < lo
 ·rw[bifT (yD h1),y2a,cond_true,if_pos (.inl h1)]
 ·rw[bifF (yp h1),y2a];by_cases h2:n > hi
  ·rw[yD h2,cond_true,if_pos (.inr h2)]
  ·rw[yp h2,cond_false,if_neg (by omega)]
theorem y90(l:List Int):l.findSome? (fun e=>if e != 0 then some (e,())else none)=(l.find? (· != 0)).map fun e=>(e,()):=by
 induction l with
 | nil=>rfl
 | cons e l ih =>
  rw[List.findSome?_cons,List.find?_cons];cases he:(e != 0)with
  | true=>rfl
  | false=>simpa using ih
theorem y15(l:List Int)(h:l.length < lenMax):y1g l=some (y1I l,()):=by
 unfold y1g;rw[bifT (yD h),y2u (fun e=>if e != 0 then some (e,())else none) l 0 (fun i e _=>by
  unfold yDw;cases he:(e != 0)<;>rfl),y90]
 unfold y1I yEg;cases l.find? (· != 0)<;>rfl
theorem y1E{α:Type}(l:List α)(i:Nat):idx l (i:Int)=l[i]?:=by
 unfold idx;rw[if_pos (Int.natCast_nonneg i)];rfl
theorem y7c{α β:Type}{body:Int→α→Unit→Option (β⊕Unit)}{fin:Unit→Option β}(xs:List α)(p:α→Option β) :
  ∀ (l done:List α),xs=done++l→(∀ (i:Nat) e,xs[i]?=some e→body (i:Int) e ()=some (match p e with|some y=>.inl y|none=>.inr ())) →
   yQ body fin (done.length:Int) l ()=match l.findSome? p with|some y=>some y|none=>fin ()
 | [],done,_,_=>rfl
 | e::l,done,hx,h=>by
  rw[y00,h done.length e (by rw[hx];simp),List.findSome?_cons]
  cases p e with
  | none =>
   have:=y7c (body:=body) (fin:=fin) xs p l (done++[e]) (by rw[hx];simp) h
   simp only[List.length_append,List.length_cons,List.length_nil]at this;exact this
  | some y=>rfl
theorem y5K(l:List Int)(h:l.length < lenMax):y9o l=some (y1I l,()):=by
 unfold y9o;have:=y7c (body:=fun i__ e__ s__=>yBB l i__ e__) (fin:=fun s__=>yCG l) l (fun e=>if e != 0 then some (e,())else none) l [] rfl (fun i e hi=>by
  unfold yBB;cases he:(e != 0)with
  | true=>rw[y1E,hi];rfl
  | false=>rfl)
 rw[bifT (yD h)];refine this.trans ?_
 rw[y90];unfold y1I yCG;cases l.find? (· != 0)<;>rfl
def y4f(c:Nat):Bool:=decide (65≤c∧c≤90∨97≤c∧c≤122)
def y7G(c:Nat):Bool:=decide (48≤c∧c≤57∨c=95)
def nmOk:Bool→List UInt8→Bool
 | _,[]=>true
 | first,c::l=>(y4f c.toNat || (!first && y7G c.toNat)) && nmOk false l
def isNm(s:List UInt8):Bool:=nmOk true s && decide (0 < s.length∧s.length≤24)
theorem y8z:∀ (s0 s:List UInt8) (i:Int),0≤i→yQ (fun i__ e__ s__=>y9A s0 i__ e__) (fun s__=>yE7 s0) i s ()=some (nmOk (decide (i=0)) s,())
  | s0,[],i,_=>rfl
  | s0,c::l,i,hi=>by
    rw[y00];have ih:=y8z s0 l (i+1) (by omega)
    have e0:decide (i+1=0)=false:=yp (by omega)
    rw[e0]at ih;unfold nmOk;have hb:y9A s0 i c=some (if (y4f c.toNat || (!decide (i=0) && y7G c.toNat))=true then .inr ()else .inl (false,())):=by
      unfold y9A y5r y4f y7G;have g3:(i == 0)=decide (i=0):=by by_cases h:i=0<;>simp[h]
      have g4:((c.toNat:Int) != 95)=!decide ((c.toNat:Int)=95):=by by_cases h:(c.toNat:Int)=95<;>simp[h]
      rw[g3,g4];by_cases h1:(97:Int)≤c.toNat<;>by_cases h2:(c.toNat:Int)≤122<;>by_cases h3:(65:Int)≤c.toNat<;>by_cases h4:(c.toNat:Int)≤90<;>by_cases h5:(c.toNat:Int) < 48<;>by_cases h6:(c.toNat:Int) > 57<;>by_cases h7:(c.toNat:Int)=95<;>by_cases h8:i=0 <;>
        first
        | omega
        | (have g1:(decide (65≤c.toNat∧c.toNat≤90∨97≤c.toNat∧c.toNat≤122))=decide ((65:Int)≤c.toNat∧(c.toNat:Int)≤90∨(97:Int)≤c.toNat∧(c.toNat:Int)≤122):=by
            apply decide_eq_decide.2;omega
           have g2:(decide (48≤c.toNat∧c.toNat≤57∨c.toNat=95))=decide (¬ (c.toNat:Int) < 48∧¬ (c.toNat:Int) > 57∨(c.toNat:Int)=95):=by
            apply decide_eq_decide.2;omega
           rw[g1,g2];simp[h1,h2,h3,h4,h5,h6,h7,h8])
    rw[hb];simp only[Option.bind_some];by_cases hc:(y4f c.toNat || (!decide (i=0) && y7G c.toNat))=true
    · rw[if_pos hc,hc,Bool.true_and];exact ih
    · rw[if_neg hc,Bool.eq_false_iff.2 hc];rfl
theorem yLE(s:List UInt8):yD5 s=some (isNm s,()):=by
 unfold yD5 isNm;by_cases h0:s.length=0
 ·have:((s.length:Int) == 0)=true:=by simp[h0]
  rw[bifT this,show decide (0 < s.length∧s.length≤24)=false from yp (by omega),Bool.and_false]
 ·have:((s.length:Int) == 0)=false:=by simpa using h0
  rw[bifF this];by_cases h1:24 < s.length
  ·rw[bifT (yD (by omega)),show decide (0 < s.length∧s.length≤24)=false from yp (by omega),Bool.and_false]
  ·rw[bifF (yp (show ¬ ((s.length:Int) > 24) by omega)),bifT (yD (show s.length < lenMax by unfold lenMax;omega)),y8z s s 0 (by omega),yD rfl]
   rw[show decide (0 < s.length∧s.length≤24)=true from yD ⟨by omega,by omega⟩,Bool.and_true]
theorem yMg{bs:List UInt8}{i:Nat}{c:UInt8}(h:bs[i]?=some c):(⟨bs.toArray⟩:ByteArray).get! i=c:=by
 show bs.toArray[i]! = c
 rw[getElem!_def];simp[h]
theorem yF6{bs:List UInt8}{i:Nat}{c:UInt8}(h:bs[i]?=some c)(hc:c.toNat < 128):ya bs (i:Int)=((c.toNat:Int),(i:Int)+1):=by
 unfold ya Utf8.decode;have h0:(⟨bs.toArray⟩:ByteArray).get! ((i:Int).toNat+0)=c:=by rw[Int.toNat_natCast,Nat.add_zero];exact yMg h
 simp only[h0];rw[if_pos hc];rfl
theorem yI3{bs:List UInt8}{i:Nat}{c:UInt8}(h:bs[i]?=some c)(hc:128≤c.toNat):128≤(ya bs (i:Int)).1:=by
 unfold ya Utf8.decode;have h0:(⟨bs.toArray⟩:ByteArray).get! ((i:Int).toNat+0)=c:=by rw[Int.toNat_natCast,Nat.add_zero];exact yMg h
 simp only[h0];rw[if_neg (by omega)]
 have he:Utf8.runeError=65533:=rfl;split
 ·split
  ·rename_i h2;show (128:Int)≤((_:Nat):Int);omega
  ·rw[he];decide
 ·split
  ·split
   ·rename_i h2;simp only[Bool.and_eq_true,decide_eq_true_eq]at h2;show (128:Int)≤((_:Nat):Int);omega
   ·rw[he];decide
  ·split
   ·split
    ·rename_i h2;simp only[Bool.and_eq_true,decide_eq_true_eq]at h2;show (128:Int)≤((_:Nat):Int);omega
    ·rw[he];decide
   ·rw[he];decide
def y9d(r:Int):Bool:=decide (65≤r∧r≤90∨97≤r∧r≤122)
def yES(r:Int):Bool:=decide (48≤r∧r≤57∨r=95)
theorem yFE(s str:List UInt8)(pos:Int):y92 s str pos=some (if (y9d (ya str pos).1 || (!decide (pos=0) && yES (ya str pos).1))=true then .inr ()else .inl (false,())):=by
 unfold y92 y4b y85 y9d yES;generalize (ya str pos).1=r;have g3:(pos == 0)=decide (pos=0):=by by_cases h:pos=0<;>simp[h]
 have g4:(r == 95)=decide (r=95):=by by_cases h:r=95<;>simp[h]
 rw[g3,g4];by_cases h1:r ≥ 97<;>by_cases h2:r≤122<;>by_cases h3:r ≥ 65<;>by_cases h4:r≤90<;>by_cases h5:r ≥ 48<;>by_cases h6:r≤57<;>by_cases h7:r=95<;>by_cases h8:pos=0 <;>
  first
  | omega
  | simp[h1,h2,h3,h4,h5,h6,h7,h8]
theorem y8u(s:List UInt8):∀ (m i:Nat),s.length≤i+m→i≤s.length →
  y8I s (fun i__ s__=>y92 s s i__) (fun s__=>y8x s s) m (i:Int) ()=bif nmOk (decide (i=0)) (s.drop i)then y8x s s else some (false,())
 | m,i,hm,hi=>by
  by_cases hl:i=s.length
  ·have e1:s.drop i=[]:=List.drop_eq_nil_of_le (by omega)
   have e2:decide ((i:Int) < (s.length:Int))=false:=yp (by omega)
   rw[e1];cases m<;>(unfold y8I;rw[bifF e2];rfl)
  ·have hlt:i < s.length:=by omega
   obtain ⟨m,rfl⟩:∃ k,m=k+1:=⟨m - 1,by omega⟩
   have hd:s.drop i=s[i]::s.drop (i+1):=(List.getElem_cons_drop (h:=hlt)).symm;have hg:s[i]?=some s[i]:=List.getElem?_eq_getElem hlt;have e0:decide ((i:Int)=0)=decide (i=0):=decide_eq_decide.2 (by omega)
   unfold y8I;rw[bifT (yD (show (i:Int) < (s.length:Int) by omega)),yFE,hd,e0]
   simp only[Option.bind_some];by_cases hc:s[i].toNat < 128
   ·rw[yF6 hg hc];have e1:y9d (s[i].toNat:Int)=y4f s[i].toNat:=decide_eq_decide.2 (by omega)
    have e2:yES (s[i].toNat:Int)=y7G s[i].toNat:=decide_eq_decide.2 (by omega)
    simp only[e1,e2,nmOk];by_cases hb:(y4f s[i].toNat || (!decide (i=0) && y7G s[i].toNat))=true
    ·rw[if_pos hb,hb,Bool.true_and];have ih:=y8u s m (i+1) (by omega) (by omega)
     have e3:decide (i+1=0)=false:=yp (by omega)
     rw[e3,show ((i+1:Nat):Int)=(i:Int)+1 by omega]at ih
     exact ih
    ·rw[if_neg hb,Bool.eq_false_iff.2 hb,Bool.false_and];rfl
   ·have h1:=yI3 hg (by omega)
    have e1:y9d (ya s (i:Int)).1=false:=yp (by omega)
    have e2:yES (ya s (i:Int)).1=false:=yp (by omega)
    have e3:y4f s[i].toNat=false:=yp (by omega)
    have e4:y7G s[i].toNat=false:=yp (by omega)
    simp[e1,e2,nmOk,e3,e4]
theorem yLX(s:List UInt8)(h:s.length < lenMax):yCP s=some (isNm s,()):=by
 unfold yCP;have:=y8u s s.length 0 (by omega) (by omega)
 rw[List.drop_zero,show decide (0=0)=true from rfl]at this
 rw[bifT (yD h)];refine (show _=_ from this).trans ?_
 unfold isNm y8x;cases hn:nmOk true s with
 | false=>rfl
 | true =>
  rw[cond_true,Bool.true_and];cases s with
  | nil=>rfl
  | cons c l =>
   have e:decide (((c::l).length:Int)≤24)=decide (0 < (c::l).length∧(c::l).length≤24):=decide_eq_decide.2 (by simp only[List.length_cons];omega)
   rw[← e];rfl
def yN(a b:Int):Int:=if a != 0 then a else b
theorem y22:y1I []=0:=rfl
theorem ye(a:Int)(l:List Int):y1I (a::l)=yN a (y1I l):=by
 unfold y1I yN;rw[List.find?_cons];cases h:(a != 0)<;>rfl
theorem y1M(a:Int):yN a 0=a:=by
 unfold yN;by_cases h:a=0<;>simp[h]
end Go.Tw
end
section
set_option maxRecDepth 100000
namespace Go.Tw
open Go.Vx Go.Vx.B Go.Proofs
abbrev Con:=List UInt8×Int×Int×Unit
abbrev Gau:=Int×Int×Unit
abbrev Tid:=List Con×List Gau×Int×Unit
def y9z(c:Con):Int:=y1I [bif isNm c.1 then 0 else 8,ckR c.2.1 1 96,ckR c.2.2.1 0 3]
def conE(done:List Con)(c:Con):Int:=yN (y9z c) (bif done.any (fun d=>d.1 == c.1)then 9 else 0)
def yCo:List Con→List Con→Int
 | _,[]=>0
 | done,n::l=>yN (conE done n) (yCo (done++[n]) l)
def y1j(l:List Con):Int:=if l.length=0 then 12 else if 4 < l.length then 5 else yCo [] l
theorem y7Q(a b:Int):[a,b].length < lenMax:=by simp[lenMax]
theorem yDp(a b c:Int):[a,b,c].length < lenMax:=by simp[lenMax]
theorem yVQ(a b c d:Int):[a,b,c,d].length < lenMax:=by simp[lenMax]
theorem yHM(s:List UInt8):zf_M s=some (bif isNm s then 0 else 8,()):=by
 unfold zf_M zf_m;rw[yLE];cases isNm s<;>rfl
theorem y9N(l:List Con)(i:Nat)(n:Con)(hn:l[i]?=some n){fin:Unit→Option ((Int×Unit)⊕Unit)}:∀ (m k:Nat),k+m=i →
  y2p (fun i__ s__=>yG8 l (i:Int) i__) fin m (k:Int) ()=if ((l.drop k).take m).any (fun d=>d.1 == n.1)=true then some (.inl (9,()))else fin ()
 | 0,k,_=>by simp[y2p]
 | m+1,k,hk=>by
  have hi:i < l.length:=(List.getElem?_eq_some_iff.1 hn).1;have hkl:k < l.length:=by omega
  unfold y2p;have hb:yG8 l (i:Int) (k:Int)=some (if (l[k].1 == n.1)=true then .inl (.inl (9,()))else .inr ()):=by
   unfold yG8;rw[y1E,y1E,hn,List.getElem?_eq_getElem hkl];simp only[Option.bind_some];cases (l[k].1 == n.1)<;>rfl
  rw[hb];simp only[Option.bind_some];have hd:(l.drop k).take (m+1)=l[k]::(l.drop (k+1)).take m:=by
   rw[← List.getElem_cons_drop (h:=hkl),List.take_succ_cons]
  rw[hd,List.any_cons];cases h:(l[k].1 == n.1)with
  | true=>rfl
  | false =>
   rw[if_neg (by simp),Bool.false_or]
   have ih:=y9N l i n hn (fin:=fin) m (k+1) (by omega)
   rw[show ((k+1:Nat):Int)=(k:Int)+1 by omega]at ih
   exact ih
theorem yFF(l:List Con)(hl:l.length≤4)(i:Nat)(n:Con)(hn:l[i]?=some n) :
  yG4 l (i:Int) n=some (bif conE (l.take i) n != 0 then .inl (conE (l.take i) n,())else .inr ()):=by
 have hi:i < l.length:=(List.getElem?_eq_some_iff.1 hn).1;unfold yG4;rw[yHM,y1E,hn];simp only[Option.bind_some,y0u];rw[y5K _ (yDp _ _ _)];simp only[Option.bind_some];show (bif (y9z n != 0)then some (Sum.inl (y9z n,()))else _)=_
 unfold conE yN;cases hs:(y9z n != 0)with
 | true=>simp only[cond_true,if_true,hs]
 | false =>
  simp only[cond_false,Bool.false_eq_true,if_false];rw[bifT (yD (show (i:Int)≤9223372036854775807 by omega))]
  have e1:((i:Int) - 0).toNat=i:=by omega
  rw[e1];have:=y9N l i n hn (fin:=fun s__=>yLD l (i:Int)) i 0 (by omega)
  rw[show ((0:Nat):Int)=0 from rfl]at this
  rw[this,List.drop_zero];cases hany:(l.take i).any (fun d=>d.1 == n.1)with
  | true=>rw[if_pos rfl];rfl
  | false=>rw[if_neg (by simp)];rfl
theorem y8l(xs:List Con)(hl:xs.length≤4):∀ (l done:List Con),xs=done++l →
  yQ (fun i__ e__ s__=>yG4 xs i__ e__) (fun s__=>yKQ xs) (done.length:Int) l ()=some (yCo done l,())
 | [],done,_=>rfl
 | n::l,done,hx=>by
  have hn:xs[done.length]?=some n:=by rw[hx];simp
  rw[y00,yFF xs hl done.length n hn];have ht:xs.take done.length=done:=by rw[hx];simp
  rw[ht];simp only[Option.bind_some,yCo,yN];cases h:(conE done n != 0)with
  | true=>rfl
  | false =>
   have ih:=y8l xs hl l (done++[n]) (by rw[hx];simp)
   simp only[List.length_append,List.length_cons,List.length_nil]at ih;exact ih
theorem yEI(l:List Con):zJ_M l=some (y1j l,()):=by
 unfold zJ_M y1j;by_cases h0:l.length=0
 ·rw[bifT (show ((l.length:Int) == 0)=true by simp[h0]),if_pos h0]
 ·rw[bifF (show ((l.length:Int) == 0)=false by simpa using h0),if_neg h0]
  by_cases h8:4 < l.length
  ·rw[bifT (yD (show (l.length:Int) > 4 by omega)),if_pos h8]
  ·rw[bifF (yp (show ¬ (l.length:Int) > 4 by omega)),if_neg h8,bifT (yD (show l.length < lenMax by unfold lenMax;omega))]
   exact y8l l (by omega) l [] rfl
def yK3(m:List (List UInt8×Bool))(done:List Con):Prop:=∀ k,(y0D .str .bool m k).getD false=done.any fun d=>d.1 == k
theorem yF4(m:List (List UInt8×Bool))(k k':List UInt8):(y0D .str .bool (y0U .str .bool m k true) k').getD false=((k == k') || (y0D .str .bool m k').getD false):=by
 induction m with
 | nil =>
  show (y0D .str .bool [(k,true)] k').getD false=_
  simp only[y0D,eqV];by_cases h:k'=k
  ·subst h;simp
  ·have h1:(k' == k)=false:=beq_eq_false_iff_ne.2 h;have h2:(k == k')=false:=beq_eq_false_iff_ne.2 (Ne.symm h);show (bif (k' == k)then some true else none).getD false=_
   rw[h1,h2];rfl
 | cons p m ih =>
  show (y0D .str .bool (bif (k == p.1)then (k,true)::m else p::y0U .str .bool m k true) k').getD false=_
  by_cases h:k=p.1
  ·have h1:(k == p.1)=true:=by simp[h]
   rw[h1,cond_true];show (bif (k' == k)then some true else y0D .str .bool m k').getD false=((k == k') || (bif (k' == p.1)then some p.2 else y0D .str .bool m k').getD false)
   by_cases h2:k'=k
   ·have e1:(k' == k)=true:=by simp[h2]
    have e2:(k == k')=true:=by simp[h2]
    rw[e1,e2];rfl
   ·have e1:(k' == k)=false:=beq_eq_false_iff_ne.2 h2;have e2:(k == k')=false:=beq_eq_false_iff_ne.2 (Ne.symm h2);have e3:(k' == p.1)=false:=by rw[← h];exact e1
    rw[e1,e2,e3];rfl
  ·have h1:(k == p.1)=false:=beq_eq_false_iff_ne.2 h;rw[h1,cond_false];show (bif (k' == p.1)then some p.2 else y0D .str .bool (y0U .str .bool m k true) k').getD false=((k == k') || (bif (k' == p.1)then some p.2 else y0D .str .bool m k').getD false)
   by_cases h2:k'=p.1
   ·have e1:(k' == p.1)=true:=by simp[h2]
    have e2:(k == k')=false:=by rw[h2];exact h1
    rw[e1,e2];rfl
   ·have e1:(k' == p.1)=false:=beq_eq_false_iff_ne.2 h2;rw[e1];exact ih
theorem yK3.put{m:List (List UInt8×Bool)}{done:List Con}(h:yK3 m done)(n:Con):yK3 (y0U .str .bool m n.1 true) (done++[n]):=by
 intro k;rw[yF4,h k,List.any_append];simp[Bool.or_comm]
theorem yHd(c:Con)(h:c.1.length < lenMax):zM_M c=some (y9z c,()):=by
 unfold zM_M zM_m;rw[yLX c.1 h];simp only[Option.bind_some,y2a,y3v];rw[y15 _ (yDp _ _ _)];unfold y9z;cases isNm c.1<;>rfl
theorem y8o(xs:List Con):∀ (l done:List Con) (i:Int) (m:List (List UInt8×Bool)),(∀ n∈l,n.1.length < lenMax)→yK3 m done →
  yQ (fun i__ e__ s__=>yFG xs i__ e__ s__) (fun s__=>yJC xs s__) i l m=some (yCo done l,())
 | [],done,i,m,_,_=>rfl
 | n::l,done,i,m,hl,hk=>by
  have hb:yFG xs i n m=some (bif conE done n != 0 then .inl (conE done n,())else .inr (y0U .str .bool m n.1 true)):=by
   unfold yFG;rw[yHd _ (hl n (by simp))]
   simp only[Option.bind_some,y2a,hk n.1];rw[y15 _ (y7Q _ _)];have e:y1I [y9z (n.fst,n.snd.fst,n.snd.snd.fst,()),bif done.any (fun d=>d.1 == n.1)then 9 else 0]=conE done n:=by
    rw[ye,ye,y22,y1M];rfl
   simp only[Option.bind_some,e];cases (conE done n != 0)<;>rfl
  rw[y00,hb];simp only[Option.bind_some,yCo,yN];cases h:(conE done n != 0)with
  | true=>rfl
  | false =>
   simp only[cond_false,Bool.false_eq_true,if_false];exact y8o xs l (done++[n]) (i+1) _ (fun x hx=>hl x (by simp[hx])) (hk.put n)
theorem yEo(l:List Con)(hn:∀ n∈l,n.1.length < lenMax)(hl:l.length < lenMax):zL_M l=some (y1j l,()):=by
 unfold zL_M y1j;simp only[y2a];rw[y15 _ (y7Q _ _)];simp only[Option.bind_some];by_cases h0:l.length=0
 ·rw[show ((l.length:Int) == 0)=true by simp[h0],if_pos h0]
  rfl
 ·rw[show ((l.length:Int) == 0)=false by simpa using h0,if_neg h0]
  by_cases h8:4 < l.length
  ·rw[yD (show (l.length:Int) > 4 by omega),if_pos h8]
   rfl
  ·rw[yp (show ¬ (l.length:Int) > 4 by omega),if_neg h8]
   rw[bifF (by rfl),bifT (yD hl)]
   exact y8o l l [] 0 [] hn (fun k=>rfl)
end Go.Tw
end
section
set_option maxRecDepth 100000
namespace Go.Tw
open Go.Vx Go.Vx.B Go.Proofs
theorem y4L{i:Int}(h0:-9223372036854775808≤i)(h1:i≤9223372036854775807):IntKind.i64.wrap i=i:=by
 rw[IntKind.wrap_i64];omega
def gI(a b:Int):Int:=(Nat.gcd a.natAbs b.natAbs:Nat)
theorem y9n{β:Type}(K:Int→β)(body:Int×Int→Option (β⊕(Int×Int)))
  (hb:∀ a b:Int,body (a,b)=if b=0 then some (.inl (K a))else some (.inr (b,a.tmod b))) :
  ∀ (k m:Nat) (a b:Nat),b < 2 ^ k→2 * k+1≤m→y4N body m ((a:Int),(b:Int))=some (K (Nat.gcd a b:Nat))
 | k,0,a,b,_,hm=>by omega
 | k,m+1,a,b,hk,hm=>by
  unfold y4N;rw[hb];by_cases h0:b=0
  ·subst h0;rw[if_pos (by rfl),Nat.gcd_zero_right]
   rfl
  ·rw[if_neg (by omega)]
   simp only[Option.bind_some];have e1:(a:Int).tmod (b:Int)=((a % b:Nat):Int):=by rw[Int.ofNat_tmod]
   rw[e1];have hr:a % b < b:=Nat.mod_lt _ (by omega)
   have hg:Nat.gcd a b=Nat.gcd b (a % b):=by rw[Nat.gcd_comm a b,Nat.gcd_rec b a,Nat.gcd_comm]
   have hk1:1≤k:=by
    rcases Nat.eq_zero_or_pos k with h|h
    ·subst h;simp at hk;omega
    ·exact h
   match m,hm with
   | 0,hm=>omega
   | m+1,hm =>
    unfold y4N;rw[hb];by_cases h1:a % b=0
    ·rw[if_pos (by omega),hg,h1,Nat.gcd_zero_right]
     rfl
    ·rw[if_neg (by omega)]
     simp only[Option.bind_some];generalize hr2:a % b=r at *;have e2:(b:Int).tmod ((r:Nat):Int)=((b % r:Nat):Int):=(Int.ofNat_tmod b r).symm;rw[e2];have hlt:b % r < 2 ^ (k - 1):=by
      have h3:2 * (b % r) < b:=by
       have h4:b % r < r:=Nat.mod_lt _ (by omega)
       have h5:b % r+r≤b:=by
        have h6:=Nat.div_add_mod b r;have h7:1≤b / r:=Nat.div_pos (by omega) (by omega)
        have h8:r * 1≤r * (b / r):=Nat.mul_le_mul_left _ h7;omega
       omega
      have h9:2 ^ k=2 * 2 ^ (k - 1):=by
       rw[← Nat.pow_succ'];congr 1
       omega
      omega
     rw[y9n K body hb (k - 1) m r (b % r) hlt (by omega),hg,Nat.gcd_comm b,Nat.gcd_rec r b,Nat.gcd_comm]
theorem yH2(n:Int)(h0:-9223372036854775807≤n)(h1:n≤9223372036854775807):(z04 n).1=(n.natAbs:Int):=by
 unfold z04;simp only[if_true];rw[y4L (by omega) (by omega)]
 split<;>omega
theorem yHs(n:Int)(h0:-9223372036854775807≤n)(h1:n≤9223372036854775807):(if IntKind.i64.wrap (0 - n) > n then IntKind.i64.wrap (0 - n)else n)=(n.natAbs:Int):=by
 rw[y4L (by omega) (by omega)]
 split<;>omega
theorem yVh{n:Int}(h0:-9223372036854775807≤n)(h1:n≤9223372036854775807):n.natAbs < 2 ^ 63:=by
 have:(2:Nat) ^ 63=9223372036854775808:=by decide
 omega
theorem yHv(a:Nat)(n:Int)(h0:-9223372036854775807≤n)(h1:n≤9223372036854775807):y8W (a:Int) (n.natAbs:Int)=some (gI a n,()):=by
 unfold y8W;have:=y9n (fun x=>(x,())) (fun s__=>yCA s__.1 s__.2) (fun a b=>by
  unfold yCA;by_cases h:b=0
  ·subst h;rfl
  ·have e:(b != 0)=true:=by simp[h]
   have e2:(b == 0)=false:=by simp[h]
   simp only[e,e2,cond_true,cond_false,if_neg h]) 63 wMax a n.natAbs (yVh h0 h1) (by unfold wMax;omega)
 rw[this];rfl
theorem yCH(l:List Int)(i:Int)(n:Int)(a:Nat)(h0:-9223372036854775807≤n)(h1:n≤9223372036854775807):yBJ l i n (a:Int)=some (.inr (gI a n)):=by
 unfold yBJ;rw[yH2 n h0 h1];have:=y9n (fun x=>(Sum.inr x:(Int×Unit)⊕Int)) (fun s__=>yBE l ((l.length:Int)) i s__.1 s__.2) (fun a b=>by
  unfold yBE;by_cases h:b=0
  ·subst h;rfl
  ·have e:(b != 0)=true:=by simp[h]
   have e2:(b == 0)=false:=by simp[h]
   simp only[e,e2,cond_true,cond_false,if_neg h]) 63 wMax a n.natAbs (yVh h0 h1) (by unfold wMax;omega)
 rw[this];rfl
theorem yEC(a b:Int):∃ n:Nat,gI a b=(n:Int):=⟨_,rfl⟩
theorem yKA(a:Nat)(x y:Int)(h0:-9223372036854775807≤x)(h1:x≤9223372036854775807)(h2:-9223372036854775807≤y)(h3:y≤9223372036854775807):yAf (a:Int) [x,y]=some (gI (gI a x) y,()):=by
 unfold yAf;rw[bifT (yD (by simp[lenMax])),y00,yCH _ _ _ _ h0 h1]
 simp only[Option.bind_some];obtain ⟨n,hn⟩:=yEC a x;rw[hn,y00,yCH _ _ _ _ h2 h3];rfl
def comG:List Gau→Int→Int
 | [],d=>d
 | z::l,d=>comG l (gI (gI d z.1) z.2.1)
def fits(z:Gau):Prop:=(-9223372036854775807≤z.1∧z.1≤9223372036854775807)∧(-9223372036854775807≤z.2.1∧z.2.1≤9223372036854775807)
theorem yAm(xs:List Gau):∀ (l:List Gau) (i:Int) (d:Nat),(∀ z∈l,fits z)→yQ (fun i__ e__ s__=>yCO xs i__ e__ s__) (fun s__=>yEx xs s__) i l (d:Int)=some (comG l d,())
 | [],i,d,_=>rfl
 | z::l,i,d,h=>by
  have hz:=h z (by simp)
  rw[y00];unfold yCO;rw[yKA d _ _ hz.1.1 hz.1.2 hz.2.1 hz.2.2];simp only[Option.bind_some,comG];obtain ⟨n,hn⟩:=yEC (gI d z.1) z.2.1;rw[hn];exact yAm xs l (i+1) n fun z hz=>h z (by simp[hz])
theorem yGn(l:List Gau)(d:Nat)(h:∀ z∈l,fits z)(hl:l.length < lenMax):yAl l (d:Int)=some (comG l d,()):=by
 unfold yAl;rw[bifT (yD hl)];exact yAm l l 0 d h
theorem yB9(xs:List Gau):∀ (l done:List Gau) (d:Nat),xs=done++l→(∀ z∈l,fits z)→yQ (fun i__ e__ s__=>y9J xs i__ e__ s__) (fun s__=>yDr xs s__) (done.length:Int) l (d:Int)=some (comG l d,())
 | [],_,d,_,_=>rfl
 | z::l,done,d,hx,h=>by
  have hz:=h z (by simp)
  have hn:xs[done.length]?=some z:=by rw[hx];simp
  rw[y00];have hb:y9J xs (done.length:Int) z (d:Int)=some (.inr (gI (gI d z.1) z.2.1)):=by
   unfold y9J;rw[y1E,hn];simp only[Option.bind_some,if_true];rw[yHs _ hz.1.1 hz.1.2,yHv d _ hz.1.1 hz.1.2];simp only[Option.bind_some];rw[yHs _ hz.2.1 hz.2.2];obtain ⟨n,hn⟩:=yEC d z.1;rw[hn,yHv n _ hz.2.1 hz.2.2];rfl
  rw[hb];simp only[Option.bind_some,comG];obtain ⟨n,hn2⟩:=yEC (gI d z.1) z.2.1;rw[hn2];have ih:=yB9 xs l (done++[z]) n (by rw[hx];simp) fun z hz=>h z (by simp[hz])
  simp only[List.length_append,List.length_cons,List.length_nil]at ih;exact ih
theorem yIU(l:List Gau)(d:Nat)(h:∀ z∈l,fits z)(hl:l.length < lenMax):y8Q l (d:Int)=some (comG l d,()):=by
 unfold y8Q;rw[bifT (yD hl)];exact yB9 l l [] d rfl h
def y17(z:Gau):Int:=y1I [ckR z.1 (-8796093022208) 8796093022208,ckR z.2.1 (-8796093022208) 8796093022208]
theorem y4e{l:List Int}(h:y1I l=0):∀ e∈l,e=0:=by
 induction l with
 | nil=>intro e he;cases he
 | cons a l ih =>
  rw[ye]at h;unfold yN at h;by_cases ha:a=0
  ·subst ha;simp only[bne_self_eq_false,Bool.false_eq_true,if_false]at h;intro e he;rcases List.mem_cons.1 he with rfl|he
   ·rfl
   ·exact ih h e he
  ·have:(a != 0)=true:=by simp[ha]
   rw[this,if_pos rfl]at h;exact absurd h ha
theorem y1V{n lo hi:Int}(h:ckR n lo hi=0):lo≤n∧n≤hi:=by
 unfold ckR at h;split at h
 ·cases h
 ·omega
theorem yDC{z:Gau}(h:y17 z=0):(-8796093022208≤z.1∧z.1≤8796093022208)∧(-8796093022208≤z.2.1∧z.2.1≤8796093022208):=by
 have h1:=y4e h;exact ⟨y1V (h1 _ (by simp)),y1V (h1 _ (by simp))⟩
theorem y4c{z:Gau}(h:y17 z=0):fits z:=by
 have:=yDC h;unfold fits;omega
theorem yK9(z:Gau):zt_M z=some (y17 z,()):=by
 unfold zt_M zt_m;simp only[y3v];rw[y15 _ (y7Q _ _)];rfl
theorem yKs(z:Gau):zg_M z=some (y17 z,()):=by
 unfold zg_M zg_m;simp only[y0u];rw[y5K _ (y7Q _ _)];rfl
theorem yK{n:Nat}(h:n≤memMax):n < lenMax:=Nat.lt_of_le_of_lt h y5Y
theorem yIf(l:List Gau)(hl:l.length≤memMax):zF_M l (fun x=>zt_M x.1)=some (l.map y17,()):=by
 unfold zF_M;rw[bifT (yD (yK hl))];rw[y0n y17 l 0 [] (by simpa using hl) fun i e s _ hs=>by
  unfold yGR;show (Option.bind (zt_M e) _)=_
  rw[yK9];simp only[Option.bind_some];rw[bifT (yD hs)]]
 rfl
def yf(t:Tid):Int :=
 yN (y1j t.1) (yN (if t.2.1.length=t.1.length then 0 else 2) (yN (ckR t.2.2.1 1 268435456) (yN (y1I (t.2.1.map y17)) (if comG t.2.1 t.2.2.1=1 then 0 else 1))))
theorem yo{a b:Int}(h:a≠0):yN a b=a:=by unfold yN;rw[if_pos (by simpa using h)]
theorem y0R(b:Int):yN 0 b=b:=by unfold yN;rw[if_neg (by simp)]
theorem y09(a b c:Int):yN (yN a b) c=yN a (yN b c):=by
 by_cases h:a=0
 ·subst h;simp only[y0R]
 ·rw[yo h,yo h,yo h]
theorem y5s{l:List Gau}(h:y1I (l.map y17)=0):∀ z∈l,y17 z=0:=fun z hz=>y4e h _ (List.mem_map.2 ⟨z,hz,rfl⟩)
theorem yEE(t:Tid)(hn:∀ n∈t.1,n.1.length < lenMax)(hl:t.1.length < lenMax)(ha:t.2.1.length≤memMax):zr_M t=some (yf t,()):=by
 unfold zr_M zr_m;rw[yEo _ hn hl,yIf _ ha];simp only[Option.bind_some];rw[y15 _ (by rw[List.length_map];exact yK ha)]
 simp only[Option.bind_some,y2a,y3v];rw[y15 _ (yVQ _ _ _ _)];simp only[Option.bind_some];have e:(bif ((t.2.1.length:Int) != (t.1.length:Int))then (2:Int)else 0)=if t.2.1.length=t.1.length then 0 else 2:=by
  by_cases h:t.2.1.length=t.1.length
  ·rw[if_pos h,h];simp
  ·rw[if_neg h];have:((t.2.1.length:Int) != (t.1.length:Int))=true:=by simpa using fun hh=>h (by omega)
   rw[this];rfl
 rw[e,ye,ye,ye,ye,y22,y1M];unfold yf;rw[← y09,← y09,← y09,← y09,← y09];generalize hq:yN (yN (yN (y1j t.1) (if t.2.1.length=t.1.length then 0 else 2)) (ckR t.2.2.1 1 268435456)) (y1I (t.2.1.map y17))=q
 by_cases h0:q=0
 ·subst h0;have hp:y1I (t.2.1.map y17)=0∧ckR t.2.2.1 1 268435456=0:=by
   rw[y09,y09]at hq;by_cases h1:y1j t.1=0
   ·rw[h1,y0R]at hq;by_cases h2:t.2.1.length=t.1.length
    ·rw[if_pos h2,y0R]at hq;by_cases h3:ckR t.2.2.1 1 268435456=0
     ·rw[h3,y0R]at hq;exact ⟨hq,h3⟩
     ·rw[yo h3]at hq;exact absurd hq h3
    ·rw[if_neg h2,yo (by decide)]at hq;cases hq
   ·rw[yo h1]at hq;exact absurd hq h1
  have hd:=y1V hp.2;obtain ⟨d,hd2⟩:∃ d:Nat,t.2.2.1=(d:Int):=⟨t.2.2.1.toNat,by omega⟩
  rw[bifF (by rfl),y0R,hd2,yGn _ d (fun z hz=>y4c (y5s hp.1 z hz)) (yK ha)]
  simp only[Option.bind_some];by_cases hc:comG t.2.1 (d:Int)=1
  ·rw[if_pos hc,hc];rfl
  ·rw[if_neg hc];have:(comG t.2.1 (d:Int) != 1)=true:=by simpa using hc
   rw[this];rfl
 ·rw[bifT (by simpa using h0),yo h0]
theorem yDc(t:Tid)(l:List Gau)(i:Int):yQ (fun i__ e__ s__=>yGj t i__ e__) (fun s__=>yF2 t) i l ()=if y1I (l.map y17)=0 then yF2 t else some (y1I (l.map y17),()):=by
 rw[y2u (fun z=>if y17 z != 0 then some (y17 z,())else none) l i fun i z _=>by
  unfold yGj;rw[yKs];simp only[Option.bind_some];cases h:(y17 z != 0)<;>rfl]
 induction l with
 | nil=>rfl
 | cons z l ih =>
  rw[List.findSome?_cons,List.map_cons,ye];by_cases h:y17 z=0
  ·have e:(y17 z != 0)=false:=by simp[h]
   rw[e,if_neg (by simp),h,y0R]
   exact ih
  ·have e:(y17 z != 0)=true:=by simp[h]
   rw[e,if_pos rfl,yo h,if_neg h]
theorem yMb(t:Tid)(ha:t.2.1.length≤memMax):zh_M t=some (yf t,()):=by
 unfold zh_M yf;rw[yEI];simp only[Option.bind_some,y0u];by_cases h1:y1j t.1=0
 ·rw[h1,bifF (by rfl),y0R]
  by_cases h2:t.2.1.length=t.1.length
  ·rw[if_pos h2,y0R,bifF (by rw[h2];simp)]
   by_cases h3:ckR t.2.2.1 1 268435456=0
   ·rw[h3,bifF (by rfl),y0R,bifT (yD (yK ha)),yDc]
    by_cases h4:y1I (t.2.1.map y17)=0
    ·rw[if_pos h4,h4,y0R];have hd:=y1V h3;obtain ⟨d,hd2⟩:∃ d:Nat,t.2.2.1=(d:Int):=⟨t.2.2.1.toNat,by omega⟩
     unfold yF2;rw[hd2,yIU _ d (fun z hz=>y4c (y5s h4 z hz)) (yK ha)]
     simp only[Option.bind_some];by_cases hc:comG t.2.1 (d:Int)=1
     ·rw[if_pos hc,hc];rfl
     ·rw[if_neg hc];have:(comG t.2.1 (d:Int) != 1)=true:=by simpa using hc
      rw[this];rfl
    ·rw[if_neg h4,yo h4]
   ·rw[bifT (by simpa using h3),yo h3]
  ·rw[if_neg h2,yo (by decide),bifT (by simpa using fun hh=>h2 (by omega))]
 ·rw[bifT (by simpa using h1),yo h1]
end Go.Tw
end
section
set_option maxRecDepth 100000
namespace Go.Tw
open Go.Vx Go.Vx.B Go.Proofs
theorem yGO{β σ:Type}{body:Int→σ→Option (β⊕σ)}{fin:σ→Option β}{i:Int}{s:σ}:y2p body fin 0 i s=fin s:=rfl
theorem yFH{β σ:Type}{body:Int→σ→Option (β⊕σ)}{fin:σ→Option β}{m:Nat}{i:Int}{s:σ}:y2p body fin (m+1) i s=(body i s).bind fun z=>match z with
  | .inl y=>some y
  | .inr s'=>y2p body fin m (i+1) s':=rfl
theorem yCM{β γ:Type}{body:Int→List γ→Option (β⊕List γ)}{fin:List γ→Option β}(f:Int→γ) :
  ∀ (m:Nat) (i:Int) (s:List γ),s.length+m≤memMax→(∀ (k:Nat) s,k < m→s.length+1≤memMax→body (i+k) s=some (.inr (s++[f (i+k)])))→y2p body fin m i s=fin (s++(List.range m).map fun k:Nat=>f (i+k))
 | 0,i,s,_,_=>by simp[yGO]
 | m+1,i,s,hl,h=>by
  have h0:=h 0 s (by omega) (by omega)
  rw[show i+((0:Nat):Int)=i by omega]at h0
  rw[yFH,h0];simp only[Option.bind_some];rw[yCM f m (i+1) (s++[f i]) (by simp;omega) fun k s hk hs=>by
   have:=h (k+1) s (by omega) hs
   rw[show i+((k+1:Nat):Int)=i+1+(k:Int) by omega]at this
   exact this]
  congr 1
  rw[List.range_succ_eq_map,List.map_cons,List.map_map,List.append_assoc];congr 1
  simp only[List.singleton_append,List.cons.injEq];refine ⟨by congr 1;omega,List.map_congr_left fun k _=>?_⟩
  show f (i+1+(k:Int))=f (i+((k+1:Nat):Int))
  congr 1
  omega
def yPK(c:Con):Prop:=(1≤c.2.1∧c.2.1≤96)∧(0≤c.2.2.1∧c.2.2.1≤3)
structure okT (t:Tid):Prop where
 len:t.1.length=t.2.1.length
 few:t.1.length≤4
 con:∀ c∈t.1,yPK c
 den:1≤t.2.2.1∧t.2.2.1≤268435456
 part:∀ z∈t.2.1,y17 z=0
 red:comG t.2.1 t.2.2.1=1
theorem yR{a b:Int}(h:yN a b=0):a=0∧b=0:=by
 by_cases ha:a=0
 ·subst ha;rw[y0R]at h;exact ⟨rfl,h⟩
 ·rw[yo ha]at h;exact absurd h ha
theorem yDt:∀ (l done:List Con),yCo done l=0→∀ c∈l,y9z c=0
 | [],_,_,c,hc=>by cases hc
 | n::l,done,h,c,hc=>by
  obtain ⟨h1,h2⟩:=yR h;rcases List.mem_cons.1 hc with rfl|hc
  ·exact (yR h1).1
  ·exact yDt l _ h2 c hc
theorem yKk{c:Con}(h:y9z c=0):yPK c∧isNm c.1=true:=by
 have h1:=y4e h;refine ⟨⟨y1V (h1 _ (by simp)),y1V (h1 _ (by simp))⟩,?_⟩
 have:=h1 _ (List.mem_cons_self ..);cases hn:isNm c.1 with
 | true=>rfl
 | false=>rw[hn]at this;cases this
theorem yIQ{l:List Con}(h:y1j l=0):0 < l.length∧l.length≤4∧(∀ c∈l,yPK c):=by
 unfold y1j at h;split at h
 ·cases h
 ·split at h
  ·cases h
  ·exact ⟨by omega,by omega,fun c hc=>(yKk (yDt l [] h c hc)).1⟩
theorem y07{t:Tid}(h:yf t=0):okT t:=by
 unfold yf at h;obtain ⟨h1,h2⟩:=yR h;obtain ⟨h3,h4⟩:=yR h2;obtain ⟨h5,h6⟩:=yR h4;obtain ⟨h7,h8⟩:=yR h6;obtain ⟨a1,a2,a3⟩:=yIQ h1;refine ⟨?_,a2,a3,y1V h5,y5s h7,?_⟩
 ·by_cases hl:t.2.1.length=t.1.length
  ·exact hl.symm
  ·rw[if_neg hl]at h3;cases h3
 ·by_cases hg:comG t.2.1 t.2.2.1=1
  ·exact hg
  ·rw[if_neg hg]at h8;cases h8
end Go.Tw
end
