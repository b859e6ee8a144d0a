import Derived.Test.YtlaebedgpkiodaaGreatDoorPS
import Derived.Test.YtlaebedgpkiodaaGreatDoorPA
import Derived.Test.YtlaebedgpkiodaaGreatDoorBZ
import Derived.Test.YtlaebedgpkiodaaGreatDoorBD
set_option linter.all false
open List (length_append length_cons length_nil mem_cons mem_cons_of_mem mem_cons_self not_mem_nil zipWith_append zipWith_cons_cons)
open Option (bind_eq_some_iff bind_some map_eq_some_iff)
section
set_option maxRecDepth 1000000
namespace Go.Tw
open Go.Vx Go.Vx.B Go.S Go.SA Go.Lib
def TIDE:Str:=[116,105,100,101]
def CONS:Str:=[99,111,110,115,116,105,116,117,101,110,116]
def Z0:Tid:=([],[],0,())
def rdH(w:List Str):Option Int:=
 match w with
 |[k,x]=>if k=TIDE then sgn 15 x else none
 |_=>none
def rdC(c:List Con×List Gau)(w:List Str):Option (List Con×List Gau):=
 match w with
 |[k,nm,a,b,x,y]=>if k=CONS/\nm≠[]then (sgn 15 a).bind λ a=>(sgn 15 b).bind λ b=>(sgn 15 x).bind λ x=>(sgn 15 y).map λ y=>(c.1++[(nm,a,b,())],c.2++[(x,y,())])else none
 |_=>none
def rdT(n:Nat)(d:Int)(c:List Con×List Gau)(w:List Str):Option (Int×List Con×List Gau):=if n=0 then (rdH w).map λ d=>(d,c)else (rdC c w).map λ c=>(d,c)
def prsL(n:Nat)(d:Int)(c:List Con×List Gau):List Str->Tid×Int×Int×Unit
 |[]=>(Z0,n,26,())
 |[t]=>if t=[]/\0 < n then (if y0A (c.1,c.2,d,())=0 then ((c.1,c.2,d,()),0,0,())else (Z0,n,y0A (c.1,c.2,d,()),()))else (Z0,n,26,())
 |l::t::ls=>match rdT n d c (yZ 32 l)with
  |none=>(Z0,n,26,())
  |some (d',c')=>prsL (n+1) d' c' (t::ls)
def prs(s:Str):Tid×Int×Int×Unit:=if 4096 < s.length then (Z0,0,27,())else prsL 0 0 ([],[]) (yZ 10 s)
theorem y3H(n:Nat)(d:Int)(c:List Con×List Gau)(l:Str){r:List Str}(h:r≠[]):prsL n d c (l::r)=(match rdT n d c (yZ 32 l)with|none=>(Z0,(n:Int),26,())|some (d',c')=>prsL (n+1) d' c' r):=by
 cases r with
 |nil=>exact absurd rfl h
 |cons t ls=>rfl
def Inv(n:Nat)(c:List Con×List Gau)(m:Nat):Prop:=c.1.length<=n/\c.2.length<=n/\n+m<=4097/\∀ x∈c.1,x.1.length<=4097
theorem yME{n m:Nat}{d d':Int}{c c':List Con×List Gau}{w:List Str}(h:Inv n c (m+1))(hw:∀ x∈w,x.length<=4097)(hr:rdT n d c w=some (d',c')):Inv (n+1) c' m:=by
 obtain ⟨h1,h2,h3,h4⟩:=h;unfold rdT at hr;split at hr
 ·obtain ⟨x,_,e⟩:=map_eq_some_iff.1 hr;cases e;exact ⟨by omega,by omega,by omega,h4⟩
 ·obtain ⟨x,hx,e⟩:=map_eq_some_iff.1 hr;cases e;unfold rdC at hx;split at hx
  ·rename_i k nm a b x y;split at hx
   ·obtain ⟨a,_,hx⟩:=bind_eq_some_iff.1 hx;obtain ⟨b,_,hx⟩:=bind_eq_some_iff.1 hx;obtain ⟨x,_,hx⟩:=bind_eq_some_iff.1 hx;obtain ⟨y,_,rfl⟩:=map_eq_some_iff.1 hx;refine ⟨by simp;omega,by simp;omega,by omega,λ z hz=>?_⟩
    rcases List.mem_append.1 hz with hz|hz
    ·exact h4 z hz
    ·rw[List.mem_singleton]at hz;subst hz;exact hw nm (by simp)
   ·cases hx
  ·cases hx
end Go.Tw
end
section
set_option maxRecDepth 1000000
namespace Go.Tw
open Go.Vx Go.Vx.B Go.S Go.SA Go.Lib
def lnH(d:Int):Str:=y08 32 [TIDE,itoa d]
def lnC(x:Con)(z:Gau):Str:=y08 32 [CONS,x.1,itoa x.2.1,itoa x.2.2.1,itoa z.1,itoa z.2.1]
def ends:List Str->Str
 |[]=>[]
 |l::r=>l++10::ends r
def prn(t:Tid):Str:=ends (lnH t.2.2.1::List.zipWith lnC t.1 t.2.1)
def N15(n:Int):Prop:=n.natAbs < 10 ^ 15
theorem N15.i64{n:Int}(h:N15 n):I64 n:=by unfold N15 at h;unfold I64;omega
theorem N15.len{n:Int}(h:N15 n):(itoa n).length<=16:=by
 have:=yGh 14 n.natAbs h;unfold itoa;split
 ·simp only[length_cons,decDigits_length];omega
 ·rw[decDigits_length,show n.toNat=n.natAbs by omega];omega
structure SmallC (x:Con):Prop where
 name:x.1.length<=60
 n1:N15 x.2.1
 n2:N15 x.2.2.1
structure SmallG (z:Gau):Prop where
 n1:N15 z.1
 n2:N15 z.2.1
theorem yDP{x:Con}{z:Gau}(h:SmallC x)(hz:SmallG z):(lnC x z).length<=150:=by
 have h1:=h.n1.len;have h2:=h.n2.len;have h3:=hz.n1.len;have h4:=hz.n2.len;have h5:=h.name;unfold lnC y08 y08 y08 y08 y08 y08;simp only[length_append,length_cons,show CONS.length=11 from rfl]
 omega
theorem y5y(of:Int×Unit->Option (List UInt8×Unit))(L:List Int)(h:∀ n,I64 n->of (n,())=some (itoa n,())):∀ (l:List Int) (i:Int) (acc:List Str),(∀ n∈l,I64 n)->acc.length+l.length<=memMax ->
  yS (λ i__ e__ s__=>yIN of L i__ e__ s__) (λ s__=>yKR of L s__) i l acc=some (acc++l.map itoa,())
 |[],i,acc,_,_=>by simp[yS,yKR]
 |n::l,i,acc,hn,hl=>by
  simp only[length_cons]at hl;simp only[yS];have hb:yIN of L i n acc=some (.inr (acc++[itoa n])):=by
   unfold yIN;rw[h n (hn n (mem_cons_self ..)),bind_some,bT (dT (by omega))]
  rw[hb];simp only[bind_some];rw[y5y of L h l (i+1) (acc++[itoa n]) (λ m hm=>hn m (mem_cons_of_mem _ hm)) (by simp;omega)]
  simp
theorem yE3(l:List Int)(hn:∀ n∈l,I64 n)(hl:l.length<=memMax):zN_M l (λ (x:Int×Unit)=>y99 x.1)=some (l.map itoa,()):=by
 unfold zN_M;have:=y8l;rw[bT (dT (by omega)),y5y _ l (λ n h=>y64 n h) l 0 [] hn (by simpa using hl)]
 rfl
theorem y8q{β σ:Type}{body:Int->Con->σ->Option (β⊕σ)}{fin:σ->Option β}(g:Str->σ)(Z:List Gau)(B:Nat):∀ (l:List Con) (i:Nat) (s:Str),(Z.drop i).length=l.length ->
  (∀ (j:Nat) e y s,e∈l->Z[j]?=some y->s.length<=B->body (j:Int) e (g s)=some (.inr (g (s++lnC e y++[10]))))->(∀ e∈l,∀ y∈Z,(lnC e y).length<=150)->s.length+l.length * 151<=B ->
  yS body fin (i:Int) l (g s)=fin (g (s++ends (List.zipWith lnC l (Z.drop i))))
 |[],i,s,_,_,_,_=>by simp[yS,ends]
 |e::l,i,s,hz,hb,hf,hl=>by
  simp only[length_cons,Nat.succ_mul]at hl;have hi:i < Z.length:=by
   rw[List.length_drop,length_cons]at hz;omega
  have hd:Z.drop i=Z[i]::Z.drop (i+1):=(List.getElem_cons_drop (h:=hi)).symm;have h1:=hf e (mem_cons_self ..) Z[i] (List.getElem_mem hi);simp only[yS];rw[hb i e Z[i] s (mem_cons_self ..) (List.getElem?_eq_getElem hi) (by omega)]
  simp only[bind_some];have ih:=y8q (body:=body) (fin:=fin) g Z B l (i+1) (s++lnC e Z[i]++[10]) (by rw[List.length_drop,length_cons]at hz;rw[List.length_drop];omega) (λ j e y s he=>hb j e y s (mem_cons_of_mem _ he)) (λ e he=>hf e (mem_cons_of_mem _ he)) (by simp only[length_append,List.length_singleton];omega)
  rw[show ((i+1:Nat):Int)=(i:Int)+1 by omega]at ih
  rw[ih,hd];simp only[zipWith_cons_cons,ends,List.append_assoc,List.cons_append,List.nil_append]
theorem yK0(t:Tid)(T:List Con)(i:Nat)(e:Con)(z:Gau)(s:Str)(hz:t.2.1[i]?=some z)(he:SmallC e)(hg:SmallG z)(hs:s.length<=1000000):y9R t T (i:Int) e (y00 s)=some (.inr (y00 (s++lnC e z++[10]))):=by
 have hlen:=yDP he hg;have h5:=he.name;have hmm:(1000000:Nat)+1000 < memMax:=by decide
 have hsm:(1000000:Nat)+1000 < strMax:=by decide
 unfold y9R;rw[y9V,hz,bind_some,yE3 _ (by intro n hn;simp only[mem_cons,not_mem_nil,or_false]at hn;rcases hn with rfl|rfl|rfl|rfl;exact he.n1.i64;exact he.n2.i64;exact hg.n1.i64;exact hg.n2.i64) (by show 4<=memMax;decide),bind_some]
 have hj1:(y08 32 [itoa e.2.1,itoa e.2.2.1,itoa z.1,itoa z.2.1]).length<=150:=by
  have e1:lnC e z=CONS++32::(e.1++32::y08 32 [itoa e.2.1,itoa e.2.2.1,itoa z.1,itoa z.2.1]):=rfl;rw[e1]at hlen;simp only[length_append,length_cons]at hlen;omega
 have hj:yBt ([e.2.1,e.2.2.1,z.1,z.2.1].map itoa) [32]=some (y08 32 [itoa e.2.1,itoa e.2.2.1,itoa z.1,itoa z.2.1],()):=yKE _ (by show 4<=140737488355328;decide) (by show (y08 32 [itoa e.2.1,itoa e.2.2.1,itoa z.1,itoa z.2.1]).length<=_;omega)
 rw[hj];simp only[bind_some,length_append,length_cons,length_nil,y00,List.length_map];rw[bT (dT (by omega)),bT (dT (by omega)),bT (dT (by omega)),bT (dT (by omega)),bT (dT (by omega))]
 simp[lnC,y08,CONS]
structure SmallT (t:Tid):Prop where
 cons:t.1.length<=4
 same:t.2.1.length=t.1.length
 con:∀ x∈t.1,SmallC x
 gau:∀ z∈t.2.1,SmallG z
 den:N15 t.2.2.1
theorem yLx{d:Int}(h:N15 d):(lnH d).length<=30:=by
 have:=h.len;unfold lnH y08 y08;simp only[length_append,length_cons,show TIDE.length=4 from rfl]
 omega
theorem y7q(s:Str):(y00 s).length=s.length:=by simp[y00]
theorem yDi(t:Tid):0 < (prn t).length:=by unfold prn;simp[ends];omega
theorem yBs(t:Tid)(h:SmallT t):(Option.bind (Tw.y99 t.snd.snd.fst) λ (v1:List UInt8×Unit)=>(bif Decidable.decide ((5:Nat)+v1.fst.length < Vx.strMax)then (bif Decidable.decide (([(116:UInt8),(105:UInt8),(100:UInt8),(101:UInt8),(32:UInt8)]++v1.fst).length+(1:Nat) < Vx.strMax)then (bif Decidable.decide ((0:Nat)+([(116:UInt8),(105:UInt8),(100:UInt8),(101:UInt8),(32:UInt8)]++v1.fst++[(10:UInt8)]).length<=Vx.memMax)then (bif decide (List.length (t.fst) < lenMax)then yS (λ i__ e__ s__=>y9R (t) (t.fst) i__ e__ s__) (λ s__=>y9w (t) (t.fst) s__) 0 (t.fst) (Vx.y00 ([(116:UInt8),(105:UInt8),(100:UInt8),(101:UInt8),(32:UInt8)]++v1.fst++[(10:UInt8)]))else none)else none)else none)else none))=some (prn t,0,()):=by
 have h1:=h.cons;have hd:=h.den.len;have hlm:(1000:Nat) < lenMax:=by decide
 have hmm:(1000000:Nat)+1000 < memMax:=by decide
 have hsm:(1000000:Nat)+1000 < strMax:=by decide
 rw[y64 _ h.den.i64,bind_some,bT (dT (by show 5+(itoa t.2.2.1).length < strMax;omega)),bT (dT (by simp only[length_append,length_cons,length_nil];omega)),bT (dT (by simp only[length_append,length_cons,length_nil];omega)),bT (dT (by omega))]
 have hL:=y8q (body:=λ i__ e__ s__=>y9R t t.1 i__ e__ s__) (fin:=λ s__=>y9w t t.1 s__) y00 t.2.1 1000000 t.1 0 ([116,105,100,101,32]++itoa t.2.2.1++[10]) (by simpa using h.same)
  (λ j e y s he hy hs=>yK0 t t.1 j e y s hy (h.con e he) (h.gau y (List.mem_of_getElem? hy)) hs) (λ e he y hy=>yDP (h.con e he) (h.gau y hy)) (by simp only[length_append,length_cons,length_nil];omega)
 refine hL.trans ?_
 have e:[116,105,100,101,32]++itoa t.2.2.1++[10]++ends (List.zipWith lnC t.1 (t.2.1.drop 0))=prn t:=by
  rw[List.drop_zero];unfold prn lnH;simp[ends,y08,TIDE]
 rw[e];show y9w t t.1 (y00 (prn t))=_
 unfold y9w;rw[bT (dT (by rw[y7q];exact yDi t)),bT (by rw[yBY,dT (by rw[y7q];exact yDi t)];simp),yFt]
end Go.Tw
end
section
set_option maxRecDepth 1000000
namespace Go.Tw
open Go.Vx Go.Vx.B Go.S Go.SA Go.Lib
theorem yAZ{s:Str}(h:isNm s=true):0 < s.length/\s.length<=24:=by
 unfold isNm at h;simp only[Bool.and_eq_true,decide_eq_true_eq]at h;exact h.2
theorem y5u{t:Tid}(h:y0A t=0):∀ c∈t.1,isNm c.1=true:=by
 unfold y0A at h;obtain ⟨h1,_⟩:=y0F h;unfold y4H at h1;split at h1
 ·cases h1
 ·split at h1
  ·cases h1
  ·exact λ c hc=>(yFL (yB0 _ _ h1 c hc)).2
theorem y7k{t:Tid}(h:y0A t=0):SmallT t:=by
 have ho:=yBW h;refine ⟨ho.few,ho.len.symm,λ x hx=>?_,λ z hz=>?_,?_⟩
 ·obtain ⟨⟨h1,h2⟩,h3,h4⟩:=ho.con x hx;refine ⟨by have:=yAZ (y5u h x hx);omega,?_,?_⟩<;>unfold N15<;>omega
 ·have hp:=y3b (ho.part z hz);have h1:=y2J (hp _ (mem_cons_self ..));have h2:=y2J (hp (ckR z.2.1 (-8796093022208) 8796093022208) (by simp))
  refine ⟨?_,?_⟩<;>unfold N15<;>omega
 ·have:=ho.den;unfold N15;omega
theorem yBX(t:Tid)(hn:∀ n∈t.1,n.1.length < lenMax)(hl:t.1.length < lenMax)(ha:t.2.1.length<=memMax):yFr t=some (if y0A t=0 then (prn t,0,())else ([],y0A t,())):=by
 unfold yFr;rw[yLq t hn hl ha,bind_some];by_cases h:y0A t=0
 ·rw[bF (by rw[h];rfl),if_pos h]
  exact yBs t (y7k h)
 ·rw[bT (by rw[bne_iff_ne];exact h),if_neg h]
theorem yEM:∀ (a b:List Str),ends (a++b)=ends a++ends b
 |[],b=>rfl
 |l::a,b=>by simp[ends,yEM a b]
def body(c:List Con×List Gau):Str:=ends (List.zipWith lnC c.1 c.2)
theorem yMS{c c':List Con×List Gau}{w:List Str}(he:c.1.length=c.2.length)(hr:rdC c w=some c'):c'.1.length=c'.2.length/\body c'=body c++y08 32 w++[10]:=by
 unfold rdC at hr;split at hr
 ·rename_i k nm a b x y;split at hr
  ·rename_i hk;obtain ⟨a',ha,hr⟩:=bind_eq_some_iff.1 hr;obtain ⟨b',hb,hr⟩:=bind_eq_some_iff.1 hr;obtain ⟨x',hx,hr⟩:=bind_eq_some_iff.1 hr;obtain ⟨y',hy,rfl⟩:=map_eq_some_iff.1 hr;obtain ⟨rfl,hn⟩:=hk;refine ⟨by simp[he],?_⟩
   unfold body;dsimp only;rw[zipWith_append he,yEM];unfold lnC;simp only[zipWith_cons_cons,List.zipWith_nil_left,ends];rw[(y2r ha).1,(y2r hb).1,(y2r hx).1,(y2r hy).1];simp
  ·cases hr
 ·cases hr
theorem yEf:∀ (ls:List Str) (n:Nat) (d:Int) (c:List Con×List Gau),0 < n->c.1.length=c.2.length->ls≠[]->(prsL n d c ls).2.2.1=0->y0A (prsL n d c ls).1=0/\prn (prsL n d c ls).1=lnH d++10::(body c++y08 10 ls)
 |[],_,_,_,_,_,h,_=>absurd rfl h
 |[t],n,d,c,hn,he,_,h=>by
  unfold prsL at h ⊢;split at h
  ·rename_i ht;rw[if_pos ht];split at h
   ·rename_i h0;rw[if_pos h0,ht.1];exact ⟨h0,by unfold prn body;simp[ends,y08]⟩
   ·rename_i h0;exact absurd h h0
  ·exact absurd h (by show ¬ (26:Int)=0;decide)
 |l::t::ls,n,d,c,hn,he,_,h=>by
  rw[y3H n d c l (by simp)]at h ⊢
  split at h
  ·exact absurd h (by show ¬ (26:Int)=0;decide)
  ·rename_i d' c' hr;unfold rdT at hr;rw[if_neg (by omega)]at hr
   obtain ⟨c2,hc2,e⟩:=map_eq_some_iff.1 hr;cases e;obtain ⟨g1,g2⟩:=yMS he hc2;obtain ⟨k1,k2⟩:=yEf (t::ls) (n+1) d c' (by omega) g1 (by simp) h
   refine ⟨k1,?_⟩;rw[k2,g2,y0h,y0x 10 l (by simp)]
   simp
theorem yMV(s:Str)(h:(prs s).2.2.1=0):y0A (prs s).1=0/\prn (prs s).1=s:=by
 unfold prs at h ⊢;split at h
 ·exact absurd h (by decide)
 ·rename_i hl;rw[if_neg hl];have hj:=y0h 10 s;cases hs:yZ 10 s with
  |nil=>exact absurd hs (y1e 10 s)
  |cons l r =>
   rw[hs]at h hj;cases r with
   |nil =>
    unfold prsL at h;rw[if_neg (λ hh=>by omega)]at h
    exact absurd h (by show ¬ (26:Int)=0;decide)
   |cons t ls =>
    rw[y3H 0 0 ([],[]) l (by simp)]at h ⊢
    split at h
    ·exact absurd h (by show ¬ (26:Int)=0;decide)
    ·rename_i d' c' hr;unfold rdT at hr;rw[if_pos rfl]at hr;obtain ⟨d2,hd2,e⟩:=map_eq_some_iff.1 hr;cases e;obtain ⟨k1,k2⟩:=yEf (t::ls) 1 d' ([],[]) (by omega) rfl (by simp) h
     refine ⟨k1,?_⟩;rw[k2,<- hj,y0x 10 l (by simp)]
     have e1:lnH d'=l:=by
      unfold rdH at hd2;split at hd2
      ·rename_i k x hw;split at hd2
       ·rename_i hk;unfold lnH;rw[(y2r hd2).1,<- hk,<- hw,y0h]
       ·cases hd2
      ·cases hd2
     rw[e1];rfl
end Go.Tw
end
section
set_option maxRecDepth 1000000
namespace Go.Tw
open Go.Vx Go.Vx.B Go.S Go.SA Go.Lib
theorem yJE{s:Str}(h:isNm s=true):s≠[]/\(32:UInt8) ∉ s/\(10:UInt8) ∉ s:=by
 have hl:=(yAZ h).1;unfold isNm at h;simp only[Bool.and_eq_true]at h;have key:∀ (b:Bool) (l:List UInt8),nmOk b l=true->∀ c∈l,y4U c.toNat=true\/y6t c.toNat=true:=by
  intro b l;induction l generalizing b with
  |nil=>intro _ c hc;cases hc
  |cons a l ih =>
   intro hh c hc;unfold nmOk at hh;simp only[Bool.and_eq_true,Bool.or_eq_true]at hh;rcases mem_cons.1 hc with rfl|hc
   ·rcases hh.1 with h1|h1
    ·exact .inl h1
    ·exact .inr h1.2
   ·exact ih _ hh.2 c hc
 have:=key _ _ h.1;refine ⟨by intro e;subst e;simp at hl,λ hm=>?_,λ hm=>?_⟩
 ·rcases this _ hm with h1|h1<;>exact absurd h1 (by decide)
 ·rcases this _ hm with h1|h1<;>exact absurd h1 (by decide)
theorem y19(v:Int):(32:UInt8) ∉ itoa v/\(10:UInt8) ∉ itoa v:=by
 refine ⟨λ h=>?_,λ h=>?_⟩
 ·rcases yEg h with h|h
  ·exact absurd h (by decide)
  ·exact absurd h (by decide)
 ·rcases yEg h with h|h
  ·exact absurd h (by decide)
  ·exact absurd h (by decide)
theorem y6i{c d:UInt8}(hd:d≠c):∀ {l:List Str},(∀ x∈l,c ∉ x)->c ∉ y08 d l
 |[],_=>by simp[y08]
 |[x],h=>h x (mem_cons_self ..)
 |x::y::r,h=>by
  rw[y0x d x (by simp)]
  simp only[List.mem_append,mem_cons,not_or];exact ⟨h x (mem_cons_self ..),λ e=>hd e.symm,y6i hd λ z hz=>h z (mem_cons_of_mem _ hz)⟩
theorem yI3{v:Int}(h:N15 v):sgn 15 (itoa v)=some v:=yER (mx:=14) h
theorem yH9(d0:Int)(c:List Con×List Gau)(d:Int)(h:N15 d):rdT 0 d0 c (yZ 32 (lnH d))=some (d,c):=by
 unfold lnH;rw[y2k 32 _ (by simp) (by
  intro y hy;simp only[mem_cons,not_mem_nil,or_false]at hy;rcases hy with rfl|rfl
  ·decide
  ·exact (y19 _).1)]
 unfold rdT rdH;rw[if_pos rfl];dsimp only;rw[if_pos rfl,yI3 h];rfl
theorem yMr(n:Nat)(hn0:0 < n)(d:Int)(c:List Con×List Gau)(x:Con)(z:Gau)(hx:SmallC x)(hz:SmallG z)(hn:isNm x.1=true):rdT n d c (yZ 32 (lnC x z))=some (d,c.1++[x],c.2++[z]):=by
 obtain ⟨h1,h2,_⟩:=yJE hn;unfold lnC;rw[y2k 32 _ (by simp) (by
  intro y hy;simp only[mem_cons,not_mem_nil,or_false]at hy;rcases hy with rfl|rfl|rfl|rfl|rfl|rfl
  ·decide
  ·exact h2
  ·exact (y19 _).1
  ·exact (y19 _).1
  ·exact (y19 _).1
  ·exact (y19 _).1)]
 unfold rdT rdC;rw[if_neg (by omega)]
 dsimp only;rw[if_pos (show CONS=CONS/\x.1≠[]from ⟨rfl,h1⟩),yI3 hx.n1,yI3 hx.n2,yI3 hz.n1,yI3 hz.n2]
 rfl
theorem y6d(d:Int):∀ (l:List Con) (z:List Gau) (n:Nat) (c:List Con×List Gau) (r:List Str),0 < n->l.length=z.length->(∀ x∈l,SmallC x/\isNm x.1=true)->(∀ y∈z,SmallG y)->r≠[] ->
  prsL n d c (List.zipWith lnC l z++r)=prsL (n+l.length) d (c.1++l,c.2++z) r
 |[],[],n,c,r,_,_,_,_,_=>by simp
 |x::l,y::z,n,c,r,hn,hl,hx,hy,hr=>by
  simp only[length_cons,Nat.add_right_cancel_iff]at hl;obtain ⟨h1,h2⟩:=hx x (mem_cons_self ..);rw[zipWith_cons_cons,List.cons_append,y3H n d c _ (by simp[hr]),yMr n hn d c x y h1 (hy y (mem_cons_self ..)) h2]
  dsimp only;rw[y6d d l z (n+1) (c.1++[x],c.2++[y]) r (by omega) hl (λ w hw=>hx w (mem_cons_of_mem _ hw)) (λ w hw=>hy w (mem_cons_of_mem _ hw)) hr]
  simp[Nat.add_assoc,Nat.add_comm 1 l.length]
 |[],_::_,_,_,_,_,h,_,_,_=>by simp at h
 |_::_,[],_,_,_,_,h,_,_,_=>by simp at h
def lns(t:Tid):List Str:=lnH t.2.2.1::List.zipWith lnC t.1 t.2.1
theorem yEe{t:Tid}(h:y0A t=0):∀ l∈lns t,(10:UInt8) ∉ l/\l≠[]:=by
 intro l hl;rcases mem_cons.1 hl with rfl|hl
 ·refine ⟨y6i (by decide) λ y hy=>?_,by simp[lnH,y08,TIDE]⟩
  simp only[mem_cons,not_mem_nil,or_false]at hy;rcases hy with rfl|rfl
  ·decide
  ·exact (y19 _).2
 ·obtain ⟨i,hi,rfl⟩:=List.mem_iff_getElem.1 hl;rw[List.getElem_zipWith];have hi1:i < t.1.length:=by rw[List.length_zipWith]at hi;omega
  obtain ⟨h1,h2,h3⟩:=yJE (y5u h t.1[i] (List.getElem_mem hi1));refine ⟨y6i (by decide) λ y hy=>?_,by simp[lnC,y08,CONS]⟩
  simp only[mem_cons,not_mem_nil,or_false]at hy;rcases hy with rfl|rfl|rfl|rfl|rfl|rfl
  ·decide
  ·exact h3
  ·exact (y19 _).2
  ·exact (y19 _).2
  ·exact (y19 _).2
  ·exact (y19 _).2
theorem y9K:∀ (l:List Str),(∀ x∈l,(10:UInt8) ∉ x)->yZ 10 (ends l)=l++[[]]
 |[],_=>rfl
 |x::l,h=>by
  unfold ends;rw[y2M 10 x _ (h x (mem_cons_self ..)),y9K l λ y hy=>h y (mem_cons_of_mem _ hy)]
  rfl
theorem yC4:∀ (l:List Str),l≠[]->ends l=y08 10 l++[10]
 |[],h=>absurd rfl h
 |[x],_=>by simp[ends,y08]
 |x::y::r,_=>by
  rw[y0x 10 x (by simp)]
  unfold ends;rw[yC4 (y::r) (by simp)]
  simp
theorem y5v{t:Tid}(h:y0A t=0):(prn t).length<=1000:=by
 have hs:=y7k h;have h1:=yLx hs.den;have key:∀ (l:List Con) (z:List Gau),(∀ x∈l,SmallC x)->(∀ y∈z,SmallG y)->(ends (List.zipWith lnC l z)).length<=l.length * 151:=by
  intro l;induction l with
  |nil=>intro z _ _;simp[ends]
  |cons x l ih =>
   intro z hx hz;cases z with
   |nil=>simp[ends]
   |cons y z =>
    have h1:=yDP (hx x (mem_cons_self ..)) (hz y (mem_cons_self ..));have h2:=ih z (λ w hw=>hx w (mem_cons_of_mem _ hw)) (λ w hw=>hz w (mem_cons_of_mem _ hw))
    simp only[zipWith_cons_cons,ends,length_append,length_cons,Nat.succ_mul];omega
 have h2:=key t.1 t.2.1 hs.con hs.gau;have h3:=hs.cons;unfold prn;simp only[ends,length_append,length_cons];omega
theorem yCv{t:Tid}(h:y0A t=0):yZ 10 (prn t)=lns t++[[]]:=y9K (lns t) λ l hl=>(yEe h l hl).1
theorem yG8{t:Tid}(h:y0A t=0):prs (prn t)=(t,0,0,()):=by
 have hl:=y5v h;have hs:=y7k h;unfold prs;rw[if_neg (by omega),yCv h]
 unfold lns;rw[List.cons_append,y3H 0 0 ([],[]) _ (by simp),yH9 0 ([],[]) _ hs.den]
 dsimp only;rw[y6d t.2.2.1 t.1 t.2.1 1 ([],[]) [[]] (by omega) hs.same.symm (λ x hx=>⟨hs.con x hx,y5u h x hx⟩) hs.gau (by simp)]
 unfold prsL;rw[if_pos ⟨rfl,by omega⟩]
 show (if y0A t=0 then _ else _)=_
 rw[if_pos h];rfl
theorem yNA{t:Tid}(h:y0A t=0):prs ((prn t).take ((prn t).length - 1))=(Z0,(t.1.length:Int),26,()):=by
 have hl:=y5v h;have hs:=y7k h;have hf:=yEe h;have e1:prn t=y08 10 (lns t)++[10]:=yC4 (lns t) (by simp[lns])
 have e2:(prn t).take ((prn t).length - 1)=y08 10 (lns t):=by
  rw[e1,length_append,List.length_singleton,Nat.add_sub_cancel,List.take_left]
 have e3:(y08 10 (lns t)).length<=1000:=by
  have:=congrArg List.length e1;simp only[length_append,List.length_singleton]at this;omega
 have hpos:0 < t.1.length:=by
  unfold y0A at h;obtain ⟨h1,_⟩:=y0F h;exact (yBl h1).1
 rw[e2];unfold prs;rw[if_neg (by omega),y2k 10 (lns t) (by simp[lns]) λ l hl=>(hf l hl).1]
 obtain ⟨l0,x,hx⟩:∃ l0 x,t.1=l0++[x]:=⟨t.1.dropLast,t.1.getLast (List.length_pos_iff.1 hpos),(List.dropLast_concat_getLast _).symm⟩;have hz:t.2.1≠[]:=List.length_pos_iff.1 (by rw[hs.same];exact hpos)
 obtain ⟨z0,y,hy⟩:∃ z0 y,t.2.1=z0++[y]:=⟨t.2.1.dropLast,t.2.1.getLast hz,(List.dropLast_concat_getLast hz).symm⟩;have hlen:l0.length=z0.length:=by
  have:=hs.same;rw[hx,hy]at this;simp at this;omega
 have hlast:lnC x y≠[]:=by
  refine (hf _ ?_).2;unfold lns;rw[hx,hy,zipWith_append hlen];simp
 unfold lns;have hne:List.zipWith lnC t.1 t.2.1≠[]:=by
  rw[hx,hy,zipWith_append hlen];simp
 rw[y3H 0 0 ([],[]) _ hne,yH9 0 ([],[]) _ hs.den];dsimp only;rw[hx,hy,zipWith_append hlen,y6d t.2.2.1 l0 z0 1 ([],[]) (List.zipWith lnC [x] [y]) (by omega) hlen (λ w hw=>by
   have hm:w∈t.1:=by rw[hx];exact List.mem_append_left _ hw
   exact ⟨hs.con w hm,y5u h w hm⟩) (λ w hw=>hs.gau w (by rw[hy];exact List.mem_append_left _ hw)) (by simp)]
 simp only[zipWith_cons_cons,List.zipWith_nil_left];unfold prsL;rw[if_neg (λ hh=>hlast hh.1),length_append,List.length_singleton,Nat.add_comm]
end Go.Tw
end
