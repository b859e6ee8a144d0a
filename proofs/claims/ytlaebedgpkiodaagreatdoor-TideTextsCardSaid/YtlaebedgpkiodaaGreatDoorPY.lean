import Derived.Test.YtlaebedgpkiodaaGreatDoorPS
import Derived.Test.YtlaebedgpkiodaaGreatDoorPA
import Derived.Test.YtlaebedgpkiodaaGreatDoorBZ
import Derived.Test.YtlaebedgpkiodaaGreatDoorBD
set_option linter.all false
open List (length_append length_cons length_nil mem_cons_self)
open Option (bind_eq_some_iff bind_some isSome_some map_eq_some_iff)
section
set_option maxRecDepth 1000000
namespace Go.Tw
open Go.Vx Go.Vx.B Go.S Go.SA Go.Lib
def TIDE:Str:=[116,105,100,101]
def CONS:Str:=[99,111,110,115,116,105,116,117,101,110,116]
def Z0:Tid:=([],[],0,())
def rdH(w:List Str):Option Int:=
 match w with
 |[k,x]=>if k=TIDE then sgn 15 x else none
 |_=>none
def rdC(c:List Con×List Gau)(w:List Str):Option (List Con×List Gau):=
 match w with
 |[k,nm,a,b,x,y]=>if k=CONS/\nm≠[]then (sgn 15 a).bind λ a=>(sgn 15 b).bind λ b=>(sgn 15 x).bind λ x=>(sgn 15 y).map λ y=>(c.1++[(nm,a,b,())],c.2++[(x,y,())])else none
 |_=>none
def rdT(n:Nat)(d:Int)(c:List Con×List Gau)(w:List Str):Option (Int×List Con×List Gau):=if n=0 then (rdH w).map λ d=>(d,c)else (rdC c w).map λ c=>(d,c)
def prsL(n:Nat)(d:Int)(c:List Con×List Gau):List Str->Tid×Int×Int×Unit
 |[]=>(Z0,n,26,())
 |[t]=>if t=[]/\0 < n then (if y10 (c.1,c.2,d,())=0 then ((c.1,c.2,d,()),0,0,())else (Z0,n,y10 (c.1,c.2,d,()),()))else (Z0,n,26,())
 |l::t::ls=>match rdT n d c (yY 32 l)with
  |none=>(Z0,n,26,())
  |some (d',c')=>prsL (n+1) d' c' (t::ls)
def prs(s:Str):Tid×Int×Int×Unit:=if 4096 < s.length then (Z0,0,27,())else prsL 0 0 ([],[]) (yY 10 s)
theorem y4b(n:Nat)(d:Int)(c:List Con×List Gau)(l:Str){r:List Str}(h:r≠[]):prsL n d c (l::r)=(match rdT n d c (yY 32 l)with|none=>(Z0,(n:Int),26,())|some (d',c')=>prsL (n+1) d' c' r):=by
 cases r with
 |nil=>exact absurd rfl h
 |cons t ls=>rfl
def Inv(n:Nat)(c:List Con×List Gau)(m:Nat):Prop:=c.1.length<=n/\c.2.length<=n/\n+m<=4097/\∀ x∈c.1,x.1.length<=4097
theorem yIG{n m:Nat}{d d':Int}{c c':List Con×List Gau}{w:List Str}(h:Inv n c (m+1))(hw:∀ x∈w,x.length<=4097)(hr:rdT n d c w=some (d',c')):Inv (n+1) c' m:=by
 obtain ⟨h1,h2,h3,h4⟩:=h;unfold rdT at hr;split at hr
 ·obtain ⟨x,_,e⟩:=map_eq_some_iff.1 hr;cases e;exact ⟨by omega,by omega,by omega,h4⟩
 ·obtain ⟨x,hx,e⟩:=map_eq_some_iff.1 hr;cases e;unfold rdC at hx;split at hx
  ·rename_i k nm a b x y;split at hx
   ·obtain ⟨a,_,hx⟩:=bind_eq_some_iff.1 hx;obtain ⟨b,_,hx⟩:=bind_eq_some_iff.1 hx;obtain ⟨x,_,hx⟩:=bind_eq_some_iff.1 hx;obtain ⟨y,_,rfl⟩:=map_eq_some_iff.1 hx;refine ⟨by simp;omega,by simp;omega,by omega,λ z hz=>?_⟩
    rcases List.mem_append.1 hz with hz|hz
    ·exact h4 z hz
    ·rw[List.mem_singleton]at hz;subst hz;exact hw nm (by simp)
   ·cases hx
  ·cases hx
noncomputable def nv(w:Str):Int:=((yH1 w).map λ y=>y.1).getD 0
theorem yLX(w:Str):yH1 w=some (nv w,(sgn 15 w).isSome,()):=by
 obtain ⟨v,h1,_⟩:=yEk w;have:nv w=v:=by unfold nv;rw[h1];rfl
 rw[this,h1]
theorem yCC(w:Str):sgn 15 w=if (sgn 15 w).isSome then some (nv w)else none:=by
 obtain ⟨v,h1,h2⟩:=yEk w;have:nv w=v:=by unfold nv;rw[h1];rfl
 cases hs:sgn 15 w with
 |none=>rfl
 |some x=>rw[this,h2 x hs];rfl
theorem yKO(L:List Str)(i:Nat)(l:Str)(hl:idx L (i:Int)=some l)(hlen:l.length<=5000)(d:Int)(c:List Con×List Gau)(h1:c.1.length<=5000)(h2:c.2.length<=5000) :
  yCj L 0 (i:Int) d c.1 c.2=some (match rdT i d c (yY 32 l)with|none=>.inl (Z0,(i:Int),26,())|some (d',c')=>.inr (d',c'.1,c'.2)):=by
 have hmem:(5000:Nat) < memMax:=by decide
 unfold yCj;have hsp:=yBN 32 l (by omega)
 rw[show (((32:UInt8).toNat:Nat):Int)=32 from rfl]at hsp
 rw[hl,bind_some,hsp,bind_some];generalize yY 32 l=ws;by_cases h0:i=0
 ·subst h0;rw[bT (by rfl)]
  unfold rdT;rw[if_pos rfl];match ws with
  |[]=>rw[bT (by rfl)];rfl
  |[_]=>rw[bT (by rfl)];rfl
  |_::_::_::r=>rw[bT (by rw[bne_iff_ne];simp only[length_cons];omega)];rfl
  |[k,x] =>
   rw[bF (by rfl)]
   simp only[show idx [k,x] (0:Int)=some k from rfl,show idx [k,x] (1:Int)=some x from rfl,bind_some,yLX]
   unfold rdH;dsimp only;by_cases hk:k=TIDE
   ·rw[bF (by rw[hk];rfl),if_pos hk,yCC x]
    cases (sgn 15 x).isSome<;>rfl
   ·rw[bT (by rw[Bool.not_eq_true',beq_eq_false_iff_ne];exact hk),if_neg hk];rfl
 ·rw[bF (by rw[beq_eq_false_iff_ne];omega)]
  unfold rdT;rw[if_neg h0];match ws with
  |[]=>rw[bT (by rfl)];rfl
  |[_]=>rw[bT (by rfl)];rfl
  |[_,_]=>rw[bT (by rfl)];rfl
  |[_,_,_]=>rw[bT (by rfl)];rfl
  |[_,_,_,_]=>rw[bT (by rfl)];rfl
  |[_,_,_,_,_]=>rw[bT (by rfl)];rfl
  |_::_::_::_::_::_::_::r=>rw[bT (by rw[bne_iff_ne];simp only[length_cons];omega)];rfl
  |[k,nm,a,b,x,y] =>
   rw[bF (by rfl)]
   simp only[show idx [k,nm,a,b,x,y] (0:Int)=some k from rfl,show idx [k,nm,a,b,x,y] (1:Int)=some nm from rfl,bind_some]
   unfold rdC;dsimp only;by_cases hk:k=CONS
   ·rw[bF (by rw[hk];rfl)]
    by_cases hn:nm=[]
    ·rw[bT (by rw[hn];rfl),if_neg (λ h=>h.2 hn)];rfl
    ·rw[bF (by rw[beq_eq_false_iff_ne];exact hn),if_pos (show k=CONS/\nm≠[]from ⟨hk,hn⟩),bT (by rfl),show ((4:Int) - 0).toNat=4 from rfl]
     have g:∀ (j:Nat) (w:Str) (arr:List Int),j < 4->arr.length=4->idx [k,nm,a,b,x,y] ((j:Int)+2)=some w ->
       y8f L (i:Int) [k,nm,a,b,x,y] 0 d c.1 c.2 (j:Int) arr=some (if (sgn 15 w).isSome then .inr (arr.set j (nv w))else .inl (.inl (Z0,(i:Int),26,()))):=λ j w arr hj ha hw=>by
      unfold y8f;rw[w64 (by omega) (by omega),hw,bind_some,yLX,bind_some]
      cases (sgn 15 w).isSome with
      |false=>rfl
      |true =>
       rw[bF (by rfl),bT (by rw[dT (by omega),dT (by omega)];rfl),Int.toNat_natCast,List.getElem?_eq_getElem (by omega),bind_some]
       rfl
     simp only[y1j];have g0:=g 0 a [0,0,0,0] (by decide) rfl rfl
     rw[show ((0:Nat):Int)=0 from rfl]at g0
     rw[g0,yCC a,yCC b,yCC x,yCC y];cases (sgn 15 a).isSome with
     |false=>rfl
     |true =>
      simp only[if_true,isSome_some,bind_some];rw[show (0:Int)+1=((1:Nat):Int)from rfl,g 1 b _ (by decide) rfl rfl]
      cases (sgn 15 b).isSome with
      |false=>rfl
      |true =>
       simp only[if_true,isSome_some,bind_some];rw[show ((1:Nat):Int)+1=((2:Nat):Int)from rfl,g 2 x _ (by decide) rfl rfl]
       cases (sgn 15 x).isSome with
       |false=>rfl
       |true =>
        simp only[if_true,isSome_some,bind_some];rw[show ((2:Nat):Int)+1=((3:Nat):Int)from rfl,g 3 y _ (by decide) rfl rfl]
        cases (sgn 15 y).isSome with
        |false=>rfl
        |true =>
         simp only[if_true,isSome_some,bind_some,Option.map_some];rw[show ((([0,0,0,0]:List Int).set 0 (nv a)).set 1 (nv b)).set 2 (nv x)=[nv a,nv b,nv x,0]from rfl,show ([nv a,nv b,nv x,0]:List Int).set 3 (nv y)=[nv a,nv b,nv x,nv y]from rfl]
         unfold yAa;simp only[show idx [k,nm,a,b,x,y] (1:Int)=some nm from rfl,show ([nv a,nv b,nv x,nv y]:List Int)[Int.toNat (0:Int)]?=some (nv a)from rfl,show ([nv a,nv b,nv x,nv y]:List Int)[Int.toNat (1:Int)]?=some (nv b)from rfl,
          show ([nv a,nv b,nv x,nv y]:List Int)[Int.toNat (2:Int)]?=some (nv x)from rfl,show ([nv a,nv b,nv x,nv y]:List Int)[Int.toNat (3:Int)]?=some (nv y)from rfl,bind_some]
         rw[bT (dT (by omega)),bT (dT (by omega))]
   ·rw[bT (by rw[Bool.not_eq_true',beq_eq_false_iff_ne];exact hk),if_neg (λ h=>hk h.1)];rfl
theorem y8m(L:List Str)(hL:∀ l∈L,l.length<=4097):∀ (rest pre:List Str) (d:Int) (c:List Con×List Gau),L=pre++rest->rest≠[]->Inv pre.length c (rest.length - 1) ->
  y1j (λ i__ s__=>yCj L 0 i__ s__.1 s__.2.1 s__.2.2) (λ s__=>yEq L 0 s__.1 s__.2.1 s__.2.2) (rest.length - 1) (pre.length:Int) (d,c.1,c.2)=some (prsL pre.length d c rest)
 |[],_,_,_,_,h,_=>absurd rfl h
 |[t],pre,d,c,h,_,hI=>by
  obtain ⟨h1,h2,h3,h4⟩:=hI;have hmem:(5000:Nat) < memMax:=by decide
  have hlen:L.length=pre.length+1:=by rw[h];simp
  have hw:IntKind.i64.wrap ((L.length:Int) - 1)=(pre.length:Int):=by rw[w64 (by omega) (by omega)];omega
  have hg:idx L (pre.length:Int)=some t:=by rw[y41,h];simp
  simp only[List.length_singleton,Nat.sub_self,y1j];unfold yEq;rw[hw,hg,bind_some];unfold prsL;by_cases ht:t=[]
  ·rw[bF (by rw[ht];rfl)]
   by_cases hp:0 < pre.length
   ·rw[bF (by rw[beq_eq_false_iff_ne];omega),yLV (c.1,c.2,d,()) (show c.2.length<=memMax by omega),bind_some,if_pos ⟨ht,hp⟩]
    by_cases he:y10 (c.1,c.2,d,())=0
    ·rw[bF (by rw[he];rfl),if_pos he]
    ·rw[bT (by rw[bne_iff_ne];exact he),if_neg he];rfl
   ·rw[bT (by rw[beq_iff_eq];omega),if_neg (λ h=>hp h.2)];rfl
  ·rw[bT (by rw[Bool.not_eq_true',beq_eq_false_iff_ne];exact ht),if_neg (λ h=>ht h.1)];rfl
 |l::t::ls,pre,d,c,h,_,hI=>by
  have hI':=hI;obtain ⟨h1,h2,h3,h4⟩:=hI;have hg:idx L (pre.length:Int)=some l:=by rw[y41,h];simp
  have hl:=hL l (by rw[h];simp)
  simp only[length_cons,Nat.add_sub_cancel,y1j];rw[yKO L pre.length l hg (by omega) d c (by omega) (by omega),y4b _ d c l (by simp)]
  cases hr:rdT pre.length d c (yY 32 l)with
  |none=>rfl
  |some dc =>
   obtain ⟨d',c'⟩:=dc;simp only[bind_some];have ih:=y8m L hL (t::ls) (pre++[l]) d' c' (by rw[h];simp) (by simp) (by
    rw[length_append,List.length_singleton];exact yIG (m:=ls.length) (by simpa using hI') (λ w hw=>by have:=y1T 32 l w hw;omega) hr)
   simp only[length_append,List.length_singleton,length_cons,Nat.add_sub_cancel]at ih;exact ih
theorem yHi(s:Str)(h:s.length < lenMax):yMg s=some (prs s):=by
 unfold yMg prs;by_cases hl:4096 < s.length
 ·rw[bT (dT (by omega)),if_pos hl];rfl
 ·have hsp:=yBN 10 s (by simp only[memMax];omega)
  rw[show (((10:UInt8).toNat:Nat):Int)=10 from rfl]at hsp
  rw[bF (dF (by omega)),if_neg hl,hsp,bind_some]
  have hcount:=y1V 10 s;have hcl:s.count 10<=s.length:=List.count_le_length;have hw:IntKind.i64.wrap (((yY 10 s).length:Int) - 1)=(((yY 10 s).length - 1:Nat):Int):=by rw[w64 (by omega) (by omega)];omega
  simp only[hw];rw[bT (dT (by omega)),Int.sub_zero,Int.toNat_natCast]
  exact y8m (yY 10 s) (λ l hl'=>by have:=y1T 10 s l hl';omega) (yY 10 s) [] 0 ([],[]) rfl (y19 10 s) ⟨Nat.le_refl _,Nat.le_refl _,by simp;omega,λ x hx=>by cases hx⟩
end Go.Tw
end
section
set_option maxRecDepth 1000000
namespace Go.Tw
open Go.Vx Go.Vx.B Go.S Go.SA Go.Lib
def lnH(d:Int):Str:=y0Z 32 [TIDE,itoa d]
def lnC(x:Con)(z:Gau):Str:=y0Z 32 [CONS,x.1,itoa x.2.1,itoa x.2.2.1,itoa z.1,itoa z.2.1]
def ends:List Str->Str
 |[]=>[]
 |l::r=>l++10::ends r
def prn(t:Tid):Str:=ends (lnH t.2.2.1::List.zipWith lnC t.1 t.2.1)
def N15(n:Int):Prop:=n.natAbs < 10 ^ 15
theorem N15.i64{n:Int}(h:N15 n):I64 n:=by unfold N15 at h;unfold I64;omega
theorem N15.len{n:Int}(h:N15 n):(itoa n).length<=16:=by
 have:=y7s 14 n.natAbs h;unfold itoa;split
 ·simp only[length_cons,decDigits_length];omega
 ·rw[decDigits_length,show n.toNat=n.natAbs by omega];omega
structure SmallC (x:Con):Prop where
 name:x.1.length<=60
 n1:N15 x.2.1
 n2:N15 x.2.2.1
structure SmallG (z:Gau):Prop where
 n1:N15 z.1
 n2:N15 z.2.1
theorem yEE{x:Con}{z:Gau}(h:SmallC x)(hz:SmallG z):(lnC x z).length<=150:=by
 have h1:=h.n1.len;have h2:=h.n2.len;have h3:=hz.n1.len;have h4:=hz.n2.len;have h5:=h.name;unfold lnC y0Z y0Z y0Z y0Z y0Z y0Z;simp only[length_append,length_cons,show CONS.length=11 from rfl]
 omega
theorem y5v(of:Int×Unit->Option (List UInt8×Unit))(L:List Int)(h:∀ n,I64 n->of (n,())=some (itoa n,())):∀ (l:List Int) (i:Int) (acc:List Str),(∀ n∈l,I64 n)->acc.length+l.length<=memMax ->
  yQ (λ i__ e__ s__=>yJB of L i__ e__ s__) (λ s__=>yKj of L s__) i l acc=some (acc++l.map itoa,())
 |[],i,acc,_,_=>by simp[yQ,yKj]
 |n::l,i,acc,hn,hl=>by
  simp only[length_cons]at hl;simp only[yQ];have hb:yJB of L i n acc=some (.inr (acc++[itoa n])):=by
   unfold yJB;rw[h n (hn n (mem_cons_self ..)),bind_some,bT (dT (by omega))]
  rw[hb];simp only[bind_some];rw[y5v of L h l (i+1) (acc++[itoa n]) (λ m hm=>hn m (List.mem_cons_of_mem _ hm)) (by simp;omega)]
  simp
theorem yDD(l:List Int)(hn:∀ n∈l,I64 n)(hl:l.length<=memMax):zN_M l (λ (x:Int×Unit)=>y9D x.1)=some (l.map itoa,()):=by
 unfold zN_M;have:=y7o;rw[bT (dT (by omega)),y5v _ l (λ n h=>y62 n h) l 0 [] hn (by simpa using hl)]
 rfl
theorem y5T{β σ:Type}{body:Int->Con->σ->Option (β⊕σ)}{fin:σ->Option β}(g:Str->σ)(Z:List Gau)(B:Nat):∀ (l:List Con) (i:Nat) (s:Str),(Z.drop i).length=l.length ->
  (∀ (j:Nat) e y s,e∈l->Z[j]?=some y->s.length<=B->body (j:Int) e (g s)=some (.inr (g (s++lnC e y++[10]))))->(∀ e∈l,∀ y∈Z,(lnC e y).length<=150)->s.length+l.length * 151<=B ->
  yQ body fin (i:Int) l (g s)=fin (g (s++ends (List.zipWith lnC l (Z.drop i))))
 |[],i,s,_,_,_,_=>by simp[yQ,ends]
 |e::l,i,s,hz,hb,hf,hl=>by
  simp only[length_cons,Nat.succ_mul]at hl;have hi:i < Z.length:=by
   rw[List.length_drop,length_cons]at hz;omega
  have hd:Z.drop i=Z[i]::Z.drop (i+1):=(List.getElem_cons_drop (h:=hi)).symm;have h1:=hf e (mem_cons_self ..) Z[i] (List.getElem_mem hi);simp only[yQ];rw[hb i e Z[i] s (mem_cons_self ..) (List.getElem?_eq_getElem hi) (by omega)]
  simp only[bind_some];have ih:=y5T (body:=body) (fin:=fin) g Z B l (i+1) (s++lnC e Z[i]++[10]) (by rw[List.length_drop,length_cons]at hz;rw[List.length_drop];omega) (λ j e y s he=>hb j e y s (List.mem_cons_of_mem _ he)) (λ e he=>hf e (List.mem_cons_of_mem _ he)) (by simp only[length_append,List.length_singleton];omega)
  rw[show ((i+1:Nat):Int)=(i:Int)+1 by omega]at ih
  rw[ih,hd];simp only[List.zipWith_cons_cons,ends,List.append_assoc,List.cons_append,List.nil_append]
theorem yKu(t:Tid)(T:List Con)(i:Nat)(e:Con)(z:Gau)(s:Str)(hz:t.2.1[i]?=some z)(he:SmallC e)(hg:SmallG z)(hs:s.length<=1000000):yA2 t T (i:Int) e (y01 s)=some (.inr (y01 (s++lnC e z++[10]))):=by
 have hlen:=yEE he hg;have h5:=he.name;have hmm:(1000000:Nat)+1000 < memMax:=by decide
 have hsm:(1000000:Nat)+1000 < strMax:=by decide
 unfold yA2;rw[y41,hz,bind_some,yDD _ (by intro n hn;simp only[List.mem_cons,List.not_mem_nil,or_false]at hn;rcases hn with rfl|rfl|rfl|rfl;exact he.n1.i64;exact he.n2.i64;exact hg.n1.i64;exact hg.n2.i64) (by show 4<=memMax;decide),bind_some]
 have hj1:(y0Z 32 [itoa e.2.1,itoa e.2.2.1,itoa z.1,itoa z.2.1]).length<=150:=by
  have e1:lnC e z=CONS++32::(e.1++32::y0Z 32 [itoa e.2.1,itoa e.2.2.1,itoa z.1,itoa z.2.1]):=rfl;rw[e1]at hlen;simp only[length_append,length_cons]at hlen;omega
 have hj:yBf ([e.2.1,e.2.2.1,z.1,z.2.1].map itoa) [32]=some (y0Z 32 [itoa e.2.1,itoa e.2.2.1,itoa z.1,itoa z.2.1],()):=yKb _ (by show 4<=140737488355328;decide) (by show (y0Z 32 [itoa e.2.1,itoa e.2.2.1,itoa z.1,itoa z.2.1]).length<=_;omega)
 rw[hj];simp only[bind_some,length_append,length_cons,length_nil,y01,List.length_map];rw[bT (dT (by omega)),bT (dT (by omega)),bT (dT (by omega)),bT (dT (by omega)),bT (dT (by omega))]
 simp[lnC,y0Z,CONS]
theorem yKJ(t:Tid)(i:Nat)(e:Con)(z:Gau)(s:Str)(hz:t.2.1[i]?=some z)(he:SmallC e)(hg:SmallG z)(hs:s.length<=1000000):yBo t (i:Int) e s=some (.inr (s++lnC e z++[10])):=by
 have h1:=he.n1.len;have h2:=he.n2.len;have h3:=hg.n1.len;have h4:=hg.n2.len;have h5:=he.name;have hsm:(1000000:Nat)+1000 < strMax:=by decide
 unfold yBo;rw[y41,hz,bind_some,y8T _ he.n1.i64,y8T _ he.n2.i64,y8T _ hg.n1.i64,y8T _ hg.n2.i64];simp only[bind_some,length_append,length_cons,length_nil];repeat rw[bT (dT (by omega))]
 simp[lnC,y0Z,CONS]
structure SmallT (t:Tid):Prop where
 cons:t.1.length<=4
 same:t.2.1.length=t.1.length
 con:∀ x∈t.1,SmallC x
 gau:∀ z∈t.2.1,SmallG z
 den:N15 t.2.2.1
theorem y7r(s:Str):(y01 s).length=s.length:=by simp[y01]
theorem yIF(t:Tid):0 < (prn t).length:=by unfold prn;simp[ends];omega
theorem yHB(t:Tid)(h:SmallT t):yMJ t=some (prn t,()):=by
 have h1:=h.cons;have hd:=h.den.len;have hlm:(1000:Nat) < lenMax:=by decide
 have hsm:(1000000:Nat)+1000 < strMax:=by decide
 unfold yMJ;rw[y8T _ h.den.i64,bind_some,bT (dT (by show 5+(itoa t.2.2.1).length < strMax;omega)),bT (dT (by simp only[length_append,length_cons,length_nil];omega)),bT (dT (by omega))]
 have hL:=y5T (body:=λ i__ e__ s__=>yBo t i__ e__ s__) (fin:=λ s__=>yIi t s__) (λ s=>s) t.2.1 1000000 t.1 0 ([116,105,100,101,32]++itoa t.2.2.1++[10]) (by simpa using h.same)
  (λ j e y s he hy hs=>yKJ t j e y s hy (h.con e he) (h.gau y (List.mem_of_getElem? hy)) hs) (λ e he y hy=>yEE (h.con e he) (h.gau y hy)) (by simp only[length_append,length_cons,length_nil];omega)
 refine hL.trans ?_
 show some (_,())=_
 rw[List.drop_zero];unfold prn lnH;simp[ends,y0Z,TIDE]
theorem yD5(t:Tid)(h:SmallT t):(Option.bind (Tw.y9D t.snd.snd.fst) λ (v1:List UInt8×Unit)=>(bif Decidable.decide ((5:Nat)+v1.fst.length < Vx.strMax)then (bif Decidable.decide (([(116:UInt8),(105:UInt8),(100:UInt8),(101:UInt8),(32:UInt8)]++v1.fst).length+(1:Nat) < Vx.strMax)then (bif Decidable.decide ((0:Nat)+([(116:UInt8),(105:UInt8),(100:UInt8),(101:UInt8),(32:UInt8)]++v1.fst++[(10:UInt8)]).length<=Vx.memMax)then (bif decide (List.length (t.fst) < lenMax)then yQ (λ i__ e__ s__=>yA2 (t) (t.fst) i__ e__ s__) (λ s__=>y9K (t) (t.fst) s__) 0 (t.fst) (Vx.y01 ([(116:UInt8),(105:UInt8),(100:UInt8),(101:UInt8),(32:UInt8)]++v1.fst++[(10:UInt8)]))else none)else none)else none)else none))=some (prn t,0,()):=by
 have h1:=h.cons;have hd:=h.den.len;have hlm:(1000:Nat) < lenMax:=by decide
 have hmm:(1000000:Nat)+1000 < memMax:=by decide
 have hsm:(1000000:Nat)+1000 < strMax:=by decide
 rw[y62 _ h.den.i64,bind_some,bT (dT (by show 5+(itoa t.2.2.1).length < strMax;omega)),bT (dT (by simp only[length_append,length_cons,length_nil];omega)),bT (dT (by simp only[length_append,length_cons,length_nil];omega)),bT (dT (by omega))]
 have hL:=y5T (body:=λ i__ e__ s__=>yA2 t t.1 i__ e__ s__) (fin:=λ s__=>y9K t t.1 s__) y01 t.2.1 1000000 t.1 0 ([116,105,100,101,32]++itoa t.2.2.1++[10]) (by simpa using h.same)
  (λ j e y s he hy hs=>yKu t t.1 j e y s hy (h.con e he) (h.gau y (List.mem_of_getElem? hy)) hs) (λ e he y hy=>yEE (h.con e he) (h.gau y hy)) (by simp only[length_append,length_cons,length_nil];omega)
 refine hL.trans ?_
 have e:[116,105,100,101,32]++itoa t.2.2.1++[10]++ends (List.zipWith lnC t.1 (t.2.1.drop 0))=prn t:=by
  rw[List.drop_zero];unfold prn lnH;simp[ends,y0Z,TIDE]
 rw[e];show y9K t t.1 (y01 (prn t))=_
 unfold y9K;rw[bT (dT (by rw[y7r];exact yIF t)),bT (by rw[yBY,dT (by rw[y7r];exact yIF t)];simp),yGq]
end Go.Tw
end
section
set_option maxRecDepth 1000000
namespace Go.Tw
open Go.Vx Go.Vx.B Go.S Go.SA Go.Lib
theorem yKI{s:Str}(h:isNm s=true):0 < s.length/\s.length<=24:=by
 unfold isNm at h;simp only[Bool.and_eq_true,decide_eq_true_eq]at h;exact h.2
theorem yKR{t:Tid}(h:y10 t=0):∀ c∈t.1,isNm c.1=true:=by
 unfold y10 at h;obtain ⟨h1,_⟩:=y0V h;unfold y4V at h1;split at h1
 ·cases h1
 ·split at h1
  ·cases h1
  ·exact λ c hc=>(yEs (yAi _ _ h1 c hc)).2
theorem yFF{t:Tid}(h:y10 t=0):SmallT t:=by
 have ho:=yBk h;refine ⟨ho.few,ho.len.symm,λ x hx=>?_,λ z hz=>?_,?_⟩
 ·obtain ⟨⟨h1,h2⟩,h3,h4⟩:=ho.con x hx;refine ⟨by have:=yKI (yKR h x hx);omega,?_,?_⟩<;>unfold N15<;>omega
 ·have hp:=y3q (ho.part z hz);have h1:=y2M (hp _ (mem_cons_self ..));have h2:=y2M (hp (ckR z.2.1 (-8796093022208) 8796093022208) (by simp))
  refine ⟨?_,?_⟩<;>unfold N15<;>omega
 ·have:=ho.den;unfold N15;omega
theorem yIO(t:Tid)(hn:∀ n∈t.1,n.1.length < lenMax)(hl:t.1.length < lenMax)(ha:t.2.1.length<=memMax):yJp t=some (if y10 t=0 then (prn t,0,())else ([],y10 t,())):=by
 unfold yJp;rw[yLs t hn hl ha,bind_some];by_cases h:y10 t=0
 ·rw[bF (by rw[h];rfl),if_pos h]
  exact yD5 t (yFF h)
 ·rw[bT (by rw[bne_iff_ne];exact h),if_neg h]
theorem yEJ:∀ (a b:List Str),ends (a++b)=ends a++ends b
 |[],b=>rfl
 |l::a,b=>by simp[ends,yEJ a b]
def body(c:List Con×List Gau):Str:=ends (List.zipWith lnC c.1 c.2)
theorem yMT{c c':List Con×List Gau}{w:List Str}(he:c.1.length=c.2.length)(hr:rdC c w=some c'):c'.1.length=c'.2.length/\body c'=body c++y0Z 32 w++[10]:=by
 unfold rdC at hr;split at hr
 ·rename_i k nm a b x y;split at hr
  ·rename_i hk;obtain ⟨a',ha,hr⟩:=bind_eq_some_iff.1 hr;obtain ⟨b',hb,hr⟩:=bind_eq_some_iff.1 hr;obtain ⟨x',hx,hr⟩:=bind_eq_some_iff.1 hr;obtain ⟨y',hy,rfl⟩:=map_eq_some_iff.1 hr;obtain ⟨rfl,hn⟩:=hk;refine ⟨by simp[he],?_⟩
   unfold body;dsimp only;rw[List.zipWith_append he,yEJ];unfold lnC;simp only[List.zipWith_cons_cons,List.zipWith_nil_left,ends];rw[(y2u ha).1,(y2u hb).1,(y2u hx).1,(y2u hy).1];simp
  ·cases hr
 ·cases hr
theorem yFH:∀ (ls:List Str) (n:Nat) (d:Int) (c:List Con×List Gau),0 < n->c.1.length=c.2.length->ls≠[]->(prsL n d c ls).2.2.1=0->y10 (prsL n d c ls).1=0/\prn (prsL n d c ls).1=lnH d++10::(body c++y0Z 10 ls)
 |[],_,_,_,_,_,h,_=>absurd rfl h
 |[t],n,d,c,hn,he,_,h=>by
  unfold prsL at h ⊢;split at h
  ·rename_i ht;rw[if_pos ht];split at h
   ·rename_i h0;rw[if_pos h0,ht.1];exact ⟨h0,by unfold prn body;simp[ends,y0Z]⟩
   ·rename_i h0;exact absurd h h0
  ·exact absurd h (by show ¬ (26:Int)=0;decide)
 |l::t::ls,n,d,c,hn,he,_,h=>by
  rw[y4b n d c l (by simp)]at h ⊢
  split at h
  ·exact absurd h (by show ¬ (26:Int)=0;decide)
  ·rename_i d' c' hr;unfold rdT at hr;rw[if_neg (by omega)]at hr
   obtain ⟨c2,hc2,e⟩:=map_eq_some_iff.1 hr;cases e;obtain ⟨g1,g2⟩:=yMT he hc2;obtain ⟨k1,k2⟩:=yFH (t::ls) (n+1) d c' (by omega) g1 (by simp) h
   refine ⟨k1,?_⟩;rw[k2,g2,y0i,y1s 10 l (by simp)]
   simp
theorem yMk(s:Str)(h:(prs s).2.2.1=0):y10 (prs s).1=0/\prn (prs s).1=s:=by
 unfold prs at h ⊢;split at h
 ·exact absurd h (by decide)
 ·rename_i hl;rw[if_neg hl];have hj:=y0i 10 s;cases hs:yY 10 s with
  |nil=>exact absurd hs (y19 10 s)
  |cons l r =>
   rw[hs]at h hj;cases r with
   |nil =>
    unfold prsL at h;rw[if_neg (λ hh=>by omega)]at h
    exact absurd h (by show ¬ (26:Int)=0;decide)
   |cons t ls =>
    rw[y4b 0 0 ([],[]) l (by simp)]at h ⊢
    split at h
    ·exact absurd h (by show ¬ (26:Int)=0;decide)
    ·rename_i d' c' hr;unfold rdT at hr;rw[if_pos rfl]at hr;obtain ⟨d2,hd2,e⟩:=map_eq_some_iff.1 hr;cases e;obtain ⟨k1,k2⟩:=yFH (t::ls) 1 d' ([],[]) (by omega) rfl (by simp) h
     refine ⟨k1,?_⟩;rw[k2,<- hj,y1s 10 l (by simp)]
     have e1:lnH d'=l:=by
      unfold rdH at hd2;split at hd2
      ·rename_i k x hw;split at hd2
       ·rename_i hk;unfold lnH;rw[(y2u hd2).1,<- hk,<- hw,y0i]
       ·cases hd2
      ·cases hd2
     rw[e1];rfl
end Go.Tw
end
section
set_option maxRecDepth 1000000
namespace Go.Tw
open Go.Vx Go.Vx.B Go.S Go.SA Go.Lib
end Go.Tw
end
