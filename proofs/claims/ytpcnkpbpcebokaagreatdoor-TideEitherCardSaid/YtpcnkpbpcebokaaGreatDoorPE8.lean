import Derived.Test.YtpcnkpbpcebokaaGreatDoorPE7
import Derived.Test.YtpcnkpbpcebokaaGreatDoorPK
import Derived.Test.YtpcnkpbpcebokaaGreatDoorBEi
import Derived.Test.YtpcnkpbpcebokaaGreatDoorVD
set_option linter.all false
set_option maxRecDepth 100000
open List (mem_map)
open Option (bind_some)
open Go.IntKind (i64)
namespace Go.Tw
open Go.Vx Go.Vx.B Go.Proofs
theorem ySG{n:Int}(h:(Lit.int .i8 n).wf=true):-128<=n/\n<=127:=by
 have h1:IntKind.i8.min=-128:=by decide
 have h2:IntKind.i8.max=127:=by decide
 simp only[Lit.wf,h1,h2,Bool.and_eq_true,decide_eq_true_eq]at h;exact h
theorem yMa{v:List (Int->Gau)}(h:v≠[]):Dep [] v:=
 ⟨List.replicate v.length G1,by simp,⟨G1,List.mem_replicate.2 ⟨λ hh=>h (List.eq_nil_of_length_eq_zero hh),rfl⟩,yPL⟩,λ t ht=>by cases ht⟩
theorem yKs{r:Rec}{l:List Con}(hl:l.length<=4)(h:tks r=[]):(y1T r l).length=0:=by
 obtain ⟨h1,_,_⟩:=y4W (r:=r) (by rw[h];simp) hl
 rw[h]at h1;cases hk:y1T r l with
 |nil=>rfl
 |cons c k =>
  rw[hk]at h1;exact absurd (yMa (v:=(c::k).map chr) (by simp)) h1
noncomputable def yN5(l:List Con)(r:Rec)(x5:List Int)(n11:Int):Option (Bool×Unit):=
 (Option.bind (yKu r) λ (v78:List Int×Unit)=>(bif (↑v78.fst.length:Int) == (0:Int)then (some ((n11 == (0:Int),())))else (Option.bind (idx x5 (2:Int)) λ (v79:Int)=>(bif (↑v78.fst.length:Int) == (0:Int)then none else (bif (↑v78.fst.length:Int) == (0:Int)then none else (Option.bind (idx v78.fst ((i64.wrap ((i64.wrap v79).tmod (↑v78.fst.length:Int)+(↑v78.fst.length:Int))).tmod (↑v78.fst.length:Int))) λ (v80:Int)=>(bif Decidable.decide ((0:Nat)+r.snd.snd.fst.length<=memMax)then (bif Decidable.decide ((0:Nat)+r.snd.snd.snd.fst.length<=memMax)then (Option.bind (idx r.snd.snd.fst (i64.wrap (v80 - r.snd.fst))) λ (v81:Nat)=>(Option.bind (r.snd.snd.fst[(i64.wrap (v80 - r.snd.fst)).toNat]?) λ (v82:Nat)=>(Option.bind (yLe r.snd.snd.snd.fst [(i64.wrap (v80 - r.snd.fst),i64.wrap (i64.wrap (v80 - r.snd.fst)+(1:Int)),())]) λ (v83:List Gau×Unit)=>(Option.bind (yMk l) λ (v84:List Con×Unit)=>(Option.bind (yKx (r.fst,r.snd.fst,r.snd.snd.fst.set (i64.wrap (v80 - r.snd.fst)).toNat (nat_lit 0),v83.fst,()) v84.fst) λ (v85:Int×Int×Unit)=>(bif v85.snd.fst == (0:Int)then (bif Decidable.decide (v85.fst<=n11)then (some ((Decidable.decide (v85.fst >= i64.wrap (n11 - (1:Int))),())))else (some ((Bool.false,()))))else (some ((Bool.false,())))))))))else none)else none)))))))
theorem yLF{r:Rec}{l:List Con}{xp:List Int}(h:y0a r l=0)(hlv:r.2.2.1.length<=12)(hnm:r.1.length<=60)(hg:r.2.2.2.1.length<=12)(hnl:∀ n∈l,n.1.length < lenMax)(hx:xp.length=3) :
  yN5 l r xp ((y1T r l).length:Int)=some (true,()):=by
 have hmem:memMax=68719476736:=rfl;have hlm:lenMax=9223372036854775808:=rfl;obtain ⟨h1,h2,h3,h4⟩:=y2J h;obtain ⟨c1,c2⟩:=yH h;obtain ⟨nm,st,lv,g,rfl⟩:∃ nm st lv g,r=(nm,st,lv,g,()):=⟨r.1,r.2.1,r.2.2.1,r.2.2.2.1,rfl⟩;have c3:=(yH c1).1;simp only at hlv hnm hg;have htl:=yDl (nm,st,lv,g,());simp only at htl;unfold yN5;rw[yC2 h1];simp only[bind_some];by_cases h0:((tks (nm,st,lv,g,())).length:Int)=0
 ·rw[bifT (by simpa using h0),yKs h3.2 (List.eq_nil_of_length_eq_zero (by omega))]
  rfl
 ·have hb:(((tks (nm,st,lv,g,())).length:Int) == 0)=false:=by simpa using h0
  rw[bifF hb];obtain ⟨p,q,y,rfl⟩:∃ p q y,xp=[p,q,y]:=by
   match xp,hx with
   |[p,q,y],_=>exact ⟨p,q,y,rfl⟩
  have hidx:idx [p,q,y] 2=some y:=rfl;rw[hidx];simp only[bind_some];rw[bifF hb,bifF hb];have hj:0<=(i64.wrap ((i64.wrap y).tmod ((tks (nm,st,lv,g,())).length:Int)+((tks (nm,st,lv,g,())).length:Int))).tmod ((tks (nm,st,lv,g,())).length:Int)/\(i64.wrap ((i64.wrap y).tmod ((tks (nm,st,lv,g,())).length:Int)+((tks (nm,st,lv,g,())).length:Int))).tmod ((tks (nm,st,lv,g,())).length:Int) < ((tks (nm,st,lv,g,())).length:Int):=by
   generalize hL:((tks (nm,st,lv,g,())).length:Int)=L at *;have hL0:0 < L:=by omega
   have a1:=Int.tmod_lt_of_pos (i64.wrap y) hL0;have a2:-L < (i64.wrap y).tmod L:=by
    have:=Int.tmod_lt_of_pos (-(i64.wrap y)) hL0;rw[Int.neg_tmod]at this;omega
   rw[y0o (by omega) (by omega)]
   exact ⟨Int.tmod_nonneg _ (by omega),Int.tmod_lt_of_pos _ hL0⟩
  generalize (i64.wrap ((i64.wrap y).tmod ((tks (nm,st,lv,g,())).length:Int)+((tks (nm,st,lv,g,())).length:Int))).tmod ((tks (nm,st,lv,g,())).length:Int)=j at hj ⊢;have hjn:j.toNat < (tks (nm,st,lv,g,())).length:=by omega
  rw[show j=((j.toNat:Nat):Int) by omega,y04,List.getElem?_eq_getElem hjn]
  simp only[bind_some];obtain ⟨i,i1,i2,i3⟩:=(y8i _ _).1 (List.getElem_mem hjn);simp only at i1 i2 i3;rw[i3,show st+(i:Int) - st=(i:Int) by omega,y0o (i:=(i:Int)) (by omega) (by omega),y0o (i:=(i:Int)+1) (by omega) (by omega),bifT (y8 (by omega)),bifT (y8 (by omega)),y04,Int.toNat_natCast,List.getElem?_eq_getElem i1]
  simp only[bind_some];have hst:=h1.spans;obtain ⟨o,o1,o2,o3⟩:=yOP g [((i:Int),(i:Int)+1,())] (by omega) (by simp[hlm]) (λ s hs=>by have:=y2j _ _ hst s hs;exact ⟨this.1,this.2.2⟩) (λ s hs=>by rw[List.mem_singleton.1 hs];simp only;omega)
  obtain ⟨l1,l2⟩:=yOy (nm:=nm) (st:=st) (i:=i) c3 hlv i1 o2 o3;obtain ⟨t1,t2⟩:=yLw (nm:=nm) (st:=st) (i:=i) hlv o3;have htl':=yDl (nm,st,lv.set i 0,o,());simp only[List.length_set]at htl';have hck:y0a (nm,st,lv.set i 0,o,()) l=0:=by
   unfold y0a y9d;rw[l1,yR,if_neg (by omega),yR]
   exact c2
  rw[o1];simp only[bind_some];rw[y5a l (by have:=h3.2;omega)]
  simp only[bind_some];rw[yGJ (by simp only;omega) (by simp only[List.length_set];omega) (by simp only;omega) hnl (by have:=h3.2;omega),if_pos hck]
  simp only[bind_some];obtain ⟨d1,d2⟩:=yJf (by omega) (by omega) h3.2 t1 t2
  have hk:=(yCS (r:=(nm,st,lv,g,())) (by omega) h3.2).1
  have h33:=h3.2;rw[bifT (by rfl),bifT (y8 (by omega)),y0o (by omega) (by omega),y8]
  omega
theorem yGZ(y:Gau)(t:Int):∀ (c:List Gau) (v:List (Int->Gau)),lc (c.map λ z=>mulX z y) v t=mulX (lc c v t) y
 |[],v=>by
  show lc [] v t=mulX (lc [] v t) y
  have:lc [] v t=G0:=rfl;rw[this];exact yF (by simp[mulX,G0]) (by simp[mulX,G0])
 |z::c,[]=>by
  rw[yGD,yGD];exact yF (by simp[mulX,G0]) (by simp[mulX,G0])
 |z::c,f::v=>by
  show addX (mulX (mulX z y) (f t)) (lc (c.map λ z=>mulX z y) v t)=mulX (addX (mulX z (f t)) (lc c v t)) y
  rw[yGZ y t c v];exact yF (by simp only[addX,mulX];grind) (by simp only[addX,mulX];grind)
theorem yNp{z:Gau}(h:bd 82944 z):decide (imax (imax (imax z.1 (i64.wrap (0 - z.1))) z.2.1) (i64.wrap (0 - z.2.1)) > 1048576)=false:=by
 unfold bd at h;rw[y0o (by omega) (by omega),y0o (by omega) (by omega)]
 unfold imax;refine y9 ?_
 split<;>split<;>split<;>omega
theorem yNa{r:Rec}{l:List Con}{xp:List Int}(h:y0a r l=0)(hlv:r.2.2.1.length<=12)(hnm:r.1.length<=60)(hg:r.2.2.2.1.length<=12)(hnl:∀ n∈l,n.1.length < lenMax)(hx:xp.length=3)(v:List Gau)(hv:v.length=l.length)(j:Int)(hk:yKp r l v=j) :
  yDW l r xp ((y1T r l).length:Int) v j=some (true,()):=by
 have hmem:memMax=68719476736:=rfl;have hlm:lenMax=9223372036854775808:=rfl;obtain ⟨h1,h2,h3,h4⟩:=y2J h;have h33:=h3.2;unfold yDW;rw[yAL r (by omega) (by omega),y5a l (by omega)]
 simp only[bind_some];rw[yGF (by omega) (by omega) (by omega) hnl (by omega) (by omega),h,yR,hk]
 simp only[bind_some];rw[bifF (by simp)]
 have ht:=yLF h hlv hnm hg hnl hx;unfold yN5 at ht;rw[y5a l (by omega)]at ht
 simp only[bind_some]at ht;exact ht
theorem yLS(r:Rec)(l:List Con)(xp:List Int)(ll:l.length < lenMax)(hx:Ty.wf (.arr 3 (.int .i8)) xp):ze_M r l xp=some (true,()):=by
 have hmem:memMax=68719476736:=rfl;have hlm:lenMax=9223372036854775808:=rfl;unfold ze_M;rw[yHr];simp only[bind_some,Bool.not_true,cond_false];obtain ⟨b,f1,f2⟩:=yRQ r l ll;rw[f1];simp only[bind_some];cases b with
 |false=>rfl
 |true =>
  obtain ⟨h,hlv,hnm,hg,l60,l5,_⟩:=f2 rfl;obtain ⟨h1,h2,h3,h4⟩:=y2J h;have h33:=h3.2;have htl:=yDl r;have hnl:∀ n∈l,n.1.length < lenMax:=λ n hn=>by have:=l60 n hn;omega
  obtain ⟨hx3,hxw⟩:=hx;simp only[Bool.not_true,cond_false];rw[yAL r (by omega) (by omega),y5a l (by omega)]
  simp only[bind_some];have hD:zl_M r l=some (denA r l,0,()):=by
   unfold zl_M zl_m;rw[y2v r l (by omega) (by omega) (by omega) hnl ll]
   simp only[bind_some];obtain ⟨n1,n2⟩:=yAi (tks r) l;rw[bifF (by simp[h]),y5y h1 (by omega) h4]
   simp only[bind_some];rw[yAb _ (by omega) (λ q hq=>by rw[n1];exact n2 q hq)]
   rfl
  rw[hD,yKF (by omega) (by omega) (by omega) hnl ll,yGJ (by omega) (by omega) (by omega) hnl ll,yLL (by omega) (by omega) (by omega) hnl ll,if_pos h,if_pos h,if_pos h]
  simp only[bind_some];obtain ⟨d1,d2⟩:=yEO h2 h33;obtain ⟨k1,k2⟩:=yCS h2 h33;have ha6:=yOQ r l;have hk:=yCk (r:=r) (l:=l) (by omega) h33
  have hmain:yBq r l xp (kerV r l) ((y1T r l).length,0,()) (aliT r l,0,())=some (true,()):=by
   unfold yBq;rw[bifT (y8 (show (aliT r l).length < lenMax by omega)),y62 (λ s _=>s) (aliT r l) 0 () (λ i e s he=>by
    obtain ⟨a,c,ac,cl,al,rfl⟩:=yPM r l e he;unfold yJV;show (bif decide ((a:Int) < 0)then _ else bif decide ((a:Int) >= (c:Int))then _ else bif decide ((c:Int) >= (l.length:Int))then _ else _)=_
    rw[bifF (y9 (by omega)),bifF (y9 (by omega)),bifF (y9 (by omega)),yAL r (by omega) (by omega)]
    simp only[bind_some];show Option.bind (idx l (a:Int)) (λ v47=>Option.bind (idx l (c:Int)) λ v48=>_)=_
    rw[yGT (by omega),yGT cl]
    simp only[bind_some];have hp:=yO9 h ac cl;have ma:atC l a∈l:=by rw[y9Y (by omega)];exact List.getElem_mem _
    have mc:atC l c∈l:=by rw[y9Y cl];exact List.getElem_mem _
    rw[yKF (l:=[atC l a,atC l c]) (by omega) (by omega) (by omega) (λ n hn=>by
     rcases List.mem_cons.1 hn with rfl|hn
     ·exact hnl _ ma
     ·rw[List.mem_singleton.1 hn];exact hnl _ mc) (by simp[hlm]),if_pos hp]
    simp only[bind_some];rcases yCk (r:=r) (l:=[atC l a,atC l c]) (by omega) (by simp)with q|q
    ·rw[bifF (by rw[q.1];rfl)]
    ·exact absurd (yPv (by omega) al) q.2.2)]
   show yFa l r xp (kerV r l).1 (kerV r l).2.1 ((y1T r l).length:Int) (aliT r l)=_
   unfold yFa;rcases hk with ⟨q1,q2,q3,q4,q5,q6⟩|⟨q1,q2,q3⟩
   ·rw[bifT (by rw[q1];rfl),bifF (by rw[q3];simp),yAL r (by omega) (by omega),y5a l (by omega)]
    simp only[bind_some];have hnum:yOt (kerV r l).1=some ((kerV r l).1,()):=by
     unfold yOt yPt;rw[bifT (y8 (by omega))]
    have hnz:(kerV r l).1.any nzG=true:=by
     obtain ⟨z,z1,z2⟩:=q5;exact List.any_eq_true.2 ⟨z,z1,(yBg z).2 z2⟩
    rw[hnum];simp only[bind_some];rw[yGF (by omega) (by omega) (by omega) hnl ll (by omega),h,yR,yCf h33 q3 (λ z hz=>y83 (q4 z hz) (by decide)) q6,if_pos hnz]
    simp only[bind_some];rw[bifF (by rfl)]
    obtain ⟨p,q,y,rfl⟩:∃ p q y,xp=[p,q,y]:=by
     match xp,hx3 with
     |[p,q,y],_=>exact ⟨p,q,y,rfl⟩
    have hp:=ySG (hxw p (by simp))
    have hq:=ySG (hxw q (by simp))
    show Option.bind (some p) (λ v56=>Option.bind (some q) λ v57=>_)=_
    simp only[bind_some];rw[y0o (i:=p) (by omega) (by omega),y0o (i:=q) (by omega) (by omega),bifT (y8 (show (kerV r l).1.length < lenMax by omega))]
    have hby:bd 128 (p,q,()):=by unfold bd;simp only;omega
    have hmx:∀ z∈(kerV r l).1,(z0W (z.1,z.2.1,()) (p,q,())).1=mulX z (p,q,()):=λ z hz=>yE4 (x:=z) (q4 z hz) hby (by decide)
    rw[y1q (λ z=>(z0W (z.1,z.2.1,()) (p,q,())).1) (kerV r l).1 0 [] (by simp;omega) (λ i e s he hs=>by
     unfold yKM;first|rw[bifF (yNp (q4 e he)),bifT (y8 hs)]|(rw[bifF,bifT (y8 hs)];exact yNp (q4 e he))),List.nil_append,List.map_congr_left hmx]
    have hm1:((kerV r l).1.map λ z=>mulX z (p,q,())).length=l.length:=by rw[List.length_map,q3]
    have hm2:∀ z∈(kerV r l).1.map (λ z=>mulX z (p,q,())),bd 8796093022208 z:=λ z hz=>by
     obtain ⟨u,hu,rfl⟩:=mem_map.1 hz;exact y83 (yIm (q4 u hu) hby) (by decide)
    have hm3:∀ t∈tks r,lc ((kerV r l).1.map λ z=>mulX z (p,q,())) (l.map chr) t=G0:=λ t ht=>by
     rw[yGZ,q6 t ht];exact yF (by simp[mulX,G0]) (by simp[mulX,G0])
    have hck:=yCf h33 hm1 hm2 hm3;unfold yJm;cases hz:eqV ((Ty.int i64).pair ((Ty.int i64).pair Ty.unit)) (p,q,()) (0,0,())with
    |true =>
     have h0:((p,q,()):Gau)=G0:=Classical.byContradiction λ hne=>by
      have:=(yBg (p,q,())).2 hne;unfold nzG at this;rw[hz]at this;cases this
     refine yNa h hlv hnm hg hnl rfl _ hm1 6 ?_
     rw[hck,if_neg];rw[List.any_eq_true];rintro ⟨z,z1,z2⟩
     obtain ⟨u,hu,rfl⟩:=mem_map.1 z1;refine (yBg _).1 z2 ?_
     rw[h0];exact yF (by simp[mulX,G0]) (by simp[mulX,G0])
    |false =>
     have h0:((p,q,()):Gau)≠G0:=(yBg (p,q,())).1 (by unfold nzG;rw[hz];rfl)
     refine yNa h hlv hnm hg hnl rfl _ hm1 0 ?_
     rw[hck,if_pos];obtain ⟨z,z1,z2⟩:=q5;exact List.any_eq_true.2 ⟨_,mem_map.2 ⟨z,z1,rfl⟩,(yBg _).2 (yIe z2 h0)⟩
   ·rw[bifF (by rw[q1];rfl)]
    have ht:=yLF h hlv hnm hg hnl hx3;unfold yN5 at ht;exact ht
  rcases hk with ⟨q1,q2,_⟩|⟨q1,_,q3⟩
  ·have hden:denA r l=0:=d2.2 q2;have hrk:¬ ((y1T r l).length:Int)=(l.length:Int):=λ e=>(k2.1 (by omega)) q2
   have hrb:(((y1T r l).length:Int) == (l.length:Int))=false:=by simpa using hrk
   rw[bifF (by rw[q1];rfl),bifF (by rfl),bifF (by rfl),bifF (by rfl),bifF (y9 (by omega)),bifF (y9 (by omega)),bifF (y9 (by omega)),bifF (y9 (by omega)),bifF (by rw[q1,hden];rfl),bifF (by rw[hrb,hden];rfl)]
   exact hmain
  ·have hden:denA r l≠0:=λ e=>q3 (d2.1 e)
   have hrk:((y1T r l).length:Int)=(l.length:Int):=by have:=k2.2 q3;omega
   have hrb:(((y1T r l).length:Int) == (l.length:Int))=true:=by simpa using hrk
   have hdb:(denA r l == 0)=false:=by simpa using hden
   rw[bifT (by rw[q1];rfl),bifF (by rw[q1];rfl),bifF (by rfl),bifF (by rfl),bifF (by rfl),bifF (y9 (by omega)),bifF (y9 (by omega)),bifF (y9 (by omega)),bifF (y9 (by omega)),bifF (by rw[q1,hdb];rfl),bifF (by rw[hrb,y8 (show denA r l > 0 by omega)];rfl)]
   exact hmain
end Go.Tw
