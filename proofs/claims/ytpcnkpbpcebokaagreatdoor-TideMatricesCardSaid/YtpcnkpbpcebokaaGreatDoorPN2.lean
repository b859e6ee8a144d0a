import Derived.Test.YtpcnkpbpcebokaaGreatDoorPN1
import Derived.Test.YtpcnkpbpcebokaaGreatDoorPK
set_option linter.all false
set_option maxRecDepth 100000
namespace Go.Tw
open Go.Vx Go.Vx.B Go.Proofs
noncomputable def y43(r:Rec)(k:List Con)(c:Con):List Con:=if denA r (k++[c]) == 0 then k else k++[c]
noncomputable def yTl(r:Rec)(l:List Con):List Con:=l.foldl (y43 r) []
theorem yJH(r:Rec)(k:List Con)(c:Con):(y43 r k c).length<=k.length+1:=by
 unfold y43;split
 ·omega
 ·simp
theorem yMB{r:Rec}{l:List Con}(hn:r.1.length < lenMax)(hl:r.2.2.1.length < lenMax)(hg:r.2.2.2.1.length < lenMax)(hnl:∀ n∈l,n.1.length < lenMax)(hll:l.length < lenMax) :
  yEg r l=some (if y1i r l=0 then (((yTl r l).length:Int),0,())else (0,y1i r l,())):=by
 have hmem:memMax=68719476736:=rfl;unfold yEg;rw[y4E r l hn hl hg hnl hll];simp only[Option.bind_some];by_cases h:y1i r l=0
 ·obtain ⟨h1,h2,h3,h4⟩:=y3g h;have h5:=h3.2;rw[if_pos h,bifF (by simp[h]),bifT (y7 hll)]
  have key:∀ (p:List Con) (i:Nat) (k:List Con),k.length+p.length<=4->(∀ c∈k,y2A c)->(∀ c∈p,y2A c) ->
    yP (λ i__ e__ s__=>y9B r l i__ e__ s__) (λ s__=>yCx r l s__) (i:Int) p k=yCx r l (p.foldl (y43 r) k):=by
   intro p;induction p with
   |nil=>intro i k _ _ _;rfl
   |cons c p ih =>
    intro i k hk hok hop;simp only[List.length_cons]at hk;have hb:y9B r l (i:Int) c k=some (.inr (y43 r k c)):=by
     unfold y9B;rw[bifT (y7 (by omega)),bifT (y7 (by omega))]
     show Option.bind (yBH r (k++[c])) _=_
     rw[yYu h1 h2 (by simp;omega) (λ x hx=>by
      rcases List.mem_append.1 hx with hx|hx
      ·exact hok x hx
      ·rw[List.mem_singleton.1 hx];exact hop c (by simp))]
     simp only[Option.bind_some];unfold y43;cases (denA r (k++[c]) == 0)<;>rfl
    rw[yz,hb];simp only[Option.bind_some];have hs:=yJH r k c;refine ih (i+1) (y43 r k c) (by omega) (λ x hx=>?_) (λ x hx=>hop x (by simp[hx]))
    unfold y43 at hx;split at hx
    ·exact hok x hx
    ·rcases List.mem_append.1 hx with hx|hx
     ·exact hok x hx
     ·rw[List.mem_singleton.1 hx];exact hop c (by simp)
  have:=key l 0 [] (by simp;omega) (λ c hc=>by cases hc) h4
  refine (show _=_ from this).trans ?_
  rfl
 ·rw[if_neg h,bifT (by simpa using h)]
theorem yDb{r:Rec}(hT:(tks r).length<=128){l:List Con}(hl:l.length<=4):0<=denA r l/\(denA r l=0 ↔ Dep (tks r) (l.map chr)):=by
 obtain ⟨D,h1,h2,h3⟩:=yFj hT hl;have e:denA r l=D:=by unfold denA;rw[h1]
 rw[e];exact ⟨h2.1,h3⟩
theorem yIk{r:Rec}(hT:(tks r).length<=128):∀ (l k:List Con),k.length+l.length<=4->¬ Dep (tks r) (k.map chr) ->
  ¬ Dep (tks r) ((l.foldl (y43 r) k).map chr)/\(∃ s,List.Sublist s l/\l.foldl (y43 r) k=k++s)/\(∀ c∈l,Span (tks r) ((l.foldl (y43 r) k).map chr) (chr c))/\∀ f,Span (tks r) (k.map chr) f->Span (tks r) ((l.foldl (y43 r) k).map chr) f
 |[],k,_,hk=>⟨hk,⟨[],List.Sublist.slnil,by simp⟩,λ c hc=>(by cases hc),λ f hf=>hf⟩
 |c::l,k,hl,hk=>by
  simp only[List.length_cons]at hl;obtain ⟨d1,d2⟩:=yDb hT (l:=k++[c]) (by simp;omega)
  rw[List.map_append,List.map_cons,List.map_nil]at d2;rw[List.foldl_cons];by_cases h0:denA r (k++[c])=0
  ·have e:y43 r k c=k:=by unfold y43;rw[if_pos (by simpa using h0)]
   rw[e];obtain ⟨a1,⟨s,a2,a3⟩,a4,a5⟩:=yIk hT l k (by omega) hk
   refine ⟨a1,⟨s,a2.cons c,a3⟩,λ x hx=>?_,a5⟩
   rcases List.mem_cons.1 hx with rfl|hx
   ·exact a5 _ (Span.of_dep (d2.1 h0) hk)
   ·exact a4 x hx
  ·have e:y43 r k c=k++[c]:=by unfold y43;rw[if_neg (by simpa using h0)]
   rw[e];have hk2:¬ Dep (tks r) ((k++[c]).map chr):=λ h=>h0 (d2.2 (by simpa using h))
   obtain ⟨a1,⟨s,a2,a3⟩,a4,a5⟩:=yIk hT l (k++[c]) (by simp;omega) hk2
   have em:(k++[c]).map chr=k.map chr++[chr c]:=by simp
   refine ⟨a1,⟨c::s,a2.cons_cons c,by rw[a3];simp⟩,λ x hx=>?_,λ f hf=>a5 f (by rw[em];exact hf.app _)⟩
   rcases List.mem_cons.1 hx with rfl|hx
   ·exact a5 _ (by rw[em];exact Span.last _ _ _)
   ·exact a4 x hx
def sel:List Con->Nat->List Con
 |[],_=>[]
 |c::l,s=>if s % 2=1 then c::sel l (s / 2)else sel l (s / 2)
theorem yAO:∀ (l:List Con) (s:Nat),List.Sublist (sel l s) l
 |[],_=>List.Sublist.slnil
 |c::l,s=>by
  unfold sel;split
  ·exact (yAO l (s / 2)).cons_cons c
  ·exact (yAO l (s / 2)).cons c
theorem yTK{k l:List Con}(h:List.Sublist k l):∃ s,s < 2 ^ l.length/\sel l s=k:=by
 induction h with
 |slnil=>exact ⟨0,by simp,rfl⟩
 | @cons k l c _ ih =>
  obtain ⟨s,h1,h2⟩:=ih;refine ⟨2 * s,by rw[List.length_cons,Nat.pow_succ];omega,?_⟩
  unfold sel;rw[if_neg (by omega),show 2 * s / 2=s by omega,h2]
 | @cons_cons k l c _ ih =>
  obtain ⟨s,h1,h2⟩:=ih;refine ⟨2 * s+1,by rw[List.length_cons,Nat.pow_succ];omega,?_⟩
  unfold sel;rw[if_pos (by omega),show (2 * s+1) / 2=s by omega,h2]
theorem yIE(i:Nat)(h:i<=4):y7e (i:Int)=some (((2 ^ i:Nat):Int),()):=by
 unfold y7e;rcases (show i=0\/i=1\/i=2\/i=3\/i=4 by omega)with rfl|rfl|rfl|rfl|rfl<;>rfl
noncomputable def y6b(r:Rec)(l:List Con)(m:Int)(s:Nat):Int:=if denA r (sel l s) > 0 then (if ((sel l s).length:Int) > m then ((sel l s).length:Int)else m)else m
noncomputable def yLU(r:Rec)(l:List Con):Int:=(List.range (2 ^ l.length)).foldl (y6b r l) 0
theorem yJk(r:Rec)(l:List Con)(k:Int):∀ (L:List Nat) (m:Int),m<=k->(∀ s∈L,denA r (sel l s) > 0->((sel l s).length:Int)<=k)->L.foldl (y6b r l) m<=k
 |[],m,h,_=>h
 |s::L,m,h,hs=>by
  rw[List.foldl_cons];refine yJk r l k L _ ?_ λ x hx=>hs x (by simp[hx])
  have:=hs s (by simp)
  unfold y6b;split
  ·split
   ·exact this ‹_›
   ·exact h
  ·exact h
theorem yIe(r:Rec)(l:List Con):∀ (L:List Nat) (m:Int),m<=L.foldl (y6b r l) m/\∀ s∈L,denA r (sel l s) > 0->((sel l s).length:Int)<=L.foldl (y6b r l) m
 |[],m=>⟨Int.le_refl _,λ s hs=>by cases hs⟩
 |s::L,m=>by
  rw[List.foldl_cons];obtain ⟨h1,h2⟩:=yIe r l L (y6b r l m s);have hm:m<=y6b r l m s:=by
   unfold y6b;split
   ·split<;>omega
   ·omega
  refine ⟨by omega,λ x hx hd=>?_⟩
  rcases List.mem_cons.1 hx with rfl|hx
  ·have:((sel l x).length:Int)<=y6b r l m x:=by
    unfold y6b;rw[if_pos hd];split<;>omega
   omega
  ·exact h2 x hx hd
theorem yTN{r:Rec}(hT:(tks r).length<=128){l:List Con}(hl:l.length<=4):yLU r l=((yTl r l).length:Int):=by
 have hn:¬ Dep (tks r) (([]:List Con).map chr):=λ h=>by
  obtain ⟨c,h1,⟨z,h2,_⟩,_⟩:=h;have:c=[]:=List.eq_nil_of_length_eq_zero (by simpa using h1)
  subst this;cases h2
 obtain ⟨a1,⟨s,a2,a3⟩,a4,_⟩:=yIk hT l [] (by simp;omega) hn
 rw[List.nil_append]at a3;have hk:yTl r l=s:=a3;rw[show l.foldl (y43 r) []=s from a3]at a1 a4
 rw[hk];unfold yLU;obtain ⟨q,q1,q2⟩:=yTK a2;have hsl:=a2.length_le;obtain ⟨d1,d2⟩:=yDb hT (l:=s) (by omega)
 have hd:denA r (sel l q) > 0:=by
  rw[q2];have:denA r s≠0:=λ h=>a1 (d2.1 h)
  omega
 have g:=(yIe r l (List.range (2 ^ l.length)) 0).2 q (List.mem_range.2 q1) hd;rw[q2]at g;refine Int.le_antisymm (yJk r l _ _ 0 (by omega) λ x hx hdx=>?_) g
 have hs:=yAO l x;have hxl:=hs.length_le;obtain ⟨e1,e2⟩:=yDb hT (l:=sel l x) (by omega)
 have hv:¬ Dep (tks r) ((sel l x).map chr):=λ h=>by have:=e2.2 h;omega
 have:=yNg (T:=tks r) (w:=s.map chr) (v:=(sel l x).map chr) (λ f hf=>by
  obtain ⟨c,hc,rfl⟩:=List.mem_map.1 hf;exact a4 c (hs.subset hc)) hv
 simp only[List.length_map]at this;omega
theorem yNq{r:Rec}(h1:okR r){l:List Con}(h5:l.length<=4)(h4:∀ c∈l,y2A c):yHJ r l=some (yLU r l,()):=by
 have hmem:memMax=68719476736:=rfl;have hp:(2:Nat) ^ l.length<=16:=by
  rcases (show l.length=0\/l.length=1\/l.length=2\/l.length=3\/l.length=4 by omega)with h|h|h|h|h<;>rw[h]<;>omega
 unfold yHJ yLU;rw[yIE _ h5];simp only[Option.bind_some];generalize 2 ^ l.length=N at hp ⊢;rw[bifT (y7 (by omega)),show ((N:Int) - 0).toNat=(List.range N).length by rw[List.length_range];omega]
 have b:=y91 (body:=λ i__ s__=>yCo l r ((N:Int),()) i__ s__) (fin:=λ s__=>yEw l r ((N:Int),()) s__) (List.range N) (y6b r l) (λ i s m he=>by
  obtain ⟨hi,rfl⟩:=List.getElem?_eq_some_iff.1 he;simp only[List.length_range]at hi;rw[List.getElem_range];unfold yCo;rw[bifT (y7 (by omega)),show ((l.length:Int) - 0).toNat=l.length by omega]
  have key:∀ (p done c0:List Con),l=done++p->c0.length+p.length<=4->y06 (λ i__ s__=>y9F l r m (i:Int) i__ s__) (λ s__=>y7Z l r m (i:Int) s__) p.length (done.length:Int) c0=y7Z l r m (i:Int) (c0++sel p (i / 2 ^ done.length)):=by
   intro p;induction p with
   |nil=>intro done c0 _ _;rw[show sel [] (i / 2 ^ done.length)=[]from rfl,List.append_nil];rfl
   |cons c p ih =>
    intro done c0 hx hc;simp only[List.length_cons]at hc;have hdl:done.length<=4:=by have:=congrArg List.length hx;simp at this;omega
    have hpos:0 < 2 ^ done.length:=Nat.two_pow_pos _;have hb:y9F l r m (i:Int) (done.length:Int) c0=some (.inr (if (i / 2 ^ done.length) % 2=1 then c0++[c]else c0)):=by
     unfold y9F;rw[yIE _ hdl];simp only[Option.bind_some];have hq:i / 2 ^ done.length<=i:=Nat.div_le_self _ _;have e1:((i:Int)).tdiv ((2 ^ done.length:Nat):Int)=((i / 2 ^ done.length:Nat):Int):=by
      rw[Int.tdiv_eq_ediv_of_nonneg (by omega)]
      exact (Int.natCast_ediv _ _).symm
     rw[bifF (by simpa using (by omega:((2 ^ done.length:Nat):Int)≠0)),e1]
     generalize i / 2 ^ done.length=Q at hq ⊢;rw[y1s (by omega) (by omega)]
     have e2:((Q:Int)).tmod 2=((Q % 2:Nat):Int):=by
      rw[Int.tmod_eq_emod_of_nonneg (by omega)]
      exact (Int.natCast_emod _ 2).symm
     rw[e2];by_cases hh:Q % 2=1
     ·rw[if_pos hh,hh,bifT (by rfl),y0X,hx,List.getElem?_append_right (by omega),Nat.sub_self]
      show (bif decide (c0.length+1<=memMax)then some (Sum.inr (c0++[c]))else none)=_
      rw[bifT (y7 (by omega))]
     ·rw[if_neg hh,bifF (by simpa using (by omega:((Q % 2:Nat):Int)≠1))]
    rw[List.length_cons,y1W,hb];simp only[Option.bind_some];have:=ih (done++[c]) (if (i / 2 ^ done.length) % 2=1 then c0++[c]else c0) (by rw[hx];simp) (by split<;>first|omega|(simp only[List.length_append,List.length_cons,List.length_nil];omega))
    simp only[List.length_append,List.length_cons,List.length_nil]at this;refine (show _=_ from this).trans ?_
    have ed:i / 2 ^ (done.length+0+1)=i / 2 ^ done.length / 2:=by rw[Nat.pow_succ,Nat.div_div_eq_div_mul];try simp
    have ed':i / 2 ^ (done.length+(0+1))=i / 2 ^ done.length / 2:=by rw[<- Nat.add_assoc];exact ed
    rw[ed'];show _=y7Z l r m (i:Int) (c0++if (i / 2 ^ done.length) % 2=1 then c::sel p (i / 2 ^ done.length / 2)else sel p (i / 2 ^ done.length / 2))
    split<;>simp
  have k:=key l [] [] rfl (by simp;omega)
  refine (show _=_ from k).trans ?_
  rw[List.nil_append,List.length_nil,Nat.pow_zero,Nat.div_one];have hs:=yAO l i;have hsl:=hs.length_le;unfold y7Z;rw[yFh h1 (by omega) (λ c hc=>h4 c (hs.subset hc))]
  simp only[Option.bind_some];unfold y6b;by_cases hd:denA r (sel l i) > 0
  ·rw[if_pos hd,bifT (y7 hd)]<;>rfl
  ·rw[if_neg hd,bifF (yF hd)]) (List.range N) [] 0 rfl
 refine (show _=_ from b).trans ?_
 rfl
end Go.Tw
