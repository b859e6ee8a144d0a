import Derived.Lib.ItoaNum
import Derived.Lib.AtoiTie
import Derived.Lib.SplitLaws
import Derived.Lib.Strings
import Derived.Test.YtlaebedgpkiodaaGreatDoorBZ
import Derived.Test.YtlaebedgpkiodaaGreatDoorSA
import Derived.Test.YtlaebedgpkiodaaGreatDoorLP
set_option linter.all false
open List (length_cons mem_cons mem_cons_self nil_append)
open Option (bind_some map_some)
open Nat (le_refl)
section
namespace Go.S
open Go.Lib
abbrev Str:=List UInt8
theorem y4B:∀ (l:Str) (acc:Nat) (b:UInt8),decFrom acc (l++[b])=(decFrom acc l).bind λ n=>(digitVal b).map λ d=>n * 10+d
 |[],acc,b=>by
  simp only[nil_append,decFrom,bind_some];cases digitVal b<;>rfl
 |a::l,acc,b=>by
  simp only[List.cons_append,decFrom];cases digitVal a with
  |none=>rfl
  |some d=>exact y4B l _ b
theorem yK5(k:Nat)(h:k < 256):(UInt8.ofNat k).toNat=k:=by
 rw[UInt8.toNat_ofNat'];exact Nat.mod_eq_of_lt h
theorem yHz{a b:UInt8}(h:a.toNat=b.toNat):a=b:=UInt8.toNat_inj.1 h
theorem y6r(k:Nat)(h:k < 10):digitVal (UInt8.ofNat (48+k))=some k:=by
 unfold digitVal;rw[yK5 _ (by omega),if_pos (by omega)]
 congr 1;omega
theorem yIm(u:Nat):decFrom 0 (decDigits u)=some u:=by
 induction u using Nat.strongRecOn with
 |_ u ih =>
  by_cases h:u < 10
  ·rw[decDigits,dif_pos h];simp only[decFrom,y6r u h];congr 1;omega
  ·rw[decDigits,dif_neg h,y4B,ih (u / 10) (by omega),bind_some,y6r _ (by omega)]
   simp only[map_some];congr 1;omega
theorem y9M(u:Nat):decDigits u≠[]:=by
 rw[decDigits];split<;>simp
theorem yDa{u:Nat}{b:UInt8}(h:b∈decDigits u):48<=b.toNat/\b.toNat<=57:=by
 rw[decDigits_eq]at h;obtain ⟨t,_,rfl⟩:=List.mem_map.1 h;unfold dg;rw[yK5 _ (by omega)]
 omega
theorem yGh:∀ (k u:Nat),u < 10 ^ (k+1)->nDigits u<=k+1
 |0,u,h=>by rw[nDigits_small (by simpa using h)];exact le_refl _
 |k+1,u,h=>by
  by_cases hu:u < 10
  ·rw[nDigits_small hu];omega
  ·rw[nDigits_big hu];have:=yGh k (u / 10) (by rw[Nat.pow_succ]at h;omega)
   omega
theorem yMv{k u:Nat}(h:nDigits u<=k):u < 10 ^ k:=
 Nat.lt_of_lt_of_le (lt_pow_nDigits u) (Nat.pow_le_pow_right (by decide) h)
theorem yKh:∀ {u:Nat} {b:UInt8} {l:Str},decDigits u=b::l->l≠[]->b≠48:=by
 intro u;induction u using Nat.strongRecOn with
 |_ u ih =>
  intro b l h hl;rw[decDigits]at h;split at h
  ·simp only[List.cons.injEq]at h;exact absurd h.2.symm hl
  ·rename_i hu;cases hd:decDigits (u / 10)with
   |nil=>exact absurd hd (y9M _)
   |cons a t =>
    rw[hd]at h;simp only[List.cons_append,List.cons.injEq]at h;obtain ⟨rfl,rfl⟩:=h;cases t with
    |cons c t=>exact ih _ (by omega) hd (by simp)
    |nil =>
     rw[decDigits]at hd;split at hd
     ·rename_i h10;simp only[List.cons.injEq,and_true]at hd;subst hd;intro e;have:=congrArg UInt8.toNat e;rw[yK5 _ (by omega)]at this
      have h48:(48:UInt8).toNat=48:=rfl;omega
     ·have:=congrArg List.length hd;simp only[List.length_append,length_cons,List.length_nil]at this;have h2:=List.length_pos_iff.2 (y9M (u / 10 / 10));omega
theorem yMh(n:Nat):∀ (l:Str) (u:Nat),l.length=n->l≠[]->(∀ b t,l=b::t->t≠[]->b≠48)->decFrom 0 l=some u->decDigits u=l/\(l.head?≠some 48->0 < u):=by
 induction n with
 |zero=>intro l u hl hn;exact absurd (List.eq_nil_of_length_eq_zero hl) hn
 |succ n ih =>
  intro l u hl hn h0 hd;obtain ⟨l',b,rfl⟩:∃ l' b,l=l'++[b]:=⟨l.dropLast,l.getLast hn,(List.dropLast_concat_getLast hn).symm⟩;rw[y4B]at hd;obtain ⟨m,hm,hd⟩:=Option.bind_eq_some_iff.1 hd;obtain ⟨d,hb,rfl⟩:=Option.map_eq_some_iff.1 hd;obtain ⟨hb1,hb2,rfl⟩:=digitVal_eq hb;have hbb:UInt8.ofNat (48+(b.toNat - 48))=b:=yHz (by rw[yK5 _ (by omega)];omega)
  cases l' with
  |nil =>
   simp only[decFrom,Option.some.injEq]at hm;subst hm;refine ⟨?_,λ hne=>?_⟩
   ·rw[decDigits,dif_pos (by omega)]
    simp only[Nat.zero_mul,Nat.zero_add,hbb,nil_append]
   ·simp only[nil_append,List.head?_cons,ne_eq,Option.some.injEq]at hne;rcases Nat.lt_or_ge 48 b.toNat with h|h
    ·omega
    ·exact absurd (yHz (by show b.toNat=48;omega)) hne
  |cons a t =>
   have hlen:(a::t).length=n:=by simpa using hl
   have ha:a≠48:=h0 a (t++[b]) rfl (by simp)
   obtain ⟨h1,h2⟩:=ih (a::t) m hlen (by simp) (λ b' t' e ht=>by cases e;exact ha) hm
   have hpos:=h2 (by simpa using ha)
   refine ⟨?_,λ _=>by omega⟩
   rw[decDigits,dif_neg (by omega),show (m * 10+(b.toNat - 48)) / 10=m by omega,show (m * 10+(b.toNat - 48)) % 10=b.toNat - 48 by omega,h1,hbb]
def numb(mx:Nat)(l:Str):Option Nat:=if l.length=0\/mx < l.length\/(1 < l.length/\l.head?=some 48)then none else decFrom 0 l
theorem yF5{mx:Nat}{l:Str}{u:Nat}(h:numb mx l=some u):decDigits u=l/\u < 10 ^ mx:=by
 unfold numb at h;split at h
 ·cases h
 ·rename_i hc;have h1:decDigits u=l:=(yMh _ l u rfl (λ e=>hc (.inl (by rw[e];rfl))) (λ b t e ht hb=>hc (.inr (.inr ⟨by rw[e];have:=List.length_pos_iff.2 ht;simp;omega,by rw[e,hb];rfl⟩))) h).1
  exact ⟨h1,yMv (by rw[<- decDigits_length,h1];omega)⟩
theorem yEj{mx u:Nat}(h:u < 10 ^ (mx+1)):numb (mx+1) (decDigits u)=some u:=by
 unfold numb;have hl:=yGh mx u h;rw[if_neg,yIm];rintro (h1|h1|⟨h1,h2⟩)
 ·exact y9M u (List.eq_nil_of_length_eq_zero h1)
 ·rw[decDigits_length]at h1;omega
 ·cases hd:decDigits u with
  |nil=>exact y9M u hd
  |cons b t =>
   rw[hd]at h1 h2;simp only[List.head?_cons,Option.some.injEq]at h2;exact yKh hd (by intro e;rw[e]at h1;simp at h1) h2
def sgn(mx:Nat):Str->Option Int
 |[]=>none
 |b::r=>if b=45 then (match numb mx r with|some n=>if 0 < n then some (-(n:Int))else none|none=>none)else Option.map (λ (n:Nat)=>(n:Int)) (numb mx (b::r))
theorem yHF(mx:Nat)(r:Str):sgn mx (45::r)=(match numb mx r with|some n=>if 0 < n then some (-(n:Int))else none|none=>none):=by
 unfold sgn;exact if_pos rfl
theorem yGu(mx:Nat){b:UInt8}(hb:b≠45)(r:Str):sgn mx (b::r)=Option.map (λ (n:Nat)=>(n:Int)) (numb mx (b::r)):=by
 unfold sgn;exact if_neg hb
theorem yEg{v:Int}{b:UInt8}(h:b∈itoa v):b=45\/48<=b.toNat/\b.toNat<=57:=by
 unfold itoa at h;split at h
 ·rcases mem_cons.1 h with h|h
  ·exact .inl h
  ·exact .inr (yDa h)
 ·exact .inr (yDa h)
theorem yB6(u:Nat):∃ b r,decDigits u=b::r/\b≠45/\b≠43:=by
 cases hd:decDigits u with
 |nil=>exact absurd hd (y9M u)
 |cons b r =>
  have:=yDa (u:=u) (b:=b) (by rw[hd];exact mem_cons_self ..)
  refine ⟨b,r,rfl,?_,?_⟩<;>rintro rfl<;>exact absurd this (by decide)
theorem yER{mx:Nat}{v:Int}(h:v.natAbs < 10 ^ (mx+1)):sgn (mx+1) (itoa v)=some v:=by
 unfold itoa;split
 ·rename_i hv;rw[yHF,yEj h];dsimp only;rw[if_pos (by omega)]
  congr 1;omega
 ·rename_i hv;obtain ⟨b,r,hd,h45,_⟩:=yB6 v.toNat;rw[hd];rw[yGu _ h45,<- hd,yEj (by omega)]
  simp only[map_some];congr 1;omega
theorem y2r{mx:Nat}{l:Str}{v:Int}(h:sgn mx l=some v):itoa v=l/\v.natAbs < 10 ^ mx:=by
 cases l with
 |nil=>cases h
 |cons b r =>
  by_cases hb:b=45
  ·subst hb;rw[yHF]at h;split at h
   ·rename_i n hn;split at h
    ·cases h;obtain ⟨h1,h2⟩:=yF5 hn;refine ⟨?_,by omega⟩
     unfold itoa;rw[if_pos (by omega),show (-(n:Int)).natAbs=n by omega,h1]
    ·cases h
   ·cases h
  ·rw[yGu _ hb]at h;obtain ⟨n,hn,rfl⟩:=Option.map_eq_some_iff.1 h;obtain ⟨h1,h2⟩:=yF5 hn;refine ⟨?_,by omega⟩
   unfold itoa;rw[if_neg (by omega)]
   exact h1
theorem yF8(u:Nat):trimPrefix (decDigits u) [45]=decDigits u:=by
 obtain ⟨b,r,hd,h45,_⟩:=yB6 u;rw[hd];unfold trimPrefix hasPrefix;rw[if_neg];simp[List.isPrefixOf,Ne.symm h45]
theorem yOs{mx:Nat}{w:Str}{n:Int}(h1:itoa n=w)(h2:(trimPrefix w [45]).length<=mx+1):sgn (mx+1) w=some n:=by
 subst h1;refine yER ?_
 unfold itoa at h2;split at h2
 ·have e:trimPrefix (45::decDigits n.natAbs) [45]=decDigits n.natAbs:=by
   unfold trimPrefix hasPrefix;rw[if_pos (by simp[List.isPrefixOf])]
   rfl
  rw[e,decDigits_length]at h2;exact yMv h2
 ·rw[yF8,decDigits_length]at h2;have:=yMv h2;omega
theorem yNB{mx:Nat}{w:Str}{n:Int}(h:sgn (mx+1) w=some n):(trimPrefix w [45]).length<=mx+1:=by
 obtain ⟨h1,h2⟩:=y2r h;subst h1;unfold itoa;split
 ·have e:trimPrefix (45::decDigits n.natAbs) [45]=decDigits n.natAbs:=by
   unfold trimPrefix hasPrefix;rw[if_pos (by simp[List.isPrefixOf])]
   rfl
  rw[e,decDigits_length];exact yGh mx _ h2
 ·rw[yF8,decDigits_length];exact yGh mx _ (by omega)
theorem yHo{mx:Nat}(hm:mx+1<=17){v:Int}(h:v.natAbs < 10 ^ (mx+1)):atoiAll (itoa v)=.ok v:=by
 have hlen:(itoa v).length<=18:=by
  have:=yGh mx v.natAbs h;unfold itoa;split
  ·simp only[length_cons,decDigits_length];omega
  ·rw[decDigits_length,show v.toNat=v.natAbs by omega];omega
 rw[atoiAll_short _ hlen];have:atoi (itoa v)=some v:=by
  have dn:∀ u,decNat (decDigits u)=some u:=λ u=>by
   unfold decNat;rw[if_neg (by simpa using y9M u),yIm]
  unfold itoa;split
  ·show Option.map (λ (m:Nat)=>-(m:Int)) (decNat (decDigits v.natAbs))=_
   rw[dn];simp only[map_some];congr 1;omega
  ·obtain ⟨b,r,hd,h45,h43⟩:=yB6 v.toNat;rw[hd];have e:atoi (b::r)=Option.map (λ (m:Nat)=>(m:Int)) (decNat (b::r)):=by
    simp only[atoi,beq_iff_eq,if_neg h45,if_neg h43]
   rw[e,<- hd,dn];simp only[map_some];congr 1;omega
 rw[this];rfl
theorem yJg{mx:Nat}(hm:mx+1<=17){w:Str}{v:Int}(h:sgn (mx+1) w=some v):atoiAll w=.ok v:=by
 obtain ⟨h1,h2⟩:=y2r h;rw[<- h1];exact yHo hm h2
def yZ(c:UInt8):Str->List Str
 |[]=>[[]]
 |b::l=>if b=c then []::yZ c l else match yZ c l with|[]=>[[b]]|x::xs=>(b::x)::xs
theorem y1e(c:UInt8)(s:Str):yZ c s≠[]:=by
 cases s with
 |nil=>simp[yZ]
 |cons b l =>
  unfold yZ;split
  ·simp
  ·split<;>simp
theorem y3l(c:UInt8):∀ (s x:Str),x∈yZ c s->c ∉ x
 |[],x,h=>by simp only[yZ,List.mem_singleton]at h;subst h;simp
 |b::l,x,h=>by
  unfold yZ at h;split at h
  ·rcases mem_cons.1 h with rfl|h
   ·simp
   ·exact y3l c l x h
  ·rename_i hb;split at h
   ·rename_i he;exact absurd he (y1e c l)
   ·rename_i y ys he;rcases mem_cons.1 h with rfl|h
    ·have:=y3l c l y (by rw[he];exact mem_cons_self ..)
     simp only[mem_cons,not_or];exact ⟨λ e=>hb e.symm,this⟩
    ·exact y3l c l x (by rw[he];exact List.mem_cons_of_mem _ h)
def y08(c:UInt8):List Str->Str
 |[]=>[]
 |[x]=>x
 |x::y::r=>x++c::y08 c (y::r)
theorem y0x(c:UInt8)(x:Str){r:List Str}(h:r≠[]):y08 c (x::r)=x++c::y08 c r:=by
 cases r with
 |nil=>exact absurd rfl h
 |cons y r=>rfl
theorem y0h(c:UInt8):∀ s:Str,y08 c (yZ c s)=s
 |[]=>rfl
 |b::l=>by
  have ih:=y0h c l;unfold yZ;split
  ·rename_i hb;rw[y0x c [] (y1e c l),ih,hb];rfl
  ·split
   ·rename_i he;exact absurd he (y1e c l)
   ·rename_i y ys he;rw[he]at ih;cases ys with
    |nil=>exact congrArg (b::·) ih
    |cons z zs=>exact congrArg (b::·) ih
theorem y2M(c:UInt8):∀ (x t:Str),c ∉ x->yZ c (x++c::t)=x::yZ c t
 |[],t,_=>by simp[yZ]
 |b::x,t,h=>by
  simp only[mem_cons,not_or]at h;rw[List.cons_append,yZ,if_neg (λ e=>h.1 e.symm),y2M c x t h.2]
theorem y2g(c:UInt8):∀ (x:Str),c ∉ x->yZ c x=[x]
 |[],_=>rfl
 |b::x,h=>by
  simp only[mem_cons,not_or]at h;rw[yZ,if_neg (λ e=>h.1 e.symm),y2g c x h.2]
theorem y2k(c:UInt8):∀ l:List Str,l≠[]->(∀ x∈l,c ∉ x)->yZ c (y08 c l)=l
 |[],h,_=>absurd rfl h
 |[x],_,h=>y2g c x (h x (mem_cons_self ..))
 |x::y::r,_,h=>by
  rw[y0x c x (by simp),y2M c x _ (h x (mem_cons_self ..)),y2k c (y::r) (by simp) (λ z hz=>h z (List.mem_cons_of_mem _ hz))]
theorem yEB(c:UInt8):∀ l:List Str,[c].intercalate l=y08 c l
 |[]=>rfl
 |[x]=>by simp[List.intercalate,y08]
 |x::y::r=>by
  rw[y0x c x (by simp),<- yEB c (y::r)]
  simp[List.intercalate,List.intersperse]
theorem y2H(c:UInt8):∀ s:Str,(yZ c s).length=s.count c+1
 |[]=>rfl
 |b::l=>by
  unfold yZ;split
  ·rename_i hb;rw[length_cons,y2H c l,hb,List.count_cons_self]
  ·rename_i hb;split
   ·rename_i he;exact absurd he (y1e c l)
   ·rename_i y ys he;have:=y2H c l;rw[he]at this;rw[List.count_cons_of_ne (by simpa using hb)]
    simpa using this
theorem index_one:∀ (s:Str) (c:UInt8),(index s [c]=-1/\c ∉ s)\/∃ x t,s=x++c::t/\c ∉ x/\index s [c]=(x.length:Int)
 |[],c=>.inl ⟨by simp[index],by simp⟩
 |b::l,c=>by
  by_cases h:b=c
  ·subst h;exact .inr ⟨[],l,rfl,by simp,by rw[index];simp[List.isPrefixOf]⟩
  ·have hp:([c]:List UInt8).isPrefixOf (b::l)=false:=by simp[List.isPrefixOf,Ne.symm h]
   have hix:index (b::l) [c]=if index l [c] == -1 then -1 else index l [c]+1:=by rw[index,hp];simp
   rcases index_one l c with ⟨h1,h2⟩|⟨x,t,rfl,h2,h3⟩
   ·refine .inl ⟨by rw[hix,h1];rfl,?_⟩
    simp only[mem_cons,not_or];exact ⟨λ e=>h e.symm,h2⟩
   ·refine .inr ⟨b::x,t,rfl,?_,?_⟩
    ·simp only[mem_cons,not_or];exact ⟨λ e=>h e.symm,h2⟩
    ·rw[hix,h3,if_neg (by rw[beq_iff_eq];omega)]
     simp
theorem yEi(c:UInt8):∀ (k:Nat) (s:Str),s.count c=k->splitK [c] 0 k s=yZ c s
 |0,s,h=>by
  have:c ∉ s:=List.count_eq_zero.1 h;rw[y2g c s this];rfl
 |k+1,s,h=>by
  unfold splitK;rcases index_one s c with ⟨h1,h2⟩|⟨x,t,rfl,h2,h3⟩
  ·rw[List.count_eq_zero.2 h2]at h;omega
  ·rw[if_neg (by rw[h3,beq_iff_eq];omega),h3,y2M c x t h2]
   have hc:t.count c=k:=by
    rw[List.count_append,List.count_eq_zero.2 h2,List.count_cons_self]at h;omega
   simp only[Int.toNat_natCast,Nat.add_zero,length_cons,List.length_nil];rw[List.take_left,show x.length+(0+1)=x.length+1 from rfl,<- List.drop_drop,List.drop_left,List.drop_one,List.tail_cons,yEi c k t hc]
theorem yKv(c:UInt8)(s:Str):(splitB ⟨[c].toArray⟩ 0 (countB ⟨s.toArray⟩ ⟨[c].toArray⟩) ⟨s.toArray⟩).map (·.data.toList)=yZ c s:=by
 rw[splitB_data];refine yEi c _ s ?_
 exact (count_one c s).symm
theorem y2d(c:UInt8):∀ (s x:Str),x∈yZ c s->x.length<=s.length
 |[],x,h=>by simp only[yZ,List.mem_singleton]at h;subst h;simp
 |b::l,x,h=>by
  unfold yZ at h;split at h
  ·rcases mem_cons.1 h with rfl|h
   ·simp
   ·have:=y2d c l x h;simp;omega
  ·split at h
   ·rename_i he;exact absurd he (y1e c l)
   ·rename_i y ys he;rcases mem_cons.1 h with rfl|h
    ·have:=y2d c l y (by rw[he];exact mem_cons_self ..)
     simp;omega
    ·have:=y2d c l x (by rw[he];exact List.mem_cons_of_mem _ h);simp;omega
end Go.S
end
section
set_option maxRecDepth 1000000
namespace Go.SA
open Go.Vx Go.Vx.B Go.Tw Go.S Go.Lib
theorem bT{α:Type}{c:Bool}{a b:α}(h:c=true):(bif c then a else b)=a:=by rw[h];rfl
theorem bF{α:Type}{c:Bool}{a b:α}(h:c=false):(bif c then a else b)=b:=by rw[h];rfl
theorem dT{p:Prop}[Decidable p](h:p):decide p=true:=decide_eq_true h
theorem dF{p:Prop}[Decidable p](h:¬ p):decide p=false:=decide_eq_false h
theorem w64{n:Int}(h1:-9223372036854775808<=n)(h2:n < 9223372036854775808):IntKind.i64.wrap n=n:=by
 unfold IntKind.wrap IntKind.bits IntKind.signed;by_cases h:0<=n
 ·have h3:n % 2 ^ 64=n:=Int.emod_eq_of_lt h (by omega)
  simp only[h3];have h4:¬ (n >= 2 ^ (64 - 1)):=by omega
  simp[h4];omega
 ·have h3:n % 2 ^ 64=n+2 ^ 64:=by
   rw[<- Int.add_emod_right];exact Int.emod_eq_of_lt (by omega) (by omega)
  simp only[h3];have h4:n+2 ^ 64 >= 2 ^ (64 - 1):=by omega
  simp[h4];omega
theorem y5O(c:UInt8)(s:Str)(hs:s.length < memMax):∀ (k i from_:Nat) (out:List Str),i+k=s.length+1->from_<=i->out.length<=from_->i<=s.length->c ∉ (s.take i).drop from_ ->
  y2D (λ i__ s__=>y5f s (c.toNat:Int) i__ s__.1 s__.2) (λ s__=>yEp s (c.toNat:Int) s__.1 s__.2) k (i:Int) ((from_:Int),out)=some (out++yZ c (s.drop from_),())
 |0,i,f,out,h,_,_,h2,_=>by omega
 |k+1,i,f,out,h,hf,ho,hi,hc=>by
  have hcut:List.drop f (List.take i s)=(s.take i).drop f:=rfl;rcases Nat.lt_or_ge i s.length with hlt|hge
  ·have hg:idx s (i:Int)=some s[i]:=by rw[y9V,List.getElem?_eq_getElem hlt]
   have hb1:((i:Int) == (s.length:Int))=false:=by rw[beq_eq_false_iff_ne];omega
   have hd:s.drop f=(s.take i).drop f++s[i]::s.drop (i+1):=by
    have e1:s=s.take i++s[i]::s.drop (i+1):=by rw[List.getElem_cons_drop hlt,List.take_append_drop]
    conv=>lhs;rw[e1]
    rw[List.drop_append_of_le_length (by rw[List.length_take];omega)]
   by_cases he:s[i]=c
   ·have hbody:y5f s (c.toNat:Int) (i:Int) (f:Int) out=some (.inr (((i+1:Nat):Int),out++[(s.take i).drop f])):=by
     unfold y5f y9G;rw[hb1,cond_false,hg,bind_some,he,show (((c.toNat:Nat):Int) == ((c.toNat:Nat):Int))=true by simp,cond_true,
      bT (by rw[dT (Int.natCast_nonneg f),dT (by omega),dT (by omega)];rfl),bT (dT (by simp only[memMax]at hs ⊢;omega)),y3F (by omega) (by simp only[memMax]at hs;omega)]
     simp only[Int.toNat_natCast];rfl
    simp only[y2D];rw[hbody];simp only[bind_some];have ih:=y5O c s hs k (i+1) (i+1) (out++[(s.take i).drop f]) (by omega) (le_refl _) (by simp;omega) (by omega) (by rw[List.drop_take];simp)
    refine (show _=_ from ?_).trans (ih.trans ?_)
    ·rfl
    ·rw[List.append_assoc,hd,he,y2M c _ _ hc];rfl
   ·have hbody:y5f s (c.toNat:Int) (i:Int) (f:Int) out=some (.inr ((f:Int),out)):=by
     unfold y5f y9G;rw[hb1,cond_false,hg,bind_some,show (((s[i].toNat:Nat):Int) == ((c.toNat:Nat):Int))=false by
      rw[beq_eq_false_iff_ne];intro e;exact he (yHz (Int.ofNat.inj e)),cond_false]
    simp only[y2D];rw[hbody];simp only[bind_some];refine (show _=_ from ?_).trans (y5O c s hs k (i+1) f out (by omega) (by omega) ho (by omega) ?_)
    ·rfl
    ·rw[List.take_succ_eq_append_getElem hlt,List.drop_append_of_le_length (by rw[List.length_take];omega)]
     simp only[List.mem_append,List.mem_singleton,not_or];exact ⟨hc,λ e=>he e.symm⟩
  ·have e:i=s.length:=by omega
   subst e;have hk:k=0:=by omega
   subst hk;have hbody:y5f s (c.toNat:Int) (s.length:Int) (f:Int) out=some (.inr (((s.length+1:Nat):Int),out++[(s.take s.length).drop f])):=by
    unfold y5f y9G;rw[show ((s.length:Int) == (s.length:Int))=true by simp,cond_true,cond_true,
     bT (by rw[dT (Int.natCast_nonneg f),dT (by omega),dT (by omega)];rfl),bT (dT (by simp only[memMax]at hs ⊢;omega)),y3F (by omega) (by simp only[memMax]at hs;omega)]
    simp only[Int.toNat_natCast];rfl
   simp only[y2D];rw[hbody];simp only[bind_some];unfold yEp;rw[List.take_length]at hc ⊢;rw[y2g c _ hc]
theorem yI6(c:UInt8)(s:Str)(hs:s.length < memMax):yMm s (c.toNat:Int)=some (yZ c s,()):=by
 unfold yMm;rw[bT (dT (by simp only[memMax]at hs;omega)),show ((s.length:Int)+1 - 0).toNat=s.length+1 by omega]
 have:=y5O c s hs (s.length+1) 0 0 [] (by omega) (le_refl _) (le_refl _) (Nat.zero_le _) (by simp)
 rw[List.drop_zero,nil_append]at this;exact this
theorem yHn(c:UInt8)(s:Str)(hs:s.length < 4294967281):yC7 s [c]=some (yZ c s,()):=by
 have e:Tw.yCn s [c]=yZ c s:=yKv c s;unfold yC7;rw[e,bT];rw[dT hs,dT (by simp),dT]
 ·rfl
 ·rw[y2H];have h1:countB ⟨s.toArray⟩ ⟨[c].toArray⟩=s.count c:=count_one c s;rw[h1]
def I64(n:Int):Prop:=-9223372036854775808<=n/\n < 9223372036854775808
theorem y64(n:Int)(h:I64 n):y99 n=some (itoa n,()):=by
 unfold y99;obtain ⟨h1,h2⟩:=h;rw[bT];rw[dT h1,dT (by omega)]
 rfl
theorem yKE(l:List Str)(h1:l.length<=140737488355328)(h2:(y08 32 l).length<=140737488355328):yBt l [32]=some (y08 32 l,()):=by
 have e:Lib.join l [32]=y08 32 l:=yEB 32 l;unfold yBt;rw[e,bT];rw[dT h1,dT h2];rfl
theorem yFt(s:Str):y0U (y00 s)=s:=by
 unfold y0U y00;rw[List.map_map];conv=>rhs;rw[<- List.map_id s]
 refine List.map_congr_left λ b _=>?_
 show UInt8.ofNat ((b.toNat:Int)).toNat=b
 rw[Int.toNat_natCast];exact UInt8.ofNat_toNat
theorem yBY(s:Str):y5a (y00 s)=true:=by
 unfold y5a y00;rw[List.all_map,List.all_eq_true];intro b _;have:=b.toNat_lt;simp only[Function.comp,Bool.and_eq_true,decide_eq_true_eq];omega
end Go.SA
end
section
set_option maxRecDepth 1000000
namespace Go.SA
open Go.Vx Go.Vx.B Go.Tw Go.S Go.Lib
def atv(w:Str):Int:=match atoiAll w with|.ok v=>v|.syntax=>0|.range=>atoiSat w
def atk(w:Str):Bool:=match atoiAll w with|.ok _=>true|_=>false
theorem yB8(w:Str)(h:w.length<=281474976710656):yGK w=some (atv w,atk w,()):=by
 unfold yGK atv atk;rw[bT (dT h)];cases atoiAll w<;>rfl
theorem yIF(w:Str):I64 (atv w):=by
 unfold atv;cases h:atoiAll w with
 |ok v=>have:=atoiAll_bounds h;exact ⟨this.1,by show v < _;omega⟩
 | «syntax»=>exact ⟨by show (-9223372036854775808:Int)<=0;decide,by show (0:Int) < 9223372036854775808;decide⟩
 |range=>have:=atoiSat_bounds w;exact ⟨this.1,by show atoiSat w < _;omega⟩
end Go.SA
end
section
set_option maxRecDepth 1000000
namespace Go.SA
open Go.Vx Go.Vx.B Go.Tw Go.S Go.Lib
def y7C(w:Str):Bool:=!atk w || !(itoa (atv w) == w) || decide (15 < (trimPrefix w [45]).length)
theorem y4P(w:Str):sgn 15 w=if y7C w then none else some (atv w):=by
 cases h:sgn 15 w with
 |some v =>
  have h1:=yJg (mx:=14) (by decide) h
  have h2:=(y2r h).1;have h3:=yNB (mx:=14) h;have e1:atv w=v:=by unfold atv;rw[h1]
  have e2:atk w=true:=by unfold atk;rw[h1]
  have:y7C w=false:=by unfold y7C;rw[e2,e1,h2,dF (by omega)];simp
  rw[this,e1];rfl
 |none =>
  cases hw:y7C w with
  |true=>rfl
  |false =>
   unfold y7C at hw;simp only[Bool.or_eq_false_iff,Bool.not_eq_false',beq_iff_eq,decide_eq_false_iff_not,Nat.not_lt]at hw;have:=yOs (mx:=14) hw.1.2 hw.2;rw[h]at this;cases this
end Go.SA
end
