import Derived.Lib.ItoaNum
import Derived.Lib.AtoiTie
import Derived.Lib.SplitLaws
import Derived.Lib.Strings
import Derived.Test.YtlaebedgpkiodaaGreatDoorBZ
import Derived.Test.YtlaebedgpkiodaaGreatDoorSA
import Derived.Test.YtlaebedgpkiodaaGreatDoorLP
set_option linter.all false
open List (head?_cons length_cons mem_cons mem_cons_self nil_append)
open Option (bind_some map_eq_some_iff map_some)
open Nat (le_refl)
section
namespace Go.S
open Go.Lib
abbrev Str:=List UInt8
theorem y44:∀ (l:Str) (acc:Nat) (b:UInt8),decFrom acc (l++[b])=(decFrom acc l).bind λ n=>(digitVal b).map λ d=>n * 10+d
 |[],acc,b=>by
  simp only[nil_append,decFrom,bind_some];cases digitVal b<;>rfl
 |a::l,acc,b=>by
  simp only[List.cons_append,decFrom];cases digitVal a with
  |none=>rfl
  |some d=>exact y44 l _ b
theorem yLM(k:Nat)(h:k < 256):(UInt8.ofNat k).toNat=k:=by
 rw[UInt8.toNat_ofNat'];exact Nat.mod_eq_of_lt h
theorem yD8{a b:UInt8}(h:a.toNat=b.toNat):a=b:=UInt8.toNat_inj.1 h
theorem y6y(k:Nat)(h:k < 10):digitVal (UInt8.ofNat (48+k))=some k:=by
 unfold digitVal;rw[yLM _ (by omega),if_pos (by omega)]
 congr 1;omega
theorem yGv(u:Nat):decFrom 0 (decDigits u)=some u:=by
 induction u using Nat.strongRecOn with
 |_ u ih =>
  by_cases h:u < 10
  ·rw[decDigits,dif_pos h];simp only[decFrom,y6y u h];congr 1;omega
  ·rw[decDigits,dif_neg h,y44,ih (u / 10) (by omega),bind_some,y6y _ (by omega)]
   simp only[map_some];congr 1;omega
theorem y9P(u:Nat):decDigits u≠[]:=by
 rw[decDigits];split<;>simp
theorem yN3{u:Nat}{b:UInt8}(h:b∈decDigits u):48<=b.toNat/\b.toNat<=57:=by
 rw[decDigits_eq]at h;obtain ⟨t,_,rfl⟩:=List.mem_map.1 h;unfold dg;rw[yLM _ (by omega)]
 omega
theorem y7s:∀ (k u:Nat),u < 10 ^ (k+1)->nDigits u<=k+1
 |0,u,h=>by rw[nDigits_small (by simpa using h)];exact le_refl _
 |k+1,u,h=>by
  by_cases hu:u < 10
  ·rw[nDigits_small hu];omega
  ·rw[nDigits_big hu];have:=y7s k (u / 10) (by rw[Nat.pow_succ]at h;omega)
   omega
theorem yN2{k u:Nat}(h:nDigits u<=k):u < 10 ^ k:=
 Nat.lt_of_lt_of_le (lt_pow_nDigits u) (Nat.pow_le_pow_right (by decide) h)
theorem yJg:∀ {u:Nat} {b:UInt8} {l:Str},decDigits u=b::l->l≠[]->b≠48:=by
 intro u;induction u using Nat.strongRecOn with
 |_ u ih =>
  intro b l h hl;rw[decDigits]at h;split at h
  ·simp only[List.cons.injEq]at h;exact absurd h.2.symm hl
  ·rename_i hu;cases hd:decDigits (u / 10)with
   |nil=>exact absurd hd (y9P _)
   |cons a t =>
    rw[hd]at h;simp only[List.cons_append,List.cons.injEq]at h;obtain ⟨rfl,rfl⟩:=h;cases t with
    |cons c t=>exact ih _ (by omega) hd (by simp)
    |nil =>
     rw[decDigits]at hd;split at hd
     ·rename_i h10;simp only[List.cons.injEq,and_true]at hd;subst hd;intro e;have:=congrArg UInt8.toNat e;rw[yLM _ (by omega)]at this
      have h48:(48:UInt8).toNat=48:=rfl;omega
     ·have:=congrArg List.length hd;simp only[List.length_append,length_cons,List.length_nil]at this;have h2:=List.length_pos_iff.2 (y9P (u / 10 / 10));omega
theorem yNR(n:Nat):∀ (l:Str) (u:Nat),l.length=n->l≠[]->(∀ b t,l=b::t->t≠[]->b≠48)->decFrom 0 l=some u->decDigits u=l/\(l.head?≠some 48->0 < u):=by
 induction n with
 |zero=>intro l u hl hn;exact absurd (List.eq_nil_of_length_eq_zero hl) hn
 |succ n ih =>
  intro l u hl hn h0 hd;obtain ⟨l',b,rfl⟩:∃ l' b,l=l'++[b]:=⟨l.dropLast,l.getLast hn,(List.dropLast_concat_getLast hn).symm⟩;rw[y44]at hd;obtain ⟨m,hm,hd⟩:=Option.bind_eq_some_iff.1 hd;obtain ⟨d,hb,rfl⟩:=map_eq_some_iff.1 hd;obtain ⟨hb1,hb2,rfl⟩:=digitVal_eq hb;have hbb:UInt8.ofNat (48+(b.toNat - 48))=b:=yD8 (by rw[yLM _ (by omega)];omega)
  cases l' with
  |nil =>
   simp only[decFrom,Option.some.injEq]at hm;subst hm;refine ⟨?_,λ hne=>?_⟩
   ·rw[decDigits,dif_pos (by omega)]
    simp only[Nat.zero_mul,Nat.zero_add,hbb,nil_append]
   ·simp only[nil_append,head?_cons,ne_eq,Option.some.injEq]at hne;rcases Nat.lt_or_ge 48 b.toNat with h|h
    ·omega
    ·exact absurd (yD8 (by show b.toNat=48;omega)) hne
  |cons a t =>
   have hlen:(a::t).length=n:=by simpa using hl
   have ha:a≠48:=h0 a (t++[b]) rfl (by simp)
   obtain ⟨h1,h2⟩:=ih (a::t) m hlen (by simp) (λ b' t' e ht=>by cases e;exact ha) hm
   have hpos:=h2 (by simpa using ha)
   refine ⟨?_,λ _=>by omega⟩
   rw[decDigits,dif_neg (by omega),show (m * 10+(b.toNat - 48)) / 10=m by omega,show (m * 10+(b.toNat - 48)) % 10=b.toNat - 48 by omega,h1,hbb]
def numb(mx:Nat)(l:Str):Option Nat:=if l.length=0\/mx < l.length\/(1 < l.length/\l.head?=some 48)then none else decFrom 0 l
theorem yES{mx:Nat}{l:Str}{u:Nat}(h:numb mx l=some u):decDigits u=l/\u < 10 ^ mx:=by
 unfold numb at h;split at h
 ·cases h
 ·rename_i hc;have h1:decDigits u=l:=(yNR _ l u rfl (λ e=>hc (.inl (by rw[e];rfl))) (λ b t e ht hb=>hc (.inr (.inr ⟨by rw[e];have:=List.length_pos_iff.2 ht;simp;omega,by rw[e,hb];rfl⟩))) h).1
  exact ⟨h1,yN2 (by rw[<- decDigits_length,h1];omega)⟩
theorem yFI{mx u:Nat}(h:u < 10 ^ (mx+1)):numb (mx+1) (decDigits u)=some u:=by
 unfold numb;have hl:=y7s mx u h;rw[if_neg,yGv];rintro (h1|h1|⟨h1,h2⟩)
 ·exact y9P u (List.eq_nil_of_length_eq_zero h1)
 ·rw[decDigits_length]at h1;omega
 ·cases hd:decDigits u with
  |nil=>exact y9P u hd
  |cons b t =>
   rw[hd]at h1 h2;simp only[head?_cons,Option.some.injEq]at h2;exact yJg hd (by intro e;rw[e]at h1;simp at h1) h2
def sgn(mx:Nat):Str->Option Int
 |[]=>none
 |b::r=>if b=45 then (match numb mx r with|some n=>if 0 < n then some (-(n:Int))else none|none=>none)else Option.map (λ (n:Nat)=>(n:Int)) (numb mx (b::r))
theorem yDf(mx:Nat)(r:Str):sgn mx (45::r)=(match numb mx r with|some n=>if 0 < n then some (-(n:Int))else none|none=>none):=by
 unfold sgn;exact if_pos rfl
theorem yDG(mx:Nat){b:UInt8}(hb:b≠45)(r:Str):sgn mx (b::r)=Option.map (λ (n:Nat)=>(n:Int)) (numb mx (b::r)):=by
 unfold sgn;exact if_neg hb
theorem yAp(u:Nat):∃ b r,decDigits u=b::r/\b≠45/\b≠43:=by
 cases hd:decDigits u with
 |nil=>exact absurd hd (y9P u)
 |cons b r =>
  have:=yN3 (u:=u) (b:=b) (by rw[hd];exact mem_cons_self ..)
  refine ⟨b,r,rfl,?_,?_⟩<;>rintro rfl<;>exact absurd this (by decide)
theorem yKT{mx:Nat}{v:Int}(h:v.natAbs < 10 ^ (mx+1)):sgn (mx+1) (itoa v)=some v:=by
 unfold itoa;split
 ·rename_i hv;rw[yDf,yFI h];dsimp only;rw[if_pos (by omega)]
  congr 1;omega
 ·rename_i hv;obtain ⟨b,r,hd,h45,_⟩:=yAp v.toNat;rw[hd];rw[yDG _ h45,<- hd,yFI (by omega)]
  simp only[map_some];congr 1;omega
theorem y2u{mx:Nat}{l:Str}{v:Int}(h:sgn mx l=some v):itoa v=l/\v.natAbs < 10 ^ mx:=by
 cases l with
 |nil=>cases h
 |cons b r =>
  by_cases hb:b=45
  ·subst hb;rw[yDf]at h;split at h
   ·rename_i n hn;split at h
    ·cases h;obtain ⟨h1,h2⟩:=yES hn;refine ⟨?_,by omega⟩
     unfold itoa;rw[if_pos (by omega),show (-(n:Int)).natAbs=n by omega,h1]
    ·cases h
   ·cases h
  ·rw[yDG _ hb]at h;obtain ⟨n,hn,rfl⟩:=map_eq_some_iff.1 h;obtain ⟨h1,h2⟩:=yES hn;refine ⟨?_,by omega⟩
   unfold itoa;rw[if_neg (by omega)]
   exact h1
theorem yFC(u:Nat):trimPrefix (decDigits u) [45]=decDigits u:=by
 obtain ⟨b,r,hd,h45,_⟩:=yAp u;rw[hd];unfold trimPrefix hasPrefix;rw[if_neg];simp[List.isPrefixOf,Ne.symm h45]
theorem yO0{mx:Nat}{w:Str}{n:Int}(h1:itoa n=w)(h2:(trimPrefix w [45]).length<=mx+1):sgn (mx+1) w=some n:=by
 subst h1;refine yKT ?_
 unfold itoa at h2;split at h2
 ·have e:trimPrefix (45::decDigits n.natAbs) [45]=decDigits n.natAbs:=by
   unfold trimPrefix hasPrefix;rw[if_pos (by simp[List.isPrefixOf])]
   rfl
  rw[e,decDigits_length]at h2;exact yN2 h2
 ·rw[yFC,decDigits_length]at h2;have:=yN2 h2;omega
theorem yMW{mx:Nat}{w:Str}{n:Int}(h:sgn (mx+1) w=some n):(trimPrefix w [45]).length<=mx+1:=by
 obtain ⟨h1,h2⟩:=y2u h;subst h1;unfold itoa;split
 ·have e:trimPrefix (45::decDigits n.natAbs) [45]=decDigits n.natAbs:=by
   unfold trimPrefix hasPrefix;rw[if_pos (by simp[List.isPrefixOf])]
   rfl
  rw[e,decDigits_length];exact y7s mx _ h2
 ·rw[yFC,decDigits_length];exact y7s mx _ (by omega)
theorem yIk{mx:Nat}(hm:mx+1<=17){v:Int}(h:v.natAbs < 10 ^ (mx+1)):atoiAll (itoa v)=.ok v:=by
 have hlen:(itoa v).length<=18:=by
  have:=y7s mx v.natAbs h;unfold itoa;split
  ·simp only[length_cons,decDigits_length];omega
  ·rw[decDigits_length,show v.toNat=v.natAbs by omega];omega
 rw[atoiAll_short _ hlen];have:atoi (itoa v)=some v:=by
  have dn:∀ u,decNat (decDigits u)=some u:=λ u=>by
   unfold decNat;rw[if_neg (by simpa using y9P u),yGv]
  unfold itoa;split
  ·show Option.map (λ (m:Nat)=>-(m:Int)) (decNat (decDigits v.natAbs))=_
   rw[dn];simp only[map_some];congr 1;omega
  ·obtain ⟨b,r,hd,h45,h43⟩:=yAp v.toNat;rw[hd];have e:atoi (b::r)=Option.map (λ (m:Nat)=>(m:Int)) (decNat (b::r)):=by
    simp only[atoi,beq_iff_eq,if_neg h45,if_neg h43]
   rw[e,<- hd,dn];simp only[map_some];congr 1;omega
 rw[this];rfl
theorem yKn{mx:Nat}(hm:mx+1<=17){w:Str}{v:Int}(h:sgn (mx+1) w=some v):atoiAll w=.ok v:=by
 obtain ⟨h1,h2⟩:=y2u h;rw[<- h1];exact yIk hm h2
def yY(c:UInt8):Str->List Str
 |[]=>[[]]
 |b::l=>if b=c then []::yY c l else match yY c l with|[]=>[[b]]|x::xs=>(b::x)::xs
theorem y19(c:UInt8)(s:Str):yY c s≠[]:=by
 cases s with
 |nil=>simp[yY]
 |cons b l =>
  unfold yY;split
  ·simp
  ·split<;>simp
theorem y3v(c:UInt8):∀ (s x:Str),x∈yY c s->c ∉ x
 |[],x,h=>by simp only[yY,List.mem_singleton]at h;subst h;simp
 |b::l,x,h=>by
  unfold yY at h;split at h
  ·rcases mem_cons.1 h with rfl|h
   ·simp
   ·exact y3v c l x h
  ·rename_i hb;split at h
   ·rename_i he;exact absurd he (y19 c l)
   ·rename_i y ys he;rcases mem_cons.1 h with rfl|h
    ·have:=y3v c l y (by rw[he];exact mem_cons_self ..)
     simp only[mem_cons,not_or];exact ⟨λ e=>hb e.symm,this⟩
    ·exact y3v c l x (by rw[he];exact List.mem_cons_of_mem _ h)
def y0Z(c:UInt8):List Str->Str
 |[]=>[]
 |[x]=>x
 |x::y::r=>x++c::y0Z c (y::r)
theorem y1s(c:UInt8)(x:Str){r:List Str}(h:r≠[]):y0Z c (x::r)=x++c::y0Z c r:=by
 cases r with
 |nil=>exact absurd rfl h
 |cons y r=>rfl
theorem y0i(c:UInt8):∀ s:Str,y0Z c (yY c s)=s
 |[]=>rfl
 |b::l=>by
  have ih:=y0i c l;unfold yY;split
  ·rename_i hb;rw[y1s c [] (y19 c l),ih,hb];rfl
  ·split
   ·rename_i he;exact absurd he (y19 c l)
   ·rename_i y ys he;rw[he]at ih;cases ys with
    |nil=>exact congrArg (b::·) ih
    |cons z zs=>exact congrArg (b::·) ih
theorem y35(c:UInt8):∀ (x t:Str),c ∉ x->yY c (x++c::t)=x::yY c t
 |[],t,_=>by simp[yY]
 |b::x,t,h=>by
  simp only[mem_cons,not_or]at h;rw[List.cons_append,yY,if_neg (λ e=>h.1 e.symm),y35 c x t h.2]
theorem y2e(c:UInt8):∀ (x:Str),c ∉ x->yY c x=[x]
 |[],_=>rfl
 |b::x,h=>by
  simp only[mem_cons,not_or]at h;rw[yY,if_neg (λ e=>h.1 e.symm),y2e c x h.2]
theorem y8N(c:UInt8):∀ l:List Str,l≠[]->(∀ x∈l,c ∉ x)->yY c (y0Z c l)=l
 |[],h,_=>absurd rfl h
 |[x],_,h=>y2e c x (h x (mem_cons_self ..))
 |x::y::r,_,h=>by
  rw[y1s c x (by simp),y35 c x _ (h x (mem_cons_self ..)),y8N c (y::r) (by simp) (λ z hz=>h z (List.mem_cons_of_mem _ hz))]
theorem yFY(c:UInt8):∀ l:List Str,[c].intercalate l=y0Z c l
 |[]=>rfl
 |[x]=>by simp[List.intercalate,y0Z]
 |x::y::r=>by
  rw[y1s c x (by simp),<- yFY c (y::r)]
  simp[List.intercalate,List.intersperse]
theorem y1V(c:UInt8):∀ s:Str,(yY c s).length=s.count c+1
 |[]=>rfl
 |b::l=>by
  unfold yY;split
  ·rename_i hb;rw[length_cons,y1V c l,hb,List.count_cons_self]
  ·rename_i hb;split
   ·rename_i he;exact absurd he (y19 c l)
   ·rename_i y ys he;have:=y1V c l;rw[he]at this;rw[List.count_cons_of_ne (by simpa using hb)]
    simpa using this
theorem index_one:∀ (s:Str) (c:UInt8),(index s [c]=-1/\c ∉ s)\/∃ x t,s=x++c::t/\c ∉ x/\index s [c]=(x.length:Int)
 |[],c=>.inl ⟨by simp[index],by simp⟩
 |b::l,c=>by
  by_cases h:b=c
  ·subst h;exact .inr ⟨[],l,rfl,by simp,by rw[index];simp[List.isPrefixOf]⟩
  ·have hp:([c]:List UInt8).isPrefixOf (b::l)=false:=by simp[List.isPrefixOf,Ne.symm h]
   have hix:index (b::l) [c]=if index l [c] == -1 then -1 else index l [c]+1:=by rw[index,hp];simp
   rcases index_one l c with ⟨h1,h2⟩|⟨x,t,rfl,h2,h3⟩
   ·refine .inl ⟨by rw[hix,h1];rfl,?_⟩
    simp only[mem_cons,not_or];exact ⟨λ e=>h e.symm,h2⟩
   ·refine .inr ⟨b::x,t,rfl,?_,?_⟩
    ·simp only[mem_cons,not_or];exact ⟨λ e=>h e.symm,h2⟩
    ·rw[hix,h3,if_neg (by rw[beq_iff_eq];omega)]
     simp
theorem yEU(c:UInt8):∀ (k:Nat) (s:Str),s.count c=k->splitK [c] 0 k s=yY c s
 |0,s,h=>by
  have:c ∉ s:=List.count_eq_zero.1 h;rw[y2e c s this];rfl
 |k+1,s,h=>by
  unfold splitK;rcases index_one s c with ⟨h1,h2⟩|⟨x,t,rfl,h2,h3⟩
  ·rw[List.count_eq_zero.2 h2]at h;omega
  ·rw[if_neg (by rw[h3,beq_iff_eq];omega),h3,y35 c x t h2]
   have hc:t.count c=k:=by
    rw[List.count_append,List.count_eq_zero.2 h2,List.count_cons_self]at h;omega
   simp only[Int.toNat_natCast,Nat.add_zero,length_cons,List.length_nil];rw[List.take_left,show x.length+(0+1)=x.length+1 from rfl,<- List.drop_drop,List.drop_left,List.drop_one,List.tail_cons,yEU c k t hc]
theorem yLO(c:UInt8)(s:Str):(splitB ⟨[c].toArray⟩ 0 (countB ⟨s.toArray⟩ ⟨[c].toArray⟩) ⟨s.toArray⟩).map (·.data.toList)=yY c s:=by
 rw[splitB_data];refine yEU c _ s ?_
 exact (count_one c s).symm
theorem y1T(c:UInt8):∀ (s x:Str),x∈yY c s->x.length<=s.length
 |[],x,h=>by simp only[yY,List.mem_singleton]at h;subst h;simp
 |b::l,x,h=>by
  unfold yY at h;split at h
  ·rcases mem_cons.1 h with rfl|h
   ·simp
   ·have:=y1T c l x h;simp;omega
  ·split at h
   ·rename_i he;exact absurd he (y19 c l)
   ·rename_i y ys he;rcases mem_cons.1 h with rfl|h
    ·have:=y1T c l y (by rw[he];exact mem_cons_self ..)
     simp;omega
    ·have:=y1T c l x (by rw[he];exact List.mem_cons_of_mem _ h);simp;omega
end Go.S
end
section
set_option maxRecDepth 1000000
namespace Go.SA
open Go.Vx Go.Vx.B Go.Tw Go.S Go.Lib
theorem bT{α:Type}{c:Bool}{a b:α}(h:c=true):(bif c then a else b)=a:=by rw[h];rfl
theorem bF{α:Type}{c:Bool}{a b:α}(h:c=false):(bif c then a else b)=b:=by rw[h];rfl
theorem dT{p:Prop}[Decidable p](h:p):decide p=true:=decide_eq_true h
theorem dF{p:Prop}[Decidable p](h:¬ p):decide p=false:=decide_eq_false h
theorem w64{n:Int}(h1:-9223372036854775808<=n)(h2:n < 9223372036854775808):IntKind.i64.wrap n=n:=by
 unfold IntKind.wrap IntKind.bits IntKind.signed;by_cases h:0<=n
 ·have h3:n % 2 ^ 64=n:=Int.emod_eq_of_lt h (by omega)
  simp only[h3];have h4:¬ (n >= 2 ^ (64 - 1)):=by omega
  simp[h4];omega
 ·have h3:n % 2 ^ 64=n+2 ^ 64:=by
   rw[<- Int.add_emod_right];exact Int.emod_eq_of_lt (by omega) (by omega)
  simp only[h3];have h4:n+2 ^ 64 >= 2 ^ (64 - 1):=by omega
  simp[h4];omega
theorem w8{n:Int}(h1:0<=n)(h2:n < 256):IntKind.u8.wrap n=n:=by
 unfold IntKind.wrap IntKind.bits IntKind.signed;have h3:n % 2 ^ 8=n:=Int.emod_eq_of_lt h1 (by omega)
 simp only[h3];simp
theorem y5S(c:UInt8)(s:Str)(hs:s.length < memMax):∀ (k i from_:Nat) (out:List Str),i+k=s.length+1->from_<=i->out.length<=from_->i<=s.length->c ∉ (s.take i).drop from_ ->
  y1j (λ i__ s__=>y5q s (c.toNat:Int) i__ s__.1 s__.2) (λ s__=>yFU s (c.toNat:Int) s__.1 s__.2) k (i:Int) ((from_:Int),out)=some (out++yY c (s.drop from_),())
 |0,i,f,out,h,_,_,h2,_=>by omega
 |k+1,i,f,out,h,hf,ho,hi,hc=>by
  have hcut:List.drop f (List.take i s)=(s.take i).drop f:=rfl;rcases Nat.lt_or_ge i s.length with hlt|hge
  ·have hg:idx s (i:Int)=some s[i]:=by rw[y41,List.getElem?_eq_getElem hlt]
   have hb1:((i:Int) == (s.length:Int))=false:=by rw[beq_eq_false_iff_ne];omega
   have hd:s.drop f=(s.take i).drop f++s[i]::s.drop (i+1):=by
    have e1:s=s.take i++s[i]::s.drop (i+1):=by rw[List.getElem_cons_drop hlt,List.take_append_drop]
    conv=>lhs;rw[e1]
    rw[List.drop_append_of_le_length (by rw[List.length_take];omega)]
   by_cases he:s[i]=c
   ·have hbody:y5q s (c.toNat:Int) (i:Int) (f:Int) out=some (.inr (((i+1:Nat):Int),out++[(s.take i).drop f])):=by
     unfold y5q y9O;rw[hb1,cond_false,hg,bind_some,he,show (((c.toNat:Nat):Int) == ((c.toNat:Nat):Int))=true by simp,cond_true,
      bT (by rw[dT (Int.natCast_nonneg f),dT (by omega),dT (by omega)];rfl),bT (dT (by simp only[memMax]at hs ⊢;omega)),y3S (by omega) (by simp only[memMax]at hs;omega)]
     simp only[Int.toNat_natCast];rfl
    simp only[y1j];rw[hbody];simp only[bind_some];have ih:=y5S c s hs k (i+1) (i+1) (out++[(s.take i).drop f]) (by omega) (le_refl _) (by simp;omega) (by omega) (by rw[List.drop_take];simp)
    refine (show _=_ from ?_).trans (ih.trans ?_)
    ·rfl
    ·rw[List.append_assoc,hd,he,y35 c _ _ hc];rfl
   ·have hbody:y5q s (c.toNat:Int) (i:Int) (f:Int) out=some (.inr ((f:Int),out)):=by
     unfold y5q y9O;rw[hb1,cond_false,hg,bind_some,show (((s[i].toNat:Nat):Int) == ((c.toNat:Nat):Int))=false by
      rw[beq_eq_false_iff_ne];intro e;exact he (yD8 (Int.ofNat.inj e)),cond_false]
    simp only[y1j];rw[hbody];simp only[bind_some];refine (show _=_ from ?_).trans (y5S c s hs k (i+1) f out (by omega) (by omega) ho (by omega) ?_)
    ·rfl
    ·rw[List.take_succ_eq_append_getElem hlt,List.drop_append_of_le_length (by rw[List.length_take];omega)]
     simp only[List.mem_append,List.mem_singleton,not_or];exact ⟨hc,λ e=>he e.symm⟩
  ·have e:i=s.length:=by omega
   subst e;have hk:k=0:=by omega
   subst hk;have hbody:y5q s (c.toNat:Int) (s.length:Int) (f:Int) out=some (.inr (((s.length+1:Nat):Int),out++[(s.take s.length).drop f])):=by
    unfold y5q y9O;rw[show ((s.length:Int) == (s.length:Int))=true by simp,cond_true,cond_true,
     bT (by rw[dT (Int.natCast_nonneg f),dT (by omega),dT (by omega)];rfl),bT (dT (by simp only[memMax]at hs ⊢;omega)),y3S (by omega) (by simp only[memMax]at hs;omega)]
    simp only[Int.toNat_natCast];rfl
   simp only[y1j];rw[hbody];simp only[bind_some];unfold yFU;rw[List.take_length]at hc ⊢;rw[y2e c _ hc]
theorem yBN(c:UInt8)(s:Str)(hs:s.length < memMax):yMR s (c.toNat:Int)=some (yY c s,()):=by
 unfold yMR;rw[bT (dT (by simp only[memMax]at hs;omega)),show ((s.length:Int)+1 - 0).toNat=s.length+1 by omega]
 have:=y5S c s hs (s.length+1) 0 0 [] (by omega) (le_refl _) (le_refl _) (Nat.zero_le _) (by simp)
 rw[List.drop_zero,nil_append]at this;exact this
theorem yI2(c:UInt8)(s:Str)(hs:s.length < 4294967281):yCy s [c]=some (yY c s,()):=by
 have e:Tw.yCh s [c]=yY c s:=yLO c s;unfold yCy;rw[e,bT];rw[dT hs,dT (by simp),dT]
 ·rfl
 ·rw[y1V];have h1:countB ⟨s.toArray⟩ ⟨[c].toArray⟩=s.count c:=count_one c s;rw[h1]
theorem yAG(d:Nat):∀ (np:Int),0<=np->np < 10 ^ (d+1)->np < 9223372036854775808->yO (d+1) (np,())=some (decDigits np.toNat,()):=by
 have one:∀ (e:Nat) (np:Int),0<=np->np < 10->yO (e+1) (np,())=some (decDigits np.toNat,()):=λ e np h0 h1=>by
  show @y9B ⟨yO e⟩ np=_
  unfold y9B yDh;rw[bF (dF (by omega)),bF (dF (by omega)),bF (dF (by omega)),w64 (by omega) (by omega),w8 (by omega) (by omega),decDigits,dif_pos (by omega)]
  unfold y0Q;simp only[List.map_cons,List.map_nil];rw[show ((48:Int)+np).toNat=48+np.toNat by omega]
 induction d with
 |zero=>intro np h0 h1 _;exact one 0 np h0 (by omega)
 |succ d ih =>
  intro np h0 h1 h2;by_cases h9:np<=9
  ·exact one _ np h0 (by omega)
  ·have hdiv:np.tdiv 10=np / 10:=Int.tdiv_eq_ediv_of_nonneg h0;have hmod:np.tmod 10=np % 10:=Int.tmod_eq_emod_of_nonneg h0;show @y9B ⟨yO (d+1)⟩ np=_
   unfold y9B yDh;have hp:(10:Int) ^ (d+1+1)=10 ^ (d+1) * 10:=Int.pow_succ ..;rw[hp]at h1;rw[bT (dT (by omega)),hdiv,hmod,w64 (by omega) (by omega)]
   show (Option.bind (yO (d+1) (np / 10,())) _)=_
   rw[ih (np / 10) (by omega) (by omega) (by omega),bind_some]
   show (Option.bind (yO (d+1) (np % 10,())) _)=_
   rw[one d (np % 10) (by omega) (by omega),bind_some]
   have l1:=y7s 18 (np / 10).toNat (by omega)
   have l2:=y7s 18 (np % 10).toNat (by omega)
   rw[bT (dT (by simp only[decDigits_length,strMax];omega))]
   have e:decDigits np.toNat=decDigits (np / 10).toNat++decDigits (np % 10).toNat:=by
    conv=>lhs;rw[decDigits]
    rw[dif_neg (by omega),show np.toNat / 10=(np / 10).toNat by omega,show np.toNat % 10=(np % 10).toNat by omega]
    congr 1
    rw[decDigits,dif_pos (by omega)]
   rw[e]
theorem yLk(d:Nat):(10:Int)<=10 ^ (d+1):=by
 have:(0:Int) < 10 ^ d:=Int.pow_pos (by decide)
 rw[Int.pow_succ];omega
theorem yLA(d:Nat):∀ (np:Int),np < 0->-(10 ^ (d+1):Int) < np->-9223372036854775808<=np->yO (d+2) (np,())=some (45::decDigits (-np).toNat,()):=by
 have one:∀ (e:Nat) (np:Int),np < 0->-10 < np->yO (e+2) (np,())=some (45::decDigits (-np).toNat,()):=λ e np h0 h1=>by
  show @y9B ⟨yO (e+1)⟩ np=_
  unfold y9B yDh;rw[bF (dF (by omega)),bF (dF (by omega)),bT (dT h0),w64 (by omega) (by omega)]
  show (Option.bind (yO (e+1) (0 - np,())) _)=_
  rw[yAG e (0 - np) (by omega) (by have:=yLk e;omega) (by omega),bind_some]
  have l1:=y7s 18 (0 - np).toNat (by omega)
  rw[bT (dT (by simp only[decDigits_length,strMax];omega)),Int.zero_sub]
  rfl
 induction d with
 |zero=>intro np h0 h1 _;exact one 0 np h0 (by omega)
 |succ d ih =>
  intro np h0 h1 h2;by_cases h9:-10 < np
  ·exact one _ np h0 h9
  ·have hdiv:np.tdiv 10=-((-np) / 10):=by
    have:=Int.neg_tdiv (-np) 10;rw[Int.neg_neg]at this;rw[this,Int.tdiv_eq_ediv_of_nonneg (by omega)]
   have hmod:np.tmod 10=-((-np) % 10):=by
    have:=Int.neg_tmod (-np) 10;rw[Int.neg_neg]at this;rw[this,Int.tmod_eq_emod_of_nonneg (by omega)]
   show @y9B ⟨yO (d+2)⟩ np=_
   unfold y9B yDh;have hp:(10:Int) ^ (d+1+1)=10 ^ (d+1) * 10:=Int.pow_succ ..;rw[hp]at h1;rw[bF (dF (by omega)),bT (dT (by omega)),hdiv,hmod,w64 (by omega) (by omega),w64 (by omega) (by omega)]
   show (Option.bind (yO (d+2) (-(-np / 10),())) _)=_
   rw[ih (-(-np / 10)) (by omega) (by omega) (by omega),bind_some]
   show (Option.bind (yO (d+2) (0 - -(-np % 10),())) _)=_
   rw[yAG (d+1) (0 - -(-np % 10)) (by omega) (by have:=yLk (d+1);omega) (by omega),bind_some]
   have l1:=y7s 18 (-(-(-np / 10))).toNat (by omega)
   have l2:=y7s 18 (0 - -(-np % 10)).toNat (by omega)
   rw[bT (dT (by simp only[decDigits_length,strMax,length_cons];omega))]
   have e:decDigits (-np).toNat=decDigits (-(-(-np / 10))).toNat++decDigits (0 - -(-np % 10)).toNat:=by
    conv=>lhs;rw[decDigits]
    rw[dif_neg (by omega),show (-np).toNat / 10=(-(-(-np / 10))).toNat by omega,show (-np).toNat % 10=(0 - -(-np % 10)).toNat by omega]
    congr 1
    rw[decDigits,dif_pos (by omega)]
   rw[e];rfl
def I64(n:Int):Prop:=-9223372036854775808<=n/\n < 9223372036854775808
theorem y8T(n:Int)(h:I64 n):yO 24 (n,())=some (itoa n,()):=by
 obtain ⟨h1,h2⟩:=h;unfold itoa;split
 ·rw[yLA 22 n (by omega) (by omega) h1,show (-n).toNat=n.natAbs by omega]
 ·rw[yAG 23 n (by omega) (by omega) h2]
theorem y62(n:Int)(h:I64 n):y9D n=some (itoa n,()):=by
 unfold y9D;obtain ⟨h1,h2⟩:=h;rw[bT];rw[dT h1,dT (by omega)]
 rfl
theorem yKb(l:List Str)(h1:l.length<=140737488355328)(h2:(y0Z 32 l).length<=140737488355328):yBf l [32]=some (y0Z 32 l,()):=by
 have e:Lib.join l [32]=y0Z 32 l:=yFY 32 l;unfold yBf;rw[e,bT];rw[dT h1,dT h2];rfl
theorem yGq(s:Str):y0Q (y01 s)=s:=by
 unfold y0Q y01;rw[List.map_map];conv=>rhs;rw[<- List.map_id s]
 refine List.map_congr_left λ b _=>?_
 show UInt8.ofNat ((b.toNat:Int)).toNat=b
 rw[Int.toNat_natCast];exact UInt8.ofNat_toNat
theorem yBY(s:Str):y5b (y01 s)=true:=by
 unfold y5b y01;rw[List.all_map,List.all_eq_true];intro b _;have:=b.toNat_lt;simp only[Function.comp,Bool.and_eq_true,decide_eq_true_eq];omega
end Go.SA
end
section
set_option maxRecDepth 1000000
namespace Go.SA
open Go.Vx Go.Vx.B Go.Tw Go.S Go.Lib
def atv(w:Str):Int:=match atoiAll w with|.ok v=>v|.syntax=>0|.range=>atoiSat w
def atk(w:Str):Bool:=match atoiAll w with|.ok _=>true|_=>false
theorem yAR(w:Str)(h:w.length<=281474976710656):yGr w=some (atv w,atk w,()):=by
 unfold yGr atv atk;rw[bT (dT h)];cases atoiAll w<;>rfl
theorem yIL(w:Str):I64 (atv w):=by
 unfold atv;cases h:atoiAll w with
 |ok v=>have:=atoiAll_bounds h;exact ⟨this.1,by show v < _;omega⟩
 | «syntax»=>exact ⟨by show (-9223372036854775808:Int)<=0;decide,by show (0:Int) < 9223372036854775808;decide⟩
 |range=>have:=atoiSat_bounds w;exact ⟨this.1,by show atoiSat w < _;omega⟩
end Go.SA
end
section
set_option maxRecDepth 1000000
namespace Go.SA
open Go.Vx Go.Vx.B Go.Tw Go.S Go.Lib
def y7E(w:Str):Bool:=!atk w || !(itoa (atv w) == w) || decide (15 < (trimPrefix w [45]).length)
theorem y4e(w:Str):sgn 15 w=if y7E w then none else some (atv w):=by
 cases h:sgn 15 w with
 |some v =>
  have h1:=yKn (mx:=14) (by decide) h
  have h2:=(y2u h).1;have h3:=yMW (mx:=14) h;have e1:atv w=v:=by unfold atv;rw[h1]
  have e2:atk w=true:=by unfold atk;rw[h1]
  have:y7E w=false:=by unfold y7E;rw[e2,e1,h2,dF (by omega)];simp
  rw[this,e1];rfl
 |none =>
  cases hw:y7E w with
  |true=>rfl
  |false =>
   unfold y7E at hw;simp only[Bool.or_eq_false_iff,Bool.not_eq_false',beq_iff_eq,decide_eq_false_iff_not,Nat.not_lt]at hw;have:=yO0 (mx:=14) hw.1.2 hw.2;rw[h]at this;cases this
theorem y9X(s0:Str)(mn:Bool)(h0:s0.length<=15):∀ (l pre:Str) (u:Nat),s0=pre++l->u < 10 ^ pre.length ->
  yQ (λ i__ e__ s__=>y3k s0 mn i__ e__ s__) (λ s__=>y6h s0 mn s__) (pre.length:Int) l (u:Int)=(match decFrom u l with|some n=>y6h s0 mn (n:Int)|none=>some (0,false,()))
 |[],pre,u,_,_=>by simp[yQ,decFrom]
 |b::l,pre,u,h,hu=>by
  have hg:idx s0 (pre.length:Int)=some b:=by rw[y41,h];simp
  have hlen:pre.length < 15:=by rw[h]at h0;simp at h0;omega
  have hub:u < 10 ^ 15:=Nat.lt_of_lt_of_le hu (Nat.pow_le_pow_right (by decide) (by omega))
  have hbt:b.toNat < 256:=b.toNat_lt;simp only[yQ,decFrom];by_cases h1:b.toNat < 48
  ·have hbody:y3k s0 mn (pre.length:Int) b (u:Int)=some (.inl (0,false,())):=by
    unfold y3k;rw[bT (dT (by omega))]
   have hd:digitVal b=none:=by unfold digitVal;rw[if_neg (by omega)]
   rw[hbody,hd];rfl
  ·by_cases h2:57 < b.toNat
   ·have hbody:y3k s0 mn (pre.length:Int) b (u:Int)=some (.inl (0,false,())):=by
     unfold y3k;rw[bF (dF (by omega)),hg,bind_some,bT (dT (by omega))]
    have hd:digitVal b=none:=by unfold digitVal;rw[if_neg (by omega)]
    rw[hbody,hd];rfl
   ·have hbody:y3k s0 mn (pre.length:Int) b (u:Int)=some (.inr ((u * 10+(b.toNat - 48):Nat):Int)):=by
     unfold y3k;rw[bF (dF (by omega)),hg,bind_some,bF (dF (by omega)),bind_some,w8 (by omega) (by omega),w64 (n:=10 * (u:Int)) (by omega) (by omega),w64 (n:=(b.toNat:Int) - 48) (by omega) (by omega),w64 (by omega) (by omega)]
     congr 2
     omega
    have hd:digitVal b=some (b.toNat - 48):=by unfold digitVal;rw[if_pos (by omega)]
    rw[hbody,hd];simp only[bind_some];have:=y9X s0 mn h0 l (pre++[b]) (u * 10+(b.toNat - 48)) (by rw[h];simp) (by rw[List.length_append,List.length_singleton,Nat.pow_succ];omega)
    rw[show ((pre++[b]).length:Int)=(pre.length:Int)+1 by simp]at this
    exact this
theorem y6O(w:Str)(mn:Bool):∃ v,y7u mn w=some (v,(match numb 15 w with|some n=>!mn || decide (0 < n)|none=>false),())/\∀ n,numb 15 w=some n->v=if mn then -(n:Int)else n:=by
 unfold y7u numb;by_cases h0:w.length=0
 ·rw[bT (by rw[beq_iff_eq];omega),if_pos (.inl h0)]
  exact ⟨0,rfl,λ n hn=>by cases hn⟩
 ·rw[bF (by rw[beq_eq_false_iff_ne];omega)]
  by_cases h9:15 < w.length
  ·rw[bT (dT (by omega)),if_pos (.inr (.inl h9))]
   exact ⟨0,rfl,λ n hn=>by cases hn⟩
  ·rw[bF (dF (by omega))]
   have hloop:y6Z mn w=(match decFrom 0 w with|some n=>y6h w mn (n:Int)|none=>some (0,false,())):=by
    unfold y6Z;rw[bT (dT (by simp only[lenMax];omega))]
    exact y9X w mn (by omega) w [] 0 rfl (by decide)
   have fin:∃ v,y6Z mn w=some (v,(match decFrom 0 w with|some n=>!mn || decide (0 < n)|none=>false),())/\∀ n,decFrom 0 w=some n->v=if mn then -(n:Int)else n:=by
    rw[hloop];cases hd:decFrom 0 w with
    |none=>exact ⟨0,rfl,λ n hn=>by cases hn⟩
    |some n =>
     have hlt:n < 10 ^ 15:=by
      have:=decFrom_lt w 0 n hd;have h3:(10:Nat) ^ w.length<=10 ^ 15:=Nat.pow_le_pow_right (by decide) (by omega)
      omega
     dsimp only;unfold y6h;cases mn with
     |true =>
      rw[cond_true,w64 (by omega) (by omega)]
      refine ⟨-(n:Int),?_,λ m hm=>by cases hm;rfl⟩
      show some (0 - (n:Int),decide ((n:Int) > 0),())=some (-(n:Int),!true || decide (0 < n),())
      have e:decide ((n:Int) > 0)=decide (0 < n):=by by_cases hp:0 < n;rw[dT hp,dT (show (n:Int) > 0 by omega)];rw[dF hp,dF (show ¬ (n:Int) > 0 by omega)]
      rw[e,Int.zero_sub];rfl
     |false=>rw[cond_false];exact ⟨_,rfl,λ m hm=>by cases hm;rfl⟩
   cases w with
   |nil=>simp at h0
   |cons b l =>
    by_cases h1:1 < (b::l).length
    ·rw[bT (dT (by omega))]
     have hg:idx (b::l) (0:Int)=some b:=y41 (b::l) 0;rw[hg,bind_some];by_cases hb:b=48
     ·rw[bT (by rw[hb];rfl),if_pos (.inr (.inr ⟨h1,by rw[hb];rfl⟩))]
      exact ⟨0,rfl,λ n hn=>by cases hn⟩
     ·rw[bF (by rw[beq_eq_false_iff_ne];intro e;exact hb (yD8 (Int.ofNat.inj e))),if_neg]
      ·exact fin
      ·rintro (h|h|⟨_,h⟩)
       ·exact h0 h
       ·exact h9 h
       ·simp only[head?_cons,Option.some.injEq]at h;exact hb h
    ·rw[bF (dF (by omega)),if_neg]
     ·exact fin
     ·rintro (h|h|⟨h,_⟩)
      ·exact h0 h
      ·exact h9 h
      ·exact h1 h
theorem yEk(s:Str):∃ v,yH1 s=some (v,(sgn 15 s).isSome,())/\∀ x,sgn 15 s=some x->v=x:=by
 unfold yH1;cases s with
 |nil =>
  rw[bF (dF (by simp))]
  unfold y8n;rw[cond_false];obtain ⟨v,h1,h2⟩:=y6O [] false;exact ⟨v,h1,λ x hx=>by cases hx⟩
 |cons b l =>
  have hg:idx (b::l) (0:Int)=some b:=y41 (b::l) 0;rw[bT (dT (by simp only[length_cons];omega)),hg,bind_some]
  unfold y8n;by_cases hb:b=45
  ·subst hb;rw[show (((45:UInt8).toNat:Int) == (45:Int))=true by rfl,cond_true,bT (by rw[dT (by omega),dT (by simp only[length_cons];omega)];rfl)]
   obtain ⟨v,h1,h2⟩:=y6O l true;rw[yDf];refine ⟨v,h1.trans ?_,λ x hx=>?_⟩
   ·cases hn:numb 15 l with
    |none=>rfl
    |some n =>
     dsimp only;by_cases hp:0 < n
     ·rw[if_pos hp,dT hp];rfl
     ·rw[if_neg hp,dF hp];rfl
   ·cases hn:numb 15 l with
    |none=>rw[hn]at hx;cases hx
    |some n =>
     rw[hn]at hx;dsimp only at hx;split at hx
     ·cases hx;rw[h2 n hn,if_pos rfl]
     ·cases hx
  ·rw[show (((b.toNat:Nat):Int) == (45:Int))=false by rw[beq_eq_false_iff_ne];intro e;exact hb (yD8 (Int.ofNat.inj e)),cond_false]
   obtain ⟨v,h1,h2⟩:=y6O (b::l) false;rw[yDG 15 hb];refine ⟨v,h1.trans ?_,λ x hx=>?_⟩
   ·cases hn:numb 15 (b::l)with
    |none=>rfl
    |some n=>rfl
   ·obtain ⟨n,hn,rfl⟩:=map_eq_some_iff.1 hx;rw[h2 n hn,if_neg (by decide)]
end Go.SA
end
