import Derived.Test.YtemgjgkbgkeknaaGreatDoorVC
import Derived.Lib.AppendStr
import Derived.Lib.UnsafeStr
import Derived.Laws.AppendOwn
import Derived.RangeFuncLeaves
import Derived.RangeFuncRecord
set_option linter.all false
open List (append_nil drop_append drop_take ext_getElem? getElem?_append_left getElem?_drop getElem?_map getElem?_set_ne getElem?_set_self getElem?_take length_append length_drop length_take mem_append mem_cons mem_map mem_of_getElem? mem_singleton nil_append size_toArray take_left take_take toList_toArray)
open Option (bind_assoc bind_eq_some_iff bind_some map_eq_some_iff map_none map_some)
open Nat (add_mul le_refl lt_or_ge min_eq_left mul_le_mul_right succ_mul)
open Bool (and_eq_true)
section
namespace Go.Vx
open Go.RowKit
variable [GT]
section
variable {P:Program} {A0:Nat->Prop} {w0:Base} {ρ:Places} {s:St} {a:Act} {w w':World} {g:G} {R:Type} {K:St->Option R} {r:R} {o:Oper}
theorem Rel.grow(h:Rel P A0 w0 ρ s a w){β:Nat}{ch ch':Chunk}{p:Place}(hβ:s.cH[β]?=some (some ch))(hg:w.grownBy w' (ρ β).blk)(hp:∀ b,p.blk=some b->(ρ β).blk=some b\/w.heap.size<=b)
  (hi:ch'.inn s.cH.length)
  (hc:∀ A,(∀ n,n < w.heap.size->A n->Av A0 ρ s.cH n)->yC P A w' ρ p ch') (hlp:ch'.lpNo=none:=by rfl) (hnl:ch.lpNo=none:=by rfl) (hps:p.subs=[]:=by rfl) :
  Rel P A0 w0 (ρ.set s.cH.length p) { s with cH:=s.cH.set β none++[some ch'] } a w':=by
 have hlen:(s.cH.set β none).length=s.cH.length:=by simp
 have he:∀ γ,γ < s.cH.length->ρ.set s.cH.length p γ=ρ γ:=λ γ hγ=>Places.set_lt ρ p hγ
 have hβl:β < s.cH.length:=(List.getElem?_eq_some_iff.1 hβ).1;have hcs:∀ (γ:Nat) (c:Chunk),(s.cH.set β none++[some ch'])[γ]?=some (some c)->(γ≠β/\γ < s.cH.length/\s.cH[γ]?=some (some c))\/(γ=s.cH.length/\c=ch'):=by
  intro γ c hg;rcases yb hg with ⟨h1,h2⟩|⟨h1,h2⟩
  ·rw[hlen]at h1;by_cases hb:β=γ
   ·subst hb;rw[getElem?_set_self h1]at h2;cases h2
   ·rw[getElem?_set_ne hb]at h2;exact .inl ⟨λ e=>hb e.symm,h1,h2⟩
  ·rw[hlen]at h1;exact .inr ⟨h1,h2⟩
 have hnb:∀ (γ:Nat) (c:Chunk),γ≠β->s.cH[γ]?=some (some c)->∀ b,(ρ γ).blk=some b->(ρ β).blk≠some b:=by
  intro γ c hne hgc b hb hbb;exact hne (h.inj γ β c ch hgc hβ (hb.trans hbb.symm) (by rw[hb];simp))
 have hA:∀ n,n < w.heap.size->Av A0 (ρ.set s.cH.length p) (s.cH.set β none++[some ch']) n->Av A0 ρ s.cH n:=by
  rintro n hn ((h0|⟨γ,c,hb,hbn⟩)|⟨γ,c,hb,hbn⟩)
  ·exact .inl (.inl h0)
  ·rcases hcs γ c hb with ⟨h1,h2,h3⟩|⟨rfl,rfl⟩
   ·rw[he γ h2]at hbn;exact .inl (.inr ⟨γ,c,h3,hbn⟩)
   ·rw[Places.set_self,hps]at hbn;cases hbn
  ·rcases hcs γ c hb with ⟨h1,h2,h3⟩|⟨rfl,rfl⟩
   ·rw[he γ h2]at hbn;exact .inr ⟨γ,c,h3,hbn⟩
   ·rw[Places.set_self]at hbn;rcases hp n hbn with h1|h1
    ·exact .inr ⟨β,ch,hβ,h1⟩
    ·omega
 have hK:Keep (Av A0 ρ s.cH) w w':=λ n hn hnA=>hg.block n hn (λ e=>hnA (.inr ⟨β,ch,hβ,e.symm⟩))
 have hbw:∀ b,(ρ β).blk=some b->w0.w.heap.size<=b:=(h.cH β ch hβ).2;refine ⟨h.size,λ i sv hs=>((h.slots i sv hs).congr he (h.names i sv hs)).mono hK hA,λ γ c hgc=>?_,λ γ δ c d hgc hd hbg hne=>?_,λ i sv hs=>SV.inn_mono (by simp) (h.names i sv hs),λ γ c hgc=>?_,
  ⟨hg.os.trans h.below.os,hg.tape.trans h.below.tape,hg.output.trans h.below.output,Nat.le_trans h.below.size hg.size,λ n hn=>(hg.block n (Nat.lt_of_lt_of_le hn h.below.size) (λ e=>by have:=hbw n e.symm;omega)).trans (h.below.block n hn)⟩,h.dom,(let ⟨_,hm⟩:=h.defers;y2I hm λ r hr=>(hg.block r (yJ hr) λ e=>(h.cH β ch hβ).1.no_mark e.symm hr).trans hr),h.dep,(λ γ c q hc hq=>by
   rcases hcs γ c hc with ⟨_,_,h3⟩|⟨_,rfl⟩
   ·exact h.lpi γ c q h3 hq
   ·rw[hlp]at hq;cases hq),(λ l hl=>by
   obtain ⟨r,hr⟩:=h.round l hl;exact ⟨r,(hg.block l (yJ hr) λ e=>(h.cH β ch hβ).1.no_loop hnl e.symm hr).trans hr⟩),h.glob,h.kZ,λ i sv hs=>((h.kS i sv hs).congr he (h.kN i sv hs)).mono hK hA,λ i sv hs=>SV.inn_mono (by simp) (h.kN i sv hs),⟨λ γ c hgc hm=>?_,λ γ c n hgc hn=>?_,λ γ δ c d n hgc hd hn=>?_,λ γ δ c d n hgc hd hn hn2=>?_⟩⟩
 ·rcases hcs γ c hgc with ⟨h1,h2,h3⟩|⟨rfl,rfl⟩
  ·rw[he γ h2];refine ⟨?_,(h.cH γ c h3).2⟩;have h4:=(h.cH γ c h3).1.congr he (h.cN γ c h3);have hb':=hnb γ c h1 h3;exact h4.frame (λ n hn hl=>hg.block n hl (λ e=>hb' n hn e.symm)) (λ n hn hl=>hg.block n hl (λ e=>h.subs.apart γ β c ch n h3 hβ hn e.symm)) hK hA
  ·rw[Places.set_self];refine ⟨(hc _ hA).congr he hi,λ b hb=>?_⟩
   rcases hp b hb with h1|h1
   ·exact hbw b h1
   ·exact Nat.le_trans h.below.size h1
 ·have new:∀ (γ:Nat) (c:Chunk),γ≠β->s.cH[γ]?=some (some c)->(ρ γ).blk=p.blk->(ρ γ).blk=none:=by
   intro γ c hne hgc hbp;cases hq:(ρ γ).blk with
   |none=>rfl
   |some b =>
    rcases hp b (hbp ▸ hq)with h1|h1
    ·exact absurd h1 (hnb γ c hne hgc b hq)
    ·have:=(h.cH γ c hgc).1.lt hq;omega
  rcases hcs γ c hgc with ⟨h1,h2,h3⟩|⟨h1,_⟩<;>rcases hcs δ d hd with ⟨h4,h5,h6⟩|⟨h4,_⟩
  ·rw[he γ h2,he δ h5]at hbg;rw[he γ h2]at hne;exact h.inj γ δ c d h3 h6 hbg hne
  ·subst h4;rw[he γ h2,Places.set_self]at hbg;rw[he γ h2]at hne;exact absurd (new γ c h1 h3 hbg) hne
  ·subst h1;rw[he δ h5,Places.set_self]at hbg;rw[Places.set_self]at hne;exact absurd (hbg.trans (new δ d h4 h6 hbg.symm)) hne
  ·omega
 ·rcases hcs γ c hgc with ⟨h1,h2,h3⟩|⟨rfl,rfl⟩
  ·exact Chunk.inn_mono (by simp) (h.cN γ c h3)
  ·exact Chunk.inn_mono (by simp) hi
 ·rcases hcs γ c hgc with ⟨h1,h2,h3⟩|⟨rfl,rfl⟩
  ·rw[he γ h2];exact h.subs.plain γ c h3 hm
  ·rw[Places.set_self];exact hps
 ·rcases hcs γ c hgc with ⟨h1,h2,h3⟩|⟨rfl,rfl⟩
  ·rw[he γ h2]at hn;exact h.subs.base γ c n h3 hn
  ·rw[Places.set_self,hps]at hn;cases hn
 ·rcases hcs γ c hgc with ⟨h1,h2,h3⟩|⟨rfl,rfl⟩
  ·rw[he γ h2]at hn;rcases hcs δ d hd with ⟨h4,h5,h6⟩|⟨rfl,rfl⟩
   ·rw[he δ h5];exact h.subs.apart γ δ c d n h3 h6 hn
   ·rw[Places.set_self];intro hpn;rcases hp n hpn with h7|h7
    ·exact h.subs.apart γ β c ch n h3 hβ hn h7
    ·have:=h.sub_lt h3 hn;omega
  ·rw[Places.set_self,hps]at hn;cases hn
 ·rcases hcs γ c hgc with ⟨h1,h2,h3⟩|⟨rfl,rfl⟩
  ·rw[he γ h2]at hn;rcases hcs δ d hd with ⟨h4,h5,h6⟩|⟨rfl,rfl⟩
   ·rw[he δ h5]at hn2;exact h.subs.one γ δ c d n h3 h6 hn hn2
   ·rw[Places.set_self,hps]at hn2;cases hn2
  ·rw[Places.set_self,hps]at hn;cases hn
theorem y88{A:Nat->Prop}{u:Ty}(b:Nat):∀ (xs:List u.den) (off:Nat),(∀ (i:Nat) (x:u.den),xs[i]?=some x->∃ l',yO w b (off+i * u.size) l'/\Cells P u A w x l') ->
  ∃ l,yO w b off l/\Cells P (.arr xs.length u) A w xs l
 |[],off,_=>⟨[],λ j v hj=>by simp at hj,by simp[Cells]⟩
 |x::xs,off,h=>by
  obtain ⟨l0,h0,h1⟩:=h 0 x rfl;obtain ⟨l,h2,h3⟩:=y88 b xs (off+u.size) (λ i y hy=>by
   obtain ⟨l',e1,e2⟩:=h (i+1) y hy;exact ⟨l',by rw[show off+u.size+i * u.size=off+(i+1) * u.size by rw[add_mul];omega];exact e1,e2⟩)
  have hl0:=h1.length;simp only[Cells]at h3;obtain ⟨h4,_,h5⟩:=h3;refine ⟨l0++l,λ j v hj=>?_,?_⟩
  ·rw[List.getElem?_append]at hj;split at hj
   ·have:=h0 j v hj;rwa[Nat.zero_mul,Nat.add_zero]at this
   ·have:=h2 (j - l0.length) v hj;rwa[show off+u.size+(j - l0.length)=off+j by omega]at this
  ·simp only[Cells];refine ⟨by rw[length_append,h4,hl0,List.length_cons,succ_mul];omega,trivial,λ i y hy=>?_⟩
   cases i with
   |zero =>
    simp at hy;subst hy;rw[Nat.zero_mul,List.drop_zero,<- hl0,take_left];exact h1
   |succ i =>
    have:=h5 i y (by simpa using hy)
    rw[succ_mul,drop_append,List.drop_eq_nil_of_le (by omega),nil_append,show i * u.size+u.size - l0.length=i * u.size by omega]
    exact this
theorem y7w{t ty e:TypeId}{i:TypeInfo}(ht:P.underlying t=some (.slice e))(hi:P.info? e=some i){p q:Option Addr}{n c c':Nat}(hn:n<=c) :
  (Builtin.append_ #[t,t] ty #[.slice p n c,.slice q 0 c']).run P w=.ok (.slice p n c) w:=by
 cases p<;>cases q<;>simp[Builtin.append_,run_underlying ht,sizeOf,typeInfo,hi,Builtin.lenOf,Builtin.firstCells,hn,storeCells,loadCells,loadCellsFrom]
theorem y02{A:Nat->Prop}{u:Ty}{ys:List u.den}{l:List Value}(h:Cells P (.slice u) A w ys l) :
  (ys=[]/\∃ p c,l=[.slice p 0 c])\/∃ b off c m,l=[.slice (some ⟨b,off,none⟩) (List.length ys) c]/\yO w b off m/\Cells P (.arr (List.length ys) u) A w ys m:=by
 simp only[Cells]at h;obtain ⟨p,c,rfl,h1,h2,h3⟩:=h;cases ys with
 |nil=>exact .inl ⟨rfl,p,c,rfl⟩
 |cons y ys' =>
  obtain ⟨ad,_,e0,hsp,_⟩:=h3 0 y rfl;subst e0;obtain ⟨b,off,sp⟩:=ad;simp only at hsp;subst hsp;obtain ⟨m,h4,h5⟩:=y88 (P:=P) (A:=A) (w:=w) (u:=u) b (y::ys') off (λ i x hx=>by
   obtain ⟨a1,l',e1,_,_,_,e2,e3⟩:=h3 i x hx;cases e1;exact ⟨l',e2,e3⟩)
  exact .inr ⟨b,off,c,m,rfl,h4,h5⟩
theorem yKN{args:Array Operand}{b x:Operand}(h:args.toList=[b,x]):args=#[b,x]:=by
 apply Array.toList_inj.1;simpa using h
theorem yIc{ts:Array TypeId}{t u:TypeId}(h:ts.toList=[t,u]):ts=#[t,u]:=by
 apply Array.toList_inj.1;simpa using h
theorem y6g(w:World)(row:Option Nat):w.grownBy w row:=⟨rfl,rfl,rfl,le_refl _,λ _ _ _=>rfl⟩
theorem yML{A:Nat->Prop}{p:Place}{e:TypeId}{u:Ty}{xs:List u.den}{nn:Bool}(h:yC P A w ρ p (.arr e u xs nn)){base:Nat}(hb:∀ b,p.blk=some b->base<=b) :
  ∃ l,w.ownsRow base e u.size (.slice (p.blk.map λ b=>⟨b,0,none⟩) p.len p.cap) xs.length l/\Cells P (.arr xs.length u) A w xs l:=by
 obtain ⟨h1,h2,h3⟩:=h;rcases h3 with ⟨h4,h5,h6⟩|⟨b,vs,hb',h4,h5,h6,h7,h8⟩
 ·have:xs=[]:=List.eq_nil_of_length_eq_zero (by omega)
  subst this;rw[h4,h5,h6];exact ⟨[],World.ownsRow_nil w base e u.size,by simp[Cells]⟩
 ·have hle:List.length xs * u.size<=vs.toList.length:=by
   have e1:vs.toList.length=vs.size:=Array.length_toList;rw[e1,h7];exact mul_le_mul_right _ (by omega)
  refine ⟨vs.toList.take (xs.length * u.size),⟨by rw[length_take];omega,.inr ⟨b,p.cap,vs,by rw[hb',h1];rfl,hb b hb',h4,by omega,h6,h7,rfl⟩⟩,?_⟩
  simp only[Cells];refine ⟨by rw[length_take];omega,trivial,λ i x hx=>?_⟩
  have hi:=(List.getElem?_eq_some_iff.1 hx).1;have hm:i * u.size+u.size<=xs.length * u.size:=by rw[<- succ_mul];exact mul_le_mul_right _ hi
  rw[drop_take,take_take,min_eq_left (by omega)]
  exact h8 i x hx
theorem yHB{e:TypeId}{size:Nat}{v:Value}{base n:Nat}{l:List Value}(h:w.ownsRow base e size v n l):∃ p:Place,v=.slice (p.blk.map λ b=>⟨b,0,none⟩) p.len p.cap/\p.subs=[]:=by
 rcases h.2 with ⟨rfl,rfl⟩|⟨g,cap,cur,rfl,_⟩
 ·exact ⟨⟨none,0,0,[],[],[]⟩,rfl,rfl⟩
 ·exact ⟨⟨some g,n,cap,[],[],[]⟩,rfl,rfl⟩
theorem yLN{A:Nat->Prop}{e:TypeId}{u:Ty}{zs:List u.den}{nn:Bool}{base n:Nat}{l:List Value}{p:Place}(h:w.ownsRow base e u.size (.slice (p.blk.map λ b=>⟨b,0,none⟩) p.len p.cap) n l)(hn:zs.length=n)(hc:Cells P (.arr n u) A w zs l)
  (hnn:nn=true->p.blk≠none):yC P A w ρ p (.arr e u zs nn):=by
 simp only[Cells]at hc;obtain ⟨h1,h2,h3⟩:=hc;obtain ⟨blk,len,cap⟩:=p;rcases h.2 with ⟨hv,rfl⟩|⟨g,cap',cur,hv,hb,hg,hle,hm,hs,ht⟩
 ·cases blk with
  |some q=>cases hv
  |none =>
   cases hv;exact ⟨hn,hnn,.inl ⟨rfl,rfl,rfl⟩⟩
 ·cases blk with
  |none=>cases hv
  |some q =>
   cases hv;refine ⟨hn,hnn,.inr ⟨g,cur,rfl,hg,hle,hm,hs,λ i x hx=>?_⟩⟩
   have hi:i < len:=by have:=(List.getElem?_eq_some_iff.1 hx).1;have e2:List.length zs=len:=hn;omega
   have:=h3 i x hx;have hm:i * u.size+u.size<=len * u.size:=by rw[<- succ_mul];exact mul_le_mul_right _ hi
   simp only at ht;rw[<- ht,drop_take,take_take,min_eq_left (by omega)]at this
   exact this
theorem yCl{t ty e:TypeId}{i:TypeInfo}{z:Value}(ht:P.underlying t=some (.slice e))(hi:P.info? e=some i)(hz:i.zero=some z){size bytes:Nat}(hsize:i.size=size)(hby:i.bytes=bytes)(hzs:z.cells.size=size)(hsz:0 < size)
  {p:Place} {base n:Nat} {xs:List Value} (hown:w.ownsRow base e size (.slice (p.blk.map λ b=>⟨b,0,none⟩) p.len p.cap) n xs) {a:Addr} {m c:Nat} {news:List Value} (hl:news.length=m * size) (hnews:∀ j u,news[j]?=some u->w.cell? (a.add j)=some u) (h1:∀ u∈news,u.oneCell'=true)
  (h63:n+m<=maxLen) (hbytes:(n+m) * bytes<=140737488355328) {v':Value} {w':World} (hr:(Builtin.append_ #[t,t] ty #[.slice (p.blk.map λ b=>⟨b,0,none⟩) p.len p.cap,.slice (some a) m c]).run P w=.ok v' w') {q:Place} (hq:v'=.slice (q.blk.map λ b=>⟨b,0,none⟩) q.len q.cap) :
  ∀ b,q.blk=some b->p.blk=some b\/w.heap.size<=b:=by
 intro b hb;subst hsize hby;obtain ⟨blk,len,cap⟩:=p;obtain ⟨qb,ql,qc⟩:=q;simp only at hb hq;subst hb;cases blk with
 |none =>
  obtain ⟨v2,w2,hr2,ho2,_,_⟩:=run_append_own (P:=P) w w.heap.size t ty e i z i.size i.bytes ht hi hz rfl rfl hzs hsz (.slice none len cap) n xs
   (by
    refine ⟨hown.1,?_⟩;rcases hown.2 with h|⟨g,cap',cur,hv,_⟩
    ·exact .inl h
    ·cases hv) a m c news hl hnews h1 h63 hbytes (le_refl _)
  rw[show Option.map (λ b=>(⟨b,0,none⟩:Addr)) (none:Option Nat)=none from rfl]at hr
  rw[hr2]at hr;cases hr;rcases ho2.2 with ⟨h,_⟩|⟨g,cap',cur,h,h3,_⟩
  ·rw[h]at hq;cases hq
  ·rw[h]at hq;cases hq;exact .inr h3
 |some b0 =>
  rcases hown.2 with ⟨h,_⟩|⟨g,cap',cur,h,h3,hg,hnc,hcm,hcs,htake⟩
  ·cases h
  ·cases h;by_cases hroom:len+m<=cap
   ·have hfit:len * i.size+news.length<=cur.size:=by rw[hl,hcs,<- add_mul];exact mul_le_mul_right _ hroom
    have hr2:=run_append_room (P:=P) w t ty e i ht hi b0 len cap cur hg a m c news hl hnews h1 hroom hfit;rw[show Option.map (λ b=>(⟨b,0,none⟩:Addr)) (some b0)=some ⟨b0,0,none⟩from rfl]at hr
    rw[hr2]at hr;cases hr;cases hq;exact .inl rfl
   ·have holds:∀ j u,xs[j]?=some u->w.cell? ((⟨b0,0,none⟩:Addr).add j)=some u:=hown.cells (g:=b0) rfl;have hr2:=run_append_grow (P:=P) w t ty e i z ht hi hz ⟨b0,0,none⟩ len cap xs hown.1 holds a m c news hl hnews (by omega) (by simp only[maxLen]at h63;omega) (growslice_fits (by omega) hbytes)
    rw[show Option.map (λ b=>(⟨b,0,none⟩:Addr)) (some b0)=some ⟨b0,0,none⟩from rfl]at hr
    rw[hr2]at hr;cases hr;cases hq;exact .inr (le_refl _)
theorem y9z{A:Nat->Prop}{u:Ty}{xs ys:List u.den}{l m:List Value}(h1:Cells P (.arr xs.length u) A w xs l)(h2:Cells P (.arr ys.length u) A w ys m) :
  Cells P (.arr (xs.length+ys.length) u) A w (xs++ys) (l++m):=by
 simp only[Cells]at h1 h2 ⊢;obtain ⟨a1,_,a3⟩:=h1;obtain ⟨b1,_,b3⟩:=h2;refine ⟨by rw[length_append,a1,b1,add_mul],by simp,λ i x hx=>?_⟩
 rw[List.getElem?_append]at hx;split at hx
 ·rename_i hi;have hm:i * u.size+u.size<=xs.length * u.size:=by rw[<- succ_mul];exact mul_le_mul_right _ hi
  rw[List.drop_append_of_le_length (by omega),List.take_append_of_le_length (by rw[length_drop];omega)]
  exact a3 i x hx
 ·rename_i hi;have e:i * u.size=l.length+(i - xs.length) * u.size:=by rw[a1,<- add_mul];congr 1;omega
  rw[e,drop_append,List.drop_eq_nil_of_le (by omega),nil_append,Nat.add_sub_cancel_left]
  exact b3 _ x hx
theorem y8Z(hT:yc P g.T)(h:Rel P A0 w0 ρ s a w){args:Array Operand}{ts:Array TypeId}(ho:o.op=.call { callee:=.builtin .append,args,argTypes:=ts })
  {b x:Operand} {t t':TypeId} (hargs:args.toList=[b,x]) (hts:ts.toList=[t,t']) (hstr:yF5 g.T t'=true) (hk:y2L g s o b x t t' K=some r):Eff P A0 w0 a w o K r:=by
 unfold y2L at hk;cases hk
theorem yAZ(hT:yc P g.T)(h:Rel P A0 w0 ρ s a w){args:Array Operand}{ts:Array TypeId}(ho:o.op=.call { callee:=.builtin .unsafeString,args,argTypes:=ts })(hk:effK g s o K=some r):Eff P A0 w0 a w o K r:=by
 simp only[effK,ho]at hk;split at hk
 ·rename_i x n t t2 hargs hts;have hwhere:=yKN hargs;have hts':=yIc hts;subst hwhere hts';unfold y5K at hk;split at hk
  ·rename_i i β m hi hx hn;split at hk
   ·rename_i e xs nn hch;split at hk
    ·rename_i j hj;split at hk
     ·rename_i hcond;obtain ⟨h1,rfl,h3⟩:=hcond;cases hb:(m == (List.length xs:Int) && decide (0 < List.length xs) && yDU xs)with
      |false=>rw[hb]at hk;cases hk
      |true =>
       rw[hb]at hk;simp only[cond_true]at hk;simp only[and_eq_true,beq_iff_eq,decide_eq_true_eq]at hb;obtain ⟨⟨rfl,hne⟩,hby⟩:=hb;have hc:=getD_some hch;obtain ⟨hlen,_,hq⟩:=(h.cH β _ hc).1;have hpos:0 < List.length xs:=hne;rcases hq with ⟨_,h4,_⟩|⟨b,vs,hbk,h4,h5,h6,h7,h8⟩
       ·omega
       ·have hxv:a.eval x=.pointer (some ⟨b,0,none⟩):=by
         have:=(y6 (T:=g.T) h 0 x).1;rw[hx]at this;obtain ⟨b',hb',hv⟩:=this;rw[hbk]at hb';cases hb';exact hv
        have hnv:a.eval n=.int .i64 (List.length xs:Int):=by
         have:=(y6 (T:=g.T) h 0 n).1;rw[hn]at this;exact yh this
        have hpt:P.underlying t=some (.pointer i.elem):=yJY (hT.shape hi) h1;have hF:=hT.fits hj;rw[h3]at hF;obtain ⟨inf,d,f1,f2,f3,f4,f5,f6⟩:=hF.ex;have hce:P.cellsOf i.elem=1:=by simp[Program.cellsOf,f1,f3,Ty.size]
        have hvl:vs.size=(ρ β).cap:=by rw[h7];simp[Ty.size]
        have hbl:(y14 xs).length=List.length xs:=by simp[y14]
        have hcell:∀ (j:Nat) (c:UInt8),(y14 xs)[j]?=some c->w.cell? ((⟨b,0,none⟩:Addr).add j)=some (.int .u8 c.toNat):=by
         intro j c hjc;simp only[y14,getElem?_map,map_eq_some_iff]at hjc;obtain ⟨z,hz,rfl⟩:=hjc;have h9:=h8 j z hz;have hz2:0<=z/\z < 256:=by
          have:=List.all_eq_true.1 hby z (mem_of_getElem? hz);simpa using this
         have h10:vs.toList[j]?=some (.int .u8 z):=by
          have:=congrArg (·[0]?) h9;simpa[Ty.size,getElem?_take,getElem?_drop]using this
         have h11:((UInt8.ofNat z.toNat).toNat:Int)=z:=by
          rw[UInt8.toNat_ofNat'];omega
         rw[h11];rw[yu];simp only[World.cell?,h4,Option.isSome_none,Bool.false_eq_true,if_false,Nat.zero_add];simpa using h10
        have hrun:=Lib.run_unsafeString_row (P:=P) (w:=w) t t2 o.type i.elem hpt hce b vs.size (by simp[World.shape?,h4]) (y14 xs) (by intro e;rw[e]at hbl;simp at hbl;omega) (by rw[hbl];omega) (by
         rw[hbl];simp only[maxLen]at h6;omega) hcell
        rw[hbl]at hrun;have hw:=h.writeDrop (w':=w.freeze ⟨b,0,none⟩ (List.length xs)) hc hbk rfl (λ n hn=>by
         unfold World.freeze;rw[if_neg (by omega)]
         simp only[Array.getElem?_modify];rw[if_neg (λ e=>hn e.symm)]) (by
         unfold World.freeze;rw[if_neg (by omega)]
         simp) (by unfold World.freeze;split<;>rfl) (by unfold World.freeze;split<;>rfl) (by unfold World.freeze;split<;>rfl)
        refine Eff.val (v:=.string ⟨(y14 xs).toArray⟩) ?_ (hw.put o.dst (sv:=.val .str (y14 xs)) trivial (yA8 _)) hk;simp[execOp,ho,resolve,invoke,builtin,hxv,hnv,hrun]
     ·cases hk
    ·cases hk
   ·cases hk
  ·cases hk
 ·cases hk
def NL(P:Program)(A:Nat->Prop)(w:World)(t:Ty)(o:Nat)(e':TypeId)(u:Ty)(xs:List t.den)(l:List Value)(ns:List (Option Nat×Nat×Nat)):Prop:=
 l.length=xs.length * t.size/\ns.length=xs.length/\∀ (i:Nat) (x:t.den),xs[i]?=some x->∃ q,ns[i]?=some q/\NRel P A w t o e' u x ((l.drop (i * t.size)).take t.size) q
theorem NRel.plain{A:Nat->Prop}{t u:Ty}{q:Nat}{e':TypeId}{x:t.den}{l:List Value}{n:Option Nat×Nat×Nat}(h:NRel P A w t q e' u x l n):∀ v∈l,Value.plain1 v=true:=by
 obtain ⟨x0,l0,ys,h1,h2,h3,h4,h5⟩:=h;subst h3;intro v hv;rcases List.mem_or_eq_of_mem_set hv with hv|rfl
 ·exact Cells.plain h1 v hv
 ·rfl
theorem NL.plain{A:Nat->Prop}{t u:Ty}{q:Nat}{e':TypeId}{xs:List t.den}{l:List Value}{ns:List (Option Nat×Nat×Nat)}(h:NL P A w t q e' u xs l ns)(h0:0 < t.size):∀ v∈l,Value.plain1 v=true:=by
 obtain ⟨h1,h2,h3⟩:=h;intro v hv;obtain ⟨j,hj⟩:=List.mem_iff_getElem?.1 hv;have hlt:=(List.getElem?_eq_some_iff.1 hj).1;have hi:j / t.size < xs.length:=by rw[Nat.div_lt_iff_lt_mul h0];omega
 obtain ⟨n,_,h4⟩:=h3 _ _ (List.getElem?_eq_getElem hi);refine h4.plain v (mem_of_getElem? (i:=j % t.size) ?_);rw[getElem?_take,if_pos (Nat.mod_lt _ h0),getElem?_drop];rw[show j / t.size * t.size+j % t.size=j by rw[Nat.mul_comm];exact Nat.div_add_mod j t.size]
 exact hj
theorem NL.append{A:Nat->Prop}{t u:Ty}{q:Nat}{e':TypeId}{xs ys:List t.den}{l m:List Value}{ns ms:List (Option Nat×Nat×Nat)}(h1:NL P A w t q e' u xs l ns)(h2:NL P A w t q e' u ys m ms):NL P A w t q e' u (xs++ys) (l++m) (ns++ms):=by
 obtain ⟨a1,a2,a3⟩:=h1;obtain ⟨b1,b2,b3⟩:=h2;refine ⟨by rw[length_append,a1,b1,length_append,add_mul],by rw[length_append,length_append,a2,b2],λ i x hx=>?_⟩
 rw[List.getElem?_append]at hx;split at hx
 ·rename_i hi;have hm:i * t.size+t.size<=xs.length * t.size:=by rw[<- succ_mul];exact mul_le_mul_right _ hi
  rw[List.drop_append_of_le_length (by omega),List.take_append_of_le_length (by rw[length_drop];omega),getElem?_append_left (by omega)]
  exact a3 i x hx
 ·rename_i hi;have e:i * t.size=l.length+(i - xs.length) * t.size:=by rw[a1,<- add_mul];congr 1;omega
  rw[e,drop_append,List.drop_eq_nil_of_le (by omega),nil_append,Nat.add_sub_cancel_left,List.getElem?_append_right (by omega),a2]
  exact b3 _ x hx
theorem NL.frame{A A':Nat->Prop}{t u:Ty}{q:Nat}{e':TypeId}{xs:List t.den}{l:List Value}{ns:List (Option Nat×Nat×Nat)}(h:NL P A w t q e' u xs l ns)(hs:∀ n,some n∈ns.map (·.1)->n < w.heap.size->w'.heap[n]?=w.heap[n]?)(hK:Keep A w w')(hA:∀ n,n < w.heap.size->A' n->A n):NL P A' w' t q e' u xs l ns:=
 ⟨h.1,h.2.1,λ i x hx=>let ⟨m,h4,h5⟩:=h.2.2 i x hx;⟨m,h4,h5.frame (λ n hn=>hs n (mem_map.2 ⟨m,mem_of_getElem? h4,hn⟩)) hK hA⟩⟩
theorem y87(hT:yc P g.T)(h:Rel P A0 w0 ρ s a w){args:Array Operand}{ts:Array TypeId}(ho:o.op=.call { callee:=.builtin .append,args,argTypes:=ts })
  {b x:Operand} {t t':TypeId} (hargs:args.toList=[b,x]) (hts:ts.toList=[t,t']) (hk:y2N g s o b x t t' K=some r):Eff P A0 w0 a w o K r:=by
 unfold y2N at hk;cases hk
theorem y7x(hT:yc P g.T)(h:Rel P A0 w0 ρ s a w){args:Array Operand}{ts:Array TypeId}(ho:o.op=.call { callee:=.builtin .append,args,argTypes:=ts })
  (hk:effK g s o K=some r):Eff P A0 w0 a w o K r:=by
 have hstr:∀ (b x:Operand) (t t':TypeId),args.toList=[b,x]->ts.toList=[t,t']->yF5 g.T t'=true->y2L g s o b x t t' K=some r->Eff P A0 w0 a w o K r:=λ b x t t' h1 h2 h3 h4=>y8Z hT h ho h1 h2 h3 h4
 have hnst:∀ (b x:Operand) (t t':TypeId),args.toList=[b,x]->ts.toList=[t,t']->y2N g s o b x t t' K=some r->Eff P A0 w0 a w o K r:=λ b x t t' h1 h2 h3=>y87 hT h ho h1 h2 h3
 simp only[effK,ho]at hk;split at hk
 ·rename_i b x t t' hargs hts;split at hk
  ·rename_i hst;exact hstr b x t t' hargs hts hst hk
  split at hk
  ·exact hnst b x t t' hargs hts hk
  have hS:=h.settle (y8 g.T t' s x);generalize s.settle (y8 g.T t' s x)=s1 at hk hS;split at hk
  ·rename_i i β hi hb;split at hk
   ·rename_i e u xs nn hch;split at hk
    ·rename_i hcond;obtain ⟨rfl,hty,rfl⟩:=hcond;simp only[bind_eq_some_iff]at hk;obtain ⟨ys,hy,hk⟩:=hk;cases hle:decide (xs.length+List.length ys<=memMax)with
     |false=>rw[hle]at hk;cases hk
     |true =>
      rw[hle]at hk;simp only[cond_true]at hk;have hle:=of_decide_eq_true hle;have hc:=getD_some hch;obtain ⟨hu,hF,hs0⟩:=yM (hT.shape hi) (.inl hty);obtain ⟨inf,d,f1,f2,f3,f4,f5,f6⟩:=hF.ex;obtain ⟨l,h1,h2⟩:=y04 (y6 (T:=g.T) hS t' x).1 hy;have hbv:a.eval b=_:=hb ▸ (y6 (T:=g.T) hS 0 b).1;have hwhere:=yKN hargs;have hts':=yIc hts;subst hwhere hts';have hrun:(execOp a.eval o).run P w=Result.andThen ((Builtin.append_ #[t',t'] o.type #[a.eval b,a.eval x]).run P w) λ v w'=>.ok (.value v) w':=by
       simp[execOp,ho,resolve,invoke,builtin]
      have hch1:=(hS.cH β _ hc).1;have fin:∀ (v':Value) (w':World) (p:Place),(Builtin.append_ #[t',t'] o.type #[a.eval b,a.eval x]).run P w=.ok v' w'->v'=.slice (p.blk.map λ b=>⟨b,0,none⟩) p.len p.cap->w.grownBy w' (ρ β).blk ->
        (∀ b,p.blk=some b->(ρ β).blk=some b\/w.heap.size<=b)->(∀ A,(∀ n,n < w.heap.size->A n->Av A0 ρ s1.cH n)->yC P A w' ρ p (.arr i.elem u (xs++ys) nn))->Eff P A0 w0 a w o K r:=by
       intro v' w' p hr hv hg hp hcr;have hG:=hS.grow (p:=⟨p.blk,p.len,p.cap,[],[],[]⟩) (ch':=.arr i.elem u (xs++ys) nn) hc hg hp trivial hcr;refine Eff.val (v:=v') (w':=w') (by rw[hrun,hr];rfl) (hG.put o.dst (sv:=.own s1.cH.length) ?_ ?_) hk
       ·show s1.cH.length < (s1.cH.set β none++[_]).length
        simp
       ·show v'=Value.slice _ _ _
        rw[Places.set_self];exact hv
      have hav:a.eval x=(Ty.slice u).wrap l:=h2;rcases y02 h1 with ⟨rfl,p,c,rfl⟩|⟨b1,off,c,m,rfl,hm1,hm2⟩
      ·have hcap:(ρ β).len<=(ρ β).cap:=by
        obtain ⟨_,_,⟨_,q1,q2⟩|⟨_,_,_,_,q,_⟩⟩:=hch1
        ·omega
        ·exact q
       refine fin _ w (ρ β) ?_ rfl (y6g w _) (λ b hb=>.inl hb) (λ A hA=>?_)
       ·rw[hbv,hav];exact y7w hu f1 hcap
       ·rw[show (xs++([]:List u.den))=xs from append_nil xs]
        exact hch1.keep (λ _ _=>rfl) hA
      ·obtain ⟨lx,hown,hlx⟩:=yML hch1 (base:=w0.w.heap.size) (hS.cH β _ hc).2;have hml:=hm2.length;have hby:(xs.length+List.length ys) * inf.bytes<=140737488355328:=by
        have:(xs.length+List.length ys) * inf.bytes<=68719476736 * 2048:=Nat.mul_le_mul hle f4;omega
       obtain ⟨zinf,hz6⟩:∃ z,inf.zero=some z/\z=u.wrap u.zeroV:=⟨_,f6,rfl⟩;have hzc:zinf.cells.size=u.size:=by
        rw[hz6.2,y0S (yS _) (y1K _),size_toArray,yS]
       obtain ⟨v',w',hr,hown',hg,hnil⟩:=run_append_own (P:=P) w w0.w.heap.size t' o.type i.elem inf zinf u.size inf.bytes hu f1 hz6.1 f3 rfl hzc (by omega)
        _ xs.length lx hown ⟨b1,off,none⟩ (List.length ys) c m hml (λ j v hj=>by rw[yu];exact hm1 j v hj) (λ v hv=>yV (Cells.plain hm2 v hv))
        (by simp only[maxLen];simp only[memMax]at hle;omega) hby hS.below.size
       have hob:(Value.slice ((ρ β).blk.map λ b=>⟨b,0,none⟩) (ρ β).len (ρ β).cap).ownBlock=(ρ β).blk:=by
        cases (ρ β).blk<;>rfl
       rw[hob]at hg;have hKA:∀ A,(∀ n,n < w.heap.size->A n->Av A0 ρ s1.cH n)->Cells P (.arr (xs.length+List.length ys) u) A w' (xs++ys) (lx++m):=by
        intro A hA;have hK:Keep (Av A0 ρ s1.cH) w w':=λ n hn hnA=>hg.block n hn (λ e=>hnA (.inr ⟨β,_,hc,e.symm⟩))
        exact (y9z hlx hm2).mono hK hA
       obtain ⟨p,hv,hps⟩:=yHB hown';have hnn:nn=true->p.blk≠none:=by
        intro hn e;have hv2:v'=.slice none 0 0:=by
         rcases hown'.2 with ⟨h,_⟩|⟨g,cap',cur,h,_⟩
         ·exact h
         ·rw[hv,e]at h;cases h
        have:=(hnil.1 hv2).1;have h5:=hch1.2.1 hn;cases hq:(ρ β).blk with
        |none=>exact h5 hq
        |some q=>rw[hq]at this;cases this
       have hr':(Builtin.append_ #[t',t'] o.type #[a.eval b,a.eval x]).run P w=.ok v' w':=by
        rw[hbv,hav];exact hr
       have hwh:=yCl (P:=P) hu f1 hz6.1 f3 rfl hzc (by omega) hown (a:=⟨b1,off,none⟩) (m:=List.length ys) (c:=c) (news:=m) hml (λ j v hj=>by rw[yu];exact hm1 j v hj) (λ v hv=>yV (Cells.plain hm2 v hv)) (by simp only[maxLen];simp only[memMax]at hle;omega) hby hr hv
       rw[hv]at hown';exact fin v' w' p hr' hv hg hwh (λ A hA=>yLN (ρ:=ρ) (nn:=nn) hown' (by simp) (hKA A hA) hnn)
    ·cases hk
   ·cases hk
  ·rename_i i u xs hi hb;split at hk;rotate_left
   ·cases hk
   rename_i hcond;obtain ⟨hty,rfl⟩:=hcond;simp only[bind_eq_some_iff]at hk;obtain ⟨ys,hy,hk⟩:=hk;cases hle:(decide (0 < List.length xs) && decide (0 < List.length ys) && decide (List.length xs+List.length ys<=memMax))with
   |false=>rw[hle]at hk;cases hk
   |true =>
    rw[hle]at hk;simp only[cond_true]at hk;simp only[and_eq_true,decide_eq_true_eq]at hle;obtain ⟨⟨hx0,hy0⟩,hle⟩:=hle;obtain ⟨hu,hF,hs0⟩:=yM (hT.shape hi) (.inl hty);obtain ⟨inf,d,f1,f2,f3,f4,f5,f6⟩:=hF.ex;obtain ⟨l,h1,h2⟩:=y04 (y6 (T:=g.T) hS t' x).1 hy;obtain ⟨lb,hb1,hb2,hbe⟩:∃ l,Cells P (.slice u) (Av A0 ρ s1.cH) w xs l/\a.eval b=(Ty.slice u).wrap l/\yBt l:=by
     have:=(y6 (T:=g.T) hS 0 b).1;rw[hb]at this;exact this
    have hwhere:=yKN hargs;have hts':=yIc hts;subst hwhere hts';have hrun:(execOp a.eval o).run P w=Result.andThen ((Builtin.append_ #[t',t'] o.type #[a.eval b,a.eval x]).run P w) λ v w'=>.ok (.value v) w':=by
     simp[execOp,ho,resolve,invoke,builtin]
    rcases y02 h1 with ⟨rfl,p,c,rfl⟩|⟨b1,off,c,m,rfl,hm1,hm2⟩
    ·simp at hy0
    rcases y02 hb1 with ⟨rfl,p,c',rfl⟩|⟨b0,off0,c',m0,rfl,hm3,hm4⟩
    ·simp at hx0
    have hce:c'=List.length xs:=hbe _ _ _ (mem_singleton.2 rfl);subst hce;have hml:=hm2.length;have hml0:=hm4.length;have hby:(List.length xs+List.length ys) * inf.bytes<=140737488355328:=by
     have:(List.length xs+List.length ys) * inf.bytes<=68719476736 * 2048:=Nat.mul_le_mul hle f4;omega
    obtain ⟨zinf,hz6⟩:∃ z,inf.zero=some z/\z=u.wrap u.zeroV:=⟨_,f6,rfl⟩;have hzc:zinf.cells.size=u.size:=by
     rw[hz6.2,y0S (yS _) (y1K _),size_toArray,yS]
    have hav:a.eval x=.slice (some ⟨b1,off,none⟩) (List.length ys) c:=h2;have hbv:a.eval b=.slice (some ⟨b0,off0,none⟩) (List.length xs) (List.length xs):=hb2;obtain ⟨v',w',hr,hown',hg⟩:=run_append_arg_grows (P:=P) w t' o.type i.elem inf zinf u.size inf.bytes hu f1 hz6.1 f3 rfl hzc (by omega)
     ⟨b0,off0,none⟩ (List.length xs) (List.length xs) m0 hml0 (λ j v hj=>by rw[yu];exact hm3 j v hj) ⟨b1,off,none⟩ (List.length ys) c m hml (λ j v hj=>by rw[yu];exact hm1 j v hj)
     (by omega) (by simp only[maxLen];simp only[memMax]at hle;omega) hby
    rcases hown'.2 with ⟨_,hn0⟩|⟨gb,cap,cur,rfl,hgb,hgc,hnc,hcm,hcs2,htk⟩
    ·omega
    have hB:Below w.heap.size w w':=⟨hg.os,hg.tape,hg.output,hg.size,λ n hn=>hg.block n hn (by simp)⟩
    have hKA:∀ A,(∀ n,n < w.heap.size->A n->Av A0 ρ s1.cH n)->Cells P (.arr (List.length xs+List.length ys) u) A w' ((xs:List u.den)++ys) (m0++m):=by
     intro A hA;exact (y9z hm4 hm2).mono (λ n hn _=>hB.block n hn) hA
    have h3:=hS.newChunk (.arr i.elem u ((xs:List u.den)++ys) true) ⟨some gb,List.length xs+List.length ys,cap,[],[],[]⟩ hB (λ b hb=>by cases hb;exact hgb) trivial (λ A hA _=>by
     have:=hKA A hA;simp only[Cells]at this;refine ⟨by simp,λ _=>by simp,.inr ⟨gb,cur,rfl,hgc,hnc,hcm,hcs2,λ i x hi=>?_⟩⟩
     have hi1:i < List.length xs+List.length ys:=by have:=(List.getElem?_eq_some_iff.1 hi).1;rw[length_append]at this;exact this
     have hsz:i * u.size+u.size<=(List.length xs+List.length ys) * u.size:=by rw[<- succ_mul];exact mul_le_mul_right _ hi1
     have e1:(cur.toList.drop (i * u.size)).take u.size=((m0++m).drop (i * u.size)).take u.size:=by
      rw[<- htk,drop_take,take_take,min_eq_left (by omega)]
     rw[e1];exact this.2.2 i x hi)
    refine Eff.val (v:=.slice (some ⟨gb,0,none⟩) (List.length xs+List.length ys) cap) (w':=w') ?_ (h3.put o.dst (sv:=.own s1.cH.length) (by show s1.cH.length < (s1.cH++[_]).length;simp) ?_) hk
    ·rw[hrun,hbv,hav,hr];rfl
    ·show _=Value.slice _ _ _
     rw[Places.set_self];rfl
  ·cases hk
 ·cases hk
end
end Go.Vx
end
section
namespace Go.Vx
open Go.RowKit
variable [GT]
section
variable {P:Program} {A0:Nat->Prop} {w0:Base} {ρ:Places} {s:St} {a:Act} {w w':World} {g:G} {R:Type} {K:St->Option R} {r:R} {o:Oper}
theorem y0K{t:TypeId}{u:Ty}(hF:Fits P t u){v:Value}{l:List Value}{b off:Nat}{cur:Array Value}{e:TypeId}(hv:v.cells=l.toArray)(hl:l.length=u.size)(h1:∀ x∈l,x.oneCell'=true)
  (hg:w.heap[b]?=some (.cells cur e (0,0))) (hfit:off+l.length<=cur.size) :
  (Instr.storeAt t (.pointer (some ⟨b,off,none⟩)) v).run P w=.ok () (w.setRow b (cur.toList.take off++l++cur.toList.drop (off+l.length)).toArray):=by
 obtain ⟨inf,d,f1,f2,f3,_⟩:=hF.ex;have hst:=run_storeCells_at P b off e l 0 cur w hg (by simpa using hfit) h1
 simp only[Nat.add_zero]at hst;simp only[Instr.storeAt,Instr.sureAddr,Sem.run_bind,Sem.run_pure,Result.andThen_ok,storeVar,y0x f1,hv,size_toArray,f3];rw[if_neg (by rw[hl];simp)]
 simpa using hst
theorem yIC{A:Nat->Prop}{sv:SV}{v:Value}{t:Ty}{y:t.den}(h:yD P A w ρ sv v)(hy:xOf sv t=some y):∃ l,Cells P t A w y l/\v=t.wrap l/\yBt l:=by
 unfold xOf at hy;split at hy
 ·obtain ⟨l,hl,rfl,he⟩:=h;obtain ⟨h1,h2⟩:=y2M hy hl;exact ⟨l,h1,(y4h h2 l).symm,he⟩
 ·cases hy
theorem yPq{n:Nat}{svs:List SV}(h:∀ sv∈svs,sv.inn n):∀ sv∈svs.map toX,sv.inn n:=by
 intro sv hs;obtain ⟨sv',h1,rfl⟩:=mem_map.1 hs;have:=h sv' h1;unfold toX;split
 ·split<;>trivial
 ·exact this
theorem yIe{A:Nat->Prop}{svs:List SV}{l:List Value}(h:yA P A w ρ svs l)(he:yBt l):yA P A w ρ (svs.map toX) l:=by
 refine ⟨by rw[List.length_map];exact h.1,λ i sv hi=>?_⟩
 rw[getElem?_map,map_eq_some_iff]at hi;obtain ⟨sv',h1,rfl⟩:=hi;obtain ⟨v,h2,h3⟩:=h.2 i sv' h1;refine ⟨v,h2,?_⟩;unfold toX;split
 ·rename_i t x;split
  ·rename_i hsl;obtain ⟨l',h4,rfl⟩:=h3;refine ⟨l',h4,rfl,?_⟩;have hag:t.agg=false:=by unfold Ty.isSlice at hsl;cases t<;>first|rfl|cases hsl
   have h1:=h4.length;rw[y2E hag]at h1;obtain ⟨v,rfl⟩:=List.length_eq_one_iff.1 h1;have hw:t.wrap [v]=v:=by simp[Ty.wrap,hag]
   rw[hw]at h2;intro p n c hm;rw[mem_singleton]at hm;exact he p n c (hm ▸ mem_of_getElem? h2)
  ·exact h3
 ·exact h3
theorem y1H(w:World)(g:Nat)(cs:Array Value):(w.setRow g cs).heap.size=w.heap.size:=by simp[World.setRow]
theorem Rel.freezeIf(h:Rel P A0 w0 ρ s a w)(g:G)(x:Operand):Rel P A0 w0 ρ (Vx.freezeIf g s x) a w:=by
 unfold Vx.freezeIf;split
 ·split
  ·split
   ·exact h.freeze _
   ·exact h
  ·exact h
 ·exact h
theorem Rel.writeBox(h:Rel P A0 w0 ρ s a w){β b off:Nat}{u:Ty}{cells svs:List SV}{vs:Array Value}{e:TypeId}{l:List Value}(hβ:s.cH[β]?=some (some (.box u cells)))(hb:(ρ β).blk=some b)
  (hg:w.heap[b]?=some (.cells vs e (0,0))) (hc:yA P (Av A0 ρ s.cH) w ρ cells vs.toList) (hin:∀ sv∈svs,sv.inn s.cH.length) (hs:yA P (Av A0 ρ s.cH) w ρ svs l) :
  Rel P A0 w0 ρ { s with cH:=s.cH.set β (some (.box u (cells.take off++svs++cells.drop (off+svs.length)))) } a (w.setRow b (vs.toList.take off++l++vs.toList.drop (off+l.length)).toArray):=by
 have hAb:Av A0 ρ s.cH b:=.inr ⟨β,_,hβ,hb⟩;have hci:=h.cN β _ hβ;refine h.write (ch':=.box u _) hβ hb (λ n hn=>setRow_other w b n _ hn) (y1H _ _ _) rfl rfl rfl (λ sv hsv=>?_) (λ A hA=>?_)
 ·rcases mem_append.1 hsv with hsv|hsv
  ·rcases mem_append.1 hsv with hsv|hsv
   ·exact hci sv (List.mem_of_mem_take hsv)
   ·exact hin sv hsv
  ·exact hci sv (List.mem_of_mem_drop hsv)
 ·have hK:Keep (Av A0 ρ s.cH) w (w.setRow b (vs.toList.take off++l++vs.toList.drop (off+l.length)).toArray):=λ n hn hnA=>setRow_other w b n _ (λ e=>hnA (e ▸ hAb))
  have hfin:yA P (Av A0 ρ s.cH) w ρ (cells.take off++svs++cells.drop (off+svs.length)) (vs.toList.take off++l++vs.toList.drop (off+l.length)):=by
   rw[hs.1];exact ((hc.take off).append hs).append (hc.drop _)
  have he:(ρ β).len=e:=by
   obtain ⟨b',vs',e',hb',hg',⟨_,he'⟩,_⟩:=(h.cH β _ hβ).1;rw[hb]at hb';cases hb';rw[hg]at hg';cases hg';exact he'
  refine ⟨b,_,e,hb,setRow_heap w b vs _ e _ hg,⟨by simpa using hfin.1,he⟩,λ i sv hi=>?_⟩
  obtain ⟨v,hv,hr⟩:=hfin.2 i sv hi;exact ⟨v,by simpa using hv,hr.mono hK (λ n _ hn=>(hA n).1 hn)⟩
theorem y9P{T:List (TypeId×TyI)}{A:Nat->Prop}:∀ (l:List TypeId) (u:Ty) (x:u.den) (m:Nat) (p:List SV×List TypeId) (t:Ty) (vs:List Value),y32 T l=some t->y2q T l u x m=some p->Cells P u A w x vs ->
  (∀ β,m<=β->β < m+(yK T p.2).length->ρ β=⟨none,0,0,[],[],[]⟩) ->
  yA P A w ρ p.1 vs/\vs.length=t.size/\∀ sv∈p.1,sv.inn (m+(yK T p.2).length):=by
 intro l;induction l with
 |nil =>
  intro u x m p t vs hp h hc hρ;cases u with
  |unit =>
   simp only[y2q,Option.some.injEq]at h;subst h;simp only[y32,Option.some.injEq]at hp;subst hp;simp only[Cells]at hc;subst hc;exact ⟨⟨rfl,λ i sv hi=>by simp at hi⟩,rfl,λ sv hs=>by simp at hs⟩
  |_=>simp[y2q]at h
 |cons τ l ih =>
  intro u x m p t vs hp h hc hρ;cases u with
  |pair a b =>
   simp only[y32,bind_eq_some_iff,map_eq_some_iff]at hp;obtain ⟨i,hi,tb,hb,rfl⟩:=hp;simp only[y2q,hi,bind_some]at h;simp only[Cells]at hc;obtain ⟨l1,l2,rfl,h1,h2⟩:=hc;split at h
   ·rename_i ha;obtain ⟨q,hq,rfl⟩:=map_eq_some_iff.1 h;obtain ⟨g1,g2,g3⟩:=ih b x.2 m q tb l2 hb hq h2 hρ;refine ⟨yA.append (y1d a x.1 l1 h1) g1,?_,λ sv hs=>?_⟩
    ·rw[length_append,g2,h1.length,ha];rfl
    ·rcases mem_append.1 hs with hs|hs
     ·exact y3D _ _ _ sv hs
     ·exact g3 sv hs
   ·obtain ⟨hs,h⟩:=yG h;obtain ⟨q,hq,rfl⟩:=map_eq_some_iff.1 h;simp only[and_eq_true]at hs;obtain ⟨hs1,hs2⟩:=hs;cases a with
    |nS v =>
     cases hty:i.ty with
     |slice v' =>
      rw[hty]at hs1;simp only[yAe,decide_eq_true_eq]at hs1;subst hs1;have hch:yK T (τ::q.2)=some (.arr i.elem v [] false)::yK T q.2:=by simp only[yK,hi,hty]
      rw[hch]at hρ ⊢;simp only[List.length_cons]at hρ ⊢;obtain ⟨g1,g2,g3⟩:=ih b x.2 (m+1) q tb l2 hb hq h2 (λ β h3 h4=>hρ β (by omega) (by omega))
      simp only[Cells]at h1;obtain ⟨pt,c,rfl,e1,e2,e3,e4,_⟩:=h1;have hx:x.1=none:=by
       cases hxx:x.1 with
       |none=>rfl
       |some z=>simp only[yI3,hxx]at hs2;cases hs2
      have hpt:pt=none:=e1.2 hx;subst hpt;have hc0:c=0:=e2 rfl;subst hc0;refine ⟨yA.append (s1:=[.own m]) (yA.one ?_) g1,?_,λ sv hs=>?_⟩
      ·show _=Value.slice _ _ _
       rw[hρ m (by omega) (by omega),hx]
       rfl
      ·rw[length_append,g2];rfl
      ·rcases mem_cons.1 hs with rfl|hs
       ·show m < _
        omega
       ·exact SV.inn_mono (by omega) (g3 sv hs)
     |_=>rw[hty]at hs1;simp[yAe]at hs1
    |_=>simp[yAe]at hs1
  |_=>simp[y2q]at h
theorem yFQ{L l:List Value}{n sz off:Nat}(h3:off+l.length<=sz)(hrow:n * sz+sz<=L.length) :
  ((L.take (n * sz+off)++l++L.drop (n * sz+off+l.length)).drop (n * sz)).take sz=((L.drop (n * sz)).take sz).take off++l++((L.drop (n * sz)).take sz).drop (off+l.length):=by
 have hu1:((L.drop (n * sz)).take sz).length=sz:=by rw[length_take,length_drop];omega
 apply ext_getElem?;intro k;have e3:=y17 (l:=(L.drop (n * sz)).take sz) (m:=l) (o:=off) (by rw[hu1];exact h3) k
 rw[y0H,e3];by_cases hk:k < sz
 ·rw[if_pos hk,y17 (by omega),y0H,if_pos hk]
  by_cases h5:k < off
  ·rw[if_pos h5,if_pos (by omega)]
  ·rw[if_neg h5,if_neg (by omega)]
   by_cases h6:k < off+l.length
   ·rw[if_pos h6,if_pos (by omega)]
    congr 1
    omega
   ·rw[if_neg h6,if_neg (by omega)]
 ·rw[if_neg hk,if_neg (by omega),if_neg (by omega),y0H,if_neg hk]
theorem yDG{L l:List Value}{n j sz off:Nat}(h3:off+l.length<=sz)(hrow:n * sz+sz<=L.length)(hnj:n≠j) :
  ((L.take (n * sz+off)++l++L.drop (n * sz+off+l.length)).drop (j * sz)).take sz=(L.drop (j * sz)).take sz:=by
 apply ext_getElem?;intro k;rw[y0H,y0H];split
 ·rename_i hk;rw[y17 (by omega)]
  rcases Nat.lt_or_gt_of_ne hnj with h|h
  ·have h5:(n+1) * sz<=j * sz:=mul_le_mul_right _ h;rw[succ_mul]at h5;rw[if_neg (by omega),if_neg (by omega)]
  ·have h5:(j+1) * sz<=n * sz:=mul_le_mul_right _ h;rw[succ_mul]at h5;rw[if_pos (by omega)]
 ·rfl
theorem NRel.store{A:Nat->Prop}{t u τ:Ty}{q off:Nat}{e':TypeId}{x x':t.den}{l m:List Value}{n:Option Nat×Nat×Nat}{z:τ.den}(h:NRel P A w t q e' u x l n)(hs:yAo t q u x off τ z=some x')(hz:Cells P τ A w z m) :
  off+m.length<=l.length/\NRel P A w t q e' u x' (l.take off++m++l.drop (off+m.length)) n:=by
 unfold yAo at hs;obtain ⟨ys,hys,hs1⟩:=bind_eq_some_iff.1 hs;obtain ⟨x0,hx0,hs2⟩:=bind_eq_some_iff.1 hs1;obtain ⟨x1,hx1,hs3⟩:=bind_eq_some_iff.1 hs2;obtain ⟨hd,hs4⟩:=yG hs3;obtain ⟨ys',hys',hq,hg,h4,h5⟩:=h.comp;rw[hys]at hys';cases hys';obtain ⟨_,h6⟩:=h.empty hx0;obtain ⟨h7,h8⟩:=y1n t x0 off τ z x1 _ m h6 hz hx1;rw[List.length_set]at h7;have hmz:=hz.length;refine ⟨h7,x1,_,ys,h8,hs4,?_,h4,h5⟩;apply ext_getElem?;intro k;rw[y17 h7];by_cases hk:q=k
 ·subst hk;rw[getElem?_set_self (by simp;omega)]
  rcases hd with hd|hd
  ·rw[if_pos hd,hg]
  ·rw[if_neg (by omega),if_neg (by omega),hg]
 ·rw[getElem?_set_ne hk,y17 (by simpa using h7)]
  split
  ·rw[getElem?_set_ne hk]
  ·split
   ·rfl
   ·rw[getElem?_set_ne hk]
theorem yAY(hT:yc P g.T)(h:Rel P A0 w0 ρ s a w){t:TypeId}{ad x:Operand}{i:TyI}{β n sz off:Nat}(ho:o.op=.store t ad x)(hi:yN g.T t=some i)(had:y8 g.T 0 s ad=.eP β n sz off)
  (hk:yIn s o i β n sz off (y8 g.T t s x) K=some r):Eff P A0 w0 a w o K r:=by
 have hF:=hT.fits hi;obtain ⟨b,hb,hav⟩:∃ b,(ρ β).blk=some b/\a.eval ad=.pointer (some ⟨b,n * sz+off,none⟩):=by
  have:=(y6 (T:=g.T) h 0 ad).1;rw[had]at this;exact this
 have hx:=(y6 (T:=g.T) h t x).1;unfold yIn at hk;cases hk
theorem y9I(hE:∀ e∈g.E,FnOK P e)(hT:yc P g.T)(h:Rel P A0 w0 ρ s a w){t:TypeId}{ad x:Operand}(ho:o.op=.store t ad x)(hk:effK g s o K=some r):Eff P A0 w0 a w o K r:=by
 simp only[effK,ho]at hk;split at hk
 ·rename_i i β off hi had;have hF:=hT.fits hi;obtain ⟨b,hb,hav⟩:∃ b,(ρ β).blk=some b/\a.eval ad=.pointer (some ⟨b,off,none⟩):=by
   have:=(y6 (T:=g.T) h 0 ad).1;rw[had]at this;exact this
  split at hk
  ·rename_i u cells hch;have hc:=getD_some hch;obtain ⟨b',vs,e,hb',hg,⟨hlen,_⟩,hcr⟩:=(h.cH β _ hc).1;rw[hb]at hb';cases hb';have hCR:yA P (Av A0 ρ s.cH) w ρ cells vs.toList:=⟨by simpa using hlen,λ i sv hi=>by simpa using hcr i sv hi⟩
   split at hk
   ·split at hk
    ·rename_i y hy;obtain ⟨hfit,hk⟩:=yG hk;obtain ⟨l,h1,h2,hex⟩:=yIC (y6 (T:=g.T) h t x).1 hy;have hsc:=yIe (y1d (ρ:=ρ) i.ty y l h1) hex;have hll:=h1.length;have hW:=h.writeBox (off:=off) hc hb hg hCR (yPq (y3D _ _ _)) hsc;rw[show off+((y0D i.ty y).map toX).length=off+i.ty.size by rw[<- hsc.1,hll]]at hW
     refine Eff.skip (w':=_) ?_ ((hW.put o.dst (sv:=.undef) (v:=undef) trivial trivial).freezeIf g ad) hk;have hrun:=y0K (P:=P) hF (v:=a.eval x) (l:=l) (b:=b) (off:=off) (cur:=vs) (e:=e) (by rw[h2];exact y0I h1) hll (λ v hv=>yV (Cells.plain h1 v hv)) hg (by omega)
     simp only[execOp,ho,Sem.run_bind,hav,hrun,Result.andThen_ok,Sem.run_pure]
    split at hk
    ·rename_i svs hsv;obtain ⟨⟨hfit,hsl⟩,hk⟩:=yG hk;have hxv:=y6 (T:=g.T) h t x;obtain ⟨γ,u',hxe,hγ,hall,hu'⟩:∃ γ u',y8 g.T t s x=.sR γ/\s.cH[γ]?=some (some (.rcd u' svs))/\svs.all SV.scalar=true/\u'=i.ty:=by
      unfold y3a at hsv;split at hsv
      ·rename_i γ hxe;split at hsv
       ·rename_i u' cells' hch';obtain ⟨⟨hu,hall⟩,hsv⟩:=yG hsv;cases hsv;exact ⟨γ,u',hxe,getD_some hch',hall,hu⟩
       ·cases hsv
      ·cases hsv
     rw[hxe]at hxv;obtain ⟨_,hor,hvl,hvc⟩:=(h.cH γ _ hγ).1;have hsc:yA P (Av A0 ρ s.cH) w ρ svs (ρ γ).vals:=⟨hvl,λ i sv hi=>hvc i sv hi⟩
     have hav2:a.eval x=.agg (ρ γ).vals.toArray:=by
      have h0:a.eval x=recV (ρ γ).len (ρ γ).vals:=hxv.1;rcases hor with ⟨_,hln⟩|⟨hb1,_,h22⟩
      ·rw[h0];simp[recV,hln]
      ·exfalso
       rw[<- hu',hb1]at hsl;simp only[Ty.size]at hsl;omega
     have hW:=h.writeBox (off:=off) hc hb hg hCR (h.cN γ _ hγ) hsc;rw[hsl]at hW;refine Eff.skip (w':=_) ?_ ((hW.put o.dst (sv:=.undef) (v:=undef) trivial trivial).freezeIf g ad) hk;have hrun:=y0K (P:=P) hF (v:=a.eval x) (l:=(ρ γ).vals) (b:=b) (off:=off) (cur:=vs) (e:=e) (by rw[hav2];rfl) (by rw[hsc.1];exact hsl) (λ v hv=>by
      obtain ⟨j,hj⟩:=List.mem_iff_getElem?.1 hv;have hjl:j < svs.length:=by rw[<- hsc.1];exact (List.getElem?_eq_some_iff.1 hj).1
      obtain ⟨v',h5,h6⟩:=hsc.2 j _ (List.getElem?_eq_getElem hjl);rw[hj]at h5;cases h5;exact (y2n (List.all_eq_true.1 hall _ (List.getElem_mem hjl)) h6).2) hg (by rw[hsc.1,hsl];omega)
     simp only[execOp,ho,Sem.run_bind,hav,hrun,Result.andThen_ok,Sem.run_pure]
    split at hk
    ·rename_i y hy;obtain ⟨hfit,hk⟩:=yG hk;obtain ⟨l,h1,h2⟩:=y04 (y6 (T:=g.T) h t x).1 hy;have hsc:=y1d (ρ:=ρ) i.ty y l h1;have hll:=h1.length;have hW:=h.writeBox (off:=off) hc hb hg hCR (y3D _ _ _) hsc;rw[show off+(y0D i.ty y).length=off+i.ty.size by rw[<- hsc.1,hll]]at hW
     refine Eff.skip (w':=_) ?_ ((hW.put o.dst (sv:=.undef) (v:=undef) trivial trivial).freezeIf g ad) hk;have hrun:=y0K (P:=P) hF (v:=a.eval x) (l:=l) (b:=b) (off:=off) (cur:=vs) (e:=e) (by rw[h2];exact y0I h1) hll (λ v hv=>yV (Cells.plain h1 v hv)) hg (by omega)
     simp only[execOp,ho,Sem.run_bind,hav,hrun,Result.andThen_ok,Sem.run_pure]
    ·unfold y4M at hk;split at hk
     ·rename_i w' y hx;obtain ⟨p,hp,hk⟩:=bind_eq_some_iff.1 hk;obtain ⟨⟨hprod,hfit⟩,hk⟩:=yG hk;obtain ⟨l,h1,h2⟩:∃ l,Cells P w' (Av A0 ρ s.cH) w y l/\a.eval x=w'.wrap l:=by
       have:=(y6 (T:=g.T) h t x).1;rw[hx]at this;exact this
      obtain ⟨ρ',g1,g2,g3⟩:=Rel.addNone g.T p.2 h;have hβl:=(List.getElem?_eq_some_iff.1 hc).1;have hc':(s.cH++yK g.T p.2)[β]?=some (some (.box u cells)):=by rw[getElem?_append_left hβl];exact hc
      have hb2:(ρ' β).blk=some b:=by rw[g2 β hβl];exact hb
      obtain ⟨b',vs',e',hb',hg',⟨hlen',_⟩,hcr'⟩:=(g1.cH β _ hc').1;rw[hb2]at hb';cases hb';rw[hg]at hg';cases hg';have hCR':yA P (Av A0 ρ' (s.cH++yK g.T p.2)) w ρ' cells vs.toList:=⟨by simpa using hlen',λ i sv hi=>by simpa using hcr' i sv hi⟩
      have hA:∀ n,Av A0 ρ' (s.cH++yK g.T p.2) n->Av A0 ρ s.cH n:=by
       rintro n ((h0|⟨γ,ch,hγ,hbn⟩)|⟨γ,ch,hγ,hbn⟩)
       ·exact .inl (.inl h0)
       ·rcases lt_or_ge γ s.cH.length with hl|hl
        ·rw[g2 γ hl]at hbn;rw[getElem?_append_left hl]at hγ;exact .inl (.inr ⟨γ,ch,hγ,hbn⟩)
        ·have hlt:=(List.getElem?_eq_some_iff.1 hγ).1;rw[length_append]at hlt;rw[g3 γ hl hlt]at hbn;cases hbn
       ·rcases lt_or_ge γ s.cH.length with hl|hl
        ·rw[g2 γ hl]at hbn;rw[getElem?_append_left hl]at hγ;exact .inr ⟨γ,ch,hγ,hbn⟩
        ·have hlt:=(List.getElem?_eq_some_iff.1 hγ).1;rw[length_append]at hlt;rw[g3 γ hl hlt]at hbn;cases hbn
      obtain ⟨q1,q2,q3⟩:=y9P (ρ:=ρ') _ _ _ _ _ _ _ hprod hp (h1.mono (λ _ _ _=>rfl) (λ n _ hn=>hA n hn)) g3
      have hW:=g1.writeBox (off:=off) hc' hb2 hg hCR' (λ sv hs=>by have:=q3 sv hs;simpa using this) q1
      rw[show off+p.1.length=off+i.ty.size by rw[<- q1.1,q2]]at hW
      refine Eff.skip (w':=_) ?_ ((hW.put o.dst (sv:=.undef) (v:=undef) trivial trivial).freezeIf g ad) hk;have hrun:=y0K (P:=P) hF (v:=a.eval x) (l:=l) (b:=b) (off:=off) (cur:=vs) (e:=e) (by rw[h2];exact y0I h1) q2 (λ v hv=>yV (Cells.plain h1 v hv)) hg (by omega)
      simp only[execOp,ho,Sem.run_bind,hav,hrun,Result.andThen_ok,Sem.run_pure]
     ·cases hk
   ·rename_i hagg;obtain ⟨⟨hsc,hfit⟩,hk⟩:=yG hk;have hsv:=(y9l hE i.ty (y6 (T:=g.T) h t x).1 (y6 (T:=g.T) h t x).2);obtain ⟨hvc,h1⟩:=y2n hsc hsv.1;have hs1:i.ty.size=1:=y2E (by simpa using hagg)
    have hW:=h.writeBox (off:=off) (svs:=[asFn g.E i.ty (y8 g.T t s x)]) (l:=[a.eval x]) hc hb hg hCR (λ sv hsv'=>by simp only[mem_singleton]at hsv';subst hsv';exact hsv.2) (yA.one hsv.1)
    have e1:cells.take off++[asFn g.E i.ty (y8 g.T t s x)]++cells.drop (off+[asFn g.E i.ty (y8 g.T t s x)].length)=cells.set off (asFn g.E i.ty (y8 g.T t s x)):=by
     rw[List.set_eq_take_append_cons_drop,if_pos hfit];simp
    rw[e1]at hW;refine Eff.skip (w':=_) ?_ ((hW.put o.dst (sv:=.undef) (v:=undef) trivial trivial).freezeIf g ad) hk;have hrun:=y0K (P:=P) hF (v:=a.eval x) (l:=[a.eval x]) (b:=b) (off:=off) (cur:=vs) (e:=e) hvc (by rw[hs1];rfl) (λ v hv=>by simp only[mem_singleton]at hv;subst hv;exact h1) hg (by simp only[List.length_singleton];omega)
    simp only[execOp,ho,Sem.run_bind,hav,hrun,Result.andThen_ok,Sem.run_pure]
  ·cases hk
 ·rename_i i β n sz off hi had;split at hk
  ·exact yAY hT h ho hi had hk
  have hF:=hT.fits hi;have hS:=h.settle (y8 g.T t s x);obtain ⟨b,hb,hav⟩:∃ b,(ρ β).blk=some b/\a.eval ad=.pointer (some ⟨b,n * sz+off,none⟩):=by
   have:=(y6 (T:=g.T) h 0 ad).1;rw[had]at this;exact this
  generalize s.settle (y8 g.T t s x)=s1 at hk hS;split at hk
  ·rename_i e u xs nn hch;have hc:=getD_some hch;obtain ⟨hsz,hk1⟩:=yG hk;clear hk;subst hsz;obtain ⟨y,hy,hk2⟩:=bind_eq_some_iff.1 hk1;obtain ⟨z,hz,hk3⟩:=bind_eq_some_iff.1 hk2;obtain ⟨y',hy',hk⟩:=bind_eq_some_iff.1 hk3;obtain ⟨l,h1,h2⟩:=y04 (y6 (T:=g.T) hS t x).1 hz;have hll:=h1.length;have hn:n < xs.length:=(List.getElem?_eq_some_iff.1 hy).1;obtain ⟨hxl,hnn,⟨hq,_⟩|⟨b',vs,hb',hg,hle,hm,hvs,hel⟩⟩:=(hS.cH β _ hc).1
   ·rw[hb]at hq;cases hq
   rw[hb]at hb';cases hb';have hrow:n * u.size+u.size<=vs.toList.length:=by
    have e1:vs.toList.length=vs.size:=Array.length_toList;have:(n+1) * u.size<=(ρ β).cap * u.size:=mul_le_mul_right _ (by omega)
    rw[succ_mul]at this;omega
   obtain ⟨h3,h4⟩:=y1n u y off i.ty z y' _ l (hel n y hy) h1 hy';have hu1:((vs.toList.drop (n * u.size)).take u.size).length=u.size:=by rw[length_take,length_drop];omega
   rw[hu1]at h3;have hrun:=y0K (P:=P) hF (v:=a.eval x) (l:=l) (b:=b) (off:=n * u.size+off) (cur:=vs) (e:=e) (by rw[h2];exact y0I h1) hll (λ v hv=>yV (Cells.plain h1 v hv)) hg (by
    have e1:vs.toList.length=vs.size:=Array.length_toList;omega)
   have hAb:Av A0 ρ s1.cH b:=.inr ⟨β,_,hc,hb⟩;have hfit:n * u.size+off+l.length<=vs.toList.length:=by omega
   have hW:=hS.write (w':=w.setRow b (vs.toList.take (n * u.size+off)++l++vs.toList.drop (n * u.size+off+l.length)).toArray) (ch':=.arr e u (xs.set n y') nn) hc hb (λ k hk=>setRow_other w b k _ hk) (y1H _ _ _) rfl rfl rfl trivial (λ A hA=>by
    have hK:Keep (Av A0 ρ s1.cH) w (w.setRow b (vs.toList.take (n * u.size+off)++l++vs.toList.drop (n * u.size+off+l.length)).toArray):=λ k hk hkA=>setRow_other w b k _ (λ e=>hkA (e ▸ hAb))
    have hA1:∀ k,k < w.heap.size->A k->Av A0 ρ s1.cH k:=λ k _ hk=>(hA k).1 hk
    refine ⟨by simpa using hxl,hnn,.inr ⟨b,_,hb,setRow_heap w b vs _ e _ hg,hle,hm,?_,λ j x hj=>?_⟩⟩
    ·have e1:vs.toList.length=vs.size:=Array.length_toList;simp only[size_toArray,length_append,length_take,length_drop];omega
    ·rw[toList_toArray];by_cases hnj:n=j
     ·subst hnj;rw[getElem?_set_self hn]at hj;cases hj;have e2:((vs.toList.take (n * u.size+off)++l++vs.toList.drop (n * u.size+off+l.length)).drop (n * u.size)).take u.size=((vs.toList.drop (n * u.size)).take u.size).take off++l++((vs.toList.drop (n * u.size)).take u.size).drop (off+l.length):=by
       apply ext_getElem?;intro k;have e3:=y17 (l:=(vs.toList.drop (n * u.size)).take u.size) (m:=l) (o:=off) (by rw[hu1];exact h3) k
       rw[y0H,e3];by_cases hk:k < u.size
       ·rw[if_pos hk,y17 hfit,y0H,if_pos hk];by_cases h5:k < off
        ·rw[if_pos h5,if_pos (by omega)]
        ·rw[if_neg h5,if_neg (by omega)]
         by_cases h6:k < off+l.length
         ·rw[if_pos h6,if_pos (by omega)]
          congr 1
          omega
         ·rw[if_neg h6,if_neg (by omega)]
       ·rw[if_neg hk,if_neg (by omega),if_neg (by omega),y0H,if_neg hk]
      rw[e2];exact h4.mono hK hA1
     ·rw[getElem?_set_ne hnj]at hj;have e2:((vs.toList.take (n * u.size+off)++l++vs.toList.drop (n * u.size+off+l.length)).drop (j * u.size)).take u.size=(vs.toList.drop (j * u.size)).take u.size:=by
       apply ext_getElem?;intro k;rw[y0H,y0H];split
       ·rename_i hk;rw[y17 hfit];rcases Nat.lt_or_gt_of_ne hnj with h|h
        ·have h5:(n+1) * u.size<=j * u.size:=mul_le_mul_right _ h;rw[succ_mul]at h5;rw[if_neg (by omega),if_neg (by omega)]
        ·have h5:(j+1) * u.size<=n * u.size:=mul_le_mul_right _ h;rw[succ_mul]at h5;rw[if_pos (by omega)]
       ·rfl
      rw[e2];exact (hel j x hj).mono hK hA1)
   refine Eff.skip (w':=_) ?_ (hW.put o.dst (sv:=.undef) (v:=undef) trivial trivial) hk;simp only[execOp,ho,Sem.run_bind,hav,hrun,Result.andThen_ok,Sem.run_pure]
  ·rename_i e u q e' v xs hch;have hc:=getD_some hch;obtain ⟨hsz,hk1⟩:=yG hk;clear hk;subst hsz;obtain ⟨y,hy,hk2⟩:=bind_eq_some_iff.1 hk1;obtain ⟨z,hz,hk3⟩:=bind_eq_some_iff.1 hk2;obtain ⟨y',hy',hk⟩:=bind_eq_some_iff.1 hk3;obtain ⟨l,h1,h2⟩:=y04 (y6 (T:=g.T) hS t x).1 hz;have hll:=h1.length;have hn:n < xs.length:=(List.getElem?_eq_some_iff.1 hy).1;obtain ⟨⟨hxl,hsb,hnl⟩,hdis,⟨hq,_⟩|⟨b',vs,hb',hg,hle,hm,hvs,hel⟩⟩:=(hS.cH β _ hc).1
   ·rw[hb]at hq;cases hq
   rw[hb]at hb';cases hb';have hrow:n * u.size+u.size<=vs.toList.length:=by
    have e1:vs.toList.length=vs.size:=Array.length_toList;have:(n+1) * u.size<=(ρ β).cap * u.size:=mul_le_mul_right _ (by omega)
    rw[succ_mul]at this;omega
   obtain ⟨nq,hnq,hN⟩:=hel n y hy;obtain ⟨h3,h4⟩:=hN.store hy' h1;have hu1:((vs.toList.drop (n * u.size)).take u.size).length=u.size:=by rw[length_take,length_drop];omega
   rw[hu1]at h3;have e1:vs.toList.length=vs.size:=Array.length_toList;have hrun:=y0K (P:=P) hF (v:=a.eval x) (l:=l) (b:=b) (off:=n * u.size+off) (cur:=vs) (e:=e) (by rw[h2];exact y0I h1) hll (λ v hv=>yV (Cells.plain h1 v hv)) hg (by omega)
   have hAb:Av A0 ρ s1.cH b:=.inr ⟨β,_,hc,hb⟩;have hW:=hS.write (w':=w.setRow b (vs.toList.take (n * u.size+off)++l++vs.toList.drop (n * u.size+off+l.length)).toArray) (ch':=.nst e u q e' v (xs.set n y')) hc hb (λ k hk=>setRow_other w b k _ hk) (y1H _ _ _) rfl rfl rfl trivial (λ A hA=>by
    have hK:Keep (Av A0 ρ s1.cH) w (w.setRow b (vs.toList.take (n * u.size+off)++l++vs.toList.drop (n * u.size+off+l.length)).toArray):=λ k hk hkA=>setRow_other w b k _ (λ e=>hkA (e ▸ hAb))
    have hA1:∀ k,k < w.heap.size->A k->Av A0 ρ s1.cH k:=λ k _ hk=>(hA k).1 hk
    have hsubs:∀ (j:Nat) (m:Option Nat×Nat×Nat),(ρ β).ns[j]?=some m->∀ k,m.1=some k->k < w.heap.size->(w.setRow b (vs.toList.take (n * u.size+off)++l++vs.toList.drop (n * u.size+off+l.length)).toArray).heap[k]?=w.heap[k]?:=λ j m hj k hk _=>by
     refine setRow_other w b k _ λ e=>?_
     subst e;refine hS.subs.apart β β _ _ k hc hc ?_ hb;rw[hsb,<- hk];exact mem_map.2 ⟨m,mem_of_getElem? hj,rfl⟩
    refine ⟨⟨by simpa using hxl,hsb,by simpa using hnl⟩,hdis,.inr ⟨b,_,hb,setRow_heap w b vs _ e _ hg,hle,hm,?_,λ j x hj=>?_⟩⟩
    ·simp only[size_toArray,length_append,length_take,length_drop];omega
    ·rw[toList_toArray];by_cases hnj:n=j
     ·subst hnj;rw[getElem?_set_self hn]at hj;cases hj;rw[yFQ h3 hrow];exact ⟨nq,hnq,h4.frame (hsubs n nq hnq) hK hA1⟩
     ·rw[getElem?_set_ne hnj]at hj;obtain ⟨m,h5,h6⟩:=hel j x hj;rw[yDG h3 hrow hnj];exact ⟨m,h5,h6.frame (hsubs j m h5) hK hA1⟩)
   refine Eff.skip (w':=_) ?_ (hW.put o.dst (sv:=.undef) (v:=undef) trivial trivial) hk;simp only[execOp,ho,Sem.run_bind,hav,hrun,Result.andThen_ok,Sem.run_pure]
  ·cases hk
 ·rename_i i β n j sz off hi had;have hF:=hT.fits hi;have hS:=h.settle (y8 g.T t s x);obtain ⟨nq,b,hnq,hb,hav⟩:∃ q b,(ρ β).ns[n]?=some q/\q.1=some b/\a.eval ad=.pointer (some ⟨b,j * sz+off,none⟩):=by
   have:=(y6 (T:=g.T) h 0 ad).1;rw[had]at this;exact this
  generalize s.settle (y8 g.T t s x)=s1 at hk hS;split at hk
  ·rename_i e u q e' v xs hch;have hc:=getD_some hch;obtain ⟨hsz,hk1⟩:=yG hk;clear hk;subst hsz;obtain ⟨y,hy,hk2⟩:=bind_eq_some_iff.1 hk1;obtain ⟨ys,hys,hk3⟩:=bind_eq_some_iff.1 hk2;obtain ⟨z0,hz0,hk4⟩:=bind_eq_some_iff.1 hk3;obtain ⟨z,hz,hk5⟩:=bind_eq_some_iff.1 hk4;obtain ⟨z',hz',hk6⟩:=bind_eq_some_iff.1 hk5;obtain ⟨y',hy',hk⟩:=bind_eq_some_iff.1 hk6;obtain ⟨l,h1,h2⟩:=y04 (y6 (T:=g.T) hS t x).1 hz;have hll:=h1.length;have hn:n < xs.length:=(List.getElem?_eq_some_iff.1 hy).1;have hst:=(hS.cH β _ hc).1;obtain ⟨bo,nq2,lrow,hbo,hnq2,_,hN0⟩:=y6Y hst hy;obtain ⟨⟨hxl,hsb,hnl⟩,hdis,hrest⟩:=hst;rw[hnq]at hnq2;cases hnq2;have hbs:some b∈(ρ β).subs:=by
    rw[hsb,<- hb];exact mem_map.2 ⟨nq,mem_of_getElem? hnq,rfl⟩
   obtain ⟨ys',hys',_,_,hlen,hsr⟩:=hN0.comp;rw[hys]at hys';cases hys';obtain ⟨b2,hb2,vs,hg,hle,hm,hvs,_,hz1⟩:=hsr.at hz0;rw[hb]at hb2;cases hb2;have hjl:=(List.getElem?_eq_some_iff.1 hz0).1;have e1:vs.toList.length=vs.size:=Array.length_toList;have hrow:j * v.size+v.size<=vs.toList.length:=by
    have:(j+1) * v.size<=nq.2.2 * v.size:=mul_le_mul_right _ (by omega)
    rw[succ_mul]at this;omega
   obtain ⟨h3,h4⟩:=y1n v z0 off i.ty z z' _ l hz1 h1 hz';have hu1:((vs.toList.drop (j * v.size)).take v.size).length=v.size:=by rw[length_take,length_drop];omega
   rw[hu1]at h3;have hrun:=y0K (P:=P) hF (v:=a.eval x) (l:=l) (b:=b) (off:=j * v.size+off) (cur:=vs) (e:=e') (by rw[h2];exact y0I h1) hll (λ v hv=>yV (Cells.plain h1 v hv)) hg (by omega)
   have hAb:Av A0 ρ s1.cH b:=.inl (.inr ⟨β,_,hc,hbs⟩);have hW:=hS.writeSub (w':=w.setRow b (vs.toList.take (j * v.size+off)++l++vs.toList.drop (j * v.size+off+l.length)).toArray) (ch':=.nst e u q e' v (xs.set n y')) hc hbs (λ k hk=>setRow_other w b k _ hk) (y1H _ _ _) rfl rfl rfl trivial (λ A hA=>by
    have hK:Keep (Av A0 ρ s1.cH) w (w.setRow b (vs.toList.take (j * v.size+off)++l++vs.toList.drop (j * v.size+off+l.length)).toArray):=λ k hk hkA=>setRow_other w b k _ (λ e=>hkA (e ▸ hAb))
    have hA1:∀ k,k < w.heap.size->A k->Av A0 ρ s1.cH k:=λ k _ hk=>(hA k).1 hk
    refine ⟨⟨by simpa using hxl,hsb,by simpa using hnl⟩,hdis,?_⟩
    rcases hrest with ⟨a1,_⟩|⟨b',vs',hb',hg',hle',hm',hvs',hel⟩
    ·rw[hbo]at a1;cases a1
    have hbb:b'≠b:=λ e=>hS.subs.apart β β _ _ b hc hc hbs (e ▸ hb')
    refine .inr ⟨b',vs',hb',(setRow_other w b b' _ hbb).trans hg',hle',hm',hvs',λ k x hk=>?_⟩
    by_cases hnk:n=k
    ·subst hnk;rw[getElem?_set_self hn]at hk;cases hk;obtain ⟨m,hm1,x0,l0,ys2,g1,g2,g3,g4,g5⟩:=hel n y hy;rw[hnq]at hm1;cases hm1;have g6:=yAF _ _ _ _ _ _ g2;rw[hys]at g6;cases g6;refine ⟨nq,hnq,x0,l0,ys.set j z',g1.mono hK hA1,yDO g2 hy',g3,by simpa using g4,?_⟩
     refine ⟨nq.2.2,by simp[g4],.inr ⟨b,_,hb,setRow_heap w b vs _ e' _ hg,by simpa using hle,hm,?_,λ k x hk=>?_⟩⟩
     ·simp only[size_toArray,length_append,length_take,length_drop];omega
     ·rw[toList_toArray];by_cases hjk:j=k
      ·subst hjk;rw[getElem?_set_self hjl]at hk;cases hk;rw[yFQ h3 hrow];exact h4.mono hK hA1
      ·rw[getElem?_set_ne hjk]at hk;rw[yDG h3 hrow hjk];obtain ⟨cap,g7,⟨_,g8,_⟩|⟨m',vs2,g8,g9,_,_,_,g10⟩⟩:=hsr
       ·omega
       ·rw[hb]at g8;cases g8;rw[hg]at g9;cases g9;exact (g10 k x hk).mono hK hA1
    ·rw[getElem?_set_ne hnk]at hk;obtain ⟨m,hm1,hm2⟩:=hel k x hk;refine ⟨m,hm1,hm2.frame (λ c hc1 _=>setRow_other w b c _ λ e=>?_) hK hA1⟩
     subst e;have q1:(ρ β).subs[k]?=some (some c):=by rw[hsb,getElem?_map,hm1,<- hc1];rfl
     have q2:(ρ β).subs[n]?=some (some c):=by rw[hsb,getElem?_map,hnq,<- hb];rfl
     exact hnk (hdis n k c q2 q1))
   refine Eff.skip (w':=_) ?_ (hW.put o.dst (sv:=.undef) (v:=undef) trivial trivial) hk;simp only[execOp,ho,Sem.run_bind,hav,hrun,Result.andThen_ok,Sem.run_pure]
  ·cases hk
 ·cases hk
end
end Go.Vx
end
section
namespace Go.Vx
open Go.RowKit
variable [GT]
section
variable {P:Program} {A0:Nat->Prop} {w0:Base} {ρ:Places} {s:St} {a:Act} {w w':World} {g:G} {R:Type} {K:St->Option R} {r:R} {o:Oper}
theorem y2D{t t' ty e:TypeId}{i:TypeInfo}(ht:P.underlying t=some (.slice e))(hi:P.info? e=some i){p q:Option Addr}{n c m c':Nat}(hn:min m n=0) :
  (Builtin.copy_ #[t,t'] ty #[.slice p n c,.slice q m c']).run P w=.ok (.int .i64 0) w:=by
 cases p<;>cases q<;>simp[Builtin.copy_,run_underlying ht,sizeOf,typeInfo,hi,Builtin.lenOf,Builtin.firstCells,hn,storeCells,loadCells,loadCellsFrom,goInt]
theorem yIk{t t' ty e:TypeId}{i:TypeInfo}(ht:P.underlying t=some (.slice e))(hi:P.info? e=some i){b n c m c' k:Nat}{ad:Addr}{cs:List Value}{cur:Array Value}{e':TypeId}
  (hk:min m n=k) (hl:cs.length=k * i.size) (hc:∀ j v,cs[j]?=some v->w.cell? (ad.add j)=some v) (h1:∀ v∈cs,v.oneCell'=true) (hg:w.heap[b]?=some (.cells cur e' (0,0))) (hfit:cs.length<=cur.size) :
  (Builtin.copy_ #[t,t'] ty #[.slice (some ⟨b,0,none⟩) n c,.slice (some ad) m c']).run P w=.ok (.int .i64 (k:Int)) (w.setRow b (cs++cur.toList.drop cs.length).toArray):=by
 have hf:=run_firstCells_some (P:=P) w i.size k ad m c' cs hl hc;have hst:=run_storeCells_at P b 0 e' cs 0 cur w hg (by simpa using hfit) h1
 simp only[Nat.zero_add,List.take_zero,nil_append]at hst;simp[Builtin.copy_,run_underlying ht,sizeOf,typeInfo,hi,Builtin.lenOf,hk,hf,hst,goInt]
theorem yH2{t t' ty e:TypeId}{i:TypeInfo}(ht:P.underlying t=some (.slice e))(hi:P.info? e=some i){b off n c m c' k:Nat}{ad:Addr}{cs:List Value}{cur:Array Value}{e':TypeId}
  (hk:min m n=k) (hl:cs.length=k * i.size) (hc:∀ j v,cs[j]?=some v->w.cell? (ad.add j)=some v) (h1:∀ v∈cs,v.oneCell'=true) (hg:w.heap[b]?=some (.cells cur e' (0,0))) (hfit:off+cs.length<=cur.size) :
  (Builtin.copy_ #[t,t'] ty #[.slice (some ⟨b,off,none⟩) n c,.slice (some ad) m c']).run P w=.ok (.int .i64 (k:Int)) (w.setRow b (cur.toList.take off++cs++cur.toList.drop (off+cs.length)).toArray):=by
 have hf:=run_firstCells_some (P:=P) w i.size k ad m c' cs hl hc;have hst:=run_storeCells_at P b off e' cs 0 cur w hg (by simpa using hfit) h1
 simp only[Nat.add_zero]at hst;simp[Builtin.copy_,run_underlying ht,sizeOf,typeInfo,hi,Builtin.lenOf,hk,hf,hst,goInt]
theorem y9C(hT:yc P g.T)(h:Rel P A0 w0 ρ s a w){args:Array Operand}{ts:Array TypeId}(ho:o.op=.call { callee:=.builtin .copy,args,argTypes:=ts }){b x:Operand}{t t':TypeId}(hargs:args.toList=[b,x])(hts:ts.toList=[t,t'])
  {i:TyI} {β n:Nat} (hi:yN g.T t=some i) (hb:y8 g.T 0 s b=.nO β n) (hk:yCx s o i β n (y8 g.T t' s x) K=some r):Eff P A0 w0 a w o K r:=by
 obtain ⟨nq,hnq,hbv⟩:∃ q,(ρ β).ns[n]?=some q/\a.eval b=.slice (q.1.map λ b=>⟨b,0,none⟩) q.2.1 q.2.2:=by
  have:=(y6 (T:=g.T) h 0 b).1;rw[hb]at this;exact this
 unfold yCx at hk;cases hk
theorem yAk(hT:yc P g.T)(h:Rel P A0 w0 ρ s a w){args:Array Operand}{ts:Array TypeId}(ho:o.op=.call { callee:=.builtin .copy,args,argTypes:=ts })
  (hk:effK g s o K=some r):Eff P A0 w0 a w o K r:=by
 simp only[effK,ho]at hk;split at hk
 ·rename_i b x t t' hargs hts;have hS:=h.settle (y8 g.T t' s x);generalize s.settle (y8 g.T t' s x)=s1 at hk hS;split at hk
  ·rename_i i β hi hb;split at hk
   ·rename_i e u xs nn hch;obtain ⟨hty,hk1⟩:=yG hk;clear hk;obtain ⟨ys,hy,hk⟩:=bind_eq_some_iff.1 hk1;have hc:=getD_some hch;obtain ⟨hu,hF,hs0⟩:=yM (hT.shape hi) (.inl hty);obtain ⟨inf,d,f1,f2,f3,f4,f5,f6⟩:=hF.ex;obtain ⟨l,h1,h2⟩:=y04 (y6 (T:=g.T) hS t' x).1 hy;have hbv:a.eval b=.slice ((ρ β).blk.map λ b=>⟨b,0,none⟩) (ρ β).len (ρ β).cap:=by
     have:=(y6 (T:=g.T) hS 0 b).1;rw[hb]at this;exact this
    have hwhere:=yKN hargs;have hts':=yIc hts;subst hwhere hts';have hrun:(execOp a.eval o).run P w=Result.andThen ((Builtin.copy_ #[t,t'] o.type #[a.eval b,a.eval x]).run P w) λ v w'=>.ok (.value v) w':=by
     simp[execOp,ho,resolve,invoke,builtin]
    have hav:a.eval x=(Ty.slice u).wrap l:=h2;obtain ⟨hxl,hnn,hch1⟩:=(hS.cH β _ hc).1;have hset:s1.cH.set β (some (Chunk.arr e u xs nn))=s1.cH:=by
     apply ext_getElem?;intro j;by_cases hj:β=j
     ·subst hj;rw[getElem?_set_self (List.getElem?_eq_some_iff.1 hc).1,hc]
     ·rw[getElem?_set_ne hj]
    have none:(ys:List u.den).take xs.length++xs.drop (List.length ys)=xs->min (List.length ys) xs.length=0->(Builtin.copy_ #[t,t'] o.type #[a.eval b,a.eval x]).run P w=.ok (.int .i64 0) w->Eff P A0 w0 a w o K r:=by
     intro e1 e2 hr;rw[e1,hset,e2]at hk;exact Eff.val (by rw[hrun,hr];rfl) (hS.put o.dst (sv:=.val (.int .i64) ((0:Nat):Int)) trivial (y2p .i64 0)) hk
    rcases y02 h1 with ⟨rfl,p,c,rfl⟩|⟨b1,off,c,m,rfl,hm1,hm2⟩
    ·refine none (by simp) (by simp) ?_
     rw[hbv,hav];exact y2D hu f1 (by simp)
    ·rcases hch1 with ⟨q0,q1,q2⟩|⟨b0,vs,hb0,hg,hle,hcm,hvs,hel⟩
     ·have hx:xs=[]:=List.eq_nil_of_length_eq_zero (by omega)
      subst hx;refine none (by simp) (by simp) ?_
      rw[hbv,hav,q1];exact y2D hu f1 (by simp)
     ·have hml:=hm2.length;have e0:vs.toList.length=vs.size:=Array.length_toList;generalize hkk:min (List.length ys) xs.length=k at hk;have hmk:k * u.size<=m.length:=by rw[hml];exact mul_le_mul_right _ (by omega)
      have hvk:k * u.size<=vs.size:=by rw[hvs];exact mul_le_mul_right _ (by omega)
      have hcl:(m.take (k * u.size)).length=k * u.size:=by rw[length_take];omega
      have hr:=yIk (P:=P) (w:=w) (t:=t) (t':=t') (ty:=o.type) hu f1 (b:=b0) (n:=(ρ β).len) (c:=(ρ β).cap) (m:=List.length ys) (c':=c) (k:=k) (ad:=⟨b1,off,Option.none⟩) (cs:=m.take (k * u.size)) (cur:=vs) (e':=e)
       (by omega) (by rw[hcl,f3]) (λ j v hj=>by
        rw[yu];rw[getElem?_take]at hj;split at hj
        ·exact hm1 j v hj
        ·cases hj) (λ v hv=>yV (Cells.plain hm2 v (List.mem_of_mem_take hv))) hg (by omega)
      rw[hcl]at hr;have hAb:Av A0 ρ s1.cH b0:=.inr ⟨β,_,hc,hb0⟩;have hxs':((ys:List u.den).take xs.length++xs.drop (List.length ys)).length=xs.length:=by simp;omega
      have hW:=hS.write (w':=w.setRow b0 (m.take (k * u.size)++vs.toList.drop (k * u.size)).toArray) (ch':=.arr e u ((ys:List u.den).take xs.length++xs.drop (List.length ys)) nn) hc hb0
       (λ k hk=>setRow_other w b0 k _ hk) (y1H _ _ _) rfl rfl rfl trivial (λ A hA=>by
        have hK:Keep (Av A0 ρ s1.cH) w (w.setRow b0 (m.take (k * u.size)++vs.toList.drop (k * u.size)).toArray):=λ k hk hkA=>setRow_other w b0 k _ (λ e=>hkA (e ▸ hAb))
        have hA1:∀ k,k < w.heap.size->A k->Av A0 ρ s1.cH k:=λ k _ hk=>(hA k).1 hk
        refine ⟨hxs'.trans hxl,hnn,.inr ⟨b0,_,hb0,setRow_heap w b0 vs _ e _ hg,hle,hcm,?_,λ j x hj=>?_⟩⟩
        ·simp only[size_toArray,length_append,length_drop,hcl];omega
        ·rw[toList_toArray];simp only[Cells]at hm2;have hml2:m.length=List.length ys * u.size:=hml;rcases lt_or_ge j k with hjk|hjk
         ·have hjk':j * u.size+u.size<=k * u.size:=by rw[<- succ_mul];exact mul_le_mul_right _ hjk
          rw[List.drop_append_of_le_length (by omega),List.take_append_of_le_length (by rw[length_drop];omega),drop_take,take_take,min_eq_left (by omega)]
          have hyj:(ys:List u.den)[j]?=some x:=by
           rw[getElem?_append_left (by rw[length_take];omega),getElem?_take,if_pos (by omega)]at hj
           exact hj
          exact (hm2.2.2 j x hyj).mono hK hA1
         ·have hjk':k * u.size<=j * u.size:=mul_le_mul_right _ hjk;have hjx:j < xs.length:=by rw[<- hxs'];exact (List.getElem?_eq_some_iff.1 hj).1
          have hyk:List.length ys=k:=by omega
          have e5:(m.take (k * u.size)++vs.toList.drop (k * u.size)).drop (j * u.size)=vs.toList.drop (j * u.size):=by
           rw[drop_append,List.drop_eq_nil_of_le (as:=m.take (k * u.size)) (by omega),nil_append,List.drop_drop,hcl]
           congr 1
           omega
          rw[e5];have hxj:xs[j]?=some x:=by
           rw[List.getElem?_append_right (by rw[length_take];omega),getElem?_drop]at hj
           rw[length_take]at hj;rw[<- hj];congr 1
           omega
          exact (hel j x hxj).mono hK hA1)
      refine Eff.val (v:=.int .i64 (k:Int)) ?_ (hW.put o.dst (sv:=.val (.int .i64) ((k:Nat):Int)) trivial (y2p .i64 _)) hk;rw[hrun,hbv,hav,hb0];rw[show Option.map (λ b=>(⟨b,0,Option.none⟩:Addr)) (some b0)=some ⟨b0,0,Option.none⟩from rfl]
      rw[show (Ty.slice u).wrap [Value.slice (some ⟨b1,off,Option.none⟩) (List.length ys) c]=Value.slice (some ⟨b1,off,Option.none⟩) (List.length ys) c from rfl]
      rw[hr];rfl
   ·cases hk
  ·rename_i i β m hi hb;exact y9C hT hS ho hargs hts hi hb hk
  ·rename_i i β n sz hi hb;split at hk
   ·rename_i e u xs nn hch;obtain ⟨⟨hty,hsz⟩,hk1⟩:=yG hk;clear hk;subst hsz;obtain ⟨ys,hy,hk⟩:=bind_eq_some_iff.1 hk1;have hc:=getD_some hch;obtain ⟨hu,hF,hs0⟩:=yM (hT.shape hi) (.inl hty);obtain ⟨inf,d,f1,f2,f3,f4,f5,f6⟩:=hF.ex;obtain ⟨l,h1,h2⟩:=y04 (y6 (T:=g.T) hS t' x).1 hy;have hbv:a.eval b=.slice (if (ρ β).cap=n then (ρ β).blk.map λ b=>⟨b,0,none⟩else (ρ β).blk.map λ b=>⟨b,n * u.size,none⟩) ((ρ β).len - n) ((ρ β).cap - n):=by
     have:=(y6 (T:=g.T) hS 0 b).1;rw[hb]at this;exact this
    have hwhere:=yKN hargs;have hts':=yIc hts;subst hwhere hts';have hrun:(execOp a.eval o).run P w=Result.andThen ((Builtin.copy_ #[t,t'] o.type #[a.eval b,a.eval x]).run P w) λ v w'=>.ok (.value v) w':=by
     simp[execOp,ho,resolve,invoke,builtin]
    have hav:a.eval x=(Ty.slice u).wrap l:=h2;obtain ⟨hxl,hnn,hch1⟩:=(hS.cH β _ hc).1;generalize hkk:min (List.length ys) (xs.length - n)=k at hk;have etk:(ys:List u.den).take (xs.length - n)=(ys:List u.den).take k:=by
     rw[<- hkk];rcases Nat.le_total (List.length ys) (xs.length - n)with hle|hle
     ·rw[min_eq_left hle,List.take_of_length_le hle,List.take_of_length_le (le_refl _)]
     ·rw[Nat.min_eq_right hle]
    rw[etk]at hk;rcases Nat.eq_zero_or_pos k with hk0|hk0
    ·subst hk0;have hset:s1.cH.set β (some (Chunk.arr e u xs nn))=s1.cH:=by
      apply ext_getElem?;intro j;by_cases hj:β=j
      ·subst hj;rw[getElem?_set_self (List.getElem?_eq_some_iff.1 hc).1,hc]
      ·rw[getElem?_set_ne hj]
     rw[show xs.take n++(ys:List u.den).take 0++xs.drop (n+0)=xs by simp,hset]at hk
     have hr:(Builtin.copy_ #[t,t'] o.type #[a.eval b,a.eval x]).run P w=.ok (.int .i64 0) w:=by
      rcases y02 h1 with ⟨rfl,p,c,rfl⟩|⟨b1,off,c,m,rfl,hm1,hm2⟩
      ·rw[hbv,hav];exact y2D hu f1 (by simp)
      ·rw[hbv,hav];exact y2D hu f1 (by omega)
     exact Eff.val (by rw[hrun,hr];rfl) (hS.put o.dst (sv:=.val (.int .i64) ((0:Nat):Int)) trivial (y2p .i64 0)) hk
    ·rcases y02 h1 with ⟨rfl,p,c,rfl⟩|⟨b1,off,c,m,rfl,hm1,hm2⟩
     ·simp at hkk;omega
     rcases hch1 with ⟨q0,q1,q2⟩|⟨b0,vs,hb0,hg,hle,hcm,hvs,hel⟩
     ·omega
     have hml:=hm2.length;have hml2:m.length=List.length ys * u.size:=hml;have e0:vs.toList.length=vs.size:=Array.length_toList;have hcl:(m.take (k * u.size)).length=k * u.size:=by
      have:k * u.size<=m.length:=by rw[hml2];exact mul_le_mul_right _ (by omega)
      rw[length_take];omega
     have hnk:n+k<=xs.length:=by omega
     have hfit:n * u.size+k * u.size<=vs.toList.length:=by
      rw[e0,hvs,<- add_mul];exact mul_le_mul_right _ (by omega)
     have hr:=yH2 (P:=P) (w:=w) (t:=t) (t':=t') (ty:=o.type) hu f1 (b:=b0) (off:=n * u.size) (n:=(ρ β).len - n) (c:=(ρ β).cap - n) (m:=List.length ys) (c':=c) (k:=k) (ad:=⟨b1,off,Option.none⟩) (cs:=m.take (k * u.size)) (cur:=vs) (e':=e)
      (by omega) (by rw[hcl,f3]) (λ j v hj=>by
       rw[yu];rw[getElem?_take]at hj;split at hj
       ·exact hm1 j v hj
       ·cases hj) (λ v hv=>yV (Cells.plain hm2 v (List.mem_of_mem_take hv))) hg (by rw[hcl];omega)
     rw[hcl]at hr;have hAb:Av A0 ρ s1.cH b0:=.inr ⟨β,_,hc,hb0⟩;have hxs':(xs.take n++(ys:List u.den).take k++xs.drop (n+k)).length=xs.length:=by
      simp only[length_append,length_take,length_drop];omega
     have hW:=hS.write (w':=w.setRow b0 (vs.toList.take (n * u.size)++m.take (k * u.size)++vs.toList.drop (n * u.size+k * u.size)).toArray) (ch':=.arr e u (xs.take n++(ys:List u.den).take k++xs.drop (n+k)) nn) hc hb0
      (λ k hk=>setRow_other w b0 k _ hk) (y1H _ _ _) rfl rfl rfl trivial (λ A hA=>by
       have hK:Keep (Av A0 ρ s1.cH) w (w.setRow b0 (vs.toList.take (n * u.size)++m.take (k * u.size)++vs.toList.drop (n * u.size+k * u.size)).toArray):=λ k hk hkA=>setRow_other w b0 k _ (λ e=>hkA (e ▸ hAb))
       have hA1:∀ k,k < w.heap.size->A k->Av A0 ρ s1.cH k:=λ k _ hk=>(hA k).1 hk
       refine ⟨hxs'.trans hxl,hnn,.inr ⟨b0,_,hb0,setRow_heap w b0 vs _ e _ hg,hle,hcm,?_,λ j x hj=>?_⟩⟩
       ·simp only[size_toArray,length_append,length_take,length_drop,hcl];omega
       ·rw[toList_toArray];simp only[Cells]at hm2;have hw:=y17 (l:=vs.toList) (m:=m.take (k * u.size)) (o:=n * u.size) (by rw[hcl];exact hfit)
        rw[hcl]at hw;have hx2:(ys:List u.den).length=List.length ys:=rfl;rcases lt_or_ge j n with hjn|hjn
        ·have h5:(j+1) * u.size<=n * u.size:=mul_le_mul_right _ hjn;rw[succ_mul]at h5;have e5:((vs.toList.take (n * u.size)++m.take (k * u.size)++vs.toList.drop (n * u.size+k * u.size)).drop (j * u.size)).take u.size=(vs.toList.drop (j * u.size)).take u.size:=by
          apply ext_getElem?;intro q;rw[y0H,y0H];split
          ·rw[hw,if_pos (by omega)]
          ·rfl
         rw[e5];have hxj:xs[j]?=some x:=by
          rw[List.append_assoc,getElem?_append_left (by rw[length_take];omega),getElem?_take,if_pos hjn]at hj
          exact hj
         exact (hel j x hxj).mono hK hA1
        ·rcases lt_or_ge j (n+k)with hjk|hjk
         ·have h5:n * u.size<=j * u.size:=mul_le_mul_right _ hjn;have h6:(j+1) * u.size<=(n+k) * u.size:=mul_le_mul_right _ hjk;rw[succ_mul,add_mul]at h6;have h7:(j - n) * u.size=j * u.size - n * u.size:=Nat.sub_mul ..;have e5:((vs.toList.take (n * u.size)++m.take (k * u.size)++vs.toList.drop (n * u.size+k * u.size)).drop (j * u.size)).take u.size=(m.drop ((j - n) * u.size)).take u.size:=by
           apply ext_getElem?;intro q;rw[y0H,y0H];split
           ·rw[hw,if_neg (by omega),if_pos (by omega),getElem?_take,if_pos (by omega)]
            congr 1
            omega
           ·rfl
          rw[e5];have hyj:(ys:List u.den)[j - n]?=some x:=by
           have hln:(xs.take n).length=n:=by rw[length_take];omega
           rw[List.append_assoc,List.getElem?_append_right (by omega),hln,getElem?_append_left (by rw[length_take];omega),getElem?_take,if_pos (by omega)]at hj
           exact hj
          exact (hm2.2.2 (j - n) x hyj).mono hK hA1
         ·have h5:(n+k) * u.size<=j * u.size:=mul_le_mul_right _ hjk;rw[add_mul]at h5;have e5:((vs.toList.take (n * u.size)++m.take (k * u.size)++vs.toList.drop (n * u.size+k * u.size)).drop (j * u.size)).take u.size=(vs.toList.drop (j * u.size)).take u.size:=by
           apply ext_getElem?;intro q;rw[y0H,y0H];split
           ·rw[hw,if_neg (by omega),if_neg (by omega)]
           ·rfl
          rw[e5];have hxj:xs[j]?=some x:=by
           have hln:(xs.take n++(ys:List u.den).take k).length=n+k:=by rw[length_append,length_take,length_take];omega
           rw[List.getElem?_append_right (by omega),hln,getElem?_drop]at hj
           rw[<- hj];congr 1
           omega
          exact (hel j x hxj).mono hK hA1)
     refine Eff.val (v:=.int .i64 (k:Int)) ?_ (hW.put o.dst (sv:=.val (.int .i64) ((k:Nat):Int)) trivial (y2p .i64 _)) hk;rw[hrun,hbv,hav,hb0,if_neg (by omega)]
     rw[show Option.map (λ b=>(⟨b,n * u.size,Option.none⟩:Addr)) (some b0)=some ⟨b0,n * u.size,Option.none⟩from rfl]
     rw[show (Ty.slice u).wrap [Value.slice (some ⟨b1,off,Option.none⟩) (List.length ys) c]=Value.slice (some ⟨b1,off,Option.none⟩) (List.length ys) c from rfl]
     rw[hr];rfl
   ·cases hk
  ·cases hk
 ·cases hk
theorem yCb(hT:yc P g.T)(h:Rel P A0 w0 ρ s a w){t:TypeId}{x lo:Operand}(ho:o.op=.slice t x (some lo) none none)(hk:effK g s o K=some r):Eff P A0 w0 a w o K r:=by
 simp only[effK,ho]at hk;split at hk
 ·rename_i i β kd n hi hx hlo;split at hk
  ·rename_i e u xs nn hch;obtain ⟨hel,hk1⟩:=yG hk;clear hk;cases hb:(decide (0<=n) && decide (n<=(List.length xs:Int)))with
   |false=>rw[hb]at hk1;cases hk1
   |true =>
    rw[hb,cond_true]at hk1;simp only[and_eq_true,decide_eq_true_eq]at hb;obtain ⟨h0,h1⟩:=hb;have hc:=getD_some hch;obtain ⟨hu,hF,_⟩:=yM (hT.shape hi) (y1z hel);have hxv:a.eval x=.slice ((ρ β).blk.map λ b=>⟨b,0,none⟩) (ρ β).len (ρ β).cap:=by
     have:=(y6 (T:=g.T) h t x).1;rw[hx]at this;exact this
    have hin:β < s.cH.length:=by
     have:=(y6 (T:=g.T) h t x).2;rw[hx]at this;exact this
    have hlv:a.eval lo=.int kd n:=by
     have:=(y6 (T:=g.T) h 0 lo).1;rw[hlo]at this;exact yh this
    obtain ⟨hxl,_,hch1⟩:=(h.cH β _ hc).1;have hle:(ρ β).len<=(ρ β).cap:=by
     rcases hch1 with ⟨_,q1,q2⟩|⟨b0,vs,_,_,hle,_⟩
     ·omega
     ·exact hle
    have hbs:=y0Z (P:=P) (w:=w) (a:=a) (sl:=true) (len:=(ρ β).len) (cap:=(ρ β).cap) (lo:=some lo) (hi:=none) (l:=some n) (h:=none) (x:=n.toNat) (y:=(ρ β).len) (.inr ⟨lo,n,kd,rfl,rfl,hlv⟩) (.inl ⟨rfl,rfl⟩)
     (.inr ⟨n,rfl,h0,rfl,hxl ▸ h1⟩) (.inl ⟨rfl,rfl⟩) hle
    have hrun:=y1a (P:=P) (w:=w) (t:=t) (p:=(ρ β).blk.map λ b=>⟨b,0,none⟩) hu hF hbs
    have hex:execOp a.eval o=(do pure (.value (<- Instr.sliceAt t (a.eval x) ((some lo).map a.eval) ((none:Option Operand).map a.eval) none))):=by simp only[execOp,ho,map_none]
    refine Eff.val (w':=w) (v:=.slice (if (ρ β).cap=n.toNat then (ρ β).blk.map λ b=>⟨b,0,none⟩else (ρ β).blk.map λ b=>⟨b,n.toNat * u.size,none⟩) ((ρ β).len - n.toNat) ((ρ β).cap - n.toNat)) ?_ (h.put o.dst (sv:=.oS β n.toNat u.size) hin rfl) hk1
    have e1:(if (ρ β).cap=n.toNat then (ρ β).blk.map (λ b=>(⟨b,0,none⟩:Addr))else ((ρ β).blk.map λ b=>(⟨b,0,none⟩:Addr)).map (·.add (n.toNat * u.size))) =
      if (ρ β).cap=n.toNat then (ρ β).blk.map (λ b=>(⟨b,0,none⟩:Addr))else (ρ β).blk.map λ b=>(⟨b,n.toNat * u.size,none⟩:Addr):=by
     cases (ρ β).blk with
     |none=>rfl
     |some b=>simp[yu]
    rw[e1]at hrun;rw[hex,hxv];simp only[map_some,map_none]at hrun ⊢;simp only[Sem.run_bind,hrun,Result.andThen_ok,Sem.run_pure]
  ·cases hk
 ·cases hk
theorem y96(hT:yc P g.T)(h:Rel P A0 w0 ρ s a w){t:TypeId}{x hi:Operand}(ho:o.op=.slice t x none (some hi) none)(hk:effK g s o K=some r):Eff P A0 w0 a w o K r:=by
 simp only[effK,ho]at hk;split at hk
 ·rename_i i β kd n hi' hx hlo;split at hk
  ·rename_i e u xs nn hch;obtain ⟨hcond,hk1⟩:=yG hk;obtain ⟨rfl,hty⟩:=hcond;clear hk;cases hb:(decide (0<=n) && decide (n<=(List.length xs:Int)))with
   |false=>rw[hb]at hk1;cases hk1
   |true =>
    rw[hb,cond_true]at hk1;simp only[and_eq_true,decide_eq_true_eq]at hb;obtain ⟨h0,h1⟩:=hb;have hc:=getD_some hch;obtain ⟨hu,hF,_⟩:=yM (hT.shape hi') (.inl hty);have hxv:a.eval x=.slice ((ρ β).blk.map λ b=>⟨b,0,none⟩) (ρ β).len (ρ β).cap:=by
     have:=(y6 (T:=g.T) h t x).1;rw[hx]at this;exact this
    have hlv:a.eval hi=.int kd n:=by
     have:=(y6 (T:=g.T) h 0 hi).1;rw[hlo]at this;exact yh this
    have hch1:=(h.cH β _ hc).1;obtain ⟨hxl,hnb,hch2⟩:=hch1;have hle:(ρ β).len<=(ρ β).cap:=by
     rcases hch2 with ⟨_,q1,q2⟩|⟨b0,vs,_,_,hle,_⟩
     ·omega
     ·exact hle
    have hbs:=y0Z (P:=P) (w:=w) (a:=a) (sl:=true) (len:=(ρ β).len) (cap:=(ρ β).cap) (lo:=none) (hi:=some hi) (l:=none) (h:=some n) (x:=0) (y:=n.toNat) (.inl ⟨rfl,rfl⟩) (.inr ⟨hi,n,kd,rfl,rfl,hlv⟩)
     (.inl ⟨rfl,rfl⟩) (.inr ⟨n,rfl,h0,rfl,hxl ▸ h1⟩) hle
    have hrun:=y1a (P:=P) (w:=w) (t:=t) (p:=(ρ β).blk.map λ b=>⟨b,0,none⟩) hu hF hbs
    have hex:execOp a.eval o=(do pure (.value (<- Instr.sliceAt t (a.eval x) ((none:Option Operand).map a.eval) ((some hi).map a.eval) none))):=by simp only[execOp,ho,map_none]
    have e1:(if (ρ β).cap=0 then (ρ β).blk.map (λ b=>(⟨b,0,none⟩:Addr))else ((ρ β).blk.map λ b=>(⟨b,0,none⟩:Addr)).map (·.add (0 * u.size)))=(ρ β).blk.map λ b=>(⟨b,0,none⟩:Addr):=by
     cases (ρ β).blk with
     |none=>simp
     |some b=>simp[yu]
    rw[e1,Nat.sub_zero,Nat.sub_zero]at hrun;have hn1:n<=((ρ β).len:Int):=hxl ▸ h1;have hn2:n.toNat<=(ρ β).len:=Int.toNat_le.2 hn1;have hn3:n.toNat<=(ρ β).cap:=Nat.le_trans hn2 hle;have hG:=h.grow (w':=w) (p:=⟨(ρ β).blk,n.toNat,(ρ β).cap,[],[],[]⟩) (ch':=.arr i.elem u (xs.take n.toNat) nn) hc (y6g w _) (λ b hb=>.inl hb) trivial (λ A hA=>by
     have hk:=yC.keep (w':=w) (A':=A) (h.cH β _ hc).1 (λ _ _=>rfl) hA
     obtain ⟨k1,k2,k3⟩:=hk;refine ⟨?_,k2,?_⟩
     ·show (xs.take n.toNat).length=n.toNat
      rw[length_take,hxl];exact min_eq_left hn2
     ·rcases k3 with ⟨q1,q2,q3⟩|⟨b0,vs,q1,q2,q3,q4,q5,q6⟩
      ·refine .inl ⟨q1,?_,q3⟩;show n.toNat=0
       rw[q2]at hn2;exact Nat.le_zero.1 hn2
      ·refine .inr ⟨b0,vs,q1,q2,?_,q4,q5,λ j y hj=>q6 j y ?_⟩
       ·exact hn3
       ·rw[getElem?_take]at hj;split at hj
        ·exact hj
        ·cases hj)
    refine Eff.val (w':=w) (v:=.slice ((ρ β).blk.map λ b=>⟨b,0,none⟩) n.toNat (ρ β).cap) ?_ (hG.put o.dst (sv:=.own s.cH.length) ?_ ?_) hk1
    ·rw[hex,hxv];simp only[map_some,map_none]at hrun ⊢;simp only[Sem.run_bind,hrun,Result.andThen_ok,Sem.run_pure]
    ·show s.cH.length < (s.cH.set β none++[_]).length
     simp
    ·show _=Value.slice _ _ _
     rw[Places.set_self]
  ·cases hk
 ·cases hk
theorem y9k(hE:∀ e∈g.E,FnOK P e)(hT:yc P g.T)(h:Rel P A0 w0 ρ s a w)(hk:effK g s o K=some r):Eff P A0 w0 a w o K r:=by
 cases ho:o.op with
 |box e x=>exact yCW hT h ho hk
 |alloc e=>exact y95 hT h ho hk
 |store t ad x=>exact y9I hE hT h ho hk
 |makeSlice t l c=>exact yB8 hT h ho hk
 |makeMap t x =>
  cases x with
  |none=>exact y77 h ho hk
  |some x=>simp only[effK,ho]at hk;cases hk
 |range t x=>exact y97 hT h ho hk
 | next it b =>
  cases b with
  |true=>exact yE3 h ho (by simpa only[effK,ho]using hk)
  |false=>simp only[effK,ho]at hk;cases hk
 |insert t m key x=>exact yAD hE hT h (.inl ho) (by simpa only[effK,ho]using hk)
 |mapUpdate t m key x=>exact yAD hE hT h (.inr ho) (by simpa only[effK,ho]using hk)
 |buildSlice t n ps=>exact y9N hE hT h ho hk
 |build t ps=>exact y6H hE hT h ho hk
 |load t x=>exact y7K hT h ho hk
 |slice t x lo hi mx =>
  cases lo with
  |none =>
   cases hi with
   |none=>simp only[effK,ho]at hk;cases hk
   |some hi =>
    cases mx with
    |some mx=>simp only[effK,ho]at hk;cases hk
    |none=>exact y96 hT h ho hk
  |some lo =>
   cases hi with
   |some hi=>simp only[effK,ho]at hk;cases hk
   |none =>
    cases mx with
    |some mx=>simp only[effK,ho]at hk;cases hk
    |none=>exact yCb hT h ho hk
 |assign x =>
  cases x with
  |const v =>
   cases v with
   |slice p n c =>
    cases p with
    |none =>
     cases n with
     |zero =>
      cases c with
      |zero=>exact yBc h ho hk
      |succ c=>simp only[effK,ho]at hk;cases hk
     |succ n=>simp only[effK,ho]at hk;cases hk
    |some p=>simp only[effK,ho]at hk;cases hk
   |_=>simp only[effK,ho]at hk;cases hk
  |_=>simp only[effK,ho]at hk;cases hk
 |call c =>
  obtain ⟨callee,args,ts⟩:=c;cases callee with
  |builtin b =>
   cases b with
   |append=>exact y7x hT h ho hk
   |copy=>exact yAk hT h ho hk
   |unsafeString=>exact yAZ hT h ho hk
   |_=>simp only[effK,ho]at hk;cases hk
  |_=>simp only[effK,ho]at hk;cases hk
 |_=>simp only[effK,ho]at hk;cases hk
end
end Go.Vx
end
section
namespace Go.Vx
open Go.RowKit
variable [GT]
section
variable {P:Program} {A0:Nat->Prop} {w0:Base} {ρ:Places} {s:St} {a:Act} {w w':World} {g:G} {R:Type} {K:St->Option R} {r:R} {o:Oper}
def ym(ro:Option Nat):Fence:={ Fence.wide with round:=ro }
omit [GT] in
theorem yFa{ro:Option Nat}{n:Nat}{f:FuncId}{args:Array Value}{Q:Ending->World->Prop}:CallsIn (ym ro) n P f args w Q ↔ Calls P f args w Q:=callsIn_wide (n:=n)
omit [GT] in
theorem yJg{ro ro':Option Nat}{n l:Nat}{f:FuncId}{tmps:Array Value}{x y:Code}{Q:Ending->World->Prop}(h:RoundIn (ym ro) n P l f tmps x y w Q):RoundIn (ym ro') n P l f tmps x y w Q:=h
def OpTo(P:Program)(ro:Option Nat)(o:Oper)(a:Act)(w:World)(N:Act->World->Prop):Prop:=
 ∀ (next:Act->World->Prop) (Q:Exit->Act->World->Prop),(∀ a' w',N a' w'->next a' w')->o.wpIn (ym ro) 0 P a w next Q
omit [GT] in
theorem OpTo.of_calls{ro:Option Nat}{N:Act->World->Prop}{n:FuncId}{args:Array Value}{Q:Ending->World->Prop}(hnd:∀ c,o.op≠.defer c)(hrun:(execOp a.eval o).run P w=.ok (.enter n args) w)(hc:Calls P n args w Q)
  (hQ:∀ e w',Q e w'->∃ v,e=.returned v/\N (a.put o.dst v) w'):OpTo P ro o a w N:=by
 intro next Q' hn
 refine ⟨λ _ _=>trivial,?_⟩
 rw[Oper.semAt_eq _ _ _ hnd,hrun,Oper.uponIn_enter];refine ⟨λ h=>(by cases h),yFa.2 (hc.mono λ e w' hq=>?_)⟩
 obtain ⟨v,rfl,h⟩:=hQ e w' hq;exact hn _ _ h
def Goes(P:Program)(A0:Nat->Prop)(w0:Base)(K:St->Option R)(r:R)(a:Act)(w:World):Prop:=
 ∃ ρ s,Rel P A0 w0 ρ s a w/\K s=some r
theorem Eff.opTo(h:Eff P A0 w0 a w o K r)(hnd:∀ c,o.op≠.defer c):OpTo P w0.ro o a w (Goes P A0 w0 K r):=by
 obtain ⟨a',w',ρ',s',h1,h2,h3⟩:=h;intro next Q hn
 refine ⟨λ _ _=>trivial,?_⟩
 rw[Oper.semAt_eq _ _ _ hnd];rcases h1 with ⟨v,h1,rfl⟩|⟨h1,rfl⟩
 ·rw[h1];exact hn _ _ ⟨ρ',s',h2,h3⟩
 ·rw[h1];exact hn _ _ ⟨ρ',s',h2,h3⟩
theorem y2b{args:Array Operand}{ts:Array TypeId}{f:Operand}(ho:o.op=.call { callee:=.value f,args,argTypes:=ts }){n:FuncId}{first caps:List Value}
  (hf:a.eval f=.func (.func n) first.toArray caps.toArray) (hE:y28 P n) :
  (execOp a.eval o).run P w=.ok (.enter n ((first++args.toList.map a.eval++caps).toArray)) w:=by
 obtain ⟨fn,h1,h2,h3⟩:=hE;have e1:(first.toArray++args.map a.eval++caps.toArray)=(first++args.toList.map a.eval++caps).toArray:=by
  apply Array.toList_inj.1;simp
 simp only[execOp,ho,resolve,hf,Deferred.ofValue,Sem.run_bind,Sem.run_pure,Result.andThen_ok,invoke,callFunc,e1];simp[h1];rw[if_neg (by simpa using h2),if_neg (by intro hb;rw[hb]at h3;cases h3)]
variable (hE:∀ e∈g.E,FnOK P e)
include hE
theorem y2h{A A':Nat->Prop}{cs:List (Option Chunk)}(hA:∀ n,n < w.heap.size->A' n->A n)
  (hc:∀ β ch,cs[β]?=some (some ch)->yC P A w ρ (ρ β) ch/\∀ b,(ρ β).blk=some b->¬ A' b) :
  ∀ {t:Ty} {svs:List SV} {vs:List Value} {x:t.den},yA P A w ρ svs vs->y0s g.E cs t svs=some x->∃ l,Cells P t A' w x l/\t.group l=vs:=by
 intro t;induction t with
 |unit =>
  intro svs vs x hr h;cases svs with
  |cons _ _=>simp[y0s]at h
  |nil=>exact ⟨[],rfl,by have:=hr.1;simp at this;simp[Ty.group,this]⟩
 |pair a b iha ihb =>
  intro svs vs x hr h;cases svs with
  |nil=>simp[y0s]at h
  |cons sv l =>
   simp only[y0s,bind_eq_some_iff,map_eq_some_iff]at h;obtain ⟨p,hp,q,hq,rfl⟩:=h;cases vs with
   |nil=>have:=hr.1;simp at this
   |cons v vs =>
    obtain ⟨v',hv',h0⟩:=hr.2 0 sv rfl;simp at hv';subst hv';obtain ⟨l1,h1,rfl⟩:=y51 hE hA hc h0 hp;obtain ⟨l2,h3,h4⟩:=ihb (vs:=vs) ⟨by have:=hr.1;simpa using this,λ i sv hi=>by simpa using hr.2 (i+1) sv (by simpa using hi)⟩ hq
    refine ⟨l1++l2,⟨l1,l2,rfl,h1,h3⟩,?_⟩;have e1:(l1++l2).take a.size=l1:=by rw[<- h1.length,take_left]
    have e2:(l1++l2).drop a.size=l2:=by rw[<- h1.length,List.drop_left]
    simp only[Ty.group,e1,e2,h4]
 |_=>intro svs vs x hr h;simp[y0s]at h
omit hE in
theorem y0f(h:Rel P A0 w0 ρ s a w):∀ (xs:List Operand) (ts:List TypeId),yA P (Av A0 ρ s.cH) w ρ (y1G g.T s xs ts) (xs.map a.eval)
 |[],_=>⟨rfl,λ i sv hi=>by simp[y1G]at hi⟩
 |x::l,ts=>by
  have ih:=y0f h l ts.tail;refine ⟨by simpa[y1G]using ih.1,λ i sv hi=>?_⟩
  cases i with
  |zero =>
   simp[y1G]at hi;subst hi;exact ⟨a.eval x,rfl,(y6 h _ x).1⟩
  |succ i =>
   obtain ⟨v,h1,h2⟩:=ih.2 i sv (by simpa[y1G]using hi)
   exact ⟨v,by simpa using h1,h2⟩
omit hE in
theorem y1P{A:Nat->Prop}:∀ {cs:List Cap} {vs:List Value},yY P A w ρ cs vs->yA P A w ρ (y1T cs) vs
 |[],[],_=>⟨rfl,λ i sv hi=>by simp[y1T]at hi⟩
 |[],_::_,h=>h.elim
 |_::_,[],h=>by rename_i c cs;cases c<;>exact h.elim
 |c::cs,v::vs,h=>by
  have ih:=y1P h.2;have h0:=h.1;cases c with
  |box β =>
   refine ⟨by simpa[y1T]using ih.1,λ i sv hi=>?_⟩
   cases i with
   |zero=>simp[y1T]at hi;subst hi;exact ⟨v,rfl,h0⟩
   |succ i =>
    obtain ⟨u,h1,h2⟩:=ih.2 i sv (by simpa[y1T]using hi)
    exact ⟨u,by simpa using h1,h2⟩
  |val t x =>
   refine ⟨by simpa[y1T]using ih.1,λ i sv hi=>?_⟩
   cases i with
   |zero=>simp[y1T]at hi;subst hi;exact ⟨v,rfl,h0⟩
   |succ i =>
    obtain ⟨u,h1,h2⟩:=ih.2 i sv (by simpa[y1T]using hi)
    exact ⟨u,by simpa using h1,h2⟩
omit hE in
theorem y8L{A:Nat->Prop}{n:Nat}:∀ {t:Ty} {y:t.den} {l:List Value},Cells P t A w y l->yD P A w ρ (y8U t y) (pack (t.group l))/\(y8U t y).inn n:=by
 intro t y l h;cases t with
 |pair a b =>
  cases b with
  |unit =>
   simp only[Cells]at h;obtain ⟨l1,l2,rfl,h1,h2⟩:=h;have e1:(l1++l2).take a.size=l1:=by rw[<- h1.length,take_left]
   exact ⟨⟨l1,h1,by simp[pack,Ty.group,e1]⟩,trivial⟩
  |pair b c =>
   exact ⟨⟨l,h,by simp[pack,Ty.group]⟩,trivial⟩
  |_=>exact ⟨trivial,trivial⟩
 |unit =>
  simp only[Cells]at h;subst h;exact ⟨⟨[],rfl,rfl⟩,trivial⟩
 |_=>exact ⟨trivial,trivial⟩
omit hE in
theorem _root_.Go.Vx.GlobOK.less{A A':Nat->Prop}{w:World}(h:GlobOK A w)(hA:∀ n,A' n->A n):GlobOK A' w:=
 ⟨λ p hp=>⟨λ hb=>(h.tab p hp).1 (hA _ hb),(h.tab p hp).2⟩,λ p hp=>⟨λ hb=>(h.ints p hp).1 (hA _ hb),(h.ints p hp).2⟩,λ p hp=>⟨λ hb=>(h.ifs p hp).1 (hA _ hb),(h.ifs p hp).2⟩⟩
def Does(P:Program)(S:Nat->Prop)(w:World)(n:FuncId)(cv:List Value)(ta tr:Ty)(m:ta.den->Option tr.den)(first caps:List Value):Prop:=
 ∀ (A':Nat->Prop) (x:ta.den) (l vs:List Value) (y:tr.den),GlobOK A' w->(∀ n,A' n->n < w.heap.size)->(∀ n,A' n->S n)->Cells P ta A' w x l->ta.group l=vs++cv->m x=some y ->
  Calls P n (first++vs++caps).toArray w λ ex w'=>∃ ly,ex=.returned (pack (tr.group ly))/\Cells P tr A' w' y ly/\Below w.heap.size w w'
omit hE in
theorem Does.opTo{args:Array Operand}{ts:Array TypeId}{f:Operand}(ho:o.op=.call { callee:=.value f,args,argTypes:=ts }){n:FuncId}{cv first caps:List Value}{ta tr:Ty}{m:ta.den->Option tr.den}{A':Nat->Prop}
  {s:St} (h:Rel P A0 w0 ρ s a w) (hn:y28 P n) (hf:a.eval f=.func (.func n) first.toArray caps.toArray) (hd:Does P (λ n=>Av A0 ρ s.cH n) w n cv ta tr m first caps)
  (hA':∀ n,A' n->Av A0 ρ s.cH n) {x:ta.den} {l:List Value} {y:tr.den} (hx:Cells P ta A' w x l) (hg:ta.group l=args.toList.map a.eval++cv) (hy:m x=some y)
  (hres:tr.flat=true\/∀ n,Av A0 ρ s.cH n->A' n) (hk:K (s.put o.dst (y8U tr y))=some r):OpTo P w0.ro o a w (Goes P A0 w0 K r):=by
 refine OpTo.of_calls (by rw[ho];intro c hc;cases hc) (y2b ho hf hn) (hd A' x l _ y (h.globW.less hA') (λ n hn=>h.av_lt (hA' n hn)) hA' hx hg hy) ?_
 rintro e w' ⟨ly,rfl,h1,h2⟩
 have h1':Cells P tr (Av A0 ρ s.cH) w' y ly:=by
  rcases hres with hr|hr
  ·exact yGe hr h1
  ·exact h1.mono (λ _ _ _=>rfl) (λ n _ hn=>hr n hn)
 obtain ⟨h3,h4⟩:=y8L (ρ:=ρ) (n:=s.cH.length) h1';exact ⟨_,rfl,ρ,_,(h.step h2).put o.dst h4 h3,hk⟩
theorem y2V(h:Rel P A0 w0 ρ s a w){args:Array Operand}{ts:Array TypeId}{f:Operand}(ho:o.op=.call { callee:=.value f,args,argTypes:=ts }){n:FuncId}{cv first caps:List Value}{ta tr:Ty}{m:ta.den->Option tr.den}{dr:Bool}
  (hn:y28 P n) (hf:a.eval f=.func (.func n) first.toArray caps.toArray) (hd:Does P (Av A0 ρ s.cH) w n cv ta tr m first caps) {cs:St->List SV} (hcs:yA P (Av A0 ρ s.cH) w ρ (cs s) cv) (hcs':∀ xs,yA P (Av A0 ρ (settleAll xs s).cH) w ρ (cs (settleAll xs s)) cv)
  (hsub:∀ (xs:List Operand) (n:Nat),Av A0 ρ (settleAll xs s).cH n->Av A0 ρ s.cH n)
  (hk:y0u g ta tr m s { callee:=.value f,args,argTypes:=ts } cs dr o.dst K=some r):OpTo P w0.ro o a w (Goes P A0 w0 K r):=by
 unfold y0u at hk;split at hk
 ·rename_i hfl;have hfl:=(and_eq_true _ _ ▸ hfl:tr.flat=true/\_).1;obtain ⟨x,hx,hk1⟩:=bind_eq_some_iff.1 hk;obtain ⟨y,hy,hk2⟩:=bind_eq_some_iff.1 hk1;obtain ⟨l,h1,h2⟩:=y2h hE (A':=λ _=>False) (λ _ _ h=>h.elim) (λ β ch hb=>⟨(h.cH β ch hb).1,λ _ _ h=>h⟩) ((y0f (g:=g) h args.toList ts.toList).append hcs) hx
  exact Does.opTo ho h hn hf hd (λ _ h=>h.elim) h1 h2 hy (.inl hfl) hk2
 ·split at hk
  ·obtain ⟨x,hx,hk1⟩:=bind_eq_some_iff.1 hk;obtain ⟨y,hy,hk2⟩:=bind_eq_some_iff.1 hk1;obtain ⟨l,h1,h2⟩:=y2h hE (A':=Av A0 ρ s.cH) (cs:=[]) (λ _ _ h=>h) (λ β ch hb=>by simp at hb) ((y0f (g:=g) h args.toList ts.toList).append hcs) hx
   exact Does.opTo ho h hn hf hd (λ _ h=>h) h1 h2 hy (.inr λ _ h=>h) hk2
  ·simp only at hk;have hsub':=hsub (args.toList++[f]);have hS:=Rel.settleAll (args.toList++[f]) h;have hcs1:=hcs' (args.toList++[f]);generalize settleAll (args.toList++[f]) s=s1 at hk hS hsub' hcs1;obtain ⟨x,hx,hk1⟩:=bind_eq_some_iff.1 hk;obtain ⟨y,hy,hk2⟩:=bind_eq_some_iff.1 hk1;obtain ⟨l,h1,h2⟩:=y2h hE (A':=Av A0 ρ s1.cH) (cs:=[]) (λ _ _ h=>h) (λ β ch hb=>by simp at hb) ((y0f (g:=g) hS args.toList ts.toList).append hcs1) hx
   refine Does.opTo ho hS hn hf (λ A' x l vs y hG' hA1 hA2=>hd A' x l vs y hG' hA1 (λ n hn=>hsub' n (hA2 n hn))) (λ _ h=>h) h1 h2 hy (.inr λ _ h=>h) hk2
end
section
variable {P:Program} {A0:Nat->Prop} {w0:Base} {ρ:Places} {s:St} {a:Act} {w w':World} {g:G} {R:Type} {K:St->Option R} {r:R} {o:Oper}
theorem y3w{n:Nat}(β:Nat)(h:Av A0 ρ (s.freeze β).cH n):Av A0 ρ s.cH n:=by
 unfold St.freeze at h;split at h
 ·exact y0m h
 ·split at h
  ·exact y0m h
  ·exact h
 ·exact y0m h
 ·exact y0m h
 ·exact y0m h
 ·split at h
  ·exact y0m h
  ·exact h
 ·exact h
theorem y3X{n:Nat}:∀ (cs:List Cap) {s:St},Av A0 ρ (freezeCaps cs s).cH n->Av A0 ρ s.cH n
 |[],_,h=>h
 |.box β::cs,_,h=>y3w β (y3X cs h)
 |.val _ _::cs,_,h=>y3X cs h
theorem yA9{n:Nat}(sv:SV)(h:Av A0 ρ (s.settle1 sv).cH n):Av A0 ρ s.cH n:=by
 unfold St.settle1 at h;split at h
 ·exact y3w _ h
 ·exact y3w _ h
 ·exact y3X _ h
 ·exact h
theorem y4G{n:Nat}:∀ (l:List SV) {s:St},Av A0 ρ (settleCells1 l s).cH n->Av A0 ρ s.cH n
 |[],_,h=>h
 |sv::l,_,h=>yA9 sv (y4G l h)
theorem yJJ{n:Nat}(sv:SV)(h:Av A0 ρ (s.settle sv).cH n):Av A0 ρ s.cH n:=by
 unfold St.settle at h;split at h
 ·have h1:=y3w _ h;split at h1
  ·exact y4G _ h1
  ·exact h1
 ·exact y3w _ h
 ·exact yA9 _ h
theorem y0o{n:Nat}:∀ (xs:List Operand) {s:St},Av A0 ρ (settleAll xs s).cH n->Av A0 ρ s.cH n
 |[],_,h=>h
 |.tmp t::l,_,h=>yJJ _ (y0o l h)
 |.const _::l,_,h=>y0o l h
 |.global _::l,_,h=>y0o l h
 |.func _::l,_,h=>y0o l h
theorem y6I{i β:Nat}{f:SV->SV}(hf:f .undef=.undef):(s.sub β f).get i=f (s.get i):=by
 rw[St.get_def,St.get_def,show (s.sub β f).slots=s.slots.map f from Slots.toList_map _ _]
 simp only[List.getD_eq_getElem?_getD,getElem?_map];cases s.slots[i]? with
 |none=>simp[hf]
 |some x=>rfl
theorem y2H{i β:Nat}{n:FuncId}{caps:List Cap}(h:s.get i=.clo n caps):∃ caps',(s.freeze β).get i=.clo n caps':=by
 unfold St.freeze;split
 ·rw[y6I rfl,h];exact ⟨caps,rfl⟩
 ·split
  ·rw[y6I rfl,h];exact ⟨_,rfl⟩
  ·exact ⟨caps,h⟩
 ·rw[y6I rfl,h];exact ⟨caps,rfl⟩
 ·rw[y6I rfl,h];exact ⟨caps,rfl⟩
 ·rw[y6I rfl,h];exact ⟨caps,rfl⟩
 ·split
  ·rw[y6I rfl,h];exact ⟨_,rfl⟩
  ·exact ⟨caps,h⟩
 ·exact ⟨caps,h⟩
theorem y2w{i:Nat}{n:FuncId}:∀ (cs:List Cap) {s:St} {caps:List Cap},s.get i=.clo n caps->∃ caps',(freezeCaps cs s).get i=.clo n caps'
 |[],_,caps,h=>⟨caps,h⟩
 |.box β::cs,_,_,h=>let ⟨_,h'⟩:=y2H (β:=β) h;y2w cs h'
 |.val _ _::cs,_,_,h=>y2w cs h
theorem y8k{i:Nat}{n:FuncId}{caps:List Cap}(sv:SV)(h:s.get i=.clo n caps):∃ caps',(s.settle1 sv).get i=.clo n caps':=by
 unfold St.settle1;split
 ·exact y2H h
 ·exact y2H h
 ·exact y2w _ h
 ·exact ⟨caps,h⟩
theorem y3h{i:Nat}{n:FuncId}:∀ (l:List SV) {s:St} {caps:List Cap},s.get i=.clo n caps->∃ caps',(settleCells1 l s).get i=.clo n caps'
 |[],_,caps,h=>⟨caps,h⟩
 |sv::l,_,_,h=>let ⟨_,h'⟩:=y8k sv h;y3h l h'
theorem yHG{i:Nat}{n:FuncId}{caps:List Cap}(sv:SV)(h:s.get i=.clo n caps):∃ caps',(s.settle sv).get i=.clo n caps':=by
 unfold St.settle;split
 ·split
  ·obtain ⟨caps',h'⟩:=y3h _ h;exact y2H h'
  ·exact y2H h
 ·exact y2H h
 ·exact y8k _ h
theorem y1Y{i:Nat}{n:FuncId}:∀ (xs:List Operand) {s:St} {caps:List Cap},s.get i=.clo n caps->∃ caps',(settleAll xs s).get i=.clo n caps'
 |[],_,caps,h=>⟨caps,h⟩
 |.tmp t::l,s,_,h=>let ⟨_,h'⟩:=yHG (s.get t) h;y1Y l h'
 |.const _::l,_,_,h=>y1Y l h
 |.global _::l,_,_,h=>y1Y l h
 |.func _::l,_,_,h=>y1Y l h
theorem yJX{T:List (TypeId×TyI)}{f:Operand}{n:FuncId}{caps:List Cap}(h:y8 T 0 s f=.clo n caps)(xs:List Operand):∃ caps',y8 T 0 (settleAll xs s) f=.clo n caps':=by
 cases f with
 |tmp t=>exact y1Y xs h
 |const v=>exact ⟨caps,h⟩
 |global k=>exact ⟨caps,h⟩
 |func k=>cases h;exact ⟨[],rfl⟩
theorem y4g(h:Rel P A0 w0 ρ s a w):∀ (xs:List Operand) (ts:List TypeId),∀ sv∈y1G g.T s xs ts,sv.inn s.cH.length
 |[],_=>λ sv hs=>by simp[y1G]at hs
 |x::l,ts=>λ sv hs=>by
  simp only[y1G,mem_cons]at hs;rcases hs with rfl|hs
  ·exact (y6 h _ x).2
  ·exact y4g h l ts.tail sv hs
theorem y3B{n:Nat}:∀ {cs:List Cap},y0O n cs->∀ sv∈y1T cs,sv.inn n
 |[],_=>λ sv hs=>by simp[y1T]at hs
 |.box β::cs,h=>λ sv hs=>by
  simp only[y1T,mem_cons]at hs;rcases hs with rfl|hs
  ·exact h.1
  ·exact y3B h.2 sv hs
 |.val t x::cs,h=>λ sv hs=>by
  simp only[y1T,mem_cons]at hs;rcases hs with rfl|hs
  ·trivial
  ·exact y3B (cs:=cs) h sv hs
def Back(P:Program)(A0:Nat->Prop)(w0:Base)(a:Act)(K:SV->St->Option R)(r:R)(ex:Ending)(w':World):Prop:=
 ∃ v ρ' s' sv,ex=.returned v/\Rel P A0 w0 ρ' s' a w'/\yD P (Av A0 ρ' s'.cH) w' ρ' sv v/\sv.inn s'.cH.length/\K sv s'=some r
def y2z(P:Program)(call:(R:Type)->yv R):Prop:=
 ∀ {A0:Nat->Prop} {w0:Base} {ρ:Places} {s:St} {a:Act} {w:World} {R:Type} {K:SV->St->Option R} {r:R} {n:FuncId} {svs:List SV} {vs:List Value},
  Rel P A0 w0 ρ s a w->yA P (Av A0 ρ s.cH) w ρ svs vs->(∀ sv∈svs,sv.inn s.cH.length)->call R (.fn n) svs s K=some r ->
   y28 P n/\Calls P n vs.toArray w (Back P A0 w0 a K r)
def y1p(P:Program)(call:(R:Type)->yv R):Prop:=
 ∀ {A0:Nat->Prop} {w0:Base} {ρ:Places} {s:St} {a:Act} {w:World} {R:Type} {K:SV->St->Option R} {r:R} {info:LpInfo} {svs:List SV} {vs:List Value} {l β i:Nat} {cells:List SV} {ext:List Value} {kept:List SV} {fnn:FuncId},
  Rel P A0 w0 ρ s a w->yA P (Av A0 ρ s.cH) w ρ svs vs->(∀ sv∈svs,sv.inn s.cH.length)->w0.ext=.func (.yield l) #[] #[]::ext->s.kept=.yld β::kept ->
  s.cH[β]?=some (some (.lp i info cells .ready))->call R (.round info) svs s K=some r->RoundIn (ym none) 0 P l fnn vs.toArray info.assign info.body w (Back P A0 w0 a K r)
def Base.push(w0:Base)(v:Value):Base:={ w0 with ext:=v::w0.ext }
theorem Rel.push(h:Rel P A0 w0 ρ s a w){sv:SV}{v:Value}(hv:yD P (Av A0 ρ s.cH) w ρ sv v)(hi:sv.inn s.cH.length):Rel P A0 (w0.push v) ρ { s with kept:=sv::s.kept } a w:=
 ⟨h.size,h.slots,h.cH,h.inj,h.names,h.cN,h.below,h.dom,h.defers,h.dep,h.lpi,h.round,h.glob,by simp[Base.push,h.kZ],
  λ i sv' hs=>by
   cases i with
   |zero=>simp at hs;subst hs;exact hv
   |succ i=>exact h.kS i sv' (by simpa using hs),
  λ i sv' hs=>by
   cases i with
   |zero=>simp at hs;subst hs;exact hi
   |succ i=>exact h.kN i sv' (by simpa using hs),h.subs⟩
theorem Rel.pop{sv:SV}{kept:List SV}{v:Value}(h:Rel P A0 (w0.push v) ρ s a w)(hk:s.kept=sv::kept):Rel P A0 w0 ρ { s with kept:=kept } a w:=
 ⟨h.size,h.slots,h.cH,h.inj,h.names,h.cN,h.below,h.dom,h.defers,h.dep,h.lpi,h.round,h.glob,by have:=h.kZ;rw[hk]at this;simpa[Base.push]using this,
  λ i sv' hs=>h.kS (i+1) sv' (by rw[hk];simpa using hs),λ i sv' hs=>h.kN (i+1) sv' (by rw[hk];simpa using hs),h.subs⟩
theorem y3i{A:Nat->Prop}:∀ (ps:List Tmp) (svs:List SV) (vs:List Value) (l:List SV) (t:Array Value),yA P A w ρ svs vs->yA P A w ρ l t.toList ->
  yA P A w ρ (y0h ps svs l) ((ps.zip vs).foldl (λ (tmps:Array Value) (p:Tmp×Value)=>tmps.setIfInBounds p.1 p.2) t).toList
 |[],svs,vs,l,t,_,h=>by unfold y0h;simpa using h
 |p::ps,[],vs,l,t,hv,h=>by
  have:vs=[]:=List.eq_nil_of_length_eq_zero (by simpa using hv.1)
  subst this;unfold y0h;simpa using h
 |p::ps,x::xs,vs,l,t,hv,h=>by
  cases vs with
  |nil=>have:=hv.1;simp at this
  |cons v vs =>
   unfold y0h;simp only[List.zip_cons_cons,List.foldl_cons];refine y3i ps xs vs _ _ ⟨by have:=hv.1;simpa using this,λ i sv hi=>by simpa using hv.2 (i+1) sv (by simpa using hi)⟩ ⟨by simpa using h.1,λ i sv hi=>?_⟩
   obtain ⟨u,hu,h0⟩:=hv.2 0 x rfl;simp at hu;subst hu;by_cases hpi:p=i
   ·subst hpi;have hlt:p < l.length:=by
     have:=(List.getElem?_eq_some_iff.1 hi).1;simpa using this
    rw[getElem?_set_self hlt]at hi;cases hi;have hlt2:p < t.size:=by have:=h.1;rw[Array.length_toList]at this;exact this ▸ hlt
    exact ⟨v,by simp[Array.getElem?_setIfInBounds,hlt2],h0⟩
   ·rw[getElem?_set_ne hpi]at hi;obtain ⟨u,h1,h2⟩:=h.2 i sv hi;exact ⟨u,by rw[Array.getElem?_toList]at h1 ⊢;rw[Array.getElem?_setIfInBounds_ne hpi];exact h1,h2⟩
theorem y5V{n:Nat}:∀ (ps:List Tmp) (svs l:List SV),(∀ sv∈svs,sv.inn n)->(∀ sv∈l,sv.inn n)->∀ sv∈y0h ps svs l,sv.inn n
 |[],svs,l,_,h=>by unfold y0h;exact h
 |p::ps,[],l,_,h=>by unfold y0h;exact h
 |p::ps,x::xs,l,hx,h=>by
  unfold y0h;refine y5V ps xs _ (λ sv hs=>hx sv (List.mem_cons_of_mem _ hs)) (λ sv hs=>?_)
  rcases List.mem_or_eq_of_mem_set hs with hs|rfl
  ·exact h sv hs
  ·exact hx _ (List.mem_cons_self ..)
theorem y7p(keep:List Nat):∀ (l:List SV) (k i:Nat) (sv':SV),(y4C keep k l)[i]?=some sv'->l[i]?=some sv'\/sv'=.undef
 |[],_,i,_,h=>by simp[y4C]at h
 |sv::l,k,i,sv',h=>by
  simp only[y4C]at h;cases i with
  |zero =>
   simp only[List.getElem?_cons_zero,Option.some.injEq]at h;subst h;split
   ·exact .inl rfl
   ·exact .inr rfl
  |succ i=>simpa using y7p keep l (k+1) i sv' (by simpa using h)
theorem y4w(keep:List Nat):∀ (l:List SV) (k:Nat),(y4C keep k l).length=l.length
 |[],_=>rfl
 |sv::l,k=>by simp[y4C,y4w keep l (k+1)]
theorem Rel.live(h:Rel P A0 w0 ρ s a w)(o:Option (List Nat)):Rel P A0 w0 ρ (s.live o) a w:=by
 cases o with
 |none=>exact h
 |some l =>
  have hsl:(s.live (some l)).slots=y4C l 0 s.slots:=Slots.toList_ofList _;have hg:∀ (i:Nat) (x:SV),(s.live (some l)).slots[i]?=some x->x=.undef\/s.slots[i]?=some x:=λ i x hi=>by
   rw[hsl]at hi;rcases y7p l _ _ _ _ hi with h1|h1
   ·exact .inr h1
   ·exact .inl h1
  refine ⟨by rw[hsl,y4w];exact h.size,λ i x hi=>?_,h.cH,h.inj,λ i x hi=>?_,h.cN,h.below,h.dom,h.defers,h.dep,h.lpi,h.round,h.glob,h.kZ,h.kS,h.kN,h.subs⟩
  ·rcases hg i x hi with rfl|hi
   ·trivial
   ·exact h.slots i x hi
  ·rcases hg i x hi with rfl|hi
   ·trivial
   ·exact h.names i x hi
theorem y9T{args:Array Operand}{ts:Array TypeId}{f:Operand}(ho:o.op=.call { callee:=.value f,args,argTypes:=ts }){l:Nat}{rec':Loop}
  (hf:a.eval f=.func (.yield l) #[] #[]) (hl:w.heap[l]?=some (.loop rec')) (hs:args.size=rec'.params.size) :
  (execOp a.eval o).run P w=.ok (.round l rec'.fn ((rec'.params.zip (args.map a.eval)).foldl (λ tmps (t,v)=>tmps.setIfInBounds t v) rec'.tmps) rec'.assign rec'.body) w:=by
 have hl':=run_getLoop (P:=P) hl;simp only[execOp,ho,resolve,hf,Deferred.ofValue,Sem.run_bind,Sem.run_pure,Result.andThen_ok,invoke,callFunc,Array.empty_append,Array.append_empty,Instr.yield,hl'];simp[hs]
theorem yBY{call:(R:Type)->yv R}(hRd:y1p P call)(h:Rel P A0 w0 ρ s a w){args:Array Operand}{ts:Array TypeId}{f:Operand}(ho:o.op=.call { callee:=.value f,args,argTypes:=ts })
  {β:Nat} (hev:y8 g.T 0 s f=.yld β) (hk:y9v g (call R) s o { callee:=.value f,args,argTypes:=ts } f β K=some r):OpTo P w0.ro o a w (Goes P A0 w0 K r):=by
 unfold y9v at hk;split at hk
 ·rename_i i info cells hch;dsimp only at hk;obtain ⟨hlen,hk⟩:=yG hk;have hc:=getD_some hch;obtain ⟨hs,hin⟩:=y6 (T:=g.T) h 0 f;rw[hev]at hs hin;obtain ⟨b,hb,hfv⟩:=hs;obtain ⟨b',rec',hb',g1,⟨g2,g3,g4,_,_⟩,g5,g6⟩:=(h.cH β _ hc).1;rw[hb]at hb';cases hb';have hargs:=y0f (g:=g) h args.toList ts.toList;have hsz:args.size=rec'.params.size:=by
   have:=hargs.1;simp only[List.length_map,Array.length_toList]at this;rw[this,hlen,g2]
  have hcells:yA P (Av A0 ρ s.cH) w ρ cells rec'.tmps.toList:=⟨by simpa using g5,λ i sv hi=>by simpa using g6 i sv hi⟩
  have hslots:=y3i info.ps.toList _ _ cells rec'.tmps hargs hcells;have hL:=h.live g.lv;have hcl:(s.live g.lv).cH=s.cH:=by cases g.lv<;>rfl
  have hkp0:(s.live g.lv).kept=s.kept:=by cases g.lv<;>rfl
  have hP:=hL.push (sv:=.yld β) (v:=.func (.yield b) #[] #[]) ⟨b,hb,rfl⟩ (by rw[hcl];exact hin)
  rw[hkp0]at hP;have hrun:=y9T (P:=P) (w:=w) ho hfv g1 hsz;have hround:=hRd (fnn:=rec'.fn) hP (by show yA P (Av A0 ρ (s.live g.lv).cH) w ρ _ _;rw[hcl];exact hslots) (by show ∀ (sv:SV),sv∈_->sv.inn (s.live g.lv).cH.length;rw[hcl];exact y5V _ _ _ (y4g h _ _) (h.cN β _ hc)) rfl rfl (by show (s.live g.lv).cH[β]?=_;rw[hcl];exact hc) hk
  intro next Q' hn
  refine ⟨λ _ _=>trivial,?_⟩
  rw[Oper.semAt_eq _ _ _ (by rw[ho];intro c hc;cases hc),hrun,Oper.uponIn_round]
  refine ⟨λ h=>(by cases h),?_⟩
  have e1:((rec'.params.zip (args.map a.eval)).foldl (λ tmps (t,v)=>tmps.setIfInBounds t v) rec'.tmps)=((info.ps.toList.zip (args.toList.map a.eval)).foldl (λ (tmps:Array Value) (p:Tmp×Value)=>tmps.setIfInBounds p.1 p.2) rec'.tmps):=by
   rw[g2,<- Array.foldl_toList];simp
  rw[e1,g3,g4];simp only[Array.toArray_toList]at hround;refine (yJg (ro':=w0.ro) hround).mono λ e w' hq=>?_
  obtain ⟨v,ρ',s',sv,rfl,h1,h2,h3,h4⟩:=hq;dsimp only at h4;split at h4
  ·rename_i β' kept hkp;split at h4
   ·rename_i bb;refine hn _ _ ⟨ρ',_,(h1.pop hkp).put o.dst h3 h2,h4⟩
   ·cases h4
  ·cases h4
 ·cases hk
theorem yAJ{d:Option Nat}{n:FuncId}{e:Entry}(h:yCV g d n=some e):y8v g.E n=some e:=by
 unfold yCV at h;split at h
 ·cases h
 ·exact h
theorem y84{call:(R:Type)->yv R}(hC:y2z P call)(hE:∀ e∈g.E,FnOK P e)(h:Rel P A0 w0 ρ s a w){args:Array Operand}{ts:Array TypeId}{f:Operand}(ho:o.op=.call { callee:=.value f,args,argTypes:=ts }){n0 m:FuncId}(hfv:a.eval f=.func (.func n0) #[] #[])(hm:m=n0+1) :
  ∀ l:List FuncId,yBL g (call R) s o { callee:=.value f,args,argTypes:=ts } m K l=some r->OpTo P w0.ro o a w (Goes P A0 w0 K r)
 |[],hk=>by cases hk
 |n::l,hk=>by
  unfold yBL at hk;by_cases hb:m=n+1
  ·have e0:n=n0:=Nat.succ.inj (hb.symm.trans hm);subst e0;rw[show (m == n+1)=true by simpa using hb,cond_true]at hk
   split at hk
   ·rename_i e he;obtain ⟨hme,rfl⟩:=y1t (yAJ he);obtain ⟨hEn,hF,_⟩:=hE e hme;refine y2V hE h ho (cv:=[]) (first:=[]) (caps:=[]) hEn (by rw[hfv]) (λ A' x l us y hG' hA1 hA2 hx hg hy=>?_) ⟨rfl,λ i sv hi=>by simp at hi⟩ (λ xs=>⟨rfl,λ i sv hi=>by simp at hi⟩) (λ xs n hn=>y0o xs hn) hk
    have:=hF A' w x l y hG' hA1 hx hy;rw[hg]at this;simpa using this
   ·have hL:=h.live g.lv;have hcl:(s.live g.lv).cH=s.cH:=by cases g.lv<;>rfl
    obtain ⟨hEn,hCalls⟩:=hC hL (by rw[hcl];exact y0f (g:=g) h args.toList ts.toList) (λ sv hs=>by
     rw[hcl];exact y4g h _ _ sv hs) hk
    refine OpTo.of_calls (by rw[ho];intro c hc;cases hc) (y2b (first:=[]) (caps:=[]) ho (by rw[hfv]) hEn) (by simpa using hCalls) ?_
    rintro e w' ⟨v,ρ',s',sv,rfl,hR,hv,hi,hK⟩
    exact ⟨_,rfl,ρ',_,hR.put o.dst hi hv,hK⟩
  ·rw[show (m == n+1)=false by simpa using hb,cond_false]at hk
   exact y84 hC hE h ho hfv hm l hk
theorem yKc{e:Entry}{q:RdK}(h:e.rdk=some q):e.ex=some (.rd q):=by
 unfold Entry.rdk at h;split at h
 ·rename_i q' he;cases h;exact he
 ·cases h
theorem yD4{A:Nat->Prop}{cs:List (Option Chunk)}(hc:∀ β ch,cs[β]?=some (some ch)->yC P A w ρ (ρ β) ch){sv:SV}{v:Value}{u:Ty}{x:u.den}(hs:yD P A w ρ sv v)(h:y85 cs sv u=some x) :
  ∃ pb po n c l,v=.slice (some ⟨pb,po,none⟩) n c/\0 < n/\n<=maxLen/\l.length=u.size/\yO w pb (po+(n - 1) * u.size) l/\Cells P u A w x l:=by
 unfold y85 at h;split at h
 ·rename_i γ;split at h
  ·rename_i e t xs nn hch;obtain ⟨y,hy,hcast⟩:=bind_eq_some_iff.1 h;obtain ⟨hxl,_,hcase⟩:=hc γ _ (getD_some hch);have hi:(xs:List t.den)[List.length xs - 1]?=some y:=by rw[<- List.getLast?_eq_getElem?];exact hy
   have hlt:=(List.getElem?_eq_some_iff.1 hi).1;simp only[yD]at hs;unfold y2G at hcast;split at hcast
   ·rename_i e1;subst e1;cases hcast;rcases hcase with ⟨_,h2,_⟩|⟨b,vs,hb,hg,hle,hm,hsz,hel⟩
    ·omega
    ·have hl:=hel _ _ hi;have hl2:=hl.length;refine ⟨b,0,(ρ γ).len,(ρ γ).cap,_,by rw[hs,hb];rfl,by omega,by omega,hl2,λ j v hj=>?_,hl⟩
     rw[getElem?_take]at hj;split at hj
     ·rw[getElem?_drop]at hj;simp only[World.cell?,hg,<- hxl];rw[<- Array.getElem?_toList,Nat.zero_add];exact hj
     ·cases hj
   ·cases hcast
  ·cases h
 ·rename_i t xs;obtain ⟨y,hy,hcast⟩:=bind_eq_some_iff.1 h;obtain ⟨l,hl,rfl⟩:=hs;simp only[Cells]at hl;obtain ⟨p,c,rfl,h1,h2,h3⟩:=hl;have hi:(xs:List t.den)[List.length xs - 1]?=some y:=by rw[<- List.getLast?_eq_getElem?];exact hy
  have hlt:=(List.getElem?_eq_some_iff.1 hi).1;unfold y2G at hcast;split at hcast
  ·rename_i e1;subst e1;cases hcast;obtain ⟨ad,l',rfl,hsp,_,_,h4,h5⟩:=h3 _ _ hi;obtain ⟨pb,po,sp⟩:=ad;simp only at hsp;subst hsp;exact ⟨pb,po,List.length xs,c,l',rfl,by omega,by omega,h5.length,h4,h5⟩
  ·cases hcast
 ·cases h
theorem y9p{β off:Nat}{t:List UInt8}{K:SV->Option R}:∀ (l:List (List UInt8×Nat)),yDX β off t K l=K (match l.find? (λ p=>t == p.1)with|some p=>.bP β (off+p.2)|none=>.nilp)
 |[]=>rfl
 |p::l=>by
  unfold yDX;rw[List.find?_cons];cases t == p.1 with
  |true=>rfl
  |false=>exact y9p l
theorem yIB{q:RdK}{K:SV->Option R}{f:FuncId}(hq:RdOK P f q)(h:Rel P A0 w0 ρ s a w){svs:List SV}{vs:List Value}(hv:yA P (Av A0 ρ s.cH) w ρ svs vs)(hi:∀ sv∈svs,sv.inn s.cH.length)(hk:rdK q s.cH svs K=some r) :
  Calls P f vs.toArray w λ ex w'=>∃ v sv,ex=.returned v/\Below w.heap.size w w'/\yD P (Av A0 ρ s.cH) w' ρ sv v/\sv.inn s.cH.length/\K sv=some r:=by
 unfold rdK at hk;split at hk
 ·rename_i o u β off;split at hk
  ·rename_i bt cells hch;obtain ⟨sv,hsv,hk⟩:=bind_eq_some_iff.1 hk;rw[yBI]at hk;obtain ⟨x,hx,hk⟩:=bind_eq_some_iff.1 hk;obtain ⟨v0,hv0,b,hb,rfl⟩:=hv.2 0 _ rfl;have hvs:vs=[.pointer (some ⟨b,off,none⟩)]:=by
    have hl:=hv.1;match vs,hl,hv0 with
    |[y],_,h0=>simp at h0;rw[h0]
   subst hvs;obtain ⟨b',cvs,e,hb',hg,_,hcell⟩:=(h.cH β _ (getD_some hch)).1;rw[hb]at hb';cases hb';obtain ⟨v1,hv1,hr1⟩:=hcell _ _ hsv;obtain ⟨pb,po,n,c,l,rfl,h1,h2,h3,h4,h5⟩:=yD4 (λ β ch hb=>(h.cH β ch hb).1) hr1 hx
   refine (hq w b off pb po n c l (by simp only[World.cell?,hg];exact hv1) h1 h2 h3 h4 (λ v hv=>yV (h5.plain v hv))).mono ?_
   rintro ex w' ⟨rfl,hB⟩
   exact ⟨_,.val u x,rfl,hB,⟨l,h5.mono (λ n hn _=>hB.block n hn) (λ _ _ h=>h),rfl⟩,trivial,hk⟩
  ·cases hk
 ·rename_i ls β off t;split at hk
  ·rename_i bt cells hch;rw[y9p]at hk;obtain ⟨v0,hv0,b,hb,rfl⟩:=hv.2 0 _ rfl;obtain ⟨v1,hv1,hr1⟩:=hv.2 1 _ rfl;have hr1:=y3T hr1;subst hr1;have hvs:vs=[.pointer (some ⟨b,off,none⟩),.string ⟨t.toArray⟩]:=by
    have hl:=hv.1;match vs,hl,hv0,hv1 with
    |[y,z],_,h0,h1=>simp at h0 h1;rw[h0,h1]
   subst hvs;have hin:=hi _ (List.mem_cons_self ..);refine (hq w b off t).mono ?_
   rintro ex w' ⟨rfl,hB⟩
   refine ⟨_,_,rfl,hB,?_,?_,hk⟩
   ·cases ls.find? (λ p=>t == p.1)with
    |some p=>exact ⟨b,hb,rfl⟩
    |none=>rfl
   ·cases ls.find? (λ p=>t == p.1)with
    |some p=>exact hin
    |none=>trivial
  ·cases hk
 ·cases hk
theorem y7z{call:(R:Type)->yv R}(hC:y2z P call)(hRd:y1p P call)(hE:∀ e∈g.E,FnOK P e)(h:Rel P A0 w0 ρ s a w){args:Array Operand}{ts:Array TypeId}{f:Operand}(ho:o.op=.call { callee:=.value f,args,argTypes:=ts }){dr:Bool}
  (hk:yC3 g (call R) dr s o { callee:=.value f,args,argTypes:=ts } f K=some r):OpTo P w0.ro o a w (Goes P A0 w0 K r):=by
 unfold yC3 at hk;split at hk
 ·rename_i n caps hev;split at hk
  ·rename_i e he;obtain ⟨hm,rfl⟩:=y1t (yAJ he);have hs:=(y6 (T:=g.T) h 0 f).1;rw[hev]at hs;obtain ⟨vs,hfv,hr⟩:=hs;obtain ⟨hEn,hF,_,hX⟩:=hE e hm;split at hk
   ·rename_i q hq;have hin:=(y6 (T:=g.T) h 0 f).2;rw[hev]at hin;have hcaps:ya g.T f s=y1T caps:=by unfold ya;rw[hev]
    rw[hcaps]at hk;have hcall:=yIB (hX _ (yKc hq)) h ((y0f (g:=g) h args.toList ts.toList).append (y1P hr)) (λ sv hs=>by
     rcases mem_append.1 hs with hs|hs
     ·exact y4g h _ _ sv hs
     ·exact y3B hin sv hs) hk
    refine OpTo.of_calls (by rw[ho];intro c hc;cases hc) (y2b (first:=[]) ho hfv hEn) hcall ?_
    rintro ex w' ⟨v,sv,rfl,hB,h1,h2,h3⟩
    exact ⟨_,rfl,ρ,_,(h.step hB).put o.dst h2 h1,h3⟩
   refine y2V hE h ho hEn hfv (cv:=vs) (λ A' x l us y hG' hA1 hA2 hx hg hy=>?_) ?_ (λ xs=>?_) (λ xs n hn=>y0o xs hn) hk
   ·have:=hF A' w x l y hG' hA1 hx hy;rw[hg]at this;exact this
   ·unfold ya;rw[hev];exact y1P hr
   ·obtain ⟨caps',hev'⟩:=yJX hev xs;have hS:=Rel.settleAll xs h;have hs':=(y6 (T:=g.T) hS 0 f).1;rw[hev']at hs';obtain ⟨vs',hfv',hr'⟩:=hs';rw[hfv]at hfv';simp only[Value.func.injEq]at hfv';have e1:vs=vs':=by have:=congrArg Array.toList hfv'.2.2;simpa using this
    unfold ya;rw[hev',e1];exact y1P hr'
  ·split at hk
   ·cases hk
   ·have hs:=y6 (T:=g.T) h 0 f;rw[hev]at hs;obtain ⟨⟨vs,hfv,hr⟩,hin⟩:=hs;have hcaps:ya g.T f s=y1T caps:=by unfold ya;rw[hev]
    rw[hcaps]at hk;have hL:=h.live g.lv;have hcl:(s.live g.lv).cH=s.cH:=by cases g.lv<;>rfl
    obtain ⟨hEn,hCalls⟩:=hC hL (by rw[hcl];exact (y0f (g:=g) h args.toList ts.toList).append (y1P hr)) (λ sv hs=>by
     rw[hcl];rcases mem_append.1 hs with hs|hs
     ·exact y4g h _ _ sv hs
     ·exact y3B hin sv hs) hk
    refine OpTo.of_calls (by rw[ho];intro c hc;cases hc) (y2b ho hfv hEn) hCalls ?_
    rintro e w' ⟨v,ρ',s',sv,rfl,hR,hv,hi,hK⟩
    exact ⟨_,rfl,ρ',_,hR.put o.dst hi hv,hK⟩
 ·rename_i ta tb m hev;have hs:=(y6 (T:=g.T) h 0 f).1;rw[hev]at hs;obtain ⟨l0,hl0,hfv⟩:=hs;simp only[Cells]at hl0;rcases hl0 with ⟨rfl,hnone⟩|⟨n,first,caps,S,rfl,hEn,hS,hd⟩
  ·have bad:∀ {E:List Entry} {cs:List (Option Chunk)} {svs:List SV} {k:tb.den->Option R},((y0s E cs ta svs).bind λ x=>(m x).bind k)=some r->False:=by
    intro E cs svs k hb;obtain ⟨x,_,h2⟩:=bind_eq_some_iff.1 hb;rw[hnone x]at h2;cases h2
   unfold y0u at hk;split at hk
   ·exact (bad hk).elim
   ·split at hk
    ·exact (bad hk).elim
    ·exact (bad hk).elim
  ·refine y2V hE h ho (cv:=[]) (first:=first.toList) (caps:=caps.toList) hEn (by rw[hfv];simp[Ty.wrap,Ty.agg]) (λ A' x l us y hG' hA1 hA2 hx hg hy=>?_) ⟨rfl,λ i sv hi=>by simp at hi⟩ (λ xs=>⟨rfl,λ i sv hi=>by simp at hi⟩) (λ xs n hn=>y0o xs hn) hk
   have:=hd A' w hG' (λ _ _=>rfl) (λ n hn=>⟨hA1 n hn,λ hSn=>(hS n hSn).1 (hA2 n hn)⟩) x l y hx hy
   rw[hg,append_nil]at this;have e1:first++us.toArray++caps=(first.toList++us++caps.toList).toArray:=by apply Array.toList_inj.1;simp
   rw[<- e1];exact this
 ·rename_i m hev;split at hk
  ·cases hk
  ·have hs:=(y6 (T:=g.T) h 0 f).1;rw[hev]at hs;obtain ⟨l0,hl0,hfv⟩:=hs;simp only[Cells]at hl0;rcases hl0 with ⟨rfl,_⟩|⟨n,hn,rfl⟩
   ·exfalso
    have:∀ l:List FuncId,yBL g (call R) s o { callee:=.value f,args,argTypes:=ts } (0:Nat) K l≠some r:=λ l=>by
     induction l with
     |nil=>intro hh;cases hh
     |cons n l ih=>intro hh;unfold yBL at hh;exact ih hh
    exact this _ hk
   ·exact y84 hC hE h ho (by rw[hfv];simp[Ty.wrap,Ty.agg]) hn _ hk
 ·rename_i β hev;split at hk
  ·cases hk
  ·exact yBY hRd h ho hev hk
 ·rename_i n β hev;split at hk
  ·cases hk
  ·have hs:=y6 (T:=g.T) h 0 f;rw[hev]at hs;obtain ⟨⟨b,hb,hfv⟩,hin⟩:=hs;have hL:=h.live g.lv;have hcl:(s.live g.lv).cH=s.cH:=by cases g.lv<;>rfl
   have h1:yA P (Av A0 ρ s.cH) w ρ [.bP β 0] [.pointer (some ⟨b,0,none⟩)]:=⟨rfl,λ i sv hi=>by
    cases i with
    |zero=>cases hi;exact ⟨_,rfl,b,hb,rfl⟩
    |succ i=>cases hi⟩
   obtain ⟨hEn,hCalls⟩:=hC hL (svs:=.bP β 0::y1G g.T s args.toList ts.toList) (vs:=.pointer (some ⟨b,0,none⟩)::args.toList.map a.eval) (by rw[hcl];exact h1.append (y0f (g:=g) h args.toList ts.toList)) (λ sv hs=>by
    rw[hcl];rcases mem_cons.1 hs with rfl|hs
    ·exact hin
    ·exact y4g h _ _ sv hs) hk
   refine OpTo.of_calls (by rw[ho];intro c hc;cases hc) (y2b (first:=[.pointer (some ⟨b,0,none⟩)]) (caps:=[]) ho (by rw[hfv]) hEn) (by simpa using hCalls) ?_
   rintro e w' ⟨v,ρ',s',sv,rfl,hR,hv,hi,hK⟩
   exact ⟨_,rfl,ρ',_,hR.put o.dst hi hv,hK⟩
 ·cases hk
theorem yGW(hE:∀ e∈g.E,FnOK P e)(h:Rel P A0 w0 ρ s a w){q:TypeId×Ty}(hq:y26 g o=some q)(hk:ownK g s o q K=some r):OpTo P w0.ro o a w (Goes P A0 w0 K r):=by
 unfold ownK at hk;split at hk
 ·rename_i n args ts ho;unfold y26 at hq;rw[ho]at hq;dsimp only at hq;obtain ⟨_,hq1⟩:=yG hq;clear hq;obtain ⟨e,he,hq2⟩:=bind_eq_some_iff.1 hq1;clear hq1;obtain ⟨hm,rfl⟩:=y1t he;obtain ⟨hEn,_,hO,_⟩:=hE e hm;have hO:=hO q hq2;split at hk
  ·rename_i x t hargs hts;have hS:=h.settle (y8 g.T t s x);generalize s.settle (y8 g.T t s x)=s1 at hk hS;obtain ⟨ys,hy,hk⟩:=bind_eq_some_iff.1 hk;have hle:List.length ys<=memMax:=by
    by_cases hle:List.length ys<=memMax
    ·exact hle
    ·rw[decide_eq_false hle]at hk;cases hk
   rw[decide_eq_true hle,cond_true]at hk;obtain ⟨l,h1,h2⟩:=y04 (y6 (T:=g.T) hS t x).1 hy;have hf:a.eval (.func e.f)=.func (.func e.f) ([]:List Value).toArray ([]:List Value).toArray:=rfl;have hrun:=y2b (P:=P) (w:=w) ho hf hEn;rw[hargs]at hrun;simp only[List.map_cons,List.map_nil,nil_append,append_nil]at hrun;obtain ⟨p,c,m,hl,hp0,hpc,hml,hmx,hmc⟩:∃ (p:Option Addr) (c:Nat) (m:List Value),l=[.slice p (List.length ys) c]/\(p=none->List.length ys=0)/\(∀ ad,p=some ad->∀ j v,m[j]?=some v->w.cell? (ad.add j)=some v) /\
     m.length=List.length ys * q.2.size/\(∀ v∈m,v.oneCell'=true)/\∀ (i:Nat) (x:q.2.den),(ys:List q.2.den)[i]?=some x->Cells P q.2 (Av A0 ρ s1.cH) w x ((m.drop (i * q.2.size)).take q.2.size):=by
    rcases y02 h1 with ⟨rfl,p,c,rfl⟩|⟨b1,off,c,m,rfl,hm1,hm2⟩
    ·exact ⟨p,c,[],rfl,λ _=>rfl,λ _ _ j v hj=>by simp at hj,by simp,λ v hv=>by simp at hv,λ i x hx=>by simp at hx⟩
    ·refine ⟨some ⟨b1,off,none⟩,c,m,rfl,(λ hp=>by cases hp),λ ad had j v hj=>?_,hm2.length,λ v hv=>yV (Cells.plain hm2 v hv),λ i x hx=>?_⟩
     ·cases had;rw[yu];exact hm1 j v hj
     ·simp only[Cells]at hm2;exact hm2.2.2 i x hx
   subst hl;have hav:a.eval x=.slice p (List.length ys) c:=h2;rw[hav]at hrun;have hcall:=hO w p (List.length ys) c m hml hle hp0 hpc hmx;refine OpTo.of_calls (by rw[ho];intro c hc;cases hc) hrun hcall ?_
   rintro ex w' ⟨v',rfl,⟨_,hown⟩,hB⟩
   have hcs:s1.cH.length < (s1.cH++[some (Chunk.arr q.1 q.2 ys false)]).length:=by simp
   rcases hown with ⟨rfl,hn0⟩|⟨gb,cap,cur,rfl,hgb,hg,hnc,hcm,hcs2,htk⟩
   ·have hys:ys=([]:List q.2.den):=List.eq_nil_of_length_eq_zero hn0;subst hys;have h3:=hS.newChunk (.arr q.1 q.2 ([]:List q.2.den) false) ⟨none,0,0,[],[],[]⟩ hB (λ b hb=>by cases hb) trivial (λ A hA _=>⟨rfl,(λ h=>by cases h),.inl ⟨rfl,rfl,rfl⟩⟩)
    refine ⟨_,rfl,_,_,h3.put o.dst (sv:=.own s1.cH.length) hcs ?_,hk⟩;show _=Value.slice _ _ _
    rw[Places.set_self];rfl
   ·have h3:=hS.newChunk (.arr q.1 q.2 ys false) ⟨some gb,List.length ys,cap,[],[],[]⟩ hB (λ b hb=>by cases hb;exact hgb) trivial (λ A hA _=>by
     refine ⟨rfl,(λ h=>by cases h),.inr ⟨gb,cur,rfl,hg,hnc,hcm,hcs2,λ i x hi=>?_⟩⟩
     have hi1:i < List.length ys:=(List.getElem?_eq_some_iff.1 hi).1;have hsz:i * q.2.size+q.2.size<=List.length ys * q.2.size:=by rw[<- succ_mul];exact mul_le_mul_right _ hi1
     have e1:(cur.toList.drop (i * q.2.size)).take q.2.size=(m.drop (i * q.2.size)).take q.2.size:=by
      rw[<- htk,drop_take,take_take,min_eq_left (by omega)]
     rw[e1];exact (hmc i x hi).mono (λ n hn _=>hB.block n hn) hA)
    refine ⟨_,rfl,_,_,h3.put o.dst (sv:=.own s1.cH.length) hcs ?_,hk⟩;show _=Value.slice _ _ _
    rw[Places.set_self];rfl
  ·cases hk
 ·cases hk
theorem yD3(hE:∀ e∈g.E,FnOK P e)(h:Rel P A0 w0 ρ s a w){q:TV}(hq:y72 g o=some q)(hk:K (s.put o.dst (.xV q.t q.x))=some r):OpTo P w0.ro o a w (Goes P A0 w0 K r):=by
 unfold y72 at hq;split at hq
 ·rename_i n args ts ho;obtain ⟨hc,hq1⟩:=yG hq;simp only[and_eq_true,beq_iff_eq]at hc;have hargs:args=#[]:=Array.eq_empty_of_size_eq_zero hc.2;subst hargs;obtain ⟨e,he,hq2⟩:=bind_eq_some_iff.1 hq1;obtain ⟨hm,rfl⟩:=y1t he;obtain ⟨hEn,_,_,hX⟩:=hE e hm;have hq3:e.ex=some (.x q):=by
   split at hq2
   ·rename_i v hv;cases hq2;exact hv
   ·cases hq2
  have hX:ExOK P e.f q:=hX _ hq3;have hf:a.eval (.func e.f)=.func (.func e.f) ([]:List Value).toArray ([]:List Value).toArray:=rfl;have hrun:=y2b (P:=P) (w:=w) ho hf hEn;simp only[List.map_nil,nil_append,append_nil]at hrun;have hcall:=hX (Av A0 ρ s.cH) w h.globW (λ n hn=>h.av_lt hn)
  refine OpTo.of_calls (by rw[ho];intro c hc;cases hc) hrun hcall ?_
  rintro ex w' ⟨l,rfl,hl,hex,hB⟩
  exact ⟨_,rfl,_,_,(h.step hB).put o.dst (sv:=.xV q.t q.x) trivial ⟨l,hl,rfl,hex⟩,hk⟩
 ·cases hq
theorem yA3(hE:∀ e∈g.E,FnOK P e)(hT:yc P g.T)(h:Rel P A0 w0 ρ s a w)(hk:effX g s o K=some r):OpTo P w0.ro o a w (Goes P A0 w0 K r):=by
 unfold effX at hk;split at hk
 ·rename_i q hq;exact yGW hE h hq hk
 split at hk
 ·rename_i q hq;exact yD3 hE h hq hk
 ·exact (y9k hE hT h hk).opTo (λ c hc=>by simp[effK,hc]at hk)
end
end Go.Vx
end
section
namespace Go.Vx
open Go.RowKit
variable [GT]
section
variable {R:Type} {g:G} {s:St} {o:Oper}
theorem yLI(op:BinOp)(k:IntKind)(a b:Int)(K:SV->Option R):intK op k a b K=(intK op k a b some).bind K:=by
 unfold intK;split<;>first|rfl|(cases (b == 0)<;>rfl)
theorem y9q(op:BinOp)(k:IntKind)(a b:Int)(K:SV->Option R):yAH op k a b K=(yAH op k a b some).bind K:=by
 unfold yAH;cases decide (b < 0)
 ·simp only[cond_false];split<;>rfl
 ·rfl
theorem yLy(op:BinOp)(a b:List UInt8)(K:SV->Option R):strK op a b K=(strK op a b some).bind K:=by
 unfold strK;split<;>first|rfl|(cases decide (a.length+b.length < strMax)<;>rfl)
theorem yLR(op:BinOp)(k:FloatKind)(a b:Nat)(K:SV->Option R):fltK op k a b K=(fltK op k a b some).bind K:=rfl
theorem yC8(op:BinOp)(k:FloatKind)(a b:Nat×Nat)(K:SV->Option R):y4c op k a b K=(y4c op k a b some).bind K:=rfl
theorem yHp(xs:List SV)(K:SV->Option R):yLh xs K=(yLh xs some).bind K:=rfl
theorem yJs(xs:List SV)(K:SV->Option R):yM6 xs K=(yM6 xs some).bind K:=rfl
theorem yIP(xs:List SV)(K:SV->Option R):yKn xs K=(yKn xs some).bind K:=rfl
theorem yEo(ty:Ty)(op:BinOp)(t:Ty)(p:t.den)(u:Ty)(q:u.den)(K:SV->Option R):aggK ty op t p u q K=(aggK ty op t p u q some).bind K:=by
 unfold aggK;split
 ·split
  ·split<;>rfl
  ·rfl
 ·rfl
theorem y4f(ty:Ty)(op:BinOp)(b:Bool)(K:SV->Option R):y5k ty op b K=(y5k ty op b some).bind K:=by
 unfold y5k;split
 ·split<;>rfl
 ·rfl
theorem yLc(ty:Ty)(op:BinOp)(x y:SV)(K:SV->Option R):binK ty op x y K=(binK ty op x y some).bind K:=by
 unfold binK;split
 ·split
  ·exact y9q ..
  ·exact y9q ..
  ·split
   ·exact yLI ..
   ·rfl
 ·exact yLy ..
 ·split
  ·split<;>rfl
  ·rfl
 ·split
  ·exact yLR ..
  ·rfl
 ·split
  ·exact yC8 ..
  ·rfl
 ·split
  ·split<;>rfl
  ·split<;>rfl
  ·rfl
 ·exact yEo ..
 ·exact yEo ..
 ·exact y4f ..
 ·exact y4f ..
 ·exact y4f ..
 ·exact y4f ..
 ·rfl
theorem yNs(op:UnOp)(x:SV)(K:SV->Option R):unK op x K=(unK op x some).bind K:=by
 unfold unK;split<;>rfl
theorem yLx(ty:Ty)(cs:List (Option Chunk))(x:SV)(K:SV->Option R):lenK ty cs x K=(lenK ty cs x some).bind K:=by
 unfold lenK;split
 ·split<;>rfl
 ·split<;>rfl
 ·split<;>rfl
 ·split<;>rfl
 ·split
  ·split<;>rfl
  ·rfl
 ·split
  ·split
   ·simp only[bind_assoc,bind_some]
   ·rfl
  ·rfl
 ·split<;>rfl
theorem yDf{u:Ty}{q:Nat}{v:Ty}{x:u.den}{off:Nat}{τ:Ty}{β n:Nat}(K:SV->Option R):y8G u q v x off τ β n K=(y8G u q v x off τ β n some).bind K:=by
 unfold y8G;split
 ·rfl
 ·rw[bind_assoc];congr 1
  funext x0
  rw[bind_assoc];congr 1
  funext y
  split<;>rfl
theorem y4d{α:Type}(xs:List α)(lo hi:Option Int)(F:List α->SV)(K:SV->Option R):(y66 xs lo hi λ ys=>K (F ys))=(y66 xs lo hi λ ys=>some (F ys)).bind K:=by
 unfold y66;split
 ·rfl
 ·rename_i l;cases (decide (0<=l) && decide (l<=(xs.length:Int)))<;>rfl
 ·rename_i h;cases (decide (0<=h) && decide (h<=(xs.length:Int)))<;>rfl
 ·rename_i l h;cases (decide (0<=l) && decide (l<=h) && decide (h<=(xs.length:Int)))<;>rfl
theorem yFs(mx:Bool)(xs:List SV)(K:SV->Option R):maxK mx xs K=(maxK mx xs some).bind K:=by
 unfold maxK;split
 ·split<;>rfl
 ·rw[bind_assoc];congr 1
  funext r
  split<;>rfl
 ·rfl
theorem yk{α:Type}(x:Option α)(F:α->SV)(K:SV->Option R):(x.bind λ y=>K (F y))=(x.bind λ y=>some (F y)).bind K:=by cases x<;>rfl
theorem yJT(f:FuncId)(first:List Operand)(K:SV->Option R):yBB g s f first K=(yBB g s f first some).bind K:=by
 unfold yBB;split
 ·split
  ·rfl
  ·split
   ·rename_i t _ _ _ _ _ _;cases Ty.solid t
    ·rfl
    ·simp only[cond_true];rw[bind_assoc];rfl
   ·rfl
 ·rfl
theorem yI5(cs:List (Option Chunk))(sv:SV)(K:SV->Option R):y9Q cs sv K=(y9Q cs sv some).bind K:=by
 unfold y9Q;split
 ·split
  ·rename_i xs _ _;cases decide (0 < List.length xs)<;>rfl
  ·rfl
 ·rfl
theorem yM5(sv:SV)(K:SV->Option R):ptrK sv K=(ptrK sv some).bind K:=by
 unfold ptrK;split<;>rfl
theorem y37(K:SV->Option R):yU g s o K=(yU g s o some).bind K:=by
 unfold yU;split
 ·rfl
 ·rfl
 ·split
  ·rename_i p _;cases p<;>rfl
  ·rfl
 ·split
  ·rfl
  split
  ·exact yk ..
  ·split
   ·split
    ·exact yk ..
    ·exact yk (F:=λ y=>y) ..
   ·rfl
  ·split
   ·split
    ·simp only[bind_assoc,bind_some]
    ·rfl
   ·split
    ·rw[bind_assoc];congr 1
     funext x
     exact yDf ..
    ·rfl
   ·rfl
  ·split
   ·split
    ·simp only[bind_assoc,bind_some]
    ·rfl
   ·rfl
  ·rfl
 ·split
  ·rfl
  ·split
   ·rfl
   ·rfl
   ·exact yLc ..
 ·exact yNs ..
 ·split
  ·rfl
  ·split
   ·split<;>rfl
   ·split<;>rfl
   ·split
    ·exact yk ..
    ·exact yk ..
    ·rfl
   ·split
    ·split<;>rfl
    ·rfl
   ·rfl
 ·split
  ·split
   ·exact yk ..
   ·rfl
  ·split
   ·split
    ·rw[bind_assoc];congr 1
     funext p
     rw[bind_assoc];congr 1
     funext j
     split
     ·exact yk ..
     ·exact yk (F:=λ y=>y) ..
    ·rfl
   ·rfl
  ·rfl
 ·split
  ·split
   ·exact yk ..
   ·rfl
  ·split
   ·exact yk ..
   ·rfl
  ·split
   ·exact yk ..
   ·rfl
  ·split
   ·exact yk ..
   ·rfl
  ·rfl
 ·split
  ·split
   ·exact yk ..
   ·rfl
  ·split
   ·exact yk ..
   ·rfl
  ·split
   ·exact yk ..
   ·rfl
  ·split
   ·split
    ·exact yk ..
    ·rfl
   ·split
    ·exact yk ..
    ·rfl
   ·rfl
  ·split
   ·split
    ·simp only[bind_assoc,bind_some]
    ·rfl
   ·rfl
  ·rename_i n _ _ _ _ _;split
   ·rename_i m _ _;cases hb:(decide (0<=n) && decide (n < (m:Int)))
    ·rfl
    ·simp only[cond_true];split
     ·split<;>rfl
     ·rfl
     ·rfl
   ·rfl
  ·rfl
 ·split
  ·split
   ·exact yk ..
   ·rfl
  ·split
   ·exact yk ..
   ·rfl
  ·rfl
 ·split
  ·split
   ·rw[bind_assoc];congr 1
    funext y
    unfold yBV;split<;>rfl
   ·rfl
  ·split
   ·split
    ·rw[bind_assoc];congr 1
     funext y
     generalize yGf _ _ y=b;cases b<;>rfl
    ·rfl
   ·rfl
  ·rfl
 ·split
  ·exact yk ..
  ·split
   ·rw[bind_assoc];rfl
   ·rfl
  ·rfl
 ·split
  ·rfl
  ·split
   ·exact yk ..
   ·rfl
 ·split
  ·split
   ·split
    ·exact yk ..
    ·rfl
   ·split
    ·exact yk ..
    ·rfl
   ·rfl
  ·rfl
 ·split
  ·rfl
  ·split
   ·split
    ·split
     ·exact yk ..
     ·rfl
    ·rfl
   ·rfl
 ·split
  ·exact yk ..
  ·split
   ·exact yJT ..
   ·rfl
 ·split
  ·split
   ·split
    ·exact y4d ..
    ·rfl
   ·split
    ·exact y4d ..
    ·rfl
   ·split
    ·exact y4d ..
    ·rfl
   ·split
    ·exact y4d ..
    ·rfl
   ·rfl
  ·rfl
 ·split
  ·split
   ·split
    ·exact yLx ..
    ·rfl
   ·rfl
  ·exact yFs ..
  ·exact yFs ..
  ·exact yHp ..
  ·exact yJs ..
  ·exact yIP ..
  ·split
   ·exact yI5 ..
   ·rfl
  ·rfl
 ·exact yM5 ..
 ·rfl
theorem y2f{α:Type}(x:Option α)(F:α->St)(K:St->Option R):(x.bind λ y=>K (F y))=(x.bind λ y=>some (F y)).bind K:=by cases x<;>rfl
theorem yLv{c:Prop}[Decidable c]{a b:Option R}{a' b':Option St}{K:St->Option R}(h1:a=a'.bind K)(h2:b=b'.bind K):(if c then a else b)=(if c then a' else b').bind K:=by
 split<;>assumption
theorem yKi{t:TypeId}{m key x:Operand}(K:St->Option R):putM g s o t m key x K=(putM g s o t m key x some).bind K:=rfl
theorem yG2{t:TypeId}{m key x:Operand}(K:St->Option R):putK g s o t m key x K=(putK g s o t m key x some).bind K:=by
 unfold putK;split
 ·exact yKi K
 dsimp only;split
 ·split
  ·split
   ·simp only[bind_assoc,bind_some]
   ·rfl
  ·rfl
 ·rfl
theorem y9E{b x:Operand}{t t':TypeId}(K:St->Option R):y2L g s o b x t t' K=(y2L g s o b x t t' some).bind K:=rfl
theorem yCE{x n:Operand}{t:TypeId}(K:St->Option R):y5K g s o x n t K=(y5K g s o x n t some).bind K:=by
 unfold y5K;split
 ·split
  ·split
   ·split
    ·rename_i m _ _ _ _ e xs _ _ _ _ _ _;cases (m == (List.length xs:Int) && decide (0 < List.length xs) && yDU xs)<;>rfl
    ·rfl
   ·rfl
  ·rfl
 ·rfl
theorem y6f{e:TypeId}{i:TyI}{d:Option Nat}(K:St->Option R):y3d g s e i d K=(y3d g s e i d some).bind K:=by
 unfold y3d;split
 ·split<;>rfl
 ·rfl
 ·dsimp only;split<;>rfl
theorem y7s(c:Bool)(x:St)(K:St->Option R):(bif c then K x else none)=(bif c then some x else none:Option St).bind K:=by cases c<;>rfl
theorem yAW{i:TyI}{ad:Operand}{β off:Nat}{u:Ty}{cells:List SV}{sv:SV}(K:St->Option R):y4M g s o i ad β off u cells sv K=(y4M g s o i ad β off u cells sv some).bind K:=by
 unfold y4M;split
 ·rw[bind_assoc];congr 1
  funext p
  split<;>rfl
 ·rfl
theorem yAX{t:TypeId}{ps:Array (Nat×Operand)}(K:St->Option R):y3x g s o t ps K=(y3x g s o t ps some).bind K:=by
 unfold y3x;split
 ·split
  ·split
   ·split
    ·exact y2f ..
    ·rfl
   ·exact y2f ..
  ·rfl
 ·rfl
theorem yBR{t:TypeId}{n:Nat}{ps:List (Nat×Operand)}(K:St->Option R):y4V g s o t n ps K=(y4V g s o t n ps some).bind K:=rfl
theorem y9X{b x:Operand}{t t':TypeId}(K:St->Option R):y2N g s o b x t t' K=(y2N g s o b x t t' some).bind K:=rfl
theorem yK0{i:TyI}{β n sz off:Nat}{sv:SV}(K:St->Option R):yIn s o i β n sz off sv K=(yIn s o i β n sz off sv some).bind K:=rfl
theorem yC9{i:TyI}{u:Ty}{n m:Int}(K:St->Option R):y5P g s o i u n m K=(y5P g s o i u n m some).bind K:=rfl
theorem yGz{i:TyI}{β m:Nat}{sv:SV}(K:St->Option R):yCx s o i β m sv K=(yCx s o i β m sv some).bind K:=rfl
theorem yCi{t:TypeId}{x:Operand}(K:St->Option R):y5l g s o t x K=(y5l g s o t x some).bind K:=by
 unfold y5l;split
 ·split
  ·split<;>rfl
  ·rfl
 ·rfl
theorem yKx(K:St->Option R):effK g s o K=(effK g s o some).bind K:=by
 unfold effK;split
 ·split
  ·split
   ·exact y6f ..
   ·rfl
  split
  ·split<;>rfl
  split
  ·rfl
  dsimp only;split
  ·exact y2f ..
  ·rfl
 ·split
  ·split
   ·exact y6f ..
   ·rfl
  ·rfl
 ·split
  ·split
   ·split
    ·split
     ·split<;>rfl
     split
     ·split<;>rfl
     split
     ·split<;>rfl
     ·exact yAW ..
    ·split<;>rfl
   ·rfl
  ·split
   ·exact yK0 ..
   dsimp only;split
   ·split
    ·simp only[bind_assoc,bind_some]
    ·rfl
   ·split
    ·simp only[bind_assoc,bind_some]
    ·rfl
   ·rfl
  ·dsimp only;split
   ·split
    ·simp only[bind_assoc,bind_some]
    ·rfl
   ·rfl
  ·rfl
 ·exact yAX ..
 ·exact yCi ..
 ·split
  ·split
   ·refine yLv ?_ rfl;split<;>rfl
   ·rfl
  ·rfl
 ·split
  ·split<;>rfl
  ·rfl
 ·unfold yKv;split
  ·split
   ·rename_i bs q _;cases decide (q < (List.length bs:Int))<;>rfl
   ·rfl
  ·rfl
 ·exact yG2 ..
 ·exact yG2 ..
 ·split
  ·split
   ·rename_i n m _ _ _ _ u _;split
    ·exact yC9 ..
    cases (u.zok && decide (0<=n) && decide (n<=(memMax:Int)) && n == m)<;>rfl
   ·rfl
  ·rfl
 ·split
  ·exact yBR ..
  dsimp only;split
  ·split
   ·split
    ·rfl
    ·exact y2f ..
   ·rfl
  ·rfl
 ·split
  ·split
   ·split
    ·exact y2f ..
    ·rfl
   ·rfl
  ·rfl
 ·split
  ·split
   ·split
    ·exact y7s ..
    ·rfl
   ·rfl
  ·rfl
 ·split
  ·split
   ·split
    ·exact y7s ..
    ·rfl
   ·rfl
  ·rfl
 ·split
  ·exact yCE ..
  ·rfl
 ·split
  ·split
   ·exact y9E ..
   split
   ·exact y9X ..
   dsimp only;split
   ·split
    ·rename_i e u xs nn _;split
     ·rw[bind_assoc];congr 1
      funext ys
      cases decide (xs.length+List.length ys<=memMax)<;>rfl
     ·rfl
    ·rfl
   ·rename_i u xs _ _;split
    ·rw[bind_assoc];congr 1
     funext ys
     cases (decide (0 < List.length xs) && decide (0 < List.length ys) && decide (List.length xs+List.length ys<=memMax))<;>rfl
    ·rfl
   ·rfl
  ·rfl
 ·split
  ·dsimp only;split
   ·split
    ·split
     ·exact y2f ..
     ·rfl
    ·rfl
   ·exact yGz ..
   ·split
    ·split
     ·exact y2f ..
     ·rfl
    ·rfl
   ·rfl
  ·rfl
 ·rfl
theorem yLT{q:TypeId×Ty}(K:St->Option R):ownK g s o q K=(ownK g s o q some).bind K:=by
 unfold ownK;split
 ·split
  ·dsimp only;rw[bind_assoc];congr 1
   funext ys
   cases decide (List.length ys<=memMax)<;>rfl
  ·rfl
 ·rfl
theorem yLj(K:St->Option R):effX g s o K=(effX g s o some).bind K:=by
 unfold effX;split
 ·exact yLT ..
 split
 ·rfl
 ·exact yKx ..
theorem y3O{ta tr:Ty}{m:ta.den->Option tr.den}{c:Call}{caps:St->List SV}{dr:Bool}{dst:Option Nat}(K:St->Option R) :
  y0u g ta tr m s c caps dr dst K=(y0u g ta tr m s c caps dr dst some).bind K:=by
 unfold y0u;split
 ·simp only[bind_assoc,bind_some]
 ·split
  ·simp only[bind_assoc,bind_some]
  ·simp only[bind_assoc,bind_some]
def y0i(call:(R:Type)->yv R):Prop:=
 ∀ {R:Type} (n:Tgt) (svs:List SV) (s:St) (K:SV->St->Option R),call R n svs s K=(call (SV×St) n svs s λ sv s=>some (sv,s)).bind λ p=>K p.1 p.2
theorem yH3{call:(R:Type)->yv R}(hN:y0i call){c:Call}{f:Operand}{β:Nat}(K:St->Option R):y9v g (call R) s o c f β K=(y9v g (call St) s o c f β some).bind K:=by
 unfold y9v;split
 ·dsimp only;split
  ·rw[hN,hN (R:=St),bind_assoc];congr 1
   funext p
   split
   ·split<;>rfl
   ·rfl
  ·rfl
 ·rfl
theorem yD0{call:(R:Type)->yv R}(hN:y0i call){c:Call}{m:Nat}(K:St->Option R):∀ l:List FuncId,yBL g (call R) s o c m K l=(yBL g (call St) s o c m some l).bind K
 |[]=>rfl
 |n::l=>by
  unfold yBL;cases m == n+1 with
  |false=>exact yD0 hN K l
  |true =>
   simp only[cond_true];split
   ·exact y3O ..
   ·rw[hN,hN (R:=St),bind_assoc];rfl
theorem yBn{β off:Nat}{t:List UInt8}(K:SV->Option R):∀ (l:List (List UInt8×Nat)),yDX β off t K l=(yDX β off t some l).bind K
 |[]=>rfl
 |p::l=>by
  unfold yDX;cases t == p.1 with
  |true=>rfl
  |false=>exact yBn K l
theorem yB4{q:RdK}{cs:List (Option Chunk)}{svs:List SV}(K:SV->Option R):rdK q cs svs K=(rdK q cs svs some).bind K:=by
 unfold rdK;split
 ·split
  ·simp only[yBI,bind_assoc,bind_some]
  ·rfl
 ·split
  ·exact yBn ..
  ·rfl
 ·rfl
theorem yJy{call:(R:Type)->yv R}(hN:y0i call){dr:Bool}{c:Call}{f:Operand}(K:St->Option R):yC3 g (call R) dr s o c f K=(yC3 g (call St) dr s o c f some).bind K:=by
 unfold yC3;split
 ·split
  ·split
   ·rw[yB4,yB4 (R:=St),bind_assoc];rfl
   ·exact y3O ..
  ·split
   ·rfl
   ·rw[hN,hN (R:=St),bind_assoc];rfl
 ·exact y3O ..
 ·split
  ·rfl
  ·exact yD0 hN ..
 ·split
  ·rfl
  ·exact yH3 hN ..
 ·split
  ·rfl
  ·rw[hN,hN (R:=St),bind_assoc];rfl
 ·rfl
theorem yEl{R:Type}(K:St->Option R):newD g s o K=(newD g s o some).bind K:=by
 unfold newD;split
 ·rfl
 ·split
  ·split
   ·split
    ·split
     ·split
      ·rfl
      ·rw[bind_assoc];rfl
     ·rfl
    ·rfl
   ·split
    ·split
     ·rfl
     ·split
      ·split
       ·split
        ·split
         ·rw[bind_assoc];congr 1
          funext ys
          cases decide (_<=memMax)<;>rfl
         ·rfl
        ·rfl
       ·rfl
      ·rfl
    ·rfl
   ·split
    ·split
     ·rfl
     ·rw[bind_assoc];congr 1
      funext ys
      cases decide (List.length ys<=memMax)<;>rfl
    ·rfl
   ·split
    ·split
     ·split
      ·split
       ·exact y7s ..
       ·rfl
      ·rfl
     ·rfl
    ·rfl
   ·split
    ·rfl
    ·split<;>rfl
   ·rfl
  ·rfl
theorem y5b(K:SV->Option R):y8g g s o K=(y8g g s o some).bind K:=by
 unfold y8g;split
 ·rfl
 ·exact y37 ..
noncomputable def y0g(g:G)(ta tr:Ty)(m:ta.den->Option tr.den)(s:St)(c:Call)(caps:St->List SV):Option SV:=
 if tr.flat then (y0s g.E s.cH ta (y1G g.T s c.args.toList c.argTypes.toList++caps s)).bind λ x=>(m x).bind λ y=>some (y8U tr y)
 else (y0s g.E [] ta (y1G g.T s c.args.toList c.argTypes.toList++caps s)).bind λ x=>(m x).bind λ y=>some (y8U tr y)
noncomputable def y7H(g:G)(d:Option Nat)(s:St)(c:Call)(f:Operand):Option SV:=
 match y8 g.T 0 s f with
 |.clo n _=>(match yCV g d n with
  |some e=>(match e.rdk with
   |some q=>rdK q s.cH (y1G g.T s c.args.toList c.argTypes.toList++ya g.T f s) some
   |none=>y0g g e.args e.rS e.m s c (ya g.T f))
  |none=>none)
 |.val (.func a b) m=>y0g g a b m s c (λ _=>[])
 |_=>none
theorem y6A{ta tr:Ty}{m:ta.den->Option tr.den}{c:Call}{caps:St->List SV}(K:SV->Option R):y4n g ta tr m s c caps K=(y0g g ta tr m s c caps).bind K:=by
 unfold y4n y0g;split
 ·cases y0s g.E s.cH ta (y1G g.T s c.args.toList c.argTypes.toList++caps s)with
  |none=>rfl
  |some x =>
   simp only[bind_some];cases m x<;>rfl
 ·cases y0s g.E [] ta (y1G g.T s c.args.toList c.argTypes.toList++caps s)with
  |none=>rfl
  |some x =>
   simp only[bind_some];cases m x<;>rfl
theorem y5N{d:Option Nat}{c:Call}{f:Operand}(K:SV->Option R):yKP g d s c f K=(y7H g d s c f).bind K:=by
 unfold yKP y7H;generalize y8 g.T 0 s f=sv;cases sv with
 |clo n caps =>
  dsimp only;cases yCV g d n with
  |none=>rfl
  |some e =>
   dsimp only;cases e.rdk with
   |none=>exact y6A K
   |some q=>exact yB4 K
 |val t m=>cases t<;>first|rfl|exact y6A K
 |_=>rfl
theorem y2P{call:(R:Type)->yv R}(hN:y0i call){dr:Bool}(K:St->Option R):y09 g (call R) dr s o K=(y09 g (call St) dr s o some).bind K:=by
 unfold y09;split
 ·split
  ·unfold effD;split
   ·exact yEl K
   ·split
    ·unfold y5c;split
     ·split
      ·rfl
      ·split<;>rfl
     ·rfl
    ·split
     ·unfold y4u;split
      ·split
       ·rfl
       ·split
        ·split
         ·split
          ·rename_i t _ x _ _ _ _ _ _ _ _ _ _ _ _;cases y0p [] (y8 g.T _ s _) _ with
           |none=>rfl
           |some y =>
            simp only[bind_some];split<;>rfl
          ·split<;>rfl
         ·rfl
        ·split
         ·split
          ·simp only[bind_assoc];congr 1
          ·rfl
         ·rfl
        ·rfl
      ·rfl
     ·rfl
  ·exact yLj ..
 ·dsimp only;split
  ·split
   ·rw[y5N,y5N,bind_assoc];congr 1
    funext sv
    split<;>rfl
   ·exact yJy hN ..
  ·split
   ·rw[y5b,y5b (R:=St),bind_assoc];congr 1
    funext sv
    split<;>rfl
   ·rw[y37,y37 (R:=St),bind_assoc];rfl
theorem y0v{call:(R:Type)->yv R}(hN:y0i call){dr:Bool}{ops:Array Oper}:∀ (l:List Oper) {R:Type} (s:St) (K:St->Option R),y0c g (call R) dr ops l s K=(y0c g (call St) dr ops l s some).bind K
 |[],_,_,_=>rfl
 |o::l,R,s,K=>by
  have ih:=λ {R:Type} s (K:St->Option R)=>y0v hN (ops:=ops) (dr:=dr) l s K
  unfold y0c;split
  ·conv=>rhs;rw[y2P hN]
   rw[y2P hN (R:=R),bind_assoc];congr 1
   funext s'
   exact ih s' K
  ·cases hb:y46 ops s _ with
   |none=>rfl
   |some ob =>
    simp only[bind_some];cases ob with
    |none =>
     have gone:∀ s1 s2:St,(bif dr && !y1h g s2 o then none else y0c g (call R) dr ops l s1 K)=(bif dr && !y1h g s2 o then none else y0c g (call St) dr ops l s1 some).bind K:=λ s1 s2=>by
      cases dr && !y1h g s2 o with
      |true=>rfl
      |false=>exact ih s1 K
     exact gone _ _
    |some b =>
     dsimp only;rename_i want _;have gone:∀ s1 s2:St,(bif dr && !y1h g s2 o then none else y0c g (call R) dr ops l s1 K)=(bif dr && !y1h g s2 o then none else y0c g (call St) dr ops l s1 some).bind K:=λ s1 s2=>by
      cases dr && !y1h g s2 o with
      |true=>rfl
      |false=>exact ih s1 K
     have st:∀ s1:St,(y09 g (call R) dr s1 o λ s'=>y0c g (call R) dr ops l s' K)=(y09 g (call St) dr s1 o λ s'=>y0c g (call St) dr ops l s' some).bind K:=λ s1=>by
      conv=>rhs;rw[y2P hN]
      rw[y2P hN (R:=R),bind_assoc];congr 1
      funext s'
      exact ih s' K
     cases want<;>cases b<;>first|exact st _|exact gone _ _
theorem yGw{x y:SV}(K:Option St){R:Type}(F:St->Option R):y9h x y (K.bind F)=(y9h x y K).bind F:=by
 unfold y9h;split
 ·split
  ·split
   ·rename_i t a u b h1 h2;cases eqV t a (h1 ▸ b)<;>rfl
   ·rfl
  ·rfl
 ·split<;>rfl
 ·split<;>rfl
 ·rfl
theorem yDV{ops:Array Oper}{o:Oper}(K:Option St){R:Type}(F:St->Option R):y3P g ops s o (K.bind F)=(y3P g ops s o K).bind F:=by
 unfold y3P;split
 ·split
  ·cases yF1 ops s o with
   |none=>rfl
   |some b =>
    cases b
    ·simp only[bind_some,cond_false];split<;>rfl
    ·simp only[bind_some,cond_true];rw[y37];conv=>rhs;rw[y37]
     cases yU g s o some with
     |none=>rfl
     |some sv=>simp only[bind_some];exact yGw K F
  ·rfl
 ·rfl
theorem y6x{ops:Array Oper}{R:Type}(F:St->Option R):∀ (l:List Oper) (K:Option St),y2F g ops s l (K.bind F)=(y2F g ops s l K).bind F
 |[],_=>rfl
 |o::l,K=>by
  show y3P g ops s o (y2F g ops s l (K.bind F))=(y3P g ops s o (y2F g ops s l K)).bind F
  rw[y6x F l K];exact yDV _ F
theorem yAq{call:(R:Type)->yv R}(hN:y0i call){ops:Array Oper}{ms:List Nat}:∀ (l:List Nat) (ls:Array Bool) (done:List Nat) {R:Type} (s:St) (K:St->Option R),
  runE g (call R) ops ms l ls done s K=(runE g (call St) ops ms l ls done s some).bind K
 |[],ls,done,R,s,K=>by
  unfold runE;split<;>rfl
 |i::l,ls,done,R,s,K=>by
  unfold runE;split
  ·rfl
  ·split
   ·split
    ·conv=>rhs;rw[y0v hN]
     rw[y0v hN (R:=R),bind_assoc];congr 1
     funext s'
     exact yAq hN l _ _ s' K
    ·rfl
   ·split
    ·conv=>rhs;rw[y0v hN]
     rw[y0v hN (R:=R),bind_assoc];congr 1
     funext s'
     rw[yAq hN l _ _ s' K];exact y6x K _ _
    ·rfl
theorem y5G{call:(R:Type)->yv R}(hN:y0i call){R:Type}{ops:Array Oper}(s:St)(K:St->Option R):y3u g (call R) ops s K=(y3u g (call St) ops s some).bind K:=by
 unfold y3u;dsimp only;unfold yDb;split;case isFalse=>rfl
 unfold yE7;split
 ·conv=>rhs;rw[y0v hN]
  rw[y0v hN (R:=R),bind_assoc];congr 1
  funext s'
  exact y0v hN _ _ _
 ·rfl
theorem y8n{call:(R:Type)->yv R}(hN:y0i call){R:Type}(s:St)(K:St->Option R):∀ (l:List Nat) (ops:Array Oper),y53 g (call R) l ops s K=(y53 g (call St) l ops s some).bind K
 |[],ops=>y5G hN s K
 |i::l,ops=>by
  unfold y53;split
  ·exact y8n hN s K l _
  ·rfl
theorem y81{call:(R:Type)->yv R}(hN:y0i call){R:Type}{ops:Array Oper}{draw:Bool}(s:St)(K:St->Option R):y45 g (call R) ops draw s K=(y45 g (call St) ops draw s some).bind K:=by
 unfold y45;split
 ·split
  ·unfold yBN;dsimp only;split
   ·exact yAq hN _ _ _ _ _
   ·rfl
  split;rotate_left
  ·exact y8n hN s K _ _
  split
  ·exact y5G hN s K
  ·unfold yEV;split
   ·exact y5G hN s K
   ·rfl
 ·exact y0v hN _ _ _
theorem y4Y{call:(R:Type)->yv R}(hN:y0i call){fuel:Nat}:∀ (c:Code) {R:Type} (kp:List (List Nat)) (s:St) (K:Exit->St->Option R),
  exec g (call R) fuel c kp s K=(exec g (call (Exit×St)) fuel c kp s λ e s=>some (e,s)).bind λ p=>K p.1 p.2:=by
 intro c;induction c with
 |region id ops draw =>
  intro R kp s K;simp only[exec];have key:∀ s:St,(y45 g (call R) ops draw s λ s'=>K .normal s')=(y45 g (call (Exit×St)) ops draw s λ s'=>some (Exit.normal,s')).bind λ p=>K p.1 p.2:=λ s=>by
   conv=>rhs;rw[y81 hN]
   rw[y81 hN (R:=R),bind_assoc];rfl
  unfold cutR;split
  ·rw[yEX,yEX];exact key _
  ·exact key _
 |seq x y ihx ihy =>
  intro R kp s K;simp only[exec];conv=>rhs;rw[ihx]
  rw[ihx (R:=R),bind_assoc];congr 1
  funext p
  obtain ⟨e,s'⟩:=p;cases e with
  |normal=>exact ihy _ _ _
  |_=>rfl
 |cond c x y ihx ihy =>
  intro R kp s K;simp only[exec];split
  ·rename_i p _;cases p with
   |true=>exact ihx _ _ _
   |false=>exact ihy _ _ _
  ·rfl
 |block id c ih =>
  intro R kp s K;simp only[exec];conv=>rhs;rw[ih]
  rw[ih (R:=R),bind_assoc];congr 1
  funext p
  obtain ⟨e,s'⟩:=p;cases e with
  |exit i =>
   dsimp only;split<;>rfl
  |_=>rfl
 |loop c ih =>
  intro R kp s K;simp only[exec];generalize stX (y75 c (kp.headD []) s)=y;generalize hs0:y75 c (kp.headD []) s=s0 at y;have key:∀ (n:Nat) (y:(stTy s0).den),
    iter (λ (r:(stTy s0).den->Option R) (y:(stTy s0).den)=>exec g (call R) fuel c kp.tail (y4x s0 y) λ e s'=>match e with
     |.normal=>(stAs s0 (canon (kp.headD []) (frzK (kp.headD []) s'))).bind r
     |e=>K e s') n y =
    (iter (λ (r:(stTy s0).den->Option (Exit×St)) (y:(stTy s0).den)=>exec g (call (Exit×St)) fuel c kp.tail (y4x s0 y) λ e s'=>match e with
     |.normal=>(stAs s0 (canon (kp.headD []) (frzK (kp.headD []) s'))).bind r
     |e=>some (e,s')) n y).bind λ p=>K p.1 p.2:=by
   intro n;induction n with
   |zero=>intro y;rfl
   |succ n ihn =>
    intro y;simp only[iter];conv=>rhs;rw[ih]
    rw[ih (R:=R),bind_assoc];congr 1
    funext p
    obtain ⟨e,s'⟩:=p;cases e with
    |normal =>
     dsimp only;cases stAs s0 (canon (kp.headD []) (frzK (kp.headD []) s'))with
     |none=>rfl
     |some z=>exact ihn z
    |_=>rfl
  subst hs0;exact key fuel y
 |scope c ih=>intro R kp s K;simp only[exec];exact ih _ _ _
 |rangeFunc f ps x y _ _ =>
  intro R kp s K;simp only[exec,yJb];split
  ·conv=>rhs;rw[hN]
   rw[hN (R:=R),bind_assoc];congr 1
   funext p
   unfold endRange;split
   ·split
    ·rw[bind_assoc];rfl
    ·rfl
   ·rfl
  ·rfl
 |_=>intro R kp s K;rfl
end
end Go.Vx
end
