import Derived.Test.YtemgjgkbgkeknaaGreatDoorVX
import Derived.Deep.Slices
import Derived.OpenShut
import Derived.ReadAgain
import Derived.ChangeBears
import Derived.Deep.DeepHandedRow
import Derived.WideKeyArgs
import Derived.ChangeSame
import Derived.ChangeVars
import Derived.RowKit
import Derived.JoinedCond
set_option linter.all false
open List (all_eq_true append_nil drop_left getD_eq_getElem?_getD getElem?_append getElem?_cons_zero getElem?_drop getElem?_take mem_append mem_cons mem_of_getElem? take_left)
open Option (bind_assoc bind_eq_some_iff bind_some map_eq_some_iff)
open Int (toNat_le)
open Bool (and_eq_true)
section
namespace Go.Vx
open Go.RowKit
variable [GT]
section
variable {P:Program} {A0:Nat->Prop} {w0:Base} {ρ:Places} {s s':St} {a:Act} {w w':World} {g:G} {R:Type} {r:R} {ops:Array Oper}
theorem y9O{A:Nat->Prop}:∀ {t:Ty} {x:t.den} {l:List Value},Cells P t A w x l->yA P A w ρ (y1D t x) (t.group l):=by
 intro t;induction t with
 |pair a b iha ihb =>
  intro x l h;simp only[Cells]at h;obtain ⟨l1,l2,rfl,h1,h2⟩:=h;have e1:(l1++l2).take a.size=l1:=by rw[<- h1.length,take_left]
  have e2:(l1++l2).drop a.size=l2:=by rw[<- h1.length,drop_left]
  have ih:=ihb h2;simp only[y1D,Ty.group,e1,e2];refine ⟨by simpa using ih.1,λ i sv hi=>?_⟩
  cases i with
  |zero=>simp at hi;subst hi;exact ⟨_,rfl,l1,h1,rfl⟩
  |succ i=>obtain ⟨v,h3,h4⟩:=ih.2 i sv (by simpa using hi);exact ⟨v,by simpa using h3,h4⟩
 |_=>intro x l h;exact ⟨rfl,λ i sv hi=>by simp[y1D]at hi⟩
theorem yEW(n:Nat):∀ {t:Ty} {x:t.den},∀ sv∈y1D t x,sv.inn n:=by
 intro t;induction t with
 |pair a b iha ihb =>
  intro x sv hs;simp only[y1D,mem_cons]at hs;rcases hs with rfl|hs
  ·trivial
  ·exact ihb sv hs
 |_=>intro x sv hs;simp[y1D]at hs
theorem Rel.settleR(h:Rel P A0 w0 ρ s a w)(sv:SV):Rel P A0 w0 ρ (s.settleR sv) a w:=by
 unfold St.settleR;split
 ·refine Rel.freeze ?_ _;split
  ·exact Rel.settleCells _ h
  ·exact h
 ·exact h.settle _
theorem Rel.settleRes:∀ (l:List ResultVar) {s:St},Rel P A0 w0 ρ s a w->Rel P A0 w0 ρ (Vx.settleRes l s) a w
 |[],_,h=>h
 |.tmp t::l,_,h=>Rel.settleRes l (h.settleR _)
 |.cell _ _::l,_,h=>Rel.settleRes l (h.settleIn _)
def resV(P:Program)(a:Act)(w:World)(v:ResultVar)(u:Value):Prop:=
 (match v with
  |.tmp t=>(pure (a.tmps.getD t undef):Sem Value)
  |.cell p t=>do loadVar t (<- asAddr (a.tmps.getD p undef))).run P w=.ok u w
theorem y5x(hT:yc P g.T)(h:Rel P A0 w0 ρ s a w){t ty:Nat}{ta:Ty}{x:ta.den}(hx:yBz g.T s t ty ta=some x):∃ l,Cells P ta (Av A0 ρ s.cH) w x l/\resV P a w (.cell t ty) (ta.wrap l):=by
 unfold yBz at hx;split at hx
 ·rename_i i β off hi hs;obtain ⟨rfl,hx⟩:=yG hx;split at hx
  ·rename_i u cells hch;have hc:=getD_some hch;obtain ⟨b,hb,hv⟩:∃ b,(ρ β).blk=some b/\a.tmps.getD t undef=.pointer (some ⟨b,off,none⟩):=by
    have:=h.get t;rw[hs]at this;exact this
   obtain ⟨b',vs,hb',h1,h2⟩:=yC1 (h.cH β _ hc).1;rw[hb]at hb';cases hb';have h3:=y1x _ _ _ _ ((h2.drop off).take i.ty.size) hx;have h4:=h3.length;refine ⟨_,h3,?_⟩;have hl:=y1s (P:=P) (w:=w) (b:=b) (off:=off) (hT.fits hi) h4 (by
    have:=h1.sub off i.ty.size;rwa[Nat.zero_add]at this)
   unfold resV;dsimp only;rw[hv];simp only[Instr.loadAt,Instr.sureAddr,Sem.run_bind,Sem.run_pure,Result.andThen_ok]at hl;simp only[asAddr,Sem.run_bind,Sem.run_pure,Result.andThen_ok];exact hl
  ·cases hx
 ·cases hx
theorem yBw(hT:yc P g.T)(h:Rel P A0 w0 ρ s a w){t ty:Nat}{ta:Ty}{x:ta.den}(hx:yBz g.T s t ty ta=some x):∃ l,Cells P ta A0 w x l/\resV P a w (.cell t ty) (ta.wrap l):=by
 obtain ⟨l,h1,h2⟩:=y5x hT h hx;exact ⟨l,h1.mono (λ _ _ _=>rfl) (λ n _ hn=>.inl (.inl hn)),h2⟩
theorem yDo(hT:yc P g.T)(hE:∀ e∈g.E,FnOK P e)(h:Rel P A0 w0 ρ s a w):∀ {t:Ty} {l:List ResultVar} {y:t.den},yB5 g.E g.T s t l=some y ->
  ∃ ly,Cells P t A0 w y ly/\(t.group ly).length=l.length/\∀ (i:Nat) (v:ResultVar) (u:Value),l[i]?=some v->(t.group ly)[i]?=some u->resV P a w v u:=by
 intro t;induction t with
 |unit =>
  intro l y hr;cases l with
  |nil=>exact ⟨[],rfl,rfl,λ i v u hv=>by simp at hv⟩
  |cons _ _=>simp[yB5]at hr
 |pair ta tb iha ihb =>
  intro l y hr;have step:∀ (v0:ResultVar) (l:List ResultVar) (x:ta.den) (y2:tb.den) (l1:List Value),Cells P ta A0 w x l1->resV P a w v0 (ta.wrap l1)->yB5 g.E g.T s tb l=some y2 ->
    ∃ ly,Cells P (.pair ta tb) A0 w (x,y2) ly/\((Ty.pair ta tb).group ly).length=(v0::l).length/\∀ (i:Nat) (v:ResultVar) (u:Value),(v0::l)[i]?=some v->((Ty.pair ta tb).group ly)[i]?=some u->resV P a w v u:=by
   intro v0 l x y2 l1 h1 h2 hy2;obtain ⟨l2,h3,h4,h5⟩:=ihb hy2;have e1:(l1++l2).take ta.size=l1:=by rw[<- h1.length,take_left]
   have e2:(l1++l2).drop ta.size=l2:=by rw[<- h1.length,drop_left]
   refine ⟨l1++l2,⟨l1,l2,rfl,h1,h3⟩,by simp[Ty.group,e2,h4],λ i v u hv hu=>?_⟩
   simp only[Ty.group,e1,e2]at hu;cases i with
   |zero=>simp at hv hu;subst hv hu;exact h2
   |succ i=>exact h5 i v u (by simpa using hv) (by simpa using hu)
  cases l with
  |nil=>simp[yB5]at hr
  |cons v l =>
   cases v with
   |cell p ty =>
    obtain ⟨x,y2,hx,hy2,rfl⟩:=y1w (γ:=(Ty.pair ta tb).den) (f:=λ a b=>(a,b)) hr
    obtain ⟨l1,h1,h2⟩:=yBw hT h hx;exact step _ l x y2 l1 h1 h2 hy2
   |tmp k =>
    obtain ⟨x,y2,hx,hy2,rfl⟩:=y1w (γ:=(Ty.pair ta tb).den) (f:=λ a b=>(a,b)) hr
    obtain ⟨l1,h1,h2⟩:=y51 hE (A:=Av A0 ρ s.cH) (A':=A0) (λ n _ hn=>.inl (.inl hn)) (λ β ch hb=>⟨(h.cH β ch hb).1,λ b hb' hA=>by
     have h3:=(h.cH β ch hb).2 b hb';have h4:=h.dom b hA;omega⟩) (h.get k) hx
    refine step _ l x y2 l1 h1 ?_ hy2;unfold resV;rw[<- h2];rfl
 |_=>intro l y hr;simp[yB5]at hr
theorem y6b{F:ResultVar->Sem Value}:∀ (rs:List ResultVar) (l:List Value),l.length=rs.length->(∀ (i:Nat) (v:ResultVar) (u:Value),rs[i]?=some v->l[i]?=some u->(F v).run P w=.ok u w)->(rs.mapM F).run P w=.ok l w
 |[],l,hl,_=>by cases l with|nil=>rfl|cons _ _=>simp at hl
 |v::rs,[],hl,_=>by simp at hl
 |v::rs,u::l,hl,h=>by
  rw[List.mapM_cons];simp only[Sem.run_bind,h 0 v u rfl rfl,Sem.run_pure,Result.andThen_ok,y6b rs l (by simpa using hl) (λ i v' u' hv hu=>h (i+1) v' u' (by simpa using hv) (by simpa using hu))]
theorem y1l{fn:Func}{l:List Value}(hl:l.length=fn.results.toList.length)(h:∀ (i:Nat) (v:ResultVar) (u:Value),fn.results.toList[i]?=some v->l[i]?=some u->resV P a w v u):(results fn a.tmps).run P w=.ok (pack l) w:=by
 unfold results;rw[Array.mapM_eq_mapM_toList];simp only[Sem.run_bind,Sem.run_map];rw[y6b fn.results.toList l hl (λ i v u hv hu=>by have:=h i v u hv hu;unfold resV at this;cases v<;>exact this)]
 simp only[Result.andThen_ok];unfold pack;rcases l with _|⟨v,_|⟨u,l⟩⟩<;>simp
theorem yEJ(hT:yc P g.T)(h:Rel P A0 w0 ρ s a w){v:ResultVar}{sv:SV}(hv:yNj g.T s v=some sv):∃ u,resV P a w v u/\yD P (Av A0 ρ s.cH) w ρ sv u/\sv.inn s.cH.length:=by
 cases v with
 |tmp t =>
  cases hv;exact ⟨a.tmps.getD t undef,by unfold resV;rfl,h.get t,h.inn t⟩
 |cell t ty =>
  simp only[yNj]at hv;split at hv
  ·rename_i i _;rw[map_eq_some_iff]at hv;obtain ⟨x,hx,rfl⟩:=hv;obtain ⟨l,h1,h2⟩:=y5x hT h hx;exact ⟨_,h2,⟨l,h1,rfl⟩,trivial⟩
  ·cases hv
theorem y6r(hT:yc P g.T)(h:Rel P A0 w0 ρ s a w):∀ {rs:List ResultVar} {svs:List SV},yG1 g.T s rs=some svs->∃ us,yA P (Av A0 ρ s.cH) w ρ svs us/\us.length=rs.length/\∀ (i:Nat) (v:ResultVar) (u:Value),rs[i]?=some v->us[i]?=some u->resV P a w v u
 |[],_,hh=>by cases hh;exact ⟨[],⟨rfl,λ i sv hi=>by simp at hi⟩,rfl,λ i v u hv=>by simp at hv⟩
 |v::rs,svs,hh=>by
  simp only[yG1,bind_eq_some_iff,map_eq_some_iff]at hh;obtain ⟨sv,h1,svs',h2,rfl⟩:=hh;obtain ⟨u,h3,h4,_⟩:=yEJ hT h h1;obtain ⟨us,h5,h6,h7⟩:=y6r hT h h2;refine ⟨u::us,⟨by simp[h5.1],λ i sv' hi=>?_⟩,by simp[h6],λ i v' u' hv hu=>?_⟩
  ·cases i with
   |zero=>simp at hi;subst hi;exact ⟨u,rfl,h4⟩
   |succ i=>obtain ⟨v',h8,h9⟩:=h5.2 i sv' (by simpa using hi);exact ⟨v',by simpa using h8,h9⟩
  ·cases i with
   |zero=>simp at hv hu;subst hv hu;exact h3
   |succ i=>exact h7 i v' u' (by simpa using hv) (by simpa using hu)
theorem yIs{l:List FuncId}{E:List Entry}{e:Entry}(h:e∈yLf l E):e∈E:=by
 unfold yLf at h;split at h
 ·exact h
 ·exact (List.mem_filter.1 h).1
theorem y4F(hT:yc P g.T):∀ (rs:List ResultVar) {ρ:Places} {s:St} (_:Rel P A0 w0 ρ s a w) {svs:List SV} {s':St},y9x g rs s=some (svs,s') ->
  ∃ (us:List Value) (ρ':Places),us.length=rs.length/\us.length=svs.length/\(∀ (j:Nat) (v:ResultVar) (u:Value),rs[j]?=some v->us[j]?=some u->resV P a w v u) /\
   Rel P A0 w0 ρ' s' a w/\(∀ (j:Nat) (sv:SV),svs[j]?=some sv->∃ v,us[j]?=some v/\yD P (Av A0 ρ' s'.cH) w ρ' sv v)/\(∀ sv∈svs,sv.inn s'.cH.length)/\s'.sl=s.sl/\s.cH.length<=s'.cH.length/\∀ β,β < s.cH.length->ρ' β=ρ β
 |[],ρ,s,h,svs,s',hk=>by
  cases hk;exact ⟨[],ρ,rfl,rfl,(λ j v u hv hu=>by simp at hv),h,(λ j sv hj=>by simp at hj),(λ sv hs=>by cases hs),rfl,Nat.le_refl _,λ _ _=>rfl⟩
 |.tmp t::rs,ρ,s,h,svs,s',hk=>by
  obtain ⟨⟨l,s2⟩,hl,he⟩:=map_eq_some_iff.1 (show (y9x g rs s).map (λ p=>(s.get t::p.1,p.2))=some (svs,s')from hk)
  simp only[Prod.mk.injEq]at he;obtain ⟨rfl,rfl⟩:=he;obtain ⟨us,ρ',h1,h2,h3,h4,h5,h6,h7,h8,h9⟩:=y4F hT rs h hl;have hg:s2.get t=s.get t:=by unfold St.get;rw[h7]
  refine ⟨a.tmps.getD t undef::us,ρ',by simp[h1],by simp[h2],λ j v u hv hu=>?_,h4,λ j sv hj=>?_,λ sv hs=>?_,h7,h8,h9⟩
  ·cases j with
   |zero=>rw[getElem?_cons_zero,Option.some.injEq]at hv hu;subst hv hu;unfold resV;rfl
   |succ j=>exact h3 j v u (by simpa using hv) (by simpa using hu)
  ·cases j with
   |zero =>
    rw[getElem?_cons_zero,Option.some.injEq]at hj;subst hj;rw[<- hg];exact ⟨_,rfl,h4.get t⟩
   |succ j=>exact h5 j sv (by simpa using hj)
  ·rcases mem_cons.1 hs with rfl|hs
   ·rw[<- hg];exact h4.inn t
   ·exact h6 sv hs
 |.cell t ty::rs,ρ,s,h,svs,s',hk=>by
  simp only[y9x]at hk;split at hk;rotate_left
  ·cases hk
  rename_i i β off hi hs;split at hk;rotate_left
  ·cases hk
  rename_i u cells hch;obtain ⟨⟨hag,hfit⟩,hk⟩:=yG hk;obtain ⟨⟨l,s2⟩,hl,he⟩:=map_eq_some_iff.1 hk;simp only[Prod.mk.injEq]at he;obtain ⟨rfl,rfl⟩:=he;have hc:=getD_some hch;obtain ⟨b,hb,hv⟩:∃ b,(ρ β).blk=some b/\a.tmps.getD t undef=.pointer (some ⟨b,off,none⟩):=by
   have:=h.get t;rw[hs]at this;exact this
  obtain ⟨b',vs,hb',h1,h2⟩:=yC1 (h.cH β _ hc).1;rw[hb]at hb';cases hb';have h3:=(h2.drop off).take i.ty.size;have h4:((vs.drop off).take i.ty.size).length=i.ty.size:=by
   have:=h2.1;rw[List.length_take,List.length_drop];omega
  have hld:=y1s (P:=P) (w:=w) (b:=b) (off:=off) (hT.fits hi) h4 (by
   have:=h1.sub off i.ty.size;rwa[Nat.zero_add]at this)
  have hN:=h.newChunk (w':=w) (.rcd i.ty ((cells.drop off).take i.ty.size)) ⟨none,0,0,[],(vs.drop off).take i.ty.size,[]⟩ (Below.refl _ _) (λ b hb=>by cases hb)
   (λ sv hsv=>h.cN β _ hc sv (List.mem_of_mem_drop (List.mem_of_mem_take hsv))) (λ A hA _=>⟨rfl,.inl ⟨hag,rfl⟩,h3.1,λ j sv hj=>by
    obtain ⟨v,hv,hr⟩:=h3.2 j sv hj;exact ⟨v,hv,hr.mono (λ _ _ _=>rfl) hA⟩⟩)
  obtain ⟨us,ρ',g1,g2,g3,g4,g5,g6,g7,g8,g9⟩:=y4F hT rs hN hl;have hlt:s.cH.length < (s.cH++[some (Chunk.rcd i.ty ((cells.drop off).take i.ty.size))]).length:=by simp
  refine ⟨i.ty.wrap ((vs.drop off).take i.ty.size)::us,ρ',by simp[g1],by simp[g2],λ j v u hv' hu=>?_,g4,λ j sv hj=>?_,λ sv hsv=>?_,g7,Nat.le_trans (Nat.le_of_lt hlt) g8,λ γ hγ=>(g9 γ (Nat.lt_trans hγ hlt)).trans (Places.set_lt ρ _ hγ)⟩
  ·cases j with
   |zero =>
    rw[getElem?_cons_zero,Option.some.injEq]at hv' hu;subst hv' hu;unfold resV;dsimp only;rw[hv];simp only[Instr.loadAt,Instr.sureAddr,Sem.run_bind,Sem.run_pure,Result.andThen_ok]at hld;simp only[asAddr,Sem.run_bind,Sem.run_pure,Result.andThen_ok];exact hld
   |succ j=>exact g3 j v u (by simpa using hv') (by simpa using hu)
  ·cases j with
   |zero =>
    rw[getElem?_cons_zero,Option.some.injEq]at hj;subst hj;refine ⟨_,rfl,?_⟩;show i.ty.wrap _=recV (ρ' s.cH.length).len (ρ' s.cH.length).vals
    rw[g9 _ hlt,Places.set_self];simp[Ty.wrap,hag,recV]
   |succ j=>exact g5 j sv (by simpa using hj)
  ·rcases mem_cons.1 hsv with rfl|hsv
   ·exact Nat.lt_of_lt_of_le hlt g8
   ·exact g6 sv hsv
theorem yBq(hT:yc P g.T)(h:Rel P A0 w0 ρ s a w){fn:Func}{p:SV×St}(hk:yEv g s fn.results.toList=some p) :
  ∃ u ρ',(results fn a.tmps).run P w=.ok u w/\Rel P A0 w0 ρ' p.2 a w/\yD P (Av A0 ρ' p.2.cH) w ρ' p.1 u/\p.1.inn p.2.cH.length:=by
 unfold yEv at hk;obtain ⟨⟨svs,s2⟩,hsv,hk⟩:=bind_eq_some_iff.1 hk;obtain ⟨us,ρ',h1,h2,h3,h4,h5,h6,h7,h8,h9⟩:=y4F hT _ h hsv;dsimp only at hk;split at hk
 ·cases hk
 ·rename_i sv;cases hk;obtain ⟨v,hv,hr⟩:=h5 0 sv rfl;match us,h2,hv with
  |[u],_,hv =>
   have e:u=v:=by simpa using hv
   rw[<- e]at hr;exact ⟨_,ρ',y1l (l:=[u]) h1 h3,h4,hr,h6 sv (List.mem_cons_self ..)⟩
 ·rename_i sv sw l;cases hk;have hN:=h4.newChunk (w':=w) (.rcd .bool (sv::sw::l)) ⟨none,1,0,[],us,[]⟩ (Below.refl _ _) (λ b hb=>by cases hb) h6 (λ A hA _=>⟨rfl,.inr ⟨rfl,rfl,by simp⟩,h2,λ j sv hj=>by
   obtain ⟨v,hv,hr⟩:=h5 j sv hj;exact ⟨v,hv,hr.mono (λ _ _ _=>rfl) hA⟩⟩)
  refine ⟨_,_,y1l (l:=us) h1 h3,hN,?_,?_⟩
  ·show pack us=recV (Places.set ρ' s2.cH.length _ s2.cH.length).len (Places.set ρ' s2.cH.length _ s2.cH.length).vals
   rw[Places.set_self];match us,h2 with
   |[],h2=>simp at h2
   |[_],h2=>simp at h2
   |_::_::_,_=>rfl
  ·show s2.cH.length < (s2.cH++[_]).length
   simp
theorem yGJ(hT:yc P g.T)(hE:∀ e∈g.E,FnOK P e)(h:Rel P A0 w0 ρ s a w){rc:Bool}{fn:Func}{K:SV->St->Option R}(hk:retK g rc fn s K=some r) :
  ∃ u s' sv ρ',(results fn a.tmps).run P w=.ok u w/\Rel P A0 w0 ρ' s' a w/\yD P (Av A0 ρ' s'.cH) w ρ' sv u/\sv.inn s'.cH.length/\K sv s'=some r:=by
 unfold retK at hk;split at hk
 ·obtain ⟨p,hp,hk⟩:=bind_eq_some_iff.1 hk;obtain ⟨u,ρ',h1,h2,h3,h4⟩:=yBq hT h hp;exact ⟨u,_,_,ρ',h1,h2,h3,h4,hk⟩
 split at hk
 ·rename_i hrs;refine ⟨_,s,_,ρ,y1l (l:=[]) (by rw[hrs];rfl) (λ i v u hv hu=>by simp at hu),h,(show yD P (Av A0 ρ s.cH) w ρ (.tup .unit ()) (pack [])from ⟨[],rfl,rfl⟩),trivial,hk⟩
 ·rename_i t hrs;refine ⟨_,s,_,ρ,y1l (l:=[a.tmps.getD t undef]) (by rw[hrs];rfl) (λ i v u hv hu=>?_),h,h.get t,h.inn t,hk⟩
  rw[hrs]at hv;cases i with
  |zero=>rw[getElem?_cons_zero,Option.some.injEq]at hv hu;subst hv hu;unfold resV;rfl
  |succ i=>simp at hv
 ·simp only[bind_eq_some_iff]at hk;obtain ⟨ty,_,svs,h2,y,h3,h4⟩:=hk;have hS:=Rel.settleRes fn.results.toList h;generalize Vx.settleRes fn.results.toList s=s1 at *;obtain ⟨us,h5,h6,h7⟩:=y6r hT hS h2;obtain ⟨l,h8,h9⟩:=y2h hE (A':=Av A0 ρ s1.cH) (cs:=[]) (λ _ _ h=>h) (λ β ch hb=>by simp at hb) h5 h3
  obtain ⟨h10,h11⟩:=y8L (ρ:=ρ) (n:=s1.cH.length) h8;refine ⟨_,s1,_,ρ,y1l (l:=us) h6 h7,hS,?_,h11,h4⟩;rw[h9]at h10;exact h10
theorem yFD{rc:Bool}{fn:Func}(K:SV->St->Option R):retK g rc fn s K=(retK g rc fn s λ sv s=>some (sv,s)).bind λ p=>K p.1 p.2:=by
 unfold retK;split
 ·cases yEv g s fn.results.toList<;>rfl
 split
 ·rfl
 ·rfl
 ·simp only[bind_assoc,bind_some]
theorem yCr:∀ {I:List Inl} {f:FuncId} {e:Inl},yL1 I f=some e->e∈I/\e.f=f
 |[],_,_,h=>by cases h
 |i::I,f,e,h=>by
  unfold yL1 at h;split at h
  ·rename_i hb;cases h;exact ⟨List.mem_cons_self ..,by simpa using hb⟩
  ·obtain ⟨h1,h2⟩:=yCr h;exact ⟨List.mem_cons_of_mem _ h1,h2⟩
def yJ4(P:Program)(f:FuncId)(e0:TypeId):Prop:=
 y28 P f/\∀ (w:World) (b:Nat) (p v:Value),w.heap[b]?=some (.cells #[p,v] e0 (0,0))->(p=.pointer none\/p=.pointer (some ⟨b,0,none⟩)) ->
  Calls P f #[.pointer (some ⟨b,0,none⟩)] w λ ex w'=>ex=.returned (.tuple #[])/\w'.heap[b]?=some (.cells #[.pointer (some ⟨b,0,none⟩),v] e0 (0,0)) /\
   (∀ n,n≠b->w'.heap[n]?=w.heap[n]?)/\w'.heap.size=w.heap.size/\w'.os=w.os/\w'.tape=w.tape/\w'.output=w.output
def yMv(P:Program)(f:FuncId):Prop:=
 y28 P f/\∀ (w:World) (blk:Option Nat) (cap:Nat) (xs:List Int) (rest:List Value) (e:TypeId),(blk=none->xs=[]/\cap=0) ->
  (∀ b,blk=some b->w.heap[b]?=some (.cells (xs.map (Value.int .i64)++rest).toArray e (0,0)))->xs.length<=memMax ->
  Calls P f #[.slice (blk.map λ b=>⟨b,0,none⟩) xs.length cap] w λ ex w'=>ex=.returned (.tuple #[])/\∃ w1:World,w1.heap.size=w.heap.size/\(∀ n,some n≠blk->w1.heap[n]?=w.heap[n]?) /\
   (∀ b,blk=some b->w1.heap[b]?=some (.cells ((yPQ xs).map (Value.int .i64)++rest).toArray e (0,0)))/\w1.os=w.os/\w1.tape=w.tape/\w1.output=w.output/\Below w1.heap.size w1 w'
def y4N(xs:List (List UInt8))(cs:Array Value):Prop:=∀ (j:Nat) (s:List UInt8),xs[j]?=some s->cs[j]?=some (.string ⟨s.toArray⟩)
def yOa(P:Program)(f:FuncId)(e0:Nat):Prop:=
 y28 P f/\∀ (w:World) (blk:Option Nat) (cap:Nat) (xs:List (List UInt8)) (cs:Array Value) (vb vcap:Nat) (x:List UInt8) (vs:Array Value) (ve:TypeId) (i:Nat),
  (blk=none->xs=[]/\cap=0)->(∀ b,blk=some b->w.heap[b]?=some (.cells cs e0 (0,0))/\cs.size=cap/\y4N xs cs)->w.heap[vb]?=some (.cells vs ve (0,0))->vs[0]?=some (.string ⟨x.toArray⟩)->blk≠some vb ->
  xs.length<=cap->cap<=maxLen->i<=xs.length->xs.length < memMax ->
  Calls P f #[.slice (blk.map λ b=>⟨b,0,none⟩) xs.length cap,.int .i64 i,.slice (some ⟨vb,0,none⟩) 1 vcap] w λ ex w'=>∃ (b' cap':Nat) (cs':Array Value),ex=.returned (.slice (some ⟨b',0,none⟩) (xs.length+1) cap') /\
   w'.heap[b']?=some (.cells cs' e0 (0,0))/\cs'.size=cap'/\xs.length+1<=cap'/\cap'<=maxLen/\y4N (y79 xs i x) cs'/\(blk=some b'\/w.heap.size<=b')/\w.grownBy w' blk
def yOM(P:Program)(f:FuncId)(e0:Nat):Prop:=
 y28 P f/\∀ (w:World) (b cap:Nat) (xs:List (List UInt8)) (cs:Array Value) (i j:Nat),
  w.heap[b]?=some (.cells cs e0 (0,0))->cs.size=cap->y4N xs cs->xs.length<=cap->cap<=maxLen->i < j->j<=xs.length ->
  Calls P f #[.slice (some ⟨b,0,none⟩) xs.length cap,.int .i64 i,.int .i64 j] w λ ex w'=>∃ cs':Array Value,ex=.returned (.slice (some ⟨b,0,none⟩) (xs.length - (j - i)) cap) /\
   w'.heap[b]?=some (.cells cs' e0 (0,0))/\cs'.size=cap/\y4N (y90 xs i j) cs'/\w.grownBy w' (some b)
def yPH(P:Program)(f:FuncId):LibK->Prop
 |.copy e0=>yJ4 P f e0
 |.sort=>yMv P f
 |.ins e0=>yOa P f e0
 |.del e0=>yOM P f e0
def y0B(P:Program)(i:Inl):Prop:=P.funcs[i.f]?=some i.fn/\(i.fn.name == "runtime.NumGoroutine")=false/\∀ e0,i.lib=some e0->yPH P i.f e0
theorem yIy{e0:Nat}{svs:List SV}(K:SV->St->Option R):yGn e0 svs s K=(yGn e0 svs s λ sv s=>some (sv,s)).bind λ p=>K p.1 p.2:=by
 unfold yGn;split
 ·split
  ·split<;>rfl
  ·rfl
 ·rfl
theorem yE9{A0:Nat->Prop}{w0:Base}{f:FuncId}{e0:Nat}(hO:yJ4 P f e0)(h:Rel P A0 w0 ρ s a w){svs:List SV}{vs:List Value}(hv:yA P (Av A0 ρ s.cH) w ρ svs vs){K:SV->St->Option R}{r:R}(hk:yGn e0 svs s K=some r) :
  y28 P f/\Calls P f vs.toArray w (Back P A0 w0 a K r):=by
 refine ⟨hO.1,?_⟩;unfold yGn at hk;split at hk
 ·rename_i β;obtain ⟨v0,hv0,b,hb,rfl⟩:=hv.2 0 _ rfl;have hvs:vs=[.pointer (some ⟨b,0,none⟩)]:=by
   have hl:=hv.1;match vs,hl,hv0 with
   |[x],_,h0=>simp at h0;rw[h0]
  subst hvs;split at hk
  ·rename_i t γ e sv hch;obtain ⟨hcond,hk2⟩:=yG hk;clear hk;obtain ⟨rfl,rfl⟩:=hcond;have hc:=getD_some hch;obtain ⟨b',cs,e',hb',hg,⟨hlen,hpe⟩,hcr⟩:=(h.cH γ _ hc).1;rw[hb]at hb';cases hb';obtain ⟨p,hp,he,b2,hb2,hpp⟩:=hcr 0 _ rfl;rw[hb]at hb2;cases hb2;obtain ⟨v,hv1,hvr⟩:=hcr 1 _ rfl;have hcs:cs=#[p,v]:=by
    apply Array.ext
    ·simpa using hlen
    ·intro i h1 h2;match i,h2 with
     |0,_=>simpa[Array.getElem?_eq_getElem h1]using hp
     |1,_=>simpa[Array.getElem?_eq_getElem h1]using hv1
   subst hcs;rw[he]at hpe;subst hpe;refine (hO.2 w b p v hg hpp).mono λ ex w' ⟨h1,h2,h3,h4,h5,h6,h7⟩=>?_
   have hW:=h.write (w':=w') (ch':=.box t [.mP γ e,sv]) hc hb h3 h4 h5 h6 h7 (h.cN γ _ hc) (λ A hA=>by
    refine ⟨b,_,e,hb,h2,⟨rfl,he⟩,λ i x hi=>?_⟩
    match i,hi with
    |0,hi=>simp at hi;subst hi;exact ⟨_,rfl,he,b,hb,.inr rfl⟩
    |1,hi =>
     simp at hi;subst hi;have hAb:Av A0 ρ s.cH b:=.inr ⟨γ,_,hc,hb⟩;exact ⟨v,rfl,hvr.mono (λ n hn hnA=>h3 n λ e=>hnA (e ▸ hAb)) (λ n _ hn=>(hA n).1 hn)⟩
    |i+2,hi=>simp at hi)
   have e1:s.cH.set γ (some (.box t [.mP γ e,sv]))=s.cH:=by
    apply List.ext_getElem?;intro n;rw[List.getElem?_set];split
    ·rename_i hn;subst hn;split
     ·exact hc.symm
     ·rename_i hl;rw[List.getElem?_eq_none (by omega)]at hc
      cases hc
    ·rfl
   rw[e1]at hW;exact ⟨_,ρ,s,.tup .unit (),h1,hW,⟨[],rfl,rfl⟩,trivial,hk2⟩
  ·cases hk
 ·cases hk
theorem yKQ{svs:List SV}(K:SV->St->Option R):yIx svs s K=(yIx svs s λ sv s=>some (sv,s)).bind λ p=>K p.1 p.2:=rfl
omit [GT] in
theorem yJO{α β:Type}(b:Bool)(p:α)(K:α->Option β):(bif b then K p else none)=(bif b then some p else none).bind K:=by cases b<;>rfl
theorem yKs{e0:Nat}{svs:List SV}(K:SV->St->Option R):insK e0 svs s K=(insK e0 svs s λ sv s=>some (sv,s)).bind λ p=>K p.1 p.2:=by
 unfold insK;split
 ·split
  ·split
   ·split
    ·exact yJO _ (_,_) (λ p=>K p.1 p.2)
    ·rfl
   ·rfl
  ·rfl
 ·rfl
theorem yKZ{e0:Nat}{svs:List SV}(K:SV->St->Option R):delK e0 svs s K=(delK e0 svs s λ sv s=>some (sv,s)).bind λ p=>K p.1 p.2:=by
 unfold delK;split
 ·split
  ·split
   ·exact yJO _ (_,_) (λ p=>K p.1 p.2)
   ·rfl
  ·rfl
 ·rfl
theorem yKg{l:LibK}{svs:List SV}(K:SV->St->Option R):libK l svs s K=(libK l svs s λ sv s=>some (sv,s)).bind λ p=>K p.1 p.2:=by
 cases l with
 |copy e0=>exact yIy K
 |sort=>exact yKQ (svs:=svs) (s:=s) K
 |ins e0=>exact yKs (svs:=svs) (s:=s) K
 |del e0=>exact yKZ (svs:=svs) (s:=s) K
theorem yDn{A0:Nat->Prop}{w0:Base}{f:FuncId}(hO:yMv P f)(h:Rel P A0 w0 ρ s a w){svs:List SV}{vs:List Value}(hv:yA P (Av A0 ρ s.cH) w ρ svs vs){K:SV->St->Option R}{r:R}(hk:yIx svs s K=some r) :
  y28 P f/\Calls P f vs.toArray w (Back P A0 w0 a K r):=by
 refine ⟨hO.1,?_⟩;unfold yIx at hk;cases hk
theorem y8F{A:Nat->Prop}{xs:List (List UInt8)}{cs:Array Value}(h:∀ (i:Nat) (x:List UInt8),xs[i]?=some x->Cells P .str A w x ((cs.toList.drop (i * Ty.str.size)).take Ty.str.size)):y4N xs cs:=λ j s hj=>by
 have h1:=h j s hj;simp only[Cells,Ty.size,Nat.mul_one]at h1;have h2:((cs.toList.drop j).take 1)[0]?=some (.string ⟨s.toArray⟩):=by rw[h1];rfl
 rw[getElem?_take,if_pos (by omega),getElem?_drop]at h2
 rw[<- Array.getElem?_toList];simpa using h2
theorem y4N.cells{A:Nat->Prop}{xs:List (List UInt8)}{cs:Array Value}(h:y4N xs cs):∀ (i:Nat) (x:List UInt8),xs[i]?=some x->Cells P .str A w x ((cs.toList.drop (i * Ty.str.size)).take Ty.str.size):=λ i x hi=>by
 have h1:=h i x hi;simp only[Cells,Ty.size,Nat.mul_one];rw[<- Array.getElem?_toList]at h1;have hlt:=(List.getElem?_eq_some_iff.1 h1).1;apply List.ext_getElem?;intro j;rw[getElem?_take,getElem?_drop];cases j with
 |zero=>rw[if_pos (by omega)];simpa using h1
 |succ j=>rw[if_neg (by omega)];rfl
theorem y2g(xs:List (List UInt8))(i:Nat)(x:List UInt8)(hi:i<=xs.length):(y79 xs i x).length=xs.length+1:=by
 unfold y79;simp;omega
theorem y6e(xs:List (List UInt8))(i j:Nat)(hi:i < j)(hj:j<=xs.length):(y90 xs i j).length=xs.length - (j - i):=by
 unfold y90;simp;omega
theorem yGX{A0:Nat->Prop}{w0:Base}{f:FuncId}{e0:Nat}(hO:yOa P f e0)(h:Rel P A0 w0 ρ s a w){svs:List SV}{vs:List Value}(hv:yA P (Av A0 ρ s.cH) w ρ svs vs){K:SV->St->Option R}{r:R}(hk:insK e0 svs s K=some r) :
  y28 P f/\Calls P f vs.toArray w (Back P A0 w0 a K r):=by
 refine ⟨hO.1,?_⟩;unfold insK at hk;split at hk
 ·rename_i β i γ;obtain ⟨v0,hv0,hown⟩:=hv.2 0 _ rfl;obtain ⟨v1,hv1,hint⟩:=hv.2 1 _ rfl;obtain ⟨v2,hv2,hown2⟩:=hv.2 2 _ rfl;have hint:=yh hint;have hvs:vs=[.slice ((ρ β).blk.map λ b=>⟨b,0,none⟩) (ρ β).len (ρ β).cap,.int .i64 i,.slice ((ρ γ).blk.map λ b=>⟨b,0,none⟩) (ρ γ).len (ρ γ).cap]:=by
   have hl:=hv.1;match vs,hl,hv0,hv1,hv2 with
   |[x,y,z],_,h0,h1,h2=>simp at h0 h1 h2;rw[h0,h1,h2,hown,hint,hown2]
  subst hvs;split at hk
  ·rename_i e xs nn e' ys nn' hc1 hc2;obtain ⟨hc0,hk0⟩:=y07 hk;clear hk;obtain ⟨rfl,hne⟩:=hc0;revert hk0
   intro hk;rcases ys with _|⟨x,_|⟨y,ys⟩⟩
   ·cases hk
   ·dsimp only at hk;have hb:(decide (0<=i) && decide (i<=(List.length xs:Int)) && decide (List.length xs < memMax))=true:=by
     cases hb:(decide (0<=i) && decide (i<=(List.length xs:Int)) && decide (List.length xs < memMax))with
     |true=>rfl
     |false=>rw[hb]at hk;cases hk
    rw[hb,cond_true]at hk;simp only[and_eq_true,decide_eq_true_eq]at hb;obtain ⟨⟨h0,h1⟩,hm⟩:=hb;have hβ:=getD_some hc1;have hγ:=getD_some hc2;obtain ⟨hxl,_,hcase⟩:=(h.cH β _ hβ).1;obtain ⟨hyl,_,hcase2⟩:=(h.cH γ _ hγ).1;rcases hcase2 with ⟨_,q2,_⟩|⟨vb,vs2,hvb,hvg,_,_,hvsz,hvel⟩
    ·simp at hyl;omega
    have hrow2:=y8F (P:=P) (w:=w) hvel;have hv0:=hrow2 0 x rfl;have hylen:(ρ γ).len=1:=by simpa using hyl.symm
    have hin:((i.toNat:Nat):Int)=i:=Int.toNat_of_nonneg h0;have key:Calls P f #[.slice ((ρ β).blk.map λ b=>⟨b,0,none⟩) (ρ β).len (ρ β).cap,.int .i64 i,.slice (some ⟨vb,0,none⟩) 1 (ρ γ).cap] w λ ex w'=>∃ (b' cap':Nat) (cs':Array Value),ex=.returned (.slice (some ⟨b',0,none⟩) (List.length xs+1) cap') /\
      w'.heap[b']?=some (.cells cs' e (0,0))/\cs'.size=cap'/\List.length xs+1<=cap'/\cap'<=maxLen/\y4N (y79 xs i.toNat x) cs'/\((ρ β).blk=some b'\/w.heap.size<=b')/\w.grownBy w' (ρ β).blk:=by
     rcases hcase with ⟨q1,q2,q3⟩|⟨b,cs,hb,hg,hle,hmx,hsz,hel⟩
     ·have hx:xs=([]:List (List UInt8)):=List.eq_nil_of_length_eq_zero (by omega)
      subst hx;have:=hO.2 w none 0 [] #[] vb (ρ γ).cap x vs2 e' i.toNat (λ _=>⟨rfl,rfl⟩) (λ b hb=>by cases hb) hvg hv0 (by simp) (by simp) (by simp) (toNat_le.2 h1) hm
      rw[hin]at this;rw[q1,q2,q3];exact this
     ·have hsz1:cs.size=(ρ β).cap:=by rw[hsz];show (ρ β).cap * 1=_;omega
      have:=hO.2 w (some b) (ρ β).cap xs cs vb (ρ γ).cap x vs2 e' i.toNat (λ hq=>by cases hq) (λ b' hb'=>by cases hb';exact ⟨hg,hsz1,y8F (P:=P) (w:=w) hel⟩) hvg hv0 (by
       intro hq;cases hq;exact hne (h.inj β γ _ _ hβ hγ (hb.trans hvb.symm) (by rw[hb];simp))) (by omega) hmx (toNat_le.2 h1) hm
      rw[hin]at this;rw[hb,<- hxl];exact this
    rw[hvb,hylen];refine Calls.mono key λ ex w' ⟨b',cap',cs',h2,h3,h4,h5,h6,h7,h8,h9⟩=>?_
    have hlen:=y2g xs i.toNat x (toNat_le.2 h1);have hR:=h.grow (w':=w') (ch':=.arr e .str (y79 xs i.toNat x) true) (p:=⟨some b',List.length xs+1,cap',[],[],[]⟩) hβ h9 (λ b hb=>by cases hb;exact h8) trivial (λ A hA =>
     ⟨hlen,λ _=>by simp,.inr ⟨b',cs',rfl,h3,h5,h6,by rw[h4];show cap'=cap' * 1;omega,y4N.cells h7⟩⟩)
    refine ⟨_,_,_,.own s.cH.length,h2,hR,?_,?_,hk⟩
    ·show _=Value.slice _ _ _
     rw[Places.set_self];rfl
    ·show s.cH.length < _
     simp
   ·cases hk
  ·cases hk
 ·cases hk
theorem yGS{A0:Nat->Prop}{w0:Base}{f:FuncId}{e0:Nat}(hO:yOM P f e0)(h:Rel P A0 w0 ρ s a w){svs:List SV}{vs:List Value}(hv:yA P (Av A0 ρ s.cH) w ρ svs vs){K:SV->St->Option R}{r:R}(hk:delK e0 svs s K=some r) :
  y28 P f/\Calls P f vs.toArray w (Back P A0 w0 a K r):=by
 refine ⟨hO.1,?_⟩;unfold delK at hk;split at hk
 ·rename_i β i j;obtain ⟨v0,hv0,hown⟩:=hv.2 0 _ rfl;obtain ⟨v1,hv1,hint⟩:=hv.2 1 _ rfl;obtain ⟨v2,hv2,hint2⟩:=hv.2 2 _ rfl;have hint:=yh hint;have hint2:=yh hint2;have hvs:vs=[.slice ((ρ β).blk.map λ b=>⟨b,0,none⟩) (ρ β).len (ρ β).cap,.int .i64 i,.int .i64 j]:=by
   have hl:=hv.1;match vs,hl,hv0,hv1,hv2 with
   |[x,y,z],_,h0,h1,h2=>simp at h0 h1 h2;rw[h0,h1,h2,hown,hint,hint2]
  subst hvs;split at hk
  ·rename_i e xs nn hc1;obtain ⟨hc0,hk0⟩:=y07 hk;clear hk;subst hc0;revert hk0
   intro hk;have hb:(decide (0<=i) && decide (i < j) && decide (j<=(List.length xs:Int)))=true:=by
    cases hb:(decide (0<=i) && decide (i < j) && decide (j<=(List.length xs:Int)))with
    |true=>rfl
    |false=>rw[hb]at hk;cases hk
   rw[hb,cond_true]at hk;simp only[and_eq_true,decide_eq_true_eq]at hb;obtain ⟨⟨h0,h1⟩,h2⟩:=hb;have hβ:=getD_some hc1;obtain ⟨hxl,hnn,hcase⟩:=(h.cH β _ hβ).1;have hin:((i.toNat:Nat):Int)=i:=Int.toNat_of_nonneg h0;have hjn:((j.toNat:Nat):Int)=j:=Int.toNat_of_nonneg (Int.le_of_lt (Int.lt_of_le_of_lt h0 h1));have hij:i.toNat < j.toNat:=by
    have a1:((i.toNat:Nat):Int) < ((j.toNat:Nat):Int):=by rw[hin,hjn];exact h1
    omega
   have hjl:j.toNat<=List.length xs:=toNat_le.2 h2;rcases hcase with ⟨q1,q2,q3⟩|⟨b,cs,hb,hg,hle,hmx,hsz,hel⟩
   ·omega
   have hsz1:cs.size=(ρ β).cap:=by rw[hsz];show (ρ β).cap * 1=_;omega
   have key:=hO.2 w b (ρ β).cap xs cs i.toNat j.toNat hg hsz1 (y8F (P:=P) (w:=w) hel) (by omega) hmx hij (toNat_le.2 h2)
   rw[hin,hjn]at key;rw[hb,<- hxl];refine Calls.mono key λ ex w' ⟨cs',h3,h4,h5,h6,h7⟩=>?_
   have hlen:=y6e xs i.toNat j.toNat hij (toNat_le.2 h2);have hcap:List.length xs<=(ρ β).cap:=by omega
   have hR:=h.grow (w':=w') (ch':=.arr e .str (y90 xs i.toNat j.toNat) nn) (p:=⟨some b,List.length xs - (j.toNat - i.toNat),(ρ β).cap,[],[],[]⟩) hβ (by rw[hb];exact h7) (λ b' hb'=>by cases hb';exact .inl hb) trivial (λ A hA =>
    ⟨hlen,λ _=>by simp,.inr ⟨b,cs',rfl,h4,Nat.le_trans (Nat.sub_le _ _) hcap,hmx,by rw[h5];show (ρ β).cap=(ρ β).cap * 1;omega,y4N.cells h6⟩⟩)
   refine ⟨_,_,_,.own s.cH.length,h3,hR,?_,?_,hk⟩
   ·show _=Value.slice _ _ _
    rw[Places.set_self];rfl
   ·show s.cH.length < _
    simp
  ·cases hk
 ·cases hk
theorem yH4{A0:Nat->Prop}{w0:Base}{f:FuncId}{l:LibK}(hO:yPH P f l)(h:Rel P A0 w0 ρ s a w){svs:List SV}{vs:List Value}(hv:yA P (Av A0 ρ s.cH) w ρ svs vs){K:SV->St->Option R}{r:R}(hk:libK l svs s K=some r) :
  y28 P f/\Calls P f vs.toArray w (Back P A0 w0 a K r):=by
 cases l with
 |copy e0=>exact yE9 hO h hv hk
 |sort=>exact yDn hO h hv hk
 |ins e0=>exact yGX hO h hv hk
 |del e0=>exact yGS hO h hv hk
theorem yCa{s0:St}{e:Exit}(K:SV->St->Option R):endRound s0 e s K=(endRound s0 e s λ sv s=>some (sv,s)).bind λ p=>K p.1 p.2:=by
 unfold endRound;simp only[bind_assoc,bind_some]
theorem yAa(I:List Inl)(fuel d:Nat):y0i (inl g I fuel d):=by
 induction d with
 |zero=>intro R n svs s K;rfl
 |succ d ihd =>
  intro R n svs s K;unfold inl;cases n with
  |fn n =>
   dsimp only;split
   ·rfl
   split
   ·exact yKg K
   ·split
    ·rfl
    ·conv=>rhs;rw[y4Y ihd]
     rw[y4Y ihd (R:=R),bind_assoc];congr 1
     funext p
     obtain ⟨e,s'⟩:=p;have key:∀ (rc:Bool) (fn:Func),(if s'.leaves then retK g rc fn { s' with nmk:=0 } λ sv s''=>K sv (y3n s'' s)else none)=(if s'.leaves then retK g rc fn { s' with nmk:=0 } λ sv s''=>some (sv,y3n s'' s)else none).bind λ p=>K p.1 p.2:=by
      intro rc fn;split
      ·conv=>rhs;rw[yFD]
       rw[yFD (R:=R),bind_assoc];rfl
      ·rfl
     cases e with
     |normal=>exact key _ _
     |ret=>exact key _ _
     |_=>rfl
  |round info =>
   dsimp only;conv=>rhs;rw[y4Y ihd]
   rw[y4Y ihd (R:=R),bind_assoc];congr 1
   funext p
   obtain ⟨e,s1⟩:=p;cases e with
   |normal =>
    dsimp only;rw[bind_assoc];congr 1
    funext β
    rw[bind_assoc];congr 1
    funext s2
    conv=>rhs;rw[y4Y ihd]
    rw[y4Y ihd (R:=R),bind_assoc];congr 1
    funext p
    exact yCa K
   |_=>rfl
def Base.enter(w0:Base)(a:Act)(ms:List Nat)(ro:Option Nat):Base:=
 { w:=w0.w,ext:=a.tmps.toList++w0.ext,infos:=w0.infos,ro:=ro,marks:=ms++w0.marks,rounds:=w0.ro.toList++w0.rounds }
theorem yAI{A0:Nat->Prop}{w0:Base}(h:Rel P A0 w0 ρ s a w){svs:List SV}{vs:List Value}(hv:yA P (Av A0 ρ s.cH) w ρ svs vs)(hn:∀ sv∈svs,sv.inn s.cH.length)(n:Nat)(ro:Option Nat)(hro:∀ l,ro=some l->∃ r:Loop,w.heap[l]?=some (.loop r)) :
  ∃ ms:List Nat,a.defers=ms.map markD/\(s.nmk=0->ms=[])/\(ms++w0.marks).Nodup/\Rel P A0 (w0.enter a ms ro) ρ (y5y s svs n ro.isSome) { tmps:=vs.toArray++Array.replicate (n - vs.toArray.size) undef,defers:=[] } w:=by
 obtain ⟨ms,⟨m1,m2,m3⟩,m4⟩:=h.defers;refine ⟨ms,m1,m2,m3,by simp[y5y,St.slots_of,hv.1],λ i sv hi=>?_,h.cH,h.inj,λ i sv hi=>?_,h.cN,h.below,h.dom,⟨[],⟨rfl,λ _=>rfl,by simpa[Base.enter]using m3⟩,λ r hr=>?_⟩,⟨h.dep.1,rfl⟩,h.lpi,λ l hl=>?_,h.glob,by simp[y5y,Base.enter,h.kZ,h.size],λ i sv hi=>?_,λ i sv hi=>?_,h.subs⟩
 ·simp only[y5y,St.slots_of]at hi;rw[getElem?_append]at hi;split at hi
  ·rename_i hlt;obtain ⟨v,h1,h2⟩:=hv.2 i sv hi;have e1:(vs.toArray++Array.replicate (n - vs.toArray.size) undef).getD i undef=v:=by
    rw[Array.getD_eq_getD_getElem?,Array.getElem?_append_left (by simp[hv.1];omega)]
    simp[h1]
   rw[e1];exact h2
  ·rw[List.getElem?_replicate]at hi;split at hi
   ·cases hi;trivial
   ·cases hi
 ·simp only[y5y,St.slots_of]at hi;rw[getElem?_append]at hi;split at hi
  ·exact hn sv (mem_of_getElem? hi)
  ·rw[List.getElem?_replicate]at hi;split at hi
   ·cases hi;trivial
   ·cases hi
 ·rcases hr with hr|hr
  ·cases hr
  ·simp only[Base.enter,mem_append]at hr;exact m4 r hr
 ·rcases hl with hl|hl
  ·exact hro l hl
  ·simp only[Base.enter,mem_append,Option.mem_toList]at hl;exact h.round l hl
 ·simp only[y5y,Base.enter]at hi ⊢;rw[getElem?_append]at hi;rw[getD_eq_getElem?_getD,getElem?_append,Array.length_toList,<- h.size];split at hi
  ·rename_i hlt;rw[if_pos hlt,Array.getElem?_toList,<- Array.getD_eq_getD_getElem?];exact h.slots i sv hi
  ·rename_i hlt;rw[if_neg hlt,<- getD_eq_getElem?_getD];exact h.kS _ sv hi
 ·simp only[y5y,St.slots_of]at hi;rw[getElem?_append]at hi;split at hi
  ·exact h.names i sv hi
  ·exact h.kN _ sv hi
theorem y9b{A0:Nat->Prop}{w0:Base}{s0:St}{a0 a:Act}{ms:List Nat}{ro:Option Nat}(hm:s0.slots.length=a0.tmps.size)(hd:a0.defers=ms.map markD)(hn:s0.nmk=0->ms=[])(hnd:(ms++w0.marks).Nodup)(hrn:s0.rnd=w0.ro.isSome)
  (h:Rel P A0 (w0.enter a0 ms ro) ρ s a w):Rel P A0 w0 ρ (y3n s s0) a0 w:=by
 have hk:=h.kZ;simp only[Base.enter,List.length_append,Array.length_toList]at hk;obtain ⟨ms',_,m4⟩:=h.defers;refine ⟨by simp[y3n,St.slots_of,hk,hm],λ i sv hi=>?_,h.cH,h.inj,λ i sv hi=>?_,h.cN,h.below,h.dom,⟨ms,⟨hd,hn,hnd⟩,λ r hr=>m4 r (.inr (by simpa[Base.enter]using hr))⟩,⟨h.dep.1,hrn⟩,h.lpi,λ l hl=>h.round l (.inr (by simpa[Base.enter,Option.mem_toList]using hl)),h.glob,by simp[y3n,hk,hm],λ i sv hi=>?_,λ i sv hi=>?_,h.subs⟩
 ·simp only[y3n,St.slots_of,getElem?_take]at hi;split at hi
  ·rename_i hlt;have:=h.kS i sv hi;simp only[Base.enter,getD_eq_getElem?_getD,getElem?_append,Array.length_toList]at this;rw[if_pos (by omega),Array.getElem?_toList,<- Array.getD_eq_getD_getElem?]at this
   exact this
  ·cases hi
 ·simp only[y3n,St.slots_of,getElem?_take]at hi;split at hi
  ·exact h.kN i sv hi
  ·cases hi
 ·simp only[y3n,getElem?_drop]at hi;have:=h.kS _ sv hi;simp only[Base.enter,getD_eq_getElem?_getD,getElem?_append,Array.length_toList]at this;rw[if_neg (by omega),hm,Nat.add_sub_cancel_left,<- getD_eq_getElem?_getD]at this
  exact this
 ·simp only[y3n,getElem?_drop]at hi;exact h.kN _ sv hi
structure Shut (ms:List Nat) (w w':World):Prop where
 os:w'.os=w.os
 tape:w'.tape=w.tape
 output:w'.output=w.output
 size:w'.heap.size=w.heap.size
 other:∀ n,n ∉ ms->w'.heap[n]?=w.heap[n]?
 were:∀ r,r∈ms->w.heap[r]?=some (.deferred (some []))
variable {ms:List Nat}
theorem Shut.same(h:Shut ms w w'){n:Nat}(hn:w.heap[n]?≠some (.deferred (some []))):w'.heap[n]?=w.heap[n]?:=h.other n λ hm=>hn (h.were n hm)
theorem y4E(h:Shut ms w w'){b off:Nat}{l:List Value}(hc:yO w b off l):yO w' b off l:=λ j v hj=>by
 have h1:=hc j v hj;have hne:w.heap[b]?≠some (.deferred (some [])):=by
  intro hd;simp[World.cell?,hd]at h1
 rw[World.cell?_of_block (w:=w) (a:=⟨b,off+j,none⟩) (h.same hne)];exact h1
theorem Cells.shut(h:Shut ms w w'){A:Nat->Prop}:∀ {t:Ty} {x:t.den} {l:List Value},t.noFn=true->Cells P t A w x l->Cells P t A w' x l:=by
 have hsz:=h.size;intro t;induction t with
 |pair a b iha ihb =>
  intro x l hn hc;simp only[Ty.noFn,and_eq_true]at hn;simp only[Cells]at hc ⊢;obtain ⟨l1,l2,rfl,h1,h2⟩:=hc;exact ⟨l1,l2,rfl,iha hn.1 h1,ihb hn.2 h2⟩
 |slice t ih =>
  intro x l hn hc;simp only[Cells]at hc ⊢;obtain ⟨p,c,rfl,h1,h2,h3⟩:=hc;refine ⟨p,c,rfl,h1,h2,λ i y hy=>?_⟩
  obtain ⟨a,l',rfl,hs,hnA,hlt,hcc,hl⟩:=h3 i y hy;exact ⟨a,l',rfl,hs,hnA,by rw[hsz];exact hlt,y4E h hcc,ih hn hl⟩
 |ref t ih =>
  intro x l hn hc;simp only[Cells]at hc ⊢;obtain ⟨a,l',rfl,hs,hnA,hlt,hcc,hl⟩:=hc;exact ⟨a,l',rfl,hs,hnA,by rw[hsz];exact hlt,y4E h hcc,ih hn hl⟩
 |arr n t ih =>
  intro x l hn hc;simp only[Cells]at hc ⊢;exact ⟨hc.1,hc.2.1,λ i y hy=>ih hn (hc.2.2 i y hy)⟩
 |nS t ih =>
  intro x l hn hc;simp only[Cells]at hc ⊢;obtain ⟨p,c,rfl,h0,h4,h1,h2,h3⟩:=hc;refine ⟨p,c,rfl,h0,h4,h1,h2,λ i y hy=>?_⟩
  obtain ⟨a,l',rfl,hs,hnA,hlt,hcc,hl⟩:=h3 i y hy;exact ⟨a,l',rfl,hs,hnA,by rw[hsz];exact hlt,y4E h hcc,ih hn hl⟩
 |map k v ihk ihv =>
  intro x l hn hc;simp only[Ty.noFn,and_eq_true]at hn;simp only[Cells]at hc ⊢;rcases hc with hc|⟨r,ms,clock,rfl,hnA,hr,hs,he⟩
  ·exact .inl hc
  refine .inr ⟨r,ms,clock,rfl,hnA,(h.same (by rw[hr];intro hd;cases hd)).trans hr,hs,λ i y hy=>?_⟩
  obtain ⟨e,lv,h1,h2,h3,h4⟩:=he i y hy;exact ⟨e,lv,h1,h2,ihv hn.2 h3,h4⟩
 |func a b =>
  intro x l _ hc;simp only[Cells]at hc ⊢;rcases hc with hc|⟨f,first,caps,S,rfl,he,hS,hr⟩
  ·exact .inl hc
  have hb:∀ n,S n->w'.heap[n]?=w.heap[n]?:=λ n hn=>h.same λ hd=>(hS n hn).2.2 _ hd
  refine .inr ⟨f,first,caps,S,rfl,he,λ n hn=>⟨(hS n hn).1,by rw[hsz];exact (hS n hn).2.1,λ d hd=>(hS n hn).2.2 d ((hb n hn).symm.trans hd)⟩,λ A2 w2 hG2 h2 hA2=>?_⟩
  exact hr A2 w2 hG2 (λ n hn=>(h2 n hn).trans (hb n hn)) hA2
 |_=>intro x l _ hc;exact hc
theorem yY.shut(h:Shut ms w w'){A:Nat->Prop}:∀ {cs:List Cap} {vs:List Value},cs.all Cap.noFn=true->yY P A w ρ cs vs->yY P A w' ρ cs vs
 |[],[],_,_=>trivial
 |[],_::_,_,hr=>hr
 |_::_,[],_,hr=>hr
 |c::cs,v::vs,hn,hr=>by
  simp only[List.all_cons,and_eq_true]at hn;refine ⟨?_,yY.shut h hn.2 hr.2⟩;have h1:=hr.1;cases c with
  |box β=>exact h1
  |val t x=>obtain ⟨l,hl,e⟩:=h1;exact ⟨l,hl.shut h hn.1,e⟩
theorem yD.shut(h:Shut ms w w'){A:Nat->Prop}{sv:SV}{v:Value}(hn:sv.noFn=true)(hr:yD P A w ρ sv v):yD P A w' ρ sv v:=by
 cases sv with
 |val t x=>obtain ⟨l,hl,e⟩:=hr;exact ⟨l,hl.shut h hn,e⟩
 |tup t x=>obtain ⟨l,hl,e⟩:=hr;exact ⟨l,hl.shut h hn,e⟩
 |xV t x=>obtain ⟨l,hl,e⟩:=hr;exact ⟨l,hl.shut h hn,e⟩
 |clo f caps=>obtain ⟨vs,e,hc⟩:=hr;exact ⟨vs,e,hc.shut h hn⟩
 |_=>exact hr
theorem yC.shut(h:Shut ms w w'){A:Nat->Prop}{p:Place}{ch:Chunk}(hn:Chunk.noFn (some ch)=true)(hr:yC P A w ρ p ch):yC P A w' ρ p ch:=by
 cases ch with
 |box t cells =>
  obtain ⟨b,vs,e,hb,h1,h2,h3⟩:=hr;exact ⟨b,vs,e,hb,(h.same (by rw[h1];intro hd;cases hd)).trans h1,h2,λ i sv hi=>let ⟨v,hv,hs⟩:=h3 i sv hi;⟨v,hv,hs.shut h (all_eq_true.1 hn sv (mem_of_getElem? hi))⟩⟩
 |arr e t xs nn =>
  obtain ⟨h2,hnn,h1⟩:=hr;refine ⟨h2,hnn,?_⟩;rcases h1 with h1|⟨b,vs,hb,h1,h3,h4,h5,h6⟩
  ·exact .inl h1
  ·exact .inr ⟨b,vs,hb,(h.same (by rw[h1];intro hd;cases hd)).trans h1,h3,h4,h5,λ i x hi=>(h6 i x hi).shut h hn⟩
 |mp k v es =>
  simp only[Chunk.noFn,and_eq_true]at hn;obtain ⟨b,ms,c,hb,h1,h2,h3⟩:=hr;refine ⟨b,ms,c,hb,(h.same (by rw[h1];intro hd;cases hd)).trans h1,h2,λ i x hi=>?_⟩
  obtain ⟨e,lv,h4,h5,h6,h7⟩:=h3 i x hi;exact ⟨e,lv,h4,h5,h6.shut h hn.2,h7⟩
 |it bs q =>
  obtain ⟨b,n,hb,h1,h2⟩:=hr;exact ⟨b,n,hb,(h.same (by rw[h1];intro hd;cases hd)).trans h1,h2⟩
 |lp i info cells st =>
  obtain ⟨b,r,hb,h1,h2,h3,h4⟩:=hr;exact ⟨b,r,hb,(h.same (by rw[h1];intro hd;cases hd)).trans h1,h2,h3,λ i sv hi=>let ⟨v,hv,hs⟩:=h4 i sv hi;⟨v,hv,hs.shut h (all_eq_true.1 hn sv (mem_of_getElem? hi))⟩⟩
 |mps k e u es hole =>
  simp only[Chunk.noFn,and_eq_true]at hn;obtain ⟨b,ms,c,hb,h1,h2,h3,h4⟩:=hr;refine ⟨b,ms,c,hb,(h.same (by rw[h1];intro hd;cases hd)).trans h1,h2,h3,λ i x hi=>?_⟩
  obtain ⟨en,o,h5,h6,h7,h8⟩:=h4 i x hi;refine ⟨en,o,h5,h6,h7,?_⟩;rcases h8 with h8|⟨h8,cap,h9,h10⟩
  ·exact .inl h8
  ·refine .inr ⟨h8,cap,h9,?_⟩;rcases h10 with h10|⟨n,vs,ho,g1,g2,g3,g4,g5⟩
   ·exact .inl h10
   ·exact .inr ⟨n,vs,ho,(h.same (by rw[g1];intro hd;cases hd)).trans g1,g2,g3,g4,λ i x hi=>(g5 i x hi).shut h hn.2⟩
 |rcd t cells =>
  obtain ⟨h1,h2,h3,h4⟩:=hr;exact ⟨h1,h2,h3,λ i sv hi=>let ⟨v,hv,hs⟩:=h4 i sv hi;⟨v,hv,hs.shut h (all_eq_true.1 hn sv (mem_of_getElem? hi))⟩⟩
 |nst e t o e' u xs =>
  simp only[Chunk.noFn,and_eq_true]at hn;obtain ⟨h1,h2,h3⟩:=hr;refine ⟨h1,h2,?_⟩;rcases h3 with h3|⟨b,vs,hb,h4,h5,h6,h7,h8⟩
  ·exact .inl h3
  ·refine .inr ⟨b,vs,hb,(h.same (by rw[h4];intro hd;cases hd)).trans h4,h5,h6,h7,λ i x hi=>?_⟩
   obtain ⟨q,h9,x0,l0,ys,g1,g2,g3,g4,cap,g5,g6⟩:=h8 i x hi;refine ⟨q,h9,x0,l0,ys,g1.shut h hn.1,g2,g3,g4,cap,g5,?_⟩;rcases g6 with g6|⟨n,vs',ho,k1,k2,k3,k4,k5⟩
   ·exact .inl g6
   ·exact .inr ⟨n,vs',ho,(h.same (by rw[k1];intro hd;cases hd)).trans k1,k2,k3,k4,λ i x hi=>(k5 i x hi).shut h hn.2⟩
theorem Rel.taken(h:Rel P A0 w0 ρ s a w)(hl:s.leaves=true){fn:Func}{R':Ending->World->Prop}
  (hR:∀ w',Rel P A0 w0 ρ { s with nmk:=0 } { a with defers:=[] } w'->∃ v,(results fn a.tmps).run P w'=.ok v w'/\R' (.returned v) w') :
  LeavesInM (ym none) 0 P fn a.tmps R' a.defers .returning w:=by
 obtain ⟨ms,⟨m1,m2,m3⟩,m4⟩:=h.defers;rw[m1];have key:∀ (l gone:List Nat) (w1:World),ms=gone++l->(∀ r,r∈l\/r∈w0.marks->w1.heap[r]?=some (.deferred (some [])))->Shut ms w w1->(gone=[]->w1=w) ->
   LeavesInM (ym none) 0 P fn a.tmps R' (l.map markD) .returning w1:=by
  intro l;induction l with
  |nil =>
   intro gone w1 hms hmk hs heq;rw[append_nil]at hms;subst hms;have hdef:∃ ms:List Nat,(({ a with defers:=[] }:Act).defers=ms.map markD/\(0=0->ms=[])/\(ms++w0.marks).Nodup)/\∀ r,r∈ms\/r∈w0.marks->w1.heap[r]?=some (.deferred (some []))/\w0.w.heap.size<=r:=
    ⟨[],⟨rfl,λ _=>rfl,by simpa using (List.nodup_append.1 m3).2.1⟩,λ r hr=>⟨hmk r (by simpa using hr),(m4 r (.inr (by simpa using hr))).2⟩⟩
   have hR1:Rel P A0 w0 ρ { s with nmk:=0 } { a with defers:=[] } w1:=by
    rcases (Bool.or_eq_true _ _ ▸ hl:(s.nmk == 0)=true\/(s.slots.all SV.noFn && s.kept.all SV.noFn && s.cH.all Chunk.noFn)=true)with h0|h0
    ·have e:=heq (m2 (by simpa using h0))
     subst e;exact ⟨h.size,h.slots,h.cH,h.inj,h.names,h.cN,h.below,h.dom,hdef,h.dep,h.lpi,h.round,h.glob,h.kZ,h.kS,h.kN,h.subs⟩
    ·simp only[and_eq_true]at h0;obtain ⟨⟨n1,n2⟩,n3⟩:=h0;refine ⟨h.size,λ i sv hi=>(h.slots i sv hi).shut hs (all_eq_true.1 n1 sv (mem_of_getElem? hi)),λ β ch hb=>⟨(h.cH β ch hb).1.shut hs (all_eq_true.1 n3 _ (mem_of_getElem? hb)),(h.cH β ch hb).2⟩,h.inj,h.names,h.cN,
      ⟨hs.os.trans h.below.os,hs.tape.trans h.below.tape,hs.output.trans h.below.output,hs.size ▸ h.below.size,λ n hn=>?_⟩,h.dom,hdef,h.dep,h.lpi,λ l hl=>?_,h.glob,h.kZ,λ i sv hi=>(h.kS i sv hi).shut hs (all_eq_true.1 n2 sv (mem_of_getElem? hi)),h.kN,h.subs⟩
     ·exact (hs.other n λ hm=>absurd hn (Nat.not_lt.2 (m4 n (.inl hm)).2)).trans (h.below.block n hn)
     ·obtain ⟨rc,hrc⟩:=h.round l hl;exact ⟨rc,(hs.same (by rw[hrc];intro hd;cases hd)).trans hrc⟩
   obtain ⟨v,h1,h2⟩:=hR w1 hR1;exact ⟨v,h1,h2⟩
  |cons r l ih =>
   intro gone w1 hms hmk hs heq;have hr:=hmk r (.inl (List.mem_cons_self ..));have hnd:(r::l++w0.marks).Nodup:=by
    rw[hms,List.append_assoc]at m3;exact (List.nodup_append.1 m3).2.1
   rw[List.cons_append,List.nodup_cons]at hnd;refine ⟨(by intro hc;cases hc),.inl ⟨r,_,rfl,run_takeDeferred hr,ih (gone++[r]) _ (by rw[hms];simp) (λ q hq=>?_) ?_ (λ hc=>by simp at hc)⟩⟩
   ·have hqr:q≠r:=by
     rintro rfl
     rcases hq with hq|hq
     ·exact hnd.1 (mem_append.2 (.inl hq))
     ·exact hnd.1 (mem_append.2 (.inr hq))
    rw[World.putObj_heap_other hqr];rcases hq with hq|hq
    ·exact hmk q (.inl (List.mem_cons_of_mem _ hq))
    ·exact hmk q (.inr hq)
   ·refine ⟨hs.os,hs.tape,hs.output,by simp[World.putObj,hs.size],λ n hn=>?_,hs.were⟩
    have hnr:n≠r:=by
     rintro rfl
     exact hn (by rw[hms];simp)
    rw[World.putObj_heap_other hnr];exact hs.other n hn
 exact key ms [] w rfl (λ r hr=>(m4 r hr).1) ⟨rfl,rfl,rfl,rfl,λ _ _=>rfl,λ r hr=>(m4 r (.inl hr)).1⟩ (λ _=>rfl)
theorem y6o{a0:Act}{ms:List Nat}{ro:Option Nat}{l:Nat}{ext:List Value}{m:Nat}(hm:m=a0.tmps.size)(he:w0.ext=.func (.yield l) #[] #[]::ext)(h:Rel P A0 (w0.enter a0 ms ro) ρ s a w){β:Nat}(hh:y7m m s=some β):(ρ β).blk=some l:=by
 unfold y7m at hh;split at hh
 ·rename_i β' kept hk;cases hh;have h0:s.kept[m]?=some (.yld β):=by
   have:=congrArg (·[0]?) hk;simpa[getElem?_drop]using this
  obtain ⟨b,hb,hv⟩:=h.kS m _ h0;subst hm;simp only[Base.enter,he,getD_eq_getElem?_getD,getElem?_append,Array.length_toList,Nat.lt_irrefl,if_false,Nat.sub_self,getElem?_cons_zero,Option.getD_some,Value.func.injEq,Fn.yield.injEq]at hv;rw[hb,hv.1]
 ·cases hh
theorem yCs{β:Nat}{old st:LpSt}{s':St}(h:s.setLp β old st=some s'):∃ i info cells,s.cH[β]?=some (some (.lp i info cells old))/\s'={ s with cH:=s.cH.set β (some (.lp i info cells st)) }:=by
 unfold St.setLp at h;split at h
 ·rename_i i info cells st' hch;split at h
  ·rename_i e;subst e;cases h;exact ⟨i,info,cells,getD_some hch,rfl⟩
  ·cases h
 ·cases h
theorem yPs(hm:P.follows .mixedOrders=true)(hT:yc P g.T)(hE:∀ e∈g.E,FnOK P e){I:List Inl}(hI:∀ i∈I,y0B P i)(fuel d:Nat):y2z P (inl g I fuel d)/\y1p P (inl g I fuel d):=by
 induction d with
 |zero=>exact ⟨λ _ _ _ h=>(by cases h),λ _ _ _ _ _ _ h=>(by cases h)⟩
 |succ d ihd =>
  obtain ⟨ihC,ihR⟩:=ihd;refine ⟨?_,?_⟩
  ·intro A0 w0 ρ s a w R K r n svs vs h hv hn hk;unfold inl at hk;dsimp only at hk;split at hk
   ·cases hk
   ·rename_i i hi;obtain ⟨hmem,rfl⟩:=yCr hi;obtain ⟨hf,hname,hlib⟩:=hI i hmem;split at hk
    ·rename_i e0 he0;exact yH4 (hlib e0 he0) h hv hk
    split at hk
    ·cases hk
    ·rename_i c hb;obtain ⟨ms,m1,m2,m3,hR⟩:=yAI h hv hn i.fn.ntmps none (λ l hl=>by cases hl)
     refine ⟨⟨i.fn,hf,hname,by rw[hb];rfl⟩,yFa.1 (callsIn_of_wp_marks (F:=ym none) (n:=0) hf hb trivial ?_ rfl)⟩
     refine y4e (g:={ g with mU:=i.mU,fz:=i.fz,E:=yLf i.hide g.E,lv:=i.lv,on:=i.on,sep:=i.sep,cut:=[] }) ihC ihR (yAa I fuel d) hm hT (λ e he=>hE e (yIs he)) c i.keep hR hk λ ex ρ s' a' w' he hR' hK=>?_
     have fin:(if s'.leaves then retK g i.rc i.fn { s' with nmk:=0 } λ sv s''=>K sv (y3n s'' s)else none)=some r->LeavesInM (ym none) 0 P i.fn a'.tmps (Back P A0 w0 a K r) a'.defers .returning w':=by
      intro hr;obtain ⟨hl,hr⟩:=yG hr;refine hR'.taken hl λ w2 hR2=>?_
      obtain ⟨u,s2,sv,ρ',h1,h2,h3,h4,h5⟩:=yGJ hT hE hR2 hr;exact ⟨u,h1,u,ρ',_,sv,rfl,y9b h.size m1 m2 m3 h.dep.2 h2,h3,h4,h5⟩
     cases ex with
     |normal=>exact fin hK
     |ret=>exact fin hK
     |exit id=>cases hK
     |_=>cases he
  ·intro A0 w0 ρ s a w R K r info svs vs l β i cells ext kept fnn h hv hn he hkp hc hk;unfold inl at hk;dsimp only at hk;have hbl:(ρ β).blk=some l:=by
    obtain ⟨b,hb,hv0⟩:=h.kS 0 (.yld β) (by rw[hkp];rfl)
    simp only[he,List.getD_cons_zero,Value.func.injEq,Fn.yield.injEq]at hv0;rw[hb,hv0.1]
   have hlo:∃ rc:Loop,w.heap[l]?=some (.loop rc):=by
    obtain ⟨b,rc,hb,g1,_⟩:=(h.cH β _ hc).1;rw[hbl]at hb;cases hb;exact ⟨rc,g1⟩
   obtain ⟨ms,m1,m2,m3,hR⟩:=yAI h hv hn 0 (some l) (λ l' hl=>by cases hl;exact hlo)
   refine roundIn_of_wpIn (F:=ym none) trivial ?_
   have e0:(vs.toArray++Array.replicate (0 - vs.toArray.size) undef)=vs.toArray:=by simp
   rw[e0]at hR;show info.assign.wpIn (ym (some l)) 0 P _ _ _
   refine y4e (w0:=w0.enter a ms (some l)) (g:={ g with mU:=info.mU,fz:=info.fz,lv:=info.lv,on:=[],sep:=info.sep,cut:=[] }) ihC ihR (yAa I fuel d) hm hT hE info.assign info.keep hR hk λ ex ρ1 s1 a1 w1 hpe hR1 hK1=>?_
   cases ex with
   |normal =>
    dsimp only at hK1;obtain ⟨β1,hh1,hK1⟩:=bind_eq_some_iff.1 hK1;obtain ⟨s2,hs2,hK1⟩:=bind_eq_some_iff.1 hK1;have hb1:=y6o h.size he hR1 hh1;obtain ⟨i1,info1,cells1,hc1,rfl⟩:=yCs hs2;obtain ⟨b,rc,hb,g1,⟨_,_,_,g5,g6⟩,_⟩:=(hR1.cH β1 _ hc1).1;rw[hb1]at hb;cases hb;have hW:=hR1.writeLp (st':=.busy) (rc':={ rc with state:=.busy }) hc1 hb1 g1 rfl rfl rfl rfl rfl (.inr (g6.resolve_left (by intro hx;cases hx)))
    refine ⟨_,run_beginRound g1 g5,?_⟩;show info.body.wpIn (ym (some l)) 0 P _ _ _
    refine y4e (w0:=w0.enter a ms (some l)) (g:={ g with mU:=info.mU,fz:=info.fz,lv:=info.lv,on:=[],sep:=info.sep,cut:=[] }) ihC ihR (yAa I fuel d) hm hT hE info.body (info.keep.drop (loops info.assign)) hW hK1 λ ex ρ2 s3 a3 w3 hpe hR3 hK3=>?_
    unfold endRound at hK3;obtain ⟨β3,hh3,hK3⟩:=bind_eq_some_iff.1 hK3;obtain ⟨st,hst,hK3⟩:=bind_eq_some_iff.1 hK3;obtain ⟨s4,hs4,hK3⟩:=bind_eq_some_iff.1 hK3;have hb3:=y6o h.size he hR3 hh3;obtain ⟨i3,info3,cells3,hc3,rfl⟩:=yCs hs4;obtain ⟨b,rc3,hb,f1,⟨_,_,_,f5,f6⟩,_⟩:=(hR3.cH β3 _ hc3).1;rw[hb3]at hb;cases hb;have fin:∀ jump:Option Code,(if jump.isNone then LoopState.ready else .done)=st.state->jump=st.pending->(jump.isNone=(st == .ready)) ->
      ∃ v w',(Instr.endRound l jump).run P w3=.ok v w'/\Back P A0 w0 a K r (.returned v) w':=by
     intro jump j1 j2 j3;refine ⟨_,_,run_endRound jump f1,?_⟩;have hW3:=hR3.writeLp (st':=st) (rc':={ rc3 with state:=if jump.isNone then .ready else .done,pending:=jump }) hc3 hb3 f1 rfl rfl rfl rfl j1 (.inr j2)
     exact ⟨_,ρ2,_,_,rfl,y9b h.size m1 m2 m3 h.dep.2 hW3,(show yD P _ _ ρ2 (.val .bool (st == .ready)) _ by rw[j3];exact y12 _),trivial,hK3⟩
    cases ex with
    |normal=>cases hst;exact fin none rfl rfl rfl
    |exit id=>cases hst;exact fin (some (.exit id)) rfl rfl rfl
    |ret=>cases hst;exact fin (some .ret) rfl rfl rfl
    |_=>cases hpe
   |_=>cases hK1
theorem yEQ(hm:P.follows .mixedOrders=true)(hT:yc P g.T)(hE:∀ e∈g.E,FnOK P e){fn:Func}{e:Entry}(hf:P.funcs[e.f]?=some fn)(hname:(fn.name == "runtime.NumGoroutine")=false)
  (hbody:fn.body.isNone=false)
  (h:∀ x y,e.m x=some y->∃ an:Ann,(∀ i∈an.inl,y0B P i)/\runF g an fn e.args e.rS x=some y) (hown:e.own=none:=by rfl)
  (hex:∀ q,e.ex=some q->yPt P e.f q:=by intro q h;have h2:(none:Option ExK)=some q:=h;cases h2):FnOK P e:=by
 cases hb:fn.body with
 |none=>rw[hb]at hbody;cases hbody
 |some c =>
  refine ⟨⟨fn,hf,hname,by rw[hb];rfl⟩,λ A w x l y hG hA hx hmx=>?_,⟨λ q hq=>(by rw[hown]at hq;cases hq),hex⟩⟩
  obtain ⟨an,hI,hr⟩:=h x y hmx;unfold runF at hr;rw[hb]at hr;dsimp only at hr;refine yFa.1 (callsIn_of_wp_marks (F:=ym none) (n:=0) hf hb trivial ?_ rfl);have hargs:=y9O (ρ:=λ _=>⟨none,0,0,[],[],[]⟩) hx
  have hlen:(y1D e.args x).length=(e.args.group l).length:=hargs.1.symm;have hR:Rel P A ⟨w,[],[],none,[],[]⟩ (λ _=>⟨none,0,0,[],[],[]⟩) { sl:=.ofList (y1D e.args x++List.replicate (fn.ntmps - (y1D e.args x).length) .undef),cH:=[] } { tmps:=(e.args.group l).toArray++Array.replicate (fn.ntmps - (e.args.group l).toArray.size) undef,defers:=[] } w:=by
   refine ⟨by rw[St.slots_of];simp[hlen],λ i sv hi=>?_,λ β ch hb=>by simp at hb,λ β γ c d hb=>by simp at hb,λ i sv hi=>?_,λ β ch hb=>by simp at hb,Below.refl _ _,hA,⟨[],⟨rfl,λ _=>rfl,List.nodup_nil⟩,λ r hr=>(by rcases hr with hr|hr<;>cases hr)⟩,⟨rfl,rfl⟩,λ β ch q hb=>(by simp at hb),λ l hl=>(by rcases hl with hl|hl<;>cases hl),hG,rfl,λ i sv hi=>(by simp at hi),λ i sv hi=>(by simp at hi),⟨λ β ch hb=>(by simp at hb),λ β ch n hb=>(by simp at hb),λ β γ c d n hb=>(by simp at hb),λ β γ c d n hb=>(by simp at hb)⟩⟩
   ·rw[St.slots_of,getElem?_append]at hi;split at hi
    ·rename_i hlt;obtain ⟨v,hv,hs⟩:=hargs.2 i sv hi;have e1:((e.args.group l).toArray++Array.replicate (fn.ntmps - (e.args.group l).toArray.size) undef).getD i undef=v:=by
      rw[Array.getD_eq_getD_getElem?,Array.getElem?_append_left (by simp;omega)]
      simp[hv]
     rw[e1];exact hs.mono (λ _ _ _=>rfl) (λ n _ hn=>by
      rcases hn with (hn|⟨β,ch,hc,_⟩)|⟨β,ch,hc,_⟩
      ·exact hn
      ·simp at hc
      ·simp at hc)
    ·rw[List.getElem?_replicate]at hi;split at hi
     ·cases hi;trivial
     ·cases hi
   ·rw[St.slots_of,getElem?_append]at hi;split at hi
    ·exact yEW _ sv (mem_of_getElem? hi)
    ·rw[List.getElem?_replicate]at hi;split at hi
     ·cases hi;trivial
     ·cases hi
  obtain ⟨hC,hRd⟩:=yPs hm hT hE hI an.fuel an.deep;refine y4e (w0:=⟨w,[],[],none,[],[]⟩) hC hRd (yAa an.inl an.fuel an.deep) hm hT hE c an.keep hR hr λ ex ρ s a w' he hR' hK=>?_
  have fin:(if s.leaves then yB5 g.E g.T (settleRes fn.results.toList { s with nmk:=0 }) e.rS fn.results.toList else none)=some y ->
    LeavesInM (ym none) 0 P fn a.tmps (λ ex w'=>∃ ly,ex=.returned (pack (e.rS.group ly))/\Cells P e.rS A w' y ly/\Below w.heap.size w w') a.defers .returning w':=by
   intro hy;obtain ⟨hl,hy⟩:=yG hy;refine hR'.taken hl λ w2 hR2=>?_
   have hS:=Rel.settleRes fn.results.toList hR2;obtain ⟨ly,h1,h2,h3⟩:=yDo hT hE hS hy;exact ⟨_,y1l h2 h3,ly,rfl,h1,hS.below⟩
  cases ex with
  |normal=>exact fin hK
  |ret=>exact fin hK
  |exit id=>cases hK
  |_=>cases he
theorem FnOK.none{f:FuncId}{args rS:Ty}{fn:Func}(hf:P.funcs[f]?=some fn)(hname:(fn.name == "runtime.NumGoroutine")=false)(hbody:fn.body.isNone=false):FnOK P { f:=f,args:=args,rS:=rS,m:=λ _=>Option.none }:=
 ⟨⟨fn,hf,hname,hbody⟩,λ A w x l y hG hA hx hm=>(by cases hm),⟨λ q h=>(by cases h),λ q h=>(by cases h)⟩⟩
end
end Go.Vx
end
section
namespace Go.Vx
open Go.RowKit Go.Deep
variable [GT]
def Ty.wf:(t:Ty)->t.den->Prop
 |.bool,_=>True
 |.int k,n=>(Lit.int k n).wf=true
 |.str,s=>List.length (s:List UInt8)<=maxLen
 |.unit,_=>True
 |.pair a b,x=>a.wf x.1/\b.wf x.2
 |.slice t,xs=>List.length (xs:List t.den)<=maxLen/\∀ y,y∈(xs:List t.den)->t.wf y
 |.arr n t,xs=>List.length (xs:List t.den)=n/\∀ y,y∈(xs:List t.den)->t.wf y
 |_,_=>True
def y1R(P:Program)(rec:TypeId->Ty->Bool):List Field->Nat->Ty->Bool
 |[],_,.unit=>true
 |f::fs,off,.pair a b=>f.offset == off && !(a.size == 0) && P.cellsOf f.type == a.size && rec f.type a && y1R P rec fs (off+a.size) b
 |_,_,_=>false
def y0y(P:Program):Nat->TypeId->Ty->Bool
 |0,_,_=>false
 |d+1,t,u=>match u,P.underlying t with
  |.bool,some .bool=>true
  |.int k,some (.int j)=>decide (k=j)
  |.str,some .string=>true
  |.flt k,some (.float j)=>decide (k=j)
  |.slice v,some (.slice e)=>P.cellsOf e == v.size && !(v.size == 0) && y0y P d e v
  |.arr n v,some (.array m e)=>n == m && P.cellsOf e == v.size && P.cellsOf t == n * v.size && y0y P d e v
  |.pair a b,some (.struct fs)=>P.cellsOf t == (Ty.pair a b).size && y1R P (y0y P d) fs.toList 0 (.pair a b)
  |.unit,some (.struct fs)=>P.cellsOf t == 0 && y1R P (y0y P d) fs.toList 0 .unit
  |_,_=>false
section
variable {H:Type} {enc:TypeId×Value->H} {P:Program} {w:World} {sp:Nat->Bool} {held:Bool}
abbrev noA:Nat->Prop:=λ _=>False
theorem y6c{rec:TypeId->Ty->Bool}{m:Nat}(hrec:∀ (t:TypeId) (u:Ty) (cs:List Value) (x:DataW H×List MemPlace),rec t u=true->DataW.trod enc P w 0 sp held m t cs=some x->∃ y:u.den,Cells P u noA w y cs/\u.wf y) :
  ∀ (fs:List Field) (off:Nat) (u:Ty) (cs:List Value),y1R P rec fs off u=true->off+u.size<=cs.length ->
   (∀ f∈fs,∃ x,DataW.trod enc P w 0 sp held m f.type ((cs.drop f.offset).take (P.cellsOf f.type))=some x) ->
   ∃ y:u.den,Cells P u noA w y ((cs.drop off).take u.size)/\u.wf y
 |[],off,u,cs,h,_,_=>by
  cases u with
  |unit=>exact ⟨(),by simp[Cells,Ty.size],trivial⟩
  |_=>simp[y1R]at h
 |f::fs,off,u,cs,h,hl,hx=>by
  cases u with
  |pair a b =>
   simp only[y1R,and_eq_true,beq_iff_eq]at h;obtain ⟨⟨⟨⟨h1,_⟩,h3⟩,h4⟩,h5⟩:=h;simp only[Ty.size]at hl ⊢;obtain ⟨x,hx0⟩:=hx f (by simp)
   rw[h1,h3]at hx0;obtain ⟨y,hy,hw⟩:=hrec _ _ _ _ h4 hx0;obtain ⟨z,hz,hw2⟩:=y6c hrec fs (off+a.size) b cs h5 (by omega) (λ g hg=>hx g (by simp[hg]))
   refine ⟨(y,z),?_,hw,hw2⟩;simp only[Cells];refine ⟨_,_,?_,hy,hz⟩;rw[List.take_add,List.drop_drop]
  |_=>simp[y1R]at h
theorem yG7{base fuel:Nat}{t:TypeId}{cs:List Value}{x:DataW H×List MemPlace}{k:FloatKind}(ht:P.underlying t=some (.float k))(h:DataW.trod enc P w base sp held fuel t cs=some x):∃ n,cs=[.float k n]/\x=(.lit (.float k n),[]):=by
 cases fuel with
 |zero=>simp[DataW.trod]at h
 |succ n =>
  unfold DataW.trod at h;rw[ht]at h;split at h<;>simp_all
theorem y4Z:∀ (d fuel:Nat) (t:TypeId) (u:Ty) (cs:List Value) (x:DataW H×List MemPlace),y0y P d t u=true->DataW.trod enc P w 0 sp held fuel t cs=some x->∃ y:u.den,Cells P u noA w y cs/\u.wf y
 |0,_,_,_,_,_,h,_=>by simp[y0y]at h
 |d+1,fuel,t,u,cs,x,h,hx=>by
  cases ht:P.underlying t with
  |none=>cases u<;>simp[y0y,ht]at h
  |some D =>
   have struct:∀ (fs:Array Field) (v:Ty),P.underlying t=some (.struct fs)->P.cellsOf t=v.size->y1R P (y0y P d) fs.toList 0 v=true->∃ y:v.den,Cells P v noA w y cs/\v.wf y:=λ fs v hu hs hf=>by
    obtain ⟨xs,m,_,_,hl,hn,hget⟩:=DataW.trod_struct hu hx;obtain ⟨y,h1,h2⟩:=y6c (rec:=y0y P d) (m:=m) (λ t u cs x=>y4Z d m t u cs x) fs.toList 0 v cs hf (by omega) (λ f hf=>by
     obtain ⟨i,hi,he⟩:=List.getElem_of_mem hf;have hi':i < xs.length:=by rw[hn];simpa using hi
     refine ⟨xs[i],?_⟩;rw[hget i f (by rw[<- he];simp at hi ⊢),List.getElem?_eq_getElem hi'])
    refine ⟨y,?_,h2⟩;rw[List.drop_zero,List.take_of_length_le (by omega)]at h1
    exact h1
   cases u with
   |bool =>
    cases D<;>simp[y0y,ht]at h
    obtain ⟨b,rfl,_⟩:=DataW.trod_bool ht hx;exact ⟨b,rfl,trivial⟩
   |int k =>
    cases D<;>simp[y0y,ht]at h
    subst h;obtain ⟨n,rfl,_,hw⟩:=DataW.trod_int ht hx;exact ⟨n,rfl,hw⟩
   |str =>
    cases D<;>simp[y0y,ht]at h
    obtain ⟨s,rfl,_,hw⟩:=DataW.trod_string ht hx;refine ⟨s.data.toList,by simp[Cells],?_⟩
    simpa[Ty.wf]using hw
   |flt k =>
    cases D<;>simp[y0y,ht]at h
    subst h;obtain ⟨n,rfl,_⟩:=yG7 ht hx;exact ⟨fcan k n,⟨n,rfl,rfl⟩,trivial⟩
   |unit =>
    cases D<;>simp[y0y,ht]at h
    exact struct _ .unit ht h.1 h.2
   |pair a b =>
    cases D<;>simp[y0y,ht]at h
    exact struct _ (.pair a b) ht h.1 h.2
   |slice v =>
    cases D with
    |slice e =>
     simp[y0y,ht]at h;obtain ⟨⟨h1,h2⟩,h3⟩:=h;rcases open_slice ht hx with ⟨rfl,_⟩|⟨a,len,cap,m,n,DD,Pl,rfl,_,hlc,hcm,hm,_,hel⟩
     ·exact ⟨([]:List v.den),y30 v,by simp[Ty.wf]⟩
     ·have hlm:len<=m:=by rw[hm];split<;>omega
      have spot0:0 < len->a.spot=none:=λ h0=>by
       obtain ⟨cs',hc,_⟩:=hel 0 (by omega)
       obtain ⟨_,hlen,hget⟩:=World.cells?_some hc;rw[h1]at hget hlen;have h3:=hget 0 (by omega)
       rw[List.getElem?_eq_getElem (by omega),Nat.zero_mul]at h3
       have e0:((a.add 0).add 0)=a:=by simp[Addr.add]
       rw[e0]at h3;unfold World.cell? at h3;split at h3
       ·cases hs:a.spot with
        |none=>rfl
        |some q=>rw[hs]at h3;simp at h3
       ·cases h3
      have one:∀ i,i < len->∃ y:v.den,(a.spot=none/\a.block < w.heap.size/\∃ l',yO w a.block (a.off+i * v.size) l'/\Cells P v noA w y l')/\v.wf y:=λ i hi=>by
       obtain ⟨cs',hc,hr⟩:=hel i (by omega)
       obtain ⟨y,hy,hw⟩:=y4Z d n e v cs' _ h3 hr;obtain ⟨_,hlen,hget⟩:=World.cells?_some hc;rw[h1]at hget hlen;have hsp:=spot0 (by omega)
       have hat:yO w a.block (a.off+i * v.size) cs'/\a.spot=none:=by
        refine ⟨λ j u hj=>?_,hsp⟩
        have hj':j < v.size:=by rw[<- hlen];exact (List.getElem?_eq_some_iff.1 hj).1
        have:=(hget j hj').trans hj;obtain ⟨ab,ao,asp⟩:=a;simp only at hsp;subst hsp;rw[yu,yu]at this;exact this
       have hblk:a.block < w.heap.size:=by
        have h0:0 < cs'.length:=by omega
        exact yFv (hat.1 0 cs'[0] (List.getElem?_eq_getElem h0))
       exact ⟨y,⟨hat.2,hblk,cs',hat.1,hy⟩,hw⟩
      have hch:∃ f:Fin len->v.den,∀ i:Fin len,(a.spot=none/\a.block < w.heap.size/\∃ l',yO w a.block (a.off+i.val * v.size) l'/\Cells P v noA w (f i) l')/\v.wf (f i):=
       ⟨λ i=>Classical.choose (one i.val i.isLt),λ i=>Classical.choose_spec (one i.val i.isLt)⟩
      obtain ⟨f,hf⟩:=hch;refine ⟨(List.ofFn f:List v.den),?_,?_⟩
      ·simp only[Cells];refine ⟨some a,cap,by simp,by simpa using hlc,hcm,λ i y hy=>?_⟩
       obtain ⟨hi,he⟩:=List.getElem?_eq_some_iff.1 hy;simp at hi he;subst he;obtain ⟨⟨g1,g2,l',g3,g4⟩,_⟩:=hf ⟨i,hi⟩;exact ⟨a,l',rfl,g1,λ h=>h,g2,g3,g4⟩
      ·simp only[Ty.wf];refine ⟨by simp;omega,λ y hy=>?_⟩
       obtain ⟨i,rfl⟩:=(List.mem_ofFn).1 hy;exact (hf i).2
    |_=>simp[y0y,ht]at h
   |arr n v =>
    cases D with
    |array m e =>
     simp[y0y,ht]at h;obtain ⟨⟨⟨h0,h1⟩,h2⟩,h3⟩:=h;subst h0;obtain ⟨xs,fu,_,_,hl,hn,hget⟩:=DataW.trod_array ht hx;have one:∀ i,i < n->∃ y:v.den,Cells P v noA w y ((cs.drop (i * v.size)).take v.size)/\v.wf y:=λ i hi=>by
      have:=hget i hi;rw[h1,List.getElem?_eq_getElem (by omega)]at this
      exact y4Z d fu e v _ _ h3 this
     have hch:∃ f:Fin n->v.den,∀ i:Fin n,Cells P v noA w (f i) ((cs.drop (i.val * v.size)).take v.size)/\v.wf (f i):=
      ⟨λ i=>Classical.choose (one i.val i.isLt),λ i=>Classical.choose_spec (one i.val i.isLt)⟩
     obtain ⟨f,hf⟩:=hch;refine ⟨(List.ofFn f:List v.den),?_,?_⟩
     ·simp only[Cells];refine ⟨by omega,by simp,λ i y hy=>?_⟩
      obtain ⟨hi,he⟩:=List.getElem?_eq_some_iff.1 hy;simp at hi he;subst he;exact (hf ⟨i,hi⟩).1
     ·simp only[Ty.wf];refine ⟨by simp,λ y hy=>?_⟩
      obtain ⟨i,rfl⟩:=(List.mem_ofFn).1 hy;exact (hf i).2
    |_=>simp[y0y,ht]at h
   |_=>simp[y0y,ht]at h
end
end Go.Vx
end
section
namespace Go.Vx
open Go.RowKit Go.ChangeShapes Go.WideShapes
variable [GT]
def y7t:List (TypeId×Ty)->Ty
 |[]=>.unit
 |q::l=>.pair q.2 (y7t l)
section
variable {H:Type} {enc:TypeId×Value->H} {P:Program}
omit [GT] in
theorem yDE{w:World}{r:Reach}{b:Nat}{t e:TypeId}{v:Value}(ht:P.underlying t=some (.slice e))(h:Value.okWide P w r b t v):∃ p n c,v=.slice p n c:=by
 simp only[Value.okWide,ht,Cell.okWide]at h;cases v<;>simp_all [Cell.ok]
omit [GT] in
theorem yBh{w:World}{r:Reach}{b:Nat}{t:TypeId}{k:FloatKind}{v:Value}(ht:P.underlying t=some (.float k))(h:Value.okWide P w r b t v):∃ n,v=.float k n:=by
 simp only[Value.okWide,ht,Cell.okWide]at h;cases v<;>simp_all [Cell.ok]
omit [GT] in
theorem yKC{W:World}{r:Reach}{b:Nat}{t:TypeId}{u:Ty}{v:Value}{d:Nat}(h:y0y P d t u=true)(hv:Value.okWide P W r b t v):u.wrap v.cells.toList=v:=by
 cases d with
 |zero=>simp[y0y]at h
 |succ d =>
  cases ht:P.underlying t with
  |none=>cases u<;>simp[y0y,ht]at h
  |some D =>
   have agg:(∃ cs,v=.agg cs)->u.agg=true->u.wrap v.cells.toList=v:=by
    rintro ⟨cs,rfl⟩ hu
    simp[Ty.wrap,hu,Value.cells]
   cases u with
   |bool =>
    cases D<;>simp[y0y,ht]at h
    obtain ⟨x,rfl⟩:=okWide_bool ht hv;rfl
   |int k =>
    cases D<;>simp[y0y,ht]at h
    obtain ⟨x,rfl⟩:=okWide_int ht hv;rfl
   |str =>
    cases D<;>simp[y0y,ht]at h
    obtain ⟨x,rfl⟩:=okWide_string ht hv;rfl
   |slice x =>
    cases D<;>simp[y0y,ht]at h
    obtain ⟨p,n,c,rfl⟩:=yDE ht hv;rfl
   |flt k =>
    cases D<;>simp[y0y,ht]at h
    obtain ⟨x,rfl⟩:=yBh ht hv;rfl
   |unit =>
    cases D<;>simp[y0y,ht]at h
    refine agg ?_ rfl;simp only[Value.okWide,ht]at hv;obtain ⟨cs,rfl,_⟩:=hv;exact ⟨cs,rfl⟩
   |pair x y =>
    cases D<;>simp[y0y,ht]at h
    refine agg ?_ rfl;simp only[Value.okWide,ht]at hv;obtain ⟨cs,rfl,_⟩:=hv;exact ⟨cs,rfl⟩
   |arr n x =>
    cases D<;>simp[y0y,ht]at h
    refine agg ?_ rfl;simp only[Value.okWide,ht]at hv;obtain ⟨cs,rfl,_⟩:=hv;exact ⟨cs,rfl⟩
   |_=>simp[y0y]at h
theorem yCf{W:World}{r:Reach}{b:Nat}{sp:Nat->Bool}{held:Bool}:∀ (ts:List (TypeId×Ty)) (vs:List Value) (ds:List (DataW H)) (p:List MemPlace),(∀ q∈ts,y0y P 30 q.1 q.2=true) ->
  (∀ (j:Nat) t v,(ts.map (·.1))[j]?=some t->vs[j]?=some v->Value.okWide P W r b t v)->DataW.TrodAll enc P W 0 sp held (ts.map (·.1)) vs ds p ->
  ∃ (x:(y7t ts).den) (l:List Value),Cells P (y7t ts) noA W x l/\(y7t ts).group l=vs/\(y7t ts).wf x
 |[],vs,ds,p,_,_,h=>by
  obtain ⟨rfl,rfl,rfl⟩:=trodAll_nil h;exact ⟨(),[],rfl,rfl,trivial⟩
 |q::ts,vs,ds,p,ho,hv,h=>by
  obtain ⟨v,vs',d,ds',p1,p2,rfl,rfl,rfl,h1,h2⟩:=trodAll_cons h;obtain ⟨fuel,hf⟩:=h1;have hoq:=ho q (by simp)
  obtain ⟨y,hy,hw⟩:=y4Z 30 fuel q.1 q.2 _ _ hoq hf;obtain ⟨x,l,hx,hg,hw2⟩:=yCf ts vs' ds' p2 (λ q hq=>ho q (by simp[hq])) (λ j t v hj hvj=>hv (j+1) t v (by simpa using hj) (by simpa using hvj)) h2
  have hwr:=yKC hoq (hv 0 q.1 v rfl rfl);refine ⟨(y,x),v.cells.toList++l,⟨_,_,rfl,hy,hx⟩,?_,hw,hw2⟩;show q.2.wrap ((v.cells.toList++l).take q.2.size)::(y7t ts).group ((v.cells.toList++l).drop q.2.size)=v::vs'
  rw[<- hy.length,take_left,drop_left,hwr,hg]
omit [GT] in
theorem yBQ{f:Func}{s:ChangeSpec}{apart fresh handsOn again:Bool}{W W':World}{args:Array Value}{v:Value}{ds gs:List (DataW H)}{before pa pv:List MemPlace}
  (hW:DataW.Whole enc P f.params.toList s.vars apart W args.toList ds gs before)
  (hres:∀ (b:Nat) (sp:Nat->Bool) (hd:Bool),DataW.TrodAll enc P W' b sp hd f.resultTypes.toList (v.resultList f.resultTypes.size) (s.fn H (ds++gs)).results [])
  (hargs:∀ sp:Nat->Bool,(∀ p∈before,sp p.block=true)->DataW.TrodAll enc P W' 0 sp true f.params.toList args.toList (s.fn H (ds++gs)).args pa)
  (hvars:∀ sp:Nat->Bool,(∀ p∈before,sp p.block=true)->DataW.TrodVars enc P W' sp s.vars (s.fn H (ds++gs)).vars pv)
  (hps:before=pa++pv) (hb:Below W.heap.size W W')
  (hok:∀ (j:Nat) (t:TypeId) (r:Value),f.resultTypes[j]?=some t->(v.resultList f.resultTypes.size)[j]?=some r->Value.okWide P W' .any 0 t r) :
  s.post enc P f apart fresh handsOn again W args v W':=by
 have hold:∀ p∈before,(λ b=>decide (b < W.heap.size)) p.block=true:=λ p hp=>by simpa using hW.lt p hp
 have hlt:∀ p∈before,p.block < W.heap.size:=λ p hp=>hW.lt p hp
 refine ⟨ds,gs,before,[],pa,pv,hW,hres _ _ _,hargs _ hold,hvars _ hold,World.keptBut_mono (λ p hp=>⟨hp,?_⟩) (hb.frame (·∈before)),λ _=>?_⟩
 ·rw[hps,mem_append]at hp;exact Or.inr hp
 ·obtain ⟨_,_,_,_,_,hz,hn⟩:=hW;refine ⟨hok,_,_,([]++pa)++pv,⟨[]++pa,pv,trodAll_append (hargs _ (λ _ _=>rfl)) (hres _ _ _),hvars _ (λ _ _=>rfl),rfl,?_,?_⟩,?_⟩
  ·intro b off hp;have hp':MemPlace.cell b off∈before:=by rw[hps];simpa using hp
   have:b < W.heap.size:=hlt _ hp';rw[hb.frozen (p:=⟨b,off,none⟩) this];exact hz b off hp'
  ·intro ha;have:=hn ha;rw[hps]at this;simpa using this
  ·intro p hp _;rw[hps];simpa using hp
omit [GT] in
theorem y5Z{W W':World}(hl:laidOutB P=true)(hb:Below W.heap.size W W'){sp':Nat->Bool}:∀ (ts:List TypeId) (vs:List Value) (ds:List (DataW H)) (ps:List MemPlace),
  (∀ t∈ts,P.readableRec t=true/\t < P.types.size)->DataW.TrodAll enc P W 0 (λ _=>true) true ts vs ds ps->(∀ p∈ps,sp' p.block=true)->(∀ p∈ps,p.block < W.heap.size)->DataW.TrodAll enc P W' 0 sp' true ts vs ds ps
 |[],_,_,_,_,h,_,_=>by
  obtain ⟨rfl,rfl,rfl⟩:=trodAll_nil h;exact trodAll_mk0
 |t::ts,_,_,_,hr,h,hs,hlt=>by
  obtain ⟨v,vs,d,ds,p,q,rfl,rfl,rfl,h1,h2⟩:=trodAll_cons h;exact ⟨p,q,Go.WideElems.Trod_stays hl (hr t (by simp)).1 (hr t (by simp)).2 h1 (λ x hx=>hb.same (hlt x (by simp[hx]))) (λ x hx=>hs x (by simp[hx])),
   y5Z hl hb ts vs ds q (λ u hu=>hr u (by simp[hu])) h2 (λ x hx=>hs x (by simp[hx])) (λ x hx=>hlt x (by simp[hx])),rfl⟩
theorem yNT{fn:Func}{spec:ChangeSpec}{ts:List (TypeId×Ty)}{f:FuncId}{m:(y7t ts).den->Option (Bool×Unit)}{tb:TypeId}(hOK:FnOK P { f:=f,args:=y7t ts,rS:=.pair .bool .unit,m:=m })
  (hparams:fn.params.toList=ts.map (·.1)) (hres:fn.resultTypes=#[tb]) (htb:P.underlying tb=some .bool) (hopen:∀ q∈ts,y0y P 30 q.1 q.2=true)
  (hl:laidOutB P=true) (hread:∀ q∈ts,P.readableRec q.1=true/\q.1 < P.types.size) (hvars:spec.vars=[])
  (hspec:∀ ds:List (DataW H),ds.length=ts.length->spec.fn H ds={ results:=[.lit (.bool true)],args:=ds })
  (law:∀ x,(y7t ts).wf x->m x=some (true,()))
  (W:World) (base:Nat) (args:Array Value) (ds gs:List (DataW H)) (before:List MemPlace) (hval:∀ (j:Nat) t v,fn.params[j]?=some t->args[j]?=some v->Value.okWide P W .any base t v)
  (hW:DataW.Whole enc P fn.params.toList spec.vars false W args.toList ds gs before) (hG:GlobOK noA W) :
  Calls P f args W λ e W'=>∃ v,e=.returned v/\spec.post enc P fn false true false false W args v W':=by
 have hW':=hW;have hlt:∀ p∈before,p.block < W.heap.size:=λ p hp=>hW.lt p hp
 obtain ⟨p,q,hA,hV,rfl,hfz,hnd⟩:=hW;rw[hvars]at hV;obtain ⟨rfl,rfl⟩:=trodVars_none hV;have hA':=hA;rw[hparams]at hA';obtain ⟨x,l,hx,hg,hw⟩:=yCf ts args.toList ds p hopen (λ j t v hj hv=>hval j t v (by rw[<- Array.getElem?_toList,hparams];exact hj) (by simpa using hv)) hA'
 have hc:=hOK.2.1 noA W x l (true,()) hG (λ _ h=>h.elim) hx (law x hw)
 have e1:((y7t ts).group l).toArray=args:=by rw[hg]
 have hlen:ds.length=ts.length:=by
  have:∀ (ts:List TypeId) (vs:List Value) (ds:List (DataW H)) (ps:List MemPlace),DataW.TrodAll enc P W 0 (λ _=>true) true ts vs ds ps->ds.length=ts.length:=by
   intro ts;induction ts with
   |nil=>intro vs ds ps h;obtain ⟨_,rfl,_⟩:=trodAll_nil h;rfl
   |cons t ts ih =>
    intro vs ds ps h;obtain ⟨v,vs',d,ds',p1,p2,rfl,rfl,rfl,_,h2⟩:=trodAll_cons h;simp[ih _ _ _ h2]
  rw[this _ _ _ _ hA'];simp
 have hs:=hspec ds hlen;change Calls P f ((y7t ts).group l).toArray W _ at hc
 rw[e1]at hc;refine hc.mono ?_
 rintro e W' ⟨ly,rfl,hly,hb⟩
 refine ⟨_,rfl,?_⟩;have hly':ly=[.bool true]:=by
  obtain ⟨l1,l2,rfl,rfl,rfl⟩:=hly;rfl
 subst hly';have hv:pack ((Ty.pair .bool .unit).group [.bool true])=.bool true:=rfl;show spec.post enc P fn false true false false W args (pack ((Ty.pair .bool .unit).group [.bool true])) W'
 rw[hv];refine yBQ (pa:=p) (pv:=[]) hW' ?_ ?_ ?_ rfl hb ?_
 ·intro b sp hd;rw[append_nil,hs,hres];exact trodAll_cons_mk (shut_bool htb true) trodAll_mk0
 ·intro sp hsp;rw[append_nil,hs];exact y5Z hl hb _ _ _ _ (λ t ht=>by
   rw[hparams]at ht;obtain ⟨q,hq,rfl⟩:=List.mem_map.1 ht;exact hread q hq) hA (λ x hx=>hsp x (by simp[hx])) (λ x hx=>hlt x (by simp[hx]))
 ·intro sp hsp;rw[hvars,append_nil,hs];rfl
 ·exact ok_one hres rfl (okWide_bool_mk htb true)
end
end Go.Vx
end
section
namespace Go.Vx
open Go.ChangeShapes Go.WideShapes Go.ChangeAt
def yJU(P:Program)(f:FuncId)(fn:Func)(s:ChangeSpec)(c:OpenClaim):Bool:=c.wf (OpenSpec.ofChange s) && laidOutB P && mapsRowed P
def yIq(P:Program)(f:FuncId)(fn:Func)(s:ChangeSpec)(c:OpenClaim):Bool:=fn.params.all (P.readableRec ·) && namedTie P c.named s.vars && (c.stops == []) && (P.stops == []) && (c.knobs == []) && (P.stopKnobs == [])
def yII(P:Program)(f:FuncId)(fn:Func)(s:ChangeSpec)(c:OpenClaim):Bool:=(c.inPlace == P.inPlace f) && (c.unfollowed == P.unfollowed f)
def yJZ(P:Program)(f:FuncId)(fn:Func)(s:ChangeSpec)(c:OpenClaim):Bool:=(c.recurses == P.recurses f)
def yIu(P:Program)(f:FuncId)(fn:Func)(s:ChangeSpec)(c:OpenClaim):Bool:=(c.named == P.varsNamed f)
def yJt(P:Program)(f:FuncId)(fn:Func)(s:ChangeSpec)(c:OpenClaim):Bool:=(c.maps == (fn.params.toList++s.plain.varTypes P).any (P.mapsRec ·)) && (c.ifaces == (fn.params.toList++s.plain.varTypes P).any (P.ifacesRec ·)) && (c.mapsOut == P.mapsAmong fn.resultTypes.toList) && (c.loops == (fn.params.toList++s.plain.varTypes P).any (P.loopsFrom ·)) && (c.wideKeys == (fn.params.toList++s.plain.varTypes P++fn.resultTypes.toList).any (P.wideKeysFrom ·))
def yHw(P:Program)(f:FuncId)(fn:Func)(s:ChangeSpec)(c:OpenClaim):Bool:=s.vars.all (P.varReadable ·) && fn.resultTypes.all (λ t=>P.readableRec t && decide (t < P.types.size)) && (c.ifacesOut == fn.resultTypes.toList.any (P.ifacesRec ·)) && (c.loopsOut == fn.resultTypes.toList.any (P.loopsFrom ·)) && (c.plainKeys == P.plainKeys)
def yJq(P:Program)(f:FuncId)(fn:Func)(s:ChangeSpec)(c:OpenClaim):Bool:=c.shortTexts.isNone && P.stopsHeard && P.mayEnter && (c.lifted == P.liftsFinal) && (P.make == some c.make)
def yIg(P:Program)(f:FuncId)(fn:Func)(s:ChangeSpec)(c:OpenClaim):Bool:=(c.kinds == (if c.domain.isEmpty then []else fn.params.toList.map λ t=>match P.underlying t with|some (.int k)=>some k|_=>none)) && (c.pinned == c.pinnedBy) && (c.veiled == (fn.params.toList++s.plain.varTypes P++fn.resultTypes.toList).any (P.veiledRec ·)) && c.veiledFits P fn.params.toList (fn.params.toList++s.plain.varTypes P++fn.resultTypes.toList)
theorem yJe{P:Program}{f:FuncId}{fn:Func}{s:ChangeSpec}{c:OpenClaim}(h1:yJU P f fn s c=true)(h2:yIq P f fn s c=true)(h3:yII P f fn s c=true)(h4:yJZ P f fn s c=true)(h5:yIu P f fn s c=true)(h6:yJt P f fn s c=true)(h7:yHw P f fn s c=true)(h8:yJq P f fn s c=true)(h9:yIg P f fn s c=true):joinedFacts P f fn s c=true:=by
 unfold yJU at h1;unfold yIq at h2;unfold yII at h3;unfold yJZ at h4;unfold yIu at h5;unfold yJt at h6;unfold yHw at h7;unfold yJq at h8;unfold yIg at h9;unfold joinedFacts;simp only[and_eq_true]at *;simp only[h1,h2,h3,h4,h5,h6,h7,h8,h9,and_self];exact ⟨⟨⟨⟨trivial,h9.1.1.1⟩,trivial⟩,trivial⟩,trivial⟩
end Go.Vx
end
