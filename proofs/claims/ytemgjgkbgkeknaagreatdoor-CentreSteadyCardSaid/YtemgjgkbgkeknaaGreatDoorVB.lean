import Derived.Test.YtemgjgkbgkeknaaGreatDoorVA
import Derived.Laws.StructEq
import Derived.ChangeKeysEq
import Derived.Laws.BytesString
import Derived.Great.BuildSlice
set_option linter.all false
open List (append_nil drop_append drop_eq_nil_of_le drop_left drop_zero getElem?_drop getElem?_eq_getElem getElem?_take headD_cons length_set mapM_cons map_cons mem_cons_of_mem mem_of_getElem? nil_append take_left take_zero)
open Option (bind_eq_bind bind_eq_some_iff map_eq_some_iff map_some pure_def)
open Nat (add_assoc add_mul le_refl one_mul zero_add zero_le)
open Bool (and_eq_true false_eq_true not_eq_true')
section
namespace Go.Vx
open Go.RowKit
variable [GT]
def vEq:Value->Value->Bool
 |.bool a,.bool b=>a == b
 |.int j a,.int k b=>decide (j=k) && a == b
 |.string a,.string b=>decide (a.data.toList=b.data.toList)
 |.slice none a b,.slice none c d=>a == c && b == d
 |.nilIface,.nilIface=>true
 |.nilFunc,.nilFunc=>true
 |.pointer none,.pointer none=>true
 |.map none,.map none=>true
 |.float j a,.float k b=>decide (j=k) && a == b
 |.complex j a b,.complex k c d=>decide (j=k) && a == c && b == d
 |_,_=>false
theorem yQT{a b:Value}(h:vEq a b=true):a=b:=by
 unfold vEq at h;split at h<;>simp_all
 rename_i a b;cases a;cases b;simp at h;rw[ByteArray.mk.injEq];exact h
def lEq:List Value->List Value->Bool
 |[],[]=>true
 |a::l,b::r=>vEq a b && lEq l r
 |_,_=>false
theorem yJM:∀ {l r:List Value},lEq l r=true->l=r
 |[],[],_=>rfl
 |[],_::_,h=>by simp[lEq]at h
 |_::_,[],h=>by simp[lEq]at h
 |a::l,b::r,h=>by
  simp only[lEq,and_eq_true]at h;rw[yQT h.1,yJM h.2]
def aggD:TypeDesc->Bool
 |.struct _|.array _ _=>true
 |_=>false
def yKR(t:Ty):Option Value->Bool
 |some (.agg cs)=>t.agg && lEq cs.toList t.zeroV
 |some v=>!t.agg && lEq [v] t.zeroV
 |none=>false
theorem yJD{t:Ty}{z:Option Value}(h:yKR t z=true):z=some (t.wrap t.zeroV):=by
 unfold yKR at h;split at h
 ·rename_i cs;simp only[and_eq_true]at h;have:=yJM h.2;simp[Ty.wrap,h.1,<- this]
 ·rename_i v _;simp only[and_eq_true,not_eq_true']at h;have:=yJM h.2;simp[Ty.wrap,h.1,<- this]
 ·cases h
structure Fits (P:Program) (t:TypeId) (u:Ty):Prop where
 by8:u=.int .u8->∀ inf,P.info? t=some inf->inf.bytes=1
 ex:∃ inf d,P.info? t=some inf/\P.underlying t=some d/\inf.size=u.size/\inf.bytes<=2048/\aggD d=u.agg/\inf.zero=some (u.wrap u.zeroV)
def y6Q(P:Program)(t:TypeId)(u:Ty):Bool:=
 match P.info? t,P.underlying t with
 |some inf,some d=>inf.size == u.size && decide (inf.bytes<=2048) && aggD d == u.agg && yKR u inf.zero && (!decide (u=.int .u8) || inf.bytes == 1)
 |_,_=>false
theorem y0r{P:Program}{t:TypeId}{u:Ty}(h:y6Q P t u=true):Fits P t u:=by
 unfold y6Q at h;split at h
 ·rename_i inf d h1 h2;simp only[and_eq_true,beq_iff_eq,decide_eq_true_eq]at h;obtain ⟨h,h8⟩:=h;refine ⟨λ hu inf' hi=>?_,inf,d,h1,h2,h.1.1.1,h.1.1.2,h.1.2,yJD h.2⟩
  rw[h1]at hi;cases hi;simpa[hu]using h8
 ·cases h
def yx(P:Program):List Field->Nat->Ty->Bool
 |[],_,.unit=>true
 |f::fs,off,.pair a b=>f.offset == off && !(a.size == 0) && y6Q P f.type a && yx P fs (off+a.size) b
 |_,_,_=>false
def cmpF(P:Program)(rec:TypeId->Ty->Bool):List Field->Nat->Ty->Bool
 |[],_,.unit=>true
 |f::fs,off,.pair a b=>!(f.name == "_") && f.offset == off && y6Q P f.type a && rec f.type a && cmpF P rec fs (off+a.size) b
 |_,_,_=>false
def cmpB(P:Program):Nat->TypeId->Ty->Bool
 |0,_,_=>false
 |d+1,t,u=>match u,P.underlying t with
  |.bool,some .bool=>true
  |.int _,some (.int _)=>true
  |.str,some .string=>true
  |.unit,some (.struct fs)=>!P.stoodInHeld t && cmpF P (cmpB P d) fs.toList 0 .unit
  |.pair a b,some (.struct fs)=>!P.stoodInHeld t && cmpF P (cmpB P d) fs.toList 0 (.pair a b)
  |.arr n v,some (.array m e)=>n == m && y6Q P e v && cmpB P d e v
  |_,_=>false
def y0Y(P:Program)(t:TypeId)(i:TyI):Bool:=
 match i.ty,P.underlying t with
 |.slice u,some (.slice e)|.nS u,some (.slice e)=>e == i.elem && y6Q P e u && !(u.size == 0)
 |.arr n u,some (.array m e)=>n == m && e == i.elem && y6Q P e u && !(u.size == 0)
 |.pair a b,some (.struct fs)=>decide (i.fields=fs.toList.map λ f=>(f.offset,f.type)) && yx P fs.toList 0 (.pair a b)
 |.unit,some (.struct fs)=>decide (i.fields=fs.toList.map λ f=>(f.offset,f.type)) && yx P fs.toList 0 .unit
 |.int k,some (.int j)=>decide (k=j)
 |.str,some .string=>true
 |.bool,some .bool=>true
 |.map k v,some (.map kt et)=>y6Q P kt k && y6Q P et v && (match k,P.underlying kt with|.str,some .string=>true|.int j,some (.int l)=>decide (j=l)|k,some (.struct _)=>k.keyF && cmpB P 30 kt k|_,_=>false)
 |.flt k,some (.float j)=>decide (k=j)
 |.cplx k,some (.complex j)=>decide (k=j)
 |.func _ _,some (.func _ _ _)=>true
 |.code,some (.func _ _ _)=>true
 |.ref _,some (.pointer e)=>e == i.elem
 |.err,some (.interface _)=>true
 |_,_=>false
def eqB(P:Program)(t:TypeId)(u:Ty):Bool:=!(u.agg && u.cmp) || (cmpB P 30 t u && !P.eqGuardType P.depth t)
def rowB(P:Program)(p:TypeId×TyI):Bool:=y6Q P p.1 p.2.ty && y0Y P p.1 p.2 && eqB P p.1 p.2.ty
def yc(P:Program)(T:List (TypeId×TyI)):Prop:=T.all (rowB P)=true
theorem y5u:∀ {T:List (TypeId×TyI)} {t:TypeId} {i:TyI},yN T t=some i->(t,i)∈T
 |[],_,_,h=>by simp[yN]at h
 | (u,j)::l,t,i,h=>by
  unfold yN at h;split at h
  ·rename_i he;simp at he h;subst he h;simp
  ·exact mem_cons_of_mem _ (y5u h)
theorem yc.fits{P:Program}{T:List (TypeId×TyI)}(h:yc P T){t:TypeId}{i:TyI}(hl:yN T t=some i):Fits P t i.ty:=by
 have:=List.all_eq_true.1 h (t,i) (y5u hl);simp only[rowB,and_eq_true]at this;exact y0r this.1.1
theorem yc.shape{P:Program}{T:List (TypeId×TyI)}(h:yc P T){t:TypeId}{i:TyI}(hl:yN T t=some i):y0Y P t i=true:=by
 have:=List.all_eq_true.1 h (t,i) (y5u hl);simp only[rowB,and_eq_true]at this;exact this.1.2
theorem yc.eq{P:Program}{T:List (TypeId×TyI)}(h:yc P T){t:TypeId}{i:TyI}(hl:yN T t=some i):eqB P t i.ty=true:=by
 have:=List.all_eq_true.1 h (t,i) (y5u hl);simp only[rowB,and_eq_true]at this;exact this.2
section
variable {P:Program} {w:World}
theorem yCw{t:TypeId}{d:TypeDesc}(h:P.underlying t=some d):(isAgg t).run P w=.ok (aggD d) w:=by
 unfold isAgg aggD;simp only[Sem.run_bind,run_underlying h,Result.andThen_ok];cases d<;>simp
theorem y0x{t:TypeId}{inf:TypeInfo}(h:P.info? t=some inf):(sizeOf t).run P w=.ok inf.size w:=by
 simp[sizeOf,typeInfo,h]
theorem y3Y{t:TypeId}{inf:TypeInfo}{z:Value}(h:P.info? t=some inf)(hz:inf.zero=some z):(zeroValue t).run P w=.ok z w:=by
 simp[zeroValue,typeInfo,h,hz]
theorem yu(b off n:Nat):(⟨b,off,none⟩:Addr).add n=⟨b,off+n,none⟩:=by
 unfold Addr.add;split<;>simp_all
theorem y3C{b off:Nat}:∀ (l:List Value) (i:Nat) (acc:Array Value),yO w b (off+i) l ->
  (loadCellsFrom ⟨b,off,none⟩ i l.length acc).run P w=.ok (acc++l.toArray) w
 |[],i,acc,_=>by simp[loadCellsFrom]
 |v::l,i,acc,h=>by
  have h0:=h 0 v rfl;simp only[Nat.add_zero]at h0;have ih:=y3C l (i+1) (acc.push v) (λ j u hj=>by
   have:=h (j+1) u hj;rwa[show off+i+(j+1)=off+(i+1)+j by omega]at this)
  simp only[List.length_cons,loadCellsFrom,Sem.run_bind,yu,load,Sem.run,h0,Result.andThen_ok];simpa using ih
theorem y1s{b off:Nat}{l:List Value}{t:TypeId}{u:Ty}(hf:Fits P t u)(hl:l.length=u.size)(h:yO w b off l) :
  (Instr.loadAt t (.pointer (some ⟨b,off,none⟩))).run P w=.ok (u.wrap l) w:=by
 obtain ⟨inf,d,h1,h2,h3,_,h5,_⟩:=hf.ex;unfold Instr.loadAt;simp only[Instr.sureAddr,Sem.run_bind,Sem.run_pure,Result.andThen_ok,loadVar,yCw h2];cases hd:aggD d with
 |true =>
  have hu:u.agg=true:=by rw[<- h5];exact hd
  simp only[if_true,Sem.run_bind,y0x h1,Result.andThen_ok,loadCells];rw[h3,<- hl,y3C l 0 #[] (by simpa using h)]
  simp[Ty.wrap,hu]
 |false =>
  have hu:u.agg=false:=by rw[<- h5];exact hd
  have h1:u.size=1:=by cases u<;>simp_all [Ty.agg,Ty.size]
  rw[h1]at hl;obtain ⟨v,rfl⟩:=List.length_eq_one_iff.1 hl;have h0:=h 0 v rfl;simp only[Nat.add_zero]at h0;simp[Ty.wrap,hu,load,Sem.run,h0]
end
end Go.Vx
end
section
namespace Go.Vx
open Go.RowKit
variable [GT]
section
variable {P:Program} {A A':Nat->Prop} {w w':World} {ρ:Places}
theorem y5M{a b:Ty}{x:a.den}{y:b.den}(h:y2G a b x=some y):∃ e:a=b,y=e ▸ x:=by
 unfold y2G at h;split at h
 ·rename_i e;cases h;exact ⟨e,rfl⟩
 ·cases h
theorem y55{a b:Ty}{x:a.den}{y:b.den}{l:List Value}(h:y2G a b x=some y)(hc:Cells P a A w x l):Cells P b A w y l/\b=a:=by
 obtain ⟨e,rfl⟩:=y5M h;subst e;exact ⟨hc,rfl⟩
theorem y6i{t:Ty}{x:Option (List t.den)}{l:List Value}(h:Cells P (.nS t) A w x l):Cells P (.slice t) A w (x.getD []) l:=by
 simp only[Cells]at h ⊢;obtain ⟨p,c,rfl,h0,h4,h1,h2,h3⟩:=h;exact ⟨p,c,rfl,h1,h2,h3⟩
theorem y2M{a b:Ty}{x:a.den}{y:b.den}{l:List Value}(h:conv a b x=some y)(hc:Cells P a A w x l):Cells P b A w y l/\b.agg=a.agg:=by
 unfold conv at h
 split at h
 ·split at h
  ·rename_i e;subst e;cases h;exact ⟨y6i hc,rfl⟩
  ·cases h
 ·obtain ⟨h1,h2⟩:=y55 h hc;subst h2;exact ⟨h1,rfl⟩
theorem y4h{a b:Ty}(h:b.agg=a.agg)(l:List Value):b.wrap l=a.wrap l:=by
 unfold Ty.wrap;rw[h]
theorem y54{t:Ty}{x:t.den}{l:List Value}(ht:t.agg=false)(h:Cells P t A w x l):l=[t.wrap l]:=by
 have hl:=h.length;have h1:t.size=1:=by cases t<;>simp_all [Ty.agg,Ty.size]
 rw[h1]at hl;obtain ⟨v,rfl⟩:=List.length_eq_one_iff.1 hl;simp[Ty.wrap,ht]
theorem y30(t:Ty):Cells P (.slice t) A w ([]:List t.den) [.slice none 0 0]:=by
 simp only[Cells];exact ⟨none,0,rfl,le_refl _,zero_le _,λ i x h=>by simp at h⟩
theorem y4W(t:Ty):Cells P (.nS t) A w (none:Option (List t.den)) [.slice none 0 0]:=by
 simp only[Cells];exact ⟨none,0,rfl,by simp,λ _=>rfl,le_refl _,zero_le _,λ i x h=>by simp at h⟩
theorem y8m:∀ (t:Ty) (l:List Value) (x:t.den),y2x t l=some x->Cells P t A w x l:=by
 intro t;induction t with
 |bool=>intro l x h;simp only[y2x]at h;split at h<;>simp_all [Cells]
 |int k=>intro l x h;simp only[y2x]at h;split at h<;>simp_all [Cells]
 |str =>
  intro l x h;simp only[y2x]at h;split at h
  ·cases h;simp only[Cells]
  ·cases h
 |unit=>intro l x h;simp only[y2x]at h;split at h<;>simp_all [Cells]
 |pair a b iha ihb =>
  intro l x h;simp only[y2x]at h;simp only[bind_eq_some_iff,map_eq_some_iff]at h;obtain ⟨y,hy,z,hz,rfl⟩:=h;simp only[Cells];exact ⟨_,_,(List.take_append_drop _ _).symm,iha _ _ hy,ihb _ _ hz⟩
 |slice t ih =>
  intro l x h;simp only[y2x]at h;split at h
  ·cases h;exact y30 t
  ·cases h
 |nS t ih =>
  intro l x h;simp only[y2x]at h;split at h
  ·cases h;exact y4W t
  ·cases h
 |err=>intro l x h;simp only[y2x]at h;split at h<;>simp_all [Cells]
 |map k v _ _=>intro l x h;simp only[y2x]at h;split at h<;>simp_all [Cells]
 |arr n t ih =>
  intro l x h;simp only[y2x]at h;split at h
  ·rename_i hl;simp only[Cells];have hm:∀ (is:List Nat) (ys:List t.den),is.mapM (λ i=>y2x t ((l.drop (i * t.size)).take t.size))=some ys->ys.length=is.length/\∀ (j:Nat) (y:t.den),ys[j]?=some y->∃ i,is[j]?=some i/\y2x t ((l.drop (i * t.size)).take t.size)=some y:=by
    intro is;induction is with
    |nil=>intro ys h;simp at h;subst h;simp
    |cons i is ihs =>
     intro ys h;simp only[mapM_cons,bind_eq_bind,bind_eq_some_iff,pure_def,Option.some.injEq]at h;obtain ⟨y,hy,zs,hz,rfl⟩:=h;obtain ⟨h1,h2⟩:=ihs zs hz;refine ⟨by simp[h1],λ j z hj=>?_⟩
     cases j with
     |zero=>simp at hj;subst hj;exact ⟨i,rfl,hy⟩
     |succ j=>simpa using h2 j z (by simpa using hj)
   obtain ⟨h1,h2⟩:=hm _ _ h;refine ⟨hl,by simpa using h1,λ i y hi=>?_⟩
   obtain ⟨j,hj,hr⟩:=h2 i y hi;have:j=i:=by
    have:=List.getElem?_eq_some_iff.1 hj;obtain ⟨_,h⟩:=this;simpa using h.symm
   subst this;exact ih _ _ hr
  ·cases h
 |flt k =>
  intro l x h;simp only[y2x]at h;split at h
  ·split at h
   ·rename_i e;subst e;cases h;exact ⟨_,rfl,rfl⟩
   ·cases h
  ·cases h
 |code =>
  intro l x h;simp only[y2x]at h;split at h
  ·cases h;exact .inl ⟨rfl,rfl⟩
  ·cases h
 |_=>intro l x h;simp[y2x]at h
end
section
variable {P:Program} {A0:Nat->Prop} {w0:Base} {ρ:Places} {s:St} {a:Act} {w w':World} {T:List (TypeId×TyI)}
theorem yAm{A:Nat->Prop}(τ:TypeId)(v:Value)(n:Nat):yD P A w ρ (y4S T τ v) v/\(y4S T τ v).inn n:=by
 unfold y4S;split
 ·exact ⟨⟨_,rfl,rfl⟩,trivial⟩
 ·exact ⟨⟨_,rfl,rfl⟩,trivial⟩
 ·exact ⟨⟨_,rfl,rfl⟩,trivial⟩
 ·exact ⟨rfl,trivial⟩
 ·exact ⟨rfl,trivial⟩
 ·exact ⟨⟨_,.inl ⟨rfl,rfl⟩,rfl⟩,trivial⟩
 ·split
  ·split
   ·rename_i i _ x hx;split
    ·rename_i hagg;exact ⟨⟨_,y8m _ _ _ hx,by simp[Ty.wrap,hagg]⟩,trivial⟩
    ·exact ⟨trivial,trivial⟩
   ·exact ⟨trivial,trivial⟩
  ·exact ⟨trivial,trivial⟩
 ·split
  ·split
   ·exact ⟨⟨[.map none],by simp[Cells],rfl⟩,trivial⟩
   ·exact ⟨trivial,trivial⟩
  ·exact ⟨trivial,trivial⟩
 ·exact ⟨⟨_,⟨_,rfl,rfl⟩,rfl⟩,trivial⟩
 ·exact ⟨⟨_,⟨_,_,rfl,rfl,rfl⟩,rfl⟩,trivial⟩
 ·split
  ·split
   ·exact ⟨⟨[.nilFunc],.inl ⟨rfl,rfl⟩,rfl⟩,trivial⟩
   ·exact ⟨trivial,trivial⟩
  ·exact ⟨trivial,trivial⟩
 ·exact ⟨trivial,trivial⟩
theorem Rel.inn(h:Rel P A0 w0 ρ s a w)(i:Nat):(s.get i).inn s.cH.length:=by
 rw[St.get_def];rcases hi:s.slots[i]? with _|sv
 ·simp[List.getD,hi,SV.inn]
 ·have:=h.names i sv hi;simpa[List.getD,hi]using this
theorem y6(h:Rel P A0 w0 ρ s a w)(τ:TypeId)(x:Operand) :
  yD P (Av A0 ρ s.cH) w ρ (y8 T τ s x) (a.eval x)/\(y8 T τ s x).inn s.cH.length:=by
 cases x with
 |tmp t=>exact ⟨h.get t,h.inn t⟩
 |const v=>exact yAm τ v _
 |global b =>
  have hG:=h.globW;show yD P (Av A0 ρ s.cH) w ρ (y5j GT.gl b) (.pointer (some ⟨b,0,none⟩))/\(y5j GT.gl b).inn s.cH.length
  clear h;have hG:=hG.tab;generalize (GT.gl:List (Nat×Ty×List Value))=L at hG ⊢;induction L with
  |nil=>exact ⟨trivial,trivial⟩
  |cons p L ih =>
   unfold y5j;split
   ·rename_i hb;have hb':p.1=b:=by simpa using hb
    subst hb';split
    ·rename_i x hx;obtain ⟨h1,h2,h3⟩:=hG p (List.mem_cons_self ..);exact ⟨⟨[.pointer (some ⟨p.1,0,none⟩)],⟨⟨p.1,0,none⟩,p.2.2,rfl,rfl,h1,h2,yDW h3,y8m _ _ _ hx⟩,rfl⟩,trivial⟩
    ·exact ⟨trivial,trivial⟩
   ·exact ih (λ q hq=>hG q (mem_cons_of_mem _ hq))
 |func f=>exact ⟨⟨[],rfl,trivial⟩,trivial⟩
theorem yC7{A A':Nat->Prop}{p:Place}{k v:Ty}{es:List (k.den×v.den)}(h:yC P A w ρ p (.mp k v es))(hA:∀ n,n < w.heap.size->A' n->A n)(hb:∀ b,p.blk=some b->¬ A' b) :
  ∃ b,p.blk=some b/\Cells P (.map k v) A' w es [.map (some b)]:=by
 obtain ⟨b,ms,c,h1,h2,h3,h4⟩:=h;refine ⟨b,h1,.inr ⟨b,ms,c,rfl,hb b h1,h2,h3,λ i x hi=>?_⟩⟩
 obtain ⟨e,lv,h5,h6,h7,h8⟩:=h4 i x hi;exact ⟨e,lv,h5,h6,h7.mono (λ _ _ _=>rfl) hA,h8⟩
theorem y5S{A A':Nat->Prop}{p:Place}{e:TypeId}{t:Ty}{xs:List t.den}{nn:Bool}(h:yC P A w ρ p (.arr e t xs nn))(hA:∀ n,n < w.heap.size->A' n->A n)(hb:∀ b,p.blk=some b->¬ A' b) :
  (nn=false->Cells P (.slice t) A' w xs [.slice (p.blk.map λ b=>⟨b,0,none⟩) p.len p.cap]) /\
  (nn=true->Cells P (.nS t) A' w (some xs) [.slice (p.blk.map λ b=>⟨b,0,none⟩) p.len p.cap]) /\
  Cells P (.slice t) A' w xs [.slice (p.blk.map λ b=>⟨b,0,none⟩) p.len p.cap]:=by
 obtain ⟨hlen,hnn,h⟩:=h;have key:p.len<=p.cap/\p.cap<=maxLen/\∀ (i:Nat) (x:t.den),xs[i]?=some x->∃ (a:Addr) (l':List Value),(p.blk.map λ b=>(⟨b,0,none⟩:Addr))=some a/\a.spot=none/\¬ A' a.block/\a.block < w.heap.size/\yO w a.block (a.off+i * t.size) l'/\Cells P t A' w x l':=by
  rcases h with ⟨h1,h2,h3⟩|⟨b,vs,h1,h2,h3,h4,h5,h6⟩
  ·refine ⟨by omega,by rw[h3];simp[maxLen],λ i x hx=>?_⟩
   have:xs=[]:=List.eq_nil_of_length_eq_zero (by omega)
   subst this;simp at hx
  ·refine ⟨h3,h4,λ i x hx=>⟨⟨b,0,none⟩,(vs.toList.drop (i * t.size)).take t.size,by simp[h1],rfl,hb b h1,yJ h2,?_,(h6 i x hx).mono (λ _ _ _=>rfl) hA⟩⟩
   intro j v hj;rw[getElem?_take]at hj;split at hj
   ·rw[getElem?_drop]at hj;simp only[World.cell?,h2,zero_add];simpa using hj
   ·cases hj
 have hs:Cells P (.slice t) A' w xs [.slice (p.blk.map λ b=>⟨b,0,none⟩) p.len p.cap]:=by
  simp only[Cells];exact ⟨_,p.cap,by rw[hlen],by rw[hlen];exact key.1,key.2.1,key.2.2⟩
 refine ⟨λ _=>hs,λ hn=>?_,hs⟩
 simp only[Cells,Option.getD_some];have hne:=hnn hn;refine ⟨_,p.cap,by rw[hlen],?_,?_,by rw[hlen];exact key.1,key.2.1,key.2.2⟩
 ·simp[hne]
 ·intro h0;simp[hne]at h0
theorem getD_some{cs:List (Option Chunk)}{β:Nat}{ch:Chunk}(h:cs.getD β none=some ch):cs[β]?=some (some ch):=by
 rw[List.getD_eq_getElem?_getD]at h;cases hc:cs[β]? with
 |none=>simp[hc]at h
 |some o=>simp[hc]at h;rw[h]
theorem y7n{A A':Nat->Prop}{cs:List (Option Chunk)}(hA:∀ n,n < w.heap.size->A' n->A n)
  (hc:∀ β ch,cs[β]?=some (some ch)->yC P A w ρ (ρ β) ch/\∀ b,(ρ β).blk=some b->¬ A' b)
  {sv:SV} {v:Value} {t:Ty} {x:t.den} (hs:yD P A w ρ sv v) (h:y0p cs sv t=some x):∃ l,Cells P t A' w x l/\v=t.wrap l:=by
 unfold y0p at h;split at h
 ·rename_i u y;obtain ⟨l,hl,rfl⟩:=hs;obtain ⟨h1,h2⟩:=y2M h hl;exact ⟨l,h1.mono (λ _ _ _=>rfl) hA,(y4h h2 l).symm⟩
 ·simp only[yD]at hs;subst hs;split at h
  ·cases h;exact ⟨[.slice none 0 0],y30 _,rfl⟩
  ·cases h;exact ⟨[.slice none 0 0],y4W _,rfl⟩
  ·cases h
 ·rename_i β;simp only[yD]at hs;subst hs;simp only[bind_eq_some_iff]at h;obtain ⟨tv,h1,h2⟩:=h;unfold y9u at h1;split at h1
  ·rename_i e u xs nn hch;obtain ⟨h3,h4⟩:=hc β _ (getD_some hch);obtain ⟨h5,h6,h7⟩:=y5S h3 hA h4;cases nn with
   |true =>
    simp at h1;subst h1;obtain ⟨h8,h9⟩:=y2M h2 (h6 rfl);exact ⟨_,h8,by rw[y4h h9];rfl⟩
   |false =>
    simp at h1;subst h1;obtain ⟨h8,h9⟩:=y2M h2 (h5 rfl);exact ⟨_,h8,by rw[y4h h9];rfl⟩
  ·cases h1
 ·rename_i β;simp only[yD]at hs;subst hs;simp only[bind_eq_some_iff]at h;obtain ⟨tv,h1,h2⟩:=h;unfold y5g at h1;split at h1
  ·rename_i k u es hch;obtain ⟨h3,h4⟩:=hc β _ (getD_some hch);obtain ⟨b,h5,h6⟩:=yC7 h3 hA h4;simp at h1;subst h1;obtain ⟨h8,h9⟩:=y2M h2 h6;exact ⟨_,h8,by rw[y4h h9,h5];rfl⟩
  ·cases h1
 ·cases h
theorem y04{A:Nat->Prop}{sv:SV}{v:Value}{t:Ty}{x:t.den}(hs:yD P A w ρ sv v)(h:y0p [] sv t=some x):∃ l,Cells P t A w x l/\v=t.wrap l:=
 y7n (cs:=[]) (λ _ _ h=>h) (λ β ch h=>by simp at h) hs h
def yA(P:Program)(A:Nat->Prop)(w:World)(ρ:Places)(svs:List SV)(vs:List Value):Prop:=
 vs.length=svs.length/\∀ (i:Nat) (sv:SV),svs[i]?=some sv->∃ v,vs[i]?=some v/\yD P A w ρ sv v
theorem yA.take{A:Nat->Prop}{svs:List SV}{vs:List Value}(h:yA P A w ρ svs vs)(n:Nat):yA P A w ρ (svs.take n) (vs.take n):=by
 refine ⟨by simp[h.1],λ i sv hi=>?_⟩
 rw[getElem?_take]at hi;split at hi
 ·rename_i hn;obtain ⟨v,h1,h2⟩:=h.2 i sv hi;exact ⟨v,by rw[getElem?_take,if_pos hn];exact h1,h2⟩
 ·cases hi
theorem yA.drop{A:Nat->Prop}{svs:List SV}{vs:List Value}(h:yA P A w ρ svs vs)(n:Nat):yA P A w ρ (svs.drop n) (vs.drop n):=by
 refine ⟨by simp[h.1],λ i sv hi=>?_⟩
 rw[getElem?_drop]at hi;obtain ⟨v,h1,h2⟩:=h.2 _ sv hi;exact ⟨v,by rw[getElem?_drop];exact h1,h2⟩
theorem yA.append{A:Nat->Prop}{s1 s2:List SV}{v1 v2:List Value}(h1:yA P A w ρ s1 v1)(h2:yA P A w ρ s2 v2):yA P A w ρ (s1++s2) (v1++v2):=by
 refine ⟨by simp[h1.1,h2.1],λ i sv hi=>?_⟩
 rcases Nat.lt_or_ge i s1.length with hl|hl
 ·rw[List.getElem?_append_left hl]at hi;rw[List.getElem?_append_left (by rw[h1.1];exact hl)]
  exact h1.2 i sv hi
 ·rw[List.getElem?_append_right hl]at hi;rw[List.getElem?_append_right (by rw[h1.1];exact hl),h1.1]
  exact h2.2 _ sv hi
theorem yA.one{A:Nat->Prop}{sv:SV}{v:Value}(h:yD P A w ρ sv v):yA P A w ρ [sv] [v]:=by
 refine ⟨rfl,λ i x hi=>?_⟩
 cases i with
 |zero=>simp at hi;subst hi;exact ⟨v,rfl,h⟩
 |succ i=>simp at hi
theorem yAt{A:Nat->Prop}{t:Ty}(ht:t.agg=false){sv:SV}{vs:List Value}{x:t.den}(hr:yA P A w ρ [sv] vs)(h:y0p [] sv t=some x):Cells P t A w x vs:=by
 obtain ⟨v,h1,h2⟩:=hr.2 0 sv rfl;have hl:=hr.1;obtain ⟨v',rfl⟩:=List.length_eq_one_iff.1 hl;simp at h1;subst h1;obtain ⟨l,h3,h4⟩:=y04 h2 h;have:=y54 ht h3;rw[<- h4]at this;rw[<- this];exact h3
theorem yHb{A:Nat->Prop}{sv:SV}{v:Value}(h:yD P A w ρ sv v):yD P A w ρ (unX sv) v:=by
 cases sv with
 |xV t x=>obtain ⟨l,hl,e,_⟩:=h;exact ⟨l,hl,e⟩
 |_=>exact h
theorem yA.unX{A:Nat->Prop}{sv:SV}{vs:List Value}(h:yA P A w ρ [sv] vs):yA P A w ρ [Vx.unX sv] vs:=
 ⟨h.1,λ i sv' hi=>by
  cases i with
  |zero=>cases hi;obtain ⟨v,h1,h2⟩:=h.2 0 sv rfl;exact ⟨v,h1,yHb h2⟩
  |succ i=>cases hi⟩
theorem y1x{A:Nat->Prop}:∀ (t:Ty) (svs:List SV) (vs:List Value) (x:t.den),yA P A w ρ svs vs->y2X t svs=some x->Cells P t A w x vs:=by
 intro t;induction t with
 |unit =>
  intro svs vs x hr h;simp only[y2X]at h;split at h<;>simp_all [yA,Cells]
 |pair a b iha ihb =>
  intro svs vs x hr h;simp only[y2X]at h;simp only[bind_eq_some_iff,map_eq_some_iff]at h;obtain ⟨y,hy,z,hz,rfl⟩:=h;simp only[Cells];exact ⟨_,_,(List.take_append_drop a.size vs).symm,iha _ _ _ (hr.take _) hy,ihb _ _ _ (hr.drop _) hz⟩
 |arr n t ih =>
  intro svs vs x hr h;simp only[y2X]at h;split at h
  ·rename_i hl;simp only[Cells];have hm:∀ (is:List Nat) (ys:List t.den),is.mapM (λ i=>y2X t ((svs.drop (i * t.size)).take t.size))=some ys->ys.length=is.length/\∀ (j:Nat) (y:t.den),ys[j]?=some y->∃ i,is[j]?=some i/\y2X t ((svs.drop (i * t.size)).take t.size)=some y:=by
    intro is;induction is with
    |nil=>intro ys h;simp at h;subst h;simp
    |cons i is ihs =>
     intro ys h;simp only[mapM_cons,bind_eq_bind,bind_eq_some_iff,pure_def,Option.some.injEq]at h;obtain ⟨y,hy,zs,hz,rfl⟩:=h;obtain ⟨h1,h2⟩:=ihs zs hz;refine ⟨by simp[h1],λ j z hj=>?_⟩
     cases j with
     |zero=>simp at hj;subst hj;exact ⟨i,rfl,hy⟩
     |succ j=>simpa using h2 j z (by simpa using hj)
   obtain ⟨h1,h2⟩:=hm _ _ h;refine ⟨by rw[hr.1];exact hl,by simpa using h1,λ i y hi=>?_⟩
   obtain ⟨j,hj,hg⟩:=h2 i y hi;have:j=i:=by
    obtain ⟨_,h⟩:=List.getElem?_eq_some_iff.1 hj;simpa using h.symm
   subst this;exact ih _ _ _ ((hr.drop _).take _) hg
  ·cases h
 |_ =>
  intro svs vs x hr h;simp only[y2X,one]at h;split at h
  ·exact yAt rfl (yA.unX hr) h
  ·cases h
theorem y1d{A:Nat->Prop}:∀ (t:Ty) (x:t.den) (l:List Value),Cells P t A w x l->yA P A w ρ (y0D t x) l:=by
 intro t;induction t with
 |unit=>intro x l h;simp only[Cells]at h;subst h;exact ⟨rfl,λ i sv hi=>by simp[y0D]at hi⟩
 |pair a b iha ihb =>
  intro x l h;simp only[Cells]at h;obtain ⟨l1,l2,rfl,h1,h2⟩:=h;exact (iha _ _ h1).append (ihb _ _ h2)
 |arr n t ih =>
  intro xs l h;simp only[Cells]at h;obtain ⟨h1,h2,h3⟩:=h;unfold y0D;have key:∀ m,m<=n->yA P A w ρ ((List.range m).flatMap λ i=>y0D t (List.getD xs i t.dflt)) (l.take (m * t.size)):=by
   intro m;induction m with
   |zero=>intro _;exact ⟨by simp,λ i sv hi=>by simp at hi⟩
   |succ m ihm =>
    intro hm;rw[List.range_succ,List.flatMap_append,List.flatMap_singleton];rw[show (m+1) * t.size=m * t.size+t.size by rw[add_mul,one_mul],List.take_add]
    have hm':m < List.length xs:=by omega
    refine (ihm (by omega)).append (ih _ _ (h3 m _ ?_))
    rw[List.getD_eq_getElem?_getD,getElem?_eq_getElem hm'];rfl
  have:=key n (le_refl _);rwa[<- h1,List.take_length]at this
 |_ =>
  intro x l h;have hs:=y54 (t:=_) rfl h;rw[hs];exact yA.one ⟨l,h,rfl⟩
theorem y6F{A:Nat->Prop}:∀ (t:Ty),yA P A w ρ (y0U t) t.zeroV:=by
 intro t;induction t with
 |unit=>exact ⟨rfl,λ i sv hi=>by simp[y0U]at hi⟩
 |pair a b iha ihb=>exact iha.append ihb
 |arr n t ih =>
  unfold y0U Ty.zeroV;induction n with
  |zero=>exact ⟨rfl,λ i sv hi=>by simp at hi⟩
  |succ n ihn=>simpa[List.replicate_succ]using ih.append ihn
 |bool=>exact yA.one ⟨_,rfl,rfl⟩
 |int k=>exact yA.one ⟨_,rfl,rfl⟩
 |str=>exact yA.one ⟨_,rfl,rfl⟩
 |slice t _=>exact yA.one rfl
 |nS t _=>exact yA.one rfl
 |err=>exact yA.one ⟨_,.inl ⟨rfl,rfl⟩,rfl⟩
 |flt k=>exact yA.one ⟨_,⟨0,rfl,y35 k⟩,rfl⟩
 |cplx k=>exact yA.one ⟨_,⟨0,0,rfl,y35 k,y35 k⟩,rfl⟩
 |code=>exact yA.one ⟨_,.inl ⟨rfl,rfl⟩,rfl⟩
 |_=>exact yA.one trivial
theorem yS:∀ t:Ty,t.zeroV.length=t.size:=by
 intro t;induction t with
 |pair a b iha ihb=>simp[Ty.zeroV,Ty.size,iha,ihb]
 |arr n t ih=>simp[Ty.zeroV,Ty.size,ih]
 |_=>rfl
theorem y4l{A:Nat->Prop}:∀ (t:Ty),t.zok=true->Cells P t A w t.dflt t.zeroV:=by
 intro t;induction t with
 |pair a b iha ihb =>
  intro h;simp only[Ty.zok,and_eq_true]at h;exact ⟨_,_,rfl,iha h.1,ihb h.2⟩
 |arr n t ih =>
  intro h;have hz:=ih h;simp only[Cells];refine ⟨by simp[Ty.zeroV,yS],by simp[Ty.dflt],λ i x hi=>?_⟩
  have hi':=List.getElem?_eq_some_iff.1 hi;obtain ⟨hlt,hx⟩:=hi';simp[Ty.dflt]at hlt hx;subst hx;have:((Ty.arr n t).zeroV.drop (i * t.size)).take t.size=t.zeroV:=by
   show (((List.replicate n t.zeroV).flatten).drop (i * t.size)).take t.size=t.zeroV
   have key:∀ (n i:Nat),i < n->(((List.replicate n t.zeroV).flatten).drop (i * t.size)).take t.size=t.zeroV:=by
    intro n;induction n with
    |zero=>intro i h;omega
    |succ n ihn =>
     intro i hi;rw[List.replicate_succ,List.flatten_cons];cases i with
     |zero=>simp[<- yS t]
     |succ i =>
      rw[show (i+1) * t.size=t.zeroV.length+i * t.size by rw[yS,add_mul,one_mul,Nat.add_comm],drop_append]
      simp only[Nat.add_sub_cancel_left];rw[drop_eq_nil_of_le (by omega),nil_append]
      exact ihn i (by omega)
   exact key n i hlt
  rw[this];exact hz
 |bool=>intro _;rfl
 |int k=>intro _;rfl
 |str=>intro _;rfl
 |unit=>intro _;rfl
 |slice t _=>intro _;exact y30 t
 |nS t _=>intro _;exact y4W t
 |err=>intro _;exact .inl ⟨rfl,rfl⟩
 |flt k=>intro _;exact ⟨0,rfl,y35 k⟩
 |cplx k=>intro _;exact ⟨0,0,rfl,y35 k,y35 k⟩
 |code=>intro _;exact .inl ⟨rfl,rfl⟩
 |map k v _ _=>intro _;exact .inl ⟨rfl,rfl⟩
 |func a b _ _=>intro _;exact .inl ⟨rfl,λ _=>rfl⟩
 |ref t _=>intro h;cases h
theorem y3U{A:Nat->Prop}:∀ (t:Ty) (fs:List Field) (off:Nat) (x:t.den) (l:List Value) (f:Nat) (tv:TV),yx P fs off t=true->Cells P t A w x l->y3V t x f=some tv ->
  ∃ fd,fs[f]?=some fd/\Fits P fd.type tv.t/\tv.t.size≠0/\off<=fd.offset/\fd.offset - off+tv.t.size<=l.length/\Cells P tv.t A w tv.x ((l.drop (fd.offset - off)).take tv.t.size):=by
 intro t;induction t with
 |pair a b iha ihb =>
  intro fs off x l f tv hB hc h;cases fs with
  |nil=>simp[yx]at hB
  |cons fd fs =>
   simp only[yx,and_eq_true,beq_iff_eq,not_eq_true',beq_eq_false_iff_ne]at hB;simp only[Cells]at hc;obtain ⟨l1,l2,rfl,h1,h2⟩:=hc;cases f with
   |zero =>
    simp only[y3V,Option.some.injEq]at h;subst h;have h0:fd.offset - off=0:=by omega
    refine ⟨fd,rfl,y0r hB.1.2,hB.1.1.2,by omega,?_,?_⟩
    ·rw[h0];simp[h1.length]
    ·rw[h0];simp only[drop_zero];rw[<- h1.length,take_left];exact h1
   |succ f =>
    simp only[y3V]at h;obtain ⟨fd',h3,h4,h5,h6,h7,h8⟩:=ihb fs _ _ _ f tv hB.2 h2 h;have e:fd'.offset - off=l1.length+(fd'.offset - (off+a.size)):=by rw[h1.length];omega
    refine ⟨fd',by simpa using h3,h4,h5,by omega,?_,?_⟩
    ·rw[e];simp;omega
    ·rw[e,drop_append,drop_eq_nil_of_le (by omega),nil_append,Nat.add_sub_cancel_left]
     exact h8
 |_=>intro fs off x l f tv _ _ h;simp[y3V]at h
theorem y74{A:Nat->Prop}:∀ (t:Ty) (x:t.den) (off:Nat) (τ:Ty) (y:τ.den) (l:List Value),Cells P t A w x l->y21 t x off τ=some y->off+τ.size<=l.length/\Cells P τ A w y ((l.drop off).take τ.size):=by
 intro t;induction t with
 |pair a b iha ihb =>
  intro x off τ y l hc h;unfold y21 at h;split at h
  ·rename_i e;obtain ⟨rfl,rfl⟩:=e;cases h;have:=hc.length;refine ⟨by omega,?_⟩
   rw[drop_zero,<- this,List.take_length];exact hc
  ·simp only[Cells]at hc;obtain ⟨l1,l2,rfl,h1,h2⟩:=hc;simp only at h;split at h
   ·rename_i hlt;obtain ⟨h3,h4⟩:=iha _ _ _ _ _ h1 h;refine ⟨by simp;omega,?_⟩
    rw[drop_append,List.take_append];have e1:off - l1.length=0:=by omega
    have e2:τ.size - (l1.drop off).length=0:=by simp;omega
    rw[e2,take_zero,append_nil];exact h4
   ·rename_i hge;have hlen:=h1.length;obtain ⟨h3,h4⟩:=ihb _ _ _ _ _ h2 h;refine ⟨by simp;omega,?_⟩
    rw[drop_append,drop_eq_nil_of_le (by omega),nil_append,hlen]
    exact h4
 |_ =>
  intro x off τ y l hc h;unfold y21 at h;split at h
  ·rename_i e;obtain ⟨rfl,rfl⟩:=e;cases h;have:=hc.length;refine ⟨by omega,?_⟩
   rw[drop_zero,<- this,List.take_length];exact hc
  ·simp at h
theorem y1n{A:Nat->Prop}:∀ (t:Ty) (x:t.den) (off:Nat) (τ:Ty) (y:τ.den) (x':t.den) (l m:List Value),Cells P t A w x l->Cells P τ A w y m->y1F t x off τ y=some x' ->
  off+m.length<=l.length/\Cells P t A w x' (l.take off++m++l.drop (off+m.length)):=by
 intro t;induction t with
 |pair a b iha ihb =>
  intro x off τ y x' l m hc hm h;unfold y1F at h;split at h
  ·rename_i e;obtain ⟨rfl,rfl⟩:=e;cases h;have h1:=hc.length;have h2:=hm.length;refine ⟨by omega,?_⟩
   rw[take_zero,nil_append,zero_add,drop_eq_nil_of_le (by omega),append_nil]
   exact hm
  ·simp only[Cells]at hc;obtain ⟨l1,l2,rfl,h1,h2⟩:=hc;simp only at h;split at h
   ·rename_i hlt;simp only[map_eq_some_iff]at h;obtain ⟨q,hq,rfl⟩:=h;obtain ⟨h3,h4⟩:=iha _ _ _ _ _ _ _ h1 hm hq;refine ⟨by simp;omega,?_⟩
    simp only[Cells];refine ⟨l1.take off++m++l1.drop (off+m.length),l2,?_,h4,h2⟩;rw[List.take_append_of_le_length (by omega),List.drop_append_of_le_length (by omega)]
    simp
   ·rename_i hge;have hlen:=h1.length;simp only[map_eq_some_iff]at h;obtain ⟨q,hq,rfl⟩:=h;obtain ⟨h3,h4⟩:=ihb _ _ _ _ _ _ _ h2 hm hq;refine ⟨by simp;omega,?_⟩
    simp only[Cells];refine ⟨l1,l2.take (off - a.size)++m++l2.drop (off - a.size+m.length),?_,h1,h4⟩;rw[List.take_append,drop_append,List.take_of_length_le (by omega),drop_eq_nil_of_le (by omega),hlen]
    simp;congr 2
    omega
 |_ =>
  intro x off τ y x' l m hc hm h;unfold y1F at h;split at h
  ·rename_i e;obtain ⟨rfl,rfl⟩:=e;cases h;have h1:=hc.length;have h2:=hm.length;refine ⟨by omega,?_⟩
   rw[take_zero,nil_append,zero_add,drop_eq_nil_of_le (by omega),append_nil]
   exact hm
  ·simp at h
theorem yDY{A:Nat->Prop}:∀ (t:Ty) (x:t.den) (l:List Value) (n:Nat) (tv:TV),Cells P t A w x l->yGa t x n=some tv->∃ l',Cells P tv.t A w tv.x l'/\(t.group l)[n]?=some (tv.t.wrap l'):=by
 intro t;induction t with
 |pair a b iha ihb =>
  intro x l n tv hc h;simp only[Cells]at hc;obtain ⟨l1,l2,rfl,h1,h2⟩:=hc;have e1:(l1++l2).take a.size=l1:=by rw[<- h1.length,take_left]
  have e2:(l1++l2).drop a.size=l2:=by rw[<- h1.length,drop_left]
  cases n with
  |zero =>
   simp only[yGa,Option.some.injEq]at h;subst h;exact ⟨l1,h1,by simp[Ty.group,e1]⟩
  |succ n =>
   simp only[yGa]at h;obtain ⟨l',h3,h4⟩:=ihb _ _ n tv h2 h;exact ⟨l',h3,by simpa[Ty.group,e2]using h4⟩
 |_=>intro x l n tv _ h;simp[yGa]at h
end
def yJi(P:Program)(f:FuncId)(q:TypeId×Ty):Prop:=
 ∀ (w:World) (p:Option Addr) (n c:Nat) (news:List Value),news.length=n * q.2.size->n<=memMax->(p=none->n=0)->(∀ a,p=some a->∀ j v,news[j]?=some v->w.cell? (a.add j)=some v)->(∀ v∈news,v.oneCell'=true) ->
  Calls P f #[.slice p n c] w λ ex w'=>∃ v',ex=.returned v'/\w'.ownsRow w.heap.size q.1 q.2.size v' n news/\Below w.heap.size w w'
def ExOK(P:Program)(f:FuncId)(q:TV):Prop:=
 ∀ (A:Nat->Prop) (w:World),GlobOK A w->(∀ n,A n->n < w.heap.size) ->
  Calls P f #[] w λ ex w'=>∃ l,ex=.returned (q.t.wrap l)/\Cells P q.t A w' q.x l/\yBt l/\Below w.heap.size w w'
def RdOK(P:Program)(f:FuncId):RdK->Prop
 |.last o u=>∀ (w:World) (b off pb po n c:Nat) (l:List Value),w.cell? ⟨b,off+o,none⟩=some (.slice (some ⟨pb,po,none⟩) n c)->0 < n->n<=maxLen->l.length=u.size->yO w pb (po+(n - 1) * u.size) l->(∀ v∈l,v.oneCell'=true) ->
   Calls P f #[.pointer (some ⟨b,off,none⟩)] w λ ex w'=>ex=.returned (u.wrap l)/\Below w.heap.size w w'
 |.part ls=>∀ (w:World) (b off:Nat) (s:List UInt8),
   Calls P f #[.pointer (some ⟨b,off,none⟩),.string ⟨s.toArray⟩] w λ ex w'=>ex=.returned (match ls.find? (λ p=>s == p.1)with|some p=>.pointer (some ⟨b,off+p.2,none⟩)|none=>.pointer none)/\Below w.heap.size w w'
def yPt(P:Program)(f:FuncId):ExK->Prop
 |.x q=>ExOK P f q
 |.rd q=>RdOK P f q
def FnOK(P:Program)(e:Entry):Prop:=
 y28 P e.f/\(∀ (A:Nat->Prop) (w:World) (x:e.args.den) (l:List Value) (y:e.rS.den),GlobOK A w->(∀ n,A n->n < w.heap.size)->Cells P e.args A w x l->e.m x=some y ->
  Calls P e.f (e.args.group l).toArray w λ ex w'=>∃ ly,ex=.returned (pack (e.rS.group ly))/\Cells P e.rS A w' y ly/\Below w.heap.size w w') /\
  (∀ q,e.own=some q->yJi P e.f q)/\∀ q,e.ex=some q->yPt P e.f q
section
variable {P:Program} {A0:Nat->Prop} {w0:Base} {ρ:Places} {s:St} {a:Act} {w w':World} {g:G}
theorem yGe{A A':Nat->Prop}:∀ {t:Ty} {x:t.den} {l:List Value},t.flat=true->Cells P t A w x l->Cells P t A' w' x l:=by
 intro t;induction t with
 |pair a b iha ihb =>
  intro x l hf h;simp only[Ty.flat,and_eq_true]at hf;simp only[Cells]at h ⊢;obtain ⟨l1,l2,rfl,h1,h2⟩:=h;exact ⟨l1,l2,rfl,iha hf.1 h1,ihb hf.2 h2⟩
 |arr n t ih =>
  intro x l hf h;simp only[Cells]at h ⊢;exact ⟨h.1,h.2.1,λ i y hy=>ih hf (h.2.2 i y hy)⟩
 |bool|int _|str|unit|flt _|cplx _|err|code=>intro x l _ h;exact h
 |_=>intro x l hf h;cases hf
theorem yIO{A:Nat->Prop}{t:Ty}{y:t.den}{ly:List Value}(hy:Cells P t A w y ly):∀ {a:Ty} {x:a.den} {l:List Value},Cells P a A w x l ->
  ∃ l',Cells P (a.app t) A w (yEe a t x y) l'/\(a.app t).group l'=a.group l++t.group ly:=by
 intro a;induction a with
 |pair a b iha ihb =>
  intro x l h;simp only[Cells]at h;obtain ⟨l1,l2,rfl,h1,h2⟩:=h;obtain ⟨l',h3,h4⟩:=ihb h2;refine ⟨l1++l',⟨l1,l',rfl,h1,h3⟩,?_⟩;have e1:(l1++l2).take a.size=l1:=by rw[<- h1.length,take_left]
  have e2:(l1++l2).drop a.size=l2:=by rw[<- h1.length,drop_left]
  have e3:(l1++l').take a.size=l1:=by rw[<- h1.length,take_left]
  have e4:(l1++l').drop a.size=l':=by rw[<- h1.length,drop_left]
  simp only[Ty.group,Ty.app,e1,e2,e3,e4,h4,List.cons_append]
 |_=>intro x l h;exact ⟨ly,hy,by simp[Ty.group,Ty.app]⟩
theorem y6a{A:Nat->Prop}:∀ {cs:List Cap} {vs:List Value} {c:TV},yAE cs=some c->yY P A w ρ cs vs->∃ l,Cells P c.t A w c.x l/\c.t.group l=vs
 |[],[],c,h,_=>by
  simp only[yAE,Option.some.injEq]at h;subst h;exact ⟨[],rfl,rfl⟩
 |[],_::_,_,_,h=>h.elim
 |.box β::cs,_,c,h,_=>by simp[yAE]at h
 |.val t x::cs,[],c,_,h=>h.elim
 |.val t x::cs,v::vs,c,h,hr=>by
  simp only[yAE,map_eq_some_iff]at h;obtain ⟨d,hd,rfl⟩:=h;obtain ⟨l2,h3,h4⟩:=y6a hd hr.2;obtain ⟨l1,h1,rfl⟩:=hr.1;refine ⟨l1++l2,⟨l1,l2,rfl,h1,h3⟩,?_⟩;have e1:(l1++l2).take t.size=l1:=by rw[<- h1.length,take_left]
  have e2:(l1++l2).drop t.size=l2:=by rw[<- h1.length,drop_left]
  simp only[Ty.group,e1,e2,h4]
theorem y1t:∀ {E:List Entry} {f:FuncId} {e:Entry},y8v E f=some e->e∈E/\e.f=f
 |[],_,_,h=>by simp[y8v]at h
 |e'::l,f,e,h=>by
  unfold y8v at h;split at h
  ·rename_i he;simp at he h;subst h;exact ⟨List.mem_cons_self ..,he⟩
  ·exact ⟨mem_cons_of_mem _ (y1t h).1,(y1t h).2⟩
theorem y70(hE:∀ e∈g.E,FnOK P e){A A':Nat->Prop}(hA:∀ n,n < w.heap.size->A' n->A n){f:FuncId}{caps:List Cap}{ta tb:Ty}{m:ta.den->Option tb.den}{v:Value}(hs:yD P A w ρ (.clo f caps) v)(h:yF0 g.E f caps ta tb=some m) :
  ∃ l,Cells P (.func ta tb) A' w m l/\v=(Ty.func ta tb).wrap l:=by
 obtain ⟨vs,rfl,hr⟩:=hs;unfold yF0 at h;simp only[bind_eq_some_iff]at h;obtain ⟨e,he,c,hc,h⟩:=h;obtain ⟨hm,rfl⟩:=y1t he;split at h
 ·rename_i heq;obtain ⟨lc,h1,h2⟩:=y6a hc hr;obtain ⟨f,ea,er,em,eo,ex⟩:=e;obtain ⟨h3,h4⟩:=heq;simp only at h3 h4;subst h3 h4;cases hsol:c.t.solid with
  |false=>rw[hsol]at h;cases h
  |true =>
  rw[hsol,cond_true]at h;simp only[Option.some.injEq]at h;obtain ⟨hEn,hF,_⟩:=hE _ hm;refine ⟨_,.inr ⟨f,#[],vs.toArray,λ n=>n < w.heap.size/\¬ A' n/\y6q w n,rfl,hEn,λ n hn=>⟨hn.2.1,hn.1,hn.2.2⟩,λ A2 w2 hG2 h5 h6 x lx y hx hy=>?_⟩,rfl⟩
  subst h;have h1':Cells P c.t A2 w2 c.x lc:=Cells.mono2 (λ n hn hnA hd=>h5 n ⟨hn,hnA,hd⟩) (λ n hn hn2 hd=>Classical.byContradiction λ hc=>(h6 n hn2).2 ⟨hn,hc,hd⟩) hsol (h1.mono (λ _ _ _=>rfl) hA)
  obtain ⟨l',h7,h8⟩:=yIO h1' hx;have:=hF A2 w2 (yEe ta c.t x c.x) l' y hG2 (λ n hn=>(h6 n hn).1) h7 hy
  rw[h8,h2]at this;have e2:#[]++(ta.group lx).toArray++vs.toArray=(ta.group lx++vs).toArray:=by simp
  rw[e2];exact this
 ·cases h
theorem y51(hE:∀ e∈g.E,FnOK P e){A A':Nat->Prop}{cs:List (Option Chunk)}(hA:∀ n,n < w.heap.size->A' n->A n)
  (hc:∀ β ch,cs[β]?=some (some ch)->yC P A w ρ (ρ β) ch/\∀ b,(ρ β).blk=some b->¬ A' b)
  {sv:SV} {v:Value} {t:Ty} {x:t.den} (hs:yD P A w ρ sv v) (h:y5A g.E cs sv t=some x):∃ l,Cells P t A' w x l/\v=t.wrap l:=by
 unfold y5A at h;split at h
 ·exact y70 hE hA hs h
 ·rename_i f;cases h;obtain ⟨vs,rfl,hr⟩:=hs;cases vs with
  |nil=>exact ⟨[_],.inr ⟨f,rfl,rfl⟩,rfl⟩
  |cons _ _=>exact hr.elim
 ·exact y7n hA hc hs h
theorem y8y(hE:∀ e∈g.E,FnOK P e){A:Nat->Prop}{sv:SV}{v:Value}{t:Ty}{x:t.den}(hs:yD P A w ρ sv v)(h:y5A g.E [] sv t=some x):∃ l,Cells P t A w x l/\v=t.wrap l:=
 y51 hE (cs:=[]) (λ _ _ h=>h) (λ β ch h=>by simp at h) hs h
theorem y9l(hE:∀ e∈g.E,FnOK P e){A:Nat->Prop}(t:Ty){sv:SV}{v:Value}{n:Nat}(hs:yD P A w ρ sv v)(hn:sv.inn n):yD P A w ρ (asFn g.E t sv) v/\(asFn g.E t sv).inn n:=by
 unfold asFn;split
 ·split
  ·rename_i m hm;exact ⟨y70 hE (λ _ _ h=>h) hs hm,trivial⟩
  ·exact ⟨hs,hn⟩
 ·rename_i f;obtain ⟨vs,rfl,hr⟩:=hs;cases vs with
  |nil=>exact ⟨⟨[_],.inr ⟨f,rfl,rfl⟩,rfl⟩,trivial⟩
  |cons _ _=>exact hr.elim
 ·exact ⟨hs,hn⟩
theorem yCR{A:Nat->Prop}{t':TypeId}{u t:Ty}{x:u.den}{y:TV}{l:List Value}(h:yJa u t x=some y)(hc:Cells P u A w x l)(hF:Fits P t' t):Cells P y.t A w y.x l/\Fits P t' y.t:=by
 unfold yJa at h;split at h
 ·split at h
  ·rename_i hu;cases h;subst hu;exact ⟨hc,⟨λ h=>(by cases h),hF.ex⟩⟩
  ·cases h
 ·obtain ⟨z,hz,rfl⟩:=map_eq_some_iff.1 h;exact ⟨(y55 hz hc).1,hF⟩
end
end Go.Vx
end
section
namespace Go.Vx
open Go.RowKit
variable [GT]
section
variable {P:Program} {A0:Nat->Prop} {w0:Base} {ρ:Places} {s:St} {a:Act} {w w':World} {g:G} {R:Type} {K:SV->Option R} {r:R} {o:Oper}
def Yld(P:Program)(A0:Nat->Prop)(ρ:Places)(s:St)(a:Act)(w:World)(o:Oper)(K:SV->Option R)(r:R):Prop:=
 ∃ sv v w',(execOp a.eval o).run P w=.ok (.value v) w'/\Below w.heap.size w w'/\yD P (Av A0 ρ s.cH) w' ρ sv v/\sv.inn s.cH.length/\K sv=some r
theorem Yld.here{sv:SV}{v:Value}(h1:(execOp a.eval o).run P w=.ok (.value v) w)(h2:yD P (Av A0 ρ s.cH) w ρ sv v)(h3:sv.inn s.cH.length)(h4:K sv=some r):Yld P A0 ρ s a w o K r:=
 ⟨sv,v,w,h1,Below.refl _ _,h2,h3,h4⟩
theorem yh{A:Nat->Prop}{k:IntKind}{n:Int}{v:Value}(h:yD P A w ρ (.val (.int k) n) v):v=.int k n:=by
 obtain ⟨l,hl,rfl⟩:=h;simp only[Cells]at hl;subst hl;rfl
theorem y2m{A:Nat->Prop}{b:Bool}{v:Value}(h:yD P A w ρ (.val .bool b) v):v=.bool b:=by
 obtain ⟨l,hl,rfl⟩:=h;simp only[Cells]at hl;subst hl;rfl
theorem y3T{A:Nat->Prop}{b:List UInt8}{v:Value}(h:yD P A w ρ (.val .str b) v):v=.string ⟨b.toArray⟩:=by
 obtain ⟨l,hl,rfl⟩:=h;simp only[Cells]at hl;subst hl;rfl
theorem y2p{A:Nat->Prop}(k:IntKind)(n:Int):yD P A w ρ (.val (.int k) n) (.int k n):=⟨_,rfl,rfl⟩
theorem y12{A:Nat->Prop}(b:Bool):yD P A w ρ (.val .bool b) (.bool b):=⟨_,rfl,rfl⟩
theorem yBp{A:Nat->Prop}(k:FloatKind)(b:Nat):yD P A w ρ (.val (.flt k) (fcan k b)) (.float k b):=⟨_,⟨b,rfl,rfl⟩,rfl⟩
theorem y6W{A:Nat->Prop}{k:FloatKind}{n:Nat}{v:Value}(h:yD P A w ρ (.val (.flt k) n) v):∃ b,v=.float k b/\n=fcan k b:=by
 obtain ⟨l,hl,rfl⟩:=h;simp only[Cells]at hl;obtain ⟨b,rfl,hb⟩:=hl;exact ⟨b,rfl,hb.symm⟩
theorem yAU{A:Nat->Prop}{k:FloatKind}{z:Nat×Nat}{v:Value}(h:yD P A w ρ (.val (.cplx k) z) v):∃ a b,v=.complex k a b/\z.1=fcan k a/\z.2=fcan k b:=by
 obtain ⟨l,hl,rfl⟩:=h;simp only[Cells]at hl;obtain ⟨a,b,rfl,h1,h2⟩:=hl;exact ⟨a,b,rfl,h1.symm,h2.symm⟩
omit [GT] in
theorem yLK(k:FloatKind):(k.format.read (fnan k)).isNaN=true:=by cases k<;>decide
omit [GT] in
theorem y1o{k:FloatKind}{b:Nat}(h:(k.format.read b).isNaN=false):fcan k b=b:=by unfold fcan;rw[h];rfl
omit [GT] in
theorem y2a{k:FloatKind}{b:Nat}(h:(k.format.read b).isNaN=true):fcan k b=fnan k:=by unfold fcan;rw[h];rfl
omit [GT] in
theorem y6D(k:FloatKind)(b:Nat):(k.format.read (fcan k b)).isNaN=(k.format.read b).isNaN:=by
 cases h:(k.format.read b).isNaN with
 |true=>rw[y2a h,yLK]
 |false=>rw[y1o h,h]
omit [GT] in
theorem y7r(f:Ieee.Format)(neg:Bool){r:Nat}(h:r<=f.infRung):(f.read (f.word neg r)).isNaN=false:=by
 have hl:r < f.signWeight:=Nat.lt_of_le_of_lt h f.infRung_lt;have hm:f.word neg r % f.signWeight=r:=by
  unfold Ieee.Format.word;split
  ·rw[Nat.add_mod_left,Nat.mod_eq_of_lt hl]
  ·exact Nat.mod_eq_of_lt hl
 unfold Ieee.Format.read;simp only[hm];split
 ·rfl
 ·split
  ·rfl
  ·split
   ·rfl
   ·omega
omit [GT] in
theorem y4A(f:Ieee.Format){d:Ieee.Datum}(h:d.isNaN=false):(f.read (f.write d)).isNaN=false:=by
 cases d with
 |number s m e =>
  show (f.read (f.nearest s m e)).isNaN=false
  unfold Ieee.Format.nearest;dsimp only;split
  ·exact y7r f _ (zero_le _)
  ·exact y7r f _ (Nat.min_le_right ..)
 |infinity s=>exact y7r f s (le_refl _)
 |nan s t=>simp[Ieee.Datum.isNaN]at h
omit [GT] in
theorem yBj(k:FloatKind)(n:Int):(k.format.read (floatOfInt k n)).isNaN=false:=y4A k.format (d:=.number (n < 0) n.natAbs 0) rfl
omit [GT] in
theorem yC4(k:FloatKind)(b:Nat):(k.format.read (Op.negFloat k b)).isNaN=(k.format.read b).isNaN:=by
 have hm:Op.negFloat k b % k.format.signWeight=b % k.format.signWeight:=by
  unfold Op.negFloat Ieee.Format.signWeight;rw[Nat.xor_mod_two_pow,Nat.mod_self,Nat.xor_zero]
 have hr:∀ w1 w2:Nat,w1 % k.format.signWeight=w2 % k.format.signWeight->(k.format.read w1).isNaN=(k.format.read w2).isNaN:=λ w1 w2 h=>by
  unfold Ieee.Format.read;simp only[h];split
  ·rfl
  ·split
   ·rfl
   ·split<;>rfl
 exact hr _ _ hm
omit [GT] in
theorem yKr(k:FloatKind)(b:Nat):yIb k (fcan k b)=fcan k (Op.negFloat k b):=by
 unfold yIb;cases hb:(k.format.read b).isNaN with
 |true=>rw[y2a (b:=Op.negFloat k (fcan k b)) (by rw[yC4,y6D,hb]),y2a (b:=Op.negFloat k b) (by rw[yC4,hb])]
 |false=>rw[y1o hb]
omit [GT] in
theorem yKw{f:Ieee.Format}(s q:Nat){m:Nat}(h0:0 < m)(h1:m+f.infRung < f.signWeight)(h2:f.binade<=f.infRung):(f.read (s % 2 * f.signWeight+f.infRung+1+q % m)).isNaN=true:=by
 have hq:=Nat.mod_lt q h0;have hm:(s % 2 * f.signWeight+f.infRung+1+q % m) % f.signWeight=f.infRung+1+q % m:=by
  rw[add_assoc,add_assoc,Nat.add_comm,Nat.mul_comm,Nat.add_mul_mod_self_left,<- add_assoc];exact Nat.mod_eq_of_lt (by omega)
 unfold Ieee.Format.read;simp only[hm];rw[if_neg (by omega),if_neg (by omega),if_neg (by omega)]
 rfl
theorem yA8{A:Nat->Prop}(b:List UInt8):yD P A w ρ (.val .str b) (.string ⟨b.toArray⟩):=⟨_,rfl,rfl⟩
theorem y4B{A:Nat->Prop}{t:Ty}{x:t.den}{v:Value}(h:yD P A w ρ (.val (.ref t) x) v) :
  ∃ b off l,v=.pointer (some ⟨b,off,none⟩)/\¬ A b/\b < w.heap.size/\yO w b off l/\Cells P t A w x l:=by
 obtain ⟨l,hl,rfl⟩:=h;simp only[Cells]at hl;obtain ⟨⟨b,off,sp⟩,l',rfl,hs,h1,h2,h3,h4⟩:=hl;simp only at hs;subst hs;exact ⟨b,off,l',rfl,h1,h2,h3,h4⟩
theorem yBs{A:Nat->Prop}{t:Ty}{x:t.den}{b off:Nat}{l:List Value}(h1:¬ A b)(h2:b < w.heap.size)(h3:yO w b off l)(h4:Cells P t A w x l) :
  yD P A w ρ (.val (.ref t) x) (.pointer (some ⟨b,off,none⟩)):=
 ⟨[.pointer (some ⟨b,off,none⟩)],⟨⟨b,off,none⟩,l,rfl,rfl,h1,h2,h3,h4⟩,rfl⟩
theorem yO.sub{b off:Nat}{l:List Value}(h:yO w b off l)(k n:Nat):yO w b (off+k) ((l.drop k).take n):=by
 intro j v hj;rw[getElem?_take]at hj;split at hj
 ·rw[getElem?_drop]at hj;have:=h (k+j) v hj;rwa[<- add_assoc]at this
 ·cases hj
theorem y3I(k:IntKind)(op:BinOp)(x y:Int)(hop:op=.and\/op=.or\/op=.xor\/op=.andNot):(Op.intBits op k x y).run P w=.ok (.int k (yEp k op x y)) w:=by
 rcases hop with rfl|rfl|rfl|rfl<;>simp[Op.intBits,yEp]
theorem yGC(b:List UInt8):(⟨b.toArray⟩:ByteArray).toList=b:=by
 simp[ByteArray.toList_eq]
def Rk(P:Program)(w:World)(ρ:Places)(m:Sem Value)(K:SV->Option R)(r:R):Prop:=
 ∃ sv v,(∃ d,m.run P w=.ok v { w with drawn:=d })/\(∀ A,yD P A w ρ sv v)/\(∀ n,sv.inn n)/\K sv=some r
theorem now{α:Type}{m:Sem α}{v:α}(h:m.run P w=.ok v w):∃ d,m.run P w=.ok v { w with drawn:=d }:=⟨w.drawn,h⟩
theorem yHE{k:IntKind}{x y:Int}{op:BinOp}{t:TypeId}(h:intK op k x y K=some r):Rk P w ρ (Go.binOp op t (.int k x) (.int k y)) K r:=by
 have mi:∀ n:Int,(Go.binOp op t (.int k x) (.int k y)).run P w=.ok (.int k n) w->K (.val (.int k) n)=some r->Rk P w ρ (Go.binOp op t (.int k x) (.int k y)) K r:=
  λ n h1 h2=>⟨_,_,now h1,λ A=>y2p k n,λ _=>trivial,h2⟩
 have mb:∀ n:Bool,(Go.binOp op t (.int k x) (.int k y)).run P w=.ok (.bool n) w->K (.val .bool n)=some r->Rk P w ρ (Go.binOp op t (.int k x) (.int k y)) K r:=
  λ n h1 h2=>⟨_,_,now h1,λ A=>y12 n,λ _=>trivial,h2⟩
 unfold intK at h;cases op<;>simp only[reduceCtorEq]at h
 case add=>exact mi _ (by simp[Go.binOp,Op.intArith]) h
 case sub=>exact mi _ (by simp[Go.binOp,Op.intArith]) h
 case mul=>exact mi _ (by simp[Go.binOp,Op.intArith]) h
 case quo =>
  cases hy:(y == 0)with
  |true=>simp[hy]at h
  |false =>
   simp only[hy,cond_false]at h;have hy0:y≠0:=by simpa using hy
   exact mi _ (by simp[Go.binOp,Op.intDiv,hy0]) h
 case rem =>
  cases hy:(y == 0)with
  |true=>simp[hy]at h
  |false =>
   simp only[hy,cond_false]at h;have hy0:y≠0:=by simpa using hy
   exact mi _ (by simp[Go.binOp,Op.intDiv,hy0]) h
 case and=>exact mi _ (by simp only[Go.binOp,ne_eq,not_true_eq_false,if_false];exact y3I k _ x y (by simp)) h
 case or=>exact mi _ (by simp only[Go.binOp,ne_eq,not_true_eq_false,if_false];exact y3I k _ x y (by simp)) h
 case xor=>exact mi _ (by simp only[Go.binOp,ne_eq,not_true_eq_false,if_false];exact y3I k _ x y (by simp)) h
 case andNot=>exact mi _ (by simp only[Go.binOp,ne_eq,not_true_eq_false,if_false];exact y3I k _ x y (by simp)) h
 case eql=>exact mb _ (by simp[Go.binOp,Op.intCmp]) h
 case neq=>exact mb _ (by simp[Go.binOp,Op.intCmp]) h
 case lss=>exact mb _ (by simp[Go.binOp,Op.intCmp]) h
 case leq=>exact mb _ (by simp[Go.binOp,Op.intCmp]) h
 case gtr=>exact mb _ (by simp[Go.binOp,Op.intCmp]) h
 case geq=>exact mb _ (by simp[Go.binOp,Op.intCmp]) h
theorem y6n{k j:IntKind}{x y:Int}{op:BinOp}{t:TypeId}(hop:op=.shl\/op=.shr)(h:yAH op k x y K=some r):Rk P w ρ (Go.binOp op t (.int k x) (.int j y)) K r:=by
 have mi:∀ n:Int,(Go.binOp op t (.int k x) (.int j y)).run P w=.ok (.int k n) w->K (.val (.int k) n)=some r->Rk P w ρ (Go.binOp op t (.int k x) (.int j y)) K r:=
  λ n h1 h2=>⟨_,_,now h1,λ A=>y2p k n,λ _=>trivial,h2⟩
 unfold yAH at h;cases hy:decide (y < 0)with
 |true=>simp[hy]at h
 |false =>
  simp only[hy,cond_false]at h;have hy0:¬ y < 0:=by simpa using hy
  rcases hop with rfl|rfl
  ·exact mi _ (by simp[Go.binOp,Op.shift,hy0]) h
  ·exact mi _ (by simp[Go.binOp,Op.shift,hy0]) h
theorem yGg{k:FloatKind}{x y:Nat}{op:BinOp}{t:TypeId}(h:fltK op k (fcan k x) (fcan k y) K=some r):Rk P w ρ (Go.binOp op t (.float k x) (.float k y)) K r:=by
 unfold fltK at h;cases h
theorem y9U{k:FloatKind}{a b c d:Nat}{op:BinOp}{t:TypeId}(h:y4c op k (fcan k a,fcan k b) (fcan k c,fcan k d) K=some r):Rk P w ρ (Go.binOp op t (.complex k a b) (.complex k c d)) K r:=by
 unfold y4c at h;cases h
theorem yH7{x y:List UInt8}{op:BinOp}{t:TypeId}(h:strK op x y K=some r):Rk P w ρ (Go.binOp op t (.string ⟨x.toArray⟩) (.string ⟨y.toArray⟩)) K r:=by
 have mb:∀ n:Bool,(Go.binOp op t (.string ⟨x.toArray⟩) (.string ⟨y.toArray⟩)).run P w=.ok (.bool n) w->K (.val .bool n)=some r->Rk P w ρ (Go.binOp op t (.string ⟨x.toArray⟩) (.string ⟨y.toArray⟩)) K r:=
  λ n h1 h2=>⟨_,_,now h1,λ A=>y12 n,λ _=>trivial,h2⟩
 unfold strK at h;cases op<;>simp only[reduceCtorEq]at h
 case add =>
  cases hy:decide (x.length+y.length < strMax)with
  |false=>simp[hy]at h
  |true =>
   simp only[hy,cond_true]at h;have hl:x.length+y.length < strMax:=by simpa using hy
   refine ⟨_,_,now ?_,λ A=>yA8 (x++y),λ _=>trivial,h⟩
   have:¬ ((x.length+y.length:Nat):Int) > IntKind.i64.max:=by
    simp only[strMax]at hl;simp[IntKind.max,IntKind.signed,IntKind.bits];omega
   simp only[Go.binOp,Op.stringOp,ByteArray.size,List.size_toArray,if_neg this,Sem.run_pure];congr 2
 case eql=>exact mb _ (by simp[Go.binOp,Op.stringOp]) h
 case neq=>exact mb _ (by simp[Go.binOp,Op.stringOp]) h
 case lss=>exact mb _ (by simp[Go.binOp,Op.stringOp]) h
 case leq=>exact mb _ (by simp[Go.binOp,Op.stringOp]) h
 case gtr=>exact mb _ (by simp[Go.binOp,Op.stringOp]) h
 case geq=>exact mb _ (by simp[Go.binOp,Op.stringOp]) h
theorem yGT{t:TypeId}{i:TyI}(h:y0Y P t i=true)(hty:i.ty=.bool):P.underlying t=some .bool:=by
 unfold y0Y at h;rw[hty]at h;cases hu:P.underlying t with
 |none=>rw[hu]at h;cases h
 |some d=>rw[hu]at h;cases d<;>first|rfl|cases h
theorem yM{t:TypeId}{i:TyI}{u:Ty}(h:y0Y P t i=true)(hty:i.ty=.slice u\/i.ty=.nS u):P.underlying t=some (.slice i.elem)/\Fits P i.elem u/\u.size≠0:=by
  unfold y0Y at h;cases hu:P.underlying t with
  |none=>rcases hty with e|e<;>rw[e,hu]at h<;>cases h
  |some d =>
    rcases hty with e|e<;>rw[e,hu]at h<;>cases d<;>first
      | (simp only[and_eq_true,beq_iff_eq,not_eq_true',beq_eq_false_iff_ne]at h
         exact ⟨by rw[h.1.1],y0r (h.1.1 ▸ h.1.2),h.2⟩)
      | cases h
theorem run_equalIn_bool{t:TypeId}(d:Nat)(x y:Bool)(hu:P.underlying t=some .bool):(Op.equalIn (d+1) t (.bool x) (.bool y)).run P w=.ok (x == y) w:=by
 simp[Op.equalIn,run_underlying hu]
theorem y6L{t e:TypeId}(d:Nat)(p:Option Addr)(n c:Nat)(hu:P.underlying t=some (.slice e)):(Op.equalIn (d+1) t (.slice p n c) (.slice none 0 0)).run P w=.ok p.isNone w:=by
 cases p<;>simp[Op.equalIn,run_underlying hu]
theorem y41{t:TypeId}{x y:Value}{b:Bool}(h:∀ d,(Op.equalIn (d+1) t x y).run P w=.ok b w):(Op.equal t x y).run P w=.ok b w:=h 9999
theorem yIF{t:TypeId}{i:TyI}{u:Ty}(h:y0Y P t i=true)(hty:i.ty=.ref u):∃ e,P.underlying t=some (.pointer e):=by
 unfold y0Y at h;rw[hty]at h;cases hu:P.underlying t with
 |none=>rw[hu]at h;cases h
 |some d=>rw[hu]at h;cases d<;>first|exact ⟨_,rfl⟩|cases h
theorem y7I{t e:TypeId}(d:Nat)(p:Option Addr)(hu:P.underlying t=some (.pointer e)):(Op.equalIn (d+1) t (.pointer p) (.pointer none)).run P w=.ok p.isNone w:=by
 cases p<;>simp[Op.equalIn,run_underlying hu]
theorem y2j(hT:yc P g.T){t:TypeId}{i:TyI}(hl:yN g.T t=some i){op:BinOp}{p:Option Addr}{b:Bool}(hb:p.isNone=b)(h:y5k i.ty op b K=some r):Rk P w ρ (Go.binOp op t (.pointer p) (.pointer none)) K r:=by
 unfold y5k at h;split at h
 ·rename_i u hty;obtain ⟨e,hu⟩:=yIF (hT.shape hl) hty;have he:=y41 (w:=w) (λ d=>y7I (P:=P) (w:=w) d p hu)
  rw[hb]at he;split at h
  ·exact ⟨_,.bool b,now (by simp only[Go.binOp,Sem.run_bind,he,Result.andThen_ok,Sem.run_pure]),λ A=>y12 _,λ _=>trivial,h⟩
  ·exact ⟨_,.bool (!b),now (by simp only[Go.binOp,Sem.run_bind,he,Result.andThen_ok,Sem.run_pure]),λ A=>y12 _,λ _=>trivial,h⟩
  ·cases h
 ·cases h
theorem yHD{A:Nat->Prop}(hT:yc P g.T){t:TypeId}{i:TyI}(hl:yN g.T t=some i){op:BinOp}{sx sy:SV}{vx vy:Value}(hx:yD P A w ρ sx vx)(hy:yD P A w ρ sy vy)
  (hp:∀ t p,t.agg=true->sx≠.val t p) (h:binK i.ty op sx sy K=some r):Rk P w ρ (Go.binOp op t vx vy) K r:=by
 unfold binK at h;split at h
 ·rw[yh hx,yh hy];split at h
  ·exact y6n (.inl rfl) h
  ·exact y6n (.inr rfl) h
  ·split at h
   ·rename_i e;subst e;exact yHE h
   ·cases h
 ·rw[y3T hx,y3T hy];exact yH7 h
 ·rw[y2m hx,y2m hy];split at h
  ·rename_i p q hty;have hu:=yGT (hT.shape hl) hty;have he:=y41 (w:=w) (λ d=>run_equalIn_bool (P:=P) (w:=w) d p q hu)
   split at h
   ·exact ⟨_,.bool (p == q),now (by simp only[Go.binOp,Sem.run_bind,he,Result.andThen_ok,Sem.run_pure]),λ A=>y12 _,λ _=>trivial,h⟩
   ·exact ⟨_,.bool (!(p == q)),now (by simp only[Go.binOp,Sem.run_bind,he,Result.andThen_ok,Sem.run_pure]),λ A=>y12 _,λ _=>trivial,h⟩
   ·cases h
  ·cases h
 ·obtain ⟨b,rfl,rfl⟩:=y6W hx;obtain ⟨c,rfl,rfl⟩:=y6W hy;split at h
  ·rename_i e;subst e;exact yGg h
  ·cases h
 ·obtain ⟨b,c,rfl,h1,h2⟩:=yAU hx;obtain ⟨b',c',rfl,h3,h4⟩:=yAU hy;split at h
  ·rename_i e;subst e;exact y9U (show y4c op _ (fcan _ b,fcan _ c) (fcan _ b',fcan _ c') K=some r by rw[<- h1,<- h2,<- h3,<- h4];exact h)
  ·cases h
 ·rename_i u x;obtain ⟨l,hc,rfl⟩:=hx;simp only[Cells]at hc;obtain ⟨p,c,rfl,h0,_⟩:=hc;simp only[yD]at hy;subst hy;have hn:p.isNone=Option.isNone x:=by
   cases p<;>cases x<;>simp_all
  have he:∀ e,P.underlying t=some (.slice e)->(Op.equal t (.slice p (List.length (Option.getD x [])) c) (.slice none 0 0)).run P w=.ok (Option.isNone x) w:=λ e hu=>by
   rw[<- hn];exact y41 (w:=w) (λ d=>y6L (P:=P) (w:=w) d p (List.length (Option.getD x [])) c hu)
  split at h
  ·rename_i v hty;have he:=he _ (yM (hT.shape hl) (.inl hty)).1;split at h
   ·exact ⟨_,.bool (Option.isNone x),now (by simp only[Ty.wrap,Ty.agg,false_eq_true,if_false,headD_cons,Go.binOp,Sem.run_bind,he,Result.andThen_ok,Sem.run_pure]),λ A=>y12 _,λ _=>trivial,h⟩
   ·exact ⟨_,.bool (!Option.isNone x),now (by simp only[Ty.wrap,Ty.agg,false_eq_true,if_false,headD_cons,Go.binOp,Sem.run_bind,he,Result.andThen_ok,Sem.run_pure]),λ A=>y12 _,λ _=>trivial,h⟩
   ·cases h
  ·rename_i v hty;have he:=he _ (yM (hT.shape hl) (.inr hty)).1;split at h
   ·exact ⟨_,.bool (Option.isNone x),now (by simp only[Ty.wrap,Ty.agg,false_eq_true,if_false,headD_cons,Go.binOp,Sem.run_bind,he,Result.andThen_ok,Sem.run_pure]),λ A=>y12 _,λ _=>trivial,h⟩
   ·exact ⟨_,.bool (!Option.isNone x),now (by simp only[Ty.wrap,Ty.agg,false_eq_true,if_false,headD_cons,Go.binOp,Sem.run_bind,he,Result.andThen_ok,Sem.run_pure]),λ A=>y12 _,λ _=>trivial,h⟩
   ·cases h
  ·cases h
 ·exact absurd rfl (hp _ _ rfl)
 ·exact absurd rfl (hp _ _ rfl)
 ·simp only[yD]at hx hy;subst hx hy;exact y2j hT hl rfl h
 ·obtain ⟨b,_,rfl⟩:=hx;simp only[yD]at hy;subst hy;exact y2j hT hl rfl h
 ·obtain ⟨b,_,rfl⟩:=hx;simp only[yD]at hy;subst hy;exact y2j hT hl rfl h
 ·obtain ⟨ab,ao,al,rfl,_⟩:=y4B hx;simp only[yD]at hy;subst hy;exact y2j hT hl rfl h
 ·cases h
theorem yJp{A:Nat->Prop}{op:UnOp}{sx:SV}{vx:Value}(hx:yD P A w ρ sx vx)(h:unK op sx K=some r):Rk P w ρ (Op.unary op vx) K r:=by
 unfold unK at h;split at h
 ·rw[yh hx];exact ⟨_,_,now (by simp[Op.unary,Op.intArith]),λ A=>y2p _ _,λ _=>trivial,h⟩
 ·rename_i k n;rw[yh hx];exact ⟨_,_,now (by simp only[Op.unary];exact y3I k .xor _ n (by simp)),λ A=>y2p _ _,λ _=>trivial,h⟩
 ·rw[y2m hx];exact ⟨_,_,now (by simp[Op.unary]),λ A=>y12 _,λ _=>trivial,h⟩
 ·rename_i k n;obtain ⟨b,rfl,rfl⟩:=y6W hx;rw[yKr]at h;exact ⟨_,.float k (Op.negFloat k b),now (by simp[Op.unary]),λ A=>yBp _ _,λ _=>trivial,h⟩
 ·cases h
theorem y8h{op:BinOp}{t:TypeId}{x y:Operand}{u v:Value}(h:(∀ cs,u≠.agg cs)/\(u≠.nilIface\/v≠.nilIface\/y=.const .nilIface)):(eqGuard op t x y u v).run P w=.ok () w:=by
 unfold eqGuard;revert h
 have hm:((∀ cs,u≠.agg cs)/\(u≠.nilIface\/v≠.nilIface\/y=.const .nilIface))->((match u,v with
  |.nilIface,.nilIface=>do
   if (x matches .const _) || (y matches .const _)then return
   if <- Op.eqGuardIn Op.maxDepth t u v then unsupported (.noEntry "binop/eql: two nil values of an interface type with methods, neither of them the literal nil")
  |.agg _,.agg _=>do
   if !(<- program).eqGuardType (<- program).depth t then return
   if <- Op.eqGuardIn Op.maxDepth t u v then unsupported (.noEntry "binop/eql: two nil values of an interface type with methods, in a part of a struct or an array")
  |_,_=>pure ()):Sem Unit).run P w=.ok () w:=by
  intro h;split
  ·rcases h.2 with h|h|h
   ·exact absurd rfl h
   ·exact absurd rfl h
   ·subst h;simp
  ·exact absurd rfl (h.1 _)
  ·simp
 intro h;cases op<;>first|exact hm h|simp
end
end Go.Vx
end
section
namespace Go.Vx
open Go.RowKit
variable [GT]
section
variable {P:Program} {A0:Nat->Prop} {w0:Base} {ρ:Places} {s:St} {a:Act} {w w':World} {g:G}
omit [GT] in
theorem yDB:∀ (t:Ty) (x x':t.den) (o:Nat) (τ:Ty) (y z:τ.den),y1F t x o τ y=some x'->y1F t x' o τ z=y1F t x o τ z:=by
 intro t;induction t with
 |pair a b iha ihb =>
  intro x x' o τ y z h;unfold y1F at h ⊢;split at h
  ·rename_i e;simp only[dif_pos e]
  ·rename_i e;simp only[dif_neg e];simp only at h ⊢;split at h
   ·rename_i hlt;obtain ⟨q,hq,rfl⟩:=map_eq_some_iff.1 h;rw[if_pos hlt,if_pos hlt];simp only;rw[iha _ _ _ _ _ z hq]
   ·rename_i hlt;obtain ⟨q,hq,rfl⟩:=map_eq_some_iff.1 h;rw[if_neg hlt,if_neg hlt];simp only;rw[ihb _ _ _ _ _ z hq]
 |_ =>
  intro x x' o τ y z h;unfold y1F at h ⊢;split at h
  ·rename_i e;simp only[dif_pos e]
  ·simp at h
omit [GT] in
theorem yKL:∀ (t:Ty) (x x':t.den) (o:Nat) (τ:Ty) (y z:τ.den),y1F t x o τ y=some x'->∃ x'',y1F t x o τ z=some x'':=by
 intro t;induction t with
 |pair a b iha ihb =>
  intro x x' o τ y z h;unfold y1F at h ⊢;split at h
  ·rename_i e;exact ⟨_,dif_pos e⟩
  ·rename_i e;rw[dif_neg e];simp only at h ⊢;split at h
   ·rename_i hlt;obtain ⟨q,hq,rfl⟩:=map_eq_some_iff.1 h;obtain ⟨q',hq'⟩:=iha _ _ _ _ _ z hq;rw[if_pos hlt,hq'];exact ⟨_,rfl⟩
   ·rename_i hlt;obtain ⟨q,hq,rfl⟩:=map_eq_some_iff.1 h;obtain ⟨q',hq'⟩:=ihb _ _ _ _ _ z hq;rw[if_neg hlt,hq'];exact ⟨_,rfl⟩
 |_ =>
  intro x x' o τ y z h;unfold y1F at h ⊢;split at h
  ·rename_i e;exact ⟨_,dif_pos e⟩
  ·simp at h
omit [GT] in
theorem yAF:∀ (t:Ty) (x x':t.den) (o:Nat) (τ:Ty) (y:τ.den),y1F t x o τ y=some x'->y21 t x' o τ=some y:=by
 intro t;induction t with
 |pair a b iha ihb =>
  intro x x' o τ y h;unfold y1F at h;unfold y21;split at h
  ·rename_i e;obtain ⟨rfl,rfl⟩:=e;cases h;rw[dif_pos ⟨rfl,rfl⟩]
  ·rename_i e;rw[dif_neg (λ e'=>e ⟨e'.1,e'.2.symm⟩)]
   simp only at h ⊢;split at h
   ·rename_i hlt;obtain ⟨q,hq,rfl⟩:=map_eq_some_iff.1 h;rw[if_pos hlt];exact iha _ _ _ _ _ hq
   ·rename_i hlt;obtain ⟨q,hq,rfl⟩:=map_eq_some_iff.1 h;rw[if_neg hlt];exact ihb _ _ _ _ _ hq
 |_ =>
  intro x x' o τ y h;unfold y1F at h;unfold y21;split at h
  ·rename_i e;obtain ⟨rfl,rfl⟩:=e;cases h;rw[dif_pos ⟨rfl,rfl⟩]
  ·simp at h
theorem yCO{l:List Value}{o:Nat}{v:Value}(h:o+[v].length<=l.length):l.take o++[v]++l.drop (o+[v].length)=l.set o v:=by
 rw[List.set_eq_take_append_cons_drop,if_pos (by simp at h;omega)]
 simp
theorem yLg{l:List Value}{o off k:Nat}{v v':Value}(h:o < off\/off+k<=o):((l.set o v).drop off).take k=((l.set o v').drop off).take k:=by
 apply List.ext_getElem?;intro j;rw[getElem?_take,getElem?_take];split
 ·rw[getElem?_drop,getElem?_drop,List.getElem?_set_ne (by omega),List.getElem?_set_ne (by omega)]
 ·rfl
theorem yBe{A:Nat->Prop}{u:Ty}:Cells P (.slice u) A w ([]:List u.den) [.slice none 0 0]:=by
 simp only[Cells];exact ⟨none,0,rfl,le_refl _,zero_le _,λ i x hx=>by simp at hx⟩
variable {A A':Nat->Prop} {t u:Ty} {o:Nat} {e':TypeId} {x:t.den} {l:List Value} {q:Option Nat×Nat×Nat}
theorem NRel.length(h:NRel P A w t o e' u x l q):l.length=t.size:=by
 obtain ⟨x0,l0,ys,h1,h2,h3,h4,h5⟩:=h;rw[h3,length_set,h1.length]
theorem NRel.comp(h:NRel P A w t o e' u x l q):∃ ys:List u.den,y21 t x o (.slice u)=some ys/\o < l.length/\l[o]?=some (.slice (q.1.map λ b=>⟨b,0,none⟩) q.2.1 q.2.2)/\q.2.1=ys.length/\y2i P A w e' u ys q.1 (.slice (q.1.map λ b=>⟨b,0,none⟩) q.2.1 q.2.2):=by
 obtain ⟨x0,l0,ys,h1,h2,h3,h4,h5⟩:=h;obtain ⟨x1,h7⟩:=yKL t x0 x o (.slice u) ys ([]:List u.den) h2;obtain ⟨h6,_⟩:=y1n t x0 o (.slice u) ([]:List u.den) _ l0 _ h1 yBe h7;have ho:o < l0.length:=by simp only[List.length_singleton]at h6;omega
 exact ⟨ys,yAF _ _ _ _ _ _ h2,by rw[h3,length_set];exact ho,by rw[h3,List.getElem?_set_self ho],h4,h5⟩
theorem NRel.empty(h:NRel P A w t o e' u x l q){x1:t.den}(h0:y1F t x o (.slice u) ([]:List u.den)=some x1):o < l.length/\Cells P t A w x1 (l.set o (.slice none 0 0)):=by
 obtain ⟨x0,l0,ys,h1,h2,h3,h4,h5⟩:=h;rw[yDB t x0 x o (.slice u) ys _ h2]at h0;obtain ⟨h6,h7⟩:=y1n t x0 o (.slice u) ([]:List u.den) _ l0 _ h1 yBe h0;rw[yCO h6]at h7;refine ⟨by rw[h3,length_set];simp only[List.length_singleton]at h6;omega,?_⟩
 rw[h3,List.set_set];exact h7
theorem yDO{t u:Ty}{x0 x:t.den}{o:Nat}{ys zs:List u.den}{x':t.den}(h:y1F t x0 o (.slice u) ys=some x)(h':y1F t x o (.slice u) zs=some x'):y1F t x0 o (.slice u) zs=some x':=by
 rw[<- yDB t x0 x o (.slice u) ys zs h];exact h'
theorem y2i.cells{ys:List u.den}{e:TypeId}(h:y2i P A w e u ys q.1 (.slice (q.1.map λ b=>⟨b,0,none⟩) q.2.1 q.2.2))(h4:q.2.1=ys.length)(hA:∀ n,n < w.heap.size->A' n->A n)(hq:∀ b,q.1=some b->¬ A' b):Cells P (.slice u) A' w ys [.slice (q.1.map λ b=>⟨b,0,none⟩) q.2.1 q.2.2]:=by
 obtain ⟨cap,h5,h6⟩:=h;simp only[Value.slice.injEq]at h5;obtain ⟨_,_,rfl⟩:=h5;refine (y5S (ρ:=λ _=>⟨none,0,0,[],[],[]⟩) (xs:=ys) (nn:=false) (p:=⟨q.1,q.2.1,q.2.2,[],[],[]⟩) (e:=e) ⟨h4.symm,(λ h=>by cases h),?_⟩ hA hq).2.2
 rcases h6 with ⟨a1,a2,a3⟩|⟨n,vs,a1,a2,a3,a4,a5,a6⟩
 ·exact .inl ⟨a1,by simp only[h4];exact a2,a3⟩
 ·exact .inr ⟨n,vs,a1,a2,by simp only[h4];exact a3,a4,a5,a6⟩
theorem NRel.cells(h:NRel P A w t o e' u x l q)(hA:∀ n,n < w.heap.size->A' n->A n)(hq:∀ b,q.1=some b->¬ A' b):Cells P t A' w x l:=by
 obtain ⟨x0,l0,ys,h1,h2,h3,h4,cap,h5,h6⟩:=h;simp only[Value.slice.injEq]at h5;obtain ⟨_,_,rfl⟩:=h5;have h7:=y2i.cells (q:=q) ⟨q.2.2,by rw[h4],h6⟩ h4 hA hq
 obtain ⟨h8,h9⟩:=y1n t x0 o (.slice u) ys x l0 _ (h1.mono (λ _ _ _=>rfl) hA) h7 h2
 rw[yCO h8]at h9;rw[h3];exact h9
theorem NRel.part(h:NRel P A w t o e' u x l q){x1:t.den}(h0:y1F t x o (.slice u) ([]:List u.den)=some x1){t':TypeId}{off:Nat}{τ:Ty}{y:TV}(hy:y9c t x1 off τ=some y)(hF:Fits P t' τ)(hd:o < off\/off+y.t.size<=o)
  (hc:∀ {l:List Value},Cells P t A w x1 l->off+y.t.size<=l.length/\Cells P y.t A w y.x ((l.drop off).take y.t.size)/\Fits P t' y.t) :
  off+y.t.size<=l.length/\Cells P y.t A w y.x ((l.drop off).take y.t.size)/\Fits P t' y.t:=by
 obtain ⟨h1,h2⟩:=h.empty h0;obtain ⟨h3,h4,h5⟩:=hc h2;refine ⟨by simpa using h3,?_,h5⟩
 have e:((l.set o (.slice none 0 0)).drop off).take y.t.size=(l.drop off).take y.t.size:=by
  have:=yLg (l:=l) (o:=o) (off:=off) (k:=y.t.size) (v:=.slice none 0 0) (v':=l[o]) hd;rw[this,List.set_getElem_self]
 rw[<- e];exact h4
theorem y2i.at{ys:List u.den}{n c:Nat}{b:Option Nat}{e:TypeId}(h:y2i P A w e u ys b (.slice (b.map λ b=>⟨b,0,none⟩) n c)){j:Nat}{y:u.den}(hj:ys[j]?=some y) :
  ∃ b',b=some b'/\∃ vs:Array Value,w.heap[b']?=some (.cells vs e (0,0))/\ys.length<=c/\c<=maxLen/\vs.size=c * u.size/\yO w b' (j * u.size) ((vs.toList.drop (j * u.size)).take u.size)/\Cells P u A w y ((vs.toList.drop (j * u.size)).take u.size):=by
 obtain ⟨cap,h1,h2⟩:=h;simp only[Value.slice.injEq]at h1;obtain ⟨_,_,rfl⟩:=h1;rcases h2 with ⟨_,h3,_⟩|⟨m,vs,h3,h4,h5,h6,h7,h8⟩
 ·have:=(List.getElem?_eq_some_iff.1 hj).1;omega
 ·refine ⟨m,h3,vs,h4,h5,h6,h7,λ k v hk=>?_,h8 j y hj⟩
  rw[getElem?_take]at hk;split at hk
  ·rw[getElem?_drop]at hk;simp only[World.cell?,h4];simpa using hk
  ·cases hk
theorem y6Y{A:Nat->Prop}{p:Place}{e:TypeId}{xs:List t.den}(h:yC P A w ρ p (.nst e t o e' u xs)){n:Nat}(hn:xs[n]?=some x) :
  ∃ b q l,p.blk=some b/\p.ns[n]?=some q/\yO w b (n * t.size) l/\NRel P A w t o e' u x l q:=by
 obtain ⟨⟨h1,_,_⟩,_,h⟩:=h;rcases h with ⟨_,h2,_⟩|⟨b,vs,h2,h3,h4,h5,h6,h7⟩
 ·have:=(List.getElem?_eq_some_iff.1 hn).1;omega
 ·obtain ⟨q,h8,h9⟩:=h7 n x hn;refine ⟨b,q,_,h2,h8,?_,h9⟩;intro j v hj;rw[getElem?_take]at hj;split at hj
  ·rw[getElem?_drop]at hj;simp only[World.cell?,h3];simpa using hj
  ·cases hj
theorem nst_cells{p:Place}{e:TypeId}{xs:List t.den}(h:yC P A w ρ p (.nst e t o e' u xs))(hA:∀ n,n < w.heap.size->A' n->A n)(hb:∀ b,p.blk=some b->¬ A' b)(hs:∀ b,some b∈p.subs->¬ A' b) :
  Cells P (.slice t) A' w xs [.slice (p.blk.map λ b=>⟨b,0,none⟩) p.len p.cap]:=by
 have h0:=h;obtain ⟨⟨h1,h2,h3⟩,_,h4⟩:=h;simp only[Cells];refine ⟨_,_,by rw[h1],?_,?_,λ i x hx=>?_⟩
 ·rcases h4 with ⟨_,a2,a3⟩|⟨b,vs,_,_,a3,_⟩<;>omega
 ·rcases h4 with ⟨_,a2,a3⟩|⟨b,vs,_,_,a3,a4,_⟩
  ·rw[a3];simp[maxLen]
  ·exact a4
 ·obtain ⟨b,q,l,h5,h6,h7,h8⟩:=y6Y h0 hx;have hlt:b < w.heap.size:=by
   rcases h4 with ⟨a1,_⟩|⟨b',vs,a1,a2,_⟩
   ·rw[h5]at a1;cases a1
   ·rw[h5]at a1;cases a1;exact yJ a2
  refine ⟨⟨b,0,none⟩,l,by rw[h5];rfl,rfl,hb b h5,hlt,by simpa using h7,h8.cells hA λ b' hb'=>hs b' ?_⟩
  rw[h2,<- hb'];exact List.mem_map.2 ⟨q,mem_of_getElem? h6,rfl⟩
end
end Go.Vx
end
section
namespace Go.Vx
open Go.RowKit
variable [GT]
section
variable {P:Program} {A0:Nat->Prop} {w0:Base} {ρ:Places} {s:St} {a:Act} {w w':World} {g:G} {R:Type} {K:SV->Option R} {r:R} {o:Oper}
theorem Yld.of_run{m:Sem Value}{sv:SV}{v:Value}(ho:execOp a.eval o=(do pure (.value (<- m))))(h1:m.run P w=.ok v w)(h2:yD P (Av A0 ρ s.cH) w ρ sv v)(h3:sv.inn s.cH.length)(h4:K sv=some r):Yld P A0 ρ s a w o K r:=
 Yld.here (by rw[ho];simp only[Sem.run_bind,h1,Result.andThen_ok,Sem.run_pure]) h2 h3 h4
theorem Yld.of_drawn{m:Sem Value}{sv:SV}{v:Value}{d:Nat}(ho:execOp a.eval o=(do pure (.value (<- m))))(h1:m.run P w=.ok v { w with drawn:=d })(h2:yD P (Av A0 ρ s.cH) w ρ sv v)(h3:sv.inn s.cH.length)(h4:K sv=some r):Yld P A0 ρ s a w o K r:=
 ⟨sv,v,{ w with drawn:=d },by rw[ho];simp only[Sem.run_bind,h1,Result.andThen_ok,Sem.run_pure],⟨rfl,rfl,rfl,le_refl _,λ _ _=>rfl⟩,h2.mono (λ _ _ _=>rfl) (λ _ _ h=>h),h3,h4⟩
theorem Yld.of_rk{m:Sem Value}(ho:execOp a.eval o=(do pure (.value (<- m))))(h:Rk P w ρ m K r):Yld P A0 ρ s a w o K r:=by
 obtain ⟨sv,v,⟨d,h1⟩,h2,h3,h4⟩:=h;exact Yld.of_drawn ho h1 (h2 _) (h3 _) h4
theorem yHS(h:Rel P A0 w0 ρ s a w){x:Operand}(ho:o.op=.move x\/o.op=.assign x)(hk:K (y8 g.T o.type s x)=some r):Yld P A0 ρ s a w o K r:=by
 obtain ⟨h1,h2⟩:=y6 (T:=g.T) h o.type x;refine Yld.here ?_ h1 h2 hk;rcases ho with ho|ho<;>simp[execOp,ho]
theorem yCM{A:Nat->Prop}{sv:SV}{v:Value}{n:Nat}(h1:yD P A w ρ sv v)(h2:sv.inn n):yD P A w ρ (yC2 g o sv) v/\(yC2 g o sv).inn n:=by
 unfold yC2;split
 ·split
  ·rename_i i hi;split
   ·rename_i u hu;simp only[yD]at h1;subst h1;exact ⟨⟨_,y30 u,rfl⟩,trivial⟩
   ·exact ⟨h1,trivial⟩
  ·exact ⟨h1,h2⟩
 ·exact ⟨h1,h2⟩
theorem yBX(h:Rel P A0 w0 ρ s a w){x:Operand}(ho:o.op=.assign x)(hk:K (yC2 g o (y8 g.T o.type s x))=some r):Yld P A0 ρ s a w o K r:=by
 obtain ⟨h1,h2⟩:=y6 (T:=g.T) h o.type x;obtain ⟨h3,h4⟩:=yCM (g:=g) (o:=o) h1 h2;refine Yld.here ?_ h3 h4 hk;simp[execOp,ho]
theorem yGv(h:Rel P A0 w0 ρ s a w){c x y:Operand}(ho:o.op=.pick c x y)(hk:yU g s o K=some r):Yld P A0 ρ s a w o K r:=by
 simp only[yU,ho]at hk;have hc:=(y6 (T:=g.T) h 0 c).1;split at hk
 ·rename_i p he;rw[he]at hc;have hv:=y2m hc;cases p with
  |true =>
   obtain ⟨h1,h2⟩:=y6 (T:=g.T) h o.type x;exact Yld.here (by simp[execOp,ho,hv,asBool]) h1 h2 hk
  |false =>
   obtain ⟨h1,h2⟩:=y6 (T:=g.T) h o.type y;exact Yld.here (by simp[execOp,ho,hv,asBool]) h1 h2 hk
 ·cases hk
theorem Yld.loaded{t:TypeId}{x:Operand}(ho:o.op=.load t x){b off:Nat}{l:List Value}{u:Ty}{y:u.den}(hx:a.eval x=.pointer (some ⟨b,off,none⟩))(hf:Fits P t u)(hc:yO w b off l)
  (hl:Cells P u (Av A0 ρ s.cH) w y l) (hk:K (.val u y)=some r):Yld P A0 ρ s a w o K r:=
 Yld.of_run (m:=Instr.loadAt t (a.eval x)) (sv:=.val u y) (by simp only[execOp,ho]) (by rw[hx];exact y1s hf hl.length hc) ⟨l,hl,rfl⟩ trivial hk
theorem yC1{A:Nat->Prop}{β:Nat}{t:Ty}{cells:List SV}(h:yC P A w ρ (ρ β) (.box t cells)):∃ b vs,(ρ β).blk=some b/\yO w b 0 vs/\yA P A w ρ cells vs:=by
 obtain ⟨b,vs,e,hb,h1,h2,h3⟩:=h;refine ⟨b,vs.toList,hb,λ j v hj=>?_,by simpa using h2.1,λ i sv hi=>by simpa using h3 i sv hi⟩
 simp only[World.cell?,h1,zero_add];simpa using hj
theorem yMt{A:Nat->Prop}{β:Nat}{e:TypeId}{u:Ty}{xs:List u.den}{nn:Bool}(h:yC P A w ρ (ρ β) (.arr e u xs nn)){n:Nat}{x:u.den}(hn:xs[n]?=some x) :
  ∃ b l,(ρ β).blk=some b/\yO w b (n * u.size) l/\Cells P u A w x l:=by
 obtain ⟨hlen,_,h⟩:=h;rcases h with ⟨_,h2,_⟩|⟨b,vs,h1,h2,h3,h4,h5,h6⟩
 ·have:xs=[]:=List.eq_nil_of_length_eq_zero (by omega)
  subst this;simp at hn
 ·refine ⟨b,_,h1,?_,h6 n x hn⟩;intro j v hj;rw[getElem?_take]at hj;split at hj
  ·rw[getElem?_drop]at hj;simp only[World.cell?,h2];simpa using hj
  ·cases hj
theorem y07{α:Type}{c:Prop}[Decidable c]{x:Option α}{y:α}(h:(if c then x else none)=some y):c/\x=some y:=by
 split at h
 ·exact ⟨‹_›,h⟩
 ·cases h
theorem y2E{t:Ty}(h:t.agg=false):t.size=1:=by cases t<;>simp_all [Ty.agg,Ty.size]
theorem y3s{A:Nat->Prop}{t':TypeId}{t:Ty}{x:t.den}{off:Nat}{τ:Ty}{y:TV}{l:List Value}(hc:Cells P t A w x l)(h:y9c t x off τ=some y)(hF:Fits P t' τ) :
  off+y.t.size<=l.length/\Cells P y.t A w y.x ((l.drop off).take y.t.size)/\Fits P t' y.t:=by
 unfold y9c at h;split at h
 ·rename_i z hz;cases h;obtain ⟨h3,h4⟩:=y74 _ _ _ _ _ _ hc hz;exact ⟨h3,h4,hF⟩
 ·split at h
  ·obtain ⟨z,hz,rfl⟩:=map_eq_some_iff.1 h;obtain ⟨h3,h4⟩:=y74 _ _ _ _ _ _ hc hz;exact ⟨h3,h4,⟨λ h=>(by cases h),hF.ex⟩⟩
  ·cases h
theorem yH6(hT:yc P g.T)(h:Rel P A0 w0 ρ s a w){t:TypeId}{x:Operand}(ho:o.op=.load t x)(hk:yU g s o K=some r):Yld P A0 ρ s a w o K r:=by
 simp only[yU,ho]at hk;have hx:=(y6 (T:=g.T) h 0 x).1;rw[if_neg (by intro hc;rw[if_pos hc]at hk;cases hk)]at hk
 split at hk
 ·rename_i i u y hi he;rw[he]at hx;obtain ⟨b,off,l,hv,h1,h2,h3,h4⟩:=y4B hx;simp only[bind_eq_some_iff]at hk;obtain ⟨z,hz,hk⟩:=hk;obtain ⟨h5,h6⟩:=yCR hz h4 (hT.fits hi);exact Yld.loaded ho hv h6 h3 h5 hk
 ·rename_i i β off hi he;rw[he]at hx;obtain ⟨b,hb,hv⟩:=hx;split at hk
  ·rename_i u cells hch;obtain ⟨b',vs,hb',h1,h2⟩:=yC1 (h.cH β _ (getD_some hch)).1;rw[hb]at hb';cases hb';split at hk
   ·simp only[bind_eq_some_iff]at hk;obtain ⟨z,hz,hk⟩:=hk;have h3:=y1x _ _ _ _ ((h2.drop off).take _) hz;exact Yld.loaded ho hv (hT.fits hi) (by have:=h1.sub off i.ty.size;rwa[zero_add]at this) h3 hk
   ·rename_i hagg;have hagg:i.ty.agg=false:=by simpa using hagg
    simp only[bind_eq_some_iff]at hk;obtain ⟨sv,hc,hk⟩:=hk;obtain ⟨v,h3,h4⟩:=h2.2 off sv hc;have h5:yO w b off [v]:=λ j u hj=>by
     cases j with
     |zero=>simp at hj;subst hj;have:=h1 off v h3;rwa[zero_add]at this
     |succ j=>simp at hj
    refine Yld.of_run (m:=Instr.loadAt t (a.eval x)) (by simp only[execOp,ho]) (by rw[hv];exact y1s (hT.fits hi) (by rw[y2E hagg];rfl) h5) ?_ ?_ hk
    ·simpa[Ty.wrap,hagg]using h4
    ·exact h.cN β _ (getD_some hch) sv (mem_of_getElem? hc)
  ·cases hk
 ·rename_i i β n sz off hi he;rw[he]at hx;obtain ⟨b,hb,hv⟩:=hx;split at hk
  ·rename_i e u xs nn hch;split at hk
   ·rename_i hsz;simp only[bind_eq_some_iff]at hk;obtain ⟨y,hy,z,hz,hk⟩:=hk;obtain ⟨b',l,hb',h1,h2⟩:=yMt (h.cH β _ (getD_some hch)).1 hy;rw[hb]at hb';cases hb';obtain ⟨h3,h4,h5⟩:=y3s h2 hz (hT.fits hi);exact Yld.loaded ho (by rw[hv,hsz]) h5 (h1.sub off z.t.size) h4 hk
   ·cases hk
  ·rename_i e u q e' v xs hch;obtain ⟨hsz,hk1⟩:=y07 hk;clear hk;obtain ⟨y,hy,hk⟩:=bind_eq_some_iff.1 hk1;clear hk1;obtain ⟨b',q',l,hb',h0,h1,h2⟩:=y6Y (h.cH β _ (getD_some hch)).1 hy;rw[hb]at hb';cases hb';unfold y8G at hk;split at hk
   ·rename_i hc;obtain ⟨rfl,hel⟩:=hc;obtain ⟨ys,_,hlt,hg,_,_⟩:=h2.comp;refine Yld.of_run (m:=Instr.loadAt t (a.eval x)) (sv:=.nO β n) (v:=.slice (q'.1.map λ b=>⟨b,0,none⟩) q'.2.1 q'.2.2) (by simp only[execOp,ho]) ?_ ⟨q',h0,rfl⟩ ?_ hk
    ·have h5:yO w b (n * u.size+off) [.slice (q'.1.map λ b=>⟨b,0,none⟩) q'.2.1 q'.2.2]:=λ j z hj=>by
      cases j with
      |zero=>simp at hj;subst hj;have:=h1 off _ hg;simpa using this
      |succ j=>simp at hj
     have hag:i.ty.agg=false:=by
      simp only[Ty.elemIs,Bool.or_eq_true,decide_eq_true_eq]at hel;rcases hel with h|h<;>rw[h]<;>rfl
     have hr:=y1s (P:=P) (hT.fits hi) (l:=[.slice (q'.1.map λ b=>⟨b,0,none⟩) q'.2.1 q'.2.2]) (by rw[y2E hag];rfl) h5
     rw[hv,hsz,hr];simp[Ty.wrap,hag]
    ·exact (List.getElem?_eq_some_iff.1 (show s.cH[β]?=_ from getD_some hch)).1
   ·obtain ⟨x1,hx1,hk⟩:=bind_eq_some_iff.1 hk;obtain ⟨z,hz,hk⟩:=bind_eq_some_iff.1 hk;obtain ⟨hd,hk⟩:=y07 hk;obtain ⟨h3,h4,h5⟩:=h2.part hx1 hz (hT.fits hi) hd (λ hc=>y3s hc hz (hT.fits hi))
    exact Yld.loaded ho (by rw[hv,hsz]) h5 (h1.sub off z.t.size) h4 hk
  ·cases hk
 ·rename_i i β n j sz off hi he;rw[he]at hx;obtain ⟨q',b,hq',hqb,hv⟩:=hx;split at hk
  ·rename_i e u q e' v xs hch;obtain ⟨hsz,hk⟩:=y07 hk;obtain ⟨x',hx',hk⟩:=bind_eq_some_iff.1 hk;obtain ⟨ys,hys,hk⟩:=bind_eq_some_iff.1 hk;obtain ⟨y,hy,hk⟩:=bind_eq_some_iff.1 hk;obtain ⟨z,hz,hk⟩:=bind_eq_some_iff.1 hk;obtain ⟨b',q2,l,hb',h0,h1,h2⟩:=y6Y (h.cH β _ (getD_some hch)).1 hx';rw[hq']at h0;cases h0;obtain ⟨ys',hys',_,_,_,h6⟩:=h2.comp;rw[hys]at hys';cases hys';obtain ⟨b2,hb2,vs,_,_,_,_,h7,h8⟩:=h6.at hy;rw[hqb]at hb2;cases hb2;obtain ⟨h3,h4,h5⟩:=y3s h8 hz (hT.fits hi);exact Yld.loaded ho (by rw[hv,hsz]) h5 (h7.sub off z.t.size) h4 hk
  ·cases hk
 ·cases hk
theorem y2k{t:TypeId}{u:Ty}(hF:Fits P t u){cs:Array Value}{off:Nat}(h:off+u.size<=cs.size):(part t cs off).run P w=.ok (u.wrap ((cs.toList.drop off).take u.size)) w:=by
 obtain ⟨inf,d,h1,h2,h3,_,h5,_⟩:=hF.ex;unfold part;simp only[Sem.run_bind,yCw h2,Result.andThen_ok];cases hd:aggD d with
 |true =>
  have hu:u.agg=true:=by rw[<- h5];exact hd
  simp only[if_true,Sem.run_bind,y0x h1,Result.andThen_ok,Sem.run_pure,h3];congr 1
  unfold Ty.wrap;rw[if_pos hu];congr 1
  apply Array.toList_inj.1;simp[List.extract_eq_take_drop]
 |false =>
  have hu:u.agg=false:=by rw[<- h5];exact hd
  have h1:=y2E hu;rw[h1]at h ⊢;have hlt:off < cs.size:=by omega
  have hd:(cs.toList.drop off).take 1=[cs[off]]:=by
   rw[List.drop_eq_getElem_cons (by simpa using hlt)]
   simp
  rw[hd];simp[Ty.wrap,hu,hlt]
theorem yD2{d m:Nat}
  (ih:∀ {t:TypeId} {u:Ty} {A:Nat->Prop} {x y:u.den} {lx ly:List Value},cmpB P m t u=true->Cells P u A w x lx->Cells P u A w y ly->(Op.equalIn (d+m) t (u.wrap lx) (u.wrap ly)).run P w=.ok (eqV u x y) w) :
  ∀ (fs:List Field) (off:Nat) (u:Ty) {A:Nat->Prop} (x y:u.den) (lx ly px py:List Value),cmpF P (cmpB P m) fs off u=true->Cells P u A w x lx->Cells P u A w y ly->px.length=off->py.length=off ->
   (Op.eqFields (d+m) (px++lx).toArray (py++ly).toArray fs).run P w=.ok (eqV u x y) w:=by
 intro fs;induction fs with
 |nil =>
  intro off u A x y lx ly px py hc hx hy h1 h2;cases u;case unit=>simp[Op.eqFields,eqV]
  all_goals simp[cmpF]at hc
 |cons f fs ihf =>
  intro off u A x y lx ly px py hc hx hy h1 h2;cases u;case pair a b =>
   simp only[cmpF,and_eq_true,not_eq_true',beq_eq_false_iff_ne,beq_iff_eq]at hc;obtain ⟨⟨⟨⟨c1,c2⟩,c3⟩,c4⟩,c5⟩:=hc;simp only[Cells]at hx hy;obtain ⟨x1,x2,rfl,hx1,hx2⟩:=hx;obtain ⟨y1,y2,rfl,hy1,hy2⟩:=hy;have lx1:=hx1.length;have ly1:=hy1.length;have p1:=y2k (w:=w) (y0r c3) (cs:=(px++(x1++x2)).toArray) (off:=f.offset) (by simp;omega)
   have p2:=y2k (w:=w) (y0r c3) (cs:=(py++(y1++y2)).toArray) (off:=f.offset) (by simp;omega)
   have e1:((px++(x1++x2)).toArray.toList.drop f.offset).take a.size=x1:=by
    rw[c2,<- h1,<- lx1];simp
   have e2:((py++(y1++y2)).toArray.toList.drop f.offset).take a.size=y1:=by
    rw[c2,<- h2,<- ly1];simp
   rw[e1]at p1;rw[e2]at p2;have hr:=ihf (off+a.size) b x.2 y.2 x2 y2 (px++x1) (py++y1) c5 hx2 hy2 (by simp;omega) (by simp;omega)
   simp only[List.append_assoc]at hr;simp only[Op.eqFields,ne_eq,c1,not_false_eq_true,if_true,Sem.run_bind,p1,p2,Result.andThen_ok,ih c4 hx1 hy1];have hv:eqV (.pair a b) x y=(eqV a x.1 y.1 && eqV b x.2 y.2):=rfl;rw[hv];cases hq:eqV a x.1 y.1
   ·simp
   ·simpa using hr
  all_goals simp[cmpF]at hc
theorem y4L(d:Nat):∀ (m:Nat) {t:TypeId} {u:Ty} {A:Nat->Prop} {x y:u.den} {lx ly:List Value},cmpB P m t u=true->Cells P u A w x lx->Cells P u A w y ly ->
  (Op.equalIn (d+m) t (u.wrap lx) (u.wrap ly)).run P w=.ok (eqV u x y) w:=by
 intro m;induction m with
 |zero=>intro t u A x y lx ly h;cases h
 |succ m ih =>
  intro t u A x y lx ly h hx hy;have hs:∀ {v:Ty} {fs:Array Field} {x y:v.den} {lx ly:List Value},P.underlying t=some (.struct fs)->P.stoodInHeld t=false->v.agg=true->cmpF P (cmpB P m) fs.toList 0 v=true->Cells P v A w x lx->Cells P v A w y ly ->
    (Op.equalIn (d+(m+1)) t (v.wrap lx) (v.wrap ly)).run P w=.ok (eqV v x y) w:=by
   intro v fs x y lx ly hu hh ha hc hx hy;have hf:P.fieldsOf t=fs:=by unfold Program.fieldsOf;rw[hu]
   rw[show d+(m+1)=(d+m)+1 from rfl]
   unfold Ty.wrap;rw[if_pos ha,if_pos ha,run_equalIn_struct w (d+m) t _ _ (by rw[hf];exact hu) hh,hf]
   have:=yD2 (d:=d) ih fs.toList 0 v x y lx ly [] [] hc hx hy rfl rfl;simpa using this
  unfold cmpB at h;split at h
  ·rename_i hu;simp only[Cells]at hx hy;subst hx;subst hy;exact Go.run_equalIn_bool w (d+m) t _ _ hu
  ·rename_i hu;simp only[Cells]at hx hy;subst hx;subst hy;exact run_equalIn_int w (d+m) t _ _ _ _ hu
  ·rename_i hu;simp only[Cells]at hx hy;subst hx;subst hy;refine (run_equalIn_string w (d+m) t _ _ hu).trans ?_
   simp only[eqV,ByteArray.toList_eq]
  ·rename_i fs hu;simp only[and_eq_true,not_eq_true']at h;exact hs hu h.1 rfl h.2 hx hy
  ·rename_i fs hu;simp only[and_eq_true,not_eq_true']at h;exact hs hu h.1 rfl h.2 hx hy
  ·rename_i n v k e hu;simp only[and_eq_true,beq_iff_eq]at h;obtain ⟨⟨rfl,hf⟩,hc⟩:=h;have hF:=y0r hf;obtain ⟨inf,dd,i1,i2,i3,_⟩:=hF.ex;simp only[Cells]at hx hy;obtain ⟨a1,a2,a3⟩:=hx;obtain ⟨b1,b2,b3⟩:=hy;rw[show d+(m+1)=(d+m)+1 from rfl]
   have ha:(Ty.arr n v).agg=true:=rfl;unfold Ty.wrap;rw[if_pos ha,if_pos ha,run_equalIn_array w (d+m) _ _ hu i1];have hsz:P.cellsOf e=v.size:=by simp[Program.cellsOf,i1,i3]
   rw[hsz];have items:∀ is:List Nat,(∀ i∈is,i < n)->(Op.eqItems (d+m) e v.size lx.toArray ly.toArray is).run P w=.ok (is.all λ i=>eqV v (List.getD x i v.dflt) (List.getD y i v.dflt)) w:=by
    intro is;induction is with
    |nil=>intro _;simp[Op.eqItems]
    |cons i is ihs =>
     intro hi;have hlt:=hi i (List.mem_cons_self ..);have hb:i * v.size+v.size<=n * v.size:=by rw[<- Nat.succ_mul];exact Nat.mul_le_mul_right _ hlt
     have p1:=y2k (w:=w) hF (cs:=lx.toArray) (off:=i * v.size) (by simp;omega)
     have p2:=y2k (w:=w) hF (cs:=ly.toArray) (off:=i * v.size) (by simp;omega)
     have hxi:(x:List v.den)[i]?=some (List.getD x i v.dflt):=by
      rw[List.getD_eq_getElem?_getD,getElem?_eq_getElem (by omega)];rfl
     have hyi:(y:List v.den)[i]?=some (List.getD y i v.dflt):=by
      rw[List.getD_eq_getElem?_getD,getElem?_eq_getElem (by omega)];rfl
     have he:=ih hc (a3 i _ hxi) (b3 i _ hyi);simp only[Op.eqItems,Sem.run_bind,p1,p2,Result.andThen_ok,he,List.all_cons];have hr:=ihs (λ j hj=>hi j (mem_cons_of_mem _ hj))
     cases hq:eqV v (List.getD x i v.dflt) (List.getD y i v.dflt)
     ·simp
     ·simpa using hr
   exact items (List.range n) (λ i hi=>List.mem_range.1 hi)
  ·cases h
theorem yH0{A:Nat->Prop}{ty:Ty}{op:BinOp}{sx sy:SV}{vx:Value}(hx:yD P A w ρ sx vx)(hp:∀ t p,t.agg=true->sx≠.val t p)(h:binK ty op sx sy K=some r):(∀ cs,vx≠.agg cs)/\vx≠.nilIface:=by
 unfold binK at h;split at h
 ·rw[yh hx];exact ⟨λ _=>by simp,by simp⟩
 ·rw[y3T hx];exact ⟨λ _=>by simp,by simp⟩
 ·rw[y2m hx];exact ⟨λ _=>by simp,by simp⟩
 ·obtain ⟨b,rfl,_⟩:=y6W hx;exact ⟨λ _=>by simp,by simp⟩
 ·obtain ⟨b,c,rfl,_⟩:=yAU hx;exact ⟨λ _=>by simp,by simp⟩
 ·obtain ⟨l,hc,rfl⟩:=hx;simp only[Cells]at hc;obtain ⟨p,c,rfl,h0,_⟩:=hc;exact ⟨λ _=>by simp[Ty.wrap,Ty.agg],by simp[Ty.wrap,Ty.agg]⟩
 ·exact absurd rfl (hp _ _ rfl)
 ·exact absurd rfl (hp _ _ rfl)
 ·simp only[yD]at hx;subst hx;exact ⟨λ _=>by simp,by simp⟩
 ·obtain ⟨b,_,rfl⟩:=hx;exact ⟨λ _=>by simp,by simp⟩
 ·obtain ⟨b,_,rfl⟩:=hx;exact ⟨λ _=>by simp,by simp⟩
 ·obtain ⟨ab,ao,al,rfl,_⟩:=y4B hx;exact ⟨λ _=>by simp,by simp⟩
 ·cases h
theorem yFR{ty:Ty}{op:BinOp}{t:Ty}{p:t.den}{u:Ty}{q:u.den}(h:aggK ty op t p u q K=some r) :
  ∃ q':t.den,SV.val u q=.val t q'/\ty=t/\t.cmp=true/\(op=.eql/\K (.val .bool (eqV t p q'))=some r\/op=.neq/\K (.val .bool (!eqV t p q'))=some r):=by
 unfold aggK at h;split at h
 ·rename_i hu;subst hu;split at h
  ·rename_i hc;refine ⟨q,rfl,hc.1,hc.2,?_⟩;split at h
   ·exact .inl ⟨rfl,h⟩
   ·exact .inr ⟨rfl,h⟩
   ·cases h
  ·cases h
 ·cases h
theorem yKt{ty t:Ty}(ht:t.agg=true){op:BinOp}{p:t.den}{sy:SV}(h:binK ty op (.val t p) sy K=some r) :
  ∃ q:t.den,sy=.val t q/\ty=t/\t.cmp=true/\(op=.eql/\K (.val .bool (eqV t p q))=some r\/op=.neq/\K (.val .bool (!eqV t p q))=some r):=by
 cases t with
 |pair a b =>
  cases sy with
  |val u q=>exact yFR (show aggK ty op (.pair a b) p u q K=some r from h)
  |_=>cases h
 |arr n t =>
  cases sy with
  |val u q=>exact yFR (show aggK ty op (.arr n t) p u q K=some r from h)
  |_=>cases h
 |unit=>cases sy<;>cases h
 |_=>cases ht
theorem yHz{t:TypeId}{i:TyI}(h:y0Y P t i=true)(hty:i.ty=.err):∃ ms,P.underlying t=some (.interface ms):=by
 unfold y0Y at h;rw[hty]at h;cases hu:P.underlying t with
 |none=>rw[hu]at h;cases h
 |some d=>rw[hu]at h;cases d<;>first|exact ⟨_,rfl⟩|cases h
theorem y47{t:TypeId}{ms:Array (String×TypeId)}(d:Nat)(v:Value)(hu:P.underlying t=some (.interface ms))(hv:v=.nilIface\/∃ u x,v=.iface u x):(Op.equalIn (d+1) t v .nilIface).run P w=.ok (v matches .nilIface) w:=by
 rcases hv with rfl|⟨u,x,rfl⟩<;>simp[Op.equalIn,run_underlying hu]
theorem yDm(hT:yc P g.T)(h:Rel P A0 w0 ρ s a w){op:BinOp}{t yt:TypeId}{x y:Operand}(ho:o.op=.binOp op t x y yt)(hk:yU g s o K=some r):Yld P A0 ρ s a w o K r:=by
 simp only[yU,ho]at hk;have hx:=(y6 (T:=g.T) h t x).1;have hy:=(y6 (T:=g.T) h t y).1;have hex:execOp a.eval o=(do pure (.value (<- (do eqGuard op t x y (a.eval x) (a.eval y);Go.binOp op t (a.eval x) (a.eval y))))):=by simp only[execOp,ho]
 split at hk
 ·cases hk
 ·rename_i i hi;have err:∀ b:Bool,yD P (Av A0 ρ s.cH) w ρ (.val .err b) (a.eval x)->i.ty=.err->y=.const .nilIface ->
    ((eqGuard op t x y (a.eval x) (a.eval y)).run P w=.ok () w/\(Op.equal t (a.eval x) .nilIface).run P w=.ok b w)/\a.eval y=.nilIface/\(∀ k n,a.eval x≠.int k n)/\(∀ k n,a.eval x≠.float k n)/\(∀ k n m,a.eval x≠.complex k n m)/\(∀ s,a.eval x≠.string s):=by
   intro b hb hty hny;obtain ⟨ms,hu⟩:=yHz (hT.shape hi) hty;have hv:a.eval x=.nilIface/\b=true\/b=false/\∃ u v,a.eval x=.iface u v:=by
    obtain ⟨l,hl,hv⟩:=hb;simp only[Cells]at hl;rcases hl with ⟨rfl,rfl⟩|⟨rfl,u,v,rfl⟩
    ·exact .inl ⟨hv,rfl⟩
    ·exact .inr ⟨rfl,u,v,hv⟩
   have hyv:a.eval y=.nilIface:=by rw[hny];rfl
   refine ⟨⟨y8h ⟨λ cs=>?_,.inr (.inr hny)⟩,?_⟩,hyv,?_⟩
   ·rcases hv with ⟨h1,_⟩|⟨_,u,v,h1⟩<;>rw[h1]<;>simp
   ·rcases hv with ⟨h1,h2⟩|⟨h2,u,v,h1⟩
    ·rw[h1,h2];exact y41 λ d=>y47 d _ hu (.inl rfl)
    ·rw[h1,h2];exact y41 λ d=>y47 d _ hu (.inr ⟨u,v,rfl⟩)
   ·rcases hv with ⟨h1,_⟩|⟨_,u,v,h1⟩<;>rw[h1]<;>simp
  split at hk
  ·rename_i b hty he;rw[he]at hx;obtain ⟨⟨h1,h2⟩,h3,h4,h5,h6,h7⟩:=err b hx hty rfl;refine Yld.of_run hex (v:=.bool b) ?_ (y12 b) trivial hk;rw[h3]at h1 ⊢;simp only[Sem.run_bind,h1,Result.andThen_ok];unfold Go.binOp;split<;>simp_all
  ·rename_i b hty he;rw[he]at hx;obtain ⟨⟨h1,h2⟩,h3,h4,h5,h6,h7⟩:=err b hx hty rfl;refine Yld.of_run hex (v:=.bool (!b)) ?_ (y12 _) trivial hk;rw[h3]at h1 ⊢;simp only[Sem.run_bind,h1,Result.andThen_ok];unfold Go.binOp;split<;>simp_all
  ·by_cases hp:∃ u p,u.agg=true/\y8 g.T t s x=.val u p
   ·obtain ⟨u,p,ag,hp⟩:=hp;rw[hp]at hk hx;obtain ⟨q,hq,hty,hc,hk2⟩:=yKt ag hk;rw[hq]at hy;have he:=hT.eq hi;rw[hty]at he;simp only[eqB,ag,hc,Bool.and_self,Bool.not_true,Bool.false_or,and_eq_true,not_eq_true']at he;obtain ⟨l1,c1,e1⟩:=hx;obtain ⟨l2,c2,e2⟩:=hy;have hrun:=y4L (P:=P) (w:=w) 9970 30 he.1 c1 c2;simp only[Ty.wrap,ag,if_true]at e1 e2 hrun;rcases hk2 with ⟨rfl,hk2⟩|⟨rfl,hk2⟩
    ·refine Yld.of_run hex (v:=.bool (eqV u p q)) ?_ (y12 _) trivial hk2;rw[e1,e2];simp only[Sem.run_bind,run_eqGuard_agg w _ t x _ _ _ he.2,Result.andThen_ok,run_eql_struct,hrun]
    ·refine Yld.of_run hex (v:=.bool (!eqV u p q)) ?_ (y12 _) trivial hk2;rw[e1,e2];simp only[Sem.run_bind,run_eqGuard_agg w _ t x _ _ _ he.2,Result.andThen_ok,run_neq_struct,hrun]
   ·have hp':∀ u p,u.agg=true->y8 g.T t s x≠.val u p:=λ u p ag e=>hp ⟨u,p,ag,e⟩
    obtain ⟨sv,v,⟨d,h1⟩,h2,h3,h4⟩:=yHD hT hi hx hy hp' hk;obtain ⟨h5,h6⟩:=yH0 hx hp' hk;refine Yld.of_drawn hex (v:=v) (d:=d) ?_ (h2 _) (h3 _) h4;simp only[Sem.run_bind,y8h ⟨h5,.inl h6⟩,Result.andThen_ok];exact h1
theorem yGl(h:Rel P A0 w0 ρ s a w){op:UnOp}{t:TypeId}{x:Operand}(ho:o.op=.unOp op t x)(hk:yU g s o K=some r):Yld P A0 ρ s a w o K r:=by
 simp only[yU,ho]at hk;have hx:=(y6 (T:=g.T) h t x).1;exact Yld.of_rk (by simp only[execOp,ho]) (yJp hx hk)
end
end Go.Vx
end
section
namespace Go.Vx
open Go.RowKit
variable [GT]
section
variable {P:Program} {A0:Nat->Prop} {w0:Base} {ρ:Places} {s:St} {a:Act} {w w':World} {g:G} {R:Type} {K:SV->Option R} {r:R} {o:Oper}
theorem y2Y{t:TypeId}{b off f:Nat}{fs:Array Field}{fd:Field}{u:Ty}(hu:P.underlying t=some (.struct fs))(hf:fs[f]?=some fd)(hF:Fits P fd.type u)(h0:u.size≠0) :
  (Instr.fieldAt t (.pointer (some ⟨b,off,none⟩)) f).run P w=.ok (.pointer (some ⟨b,off+fd.offset,none⟩)) w:=by
 obtain ⟨inf,d,h1,h2,h3,_⟩:=hF.ex;have h3':inf.size≠0:=by rw[h3];exact h0
 simp[Instr.fieldAt,run_underlying hu,hf,Instr.sureAddr,fieldPlace,y0x h1,h3',yu]
theorem y1m{t:TypeId}{i:TyI}(h:y0Y P t i=true)(hp:i.ty.isPair=true):∃ fs:Array Field,P.underlying t=some (.struct fs)/\i.fields=fs.toList.map (λ f=>(f.offset,f.type))/\yx P fs.toList 0 i.ty=true:=by
  unfold y0Y at h;cases hty:i.ty<;>rw[hty]at hp<;>simp[Ty.isPair]at hp
  rw[hty]at h;cases hu:P.underlying t with
  |none=>rw[hu]at h;cases h
  |some d =>
    rw[hu]at h;cases d<;>first
      | (simp only[and_eq_true,decide_eq_true_eq]at h
         exact ⟨_,rfl,h.1,h.2⟩)
      | cases h
theorem yAL:∀ (t:Ty) (fs:List Field) (off f:Nat) (fd:Field),yx P fs off t=true->fs[f]?=some fd->∃ u:Ty,Fits P fd.type u/\u.size≠0:=by
 intro t;induction t with
 |pair a b iha ihb =>
  intro fs off f fd hB hf;cases fs with
  |nil=>simp at hf
  |cons x fs =>
   simp only[yx,and_eq_true,beq_iff_eq,not_eq_true',beq_eq_false_iff_ne]at hB;cases f with
   |zero=>simp at hf;subst hf;exact ⟨a,y0r hB.1.2,hB.1.1.2⟩
   |succ f=>exact ihb fs _ f fd hB.2 (by simpa using hf)
 |unit =>
  intro fs off f fd hB hf;cases fs with
  |nil=>simp at hf
  |cons x fs=>simp[yx]at hB
 |_ =>
  intro fs off f fd hB hf;cases fs<;>simp[yx]at hB
theorem y1r{t:TypeId}{i:TyI}(h:y0Y P t i=true)(hp:i.ty.isPair=true){f:Nat}{p:Nat×TypeId}(hf:i.fields[f]?=some p) :
  ∃ (fs:Array Field) (fd:Field) (u:Ty),P.underlying t=some (.struct fs)/\fs[f]?=some fd/\Fits P fd.type u/\u.size≠0/\p=(fd.offset,fd.type):=by
 obtain ⟨fs,h1,h2,h3⟩:=y1m h hp;rw[h2,List.getElem?_map,map_eq_some_iff]at hf;obtain ⟨fd,h4,rfl⟩:=hf;obtain ⟨u,h5,h6⟩:=yAL _ _ _ _ _ h3 h4;exact ⟨fs,fd,u,h1,by simpa using h4,h5,h6,rfl⟩
theorem y43{t:Ty}{x:t.den}{f:Nat}{tv:TV}(h:y3V t x f=some tv):t.isPair=true:=by
 cases t<;>simp_all [y3V,Ty.isPair]
theorem y8S(hT:yc P g.T)(h:Rel P A0 w0 ρ s a w){t:TypeId}{x:Operand}{f:Nat}(ho:o.op=.fieldAddr t x f)(hk:yU g s o K=some r):Yld P A0 ρ s a w o K r:=by
 simp only[yU,ho]at hk;have hx:=(y6 (T:=g.T) h 0 x).1;have hxn:=(y6 (T:=g.T) h 0 x).2;have hex:execOp a.eval o=(do pure (.value (<- Instr.fieldAt t (a.eval x) f))):=by simp only[execOp,ho]
 split at hk
 ·rename_i i u y hi he;rw[he]at hx;split at hk
  ·rename_i hu;subst hu;simp only[bind_eq_some_iff]at hk;obtain ⟨tv,hf,hk⟩:=hk;obtain ⟨b,off,l,hv,h1,h2,h3,h4⟩:=y4B hx;obtain ⟨fs,h5,h6,h7⟩:=y1m (hT.shape hi) (y43 hf);obtain ⟨fd,h8,h9,h10,h11,h12,h13⟩:=y3U _ _ _ _ _ _ _ h7 h4 hf;have h14:=h3.sub fd.offset tv.t.size;exact Yld.of_run (sv:=.val (.ref tv.t) tv.x) hex (by rw[hv];exact y2Y h5 (by simpa using h8) h9 h10) (yBs h1 h2 h14 (by simpa using h13)) trivial hk
  ·cases hk
 ·rename_i i β off hi he;rw[he]at hx hxn;obtain ⟨b,hb,hv⟩:=hx;split at hk
  ·rename_i hp;simp only[bind_eq_some_iff]at hk;obtain ⟨p,hf,hk⟩:=hk;obtain ⟨fs,fd,u,h1,h2,h3,h4,rfl⟩:=y1r (hT.shape hi) hp hf;exact Yld.of_run (sv:=.bP β (off+fd.offset)) hex (by rw[hv];exact y2Y h1 h2 h3 h4) ⟨b,hb,rfl⟩ hxn hk
  ·cases hk
 ·rename_i i β n sz off hi he;rw[he]at hx hxn;obtain ⟨b,hb,hv⟩:=hx;split at hk
  ·rename_i hp;simp only[bind_eq_some_iff]at hk;obtain ⟨p,hf,hk⟩:=hk;obtain ⟨fs,fd,u,h1,h2,h3,h4,rfl⟩:=y1r (hT.shape hi) hp hf;exact Yld.of_run (sv:=.eP β n sz (off+fd.offset)) hex (by rw[hv];exact y2Y h1 h2 h3 h4) ⟨b,hb,by rw[add_assoc]⟩ hxn hk
  ·cases hk
 ·rename_i i β n j sz off hi he;rw[he]at hx hxn;obtain ⟨q,b,hq,hb,hv⟩:=hx;split at hk
  ·rename_i hp;simp only[bind_eq_some_iff]at hk;obtain ⟨p,hf,hk⟩:=hk;obtain ⟨fs,fd,u,h1,h2,h3,h4,rfl⟩:=y1r (hT.shape hi) hp hf;exact Yld.of_run (sv:=.nP β n j sz (off+fd.offset)) hex (by rw[hv];exact y2Y h1 h2 h3 h4) ⟨q,b,hq,hb,by rw[add_assoc]⟩ hxn hk
  ·cases hk
 ·cases hk
theorem yKA{A:Nat->Prop}{t:Ty}{x:t.den}{v:Value}(ht:t.agg=true)(h:yD P A w ρ (.val t x) v):∃ l,Cells P t A w x l/\v=.agg l.toArray:=by
 obtain ⟨l,hl,rfl⟩:=h;exact ⟨l,hl,by simp[Ty.wrap,ht]⟩
theorem yEG(hT:yc P g.T)(h:Rel P A0 w0 ρ s a w){t:TypeId}{x:Operand}{f:Nat}(ho:o.op=.field t x f)(hk:yU g s o K=some r):Yld P A0 ρ s a w o K r:=by
 simp only[yU,ho]at hk;have hx:=(y6 (T:=g.T) h 0 x).1;have hex:execOp a.eval o=(do pure (.value (<- Instr.field t (a.eval x) f))):=by simp only[execOp,ho]
 split at hk
 ·rename_i i u y hi he;rw[he]at hx;split at hk
  ·rename_i hu;subst hu;simp only[bind_eq_some_iff]at hk;obtain ⟨tv,hf,hk⟩:=hk;have hp:=y43 hf;obtain ⟨l,hl,hv⟩:=yKA (by cases hty:i.ty<;>simp_all [Ty.isPair,Ty.agg]) hx
   obtain ⟨fs,h5,h6,h7⟩:=y1m (hT.shape hi) hp;obtain ⟨fd,h8,h9,h10,h11,h12,h13⟩:=y3U _ _ _ _ _ _ _ h7 hl hf;refine Yld.of_run (sv:=.val tv.t tv.x) (v:=tv.t.wrap ((l.drop fd.offset).take tv.t.size)) hex ?_ ⟨_,by simpa using h13,rfl⟩ trivial hk
   rw[hv];have hrp:=y2k (w:=w) h9 (cs:=l.toArray) (off:=fd.offset) (by simpa using h12)
   have h8':fs[f]?=some fd:=by simpa using h8
   simp only[Instr.field,Sem.run_bind,run_underlying h5,Result.andThen_ok,h8',asAgg,Sem.run_pure];simpa using hrp
  ·cases hk
 ·rename_i i β hi he;rw[he]at hx;split at hk
  ·rename_i u cells hch;obtain ⟨⟨rfl,hp⟩,hk1⟩:=y07 hk;clear hk;obtain ⟨p,hf,hk2⟩:=bind_eq_some_iff.1 hk1;obtain ⟨j,hj,hk⟩:=bind_eq_some_iff.1 hk2;clear hk1 hk2;obtain ⟨fs,fd,u,h1,h2,h3,h4,rfl⟩:=y1r (hT.shape hi) hp hf;obtain ⟨_,hor,hvl,hvc⟩:=(h.cH β _ (getD_some hch)).1;have hx:a.eval x=.agg (ρ β).vals.toArray:=by
    have h0:a.eval x=recV (ρ β).len (ρ β).vals:=hx;rcases hor with ⟨_,hln⟩|⟨hb,_,_⟩
    ·rw[h0];simp[recV,hln]
    ·simp[hb,Ty.isPair]at hp
   have hcr:yA P (Av A0 ρ s.cH) w ρ cells (ρ β).vals:=⟨hvl,λ i sv hi=>hvc i sv hi⟩
   have hF:=hT.fits hj;obtain ⟨inf,d,f1,_,f3,_⟩:=h3.ex;obtain ⟨inf',d',f1',_,f3',_⟩:=hF.ex;simp only at f1';rw[f1]at f1';cases f1';have hrun:∀ (hle:fd.offset+j.ty.size<=(ρ β).vals.length),(Instr.field t (a.eval x) f).run P w=.ok (j.ty.wrap (((ρ β).vals.drop fd.offset).take j.ty.size)) w:=λ hle=>by
    have hrp:=y2k (w:=w) hF (cs:=(ρ β).vals.toArray) (off:=fd.offset) (by simpa using hle)
    rw[hx];simp only[Instr.field,Sem.run_bind,run_underlying h1,Result.andThen_ok,h2,asAgg,Sem.run_pure];simpa using hrp
   split at hk
   ·obtain ⟨y,hy,hk3⟩:=bind_eq_some_iff.1 hk;have h5:=y1x _ _ _ _ ((hcr.drop fd.offset).take _) hy;have h6:=h5.length;have hle:fd.offset+j.ty.size<=(ρ β).vals.length:=by
     rw[List.length_take,List.length_drop]at h6;omega
    exact Yld.of_run (sv:=.val j.ty y) hex (hrun hle) ⟨_,h5,rfl⟩ trivial hk3
   ·rename_i hag;have hag:j.ty.agg=false:=by simpa using hag
    obtain ⟨sv,hc,hk3⟩:=bind_eq_some_iff.1 hk;obtain ⟨v,h5,h6⟩:=hcr.2 _ sv hc;have hlt:=(List.getElem?_eq_some_iff.1 h5).1;have hs1:=y2E hag;have e1:(((ρ β).vals.drop fd.offset).take j.ty.size)=[v]:=by
     rw[hs1,List.drop_eq_getElem_cons hlt,List.take_succ_cons,take_zero];rw[getElem?_eq_getElem hlt]at h5;cases h5;rfl
    have h7:=hrun (by rw[hs1];omega)
    rw[e1]at h7;refine Yld.of_run (sv:=sv) (v:=v) hex ?_ h6 (h.cN β _ (getD_some hch) sv (mem_of_getElem? hc)) hk3;rw[h7];simp[Ty.wrap,hag]
  ·cases hk
 ·cases hk
theorem y0w{t e:TypeId}{k:IntKind}{n:Int}{b off len c:Nat}{u:Ty}(hu:P.underlying t=some (.slice e))(hF:Fits P e u)(h0:0<=n)(h1:n < (len:Int)) :
  (Instr.indexAt t (.slice (some ⟨b,off,none⟩) len c) (.int k n)).run P w=.ok (.pointer (some ⟨b,off+n.toNat * u.size,none⟩)) w:=by
 obtain ⟨inf,d,h2,h3,h4,_⟩:=hF.ex;by_cases hl:len<=1<;>simp[Instr.indexAt,asIntOf,run_underlying hu,h0,h1,y0x h2,h4,yu]
theorem y2c{t e:TypeId}{k:IntKind}{n:Int}{b off len:Nat}{u:Ty}(hu:P.underlying t=some (.array len e))(hF:Fits P e u)(h0:0<=n)(h1:n < (len:Int)) :
  (Instr.indexAt t (.pointer (some ⟨b,off,none⟩)) (.int k n)).run P w=.ok (.pointer (some ⟨b,off+n.toNat * u.size,none⟩)) w:=by
 obtain ⟨inf,d,h2,h3,h4,_⟩:=hF.ex;by_cases hl:len<=1<;>simp[Instr.indexAt,asIntOf,run_underlying hu,h0,h1,y0x h2,h4,yu,Instr.sureAddr]
theorem y3G{t:TypeId}{i:TyI}{n:Nat}{u:Ty}(h:y0Y P t i=true)(hty:i.ty=.arr n u):P.underlying t=some (.array n i.elem)/\Fits P i.elem u/\u.size≠0:=by
  unfold y0Y at h;rw[hty]at h;cases hu:P.underlying t with
  |none=>rw[hu]at h;cases h
  |some d =>
    rw[hu]at h;cases d<;>first
      | (simp only[and_eq_true,beq_iff_eq,not_eq_true',beq_eq_false_iff_ne]at h
         exact ⟨by rw[h.1.1.1,h.1.1.2],y0r (h.1.1.2 ▸ h.1.2),h.2⟩)
      | cases h
theorem yJY{t:TypeId}{i:TyI}{u:Ty}(h:y0Y P t i=true)(hty:i.ty=.ref u):P.underlying t=some (.pointer i.elem):=by
 unfold y0Y at h;rw[hty]at h;split at h<;>simp_all
theorem y2d{t:TypeId}{i:TyI}(h:y0Y P t i=true)(hty:i.ty=.str):P.underlying t=some .string:=by
 unfold y0Y at h;rw[hty]at h;cases hu:P.underlying t with
 |none=>rw[hu]at h;cases h
 |some d=>rw[hu]at h;cases d<;>first|rfl|cases h
theorem y1z{t u:Ty}(h:t.elemIs u=true):t=.slice u\/t=.nS u:=by
 simpa[Ty.elemIs]using h
theorem y3S{α:Type}{xs:List α}{n:Int}{y:α}(h:idx xs n=some y):0<=n/\xs[n.toNat]?=some y/\n < (xs.length:Int):=by
 unfold idx at h;split at h
 ·rename_i h0;have:=(List.getElem?_eq_some_iff.1 h).1;exact ⟨h0,h,by omega⟩
 ·cases h
theorem y9t{A:Nat->Prop}{u:Ty}{xs:List u.den}{p:Option Addr}{c:Nat}
  (h3:∀ (i:Nat) (x:u.den),xs[i]?=some x->∃ (a:Addr) (l':List Value),p=some a/\a.spot=none/\¬ A a.block/\a.block < w.heap.size/\yO w a.block (a.off+i * u.size) l'/\Cells P u A w x l')
  {t e:TypeId} {k:IntKind} {n:Int} {y:u.den} (hu:P.underlying t=some (.slice e)) (hF:Fits P e u) (hn:idx xs n=some y) :
  ∃ v,(Instr.indexAt t (.slice p xs.length c) (.int k n)).run P w=.ok v w/\yD P A w ρ (.val (.ref u) y) v:=by
 obtain ⟨h0,h1,h2⟩:=y3S hn;obtain ⟨⟨b,off,sp⟩,l,rfl,hs,h4,h5,h6,h7⟩:=h3 _ _ h1;simp only at hs;subst hs;exact ⟨_,y0w hu hF h0 h2,yBs h4 h5 h6 h7⟩
theorem y4R(hT:yc P g.T)(h:Rel P A0 w0 ρ s a w){t:TypeId}{x ix:Operand}(ho:o.op=.indexAddr t x ix)(hk:yU g s o K=some r):Yld P A0 ρ s a w o K r:=by
 simp only[yU,ho]at hk;have hx:=(y6 (T:=g.T) h t x).1;have hxn:=(y6 (T:=g.T) h t x).2;have hix:=(y6 (T:=g.T) h 0 ix).1;have hex:execOp a.eval o=(do pure (.value (<- Instr.indexAt t (a.eval x) (a.eval ix)))):=by simp only[execOp,ho]
 split at hk
 ·rename_i i k n u xs hi he1 he2;rw[he1]at hix;rw[he2]at hx;split at hk
  ·rename_i hel;simp only[bind_eq_some_iff]at hk;obtain ⟨y,hy,hk⟩:=hk;obtain ⟨h1,h2,_⟩:=yM (hT.shape hi) (y1z hel);obtain ⟨l,hl,hv⟩:=hx;simp only[Cells]at hl;obtain ⟨p,c,rfl,_,_,h3⟩:=hl;obtain ⟨v,h4,h5⟩:=y9t (ρ:=ρ) (k:=k) (c:=c) h3 h1 h2 hy;exact Yld.of_run (sv:=.val (.ref u) y) hex (by rw[hv,yh hix];exact h4) h5 trivial hk
  ·cases hk
 ·rename_i i k n u xs hi he1 he2;rw[he1]at hix;rw[he2]at hx;split at hk
  ·rename_i hel;simp only[bind_eq_some_iff]at hk;obtain ⟨y,hy,hk⟩:=hk;obtain ⟨h1,h2,_⟩:=yM (hT.shape hi) (y1z hel);obtain ⟨l,hl,hv⟩:=hx;simp only[Cells]at hl;obtain ⟨p,c,rfl,_,_,_,_,h3⟩:=hl;obtain ⟨v,h4,h5⟩:=y9t (ρ:=ρ) (k:=k) (c:=c) h3 h1 h2 hy;exact Yld.of_run (sv:=.val (.ref u) y) hex (by rw[hv,yh hix];exact h4) h5 trivial hk
  ·cases hk
 ·rename_i i k n m u xs hi he1 he2;rw[he1]at hix;rw[he2]at hx;split at hk
  ·rename_i hty;simp only[bind_eq_some_iff]at hk;obtain ⟨y,hy,hk⟩:=hk;obtain ⟨h1,h2,_⟩:=y3G (hT.shape hi) hty;obtain ⟨b,off,l,hv,h3,h4,h5,h6⟩:=y4B hx;simp only[Cells]at h6;obtain ⟨h7,h8,h9⟩:=h6;obtain ⟨h10,h11,h12⟩:=y3S hy;refine Yld.of_run (sv:=.val (.ref u) y) hex (by rw[hv,yh hix];exact y2c h1 h2 h10 (by omega)) (yBs h3 h4 (h5.sub (n.toNat * u.size) u.size) (h9 _ _ h11)) trivial hk
  ·cases hk
 ·rename_i i k n β hi he1 he2;rw[he1]at hix;rw[he2]at hx hxn;split at hk
  ·rename_i e u xs nn hch;split at hk
   ·rename_i hel;simp only[bind_eq_some_iff]at hk;obtain ⟨y,hy,hk⟩:=hk;obtain ⟨h1,h2,_⟩:=yM (hT.shape hi) (y1z hel);obtain ⟨h3,h4,h5⟩:=y3S hy;have hc:=(h.cH β _ (getD_some hch)).1;obtain ⟨b,l,hb,h6,h7⟩:=yMt hc h4;obtain ⟨hlen,_⟩:=hc;simp only[yD]at hx;rw[hb]at hx;refine Yld.of_run (sv:=.eP β n.toNat u.size 0) (v:=.pointer (some ⟨b,n.toNat * u.size+0,none⟩)) hex ?_ ⟨b,hb,rfl⟩ hxn hk;rw[hx,yh hix,map_some];have:=y0w (P:=P) (w:=w) (k:=k) (b:=b) (off:=0) (len:=(ρ β).len) (c:=(ρ β).cap) h1 h2 h3 (by rw[<- hlen];exact h5)
    simpa using this
   ·cases hk
  ·rename_i e u q e' v xs hch;split at hk
   ·rename_i hel;simp only[bind_eq_some_iff]at hk;obtain ⟨y,hy,hk⟩:=hk;obtain ⟨h1,h2,_⟩:=yM (hT.shape hi) (y1z hel);obtain ⟨h3,h4,h5⟩:=y3S hy;have hc:=(h.cH β _ (getD_some hch)).1;obtain ⟨b,q',l,hb,_,h6,h7⟩:=y6Y hc h4;obtain ⟨⟨hlen,_⟩,_⟩:=hc;simp only[yD]at hx;rw[hb]at hx;refine Yld.of_run (sv:=.eP β n.toNat u.size 0) (v:=.pointer (some ⟨b,n.toNat * u.size+0,none⟩)) hex ?_ ⟨b,hb,rfl⟩ hxn hk;rw[hx,yh hix,map_some];have:=y0w (P:=P) (w:=w) (k:=k) (b:=b) (off:=0) (len:=(ρ β).len) (c:=(ρ β).cap) h1 h2 h3 (by rw[<- hlen];exact h5)
    simpa using this
   ·cases hk
  ·cases hk
 ·rename_i i k n β m hi he1 he2;rw[he1]at hix;rw[he2]at hx hxn;split at hk
  ·rename_i e u q e' v xs hch;obtain ⟨hel,hk1⟩:=y07 hk;clear hk;obtain ⟨x',hx',hk2⟩:=bind_eq_some_iff.1 hk1;obtain ⟨ys,hys,hk3⟩:=bind_eq_some_iff.1 hk2;obtain ⟨y,hy,hk⟩:=bind_eq_some_iff.1 hk3;obtain ⟨h1,h2,_⟩:=yM (hT.shape hi) (y1z hel);obtain ⟨h3,h4,h5⟩:=y3S hy;obtain ⟨q',hq',hv⟩:=hx;obtain ⟨b,q2,l,hb,h0,h6,h7⟩:=y6Y (h.cH β _ (getD_some hch)).1 hx';rw[hq']at h0;cases h0;obtain ⟨ys',hys',_,_,h8,h9⟩:=h7.comp;rw[hys]at hys';cases hys';obtain ⟨b2,hb2,_⟩:=h9.at h4;refine Yld.of_run (sv:=.nP β m n.toNat v.size 0) (v:=.pointer (some ⟨b2,n.toNat * v.size+0,none⟩)) hex ?_ ⟨q',b2,hq',hb2,rfl⟩ hxn hk;rw[hv,hb2,yh hix,map_some];have:=y0w (P:=P) (w:=w) (k:=k) (b:=b2) (off:=0) (len:=q'.2.1) (c:=q'.2.2) h1 h2 h3 (by rw[h8];exact h5)
   simpa using this
  ·cases hk
 ·rename_i i k n β off hi he1 he2;rw[he1]at hix;rw[he2]at hx hxn;split at hk
  ·rename_i m u hty;cases hb:(decide (0<=n) && decide (n < (m:Int)))with
   |false=>simp[hb]at hk
   |true =>
    simp only[hb,cond_true]at hk;simp only[and_eq_true,decide_eq_true_eq]at hb;obtain ⟨h1,h2,_⟩:=y3G (hT.shape hi) hty;obtain ⟨b,hbk,hv⟩:=hx;split at hk
    ·split at hk
     ·rename_i hov;obtain ⟨rfl,_⟩:=hov;exact Yld.of_run (sv:=.eP β n.toNat u.size 0) hex (by rw[hv,yh hix];exact y2c h1 h2 hb.1 hb.2) ⟨b,hbk,by simp⟩ hxn hk
     ·cases hk
    ·exact Yld.of_run (sv:=.bP β (off+n.toNat * u.size)) hex (by rw[hv,yh hix];exact y2c h1 h2 hb.1 hb.2) ⟨b,hbk,rfl⟩ hxn hk
    ·cases hk
  ·cases hk
 ·cases hk
theorem yDc(hT:yc P g.T)(h:Rel P A0 w0 ρ s a w){t:TypeId}{x ix:Operand}(ho:o.op=.index t x ix)(hk:yU g s o K=some r):Yld P A0 ρ s a w o K r:=by
 simp only[yU,ho]at hk;have hx:=(y6 (T:=g.T) h t x).1;have hix:=(y6 (T:=g.T) h 0 ix).1;have hex:execOp a.eval o=(do pure (.value (<- Instr.index t (a.eval x) (a.eval ix)))):=by simp only[execOp,ho]
 split at hk
 ·rename_i i k n bs hi he1 he2;rw[he1]at hix;rw[he2]at hx;split at hk
  ·rename_i hty;simp only[bind_eq_some_iff]at hk;obtain ⟨c,hc,hk⟩:=hk;obtain ⟨h1,h2,h3⟩:=y3S hc;have hu:=y2d (hT.shape hi) hty;refine Yld.of_run (sv:=.val (.int .u8) (c.toNat:Int)) (v:=.int .u8 c.toNat) hex ?_ (y2p _ _) trivial hk;rw[y3T hx,yh hix];have h4:(⟨(bs:List UInt8).toArray⟩:ByteArray)[n.toNat]?=some c:=by
    have hlt:n.toNat < (bs:List UInt8).length:=by omega
    rw[getElem?_pos (⟨(bs:List UInt8).toArray⟩:ByteArray) n.toNat (by simpa[ByteArray.size]using hlt)]
    rw[getElem?_eq_getElem hlt]at h2;exact h2
   simp[Instr.index,asIntOf,run_underlying hu,h1,h4]
  ·cases hk
 ·rename_i i k n m u xs hi he1 he2;rw[he1]at hix;rw[he2]at hx;split at hk
  ·rename_i hty;simp only[bind_eq_some_iff]at hk;obtain ⟨y,hy,hk⟩:=hk;obtain ⟨h1,h2,h3⟩:=y3S hy;obtain ⟨h4,h5,_⟩:=y3G (hT.shape hi) hty;obtain ⟨l,hl,hv⟩:=yKA rfl hx;simp only[Cells]at hl;obtain ⟨h6,h7,h8⟩:=hl;obtain ⟨inf,d,h9,h10,h11,_⟩:=h5.ex;have key:∀ (n:Int) (k:Nat),0<=n->n < (k:Int)->n.toNat+1<=k:=λ _ _ _ _=>by omega
   have hnm:=key n m h1 (by rw[<- h7];exact h3)
   have hle:n.toNat * u.size+u.size<=l.length:=by
    rw[h6,<- Nat.succ_mul];exact Nat.mul_le_mul_right _ hnm
   have hp:=y2k (w:=w) h5 (cs:=l.toArray) (off:=n.toNat * u.size) (by simpa using hle)
   refine Yld.of_run (sv:=.val u y) hex (v:=u.wrap ((l.drop (n.toNat * u.size)).take u.size)) ?_ ⟨_,h8 _ _ h2,rfl⟩ trivial hk;rw[hv,yh hix];have hnm':n < (m:Int):=by rw[<- h7];exact h3
   simp only[Instr.index,asIntOf,Sem.run_bind,Sem.run_pure,Result.andThen_ok,run_underlying h4];simp only[h1,hnm',and_self,if_true,Sem.run_bind,y0x h9,Result.andThen_ok,h11];simpa using hp
  ·cases hk
 ·cases hk
theorem y61(h:Rel P A0 w0 ρ s a w){x:Operand}{n:Nat}(ho:o.op=.extract x n)(hk:yU g s o K=some r):Yld P A0 ρ s a w o K r:=by
 simp only[yU,ho]at hk;have hx:=(y6 (T:=g.T) h 0 x).1;split at hk
 ·rename_i t y he;rw[he]at hx;simp only[bind_eq_some_iff]at hk;obtain ⟨tv,hf,hk⟩:=hk;obtain ⟨l,hl,hv⟩:=hx;obtain ⟨l',h1,h2⟩:=yDY _ _ _ _ _ hl hf;exact Yld.of_run (m:=Instr.extract (a.eval x) n) (sv:=.val tv.t tv.x) (by simp only[execOp,ho]) (by rw[hv];simp[Instr.extract,h2]) ⟨l',h1,rfl⟩ trivial hk
 ·rename_i β he;rw[he]at hx;split at hk
  ·rename_i cells hch;obtain ⟨sv,hsv,hk⟩:=bind_eq_some_iff.1 hk;obtain ⟨_,hor,hvl,hvc⟩:=(h.cH β _ (getD_some hch)).1;obtain ⟨v,hv,hr⟩:=hvc n sv hsv;have hx':a.eval x=.tuple (ρ β).vals.toArray:=by
    have h0:a.eval x=recV (ρ β).len (ρ β).vals:=hx;rcases hor with ⟨hb,_⟩|⟨_,hln,_⟩
    ·cases hb
    ·rw[h0];simp[recV,hln]
   exact Yld.of_run (m:=Instr.extract (a.eval x) n) (by simp only[execOp,ho]) (by rw[hx'];simp[Instr.extract,hv]) hr (h.cN β _ (getD_some hch) sv (mem_of_getElem? hsv)) hk
  ·cases hk
 ·cases hk
theorem y99(h:Rel P A0 w0 ρ s a w){x:Operand}(ho:o.op=.nilCheck x)(hk:yU g s o K=some r):Yld P A0 ρ s a w o K r:=by
 simp only[yU,ho,ptrK]at hk;have hx:=y6 (T:=g.T) h 0 x;have hrun:∀ b:Addr,a.eval x=.pointer (some b)->(execOp a.eval o).run P w=.ok (.value (.pointer (some b))) w:=λ b hb=>by
  simp[execOp,ho,hb]
 split at hk
 ·rename_i β off he;rw[he]at hx;obtain ⟨b,hb,hv⟩:=hx.1;exact Yld.here (sv:=.bP β off) (hrun _ hv) ⟨b,hb,rfl⟩ hx.2 hk
 ·rename_i β n sz off he;rw[he]at hx;obtain ⟨b,hb,hv⟩:=hx.1;exact Yld.here (sv:=.eP β n sz off) (hrun _ hv) ⟨b,hb,rfl⟩ hx.2 hk
 ·rename_i t y he;rw[he]at hx;obtain ⟨b,off,l,hv,h1,h2,h3,h4⟩:=y4B hx.1;exact Yld.here (hrun _ hv) (hv ▸ hx.1) hx.2 hk
 ·cases hk
omit [GT] in
theorem yGF{k:FloatKind}{b:Nat}{j:IntKind}{m:Int}(h:yBG k (fcan k b) j=some m):floatToIntVal k b j=some m:=by
 cases hn:(k.format.read b).isNaN with
 |false=>rw[y1o hn]at h;exact h
 |true =>
  have hz:=(y6D k b).trans hn;unfold yBG floatToIntVal FloatKind.decode at h;cases hr:k.format.read (fcan k b)with
  |nan s' t'=>rw[hr]at h;cases h
  |number _ _ _=>rw[hr]at hz;cases hz
  |infinity _=>rw[hr]at hz;cases hz
omit [GT] in
theorem yCT{k j:FloatKind}{b m:Nat}(hn:(k.format.read b).isNaN=false)(h:floatToFloatBits k b j=some m):(j.format.read m).isNaN=false:=by
 unfold floatToFloatBits at h;split at h
 ·rename_i e;cases h;subst e;exact hn
 ·split at h
  ·cases h
  ·cases h;exact y4A _ rfl
  ·split at h
   ·cases h
   ·cases h;exact y4A _ rfl
theorem yCZ{t:TypeId}{i:TyI}{k:FloatKind}(hs:y0Y P t i=true)(hty:i.ty=.flt k):P.underlying t=some (.float k):=by
 unfold y0Y at hs;rw[hty]at hs;cases hu:P.underlying t with
 |none=>rw[hu]at hs;cases hs
 |some e=>rw[hu]at hs;cases e<;>first|(simp only[decide_eq_true_eq]at hs;rw[hs])|cases hs
theorem yD9{t:TypeId}{i:TyI}{k:IntKind}(hs:y0Y P t i=true)(hty:i.ty=.int k):P.underlying t=some (.int k):=by
 unfold y0Y at hs;rw[hty]at hs;cases hu:P.underlying t with
 |none=>rw[hu]at hs;cases hs
 |some e=>rw[hu]at hs;cases e<;>first|(simp only[decide_eq_true_eq]at hs;rw[hs])|cases hs
theorem yB9{A:Nat->Prop}{w:World}{xs:List Int}{v:Value}{sr d e:TypeId}(hs:P.underlying sr=some (.slice e))(he:P.underlying e=some (.int .u8))(hd:P.underlying d=some .string)
  (h:∃ l,Cells P (.slice (.int .u8)) A w xs l/\v=Ty.wrap (.slice (.int .u8)) l):(Go.convert sr d v).run P w=.ok (.string ⟨(y14 xs).toArray⟩) w:=by
 obtain ⟨l,⟨p,c,rfl,h1,h2,h3⟩,rfl⟩:=h;change (Go.convert sr d (.slice p (List.length xs) c)).run P w=_
 rw[run_convert_bytes_string w sr d e p _ c hs he hd];have hfold:∀ (ys:List Int) (r:ByteArray),ys.foldl (λ r n=>r.push (UInt8.ofNat n.toNat)) r=⟨r.data++(y14 ys).toArray⟩:=λ ys=>by
  induction ys with
  |nil=>intro r;simp[y14]
  |cons y ys ih=>intro r;rw[List.foldl_cons,ih];simp[y14,ByteArray.push]
 cases p with
 |none =>
  cases xs with
  |nil=>rfl
  |cons x xs =>
   obtain ⟨a,_,h4,_⟩:=h3 0 x rfl;cases h4
 |some a =>
  have hl:=run_loadCells_list (P:=P) (w:=w) a (List.map (Value.int .u8) xs) (λ j v hj=>by
   rw[List.getElem?_map,map_eq_some_iff]at hj;obtain ⟨x,hx,rfl⟩:=hj;obtain ⟨a',l',e1,hsp,_,_,hc,hi⟩:=h3 j x hx;cases e1;obtain ⟨b,off,sp⟩:=a;simp only at hsp;subst hsp;simp only[Cells]at hi;subst hi;have:=hc 0 _ rfl;rw[yu];simpa[Ty.size]using this)
  rw[List.length_map]at hl;rw[run_bytesToString w a _ c xs hl,hfold,show ByteArray.empty.data=#[]from rfl,Array.empty_append]
theorem yAM(hT:yc P g.T)(h:Rel P A0 w0 ρ s a w){sr d:TypeId}{x:Operand}(ho:o.op=.convert sr d x)(hk:yU g s o K=some r):Yld P A0 ρ s a w o K r:=by
 simp only[yU,ho]at hk;have hx:=(y6 (T:=g.T) h d x).1;have hex:execOp a.eval o=(do pure (.value (<- Go.convert sr d (a.eval x)))):=by simp only[execOp,ho]
 cases hj:yN g.T sr with
 |none=>rw[hj]at hk;simp at hk
 |some j =>
 rw[hj]at hk;simp only[Option.isNone_some,false_eq_true,if_false]at hk;obtain ⟨_,ds,_,h2,_⟩:=(hT.fits hj).ex;split at hk
 ·rename_i i k n hi he;rw[he]at hx;split at hk
  ·rename_i k' hty;have hu:P.underlying d=some (.int k'):=by
    have hs:=hT.shape hi;unfold y0Y at hs;rw[hty]at hs;cases hu:P.underlying d with
    |none=>rw[hu]at hs;cases hs
    |some e=>rw[hu]at hs;cases e<;>first|(simp only[decide_eq_true_eq]at hs;rw[hs])|cases hs
   refine Yld.of_run (sv:=.val (.int k') (k'.wrap n)) (v:=.int k' (k'.wrap n)) hex ?_ (y2p _ _) trivial hk;rw[yh hx];simp[Go.convert,run_underlying h2,run_underlying hu,Conv.intToInt]
  ·rename_i k' hty;have hu:=yCZ (hT.shape hi) hty;have hf:=y1o (yBj k' n);refine Yld.of_run (sv:=.val (.flt k') (y7R k' n)) (v:=.float k' (y7R k' n)) hex ?_ (by have:=yBp (P:=P) (w:=w) (ρ:=ρ) (A:=Av A0 ρ s.cH) k' (floatOfInt k' n);rw[hf]at this;exact this) trivial hk
   rw[yh hx];simp[Go.convert,run_underlying h2,run_underlying hu,Conv.intToFloat,y7R,floatOfInt]
  ·rename_i hty;have hu:=y2d (hT.shape hi) hty;refine Yld.of_run (sv:=.val .str (yBD n)) (v:=.string ⟨(yBD n).toArray⟩) hex ?_ (yA8 _) trivial hk;rw[yh hx];simp[Go.convert,run_underlying h2,run_underlying hu,Conv.intToString,yBD]
  ·cases hk
 ·rename_i i bs hi he;rw[he]at hx;split at hk
  ·rename_i hty;have hu:=y2d (hT.shape hi) hty;refine Yld.of_run (sv:=.val .str bs) (v:=.string ⟨(bs:List UInt8).toArray⟩) hex ?_ (yA8 _) trivial hk;rw[y3T hx];simp[Go.convert,run_underlying h2,run_underlying hu]
  ·cases hk
 ·rename_i i k n hi he;rw[he]at hx;split at hk
  ·rename_i j' hty;obtain ⟨m,h3,hk2⟩:=bind_eq_some_iff.1 hk;clear hk;have hu:=yD9 (hT.shape hi) hty;refine Yld.of_run (sv:=.val (.int j') m) (v:=.int j' m) hex ?_ (y2p _ _) trivial hk2;obtain ⟨b,hb,rfl⟩:=y6W hx;rw[hb];have:=run_convert_float_int (P:=P) w sr d k j' b m (by rw[h2];rfl) hu (yGF h3)
   simp[this]
  ·rename_i j' hty;obtain ⟨m,h3,hk2⟩:=bind_eq_some_iff.1 hk;clear hk;have hu:=yCZ (hT.shape hi) hty;obtain ⟨b,hb,rfl⟩:=y6W hx;unfold yFy at h3;rw[y6D]at h3;cases hn:(k.format.read b).isNaN with
   |false =>
    rw[hn,y1o hn]at h3;have:=run_convert_float_float (P:=P) w sr d k j' b m (by rw[h2];rfl) hu h3
    have hm:=yCT hn h3;refine Yld.of_run (sv:=.val (.flt j') m) (v:=.float j' m) hex ?_ (by have:=yBp (P:=P) (w:=w) (ρ:=ρ) (A:=Av A0 ρ s.cH) j' m;rw[y1o hm]at this;exact this) trivial hk2
    rw[hb];simp[this]
   |true =>
    rw[hn]at h3;cases h3;by_cases he:k=j'
    ·subst he;refine Yld.of_run (sv:=.val (.flt k) (fnan k)) (v:=.float k b) hex ?_ (by have:=yBp (P:=P) (w:=w) (ρ:=ρ) (A:=Av A0 ρ s.cH) k b;rw[y2a hn]at this;exact this) trivial hk2
     rw[hb];have:=run_convert_float_float (P:=P) w sr d k k b b (by rw[h2];rfl) hu (by simp[floatToFloatBits])
     simp[this]
    ·have hz:(j'.format.read ((Question.nanConv j' b).cut (w.tape w.drawn (.nanConv j' b)))).isNaN=true:=by
      generalize w.tape w.drawn (.nanConv j' b)=q;cases j'<;>exact yKw _ _ (by decide) (by decide) (by decide)
     refine Yld.of_drawn (d:=w.drawn+1) (sv:=.val (.flt j') (fnan j')) (v:=.float j' ((Question.nanConv j' b).cut (w.tape w.drawn (.nanConv j' b)))) hex ?_ (by have:=yBp (P:=P) (w:=w) (ρ:=ρ) (A:=Av A0 ρ s.cH) j' ((Question.nanConv j' b).cut (w.tape w.drawn (.nanConv j' b)));rw[y2a hz]at this;exact this) trivial hk2
     rw[hb];have hd:∃ s' t',k.decode b=.nan s' t':=by
      unfold FloatKind.decode;cases hr:k.format.read b with
      |nan s' t'=>exact ⟨s',t',rfl⟩
      |number _ _ _=>rw[hr]at hn;cases hn
      |infinity _=>rw[hr]at hn;cases hn
     obtain ⟨s',t',hd⟩:=hd;simp[Go.convert,run_underlying h2,run_underlying hu,Conv.floatToFloat,he,hd,Question.forced]
  ·cases hk
 ·rename_i i xs hi he;rw[he]at hx;split at hk
  ·rename_i hty;have hu:=y2d (hT.shape hi) hty;split at hk
   ·rename_i hsl;unfold yPz at hsl;rw[hj]at hsl;simp only[and_eq_true,decide_eq_true_eq]at hsl;obtain ⟨hj1,hm⟩:=hsl;cases hme:yN g.T j.elem with
    |none=>rw[hme]at hm;cases hm
    |some m =>
     rw[hme]at hm;have he8:=yD9 (hT.shape hme) (of_decide_eq_true hm);refine Yld.of_run (sv:=.val .str (y14 xs)) (v:=.string ⟨(y14 xs).toArray⟩) hex ?_ (yA8 _) trivial hk;have hr:=yB9 (d:=d) (yM (hT.shape hj) (.inl hj1)).1 he8 hu hx;simp[hr]
   ·cases hk
  ·cases hk
 ·cases hk
end
end Go.Vx
end
section
namespace Go.Vx
open Go.RowKit
variable [GT]
section
variable {P:Program} {A0:Nat->Prop} {w0:Base} {ρ:Places} {s:St} {a:Act} {w w':World} {g:G} {R:Type} {K:SV->Option R} {r:R} {o:Oper}
def Value.plain1:Value->Bool
 |.agg _|.tuple _=>false
 |_=>true
theorem Cells.plain{A:Nat->Prop}:∀ {t:Ty} {x:t.den} {l:List Value},Cells P t A w x l->∀ v∈l,Value.plain1 v=true:=by
 intro t;induction t with
 |pair a b iha ihb =>
  intro x l h v hv;simp only[Cells]at h;obtain ⟨l1,l2,rfl,h1,h2⟩:=h;rcases List.mem_append.1 hv with hv|hv
  ·exact iha h1 v hv
  ·exact ihb h2 v hv
 |arr n t ih =>
  intro xs l h v hv;simp only[Cells]at h;obtain ⟨h1,h2,h3⟩:=h;obtain ⟨j,hj⟩:=List.mem_iff_getElem?.1 hv;have hlt:=(List.getElem?_eq_some_iff.1 hj).1;have hs:0 < t.size:=by
   rcases Nat.eq_zero_or_pos t.size with h0|h0
   ·rw[h0]at h1;omega
   ·exact h0
  have hd:j / t.size < n:=by rw[Nat.div_lt_iff_lt_mul hs,<- h1];exact hlt
  have hx:(xs:List t.den)[j / t.size]?=some (xs:List t.den)[j / t.size]:=getElem?_eq_getElem (by rw[h2];exact hd)
  refine ih (h3 _ _ hx) v ?_
  have hm:=Nat.mod_lt j hs;refine List.mem_iff_getElem?.2 ⟨j % t.size,?_⟩;rw[getElem?_take,if_pos hm,getElem?_drop];rw[Nat.mul_comm,Nat.div_add_mod];exact hj
 |unit=>intro x l h v hv;simp only[Cells]at h;subst h;cases hv
 |bool=>intro x l h v hv;simp only[Cells]at h;subst h;simp at hv;subst hv;rfl
 |int k=>intro x l h v hv;simp only[Cells]at h;subst h;simp at hv;subst hv;rfl
 |str=>intro x l h v hv;simp only[Cells]at h;subst h;simp at hv;subst hv;rfl
 |slice t _=>intro x l h v hv;simp only[Cells]at h;obtain ⟨p,c,rfl,_⟩:=h;simp at hv;subst hv;rfl
 |nS t _=>intro x l h v hv;simp only[Cells]at h;obtain ⟨p,c,rfl,_⟩:=h;simp at hv;subst hv;rfl
 |ref t _=>intro x l h v hv;simp only[Cells]at h;obtain ⟨p,c,rfl,_⟩:=h;simp at hv;subst hv;rfl
 |func a b _ _ =>
  intro x l h v hv;simp only[Cells]at h;rcases h with ⟨rfl,_⟩|⟨f,fi,c,_,rfl,_⟩<;>simp at hv<;>subst hv<;>rfl
 |map k v _ _ =>
  intro x l h v hv;simp only[Cells]at h;rcases h with ⟨rfl,_⟩|⟨r,ms,c,rfl,_⟩<;>simp at hv<;>subst hv<;>rfl
 |err =>
  intro x l h v hv;simp only[Cells]at h;rcases h with ⟨_,rfl⟩|⟨_,t,u,rfl⟩<;>simp at hv<;>subst hv<;>rfl
 |flt k=>intro x l h v hv;simp only[Cells]at h;obtain ⟨b,rfl,_⟩:=h;simp at hv;subst hv;rfl
 |cplx k=>intro x l h v hv;simp only[Cells]at h;obtain ⟨b,c,rfl,_⟩:=h;simp at hv;subst hv;rfl
 |code =>
  intro x l h v hv;simp only[Cells]at h;rcases h with ⟨_,rfl⟩|⟨f,_,rfl⟩<;>simp at hv<;>subst hv<;>rfl
theorem y0I{A:Nat->Prop}{t:Ty}{x:t.den}{l:List Value}(h:Cells P t A w x l):(t.wrap l).cells=l.toArray:=by
 unfold Ty.wrap;split
 ·rfl
 ·rename_i ht;have ht:t.agg=false:=by simpa using ht
  have h1:=y54 ht h;have h2:=h.plain;rw[h1]at h2 ⊢;have:=h2 _ (List.mem_singleton.2 rfl);simp only[headD_cons];cases hw:t.wrap l<;>rw[hw]at this<;>first|rfl|(simp[Value.plain1]at this)
theorem y9s:∀ (vs:List Value) (k off:Nat) (cs:Array Value),off+k+vs.length<=cs.size ->
  ((vs.zipIdx k).foldl (λ cs p=>cs.setIfInBounds (off+p.2) p.1) cs).toList=cs.toList.take (off+k)++vs++cs.toList.drop (off+k+vs.length)
 |[],k,off,cs,_=>by simp
 |v::vs,k,off,cs,h=>by
  simp only[List.length_cons]at h;rw[List.zipIdx_cons,List.foldl_cons,y9s vs (k+1) off _ (by simp;omega)]
  have hlt:off+k < cs.toList.length:=by simp;omega
  simp only[Array.toList_setIfInBounds,List.length_cons];rw[show off+(k+1)=off+k+1 by omega,List.take_set,List.drop_set_of_lt (by omega)]
  rw[List.take_succ_eq_append_getElem hlt,List.set_append];have e1:(List.take (off+k) cs.toList).length=off+k:=by simp at hlt ⊢;omega
  rw[if_neg (by omega),e1,Nat.sub_self,List.set_cons_zero]
  rw[show off+k+1+vs.length=off+k+(vs.length+1) by omega]
  simp
theorem yAw{place:Nat->Option (Nat×Nat)}{cs:Array Value}{i off sz:Nat}{v:Value}{m:List Value}{rest:List (Nat×Value)}(hp:place i=some (off,sz))(hv:v.cells=m.toArray)(hm:m.length=sz)(hle:off+sz<=cs.size) :
  Instr.fill place cs ((i,v)::rest)=Instr.fill place (cs.toList.take off++m++cs.toList.drop (off+sz)).toArray rest:=by
 subst hm;simp only[Instr.fill,hp,hv];rw[if_neg (by simp;omega)]
 congr 1
 apply Array.toList_inj.1;have:=y9s m 0 off cs (by omega)
 simp only[Nat.add_zero]at this;rw[<- this,<- Array.foldl_toList];simp
theorem y9D{A:Nat->Prop}(hE:∀ e∈g.E,FnOK P e):∀ (t:Ty) (fs:List Field) (off:Nat) (x x':t.den) (l:List Value) (f:Nat) (sv:SV) (v:Value),yx P fs off t=true->Cells P t A w x l->yD P A w ρ sv v->y4j g.E t x f sv=some x' ->
  ∃ fd m inf,fs[f]?=some fd/\P.info? fd.type=some inf/\m.length=inf.size/\v.cells=m.toArray/\off<=fd.offset/\fd.offset - off+m.length<=l.length/\Cells P t A w x' (l.take (fd.offset - off)++m++l.drop (fd.offset - off+m.length)):=by
 intro t;induction t with
 |pair a b iha ihb =>
  intro fs off x x' l f sv v hB hc hs h;cases fs with
  |nil=>simp[yx]at hB
  |cons fd fs =>
   simp only[yx,and_eq_true,beq_iff_eq,not_eq_true',beq_eq_false_iff_ne]at hB;simp only[Cells]at hc;obtain ⟨l1,l2,rfl,h1,h2⟩:=hc;cases f with
   |zero =>
    simp only[y4j,map_eq_some_iff]at h;obtain ⟨y,hy,rfl⟩:=h;obtain ⟨m,h3,h4⟩:=y8y hE hs hy;obtain ⟨inf,d,h5,h6,h7,_⟩:=(y0r hB.1.2).ex;have h0:fd.offset - off=0:=by omega
    have hml:=h3.length;have h1l:=h1.length;refine ⟨fd,m,inf,rfl,h5,by rw[h3.length,h7],by rw[h4];exact y0I h3,by omega,by rw[h0];simp;omega,?_⟩
    rw[h0];simp only[Cells];refine ⟨m,l2,?_,h3,h2⟩;rw[zero_add,take_zero,nil_append,hml,<- h1l,drop_left]
   |succ f =>
    simp only[y4j,map_eq_some_iff]at h;obtain ⟨q,hq,rfl⟩:=h;obtain ⟨fd',m,inf,h3,h4,h5,h6,h7,h8,h9⟩:=ihb fs _ _ _ _ f sv v hB.2 h2 hs hq;have h1l:=h1.length;have e:fd'.offset - off=l1.length+(fd'.offset - (off+a.size)):=by omega
    refine ⟨fd',m,inf,by simpa using h3,h4,h5,h6,by omega,by rw[e];simp;omega,?_⟩
    simp only[Cells];refine ⟨l1,_,?_,h1,h9⟩;rw[e,List.take_append,drop_append,List.take_of_length_le (by omega),drop_eq_nil_of_le (by omega),nil_append]
    simp;congr 2
    omega
 |_=>intro fs off x x' l f sv v _ _ _ h;simp[y4j]at h
theorem yCQ(hE:∀ e∈g.E,FnOK P e)(h:Rel P A0 w0 ρ s a w){T:List (TypeId×TyI)}{tys:List (Nat×TypeId)}{t:Ty}{fs:List Field}(hB:yx P fs 0 t=true)
  {places:List (Nat×Nat)} (hpl:fs.mapM (λ f=>(P.info? f.type).map λ i=>(f.offset,i.size))=some places) :
  ∀ (ps:List (Nat×Operand)) (x y:t.den) (l:List Value),Cells P t (Av A0 ρ s.cH) w x l->y6w g.E s T tys t ps x=some y ->
   ∃ cs,Instr.fill (places.toArray[·]?) l.toArray (ps.map λ p=>(p.1,a.eval p.2))=some cs/\Cells P t (Av A0 ρ s.cH) w y cs.toList:=by
 intro ps;induction ps with
 |nil=>intro x y l hc hk;simp only[y6w,Option.some.injEq]at hk;subst hk;exact ⟨l.toArray,rfl,hc⟩
 |cons p ps ih =>
  intro x y l hc hk;simp only[y6w,bind_eq_some_iff]at hk;obtain ⟨x',hx',hk⟩:=hk;have hs:=(y6 (T:=T) h ((tys.getD p.1 (0,0)).2) p.2).1;obtain ⟨fd,m,inf,h1,h2,h3,h4,h5,h6,h7⟩:=y9D hE _ _ _ _ _ _ _ _ _ hB hc hs hx';have hp:places[p.1]?=some (fd.offset,inf.size):=by
   have key:∀ (fs:List Field) (places:List (Nat×Nat)) (i:Nat),fs.mapM (λ f=>(P.info? f.type).map λ i=>(f.offset,i.size))=some places->fs[i]?=some fd->places[i]?=some (fd.offset,inf.size):=by
    intro fs;induction fs with
    |nil=>intro places i _ hi;simp at hi
    |cons f fs ihf =>
     intro places i hm hi;simp only[mapM_cons,bind_eq_bind,bind_eq_some_iff,map_eq_some_iff,pure_def,Option.some.injEq]at hm;obtain ⟨q,⟨j,hj,rfl⟩,rest,hr,rfl⟩:=hm;cases i with
     |zero=>simp at hi;subst hi;rw[h2]at hj;cases hj;rfl
     |succ i=>simpa using ihf rest i hr (by simpa using hi)
   exact key _ _ _ hpl h1
  obtain ⟨cs,h8,h9⟩:=ih x' y _ h7 hk;refine ⟨cs,?_,h9⟩;rw[map_cons,yAw (off:=fd.offset) (sz:=inf.size) (by simpa using hp) h4 h3 (by simp;omega),<- h8]
  simp[h3]
omit [GT] in
theorem yOZ{t:TypeId}{u:Ty}(h:y6Q P t (.slice u)=true):y6Q P t (.nS u)=true:=by
 unfold y6Q at h ⊢;cases e1:P.info? t with
 |none=>simp[e1]at h
 |some inf =>
  cases e2:P.underlying t with
  |none=>simp[e1,e2]at h
  |some d =>
   simp only[e1,e2,and_eq_true]at h ⊢;obtain ⟨⟨⟨⟨h1,h2⟩,h3⟩,h4⟩,h5⟩:=h;exact ⟨⟨⟨⟨h1,h2⟩,h3⟩,h4⟩,rfl⟩
theorem y9F{l:List Nat}:∀ (t:Ty) (k:Nat) (fs:List Field) (off:Nat),yx P fs off t=true->yx P fs off (refine l t k)=true:=by
 intro t;induction t with
 |pair a b iha ihb =>
  intro k fs off h;cases fs with
  |nil=>simp[yx]at h
  |cons f fs =>
   simp only[yx,and_eq_true]at h;obtain ⟨⟨⟨h1,h2⟩,h3⟩,h4⟩:=h;have ih:=ihb (k+1) fs _ h4;unfold refine;cases a with
   |slice u =>
    dsimp only;split
    ·simp only[yx,and_eq_true];exact ⟨⟨⟨h1,h2⟩,h3⟩,ih⟩
    ·simp only[yx,and_eq_true];exact ⟨⟨⟨h1,rfl⟩,yOZ h3⟩,ih⟩
   |_ =>
    simp only[yx,and_eq_true];exact ⟨⟨⟨h1,h2⟩,h3⟩,ih⟩
 |_=>intro k fs off h;exact h
omit [GT] in
theorem yGq{l:List Nat}:∀ (t:Ty) (k:Nat),t.zok=true->(refine l t k).zok=true:=by
 intro t;induction t with
 |pair a b iha ihb =>
  intro k h;simp only[Ty.zok,and_eq_true]at h;unfold refine;have ih:=ihb (k+1) h.2;cases a with
  |slice u =>
   dsimp only;split<;>(simp only[Ty.zok,and_eq_true];exact ⟨trivial,ih⟩)
  |_=>simp only[Ty.zok,and_eq_true]at h ⊢;exact ⟨h.1,ih⟩
 |_=>intro k h;exact h
omit [GT] in
theorem yCY{l:List Nat}:∀ (t:Ty) (k:Nat),(refine l t k).zeroV=t.zeroV:=by
 intro t;induction t with
 |pair a b iha ihb =>
  intro k;unfold refine;have ih:=ihb (k+1);cases a with
  |slice u =>
   dsimp only;split<;>(simp only[Ty.zeroV,ih])
  |_=>simp only[Ty.zeroV,ih]
 |_=>intro k;rfl
theorem y8I:∀ (t:Ty) (fs:List Field) (off:Nat),yx P fs off t=true->∃ pl,fs.mapM (λ f=>(P.info? f.type).map λ i=>(f.offset,i.size))=some pl:=by
 intro t;induction t with
 |pair a b iha ihb =>
  intro fs off hB;cases fs with
  |nil=>simp[yx]at hB
  |cons f fs =>
   simp only[yx,and_eq_true]at hB;obtain ⟨inf,d,h5,_⟩:=(y0r hB.1.2).ex;obtain ⟨pl,hpl⟩:=ihb fs _ hB.2;exact ⟨(f.offset,inf.size)::pl,by simp[mapM_cons,h5,hpl]⟩
 |unit =>
  intro fs off hB;cases fs with
  |nil=>exact ⟨[],rfl⟩
  |cons f fs=>simp[yx]at hB
 |_=>intro fs off hB;cases fs<;>simp[yx]at hB
theorem y1k{ps:Array (Nat×Operand)}:(ps.map λ (i,x)=>(i,a.eval x)).toList=ps.toList.map λ p=>(p.1,a.eval p.2):=by simp
theorem y1L{t:TypeId}{u:Ty}(hF:Fits P t u)(hz:u.zok=true):∃ inf z,P.info? t=some inf/\inf.zero=some z/\inf.size=u.size/\z.cells=u.zeroV.toArray/\z=u.wrap u.zeroV:=by
 obtain ⟨inf,d,h1,h2,h3,h4,h5,h6⟩:=hF.ex;have hd:Cells P u (λ _=>False) default u.dflt u.zeroV:=y4l u hz
 exact ⟨inf,_,h1,h6,h3,y0I hd,rfl⟩
theorem y17{l m:List Value}{o:Nat}(h:o+m.length<=l.length)(j:Nat):(l.take o++m++l.drop (o+m.length))[j]?=if j < o then l[j]? else if j < o+m.length then m[j - o]? else l[j]?:=by
 have e1:(l.take o).length=o:=by simp;omega
 rw[List.append_assoc,List.getElem?_append];split
 ·rename_i h1;rw[e1]at h1;rw[if_pos h1,getElem?_take,if_pos h1]
 ·rename_i h1;rw[e1]at h1;rw[if_neg h1,e1,List.getElem?_append];split
  ·rw[if_pos (by omega)]
  ·rw[if_neg (by omega),getElem?_drop]
   congr 1
   omega
theorem y0H(l:List Value)(o k j:Nat):((l.drop o).take k)[j]?=if j < k then l[o+j]? else none:=by
 rw[getElem?_take];split
 ·rw[getElem?_drop]
 ·rfl
theorem yOK{A:Nat->Prop}{n:Nat}{u:Ty}{xs:List u.den}{l m:List Value}{i:Nat}{y:u.den}(hc:Cells P (.arr n u) A w xs l)(hi:i < n)(hm:Cells P u A w y m) :
  i * u.size+m.length<=l.length/\Cells P (.arr n u) A w (xs.set i y) (l.take (i * u.size)++m++l.drop (i * u.size+m.length)):=by
 simp only[Cells]at hc ⊢;obtain ⟨h1,h2,h3⟩:=hc;have hml:=hm.length;have hle:i * u.size+m.length<=l.length:=by
  rw[h1,hml,<- Nat.succ_mul];exact Nat.mul_le_mul_right _ hi
 refine ⟨hle,by simp only[List.length_append,List.length_take,List.length_drop];omega,by simpa using h2,λ j x hj=>?_⟩
 by_cases hij:i=j
 ·subst hij;rw[List.getElem?_set_self (by omega)]at hj
  cases hj;have:((l.take (i * u.size)++m++l.drop (i * u.size+m.length)).drop (i * u.size)).take u.size=m:=by
   have e1:(l.take (i * u.size)).length=i * u.size:=by simp;omega
   rw[List.append_assoc,drop_append,drop_eq_nil_of_le (by omega),nil_append,e1,Nat.sub_self,drop_zero,<- hml,take_left]
  rw[this];exact hm
 ·rw[List.getElem?_set_ne hij]at hj;have:((l.take (i * u.size)++m++l.drop (i * u.size+m.length)).drop (j * u.size)).take u.size=(l.drop (j * u.size)).take u.size:=by
   apply List.ext_getElem?;intro k;rw[y0H,y0H];split
   ·rename_i hk;rw[y17 hle];rcases Nat.lt_or_gt_of_ne hij with h|h
    ·have h5:(i+1) * u.size<=j * u.size:=Nat.mul_le_mul_right _ h;rw[add_mul,one_mul]at h5;rw[if_neg (by omega),if_neg (by omega)]
    ·have h5:(j+1) * u.size<=i * u.size:=Nat.mul_le_mul_right _ h;rw[add_mul,one_mul]at h5;rw[if_pos (by omega)]
   ·rfl
  rw[this];exact h3 j x hj
theorem y4O(hE:∀ e∈g.E,FnOK P e)(h:Rel P A0 w0 ρ s a w){T:List (TypeId×TyI)}{u:Ty}{e:TypeId}{n:Nat} :
  ∀ (ps:List (Nat×Operand)) (xs ys:List u.den) (l:List Value),Cells P (.arr n u) (Av A0 ρ s.cH) w xs l->y48 g.E s T u e ps xs=some ys ->
   ∃ cs,Instr.fill (λ i=>some (i * u.size,u.size)) l.toArray (ps.map λ p=>(p.1,a.eval p.2))=some cs/\Cells P (.arr n u) (Av A0 ρ s.cH) w ys cs.toList:=by
 intro ps;induction ps with
 |nil=>intro xs ys l hc hk;simp only[y48,Option.some.injEq]at hk;subst hk;exact ⟨l.toArray,rfl,hc⟩
 |cons p ps ih =>
  intro xs ys l hc hk;simp only[y48]at hk;split at hk
  ·rename_i hlt;simp only[bind_eq_some_iff]at hk;obtain ⟨y,hy,hk⟩:=hk;have hs:=(y6 (T:=T) h e p.2).1;obtain ⟨m,h1,h2⟩:=y8y hE hs hy;have hn:xs.length=n:=by simp only[Cells]at hc;exact hc.2.1
   obtain ⟨h3,h4⟩:=yOK (i:=p.1) hc (by omega) h1
   obtain ⟨cs,h5,h6⟩:=ih _ ys _ h4 hk;refine ⟨cs,?_,h6⟩;rw[map_cons,yAw (off:=p.1 * u.size) (sz:=u.size) rfl (by rw[h2];exact y0I h1) h1.length (by simpa[h1.length]using h3),<- h5,h1.length]
  ·cases hk
theorem y0n{A:Nat->Prop}(n:Nat){u:Ty}(hz:u.zok=true):Cells P (.arr n u) A w (List.replicate n u.dflt) (List.replicate n u.zeroV).flatten:=by
 have:=y4l (P:=P) (A:=A) (w:=w) (.arr n u) hz;exact this
theorem y9y(z:List Value):∀ n,(List.range (n * z.length)).map (λ i=>z.toArray[i % z.toArray.size]!)=(List.replicate n z).flatten:=by
 intro n;induction n with
 |zero=>simp
 |succ n ih =>
  rw[List.replicate_succ',List.flatten_append,<- ih,add_mul,one_mul,List.range_add,List.map_append];congr 1
  simp only[List.map_map,List.flatten_cons,List.flatten_nil,append_nil];apply List.ext_getElem?;intro j;rw[List.getElem?_map];rcases Nat.lt_or_ge j z.length with hj|hj
  ·rw[List.getElem?_range hj];have:(n * z.length+j) % z.length=j:=by rw[Nat.mul_comm,Nat.mul_add_mod,Nat.mod_eq_of_lt hj]
   simp[this,hj]
  ·rw[List.getElem?_eq_none (by simpa using hj),List.getElem?_eq_none hj]
   rfl
theorem yEN(hE:∀ e∈g.E,FnOK P e)(hT:yc P g.T)(h:Rel P A0 w0 ρ s a w){t:TypeId}{ps:Array (Nat×Operand)}(ho:o.op=.build t ps)(hk:yU g s o K=some r):Yld P A0 ρ s a w o K r:=by
 simp only[yU,ho]at hk;have hex:execOp a.eval o=(do pure (.value (<- Instr.build t (ps.map λ (i,x)=>(i,a.eval x))))):=by simp only[execOp,ho]
 split at hk
 ·rename_i i hi;split at hk
  ·rename_i n u hty;split at hk
   ·rename_i hz;simp only[bind_eq_some_iff]at hk;obtain ⟨y,hy,hk⟩:=hk;obtain ⟨h1,h2,_⟩:=y3G (hT.shape hi) hty;have hF:=hT.fits hi;rw[hty]at hF;obtain ⟨inf,z,h3,h4,h5,h6,h7⟩:=y1L hF (by simpa[Ty.zok]using hz)
    obtain ⟨ie,d,h8,h9,h10,_⟩:=h2.ex;obtain ⟨cs,h11,h12⟩:=y4O hE h _ _ _ _ (y0n n hz) hy;have hb:P.built t (ps.map λ (i,x)=>(i,a.eval x)).toList=some cs:=by
     unfold Program.built;simp only[h3,h1,h4,h8,h6,h10];rw[y1k];exact h11
    exact Yld.of_run (sv:=.val (.arr n u) y) hex (run_build w t _ cs hb) ⟨cs.toList,h12,by simp[Ty.wrap,Ty.agg]⟩ trivial hk
   ·cases hk
  ·rename_i b c hty;split at hk
   ·rename_i hz;generalize hw:bty (y58 g o.dst) (ps.toList.map (·.1)) (.pair b c)=wt at hk;simp only[bind_eq_some_iff]at hk;obtain ⟨y,hy,hk⟩:=hk;obtain ⟨fs,h1,h2,h3⟩:=y1m (hT.shape hi) (by rw[hty];rfl)
    have hF:=hT.fits hi;rw[hty]at hF h3;obtain ⟨w1,w2,w3,w4⟩:yx P fs.toList 0 wt=true/\wt.zok=true/\wt.zeroV=(Ty.pair b c).zeroV/\wt.agg=true:=by
     subst hw;unfold bty;split
     ·exact ⟨y9F _ _ _ _ h3,yGq _ _ hz,yCY _ _,rfl⟩
     ·exact ⟨h3,hz,rfl,rfl⟩
    obtain ⟨inf,z,h4,h5,h6,h7,h8⟩:=y1L hF hz;obtain ⟨pl,hpl⟩:=y8I _ _ _ h3;have h0:Cells P wt (Av A0 ρ s.cH) w wt.dflt (Ty.pair b c).zeroV:=by rw[<- w3];exact y4l _ w2
    obtain ⟨cs,h11,h12⟩:=yCQ hE h w1 hpl _ _ _ _ h0 hy;have hb:P.built t (ps.map λ (i,x)=>(i,a.eval x)).toList=some cs:=by
     unfold Program.built;simp only[h4,h1,h5,hpl,h7];rw[y1k];exact h11
    exact Yld.of_run (sv:=.val wt y) hex (run_build w t _ cs hb) ⟨cs.toList,h12,by simp[Ty.wrap,w4]⟩ trivial hk
   ·cases hk
  ·cases hk
 ·cases hk
theorem y3o{t e:TypeId}{n:Nat}{parts:Array (Nat×Value)}{u:Ty}{cs:Array Value}(hu:P.underlying t=some (.slice e))(hF:Fits P e u)(hz:u.zok=true)(hs:n * u.size<=16777216)
  (hf:Instr.fill (λ i=>some (i * u.size,u.size)) (List.replicate n u.zeroV).flatten.toArray parts.toList=some cs) :
  (Instr.buildSlice t n parts).run P w=.ok (.slice (some ⟨w.heap.size,0,none⟩) n n) (w.alloc (.cells cs e)):=by
 obtain ⟨ie,z,h1,h2,h3,h4,h5⟩:=y1L hF hz;have hzl:=yS u;have hr:=y9y u.zeroV n;rw[hzl]at hr;by_cases h0:n * u.size=0
 ·have he:(List.replicate n u.zeroV).flatten=[]:=by rw[<- hr,h0];rfl
  rw[he]at hf;have hr0:Array.range 0=#[]:=rfl;simp[Instr.buildSlice,run_underlying hu,sizeOf,typeInfo,h1,h3,h0,newRow,hr0,hf]
 ·refine run_buildSlice w t e n parts cs ie z hu h1 h2 (by rw[h3];omega) (by rw[h3];exact h0) ?_
  rw[h3,h4];rw[<- hf];congr 1
  apply Array.toList_inj.1;rw[Array.toList_map,Array.toList_range,<- hr]
end
end Go.Vx
end
section
namespace Go.Vx
open Go.RowKit
variable [GT]
section
variable {P:Program} {A0:Nat->Prop} {w0:Base} {ρ:Places} {s:St} {a:Act} {w w':World} {g:G} {R:Type} {K:SV->Option R} {r:R} {o:Oper}
theorem y0T(w:World)(o:Obj):Below w.heap.size w (w.alloc o):=(Below.refl _ _).alloc (le_refl _) o
theorem y31(A:Nat->Prop)(w:World)(o:Obj):Keep A w (w.alloc o):=λ n hn _=>Below.heap_alloc w o n hn
theorem yCp(w:World)(cs:Array Value)(e:TypeId):yO (w.alloc (.cells cs e)) w.heap.size 0 cs.toList:=by
 intro j v hj;have:(w.alloc (.cells cs e)).heap[w.heap.size]?=some (.cells cs e (0,0)):=heap_alloc_new w _;simp only[World.cell?,this,zero_add];simpa using hj
theorem size_alloc(w:World)(o:Obj):(w.alloc o).heap.size=w.heap.size+1:=by show (w.heap.push o).size=_;simp
theorem y63{e:TypeId}{v:Value}:(Instr.box e v).run P w=.ok (.pointer (some ⟨w.heap.size,0,none⟩)) (w.alloc (.cells v.cells e)):=by
 simp[Instr.box,newVar,newRow]
theorem yID(h:Rel P A0 w0 ρ s a w){e:TypeId}{x:Operand}(ho:o.op=.box e x)(hk:yU g s o K=some r):Yld P A0 ρ s a w o K r:=by
 simp only[yU,ho]at hk;split at hk
 ·cases hk
 ·split at hk
  ·rename_i i hi;simp only[bind_eq_some_iff]at hk;obtain ⟨y,hy,hk⟩:=hk;have hs:=(y6 (T:=g.T) h e x).1;obtain ⟨l,h1,h2⟩:=y04 hs hy;have hc:=y0I h1;refine ⟨.val (.ref i.ty) y,.pointer (some ⟨w.heap.size,0,none⟩),w.alloc (.cells (a.eval x).cells e),?_,y0T _ _,?_,trivial,hk⟩
   ·simp only[execOp,ho,Sem.run_bind,y63,Result.andThen_ok,Sem.run_pure]
   ·refine yBs (l:=l) (λ hA=>?_) (by rw[size_alloc];omega) ?_ (h1.mono (y31 _ _ _) (λ _ _ h=>h))
    ·have:=h.av_lt hA;omega
    ·rw[h2,hc];have:=yCp w l.toArray e;simpa using this
  ·cases hk
theorem y76(hE:∀ e∈g.E,FnOK P e)(hT:yc P g.T)(h:Rel P A0 w0 ρ s a w){t:TypeId}{n:Nat}{ps:Array (Nat×Operand)}(ho:o.op=.buildSlice t n ps)(hk:yU g s o K=some r):Yld P A0 ρ s a w o K r:=by
 simp only[yU,ho]at hk;split at hk
 ·cases hk
 ·split at hk
  ·rename_i i hi;split at hk
   ·rename_i u hty;split at hk
    ·rename_i hz;simp only[and_eq_true,decide_eq_true_eq]at hz;simp only[bind_eq_some_iff]at hk;obtain ⟨y,hy,hk⟩:=hk;obtain ⟨h1,h2,_⟩:=yM (hT.shape hi) (.inl hty);obtain ⟨cs,h3,h4⟩:=y4O hE h _ _ _ _ (y0n n hz.1) hy;refine ⟨.val (.slice u) y,.slice (some ⟨w.heap.size,0,none⟩) n n,w.alloc (.cells cs i.elem),?_,y0T _ _,?_,trivial,hk⟩
     ·simp only[execOp,ho,Sem.run_bind];rw[y3o h1 h2 hz.1 hz.2 (by rw[y1k];exact h3)]
      rfl
     ·simp only[Cells]at h4;obtain ⟨h5,h6,h7⟩:=h4;refine ⟨[.slice (some ⟨w.heap.size,0,none⟩) n n],?_,rfl⟩;simp only[Cells];have hn:n<=maxLen:=by
       simp only[maxLen];have:u.size≠0:=(yM (hT.shape hi) (.inl hty)).2.2;have:n * 1<=n * u.size:=Nat.mul_le_mul_left _ (by omega)
       omega
      refine ⟨some ⟨w.heap.size,0,none⟩,n,by rw[h6],by rw[h6];exact le_refl _,hn,λ j x hj=>?_⟩
      refine ⟨⟨w.heap.size,0,none⟩,_,rfl,rfl,λ hA=>?_,by show w.heap.size < _;rw[size_alloc];omega,?_,(h7 j x hj).mono (y31 _ _ _) (λ _ _ h=>h)⟩
      ·have:=h.av_lt hA;exact absurd this (Nat.lt_irrefl _)
      ·exact (yCp w cs i.elem).sub (j * u.size) u.size
    ·cases hk
   ·cases hk
  ·cases hk
theorem yD7(h:Rel P A0 w0 ρ s a w){T:List (TypeId×TyI)}:∀ (xs:List Operand) (cs:List Cap),y5q (xs.map λ x=>y8 T 0 s x)=some cs->yY P (Av A0 ρ s.cH) w ρ cs (xs.map a.eval)/\y0O s.cH.length cs:=by
 intro xs;induction xs with
 |nil=>intro cs hc;simp[y5q]at hc;subst hc;exact ⟨trivial,trivial⟩
 |cons x xs ih =>
  intro cs hc;obtain ⟨h1,h2⟩:=y6 (T:=T) h 0 x;simp only[map_cons]at hc ⊢;cases he:y8 T 0 s x with
  |bP β off =>
   rw[he]at hc h1 h2;cases off with
   |zero =>
    simp only[y5q,map_eq_some_iff]at hc;obtain ⟨ds,hd,rfl⟩:=hc;obtain ⟨h3,h4⟩:=ih ds hd;exact ⟨⟨h1,h3⟩,h2,h4⟩
   |succ off=>simp[y5q]at hc
  |val t y =>
   rw[he]at hc h1 h2;simp only[y5q,map_eq_some_iff]at hc;obtain ⟨ds,hd,rfl⟩:=hc;obtain ⟨h3,h4⟩:=ih ds hd;exact ⟨⟨h1,h3⟩,h4⟩
  |_=>rw[he]at hc;simp[y5q]at hc
theorem yDs(hE:∀ e∈g.E,FnOK P e)(h:Rel P A0 w0 ρ s a w){f:FuncId}{first:List Operand}(hk:yBB g s f first K=some r) :
  ∃ sv v,yD P (Av A0 ρ s.cH) w ρ sv v/\sv.inn s.cH.length/\K sv=some r/\v=.func (.func f) (first.map a.eval).toArray #[]:=by
 unfold yBB at hk;split at hk;case h_2=>cases hk
 rename_i x;have hx0:=y6 (T:=g.T) h 0 x;split at hk
 ·rename_i β hev;rw[hev]at hx0;obtain ⟨⟨b,hb,hv⟩,hin⟩:=hx0;exact ⟨.meth f β,_,⟨b,hb,rfl⟩,hin,hk,by rw[map_cons,List.map_nil,hv]⟩
 split at hk
 ·rename_i ef t b tr m eo eq hfe;cases hsol:t.solid with
  |false=>rw[hsol]at hk;cases hk
  |true =>
  rw[hsol,cond_true]at hk;obtain ⟨y,hy,hk⟩:=bind_eq_some_iff.1 hk;obtain ⟨ly,hly,hxv⟩:=y04 hx0.1 hy;obtain ⟨hm,rfl⟩:=y1t hfe;obtain ⟨hEn,hF,_⟩:=hE _ hm;refine ⟨.val (.func b tr) (λ z=>m (y,z)),.func (.func ef) #[a.eval x] #[],⟨_,.inr ⟨ef,#[a.eval x],#[],λ n=>n < w.heap.size/\¬ Av A0 ρ s.cH n/\y6q w n,rfl,hEn,λ n hn=>⟨hn.2.1,hn.1,hn.2.2⟩,λ A2 w2 hG2 h5 h6 z lz q hz hq=>?_⟩,rfl⟩,trivial,hk,rfl⟩
  have hly':Cells P t A2 w2 y ly:=Cells.mono2 (λ n hn hnA hd=>h5 n ⟨hn,hnA,hd⟩) (λ n hn hn2 hd=>Classical.byContradiction λ hc=>(h6 n hn2).2 ⟨hn,hc,hd⟩) hsol hly
  have:=hF A2 w2 (y,z) (ly++lz) q hG2 (λ n hn=>(h6 n hn).1) ⟨ly,lz,rfl,hly',hz⟩ hq
  have e1:(ly++lz).take t.size=ly:=by rw[<- hly.length,take_left]
  have e2:(ly++lz).drop t.size=lz:=by rw[<- hly.length,drop_left]
  simp only[Ty.group,e1,e2,<- hxv]at this;have e3:(#[a.eval x]++(b.group lz).toArray++#[]:Array Value)=(a.eval x::b.group lz).toArray:=by
   apply Array.toList_inj.1;simp
  rw[e3];exact this
 ·cases hk
theorem y9H(hE:∀ e∈g.E,FnOK P e)(h:Rel P A0 w0 ρ s a w){fn:Fn}{first caps:Array Operand}(ho:o.op=.makeFunc fn first caps)(hk:yU g s o K=some r):Yld P A0 ρ s a w o K r:=by
  simp only[yU,ho]at hk;split at hk<;>try (cases hk;done)
  all_goals first
    | (rename_i f first' caps' heq
       obtain ⟨rfl,rfl,rfl⟩:fn=.func f/\first=first'/\caps=caps':=by cases heq;exact ⟨rfl,rfl,rfl⟩
       split at hk
       · rename_i hf;simp only[bind_eq_some_iff]at hk;obtain ⟨cs,hc,hk⟩:=hk;obtain ⟨h1,h2⟩:=yD7 h _ _ hc;have hf0:first=#[]:=Array.eq_empty_of_size_eq_zero hf
         refine Yld.of_run (m:=Instr.makeFunc (.func f) (first.map a.eval) (caps.map a.eval)) (sv:=.clo f cs) (by simp only[execOp,ho]) (v:=.func (.func f) #[] (caps.toList.map a.eval).toArray) ?_ ⟨_,rfl,h1⟩ h2 hk
         rw[hf0];have:caps.map a.eval=(caps.toList.map a.eval).toArray:=by apply Array.toList_inj.1;simp
         simp[Instr.makeFunc,this]
       · split at hk
         · rename_i hc0;obtain ⟨sv,v,m1,m2,m3,rfl⟩:=yDs hE h hk;have hc1:caps=#[]:=Array.eq_empty_of_size_eq_zero hc0;refine Yld.of_run (m:=Instr.makeFunc (.func f) (first.map a.eval) (caps.map a.eval)) (sv:=sv) (by simp only[execOp,ho]) (v:=.func (.func f) (first.toList.map a.eval).toArray #[]) ?_ m1 m2 m3
           rw[hc1];have:first.map a.eval=(first.toList.map a.eval).toArray:=by apply Array.toList_inj.1;simp
           simp[Instr.makeFunc,this]
         · cases hk)
    | (simp_all;done)
theorem y4v{k:IntKind}{n:Int}{y:Nat}{c:BoundsCode}(h0:0<=n)(h1:n<=(y:Int)):(Instr.sliceBound (.int k n) y c).run P w=.ok n.toNat w:=by
 simp[Instr.sliceBound,asIntOf,h0,h1]
theorem y8r(h:Rel P A0 w0 ρ s a w){T:List (TypeId×TyI)}{x:Option Operand}{b:Option Int}(hb:y7E T s x=some b) :
  (x=none/\b=none)\/∃ y n k,x=some y/\b=some n/\a.eval y=.int k n:=by
 cases x with
 |none=>simp[y7E]at hb;exact .inl ⟨rfl,hb.symm⟩
 |some y =>
  simp only[y7E,map_eq_some_iff]at hb;obtain ⟨n,hn,rfl⟩:=hb;have hs:=(y6 (T:=T) h 0 y).1;cases he:y8 T 0 s y<;>rw[he]at hn<;>try (simp[yAy]at hn;done)
  rename_i t z;cases t<;>try (simp[yAy]at hn;done)
  rename_i k;simp[yAy]at hn;subst hn;rw[he]at hs;exact .inr ⟨y,z,k,rfl,rfl,yh hs⟩
theorem y2u{α:Type}{xs:List α}{l h:Option Int}{K:List α->Option R}(hk:y66 xs l h K=some r) :
  ∃ lo hi:Nat,lo<=hi/\hi<=xs.length/\K ((xs.take hi).drop lo)=some r /\
   (l=none/\lo=0\/∃ n,l=some n/\0<=n/\lo=n.toNat/\n<=(hi:Int))/\(h=none/\hi=xs.length\/∃ n,h=some n/\0<=n/\hi=n.toNat/\n<=(xs.length:Int)):=by
 unfold y66 at hk;split at hk
 ·exact ⟨0,xs.length,zero_le _,le_refl _,by simpa using hk,.inl ⟨rfl,rfl⟩,.inl ⟨rfl,rfl⟩⟩
 ·rename_i n;cases hb:(decide (0<=n) && decide (n<=(xs.length:Int)))with
  |false=>simp[hb]at hk
  |true =>
   simp only[hb,cond_true]at hk;simp only[and_eq_true,decide_eq_true_eq]at hb;exact ⟨n.toNat,xs.length,by omega,le_refl _,by simpa using hk,.inr ⟨n,rfl,hb.1,rfl,hb.2⟩,.inl ⟨rfl,rfl⟩⟩
 ·rename_i n;cases hb:(decide (0<=n) && decide (n<=(xs.length:Int)))with
  |false=>simp[hb]at hk
  |true =>
   simp only[hb,cond_true]at hk;simp only[and_eq_true,decide_eq_true_eq]at hb;exact ⟨0,n.toNat,zero_le _,by omega,by simpa using hk,.inl ⟨rfl,rfl⟩,.inr ⟨n,rfl,hb.1,rfl,hb.2⟩⟩
 ·rename_i m n;cases hb:(decide (0<=m) && decide (m<=n) && decide (n<=(xs.length:Int)))with
  |false=>simp[hb]at hk
  |true =>
   simp only[hb,cond_true]at hk;simp only[and_eq_true,decide_eq_true_eq]at hb;exact ⟨m.toNat,n.toNat,by omega,by omega,hk,.inr ⟨m,rfl,hb.1.1,rfl,by omega⟩,.inr ⟨n,rfl,by omega,rfl,hb.2⟩⟩
theorem y0Z{sl:Bool}{len cap:Nat}{lo hi:Option Operand}{l h:Option Int}{x y:Nat}
  (hl:(lo=none/\l=none)\/∃ y n k,lo=some y/\l=some n/\a.eval y=.int k n)
  (hh:(hi=none/\h=none)\/∃ y n k,hi=some y/\h=some n/\a.eval y=.int k n)
  (h1:l=none/\x=0\/∃ n,l=some n/\0<=n/\x=n.toNat/\n<=(y:Int)) (h2:h=none/\y=len\/∃ n,h=some n/\0<=n/\y=n.toNat/\n<=(len:Int)) (hlc:len<=cap) :
  (Instr.sliceBounds sl len cap (lo.map a.eval) (hi.map a.eval) none).run P w=.ok (x,y,cap) w:=by
 have eh:∀ z n k,hi=some z->h=some n->a.eval z=.int k n->∀ c,(Instr.sliceBound (.int k n) cap c).run P w=.ok y w:=by
  intro z n k _ e _ c;rcases h2 with ⟨h,_⟩|⟨m,h,h3,h4,h5⟩
  ·rw[e]at h;cases h
  ·rw[e]at h;cases h;rw[h4];exact y4v h3 (by omega)
 have el:∀ z n k,lo=some z->l=some n->a.eval z=.int k n->∀ c,(Instr.sliceBound (.int k n) y c).run P w=.ok x w:=by
  intro z n k _ e _ c;rcases h1 with ⟨h,_⟩|⟨m,h,h3,h4,h5⟩
  ·rw[e]at h;cases h
  ·rw[e]at h;cases h;rw[h4];exact y4v h3 h5
 have eh0:h=none->y=len:=by
  intro e;rcases h2 with ⟨_,h⟩|⟨m,h,_⟩
  ·exact h
  ·rw[e]at h;cases h
 have el0:l=none->x=0:=by
  intro e;rcases h1 with ⟨_,h⟩|⟨m,h,_⟩
  ·exact h
  ·rw[e]at h;cases h
 unfold Instr.sliceBounds;rcases hl with ⟨rfl,rfl⟩|⟨z,n,k,rfl,rfl,hz⟩<;>rcases hh with ⟨rfl,rfl⟩|⟨z',n',k',rfl,rfl,hz'⟩
 ·simp[eh0 rfl,el0 rfl]
 ·simp[el0 rfl,hz',eh z' n' k' rfl rfl hz']
 ·have:=eh0 rfl;subst this;simp[hz,el z n k rfl rfl hz]
 ·simp[hz,hz',eh z' n' k' rfl rfl hz',el z n k rfl rfl hz]
theorem yBW{α:Type}(xs:List α)(lo hi i:Nat)(x:α)(h:((xs.take hi).drop lo)[i]?=some x):xs[lo+i]?=some x:=by
 rw[getElem?_drop,getElem?_take]at h;split at h
 ·exact h
 ·cases h
theorem y8u{A:Nat->Prop}{u:Ty}{xs:List u.den}{p:Option Addr}{c lo hi:Nat}(hlo:lo<=hi)(hhi:hi<=xs.length)(hc:xs.length<=c)(hcm:c<=maxLen)
  (h3:∀ (i:Nat) (x:u.den),xs[i]?=some x->∃ (a:Addr) (l':List Value),p=some a/\a.spot=none/\¬ A a.block/\a.block < w.heap.size/\yO w a.block (a.off+i * u.size) l'/\Cells P u A w x l') :
  Cells P (.slice u) A w ((xs.take hi).drop lo) [.slice (if c=lo then p else p.map (·.add (lo * u.size))) (hi - lo) (c - lo)]:=by
 have hlen:((xs.take hi).drop lo).length=hi - lo:=by simp;omega
 simp only[Cells];refine ⟨_,c - lo,by rw[hlen],by rw[hlen];omega,by omega,λ i x hx=>?_⟩
 have hi':=(List.getElem?_eq_some_iff.1 hx).1;rw[hlen]at hi';obtain ⟨a,l',rfl,hs,h4,h5,h6,h7⟩:=h3 _ _ (yBW xs lo hi i x hx);rw[if_neg (by omega)]
 obtain ⟨b,off,sp⟩:=a;simp only at hs;subst hs;refine ⟨⟨b,off+lo * u.size,none⟩,l',by simp[yu],rfl,h4,h5,?_,h7⟩
 simp only;rw[add_assoc,<- add_mul];exact h6
theorem y1a{t e:TypeId}{u:Ty}{p:Option Addr}{len c x y:Nat}{lo hi:Option Value}(hu:P.underlying t=some (.slice e))(hF:Fits P e u)
  (hb:(Instr.sliceBounds true len c lo hi none).run P w=.ok (x,y,c) w) :
  (Instr.sliceAt t (.slice p len c) lo hi none).run P w=.ok (.slice (if c=x then p else p.map (·.add (x * u.size))) (y - x) (c - x)) w:=by
 obtain ⟨inf,d,h1,h2,h3,_⟩:=hF.ex;simp[Instr.sliceAt,Instr.slice,run_underlying hu,hb,y0x h1,h3]
theorem yB3{t e:TypeId}{n:Nat}{u:Ty}{b:Addr}{x y:Nat}{lo hi:Option Value}(hu:P.underlying t=some (.array n e))(hF:Fits P e u)
  (hb:(Instr.sliceBounds false n n lo hi none).run P w=.ok (x,y,n) w) :
  (Instr.sliceAt t (.pointer (some b)) lo hi none).run P w=.ok (.slice (some (if n=x then b else b.add (x * u.size))) (y - x) (n - x)) w:=by
 obtain ⟨inf,d,h1,h2,h3,_⟩:=hF.ex;simp[Instr.sliceAt,run_underlying hu,hb,y0x h1,h3,Instr.sureAddr]
theorem yJw{A:Nat->Prop}{n:Nat}{u:Ty}{xs:List u.den}{b:Addr}{l':List Value}(hs:b.spot=none)(hA:¬ A b.block)(hb:b.block < w.heap.size)(hc:yO w b.block b.off l')
  (hl:l'.length=n * u.size) (hn:xs.length=n) (he:∀ (i:Nat) (x:u.den),xs[i]?=some x->Cells P u A w x ((l'.drop (i * u.size)).take u.size)) :
  ∀ (i:Nat) (x:u.den),xs[i]?=some x->∃ (a:Addr) (l':List Value),some b=some a/\a.spot=none/\¬ A a.block/\a.block < w.heap.size/\yO w a.block (a.off+i * u.size) l'/\Cells P u A w x l':=by
 intro i x hx;refine ⟨b,_,rfl,hs,hA,hb,λ j v hj=>?_,he i x hx⟩
 rw[getElem?_take]at hj;split at hj
 ·rw[getElem?_drop]at hj;have:=hc _ _ hj;rw[<- add_assoc]at this;exact this
 ·cases hj
theorem yAS(hT:yc P g.T)(h:Rel P A0 w0 ρ s a w){t:TypeId}{x:Operand}{lo hi mx:Option Operand}(ho:o.op=.slice t x lo hi mx)(hk:yU g s o K=some r):Yld P A0 ρ s a w o K r:=by
 simp only[yU,ho]at hk;have hx:=(y6 (T:=g.T) h t x).1;split at hk
 ·rename_i l hh hl1 hl2;have hex:execOp a.eval o=(do pure (.value (<- Instr.sliceAt t (a.eval x) (lo.map a.eval) (hi.map a.eval) none))):=by simp only[execOp,ho,Option.map_none]
  have b1:=y8r h hl1;have b2:=y8r h hl2;split at hk
  ·rename_i i u xs hi he;rw[he]at hx;split at hk
   ·rename_i hel;obtain ⟨x1,y1,h1,h2,h3,h4,h5⟩:=y2u hk;obtain ⟨h6,h7,_⟩:=yM (hT.shape hi) (y1z hel);obtain ⟨m,hm,hv⟩:=hx;simp only[Cells]at hm;obtain ⟨p,c,rfl,h8,h9,h10⟩:=hm;have hb:=y0Z (P:=P) (w:=w) (sl:=true) (cap:=c) b1 b2 h4 h5 h8;exact Yld.of_run (sv:=.val (.slice u) _) hex (by rw[hv];exact y1a h6 h7 hb) ⟨_,y8u h1 h2 h8 h9 h10,rfl⟩ trivial h3
   ·cases hk
  ·rename_i i u xs hi he;rw[he]at hx;split at hk
   ·rename_i hel;obtain ⟨x1,y1,h1,h2,h3,h4,h5⟩:=y2u hk;obtain ⟨h6,h7,_⟩:=yM (hT.shape hi) (y1z hel);obtain ⟨m,hm,hv⟩:=hx;simp only[Cells]at hm;obtain ⟨p,c,rfl,_,_,h8,h9,h10⟩:=hm;have hb:=y0Z (P:=P) (w:=w) (sl:=true) (cap:=c) b1 b2 h4 h5 h8;exact Yld.of_run (sv:=.val (.slice u) _) hex (by rw[hv];exact y1a h6 h7 hb) ⟨_,y8u h1 h2 h8 h9 h10,rfl⟩ trivial h3
   ·cases hk
  ·rename_i i bs hi he;rw[he]at hx;split at hk
   ·rename_i hty;obtain ⟨x1,y1,h1,h2,h3,h4,h5⟩:=y2u hk;have hu:=y2d (hT.shape hi) hty;have hb:=y0Z (P:=P) (w:=w) (sl:=false) (cap:=(bs:List UInt8).length) b1 b2 h4 h5 (le_refl _);refine Yld.of_run (sv:=.val .str _) hex (v:=.string ⟨(((bs:List UInt8).take y1).drop x1).toArray⟩) ?_ (yA8 _) trivial h3;rw[y3T hx];have hs:(⟨(bs:List UInt8).toArray⟩:ByteArray).size=(bs:List UInt8).length:=by simp[ByteArray.size]
    have hex:(⟨(bs:List UInt8).toArray⟩:ByteArray).extract x1 y1=⟨(((bs:List UInt8).take y1).drop x1).toArray⟩:=by
     rw[ByteArray.ext_iff];simp[List.extract_eq_take_drop,List.drop_take]
    simp[Instr.sliceAt,Instr.slice,run_underlying hu,hs,hb,hex]
   ·cases hk
  ·rename_i i n u xs hi he;rw[he]at hx;split at hk
   ·rename_i hel;obtain ⟨x1,y1,h1,h2,h3,h4,h5⟩:=y2u hk;obtain ⟨h6,h7,_⟩:=y3G (hT.shape hi) hel.1;obtain ⟨m,hm,hv⟩:=hx;simp only[Cells]at hm;obtain ⟨b,l',rfl,g1,g2,g3,g4,g5,g6,g7⟩:=hm;have hb:=y0Z (P:=P) (w:=w) (sl:=false) (cap:=n) b1 b2 h4 h5 (Nat.le_of_eq g6);rw[g6]at hb;have hcut:=y8u (P:=P) h1 h2 (Nat.le_of_eq g6) hel.2 (yJw g1 g2 g3 g4 g5 g6 g7);have e:(if n=x1 then some b else (some b).map (·.add (x1 * u.size)))=some (if n=x1 then b else b.add (x1 * u.size)):=by split<;>rfl
    rw[e]at hcut;exact Yld.of_run (sv:=.val (.slice u) _) hex (by rw[hv];exact yB3 h6 h7 hb) ⟨_,hcut,rfl⟩ trivial h3
   ·cases hk
  ·cases hk
 ·cases hk
end
end Go.Vx
end
