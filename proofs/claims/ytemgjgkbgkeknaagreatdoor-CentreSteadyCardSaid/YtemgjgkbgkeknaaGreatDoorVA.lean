import Derived.WalkKit
import Derived.Still
import Derived.Deep.Quiet
import Derived.Laws.FloatArith
set_option linter.all false
open List (flatten_cons getElem?_eq_none getElem?_set_ne getElem?_set_self map_cons mem_of_getElem?)
open Nat (le_refl lt_of_lt_of_le lt_or_ge)
open Bool (and_eq_true)
section
namespace Go.Vx
open Go.RowKit
inductive Ty where
 | bool|int (k:IntKind)|str|unit|pair (a b:Ty)|slice (t:Ty)|ref (t:Ty)|func (a b:Ty)
 | arr (n:Nat) (t:Ty)|nS (t:Ty)|map (k v:Ty)|err|flt (k:FloatKind)|cplx (k:FloatKind)|code
 deriving DecidableEq,Inhabited
@[reducible] def Ty.den:Ty->Type
 |.bool=>Bool
 |.int _=>Int
 |.str=>List UInt8
 |.unit=>Unit
 |.pair a b=>a.den×b.den
 |.slice t=>List t.den
 |.ref t=>t.den
 |.func a b=>a.den->Option b.den
 |.arr _ t=>List t.den
 |.nS t=>Option (List t.den)
 |.map k v=>List (k.den×v.den)
 |.err=>Bool
 |.flt _=>Nat
 |.cplx _=>Nat×Nat
 |.code=>Nat
def Ty.size:Ty->Nat
 |.unit=>0
 |.pair a b=>a.size+b.size
 |.arr n t=>n * t.size
 |_=>1
def Ty.agg:Ty->Bool
 |.unit|.pair _ _|.arr _ _=>true
 |_=>false
def Ty.dflt:(t:Ty)->t.den
 |.bool=>false
 |.int _=>(0:Int)
 |.str=>([]:List UInt8)
 |.unit=>()
 |.pair a b=>(a.dflt,b.dflt)
 |.slice _=>([]:List _)
 |.ref t=>t.dflt
 |.func _ _=>λ _=>none
 |.arr n t=>List.replicate n t.dflt
 |.nS _=>none
 |.map _ _=>([]:List _)
 |.err=>true
 |.flt _=>(0:Nat)
 |.cplx _=>((0:Nat),(0:Nat))
 |.code=>(0:Nat)
def Ty.wrap(t:Ty)(l:List Value):Value:=if t.agg then .agg l.toArray else l.headD undef
def Ty.flatV:(t:Ty)->t.den->List Value
 |.bool,b=>[.bool b]
 |.int k,n=>[.int k n]
 |.str,s=>[.string ⟨(show List UInt8 from s).toArray⟩]
 |.pair a b,x=>a.flatV x.1++b.flatV x.2
 |.flt k,n=>[.float k n]
 |.cplx k,x=>[.complex k x.1 x.2]
 |_,_=>[]
def yg(k:Ty)(x:k.den):Value:=k.wrap (k.flatV x)
def Ty.group:Ty->List Value->List Value
 |.pair a b,l=>a.wrap (l.take a.size)::b.group (l.drop a.size)
 |_,_=>[]
def pack(vs:List Value):Value:=match vs with|[v]=>v|vs=>.tuple vs.toArray
class GT where
 gl:List (Nat×Ty×List Value)
 ints:List Nat:=[]
 ifs:List Nat:=[]
variable [GT]
def fnan:FloatKind->Nat
 |.f32=>2143289344
 |.f64=>9221120237041090560
def fcan(k:FloatKind)(b:Nat):Nat:=bif (k.format.read b).isNaN then fnan k else b
omit [GT] in
theorem y35(k:FloatKind):fcan k 0=0:=by cases k<;>decide
def yO(w:World)(b off:Nat)(l:List Value):Prop:=∀ j v,l[j]?=some v->w.cell? ⟨b,off+j,none⟩=some v
structure GlobOK (A:Nat->Prop) (w:World):Prop where
 tab:∀ p∈GT.gl,¬ A p.1/\p.1 < w.heap.size/\∃ t f,w.heap[p.1]?=some (.cells p.2.2.toArray t f)
 ints:∀ b∈GT.ints,¬ A b/\b < w.heap.size/\∃ (m:Int) (t:TypeId) (f:Nat×Nat),w.heap[b]?=some (.cells #[.int .i64 m] t f)
 ifs:∀ b∈GT.ifs,¬ A b/\b < w.heap.size/\∃ (tp:TypeId) (p:Value) (t:TypeId) (f:Nat×Nat),w.heap[b]?=some (.cells #[.iface tp p] t f)
omit [GT] in
theorem yDW{w:World}{b:Nat}{l:List Value}(h:∃ t f,w.heap[b]?=some (.cells l.toArray t f)):yO w b 0 l:=by
 obtain ⟨t,f,h⟩:=h;intro j v hj;simp only[World.cell?,h];simpa using hj
def y28(P:Program)(f:FuncId):Prop:=∃ fn,P.funcs[f]?=some fn/\(fn.name == "runtime.NumGoroutine")=false/\fn.body.isNone=false
def y6q(w:World)(n:Nat):Prop:=∀ d,w.heap[n]?≠some (.deferred d)
def Cells(P:Program):(t:Ty)->(Nat->Prop)->World->t.den->List Value->Prop
 |.bool,_,_,b,l=>l=[.bool b]
 |.int k,_,_,n,l=>l=[.int k n]
 |.str,_,_,s,l=>l=[.string ⟨s.toArray⟩]
 |.unit,_,_,_,l=>l=[]
 |.pair a b,A,w,x,l=>∃ l1 l2,l=l1++l2/\Cells P a A w x.1 l1/\Cells P b A w x.2 l2
 |.slice t,A,w,xs,l=>∃ p c,l=[.slice p (List.length xs) c]/\List.length xs<=c/\c<=maxLen /\
   ∀ (i:Nat) (x:t.den),(xs:List t.den)[i]?=some x->∃ (a:Addr) (l':List Value),p=some a/\a.spot=none/\¬ A a.block/\a.block < w.heap.size/\yO w a.block (a.off+i * t.size) l'/\Cells P t A w x l'
 |.ref t,A,w,x,l=>∃ (a:Addr) (l':List Value),l=[.pointer (some a)]/\a.spot=none/\¬ A a.block/\a.block < w.heap.size/\yO w a.block a.off l'/\Cells P t A w x l'
 |.arr n t,A,w,xs,l=>l.length=n * t.size/\List.length xs=n/\∀ (i:Nat) (x:t.den),(xs:List t.den)[i]?=some x->Cells P t A w x ((l.drop (i * t.size)).take t.size)
 |.nS t,A,w,o,l=>∃ p c,l=[.slice p (List.length (Option.getD o [])) c]/\(p=none ↔ o=none)/\(p=none->c=0)/\List.length (Option.getD o [])<=c/\c<=maxLen /\
   ∀ (i:Nat) (x:t.den),(Option.getD o []:List t.den)[i]?=some x->∃ (a:Addr) (l':List Value),p=some a/\a.spot=none/\¬ A a.block/\a.block < w.heap.size/\yO w a.block (a.off+i * t.size) l'/\Cells P t A w x l'
 |.map k v,A,w,es,l=>(l=[.map none]/\es=[])\/∃ (r:Nat) (ms:Array MapEntry) (clock:Nat),l=[.map (some r)]/\¬ A r/\w.heap[r]?=some (.map ms clock)/\ms.size=List.length es /\
   ∀ (i:Nat) (x:k.den×v.den),(es:List (k.den×v.den))[i]?=some x->∃ (e:MapEntry) (lv:List Value),ms[i]?=some e/\e.key=yg k x.1/\Cells P v A w x.2 lv/\e.val=v.wrap lv
 |.err,_,_,b,l=>(b=true/\l=[.nilIface])\/(b=false/\∃ t v,l=[.iface t v])
 |.flt k,_,_,n,l=>∃ b,l=[.float k b]/\fcan k b=n
 |.cplx k,_,_,x,l=>∃ a b,l=[.complex k a b]/\fcan k a=x.1/\fcan k b=x.2
 |.code,_,_,n,l=>(n=(0:Nat)/\l=[.nilFunc])\/∃ f:FuncId,n=f+1/\l=[.func (.func f) #[] #[]]
 |.func a b,A,w,g,l=>(l=[.nilFunc]/\∀ x,g x=none)\/∃ (f:FuncId) (first caps:Array Value) (S:Nat->Prop),l=[.func (.func f) first caps]/\y28 P f/\(∀ n,S n->¬ A n/\n < w.heap.size/\y6q w n) /\
   ∀ (A':Nat->Prop) (w':World),GlobOK A' w'->(∀ n,S n->w'.heap[n]?=w.heap[n]?)->(∀ n,A' n->n < w'.heap.size/\¬ S n) ->
    ∀ (x:a.den) (lx:List Value) (y:b.den),Cells P a A' w' x lx->g x=some y ->
     Calls P f (first++(a.group lx).toArray++caps) w' λ e w''=>∃ ly,e=.returned (pack (b.group ly))/\Cells P b A' w'' y ly/\Below w'.heap.size w' w''
theorem Cells.length{P:Program}:{t:Ty}->{A:Nat->Prop}->{w:World}->{x:t.den}->{l:List Value}->Cells P t A w x l->l.length=t.size
 |.bool,_,_,_,_,h=>by simp only[Cells]at h;subst h;rfl
 |.int _,_,_,_,_,h=>by simp only[Cells]at h;subst h;rfl
 |.str,_,_,_,_,h=>by simp only[Cells]at h;subst h;rfl
 |.unit,_,_,_,_,h=>by simp only[Cells]at h;subst h;rfl
 |.pair a b,_,_,_,_,h=>by
  simp only[Cells]at h;obtain ⟨l1,l2,rfl,h1,h2⟩:=h;simp[Ty.size,Cells.length h1,Cells.length h2]
 |.slice _,_,_,_,_,h=>by simp only[Cells]at h;obtain ⟨p,c,rfl,_⟩:=h;rfl
 |.ref _,_,_,_,_,h=>by simp only[Cells]at h;obtain ⟨p,c,rfl,_⟩:=h;rfl
 |.func _ _,_,_,_,_,h=>by
  simp only[Cells]at h;rcases h with ⟨rfl,_⟩|⟨f,fi,c,_,rfl,_⟩<;>rfl
 |.arr _ _,_,_,_,_,h=>by simp only[Cells]at h;exact h.1
 |.nS _,_,_,_,_,h=>by simp only[Cells]at h;obtain ⟨p,c,rfl,_⟩:=h;rfl
 |.map _ _,_,_,_,_,h=>by
  simp only[Cells]at h;rcases h with ⟨rfl,_⟩|⟨r,ms,c,rfl,_⟩<;>rfl
 |.err,_,_,_,_,h=>by
  simp only[Cells]at h;rcases h with ⟨_,rfl⟩|⟨_,t,v,rfl⟩<;>rfl
 |.flt _,_,_,_,_,h=>by simp only[Cells]at h;obtain ⟨b,rfl,_⟩:=h;rfl
 |.cplx _,_,_,_,_,h=>by simp only[Cells]at h;obtain ⟨a,b,rfl,_⟩:=h;rfl
 |.code,_,_,_,_,h=>by
  simp only[Cells]at h;rcases h with ⟨_,rfl⟩|⟨f,_,rfl⟩<;>rfl
def Keep(A:Nat->Prop)(w w':World):Prop:=∀ n,n < w.heap.size->¬ A n->w'.heap[n]?=w.heap[n]?
theorem yFv{w:World}{b o:Nat}{v:Value}(h:w.cell? ⟨b,o,none⟩=some v):b < w.heap.size:=by
 have:=World.block_lt_of_cell? w ⟨b,o,none⟩ h;exact this
theorem yJ{w:World}{n:Nat}{o:Obj}(h:w.heap[n]?=some o):n < w.heap.size:=(Array.getElem?_eq_some_iff.1 h).1
theorem Keep.lt{A:Nat->Prop}{w w':World}(h:Keep A w w'){n:Nat}(hn:n < w.heap.size)(hA:¬ A n):n < w'.heap.size:=by
 have:=h n hn hA;rw[Array.getElem?_eq_getElem hn]at this;exact yJ this
theorem yO.keep{A:Nat->Prop}{w w':World}{b off:Nat}{l:List Value}(h:yO w b off l)(hk:Keep A w w')(hA:¬ A b):yO w' b off l:=
 λ j v hj=>by
  have h1:=h j v hj;have:=hk b (yFv h1) hA;rw[World.cell?_of_block (w:=w) (a:=⟨b,off+j,none⟩) this];exact h1
theorem Cells.mono{P:Program}:{t:Ty}->{A A':Nat->Prop}->{w w':World}->{x:t.den}->{l:List Value} ->
  Cells P t A w x l->Keep A w w'->(∀ n,n < w.heap.size->A' n->A n)->Cells P t A' w' x l
 |.bool,_,_,_,_,_,_,h,_,_=>h
 |.int _,_,_,_,_,_,_,h,_,_=>h
 |.str,_,_,_,_,_,_,h,_,_=>h
 |.unit,_,_,_,_,_,_,h,_,_=>h
 |.pair a b,A,A',w,w',x,l,h,hk,hA=>by
  simp only[Cells]at h ⊢;obtain ⟨l1,l2,rfl,h1,h2⟩:=h;exact ⟨l1,l2,rfl,Cells.mono h1 hk hA,Cells.mono h2 hk hA⟩
 |.slice t,A,A',w,w',xs,l,h,hk,hA=>by
  simp only[Cells]at h ⊢;obtain ⟨p,c,rfl,h1,h2,h3⟩:=h;refine ⟨p,c,rfl,h1,h2,λ i x hx=>?_⟩
  obtain ⟨a,l',rfl,hs,hn,hlt,hc,hl⟩:=h3 i x hx;exact ⟨a,l',rfl,hs,λ hb=>hn (hA _ hlt hb),hk.lt hlt hn,hc.keep hk hn,Cells.mono hl hk hA⟩
 |.ref t,A,A',w,w',x,l,h,hk,hA=>by
  simp only[Cells]at h ⊢;obtain ⟨a,l',rfl,hs,hn,hlt,hc,hl⟩:=h;exact ⟨a,l',rfl,hs,λ hb=>hn (hA _ hlt hb),hk.lt hlt hn,hc.keep hk hn,Cells.mono hl hk hA⟩
 |.func a b,A,A',w,w',g,l,h,hk,hA=>by
  simp only[Cells]at h ⊢;rcases h with h|⟨f,first,caps,S,rfl,he,hS,hr⟩
  ·exact .inl h
  refine .inr ⟨f,first,caps,S,rfl,he,λ n hn=>⟨λ hb=>(hS n hn).1 (hA _ (hS n hn).2.1 hb),hk.lt (hS n hn).2.1 (hS n hn).1,λ d hd=>(hS n hn).2.2 d ((hk n (hS n hn).2.1 (hS n hn).1).symm.trans hd)⟩,λ A2 w2 hG2 h2 hA2=>?_⟩
  exact hr A2 w2 hG2 (λ n hn=>(h2 n hn).trans (hk n (hS n hn).2.1 (hS n hn).1)) hA2
 |.arr n t,A,A',w,w',xs,l,h,hk,hA=>by
  simp only[Cells]at h ⊢;exact ⟨h.1,h.2.1,λ i x hx=>Cells.mono (h.2.2 i x hx) hk hA⟩
 |.nS t,A,A',w,w',xs,l,h,hk,hA=>by
  simp only[Cells]at h ⊢;obtain ⟨p,c,rfl,h0,h4,h1,h2,h3⟩:=h;refine ⟨p,c,rfl,h0,h4,h1,h2,λ i x hx=>?_⟩
  obtain ⟨a,l',rfl,hs,hn,hlt,hc,hl⟩:=h3 i x hx;exact ⟨a,l',rfl,hs,λ hb=>hn (hA _ hlt hb),hk.lt hlt hn,hc.keep hk hn,Cells.mono hl hk hA⟩
 |.map k v,A,A',w,w',es,l,h,hk,hA=>by
  simp only[Cells]at h ⊢;rcases h with h|⟨r,ms,clock,rfl,hn,hr,hs,he⟩
  ·exact .inl h
  refine .inr ⟨r,ms,clock,rfl,λ hb=>hn (hA _ (yJ hr) hb),(hk r (yJ hr) hn).trans hr,hs,λ i x hx=>?_⟩
  obtain ⟨e,lv,h1,h2,h3,h4⟩:=he i x hx;exact ⟨e,lv,h1,h2,Cells.mono h3 hk hA,h4⟩
 |.err,_,_,_,_,_,_,h,_,_=>h
 |.flt _,_,_,_,_,_,_,h,_,_=>h
 |.cplx _,_,_,_,_,_,_,h,_,_=>h
 |.code,_,_,_,_,_,_,h,_,_=>h
def Ty.solid:Ty->Bool
 |.slice t|.ref t|.nS t=>decide (0 < t.size) && t.solid
 |.pair a b=>a.solid && b.solid
 |.arr _ t=>t.solid
 |.map k v=>k.solid && v.solid
 |_=>true
theorem yO.notDef{w:World}{b off:Nat}{l:List Value}(h:yO w b off l)(hl:0 < l.length):y6q w b:=λ d hd=>by
 have h1:=h 0 l[0] (List.getElem?_eq_getElem hl);simp[World.cell?,hd]at h1
theorem yO.block{w w':World}{b off:Nat}{l:List Value}(h:yO w b off l)(he:w'.heap[b]?=w.heap[b]?):yO w' b off l:=λ j v hj=>by
 have h1:=h j v hj;rw[World.cell?_of_block (w:=w) (a:=⟨b,off+j,none⟩) he];exact h1
theorem Cells.mono2{P:Program}{A A':Nat->Prop}{w w':World}(hk:∀ n,n < w.heap.size->¬ A n->y6q w n->w'.heap[n]?=w.heap[n]?)(hA:∀ n,n < w.heap.size->A' n->y6q w n->A n) :
  {t:Ty}->{x:t.den}->{l:List Value}->t.solid=true->Cells P t A w x l->Cells P t A' w' x l:=by
 have lt':∀ n,n < w.heap.size->¬ A n->y6q w n->n < w'.heap.size:=λ n hn hnA hd=>by
  have:=hk n hn hnA hd;rw[Array.getElem?_eq_getElem hn]at this;exact yJ this
 intro t;induction t with
 |pair a b iha ihb =>
  intro x l hs h;simp only[Ty.solid,and_eq_true]at hs;simp only[Cells]at h ⊢;obtain ⟨l1,l2,rfl,h1,h2⟩:=h;exact ⟨l1,l2,rfl,iha hs.1 h1,ihb hs.2 h2⟩
 |slice t ih =>
  intro x l hs h;simp only[Ty.solid,and_eq_true,decide_eq_true_eq]at hs;simp only[Cells]at h ⊢;obtain ⟨p,c,rfl,h1,h2,h3⟩:=h;refine ⟨p,c,rfl,h1,h2,λ i x hx=>?_⟩
  obtain ⟨a,l',rfl,hsp,hn,hlt,hc,hl⟩:=h3 i x hx;have hd:=hc.notDef (by rw[hl.length];exact hs.1)
  exact ⟨a,l',rfl,hsp,λ hb=>hn (hA _ hlt hb hd),lt' _ hlt hn hd,hc.block (hk _ hlt hn hd),ih hs.2 hl⟩
 |ref t ih =>
  intro x l hs h;simp only[Ty.solid,and_eq_true,decide_eq_true_eq]at hs;simp only[Cells]at h ⊢;obtain ⟨a,l',rfl,hsp,hn,hlt,hc,hl⟩:=h;have hd:=hc.notDef (by rw[hl.length];exact hs.1)
  exact ⟨a,l',rfl,hsp,λ hb=>hn (hA _ hlt hb hd),lt' _ hlt hn hd,hc.block (hk _ hlt hn hd),ih hs.2 hl⟩
 |func a b =>
  intro x l _ h;simp only[Cells]at h ⊢;rcases h with h|⟨f,first,caps,S,rfl,he,hS,hr⟩
  ·exact .inl h
  have hk':=λ n hn=>hk n (hS n hn).2.1 (hS n hn).1 (hS n hn).2.2
  refine .inr ⟨f,first,caps,S,rfl,he,λ n hn=>⟨λ hb=>(hS n hn).1 (hA _ (hS n hn).2.1 hb (hS n hn).2.2),lt' n (hS n hn).2.1 (hS n hn).1 (hS n hn).2.2,λ d hd=>(hS n hn).2.2 d ((hk' n hn).symm.trans hd)⟩,λ A2 w2 hG2 h2 hA2=>?_⟩
  exact hr A2 w2 hG2 (λ n hn=>(h2 n hn).trans (hk' n hn)) hA2
 |arr n t ih =>
  intro x l hs h;simp only[Cells]at h ⊢;exact ⟨h.1,h.2.1,λ i x hx=>ih hs (h.2.2 i x hx)⟩
 |nS t ih =>
  intro x l hs h;simp only[Ty.solid,and_eq_true,decide_eq_true_eq]at hs;simp only[Cells]at h ⊢;obtain ⟨p,c,rfl,h0,h4,h1,h2,h3⟩:=h;refine ⟨p,c,rfl,h0,h4,h1,h2,λ i x hx=>?_⟩
  obtain ⟨a,l',rfl,hsp,hn,hlt,hc,hl⟩:=h3 i x hx;have hd:=hc.notDef (by rw[hl.length];exact hs.1)
  exact ⟨a,l',rfl,hsp,λ hb=>hn (hA _ hlt hb hd),lt' _ hlt hn hd,hc.block (hk _ hlt hn hd),ih hs.2 hl⟩
 |map k v ihk ihv =>
  intro x l hs h;simp only[Ty.solid,and_eq_true]at hs;simp only[Cells]at h ⊢;rcases h with h|⟨r,ms,clock,rfl,hn,hr,hsz,he⟩
  ·exact .inl h
  have hd:y6q w r:=λ d hd=>by rw[hr]at hd;cases hd
  refine .inr ⟨r,ms,clock,rfl,λ hb=>hn (hA _ (yJ hr) hb hd),(hk r (yJ hr) hn hd).trans hr,hsz,λ i x hx=>?_⟩
  obtain ⟨e,lv,h1,h2,h3,h4⟩:=he i x hx;exact ⟨e,lv,h1,h2,ihv hs.2 h3,h4⟩
 |_=>intro x l _ h;exact h
end Go.Vx
end
section
namespace Go.Vx
open Go.RowKit
variable [GT]
def y21:(t:Ty)->t.den->Nat->(τ:Ty)->Option τ.den
 |t,x,off,τ=>if h:off=0/\t=τ then some (h.2 ▸ x)else
  match t,x with
  |.pair a b,p=>if off < a.size then y21 a p.1 off τ else y21 b p.2 (off - a.size) τ
  |_,_=>none
def y1F:(t:Ty)->t.den->Nat->(τ:Ty)->τ.den->Option t.den
 |t,x,off,τ,y=>if h:off=0/\τ=t then some (h.2 ▸ y)else
  match t,x with
  |.pair a b,p=>if off < a.size then (y1F a p.1 off τ y).map λ q=>(q,p.2)else (y1F b p.2 (off - a.size) τ y).map λ q=>(p.1,q)
  |_,_=>none
inductive Cap where
 | box (β:Nat)
 | val (t:Ty) (x:t.den)
structure LpInfo where
 ps:Array Tmp
 assign:Code
 body:Code
 keep:List (List Nat)
 mU:List Nat
 fz:List Nat
 lv:Option (List Nat):=none
 sep:List Nat:=[]
inductive Jump where
 | exit (id:Nat)
 | ret
 deriving DecidableEq
inductive LpSt where
 | ready
 | busy
 | done (j:Jump)
 | over
 deriving DecidableEq
def Jump.code:Jump->Code
 |.exit id=>.exit id
 |.ret=>.ret
def LpSt.state:LpSt->LoopState
 |.ready=>.ready
 |.busy=>.busy
 |.done _=>.done
 |.over=>.exhausted
def LpSt.pending:LpSt->Option Code
 |.done j=>some j.code
 |_=>none
def LpOK(info:LpInfo)(st:LpSt)(r:Loop):Prop:=r.params=info.ps/\r.assign=info.assign/\r.body=info.body/\r.state=st.state/\(st=.over\/r.pending=st.pending)
inductive SV where
 | undef
 | val (t:Ty) (x:t.den)
 | bP (β off:Nat)
 | own (β:Nat)
 | eP (β i sz off:Nat)
 | clo (f:FuncId) (caps:List Cap)
 | tup (t:Ty) (x:t.den)
 | xV (t:Ty) (x:t.den)
 | nils
 | mO (β:Nat)
 | yld (β:Nat)
 | mP (β e:Nat)
 | oS (β n sz:Nat)
 | gone
 | sR (β:Nat)
 | nO (β i:Nat)
 | nP (β i j sz off:Nat)
 | meth (f:FuncId) (β:Nat)
 | nilp
inductive Chunk where
 | box (t:Ty) (cells:List SV)
 | arr (e:TypeId) (t:Ty) (xs:List t.den) (nn:Bool)
 | mp (k v:Ty) (es:List (k.den×v.den))
 | it (bs:List UInt8) (q:Int)
 | lp (i:Nat) (info:LpInfo) (cells:List SV) (st:LpSt)
 | mps (k:Ty) (e:TypeId) (u:Ty) (es:List (k.den×List u.den)) (hole:Option (k.den×Nat))
 | rcd (t:Ty) (cells:List SV)
 | nst (e:TypeId) (t:Ty) (o:Nat) (e':TypeId) (u:Ty) (xs:List t.den)
noncomputable def yHh(l:List SV):Nat->SV:=
 List.rec (motive:=λ _=>Nat->SV) (λ _=>.undef) (λ a _ ih i=>Nat.rec (motive:=λ _=>SV) a (λ n _=>ih n) i) l
noncomputable def yKd(l:List SV):Nat->SV->List SV:=
 List.rec (motive:=λ _=>Nat->SV->List SV) (λ _ _=>[]) (λ a as ih i x=>Nat.rec (motive:=λ _=>List SV) (x::as) (λ n _=>a::ih n x) i) l
noncomputable def yHM(l:List SV):Nat->Bool:=
 List.rec (motive:=λ _=>Nat->Bool) (λ _=>false) (λ _ _ ih i=>Nat.rec (motive:=λ _=>Bool) true (λ n _=>ih n) i) l
noncomputable def yHY(l:List SV):Nat->List SV:=
 List.rec (motive:=λ _=>Nat->List SV) (λ _=>[]) (λ a _ ih i=>Nat.rec (motive:=λ _=>List SV) [] (λ n _=>a::ih n) i) l
noncomputable def yJn(l:List SV):Nat->List SV:=
 List.rec (motive:=λ _=>Nat->List SV) (λ _=>[]) (λ a as ih i=>Nat.rec (motive:=λ _=>List SV) (a::as) (λ n _=>ih n) i) l
noncomputable def yBk(l:List (List SV)):Nat->List SV:=
 List.rec (motive:=λ _=>Nat->List SV) (λ _=>[]) (λ a _ ih i=>Nat.rec (motive:=λ _=>List SV) a (λ n _=>ih n) i) l
noncomputable def yJm(l:List (List SV)):Nat->Nat->SV->List (List SV):=
 List.rec (motive:=λ _=>Nat->Nat->SV->List (List SV)) (λ _ _ _=>[]) (λ a as ih i j x=>Nat.rec (motive:=λ _=>List (List SV)) (yKd a j x::as) (λ n _=>a::ih n j x) i) l
noncomputable def y5W(f:List SV):List SV->List (List SV):=
 List.rec (motive:=λ _=>List SV->List (List SV)) (λ _=>[]) (λ _ _ ih l=>List.rec (motive:=λ _=>List (List SV)) [] (λ x r _=>yHY (x::r) 16::ih (yJn (x::r) 16)) l) f
omit [GT] in
theorem yBK:∀ (l:List SV) (i:Nat),yHh l i=l.getD i .undef
 |[],_=>rfl
 |_::_,0=>rfl
 |_::l,i+1=>(yBK l i).trans rfl
omit [GT] in
theorem yBP:∀ (l:List SV) (i:Nat) (x:SV),yKd l i x=l.set i x
 |[],_,_=>rfl
 |_::_,0,_=>rfl
 |a::l,i+1,x=>congrArg (a::·) (yBP l i x)
omit [GT] in
theorem yBJ:∀ (l:List SV) (i:Nat),yHM l i=decide (i < l.length)
 |[],i=>by simp[yHM]
 |a::l,0=>by
  show true=_
  simp
 |a::l,i+1=>(yBJ l i).trans (by simp)
omit [GT] in
theorem yCK:∀ (l:List SV) (i:Nat),yHY l i=l.take i
 |[],i=>by cases i<;>rfl
 |_::_,0=>rfl
 |a::l,i+1=>congrArg (a::·) (yCK l i)
omit [GT] in
theorem yBf:∀ (l:List SV) (i:Nat),yJn l i=l.drop i
 |[],i=>by cases i<;>rfl
 |_::_,0=>rfl
 |a::l,i+1=>yBf l i
def y0z:List (List SV)->Prop
 |[]=>True
 |[r]=>0 < r.length/\r.length<=16
 |r::q::rs=>r.length=16/\y0z (q::rs)
omit [GT] in
theorem y2W(a x:SV)(f r:List SV):y5W (a::f) (x::r)=(x::r).take 16::y5W f ((x::r).drop 16):=by
 show yHY (x::r) 16::y5W f (yJn (x::r) 16)=_
 rw[yCK,yBf]
omit [GT] in
theorem y3F(f:List SV):y5W f []=[]:=by cases f<;>rfl
omit [GT] in
theorem y50:∀ (f l:List SV),l.length<=f.length->(y5W f l).flatten=l
 |f,[],_=>by rw[y3F];rfl
 |[],x::r,h=>by simp at h
 |a::f,x::r,h=>by
  rw[y2W,flatten_cons,y50 f _ (by simp at h ⊢;omega),List.take_append_drop]
omit [GT] in
theorem yC0:∀ (f l:List SV),l.length<=f.length->y0z (y5W f l)
 |f,[],_=>by rw[y3F];trivial
 |[],x::r,h=>by simp at h
 |a::f,x::r,h=>by
  rw[y2W];have ih:=yC0 f ((x::r).drop 16) (by simp at h ⊢;omega)
  cases hd:(x::r).drop 16 with
  |nil =>
   rw[y3F];have:=List.drop_eq_nil_iff.1 hd;refine ⟨by simp,by rw[List.length_take];exact Nat.min_le_left _ _⟩
  |cons y q =>
   have hl:16 < (x::r).length:=by
    have:=congrArg List.length hd;simp only[List.length_drop,List.length_cons]at this ⊢;omega
   rw[hd]at ih;cases f with
   |nil=>simp only[List.length_cons,List.length_nil]at h hl;omega
   |cons b f =>
    rw[y2W]at ih ⊢;exact ⟨by rw[List.length_take];exact Nat.min_eq_left (Nat.le_of_lt hl),ih⟩
omit [GT] in
theorem y0z.uniq:∀ {rows:List (List SV)},y0z rows->∀ f:List SV,rows.flatten.length<=f.length->y5W f rows.flatten=rows
 |[],_,f,_=>y3F f
 |[r],h,f,hf=>by
  obtain ⟨h1,h2⟩:=h;rw[show [r].flatten=r by simp]at hf ⊢
  cases r with
  |nil=>simp at h1
  |cons x r =>
   cases f with
   |nil=>simp at hf
   |cons a f=>rw[y2W,List.take_of_length_le h2,List.drop_eq_nil_of_le h2,y3F]
 |r::q::rs,h,f,hf=>by
  obtain ⟨h1,h2⟩:=h;have ih:=y0z.uniq h2;rw[flatten_cons]at hf ⊢;generalize (q::rs).flatten=L at ih hf ⊢;cases r with
  |nil=>simp at h1
  |cons x r =>
   cases f with
   |nil=>simp at hf
   |cons a f =>
    rw[List.cons_append,y2W,<- List.cons_append,List.take_append_of_le_length (by omega),List.take_of_length_le (by omega),List.drop_append_of_le_length (by omega),List.drop_eq_nil_of_le (by omega),List.nil_append,
     ih f (by simp only[List.length_append,List.length_cons]at hf h1;omega)]
omit [GT] in
theorem y0z.get:∀ {rows:List (List SV)},y0z rows->∀ i,yHh (yBk rows (i / 16)) (i % 16)=rows.flatten.getD i .undef
 |[],_,i=>by rw[yBK];simp[yBk]
 |r::rs,h,i=>by
  have hr:r.length<=16/\(rs≠[]->r.length=16)/\y0z rs:=by
   cases rs with
   |nil=>exact ⟨h.2,λ h=>absurd rfl h,trivial⟩
   |cons q rs=>exact ⟨Nat.le_of_eq h.1,λ _=>h.1,h.2⟩
  rw[flatten_cons];rcases lt_or_ge i 16 with hi|hi
  ·rw[Nat.div_eq_of_lt hi,Nat.mod_eq_of_lt hi];show yHh r i=_
   rw[yBK,List.getD_eq_getElem?_getD,List.getD_eq_getElem?_getD];rcases lt_or_ge i r.length with hl|hl
   ·rw[List.getElem?_append_left hl]
   ·have:rs=[]:=Classical.byContradiction λ hn=>by have:=hr.2.1 hn;omega
    subst this;simp
  ·obtain ⟨j,rfl⟩:∃ j,i=j+16:=⟨i - 16,by omega⟩
   rw[show (j+16) / 16=j / 16+1 by omega,show (j+16) % 16=j % 16 by omega]
   show yHh (yBk rs (j / 16)) (j % 16)=_
   rw[y0z.get hr.2.2 j,List.getD_eq_getElem?_getD,List.getD_eq_getElem?_getD];by_cases hn:rs=[]
   ·subst hn;rw[getElem?_eq_none (by simp),getElem?_eq_none (by simp;omega)]
   ·rw[List.getElem?_append_right (by have:=hr.2.1 hn;omega),hr.2.1 hn,Nat.add_sub_cancel]
omit [GT] in
theorem y0z.has:∀ {rows:List (List SV)},y0z rows->∀ i,yHM (yBk rows (i / 16)) (i % 16)=decide (i < rows.flatten.length)
 |[],_,i=>by rw[yBJ];simp[yBk]
 |r::rs,h,i=>by
  have hr:r.length<=16/\(rs≠[]->r.length=16)/\y0z rs:=by
   cases rs with
   |nil=>exact ⟨h.2,λ h=>absurd rfl h,trivial⟩
   |cons q rs=>exact ⟨Nat.le_of_eq h.1,λ _=>h.1,h.2⟩
  rw[flatten_cons,List.length_append];rcases lt_or_ge i 16 with hi|hi
  ·rw[Nat.div_eq_of_lt hi,Nat.mod_eq_of_lt hi];show yHM r i=_
   rw[yBJ];by_cases hn:rs=[]
   ·subst hn;simp
   ·have:=hr.2.1 hn;rw[decide_eq_true (by omega),decide_eq_true (by omega)]
  ·obtain ⟨j,rfl⟩:∃ j,i=j+16:=⟨i - 16,by omega⟩
   rw[show (j+16) / 16=j / 16+1 by omega,show (j+16) % 16=j % 16 by omega]
   show yHM (yBk rs (j / 16)) (j % 16)=_
   rw[y0z.has hr.2.2 j];by_cases hn:rs=[]
   ·subst hn;rw[decide_eq_false (by simp),decide_eq_false (by simp;omega)]
   ·have:=hr.2.1 hn;congr 1
    rw[this];apply propext;omega
omit [GT] in
theorem y0z.same:∀ {rows rows':List (List SV)},y0z rows->rows'.map List.length=rows.map List.length->y0z rows'
 |[],[],_,_=>trivial
 |[],_::_,_,h=>by simp at h
 |_::_,[],_,h=>by simp at h
 |[r],[r'],h,he=>by
  simp only[map_cons,List.map_nil,List.cons.injEq,and_true]at he;exact ⟨he ▸ h.1,he ▸ h.2⟩
 |[r],_::_::_,_,h=>by simp at h
 |_::_::_,[r],_,h=>by simp at h
 |r::q::rs,r'::q'::rs',h,he=>by
  simp only[map_cons,List.cons.injEq]at he;exact ⟨he.1 ▸ h.1,y0z.same h.2 (by simp only[map_cons,he.2.1,he.2.2])⟩
omit [GT] in
theorem y5R:∀ (rows:List (List SV)) (i j:Nat) (x:SV),(yJm rows i j x).map List.length=rows.map List.length
 |[],_,_,_=>rfl
 |r::rs,0,j,x=>by
  show (yKd r j x::rs).map List.length=_
  rw[yBP];simp
 |r::rs,i+1,j,x=>by
  show (r::yJm rs i j x).map List.length=_
  rw[map_cons,y5R rs i j x];rfl
omit [GT] in
theorem y0z.set:∀ {rows:List (List SV)},y0z rows->∀ i x,(yJm rows (i / 16) (i % 16) x).flatten=rows.flatten.set i x
 |[],_,i,x=>rfl
 |r::rs,h,i,x=>by
  have hr:r.length<=16/\(rs≠[]->r.length=16)/\y0z rs:=by
   cases rs with
   |nil=>exact ⟨h.2,λ h=>absurd rfl h,trivial⟩
   |cons q rs=>exact ⟨Nat.le_of_eq h.1,λ _=>h.1,h.2⟩
  rcases lt_or_ge i 16 with hi|hi
  ·rw[Nat.div_eq_of_lt hi,Nat.mod_eq_of_lt hi];show (yKd r i x::rs).flatten=_
   rw[yBP,flatten_cons,flatten_cons];by_cases hn:rs=[]
   ·subst hn;simp
   ·rw[List.set_append_left _ _ (by have:=hr.2.1 hn;omega)]
  ·obtain ⟨j,rfl⟩:∃ j,i=j+16:=⟨i - 16,by omega⟩
   rw[show (j+16) / 16=j / 16+1 by omega,show (j+16) % 16=j % 16 by omega]
   show (r::yJm rs (j / 16) (j % 16) x).flatten=_
   rw[flatten_cons,y0z.set hr.2.2 j x,flatten_cons];by_cases hn:rs=[]
   ·subst hn;rw[List.set_eq_of_length_le (by simp),List.set_eq_of_length_le (by simp;omega)]
   ·rw[List.set_append_right _ _ (by have:=hr.2.1 hn;omega),hr.2.1 hn,Nat.add_sub_cancel]
omit [GT] in
theorem y7A(f:SV->SV)(rows:List (List SV)):(rows.map (List.map f)).map List.length=rows.map List.length:=by
 rw[List.map_map];refine List.map_congr_left λ r _=>?_
 simp
structure Slots where
 rows:List (List SV)
 ok:y0z rows
def Slots.toList(t:Slots):List SV:=t.rows.flatten
noncomputable def Slots.ofList(l:List SV):Slots:=⟨y5W l l,yC0 l l (le_refl _)⟩
noncomputable def Slots.get(t:Slots)(i:Nat):SV:=yHh (yBk t.rows (i / 16)) (i % 16)
noncomputable def Slots.has(t:Slots)(i:Nat):Bool:=yHM (yBk t.rows (i / 16)) (i % 16)
noncomputable def Slots.set(t:Slots)(i:Nat)(x:SV):Slots:=⟨yJm t.rows (i / 16) (i % 16) x,t.ok.same (y5R ..)⟩
def Slots.map(f:SV->SV)(t:Slots):Slots:=⟨t.rows.map (List.map f),t.ok.same (y7A ..)⟩
omit [GT] in
theorem Slots.toList_ofList(l:List SV):(Slots.ofList l).toList=l:=y50 l l (le_refl _)
omit [GT] in
theorem Slots.ofList_toList(t:Slots):Slots.ofList t.toList=t:=by
 obtain ⟨rows,h⟩:=t;have:y5W rows.flatten rows.flatten=rows:=h.uniq _ (le_refl _);unfold Slots.ofList Slots.toList;simp only[this]
omit [GT] in
theorem Slots.ext_list{t u:Slots}(h:t.toList=u.toList):t=u:=by rw[<- t.ofList_toList,<- u.ofList_toList,h]
omit [GT] in
theorem Slots.get_eq(t:Slots)(i:Nat):t.get i=t.toList.getD i .undef:=t.ok.get i
omit [GT] in
theorem Slots.has_eq(t:Slots)(i:Nat):t.has i=decide (i < t.toList.length):=t.ok.has i
omit [GT] in
theorem Slots.toList_set(t:Slots)(i:Nat)(x:SV):(t.set i x).toList=t.toList.set i x:=t.ok.set i x
omit [GT] in
theorem Slots.toList_map(t:Slots)(f:SV->SV):(t.map f).toList=t.toList.map f:=by
 show (t.rows.map (List.map f)).flatten=t.rows.flatten.map f
 rw[List.map_flatten]
structure St where
 sl:Slots
 cH:List (Option Chunk)
 kept:List SV:=[]
 dep:Nat:=0
 nmk:Nat:=0
 rnd:Bool:=false
def St.slots(s:St):List SV:=s.sl.toList
structure Base where
 w:World
 ext:List Value
 infos:List LpInfo:=[]
 ro:Option Nat:=none
 marks:List Nat:=[]
 rounds:List Nat:=[]
noncomputable def St.get(s:St)(i:Nat):SV:=s.sl.get i
noncomputable def St.put(s:St)(d:Option Nat)(x:SV):St:=match d with|some i=>{ s with sl:=s.sl.set i x }|none=>s
omit [GT] in
theorem St.get_def(s:St)(i:Nat):s.get i=s.slots.getD i .undef:=Slots.get_eq _ _
omit [GT] in
theorem St.put_slots(s:St)(i:Nat)(x:SV):(s.put (some i) x).slots=s.slots.set i x:=Slots.toList_set _ _ _
omit [GT] in
theorem St.slots_of(l:List SV)(c:List (Option Chunk))(k:List SV)(d n:Nat)(b:Bool):({ sl:=.ofList l,cH:=c,kept:=k,dep:=d,nmk:=n,rnd:=b }:St).slots=l:=Slots.toList_ofList l
omit [GT] in
theorem St.put_none(s:St)(x:SV):s.put none x=s:=rfl
structure Place where
 blk:Option Nat
 len:Nat
 cap:Nat
 subs:List (Option Nat):=[]
 vals:List Value:=[]
 ns:List (Option Nat×Nat×Nat):=[]
abbrev Places:=Nat->Place
def Sub(ρ:Places)(cs:List (Option Chunk))(n:Nat):Prop:=∃ β ch,cs[β]?=some (some ch)/\some n∈(ρ β).subs
def Av(A0:Nat->Prop)(ρ:Places)(cs:List (Option Chunk)):Nat->Prop:=
 λ n=>(A0 n\/Sub ρ cs n)\/∃ β ch,cs[β]?=some (some ch)/\(ρ β).blk=some n
def Chunk.isM:Chunk->Bool
 |.mps _ _ _ _ _=>true
 |.nst _ _ _ _ _ _=>true
 |_=>false
structure SubOK (m:Nat) (ρ:Places) (cs:List (Option Chunk)):Prop where
 plain:∀ (β:Nat) (ch:Chunk),cs[β]?=some (some ch)->ch.isM=false->(ρ β).subs=[]
 base:∀ (β:Nat) (ch:Chunk) (n:Nat),cs[β]?=some (some ch)->some n∈(ρ β).subs->m<=n
 apart:∀ (β γ:Nat) (c d:Chunk) (n:Nat),cs[β]?=some (some c)->cs[γ]?=some (some d)->some n∈(ρ β).subs->(ρ γ).blk≠some n
 one:∀ (β γ:Nat) (c d:Chunk) (n:Nat),cs[β]?=some (some c)->cs[γ]?=some (some d)->some n∈(ρ β).subs->some n∈(ρ γ).subs->β=γ
omit [GT] in
theorem SubOK.sub{m:Nat}{ρ:Places}{cs cs':List (Option Chunk)}(h:SubOK m ρ cs)(hs:∀ (γ:Nat) (c:Chunk),cs'[γ]?=some (some c)->∃ c',cs[γ]?=some (some c')/\(c.isM=false->c'.isM=false)):SubOK m ρ cs':=by
 refine ⟨λ β c hb hm=>?_,λ β c n hb hn=>?_,λ β γ c d n hb hg hn=>?_,λ β γ c d n hb hg hn hm=>?_⟩
 ·obtain ⟨c',h1,h2⟩:=hs β c hb;exact h.plain β c' h1 (h2 hm)
 ·obtain ⟨c',h1,h2⟩:=hs β c hb;exact h.base β c' n h1 hn
 ·obtain ⟨c',h1,_⟩:=hs β c hb;obtain ⟨d',h2,_⟩:=hs γ d hg;exact h.apart β γ c' d' n h1 h2 hn
 ·obtain ⟨c',h1,_⟩:=hs β c hb;obtain ⟨d',h2,_⟩:=hs γ d hg;exact h.one β γ c' d' n h1 h2 hn hm
def yBa(P:Program)(A:Nat->Prop)(w:World)(ρ:Places):Cap->Value->Prop
 |.box β,v=>∃ b,(ρ β).blk=some b/\v=.pointer (some ⟨b,0,none⟩)
 |.val t x,v=>∃ l,Cells P t A w x l/\v=t.wrap l
def yY(P:Program)(A:Nat->Prop)(w:World)(ρ:Places):List Cap->List Value->Prop
 |[],[]=>True
 |c::cs,v::vs=>yBa P A w ρ c v/\yY P A w ρ cs vs
 |_,_=>False
def yBt(l:List Value):Prop:=∀ p n c,Value.slice p n c∈l->c=n
def recV(n:Nat)(l:List Value):Value:=if n=0 then .agg l.toArray else .tuple l.toArray
def yD(P:Program)(A:Nat->Prop)(w:World)(ρ:Places):SV->Value->Prop
 |.undef,_=>True
 |.val t x,v=>∃ l,Cells P t A w x l/\v=t.wrap l
 |.bP β off,v=>∃ b,(ρ β).blk=some b/\v=.pointer (some ⟨b,off,none⟩)
 |.own β,v=>v=.slice ((ρ β).blk.map λ b=>⟨b,0,none⟩) (ρ β).len (ρ β).cap
 |.eP β i sz off,v=>∃ b,(ρ β).blk=some b/\v=.pointer (some ⟨b,i * sz+off,none⟩)
 |.clo f caps,v=>∃ vs,v=.func (.func f) #[] vs.toArray/\yY P A w ρ caps vs
 |.tup t x,v=>∃ l,Cells P t A w x l/\v=.tuple (t.group l).toArray
 |.xV t x,v=>∃ l,Cells P t A w x l/\v=t.wrap l/\yBt l
 |.nils,v=>v=.slice none 0 0
 |.nilp,v=>v=.pointer none
 |.gone,v=>v=undef
 |.mO β,v=>v=.map (ρ β).blk
 |.yld β,v=>∃ b,(ρ β).blk=some b/\v=.func (.yield b) #[] #[]
 |.oS β n sz,v=>v=.slice (if (ρ β).cap=n then (ρ β).blk.map λ b=>⟨b,0,none⟩else (ρ β).blk.map λ b=>⟨b,n * sz,none⟩) ((ρ β).len - n) ((ρ β).cap - n)
 |.mP β e,v=>(ρ β).len=e/\∃ b,(ρ β).blk=some b/\(v=.pointer none\/v=.pointer (some ⟨b,0,none⟩))
 |.sR β,v=>v=recV (ρ β).len (ρ β).vals
 |.nO β i,v=>∃ q,(ρ β).ns[i]?=some q/\v=.slice (q.1.map λ b=>⟨b,0,none⟩) q.2.1 q.2.2
 |.meth f β,v=>∃ b,(ρ β).blk=some b/\v=.func (.func f) #[.pointer (some ⟨b,0,none⟩)] #[]
 |.nP β i j sz off,v=>∃ q b,(ρ β).ns[i]?=some q/\q.1=some b/\v=.pointer (some ⟨b,j * sz+off,none⟩)
def y2i(P:Program)(A:Nat->Prop)(w:World)(e:TypeId)(u:Ty)(xs:List u.den)(o:Option Nat)(v:Value):Prop:=
 ∃ cap:Nat,v=.slice (o.map λ b=>⟨b,0,none⟩) xs.length cap/\((o=none/\xs.length=0/\cap=0)\/∃ (n:Nat) (vs:Array Value),o=some n/\w.heap[n]?=some (.cells vs e (0,0))/\xs.length<=cap/\cap<=maxLen/\vs.size=cap * u.size /\
  ∀ (i:Nat) (x:u.den),xs[i]?=some x->Cells P u A w x ((vs.toList.drop (i * u.size)).take u.size))
def yGf:(t:Ty)->t.den->t.den->Bool
 |.bool,x,y=>(show Bool from x) == y
 |.int _,x,y=>(show Int from x) == y
 |.str,x,y=>(show List UInt8 from x) == y
 |_,_,_=>false
def yGL(k:Ty)(hole:Option (k.den×Nat))(x:k.den):Bool:=match hole with|some q=>yGf k q.1 x|none=>false
def NRel(P:Program)(A:Nat->Prop)(w:World)(t:Ty)(o:Nat)(e':TypeId)(u:Ty)(x:t.den)(l:List Value)(q:Option Nat×Nat×Nat):Prop:=
 ∃ (x0:t.den) (l0:List Value) (ys:List u.den),Cells P t A w x0 l0/\y1F t x0 o (.slice u) ys=some x/\l=l0.set o (.slice (q.1.map λ b=>⟨b,0,none⟩) q.2.1 q.2.2)/\q.2.1=ys.length/\y2i P A w e' u ys q.1 (.slice (q.1.map λ b=>⟨b,0,none⟩) q.2.1 q.2.2)
def yC(P:Program)(A:Nat->Prop)(w:World)(ρ:Places)(p:Place):Chunk->Prop
  |.box _ cells=>∃ (b:Nat) (vs:Array Value) (e:TypeId),p.blk=some b/\w.heap[b]?=some (.cells vs e (0,0))/\(vs.size=cells.length/\p.len=e)/\∀ (i:Nat) (sv:SV),cells[i]?=some sv->∃ v,vs[i]?=some v/\yD P A w ρ sv v
  |.arr e t xs nn=>xs.length=p.len/\(nn=true->p.blk≠none)/\((p.blk=none/\p.len=0/\p.cap=0)\/∃ (b:Nat) (vs:Array Value),p.blk=some b/\w.heap[b]?=some (.cells vs e (0,0))/\p.len<=p.cap/\p.cap<=maxLen/\vs.size=p.cap * t.size /\
      ∀ (i:Nat) (x:t.den),xs[i]?=some x->Cells P t A w x ((vs.toList.drop (i * t.size)).take t.size))
  |.mp k v es=>∃ (b:Nat) (ms:Array MapEntry) (clock:Nat),p.blk=some b/\w.heap[b]?=some (.map ms clock)/\ms.size=es.length /\
      ∀ (i:Nat) (x:k.den×v.den),es[i]?=some x->∃ (e:MapEntry) (lv:List Value),ms[i]?=some e/\e.key=yg k x.1/\Cells P v A w x.2 lv/\e.val=v.wrap lv
  |.it bs q=>∃ b n:Nat,p.blk=some b/\w.heap[b]?=some (.stringIter ⟨bs.toArray⟩ n)/\q=(n:Int)
  |.lp _ info cells st=>∃ (b:Nat) (r:Loop),p.blk=some b/\w.heap[b]?=some (.loop r)/\LpOK info st r/\r.tmps.size=cells.length/\∀ (i:Nat) (sv:SV),cells[i]?=some sv->∃ v,r.tmps[i]?=some v/\yD P A w ρ sv v
  |.mps k e u es hole=>∃ (b:Nat) (ms:Array MapEntry) (clock:Nat),p.blk=some b/\w.heap[b]?=some (.map ms clock)/\(ms.size=es.length/\p.subs.length=es.length) /\
      (((∀ i j n:Nat,p.subs[i]?=some (some n)->p.subs[j]?=some (some n)->i=j)/\∀ (i j:Nat) (x y:k.den×List u.den),es[i]?=some x->es[j]?=some y->yGf k x.1 y.1=true->i=j)/\∀ (q:k.den×Nat),hole=some q->(∀ x∈es,yGL k hole x.1=false)->(ρ q.2).blk=none/\(ρ q.2).len=0/\(ρ q.2).cap=0) /\
      ∀ (i:Nat) (x:k.den×List u.den),es[i]?=some x->∃ (en:MapEntry) (o:Option Nat),ms[i]?=some en/\p.subs[i]?=some o/\en.key=yg k x.1 /\
        ((∃ q,hole=some q/\yGL k hole x.1=true/\o=none/\en.val=.slice ((ρ q.2).blk.map λ b=>⟨b,0,none⟩) (ρ q.2).len (ρ q.2).cap) \/
         (yGL k hole x.1=false/\y2i P A w e u x.2 o en.val))
  |.rcd t cells=>p.blk=none/\(t.agg=true/\p.len=0\/t=.bool/\p.len=1/\2<=cells.length)/\p.vals.length=cells.length/\∀ (i:Nat) (sv:SV),cells[i]?=some sv->∃ v,p.vals[i]?=some v/\yD P A w ρ sv v
  |.nst e t o e' u xs=>(xs.length=p.len/\p.subs=p.ns.map (·.1)/\p.ns.length=xs.length)/\(∀ i j n:Nat,p.subs[i]?=some (some n)->p.subs[j]?=some (some n)->i=j) /\
      ((p.blk=none/\p.len=0/\p.cap=0)\/∃ (b:Nat) (vs:Array Value),p.blk=some b/\w.heap[b]?=some (.cells vs e (0,0))/\p.len<=p.cap/\p.cap<=maxLen/\vs.size=p.cap * t.size /\
        ∀ (i:Nat) (x:t.den),xs[i]?=some x->∃ q,p.ns[i]?=some q/\NRel P A w t o e' u x ((vs.toList.drop (i * t.size)).take t.size) q)
def y0O(n:Nat):List Cap->Prop
 |[]=>True
 |.box β::cs=>β < n/\y0O n cs
 |.val _ _::cs=>y0O n cs
def SV.inn(n:Nat):SV->Prop
 |.bP β _|.own β|.eP β _ _ _|.mO β|.yld β|.mP β _|.oS β _ _|.sR β|.nO β _|.nP β _ _ _ _|.meth _ β=>β < n
 |.clo _ caps=>y0O n caps
 |_=>True
def Chunk.inn(n:Nat):Chunk->Prop
 |.box _ cells=>∀ sv∈cells,sv.inn n
 |.lp _ _ cells _=>∀ sv∈cells,sv.inn n
 |.rcd _ cells=>∀ sv∈cells,sv.inn n
 |.arr _ _ _ _|.mp _ _ _|.it _ _|.nst _ _ _ _ _ _=>True
 |.mps _ _ _ _ hole=>∀ q,hole=some q->q.2 < n
def Chunk.lpNo:Chunk->Option (Nat×LpInfo)
 |.lp i info _ _=>some (i,info)
 |_=>none
def markD(r:Nat):Deferred:={ target:=.collected r,args:=#[] }
structure Rel (P:Program) (A0:Nat->Prop) (w0:Base) (ρ:Places) (s:St) (a:Act) (w:World):Prop where
 size:s.slots.length=a.tmps.size
 slots:∀ (i:Nat) (sv:SV),s.slots[i]?=some sv->yD P (Av A0 ρ s.cH) w ρ sv (a.tmps.getD i undef)
 cH:∀ (β:Nat) (ch:Chunk),s.cH[β]?=some (some ch)->yC P (Av A0 ρ s.cH) w ρ (ρ β) ch/\∀ b,(ρ β).blk=some b->w0.w.heap.size<=b
 inj:∀ (β γ:Nat) (c d:Chunk),s.cH[β]?=some (some c)->s.cH[γ]?=some (some d)->(ρ β).blk=(ρ γ).blk->(ρ β).blk≠none->β=γ
 names:∀ (i:Nat) (sv:SV),s.slots[i]?=some sv->sv.inn s.cH.length
 cN:∀ (β:Nat) (ch:Chunk),s.cH[β]?=some (some ch)->ch.inn s.cH.length
 below:Below w0.w.heap.size w0.w w
 dom:∀ n,A0 n->n < w0.w.heap.size
 defers:∃ ms:List Nat,(a.defers=ms.map markD/\(s.nmk=0->ms=[])/\(ms++w0.marks).Nodup)/\∀ r,r∈ms\/r∈w0.marks->w.heap[r]?=some (.deferred (some []))/\w0.w.heap.size<=r
 dep:s.dep=w0.infos.length/\s.rnd=w0.ro.isSome
 lpi:∀ (β:Nat) (ch:Chunk) (q:Nat×LpInfo),s.cH[β]?=some (some ch)->ch.lpNo=some q->w0.infos[q.1]?=some q.2
 round:∀ l,w0.ro=some l\/l∈w0.rounds->∃ r:Loop,w.heap[l]?=some (.loop r)
 glob:GlobOK A0 w0.w
 kZ:s.kept.length=w0.ext.length
 kS:∀ (i:Nat) (sv:SV),s.kept[i]?=some sv->yD P (Av A0 ρ s.cH) w ρ sv (w0.ext.getD i undef)
 kN:∀ (i:Nat) (sv:SV),s.kept[i]?=some sv->sv.inn s.cH.length
 subs:SubOK w0.w.heap.size ρ s.cH
section
variable {P:Program} {A0:Nat->Prop} {w0:Base} {ρ:Places} {s:St} {a:Act} {w w':World}
theorem yY.mono{A A':Nat->Prop}:∀ {cs:List Cap} {vs:List Value},yY P A w ρ cs vs->Keep A w w'->(∀ n,n < w.heap.size->A' n->A n)->yY P A' w' ρ cs vs
 |[],[],_,_,_=>trivial
 |[],_::_,h,_,_=>h
 |_::_,[],h,_,_=>h
 |c::cs,v::vs,h,hk,hA=>by
  refine ⟨?_,yY.mono h.2 hk hA⟩;have h1:=h.1;cases c with
  |box β=>exact h1
  |val t x=>obtain ⟨l,hl,e⟩:=h1;exact ⟨l,hl.mono hk hA,e⟩
theorem yD.mono{A A':Nat->Prop}{sv:SV}{v:Value}(h:yD P A w ρ sv v)(hk:Keep A w w')(hA:∀ n,n < w.heap.size->A' n->A n):yD P A' w' ρ sv v:=by
 cases sv with
 |val t x=>obtain ⟨l,hl,e⟩:=h;exact ⟨l,hl.mono hk hA,e⟩
 |tup t x=>obtain ⟨l,hl,e⟩:=h;exact ⟨l,hl.mono hk hA,e⟩
 |xV t x=>obtain ⟨l,hl,e⟩:=h;exact ⟨l,hl.mono hk hA,e⟩
 |clo f caps=>obtain ⟨vs,e,hc⟩:=h;exact ⟨vs,e,hc.mono hk hA⟩
 |_=>exact h
theorem Rel.get(h:Rel P A0 w0 ρ s a w)(i:Nat):yD P (Av A0 ρ s.cH) w ρ (s.get i) (a.eval (.tmp i)):=by
 rw[St.get_def];unfold Act.eval;rcases hi:s.slots[i]? with _|sv
 ·simp[List.getD,hi,yD]
 ·have:=h.slots i sv hi;simpa[List.getD,hi]using this
theorem Rel.put(h:Rel P A0 w0 ρ s a w){sv:SV}{v:Value}(d:Option Nat)(hn:sv.inn s.cH.length)(hv:yD P (Av A0 ρ s.cH) w ρ sv v):Rel P A0 w0 ρ (s.put d sv) (a.put d v) w:=by
 cases d with
 |none=>exact h
 |some d =>
  refine ⟨by simp[St.put_slots,Act.put,h.size],λ i x hi=>?_,h.cH,h.inj,λ i x hi=>?_,h.cN,h.below,h.dom,h.defers,h.dep,h.lpi,h.round,h.glob,h.kZ,h.kS,h.kN,h.subs⟩
  case refine_2 =>
   rw[St.put_slots]at hi;by_cases hd:d=i
   ·subst hd;rcases lt_or_ge d s.slots.length with hl|hl
    ·rw[getElem?_set_self hl]at hi;cases hi;exact hn
    ·rw[getElem?_eq_none (by simpa using hl)]at hi;cases hi
   ·rw[getElem?_set_ne hd]at hi;exact h.names i x hi
  rw[St.put_slots]at hi;show yD P (Av A0 ρ s.cH) w ρ x _
  simp only[Act.put];by_cases hd:d=i
  ·subst hd;have hlt:d < s.slots.length:=by
    rcases lt_or_ge d s.slots.length with h|h
    ·exact h
    ·rw[getElem?_eq_none (by simpa using h)]at hi;cases hi
   rw[getElem?_set_self hlt]at hi;cases hi;have:d < a.tmps.size:=h.size ▸ hlt;simpa[Array.getD_eq_getD_getElem?,Array.getElem?_setIfInBounds,this]using hv
  ·rw[getElem?_set_ne hd]at hi;have:=h.slots i x hi;simpa[Array.getD_eq_getD_getElem?,Array.getElem?_setIfInBounds_ne hd]using this
theorem y2i.frame{A A':Nat->Prop}{e:TypeId}{u:Ty}{xs:List u.den}{o:Option Nat}{v:Value}(h:y2i P A w e u xs o v)(hs:∀ n,o=some n->n < w.heap.size->w'.heap[n]?=w.heap[n]?)(hK:Keep A w w')(hA:∀ n,n < w.heap.size->A' n->A n):y2i P A' w' e u xs o v:=by
 obtain ⟨cap,h1,h⟩:=h;refine ⟨cap,h1,?_⟩;rcases h with h|⟨n,vs,ho,h2,h3,h4,h5,h6⟩
 ·exact .inl h
 ·exact .inr ⟨n,vs,ho,(hs n ho (yJ h2)).trans h2,h3,h4,h5,λ i x hi=>(h6 i x hi).mono hK hA⟩
theorem NRel.frame{A A':Nat->Prop}{t u:Ty}{o:Nat}{e':TypeId}{x:t.den}{l:List Value}{q:Option Nat×Nat×Nat}(h:NRel P A w t o e' u x l q)(hs:∀ n,q.1=some n->n < w.heap.size->w'.heap[n]?=w.heap[n]?)(hK:Keep A w w')(hA:∀ n,n < w.heap.size->A' n->A n):NRel P A' w' t o e' u x l q:=by
 obtain ⟨x0,l0,ys,h1,h2,h3,h4,h5⟩:=h;exact ⟨x0,l0,ys,h1.mono hK hA,h2,h3,h4,h5.frame hs hK hA⟩
theorem yC.frame{A A':Nat->Prop}{p:Place}{ch:Chunk}(h:yC P A w ρ p ch)(hp:∀ n,p.blk=some n->n < w.heap.size->w'.heap[n]?=w.heap[n]?)(hs:∀ n,some n∈p.subs->n < w.heap.size->w'.heap[n]?=w.heap[n]?)(hK:Keep A w w')(hA:∀ n,n < w.heap.size->A' n->A n):yC P A' w' ρ p ch:=by
 cases ch with
 |box t cells =>
  obtain ⟨b,vs,e,hb,h1,h2,h3⟩:=h;exact ⟨b,vs,e,hb,(hp _ hb (yJ h1)).trans h1,h2,λ i sv hi=>let ⟨v,hv,hr⟩:=h3 i sv hi;⟨v,hv,hr.mono hK hA⟩⟩
 |arr e t xs nn =>
  obtain ⟨h2,hn,h⟩:=h;refine ⟨h2,hn,?_⟩;rcases h with h|⟨b,vs,hb,h1,h3,h4,h5,h6⟩
  ·exact .inl h
  ·exact .inr ⟨b,vs,hb,(hp _ hb (yJ h1)).trans h1,h3,h4,h5,λ i x hi=>(h6 i x hi).mono hK hA⟩
 |mp k v es =>
  obtain ⟨b,ms,c,hb,h1,h2,h3⟩:=h;refine ⟨b,ms,c,hb,(hp _ hb (yJ h1)).trans h1,h2,λ i x hi=>?_⟩
  obtain ⟨e,lv,h4,h5,h6,h7⟩:=h3 i x hi;exact ⟨e,lv,h4,h5,h6.mono hK hA,h7⟩
 |it bs q =>
  obtain ⟨b,n,hb,h1,h2⟩:=h;exact ⟨b,n,hb,(hp _ hb (yJ h1)).trans h1,h2⟩
 |lp i info cells st =>
  obtain ⟨b,r,hb,h1,h2,h3,h4⟩:=h;exact ⟨b,r,hb,(hp _ hb (yJ h1)).trans h1,h2,h3,λ i sv hi=>let ⟨v,hv,hr⟩:=h4 i sv hi;⟨v,hv,hr.mono hK hA⟩⟩
 |mps k e u es hole =>
  obtain ⟨b,ms,c,hb,h1,h2,h3,h4⟩:=h;refine ⟨b,ms,c,hb,(hp _ hb (yJ h1)).trans h1,h2,h3,λ i x hi=>?_⟩
  obtain ⟨en,o,h5,h6,h7,h8⟩:=h4 i x hi;refine ⟨en,o,h5,h6,h7,?_⟩;rcases h8 with h8|⟨h8,h9⟩
  ·exact .inl h8
  ·exact .inr ⟨h8,h9.frame (λ n hn=>hs n (hn ▸ mem_of_getElem? h6)) hK hA⟩
 |rcd t cells =>
  obtain ⟨h1,h2,h3,h4⟩:=h;exact ⟨h1,h2,h3,λ i sv hi=>let ⟨v,hv,hr⟩:=h4 i sv hi;⟨v,hv,hr.mono hK hA⟩⟩
 |nst e t o e' u xs =>
  obtain ⟨h1,h2,h3⟩:=h;refine ⟨h1,h2,?_⟩;rcases h3 with h3|⟨b,vs,hb,h4,h5,h6,h7,h8⟩
  ·exact .inl h3
  ·refine .inr ⟨b,vs,hb,(hp _ hb (yJ h4)).trans h4,h5,h6,h7,λ i x hi=>?_⟩
   obtain ⟨q,h9,h10⟩:=h8 i x hi;refine ⟨q,h9,h10.frame (λ n hn=>hs n ?_) hK hA⟩
   rw[h1.2.1,<- hn];exact List.mem_map.2 ⟨q,mem_of_getElem? h9,rfl⟩
theorem yC.noHole{A:Nat->Prop}{ρ':Places}{p:Place}{k u:Ty}{e:TypeId}{es:List (k.den×List u.den)}(h:yC P A w ρ p (.mps k e u es none)):yC P A w ρ' p (.mps k e u es none):=by
 obtain ⟨b,ms,c,hb,h1,h2,⟨h3,h4⟩,h5⟩:=h;refine ⟨b,ms,c,hb,h1,h2,⟨h3,λ q hq=>by cases hq⟩,λ i x hx=>?_⟩
 obtain ⟨en,o,h6,h7,h8,h9⟩:=h5 i x hx;refine ⟨en,o,h6,h7,h8,?_⟩;rcases h9 with ⟨q,hq,_⟩|h9
 ·cases hq
 ·exact .inr h9
theorem yC.keep{A A':Nat->Prop}{p:Place}{ch:Chunk}(h:yC P A w ρ p ch)(hk:∀ n,n < w.heap.size->w'.heap[n]?=w.heap[n]?)(hA:∀ n,n < w.heap.size->A' n->A n):yC P A' w' ρ p ch:=
 h.frame (λ n _=>hk n) (λ n _=>hk n) (λ n hn _=>hk n hn) hA
theorem yC.sub_cells{A:Nat->Prop}{p:Place}{k u:Ty}{e:TypeId}{es:List (k.den×List u.den)}{hole:Option (k.den×Nat)}(h:yC P A w ρ p (.mps k e u es hole)){n:Nat}(hn:some n∈p.subs):∃ vs,w.heap[n]?=some (.cells vs e (0,0)):=by
 obtain ⟨b,ms,c,hb,h1,h2,h3,h4⟩:=h;obtain ⟨i,hi⟩:=List.mem_iff_getElem?.1 hn;have hl:i < es.length:=by
  rw[<- h2.2];rcases lt_or_ge i p.subs.length with hl|hl
  ·exact hl
  ·rw[getElem?_eq_none hl]at hi;cases hi
 obtain ⟨en,o,h5,h6,h7,h8⟩:=h4 i _ (List.getElem?_eq_getElem hl);rw[hi]at h6;cases h6;rcases h8 with ⟨q,_,_,h8,_⟩|⟨_,cap,_,⟨h8,_⟩|⟨m,vs,h8,h9,_⟩⟩
 ·cases h8
 ·cases h8
 ·cases h8;exact ⟨vs,h9⟩
theorem yC.nst_cells{A:Nat->Prop}{p:Place}{e e':TypeId}{t u:Ty}{o:Nat}{xs:List t.den}(h:yC P A w ρ p (.nst e t o e' u xs)){n:Nat}(hn:some n∈p.subs):∃ vs,w.heap[n]?=some (.cells vs e' (0,0)):=by
 obtain ⟨⟨h1,h2,h3⟩,_,h4⟩:=h;rw[h2]at hn;obtain ⟨q,hq,hqn⟩:=List.mem_map.1 hn;obtain ⟨i,hi⟩:=List.mem_iff_getElem?.1 hq;have hl:i < xs.length:=by rw[<- h3];exact (List.getElem?_eq_some_iff.1 hi).1
 rcases h4 with ⟨_,h5,_⟩|⟨b,vs,_,_,_,_,_,h8⟩
 ·omega
 ·obtain ⟨q',h9,x0,l0,ys,_,_,_,_,cap,_,⟨h10,_⟩|⟨m,vs',h10,h11,_⟩⟩:=h8 i _ (List.getElem?_eq_getElem hl)
  ·rw[hi]at h9;cases h9;rw[hqn]at h10;cases h10
  ·rw[hi]at h9;cases h9;rw[hqn]at h10;cases h10;exact ⟨vs',h11⟩
theorem y2I{ms:List Nat}{k:Nat}(h:(a.defers=ms.map markD/\(k=0->ms=[])/\(ms++w0.marks).Nodup)/\∀ r,r∈ms\/r∈w0.marks->w.heap[r]?=some (Obj.deferred (some []))/\w0.w.heap.size<=r)
  (hk:∀ r:Nat,w.heap[r]?=some (Obj.deferred (some []))->w'.heap[r]?=some (Obj.deferred (some []))):∃ ms:List Nat,(a.defers=ms.map markD/\(k=0->ms=[])/\(ms++w0.marks).Nodup)/\∀ r,r∈ms\/r∈w0.marks->w'.heap[r]?=some (Obj.deferred (some []))/\w0.w.heap.size<=r:=
 ⟨ms,h.1,λ r hr=>⟨hk r (h.2 r hr).1,(h.2 r hr).2⟩⟩
theorem y62{w w':World}(hb:Below w.heap.size w w'){n:Nat}{o:Obj}(h:w.heap[n]?=some o):w'.heap[n]?=some o:=(hb.block n (yJ h)).trans h
theorem Rel.step(h:Rel P A0 w0 ρ s a w)(hb:Below w.heap.size w w'):Rel P A0 w0 ρ s a w':=
 ⟨h.size,λ i sv hi=>(h.slots i sv hi).mono (λ n hn _=>hb.block n hn) (λ _ _ h=>h),
  λ β ch hc=>⟨(h.cH β ch hc).1.keep hb.block (λ _ _ h=>h),(h.cH β ch hc).2⟩,h.inj,h.names,h.cN,h.below.trans (hb.mono h.below.size),h.dom,(let ⟨_,hm⟩:=h.defers;y2I hm λ r hr=>y62 hb hr),h.dep,h.lpi,(λ l hl=>let ⟨r,hr⟩:=h.round l hl;⟨r,y62 hb hr⟩),h.glob,h.kZ,λ i sv hi=>(h.kS i sv hi).mono (λ n hn _=>hb.block n hn) (λ _ _ h=>h),h.kN,h.subs⟩
theorem Rel.drawn(h:Rel P A0 w0 ρ s a w)(n:Nat):Rel P A0 w0 ρ s a { w with drawn:=n }:=
 h.step ⟨rfl,rfl,rfl,le_refl _,λ _ _=>rfl⟩
theorem yC.lt{A:Nat->Prop}{p:Place}{ch:Chunk}(h:yC P A w ρ p ch){b:Nat}(hb:p.blk=some b):b < w.heap.size:=by
 cases ch with
 |box t cells =>
  obtain ⟨b',vs,e,hb',h1,_⟩:=h;rw[hb]at hb';cases hb';exact yJ h1
 |arr e t xs nn =>
  obtain ⟨_,_,⟨h,_⟩|⟨b',vs,hb',h1,_⟩⟩:=h
  ·rw[hb]at h;cases h
  ·rw[hb]at hb';cases hb';exact yJ h1
 |mp k v es =>
  obtain ⟨b',ms,c,hb',h1,_⟩:=h;rw[hb]at hb';cases hb';exact yJ h1
 |it bs q =>
  obtain ⟨b',n,hb',h1,_⟩:=h;rw[hb]at hb';cases hb';exact yJ h1
 |lp i info cells st =>
  obtain ⟨b',r,hb',h1,_⟩:=h;rw[hb]at hb';cases hb';exact yJ h1
 |mps k e u es hole =>
  obtain ⟨b',ms,c,hb',h1,_⟩:=h;rw[hb]at hb';cases hb';exact yJ h1
 |rcd t cells =>
  obtain ⟨h1,_⟩:=h;rw[hb]at h1;cases h1
 |nst e t o e' u xs =>
  obtain ⟨_,_,⟨h,_⟩|⟨b',vs,hb',h1,_⟩⟩:=h
  ·rw[hb]at h;cases h
  ·rw[hb]at hb';cases hb';exact yJ h1
theorem yC.no_mark{A:Nat->Prop}{p:Place}{ch:Chunk}(h:yC P A w ρ p ch){b:Nat}(hb:p.blk=some b):w.heap[b]?≠some (.deferred (some [])):=by
 intro hd;cases ch with
 |box t cells =>
  obtain ⟨b',vs,e,hb',h1,_⟩:=h;rw[hb]at hb';cases hb';rw[hd]at h1;cases h1
 |arr e t xs nn =>
  obtain ⟨_,_,⟨h,_⟩|⟨b',vs,hb',h1,_⟩⟩:=h
  ·rw[hb]at h;cases h
  ·rw[hb]at hb';cases hb';rw[hd]at h1;cases h1
 |mp k v es =>
  obtain ⟨b',ms,c,hb',h1,_⟩:=h;rw[hb]at hb';cases hb';rw[hd]at h1;cases h1
 |it bs q =>
  obtain ⟨b',n,hb',h1,_⟩:=h;rw[hb]at hb';cases hb';rw[hd]at h1;cases h1
 |lp i info cells st =>
  obtain ⟨b',r,hb',h1,_⟩:=h;rw[hb]at hb';cases hb';rw[hd]at h1;cases h1
 |mps k e u es hole =>
  obtain ⟨b',ms,c,hb',h1,_⟩:=h;rw[hb]at hb';cases hb';rw[hd]at h1;cases h1
 |rcd t cells =>
  obtain ⟨h1,_⟩:=h;rw[hb]at h1;cases h1
 |nst e t o e' u xs =>
  obtain ⟨_,_,⟨h,_⟩|⟨b',vs,hb',h1,_⟩⟩:=h
  ·rw[hb]at h;cases h
  ·rw[hb]at hb';cases hb';rw[hd]at h1;cases h1
theorem yC.no_loop{A:Nat->Prop}{p:Place}{ch:Chunk}(h:yC P A w ρ p ch)(hn:ch.lpNo=none){b:Nat}(hb:p.blk=some b){r:Loop}:w.heap[b]?≠some (.loop r):=by
 intro hd;cases ch with
 |box t cells =>
  obtain ⟨b',vs,e,hb',h1,_⟩:=h;rw[hb]at hb';cases hb';rw[hd]at h1;cases h1
 |arr e t xs nn =>
  obtain ⟨_,_,⟨h,_⟩|⟨b',vs,hb',h1,_⟩⟩:=h
  ·rw[hb]at h;cases h
  ·rw[hb]at hb';cases hb';rw[hd]at h1;cases h1
 |mp k v es =>
  obtain ⟨b',ms,c,hb',h1,_⟩:=h;rw[hb]at hb';cases hb';rw[hd]at h1;cases h1
 |it bs q =>
  obtain ⟨b',n,hb',h1,_⟩:=h;rw[hb]at hb';cases hb';rw[hd]at h1;cases h1
 |lp i info cells st=>cases hn
 |mps k e u es hole =>
  obtain ⟨b',ms,c,hb',h1,_⟩:=h;rw[hb]at hb';cases hb';rw[hd]at h1;cases h1
 |rcd t cells =>
  obtain ⟨h1,_⟩:=h;rw[hb]at h1;cases h1
 |nst e t o e' u xs =>
  obtain ⟨_,_,⟨h,_⟩|⟨b',vs,hb',h1,_⟩⟩:=h
  ·rw[hb]at h;cases h
  ·rw[hb]at hb';cases hb';rw[hd]at h1;cases h1
theorem Rel.sub_cells(h:Rel P A0 w0 ρ s a w){β n:Nat}{ch:Chunk}(hc:s.cH[β]?=some (some ch))(hn:some n∈(ρ β).subs):∃ vs e,w.heap[n]?=some (.cells vs e (0,0)):=by
 cases hm:ch.isM with
 |false=>rw[h.subs.plain β ch hc hm]at hn;cases hn
 |true =>
  cases ch with
  |mps k e u es hole=>obtain ⟨vs,h1⟩:=(h.cH β _ hc).1.sub_cells hn;exact ⟨vs,e,h1⟩
  |nst e t o e' u xs=>obtain ⟨vs,h1⟩:=(h.cH β _ hc).1.nst_cells hn;exact ⟨vs,e',h1⟩
  |_=>cases hm
theorem Rel.sub_lt(h:Rel P A0 w0 ρ s a w){β n:Nat}{ch:Chunk}(hc:s.cH[β]?=some (some ch))(hn:some n∈(ρ β).subs):n < w.heap.size:=by
 obtain ⟨vs,e,h1⟩:=h.sub_cells hc hn;exact yJ h1
theorem Rel.av_lt(h:Rel P A0 w0 ρ s a w){n:Nat}(hn:Av A0 ρ s.cH n):n < w.heap.size:=by
 rcases hn with (hn|⟨β,ch,hc,hb⟩)|⟨β,ch,hc,hb⟩
 ·exact lt_of_lt_of_le (h.dom n hn) h.below.size
 ·exact h.sub_lt hc hb
 ·exact (h.cH β ch hc).1.lt hb
def Places.set(ρ:Places)(β:Nat)(p:Place):Places:=λ γ=>if γ=β then p else ρ γ
theorem Places.set_lt(ρ:Places){β n:Nat}(p:Place)(h:β < n):ρ.set n p β=ρ β:=by
 unfold Places.set;rw[if_neg (by omega)]
theorem Places.set_self(ρ:Places)(n:Nat)(p:Place):ρ.set n p n=p:=by
 unfold Places.set;rw[if_pos rfl]
theorem yY.congr{A:Nat->Prop}{ρ':Places}{n:Nat}(he:∀ β,β < n->ρ' β=ρ β):∀ {cs:List Cap} {vs:List Value},y0O n cs->yY P A w ρ cs vs->yY P A w ρ' cs vs
 |[],[],_,_=>trivial
 |[],_::_,_,h=>h
 |_::_,[],_,h=>h
 |.box β::cs,v::vs,hi,h=>⟨by have:=h.1;simp only[yBa]at this ⊢;rw[he β hi.1];exact this,yY.congr he hi.2 h.2⟩
 |.val t x::cs,v::vs,hi,h=>⟨h.1,yY.congr he hi h.2⟩
theorem yD.congr{A:Nat->Prop}{ρ':Places}{n:Nat}(he:∀ β,β < n->ρ' β=ρ β){sv:SV}{v:Value}(hi:sv.inn n)(h:yD P A w ρ sv v):yD P A w ρ' sv v:=by
 cases sv with
 |bP β off=>simp only[yD]at h ⊢;rw[he β hi];exact h
 |own β=>simp only[yD]at h ⊢;rw[he β hi];exact h
 |mO β=>simp only[yD]at h ⊢;rw[he β hi];exact h
 |yld β=>simp only[yD]at h ⊢;rw[he β hi];exact h
 |mP β e=>simp only[yD]at h ⊢;rw[he β hi];exact h
 |eP β i sz off=>simp only[yD]at h ⊢;rw[he β hi];exact h
 |oS β n sz=>simp only[yD]at h ⊢;rw[he β hi];exact h
 |sR β=>simp only[yD]at h ⊢;rw[he β hi];exact h
 |nO β i=>simp only[yD]at h ⊢;rw[he β hi];exact h
 |nP β i j sz off=>simp only[yD]at h ⊢;rw[he β hi];exact h
 |meth f β=>simp only[yD]at h ⊢;rw[he β hi];exact h
 |clo f caps=>obtain ⟨vs,h2,h3⟩:=h;exact ⟨vs,h2,h3.congr he hi⟩
 |_=>exact h
theorem y0O.mono{n m:Nat}(hnm:n<=m):∀ {cs:List Cap},y0O n cs->y0O m cs
 |[],_=>trivial
 |.box _::_,h=>⟨lt_of_lt_of_le h.1 hnm,y0O.mono hnm h.2⟩
 |.val _ _::cs,h=>y0O.mono (cs:=cs) hnm h
theorem SV.inn_mono{n m:Nat}(hnm:n<=m){sv:SV}(h:sv.inn n):sv.inn m:=by
 cases sv with
 |bP β off=>exact lt_of_lt_of_le h hnm
 |own β=>exact lt_of_lt_of_le h hnm
 |mO β=>exact lt_of_lt_of_le h hnm
 |yld β=>exact lt_of_lt_of_le h hnm
 |mP β e=>exact lt_of_lt_of_le h hnm
 |eP β i sz off=>exact lt_of_lt_of_le h hnm
 |oS β n sz=>exact lt_of_lt_of_le h hnm
 |sR β=>exact lt_of_lt_of_le h hnm
 |nO β i=>exact lt_of_lt_of_le h hnm
 |nP β i j sz off=>exact lt_of_lt_of_le h hnm
 |meth f β=>exact lt_of_lt_of_le h hnm
 |clo f caps=>exact y0O.mono hnm h
 |_=>trivial
theorem Chunk.inn_mono{n m:Nat}(hnm:n<=m){ch:Chunk}(h:ch.inn n):ch.inn m:=by
 cases ch with
 |box cells=>exact λ sv hs=>SV.inn_mono hnm (h sv hs)
 |lp i info cells st=>exact λ sv hs=>SV.inn_mono hnm (h sv hs)
 |arr e t xs nn=>trivial
 |mp k v es=>trivial
 |it bs q=>trivial
 |mps k e u es hole=>exact λ q hq=>lt_of_lt_of_le (h q hq) hnm
 |rcd t cells=>exact λ sv hs=>SV.inn_mono hnm (h sv hs)
 |nst e t o e' u xs=>trivial
theorem yC.congr{A:Nat->Prop}{ρ':Places}{n:Nat}(he:∀ β,β < n->ρ' β=ρ β){p:Place}{ch:Chunk}(hi:ch.inn n)(h:yC P A w ρ p ch):yC P A w ρ' p ch:=by
 cases ch with
 |box t cells =>
  obtain ⟨b,vs,e,hb,h1,h2,h3⟩:=h;exact ⟨b,vs,e,hb,h1,h2,λ i sv hs=>let ⟨v,hv,hr⟩:=h3 i sv hs;⟨v,hv,hr.congr he (hi sv (mem_of_getElem? hs))⟩⟩
 |lp i info cells st =>
  obtain ⟨b,r,hb,h1,h2,h3,h4⟩:=h;exact ⟨b,r,hb,h1,h2,h3,λ i sv hs=>let ⟨v,hv,hr⟩:=h4 i sv hs;⟨v,hv,hr.congr he (hi sv (mem_of_getElem? hs))⟩⟩
 |arr e t xs nn=>simpa only[yC]using h
 |mp k v es=>simpa only[yC]using h
 |it bs q=>simpa only[yC]using h
 |mps k e u es hole =>
  obtain ⟨b,ms,c,hb,h1,h2,⟨h3,h4⟩,h5⟩:=h;refine ⟨b,ms,c,hb,h1,h2,⟨h3,λ q hq hx=>?_⟩,λ i x hx=>?_⟩
  ·rw[he _ (hi q hq)];exact h4 q hq hx
  ·obtain ⟨en,o,h6,h7,h8,h9⟩:=h5 i x hx;refine ⟨en,o,h6,h7,h8,?_⟩;rcases h9 with ⟨q,hq,h9,h10,h11⟩|h9
   ·exact .inl ⟨q,hq,h9,h10,by rw[he _ (hi q hq)];exact h11⟩
   ·exact .inr h9
 |rcd t cells =>
  obtain ⟨h1,h2,h3,h4⟩:=h;exact ⟨h1,h2,h3,λ i sv hs=>let ⟨v,hv,hr⟩:=h4 i sv hs;⟨v,hv,hr.congr he (hi sv (mem_of_getElem? hs))⟩⟩
 |nst e t o e' u xs=>simpa only[yC]using h
theorem yb{cs:List (Option Chunk)}{ch c:Chunk}{β:Nat}(hb:(cs++[some ch])[β]?=some (some c)):(β < cs.length/\cs[β]?=some (some c))\/(β=cs.length/\c=ch):=by
 rcases lt_or_ge β cs.length with hl|hl
 ·rw[List.getElem?_append_left hl]at hb;exact .inl ⟨hl,hb⟩
 ·rcases lt_or_ge cs.length β with h'|h'
  ·rw[getElem?_eq_none (by simp;omega)]at hb;cases hb
  ·have:β=cs.length:=by omega
   subst this;simp at hb;exact .inr ⟨rfl,hb.symm⟩
theorem Rel.newChunk(h:Rel P A0 w0 ρ s a w)(ch:Chunk)(p:Place)(hw:Below w.heap.size w w')(hp:∀ b,p.blk=some b->w.heap.size<=b)(hi:ch.inn s.cH.length)
  (hc:∀ A,(∀ n,n < w.heap.size->A n->Av A0 ρ s.cH n)->(∀ n,w.heap.size<=n->A n->p.blk=some n)->yC P A w' ρ p ch) (hlp:∀ q,ch.lpNo=some q->w0.infos[q.1]?=some q.2:=by intro q h;cases h) (hps:p.subs=[]:=by rfl) :
  Rel P A0 w0 (ρ.set s.cH.length p) { s with cH:=s.cH++[some ch] } a w':=by
 have he:∀ β,β < s.cH.length->ρ.set s.cH.length p β=ρ β:=λ β hβ=>Places.set_lt ρ p hβ
 have hold:∀ n,n < w.heap.size->w'.heap[n]?=w.heap[n]?:=hw.block;have hA:∀ n,n < w.heap.size->Av A0 (ρ.set s.cH.length p) (s.cH++[some ch]) n->Av A0 ρ s.cH n:=by
  rintro n hn ((h0|⟨β,c,hb,hbn⟩)|⟨β,c,hb,hbn⟩)
  ·exact .inl (.inl h0)
  ·rcases yb hb with ⟨hl,hb⟩|⟨rfl,rfl⟩
   ·rw[he β hl]at hbn;exact .inl (.inr ⟨β,c,hb,hbn⟩)
   ·rw[Places.set_self,hps]at hbn;cases hbn
  ·rcases yb hb with ⟨hl,hb⟩|⟨rfl,rfl⟩
   ·rw[he β hl]at hbn;exact .inr ⟨β,c,hb,hbn⟩
   ·rw[Places.set_self]at hbn;have:=hp n hbn;omega
 have hA':∀ n,w.heap.size<=n->Av A0 (ρ.set s.cH.length p) (s.cH++[some ch]) n->p.blk=some n:=by
  rintro n hn ((h0|⟨β,c,hb,hbn⟩)|⟨β,c,hb,hbn⟩)
  ·have:=h.dom n h0;have:=h.below.size;omega
  ·rcases yb hb with ⟨hl,hb⟩|⟨rfl,rfl⟩
   ·rw[he β hl]at hbn;have:=h.sub_lt hb hbn;omega
   ·rw[Places.set_self,hps]at hbn;cases hbn
  ·rcases yb hb with ⟨hl,hb⟩|⟨rfl,rfl⟩
   ·rw[he β hl]at hbn;have:=(h.cH β c hb).1.lt hbn;omega
   ·rwa[Places.set_self]at hbn
 have hK:Keep (Av A0 ρ s.cH) w w':=λ n hn _=>hold n hn
 refine ⟨h.size,λ i sv hs=>((h.slots i sv hs).congr he (h.names i sv hs)).mono hK hA,λ β c hb=>?_,λ β γ c d hb hg hbg hne=>?_,λ i sv hs=>SV.inn_mono (by simp) (h.names i sv hs),λ β c hb=>?_,h.below.trans (hw.mono h.below.size),h.dom,(let ⟨_,hm⟩:=h.defers;y2I hm λ r hr=>y62 hw hr),h.dep,(λ β c q hb hq=>by
  rcases yb hb with ⟨_,hb⟩|⟨_,rfl⟩
  ·exact h.lpi β c q hb hq
  ·exact hlp q hq),(λ l hl=>let ⟨r,hr⟩:=h.round l hl;⟨r,y62 hw hr⟩),h.glob,h.kZ,λ i sv hs=>((h.kS i sv hs).congr he (h.kN i sv hs)).mono hK hA,λ i sv hs=>SV.inn_mono (by simp) (h.kN i sv hs),⟨λ β c hb hm=>?_,λ β c n hb hn=>?_,λ β γ c d n hb hg hn=>?_,λ β γ c d n hb hg hn hm=>?_⟩⟩
 ·rcases yb hb with ⟨hl,hb⟩|⟨rfl,rfl⟩
  ·rw[he β hl];exact ⟨((h.cH β c hb).1.congr he (h.cN β c hb)).keep hold hA,(h.cH β c hb).2⟩
  ·rw[Places.set_self];exact ⟨(hc _ hA hA').congr he hi,λ b hb=>Nat.le_trans h.below.size (hp b hb)⟩
 ·rcases yb hb with ⟨h1,h2⟩|⟨h1,_⟩<;>rcases yb hg with ⟨h3,h4⟩|⟨h3,_⟩
  ·rw[he β h1,he γ h3]at hbg;rw[he β h1]at hne;exact h.inj β γ c d h2 h4 hbg hne
  ·subst h3;rw[he β h1]at hbg hne;rw[Places.set_self]at hbg;cases hq:(ρ β).blk with
   |none=>exact absurd hq hne
   |some b=>have h5:=(h.cH β c h2).1.lt hq;have h6:=hp b (hbg ▸ hq);omega
  ·subst h1;rw[he γ h3,Places.set_self]at hbg;rw[Places.set_self]at hne;cases hq:p.blk with
   |none=>exact absurd hq hne
   |some b=>have h5:=(h.cH γ d h4).1.lt (hbg ▸ hq);have h6:=hp b hq;omega
  ·omega
 ·rcases yb hb with ⟨hl,hb⟩|⟨rfl,rfl⟩
  ·exact Chunk.inn_mono (by simp) (h.cN β c hb)
  ·exact Chunk.inn_mono (by simp) hi
 ·rcases yb hb with ⟨hl,hb⟩|⟨rfl,rfl⟩
  ·rw[he β hl];exact h.subs.plain β c hb hm
  ·rw[Places.set_self];exact hps
 ·rcases yb hb with ⟨hl,hb⟩|⟨rfl,rfl⟩
  ·rw[he β hl]at hn;exact h.subs.base β c n hb hn
  ·rw[Places.set_self,hps]at hn;cases hn
 ·rcases yb hb with ⟨hl,hb1⟩|⟨rfl,rfl⟩
  ·rw[he β hl]at hn;have hlt:=h.sub_lt hb1 hn;rcases yb hg with ⟨hl2,hg⟩|⟨rfl,rfl⟩
   ·rw[he γ hl2];exact h.subs.apart β γ c d n hb1 hg hn
   ·rw[Places.set_self];intro hpn;have:=hp n hpn;omega
  ·rw[Places.set_self,hps]at hn;cases hn
 ·rcases yb hb with ⟨hl,hb⟩|⟨rfl,rfl⟩
  ·rw[he β hl]at hn;rcases yb hg with ⟨hl2,hg⟩|⟨rfl,rfl⟩
   ·rw[he γ hl2]at hm;exact h.subs.one β γ c d n hb hg hn hm
   ·rw[Places.set_self,hps]at hm;cases hm
  ·rw[Places.set_self,hps]at hn;cases hn
theorem Rel.drop(h:Rel P A0 w0 ρ s a w)(β:Nat):Rel P A0 w0 ρ { s with cH:=s.cH.set β none } a w:=by
 have hsub:∀ (γ:Nat) (c:Chunk),(s.cH.set β none)[γ]?=some (some c)->s.cH[γ]?=some (some c):=by
  intro γ c hg;by_cases hb:β=γ
  ·subst hb;rw[List.getElem?_set]at hg;simp at hg
  ·rwa[getElem?_set_ne hb]at hg
 have hA:∀ n,n < w.heap.size->Av A0 ρ (s.cH.set β none) n->Av A0 ρ s.cH n:=by
  rintro n hn ((h0|⟨γ,c,hb,hbn⟩)|⟨γ,c,hb,hbn⟩)
  ·exact .inl (.inl h0)
  ·exact .inl (.inr ⟨γ,c,hsub γ c hb,hbn⟩)
  ·exact .inr ⟨γ,c,hsub γ c hb,hbn⟩
 have hK:Keep (Av A0 ρ s.cH) w w:=λ _ _ _=>rfl
 refine ⟨h.size,λ i sv hs=>(h.slots i sv hs).mono hK hA,λ γ c hb=>⟨(h.cH γ c (hsub γ c hb)).1.keep (λ _ _=>rfl) hA,(h.cH γ c (hsub γ c hb)).2⟩,
  λ γ δ c d hb hg hbg hne=>h.inj γ δ c d (hsub γ c hb) (hsub δ d hg) hbg hne,λ i sv hs=>by simpa using h.names i sv hs,λ γ c hb=>by simpa using h.cN γ c (hsub γ c hb),h.below,h.dom,h.defers,h.dep,(λ γ c q hb hq=>h.lpi γ c q (hsub γ c hb) hq),h.round,h.glob,h.kZ,λ i sv hs=>(h.kS i sv hs).mono hK hA,λ i sv hs=>by simpa using h.kN i sv hs,h.subs.sub λ γ c hg=>⟨c,hsub γ c hg,id⟩⟩
theorem Rel.dropAll(h:Rel P A0 w0 ρ s a w){cs:List (Option Chunk)}(hlen:cs.length=s.cH.length)(hsub:∀ (γ:Nat) (c:Chunk),cs[γ]?=some (some c)->s.cH[γ]?=some (some c)):Rel P A0 w0 ρ { s with cH:=cs } a w:=by
 have hA:∀ n,n < w.heap.size->Av A0 ρ cs n->Av A0 ρ s.cH n:=by
  rintro n hn ((h0|⟨γ,c,hb,hbn⟩)|⟨γ,c,hb,hbn⟩)
  ·exact .inl (.inl h0)
  ·exact .inl (.inr ⟨γ,c,hsub γ c hb,hbn⟩)
  ·exact .inr ⟨γ,c,hsub γ c hb,hbn⟩
 have hK:Keep (Av A0 ρ s.cH) w w:=λ _ _ _=>rfl
 refine ⟨h.size,λ i sv hs=>(h.slots i sv hs).mono hK hA,λ γ c hb=>⟨(h.cH γ c (hsub γ c hb)).1.keep (λ _ _=>rfl) hA,(h.cH γ c (hsub γ c hb)).2⟩,
  λ γ δ c d hb hg hbg hne=>h.inj γ δ c d (hsub γ c hb) (hsub δ d hg) hbg hne,λ i sv hs=>by rw[hlen];exact h.names i sv hs,λ γ c hb=>by rw[hlen];exact h.cN γ c (hsub γ c hb),h.below,h.dom,h.defers,h.dep,(λ γ c q hb hq=>h.lpi γ c q (hsub γ c hb) hq),h.round,h.glob,h.kZ,λ i sv hs=>(h.kS i sv hs).mono hK hA,λ i sv hs=>by rw[hlen];exact h.kN i sv hs,h.subs.sub λ γ c hg=>⟨c,hsub γ c hg,id⟩⟩
theorem Rel.write(h:Rel P A0 w0 ρ s a w){β b:Nat}{ch ch':Chunk}(hβ:s.cH[β]?=some (some ch))(hb:(ρ β).blk=some b)
  (hk:∀ n,n≠b->w'.heap[n]?=w.heap[n]?) (hsz:w'.heap.size=w.heap.size) (ho:w'.os=w.os) (ht:w'.tape=w.tape) (hu:w'.output=w.output) (hi:ch'.inn s.cH.length)
  (hc:∀ A,(∀ n,A n ↔ Av A0 ρ s.cH n)->yC P A w' ρ (ρ β) ch') (hlp:ch'.lpNo=ch.lpNo:=by rfl) (him:ch'.isM=ch.isM:=by rfl):Rel P A0 w0 ρ { s with cH:=s.cH.set β (some ch') } a w':=by
 have hβl:β < s.cH.length:=by
  rcases lt_or_ge β s.cH.length with hl|hl
  ·exact hl
  ·rw[getElem?_eq_none (by simpa using hl)]at hβ;cases hβ
 have hcs:∀ (γ:Nat) (c:Chunk),(s.cH.set β (some ch'))[γ]?=some (some c)->(γ=β/\c=ch')\/(γ≠β/\s.cH[γ]?=some (some c)):=by
  intro γ c hg;by_cases hbg:β=γ
  ·subst hbg;rw[getElem?_set_self hβl]at hg;cases hg;exact .inl ⟨rfl,rfl⟩
  ·rw[getElem?_set_ne hbg]at hg;exact .inr ⟨λ e=>hbg e.symm,hg⟩
 have hA:∀ n,Av A0 ρ (s.cH.set β (some ch')) n ↔ Av A0 ρ s.cH n:=by
  intro n;constructor
  ·rintro ((h0|⟨γ,c,hg,hbn⟩)|⟨γ,c,hg,hbn⟩)
   ·exact .inl (.inl h0)
   ·rcases hcs γ c hg with ⟨rfl,rfl⟩|⟨_,hg⟩
    ·exact .inl (.inr ⟨γ,ch,hβ,hbn⟩)
    ·exact .inl (.inr ⟨γ,c,hg,hbn⟩)
   ·rcases hcs γ c hg with ⟨rfl,rfl⟩|⟨_,hg⟩
    ·exact .inr ⟨γ,ch,hβ,hbn⟩
    ·exact .inr ⟨γ,c,hg,hbn⟩
  ·rintro ((h0|⟨γ,c,hg,hbn⟩)|⟨γ,c,hg,hbn⟩)
   ·exact .inl (.inl h0)
   ·by_cases hbg:β=γ
    ·subst hbg;exact .inl (.inr ⟨β,ch',by rw[getElem?_set_self hβl],hbn⟩)
    ·exact .inl (.inr ⟨γ,c,by rw[getElem?_set_ne hbg];exact hg,hbn⟩)
   ·by_cases hbg:β=γ
    ·subst hbg;exact .inr ⟨β,ch',by rw[getElem?_set_self hβl],hbn⟩
    ·exact .inr ⟨γ,c,by rw[getElem?_set_ne hbg];exact hg,hbn⟩
 have hAb:Av A0 ρ s.cH b:=.inr ⟨β,ch,hβ,hb⟩;have hK:Keep (Av A0 ρ s.cH) w w':=λ n _ hn=>hk n (λ e=>hn (e ▸ hAb))
 have hA1:∀ n,n < w.heap.size->Av A0 ρ (s.cH.set β (some ch')) n->Av A0 ρ s.cH n:=λ n _ hn=>(hA n).1 hn
 have hother:∀ (γ:Nat) (c:Chunk),γ≠β->s.cH[γ]?=some (some c)->yC P (Av A0 ρ (s.cH.set β (some ch'))) w' ρ (ρ γ) c:=by
  intro γ c hne hg;have h1:=(h.cH γ c hg).1;have hnb:∀ b',(ρ γ).blk=some b'->b'≠b:=by
   intro b' hb' e;subst e;exact hne (h.inj γ β c ch hg hβ (hb'.trans hb.symm) (by rw[hb'];simp))
  exact h1.frame (λ n hn _=>hk n (hnb n hn)) (λ n hn _=>hk n λ e=>h.subs.apart γ β c ch n hg hβ hn (e ▸ hb)) hK hA1
 have hbw:w0.w.heap.size<=b:=(h.cH β ch hβ).2 b hb;refine ⟨h.size,λ i sv hs=>(h.slots i sv hs).mono hK hA1,λ γ c hg=>?_,λ γ δ c d hg hd hbg hne=>?_,λ i sv hs=>by simpa using h.names i sv hs,λ γ c hg=>?_,⟨ho.trans h.below.os,ht.trans h.below.tape,hu.trans h.below.output,hsz ▸ h.below.size,λ n hn=>(hk n (by omega)).trans (h.below.block n hn)⟩,h.dom,(let ⟨_,hm⟩:=h.defers;y2I hm λ r hr=>(hk r λ e=>(h.cH β ch hβ).1.no_mark hb (e ▸ hr)).trans hr),h.dep,(λ γ c q hg hq=>by
  rcases hcs γ c hg with ⟨rfl,rfl⟩|⟨_,hg⟩
  ·exact h.lpi γ ch q hβ (hlp ▸ hq)
  ·exact h.lpi γ c q hg hq),(λ l hl=>by
  obtain ⟨r,hr⟩:=h.round l hl;by_cases hlb:l=b
  ·subst hlb;have h1:=(h.cH β ch hβ).1;cases ch with
   |lp i info cells st =>
    cases ch' with
    |lp i' info' cells' st' =>
     obtain ⟨b',r',hb',h2,_⟩:=hc _ (λ n=>Iff.rfl)
     rw[hb]at hb';cases hb';exact ⟨r',h2⟩
    |_=>cases hlp
   |box t cells =>
    obtain ⟨b',vs,e,hb',h2,_⟩:=h1;rw[hb]at hb';cases hb';rw[hr]at h2;cases h2
   |arr e t xs nn =>
    obtain ⟨_,_,⟨h2,_⟩|⟨b',vs,hb',h2,_⟩⟩:=h1
    ·rw[hb]at h2;cases h2
    ·rw[hb]at hb';cases hb';rw[hr]at h2;cases h2
   |mp k v es =>
    obtain ⟨b',ms,c,hb',h2,_⟩:=h1;rw[hb]at hb';cases hb';rw[hr]at h2;cases h2
   |it bs q =>
    obtain ⟨b',n,hb',h2,_⟩:=h1;rw[hb]at hb';cases hb';rw[hr]at h2;cases h2
   |mps k e u es hole =>
    obtain ⟨b',ms,c,hb',h2,_⟩:=h1;rw[hb]at hb';cases hb';rw[hr]at h2;cases h2
   |rcd t cells=>exact absurd hr ((h.cH β _ hβ).1.no_loop rfl hb)
   |nst e t o e' u xs=>exact absurd hr ((h.cH β _ hβ).1.no_loop rfl hb)
  ·exact ⟨r,(hk l hlb).trans hr⟩),h.glob,h.kZ,λ i sv hs=>(h.kS i sv hs).mono hK hA1,λ i sv hs=>by simpa using h.kN i sv hs,h.subs.sub λ γ c hg=>by
  rcases hcs γ c hg with ⟨rfl,rfl⟩|⟨_,hg⟩
  ·exact ⟨ch,hβ,λ e=>him ▸ e⟩
  ·exact ⟨c,hg,id⟩⟩
 ·rcases hcs γ c hg with ⟨rfl,rfl⟩|⟨hne,hg⟩
  ·exact ⟨hc _ hA,(h.cH γ ch hβ).2⟩
  ·exact ⟨hother γ c hne hg,(h.cH γ c hg).2⟩
 ·have old:∀ (γ:Nat) (c:Chunk),(s.cH.set β (some ch'))[γ]?=some (some c)->∃ c',s.cH[γ]?=some (some c'):=by
   intro γ c hg;rcases hcs γ c hg with ⟨rfl,rfl⟩|⟨_,hg⟩
   ·exact ⟨ch,hβ⟩
   ·exact ⟨c,hg⟩
  obtain ⟨c1,h1⟩:=old γ c hg;obtain ⟨c2,h2⟩:=old δ d hd;exact h.inj γ δ c1 c2 h1 h2 hbg hne
 ·rcases hcs γ c hg with ⟨rfl,rfl⟩|⟨_,hg⟩
  ·simpa using hi
  ·simpa using h.cN γ c hg
theorem Rel.writeDrop(h:Rel P A0 w0 ρ s a w){β b:Nat}{ch:Chunk}(hβ:s.cH[β]?=some (some ch))(hb:(ρ β).blk=some b)(hnl:ch.lpNo=none)
  (hk:∀ n,n≠b->w'.heap[n]?=w.heap[n]?) (hsz:w'.heap.size=w.heap.size) (ho:w'.os=w.os) (ht:w'.tape=w.tape) (hu:w'.output=w.output):Rel P A0 w0 ρ { s with cH:=s.cH.set β none } a w':=by
 have hcs:∀ (γ:Nat) (c:Chunk),(s.cH.set β none)[γ]?=some (some c)->γ≠β/\s.cH[γ]?=some (some c):=by
  intro γ c hg;by_cases hbg:β=γ
  ·subst hbg;rw[List.getElem?_set]at hg;simp at hg
  ·rw[getElem?_set_ne hbg]at hg;exact ⟨λ e=>hbg e.symm,hg⟩
 have hA1:∀ n,n < w.heap.size->Av A0 ρ (s.cH.set β none) n->Av A0 ρ s.cH n:=by
  rintro n hn ((h0|⟨γ,c,hb,hbn⟩)|⟨γ,c,hb,hbn⟩)
  ·exact .inl (.inl h0)
  ·exact .inl (.inr ⟨γ,c,(hcs γ c hb).2,hbn⟩)
  ·exact .inr ⟨γ,c,(hcs γ c hb).2,hbn⟩
 have hAb:Av A0 ρ s.cH b:=.inr ⟨β,ch,hβ,hb⟩;have hK:Keep (Av A0 ρ s.cH) w w':=λ n hn hnA=>hk n λ e=>hnA (e ▸ hAb)
 have hbw:w0.w.heap.size<=b:=(h.cH β ch hβ).2 b hb;refine ⟨h.size,λ i sv hs=>(h.slots i sv hs).mono hK hA1,λ γ c hg=>?_,λ γ δ c d hg hd hbg hne=>h.inj γ δ c d (hcs γ c hg).2 (hcs δ d hd).2 hbg hne,λ i sv hs=>by simpa using h.names i sv hs,λ γ c hg=>by simpa using h.cN γ c (hcs γ c hg).2,⟨ho.trans h.below.os,ht.trans h.below.tape,hu.trans h.below.output,hsz ▸ h.below.size,λ n hn=>(hk n (by omega)).trans (h.below.block n hn)⟩,h.dom,(let ⟨_,hm⟩:=h.defers;y2I hm λ r hr=>(hk r λ e=>(h.cH β ch hβ).1.no_mark hb (e ▸ hr)).trans hr),h.dep,(λ γ c q hg hq=>h.lpi γ c q (hcs γ c hg).2 hq),(λ l hl=>by
  obtain ⟨r,hr⟩:=h.round l hl;exact ⟨r,(hk l λ e=>(h.cH β ch hβ).1.no_loop hnl hb (e ▸ hr)).trans hr⟩),h.glob,h.kZ,λ i sv hs=>(h.kS i sv hs).mono hK hA1,λ i sv hs=>by simpa using h.kN i sv hs,h.subs.sub λ γ c hg=>⟨c,(hcs γ c hg).2,id⟩⟩
 obtain ⟨hne,hg⟩:=hcs γ c hg;refine ⟨?_,(h.cH γ c hg).2⟩;have h1:=(h.cH γ c hg).1;have hnb:∀ b',(ρ γ).blk=some b'->b'≠b:=by
  intro b' hb' e;subst e;exact hne (h.inj γ β c ch hg hβ (hb'.trans hb.symm) (by rw[hb'];simp))
 exact h1.frame (λ n hn _=>hk n (hnb n hn)) (λ n hn _=>hk n λ e=>h.subs.apart γ β c ch n hg hβ hn (e ▸ hb)) hK hA1
theorem Rel.globW(h:Rel P A0 w0 ρ s a w):GlobOK (Av A0 ρ s.cH) w:=by
 have key:∀ b,¬ A0 b->b < w0.w.heap.size->¬ Av A0 ρ s.cH b/\b < w.heap.size/\w.heap[b]?=w0.w.heap[b]?:=λ b h1 h2=>by
  refine ⟨?_,lt_of_lt_of_le h2 h.below.size,h.below.block b h2⟩;rintro ((h0|⟨β,ch,hc,hb⟩)|⟨β,ch,hc,hb⟩)
  ·exact h1 h0
  ·have:=h.subs.base β ch _ hc hb;omega
  ·have:=(h.cH β ch hc).2 _ hb;omega
 refine ⟨λ p hp=>?_,λ b hb=>?_,λ b hb=>?_⟩
 ·obtain ⟨h1,h2,t,f,h3⟩:=h.glob.tab p hp;obtain ⟨k1,k2,k3⟩:=key _ h1 h2;exact ⟨k1,k2,t,f,k3.trans h3⟩
 ·obtain ⟨h1,h2,m,t,f,h3⟩:=h.glob.ints b hb;obtain ⟨k1,k2,k3⟩:=key _ h1 h2;exact ⟨k1,k2,m,t,f,k3.trans h3⟩
 ·obtain ⟨h1,h2,tp,p,t,f,h3⟩:=h.glob.ifs b hb;obtain ⟨k1,k2,k3⟩:=key _ h1 h2;exact ⟨k1,k2,tp,p,t,f,k3.trans h3⟩
end
end Go.Vx
end
section
namespace Go.Vx
noncomputable section
variable [GT]
structure TyI where
 ty:Ty
 elem:TypeId:=0
 fields:List (Nat×TypeId):=[]
structure TV where
 t:Ty
 x:t.den
inductive RdK where
 | last (o:Nat) (u:Ty)
 | part (l:List (List UInt8×Nat))
inductive ExK where
 | x (v:TV)
 | rd (q:RdK)
structure Entry where
 f:FuncId
 args:Ty
 rS:Ty
 m:args.den->Option rS.den
 own:Option (TypeId×Ty):=none
 ex:Option ExK:=none
def Entry.rdk(e:Entry):Option RdK:=match e.ex with|some (.rd q)=>some q|_=>none
structure G where
 T:List (TypeId×TyI)
 E:List Entry
 mU:List Nat:=[]
 fz:List Nat:=[]
 ap:List (Nat×Option Nat×Nat):=[]
 vl:Bool:=false
 lv:Option (List Nat):=none
 cand:List FuncId:=[]
 on:List Nat:=[]
 sep:List Nat:=[]
 cut:List (Nat×List Nat):=[]
def yN:List (TypeId×TyI)->TypeId->Option TyI
 |[],_=>none
 | (u,i)::l,t=>if u == t then some i else yN l t
def y8v:List Entry->FuncId->Option Entry
 |[],_=>none
 |e::l,f=>if e.f == f then some e else y8v l f
def y2G(a b:Ty)(x:a.den):Option b.den:=if h:a=b then some (h ▸ x)else none
def conv:(a b:Ty)->a.den->Option b.den
 |.nS t,.slice u,x=>if h:t=u then some (h ▸ (Option.getD x []:List t.den))else none
 |a,b,x=>y2G a b x
def yJa:(u t:Ty)->u.den->Option TV
 |.nS u,.slice v,x=>if u=v then some ⟨.nS u,x⟩else none
 |u,t,x=>(y2G u t x).map λ y=>⟨t,y⟩
def Ty.flat:Ty->Bool
 |.bool|.int _|.str|.unit|.flt _|.cplx _|.err|.code=>true
 |.pair a b=>a.flat && b.flat
 |.arr _ t=>t.flat
 |_=>false
def Ty.app:Ty->Ty->Ty
 |.pair a b,t=>.pair a (b.app t)
 |_,t=>t
def yEe:(a t:Ty)->a.den->t.den->(a.app t).den
 |.pair _ b,t,x,y=>(x.1,yEe b t x.2 y)
 | .unit,_,_,y|.bool,_,_,y|.int _,_,_,y|.str,_,_,y|.slice _,_,_,y|.ref _,_,_,y|.func _ _,_,_,y
 |.arr _ _,_,_,y|.nS _,_,_,y|.map _ _,_,_,y|.err,_,_,y|.flt _,_,_,y|.cplx _,_,_,y|.code,_,_,y=>y
def y2x:(t:Ty)->List Value->Option t.den
 |.bool=>λ l=>match l with|[.bool b]=>some b|_=>none
 |.int k=>λ l=>match l with|[.int j n]=>if k=j then some n else none|_=>none
 |.str=>λ l=>match l with|[.string b]=>some b.data.toList|_=>none
 |.unit=>λ l=>match l with|[]=>some ()|_=>none
 |.pair a b=>λ l=>(y2x a (l.take a.size)).bind λ x=>(y2x b (l.drop a.size)).map λ y=>(x,y)
 |.slice _=>λ l=>match l with|[.slice none 0 0]=>some ([]:List _)|_=>none
 |.nS _=>λ l=>match l with|[.slice none 0 0]=>some none|_=>none
 |.err=>λ l=>match l with|[.nilIface]=>some true|_=>none
 |.flt k=>λ l=>match l with|[.float j n]=>if k=j then some (fcan k n)else none|_=>none
 |.map _ _=>λ l=>match l with|[.map none]=>some ([]:List _)|_=>none
 |.code=>λ l=>match l with|[.nilFunc]=>some (0:Nat)|_=>none
 |.arr n t=>λ l=>if l.length=n * t.size then (List.range n).mapM λ i=>y2x t ((l.drop (i * t.size)).take t.size)else none
 |_=>λ _=>none
def y4S(T:List (TypeId×TyI))(τ:TypeId):Value->SV
 |.bool b=>.val .bool b
 |.int k n=>.val (.int k) n
 |.string s=>.val .str s.data.toList
 |.slice none 0 0=>.nils
 |.pointer none=>.nilp
 |.nilIface=>.val .err true
 |.agg cs=>match yN T τ with|some i=>(match y2x i.ty cs.toList with|some x=>if i.ty.agg then .val i.ty x else .undef|none=>.undef)|none=>.undef
 |.map none=>match yN T τ with|some i=>(match i.ty with|.map k v=>.val (.map k v) []|_=>.undef)|none=>.undef
 |.float k n=>.val (.flt k) (fcan k n)
 |.complex k a b=>.val (.cplx k) (fcan k a,fcan k b)
 |.nilFunc=>match yN T τ with|some i=>(match i.ty with|.code=>.val .code (0:Nat)|_=>.undef)|none=>.undef
 |_=>.undef
def y5j:List (Nat×Ty×List Value)->Nat->SV
 |[],_=>.undef
 |p::l,b=>if p.1 == b then (match y2x p.2.1 p.2.2 with|some x=>.val (.ref p.2.1) x|none=>.undef)else y5j l b
def y8(T:List (TypeId×TyI))(τ:TypeId)(s:St):Operand->SV
 |.tmp t=>s.get t
 |.const v=>y4S T τ v
 |.global b=>y5j GT.gl b
 |.func f=>.clo f []
def SV.isVal:SV->Bool
 |.val _ _=>true
 |_=>false
def y9u(cs:List (Option Chunk))(β:Nat):Option TV:=
 match cs.getD β none with
 |some (.arr _ t xs nn)=>some (if nn then ⟨.nS t,some xs⟩else ⟨.slice t,xs⟩)
 |_=>none
def y5g(cs:List (Option Chunk))(β:Nat):Option TV:=
 match cs.getD β none with
 |some (.mp k v es)=>some ⟨.map k v,es⟩
 |_=>none
def y0p(cs:List (Option Chunk))(sv:SV)(t:Ty):Option t.den:=
 match sv with
 |.val u x=>conv u t x
 |.nils=>(match t with|.slice _=>some ([]:List _)|.nS _=>some none|_=>none)
 |.own β=>(y9u cs β).bind λ v=>conv v.t t v.x
 |.mO β=>(y5g cs β).bind λ v=>conv v.t t v.x
 |_=>none
def unX:SV->SV
 |.xV t x=>.val t x
 |sv=>sv
def one(svs:List SV)(t:Ty):Option t.den:=match svs with|[sv]=>y0p [] (unX sv) t|_=>none
def y2X:(t:Ty)->List SV->Option t.den
 |.unit=>λ l=>match l with|[]=>some ()|_=>none
 |.pair a b=>λ l=>(y2X a (l.take a.size)).bind λ x=>(y2X b (l.drop a.size)).map λ y=>(x,y)
 |.arr n t=>λ l=>if l.length=n * t.size then (List.range n).mapM λ i=>y2X t ((l.drop (i * t.size)).take t.size)else none
 |.bool=>λ l=>one l .bool
 |.int k=>λ l=>one l (.int k)
 |.str=>λ l=>one l .str
 |.slice t=>λ l=>one l (.slice t)
 |.nS t=>λ l=>one l (.nS t)
 |.ref t=>λ l=>one l (.ref t)
 |.func a b=>λ l=>one l (.func a b)
 |.map a b=>λ l=>one l (.map a b)
 |.err=>λ l=>one l .err
 |.flt k=>λ l=>one l (.flt k)
 |.cplx k=>λ l=>one l (.cplx k)
 |.code=>λ l=>one l .code
def y0D:(t:Ty)->t.den->List SV
 |.unit,_=>[]
 |.pair a b,p=>y0D a p.1++y0D b p.2
 |.arr n t,xs=>(List.range n).flatMap λ i=>y0D t (List.getD xs i t.dflt)
 |.bool,x=>[.val .bool x]
 |.int k,x=>[.val (.int k) x]
 |.str,x=>[.val .str x]
 |.slice t,x=>[.val (.slice t) x]
 |.nS t,x=>[.val (.nS t) x]
 |.ref t,x=>[.val (.ref t) x]
 |.func a b,x=>[.val (.func a b) x]
 |.map a b,x=>[.val (.map a b) x]
 |.err,x=>[.val .err x]
 |.flt k,x=>[.val (.flt k) x]
 |.cplx k,x=>[.val (.cplx k) x]
 |.code,x=>[.val .code x]
def y0U:(t:Ty)->List SV
 |.unit=>[]
 |.pair a b=>y0U a++y0U b
 |.arr n t=>(List.replicate n (y0U t)).flatten
 |.bool=>[.val .bool false]
 |.int k=>[.val (.int k) (0:Int)]
 |.str=>[.val .str ([]:List UInt8)]
 |.slice _=>[.nils]
 |.nS _=>[.nils]
 |.err=>[.val .err true]
 |.flt k=>[.val (.flt k) (0:Nat)]
 |.cplx k=>[.val (.cplx k) ((0:Nat),(0:Nat))]
 |.code=>[.val .code (0:Nat)]
 |_=>[.undef]
def Ty.zeroV:(t:Ty)->List Value
 |.unit=>[]
 |.pair a b=>a.zeroV++b.zeroV
 |.arr n t=>(List.replicate n t.zeroV).flatten
 |.bool=>[.bool false]
 |.int k=>[.int k 0]
 |.str=>[.string ⟨#[]⟩]
 |.slice _|.nS _=>[.slice none 0 0]
 |.err=>[.nilIface]
 |.flt k=>[.float k 0]
 |.cplx k=>[.complex k 0 0]
 |.code=>[.nilFunc]
 |.ref _=>[.pointer none]
 |.func _ _=>[.nilFunc]
 |.map _ _=>[.map none]
def y3V:(t:Ty)->t.den->Nat->Option TV
 |.pair a _,p,0=>some ⟨a,p.1⟩
 |.pair _ b,p,n+1=>y3V b p.2 n
 |_,_,_=>none
def y9c(t:Ty)(x:t.den)(off:Nat)(τ:Ty):Option TV:=
 match y21 t x off τ with
 |some y=>some ⟨τ,y⟩
 |none=>match τ with
  |.slice v=>(y21 t x off (.nS v)).map λ y=>⟨.nS v,y⟩
  |_=>none
def yBy(β:Nat)(t:Ty)(x:t.den):Cap->Cap
 |.box γ=>if γ=β then .val (.ref t) x else .box γ
 |c=>c
def y1V(β:Nat)(v:SV):SV->SV
 |.own γ=>if γ=β then v else .own γ
 |sv=>sv
def y6y(β:Nat)(v:SV):SV->SV
 |.mO γ=>if γ=β then v else .mO γ
 |sv=>sv
def yF3(β:Nat)(t:Ty)(x:t.den):SV->SV
 |.bP γ off=>if γ=β then (if off=0 then .val (.ref t) x else .undef)else .bP γ off
 |.clo f caps=>.clo f (caps.map (yBy β t x))
 |sv=>sv
def yJc(β:Nat)(v:SV):SV->SV
 |.sR γ=>if γ=β then v else .sR γ
 |sv=>sv
def y8P(β:Nat)(t:Ty)(o:Nat)(u:Ty)(xs:List t.den):SV->SV
 |.own γ=>if γ=β then .val (.slice t) xs else .own γ
 |.nO γ i=>if γ=β then (match (xs[i]?).bind λ x=>y21 t x o (.slice u)with|some ys=>.val (.slice u) ys|none=>.undef)else .nO γ i
 |sv=>sv
def Chunk.map(f:SV->SV):Chunk->Chunk
 |.box t cells=>.box t (cells.map f)
 |.rcd t cells=>.rcd t (cells.map f)
 |.lp i info cells st=>.lp i info (cells.map f) st
 |c=>c
def St.sub(s:St)(β:Nat)(f:SV->SV):St:={ sl:=s.sl.map f,cH:=(s.cH.set β none).map (Option.map (Chunk.map f)),kept:=s.kept.map f,dep:=s.dep,nmk:=s.nmk,rnd:=s.rnd }
def St.freeze(s:St)(β:Nat):St:=
 match s.cH.getD β none with
 |some (.arr _ t xs nn)=>s.sub β (y1V β (if nn then .val (.nS t) (some xs)else .val (.slice t) xs))
 |some (.box t cells)=>(match y2X t cells with|some x=>s.sub β (yF3 β t x)|none=>s)
 |some (.mp k v es)=>s.sub β (y6y β (.val (.map k v) es))
 |some (.mps k _ u es none)=>s.sub β (y6y β (.val (.map k (.slice u)) es))
 |some (.nst _ t o _ u xs)=>s.sub β (y8P β t o u xs)
 |some (.rcd t cells)=>(match y2X t cells with|some x=>s.sub β (yJc β (.val t x))|none=>s)
 |_=>s
def freezeCaps:List Cap->St->St
 |[],s=>s
 |.box β::cs,s=>freezeCaps cs (s.freeze β)
 |.val _ _::cs,s=>freezeCaps cs s
def St.settle1(s:St):SV->St
 |.own β=>s.freeze β
 |.mO β=>s.freeze β
 |.clo _ caps=>freezeCaps caps s
 |_=>s
def settleCells1:List SV->St->St
 |[],s=>s
 |sv::l,s=>settleCells1 l (s.settle1 sv)
def St.settle(s:St):SV->St
 |.sR β=>(match s.cH.getD β none with|some (.rcd _ cells)=>settleCells1 cells s|_=>s).freeze β
 |.nO β _=>s.freeze β
 |sv=>s.settle1 sv
def settleAll:List Operand->St->St
 |[],s=>s
 |.tmp t::l,s=>settleAll l (s.settle (s.get t))
 |_::l,s=>settleAll l s
def yAE:List Cap->Option TV
 |[]=>some ⟨.unit,()⟩
 |.val t x::cs=>(yAE cs).map λ v=>⟨.pair t v.t,(x,v.x)⟩
 |.box _::_=>none
def yF0(E:List Entry)(f:FuncId)(caps:List Cap)(a b:Ty):Option (a.den->Option b.den):=
 (y8v E f).bind λ e=>(yAE caps).bind λ c =>
  if h:e.args=a.app c.t/\e.rS=b then (bif c.t.solid then some λ x=>h.2 ▸ e.m (h.1 ▸ yEe a c.t x c.x)else none)else none
def y5A(E:List Entry)(cs:List (Option Chunk))(sv:SV)(t:Ty):Option t.den:=
 match sv,t with
 |.clo f caps,.func a b=>yF0 E f caps a b
 |.clo f [],.code=>some (f+1:Nat)
 |sv,t=>y0p cs sv t
def asFn(E:List Entry)(t:Ty)(sv:SV):SV:=
 match sv,t with
 |.clo f caps,.func a b=>(match yF0 E f caps a b with|some m=>.val (.func a b) m|none=>.clo f caps)
 |.clo f [],.code=>.val .code (f+1:Nat)
 |sv,_=>sv
def y0s(E:List Entry)(cs:List (Option Chunk)):(t:Ty)->List SV->Option t.den
 |.unit,[]=>some ()
 |.pair a b,sv::l=>(y5A E cs sv a).bind λ x=>(y0s E cs b l).map λ y=>(x,y)
 |_,_=>none
def y8U:(t:Ty)->t.den->SV
 |.pair a .unit,x=>.val a x.1
 |.pair a (.pair b c),x=>.tup (.pair a (.pair b c)) x
 |.unit,_=>.tup .unit ()
 |_,_=>.undef
section
variable {R:Type}
def idx{α:Type}(xs:List α)(i:Int):Option α:=if 0<=i then xs[i.toNat]? else none
def yEp(k:IntKind)(op:BinOp)(a b:Int):Int:=
 let x:=BitVec.ofInt k.bits a
 let y:=BitVec.ofInt k.bits b
 k.wrap ((match op with|.and=>x &&& y|.or=>x ||| y|.xor=>x ^^^ y|_=>x &&& ~~~y).toNat:Int)
def intK(op:BinOp)(k:IntKind)(a b:Int)(K:SV->Option R):Option R:=
 match op with
 |.add=>K (.val (.int k) (k.wrap (a+b)))
 |.sub=>K (.val (.int k) (k.wrap (a - b)))
 |.mul=>K (.val (.int k) (k.wrap (a * b)))
 |.quo=>bif b == 0 then none else K (.val (.int k) (k.wrap (a.tdiv b)))
 |.rem=>bif b == 0 then none else K (.val (.int k) (a.tmod b))
 |.and|.or|.xor|.andNot=>K (.val (.int k) (yEp k op a b))
 |.eql=>K (.val .bool (a == b))
 |.neq=>K (.val .bool (a != b))
 |.lss=>K (.val .bool (decide (a < b)))
 |.leq=>K (.val .bool (decide (a<=b)))
 |.gtr=>K (.val .bool (decide (a > b)))
 |.geq=>K (.val .bool (decide (a >= b)))
 |_=>none
def yAH(op:BinOp)(k:IntKind)(a b:Int)(K:SV->Option R):Option R:=
 bif decide (b < 0)then none else
 match op with
 |.shl=>K (.val (.int k) (k.wrap (a * 2 ^ (min b.toNat k.bits))))
 |.shr=>K (.val (.int k) (a.fdiv (2 ^ (min b.toNat k.bits))))
 |_=>none
def strMax:Nat:=4611686018427387904
def strK(op:BinOp)(a b:List UInt8)(K:SV->Option R):Option R:=
 match op with
 |.add=>bif decide (a.length+b.length < strMax)then K (.val .str (a++b))else none
 |.eql=>K (.val .bool (a == b))
 |.neq=>K (.val .bool (!(a == b)))
 |.lss=>K (.val .bool (Op.bytesLess a b))
 |.leq=>K (.val .bool (Op.bytesLess a b || a == b))
 |.gtr=>K (.val .bool (!(Op.bytesLess a b || a == b)))
 |.geq=>K (.val .bool (!Op.bytesLess a b))
 |_=>none
def yIb(k:FloatKind)(a:Nat):Nat:=fcan k (Op.negFloat k a)
def yBD(n:Int):List UInt8:=(Utf8.encode n).data.toList
def y14(xs:List Int):List UInt8:=xs.map λ n=>UInt8.ofNat n.toNat
def yPz(T:List (TypeId×TyI))(t:TypeId):Bool:=match yN T t with
 |some j=>decide (j.ty=.slice (.int .u8)) && (match yN T j.elem with|some m=>decide (m.ty=.int .u8)|none=>false)
 |none=>false
def y7R(k:FloatKind)(n:Int):Nat:=floatOfInt k n
def yBG(k:FloatKind)(a:Nat)(j:IntKind):Option Int:=floatToIntVal k a j
def yFy(k:FloatKind)(a:Nat)(j:FloatKind):Option Nat:=bif (k.format.read a).isNaN then some (fnan j)else floatToFloatBits k a j
def fltK(op:BinOp)(k:FloatKind)(a b:Nat)(K:SV->Option R):Option R:=none
def y4c(op:BinOp)(k:FloatKind)(x y:Nat×Nat)(K:SV->Option R):Option R:=none
def yLh(xs:List SV)(K:SV->Option R):Option R:=none
def yM6(xs:List SV)(K:SV->Option R):Option R:=none
def yKn(xs:List SV)(K:SV->Option R):Option R:=none
def Ty.cmp:Ty->Bool
 |.bool|.int _|.str|.unit=>true
 |.pair a b=>a.cmp && b.cmp
 |.arr _ t=>t.cmp
 |_=>false
def eqV:(t:Ty)->t.den->t.den->Bool
 |.bool,x,y=>(show Bool from x) == y
 |.int _,x,y=>(show Int from x) == y
 |.str,x,y=>(show List UInt8 from x) == y
 |.pair a b,x,y=>eqV a x.1 y.1 && eqV b x.2 y.2
 |.arr n t,x,y=>(List.range n).all λ i=>eqV t (List.getD x i t.dflt) (List.getD y i t.dflt)
 |.code,x,y=>(show Nat from x) == y
 |_,_,_=>true
def aggK(ty:Ty)(op:BinOp)(t:Ty)(p:t.den)(u:Ty)(q:u.den)(K:SV->Option R):Option R:=
 if h:u=t then (if ty=t/\t.cmp=true then (match op with
  |.eql=>K (.val .bool (eqV t p (h ▸ q)))
  |.neq=>K (.val .bool (!eqV t p (h ▸ q)))
  |_=>none)else none)else none
def y5k(ty:Ty)(op:BinOp)(b:Bool)(K:SV->Option R):Option R:=
 match ty with
 |.ref _=>(match op with
  |.eql=>K (.val .bool b)
  |.neq=>K (.val .bool (!b))
  |_=>none)
 |_=>none
def binK(ty:Ty)(op:BinOp)(x y:SV)(K:SV->Option R):Option R:=
 match x,y with
 |.val (.int k) a,.val (.int j) b =>
  match op with
  |.shl|.shr=>yAH op k a b K
  |_=>if k=j then intK op k a b K else none
 |.val .str a,.val .str b=>strK op a b K
 |.val .bool a,.val .bool b=>if ty=.bool then (match op with
  |.eql=>K (.val .bool (a == b))
  |.neq=>K (.val .bool (!(a == b)))
  |_=>none)else none
 |.val (.flt k) a,.val (.flt j) b=>if k=j then fltK op k a b K else none
 |.val (.cplx k) a,.val (.cplx j) b=>if k=j then y4c op k a b K else none
 |.val (.nS _) a,.nils=>(match ty with
  |.slice _|.nS _=>(match op with
   |.eql=>K (.val .bool (Option.isNone a))
   |.neq=>K (.val .bool (!Option.isNone a))
   |_=>none)
  |_=>none)
 |.val (.pair a b) p,.val u q=>aggK ty op (.pair a b) p u q K
 |.val (.arr n t) p,.val u q=>aggK ty op (.arr n t) p u q K
 |.nilp,.nilp=>y5k ty op true K
 |.bP _ _,.nilp=>y5k ty op false K
 |.eP _ _ _ _,.nilp=>y5k ty op false K
 |.val (.ref _) _,.nilp=>y5k ty op false K
 |_,_=>none
def unK(op:UnOp)(x:SV)(K:SV->Option R):Option R:=
 match op,x with
 |.neg,.val (.int k) a=>K (.val (.int k) (k.wrap (0 - a)))
 |.xor,.val (.int k) a=>K (.val (.int k) (yEp k .xor (if k.signed then -1 else k.max) a))
 |.not,.val .bool b=>K (.val .bool (!b))
 |.neg,.val (.flt k) a=>K (.val (.flt k) (yIb k a))
 |_,_=>none
def y4j(E:List Entry):(t:Ty)->t.den->Nat->SV->Option t.den
 |.pair a _,p,0,sv=>(y5A E [] sv a).map λ y=>(y,p.2)
 |.pair _ b,p,n+1,sv=>(y4j E b p.2 n sv).map λ q=>(p.1,q)
 |_,_,_,_=>none
def refine(l:List Nat):Ty->Nat->Ty
 |.pair a b,k=>.pair (match a with|.slice u=>if l.contains k then .slice u else .nS u|a=>a) (refine l b (k+1))
 |t,_=>t
def bty(m:Bool)(l:List Nat)(t:Ty):Ty:=if m then refine l t 0 else t
def y6w(E:List Entry)(s:St)(T:List (TypeId×TyI))(tys:List (Nat×TypeId))(t:Ty):List (Nat×Operand)->t.den->Option t.den
 |[],x=>some x
 |p::ps,x=>(y4j E t x p.1 (y8 T ((tys.getD p.1 (0,0)).2) s p.2)).bind λ y=>y6w E s T tys t ps y
def y48(E:List Entry)(s:St)(T:List (TypeId×TyI))(u:Ty)(e:TypeId):List (Nat×Operand)->List u.den->Option (List u.den)
 |[],xs=>some xs
 |p::ps,xs=>if p.1 < xs.length then (y5A E [] (y8 T e s p.2) u).bind λ y=>y48 E s T u e ps (xs.set p.1 y)else none
def Ty.zok:Ty->Bool
 |.ref _=>false
 |.pair a b=>a.zok && b.zok
 |.arr _ t=>t.zok
 |_=>true
def memMax:Nat:=68719476736
def Ty.isPair:Ty->Bool
 |.pair _ _=>true
 |_=>false
def Ty.elemIs(t u:Ty):Bool:=decide (t=.slice u) || decide (t=.nS u)
def yFl:List Cap->Bool
 |[]=>true
 |.val _ _::cs=>yFl cs
 |.box _::_=>false
def SV.pure:SV->Bool
 |.val _ _|.tup _ _|.nils=>true
 |.clo _ caps=>yFl caps
 |_=>false
def yGa:(t:Ty)->t.den->Nat->Option TV
 |.pair a _,p,0=>some ⟨a,p.1⟩
 |.pair _ b,p,n+1=>yGa b p.2 n
 |_,_,_=>none
def yAy:SV->Option Int
 |.val (.int _) n=>some n
 |_=>none
def Ty.isSlice:Ty->Bool
 |.slice _|.nS _=>true
 |_=>false
def lenK(ty:Ty)(cs:List (Option Chunk))(x:SV)(K:SV->Option R):Option R:=
 match x with
 |.val (.slice _) xs=>if ty.isSlice then K (.val (.int .i64) ((List.length xs:Nat):Int))else none
 |.val (.nS _) xs=>if ty.isSlice then K (.val (.int .i64) ((List.length (Option.getD xs []):Nat):Int))else none
 |.val .str b=>if ty=.str then K (.val (.int .i64) ((List.length b:Nat):Int))else none
 |.nils=>if ty.isSlice then K (.val (.int .i64) (0:Int))else none
 |.own β=>if ty.isSlice then (match cs.getD β none with|some (.arr _ _ xs _)=>K (.val (.int .i64) ((List.length xs:Nat):Int))|some (.nst _ _ _ _ _ xs)=>K (.val (.int .i64) ((List.length xs:Nat):Int))|_=>none)else none
 |.nO β m=>if ty.isSlice then (match cs.getD β none with|some (.nst _ u o _ v xs)=>(xs[m]?).bind λ x=>(y21 u x o (.slice v)).bind λ ys=>K (.val (.int .i64) ((List.length ys:Nat):Int))|_=>none)else none
 |_=>match ty with
  |.arr n _=>K (.val (.int .i64) ((n:Nat):Int))
  |_=>none
def y66{α:Type}(xs:List α)(lo hi:Option Int)(K:List α->Option R):Option R:=
 match lo,hi with
 |none,none=>K xs
 |some l,none=>bif decide (0<=l) && decide (l<=(xs.length:Int))then K (xs.drop l.toNat)else none
 |none,some h=>bif decide (0<=h) && decide (h<=(xs.length:Int))then K (xs.take h.toNat)else none
 |some l,some h=>bif decide (0<=l) && decide (l<=h) && decide (h<=(xs.length:Int))then K ((xs.take h.toNat).drop l.toNat)else none
def y7E(T:List (TypeId×TyI))(s:St):Option Operand->Option (Option Int)
 |none=>some none
 |some x=>(yAy (y8 T 0 s x)).map some
def imax(a b:Int):Int:=if b > a then b else a
def imin(a b:Int):Int:=if b < a then b else a
def yEf(k:IntKind):List SV->Option (List Int)
 |[]=>some []
 |.val (.int j) a::l=>if k=j then (yEf k l).map λ r=>a::r else none
 |_=>none
def maxK(mx:Bool)(xs:List SV)(K:SV->Option R):Option R:=
 match xs with
 |[.val (.int k) a,.val (.int j) b]=>if k=j then K (.val (.int k) (if mx then (if b > a then b else a)else (if b < a then b else a)))else none
 |.val (.int k) a::l=>(yEf k l).bind λ r=>match r with
  |[b,c]=>K (.val (.int k) (if mx then imax (imax a b) c else imin (imin a b) c))
  |[b,c,d]=>K (.val (.int k) (if mx then imax (imax (imax a b) c) d else imin (imin (imin a b) c) d))
  |_=>none
 |_=>none
def y9A(g:G)(o:Oper):Bool:=
 match o.dst with
 |some d=>g.fz.contains d
 |none=>false
def y58(g:G):Option Nat->Bool
 |some d=>g.mU.contains d
 |none=>false
def y5q:List SV->Option (List Cap)
 |[]=>some []
 |.bP β 0::l=>(y5q l).map λ cs=>.box β::cs
 |.val t y::l=>(y5q l).map λ cs=>.val t y::cs
 |_::_=>none
def Ty.keyOk:Ty->Bool
 |.str|.int _=>true
 |_=>false
def Ty.keyPart:Ty->Bool
 |.bool|.int _|.str=>true
 |_=>false
def Ty.keyF:Ty->Bool
 |.unit=>true
 |.pair a b=>a.keyPart && b.keyF
 |_=>false
def Ty.keyAll(k:Ty):Bool:=k.keyOk || k.keyF
def y0A(k v:Ty):List (k.den×v.den)->k.den->Option v.den
 |[],_=>none
 |p::l,x=>bif eqV k x p.1 then some p.2 else y0A k v l x
def y3g(k v:Ty):List (k.den×v.den)->k.den->v.den->List (k.den×v.den)
 |[],x,y=>[(x,y)]
 |p::l,x,y=>bif eqV k x p.1 then (x,y)::l else p::y3g k v l x y
def yBV(k v:Ty)(es:List (k.den×v.den))(x:k.den)(ok:Bool)(K:SV->Option R):Option R:=
 if ok then K (.tup (.pair v (.pair .bool .unit)) (((y0A k v es x).getD v.dflt),(y0A k v es x).isSome,()))else K (.val v ((y0A k v es x).getD v.dflt))
def yBA(cs:List (Option Chunk)):SV->Option TV
 |.val (.map k v) es=>some ⟨.map k v,es⟩
 |.mO β=>y5g cs β
 |_=>none
structure HoleV where
 k:Ty
 x:k.den
 u:Ty
 γ:Nat
def y8s(cs:List (Option Chunk)):SV->Option HoleV
 |.mO β=>(match cs.getD β none with|some (.mps k _ u _ (some q))=>some ⟨k,q.1,u,q.2⟩|_=>none)
 |_=>none
def yBB(g:G)(s:St)(f:FuncId)(first:List Operand)(K:SV->Option R):Option R:=
 match first with
 |[x]=>(match y8 g.T 0 s x with
  |.bP β 0=>K (.meth f β)
  |sv=>(match y8v g.E f with
   |some ⟨_,.pair t a,r,m,_,_⟩=>bif t.solid then (y0p [] sv t).bind λ y=>K (.val (.func a r) (λ z=>m (y,z)))else none
   |_=>none))
 |_=>none
def ptrK(sv:SV)(K:SV->Option R):Option R:=
 match sv with
 |.bP β off=>K (.bP β off)
 |.eP β n sz off=>K (.eP β n sz off)
 |.val (.ref t) y=>K (.val (.ref t) y)
 |_=>none
def y9Q(cs:List (Option Chunk))(sv:SV)(K:SV->Option R):Option R:=
 match sv with
 |.own β=>(match cs.getD β none with
  |some (.arr _ (.int .u8) xs _)=>bif decide (0 < List.length xs)then K (.eP β 0 1 0)else none
  |_=>none)
 |_=>none
def y8G(u:Ty)(o:Nat)(v:Ty)(x:u.den)(off:Nat)(τ:Ty)(β n:Nat)(K:SV->Option R):Option R:=
 if off=o/\τ.elemIs v=true then K (.nO β n)else
 (y1F u x o (.slice v) ([]:List v.den)).bind λ x0=>(y9c u x0 off τ).bind λ y=>if o < off\/off+y.t.size<=o then K (.val y.t y.x)else none
def yC2(g:G)(o:Oper)(sv:SV):SV:=
 if y9A g o then (match sv,yN g.T o.type with
  |.nils,some i=>(match i.ty with|.slice u=>.val (.slice u) ([]:List u.den)|_=>.nils)
  |sv,_=>sv)else sv
def yU(g:G)(s:St)(o:Oper)(K:SV->Option R):Option R:=
 match o.op with
 |.move x=>K (y8 g.T o.type s x)
 |.assign x=>K (yC2 g o (y8 g.T o.type s x))
 |.pick c a b=>(match y8 g.T 0 s c with
  |.val .bool p=>bif p then K (y8 g.T o.type s a)else K (y8 g.T o.type s b)
  |_=>none)
 |.load t a=>if g.vl && !(y8 g.T 0 s a).isVal then none else (match yN g.T t,y8 g.T 0 s a with
  |some i,.val (.ref u) x=>(yJa u i.ty x).bind λ y=>K (.val y.t y.x)
  |some i,.bP β off=>(match s.cH.getD β none with
   |some (.box _ cells)=>if i.ty.agg then (y2X i.ty ((cells.drop off).take i.ty.size)).bind λ y=>K (.val i.ty y)else (cells[off]?).bind K
   |_=>none)
  |some i,.eP β n sz off=>(match s.cH.getD β none with
   |some (.arr _ u xs _)=>if sz=u.size then (xs[n]?).bind λ x=>(y9c u x off i.ty).bind λ y=>K (.val y.t y.x)else none
   |some (.nst _ u q _ v xs)=>if sz=u.size then (xs[n]?).bind λ x=>y8G u q v x off i.ty β n K else none
   |_=>none)
  |some i,.nP β n j sz off=>(match s.cH.getD β none with
   |some (.nst _ u q _ v xs)=>if sz=v.size then (xs[n]?).bind λ x=>(y21 u x q (.slice v)).bind λ ys=>((ys:List v.den)[j]?).bind λ y=>(y9c v y off i.ty).bind λ z=>K (.val z.t z.x)else none
   |_=>none)
  |_,_=>none)
 |.binOp op t x y _=>(match yN g.T t with
  |none=>none
  |some i=>(match i.ty,y8 g.T t s x,y,op with
   |.err,.val .err b,.const .nilIface,.eql=>K (.val .bool b)
   |.err,.val .err b,.const .nilIface,.neq=>K (.val .bool (!b))
   |ty,sx,y,op=>binK ty op sx (y8 g.T t s y) K))
 |.unOp op t x=>unK op (y8 g.T t s x) K
 |.convert sr d x=>if (yN g.T sr).isNone then none else (match yN g.T d,y8 g.T d s x with
  |some i,.val (.int _) n=>(match i.ty with|.int k=>K (.val (.int k) (k.wrap n))|.flt k=>K (.val (.flt k) (y7R k n))|.str=>K (.val .str (yBD n))|_=>none)
  |some i,.val .str b=>(match i.ty with|.str=>K (.val .str b)|_=>none)
  |some i,.val (.flt k) a=>(match i.ty with|.int j=>(yBG k a j).bind λ n=>K (.val (.int j) n)|.flt j=>(yFy k a j).bind λ n=>K (.val (.flt j) n)|_=>none)
  |some i,.val (.slice (.int .u8)) xs=>(match i.ty with|.str=>if yPz g.T sr then K (.val .str (y14 xs))else none|_=>none)
  |_,_=>none)
 |.field t x f=>(match yN g.T t,y8 g.T 0 s x with
  |some i,.val u y=>if u=i.ty then (y3V u y f).bind λ v=>K (.val v.t v.x)else none
  |some i,.sR β=>(match s.cH.getD β none with
   |some (.rcd u cells)=>if u=i.ty/\i.ty.isPair=true then (i.fields[f]?).bind λ p=>(yN g.T p.2).bind λ j=>if j.ty.agg then (y2X j.ty ((cells.drop p.1).take j.ty.size)).bind λ y=>K (.val j.ty y)else (cells[p.1]?).bind K else none
   |_=>none)
  |_,_=>none)
 |.fieldAddr t x f=>(match yN g.T t,y8 g.T 0 s x with
  |some i,.val (.ref u) y=>if u=i.ty then (y3V u y f).bind λ v=>K (.val (.ref v.t) v.x)else none
  |some i,.bP β off=>if i.ty.isPair then (i.fields[f]?).bind λ p=>K (.bP β (off+p.1))else none
  |some i,.eP β n sz off=>if i.ty.isPair then (i.fields[f]?).bind λ p=>K (.eP β n sz (off+p.1))else none
  |some i,.nP β n j sz off=>if i.ty.isPair then (i.fields[f]?).bind λ p=>K (.nP β n j sz (off+p.1))else none
  |_,_=>none)
 |.indexAddr t x ix=>(match yN g.T t,y8 g.T 0 s ix,y8 g.T t s x with
  |some i,.val (.int _) n,.val (.slice u) xs=>if i.ty.elemIs u then (idx xs n).bind λ y=>K (.val (.ref u) y)else none
  |some i,.val (.int _) n,.val (.nS u) xs=>if i.ty.elemIs u then (idx (Option.getD xs []) n).bind λ y=>K (.val (.ref u) y)else none
  |some i,.val (.int _) n,.val (.ref (.arr m u)) xs=>if i.ty=.arr m u then (idx xs n).bind λ y=>K (.val (.ref u) y)else none
  |some i,.val (.int _) n,.own β=>(match s.cH.getD β none with
   |some (.arr _ u xs _)=>if i.ty.elemIs u then (idx xs n).bind λ _=>K (.eP β n.toNat u.size 0)else none
   |some (.nst _ u _ _ _ xs)=>if i.ty.elemIs u then (idx xs n).bind λ _=>K (.eP β n.toNat u.size 0)else none
   |_=>none)
  |some i,.val (.int _) n,.nO β m=>(match s.cH.getD β none with
   |some (.nst _ u q _ v xs)=>if i.ty.elemIs v then (xs[m]?).bind λ x=>(y21 u x q (.slice v)).bind λ ys=>(idx (ys:List v.den) n).bind λ _=>K (.nP β m n.toNat v.size 0)else none
   |_=>none)
  |some i,.val (.int _) n,.bP β off=>(match i.ty with
    |.arr m u=>bif decide (0<=n) && decide (n < (m:Int))then (match s.cH.getD β none with
     |some (.arr _ v _ _)=>if off=0/\v=u then K (.eP β n.toNat u.size 0)else none
     |some _=>K (.bP β (off+n.toNat * u.size))
     |none=>none)else none
    |_=>none)
  |_,_,_=>none)
 |.index t x ix=>(match yN g.T t,y8 g.T 0 s ix,y8 g.T t s x with
  |some i,.val (.int _) n,.val .str b=>if i.ty=.str then (idx b n).bind λ c=>K (.val (.int .u8) (c.toNat:Int))else none
  |some i,.val (.int _) n,.val (.arr m u) xs=>if i.ty=.arr m u then (idx xs n).bind λ y=>K (.val u y)else none
  |_,_,_=>none)
 |.lookup t x ix ok=>(match yN g.T t,yBA s.cH (y8 g.T t s x)with
  |some i,some ⟨.map k v,es⟩=>if i.ty=.map k v/\k.keyAll=true/\v.zok=true then (y0p [] (y8 g.T 0 s ix) k).bind λ y=>yBV k v es y ok K else none
  |some i,none=>(match y8s s.cH (y8 g.T t s x)with
   |some hv=>if ok=false/\i.ty=.map hv.k (.slice hv.u)/\hv.k.keyOk=true then (y0p [] (y8 g.T 0 s ix) hv.k).bind λ y=>bif yGf hv.k hv.x y then K (.own hv.γ)else none else none
   |none=>none)
  |_,_=>none)
 |.extract x n=>(match y8 g.T 0 s x with
  |.tup t y=>(yGa t y n).bind λ v=>K (.val v.t v.x)
  |.sR β=>(match s.cH.getD β none with
   |some (.rcd .bool cells)=>(cells[n]?).bind K
   |_=>none)
  |_=>none)
 |.box e x=>if y58 g o.dst then none else
  (match yN g.T e with
  |some i=>(y0p [] (y8 g.T e s x) i.ty).bind λ y=>K (.val (.ref i.ty) y)
  |none=>none)
 |.build t ps=>(match yN g.T t with
  |some i=>(match i.ty with
   |.arr n u=>if u.zok then (y48 g.E s g.T u i.elem ps.toList (List.replicate n u.dflt)).bind λ y=>K (.val (.arr n u) y)else none
   |.pair b c=>if (Ty.pair b c).zok then (y6w g.E s g.T i.fields (bty (y58 g o.dst) (ps.toList.map (·.1)) (.pair b c)) ps.toList (bty (y58 g o.dst) (ps.toList.map (·.1)) (.pair b c)).dflt).bind λ y=>K (.val (bty (y58 g o.dst) (ps.toList.map (·.1)) (.pair b c)) y)else none
   |_=>none)
  |none=>none)
 |.buildSlice t n ps=>if y58 g o.dst then none else
  (match yN g.T t with
  |some i=>(match i.ty with
   |.slice u=>if u.zok && decide (n * u.size<=16777216)then (y48 g.E s g.T u i.elem ps.toList (List.replicate n u.dflt)).bind λ y=>K (.val (.slice u) y)else none
   |_=>none)
  |none=>none)
 |.makeFunc (.func f) first caps=>if first.size=0 then (y5q (caps.toList.map λ x=>y8 g.T 0 s x)).bind λ cs=>K (.clo f cs)else if caps.size=0 then yBB g s f first.toList K else none
 |.slice t x lo hi mx=>(match mx,y7E g.T s lo,y7E g.T s hi with
  |none,some l,some h=>(match yN g.T t,y8 g.T t s x with
   |some i,.val (.slice u) xs=>if i.ty.elemIs u then y66 xs l h λ ys=>K (.val (.slice u) ys)else none
   |some i,.val (.nS u) xs=>if i.ty.elemIs u then y66 (Option.getD xs []) l h λ ys=>K (.val (.slice u) ys)else none
   |some i,.val .str b=>if i.ty=.str then y66 b l h λ ys=>K (.val .str ys)else none
   |some i,.val (.ref (.arr n u)) xs=>if i.ty=.arr n u/\n<=maxLen then y66 (xs:List u.den) l h λ ys=>K (.val (.slice u) ys)else none
   |_,_=>none)
  |_,_,_=>none)
 |.call { callee:=.builtin b,args,argTypes }=>(match b with
  |.len=>(match args.toList,argTypes.toList with
   |[x],[t]=>(match yN g.T t with
    |some i=>lenK i.ty s.cH (y8 g.T t s x) K
    |none=>none)
   |_,_=>none)
  |.max=>maxK true (args.toList.map λ x=>y8 g.T o.type s x) K
  |.min=>maxK false (args.toList.map λ x=>y8 g.T o.type s x) K
  |.complex=>yLh (args.toList.map λ x=>y8 g.T o.type s x) K
  |.real=>yM6 (args.toList.map λ x=>y8 g.T o.type s x) K
  |.imag=>yKn (args.toList.map λ x=>y8 g.T o.type s x) K
  |.unsafeSliceData=>(match args.toList with
   |[x]=>y9Q s.cH (y8 g.T 0 s x) K
   |_=>none)
  |_=>none)
 |.nilCheck x=>ptrK (y8 g.T 0 s x) K
 |_=>none
inductive Tgt where
 | fn (n:FuncId)
 | round (info:LpInfo)
abbrev yv (R:Type):=Tgt->List SV->St->(SV->St->Option R)->Option R
def y1G(T:List (TypeId×TyI))(s:St):List Operand->List TypeId->List SV
 |[],_=>[]
 |x::l,ts=>y8 T (ts.headD 0) s x::y1G T s l ts.tail
def yQc(s:St):Operand->Bool
 |.tmp t=>(match s.get t with
  |.own β=>(match s.cH.getD β none with|some (.nst _ _ _ _ _ _)=>true|_=>false)
  |_=>false)
 |_=>false
def y0u(g:G)(ta tr:Ty)(m:ta.den->Option tr.den)(s:St)(c:Call)(caps:St->List SV)(dr:Bool)(dst:Option Nat)(k:St->Option R):Option R:=
 if tr.flat && (dr || !(c.args.toList.any (yQc s)))then
  (y0s g.E s.cH ta (y1G g.T s c.args.toList c.argTypes.toList++caps s)).bind λ x=>(m x).bind λ y=>k (s.put dst (y8U tr y))
 else if dr then
  (y0s g.E [] ta (y1G g.T s c.args.toList c.argTypes.toList++caps s)).bind λ x=>(m x).bind λ y=>k (s.put dst (y8U tr y))
 else
  let s':=settleAll (c.args.toList++(match c.callee with|.value f=>[f]|_=>[])) s
  (y0s g.E [] ta (y1G g.T s' c.args.toList c.argTypes.toList++caps s')).bind λ x=>(m x).bind λ y=>k (s'.put dst (y8U tr y))
def y1T:List Cap->List SV
 |[]=>[]
 |.box β::cs=>.bP β 0::y1T cs
 |.val t x::cs=>.val t x::y1T cs
def ya(T:List (TypeId×TyI))(f:Operand)(s:St):List SV:=
 match y8 T 0 s f with
 |.clo _ caps=>y1T caps
 |_=>[]
def y0h:List Tmp->List SV->List SV->List SV
 |t::ps,x::xs,l=>y0h ps xs (l.set t x)
 |_,_,l=>l
def St.setLp(s:St)(β:Nat)(old st:LpSt):Option St:=
 match s.cH.getD β none with
 |some (.lp i info cells st')=>if st'=old then some { s with cH:=s.cH.set β (some (.lp i info cells st)) }else none
 |_=>none
def y4C(keep:List Nat):Nat->List SV->List SV
 |_,[]=>[]
 |i,sv::l=>(if keep.contains i then sv else .undef)::y4C keep (i+1) l
def St.live(s:St):Option (List Nat)->St
 |none=>s
 |some l=>{ s with sl:=.ofList (y4C l 0 s.slots) }
def y9v(g:G)(call:yv R)(s:St)(o:Oper)(c:Call)(f:Operand)(β:Nat)(k:St->Option R):Option R:=
 match s.cH.getD β none with
 |some (.lp i info cells .ready) =>
  let xs:=y1G g.T s c.args.toList c.argTypes.toList
  if xs.length=info.ps.size then
   call (.round info) (y0h info.ps.toList xs cells) { s.live g.lv with kept:=.yld β::s.kept } λ r s2 =>
    match s2.kept with
    |.yld β'::kept=>(match r with
     |.val .bool b=>k ({ s2 with kept:=kept }.put o.dst (.val .bool b))
     |_=>none)
    |_=>none
  else none
 |_=>none
def y85(cs:List (Option Chunk))(sv:SV)(u:Ty):Option u.den:=
 match sv with
 |.own γ=>(match cs.getD γ none with|some (.arr _ t xs _)=>(List.getLast? xs).bind (y2G t u)|_=>none)
 |.val (.slice t) xs=>(List.getLast? (show List t.den from xs)).bind (y2G t u)
 |_=>none
def yNH(cs:List (Option Chunk))(sv:SV)(u:Ty)(K:u.den->Option R):Option R:=
 match sv with
 |.own γ=>(match cs.getD γ none with
  |some (.arr _ t xs _)=>if h:t=u then (List.getLast? xs).bind λ x=>K (h ▸ x)else none
  |_=>none)
 |.val (.slice t) xs=>if h:t=u then (List.getLast? (show List t.den from xs)).bind λ x=>K (h ▸ x)else none
 |_=>none
theorem yBI{cs:List (Option Chunk)}{sv:SV}{u:Ty}{K:u.den->Option R}:yNH cs sv u K=(y85 cs sv u).bind K:=by
 have key:∀ (t:Ty) (xs:List t.den),(if h:t=u then (List.getLast? xs).bind λ x=>K (h ▸ x)else none)=((List.getLast? xs).bind (y2G t u)).bind K:=λ t xs=>by
  by_cases h:t=u
  ·subst h;rw[dif_pos rfl,Option.bind_assoc];congr 1
   funext x
   simp[y2G]
  ·rw[dif_neg h];cases List.getLast? xs with
   |none=>rfl
   |some x=>simp[y2G,h]
 unfold yNH y85;split
 ·split
  ·exact key _ _
  ·rfl
 ·exact key _ _
 ·rfl
def yDX(β off:Nat)(s:List UInt8)(K:SV->Option R):List (List UInt8×Nat)->Option R
 |[]=>K .nilp
 |p::l=>bif s == p.1 then K (.bP β (off+p.2))else yDX β off s K l
def rdK(q:RdK)(cs:List (Option Chunk))(svs:List SV)(K:SV->Option R):Option R:=
 match q,svs with
 |.last o u,[.bP β off]=>(match cs.getD β none with
  |some (.box _ cells)=>(cells[off+o]?).bind λ sv=>yNH cs sv u λ x=>K (.val u x)
  |_=>none)
 |.part l,[.bP β off,.val .str s]=>(match cs.getD β none with
  |some (.box _ _)=>yDX β off s K l
  |_=>none)
 |_,_=>none
def yCV(g:G)(d:Option Nat)(n:FuncId):Option Entry:=if y58 g d then none else y8v g.E n
def yBL(g:G)(call:yv R)(s:St)(o:Oper)(c:Call)(m:Nat)(k:St->Option R):List FuncId->Option R
 |[]=>none
 |n::l=>bif m == n+1 then (match yCV g o.dst n with
  |some e=>y0u g e.args e.rS e.m s c (λ _=>[]) false o.dst k
  |none=>call (.fn n) (y1G g.T s c.args.toList c.argTypes.toList) (s.live g.lv) λ r s'=>k (s'.put o.dst r))else yBL g call s o c m k l
def yC3(g:G)(call:yv R)(dr:Bool)(s:St)(o:Oper)(c:Call)(f:Operand)(k:St->Option R):Option R:=
 match y8 g.T 0 s f with
 |.clo n _=>(match yCV g o.dst n with
  |some e=>(match e.rdk with
   |some q=>rdK q s.cH (y1G g.T s c.args.toList c.argTypes.toList++ya g.T f s) λ sv=>k (s.put o.dst sv)
   |none=>y0u g e.args e.rS e.m s c (ya g.T f) dr o.dst k)
  |none=>if dr then none else call (.fn n) (y1G g.T s c.args.toList c.argTypes.toList++ya g.T f s) (s.live g.lv) λ r s'=>k (s'.put o.dst r))
 |.val (.func a b) m=>y0u g a b m s c (λ _=>[]) dr o.dst k
 |.val .code m=>if dr then none else yBL g call s o c m k g.cand
 |.yld β=>if dr then none else y9v g call s o c f β k
 |.meth n β=>if dr then none else call (.fn n) (.bP β 0::y1G g.T s c.args.toList c.argTypes.toList) (s.live g.lv) λ r s'=>k (s'.put o.dst r)
 |_=>none
def freezeIf(g:G)(s:St)(a:Operand):St:=
 match a with
 |.tmp p=>if g.fz.contains p then (match s.get p with|.bP β _=>s.freeze β|_=>s)else s
 |_=>s
def y32(T:List (TypeId×TyI)):List TypeId->Option Ty
 |[]=>some .unit
 |t::l=>(yN T t).bind λ i=>(y32 T l).map λ b=>.pair i.ty b
def y0N(T:List (TypeId×TyI)):List TypeId->Nat->List SV
 |[],_=>[]
 |t::l,m=>match yN T t with
  |none=>[]
  |some i=>match i.ty with
   |.slice _=>.own m::y0N T l (m+1)
   |u=>y0U u++y0N T l m
def yK(T:List (TypeId×TyI)):List TypeId->List (Option Chunk)
 |[]=>[]
 |t::l=>match yN T t with
  |none=>[]
  |some i=>match i.ty with
   |.slice u=>some (.arr i.elem u [] false)::yK T l
   |_=>yK T l
def y19(t:Ty)(β e:Nat)(cells:List SV):List SV:=
 match t with
 |.pair (.ref .unit) _=>cells.set 0 (.mP β e)
 |_=>cells
def y3d(g:G)(s:St)(e:TypeId)(i:TyI)(d:Option Nat)(k:St->Option R):Option R:=
 match i.ty with
 |.arr n u=>if u.zok=true/\n<=16777216 then k ({ s with cH:=s.cH++[some (Chunk.arr e u (List.replicate n u.dflt) true)] }.put d (.bP s.cH.length 0))else none
 |.slice _ =>
  let cs:=s.cH++yK g.T [e]
  k ({ s with cH:=cs++[some (Chunk.box i.ty (y0N g.T [e] s.cH.length))] }.put d (.bP cs.length 0))
 |_ =>
  let l:=i.fields.map (·.2)
  if y32 g.T l=some i.ty then
   let cs:=s.cH++yK g.T l
   k ({ s with cH:=cs++[some (Chunk.box i.ty (y19 i.ty cs.length e (y0N g.T l s.cH.length)))] }.put d (.bP cs.length 0))
  else none
def yG6(T:List (TypeId×TyI))(e:TypeId)(sv:SV):Bool:=
 match sv,yN T e with
 |.nils,some i=>(match i.ty with|.slice _=>true|_=>false)
 |_,_=>false
def SV.scalar:SV->Bool
 |.tup _ _|.xV _ _|.undef|.gone|.sR _|.nO _ _|.nP _ _ _ _ _=>false
 |.val u _=>!u.agg
 |_=>true
def putM(g:G)(s:St)(o:Oper)(t:TypeId)(m key x:Operand)(k:St->Option R):Option R:=none
def yP8(s:St):SV->Bool
 |.mO β=>(match s.cH.getD β none with|some (.mps _ _ _ _ _)=>true|_=>false)
 |_=>false
def putK(g:G)(s:St)(o:Oper)(t:TypeId)(m key x:Operand)(k:St->Option R):Option R:=
 if yP8 s (y8 g.T t s m)then putM g s o t m key x k else
 let s':=s.settle (y8 g.T 0 s x)
 match yN g.T t,y8 g.T t s' m with
 |some i,.mO β=>(match s'.cH.getD β none with
  |some (.mp u v es)=>if i.ty=.map u v/\u.keyAll=true then
    (y0p [] (y8 g.T 0 s' key) u).bind λ y=>(y5A g.E [] (y8 g.T 0 s' x) v).bind λ z =>
     k ({ s' with cH:=s'.cH.set β (some (Chunk.mp u v (y3g u v es y z))) }.put o.dst .undef)
   else none
  |_=>none)
 |_,_=>none
def yf(bs:List UInt8)(q:Int):Int×Int:=(((Utf8.decode ⟨bs.toArray⟩ q.toNat).1:Int),q+((Utf8.decode ⟨bs.toArray⟩ q.toNat).2:Int))
def yKv(g:G)(s:St)(o:Oper)(it:Operand)(k:St->Option R):Option R:=
 match y8 g.T 0 s it with
 |.bP β 0=>(match s.cH.getD β none with
  |some (.it bs q)=>bif decide (q < (bs.length:Int))then
    k ({ s with cH:=s.cH.set β (some (Chunk.it bs (yf bs q).2)) }.put o.dst (.tup (.pair .bool (.pair (.int .i64) (.pair (.int .i32) .unit))) (true,q,(yf bs q).1,())))
   else k (s.put o.dst (.tup (.pair .bool .unit) (false,())))
  |_=>none)
 |_=>none
def yF5(T:List (TypeId×TyI))(t:TypeId):Bool:=
 match yN T t with
 |some i=>(match i.ty with|.str=>true|_=>false)
 |none=>false
def y2L(g:G)(s:St)(o:Oper)(b x:Operand)(t t':TypeId)(k:St->Option R):Option R:=none
def yDU(xs:List Int):Bool:=xs.all λ n=>decide (0<=n) && decide (n < 256)
def y5K(g:G)(s:St)(o:Oper)(x n:Operand)(t:TypeId)(k:St->Option R):Option R:=
 match yN g.T t,y8 g.T 0 s x,y8 g.T 0 s n with
 |some i,.eP β 0 1 0,.val (.int .i64) m=>(match s.cH.getD β none with
  |some (.arr e (.int .u8) xs _)=>(match yN g.T e with
   |some j=>if i.ty=.ref (.int .u8)/\i.elem=e/\j.ty=.int .u8 then
     bif m == (List.length xs:Int) && decide (0 < List.length xs) && yDU xs then k ({ s with cH:=s.cH.set β none }.put o.dst (.val .str (y14 xs)))else none
    else none
   |none=>none)
  |_=>none)
 |_,_,_=>none
def yAe:Ty->Ty->Bool
 |.nS u,.slice v=>decide (u=v)
 |_,_=>false
def yI3:(a:Ty)->a.den->Bool
 |.nS _,x=>Option.isNone x
 |_,_=>false
def y2q(T:List (TypeId×TyI)):List TypeId->(u:Ty)->u.den->Nat->Option (List SV×List TypeId)
 |[],.unit,_,_=>some ([],[])
 |τ::l,.pair a b,x,m=>(yN T τ).bind λ i =>
  if a=i.ty then (y2q T l b x.2 m).map λ p=>(y0D a x.1++p.1,p.2)
  else if yAe a i.ty && yI3 a x.1 then (y2q T l b x.2 (m+1)).map λ p=>(.own m::p.1,τ::p.2)
  else none
 |_,_,_,_=>none
def y4M(g:G)(s:St)(o:Oper)(i:TyI)(a:Operand)(β off:Nat)(u:Ty)(cells:List SV)(sv:SV)(k:St->Option R):Option R:=
 match sv with
 |.val w y=>(y2q g.T (i.fields.map (·.2)) w y s.cH.length).bind λ p =>
  if y32 g.T (i.fields.map (·.2))=some i.ty/\off+i.ty.size<=cells.length then
   k (freezeIf g ({ s with cH:=(s.cH++yK g.T p.2).set β (some (Chunk.box u (cells.take off++p.1++cells.drop (off+i.ty.size)))) }.put o.dst .undef) a)
  else none
 |_=>none
def toX:SV->SV
 |.val t x=>if t.isSlice then .xV t x else .val t x
 |sv=>sv
def xOf(sv:SV)(t:Ty):Option t.den:=
 match sv with
 |.xV u x=>conv u t x
 |_=>none
def yRm(T:List (TypeId×TyI))(e:TypeId):Option (Nat×TypeId×Ty):=
 (yN T e).bind λ i=>match i.ty with
  |.slice u=>some (0,i.elem,u)
  |.pair _ _=>i.fields.findSome? λ p=>(yN T p.2).bind λ j=>match j.ty with|.slice u=>some (p.1,j.elem,u)|_=>none
  |_=>none
def yFY(m:Nat)(cells:List SV)(off:Nat)(sv sv':SV):SV:=
 match sv with
 |.nils=>(match cells[off]? with|some (.own γ)=>if m<=γ then .own γ else sv'|_=>sv')
 |_=>sv'
def y3a(cs:List (Option Chunk))(t:Ty)(sv:SV):Option (List SV):=
 match sv with
 |.sR β=>(match cs.getD β none with
  |some (.rcd u cells)=>if u=t/\cells.all SV.scalar=true then some cells else none
  |_=>none)
 |_=>none
def y5i(cs:List (Option Chunk))(t:Ty)(sv:SV):Option (List SV):=(y3a cs t sv).bind λ svs=>if svs.length=t.size then some svs else none
def y9j(E:List Entry)(m:Nat)(s:St)(T:List (TypeId×TyI))(tys:List (Nat×TypeId)):List (Nat×Operand)->List SV->Option (List SV)
 |[],cells=>some cells
 |p::ps,cells=>(tys[p.1]?).bind λ q=>(yN T q.2).bind λ i =>
  (if i.ty.agg then (match y5i s.cH i.ty (y8 T q.2 s p.2)with|some svs=>some svs|none=>(y0p [] (y8 T q.2 s p.2) i.ty).map (y0D i.ty))else if (asFn E i.ty (y8 T q.2 s p.2)).scalar then some [yFY m cells q.1 (y8 T q.2 s p.2) (asFn E i.ty (y8 T q.2 s p.2))]else none).bind λ svs =>
   if q.1+svs.length<=cells.length then y9j E m s T tys ps (cells.take q.1++svs++cells.drop (q.1+svs.length))else none
def y3x(g:G)(s:St)(o:Oper)(t:TypeId)(ps:Array (Nat×Operand))(k:St->Option R):Option R:=
 match yN g.T t with
 |some i=>if i.ty.isPair && i.ty.zok then
   (if g.on.contains (o.dst.getD 0)then
    (if y32 g.T (i.fields.map λ q:Nat×TypeId=>q.2)=some i.ty then
     (y9j g.E s.cH.length { s with cH:=s.cH++yK g.T (i.fields.map λ q:Nat×TypeId=>q.2) } g.T i.fields ps.toList (y0N g.T (i.fields.map λ q:Nat×TypeId=>q.2) s.cH.length)).bind λ cells =>
      k ({ s with cH:=(s.cH++yK g.T (i.fields.map λ q:Nat×TypeId=>q.2))++[some (Chunk.rcd i.ty cells)] }.put o.dst (.sR (s.cH++yK g.T (i.fields.map λ q:Nat×TypeId=>q.2)).length))
    else none)
   else (y9j g.E s.cH.length s g.T i.fields ps.toList (y0U i.ty)).bind λ cells=>k ({ s with cH:=s.cH++[some (Chunk.rcd i.ty cells)] }.put o.dst (.sR s.cH.length)))else none
 |none=>none
def yI7(s:St)(ps:List (Nat×Operand)):Bool:=
 match ps with
 |[(0,.tmp x)]=>(match s.get x with|.sR _=>true|_=>false)
 |_=>false
def y4V(g:G)(s:St)(o:Oper)(t:TypeId)(n:Nat)(ps:List (Nat×Operand))(k:St->Option R):Option R:=none
def yNR(cs:List (Option Chunk))(sv:SV):Bool:=
 match sv with
 |.own β=>(match cs.getD β none with|some (.nst _ _ _ _ _ _)=>true|_=>false)
 |_=>false
def y2N(g:G)(s:St)(o:Oper)(b x:Operand)(t t':TypeId)(k:St->Option R):Option R:=none
def yAo(u:Ty)(o:Nat)(v:Ty)(y:u.den)(off:Nat)(τ:Ty)(z:τ.den):Option u.den:=
 (y21 u y o (.slice v)).bind λ ys=>(y1F u y o (.slice v) ([]:List v.den)).bind λ y0=>(y1F u y0 off τ z).bind λ y1=>if o < off\/off+τ.size<=o then y1F u y1 o (.slice v) ys else none
def yJo(s:St)(β off:Nat)(sv:SV):Bool:=
 match sv,s.cH.getD β none with
 |.own γ,some (.nst _ _ q _ _ _)=>decide (off=q) && (match s.cH.getD γ none with|some (.arr _ _ _ _)=>true|_=>false)
 |_,_=>false
def yIn(s:St)(o:Oper)(i:TyI)(β n sz off:Nat)(sv:SV)(k:St->Option R):Option R:=none
def y5P(g:G)(s:St)(o:Oper)(i:TyI)(u:Ty)(n m:Int)(k:St->Option R):Option R:=none
def yCx(s:St)(o:Oper)(i:TyI)(β m:Nat)(sv:SV)(k:St->Option R):Option R:=none
def yQF:SV->Option Nat
 |.yld β=>some β
 |_=>none
def yMj(g:G)(s:St)(e:TypeId)(sv:SV):Option (TyI×List SV):=(yN g.T e).bind λ i=>(y5i s.cH i.ty sv).map λ svs=>(i,svs)
def y5l(g:G)(s:St)(o:Oper)(t:TypeId)(a:Operand)(k:St->Option R):Option R:=
 match yN g.T t,y8 g.T 0 s a with
 |some i,.bP β off=>(match s.cH.getD β none with
  |some (.box _ cells)=>if i.ty.agg=true/\off+i.ty.size<=cells.length then k ({ s with cH:=s.cH++[some (Chunk.rcd i.ty ((cells.drop off).take i.ty.size))] }.put o.dst (.sR s.cH.length))else none
  |_=>none)
 |_,_=>none
def effK(g:G)(s:St)(o:Oper)(k:St->Option R):Option R:=
 match o.op with
 |.box e x=>if yG6 g.T e (y8 g.T e s x)then (match yN g.T e with
  |some i=>y3d g s e i o.dst k
  |none=>none)else
  (match yQF (y8 g.T e s x)with
  |some β=>(match yN g.T e with
   |some i=>k ({ s with cH:=s.cH++[some (Chunk.box i.ty [.yld β])] }.put o.dst (.bP s.cH.length 0))
   |none=>none)
  |none=>(match yMj g s e (y8 g.T e s x)with
  |some p=>k ({ s with cH:=s.cH++[some (Chunk.box p.1.ty p.2)] }.put o.dst (.bP s.cH.length 0))
  |none =>
  let s:=s.settle (y8 g.T e s x)
  (match yN g.T e with
  |some i=>(y0p [] (y8 g.T e s x) i.ty).bind λ y=>k ({ s with cH:=s.cH++[some (Chunk.box i.ty (y0D i.ty y))] }.put o.dst (.bP s.cH.length 0))
  |none=>none)))
 |.alloc e=>(match yN g.T e with
  |some i=>if y58 g o.dst then y3d g s e i o.dst k else k ({ s with cH:=s.cH++[some (Chunk.box i.ty (y0U i.ty))] }.put o.dst (.bP s.cH.length 0))
  |none=>none)
 |.store t a x=>(match yN g.T t,y8 g.T 0 s a with
  |some i,.bP β off=>(match s.cH.getD β none with
   |some (.box u cells) =>
    if i.ty.agg then
     match xOf (y8 g.T t s x) i.ty with
     |some y=>if off+i.ty.size<=cells.length then k (freezeIf g ({ s with cH:=s.cH.set β (some (Chunk.box u (cells.take off++(y0D i.ty y).map toX++cells.drop (off+i.ty.size)))) }.put o.dst .undef) a)else none
     |none =>
     match y3a s.cH i.ty (y8 g.T t s x)with
     |some svs=>if off+i.ty.size<=cells.length/\svs.length=i.ty.size then k (freezeIf g ({ s with cH:=s.cH.set β (some (Chunk.box u (cells.take off++svs++cells.drop (off+i.ty.size)))) }.put o.dst .undef) a)else none
     |none =>
     match y0p [] (y8 g.T t s x) i.ty with
     |some y=>if off+i.ty.size<=cells.length then k (freezeIf g ({ s with cH:=s.cH.set β (some (Chunk.box u (cells.take off++y0D i.ty y++cells.drop (off+i.ty.size)))) }.put o.dst .undef) a)else none
     |none=>y4M g s o i a β off u cells (y8 g.T t s x) k
    else if (asFn g.E i.ty (y8 g.T t s x)).scalar/\off < cells.length then
     k (freezeIf g ({ s with cH:=s.cH.set β (some (Chunk.box u (cells.set off (asFn g.E i.ty (y8 g.T t s x))))) }.put o.dst .undef) a)
    else none
   |_=>none)
  |some i,.eP β n sz off=>if yJo s β off (y8 g.T t s x)then yIn s o i β n sz off (y8 g.T t s x) k else
   let s':=s.settle (y8 g.T t s x)
   (match s'.cH.getD β none with
   |some (.arr e u xs nn)=>if sz=u.size then (xs[n]?).bind λ y=>(y0p [] (y8 g.T t s' x) i.ty).bind λ z=>(y1F u y off i.ty z).bind λ y' =>
     k ({ s' with cH:=s'.cH.set β (some (Chunk.arr e u (xs.set n y') nn)) }.put o.dst .undef)else none
   |some (.nst e u q e' v xs)=>if sz=u.size then (xs[n]?).bind λ y=>(y0p [] (y8 g.T t s' x) i.ty).bind λ z=>(yAo u q v y off i.ty z).bind λ y' =>
     k ({ s' with cH:=s'.cH.set β (some (Chunk.nst e u q e' v (xs.set n y'))) }.put o.dst .undef)else none
   |_=>none)
  |some i,.nP β n j sz off =>
   let s':=s.settle (y8 g.T t s x)
   (match s'.cH.getD β none with
   |some (.nst e u q e' v xs)=>if sz=v.size then (xs[n]?).bind λ y=>(y21 u y q (.slice v)).bind λ ys=>((ys:List v.den)[j]?).bind λ z0=>(y0p [] (y8 g.T t s' x) i.ty).bind λ z=>(y1F v z0 off i.ty z).bind λ z' =>
     (y1F u y q (.slice v) ((ys:List v.den).set j z')).bind λ y'=>k ({ s' with cH:=s'.cH.set β (some (Chunk.nst e u q e' v (xs.set n y'))) }.put o.dst .undef)else none
   |_=>none)
  |_,_=>none)
 |.build t ps=>y3x g s o t ps k
 |.load t a=>y5l g s o t a k
 |.makeMap t none=>(match yN g.T t with
  |some i=>(match i.ty with
   |.map u v=>if (match o.dst with|some d=>g.fz.contains d|none=>false)then (match v with
     |.slice w=>k ({ s with cH:=s.cH++[some (Chunk.mps u i.elem w [] none)] }.put o.dst (.mO s.cH.length))
     |_=>none)
    else k ({ s with cH:=s.cH++[some (Chunk.mp u v [])] }.put o.dst (.mO s.cH.length))
   |_=>none)
  |none=>none)
 |.range t x=>(match yN g.T t,y8 g.T t s x with
  |some i,.val .str bs=>if i.ty=.str then k ({ s with cH:=s.cH++[some (Chunk.it bs 0)] }.put o.dst (.bP s.cH.length 0))else none
  |_,_=>none)
 |.next it true=>yKv g s o it k
 |.insert t m key x=>putK g s o t m key x k
 |.mapUpdate t m key x=>putK g s o t m key x k
 |.makeSlice t l c=>(match yN g.T t,y8 g.T 0 s l,y8 g.T 0 s c with
  |some i,.val (.int .i64) n,.val (.int .i64) m=>(match i.ty with
   |.slice u=>if y9A g o then y5P g s o i u n m k else bif u.zok && decide (0<=n) && decide (n<=(memMax:Int)) && n == m then k ({ s with cH:=s.cH++[some (Chunk.arr i.elem u (List.replicate n.toNat u.dflt) true)] }.put o.dst (.own s.cH.length))else none
   |_=>none)
  |_,_,_=>none)
 |.buildSlice t n ps=>if yI7 s ps.toList then y4V g s o t n ps.toList k else
  let s':=settleAll (ps.toList.map (·.2)) s
  (match yN g.T t with
  |some i=>(match i.ty with
   |.slice u=>if !(u.zok && decide (n * u.size<=16777216))then none else (y48 g.E s' g.T u i.elem ps.toList (List.replicate n u.dflt)).bind λ y=>k ({ s' with cH:=s'.cH++[some (Chunk.arr i.elem u y (!y9A g o))] }.put o.dst (.own s'.cH.length))
   |_=>none)
  |none=>none)
 |.assign (.const (.slice none 0 0))=>(match yN g.T o.type with
  |some i=>(match i.ty with
   |.slice u=>if y9A g o then (yRm g.T i.elem).bind λ q=>k ({ s with cH:=s.cH++[some (Chunk.nst i.elem u q.1 q.2.1 q.2.2 [])] }.put o.dst (.own s.cH.length))
    else k ({ s with cH:=s.cH++[some (Chunk.arr i.elem u [] false)] }.put o.dst (.own s.cH.length))
   |_=>none)
  |none=>none)
 |.slice t x (some lo) none none=>(match yN g.T t,y8 g.T t s x,y8 g.T 0 s lo with
  |some i,.own β,.val (.int _) n=>(match s.cH.getD β none with
   |some (.arr _ u xs _)=>if i.ty.elemIs u then
     bif decide (0<=n) && decide (n<=(List.length xs:Int))then k (s.put o.dst (.oS β n.toNat u.size))else none
    else none
   |_=>none)
  |_,_,_=>none)
 |.slice t x none (some hi) none=>(match yN g.T t,y8 g.T t s x,y8 g.T 0 s hi with
  |some i,.own β,.val (.int _) n=>(match s.cH.getD β none with
   |some (.arr e u xs nn)=>if i.elem=e/\i.ty=.slice u then
     bif decide (0<=n) && decide (n<=(List.length xs:Int))then k ({ s with cH:=s.cH.set β none++[some (Chunk.arr e u (xs.take n.toNat) nn)] }.put o.dst (.own s.cH.length))else none
    else none
   |_=>none)
  |_,_,_=>none)
 |.call { callee:=.builtin .unsafeString,args,argTypes }=>(match args.toList,argTypes.toList with
  |[x,n],[t,_]=>y5K g s o x n t k
  |_,_=>none)
 |.call { callee:=.builtin .append,args,argTypes }=>(match args.toList,argTypes.toList with
  |[b,x],[t,t']=>if yF5 g.T t' then y2L g s o b x t t' k else if yNR s.cH (y8 g.T 0 s b)then y2N g s o b x t t' k else
   let s':=s.settle (y8 g.T t' s x)
   (match yN g.T t,y8 g.T 0 s' b with
   |some i,.own β=>(match s'.cH.getD β none with
    |some (.arr e u xs nn)=>if i.elem=e/\i.ty=.slice u/\t'=t then
      (y0p [] (y8 g.T t' s' x) (.slice u)).bind λ ys =>
       bif decide (xs.length+List.length ys<=memMax)then k ({ s' with cH:=s'.cH.set β none++[some (Chunk.arr e u (xs++ys) nn)] }.put o.dst (.own s'.cH.length))else none
     else none
    |_=>none)
   |some i,.xV (.slice u) xs=>if i.ty=.slice u/\t'=t then
      (y0p [] (y8 g.T t' s' x) (.slice u)).bind λ ys =>
       bif decide (0 < List.length xs) && decide (0 < List.length ys) && decide (List.length xs+List.length ys<=memMax)then k ({ s' with cH:=s'.cH++[some (Chunk.arr i.elem u ((xs:List u.den)++ys) true)] }.put o.dst (.own s'.cH.length))else none
     else none
   |_,_=>none)
  |_,_=>none)
 |.call { callee:=.builtin .copy,args,argTypes }=>(match args.toList,argTypes.toList with
  |[b,x],[t,t'] =>
   let s':=s.settle (y8 g.T t' s x)
   (match yN g.T t,y8 g.T 0 s' b with
   |some i,.own β=>(match s'.cH.getD β none with
    |some (.arr e u xs nn)=>if i.ty=.slice u then
      (y0p [] (y8 g.T t' s' x) (.slice u)).bind λ ys =>
       k ({ s' with cH:=s'.cH.set β (some (Chunk.arr e u ((ys:List u.den).take xs.length++xs.drop (List.length ys)) nn)) }.put o.dst (.val (.int .i64) ((min (List.length ys) xs.length:Nat):Int)))
     else none
    |_=>none)
   |some i,.nO β m=>yCx s' o i β m (y8 g.T t' s' x) k
   |some i,.oS β n sz=>(match s'.cH.getD β none with
    |some (.arr e u xs nn)=>if i.ty=.slice u/\sz=u.size then
      (y0p [] (y8 g.T t' s' x) (.slice u)).bind λ ys =>
       k ({ s' with cH:=s'.cH.set β (some (Chunk.arr e u (xs.take n++(ys:List u.den).take (xs.length - n)++xs.drop (n+min (List.length ys) (xs.length - n))) nn)) }.put o.dst (.val (.int .i64) ((min (List.length ys) (xs.length - n):Nat):Int)))
     else none
    |_=>none)
   |_,_=>none)
  |_,_=>none)
 |_=>none
def y26(g:G)(o:Oper):Option (TypeId×Ty):=
 match o.op with
 |.call { callee:=.value (.func n),.. }=>if y58 g o.dst then (y8v g.E n).bind (·.own)else none
 |_=>none
def ownK(g:G)(s:St)(o:Oper)(q:TypeId×Ty)(k:St->Option R):Option R:=
 match o.op with
 |.call { callee:=.value (.func _),args,argTypes }=>(match args.toList,argTypes.toList with
  |[x],[t] =>
   let s':=s.settle (y8 g.T t s x)
   (y0p [] (y8 g.T t s' x) (.slice q.2)).bind λ ys =>
    bif decide (List.length ys<=memMax)then k ({ s' with cH:=s'.cH++[some (Chunk.arr q.1 q.2 ys false)] }.put o.dst (.own s'.cH.length))else none
  |_,_=>none)
 |_=>none
def y72(g:G)(o:Oper):Option TV:=
 match o.op with
 |.call { callee:=.value (.func n),args,.. }=>if (match o.dst with|some d=>g.fz.contains d|none=>false) && args.size == 0 then (y8v g.E n).bind (λ e=>match e.ex with|some (.x v)=>some v|_=>none)else none
 |_=>none
def effX(g:G)(s:St)(o:Oper)(k:St->Option R):Option R:=
 match y26 g o with
 |some q=>ownK g s o q k
 |none=>(match y72 g o with
  |some q=>k (s.put o.dst (.xV q.t q.x))
  |none=>effK g s o k)
def y1U(g:G)(o:Oper):Bool:=
 let m:=y58 g o.dst
 (y26 g o).isSome || (y72 g o).isSome || match o.op with
 |.alloc _|.store _ _ _|.makeSlice _ _ _|.makeMap _ _|.insert _ _ _ _|.mapUpdate _ _ _ _|.range _ _|.next _ _=>true
 |.box _ _|.buildSlice _ _ _|.slice _ _ _ _ _=>m
 |.assign (.const (.slice none 0 0))=>m
 |.build _ _|.load _ _=>m && y9A g o
 |.call { callee:=.builtin .append,.. }|.call { callee:=.builtin .copy,.. }|.call { callee:=.builtin .unsafeString,.. }=>true
 |_=>false
def y8c(o:Oper):List Operand:=
 match o.op with
 |.build _ ps|.buildSlice _ _ ps=>ps.toList.map (·.2)
 |.box _ x=>[x]
 |.makeFunc _ first _=>first.toList
 |_=>[]
def settleCells:List SV->St->St
 |[],s=>s
 |sv::l,s=>settleCells l (s.settle sv)
def St.settleIn(s:St):SV->St
 |.bP β _=>(match s.cH.getD β none with|some (.box _ cells)=>settleCells cells s|_=>s)
 |_=>s
def preK(g:G)(o:Oper)(s:St):St:=
 match o.op with
 |.load t a=>(match yN g.T t with
  |some i=>if i.ty.agg then s.settleIn (y8 g.T 0 s a)else s
  |none=>s)
 |_=>s
def apAt(g:G)(d:Option Nat):Option (Option Nat×Nat):=d.bind λ t=>(g.ap.find? λ p=>p.1 == t).map (·.2)
def y5c(g:G)(s:St)(o:Oper)(k:St->Option R):Option R:=
 match o.op with
 |.alloc e=>if y58 g o.dst || (apAt g o.dst).isSome then none else (match yN g.T e with
  |some i=>k ({ s with cH:=s.cH++[some (Chunk.box i.ty (y0U i.ty))] }.put o.dst (.bP s.cH.length 0))
  |none=>none)
 |_=>none
def y4u(g:G)(s:St)(o:Oper)(k:St->Option R):Option R:=
 match o.op with
 |.store t (.tmp p) x=>if g.fz.contains p then none else (match yN g.T t,s.get p with
  |some i,.bP β off=>(match s.cH.getD β none with
   |some (.box u cells) =>
    if i.ty.agg then
     (y0p [] (y8 g.T t s x) i.ty).bind λ y=>if off+i.ty.size<=cells.length then k ({ s with cH:=s.cH.set β (some (Chunk.box u (cells.take off++y0D i.ty y++cells.drop (off+i.ty.size)))) }.put o.dst .undef)else none
    else if (asFn g.E i.ty (y8 g.T t s x)).scalar/\off < cells.length then
     k ({ s with cH:=s.cH.set β (some (Chunk.box u (cells.set off (asFn g.E i.ty (y8 g.T t s x))))) }.put o.dst .undef)
    else none
   |_=>none)
  |some i,.eP β n sz off=>(match s.cH.getD β none with
   |some (.arr e u xs nn)=>if sz=u.size then (xs[n]?).bind λ y=>(y0p [] (y8 g.T t s x) i.ty).bind λ z=>(y1F u y off i.ty z).bind λ y' =>
     k ({ s with cH:=s.cH.set β (some (Chunk.arr e u (xs.set n y') nn)) }.put o.dst .undef)else none
   |_=>none)
  |_,_=>none)
 |_=>none
def y0a(g:G)(o:Oper):Bool:=match o.op with|.alloc _=>(apAt g o.dst).isNone|_=>false
def SV.names:SV->List Nat
 |.bP β _|.own β|.eP β _ _ _|.mO β|.yld β|.mP β _|.oS β _ _|.sR β|.nO β _|.nP β _ _ _ _|.meth _ β=>[β]
 |.clo _ caps=>caps.filterMap λ|.box β=>some β|_=>none
 |_=>[]
def SV.has(r:Nat)(sv:SV):Bool:=sv.names.contains r
def Chunk.has(r:Nat):Chunk->Bool
 |.box _ cells=>cells.any (SV.has r)
 |.lp _ _ cells _=>cells.any (SV.has r)
 |.rcd _ cells=>cells.any (SV.has r)
 |.mps _ _ _ _ (some q)=>q.2 == r
 |_=>false
def y4q(r:Nat)(s:St):Bool:=s.slots.all (λ sv=>!sv.has r) && s.kept.all (λ sv=>!sv.has r) && s.cH.all (λ c=>match c with|some c=>!c.has r|none=>true)
def exe(s:St)(p:Nat×Option Nat×Nat):Bool:=s.sl.has p.1 && (match s.get p.1 with|.own γ|.bP γ _=>γ == p.2.2|_=>false)
def y0L(g:G)(s:St):Bool:=g.ap.all λ p=>exe s p || (decide (p.2.2 < s.cH.length) && (s.cH.getD p.2.2 none).isNone && y4q p.2.2 s)
def kl(cs:List (Option Chunk)):Option Nat->List (Option Chunk)
 |some β=>cs.set β none
 |none=>cs
def mskL:List (Nat×Option Nat×Nat)->List (Option Chunk)->List (Option Chunk)
 |[],cs=>cs
 |p::l,cs=>mskL l ((kl cs p.2.1).set p.2.2 none)
def msk(g:G)(s:St):St:={ s with cH:=mskL g.ap s.cH }
def y1W(g:G)(s:St)(o:Oper):Bool:=
 match o.op with
 |.field _ x _=>(match y8 g.T 0 s x with|.sR _=>true|_=>false)
 |.extract x _=>(match y8 g.T 0 s x with|.sR _=>true|_=>false)
 |.indexAddr t x _=>g.vl && !(y8 g.T t s x).isVal
 |_=>false
def y8g(g:G)(s:St)(o:Oper)(K:SV->Option R):Option R:=if y1W g s o then none else yU g (msk g s) o K
def y13(s:St)(l:List Operand):Bool:=l.any λ x=>match x with|.tmp t=>(match s.get t with|.own _|.mO _|.clo _ _|.sR _|.nO _ _=>true|_=>false)|_=>false
def y3E(g:G)(o:Oper):Bool:=
 (y26 g o).isSome || match o.op with
 |.buildSlice _ _ _=>true
 |.call { callee:=.builtin .append,.. }=>true
 |.alloc _=>(apAt g o.dst).isSome
 |.slice _ _ none (some _) none=>true
 |_=>false
def cq(fin:Bool)(e:TypeId)(u:Ty)(xs:List u.den)(nn:Bool):Option Chunk:=if fin then none else some (Chunk.arr e u xs nn)
def vq(fin:Bool)(q:Nat)(u:Ty)(xs:List u.den)(nn:Bool):SV:=if fin then (if nn then .val (.nS u) (some xs)else .val (.slice u) xs)else .own q
def y8p(s:St)(o:Oper)(kill:Option Nat)(r:Nat):Bool:=match o.dst with|some d=>s.sl.has d && !exe s (d,kill,r)|none=>false
def y1h(g:G)(s:St)(o:Oper):Bool:=g.ap.isEmpty || (match apAt g o.dst with|some q=>y1U g o && y3E g o && y8p s o q.1 q.2|none=>true)
def newD(g:G)(s:St)(o:Oper)(k:St->Option R):Option R:=
 match apAt g o.dst with
 |none=>none
 |some (kill,r)=>if y8p s o kill r then
  match o.op,kill with
  |.buildSlice t n ps,none=>(match yN g.T t with
   |some i=>(match i.ty with
    |.slice u=>if !(u.zok && decide (n * u.size<=16777216)) || y13 s (ps.toList.map (·.2))then none else (y48 g.E s g.T u i.elem ps.toList (List.replicate n u.dflt)).bind λ y=>k ({ s with cH:=s.cH.set r (some (Chunk.arr i.elem u y (!y9A g o))) }.put o.dst (.own r))
    |_=>none)
   |none=>none)
  |.call { callee:=.builtin .append,args,argTypes },some β=>(match args.toList,argTypes.toList with
   |[b,x],[t,t']=>if yF5 g.T t' || y13 s [x]then none else
    (match yN g.T t,y8 g.T 0 s b with
    |some i,.own γ=>if γ=β/\β < r then (match s.cH.getD β none with
     |some (.arr e u xs nn)=>if i.elem=e/\i.ty=.slice u/\t'=t then
       (y0p [] (y8 g.T t' s x) (.slice u)).bind λ ys =>
        bif decide (xs.length+List.length ys<=memMax)then k ({ s with cH:=(s.cH.set β none).set r (cq (y9A g o) e u (xs++ys) nn) }.put o.dst (vq (y9A g o) r u (xs++ys) nn))else none
      else none
     |_=>none)else none
    |_,_=>none)
   |_,_=>none)
  |.call { callee:=.value (.func _),args,argTypes },none=>(match y26 g o,args.toList,argTypes.toList with
   |some q,[x],[t]=>if y13 s [x]then none else
    (y0p [] (y8 g.T t s x) (.slice q.2)).bind λ ys =>
     bif decide (List.length ys<=memMax)then k ({ s with cH:=s.cH.set r (some (Chunk.arr q.1 q.2 ys false)) }.put o.dst (.own r))else none
   |_,_,_=>none)
  |.slice t (.tmp v) none (some hi) none,some β=>(match yN g.T t,s.get v,y8 g.T 0 s hi with
   |some i,.own γ,.val (.int _) n=>if γ=β/\β < r then
    (match s.cH.getD β none with
    |some (.arr e u xs nn)=>if i.elem=e/\i.ty=.slice u then
      bif decide (0<=n) && decide (n<=(List.length xs:Int))then k ({ s with cH:=(s.cH.set β none).set r (some (Chunk.arr e u (xs.take n.toNat) nn)) }.put o.dst (.own r))else none
     else none
    |_=>none)else none
   |_,_,_=>none)
  |.alloc e,none=>if y58 g o.dst then none else (match yN g.T e with
   |some i=>k ({ s with cH:=s.cH.set r (some (Chunk.box i.ty (y0U i.ty))) }.put o.dst (.bP r 0))
   |none=>none)
  |_,_=>none
  else none
def yOJ(o:Oper):Bool:=match o.op with|.store _ (.tmp _) _=>o.dst.isNone|_=>false
def y2T(g:G)(s:St)(o:Oper):Bool:=
 match o.op with
 |.store t (.tmp p) x=>o.dst.isNone && (match yN g.T t,s.get p with
  |some i,.bP β _=>(i.ty.agg || (asFn g.E i.ty (y8 g.T t s x)).isVal) && g.ap.any λ q=>q.2.2 == β
  |_,_=>false)
 |_=>false
def effD(g:G)(s:St)(o:Oper)(k:St->Option R):Option R:=if y3E g o then newD g s o k else if y0a g o then y5c g s o k else if g.ap.isEmpty || y2T g s o then y4u g s o k else none
def okD(g:G)(o:Oper)(sv:SV):Bool:=g.ap.all λ p=>!sv.has p.2.2 && o.dst != some p.1
def yFj(o:Oper):Bool:=
 match o.op with
 |.move _|.assign _|.pick _ _ _|.binOp _ _ _ _ _|.unOp _ _ _|.convert _ _ _|.field _ _ _|.extract _ _|.fieldAddr _ _ _=>true
 |_=>false
def yMf(o:Oper):Bool:=match o.op with|.load _ _=>true|_=>false
def yPj(o:Oper):Bool:=match o.op with|.indexAddr _ _ _=>true|_=>false
def yJk(g:G)(o:Oper):Bool:=yFj o || (g.vl && (yMf o || yPj o))
def y4n(g:G)(ta tr:Ty)(m:ta.den->Option tr.den)(s:St)(c:Call)(caps:St->List SV)(K:SV->Option R):Option R:=
 if tr.flat then (y0s g.E s.cH ta (y1G g.T s c.args.toList c.argTypes.toList++caps s)).bind λ x=>(m x).bind λ y=>K (y8U tr y)
 else (y0s g.E [] ta (y1G g.T s c.args.toList c.argTypes.toList++caps s)).bind λ x=>(m x).bind λ y=>K (y8U tr y)
def yKP(g:G)(d:Option Nat)(s:St)(c:Call)(f:Operand)(K:SV->Option R):Option R:=
 match y8 g.T 0 s f with
 |.clo n _=>(match yCV g d n with
  |some e=>(match e.rdk with
   |some q=>rdK q s.cH (y1G g.T s c.args.toList c.argTypes.toList++ya g.T f s) K
   |none=>y4n g e.args e.rS e.m s c (ya g.T f) K)
  |none=>none)
 |.val (.func a b) m=>y4n g a b m s c (λ _=>[]) K
 |_=>none
def y09(g:G)(call:yv R)(dr:Bool)(s:St)(o:Oper)(k:St->Option R):Option R:=
 if y1U g o then (if dr then effD g s o k else effX g s o k)
 else let s:=if dr then s else preK g o (settleAll (y8c o) s)
 match o.op with
  |.call { callee:=.value f,args,argTypes }=>if dr && !g.ap.isEmpty then yKP g o.dst (msk g s) { callee:=.value f,args,argTypes } f λ sv=>if okD g o sv then k (s.put o.dst sv)else none else yC3 g call dr s o { callee:=.value f,args,argTypes } f k
  |_=>if dr then y8g g s o λ sv=>if okD g o sv then k (s.put o.dst sv)else none else yU g s o λ sv=>k (s.put o.dst sv)
def y46(ops:Array Oper)(s:St)(j:Nat):Option (Option Bool):=
 match (ops[j]?).bind (·.dst)with
 |some t=>(match s.get t with|.val .bool b=>some (some b)|.gone=>some none|_=>none)
 |none=>none
def setG(ops:Array Oper)(s:St)(j:Nat)(b:Bool):St:=
 match (ops[j]?).bind (·.dst)with
 |some t=>s.put (some t) (.val .bool b)
 |none=>s
def y0c(g:G)(call:yv R)(dr:Bool)(ops:Array Oper):List Oper->St->(St->Option R)->Option R
 |[],s,k=>k s
 |o::l,s,k =>
  match o.guard with
  |none=>y09 g call dr s o λ s'=>y0c g call dr ops l s' k
  |some (j,want)=>(y46 ops s j).bind λ ob=>match ob with
   |none=>bif dr && !y1h g s o then none else y0c g call dr ops l (s.put o.dst .gone) k
   |some b=>bif want
    then (bif b then y09 g call dr (setG ops s j true) o λ s'=>y0c g call dr ops l s' k else (bif dr && !y1h g (setG ops s j false) o then none else y0c g call dr ops l ((setG ops s j false).put o.dst .gone) k))
    else (bif b then (bif dr && !y1h g (setG ops s j true) o then none else y0c g call dr ops l ((setG ops s j true).put o.dst .gone) k)else y09 g call dr (setG ops s j false) o λ s'=>y0c g call dr ops l s' k)
def yFB(md:Region.Mode)(acc:List Nat)(l:List Edge):Nat:=l.foldl (λ s e=>if Region.binds md e then (s ||| 2 ^ e.on) ||| acc.getD e.on 0 else s) 0
def y7J(md:Region.Mode):List Oper->List Nat->List Nat
 |[],acc=>acc
 |o::l,acc=>y7J md l (acc++[yFB md acc o.after.toList])
def y0X(ms:List Nat)(j i:Nat):Bool:=Nat.testBit (ms.getD j 0) i
def yMx(ms:List Nat)(i:Nat):Bool:=(List.range i).all λ j=>y0X ms i j
def apLt(g:G)(o q:Oper):Bool:=match apAt g o.dst,apAt g q.dst with|some a,some b=>decide (a.2 < b.2)|_,_=>false
def yKq(g:G)(ms:List Nat)(ops:Array Oper)(o:Oper)(i:Nat):Bool:=
 !y1U g o || ((List.range ops.size).all λ j=>decide (j=i) || (if i < j
  then y0X ms j i || (y3E g o && !g.ap.isEmpty && (match ops[j]? with|some q=>!y1U g q || y0a g q || y3E g q && apLt g o q|none=>true))
  else y0X ms i j || y0a g o || (match ops[j]? with|some q=>yJk g q || (y3E g o && !g.ap.isEmpty) || (yOJ o && !g.ap.isEmpty && !y1U g q)|none=>true)))
def yEI(ms:List Nat)(n:Nat):Nat:=((List.range n).reverse.takeWhile λ i=>yMx ms i).length
def yE7(g:G)(call:yv R)(ops:Array Oper)(ms:List Nat)(n:Nat)(s:St)(k:St->Option R):Option R:=
 if Region.lexB .any ops && (ops.toList.zipIdx.all λ p=>decide (p.2 < n) || yMx ms p.2) && (ops.toList.zipIdx.all λ p=>decide (n<=p.2) || yKq g ms ops p.1 p.2)then y0c g call true ops (ops.toList.take n) s λ s'=>y0c g call false ops (ops.toList.drop n) s' k else none
def clos(ops:List Oper)(s:St):List Operand:=ops.filterMap λ o=>match o.op with
 |.move (.tmp t)=>(match s.get t with|.clo _ (_::_)=>some (.tmp t)|_=>none)
 |_=>none
def yPv(s:St)(ops:List Oper)(acc:List (Nat×Option Nat×Nat))(t:Nat):Option Nat:=
 match acc.find? (λ p=>p.1 == t)with
 |some p=>some p.2.2
 |none=>match ops.find? (λ o=>o.dst == some t)with
  |some o=>(match o.op with
   |.move (.tmp v)=>(match s.get v with|.own β=>some β|_=>none)
   |.load _ (.tmp p)=>(match s.get p with
    |.bP β off=>(match s.cH.getD β none with
     |some (.box _ cells)=>(match cells[off]? with|some (.own γ)=>some γ|_=>none)
     |_=>none)
    |_=>none)
   |.lookup _ (.tmp m) _ false=>(match ops.find? (λ o=>o.dst == some m)with
    |some o2=>(match o2.op with
     |.move (.tmp v)=>(y8s s.cH (s.get v)).map (·.γ)
     |_=>none)
    |none=>none)
   |_=>none)
  |none=>(match s.get t with|.own β=>some β|_=>none)
def apOf(g:G)(s:St)(ops:List Oper):List Oper->List (Nat×Option Nat×Nat)->List (Nat×Option Nat×Nat)
 |[],acc=>acc
 |o::l,acc=>apOf g s ops l (match o.dst,o.op with
  |some d,.buildSlice _ _ _=>if y58 g o.dst then acc++[(d,none,s.cH.length+acc.length)]else acc
  |some d,.call { callee:=.builtin .append,args,.. }=>(match args.toList with
   |.tmp t::_=>(match yPv s ops acc t with|some β=>acc++[(d,some β,s.cH.length+acc.length)]|none=>acc)
   |_=>acc)
  |some d,.call { callee:=.value (.func _),.. }=>if (y26 g o).isSome then acc++[(d,none,s.cH.length+acc.length)]else acc
  |some d,.alloc _=>if g.on.contains d then acc++[(d,none,s.cH.length+acc.length)]else acc
  |some d,.slice _ (.tmp t) none (some _) none=>if y58 g o.dst then (match yPv s ops acc t with|some β=>acc++[(d,some β,s.cH.length+acc.length)]|none=>acc)else acc
  |_,_=>acc)
def St.pad(s:St)(n:Nat):St:={ s with cH:=s.cH++List.replicate n none }
def y6m:List Nat->Bool
 |[]=>true
 |a::l=>!l.contains a && y6m l
def yDb(g:G)(call:yv R)(ops:Array Oper)(ms:List Nat)(n:Nat)(s:St)(ap:List (Nat×Option Nat×Nat))(k:St->Option R):Option R:=
 if ap.isEmpty || y6m (ap.map (·.1)) && y6m (ap.map (·.2.2)) && (ap.all λ p=>decide (s.cH.length<=p.2.2) && decide (p.2.2 < s.cH.length+ap.length))then yE7 { g with ap:=ap,vl:=ops.toList.zipIdx.any λ p=>decide (p.2 < n) && !yKq { g with ap:=ap } ms ops p.1 p.2 } call ops ms n (s.pad ap.length) k else none
def opAt(ops:List Oper)(t:Nat):Option Op:=(ops.find? λ o=>o.dst == some t).map (·.op)
def yK3(T:List (TypeId×TyI))(s:St)(b f:Nat)(t:TypeId):List SV:=
 match s.get b,yN T t with
 |.bP β off,some i=>(match s.cH.getD β none,i.fields[f]? with
  |some (.box _ cells),some p=>(cells[off+p.1]?).toList
  |_,_=>[])
 |_,_=>[]
def yFq(s:St)(p:Nat):List SV:=
 match s.get p with
 |.bP β off=>(match s.cH.getD β none with|some (.box _ cells)=>cells.drop off|_=>[])
 |_=>[]
def yJW(g:G)(ops:List Oper)(s:St):Operand->List SV
 |.tmp t=>match opAt ops t with
  |some (.load _ (.tmp p))=>(match opAt ops p with
   |some (.fieldAddr τ (.tmp b) f)=>yK3 g.T s b f τ
   |none=>yFq s p
   |_=>[])
  |_=>[]
 |_=>[]
def yJA(g:G)(ops:List Oper)(s:St):Operand->List SV
 |.tmp t=>match opAt ops t with
  |some (.load τ (.tmp p))=>(match opAt ops p,yN g.T τ with
   |none,some i=>if i.ty.agg then yFq s p else []
   |_,_=>[])
  |_=>[]
 |_=>[]
def lent(g:G)(ops:List Oper)(s:St):List SV:=ops.flatMap λ o=>match o.op with
 |.call { callee:=.value (.func n),args,.. }=>(match y8v g.E n with
  |some e=>if e.rS.flat then args.toList.flatMap (yJA g ops s)else args.toList.flatMap (yJW g ops s)
  |none=>[])
 |.call { callee:=.builtin .append,args,.. }=>(match args.toList with
  |[_,x]=>yJW g ops s x
  |_=>[])
 |.slice _ (.tmp t) _ _ none=>(match opAt ops t with
  |some (.move (.tmp v))=>(match s.get v with|.own β=>[.own β]|_=>[])
  |_=>[])
 |_=>[]
def ahead(g:G)(s:St):List Oper->St
 |[]=>s
 |o::l=>(match o.op with
  |.fieldAddr _ _ _|.load _ _|.move _|.nilCheck _=>(match yU g s o (λ sv=>some sv)with|some sv=>ahead g (s.put o.dst sv) l|none=>ahead g s l)
  |_=>ahead g s l)
def St.split(s:St)(β:Nat)(x:SV):St:=s
def splitAt(g:G)(ops:List Oper)(s:St):St:=
 match ops.findSome? (λ o=>match o.op with
  |.call { callee:=.builtin .append,args,.. }=>(match args.toList with
   |.tmp t::_=>(match opAt ops t with
    |some (.lookup _ (.tmp m) (.tmp j) false)=>(match opAt ops m with
     |some (.move (.tmp v))=>(match s.get v with|.mO β=>some (β,j)|_=>none)
     |_=>none)
    |_=>none)
   |_=>none)
  |_=>none)with
 |some p=>s.split p.1 ((ahead g s ops).get p.2)
 |none=>s
def yQz(o:Oper):Option Nat:=
 match o.op with
 |.load _ (.tmp p)=>some p
 |.fieldAddr _ (.tmp p) _=>some p
 |_=>none
def sepS(g:G):List Oper->St->St
 |[],s=>s
 |o::l,s=>sepS g l (match yQz o with
  |some p=>if g.sep.contains p then (match s.get p with|.bP β _=>(s.settleIn (.bP β 0)).freeze β|_=>s)else s
  |none=>s)
def y1c(o:Oper):Bool:=
 match o.op with
 |.move _|.nilCheck _|.load _ _|.fieldAddr _ _ _|.indexAddr _ _ _|.extract _ _|.assign (.tmp _)=>true
 |.unOp .not _ _=>true
 |_=>false
def Ty.agr:Ty->Bool
 |.bool|.int _|.str|.unit|.code=>true
 |.pair a b=>a.agr && b.agr
 |_=>false
def y9h(x y:SV)(K:Option R):Option R:=
 match x,y with
 |.val t a,.val u b=>if h:u=t then (if t.agr then bif eqV t a (h ▸ b)then K else none else none)else none
 |.own β,.own γ=>if β=γ then K else none
 |.bP β o,.bP γ p=>if β=γ/\o=p then K else none
 |_,_=>none
def yF1(ops:Array Oper)(s:St)(o:Oper):Option Bool:=
 match o.guard with
 |none=>some true
 |some (j,want)=>(y46 ops s j).map λ b=>match b with|some b=>bif want then b else !b|none=>false
def y3P(g:G)(ops:Array Oper)(s:St)(o:Oper)(K:Option R):Option R:=
 match o.op with
 |.load _ _=>(match o.dst with
  |some d=>(yF1 ops s o).bind λ b=>bif b then yU g s o λ sv=>y9h sv (s.get d) K else (match s.get d with|.gone=>K|_=>none)
  |none=>none)
 |_=>K
def y2F(g:G)(ops:Array Oper)(s:St):List Oper->Option R->Option R
 |[],K=>K
 |o::l,K=>y3P g ops s o (y2F g ops s l K)
def yDa(ops:Array Oper)(ms:List Nat)(i:Nat)(done:List Nat):List Oper:=
 done.filterMap λ j=>match ops[j]? with|some o=>if y1c o && !y0X ms i j then some o else none|none=>none
def runE(g:G)(call:yv R)(ops:Array Oper)(ms:List Nat):List Nat->Array Bool->List Nat->St->(St->Option R)->Option R
 |[],ls,_,s,k=>if (Region.ready .any ops ls).isEmpty then k s else none
 |i::l,ls,done,s,k =>
  match ops[i]? with
  |none=>none
  |some o =>
   if y1c o then (if (Region.ready .any ops ls).contains i && !y1U g o then y0c g call false ops [o] s λ s'=>runE g call ops ms l (ls.setIfInBounds i true) (i::done) s' k else none)
   else if Region.ready .any ops ls == [i]then y0c g call false ops [o] s λ s'=>y2F g ops s' (yDa ops ms i done) (runE g call ops ms l (ls.setIfInBounds i true) (i::done) s' k)else none
def ssaE(ops:Array Oper)(ms:List Nat)(n:Nat):Bool:=
 ops.toList.zipIdx.all λ p=>(match p.1.dst with
  |some d=>decide (d < n) && !(p.1.looksAt ops).contains d && ops.toList.zipIdx.all λ q=>q.2 == p.2 || (q.1.dst != some d && (!(q.1.looksAt ops).contains d || y0X ms q.2 p.2))
  |none=>!y1c p.1) && (match p.1.op with|.select _ _|.defer _=>false|_=>true)
def yJu(ops:Array Oper)(ms:List Nat):List Nat:=
 let l:=ops.toList.zipIdx.map λ p=>(p.2,y1c p.1,(ops.toList.zipIdx.filter λ q=>!y1c q.1 && y0X ms p.2 q.2).length)
 (List.range (ops.size+1)).flatMap λ k=>(l.filter λ p=>p.2.1 && p.2.2 == k).map (·.1)++(l.filter λ p=>!p.2.1 && p.2.2 == k).map (·.1)
def yBN(g:G)(call:yv R)(ops:Array Oper)(s:St)(k:St->Option R):Option R:=
 let ms:=y7J .any ops.toList []
 if ssaE ops ms s.slots.length && (yJu ops ms).length == ops.size then runE g call ops ms (yJu ops ms) (Array.replicate ops.size false) [] s k else none
def yS5(g:G)(ops:Array Oper):Bool:=ops.toList.any λ o=>match o.dst with|some d=>g.sep.contains (1000000+d)|none=>false
def y6P(Z:List Nat)(ops:Array Oper):Array Oper:=ops.mapIdx λ j o=>if Z.contains j then o else { o with after:=o.after++(Z.map λ i=>(⟨i,.data⟩:Edge)).toArray }
def yDC(g:G)(ops:Array Oper):List Nat:=ops.toList.zipIdx.filterMap λ p=>match p.1.dst with|some d=>if g.sep.contains (2000000+d)then some p.2 else none|none=>none
def yDQ(ops:Array Oper)(ms:List Nat)(n:Nat)(Z:List Nat):Bool:=
 y6m Z && (ops.toList.zipIdx.all λ p=>match p.1.op with|.select _ _|.defer _=>false|_=>true) && Z.all λ i=>match ops[i]? with
  |some oi=>(match oi.op,oi.dst,oi.guard with
   |.move x,some d,none=>decide (d < n) && oi.after.all (λ e=>!Region.binds .any e) && ops.toList.zipIdx.all λ q=>(q.2 == i || (q.1.dst != some d && (!(q.1.looksAt ops).contains d || y0X ms q.2 i))) && (match x with|.tmp t=>q.1.dst != some t|_=>true)
   |_,_,_=>false)
  |none=>false
def y3u(g:G)(call:yv R)(ops:Array Oper)(s:St)(k:St->Option R):Option R:=
 let ms:=y7J .any ops.toList []
 let n:=ops.size - yEI ms ops.size
 let s:=sepS g ops.toList s
 let s0:=settleAll (clos ops.toList s) s
 let s1:=splitAt g ops.toList (settleCells (lent g ops.toList s0) s0)
 yDb g call ops ms n s1 (apOf g (ahead g s1 ops.toList) ops.toList (ops.toList.take n) []) k
def yEV(g:G)(call:yv R)(ops:Array Oper)(Z:List Nat)(s:St)(k:St->Option R):Option R:=
 if yDQ ops (y7J .any ops.toList []) s.slots.length Z then y3u g call (y6P Z ops) s k else none
def yOE(o:Oper):Bool:=match o.op with|.move _|.slice _ _ _ _ _=>true|_=>false
def y6C(i:Nat)(ops:Array Oper):Array Oper:=ops.mapIdx λ j o=>if i < j then { o with after:=o.after.push ⟨i,.data⟩ }else o
def yN3(g:G)(ops:Array Oper):List Nat:=ops.toList.zipIdx.filterMap λ p=>match p.1.dst with|some d=>if g.sep.contains (3000000+d)then some p.2 else none|none=>none
def yIo(ops:Array Oper)(ms:List Nat)(n i:Nat):Bool:=
 ssaE ops ms n && match ops[i]? with
  |some oi=>yOE oi && oi.dst.isSome && oi.after.all λ e=>!Region.binds .any e || ops.toList.zipIdx.all λ q=>!decide (i < q.2) || y0X ms q.2 e.on
  |none=>false
def y53(g:G)(call:yv R):List Nat->Array Oper->St->(St->Option R)->Option R
 |[],ops,s,k=>y3u g call ops s k
 |i::l,ops,s,k=>if yIo ops (y7J .any ops.toList []) s.slots.length i then y53 g call l (y6C i ops) s k else none
def y45(g:G)(call:yv R)(ops:Array Oper)(draw:Bool)(s:St)(k:St->Option R):Option R:=
 if draw then if yS5 g ops then yBN g call ops s k else if (yN3 g ops).isEmpty then (if (yDC g ops).isEmpty then y3u g call ops s k else yEV g call ops (yDC g ops) s k)else y53 g call (yN3 g ops) ops s k
 else y0c g call false ops ops.toList s k
def yLH:SV->SV
 |.val (.nS t) x=>.val (.slice t) (Option.getD x []:List t.den)
 |sv=>sv
def kL(keep:List Nat):Nat->List SV->List SV
 |_,[]=>[]
 |i,sv::l=>(if keep.contains i then yLH sv else .undef)::kL keep (i+1) l
def y0P(l:List Nat)(β:Nat):Nat:=l.idxOf β
def Cap.rename(l:List Nat):Cap->Option Cap
 |.box β=>if l.contains β then some (.box (y0P l β))else none
 |.val t x=>some (.val t x)
def y1N(l:List Nat):List Cap->Option (List Cap)
 |[]=>some []
 |c::cs=>(c.rename l).bind λ d=>(y1N l cs).map λ ds=>d::ds
def SV.rename(l:List Nat):SV->SV
 |.bP β off=>if l.contains β then .bP (y0P l β) off else .undef
 |.own β=>if l.contains β then .own (y0P l β)else .undef
 |.eP β i sz off=>if l.contains β then .eP (y0P l β) i sz off else .undef
 |.oS β n sz=>if l.contains β then .oS (y0P l β) n sz else .undef
 |.mO β=>if l.contains β then .mO (y0P l β)else .undef
 |.yld β=>if l.contains β then .yld (y0P l β)else .undef
 |.mP β e=>if l.contains β then .mP (y0P l β) e else .undef
 |.sR β=>if l.contains β then .sR (y0P l β)else .undef
 |.nO β i=>if l.contains β then .nO (y0P l β) i else .undef
 |.nP β i j sz off=>if l.contains β then .nP (y0P l β) i j sz off else .undef
 |.meth f β=>if l.contains β then .meth f (y0P l β)else .undef
 |.clo f caps=>(match y1N l caps with|some cs=>.clo f cs|none=>.undef)
 |sv=>sv
def yAr(l:List Nat):List Nat->List Nat
 |[]=>l
 |β::r=>if l.contains β then yAr l r else yAr (l++[β]) r
def y39:List SV->List Nat->List Nat
 |[],l=>l
 |sv::r,l=>y39 r (yAr l sv.names)
def y9n(cs:List (Option Chunk)):Nat->List Nat->List Nat->List Nat
 |0,_,l=>l
 |n+1,done,l =>
  match l.find? (λ β=>!done.contains β)with
  |none=>l
  |some β=>y9n cs n (β::done) (match cs.getD β none with|some (.box _ cells)=>y39 cells l|some (.lp _ _ cells _)=>y39 cells l|some (.rcd _ cells)=>y39 cells l|_=>l)
def Chunk.rename(l:List Nat):Chunk->Option Chunk
 |.mps _ _ _ _ (some _)=>none
 |c=>some (c.map (SV.rename l))
def y5e(l keep:List Nat)(s:St):St:=
 { sl:=.ofList ((kL keep 0 s.slots).map (SV.rename l)),cH:=l.zipIdx.map λ p=>if y0P l p.1=p.2 then (s.cH.getD p.1 none).bind (Chunk.rename l)else none,kept:=s.kept.map (SV.rename l),dep:=s.dep,nmk:=s.nmk,rnd:=s.rnd }
def canon(keep:List Nat)(s:St):St:=y5e (y9n s.cH s.cH.length [] (y39 s.kept (y39 (keep.map λ i=>s.get i) []))) keep s
def y4H:List Cap->Ty
 |[]=>.unit
 |.val t _::l=>.pair t (y4H l)
 |.box _::l=>y4H l
def yJF:(l:List Cap)->(y4H l).den
 |[]=>()
 |.val _ x::l=>(x,yJF l)
 |.box _::l=>yJF l
def y60:(l:List Cap)->(y4H l).den->List Cap
 |[],_=>[]
 |.val t _::l,y=>.val t y.1::y60 l y.2
 |.box β::l,y=>.box β::y60 l y
def y3A:(l l':List Cap)->Option (y4H l).den
 |[],[]=>some ()
 |.val t _::l,.val u x::l'=>(y2G u t x).bind λ y=>(y3A l l').map λ z=>(y,z)
 |.box β::l,.box γ::l'=>if β=γ then y3A l l' else none
 |_,_=>none
def yy:List SV->Ty
 |[]=>.unit
 |.val t _::l=>.pair t (yy l)
 |.clo _ cs::l=>.pair (y4H cs) (yy l)
 |_::l=>yy l
def y29:(l:List SV)->(yy l).den
 |[]=>()
 |.val _ x::l=>(x,y29 l)
 |.clo _ cs::l=>(yJF cs,y29 l)
 |.undef::l|.bP _ _::l|.own _::l|.eP _ _ _ _::l|.tup _ _::l|.nils::l|.mO _::l|.yld _::l|.mP _ _::l|.oS _ _ _::l|.xV _ _::l|.gone::l|.sR _::l|.nO _ _::l|.nP _ _ _ _ _::l|.meth _ _::l|.nilp::l=>y29 l
def yL:(l:List SV)->(yy l).den->List SV
 |[],_=>[]
 |.val t _::l,y=>.val t y.1::yL l y.2
 |.clo f cs::l,y=>.clo f (y60 cs y.1)::yL l y.2
 |.undef::l,y=>.undef::yL l y
 |.bP β o::l,y=>.bP β o::yL l y
 |.own β::l,y=>.own β::yL l y
 |.eP _ _ _ _::l,y=>.undef::yL l y
 |.oS _ _ _::l,y=>.undef::yL l y
 |.tup _ _::l,y=>.undef::yL l y
 |.xV _ _::l,y=>.undef::yL l y
 |.nils::l,y=>.nils::yL l y
 |.mO β::l,y=>.mO β::yL l y
 |.gone::l,y=>.undef::yL l y
 |.sR β::l,y=>.sR β::yL l y
 |.nO _ _::l,y=>.undef::yL l y
 |.nP _ _ _ _ _::l,y=>.undef::yL l y
 |.meth f β::l,y=>.meth f β::yL l y
 |.nilp::l,y=>.nilp::yL l y
 |.yld β::l,y=>.yld β::yL l y
 |.mP β e::l,y=>.mP β e::yL l y
def yQ2(t:Ty):SV->Option t.den
 |.val u x=>conv u t x
 |.nils=>(match t with|.slice _=>some ([]:List _)|.nS _=>some none|_=>none)
 |_=>none
def yQZ(f:FuncId)(cs:List Cap):SV->Option (y4H cs).den
 |.clo h ds=>if f=h then y3A cs ds else none
 |_=>none
def yMV(β o:Nat):SV->Bool
 |.bP γ p=>decide (β=γ) && decide (o=p)
 |_=>false
def yNN(β:Nat):SV->Bool
 |.own γ=>decide (β=γ)
 |_=>false
def yQK(β:Nat):SV->Bool
 |.sR γ=>decide (β=γ)
 |_=>false
def yMZ(β:Nat):SV->Bool
 |.mO γ=>decide (β=γ)
 |_=>false
def yQf(β:Nat):SV->Bool
 |.yld γ=>decide (β=γ)
 |_=>false
def yN2(β e:Nat):SV->Bool
 |.mP γ d=>decide (β=γ) && decide (e=d)
 |_=>false
def yMo(f:FuncId)(β:Nat):SV->Bool
 |.meth h γ=>decide (f=h) && decide (β=γ)
 |_=>false
def yMQ:SV->Bool
 |.nils=>true
 |_=>false
def yMS:SV->Bool
 |.nilp=>true
 |_=>false
def yP:(l l':List SV)->Option (yy l).den
 |[],[]=>some ()
 |[],_::_=>none
 |_::_,[]=>none
 |.val t _::l,sv::l'=>(yQ2 t sv).bind λ y=>(yP l l').map λ z=>(y,z)
 |.clo f cs::l,sv::l'=>(yQZ f cs sv).bind λ y=>(yP l l').map λ z=>(y,z)
 |.undef::l,_::l'=>yP l l'
 |.bP β o::l,sv::l'=>if yMV β o sv then yP l l' else none
 |.own β::l,sv::l'=>if yNN β sv then yP l l' else none
 |.nils::l,sv::l'=>if yMQ sv then yP l l' else none
 |.nilp::l,sv::l'=>if yMS sv then yP l l' else none
 |.mO β::l,sv::l'=>if yMZ β sv then yP l l' else none
 |.yld β::l,sv::l'=>if yQf β sv then yP l l' else none
 |.mP β e::l,sv::l'=>if yN2 β e sv then yP l l' else none
 |.eP _ _ _ _::l,_::l'=>yP l l'
 |.oS _ _ _::l,_::l'=>yP l l'
 |.tup _ _::l,_::l'=>yP l l'
 |.xV _ _::l,_::l'=>yP l l'
 |.gone::l,_::l'=>yP l l'
 |.sR β::l,sv::l'=>if yQK β sv then yP l l' else none
 |.nO _ _::l,_::l'=>yP l l'
 |.nP _ _ _ _ _::l,_::l'=>yP l l'
 |.meth f β::l,sv::l'=>if yMo f β sv then yP l l' else none
def y05:List (Option Chunk)->Ty
 |[]=>.unit
 |some (.box _ cells)::l=>.pair (yy cells) (y05 l)
 |some (.arr _ t _ _)::l=>.pair (.slice t) (y05 l)
 |some (.mp k v _)::l=>.pair (.map k v) (y05 l)
 |some (.mps k _ u _ none)::l=>.pair (.map k (.slice u)) (y05 l)
 |some (.mps _ _ _ _ (some _))::l=>y05 l
 |some (.it _ _)::l=>.pair (.pair .str (.int .i64)) (y05 l)
 |some (.lp _ _ cells _)::l=>.pair (yy cells) (y05 l)
 |some (.rcd _ cells)::l=>.pair (yy cells) (y05 l)
 |some (.nst _ t _ _ _ _)::l=>.pair (.slice t) (y05 l)
 |none::l=>y05 l
def y27:(l:List (Option Chunk))->(y05 l).den
 |[]=>()
 |some (.box _ cells)::l=>(y29 cells,y27 l)
 |some (.arr _ _ xs _)::l=>(xs,y27 l)
 |some (.mp _ _ es)::l=>(es,y27 l)
 |some (.mps _ _ _ es none)::l=>(es,y27 l)
 |some (.mps _ _ _ _ (some _))::l=>y27 l
 |some (.it bs q)::l=>((bs,q),y27 l)
 |some (.lp _ _ cells _)::l=>(y29 cells,y27 l)
 |some (.rcd _ cells)::l=>(y29 cells,y27 l)
 |some (.nst _ _ _ _ _ xs)::l=>(xs,y27 l)
 |none::l=>y27 l
def yI:(l:List (Option Chunk))->(y05 l).den->List (Option Chunk)
 |[],_=>[]
 |some (.box t cells)::l,y=>some (.box t (yL cells y.1))::yI l y.2
 |some (.arr e t _ nn)::l,y=>some (.arr e t y.1 nn)::yI l y.2
 |some (.mp k v _)::l,y=>some (.mp k v y.1)::yI l y.2
 |some (.mps k e u _ none)::l,y=>some (.mps k e u y.1 none)::yI l y.2
 |some (.mps _ _ _ _ (some _))::l,y=>none::yI l y
 |some (.it _ _)::l,y=>some (.it y.1.1 y.1.2)::yI l y.2
 |some (.lp i info cells st)::l,y=>some (.lp i info (yL cells y.1) st)::yI l y.2
 |some (.rcd t cells)::l,y=>some (.rcd t (yL cells y.1))::yI l y.2
 |some (.nst e t o e' u _)::l,y=>some (.nst e t o e' u y.1)::yI l y.2
 |none::l,y=>none::yI l y
def yNu(t:Ty)(cells:List SV):Option Chunk->Option (yy cells).den
 |some (.box u cells')=>if t=u then yP cells cells' else none
 |_=>none
def yNV(e:TypeId)(t:Ty)(nn:Bool):Option Chunk->Option (List t.den)
 |some (.arr e' u xs nn')=>if e=e'/\(nn=true->nn'=true)then y2G (.slice u) (.slice t) xs else none
 |_=>none
def yO1(t:Ty)(cells:List SV):Option Chunk->Option (yy cells).den
 |some (.rcd u cells')=>if t=u then yP cells cells' else none
 |_=>none
def yNA(e:TypeId)(t:Ty)(o:Nat)(e':TypeId)(u:Ty):Option Chunk->Option (List t.den)
 |some (.nst d t' o' d' u' xs)=>if e=d/\o=o'/\e'=d'/\u=u' then y2G (.slice t') (.slice t) xs else none
 |_=>none
def asMp(k v:Ty):Option Chunk->Option (List (k.den×v.den))
 |some (.mp k' v' es)=>y2G (.map k' v') (.map k v) es
 |_=>none
def yOX(k:Ty)(e:TypeId)(u:Ty):Option Chunk->Option (List (k.den×List u.den))
 |some (.mps k' e' u' es none)=>if e=e' then y2G (.map k' (.slice u')) (.map k (.slice u)) es else none
 |_=>none
def asIt:Option Chunk->Option (List UInt8×Int)
 |some (.it bs q)=>some (bs,q)
 |_=>none
def asLp(i:Nat)(cells:List SV)(st:LpSt):Option Chunk->Option (yy cells).den
 |some (.lp j _ cells' st')=>if i=j/\st=st' then yP cells cells' else none
 |_=>none
def yX:(l l':List (Option Chunk))->Option (y05 l).den
 |[],[]=>some ()
 |[],_::_=>none
 |_::_,[]=>none
 |some (.box t cells)::l,c::l'=>(yNu t cells c).bind λ y=>(yX l l').map λ z=>(y,z)
 |some (.arr e t _ nn)::l,c::l'=>(yNV e t nn c).bind λ y=>(yX l l').map λ z=>(y,z)
 |some (.mp k v _)::l,c::l'=>(asMp k v c).bind λ y=>(yX l l').map λ z=>(y,z)
 |some (.mps k e u _ none)::l,c::l'=>(yOX k e u c).bind λ y=>(yX l l').map λ z=>(y,z)
 |some (.mps _ _ _ _ (some _))::l,_::l'=>yX l l'
 |some (.it _ _)::l,c::l'=>(asIt c).bind λ y=>(yX l l').map λ z=>(y,z)
 |some (.lp i _ cells st)::l,c::l'=>(asLp i cells st c).bind λ y=>(yX l l').map λ z=>(y,z)
 |some (.rcd t cells)::l,c::l'=>(yO1 t cells c).bind λ y=>(yX l l').map λ z=>(y,z)
 |some (.nst e t o e' u _)::l,c::l'=>(yNA e t o e' u c).bind λ y=>(yX l l').map λ z=>(y,z)
 |none::l,_::l'=>yX l l'
def stTy(s:St):Ty:=.pair (yy s.slots) (.pair (y05 s.cH) (yy s.kept))
def stX(s:St):(stTy s).den:=(y29 s.slots,y27 s.cH,y29 s.kept)
def y4x(s:St)(y:(stTy s).den):St:={ sl:=.ofList (yL s.slots y.1),cH:=yI s.cH y.2.1,kept:=yL s.kept y.2.2,dep:=s.dep,nmk:=s.nmk,rnd:=s.rnd }
def stAs(s s':St):Option (stTy s).den:=if s.nmk=0/\s'.nmk≠0 then none else (yP s.slots s'.slots).bind λ y=>(yX s.cH s'.cH).bind λ z=>(yP s.kept s'.kept).map λ u=>(y,z,u)
def yA1:Code->Bool
 |.seq a b=>yA1 a || yA1 b
 |.cond _ a b=>yA1 a || yA1 b
 |.block _ c|.scope c|.loop c=>yA1 c
 |.rangeFunc _ _ _ _=>true
 |_=>false
def puts:Code->Bool
 |.seq a b=>puts a || puts b
 |.cond _ a b=>puts a || puts b
 |.block _ c|.scope c|.loop c=>puts c
 |.rangeFunc _ _ _ _=>true
 |.region _ ops _=>ops.toList.any λ o=>match o.op with|.mapUpdate _ _ _ _=>true|_=>false
 |_=>false
def freezeMs:Nat->St->St
 |0,s=>s
 |n+1,s=>freezeMs n (match s.cH.getD n none with|some (.mps _ _ _ _ _)=>s.freeze n|_=>s)
def frzS(c:Code)(s:St):St:=if puts c then s else freezeMs s.cH.length s
def frzK:List Nat->St->St
 |[],s=>s
 |k::l,s=>frzK l (if 1000000<=k then s.settle (s.get (k - 1000000))else s)
def y75(c:Code)(keep:List Nat)(s:St):St:={ canon keep (frzK keep (frzS c s))with nmk:=if yA1 c then 1 else (frzK keep (frzS c s)).nmk }
def iter{σ:Type}(F:(σ->Option R)->σ->Option R):Nat->σ->Option R
 |0,_=>none
 |n+1,x=>F (iter F n) x
def loops:Code->Nat
 |.seq a b=>loops a+loops b
 |.cond _ a b=>loops a+loops b
 |.block _ c|.scope c=>loops c
 |.rangeFunc _ _ a b=>loops a+loops b
 |.loop c=>loops c+1
 |_=>0
def LpSt.exit:LpSt->Option Exit
 |.ready=>some .normal
 |.busy|.over=>none
 |.done (.exit id)=>some (.exit id)
 |.done .ret=>some .ret
def y5v(d:Nat)(cs:List (Option Chunk)):List (Option Chunk):=
 cs.map λ|some (.lp i info cells st)=>if i < d then some (.lp i info cells st)else none|c=>c
def endRange(s:St)(k:Exit->St->Option R):Option R:=
 match s.kept with
 |.yld β::kept=>(match s.cH.getD β none with
  |some (.lp _ _ _ st)=>st.exit.bind λ e=>k e { s with kept:=kept,cH:=y5v (s.dep - 1) (s.cH.set β none),dep:=s.dep - 1 }
  |_=>none)
 |_=>none
def yJb(g:G)(call:yv R)(f:Operand)(ps:Array Tmp)(assign body:Code)(kp:List (List Nat))(s:St)(k:Exit->St->Option R):Option R:=
 match y8 g.T 0 s f with
 |.clo n caps=>call (.fn n) (.yld s.cH.length::y1T caps)
   { s with cH:=s.cH++[some (.lp s.dep { ps:=ps,assign:=assign,body:=body,keep:=kp,mU:=g.mU,fz:=g.fz,lv:=g.lv,sep:=g.sep } s.slots .ready)],kept:=.yld s.cH.length::s.kept,dep:=s.dep+1,nmk:=if s.rnd then s.nmk else s.nmk+1 }
   λ _ s2=>endRange s2 k
 |_=>none
def clrV(cs:List (Option Chunk)):SV->SV
 |.own β=>if cs.any (λ c=>match c with|some (.box _ cells)=>cells.any (yNN β)|_=>false)then .undef else .own β
 |sv=>sv
def clrS(s:St):St:={ s with sl:=s.sl.map (clrV s.cH) }
theorem yMi:∃ f:(R:Type)->St->(St->Option R)->Option R,∀ (R:Type) (s:St) (K:St->Option R),f R s K=K s:=⟨λ _ s K=>K s,λ _ _ _=>rfl⟩
def cutK(s:St)(K:St->Option R):Option R:=Classical.choose yMi R s K
theorem yEX(s:St)(K:St->Option R):cutK s K=K s:=Classical.choose_spec yMi R s K
def cutR(g:G)(id:Nat)(s:St)(K:St->Option R):Option R:=
 match g.cut.find? (λ p=>p.1 == id)with
 |some p=>cutK (canon p.2 s) K
 |none=>K s
def exec(g:G)(call:yv R)(fuel:Nat):Code->List (List Nat)->St->(Exit->St->Option R)->Option R
 |.skip,_,s,k=>k .normal s
 |.region id ops draw,_,s,k=>cutR g id s λ s=>y45 g call ops draw s λ s'=>k .normal s'
 |.seq a b,kp,s,k=>exec g call fuel a kp s λ e s'=>match e with
  |.normal=>exec g call fuel b (kp.drop (loops a)) s' k
  |e=>k e s'
 |.cond c a b,kp,s,k=>match y8 g.T 0 s c with
  |.val .bool p=>bif p then exec g call fuel a kp s k else exec g call fuel b (kp.drop (loops a)) s k
  |_=>none
 |.block id c,kp,s,k=>exec g call fuel c kp s λ e s'=>match e with
  |.exit id'=>if id'=id then k .normal s' else k (.exit id') s'
  |e=>k e s'
 |.loop c,kp,s,k =>
  iter (λ r y=>exec g call fuel c kp.tail (y4x (y75 c (kp.headD []) s) y) λ e s'=>match e with
   |.normal=>(stAs (y75 c (kp.headD []) s) (canon (kp.headD []) (frzK (kp.headD []) s'))).bind r
   |e=>k e s') fuel (stX (y75 c (kp.headD []) s))
 |.scope c,kp,s,k=>exec g call fuel c kp s k
 |.rangeFunc f ps assign body,kp,s,k=>yJb g call f ps assign body kp (clrS (s.live g.lv)) k
 |.exit id,_,s,k=>k (.exit id) s
 |.ret,_,s,k=>k .ret s
 |.label _,_,s,k=>k .normal s
 |_,_,_,_=>none
def y1D:(t:Ty)->t.den->List SV
 |.pair a b,x=>.val a x.1::y1D b x.2
 |_,_=>[]
def St.settleR(s:St):SV->St
 |.bP β _=>St.freeze (match s.cH.getD β none with|some (.box _ cells)=>settleCells cells s|_=>s) β
 |sv=>s.settle sv
def settleRes:List ResultVar->St->St
 |[],s=>s
 |.tmp t::l,s=>settleRes l (s.settleR (s.get t))
 |.cell t _::l,s=>settleRes l (s.settleIn (s.get t))
def yBz(T:List (TypeId×TyI))(s:St)(t ty:Nat)(a:Ty):Option a.den:=
 match yN T ty,s.get t with
 |some i,.bP β off=>if i.ty=a then (match s.cH.getD β none with
  |some (.box _ cells)=>y2X a ((cells.drop off).take a.size)
  |_=>none)else none
 |_,_=>none
def yB5(E:List Entry)(T:List (TypeId×TyI))(s:St):(t:Ty)->List ResultVar->Option t.den
 |.unit,[]=>some ()
 |.pair a b,.tmp t::l=>(y5A E s.cH (s.get t) a).bind λ x=>(yB5 E T s b l).map λ y=>(x,y)
 |.pair a b,.cell t ty::l=>(yBz T s t ty a).bind λ x=>(yB5 E T s b l).map λ y=>(x,y)
 |_,_=>none
def yNj(T:List (TypeId×TyI))(s:St):ResultVar->Option SV
 |.tmp t=>some (s.get t)
 |.cell t ty=>match yN T ty with
  |some i=>(yBz T s t ty i.ty).map λ x=>.val i.ty x
  |none=>none
def yG1(T:List (TypeId×TyI))(s:St):List ResultVar->Option (List SV)
 |[]=>some []
 |v::l=>(yNj T s v).bind λ sv=>(yG1 T s l).map λ svs=>sv::svs
def Ty.noFn:Ty->Bool
 |.func _ _=>true
 |.pair a b=>a.noFn && b.noFn
 |.slice t|.ref t|.nS t|.arr _ t=>t.noFn
 |.map k v=>k.noFn && v.noFn
 |_=>true
def Cap.noFn:Cap->Bool
 |.val t _=>t.noFn
 |.box _=>true
def SV.noFn:SV->Bool
 |.val t _|.tup t _|.xV t _=>t.noFn
 |.clo _ caps=>caps.all Cap.noFn
 |_=>true
def Chunk.noFn:Option Chunk->Bool
 |some (.box _ cells)|some (.lp _ _ cells _)|some (.rcd _ cells)=>cells.all SV.noFn
 |some (.nst _ t _ _ u _)=>t.noFn && u.noFn
 |some (.arr _ t _ _)=>t.noFn
 |some (.mp k v _)=>k.noFn && v.noFn
 |some (.mps k _ u _ _)=>k.noFn && u.noFn
 |some (.it _ _)=>true
 |none=>true
def St.leaves(s:St):Bool:=s.nmk == 0 || (s.slots.all SV.noFn && s.kept.all SV.noFn && s.cH.all Chunk.noFn)
def y9x(g:G):List ResultVar->St->Option (List SV×St)
 |[],s=>some ([],s)
 |.tmp t::l,s=>(y9x g l s).map λ p=>(s.get t::p.1,p.2)
 |.cell t ty::l,s=>(match yN g.T ty,s.get t with
  |some i,.bP β off=>(match s.cH.getD β none with
   |some (.box _ cells)=>if i.ty.agg=true/\off+i.ty.size<=cells.length then (y9x g l { s with cH:=s.cH++[some (Chunk.rcd i.ty ((cells.drop off).take i.ty.size))] }).map λ p=>(.sR s.cH.length::p.1,p.2)else none
   |_=>none)
  |_,_=>none)
def yEv(g:G)(s:St)(rs:List ResultVar):Option (SV×St):=
 (y9x g rs s).bind λ p=>match p.1 with
  |[]=>none
  |[sv]=>some (sv,p.2)
  |sv::sw::l=>some (.sR p.2.cH.length,{ p.2 with cH:=p.2.cH++[some (Chunk.rcd .bool (sv::sw::l))] })
def retK(g:G)(rc:Bool)(fn:Func)(s:St)(K:SV->St->Option R):Option R:=
 if rc then (yEv g s fn.results.toList).bind λ p=>K p.1 p.2 else
 match fn.results.toList with
 |[]=>K (.tup .unit ()) s
 |[.tmp t]=>K (s.get t) s
 |rs=>(y32 g.T fn.resultTypes.toList).bind λ ty=>(yG1 g.T (settleRes rs s) rs).bind λ svs=>(y0s g.E [] ty svs).bind λ y=>K (y8U ty y) (settleRes rs s)
inductive LibK where
 | copy (e0:Nat)
 | sort
 | ins (e0:Nat)
 | del (e0:Nat)
structure Inl where
 f:FuncId
 fn:Func
 keep:List (List Nat):=[]
 mU:List Nat:=[]
 fz:List Nat:=[]
 lib:Option LibK:=none
 rc:Bool:=false
 hide:List FuncId:=[]
 lv:Option (List Nat):=none
 on:List Nat:=[]
 sep:List Nat:=[]
def yLf:List FuncId->List Entry->List Entry
 |[],E=>E
 |l,E=>E.filter λ e=>!l.contains e.f
def yGn(e0:Nat)(svs:List SV)(s:St)(K:SV->St->Option R):Option R:=
 match svs with
 |[.bP β 0]=>(match s.cH.getD β none with
  |some (.box _ [.mP γ e,_])=>if γ=β/\e=e0 then K (.tup .unit ()) s else none
  |_=>none)
 |_=>none
def insI(x:Int):List Int->List Int
 |[]=>[x]
 |y::l=>bif decide (x<=y)then x::y::l else y::insI x l
def yPQ:List Int->List Int
 |[]=>[]
 |x::l=>insI x (yPQ l)
def yIx(svs:List SV)(s:St)(K:SV->St->Option R):Option R:=none
def y79(xs:List (List UInt8))(i:Nat)(x:List UInt8):List (List UInt8):=xs.take i++x::xs.drop i
def y90(xs:List (List UInt8))(i j:Nat):List (List UInt8):=xs.take i++xs.drop j
def insK(e0:Nat)(svs:List SV)(s:St)(K:SV->St->Option R):Option R:=
 match svs with
 |[.own β,.val (.int .i64) i,.own γ]=>(match s.cH.getD β none,s.cH.getD γ none with
  |some (.arr e .str xs _),some (.arr _ .str ys _)=>if e=e0/\β≠γ then (match (ys:List (List UInt8))with
   |[x]=>bif decide (0<=i) && decide (i<=(List.length xs:Int)) && decide (List.length xs < memMax)then
     K (.own s.cH.length) { s with cH:=s.cH.set β none++[some (Chunk.arr e .str (y79 xs i.toNat x) true)] }else none
   |_=>none)else none
  |_,_=>none)
 |_=>none
def delK(e0:Nat)(svs:List SV)(s:St)(K:SV->St->Option R):Option R:=
 match svs with
 |[.own β,.val (.int .i64) i,.val (.int .i64) j]=>(match s.cH.getD β none with
  |some (.arr e .str xs nn)=>if e=e0 then
    bif decide (0<=i) && decide (i < j) && decide (j<=(List.length xs:Int))then
     K (.own s.cH.length) { s with cH:=s.cH.set β none++[some (Chunk.arr e .str (y90 xs i.toNat j.toNat) nn)] }else none
   else none
  |_=>none)
 |_=>none
def libK(l:LibK)(svs:List SV)(s:St)(K:SV->St->Option R):Option R:=
 match l with
 |.copy e0=>yGn e0 svs s K
 |.sort=>yIx svs s K
 |.ins e0=>insK e0 svs s K
 |.del e0=>delK e0 svs s K
structure Ann where
 keep:List (List Nat)
 fuel:Nat
 inl:List Inl:=[]
 deep:Nat:=0
def yL1:List Inl->FuncId->Option Inl
 |[],_=>none
 |e::l,f=>if e.f == f then some e else yL1 l f
def y5y(s:St)(svs:List SV)(n:Nat)(b:Bool):St:={ sl:=.ofList (svs++List.replicate (n - svs.length) .undef),cH:=s.cH,kept:=s.slots++s.kept,dep:=s.dep,rnd:=b }
def y3n(s s0:St):St:={ sl:=.ofList (s.kept.take s0.slots.length),cH:=s.cH,kept:=s.kept.drop s0.slots.length,dep:=s.dep,nmk:=s0.nmk,rnd:=s0.rnd }
def yM0:Exit->Option LpSt
 |.normal=>some .ready
 |.exit id=>some (.done (.exit id))
 |.ret=>some (.done .ret)
 |_=>none
def y7m(m:Nat)(s:St):Option Nat:=
 match s.kept.drop m with
 |.yld β::_=>some β
 |_=>none
def endRound(s0:St)(e:Exit)(s:St)(K:SV->St->Option R):Option R:=
 (y7m s0.slots.length s).bind λ β=>(yM0 e).bind λ st=>(s.setLp β .busy st).bind λ s'=>K (.val .bool (st == .ready)) (y3n s' s0)
def inl(g:G)(I:List Inl)(fuel:Nat):Nat->(R:Type)->yv R
 |0,_=>λ _ _ _ _=>none
 |d+1,R=>λ t svs s K =>
  match t with
  |.fn n=>(match yL1 I n with
   |none=>none
   |some i=>match i.lib with
    |some e0=>libK e0 svs s K
    |none=>match i.fn.body with
    |none=>none
    |some c=>exec { g with mU:=i.mU,fz:=i.fz,E:=yLf i.hide g.E,lv:=i.lv,on:=i.on,sep:=i.sep,cut:=[] } (inl g I fuel d R) fuel c i.keep (y5y s svs i.fn.ntmps false) λ e s'=>match e with
     |.ret|.normal=>if s'.leaves then retK g i.rc i.fn { s' with nmk:=0 } λ sv s''=>K sv (y3n s'' s)else none
     |_=>none)
  |.round info =>
   exec { g with mU:=info.mU,fz:=info.fz,lv:=info.lv,on:=[],sep:=info.sep,cut:=[] } (inl g I fuel d R) fuel info.assign info.keep (y5y s svs 0 true) λ e s1=>match e with
    |.normal=>(y7m s.slots.length s1).bind λ β=>(s1.setLp β .ready .busy).bind λ s2 =>
     exec { g with mU:=info.mU,fz:=info.fz,lv:=info.lv,on:=[],sep:=info.sep,cut:=[] } (inl g I fuel d R) fuel info.body (info.keep.drop (loops info.assign)) s2 λ e s'=>endRound s e s' K
    |_=>none
def runF(g:G)(an:Ann)(fn:Func)(args rS:Ty)(x:args.den):Option rS.den:=
 match fn.body with
 |none=>none
 |some c=>exec g (inl g an.inl an.fuel an.deep rS.den) an.fuel c an.keep { sl:=.ofList (y1D args x++List.replicate (fn.ntmps - (y1D args x).length) .undef),cH:=[] } λ e s=>match e with
  |.ret|.normal=>if s.leaves then yB5 g.E g.T (settleRes fn.results.toList { s with nmk:=0 }) rS fn.results.toList else none
  |_=>none
end
end
end Go.Vx
end
