import Derived.WalkKit
import Derived.Still
import Derived.Deep.Quiet
import Derived.Laws.FloatArith
set_option linter.all false
section
namespace Go.Vx
open Go.RowKit
inductive Ty where
 | bool|int (k:IntKind)|str|unit|pair (a b:Ty)|slice (t:Ty)|ref (t:Ty)|func (a b:Ty)
 | arr (n:Nat) (t:Ty)|nslice (t:Ty)|map (k v:Ty)|err|flt (k:FloatKind)|cplx (k:FloatKind)
 deriving DecidableEq,Inhabited
@[reducible] def Ty.den:Ty->Type
 |.bool=>Bool
 |.int _=>Int
 |.str=>List UInt8
 |.unit=>Unit
 |.pair a b=>a.den×b.den
 |.slice t=>List t.den
 |.ref t=>t.den
 |.func a b=>a.den->Option b.den
 |.arr _ t=>List t.den
 |.nslice t=>Option (List t.den)
 |.map k v=>List (k.den×v.den)
 |.err=>Bool
 |.flt _=>Nat
 |.cplx _=>Nat×Nat
def Ty.size:Ty->Nat
 |.unit=>0
 |.pair a b=>a.size+b.size
 |.arr n t=>n * t.size
 |_=>1
def Ty.agg:Ty->Bool
 |.unit|.pair _ _|.arr _ _=>true
 |_=>false
def Ty.dflt:(t:Ty)->t.den
 |.bool=>false
 |.int _=>(0:Int)
 |.str=>([]:List UInt8)
 |.unit=>()
 |.pair a b=>(a.dflt,b.dflt)
 |.slice _=>([]:List _)
 |.ref t=>t.dflt
 |.func _ _=>λ _=>none
 |.arr n t=>List.replicate n t.dflt
 |.nslice _=>none
 |.map _ _=>([]:List _)
 |.err=>true
 |.flt _=>(0:Nat)
 |.cplx _=>((0:Nat),(0:Nat))
def Ty.wrap(t:Ty)(l:List Value):Value:=if t.agg then .agg l.toArray else l.headD undef
def Ty.flatV:(t:Ty)->t.den->List Value
 |.bool,b=>[.bool b]
 |.int k,n=>[.int k n]
 |.str,s=>[.string ⟨(show List UInt8 from s).toArray⟩]
 |.pair a b,x=>a.flatV x.1++b.flatV x.2
 |.flt k,n=>[.float k n]
 |.cplx k,x=>[.complex k x.1 x.2]
 |_,_=>[]
def yn(k:Ty)(x:k.den):Value:=k.wrap (k.flatV x)
def Ty.group:Ty->List Value->List Value
 |.pair a b,l=>a.wrap (l.take a.size)::b.group (l.drop a.size)
 |_,_=>[]
def pack(vs:List Value):Value:=match vs with|[v]=>v|vs=>.tuple vs.toArray
class GT where
 gl:List (Nat×Ty×List Value)
variable [GT]
def fnan:FloatKind->Nat
 |.f32=>2143289344
 |.f64=>9221120237041090560
def fcan(k:FloatKind)(b:Nat):Nat:=bif (k.format.read b).isNaN then fnan k else b
omit [GT] in
theorem y2b(k:FloatKind):fcan k 0=0:=by cases k<;>decide
def yW(w:World)(b off:Nat)(l:List Value):Prop:=∀ j v,l[j]?=some v->w.cell? ⟨b,off+j,none⟩=some v
def y4S(A:Nat->Prop)(w:World):Prop:=∀ p∈GT.gl,¬ A p.1/\p.1 < w.heap.size/\∃ t f,w.heap[p.1]?=some (.cells p.2.2.toArray t f)
omit [GT] in
theorem yD8{w:World}{b:Nat}{l:List Value}(h:∃ t f,w.heap[b]?=some (.cells l.toArray t f)):yW w b 0 l:=by
 obtain ⟨t,f,h⟩:=h;intro j v hj;simp only[World.cell?,h];simpa using hj
def y3M(P:Program)(f:FuncId):Prop:=∃ fn,P.funcs[f]?=some fn/\(fn.name == "runtime.NumGoroutine")=false/\fn.body.isNone=false
def y6F(w:World)(n:Nat):Prop:=∀ d,w.heap[n]?≠some (.deferred d)
def y4(P:Program):(t:Ty)->(Nat->Prop)->World->t.den->List Value->Prop
 |.bool,_,_,b,l=>l=[.bool b]
 |.int k,_,_,n,l=>l=[.int k n]
 |.str,_,_,s,l=>l=[.string ⟨s.toArray⟩]
 |.unit,_,_,_,l=>l=[]
 |.pair a b,A,w,x,l=>∃ l1 l2,l=l1++l2/\y4 P a A w x.1 l1/\y4 P b A w x.2 l2
 |.slice t,A,w,xs,l=>∃ p c,l=[.slice p (List.length xs) c]/\List.length xs<=c/\c<=maxLen /\
   ∀ (i:Nat) (x:t.den),(xs:List t.den)[i]?=some x->∃ (a:Addr) (l':List Value),p=some a/\a.spot=none/\¬ A a.block/\a.block < w.heap.size/\yW w a.block (a.off+i * t.size) l'/\y4 P t A w x l'
 |.ref t,A,w,x,l=>∃ (a:Addr) (l':List Value),l=[.pointer (some a)]/\a.spot=none/\¬ A a.block/\a.block < w.heap.size/\yW w a.block a.off l'/\y4 P t A w x l'
 |.arr n t,A,w,xs,l=>l.length=n * t.size/\List.length xs=n/\∀ (i:Nat) (x:t.den),(xs:List t.den)[i]?=some x->y4 P t A w x ((l.drop (i * t.size)).take t.size)
 |.nslice t,A,w,o,l=>∃ p c,l=[.slice p (List.length (Option.getD o [])) c]/\(p=none ↔ o=none)/\(p=none->c=0)/\List.length (Option.getD o [])<=c/\c<=maxLen /\
   ∀ (i:Nat) (x:t.den),(Option.getD o []:List t.den)[i]?=some x->∃ (a:Addr) (l':List Value),p=some a/\a.spot=none/\¬ A a.block/\a.block < w.heap.size/\yW w a.block (a.off+i * t.size) l'/\y4 P t A w x l'
 |.map k v,A,w,es,l=>(l=[.map none]/\es=[])\/∃ (r:Nat) (ms:Array MapEntry) (clock:Nat),l=[.map (some r)]/\¬ A r/\w.heap[r]?=some (.map ms clock)/\ms.size=List.length es /\
   ∀ (i:Nat) (x:k.den×v.den),(es:List (k.den×v.den))[i]?=some x->∃ (e:MapEntry) (lv:List Value),ms[i]?=some e/\e.key=yn k x.1/\y4 P v A w x.2 lv/\e.val=v.wrap lv
 |.err,_,_,b,l=>(b=true/\l=[.nilIface])\/(b=false/\∃ t v,l=[.iface t v])
 |.flt k,_,_,n,l=>∃ b,l=[.float k b]/\fcan k b=n
 |.cplx k,_,_,x,l=>∃ a b,l=[.complex k a b]/\fcan k a=x.1/\fcan k b=x.2
 |.func a b,A,w,g,l=>(l=[.nilFunc]/\∀ x,g x=none)\/∃ (f:FuncId) (first caps:Array Value) (S:Nat->Prop),l=[.func (.func f) first caps]/\y3M P f/\(∀ n,S n->¬ A n/\n < w.heap.size/\y6F w n) /\
   ∀ (A':Nat->Prop) (w':World),y4S A' w'->(∀ n,S n->w'.heap[n]?=w.heap[n]?)->(∀ n,A' n->n < w'.heap.size/\¬ S n) ->
    ∀ (x:a.den) (lx:List Value) (y:b.den),y4 P a A' w' x lx->g x=some y ->
     Calls P f (first++(a.group lx).toArray++caps) w' λ e w''=>∃ ly,e=.returned (pack (b.group ly))/\y4 P b A' w'' y ly/\Below w'.heap.size w' w''
theorem y4.length{P:Program}:{t:Ty}->{A:Nat->Prop}->{w:World}->{x:t.den}->{l:List Value}->y4 P t A w x l->l.length=t.size
 |.bool,_,_,_,_,h=>by simp only[y4]at h;subst h;rfl
 |.int _,_,_,_,_,h=>by simp only[y4]at h;subst h;rfl
 |.str,_,_,_,_,h=>by simp only[y4]at h;subst h;rfl
 |.unit,_,_,_,_,h=>by simp only[y4]at h;subst h;rfl
 |.pair a b,_,_,_,_,h=>by
  simp only[y4]at h;obtain ⟨l1,l2,rfl,h1,h2⟩:=h;simp[Ty.size,y4.length h1,y4.length h2]
 |.slice _,_,_,_,_,h=>by simp only[y4]at h;obtain ⟨p,c,rfl,_⟩:=h;rfl
 |.ref _,_,_,_,_,h=>by simp only[y4]at h;obtain ⟨p,c,rfl,_⟩:=h;rfl
 |.func _ _,_,_,_,_,h=>by
  simp only[y4]at h;rcases h with ⟨rfl,_⟩|⟨f,fi,c,_,rfl,_⟩<;>rfl
 |.arr _ _,_,_,_,_,h=>by simp only[y4]at h;exact h.1
 |.nslice _,_,_,_,_,h=>by simp only[y4]at h;obtain ⟨p,c,rfl,_⟩:=h;rfl
 |.map _ _,_,_,_,_,h=>by
  simp only[y4]at h;rcases h with ⟨rfl,_⟩|⟨r,ms,c,rfl,_⟩<;>rfl
 |.err,_,_,_,_,h=>by
  simp only[y4]at h;rcases h with ⟨_,rfl⟩|⟨_,t,v,rfl⟩<;>rfl
 |.flt _,_,_,_,_,h=>by simp only[y4]at h;obtain ⟨b,rfl,_⟩:=h;rfl
 |.cplx _,_,_,_,_,h=>by simp only[y4]at h;obtain ⟨a,b,rfl,_⟩:=h;rfl
def Keep(A:Nat->Prop)(w w':World):Prop:=∀ n,n < w.heap.size->¬ A n->w'.heap[n]?=w.heap[n]?
theorem yFG{w:World}{b o:Nat}{v:Value}(h:w.cell? ⟨b,o,none⟩=some v):b < w.heap.size:=by
 have:=World.block_lt_of_cell? w ⟨b,o,none⟩ h;exact this
theorem yN{w:World}{n:Nat}{o:Obj}(h:w.heap[n]?=some o):n < w.heap.size:=(Array.getElem?_eq_some_iff.1 h).1
theorem Keep.lt{A:Nat->Prop}{w w':World}(h:Keep A w w'){n:Nat}(hn:n < w.heap.size)(hA:¬ A n):n < w'.heap.size:=by
 have:=h n hn hA;rw[Array.getElem?_eq_getElem hn]at this;exact yN this
theorem yW.keep{A:Nat->Prop}{w w':World}{b off:Nat}{l:List Value}(h:yW w b off l)(hk:Keep A w w')(hA:¬ A b):yW w' b off l:=
 λ j v hj=>by
  have h1:=h j v hj;have:=hk b (yFG h1) hA;rw[World.cell?_of_block (w:=w) (a:=⟨b,off+j,none⟩) this];exact h1
theorem y4.mono{P:Program}:{t:Ty}->{A A':Nat->Prop}->{w w':World}->{x:t.den}->{l:List Value} ->
  y4 P t A w x l->Keep A w w'->(∀ n,n < w.heap.size->A' n->A n)->y4 P t A' w' x l
 |.bool,_,_,_,_,_,_,h,_,_=>h
 |.int _,_,_,_,_,_,_,h,_,_=>h
 |.str,_,_,_,_,_,_,h,_,_=>h
 |.unit,_,_,_,_,_,_,h,_,_=>h
 |.pair a b,A,A',w,w',x,l,h,hk,hA=>by
  simp only[y4]at h ⊢;obtain ⟨l1,l2,rfl,h1,h2⟩:=h;exact ⟨l1,l2,rfl,y4.mono h1 hk hA,y4.mono h2 hk hA⟩
 |.slice t,A,A',w,w',xs,l,h,hk,hA=>by
  simp only[y4]at h ⊢;obtain ⟨p,c,rfl,h1,h2,h3⟩:=h;refine ⟨p,c,rfl,h1,h2,λ i x hx=>?_⟩
  obtain ⟨a,l',rfl,hs,hn,hlt,hc,hl⟩:=h3 i x hx;exact ⟨a,l',rfl,hs,λ hb=>hn (hA _ hlt hb),hk.lt hlt hn,hc.keep hk hn,y4.mono hl hk hA⟩
 |.ref t,A,A',w,w',x,l,h,hk,hA=>by
  simp only[y4]at h ⊢;obtain ⟨a,l',rfl,hs,hn,hlt,hc,hl⟩:=h;exact ⟨a,l',rfl,hs,λ hb=>hn (hA _ hlt hb),hk.lt hlt hn,hc.keep hk hn,y4.mono hl hk hA⟩
 |.func a b,A,A',w,w',g,l,h,hk,hA=>by
  simp only[y4]at h ⊢;rcases h with h|⟨f,first,caps,S,rfl,he,hS,hr⟩
  ·exact .inl h
  refine .inr ⟨f,first,caps,S,rfl,he,λ n hn=>⟨λ hb=>(hS n hn).1 (hA _ (hS n hn).2.1 hb),hk.lt (hS n hn).2.1 (hS n hn).1,λ d hd=>(hS n hn).2.2 d ((hk n (hS n hn).2.1 (hS n hn).1).symm.trans hd)⟩,λ A2 w2 hG2 h2 hA2=>?_⟩
  exact hr A2 w2 hG2 (λ n hn=>(h2 n hn).trans (hk n (hS n hn).2.1 (hS n hn).1)) hA2
 |.arr n t,A,A',w,w',xs,l,h,hk,hA=>by
  simp only[y4]at h ⊢;exact ⟨h.1,h.2.1,λ i x hx=>y4.mono (h.2.2 i x hx) hk hA⟩
 |.nslice t,A,A',w,w',xs,l,h,hk,hA=>by
  simp only[y4]at h ⊢;obtain ⟨p,c,rfl,h0,h4,h1,h2,h3⟩:=h;refine ⟨p,c,rfl,h0,h4,h1,h2,λ i x hx=>?_⟩
  obtain ⟨a,l',rfl,hs,hn,hlt,hc,hl⟩:=h3 i x hx;exact ⟨a,l',rfl,hs,λ hb=>hn (hA _ hlt hb),hk.lt hlt hn,hc.keep hk hn,y4.mono hl hk hA⟩
 |.map k v,A,A',w,w',es,l,h,hk,hA=>by
  simp only[y4]at h ⊢;rcases h with h|⟨r,ms,clock,rfl,hn,hr,hs,he⟩
  ·exact .inl h
  refine .inr ⟨r,ms,clock,rfl,λ hb=>hn (hA _ (yN hr) hb),(hk r (yN hr) hn).trans hr,hs,λ i x hx=>?_⟩
  obtain ⟨e,lv,h1,h2,h3,h4⟩:=he i x hx;exact ⟨e,lv,h1,h2,y4.mono h3 hk hA,h4⟩
 |.err,_,_,_,_,_,_,h,_,_=>h
 |.flt _,_,_,_,_,_,_,h,_,_=>h
 |.cplx _,_,_,_,_,_,_,h,_,_=>h
def Ty.solid:Ty->Bool
 |.slice t|.ref t|.nslice t=>decide (0 < t.size) && t.solid
 |.pair a b=>a.solid && b.solid
 |.arr _ t=>t.solid
 |.map k v=>k.solid && v.solid
 |_=>true
theorem yW.notDef{w:World}{b off:Nat}{l:List Value}(h:yW w b off l)(hl:0 < l.length):y6F w b:=λ d hd=>by
 have h1:=h 0 l[0] (List.getElem?_eq_getElem hl);simp[World.cell?,hd]at h1
theorem yW.block{w w':World}{b off:Nat}{l:List Value}(h:yW w b off l)(he:w'.heap[b]?=w.heap[b]?):yW w' b off l:=λ j v hj=>by
 have h1:=h j v hj;rw[World.cell?_of_block (w:=w) (a:=⟨b,off+j,none⟩) he];exact h1
theorem y4.mono2{P:Program}{A A':Nat->Prop}{w w':World}(hk:∀ n,n < w.heap.size->¬ A n->y6F w n->w'.heap[n]?=w.heap[n]?)(hA:∀ n,n < w.heap.size->A' n->y6F w n->A n) :
  {t:Ty}->{x:t.den}->{l:List Value}->t.solid=true->y4 P t A w x l->y4 P t A' w' x l:=by
 have lt':∀ n,n < w.heap.size->¬ A n->y6F w n->n < w'.heap.size:=λ n hn hnA hd=>by
  have:=hk n hn hnA hd;rw[Array.getElem?_eq_getElem hn]at this;exact yN this
 intro t;induction t with
 |pair a b iha ihb =>
  intro x l hs h;simp only[Ty.solid,Bool.and_eq_true]at hs;simp only[y4]at h ⊢;obtain ⟨l1,l2,rfl,h1,h2⟩:=h;exact ⟨l1,l2,rfl,iha hs.1 h1,ihb hs.2 h2⟩
 |slice t ih =>
  intro x l hs h;simp only[Ty.solid,Bool.and_eq_true,decide_eq_true_eq]at hs;simp only[y4]at h ⊢;obtain ⟨p,c,rfl,h1,h2,h3⟩:=h;refine ⟨p,c,rfl,h1,h2,λ i x hx=>?_⟩
  obtain ⟨a,l',rfl,hsp,hn,hlt,hc,hl⟩:=h3 i x hx;have hd:=hc.notDef (by rw[hl.length];exact hs.1)
  exact ⟨a,l',rfl,hsp,λ hb=>hn (hA _ hlt hb hd),lt' _ hlt hn hd,hc.block (hk _ hlt hn hd),ih hs.2 hl⟩
 |ref t ih =>
  intro x l hs h;simp only[Ty.solid,Bool.and_eq_true,decide_eq_true_eq]at hs;simp only[y4]at h ⊢;obtain ⟨a,l',rfl,hsp,hn,hlt,hc,hl⟩:=h;have hd:=hc.notDef (by rw[hl.length];exact hs.1)
  exact ⟨a,l',rfl,hsp,λ hb=>hn (hA _ hlt hb hd),lt' _ hlt hn hd,hc.block (hk _ hlt hn hd),ih hs.2 hl⟩
 |func a b =>
  intro x l _ h;simp only[y4]at h ⊢;rcases h with h|⟨f,first,caps,S,rfl,he,hS,hr⟩
  ·exact .inl h
  have hk':=λ n hn=>hk n (hS n hn).2.1 (hS n hn).1 (hS n hn).2.2
  refine .inr ⟨f,first,caps,S,rfl,he,λ n hn=>⟨λ hb=>(hS n hn).1 (hA _ (hS n hn).2.1 hb (hS n hn).2.2),lt' n (hS n hn).2.1 (hS n hn).1 (hS n hn).2.2,λ d hd=>(hS n hn).2.2 d ((hk' n hn).symm.trans hd)⟩,λ A2 w2 hG2 h2 hA2=>?_⟩
  exact hr A2 w2 hG2 (λ n hn=>(h2 n hn).trans (hk' n hn)) hA2
 |arr n t ih =>
  intro x l hs h;simp only[y4]at h ⊢;exact ⟨h.1,h.2.1,λ i x hx=>ih hs (h.2.2 i x hx)⟩
 |nslice t ih =>
  intro x l hs h;simp only[Ty.solid,Bool.and_eq_true,decide_eq_true_eq]at hs;simp only[y4]at h ⊢;obtain ⟨p,c,rfl,h0,h4,h1,h2,h3⟩:=h;refine ⟨p,c,rfl,h0,h4,h1,h2,λ i x hx=>?_⟩
  obtain ⟨a,l',rfl,hsp,hn,hlt,hc,hl⟩:=h3 i x hx;have hd:=hc.notDef (by rw[hl.length];exact hs.1)
  exact ⟨a,l',rfl,hsp,λ hb=>hn (hA _ hlt hb hd),lt' _ hlt hn hd,hc.block (hk _ hlt hn hd),ih hs.2 hl⟩
 |map k v ihk ihv =>
  intro x l hs h;simp only[Ty.solid,Bool.and_eq_true]at hs;simp only[y4]at h ⊢;rcases h with h|⟨r,ms,clock,rfl,hn,hr,hsz,he⟩
  ·exact .inl h
  have hd:y6F w r:=λ d hd=>by rw[hr]at hd;cases hd
  refine .inr ⟨r,ms,clock,rfl,λ hb=>hn (hA _ (yN hr) hb hd),(hk r (yN hr) hn hd).trans hr,hsz,λ i x hx=>?_⟩
  obtain ⟨e,lv,h1,h2,h3,h4⟩:=he i x hx;exact ⟨e,lv,h1,h2,ihv hs.2 h3,h4⟩
 |_=>intro x l _ h;exact h
end Go.Vx
end
section
namespace Go.Vx
open Go.RowKit
variable [GT]
def y10:(t:Ty)->t.den->Nat->(τ:Ty)->Option τ.den
 |t,x,off,τ=>if h:off=0/\t=τ then some (h.2 ▸ x)else
  match t,x with
  |.pair a b,p=>if off < a.size then y10 a p.1 off τ else y10 b p.2 (off - a.size) τ
  |_,_=>none
def y0T:(t:Ty)->t.den->Nat->(τ:Ty)->τ.den->Option t.den
 |t,x,off,τ,y=>if h:off=0/\τ=t then some (h.2 ▸ y)else
  match t,x with
  |.pair a b,p=>if off < a.size then (y0T a p.1 off τ y).map λ q=>(q,p.2)else (y0T b p.2 (off - a.size) τ y).map λ q=>(p.1,q)
  |_,_=>none
inductive Cap where
 | box (β:Nat)
 | val (t:Ty) (x:t.den)
structure LpInfo where
 ps:Array Tmp
 assign:Code
 body:Code
 keep:List (List Nat)
 muts:List Nat
 fz:List Nat
inductive Jump where
 | exit (id:Nat)
 | ret
 deriving DecidableEq
inductive LpSt where
 | ready
 | busy
 | done (j:Jump)
 | over
 deriving DecidableEq
def Jump.code:Jump->Code
 |.exit id=>.exit id
 |.ret=>.ret
def LpSt.state:LpSt->LoopState
 |.ready=>.ready
 |.busy=>.busy
 |.done _=>.done
 |.over=>.exhausted
def LpSt.pending:LpSt->Option Code
 |.done j=>some j.code
 |_=>none
def LpOK(info:LpInfo)(st:LpSt)(r:Loop):Prop:=r.params=info.ps/\r.assign=info.assign/\r.body=info.body/\r.state=st.state/\(st=.over\/r.pending=st.pending)
inductive SV where
 | undef
 | val (t:Ty) (x:t.den)
 | bptr (β off:Nat)
 | own (β:Nat)
 | eptr (β i sz off:Nat)
 | clo (f:FuncId) (caps:List Cap)
 | tup (t:Ty) (x:t.den)
 | xval (t:Ty) (x:t.den)
 | nils
 | mown (β:Nat)
 | yld (β:Nat)
 | mayp (β e:Nat)
 | osub (β n sz:Nat)
 | gone
 | srec (β:Nat)
 | nown (β i:Nat)
 | nptr (β i j sz off:Nat)
inductive Chunk where
 | box (t:Ty) (cells:List SV)
 | arr (e:TypeId) (t:Ty) (xs:List t.den) (nn:Bool)
 | mp (k v:Ty) (es:List (k.den×v.den))
 | it (bs:List UInt8) (q:Int)
 | lp (i:Nat) (info:LpInfo) (cells:List SV) (st:LpSt)
 | mps (k:Ty) (e:TypeId) (u:Ty) (es:List (k.den×List u.den)) (hole:Option (k.den×Nat))
 | rcd (t:Ty) (cells:List SV)
 | nst (e:TypeId) (t:Ty) (o:Nat) (e':TypeId) (u:Ty) (xs:List t.den)
noncomputable def yKl(l:List SV):Nat->SV:=
 List.rec (motive:=λ _=>Nat->SV) (λ _=>.undef) (λ a _ ih i=>Nat.rec (motive:=λ _=>SV) a (λ n _=>ih n) i) l
noncomputable def yLS(l:List SV):Nat->SV->List SV:=
 List.rec (motive:=λ _=>Nat->SV->List SV) (λ _ _=>[]) (λ a as ih i x=>Nat.rec (motive:=λ _=>List SV) (x::as) (λ n _=>a::ih n x) i) l
noncomputable def yGb(l:List SV):Nat->Bool:=
 List.rec (motive:=λ _=>Nat->Bool) (λ _=>false) (λ _ _ ih i=>Nat.rec (motive:=λ _=>Bool) true (λ n _=>ih n) i) l
noncomputable def yJs(l:List SV):Nat->List SV:=
 List.rec (motive:=λ _=>Nat->List SV) (λ _=>[]) (λ a _ ih i=>Nat.rec (motive:=λ _=>List SV) [] (λ n _=>a::ih n) i) l
noncomputable def yIZ(l:List SV):Nat->List SV:=
 List.rec (motive:=λ _=>Nat->List SV) (λ _=>[]) (λ a as ih i=>Nat.rec (motive:=λ _=>List SV) (a::as) (λ n _=>ih n) i) l
noncomputable def yBY(l:List (List SV)):Nat->List SV:=
 List.rec (motive:=λ _=>Nat->List SV) (λ _=>[]) (λ a _ ih i=>Nat.rec (motive:=λ _=>List SV) a (λ n _=>ih n) i) l
noncomputable def yKE(l:List (List SV)):Nat->Nat->SV->List (List SV):=
 List.rec (motive:=λ _=>Nat->Nat->SV->List (List SV)) (λ _ _ _=>[]) (λ a as ih i j x=>Nat.rec (motive:=λ _=>List (List SV)) (yLS a j x::as) (λ n _=>a::ih n j x) i) l
noncomputable def y5V(f:List SV):List SV->List (List SV):=
 List.rec (motive:=λ _=>List SV->List (List SV)) (λ _=>[]) (λ _ _ ih l=>List.rec (motive:=λ _=>List (List SV)) [] (λ x r _=>yJs (x::r) 16::ih (yIZ (x::r) 16)) l) f
omit [GT] in
theorem y9y:∀ (l:List SV) (i:Nat),yKl l i=l.getD i .undef
 |[],_=>rfl
 |_::_,0=>rfl
 |_::l,i+1=>(y9y l i).trans rfl
omit [GT] in
theorem yAd:∀ (l:List SV) (i:Nat) (x:SV),yLS l i x=l.set i x
 |[],_,_=>rfl
 |_::_,0,_=>rfl
 |a::l,i+1,x=>congrArg (a::·) (yAd l i x)
omit [GT] in
theorem yAI:∀ (l:List SV) (i:Nat),yGb l i=decide (i < l.length)
 |[],i=>by simp[yGb]
 |a::l,0=>by
  show true=_
  simp
 |a::l,i+1=>(yAI l i).trans (by simp)
omit [GT] in
theorem yBe:∀ (l:List SV) (i:Nat),yJs l i=l.take i
 |[],i=>by cases i<;>rfl
 |_::_,0=>rfl
 |a::l,i+1=>congrArg (a::·) (yBe l i)
omit [GT] in
theorem yBf:∀ (l:List SV) (i:Nat),yIZ l i=l.drop i
 |[],i=>by cases i<;>rfl
 |_::_,0=>rfl
 |a::l,i+1=>yBf l i
def y0v:List (List SV)->Prop
 |[]=>True
 |[r]=>0 < r.length/\r.length<=16
 |r::q::rs=>r.length=16/\y0v (q::rs)
omit [GT] in
theorem y27(a x:SV)(f r:List SV):y5V (a::f) (x::r)=(x::r).take 16::y5V f ((x::r).drop 16):=by
 show yJs (x::r) 16::y5V f (yIZ (x::r) 16)=_
 rw[yBe,yBf]
omit [GT] in
theorem y2k(f:List SV):y5V f []=[]:=by cases f<;>rfl
omit [GT] in
theorem y4V:∀ (f l:List SV),l.length<=f.length->(y5V f l).flatten=l
 |f,[],_=>by rw[y2k];rfl
 |[],x::r,h=>by simp at h
 |a::f,x::r,h=>by
  rw[y27,List.flatten_cons,y4V f _ (by simp at h ⊢;omega),List.take_append_drop]
omit [GT] in
theorem yBb:∀ (f l:List SV),l.length<=f.length->y0v (y5V f l)
 |f,[],_=>by rw[y2k];trivial
 |[],x::r,h=>by simp at h
 |a::f,x::r,h=>by
  rw[y27];have ih:=yBb f ((x::r).drop 16) (by simp at h ⊢;omega)
  cases hd:(x::r).drop 16 with
  |nil =>
   rw[y2k];have:=List.drop_eq_nil_iff.1 hd;refine ⟨by simp,by rw[List.length_take];exact Nat.min_le_left _ _⟩
  |cons y q =>
   have hl:16 < (x::r).length:=by
    have:=congrArg List.length hd;simp only[List.length_drop,List.length_cons]at this ⊢;omega
   rw[hd]at ih;cases f with
   |nil=>simp only[List.length_cons,List.length_nil]at h hl;omega
   |cons b f =>
    rw[y27]at ih ⊢;exact ⟨by rw[List.length_take];exact Nat.min_eq_left (Nat.le_of_lt hl),ih⟩
omit [GT] in
theorem y0v.uniq:∀ {rows:List (List SV)},y0v rows->∀ f:List SV,rows.flatten.length<=f.length->y5V f rows.flatten=rows
 |[],_,f,_=>y2k f
 |[r],h,f,hf=>by
  obtain ⟨h1,h2⟩:=h;rw[show [r].flatten=r by simp]at hf ⊢
  cases r with
  |nil=>simp at h1
  |cons x r =>
   cases f with
   |nil=>simp at hf
   |cons a f=>rw[y27,List.take_of_length_le h2,List.drop_eq_nil_of_le h2,y2k]
 |r::q::rs,h,f,hf=>by
  obtain ⟨h1,h2⟩:=h;have ih:=y0v.uniq h2;rw[List.flatten_cons]at hf ⊢;generalize (q::rs).flatten=L at ih hf ⊢;cases r with
  |nil=>simp at h1
  |cons x r =>
   cases f with
   |nil=>simp at hf
   |cons a f =>
    rw[List.cons_append,y27,<- List.cons_append,List.take_append_of_le_length (by omega),List.take_of_length_le (by omega),List.drop_append_of_le_length (by omega),List.drop_eq_nil_of_le (by omega),List.nil_append,
     ih f (by simp only[List.length_append,List.length_cons]at hf h1;omega)]
omit [GT] in
theorem y0v.get:∀ {rows:List (List SV)},y0v rows->∀ i,yKl (yBY rows (i / 16)) (i % 16)=rows.flatten.getD i .undef
 |[],_,i=>by rw[y9y];simp[yBY]
 |r::rs,h,i=>by
  have hr:r.length<=16/\(rs≠[]->r.length=16)/\y0v rs:=by
   cases rs with
   |nil=>exact ⟨h.2,λ h=>absurd rfl h,trivial⟩
   |cons q rs=>exact ⟨Nat.le_of_eq h.1,λ _=>h.1,h.2⟩
  rw[List.flatten_cons];rcases Nat.lt_or_ge i 16 with hi|hi
  ·rw[Nat.div_eq_of_lt hi,Nat.mod_eq_of_lt hi];show yKl r i=_
   rw[y9y,List.getD_eq_getElem?_getD,List.getD_eq_getElem?_getD];rcases Nat.lt_or_ge i r.length with hl|hl
   ·rw[List.getElem?_append_left hl]
   ·have:rs=[]:=Classical.byContradiction λ hn=>by have:=hr.2.1 hn;omega
    subst this;simp
  ·obtain ⟨j,rfl⟩:∃ j,i=j+16:=⟨i - 16,by omega⟩
   rw[show (j+16) / 16=j / 16+1 by omega,show (j+16) % 16=j % 16 by omega]
   show yKl (yBY rs (j / 16)) (j % 16)=_
   rw[y0v.get hr.2.2 j,List.getD_eq_getElem?_getD,List.getD_eq_getElem?_getD];by_cases hn:rs=[]
   ·subst hn;rw[List.getElem?_eq_none (by simp),List.getElem?_eq_none (by simp;omega)]
   ·rw[List.getElem?_append_right (by have:=hr.2.1 hn;omega),hr.2.1 hn,Nat.add_sub_cancel]
omit [GT] in
theorem y0v.has:∀ {rows:List (List SV)},y0v rows->∀ i,yGb (yBY rows (i / 16)) (i % 16)=decide (i < rows.flatten.length)
 |[],_,i=>by rw[yAI];simp[yBY]
 |r::rs,h,i=>by
  have hr:r.length<=16/\(rs≠[]->r.length=16)/\y0v rs:=by
   cases rs with
   |nil=>exact ⟨h.2,λ h=>absurd rfl h,trivial⟩
   |cons q rs=>exact ⟨Nat.le_of_eq h.1,λ _=>h.1,h.2⟩
  rw[List.flatten_cons,List.length_append];rcases Nat.lt_or_ge i 16 with hi|hi
  ·rw[Nat.div_eq_of_lt hi,Nat.mod_eq_of_lt hi];show yGb r i=_
   rw[yAI];by_cases hn:rs=[]
   ·subst hn;simp
   ·have:=hr.2.1 hn;rw[decide_eq_true (by omega),decide_eq_true (by omega)]
  ·obtain ⟨j,rfl⟩:∃ j,i=j+16:=⟨i - 16,by omega⟩
   rw[show (j+16) / 16=j / 16+1 by omega,show (j+16) % 16=j % 16 by omega]
   show yGb (yBY rs (j / 16)) (j % 16)=_
   rw[y0v.has hr.2.2 j];by_cases hn:rs=[]
   ·subst hn;rw[decide_eq_false (by simp),decide_eq_false (by simp;omega)]
   ·have:=hr.2.1 hn;congr 1
    rw[this];apply propext;omega
omit [GT] in
theorem y0v.same:∀ {rows rows':List (List SV)},y0v rows->rows'.map List.length=rows.map List.length->y0v rows'
 |[],[],_,_=>trivial
 |[],_::_,_,h=>by simp at h
 |_::_,[],_,h=>by simp at h
 |[r],[r'],h,he=>by
  simp only[List.map_cons,List.map_nil,List.cons.injEq,and_true]at he;exact ⟨he ▸ h.1,he ▸ h.2⟩
 |[r],_::_::_,_,h=>by simp at h
 |_::_::_,[r],_,h=>by simp at h
 |r::q::rs,r'::q'::rs',h,he=>by
  simp only[List.map_cons,List.cons.injEq]at he;exact ⟨he.1 ▸ h.1,y0v.same h.2 (by simp only[List.map_cons,he.2.1,he.2.2])⟩
omit [GT] in
theorem y5M:∀ (rows:List (List SV)) (i j:Nat) (x:SV),(yKE rows i j x).map List.length=rows.map List.length
 |[],_,_,_=>rfl
 |r::rs,0,j,x=>by
  show (yLS r j x::rs).map List.length=_
  rw[yAd];simp
 |r::rs,i+1,j,x=>by
  show (r::yKE rs i j x).map List.length=_
  rw[List.map_cons,y5M rs i j x];rfl
omit [GT] in
theorem y0v.set:∀ {rows:List (List SV)},y0v rows->∀ i x,(yKE rows (i / 16) (i % 16) x).flatten=rows.flatten.set i x
 |[],_,i,x=>rfl
 |r::rs,h,i,x=>by
  have hr:r.length<=16/\(rs≠[]->r.length=16)/\y0v rs:=by
   cases rs with
   |nil=>exact ⟨h.2,λ h=>absurd rfl h,trivial⟩
   |cons q rs=>exact ⟨Nat.le_of_eq h.1,λ _=>h.1,h.2⟩
  rcases Nat.lt_or_ge i 16 with hi|hi
  ·rw[Nat.div_eq_of_lt hi,Nat.mod_eq_of_lt hi];show (yLS r i x::rs).flatten=_
   rw[yAd,List.flatten_cons,List.flatten_cons];by_cases hn:rs=[]
   ·subst hn;simp
   ·rw[List.set_append_left _ _ (by have:=hr.2.1 hn;omega)]
  ·obtain ⟨j,rfl⟩:∃ j,i=j+16:=⟨i - 16,by omega⟩
   rw[show (j+16) / 16=j / 16+1 by omega,show (j+16) % 16=j % 16 by omega]
   show (r::yKE rs (j / 16) (j % 16) x).flatten=_
   rw[List.flatten_cons,y0v.set hr.2.2 j x,List.flatten_cons];by_cases hn:rs=[]
   ·subst hn;rw[List.set_eq_of_length_le (by simp),List.set_eq_of_length_le (by simp;omega)]
   ·rw[List.set_append_right _ _ (by have:=hr.2.1 hn;omega),hr.2.1 hn,Nat.add_sub_cancel]
omit [GT] in
theorem y6a(f:SV->SV)(rows:List (List SV)):(rows.map (List.map f)).map List.length=rows.map List.length:=by
 rw[List.map_map];refine List.map_congr_left λ r _=>?_
 simp
structure Slots where
 rows:List (List SV)
 ok:y0v rows
def Slots.toList(t:Slots):List SV:=t.rows.flatten
noncomputable def Slots.ofList(l:List SV):Slots:=⟨y5V l l,yBb l l (Nat.le_refl _)⟩
noncomputable def Slots.get(t:Slots)(i:Nat):SV:=yKl (yBY t.rows (i / 16)) (i % 16)
noncomputable def Slots.has(t:Slots)(i:Nat):Bool:=yGb (yBY t.rows (i / 16)) (i % 16)
noncomputable def Slots.set(t:Slots)(i:Nat)(x:SV):Slots:=⟨yKE t.rows (i / 16) (i % 16) x,t.ok.same (y5M ..)⟩
def Slots.map(f:SV->SV)(t:Slots):Slots:=⟨t.rows.map (List.map f),t.ok.same (y6a ..)⟩
omit [GT] in
theorem Slots.toList_ofList(l:List SV):(Slots.ofList l).toList=l:=y4V l l (Nat.le_refl _)
omit [GT] in
theorem Slots.ofList_toList(t:Slots):Slots.ofList t.toList=t:=by
 obtain ⟨rows,h⟩:=t;have:y5V rows.flatten rows.flatten=rows:=h.uniq _ (Nat.le_refl _);unfold Slots.ofList Slots.toList;simp only[this]
omit [GT] in
theorem Slots.ext_list{t u:Slots}(h:t.toList=u.toList):t=u:=by rw[<- t.ofList_toList,<- u.ofList_toList,h]
omit [GT] in
theorem Slots.get_eq(t:Slots)(i:Nat):t.get i=t.toList.getD i .undef:=t.ok.get i
omit [GT] in
theorem Slots.has_eq(t:Slots)(i:Nat):t.has i=decide (i < t.toList.length):=t.ok.has i
omit [GT] in
theorem Slots.toList_set(t:Slots)(i:Nat)(x:SV):(t.set i x).toList=t.toList.set i x:=t.ok.set i x
omit [GT] in
theorem Slots.toList_map(t:Slots)(f:SV->SV):(t.map f).toList=t.toList.map f:=by
 show (t.rows.map (List.map f)).flatten=t.rows.flatten.map f
 rw[List.map_flatten]
structure St where
 sl:Slots
 chunks:List (Option Chunk)
 kept:List SV:=[]
 dep:Nat:=0
 nmk:Nat:=0
 rnd:Bool:=false
def St.slots(s:St):List SV:=s.sl.toList
structure Base where
 w:World
 ext:List Value
 infos:List LpInfo:=[]
 ro:Option Nat:=none
 marks:List Nat:=[]
 rounds:List Nat:=[]
noncomputable def St.get(s:St)(i:Nat):SV:=s.sl.get i
noncomputable def St.put(s:St)(d:Option Nat)(x:SV):St:=match d with|some i=>{ s with sl:=s.sl.set i x }|none=>s
omit [GT] in
theorem St.get_def(s:St)(i:Nat):s.get i=s.slots.getD i .undef:=Slots.get_eq _ _
omit [GT] in
theorem St.put_slots(s:St)(i:Nat)(x:SV):(s.put (some i) x).slots=s.slots.set i x:=Slots.toList_set _ _ _
omit [GT] in
theorem St.slots_of(l:List SV)(c:List (Option Chunk))(k:List SV)(d n:Nat)(b:Bool):({ sl:=.ofList l,chunks:=c,kept:=k,dep:=d,nmk:=n,rnd:=b }:St).slots=l:=Slots.toList_ofList l
omit [GT] in
theorem St.put_none(s:St)(x:SV):s.put none x=s:=rfl
structure Place where
 blk:Option Nat
 len:Nat
 cap:Nat
 subs:List (Option Nat):=[]
 vals:List Value:=[]
 ns:List (Option Nat×Nat×Nat):=[]
abbrev Places:=Nat->Place
def Sub(ρ:Places)(cs:List (Option Chunk))(n:Nat):Prop:=∃ β ch,cs[β]?=some (some ch)/\some n∈(ρ β).subs
def Av(A0:Nat->Prop)(ρ:Places)(cs:List (Option Chunk)):Nat->Prop:=
 λ n=>(A0 n\/Sub ρ cs n)\/∃ β ch,cs[β]?=some (some ch)/\(ρ β).blk=some n
def Chunk.isM:Chunk->Bool
 |.mps _ _ _ _ _=>true
 |.nst _ _ _ _ _ _=>true
 |_=>false
structure SubOK (m:Nat) (ρ:Places) (cs:List (Option Chunk)):Prop where
 plain:∀ (β:Nat) (ch:Chunk),cs[β]?=some (some ch)->ch.isM=false->(ρ β).subs=[]
 base:∀ (β:Nat) (ch:Chunk) (n:Nat),cs[β]?=some (some ch)->some n∈(ρ β).subs->m<=n
 apart:∀ (β γ:Nat) (c d:Chunk) (n:Nat),cs[β]?=some (some c)->cs[γ]?=some (some d)->some n∈(ρ β).subs->(ρ γ).blk≠some n
 one:∀ (β γ:Nat) (c d:Chunk) (n:Nat),cs[β]?=some (some c)->cs[γ]?=some (some d)->some n∈(ρ β).subs->some n∈(ρ γ).subs->β=γ
omit [GT] in
theorem SubOK.sub{m:Nat}{ρ:Places}{cs cs':List (Option Chunk)}(h:SubOK m ρ cs)(hs:∀ (γ:Nat) (c:Chunk),cs'[γ]?=some (some c)->∃ c',cs[γ]?=some (some c')/\(c.isM=false->c'.isM=false)):SubOK m ρ cs':=by
 refine ⟨λ β c hb hm=>?_,λ β c n hb hn=>?_,λ β γ c d n hb hg hn=>?_,λ β γ c d n hb hg hn hm=>?_⟩
 ·obtain ⟨c',h1,h2⟩:=hs β c hb;exact h.plain β c' h1 (h2 hm)
 ·obtain ⟨c',h1,h2⟩:=hs β c hb;exact h.base β c' n h1 hn
 ·obtain ⟨c',h1,_⟩:=hs β c hb;obtain ⟨d',h2,_⟩:=hs γ d hg;exact h.apart β γ c' d' n h1 h2 hn
 ·obtain ⟨c',h1,_⟩:=hs β c hb;obtain ⟨d',h2,_⟩:=hs γ d hg;exact h.one β γ c' d' n h1 h2 hn hm
def yBy(P:Program)(A:Nat->Prop)(w:World)(ρ:Places):Cap->Value->Prop
 |.box β,v=>∃ b,(ρ β).blk=some b/\v=.pointer (some ⟨b,0,none⟩)
 |.val t x,v=>∃ l,y4 P t A w x l/\v=t.wrap l
def yf(P:Program)(A:Nat->Prop)(w:World)(ρ:Places):List Cap->List Value->Prop
 |[],[]=>True
 |c::cs,v::vs=>yBy P A w ρ c v/\yf P A w ρ cs vs
 |_,_=>False
def yD1(l:List Value):Prop:=∀ p n c,Value.slice p n c∈l->c=n
def yE(P:Program)(A:Nat->Prop)(w:World)(ρ:Places):SV->Value->Prop
 |.undef,_=>True
 |.val t x,v=>∃ l,y4 P t A w x l/\v=t.wrap l
 |.bptr β off,v=>∃ b,(ρ β).blk=some b/\v=.pointer (some ⟨b,off,none⟩)
 |.own β,v=>v=.slice ((ρ β).blk.map λ b=>⟨b,0,none⟩) (ρ β).len (ρ β).cap
 |.eptr β i sz off,v=>∃ b,(ρ β).blk=some b/\v=.pointer (some ⟨b,i * sz+off,none⟩)
 |.clo f caps,v=>∃ vs,v=.func (.func f) #[] vs.toArray/\yf P A w ρ caps vs
 |.tup t x,v=>∃ l,y4 P t A w x l/\v=.tuple (t.group l).toArray
 |.xval t x,v=>∃ l,y4 P t A w x l/\v=t.wrap l/\yD1 l
 |.nils,v=>v=.slice none 0 0
 |.gone,v=>v=undef
 |.mown β,v=>v=.map (ρ β).blk
 |.yld β,v=>∃ b,(ρ β).blk=some b/\v=.func (.yield b) #[] #[]
 |.osub β n sz,v=>v=.slice (if (ρ β).cap=n then (ρ β).blk.map λ b=>⟨b,0,none⟩else (ρ β).blk.map λ b=>⟨b,n * sz,none⟩) ((ρ β).len - n) ((ρ β).cap - n)
 |.mayp β e,v=>(ρ β).len=e/\∃ b,(ρ β).blk=some b/\(v=.pointer none\/v=.pointer (some ⟨b,0,none⟩))
 |.srec β,v=>v=.agg (ρ β).vals.toArray
 |.nown β i,v=>∃ q,(ρ β).ns[i]?=some q/\v=.slice (q.1.map λ b=>⟨b,0,none⟩) q.2.1 q.2.2
 |.nptr β i j sz off,v=>∃ q b,(ρ β).ns[i]?=some q/\q.1=some b/\v=.pointer (some ⟨b,j * sz+off,none⟩)
def y1o(P:Program)(A:Nat->Prop)(w:World)(e:TypeId)(u:Ty)(xs:List u.den)(o:Option Nat)(v:Value):Prop:=
 ∃ cap:Nat,v=.slice (o.map λ b=>⟨b,0,none⟩) xs.length cap/\((o=none/\xs.length=0/\cap=0)\/∃ (n:Nat) (vs:Array Value),o=some n/\w.heap[n]?=some (.cells vs e (0,0))/\xs.length<=cap/\cap<=maxLen/\vs.size=cap * u.size /\
  ∀ (i:Nat) (x:u.den),xs[i]?=some x->y4 P u A w x ((vs.toList.drop (i * u.size)).take u.size))
def yHU:(t:Ty)->t.den->t.den->Bool
 |.bool,x,y=>(show Bool from x) == y
 |.int _,x,y=>(show Int from x) == y
 |.str,x,y=>(show List UInt8 from x) == y
 |_,_,_=>false
def yGY(k:Ty)(hole:Option (k.den×Nat))(x:k.den):Bool:=match hole with|some q=>yHU k q.1 x|none=>false
def NRel(P:Program)(A:Nat->Prop)(w:World)(t:Ty)(o:Nat)(e':TypeId)(u:Ty)(x:t.den)(l:List Value)(q:Option Nat×Nat×Nat):Prop:=
 ∃ (x0:t.den) (l0:List Value) (ys:List u.den),y4 P t A w x0 l0/\y0T t x0 o (.slice u) ys=some x/\l=l0.set o (.slice (q.1.map λ b=>⟨b,0,none⟩) q.2.1 q.2.2)/\q.2.1=ys.length/\y1o P A w e' u ys q.1 (.slice (q.1.map λ b=>⟨b,0,none⟩) q.2.1 q.2.2)
def yB(P:Program)(A:Nat->Prop)(w:World)(ρ:Places)(p:Place):Chunk->Prop
  |.box _ cells=>∃ (b:Nat) (vs:Array Value) (e:TypeId),p.blk=some b/\w.heap[b]?=some (.cells vs e (0,0))/\(vs.size=cells.length/\p.len=e)/\∀ (i:Nat) (sv:SV),cells[i]?=some sv->∃ v,vs[i]?=some v/\yE P A w ρ sv v
  |.arr e t xs nn=>xs.length=p.len/\(nn=true->p.blk≠none)/\((p.blk=none/\p.len=0/\p.cap=0)\/∃ (b:Nat) (vs:Array Value),p.blk=some b/\w.heap[b]?=some (.cells vs e (0,0))/\p.len<=p.cap/\p.cap<=maxLen/\vs.size=p.cap * t.size /\
      ∀ (i:Nat) (x:t.den),xs[i]?=some x->y4 P t A w x ((vs.toList.drop (i * t.size)).take t.size))
  |.mp k v es=>∃ (b:Nat) (ms:Array MapEntry) (clock:Nat),p.blk=some b/\w.heap[b]?=some (.map ms clock)/\ms.size=es.length /\
      ∀ (i:Nat) (x:k.den×v.den),es[i]?=some x->∃ (e:MapEntry) (lv:List Value),ms[i]?=some e/\e.key=yn k x.1/\y4 P v A w x.2 lv/\e.val=v.wrap lv
  |.it bs q=>∃ b n:Nat,p.blk=some b/\w.heap[b]?=some (.stringIter ⟨bs.toArray⟩ n)/\q=(n:Int)
  |.lp _ info cells st=>∃ (b:Nat) (r:Loop),p.blk=some b/\w.heap[b]?=some (.loop r)/\LpOK info st r/\r.tmps.size=cells.length/\∀ (i:Nat) (sv:SV),cells[i]?=some sv->∃ v,r.tmps[i]?=some v/\yE P A w ρ sv v
  |.mps k e u es hole=>∃ (b:Nat) (ms:Array MapEntry) (clock:Nat),p.blk=some b/\w.heap[b]?=some (.map ms clock)/\(ms.size=es.length/\p.subs.length=es.length) /\
      (((∀ i j n:Nat,p.subs[i]?=some (some n)->p.subs[j]?=some (some n)->i=j)/\∀ (i j:Nat) (x y:k.den×List u.den),es[i]?=some x->es[j]?=some y->yHU k x.1 y.1=true->i=j)/\∀ (q:k.den×Nat),hole=some q->(∀ x∈es,yGY k hole x.1=false)->(ρ q.2).blk=none/\(ρ q.2).len=0/\(ρ q.2).cap=0) /\
      ∀ (i:Nat) (x:k.den×List u.den),es[i]?=some x->∃ (en:MapEntry) (o:Option Nat),ms[i]?=some en/\p.subs[i]?=some o/\en.key=yn k x.1 /\
        ((∃ q,hole=some q/\yGY k hole x.1=true/\o=none/\en.val=.slice ((ρ q.2).blk.map λ b=>⟨b,0,none⟩) (ρ q.2).len (ρ q.2).cap) \/
         (yGY k hole x.1=false/\y1o P A w e u x.2 o en.val))
  |.rcd t cells=>p.blk=none/\t.agg=true/\p.vals.length=cells.length/\∀ (i:Nat) (sv:SV),cells[i]?=some sv->∃ v,p.vals[i]?=some v/\yE P A w ρ sv v
  |.nst e t o e' u xs=>(xs.length=p.len/\p.subs=p.ns.map (·.1)/\p.ns.length=xs.length)/\(∀ i j n:Nat,p.subs[i]?=some (some n)->p.subs[j]?=some (some n)->i=j) /\
      ((p.blk=none/\p.len=0/\p.cap=0)\/∃ (b:Nat) (vs:Array Value),p.blk=some b/\w.heap[b]?=some (.cells vs e (0,0))/\p.len<=p.cap/\p.cap<=maxLen/\vs.size=p.cap * t.size /\
        ∀ (i:Nat) (x:t.den),xs[i]?=some x->∃ q,p.ns[i]?=some q/\NRel P A w t o e' u x ((vs.toList.drop (i * t.size)).take t.size) q)
def y0J(n:Nat):List Cap->Prop
 |[]=>True
 |.box β::cs=>β < n/\y0J n cs
 |.val _ _::cs=>y0J n cs
def SV.inn(n:Nat):SV->Prop
 |.bptr β _|.own β|.eptr β _ _ _|.mown β|.yld β|.mayp β _|.osub β _ _|.srec β|.nown β _|.nptr β _ _ _ _=>β < n
 |.clo _ caps=>y0J n caps
 |_=>True
def Chunk.inn(n:Nat):Chunk->Prop
 |.box _ cells=>∀ sv∈cells,sv.inn n
 |.lp _ _ cells _=>∀ sv∈cells,sv.inn n
 |.rcd _ cells=>∀ sv∈cells,sv.inn n
 |.arr _ _ _ _|.mp _ _ _|.it _ _|.nst _ _ _ _ _ _=>True
 |.mps _ _ _ _ hole=>∀ q,hole=some q->q.2 < n
def Chunk.lpNo:Chunk->Option (Nat×LpInfo)
 |.lp i info _ _=>some (i,info)
 |_=>none
def markD(r:Nat):Deferred:={ target:=.collected r,args:=#[] }
structure Rel (P:Program) (A0:Nat->Prop) (w0:Base) (ρ:Places) (s:St) (a:Act) (w:World):Prop where
 size:s.slots.length=a.tmps.size
 slots:∀ (i:Nat) (sv:SV),s.slots[i]?=some sv->yE P (Av A0 ρ s.chunks) w ρ sv (a.tmps.getD i undef)
 chunks:∀ (β:Nat) (ch:Chunk),s.chunks[β]?=some (some ch)->yB P (Av A0 ρ s.chunks) w ρ (ρ β) ch/\∀ b,(ρ β).blk=some b->w0.w.heap.size<=b
 inj:∀ (β γ:Nat) (c d:Chunk),s.chunks[β]?=some (some c)->s.chunks[γ]?=some (some d)->(ρ β).blk=(ρ γ).blk->(ρ β).blk≠none->β=γ
 names:∀ (i:Nat) (sv:SV),s.slots[i]?=some sv->sv.inn s.chunks.length
 cnames:∀ (β:Nat) (ch:Chunk),s.chunks[β]?=some (some ch)->ch.inn s.chunks.length
 below:Below w0.w.heap.size w0.w w
 dom:∀ n,A0 n->n < w0.w.heap.size
 defers:∃ ms:List Nat,(a.defers=ms.map markD/\(s.nmk=0->ms=[])/\(ms++w0.marks).Nodup)/\∀ r,r∈ms\/r∈w0.marks->w.heap[r]?=some (.deferred (some []))/\w0.w.heap.size<=r
 dep:s.dep=w0.infos.length/\s.rnd=w0.ro.isSome
 lpi:∀ (β:Nat) (ch:Chunk) (q:Nat×LpInfo),s.chunks[β]?=some (some ch)->ch.lpNo=some q->w0.infos[q.1]?=some q.2
 round:∀ l,w0.ro=some l\/l∈w0.rounds->∃ r:Loop,w.heap[l]?=some (.loop r)
 glob:y4S A0 w0.w
 ksize:s.kept.length=w0.ext.length
 kslots:∀ (i:Nat) (sv:SV),s.kept[i]?=some sv->yE P (Av A0 ρ s.chunks) w ρ sv (w0.ext.getD i undef)
 knames:∀ (i:Nat) (sv:SV),s.kept[i]?=some sv->sv.inn s.chunks.length
 subs:SubOK w0.w.heap.size ρ s.chunks
section
variable {P:Program} {A0:Nat->Prop} {w0:Base} {ρ:Places} {s:St} {a:Act} {w w':World}
theorem yf.mono{A A':Nat->Prop}:∀ {cs:List Cap} {vs:List Value},yf P A w ρ cs vs->Keep A w w'->(∀ n,n < w.heap.size->A' n->A n)->yf P A' w' ρ cs vs
 |[],[],_,_,_=>trivial
 |[],_::_,h,_,_=>h
 |_::_,[],h,_,_=>h
 |c::cs,v::vs,h,hk,hA=>by
  refine ⟨?_,yf.mono h.2 hk hA⟩;have h1:=h.1;cases c with
  |box β=>exact h1
  |val t x=>obtain ⟨l,hl,e⟩:=h1;exact ⟨l,hl.mono hk hA,e⟩
theorem yE.mono{A A':Nat->Prop}{sv:SV}{v:Value}(h:yE P A w ρ sv v)(hk:Keep A w w')(hA:∀ n,n < w.heap.size->A' n->A n):yE P A' w' ρ sv v:=by
 cases sv with
 |val t x=>obtain ⟨l,hl,e⟩:=h;exact ⟨l,hl.mono hk hA,e⟩
 |tup t x=>obtain ⟨l,hl,e⟩:=h;exact ⟨l,hl.mono hk hA,e⟩
 |xval t x=>obtain ⟨l,hl,e⟩:=h;exact ⟨l,hl.mono hk hA,e⟩
 |clo f caps=>obtain ⟨vs,e,hc⟩:=h;exact ⟨vs,e,hc.mono hk hA⟩
 |_=>exact h
theorem Rel.get(h:Rel P A0 w0 ρ s a w)(i:Nat):yE P (Av A0 ρ s.chunks) w ρ (s.get i) (a.eval (.tmp i)):=by
 rw[St.get_def];unfold Act.eval;rcases hi:s.slots[i]? with _|sv
 ·simp[List.getD,hi,yE]
 ·have:=h.slots i sv hi;simpa[List.getD,hi]using this
theorem Rel.put(h:Rel P A0 w0 ρ s a w){sv:SV}{v:Value}(d:Option Nat)(hn:sv.inn s.chunks.length)(hv:yE P (Av A0 ρ s.chunks) w ρ sv v):Rel P A0 w0 ρ (s.put d sv) (a.put d v) w:=by
 cases d with
 |none=>exact h
 |some d =>
  refine ⟨by simp[St.put_slots,Act.put,h.size],λ i x hi=>?_,h.chunks,h.inj,λ i x hi=>?_,h.cnames,h.below,h.dom,h.defers,h.dep,h.lpi,h.round,h.glob,h.ksize,h.kslots,h.knames,h.subs⟩
  case refine_2 =>
   rw[St.put_slots]at hi;by_cases hd:d=i
   ·subst hd;rcases Nat.lt_or_ge d s.slots.length with hl|hl
    ·rw[List.getElem?_set_self hl]at hi;cases hi;exact hn
    ·rw[List.getElem?_eq_none (by simpa using hl)]at hi;cases hi
   ·rw[List.getElem?_set_ne hd]at hi;exact h.names i x hi
  rw[St.put_slots]at hi;show yE P (Av A0 ρ s.chunks) w ρ x _
  simp only[Act.put];by_cases hd:d=i
  ·subst hd;have hlt:d < s.slots.length:=by
    rcases Nat.lt_or_ge d s.slots.length with h|h
    ·exact h
    ·rw[List.getElem?_eq_none (by simpa using h)]at hi;cases hi
   rw[List.getElem?_set_self hlt]at hi;cases hi;have:d < a.tmps.size:=h.size ▸ hlt;simpa[Array.getD_eq_getD_getElem?,Array.getElem?_setIfInBounds,this]using hv
  ·rw[List.getElem?_set_ne hd]at hi;have:=h.slots i x hi;simpa[Array.getD_eq_getD_getElem?,Array.getElem?_setIfInBounds_ne hd]using this
theorem y1o.frame{A A':Nat->Prop}{e:TypeId}{u:Ty}{xs:List u.den}{o:Option Nat}{v:Value}(h:y1o P A w e u xs o v)(hs:∀ n,o=some n->n < w.heap.size->w'.heap[n]?=w.heap[n]?)(hK:Keep A w w')(hA:∀ n,n < w.heap.size->A' n->A n):y1o P A' w' e u xs o v:=by
 obtain ⟨cap,h1,h⟩:=h;refine ⟨cap,h1,?_⟩;rcases h with h|⟨n,vs,ho,h2,h3,h4,h5,h6⟩
 ·exact .inl h
 ·exact .inr ⟨n,vs,ho,(hs n ho (yN h2)).trans h2,h3,h4,h5,λ i x hi=>(h6 i x hi).mono hK hA⟩
theorem NRel.frame{A A':Nat->Prop}{t u:Ty}{o:Nat}{e':TypeId}{x:t.den}{l:List Value}{q:Option Nat×Nat×Nat}(h:NRel P A w t o e' u x l q)(hs:∀ n,q.1=some n->n < w.heap.size->w'.heap[n]?=w.heap[n]?)(hK:Keep A w w')(hA:∀ n,n < w.heap.size->A' n->A n):NRel P A' w' t o e' u x l q:=by
 obtain ⟨x0,l0,ys,h1,h2,h3,h4,h5⟩:=h;exact ⟨x0,l0,ys,h1.mono hK hA,h2,h3,h4,h5.frame hs hK hA⟩
theorem yB.frame{A A':Nat->Prop}{p:Place}{ch:Chunk}(h:yB P A w ρ p ch)(hp:∀ n,p.blk=some n->n < w.heap.size->w'.heap[n]?=w.heap[n]?)(hs:∀ n,some n∈p.subs->n < w.heap.size->w'.heap[n]?=w.heap[n]?)(hK:Keep A w w')(hA:∀ n,n < w.heap.size->A' n->A n):yB P A' w' ρ p ch:=by
 cases ch with
 |box t cells =>
  obtain ⟨b,vs,e,hb,h1,h2,h3⟩:=h;exact ⟨b,vs,e,hb,(hp _ hb (yN h1)).trans h1,h2,λ i sv hi=>let ⟨v,hv,hr⟩:=h3 i sv hi;⟨v,hv,hr.mono hK hA⟩⟩
 |arr e t xs nn =>
  obtain ⟨h2,hn,h⟩:=h;refine ⟨h2,hn,?_⟩;rcases h with h|⟨b,vs,hb,h1,h3,h4,h5,h6⟩
  ·exact .inl h
  ·exact .inr ⟨b,vs,hb,(hp _ hb (yN h1)).trans h1,h3,h4,h5,λ i x hi=>(h6 i x hi).mono hK hA⟩
 |mp k v es =>
  obtain ⟨b,ms,c,hb,h1,h2,h3⟩:=h;refine ⟨b,ms,c,hb,(hp _ hb (yN h1)).trans h1,h2,λ i x hi=>?_⟩
  obtain ⟨e,lv,h4,h5,h6,h7⟩:=h3 i x hi;exact ⟨e,lv,h4,h5,h6.mono hK hA,h7⟩
 |it bs q =>
  obtain ⟨b,n,hb,h1,h2⟩:=h;exact ⟨b,n,hb,(hp _ hb (yN h1)).trans h1,h2⟩
 |lp i info cells st =>
  obtain ⟨b,r,hb,h1,h2,h3,h4⟩:=h;exact ⟨b,r,hb,(hp _ hb (yN h1)).trans h1,h2,h3,λ i sv hi=>let ⟨v,hv,hr⟩:=h4 i sv hi;⟨v,hv,hr.mono hK hA⟩⟩
 |mps k e u es hole =>
  obtain ⟨b,ms,c,hb,h1,h2,h3,h4⟩:=h;refine ⟨b,ms,c,hb,(hp _ hb (yN h1)).trans h1,h2,h3,λ i x hi=>?_⟩
  obtain ⟨en,o,h5,h6,h7,h8⟩:=h4 i x hi;refine ⟨en,o,h5,h6,h7,?_⟩;rcases h8 with h8|⟨h8,h9⟩
  ·exact .inl h8
  ·exact .inr ⟨h8,h9.frame (λ n hn=>hs n (hn ▸ List.mem_of_getElem? h6)) hK hA⟩
 |rcd t cells =>
  obtain ⟨h1,h2,h3,h4⟩:=h;exact ⟨h1,h2,h3,λ i sv hi=>let ⟨v,hv,hr⟩:=h4 i sv hi;⟨v,hv,hr.mono hK hA⟩⟩
 |nst e t o e' u xs =>
  obtain ⟨h1,h2,h3⟩:=h;refine ⟨h1,h2,?_⟩;rcases h3 with h3|⟨b,vs,hb,h4,h5,h6,h7,h8⟩
  ·exact .inl h3
  ·refine .inr ⟨b,vs,hb,(hp _ hb (yN h4)).trans h4,h5,h6,h7,λ i x hi=>?_⟩
   obtain ⟨q,h9,h10⟩:=h8 i x hi;refine ⟨q,h9,h10.frame (λ n hn=>hs n ?_) hK hA⟩
   rw[h1.2.1,<- hn];exact List.mem_map.2 ⟨q,List.mem_of_getElem? h9,rfl⟩
theorem yB.noHole{A:Nat->Prop}{ρ':Places}{p:Place}{k u:Ty}{e:TypeId}{es:List (k.den×List u.den)}(h:yB P A w ρ p (.mps k e u es none)):yB P A w ρ' p (.mps k e u es none):=by
 obtain ⟨b,ms,c,hb,h1,h2,⟨h3,h4⟩,h5⟩:=h;refine ⟨b,ms,c,hb,h1,h2,⟨h3,λ q hq=>by cases hq⟩,λ i x hx=>?_⟩
 obtain ⟨en,o,h6,h7,h8,h9⟩:=h5 i x hx;refine ⟨en,o,h6,h7,h8,?_⟩;rcases h9 with ⟨q,hq,_⟩|h9
 ·cases hq
 ·exact .inr h9
theorem yB.keep{A A':Nat->Prop}{p:Place}{ch:Chunk}(h:yB P A w ρ p ch)(hk:∀ n,n < w.heap.size->w'.heap[n]?=w.heap[n]?)(hA:∀ n,n < w.heap.size->A' n->A n):yB P A' w' ρ p ch:=
 h.frame (λ n _=>hk n) (λ n _=>hk n) (λ n hn _=>hk n hn) hA
theorem yB.sub_cells{A:Nat->Prop}{p:Place}{k u:Ty}{e:TypeId}{es:List (k.den×List u.den)}{hole:Option (k.den×Nat)}(h:yB P A w ρ p (.mps k e u es hole)){n:Nat}(hn:some n∈p.subs):∃ vs,w.heap[n]?=some (.cells vs e (0,0)):=by
 obtain ⟨b,ms,c,hb,h1,h2,h3,h4⟩:=h;obtain ⟨i,hi⟩:=List.mem_iff_getElem?.1 hn;have hl:i < es.length:=by
  rw[<- h2.2];rcases Nat.lt_or_ge i p.subs.length with hl|hl
  ·exact hl
  ·rw[List.getElem?_eq_none hl]at hi;cases hi
 obtain ⟨en,o,h5,h6,h7,h8⟩:=h4 i _ (List.getElem?_eq_getElem hl);rw[hi]at h6;cases h6;rcases h8 with ⟨q,_,_,h8,_⟩|⟨_,cap,_,⟨h8,_⟩|⟨m,vs,h8,h9,_⟩⟩
 ·cases h8
 ·cases h8
 ·cases h8;exact ⟨vs,h9⟩
theorem yB.nst_cells{A:Nat->Prop}{p:Place}{e e':TypeId}{t u:Ty}{o:Nat}{xs:List t.den}(h:yB P A w ρ p (.nst e t o e' u xs)){n:Nat}(hn:some n∈p.subs):∃ vs,w.heap[n]?=some (.cells vs e' (0,0)):=by
 obtain ⟨⟨h1,h2,h3⟩,_,h4⟩:=h;rw[h2]at hn;obtain ⟨q,hq,hqn⟩:=List.mem_map.1 hn;obtain ⟨i,hi⟩:=List.mem_iff_getElem?.1 hq;have hl:i < xs.length:=by rw[<- h3];exact (List.getElem?_eq_some_iff.1 hi).1
 rcases h4 with ⟨_,h5,_⟩|⟨b,vs,_,_,_,_,_,h8⟩
 ·omega
 ·obtain ⟨q',h9,x0,l0,ys,_,_,_,_,cap,_,⟨h10,_⟩|⟨m,vs',h10,h11,_⟩⟩:=h8 i _ (List.getElem?_eq_getElem hl)
  ·rw[hi]at h9;cases h9;rw[hqn]at h10;cases h10
  ·rw[hi]at h9;cases h9;rw[hqn]at h10;cases h10;exact ⟨vs',h11⟩
theorem y1Z{ms:List Nat}{k:Nat}(h:(a.defers=ms.map markD/\(k=0->ms=[])/\(ms++w0.marks).Nodup)/\∀ r,r∈ms\/r∈w0.marks->w.heap[r]?=some (Obj.deferred (some []))/\w0.w.heap.size<=r)
  (hk:∀ r:Nat,w.heap[r]?=some (Obj.deferred (some []))->w'.heap[r]?=some (Obj.deferred (some []))):∃ ms:List Nat,(a.defers=ms.map markD/\(k=0->ms=[])/\(ms++w0.marks).Nodup)/\∀ r,r∈ms\/r∈w0.marks->w'.heap[r]?=some (Obj.deferred (some []))/\w0.w.heap.size<=r:=
 ⟨ms,h.1,λ r hr=>⟨hk r (h.2 r hr).1,(h.2 r hr).2⟩⟩
theorem y5I{w w':World}(hb:Below w.heap.size w w'){n:Nat}{o:Obj}(h:w.heap[n]?=some o):w'.heap[n]?=some o:=(hb.block n (yN h)).trans h
theorem Rel.step(h:Rel P A0 w0 ρ s a w)(hb:Below w.heap.size w w'):Rel P A0 w0 ρ s a w':=
 ⟨h.size,λ i sv hi=>(h.slots i sv hi).mono (λ n hn _=>hb.block n hn) (λ _ _ h=>h),
  λ β ch hc=>⟨(h.chunks β ch hc).1.keep hb.block (λ _ _ h=>h),(h.chunks β ch hc).2⟩,h.inj,h.names,h.cnames,h.below.trans (hb.mono h.below.size),h.dom,(let ⟨_,hm⟩:=h.defers;y1Z hm λ r hr=>y5I hb hr),h.dep,h.lpi,(λ l hl=>let ⟨r,hr⟩:=h.round l hl;⟨r,y5I hb hr⟩),h.glob,h.ksize,λ i sv hi=>(h.kslots i sv hi).mono (λ n hn _=>hb.block n hn) (λ _ _ h=>h),h.knames,h.subs⟩
theorem Rel.drawn(h:Rel P A0 w0 ρ s a w)(n:Nat):Rel P A0 w0 ρ s a { w with drawn:=n }:=
 h.step ⟨rfl,rfl,rfl,Nat.le_refl _,λ _ _=>rfl⟩
theorem yB.lt{A:Nat->Prop}{p:Place}{ch:Chunk}(h:yB P A w ρ p ch){b:Nat}(hb:p.blk=some b):b < w.heap.size:=by
 cases ch with
 |box t cells =>
  obtain ⟨b',vs,e,hb',h1,_⟩:=h;rw[hb]at hb';cases hb';exact yN h1
 |arr e t xs nn =>
  obtain ⟨_,_,⟨h,_⟩|⟨b',vs,hb',h1,_⟩⟩:=h
  ·rw[hb]at h;cases h
  ·rw[hb]at hb';cases hb';exact yN h1
 |mp k v es =>
  obtain ⟨b',ms,c,hb',h1,_⟩:=h;rw[hb]at hb';cases hb';exact yN h1
 |it bs q =>
  obtain ⟨b',n,hb',h1,_⟩:=h;rw[hb]at hb';cases hb';exact yN h1
 |lp i info cells st =>
  obtain ⟨b',r,hb',h1,_⟩:=h;rw[hb]at hb';cases hb';exact yN h1
 |mps k e u es hole =>
  obtain ⟨b',ms,c,hb',h1,_⟩:=h;rw[hb]at hb';cases hb';exact yN h1
 |rcd t cells =>
  obtain ⟨h1,_⟩:=h;rw[hb]at h1;cases h1
 |nst e t o e' u xs =>
  obtain ⟨_,_,⟨h,_⟩|⟨b',vs,hb',h1,_⟩⟩:=h
  ·rw[hb]at h;cases h
  ·rw[hb]at hb';cases hb';exact yN h1
theorem yB.no_mark{A:Nat->Prop}{p:Place}{ch:Chunk}(h:yB P A w ρ p ch){b:Nat}(hb:p.blk=some b):w.heap[b]?≠some (.deferred (some [])):=by
 intro hd;cases ch with
 |box t cells =>
  obtain ⟨b',vs,e,hb',h1,_⟩:=h;rw[hb]at hb';cases hb';rw[hd]at h1;cases h1
 |arr e t xs nn =>
  obtain ⟨_,_,⟨h,_⟩|⟨b',vs,hb',h1,_⟩⟩:=h
  ·rw[hb]at h;cases h
  ·rw[hb]at hb';cases hb';rw[hd]at h1;cases h1
 |mp k v es =>
  obtain ⟨b',ms,c,hb',h1,_⟩:=h;rw[hb]at hb';cases hb';rw[hd]at h1;cases h1
 |it bs q =>
  obtain ⟨b',n,hb',h1,_⟩:=h;rw[hb]at hb';cases hb';rw[hd]at h1;cases h1
 |lp i info cells st =>
  obtain ⟨b',r,hb',h1,_⟩:=h;rw[hb]at hb';cases hb';rw[hd]at h1;cases h1
 |mps k e u es hole =>
  obtain ⟨b',ms,c,hb',h1,_⟩:=h;rw[hb]at hb';cases hb';rw[hd]at h1;cases h1
 |rcd t cells =>
  obtain ⟨h1,_⟩:=h;rw[hb]at h1;cases h1
 |nst e t o e' u xs =>
  obtain ⟨_,_,⟨h,_⟩|⟨b',vs,hb',h1,_⟩⟩:=h
  ·rw[hb]at h;cases h
  ·rw[hb]at hb';cases hb';rw[hd]at h1;cases h1
theorem yB.no_loop{A:Nat->Prop}{p:Place}{ch:Chunk}(h:yB P A w ρ p ch)(hn:ch.lpNo=none){b:Nat}(hb:p.blk=some b){r:Loop}:w.heap[b]?≠some (.loop r):=by
 intro hd;cases ch with
 |box t cells =>
  obtain ⟨b',vs,e,hb',h1,_⟩:=h;rw[hb]at hb';cases hb';rw[hd]at h1;cases h1
 |arr e t xs nn =>
  obtain ⟨_,_,⟨h,_⟩|⟨b',vs,hb',h1,_⟩⟩:=h
  ·rw[hb]at h;cases h
  ·rw[hb]at hb';cases hb';rw[hd]at h1;cases h1
 |mp k v es =>
  obtain ⟨b',ms,c,hb',h1,_⟩:=h;rw[hb]at hb';cases hb';rw[hd]at h1;cases h1
 |it bs q =>
  obtain ⟨b',n,hb',h1,_⟩:=h;rw[hb]at hb';cases hb';rw[hd]at h1;cases h1
 |lp i info cells st=>cases hn
 |mps k e u es hole =>
  obtain ⟨b',ms,c,hb',h1,_⟩:=h;rw[hb]at hb';cases hb';rw[hd]at h1;cases h1
 |rcd t cells =>
  obtain ⟨h1,_⟩:=h;rw[hb]at h1;cases h1
 |nst e t o e' u xs =>
  obtain ⟨_,_,⟨h,_⟩|⟨b',vs,hb',h1,_⟩⟩:=h
  ·rw[hb]at h;cases h
  ·rw[hb]at hb';cases hb';rw[hd]at h1;cases h1
theorem Rel.sub_cells(h:Rel P A0 w0 ρ s a w){β n:Nat}{ch:Chunk}(hc:s.chunks[β]?=some (some ch))(hn:some n∈(ρ β).subs):∃ vs e,w.heap[n]?=some (.cells vs e (0,0)):=by
 cases hm:ch.isM with
 |false=>rw[h.subs.plain β ch hc hm]at hn;cases hn
 |true =>
  cases ch with
  |mps k e u es hole=>obtain ⟨vs,h1⟩:=(h.chunks β _ hc).1.sub_cells hn;exact ⟨vs,e,h1⟩
  |nst e t o e' u xs=>obtain ⟨vs,h1⟩:=(h.chunks β _ hc).1.nst_cells hn;exact ⟨vs,e',h1⟩
  |_=>cases hm
theorem Rel.sub_lt(h:Rel P A0 w0 ρ s a w){β n:Nat}{ch:Chunk}(hc:s.chunks[β]?=some (some ch))(hn:some n∈(ρ β).subs):n < w.heap.size:=by
 obtain ⟨vs,e,h1⟩:=h.sub_cells hc hn;exact yN h1
theorem Rel.av_lt(h:Rel P A0 w0 ρ s a w){n:Nat}(hn:Av A0 ρ s.chunks n):n < w.heap.size:=by
 rcases hn with (hn|⟨β,ch,hc,hb⟩)|⟨β,ch,hc,hb⟩
 ·exact Nat.lt_of_lt_of_le (h.dom n hn) h.below.size
 ·exact h.sub_lt hc hb
 ·exact (h.chunks β ch hc).1.lt hb
def Places.set(ρ:Places)(β:Nat)(p:Place):Places:=λ γ=>if γ=β then p else ρ γ
theorem Places.set_lt(ρ:Places){β n:Nat}(p:Place)(h:β < n):ρ.set n p β=ρ β:=by
 unfold Places.set;rw[if_neg (by omega)]
theorem Places.set_self(ρ:Places)(n:Nat)(p:Place):ρ.set n p n=p:=by
 unfold Places.set;rw[if_pos rfl]
theorem yf.congr{A:Nat->Prop}{ρ':Places}{n:Nat}(he:∀ β,β < n->ρ' β=ρ β):∀ {cs:List Cap} {vs:List Value},y0J n cs->yf P A w ρ cs vs->yf P A w ρ' cs vs
 |[],[],_,_=>trivial
 |[],_::_,_,h=>h
 |_::_,[],_,h=>h
 |.box β::cs,v::vs,hi,h=>⟨by have:=h.1;simp only[yBy]at this ⊢;rw[he β hi.1];exact this,yf.congr he hi.2 h.2⟩
 |.val t x::cs,v::vs,hi,h=>⟨h.1,yf.congr he hi h.2⟩
theorem yE.congr{A:Nat->Prop}{ρ':Places}{n:Nat}(he:∀ β,β < n->ρ' β=ρ β){sv:SV}{v:Value}(hi:sv.inn n)(h:yE P A w ρ sv v):yE P A w ρ' sv v:=by
 cases sv with
 |bptr β off=>simp only[yE]at h ⊢;rw[he β hi];exact h
 |own β=>simp only[yE]at h ⊢;rw[he β hi];exact h
 |mown β=>simp only[yE]at h ⊢;rw[he β hi];exact h
 |yld β=>simp only[yE]at h ⊢;rw[he β hi];exact h
 |mayp β e=>simp only[yE]at h ⊢;rw[he β hi];exact h
 |eptr β i sz off=>simp only[yE]at h ⊢;rw[he β hi];exact h
 |osub β n sz=>simp only[yE]at h ⊢;rw[he β hi];exact h
 |srec β=>simp only[yE]at h ⊢;rw[he β hi];exact h
 |nown β i=>simp only[yE]at h ⊢;rw[he β hi];exact h
 |nptr β i j sz off=>simp only[yE]at h ⊢;rw[he β hi];exact h
 |clo f caps=>obtain ⟨vs,h2,h3⟩:=h;exact ⟨vs,h2,h3.congr he hi⟩
 |_=>exact h
theorem y0J.mono{n m:Nat}(hnm:n<=m):∀ {cs:List Cap},y0J n cs->y0J m cs
 |[],_=>trivial
 |.box _::_,h=>⟨Nat.lt_of_lt_of_le h.1 hnm,y0J.mono hnm h.2⟩
 |.val _ _::cs,h=>y0J.mono (cs:=cs) hnm h
theorem SV.inn_mono{n m:Nat}(hnm:n<=m){sv:SV}(h:sv.inn n):sv.inn m:=by
 cases sv with
 |bptr β off=>exact Nat.lt_of_lt_of_le h hnm
 |own β=>exact Nat.lt_of_lt_of_le h hnm
 |mown β=>exact Nat.lt_of_lt_of_le h hnm
 |yld β=>exact Nat.lt_of_lt_of_le h hnm
 |mayp β e=>exact Nat.lt_of_lt_of_le h hnm
 |eptr β i sz off=>exact Nat.lt_of_lt_of_le h hnm
 |osub β n sz=>exact Nat.lt_of_lt_of_le h hnm
 |srec β=>exact Nat.lt_of_lt_of_le h hnm
 |nown β i=>exact Nat.lt_of_lt_of_le h hnm
 |nptr β i j sz off=>exact Nat.lt_of_lt_of_le h hnm
 |clo f caps=>exact y0J.mono hnm h
 |_=>trivial
theorem Chunk.inn_mono{n m:Nat}(hnm:n<=m){ch:Chunk}(h:ch.inn n):ch.inn m:=by
 cases ch with
 |box cells=>exact λ sv hs=>SV.inn_mono hnm (h sv hs)
 |lp i info cells st=>exact λ sv hs=>SV.inn_mono hnm (h sv hs)
 |arr e t xs nn=>trivial
 |mp k v es=>trivial
 |it bs q=>trivial
 |mps k e u es hole=>exact λ q hq=>Nat.lt_of_lt_of_le (h q hq) hnm
 |rcd t cells=>exact λ sv hs=>SV.inn_mono hnm (h sv hs)
 |nst e t o e' u xs=>trivial
theorem yB.congr{A:Nat->Prop}{ρ':Places}{n:Nat}(he:∀ β,β < n->ρ' β=ρ β){p:Place}{ch:Chunk}(hi:ch.inn n)(h:yB P A w ρ p ch):yB P A w ρ' p ch:=by
 cases ch with
 |box t cells =>
  obtain ⟨b,vs,e,hb,h1,h2,h3⟩:=h;exact ⟨b,vs,e,hb,h1,h2,λ i sv hs=>let ⟨v,hv,hr⟩:=h3 i sv hs;⟨v,hv,hr.congr he (hi sv (List.mem_of_getElem? hs))⟩⟩
 |lp i info cells st =>
  obtain ⟨b,r,hb,h1,h2,h3,h4⟩:=h;exact ⟨b,r,hb,h1,h2,h3,λ i sv hs=>let ⟨v,hv,hr⟩:=h4 i sv hs;⟨v,hv,hr.congr he (hi sv (List.mem_of_getElem? hs))⟩⟩
 |arr e t xs nn=>simpa only[yB]using h
 |mp k v es=>simpa only[yB]using h
 |it bs q=>simpa only[yB]using h
 |mps k e u es hole =>
  obtain ⟨b,ms,c,hb,h1,h2,⟨h3,h4⟩,h5⟩:=h;refine ⟨b,ms,c,hb,h1,h2,⟨h3,λ q hq hx=>?_⟩,λ i x hx=>?_⟩
  ·rw[he _ (hi q hq)];exact h4 q hq hx
  ·obtain ⟨en,o,h6,h7,h8,h9⟩:=h5 i x hx;refine ⟨en,o,h6,h7,h8,?_⟩;rcases h9 with ⟨q,hq,h9,h10,h11⟩|h9
   ·exact .inl ⟨q,hq,h9,h10,by rw[he _ (hi q hq)];exact h11⟩
   ·exact .inr h9
 |rcd t cells =>
  obtain ⟨h1,h2,h3,h4⟩:=h;exact ⟨h1,h2,h3,λ i sv hs=>let ⟨v,hv,hr⟩:=h4 i sv hs;⟨v,hv,hr.congr he (hi sv (List.mem_of_getElem? hs))⟩⟩
 |nst e t o e' u xs=>simpa only[yB]using h
theorem yd{cs:List (Option Chunk)}{ch c:Chunk}{β:Nat}(hb:(cs++[some ch])[β]?=some (some c)):(β < cs.length/\cs[β]?=some (some c))\/(β=cs.length/\c=ch):=by
 rcases Nat.lt_or_ge β cs.length with hl|hl
 ·rw[List.getElem?_append_left hl]at hb;exact .inl ⟨hl,hb⟩
 ·rcases Nat.lt_or_ge cs.length β with h'|h'
  ·rw[List.getElem?_eq_none (by simp;omega)]at hb;cases hb
  ·have:β=cs.length:=by omega
   subst this;simp at hb;exact .inr ⟨rfl,hb.symm⟩
theorem Rel.newChunk(h:Rel P A0 w0 ρ s a w)(ch:Chunk)(p:Place)(hw:Below w.heap.size w w')(hp:∀ b,p.blk=some b->w.heap.size<=b)(hi:ch.inn s.chunks.length)
  (hc:∀ A,(∀ n,n < w.heap.size->A n->Av A0 ρ s.chunks n)->(∀ n,w.heap.size<=n->A n->p.blk=some n)->yB P A w' ρ p ch) (hlp:∀ q,ch.lpNo=some q->w0.infos[q.1]?=some q.2:=by intro q h;cases h) (hps:p.subs=[]:=by rfl) :
  Rel P A0 w0 (ρ.set s.chunks.length p) { s with chunks:=s.chunks++[some ch] } a w':=by
 have he:∀ β,β < s.chunks.length->ρ.set s.chunks.length p β=ρ β:=λ β hβ=>Places.set_lt ρ p hβ
 have hold:∀ n,n < w.heap.size->w'.heap[n]?=w.heap[n]?:=hw.block;have hA:∀ n,n < w.heap.size->Av A0 (ρ.set s.chunks.length p) (s.chunks++[some ch]) n->Av A0 ρ s.chunks n:=by
  rintro n hn ((h0|⟨β,c,hb,hbn⟩)|⟨β,c,hb,hbn⟩)
  ·exact .inl (.inl h0)
  ·rcases yd hb with ⟨hl,hb⟩|⟨rfl,rfl⟩
   ·rw[he β hl]at hbn;exact .inl (.inr ⟨β,c,hb,hbn⟩)
   ·rw[Places.set_self,hps]at hbn;cases hbn
  ·rcases yd hb with ⟨hl,hb⟩|⟨rfl,rfl⟩
   ·rw[he β hl]at hbn;exact .inr ⟨β,c,hb,hbn⟩
   ·rw[Places.set_self]at hbn;have:=hp n hbn;omega
 have hA':∀ n,w.heap.size<=n->Av A0 (ρ.set s.chunks.length p) (s.chunks++[some ch]) n->p.blk=some n:=by
  rintro n hn ((h0|⟨β,c,hb,hbn⟩)|⟨β,c,hb,hbn⟩)
  ·have:=h.dom n h0;have:=h.below.size;omega
  ·rcases yd hb with ⟨hl,hb⟩|⟨rfl,rfl⟩
   ·rw[he β hl]at hbn;have:=h.sub_lt hb hbn;omega
   ·rw[Places.set_self,hps]at hbn;cases hbn
  ·rcases yd hb with ⟨hl,hb⟩|⟨rfl,rfl⟩
   ·rw[he β hl]at hbn;have:=(h.chunks β c hb).1.lt hbn;omega
   ·rwa[Places.set_self]at hbn
 have hK:Keep (Av A0 ρ s.chunks) w w':=λ n hn _=>hold n hn
 refine ⟨h.size,λ i sv hs=>((h.slots i sv hs).congr he (h.names i sv hs)).mono hK hA,λ β c hb=>?_,λ β γ c d hb hg hbg hne=>?_,λ i sv hs=>SV.inn_mono (by simp) (h.names i sv hs),λ β c hb=>?_,h.below.trans (hw.mono h.below.size),h.dom,(let ⟨_,hm⟩:=h.defers;y1Z hm λ r hr=>y5I hw hr),h.dep,(λ β c q hb hq=>by
  rcases yd hb with ⟨_,hb⟩|⟨_,rfl⟩
  ·exact h.lpi β c q hb hq
  ·exact hlp q hq),(λ l hl=>let ⟨r,hr⟩:=h.round l hl;⟨r,y5I hw hr⟩),h.glob,h.ksize,λ i sv hs=>((h.kslots i sv hs).congr he (h.knames i sv hs)).mono hK hA,λ i sv hs=>SV.inn_mono (by simp) (h.knames i sv hs),⟨λ β c hb hm=>?_,λ β c n hb hn=>?_,λ β γ c d n hb hg hn=>?_,λ β γ c d n hb hg hn hm=>?_⟩⟩
 ·rcases yd hb with ⟨hl,hb⟩|⟨rfl,rfl⟩
  ·rw[he β hl];exact ⟨((h.chunks β c hb).1.congr he (h.cnames β c hb)).keep hold hA,(h.chunks β c hb).2⟩
  ·rw[Places.set_self];exact ⟨(hc _ hA hA').congr he hi,λ b hb=>Nat.le_trans h.below.size (hp b hb)⟩
 ·rcases yd hb with ⟨h1,h2⟩|⟨h1,_⟩<;>rcases yd hg with ⟨h3,h4⟩|⟨h3,_⟩
  ·rw[he β h1,he γ h3]at hbg;rw[he β h1]at hne;exact h.inj β γ c d h2 h4 hbg hne
  ·subst h3;rw[he β h1]at hbg hne;rw[Places.set_self]at hbg;cases hq:(ρ β).blk with
   |none=>exact absurd hq hne
   |some b=>have h5:=(h.chunks β c h2).1.lt hq;have h6:=hp b (hbg ▸ hq);omega
  ·subst h1;rw[he γ h3,Places.set_self]at hbg;rw[Places.set_self]at hne;cases hq:p.blk with
   |none=>exact absurd hq hne
   |some b=>have h5:=(h.chunks γ d h4).1.lt (hbg ▸ hq);have h6:=hp b hq;omega
  ·omega
 ·rcases yd hb with ⟨hl,hb⟩|⟨rfl,rfl⟩
  ·exact Chunk.inn_mono (by simp) (h.cnames β c hb)
  ·exact Chunk.inn_mono (by simp) hi
 ·rcases yd hb with ⟨hl,hb⟩|⟨rfl,rfl⟩
  ·rw[he β hl];exact h.subs.plain β c hb hm
  ·rw[Places.set_self];exact hps
 ·rcases yd hb with ⟨hl,hb⟩|⟨rfl,rfl⟩
  ·rw[he β hl]at hn;exact h.subs.base β c n hb hn
  ·rw[Places.set_self,hps]at hn;cases hn
 ·rcases yd hb with ⟨hl,hb1⟩|⟨rfl,rfl⟩
  ·rw[he β hl]at hn;have hlt:=h.sub_lt hb1 hn;rcases yd hg with ⟨hl2,hg⟩|⟨rfl,rfl⟩
   ·rw[he γ hl2];exact h.subs.apart β γ c d n hb1 hg hn
   ·rw[Places.set_self];intro hpn;have:=hp n hpn;omega
  ·rw[Places.set_self,hps]at hn;cases hn
 ·rcases yd hb with ⟨hl,hb⟩|⟨rfl,rfl⟩
  ·rw[he β hl]at hn;rcases yd hg with ⟨hl2,hg⟩|⟨rfl,rfl⟩
   ·rw[he γ hl2]at hm;exact h.subs.one β γ c d n hb hg hn hm
   ·rw[Places.set_self,hps]at hm;cases hm
  ·rw[Places.set_self,hps]at hn;cases hn
theorem Rel.drop(h:Rel P A0 w0 ρ s a w)(β:Nat):Rel P A0 w0 ρ { s with chunks:=s.chunks.set β none } a w:=by
 have hsub:∀ (γ:Nat) (c:Chunk),(s.chunks.set β none)[γ]?=some (some c)->s.chunks[γ]?=some (some c):=by
  intro γ c hg;by_cases hb:β=γ
  ·subst hb;rw[List.getElem?_set]at hg;simp at hg
  ·rwa[List.getElem?_set_ne hb]at hg
 have hA:∀ n,n < w.heap.size->Av A0 ρ (s.chunks.set β none) n->Av A0 ρ s.chunks n:=by
  rintro n hn ((h0|⟨γ,c,hb,hbn⟩)|⟨γ,c,hb,hbn⟩)
  ·exact .inl (.inl h0)
  ·exact .inl (.inr ⟨γ,c,hsub γ c hb,hbn⟩)
  ·exact .inr ⟨γ,c,hsub γ c hb,hbn⟩
 have hK:Keep (Av A0 ρ s.chunks) w w:=λ _ _ _=>rfl
 refine ⟨h.size,λ i sv hs=>(h.slots i sv hs).mono hK hA,λ γ c hb=>⟨(h.chunks γ c (hsub γ c hb)).1.keep (λ _ _=>rfl) hA,(h.chunks γ c (hsub γ c hb)).2⟩,
  λ γ δ c d hb hg hbg hne=>h.inj γ δ c d (hsub γ c hb) (hsub δ d hg) hbg hne,λ i sv hs=>by simpa using h.names i sv hs,λ γ c hb=>by simpa using h.cnames γ c (hsub γ c hb),h.below,h.dom,h.defers,h.dep,(λ γ c q hb hq=>h.lpi γ c q (hsub γ c hb) hq),h.round,h.glob,h.ksize,λ i sv hs=>(h.kslots i sv hs).mono hK hA,λ i sv hs=>by simpa using h.knames i sv hs,h.subs.sub λ γ c hg=>⟨c,hsub γ c hg,id⟩⟩
theorem Rel.dropAll(h:Rel P A0 w0 ρ s a w){cs:List (Option Chunk)}(hlen:cs.length=s.chunks.length)(hsub:∀ (γ:Nat) (c:Chunk),cs[γ]?=some (some c)->s.chunks[γ]?=some (some c)):Rel P A0 w0 ρ { s with chunks:=cs } a w:=by
 have hA:∀ n,n < w.heap.size->Av A0 ρ cs n->Av A0 ρ s.chunks n:=by
  rintro n hn ((h0|⟨γ,c,hb,hbn⟩)|⟨γ,c,hb,hbn⟩)
  ·exact .inl (.inl h0)
  ·exact .inl (.inr ⟨γ,c,hsub γ c hb,hbn⟩)
  ·exact .inr ⟨γ,c,hsub γ c hb,hbn⟩
 have hK:Keep (Av A0 ρ s.chunks) w w:=λ _ _ _=>rfl
 refine ⟨h.size,λ i sv hs=>(h.slots i sv hs).mono hK hA,λ γ c hb=>⟨(h.chunks γ c (hsub γ c hb)).1.keep (λ _ _=>rfl) hA,(h.chunks γ c (hsub γ c hb)).2⟩,
  λ γ δ c d hb hg hbg hne=>h.inj γ δ c d (hsub γ c hb) (hsub δ d hg) hbg hne,λ i sv hs=>by rw[hlen];exact h.names i sv hs,λ γ c hb=>by rw[hlen];exact h.cnames γ c (hsub γ c hb),h.below,h.dom,h.defers,h.dep,(λ γ c q hb hq=>h.lpi γ c q (hsub γ c hb) hq),h.round,h.glob,h.ksize,λ i sv hs=>(h.kslots i sv hs).mono hK hA,λ i sv hs=>by rw[hlen];exact h.knames i sv hs,h.subs.sub λ γ c hg=>⟨c,hsub γ c hg,id⟩⟩
theorem Rel.write(h:Rel P A0 w0 ρ s a w){β b:Nat}{ch ch':Chunk}(hβ:s.chunks[β]?=some (some ch))(hb:(ρ β).blk=some b)
  (hk:∀ n,n≠b->w'.heap[n]?=w.heap[n]?) (hsz:w'.heap.size=w.heap.size) (ho:w'.os=w.os) (ht:w'.tape=w.tape) (hu:w'.output=w.output) (hi:ch'.inn s.chunks.length)
  (hc:∀ A,(∀ n,A n ↔ Av A0 ρ s.chunks n)->yB P A w' ρ (ρ β) ch') (hlp:ch'.lpNo=ch.lpNo:=by rfl) (him:ch'.isM=ch.isM:=by rfl):Rel P A0 w0 ρ { s with chunks:=s.chunks.set β (some ch') } a w':=by
 have hβl:β < s.chunks.length:=by
  rcases Nat.lt_or_ge β s.chunks.length with hl|hl
  ·exact hl
  ·rw[List.getElem?_eq_none (by simpa using hl)]at hβ;cases hβ
 have hcs:∀ (γ:Nat) (c:Chunk),(s.chunks.set β (some ch'))[γ]?=some (some c)->(γ=β/\c=ch')\/(γ≠β/\s.chunks[γ]?=some (some c)):=by
  intro γ c hg;by_cases hbg:β=γ
  ·subst hbg;rw[List.getElem?_set_self hβl]at hg;cases hg;exact .inl ⟨rfl,rfl⟩
  ·rw[List.getElem?_set_ne hbg]at hg;exact .inr ⟨λ e=>hbg e.symm,hg⟩
 have hA:∀ n,Av A0 ρ (s.chunks.set β (some ch')) n ↔ Av A0 ρ s.chunks n:=by
  intro n;constructor
  ·rintro ((h0|⟨γ,c,hg,hbn⟩)|⟨γ,c,hg,hbn⟩)
   ·exact .inl (.inl h0)
   ·rcases hcs γ c hg with ⟨rfl,rfl⟩|⟨_,hg⟩
    ·exact .inl (.inr ⟨γ,ch,hβ,hbn⟩)
    ·exact .inl (.inr ⟨γ,c,hg,hbn⟩)
   ·rcases hcs γ c hg with ⟨rfl,rfl⟩|⟨_,hg⟩
    ·exact .inr ⟨γ,ch,hβ,hbn⟩
    ·exact .inr ⟨γ,c,hg,hbn⟩
  ·rintro ((h0|⟨γ,c,hg,hbn⟩)|⟨γ,c,hg,hbn⟩)
   ·exact .inl (.inl h0)
   ·by_cases hbg:β=γ
    ·subst hbg;exact .inl (.inr ⟨β,ch',by rw[List.getElem?_set_self hβl],hbn⟩)
    ·exact .inl (.inr ⟨γ,c,by rw[List.getElem?_set_ne hbg];exact hg,hbn⟩)
   ·by_cases hbg:β=γ
    ·subst hbg;exact .inr ⟨β,ch',by rw[List.getElem?_set_self hβl],hbn⟩
    ·exact .inr ⟨γ,c,by rw[List.getElem?_set_ne hbg];exact hg,hbn⟩
 have hAb:Av A0 ρ s.chunks b:=.inr ⟨β,ch,hβ,hb⟩;have hK:Keep (Av A0 ρ s.chunks) w w':=λ n _ hn=>hk n (λ e=>hn (e ▸ hAb))
 have hA1:∀ n,n < w.heap.size->Av A0 ρ (s.chunks.set β (some ch')) n->Av A0 ρ s.chunks n:=λ n _ hn=>(hA n).1 hn
 have hother:∀ (γ:Nat) (c:Chunk),γ≠β->s.chunks[γ]?=some (some c)->yB P (Av A0 ρ (s.chunks.set β (some ch'))) w' ρ (ρ γ) c:=by
  intro γ c hne hg;have h1:=(h.chunks γ c hg).1;have hnb:∀ b',(ρ γ).blk=some b'->b'≠b:=by
   intro b' hb' e;subst e;exact hne (h.inj γ β c ch hg hβ (hb'.trans hb.symm) (by rw[hb'];simp))
  exact h1.frame (λ n hn _=>hk n (hnb n hn)) (λ n hn _=>hk n λ e=>h.subs.apart γ β c ch n hg hβ hn (e ▸ hb)) hK hA1
 have hbw:w0.w.heap.size<=b:=(h.chunks β ch hβ).2 b hb;refine ⟨h.size,λ i sv hs=>(h.slots i sv hs).mono hK hA1,λ γ c hg=>?_,λ γ δ c d hg hd hbg hne=>?_,λ i sv hs=>by simpa using h.names i sv hs,λ γ c hg=>?_,⟨ho.trans h.below.os,ht.trans h.below.tape,hu.trans h.below.output,hsz ▸ h.below.size,λ n hn=>(hk n (by omega)).trans (h.below.block n hn)⟩,h.dom,(let ⟨_,hm⟩:=h.defers;y1Z hm λ r hr=>(hk r λ e=>(h.chunks β ch hβ).1.no_mark hb (e ▸ hr)).trans hr),h.dep,(λ γ c q hg hq=>by
  rcases hcs γ c hg with ⟨rfl,rfl⟩|⟨_,hg⟩
  ·exact h.lpi γ ch q hβ (hlp ▸ hq)
  ·exact h.lpi γ c q hg hq),(λ l hl=>by
  obtain ⟨r,hr⟩:=h.round l hl;by_cases hlb:l=b
  ·subst hlb;have h1:=(h.chunks β ch hβ).1;cases ch with
   |lp i info cells st =>
    cases ch' with
    |lp i' info' cells' st' =>
     obtain ⟨b',r',hb',h2,_⟩:=hc _ (λ n=>Iff.rfl)
     rw[hb]at hb';cases hb';exact ⟨r',h2⟩
    |_=>cases hlp
   |box t cells =>
    obtain ⟨b',vs,e,hb',h2,_⟩:=h1;rw[hb]at hb';cases hb';rw[hr]at h2;cases h2
   |arr e t xs nn =>
    obtain ⟨_,_,⟨h2,_⟩|⟨b',vs,hb',h2,_⟩⟩:=h1
    ·rw[hb]at h2;cases h2
    ·rw[hb]at hb';cases hb';rw[hr]at h2;cases h2
   |mp k v es =>
    obtain ⟨b',ms,c,hb',h2,_⟩:=h1;rw[hb]at hb';cases hb';rw[hr]at h2;cases h2
   |it bs q =>
    obtain ⟨b',n,hb',h2,_⟩:=h1;rw[hb]at hb';cases hb';rw[hr]at h2;cases h2
   |mps k e u es hole =>
    obtain ⟨b',ms,c,hb',h2,_⟩:=h1;rw[hb]at hb';cases hb';rw[hr]at h2;cases h2
   |rcd t cells=>exact absurd hr ((h.chunks β _ hβ).1.no_loop rfl hb)
   |nst e t o e' u xs=>exact absurd hr ((h.chunks β _ hβ).1.no_loop rfl hb)
  ·exact ⟨r,(hk l hlb).trans hr⟩),h.glob,h.ksize,λ i sv hs=>(h.kslots i sv hs).mono hK hA1,λ i sv hs=>by simpa using h.knames i sv hs,h.subs.sub λ γ c hg=>by
  rcases hcs γ c hg with ⟨rfl,rfl⟩|⟨_,hg⟩
  ·exact ⟨ch,hβ,λ e=>him ▸ e⟩
  ·exact ⟨c,hg,id⟩⟩
 ·rcases hcs γ c hg with ⟨rfl,rfl⟩|⟨hne,hg⟩
  ·exact ⟨hc _ hA,(h.chunks γ ch hβ).2⟩
  ·exact ⟨hother γ c hne hg,(h.chunks γ c hg).2⟩
 ·have old:∀ (γ:Nat) (c:Chunk),(s.chunks.set β (some ch'))[γ]?=some (some c)->∃ c',s.chunks[γ]?=some (some c'):=by
   intro γ c hg;rcases hcs γ c hg with ⟨rfl,rfl⟩|⟨_,hg⟩
   ·exact ⟨ch,hβ⟩
   ·exact ⟨c,hg⟩
  obtain ⟨c1,h1⟩:=old γ c hg;obtain ⟨c2,h2⟩:=old δ d hd;exact h.inj γ δ c1 c2 h1 h2 hbg hne
 ·rcases hcs γ c hg with ⟨rfl,rfl⟩|⟨_,hg⟩
  ·simpa using hi
  ·simpa using h.cnames γ c hg
theorem Rel.writeDrop(h:Rel P A0 w0 ρ s a w){β b:Nat}{ch:Chunk}(hβ:s.chunks[β]?=some (some ch))(hb:(ρ β).blk=some b)(hnl:ch.lpNo=none)
  (hk:∀ n,n≠b->w'.heap[n]?=w.heap[n]?) (hsz:w'.heap.size=w.heap.size) (ho:w'.os=w.os) (ht:w'.tape=w.tape) (hu:w'.output=w.output):Rel P A0 w0 ρ { s with chunks:=s.chunks.set β none } a w':=by
 have hcs:∀ (γ:Nat) (c:Chunk),(s.chunks.set β none)[γ]?=some (some c)->γ≠β/\s.chunks[γ]?=some (some c):=by
  intro γ c hg;by_cases hbg:β=γ
  ·subst hbg;rw[List.getElem?_set]at hg;simp at hg
  ·rw[List.getElem?_set_ne hbg]at hg;exact ⟨λ e=>hbg e.symm,hg⟩
 have hA1:∀ n,n < w.heap.size->Av A0 ρ (s.chunks.set β none) n->Av A0 ρ s.chunks n:=by
  rintro n hn ((h0|⟨γ,c,hb,hbn⟩)|⟨γ,c,hb,hbn⟩)
  ·exact .inl (.inl h0)
  ·exact .inl (.inr ⟨γ,c,(hcs γ c hb).2,hbn⟩)
  ·exact .inr ⟨γ,c,(hcs γ c hb).2,hbn⟩
 have hAb:Av A0 ρ s.chunks b:=.inr ⟨β,ch,hβ,hb⟩;have hK:Keep (Av A0 ρ s.chunks) w w':=λ n hn hnA=>hk n λ e=>hnA (e ▸ hAb)
 have hbw:w0.w.heap.size<=b:=(h.chunks β ch hβ).2 b hb;refine ⟨h.size,λ i sv hs=>(h.slots i sv hs).mono hK hA1,λ γ c hg=>?_,λ γ δ c d hg hd hbg hne=>h.inj γ δ c d (hcs γ c hg).2 (hcs δ d hd).2 hbg hne,λ i sv hs=>by simpa using h.names i sv hs,λ γ c hg=>by simpa using h.cnames γ c (hcs γ c hg).2,⟨ho.trans h.below.os,ht.trans h.below.tape,hu.trans h.below.output,hsz ▸ h.below.size,λ n hn=>(hk n (by omega)).trans (h.below.block n hn)⟩,h.dom,(let ⟨_,hm⟩:=h.defers;y1Z hm λ r hr=>(hk r λ e=>(h.chunks β ch hβ).1.no_mark hb (e ▸ hr)).trans hr),h.dep,(λ γ c q hg hq=>h.lpi γ c q (hcs γ c hg).2 hq),(λ l hl=>by
  obtain ⟨r,hr⟩:=h.round l hl;exact ⟨r,(hk l λ e=>(h.chunks β ch hβ).1.no_loop hnl hb (e ▸ hr)).trans hr⟩),h.glob,h.ksize,λ i sv hs=>(h.kslots i sv hs).mono hK hA1,λ i sv hs=>by simpa using h.knames i sv hs,h.subs.sub λ γ c hg=>⟨c,(hcs γ c hg).2,id⟩⟩
 obtain ⟨hne,hg⟩:=hcs γ c hg;refine ⟨?_,(h.chunks γ c hg).2⟩;have h1:=(h.chunks γ c hg).1;have hnb:∀ b',(ρ γ).blk=some b'->b'≠b:=by
  intro b' hb' e;subst e;exact hne (h.inj γ β c ch hg hβ (hb'.trans hb.symm) (by rw[hb'];simp))
 exact h1.frame (λ n hn _=>hk n (hnb n hn)) (λ n hn _=>hk n λ e=>h.subs.apart γ β c ch n hg hβ hn (e ▸ hb)) hK hA1
theorem Rel.globW(h:Rel P A0 w0 ρ s a w):y4S (Av A0 ρ s.chunks) w:=λ p hp=>by
 obtain ⟨h1,h2,h3⟩:=h.glob p hp;refine ⟨?_,Nat.lt_of_lt_of_le h2 h.below.size,?_⟩
 ·rintro ((h0|⟨β,ch,hc,hb⟩)|⟨β,ch,hc,hb⟩)
  ·exact h1 h0
  ·have:=h.subs.base β ch _ hc hb;omega
  ·have:=(h.chunks β ch hc).2 _ hb;omega
 ·obtain ⟨t,f,h4⟩:=h3;exact ⟨t,f,(h.below.block p.1 h2).trans h4⟩
end
end Go.Vx
end
section
namespace Go.Vx
noncomputable section
variable [GT]
structure TyI where
 ty:Ty
 elem:TypeId:=0
 fields:List (Nat×TypeId):=[]
structure TV where
 t:Ty
 x:t.den
structure Entry where
 f:FuncId
 args:Ty
 ress:Ty
 m:args.den->Option ress.den
 own:Option (TypeId×Ty):=none
 ex:Option TV:=none
structure G where
 T:List (TypeId×TyI)
 E:List Entry
 muts:List Nat:=[]
 fz:List Nat:=[]
 ap:List (Nat×Option Nat×Nat):=[]
 vl:Bool:=false
 lv:Option (List Nat):=none
def yT:List (TypeId×TyI)->TypeId->Option TyI
 |[],_=>none
 | (u,i)::l,t=>if u == t then some i else yT l t
def y6S:List Entry->FuncId->Option Entry
 |[],_=>none
 |e::l,f=>if e.f == f then some e else y6S l f
def y3R(a b:Ty)(x:a.den):Option b.den:=if h:a=b then some (h ▸ x)else none
def conv:(a b:Ty)->a.den->Option b.den
 |.nslice t,.slice u,x=>if h:t=u then some (h ▸ (Option.getD x []:List t.den))else none
 |a,b,x=>y3R a b x
def yJ9:(u t:Ty)->u.den->Option TV
 |.nslice u,.slice v,x=>if u=v then some ⟨.nslice u,x⟩else none
 |u,t,x=>(y3R u t x).map λ y=>⟨t,y⟩
def Ty.flat:Ty->Bool
 |.bool|.int _|.str|.unit|.flt _|.cplx _|.err=>true
 |.pair a b=>a.flat && b.flat
 |.arr _ t=>t.flat
 |_=>false
def Ty.app:Ty->Ty->Ty
 |.pair a b,t=>.pair a (b.app t)
 |_,t=>t
def yGQ:(a t:Ty)->a.den->t.den->(a.app t).den
 |.pair _ b,t,x,y=>(x.1,yGQ b t x.2 y)
 | .unit,_,_,y|.bool,_,_,y|.int _,_,_,y|.str,_,_,y|.slice _,_,_,y|.ref _,_,_,y|.func _ _,_,_,y
 |.arr _ _,_,_,y|.nslice _,_,_,y|.map _ _,_,_,y|.err,_,_,y|.flt _,_,_,y|.cplx _,_,_,y=>y
def y2s:(t:Ty)->List Value->Option t.den
 |.bool=>λ l=>match l with|[.bool b]=>some b|_=>none
 |.int k=>λ l=>match l with|[.int j n]=>if k=j then some n else none|_=>none
 |.str=>λ l=>match l with|[.string b]=>some b.data.toList|_=>none
 |.unit=>λ l=>match l with|[]=>some ()|_=>none
 |.pair a b=>λ l=>(y2s a (l.take a.size)).bind λ x=>(y2s b (l.drop a.size)).map λ y=>(x,y)
 |.slice _=>λ l=>match l with|[.slice none 0 0]=>some ([]:List _)|_=>none
 |.nslice _=>λ l=>match l with|[.slice none 0 0]=>some none|_=>none
 |.err=>λ l=>match l with|[.nilIface]=>some true|_=>none
 |.flt k=>λ l=>match l with|[.float j n]=>if k=j then some (fcan k n)else none|_=>none
 |.map _ _=>λ l=>match l with|[.map none]=>some ([]:List _)|_=>none
 |.arr n t=>λ l=>if l.length=n * t.size then (List.range n).mapM λ i=>y2s t ((l.drop (i * t.size)).take t.size)else none
 |_=>λ _=>none
def y3s(T:List (TypeId×TyI))(τ:TypeId):Value->SV
 |.bool b=>.val .bool b
 |.int k n=>.val (.int k) n
 |.string s=>.val .str s.data.toList
 |.slice none 0 0=>.nils
 |.nilIface=>.val .err true
 |.agg cs=>match yT T τ with|some i=>(match y2s i.ty cs.toList with|some x=>if i.ty.agg then .val i.ty x else .undef|none=>.undef)|none=>.undef
 |.map none=>match yT T τ with|some i=>(match i.ty with|.map k v=>.val (.map k v) []|_=>.undef)|none=>.undef
 |.float k n=>.val (.flt k) (fcan k n)
 |.complex k a b=>.val (.cplx k) (fcan k a,fcan k b)
 |_=>.undef
def y5h:List (Nat×Ty×List Value)->Nat->SV
 |[],_=>.undef
 |p::l,b=>if p.1 == b then (match y2s p.2.1 p.2.2 with|some x=>.val (.ref p.2.1) x|none=>.undef)else y5h l b
def y9(T:List (TypeId×TyI))(τ:TypeId)(s:St):Operand->SV
 |.tmp t=>s.get t
 |.const v=>y3s T τ v
 |.global b=>y5h GT.gl b
 |.func f=>.clo f []
def SV.isVal:SV->Bool
 |.val _ _=>true
 |_=>false
def y9h(cs:List (Option Chunk))(β:Nat):Option TV:=
 match cs.getD β none with
 |some (.arr _ t xs nn)=>some (if nn then ⟨.nslice t,some xs⟩else ⟨.slice t,xs⟩)
 |_=>none
def y5T(cs:List (Option Chunk))(β:Nat):Option TV:=
 match cs.getD β none with
 |some (.mp k v es)=>some ⟨.map k v,es⟩
 |_=>none
def y0e(cs:List (Option Chunk))(sv:SV)(t:Ty):Option t.den:=
 match sv with
 |.val u x=>conv u t x
 |.nils=>(match t with|.slice _=>some ([]:List _)|.nslice _=>some none|_=>none)
 |.own β=>(y9h cs β).bind λ v=>conv v.t t v.x
 |.mown β=>(y5T cs β).bind λ v=>conv v.t t v.x
 |_=>none
def unX:SV->SV
 |.xval t x=>.val t x
 |sv=>sv
def one(svs:List SV)(t:Ty):Option t.den:=match svs with|[sv]=>y0e [] (unX sv) t|_=>none
def y2F:(t:Ty)->List SV->Option t.den
 |.unit=>λ l=>match l with|[]=>some ()|_=>none
 |.pair a b=>λ l=>(y2F a (l.take a.size)).bind λ x=>(y2F b (l.drop a.size)).map λ y=>(x,y)
 |.arr n t=>λ l=>if l.length=n * t.size then (List.range n).mapM λ i=>y2F t ((l.drop (i * t.size)).take t.size)else none
 |.bool=>λ l=>one l .bool
 |.int k=>λ l=>one l (.int k)
 |.str=>λ l=>one l .str
 |.slice t=>λ l=>one l (.slice t)
 |.nslice t=>λ l=>one l (.nslice t)
 |.ref t=>λ l=>one l (.ref t)
 |.func a b=>λ l=>one l (.func a b)
 |.map a b=>λ l=>one l (.map a b)
 |.err=>λ l=>one l .err
 |.flt k=>λ l=>one l (.flt k)
 |.cplx k=>λ l=>one l (.cplx k)
def y0V:(t:Ty)->t.den->List SV
 |.unit,_=>[]
 |.pair a b,p=>y0V a p.1++y0V b p.2
 |.arr n t,xs=>(List.range n).flatMap λ i=>y0V t (List.getD xs i t.dflt)
 |.bool,x=>[.val .bool x]
 |.int k,x=>[.val (.int k) x]
 |.str,x=>[.val .str x]
 |.slice t,x=>[.val (.slice t) x]
 |.nslice t,x=>[.val (.nslice t) x]
 |.ref t,x=>[.val (.ref t) x]
 |.func a b,x=>[.val (.func a b) x]
 |.map a b,x=>[.val (.map a b) x]
 |.err,x=>[.val .err x]
 |.flt k,x=>[.val (.flt k) x]
 |.cplx k,x=>[.val (.cplx k) x]
def y0u:(t:Ty)->List SV
 |.unit=>[]
 |.pair a b=>y0u a++y0u b
 |.arr n t=>(List.replicate n (y0u t)).flatten
 |.bool=>[.val .bool false]
 |.int k=>[.val (.int k) (0:Int)]
 |.str=>[.val .str ([]:List UInt8)]
 |.slice _=>[.nils]
 |.nslice _=>[.nils]
 |.err=>[.val .err true]
 |.flt k=>[.val (.flt k) (0:Nat)]
 |.cplx k=>[.val (.cplx k) ((0:Nat),(0:Nat))]
 |_=>[.undef]
def Ty.zeroV:(t:Ty)->List Value
 |.unit=>[]
 |.pair a b=>a.zeroV++b.zeroV
 |.arr n t=>(List.replicate n t.zeroV).flatten
 |.bool=>[.bool false]
 |.int k=>[.int k 0]
 |.str=>[.string ⟨#[]⟩]
 |.slice _|.nslice _=>[.slice none 0 0]
 |.err=>[.nilIface]
 |.flt k=>[.float k 0]
 |.cplx k=>[.complex k 0 0]
 |.ref _=>[.pointer none]
 |.func _ _=>[.nilFunc]
 |.map _ _=>[.map none]
def y36:(t:Ty)->t.den->Nat->Option TV
 |.pair a _,p,0=>some ⟨a,p.1⟩
 |.pair _ b,p,n+1=>y36 b p.2 n
 |_,_,_=>none
def y9K(t:Ty)(x:t.den)(off:Nat)(τ:Ty):Option TV:=
 match y10 t x off τ with
 |some y=>some ⟨τ,y⟩
 |none=>match τ with
  |.slice v=>(y10 t x off (.nslice v)).map λ y=>⟨.nslice v,y⟩
  |_=>none
def yCB(β:Nat)(t:Ty)(x:t.den):Cap->Cap
 |.box γ=>if γ=β then .val (.ref t) x else .box γ
 |c=>c
def y1R(β:Nat)(v:SV):SV->SV
 |.own γ=>if γ=β then v else .own γ
 |sv=>sv
def y6J(β:Nat)(v:SV):SV->SV
 |.mown γ=>if γ=β then v else .mown γ
 |sv=>sv
def yFd(β:Nat)(t:Ty)(x:t.den):SV->SV
 |.bptr γ off=>if γ=β then (if off=0 then .val (.ref t) x else .undef)else .bptr γ off
 |.clo f caps=>.clo f (caps.map (yCB β t x))
 |sv=>sv
def yIU(β:Nat)(v:SV):SV->SV
 |.srec γ=>if γ=β then v else .srec γ
 |sv=>sv
def y8T(β:Nat)(t:Ty)(o:Nat)(u:Ty)(xs:List t.den):SV->SV
 |.own γ=>if γ=β then .val (.slice t) xs else .own γ
 |.nown γ i=>if γ=β then (match (xs[i]?).bind λ x=>y10 t x o (.slice u)with|some ys=>.val (.slice u) ys|none=>.undef)else .nown γ i
 |sv=>sv
def Chunk.map(f:SV->SV):Chunk->Chunk
 |.box t cells=>.box t (cells.map f)
 |.rcd t cells=>.rcd t (cells.map f)
 |.lp i info cells st=>.lp i info (cells.map f) st
 |c=>c
def St.sub(s:St)(β:Nat)(f:SV->SV):St:={ sl:=s.sl.map f,chunks:=(s.chunks.set β none).map (Option.map (Chunk.map f)),kept:=s.kept.map f,dep:=s.dep,nmk:=s.nmk,rnd:=s.rnd }
def St.freeze(s:St)(β:Nat):St:=
 match s.chunks.getD β none with
 |some (.arr _ t xs nn)=>s.sub β (y1R β (if nn then .val (.nslice t) (some xs)else .val (.slice t) xs))
 |some (.box t cells)=>(match y2F t cells with|some x=>s.sub β (yFd β t x)|none=>s)
 |some (.mp k v es)=>s.sub β (y6J β (.val (.map k v) es))
 |some (.mps k _ u es none)=>s.sub β (y6J β (.val (.map k (.slice u)) es))
 |some (.nst _ t o _ u xs)=>s.sub β (y8T β t o u xs)
 |some (.rcd t cells)=>(match y2F t cells with|some x=>s.sub β (yIU β (.val t x))|none=>s)
 |_=>s
def freezeCaps:List Cap->St->St
 |[],s=>s
 |.box β::cs,s=>freezeCaps cs (s.freeze β)
 |.val _ _::cs,s=>freezeCaps cs s
def St.settle1(s:St):SV->St
 |.own β=>s.freeze β
 |.mown β=>s.freeze β
 |.clo _ caps=>freezeCaps caps s
 |_=>s
def settleCells1:List SV->St->St
 |[],s=>s
 |sv::l,s=>settleCells1 l (s.settle1 sv)
def St.settle(s:St):SV->St
 |.srec β=>(match s.chunks.getD β none with|some (.rcd _ cells)=>settleCells1 cells s|_=>s).freeze β
 |.nown β _=>s.freeze β
 |sv=>s.settle1 sv
def settleAll:List Operand->St->St
 |[],s=>s
 |.tmp t::l,s=>settleAll l (s.settle (s.get t))
 |_::l,s=>settleAll l s
def y9H:List Cap->Option TV
 |[]=>some ⟨.unit,()⟩
 |.val t x::cs=>(y9H cs).map λ v=>⟨.pair t v.t,(x,v.x)⟩
 |.box _::_=>none
def yGM(E:List Entry)(f:FuncId)(caps:List Cap)(a b:Ty):Option (a.den->Option b.den):=
 (y6S E f).bind λ e=>(y9H caps).bind λ c =>
  if h:e.args=a.app c.t/\e.ress=b then (bif c.t.solid then some λ x=>h.2 ▸ e.m (h.1 ▸ yGQ a c.t x c.x)else none)else none
def y5q(E:List Entry)(cs:List (Option Chunk))(sv:SV)(t:Ty):Option t.den:=
 match sv,t with
 |.clo f caps,.func a b=>yGM E f caps a b
 |sv,t=>y0e cs sv t
def asFn(E:List Entry)(t:Ty)(sv:SV):SV:=
 match sv,t with
 |.clo f caps,.func a b=>(match yGM E f caps a b with|some m=>.val (.func a b) m|none=>.clo f caps)
 |sv,_=>sv
def y1N(E:List Entry)(cs:List (Option Chunk)):(t:Ty)->List SV->Option t.den
 |.unit,[]=>some ()
 |.pair a b,sv::l=>(y5q E cs sv a).bind λ x=>(y1N E cs b l).map λ y=>(x,y)
 |_,_=>none
def yA0:(t:Ty)->t.den->SV
 |.pair a .unit,x=>.val a x.1
 |.pair a (.pair b c),x=>.tup (.pair a (.pair b c)) x
 |.unit,_=>.tup .unit ()
 |_,_=>.undef
section
variable {R:Type}
def idx{α:Type}(xs:List α)(i:Int):Option α:=if 0<=i then xs[i.toNat]? else none
def y1q(k:IntKind)(op:BinOp)(a b:Int):Int:=
 let x:=BitVec.ofInt k.bits a
 let y:=BitVec.ofInt k.bits b
 k.wrap ((match op with|.and=>x &&& y|.or=>x ||| y|.xor=>x ^^^ y|_=>x &&& ~~~y).toNat:Int)
def intK(op:BinOp)(k:IntKind)(a b:Int)(K:SV->Option R):Option R:=
 match op with
 |.add=>K (.val (.int k) (k.wrap (a+b)))
 |.sub=>K (.val (.int k) (k.wrap (a - b)))
 |.mul=>K (.val (.int k) (k.wrap (a * b)))
 |.quo=>bif b == 0 then none else K (.val (.int k) (k.wrap (a.tdiv b)))
 |.rem=>bif b == 0 then none else K (.val (.int k) (a.tmod b))
 |.and|.or|.xor|.andNot=>K (.val (.int k) (y1q k op a b))
 |.eql=>K (.val .bool (a == b))
 |.neq=>K (.val .bool (a != b))
 |.lss=>K (.val .bool (decide (a < b)))
 |.leq=>K (.val .bool (decide (a<=b)))
 |.gtr=>K (.val .bool (decide (a > b)))
 |.geq=>K (.val .bool (decide (a >= b)))
 |_=>none
def y9f(op:BinOp)(k:IntKind)(a b:Int)(K:SV->Option R):Option R:=
 bif decide (b < 0)then none else
 match op with
 |.shl=>K (.val (.int k) (k.wrap (a * 2 ^ (min b.toNat k.bits))))
 |.shr=>K (.val (.int k) (a.fdiv (2 ^ (min b.toNat k.bits))))
 |_=>none
def strMax:Nat:=4611686018427387904
def strK(op:BinOp)(a b:List UInt8)(K:SV->Option R):Option R:=
 match op with
 |.add=>bif decide (a.length+b.length < strMax)then K (.val .str (a++b))else none
 |.eql=>K (.val .bool (a == b))
 |.neq=>K (.val .bool (!(a == b)))
 |.lss=>K (.val .bool (Op.bytesLess a b))
 |.leq=>K (.val .bool (Op.bytesLess a b || a == b))
 |.gtr=>K (.val .bool (!(Op.bytesLess a b || a == b)))
 |.geq=>K (.val .bool (!Op.bytesLess a b))
 |_=>none
def y09(op:BinOp)(k:FloatKind)(a b:Nat):Nat:=(floatBits op k a b).getD (fnan k)
def yr(op:BinOp)(k:FloatKind)(a b:Nat):Bool:=
 let c:=k.format.order a b
 match op with
 |.eql=>c == some .eq
 |.neq=>c != some .eq
 |.lss=>c == some .lt
 |.leq=>c == some .lt || c == some .eq
 |.gtr=>c == some .gt
 |_=>c == some .gt || c == some .eq
def yF3(k:FloatKind)(a:Nat):Nat:=fcan k (Op.negFloat k a)
def y3q(n:Int):List UInt8:=(Utf8.encode n).data.toList
def y17(k:FloatKind)(n:Int):Nat:=floatOfInt k n
def yo(k:FloatKind)(a:Nat)(j:IntKind):Option Int:=floatToIntVal k a j
def y1e(k:FloatKind)(a:Nat)(j:FloatKind):Option Nat:=bif (k.format.read a).isNaN then some (fnan j)else floatToFloatBits k a j
def fltK(op:BinOp)(k:FloatKind)(a b:Nat)(K:SV->Option R):Option R:=
 match op with
 |.add|.sub|.mul|.quo=>K (.val (.flt k) (y09 op k a b))
 |.eql|.neq|.lss|.leq|.gtr|.geq=>K (.val .bool (yr op k a b))
 |_=>none
def y9n(k:FloatKind)(x y:Nat×Nat):Bool:=yr .eql k x.1 y.1 && yr .eql k x.2 y.2
def y3D(op:BinOp)(k:FloatKind)(x y:Nat×Nat)(K:SV->Option R):Option R:=
 match op with
 |.eql=>K (.val .bool (y9n k x y))
 |.neq=>K (.val .bool (!y9n k x y))
 |_=>none
def yKr(xs:List SV)(K:SV->Option R):Option R:=
 match xs with
 |[.val (.flt k) a,.val (.flt j) b]=>if k=j then K (.val (.cplx k) (a,b))else none
 |_=>none
def yIG(xs:List SV)(K:SV->Option R):Option R:=
 match xs with
 |[.val (.cplx k) z]=>K (.val (.flt k) z.1)
 |_=>none
def yJc(xs:List SV)(K:SV->Option R):Option R:=
 match xs with
 |[.val (.cplx k) z]=>K (.val (.flt k) z.2)
 |_=>none
def Ty.cmp:Ty->Bool
 |.bool|.int _|.str|.unit=>true
 |.pair a b=>a.cmp && b.cmp
 |.arr _ t=>t.cmp
 |_=>false
def eqV:(t:Ty)->t.den->t.den->Bool
 |.bool,x,y=>(show Bool from x) == y
 |.int _,x,y=>(show Int from x) == y
 |.str,x,y=>(show List UInt8 from x) == y
 |.pair a b,x,y=>eqV a x.1 y.1 && eqV b x.2 y.2
 |.arr n t,x,y=>(List.range n).all λ i=>eqV t (List.getD x i t.dflt) (List.getD y i t.dflt)
 |_,_,_=>true
def aggK(ty:Ty)(op:BinOp)(t:Ty)(p:t.den)(u:Ty)(q:u.den)(K:SV->Option R):Option R:=
 if h:u=t then (if ty=t/\t.cmp=true then (match op with
  |.eql=>K (.val .bool (eqV t p (h ▸ q)))
  |.neq=>K (.val .bool (!eqV t p (h ▸ q)))
  |_=>none)else none)else none
def binK(ty:Ty)(op:BinOp)(x y:SV)(K:SV->Option R):Option R:=
 match x,y with
 |.val (.int k) a,.val (.int j) b =>
  match op with
  |.shl|.shr=>y9f op k a b K
  |_=>if k=j then intK op k a b K else none
 |.val .str a,.val .str b=>strK op a b K
 |.val .bool a,.val .bool b=>if ty=.bool then (match op with
  |.eql=>K (.val .bool (a == b))
  |.neq=>K (.val .bool (!(a == b)))
  |_=>none)else none
 |.val (.flt k) a,.val (.flt j) b=>if k=j then fltK op k a b K else none
 |.val (.cplx k) a,.val (.cplx j) b=>if k=j then y3D op k a b K else none
 |.val (.nslice _) a,.nils=>(match ty with
  |.slice _|.nslice _=>(match op with
   |.eql=>K (.val .bool (Option.isNone a))
   |.neq=>K (.val .bool (!Option.isNone a))
   |_=>none)
  |_=>none)
 |.val (.pair a b) p,.val u q=>aggK ty op (.pair a b) p u q K
 |.val (.arr n t) p,.val u q=>aggK ty op (.arr n t) p u q K
 |_,_=>none
def unK(op:UnOp)(x:SV)(K:SV->Option R):Option R:=
 match op,x with
 |.neg,.val (.int k) a=>K (.val (.int k) (k.wrap (0 - a)))
 |.xor,.val (.int k) a=>K (.val (.int k) (y1q k .xor (if k.signed then -1 else k.max) a))
 |.not,.val .bool b=>K (.val .bool (!b))
 |.neg,.val (.flt k) a=>K (.val (.flt k) (yF3 k a))
 |_,_=>none
def y4B(E:List Entry):(t:Ty)->t.den->Nat->SV->Option t.den
 |.pair a _,p,0,sv=>(y5q E [] sv a).map λ y=>(y,p.2)
 |.pair _ b,p,n+1,sv=>(y4B E b p.2 n sv).map λ q=>(p.1,q)
 |_,_,_,_=>none
def refine(l:List Nat):Ty->Nat->Ty
 |.pair a b,k=>.pair (match a with|.slice u=>if l.contains k then .slice u else .nslice u|a=>a) (refine l b (k+1))
 |t,_=>t
def bty(m:Bool)(l:List Nat)(t:Ty):Ty:=if m then refine l t 0 else t
def y6N(E:List Entry)(s:St)(T:List (TypeId×TyI))(tys:List (Nat×TypeId))(t:Ty):List (Nat×Operand)->t.den->Option t.den
 |[],x=>some x
 |p::ps,x=>(y4B E t x p.1 (y9 T ((tys.getD p.1 (0,0)).2) s p.2)).bind λ y=>y6N E s T tys t ps y
def y3X(E:List Entry)(s:St)(T:List (TypeId×TyI))(u:Ty)(e:TypeId):List (Nat×Operand)->List u.den->Option (List u.den)
 |[],xs=>some xs
 |p::ps,xs=>if p.1 < xs.length then (y5q E [] (y9 T e s p.2) u).bind λ y=>y3X E s T u e ps (xs.set p.1 y)else none
def Ty.zok:Ty->Bool
 |.ref _=>false
 |.pair a b=>a.zok && b.zok
 |.arr _ t=>t.zok
 |_=>true
def memMax:Nat:=68719476736
def Ty.isPair:Ty->Bool
 |.pair _ _=>true
 |_=>false
def Ty.elemIs(t u:Ty):Bool:=decide (t=.slice u) || decide (t=.nslice u)
def yFr:List Cap->Bool
 |[]=>true
 |.val _ _::cs=>yFr cs
 |.box _::_=>false
def SV.pure:SV->Bool
 |.val _ _|.tup _ _|.nils=>true
 |.clo _ caps=>yFr caps
 |_=>false
def yGt:(t:Ty)->t.den->Nat->Option TV
 |.pair a _,p,0=>some ⟨a,p.1⟩
 |.pair _ b,p,n+1=>yGt b p.2 n
 |_,_,_=>none
def yAj:SV->Option Int
 |.val (.int _) n=>some n
 |_=>none
def Ty.isSlice:Ty->Bool
 |.slice _|.nslice _=>true
 |_=>false
def lenK(ty:Ty)(cs:List (Option Chunk))(x:SV)(K:SV->Option R):Option R:=
 match x with
 |.val (.slice _) xs=>if ty.isSlice then K (.val (.int .i64) ((List.length xs:Nat):Int))else none
 |.val (.nslice _) xs=>if ty.isSlice then K (.val (.int .i64) ((List.length (Option.getD xs []):Nat):Int))else none
 |.val .str b=>if ty=.str then K (.val (.int .i64) ((List.length b:Nat):Int))else none
 |.nils=>if ty.isSlice then K (.val (.int .i64) (0:Int))else none
 |.own β=>if ty.isSlice then (match cs.getD β none with|some (.arr _ _ xs _)=>K (.val (.int .i64) ((List.length xs:Nat):Int))|some (.nst _ _ _ _ _ xs)=>K (.val (.int .i64) ((List.length xs:Nat):Int))|_=>none)else none
 |.nown β m=>if ty.isSlice then (match cs.getD β none with|some (.nst _ u o _ v xs)=>(xs[m]?).bind λ x=>(y10 u x o (.slice v)).bind λ ys=>K (.val (.int .i64) ((List.length ys:Nat):Int))|_=>none)else none
 |_=>match ty with
  |.arr n _=>K (.val (.int .i64) ((n:Nat):Int))
  |_=>none
def y5a{α:Type}(xs:List α)(lo hi:Option Int)(K:List α->Option R):Option R:=
 match lo,hi with
 |none,none=>K xs
 |some l,none=>bif decide (0<=l) && decide (l<=(xs.length:Int))then K (xs.drop l.toNat)else none
 |none,some h=>bif decide (0<=h) && decide (h<=(xs.length:Int))then K (xs.take h.toNat)else none
 |some l,some h=>bif decide (0<=l) && decide (l<=h) && decide (h<=(xs.length:Int))then K ((xs.take h.toNat).drop l.toNat)else none
def y7g(T:List (TypeId×TyI))(s:St):Option Operand->Option (Option Int)
 |none=>some none
 |some x=>(yAj (y9 T 0 s x)).map some
def imax(a b:Int):Int:=if b > a then b else a
def imin(a b:Int):Int:=if b < a then b else a
def yGT(k:IntKind):List SV->Option (List Int)
 |[]=>some []
 |.val (.int j) a::l=>if k=j then (yGT k l).map λ r=>a::r else none
 |_=>none
def maxK(mx:Bool)(xs:List SV)(K:SV->Option R):Option R:=
 match xs with
 |[.val (.int k) a,.val (.int j) b]=>if k=j then K (.val (.int k) (if mx then (if b > a then b else a)else (if b < a then b else a)))else none
 |.val (.int k) a::l=>(yGT k l).bind λ r=>match r with
  |[b,c]=>K (.val (.int k) (if mx then imax (imax a b) c else imin (imin a b) c))
  |[b,c,d]=>K (.val (.int k) (if mx then imax (imax (imax a b) c) d else imin (imin (imin a b) c) d))
  |_=>none
 |_=>none
def y8p(g:G)(o:Oper):Bool:=
 match o.dst with
 |some d=>g.fz.contains d
 |none=>false
def y5r(g:G):Option Nat->Bool
 |some d=>g.muts.contains d
 |none=>false
def y59:List SV->Option (List Cap)
 |[]=>some []
 |.bptr β 0::l=>(y59 l).map λ cs=>.box β::cs
 |.val t y::l=>(y59 l).map λ cs=>.val t y::cs
 |_::_=>none
def Ty.keyOk:Ty->Bool
 |.str|.int _=>true
 |_=>false
def Ty.keyPart:Ty->Bool
 |.bool|.int _|.str=>true
 |_=>false
def Ty.keyF:Ty->Bool
 |.unit=>true
 |.pair a b=>a.keyPart && b.keyF
 |_=>false
def Ty.keyAll(k:Ty):Bool:=k.keyOk || k.keyF
def y0P(k v:Ty):List (k.den×v.den)->k.den->Option v.den
 |[],_=>none
 |p::l,x=>bif eqV k x p.1 then some p.2 else y0P k v l x
def y1K(k v:Ty):List (k.den×v.den)->k.den->v.den->List (k.den×v.den)
 |[],x,y=>[(x,y)]
 |p::l,x,y=>bif eqV k x p.1 then (x,y)::l else p::y1K k v l x y
def yAv(k v:Ty)(es:List (k.den×v.den))(x:k.den)(ok:Bool)(K:SV->Option R):Option R:=
 if ok then K (.tup (.pair v (.pair .bool .unit)) (((y0P k v es x).getD v.dflt),(y0P k v es x).isSome,()))else K (.val v ((y0P k v es x).getD v.dflt))
def y9v(cs:List (Option Chunk)):SV->Option TV
 |.val (.map k v) es=>some ⟨.map k v,es⟩
 |.mown β=>y5T cs β
 |_=>none
structure HoleV where
 k:Ty
 x:k.den
 u:Ty
 γ:Nat
def y7k(cs:List (Option Chunk)):SV->Option HoleV
 |.mown β=>(match cs.getD β none with|some (.mps k _ u _ (some q))=>some ⟨k,q.1,u,q.2⟩|_=>none)
 |_=>none
def yAs(g:G)(s:St)(f:FuncId)(first:List Operand)(K:SV->Option R):Option R:=
 match first,y6S g.E f with
 |[x],some ⟨_,.pair t a,r,m,_,_⟩=>bif t.solid then (y0e [] (y9 g.T 0 s x) t).bind λ y=>K (.val (.func a r) (λ z=>m (y,z)))else none
 |_,_=>none
def ptrK(sv:SV)(K:SV->Option R):Option R:=
 match sv with
 |.bptr β off=>K (.bptr β off)
 |.eptr β n sz off=>K (.eptr β n sz off)
 |.val (.ref t) y=>K (.val (.ref t) y)
 |_=>none
def y8l(cs:List (Option Chunk))(sv:SV)(K:SV->Option R):Option R:=
 match sv with
 |.own β=>(match cs.getD β none with
  |some (.arr _ (.int .u8) xs _)=>bif decide (0 < List.length xs)then K (.eptr β 0 1 0)else none
  |_=>none)
 |_=>none
def y7v(u:Ty)(o:Nat)(v:Ty)(x:u.den)(off:Nat)(τ:Ty)(β n:Nat)(K:SV->Option R):Option R:=
 if off=o/\τ.elemIs v=true then K (.nown β n)else
 (y0T u x o (.slice v) ([]:List v.den)).bind λ x0=>(y9K u x0 off τ).bind λ y=>if o < off\/off+y.t.size<=o then K (.val y.t y.x)else none
def yCT(g:G)(o:Oper)(sv:SV):SV:=
 if y8p g o then (match sv,yT g.T o.type with
  |.nils,some i=>(match i.ty with|.slice u=>.val (.slice u) ([]:List u.den)|_=>.nils)
  |sv,_=>sv)else sv
def yg(g:G)(s:St)(o:Oper)(K:SV->Option R):Option R:=
 match o.op with
 |.move x=>K (y9 g.T o.type s x)
 |.assign x=>K (yCT g o (y9 g.T o.type s x))
 |.pick c a b=>(match y9 g.T 0 s c with
  |.val .bool p=>bif p then K (y9 g.T o.type s a)else K (y9 g.T o.type s b)
  |_=>none)
 |.load t a=>if g.vl && !(y9 g.T 0 s a).isVal then none else (match yT g.T t,y9 g.T 0 s a with
  |some i,.val (.ref u) x=>(yJ9 u i.ty x).bind λ y=>K (.val y.t y.x)
  |some i,.bptr β off=>(match s.chunks.getD β none with
   |some (.box _ cells)=>if i.ty.agg then (y2F i.ty ((cells.drop off).take i.ty.size)).bind λ y=>K (.val i.ty y)else (cells[off]?).bind K
   |_=>none)
  |some i,.eptr β n sz off=>(match s.chunks.getD β none with
   |some (.arr _ u xs _)=>if sz=u.size then (xs[n]?).bind λ x=>(y9K u x off i.ty).bind λ y=>K (.val y.t y.x)else none
   |some (.nst _ u q _ v xs)=>if sz=u.size then (xs[n]?).bind λ x=>y7v u q v x off i.ty β n K else none
   |_=>none)
  |some i,.nptr β n j sz off=>(match s.chunks.getD β none with
   |some (.nst _ u q _ v xs)=>if sz=v.size then (xs[n]?).bind λ x=>(y10 u x q (.slice v)).bind λ ys=>((ys:List v.den)[j]?).bind λ y=>(y9K v y off i.ty).bind λ z=>K (.val z.t z.x)else none
   |_=>none)
  |_,_=>none)
 |.binOp op t x y _=>(match yT g.T t with
  |none=>none
  |some i=>(match i.ty,y9 g.T t s x,y,op with
   |.err,.val .err b,.const .nilIface,.eql=>K (.val .bool b)
   |.err,.val .err b,.const .nilIface,.neq=>K (.val .bool (!b))
   |ty,sx,y,op=>binK ty op sx (y9 g.T t s y) K))
 |.unOp op t x=>unK op (y9 g.T t s x) K
 |.convert sr d x=>if (yT g.T sr).isNone then none else (match yT g.T d,y9 g.T d s x with
  |some i,.val (.int _) n=>(match i.ty with|.int k=>K (.val (.int k) (k.wrap n))|.flt k=>K (.val (.flt k) (y17 k n))|.str=>K (.val .str (y3q n))|_=>none)
  |some i,.val .str b=>(match i.ty with|.str=>K (.val .str b)|_=>none)
  |some i,.val (.flt k) a=>(match i.ty with|.int j=>(yo k a j).bind λ n=>K (.val (.int j) n)|.flt j=>(y1e k a j).bind λ n=>K (.val (.flt j) n)|_=>none)
  |_,_=>none)
 |.field t x f=>(match yT g.T t,y9 g.T 0 s x with
  |some i,.val u y=>if u=i.ty then (y36 u y f).bind λ v=>K (.val v.t v.x)else none
  |some i,.srec β=>(match s.chunks.getD β none with
   |some (.rcd u cells)=>if u=i.ty/\i.ty.isPair=true then (i.fields[f]?).bind λ p=>(yT g.T p.2).bind λ j=>if j.ty.agg then (y2F j.ty ((cells.drop p.1).take j.ty.size)).bind λ y=>K (.val j.ty y)else (cells[p.1]?).bind K else none
   |_=>none)
  |_,_=>none)
 |.fieldAddr t x f=>(match yT g.T t,y9 g.T 0 s x with
  |some i,.val (.ref u) y=>if u=i.ty then (y36 u y f).bind λ v=>K (.val (.ref v.t) v.x)else none
  |some i,.bptr β off=>if i.ty.isPair then (i.fields[f]?).bind λ p=>K (.bptr β (off+p.1))else none
  |some i,.eptr β n sz off=>if i.ty.isPair then (i.fields[f]?).bind λ p=>K (.eptr β n sz (off+p.1))else none
  |some i,.nptr β n j sz off=>if i.ty.isPair then (i.fields[f]?).bind λ p=>K (.nptr β n j sz (off+p.1))else none
  |_,_=>none)
 |.indexAddr t x ix=>(match yT g.T t,y9 g.T 0 s ix,y9 g.T t s x with
  |some i,.val (.int _) n,.val (.slice u) xs=>if i.ty.elemIs u then (idx xs n).bind λ y=>K (.val (.ref u) y)else none
  |some i,.val (.int _) n,.val (.nslice u) xs=>if i.ty.elemIs u then (idx (Option.getD xs []) n).bind λ y=>K (.val (.ref u) y)else none
  |some i,.val (.int _) n,.val (.ref (.arr m u)) xs=>if i.ty=.arr m u then (idx xs n).bind λ y=>K (.val (.ref u) y)else none
  |some i,.val (.int _) n,.own β=>(match s.chunks.getD β none with
   |some (.arr _ u xs _)=>if i.ty.elemIs u then (idx xs n).bind λ _=>K (.eptr β n.toNat u.size 0)else none
   |some (.nst _ u _ _ _ xs)=>if i.ty.elemIs u then (idx xs n).bind λ _=>K (.eptr β n.toNat u.size 0)else none
   |_=>none)
  |some i,.val (.int _) n,.nown β m=>(match s.chunks.getD β none with
   |some (.nst _ u q _ v xs)=>if i.ty.elemIs v then (xs[m]?).bind λ x=>(y10 u x q (.slice v)).bind λ ys=>(idx (ys:List v.den) n).bind λ _=>K (.nptr β m n.toNat v.size 0)else none
   |_=>none)
  |some i,.val (.int _) n,.bptr β off=>(match i.ty with
    |.arr m u=>bif decide (0<=n) && decide (n < (m:Int))then K (.bptr β (off+n.toNat * u.size))else none
    |_=>none)
  |_,_,_=>none)
 |.index t x ix=>(match yT g.T t,y9 g.T 0 s ix,y9 g.T t s x with
  |some i,.val (.int _) n,.val .str b=>if i.ty=.str then (idx b n).bind λ c=>K (.val (.int .u8) (c.toNat:Int))else none
  |some i,.val (.int _) n,.val (.arr m u) xs=>if i.ty=.arr m u then (idx xs n).bind λ y=>K (.val u y)else none
  |_,_,_=>none)
 |.lookup t x ix ok=>(match yT g.T t,y9v s.chunks (y9 g.T t s x)with
  |some i,some ⟨.map k v,es⟩=>if i.ty=.map k v/\k.keyAll=true/\v.zok=true then (y0e [] (y9 g.T 0 s ix) k).bind λ y=>yAv k v es y ok K else none
  |some i,none=>(match y7k s.chunks (y9 g.T t s x)with
   |some hv=>if ok=false/\i.ty=.map hv.k (.slice hv.u)/\hv.k.keyOk=true then (y0e [] (y9 g.T 0 s ix) hv.k).bind λ y=>bif yHU hv.k hv.x y then K (.own hv.γ)else none else none
   |none=>none)
  |_,_=>none)
 |.extract x n=>(match y9 g.T 0 s x with
  |.tup t y=>(yGt t y n).bind λ v=>K (.val v.t v.x)
  |_=>none)
 |.box e x=>if y5r g o.dst then none else
  (match yT g.T e with
  |some i=>(y0e [] (y9 g.T e s x) i.ty).bind λ y=>K (.val (.ref i.ty) y)
  |none=>none)
 |.build t ps=>(match yT g.T t with
  |some i=>(match i.ty with
   |.arr n u=>if u.zok then (y3X g.E s g.T u i.elem ps.toList (List.replicate n u.dflt)).bind λ y=>K (.val (.arr n u) y)else none
   |.pair b c=>if (Ty.pair b c).zok then (y6N g.E s g.T i.fields (bty (y5r g o.dst) (ps.toList.map (·.1)) (.pair b c)) ps.toList (bty (y5r g o.dst) (ps.toList.map (·.1)) (.pair b c)).dflt).bind λ y=>K (.val (bty (y5r g o.dst) (ps.toList.map (·.1)) (.pair b c)) y)else none
   |_=>none)
  |none=>none)
 |.buildSlice t n ps=>if y5r g o.dst then none else
  (match yT g.T t with
  |some i=>(match i.ty with
   |.slice u=>if u.zok && decide (n * u.size<=16777216)then (y3X g.E s g.T u i.elem ps.toList (List.replicate n u.dflt)).bind λ y=>K (.val (.slice u) y)else none
   |_=>none)
  |none=>none)
 |.makeFunc (.func f) first caps=>if first.size=0 then (y59 (caps.toList.map λ x=>y9 g.T 0 s x)).bind λ cs=>K (.clo f cs)else if caps.size=0 then yAs g s f first.toList K else none
 |.slice t x lo hi mx=>(match mx,y7g g.T s lo,y7g g.T s hi with
  |none,some l,some h=>(match yT g.T t,y9 g.T t s x with
   |some i,.val (.slice u) xs=>if i.ty.elemIs u then y5a xs l h λ ys=>K (.val (.slice u) ys)else none
   |some i,.val (.nslice u) xs=>if i.ty.elemIs u then y5a (Option.getD xs []) l h λ ys=>K (.val (.slice u) ys)else none
   |some i,.val .str b=>if i.ty=.str then y5a b l h λ ys=>K (.val .str ys)else none
   |some i,.val (.ref (.arr n u)) xs=>if i.ty=.arr n u/\n<=maxLen then y5a (xs:List u.den) l h λ ys=>K (.val (.slice u) ys)else none
   |_,_=>none)
  |_,_,_=>none)
 |.call { callee:=.builtin b,args,argTypes }=>(match b with
  |.len=>(match args.toList,argTypes.toList with
   |[x],[t]=>(match yT g.T t with
    |some i=>lenK i.ty s.chunks (y9 g.T t s x) K
    |none=>none)
   |_,_=>none)
  |.max=>maxK true (args.toList.map λ x=>y9 g.T o.type s x) K
  |.min=>maxK false (args.toList.map λ x=>y9 g.T o.type s x) K
  |.complex=>yKr (args.toList.map λ x=>y9 g.T o.type s x) K
  |.real=>yIG (args.toList.map λ x=>y9 g.T o.type s x) K
  |.imag=>yJc (args.toList.map λ x=>y9 g.T o.type s x) K
  |.unsafeSliceData=>(match args.toList with
   |[x]=>y8l s.chunks (y9 g.T 0 s x) K
   |_=>none)
  |_=>none)
 |.nilCheck x=>ptrK (y9 g.T 0 s x) K
 |_=>none
inductive Tgt where
 | fn (n:FuncId)
 | round (info:LpInfo)
abbrev y0M (R:Type):=Tgt->List SV->St->(SV->St->Option R)->Option R
def y2R(T:List (TypeId×TyI))(s:St):List Operand->List TypeId->List SV
 |[],_=>[]
 |x::l,ts=>y9 T (ts.headD 0) s x::y2R T s l ts.tail
def yZS(s:St):Operand->Bool
 |.tmp t=>(match s.get t with
  |.own β=>(match s.chunks.getD β none with|some (.nst _ _ _ _ _ _)=>true|_=>false)
  |_=>false)
 |_=>false
def y11(g:G)(ta tr:Ty)(m:ta.den->Option tr.den)(s:St)(c:Call)(caps:St->List SV)(dr:Bool)(dst:Option Nat)(k:St->Option R):Option R:=
 if tr.flat && (dr || !(c.args.toList.any (yZS s)))then
  (y1N g.E s.chunks ta (y2R g.T s c.args.toList c.argTypes.toList++caps s)).bind λ x=>(m x).bind λ y=>k (s.put dst (yA0 tr y))
 else if dr then
  (y1N g.E [] ta (y2R g.T s c.args.toList c.argTypes.toList++caps s)).bind λ x=>(m x).bind λ y=>k (s.put dst (yA0 tr y))
 else
  let s':=settleAll (c.args.toList++(match c.callee with|.value f=>[f]|_=>[])) s
  (y1N g.E [] ta (y2R g.T s' c.args.toList c.argTypes.toList++caps s')).bind λ x=>(m x).bind λ y=>k (s'.put dst (yA0 tr y))
def y1U:List Cap->List SV
 |[]=>[]
 |.box β::cs=>.bptr β 0::y1U cs
 |.val t x::cs=>.val t x::y1U cs
def y0r(T:List (TypeId×TyI))(f:Operand)(s:St):List SV:=
 match y9 T 0 s f with
 |.clo _ caps=>y1U caps
 |_=>[]
def y0a:List Tmp->List SV->List SV->List SV
 |t::ps,x::xs,l=>y0a ps xs (l.set t x)
 |_,_,l=>l
def St.setLp(s:St)(β:Nat)(old st:LpSt):Option St:=
 match s.chunks.getD β none with
 |some (.lp i info cells st')=>if st'=old then some { s with chunks:=s.chunks.set β (some (.lp i info cells st)) }else none
 |_=>none
def y9M(g:G)(call:y0M R)(s:St)(o:Oper)(c:Call)(f:Operand)(β:Nat)(k:St->Option R):Option R:=
 match s.chunks.getD β none with
 |some (.lp i info cells .ready) =>
  let xs:=y2R g.T s c.args.toList c.argTypes.toList
  if xs.length=info.ps.size then
   call (.round info) (y0a info.ps.toList xs cells) { s with kept:=.yld β::s.kept } λ r s2 =>
    match s2.kept with
    |.yld β'::kept=>(match r with
     |.val .bool b=>k ({ s2 with kept:=kept }.put o.dst (.val .bool b))
     |_=>none)
    |_=>none
  else none
 |_=>none
def y3i(keep:List Nat):Nat->List SV->List SV
 |_,[]=>[]
 |i,sv::l=>(if keep.contains i then sv else .undef)::y3i keep (i+1) l
def St.live(s:St):Option (List Nat)->St
 |none=>s
 |some l=>{ s with sl:=.ofList (y3i l 0 s.slots) }
def yJJ(g:G)(d:Option Nat)(n:FuncId):Option Entry:=if y5r g d then none else y6S g.E n
def yDH(g:G)(call:y0M R)(dr:Bool)(s:St)(o:Oper)(c:Call)(f:Operand)(k:St->Option R):Option R:=
 match y9 g.T 0 s f with
 |.clo n _=>(match yJJ g o.dst n with
  |some e=>y11 g e.args e.ress e.m s c (y0r g.T f) dr o.dst k
  |none=>if dr then none else call (.fn n) (y2R g.T s c.args.toList c.argTypes.toList++y0r g.T f s) (s.live g.lv) λ r s'=>k (s'.put o.dst r))
 |.val (.func a b) m=>y11 g a b m s c (λ _=>[]) dr o.dst k
 |.yld β=>if dr then none else y9M g call s o c f β k
 |_=>none
def freezeIf(g:G)(s:St)(a:Operand):St:=
 match a with
 |.tmp p=>if g.fz.contains p then (match s.get p with|.bptr β _=>s.freeze β|_=>s)else s
 |_=>s
def y3Q(T:List (TypeId×TyI)):List TypeId->Option Ty
 |[]=>some .unit
 |t::l=>(yT T t).bind λ i=>(y3Q T l).map λ b=>.pair i.ty b
def y0N(T:List (TypeId×TyI)):List TypeId->Nat->List SV
 |[],_=>[]
 |t::l,m=>match yT T t with
  |none=>[]
  |some i=>match i.ty with
   |.slice _=>.own m::y0N T l (m+1)
   |u=>y0u u++y0N T l m
def yX(T:List (TypeId×TyI)):List TypeId->List (Option Chunk)
 |[]=>[]
 |t::l=>match yT T t with
  |none=>[]
  |some i=>match i.ty with
   |.slice u=>some (.arr i.elem u [] false)::yX T l
   |_=>yX T l
def y0z(t:Ty)(β e:Nat)(cells:List SV):List SV:=
 match t with
 |.pair (.ref .unit) _=>cells.set 0 (.mayp β e)
 |_=>cells
def y38(g:G)(s:St)(e:TypeId)(i:TyI)(d:Option Nat)(k:St->Option R):Option R:=
 match i.ty with
 |.slice _ =>
  let cs:=s.chunks++yX g.T [e]
  k ({ s with chunks:=cs++[some (Chunk.box i.ty (y0N g.T [e] s.chunks.length))] }.put d (.bptr cs.length 0))
 |_ =>
  let l:=i.fields.map (·.2)
  if y3Q g.T l=some i.ty then
   let cs:=s.chunks++yX g.T l
   k ({ s with chunks:=cs++[some (Chunk.box i.ty (y0z i.ty cs.length e (y0N g.T l s.chunks.length)))] }.put d (.bptr cs.length 0))
  else none
def yF8(T:List (TypeId×TyI))(e:TypeId)(sv:SV):Bool:=
 match sv,yT T e with
 |.nils,some i=>(match i.ty with|.slice _=>true|_=>false)
 |_,_=>false
def SV.scalar:SV->Bool
 |.tup _ _|.xval _ _|.undef|.gone|.srec _|.nown _ _|.nptr _ _ _ _ _=>false
 |.val u _=>!u.agg
 |_=>true
def putM(g:G)(s:St)(o:Oper)(t:TypeId)(m key x:Operand)(k:St->Option R):Option R:=none
def yWr(s:St):SV->Bool
 |.mown β=>(match s.chunks.getD β none with|some (.mps _ _ _ _ _)=>true|_=>false)
 |_=>false
def putK(g:G)(s:St)(o:Oper)(t:TypeId)(m key x:Operand)(k:St->Option R):Option R:=
 if yWr s (y9 g.T t s m)then putM g s o t m key x k else
 let s':=s.settle (y9 g.T 0 s x)
 match yT g.T t,y9 g.T t s' m with
 |some i,.mown β=>(match s'.chunks.getD β none with
  |some (.mp u v es)=>if i.ty=.map u v/\u.keyAll=true then
    (y0e [] (y9 g.T 0 s' key) u).bind λ y=>(y5q g.E [] (y9 g.T 0 s' x) v).bind λ z =>
     k ({ s' with chunks:=s'.chunks.set β (some (Chunk.mp u v (y1K u v es y z))) }.put o.dst .undef)
   else none
  |_=>none)
 |_,_=>none
def ye(bs:List UInt8)(q:Int):Int×Int:=(((Utf8.decode ⟨bs.toArray⟩ q.toNat).1:Int),q+((Utf8.decode ⟨bs.toArray⟩ q.toNat).2:Int))
def yNN(g:G)(s:St)(o:Oper)(it:Operand)(k:St->Option R):Option R:=
 match y9 g.T 0 s it with
 |.bptr β 0=>(match s.chunks.getD β none with
  |some (.it bs q)=>bif decide (q < (bs.length:Int))then
    k ({ s with chunks:=s.chunks.set β (some (Chunk.it bs (ye bs q).2)) }.put o.dst (.tup (.pair .bool (.pair (.int .i64) (.pair (.int .i32) .unit))) (true,q,(ye bs q).1,())))
   else k (s.put o.dst (.tup (.pair .bool .unit) (false,())))
  |_=>none)
 |_=>none
def yBw(T:List (TypeId×TyI))(t:TypeId):Bool:=
 match yT T t with
 |some i=>(match i.ty with|.str=>true|_=>false)
 |none=>false
def y29(bs:List UInt8):List Int:=bs.map λ (c:UInt8)=>(c.toNat:Int)
def y1Y(g:G)(s:St)(o:Oper)(b x:Operand)(t t':TypeId)(k:St->Option R):Option R:=
 match yT g.T t,y9 g.T 0 s b,y9 g.T t' s x with
 |some i,.own β,.val .str bs=>(match s.chunks.getD β none with
  |some (.arr e (.int .u8) xs nn)=>if i.elem=e/\i.ty=.slice (.int .u8)then
    bif decide (List.length xs+List.length bs<=memMax)then k ({ s with chunks:=s.chunks.set β none++[some (Chunk.arr e (.int .u8) (xs++y29 bs) nn)] }.put o.dst (.own s.chunks.length))else none
   else none
  |_=>none)
 |_,_,_=>none
def yA9(xs:List Int):Bool:=xs.all λ n=>decide (0<=n) && decide (n < 256)
def y3I(xs:List Int):List UInt8:=xs.map λ n=>UInt8.ofNat n.toNat
def y5R(g:G)(s:St)(o:Oper)(x n:Operand)(t:TypeId)(k:St->Option R):Option R:=
 match yT g.T t,y9 g.T 0 s x,y9 g.T 0 s n with
 |some i,.eptr β 0 1 0,.val (.int .i64) m=>(match s.chunks.getD β none with
  |some (.arr e (.int .u8) xs _)=>(match yT g.T e with
   |some j=>if i.ty=.ref (.int .u8)/\i.elem=e/\j.ty=.int .u8 then
     bif m == (List.length xs:Int) && decide (0 < List.length xs) && yA9 xs then k ({ s with chunks:=s.chunks.set β none }.put o.dst (.val .str (y3I xs)))else none
    else none
   |none=>none)
  |_=>none)
 |_,_,_=>none
def yAi:Ty->Ty->Bool
 |.nslice u,.slice v=>decide (u=v)
 |_,_=>false
def yK8:(a:Ty)->a.den->Bool
 |.nslice _,x=>Option.isNone x
 |_,_=>false
def y2P(T:List (TypeId×TyI)):List TypeId->(u:Ty)->u.den->Nat->Option (List SV×List TypeId)
 |[],.unit,_,_=>some ([],[])
 |τ::l,.pair a b,x,m=>(yT T τ).bind λ i =>
  if a=i.ty then (y2P T l b x.2 m).map λ p=>(y0V a x.1++p.1,p.2)
  else if yAi a i.ty && yK8 a x.1 then (y2P T l b x.2 (m+1)).map λ p=>(.own m::p.1,τ::p.2)
  else none
 |_,_,_,_=>none
def y3x(g:G)(s:St)(o:Oper)(i:TyI)(a:Operand)(β off:Nat)(u:Ty)(cells:List SV)(sv:SV)(k:St->Option R):Option R:=
 match sv with
 |.val w y=>(y2P g.T (i.fields.map (·.2)) w y s.chunks.length).bind λ p =>
  if y3Q g.T (i.fields.map (·.2))=some i.ty/\off+i.ty.size<=cells.length then
   k (freezeIf g ({ s with chunks:=(s.chunks++yX g.T p.2).set β (some (Chunk.box u (cells.take off++p.1++cells.drop (off+i.ty.size)))) }.put o.dst .undef) a)
  else none
 |_=>none
def toX:SV->SV
 |.val t x=>if t.isSlice then .xval t x else .val t x
 |sv=>sv
def xOf(sv:SV)(t:Ty):Option t.den:=
 match sv with
 |.xval u x=>conv u t x
 |_=>none
def yaz(T:List (TypeId×TyI))(e:TypeId):Option (Nat×TypeId×Ty):=
 (yT T e).bind λ i=>match i.ty with
  |.slice u=>some (0,i.elem,u)
  |.pair _ _=>i.fields.findSome? λ p=>(yT T p.2).bind λ j=>match j.ty with|.slice u=>some (p.1,j.elem,u)|_=>none
  |_=>none
def yCn(E:List Entry)(s:St)(T:List (TypeId×TyI))(tys:List (Nat×TypeId)):List (Nat×Operand)->List SV->Option (List SV)
 |[],cells=>some cells
 |p::ps,cells=>(tys[p.1]?).bind λ q=>(yT T q.2).bind λ i =>
  (if i.ty.agg then (y0e [] (y9 T q.2 s p.2) i.ty).map (y0V i.ty)else if (asFn E i.ty (y9 T q.2 s p.2)).scalar then some [asFn E i.ty (y9 T q.2 s p.2)]else none).bind λ svs =>
   if q.1+svs.length<=cells.length then yCn E s T tys ps (cells.take q.1++svs++cells.drop (q.1+svs.length))else none
def y3b(g:G)(s:St)(o:Oper)(t:TypeId)(ps:Array (Nat×Operand))(k:St->Option R):Option R:=
 match yT g.T t with
 |some i=>if i.ty.isPair && i.ty.zok then (yCn g.E s g.T i.fields ps.toList (y0u i.ty)).bind λ cells=>k ({ s with chunks:=s.chunks++[some (Chunk.rcd i.ty cells)] }.put o.dst (.srec s.chunks.length))else none
 |none=>none
def yJV(s:St)(ps:List (Nat×Operand)):Bool:=
 match ps with
 |[(0,.tmp x)]=>(match s.get x with|.srec _=>true|_=>false)
 |_=>false
def y3p(g:G)(s:St)(o:Oper)(t:TypeId)(n:Nat)(ps:List (Nat×Operand))(k:St->Option R):Option R:=none
def yTi(cs:List (Option Chunk))(sv:SV):Bool:=
 match sv with
 |.own β=>(match cs.getD β none with|some (.nst _ _ _ _ _ _)=>true|_=>false)
 |_=>false
def y21(g:G)(s:St)(o:Oper)(b x:Operand)(t t':TypeId)(k:St->Option R):Option R:=none
def yAR(u:Ty)(o:Nat)(v:Ty)(y:u.den)(off:Nat)(τ:Ty)(z:τ.den):Option u.den:=
 (y10 u y o (.slice v)).bind λ ys=>(y0T u y o (.slice v) ([]:List v.den)).bind λ y0=>(y0T u y0 off τ z).bind λ y1=>if o < off\/off+τ.size<=o then y0T u y1 o (.slice v) ys else none
def yCH(D:List Nat)(cs:List (Option Chunk)):List (Option Chunk):=D.foldl (λ cs β=>cs.set β none) cs
def toN(β N:Nat):SV->SV
 |.own γ=>if γ=β then .own N else .own γ
 |.eptr γ i sz off=>if γ=β then .eptr N i sz off else .eptr γ i sz off
 |.osub γ n sz=>if γ=β then .undef else .osub γ n sz
 |.nown γ i=>if γ=β then .undef else .nown γ i
 |.nptr γ i j sz off=>if γ=β then .undef else .nptr γ i j sz off
 |sv=>sv
def St.mapS(s:St)(f:SV->SV):St:={ s with sl:=s.sl.map f,chunks:=s.chunks.map (Option.map (Chunk.map f)),kept:=s.kept.map f }
def yJD(s:St)(β off:Nat)(sv:SV):Bool:=
 match sv,s.chunks.getD β none with
 |.own γ,some (.nst _ _ q _ _ _)=>decide (off=q) && (match s.chunks.getD γ none with|some (.arr _ _ _ _)=>true|_=>false)
 |_,_=>false
def yHy(s:St)(o:Oper)(i:TyI)(β n sz off:Nat)(sv:SV)(k:St->Option R):Option R:=
 match sv,s.chunks.getD β none with
 |.own γ,some (.nst e u q e' v xs)=>(match s.chunks.getD γ none with
  |some (.arr e1 v1 ys _)=>if sz=u.size/\off=q/\e1=e'/\i.ty=.slice v/\β≠γ then
    (xs[n]?).bind λ x=>(y3R (.slice v1) (.slice v) ys).bind λ ys=>(y0T u x q (.slice v) ys).bind λ x' =>
     k (({ s with chunks:=yCH [β,γ] s.chunks++[some (Chunk.nst e u q e' v (xs.set n x'))] }.mapS (toN β s.chunks.length)).put o.dst .undef)
   else none
  |_=>none)
 |_,_=>none
def y4C(g:G)(s:St)(o:Oper)(i:TyI)(u:Ty)(n m:Int)(k:St->Option R):Option R:=
 bif u.zok && decide (0<=n) && decide (n<=(memMax:Int)) && n == m then
  (yaz g.T i.elem).bind λ q=>(y0T u u.dflt q.1 (.slice q.2.2) ([]:List q.2.2.den)).bind λ d =>
   k ({ s with chunks:=s.chunks++[some (Chunk.nst i.elem u q.1 q.2.1 q.2.2 (List.replicate n.toNat d))] }.put o.dst (.own s.chunks.length))
 else none
def y8y(s:St)(o:Oper)(i:TyI)(β m:Nat)(sv:SV)(k:St->Option R):Option R:=
 match s.chunks.getD β none with
 |some (.nst e u q e' v xs)=>if i.ty=.slice v then
   (xs[m]?).bind λ x=>(y10 u x q (.slice v)).bind λ zs=>(y0e [] sv (.slice v)).bind λ ys=>(y0T u x q (.slice v) ys).bind λ x' =>
    bif decide (List.length ys=List.length (show List v.den from zs))then k ({ s with chunks:=s.chunks.set β (some (Chunk.nst e u q e' v (xs.set m x'))) }.put o.dst (.val (.int .i64) ((List.length ys:Nat):Int)))else none
  else none
 |_=>none
def yUi:SV->Option Nat
 |.yld β=>some β
 |_=>none
def y74(cs:List (Option Chunk))(t:Ty)(sv:SV):Option (List SV):=
 match sv with
 |.srec β=>(match cs.getD β none with
  |some (.rcd u cells)=>if u=t/\cells.all SV.scalar=true then some cells else none
  |_=>none)
 |_=>none
def effK(g:G)(s:St)(o:Oper)(k:St->Option R):Option R:=
 match o.op with
 |.box e x=>if yF8 g.T e (y9 g.T e s x)then (match yT g.T e with
  |some i=>y38 g s e i o.dst k
  |none=>none)else
  (match yUi (y9 g.T e s x)with
  |some β=>(match yT g.T e with
   |some i=>k ({ s with chunks:=s.chunks++[some (Chunk.box i.ty [.yld β])] }.put o.dst (.bptr s.chunks.length 0))
   |none=>none)
  |none =>
  let s:=s.settle (y9 g.T e s x)
  (match yT g.T e with
  |some i=>(y0e [] (y9 g.T e s x) i.ty).bind λ y=>k ({ s with chunks:=s.chunks++[some (Chunk.box i.ty (y0V i.ty y))] }.put o.dst (.bptr s.chunks.length 0))
  |none=>none))
 |.alloc e=>(match yT g.T e with
  |some i=>if y5r g o.dst then y38 g s e i o.dst k else k ({ s with chunks:=s.chunks++[some (Chunk.box i.ty (y0u i.ty))] }.put o.dst (.bptr s.chunks.length 0))
  |none=>none)
 |.store t a x=>(match yT g.T t,y9 g.T 0 s a with
  |some i,.bptr β off=>(match s.chunks.getD β none with
   |some (.box u cells) =>
    if i.ty.agg then
     match xOf (y9 g.T t s x) i.ty with
     |some y=>if off+i.ty.size<=cells.length then k (freezeIf g ({ s with chunks:=s.chunks.set β (some (Chunk.box u (cells.take off++(y0V i.ty y).map toX++cells.drop (off+i.ty.size)))) }.put o.dst .undef) a)else none
     |none =>
     match y74 s.chunks i.ty (y9 g.T t s x)with
     |some svs=>if off+i.ty.size<=cells.length/\svs.length=i.ty.size then k (freezeIf g ({ s with chunks:=s.chunks.set β (some (Chunk.box u (cells.take off++svs++cells.drop (off+i.ty.size)))) }.put o.dst .undef) a)else none
     |none =>
     match y0e [] (y9 g.T t s x) i.ty with
     |some y=>if off+i.ty.size<=cells.length then k (freezeIf g ({ s with chunks:=s.chunks.set β (some (Chunk.box u (cells.take off++y0V i.ty y++cells.drop (off+i.ty.size)))) }.put o.dst .undef) a)else none
     |none=>y3x g s o i a β off u cells (y9 g.T t s x) k
    else if (asFn g.E i.ty (y9 g.T t s x)).scalar/\off < cells.length then
     k (freezeIf g ({ s with chunks:=s.chunks.set β (some (Chunk.box u (cells.set off (asFn g.E i.ty (y9 g.T t s x))))) }.put o.dst .undef) a)
    else none
   |_=>none)
  |some i,.eptr β n sz off=>if yJD s β off (y9 g.T t s x)then yHy s o i β n sz off (y9 g.T t s x) k else
   let s':=s.settle (y9 g.T t s x)
   (match s'.chunks.getD β none with
   |some (.arr e u xs nn)=>if sz=u.size then (xs[n]?).bind λ y=>(y0e [] (y9 g.T t s' x) i.ty).bind λ z=>(y0T u y off i.ty z).bind λ y' =>
     k ({ s' with chunks:=s'.chunks.set β (some (Chunk.arr e u (xs.set n y') nn)) }.put o.dst .undef)else none
   |some (.nst e u q e' v xs)=>if sz=u.size then (xs[n]?).bind λ y=>(y0e [] (y9 g.T t s' x) i.ty).bind λ z=>(yAR u q v y off i.ty z).bind λ y' =>
     k ({ s' with chunks:=s'.chunks.set β (some (Chunk.nst e u q e' v (xs.set n y'))) }.put o.dst .undef)else none
   |_=>none)
  |some i,.nptr β n j sz off =>
   let s':=s.settle (y9 g.T t s x)
   (match s'.chunks.getD β none with
   |some (.nst e u q e' v xs)=>if sz=v.size then (xs[n]?).bind λ y=>(y10 u y q (.slice v)).bind λ ys=>((ys:List v.den)[j]?).bind λ z0=>(y0e [] (y9 g.T t s' x) i.ty).bind λ z=>(y0T v z0 off i.ty z).bind λ z' =>
     (y0T u y q (.slice v) ((ys:List v.den).set j z')).bind λ y'=>k ({ s' with chunks:=s'.chunks.set β (some (Chunk.nst e u q e' v (xs.set n y'))) }.put o.dst .undef)else none
   |_=>none)
  |_,_=>none)
 |.build t ps=>y3b g s o t ps k
 |.makeMap t none=>(match yT g.T t with
  |some i=>(match i.ty with
   |.map u v=>if (match o.dst with|some d=>g.fz.contains d|none=>false)then (match v with
     |.slice w=>k ({ s with chunks:=s.chunks++[some (Chunk.mps u i.elem w [] none)] }.put o.dst (.mown s.chunks.length))
     |_=>none)
    else k ({ s with chunks:=s.chunks++[some (Chunk.mp u v [])] }.put o.dst (.mown s.chunks.length))
   |_=>none)
  |none=>none)
 |.range t x=>(match yT g.T t,y9 g.T t s x with
  |some i,.val .str bs=>if i.ty=.str then k ({ s with chunks:=s.chunks++[some (Chunk.it bs 0)] }.put o.dst (.bptr s.chunks.length 0))else none
  |_,_=>none)
 |.next it true=>yNN g s o it k
 |.insert t m key x=>putK g s o t m key x k
 |.mapUpdate t m key x=>putK g s o t m key x k
 |.makeSlice t l c=>(match yT g.T t,y9 g.T 0 s l,y9 g.T 0 s c with
  |some i,.val (.int .i64) n,.val (.int .i64) m=>(match i.ty with
   |.slice u=>if y8p g o then y4C g s o i u n m k else bif u.zok && decide (0<=n) && decide (n<=(memMax:Int)) && n == m then k ({ s with chunks:=s.chunks++[some (Chunk.arr i.elem u (List.replicate n.toNat u.dflt) true)] }.put o.dst (.own s.chunks.length))else none
   |_=>none)
  |_,_,_=>none)
 |.buildSlice t n ps=>if yJV s ps.toList then y3p g s o t n ps.toList k else
  let s':=settleAll (ps.toList.map (·.2)) s
  (match yT g.T t with
  |some i=>(match i.ty with
   |.slice u=>if !(u.zok && decide (n * u.size<=16777216))then none else (y3X g.E s' g.T u i.elem ps.toList (List.replicate n u.dflt)).bind λ y=>k ({ s' with chunks:=s'.chunks++[some (Chunk.arr i.elem u y (!y8p g o))] }.put o.dst (.own s'.chunks.length))
   |_=>none)
  |none=>none)
 |.assign (.const (.slice none 0 0))=>(match yT g.T o.type with
  |some i=>(match i.ty with
   |.slice u=>if y8p g o then (yaz g.T i.elem).bind λ q=>k ({ s with chunks:=s.chunks++[some (Chunk.nst i.elem u q.1 q.2.1 q.2.2 [])] }.put o.dst (.own s.chunks.length))
    else k ({ s with chunks:=s.chunks++[some (Chunk.arr i.elem u [] false)] }.put o.dst (.own s.chunks.length))
   |_=>none)
  |none=>none)
 |.slice t x (some lo) none none=>(match yT g.T t,y9 g.T t s x,y9 g.T 0 s lo with
  |some i,.own β,.val (.int _) n=>(match s.chunks.getD β none with
   |some (.arr _ u xs _)=>if i.ty.elemIs u then
     bif decide (0<=n) && decide (n<=(List.length xs:Int))then k (s.put o.dst (.osub β n.toNat u.size))else none
    else none
   |_=>none)
  |_,_,_=>none)
 |.call { callee:=.builtin .unsafeString,args,argTypes }=>(match args.toList,argTypes.toList with
  |[x,n],[t,_]=>y5R g s o x n t k
  |_,_=>none)
 |.call { callee:=.builtin .append,args,argTypes }=>(match args.toList,argTypes.toList with
  |[b,x],[t,t']=>if yBw g.T t' then y1Y g s o b x t t' k else if yTi s.chunks (y9 g.T 0 s b)then y21 g s o b x t t' k else
   let s':=s.settle (y9 g.T t' s x)
   (match yT g.T t,y9 g.T 0 s' b with
   |some i,.own β=>(match s'.chunks.getD β none with
    |some (.arr e u xs nn)=>if i.elem=e/\i.ty=.slice u/\t'=t then
      (y0e [] (y9 g.T t' s' x) (.slice u)).bind λ ys =>
       bif decide (xs.length+List.length ys<=memMax)then k ({ s' with chunks:=s'.chunks.set β none++[some (Chunk.arr e u (xs++ys) nn)] }.put o.dst (.own s'.chunks.length))else none
     else none
    |_=>none)
   |some i,.xval (.slice u) xs=>if i.ty=.slice u/\t'=t then
      (y0e [] (y9 g.T t' s' x) (.slice u)).bind λ ys =>
       bif decide (0 < List.length xs) && decide (0 < List.length ys) && decide (List.length xs+List.length ys<=memMax)then k ({ s' with chunks:=s'.chunks++[some (Chunk.arr i.elem u ((xs:List u.den)++ys) true)] }.put o.dst (.own s'.chunks.length))else none
     else none
   |_,_=>none)
  |_,_=>none)
 |.call { callee:=.builtin .copy,args,argTypes }=>(match args.toList,argTypes.toList with
  |[b,x],[t,t'] =>
   let s':=s.settle (y9 g.T t' s x)
   (match yT g.T t,y9 g.T 0 s' b with
   |some i,.own β=>(match s'.chunks.getD β none with
    |some (.arr e u xs nn)=>if i.ty=.slice u then
      (y0e [] (y9 g.T t' s' x) (.slice u)).bind λ ys =>
       k ({ s' with chunks:=s'.chunks.set β (some (Chunk.arr e u ((ys:List u.den).take xs.length++xs.drop (List.length ys)) nn)) }.put o.dst (.val (.int .i64) ((min (List.length ys) xs.length:Nat):Int)))
     else none
    |_=>none)
   |some i,.nown β m=>y8y s' o i β m (y9 g.T t' s' x) k
   |some i,.osub β n sz=>(match s'.chunks.getD β none with
    |some (.arr e u xs nn)=>if i.ty=.slice u/\sz=u.size then
      (y0e [] (y9 g.T t' s' x) (.slice u)).bind λ ys =>
       k ({ s' with chunks:=s'.chunks.set β (some (Chunk.arr e u (xs.take n++(ys:List u.den).take (xs.length - n)++xs.drop (n+min (List.length ys) (xs.length - n))) nn)) }.put o.dst (.val (.int .i64) ((min (List.length ys) (xs.length - n):Nat):Int)))
     else none
    |_=>none)
   |_,_=>none)
  |_,_=>none)
 |_=>none
def y2V(g:G)(o:Oper):Option (TypeId×Ty):=
 match o.op with
 |.call { callee:=.value (.func n),.. }=>if y5r g o.dst then (y6S g.E n).bind (·.own)else none
 |_=>none
def ownK(g:G)(s:St)(o:Oper)(q:TypeId×Ty)(k:St->Option R):Option R:=
 match o.op with
 |.call { callee:=.value (.func _),args,argTypes }=>(match args.toList,argTypes.toList with
  |[x],[t] =>
   let s':=s.settle (y9 g.T t s x)
   (y0e [] (y9 g.T t s' x) (.slice q.2)).bind λ ys =>
    bif decide (List.length ys<=memMax)then k ({ s' with chunks:=s'.chunks++[some (Chunk.arr q.1 q.2 ys false)] }.put o.dst (.own s'.chunks.length))else none
  |_,_=>none)
 |_=>none
def y92(g:G)(o:Oper):Option TV:=
 match o.op with
 |.call { callee:=.value (.func n),args,.. }=>if (match o.dst with|some d=>g.fz.contains d|none=>false) && args.size == 0 then (y6S g.E n).bind (·.ex)else none
 |_=>none
def effX(g:G)(s:St)(o:Oper)(k:St->Option R):Option R:=
 match y2V g o with
 |some q=>ownK g s o q k
 |none=>(match y92 g o with
  |some q=>k (s.put o.dst (.xval q.t q.x))
  |none=>effK g s o k)
def y1f(g:G)(o:Oper):Bool:=
 let m:=y5r g o.dst
 (y2V g o).isSome || (y92 g o).isSome || match o.op with
 |.alloc _|.store _ _ _|.makeSlice _ _ _|.makeMap _ _|.insert _ _ _ _|.mapUpdate _ _ _ _|.range _ _|.next _ _=>true
 |.box _ _|.buildSlice _ _ _|.slice _ _ _ _ _=>m
 |.assign (.const (.slice none 0 0))=>m
 |.build _ _=>m && y8p g o
 |.call { callee:=.builtin .append,.. }|.call { callee:=.builtin .copy,.. }|.call { callee:=.builtin .unsafeString,.. }=>true
 |_=>false
def yEf(o:Oper):List Operand:=
 match o.op with
 |.build _ ps|.buildSlice _ _ ps=>ps.toList.map (·.2)
 |.box _ x=>[x]
 |.makeFunc _ first _=>first.toList
 |_=>[]
def settleCells:List SV->St->St
 |[],s=>s
 |sv::l,s=>settleCells l (s.settle sv)
def St.settleIn(s:St):SV->St
 |.bptr β _=>(match s.chunks.getD β none with|some (.box _ cells)=>settleCells cells s|_=>s)
 |_=>s
def preK(g:G)(o:Oper)(s:St):St:=
 match o.op with
 |.load t a=>(match yT g.T t with
  |some i=>if i.ty.agg then s.settleIn (y9 g.T 0 s a)else s
  |none=>s)
 |_=>s
def apAt(g:G)(d:Option Nat):Option (Option Nat×Nat):=d.bind λ t=>(g.ap.find? λ p=>p.1 == t).map (·.2)
def y4x(g:G)(s:St)(o:Oper)(k:St->Option R):Option R:=
 match o.op with
 |.alloc e=>if y5r g o.dst || (apAt g o.dst).isSome then none else (match yT g.T e with
  |some i=>k ({ s with chunks:=s.chunks++[some (Chunk.box i.ty (y0u i.ty))] }.put o.dst (.bptr s.chunks.length 0))
  |none=>none)
 |_=>none
def y5S(g:G)(s:St)(o:Oper)(k:St->Option R):Option R:=
 match o.op with
 |.store t (.tmp p) x=>if g.fz.contains p then none else (match yT g.T t,s.get p with
  |some i,.bptr β off=>(match s.chunks.getD β none with
   |some (.box u cells) =>
    if i.ty.agg then
     (y0e [] (y9 g.T t s x) i.ty).bind λ y=>if off+i.ty.size<=cells.length then k ({ s with chunks:=s.chunks.set β (some (Chunk.box u (cells.take off++y0V i.ty y++cells.drop (off+i.ty.size)))) }.put o.dst .undef)else none
    else if (asFn g.E i.ty (y9 g.T t s x)).scalar/\off < cells.length then
     k ({ s with chunks:=s.chunks.set β (some (Chunk.box u (cells.set off (asFn g.E i.ty (y9 g.T t s x))))) }.put o.dst .undef)
    else none
   |_=>none)
  |some i,.eptr β n sz off=>(match s.chunks.getD β none with
   |some (.arr e u xs nn)=>if sz=u.size then (xs[n]?).bind λ y=>(y0e [] (y9 g.T t s x) i.ty).bind λ z=>(y0T u y off i.ty z).bind λ y' =>
     k ({ s with chunks:=s.chunks.set β (some (Chunk.arr e u (xs.set n y') nn)) }.put o.dst .undef)else none
   |_=>none)
  |_,_=>none)
 |_=>none
def y0l(o:Oper):Bool:=match o.op with|.alloc _=>true|_=>false
def SV.names:SV->List Nat
 |.bptr β _|.own β|.eptr β _ _ _|.mown β|.yld β|.mayp β _|.osub β _ _|.srec β|.nown β _|.nptr β _ _ _ _=>[β]
 |.clo _ caps=>caps.filterMap λ|.box β=>some β|_=>none
 |_=>[]
def SV.has(r:Nat)(sv:SV):Bool:=sv.names.contains r
def Chunk.has(r:Nat):Chunk->Bool
 |.box _ cells=>cells.any (SV.has r)
 |.lp _ _ cells _=>cells.any (SV.has r)
 |.rcd _ cells=>cells.any (SV.has r)
 |.mps _ _ _ _ (some q)=>q.2 == r
 |_=>false
def y4c(r:Nat)(s:St):Bool:=s.slots.all (λ sv=>!sv.has r) && s.kept.all (λ sv=>!sv.has r) && s.chunks.all (λ c=>match c with|some c=>!c.has r|none=>true)
def exe(s:St)(p:Nat×Option Nat×Nat):Bool:=s.sl.has p.1 && (match s.get p.1 with|.own γ=>γ == p.2.2|_=>false)
def y0O(g:G)(s:St):Bool:=g.ap.all λ p=>exe s p || (decide (p.2.2 < s.chunks.length) && (s.chunks.getD p.2.2 none).isNone && y4c p.2.2 s)
def kl(cs:List (Option Chunk)):Option Nat->List (Option Chunk)
 |some β=>cs.set β none
 |none=>cs
def mskL:List (Nat×Option Nat×Nat)->List (Option Chunk)->List (Option Chunk)
 |[],cs=>cs
 |p::l,cs=>mskL l ((kl cs p.2.1).set p.2.2 none)
def msk(g:G)(s:St):St:={ s with chunks:=mskL g.ap s.chunks }
def y1O(g:G)(s:St)(o:Oper):Bool:=
 match o.op with
 |.field _ x _=>(match y9 g.T 0 s x with|.srec _=>true|_=>false)
 |_=>false
def y7U(g:G)(s:St)(o:Oper)(K:SV->Option R):Option R:=if y1O g s o then none else yg g (msk g s) o K
def y0x(s:St)(l:List Operand):Bool:=l.any λ x=>match x with|.tmp t=>(match s.get t with|.own _|.mown _|.clo _ _|.srec _|.nown _ _=>true|_=>false)|_=>false
def y2t(g:G)(o:Oper):Bool:=
 (y2V g o).isSome || match o.op with
 |.buildSlice _ _ _=>true
 |.call { callee:=.builtin .append,.. }=>true
 |_=>false
def cq(fin:Bool)(e:TypeId)(u:Ty)(xs:List u.den)(nn:Bool):Option Chunk:=if fin then none else some (Chunk.arr e u xs nn)
def vq(fin:Bool)(q:Nat)(u:Ty)(xs:List u.den)(nn:Bool):SV:=if fin then (if nn then .val (.nslice u) (some xs)else .val (.slice u) xs)else .own q
def y7x(s:St)(o:Oper)(kill:Option Nat)(r:Nat):Bool:=match o.dst with|some d=>s.sl.has d && !exe s (d,kill,r)|none=>false
def y1S(g:G)(s:St)(o:Oper):Bool:=g.ap.isEmpty || (match apAt g o.dst with|some q=>y1f g o && y2t g o && y7x s o q.1 q.2|none=>true)
def newD(g:G)(s:St)(o:Oper)(k:St->Option R):Option R:=
 match apAt g o.dst with
 |none=>none
 |some (kill,r)=>if y7x s o kill r then
  match o.op,kill with
  |.buildSlice t n ps,none=>(match yT g.T t with
   |some i=>(match i.ty with
    |.slice u=>if !(u.zok && decide (n * u.size<=16777216)) || y0x s (ps.toList.map (·.2))then none else (y3X g.E s g.T u i.elem ps.toList (List.replicate n u.dflt)).bind λ y=>k ({ s with chunks:=s.chunks.set r (some (Chunk.arr i.elem u y (!y8p g o))) }.put o.dst (.own r))
    |_=>none)
   |none=>none)
  |.call { callee:=.builtin .append,args,argTypes },some β=>(match args.toList,argTypes.toList with
   |[b,x],[t,t']=>if yBw g.T t' || y0x s [x]then none else
    (match yT g.T t,y9 g.T 0 s b with
    |some i,.own γ=>if γ=β/\β < r then (match s.chunks.getD β none with
     |some (.arr e u xs nn)=>if i.elem=e/\i.ty=.slice u/\t'=t then
       (y0e [] (y9 g.T t' s x) (.slice u)).bind λ ys =>
        bif decide (xs.length+List.length ys<=memMax)then k ({ s with chunks:=(s.chunks.set β none).set r (cq (y8p g o) e u (xs++ys) nn) }.put o.dst (vq (y8p g o) r u (xs++ys) nn))else none
      else none
     |_=>none)else none
    |_,_=>none)
   |_,_=>none)
  |.call { callee:=.value (.func _),args,argTypes },none=>(match y2V g o,args.toList,argTypes.toList with
   |some q,[x],[t]=>if y0x s [x]then none else
    (y0e [] (y9 g.T t s x) (.slice q.2)).bind λ ys =>
     bif decide (List.length ys<=memMax)then k ({ s with chunks:=s.chunks.set r (some (Chunk.arr q.1 q.2 ys false)) }.put o.dst (.own r))else none
   |_,_,_=>none)
  |_,_=>none
  else none
def effD(g:G)(s:St)(o:Oper)(k:St->Option R):Option R:=if y2t g o then newD g s o k else if y0l o then y4x g s o k else if g.ap.isEmpty then y5S g s o k else none
def okD(g:G)(o:Oper)(sv:SV):Bool:=g.ap.all λ p=>!sv.has p.2.2 && o.dst != some p.1
def yGC(o:Oper):Bool:=
 match o.op with
 |.move _|.assign _|.pick _ _ _|.binOp _ _ _ _ _|.unOp _ _ _|.convert _ _ _|.field _ _ _|.extract _ _|.fieldAddr _ _ _=>true
 |_=>false
def yPF(o:Oper):Bool:=match o.op with|.load _ _=>true|_=>false
def yJN(g:G)(o:Oper):Bool:=yGC o || (g.vl && yPF o)
def y0G(g:G)(call:y0M R)(dr:Bool)(s:St)(o:Oper)(k:St->Option R):Option R:=
 if y1f g o then (if dr then effD g s o k else effX g s o k)
 else let s:=if dr then s else preK g o (settleAll (yEf o) s)
 match o.op with
  |.call { callee:=.value f,args,argTypes }=>if dr && !g.ap.isEmpty then none else yDH g call dr s o { callee:=.value f,args,argTypes } f k
  |_=>if dr then y7U g s o λ sv=>if okD g o sv then k (s.put o.dst sv)else none else yg g s o λ sv=>k (s.put o.dst sv)
def y5U(ops:Array Oper)(s:St)(j:Nat):Option (Option Bool):=
 match (ops[j]?).bind (·.dst)with
 |some t=>(match s.get t with|.val .bool b=>some (some b)|.gone=>some none|_=>none)
 |none=>none
def setG(ops:Array Oper)(s:St)(j:Nat)(b:Bool):St:=
 match (ops[j]?).bind (·.dst)with
 |some t=>s.put (some t) (.val .bool b)
 |none=>s
def y0i(g:G)(call:y0M R)(dr:Bool)(ops:Array Oper):List Oper->St->(St->Option R)->Option R
 |[],s,k=>k s
 |o::l,s,k =>
  match o.guard with
  |none=>y0G g call dr s o λ s'=>y0i g call dr ops l s' k
  |some (j,want)=>(y5U ops s j).bind λ ob=>match ob with
   |none=>bif dr && !y1S g s o then none else y0i g call dr ops l (s.put o.dst .gone) k
   |some b=>bif want
    then (bif b then y0G g call dr (setG ops s j true) o λ s'=>y0i g call dr ops l s' k else (bif dr && !y1S g (setG ops s j false) o then none else y0i g call dr ops l ((setG ops s j false).put o.dst .gone) k))
    else (bif b then (bif dr && !y1S g (setG ops s j true) o then none else y0i g call dr ops l ((setG ops s j true).put o.dst .gone) k)else y0G g call dr (setG ops s j false) o λ s'=>y0i g call dr ops l s' k)
def yFC(md:Region.Mode)(acc:List Nat)(l:List Edge):Nat:=l.foldl (λ s e=>if Region.binds md e then (s ||| 2 ^ e.on) ||| acc.getD e.on 0 else s) 0
def yJw(md:Region.Mode):List Oper->List Nat->List Nat
 |[],acc=>acc
 |o::l,acc=>yJw md l (acc++[yFC md acc o.after.toList])
def y2p(ms:List Nat)(j i:Nat):Bool:=Nat.testBit (ms.getD j 0) i
def yPe(ms:List Nat)(i:Nat):Bool:=(List.range i).all λ j=>y2p ms i j
def apLt(g:G)(o q:Oper):Bool:=match apAt g o.dst,apAt g q.dst with|some a,some b=>decide (a.2 < b.2)|_,_=>false
def yMH(g:G)(ms:List Nat)(ops:Array Oper)(o:Oper)(i:Nat):Bool:=
 !y1f g o || ((List.range ops.size).all λ j=>decide (j=i) || (if i < j
  then y2p ms j i || (y2t g o && !g.ap.isEmpty && (match ops[j]? with|some q=>!y1f g q || y0l q || y2t g q && apLt g o q|none=>true))
  else y2p ms i j || y0l o || (match ops[j]? with|some q=>yJN g q || (y2t g o && !g.ap.isEmpty)|none=>true)))
def yEY(ms:List Nat)(n:Nat):Nat:=((List.range n).reverse.takeWhile λ i=>yPe ms i).length
def yDT(g:G)(call:y0M R)(ops:Array Oper)(ms:List Nat)(n:Nat)(s:St)(k:St->Option R):Option R:=
 if Region.lexB .any ops && (ops.toList.zipIdx.all λ p=>decide (p.2 < n) || yPe ms p.2) && (ops.toList.zipIdx.all λ p=>decide (n<=p.2) || yMH g ms ops p.1 p.2)then y0i g call true ops (ops.toList.take n) s λ s'=>y0i g call false ops (ops.toList.drop n) s' k else none
def clos(ops:List Oper)(s:St):List Operand:=ops.filterMap λ o=>match o.op with
 |.move (.tmp t)=>(match s.get t with|.clo _ (_::_)=>some (.tmp t)|_=>none)
 |_=>none
def ybG(s:St)(ops:List Oper)(acc:List (Nat×Option Nat×Nat))(t:Nat):Option Nat:=
 match acc.find? (λ p=>p.1 == t)with
 |some p=>some p.2.2
 |none=>match ops.find? (λ o=>o.dst == some t)with
  |some o=>(match o.op with
   |.move (.tmp v)=>(match s.get v with|.own β=>some β|_=>none)
   |.load _ (.tmp p)=>(match s.get p with
    |.bptr β off=>(match s.chunks.getD β none with
     |some (.box _ cells)=>(match cells[off]? with|some (.own γ)=>some γ|_=>none)
     |_=>none)
    |_=>none)
   |.lookup _ (.tmp m) _ false=>(match ops.find? (λ o=>o.dst == some m)with
    |some o2=>(match o2.op with
     |.move (.tmp v)=>(y7k s.chunks (s.get v)).map (·.γ)
     |_=>none)
    |none=>none)
   |_=>none)
  |none=>(match s.get t with|.own β=>some β|_=>none)
def apOf(g:G)(s:St)(ops:List Oper):List Oper->List (Nat×Option Nat×Nat)->List (Nat×Option Nat×Nat)
 |[],acc=>acc
 |o::l,acc=>apOf g s ops l (match o.dst,o.op with
  |some d,.buildSlice _ _ _=>if y5r g o.dst then acc++[(d,none,s.chunks.length+acc.length)]else acc
  |some d,.call { callee:=.builtin .append,args,.. }=>(match args.toList with
   |.tmp t::_=>(match ybG s ops acc t with|some β=>acc++[(d,some β,s.chunks.length+acc.length)]|none=>acc)
   |_=>acc)
  |some d,.call { callee:=.value (.func _),.. }=>if (y2V g o).isSome then acc++[(d,none,s.chunks.length+acc.length)]else acc
  |_,_=>acc)
def St.pad(s:St)(n:Nat):St:={ s with chunks:=s.chunks++List.replicate n none }
def yBI:List Nat->Bool
 |[]=>true
 |a::l=>!l.contains a && yBI l
def yDZ(g:G)(call:y0M R)(ops:Array Oper)(ms:List Nat)(n:Nat)(s:St)(ap:List (Nat×Option Nat×Nat))(k:St->Option R):Option R:=
 if ap.isEmpty || yBI (ap.map (·.1)) && yBI (ap.map (·.2.2)) && (ap.all λ p=>decide (s.chunks.length<=p.2.2) && decide (p.2.2 < s.chunks.length+ap.length))then yDT { g with ap:=ap,vl:=ops.toList.zipIdx.any λ p=>decide (p.2 < n) && !yMH { g with ap:=ap } ms ops p.1 p.2 } call ops ms n (s.pad ap.length) k else none
def opAt(ops:List Oper)(t:Nat):Option Op:=(ops.find? λ o=>o.dst == some t).map (·.op)
def yK4(T:List (TypeId×TyI))(s:St)(b f:Nat)(t:TypeId):List SV:=
 match s.get b,yT T t with
 |.bptr β off,some i=>(match s.chunks.getD β none,i.fields[f]? with
  |some (.box _ cells),some p=>(cells[off+p.1]?).toList
  |_,_=>[])
 |_,_=>[]
def yFQ(s:St)(p:Nat):List SV:=
 match s.get p with
 |.bptr β off=>(match s.chunks.getD β none with|some (.box _ cells)=>cells.drop off|_=>[])
 |_=>[]
def yT9(g:G)(ops:List Oper)(s:St):Operand->List SV
 |.tmp t=>match opAt ops t with
  |some (.load _ (.tmp p))=>(match opAt ops p with
   |some (.fieldAddr τ (.tmp b) f)=>yK4 g.T s b f τ
   |none=>yFQ s p
   |_=>[])
  |_=>[]
 |_=>[]
def yIH(g:G)(ops:List Oper)(s:St):Operand->List SV
 |.tmp t=>match opAt ops t with
  |some (.load τ (.tmp p))=>(match opAt ops p,yT g.T τ with
   |none,some i=>if i.ty.agg then yFQ s p else []
   |_,_=>[])
  |_=>[]
 |_=>[]
def lent(g:G)(ops:List Oper)(s:St):List SV:=ops.flatMap λ o=>match o.op with
 |.call { callee:=.value (.func n),args,.. }=>(match y6S g.E n with
  |some e=>if e.ress.flat then args.toList.flatMap (yIH g ops s)else args.toList.flatMap (yT9 g ops s)
  |none=>[])
 |.slice _ (.tmp t) _ _ none=>(match opAt ops t with
  |some (.move (.tmp v))=>(match s.get v with|.own β=>[.own β]|_=>[])
  |_=>[])
 |_=>[]
def yLs(g:G)(s:St):List Oper->St
 |[]=>s
 |o::l=>(match o.op with
  |.fieldAddr _ _ _|.load _ _|.move _=>(match yg g s o (λ sv=>some sv)with|some sv=>yLs g (s.put o.dst sv) l|none=>yLs g s l)
  |_=>yLs g s l)
def St.split(s:St)(β:Nat)(x:SV):St:=s
def splitAt(g:G)(ops:List Oper)(s:St):St:=
 match ops.findSome? (λ o=>match o.op with
  |.call { callee:=.builtin .append,args,.. }=>(match args.toList with
   |.tmp t::_=>(match opAt ops t with
    |some (.lookup _ (.tmp m) (.tmp j) false)=>(match opAt ops m with
     |some (.move (.tmp v))=>(match s.get v with|.mown β=>some (β,j)|_=>none)
     |_=>none)
    |_=>none)
   |_=>none)
  |_=>none)with
 |some p=>s.split p.1 ((yLs g s ops).get p.2)
 |none=>s
def y5u(g:G)(call:y0M R)(ops:Array Oper)(draw:Bool)(s:St)(k:St->Option R):Option R:=
 if draw then
  let ms:=yJw .any ops.toList []
  let n:=ops.size - yEY ms ops.size
  let s0:=settleAll (clos ops.toList s) s
  let s1:=splitAt g ops.toList (settleCells (lent g ops.toList s0) s0)
  yDZ g call ops ms n s1 (apOf g s1 ops.toList (ops.toList.take n) []) k
 else y0i g call false ops ops.toList s k
def yLO:SV->SV
 |.val (.nslice t) x=>.val (.slice t) (Option.getD x []:List t.den)
 |sv=>sv
def y25(keep:List Nat):Nat->List SV->List SV
 |_,[]=>[]
 |i,sv::l=>(if keep.contains i then yLO sv else .undef)::y25 keep (i+1) l
def y0Q(l:List Nat)(β:Nat):Nat:=l.idxOf β
def Cap.rename(l:List Nat):Cap->Option Cap
 |.box β=>if l.contains β then some (.box (y0Q l β))else none
 |.val t x=>some (.val t x)
def y1D(l:List Nat):List Cap->Option (List Cap)
 |[]=>some []
 |c::cs=>(c.rename l).bind λ d=>(y1D l cs).map λ ds=>d::ds
def SV.rename(l:List Nat):SV->SV
 |.bptr β off=>if l.contains β then .bptr (y0Q l β) off else .undef
 |.own β=>if l.contains β then .own (y0Q l β)else .undef
 |.eptr β i sz off=>if l.contains β then .eptr (y0Q l β) i sz off else .undef
 |.osub β n sz=>if l.contains β then .osub (y0Q l β) n sz else .undef
 |.mown β=>if l.contains β then .mown (y0Q l β)else .undef
 |.yld β=>if l.contains β then .yld (y0Q l β)else .undef
 |.mayp β e=>if l.contains β then .mayp (y0Q l β) e else .undef
 |.srec β=>if l.contains β then .srec (y0Q l β)else .undef
 |.nown β i=>if l.contains β then .nown (y0Q l β) i else .undef
 |.nptr β i j sz off=>if l.contains β then .nptr (y0Q l β) i j sz off else .undef
 |.clo f caps=>(match y1D l caps with|some cs=>.clo f cs|none=>.undef)
 |sv=>sv
def yAq(l:List Nat):List Nat->List Nat
 |[]=>l
 |β::r=>if l.contains β then yAq l r else yAq (l++[β]) r
def y2d:List SV->List Nat->List Nat
 |[],l=>l
 |sv::r,l=>y2d r (yAq l sv.names)
def y9c(cs:List (Option Chunk)):Nat->List Nat->List Nat->List Nat
 |0,_,l=>l
 |n+1,done,l =>
  match l.find? (λ β=>!done.contains β)with
  |none=>l
  |some β=>y9c cs n (β::done) (match cs.getD β none with|some (.box _ cells)=>y2d cells l|some (.lp _ _ cells _)=>y2d cells l|some (.rcd _ cells)=>y2d cells l|_=>l)
def Chunk.rename(l:List Nat):Chunk->Option Chunk
 |.mps _ _ _ _ (some _)=>none
 |c=>some (c.map (SV.rename l))
def y5L(l:List Nat)(keep:List Nat)(s:St):St:=
 { sl:=.ofList ((y25 keep 0 s.slots).map (SV.rename l)),chunks:=l.zipIdx.map λ p=>if y0Q l p.1=p.2 then (s.chunks.getD p.1 none).bind (Chunk.rename l)else none,kept:=s.kept.map (SV.rename l),dep:=s.dep,nmk:=s.nmk,rnd:=s.rnd }
def canon(keep:List Nat)(s:St):St:=y5L (y9c s.chunks s.chunks.length [] (y2d s.kept (y2d (keep.map λ i=>s.get i) []))) keep s
def y44:List Cap->Ty
 |[]=>.unit
 |.val t _::l=>.pair t (y44 l)
 |.box _::l=>y44 l
def yKH:(l:List Cap)->(y44 l).den
 |[]=>()
 |.val _ x::l=>(x,yKH l)
 |.box _::l=>yKH l
def y4t:(l:List Cap)->(y44 l).den->List Cap
 |[],_=>[]
 |.val t _::l,y=>.val t y.1::y4t l y.2
 |.box β::l,y=>.box β::y4t l y
def y2X:(l l':List Cap)->Option (y44 l).den
 |[],[]=>some ()
 |.val t _::l,.val u x::l'=>(y3R u t x).bind λ y=>(y2X l l').map λ z=>(y,z)
 |.box β::l,.box γ::l'=>if β=γ then y2X l l' else none
 |_,_=>none
def y05:List SV->Ty
 |[]=>.unit
 |.val t _::l=>.pair t (y05 l)
 |.clo _ cs::l=>.pair (y44 cs) (y05 l)
 |_::l=>y05 l
def y24:(l:List SV)->(y05 l).den
 |[]=>()
 |.val _ x::l=>(x,y24 l)
 |.clo _ cs::l=>(yKH cs,y24 l)
 |.undef::l|.bptr _ _::l|.own _::l|.eptr _ _ _ _::l|.tup _ _::l|.nils::l|.mown _::l|.yld _::l|.mayp _ _::l|.osub _ _ _::l|.xval _ _::l|.gone::l|.srec _::l|.nown _ _::l|.nptr _ _ _ _ _::l=>y24 l
def yQ:(l:List SV)->(y05 l).den->List SV
 |[],_=>[]
 |.val t _::l,y=>.val t y.1::yQ l y.2
 |.clo f cs::l,y=>.clo f (y4t cs y.1)::yQ l y.2
 |.undef::l,y=>.undef::yQ l y
 |.bptr β o::l,y=>.bptr β o::yQ l y
 |.own β::l,y=>.own β::yQ l y
 |.eptr _ _ _ _::l,y=>.undef::yQ l y
 |.osub _ _ _::l,y=>.undef::yQ l y
 |.tup _ _::l,y=>.undef::yQ l y
 |.xval _ _::l,y=>.undef::yQ l y
 |.nils::l,y=>.nils::yQ l y
 |.mown β::l,y=>.mown β::yQ l y
 |.gone::l,y=>.undef::yQ l y
 |.srec β::l,y=>.srec β::yQ l y
 |.nown _ _::l,y=>.undef::yQ l y
 |.nptr _ _ _ _ _::l,y=>.undef::yQ l y
 |.yld β::l,y=>.yld β::yQ l y
 |.mayp β e::l,y=>.mayp β e::yQ l y
def yUp(t:Ty):SV->Option t.den
 |.val u x=>conv u t x
 |.nils=>(match t with|.slice _=>some ([]:List _)|.nslice _=>some none|_=>none)
 |_=>none
def yWg(f:FuncId)(cs:List Cap):SV->Option (y44 cs).den
 |.clo h ds=>if f=h then y2X cs ds else none
 |_=>none
def yPL(β o:Nat):SV->Bool
 |.bptr γ p=>decide (β=γ) && decide (o=p)
 |_=>false
def yR9(β:Nat):SV->Bool
 |.own γ=>decide (β=γ)
 |_=>false
def yaL(β:Nat):SV->Bool
 |.srec γ=>decide (β=γ)
 |_=>false
def yPO(β:Nat):SV->Bool
 |.mown γ=>decide (β=γ)
 |_=>false
def yaE(β:Nat):SV->Bool
 |.yld γ=>decide (β=γ)
 |_=>false
def yOa(β e:Nat):SV->Bool
 |.mayp γ d=>decide (β=γ) && decide (e=d)
 |_=>false
def yPg:SV->Bool
 |.nils=>true
 |_=>false
def yV:(l l':List SV)->Option (y05 l).den
 |[],[]=>some ()
 |[],_::_=>none
 |_::_,[]=>none
 |.val t _::l,sv::l'=>(yUp t sv).bind λ y=>(yV l l').map λ z=>(y,z)
 |.clo f cs::l,sv::l'=>(yWg f cs sv).bind λ y=>(yV l l').map λ z=>(y,z)
 |.undef::l,_::l'=>yV l l'
 |.bptr β o::l,sv::l'=>if yPL β o sv then yV l l' else none
 |.own β::l,sv::l'=>if yR9 β sv then yV l l' else none
 |.nils::l,sv::l'=>if yPg sv then yV l l' else none
 |.mown β::l,sv::l'=>if yPO β sv then yV l l' else none
 |.yld β::l,sv::l'=>if yaE β sv then yV l l' else none
 |.mayp β e::l,sv::l'=>if yOa β e sv then yV l l' else none
 |.eptr _ _ _ _::l,_::l'=>yV l l'
 |.osub _ _ _::l,_::l'=>yV l l'
 |.tup _ _::l,_::l'=>yV l l'
 |.xval _ _::l,_::l'=>yV l l'
 |.gone::l,_::l'=>yV l l'
 |.srec β::l,sv::l'=>if yaL β sv then yV l l' else none
 |.nown _ _::l,_::l'=>yV l l'
 |.nptr _ _ _ _ _::l,_::l'=>yV l l'
def y07:List (Option Chunk)->Ty
 |[]=>.unit
 |some (.box _ cells)::l=>.pair (y05 cells) (y07 l)
 |some (.arr _ t _ _)::l=>.pair (.slice t) (y07 l)
 |some (.mp k v _)::l=>.pair (.map k v) (y07 l)
 |some (.mps k _ u _ none)::l=>.pair (.map k (.slice u)) (y07 l)
 |some (.mps _ _ _ _ (some _))::l=>y07 l
 |some (.it _ _)::l=>.pair (.pair .str (.int .i64)) (y07 l)
 |some (.lp _ _ cells _)::l=>.pair (y05 cells) (y07 l)
 |some (.rcd _ cells)::l=>.pair (y05 cells) (y07 l)
 |some (.nst _ t _ _ _ _)::l=>.pair (.slice t) (y07 l)
 |none::l=>y07 l
def y1p:(l:List (Option Chunk))->(y07 l).den
 |[]=>()
 |some (.box _ cells)::l=>(y24 cells,y1p l)
 |some (.arr _ _ xs _)::l=>(xs,y1p l)
 |some (.mp _ _ es)::l=>(es,y1p l)
 |some (.mps _ _ _ es none)::l=>(es,y1p l)
 |some (.mps _ _ _ _ (some _))::l=>y1p l
 |some (.it bs q)::l=>((bs,q),y1p l)
 |some (.lp _ _ cells _)::l=>(y24 cells,y1p l)
 |some (.rcd _ cells)::l=>(y24 cells,y1p l)
 |some (.nst _ _ _ _ _ xs)::l=>(xs,y1p l)
 |none::l=>y1p l
def yJ:(l:List (Option Chunk))->(y07 l).den->List (Option Chunk)
 |[],_=>[]
 |some (.box t cells)::l,y=>some (.box t (yQ cells y.1))::yJ l y.2
 |some (.arr e t _ nn)::l,y=>some (.arr e t y.1 nn)::yJ l y.2
 |some (.mp k v _)::l,y=>some (.mp k v y.1)::yJ l y.2
 |some (.mps k e u _ none)::l,y=>some (.mps k e u y.1 none)::yJ l y.2
 |some (.mps _ _ _ _ (some _))::l,y=>none::yJ l y
 |some (.it _ _)::l,y=>some (.it y.1.1 y.1.2)::yJ l y.2
 |some (.lp i info cells st)::l,y=>some (.lp i info (yQ cells y.1) st)::yJ l y.2
 |some (.rcd t cells)::l,y=>some (.rcd t (yQ cells y.1))::yJ l y.2
 |some (.nst e t o e' u _)::l,y=>some (.nst e t o e' u y.1)::yJ l y.2
 |none::l,y=>none::yJ l y
def ySj(t:Ty)(cells:List SV):Option Chunk->Option (y05 cells).den
 |some (.box u cells')=>if t=u then yV cells cells' else none
 |_=>none
def yTd(e:TypeId)(t:Ty)(nn:Bool):Option Chunk->Option (List t.den)
 |some (.arr e' u xs nn')=>if e=e'/\(nn=true->nn'=true)then y3R (.slice u) (.slice t) xs else none
 |_=>none
def yQu(t:Ty)(cells:List SV):Option Chunk->Option (y05 cells).den
 |some (.rcd u cells')=>if t=u then yV cells cells' else none
 |_=>none
def yRT(e:TypeId)(t:Ty)(o:Nat)(e':TypeId)(u:Ty):Option Chunk->Option (List t.den)
 |some (.nst d t' o' d' u' xs)=>if e=d/\o=o'/\e'=d'/\u=u' then y3R (.slice t') (.slice t) xs else none
 |_=>none
def asMp(k v:Ty):Option Chunk->Option (List (k.den×v.den))
 |some (.mp k' v' es)=>y3R (.map k' v') (.map k v) es
 |_=>none
def yTS(k:Ty)(e:TypeId)(u:Ty):Option Chunk->Option (List (k.den×List u.den))
 |some (.mps k' e' u' es none)=>if e=e' then y3R (.map k' (.slice u')) (.map k (.slice u)) es else none
 |_=>none
def asIt:Option Chunk->Option (List UInt8×Int)
 |some (.it bs q)=>some (bs,q)
 |_=>none
def asLp(i:Nat)(cells:List SV)(st:LpSt):Option Chunk->Option (y05 cells).den
 |some (.lp j _ cells' st')=>if i=j/\st=st' then yV cells cells' else none
 |_=>none
def ya:(l l':List (Option Chunk))->Option (y07 l).den
 |[],[]=>some ()
 |[],_::_=>none
 |_::_,[]=>none
 |some (.box t cells)::l,c::l'=>(ySj t cells c).bind λ y=>(ya l l').map λ z=>(y,z)
 |some (.arr e t _ nn)::l,c::l'=>(yTd e t nn c).bind λ y=>(ya l l').map λ z=>(y,z)
 |some (.mp k v _)::l,c::l'=>(asMp k v c).bind λ y=>(ya l l').map λ z=>(y,z)
 |some (.mps k e u _ none)::l,c::l'=>(yTS k e u c).bind λ y=>(ya l l').map λ z=>(y,z)
 |some (.mps _ _ _ _ (some _))::l,_::l'=>ya l l'
 |some (.it _ _)::l,c::l'=>(asIt c).bind λ y=>(ya l l').map λ z=>(y,z)
 |some (.lp i _ cells st)::l,c::l'=>(asLp i cells st c).bind λ y=>(ya l l').map λ z=>(y,z)
 |some (.rcd t cells)::l,c::l'=>(yQu t cells c).bind λ y=>(ya l l').map λ z=>(y,z)
 |some (.nst e t o e' u _)::l,c::l'=>(yRT e t o e' u c).bind λ y=>(ya l l').map λ z=>(y,z)
 |none::l,_::l'=>ya l l'
def stTy(s:St):Ty:=.pair (y05 s.slots) (.pair (y07 s.chunks) (y05 s.kept))
def stX(s:St):(stTy s).den:=(y24 s.slots,y1p s.chunks,y24 s.kept)
def y4T(s:St)(y:(stTy s).den):St:={ sl:=.ofList (yQ s.slots y.1),chunks:=yJ s.chunks y.2.1,kept:=yQ s.kept y.2.2,dep:=s.dep,nmk:=s.nmk,rnd:=s.rnd }
def stAs(s s':St):Option (stTy s).den:=if s.nmk=0/\s'.nmk≠0 then none else (yV s.slots s'.slots).bind λ y=>(ya s.chunks s'.chunks).bind λ z=>(yV s.kept s'.kept).map λ u=>(y,z,u)
def y9i:Code->Bool
 |.seq a b=>y9i a || y9i b
 |.cond _ a b=>y9i a || y9i b
 |.block _ c|.scope c|.loop c=>y9i c
 |.rangeFunc _ _ _ _=>true
 |_=>false
def puts:Code->Bool
 |.seq a b=>puts a || puts b
 |.cond _ a b=>puts a || puts b
 |.block _ c|.scope c|.loop c=>puts c
 |.rangeFunc _ _ _ _=>true
 |.region _ ops _=>ops.toList.any λ o=>match o.op with|.mapUpdate _ _ _ _=>true|_=>false
 |_=>false
def freezeMs:Nat->St->St
 |0,s=>s
 |n+1,s=>freezeMs n (match s.chunks.getD n none with|some (.mps _ _ _ _ _)=>s.freeze n|_=>s)
def frzS(c:Code)(s:St):St:=if puts c then s else freezeMs s.chunks.length s
def frzK:List Nat->St->St
 |[],s=>s
 |k::l,s=>frzK l (if 1000000<=k then s.settle (s.get (k - 1000000))else s)
def y6V(c:Code)(keep:List Nat)(s:St):St:={ canon keep (frzK keep (frzS c s))with nmk:=if y9i c then 1 else (frzK keep (frzS c s)).nmk }
def iter{σ:Type}(F:(σ->Option R)->σ->Option R):Nat->σ->Option R
 |0,_=>none
 |n+1,x=>F (iter F n) x
def loops:Code->Nat
 |.seq a b=>loops a+loops b
 |.cond _ a b=>loops a+loops b
 |.block _ c|.scope c=>loops c
 |.rangeFunc _ _ a b=>loops a+loops b
 |.loop c=>loops c+1
 |_=>0
def LpSt.exit:LpSt->Option Exit
 |.ready=>some .normal
 |.busy|.over=>none
 |.done (.exit id)=>some (.exit id)
 |.done .ret=>some .ret
def y55(d:Nat)(cs:List (Option Chunk)):List (Option Chunk):=
 cs.map λ|some (.lp i info cells st)=>if i < d then some (.lp i info cells st)else none|c=>c
def endRange(s:St)(k:Exit->St->Option R):Option R:=
 match s.kept with
 |.yld β::kept=>(match s.chunks.getD β none with
  |some (.lp _ _ _ st)=>st.exit.bind λ e=>k e { s with kept:=kept,chunks:=y55 (s.dep - 1) (s.chunks.set β none),dep:=s.dep - 1 }
  |_=>none)
 |_=>none
def yL1(g:G)(call:y0M R)(f:Operand)(ps:Array Tmp)(assign body:Code)(kp:List (List Nat))(s:St)(k:Exit->St->Option R):Option R:=
 match y9 g.T 0 s f with
 |.clo n caps=>call (.fn n) (.yld s.chunks.length::y1U caps)
   { s with chunks:=s.chunks++[some (.lp s.dep { ps:=ps,assign:=assign,body:=body,keep:=kp,muts:=g.muts,fz:=g.fz } s.slots .ready)],kept:=.yld s.chunks.length::s.kept,dep:=s.dep+1,nmk:=if s.rnd then s.nmk else s.nmk+1 }
   λ _ s2=>endRange s2 k
 |_=>none
def clrV(cs:List (Option Chunk)):SV->SV
 |.own β=>if cs.any (λ c=>match c with|some (.box _ cells)=>cells.any (yR9 β)|_=>false)then .undef else .own β
 |sv=>sv
def clrS(s:St):St:={ s with sl:=s.sl.map (clrV s.chunks) }
def exec(g:G)(call:y0M R)(fuel:Nat):Code->List (List Nat)->St->(Exit->St->Option R)->Option R
 |.skip,_,s,k=>k .normal s
 |.region _ ops draw,_,s,k=>y5u g call ops draw s λ s'=>k .normal s'
 |.seq a b,kp,s,k=>exec g call fuel a kp s λ e s'=>match e with
  |.normal=>exec g call fuel b (kp.drop (loops a)) s' k
  |e=>k e s'
 |.cond c a b,kp,s,k=>match y9 g.T 0 s c with
  |.val .bool p=>bif p then exec g call fuel a kp s k else exec g call fuel b (kp.drop (loops a)) s k
  |_=>none
 |.block id c,kp,s,k=>exec g call fuel c kp s λ e s'=>match e with
  |.exit id'=>if id'=id then k .normal s' else k (.exit id') s'
  |e=>k e s'
 |.loop c,kp,s,k =>
  iter (λ r y=>exec g call fuel c kp.tail (y4T (y6V c (kp.headD []) s) y) λ e s'=>match e with
   |.normal=>(stAs (y6V c (kp.headD []) s) (canon (kp.headD []) (frzK (kp.headD []) s'))).bind r
   |e=>k e s') fuel (stX (y6V c (kp.headD []) s))
 |.scope c,kp,s,k=>exec g call fuel c kp s k
 |.rangeFunc f ps assign body,kp,s,k=>yL1 g call f ps assign body kp (clrS s) k
 |.exit id,_,s,k=>k (.exit id) s
 |.ret,_,s,k=>k .ret s
 |.label _,_,s,k=>k .normal s
 |_,_,_,_=>none
def y14:(t:Ty)->t.den->List SV
 |.pair a b,x=>.val a x.1::y14 b x.2
 |_,_=>[]
def St.settleR(s:St):SV->St
 |.bptr β _=>St.freeze (match s.chunks.getD β none with|some (.box _ cells)=>settleCells cells s|_=>s) β
 |sv=>s.settle sv
def settleRes:List ResultVar->St->St
 |[],s=>s
 |.tmp t::l,s=>settleRes l (s.settleR (s.get t))
 |.cell t _::l,s=>settleRes l (s.settleIn (s.get t))
def yC3(T:List (TypeId×TyI))(s:St)(t ty:Nat)(a:Ty):Option a.den:=
 match yT T ty,s.get t with
 |some i,.bptr β off=>if i.ty=a then (match s.chunks.getD β none with
  |some (.box _ cells)=>y2F a ((cells.drop off).take a.size)
  |_=>none)else none
 |_,_=>none
def yA5(E:List Entry)(T:List (TypeId×TyI))(s:St):(t:Ty)->List ResultVar->Option t.den
 |.unit,[]=>some ()
 |.pair a b,.tmp t::l=>(y5q E s.chunks (s.get t) a).bind λ x=>(yA5 E T s b l).map λ y=>(x,y)
 |.pair a b,.cell t ty::l=>(yC3 T s t ty a).bind λ x=>(yA5 E T s b l).map λ y=>(x,y)
 |_,_=>none
def yR8(T:List (TypeId×TyI))(s:St):ResultVar->Option SV
 |.tmp t=>some (s.get t)
 |.cell t ty=>match yT T ty with
  |some i=>(yC3 T s t ty i.ty).map λ x=>.val i.ty x
  |none=>none
def yFs(T:List (TypeId×TyI))(s:St):List ResultVar->Option (List SV)
 |[]=>some []
 |v::l=>(yR8 T s v).bind λ sv=>(yFs T s l).map λ svs=>sv::svs
def Ty.noFn:Ty->Bool
 |.func _ _=>true
 |.pair a b=>a.noFn && b.noFn
 |.slice t|.ref t|.nslice t|.arr _ t=>t.noFn
 |.map k v=>k.noFn && v.noFn
 |_=>true
def Cap.noFn:Cap->Bool
 |.val t _=>t.noFn
 |.box _=>true
def SV.noFn:SV->Bool
 |.val t _|.tup t _|.xval t _=>t.noFn
 |.clo _ caps=>caps.all Cap.noFn
 |_=>true
def Chunk.noFn:Option Chunk->Bool
 |some (.box _ cells)|some (.lp _ _ cells _)|some (.rcd _ cells)=>cells.all SV.noFn
 |some (.nst _ t _ _ u _)=>t.noFn && u.noFn
 |some (.arr _ t _ _)=>t.noFn
 |some (.mp k v _)=>k.noFn && v.noFn
 |some (.mps k _ u _ _)=>k.noFn && u.noFn
 |some (.it _ _)=>true
 |none=>true
def St.leaves(s:St):Bool:=s.nmk == 0 || (s.slots.all SV.noFn && s.kept.all SV.noFn && s.chunks.all Chunk.noFn)
def yFe(g:G)(s:St):List ResultVar->Option (SV×St)
 |[.cell t ty]=>(match yT g.T ty,s.get t with
  |some i,.bptr β off=>(match s.chunks.getD β none with
   |some (.box _ cells)=>if i.ty.agg=true/\off+i.ty.size<=cells.length then some (.srec s.chunks.length,{ s with chunks:=s.chunks++[some (Chunk.rcd i.ty ((cells.drop off).take i.ty.size))] })else none
   |_=>none)
  |_,_=>none)
 |_=>none
def retK(g:G)(rc:Bool)(fn:Func)(s:St)(K:SV->St->Option R):Option R:=
 if rc then (yFe g s fn.results.toList).bind λ p=>K p.1 p.2 else
 match fn.results.toList with
 |[]=>K (.tup .unit ()) s
 |[.tmp t]=>K (s.get t) s
 |rs=>(y3Q g.T fn.resultTypes.toList).bind λ ty=>(yFs g.T (settleRes rs s) rs).bind λ svs=>(y1N g.E [] ty svs).bind λ y=>K (yA0 ty y) (settleRes rs s)
inductive LibK where
 | copy (e0:Nat)
 | sort
structure Inl where
 f:FuncId
 fn:Func
 keep:List (List Nat):=[]
 muts:List Nat:=[]
 fz:List Nat:=[]
 lib:Option LibK:=none
 rc:Bool:=false
 hide:List FuncId:=[]
 lv:Option (List Nat):=none
def yLf:List FuncId->List Entry->List Entry
 |[],E=>E
 |l,E=>E.filter λ e=>!l.contains e.f
def yHF(e0:Nat)(svs:List SV)(s:St)(K:SV->St->Option R):Option R:=
 match svs with
 |[.bptr β 0]=>(match s.chunks.getD β none with
  |some (.box _ [.mayp γ e,_])=>if γ=β/\e=e0 then K (.tup .unit ()) s else none
  |_=>none)
 |_=>none
def insI(x:Int):List Int->List Int
 |[]=>[x]
 |y::l=>bif decide (x<=y)then x::y::l else y::insI x l
def y9x:List Int->List Int
 |[]=>[]
 |x::l=>insI x (y9x l)
def yHo(svs:List SV)(s:St)(K:SV->St->Option R):Option R:=
 match svs with
 |[.own β]=>(match s.chunks.getD β none with
  |some (.arr e (.int .i64) xs nn)=>bif decide (List.length xs<=memMax)then K (.tup .unit ()) { s with chunks:=s.chunks.set β (some (Chunk.arr e (.int .i64) (y9x xs) nn)) }else none
  |_=>none)
 |_=>none
def libK(l:LibK)(svs:List SV)(s:St)(K:SV->St->Option R):Option R:=
 match l with
 |.copy e0=>yHF e0 svs s K
 |.sort=>yHo svs s K
structure Ann where
 keep:List (List Nat)
 fuel:Nat
 inl:List Inl:=[]
 deep:Nat:=0
def yMj:List Inl->FuncId->Option Inl
 |[],_=>none
 |e::l,f=>if e.f == f then some e else yMj l f
def y5O(s:St)(svs:List SV)(n:Nat)(b:Bool):St:={ sl:=.ofList (svs++List.replicate (n - svs.length) .undef),chunks:=s.chunks,kept:=s.slots++s.kept,dep:=s.dep,rnd:=b }
def y3K(s s0:St):St:={ sl:=.ofList (s.kept.take s0.slots.length),chunks:=s.chunks,kept:=s.kept.drop s0.slots.length,dep:=s.dep,nmk:=s0.nmk,rnd:=s0.rnd }
def yNX:Exit->Option LpSt
 |.normal=>some .ready
 |.exit id=>some (.done (.exit id))
 |.ret=>some (.done .ret)
 |_=>none
def y72(m:Nat)(s:St):Option Nat:=
 match s.kept.drop m with
 |.yld β::_=>some β
 |_=>none
def endRound(s0:St)(e:Exit)(s:St)(K:SV->St->Option R):Option R:=
 (y72 s0.slots.length s).bind λ β=>(yNX e).bind λ st=>(s.setLp β .busy st).bind λ s'=>K (.val .bool (st == .ready)) (y3K s' s0)
def inl(g:G)(I:List Inl)(fuel:Nat):Nat->(R:Type)->y0M R
 |0,_=>λ _ _ _ _=>none
 |d+1,R=>λ t svs s K =>
  match t with
  |.fn n=>(match yMj I n with
   |none=>none
   |some i=>match i.lib with
    |some e0=>libK e0 svs s K
    |none=>match i.fn.body with
    |none=>none
    |some c=>exec { g with muts:=i.muts,fz:=i.fz,E:=yLf i.hide g.E,lv:=i.lv } (inl g I fuel d R) fuel c i.keep (y5O s svs i.fn.ntmps false) λ e s'=>match e with
     |.ret|.normal=>if s'.leaves then retK g i.rc i.fn { s' with nmk:=0 } λ sv s''=>K sv (y3K s'' s)else none
     |_=>none)
  |.round info =>
   exec { g with muts:=info.muts,fz:=info.fz,lv:=none } (inl g I fuel d R) fuel info.assign info.keep (y5O s svs 0 true) λ e s1=>match e with
    |.normal=>(y72 s.slots.length s1).bind λ β=>(s1.setLp β .ready .busy).bind λ s2 =>
     exec { g with muts:=info.muts,fz:=info.fz,lv:=none } (inl g I fuel d R) fuel info.body (info.keep.drop (loops info.assign)) s2 λ e s'=>endRound s e s' K
    |_=>none
def runF(g:G)(an:Ann)(fn:Func)(args ress:Ty)(x:args.den):Option ress.den:=
 match fn.body with
 |none=>none
 |some c=>exec g (inl g an.inl an.fuel an.deep ress.den) an.fuel c an.keep { sl:=.ofList (y14 args x++List.replicate (fn.ntmps - (y14 args x).length) .undef),chunks:=[] } λ e s=>match e with
  |.ret|.normal=>if s.leaves then yA5 g.E g.T (settleRes fn.results.toList { s with nmk:=0 }) ress fn.results.toList else none
  |_=>none
end
end
end Go.Vx
end
