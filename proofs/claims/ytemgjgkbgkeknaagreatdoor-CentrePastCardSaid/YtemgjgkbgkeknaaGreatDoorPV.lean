import Derived.Test.YtemgjgkbgkeknaaGreatDoorP10
import Derived.Test.YtemgjgkbgkeknaaGreatDoorP8
import Derived.Test.YtemgjgkbgkeknaaGreatDoorBPast
set_option linter.all false
open List (mem_append takeWhile_cons)
open Option (bind_some)
open Int (le_refl le_trans not_lt)
open Go.IntKind (i64)
section
set_option maxRecDepth 100000
namespace Go.Tw
open Go.Vx Go.Vx.B Go.Proofs
structure Moved (r:Rg) (d:Kd) (a b:Str) (v:Int) (g g':Gt):Prop where
 kd:d=.command
 nm:a=g.1
 vl:v=g'.2.2.1
 lt:g.2.2.1 < v
 permit:g.2.2.2.2.1=[]
 ships:rSs r=[]
 bb:b=y18\/b=y1e
 low:g'.2.1=(b == y18)
 st1:¬ (b=y18/\rSt r=y54)
 st2:¬ (b=y1e/\rSt r=sClose)
theorem yHP(r:Rg)(d:Kd)(a b:Str)(v w:Int):∀ (i:Nat) (g:Gt),(rGs r)[i]?=some g->∃ g',(rGs (act r d a b v w).2)[i]?=some g'/\g'.1=g.1/\(g'.2.1=g.2.1/\g'.2.2.1=g.2.2.1\/Moved r d a b v g g'):=by
 intro i g hg;have same:∃ g',(rGs r)[i]?=some g'/\g'.1=g.1/\(g'.2.1=g.2.1/\g'.2.2.1=g.2.2.1\/Moved r d a b v g g'):=⟨g,hg,rfl,.inl ⟨rfl,rfl⟩⟩;have hlt:i < (rGs r).length:=(List.getElem?_eq_some_iff.1 hg).1;have set:∀ (j:Nat) (x:Gt),(∀ y,(rGs r)[j]?=some y->j=i->x.1=y.1/\(x.2.1=y.2.1/\x.2.2.1=y.2.2.1\/Moved r d a b v y x))->∃ g',((rGs r).set j x)[i]?=some g'/\g'.1=g.1/\(g'.2.1=g.2.1/\g'.2.2.1=g.2.2.1\/Moved r d a b v g g'):=by
  intro j x hx;rw[List.getElem?_set];by_cases e:j=i
  ·subst e;rw[if_pos rfl,if_pos hlt];have:=hx g hg rfl;exact ⟨x,rfl,this.1,this.2⟩
  ·rw[if_neg e];exact ⟨g,hg,rfl,.inl ⟨rfl,rfl⟩⟩
 cases d;case gate =>
  unfold act;simp only;split
  ·exact same
  split
  ·exact same
  ·exact ⟨g,(List.getElem?_append_left hlt).trans hg,rfl,.inl ⟨rfl,rfl⟩⟩
 case command =>
  unfold act;simp only;cases hq:gAt (rGs r) a with
  |none=>exact same
  |some j =>
   obtain ⟨y,y1,y2,y3⟩:=y2A hq;simp only[y3];split
   ·exact same
   rename_i k1;split
   ·exact same
   split
   ·exact same
   rename_i k2;split
   ·split
    ·exact same
    ·exact same
   rename_i k3;split
   ·exact same
   rename_i k4;refine set j _ λ z hz e=>?_
   obtain rfl:y=z:=Option.some.inj (y1.symm.trans hz);refine ⟨rfl,.inr ?_⟩;have k5:mvs r y b=0:=Decidable.not_not.1 k4;unfold mvs at k5;split at k5
   ·cases k5
   rename_i k6;split at k5
   ·cases k5
   rename_i k7;split at k5
   ·cases k5
   rename_i k8;refine ⟨rfl,y2.symm,rfl,by omega,Decidable.not_not.1 k6,Decidable.not_not.1 k7,?_,rfl,λ h=>k8 (.inl h),λ h=>k8 (.inr h)⟩
   by_cases k9:b=y18
   ·exact .inl k9
   ·exact .inr (Decidable.not_not.1 λ k10=>k1 ⟨k9,k10⟩)
 case lock =>
  unfold act;simp only;cases hq:gAt (rGs r) a with
  |none=>exact same
  |some j =>
   obtain ⟨y,y1,y2,y3⟩:=y2A hq;simp only[y3];split
   ·exact same
   refine set j _ λ z hz e=>?_
   obtain rfl:y=z:=Option.some.inj (y1.symm.trans hz);exact ⟨rfl,.inl ⟨rfl,rfl⟩⟩
 case unlock =>
  unfold act;simp only;cases hq:gAt (rGs r) a with
  |none=>exact same
  |some j =>
   obtain ⟨y,y1,y2,y3⟩:=y2A hq;simp only[y3];split
   ·exact same
   refine set j _ λ z hz e=>?_
   obtain rfl:y=z:=Option.some.inj (y1.symm.trans hz);exact ⟨rfl,.inl ⟨rfl,rfl⟩⟩
 case undo=>exact same
 all_goals
  unfold act;first
  | exact same
  | (simp only;(repeat' split)<;>exact same)
theorem yGF(r:Rg)(d:Kd)(a b:Str)(v w:Int):∀ (i:Nat) (t:Th),(rTs r)[i]?=some t->∃ t',(rTs (act r d a b v w).2)[i]?=some t'/\t'.1=t.1/\(t'.2.1=t.2.1\/t'.2.1=i64.wrap (t.2.1+1)):=by
 intro i g hg;have same:∃ g',(rTs r)[i]?=some g'/\g'.1=g.1/\(g'.2.1=g.2.1\/g'.2.1=i64.wrap (g.2.1+1)):=⟨g,hg,rfl,.inl rfl⟩;have hlt:i < (rTs r).length:=(List.getElem?_eq_some_iff.1 hg).1;cases d;case issue =>
  unfold act;simp only;cases hq:tAt (rTs r) a with
  |none =>
   simp only;split
   ·exact same
   ·exact ⟨g,(List.getElem?_append_left hlt).trans hg,rfl,.inl rfl⟩
  |some j =>
   obtain ⟨y,y1,y2,y3⟩:=tAt_some hq;simp only[y3];show ∃ g',((rTs r).set j _)[i]?=some g'/\_
   rw[List.getElem?_set];by_cases e:j=i
   ·subst e;obtain rfl:y=g:=Option.some.inj (y1.symm.trans hg);rw[if_pos rfl,if_pos hlt];exact ⟨_,rfl,rfl,.inr rfl⟩
   ·rw[if_neg e];exact ⟨g,hg,rfl,.inl rfl⟩
 case undo=>exact same
 case command =>
  unfold act;simp only;cases hq:gAt (rGs r) a with
  |none=>exact same
  |some j=>simp only;(repeat' split)<;>exact same
 case lock =>
  unfold act;simp only;cases hq:gAt (rGs r) a with
  |none=>exact same
  |some j=>simp only;(repeat' split)<;>exact same
 case unlock =>
  unfold act;simp only;cases hq:gAt (rGs r) a with
  |none=>exact same
  |some j=>simp only;(repeat' split)<;>exact same
 all_goals
  unfold act;first
  | exact same
  | (simp only;(repeat' split)<;>exact same)
theorem yCH:∀ (l:List Ev) (i n:Nat) (c:List Ev),(runC l i c).1=0->(runC (l.take n) i c).1=0
 |[],i,n,c,h=>by simpa using h
 |e::l,i,0,c,h=>rfl
 |e::l,i,n+1,c,h=>by
  unfold runC at h;rw[List.take_succ_cons];unfold runC;split at h
  ·rename_i h1;exact absurd h h1
  ·rename_i h1;rw[if_neg h1];exact yCH l (i+1) n _ h
theorem y65{l:List Ev}(h:(rep l).1=0)(n:Nat):(rep (l.take n)).1=0:=by
 have ok:=yCq h;unfold rep at h ⊢;rw[if_neg (by omega)]at h
 rw[if_neg (by rw[List.length_take];omega)]
 exact yCH l 0 n [] h
theorem yEj{l:List Ev}(h:(rep l).1=0){i:Nat}{e:Ev}(he:l[i]?=some e):(yn i (rep (l.take i)).2.2 e).1=0/\(rep (l.take (i+1))).2.2=(yn i (rep (l.take i)).2.2 e).2:=by
 have hi:i < l.length:=(List.getElem?_eq_some_iff.1 he).1;have ok:=yCq h;have h1:=y65 h (i+1);have h2:l.take (i+1)=l.take i++[e]:=by rw[List.take_add_one,he];rfl
 have hl:(l.take i).length=i:=by rw[List.length_take];omega
 rw[h2,yNA _ _ (by rw[hl];omega),hl,if_neg (show ¬ (rep (l.take i)).1≠0 from λ g=>g (y65 h i))]at h1 ⊢
 by_cases h3:(yn i (rep (l.take i)).2.2 e).1=0
 ·rw[if_neg (show ¬ (yn i (rep (l.take i)).2.2 e).1≠0 from λ g=>g h3)]
  exact ⟨h3,rfl⟩
 ·rw[if_pos h3]at h1;exact absurd h1 h3
theorem yFS{i:Nat}{c:List Ev}{e:Ev}(h:(yn i c e).1=0)(hu:e.2.1≠Kd.undo.str):(yn i c e).2=c++[e]/\(aft (finR rFirst c) e).1=0/\ckE e=0/\e.1=(i:Int)+1:=by
 unfold yn at h ⊢;split at h
 ·rename_i h1;exact absurd h h1
 rename_i h1;rw[if_neg h1];split at h
 ·cases h
 rename_i h2;rw[if_neg h2,if_neg hu];split at h
 ·rename_i h3;exact absurd h h3
 rename_i h3;rw[if_neg h3];exact ⟨rfl,Decidable.not_not.1 h3,Decidable.not_not.1 h1,Decidable.not_not.1 h2⟩
theorem yDg(l:List Ev)(n:Nat)(hn:n<=1000):∃ b,yLX l (n:Int)=some (b,())/\(b=true->l.length<=n/\(∀ e∈l,Sho e)/\(rep l).1=0):=by
 obtain ⟨b,hb,hs⟩:=yK5 l n hn;unfold yLX yNr;rw[hb];cases b with
 |false=>exact ⟨false,rfl,λ h=>by cases h⟩
 |true =>
  have hs:=hs rfl;simp only[bind_some,Bool.not_true,cond_false];rw[yMl];simp only[bind_some];refine ⟨_,rfl,λ h=>⟨hs.1,hs.2,?_⟩⟩
  have h1:(repL (rep l)).2.2.1=0:=beq_iff_eq.1 h;unfold repL at h1;by_cases h2:(rep l).1=0
  ·exact h2
  ·rw[if_neg h2]at h1;exact h1
theorem yJh{l:List Ev}(h:(rep l).1=0):repL (rep l)=(finR rFirst (rep l).2.2,0,0,()):=by unfold repL;rw[if_pos h]
theorem yOP{r:Rg}{e:Ev}(h:(aft r e).1=0):aft r e=((act r (kdE e) (nmE e 0) (nmE e 1) (vlE e 1) (vlE e 2)).1,setT (act r (kdE e) (nmE e 0) (nmE e 1) (vlE e 1) (vlE e 2)).2 (vlE e 0)):=by
 unfold aft aftK at h ⊢;split at h
 ·cases h
 ·rename_i h1;rw[if_neg h1]
end Go.Tw
end
section
set_option maxRecDepth 100000
namespace Go.Tw
open Go.Vx Go.Vx.B Go.Proofs
structure Le (r r':Rg):Prop where
 run:rRun r<=rRun r'
 cs:rCs r<=rCs r'
 gs:∀ (i:Nat) g,(rGs r)[i]?=some g->∃ g',(rGs r')[i]?=some g'/\g'.1=g.1/\g.2.2.1<=g'.2.2.1
 ts:∀ (i:Nat) t,(rTs r)[i]?=some t->∃ t',(rTs r')[i]?=some t'/\t'.1=t.1/\t.2.1<=t'.2.1
structure Bnd (n:Nat) (r:Rg):Prop where
 cs:0<=rCs r/\rCs r<=n
 ts:∀ t∈rTs r,0<=t.2.1/\t.2.1<=n
theorem Le.rfl'(r:Rg):Le r r:=⟨le_refl _,le_refl _,λ i g h=>⟨g,h,rfl,le_refl _⟩,λ i g h=>⟨g,h,rfl,le_refl _⟩⟩
theorem Le.trans'{a b c:Rg}(h:Le a b)(k:Le b c):Le a c:=⟨le_trans h.run k.run,le_trans h.cs k.cs,
 λ i g hg=>by
  obtain ⟨g1,a1,a2,a3⟩:=h.gs i g hg;obtain ⟨g2,b1,b2,b3⟩:=k.gs i g1 a1;exact ⟨g2,b1,b2.trans a2,le_trans a3 b3⟩,
 λ i g hg=>by
  obtain ⟨g1,a1,a2,a3⟩:=h.ts i g hg;obtain ⟨g2,b1,b2,b3⟩:=k.ts i g1 a1;exact ⟨g2,b1,b2.trans a2,le_trans a3 b3⟩⟩
theorem yIY(r:Rg)(d:Kd)(a b:Str)(v w:Int):rRun r<=rRun (act r d a b v w).2:=by
 by_cases h:d=.forecast
 ·subst h;unfold act;simp only;split
  ·exact le_refl _
  split
  ·exact le_refl _
  ·rename_i h1;show rRun r<=v;omega
 ·rw[run_act' r d a b v w h];exact le_refl _
where
 run_act' (r:Rg) (d:Kd) (a b:Str) (v w:Int) (h:d≠.forecast):rRun (act r d a b v w).2=rRun r:=by
  unfold act;cases d<;>first|exact absurd rfl h|rfl|(simp only;(repeat' split)<;>rfl)
theorem yM2(r:Rg)(d:Kd)(a b:Str)(v w:Int):rCs (act r d a b v w).2=rCs r\/rCs (act r d a b v w).2=i64.wrap (rCs r+1):=by
 have dd:∀ s,rCs (decd r s)=rCs r\/rCs (decd r s)=i64.wrap (rCs r+1):=by
  intro s;show (if s=sClose/\rSt r≠sClose then i64.wrap (rCs r+1)else rCs r)=rCs r\/(if s=sClose/\rSt r≠sClose then i64.wrap (rCs r+1)else rCs r)=_
  split
  ·exact .inr rfl
  ·exact .inl rfl
 cases d;case decide =>
  unfold act;simp only;split
  ·exact .inl rfl
  split
  ·exact .inl rfl
  ·exact dd a
 case override =>
  unfold act;simp only;split
  ·exact .inl rfl
  split
  ·exact .inl rfl
  ·exact dd a
 all_goals
  unfold act;first
  | exact .inl rfl
  | (simp only;(repeat' split)<;>exact .inl rfl)
theorem yKe(r:Rg)(d:Kd)(a b:Str)(v w:Int):∀ t'∈rTs (act r d a b v w).2,(∃ t∈rTs r,t'.2.1=t.2.1\/t'.2.1=i64.wrap (t.2.1+1))\/t'.2.1=1:=by
 have same:∀ t'∈rTs r,(∃ t∈rTs r,t'.2.1=t.2.1\/t'.2.1=i64.wrap (t.2.1+1))\/t'.2.1=1:=λ t' h=>.inl ⟨t',h,.inl rfl⟩
 cases d;case issue =>
  unfold act;simp only;cases hq:tAt (rTs r) a with
  |none =>
   simp only;split
   ·exact same
   ·intro t' h;rcases mem_append.1 h with h|h
    ·exact same t' h
    ·rw[List.mem_singleton.1 h];exact .inr rfl
  |some j =>
   obtain ⟨y,y1,y2,y3⟩:=tAt_some hq;simp only[y3];intro t' h;rcases List.mem_or_eq_of_mem_set h with h|h
   ·exact same t' h
   ·rw[h];exact .inl ⟨y,List.mem_of_getElem? y1,.inr rfl⟩
 all_goals
  unfold act;first
  | exact same
  | (simp only;(repeat' split)<;>exact same)
theorem grow{r:Rg}{n:Nat}(hb:Bnd n r)(hn:n<=1000){e:Ev}(h:(aft r e).1=0):Bnd (n+1) (aft r e).2/\Le r (aft r e).2:=by
 rw[yOP h];have w1:∀ x:Int,0<=x->x<=n->i64.wrap (x+1)=x+1:=λ x h1 h2=>y2s (by omega) (by omega)
 refine ⟨⟨?_,λ t' ht=>?_⟩,⟨yIY ..,?_,λ i g hg=>?_,λ i t ht=>?_⟩⟩
 ·show 0<=rCs (act r _ _ _ _ _).2/\rCs (act r _ _ _ _ _).2<=((n+1:Nat):Int)
  have:=hb.cs;rcases yM2 r (kdE e) (nmE e 0) (nmE e 1) (vlE e 1) (vlE e 2)with h|h
  ·rw[h];omega
  ·rw[h,w1 _ this.1 this.2];omega
 ·rcases yKe r (kdE e) (nmE e 0) (nmE e 1) (vlE e 1) (vlE e 2) t' ht with ⟨t,ht,h|h⟩|h
  ·rw[h];have:=hb.ts t ht;omega
  ·have:=hb.ts t ht;rw[h,w1 _ this.1 this.2];omega
  ·rw[h];omega
 ·show rCs r<=rCs (act r _ _ _ _ _).2
  have:=hb.cs;rcases yM2 r (kdE e) (nmE e 0) (nmE e 1) (vlE e 1) (vlE e 2)with h|h
  ·rw[h];exact le_refl _
  ·rw[h,w1 _ this.1 this.2];omega
 ·obtain ⟨g',a1,a2,a3⟩:=yHP r (kdE e) (nmE e 0) (nmE e 1) (vlE e 1) (vlE e 2) i g hg;refine ⟨g',a1,a2,?_⟩;rcases a3 with a3|a3
  ·rw[a3.2];exact le_refl _
  ·rw[<- a3.vl];exact Int.le_of_lt a3.lt
 ·obtain ⟨g',a1,a2,a3⟩:=yGF r (kdE e) (nmE e 0) (nmE e 1) (vlE e 1) (vlE e 2) i t ht;refine ⟨g',a1,a2,?_⟩;have:=hb.ts t (List.mem_of_getElem? ht);rcases a3 with a3|a3
  ·rw[a3];exact le_refl _
  ·rw[a3,w1 _ this.1 this.2];omega
theorem yAI:∀ (c:List Ev) (r:Rg) (n:Nat),okC r c->Bnd n r->n+c.length<=1000->Le r (finR r c)/\Bnd (n+c.length) (finR r c)
 |[],r,n,_,hb,_=>⟨Le.rfl' r,hb⟩
 |e::c,r,n,ho,hb,hn=>by
  simp only[List.length_cons]at hn;have g:=grow hb (by omega) ho.2.1
  have ih:=yAI c (aft r e).2 (n+1) ho.2.2 g.1 (by omega)
  refine ⟨g.2.trans' ih.1,?_⟩;rw[show n+(e::c).length=n+1+c.length by simp;omega]
  exact ih.2
theorem y89:∀ (a b:List Ev) (r:Rg),finR r (a++b)=finR (finR r a) b
 |[],b,r=>rfl
 |e::a,b,r=>y89 a b _
theorem y9c:∀ (a b:List Ev) (r:Rg),okC r (a++b)->okC r a/\okC (finR r a) b
 |[],b,r,h=>⟨trivial,h⟩
 |e::a,b,r,h=>by
  have:=y9c a b _ h.2.2;exact ⟨⟨h.1,h.2.1,this.1⟩,this.2⟩
theorem yF6:∀ (c:List Ev) (r:Rg) (e:Ev),okC r (c++[e])->(∀ x∈c,vlE x 0<=vlE e 0)/\rTk r<=vlE e 0
 |[],r,e,h=>⟨(λ x hx=>by cases hx),(y5E h.2.1).1⟩
 |x::c,r,e,h=>by
  have ih:=yF6 c _ e h.2.2;have q:=y5E h.2.1;refine ⟨λ y hy=>?_,by omega⟩
  rcases List.mem_cons.1 hy with rfl|hy
  ·omega
  ·exact ih.1 y hy
theorem yEU:∀ (c:List Ev) (r:Rg),okC r c->(∀ x∈c,vlE x 0<=rTk (finR r c))/\rTk r<=rTk (finR r c)
 |[],r,_=>⟨(λ x hx=>by cases hx),le_refl _⟩
 |x::c,r,h=>by
  have ih:=yEU c _ h.2.2;have q:=y5E h.2.1;show (∀ y∈x::c,vlE y 0<=rTk (finR (aft r x).2 c))/\rTk r<=rTk (finR (aft r x).2 c)
  refine ⟨λ y hy=>?_,by omega⟩
  rcases List.mem_cons.1 hy with rfl|hy
  ·omega
  ·exact ih.1 y hy
theorem yIJ{e:Ev}{d:Kd}(h:EvOk e d)(hd:d≠.undo):0<=vlE e 0/\vlE e 0<=999999999:=by
 have h1:0 < e.2.2.2.1.length:=by rw[h.nv];cases d<;>first|decide|exact absurd rfl hd
 have:=h.vals (e.2.2.2.1[0]) (List.getElem_mem h1);rw[show vlE e 0=e.2.2.2.1[0] by simp[List.getD,List.getElem?_eq_getElem h1]]
 exact this
theorem y9n:∀ (c:List Ev) (r:Rg),okC r c->0<=rTk r/\rTk r<=999999999->0<=rTk (finR r c)/\rTk (finR r c)<=999999999
 |[],r,_,h=>h
 |x::c,r,ho,h=>by
  obtain ⟨d,h1,h2⟩:=ho.1;refine y9n c _ ho.2.2 ?_
  rw[(y5E ho.2.1).2];exact yIJ h1 h2
theorem yHn{l:List Ev}(h:(rep l).1=0)(hu:∀ e∈l,e.2.1≠Kd.undo.str):∀ i,i<=l.length->(rep (l.take i)).2.2=l.take i
 |0,_=>rfl
 |i+1,hi=>by
  have he:l[i]?=some l[i]:=List.getElem?_eq_getElem (by omega)
  have q:=yEj h he;rw[q.2,(yFS q.1 (hu _ (List.getElem_mem _))).1,yHn h hu i (by omega),List.take_add_one,he]
  rfl
theorem yDU{l:List Ev}(h:(rep l).1=0)(hu:∀ e∈l,e.2.1≠Kd.undo.str):(rep l).2.2=l:=by
 have:=yHn h hu l.length (Nat.le_refl _);rwa[List.take_length]at this
theorem yGx{α:Type}{p:α->Bool}:∀ {l:List α},(∀ x∈l,p x=true)->l.takeWhile p=l
 |[],_=>rfl
 |x::l,h=>by rw[takeWhile_cons,if_pos (h x (by simp)),yGx λ y hy=>h y (by simp[hy])]
theorem yHe{α:Type}{p:α->Bool}{x:α}:∀ {l:List α},p x=false->(l++[x]).takeWhile p=l.takeWhile p
 |[],h=>by simp[h]
 |y::l,h=>by
  rw[List.cons_append,takeWhile_cons,takeWhile_cons,yHe h]
theorem yCz(t:Int):∀ c:List Ev,(upto c t).length<=(upto c (t+1)).length
 |[]=>Nat.le_refl _
 |e::c=>by
  unfold upto;rw[takeWhile_cons,takeWhile_cons];by_cases h:vlE e 0<=t
  ·rw[if_pos (by simpa using h),if_pos (decide_eq_true (show vlE e 0<=t+1 by omega))]
   have:=yCz t c;unfold upto at this;simpa using this
  ·rw[if_neg (by simpa using h)]
   simp
theorem yKt(c:List Ev)(hc:c.length<=1000)(ho:okC rFirst c)(t:Int):Le (finR rFirst (upto c t)) (finR rFirst (upto c (t+1))):=by
 have e1:=y5i c t;have e2:=y5i c (t+1);have hm:=yCz t c;have e4:(c.take (upto c (t+1)).length).take (upto c t).length=upto c t:=by rw[List.take_take,Nat.min_eq_left hm,e1]
 rw[e2]at e4;have e3:upto c (t+1)=upto c t++(upto c (t+1)).drop (upto c t).length:=by
  have:=List.take_append_drop (upto c t).length (upto c (t+1));rw[e4]at this;exact this.symm
 have o2:=yAJ c rFirst (t+1) ho;rw[e3]at o2 ⊢;have o3:=y9c _ _ _ o2;have l1:(upto c t).length+((upto c (t+1)).drop (upto c t).length).length<=1000:=by
  have:(upto c (t+1)).length<=c.length:=List.IsPrefix.length_le (List.takeWhile_prefix _);rw[List.length_drop];omega
 rw[y89];have g1:=yAI (upto c t) rFirst 0 o3.1 ⟨⟨by decide,by decide⟩,(λ t ht=>by cases ht)⟩ (by omega)
 exact (yAI _ _ _ o3.2 g1.2 (by omega)).1
end Go.Tw
end
section
set_option maxRecDepth 100000
namespace Go.Tw
open Go.Vx Go.Vx.B Go.Proofs
theorem yR0{y:Int}(h:(Lit.int .u8 y).wf=true):0<=y/\y<=255:=by
 simp only[Lit.wf,Bool.and_eq_true,decide_eq_true_eq]at h;have e1:IntKind.min .u8=0:=by decide
 have e2:IntKind.max .u8=255:=by decide
 omega
theorem yCK{α:Type}{body:Int->α->Unit->Option ((Bool×Unit)⊕Unit)}{fin:Unit->Option (Bool×Unit)}(xs:List α)(hb:∀ (i:Nat) x,xs[i]?=some x->body (i:Int) x ()=some (.inr ()))(hf:fin ()=some (true,())):ya body fin 0 xs ()=some (true,()):=by
 have:=y35 (body:=body) (fin:=fin) xs (λ p x r e=>hb p.length x (by rw[e];simp)) xs [] 0 rfl rfl
 rw[this,hf]
theorem yJv(l:List Ev)(hl:l.length<=20)(sh:y6g l)(h:(rep l).1=0)(hu:∀ e∈l,e.2.1≠Kd.undo.str)(t:Int)(ht:0<=t/\t<=255) :
  yHg l t l ((upto l t).length:Int)=some (true,()):=by
 have hc:=yDU h hu;have ho:okC rFirst l:=by have:=(yCq h).1;rwa[hc]at this
 have hp:(upto l t).length<=l.length:=List.IsPrefix.length_le (List.takeWhile_prefix _);have hut:l.take (upto l t).length=upto l t:=y5i l t;have ru:(rep (upto l t)).1=0:=by rw[<- hut];exact y65 h _
 have rc:(rep (upto l t)).2.2=upto l t:=by
  have:=yHn h hu (upto l t).length hp;rwa[hut]at this
 have su:y6g (upto l t):=λ e he=>sh e ((List.takeWhile_prefix _).subset he)
 have i1:=y6A _ _ y3z (yAJ l rFirst t ho);have i2:=y6A _ _ y3z (yAJ l rFirst (t+1) ho);have i3:=y6A _ _ y3z ho;have s1:=i1.small;have s2:=i2.small;have s3:=i3.small;have tr:=y9n l rFirst ho ⟨by decide,by decide⟩
 have ud:upto l (rTk (finR rFirst l))=l:=yGx λ x hx=>decide_eq_true ((yEU l rFirst ho).1 x hx)
 have a1:asof l t=(finR rFirst (upto l t),0,()):=by
  unfold asof;rw[if_neg (show ¬ (rep l).1≠0 from λ g=>g h),if_neg (by omega),hc]
 have a2:asof l (t+1)=(finR rFirst (upto l (t+1)),0,()):=by
  unfold asof;rw[if_neg (show ¬ (rep l).1≠0 from λ g=>g h),if_neg (by omega),hc]
 have a3:asof l (rTk (finR rFirst l))=(finR rFirst l,0,()):=by
  unfold asof;rw[if_neg (show ¬ (rep l).1≠0 from λ g=>g h),if_neg (by omega),hc,ud]
 have le:=yKt l (by omega) ho t
 unfold yHg;rw[y2s (show -9223372036854775808<=t by omega) (by omega),y2s (show -9223372036854775808<=t+1 by omega) (by omega)]
 rw[yMa l sh t,a1,yMa l sh (t+1),a2,yHb l sh,yJh h,hc];simp only[bind_some];rw[y4 (show 0<=((upto l t).length:Int) by omega),y4 (show ((upto l t).length:Int)<=(l.length:Int) by omega)]
 rw[show ((upto l t).length:Int).toNat=(upto l t).length by omega,hut,yHb _ su,yJh ru,rc,yMa l sh (finR rFirst l).1,show asof l (finR rFirst l).1=_ from a3]
 simp only[bind_some,Bool.and_true,cond_true,Bool.and_self];have z:((0:Int) != 0)=false:=rfl;rw[z];simp only[cond_false];rw[show yHk _=some (finR rFirst (upto l t),())from regE (finR rFirst (upto l t)) s1.g s1.t]
 simp only[bind_some];rw[yQG _ s1.g s1.s s1.t];simp only[bind_some,Bool.not_true,cond_false];rw[show yHk _=some (finR rFirst l,())from regE (finR rFirst l) s3.g s3.t]
 simp only[bind_some];rw[yQG _ s3.g s3.s s3.t];simp only[bind_some,Bool.not_true,cond_false];have len:∀ {α:Type} (xs ys:List α),(∀ (i:Nat) x,xs[i]?=some x->∃ y,ys[i]?=some y)->xs.length<=ys.length:=by
  intro α xs ys hxy;by_cases hz:xs.length=0
  ·omega
  ·obtain ⟨y,hy⟩:=hxy (xs.length - 1) (xs[xs.length - 1]'(by omega)) (List.getElem?_eq_getElem _)
   have:=(List.getElem?_eq_some_iff.1 hy).1;omega
 have lg:=len (rGs (finR rFirst (upto l t))) (rGs (finR rFirst (upto l (t+1)))) λ i x hx=>by obtain ⟨y,hy,_⟩:=le.gs i x hx;exact ⟨y,hy⟩
 have lt:=len (rTs (finR rFirst (upto l t))) (rTs (finR rFirst (upto l (t+1)))) λ i x hx=>by obtain ⟨y,hy,_⟩:=le.ts i x hx;exact ⟨y,hy⟩
 rw[bifF (y6 (show ¬ (finR rFirst (upto l (t+1))).2.2.1 < (finR rFirst (upto l t)).2.2.1 from not_lt.2 le.run)),
  bifF (y6 (show ¬ (finR rFirst (upto l (t+1))).2.2.2.2.2.2.2.1 < (finR rFirst (upto l t)).2.2.2.2.2.2.2.1 from not_lt.2 le.cs)),
  bifF (y6 (show ¬ ((finR rFirst (upto l (t+1))).2.2.2.2.2.2.2.2.1.length:Int) < ((finR rFirst (upto l t)).2.2.2.2.2.2.2.2.1.length:Int)from not_lt.2 (Int.ofNat_le.2 lg))),
  bifF (y6 (show ¬ ((finR rFirst (upto l (t+1))).2.2.2.2.2.2.2.2.2.2.1.length:Int) < ((finR rFirst (upto l t)).2.2.2.2.2.2.2.2.2.2.1.length:Int)from not_lt.2 (Int.ofNat_le.2 lt)))]
 rw[bifT (y4 (show (rGs (finR rFirst (upto l t))).length < yD by have:=s1.g;unfold yD;omega))]
 refine yCK _ (λ i g hg=>?_) ?_
 ·obtain ⟨g',b1,b2,b3⟩:=le.gs i g hg;unfold yIc;rw[show idx (finR rFirst (upto l (t+1))).2.2.2.2.2.2.2.2.1 (i:Int)=some g' from (y00 _ _).trans b1]
  simp only[bind_some];rw[show (g'.1 == g.1)=true from beq_iff_eq.2 b2,y6 (show ¬ g'.2.2.1 < g.2.2.1 from not_lt.2 b3)]
  rfl
 ·unfold yID;rw[bifT (y4 (show (rTs (finR rFirst (upto l t))).length < yD by have:=s1.t;unfold yD;omega))]
  refine yCK _ (λ i g hg=>?_) ?_
  ·obtain ⟨g',b1,b2,b3⟩:=le.ts i g hg;unfold yJl;rw[show idx (finR rFirst (upto l (t+1))).2.2.2.2.2.2.2.2.2.2.1 (i:Int)=some g' from (y00 _ _).trans b1]
   simp only[bind_some];rw[show (g'.1 == g.1)=true from beq_iff_eq.2 b2,y6 (show ¬ g'.2.1 < g.2.1 from not_lt.2 b3)]
   rfl
  ·unfold yJb;rw[y6P];rfl
theorem yBk(l:List Ev)(hl:l.length<=20)(sh:y6g l)(h:(rep l).1=0)(t:Int)(ht:0<=t/\t<=255):∀ (r done:List Ev),l=done++r->(∀ e∈done,e.2.1≠Kd.undo.str) ->
  ya (λ i__ e__ s__=>yDh l t l i__ e__ s__) (λ s__=>yHg l t l s__) (done.length:Int) r ((upto done t).length:Int)=some (true,())
 |[],done,hd,hu=>by
  rw[List.append_nil]at hd;subst hd;exact yJv l hl sh h hu t ht
 |e::r,done,hd,hu=>by
  have hlen:l.length=done.length+(r.length+1):=by rw[hd];simp
  have he:l[done.length]?=some e:=by rw[hd];simp
  have tk:l.take done.length=done:=by rw[hd];simp
  have tk1:l.take (done.length+1)=done++[e]:=by rw[List.take_add_one,he,tk];rfl
  by_cases hk:e.2.1=Kd.undo.str
  ·have hb:yDh l t l (done.length:Int) e ((upto done t).length:Int)=some (.inl (true,())):=by
    unfold yDh;rw[yAi,bifT (y4 hk),y6P];rfl
   rw[ye,hb];rfl
  ·have hrd:(rep done).1=0:=by rw[<- tk];exact y65 h _
   have hcd:(rep done).2.2=done:=yDU hrd hu;have q:=yEj h he;have st:=yFS q.1 hk;rw[tk,hcd]at st;obtain ⟨d,hok⟩:=yFD st.2.2.1;have hdu:d≠.undo:=λ e=>hk (by rw[hok.kind,e])
   have hu2:∀ x∈done++[e],x.2.1≠Kd.undo.str:=λ x hx=>by
    rcases mem_append.1 hx with hx|hx
    ·exact hu x hx
    ·rw[List.mem_singleton.1 hx];exact hk
   have ih:=yBk l hl sh h t ht r (done++[e]) (by rw[hd];simp) hu2
   have o2:okC rFirst (done++[e]):=by
    have hr2:(rep (done++[e])).1=0:=by rw[<- tk1];exact y65 h _
    have:=(yCq hr2).1;rwa[yDU hr2 hu2]at this
   simp only[List.length_append,List.length_cons,List.length_nil]at ih;have hb:yDh l t l (done.length:Int) e ((upto done t).length:Int)=some (.inr ((upto (done++[e]) t).length:Int)):=by
    unfold yDh;rw[yAi,bifF (y6 hk),yLx hok hdu,y2s (show -9223372036854775808<=t by omega) (by omega)]
    simp only[bind_some];by_cases hv:vlE e 0<=t
    ·have e1:upto (done++[e]) t=done++[e]:=yGx λ x hx=>decide_eq_true (by
      rcases mem_append.1 hx with hx|hx
      ·have:=(yF6 done rFirst e o2).1 x hx;omega
      ·rw[List.mem_singleton.1 hx];exact hv)
     rw[bifT (y4 hv),y2s (show -9223372036854775808<=(done.length:Int)+1 by omega) (by omega),e1]
     simp
    ·have e1:upto (done++[e]) t=upto done t:=yHe (by simpa using hv)
     rw[bifF (y6 hv),e1]
   rw[ye,hb];exact ih
theorem yJp(l:List Ev)(t:Int)(ht:0<=t/\t<=255):zu_M l t=some (true,()):=by
 unfold zu_M;obtain ⟨b,hb,hs⟩:=yDg l 20 (by decide)
 rw[show yLX l 20=some (b,())from hb]
 simp only[bind_some,y6P];cases b with
 |false=>rfl
 |true =>
  obtain ⟨h1,h2,h3⟩:=hs rfl;simp only[Bool.not_true,cond_false];rw[bifT (y4 (show l.length < yD by unfold yD;omega))]
  exact yBk l h1 (yIF h2) h3 t ht l [] rfl (λ e he=>by cases he)
end Go.Tw
end
