import Derived.Test.YtemgjgkbgkeknaaGreatDoorP10
import Derived.Test.YtemgjgkbgkeknaaGreatDoorP8
import Derived.Test.YtemgjgkbgkeknaaGreatDoorBPast
set_option linter.all false
open Option (bind_some)
open Int (le_refl le_trans)
open Go.IntKind (i64)
section
set_option maxRecDepth 100000
namespace Go.Tw
open Go.Vx Go.Vx.B Go.Proofs
structure Moved (r:Rg) (d:Kd) (a b:Str) (v:Int) (g g':Gt):Prop where
 kd:d=.command
 nm:a=g.1
 vl:v=g'.2.2.1
 lt:g.2.2.1 < v
 permit:g.2.2.2.2.1=[]
 ships:rSs r=[]
 bb:b=y1B\/b=y1j
 low:g'.2.1=(b == y1B)
 st1:¬ (b=y1B/\rSt r=y3f)
 st2:¬ (b=y1j/\rSt r=sClose)
theorem yK8(r:Rg)(d:Kd)(a b:Str)(v w:Int):∀ (i:Nat) (g:Gt),(rGs r)[i]?=some g->∃ g',(rGs (act r d a b v w).2)[i]?=some g'/\g'.1=g.1/\(g'.2.1=g.2.1/\g'.2.2.1=g.2.2.1\/Moved r d a b v g g'):=by
 intro i g hg;have same:∃ g',(rGs r)[i]?=some g'/\g'.1=g.1/\(g'.2.1=g.2.1/\g'.2.2.1=g.2.2.1\/Moved r d a b v g g'):=⟨g,hg,rfl,.inl ⟨rfl,rfl⟩⟩;have hlt:i < (rGs r).length:=(List.getElem?_eq_some_iff.1 hg).1;have set:∀ (j:Nat) (x:Gt),(∀ y,(rGs r)[j]?=some y->j=i->x.1=y.1/\(x.2.1=y.2.1/\x.2.2.1=y.2.2.1\/Moved r d a b v y x))->∃ g',((rGs r).set j x)[i]?=some g'/\g'.1=g.1/\(g'.2.1=g.2.1/\g'.2.2.1=g.2.2.1\/Moved r d a b v g g'):=by
  intro j x hx;rw[List.getElem?_set];by_cases e:j=i
  ·subst e;rw[if_pos rfl,if_pos hlt];have:=hx g hg rfl;exact ⟨x,rfl,this.1,this.2⟩
  ·rw[if_neg e];exact ⟨g,hg,rfl,.inl ⟨rfl,rfl⟩⟩
 cases d;case gate =>
  unfold act;simp only;split
  ·exact same
  split
  ·exact same
  ·exact ⟨g,(List.getElem?_append_left hlt).trans hg,rfl,.inl ⟨rfl,rfl⟩⟩
 case command =>
  unfold act;simp only;cases hq:gAt (rGs r) a with
  |none=>exact same
  |some j =>
   obtain ⟨y,y1,y2,y3⟩:=y2B hq;simp only[y3];split
   ·exact same
   rename_i k1;split
   ·exact same
   split
   ·exact same
   rename_i k2;split
   ·split
    ·exact same
    ·exact same
   rename_i k3;split
   ·exact same
   rename_i k4;refine set j _ λ z hz e=>?_
   obtain rfl:y=z:=Option.some.inj (y1.symm.trans hz);refine ⟨rfl,.inr ?_⟩;have k5:mvs r y b=0:=Decidable.not_not.1 k4;unfold mvs at k5;split at k5
   ·cases k5
   rename_i k6;split at k5
   ·cases k5
   rename_i k7;split at k5
   ·cases k5
   rename_i k8;refine ⟨rfl,y2.symm,rfl,by omega,Decidable.not_not.1 k6,Decidable.not_not.1 k7,?_,rfl,λ h=>k8 (.inl h),λ h=>k8 (.inr h)⟩
   by_cases k9:b=y1B
   ·exact .inl k9
   ·exact .inr (Decidable.not_not.1 λ k10=>k1 ⟨k9,k10⟩)
 case lock =>
  unfold act;simp only;cases hq:gAt (rGs r) a with
  |none=>exact same
  |some j =>
   obtain ⟨y,y1,y2,y3⟩:=y2B hq;simp only[y3];split
   ·exact same
   refine set j _ λ z hz e=>?_
   obtain rfl:y=z:=Option.some.inj (y1.symm.trans hz);exact ⟨rfl,.inl ⟨rfl,rfl⟩⟩
 case unlock =>
  unfold act;simp only;cases hq:gAt (rGs r) a with
  |none=>exact same
  |some j =>
   obtain ⟨y,y1,y2,y3⟩:=y2B hq;simp only[y3];split
   ·exact same
   refine set j _ λ z hz e=>?_
   obtain rfl:y=z:=Option.some.inj (y1.symm.trans hz);exact ⟨rfl,.inl ⟨rfl,rfl⟩⟩
 case undo=>exact same
 all_goals
  unfold act;first
  | exact same
  | (simp only;(repeat' split)<;>exact same)
theorem yHO(r:Rg)(d:Kd)(a b:Str)(v w:Int):∀ (i:Nat) (t:Th),(rTs r)[i]?=some t->∃ t',(rTs (act r d a b v w).2)[i]?=some t'/\t'.1=t.1/\(t'.2.1=t.2.1\/t'.2.1=i64.wrap (t.2.1+1)):=by
 intro i g hg;have same:∃ g',(rTs r)[i]?=some g'/\g'.1=g.1/\(g'.2.1=g.2.1\/g'.2.1=i64.wrap (g.2.1+1)):=⟨g,hg,rfl,.inl rfl⟩;have hlt:i < (rTs r).length:=(List.getElem?_eq_some_iff.1 hg).1;cases d;case issue =>
  unfold act;simp only;cases hq:tAt (rTs r) a with
  |none =>
   simp only;split
   ·exact same
   ·exact ⟨g,(List.getElem?_append_left hlt).trans hg,rfl,.inl rfl⟩
  |some j =>
   obtain ⟨y,y1,y2,y3⟩:=tAt_some hq;simp only[y3];show ∃ g',((rTs r).set j _)[i]?=some g'/\_
   rw[List.getElem?_set];by_cases e:j=i
   ·subst e;obtain rfl:y=g:=Option.some.inj (y1.symm.trans hg);rw[if_pos rfl,if_pos hlt];exact ⟨_,rfl,rfl,.inr rfl⟩
   ·rw[if_neg e];exact ⟨g,hg,rfl,.inl rfl⟩
 case undo=>exact same
 case command =>
  unfold act;simp only;cases hq:gAt (rGs r) a with
  |none=>exact same
  |some j=>simp only;(repeat' split)<;>exact same
 case lock =>
  unfold act;simp only;cases hq:gAt (rGs r) a with
  |none=>exact same
  |some j=>simp only;(repeat' split)<;>exact same
 case unlock =>
  unfold act;simp only;cases hq:gAt (rGs r) a with
  |none=>exact same
  |some j=>simp only;(repeat' split)<;>exact same
 all_goals
  unfold act;first
  | exact same
  | (simp only;(repeat' split)<;>exact same)
theorem yCC:∀ (l:List Ev) (i n:Nat) (c:List Ev),(runC l i c).1=0->(runC (l.take n) i c).1=0
 |[],i,n,c,h=>by simpa using h
 |e::l,i,0,c,h=>rfl
 |e::l,i,n+1,c,h=>by
  unfold runC at h;rw[List.take_succ_cons];unfold runC;split at h
  ·rename_i h1;exact absurd h h1
  ·rename_i h1;rw[if_neg h1];exact yCC l (i+1) n _ h
theorem yAi{l:List Ev}(h:(rep l).1=0)(n:Nat):(rep (l.take n)).1=0:=by
 have ok:=y6s h;unfold rep at h ⊢;rw[if_neg (by omega)]at h
 rw[if_neg (by rw[List.length_take];omega)]
 exact yCC l 0 n [] h
theorem yFA{l:List Ev}(h:(rep l).1=0){i:Nat}{e:Ev}(he:l[i]?=some e):(yn i (rep (l.take i)).2.2 e).1=0/\(rep (l.take (i+1))).2.2=(yn i (rep (l.take i)).2.2 e).2:=by
 have hi:i < l.length:=(List.getElem?_eq_some_iff.1 he).1;have ok:=y6s h;have h1:=yAi h (i+1);have h2:l.take (i+1)=l.take i++[e]:=by rw[List.take_add_one,he];rfl
 have hl:(l.take i).length=i:=by rw[List.length_take];omega
 rw[h2,yNl _ _ (by rw[hl];omega),hl,if_neg (show ¬ (rep (l.take i)).1≠0 from λ g=>g (yAi h i))]at h1 ⊢
 by_cases h3:(yn i (rep (l.take i)).2.2 e).1=0
 ·rw[if_neg (show ¬ (yn i (rep (l.take i)).2.2 e).1≠0 from λ g=>g h3)]
  exact ⟨h3,rfl⟩
 ·rw[if_pos h3]at h1;exact absurd h1 h3
theorem yFw{i:Nat}{c:List Ev}{e:Ev}(h:(yn i c e).1=0)(hu:e.2.1≠Kd.undo.str):(yn i c e).2=c++[e]/\(aft (finR rFirst c) e).1=0/\ckE e=0/\e.1=(i:Int)+1:=by
 unfold yn at h ⊢;split at h
 ·rename_i h1;exact absurd h h1
 rename_i h1;rw[if_neg h1];split at h
 ·cases h
 rename_i h2;rw[if_neg h2,if_neg hu];split at h
 ·rename_i h3;exact absurd h h3
 rename_i h3;rw[if_neg h3];exact ⟨rfl,Decidable.not_not.1 h3,Decidable.not_not.1 h1,Decidable.not_not.1 h2⟩
theorem yDd(l:List Ev)(n:Nat)(hn:n<=1000):∃ b,yL6 l (n:Int)=some (b,())/\(b=true->l.length<=n/\(∀ e∈l,Sho e)/\(rep l).1=0):=by
 obtain ⟨b,hb,hs⟩:=yMC l n hn;unfold yL6 yOA;rw[hb];cases b with
 |false=>exact ⟨false,rfl,λ h=>by cases h⟩
 |true =>
  have hs:=hs rfl;simp only[bind_some,Bool.not_true,cond_false];rw[yO3];simp only[bind_some];refine ⟨_,rfl,λ h=>⟨hs.1,hs.2,?_⟩⟩
  have h1:(repL (rep l)).2.2.1=0:=beq_iff_eq.1 h;unfold repL at h1;by_cases h2:(rep l).1=0
  ·exact h2
  ·rw[if_neg h2]at h1;exact h1
theorem yAO{r:Rg}{e:Ev}(h:(aft r e).1=0):aft r e=((act r (kdE e) (nmE e 0) (nmE e 1) (vlE e 1) (vlE e 2)).1,setT (act r (kdE e) (nmE e 0) (nmE e 1) (vlE e 1) (vlE e 2)).2 (vlE e 0)):=by
 unfold aft aftK at h ⊢;split at h
 ·cases h
 ·rename_i h1;rw[if_neg h1]
end Go.Tw
end
section
set_option maxRecDepth 100000
namespace Go.Tw
open Go.Vx Go.Vx.B Go.Proofs
structure Le (r r':Rg):Prop where
 run:rRun r<=rRun r'
 cs:rCs r<=rCs r'
 gs:∀ (i:Nat) g,(rGs r)[i]?=some g->∃ g',(rGs r')[i]?=some g'/\g'.1=g.1/\g.2.2.1<=g'.2.2.1
 ts:∀ (i:Nat) t,(rTs r)[i]?=some t->∃ t',(rTs r')[i]?=some t'/\t'.1=t.1/\t.2.1<=t'.2.1
structure Bnd (n:Nat) (r:Rg):Prop where
 cs:0<=rCs r/\rCs r<=n
 ts:∀ t∈rTs r,0<=t.2.1/\t.2.1<=n
theorem Le.trans'{a b c:Rg}(h:Le a b)(k:Le b c):Le a c:=⟨le_trans h.run k.run,le_trans h.cs k.cs,
 λ i g hg=>by
  obtain ⟨g1,a1,a2,a3⟩:=h.gs i g hg;obtain ⟨g2,b1,b2,b3⟩:=k.gs i g1 a1;exact ⟨g2,b1,b2.trans a2,le_trans a3 b3⟩,
 λ i g hg=>by
  obtain ⟨g1,a1,a2,a3⟩:=h.ts i g hg;obtain ⟨g2,b1,b2,b3⟩:=k.ts i g1 a1;exact ⟨g2,b1,b2.trans a2,le_trans a3 b3⟩⟩
theorem yHn(r:Rg)(d:Kd)(a b:Str)(v w:Int):rRun r<=rRun (act r d a b v w).2:=by
 by_cases h:d=.forecast
 ·subst h;unfold act;simp only;split
  ·exact le_refl _
  split
  ·exact le_refl _
  ·rename_i h1;show rRun r<=v;omega
 ·rw[run_act' r d a b v w h];exact le_refl _
where
 run_act' (r:Rg) (d:Kd) (a b:Str) (v w:Int) (h:d≠.forecast):rRun (act r d a b v w).2=rRun r:=by
  unfold act;cases d<;>first|exact absurd rfl h|rfl|(simp only;(repeat' split)<;>rfl)
theorem yMY(r:Rg)(d:Kd)(a b:Str)(v w:Int):rCs (act r d a b v w).2=rCs r\/rCs (act r d a b v w).2=i64.wrap (rCs r+1):=by
 have dd:∀ s,rCs (decd r s)=rCs r\/rCs (decd r s)=i64.wrap (rCs r+1):=by
  intro s;show (if s=sClose/\rSt r≠sClose then i64.wrap (rCs r+1)else rCs r)=rCs r\/(if s=sClose/\rSt r≠sClose then i64.wrap (rCs r+1)else rCs r)=_
  split
  ·exact .inr rfl
  ·exact .inl rfl
 cases d;case decide =>
  unfold act;simp only;split
  ·exact .inl rfl
  split
  ·exact .inl rfl
  ·exact dd a
 case override =>
  unfold act;simp only;split
  ·exact .inl rfl
  split
  ·exact .inl rfl
  ·exact dd a
 all_goals
  unfold act;first
  | exact .inl rfl
  | (simp only;(repeat' split)<;>exact .inl rfl)
theorem yKm(r:Rg)(d:Kd)(a b:Str)(v w:Int):∀ t'∈rTs (act r d a b v w).2,(∃ t∈rTs r,t'.2.1=t.2.1\/t'.2.1=i64.wrap (t.2.1+1))\/t'.2.1=1:=by
 have same:∀ t'∈rTs r,(∃ t∈rTs r,t'.2.1=t.2.1\/t'.2.1=i64.wrap (t.2.1+1))\/t'.2.1=1:=λ t' h=>.inl ⟨t',h,.inl rfl⟩
 cases d;case issue =>
  unfold act;simp only;cases hq:tAt (rTs r) a with
  |none =>
   simp only;split
   ·exact same
   ·intro t' h;rcases List.mem_append.1 h with h|h
    ·exact same t' h
    ·rw[List.mem_singleton.1 h];exact .inr rfl
  |some j =>
   obtain ⟨y,y1,y2,y3⟩:=tAt_some hq;simp only[y3];intro t' h;rcases List.mem_or_eq_of_mem_set h with h|h
   ·exact same t' h
   ·rw[h];exact .inl ⟨y,List.mem_of_getElem? y1,.inr rfl⟩
 all_goals
  unfold act;first
  | exact same
  | (simp only;(repeat' split)<;>exact same)
theorem grow{r:Rg}{n:Nat}(hb:Bnd n r)(hn:n<=1000){e:Ev}(h:(aft r e).1=0):Bnd (n+1) (aft r e).2/\Le r (aft r e).2:=by
 rw[yAO h];have w1:∀ x:Int,0<=x->x<=n->i64.wrap (x+1)=x+1:=λ x h1 h2=>y3K (by omega) (by omega)
 refine ⟨⟨?_,λ t' ht=>?_⟩,⟨yHn ..,?_,λ i g hg=>?_,λ i t ht=>?_⟩⟩
 ·show 0<=rCs (act r _ _ _ _ _).2/\rCs (act r _ _ _ _ _).2<=((n+1:Nat):Int)
  have:=hb.cs;rcases yMY r (kdE e) (nmE e 0) (nmE e 1) (vlE e 1) (vlE e 2)with h|h
  ·rw[h];omega
  ·rw[h,w1 _ this.1 this.2];omega
 ·rcases yKm r (kdE e) (nmE e 0) (nmE e 1) (vlE e 1) (vlE e 2) t' ht with ⟨t,ht,h|h⟩|h
  ·rw[h];have:=hb.ts t ht;omega
  ·have:=hb.ts t ht;rw[h,w1 _ this.1 this.2];omega
  ·rw[h];omega
 ·show rCs r<=rCs (act r _ _ _ _ _).2
  have:=hb.cs;rcases yMY r (kdE e) (nmE e 0) (nmE e 1) (vlE e 1) (vlE e 2)with h|h
  ·rw[h];exact le_refl _
  ·rw[h,w1 _ this.1 this.2];omega
 ·obtain ⟨g',a1,a2,a3⟩:=yK8 r (kdE e) (nmE e 0) (nmE e 1) (vlE e 1) (vlE e 2) i g hg;refine ⟨g',a1,a2,?_⟩;rcases a3 with a3|a3
  ·rw[a3.2];exact le_refl _
  ·rw[<- a3.vl];exact Int.le_of_lt a3.lt
 ·obtain ⟨g',a1,a2,a3⟩:=yHO r (kdE e) (nmE e 0) (nmE e 1) (vlE e 1) (vlE e 2) i t ht;refine ⟨g',a1,a2,?_⟩;have:=hb.ts t (List.mem_of_getElem? ht);rcases a3 with a3|a3
  ·rw[a3];exact le_refl _
  ·rw[a3,w1 _ this.1 this.2];omega
theorem yKI{e:Ev}{d:Kd}(h:EvOk e d)(hd:d≠.undo):0<=vlE e 0/\vlE e 0<=999999999:=by
 have h1:0 < e.2.2.2.1.length:=by rw[h.nv];cases d<;>first|decide|exact absurd rfl hd
 have:=h.vals (e.2.2.2.1[0]) (List.getElem_mem h1);rw[show vlE e 0=e.2.2.2.1[0] by simp[List.getD,List.getElem?_eq_getElem h1]]
 exact this
theorem yMq{l:List Ev}(h:(rep l).1=0)(hu:∀ e∈l,e.2.1≠Kd.undo.str):∀ i,i<=l.length->(rep (l.take i)).2.2=l.take i
 |0,_=>rfl
 |i+1,hi=>by
  have he:l[i]?=some l[i]:=List.getElem?_eq_getElem (by omega)
  have q:=yFA h he;rw[q.2,(yFw q.1 (hu _ (List.getElem_mem _))).1,yMq h hu i (by omega),List.take_add_one,he]
  rfl
theorem yNQ{l:List Ev}(h:(rep l).1=0)(hu:∀ e∈l,e.2.1≠Kd.undo.str):(rep l).2.2=l:=by
 have:=yMq h hu l.length (Nat.le_refl _);rwa[List.take_length]at this
end Go.Tw
end
section
set_option maxRecDepth 100000
namespace Go.Tw
open Go.Vx Go.Vx.B Go.Proofs
theorem yQs{y:Int}(h:(Lit.int .u8 y).wf=true):0<=y/\y<=255:=by
 simp only[Lit.wf,Bool.and_eq_true,decide_eq_true_eq]at h;have e1:IntKind.min .u8=0:=by decide
 have e2:IntKind.max .u8=255:=by decide
 omega
theorem y8C{α:Type}{body:Int->α->Unit->Option ((Bool×Unit)⊕Unit)}{fin:Unit->Option (Bool×Unit)}(xs:List α)(hb:∀ (i:Nat) x,xs[i]?=some x->body (i:Int) x ()=some (.inr ()))(hf:fin ()=some (true,())):yR body fin 0 xs ()=some (true,()):=by
 have:=y6M (body:=body) (fin:=fin) xs (λ p x r e=>hb p.length x (by rw[e];simp)) xs [] 0 rfl rfl
 rw[this,hf]
end Go.Tw
end
