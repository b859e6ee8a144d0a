import Derived.Test.YtemgjgkbgkeknaaGreatDoorVF
import Derived.Shelf.Spec.SearchS
set_option linter.all false
open List (length_set mem_cons pairwise_cons takeWhile_cons)
section
set_option maxRecDepth 100000
namespace Go.Tw
open Go.Vx Go.Proofs
theorem yEx:∀ x:List UInt8,Op.bytesLess x x=false
 |[]=>rfl
 |a::x=>by unfold Op.bytesLess;simp[yEx x]
theorem yLS:∀ x y z:List UInt8,Op.bytesLess x y=true->Op.bytesLess y z=true->Op.bytesLess x z=true
 |x,[],z,h1,h2=>by cases x<;>simp[Op.bytesLess]at h1
 |x,b::y,[],h1,h2=>by simp[Op.bytesLess]at h2
 |[],b::y,c::z,h1,h2=>rfl
 |a::x,b::y,c::z,h1,h2=>by
  unfold Op.bytesLess at h1 h2 ⊢;simp only[Bool.or_eq_true,Bool.and_eq_true,decide_eq_true_eq,beq_iff_eq]at h1 h2 ⊢;rcases h1 with h1|⟨rfl,h1⟩<;>rcases h2 with h2|⟨rfl,h2⟩
  ·exact .inl (UInt8.lt_trans h1 h2)
  ·exact .inl h1
  ·exact .inl h2
  ·exact .inr ⟨rfl,yLS x y z h1 h2⟩
theorem yIU:∀ x y:List UInt8,x≠y->Op.bytesLess x y=false->Op.bytesLess y x=true
 |[],[],h,_=>absurd rfl h
 |[],b::y,_,h=>by simp[Op.bytesLess]at h
 |a::x,[],_,_=>rfl
 |a::x,b::y,h,h1=>by
  unfold Op.bytesLess at h1 ⊢;simp only[Bool.or_eq_false_iff,Bool.and_eq_false_iff,decide_eq_false_iff_not,beq_eq_false_iff_ne]at h1;simp only[Bool.or_eq_true,Bool.and_eq_true,decide_eq_true_eq,beq_iff_eq];by_cases e:a=b
  ·subst e;refine .inr ⟨rfl,yIU x y (λ e=>h (by rw[e])) ?_⟩
   rcases h1.2 with h|h
   ·exact absurd rfl h
   ·exact h
  ·refine .inl ?_
   have:=h1.1;rw[UInt8.lt_iff_toNat_lt]at *;have:a.toNat≠b.toNat:=λ h=>e (UInt8.toNat_inj.1 h)
   omega
theorem yNg{x y:List UInt8}(h:Op.bytesLess x y=true):Op.bytesLess y x=false:=by
 cases h2:Op.bytesLess y x with
 |false=>rfl
 |true=>have:=yLS _ _ _ h h2;rw[yEx]at this;cases this
def srt(l:List (List UInt8)):Prop:=l.Pairwise λ x y=>Op.bytesLess x y=true
def insS(a:List UInt8):List (List UInt8)->List (List UInt8)
 |[]=>[a]
 |x::l=>if Op.bytesLess a x=true then a::x::l else x::insS a l
def delS(a:List UInt8)(l:List (List UInt8)):List (List UInt8):=l.filter λ x=>!x == a
def cntS(a:List UInt8)(l:List (List UInt8)):Nat:=(l.takeWhile λ x=>Op.bytesLess x a).length
theorem yFT(a x:List UInt8):∀ l,x∈insS a l ↔ x=a\/x∈l
 |[]=>by simp[insS]
 |y::l=>by
  unfold insS;split
  ·simp
  ·simp only[mem_cons,yFT a x l];constructor
   ·rintro (h|h|h)
    ·exact .inr (.inl h)
    ·exact .inl h
    ·exact .inr (.inr h)
   ·rintro (h|h|h)
    ·exact .inr (.inl h)
    ·exact .inl h
    ·exact .inr (.inr h)
theorem yFO{a:List UInt8}:∀ {l:List (List UInt8)},srt l->a ∉ l->srt (insS a l)
 |[],_,_=>by unfold insS srt;simp
 |x::l,h,hn=>by
  unfold insS;have h1:=pairwise_cons.1 h;split
  ·rename_i hb;refine pairwise_cons.2 ⟨λ y hy=>?_,h⟩
   rcases mem_cons.1 hy with rfl|hy
   ·exact hb
   ·exact yLS _ _ _ hb (h1.1 y hy)
  ·rename_i hb;refine pairwise_cons.2 ⟨λ y hy=>?_,yFO h1.2 λ h=>hn (List.mem_cons_of_mem _ h)⟩
   rcases (yFT a y l).1 hy with rfl|hy
   ·exact yIU _ _ (λ e=>hn (by rw[e];exact List.mem_cons_self)) (by simpa using hb)
   ·exact h1.1 y hy
theorem y93(a:List UInt8):∀ l,(insS a l).length=l.length+1
 |[]=>rfl
 |x::l=>by unfold insS;split<;>simp[y93 a l]
theorem yKl{a:List UInt8}{l:List (List UInt8)}(h:srt l):srt (delS a l):=List.Pairwise.sublist List.filter_sublist h
theorem yIz(a:List UInt8):∀ l:List (List UInt8),a ∉ l->insS a l=l.take (cntS a l)++a::l.drop (cntS a l)
 |[],_=>rfl
 |x::l,h=>by
  have hx:x≠a:=λ e=>h (by rw[e];exact List.mem_cons_self)
  have ih:=yIz a l λ h'=>h (List.mem_cons_of_mem _ h')
  unfold insS cntS;by_cases hb:Op.bytesLess a x=true
  ·rw[if_pos hb,takeWhile_cons,if_neg (by rw[yNg hb];simp)]
   rfl
  ·have hc:Op.bytesLess x a=true:=yIU _ _ (Ne.symm hx) (by simpa using hb)
   rw[if_neg hb,takeWhile_cons,if_pos hc,ih];rfl
theorem yDM(a:List UInt8)(l:List (List UInt8)):cntS a l<=l.length:=List.IsPrefix.length_le (List.takeWhile_prefix _)
theorem yJS(a:List UInt8):∀ (l:List (List UInt8)) (t:Nat) (h:t < l.length),t < cntS a l->Op.bytesLess l[t] a=true
 |[],t,h,_=>by simp at h
 |x::l,t,h,hc=>by
  unfold cntS at hc;rw[takeWhile_cons]at hc;split at hc
  ·rename_i hx;cases t with
   |zero=>exact hx
   |succ t =>
    simp only[List.getElem_cons_succ];exact yJS a l t _ (by unfold cntS;simp at hc;omega)
  ·simp at hc
theorem yI0(a:List UInt8):∀ (l:List (List UInt8)),srt l->∀ (t:Nat) (h:t < l.length),cntS a l<=t->Op.bytesLess l[t] a=false
 |[],_,t,h,_=>by simp at h
 |x::l,hs,t,h,hc=>by
  have h1:=pairwise_cons.1 hs;unfold cntS at hc;rw[takeWhile_cons]at hc;split at hc
  ·rename_i hx;cases t with
   |zero=>simp at hc
   |succ t =>
    simp only[List.getElem_cons_succ];exact yI0 a l h1.2 t _ (by unfold cntS;simp at hc;omega)
  ·rename_i hx;cases t with
   |zero=>simpa using hx
   |succ t =>
    have ht:t < l.length:=by simpa using h
    simp only[List.getElem_cons_succ];cases hq:Op.bytesLess l[t] a with
    |false=>rfl
    |true=>exact absurd (yLS _ _ _ (h1.1 l[t] (List.getElem_mem _)) hq) hx
theorem y7Y{a:List UInt8}:∀ {l:List (List UInt8)},srt l->a∈l->l[cntS a l]?=some a/\delS a l=l.take (cntS a l)++l.drop (cntS a l+1)
 |[],_,h=>by simp at h
 |x::l,hs,h=>by
  have h1:=pairwise_cons.1 hs;unfold cntS delS;by_cases e:x=a
  ·subst e;rw[takeWhile_cons,if_neg (by rw[yEx];simp),List.filter_cons,if_neg (by simp)]
   refine ⟨rfl,?_⟩;simp only[List.length_nil,List.take_zero,List.nil_append,List.drop_succ_cons,List.drop_zero];refine List.filter_eq_self.2 λ y hy=>?_
   have:y≠x:=λ e=>by have:=h1.1 y hy;rw[e,yEx]at this;cases this
   simpa using this
  ·have hm:a∈l:=by
    rcases mem_cons.1 h with h|h
    ·exact absurd h.symm e
    ·exact h
   have ih:=y7Y h1.2 hm;rw[takeWhile_cons,if_pos (h1.1 a hm),List.filter_cons,if_pos (by simpa using e)]
   refine ⟨ih.1,?_⟩;have:=ih.2;unfold delS cntS at this;rw[this];rfl
theorem yEP(less:Nat->Bool)(k n:Nat)(h1:∀ t,t < k->less t=true)(h2:∀ t,k<=t->t < n->less t=false):∀ (f lo hi:Nat),hi - lo<=f->lo<=k->k<=hi->hi<=n->Lib.bsGo less f lo hi=k
 |0,lo,hi,hf,a,b,c=>by simp[Lib.bsGo];omega
 |f+1,lo,hi,hf,a,b,c=>by
  unfold Lib.bsGo;by_cases h:lo < hi
  ·rw[if_pos h];by_cases hm:(lo+hi) / 2 < k
   ·rw[h1 _ hm,if_pos rfl];exact yEP less k n h1 h2 f _ _ (by omega) (by omega) b c
   ·rw[h2 _ (by omega) (by omega)];exact yEP less k n h1 h2 f _ _ (by omega) a (by omega) (by omega)
  ·rw[if_neg h];omega
end Go.Tw
end
section
set_option maxRecDepth 100000
namespace Go.Tw
open Go.Vx Go.Proofs
abbrev Str:=List UInt8
abbrev Gt:=Str×Bool×Int×Str×Str×Unit
abbrev Th:=Str×Int×Unit
abbrev Rl:=Int×Int×Unit
abbrev Rg:=Int×Rl×Int×Int×Int×Int×Str×Int×List Gt×List Str×List Th×Unit
abbrev Ev:=Int×Str×List Str×List Int×Str×Unit
inductive Kd where
 | gate|rule|forecast|level|decide|override|command|lock|unlock|enter|leave|issue|undo
 deriving DecidableEq
def Kd.str:Kd->Str
 |.gate=>[103,97,116,101]
 |.rule=>[114,117,108,101]
 |.forecast=>[102,111,114,101,99,97,115,116]
 |.level=>[108,101,118,101,108]
 |.decide=>[100,101,99,105,100,101]
 |.override=>[111,118,101,114,114,105,100,101]
 |.command=>[99,111,109,109,97,110,100]
 |.lock=>[108,111,99,107]
 |.unlock=>[117,110,108,111,99,107]
 |.enter=>[101,110,116,101,114]
 |.leave=>[108,101,97,118,101]
 |.issue=>[105,115,115,117,101]
 |.undo=>[117,110,100,111]
def Kd.nn:Kd->Nat
 |.gate=>1
 |.rule=>0
 |.forecast=>0
 |.level=>1
 |.decide=>1
 |.override=>1
 |.command=>2
 |.lock=>2
 |.unlock=>2
 |.enter=>1
 |.leave=>1
 |.issue=>1
 |.undo=>0
def Kd.nv:Kd->Nat
 |.gate=>1
 |.rule=>3
 |.forecast=>3
 |.level=>2
 |.decide=>1
 |.override=>1
 |.command=>2
 |.lock=>1
 |.unlock=>1
 |.enter=>1
 |.leave=>1
 |.issue=>1
 |.undo=>0
def yRt:List Kd:=[.gate,.rule,.forecast,.level,.decide,.override,.command,.lock,.unlock,.enter,.leave,.issue,.undo]
def kd(k:Str):Option Kd:=yRt.find? λ d=>k == d.str
theorem yK1(d:Kd):kd d.str=some d:=by cases d<;>decide
theorem yEb{k:Str}{d:Kd}(h:kd k=some d):k=d.str:=by
 have:=List.find?_some h;simpa using this
theorem yOH{k:Str}(h:kd k=none)(d:Kd):k≠d.str:=by
 have:=List.find?_eq_none.1 h d (by cases d<;>decide)
 simpa using this
theorem y3M{a b:Kd}(h:a.str=b.str):a=b:=by
 have:=yK1 a;rw[h,yK1 b]at this;exact (Option.some.inj this).symm
abbrev y3f:Str:=[111,112,101,110]
abbrev sClose:Str:=[99,108,111,115,101]
abbrev sWait:Str:=[119,97,105,116]
abbrev y1B:Str:=[108,111,119,101,114]
abbrev y1j:Str:=[114,97,105,115,101]
abbrev sSea:Str:=[115,101,97]
abbrev yIL:Str:=[98,97,115,105,110]
def y5B(c:Nat):Bool:=decide (65<=c/\c<=90\/97<=c/\c<=122)
def y7q(c:Nat):Bool:=decide (48<=c/\c<=57\/c=95)
def nmOk:Bool->List UInt8->Bool
 |_,[]=>true
 | first,c::l=>(y5B c.toNat || (!first && y7q c.toNat)) && nmOk false l
def isNm(s:List UInt8):Bool:=nmOk true s && decide (0 < s.length/\s.length<=24)
def ckE(e:Ev):Int:=
 if e.1 < 1\/1000 < e.1 then 3 else match kd e.2.1 with
 |none=>13
 |some d =>
  if e.2.2.1.length≠d.nn\/e.2.2.2.1.length≠d.nv then 2
  else if e.2.2.1.all isNm=false then 8
  else if e.2.2.2.1.all (λ v=>decide (0<=v/\v<=999999999))=false then 3
  else if e.2.2.2.2.1≠[]then 1 else 0
structure EvOk (e:Ev) (d:Kd):Prop where
 num:1<=e.1/\e.1<=1000
 kind:e.2.1=d.str
 nn:e.2.2.1.length=d.nn
 nv:e.2.2.2.1.length=d.nv
 names:∀ s∈e.2.2.1,isNm s=true
 vals:∀ v∈e.2.2.2.1,0<=v/\v<=999999999
 text:e.2.2.2.2.1=[]
theorem yFc{e:Ev}(h:ckE e=0):∃ d,EvOk e d:=by
 unfold ckE at h;split at h
 ·cases h
 rename_i h1;split at h
 ·cases h
 rename_i d hd;split at h
 ·cases h
 rename_i h2;split at h
 ·cases h
 rename_i h3;split at h
 ·cases h
 rename_i h4;split at h
 ·cases h
 rename_i h5;simp only[not_or,Decidable.not_not]at h2;refine ⟨d,by omega,yEb hd,h2.1,h2.2,?_,?_,by simpa using h5⟩
 ·have:=h3;simp only[Bool.not_eq_false,List.all_eq_true]at this;exact this
 ·have:=h4;simp only[Bool.not_eq_false,List.all_eq_true,decide_eq_true_eq]at this;exact this
abbrev mkR (tk:Int)(rl:Rl)(run ht sea ba:Int)(st:Str)(cs:Int)(gs:List Gt)(ss:List Str)(ts:List Th):Rg:=(tk,rl,run,ht,sea,ba,st,cs,gs,ss,ts,())
abbrev rTk (r:Rg):Int:=r.1
abbrev rRl (r:Rg):Rl:=r.2.1
abbrev rRun (r:Rg):Int:=r.2.2.1
abbrev rHt (r:Rg):Int:=r.2.2.2.1
abbrev rSea (r:Rg):Int:=r.2.2.2.2.1
abbrev rBa (r:Rg):Int:=r.2.2.2.2.2.1
abbrev rSt (r:Rg):Str:=r.2.2.2.2.2.2.1
abbrev rCs (r:Rg):Int:=r.2.2.2.2.2.2.2.1
abbrev rGs (r:Rg):List Gt:=r.2.2.2.2.2.2.2.2.1
abbrev rSs (r:Rg):List Str:=r.2.2.2.2.2.2.2.2.2.1
abbrev rTs (r:Rg):List Th:=r.2.2.2.2.2.2.2.2.2.2.1
def rFirst:Rg:=mkR 0 (0,0,()) 0 0 0 0 y3f 0 [] [] []
abbrev yAg:Rg:=mkR 0 (0,0,()) 0 0 0 0 [] 0 [] [] []
def gAt(gs:List Gt)(a:Str):Option Nat:=gs.findIdx? λ g=>g.1 == a
def tAt(ts:List Th)(a:Str):Option Nat:=ts.findIdx? λ g=>g.1 == a
abbrev g0:Gt:=([],false,0,[],[],())
abbrev t0:Th:=([],0,())
def ckRl(v w:Int):Int:=if v < 0\/4096 < v\/w < 0\/4096 < w then 3 else if v < w then 11 else 0
def adv(r:Rg):Str:=
 if rSt r=y3f/\0 < (rRl r).1/\(rRl r).1<=rHt r then sClose
 else if rSt r=sClose/\rSea r<=(rRl r).2.1/\rSea r<=rBa r then y3f else sWait
def y3z(s:Str):Prop:=s=sClose\/s=y3f\/s=sWait
instance (s:Str):Decidable (y3z s):=by unfold y3z;infer_instance
def decd(r:Rg)(s:Str):Rg:=
 mkR (rTk r) (rRl r) (rRun r) (rHt r) (rSea r) (rBa r) (if s=sWait then rSt r else s) (if s=sClose/\rSt r≠sClose then IntKind.i64.wrap (rCs r+1)else rCs r) (rGs r) (rSs r) (rTs r)
def mvs(r:Rg)(g:Gt)(s:Str):Int:=
 if g.2.2.2.2.1≠[]then 33 else if rSs r≠[]then 34 else if s=y1B/\rSt r=y3f\/s=y1j/\rSt r=sClose then 19 else 0
def act(r:Rg)(d:Kd)(a b:Str)(v w:Int):Int×Rg:=
 match d with
 |.gate=>if (gAt (rGs r) a).isSome then (9,r)else if 16<=(rGs r).length then (5,r)
  else (0,mkR (rTk r) (rRl r) (rRun r) (rHt r) (rSea r) (rBa r) (rSt r) (rCs r) (rGs r++[(a,false,0,[],[],())]) (rSs r) (rTs r))
 |.rule=>if ckRl v w≠0 then (ckRl v w,r)else (0,mkR (rTk r) (v,w,()) (rRun r) (rHt r) (rSea r) (rBa r) (rSt r) (rCs r) (rGs r) (rSs r) (rTs r))
 |.forecast=>if 4096 < w then (3,r)else if v<=rRun r then (21,r)else (0,mkR (rTk r) (rRl r) v w (rSea r) (rBa r) (rSt r) (rCs r) (rGs r) (rSs r) (rTs r))
 |.level=>if a=sSea then (if 4096 < v then (3,r)else (0,mkR (rTk r) (rRl r) (rRun r) (rHt r) v (rBa r) (rSt r) (rCs r) (rGs r) (rSs r) (rTs r)))
  else if a=yIL then (if 4096 < v then (3,r)else (0,mkR (rTk r) (rRl r) (rRun r) (rHt r) (rSea r) v (rSt r) (rCs r) (rGs r) (rSs r) (rTs r)))else (13,r)
 |.decide=>if ¬ y3z a then (13,r)else if a≠adv r then (19,r)else (0,decd r a)
 |.override=>if ¬ y3z a then (13,r)else if a=adv r then (19,r)else (0,decd r a)
 |.command=>match gAt (rGs r) a with
  |none=>(10,r)
  |some i =>
   if b≠y1B/\b≠y1j then (13,r)else if v=0 then (6,r)else if v < ((rGs r).getD i g0).2.2.1 then (11,r)
   else if v=((rGs r).getD i g0).2.2.1 then (if b≠((rGs r).getD i g0).2.2.2.1 then (30,r)else (0,r))
   else if mvs r ((rGs r).getD i g0) b≠0 then (mvs r ((rGs r).getD i g0) b,r)
   else (0,mkR (rTk r) (rRl r) (rRun r) (rHt r) (rSea r) (rBa r) (rSt r) (rCs r) ((rGs r).set i (((rGs r).getD i g0).1,b == y1B,v,b,((rGs r).getD i g0).2.2.2.2.1,())) (rSs r) (rTs r))
 |.lock=>match gAt (rGs r) a with
  |none=>(10,r)
  |some i=>if ((rGs r).getD i g0).2.2.2.2.1≠[]then (33,r)
   else (0,mkR (rTk r) (rRl r) (rRun r) (rHt r) (rSea r) (rBa r) (rSt r) (rCs r) ((rGs r).set i (((rGs r).getD i g0).1,((rGs r).getD i g0).2.1,((rGs r).getD i g0).2.2.1,((rGs r).getD i g0).2.2.2.1,b,())) (rSs r) (rTs r))
 |.unlock=>match gAt (rGs r) a with
  |none=>(10,r)
  |some i=>if ((rGs r).getD i g0).2.2.2.2.1≠b then (33,r)
   else (0,mkR (rTk r) (rRl r) (rRun r) (rHt r) (rSea r) (rBa r) (rSt r) (rCs r) ((rGs r).set i (((rGs r).getD i g0).1,((rGs r).getD i g0).2.1,((rGs r).getD i g0).2.2.1,((rGs r).getD i g0).2.2.2.1,[],())) (rSs r) (rTs r))
 |.enter=>if a∈rSs r then (9,r)else if rSt r=sClose\/(rGs r).any (·.2.1)=true then (20,r)else if 16<=(rSs r).length then (5,r)
  else (0,mkR (rTk r) (rRl r) (rRun r) (rHt r) (rSea r) (rBa r) (rSt r) (rCs r) (rGs r) (insS a (rSs r)) (rTs r))
 |.leave=>if a ∉ rSs r then (10,r)else (0,mkR (rTk r) (rRl r) (rRun r) (rHt r) (rSea r) (rBa r) (rSt r) (rCs r) (rGs r) (delS a (rSs r)) (rTs r))
 |.issue=>match tAt (rTs r) a with
  |none=>if 64<=(rTs r).length then (5,r)else (0,mkR (rTk r) (rRl r) (rRun r) (rHt r) (rSea r) (rBa r) (rSt r) (rCs r) (rGs r) (rSs r) (rTs r++[(a,1,())]))
  |some i=>(0,mkR (rTk r) (rRl r) (rRun r) (rHt r) (rSea r) (rBa r) (rSt r) (rCs r) (rGs r) (rSs r) ((rTs r).set i (((rTs r).getD i t0).1,IntKind.i64.wrap (((rTs r).getD i t0).2.1+1),())))
 |.undo=>(0,r)
abbrev setT (r:Rg)(t:Int):Rg:=mkR t (rRl r) (rRun r) (rHt r) (rSea r) (rBa r) (rSt r) (rCs r) (rGs r) (rSs r) (rTs r)
abbrev nmE (e:Ev)(i:Nat):Str:=e.2.2.1.getD i []
abbrev vlE (e:Ev)(i:Nat):Int:=e.2.2.2.1.getD i 0
def aftK(r:Rg)(e:Ev)(d:Kd):Int×Rg:=
 if vlE e 0 < rTk r then (20,r)else ((act r d (nmE e 0) (nmE e 1) (vlE e 1) (vlE e 2)).1,setT (act r d (nmE e 0) (nmE e 1) (vlE e 1) (vlE e 2)).2 (vlE e 0))
def kdE(e:Ev):Kd:=(kd e.2.1).getD .undo
theorem y3j{e:Ev}{d:Kd}(h:EvOk e d):kdE e=d:=by unfold kdE;rw[h.kind,yK1];rfl
def aft(r:Rg)(e:Ev):Int×Rg:=aftK r e (kdE e)
structure Inv (r:Rg):Prop where
 rule:ckRl (rRl r).1 (rRl r).2.1=0
 st:rSt r=y3f\/rSt r=sClose
 gl:(rGs r).length<=16
 sl:(rSs r).length<=16
 tl:(rTs r).length<=64
 ss:srt (rSs r)
 ts:(rTs r).Pairwise λ x y=>x.1≠y.1
theorem yCL:Inv rFirst:=⟨rfl,.inl rfl,by decide,by decide,by decide,List.Pairwise.nil,List.Pairwise.nil⟩
theorem tAt_none{ts:List Th}{a:Str}(h:tAt ts a=none):∀ x∈ts,x.1≠a:=by
 intro x hx e;have:=List.findIdx?_eq_none_iff.1 h x hx;simp[e]at this
theorem y2B{gs:List Gt}{a:Str}{i:Nat}(h:gAt gs a=some i):∃ g,gs[i]?=some g/\g.1=a/\gs.getD i g0=g:=by
 obtain ⟨hi,hg,_⟩:=List.findIdx?_eq_some_iff_getElem.1 h;exact ⟨gs[i],List.getElem?_eq_getElem hi,by simpa using hg,by simp[List.getD,List.getElem?_eq_getElem hi]⟩
theorem tAt_some{gs:List Th}{a:Str}{i:Nat}(h:tAt gs a=some i):∃ g,gs[i]?=some g/\g.1=a/\gs.getD i t0=g:=by
 obtain ⟨hi,hg,_⟩:=List.findIdx?_eq_some_iff_getElem.1 h;exact ⟨gs[i],List.getElem?_eq_getElem hi,by simpa using hg,by simp[List.getD,List.getElem?_eq_getElem hi]⟩
theorem yNk{r:Rg}(h:Inv r)(t:Int):Inv (setT r t):=⟨h.rule,h.st,h.gl,h.sl,h.tl,h.ss,h.ts⟩
theorem yEi{r:Rg}(h:Inv r){s:Str}(hs:y3z s):Inv (decd r s):=by
 refine ⟨h.rule,?_,h.gl,h.sl,h.tl,h.ss,h.ts⟩;show (if s=sWait then rSt r else s)=y3f\/(if s=sWait then rSt r else s)=sClose
 rcases hs with rfl|rfl|rfl
 ·exact .inr rfl
 ·exact .inl rfl
 ·exact h.st
theorem yMF{ts:List Th}(h:ts.Pairwise λ x y=>x.1≠y.1)(i:Nat)(x y:Th)(hx:ts[i]?=some x)(hy:y.1=x.1):(ts.set i y).Pairwise λ x y=>x.1≠y.1:=by
 have hm:(ts.set i y).map (·.1)=ts.map (·.1):=by
  apply List.ext_getElem?;intro k;rw[List.getElem?_map,List.getElem?_map,List.getElem?_set];split
  ·rename_i e;subst e;split
   ·rw[hx];simp[hy]
   ·rename_i hl;obtain ⟨hh,_⟩:=List.getElem?_eq_some_iff.1 hx;omega
  ·rfl
 have h1:(ts.map (·.1)).Pairwise (·≠·):=List.pairwise_map.2 h;rw[<- hm]at h1;exact List.pairwise_map.1 h1
theorem yOB{r:Rg}(h:Inv r){d:Kd}{a b:Str}{v w:Int}(h0:(act r d a b v w).1=0):Inv (act r d a b v w).2:=by
 unfold act at h0 ⊢;cases d<;>simp only at h0 ⊢
 case gate =>
  split at h0
  ·cases h0
  split at h0
  ·cases h0
  rename_i h1 h2;rw[if_neg h1,if_neg h2];exact ⟨h.rule,h.st,by show (rGs r++[_]).length<=16;simp;omega,h.sl,h.tl,h.ss,h.ts⟩
 case rule =>
  split at h0
  ·rename_i h1;exact absurd h0 h1
  rename_i h1;rw[if_neg h1];exact ⟨by simpa using h1,h.st,h.gl,h.sl,h.tl,h.ss,h.ts⟩
 case forecast =>
  split at h0
  ·cases h0
  split at h0
  ·cases h0
  rename_i h1 h2;rw[if_neg h1,if_neg h2];exact ⟨h.rule,h.st,h.gl,h.sl,h.tl,h.ss,h.ts⟩
 case level =>
  split at h0
  ·rename_i h1;rw[if_pos h1];split at h0
   ·cases h0
   rename_i h2;rw[if_neg h2];exact ⟨h.rule,h.st,h.gl,h.sl,h.tl,h.ss,h.ts⟩
  ·rename_i h1;rw[if_neg h1];split at h0
   ·rename_i h1;rw[if_pos h1];split at h0
    ·cases h0
    rename_i h2;rw[if_neg h2];exact ⟨h.rule,h.st,h.gl,h.sl,h.tl,h.ss,h.ts⟩
   ·cases h0
 case decide =>
  split at h0
  ·cases h0
  split at h0
  ·cases h0
  rename_i h1 h2;rw[if_neg h1,if_neg h2];exact yEi h (Decidable.not_not.1 h1)
 case override =>
  split at h0
  ·cases h0
  split at h0
  ·cases h0
  rename_i h1 h2;rw[if_neg h1,if_neg h2];exact yEi h (Decidable.not_not.1 h1)
 case command =>
  cases hg:gAt (rGs r) a with
  |none=>rw[hg]at h0;cases h0
  |some i =>
   rw[hg]at h0;simp only at h0 ⊢;split at h0
   ·cases h0
   split at h0
   ·cases h0
   split at h0
   ·cases h0
   rename_i h1 h2 h3;rw[if_neg h1,if_neg h2,if_neg h3];split at h0
   ·rename_i h4;rw[if_pos h4];split at h0
    ·cases h0
    rename_i h5;rw[if_neg h5];exact h
   ·rename_i h4;rw[if_neg h4];split at h0
    ·rename_i h5;exact absurd h0 h5
    rename_i h5;rw[if_neg h5];exact ⟨h.rule,h.st,by show ((rGs r).set i _).length<=16;rw[length_set];exact h.gl,h.sl,h.tl,h.ss,h.ts⟩
 case lock =>
  cases hg:gAt (rGs r) a with
  |none=>rw[hg]at h0;cases h0
  |some i =>
   rw[hg]at h0;simp only at h0 ⊢;split at h0
   ·cases h0
   rename_i h1;rw[if_neg h1];exact ⟨h.rule,h.st,by show ((rGs r).set i _).length<=16;rw[length_set];exact h.gl,h.sl,h.tl,h.ss,h.ts⟩
 case unlock =>
  cases hg:gAt (rGs r) a with
  |none=>rw[hg]at h0;cases h0
  |some i =>
   rw[hg]at h0;simp only at h0 ⊢;split at h0
   ·cases h0
   rename_i h1;rw[if_neg h1];exact ⟨h.rule,h.st,by show ((rGs r).set i _).length<=16;rw[length_set];exact h.gl,h.sl,h.tl,h.ss,h.ts⟩
 case enter =>
  split at h0
  ·cases h0
  split at h0
  ·cases h0
  split at h0
  ·cases h0
  rename_i h1 h2 h3;rw[if_neg h1,if_neg h2,if_neg h3];exact ⟨h.rule,h.st,h.gl,by show (insS a (rSs r)).length<=16;rw[y93];omega,h.tl,yFO h.ss h1,h.ts⟩
 case leave =>
  split at h0
  ·cases h0
  rename_i h1;rw[if_neg h1];exact ⟨h.rule,h.st,h.gl,Nat.le_trans (List.length_filter_le _ _) h.sl,h.tl,yKl h.ss,h.ts⟩
 case issue =>
  cases hg:tAt (rTs r) a with
  |none =>
   rw[hg]at h0;simp only at h0 ⊢;split at h0
   ·cases h0
   rename_i h1;rw[if_neg h1];refine ⟨h.rule,h.st,h.gl,h.sl,by show (rTs r++[_]).length<=64;simp;omega,h.ss,?_⟩
   refine List.pairwise_append.2 ⟨h.ts,List.pairwise_singleton _ _,λ x hx y hy=>?_⟩
   rw[List.mem_singleton.1 hy];exact tAt_none hg x hx
  |some i =>
   simp only;obtain ⟨g,g1,g2,g3⟩:=tAt_some hg;refine ⟨h.rule,h.st,h.gl,h.sl,by show ((rTs r).set i _).length<=64;rw[length_set];exact h.tl,h.ss,yMF h.ts i g _ g1 ?_⟩
   show ((rTs r).getD i t0).1=g.1
   rw[g3]
 case undo=>exact h
theorem yO9{r:Rg}(h:Inv r){e:Ev}(h0:(aft r e).1=0):Inv (aft r e).2:=by
 unfold aft aftK at h0 ⊢;split at h0
 ·cases h0
 rename_i h1;rw[if_neg h1];exact yNk (yOB h h0) _
theorem yEh{r:Rg}{e:Ev}(h0:(aft r e).1=0):rTk r<=vlE e 0/\rTk (aft r e).2=vlE e 0:=by
 unfold aft aftK at h0 ⊢;split at h0
 ·cases h0
 rename_i h1;rw[if_neg h1];exact ⟨by omega,rfl⟩
def finR:Rg->List Ev->Rg
 |r,[]=>r
 |r,e::l=>finR (aft r e).2 l
def sts:Rg->List Ev->List Rg
 |r,[]=>[r]
 |r,e::l=>r::sts (aft r e).2 l
def okC:Rg->List Ev->Prop
 |_,[]=>True
 |r,e::l=>(∃ d,EvOk e d/\d≠.undo)/\(aft r e).1=0/\okC (aft r e).2 l
theorem yFt(e:Ev):∀ (l:List Ev) (r:Rg),finR r (l++[e])=(aft (finR r l) e).2
 |[],r=>rfl
 |x::l,r=>yFt e l _
theorem yBE(e:Ev):∀ (l:List Ev) (r:Rg),sts r (l++[e])=sts r l++[(aft (finR r l) e).2]
 |[],r=>rfl
 |x::l,r=>by show r::sts _ (l++[e])=_;rw[yBE e l];rfl
theorem yK2(e:Ev):∀ (l:List Ev) (r:Rg),okC r (l++[e]) ↔ okC r l/\(∃ d,EvOk e d/\d≠.undo)/\(aft (finR r l) e).1=0
 |[],r=>by simp[okC,finR]
 |x::l,r=>by
  show _/\_/\okC _ (l++[e]) ↔ (_/\_/\okC _ l)/\_
  rw[yK2 e l];simp only[finR,and_assoc]
theorem y3R:∀ (l:List Ev) (r:Rg),(sts r l).length=l.length+1
 |[],r=>rfl
 |x::l,r=>by show (sts _ l).length+1=_;rw[y3R l];rfl
theorem yF2:∀ (l:List Ev) (r:Rg) (i:Nat),i<=l.length->(sts r l)[i]?=some (finR r (l.take i))
 |[],r,i,h=>by
  have:i=0:=by simpa using h
  subst this;rfl
 |x::l,r,0,h=>rfl
 |x::l,r,i+1,h=>by
  show (sts _ l)[i]?=_
  rw[yF2 l _ i (by simpa using h)]
  rfl
theorem yEr:∀ (l:List Ev) (r:Rg) (i:Nat),okC r l->okC r (l.take i)
 |[],r,i,h=>by simp[okC]
 |x::l,r,0,h=>trivial
 |x::l,r,i+1,h=>⟨h.1,h.2.1,yEr l _ i h.2.2⟩
theorem yDT:∀ (l:List Ev) (r:Rg),Inv r->okC r l->Inv (finR r l)
 |[],r,h,_=>h
 |x::l,r,h,ho=>yDT l _ (yO9 h ho.2.1) ho.2.2
def yn(i:Nat)(c:List Ev)(e:Ev):Int×List Ev:=
 if ckE e≠0 then (ckE e,c)else if e.1≠(i:Int)+1 then (11,c)
 else if e.2.1=Kd.undo.str then (match c.getLast? with|none=>(12,c)|some x=>if x.2.1=Kd.command.str then (19,c)else (0,c.dropLast))
 else if (aft (finR rFirst c) e).1≠0 then ((aft (finR rFirst c) e).1,c)else (0,c++[e])
def runC:List Ev->Nat->List Ev->Int×Int×List Ev
 |[],_,c=>(0,0,c)
 |e::l,i,c=>if (yn i c e).1≠0 then ((yn i c e).1,(i:Int)+1,[])else runC l (i+1) (yn i c e).2
def rep(l:List Ev):Int×Int×List Ev:=if 1000 < l.length then (5,0,[])else runC l 0 []
theorem yDt{i:Nat}{c:List Ev}{e:Ev}(h:okC rFirst c)(hs:(yn i c e).1=0):okC rFirst (yn i c e).2/\(yn i c e).2.length<=c.length+1:=by
 unfold yn at hs ⊢;split at hs
 ·rename_i h1;exact absurd hs h1
 rename_i h1;rw[if_neg h1];split at hs
 ·cases hs
 rename_i h2;rw[if_neg h2];split at hs
 ·rename_i h3;rw[if_pos h3];cases hx:c.getLast? with
  |none=>rw[hx]at hs;cases hs
  |some x =>
   rw[hx]at hs;simp only at hs ⊢;split at hs
   ·cases hs
   rename_i h4;rw[if_neg h4];refine ⟨?_,by simp;omega⟩
   rw[List.dropLast_eq_take];exact yEr _ _ _ h
 ·rename_i h3;rw[if_neg h3];split at hs
  ·rename_i h4;exact absurd hs h4
  rename_i h4;rw[if_neg h4];obtain ⟨d,hd⟩:=yFc (by simpa using h1)
  exact ⟨(yK2 e c rFirst).2 ⟨h,⟨d,hd,λ e=>h3 (by rw[hd.kind,e])⟩,by simpa using h4⟩,by simp⟩
theorem yMh:∀ (l:List Ev) (i:Nat) (c:List Ev),okC rFirst c->(runC l i c).1=0->okC rFirst (runC l i c).2.2/\(runC l i c).2.2.length<=c.length+l.length
 |[],i,c,h,_=>⟨h,Nat.le_refl _⟩
 |e::l,i,c,h,h0=>by
  unfold runC at h0 ⊢;split at h0
  ·rename_i h1;exact absurd h0 h1
  rename_i h1;rw[if_neg h1];have hs:=yDt h (Decidable.not_not.1 h1);have:=yMh l (i+1) _ hs.1 h0;refine ⟨this.1,?_⟩;have:=this.2;have:=hs.2;simp only[List.length_cons];omega
theorem y6s{l:List Ev}(h:(rep l).1=0):okC rFirst (rep l).2.2/\(rep l).2.2.length<=l.length/\l.length<=1000:=by
 unfold rep at h ⊢;split at h
 ·cases h
 rename_i h1;rw[if_neg h1];have:=yMh l 0 [] trivial h;refine ⟨this.1,by simpa using this.2,by omega⟩
end Go.Tw
end
