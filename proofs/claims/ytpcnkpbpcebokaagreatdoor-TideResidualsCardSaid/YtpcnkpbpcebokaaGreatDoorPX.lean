import Derived.Test.YtpcnkpbpcebokaaGreatDoorPT
import Derived.Test.YtpcnkpbpcebokaaGreatDoorPQ
import Derived.Test.YtpcnkpbpcebokaaGreatDoorPW
import Derived.Test.YtpcnkpbpcebokaaGreatDoorP8
import Derived.Test.YtpcnkpbpcebokaaGreatDoorBRe
import Derived.Test.YtpcnkpbpcebokaaGreatDoorPA
set_option linter.all false
set_option maxRecDepth 100000
namespace Go.Tw
open Go.Vx Go.Vx.B Go.Proofs Ieee
theorem yES(x:Int):IntKind.i64.wrap x % 18446744073709551616=x % 18446744073709551616:=by rw[IntKind.wrap_i64];omega
theorem yDJ{x y:Int}(h:x % 18446744073709551616=y % 18446744073709551616):IntKind.i64.wrap x=IntKind.i64.wrap y:=by rw[IntKind.wrap_i64,IntKind.wrap_i64];omega
theorem yLH(x y:Int):IntKind.i64.wrap (IntKind.i64.wrap x * IntKind.i64.wrap y)=IntKind.i64.wrap (x * y):=yDJ (by rw[Int.mul_emod,yES,yES,← Int.mul_emod])
theorem yFm(x:Int):IntKind.i64.wrap (IntKind.i64.wrap (0 - x) * IntKind.i64.wrap (0 - x))=IntKind.i64.wrap (x * x):=by
 rw[yLH];congr 1
 rw[Int.zero_sub,Int.neg_mul_neg]
theorem yJT{r:Rec}(h:okR r){q:Int×Nat}(hq:q∈recd r.2.2.2.1 0 r.2.2.1):yGb r (r.2.1+q.1)=some (sx q.2,()):=by
 obtain ⟨h1,h2,h3⟩:=yHx h q hq;have hs:=h.start;have hl:=h.len;unfold yGb yMU;rw[show r.2.1+q.1 - r.2.1=q.1 by omega,y5T (by omega) (by omega)]
 have:idx r.2.2.1 q.1=some q.2:=by
  unfold idx;rw[if_pos h1.1];exact h3
 rw[this];simp only[Option.bind_some];rw[yRO h2];rfl
noncomputable def resS(t:Tid)(st:Int)(acc:Int)(q:Int×Nat):Int :=
 IntKind.i64.wrap (acc+IntKind.i64.wrap (IntKind.i64.wrap (IntKind.i64.wrap (IntKind.i64.wrap (t.2.2.1 * sx q.2) - (valT t (st+q.1)).1) * IntKind.i64.wrap (IntKind.i64.wrap (t.2.2.1 * sx q.2) - (valT t (st+q.1)).1))+IntKind.i64.wrap ((valT t (st+q.1)).2.1 * (valT t (st+q.1)).2.1)))
noncomputable def resN(r:Rec)(t:Tid):Int:=(recd r.2.2.2.1 0 r.2.2.1).foldl (resS t r.2.1) 0
theorem y98{α:Type}(h:Int→α→Int)(h0:∀ s e,-9223372036854775808≤h s e∧h s e≤9223372036854775807):∀ (l:List α) (s:Int),(-9223372036854775808≤s∧s≤9223372036854775807)→-9223372036854775808≤l.foldl h s∧l.foldl h s≤9223372036854775807
 | [],s,hs=>hs
 | e::l,s,_=>y98 h h0 l (h s e) (h0 s e)
theorem yAA(r:Rec)(t:Tid):-9223372036854775808≤resN r t∧resN r t≤9223372036854775807 :=
 y98 _ (fun s e=>yd0 _) _ _ (by decide)
noncomputable def resE(r:Rec)(t:Tid):Int:=yL (y3u r) (yL (y2e t) (if y2M t then 0 else 4))
theorem yNY{t:Tid}(ht:okT t)(hs:y2M t=true):IntKind.i64.wrap (t.2.2.1 * t.2.2.1)=t.2.2.1 * t.2.2.1∧1≤t.2.2.1 * t.2.2.1∧t.2.2.1 * t.2.2.1≤9223372036854775807:=by
 have h1:=ht.den;have h2:=(yJb hs).2;have h3:1 * 1≤t.2.2.1 * t.2.2.1:=Int.mul_le_mul h1.1 h1.1 (by decide) (by omega)
 have h4:t.2.2.1 * t.2.2.1≤4096 * 4096:=Int.mul_le_mul h2 h2 (by omega) (by decide)
 exact ⟨y5T (by omega) (by omega),by omega,by omega⟩
theorem yRm{r:Rec}{t:Tid}(hn:r.1.length < lenMax)(hl:r.2.2.1.length < lenMax)(hg:r.2.2.2.1.length < lenMax)(hnt:∀ n∈t.1,n.1.length < lenMax)(hlt:t.1.length < lenMax)(ha:t.2.1.length≤memMax) :
  yDk r t=some (if resE r t=0 then (lowR (resN r t) (t.2.2.1 * t.2.2.1),0,())else ((0,0,()),resE r t,())):=by
 unfold yDk;obtain ⟨s,hs,hs2⟩:=yFT t (y0m ha);rw[yJu r hn hl hg,yWt t hnt hlt ha,hs];simp only[Option.bind_some,y3m];rw[y28 _ (yFL _ _ _),yT,yT,yT,y1L,y0T];simp only[Option.bind_some];have e0:yL (y3u r) (yL (y2e t) (bif !s then (4:Int)else 0))=resE r t:=y5B fun _=>y5B fun h=>by
  rw[hs2 (yET (y7O h))];cases y2M t<;>rfl
 rw[e0];by_cases h:resE r t=0
 ·rw[if_pos h,bifF (by rw[h];rfl),bifT (y7 hl)]
  obtain ⟨h1,h2⟩:=yM h;obtain ⟨h3,h4⟩:=yM h2;have hss:y2M t=true:=by
   cases q:y2M t with
   | true=>rfl
   | false=>rw[q]at h4;cases h4
  have ht:=y7O h3;have hr:=y6V (yM h1).1;have hst:=hr.start;obtain ⟨d1,d2,d3⟩:=yNY ht hss;refine (yEz hr (fun s=>Option.bind (y8B s (IntKind.i64.wrap (t.2.2.1 * t.2.2.1))) fun v=>some ((v.1.1,v.1.2.1,()),0,())) (fun i x s=>some (.inr (resS t r.2.1 s (i,x)))) (fun g s=>rfl) (fun i x g s hi hx hg=>?_) 0).trans ?_
  ·dsimp only;unfold yE4;refine (y72 (i:=(i:Int)) (fun g=>rfl) g wMax hg).trans ?_
   generalize g.dropWhile (fun s=>decide (s.2.1≤(i:Int)))=g'
   unfold y9d;rw[yEM,yAv hx];simp only[Option.bind_some];rw[y5T (i:=r.2.1+(i:Int)) (by omega) (by omega),yTY ht ⟨by omega,by omega⟩]
   rfl
  ·rw[y8n (fun s q=>resS t r.2.1 s q) _ _ _ fun i e s _=>rfl]
   show Option.bind (y8B (resN r t) _) _=_
   rw[d1,yIl (yAA r t).1 (yAA r t).2 d2 d3];rfl
 ·rw[if_neg h,bifT (by simpa using h)]
theorem yS6{r:Rec}{t:Tid}(hr:okR r)(ht:okT t)(hs:y2M t=true):zz_M r t=some (lowR (resN r t) (t.2.2.1 * t.2.2.1),()):=by
 obtain ⟨d1,d2,d3⟩:=yNY ht hs;have hst:=hr.start;have hlen:=hr.len;have htl:=yOe r;unfold zz_M;rw[yB2 hr];simp only[Option.bind_some];rw[bifT (y7 (show (tks r).length < lenMax by unfold lenMax;omega))]
 have key:∀ (l done:List (Int×Nat)) (s:Int),recd r.2.2.2.1 0 r.2.2.1=done++l →
   yR (fun i__ e__ s__=>yGP r t (tks r) 0 0 i__ e__ s__) (fun s__=>yFv r t (tks r) 0 0 s__) (done.length:Int) (l.map fun q=>r.2.1+q.1) s=yFv r t (tks r) 0 0 (l.foldl (resS t r.2.1) s):=by
  intro l;induction l with
  | nil=>intro done s _;rfl
  | cons q l ih =>
   intro done s hd;have hq:q∈recd r.2.2.2.1 0 r.2.2.1:=by rw[hd];simp
   have ho:=yHx hr q hq;have hi:idx (tks r) (done.length:Int)=some (r.2.1+q.1):=by
    rw[y1c];unfold tks;rw[hd];simp
   rw[List.map_cons,yk];have hb:yGP r t (tks r) 0 0 (done.length:Int) (r.2.1+q.1) s=some (.inr (resS t r.2.1 s q)):=by
    unfold yGP;rw[yJT hr hq,hi];simp only[Option.bind_some];rw[yJ3 ht ⟨by omega,by omega⟩]
    simp only[Option.bind_some];unfold z0L z0x;simp only;rw[yFm];rfl
   rw[hb];simp only[Option.bind_some];have:=ih (done++[q]) (resS t r.2.1 s q) (by rw[hd];simp)
   simp only[List.length_append,List.length_cons,List.length_nil]at this;exact this
 have k:=key (recd r.2.2.2.1 0 r.2.2.1) [] 0 rfl;refine (show _=_ from k).trans ?_
 unfold yFv;show Option.bind (yAY (resN r t) _) _=_
 rw[d1,yJV (yAA r t).1 (yAA r t).2 d2 d3];rfl
theorem yGF(r:Rec)(t:Tid)(lt:t.1.length < lenMax):zR_M r t=some (true,()):=by
 have hmem:memMax=68719476736:=rfl;have hlm:lenMax=9223372036854775808:=rfl;unfold zR_M zR_m;rw[yFd];simp only[Option.bind_some,Bool.not_true,cond_false];cases hsh:(z0c r).1 with
 | false=>rfl
 | true =>
  obtain ⟨r60,r97,r49⟩:=yLK hsh;obtain ⟨s,hs,hs2⟩:=yJ9 t lt;simp only[Bool.not_true,cond_false];rw[hs];simp only[Option.bind_some];cases s with
  | false=>rfl
  | true =>
   obtain ⟨t60,t5,t5'⟩:=hs2 rfl;have hnt:∀ n∈t.1,n.1.length < lenMax:=fun n hn=>by have:=t60 n hn;omega
   simp only[Bool.not_true,cond_false];rw[yS8 r (by omega) (by omega),yTa t (by omega) (by omega)]
   simp only[Option.bind_some];rw[yRm (by omega) (by omega) (by omega) hnt (by omega) (by omega),yKv r (by omega),yWh t (by omega)]
   simp only[Option.bind_some];rw[y59 _ (y5V _ _),yT,yT,y1L,y0T];simp only[Option.bind_some];have e0:resE r t=yL (yL (y3u r) (y2e t)) (if y2M t then 0 else 4):=(yy _ _ _).symm
   by_cases h:yL (y3u r) (y2e t)=0
   ·obtain ⟨h1,h2⟩:=yM h;have ht:=y7O h2;have hr:=y6V (yM h1).1;rw[h,yb]at e0;rw[h,bifT (by rfl),yIE t (yET ht) (by omega)]
    simp only[Option.bind_some,yL9];cases hss:y2M t with
    | true =>
     rw[hss,if_pos rfl]at e0;rw[e0,if_pos rfl,bifT (by rfl),yS6 hr ht hss]
     simp only[Option.bind_some,Bool.not_true,cond_false];show some ((z0Z (lowR (resN r t) (t.2.2.1 * t.2.2.1)) 0 0 (lowR (resN r t) (t.2.2.1 * t.2.2.1))).1,())=_
     rw[yI0]
    | false =>
     rw[hss,if_neg (by simp)]at e0
     rw[e0,if_neg (by decide),bifF (by rfl)]
     rfl
   ·rw[yQ h]at e0;have hb:(yL (y3u r) (y2e t) == 0)=false:=by simpa using h
    rw[hb,e0,if_neg h];simp only[cond_false];show some ((z0Z (0,0,()) (yL (y3u r) (y2e t)) (yL (y3u r) (y2e t)) (0,0,())).1,())=_
    rw[yFO h]
end Go.Tw
