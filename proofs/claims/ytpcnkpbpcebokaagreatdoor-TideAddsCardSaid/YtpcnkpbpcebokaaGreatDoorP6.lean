import Derived.Test.YtpcnkpbpcebokaaGreatDoorPC
set_option linter.all false
set_option maxRecDepth 100000
namespace Go.Tw
open Go.Vx Go.Vx.B Go.Proofs
theorem y3s(x:Int):IntKind.i64.wrap (IntKind.i64.wrap x)=IntKind.i64.wrap x:=yo (yIo x).1 (yIo x).2
theorem yEz(z:Gau)(d:Int):(z0Q z (d,0,())).1=(z0Z z d).1:=by
 unfold z0Q z0Z;simp only[Int.mul_zero,show IntKind.i64.wrap 0=0 from by rw[yo (by decide) (by decide)],Int.sub_zero,Int.zero_add,y3s]
 rw[Int.mul_comm z.1 d,Int.mul_comm z.2.1 d]
theorem yDz{α β:Type}(q:α→Bool)(y:β):∀ l:List α,l.findSome? (fun z=>if q z then none else some y)=if l.all q then none else some y
 | []=>rfl
 | z::l=>by
  rw[List.findSome?_cons,List.all_cons];cases h:q z with
  | true=>simpa[h]using yDz q y l
  | false=>simp[h]
theorem yBz{α β:Type}{body:Int→α→Unit→Option (β⊕Unit)}{fin:Unit→Option β}(q:α→Bool)(y:β)(l:List α)(i:Int)
  (h:∀ i e,e∈l→body i e ()=some (if q e then .inr ()else .inl y)):yf body fin i l ()=if l.all q then fin ()else some y:=by
 rw[y2j (fun z=>if q z then none else some y) l i fun i e he=>by rw[h i e he];cases q e<;>rfl]
 rw[yDz];cases l.all q<;>rfl
def yY(m:Int)(z:Gau):Bool:=decide ((z.1.natAbs:Int)≤m∧(z.2.1.natAbs:Int)≤m)
def y15(t:Tid):Bool:=t.2.1.all (yY 4194304) && decide (t.2.2.1≤4096)
theorem yMm(a b m:Int):decide ((if b > a then b else a) > m)=!decide (a≤m∧b≤m):=by
 rw[← decide_not];apply decide_eq_decide.2;split<;>omega
theorem yMp(z:Gau)(m:Int)(h:fits z):decide ((if (z06 z.2.1).1 > (z06 z.1).1 then (z06 z.2.1).1 else (z06 z.1).1) > m)=!yY m z:=by
 rw[yIC _ h.1.1 h.1.2,yIC _ h.2.1 h.2.2,yMm];rfl
theorem y5d(t:Tid)(hl:t.2.1.length < lenMax):∃ s,zn_M t=some (s,())∧((∀ z∈t.2.1,fits z)→s=y15 t):=by
 have h:zn_M t=some (t.2.1.all (fun z=>!decide ((if (z06 z.2.1).1 > (z06 z.1).1 then (z06 z.2.1).1 else (z06 z.1).1) > 4194304)) && decide (t.2.2.1≤4096),()):=by
  unfold zn_M;rw[bifT (yC hl),yBz (fun z=>!decide ((if (z06 z.2.1).1 > (z06 z.1).1 then (z06 z.2.1).1 else (z06 z.1).1) > 4194304)) (false,()) t.2.1 0 fun i e he=>by
   unfold yK4;try simp only[if_true]
   cases decide ((if (z06 e.2.1).1 > (z06 e.1).1 then (z06 e.2.1).1 else (z06 e.1).1) > 4194304)<;>rfl]
  cases t.2.1.all (fun z=>!decide ((if (z06 z.2.1).1 > (z06 z.1).1 then (z06 z.2.1).1 else (z06 z.1).1) > 4194304))<;>rfl
 refine ⟨_,h,fun hf=>?_⟩
 unfold y15;congr 1
 rw[Bool.eq_iff_iff,List.all_eq_true,List.all_eq_true];refine forall_congr' fun z=>forall_congr' fun hz=>?_
 rw[yMp z _ (hf z hz),Bool.not_not]
theorem y4s:∀ (l:List Gau) (d:Nat),0 < d→0 < comG l d
 | [],d,h=>by simpa[comG]using h
 | z::l,d,h=>by
  unfold comG gI;refine y4s l _ ?_
  exact Nat.gcd_pos_of_pos_left _ (by rw[Int.natAbs_natCast];exact Nat.gcd_pos_of_pos_left _ (by rw[Int.natAbs_natCast];exact h))
def qG(n:Int)(z:Gau):Gau:=(IntKind.i64.wrap (z.1.tdiv n),IntKind.i64.wrap (z.2.1.tdiv n),())
def lowT(l:List Con)(a:List Gau)(d:Int):Tid:=(l,a.map (qG (comG a d)),IntKind.i64.wrap (d.tdiv (comG a d)),())
theorem yOa(l:List Con)(hl:l.length≤memMax):z7_M l (fun x=>zz_M x.1)=some (l,()):=by
 unfold z7_M;rw[bifT (yC (yb hl)),y2D (fun c=>c) l 0 [] (by simpa using hl) fun i e s _ hs=>by
  unfold yJv;show Option.bind (some (zz e)) _=_
  simp only[Option.bind_some];rw[bifT (yC hs)];rfl]
 simp only[List.map_id_fun',id_eq,List.nil_append];rfl
theorem yHC(l:List Gau)(f:Gau×Unit→Option (Gau×Unit))(g:Gau→Gau)(hl:l.length≤memMax)(h:∀ z∈l,f (z,())=some (g z,())):zG_M l f=some (l.map g,()):=by
 unfold zG_M;rw[bifT (yC (yb hl)),y2D g l 0 [] (by simpa using hl) fun i e s he hs=>by
  unfold yJ7;show Option.bind (f (e,())) _=_
  rw[h e he];simp only[Option.bind_some];rw[bifT (yC hs)]]
 rfl
theorem yHx(l:List Con)(a:List Gau)(d:Nat)(hd:0 < d)(hl:l.length≤memMax)(ha:a.length≤memMax)(h:∀ z∈a,fits z):yAU l a (d:Int)=some (lowT l a d,()):=by
 have hp:=y4s a d hd;have hz:(comG a (d:Int) == 0)=false:=by simp;omega
 unfold yAU yJe;rw[yIR a d h (yb ha)];simp only[Option.bind_some];rw[yOa l hl];simp only[Option.bind_some];rw[yHC a _ (qG (comG a d)) ha fun z _=>by
  show yH5 z _=_
  unfold yH5 yIu;rw[bifF hz,bifF hz];rfl]
 simp only[Option.bind_some];rw[bifF hz];rfl
def nodV(k:Int):Gau:=let a:Int:=104 - ((k - 8).natAbs:Int);let g:Int:=(Nat.gcd a.natAbs 100:Nat);(a / g,100 / g,())
theorem y77{k:Int}(h0:0≤k)(h1:k < 16):∀ P:Int→Prop,(P 0∧P 1∧P 2∧P 3∧P 4∧P 5∧P 6∧P 7∧P 8∧P 9∧P 10∧P 11∧P 12∧P 13∧P 14∧P 15)→P k:=by
 intro P h;obtain ⟨a0,a1,a2,a3,a4,a5,a6,a7,a8,a9,a10,a11,a12,a13,a14,a15⟩:=h;have:k=0∨k=1∨k=2∨k=3∨k=4∨k=5∨k=6∨k=7∨k=8∨k=9∨k=10∨k=11∨k=12∨k=13∨k=14∨k=15:=by omega
 rcases this with rfl|rfl|rfl|rfl|rfl|rfl|rfl|rfl|rfl|rfl|rfl|rfl|rfl|rfl|rfl|rfl<;>assumption
theorem yBU{y:Int}(h0:0≤y):yF8 y=some (nodV (y % 16),()):=by
 have e:y.tmod 16=y % 16:=Int.tmod_eq_emod_of_nonneg h0;unfold yF8 yKU;rw[e];have a:0≤y % 16:=by omega
 have b:y % 16 < 16:=by omega
 generalize y % 16=k at a b;refine y77 a b (fun k=>Option.bind (yFY (IntKind.i64.wrap (104 - (z06 (IntKind.i64.wrap (k - 8))).1)) 100) (fun v0=>some ((v0.1.1,v0.1.2.1,()),()))=some (nodV k,())) ?_
 refine ⟨?_,?_,?_,?_,?_,?_,?_,?_,?_,?_,?_,?_,?_,?_,?_,?_⟩<;>kernel_rfl
theorem yGZ{y:Int}:(0≤(nodV (y % 16)).1∧(nodV (y % 16)).1≤104)∧(1≤(nodV (y % 16)).2.1∧(nodV (y % 16)).2.1≤100):=by
 have a:0≤y % 16:=by omega
 have b:y % 16 < 16:=by omega
 generalize y % 16=k at a b;refine y77 a b (fun k=>(0≤(nodV k).1∧(nodV k).1≤104)∧(1≤(nodV k).2.1∧(nodV k).2.1≤100)) ?_
 decide
theorem tNodal_eq(y:Int):yIK y=some (if ckR y 0 9999=0 then (nodV (y % 16),0,())else ((0,0,()),ckR y 0 9999,())):=by
 unfold yIK yKy;rw[y2s];by_cases h:ckR y 0 9999=0
 ·simp only[h,if_true];rw[bifF (by rfl),yBU (y1E h).1]
  rfl
 ·simp only[h,if_false];rw[bifT (by simpa using h)]
theorem y4v{z:Gau}{n m k:Int}(hz:yY m z=true)(h0:0≤n)(h1:n≤k)(hb:k * m < 9223372036854775807)(hm:0≤m):yY (k * m) (z0Z z n).1=true:=by
 unfold yY at hz ⊢;have hz:=of_decide_eq_true hz;have key:∀ x:Int,(x.natAbs:Int)≤m→((n * x).natAbs:Int)≤k * m:=fun x hx=>by
  rw[Int.natAbs_mul];have e:((n.natAbs * x.natAbs:Nat):Int)=n * (x.natAbs:Int):=by
   rw[Int.natCast_mul,Int.natAbs_of_nonneg h0]
  rw[e];exact Int.le_trans (Int.mul_le_mul_of_nonneg_left hx h0) (Int.mul_le_mul_of_nonneg_right h1 hm)
 have k1:=key z.1 hz.1;have k2:=key z.2.1 hz.2;unfold z0Z;simp only;rw[yo (i:=n * z.1) (by omega) (by omega),yo (i:=n * z.2.1) (by omega) (by omega)]
 exact yC ⟨k1,k2⟩
theorem y2L{m:Int}{z:Gau}(h:yY m z=true)(hm:m≤9223372036854775807):fits z:=by
 have:=of_decide_eq_true h;unfold fits;omega
theorem y6h{t:Tid}(h:okT t):∀ z∈t.2.1,fits z:=fun z hz=>y4f (h.part z hz)
theorem y70{t:Tid}(h:y15 t=true):(∀ z∈t.2.1,yY 4194304 z=true)∧t.2.2.1≤4096:=by
 unfold y15 at h;rw[Bool.and_eq_true]at h;exact ⟨fun z hz=>List.all_eq_true.1 h.1 z hz,of_decide_eq_true h.2⟩
noncomputable def adjT(t:Tid)(f:Gau):Tid:=lowT t.1 (t.2.1.map fun z=>(z0Z z f.1).1) (t.2.2.1 * f.2.1)
theorem yGj{t:Tid}{f:Gau}(ht:okT t)(hs:y15 t=true)(hf:(0≤f.1∧f.1≤104)∧(1≤f.2.1∧f.2.1≤100)) :
  (∀ z∈t.2.1.map (fun z=>(z0Z z f.1).1),fits z)∧∃ d:Nat,0 < d∧t.2.2.1 * f.2.1=(d:Int)∧IntKind.i64.wrap (t.2.2.1 * f.2.1)=(d:Int):=by
 obtain ⟨h1,h2⟩:=y70 hs;constructor
 ·intro z hz;obtain ⟨y,hy,rfl⟩:=List.mem_map.1 hz;exact y2L (y4v (h1 y hy) hf.1.1 hf.1.2 (by decide) (by decide)) (by decide)
 ·have h3:1 * 1≤t.2.2.1 * f.2.1:=Int.mul_le_mul ht.den.1 hf.2.1 (by decide) (by have:=ht.den.1;omega)
  have h4:t.2.2.1 * f.2.1≤4096 * 100:=Int.mul_le_mul h2 hf.2.2 (by omega) (by decide)
  refine ⟨(t.2.2.1 * f.2.1).toNat,by omega,by omega,?_⟩
  rw[yo (by omega) (by omega)]
  omega
theorem y3A{a b c:Int}(h:a=0→b=c):yP a b=yP a c:=by
 by_cases ha:a=0
 ·rw[h ha]
 ·rw[y01 ha,y01 ha]
def adjE(t:Tid)(y:Int):Int:=yP (y09 t) (yP (ckR y 0 9999) (if y15 t then 0 else 4))
theorem tAdj_eq{t:Tid}(hn:∀ n∈t.1,n.1.length < lenMax)(hl:t.1.length≤memMax)(ha:t.2.1.length≤memMax)(y:Int) :
  yKF t y=some (if adjE t y=0 then (adjT t (nodV (y % 16)),0,())else (([],[],0,()),adjE t y,())):=by
 unfold yKF yKw;obtain ⟨s,hs,hs2⟩:=y5d t (yb ha);rw[yER t hn (yb hl) ha,hs,y2s];simp only[Option.bind_some,y3g];rw[y17 _ (yEK _ _ _),yQ,yQ,yQ,y1K,y0T];simp only[Option.bind_some];have e0:yP (y09 t) (yP (ckR y 0 9999) (bif !s then (4:Int)else 0))=adjE t y:=y3A fun h=>by
  rw[hs2 (y6h (ym h))];cases y15 t<;>rfl
 rw[e0];by_cases h:adjE t y=0
 ·rw[if_pos h,bifF (by rw[h];rfl)]
  obtain ⟨h1,h2⟩:=yS h;obtain ⟨h3,h4⟩:=yS h2;have hs:y15 t=true:=by
   cases hs:y15 t with
   | true=>rfl
   | false=>rw[hs]at h4;cases h4
  obtain ⟨g1,d,g2,g3,g4⟩:=yGj (ym h1) hs (yGZ (y:=y));rw[yBU (y1E h3).1];simp only[Option.bind_some];rw[yHC t.2.1 _ (fun z=>(z0Z z (nodV (y % 16)).1).1) ha fun z _=>rfl]
  simp only[Option.bind_some];rw[g4,yHx t.1 _ d g2 hl (by simpa using ha) g1]
  unfold adjT;rw[g3];rfl
 ·rw[if_neg h,bifT (by simpa using h)]
end Go.Tw
