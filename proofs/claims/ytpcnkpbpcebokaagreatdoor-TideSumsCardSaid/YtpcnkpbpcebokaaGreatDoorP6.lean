import Derived.Test.YtpcnkpbpcebokaaGreatDoorPC
set_option linter.all false
set_option maxRecDepth 100000
namespace Go.Tw
open Go.Vx Go.Vx.B Go.Proofs
theorem yGo(x:Int):IntKind.i64.wrap (IntKind.i64.wrap x)=IntKind.i64.wrap x:=y4L (yUW x).1 (yUW x).2
theorem y4K(z:Gau)(d:Int):(z0R z (d,0,())).1=(z0d z d).1:=by
 unfold z0R z0d;simp only[Int.mul_zero,show IntKind.i64.wrap 0=0 from by rw[y4L (by decide) (by decide)],Int.sub_zero,Int.zero_add,yGo]
 rw[Int.mul_comm z.1 d,Int.mul_comm z.2.1 d]
theorem y9P{α β γ:Type}{body:Int→α→List γ→Option (β⊕List γ)}{fin:List γ→Option β}(xs:List α)(f:α→γ)
  (h:∀ (i:Nat) e s,xs[i]?=some e→s.length+1≤memMax→body (i:Int) e s=some (.inr (s++[f e]))) :
  ∀ (l done:List α) (s:List γ),xs=done++l→s.length+l.length≤memMax→yQ body fin (done.length:Int) l s=fin (s++l.map f)
 | [],done,s,_,_=>by simp[y7s]
 | e::l,done,s,hx,hl=>by
  simp only[List.length_cons]at hl;rw[y00,h done.length e s (by rw[hx];simp) (by omega)]
  simp only[Option.bind_some];have ih:=y9P (body:=body) (fin:=fin) xs f h l (done++[e]) (s++[f e]) (by rw[hx];simp) (by simp;omega)
  simp only[List.length_append,List.length_cons,List.length_nil]at ih;rw[show ((done.length:Int)+1)=((done.length+(0+1):Nat):Int) by omega,ih]
  simp
theorem yEJ{α β:Type}(q:α→Bool)(y:β):∀ l:List α,l.findSome? (fun z=>if q z then none else some y)=if l.all q then none else some y
 | []=>rfl
 | z::l=>by
  rw[List.findSome?_cons,List.all_cons];cases h:q z with
  | true=>simpa[h]using yEJ q y l
  | false=>simp[h]
theorem yB8{α β:Type}{body:Int→α→Unit→Option (β⊕Unit)}{fin:Unit→Option β}(q:α→Bool)(y:β)(l:List α)(i:Int)
  (h:∀ i e,e∈l→body i e ()=some (if q e then .inr ()else .inl y)):yQ body fin i l ()=if l.all q then fin ()else some y:=by
 rw[y2u (fun z=>if q z then none else some y) l i fun i e he=>by rw[h i e he];cases q e<;>rfl]
 rw[yEJ];cases l.all q<;>rfl
def yv(m:Int)(z:Gau):Bool:=decide ((z.1.natAbs:Int)≤m∧(z.2.1.natAbs:Int)≤m)
def yw(t:Tid):Bool:=t.2.1.all (yv 4194304) && decide (t.2.2.1≤4096)
theorem yPB(a b m:Int):decide ((if b > a then b else a) > m)=!decide (a≤m∧b≤m):=by
 rw[← decide_not];apply decide_eq_decide.2;split<;>omega
theorem yGq(z:Gau)(m:Int)(h:fits z):decide ((if (z04 z.2.1).1 > (z04 z.1).1 then (z04 z.2.1).1 else (z04 z.1).1) > m)=!yv m z:=by
 rw[yH2 _ h.1.1 h.1.2,yH2 _ h.2.1 h.2.2,yPB];rfl
theorem yGb(z:Gau)(m:Int)(h:fits z):decide (imax (imax (imax z.1 z.2.1) (IntKind.i64.wrap (0 - z.1))) (IntKind.i64.wrap (0 - z.2.1)) > m)=!yv m z:=by
 unfold yv imax;obtain ⟨⟨h1,h2⟩,h3,h4⟩:=h;rw[y4L (i:=0 - z.1) (by omega) (by omega),y4L (i:=0 - z.2.1) (by omega) (by omega),← decide_not]
 apply decide_eq_decide.2;split<;>split<;>split<;>omega
theorem y5e(t:Tid)(hl:t.2.1.length < lenMax):∃ s,zl_M t=some (s,())∧((∀ z∈t.2.1,fits z)→s=yw t):=by
 have h:zl_M t=some (t.2.1.all (fun z=>!decide ((if (z04 z.2.1).1 > (z04 z.1).1 then (z04 z.2.1).1 else (z04 z.1).1) > 4194304)) && decide (t.2.2.1≤4096),()):=by
  unfold zl_M;rw[bifT (yD hl),yB8 (fun z=>!decide ((if (z04 z.2.1).1 > (z04 z.1).1 then (z04 z.2.1).1 else (z04 z.1).1) > 4194304)) (false,()) t.2.1 0 fun i e he=>by
   unfold yKG;try simp only[if_true]
   cases decide ((if (z04 e.2.1).1 > (z04 e.1).1 then (z04 e.2.1).1 else (z04 e.1).1) > 4194304)<;>rfl]
  cases t.2.1.all (fun z=>!decide ((if (z04 z.2.1).1 > (z04 z.1).1 then (z04 z.2.1).1 else (z04 z.1).1) > 4194304))<;>rfl
 refine ⟨_,h,fun hf=>?_⟩
 unfold yw;congr 1
 rw[Bool.eq_iff_iff,List.all_eq_true,List.all_eq_true];refine forall_congr' fun z=>forall_congr' fun hz=>?_
 rw[yGq z _ (hf z hz),Bool.not_not]
theorem y2g(t:Tid)(h:∀ z∈t.2.1,fits z)(hl:t.2.1.length < lenMax):y7z t=some (yw t,()):=by
 unfold y7z yw;rw[bifT (yD hl),yB8 (yv 4194304) (false,()) t.2.1 0 fun i e he=>by
  unfold yDl;try simp only[if_true]
  rw[yGb e _ (h e he)];cases yv 4194304 e<;>rfl]
 cases t.2.1.all (yv 4194304)<;>rfl
theorem yA0:∀ (l:List Gau) (d:Nat),0 < d→0 < comG l d
 | [],d,h=>by simpa[comG]using h
 | z::l,d,h=>by
  unfold comG gI;refine yA0 l _ ?_
  exact Nat.gcd_pos_of_pos_left _ (by rw[Int.natAbs_natCast];exact Nat.gcd_pos_of_pos_left _ (by rw[Int.natAbs_natCast];exact h))
def qG(n:Int)(z:Gau):Gau:=(IntKind.i64.wrap (z.1.tdiv n),IntKind.i64.wrap (z.2.1.tdiv n),())
def lowT(l:List Con)(a:List Gau)(d:Int):Tid:=(l,a.map (qG (comG a d)),IntKind.i64.wrap (d.tdiv (comG a d)),())
theorem yNR(l:List Con)(hl:l.length≤memMax):z7_M l (fun x=>zx_M x.1)=some (l,()):=by
 unfold z7_M;rw[bifT (yD (yK hl)),y0n (fun c=>c) l 0 [] (by simpa using hl) fun i e s _ hs=>by
  unfold yK5;show Option.bind (some (zx e)) _=_
  simp only[Option.bind_some];rw[bifT (yD hs)];rfl]
 simp only[List.map_id_fun',id_eq,List.nil_append];rfl
theorem yI9(l:List Gau)(f:Gau×Unit→Option (Gau×Unit))(g:Gau→Gau)(hl:l.length≤memMax)(h:∀ z∈l,f (z,())=some (g z,())):zG_M l f=some (l.map g,()):=by
 unfold zG_M;rw[bifT (yD (yK hl)),y0n g l 0 [] (by simpa using hl) fun i e s he hs=>by
  unfold yJR;show Option.bind (f (e,())) _=_
  rw[h e he];simp only[Option.bind_some];rw[bifT (yD hs)]]
 rfl
theorem yHF(l:List Con)(a:List Gau)(d:Nat)(hd:0 < d)(hl:l.length≤memMax)(ha:a.length≤memMax)(h:∀ z∈a,fits z):yC2 l a (d:Int)=some (lowT l a d,()):=by
 have hp:=yA0 a d hd;have hz:(comG a (d:Int) == 0)=false:=by simp;omega
 unfold yC2 yL5;rw[yGn a d h (yK ha)];simp only[Option.bind_some];rw[yNR l hl];simp only[Option.bind_some];rw[yI9 a _ (qG (comG a d)) ha fun z _=>by
  show zy_M z _=_
  unfold zy_M zy_m;rw[bifF hz,bifF hz];rfl]
 simp only[Option.bind_some];rw[bifF hz];rfl
theorem yIM(l:List Con)(a:List Gau)(d:Nat)(hd:0 < d)(hl:l.length≤memMax)(ha:a.length≤memMax)(h:∀ z∈a,fits z):y8K l a (d:Int)=some (lowT l a d,()):=by
 have hp:=yA0 a d hd;have hz:(comG a (d:Int) == 0)=false:=by simp;omega
 unfold y8K;rw[yIU a d h (yK ha)];simp only[Option.bind_some];rw[bifT (yD (show 0+l.length≤memMax by omega)),bifF hz,bifT (yD (yK ha))]
 have:=y9P (body:=fun i__ e__ s__=>yAi a (comG a d) 0 l (IntKind.i64.wrap ((d:Int).tdiv (comG a d))) i__ e__ s__) (fin:=fun s__=>yE2 a (comG a d) 0 l (IntKind.i64.wrap ((d:Int).tdiv (comG a d))) s__) a (qG (comG a d)) (fun i e s he hs=>by
  unfold yAi;rw[bifF hz,y1E,he];simp only[Option.bind_some];rw[bifF hz,bifT (yD hs)];rfl) a [] [] rfl (by simpa using ha)
 refine (show _=_ from this).trans ?_
 rfl
def nodV(k:Int):Gau:=let a:Int:=104 - ((k - 8).natAbs:Int);let g:Int:=(Nat.gcd a.natAbs 100:Nat);(a / g,100 / g,())
theorem y7o{k:Int}(h0:0≤k)(h1:k < 16):∀ P:Int→Prop,(P 0∧P 1∧P 2∧P 3∧P 4∧P 5∧P 6∧P 7∧P 8∧P 9∧P 10∧P 11∧P 12∧P 13∧P 14∧P 15)→P k:=by
 intro P h;obtain ⟨a0,a1,a2,a3,a4,a5,a6,a7,a8,a9,a10,a11,a12,a13,a14,a15⟩:=h;have:k=0∨k=1∨k=2∨k=3∨k=4∨k=5∨k=6∨k=7∨k=8∨k=9∨k=10∨k=11∨k=12∨k=13∨k=14∨k=15:=by omega
 rcases this with rfl|rfl|rfl|rfl|rfl|rfl|rfl|rfl|rfl|rfl|rfl|rfl|rfl|rfl|rfl|rfl<;>assumption
theorem yCD{y:Int}(h0:0≤y):yF9 y=some (nodV (y % 16),()):=by
 have e:y.tmod 16=y % 16:=Int.tmod_eq_emod_of_nonneg h0;unfold yF9 yJd;rw[e];have a:0≤y % 16:=by omega
 have b:y % 16 < 16:=by omega
 generalize y % 16=k at a b;refine y7o a b (fun k=>Option.bind (yFS (IntKind.i64.wrap (104 - (z04 (IntKind.i64.wrap (k - 8))).1)) 100) (fun v0=>some ((v0.1.1,v0.1.2.1,()),()))=some (nodV k,())) ?_
 refine ⟨?_,?_,?_,?_,?_,?_,?_,?_,?_,?_,?_,?_,?_,?_,?_,?_⟩<;>kernel_rfl
theorem yCJ{y:Int}(h0:0≤y):yD6 y=some (nodV (y % 16),()):=by
 have e:y.tmod 16=y % 16:=Int.tmod_eq_emod_of_nonneg h0;unfold yD6 yKv;rw[e];try simp only[if_true]
 have a:0≤y % 16:=by omega
 have b:y % 16 < 16:=by omega
 generalize y % 16=k at a b;refine y7o a b (fun k=>Option.bind (yEy (IntKind.i64.wrap (104 - if IntKind.i64.wrap (0 - IntKind.i64.wrap (k - 8)) > IntKind.i64.wrap (k - 8)then IntKind.i64.wrap (0 - IntKind.i64.wrap (k - 8))else IntKind.i64.wrap (k - 8))) 100) (fun v0=>some ((v0.1.1,v0.1.2.1,()),()))=some (nodV k,())) ?_
 refine ⟨?_,?_,?_,?_,?_,?_,?_,?_,?_,?_,?_,?_,?_,?_,?_,?_⟩<;>kernel_rfl
theorem yIC{y:Int}:(0≤(nodV (y % 16)).1∧(nodV (y % 16)).1≤104)∧(1≤(nodV (y % 16)).2.1∧(nodV (y % 16)).2.1≤100):=by
 have a:0≤y % 16:=by omega
 have b:y % 16 < 16:=by omega
 generalize y % 16=k at a b;refine y7o a b (fun k=>(0≤(nodV k).1∧(nodV k).1≤104)∧(1≤(nodV k).2.1∧(nodV k).2.1≤100)) ?_
 decide
theorem tNodal_eq(y:Int):yGp y=some (if ckR y 0 9999=0 then (nodV (y % 16),0,())else ((0,0,()),ckR y 0 9999,())):=by
 unfold yGp yL9;rw[y3v];by_cases h:ckR y 0 9999=0
 ·simp only[h,if_true];rw[bifF (by rfl),yCD (y1V h).1]
  rfl
 ·simp only[h,if_false];rw[bifT (by simpa using h)]
theorem y3g{z:Gau}{n m k:Int}(hz:yv m z=true)(h0:0≤n)(h1:n≤k)(hb:k * m < 9223372036854775807)(hm:0≤m):yv (k * m) (z0d z n).1=true:=by
 unfold yv at hz ⊢;have hz:=of_decide_eq_true hz;have key:∀ x:Int,(x.natAbs:Int)≤m→((n * x).natAbs:Int)≤k * m:=fun x hx=>by
  rw[Int.natAbs_mul];have e:((n.natAbs * x.natAbs:Nat):Int)=n * (x.natAbs:Int):=by
   rw[Int.natCast_mul,Int.natAbs_of_nonneg h0]
  rw[e];exact Int.le_trans (Int.mul_le_mul_of_nonneg_left hx h0) (Int.mul_le_mul_of_nonneg_right h1 hm)
 have k1:=key z.1 hz.1;have k2:=key z.2.1 hz.2;unfold z0d;simp only;rw[y4L (i:=n * z.1) (by omega) (by omega),y4L (i:=n * z.2.1) (by omega) (by omega)]
 exact yD ⟨k1,k2⟩
theorem y8B{m:Int}{z:Gau}(h:yv m z=true)(hm:m≤9223372036854775807):fits z:=by
 have:=of_decide_eq_true h;unfold fits;omega
theorem y1d{t:Tid}(h:okT t):∀ z∈t.2.1,fits z:=fun z hz=>y4c (h.part z hz)
theorem y7K{t:Tid}(h:yw t=true):(∀ z∈t.2.1,yv 4194304 z=true)∧t.2.2.1≤4096:=by
 unfold yw at h;rw[Bool.and_eq_true]at h;exact ⟨fun z hz=>List.all_eq_true.1 h.1 z hz,of_decide_eq_true h.2⟩
noncomputable def adjT(t:Tid)(f:Gau):Tid:=lowT t.1 (t.2.1.map fun z=>(z0d z f.1).1) (t.2.2.1 * f.2.1)
theorem yCR{t:Tid}{f:Gau}(ht:okT t)(hs:yw t=true)(hf:(0≤f.1∧f.1≤104)∧(1≤f.2.1∧f.2.1≤100)) :
  (∀ z∈t.2.1.map (fun z=>(z0d z f.1).1),fits z)∧∃ d:Nat,0 < d∧t.2.2.1 * f.2.1=(d:Int)∧IntKind.i64.wrap (t.2.2.1 * f.2.1)=(d:Int):=by
 obtain ⟨h1,h2⟩:=y7K hs;constructor
 ·intro z hz;obtain ⟨y,hy,rfl⟩:=List.mem_map.1 hz;exact y8B (y3g (h1 y hy) hf.1.1 hf.1.2 (by decide) (by decide)) (by decide)
 ·have h3:1 * 1≤t.2.2.1 * f.2.1:=Int.mul_le_mul ht.den.1 hf.2.1 (by decide) (by have:=ht.den.1;omega)
  have h4:t.2.2.1 * f.2.1≤4096 * 100:=Int.mul_le_mul h2 hf.2.2 (by omega) (by decide)
  refine ⟨(t.2.2.1 * f.2.1).toNat,by omega,by omega,?_⟩
  rw[y4L (by omega) (by omega)]
  omega
theorem y3A{a b c:Int}(h:a=0→b=c):yN a b=yN a c:=by
 by_cases ha:a=0
 ·rw[h ha]
 ·rw[yo ha,yo ha]
def adjE(t:Tid)(y:Int):Int:=yN (yf t) (yN (ckR y 0 9999) (if yw t then 0 else 4))
theorem tAdj_eq{t:Tid}(hn:∀ n∈t.1,n.1.length < lenMax)(hl:t.1.length≤memMax)(ha:t.2.1.length≤memMax)(y:Int) :
  yJT t y=some (if adjE t y=0 then (adjT t (nodV (y % 16)),0,())else (([],[],0,()),adjE t y,())):=by
 unfold yJT yK7;obtain ⟨s,hs,hs2⟩:=y5e t (yK ha);rw[yEE t hn (yK hl) ha,hs,y3v];simp only[Option.bind_some,y2a];rw[y15 _ (yDp _ _ _),ye,ye,ye,y22,y1M];simp only[Option.bind_some];have e0:yN (yf t) (yN (ckR y 0 9999) (bif !s then (4:Int)else 0))=adjE t y:=y3A fun h=>by
  rw[hs2 (y1d (y07 h))];cases yw t<;>rfl
 rw[e0];by_cases h:adjE t y=0
 ·rw[if_pos h,bifF (by rw[h];rfl)]
  obtain ⟨h1,h2⟩:=yR h;obtain ⟨h3,h4⟩:=yR h2;have hs:yw t=true:=by
   cases hs:yw t with
   | true=>rfl
   | false=>rw[hs]at h4;cases h4
  obtain ⟨g1,d,g2,g3,g4⟩:=yCR (y07 h1) hs (yIC (y:=y));rw[yCD (y1V h3).1];simp only[Option.bind_some];rw[yI9 t.2.1 _ (fun z=>(z0d z (nodV (y % 16)).1).1) ha fun z _=>rfl]
  simp only[Option.bind_some];rw[g4,yHF t.1 _ d g2 hl (by simpa using ha) g1]
  unfold adjT;rw[g3];rfl
 ·rw[if_neg h,bifT (by simpa using h)]
theorem yPx{t:Tid}(ht:okT t)(hs:yw t=true){y:Int}(hy:0≤y):yCd t y=some (adjT t (nodV (y % 16)),()):=by
 have hmem:memMax=68719476736:=rfl;have hf:=ht.few;have hlen:=ht.len;obtain ⟨g1,d,g2,g3,g4⟩:=yCR ht hs (yIC (y:=y));unfold yCd;rw[yCJ hy];simp only[Option.bind_some];rw[bifT (yD (show t.2.1.length < lenMax by unfold lenMax;omega)),y0n (fun z=>(z0d z (nodV (y % 16)).1).1) t.2.1 0 [] (by simp;omega) fun i e s _ hs=>by
  unfold yEn;rw[bifT (yD hs),y4K]]
 unfold yEm;simp only[List.nil_append];rw[g4,yIM t.1 _ d g2 (by omega) (by simp;omega) g1]
 unfold adjT;rw[g3];rfl
end Go.Tw
