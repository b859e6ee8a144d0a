import Derived.Test.YtpcnkpbpcebokaaGreatDoorPZ
set_option linter.all false
set_option maxRecDepth 100000
namespace Go.Tw
open Go.Vx Go.Vx.B Go.Proofs
theorem yOR{a:Tid}(ha:tameT a){f:Gau}(hf:(0≤f.1∧f.1≤104)∧(1≤f.2.1∧f.2.1≤100))(t:Int) :
  y09 (adjT a f)=0∧(1≤(adjT a f).2.2.1∧(adjT a f).2.2.1≤6400)∧yY 4160000 (valT (adjT a f) t)=true ∧
  (valT (adjT a f) t).1 * (a.2.2.1 * f.2.1)=(f.1 * (valT a t).1) * (adjT a f).2.2.1∧(valT (adjT a f) t).2.1 * (a.2.2.1 * f.2.1)=(f.1 * (valT a t).2.1) * (adjT a f).2.2.1:=by
 have oa:=ym ha.ok;have fa:=oa.few;have da:=oa.den;have da2:=ha.den;have la:=oa.len;have sa:∀ z∈a.2.1,(z0Z z f.1).1=mulG f.1 z∧yY 1040000 (mulG f.1 z)=true:=fun z hz=>y1O (m:=10000) (k:=104) (ha.part z hz) hf.1.1 hf.1.2 (by decide) (by decide)
 have em:(a.2.1.map fun z=>(z0Z z f.1).1)=a.2.1.map (mulG f.1):=List.map_congr_left fun z hz=>(sa z hz).1
 have h3:1 * 1≤a.2.2.1 * f.2.1:=Int.mul_le_mul da.1 hf.2.1 (by decide) (by omega)
 have h4:a.2.2.1 * f.2.1≤64 * 100:=Int.mul_le_mul da2 hf.2.2 (by omega) (by decide)
 obtain ⟨D,hD⟩:∃ D:Nat,a.2.2.1 * f.2.1=(D:Int):=⟨(a.2.2.1 * f.2.1).toNat,by omega⟩
 have hc:y0k a.1=0:=by
  have:=ha.ok;unfold y09 at this;exact (yS this).1
 have hx:∀ z∈a.2.1.map (mulG f.1),yY 1040000 z=true:=fun z hz=>by
  obtain ⟨y,hy,rfl⟩:=List.mem_map.1 hz;exact (sa y hy).2
 obtain ⟨g1,g2,g3,g4,g5⟩:=yI0 (l:=a.1) (x:=a.2.1.map (mulG f.1)) (D:=D) (m:=1040000) (by omega) (by omega) hc (by simpa using la) hx (by decide) (by decide)
 have hv:adjT a f=lowT a.1 (a.2.1.map (mulG f.1)) D:=by
  unfold adjT;rw[em,hD]
 rw[hv];have hp:=y4s (a.2.1.map (mulG f.1)) D (by omega)
 have lv:=yHl (t:=lowT a.1 (a.2.1.map (mulG f.1)) D) (m:=1040000) (by decide) g2 (by show (a.1.length:Int) * _ < _;omega) t
 have hl1:(lowT a.1 (a.2.1.map (mulG f.1)) (D:Int)).1=a.1:=rfl;obtain ⟨b1,b2⟩:=yAH (m:=1040000) (by decide) a.1 (lowT a.1 (a.2.1.map (mulG f.1)) D).2.1 t g2
 have q1:=y6t (g5 t).1 g4 hp;have q2:=y6t (g5 t).2 g4 hp;rw[y9b]at q1 q2;rw[lv,hl1,hD,(y25 ha t).1];exact ⟨g1,⟨g3.1,by omega⟩,yC (by simp only;omega),q1,q2⟩
theorem yH9{y:Int}:24 * (nodV (y % 16)).2.1≤25 * (nodV (y % 16)).1∧25 * (nodV (y % 16)).1≤26 * (nodV (y % 16)).2.1:=by
 have a:0≤y % 16:=by omega
 have b:y % 16 < 16:=by omega
 generalize y % 16=k at a b;refine y77 a b (fun k=>24 * (nodV k).2.1≤25 * (nodV k).1∧25 * (nodV k).1≤26 * (nodV k).2.1) ?_
 decide
theorem yMu{a:Tid}(ha:tameT a){p:Int}(h0:0≤p)(h1:p≤65535):yBS a p 1=some (if sixI a (valT a p) > 1024∨sixI a (valT a p) < -1024 then ([],16,())else ([lvF (sixI a (valT a p))],0,())):=by
 have oa:=ym ha.ok;have fa:=oa.few;have la:=oa.len;have hmem:memMax=68719476736:=rfl;have hlm:lenMax=9223372036854775808:=rfl;have hf:y2y p 1=0:=by
  unfold y2y ckR;rw[yQ,yQ,y1K,y0T,yo (by omega) (by omega),if_neg (by omega),if_neg (by omega),if_neg (by omega)]
  rfl
 rw[yOA (y20 ha.ok) (by omega) (by omega),if_pos (by rw[ha.ok,hf];rfl)]
 unfold yFn;show some (levR a [valT a (p+(0+0))] [])=_
 rw[show p+(0+0)=p by omega]
 unfold levR levR;rfl
theorem yKq{a b:Tid}(ha:tameT a){at0 year:Int}(h0:0≤at0)(h1:at0≤65535)(y0:0≤year)(y1:year≤9999)(T:List (List Tid))(s0 s1:Int) :
  yAj a b at0 year [valT a at0] T s0 s1=some (true,()):=by
 have hmem:memMax=68719476736:=rfl;have hlm:lenMax=9223372036854775808:=rfl;have oa:=ym ha.ok;have fa:=oa.few;have la:=oa.len;have da:=oa.den;have da2:=ha.den;have hy:ckR year 0 9999=0:=by unfold ckR;rw[if_neg (by omega)]
 have he:adjE a year=0:=by
  unfold adjE;rw[ha.ok,hy,ha.small];rfl
 have hfi:=yGZ (y:=year);obtain ⟨r1,r2⟩:=yH9 (y:=year);obtain ⟨g1,g2,g3,g4,g5⟩:=yOR ha hfi at0;unfold yAj;rw[tNodal_eq,if_pos hy,yAb a (by omega) (by omega)]
 simp only[Option.bind_some];rw[tAdj_eq (y20 ha.ok) (by omega) (by omega),if_pos he]
 simp only[Option.bind_some];generalize nodV (year % 16)=f at hfi r1 r2 g1 g2 g3 g4 g5;generalize adjT a f=t at g1 g2 g3 g4 g5;have ot:=ym g1;have ft:=ot.few;have lt:=ot.len;rw[bifF (by rfl),bifF (by rfl),bifF (yL (by omega)),bifF (yL (by omega)),yo (i:=25 * f.1) (by omega) (by omega),yo (i:=24 * f.2.1) (by omega) (by omega),yo (i:=26 * f.2.1) (by omega) (by omega),bifF (yL (by omega)),bifF (yL (by omega)),bifF (yL (by omega)),bifF (yL (by omega))]
 show Option.bind (y6Q t at0 1) _=_
 rw[y6p (y20 g1) (by omega) (by omega) g1 h0 h1]
 simp only[Option.bind_some];rw[bifF (by rfl),bifF (by rfl)]
 have hi:∀ z:Gau,idx [z] (0:Int)=some z:=fun z=>rfl
 rw[hi,hi];simp only[Option.bind_some,if_true];have hbig:=yDG (valT t at0) 1099511627776 (y2L g3 (by decide))
 rw[bifF (yL fun q=>hbig.1 q (y1X g3 (by decide)))]
 have h3:1 * 1≤a.2.2.1 * f.2.1:=Int.mul_le_mul da.1 hfi.2.1 (by decide) (by omega)
 have h4:a.2.2.1 * f.2.1≤64 * 100:=Int.mul_le_mul da2 hfi.2.2 (by omega) (by decide)
 have h5:0≤f.1 * t.2.2.1:=Int.mul_nonneg hfi.1.1 (by omega)
 have h6:f.1 * t.2.2.1≤104 * 6400:=Int.mul_le_mul hfi.1.2 g2.2 (by omega) (by decide)
 obtain ⟨tv,ts⟩:=y25 ha at0;rw[yo (i:=a.2.2.1 * f.2.1) (by omega) (by omega),yo (i:=f.1 * t.2.2.1) (by omega) (by omega),y1q (m:=4160000) (k:=6400) g3 (by omega) h4 (by decide) (by decide),y1q (m:=40000) (k:=665600) ts h5 h6 (by decide) (by decide)]
 rw[bifF (by
  rw[yLU]
  ·rfl
  ·simp only;rw[Int.mul_comm (a.2.2.1 * f.2.1),g4,Int.mul_right_comm]
  ·simp only;rw[Int.mul_comm (a.2.2.1 * f.2.1),g5,Int.mul_right_comm])]
 rw[yMu ha h0 h1];simp only[Option.bind_some];obtain ⟨n1,n2,n3⟩:=yGq ha at0;have ts2:=of_decide_eq_true ts;have hden:=oa.den;generalize hs:sixI a (valT a at0)=s at n1 n2 n3;generalize valT a at0=v at n1 n2 ts2;by_cases hlv:s > 1024∨s < -1024
 ·rw[if_pos hlv,bifT (by rfl),bifT (by rfl)]
  rw[yo (i:=0 - v.1) (by omega) (by omega),yo (i:=1023 * a.2.2.1) (by omega) (by omega)]
  have key:(if 0 - v.1 > v.1 then 0 - v.1 else v.1) > 1023 * a.2.2.1:=by
   rcases hlv with h|h
   ·have:1025 * a.2.2.1≤s * a.2.2.1:=Int.mul_le_mul_of_nonneg_right (by omega) (by omega)
    split<;>omega
   ·have:s * a.2.2.1≤-1025 * a.2.2.1:=Int.mul_le_mul_of_nonneg_right (by omega) (by omega)
    split<;>omega
  rw[yC key]
 ·rw[if_neg hlv,bifF (by rfl),bifF (by rfl)]
  obtain ⟨c1,c2⟩:=yQs (x:=s) (by omega) (by omega)
  show Option.bind (zZ_M (lvF s)) _=_
  rw[c1];simp only[Option.bind_some];rw[bifF (by rfl)]
  show Option.bind (zc_M (lvF s)) _=_
  rw[c2];simp only[Option.bind_some];have hsd:(s * a.2.2.1).natAbs≤40001 * 64:=by
   rw[Int.natAbs_mul];exact Nat.mul_le_mul (by omega) (by omega)
  rw[yo (i:=s * a.2.2.1) (by omega) (by omega),yo (i:=s * a.2.2.1 - v.1) (by omega) (by omega),yo (i:=2 * (s * a.2.2.1 - v.1)) (by omega) (by omega),yo (i:=0 - a.2.2.1) (by omega) (by omega),bifT (yC n2),yC (by omega)]
theorem yLK(a b:Tid)(xp:List Int)(la:a.1.length < lenMax)(lb:b.1.length < lenMax)(hx:Ty.wf (.arr 2 (.int .u16)) xp):zp_M a b xp=some (true,()):=by
 have hmem:memMax=68719476736:=rfl;have hlm:lenMax=9223372036854775808:=rfl;unfold zp_M;rw[yFA];simp only[Option.bind_some,Bool.not_true,cond_false];obtain ⟨s,hs,hs2⟩:=yC2 a la;obtain ⟨u,hu,hu2⟩:=yC2 b lb;rw[hs];simp only[Option.bind_some];cases s with
 | false=>rfl
 | true =>
  simp only[Bool.not_true,cond_false];rw[hu];simp only[Option.bind_some];cases u with
  | false=>rfl
  | true =>
   obtain ⟨a60,a5,a5'⟩:=hs2 rfl;obtain ⟨b60,b5,b5'⟩:=hu2 rfl;simp only[Bool.not_true,cond_false];obtain ⟨s1,t1,t2⟩:=yHO a (by omega)
   obtain ⟨s2,u1,u2⟩:=yHO b (by omega)
   rw[t1];simp only[Option.bind_some];cases s1 with
   | false=>rfl
   | true =>
    simp only[Bool.not_true,cond_false];rw[u1];simp only[Option.bind_some];cases s2 with
    | false=>rfl
    | true =>
     have ha:=t2 rfl;have hb:=u2 rfl;simp only[Bool.not_true,cond_false];obtain ⟨hl2,hw⟩:=hx;obtain ⟨p,y,rfl⟩:∃ p y,xp=[p,y]:=by
      match xp,hl2 with
      | [p,y],_=>exact ⟨p,y,rfl⟩
     have hp:=yM3 (hw p (by simp))
     have hy:=yM3 (hw y (by simp))
     show Option.bind (some p) (fun v18=>Option.bind (some y) fun v19=>_)=_
     simp only[Option.bind_some];rw[yAb a (by omega) (by omega),yAb b (by omega) (by omega),yo (i:=p) (by omega) (by omega),yo (i:=y) (by omega) (by omega)]
     simp only[Option.bind_some];rw[y6p (y20 ha.ok) la (by omega) ha.ok hp.1 hp.2,y6p (y20 hb.ok) lb (by omega) hb.ok hp.1 hp.2]
     simp only[Option.bind_some];obtain ⟨va,sa⟩:=y25 ha p;obtain ⟨vb,sb⟩:=y25 hb p;have hi:∀ z:Gau,idx [z] (0:Int)=some z:=fun z=>rfl
     rw[bifF (by rfl),bifF (by rfl),bifF (by rfl),bifF (by rfl),hi,hi]
     simp only[Option.bind_some];rw[y9s (y1X sa (by decide)),y9s (y1X sb (by decide)),bifF (by rfl),bifF (by rfl),bifT (by rfl)]
     have oa:=ym ha.ok;have ob:=ym hb.ok;have da:=oa.den;have db:=ob.den;rw[y1q (m:=40000) (k:=64) sa (by omega) hb.den (by decide) (by decide),y1q (m:=40000) (k:=64) sb (by omega) ha.den (by decide) (by decide)]
     have b1:=of_decide_eq_true (y1O (m:=40000) (k:=64) sa (n:=b.2.2.1) (by omega) hb.den (by decide) (by decide)).2
     have b2:=of_decide_eq_true (y1O (m:=40000) (k:=64) sb (n:=a.2.2.1) (by omega) ha.den (by decide) (by decide)).2
     unfold mulG at b1 b2;simp only at b1 b2;have hplus:(z0j (b.2.2.1 * (valT a p).1,b.2.2.1 * (valT a p).2.1,()) (a.2.2.1 * (valT b p).1,a.2.2.1 * (valT b p).2.1,())).1=(b.2.2.1 * (valT a p).1+a.2.2.1 * (valT b p).1,b.2.2.1 * (valT a p).2.1+a.2.2.1 * (valT b p).2.1,()):=by
      unfold z0j;simp only;rw[yo (by omega) (by omega),yo (by omega) (by omega)]
     rw[hplus];have hyr:y.tmod 10000=y % 10000:=Int.tmod_eq_emod_of_nonneg hy.1;show y2e _ _ 2 0 ()=_
     rw[y5v,yDq (u:=a) (v:=b) ha hb p _ _ _ 0 rfl hp.1 hp.2 ha hb _ _ rfl rfl rfl];simp only[Option.bind_some];rw[y5v,yDq (u:=b) (v:=a) ha hb p _ _ _ (0+1) rfl hp.1 hp.2 hb ha _ _ (Int.add_comm _ _) (Int.add_comm _ _) (Int.mul_comm _ _)];simp only[Option.bind_some];rw[y8g,hyr,yKq ha hp.1 hp.2 (by omega) (by omega)]
end Go.Tw
