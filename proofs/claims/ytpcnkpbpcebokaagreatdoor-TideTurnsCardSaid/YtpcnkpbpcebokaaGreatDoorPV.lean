import Derived.Test.YtpcnkpbpcebokaaGreatDoorPU
set_option linter.all false
set_option maxRecDepth 100000
namespace Go.Tw
open Go.Vx Go.Vx.B Go.Proofs Ieee
theorem yOF{k:FloatKind}{x y:Nat}{V W:Int}(hx:Num k.format x V)(hy:Num k.format y W):yR .geq k x y=decide (V ≥ W):=by
  unfold yR;rw[y67 hx hy];simp only[compare,compareOfLessAndEq];split
  · rw[show decide (V ≥ W)=false from decide_eq_false (by omega)];rfl
  · rw[show decide (V ≥ W)=true from decide_eq_true (by omega)]
    split<;>rfl
theorem y7U(xs:List Nat)(at1 k:Int)(hk:(IntKind.i64.wrap at1).tmod (xs.length:Int)=k)(h0:0 < xs.length){fin:List Nat×List Nat→Option (Bool×Unit)}:∀ (l:List Nat) (i:Nat) (u v:List Nat),u.length+l.length≤memMax→v.length+2 * l.length≤memMax →
    yP (fun i__ e__ s__=>yEP xs at1 xs i__ e__ s__.1 s__.2) fin (i:Int) l (u,v)=fin (u++l.map (y1F .f32),v++rep k (i:Int) l)
  | [],i,u,v,_,_=>by simp[y7T,rep]
  | x::l,i,u,v,hu,hv=>by
    simp only[List.length_cons]at hu hv;have hb:yEP xs at1 xs (i:Int) x u v=some (.inr (u++[y1F .f32 x],if (i:Int)=k then v++[x]++[x]else v++[x])):=by
      unfold yEP;rw[bifT (yU (by omega)),bifT (yU (by omega)),bifF (show ((xs.length:Int) == 0)=false from by rw[beq_eq_false_iff_ne];omega),hk]
      by_cases h:(i:Int)=k
      · rw[bifT (by simpa using h),bifT (yU (by simp;omega)),if_pos h]
      · rw[bifF (by simpa using h),if_neg h]
    rw[y2o];simp only[hb,Option.bind_some];rw[show ((i:Int)+1)=((i+1:Nat):Int) by omega,y9p,List.map_cons]
    by_cases h:(i:Int)=k
    · rw[if_pos h,if_pos h,y7U xs at1 k hk h0 l (i+1) (u++[y1F .f32 x]) (v++[x]++[x]) (by simp;omega) (by simp;omega)]
      congr 2<;>simp
    · rw[if_neg h,if_neg h,y7U xs at1 k hk h0 l (i+1) (u++[y1F .f32 x]) (v++[x]) (by simp;omega) (by simp;omega)]
      congr 2<;>simp
theorem y8b{β:Type}{body:Int→Int→Int→Option (β⊕Int)}{fin:Int→Option β}(a b:Int)
    (hb:∀ i y (n:Int),0≤n→n≤9223372036854775806→body i y n=some (.inr (if a < y∧y < b then n+1 else n))):∀ (l:List Int) (i n:Int),0≤n→n+l.length≤9223372036854775806→yP body fin i l n=fin (n+(mid l a b:Nat))
  | [],i,n,_,_=>by rw[y7T];unfold mid;simp
  | y::l,i,n,h0,h1=>by
    simp only[List.length_cons]at h1;rw[y2o,hb i y n h0 (by omega)]
    simp only[Option.bind_some];unfold mid;by_cases h:a < y∧y < b
    · rw[if_pos h,y8b a b hb l (i+1) (n+1) (by omega) (by omega),List.filter_cons,if_pos (yU h)]
      unfold mid;simp only[List.length_cons];congr 1
      omega
    · rw[if_neg h,y8b a b hb l (i+1) n h0 (by omega),List.filter_cons,if_neg (by simpa using h)]
      rfl
theorem yNk(l:List Nat):okP (wat (-1) l) (wat 1 l):=by
  rw[yOM];cases l with
  | nil=>trivial
  | cons x l=>exact yDW (sxs 1 l) (1 * sx x) 1
theorem yGD(l:List Nat)(hl:∀ x∈l,lvE x=0)(h24:l.length≤24)(p:List Int)(x:Int)(r:List Int)(e:wat 1 l=p++x::r) :
    yAz l (wat 1 l) (wat (-1) l) (wat 1 l) (p.length:Int) x=some (.inr ()):=by
  have hlm:lenMax=9223372036854775808:=rfl;obtain ⟨j,u,v,w,h1,h2,h3,h4,h5,h6⟩:=yTW l x (by rw[e];simp)
  have hj:=(List.getElem?_eq_some_iff.1 h4).1;have su:=y5k (hl u (List.mem_of_getElem? h2));have sv:=y5k (hl v (List.mem_of_getElem? h3));have sw:=y5k (hl w (List.mem_of_getElem? h4));have w1:IntKind.i64.wrap ((l.length:Int) - 1)=((l.length - 1:Nat):Int):=by rw[yEc (by omega) (by omega)];omega
  have w2:IntKind.i64.wrap (x - 1)=(j:Int):=by rw[yEc (by omega) (by omega)];omega
  have w3:IntKind.i64.wrap (x+1)=((j+2:Nat):Int):=by rw[yEc (by omega) (by omega)];omega
  have g1:yR .geq .f32 u v=false:=by
    rw[yOF su.num sv.num];refine yp ?_
    show ¬ (sx v * P16≤sx u * P16)
    have:=(y3z (n:=sx u) (k:=sx v)).2 h5;omega
  have g2:yR .gtr .f32 w v=false:=by
    rw[y6Z sw.num sv.num];refine yp ?_
    show ¬ (sx v * P16 < sx w * P16)
    rw[y3z];omega
  unfold yAz;rw[bifF (yp (by omega)),w1,bifF (yp (by omega)),w2,y5J,h2,h1,y5J,h3]
  simp only[Option.bind_some];rw[g1,cond_false,← h1,w3,y5J,h4,h1];simp only[Option.bind_some];rw[g2,cond_false];by_cases hp:p=[]
  · subst hp;rfl
  · obtain ⟨q,y,rfl⟩:∃ q y,p=q++[y]:=⟨p.dropLast,p.getLast hp,(List.dropLast_concat_getLast hp).symm⟩;have e2:wat 1 l=q++y::x::r:=by rw[e];simp
    have hm:=yLA (yNk l) e2;have hw:=y8e (-1) l;rw[bifF (by simp;omega),bifT (yU (by omega))]
    have hi:idx (wat 1 l) (IntKind.i64.wrap (((q++[y]).length:Int) - 1))=some y:=by
      have hq:(q++[y]).length≤(wat 1 l).length:=by rw[e2];simp
      have:=y8e 1 l;simp only[List.length_append,List.length_cons,List.length_nil]at hq ⊢;rw[yEc (by omega) (by omega),show (((q.length+(0+1):Nat):Int) - 1)=(q.length:Int) by omega,e2]
      exact yFs q y (x::r) _ rfl
    rw[y8b (body:=fun i__ e__ s__=>yA9 l (wat 1 l) (wat (-1) l) ((q++[y]).length:Int) ((j+1:Nat):Int) (wat 1 l) ((wat 1 l).length:Int) ((q++[y]).length:Int) (wat (-1) l) i__ e__ s__) y ((j+1:Nat):Int) (fun i z n h0 h1=>by
      unfold yA9;rw[hi];simp only[Option.bind_some];by_cases a1:y < z
      · rw[bifT (yU (show z > y from a1))]
        by_cases a2:z < ((j+1:Nat):Int)
        · rw[bifT (yU a2),if_pos ⟨a1,a2⟩,yEc (by omega) (by omega)]
        · rw[bifF (yp a2),if_neg (fun h=>a2 h.2)]
      · rw[bifF (yp (show ¬ z > y from a1)),if_neg (fun h=>a1 h.1)]) (wat (-1) l) 0 0 (by decide) (by omega)]
    rw[← h1,hm];rfl
theorem yK5(l:List Nat)(p1:Int):zh_M l p1=some (true,()):=by
  have hmem:memMax=68719476736:=rfl;have hlm:lenMax=9223372036854775808:=rfl;unfold zh_M;rw[yEG];simp only[Option.bind_some,Bool.not_true,cond_false];by_cases h24:(l.length:Int) > 24
  · rw[bifT (yU h24)]
  · rw[bifF (yp h24),yLm];simp only[Option.bind_some];by_cases h:lvEs l=0
    · obtain ⟨h1,hl⟩:=yFm h;rw[bifF (by simp[h]),bifT (yU (by omega))]
      have fin9:∀ (u v:List Nat),u=l.map (y1F .f32)→(∃ k,v=rep k 0 l)→yFU l p1 l u v=some (true,()):=fun u v hu hv=>by
        obtain ⟨k,hv⟩:=hv;have w1:=y8e 1 l;have w2:=y8e (-1) l;have hr:=yFy k l 0;have eu:lvEs u=0:=by
          unfold lvEs;rw[if_neg (by rw[hu,List.length_map];omega)]
          have:∀ e∈u.map lvE,e=0:=fun e he=>by
            obtain ⟨y,hy,rfl⟩:=List.mem_map.1 he;rw[hu]at hy;obtain ⟨z,hz,rfl⟩:=List.mem_map.1 hy;exact (yGb (hl z hz)).1
          unfold y2E;rw[List.find?_eq_none.2 fun e he=>by simp[this e he]]
          rfl
        have ev:lvEs v=0:=by
          unfold lvEs;rw[if_neg (by rw[hv];omega)]
          have:∀ e∈v.map lvE,e=0:=fun e he=>by
            obtain ⟨y,hy,rfl⟩:=List.mem_map.1 he;rw[hv]at hy;exact hl y (yHq k l 0 y hy)
          unfold y2E;rw[List.find?_eq_none.2 fun e he=>by simp[this e he]]
          rfl
        unfold yFU;unfold yK1 yJV yJt yKD;rw[bifT (yU (by omega)),y95 yGS,y95 yHD,y95 yHD,y95 yGS,if_pos h,if_pos h,if_pos eu,if_pos ev]
        simp only[Option.bind_some];rw[bifT (yU (by omega))]
        simp only[bne_self_eq_false,cond_false];rw[hu,yFh l hl,y9h (wat 1 l) (by omega)]
        simp only[Option.bind_some,Bool.not_true,cond_false];have hc:(wat 1 v).length=(wat 1 l).length:=by rw[hv];exact yMa k l
        rw[bifF (by rw[hc];simp),bifT (yU (by omega)),y5K (wat 1 l) (fun p x r e=>yGD l hl (by omega) p x r e) (wat 1 l) [] 0 rfl rfl]
        rfl
      cases l with
      | nil=>exact fin9 [] [] rfl ⟨0,rfl⟩
      | cons x l =>
        have:=y7U (x::l) p1 _ rfl (by simp) (fin:=fun s__=>yFU (x::l) p1 (x::l) s__.1 s__.2) (x::l) 0 [] [] (by simp at h1 ⊢;omega) (by simp at h1 ⊢;omega)
        refine (show _=_ from this).trans ?_
        exact fin9 _ _ (by simp) ⟨_,by simp;rfl⟩
    · rw[bifT (by simpa using h)]
end Go.Tw
