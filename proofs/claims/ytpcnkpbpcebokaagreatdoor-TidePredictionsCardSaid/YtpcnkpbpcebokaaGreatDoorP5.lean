import Derived.Test.YtpcnkpbpcebokaaGreatDoorPA
import Derived.Test.YtpcnkpbpcebokaaGreatDoorBPr
set_option linter.all false
set_option maxRecDepth 100000
namespace Go.Tw
open Go.Vx Go.Vx.B Go.Proofs
def lvF(x:Int):Nat:=y0H .quo .f32 (y0U .f32 x) 1098907648
theorem yPw:((List.range 2049).all fun k=>y0G .eql .f32 (lvF ((k:Int) - 1024)) (lvF ((k:Int) - 1024)))=true:=by kernel_rfl
theorem yK5{x:Int}(h0:-1024≤x)(h1:x≤1024):y0G .neq .f32 (lvF x) (lvF x)=false:=by
  have h:=List.all_eq_true.1 yPw (x+1024).toNat (List.mem_range.2 (by omega))
  rw[show (((x+1024).toNat:Nat):Int) - 1024=x by omega]at h
  unfold y0G at h ⊢;simp only[bne,h,Bool.not_true]
def nrI(a b:Int):Int:=bif decide (a.tmod b < 0)then IntKind.i64.wrap (IntKind.i64.wrap (a.tdiv b) - 1)else IntKind.i64.wrap (a.tdiv b)
theorem y7J{a b:Int}(hb:2≤b):(0≤a→0≤a.tdiv b∧a.tdiv b≤a∧0≤a.tdiv b * b∧a.tdiv b * b≤a)∧(a < 0→a≤a.tdiv b∧a.tdiv b≤0∧a≤a.tdiv b * b∧a.tdiv b * b≤0):=by
  have key:∀ x:Int,0≤x→0≤x.tdiv b∧x.tdiv b≤x∧0≤x.tdiv b * b∧x.tdiv b * b≤x:=fun x hx=>by
    rw[Int.tdiv_eq_ediv_of_nonneg hx];have h7:0≤x / b:=Int.ediv_nonneg hx (by omega)
    exact ⟨h7,Int.ediv_le_self _ hx,Int.mul_nonneg h7 (by omega),Int.ediv_mul_le x (by omega)⟩
  refine ⟨key a,fun h=>?_⟩
  obtain ⟨h1,h2,h3,h4⟩:=key (-a) (by omega)
  rw[Int.neg_tdiv]at h1 h2 h3 h4;rw[Int.neg_mul]at h3 h4;omega
theorem yFu{a b:Int}(hb:1≤b)(hb2:b≤268435456):yGN a b=some (nrI (IntKind.i64.wrap (IntKind.i64.wrap (2 * a)+b)) (IntKind.i64.wrap (2 * b)),()):=by
  unfold yGN yKr nrI;have e:IntKind.i64.wrap (2 * b)=2 * b:=y4G (by omega) (by omega)
  have hz:(IntKind.i64.wrap (2 * b) == 0)=false:=by rw[e];simp;omega
  rw[bifF hz,bifF hz];cases decide ((IntKind.i64.wrap (IntKind.i64.wrap (2 * a)+b)).tmod (IntKind.i64.wrap (2 * b)) < 0)<;>rfl
theorem yKx{a b:Int}(h0:-9223372036854775808≤a)(h1:a≤9223372036854775807)(hb:2≤b):yGh a b=some (nrI a b,()):=by
  unfold yGh yL2 nrI;rw[bifF (show (b == 0)=false by simp;omega)]
  have e:=Int.tdiv_mul_add_tmod a b;obtain ⟨p,q⟩:=y7J (a:=a) hb;have w1:IntKind.i64.wrap (a.tdiv b)=a.tdiv b:=y4G (by omega) (by omega)
  have w2:IntKind.i64.wrap (a.tdiv b * b)=a.tdiv b * b:=y4G (by omega) (by omega)
  rw[w1,w2];by_cases h:a.tmod b < 0
  · rw[bifT (yG (show a.tdiv b * b > a by omega)),bifT (yG h)]
  · rw[bifF (yg (show ¬ a.tdiv b * b > a by omega)),bifF (yg h)]
theorem yLO(x:Int):-9223372036854775808≤IntKind.i64.wrap x∧IntKind.i64.wrap x≤9223372036854775807:=by
  rw[IntKind.wrap_i64];omega
def sixI(t:Tid)(v:Gau):Int:=nrI (IntKind.i64.wrap (IntKind.i64.wrap (2 * v.1)+t.2.2.1)) (IntKind.i64.wrap (2 * t.2.2.1))
theorem yQr(x:Int)(h0:-9223372036854775808 < x)(h1:x≤9223372036854775807):decide ((z06 x).1 > 1024)=decide (x > 1024∨x < -1024):=by
  unfold z06;rw[y4G (i:=0 - x) (by omega) (by omega)]
  show decide ((if 0 - x > x then 0 - x else x) > 1024)=_
  by_cases h:0 - x > x
  · rw[if_pos h];exact decide_eq_decide.2 ⟨fun h=>by omega,fun h=>by omega⟩
  · rw[if_neg h];exact decide_eq_decide.2 ⟨fun h=>by omega,fun h=>by omega⟩
noncomputable def levR(t:Tid):List Gau→List Nat→List Nat×Int×Unit
  | [],s=>(s,0,())
  | v::l,s=>if sixI t v > 1024∨sixI t v < -1024 then ([],16,())else levR t l (s++[lvF (sixI t v)])
theorem yPR{a b:Int}(h0:-9223372036854775808≤a)(h1:a≤9223372036854775807)(hb:2≤b):-9223372036854775808 < nrI a b∧nrI a b≤9223372036854775807:=by
  unfold nrI;have k:(0≤a→0≤a.tdiv b∧a.tdiv b≤a)∧(a < 0→2 * a.tdiv b ≥ a∧a.tdiv b≤0):=by
    refine ⟨fun h=>⟨((y7J hb).1 h).1,((y7J hb).1 h).2.1⟩,fun h=>?_⟩
    have h3:=((y7J hb).2 h).2.2.1;have h4:=((y7J hb).2 h).2.1;have h5:a.tdiv b * b≤a.tdiv b * 2:=Int.mul_le_mul_of_nonpos_left h4 hb;omega
  obtain ⟨k1,k2⟩:=k;rw[y4G (i:=a.tdiv b) (by omega) (by omega),y4G (i:=a.tdiv b - 1) (by omega) (by omega)]
  cases decide (a.tmod b < 0)
  · simp only[cond_false];omega
  · simp only[cond_true];omega
theorem yP4{t:Tid}(ht:okT t)(v:Gau):-9223372036854775808 < sixI t v∧sixI t v≤9223372036854775807:=by
  have h:=ht.den;have e:IntKind.i64.wrap (2 * t.2.2.1)=2 * t.2.2.1:=y4G (by omega) (by omega)
  unfold sixI;rw[e];exact yPR (yLO _).1 (yLO _).2 (by omega)
theorem yAm{t:Tid}(ht:okT t)(xs:List Gau):∀ (l:List Gau) (i:Int) (s:List Nat),s.length+l.length≤memMax →
    yM (fun i__ e__ s__=>yAk t xs i__ e__ s__) (fun s__=>yEG t xs s__) i l s=some (levR t l s)
  | [],i,s,_=>rfl
  | v::l,i,s,hl=>by
    simp only[List.length_cons]at hl;rw[y06];unfold yAk;rw[yFu ht.den.1 ht.den.2];simp only[Option.bind_some];rw[show nrI (IntKind.i64.wrap (IntKind.i64.wrap (2 * v.1)+t.2.2.1)) (IntKind.i64.wrap (2 * t.2.2.1))=sixI t v from rfl]
    obtain ⟨b1,b2⟩:=yP4 ht v;rw[yQr _ b1 b2];by_cases h:sixI t v > 1024∨sixI t v < -1024
    · rw[bifT (yG h)];simp only[Option.bind_some,levR,if_pos h]
    · rw[bifF (yg h),bifT (yG (by omega))]
      simp only[Option.bind_some,levR,if_neg h];exact yAm ht xs l (i+1) _ (by simp;omega)
theorem yAv{t:Tid}(ht:okT t)(p n:Int)(hp:0≤p):∀ (m:Nat) (i:Int) (s:List Nat),0≤i→p+i+m≤100000→s.length+m≤memMax →
    y0V (fun i__ s__=>yBW p n t i__ s__) (fun s__=>yE5 p n t s__) m i s=some (levR t ((List.range m).map fun k:Nat=>valT t (p+(i+k))) s)
  | 0,i,s,_,_,_=>rfl
  | m+1,i,s,hi,hb,hl=>by
    rw[y5g];unfold yBW;have hden:=ht.den;have e2:IntKind.i64.wrap (2 * t.2.2.1)=2 * t.2.2.1:=y4G (by omega) (by omega)
    rw[y4G (i:=p+i) (by omega) (by omega),yAu ht ⟨by omega,by omega⟩]
    simp only[Option.bind_some];rw[yKx (yLO _).1 (yLO _).2 (by rw[e2];omega)]
    simp only[Option.bind_some];rw[show nrI (IntKind.i64.wrap (IntKind.i64.wrap (2 * (valT t (p+i)).1)+t.2.2.1)) (IntKind.i64.wrap (2 * t.2.2.1))=sixI t (valT t (p+i))from rfl]
    have er:((List.range (m+1)).map fun k:Nat=>valT t (p+(i+k)))=valT t (p+i)::(List.range m).map fun k:Nat=>valT t (p+(i+1+k)):=by
      rw[List.range_succ_eq_map,List.map_cons,List.map_map];simp only[List.cons.injEq];refine ⟨by congr 1;omega,List.map_congr_left fun k _=>?_⟩
      show valT t (p+(i+((k+1:Nat):Int)))=_
      congr 1
      omega
    rw[er];by_cases h:sixI t (valT t (p+i)) > 1024
    · rw[bifT (yG h)];simp only[Option.bind_some,levR,if_pos (Or.inl h)]
    · rw[bifF (yg h)];by_cases h':sixI t (valT t (p+i)) < -1024
      · rw[bifT (yG h')];simp only[Option.bind_some,levR,if_pos (Or.inr h')]
      · rw[bifF (yg h'),bifT (yG (by omega))]
        simp only[Option.bind_some,levR,if_neg (show ¬ (sixI t (valT t (p+i)) > 1024∨sixI t (valT t (p+i)) < -1024) by omega)]
        exact yAv ht p n hp m (i+1) _ (by omega) (by omega) (by simp;omega)
theorem yC4(t:Tid):∀ (l:List Gau) (s:List Nat),(∀ x∈s,y0G .neq .f32 x x=false)→∀ x∈(levR t l s).1,y0G .neq .f32 x x=false
  | [],s,h=>h
  | v::l,s,h=>by
    intro x hx;unfold levR at hx;by_cases hv:sixI t v > 1024∨sixI t v < -1024
    · rw[if_pos hv]at hx;cases hx
    · rw[if_neg hv]at hx;refine yC4 t l _ (fun y hy=>?_) x hx
      rcases List.mem_append.1 hy with hy|hy
      · exact h y hy
      · rw[List.mem_singleton]at hy;rw[hy];exact yK5 (by omega) (by omega)
theorem yFA(t:Tid):∀ (l:List Gau) (s:List Nat),(levR t l s).1.length≤s.length+l.length
  | [],s=>by simp[levR]
  | v::l,s=>by
    unfold levR;split
    · simp
    · have:=yFA t l (s++[lvF (sixI t v)]);simp at this ⊢;omega
theorem yHw{α:Type}(p:List α)(x:α)(r:List α)(i:Int)(hi:i=(p.length:Int)):idx (p++x::r) i=some x:=by
  subst hi;rw[y38];simp
theorem y5T{α β:Type}{body:Int→α→Unit→Option (β⊕Unit)}{fin:Unit→Option β}(l:List α)(h:∀ (p:List α) (x:α) (r:List α),l=p++x::r→body (p.length:Int) x ()=some (.inr ())) :
    ∀ (r p:List α) (i:Int),l=p++r→i=(p.length:Int)→yM body fin i r ()=fin ()
  | [],p,i,_,_=>rfl
  | x::r,p,i,hl,hi=>by
    rw[y06,hi,h p x r hl];simp only[Option.bind_some];exact y5T l h r (p++[x]) _ (by rw[hl];simp) (by simp)
theorem y3R(l:List Gau)(h:l.length < lenMax):zW_M l l=some (true,()):=by
  unfold zW_M;rw[bifF (show ((l.length:Int) != (l.length:Int))=false by simp),bifT (yG h),y5T l (fun p x r e=>by
    unfold yL6;rw[e,yHw p x r _ rfl];simp only[Option.bind_some];rw[bifF (by simp[eqV])]) l [] 0 rfl rfl]
  rfl
theorem y3j(l:List Nat)(h:l.length < lenMax)(hs:∀ x∈l,y0G .neq .f32 x x=false):zb_M l l=some (true,()):=by
  unfold zb_M;rw[bifF (show ((l.length:Int) != (l.length:Int))=false by simp),bifT (yG h),y5T l (fun p x r e=>by
    unfold yK7;rw[e,yHw p x r _ rfl];simp only[Option.bind_some];rw[bifF (hs x (by rw[e];simp))]) l [] 0 rfl rfl]
  rfl
theorem y9L{α β:Type}{p:α→Option β}{l:List α}(h:l.findSome? p=none):∀ e∈l,p e=none:=List.findSome?_eq_none_iff.1 h
theorem yHE(l:List Con)(hl:l.length < lenMax):∃ s,zm_M l=some (s,())∧(s=true→(∀ c∈l,c.1.length≤60)∧l.length≤5):=by
  unfold zm_M;rw[bifT (yG hl),y4C (fun c:Con=>bif decide ((c.1.length:Int) > 60)then some (false,())else none) l 0 (fun i e _=>by
    unfold yJq;cases decide ((e.1.length:Int) > 60)<;>rfl)]
  cases hf:l.findSome? (fun c:Con=>bif decide ((c.1.length:Int) > 60)then some (false,())else none)with
  | some y =>
    obtain ⟨n,_,hy⟩:=List.exists_of_findSome?_eq_some hf;cases hd:decide ((n.1.length:Int) > 60)with
    | true=>rw[hd]at hy;cases hy;exact ⟨false,rfl,by simp⟩
    | false=>rw[hd]at hy;cases hy
  | none =>
    have hall:∀ c∈l,c.1.length≤60:=fun n hn=>by
      have:=y9L hf n hn;by_cases hd:(n.1.length:Int) > 60
      · rw[yG hd]at this;cases this
      · omega
    show ∃ s,yIv l=some (s,())∧_
    unfold yIv;by_cases h5:(l.length:Int)≤5
    · exact ⟨true,by rw[yG h5],fun _=>⟨hall,by omega⟩⟩
    · exact ⟨false,by rw[yg h5],by simp⟩
theorem yHi(t:Tid)(hl:t.1.length < lenMax):∃ s,zn_M t=some (s,())∧(s=true→(∀ c∈t.1,c.1.length≤60)∧t.1.length≤5∧t.2.1.length≤5):=by
  unfold zn_M zn_m;obtain ⟨s,h1,h2⟩:=yHE t.1 hl;rw[h1];simp only[Option.bind_some];cases s with
  | false=>exact ⟨false,rfl,by simp⟩
  | true =>
    obtain ⟨h3,h4⟩:=h2 rfl;by_cases h5:(t.2.1.length:Int)≤5
    · exact ⟨true,by rw[yG h5];rfl,fun _=>⟨h3,h4,by omega⟩⟩
    · exact ⟨false,by rw[yg h5];rfl,by simp⟩
theorem yKI(l:List Con)(hl:l.length≤memMax):yDJ l=some (l,()):=by
  have hm:=y7g;unfold yDJ;rw[bifT (yG (show l.length < lenMax by omega)),y87 (fun n=>n) l 0 [] (by simpa using hl) (fun i e s _ hs=>by
    unfold yEn;rw[bifT (yG hs)])]
  simp only[List.map_id_fun',id_eq,List.nil_append];rfl
theorem yJB(t:Tid)(h1:t.1.length≤memMax)(h2:t.2.1.length≤memMax):yJZ t=some (t,()):=by
  unfold yJZ yKE yK2 yJg;rw[yKI _ h1];simp only[Option.bind_some];rw[bifT (yG (show 0+t.2.1.length≤memMax by omega))]
  rfl
theorem yNr{t:Tid}(hn:∀ n∈t.1,n.1.length < lenMax)(hl:t.1.length < lenMax)(ha:t.2.1.length≤memMax)(p n:Int) :
    yDG t p n=some (if yd (y2o t) (y2M p n)=0 then levR t (yCH t p n) []else ([],yd (y2o t) (y2M p n),())):=by
  unfold yDG;rw[yDn hn hl ha];simp only[Option.bind_some];have hmem:memMax=68719476736:=rfl;have hm:=y7g;by_cases h:yd (y2o t) (y2M p n)=0
  · obtain ⟨h1,h2⟩:=yy h;obtain ⟨h3,h4,h5⟩:=y3w h2;have hlen:=yBL t p n;simp only[if_pos h];rw[bifF (by rfl),bifT (yG (by omega)),yAm (y83 h1) _ _ _ _ (by simp;omega)]
  · simp only[if_neg h];rw[bifT (by simpa using h)]
theorem yQ3{t:Tid}{p n:Int}(ht:okT t)(h:y2M p n=0):yGF t p n=some (levR t (yCH t p n) []):=by
  unfold yGF;obtain ⟨h3,h4,h5⟩:=y3w h;have hmem:memMax=68719476736:=rfl;rw[bifT (yG (by omega)),show (n - 0).toNat=n.toNat by omega,yAv ht p n h3.1 n.toNat 0 [] (by omega) (by omega) (by simp;omega)]
  rfl
theorem yDA(t:Tid)(p n:Int)(h:t.1.length < lenMax):zP_M t p n=some (true,()):=by
  have hmem:memMax=68719476736:=rfl;have hlm:lenMax=9223372036854775808:=rfl;have aw:(yKH.bind fun v6=>some (v6.1,()))=some (true,()):=by rw[y9D];rfl
  unfold zP_M zP_m;rw[y9D];simp only[Option.bind_some,Bool.not_true,cond_false];obtain ⟨s,hs,hs2⟩:=yHi t h;rw[hs];simp only[Option.bind_some];cases s with
  | false=>rfl
  | true =>
    obtain ⟨h60,h5,h5'⟩:=hs2 rfl;have hnn:∀ n∈t.1,n.1.length < lenMax:=fun n hn=>by have:=h60 n hn;omega
    have main:y6r 0 t p n=some (true,()):=by
      unfold y6r;rw[yJB t (by omega) (by omega)]
      simp only[Option.bind_some];rw[yDn hnn h (by omega),yNr hnn h (by omega),yV7 t (by omega),yKR]
      simp only[Option.bind_some];rw[y5F _ (y5q _ _),y01,y01,y42,y2I];simp only[Option.bind_some];by_cases h0:yd (y2o t) (y2M p n)=0
      · obtain ⟨h1,h2⟩:=yy h0;have ht:=y83 h1;obtain ⟨g3,g4,g5⟩:=y3w h2;have hlen:=yBL t p n;have hlev:=yFA t (yCH t p n) [];simp only[if_pos h0];rw[bifT (by rw[h0];rfl),yKz ht h2,yQ3 ht h2]
        simp only[Option.bind_some];unfold y6i;rw[yJB t (by omega) (by omega)]
        simp only[Option.bind_some];rw[yIR t hnn h (by omega)]
        simp only[Option.bind_some,beq_self_eq_true,cond_true,h0];rw[y3R _ (by omega)]
        simp only[Option.bind_some,cond_true];rw[y3j _ (by simp at hlev;omega) (yC4 t _ _ (by simp))]
        rfl
      · simp only[if_neg h0];rw[bifF (by simpa using h0)]
        unfold y6i;rw[yJB t (by omega) (by omega)]
        simp only[Option.bind_some];rw[yIR t hnn h (by omega)]
        simp only[Option.bind_some,beq_self_eq_true,cond_true];rw[y3R _ (by simp[lenMax])]
        simp only[Option.bind_some,cond_true];rw[y3j _ (by simp[lenMax]) (by simp)]
        rfl
    cases decide (n > 40)with
    | false=>exact main
    | true =>
      cases decide (n≤4096)with
      | false=>exact main
      | true=>rfl
end Go.Tw
