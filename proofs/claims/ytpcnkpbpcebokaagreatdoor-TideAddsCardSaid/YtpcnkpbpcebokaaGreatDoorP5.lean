import Derived.Test.YtpcnkpbpcebokaaGreatDoorPC
import Derived.Test.YtpcnkpbpcebokaaGreatDoorBPr
import Derived.Test.YtpcnkpbpcebokaaGreatDoorPA
set_option linter.all false
set_option maxRecDepth 100000
namespace Go.Tw
open Go.Vx Go.Vx.B Go.Proofs
def lvF(x:Int):Nat:=y0u .quo .f32 (y0x .f32 x) 1098907648
def nrI(a b:Int):Int:=bif decide (a.tmod b < 0)then IntKind.i64.wrap (IntKind.i64.wrap (a.tdiv b) - 1)else IntKind.i64.wrap (a.tdiv b)
theorem y7n{a b:Int}(hb:2≤b):(0≤a→0≤a.tdiv b∧a.tdiv b≤a∧0≤a.tdiv b * b∧a.tdiv b * b≤a)∧(a < 0→a≤a.tdiv b∧a.tdiv b≤0∧a≤a.tdiv b * b∧a.tdiv b * b≤0):=by
 have key:∀ x:Int,0≤x→0≤x.tdiv b∧x.tdiv b≤x∧0≤x.tdiv b * b∧x.tdiv b * b≤x:=fun x hx=>by
  rw[Int.tdiv_eq_ediv_of_nonneg hx];have h7:0≤x / b:=Int.ediv_nonneg hx (by omega)
  exact ⟨h7,Int.ediv_le_self _ hx,Int.mul_nonneg h7 (by omega),Int.ediv_mul_le x (by omega)⟩
 refine ⟨key a,fun h=>?_⟩
 obtain ⟨h1,h2,h3,h4⟩:=key (-a) (by omega)
 rw[Int.neg_tdiv]at h1 h2 h3 h4;rw[Int.neg_mul]at h3 h4;omega
theorem yEn{a b:Int}(hb:1≤b)(hb2:b≤268435456):yEt a b=some (nrI (IntKind.i64.wrap (IntKind.i64.wrap (2 * a)+b)) (IntKind.i64.wrap (2 * b)),()):=by
 unfold yEt yKL nrI;have e:IntKind.i64.wrap (2 * b)=2 * b:=yo (by omega) (by omega)
 have hz:(IntKind.i64.wrap (2 * b) == 0)=false:=by rw[e];simp;omega
 rw[bifF hz,bifF hz];cases decide ((IntKind.i64.wrap (IntKind.i64.wrap (2 * a)+b)).tmod (IntKind.i64.wrap (2 * b)) < 0)<;>rfl
def sixI(t:Tid)(v:Gau):Int:=nrI (IntKind.i64.wrap (IntKind.i64.wrap (2 * v.1)+t.2.2.1)) (IntKind.i64.wrap (2 * t.2.2.1))
theorem yRa(x:Int)(h0:-9223372036854775808 < x)(h1:x≤9223372036854775807):decide ((z06 x).1 > 1024)=decide (x > 1024∨x < -1024):=by
 unfold z06;first|rw[if_pos rfl,yo (i:=0 - x) (by omega) (by omega)]|rw[yo (i:=0 - x) (by omega) (by omega)]
 show decide ((if 0 - x > x then 0 - x else x) > 1024)=_
 by_cases h:0 - x > x
 ·rw[if_pos h];exact decide_eq_decide.2 ⟨fun h=>by omega,fun h=>by omega⟩
 ·rw[if_neg h];exact decide_eq_decide.2 ⟨fun h=>by omega,fun h=>by omega⟩
noncomputable def levR(t:Tid):List Gau→List Nat→List Nat×Int×Unit
 | [],s=>(s,0,())
 | v::l,s=>if sixI t v > 1024∨sixI t v < -1024 then ([],16,())else levR t l (s++[lvF (sixI t v)])
theorem yOD{a b:Int}(h0:-9223372036854775808≤a)(h1:a≤9223372036854775807)(hb:2≤b):-9223372036854775808 < nrI a b∧nrI a b≤9223372036854775807:=by
 unfold nrI;have k:(0≤a→0≤a.tdiv b∧a.tdiv b≤a)∧(a < 0→2 * a.tdiv b ≥ a∧a.tdiv b≤0):=by
  refine ⟨fun h=>⟨((y7n hb).1 h).1,((y7n hb).1 h).2.1⟩,fun h=>?_⟩
  have h3:=((y7n hb).2 h).2.2.1;have h4:=((y7n hb).2 h).2.1;have h5:a.tdiv b * b≤a.tdiv b * 2:=Int.mul_le_mul_of_nonpos_left h4 hb;omega
 obtain ⟨k1,k2⟩:=k;rw[yo (i:=a.tdiv b) (by omega) (by omega),yo (i:=a.tdiv b - 1) (by omega) (by omega)]
 cases decide (a.tmod b < 0)
 ·simp only[cond_false];omega
 ·simp only[cond_true];omega
theorem yPc{t:Tid}(ht:okT t)(v:Gau):-9223372036854775808 < sixI t v∧sixI t v≤9223372036854775807:=by
 have h:=ht.den;have e:IntKind.i64.wrap (2 * t.2.2.1)=2 * t.2.2.1:=yo (by omega) (by omega)
 unfold sixI;rw[e];exact yOD (yIo _).1 (yIo _).2 (by omega)
theorem yAz{t:Tid}(ht:okT t)(xs:List Gau):∀ (l:List Gau) (i:Int) (s:List Nat),s.length+l.length≤memMax →
  yf (fun i__ e__ s__=>yAT t xs i__ e__ s__) (fun s__=>yDr t xs s__) i l s=some (levR t l s)
 | [],i,s,_=>rfl
 | v::l,i,s,hl=>by
  simp only[List.length_cons]at hl;rw[y06];unfold yAT;rw[yEn ht.den.1 ht.den.2];simp only[Option.bind_some];rw[show nrI (IntKind.i64.wrap (IntKind.i64.wrap (2 * v.1)+t.2.2.1)) (IntKind.i64.wrap (2 * t.2.2.1))=sixI t v from rfl]
  obtain ⟨b1,b2⟩:=yPc ht v;rw[yRa _ b1 b2];by_cases h:sixI t v > 1024∨sixI t v < -1024
  ·rw[bifT (yC h)];simp only[Option.bind_some,levR,if_pos h]
  ·rw[bifF (yL h),bifT (yC (by omega))]
   simp only[Option.bind_some,levR,if_neg h];exact yAz ht xs l (i+1) _ (by simp;omega)
theorem yOA{t:Tid}(hn:∀ n∈t.1,n.1.length < lenMax)(hl:t.1.length < lenMax)(ha:t.2.1.length≤memMax)(p n:Int) :
  yBS t p n=some (if yP (y09 t) (y2y p n)=0 then levR t (yFn t p n) []else ([],yP (y09 t) (y2y p n),())):=by
 unfold yBS;rw[yDw hn hl ha];simp only[Option.bind_some];have hmem:memMax=68719476736:=rfl;have hm:=y5L;by_cases h:yP (y09 t) (y2y p n)=0
 ·obtain ⟨h1,h2⟩:=yS h;obtain ⟨h3,h4,h5⟩:=yBn h2;have hlen:=yHe t p n;simp only[if_pos h];rw[bifF (by rfl),bifT (yC (by omega)),yAz (ym h1) _ _ _ _ (by simp;omega)]
 ·simp only[if_neg h];rw[bifT (by simpa using h)]
end Go.Tw
