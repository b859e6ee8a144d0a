import Derived.Test.YtpcnkpbpcebokaaGreatDoorP7
set_option linter.all false
set_option maxRecDepth 100000
namespace Go.Tw
open Go.Vx Go.Vx.B Go.Proofs
noncomputable def sumS(a b:Tid):SumS:=addL a.1 a.2.2.1 b.1 b.2.1 (a.1,a.2.1.map fun z=>(z0Z z b.2.2.1).1)
noncomputable def y2S(a b:Tid):Tid×Int×Unit:=if y0k (sumS a b).1=0 then (lowT (sumS a b).1 (sumS a b).2 (a.2.2.1 * b.2.2.1),0,())else (([],[],0,()),y0k (sumS a b).1,())
def sumE(a b:Tid):Int:=yP (y09 a) (yP (y09 b) (if y15 a && y15 b then 0 else 4))
theorem y5g(a:List Con)(d:Int):∀ (l:List Con) (v:List Gau) (s:SumS),∀ c∈(addL a d l v s).1,c∈s.1∨c∈l
 | [],v,s,c,hc=>by unfold addL at hc;exact .inl hc
 | x::l,[],s,c,hc=>by unfold addL at hc;exact .inl hc
 | x::l,z::v,s,c,hc=>by
  unfold addL at hc;rcases y5g a d l v _ c hc with h|h
  ·unfold addS at h;cases hf:a.findIdx? (yAO x)with
   | some i=>rw[hf]at h;exact .inl h
   | none =>
    rw[hf]at h;rcases List.mem_append.1 h with h|h
    ·exact .inl h
    ·rw[List.mem_singleton]at h;exact .inr (by rw[h];simp)
  ·exact .inr (by simp[h])
structure SumF (a b:Tid):Prop where
 start:okS a.1.length 17179869184 (a.1,a.2.1.map fun z=>(z0Z z b.2.2.1).1)
 la:a.2.1.length≤4
 lb:b.1.length≤4
 leq:b.1.length=b.2.1.length
 ok:okS a.1.length (17179869184+b.1.length * 17179869184) (sumS a b)
 len:(sumS a b).2.length≤8
 fit:∀ z∈(sumS a b).2,fits z
 den:∃ d:Nat,0 < d∧a.2.2.1 * b.2.2.1=(d:Int)∧IntKind.i64.wrap (a.2.2.1 * b.2.2.1)=(d:Int)
 sb:∀ z∈b.2.1,yY 4194304 z=true
 da:0≤a.2.2.1∧a.2.2.1≤4096
theorem yGX{a b:Tid}(ha:okT a)(hb:okT b)(sa:y15 a=true)(sb:y15 b=true):SumF a b:=by
 obtain ⟨a1,a2⟩:=y70 sa;obtain ⟨b1,b2⟩:=y70 sb;have da:=ha.den;have db:=hb.den;have la:=ha.len;have lb:=hb.len;have fa:=ha.few;have fb:=hb.few;have h0:okS a.1.length 17179869184 (a.1,a.2.1.map fun z=>(z0Z z b.2.2.1).1):=by
  refine ⟨by simpa using la,by simp[la],fun z hz=>?_⟩
  obtain ⟨y,hy,rfl⟩:=List.mem_map.1 hz;exact y4v (m:=4194304) (k:=4096) (a1 y hy) (by omega) b2 (by decide) (by decide)
 have hd:0≤a.2.2.1∧a.2.2.1≤4096:=⟨by omega,a2⟩
 obtain ⟨h1,h2⟩:=yIW a.1 hd b.1 b.2.1 17179869184 _ b1 h0 (by decide) (by omega)
 have h3:1 * 1≤a.2.2.1 * b.2.2.1:=Int.mul_le_mul da.1 db.1 (by decide) (by omega)
 have h4:a.2.2.1 * b.2.2.1≤4096 * 4096:=Int.mul_le_mul a2 b2 (by omega) (by decide)
 refine ⟨h0,by omega,fb,lb,h1,?_,fun z hz=>y2L (h1.bnd z hz) (by omega),⟨(a.2.2.1 * b.2.2.1).toNat,by omega,by omega,?_⟩,b1,hd⟩
 ·have:(sumS a b).2.length≤(a.2.1.map fun z=>(z0Z z b.2.2.1).1).length+b.1.length:=h2
  rw[List.length_map]at this;omega
 ·rw[yo (by omega) (by omega)]
  omega
theorem ySi{a b:Tid}(h:SumF a b)(hna:∀ n∈a.1,n.1.length < lenMax)(hnb:∀ n∈b.1,n.1.length < lenMax):y5e a b=some (y2S a b):=by
 have hmem:memMax=68719476736:=rfl;have hlm:lenMax=9223372036854775808:=rfl;have hs:=h.start.len;simp only[List.length_map]at hs;have hla:=h.la;have hlb:=h.lb;unfold y5e;rw[bifT (yC (show a.1.length < lenMax by omega)),y2D (fun c=>c) a.1 0 [] (by simp;omega) fun i e s _ hs=>by
  unfold yA7;rw[bifT (yC hs)];rfl]
 unfold y9W;rw[bifT (yC (show a.2.1.length < lenMax by omega)),y2D (fun z=>(z0Z z b.2.2.1).1) a.2.1 0 [] (by simp;omega) fun i e s _ hs=>by
  unfold yAF;rw[bifT (yC hs)];rfl]
 unfold y9Y;simp only[List.map_id_fun',id_eq,List.nil_append];rw[bifT (yC (show b.1.length < lenMax by omega))]
 have key:=yBh a b b.1 0 h.sb h.da b.1 0 17179869184 (a.1,a.2.1.map fun z=>(z0Z z b.2.2.1).1) (by rw[Nat.zero_add];exact h.leq) h.start (by decide) (by omega) (by simp;omega)
 refine (show _=_ from key).trans ?_
 rw[List.drop_zero];show y4c a b b.1 0 (sumS a b).1 (sumS a b).2=_
 have hl:=h.ok.len;have h8:=h.len;unfold y4c y2S;rw[yDX _ (fun n hn=>by
  rcases y5g _ _ _ _ _ n hn with q|q
  ·exact hna n q
  ·exact hnb n q) (by omega)]
 simp only[Option.bind_some];obtain ⟨d,d0,d1,d2⟩:=h.den;by_cases he:y0k (sumS a b).1=0
 ·rw[if_pos he,bifF (by rw[he];rfl),d2,yHx _ _ d d0 (by omega) (by omega) h.fit,d1]
  rfl
 ·rw[if_neg he,bifT (by simpa using he)]
theorem tSum_eq{a b:Tid}(hna:∀ n∈a.1,n.1.length < lenMax)(hnb:∀ n∈b.1,n.1.length < lenMax)(la:a.1.length≤memMax)(lb:b.1.length≤memMax)(va:a.2.1.length≤memMax)(vb:b.2.1.length≤memMax) :
  yFq a b=some (if sumE a b=0 then y2S a b else (([],[],0,()),sumE a b,())):=by
 unfold yFq;obtain ⟨s,hs,hs2⟩:=y5d a (yb va);obtain ⟨u,hu,hu2⟩:=y5d b (yb vb);rw[yER a hna (yb la) va,yER b hnb (yb lb) vb,hs,hu];simp only[Option.bind_some,y3g];have main:∀ x:Bool,(x=(s && u))→Option.bind (y1h [y09 a,y09 b,(bif !x then (4:Int)else 0)]) (fun v5=>bif v5.1 != 0 then (some ((([],[],(0:Int),()),v5.1,())))else (y5e a b))=some (if sumE a b=0 then y2S a b else (([],[],0,()),sumE a b,())):=fun x hx=>by
  have e0:yP (y09 a) (yP (y09 b) (bif !x then (4:Int)else 0))=sumE a b:=y3A fun h=>y3A fun h'=>by
   rw[hx,hs2 (y6h (ym h)),hu2 (y6h (ym h'))];cases y15 a<;>cases y15 b<;>rfl
  rw[y17 _ (yEK _ _ _),yQ,yQ,yQ,y1K,y0T,e0];simp only[Option.bind_some];by_cases h:sumE a b=0
  ·obtain ⟨h1,h2⟩:=yS h;obtain ⟨h3,h4⟩:=yS h2;have hss:y15 a=true∧y15 b=true:=by
    cases q:y15 a<;>cases r:y15 b<;>rw[q,r]at h4<;>first|(cases h4;done)|exact ⟨rfl,rfl⟩
   rw[if_pos h,bifF (by rw[h];rfl),ySi (yGX (ym h1) (ym h3) hss.1 hss.2) hna hnb]
  ·rw[if_neg h,bifT (by simpa using h)]
 cases s with
 | false=>exact main false rfl
 | true=>exact main u rfl
section
variable {β:Type}
end
end Go.Tw
