import Derived.Test.YtpcnkpbpcebokaaGreatDoorP6
import Derived.Test.YtpcnkpbpcebokaaGreatDoorBSu
import Derived.Test.YtpcnkpbpcebokaaGreatDoorPA
set_option linter.all false
set_option maxRecDepth 100000
namespace Go.Tw
open Go.Vx Go.Vx.B Go.Proofs
def p2:Nat→Nat→Bool
 | 0,_=>false
 | f+1,n=>if n % 2=0 then p2 f (n / 2)else n == 1
theorem y7z{α β:Type}{body:Int→α→Unit→Option (β⊕Unit)}{fin:Unit→Option β}(q:α→Bool)(K:Nat→Option β) :
  ∀ (l:List α) (d:Nat),(∀ (i:Nat) e,l[i]?=some e→body ((d+i:Nat):Int) e ()=if q e then (K (d+i)).map .inl else some (.inr ())) →
   yf body fin (d:Int) l ()=match l.findIdx? q with|some i=>K (d+i)|none=>fin ()
 | [],d,_=>rfl
 | e::l,d,h=>by
  have h0:=h 0 e rfl;rw[Nat.add_zero]at h0;rw[y06,h0,List.findIdx?_cons];cases hq:q e with
  | true =>
   simp only[if_true,Nat.add_zero];cases K d<;>rfl
  | false =>
   simp only[Bool.false_eq_true,if_false,Option.bind_some];have ih:=y7z (body:=body) (fin:=fin) q K l (d+1) fun i e he=>by
    have:=h (i+1) e he;rw[show d+(i+1)=d+1+i by omega]at this
    exact this
   rw[show ((d:Int)+1)=((d+1:Nat):Int) by omega,ih]
   cases l.findIdx? q with
   | none=>rfl
   | some i=>show K (d+1+i)=K (d+(i+1));congr 1;omega
abbrev SumS:=List Con×List Gau
def yAO(c d:Con):Bool:=d.2.1 == c.2.1 && d.2.2.1 == c.2.2.1
noncomputable def addS(a:List Con)(c:Con)(y:Gau)(s:SumS):SumS :=
 match a.findIdx? (yAO c)with
 | some i=>(s.1,s.2.set i (z15 (s.2[i]?.getD y) y).1)
 | none=>(s.1++[c],s.2++[y])
noncomputable def addL(a:List Con)(d:Int):List Con→List Gau→SumS→SumS
 | c::l,z::v,s=>addL a d l v (addS a c (z0Z z d).1 s)
 | _,_,s=>s
structure okS (n:Nat) (m:Int) (s:SumS):Prop where
 len:s.1.length=s.2.length
 low:n≤s.2.length
 bnd:∀ z∈s.2,yY m z=true
theorem yOY{x y:Gau}{m k:Int}(hx:yY m x=true)(hy:yY k y=true)(hb:m+k < 9223372036854775807):yY (m+k) (z15 x y).1=true:=by
 have h1:=of_decide_eq_true hx;have h2:=of_decide_eq_true hy;unfold yY z15;simp only;rw[yo (i:=x.1+y.1) (by omega) (by omega),yo (i:=x.2.1+y.2.1) (by omega) (by omega)]
 exact yC (by omega)
theorem y1X{m k:Int}{z:Gau}(h:yY m z=true)(hm:m≤k):yY k z=true:=by
 have:=of_decide_eq_true h;exact yC (by omega)
theorem yDQ{a:List Con}{c:Con}{y:Gau}{s:SumS}{m k:Int}(h:okS a.length m s)(hy:yY k y=true)(hb:m+k < 9223372036854775807)(hm:0≤m)(hk:0≤k) :
  okS a.length (m+k) (addS a c y s)∧(addS a c y s).2.length≤s.2.length+1:=by
 unfold addS;cases hf:a.findIdx? (yAO c)with
 | none =>
  refine ⟨⟨by simp[h.len],by have:=h.low;simp;omega,fun z hz=>?_⟩,by simp⟩
  rcases List.mem_append.1 hz with hz|hz
  ·exact y1X (h.bnd z hz) (by omega)
  ·rw[List.mem_singleton]at hz;rw[hz];exact y1X hy (by omega)
 | some i =>
  have hi:i < a.length:=(List.findIdx?_eq_some_iff_getElem.1 hf).1;have hi2:i < s.2.length:=Nat.lt_of_lt_of_le hi h.low;refine ⟨⟨by simp[h.len],by simpa using h.low,fun z hz=>?_⟩,by simp⟩
  rcases List.mem_or_eq_of_mem_set hz with hz|hz
  ·exact y1X (h.bnd z hz) (by omega)
  ·rw[hz,List.getElem?_eq_getElem hi2];exact yOY (h.bnd _ (List.getElem_mem hi2)) hy hb
theorem yH1(a b:Tid)(t43:List Con)(b0:Int)(k:Nat)(c:Con)(s:SumS)(m:Int)(y:Gau)(hy:b.2.1[k]?=some y)(h:okS a.1.length m s)(hl:s.2.length+1≤memMax) :
  y5p a b t43 b0 (k:Int) c s.1 s.2=some (.inr (addS a.1 c (z0Z y a.2.2.1).1 s)):=by
 have hm:=y5L;unfold y5p;rw[bifT (yC (show a.1.length < lenMax by have:=h.low;omega))]
 have key:=y7z (β:=(Tid×Int×Unit)⊕SumS) (body:=fun i__ e__ s__=>y7j a b (k:Int) (a.1.length:Int) t43 (t43.length:Int) (k:Int) b0 s.1 s.2 c.1 c.2.1 c.2.2.1 i__ e__) (fin:=fun s__=>y7l a b (k:Int) (a.1.length:Int) t43 (t43.length:Int) (k:Int) b0 s.1 s.2 c.1 c.2.1 c.2.2.1) (yAO c)
  (fun i=>some (.inr (s.1,s.2.set i (z15 (s.2[i]?.getD (z0Z y a.2.2.1).1) (z0Z y a.2.2.1).1).1))) a.1 0 (fun i e he=>by
   have hi:i < a.1.length:=(List.getElem?_eq_some_iff.1 he).1;have hi2:i < s.2.length:=Nat.lt_of_lt_of_le hi h.low;unfold y7j yAO;rw[Nat.zero_add];have e1:eqV (Ty.str.pair ((Ty.int IntKind.i64).pair ((Ty.int IntKind.i64).pair Ty.unit))) (c.1,e.2.1,e.2.2.1,()) (c.1,c.2.1,c.2.2.1,())=(e.2.1 == c.2.1 && e.2.2.1 == c.2.2.1):=by
    show ((c.1 == c.1) && ((e.2.1 == c.2.1) && ((e.2.2.1 == c.2.2.1) && true)))=_
    simp
   rw[e1];cases (e.2.1 == c.2.1 && e.2.2.1 == c.2.2.1)with
   | false=>rfl
   | true =>
    rw[y3Q,hy,cond_true];simp only[Option.bind_some];rw[bifT (yC (show (i:Int) < (a.1.length:Int) by omega)),y3Q,Int.toNat_natCast,List.getElem?_eq_getElem hi2]
    rfl)
 refine (show _=_ from key).trans ?_
 unfold addS;cases a.1.findIdx? (yAO c)with
 | some i=>simp only[Nat.zero_add]
 | none =>
  simp only;unfold y7l;rw[y3Q,hy];simp only[Option.bind_some];rw[bifF (yL (by omega)),bifT (yC (by have:=h.len;omega)),bifT (yC hl)]
theorem yBh(a b:Tid)(t43:List Con)(b0:Int)(hb:∀ z∈b.2.1,yY 4194304 z=true)(hd:0≤a.2.2.1∧a.2.2.1≤4096) :
  ∀ (l:List Con) (k:Nat) (m:Int) (s:SumS),k+l.length=b.2.1.length→okS a.1.length m s→0≤m→m+l.length * 17179869184 < 9223372036854775807→s.2.length+l.length≤memMax →
   yf (fun i__ e__ s__=>y5p a b t43 b0 i__ e__ s__.1 s__.2) (fun s__=>y4c a b t43 b0 s__.1 s__.2) (k:Int) l s=y4c a b t43 b0 (addL a.1 a.2.2.1 l (b.2.1.drop k) s).1 (addL a.1 a.2.2.1 l (b.2.1.drop k) s).2
 | [],k,m,s,hk,_,_,_,_=>by
  have:b.2.1.drop k=[]:=List.drop_eq_nil_of_le (by simp at hk;omega)
  rw[this];rfl
 | c::l,k,m,s,hk,h,hm,hM,hl=>by
  simp only[List.length_cons]at hk hl hM;have hk2:k < b.2.1.length:=by omega
  have hy:b.2.1[k]?=some b.2.1[k]:=List.getElem?_eq_getElem hk2;have hdr:b.2.1.drop k=b.2.1[k]::b.2.1.drop (k+1):=(List.getElem_cons_drop (h:=hk2)).symm;have hz:yY (4096 * 4194304) (z0Z b.2.1[k] a.2.2.1).1=true:=y4v (hb _ (List.getElem_mem hk2)) hd.1 hd.2 (by decide) (by decide)
  rw[show (4096 * 4194304:Int)=17179869184 by decide]at hz
  rw[y06,yH1 a b t43 b0 k c s m _ hy h (by omega)]
  simp only[Option.bind_some];have hMl:m+17179869184+(l.length:Int) * 17179869184 < 9223372036854775807:=by
   have:((l.length+1:Nat):Int) * 17179869184=(l.length:Int) * 17179869184+17179869184:=by omega
   omega
  have hN:m+17179869184 < 9223372036854775807:=by omega
  obtain ⟨g1,g2⟩:=yDQ (c:=c) h hz hN hm (by decide)
  have ih:=yBh a b t43 b0 hb hd l (k+1) (m+17179869184) _ (by omega) g1 (by omega) hMl (by omega)
  rw[hdr];exact ih
theorem yIW(a:List Con){d:Int}(hd:0≤d∧d≤4096):∀ (l:List Con) (v:List Gau) (m:Int) (s:SumS),(∀ z∈v,yY 4194304 z=true)→okS a.length m s→0≤m→m+l.length * 17179869184 < 9223372036854775807 →
  okS a.length (m+l.length * 17179869184) (addL a d l v s)∧(addL a d l v s).2.length≤s.2.length+l.length
 | [],v,m,s,_,h,_,_=>by
  unfold addL;simpa using h
 | c::l,[],m,s,_,h,hm,hM=>by
  unfold addL;exact ⟨⟨h.len,h.low,fun z hz=>y1X (h.bnd z hz) (by omega)⟩,by omega⟩
 | c::l,z::v,m,s,hv,h,hm,hM=>by
  simp only[List.length_cons]at hM;have hz:yY (4096 * 4194304) (z0Z z d).1=true:=y4v (hv z (by simp)) hd.1 hd.2 (by decide) (by decide)
  rw[show (4096 * 4194304:Int)=17179869184 by decide]at hz
  have e:((l.length+1:Nat):Int) * 17179869184=17179869184+(l.length:Int) * 17179869184:=by omega
  obtain ⟨g1,g2⟩:=yDQ (c:=c) h hz (by omega) hm (by decide)
  obtain ⟨i1,i2⟩:=yIW a hd l v (m+17179869184) _ (fun z hz=>hv z (by simp[hz])) g1 (by omega) (by omega)
  unfold addL;simp only[List.length_cons];rw[e,← Int.add_assoc];exact ⟨i1,by omega⟩
end Go.Tw
