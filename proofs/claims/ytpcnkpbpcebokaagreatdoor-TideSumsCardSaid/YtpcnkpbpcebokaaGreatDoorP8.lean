import Derived.Test.YtpcnkpbpcebokaaGreatDoorP7
set_option linter.all false
set_option maxRecDepth 100000
namespace Go.Tw
open Go.Vx Go.Vx.B Go.Proofs
noncomputable def sumS(a b:Tid):SumS:=addL a.1 a.2.2.1 b.1 b.2.1 (a.1,a.2.1.map fun z=>(z0d z b.2.2.1).1)
noncomputable def y9X(a b:Tid):Tid×Int×Unit:=if y1j (sumS a b).1=0 then (lowT (sumS a b).1 (sumS a b).2 (a.2.2.1 * b.2.2.1),0,())else (([],[],0,()),y1j (sumS a b).1,())
def sumE(a b:Tid):Int:=yN (yf a) (yN (yf b) (if yw a && yw b then 0 else 4))
theorem y8y(a:List Con)(d:Int):∀ (l:List Con) (v:List Gau) (s:SumS),∀ c∈(addL a d l v s).1,c∈s.1∨c∈l
 | [],v,s,c,hc=>by unfold addL at hc;exact .inl hc
 | x::l,[],s,c,hc=>by unfold addL at hc;exact .inl hc
 | x::l,z::v,s,c,hc=>by
  unfold addL at hc;rcases y8y a d l v _ c hc with h|h
  ·unfold addS at h;cases hf:a.findIdx? (yA4 x)with
   | some i=>rw[hf]at h;exact .inl h
   | none =>
    rw[hf]at h;rcases List.mem_append.1 h with h|h
    ·exact .inl h
    ·rw[List.mem_singleton]at h;exact .inr (by rw[h];simp)
  ·exact .inr (by simp[h])
structure SumF (a b:Tid):Prop where
 start:okS a.1.length 17179869184 (a.1,a.2.1.map fun z=>(z0d z b.2.2.1).1)
 la:a.2.1.length≤4
 lb:b.1.length≤4
 leq:b.1.length=b.2.1.length
 ok:okS a.1.length (17179869184+b.1.length * 17179869184) (sumS a b)
 len:(sumS a b).2.length≤8
 fit:∀ z∈(sumS a b).2,fits z
 den:∃ d:Nat,0 < d∧a.2.2.1 * b.2.2.1=(d:Int)∧IntKind.i64.wrap (a.2.2.1 * b.2.2.1)=(d:Int)
 sb:∀ z∈b.2.1,yv 4194304 z=true
 da:0≤a.2.2.1∧a.2.2.1≤4096
theorem y7I{a b:Tid}(ha:okT a)(hb:okT b)(sa:yw a=true)(sb:yw b=true):SumF a b:=by
 obtain ⟨a1,a2⟩:=y7K sa;obtain ⟨b1,b2⟩:=y7K sb;have da:=ha.den;have db:=hb.den;have la:=ha.len;have lb:=hb.len;have fa:=ha.few;have fb:=hb.few;have h0:okS a.1.length 17179869184 (a.1,a.2.1.map fun z=>(z0d z b.2.2.1).1):=by
  refine ⟨by simpa using la,by simp[la],fun z hz=>?_⟩
  obtain ⟨y,hy,rfl⟩:=List.mem_map.1 hz;exact y3g (m:=4194304) (k:=4096) (a1 y hy) (by omega) b2 (by decide) (by decide)
 have hd:0≤a.2.2.1∧a.2.2.1≤4096:=⟨by omega,a2⟩
 obtain ⟨h1,h2⟩:=yHQ a.1 hd b.1 b.2.1 17179869184 _ b1 h0 (by decide) (by omega)
 have h3:1 * 1≤a.2.2.1 * b.2.2.1:=Int.mul_le_mul da.1 db.1 (by decide) (by omega)
 have h4:a.2.2.1 * b.2.2.1≤4096 * 4096:=Int.mul_le_mul a2 b2 (by omega) (by decide)
 refine ⟨h0,by omega,fb,lb,h1,?_,fun z hz=>y8B (h1.bnd z hz) (by omega),⟨(a.2.2.1 * b.2.2.1).toNat,by omega,by omega,?_⟩,b1,hd⟩
 ·have:(sumS a b).2.length≤(a.2.1.map fun z=>(z0d z b.2.2.1).1).length+b.1.length:=h2
  rw[List.length_map]at this;omega
 ·rw[y4L (by omega) (by omega)]
  omega
theorem yS7{a b:Tid}(h:SumF a b)(hna:∀ n∈a.1,n.1.length < lenMax)(hnb:∀ n∈b.1,n.1.length < lenMax):y5w a b=some (y9X a b):=by
 have hmem:memMax=68719476736:=rfl;have hlm:lenMax=9223372036854775808:=rfl;have hs:=h.start.len;simp only[List.length_map]at hs;have hla:=h.la;have hlb:=h.lb;unfold y5w;rw[bifT (yD (show a.1.length < lenMax by omega)),y0n (fun c=>c) a.1 0 [] (by simp;omega) fun i e s _ hs=>by
  unfold yAU;rw[bifT (yD hs)];rfl]
 unfold yAC;rw[bifT (yD (show a.2.1.length < lenMax by omega)),y0n (fun z=>(z0d z b.2.2.1).1) a.2.1 0 [] (by simp;omega) fun i e s _ hs=>by
  unfold yAN;rw[bifT (yD hs)];rfl]
 unfold yAD;simp only[List.map_id_fun',id_eq,List.nil_append];rw[bifT (yD (show b.1.length < lenMax by omega))]
 have key:=yAu a b b.1 0 h.sb h.da b.1 0 17179869184 (a.1,a.2.1.map fun z=>(z0d z b.2.2.1).1) (by rw[Nat.zero_add];exact h.leq) h.start (by decide) (by omega) (by simp;omega)
 refine (show _=_ from key).trans ?_
 rw[List.drop_zero];show y4m a b b.1 0 (sumS a b).1 (sumS a b).2=_
 have hl:=h.ok.len;have h8:=h.len;unfold y4m y9X;rw[yEo _ (fun n hn=>by
  rcases y8y _ _ _ _ _ n hn with q|q
  ·exact hna n q
  ·exact hnb n q) (by omega)]
 simp only[Option.bind_some];obtain ⟨d,d0,d1,d2⟩:=h.den;by_cases he:y1j (sumS a b).1=0
 ·rw[if_pos he,bifF (by rw[he];rfl),d2,yHF _ _ d d0 (by omega) (by omega) h.fit,d1]
  rfl
 ·rw[if_neg he,bifT (by simpa using he)]
theorem yW0{a b:Tid}(h:SumF a b)(ha:okT a)(hb:okT b)(sa:yw a=true)(sb:yw b=true):y86 a b=some (y9X a b):=by
 have hmem:memMax=68719476736:=rfl;have hlm:lenMax=9223372036854775808:=rfl;have hs:=h.start.len;simp only[List.length_map]at hs;have hla:=h.la;have hlb:=h.lb;have hleq:=h.leq;unfold y86;rw[y2g a (y1d ha) (by omega),y2g b (y1d hb) (by omega),sa,sb]
 simp only[Option.bind_some,Bool.not_true,cond_false];rw[bifT (yD (show 0+a.1.length≤memMax by omega)),bifT (yD (show (a.1.length:Int)≤9223372036854775807 by omega)),show ((a.1.length:Int) - 0).toNat=a.2.1.length by omega]
 rw[yCM (fun i=>(z0d ((a.2.1[i.toNat]?).getD (0,0,())) b.2.2.1).1) a.2.1.length 0 [] (by simp;omega) fun k s hk hs=>by
  unfold yED;rw[show (0:Int)+(k:Int)=(k:Int) by omega,y1E,List.getElem?_eq_getElem hk]
  simp only[Option.bind_some];rw[bifT (yD hs),y4K,Int.toNat_natCast,List.getElem?_eq_getElem hk];rfl]
 have hmap:(List.range a.2.1.length).map (fun k:Nat=>(z0d ((a.2.1[((0:Int)+(k:Int)).toNat]?).getD (0,0,())) b.2.2.1).1)=a.2.1.map fun z=>(z0d z b.2.2.1).1:=by
  apply List.ext_getElem (by simp)
  intro i h1 h2;simp only[List.length_map,List.length_range]at h1;simp only[List.getElem_map,List.getElem_range];rw[show ((0:Int)+(i:Int)).toNat=i by omega,List.getElem?_eq_getElem h1]
  rfl
 rw[List.nil_append,hmap];unfold yDj;rw[bifT (yD (show b.1.length < lenMax by omega))]
 have key:=y9G a b 0 h.sb h.da b.1 0 17179869184 (a.1,a.2.1.map fun z=>(z0d z b.2.2.1).1) (by rw[Nat.zero_add];exact h.leq) h.start (by decide) (by omega) (by simp;omega)
 refine (show _=_ from key).trans ?_
 rw[List.drop_zero];show y7m a b 0 (sumS a b).1 (sumS a b).2=_
 have hl:=h.ok.len;have h8:=h.len;unfold y7m y9X;obtain ⟨d,d0,d1,d2⟩:=h.den;by_cases h5:4 < (sumS a b).1.length
 ·have he:y1j (sumS a b).1=5:=by
   unfold y1j;rw[if_neg (by omega),if_pos h5]
  rw[bifT (yD (show ((sumS a b).1.length:Int) > 4 by omega)),he]
  rfl
 ·rw[bifF (yp (show ¬ ((sumS a b).1.length:Int) > 4 by omega)),yEI]
  simp only[Option.bind_some];by_cases he:y1j (sumS a b).1=0
  ·rw[if_pos he,bifF (by rw[he];rfl),d2,yIM _ _ d d0 (by omega) (by omega) h.fit,d1]
   rfl
  ·rw[if_neg he,bifT (by simpa using he)]
theorem tSum_eq{a b:Tid}(hna:∀ n∈a.1,n.1.length < lenMax)(hnb:∀ n∈b.1,n.1.length < lenMax)(la:a.1.length≤memMax)(lb:b.1.length≤memMax)(va:a.2.1.length≤memMax)(vb:b.2.1.length≤memMax) :
  yFj a b=some (if sumE a b=0 then y9X a b else (([],[],0,()),sumE a b,())):=by
 unfold yFj;obtain ⟨s,hs,hs2⟩:=y5e a (yK va);obtain ⟨u,hu,hu2⟩:=y5e b (yK vb);rw[yEE a hna (yK la) va,yEE b hnb (yK lb) vb,hs,hu];simp only[Option.bind_some,y2a];have main:∀ x:Bool,(x=(s && u))→Option.bind (y1g [yf a,yf b,(bif !x then (4:Int)else 0)]) (fun v5=>bif v5.1 != 0 then (some ((([],[],(0:Int),()),v5.1,())))else (y5w a b))=some (if sumE a b=0 then y9X a b else (([],[],0,()),sumE a b,())):=fun x hx=>by
  have e0:yN (yf a) (yN (yf b) (bif !x then (4:Int)else 0))=sumE a b:=y3A fun h=>y3A fun h'=>by
   rw[hx,hs2 (y1d (y07 h)),hu2 (y1d (y07 h'))];cases yw a<;>cases yw b<;>rfl
  rw[y15 _ (yDp _ _ _),ye,ye,ye,y22,y1M,e0];simp only[Option.bind_some];by_cases h:sumE a b=0
  ·obtain ⟨h1,h2⟩:=yR h;obtain ⟨h3,h4⟩:=yR h2;have hss:yw a=true∧yw b=true:=by
    cases q:yw a<;>cases r:yw b<;>rw[q,r]at h4<;>first|(cases h4;done)|exact ⟨rfl,rfl⟩
   rw[if_pos h,bifF (by rw[h];rfl),yS7 (y7I (y07 h1) (y07 h3) hss.1 hss.2) hna hnb]
  ·rw[if_neg h,bifT (by simpa using h)]
 cases s with
 | false=>exact main false rfl
 | true=>exact main u rfl
theorem yEv(t:Tid)(h1:t.1.length≤memMax):yAt t=some (t,()):=by
 unfold yAt;rw[bifT (yD (yK h1)),y0n (fun n=>n) t.1 0 [] (by simpa using h1) (fun i e s _ hs=>by
  unfold yE5;rw[bifT (yD hs)])]
 simp only[List.map_id_fun',id_eq,List.nil_append];rfl
theorem yAw(t:Tid)(h1:t.1.length < lenMax)(h2:t.2.1.length < lenMax):yBt t t=some (true,()):=by
 unfold yBt;rw[bifF (by simp),bifF (by simp),bifT (yD h1),y49 t.1 (fun p x r e=>by
  unfold yDm;rw[e,yCq p x r _ rfl];simp only[Option.bind_some];rw[bifF (by simp[eqV])]) t.1 [] 0 rfl rfl]
 unfold yE4;rw[y6Q _ h2];rfl
theorem yKl(t:Tid)(h1:t.1.length≤memMax)(h2:t.2.1.length≤memMax):y7b t 0 0 t=some (true,()):=by
 unfold y7b yIk;rw[bifF (by rfl),bifT (by rfl),yEv t h1]
 simp only[Option.bind_some];rw[yAw (t.1,t.2.1,t.2.2.1,()) (yK h1) (yK h2)];rfl
theorem yIV{e:Int}(h:e≠0)(w:Tid):y7b ([],[],0,()) e e w=some (true,()):=by
 unfold y7b yIk;rw[bifT (by simpa using h),bifT (by simp),yEv _ (by simp)]
 simp only[Option.bind_some];rw[yAw _ (by simp[lenMax]) (by simp[lenMax])]
 rfl
theorem yIY(x:Gau):z0P x 0 0 x=(true,()):=by
 unfold z0P;rw[bifT (by rfl),bifF (by rfl),bifT (by rfl)]
 have:eqV ((Ty.int IntKind.i64).pair ((Ty.int IntKind.i64).pair Ty.unit)) x x=true:=by
  show ((x.1 == x.1) && ((x.2.1 == x.2.1) && true))=true
  simp
 rw[this]
theorem yFn{e:Int}(h:e≠0)(w:Gau):z0P (0,0,()) e e w=(true,()):=by
 unfold z0P;rw[bifT (by simp),bifT (by simpa using h),bifT (by rfl)]
theorem yKD(l:List Con)(a:List Gau)(d:Int):(lowT l a d).1=l∧(lowT l a d).2.1.length=a.length:=⟨rfl,by simp[lowT]⟩
theorem yJ8(c:Bool)(e:Int):z0l c e=(bif c then e else 0,()):=by
 unfold z0l;cases c<;>rfl
theorem yOA{a b:Tid}(ha:okT a)(hb:okT b):y86 a b=some (if yw a && yw b then y9X a b else (([],[],0,()),4,())):=by
 have hlm:lenMax=9223372036854775808:=rfl;have fa:=ha.few;have fb:=hb.few;have la:=ha.len;have lb:=hb.len;cases sa:yw a with
 | false =>
  unfold y86;rw[y2g a (y1d ha) (by omega),sa]
  rfl
 | true =>
  cases sb:yw b with
  | false =>
   unfold y86;rw[y2g a (y1d ha) (by omega),y2g b (y1d hb) (by omega),sa,sb]
   rfl
  | true=>rw[yW0 (y7I ha hb sa sb) ha hb sa sb];rfl
noncomputable def sS(a b:Tid):Tid×Int×Unit:=if sumE a b=0 then y9X a b else (([],[],0,()),sumE a b,())
noncomputable def sN(y:Int):Gau×Int×Unit:=if ckR y 0 9999=0 then (nodV (y % 16),0,())else ((0,0,()),ckR y 0 9999,())
noncomputable def sA(t:Tid)(y:Int):Tid×Int×Unit:=if adjE t y=0 then (adjT t (nodV (y % 16)),0,())else (([],[],0,()),adjE t y,())
noncomputable def sT(t:Tid):List (Nat×Nat)×Int×Unit:=if yf t=0 then yAL t else ([],yf t,())
section
variable {β:Type}
theorem yTY(a b:Tid)(k:List Con→List Gau→Int→Int→Option β) :
  (bif yN (yf a) (yf b) == 0 then Option.bind (y86 a b) fun v=>k v.1.1 v.1.2.1 v.1.2.2.1 v.2.1 else k [] [] 0 (yN (yf a) (yf b)))=k (sS a b).1.1 (sS a b).1.2.1 (sS a b).1.2.2.1 (sS a b).2.1:=by
 have e0:sumE a b=yN (yN (yf a) (yf b)) (if yw a && yw b then 0 else 4):=(y09 _ _ _).symm
 by_cases h:yN (yf a) (yf b)=0
 ·obtain ⟨h1,h2⟩:=yR h;rw[bifT (by rw[h];rfl),yOA (y07 h1) (y07 h2)]
  rw[h,y0R]at e0;unfold sS;rw[e0];cases yw a && yw b<;>rfl
 ·rw[yo h]at e0;rw[bifF (by simpa using h)]
  unfold sS;rw[e0,if_neg h]
theorem yX3(y:Int)(k:Int→Int→Option β) :
  (bif ckR y 0 9999 == 0 then Option.bind (yD6 y) fun v=>k v.1.1 v.1.2.1 else k 0 0)=k (sN y).1.1 (sN y).1.2.1:=by
 unfold sN;by_cases h:ckR y 0 9999=0
 ·rw[bifT (by rw[h];rfl),if_pos h,yCJ (y1V h).1]
  rfl
 ·rw[bifF (by simpa using h),if_neg h]
theorem ySg(t:Tid)(y:Int)(k:Int→Option β) :
  (bif yN (yf t) (ckR y 0 9999) == 0 then Option.bind (y7z t) fun v=>k (z0l (!v.1) 4).1 else k (yN (yf t) (ckR y 0 9999)))=k (adjE t y):=by
 have e0:adjE t y=yN (yN (yf t) (ckR y 0 9999)) (if yw t then 0 else 4):=(y09 _ _ _).symm
 by_cases h:yN (yf t) (ckR y 0 9999)=0
 ·obtain ⟨h1,h2⟩:=yR h;have ht:=y07 h1;have hf:=ht.few;have hl:=ht.len;have hlm:lenMax=9223372036854775808:=rfl;rw[bifT (by rw[h];rfl),y2g t (y1d ht) (by omega),e0,h,y0R]
  simp only[Option.bind_some];rw[yJ8];cases yw t<;>rfl
 ·rw[bifF (by simpa using h),e0,yo h]
theorem ySt(t:Tid)(y:Int)(k:List Con→List Gau→Int→Option β) :
  (bif adjE t y == 0 then Option.bind (yCd t y) fun v=>k v.1.1 v.1.2.1 v.1.2.2.1 else k [] [] 0)=k (sA t y).1.1 (sA t y).1.2.1 (sA t y).1.2.2.1:=by
 unfold sA;by_cases h:adjE t y=0
 ·obtain ⟨h1,h2⟩:=yR h;obtain ⟨h3,h4⟩:=yR h2;have hs:yw t=true:=by
   cases hs:yw t with
   | true=>rfl
   | false=>rw[hs]at h4;cases h4
  rw[bifT (by rw[h];rfl),if_pos h,yPx (y07 h1) hs (y1V h3).1]
  rfl
 ·rw[bifF (by simpa using h),if_neg h]
theorem yV7(t:Tid)(k:Int→List (Nat×Nat)→Option β) :
  (bif yf t == 0 then Option.bind (yCg t) fun v=>k v.2.1 v.1 else k (yf t) [])=k (sT t).2.1 (sT t).1:=by
 unfold sT;by_cases h:yf t=0
 ·rw[bifT (by rw[h];rfl),if_pos h,yJn (y07 h)]
  rfl
 ·rw[bifF (by simpa using h),if_neg h]
end
theorem y3X(S:Tid×Int×Unit)(h:S.2.1=0∨S.1=([],[],0,())∧S.2.1≠0)(h1:S.1.1.length≤memMax)(h2:S.1.2.1.length≤memMax):y7b S.1 S.2.1 S.2.1 S.1=some (true,()):=by
 rcases h with h|⟨h,h'⟩
 ·rw[h];exact yKl _ h1 h2
 ·rw[h];exact yIV h' _
theorem yPt{a b:Tid}:y7b (sS a b).1 (sS a b).2.1 (sS a b).2.1 (sS a b).1=some (true,()):=by
 have hmem:memMax=68719476736:=rfl;unfold sS;by_cases h:sumE a b=0
 ·rw[if_pos h];obtain ⟨h1,h2⟩:=yR h;obtain ⟨h3,h4⟩:=yR h2;have hss:yw a=true∧yw b=true:=by
   cases q:yw a<;>cases r:yw b<;>rw[q,r]at h4<;>first|(cases h4;done)|exact ⟨rfl,rfl⟩
  have F:=y7I (y07 h1) (y07 h3) hss.1 hss.2;have l1:=F.ok.len;have l2:=F.len;unfold y9X;by_cases h5:y1j (sumS a b).1=0
  ·rw[if_pos h5];obtain ⟨q1,q2⟩:=yKD (sumS a b).1 (sumS a b).2 (a.2.2.1 * b.2.2.1);exact y3X (lowT (sumS a b).1 (sumS a b).2 (a.2.2.1 * b.2.2.1),0,()) (.inl rfl) (by rw[q1];omega) (by rw[q2];omega)
  ·rw[if_neg h5];exact y3X (([],[],0,()),y1j (sumS a b).1,()) (.inr ⟨rfl,h5⟩) (by simp) (by simp)
 ·rw[if_neg h];exact y3X (([],[],0,()),sumE a b,()) (.inr ⟨rfl,h⟩) (by simp) (by simp)
theorem yRF{t:Tid}{y:Int}:y7b (sA t y).1 (sA t y).2.1 (sA t y).2.1 (sA t y).1=some (true,()):=by
 have hmem:memMax=68719476736:=rfl;unfold sA;by_cases h:adjE t y=0
 ·rw[if_pos h];obtain ⟨h1,h2⟩:=yR h;have ht:=y07 h1;have hf:=ht.few;have hl:=ht.len;exact y3X (adjT t (nodV (y % 16)),0,()) (.inl rfl) (by unfold adjT lowT;simp only;omega) (by unfold adjT lowT;simp only[List.length_map];omega)
 ·rw[if_neg h];exact y3X (([],[],0,()),adjE t y,()) (.inr ⟨rfl,h⟩) (by simp) (by simp)
theorem yUd(t:Tid)(y:Int):(sA t y).2.1=adjE t y:=by
 unfold sA;by_cases h:adjE t y=0
 ·rw[if_pos h,h]
 ·rw[if_neg h]
theorem yLN(y:Int):z0P (sN y).1 (sN y).2.1 (ckR y 0 9999) (sN y).1=(true,()):=by
 unfold sN;by_cases h:ckR y 0 9999=0
 ·rw[if_pos h,h];exact yIY _
 ·rw[if_neg h];exact yFn h _
theorem yQy(t:Tid):zq_M (sT t).1 (sT t).1=some (true,()):=by
 have hlm:lenMax=9223372036854775808:=rfl;unfold sT;by_cases h:yf t=0
 ·rw[if_pos h];have ht:=y07 h;have hf:=ht.few;have hl:=ht.len;have:=yHY t;exact y5R _ (by omega) (yFz ht)
 ·rw[if_neg h];exact y5R _ (by simp[lenMax]) (by simp)
theorem yMT(a b:Tid)(y:Int)(la:a.1.length < lenMax)(lb:b.1.length < lenMax):zn_M a b y=some (true,()):=by
 have hmem:memMax=68719476736:=rfl;have hlm:lenMax=9223372036854775808:=rfl;unfold zn_M zn_m;rw[yFx];simp only[Option.bind_some,Bool.not_true,cond_false];obtain ⟨s,hs,hs2⟩:=yC3 a la;obtain ⟨u,hu,hu2⟩:=yC3 b lb;rw[hs];simp only[Option.bind_some];cases s with
 | false=>rfl
 | true =>
  simp only[Bool.not_true,cond_false];rw[hu];simp only[Option.bind_some];cases u with
  | false=>rfl
  | true =>
   obtain ⟨a60,a5,a5'⟩:=hs2 rfl;obtain ⟨b60,b5,b5'⟩:=hu2 rfl;have hna:∀ n∈a.1,n.1.length < lenMax:=fun n hn=>by have:=a60 n hn;omega
   have hnb:∀ n∈b.1,n.1.length < lenMax:=fun n hn=>by have:=b60 n hn;omega
   simp only[Bool.not_true,cond_false];rw[yN3 a (by omega) (by omega),yN3 b (by omega) (by omega)]
   simp only[Option.bind_some];rw[tSum_eq hna hnb (by omega) (by omega) (by omega) (by omega),tNodal_eq,tAdj_eq hna (by omega) (by omega),yKN hna (by omega) (by omega),yMb a (by omega),yMb b (by omega)]
   simp only[Option.bind_some,y0u];rw[y5K _ (y7Q _ _),y5K _ (y7Q _ _)];simp only[ye,y22,y1M,Option.bind_some];show (bif yN (yf a) (yf b) == 0 then Option.bind (y86 a b) fun v=>y4E 0 a y (sS a b) (sN y) (sA a y) (sT a) (yf a,()) (yN (yf a) (ckR y 0 9999),()) v.1.1 v.1.2.1 v.1.2.2.1 v.2.1
    else y4E 0 a y (sS a b) (sN y) (sA a y) (sT a) (yf a,()) (yN (yf a) (ckR y 0 9999),()) [] [] 0 (yN (yf a) (yf b)))=some (true,())
   rw[yTY a b fun p q r z=>y4E 0 a y (sS a b) (sN y) (sA a y) (sT a) (yf a,()) (yN (yf a) (ckR y 0 9999),()) p q r z]
   unfold y4E;rw[y0u];rw[yX3 y fun p q=>y6h 0 a y (sS a b) (sN y) (sA a y) (sT a) (yf a,()) (yN (yf a) (ckR y 0 9999),()) (sS a b).1.1 (sS a b).1.2.1 (sS a b).1.2.2.1 (sS a b).2.1 p q]
   unfold y6h;rw[ySg a y fun p=>y6y 0 a y (sS a b) (sN y) (sA a y) (sT a) (yf a,()) (sS a b).1.1 (sS a b).1.2.1 (sS a b).1.2.2.1 (sS a b).2.1 (sN y).1.1 (sN y).1.2.1 p]
   unfold y6y;rw[ySt a y fun p q r=>y6V 0 a y (sS a b) (sN y) (sA a y) (sT a) (yf a,()) (sS a b).1.1 (sS a b).1.2.1 (sS a b).1.2.2.1 (sS a b).2.1 (sN y).1.1 (sN y).1.2.1 (adjE a y) p q r]
   unfold y6V;rw[yV7 a fun p q=>y73 0 y (sS a b) (sN y) (sA a y) (sT a) (sS a b).1.1 (sS a b).1.2.1 (sS a b).1.2.2.1 (sS a b).2.1 (sN y).1.1 (sN y).1.2.1 (adjE a y) (sA a y).1.1 (sA a y).1.2.1 (sA a y).1.2.2.1 p q]
   unfold y73;rw[y0u];show (Option.bind (y7b (sS a b).1 (sS a b).2.1 (sS a b).2.1 (sS a b).1) fun v39=>(bif v39.1 then (bif (z0P (sN y).1 (sN y).2.1 (ckR y 0 9999) (sN y).1).1 then (Option.bind (y7b (sA a y).1 (sA a y).2.1 (adjE a y) (sA a y).1) fun v40=>(bif v40.1 then (bif (sT a).2.1 == (sT a).2.1 then (Option.bind (zq_M (sT a).1 (sT a).1) fun v41=>some (v41.1,()))else some (false,()))else some (false,())))else some (false,()))else some (false,())))=some (true,())
   rw[yPt,← yUd,yRF,yLN,yQy];simp only[Option.bind_some,cond_true,beq_self_eq_true]
end Go.Tw
