import Derived.Test.YtpcnkpbpcebokaaGreatDoorPF3
import Derived.Test.YtpcnkpbpcebokaaGreatDoorPZ
import Derived.Test.YtpcnkpbpcebokaaGreatDoorPE8
import Derived.Test.YtpcnkpbpcebokaaGreatDoorBLe
set_option linter.all false
set_option maxRecDepth 100000
open Option (bind_some)
open Int (mul_assoc mul_le_mul)
open Go.IntKind (i64)
namespace Go.Tw
open Go.Vx Go.Vx.B Go.Proofs
theorem yS0{m k:Int}{x y:Gau}(hx:bd m x)(hy:bd k y)(hb:m+k < 9223372036854775807):(z0k x y).1=addX x (negX y):=by
 unfold bd at hx hy;unfold z0k;simp only;rw[y04 (by omega) (by omega),y04 (by omega) (by omega)]
 exact yA (by simp only[addX,negX];omega) (by simp only[addX,negX];omega)
theorem yCd{r:Rec}{l0:List Con}{by5 ticks:List Int}{j t t137 t138:Int}{t141:List Int}{t142 t143:Int}{t160 c0:List Con}{A:List Gau}{D p q b20 b21:Int}(ht:y5y t){M:Int}(hM:0<=M/\M<=1000000000000) :
  ∀ (l:List Con) (A' done:List Gau) (s:Int×Int) (B:Int),A=done++A'->l.length=A'.length->(∀ c∈l,y4I c)->(∀ z∈A',bd M z)->bd B (s.1,s.2,())->0<=B->B+l.length * M < 1000000000000000000 ->
   yH (λ i__ e__ s__=>yAC l0 r by5 ticks j t t137 t138 t141 t142 t143 t160 c0 A D p q b20 b21 i__ e__ s__.1 s__.2) (λ s__=>y8Q l0 r by5 ticks j t t137 t138 t141 t142 t143 t160 c0 A D p q b20 b21 s__.1 s__.2) (done.length:Int) l s =
    y8Q l0 r by5 ticks j t t137 t138 t141 t142 t143 t160 c0 A D p q b20 b21 (addX (s.1,s.2,()) (negX (lc A' (l.map chr) t))).1 (addX (s.1,s.2,()) (negX (lc A' (l.map chr) t))).2.1
 |[],[],done,s,B,_,_,_,_,_,_,_=>by
  rw[y1o];have e:addX (s.1,s.2,()) (negX (lc [] (([]:List Con).map chr) t))=(s.1,s.2,()):=by
   show addX (s.1,s.2,()) (negX G0)=_
   exact yA (by simp[addX,negX,G0]) (by simp[addX,negX,G0])
  rw[e]
 |[],_::_,_,_,_,_,h,_,_,_,_,_=>by simp at h
 |_::_,[],_,_,_,_,h,_,_,_,_,_=>by simp at h
 |c::l,z::A',done,s,B,hA,hl,hc,hz,hs,h0,hB=>by
  simp only[List.length_cons]at hB;have hx:((l.length+1:Nat):Int) * M=(l.length:Int) * M+M:=by
   rw[Int.natCast_add,Int.add_mul];simp
  rw[hx]at hB;have hlM:0<=(l.length:Int) * M:=Int.mul_nonneg (by omega) hM.1
  have hzb:=hz z (by simp)
  have hg:A[done.length]?=some z:=by rw[hA];simp
  have hm:=yGs hzb c t;have e1:(z0R z (chr c t)).1=mulX z (chr c t):=y7v hzb (y8d c t) (by omega)
  have e2:=yS0 hs hm (by omega)
  have hb:yAC l0 r by5 ticks j t t137 t138 t141 t142 t143 t160 c0 A D p q b20 b21 (done.length:Int) c s.1 s.2=some (Sum.inr ((addX (s.1,s.2,()) (negX (mulX z (chr c t)))).1,(addX (s.1,s.2,()) (negX (mulX z (chr c t)))).2.1)):=by
   unfold yAC;rw[y0M,hg];simp only[bind_some];show Option.bind (zo_M c t) _=_
   rw[yGT (hc c (by simp)) ht]
   simp only[bind_some];rw[e1,e2]
  rw[yU,hb];simp only[bind_some];have ih:=yCd (A:=A) (l0:=l0) (r:=r) (by5:=by5) (ticks:=ticks) (j:=j) (t137:=t137) (t138:=t138) (t141:=t141) (t142:=t142) (t143:=t143) (t160:=t160) (c0:=c0) (D:=D) (p:=p) (q:=q) (b20:=b20) (b21:=b21) ht hM l A' (done++[z]) ((addX (s.1,s.2,()) (negX (mulX z (chr c t)))).1,(addX (s.1,s.2,()) (negX (mulX z (chr c t)))).2.1) (B+M) (by rw[hA];simp) (by simpa using hl) (λ x h=>hc x (by simp[h])) (λ x h=>hz x (by simp[h])) (y1p hs (y3n hm)) (by omega) (by omega)
  rw[List.length_append,Int.natCast_add]at ih;refine ih.trans ?_
  have e:addX (addX (s.1,s.2,()) (negX (mulX z (chr c t)))) (negX (lc A' (l.map chr) t))=addX (s.1,s.2,()) (negX (lc (z::A') ((c::l).map chr) t)):=by
   show _=addX (s.1,s.2,()) (negX (addX (mulX z (chr c t)) (lc A' (l.map chr) t)))
   exact yA (by simp only[addX,negX];omega) (by simp only[addX,negX];omega)
  rw[<- e]
theorem ySh{r:Rec}(h:lowR4 r){l:List Con}{by5 ticks:List Int}{j:Nat}{t137 t138:Int}{t141:List Int}{c0:List Con}{A:List Gau}{D p q i t:Int}(ht:t∈tks r)(hl:l.length=A.length)(hl4:l.length<=4)(hc:∀ c∈l,y4I c)(hA:∀ z∈A,bd 100000000000 z)(hD:0<=D/\D<=20736)(hj:j < l.length)
  (s:Int×Int) {B:Int} (hs:bd B (s.1,s.2,())) (h0:0<=B) (hB:B<=1000000000000000) :
  y9w l r by5 ticks (j:Int) t137 t138 t141 c0 A D p q i t s.1 s.2=some (Sum.inr ((addX (s.1,s.2,()) (mulX (conX (chr l[j] t)) (y0W r l A D t))).1,(addX (s.1,s.2,()) (mulX (conX (chr l[j] t)) (y0W r l A D t))).2.1)):=by
 have hlm:lenMax=9223372036854775808:=rfl;have hok:=yRt h.ok t ht;have hlb:=yGM h ht;have hob:=yEe h hl hl4 hA (by decide) hD.1 ht
 obtain ⟨k,k1,k2,k3⟩:=(yOy r t).1 ht;have hx:r.2.2.1[k]?=some r.2.2.1[k]:=List.getElem?_eq_getElem k1;have hlev:levI r t=sx r.2.2.1[k]:=by
  unfold levI;rw[k3,show r.2.1+(k:Int) - r.2.1=(k:Int) by omega,Int.toNat_natCast,hx]
  rfl
 have hkl:=h.ok.len;unfold y9w;rw[show t - r.2.1=(k:Int) by omega,y04 (i:=(k:Int)) (by omega) (by omega),y0M,hx]
 simp only[bind_some];rw[yPe (h.ok.lev _ (List.getElem_mem k1))];simp only[bind_some];have hds:=y1d (m:=20736) (k:=64) (a:=D) (b:=sx r.2.2.1[k]) (by omega) (by rw[<- hlev];exact hlb)
 rw[bifT (y7 (show l.length < lenMax by omega)),y04 (i:=D * sx r.2.2.1[k]) (by omega) (by omega)]
 have hlp:=yCd (r:=r) (l0:=l) (by5:=by5) (ticks:=ticks) (j:=(j:Int)) (t137:=t137) (t138:=t138) (t141:=t141) (t142:=(t141.length:Int)) (t143:=i) (t160:=l) (c0:=c0) (A:=A) (D:=D) (p:=p) (q:=q) (b20:=s.1) (b21:=s.2) hok (M:=100000000000) (by decide) l A [] (D * sx r.2.2.1[k],0) 2000000 rfl hl hc hA (by unfold bd;simp only;omega) (by decide) (by omega)
 refine hlp.trans ?_
 have eo:addX (D * sx r.2.2.1[k],0,()) (negX (lc A (l.map chr) t))=y0W r l A D t:=by
  unfold y0W levF;rw[hlev];exact yA (by simp only[addX,mulX,negX];omega) (by simp only[addX,mulX,negX];omega)
 show y8Q l r by5 ticks (j:Int) t t137 t138 t141 (t141.length:Int) i l c0 A D p q s.1 s.2 (addX (D * sx r.2.2.1[k],0,()) (negX (lc A (l.map chr) t))).1 (addX (D * sx r.2.2.1[k],0,()) (negX (lc A (l.map chr) t))).2.1=_
 rw[eo];unfold y8Q;rw[y0M,List.getElem?_eq_getElem hj];simp only[bind_some];rw[yGT (hc _ (List.getElem_mem hj)) hok];simp only[bind_some];have hcb:=y8d l[j] t;have e1:(zn (chr l[j] t)).1=conX (chr l[j] t):=yKU hcb (by decide)
 have e2:(z0R (conX (chr l[j] t)) ((y0W r l A D t).1,(y0W r l A D t).2.1,())).1=mulX (conX (chr l[j] t)) (y0W r l A D t):=y7v (y:=y0W r l A D t) (yAD hcb) hob (by omega)
 have hmb:=y2a (yAD hcb) hob;have e3:(z0l (s.1,s.2,()) (mulX (conX (chr l[j] t)) (y0W r l A D t))).1=addX (s.1,s.2,()) (mulX (conX (chr l[j] t)) (y0W r l A D t)):=yDu hs hmb (by omega)
 rw[e1,e2,e3]
theorem yG0{r:Rec}(h:lowR4 r){l:List Con}{by5 ticks:List Int}{j:Nat}{t137 t138:Int}{t141:List Int}{c0:List Con}{A:List Gau}{D p q:Int}(hl:l.length=A.length)(hl4:l.length<=4)(hc:∀ c∈l,y4I c)(hA:∀ z∈A,bd 100000000000 z)(hD:0<=D/\D<=20736)(hj:j < l.length) :
  ∀ (T:List Int) (i:Int) (s:Int×Int) (B:Int),(∀ t∈T,t∈tks r)->bd B (s.1,s.2,())->0<=B->B+1000000000000 * T.length<=1000000000000000 ->
   yH (λ i__ e__ s__=>y9w l r by5 ticks (j:Int) t137 t138 t141 c0 A D p q i__ e__ s__.1 s__.2) (λ s__=>y9k l r by5 ticks (j:Int) t137 t138 t141 c0 A D p q s__.1 s__.2) i T s =
    y9k l r by5 ticks (j:Int) t137 t138 t141 c0 A D p q (addX (s.1,s.2,()) (ip T (chr l[j]) (y0W r l A D))).1 (addX (s.1,s.2,()) (ip T (chr l[j]) (y0W r l A D))).2.1
 |[],i,s,B,_,_,_,_=>by
  rw[y1o];have e:addX (s.1,s.2,()) (ip [] (chr l[j]) (y0W r l A D))=(s.1,s.2,()):=y08 _;rw[e]
 |t::T,i,s,B,ht,hs,h0,hB=>by
  simp only[List.length_cons]at hB;have htk:=ht t (by simp)
  have hob:=yEe h hl hl4 hA (by decide) hD.1 htk
  have hmb:=y2a (yAD (y8d l[j] t)) hob;rw[yU,ySh h htk hl hl4 hc hA hD hj s hs h0 (by omega)]
  simp only[bind_some];refine (yG0 h hl hl4 hc hA hD hj T (i+1) _ (B+1000000000000) (λ u hu=>ht u (by simp[hu])) (y25 (y1p hs hmb) (by omega)) (by omega) (by omega)).trans ?_
  have e:addX (addX (s.1,s.2,()) (mulX (conX (chr l[j] t)) (y0W r l A D t))) (ip T (chr l[j]) (y0W r l A D))=addX (s.1,s.2,()) (ip (t::T) (chr l[j]) (y0W r l A D)):=y30 _ _ _;rw[<- e]
theorem yIl{n:Int}(hn:0 < n){w:Gau}(h:mulX (n,0,()) w=G0):w=G0:=by
 have h1:n * w.1 - 0 * w.2.1=0:=congrArg (λ z:Gau=>z.1) h
 have h2:n * w.2.1+0 * w.1=0:=congrArg (λ z:Gau=>z.2.1) h
 have a1:n * w.1=0:=by omega
 have a2:n * w.2.1=0:=by omega
 exact yA ((Int.mul_eq_zero.1 a1).resolve_left (by omega)) ((Int.mul_eq_zero.1 a2).resolve_left (by omega))
theorem y6G(T:List Int)(u:Int->Gau)(n:Int):(ip T (λ t=>mulX (n,0,()) (u t)) (λ t=>mulX (n,0,()) (u t))).1=n * n * (ip T u u).1:=by
 rw[y6r,y3f];simp only[mulX,conX];grind
theorem yLP{r:Rec}{l:List Con}(hl:l.length<=4){A:List Gau}{D n:Int}(hn:0 < n)(hleft:∀ t,y1K (tks r) (l.map chr) (levF r) t=mulX (n,0,()) (y0W r l A D t))(j:Nat)(hj:j < l.length):ip (tks r) (chr l[j]) (y0W r l A D)=G0:=by
 have h1:=yCx (T:=tks r) (v:=l.map chr) (by simpa using hl) (levF r) (chr l[j]) (List.mem_map.2 ⟨_,List.getElem_mem hj,rfl⟩)
 rw[show y1K (tks r) (l.map chr) (levF r)=λ t=>mulX (n,0,()) (y0W r l A D t)from funext hleft,y6r]at h1
 exact yIl hn h1
theorem y9n{β:Type}{body:Int->Unit->Option (β⊕Unit)}{fin:Unit->Option β}(N:Nat)(hb:∀ i:Nat,i < N->body (i:Int) ()=some (.inr ())):∀ (m i:Nat),i+m=N->y0e body fin m (i:Int) ()=fin ()
 |0,i,_=>rfl
 |m+1,i,h=>by
  rw[y4m,hb i (by omega)]
  exact y9n N hb m (i+1) (by omega)
theorem ySv{a b:Int}(hf:fits (a,b,()))(h:y0g 100000 (a,b,())=true):decide (imax (imax (imax a (i64.wrap (0 - a))) b) (i64.wrap (0 - b)) > 100000)=false:=
 yE λ hh=>(yEE (a,b,()) 100000 hf).1 hh h
theorem yRZ{a b:Int}(hf:fits (a,b,()))(h:¬ y0g 100000 (a,b,())=true):decide (imax (imax (imax a (i64.wrap (0 - a))) b) (i64.wrap (0 - b)) > 100000)=true:=
 y7 ((yEE (a,b,()) 100000 hf).2 h)
theorem yT3{r:Rec}{by5:List Int}{t228:List Gau}{c0:List Con}{A:List Gau}{D p q:Int}{c2:List Con}{d2:Int}(hx3:by5.length=2)(hxw:∀ y∈by5,-128<=y/\y<=127)(hD:1<=D)(i:Nat){z:Gau}(hz:bd 100000000000 z)(cs:List Gau)(hcs:cs.length+1<=memMax) :
  yA1 r by5 t228 c0 A D p q c2 d2 (i:Int) z cs=some (.inl (true,()))\/∃ y,bd 100000 y/\yA1 r by5 t228 c0 A D p q c2 d2 (i:Int) z cs=some (.inr (cs++[y])):=by
 obtain ⟨m,k,rfl⟩:∃ m k,by5=[m,k]:=by
  match by5,hx3 with
  |[m,k],_=>exact ⟨m,k,rfl⟩
 have hm:=hxw m (by simp)
 have hk:=hxw k (by simp)
 have hD0:(D == 0)=false:=by simpa using (show D≠0 by omega)
 have t1:=y29 (x:=z.1) (n:=D) (by omega)
 have t2:=y29 (x:=z.2.1) (n:=D) (by omega)
 unfold bd at hz;have w1:i64.wrap (z.1.tdiv D)=z.1.tdiv D:=y04 (by omega) (by omega)
 have w2:i64.wrap (z.2.1.tdiv D)=z.2.1.tdiv D:=y04 (by omega) (by omega)
 have w3:i64.wrap m=m:=y04 (by omega) (by omega)
 have w4:i64.wrap k=k:=y04 (by omega) (by omega)
 have w5:i64.wrap (z.1.tdiv D+m)=z.1.tdiv D+m:=y04 (by omega) (by omega)
 have w6:i64.wrap (z.2.1.tdiv D+k)=z.2.1.tdiv D+k:=y04 (by omega) (by omega)
 unfold yA1;rw[bifF hD0,bifF hD0];by_cases hi:i=0
 ·subst hi;rw[bifT (by rfl)]
  show Option.bind (some m) (λ v61=>Option.bind (some k) λ v62=>_)=_\/∃ y,_/\Option.bind (some m) (λ v61=>Option.bind (some k) λ v62=>_)=_
  simp only[bind_some];rw[w1,w2,w3,w4,w5,w6];have hf:fits (z.1.tdiv D+m,z.2.1.tdiv D+k,()):=by unfold fits;simp only;omega
  by_cases hs:y0g 100000 (z.1.tdiv D+m,z.2.1.tdiv D+k,())=true
  ·right
   refine ⟨(z.1.tdiv D+m,z.2.1.tdiv D+k,()),y7S hs,?_⟩;exact (bifF (ySv hf hs)).trans (bifT (y7 hcs))
  ·left
   exact bifT (yRZ hf hs)
 ·rw[bifF (by simpa using hi),w1,w2]
  have hf:fits (z.1.tdiv D,z.2.1.tdiv D,()):=by unfold fits;simp only;omega
  by_cases hs:y0g 100000 (z.1.tdiv D,z.2.1.tdiv D,())=true
  ·right
   refine ⟨(z.1.tdiv D,z.2.1.tdiv D,()),y7S hs,?_⟩;exact (bifF (ySv hf hs)).trans (bifT (y7 hcs))
  ·left
   exact bifT (yRZ hf hs)
theorem yNu{r:Rec}{by5:List Int}{t228:List Gau}{c0:List Con}{A:List Gau}{D p q:Int}{c2:List Con}{d2:Int}(hx3:by5.length=2)(hxw:∀ y∈by5,-128<=y/\y<=127)(hD:1<=D)(hA:A.length<=8)(hz:∀ z∈A,bd 100000000000 z)
  (hfin:∀ cs:List Gau,cs.length=A.length->(∀ y∈cs,bd 100000 y)->y9z r by5 t228 c0 A D p q c2 d2 cs=some (true,())) :
  ∀ (l done:List Gau) (cs:List Gau),A=done++l->cs.length=done.length->(∀ y∈cs,bd 100000 y)->yH (λ i__ e__ s__=>yA1 r by5 t228 c0 A D p q c2 d2 i__ e__ s__) (λ s__=>y9z r by5 t228 c0 A D p q c2 d2 s__) (done.length:Int) l cs=some (true,())
 |[],done,cs,h,hl,hc=>by
  rw[y1o];exact hfin cs (by rw[h];simpa using hl) hc
 |z::l,done,cs,h,hl,hc=>by
  have hmem:memMax=68719476736:=rfl;have hAl:A.length=done.length+(l.length+1):=by rw[h];simp
  rw[yU];rcases yT3 (r:=r) (t228:=t228) (c0:=c0) (A:=A) (p:=p) (q:=q) (c2:=c2) (d2:=d2) hx3 hxw hD done.length (hz z (by rw[h];simp)) cs (by omega)with e|⟨y,y1,e⟩
  ·rw[e];rfl
  ·rw[e];simp only[bind_some];have ih:=yNu hx3 hxw hD hA hz hfin l (done++[z]) (cs++[y]) (by rw[h];simp) (by simp[hl]) (λ x hx=>by
    rcases List.mem_append.1 hx with hx|hx
    ·exact hc x hx
    ·rw[List.mem_singleton.1 hx];exact y1)
   rw[List.length_append,Int.natCast_add]at ih;exact ih
theorem yHD:∀ l:List Gau,(∀ z∈l,bd 8796093022208 z)->y09 (l.map y1t)=0
 |[],_=>rfl
 |z::l,h=>by
  rw[List.map_cons,yM,yJa (h z (by simp)),yQ]
  exact yHD l λ y hy=>h y (by simp[hy])
theorem yPz(l:List Gau):comG l 1=1:=by
 have h1:=(y7V l 1).1;have h2:=y7b l 1 (by decide)
 exact Int.eq_one_of_dvd_one (Int.le_of_lt h2) h1
theorem yDe{l:List Con}{a:List Gau}{D:Int}:y2o (l,a,D,())=true ↔ (∀ z∈a,y0g 4194304 z=true)/\D<=4096:=by
 unfold y2o;rw[Bool.and_eq_true,List.all_eq_true,decide_eq_true_eq]
theorem ySd{r:Rec}(h:lowR4 r){l:List Con}(hck:y3q r l=0)(hl:l.length<=4)(hnm:r.1.length<=60)(hlv:r.2.2.1.length<=12)(hg:r.2.2.2.1.length<=12)(hnl:∀ n∈l,n.1.length < lenMax){by5:List Int}{t228 A:List Gau}{c0:List Con}{D p q:Int}(h0:denA r l≠0)(hpq:lowR (numX (tks r) (l.map chr) (levF r)) (denA r l)=(p,q,()))(hn0:0<=numX (tks r) (l.map chr) (levF r)/\numX (tks r) (l.map chr) (levF r)<=2000000000)
  (cs:List Gau) (hcl:cs.length=l.length) (hcs:∀ y∈cs,bd 100000 y):y9z r by5 t228 c0 A D p q l 1 cs=some (true,()):=by
 have hmem:memMax=68719476736:=rfl;have hlm:lenMax=9223372036854775808:=rfl;obtain ⟨c1,c2⟩:=yJ hck;obtain ⟨d1,d2⟩:=y4S h hl;obtain ⟨e1,e2,e3⟩:=yOc h (l:=l) (a:=cs) (D:=1) (M:=100000) hcl.symm hl hcs (by decide) (by decide)
 have hle:numX (tks r) (l.map chr) (levF r)<=resN r (l,cs,1,()) * denA r l:=by
  obtain ⟨_,_,s3,_⟩:=y8E h hl;have hDX:DX (tks r) (l.map chr)=(denA r l,0,()):=by
   obtain ⟨E,g1,_⟩:=gram (tks r) (l.map chr) (by simpa using hl)
   rw[g1]at s3;rw[g1,s3]
  have hL:=y6M (T:=tks r) (v:=l.map chr) (by simpa using hl) (levF r) (λ t=>mulX (denA r l,0,()) (lc cs (l.map chr) t)) (cs.map λ z=>mulX z (denA r l,0,())) (by simp[hcl]) (λ t _=>by
   rw[yGD];exact yA (by simp only[mulX];grind) (by simp only[mulX];grind))
  have hp:∀ t∈tks r,addX (mulX (DX (tks r) (l.map chr)) (levF r t)) (negX (mulX (denA r l,0,()) (lc cs (l.map chr) t)))=mulX (denA r l,0,()) (y0W r l cs 1 t):=λ t _=>by
   rw[hDX];unfold y0W;exact yA (by simp only[addX,mulX,negX];grind) (by simp only[addX,mulX,negX];grind)
  rw[y4d hp hp,y6G,<- e1,hDX]at hL;simp only at hL;rw[mul_assoc]at hL;have:=Int.le_of_mul_le_mul_left hL (show 0 < denA r l by omega)
  rw[Int.mul_comm];exact this
 obtain ⟨l1,l2,l3,l4,l5⟩:=yNl hn0.1 (by omega) (show 1<=denA r l by omega) (by omega) hle
 rw[hpq]at l1 l2 l3 l4 l5;simp only at l1 l2 l3 l4 l5;have hY:resN r (l,cs,1,())<=4398046511104:=by omega
 have hYq:resN r (l,cs,1,()) * q<=4398046511104 * 20736:=mul_le_mul hY (by omega) (by omega) (by decide)
 have hYq0:0<=resN r (l,cs,1,()) * q:=Int.mul_nonneg e2 (by omega)
 have hT:y2t (l,cs,1,())=0:=by
  unfold y2t;simp only;rw[c2,yQ,if_pos hcl,yQ,show ckR 1 1 268435456=0 from rfl,yQ,yHD cs λ z hz=>y25 (hcs z hz) (by decide),yQ,if_pos (yPz cs)]
 have hE:resE r (l,cs,1,())=0:=by
  unfold resE;rw[c1,yQ,hT,yQ,if_pos (yDe.2 ⟨λ z hz=>yAa (y25 (hcs z hz) (by decide)),by decide⟩)]
 unfold y9z;rw[yEZ r (by omega) (by omega)]
 simp only[bind_some];rw[yKy (t:=(l,cs,1,())) (by omega) (by omega) (by omega) hnl (by simp only;omega) (by simp only;omega),if_pos hE]
 simp only[bind_some];rw[show (1:Int) * 1=1 from rfl,yQJ e2 (by omega),bifT (by rfl),bifT (by rfl),bifT (y7 e2),bifT (y7 hY),y04 (i:=resN r (l,cs,1,()) * q) (by omega) (by omega),y7 l1]
theorem yJG(a b:Int):eqV ((Ty.int i64).pair ((Ty.int i64).pair Ty.unit)) (a,b,()) (a,b,())=true:=by
 show ((a == a) && ((b == b) && true))=true
 simp
theorem yL4{r:Rec}(h:lowR4 r){l:List Con}(hl:l.length<=4)(h0:denA r l≠0):0<=numX (tks r) (l.map chr) (levF r)/\numX (tks r) (l.map chr) (levF r)<=2000000000:=by
 obtain ⟨d1,d2⟩:=y4S h hl;obtain ⟨_,_,s3,_⟩:=y8E h hl;have hDX:DX (tks r) (l.map chr)=(denA r l,0,()):=by
  obtain ⟨E,g1,_⟩:=gram (tks r) (l.map chr) (by simpa using hl)
  rw[g1]at s3;rw[g1,s3]
 obtain ⟨n1,n2⟩:=y8q (T:=tks r) (v:=l.map chr) (by simpa using hl) (levF r)
 have hL:=y6M (T:=tks r) (v:=l.map chr) (by simpa using hl) (levF r) (lc (List.replicate (l.map chr).length G0) (l.map chr)) (List.replicate (l.map chr).length G0) (by simp) λ t _=>rfl
 have hp:∀ t∈tks r,addX (mulX (DX (tks r) (l.map chr)) (levF r t)) (negX (lc (List.replicate (l.map chr).length G0) (l.map chr) t))=mulX (denA r l,0,()) (levF r t):=λ t _=>by
  rw[yAf,hDX];exact yA (by simp[addX,negX,G0]) (by simp[addX,negX,G0])
 rw[y4d hp hp,y6G,hDX]at hL;rw[hDX]at n2;simp only at hL n2;have hpos:0 < denA r l:=by omega
 rw[mul_assoc]at hL;have h2:=Int.le_of_mul_le_mul_left hL hpos;obtain ⟨F,f1,f2,f3⟩:=yK6 (r:=r) (tks r) λ t ht=>yGM h ht
 have hf:=h.few;rw[f1]at h2;simp only at h2;have h3:denA r l * F<=20736 * 49152:=mul_le_mul d2 (by omega) f2 (by decide)
 refine ⟨?_,by omega⟩
 rcases Int.lt_or_le (numX (tks r) (l.map chr) (levF r)) 0 with hneg|hge
 ·have:=Int.mul_neg_of_pos_of_neg hpos hneg;omega
 ·exact hge
theorem yMK(r:Rec)(l:List Con)(xp:List Int)(ll:l.length < lenMax)(hx:Ty.wf (.arr 2 (.int .i8)) xp):zk_M r l xp=some (true,()):=by
 have hmem:memMax=68719476736:=rfl;have hlm:lenMax=9223372036854775808:=rfl;unfold zk_M;rw[yIP];simp only[bind_some,Bool.not_true,cond_false];obtain ⟨b,f1,f2⟩:=ySp r l ll;rw[f1];simp only[bind_some];cases b with
 |false=>rfl
 |true =>
  obtain ⟨hck,hlv,hnm,hg,l60,l5,hlev⟩:=f2 rfl;obtain ⟨h1,h2,h3,h4⟩:=y8u hck;have hl:=h3.2;have htl:=yQU r;have hnl:∀ n∈l,n.1.length < lenMax:=λ n hn=>by have:=l60 n hn;omega
  obtain ⟨hx3,hxw⟩:=hx;have hxw:∀ y∈xp,-128<=y/\y<=127:=λ y hy=>yUB (hxw y hy)
  have h:lowR4 r:=⟨h1,λ x hx=>yV2 (h1.lev x hx) (hlev x hx).1 (hlev x hx).2,by omega⟩
  obtain ⟨c1,c2⟩:=yJ hck;simp only[Bool.not_true,cond_false];rw[yEZ r (by omega) (by omega),yB2 l (by omega)]
  simp only[bind_some];rw[yOt (by omega) (by omega) (by omega) hnl ll,yOp (by omega) (by omega) (by omega) hnl ll,if_pos hck,if_pos hck]
  simp only[bind_some];unfold anaV lesV;by_cases h0:denA r l=0
  ·rw[if_pos h0,if_pos h0,bifF (by rfl),bifT (by rfl),bifF (by rfl)]
   unfold yDM;rw[bifT (by rfl)]
   rfl
  ·obtain ⟨d1,d2⟩:=y4S h hl;have hn0:=yL4 h hl h0;obtain ⟨A,D,n,a1,a2,a3,a4,a5,a6,a7,a8,a9⟩:=yJC h c2 hl h0;rw[if_neg h0,if_neg h0,yPB h hl,a1,bifF (by rfl),bifF (by rfl)]
   obtain ⟨_,p0,p1,q0,q1⟩:=yNl (Y:=numX (tks r) (l.map chr) (levF r)) hn0.1 (by omega) (show 1<=denA r l by omega) (by omega) (by
    have:=Int.mul_le_mul_of_nonneg_left (show 1<=denA r l by omega) hn0.1
    omega)
   obtain ⟨p,q,hpq⟩:∃ p q,lowR (numX (tks r) (l.map chr) (levF r)) (denA r l)=(p,q,()):=⟨_,_,rfl⟩;rw[hpq]at p0 p1 q0 q1 ⊢;simp only at p0 p1 q0 q1;unfold yDM;rw[bifF (by rfl),bifF (by simp[a2]),bifF (yE (by simp only;omega)),bifF (yE (by simp only;omega)),bifF (yE (by simp only;omega)),bifF (yE (by simp only;omega)),bifF (yE (by simp only;omega)),bifF (yE (by simp only;omega)),bifT (y7 (show A.length < lenMax by omega)),
    y2E (λ s _=>s) A 0 () (λ i e s he=>by
     have hz:=a3 e he;unfold bd at hz;unfold yKV;have hm:decide (imax (imax (imax e.1 (i64.wrap (0 - e.1))) e.2.1) (i64.wrap (0 - e.2.1)) > 1099511627776)=false:=yE λ hh=>(yEE e 1099511627776 (by unfold fits;omega)).1 hh (yAa (by unfold bd;omega))
     have hm2:decide ((if e.2.1 < e.1 then e.2.1 else e.1) < -1099511627776)=false:=yE (by split<;>omega)
     exact (bifF hm).trans (bifF hm2))]
   show yGp l r xp A l A D p q=_
   unfold yGp;rw[yDI h1];simp only[bind_some];rw[bifT (y7 (show (l.length:Int)<=9223372036854775807 by omega)),show ((l.length:Int) - 0).toNat=l.length by omega]
   have hA:l.length=A.length:=a2.symm;refine (y9n (body:=λ i__ s__=>yFd l r xp (tks r) (l.length:Int) l A D p q i__) (fin:=λ s__=>yGl l r xp (tks r) (l.length:Int) l A D p q) l.length (λ j hj=>by
    unfold yFd;rw[bifT (y7 (show (tks r).length < lenMax by omega))]
    refine (yG0 h (by5:=xp) (ticks:=tks r) (t137:=(l.length:Int)) (t138:=(j:Int)) (t141:=tks r) (c0:=l) (p:=p) (q:=q) hA hl h4 a3 (by omega) hj (tks r) 0 (0,0) 0 (λ t ht=>ht) (by unfold bd;simp) (by decide) (by omega)).trans ?_
    have e:addX ((0:Int),(0:Int),()) (ip (tks r) (chr l[j]) (y0W r l A D))=G0:=by
     rw[yLP hl a5 a8 j hj];exact y08 _
    show y9k l r xp (tks r) (j:Int) (l.length:Int) (j:Int) (tks r) l A D p q (addX ((0:Int),(0:Int),()) (ip (tks r) (chr l[j]) (y0W r l A D))).1 (addX ((0:Int),(0:Int),()) (ip (tks r) (chr l[j]) (y0W r l A D))).2.1=_
    rw[e];rfl) l.length 0 (by omega)).trans ?_
   have hs89:y8D l r xp l A D p q=some (true,()):=by
    unfold y8D;rw[yB2 l (by omega)]
    simp only[bind_some];rw[bifT (y7 (show A.length < lenMax by omega))]
    exact yNu hx3 hxw a4.1 (by omega) a3 (λ cs k1 k2=>ySd h hck hl hnm hlv hg hnl h0 hpq hn0 cs (by omega) k2) A [] [] rfl rfl (λ y hy=>by cases hy)
   unfold yGl;rw[yEZ r (by omega) (by omega),yB2 l (by omega)]
   simp only[bind_some];have hnum:yQi A=some (A,()):=by
    unfold yQi yQh;rw[bifT (y7 (by omega))]
   rw[hnum];simp only[bind_some];rw[yKy (t:=(l,A,D,())) (by omega) (by omega) (by omega) hnl (by simp only;omega) (by simp only;omega)]
   simp only[bind_some];have hE:resE r (l,A,D,())=if y2o (l,A,D,())then 0 else 4:=by
    unfold resE;rw[c1,yQ,a7,yQ]
   by_cases hs:y2o (l,A,D,())=true
   ·rw[if_pos hs]at hE;obtain ⟨t1,t2⟩:=yDe.1 hs;obtain ⟨e1,e2,e3⟩:=yOc h (l:=l) (a:=A) (D:=D) (M:=4194304) hA hl (λ z hz=>y7S (t1 z hz)) (by decide) (by omega)
    have hX:64 * D+4 * 4194304<=20000000:=by omega
    have hXX:(64 * D+4 * 4194304) * (64 * D+4 * 4194304)<=20000000 * 20000000:=mul_le_mul hX hX (by omega) (by decide)
    have hDD:D * D<=4096 * 4096:=mul_le_mul t2 t2 (by omega) (by decide)
    have hDD1:1 * 1<=D * D:=mul_le_mul a4.1 a4.1 (by decide) (by omega)
    have hN:n * n * resN r (l,A,D,())=denA r l * numX (tks r) (l.map chr) (levF r):=by
     obtain ⟨n1,_⟩:=y8q (T:=tks r) (v:=l.map chr) (by simpa using hl) (levF r)
     rw[show y1K (tks r) (l.map chr) (levF r)=λ t=>mulX (n,0,()) (y0W r l A D t)from funext a8,y6G,<- e1,a9]at n1
     exact n1
    have hN2:n * resN r (l,A,D,())=D * numX (tks r) (l.map chr) (levF r):=by
     rw[<- a6,mul_assoc,mul_assoc]at hN;exact Int.eq_of_mul_eq_mul_left (by omega) hN
    have hlow:lowR (resN r (l,A,D,())) (D * D)=(p,q,()):=by
     rw[<- hpq];refine yN7 e2 (by omega) (by omega) (by omega) hn0.1 (by omega) (by omega) (by omega) ?_
     rw[<- a6];grind
    rw[if_pos hE];simp only;rw[hlow,bifT (by rfl),bifF (by rw[yJG];rfl),bifF (by rfl)]
    exact hs89
   ·rw[if_neg hs]at hE;rw[if_neg (by rw[hE];decide),hE]
    simp only;rw[bifF (by rfl),bifT (by rfl),bifF (by rfl)]
    exact hs89
end Go.Tw
