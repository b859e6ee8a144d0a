import Derived.Test.YtkfigfhjbejikaaGreatDoorPB
set_option linter.all false
set_option maxRecDepth 100000
open Int (le_refl mul_nonneg neg_mul one_mul)
namespace Go.Tw
open Go.Vx Go.Vx.B Go.Proofs
structure EndsOK (x:Lnk):Prop where
 bar:x.1=kB->x.2.1=-1/\x.2.2.1≠-1
 leak:x.1=kL->x.2.1=-1/\x.2.2.1≠-1
 outf:x.1=kO->x.2.1≠-1/\x.2.2.1=-1
 rest:x.1≠kB->x.1≠kL->x.1≠kO->x.2.1≠-1/\x.2.2.1≠-1
theorem yCK{n N:Int}(h:fitN n N true=true):n=-1:=by
 unfold fitN at h;simpa using h
theorem y2q{n N:Int}(h:fitN n N false=true):n≠-1:=by
 unfold fitN at h;simp at h;omega
theorem yFN{x:Lnk}{N:Int}(h:y11 x N=0):EndsOK x:=by
 obtain ⟨k,f,t,a,r,u⟩:=x;unfold y11 at h;simp only at h;have key:∀ (s u:Bool) (m:Int),(bif fitN f N s && fitN t N u then m else 10)=0->fitN f N s=true/\fitN t N u=true:=by
  intro s u m hm;cases hp:(fitN f N s && fitN t N u)with
  |false=>rw[hp]at hm;cases hm
  |true=>simpa using hp
 rcases y29 k with rfl|rfl|rfl|rfl|rfl|⟨h1,h2,h3,h4,h5⟩
 ·rw[show y0b kB=some (true,false) by decide]at h
  obtain ⟨g1,g2⟩:=key _ _ _ h;exact ⟨λ _=>⟨yCK g1,y2q g2⟩,λ e=>absurd (show kB=kL from e) (by decide),λ e=>absurd (show kB=kO from e) (by decide),λ e _ _=>absurd rfl e⟩
 ·rw[show y0b kL=some (true,false) by decide]at h
  obtain ⟨g1,g2⟩:=key _ _ _ h;exact ⟨λ e=>absurd (show kL=kB from e) (by decide),λ _=>⟨yCK g1,y2q g2⟩,λ e=>absurd (show kL=kO from e) (by decide),λ _ e _=>absurd rfl e⟩
 ·rw[show y0b kO=some (false,true) by decide]at h
  obtain ⟨g1,g2⟩:=key _ _ _ h;exact ⟨λ e=>absurd (show kO=kB from e) (by decide),λ e=>absurd (show kO=kL from e) (by decide),λ _=>⟨y2q g1,yCK g2⟩,λ _ _ e=>absurd rfl e⟩
 ·rw[show y0b kP=some (false,false) by decide]at h
  obtain ⟨g1,g2⟩:=key _ _ _ h;exact ⟨λ e=>absurd (show kP=kB from e) (by decide),λ e=>absurd (show kP=kL from e) (by decide),λ e=>absurd (show kP=kO from e) (by decide),λ _ _ _=>⟨y2q g1,y2q g2⟩⟩
 ·rw[show y0b kW=some (false,false) by decide]at h
  obtain ⟨g1,g2⟩:=key _ _ _ h;exact ⟨λ e=>absurd (show kW=kB from e) (by decide),λ e=>absurd (show kW=kL from e) (by decide),λ e=>absurd (show kW=kO from e) (by decide),λ _ _ _=>⟨y2q g1,y2q g2⟩⟩
 ·simp[y0b,h1,h2,h3,h4,h5]at h
theorem y36{b:Bas}(h:y0D b=0):∀ x∈b.2.1,EndsOK x:=by
 obtain ⟨h1,h2⟩:=ya h;by_cases h16:16 < b.2.1.length
 ·rw[yA h16]at h2;cases h2
 ·rw[yH h16,cond_false]at h2;exact λ x hx=>yFN (y07 h2 _ (List.mem_map.2 ⟨x,hx,rfl⟩))
theorem yIt{a r k:Int}(hr:0 < r)(h1:k * r<=a)(h2:a < k * r+r):a / r=k:=by
 apply Int.le_antisymm
 ·exact Int.lt_add_one_iff.1 (Int.ediv_lt_of_lt_mul hr (by rw[Int.add_mul,one_mul];exact h2))
 ·exact Int.le_ediv_of_mul_le hr h1
theorem y5F{a b r:Int}(hr:1<=r)(h:a<=b):a / r<=b / r:=Int.ediv_le_ediv (by omega) h
theorem yBU{a b r:Int}(hr:1<=r)(h:a<=b):b / r<=a / r+(b - a):=by
 have h1:b<=a+(b - a) * r:=by
  have:(b - a) * 1<=(b - a) * r:=Int.mul_le_mul_of_nonneg_left hr (by omega)
  omega
 have h2:=y5F hr h1;rw[Int.add_mul_ediv_right a (b - a) (by omega)]at h2
 exact h2
theorem yKa(r:Int):(0:Int) / r=0:=Int.zero_ediv r
theorem yLZ{a r:Int}(ha1:-1000000000<=a)(ha2:a<=1000000000)(hr:1<=r):flo a r=a / r:=by
 by_cases h0:0<=a
 ·have e:a.tdiv r=a / r:=Int.tdiv_eq_ediv_of_nonneg h0;have q1:0<=a / r:=Int.ediv_nonneg h0 (by omega)
  have q2:a / r<=a:=Int.ediv_le_self r h0;have q3:a / r * r<=a:=Int.ediv_mul_le a (by omega)
  have q4:0<=a / r * r:=mul_nonneg q1 (by omega)
  unfold flo;rw[e,ym (n:=a / r) (by omega) (by omega),ym (n:=a / r * r) (by omega) (by omega),bifF (yH (by omega))]
 ·obtain ⟨m,rfl⟩:∃ m,a=-m:=⟨-a,by omega⟩
  have e:(-m).tdiv r=-(m / r):=by rw[Int.neg_tdiv,Int.tdiv_eq_ediv_of_nonneg (by omega)]
  have q1:0<=m / r:=Int.ediv_nonneg (by omega) (by omega)
  have q2:m / r<=m:=Int.ediv_le_self r (by omega)
  have q3:m / r * r<=m:=Int.ediv_mul_le m (by omega)
  have q4:0<=m / r * r:=mul_nonneg q1 (by omega)
  have q5:m < m / r * r+r:=by
   have:=Int.lt_ediv_add_one_mul_self m (show 0 < r by omega)
   rw[Int.add_mul,one_mul]at this;exact this
  unfold flo;rw[e,ym (n:=-(m / r)) (by omega) (by omega),neg_mul,ym (n:=-(m / r * r)) (by omega) (by omega)]
  generalize hq:m / r=q at *;by_cases hlt:-(q * r) > -m
  ·rw[bifT (yA hlt),ym (by omega) (by omega)]
   exact (yIt (by omega) (by rw[Int.sub_mul,neg_mul,one_mul];omega) (by rw[Int.sub_mul,neg_mul,one_mul];omega)).symm
  ·rw[bifF (yH hlt)];exact (yIt (by omega) (by rw[neg_mul];omega) (by rw[neg_mul];omega)).symm
theorem y6c{a t:Int}(h1:1<=a)(h2:a<=1000)(h3:-1024<=t)(h4:t<=1024):-1024000<=a * t/\a * t<=1024000:=by
 have e1:a * t<=a * 1024:=Int.mul_le_mul_of_nonneg_left h4 (by omega)
 have e2:a * (-1024)<=a * t:=Int.mul_le_mul_of_nonneg_left h3 (by omega)
 omega
def y4D(x:Lnk)(vol area tide:Int)(opn:Bool):Int:=
 if x.1=kB then (bif opn then imax (-vol) ((area * tide - vol) / x.2.2.2.2.1)else 0)
 else if x.1=kL then imax 0 ((area * tide - vol) / x.2.2.2.2.1)
 else if x.1=kO then imax 0 ((vol - area * imax tide x.2.2.2.1) / x.2.2.2.2.1)
 else if x.1=kP then imax 0 (imin x.2.2.2.2.1 (vol - area * x.2.2.2.1))
 else imax 0 ((vol - area * x.2.2.2.1) / x.2.2.2.2.1)
theorem yBe{a b c:Int}(h1:a<=c)(h2:b<=c):imax a b<=c:=by unfold imax;split<;>omega
theorem y6Z(a b:Int):a<=imax a b:=by unfold imax;split<;>omega
theorem y9N(a b:Int):b<=imax a b:=by unfold imax;split<;>omega
theorem yKn{x:Lnk}{N:Nat}(hx:LinkOK x N){vol area tide:Int}(hv1:0<=vol)(hv2:vol<=100000000)(ha1:1<=area)(ha2:area<=1000)(ht1:-1024<=tide)(ht2:tide<=1024)(opn:Bool) :
  y6d x vol area tide opn=y4D x vol area tide opn:=by
 have hr:=hx.rate;have ha:=hx.at_;obtain ⟨m1,m2⟩:=y6c ha1 ha2 ht1 ht2;obtain ⟨n1,n2⟩:=y6c ha1 ha2 (show -1024<=x.2.2.2.1 by omega) ha.2
 obtain ⟨k1,k2⟩:=y6c ha1 ha2 (show -1024<=imax tide x.2.2.2.1 by have:=y9N tide x.2.2.2.1;omega) (yBe ht2 ha.2)
 unfold y6d y4D;rw[ym (n:=0 - vol) (by omega) (by omega),ym (n:=area * tide) (by omega) (by omega),ym (n:=area * tide - vol) (by omega) (by omega),ym (n:=area * x.2.2.2.1) (by omega) (by omega),
  ym (n:=vol - area * x.2.2.2.1) (by omega) (by omega),ym (n:=area * imax tide x.2.2.2.1) (by omega) (by omega),ym (n:=vol - area * imax tide x.2.2.2.1) (by omega) (by omega),
  yLZ (a:=area * tide - vol) (by omega) (by omega) hr.1,yLZ (a:=vol - area * imax tide x.2.2.2.1) (by omega) (by omega) hr.1,yLZ (a:=vol - area * x.2.2.2.1) (by omega) (by omega) hr.1,show 0 - vol=-vol by omega]
theorem yLE{x:Lnk}{N:Nat}(hx:LinkOK x N)(hk:x.1=kB\/x.1=kL){vol vol' area tide tide':Int}(hv:0<=vol)(hvv:vol<=vol')(ha1:1<=area)(ht:tide<=tide')(opn:Bool) :
  0<=vol+y4D x vol area tide opn/\vol+y4D x vol area tide opn<=vol'+y4D x vol' area tide' opn:=by
 have hr:=hx.rate;have e1:area * tide<=area * tide':=Int.mul_le_mul_of_nonneg_left ht (by omega)
 have e2:=y5F hr.1 (show area * tide - vol'<=area * tide' - vol' by omega)
 have e3:=yBU hr.1 (show area * tide - vol'<=area * tide - vol by omega)
 have hBL:kL≠kB:=by decide
 rcases hk with hk|hk
 ·unfold y4D;rw[if_pos hk,if_pos hk];cases opn with
  |false=>simp only[cond_false];omega
  |true =>
   simp only[cond_true];unfold imax;split<;>split<;>omega
 ·have hB:¬ x.1=kB:=by rw[hk];exact hBL
  unfold y4D;rw[if_neg hB,if_neg hB,if_pos hk,if_pos hk];unfold imax;split<;>split<;>omega
theorem yFq{x:Lnk}{N:Nat}(hx:LinkOK x N)(hB:x.1≠kB)(hL:x.1≠kL){vol vol' area tide tide':Int}(hv:0<=vol)(hvv:vol<=vol')(ha1:1<=area)(ht:tide<=tide')(opn:Bool) :
  0<=y4D x vol area tide opn/\0<=vol - y4D x vol area tide opn/\vol - y4D x vol area tide opn<=vol' - y4D x vol' area tide' opn/\(x.1≠kO->y4D x vol area tide opn<=y4D x vol' area tide' opn):=by
 have hr:=hx.rate;have ha:=hx.at_;have hat:0<=area * x.2.2.2.1:=mul_nonneg (by omega) ha.1
 unfold y4D;rw[if_neg hB,if_neg hB,if_neg hL,if_neg hL];have dv:∀ L,0<=L->(vol - L) / x.2.2.2.2.1<=vol:=by
  intro L hL;by_cases h0:0<=vol - L
  ·have:=Int.ediv_le_self x.2.2.2.2.1 h0;omega
  ·have:=y5F hr.1 (show vol - L<=0 by omega)
   rw[yKa]at this;omega
 by_cases hO:x.1=kO
 ·rw[if_pos hO,if_pos hO];have i1:imax tide x.2.2.2.1<=imax tide' x.2.2.2.1:=yBe (by have:=y6Z tide' x.2.2.2.1;omega) (y9N _ _)
  have e1:area * imax tide x.2.2.2.1<=area * imax tide' x.2.2.2.1:=Int.mul_le_mul_of_nonneg_left i1 (by omega)
  have e0:0<=area * imax tide x.2.2.2.1:=mul_nonneg (by omega) (by have:=y9N tide x.2.2.2.1;omega)
  generalize area * imax tide x.2.2.2.1=L at *;generalize area * imax tide' x.2.2.2.1=L' at *;have e2:=yBU hr.1 (show vol - L<=vol' - L by omega)
  have e3:=y5F hr.1 (show vol' - L'<=vol' - L by omega)
  have e4:=dv L e0;refine ⟨y6Z _ _,?_,?_,λ h=>absurd hO h⟩
  ·unfold imax;split<;>omega
  ·unfold imax;split<;>split<;>omega
 ·rw[if_neg hO,if_neg hO];by_cases hP:x.1=kP
  ·rw[if_pos hP,if_pos hP];refine ⟨y6Z _ _,?_,?_,λ _=>?_⟩<;>unfold imax imin
   ·repeat' split
    all_goals omega
   ·repeat' split
    all_goals omega
   ·repeat' split
    all_goals omega
  ·rw[if_neg hP,if_neg hP];have e2:=yBU hr.1 (show vol - area * x.2.2.2.1<=vol' - area * x.2.2.2.1 by omega)
   have e3:=y5F hr.1 (show vol - area * x.2.2.2.1<=vol' - area * x.2.2.2.1 by omega)
   have e4:=dv _ hat;refine ⟨y6Z _ _,?_,?_,λ _=>?_⟩<;>unfold imax
   ·split<;>omega
   ·split<;>split<;>omega
   ·split<;>split<;>omega
theorem yHq{x:Lnk}{N:Nat}(hx:LinkOK x N){vol area tide:Int}(hv1:0<=vol)(hv2:vol<=100000000)(ha1:1<=area)(ha2:area<=1000)(ht1:-1024<=tide)(ht2:tide<=1024)(opn:Bool) :
  -100000000<=y4D x vol area tide opn/\y4D x vol area tide opn<=200000000:=by
 by_cases hk:x.1=kB\/x.1=kL
 ·obtain ⟨h1,_⟩:=yLE hx hk hv1 (le_refl vol) ha1 (le_refl tide) opn;refine ⟨by omega,?_⟩
  obtain ⟨m1,m2⟩:=y6c ha1 ha2 ht1 ht2;have hd:=y5F hx.rate.1 (show area * tide - vol<=1024000 by omega)
  have hd2:=Int.ediv_le_self (a:=1024000) x.2.2.2.2.1 (by omega)
  have hBL:kL≠kB:=by decide
  unfold y4D;rcases hk with hk|hk
  ·rw[if_pos hk];cases opn with
   |false=>simp
   |true=>exact yBe (by omega) (by omega)
  ·have hB:¬ x.1=kB:=by rw[hk];exact hBL
   rw[if_neg hB,if_pos hk];exact yBe (by omega) (by omega)
 ·obtain ⟨h1,h2,_,_⟩:=yFq hx (λ h=>hk (.inl h)) (λ h=>hk (.inr h)) hv1 (le_refl vol) ha1 (le_refl tide) opn
  omega
def gv(out:List Int)(i:Nat):Int:=out.getD i 0
def Fit(N:Nat)(out:List Int):Prop:=out.length=N/\∀ i,0<=gv out i/\gv out i<=100000000
def Le(u w:List Int):Prop:=∀ i,gv u i<=gv w i
theorem yJG{out:List Int}{i:Nat}(h:out.length<=i):gv out i=0:=by
 unfold gv;simp[List.getD,List.getElem?_eq_none h]
theorem yL5{out:List Int}{i:Nat}(h:i < out.length):gv out i∈out:=by
 unfold gv;simp[List.getD,List.getElem?_eq_getElem h]
theorem y3P(out:List Int):y18 out=true ↔ ∀ i,gv out i<=100000000:=by
 unfold y18 maxV;rw[List.all_eq_true];constructor
 ·intro h i;by_cases hi:i < out.length
  ·simpa using h _ (yL5 hi)
  ·rw[yJG (by omega)];omega
 ·intro h x hx;obtain ⟨i,hi,rfl⟩:=List.getElem_of_mem hx;have:=h i;unfold gv at this;simp only[List.getD,List.getElem?_eq_getElem hi,Option.getD_some]at this;simpa using this
theorem yQj{v:List Int}{N:Nat}(hl:v.length=N)(h:∀ x∈v,0<=x/\x<=100000000):Fit N v:=by
 refine ⟨hl,λ i=>?_⟩
 by_cases hi:i < v.length
 ·exact h _ (yL5 hi)
 ·rw[yJG (by omega)];omega
theorem yF3{v:List Int}{N:Nat}(h:Fit N v):∀ x∈v,0<=x/\x<=100000000:=by
 intro x hx;obtain ⟨i,hi,rfl⟩:=List.getElem_of_mem hx;have:=h.2 i;unfold gv at this;simpa only[List.getD,List.getElem?_eq_getElem hi,Option.getD_some]using this
theorem yCs{out:List Int}{j n:Int}(hj:j=-1\/(0<=j/\j < out.length))(i:Nat):gv (y0O out j n) i=if (i:Int)=j then wr (gv out i+n)else gv out i:=by
 unfold y0O;rcases hj with rfl|⟨h0,h1⟩
 ·rw[if_pos rfl,if_neg (by omega)]
 ·rw[if_neg (by omega)]
  by_cases hi:(i:Int)=j
  ·subst hi;rw[if_pos rfl];unfold gv;have:i < out.length:=by omega
   simp[List.getD,this]
  ·rw[if_neg hi];unfold gv;have:j.toNat≠i:=by omega
   simp[List.getD,List.getElem?_set_ne this]
theorem yQ9{b:Bas}{c:Cnd}{x:Lnk}{out:List Int}(hx:LinkOK x b.1.length)(hl:out.length=b.1.length)(i:Nat) :
  gv (mv b c x out) i=if (i:Int)=x.2.2.1 then wr (gv out i+fl b c x out)else if (i:Int)=x.2.1 then wr (gv out i+wr (0 - fl b c x out))else gv out i:=by
 unfold mv;rw[yCs (by rw[y0A,hl];exact hx.to_),yCs (by rw[hl];exact hx.from_)]
 have:=hx.ne;split
 ·rw[if_neg (by omega)]
 ·rfl
def flP(b:Bas)(c:Cnd)(x:Lnk)(out:List Int):Int:=y4D x (gv out (atL x).toNat) (b.1.getD (atL x).toNat ([],0,0,())).2.1 c.1 c.2.1
def y5M(c:Cnd):Prop:=-1024<=c.1/\c.1<=1024
theorem yFP{b:Bas}(hb:BasOK b){x:Lnk}(hx:LinkOK x b.1.length):1<=(b.1.getD (atL x).toNat ([],0,0,())).2.1/\(b.1.getD (atL x).toNat ([],0,0,())).2.1<=1000:=by
 have h:=yGH hx;have hi:(atL x).toNat < b.1.length:=by omega
 have e:b.1.getD (atL x).toNat ([],0,0,())=b.1[(atL x).toNat]:=by simp[List.getD,List.getElem?_eq_getElem hi]
 rw[e];exact hb.area _ (List.getElem_mem hi)
theorem yOA{b:Bas}(hb:BasOK b){c:Cnd}(hc:y5M c){x:Lnk}(hx:LinkOK x b.1.length){out:List Int}(hf:Fit b.1.length out):fl b c x out=flP b c x out:=by
 obtain ⟨a1,a2⟩:=yFP hb hx;obtain ⟨v1,v2⟩:=hf.2 (atL x).toNat;exact yKn hx v1 v2 a1 a2 hc.1 hc.2 _
theorem yIo{b:Bas}(hb:BasOK b){c:Cnd}(hc:y5M c){x:Lnk}(hx:LinkOK x b.1.length){out:List Int}(hf:Fit b.1.length out):-100000000<=flP b c x out/\flP b c x out<=200000000:=by
 obtain ⟨a1,a2⟩:=yFP hb hx;obtain ⟨v1,v2⟩:=hf.2 (atL x).toNat;exact yHq hx v1 v2 a1 a2 hc.1 hc.2 _
theorem yBi{b:Bas}(hb:BasOK b){c:Cnd}(hc:y5M c){x:Lnk}(hx:LinkOK x b.1.length){out:List Int}(hf:Fit b.1.length out)(i:Nat) :
  gv (mv b c x out) i=if (i:Int)=x.2.2.1 then gv out i+flP b c x out else if (i:Int)=x.2.1 then gv out i - flP b c x out else gv out i:=by
 obtain ⟨f1,f2⟩:=yIo hb hc hx hf;obtain ⟨v1,v2⟩:=hf.2 i;rw[yQ9 hx hf.1,yOA hb hc hx hf];split
 ·exact ym (by omega) (by omega)
 ·split
  ·rw[ym (n:=0 - flP b c x out) (by omega) (by omega),ym (by omega) (by omega)];omega
  ·rfl
theorem yIa{b:Bas}(hb:BasOK b){c c':Cnd}(hc:y5M c)(hc':y5M c')(ht:c.1<=c'.1)(ho:c.2.1=c'.2.1){x:Lnk}(hx:LinkOK x b.1.length)(he:EndsOK x){out out':List Int}
  (hf:Fit b.1.length out) (hf':Fit b.1.length out') (hle:Le out out'):Le (mv b c x out) (mv b c' x out')/\∀ i,0<=gv (mv b c x out) i:=by
 obtain ⟨a1,a2⟩:=yFP hb hx;have v1:=(hf.2 (atL x).toNat).1;have hat:=yGH hx;have hvv:=hle (atL x).toNat;have hne:=hx.ne;by_cases hk:x.1=kB\/x.1=kL
 ·obtain ⟨g1,g2⟩:=yLE hx hk v1 hvv a1 ht c.2.1;have hend:x.2.1=-1/\x.2.2.1≠-1:=by
   rcases hk with h|h
   ·exact he.bar h
   ·exact he.leak h
  have hal:atL x=x.2.2.1:=by unfold atL;rw[if_pos hend.1]
  have key:∀ i:Nat,0<=gv (mv b c x out) i/\gv (mv b c x out) i<=gv (mv b c' x out') i:=by
   intro i;rw[yBi hb hc hx hf,yBi hb hc' hx hf'];by_cases hi:(i:Int)=x.2.2.1
   ·rw[if_pos hi,if_pos hi];have:i=(atL x).toNat:=by omega
    subst this;unfold flP;rw[<- ho];exact ⟨g1,g2⟩
   ·rw[if_neg hi,if_neg hi,if_neg (by omega),if_neg (by omega)]
    exact ⟨(hf.2 i).1,hle i⟩
  exact ⟨λ i=>(key i).2,λ i=>(key i).1⟩
 ·have hB:x.1≠kB:=λ h=>hk (.inl h)
  have hL:x.1≠kL:=λ h=>hk (.inr h)
  obtain ⟨g0,g1,g2,g3⟩:=yFq hx hB hL v1 hvv a1 ht c.2.1;have hfr:x.2.1≠-1:=by
   by_cases hO:x.1=kO
   ·exact (he.outf hO).1
   ·exact (he.rest hB hL hO).1
  have hal:atL x=x.2.1:=by unfold atL;rw[if_neg hfr]
  have key:∀ i:Nat,0<=gv (mv b c x out) i/\gv (mv b c x out) i<=gv (mv b c' x out') i:=by
   intro i;rw[yBi hb hc hx hf,yBi hb hc' hx hf'];by_cases hi:(i:Int)=x.2.2.1
   ·rw[if_pos hi,if_pos hi];have hO:x.1≠kO:=λ h=>by have:=(he.outf h).2;omega
    have g3:=g3 hO;have:=(hf.2 i).1;have:=hle i;unfold flP;rw[<- ho];omega
   ·rw[if_neg hi,if_neg hi];by_cases hi2:(i:Int)=x.2.1
    ·rw[if_pos hi2,if_pos hi2];have:i=(atL x).toNat:=by omega
     subst this;unfold flP;rw[<- ho];exact ⟨g1,g2⟩
    ·rw[if_neg hi2,if_neg hi2];exact ⟨(hf.2 i).1,hle i⟩
  exact ⟨λ i=>(key i).2,λ i=>(key i).1⟩
theorem yLY{b:Bas}(hb:BasOK b){c:Cnd}(hc:y5M c){x:Lnk}(hx:LinkOK x b.1.length)(he:EndsOK x){out:List Int}(hf:Fit b.1.length out)(h8:y18 (mv b c x out)=true):Fit b.1.length (mv b c x out):=
 ⟨by rw[y2v];exact hf.1,λ i=>⟨(yIa hb hc hc (le_refl _) rfl hx he hf hf (λ _=>le_refl _)).2 i,(y3P _).1 h8 i⟩⟩
theorem yAj{b:Bas}(hb:BasOK b){c:Cnd}(hc:y5M c):∀ {l:List Lnk} {fs out f o:List Int},(∀ x∈l,LinkOK x b.1.length/\EndsOK x)->Fit b.1.length out->y34 b c l fs out=some (f,o)->Fit b.1.length o
 |[],fs,out,f,o,_,hf,h=>by simp only[y34,Option.some.injEq,Prod.mk.injEq]at h;obtain ⟨rfl,rfl⟩:=h;exact hf
 |x::l,fs,out,f,o,hl,hf,h=>by
  simp only[y34]at h;split at h
  ·rename_i h8;exact yAj hb hc (λ y hy=>hl y (by simp[hy])) (yLY hb hc (hl x (by simp)).1 (hl x (by simp)).2 hf h8) h
  ·cases h
theorem y8u{b:Bas}(hb:BasOK b){c c':Cnd}(hc:y5M c)(hc':y5M c')(ht:c.1<=c'.1)(ho:c.2.1=c'.2.1):∀ {l:List Lnk} {fs fs' out out' f' o':List Int},(∀ x∈l,LinkOK x b.1.length/\EndsOK x) ->
  Fit b.1.length out->Fit b.1.length out'->Le out out'->y34 b c' l fs' out'=some (f',o')->∃ f o,y34 b c l fs out=some (f,o)/\Le o o'
 |[],fs,fs',out,out',f',o',_,_,_,hle,h=>by simp only[y34,Option.some.injEq,Prod.mk.injEq]at h;obtain ⟨rfl,rfl⟩:=h;exact ⟨fs,out,rfl,hle⟩
 |x::l,fs,fs',out,out',f',o',hl,hf,hf',hle,h=>by
  obtain ⟨hx,he⟩:=hl x (by simp)
  simp only[y34]at h ⊢;split at h
  ·rename_i h8;obtain ⟨k1,k2⟩:=yIa hb hc hc' ht ho hx he hf hf' hle;have h8':y18 (mv b c x out)=true:=(y3P _).2 λ i=>Int.le_trans (k1 i) ((y3P _).1 h8 i)
   rw[if_pos h8'];exact y8u hb hc hc' ht ho (λ y hy=>hl y (by simp[hy])) (yLY hb hc hx he hf h8') (yLY hb hc' hx he hf' h8) k1 h
  ·cases h
theorem y59:∀ (v l:List Int) (i:Nat),v.length=l.length->(∀ x∈v,0<=x/\x<=100000000)->(∀ x∈l,0<=x/\x<=100000)->gv (y0G v l) i=gv v i+gv l i
 |[],[],i,_,_,_=>rfl
 |x::v,n::l,0,_,hv,hl=>by
  have h1:=hv x (by simp)
  have h2:=hl n (by simp)
  show wr (x+n)=x+n
  exact ym (by omega) (by omega)
 |x::v,n::l,i+1,h,hv,hl=>y59 v l i (by simpa using h) (λ y hy=>hv y (by simp[hy])) (λ y hy=>hl y (by simp[hy]))
 |[],_::_,_,h,_,_=>by simp at h
 |_::_,[],_,h,_,_=>by simp at h
structure CondOK (b:Bas) (c:Cnd):Prop where
 tide:y5M c
 len:c.2.2.1.length=b.1.length
 flow:∀ x∈c.2.2.1,0<=x/\x<=100000
theorem y1M{b:Bas}{c:Cnd}(h:yBF b c=0):CondOK b c:=by
 obtain ⟨h1,h2,h3⟩:=yEu h;exact ⟨h1,h2,h3⟩
theorem yNd{b:Bas}{c:Cnd}(h:CondOK b c)(i:Nat):0<=gv c.2.2.1 i/\gv c.2.2.1 i<=100000:=by
 by_cases hi:i < c.2.2.1.length
 ·exact h.flow _ (yL5 hi)
 ·rw[yJG (by omega)];omega
theorem y71{b:Bas}{v:List Int}{c:Cnd}(hv:Fit b.1.length v)(hc:CondOK b c)(h8:y18 (y0G v c.2.2.1)=true):Fit b.1.length (y0G v c.2.2.1):=by
 refine ⟨by rw[y1u _ _ (by rw[hv.1,hc.len])];exact hv.1,λ i=>⟨?_,(y3P _).1 h8 i⟩⟩
 rw[y59 v _ i (by rw[hv.1,hc.len]) (yF3 hv) hc.flow]
 have:=(hv.2 i).1;have:=(yNd hc i).1;omega
theorem y4G{b:Bas}(hb:BasOK b)(he:∀ x∈b.2.1,EndsOK x){v:List Int}{c:Cnd}(hv:Fit b.1.length v)(hc:CondOK b c){f o:List Int}(h:y2X b v c=some (f,o)):Fit b.1.length o:=by
 rw[y86 b hb v c hv.1 hc.len]at h;unfold y8T at h;split at h
 ·rename_i h8;exact yAj hb hc.tide (λ x hx=>⟨hb.link x hx,he x hx⟩) (y71 hv hc h8) h
 ·cases h
structure CLe (c c':Cnd):Prop where
 tide:c.1<=c'.1
 opn:c.2.1=c'.2.1
 flow:Le c.2.2.1 c'.2.2.1
theorem yHs{b:Bas}(hb:BasOK b)(he:∀ x∈b.2.1,EndsOK x){v v':List Int}{c c':Cnd}(hv:Fit b.1.length v)(hv':Fit b.1.length v')(hc:CondOK b c)(hc':CondOK b c')(hle:Le v v')(hcl:CLe c c')
  {f' o':List Int} (h:y2X b v' c'=some (f',o')):∃ f o,y2X b v c=some (f,o)/\Le o o':=by
 rw[y86 b hb v' c' hv'.1 hc'.len]at h;rw[y86 b hb v c hv.1 hc.len];unfold y8T at h ⊢;split at h
 ·rename_i h8;have hin:Le (y0G v c.2.2.1) (y0G v' c'.2.2.1):=by
   intro i;rw[y59 v _ i (by rw[hv.1,hc.len]) (yF3 hv) hc.flow,y59 v' _ i (by rw[hv'.1,hc'.len]) (yF3 hv') hc'.flow]
   have:=hle i;have:=hcl.flow i;omega
  have h8':y18 (y0G v c.2.2.1)=true:=(y3P _).2 λ i=>Int.le_trans (hin i) ((y3P _).1 h8 i)
  rw[if_pos h8'];exact y8u hb hc.tide hc'.tide hcl.tide hcl.opn (λ x hx=>⟨hb.link x hx,he x hx⟩) (y71 hv hc h8') (y71 hv' hc' h8) hin h
 ·cases h
theorem yFp{b:Bas}(hb:BasOK b)(he:∀ x∈b.2.1,EndsOK x):∀ {l:List Cnd} {v:List Int} {ps:List (Cnd×List Int×List Int)},Fit b.1.length v->(∀ c∈l,CondOK b c)->runD b v l=some ps ->
  ∀ x∈ps,Fit b.1.length x.2.2
 |[],v,ps,_,_,h=>by simp only[runD,Option.some.injEq]at h;subst h;simp
 |c::l,v,ps,hv,hl,h=>by
  simp only[runD]at h;cases hs:y2X b v c with
  |none=>rw[hs]at h;cases h
  |some y =>
   obtain ⟨f,o⟩:=y;rw[hs]at h;simp only[Option.map_eq_some_iff]at h;obtain ⟨qs,h1,rfl⟩:=h;have ho:=y4G hb he hv (hl c (by simp)) hs
   intro x hx;rcases List.mem_cons.1 hx with rfl|hx
   ·exact ho
   ·exact yFp hb he ho (λ c hc=>hl c (by simp[hc])) h1 x hx
def y47:List (Cnd×List Int×List Int)->List (Cnd×List Int×List Int)->Prop
 |[],[]=>True
 |x::p,y::q=>Le x.2.2 y.2.2/\y47 p q
 |_,_=>False
def y5j:List Cnd->List Cnd->Prop
 |[],[]=>True
 |x::p,y::q=>CLe x y/\y5j p q
 |_,_=>False
theorem y6F{b:Bas}(hb:BasOK b)(he:∀ x∈b.2.1,EndsOK x):∀ {l l':List Cnd} {v v':List Int} {ps':List (Cnd×List Int×List Int)},Fit b.1.length v->Fit b.1.length v'->(∀ c∈l,CondOK b c)->(∀ c∈l',CondOK b c) ->
  Le v v'->y5j l l'->runD b v' l'=some ps'->∃ ps,runD b v l=some ps/\y47 ps ps'
 |[],[],v,v',ps',_,_,_,_,_,_,h=>by simp only[runD,Option.some.injEq]at h;subst h;exact ⟨[],rfl,trivial⟩
 |c::l,c'::l',v,v',ps',hv,hv',hl,hl',hle,hcl,h=>by
  simp only[runD]at h ⊢;cases hs:y2X b v' c' with
  |none=>rw[hs]at h;cases h
  |some y =>
   obtain ⟨f',o'⟩:=y;rw[hs]at h;simp only[Option.map_eq_some_iff]at h;obtain ⟨qs,h1,rfl⟩:=h;obtain ⟨f,o,k1,k2⟩:=yHs hb he hv hv' (hl c (by simp)) (hl' c' (by simp)) hle hcl.1 hs
   obtain ⟨ps,k3,k4⟩:=y6F hb he (y4G hb he hv (hl c (by simp)) k1) (y4G hb he hv' (hl' c' (by simp)) hs) (λ c hc=>hl c (by simp[hc])) (λ c hc=>hl' c (by simp[hc])) k2 hcl.2 h1
   rw[k1];exact ⟨(c,f,o)::ps,by simp only[k3];rfl,k2,k4⟩
 |[],_::_,_,_,_,_,_,_,_,_,hcl,_=>hcl.elim
 |_::_,[],_,_,_,_,_,_,_,_,hcl,_=>hcl.elim
end Go.Tw
