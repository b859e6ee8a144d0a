import Derived.Test.YtpcnkpbpcebokaaGreatDoorBT
import Derived.Test.YtpcnkpbpcebokaaGreatDoorB0
import Derived.Test.YtpcnkpbpcebokaaGreatDoorBS
import Derived.Test.YtpcnkpbpcebokaaGreatDoorLQ
import Derived.Test.YtpcnkpbpcebokaaGreatDoorBA
import Derived.Test.YtpcnkpbpcebokaaGreatDoorLR
set_option linter.all false
section
set_option maxRecDepth 1000000
namespace Go.Tw
open Go.Vx Go.Vx.B Go.Proofs
noncomputable section
abbrev zJ_a:Ty:=.pair t22 .unit
abbrev zJ_r:Ty:=.pair t3 .unit
def zJ_g:G:={ T:=T,E:=[zl_e,zc_e,z0P_e],muts:=[],fz:=[] }
def zJ_k:List (List Nat):=[[0,3],[0,3,5]]
def yQw(n:Nat):Ann:={ keep:=zJ_k,fuel:=n,inl:=[],deep:=0 }
def yGJ(n:Nat)(r0:List (Q3)→Int→Option (Int×Unit))(r6:List (Q3)→Int→Int→Option (Int×Unit))(au:List (Q3))(aq:Int)(aI:Int):Option (Int×Unit) :=
  (bif decide (aI < aq)then (Option.bind (idx au aI) fun v7=>(Option.bind (idx au aq) fun v8=>(bif v7.1==v8.1 then some ((9:Int),())else r6 au aq (IntKind.i64.wrap (aI+1)))))else r0 au (IntKind.i64.wrap (aq+1)))
def y9V(n:Nat)(r0:List (Q3)→Int→Option (Int×Unit))(k:Nat)(au:List (Q3))(aq:Int)(aI:Int):Option (Int×Unit) :=
  iter (fun r y=>yGJ n r0 (fun au aq aI=>r ((au,(aq,(aI,()))),((),()))) y.1.1 y.1.2.1 y.1.2.2.1) k ((au,(aq,(aI,()))),((),()))
def yFg(n:Nat)(r0:List (Q3)→Int→Option (Int×Unit))(ac:List (Q3))(ay:Int):Option (Int×Unit) :=
  (bif decide (ay < (↑ac.length:Int))then (Option.bind (idx ac ay) fun v1=>(Option.bind (zl_M v1.1) fun v2=>(Option.bind (idx ac ay) fun v3=>(Option.bind (idx ac ay) fun v4=>(Option.bind (y70 [v2.1,(zc v3.2.1 (1:Int) (96:Int)).1,(zc v4.2.2.1 (0:Int) (3:Int)).1]) fun v5=>(bif v5.1 != 0 then some (v5.1,())else (y9V n r0 n (ac) (ay) ((0:Int)))))))))else some ((0:Int),()))
def y9R(n:Nat)(k:Nat)(ac:List (Q3))(ay:Int):Option (Int×Unit) :=
  iter (fun r y=>yFg n (fun ac ay=>r ((ac,(ay,())),((),()))) y.1.1 y.1.2.1) k ((ac,(ay,())),((),()))
def zJ_m(n:Nat)(l:List (Q3)):Option (Int×Unit) :=
  (bif (↑l.length:Int)==0 then some ((12:Int),())else (bif decide ((↑l.length:Int) > 4)then some ((5:Int),())else (y9R n n (l) ((0:Int)))))
theorem yXr(n:Nat)(x:zJ_a.den):runF zJ_g (yQw n) Tryz.f32 zJ_a zJ_r x=zJ_m n x.1:=by kernel_rfl
def yE8(au:List (Q3))(aq:Int)(aI:Int):Option (((Int×Unit)⊕Unit)⊕Unit) :=
  (Option.bind (idx au aI) fun v7=>(Option.bind (idx au aq) fun v8=>(bif v7.1==v8.1 then (some (Sum.inl (Sum.inl (((9:Int),())))))else (some (Sum.inr ())))))
def yKK(au:List (Q3))(aq:Int):Option ((Int×Unit)⊕Unit) :=
  (some (Sum.inr ()))
theorem yFN(n:Nat)(hn:big≤n)(r0:List (Q3)→Int→Option (Int×Unit))(au:List (Q3))(aq:Int)(hx:(aq)≤9223372036854775807):LeF (elim some fun (a8:Unit)=>r0 au (IntKind.i64.wrap (aq+1))) (y24 (fun ae a8=>yE8 au aq ae) (fun a8=>yKK au aq) ((aq) - 0).toNat 0 ()) (y9V n r0 n au aq 0):=by
  refine y3u (f:=(elim some fun (a8:Unit)=>r0 au (IntKind.i64.wrap (aq+1)))) (W:=fun aA ae a8=>y9V n r0 aA au aq ae) (body:=(fun ae a8=>yE8 au aq ae)) (fin:=(fun a8=>yKK au aq)) (fun aA ae a8=>?_) hx () n 0 (by decide) (by unfold big at hn;omega)
  show LeF _ _ (yGJ n r0 (y9V n r0 aA) au aq ae)
  exact yA (yE fun v7=>(yE fun v8=>(yA (y7 rfl) (y7 rfl)))) (y0a (y7 rfl))
def yEg(ac:List (Q3))(ay:Int)(v1:Q3):Option ((Int×Unit)⊕Unit) :=
  (Option.bind (zl_M v1.1) fun v2=>(Option.bind (idx ac ay) fun v3=>(Option.bind (idx ac ay) fun v4=>(Option.bind (y70 [v2.1,(zc v3.2.1 (1:Int) (96:Int)).1,(zc v4.2.2.1 (0:Int) (3:Int)).1]) fun v5=>(bif v5.1 != 0 then (some (Sum.inl ((v5.1,()))))else (bif decide ((ay)≤9223372036854775807)then y24 (fun ae a8=>yE8 (ac) (ay) ae) (fun a8=>yKK (ac) (ay)) ((ay) - 0).toNat 0 ()else none))))))
def yJw(ac:List (Q3)):Option (Int×Unit) :=
  (some (((0:Int),())))
theorem yEx(n:Nat)(hn:big≤n)(ac:List (Q3))(hx:List.length (ac) < lenMax):LeF some (yX (fun ae aC a8=>yEg ac ae aC) (fun a8=>yJw ac) 0 (ac) ()) (y9R n n ac 0):=by
  refine yk (f:=some) (W:=fun aA ae a8=>y9R n aA ac ae) (body:=(fun ae aC a8=>yEg ac ae aC)) (fin:=(fun a8=>yJw ac)) (fun aA ae a8=>?_) hx () n (by unfold big at hn;unfold lenMax at hx;omega)
  show LeF _ _ (yFg n (y9R n aA) ac ae)
  exact yA (yE fun v1=>(yE fun v2=>(yE fun v3=>(yE fun v4=>(yE fun v5=>(yA (y7 rfl) (yh fun hx=>by apply yFN n hn;exact hx))))))) (y0a (y7 rfl))
def zJ_M(l:List (Q3)):Option (Int×Unit) :=
  (bif (↑l.length:Int)==0 then (some (((12:Int),())))else (bif decide ((↑l.length:Int) > 4)then (some (((5:Int),())))else (bif decide (List.length (l) < lenMax)then yX (fun ae aC a8=>yEg (l) ae aC) (fun a8=>yJw (l)) 0 (l) ()else none)))
theorem yTA(l:List (Q3))(y:Int×Unit)(h:zJ_M l=some y):∃ n,zJ_m n l=some y :=
  ⟨big,LeF.top (show LeF some (zJ_M l) (zJ_m big l)from (fun (n:Nat) (hn:big≤n)=>show LeF some (zJ_M l) (zJ_m n l)from (yA (y7 rfl) (yA (y7 rfl) (yh fun hx=>by apply yEx n hn;exact hx)))) big (Nat.le_refl _)) h⟩
def zJ_e:Entry:={ f:=32,args:=zJ_a,ress:=zJ_r,m:=fun x=>zJ_M x.1 }
theorem yXh:FnOK Tryz.prog zJ_e:=yK (g:=zJ_g) (fn:=Tryz.f32) yD yJ (y8 ySn (y8 yOd (y8 yFp eNil))) (by kernel_rfl) (by kernel_rfl) (by kernel_rfl) (fun x y h=>let ⟨n,hn⟩:=yTA x.1 y h;⟨yQw n,iNil,(yXr n x).trans hn⟩)
abbrev yOY:Ty:=.pair t94 .unit
abbrev yTT:Ty:=.pair t41 .unit
def yR3:G:={ T:=T,E:=[zt_e],muts:=[3],fz:=[] }
def yYL:List (List Nat):=[[1,3,4]]
def yLM(n:Nat):Ann:={ keep:=yYL,fuel:=n,inl:=[],deep:=0 }
def yCt(n:Nat)(r0:Q1→Int→List Int→Option (List Int×Unit))(ar:Q1)(aF:Int)(ax:List Int):Option (List Int×Unit) :=
  (bif decide (aF < (↑ar.2.2.1.length:Int))then (Option.bind (zt_M ar aF) fun v1=>(bif v1.1 then (bif decide (ax.length+(1:Nat)≤memMax)then r0 ar (IntKind.i64.wrap (aF+1)) (ax++[IntKind.i64.wrap (ar.2.1+aF)])else none)else r0 ar (IntKind.i64.wrap (aF+1)) ax))else some (ax,()))
def y6I(n:Nat)(k:Nat)(ar:Q1)(aF:Int)(ax:List Int):Option (List Int×Unit) :=
  iter (fun r y=>yCt n (fun ar aF ax=>r ((ar,(aF,())),((ax,()),()))) y.1.1 y.1.2.1 y.2.1.1) k ((ar,(aF,())),((ax,()),()))
def yJm(n:Nat)(rp:Q1):Option (List Int×Unit) :=
  (y6I n n (rp) ((0:Int)) ([]))
theorem yUj(n:Nat)(x:yOY.den):runF yR3 (yLM n) Tryz.f77 yOY yTT x=yJm n x.1:=by kernel_rfl
def yAJ(ar:Q1)(aF:Int)(ax:List Int):Option ((List Int×Unit)⊕(List Int)) :=
  (Option.bind (zt_M ar aF) fun v1=>(bif v1.1 then (bif decide (ax.length+(1:Nat)≤memMax)then (some (Sum.inr (ax++[IntKind.i64.wrap (ar.2.1+aF)])))else none)else (some (Sum.inr (ax)))))
def y8U(ar:Q1)(ax:List Int):Option (List Int×Unit) :=
  (some ((ax,())))
theorem yC4(n:Nat)(hn:big≤n)(ar:Q1)(ax:List Int)(hx:((↑ar.2.2.1.length:Int))≤9223372036854775807):LeF some (y24 (fun ae a8=>yAJ ar ae a8) (fun a8=>y8U ar a8) (((↑ar.2.2.1.length:Int)) - 0).toNat 0 ax) (y6I n n ar 0 ax):=by
  refine y3u (f:=some) (W:=fun aA ae a8=>y6I n aA ar ae a8) (body:=(fun ae a8=>yAJ ar ae a8)) (fin:=(fun a8=>y8U ar a8)) (fun aA ae a8=>?_) hx ax n 0 (by decide) (by unfold big at hn;omega)
  show LeF _ _ (yCt n (y6I n aA) ar ae a8)
  exact yA (yE fun v1=>(yA (yA (y7 rfl) y3A) (y7 rfl))) (y0a (y7 rfl))
def yFI(rp:Q1):Option (List Int×Unit) :=
  (bif decide (((↑rp.2.2.1.length:Int))≤9223372036854775807)then y24 (fun ae a8=>yAJ (rp) ae a8) (fun a8=>y8U (rp) a8) (((↑rp.2.2.1.length:Int)) - 0).toNat 0 ([])else none)
theorem yOx(rp:Q1)(y:List Int×Unit)(h:yFI rp=some y):∃ n,yJm n rp=some y :=
  ⟨big,LeF.top (show LeF some (yFI rp) (yJm big rp)from (fun (n:Nat) (hn:big≤n)=>show LeF some (yFI rp) (yJm n rp)from (yh fun hx=>by apply yC4 n hn;exact hx)) big (Nat.le_refl _)) h⟩
def z0R_e:Entry:={ f:=77,args:=yOY,ress:=yTT,m:=fun x=>yFI x.1 }
theorem yPw:FnOK Tryz.prog z0R_e:=yK (g:=yR3) (fn:=Tryz.f77) yD yJ (y8 yYJ eNil) (by kernel_rfl) (by kernel_rfl) (by kernel_rfl) (fun x y h=>let ⟨n,hn⟩:=yOx x.1 y h;⟨yLM n,iNil,(yUj n x).trans hn⟩)
abbrev yPA:Ty:=.pair t3 (.pair t3 .unit)
abbrev yUd:Ty:=.pair t28 .unit
def yVR:G:={ T:=T,E:=[z0b_e,z0q_e],muts:=[],fz:=[] }
def yXz:List (List Nat):=[]
def yKt(n:Nat):Ann:={ keep:=yXz,fuel:=n,inl:=[],deep:=0 }
def yOq(n:Nat)(p0:Int)(np:Int):Option (Int×Unit) :=
  (Option.bind (y1p [(z0b p0 (0:Int) (100000:Int)).1,(z0b np (0:Int) (4096:Int)).1]) fun v0=>(bif v0.1 != 0 then some (v0.1,())else some ((z0b (IntKind.i64.wrap (p0+np)) (0:Int) (100000:Int)).1,())))
theorem ySb(n:Nat)(x:yPA.den):runF yVR (yKt n) Tryz.f105 yPA yUd x=yOq n x.1 x.2.1:=by kernel_rfl
def yJE(p0:Int)(np:Int):Option (Int×Unit):=yOq 0 p0 np
theorem yLr(p0:Int)(np:Int)(y:Int×Unit)(h:yJE p0 np=some y):∃ n,yOq n p0 np=some y:=⟨0,h⟩
def z00_e:Entry:={ f:=105,args:=yPA,ress:=yUd,m:=fun x=>yJE x.1 x.2.1 }
theorem ySs:FnOK Tryz.prog z00_e:=yK (g:=yVR) (fn:=Tryz.f105) yD yJ (y8 y8R (y8 y3P eNil)) (by kernel_rfl) (by kernel_rfl) (by kernel_rfl) (fun x y h=>let ⟨n,hn⟩:=yLr x.1 x.2.1 y h;⟨yKt n,iNil,(ySb n x).trans hn⟩)
abbrev yLz:Ty:=.pair t33 (.pair t3 .unit)
abbrev yRV:Ty:=.pair t57 .unit
def yQ2:G:={ T:=T,E:=[z0x_e],muts:=[],fz:=[] }
def yXn:List (List Nat):=[]
def yL8(n:Nat):Ann:={ keep:=yXn,fuel:=n,inl:=[],deep:=0 }
def yPN(n:Nat)(t:Q2)(tick:Int):Option ((Q4)×Unit) :=
  (Option.bind (yGG t.1 t.2.1 tick) fun v0=>some ((v0.1.1,v0.1.2.1,()),()))
theorem yVD(n:Nat)(x:yLz.den):runF yQ2 (yL8 n) Tryz.f106 yLz yRV x=yPN n x.1 x.2.1:=by kernel_rfl
def yEr(t:Q2)(tick:Int):Option ((Q4)×Unit):=yPN 0 t tick
theorem yNs(t:Q2)(tick:Int)(y:(Q4)×Unit)(h:yEr t tick=some y):∃ n,yPN n t tick=some y:=⟨0,h⟩
def z0H_e:Entry:={ f:=106,args:=yLz,ress:=yRV,m:=fun x=>yEr x.1 x.2.1 }
theorem yKg:FnOK Tryz.prog z0H_e:=yK (g:=yQ2) (fn:=Tryz.f106) yD yJ (y8 yVd eNil) (by kernel_rfl) (by kernel_rfl) (by kernel_rfl) (fun x y h=>let ⟨n,hn⟩:=yNs x.1 x.2.1 y h;⟨yL8 n,iNil,(yVD n x).trans hn⟩)
abbrev zz_a:Ty:=.pair t57 .unit
abbrev zz_r:Ty:=.pair t28 .unit
def zz_g:G:={ T:=T,E:=[z0b_e,z0q_e],muts:=[],fz:=[] }
def zz_k:List (List Nat):=[]
def yRn(n:Nat):Ann:={ keep:=zz_k,fuel:=n,inl:=[],deep:=0 }
def zz_m(n:Nat)(z:Q4):Option (Int×Unit) :=
  (Option.bind (y1p [(z0b z.1 (-8796093022208:Int) (8796093022208:Int)).1,(z0b z.2.1 (-8796093022208:Int) (8796093022208:Int)).1]) fun v0=>some (v0.1,()))
theorem yY3(n:Nat)(x:zz_a.den):runF zz_g (yRn n) Tryz.f116 zz_a zz_r x=zz_m n x.1:=by kernel_rfl
def zz_M(z:Q4):Option (Int×Unit):=zz_m 0 z
theorem ySe(z:Q4)(y:Int×Unit)(h:zz_M z=some y):∃ n,zz_m n z=some y:=⟨0,h⟩
def zz_e:Entry:={ f:=116,args:=zz_a,ress:=zz_r,m:=fun x=>zz_M x.1 }
theorem yY2:FnOK Tryz.prog zz_e:=yK (g:=zz_g) (fn:=Tryz.f116) yD yJ (y8 y8R (y8 y3P eNil)) (by kernel_rfl) (by kernel_rfl) (by kernel_rfl) (fun x y h=>let ⟨n,hn⟩:=ySe x.1 y h;⟨yRn n,iNil,(yY3 n x).trans hn⟩)
abbrev yNl:Ty:=.pair t23 (.pair t3 .unit)
abbrev yPo:Ty:=.pair t3 .unit
def yTF:G:={ T:=T,E:=[z0I_e],muts:=[],fz:=[] }
def yWc:List (List Nat):=[[1,7,8,9]]
def yLQ(n:Nat):Ann:={ keep:=yWc,fuel:=n,inl:=[],deep:=0 }
def yCg(n:Nat)(r0:Int→List (Q4)→Int→Int→Option (Int×Unit))(aj:Int)(al:List (Q4))(aB:Int)(ai:Int):Option (Int×Unit) :=
  (bif decide (ai < aB)then (Option.bind (idx al ai) fun v1=>(Option.bind (yCZ aj [v1.1,v1.2.1]) fun v2=>r0 v2.1 al aB (IntKind.i64.wrap (ai+1))))else some (aj,()))
def y6E(n:Nat)(k:Nat)(aj:Int)(al:List (Q4))(aB:Int)(ai:Int):Option (Int×Unit) :=
  iter (fun r y=>yCg n (fun aj al aB ai=>r ((aj,(al,(aB,(ai,())))),((),()))) y.1.1 y.1.2.1 y.1.2.2.1 y.1.2.2.2.1) k ((aj,(al,(aB,(ai,())))),((),()))
def yIg(n:Nat)(l:List (Q4))(den:Int):Option (Int×Unit) :=
  (y6E n n (den) (l) ((↑l.length:Int)) ((0:Int)))
theorem yR2(n:Nat)(x:yNl.den):runF yTF (yLQ n) Tryz.f117 yNl yPo x=yIg n x.1 x.2.1:=by kernel_rfl
def yGD(al:List (Q4))(ai:Int)(v1:Q4)(aj:Int):Option ((Int×Unit)⊕(Int)) :=
  (Option.bind (yCZ aj [v1.1,v1.2.1]) fun v2=>(some (Sum.inr (v2.1))))
def yHS(al:List (Q4))(aj:Int):Option (Int×Unit) :=
  (some ((aj,())))
theorem yBf(n:Nat)(hn:big≤n)(al:List (Q4))(aj:Int)(hx:List.length (al) < lenMax):LeF some (yX (fun ae aC a8=>yGD al ae aC a8) (fun a8=>yHS al a8) 0 (al) aj) (y6E n n aj al (List.length (al):Int) 0):=by
  refine yk (f:=some) (W:=fun aA ae a8=>y6E n aA a8 al (List.length (al):Int) ae) (body:=(fun ae aC a8=>yGD al ae aC a8)) (fin:=(fun a8=>yHS al a8)) (fun aA ae a8=>?_) hx aj n (by unfold big at hn;unfold lenMax at hx;omega)
  show LeF _ _ (yCg n (y6E n aA) a8 al (List.length (al):Int) ae)
  exact yA (yE fun v1=>(yE fun v2=>(y7 rfl))) (y0a (y7 rfl))
def yFM(l:List (Q4))(den:Int):Option (Int×Unit) :=
  (bif decide (List.length (l) < lenMax)then yX (fun ae aC a8=>yGD (l) ae aC a8) (fun a8=>yHS (l) a8) 0 (l) (den)else none)
theorem yLp(l:List (Q4))(den:Int)(y:Int×Unit)(h:yFM l den=some y):∃ n,yIg n l den=some y :=
  ⟨big,LeF.top (show LeF some (yFM l den) (yIg big l den)from (fun (n:Nat) (hn:big≤n)=>show LeF some (yFM l den) (yIg n l den)from (yh fun hx=>by apply yBf n hn;exact hx)) big (Nat.le_refl _)) h⟩
def z0X_e:Entry:={ f:=117,args:=yNl,ress:=yPo,m:=fun x=>yFM x.1 x.2.1 }
theorem yLa:FnOK Tryz.prog z0X_e:=yK (g:=yTF) (fn:=Tryz.f117) yD yJ (y8 yLU eNil) (by kernel_rfl) (by kernel_rfl) (by kernel_rfl) (fun x y h=>let ⟨n,hn⟩:=yLp x.1 x.2.1 y h;⟨yLQ n,iNil,(yR2 n x).trans hn⟩)
abbrev zK_a:Ty:=.pair t183 .unit
abbrev zK_r:Ty:=.pair t57 .unit
def zK_g:G:={ T:=T,E:=[zT_e],muts:=[],fz:=[] }
def zK_k:List (List Nat):=[]
def yVp(n:Nat):Ann:={ keep:=zK_k,fuel:=n,inl:=[],deep:=0 }
def zK_m(n:Nat)(m:List (List (Q4))):Option ((Q4)×Unit) :=
  (Option.bind (y05 (8:Nat) (m,(0:Int),(0:Int),())) fun v0=>some ((v0.1.1,v0.1.2.1,()),()))
theorem yXk(n:Nat)(x:zK_a.den):runF zK_g (yVp n) Tryz.f123 zK_a zK_r x=zK_m n x.1:=by kernel_rfl
def zK_M(m:List (List (Q4))):Option ((Q4)×Unit):=zK_m 0 m
theorem yUp(m:List (List (Q4)))(y:(Q4)×Unit)(h:zK_M m=some y):∃ n,zK_m n m=some y:=⟨0,h⟩
def zK_e:Entry:={ f:=123,args:=zK_a,ress:=zK_r,m:=fun x=>zK_M x.1 }
theorem yJI:FnOK Tryz.prog zK_e:=yK (g:=zK_g) (fn:=Tryz.f123) yD yJ (y8 yXO eNil) (by kernel_rfl) (by kernel_rfl) (by kernel_rfl) (fun x y h=>let ⟨n,hn⟩:=yUp x.1 y h;⟨yVp n,iNil,(yXk n x).trans hn⟩)
abbrev yPj:Ty:=.pair t3 (.pair t3 .unit)
abbrev yUQ:Ty:=.pair t69 .unit
def yRK:G:={ T:=T,E:=[z0I_e],muts:=[],fz:=[] }
def yXH:List (List Nat):=[]
def yKa(n:Nat):Ann:={ keep:=yXH,fuel:=n,inl:=[],deep:=0 }
def yN9(n:Nat)(num:Int)(den:Int):Option ((Q4)×Unit) :=
  (Option.bind (yCZ den [num]) fun v0=>(bif v0.1==0 then none else (bif v0.1==0 then none else some ((IntKind.i64.wrap (num.tdiv v0.1),IntKind.i64.wrap (den.tdiv v0.1),()),()))))
theorem yRt(n:Nat)(x:yPj.den):runF yRK (yKa n) Tryz.f127 yPj yUQ x=yN9 n x.1 x.2.1:=by kernel_rfl
def yFo(num:Int)(den:Int):Option ((Q4)×Unit):=yN9 0 num den
theorem yLx(num:Int)(den:Int)(y:(Q4)×Unit)(h:yFo num den=some y):∃ n,yN9 n num den=some y:=⟨0,h⟩
def z0t_e:Entry:={ f:=127,args:=yPj,ress:=yUQ,m:=fun x=>yFo x.1 x.2.1 }
theorem yGe:FnOK Tryz.prog z0t_e:=yK (g:=yRK) (fn:=Tryz.f127) yD yJ (y8 yLU eNil) (by kernel_rfl) (by kernel_rfl) (by kernel_rfl) (fun x y h=>let ⟨n,hn⟩:=yLx x.1 x.2.1 y h;⟨yKa n,iNil,(yRt n x).trans hn⟩)
abbrev yLu:Ty:=.pair t35 (.pair t61 .unit)
abbrev ySV:Ty:=.pair t41 (.pair t28 .unit)
def yTG:G:={ T:=T,E:=[zI_e,zY_e,z0q_e],muts:=[7],fz:=[] }
def yY7:List (List Nat):=[[0,1,7,8,9]]
def yKy(n:Nat):Ann:={ keep:=yY7,fuel:=n,inl:=[],deep:=0 }
def yDV(n:Nat)(r2:List Nat→Nat→Int→Int→List Int→Option (List Int×Int×Unit))(am:List Nat)(a7:Nat)(aa:Int)(az:Int)(av:List Int):Option (List Int×Int×Unit) :=
  (bif decide (az < (↑am.length:Int))then (Option.bind (idx am az) fun v3=>(Option.bind (idx am (IntKind.i64.wrap (az - (1:Int)))) fun v4=>(bif ye Go.BinOp.gtr Go.FloatKind.f32 (yx Go.BinOp.mul Go.FloatKind.f32 a7 (yx Go.BinOp.sub Go.FloatKind.f32 v3 v4)) (nat_lit 0)then r2 am a7 az (IntKind.i64.wrap (az+1)) av else (bif ye Go.BinOp.lss Go.FloatKind.f32 (yx Go.BinOp.mul Go.FloatKind.f32 a7 (yx Go.BinOp.sub Go.FloatKind.f32 v3 v4)) (nat_lit 0)then (bif decide (aa ≥ 0)then (bif decide (av.length+(1:Nat)≤memMax)then r2 am a7 (-1:Int) (IntKind.i64.wrap (az+1)) (av++[aa])else none)else r2 am a7 (-1:Int) (IntKind.i64.wrap (az+1)) av)else r2 am a7 aa (IntKind.i64.wrap (az+1)) av))))else some (av,(0:Int),()))
def y6V(n:Nat)(k:Nat)(am:List Nat)(a7:Nat)(aa:Int)(az:Int)(av:List Int):Option (List Int×Int×Unit) :=
  iter (fun r y=>yDV n (fun am a7 aa az av=>r ((am,(a7,(aa,(az,())))),((av,()),()))) y.1.1 y.1.2.1 y.1.2.2.1 y.1.2.2.2.1 y.2.1.1) k ((am,(a7,(aa,(az,())))),((av,()),()))
def yJD(n:Nat)(l:List Nat)(direction:Nat):Option (List Int×Int×Unit) :=
  (bif decide ((↑l.length:Int) > 4096)then some ([],(5:Int),())else (Option.bind (zI_M l fun (x:Nat×Unit)=>zY_M x.1) fun v0=>(Option.bind (y1p v0.1) fun v1=>(bif v1.1 != 0 then some ([],v1.1,())else (y6V n n (l) (direction) ((-1:Int)) ((1:Int)) ([]))))))
theorem yRc(n:Nat)(x:yLu.den):runF yTG (yKy n) Tryz.f154 yLu ySV x=yJD n x.1 x.2.1:=by kernel_rfl
def yGw(am:List Nat)(a7:Nat)(az:Int)(aa:Int)(av:List Int):Option ((List Int×Int×Unit)⊕(Int×List Int)) :=
  (Option.bind (idx am az) fun v3=>(Option.bind (idx am (IntKind.i64.wrap (az - (1:Int)))) fun v4=>(bif ye Go.BinOp.gtr Go.FloatKind.f32 (yx Go.BinOp.mul Go.FloatKind.f32 a7 (yx Go.BinOp.sub Go.FloatKind.f32 v3 v4)) (nat_lit 0)then (some (Sum.inr ((az),(av))))else (bif ye Go.BinOp.lss Go.FloatKind.f32 (yx Go.BinOp.mul Go.FloatKind.f32 a7 (yx Go.BinOp.sub Go.FloatKind.f32 v3 v4)) (nat_lit 0)then (bif decide (aa ≥ 0)then (bif decide (av.length+(1:Nat)≤memMax)then (some (Sum.inr (((-1:Int)),(av++[aa]))))else none)else (some (Sum.inr (((-1:Int)),(av)))))else (some (Sum.inr ((aa),(av))))))))
def yGI(am:List Nat)(a7:Nat)(aa:Int)(av:List Int):Option (List Int×Int×Unit) :=
  (some ((av,(0:Int),())))
theorem yCY(n:Nat)(hn:big≤n)(am:List Nat)(a7:Nat)(aa:Int)(av:List Int)(hx:((↑am.length:Int))≤9223372036854775807):LeF some (y24 (fun ae a8=>yGw am a7 ae a8.1 a8.2) (fun a8=>yGI am a7 a8.1 a8.2) (((↑am.length:Int)) - 1).toNat 1 (aa,av)) (y6V n n am a7 aa 1 av):=by
  refine y3u (f:=some) (W:=fun aA ae a8=>y6V n aA am a7 a8.1 ae a8.2) (body:=(fun ae a8=>yGw am a7 ae a8.1 a8.2)) (fin:=(fun a8=>yGI am a7 a8.1 a8.2)) (fun aA ae a8=>?_) hx (aa,av) n 1 (by decide) (by unfold big at hn;omega)
  show LeF _ _ (yDV n (y6V n aA) am a7 a8.1 ae a8.2)
  exact yA (yE fun v3=>(yE fun v4=>(yA (y7 rfl) (yA (yA (yA (y7 rfl) y3A) (y7 rfl)) (y7 rfl))))) (y0a (y7 rfl))
def yFA(l:List Nat)(direction:Nat):Option (List Int×Int×Unit) :=
  (bif decide ((↑l.length:Int) > 4096)then (some (([],(5:Int),())))else (Option.bind (zI_M l fun (x:Nat×Unit)=>zY_M x.1) fun v0=>(Option.bind (y1p v0.1) fun v1=>(bif v1.1 != 0 then (some (([],v1.1,())))else (bif decide (((↑l.length:Int))≤9223372036854775807)then y24 (fun ae a8=>yGw (l) (direction) ae a8.1 a8.2) (fun a8=>yGI (l) (direction) a8.1 a8.2) (((↑l.length:Int)) - 1).toNat 1 (((-1:Int)),([]))else none)))))
theorem yPL(l:List Nat)(direction:Nat)(y:List Int×Int×Unit)(h:yFA l direction=some y):∃ n,yJD n l direction=some y :=
  ⟨big,LeF.top (show LeF some (yFA l direction) (yJD big l direction)from (fun (n:Nat) (hn:big≤n)=>show LeF some (yFA l direction) (yJD n l direction)from (yA (y7 rfl) (yE fun v0=>(yE fun v1=>(yA (y7 rfl) (yh fun hx=>by apply yCY n hn;exact hx)))))) big (Nat.le_refl _)) h⟩
def z0a_e:Entry:={ f:=154,args:=yLu,ress:=ySV,m:=fun x=>yFA x.1 x.2.1 }
theorem yKf:FnOK Tryz.prog z0a_e:=yK (g:=yTG) (fn:=Tryz.f154) yD yJ (y8 yWX (y8 yRq (y8 y3P eNil))) (by kernel_rfl) (by kernel_rfl) (by kernel_rfl) (fun x y h=>let ⟨n,hn⟩:=yPL x.1 x.2.1 y h;⟨yKy n,iNil,(yRc n x).trans hn⟩)
abbrev zM_a:Ty:=.pair t55 .unit
abbrev zM_r:Ty:=.pair t28 .unit
def zM_g:G:={ T:=T,E:=[z09_e,z14_e,z0b_e,z0q_e],muts:=[],fz:=[] }
def zM_k:List (List Nat):=[]
def yRE(n:Nat):Ann:={ keep:=zM_k,fuel:=n,inl:=[],deep:=0 }
def zM_m(n:Nat)(c:Q3):Option (Int×Unit) :=
  (Option.bind (yAn c.1) fun v0=>(Option.bind (y1p [(z14 (!v0.1) (8:Int)).1,(z0b c.2.1 (1:Int) (96:Int)).1,(z0b c.2.2.1 (0:Int) (3:Int)).1]) fun v1=>some (v1.1,())))
theorem yYM(n:Nat)(x:zM_a.den):runF zM_g (yRE n) Tryz.f160 zM_a zM_r x=zM_m n x.1:=by kernel_rfl
def zM_M(c:Q3):Option (Int×Unit):=zM_m 0 c
theorem yPn(c:Q3)(y:Int×Unit)(h:zM_M c=some y):∃ n,zM_m n c=some y:=⟨0,h⟩
def zM_e:Entry:={ f:=160,args:=zM_a,ress:=zM_r,m:=fun x=>zM_M x.1 }
theorem yTR:FnOK Tryz.prog zM_e:=yK (g:=zM_g) (fn:=Tryz.f160) yD yJ (y8 yLR (y8 y5u (y8 y8R (y8 y3P eNil)))) (by kernel_rfl) (by kernel_rfl) (by kernel_rfl) (fun x y h=>let ⟨n,hn⟩:=yPn x.1 y h;⟨yRE n,iNil,(yYM n x).trans hn⟩)
abbrev yMe:Ty:=.pair t55 (.pair (.ref t60) (.pair (.ref t31) (.pair (.ref t3) .unit)))
abbrev yQt:Ty:=.pair t57 .unit
def yTM:G:={ T:=T,E:=[z0r_e],muts:=[],fz:=[] }
def yWe:List (List Nat):=[]
def yLJ(n:Nat):Ann:={ keep:=yWe,fuel:=n,inl:=[],deep:=0 }
def yOF(n:Nat)(c:Q3)(p1:Q1)(p2:List (Q3))(p3:Int):Option ((Q4)×Unit) :=
  (Option.bind (idx p2 p3) fun v0=>(Option.bind (yFY p1 c v0) fun v1=>some ((v1.1.1,v1.1.2.1,()),())))
theorem yRz(n:Nat)(x:yMe.den):runF yTM (yLJ n) Tryz.f163 yMe yQt x=yOF n x.1 x.2.1 x.2.2.1 x.2.2.2.1:=by kernel_rfl
def yP0(c:Q3)(p1:Q1)(p2:List (Q3))(p3:Int):Option ((Q4)×Unit):=yOF 0 c p1 p2 p3
theorem yPC(c:Q3)(p1:Q1)(p2:List (Q3))(p3:Int)(y:(Q4)×Unit)(h:yP0 c p1 p2 p3=some y):∃ n,yOF n c p1 p2 p3=some y:=⟨0,h⟩
def z05_e:Entry:={ f:=163,args:=yMe,ress:=yQt,m:=fun x=>yP0 x.1 x.2.1 x.2.2.1 x.2.2.2.1 }
theorem yQZ:FnOK Tryz.prog z05_e:=yK (g:=yTM) (fn:=Tryz.f163) yD yJ (y8 yGP eNil) (by kernel_rfl) (by kernel_rfl) (by kernel_rfl) (fun x y h=>let ⟨n,hn⟩:=yPC x.1 x.2.1 x.2.2.1 x.2.2.2.1 y h;⟨yLJ n,iNil,(yRz n x).trans hn⟩)
abbrev yLm:Ty:=.pair t210 (.pair t3 .unit)
abbrev yT0:Ty:=.pair t4 .unit
def ySh:G:={ T:=T,E:=[z15_e],muts:=[],fz:=[] }
def yWE:List (List Nat):=[]
def yL7(n:Nat):Ann:={ keep:=yWE,fuel:=n,inl:=[],deep:=0 }
def yIr(n:Nat)(f:Nat)(sign:Int):Option (Bool×Unit) :=
  (bif sign==0 then (Option.bind (absM f) fun v0=>some (ye Go.BinOp.gtr Go.FloatKind.f64 v0.1 (nat_lit 9218868437227405311),()))else (bif decide (sign < 0)then some (ye Go.BinOp.gtr Go.FloatKind.f64 (yD9 Go.FloatKind.f64 f) (nat_lit 9218868437227405311),())else some (ye Go.BinOp.gtr Go.FloatKind.f64 f (nat_lit 9218868437227405311),())))
theorem yR9(n:Nat)(x:yLm.den):runF ySh (yL7 n) Tryz.f172 yLm yT0 x=yIr n x.1 x.2.1:=by kernel_rfl
def yHo(f:Nat)(sign:Int):Option (Bool×Unit):=yIr 0 f sign
theorem yOu(f:Nat)(sign:Int)(y:Bool×Unit)(h:yHo f sign=some y):∃ n,yIr n f sign=some y:=⟨0,h⟩
def z0g_e:Entry:={ f:=172,args:=yLm,ress:=yT0,m:=fun x=>yHo x.1 x.2.1 }
theorem yQS:FnOK Tryz.prog z0g_e:=yK (g:=ySh) (fn:=Tryz.f172) yD yJ (y8 yTj eNil) (by kernel_rfl) (by kernel_rfl) (by kernel_rfl) (fun x y h=>let ⟨n,hn⟩:=yOu x.1 x.2.1 y h;⟨yL7 n,iNil,(yR9 n x).trans hn⟩)
abbrev zr_a:Ty:=.pair t55 (.pair (.ref t60) (.pair (.ref t55) .unit))
abbrev zr_r:Ty:=.pair t57 .unit
def zr_g:G:={ T:=T,E:=[z0r_e],muts:=[],fz:=[] }
def zr_k:List (List Nat):=[]
def yVs(n:Nat):Ann:={ keep:=zr_k,fuel:=n,inl:=[],deep:=0 }
def zr_m(n:Nat)(b:Q3)(p1:Q1)(p2:Q3):Option ((Q4)×Unit) :=
  (Option.bind (yFY p1 p2 b) fun v0=>some ((v0.1.1,v0.1.2.1,()),()))
theorem yYC(n:Nat)(x:zr_a.den):runF zr_g (yVs n) Tryz.f193 zr_a zr_r x=zr_m n x.1 x.2.1 x.2.2.1:=by kernel_rfl
def zr_M(b:Q3)(p1:Q1)(p2:Q3):Option ((Q4)×Unit):=zr_m 0 b p1 p2
theorem yU5(b:Q3)(p1:Q1)(p2:Q3)(y:(Q4)×Unit)(h:zr_M b p1 p2=some y):∃ n,zr_m n b p1 p2=some y:=⟨0,h⟩
def zr_e:Entry:={ f:=193,args:=zr_a,ress:=zr_r,m:=fun x=>zr_M x.1 x.2.1 x.2.2.1 }
theorem yXq:FnOK Tryz.prog zr_e:=yK (g:=zr_g) (fn:=Tryz.f193) yD yJ (y8 yGP eNil) (by kernel_rfl) (by kernel_rfl) (by kernel_rfl) (fun x y h=>let ⟨n,hn⟩:=yU5 x.1 x.2.1 x.2.2.1 y h;⟨yVs n,iNil,(yYC n x).trans hn⟩)
abbrev zV_a:Ty:=.pair t35 .unit
abbrev zV_r:Ty:=.pair t28 .unit
def zV_g:G:={ T:=T,E:=[zY_e],muts:=[],fz:=[] }
def zV_k:List (List Nat):=[[3,6,7,8]]
def yU3(n:Nat):Ann:={ keep:=zV_k,fuel:=n,inl:=[],deep:=0 }
def yHZ(n:Nat)(r0:Int→List Nat→Int→Int→Option (Int×Unit))(af:Int)(aw:List Nat)(al:Int)(aB:Int):Option (Int×Unit) :=
  (bif decide (aB < al)then (Option.bind (idx aw aB) fun v1=>(Option.bind (zY_M v1) fun v2=>(bif v2.1 != 0 then some (v2.1,())else r0 v2.1 aw al (IntKind.i64.wrap (aB+1)))))else some (af,()))
def y9H(n:Nat)(k:Nat)(af:Int)(aw:List Nat)(al:Int)(aB:Int):Option (Int×Unit) :=
  iter (fun r y=>yHZ n (fun af aw al aB=>r ((af,(aw,(al,(aB,())))),((),()))) y.1.1 y.1.2.1 y.1.2.2.1 y.1.2.2.2.1) k ((af,(aw,(al,(aB,())))),((),()))
def zV_m(n:Nat)(l:List Nat):Option (Int×Unit) :=
  (y9H n n ((0:Int)) (l) ((↑l.length:Int)) ((0:Int)))
theorem yX9(n:Nat)(x:zV_a.den):runF zV_g (yU3 n) Tryz.f202 zV_a zV_r x=zV_m n x.1:=by kernel_rfl
def yGX(aw:List Nat)(aB:Int)(v1:Nat)(af:Int):Option ((Int×Unit)⊕(Int)) :=
  (Option.bind (zY_M v1) fun v2=>(bif v2.1 != 0 then (some (Sum.inl ((v2.1,()))))else (some (Sum.inr (v2.1)))))
def yIc(aw:List Nat)(af:Int):Option (Int×Unit) :=
  (some ((af,())))
theorem yF5(n:Nat)(hn:big≤n)(aw:List Nat)(af:Int)(hx:List.length (aw) < lenMax):LeF some (yX (fun ae aC a8=>yGX aw ae aC a8) (fun a8=>yIc aw a8) 0 (aw) af) (y9H n n af aw (List.length (aw):Int) 0):=by
  refine yk (f:=some) (W:=fun aA ae a8=>y9H n aA a8 aw (List.length (aw):Int) ae) (body:=(fun ae aC a8=>yGX aw ae aC a8)) (fin:=(fun a8=>yIc aw a8)) (fun aA ae a8=>?_) hx af n (by unfold big at hn;unfold lenMax at hx;omega)
  show LeF _ _ (yHZ n (y9H n aA) a8 aw (List.length (aw):Int) ae)
  exact yA (yE fun v1=>(yE fun v2=>(yA (y7 rfl) (y7 rfl)))) (y0a (y7 rfl))
def zV_M(l:List Nat):Option (Int×Unit) :=
  (bif decide (List.length (l) < lenMax)then yX (fun ae aC a8=>yGX (l) ae aC a8) (fun a8=>yIc (l) a8) 0 (l) ((0:Int))else none)
theorem yQj(l:List Nat)(y:Int×Unit)(h:zV_M l=some y):∃ n,zV_m n l=some y :=
  ⟨big,LeF.top (show LeF some (zV_M l) (zV_m big l)from (fun (n:Nat) (hn:big≤n)=>show LeF some (zV_M l) (zV_m n l)from (yh fun hx=>by apply yF5 n hn;exact hx)) big (Nat.le_refl _)) h⟩
def zV_e:Entry:={ f:=202,args:=zV_a,ress:=zV_r,m:=fun x=>zV_M x.1 }
theorem yXZ:FnOK Tryz.prog zV_e:=yK (g:=zV_g) (fn:=Tryz.f202) yD yJ (y8 yRq eNil) (by kernel_rfl) (by kernel_rfl) (by kernel_rfl) (fun x y h=>let ⟨n,hn⟩:=yQj x.1 y h;⟨yU3 n,iNil,(yX9 n x).trans hn⟩)
abbrev zZ_a:Ty:=.pair t58 .unit
abbrev zZ_r:Ty:=.pair t28 .unit
def zZ_g:G:={ T:=T,E:=[zk_e,z0c_e,z0M_e],muts:=[],fz:=[] }
def zZ_k:List (List Nat):=[[0,9,10,11]]
def ySR(n:Nat):Ann:={ keep:=zZ_k,fuel:=n,inl:=[],deep:=0 }
def yG2(n:Nat)(r0:List (Q4)→List (Q4)→Int→Int→Option (Int×Unit))(ac:List (Q4))(ai:List (Q4))(aG:Int)(ak:Int):Option (Int×Unit) :=
  (bif decide (ak < aG)then (Option.bind (idx ai ak) fun v1=>(bif decide (ak > 0)then (Option.bind (idx ac (if Bool.true=Bool.true then if IntKind.i64.wrap (ak - (1:Int)) > 0 then IntKind.i64.wrap (ak - (1:Int))else (0:Int)else if IntKind.i64.wrap (ak - (1:Int)) < 0 then IntKind.i64.wrap (ak - (1:Int))else (0:Int))) fun v2=>(Option.bind (y63 [(zk (v1.1,v1.2.1,())).1,(z0c (decide (v1.1≤v2.2.1)) (11:Int)).1]) fun v3=>(bif v3.1 != 0 then some (v3.1,())else r0 ac ai aG (IntKind.i64.wrap (ak+1)))))else (Option.bind (y63 [(zk (v1.1,v1.2.1,())).1,(z0c Bool.false (11:Int)).1]) fun v4=>(bif v4.1 != 0 then some (v4.1,())else r0 ac ai aG (IntKind.i64.wrap (ak+1))))))else some ((0:Int),()))
def y9C(n:Nat)(k:Nat)(ac:List (Q4))(ai:List (Q4))(aG:Int)(ak:Int):Option (Int×Unit) :=
  iter (fun r y=>yG2 n (fun ac ai aG ak=>r ((ac,(ai,(aG,(ak,())))),((),()))) y.1.1 y.1.2.1 y.1.2.2.1 y.1.2.2.2.1) k ((ac,(ai,(aG,(ak,())))),((),()))
def zZ_m(n:Nat)(l:List (Q4)):Option (Int×Unit) :=
  (bif decide ((↑l.length:Int) > 2048)then some ((5:Int),())else (y9C n n (l) (l) ((↑l.length:Int)) ((0:Int))))
theorem yY4(n:Nat)(x:zZ_a.den):runF zZ_g (ySR n) Tryz.f203 zZ_a zZ_r x=zZ_m n x.1:=by kernel_rfl
def yHP(ac:List (Q4))(ai:List (Q4))(ak:Int)(v1:Q4):Option ((Int×Unit)⊕Unit) :=
  (bif decide (ak > 0)then (Option.bind (idx ac (if Bool.true=Bool.true then if IntKind.i64.wrap (ak - (1:Int)) > 0 then IntKind.i64.wrap (ak - (1:Int))else (0:Int)else if IntKind.i64.wrap (ak - (1:Int)) < 0 then IntKind.i64.wrap (ak - (1:Int))else (0:Int))) fun v2=>(Option.bind (y63 [(zk (v1.1,v1.2.1,())).1,(z0c (decide (v1.1≤v2.2.1)) (11:Int)).1]) fun v3=>(bif v3.1 != 0 then (some (Sum.inl ((v3.1,()))))else (some (Sum.inr ())))))else (Option.bind (y63 [(zk (v1.1,v1.2.1,())).1,(z0c Bool.false (11:Int)).1]) fun v4=>(bif v4.1 != 0 then (some (Sum.inl ((v4.1,()))))else (some (Sum.inr ())))))
def yJl(ac:List (Q4))(ai:List (Q4)):Option (Int×Unit) :=
  (some (((0:Int),())))
theorem yE2(n:Nat)(hn:big≤n)(ac:List (Q4))(ai:List (Q4))(hx:List.length (ai) < lenMax):LeF some (yX (fun ae aC a8=>yHP ac ai ae aC) (fun a8=>yJl ac ai) 0 (ai) ()) (y9C n n ac ai (List.length (ai):Int) 0):=by
  refine yk (f:=some) (W:=fun aA ae a8=>y9C n aA ac ai (List.length (ai):Int) ae) (body:=(fun ae aC a8=>yHP ac ai ae aC)) (fin:=(fun a8=>yJl ac ai)) (fun aA ae a8=>?_) hx () n (by unfold big at hn;unfold lenMax at hx;omega)
  show LeF _ _ (yG2 n (y9C n aA) ac ai (List.length (ai):Int) ae)
  exact yA (yE fun v1=>(yA (yE fun v2=>(yE fun v3=>(yA (y7 rfl) (y7 rfl)))) (yE fun v4=>(yA (y7 rfl) (y7 rfl))))) (y0a (y7 rfl))
def zZ_M(l:List (Q4)):Option (Int×Unit) :=
  (bif decide ((↑l.length:Int) > 2048)then (some (((5:Int),())))else (bif decide (List.length (l) < lenMax)then yX (fun ae aC a8=>yHP (l) (l) ae aC) (fun a8=>yJl (l) (l)) 0 (l) ()else none))
theorem yRP(l:List (Q4))(y:Int×Unit)(h:zZ_M l=some y):∃ n,zZ_m n l=some y :=
  ⟨big,LeF.top (show LeF some (zZ_M l) (zZ_m big l)from (fun (n:Nat) (hn:big≤n)=>show LeF some (zZ_M l) (zZ_m n l)from (yA (y7 rfl) (yh fun hx=>by apply yE2 n hn;exact hx))) big (Nat.le_refl _)) h⟩
def zZ_e:Entry:={ f:=203,args:=zZ_a,ress:=zZ_r,m:=fun x=>zZ_M x.1 }
theorem yWM:FnOK Tryz.prog zZ_e:=yK (g:=zZ_g) (fn:=Tryz.f203) yD yJ (y8 yXy (y8 yAM (y8 yLk eNil))) (by kernel_rfl) (by kernel_rfl) (by kernel_rfl) (fun x y h=>let ⟨n,hn⟩:=yRP x.1 y h;⟨ySR n,iNil,(yY4 n x).trans hn⟩)
abbrev zR_a:Ty:=.pair t63 (.pair (.ref t60) .unit)
abbrev zR_r:Ty:=.pair t4 .unit
def zR_g:G:={ T:=T,E:=[zC_e,zO_e],muts:=[],fz:=[] }
def zR_k:List (List Nat):=[]
def yPq(n:Nat):Ann:={ keep:=zR_k,fuel:=n,inl:=[],deep:=0 }
def zR_m(n:Nat)(s:Q4)(p1:Q1):Option (Bool×Unit) :=
  (bif decide ((0:Int)≤s.1) && decide (s.1≤s.2.1) && decide (s.2.1≤(↑p1.2.2.1.length:Int))then (Option.bind (zC_M (List.drop s.1.toNat (List.take s.2.1.toNat p1.2.2.1)) fun (x:Nat×Unit)=>zO_M x.1) fun v0=>some (v0.1,()))else none)
theorem yXp(n:Nat)(x:zR_a.den):runF zR_g (yPq n) Tryz.f206 zR_a zR_r x=zR_m n x.1 x.2.1:=by kernel_rfl
def zR_M(s:Q4)(p1:Q1):Option (Bool×Unit):=zR_m 0 s p1
theorem ySr(s:Q4)(p1:Q1)(y:Bool×Unit)(h:zR_M s p1=some y):∃ n,zR_m n s p1=some y:=⟨0,h⟩
def zR_e:Entry:={ f:=206,args:=zR_a,ress:=zR_r,m:=fun x=>zR_M x.1 x.2.1 }
theorem yWK:FnOK Tryz.prog zR_e:=yK (g:=zR_g) (fn:=Tryz.f206) yD yJ (y8 yWU (y8 yXf eNil)) (by kernel_rfl) (by kernel_rfl) (by kernel_rfl) (fun x y h=>let ⟨n,hn⟩:=ySr x.1 x.2.1 y h;⟨yPq n,iNil,(yXp n x).trans hn⟩)
end
end Go.Tw
end
section
set_option maxRecDepth 1000000
namespace Go.Tw
open Go.Vx Go.Vx.B Go.Proofs
noncomputable section
abbrev yLv:Ty:=.pair t35 .unit
abbrev yQE:Ty:=.pair t41 (.pair t28 .unit)
def yU2:G:={ T:=T,E:=[z0a_e],muts:=[],fz:=[] }
def yYN:List (List Nat):=[]
def yLh(n:Nat):Ann:={ keep:=yYN,fuel:=n,inl:=[],deep:=0 }
def yOI(n:Nat)(l:List Nat):Option (List Int×Int×Unit) :=
  (Option.bind (yFA l (nat_lit 1065353216)) fun v0=>some (v0.1,v0.2.1,()))
theorem yPs(n:Nat)(x:yLv.den):runF yU2 (yLh n) Tryz.f71 yLv yQE x=yOI n x.1:=by kernel_rfl
def yMO(l:List Nat):Option (List Int×Int×Unit):=yOI 0 l
theorem yNr(l:List Nat)(y:List Int×Int×Unit)(h:yMO l=some y):∃ n,yOI n l=some y:=⟨0,h⟩
def z0k_e:Entry:={ f:=71,args:=yLv,ress:=yQE,m:=fun x=>yMO x.1 }
theorem yUT:FnOK Tryz.prog z0k_e:=yK (g:=yU2) (fn:=Tryz.f71) yD yJ (y8 yKf eNil) (by kernel_rfl) (by kernel_rfl) (by kernel_rfl) (fun x y h=>let ⟨n,hn⟩:=yNr x.1 y h;⟨yLh n,iNil,(yPs n x).trans hn⟩)
abbrev yNc:Ty:=.pair t35 .unit
abbrev yQg:Ty:=.pair t41 (.pair t28 .unit)
def yT1:G:={ T:=T,E:=[z0a_e],muts:=[],fz:=[] }
def yY5:List (List Nat):=[]
def yLY(n:Nat):Ann:={ keep:=yY5,fuel:=n,inl:=[],deep:=0 }
def yNw(n:Nat)(l:List Nat):Option (List Int×Int×Unit) :=
  (Option.bind (yFA l (nat_lit 3212836864)) fun v0=>some (v0.1,v0.2.1,()))
theorem yS4(n:Nat)(x:yNc.den):runF yT1 (yLY n) Tryz.f72 yNc yQg x=yNw n x.1:=by kernel_rfl
def yOb(l:List Nat):Option (List Int×Int×Unit):=yNw 0 l
theorem yNT(l:List Nat)(y:List Int×Int×Unit)(h:yOb l=some y):∃ n,yNw n l=some y:=⟨0,h⟩
def z10_e:Entry:={ f:=72,args:=yNc,ress:=yQg,m:=fun x=>yOb x.1 }
theorem yRS:FnOK Tryz.prog z10_e:=yK (g:=yT1) (fn:=Tryz.f72) yD yJ (y8 yKf eNil) (by kernel_rfl) (by kernel_rfl) (by kernel_rfl) (fun x y h=>let ⟨n,hn⟩:=yNT x.1 y h;⟨yLY n,iNil,(yS4 n x).trans hn⟩)
abbrev zx_a:Ty:=.pair t55 (.pair t3 .unit)
abbrev zx_r:Ty:=.pair t57 (.pair t28 .unit)
def zx_g:G:={ T:=T,E:=[zM_e,z0b_e,z0q_e,zS_e],muts:=[],fz:=[] }
def zx_k:List (List Nat):=[]
def yRU(n:Nat):Ann:={ keep:=zx_k,fuel:=n,inl:=[],deep:=0 }
def zx_m(n:Nat)(c:Q3)(tick:Int):Option ((Q4)×Int×Unit) :=
  (Option.bind (zM_M c) fun v0=>(Option.bind (y1p [v0.1,(z0b tick (0:Int) (100000:Int)).1]) fun v1=>(bif v1.1 != 0 then some (((0:Int),(0:Int),()),v1.1,())else (Option.bind (zS_M c tick) fun v2=>some ((v2.1.1,v2.1.2.1,()),(0:Int),())))))
theorem yY8(n:Nat)(x:zx_a.den):runF zx_g (yRU n) Tryz.f87 zx_a zx_r x=zx_m n x.1 x.2.1:=by kernel_rfl
def zx_M(c:Q3)(tick:Int):Option ((Q4)×Int×Unit):=zx_m 0 c tick
theorem yS6(c:Q3)(tick:Int)(y:(Q4)×Int×Unit)(h:zx_M c tick=some y):∃ n,zx_m n c tick=some y:=⟨0,h⟩
def zx_e:Entry:={ f:=87,args:=zx_a,ress:=zx_r,m:=fun x=>zx_M x.1 x.2.1 }
theorem yW3:FnOK Tryz.prog zx_e:=yK (g:=zx_g) (fn:=Tryz.f87) yD yJ (y8 yTR (y8 y8R (y8 y3P (y8 yJs eNil)))) (by kernel_rfl) (by kernel_rfl) (by kernel_rfl) (fun x y h=>let ⟨n,hn⟩:=yS6 x.1 x.2.1 y h;⟨yRU n,iNil,(yY8 n x).trans hn⟩)
abbrev zL_a:Ty:=.pair t31 .unit
abbrev zL_r:Ty:=.pair t28 .unit
def zL_g:G:={ T:=T,E:=[z14_e,z0q_e,zM_e],muts:=[21],fz:=[] }
def zL_k:List (List Nat):=[[4,22,23,24]]
def yVQ(n:Nat):Ann:={ keep:=zL_k,fuel:=n,inl:=[],deep:=0 }
def yHD(n:Nat)(r1:List (Q3)→Int→Int→List (List UInt8×Bool)→Option (Int×Unit))(ah:List (Q3))(aH:Int)(aE:Int)(aD:List (List UInt8×Bool)):Option (Int×Unit) :=
  (bif decide (aE < aH)then (Option.bind (idx ah aE) fun v2=>(Option.bind (zM_M (v2.1,v2.2.1,v2.2.2.1,())) fun v3=>(Option.bind (y1p [v3.1,(z14 ((y07 Ty.str Ty.bool aD v2.1).getD Bool.false) (9:Int)).1]) fun v4=>(bif v4.1 != 0 then some (v4.1,())else r1 ah aH (IntKind.i64.wrap (aE+1)) (y0R Ty.str Ty.bool aD v2.1 Bool.true)))))else some ((0:Int),()))
def y8o(n:Nat)(k:Nat)(ah:List (Q3))(aH:Int)(aE:Int)(aD:List (List UInt8×Bool)):Option (Int×Unit) :=
  iter (fun r y=>yHD n (fun ah aH aE aD=>r ((ah,(aH,(aE,()))),((aD,()),()))) y.1.1 y.1.2.1 y.1.2.2.1 y.2.1.1) k ((ah,(aH,(aE,()))),((aD,()),()))
def zL_m(n:Nat)(l:List (Q3)):Option (Int×Unit) :=
  (Option.bind (y1p [(z14 ((↑l.length:Int)==0) (12:Int)).1,(z14 (decide ((↑l.length:Int) > 4)) (5:Int)).1]) fun v0=>(bif v0.1 != 0 then some (v0.1,())else (y8o n n (l) ((↑l.length:Int)) ((0:Int)) ([]))))
theorem yVy(n:Nat)(x:zL_a.den):runF zL_g (yVQ n) Tryz.f88 zL_a zL_r x=zL_m n x.1:=by kernel_rfl
def yE6(ah:List (Q3))(aE:Int)(v2:Q3)(aD:List (List UInt8×Bool)):Option ((Int×Unit)⊕(List (List UInt8×Bool))) :=
  (Option.bind (zM_M (v2.1,v2.2.1,v2.2.2.1,())) fun v3=>(Option.bind (y1p [v3.1,(z14 ((y07 Ty.str Ty.bool aD v2.1).getD Bool.false) (9:Int)).1]) fun v4=>(bif v4.1 != 0 then (some (Sum.inl ((v4.1,()))))else (some (Sum.inr (y0R Ty.str Ty.bool aD v2.1 Bool.true))))))
def yKL(ah:List (Q3))(aD:List (List UInt8×Bool)):Option (Int×Unit) :=
  (some (((0:Int),())))
theorem yE0(n:Nat)(hn:big≤n)(ah:List (Q3))(aD:List (List UInt8×Bool))(hx:List.length (ah) < lenMax):LeF some (yX (fun ae aC a8=>yE6 ah ae aC a8) (fun a8=>yKL ah a8) 0 (ah) aD) (y8o n n ah (List.length (ah):Int) 0 aD):=by
  refine yk (f:=some) (W:=fun aA ae a8=>y8o n aA ah (List.length (ah):Int) ae a8) (body:=(fun ae aC a8=>yE6 ah ae aC a8)) (fin:=(fun a8=>yKL ah a8)) (fun aA ae a8=>?_) hx aD n (by unfold big at hn;unfold lenMax at hx;omega)
  show LeF _ _ (yHD n (y8o n aA) ah (List.length (ah):Int) ae a8)
  exact yA (yE fun v2=>(yE fun v3=>(yE fun v4=>(yA (y7 rfl) (y7 rfl))))) (y0a (y7 rfl))
def zL_M(l:List (Q3)):Option (Int×Unit) :=
  (Option.bind (y1p [(z14 ((↑l.length:Int)==0) (12:Int)).1,(z14 (decide ((↑l.length:Int) > 4)) (5:Int)).1]) fun v0=>(bif v0.1 != 0 then (some ((v0.1,())))else (bif decide (List.length (l) < lenMax)then yX (fun ae aC a8=>yE6 (l) ae aC a8) (fun a8=>yKL (l) a8) 0 (l) ([])else none)))
theorem yTg(l:List (Q3))(y:Int×Unit)(h:zL_M l=some y):∃ n,zL_m n l=some y :=
  ⟨big,LeF.top (show LeF some (zL_M l) (zL_m big l)from (fun (n:Nat) (hn:big≤n)=>show LeF some (zL_M l) (zL_m n l)from (yE fun v0=>(yA (y7 rfl) (yh fun hx=>by apply yE0 n hn;exact hx)))) big (Nat.le_refl _)) h⟩
def zL_e:Entry:={ f:=88,args:=zL_a,ress:=zL_r,m:=fun x=>zL_M x.1 }
theorem yMk:FnOK Tryz.prog zL_e:=yK (g:=zL_g) (fn:=Tryz.f88) yD yJ (y8 y5u (y8 y3P (y8 yTR eNil))) (by kernel_rfl) (by kernel_rfl) (by kernel_rfl) (fun x y h=>let ⟨n,hn⟩:=yTg x.1 y h;⟨yVQ n,iNil,(yVy n x).trans hn⟩)
abbrev zb_a:Ty:=.pair t61 .unit
abbrev zb_r:Ty:=.pair t3 .unit
def zb_g:G:={ T:=T,E:=[z0h_e,z0g_e,z0f_e],muts:=[],fz:=[] }
def zb_k:List (List Nat):=[]
def yTx(n:Nat):Ann:={ keep:=zb_k,fuel:=n,inl:=[],deep:=0 }
def zb_m(n:Nat)(xp:Nat):Option (Int×Unit) :=
  (Option.bind (y1d Go.FloatKind.f32 xp Go.FloatKind.f64) fun v0=>(bif (z0h v0).1 then some ((1:Int),())else (Option.bind (yHo v0 (0:Int)) fun v1=>(bif v1.1 then some ((1:Int),())else (bif ye Go.BinOp.gtr Go.FloatKind.f64 v0 (nat_lit 4634204016564240384)then some ((3:Int),())else (bif ye Go.BinOp.lss Go.FloatKind.f64 v0 (nat_lit 13857576053419016192)then some ((3:Int),())else (Option.bind (y7W (yx Go.BinOp.mul Go.FloatKind.f64 (nat_lit 4625196817309499392) v0)) fun v4=>(bif ye Go.BinOp.neq Go.FloatKind.f64 (yx Go.BinOp.mul Go.FloatKind.f64 (nat_lit 4625196817309499392) v0) v4.1 then some ((3:Int),())else some ((0:Int),())))))))))
theorem yW9(n:Nat)(x:zb_a.den):runF zb_g (yTx n) Tryz.f96 zb_a zb_r x=zb_m n x.1:=by kernel_rfl
def zb_M(xp:Nat):Option (Int×Unit):=zb_m 0 xp
theorem yVU(xp:Nat)(y:Int×Unit)(h:zb_M xp=some y):∃ n,zb_m n xp=some y:=⟨0,h⟩
def zb_e:Entry:={ f:=96,args:=zb_a,ress:=zb_r,m:=fun x=>zb_M x.1 }
theorem yX0:FnOK Tryz.prog zb_e:=yK (g:=zb_g) (fn:=Tryz.f96) yD yJ (y8 yVS (y8 yQS (y8 yVC eNil))) (by kernel_rfl) (by kernel_rfl) (by kernel_rfl) (fun x y h=>let ⟨n,hn⟩:=yVU x.1 y h;⟨yTx n,iNil,(yW9 n x).trans hn⟩)
abbrev yMf:Ty:=.pair t31 (.pair t23 (.pair t3 .unit))
abbrev yRM:Ty:=.pair t33 .unit
def ySW:G:={ T:=T,E:=[z0X_e,z7_e,z03_e,z04_e,zG_e],muts:=[],fz:=[7] }
def yWT:List (List Nat):=[]
def yKs(n:Nat):Ann:={ keep:=yWT,fuel:=n,inl:=[],deep:=0 }
def yOo(n:Nat)(l:List (Q3))(amplitudes:List (Q4))(den:Int):Option ((Q2)×Unit) :=
  (Option.bind (yFM amplitudes den) fun v0=>(Option.bind (z7_M l fun (x:(Q3)×Unit)=>yP3 x.1) fun v1=>(Option.bind (zG_M amplitudes fun (x:(Q4)×Unit)=>yMg x.1 v0.1) fun v2=>(bif v0.1==0 then none else some ((v1.1,v2.1,IntKind.i64.wrap (den.tdiv v0.1),()),())))))
theorem yTC(n:Nat)(x:yMf.den):runF ySW (yKs n) Tryz.f121 yMf yRM x=yOo n x.1 x.2.1 x.2.2.1:=by kernel_rfl
def yMW(l:List (Q3))(amplitudes:List (Q4))(den:Int):Option ((Q2)×Unit):=yOo 0 l amplitudes den
theorem yM6(l:List (Q3))(amplitudes:List (Q4))(den:Int)(y:(Q2)×Unit)(h:yMW l amplitudes den=some y):∃ n,yOo n l amplitudes den=some y:=⟨0,h⟩
def z0K_e:Entry:={ f:=121,args:=yMf,ress:=yRM,m:=fun x=>yMW x.1 x.2.1 x.2.2.1 }
theorem yQ6:FnOK Tryz.prog z0K_e:=yK (g:=ySW) (fn:=Tryz.f121) yD yJ (y8 yLa (y8 yYB (y8 yRb (y8 yRR (y8 yXF eNil))))) (by kernel_rfl) (by kernel_rfl) (by kernel_rfl) (fun x y h=>let ⟨n,hn⟩:=yM6 x.1 x.2.1 x.2.2.1 y h;⟨yKs n,iNil,(yTC n x).trans hn⟩)
abbrev yMl:Ty:=.pair t3 .unit
abbrev yQH:Ty:=.pair t69 .unit
def yVk:G:={ T:=T,E:=[z07_e,z0t_e],muts:=[],fz:=[] }
def yWY:List (List Nat):=[]
def yLS(n:Nat):Ann:={ keep:=yWY,fuel:=n,inl:=[],deep:=0 }
def yOL(n:Nat)(year:Int):Option ((Q4)×Unit) :=
  (Option.bind (yFo (IntKind.i64.wrap ((104:Int) - (z07 (IntKind.i64.wrap (year.tmod (16:Int) - (8:Int)))).1)) (100:Int)) fun v0=>some ((v0.1.1,v0.1.2.1,()),()))
theorem yRI(n:Nat)(x:yMl.den):runF yVk (yLS n) Tryz.f136 yMl yQH x=yOL n x.1:=by kernel_rfl
def yNe(year:Int):Option ((Q4)×Unit):=yOL 0 year
theorem yP9(year:Int)(y:(Q4)×Unit)(h:yNe year=some y):∃ n,yOL n year=some y:=⟨0,h⟩
def z0s_e:Entry:={ f:=136,args:=yMl,ress:=yQH,m:=fun x=>yNe x.1 }
theorem yVa:FnOK Tryz.prog z0s_e:=yK (g:=yVk) (fn:=Tryz.f136) yD yJ (y8 yBF (y8 yGe eNil)) (by kernel_rfl) (by kernel_rfl) (by kernel_rfl) (fun x y h=>let ⟨n,hn⟩:=yP9 x.1 y h;⟨yLS n,iNil,(yRI n x).trans hn⟩)
abbrev zU_a:Ty:=.pair t60 .unit
abbrev zU_r:Ty:=.pair t28 .unit
def zU_g:G:={ T:=T,E:=[z09_e,z0c_e,z0A_e,z0M_e,zV_e,zZ_e,zQ_e,zB_e,zR_e],muts:=[],fz:=[] }
def zU_k:List (List Nat):=[]
def yQL(n:Nat):Ann:={ keep:=zU_k,fuel:=n,inl:=[],deep:=0 }
def zU_m(n:Nat)(rp:Q1):Option (Int×Unit) :=
  (Option.bind (yAn rp.1) fun v0=>(Option.bind (y63 [(z0c (!v0.1) (8:Int)).1,(z0A rp.2.1 (0:Int) (100000:Int)).1,(z0c (decide ((↑rp.2.2.1.length:Int) > 4096)) (5:Int)).1]) fun v1=>(bif v1.1 != 0 then some (v1.1,())else (Option.bind (zV_M rp.2.2.1) fun v2=>(Option.bind (zZ_M rp.2.2.2.1) fun v3=>(Option.bind (y63 [v2.1,v3.1]) fun v4=>(bif v4.1 != 0 then some (v4.1,())else (Option.bind (zB_M rp.2.2.2.1 fun (x:(Q4)×Unit)=>zQ_M x.1 rp) fun v5=>(bif v5.1 then some ((14:Int),())else (Option.bind (zB_M rp.2.2.2.1 fun (x:(Q4)×Unit)=>zR_M x.1 rp) fun v6=>some ((z0c v6.1 (1:Int)).1,())))))))))))
theorem yWs(n:Nat)(x:zU_a.den):runF zU_g (yQL n) Tryz.f157 zU_a zU_r x=zU_m n x.1:=by kernel_rfl
def zU_M(rp:Q1):Option (Int×Unit):=zU_m 0 rp
theorem yQs(rp:Q1)(y:Int×Unit)(h:zU_M rp=some y):∃ n,zU_m n rp=some y:=⟨0,h⟩
def zU_e:Entry:={ f:=157,args:=zU_a,ress:=zU_r,m:=fun x=>zU_M x.1 }
theorem yVK:FnOK Tryz.prog zU_e:=yK (g:=zU_g) (fn:=Tryz.f157) yD yJ (y8 yLR (y8 yAM (y8 yTi (y8 yLk (y8 yXZ (y8 yWM (y8 yYF (y8 yXt (y8 yWK eNil))))))))) (by kernel_rfl) (by kernel_rfl) (by kernel_rfl) (fun x y h=>let ⟨n,hn⟩:=yQs x.1 y h;⟨yQL n,iNil,(yWs n x).trans hn⟩)
abbrev yOX:Ty:=.pair t55 (.pair (.ref t31) (.pair (.ref t60) .unit))
abbrev ySY:Ty:=.pair t23 .unit
def yUN:G:={ T:=T,E:=[zr_e,zA_e],muts:=[],fz:=[] }
def yXS:List (List Nat):=[]
def yKv(n:Nat):Ann:={ keep:=yXS,fuel:=n,inl:=[],deep:=0 }
def yM4(n:Nat)(a:Q3)(p1:List (Q3))(p2:Q1):Option (List (Q4)×Unit) :=
  (Option.bind (zA_M p1 fun (x:(Q3)×Unit)=>zr_M x.1 p2 a) fun v0=>some (v0.1,()))
theorem yQx(n:Nat)(x:yOX.den):runF yUN (yKv n) Tryz.f192 yOX ySY x=yM4 n x.1 x.2.1 x.2.2.1:=by kernel_rfl
def yPZ(a:Q3)(p1:List (Q3))(p2:Q1):Option (List (Q4)×Unit):=yM4 0 a p1 p2
theorem yLy(a:Q3)(p1:List (Q3))(p2:Q1)(y:List (Q4)×Unit)(h:yPZ a p1 p2=some y):∃ n,yM4 n a p1 p2=some y:=⟨0,h⟩
def z08_e:Entry:={ f:=192,args:=yOX,ress:=ySY,m:=fun x=>yPZ x.1 x.2.1 x.2.2.1 }
theorem yTs:FnOK Tryz.prog z08_e:=yK (g:=yUN) (fn:=Tryz.f192) yD yJ (y8 yXq (y8 yPT eNil)) (by kernel_rfl) (by kernel_rfl) (by kernel_rfl) (fun x y h=>let ⟨n,hn⟩:=yLy x.1 x.2.1 x.2.2.1 y h;⟨yKv n,iNil,(yQx n x).trans hn⟩)
end
end Go.Tw
end
