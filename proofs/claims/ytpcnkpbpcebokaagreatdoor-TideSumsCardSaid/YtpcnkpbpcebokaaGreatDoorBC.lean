import Derived.Test.YtpcnkpbpcebokaaGreatDoorBT
import Derived.Test.YtpcnkpbpcebokaaGreatDoorB0
import Derived.Test.YtpcnkpbpcebokaaGreatDoorBS
import Derived.Test.YtpcnkpbpcebokaaGreatDoorLQ
import Derived.Test.YtpcnkpbpcebokaaGreatDoorBA
import Derived.Test.YtpcnkpbpcebokaaGreatDoorLR
set_option linter.all false
section
set_option maxRecDepth 1000000
namespace Go.Tw
open Go.Vx Go.Vx.B Go.Proofs
noncomputable section
abbrev zJ_a:Ty:=.pair t22 .unit
abbrev zJ_r:Ty:=.pair t3 .unit
def zJ_g:G:={ T:=T,E:=[zf_e,zZ_e,z0Q_e],muts:=[],fz:=[] }
def zJ_k:List (List Nat):=[[0,3],[0,3,5]]
def yVy(n:Nat):Ann:={ keep:=zJ_k,fuel:=n,inl:=[],deep:=0 }
def yHO(n:Nat)(r0:List (Q3)→Int→Option (Int×Unit))(r6:List (Q3)→Int→Int→Option (Int×Unit))(aP:List (Q3))(aH:Int)(bh:Int):Option (Int×Unit) :=
  (bif decide (bh < aH)then (Option.bind (idx aP bh) fun v7=>(Option.bind (idx aP aH) fun v8=>(bif v7.1==v8.1 then some ((9:Int),())else r6 aP aH (IntKind.i64.wrap (bh+1)))))else r0 aP (IntKind.i64.wrap (aH+1)))
def y9b(n:Nat)(r0:List (Q3)→Int→Option (Int×Unit))(k:Nat)(aP:List (Q3))(aH:Int)(bh:Int):Option (Int×Unit) :=
  iter (fun r y=>yHO n r0 (fun aP aH bh=>r ((aP,(aH,(bh,()))),((),()))) y.1.1 y.1.2.1 y.1.2.2.1) k ((aP,(aH,(bh,()))),((),()))
def yI7(n:Nat)(r0:List (Q3)→Int→Option (Int×Unit))(av:List (Q3))(aZ:Int):Option (Int×Unit) :=
  (bif decide (aZ < (↑av.length:Int))then (Option.bind (idx av aZ) fun v1=>(Option.bind (zf_M v1.1) fun v2=>(Option.bind (idx av aZ) fun v3=>(Option.bind (idx av aZ) fun v4=>(Option.bind (y9o [v2.1,(zZ v3.2.1 (1:Int) (96:Int)).1,(zZ v4.2.2.1 (0:Int) (3:Int)).1]) fun v5=>(bif v5.1 != 0 then some (v5.1,())else (y9b n r0 n (av) (aZ) ((0:Int)))))))))else some ((0:Int),()))
def yA5(n:Nat)(k:Nat)(av:List (Q3))(aZ:Int):Option (Int×Unit) :=
  iter (fun r y=>yI7 n (fun av aZ=>r ((av,(aZ,())),((),()))) y.1.1 y.1.2.1) k ((av,(aZ,())),((),()))
def zJ_m(n:Nat)(l:List (Q3)):Option (Int×Unit) :=
  (bif (↑l.length:Int)==0 then some ((12:Int),())else (bif decide ((↑l.length:Int) > 4)then some ((5:Int),())else (yA5 n n (l) ((0:Int)))))
theorem yaB(n:Nat)(x:zJ_a.den):runF zJ_g (yVy n) Tryz.f32 zJ_a zJ_r x=zJ_m n x.1:=by kernel_rfl
def yG8(aP:List (Q3))(aH:Int)(bh:Int):Option (((Int×Unit)⊕Unit)⊕Unit) :=
  (Option.bind (idx aP bh) fun v7=>(Option.bind (idx aP aH) fun v8=>(bif v7.1==v8.1 then (some (Sum.inl (Sum.inl (((9:Int),())))))else (some (Sum.inr ())))))
def yLD(aP:List (Q3))(aH:Int):Option ((Int×Unit)⊕Unit) :=
  (some (Sum.inr ()))
theorem yFl(n:Nat)(hn:big≤n)(r0:List (Q3)→Int→Option (Int×Unit))(aP:List (Q3))(aH:Int)(hx:(aH)≤9223372036854775807):LeF (elim some fun (aa:Unit)=>r0 aP (IntKind.i64.wrap (aH+1))) (y2p (fun ah aa=>yG8 aP aH ah) (fun aa=>yLD aP aH) ((aH) - 0).toNat 0 ()) (y9b n r0 n aP aH 0):=by
  refine y6k (f:=(elim some fun (aa:Unit)=>r0 aP (IntKind.i64.wrap (aH+1)))) (W:=fun aX ah aa=>y9b n r0 aX aP aH ah) (body:=(fun ah aa=>yG8 aP aH ah)) (fin:=(fun aa=>yLD aP aH)) (fun aX ah aa=>?_) hx () n 0 (by decide) (by unfold big at hn;omega)
  show LeF _ _ (yHO n r0 (y9b n r0 aX) aP aH ah)
  exact y8 (yE fun v7=>(yE fun v8=>(y8 (yB rfl) (yB rfl)))) (y0c (yB rfl))
def yG4(av:List (Q3))(aZ:Int)(v1:Q3):Option ((Int×Unit)⊕Unit) :=
  (Option.bind (zf_M v1.1) fun v2=>(Option.bind (idx av aZ) fun v3=>(Option.bind (idx av aZ) fun v4=>(Option.bind (y9o [v2.1,(zZ v3.2.1 (1:Int) (96:Int)).1,(zZ v4.2.2.1 (0:Int) (3:Int)).1]) fun v5=>(bif v5.1 != 0 then (some (Sum.inl ((v5.1,()))))else (bif decide ((aZ)≤9223372036854775807)then y2p (fun ah aa=>yG8 (av) (aZ) ah) (fun aa=>yLD (av) (aZ)) ((aZ) - 0).toNat 0 ()else none))))))
def yKQ(av:List (Q3)):Option (Int×Unit) :=
  (some (((0:Int),())))
theorem yFR(n:Nat)(hn:big≤n)(av:List (Q3))(hx:List.length (av) < lenMax):LeF some (yQ (fun ah aI aa=>yG4 av ah aI) (fun aa=>yKQ av) 0 (av) ()) (yA5 n n av 0):=by
  refine yd (f:=some) (W:=fun aX ah aa=>yA5 n aX av ah) (body:=(fun ah aI aa=>yG4 av ah aI)) (fin:=(fun aa=>yKQ av)) (fun aX ah aa=>?_) hx () n (by unfold big at hn;unfold lenMax at hx;omega)
  show LeF _ _ (yI7 n (yA5 n aX) av ah)
  exact y8 (yE fun v1=>(yE fun v2=>(yE fun v3=>(yE fun v4=>(yE fun v5=>(y8 (yB rfl) (yg fun hx=>by apply yFl n hn;exact hx))))))) (y0c (yB rfl))
def zJ_M(l:List (Q3)):Option (Int×Unit) :=
  (bif (↑l.length:Int)==0 then (some (((12:Int),())))else (bif decide ((↑l.length:Int) > 4)then (some (((5:Int),())))else (bif decide (List.length (l) < lenMax)then yQ (fun ah aI aa=>yG4 (l) ah aI) (fun aa=>yKQ (l)) 0 (l) ()else none)))
theorem yVi(l:List (Q3))(y:Int×Unit)(h:zJ_M l=some y):∃ n,zJ_m n l=some y :=
  ⟨big,LeF.top (show LeF some (zJ_M l) (zJ_m big l)from (fun (n:Nat) (hn:big≤n)=>show LeF some (zJ_M l) (zJ_m n l)from (y8 (yB rfl) (y8 (yB rfl) (yg fun hx=>by apply yFR n hn;exact hx)))) big (Nat.le_refl _)) h⟩
def zJ_e:Entry:={ f:=32,args:=zJ_a,ress:=zJ_r,m:=fun x=>zJ_M x.1 }
theorem yUX:FnOK Tryz.prog zJ_e:=yJ (g:=zJ_g) (fn:=Tryz.f32) yA yI (y6 yZc (y6 yKn (y6 yGr eNil))) (by kernel_rfl) (by kernel_rfl) (by kernel_rfl) (fun x y h=>let ⟨n,hn⟩:=yVi x.1 y h;⟨yVy n,iNil,(yaB n x).trans hn⟩)
abbrev yOB:Ty:=.pair t33 (.pair t28 (.pair t3 (.pair t25 .unit)))
abbrev yTU:Ty:=.pair t4 .unit
def yUC:G:={ T:=T,E:=[z0j_e,z0o_e],muts:=[7],fz:=[] }
def yZJ:List (List Nat):=[]
def yM7(n:Nat):Ann:={ keep:=yZJ,fuel:=n,inl:=[],deep:=0 }
def yIk(n:Nat)(p0:Q2)(e:Int)(bad:Int)(want:Q2):Option (Bool×Unit) :=
  (bif bad != 0 then (bif e==bad then (Option.bind (yAt p0) fun v3=>(Option.bind (yBt v3.1 ([],[],(0:Int),())) fun v4=>some (v4.1,())))else some (Bool.false,()))else (bif e==bad then (Option.bind (yAt p0) fun v8=>(Option.bind (yBt v8.1 (want.1,want.2.1,want.2.2.1,())) fun v9=>some (v9.1,())))else some (Bool.false,())))
theorem yWs(n:Nat)(x:yOB.den):runF yUC (yM7 n) Tryz.f51 yOB yTU x=yIk n x.1 x.2.1 x.2.2.1 x.2.2.2.1:=by kernel_rfl
def y7b(p0:Q2)(e:Int)(bad:Int)(want:Q2):Option (Bool×Unit):=yIk 0 p0 e bad want
theorem yQW(p0:Q2)(e:Int)(bad:Int)(want:Q2)(y:Bool×Unit)(h:y7b p0 e bad want=some y):∃ n,yIk n p0 e bad want=some y:=⟨0,h⟩
def z0i_e:Entry:={ f:=51,args:=yOB,ress:=yTU,m:=fun x=>y7b x.1 x.2.1 x.2.2.1 x.2.2.2.1 }
theorem ySG:FnOK Tryz.prog z0i_e:=yJ (g:=yUC) (fn:=Tryz.f51) yA yI (y6 yU6 (y6 yVY eNil)) (by kernel_rfl) (by kernel_rfl) (by kernel_rfl) (fun x y h=>let ⟨n,hn⟩:=yQW x.1 x.2.1 x.2.2.1 x.2.2.2.1 y h;⟨yM7 n,iNil,(yWs n x).trans hn⟩)
abbrev zu_a:Ty:=.pair t3 (.pair t3 .unit)
abbrev zu_r:Ty:=.pair t28 .unit
def zu_g:G:={ T:=T,E:=[z0f_e,z0y_e],muts:=[],fz:=[] }
def zu_k:List (List Nat):=[]
def yXk(n:Nat):Ann:={ keep:=zu_k,fuel:=n,inl:=[],deep:=0 }
def zu_m(n:Nat)(p0:Int)(np:Int):Option (Int×Unit) :=
  (Option.bind (y1g [(z0f p0 (0:Int) (100000:Int)).1,(z0f np (0:Int) (4096:Int)).1]) fun v0=>(bif v0.1 != 0 then some (v0.1,())else some ((z0f (IntKind.i64.wrap (p0+np)) (0:Int) (100000:Int)).1,())))
theorem yZa(n:Nat)(x:zu_a.den):runF zu_g (yXk n) Tryz.f105 zu_a zu_r x=zu_m n x.1 x.2.1:=by kernel_rfl
def zu_M(p0:Int)(np:Int):Option (Int×Unit):=zu_m 0 p0 np
theorem yTW(p0:Int)(np:Int)(y:Int×Unit)(h:zu_M p0 np=some y):∃ n,zu_m n p0 np=some y:=⟨0,h⟩
def zu_e:Entry:={ f:=105,args:=zu_a,ress:=zu_r,m:=fun x=>zu_M x.1 x.2.1 }
theorem yam:FnOK Tryz.prog zu_e:=yJ (g:=zu_g) (fn:=Tryz.f105) yA yI (y6 y9F (y6 y3S eNil)) (by kernel_rfl) (by kernel_rfl) (by kernel_rfl) (fun x y h=>let ⟨n,hn⟩:=yTW x.1 x.2.1 y h;⟨yXk n,iNil,(yZa n x).trans hn⟩)
abbrev yQv:Ty:=.pair t33 (.pair t3 .unit)
abbrev ySl:Ty:=.pair t57 .unit
def yS1:G:={ T:=T,E:=[z15_e],muts:=[],fz:=[] }
def yZU:List (List Nat):=[]
def yMZ(n:Nat):Ann:={ keep:=yZU,fuel:=n,inl:=[],deep:=0 }
def yQJ(n:Nat)(t:Q2)(tick:Int):Option ((Q4)×Unit) :=
  (Option.bind (yHt t.1 t.2.1 tick) fun v0=>some ((v0.1.1,v0.1.2.1,()),()))
theorem yVk(n:Nat)(x:yQv.den):runF yS1 (yMZ n) Tryz.f106 yQv ySl x=yQJ n x.1 x.2.1:=by kernel_rfl
def yF8(t:Q2)(tick:Int):Option ((Q4)×Unit):=yQJ 0 t tick
theorem yOq(t:Q2)(tick:Int)(y:(Q4)×Unit)(h:yF8 t tick=some y):∃ n,yQJ n t tick=some y:=⟨0,h⟩
def z0H_e:Entry:={ f:=106,args:=yQv,ress:=ySl,m:=fun x=>yF8 x.1 x.2.1 }
theorem yLk:FnOK Tryz.prog z0H_e:=yJ (g:=yS1) (fn:=Tryz.f106) yA yI (y6 yRo eNil) (by kernel_rfl) (by kernel_rfl) (by kernel_rfl) (fun x y h=>let ⟨n,hn⟩:=yOq x.1 x.2.1 y h;⟨yMZ n,iNil,(yVk n x).trans hn⟩)
abbrev zt_a:Ty:=.pair t57 .unit
abbrev zt_r:Ty:=.pair t28 .unit
def zt_g:G:={ T:=T,E:=[z0f_e,z0y_e],muts:=[],fz:=[] }
def zt_k:List (List Nat):=[]
def yWh(n:Nat):Ann:={ keep:=zt_k,fuel:=n,inl:=[],deep:=0 }
def zt_m(n:Nat)(z:Q4):Option (Int×Unit) :=
  (Option.bind (y1g [(z0f z.1 (-8796093022208:Int) (8796093022208:Int)).1,(z0f z.2.1 (-8796093022208:Int) (8796093022208:Int)).1]) fun v0=>some (v0.1,()))
theorem yYW(n:Nat)(x:zt_a.den):runF zt_g (yWh n) Tryz.f116 zt_a zt_r x=zt_m n x.1:=by kernel_rfl
def zt_M(z:Q4):Option (Int×Unit):=zt_m 0 z
theorem yV5(z:Q4)(y:Int×Unit)(h:zt_M z=some y):∃ n,zt_m n z=some y:=⟨0,h⟩
def zt_e:Entry:={ f:=116,args:=zt_a,ress:=zt_r,m:=fun x=>zt_M x.1 }
theorem yZA:FnOK Tryz.prog zt_e:=yJ (g:=zt_g) (fn:=Tryz.f116) yA yI (y6 y9F (y6 y3S eNil)) (by kernel_rfl) (by kernel_rfl) (by kernel_rfl) (fun x y h=>let ⟨n,hn⟩:=yV5 x.1 y h;⟨yWh n,iNil,(yYW n x).trans hn⟩)
abbrev yO2:Ty:=.pair t23 (.pair t3 .unit)
abbrev yXH:Ty:=.pair t3 .unit
def yWZ:G:={ T:=T,E:=[z0I_e],muts:=[],fz:=[] }
def yZ7:List (List Nat):=[[1,7,8,9]]
def yN2(n:Nat):Ann:={ keep:=yZ7,fuel:=n,inl:=[],deep:=0 }
def yDu(n:Nat)(r0:Int→List (Q4)→Int→Int→Option (Int×Unit))(aB:Int)(aF:List (Q4))(b6:Int)(b4:Int):Option (Int×Unit) :=
  (bif decide (b4 < b6)then (Option.bind (idx aF b4) fun v1=>(Option.bind (yAf aB [v1.1,v1.2.1]) fun v2=>r0 v2.1 aF b6 (IntKind.i64.wrap (b4+1))))else some (aB,()))
def y6n(n:Nat)(k:Nat)(aB:Int)(aF:List (Q4))(b6:Int)(b4:Int):Option (Int×Unit) :=
  iter (fun r y=>yDu n (fun aB aF b6 b4=>r ((aB,(aF,(b6,(b4,())))),((),()))) y.1.1 y.1.2.1 y.1.2.2.1 y.1.2.2.2.1) k ((aB,(aF,(b6,(b4,())))),((),()))
def yLO(n:Nat)(l:List (Q4))(den:Int):Option (Int×Unit) :=
  (y6n n n (den) (l) ((↑l.length:Int)) ((0:Int)))
theorem yYG(n:Nat)(x:yO2.den):runF yWZ (yN2 n) Tryz.f117 yO2 yXH x=yLO n x.1 x.2.1:=by kernel_rfl
def yCO(aF:List (Q4))(b4:Int)(v1:Q4)(aB:Int):Option ((Int×Unit)⊕(Int)) :=
  (Option.bind (yAf aB [v1.1,v1.2.1]) fun v2=>(some (Sum.inr (v2.1))))
def yEx(aF:List (Q4))(aB:Int):Option (Int×Unit) :=
  (some ((aB,())))
theorem yCj(n:Nat)(hn:big≤n)(aF:List (Q4))(aB:Int)(hx:List.length (aF) < lenMax):LeF some (yQ (fun ah aI aa=>yCO aF ah aI aa) (fun aa=>yEx aF aa) 0 (aF) aB) (y6n n n aB aF (List.length (aF):Int) 0):=by
  refine yd (f:=some) (W:=fun aX ah aa=>y6n n aX aa aF (List.length (aF):Int) ah) (body:=(fun ah aI aa=>yCO aF ah aI aa)) (fin:=(fun aa=>yEx aF aa)) (fun aX ah aa=>?_) hx aB n (by unfold big at hn;unfold lenMax at hx;omega)
  show LeF _ _ (yDu n (y6n n aX) aa aF (List.length (aF):Int) ah)
  exact y8 (yE fun v1=>(yE fun v2=>(yB rfl))) (y0c (yB rfl))
def yAl(l:List (Q4))(den:Int):Option (Int×Unit) :=
  (bif decide (List.length (l) < lenMax)then yQ (fun ah aI aa=>yCO (l) ah aI aa) (fun aa=>yEx (l) aa) 0 (l) (den)else none)
theorem yRV(l:List (Q4))(den:Int)(y:Int×Unit)(h:yAl l den=some y):∃ n,yLO n l den=some y :=
  ⟨big,LeF.top (show LeF some (yAl l den) (yLO big l den)from (fun (n:Nat) (hn:big≤n)=>show LeF some (yAl l den) (yLO n l den)from (yg fun hx=>by apply yCj n hn;exact hx)) big (Nat.le_refl _)) h⟩
def z0b_e:Entry:={ f:=117,args:=yO2,ress:=yXH,m:=fun x=>yAl x.1 x.2.1 }
theorem yMm:FnOK Tryz.prog z0b_e:=yJ (g:=yWZ) (fn:=Tryz.f117) yA yI (y6 yN8 eNil) (by kernel_rfl) (by kernel_rfl) (by kernel_rfl) (fun x y h=>let ⟨n,hn⟩:=yRV x.1 x.2.1 y h;⟨yN2 n,iNil,(yYG n x).trans hn⟩)
abbrev zK_a:Ty:=.pair t183 .unit
abbrev zK_r:Ty:=.pair t57 .unit
def zK_g:G:={ T:=T,E:=[zS_e],muts:=[],fz:=[] }
def zK_k:List (List Nat):=[]
def yT4(n:Nat):Ann:={ keep:=zK_k,fuel:=n,inl:=[],deep:=0 }
def zK_m(n:Nat)(m:List (List (Q4))):Option ((Q4)×Unit) :=
  (Option.bind (y08 (8:Nat) (m,(0:Int),(0:Int),())) fun v0=>some ((v0.1.1,v0.1.2.1,()),()))
theorem yaF(n:Nat)(x:zK_a.den):runF zK_g (yT4 n) Tryz.f123 zK_a zK_r x=zK_m n x.1:=by kernel_rfl
def zK_M(m:List (List (Q4))):Option ((Q4)×Unit):=zK_m 0 m
theorem yRz(m:List (List (Q4)))(y:(Q4)×Unit)(h:zK_M m=some y):∃ n,zK_m n m=some y:=⟨0,h⟩
def zK_e:Entry:={ f:=123,args:=zK_a,ress:=zK_r,m:=fun x=>zK_M x.1 }
theorem yJF:FnOK Tryz.prog zK_e:=yJ (g:=zK_g) (fn:=Tryz.f123) yA yI (y6 ya0 eNil) (by kernel_rfl) (by kernel_rfl) (by kernel_rfl) (fun x y h=>let ⟨n,hn⟩:=yRz x.1 y h;⟨yT4 n,iNil,(yaF n x).trans hn⟩)
abbrev yRS:Ty:=.pair t3 (.pair t3 .unit)
abbrev ySM:Ty:=.pair t69 .unit
def yWo:G:={ T:=T,E:=[z0I_e],muts:=[],fz:=[] }
def yZZ:List (List Nat):=[]
def yMC(n:Nat):Ann:={ keep:=yZZ,fuel:=n,inl:=[],deep:=0 }
def yOS(n:Nat)(num:Int)(den:Int):Option ((Q4)×Unit) :=
  (Option.bind (yAf den [num]) fun v0=>(bif v0.1==0 then none else (bif v0.1==0 then none else some ((IntKind.i64.wrap (num.tdiv v0.1),IntKind.i64.wrap (den.tdiv v0.1),()),()))))
theorem yRf(n:Nat)(x:yRS.den):runF yWo (yMC n) Tryz.f127 yRS ySM x=yOS n x.1 x.2.1:=by kernel_rfl
def yFS(num:Int)(den:Int):Option ((Q4)×Unit):=yOS 0 num den
theorem yQt(num:Int)(den:Int)(y:(Q4)×Unit)(h:yFS num den=some y):∃ n,yOS n num den=some y:=⟨0,h⟩
def z11_e:Entry:={ f:=127,args:=yRS,ress:=ySM,m:=fun x=>yFS x.1 x.2.1 }
theorem yHh:FnOK Tryz.prog z11_e:=yJ (g:=yWo) (fn:=Tryz.f127) yA yI (y6 yN8 eNil) (by kernel_rfl) (by kernel_rfl) (by kernel_rfl) (fun x y h=>let ⟨n,hn⟩:=yQt x.1 x.2.1 y h;⟨yMC n,iNil,(yRf n x).trans hn⟩)
abbrev yOj:Ty:=.pair t22 (.pair t23 (.pair t3 .unit))
abbrev yVa:Ty:=.pair t25 .unit
def ySa:G:={ T:=T,E:=[z0B_e],muts:=[13,19],fz:=[15] }
def yYd:List (List Nat):=[[1,6,7,8,9]]
def yMA(n:Nat):Ann:={ keep:=yYd,fuel:=n,inl:=[],deep:=0 }
def yEf(n:Nat)(r1:List (Q4)→Int→Int→Int→List (Q3)→Int→List (Q4)→Option ((Q2)×Unit))(aT:List (Q4))(aJ:Int)(bd:Int)(ae:Int)(ac:List (Q3))(aq:Int)(aw:List (Q4)):Option ((Q2)×Unit) :=
  (bif decide (bd < (↑aT.length:Int))then (Option.bind (idx aT bd) fun v2=>(bif aJ==0 then none else (Option.bind (idx aT bd) fun v3=>(bif aJ==0 then none else (bif decide (aw.length+(1:Nat)≤memMax)then r1 aT aJ (IntKind.i64.wrap (bd+1)) ae ac aq (aw++[(IntKind.i64.wrap (v2.1.tdiv aJ),IntKind.i64.wrap (v3.2.1.tdiv aJ),())])else none)))))else some ((ac,aw,aq,()),()))
def y6f(n:Nat)(k:Nat)(aT:List (Q4))(aJ:Int)(bd:Int)(ae:Int)(ac:List (Q3))(aq:Int)(aw:List (Q4)):Option ((Q2)×Unit) :=
  iter (fun r y=>yEf n (fun aT aJ bd ae ac aq aw=>r ((aT,(aJ,(bd,()))),(((ae,()),((ac,(aq,())),(aw,()))),()))) y.1.1 y.1.2.1 y.1.2.2.1 y.2.1.1.1 y.2.1.2.1.1 y.2.1.2.1.2.1 y.2.1.2.2.1) k ((aT,(aJ,(bd,()))),(((ae,()),((ac,(aq,())),(aw,()))),()))
def yJh(n:Nat)(l:List (Q3))(a:List (Q4))(den:Int):Option ((Q2)×Unit) :=
  (Option.bind (y8Q a den) fun v0=>(bif decide ((0:Nat)+l.length≤memMax)then (bif v0.1==0 then none else (y6f n n (a) (v0.1) ((0:Int)) ((0:Int)) (l) (IntKind.i64.wrap (den.tdiv v0.1)) ([])))else none))
theorem ySQ(n:Nat)(x:yOj.den):runF ySa (yMA n) Tryz.f141 yOj yVa x=yJh n x.1 x.2.1 x.2.2.1:=by kernel_rfl
def yAi(aT:List (Q4))(aJ:Int)(ae:Int)(ac:List (Q3))(aq:Int)(bd:Int)(v2:Q4)(aw:List (Q4)):Option (((Q2)×Unit)⊕(List (Q4))) :=
  (bif aJ==0 then none else (Option.bind (idx aT bd) fun v3=>(bif aJ==0 then none else (bif decide (aw.length+(1:Nat)≤memMax)then (some (Sum.inr (aw++[(IntKind.i64.wrap (v2.1.tdiv aJ),IntKind.i64.wrap (v3.2.1.tdiv aJ),())])))else none))))
def yE2(aT:List (Q4))(aJ:Int)(ae:Int)(ac:List (Q3))(aq:Int)(aw:List (Q4)):Option ((Q2)×Unit) :=
  (some (((ac,aw,aq,()),())))
theorem yDP(n:Nat)(hn:big≤n)(aT:List (Q4))(aJ:Int)(ae:Int)(ac:List (Q3))(aq:Int)(aw:List (Q4))(hx:List.length (aT) < lenMax):LeF some (yQ (fun ah aI aa=>yAi aT aJ ae ac aq ah aI aa) (fun aa=>yE2 aT aJ ae ac aq aa) 0 (aT) aw) (y6f n n aT aJ 0 ae ac aq aw):=by
  refine yd (f:=some) (W:=fun aX ah aa=>y6f n aX aT aJ ah ae ac aq aa) (body:=(fun ah aI aa=>yAi aT aJ ae ac aq ah aI aa)) (fin:=(fun aa=>yE2 aT aJ ae ac aq aa)) (fun aX ah aa=>?_) hx aw n (by unfold big at hn;unfold lenMax at hx;omega)
  show LeF _ _ (yEf n (y6f n aX) aT aJ ah ae ac aq aa)
  exact y8 (yE fun v2=>(y8 y0C (yE fun v3=>(y8 y0C (y8 (yB rfl) y0C))))) (y0c (yB rfl))
def y8K(l:List (Q3))(a:List (Q4))(den:Int):Option ((Q2)×Unit) :=
  (Option.bind (y8Q a den) fun v0=>(bif decide ((0:Nat)+l.length≤memMax)then (bif v0.1==0 then none else (bif decide (List.length (a) < lenMax)then yQ (fun ah aI aa=>yAi (a) (v0.1) ((0:Int)) (l) (IntKind.i64.wrap (den.tdiv v0.1)) ah aI aa) (fun aa=>yE2 (a) (v0.1) ((0:Int)) (l) (IntKind.i64.wrap (den.tdiv v0.1)) aa) 0 (a) ([])else none))else none))
theorem yPS(l:List (Q3))(a:List (Q4))(den:Int)(y:(Q2)×Unit)(h:y8K l a den=some y):∃ n,yJh n l a den=some y :=
  ⟨big,LeF.top (show LeF some (y8K l a den) (yJh big l a den)from (fun (n:Nat) (hn:big≤n)=>show LeF some (y8K l a den) (yJh n l a den)from (yE fun v0=>(y8 (y8 y0C (yg fun hx=>by apply yDP n hn;exact hx)) y0C))) big (Nat.le_refl _)) h⟩
def z0C_e:Entry:={ f:=141,args:=yOj,ress:=yVa,m:=fun x=>y8K x.1 x.2.1 x.2.2.1 }
theorem yMH:FnOK Tryz.prog z0C_e:=yJ (g:=ySa) (fn:=Tryz.f141) yA yI (y6 yN5 eNil) (by kernel_rfl) (by kernel_rfl) (by kernel_rfl) (fun x y h=>let ⟨n,hn⟩:=yPS x.1 x.2.1 x.2.2.1 y h;⟨yMA n,iNil,(ySQ n x).trans hn⟩)
abbrev yO3:Ty:=.pair t35 (.pair t61 .unit)
abbrev yWg:Ty:=.pair t41 (.pair t28 .unit)
def yUA:G:={ T:=T,E:=[zI_e,zW_e,z0y_e],muts:=[7],fz:=[] }
def yaa:List (List Nat):=[[0,1,7,8,9]]
def yLZ(n:Nat):Ann:={ keep:=yaa,fuel:=n,inl:=[],deep:=0 }
def yJo(n:Nat)(r2:List Nat→Nat→Int→Int→List Int→Option (List Int×Int×Unit))(ba:List Nat)(af:Nat)(aK:Int)(b9:Int)(be:List Int):Option (List Int×Int×Unit) :=
  (bif decide (b9 < (↑ba.length:Int))then (Option.bind (idx ba b9) fun v3=>(Option.bind (idx ba (IntKind.i64.wrap (b9 - (1:Int)))) fun v4=>(bif y0p Go.BinOp.gtr Go.FloatKind.f32 (y0g Go.BinOp.mul Go.FloatKind.f32 af (y0g Go.BinOp.sub Go.FloatKind.f32 v3 v4)) (nat_lit 0)then r2 ba af b9 (IntKind.i64.wrap (b9+1)) be else (bif y0p Go.BinOp.lss Go.FloatKind.f32 (y0g Go.BinOp.mul Go.FloatKind.f32 af (y0g Go.BinOp.sub Go.FloatKind.f32 v3 v4)) (nat_lit 0)then (bif decide (aK ≥ 0)then (bif decide (be.length+(1:Nat)≤memMax)then r2 ba af (-1:Int) (IntKind.i64.wrap (b9+1)) (be++[aK])else none)else r2 ba af (-1:Int) (IntKind.i64.wrap (b9+1)) be)else r2 ba af aK (IntKind.i64.wrap (b9+1)) be))))else some (be,(0:Int),()))
def yJq(n:Nat)(k:Nat)(ba:List Nat)(af:Nat)(aK:Int)(b9:Int)(be:List Int):Option (List Int×Int×Unit) :=
  iter (fun r y=>yJo n (fun ba af aK b9 be=>r ((ba,(af,(aK,(b9,())))),((be,()),()))) y.1.1 y.1.2.1 y.1.2.2.1 y.1.2.2.2.1 y.2.1.1) k ((ba,(af,(aK,(b9,())))),((be,()),()))
def yO8(n:Nat)(l:List Nat)(direction:Nat):Option (List Int×Int×Unit) :=
  (bif decide ((↑l.length:Int) > 4096)then some ([],(5:Int),())else (Option.bind (zI_M l fun (x:Nat×Unit)=>zW_M x.1) fun v0=>(Option.bind (y1g v0.1) fun v1=>(bif v1.1 != 0 then some ([],v1.1,())else (yJq n n (l) (direction) ((-1:Int)) ((1:Int)) ([]))))))
theorem yWD(n:Nat)(x:yO3.den):runF yUA (yLZ n) Tryz.f154 yO3 yWg x=yO8 n x.1 x.2.1:=by kernel_rfl
def yJv(l:List Nat)(direction:Nat):Option (List Int×Int×Unit):=yO8 1000 l direction
theorem yQZ(l:List Nat)(direction:Nat)(y:List Int×Int×Unit)(h:yJv l direction=some y):∃ n,yO8 n l direction=some y:=⟨1000,h⟩
def z0e_e:Entry:={ f:=154,args:=yO3,ress:=yWg,m:=fun x=>yJv x.1 x.2.1 }
theorem yLl:FnOK Tryz.prog z0e_e:=yJ (g:=yUA) (fn:=Tryz.f154) yA yI (y6 yZn (y6 yVB (y6 y3S eNil))) (by kernel_rfl) (by kernel_rfl) (by kernel_rfl) (fun x y h=>let ⟨n,hn⟩:=yQZ x.1 x.2.1 y h;⟨yLZ n,iNil,(yWD n x).trans hn⟩)
abbrev zM_a:Ty:=.pair t55 .unit
abbrev zM_r:Ty:=.pair t28 .unit
def zM_g:G:={ T:=T,E:=[z06_e,z1D_e,z0f_e,z0y_e],muts:=[],fz:=[] }
def zM_k:List (List Nat):=[]
def yVq(n:Nat):Ann:={ keep:=zM_k,fuel:=n,inl:=[],deep:=0 }
def zM_m(n:Nat)(c:Q3):Option (Int×Unit) :=
  (Option.bind (yCP c.1) fun v0=>(Option.bind (y1g [(z1D (!v0.1) (8:Int)).1,(z0f c.2.1 (1:Int) (96:Int)).1,(z0f c.2.2.1 (0:Int) (3:Int)).1]) fun v1=>some (v1.1,())))
theorem yZt(n:Nat)(x:zM_a.den):runF zM_g (yVq n) Tryz.f160 zM_a zM_r x=zM_m n x.1:=by kernel_rfl
def zM_M(c:Q3):Option (Int×Unit):=zM_m 0 c
theorem yV3(c:Q3)(y:Int×Unit)(h:zM_M c=some y):∃ n,zM_m n c=some y:=⟨0,h⟩
def zM_e:Entry:={ f:=160,args:=zM_a,ress:=zM_r,m:=fun x=>zM_M x.1 }
theorem yaJ:FnOK Tryz.prog zM_e:=yJ (g:=zM_g) (fn:=Tryz.f160) yA yI (y6 yMF (y6 y4W (y6 y9F (y6 y3S eNil)))) (by kernel_rfl) (by kernel_rfl) (by kernel_rfl) (fun x y h=>let ⟨n,hn⟩:=yV3 x.1 y h;⟨yVq n,iNil,(yZt n x).trans hn⟩)
abbrev yP5:Ty:=.pair t55 (.pair (.ref t60) (.pair (.ref t31) (.pair (.ref t3) .unit)))
abbrev yXI:Ty:=.pair t57 .unit
def ySm:G:={ T:=T,E:=[z0z_e],muts:=[],fz:=[] }
def yat:List (List Nat):=[]
def yN4(n:Nat):Ann:={ keep:=yat,fuel:=n,inl:=[],deep:=0 }
def yNo(n:Nat)(c:Q3)(p1:Q1)(p2:List (Q3))(p3:Int):Option ((Q4)×Unit) :=
  (Option.bind (idx p2 p3) fun v0=>(Option.bind (yGT p1 c v0) fun v1=>some ((v1.1.1,v1.1.2.1,()),())))
theorem yWt(n:Nat)(x:yP5.den):runF ySm (yN4 n) Tryz.f163 yP5 yXI x=yNo n x.1 x.2.1 x.2.2.1 x.2.2.2.1:=by kernel_rfl
def yNV(c:Q3)(p1:Q1)(p2:List (Q3))(p3:Int):Option ((Q4)×Unit):=yNo 0 c p1 p2 p3
theorem yQm(c:Q3)(p1:Q1)(p2:List (Q3))(p3:Int)(y:(Q4)×Unit)(h:yNV c p1 p2 p3=some y):∃ n,yNo n c p1 p2 p3=some y:=⟨0,h⟩
def z02_e:Entry:={ f:=163,args:=yP5,ress:=yXI,m:=fun x=>yNV x.1 x.2.1 x.2.2.1 x.2.2.2.1 }
theorem yWY:FnOK Tryz.prog z02_e:=yJ (g:=ySm) (fn:=Tryz.f163) yA yI (y6 yHr eNil) (by kernel_rfl) (by kernel_rfl) (by kernel_rfl) (fun x y h=>let ⟨n,hn⟩:=yQm x.1 x.2.1 x.2.2.1 x.2.2.2.1 y h;⟨yN4 n,iNil,(yWt n x).trans hn⟩)
abbrev zm_a:Ty:=.pair t55 (.pair (.ref t60) (.pair (.ref t55) .unit))
abbrev zm_r:Ty:=.pair t57 .unit
def zm_g:G:={ T:=T,E:=[z0z_e],muts:=[],fz:=[] }
def zm_k:List (List Nat):=[]
def ySH(n:Nat):Ann:={ keep:=zm_k,fuel:=n,inl:=[],deep:=0 }
def zm_m(n:Nat)(b:Q3)(p1:Q1)(p2:Q3):Option ((Q4)×Unit) :=
  (Option.bind (yGT p1 p2 b) fun v0=>some ((v0.1.1,v0.1.2.1,()),()))
theorem ya3(n:Nat)(x:zm_a.den):runF zm_g (ySH n) Tryz.f193 zm_a zm_r x=zm_m n x.1 x.2.1 x.2.2.1:=by kernel_rfl
def zm_M(b:Q3)(p1:Q1)(p2:Q3):Option ((Q4)×Unit):=zm_m 0 b p1 p2
theorem ySV(b:Q3)(p1:Q1)(p2:Q3)(y:(Q4)×Unit)(h:zm_M b p1 p2=some y):∃ n,zm_m n b p1 p2=some y:=⟨0,h⟩
def zm_e:Entry:={ f:=193,args:=zm_a,ress:=zm_r,m:=fun x=>zm_M x.1 x.2.1 x.2.2.1 }
theorem yZD:FnOK Tryz.prog zm_e:=yJ (g:=zm_g) (fn:=Tryz.f193) yA yI (y6 yHr eNil) (by kernel_rfl) (by kernel_rfl) (by kernel_rfl) (fun x y h=>let ⟨n,hn⟩:=ySV x.1 x.2.1 x.2.2.1 y h;⟨ySH n,iNil,(ya3 n x).trans hn⟩)
abbrev zU_a:Ty:=.pair t35 .unit
abbrev zU_r:Ty:=.pair t28 .unit
def zU_g:G:={ T:=T,E:=[zW_e],muts:=[],fz:=[] }
def zU_k:List (List Nat):=[[3,6,7,8]]
def yYL(n:Nat):Ann:={ keep:=zU_k,fuel:=n,inl:=[],deep:=0 }
def yPn(n:Nat)(r0:Int→List Nat→Int→Int→Option (Int×Unit))(aY:Int)(bm:List Nat)(aF:Int)(b6:Int):Option (Int×Unit) :=
  (bif decide (b6 < aF)then (Option.bind (idx bm b6) fun v1=>(Option.bind (zW_M v1) fun v2=>(bif v2.1 != 0 then some (v2.1,())else r0 v2.1 bm aF (IntKind.i64.wrap (b6+1)))))else some (aY,()))
def yR0(n:Nat)(k:Nat)(aY:Int)(bm:List Nat)(aF:Int)(b6:Int):Option (Int×Unit) :=
  iter (fun r y=>yPn n (fun aY bm aF b6=>r ((aY,(bm,(aF,(b6,())))),((),()))) y.1.1 y.1.2.1 y.1.2.2.1 y.1.2.2.2.1) k ((aY,(bm,(aF,(b6,())))),((),()))
def zU_m(n:Nat)(l:List Nat):Option (Int×Unit) :=
  (yR0 n n ((0:Int)) (l) ((↑l.length:Int)) ((0:Int)))
theorem yZu(n:Nat)(x:zU_a.den):runF zU_g (yYL n) Tryz.f202 zU_a zU_r x=zU_m n x.1:=by kernel_rfl
def zU_M(l:List Nat):Option (Int×Unit):=zU_m 1000 l
theorem yWe(l:List Nat)(y:Int×Unit)(h:zU_M l=some y):∃ n,zU_m n l=some y:=⟨1000,h⟩
def zU_e:Entry:={ f:=202,args:=zU_a,ress:=zU_r,m:=fun x=>zU_M x.1 }
theorem yaI:FnOK Tryz.prog zU_e:=yJ (g:=zU_g) (fn:=Tryz.f202) yA yI (y6 yVB eNil) (by kernel_rfl) (by kernel_rfl) (by kernel_rfl) (fun x y h=>let ⟨n,hn⟩:=yWe x.1 y h;⟨yYL n,iNil,(yZu n x).trans hn⟩)
abbrev zX_a:Ty:=.pair t58 .unit
abbrev zX_r:Ty:=.pair t28 .unit
def zX_g:G:={ T:=T,E:=[ze_e,z0g_e,z0M_e],muts:=[],fz:=[] }
def zX_k:List (List Nat):=[[0,9,10,11]]
def yRw(n:Nat):Ann:={ keep:=zX_k,fuel:=n,inl:=[],deep:=0 }
def yQg(n:Nat)(r0:List (Q4)→List (Q4)→Int→Int→Option (Int×Unit))(av:List (Q4))(b4:List (Q4))(bc:Int)(aV:Int):Option (Int×Unit) :=
  (bif decide (aV < bc)then (Option.bind (idx b4 aV) fun v1=>(bif decide (aV > 0)then (Option.bind (idx av (if Bool.true=Bool.true then if IntKind.i64.wrap (aV - (1:Int)) > 0 then IntKind.i64.wrap (aV - (1:Int))else (0:Int)else if IntKind.i64.wrap (aV - (1:Int)) < 0 then IntKind.i64.wrap (aV - (1:Int))else (0:Int))) fun v2=>(Option.bind (yFp [(ze (v1.1,v1.2.1,())).1,(z0g (decide (v1.1≤v2.2.1)) (11:Int)).1]) fun v3=>(bif v3.1 != 0 then some (v3.1,())else r0 av b4 bc (IntKind.i64.wrap (aV+1)))))else (Option.bind (yFp [(ze (v1.1,v1.2.1,())).1,(z0g Bool.false (11:Int)).1]) fun v4=>(bif v4.1 != 0 then some (v4.1,())else r0 av b4 bc (IntKind.i64.wrap (aV+1))))))else some ((0:Int),()))
def yQo(n:Nat)(k:Nat)(av:List (Q4))(b4:List (Q4))(bc:Int)(aV:Int):Option (Int×Unit) :=
  iter (fun r y=>yQg n (fun av b4 bc aV=>r ((av,(b4,(bc,(aV,())))),((),()))) y.1.1 y.1.2.1 y.1.2.2.1 y.1.2.2.2.1) k ((av,(b4,(bc,(aV,())))),((),()))
def zX_m(n:Nat)(l:List (Q4)):Option (Int×Unit) :=
  (bif decide ((↑l.length:Int) > 2048)then some ((5:Int),())else (yQo n n (l) (l) ((↑l.length:Int)) ((0:Int))))
theorem yYT(n:Nat)(x:zX_a.den):runF zX_g (yRw n) Tryz.f203 zX_a zX_r x=zX_m n x.1:=by kernel_rfl
def zX_M(l:List (Q4)):Option (Int×Unit):=zX_m 1000 l
theorem yTT(l:List (Q4))(y:Int×Unit)(h:zX_M l=some y):∃ n,zX_m n l=some y:=⟨1000,h⟩
def zX_e:Entry:={ f:=203,args:=zX_a,ress:=zX_r,m:=fun x=>zX_M x.1 }
theorem yas:FnOK Tryz.prog zX_e:=yJ (g:=zX_g) (fn:=Tryz.f203) yA yI (y6 yYa (y6 yB4 (y6 yLe eNil))) (by kernel_rfl) (by kernel_rfl) (by kernel_rfl) (fun x y h=>let ⟨n,hn⟩:=yTT x.1 y h;⟨yRw n,iNil,(yYT n x).trans hn⟩)
abbrev zQ_a:Ty:=.pair t63 (.pair (.ref t60) .unit)
abbrev zQ_r:Ty:=.pair t4 .unit
def zQ_g:G:={ T:=T,E:=[zC_e,zO_e],muts:=[],fz:=[] }
def zQ_k:List (List Nat):=[]
def yUG(n:Nat):Ann:={ keep:=zQ_k,fuel:=n,inl:=[],deep:=0 }
def zQ_m(n:Nat)(s:Q4)(p1:Q1):Option (Bool×Unit) :=
  (bif decide ((0:Int)≤s.1) && decide (s.1≤s.2.1) && decide (s.2.1≤(↑p1.2.2.1.length:Int))then (Option.bind (zC_M (List.drop s.1.toNat (List.take s.2.1.toNat p1.2.2.1)) fun (x:Nat×Unit)=>zO_M x.1) fun v0=>some (v0.1,()))else none)
theorem yYP(n:Nat)(x:zQ_a.den):runF zQ_g (yUG n) Tryz.f206 zQ_a zQ_r x=zQ_m n x.1 x.2.1:=by kernel_rfl
def zQ_M(s:Q4)(p1:Q1):Option (Bool×Unit):=zQ_m 0 s p1
theorem yRu(s:Q4)(p1:Q1)(y:Bool×Unit)(h:zQ_M s p1=some y):∃ n,zQ_m n s p1=some y:=⟨0,h⟩
def zQ_e:Entry:={ f:=206,args:=zQ_a,ress:=zQ_r,m:=fun x=>zQ_M x.1 x.2.1 }
theorem yaD:FnOK Tryz.prog zQ_e:=yJ (g:=zQ_g) (fn:=Tryz.f206) yA yI (y6 yZ6 (y6 yYu eNil)) (by kernel_rfl) (by kernel_rfl) (by kernel_rfl) (fun x y h=>let ⟨n,hn⟩:=yRu x.1 x.2.1 y h;⟨yUG n,iNil,(yYP n x).trans hn⟩)
end
end Go.Tw
end
section
set_option maxRecDepth 1000000
namespace Go.Tw
open Go.Vx Go.Vx.B Go.Proofs
noncomputable section
abbrev zh_a:Ty:=.pair t25 .unit
abbrev zh_r:Ty:=.pair t3 .unit
def zh_g:G:={ T:=T,E:=[zJ_e,zZ_e,zg_e,z0B_e],muts:=[],fz:=[] }
def zh_k:List (List Nat):=[[1,5]]
def yXt(n:Nat):Ann:={ keep:=zh_k,fuel:=n,inl:=[],deep:=0 }
def yHi(n:Nat)(r1:Q2→Int→Option (Int×Unit))(aL:Q2)(bj:Int):Option (Int×Unit) :=
  (bif decide (bj < (↑aL.2.1.length:Int))then (Option.bind (idx aL.2.1 bj) fun v2=>(Option.bind (zg_M v2) fun v3=>(bif v3.1 != 0 then some (v3.1,())else r1 aL (IntKind.i64.wrap (bj+1)))))else (Option.bind (y8Q aL.2.1 aL.2.2.1) fun v4=>(bif v4.1 != 1 then some ((1:Int),())else some ((0:Int),()))))
def y9c(n:Nat)(k:Nat)(aL:Q2)(bj:Int):Option (Int×Unit) :=
  iter (fun r y=>yHi n (fun aL bj=>r ((aL,(bj,())),((),()))) y.1.1 y.1.2.1) k ((aL,(bj,())),((),()))
def zh_m(n:Nat)(t:Q2):Option (Int×Unit) :=
  (Option.bind (zJ_M t.1) fun v0=>(bif v0.1 != 0 then some (v0.1,())else (bif (↑t.2.1.length:Int) != (↑t.1.length:Int)then some ((2:Int),())else (bif (zZ t.2.2.1 (1:Int) (268435456:Int)).1 != 0 then some ((zZ t.2.2.1 (1:Int) (268435456:Int)).1,())else (y9c n n (t) ((0:Int)))))))
theorem yae(n:Nat)(x:zh_a.den):runF zh_g (yXt n) Tryz.f23 zh_a zh_r x=zh_m n x.1:=by kernel_rfl
def yGj(aL:Q2)(bj:Int)(v2:Q4):Option ((Int×Unit)⊕Unit) :=
  (Option.bind (zg_M v2) fun v3=>(bif v3.1 != 0 then (some (Sum.inl ((v3.1,()))))else (some (Sum.inr ()))))
def yF2(aL:Q2):Option (Int×Unit) :=
  (Option.bind (y8Q aL.2.1 aL.2.2.1) fun v4=>(bif v4.1 != 1 then (some (((1:Int),())))else (some (((0:Int),())))))
theorem yGG(n:Nat)(hn:big≤n)(aL:Q2)(hx:List.length (aL.2.1) < lenMax):LeF some (yQ (fun ah aI aa=>yGj aL ah aI) (fun aa=>yF2 aL) 0 (aL.2.1) ()) (y9c n n aL 0):=by
  refine yd (f:=some) (W:=fun aX ah aa=>y9c n aX aL ah) (body:=(fun ah aI aa=>yGj aL ah aI)) (fin:=(fun aa=>yF2 aL)) (fun aX ah aa=>?_) hx () n (by unfold big at hn;unfold lenMax at hx;omega)
  show LeF _ _ (yHi n (y9c n aX) aL ah)
  exact y8 (yE fun v2=>(yE fun v3=>(y8 (yB rfl) (yB rfl)))) (y0c (yE fun v4=>(y8 (yB rfl) (yB rfl))))
def zh_M(t:Q2):Option (Int×Unit) :=
  (Option.bind (zJ_M t.1) fun v0=>(bif v0.1 != 0 then (some ((v0.1,())))else (bif (↑t.2.1.length:Int) != (↑t.1.length:Int)then (some (((2:Int),())))else (bif (zZ t.2.2.1 (1:Int) (268435456:Int)).1 != 0 then (some (((zZ t.2.2.1 (1:Int) (268435456:Int)).1,())))else (bif decide (List.length (t.2.1) < lenMax)then yQ (fun ah aI aa=>yGj (t) ah aI) (fun aa=>yF2 (t)) 0 (t.2.1) ()else none)))))
theorem ySv(t:Q2)(y:Int×Unit)(h:zh_M t=some y):∃ n,zh_m n t=some y :=
  ⟨big,LeF.top (show LeF some (zh_M t) (zh_m big t)from (fun (n:Nat) (hn:big≤n)=>show LeF some (zh_M t) (zh_m n t)from (yE fun v0=>(y8 (yB rfl) (y8 (yB rfl) (y8 (yB rfl) (yg fun hx=>by apply yGG n hn;exact hx)))))) big (Nat.le_refl _)) h⟩
def zh_e:Entry:={ f:=23,args:=zh_a,ress:=zh_r,m:=fun x=>zh_M x.1 }
theorem yYl:FnOK Tryz.prog zh_e:=yJ (g:=zh_g) (fn:=Tryz.f23) yA yI (y6 yUX (y6 yKn (y6 yZM (y6 yN5 eNil)))) (by kernel_rfl) (by kernel_rfl) (by kernel_rfl) (fun x y h=>let ⟨n,hn⟩:=ySv x.1 y h;⟨yXt n,iNil,(yae n x).trans hn⟩)
abbrev yOt:Ty:=.pair t25 (.pair t25 .unit)
abbrev yUK:Ty:=.pair t25 (.pair t3 .unit)
def yV2:G:={ T:=T,E:=[z0T_e,z0R_e,z0n_e,zJ_e,z0C_e],muts:=[7,23],fz:=[] }
def yaK:List (List Nat):=[[2,3,4,6,7,8],[2,3,4,6,7,9],[2,3,4,6,7,9,10,11]]
def yN0(n:Nat):Ann:={ keep:=yaK,fuel:=n,inl:=[],deep:=0 }
def y75(n:Nat)(r6:Q2→Q2→Int→Int→List (Q3)→List (Q4)→Option ((Q2)×Int×Unit))(j18:Q2)(j19:Q2)(j20:Int)(j21:Int)(j22:Int)(j23:List (Q3))(j24:List (Q4))(j25:List UInt8)(j26:Int)(j27:Int):Option ((Q2)×Int×Unit) :=
  (Option.bind (idx j19.2.1 j20) fun v28=>(bif decide (j21 < (↑j18.1.length:Int))then (Option.bind (idx j24 j21) fun v29=>(Option.bind (j24[j21.toNat]?) fun v30=>(Option.bind (idx j24 j21) fun v31=>(Option.bind (j24[j21.toNat]?) fun v32=>r6 j18 j19 (IntKind.i64.wrap (j20+1)) j22 j23 (j24.set j21.toNat (z0n v30 ((z0R v28 (j18.2.2.1,(0:Int),())).1.1,(z0R v28 (j18.2.2.1,(0:Int),())).1.2.1,())).1)))))else (bif decide (j23.length+(1:Nat)≤memMax)then (bif decide (j24.length+(1:Nat)≤memMax)then r6 j18 j19 (IntKind.i64.wrap (j20+1)) j22 (j23++[(j25,j26,j27,())]) (j24++[((z0R v28 (j18.2.2.1,(0:Int),())).1.1,(z0R v28 (j18.2.2.1,(0:Int),())).1.2.1,())])else none)else none)))
def yEd(n:Nat)(r6:Q2→Q2→Int→Int→List (Q3)→List (Q4)→Option ((Q2)×Int×Unit))(r8:Q2→Q2→Int→Int→Int→List (Q3)→List (Q4)→List UInt8→Int→Int→Option ((Q2)×Int×Unit))(aC:Q2)(aQ:Q2)(aR:Int)(aD:Int)(ai:Int)(ay:List (Q3))(az:List (Q4))(al:List UInt8)(aj:Int)(ak:Int):Option ((Q2)×Int×Unit) :=
  (bif decide (aD < (↑aC.1.length:Int))then (Option.bind (idx aC.1 aD) fun v9=>(bif v9.2.1 != aj then r8 aC aQ aR (IntKind.i64.wrap (aD+1)) ai ay az al aj ak else (Option.bind (idx aC.1 aD) fun v10=>(bif v10.2.2.1 != ak then r8 aC aQ aR (IntKind.i64.wrap (aD+1)) ai ay az al aj ak else (y75 n r6 (aC) (aQ) (aR) (aD) (ai) (ay) (az) (al) (aj) (ak))))))else (y75 n r6 (aC) (aQ) (aR) (aD) (ai) (ay) (az) (al) (aj) (ak)))
def y6c(n:Nat)(r6:Q2→Q2→Int→Int→List (Q3)→List (Q4)→Option ((Q2)×Int×Unit))(k:Nat)(aC:Q2)(aQ:Q2)(aR:Int)(aD:Int)(ai:Int)(ay:List (Q3))(az:List (Q4))(al:List UInt8)(aj:Int)(ak:Int):Option ((Q2)×Int×Unit) :=
  iter (fun r y=>yEd n r6 (fun aC aQ aR aD ai ay az al aj ak=>r ((aC,(aQ,(aR,(aD,())))),(((ai,()),(ay,(az,((al,(aj,(ak,()))),())))),()))) y.1.1 y.1.2.1 y.1.2.2.1 y.1.2.2.2.1 y.2.1.1.1 y.2.1.2.1 y.2.1.2.2.1 y.2.1.2.2.2.1.1 y.2.1.2.2.2.1.2.1 y.2.1.2.2.2.1.2.2.1) k ((aC,(aQ,(aR,(aD,())))),(((ai,()),(ay,(az,((al,(aj,(ak,()))),())))),()))
def yDf(n:Nat)(r6:Q2→Q2→Int→Int→List (Q3)→List (Q4)→Option ((Q2)×Int×Unit))(aU:Q2)(aM:Q2)(bf:Int)(ar:Int)(aE:List (Q3))(aN:List (Q4)):Option ((Q2)×Int×Unit) :=
  (bif decide (bf < (↑aM.1.length:Int))then (Option.bind (idx aM.1 bf) fun v7=>(y6c n r6 n (aU) (aM) (bf) ((0:Int)) (ar) (aE) (aN) (v7.1) (v7.2.1) (v7.2.2.1)))else (bif decide ((↑aE.length:Int) > 4)then some (([],[],(0:Int),()),(5:Int),())else (Option.bind (zJ_M aE) fun v34=>(bif v34.1 != 0 then some (([],[],(0:Int),()),v34.1,())else (Option.bind (y8K aE aN (IntKind.i64.wrap (aU.2.2.1 * aM.2.2.1))) fun v35=>some ((v35.1.1,v35.1.2.1,v35.1.2.2.1,()),(0:Int),()))))))
def y6o(n:Nat)(k:Nat)(aU:Q2)(aM:Q2)(bf:Int)(ar:Int)(aE:List (Q3))(aN:List (Q4)):Option ((Q2)×Int×Unit) :=
  iter (fun r y=>yDf n (fun aU aM bf ar aE aN=>r ((aU,(aM,(bf,()))),(((ar,()),(aE,(aN,()))),()))) y.1.1 y.1.2.1 y.1.2.2.1 y.2.1.1.1 y.2.1.2.1 y.2.1.2.2.1) k ((aU,(aM,(bf,()))),(((ar,()),(aE,(aN,()))),()))
def yEH(n:Nat)(r4:Q2→Q2→Int→Int→List (Q3)→List (Q4)→Option ((Q2)×Int×Unit))(aW:Q2)(aS:Q2)(bi:Int)(am:Int)(aA:List (Q3))(aG:List (Q4)):Option ((Q2)×Int×Unit) :=
  (bif decide (bi < (↑aA.length:Int))then (Option.bind (idx aW.2.1 bi) fun v5=>(bif decide (aG.length+(1:Nat)≤memMax)then r4 aW aS (IntKind.i64.wrap (bi+1)) am aA (aG++[(z0R v5 (aS.2.2.1,(0:Int),())).1])else none))else (y6o n n (aW) (aS) ((0:Int)) (am) (aA) (aG)))
def y6r(n:Nat)(k:Nat)(aW:Q2)(aS:Q2)(bi:Int)(am:Int)(aA:List (Q3))(aG:List (Q4)):Option ((Q2)×Int×Unit) :=
  iter (fun r y=>yEH n (fun aW aS bi am aA aG=>r ((aW,(aS,(bi,()))),(((am,()),(aA,(aG,()))),()))) y.1.1 y.1.2.1 y.1.2.2.1 y.2.1.1.1 y.2.1.2.1 y.2.1.2.2.1) k ((aW,(aS,(bi,()))),(((am,()),(aA,(aG,()))),()))
def yJG(n:Nat)(a:Q2)(b:Q2):Option ((Q2)×Int×Unit) :=
  (Option.bind (y7z a) fun v0=>(bif !v0.1 then some (([],[],(0:Int),()),(4:Int),())else (Option.bind (y7z b) fun v1=>(bif !v1.1 then some (([],[],(0:Int),()),(4:Int),())else (bif decide ((0:Nat)+a.1.length≤memMax)then (y6r n n (a) (b) ((0:Int)) ((0:Int)) (a.1) ([]))else none)))))
theorem yVf(n:Nat)(x:yOt.den):runF yV2 (yN0 n) Tryz.f45 yOt yUK x=yJG n x.1 x.2.1:=by kernel_rfl
def y7N(j18:Q2)(j19:Q2)(j20:Int)(j21:Int)(j22:Int)(j23:List (Q3))(j24:List (Q4))(j25:List UInt8)(j26:Int)(j27:Int):Option (((Q2)×Int×Unit)⊕((List (Q3))×(List (Q4)))) :=
  (Option.bind (idx j19.2.1 j20) fun v28=>(bif decide (j21 < (↑j18.1.length:Int))then (Option.bind (idx j24 j21) fun v29=>(Option.bind (j24[j21.toNat]?) fun v30=>(Option.bind (idx j24 j21) fun v31=>(Option.bind (j24[j21.toNat]?) fun v32=>(some (Sum.inr ((j23),(j24.set j21.toNat (z0n v30 ((z0R v28 (j18.2.2.1,(0:Int),())).1.1,(z0R v28 (j18.2.2.1,(0:Int),())).1.2.1,())).1))))))))else (bif decide (j23.length+(1:Nat)≤memMax)then (bif decide (j24.length+(1:Nat)≤memMax)then (some (Sum.inr ((j23++[(j25,j26,j27,())]),(j24++[((z0R v28 (j18.2.2.1,(0:Int),())).1.1,(z0R v28 (j18.2.2.1,(0:Int),())).1.2.1,())]))))else none)else none)))
theorem y3P(n:Nat)(hn:big≤n)(r6:Q2→Q2→Int→Int→List (Q3)→List (Q4)→Option ((Q2)×Int×Unit))(j18:Q2)(j19:Q2)(j20:Int)(j21:Int)(j22:Int)(j23:List (Q3))(j24:List (Q4))(j25:List UInt8)(j26:Int)(j27:Int):LeF (elim some fun (aa:((List (Q3))×(List (Q4))))=>r6 j18 j19 (IntKind.i64.wrap (j20+1)) j22 aa.1 aa.2) (y7N j18 j19 j20 j21 j22 j23 j24 j25 j26 j27) (y75 n r6 j18 j19 j20 j21 j22 j23 j24 j25 j26 j27) :=
  (yE fun v28=>(y8 (yE fun v29=>(yE fun v30=>(yE fun v31=>(yE fun v32=>(yB rfl))))) (y8 (y8 (yB rfl) y0C) y0C)))
def yC8(aC:Q2)(aQ:Q2)(aR:Int)(ai:Int)(ay:List (Q3))(az:List (Q4))(al:List UInt8)(aj:Int)(ak:Int)(aD:Int)(v9:Q3):Option ((((Q2)×Int×Unit)⊕((List (Q3))×(List (Q4))))⊕Unit) :=
  (bif v9.2.1 != aj then (some (Sum.inr ()))else (Option.bind (idx aC.1 aD) fun v10=>(bif v10.2.2.1 != ak then (some (Sum.inr ()))else (Option.map Sum.inl (y7N (aC) (aQ) (aR) (aD) (ai) (ay) (az) (al) (aj) (ak))))))
def yCE(aC:Q2)(aQ:Q2)(aR:Int)(ai:Int)(ay:List (Q3))(az:List (Q4))(al:List UInt8)(aj:Int)(ak:Int):Option (((Q2)×Int×Unit)⊕((List (Q3))×(List (Q4)))) :=
  (y7N (aC) (aQ) (aR) ((↑aC.1.length:Int)) (ai) (ay) (az) (al) (aj) (ak))
theorem yDI(n:Nat)(hn:big≤n)(r6:Q2→Q2→Int→Int→List (Q3)→List (Q4)→Option ((Q2)×Int×Unit))(aC:Q2)(aQ:Q2)(aR:Int)(ai:Int)(ay:List (Q3))(az:List (Q4))(al:List UInt8)(aj:Int)(ak:Int)(hx:List.length (aC.1) < lenMax):LeF (elim some fun (aa:((List (Q3))×(List (Q4))))=>r6 aC aQ (IntKind.i64.wrap (aR+1)) ai aa.1 aa.2) (yQ (fun ah aI aa=>yC8 aC aQ aR ai ay az al aj ak ah aI) (fun aa=>yCE aC aQ aR ai ay az al aj ak) 0 (aC.1) ()) (y6c n r6 n aC aQ aR 0 ai ay az al aj ak):=by
  refine yHo (f:=(elim some fun (aa:((List (Q3))×(List (Q4))))=>r6 aC aQ (IntKind.i64.wrap (aR+1)) ai aa.1 aa.2)) (W:=fun aX ah aa=>y6c n r6 aX aC aQ aR ah ai ay az al aj ak) (body:=(fun ah aI aa=>yC8 aC aQ aR ai ay az al aj ak ah aI)) (fin:=(fun aa=>yCE aC aQ aR ai ay az al aj ak)) (fun aX ah aa hi__=>?_) hx () n (by unfold big at hn;unfold lenMax at hx;omega)
  show LeF _ _ (yEd n r6 (y6c n r6 aX) aC aQ aR ah ai ay az al aj ak)
  rcases hi__ with hi__|hi__
  · exact yNp (decide_eq_true hi__) (yE fun v9=>(y8 (yB rfl) (yE fun v10=>(y8 (yB rfl) (y0c (by apply y3P n hn))))))
  · subst hi__;exact yR9 (by simp) (y0c (by apply y3P n hn))
def y9L(aU:Q2)(aM:Q2)(ar:Int)(bf:Int)(v7:Q3)(aE:List (Q3))(aN:List (Q4)):Option (((Q2)×Int×Unit)⊕((List (Q3))×(List (Q4)))) :=
  (bif decide (List.length (aU.1) < lenMax)then yQ (fun ah aI aa=>yC8 (aU) (aM) (bf) (ar) (aE) (aN) (v7.1) (v7.2.1) (v7.2.2.1) ah aI) (fun aa=>yCE (aU) (aM) (bf) (ar) (aE) (aN) (v7.1) (v7.2.1) (v7.2.2.1)) 0 (aU.1) ()else none)
def y7m(aU:Q2)(aM:Q2)(ar:Int)(aE:List (Q3))(aN:List (Q4)):Option ((Q2)×Int×Unit) :=
  (bif decide ((↑aE.length:Int) > 4)then (some ((([],[],(0:Int),()),(5:Int),())))else (Option.bind (zJ_M aE) fun v34=>(bif v34.1 != 0 then (some ((([],[],(0:Int),()),v34.1,())))else (Option.bind (y8K aE aN (IntKind.i64.wrap (aU.2.2.1 * aM.2.2.1))) fun v35=>(some (((v35.1.1,v35.1.2.1,v35.1.2.2.1,()),(0:Int),())))))))
theorem yCs(n:Nat)(hn:big≤n)(aU:Q2)(aM:Q2)(ar:Int)(aE:List (Q3))(aN:List (Q4))(hx:List.length (aM.1) < lenMax):LeF some (yQ (fun ah aI aa=>y9L aU aM ar ah aI aa.1 aa.2) (fun aa=>y7m aU aM ar aa.1 aa.2) 0 (aM.1) (aE,aN)) (y6o n n aU aM 0 ar aE aN):=by
  refine yd (f:=some) (W:=fun aX ah aa=>y6o n aX aU aM ah ar aa.1 aa.2) (body:=(fun ah aI aa=>y9L aU aM ar ah aI aa.1 aa.2)) (fin:=(fun aa=>y7m aU aM ar aa.1 aa.2)) (fun aX ah aa=>?_) hx (aE,aN) n (by unfold big at hn;unfold lenMax at hx;omega)
  show LeF _ _ (yDf n (y6o n aX) aU aM ah ar aa.1 aa.2)
  exact y8 (yE fun v7=>(yg fun hx=>by apply yDI n hn;exact hx)) (y0c (y8 (yB rfl) (yE fun v34=>(y8 (yB rfl) (yE fun v35=>(yB rfl))))))
def yED(aW:Q2)(aS:Q2)(am:Int)(aA:List (Q3))(bi:Int)(aG:List (Q4)):Option (((Q2)×Int×Unit)⊕(List (Q4))) :=
  (Option.bind (idx aW.2.1 bi) fun v5=>(bif decide (aG.length+(1:Nat)≤memMax)then (some (Sum.inr (aG++[(z0R v5 (aS.2.2.1,(0:Int),())).1])))else none))
def yDj(aW:Q2)(aS:Q2)(am:Int)(aA:List (Q3))(aG:List (Q4)):Option ((Q2)×Int×Unit) :=
  (bif decide (List.length (aS.1) < lenMax)then yQ (fun ah aI aa=>y9L (aW) (aS) (am) ah aI aa.1 aa.2) (fun aa=>y7m (aW) (aS) (am) aa.1 aa.2) 0 (aS.1) ((aA),(aG))else none)
theorem yCe(n:Nat)(hn:big≤n)(aW:Q2)(aS:Q2)(am:Int)(aA:List (Q3))(aG:List (Q4))(hx:((↑aA.length:Int))≤9223372036854775807):LeF some (y2p (fun ah aa=>yED aW aS am aA ah aa) (fun aa=>yDj aW aS am aA aa) (((↑aA.length:Int)) - 0).toNat 0 aG) (y6r n n aW aS 0 am aA aG):=by
  refine y6k (f:=some) (W:=fun aX ah aa=>y6r n aX aW aS ah am aA aa) (body:=(fun ah aa=>yED aW aS am aA ah aa)) (fin:=(fun aa=>yDj aW aS am aA aa)) (fun aX ah aa=>?_) hx aG n 0 (by decide) (by unfold big at hn;omega)
  show LeF _ _ (yEH n (y6r n aX) aW aS ah am aA aa)
  exact y8 (yE fun v5=>(y8 (yB rfl) y0C)) (y0c (yg fun hx=>by apply yCs n hn;exact hx))
def y86(a:Q2)(b:Q2):Option ((Q2)×Int×Unit) :=
  (Option.bind (y7z a) fun v0=>(bif !v0.1 then (some ((([],[],(0:Int),()),(4:Int),())))else (Option.bind (y7z b) fun v1=>(bif !v1.1 then (some ((([],[],(0:Int),()),(4:Int),())))else (bif decide ((0:Nat)+a.1.length≤memMax)then (bif decide (((↑a.1.length:Int))≤9223372036854775807)then y2p (fun ah aa=>yED (a) (b) ((0:Int)) (a.1) ah aa) (fun aa=>yDj (a) (b) ((0:Int)) (a.1) aa) (((↑a.1.length:Int)) - 0).toNat 0 ([])else none)else none)))))
theorem yNN(a:Q2)(b:Q2)(y:(Q2)×Int×Unit)(h:y86 a b=some y):∃ n,yJG n a b=some y :=
  ⟨big,LeF.top (show LeF some (y86 a b) (yJG big a b)from (fun (n:Nat) (hn:big≤n)=>show LeF some (y86 a b) (yJG n a b)from (yE fun v0=>(y8 (yB rfl) (yE fun v1=>(y8 (yB rfl) (y8 (yg fun hx=>by apply yCe n hn;exact hx) y0C)))))) big (Nat.le_refl _)) h⟩
def z17_e:Entry:={ f:=45,args:=yOt,ress:=yUK,m:=fun x=>y86 x.1 x.2.1 }
theorem yRh:FnOK Tryz.prog z17_e:=yJ (g:=yV2) (fn:=Tryz.f45) yA yI (y6 yME (y6 yLb (y6 yU7 (y6 yUX (y6 yMH eNil))))) (by kernel_rfl) (by kernel_rfl) (by kernel_rfl) (fun x y h=>let ⟨n,hn⟩:=yNN x.1 x.2.1 y h;⟨yN0 n,iNil,(yVf n x).trans hn⟩)
abbrev yPG:Ty:=.pair t25 (.pair t3 .unit)
abbrev yX9:Ty:=.pair t25 .unit
def yVv:G:={ T:=T,E:=[z0S_e,z0R_e,z0C_e],muts:=[6],fz:=[] }
def yar:List (List Nat):=[[2,4,5,6,7]]
def yLc(n:Nat):Ann:={ keep:=yar,fuel:=n,inl:=[],deep:=0 }
def yEG(n:Nat)(r1:Q2→Int→Int→Int→Int→List (Q4)→Option ((Q2)×Unit))(aO:Q2)(bl:Int)(ae:Int)(ac:Int)(au:Int)(aw:List (Q4)):Option ((Q2)×Unit) :=
  (bif decide (bl < (↑aO.2.1.length:Int))then (Option.bind (idx aO.2.1 bl) fun v2=>(bif decide (aw.length+(1:Nat)≤memMax)then r1 aO (IntKind.i64.wrap (bl+1)) ae ac au (aw++[(z0R v2 (ac,(0:Int),())).1])else none))else (Option.bind (y8K aO.1 aw (IntKind.i64.wrap (aO.2.2.1 * au))) fun v3=>some ((v3.1.1,v3.1.2.1,v3.1.2.2.1,()),())))
def y70(n:Nat)(k:Nat)(aO:Q2)(bl:Int)(ae:Int)(ac:Int)(au:Int)(aw:List (Q4)):Option ((Q2)×Unit) :=
  iter (fun r y=>yEG n (fun aO bl ae ac au aw=>r ((aO,(bl,())),(((ae,()),((ac,(au,())),(aw,()))),()))) y.1.1 y.1.2.1 y.2.1.1.1 y.2.1.2.1.1 y.2.1.2.1.2.1 y.2.1.2.2.1) k ((aO,(bl,())),(((ae,()),((ac,(au,())),(aw,()))),()))
def yJb(n:Nat)(t:Q2)(year:Int):Option ((Q2)×Unit) :=
  (Option.bind (yD6 year) fun v0=>(y70 n n (t) ((0:Int)) ((0:Int)) (v0.1.1) (v0.1.2.1) ([])))
theorem yS4(n:Nat)(x:yPG.den):runF yVv (yLc n) Tryz.f49 yPG yX9 x=yJb n x.1 x.2.1:=by kernel_rfl
def yEn(aO:Q2)(ae:Int)(ac:Int)(au:Int)(bl:Int)(v2:Q4)(aw:List (Q4)):Option (((Q2)×Unit)⊕(List (Q4))) :=
  (bif decide (aw.length+(1:Nat)≤memMax)then (some (Sum.inr (aw++[(z0R v2 (ac,(0:Int),())).1])))else none)
def yEm(aO:Q2)(ae:Int)(ac:Int)(au:Int)(aw:List (Q4)):Option ((Q2)×Unit) :=
  (Option.bind (y8K aO.1 aw (IntKind.i64.wrap (aO.2.2.1 * au))) fun v3=>(some (((v3.1.1,v3.1.2.1,v3.1.2.2.1,()),()))))
theorem yCh(n:Nat)(hn:big≤n)(aO:Q2)(ae:Int)(ac:Int)(au:Int)(aw:List (Q4))(hx:List.length (aO.2.1) < lenMax):LeF some (yQ (fun ah aI aa=>yEn aO ae ac au ah aI aa) (fun aa=>yEm aO ae ac au aa) 0 (aO.2.1) aw) (y70 n n aO 0 ae ac au aw):=by
  refine yd (f:=some) (W:=fun aX ah aa=>y70 n aX aO ah ae ac au aa) (body:=(fun ah aI aa=>yEn aO ae ac au ah aI aa)) (fin:=(fun aa=>yEm aO ae ac au aa)) (fun aX ah aa=>?_) hx aw n (by unfold big at hn;unfold lenMax at hx;omega)
  show LeF _ _ (yEG n (y70 n aX) aO ah ae ac au aa)
  exact y8 (yE fun v2=>(y8 (yB rfl) y0C)) (y0c (yE fun v3=>(yB rfl)))
def yCd(t:Q2)(year:Int):Option ((Q2)×Unit) :=
  (Option.bind (yD6 year) fun v0=>(bif decide (List.length (t.2.1) < lenMax)then yQ (fun ah aI aa=>yEn (t) ((0:Int)) (v0.1.1) (v0.1.2.1) ah aI aa) (fun aa=>yEm (t) ((0:Int)) (v0.1.1) (v0.1.2.1) aa) 0 (t.2.1) ([])else none))
theorem yNG(t:Q2)(year:Int)(y:(Q2)×Unit)(h:yCd t year=some y):∃ n,yJb n t year=some y :=
  ⟨big,LeF.top (show LeF some (yCd t year) (yJb big t year)from (fun (n:Nat) (hn:big≤n)=>show LeF some (yCd t year) (yJb n t year)from (yE fun v0=>(yg fun hx=>by apply yCh n hn;exact hx))) big (Nat.le_refl _)) h⟩
def z0A_e:Entry:={ f:=49,args:=yPG,ress:=yX9,m:=fun x=>yCd x.1 x.2.1 }
theorem yWN:FnOK Tryz.prog z0A_e:=yJ (g:=yVv) (fn:=Tryz.f49) yA yI (y6 yMc (y6 yLb (y6 yMH eNil))) (by kernel_rfl) (by kernel_rfl) (by kernel_rfl) (fun x y h=>let ⟨n,hn⟩:=yNG x.1 x.2.1 y h;⟨yLc n,iNil,(yS4 n x).trans hn⟩)
abbrev yOZ:Ty:=.pair t35 .unit
abbrev yVm:Ty:=.pair t41 (.pair t28 .unit)
def yWi:G:={ T:=T,E:=[z0e_e],muts:=[],fz:=[] }
def yZF:List (List Nat):=[]
def yMu(n:Nat):Ann:={ keep:=yZF,fuel:=n,inl:=[],deep:=0 }
def yRN(n:Nat)(l:List Nat):Option (List Int×Int×Unit) :=
  (Option.bind (yJv l (nat_lit 1065353216)) fun v0=>some (v0.1,v0.2.1,()))
theorem yWF(n:Nat)(x:yOZ.den):runF yWi (yMu n) Tryz.f71 yOZ yVm x=yRN n x.1:=by kernel_rfl
def yQ4(l:List Nat):Option (List Int×Int×Unit):=yRN 0 l
theorem yPr(l:List Nat)(y:List Int×Int×Unit)(h:yQ4 l=some y):∃ n,yRN n l=some y:=⟨0,h⟩
def z0r_e:Entry:={ f:=71,args:=yOZ,ress:=yVm,m:=fun x=>yQ4 x.1 }
theorem yWp:FnOK Tryz.prog z0r_e:=yJ (g:=yWi) (fn:=Tryz.f71) yA yI (y6 yLl eNil) (by kernel_rfl) (by kernel_rfl) (by kernel_rfl) (fun x y h=>let ⟨n,hn⟩:=yPr x.1 y h;⟨yMu n,iNil,(yWF n x).trans hn⟩)
abbrev yQz:Ty:=.pair t35 .unit
abbrev yW3:Ty:=.pair t41 (.pair t28 .unit)
def yWm:G:={ T:=T,E:=[z0e_e],muts:=[],fz:=[] }
def yYS:List (List Nat):=[]
def yLa(n:Nat):Ann:={ keep:=yYS,fuel:=n,inl:=[],deep:=0 }
def yNY(n:Nat)(l:List Nat):Option (List Int×Int×Unit) :=
  (Option.bind (yJv l (nat_lit 3212836864)) fun v0=>some (v0.1,v0.2.1,()))
theorem yYB(n:Nat)(x:yQz.den):runF yWm (yLa n) Tryz.f72 yQz yW3 x=yNY n x.1:=by kernel_rfl
def yNK(l:List Nat):Option (List Int×Int×Unit):=yNY 0 l
theorem yNn(l:List Nat)(y:List Int×Int×Unit)(h:yNK l=some y):∃ n,yNY n l=some y:=⟨0,h⟩
def z19_e:Entry:={ f:=72,args:=yQz,ress:=yW3,m:=fun x=>yNK x.1 }
theorem ySD:FnOK Tryz.prog z19_e:=yJ (g:=yWm) (fn:=Tryz.f72) yA yI (y6 yLl eNil) (by kernel_rfl) (by kernel_rfl) (by kernel_rfl) (fun x y h=>let ⟨n,hn⟩:=yNn x.1 y h;⟨yLa n,iNil,(yYB n x).trans hn⟩)
abbrev zL_a:Ty:=.pair t31 .unit
abbrev zL_r:Ty:=.pair t28 .unit
def zL_g:G:={ T:=T,E:=[z1D_e,z0y_e,zM_e],muts:=[21],fz:=[] }
def zL_k:List (List Nat):=[[4,22,23,24]]
def yWd(n:Nat):Ann:={ keep:=zL_k,fuel:=n,inl:=[],deep:=0 }
def yIX(n:Nat)(r1:List (Q3)→Int→Int→List (List UInt8×Bool)→Option (Int×Unit))(ax:List (Q3))(bg:Int)(b8:Int)(b7:List (List UInt8×Bool)):Option (Int×Unit) :=
  (bif decide (b8 < bg)then (Option.bind (idx ax b8) fun v2=>(Option.bind (zM_M (v2.1,v2.2.1,v2.2.2.1,())) fun v3=>(Option.bind (y1g [v3.1,(z1D ((y0D Ty.str Ty.bool b7 v2.1).getD Bool.false) (9:Int)).1]) fun v4=>(bif v4.1 != 0 then some (v4.1,())else r1 ax bg (IntKind.i64.wrap (b8+1)) (y0U Ty.str Ty.bool b7 v2.1 Bool.true)))))else some ((0:Int),()))
def y9e(n:Nat)(k:Nat)(ax:List (Q3))(bg:Int)(b8:Int)(b7:List (List UInt8×Bool)):Option (Int×Unit) :=
  iter (fun r y=>yIX n (fun ax bg b8 b7=>r ((ax,(bg,(b8,()))),((b7,()),()))) y.1.1 y.1.2.1 y.1.2.2.1 y.2.1.1) k ((ax,(bg,(b8,()))),((b7,()),()))
def zL_m(n:Nat)(l:List (Q3)):Option (Int×Unit) :=
  (Option.bind (y1g [(z1D ((↑l.length:Int)==0) (12:Int)).1,(z1D (decide ((↑l.length:Int) > 4)) (5:Int)).1]) fun v0=>(bif v0.1 != 0 then some (v0.1,())else (y9e n n (l) ((↑l.length:Int)) ((0:Int)) ([]))))
theorem yaA(n:Nat)(x:zL_a.den):runF zL_g (yWd n) Tryz.f88 zL_a zL_r x=zL_m n x.1:=by kernel_rfl
def yFG(ax:List (Q3))(b8:Int)(v2:Q3)(b7:List (List UInt8×Bool)):Option ((Int×Unit)⊕(List (List UInt8×Bool))) :=
  (Option.bind (zM_M (v2.1,v2.2.1,v2.2.2.1,())) fun v3=>(Option.bind (y1g [v3.1,(z1D ((y0D Ty.str Ty.bool b7 v2.1).getD Bool.false) (9:Int)).1]) fun v4=>(bif v4.1 != 0 then (some (Sum.inl ((v4.1,()))))else (some (Sum.inr (y0U Ty.str Ty.bool b7 v2.1 Bool.true))))))
def yJC(ax:List (Q3))(b7:List (List UInt8×Bool)):Option (Int×Unit) :=
  (some (((0:Int),())))
theorem yFD(n:Nat)(hn:big≤n)(ax:List (Q3))(b7:List (List UInt8×Bool))(hx:List.length (ax) < lenMax):LeF some (yQ (fun ah aI aa=>yFG ax ah aI aa) (fun aa=>yJC ax aa) 0 (ax) b7) (y9e n n ax (List.length (ax):Int) 0 b7):=by
  refine yd (f:=some) (W:=fun aX ah aa=>y9e n aX ax (List.length (ax):Int) ah aa) (body:=(fun ah aI aa=>yFG ax ah aI aa)) (fin:=(fun aa=>yJC ax aa)) (fun aX ah aa=>?_) hx b7 n (by unfold big at hn;unfold lenMax at hx;omega)
  show LeF _ _ (yIX n (y9e n aX) ax (List.length (ax):Int) ah aa)
  exact y8 (yE fun v2=>(yE fun v3=>(yE fun v4=>(y8 (yB rfl) (yB rfl))))) (y0c (yB rfl))
def zL_M(l:List (Q3)):Option (Int×Unit) :=
  (Option.bind (y1g [(z1D ((↑l.length:Int)==0) (12:Int)).1,(z1D (decide ((↑l.length:Int) > 4)) (5:Int)).1]) fun v0=>(bif v0.1 != 0 then (some ((v0.1,())))else (bif decide (List.length (l) < lenMax)then yQ (fun ah aI aa=>yFG (l) ah aI aa) (fun aa=>yJC (l) aa) 0 (l) ([])else none)))
theorem yXW(l:List (Q3))(y:Int×Unit)(h:zL_M l=some y):∃ n,zL_m n l=some y :=
  ⟨big,LeF.top (show LeF some (zL_M l) (zL_m big l)from (fun (n:Nat) (hn:big≤n)=>show LeF some (zL_M l) (zL_m n l)from (yE fun v0=>(y8 (yB rfl) (yg fun hx=>by apply yFD n hn;exact hx)))) big (Nat.le_refl _)) h⟩
def zL_e:Entry:={ f:=88,args:=zL_a,ress:=zL_r,m:=fun x=>zL_M x.1 }
theorem yPq:FnOK Tryz.prog zL_e:=yJ (g:=zL_g) (fn:=Tryz.f88) yA yI (y6 y4W (y6 y3S (y6 yaJ eNil))) (by kernel_rfl) (by kernel_rfl) (by kernel_rfl) (fun x y h=>let ⟨n,hn⟩:=yXW x.1 y h;⟨yWd n,iNil,(yaA n x).trans hn⟩)
abbrev yPo:Ty:=.pair t31 (.pair t23 (.pair t3 .unit))
abbrev yRi:Ty:=.pair t33 .unit
def yVG:G:={ T:=T,E:=[z0b_e,z7_e,zx_e,zy_e,zG_e],muts:=[],fz:=[7] }
def yaW:List (List Nat):=[]
def yLh(n:Nat):Ann:={ keep:=yaW,fuel:=n,inl:=[],deep:=0 }
def yL5(n:Nat)(l:List (Q3))(amplitudes:List (Q4))(den:Int):Option ((Q2)×Unit) :=
  (Option.bind (yAl amplitudes den) fun v0=>(Option.bind (z7_M l fun (x:(Q3)×Unit)=>zx_M x.1) fun v1=>(Option.bind (zG_M amplitudes fun (x:(Q4)×Unit)=>zy_M x.1 v0.1) fun v2=>(bif v0.1==0 then none else some ((v1.1,v2.1,IntKind.i64.wrap (den.tdiv v0.1),()),())))))
theorem yWA(n:Nat)(x:yPo.den):runF yVG (yLh n) Tryz.f121 yPo yRi x=yL5 n x.1 x.2.1 x.2.2.1:=by kernel_rfl
def yC2(l:List (Q3))(amplitudes:List (Q4))(den:Int):Option ((Q2)×Unit):=yL5 0 l amplitudes den
theorem yNw(l:List (Q3))(amplitudes:List (Q4))(den:Int)(y:(Q2)×Unit)(h:yC2 l amplitudes den=some y):∃ n,yL5 n l amplitudes den=some y:=⟨0,h⟩
def z0K_e:Entry:={ f:=121,args:=yPo,ress:=yRi,m:=fun x=>yC2 x.1 x.2.1 x.2.2.1 }
theorem yH8:FnOK Tryz.prog z0K_e:=yJ (g:=yVG) (fn:=Tryz.f121) yA yI (y6 yMm (y6 yU9 (y6 ya5 (y6 yZx (y6 yQT eNil))))) (by kernel_rfl) (by kernel_rfl) (by kernel_rfl) (fun x y h=>let ⟨n,hn⟩:=yNw x.1 x.2.1 x.2.2.1 y h;⟨yLh n,iNil,(yWA n x).trans hn⟩)
abbrev yQc:Ty:=.pair t3 .unit
abbrev yXB:Ty:=.pair t69 .unit
def yTB:G:={ T:=T,E:=[z04_e,z11_e],muts:=[],fz:=[] }
def yav:List (List Nat):=[]
def yNC(n:Nat):Ann:={ keep:=yav,fuel:=n,inl:=[],deep:=0 }
def yJd(n:Nat)(year:Int):Option ((Q4)×Unit) :=
  (Option.bind (yFS (IntKind.i64.wrap ((104:Int) - (z04 (IntKind.i64.wrap (year.tmod (16:Int) - (8:Int)))).1)) (100:Int)) fun v0=>some ((v0.1.1,v0.1.2.1,()),()))
theorem yXT(n:Nat)(x:yQc.den):runF yTB (yNC n) Tryz.f136 yQc yXB x=yJd n x.1:=by kernel_rfl
def yF9(year:Int):Option ((Q4)×Unit):=yJd 0 year
theorem yPD(year:Int)(y:(Q4)×Unit)(h:yF9 year=some y):∃ n,yJd n year=some y:=⟨0,h⟩
def z10_e:Entry:={ f:=136,args:=yQc,ress:=yXB,m:=fun x=>yF9 x.1 }
theorem yLg:FnOK Tryz.prog z10_e:=yJ (g:=yTB) (fn:=Tryz.f136) yA yI (y6 yB3 (y6 yHh eNil)) (by kernel_rfl) (by kernel_rfl) (by kernel_rfl) (fun x y h=>let ⟨n,hn⟩:=yPD x.1 y h;⟨yNC n,iNil,(yXT n x).trans hn⟩)
abbrev zT_a:Ty:=.pair t60 .unit
abbrev zT_r:Ty:=.pair t28 .unit
def zT_g:G:={ T:=T,E:=[z06_e,z0g_e,z07_e,z0M_e,zU_e,zX_e,zP_e,zB_e,zQ_e],muts:=[],fz:=[] }
def zT_k:List (List Nat):=[]
def ySE(n:Nat):Ann:={ keep:=zT_k,fuel:=n,inl:=[],deep:=0 }
def zT_m(n:Nat)(rp:Q1):Option (Int×Unit) :=
  (Option.bind (yCP rp.1) fun v0=>(Option.bind (yFp [(z0g (!v0.1) (8:Int)).1,(z07 rp.2.1 (0:Int) (100000:Int)).1,(z0g (decide ((↑rp.2.2.1.length:Int) > 4096)) (5:Int)).1]) fun v1=>(bif v1.1 != 0 then some (v1.1,())else (Option.bind (zU_M rp.2.2.1) fun v2=>(Option.bind (zX_M rp.2.2.2.1) fun v3=>(Option.bind (yFp [v2.1,v3.1]) fun v4=>(bif v4.1 != 0 then some (v4.1,())else (Option.bind (zB_M rp.2.2.2.1 fun (x:(Q4)×Unit)=>zP_M x.1 rp) fun v5=>(bif v5.1 then some ((14:Int),())else (Option.bind (zB_M rp.2.2.2.1 fun (x:(Q4)×Unit)=>zQ_M x.1 rp) fun v6=>some ((z0g v6.1 (1:Int)).1,())))))))))))
theorem yZv(n:Nat)(x:zT_a.den):runF zT_g (ySE n) Tryz.f157 zT_a zT_r x=zT_m n x.1:=by kernel_rfl
def zT_M(rp:Q1):Option (Int×Unit):=zT_m 0 rp
theorem yXq(rp:Q1)(y:Int×Unit)(h:zT_M rp=some y):∃ n,zT_m n rp=some y:=⟨0,h⟩
def zT_e:Entry:={ f:=157,args:=zT_a,ress:=zT_r,m:=fun x=>zT_M x.1 }
theorem yZH:FnOK Tryz.prog zT_e:=yJ (g:=zT_g) (fn:=Tryz.f157) yA yI (y6 yMF (y6 yB4 (y6 yUt (y6 yLe (y6 yaI (y6 yas (y6 yaO (y6 yZy (y6 yaD eNil))))))))) (by kernel_rfl) (by kernel_rfl) (by kernel_rfl) (fun x y h=>let ⟨n,hn⟩:=yXq x.1 y h;⟨ySE n,iNil,(yZv n x).trans hn⟩)
abbrev yOp:Ty:=.pair t55 (.pair (.ref t31) (.pair (.ref t60) .unit))
abbrev yTS:Ty:=.pair t23 .unit
def yRZ:G:={ T:=T,E:=[zm_e,zA_e],muts:=[],fz:=[] }
def ya9:List (List Nat):=[]
def yMx(n:Nat):Ann:={ keep:=ya9,fuel:=n,inl:=[],deep:=0 }
def yQu(n:Nat)(a:Q3)(p1:List (Q3))(p2:Q1):Option (List (Q4)×Unit) :=
  (Option.bind (zA_M p1 fun (x:(Q3)×Unit)=>zm_M x.1 p2 a) fun v0=>some (v0.1,()))
theorem yXJ(n:Nat)(x:yOp.den):runF yRZ (yMx n) Tryz.f192 yOp yTS x=yQu n x.1 x.2.1 x.2.2.1:=by kernel_rfl
def yR3(a:Q3)(p1:List (Q3))(p2:Q1):Option (List (Q4)×Unit):=yQu 0 a p1 p2
theorem yOn(a:Q3)(p1:List (Q3))(p2:Q1)(y:List (Q4)×Unit)(h:yR3 a p1 p2=some y):∃ n,yQu n a p1 p2=some y:=⟨0,h⟩
def z05_e:Entry:={ f:=192,args:=yOp,ress:=yTS,m:=fun x=>yR3 x.1 x.2.1 x.2.2.1 }
theorem yTG:FnOK Tryz.prog z05_e:=yJ (g:=yRZ) (fn:=Tryz.f192) yA yI (y6 yZD (y6 yOK eNil)) (by kernel_rfl) (by kernel_rfl) (by kernel_rfl) (fun x y h=>let ⟨n,hn⟩:=yOn x.1 x.2.1 x.2.2.1 y h;⟨yMx n,iNil,(yXJ n x).trans hn⟩)
end
end Go.Tw
end
