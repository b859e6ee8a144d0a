import Derived.Test.YtpcnkpbpcebokaaGreatDoorBT
import Derived.Test.YtpcnkpbpcebokaaGreatDoorB0
import Derived.Test.YtpcnkpbpcebokaaGreatDoorBS
import Derived.Test.YtpcnkpbpcebokaaGreatDoorLQ
import Derived.Test.YtpcnkpbpcebokaaGreatDoorBA
import Derived.Test.YtpcnkpbpcebokaaGreatDoorLR
set_option linter.all false
section
set_option maxRecDepth 1000000
namespace Go.Tw
open Go.Vx Go.Vx.B Go.Proofs
noncomputable section
abbrev zJ_a:Ty:=.pair t22 .unit
abbrev zJ_r:Ty:=.pair t3 .unit
def zJ_g:G:={ T:=T,E:=[zf_e,zZ_e,z0Q_e],muts:=[],fz:=[] }
def zJ_k:List (List Nat):=[[0,3],[0,3,5]]
def yWl(n:Nat):Ann:={ keep:=zJ_k,fuel:=n,inl:=[],deep:=0 }
def yIq(n:Nat)(r0:List (Q3)→Int→Option (Int×Unit))(r6:List (Q3)→Int→Int→Option (Int×Unit))(aP:List (Q3))(aH:Int)(bh:Int):Option (Int×Unit) :=
  (bif decide (bh < aH)then (Option.bind (idx aP bh) fun v7=>(Option.bind (idx aP aH) fun v8=>(bif v7.1==v8.1 then some ((9:Int),())else r6 aP aH (IntKind.i64.wrap (bh+1)))))else r0 aP (IntKind.i64.wrap (aH+1)))
def y9n(n:Nat)(r0:List (Q3)→Int→Option (Int×Unit))(k:Nat)(aP:List (Q3))(aH:Int)(bh:Int):Option (Int×Unit) :=
  iter (fun r y=>yIq n r0 (fun aP aH bh=>r ((aP,(aH,(bh,()))),((),()))) y.1.1 y.1.2.1 y.1.2.2.1) k ((aP,(aH,(bh,()))),((),()))
def yHA(n:Nat)(r0:List (Q3)→Int→Option (Int×Unit))(av:List (Q3))(aZ:Int):Option (Int×Unit) :=
  (bif decide (aZ < (↑av.length:Int))then (Option.bind (idx av aZ) fun v1=>(Option.bind (zf_M v1.1) fun v2=>(Option.bind (idx av aZ) fun v3=>(Option.bind (idx av aZ) fun v4=>(Option.bind (yAM [v2.1,(zZ v3.2.1 (1:Int) (96:Int)).1,(zZ v4.2.2.1 (0:Int) (3:Int)).1]) fun v5=>(bif v5.1 != 0 then some (v5.1,())else (y9n n r0 n (av) (aZ) ((0:Int)))))))))else some ((0:Int),()))
def y9o(n:Nat)(k:Nat)(av:List (Q3))(aZ:Int):Option (Int×Unit) :=
  iter (fun r y=>yHA n (fun av aZ=>r ((av,(aZ,())),((),()))) y.1.1 y.1.2.1) k ((av,(aZ,())),((),()))
def zJ_m(n:Nat)(l:List (Q3)):Option (Int×Unit) :=
  (bif (↑l.length:Int)==0 then some ((12:Int),())else (bif decide ((↑l.length:Int) > 4)then some ((5:Int),())else (y9o n n (l) ((0:Int)))))
theorem yYR(n:Nat)(x:zJ_a.den):runF zJ_g (yWl n) Tryz.f32 zJ_a zJ_r x=zJ_m n x.1:=by kernel_rfl
def yFs(aP:List (Q3))(aH:Int)(bh:Int):Option (((Int×Unit)⊕Unit)⊕Unit) :=
  (Option.bind (idx aP bh) fun v7=>(Option.bind (idx aP aH) fun v8=>(bif v7.1==v8.1 then (some (Sum.inl (Sum.inl (((9:Int),())))))else (some (Sum.inr ())))))
def yJY(aP:List (Q3))(aH:Int):Option ((Int×Unit)⊕Unit) :=
  (some (Sum.inr ()))
theorem yF7(n:Nat)(hn:big≤n)(r0:List (Q3)→Int→Option (Int×Unit))(aP:List (Q3))(aH:Int)(hx:(aH)≤9223372036854775807):LeF (elim some fun (aa:Unit)=>r0 aP (IntKind.i64.wrap (aH+1))) (y2x (fun ah aa=>yFs aP aH ah) (fun aa=>yJY aP aH) ((aH) - 0).toNat 0 ()) (y9n n r0 n aP aH 0):=by
  refine y6z (f:=(elim some fun (aa:Unit)=>r0 aP (IntKind.i64.wrap (aH+1)))) (W:=fun aX ah aa=>y9n n r0 aX aP aH ah) (body:=(fun ah aa=>yFs aP aH ah)) (fin:=(fun aa=>yJY aP aH)) (fun aX ah aa=>?_) hx () n 0 (by decide) (by unfold big at hn;omega)
  show LeF _ _ (yIq n r0 (y9n n r0 aX) aP aH ah)
  exact y8 (yE fun v7=>(yE fun v8=>(y8 (yB rfl) (yB rfl)))) (y0b (yB rfl))
def yFI(av:List (Q3))(aZ:Int)(v1:Q3):Option ((Int×Unit)⊕Unit) :=
  (Option.bind (zf_M v1.1) fun v2=>(Option.bind (idx av aZ) fun v3=>(Option.bind (idx av aZ) fun v4=>(Option.bind (yAM [v2.1,(zZ v3.2.1 (1:Int) (96:Int)).1,(zZ v4.2.2.1 (0:Int) (3:Int)).1]) fun v5=>(bif v5.1 != 0 then (some (Sum.inl ((v5.1,()))))else (bif decide ((aZ)≤9223372036854775807)then y2x (fun ah aa=>yFs (av) (aZ) ah) (fun aa=>yJY (av) (aZ)) ((aZ) - 0).toNat 0 ()else none))))))
def yKh(av:List (Q3)):Option (Int×Unit) :=
  (some (((0:Int),())))
theorem yF6(n:Nat)(hn:big≤n)(av:List (Q3))(hx:List.length (av) < lenMax):LeF some (yQ (fun ah aI aa=>yFI av ah aI) (fun aa=>yKh av) 0 (av) ()) (y9o n n av 0):=by
  refine yd (f:=some) (W:=fun aX ah aa=>y9o n aX av ah) (body:=(fun ah aI aa=>yFI av ah aI)) (fin:=(fun aa=>yKh av)) (fun aX ah aa=>?_) hx () n (by unfold big at hn;unfold lenMax at hx;omega)
  show LeF _ _ (yHA n (y9o n aX) av ah)
  exact y8 (yE fun v1=>(yE fun v2=>(yE fun v3=>(yE fun v4=>(yE fun v5=>(y8 (yB rfl) (yg fun hx=>by apply yF7 n hn;exact hx))))))) (y0b (yB rfl))
def zJ_M(l:List (Q3)):Option (Int×Unit) :=
  (bif (↑l.length:Int)==0 then (some (((12:Int),())))else (bif decide ((↑l.length:Int) > 4)then (some (((5:Int),())))else (bif decide (List.length (l) < lenMax)then yQ (fun ah aI aa=>yFI (l) ah aI) (fun aa=>yKh (l)) 0 (l) ()else none)))
theorem ySe(l:List (Q3))(y:Int×Unit)(h:zJ_M l=some y):∃ n,zJ_m n l=some y :=
  ⟨big,LeF.top (show LeF some (zJ_M l) (zJ_m big l)from (fun (n:Nat) (hn:big≤n)=>show LeF some (zJ_M l) (zJ_m n l)from (y8 (yB rfl) (y8 (yB rfl) (yg fun hx=>by apply yF6 n hn;exact hx)))) big (Nat.le_refl _)) h⟩
def zJ_e:Entry:={ f:=32,args:=zJ_a,ress:=zJ_r,m:=fun x=>zJ_M x.1 }
theorem yVS:FnOK Tryz.prog zJ_e:=yJ (g:=zJ_g) (fn:=Tryz.f32) yA yI (y6 yZW (y6 yKM (y6 yIF eNil))) (by kernel_rfl) (by kernel_rfl) (by kernel_rfl) (fun x y h=>let ⟨n,hn⟩:=ySe x.1 y h;⟨yWl n,iNil,(yYR n x).trans hn⟩)
abbrev yP9:Ty:=.pair t33 (.pair t28 (.pair t3 (.pair t25 .unit)))
abbrev ySU:Ty:=.pair t4 .unit
def yUQ:G:={ T:=T,E:=[z0j_e,z0o_e],muts:=[7],fz:=[] }
def yYf:List (List Nat):=[]
def yLo(n:Nat):Ann:={ keep:=yYf,fuel:=n,inl:=[],deep:=0 }
def yHr(n:Nat)(p0:Q2)(e:Int)(bad:Int)(want:Q2):Option (Bool×Unit) :=
  (bif bad != 0 then (bif e==bad then (Option.bind (yBL p0) fun v3=>(Option.bind (yBb v3.1 ([],[],(0:Int),())) fun v4=>some (v4.1,())))else some (Bool.false,()))else (bif e==bad then (Option.bind (yBL p0) fun v8=>(Option.bind (yBb v8.1 (want.1,want.2.1,want.2.2.1,())) fun v9=>some (v9.1,())))else some (Bool.false,())))
theorem yVT(n:Nat)(x:yP9.den):runF yUQ (yLo n) Tryz.f51 yP9 ySU x=yHr n x.1 x.2.1 x.2.2.1 x.2.2.2.1:=by kernel_rfl
def y88(p0:Q2)(e:Int)(bad:Int)(want:Q2):Option (Bool×Unit):=yHr 0 p0 e bad want
theorem yR5(p0:Q2)(e:Int)(bad:Int)(want:Q2)(y:Bool×Unit)(h:y88 p0 e bad want=some y):∃ n,yHr n p0 e bad want=some y:=⟨0,h⟩
def z0i_e:Entry:={ f:=51,args:=yP9,ress:=ySU,m:=fun x=>y88 x.1 x.2.1 x.2.2.1 x.2.2.2.1 }
theorem yY2:FnOK Tryz.prog z0i_e:=yJ (g:=yUQ) (fn:=Tryz.f51) yA yI (y6 yU5 (y6 ySl eNil)) (by kernel_rfl) (by kernel_rfl) (by kernel_rfl) (fun x y h=>let ⟨n,hn⟩:=yR5 x.1 x.2.1 x.2.2.1 x.2.2.2.1 y h;⟨yLo n,iNil,(yVT n x).trans hn⟩)
abbrev zu_a:Ty:=.pair t3 (.pair t3 .unit)
abbrev zu_r:Ty:=.pair t28 .unit
def zu_g:G:={ T:=T,E:=[z0f_e,z0y_e],muts:=[],fz:=[] }
def zu_k:List (List Nat):=[]
def yWb(n:Nat):Ann:={ keep:=zu_k,fuel:=n,inl:=[],deep:=0 }
def zu_m(n:Nat)(p0:Int)(np:Int):Option (Int×Unit) :=
  (Option.bind (y1g [(z0f p0 (0:Int) (100000:Int)).1,(z0f np (0:Int) (4096:Int)).1]) fun v0=>(bif v0.1 != 0 then some (v0.1,())else some ((z0f (IntKind.i64.wrap (p0+np)) (0:Int) (100000:Int)).1,())))
theorem yYe(n:Nat)(x:zu_a.den):runF zu_g (yWb n) Tryz.f105 zu_a zu_r x=zu_m n x.1 x.2.1:=by kernel_rfl
def zu_M(p0:Int)(np:Int):Option (Int×Unit):=zu_m 0 p0 np
theorem ySx(p0:Int)(np:Int)(y:Int×Unit)(h:zu_M p0 np=some y):∃ n,zu_m n p0 np=some y:=⟨0,h⟩
def zu_e:Entry:={ f:=105,args:=zu_a,ress:=zu_r,m:=fun x=>zu_M x.1 x.2.1 }
theorem yZQ:FnOK Tryz.prog zu_e:=yJ (g:=zu_g) (fn:=Tryz.f105) yA yI (y6 y8l (y6 y3T eNil)) (by kernel_rfl) (by kernel_rfl) (by kernel_rfl) (fun x y h=>let ⟨n,hn⟩:=ySx x.1 x.2.1 y h;⟨yWb n,iNil,(yYe n x).trans hn⟩)
abbrev yPM:Ty:=.pair t33 (.pair t3 .unit)
abbrev yWT:Ty:=.pair t57 .unit
def yWA:G:={ T:=T,E:=[z15_e],muts:=[],fz:=[] }
def yZS:List (List Nat):=[]
def yLa(n:Nat):Ann:={ keep:=yZS,fuel:=n,inl:=[],deep:=0 }
def yRL(n:Nat)(t:Q2)(tick:Int):Option ((Q4)×Unit) :=
  (Option.bind (yIn t.1 t.2.1 tick) fun v0=>some ((v0.1.1,v0.1.2.1,()),()))
theorem yU4(n:Nat)(x:yPM.den):runF yWA (yLa n) Tryz.f106 yPM yWT x=yRL n x.1 x.2.1:=by kernel_rfl
def yG6(t:Q2)(tick:Int):Option ((Q4)×Unit):=yRL 0 t tick
theorem yPl(t:Q2)(tick:Int)(y:(Q4)×Unit)(h:yG6 t tick=some y):∃ n,yRL n t tick=some y:=⟨0,h⟩
def z0H_e:Entry:={ f:=106,args:=yPM,ress:=yWT,m:=fun x=>yG6 x.1 x.2.1 }
theorem yNF:FnOK Tryz.prog z0H_e:=yJ (g:=yWA) (fn:=Tryz.f106) yA yI (y6 yU1 eNil) (by kernel_rfl) (by kernel_rfl) (by kernel_rfl) (fun x y h=>let ⟨n,hn⟩:=yPl x.1 x.2.1 y h;⟨yLa n,iNil,(yU4 n x).trans hn⟩)
abbrev zt_a:Ty:=.pair t57 .unit
abbrev zt_r:Ty:=.pair t28 .unit
def zt_g:G:={ T:=T,E:=[z0f_e,z0y_e],muts:=[],fz:=[] }
def zt_k:List (List Nat):=[]
def ySF(n:Nat):Ann:={ keep:=zt_k,fuel:=n,inl:=[],deep:=0 }
def zt_m(n:Nat)(z:Q4):Option (Int×Unit) :=
  (Option.bind (y1g [(z0f z.1 (-8796093022208:Int) (8796093022208:Int)).1,(z0f z.2.1 (-8796093022208:Int) (8796093022208:Int)).1]) fun v0=>some (v0.1,()))
theorem yZc(n:Nat)(x:zt_a.den):runF zt_g (ySF n) Tryz.f116 zt_a zt_r x=zt_m n x.1:=by kernel_rfl
def zt_M(z:Q4):Option (Int×Unit):=zt_m 0 z
theorem yUK(z:Q4)(y:Int×Unit)(h:zt_M z=some y):∃ n,zt_m n z=some y:=⟨0,h⟩
def zt_e:Entry:={ f:=116,args:=zt_a,ress:=zt_r,m:=fun x=>zt_M x.1 }
theorem ya7:FnOK Tryz.prog zt_e:=yJ (g:=zt_g) (fn:=Tryz.f116) yA yI (y6 y8l (y6 y3T eNil)) (by kernel_rfl) (by kernel_rfl) (by kernel_rfl) (fun x y h=>let ⟨n,hn⟩:=yUK x.1 y h;⟨ySF n,iNil,(yZc n x).trans hn⟩)
abbrev yPz:Ty:=.pair t23 (.pair t3 .unit)
abbrev yVo:Ty:=.pair t3 .unit
def yWH:G:={ T:=T,E:=[z0I_e],muts:=[],fz:=[] }
def yYn:List (List Nat):=[[1,7,8,9]]
def yMD(n:Nat):Ann:={ keep:=yYn,fuel:=n,inl:=[],deep:=0 }
def yEw(n:Nat)(r0:Int→List (Q4)→Int→Int→Option (Int×Unit))(aB:Int)(aF:List (Q4))(b6:Int)(b4:Int):Option (Int×Unit) :=
  (bif decide (b4 < b6)then (Option.bind (idx aF b4) fun v1=>(Option.bind (y9j aB [v1.1,v1.2.1]) fun v2=>r0 v2.1 aF b6 (IntKind.i64.wrap (b4+1))))else some (aB,()))
def y6a(n:Nat)(k:Nat)(aB:Int)(aF:List (Q4))(b6:Int)(b4:Int):Option (Int×Unit) :=
  iter (fun r y=>yEw n (fun aB aF b6 b4=>r ((aB,(aF,(b6,(b4,())))),((),()))) y.1.1 y.1.2.1 y.1.2.2.1 y.1.2.2.2.1) k ((aB,(aF,(b6,(b4,())))),((),()))
def yJE(n:Nat)(l:List (Q4))(den:Int):Option (Int×Unit) :=
  (y6a n n (den) (l) ((↑l.length:Int)) ((0:Int)))
theorem yXU(n:Nat)(x:yPz.den):runF yWH (yMD n) Tryz.f117 yPz yVo x=yJE n x.1 x.2.1:=by kernel_rfl
def yBx(aF:List (Q4))(b4:Int)(v1:Q4)(aB:Int):Option ((Int×Unit)⊕(Int)) :=
  (Option.bind (y9j aB [v1.1,v1.2.1]) fun v2=>(some (Sum.inr (v2.1))))
def yE2(aF:List (Q4))(aB:Int):Option (Int×Unit) :=
  (some ((aB,())))
theorem yCp(n:Nat)(hn:big≤n)(aF:List (Q4))(aB:Int)(hx:List.length (aF) < lenMax):LeF some (yQ (fun ah aI aa=>yBx aF ah aI aa) (fun aa=>yE2 aF aa) 0 (aF) aB) (y6a n n aB aF (List.length (aF):Int) 0):=by
  refine yd (f:=some) (W:=fun aX ah aa=>y6a n aX aa aF (List.length (aF):Int) ah) (body:=(fun ah aI aa=>yBx aF ah aI aa)) (fin:=(fun aa=>yE2 aF aa)) (fun aX ah aa=>?_) hx aB n (by unfold big at hn;unfold lenMax at hx;omega)
  show LeF _ _ (yEw n (y6a n aX) aa aF (List.length (aF):Int) ah)
  exact y8 (yE fun v1=>(yE fun v2=>(yB rfl))) (y0b (yB rfl))
def yB7(l:List (Q4))(den:Int):Option (Int×Unit) :=
  (bif decide (List.length (l) < lenMax)then yQ (fun ah aI aa=>yBx (l) ah aI aa) (fun aa=>yE2 (l) aa) 0 (l) (den)else none)
theorem yQc(l:List (Q4))(den:Int)(y:Int×Unit)(h:yB7 l den=some y):∃ n,yJE n l den=some y :=
  ⟨big,LeF.top (show LeF some (yB7 l den) (yJE big l den)from (fun (n:Nat) (hn:big≤n)=>show LeF some (yB7 l den) (yJE n l den)from (yg fun hx=>by apply yCp n hn;exact hx)) big (Nat.le_refl _)) h⟩
def z0b_e:Entry:={ f:=117,args:=yPz,ress:=yVo,m:=fun x=>yB7 x.1 x.2.1 }
theorem yMy:FnOK Tryz.prog z0b_e:=yJ (g:=yWH) (fn:=Tryz.f117) yA yI (y6 yMg eNil) (by kernel_rfl) (by kernel_rfl) (by kernel_rfl) (fun x y h=>let ⟨n,hn⟩:=yQc x.1 x.2.1 y h;⟨yMD n,iNil,(yXU n x).trans hn⟩)
abbrev zK_a:Ty:=.pair t183 .unit
abbrev zK_r:Ty:=.pair t57 .unit
def zK_g:G:={ T:=T,E:=[zS_e],muts:=[],fz:=[] }
def zK_k:List (List Nat):=[]
def yS1(n:Nat):Ann:={ keep:=zK_k,fuel:=n,inl:=[],deep:=0 }
def zK_m(n:Nat)(m:List (List (Q4))):Option ((Q4)×Unit) :=
  (Option.bind (y07 (8:Nat) (m,(0:Int),(0:Int),())) fun v0=>some ((v0.1.1,v0.1.2.1,()),()))
theorem ya0(n:Nat)(x:zK_a.den):runF zK_g (yS1 n) Tryz.f123 zK_a zK_r x=zK_m n x.1:=by kernel_rfl
def zK_M(m:List (List (Q4))):Option ((Q4)×Unit):=zK_m 0 m
theorem yU6(m:List (List (Q4)))(y:(Q4)×Unit)(h:zK_M m=some y):∃ n,zK_m n m=some y:=⟨0,h⟩
def zK_e:Entry:={ f:=123,args:=zK_a,ress:=zK_r,m:=fun x=>zK_M x.1 }
theorem yJz:FnOK Tryz.prog zK_e:=yJ (g:=zK_g) (fn:=Tryz.f123) yA yI (y6 yYz eNil) (by kernel_rfl) (by kernel_rfl) (by kernel_rfl) (fun x y h=>let ⟨n,hn⟩:=yU6 x.1 y h;⟨yS1 n,iNil,(ya0 n x).trans hn⟩)
abbrev yQS:Ty:=.pair t3 (.pair t3 .unit)
abbrev yXq:Ty:=.pair t69 .unit
def yWF:G:={ T:=T,E:=[z0I_e],muts:=[],fz:=[] }
def yZO:List (List Nat):=[]
def yMK(n:Nat):Ann:={ keep:=yZO,fuel:=n,inl:=[],deep:=0 }
def yNp(n:Nat)(num:Int)(den:Int):Option ((Q4)×Unit) :=
  (Option.bind (y9j den [num]) fun v0=>(bif v0.1==0 then none else (bif v0.1==0 then none else some ((IntKind.i64.wrap (num.tdiv v0.1),IntKind.i64.wrap (den.tdiv v0.1),()),()))))
theorem ySq(n:Nat)(x:yQS.den):runF yWF (yMK n) Tryz.f127 yQS yXq x=yNp n x.1 x.2.1:=by kernel_rfl
def yGA(num:Int)(den:Int):Option ((Q4)×Unit):=yNp 0 num den
theorem yOL(num:Int)(den:Int)(y:(Q4)×Unit)(h:yGA num den=some y):∃ n,yNp n num den=some y:=⟨0,h⟩
def z11_e:Entry:={ f:=127,args:=yQS,ress:=yXq,m:=fun x=>yGA x.1 x.2.1 }
theorem yH2:FnOK Tryz.prog z11_e:=yJ (g:=yWF) (fn:=Tryz.f127) yA yI (y6 yMg eNil) (by kernel_rfl) (by kernel_rfl) (by kernel_rfl) (fun x y h=>let ⟨n,hn⟩:=yOL x.1 x.2.1 y h;⟨yMK n,iNil,(ySq n x).trans hn⟩)
abbrev yNc:Ty:=.pair t22 (.pair t23 (.pair t3 .unit))
abbrev yXW:Ty:=.pair t25 .unit
def yXD:G:={ T:=T,E:=[z0B_e],muts:=[13,19],fz:=[15] }
def yar:List (List Nat):=[[1,6,7,8,9]]
def yM1(n:Nat):Ann:={ keep:=yar,fuel:=n,inl:=[],deep:=0 }
def yEc(n:Nat)(r1:List (Q4)→Int→Int→Int→List (Q3)→Int→List (Q4)→Option ((Q2)×Unit))(aT:List (Q4))(aJ:Int)(bd:Int)(ae:Int)(ac:List (Q3))(aq:Int)(aw:List (Q4)):Option ((Q2)×Unit) :=
  (bif decide (bd < (↑aT.length:Int))then (Option.bind (idx aT bd) fun v2=>(bif aJ==0 then none else (Option.bind (idx aT bd) fun v3=>(bif aJ==0 then none else (bif decide (aw.length+(1:Nat)≤memMax)then r1 aT aJ (IntKind.i64.wrap (bd+1)) ae ac aq (aw++[(IntKind.i64.wrap (v2.1.tdiv aJ),IntKind.i64.wrap (v3.2.1.tdiv aJ),())])else none)))))else some ((ac,aw,aq,()),()))
def y72(n:Nat)(k:Nat)(aT:List (Q4))(aJ:Int)(bd:Int)(ae:Int)(ac:List (Q3))(aq:Int)(aw:List (Q4)):Option ((Q2)×Unit) :=
  iter (fun r y=>yEc n (fun aT aJ bd ae ac aq aw=>r ((aT,(aJ,(bd,()))),(((ae,()),((ac,(aq,())),(aw,()))),()))) y.1.1 y.1.2.1 y.1.2.2.1 y.2.1.1.1 y.2.1.2.1.1 y.2.1.2.1.2.1 y.2.1.2.2.1) k ((aT,(aJ,(bd,()))),(((ae,()),((ac,(aq,())),(aw,()))),()))
def yKV(n:Nat)(l:List (Q3))(a:List (Q4))(den:Int):Option ((Q2)×Unit) :=
  (Option.bind (y8W a den) fun v0=>(bif decide ((0:Nat)+l.length≤memMax)then (bif v0.1==0 then none else (y72 n n (a) (v0.1) ((0:Int)) ((0:Int)) (l) (IntKind.i64.wrap (den.tdiv v0.1)) ([])))else none))
theorem yTI(n:Nat)(x:yNc.den):runF yXD (yM1 n) Tryz.f141 yNc yXW x=yKV n x.1 x.2.1 x.2.2.1:=by kernel_rfl
def yBA(aT:List (Q4))(aJ:Int)(ae:Int)(ac:List (Q3))(aq:Int)(bd:Int)(v2:Q4)(aw:List (Q4)):Option (((Q2)×Unit)⊕(List (Q4))) :=
  (bif aJ==0 then none else (Option.bind (idx aT bd) fun v3=>(bif aJ==0 then none else (bif decide (aw.length+(1:Nat)≤memMax)then (some (Sum.inr (aw++[(IntKind.i64.wrap (v2.1.tdiv aJ),IntKind.i64.wrap (v3.2.1.tdiv aJ),())])))else none))))
def yEN(aT:List (Q4))(aJ:Int)(ae:Int)(ac:List (Q3))(aq:Int)(aw:List (Q4)):Option ((Q2)×Unit) :=
  (some (((ac,aw,aq,()),())))
theorem yD7(n:Nat)(hn:big≤n)(aT:List (Q4))(aJ:Int)(ae:Int)(ac:List (Q3))(aq:Int)(aw:List (Q4))(hx:List.length (aT) < lenMax):LeF some (yQ (fun ah aI aa=>yBA aT aJ ae ac aq ah aI aa) (fun aa=>yEN aT aJ ae ac aq aa) 0 (aT) aw) (y72 n n aT aJ 0 ae ac aq aw):=by
  refine yd (f:=some) (W:=fun aX ah aa=>y72 n aX aT aJ ah ae ac aq aa) (body:=(fun ah aI aa=>yBA aT aJ ae ac aq ah aI aa)) (fin:=(fun aa=>yEN aT aJ ae ac aq aa)) (fun aX ah aa=>?_) hx aw n (by unfold big at hn;unfold lenMax at hx;omega)
  show LeF _ _ (yEc n (y72 n aX) aT aJ ah ae ac aq aa)
  exact y8 (yE fun v2=>(y8 y0D (yE fun v3=>(y8 y0D (y8 (yB rfl) y0D))))) (y0b (yB rfl))
def y8J(l:List (Q3))(a:List (Q4))(den:Int):Option ((Q2)×Unit) :=
  (Option.bind (y8W a den) fun v0=>(bif decide ((0:Nat)+l.length≤memMax)then (bif v0.1==0 then none else (bif decide (List.length (a) < lenMax)then yQ (fun ah aI aa=>yBA (a) (v0.1) ((0:Int)) (l) (IntKind.i64.wrap (den.tdiv v0.1)) ah aI aa) (fun aa=>yEN (a) (v0.1) ((0:Int)) (l) (IntKind.i64.wrap (den.tdiv v0.1)) aa) 0 (a) ([])else none))else none))
theorem yQB(l:List (Q3))(a:List (Q4))(den:Int)(y:(Q2)×Unit)(h:y8J l a den=some y):∃ n,yKV n l a den=some y :=
  ⟨big,LeF.top (show LeF some (y8J l a den) (yKV big l a den)from (fun (n:Nat) (hn:big≤n)=>show LeF some (y8J l a den) (yKV n l a den)from (yE fun v0=>(y8 (y8 y0D (yg fun hx=>by apply yD7 n hn;exact hx)) y0D))) big (Nat.le_refl _)) h⟩
def z0C_e:Entry:={ f:=141,args:=yNc,ress:=yXW,m:=fun x=>y8J x.1 x.2.1 x.2.2.1 }
theorem yLe:FnOK Tryz.prog z0C_e:=yJ (g:=yXD) (fn:=Tryz.f141) yA yI (y6 yMH eNil) (by kernel_rfl) (by kernel_rfl) (by kernel_rfl) (fun x y h=>let ⟨n,hn⟩:=yQB x.1 x.2.1 x.2.2.1 y h;⟨yM1 n,iNil,(yTI n x).trans hn⟩)
abbrev yQF:Ty:=.pair t35 (.pair t61 .unit)
abbrev yRt:Ty:=.pair t41 (.pair t28 .unit)
def yXw:G:={ T:=T,E:=[zI_e,zW_e,z0y_e],muts:=[7],fz:=[] }
def yYv:List (List Nat):=[[0,1,7,8,9]]
def yMk(n:Nat):Ann:={ keep:=yYv,fuel:=n,inl:=[],deep:=0 }
def yKr(n:Nat)(r2:List Nat→Nat→Int→Int→List Int→Option (List Int×Int×Unit))(ba:List Nat)(af:Nat)(aK:Int)(b9:Int)(be:List Int):Option (List Int×Int×Unit) :=
  (bif decide (b9 < (↑ba.length:Int))then (Option.bind (idx ba b9) fun v3=>(Option.bind (idx ba (IntKind.i64.wrap (b9 - (1:Int)))) fun v4=>(bif y0m Go.BinOp.gtr Go.FloatKind.f32 (y0n Go.BinOp.mul Go.FloatKind.f32 af (y0n Go.BinOp.sub Go.FloatKind.f32 v3 v4)) (nat_lit 0)then r2 ba af b9 (IntKind.i64.wrap (b9+1)) be else (bif y0m Go.BinOp.lss Go.FloatKind.f32 (y0n Go.BinOp.mul Go.FloatKind.f32 af (y0n Go.BinOp.sub Go.FloatKind.f32 v3 v4)) (nat_lit 0)then (bif decide (aK ≥ 0)then (bif decide (be.length+(1:Nat)≤memMax)then r2 ba af (-1:Int) (IntKind.i64.wrap (b9+1)) (be++[aK])else none)else r2 ba af (-1:Int) (IntKind.i64.wrap (b9+1)) be)else r2 ba af aK (IntKind.i64.wrap (b9+1)) be))))else some (be,(0:Int),()))
def yJm(n:Nat)(k:Nat)(ba:List Nat)(af:Nat)(aK:Int)(b9:Int)(be:List Int):Option (List Int×Int×Unit) :=
  iter (fun r y=>yKr n (fun ba af aK b9 be=>r ((ba,(af,(aK,(b9,())))),((be,()),()))) y.1.1 y.1.2.1 y.1.2.2.1 y.1.2.2.2.1 y.2.1.1) k ((ba,(af,(aK,(b9,())))),((be,()),()))
def yR4(n:Nat)(l:List Nat)(direction:Nat):Option (List Int×Int×Unit) :=
  (bif decide ((↑l.length:Int) > 4096)then some ([],(5:Int),())else (Option.bind (zI_M l fun (x:Nat×Unit)=>zW_M x.1) fun v0=>(Option.bind (y1g v0.1) fun v1=>(bif v1.1 != 0 then some ([],v1.1,())else (yJm n n (l) (direction) ((-1:Int)) ((1:Int)) ([]))))))
theorem yWB(n:Nat)(x:yQF.den):runF yXw (yMk n) Tryz.f154 yQF yRt x=yR4 n x.1 x.2.1:=by kernel_rfl
def yLB(l:List Nat)(direction:Nat):Option (List Int×Int×Unit):=yR4 1000 l direction
theorem yQg(l:List Nat)(direction:Nat)(y:List Int×Int×Unit)(h:yLB l direction=some y):∃ n,yR4 n l direction=some y:=⟨1000,h⟩
def z0e_e:Entry:={ f:=154,args:=yQF,ress:=yRt,m:=fun x=>yLB x.1 x.2.1 }
theorem yMT:FnOK Tryz.prog z0e_e:=yJ (g:=yXw) (fn:=Tryz.f154) yA yI (y6 yaw (y6 yTX (y6 y3T eNil))) (by kernel_rfl) (by kernel_rfl) (by kernel_rfl) (fun x y h=>let ⟨n,hn⟩:=yQg x.1 x.2.1 y h;⟨yMk n,iNil,(yWB n x).trans hn⟩)
abbrev zM_a:Ty:=.pair t55 .unit
abbrev zM_r:Ty:=.pair t28 .unit
def zM_g:G:={ T:=T,E:=[z06_e,z1D_e,z0f_e,z0y_e],muts:=[],fz:=[] }
def zM_k:List (List Nat):=[]
def yYA(n:Nat):Ann:={ keep:=zM_k,fuel:=n,inl:=[],deep:=0 }
def zM_m(n:Nat)(c:Q3):Option (Int×Unit) :=
  (Option.bind (yBr c.1) fun v0=>(Option.bind (y1g [(z1D (!v0.1) (8:Int)).1,(z0f c.2.1 (1:Int) (96:Int)).1,(z0f c.2.2.1 (0:Int) (3:Int)).1]) fun v1=>some (v1.1,())))
theorem yZ9(n:Nat)(x:zM_a.den):runF zM_g (yYA n) Tryz.f160 zM_a zM_r x=zM_m n x.1:=by kernel_rfl
def zM_M(c:Q3):Option (Int×Unit):=zM_m 0 c
theorem yTf(c:Q3)(y:Int×Unit)(h:zM_M c=some y):∃ n,zM_m n c=some y:=⟨0,h⟩
def zM_e:Entry:={ f:=160,args:=zM_a,ress:=zM_r,m:=fun x=>zM_M x.1 }
theorem yYd:FnOK Tryz.prog zM_e:=yJ (g:=zM_g) (fn:=Tryz.f160) yA yI (y6 yMO (y6 y4O (y6 y8l (y6 y3T eNil)))) (by kernel_rfl) (by kernel_rfl) (by kernel_rfl) (fun x y h=>let ⟨n,hn⟩:=yTf x.1 y h;⟨yYA n,iNil,(yZ9 n x).trans hn⟩)
abbrev yPV:Ty:=.pair t55 (.pair (.ref t60) (.pair (.ref t31) (.pair (.ref t3) .unit)))
abbrev yU0:Ty:=.pair t57 .unit
def yS4:G:={ T:=T,E:=[z0z_e],muts:=[],fz:=[] }
def yal:List (List Nat):=[]
def yN5(n:Nat):Ann:={ keep:=yal,fuel:=n,inl:=[],deep:=0 }
def yRU(n:Nat)(c:Q3)(p1:Q1)(p2:List (Q3))(p3:Int):Option ((Q4)×Unit) :=
  (Option.bind (idx p2 p3) fun v0=>(Option.bind (yGX p1 c v0) fun v1=>some ((v1.1.1,v1.1.2.1,()),())))
theorem yX6(n:Nat)(x:yPV.den):runF yS4 (yN5 n) Tryz.f163 yPV yU0 x=yRU n x.1 x.2.1 x.2.2.1 x.2.2.2.1:=by kernel_rfl
def yRH(c:Q3)(p1:Q1)(p2:List (Q3))(p3:Int):Option ((Q4)×Unit):=yRU 0 c p1 p2 p3
theorem yNo(c:Q3)(p1:Q1)(p2:List (Q3))(p3:Int)(y:(Q4)×Unit)(h:yRH c p1 p2 p3=some y):∃ n,yRU n c p1 p2 p3=some y:=⟨0,h⟩
def z02_e:Entry:={ f:=163,args:=yPV,ress:=yU0,m:=fun x=>yRH x.1 x.2.1 x.2.2.1 x.2.2.2.1 }
theorem yXB:FnOK Tryz.prog z02_e:=yJ (g:=yS4) (fn:=Tryz.f163) yA yI (y6 yGt eNil) (by kernel_rfl) (by kernel_rfl) (by kernel_rfl) (fun x y h=>let ⟨n,hn⟩:=yNo x.1 x.2.1 x.2.2.1 x.2.2.2.1 y h;⟨yN5 n,iNil,(yX6 n x).trans hn⟩)
abbrev zm_a:Ty:=.pair t55 (.pair (.ref t60) (.pair (.ref t55) .unit))
abbrev zm_r:Ty:=.pair t57 .unit
def zm_g:G:={ T:=T,E:=[z0z_e],muts:=[],fz:=[] }
def zm_k:List (List Nat):=[]
def yWt(n:Nat):Ann:={ keep:=zm_k,fuel:=n,inl:=[],deep:=0 }
def zm_m(n:Nat)(b:Q3)(p1:Q1)(p2:Q3):Option ((Q4)×Unit) :=
  (Option.bind (yGX p1 p2 b) fun v0=>some ((v0.1.1,v0.1.2.1,()),()))
theorem yYj(n:Nat)(x:zm_a.den):runF zm_g (yWt n) Tryz.f193 zm_a zm_r x=zm_m n x.1 x.2.1 x.2.2.1:=by kernel_rfl
def zm_M(b:Q3)(p1:Q1)(p2:Q3):Option ((Q4)×Unit):=zm_m 0 b p1 p2
theorem yWw(b:Q3)(p1:Q1)(p2:Q3)(y:(Q4)×Unit)(h:zm_M b p1 p2=some y):∃ n,zm_m n b p1 p2=some y:=⟨0,h⟩
def zm_e:Entry:={ f:=193,args:=zm_a,ress:=zm_r,m:=fun x=>zm_M x.1 x.2.1 x.2.2.1 }
theorem yZP:FnOK Tryz.prog zm_e:=yJ (g:=zm_g) (fn:=Tryz.f193) yA yI (y6 yGt eNil) (by kernel_rfl) (by kernel_rfl) (by kernel_rfl) (fun x y h=>let ⟨n,hn⟩:=yWw x.1 x.2.1 x.2.2.1 y h;⟨yWt n,iNil,(yYj n x).trans hn⟩)
abbrev zU_a:Ty:=.pair t35 .unit
abbrev zU_r:Ty:=.pair t28 .unit
def zU_g:G:={ T:=T,E:=[zW_e],muts:=[],fz:=[] }
def zU_k:List (List Nat):=[[3,6,7,8]]
def yRh(n:Nat):Ann:={ keep:=zU_k,fuel:=n,inl:=[],deep:=0 }
def yPW(n:Nat)(r0:Int→List Nat→Int→Int→Option (Int×Unit))(aY:Int)(bm:List Nat)(aF:Int)(b6:Int):Option (Int×Unit) :=
  (bif decide (b6 < aF)then (Option.bind (idx bm b6) fun v1=>(Option.bind (zW_M v1) fun v2=>(bif v2.1 != 0 then some (v2.1,())else r0 v2.1 bm aF (IntKind.i64.wrap (b6+1)))))else some (aY,()))
def yQm(n:Nat)(k:Nat)(aY:Int)(bm:List Nat)(aF:Int)(b6:Int):Option (Int×Unit) :=
  iter (fun r y=>yPW n (fun aY bm aF b6=>r ((aY,(bm,(aF,(b6,())))),((),()))) y.1.1 y.1.2.1 y.1.2.2.1 y.1.2.2.2.1) k ((aY,(bm,(aF,(b6,())))),((),()))
def zU_m(n:Nat)(l:List Nat):Option (Int×Unit) :=
  (yQm n n ((0:Int)) (l) ((↑l.length:Int)) ((0:Int)))
theorem yZq(n:Nat)(x:zU_a.den):runF zU_g (yRh n) Tryz.f202 zU_a zU_r x=zU_m n x.1:=by kernel_rfl
def zU_M(l:List Nat):Option (Int×Unit):=zU_m 1000 l
theorem yWe(l:List Nat)(y:Int×Unit)(h:zU_M l=some y):∃ n,zU_m n l=some y:=⟨1000,h⟩
def zU_e:Entry:={ f:=202,args:=zU_a,ress:=zU_r,m:=fun x=>zU_M x.1 }
theorem ya8:FnOK Tryz.prog zU_e:=yJ (g:=zU_g) (fn:=Tryz.f202) yA yI (y6 yTX eNil) (by kernel_rfl) (by kernel_rfl) (by kernel_rfl) (fun x y h=>let ⟨n,hn⟩:=yWe x.1 y h;⟨yRh n,iNil,(yZq n x).trans hn⟩)
abbrev zX_a:Ty:=.pair t58 .unit
abbrev zX_r:Ty:=.pair t28 .unit
def zX_g:G:={ T:=T,E:=[ze_e,z0g_e,z0M_e],muts:=[],fz:=[] }
def zX_k:List (List Nat):=[[0,9,10,11]]
def yUZ(n:Nat):Ann:={ keep:=zX_k,fuel:=n,inl:=[],deep:=0 }
def yO8(n:Nat)(r0:List (Q4)→List (Q4)→Int→Int→Option (Int×Unit))(av:List (Q4))(b4:List (Q4))(bc:Int)(aV:Int):Option (Int×Unit) :=
  (bif decide (aV < bc)then (Option.bind (idx b4 aV) fun v1=>(bif decide (aV > 0)then (Option.bind (idx av (if Bool.true=Bool.true then if IntKind.i64.wrap (aV - (1:Int)) > 0 then IntKind.i64.wrap (aV - (1:Int))else (0:Int)else if IntKind.i64.wrap (aV - (1:Int)) < 0 then IntKind.i64.wrap (aV - (1:Int))else (0:Int))) fun v2=>(Option.bind (yFR [(ze (v1.1,v1.2.1,())).1,(z0g (decide (v1.1≤v2.2.1)) (11:Int)).1]) fun v3=>(bif v3.1 != 0 then some (v3.1,())else r0 av b4 bc (IntKind.i64.wrap (aV+1)))))else (Option.bind (yFR [(ze (v1.1,v1.2.1,())).1,(z0g Bool.false (11:Int)).1]) fun v4=>(bif v4.1 != 0 then some (v4.1,())else r0 av b4 bc (IntKind.i64.wrap (aV+1))))))else some ((0:Int),()))
def yPP(n:Nat)(k:Nat)(av:List (Q4))(b4:List (Q4))(bc:Int)(aV:Int):Option (Int×Unit) :=
  iter (fun r y=>yO8 n (fun av b4 bc aV=>r ((av,(b4,(bc,(aV,())))),((),()))) y.1.1 y.1.2.1 y.1.2.2.1 y.1.2.2.2.1) k ((av,(b4,(bc,(aV,())))),((),()))
def zX_m(n:Nat)(l:List (Q4)):Option (Int×Unit) :=
  (bif decide ((↑l.length:Int) > 2048)then some ((5:Int),())else (yPP n n (l) (l) ((↑l.length:Int)) ((0:Int))))
theorem yYY(n:Nat)(x:zX_a.den):runF zX_g (yUZ n) Tryz.f203 zX_a zX_r x=zX_m n x.1:=by kernel_rfl
def zX_M(l:List (Q4)):Option (Int×Unit):=zX_m 1000 l
theorem yTU(l:List (Q4))(y:Int×Unit)(h:zX_M l=some y):∃ n,zX_m n l=some y:=⟨1000,h⟩
def zX_e:Entry:={ f:=203,args:=zX_a,ress:=zX_r,m:=fun x=>zX_M x.1 }
theorem yaf:FnOK Tryz.prog zX_e:=yJ (g:=zX_g) (fn:=Tryz.f203) yA yI (y6 yaq (y6 yCM (y6 yMF eNil))) (by kernel_rfl) (by kernel_rfl) (by kernel_rfl) (fun x y h=>let ⟨n,hn⟩:=yTU x.1 y h;⟨yUZ n,iNil,(yYY n x).trans hn⟩)
abbrev zQ_a:Ty:=.pair t63 (.pair (.ref t60) .unit)
abbrev zQ_r:Ty:=.pair t4 .unit
def zQ_g:G:={ T:=T,E:=[zC_e,zO_e],muts:=[],fz:=[] }
def zQ_k:List (List Nat):=[]
def yTM(n:Nat):Ann:={ keep:=zQ_k,fuel:=n,inl:=[],deep:=0 }
def zQ_m(n:Nat)(s:Q4)(p1:Q1):Option (Bool×Unit) :=
  (bif decide ((0:Int)≤s.1) && decide (s.1≤s.2.1) && decide (s.2.1≤(↑p1.2.2.1.length:Int))then (Option.bind (zC_M (List.drop s.1.toNat (List.take s.2.1.toNat p1.2.2.1)) fun (x:Nat×Unit)=>zO_M x.1) fun v0=>some (v0.1,()))else none)
theorem ya5(n:Nat)(x:zQ_a.den):runF zQ_g (yTM n) Tryz.f206 zQ_a zQ_r x=zQ_m n x.1 x.2.1:=by kernel_rfl
def zQ_M(s:Q4)(p1:Q1):Option (Bool×Unit):=zQ_m 0 s p1
theorem yXP(s:Q4)(p1:Q1)(y:Bool×Unit)(h:zQ_M s p1=some y):∃ n,zQ_m n s p1=some y:=⟨0,h⟩
def zQ_e:Entry:={ f:=206,args:=zQ_a,ress:=zQ_r,m:=fun x=>zQ_M x.1 x.2.1 }
theorem yaI:FnOK Tryz.prog zQ_e:=yJ (g:=zQ_g) (fn:=Tryz.f206) yA yI (y6 yYo (y6 yb0 eNil)) (by kernel_rfl) (by kernel_rfl) (by kernel_rfl) (fun x y h=>let ⟨n,hn⟩:=yXP x.1 x.2.1 y h;⟨yTM n,iNil,(ya5 n x).trans hn⟩)
end
end Go.Tw
end
section
set_option maxRecDepth 1000000
namespace Go.Tw
open Go.Vx Go.Vx.B Go.Proofs
noncomputable section
abbrev zh_a:Ty:=.pair t25 .unit
abbrev zh_r:Ty:=.pair t3 .unit
def zh_g:G:={ T:=T,E:=[zJ_e,zZ_e,zg_e,z0B_e],muts:=[],fz:=[] }
def zh_k:List (List Nat):=[[1,5]]
def yX7(n:Nat):Ann:={ keep:=zh_k,fuel:=n,inl:=[],deep:=0 }
def yH7(n:Nat)(r1:Q2→Int→Option (Int×Unit))(aL:Q2)(bj:Int):Option (Int×Unit) :=
  (bif decide (bj < (↑aL.2.1.length:Int))then (Option.bind (idx aL.2.1 bj) fun v2=>(Option.bind (zg_M v2) fun v3=>(bif v3.1 != 0 then some (v3.1,())else r1 aL (IntKind.i64.wrap (bj+1)))))else (Option.bind (y8W aL.2.1 aL.2.2.1) fun v4=>(bif v4.1 != 1 then some ((1:Int),())else some ((0:Int),()))))
def yA2(n:Nat)(k:Nat)(aL:Q2)(bj:Int):Option (Int×Unit) :=
  iter (fun r y=>yH7 n (fun aL bj=>r ((aL,(bj,())),((),()))) y.1.1 y.1.2.1) k ((aL,(bj,())),((),()))
def zh_m(n:Nat)(t:Q2):Option (Int×Unit) :=
  (Option.bind (zJ_M t.1) fun v0=>(bif v0.1 != 0 then some (v0.1,())else (bif (↑t.2.1.length:Int) != (↑t.1.length:Int)then some ((2:Int),())else (bif (zZ t.2.2.1 (1:Int) (268435456:Int)).1 != 0 then some ((zZ t.2.2.1 (1:Int) (268435456:Int)).1,())else (yA2 n n (t) ((0:Int)))))))
theorem yZh(n:Nat)(x:zh_a.den):runF zh_g (yX7 n) Tryz.f23 zh_a zh_r x=zh_m n x.1:=by kernel_rfl
def yIY(aL:Q2)(bj:Int)(v2:Q4):Option ((Int×Unit)⊕Unit) :=
  (Option.bind (zg_M v2) fun v3=>(bif v3.1 != 0 then (some (Sum.inl ((v3.1,()))))else (some (Sum.inr ()))))
def yFg(aL:Q2):Option (Int×Unit) :=
  (Option.bind (y8W aL.2.1 aL.2.2.1) fun v4=>(bif v4.1 != 1 then (some (((1:Int),())))else (some (((0:Int),())))))
theorem yFM(n:Nat)(hn:big≤n)(aL:Q2)(hx:List.length (aL.2.1) < lenMax):LeF some (yQ (fun ah aI aa=>yIY aL ah aI) (fun aa=>yFg aL) 0 (aL.2.1) ()) (yA2 n n aL 0):=by
  refine yd (f:=some) (W:=fun aX ah aa=>yA2 n aX aL ah) (body:=(fun ah aI aa=>yIY aL ah aI)) (fin:=(fun aa=>yFg aL)) (fun aX ah aa=>?_) hx () n (by unfold big at hn;unfold lenMax at hx;omega)
  show LeF _ _ (yH7 n (yA2 n aX) aL ah)
  exact y8 (yE fun v2=>(yE fun v3=>(y8 (yB rfl) (yB rfl)))) (y0b (yE fun v4=>(y8 (yB rfl) (yB rfl))))
def zh_M(t:Q2):Option (Int×Unit) :=
  (Option.bind (zJ_M t.1) fun v0=>(bif v0.1 != 0 then (some ((v0.1,())))else (bif (↑t.2.1.length:Int) != (↑t.1.length:Int)then (some (((2:Int),())))else (bif (zZ t.2.2.1 (1:Int) (268435456:Int)).1 != 0 then (some (((zZ t.2.2.1 (1:Int) (268435456:Int)).1,())))else (bif decide (List.length (t.2.1) < lenMax)then yQ (fun ah aI aa=>yIY (t) ah aI) (fun aa=>yFg (t)) 0 (t.2.1) ()else none)))))
theorem yV9(t:Q2)(y:Int×Unit)(h:zh_M t=some y):∃ n,zh_m n t=some y :=
  ⟨big,LeF.top (show LeF some (zh_M t) (zh_m big t)from (fun (n:Nat) (hn:big≤n)=>show LeF some (zh_M t) (zh_m n t)from (yE fun v0=>(y8 (yB rfl) (y8 (yB rfl) (y8 (yB rfl) (yg fun hx=>by apply yFM n hn;exact hx)))))) big (Nat.le_refl _)) h⟩
def zh_e:Entry:={ f:=23,args:=zh_a,ress:=zh_r,m:=fun x=>zh_M x.1 }
theorem yYN:FnOK Tryz.prog zh_e:=yJ (g:=zh_g) (fn:=Tryz.f23) yA yI (y6 yVS (y6 yKM (y6 yZI (y6 yMH eNil)))) (by kernel_rfl) (by kernel_rfl) (by kernel_rfl) (fun x y h=>let ⟨n,hn⟩:=yV9 x.1 y h;⟨yX7 n,iNil,(yZh n x).trans hn⟩)
abbrev yNm:Ty:=.pair t25 (.pair t25 .unit)
abbrev yXl:Ty:=.pair t25 (.pair t3 .unit)
def ySZ:G:={ T:=T,E:=[z0T_e,z0R_e,z0n_e,zJ_e,z0C_e],muts:=[7,23],fz:=[] }
def yZ3:List (List Nat):=[[2,3,4,6,7,8],[2,3,4,6,7,9],[2,3,4,6,7,9,10,11]]
def yMR(n:Nat):Ann:={ keep:=yZ3,fuel:=n,inl:=[],deep:=0 }
def y7W(n:Nat)(r6:Q2→Q2→Int→Int→List (Q3)→List (Q4)→Option ((Q2)×Int×Unit))(j18:Q2)(j19:Q2)(j20:Int)(j21:Int)(j22:Int)(j23:List (Q3))(j24:List (Q4))(j25:List UInt8)(j26:Int)(j27:Int):Option ((Q2)×Int×Unit) :=
  (Option.bind (idx j19.2.1 j20) fun v28=>(bif decide (j21 < (↑j18.1.length:Int))then (Option.bind (idx j24 j21) fun v29=>(Option.bind (j24[j21.toNat]?) fun v30=>(Option.bind (idx j24 j21) fun v31=>(Option.bind (j24[j21.toNat]?) fun v32=>r6 j18 j19 (IntKind.i64.wrap (j20+1)) j22 j23 (j24.set j21.toNat (z0n v30 ((z0R v28 (j18.2.2.1,(0:Int),())).1.1,(z0R v28 (j18.2.2.1,(0:Int),())).1.2.1,())).1)))))else (bif decide (j23.length+(1:Nat)≤memMax)then (bif decide (j24.length+(1:Nat)≤memMax)then r6 j18 j19 (IntKind.i64.wrap (j20+1)) j22 (j23++[(j25,j26,j27,())]) (j24++[((z0R v28 (j18.2.2.1,(0:Int),())).1.1,(z0R v28 (j18.2.2.1,(0:Int),())).1.2.1,())])else none)else none)))
def yEB(n:Nat)(r6:Q2→Q2→Int→Int→List (Q3)→List (Q4)→Option ((Q2)×Int×Unit))(r8:Q2→Q2→Int→Int→Int→List (Q3)→List (Q4)→List UInt8→Int→Int→Option ((Q2)×Int×Unit))(aC:Q2)(aQ:Q2)(aR:Int)(aD:Int)(ai:Int)(ay:List (Q3))(az:List (Q4))(al:List UInt8)(aj:Int)(ak:Int):Option ((Q2)×Int×Unit) :=
  (bif decide (aD < (↑aC.1.length:Int))then (Option.bind (idx aC.1 aD) fun v9=>(bif v9.2.1 != aj then r8 aC aQ aR (IntKind.i64.wrap (aD+1)) ai ay az al aj ak else (Option.bind (idx aC.1 aD) fun v10=>(bif v10.2.2.1 != ak then r8 aC aQ aR (IntKind.i64.wrap (aD+1)) ai ay az al aj ak else (y7W n r6 (aC) (aQ) (aR) (aD) (ai) (ay) (az) (al) (aj) (ak))))))else (y7W n r6 (aC) (aQ) (aR) (aD) (ai) (ay) (az) (al) (aj) (ak)))
def y6t(n:Nat)(r6:Q2→Q2→Int→Int→List (Q3)→List (Q4)→Option ((Q2)×Int×Unit))(k:Nat)(aC:Q2)(aQ:Q2)(aR:Int)(aD:Int)(ai:Int)(ay:List (Q3))(az:List (Q4))(al:List UInt8)(aj:Int)(ak:Int):Option ((Q2)×Int×Unit) :=
  iter (fun r y=>yEB n r6 (fun aC aQ aR aD ai ay az al aj ak=>r ((aC,(aQ,(aR,(aD,())))),(((ai,()),(ay,(az,((al,(aj,(ak,()))),())))),()))) y.1.1 y.1.2.1 y.1.2.2.1 y.1.2.2.2.1 y.2.1.1.1 y.2.1.2.1 y.2.1.2.2.1 y.2.1.2.2.2.1.1 y.2.1.2.2.2.1.2.1 y.2.1.2.2.2.1.2.2.1) k ((aC,(aQ,(aR,(aD,())))),(((ai,()),(ay,(az,((al,(aj,(ak,()))),())))),()))
def yEY(n:Nat)(r6:Q2→Q2→Int→Int→List (Q3)→List (Q4)→Option ((Q2)×Int×Unit))(aU:Q2)(aM:Q2)(bf:Int)(ar:Int)(aE:List (Q3))(aN:List (Q4)):Option ((Q2)×Int×Unit) :=
  (bif decide (bf < (↑aM.1.length:Int))then (Option.bind (idx aM.1 bf) fun v7=>(y6t n r6 n (aU) (aM) (bf) ((0:Int)) (ar) (aE) (aN) (v7.1) (v7.2.1) (v7.2.2.1)))else (bif decide ((↑aE.length:Int) > 4)then some (([],[],(0:Int),()),(5:Int),())else (Option.bind (zJ_M aE) fun v34=>(bif v34.1 != 0 then some (([],[],(0:Int),()),v34.1,())else (Option.bind (y8J aE aN (IntKind.i64.wrap (aU.2.2.1 * aM.2.2.1))) fun v35=>some ((v35.1.1,v35.1.2.1,v35.1.2.2.1,()),(0:Int),()))))))
def y6n(n:Nat)(k:Nat)(aU:Q2)(aM:Q2)(bf:Int)(ar:Int)(aE:List (Q3))(aN:List (Q4)):Option ((Q2)×Int×Unit) :=
  iter (fun r y=>yEY n (fun aU aM bf ar aE aN=>r ((aU,(aM,(bf,()))),(((ar,()),(aE,(aN,()))),()))) y.1.1 y.1.2.1 y.1.2.2.1 y.2.1.1.1 y.2.1.2.1 y.2.1.2.2.1) k ((aU,(aM,(bf,()))),(((ar,()),(aE,(aN,()))),()))
def yES(n:Nat)(r4:Q2→Q2→Int→Int→List (Q3)→List (Q4)→Option ((Q2)×Int×Unit))(aW:Q2)(aS:Q2)(bi:Int)(am:Int)(aA:List (Q3))(aG:List (Q4)):Option ((Q2)×Int×Unit) :=
  (bif decide (bi < (↑aA.length:Int))then (Option.bind (idx aW.2.1 bi) fun v5=>(bif decide (aG.length+(1:Nat)≤memMax)then r4 aW aS (IntKind.i64.wrap (bi+1)) am aA (aG++[(z0R v5 (aS.2.2.1,(0:Int),())).1])else none))else (y6n n n (aW) (aS) ((0:Int)) (am) (aA) (aG)))
def y6m(n:Nat)(k:Nat)(aW:Q2)(aS:Q2)(bi:Int)(am:Int)(aA:List (Q3))(aG:List (Q4)):Option ((Q2)×Int×Unit) :=
  iter (fun r y=>yES n (fun aW aS bi am aA aG=>r ((aW,(aS,(bi,()))),(((am,()),(aA,(aG,()))),()))) y.1.1 y.1.2.1 y.1.2.2.1 y.2.1.1.1 y.2.1.2.1 y.2.1.2.2.1) k ((aW,(aS,(bi,()))),(((am,()),(aA,(aG,()))),()))
def yJX(n:Nat)(a:Q2)(b:Q2):Option ((Q2)×Int×Unit) :=
  (Option.bind (y7O a) fun v0=>(bif !v0.1 then some (([],[],(0:Int),()),(4:Int),())else (Option.bind (y7O b) fun v1=>(bif !v1.1 then some (([],[],(0:Int),()),(4:Int),())else (bif decide ((0:Nat)+a.1.length≤memMax)then (y6m n n (a) (b) ((0:Int)) ((0:Int)) (a.1) ([]))else none)))))
theorem yT1(n:Nat)(x:yNm.den):runF ySZ (yMR n) Tryz.f45 yNm yXl x=yJX n x.1 x.2.1:=by kernel_rfl
def y7n(j18:Q2)(j19:Q2)(j20:Int)(j21:Int)(j22:Int)(j23:List (Q3))(j24:List (Q4))(j25:List UInt8)(j26:Int)(j27:Int):Option (((Q2)×Int×Unit)⊕((List (Q3))×(List (Q4)))) :=
  (Option.bind (idx j19.2.1 j20) fun v28=>(bif decide (j21 < (↑j18.1.length:Int))then (Option.bind (idx j24 j21) fun v29=>(Option.bind (j24[j21.toNat]?) fun v30=>(Option.bind (idx j24 j21) fun v31=>(Option.bind (j24[j21.toNat]?) fun v32=>(some (Sum.inr ((j23),(j24.set j21.toNat (z0n v30 ((z0R v28 (j18.2.2.1,(0:Int),())).1.1,(z0R v28 (j18.2.2.1,(0:Int),())).1.2.1,())).1))))))))else (bif decide (j23.length+(1:Nat)≤memMax)then (bif decide (j24.length+(1:Nat)≤memMax)then (some (Sum.inr ((j23++[(j25,j26,j27,())]),(j24++[((z0R v28 (j18.2.2.1,(0:Int),())).1.1,(z0R v28 (j18.2.2.1,(0:Int),())).1.2.1,())]))))else none)else none)))
theorem y3R(n:Nat)(hn:big≤n)(r6:Q2→Q2→Int→Int→List (Q3)→List (Q4)→Option ((Q2)×Int×Unit))(j18:Q2)(j19:Q2)(j20:Int)(j21:Int)(j22:Int)(j23:List (Q3))(j24:List (Q4))(j25:List UInt8)(j26:Int)(j27:Int):LeF (elim some fun (aa:((List (Q3))×(List (Q4))))=>r6 j18 j19 (IntKind.i64.wrap (j20+1)) j22 aa.1 aa.2) (y7n j18 j19 j20 j21 j22 j23 j24 j25 j26 j27) (y7W n r6 j18 j19 j20 j21 j22 j23 j24 j25 j26 j27) :=
  (yE fun v28=>(y8 (yE fun v29=>(yE fun v30=>(yE fun v31=>(yE fun v32=>(yB rfl))))) (y8 (y8 (yB rfl) y0D) y0D)))
def yBf(aC:Q2)(aQ:Q2)(aR:Int)(ai:Int)(ay:List (Q3))(az:List (Q4))(al:List UInt8)(aj:Int)(ak:Int)(aD:Int)(v9:Q3):Option ((((Q2)×Int×Unit)⊕((List (Q3))×(List (Q4))))⊕Unit) :=
  (bif v9.2.1 != aj then (some (Sum.inr ()))else (Option.bind (idx aC.1 aD) fun v10=>(bif v10.2.2.1 != ak then (some (Sum.inr ()))else (Option.map Sum.inl (y7n (aC) (aQ) (aR) (aD) (ai) (ay) (az) (al) (aj) (ak))))))
def yBH(aC:Q2)(aQ:Q2)(aR:Int)(ai:Int)(ay:List (Q3))(az:List (Q4))(al:List UInt8)(aj:Int)(ak:Int):Option (((Q2)×Int×Unit)⊕((List (Q3))×(List (Q4)))) :=
  (y7n (aC) (aQ) (aR) ((↑aC.1.length:Int)) (ai) (ay) (az) (al) (aj) (ak))
theorem yDa(n:Nat)(hn:big≤n)(r6:Q2→Q2→Int→Int→List (Q3)→List (Q4)→Option ((Q2)×Int×Unit))(aC:Q2)(aQ:Q2)(aR:Int)(ai:Int)(ay:List (Q3))(az:List (Q4))(al:List UInt8)(aj:Int)(ak:Int)(hx:List.length (aC.1) < lenMax):LeF (elim some fun (aa:((List (Q3))×(List (Q4))))=>r6 aC aQ (IntKind.i64.wrap (aR+1)) ai aa.1 aa.2) (yQ (fun ah aI aa=>yBf aC aQ aR ai ay az al aj ak ah aI) (fun aa=>yBH aC aQ aR ai ay az al aj ak) 0 (aC.1) ()) (y6t n r6 n aC aQ aR 0 ai ay az al aj ak):=by
  refine yGj (f:=(elim some fun (aa:((List (Q3))×(List (Q4))))=>r6 aC aQ (IntKind.i64.wrap (aR+1)) ai aa.1 aa.2)) (W:=fun aX ah aa=>y6t n r6 aX aC aQ aR ah ai ay az al aj ak) (body:=(fun ah aI aa=>yBf aC aQ aR ai ay az al aj ak ah aI)) (fin:=(fun aa=>yBH aC aQ aR ai ay az al aj ak)) (fun aX ah aa hi__=>?_) hx () n (by unfold big at hn;unfold lenMax at hx;omega)
  show LeF _ _ (yEB n r6 (y6t n r6 aX) aC aQ aR ah ai ay az al aj ak)
  rcases hi__ with hi__|hi__
  · exact yPK (decide_eq_true hi__) (yE fun v9=>(y8 (yB rfl) (yE fun v10=>(y8 (yB rfl) (y0b (by apply y3R n hn))))))
  · subst hi__;exact yNK (by simp) (y0b (by apply y3R n hn))
def y9O(aU:Q2)(aM:Q2)(ar:Int)(bf:Int)(v7:Q3)(aE:List (Q3))(aN:List (Q4)):Option (((Q2)×Int×Unit)⊕((List (Q3))×(List (Q4)))) :=
  (bif decide (List.length (aU.1) < lenMax)then yQ (fun ah aI aa=>yBf (aU) (aM) (bf) (ar) (aE) (aN) (v7.1) (v7.2.1) (v7.2.2.1) ah aI) (fun aa=>yBH (aU) (aM) (bf) (ar) (aE) (aN) (v7.1) (v7.2.1) (v7.2.2.1)) 0 (aU.1) ()else none)
def y7m(aU:Q2)(aM:Q2)(ar:Int)(aE:List (Q3))(aN:List (Q4)):Option ((Q2)×Int×Unit) :=
  (bif decide ((↑aE.length:Int) > 4)then (some ((([],[],(0:Int),()),(5:Int),())))else (Option.bind (zJ_M aE) fun v34=>(bif v34.1 != 0 then (some ((([],[],(0:Int),()),v34.1,())))else (Option.bind (y8J aE aN (IntKind.i64.wrap (aU.2.2.1 * aM.2.2.1))) fun v35=>(some (((v35.1.1,v35.1.2.1,v35.1.2.2.1,()),(0:Int),())))))))
theorem yD3(n:Nat)(hn:big≤n)(aU:Q2)(aM:Q2)(ar:Int)(aE:List (Q3))(aN:List (Q4))(hx:List.length (aM.1) < lenMax):LeF some (yQ (fun ah aI aa=>y9O aU aM ar ah aI aa.1 aa.2) (fun aa=>y7m aU aM ar aa.1 aa.2) 0 (aM.1) (aE,aN)) (y6n n n aU aM 0 ar aE aN):=by
  refine yd (f:=some) (W:=fun aX ah aa=>y6n n aX aU aM ah ar aa.1 aa.2) (body:=(fun ah aI aa=>y9O aU aM ar ah aI aa.1 aa.2)) (fin:=(fun aa=>y7m aU aM ar aa.1 aa.2)) (fun aX ah aa=>?_) hx (aE,aN) n (by unfold big at hn;unfold lenMax at hx;omega)
  show LeF _ _ (yEY n (y6n n aX) aU aM ah ar aa.1 aa.2)
  exact y8 (yE fun v7=>(yg fun hx=>by apply yDa n hn;exact hx)) (y0b (y8 (yB rfl) (yE fun v34=>(y8 (yB rfl) (yE fun v35=>(yB rfl))))))
def yDk(aW:Q2)(aS:Q2)(am:Int)(aA:List (Q3))(bi:Int)(aG:List (Q4)):Option (((Q2)×Int×Unit)⊕(List (Q4))) :=
  (Option.bind (idx aW.2.1 bi) fun v5=>(bif decide (aG.length+(1:Nat)≤memMax)then (some (Sum.inr (aG++[(z0R v5 (aS.2.2.1,(0:Int),())).1])))else none))
def yEL(aW:Q2)(aS:Q2)(am:Int)(aA:List (Q3))(aG:List (Q4)):Option ((Q2)×Int×Unit) :=
  (bif decide (List.length (aS.1) < lenMax)then yQ (fun ah aI aa=>y9O (aW) (aS) (am) ah aI aa.1 aa.2) (fun aa=>y7m (aW) (aS) (am) aa.1 aa.2) 0 (aS.1) ((aA),(aG))else none)
theorem yCk(n:Nat)(hn:big≤n)(aW:Q2)(aS:Q2)(am:Int)(aA:List (Q3))(aG:List (Q4))(hx:((↑aA.length:Int))≤9223372036854775807):LeF some (y2x (fun ah aa=>yDk aW aS am aA ah aa) (fun aa=>yEL aW aS am aA aa) (((↑aA.length:Int)) - 0).toNat 0 aG) (y6m n n aW aS 0 am aA aG):=by
  refine y6z (f:=some) (W:=fun aX ah aa=>y6m n aX aW aS ah am aA aa) (body:=(fun ah aa=>yDk aW aS am aA ah aa)) (fin:=(fun aa=>yEL aW aS am aA aa)) (fun aX ah aa=>?_) hx aG n 0 (by decide) (by unfold big at hn;omega)
  show LeF _ _ (yES n (y6m n aX) aW aS ah am aA aa)
  exact y8 (yE fun v5=>(y8 (yB rfl) y0D)) (y0b (yg fun hx=>by apply yD3 n hn;exact hx))
def y7l(a:Q2)(b:Q2):Option ((Q2)×Int×Unit) :=
  (Option.bind (y7O a) fun v0=>(bif !v0.1 then (some ((([],[],(0:Int),()),(4:Int),())))else (Option.bind (y7O b) fun v1=>(bif !v1.1 then (some ((([],[],(0:Int),()),(4:Int),())))else (bif decide ((0:Nat)+a.1.length≤memMax)then (bif decide (((↑a.1.length:Int))≤9223372036854775807)then y2x (fun ah aa=>yDk (a) (b) ((0:Int)) (a.1) ah aa) (fun aa=>yEL (a) (b) ((0:Int)) (a.1) aa) (((↑a.1.length:Int)) - 0).toNat 0 ([])else none)else none)))))
theorem yO7(a:Q2)(b:Q2)(y:(Q2)×Int×Unit)(h:y7l a b=some y):∃ n,yJX n a b=some y :=
  ⟨big,LeF.top (show LeF some (y7l a b) (yJX big a b)from (fun (n:Nat) (hn:big≤n)=>show LeF some (y7l a b) (yJX n a b)from (yE fun v0=>(y8 (yB rfl) (yE fun v1=>(y8 (yB rfl) (y8 (yg fun hx=>by apply yCk n hn;exact hx) y0D)))))) big (Nat.le_refl _)) h⟩
def z17_e:Entry:={ f:=45,args:=yNm,ress:=yXl,m:=fun x=>y7l x.1 x.2.1 }
theorem yTd:FnOK Tryz.prog z17_e:=yJ (g:=ySZ) (fn:=Tryz.f45) yA yI (y6 yNE (y6 yMq (y6 yUG (y6 yVS (y6 yLe eNil))))) (by kernel_rfl) (by kernel_rfl) (by kernel_rfl) (fun x y h=>let ⟨n,hn⟩:=yO7 x.1 x.2.1 y h;⟨yMR n,iNil,(yT1 n x).trans hn⟩)
abbrev yQ3:Ty:=.pair t25 (.pair t3 .unit)
abbrev yUS:Ty:=.pair t25 .unit
def yWW:G:={ T:=T,E:=[z0S_e,z0R_e,z0C_e],muts:=[6],fz:=[] }
def yYP:List (List Nat):=[[2,4,5,6,7]]
def yLr(n:Nat):Ann:={ keep:=yYP,fuel:=n,inl:=[],deep:=0 }
def yDz(n:Nat)(r1:Q2→Int→Int→Int→Int→List (Q4)→Option ((Q2)×Unit))(aO:Q2)(bl:Int)(ae:Int)(ac:Int)(au:Int)(aw:List (Q4)):Option ((Q2)×Unit) :=
  (bif decide (bl < (↑aO.2.1.length:Int))then (Option.bind (idx aO.2.1 bl) fun v2=>(bif decide (aw.length+(1:Nat)≤memMax)then r1 aO (IntKind.i64.wrap (bl+1)) ae ac au (aw++[(z0R v2 (ac,(0:Int),())).1])else none))else (Option.bind (y8J aO.1 aw (IntKind.i64.wrap (aO.2.2.1 * au))) fun v3=>some ((v3.1.1,v3.1.2.1,v3.1.2.2.1,()),())))
def y6Z(n:Nat)(k:Nat)(aO:Q2)(bl:Int)(ae:Int)(ac:Int)(au:Int)(aw:List (Q4)):Option ((Q2)×Unit) :=
  iter (fun r y=>yDz n (fun aO bl ae ac au aw=>r ((aO,(bl,())),(((ae,()),((ac,(au,())),(aw,()))),()))) y.1.1 y.1.2.1 y.2.1.1.1 y.2.1.2.1.1 y.2.1.2.1.2.1 y.2.1.2.2.1) k ((aO,(bl,())),(((ae,()),((ac,(au,())),(aw,()))),()))
def yKO(n:Nat)(t:Q2)(year:Int):Option ((Q2)×Unit) :=
  (Option.bind (yD2 year) fun v0=>(y6Z n n (t) ((0:Int)) ((0:Int)) (v0.1.1) (v0.1.2.1) ([])))
theorem yYB(n:Nat)(x:yQ3.den):runF yWW (yLr n) Tryz.f49 yQ3 yUS x=yKO n x.1 x.2.1:=by kernel_rfl
def yDy(aO:Q2)(ae:Int)(ac:Int)(au:Int)(bl:Int)(v2:Q4)(aw:List (Q4)):Option (((Q2)×Unit)⊕(List (Q4))) :=
  (bif decide (aw.length+(1:Nat)≤memMax)then (some (Sum.inr (aw++[(z0R v2 (ac,(0:Int),())).1])))else none)
def yDj(aO:Q2)(ae:Int)(ac:Int)(au:Int)(aw:List (Q4)):Option ((Q2)×Unit) :=
  (Option.bind (y8J aO.1 aw (IntKind.i64.wrap (aO.2.2.1 * au))) fun v3=>(some (((v3.1.1,v3.1.2.1,v3.1.2.2.1,()),()))))
theorem yD6(n:Nat)(hn:big≤n)(aO:Q2)(ae:Int)(ac:Int)(au:Int)(aw:List (Q4))(hx:List.length (aO.2.1) < lenMax):LeF some (yQ (fun ah aI aa=>yDy aO ae ac au ah aI aa) (fun aa=>yDj aO ae ac au aa) 0 (aO.2.1) aw) (y6Z n n aO 0 ae ac au aw):=by
  refine yd (f:=some) (W:=fun aX ah aa=>y6Z n aX aO ah ae ac au aa) (body:=(fun ah aI aa=>yDy aO ae ac au ah aI aa)) (fin:=(fun aa=>yDj aO ae ac au aa)) (fun aX ah aa=>?_) hx aw n (by unfold big at hn;unfold lenMax at hx;omega)
  show LeF _ _ (yDz n (y6Z n aX) aO ah ae ac au aa)
  exact y8 (yE fun v2=>(y8 (yB rfl) y0D)) (y0b (yE fun v3=>(yB rfl)))
def yCu(t:Q2)(year:Int):Option ((Q2)×Unit) :=
  (Option.bind (yD2 year) fun v0=>(bif decide (List.length (t.2.1) < lenMax)then yQ (fun ah aI aa=>yDy (t) ((0:Int)) (v0.1.1) (v0.1.2.1) ah aI aa) (fun aa=>yDj (t) ((0:Int)) (v0.1.1) (v0.1.2.1) aa) 0 (t.2.1) ([])else none))
theorem yQw(t:Q2)(year:Int)(y:(Q2)×Unit)(h:yCu t year=some y):∃ n,yKO n t year=some y :=
  ⟨big,LeF.top (show LeF some (yCu t year) (yKO big t year)from (fun (n:Nat) (hn:big≤n)=>show LeF some (yCu t year) (yKO n t year)from (yE fun v0=>(yg fun hx=>by apply yD6 n hn;exact hx))) big (Nat.le_refl _)) h⟩
def z0A_e:Entry:={ f:=49,args:=yQ3,ress:=yUS,m:=fun x=>yCu x.1 x.2.1 }
theorem yT9:FnOK Tryz.prog z0A_e:=yJ (g:=yWW) (fn:=Tryz.f49) yA yI (y6 yMc (y6 yMq (y6 yLe eNil))) (by kernel_rfl) (by kernel_rfl) (by kernel_rfl) (fun x y h=>let ⟨n,hn⟩:=yQw x.1 x.2.1 y h;⟨yLr n,iNil,(yYB n x).trans hn⟩)
abbrev yPH:Ty:=.pair t35 .unit
abbrev yUm:Ty:=.pair t41 (.pair t28 .unit)
def yXL:G:={ T:=T,E:=[z0e_e],muts:=[],fz:=[] }
def yak:List (List Nat):=[]
def yM4(n:Nat):Ann:={ keep:=yak,fuel:=n,inl:=[],deep:=0 }
def yNG(n:Nat)(l:List Nat):Option (List Int×Int×Unit) :=
  (Option.bind (yLB l (nat_lit 1065353216)) fun v0=>some (v0.1,v0.2.1,()))
theorem yXZ(n:Nat)(x:yPH.den):runF yXL (yM4 n) Tryz.f71 yPH yUm x=yNG n x.1:=by kernel_rfl
def yRY(l:List Nat):Option (List Int×Int×Unit):=yNG 0 l
theorem yNd(l:List Nat)(y:List Int×Int×Unit)(h:yRY l=some y):∃ n,yNG n l=some y:=⟨0,h⟩
def z0r_e:Entry:={ f:=71,args:=yPH,ress:=yUm,m:=fun x=>yRY x.1 }
theorem yVf:FnOK Tryz.prog z0r_e:=yJ (g:=yXL) (fn:=Tryz.f71) yA yI (y6 yMT eNil) (by kernel_rfl) (by kernel_rfl) (by kernel_rfl) (fun x y h=>let ⟨n,hn⟩:=yNd x.1 y h;⟨yM4 n,iNil,(yXZ n x).trans hn⟩)
abbrev yOU:Ty:=.pair t35 .unit
abbrev yTn:Ty:=.pair t41 (.pair t28 .unit)
def yUw:G:={ T:=T,E:=[z0e_e],muts:=[],fz:=[] }
def ya6:List (List Nat):=[]
def yLz(n:Nat):Ann:={ keep:=ya6,fuel:=n,inl:=[],deep:=0 }
def yO6(n:Nat)(l:List Nat):Option (List Int×Int×Unit) :=
  (Option.bind (yLB l (nat_lit 3212836864)) fun v0=>some (v0.1,v0.2.1,()))
theorem yWZ(n:Nat)(x:yOU.den):runF yUw (yLz n) Tryz.f72 yOU yTn x=yO6 n x.1:=by kernel_rfl
def yRK(l:List Nat):Option (List Int×Int×Unit):=yO6 0 l
theorem yQ8(l:List Nat)(y:List Int×Int×Unit)(h:yRK l=some y):∃ n,yO6 n l=some y:=⟨0,h⟩
def z19_e:Entry:={ f:=72,args:=yOU,ress:=yTn,m:=fun x=>yRK x.1 }
theorem yW4:FnOK Tryz.prog z19_e:=yJ (g:=yUw) (fn:=Tryz.f72) yA yI (y6 yMT eNil) (by kernel_rfl) (by kernel_rfl) (by kernel_rfl) (fun x y h=>let ⟨n,hn⟩:=yQ8 x.1 y h;⟨yLz n,iNil,(yWZ n x).trans hn⟩)
abbrev zL_a:Ty:=.pair t31 .unit
abbrev zL_r:Ty:=.pair t28 .unit
def zL_g:G:={ T:=T,E:=[z1D_e,z0y_e,zM_e],muts:=[21],fz:=[] }
def zL_k:List (List Nat):=[[4,22,23,24]]
def yVE(n:Nat):Ann:={ keep:=zL_k,fuel:=n,inl:=[],deep:=0 }
def yIr(n:Nat)(r1:List (Q3)→Int→Int→List (List UInt8×Bool)→Option (Int×Unit))(ax:List (Q3))(bg:Int)(b8:Int)(b7:List (List UInt8×Bool)):Option (Int×Unit) :=
  (bif decide (b8 < bg)then (Option.bind (idx ax b8) fun v2=>(Option.bind (zM_M (v2.1,v2.2.1,v2.2.2.1,())) fun v3=>(Option.bind (y1g [v3.1,(z1D ((y0B Ty.str Ty.bool b7 v2.1).getD Bool.false) (9:Int)).1]) fun v4=>(bif v4.1 != 0 then some (v4.1,())else r1 ax bg (IntKind.i64.wrap (b8+1)) (y0U Ty.str Ty.bool b7 v2.1 Bool.true)))))else some ((0:Int),()))
def y9q(n:Nat)(k:Nat)(ax:List (Q3))(bg:Int)(b8:Int)(b7:List (List UInt8×Bool)):Option (Int×Unit) :=
  iter (fun r y=>yIr n (fun ax bg b8 b7=>r ((ax,(bg,(b8,()))),((b7,()),()))) y.1.1 y.1.2.1 y.1.2.2.1 y.2.1.1) k ((ax,(bg,(b8,()))),((b7,()),()))
def zL_m(n:Nat)(l:List (Q3)):Option (Int×Unit) :=
  (Option.bind (y1g [(z1D ((↑l.length:Int)==0) (12:Int)).1,(z1D (decide ((↑l.length:Int) > 4)) (5:Int)).1]) fun v0=>(bif v0.1 != 0 then some (v0.1,())else (y9q n n (l) ((↑l.length:Int)) ((0:Int)) ([]))))
theorem yZx(n:Nat)(x:zL_a.den):runF zL_g (yVE n) Tryz.f88 zL_a zL_r x=zL_m n x.1:=by kernel_rfl
def yGL(ax:List (Q3))(b8:Int)(v2:Q3)(b7:List (List UInt8×Bool)):Option ((Int×Unit)⊕(List (List UInt8×Bool))) :=
  (Option.bind (zM_M (v2.1,v2.2.1,v2.2.2.1,())) fun v3=>(Option.bind (y1g [v3.1,(z1D ((y0B Ty.str Ty.bool b7 v2.1).getD Bool.false) (9:Int)).1]) fun v4=>(bif v4.1 != 0 then (some (Sum.inl ((v4.1,()))))else (some (Sum.inr (y0U Ty.str Ty.bool b7 v2.1 Bool.true))))))
def yL7(ax:List (Q3))(b7:List (List UInt8×Bool)):Option (Int×Unit) :=
  (some (((0:Int),())))
theorem yFT(n:Nat)(hn:big≤n)(ax:List (Q3))(b7:List (List UInt8×Bool))(hx:List.length (ax) < lenMax):LeF some (yQ (fun ah aI aa=>yGL ax ah aI aa) (fun aa=>yL7 ax aa) 0 (ax) b7) (y9q n n ax (List.length (ax):Int) 0 b7):=by
  refine yd (f:=some) (W:=fun aX ah aa=>y9q n aX ax (List.length (ax):Int) ah aa) (body:=(fun ah aI aa=>yGL ax ah aI aa)) (fin:=(fun aa=>yL7 ax aa)) (fun aX ah aa=>?_) hx b7 n (by unfold big at hn;unfold lenMax at hx;omega)
  show LeF _ _ (yIr n (y9q n aX) ax (List.length (ax):Int) ah aa)
  exact y8 (yE fun v2=>(yE fun v3=>(yE fun v4=>(y8 (yB rfl) (yB rfl))))) (y0b (yB rfl))
def zL_M(l:List (Q3)):Option (Int×Unit) :=
  (Option.bind (y1g [(z1D ((↑l.length:Int)==0) (12:Int)).1,(z1D (decide ((↑l.length:Int) > 4)) (5:Int)).1]) fun v0=>(bif v0.1 != 0 then (some ((v0.1,())))else (bif decide (List.length (l) < lenMax)then yQ (fun ah aI aa=>yGL (l) ah aI aa) (fun aa=>yL7 (l) aa) 0 (l) ([])else none)))
theorem yYG(l:List (Q3))(y:Int×Unit)(h:zL_M l=some y):∃ n,zL_m n l=some y :=
  ⟨big,LeF.top (show LeF some (zL_M l) (zL_m big l)from (fun (n:Nat) (hn:big≤n)=>show LeF some (zL_M l) (zL_m n l)from (yE fun v0=>(y8 (yB rfl) (yg fun hx=>by apply yFT n hn;exact hx)))) big (Nat.le_refl _)) h⟩
def zL_e:Entry:={ f:=88,args:=zL_a,ress:=zL_r,m:=fun x=>zL_M x.1 }
theorem yRV:FnOK Tryz.prog zL_e:=yJ (g:=zL_g) (fn:=Tryz.f88) yA yI (y6 y4O (y6 y3T (y6 yYd eNil))) (by kernel_rfl) (by kernel_rfl) (by kernel_rfl) (fun x y h=>let ⟨n,hn⟩:=yYG x.1 y h;⟨yVE n,iNil,(yZx n x).trans hn⟩)
abbrev yQh:Ty:=.pair t31 (.pair t23 (.pair t3 .unit))
abbrev yXc:Ty:=.pair t33 .unit
def yTZ:G:={ T:=T,E:=[z0b_e,z7_e,zx_e,zy_e,zG_e],muts:=[],fz:=[7] }
def yZA:List (List Nat):=[]
def yN4(n:Nat):Ann:={ keep:=yZA,fuel:=n,inl:=[],deep:=0 }
def yKg(n:Nat)(l:List (Q3))(amplitudes:List (Q4))(den:Int):Option ((Q2)×Unit) :=
  (Option.bind (yB7 amplitudes den) fun v0=>(Option.bind (z7_M l fun (x:(Q3)×Unit)=>zx_M x.1) fun v1=>(Option.bind (zG_M amplitudes fun (x:(Q4)×Unit)=>zy_M x.1 v0.1) fun v2=>(bif v0.1==0 then none else some ((v1.1,v2.1,IntKind.i64.wrap (den.tdiv v0.1),()),())))))
theorem yS3(n:Nat)(x:yQh.den):runF yTZ (yN4 n) Tryz.f121 yQh yXc x=yKg n x.1 x.2.1 x.2.2.1:=by kernel_rfl
def yBK(l:List (Q3))(amplitudes:List (Q4))(den:Int):Option ((Q2)×Unit):=yKg 0 l amplitudes den
theorem yPE(l:List (Q3))(amplitudes:List (Q4))(den:Int)(y:(Q2)×Unit)(h:yBK l amplitudes den=some y):∃ n,yKg n l amplitudes den=some y:=⟨0,h⟩
def z0K_e:Entry:={ f:=121,args:=yQh,ress:=yXc,m:=fun x=>yBK x.1 x.2.1 x.2.2.1 }
theorem yHJ:FnOK Tryz.prog z0K_e:=yJ (g:=yTZ) (fn:=Tryz.f121) yA yI (y6 yMy (y6 yYD (y6 yZa (y6 yZm (y6 yPs eNil))))) (by kernel_rfl) (by kernel_rfl) (by kernel_rfl) (fun x y h=>let ⟨n,hn⟩:=yPE x.1 x.2.1 x.2.2.1 y h;⟨yN4 n,iNil,(yS3 n x).trans hn⟩)
abbrev yPb:Ty:=.pair t3 .unit
abbrev yTV:Ty:=.pair t69 .unit
def yVQ:G:={ T:=T,E:=[z04_e,z11_e],muts:=[],fz:=[] }
def yYm:List (List Nat):=[]
def yMe(n:Nat):Ann:={ keep:=yYm,fuel:=n,inl:=[],deep:=0 }
def yJs(n:Nat)(year:Int):Option ((Q4)×Unit) :=
  (Option.bind (yGA (IntKind.i64.wrap ((104:Int) - (z04 (IntKind.i64.wrap (year.tmod (16:Int) - (8:Int)))).1)) (100:Int)) fun v0=>some ((v0.1.1,v0.1.2.1,()),()))
theorem yUO(n:Nat)(x:yPb.den):runF yVQ (yMe n) Tryz.f136 yPb yTV x=yJs n x.1:=by kernel_rfl
def yFx(year:Int):Option ((Q4)×Unit):=yJs 0 year
theorem yOJ(year:Int)(y:(Q4)×Unit)(h:yFx year=some y):∃ n,yJs n year=some y:=⟨0,h⟩
def z10_e:Entry:={ f:=136,args:=yPb,ress:=yTV,m:=fun x=>yFx x.1 }
theorem yLv:FnOK Tryz.prog z10_e:=yJ (g:=yVQ) (fn:=Tryz.f136) yA yI (y6 yB4 (y6 yH2 eNil)) (by kernel_rfl) (by kernel_rfl) (by kernel_rfl) (fun x y h=>let ⟨n,hn⟩:=yOJ x.1 y h;⟨yMe n,iNil,(yUO n x).trans hn⟩)
abbrev zT_a:Ty:=.pair t60 .unit
abbrev zT_r:Ty:=.pair t28 .unit
def zT_g:G:={ T:=T,E:=[z06_e,z0g_e,z07_e,z0M_e,zU_e,zX_e,zP_e,zB_e,zQ_e],muts:=[],fz:=[] }
def zT_k:List (List Nat):=[]
def yVI(n:Nat):Ann:={ keep:=zT_k,fuel:=n,inl:=[],deep:=0 }
def zT_m(n:Nat)(rp:Q1):Option (Int×Unit) :=
  (Option.bind (yBr rp.1) fun v0=>(Option.bind (yFR [(z0g (!v0.1) (8:Int)).1,(z07 rp.2.1 (0:Int) (100000:Int)).1,(z0g (decide ((↑rp.2.2.1.length:Int) > 4096)) (5:Int)).1]) fun v1=>(bif v1.1 != 0 then some (v1.1,())else (Option.bind (zU_M rp.2.2.1) fun v2=>(Option.bind (zX_M rp.2.2.2.1) fun v3=>(Option.bind (yFR [v2.1,v3.1]) fun v4=>(bif v4.1 != 0 then some (v4.1,())else (Option.bind (zB_M rp.2.2.2.1 fun (x:(Q4)×Unit)=>zP_M x.1 rp) fun v5=>(bif v5.1 then some ((14:Int),())else (Option.bind (zB_M rp.2.2.2.1 fun (x:(Q4)×Unit)=>zQ_M x.1 rp) fun v6=>some ((z0g v6.1 (1:Int)).1,())))))))))))
theorem ya9(n:Nat)(x:zT_a.den):runF zT_g (yVI n) Tryz.f157 zT_a zT_r x=zT_m n x.1:=by kernel_rfl
def zT_M(rp:Q1):Option (Int×Unit):=zT_m 0 rp
theorem ySz(rp:Q1)(y:Int×Unit)(h:zT_M rp=some y):∃ n,zT_m n rp=some y:=⟨0,h⟩
def zT_e:Entry:={ f:=157,args:=zT_a,ress:=zT_r,m:=fun x=>zT_M x.1 }
theorem yZe:FnOK Tryz.prog zT_e:=yJ (g:=zT_g) (fn:=Tryz.f157) yA yI (y6 yMO (y6 yCM (y6 ySu (y6 yMF (y6 ya8 (y6 yaf (y6 yaG (y6 yaE (y6 yaI eNil))))))))) (by kernel_rfl) (by kernel_rfl) (by kernel_rfl) (fun x y h=>let ⟨n,hn⟩:=ySz x.1 y h;⟨yVI n,iNil,(ya9 n x).trans hn⟩)
abbrev yR1:Ty:=.pair t55 (.pair (.ref t31) (.pair (.ref t60) .unit))
abbrev yYJ:Ty:=.pair t23 .unit
def yVV:G:={ T:=T,E:=[zm_e,zA_e],muts:=[],fz:=[] }
def yaV:List (List Nat):=[]
def yMs(n:Nat):Ann:={ keep:=yaV,fuel:=n,inl:=[],deep:=0 }
def yOK(n:Nat)(a:Q3)(p1:List (Q3))(p2:Q1):Option (List (Q4)×Unit) :=
  (Option.bind (zA_M p1 fun (x:(Q3)×Unit)=>zm_M x.1 p2 a) fun v0=>some (v0.1,()))
theorem yXS(n:Nat)(x:yR1.den):runF yVV (yMs n) Tryz.f192 yR1 yYJ x=yOK n x.1 x.2.1 x.2.2.1:=by kernel_rfl
def yPT(a:Q3)(p1:List (Q3))(p2:Q1):Option (List (Q4)×Unit):=yOK 0 a p1 p2
theorem yNU(a:Q3)(p1:List (Q3))(p2:Q1)(y:List (Q4)×Unit)(h:yPT a p1 p2=some y):∃ n,yOK n a p1 p2=some y:=⟨0,h⟩
def z05_e:Entry:={ f:=192,args:=yR1,ress:=yYJ,m:=fun x=>yPT x.1 x.2.1 x.2.2.1 }
theorem yWI:FnOK Tryz.prog z05_e:=yJ (g:=yVV) (fn:=Tryz.f192) yA yI (y6 yZP (y6 yQl eNil)) (by kernel_rfl) (by kernel_rfl) (by kernel_rfl) (fun x y h=>let ⟨n,hn⟩:=yNU x.1 x.2.1 x.2.2.1 y h;⟨yMs n,iNil,(yXS n x).trans hn⟩)
end
end Go.Tw
end
