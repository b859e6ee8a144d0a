import Derived.Test.YtpcnkpbpcebokaaGreatDoorBT
import Derived.Test.YtpcnkpbpcebokaaGreatDoorB0
import Derived.Test.YtpcnkpbpcebokaaGreatDoorBS
import Derived.Test.YtpcnkpbpcebokaaGreatDoorLQ
import Derived.Test.YtpcnkpbpcebokaaGreatDoorLR
import Derived.Test.YtpcnkpbpcebokaaGreatDoorBA
import Derived.Test.YtpcnkpbpcebokaaGreatDoorBC
set_option linter.all false
section
set_option maxRecDepth 1000000
namespace Go.Tw
open Go.Vx Go.Vx.B Go.Proofs
noncomputable section
abbrev yS4:Ty:=.pair t33 .unit
abbrev yXz:Ty:=.pair t28 .unit
def ya9:G:={ T:=T,E:=[zL_e,z1F_e,z0k_e,zF_e,z01_e,z11_e,z0g_e],muts:=[],fz:=[] }
def ydx:List (List Nat):=[]
def yPA(n:Nat):Ann:={ keep:=ydx,fuel:=n,inl:=[],deep:=0 }
def yT3(n:Nat)(t:Q2):Option (Int×Unit):=
  (Option.bind (zL_M t.1) λ v0=>(Option.bind (zF_M t.2.1 λ (x:(Q4)×Unit)=>ySB x.1) λ v1=>(Option.bind (y2H v1.1) λ v2=>(Option.bind (y2H [v0.1,(z1F ((↑t.2.1.length:Int) != (↑t.1.length:Int)) (2:Int)).1,(z0k t.2.2.1 (1:Int) (268435456:Int)).1,v2.1]) λ v3=>(bif v3.1 != 0 then some (v3.1,())else (Option.bind (yGj t.2.1 t.2.2.1) λ v4=>some ((z1F (v4.1 != 1) (1:Int)).1,())))))))
theorem yap(n:Nat)(x:yS4.den):runF ya9 (yPA n) Tryz.f28 yS4 yXz x=yT3 n x.1:=by kernel_rfl
def yE7(t:Q2):Option (Int×Unit):=yT3 0 t
theorem yTP(t:Q2)(y:Int×Unit)(h:yE7 t=some y):∃ n,yT3 n t=some y:=⟨0,h⟩
def z00_e:Entry:={ f:=28,args:=yS4,ress:=yXz,m:=λ x=>yE7 x.1 }
theorem yFw:FnOK Tryz.prog z00_e:=yL (g:=ya9) (fn:=Tryz.f28) yC yK (yA yYk (yA y6G (yA yBX (yA yae (yA yX5 (yA y4X (yA yO3 eNil))))))) (by kernel_rfl) (by kernel_rfl) (by kernel_rfl) (λ x y h=>let ⟨n,hn⟩:=yTP x.1 y h;⟨yPA n,iNil,(yap n x).trans hn⟩)
abbrev yRU:Ty:=.pair t3 .unit
abbrev yYa:Ty:=.pair t69 (.pair t28 .unit)
def yXM:G:={ T:=T,E:=[z0k_e,z13_e],muts:=[],fz:=[] }
def ycv:List (List Nat):=[]
def yO2(n:Nat):Ann:={ keep:=ycv,fuel:=n,inl:=[],deep:=0 }
def yRR(n:Nat)(year:Int):Option ((Q4)×Int×Unit):=
  (bif (z0k year (0:Int) (9999:Int)).1 != 0 then some (((0:Int),(0:Int),()),(z0k year (0:Int) (9999:Int)).1,())else (Option.bind (yTM year) λ v0=>some ((v0.1.1,v0.1.2.1,()),(0:Int),())))
theorem yag(n:Nat)(x:yRU.den):runF yXM (yO2 n) Tryz.f41 yRU yYa x=yRR n x.1:=by kernel_rfl
def yQn(year:Int):Option ((Q4)×Int×Unit):=yRR 0 year
theorem yRb(year:Int)(y:(Q4)×Int×Unit)(h:yQn year=some y):∃ n,yRR n year=some y:=⟨0,h⟩
def z0y_e:Entry:={ f:=41,args:=yRU,ress:=yYa,m:=λ x=>yQn x.1 }
theorem yXU:FnOK Tryz.prog z0y_e:=yL (g:=yXM) (fn:=Tryz.f41) yC yK (yA yBX (yA yV3 eNil)) (by kernel_rfl) (by kernel_rfl) (by kernel_rfl) (λ x y h=>let ⟨n,hn⟩:=yRb x.1 y h;⟨yO2 n,iNil,(yag n x).trans hn⟩)
abbrev zY_a:Ty:=.pair t94 (.pair t22 .unit)
abbrev zY_r:Ty:=.pair t3 .unit
def zY_g:G:={ T:=T,E:=[z0H_e,z1A_e],muts:=[],fz:=[] }
def zY_k:List (List Nat):=[]
def yXO(n:Nat):Ann:={ keep:=zY_k,fuel:=n,inl:=[],deep:=0 }
def zY_m(n:Nat)(rp:Q1)(l:List (Q3)):Option (Int×Unit):=
  (Option.bind (yDV rp l) λ v0=>(Option.bind (y0D (8:Nat) (v0.1,())) λ v1=>some (v1.1.1,())))
theorem ydP(n:Nat)(x:zY_a.den):runF zY_g (yXO n) Tryz.f61 zY_a zY_r x=zY_m n x.1 x.2.1:=by kernel_rfl
def zY_M(rp:Q1)(l:List (Q3)):Option (Int×Unit):=zY_m 0 rp l
theorem yYm(rp:Q1)(l:List (Q3))(y:Int×Unit)(h:zY_M rp l=some y):∃ n,zY_m n rp l=some y:=⟨0,h⟩
def zY_e:Entry:={ f:=61,args:=zY_a,ress:=zY_r,m:=λ x=>zY_M x.1 x.2.1 }
theorem yZ8:FnOK Tryz.prog zY_e:=yL (g:=zY_g) (fn:=Tryz.f61) yC yK (yA yO5 (yA yWq eNil)) (by kernel_rfl) (by kernel_rfl) (by kernel_rfl) (λ x y h=>let ⟨n,hn⟩:=yYm x.1 x.2.1 y h;⟨yXO n,iNil,(ydP n x).trans hn⟩)
abbrev zW_a:Ty:=.pair t94 .unit
abbrev zW_r:Ty:=.pair t3 .unit
def zW_g:G:={ T:=T,E:=[zn_e,ze_e,z0U_e,zd_e,zf_e,z19_e],muts:=[],fz:=[] }
def zW_k:List (List Nat):=[[1,4],[1,7],[1,8]]
def yVz(n:Nat):Ann:={ keep:=zW_k,fuel:=n,inl:=[],deep:=0 }
def yKB(n:Nat)(r8:Q1->Int->Option (Int×Unit))(cM:Q1)(dZ:Int):Option (Int×Unit):=
  (bif decide (dZ < (↑cM.2.2.1.length:Int))then (Option.bind (idx cM.2.2.1 dZ) λ v9=>(bif yr Go.BinOp.neq Go.FloatKind.f32 v9 (nat_lit 0)then (Option.bind (yAD cM.2.2.2.1 dZ) λ v10=>(bif v10.1 then some ((1:Int),())else r8 cM (IntKind.i64.wrap (dZ+1))))else r8 cM (IntKind.i64.wrap (dZ+1))))else some ((0:Int),()))
def yAf(n:Nat)(k:Nat)(cM:Q1)(dZ:Int):Option (Int×Unit):=
  iter (λ r y=>yKB n (λ cM dZ=>r ((cM,(dZ,())),((),()))) y.1.1 y.1.2.1) k ((cM,(dZ,())),((),()))
def yL0(n:Nat)(r6:Q1->Int->Option (Int×Unit))(ce:Q1)(eJ:Int):Option (Int×Unit):=
  (bif decide (eJ < (↑ce.2.2.2.1.length:Int))then (Option.bind (idx ce.2.2.2.1 eJ) λ v7=>(bif decide (v7.2.1 > (↑ce.2.2.1.length:Int))then some ((14:Int),())else r6 ce (IntKind.i64.wrap (eJ+1))))else (yAf n n (ce) ((0:Int))))
def yBF(n:Nat)(k:Nat)(ce:Q1)(eJ:Int):Option (Int×Unit):=
  iter (λ r y=>yL0 n (λ ce eJ=>r ((ce,(eJ,())),((),()))) y.1.1 y.1.2.1) k ((ce,(eJ,())),((),()))
def yIK(n:Nat)(r2:Q1->Int->Option (Int×Unit))(cf:Q1)(eK:Int):Option (Int×Unit):=
  (bif decide (eK < (↑cf.2.2.1.length:Int))then (Option.bind (idx cf.2.2.1 eK) λ v3=>(Option.bind (zd_M v3) λ v4=>(bif v4.1 != 0 then some (v4.1,())else r2 cf (IntKind.i64.wrap (eK+1)))))else (Option.bind (zf_M cf.2.2.2.1) λ v5=>(bif v5.1 != 0 then some (v5.1,())else (yBF n n (cf) ((0:Int))))))
def yA8(n:Nat)(k:Nat)(cf:Q1)(eK:Int):Option (Int×Unit):=
  iter (λ r y=>yIK n (λ cf eK=>r ((cf,(eK,())),((),()))) y.1.1 y.1.2.1) k ((cf,(eK,())),((),()))
def zW_m(n:Nat)(rp:Q1):Option (Int×Unit):=
  (Option.bind (zn_M rp.1) λ v0=>(Option.bind (y80 [v0.1,(ze rp.2.1 (0:Int) (100000:Int)).1]) λ v1=>(bif v1.1 != 0 then some (v1.1,())else (bif decide ((↑rp.2.2.1.length:Int) > 4096)then some ((5:Int),())else (yA8 n n (rp) ((0:Int)))))))
theorem ydd(n:Nat)(x:zW_a.den):runF zW_g (yVz n) Tryz.f86 zW_a zW_r x=zW_m n x.1:=by kernel_rfl
def yIC(cM:Q1)(dZ:Int)(v9:Nat):Option ((Int×Unit)⊕Unit):=
  (bif yr Go.BinOp.neq Go.FloatKind.f32 v9 (nat_lit 0)then (Option.bind (yAD cM.2.2.2.1 dZ) λ v10=>(bif v10.1 then (some (Sum.inl (((1:Int),()))))else (some (Sum.inr ()))))else (some (Sum.inr ())))
def yND(cM:Q1):Option (Int×Unit):=
  (some (((0:Int),())))
theorem yHD(n:Nat)(hn:big<=n)(cM:Q1)(hx:List.length (cM.2.2.1) < lenMax):LeF some (yP (λ ah dq a7=>yIC cM ah dq) (λ a7=>yND cM) 0 (cM.2.2.1) ()) (yAf n n cM 0):=by
  refine yS (f:=some) (W:=λ cb ah a7=>yAf n cb cM ah) (body:=(λ ah dq a7=>yIC cM ah dq)) (fin:=(λ a7=>yND cM)) (λ cb ah a7=>?_) hx () n (by unfold big at hn;unfold lenMax at hx;omega)
  show LeF _ _ (yKB n (yAf n cb) cM ah)
  exact y5 (y8 λ v9=>(y5 (y8 λ v10=>(y5 (y6 rfl) (y6 rfl))) (y6 rfl))) (yp (y6 rfl))
def yNQ(ce:Q1)(eJ:Int)(v7:Q4):Option ((Int×Unit)⊕Unit):=
  (bif decide (v7.2.1 > (↑ce.2.2.1.length:Int))then (some (Sum.inl (((14:Int),()))))else (some (Sum.inr ())))
def yNR(ce:Q1):Option (Int×Unit):=
  (bif decide (List.length (ce.2.2.1) < lenMax)then yP (λ ah dq a7=>yIC (ce) ah dq) (λ a7=>yND (ce)) 0 (ce.2.2.1) ()else none)
theorem yHP(n:Nat)(hn:big<=n)(ce:Q1)(hx:List.length (ce.2.2.2.1) < lenMax):LeF some (yP (λ ah dq a7=>yNQ ce ah dq) (λ a7=>yNR ce) 0 (ce.2.2.2.1) ()) (yBF n n ce 0):=by
  refine yS (f:=some) (W:=λ cb ah a7=>yBF n cb ce ah) (body:=(λ ah dq a7=>yNQ ce ah dq)) (fin:=(λ a7=>yNR ce)) (λ cb ah a7=>?_) hx () n (by unfold big at hn;unfold lenMax at hx;omega)
  show LeF _ _ (yL0 n (yBF n cb) ce ah)
  exact y5 (y8 λ v7=>(y5 (y6 rfl) (y6 rfl))) (yp (yM λ hx=>by apply yHD n hn;exact hx))
def yN5(cf:Q1)(eK:Int)(v3:Nat):Option ((Int×Unit)⊕Unit):=
  (Option.bind (zd_M v3) λ v4=>(bif v4.1 != 0 then (some (Sum.inl ((v4.1,()))))else (some (Sum.inr ()))))
def yLP(cf:Q1):Option (Int×Unit):=
  (Option.bind (zf_M cf.2.2.2.1) λ v5=>(bif v5.1 != 0 then (some ((v5.1,())))else (bif decide (List.length (cf.2.2.2.1) < lenMax)then yP (λ ah dq a7=>yNQ (cf) ah dq) (λ a7=>yNR (cf)) 0 (cf.2.2.2.1) ()else none)))
theorem yHL(n:Nat)(hn:big<=n)(cf:Q1)(hx:List.length (cf.2.2.1) < lenMax):LeF some (yP (λ ah dq a7=>yN5 cf ah dq) (λ a7=>yLP cf) 0 (cf.2.2.1) ()) (yA8 n n cf 0):=by
  refine yS (f:=some) (W:=λ cb ah a7=>yA8 n cb cf ah) (body:=(λ ah dq a7=>yN5 cf ah dq)) (fin:=(λ a7=>yLP cf)) (λ cb ah a7=>?_) hx () n (by unfold big at hn;unfold lenMax at hx;omega)
  show LeF _ _ (yIK n (yA8 n cb) cf ah)
  exact y5 (y8 λ v3=>(y8 λ v4=>(y5 (y6 rfl) (y6 rfl)))) (yp (y8 λ v5=>(y5 (y6 rfl) (yM λ hx=>by apply yHP n hn;exact hx))))
def zW_M(rp:Q1):Option (Int×Unit):=
  (Option.bind (zn_M rp.1) λ v0=>(Option.bind (y80 [v0.1,(ze rp.2.1 (0:Int) (100000:Int)).1]) λ v1=>(bif v1.1 != 0 then (some ((v1.1,())))else (bif decide ((↑rp.2.2.1.length:Int) > 4096)then (some (((5:Int),())))else (bif decide (List.length (rp.2.2.1) < lenMax)then yP (λ ah dq a7=>yN5 (rp) ah dq) (λ a7=>yLP (rp)) 0 (rp.2.2.1) ()else none)))))
theorem yWa(rp:Q1)(y:Int×Unit)(h:zW_M rp=some y):∃ n,zW_m n rp=some y:=
  ⟨big,LeF.top (show LeF some (zW_M rp) (zW_m big rp)from (λ (n:Nat) (hn:big<=n)=>show LeF some (zW_M rp) (zW_m n rp)from (y8 λ v0=>(y8 λ v1=>(y5 (y6 rfl) (y5 (y6 rfl) (yM λ hx=>by apply yHL n hn;exact hx)))))) big (Nat.le_refl _)) h⟩
def zW_e:Entry:={ f:=86,args:=zW_a,ress:=zW_r,m:=λ x=>zW_M x.1 }
theorem ydX:FnOK Tryz.prog zW_e:=yL (g:=zW_g) (fn:=Tryz.f86) yC yK (yA yaR (yA yYA (yA yIJ (yA ybf (yA ydv (yA yOY eNil)))))) (by kernel_rfl) (by kernel_rfl) (by kernel_rfl) (λ x y h=>let ⟨n,hn⟩:=yWa x.1 y h;⟨yVz n,iNil,(ydd n x).trans hn⟩)
abbrev yQ5:Ty:=.pair t60 (.pair t31 .unit)
abbrev yZa:Ty:=.pair t183 .unit
def yXG:G:={ T:=T,E:=[z0A_e,z8_e],muts:=[],fz:=[] }
def ydD:List (List Nat):=[]
def yOz(n:Nat):Ann:={ keep:=ydD,fuel:=n,inl:=[],deep:=0 }
def yLc(n:Nat)(rp:Q1)(l:List (Q3)):Option (List (List (Q4))×Unit):=
  (Option.bind (z8_M l λ (x:(Q3)×Unit)=>yHB x.1 l rp) λ v0=>some (v0.1,()))
theorem yXv(n:Nat)(x:yQ5.den):runF yXG (yOz n) Tryz.f122 yQ5 yZa x=yLc n x.1 x.2.1:=by kernel_rfl
def y8W(rp:Q1)(l:List (Q3)):Option (List (List (Q4))×Unit):=yLc 0 rp l
theorem yRO(rp:Q1)(l:List (Q3))(y:List (List (Q4))×Unit)(h:y8W rp l=some y):∃ n,yLc n rp l=some y:=⟨0,h⟩
def z0h_e:Entry:={ f:=122,args:=yQ5,ress:=yZa,m:=λ x=>y8W x.1 x.2.1 }
theorem yBm:FnOK Tryz.prog z0h_e:=yL (g:=yXG) (fn:=Tryz.f122) yC yK (yA yWt (yA ycM eNil)) (by kernel_rfl) (by kernel_rfl) (by kernel_rfl) (λ x y h=>let ⟨n,hn⟩:=yRO x.1 x.2.1 y h;⟨yOz n,iNil,(yXv n x).trans hn⟩)
abbrev zk_a:Ty:=.pair t60 .unit
abbrev zk_r:Ty:=.pair t28 .unit
def zk_g:G:={ T:=T,E:=[zU_e,z16_e,z1F_e],muts:=[],fz:=[] }
def zk_k:List (List Nat):=[]
def yVC(n:Nat):Ann:={ keep:=zk_k,fuel:=n,inl:=[],deep:=0 }
def zk_m(n:Nat)(rp:Q1):Option (Int×Unit):=
  (Option.bind (zU_M rp) λ v0=>(bif v0.1 != 0 then some (v0.1,())else (Option.bind (yAH rp) λ v1=>some ((z1F (decide ((↑v1.1.length:Int) > 128)) (5:Int)).1,()))))
theorem ydI(n:Nat)(x:zk_a.den):runF zk_g (yVC n) Tryz.f128 zk_a zk_r x=zk_m n x.1:=by kernel_rfl
def zk_M(rp:Q1):Option (Int×Unit):=zk_m 0 rp
theorem yYl(rp:Q1)(y:Int×Unit)(h:zk_M rp=some y):∃ n,zk_m n rp=some y:=⟨0,h⟩
def zk_e:Entry:={ f:=128,args:=zk_a,ress:=zk_r,m:=λ x=>zk_M x.1 }
theorem yX2:FnOK Tryz.prog zk_e:=yL (g:=zk_g) (fn:=Tryz.f128) yC yK (yA ycT (yA yOd (yA y6G eNil))) (by kernel_rfl) (by kernel_rfl) (by kernel_rfl) (λ x y h=>let ⟨n,hn⟩:=yYl x.1 y h;⟨yVC n,iNil,(ydI n x).trans hn⟩)
end
end Go.Tw
end
section
set_option maxRecDepth 1000000
namespace Go.Tw
open Go.Vx Go.Vx.B Go.Proofs
noncomputable section
abbrev yTz:Ty:=.pair t33 (.pair t3 (.pair t3 .unit))
abbrev yX9:Ty:=.pair t23 (.pair t28 .unit)
def yUa:G:={ T:=T,E:=[z00_e,z02_e,z11_e,z0M_e],muts:=[9],fz:=[] }
def ybJ:List (List Nat):=[[1,3,9,21,22]]
def yOG(n:Nat):Ann:={ keep:=ybJ,fuel:=n,inl:=[],deep:=0 }
def yGK(n:Nat)(r3:Int->Q2->Int->Int->List (Q4)->Option (List (Q4)×Int×Unit))(aO:Int)(dt:Q2)(bS:Int)(dM:Int)(dw:List (Q4)):Option (List (Q4)×Int×Unit):=
  (bif decide (dM < bS)then (Option.bind (yHd dt (IntKind.i64.wrap (aO+dM))) λ v4=>(bif decide (dw.length+(1:Nat)<=memMax)then r3 aO dt bS (IntKind.i64.wrap (dM+1)) (dw++[v4.1])else none))else some (dw,(0:Int),()))
def y75(n:Nat)(k:Nat)(aO:Int)(dt:Q2)(bS:Int)(dM:Int)(dw:List (Q4)):Option (List (Q4)×Int×Unit):=
  iter (λ r y=>yGK n (λ aO dt bS dM dw=>r ((aO,(dt,(bS,(dM,())))),((dw,()),()))) y.1.1 y.1.2.1 y.1.2.2.1 y.1.2.2.2.1 y.2.1.1) k ((aO,(dt,(bS,(dM,())))),((dw,()),()))
def yLR(n:Nat)(t:Q2)(p1:Int)(np:Int):Option (List (Q4)×Int×Unit):=
  (Option.bind (yE7 t) λ v0=>(Option.bind (yMy p1 np) λ v1=>(Option.bind (y2H [v0.1,v1.1]) λ v2=>(bif v2.1 != 0 then some ([],v2.1,())else (y75 n n (p1) (t) (np) ((0:Int)) ([]))))))
theorem yXg(n:Nat)(x:yTz.den):runF yUa (yOG n) Tryz.f20 yTz yX9 x=yLR n x.1 x.2.1 x.2.2.1:=by kernel_rfl
def yIL(aO:Int)(dt:Q2)(bS:Int)(dM:Int)(dw:List (Q4)):Option ((List (Q4)×Int×Unit)⊕(List (Q4))):=
  (Option.bind (yHd dt (IntKind.i64.wrap (aO+dM))) λ v4=>(bif decide (dw.length+(1:Nat)<=memMax)then (some (Sum.inr (dw++[v4.1])))else none))
def yJd(aO:Int)(dt:Q2)(bS:Int)(dw:List (Q4)):Option (List (Q4)×Int×Unit):=
  (some ((dw,(0:Int),())))
theorem yE6(n:Nat)(hn:big<=n)(aO:Int)(dt:Q2)(bS:Int)(dw:List (Q4))(hx:(bS)<=9223372036854775807):LeF some (y06 (λ ah a7=>yIL aO dt bS ah a7) (λ a7=>yJd aO dt bS a7) ((bS) - 0).toNat 0 dw) (y75 n n aO dt bS 0 dw):=by
  refine y0K (f:=some) (W:=λ cb ah a7=>y75 n cb aO dt bS ah a7) (body:=(λ ah a7=>yIL aO dt bS ah a7)) (fin:=(λ a7=>yJd aO dt bS a7)) (λ cb ah a7=>?_) hx dw n 0 (by decide) (by unfold big at hn;omega)
  show LeF _ _ (yGK n (y75 n cb) aO dt bS ah a7)
  exact y5 (y8 λ v4=>(y5 (y6 rfl) yy)) (yp (y6 rfl))
def yHG(t:Q2)(p1:Int)(np:Int):Option (List (Q4)×Int×Unit):=
  (Option.bind (yE7 t) λ v0=>(Option.bind (yMy p1 np) λ v1=>(Option.bind (y2H [v0.1,v1.1]) λ v2=>(bif v2.1 != 0 then (some (([],v2.1,())))else (bif decide ((np)<=9223372036854775807)then y06 (λ ah a7=>yIL (p1) (t) (np) ah a7) (λ a7=>yJd (p1) (t) (np) a7) ((np) - 0).toNat 0 ([])else none)))))
theorem yRw(t:Q2)(p1:Int)(np:Int)(y:List (Q4)×Int×Unit)(h:yHG t p1 np=some y):∃ n,yLR n t p1 np=some y:=
  ⟨big,LeF.top (show LeF some (yHG t p1 np) (yLR big t p1 np)from (λ (n:Nat) (hn:big<=n)=>show LeF some (yHG t p1 np) (yLR n t p1 np)from (y8 λ v0=>(y8 λ v1=>(y8 λ v2=>(y5 (y6 rfl) (yM λ hx=>by apply yE6 n hn;exact hx)))))) big (Nat.le_refl _)) h⟩
def z0L_e:Entry:={ f:=20,args:=yTz,ress:=yX9,m:=λ x=>yHG x.1 x.2.1 x.2.2.1 }
theorem yOl:FnOK Tryz.prog z0L_e:=yL (g:=yUa) (fn:=Tryz.f20) yC yK (yA yFw (yA yX3 (yA y4X (yA yOh eNil)))) (by kernel_rfl) (by kernel_rfl) (by kernel_rfl) (λ x y h=>let ⟨n,hn⟩:=yRw x.1 x.2.1 x.2.2.1 y h;⟨yOG n,iNil,(yXg n x).trans hn⟩)
abbrev yS8:Ty:=.pair t60 (.pair t33 .unit)
abbrev yV1:Ty:=.pair t69 (.pair t28 .unit)
def yUH:G:={ T:=T,E:=[zk_e,z00_e,zu_e,z1F_e,z11_e,z0M_e,z14_e],muts:=[],fz:=[] }
def ybw:List (List Nat):=[]
def yOX(n:Nat):Ann:={ keep:=ybw,fuel:=n,inl:=[il124,il195],deep:=3 }
def yBj(n:Nat)(r4:Q1->List (Q4)->List Nat->Int->Int->Q1->Q2->Q1->Q2->Int->Int->Q1->Int->Q2->Int->Q2->Bool->Bool->Int->List Int->Int->Int->Bool->Q1->Q1->Int->Int->Int->Q1->Q2->Q1->Q2->Int->Int->Q1->Int->Q2->Int->Q2->Bool->Bool->Int->List Int->Int->Int->Bool->Q1->Q1->Option ((Q4)×Int×Unit))(j12:Q1)(j13:List (Q4))(j14:Int)(j15:Nat)(j16:List Nat)(j17:Int)(j18:Int)(j19:Q1)(j20:Q2)(j21:Q1)(j22:Q2)(j23:Int)(j24:Int)(j25:Q1)(j26:Int)(j27:Q2)(j28:Int)(j29:Q2)(j30:Bool)(j31:Bool)(j32:Int)(j33:List Int)(j34:Int)(j35:Int)(j36:Bool)(j37:Q1)(j38:Q1)(j39:Int)(j40:Int)(j41:Int)(j42:Q1)(j43:Q2)(j44:Q1)(j45:Q2)(j46:Int)(j47:Int)(j48:Q1)(j49:Int)(j50:Q2)(j51:Int)(j52:Q2)(j53:Bool)(j54:Bool)(j55:Int)(j56:List Int)(j57:Int)(j58:Int)(j59:Bool)(j60:Q1)(j61:Q1):Option ((Q4)×Int×Unit):=
  (bif decide ((↑j13.length:Int) > 0)then (Option.bind (idx j13 (0:Int)) λ v62=>(bif decide (v62.1<=j14)then r4 j12 j13 j16 j17 (IntKind.i64.wrap (j18+1)) j19 j20 j21 j22 j23 j24 j25 j26 j27 j28 j29 j30 j31 j32 j33 j34 j35 j36 j37 j38 j39 j40 j41 j42 j43 j44 j45 j46 j47 j48 j49 j50 j51 j52 j53 j54 j55 j56 j57 j58 j59 j60 j61 else (Option.bind (yo Go.FloatKind.f32 (y09 Go.BinOp.mul Go.FloatKind.f32 j15 (nat_lit 1098907648)) IntKind.i64) λ v67=>(Option.bind (yHd j22 (IntKind.i64.wrap (j12.2.1+j14))) λ v68=>r4 j12 j13 j16 j17 (IntKind.i64.wrap (j18+1)) j19 j20 j21 j22 j23 j24 j25 j26 j27 j28 j29 j30 j31 j32 j33 j34 j35 j36 j37 j38 j39 j40 (IntKind.i64.wrap (j41+IntKind.i64.wrap (IntKind.i64.wrap (IntKind.i64.wrap (IntKind.i64.wrap (j22.2.2.1 * v67) - v68.1.1) * IntKind.i64.wrap (IntKind.i64.wrap (j22.2.2.1 * v67) - v68.1.1))+IntKind.i64.wrap (v68.1.2.1 * v68.1.2.1)))) j42 j43 j44 j45 j46 j47 j48 j49 j50 j51 j52 j53 j54 j55 j56 j57 j58 j59 j60 j61))))else (Option.bind (yo Go.FloatKind.f32 (y09 Go.BinOp.mul Go.FloatKind.f32 j15 (nat_lit 1098907648)) IntKind.i64) λ v69=>(Option.bind (yHd j22 (IntKind.i64.wrap (j12.2.1+j14))) λ v70=>r4 j12 j13 j16 j17 (IntKind.i64.wrap (j18+1)) j19 j20 j21 j22 j23 j24 j25 j26 j27 j28 j29 j30 j31 j32 j33 j34 j35 j36 j37 j38 j39 j40 (IntKind.i64.wrap (j41+IntKind.i64.wrap (IntKind.i64.wrap (IntKind.i64.wrap (IntKind.i64.wrap (j22.2.2.1 * v69) - v70.1.1) * IntKind.i64.wrap (IntKind.i64.wrap (j22.2.2.1 * v69) - v70.1.1))+IntKind.i64.wrap (v70.1.2.1 * v70.1.2.1)))) j42 j43 j44 j45 j46 j47 j48 j49 j50 j51 j52 j53 j54 j55 j56 j57 j58 j59 j60 j61)))
def yLN(n:Nat)(r4:Q1->List (Q4)->List Nat->Int->Int->Q1->Q2->Q1->Q2->Int->Int->Q1->Int->Q2->Int->Q2->Bool->Bool->Int->List Int->Int->Int->Bool->Q1->Q1->Int->Int->Int->Q1->Q2->Q1->Q2->Int->Int->Q1->Int->Q2->Int->Q2->Bool->Bool->Int->List Int->Int->Int->Bool->Q1->Q1->Option ((Q4)×Int×Unit))(r6:Q1->List (Q4)->Int->Nat->List Nat->Int->Int->Q1->Q2->Q1->Q2->Int->Int->Q1->Int->Q2->Int->Q2->Bool->Bool->Int->List Int->Int->Int->Bool->Q1->Q1->Int->Int->Int->Q1->Q2->Q1->Q2->Int->Int->Q1->Int->Q2->Int->Q2->Bool->Bool->Int->List Int->Int->Int->Bool->Q1->Q1->Option ((Q4)×Int×Unit))(eS:Q1)(cd:List (Q4))(eL:Int)(eT:Nat)(eU:List Nat)(e6:Int)(e7:Int)(dD:Q1)(dE:Q2)(dF:Q1)(dG:Q2)(dH:Int)(dI:Int)(cR:Q1)(cS:Int)(cT:Q2)(cU:Int)(cV:Q2)(cW:Bool)(cX:Bool)(cY:Int)(cZ:List Int)(d5:Int)(d6:Int)(d7:Bool)(d8:Q1)(cc:Q1)(dJ:Int)(dK:Int)(dL:Int)(eV:Q1)(eW:Q2)(eX:Q1)(eY:Q2)(eZ:Int)(f0:Int)(e8:Q1)(eb:Int)(ee:Q2)(eg:Int)(ek:Q2)(ep:Bool)(eu:Bool)(ev:Int)(ew:List Int)(ey:Int)(ez:Int)(eA:Bool)(eB:Q1)(d9:Q1):Option ((Q4)×Int×Unit):=
  (bif decide ((↑cd.length:Int) > 0)then (Option.bind (idx cd (0:Int)) λ v7=>(bif decide (v7.2.1<=eL)then (bif decide ((0:Int)<=1) && decide ((1:Int)<=(↑cd.length:Int))then r6 eS (List.drop (Int.toNat (1:Int)) cd) eL eT eU e6 e7 dD dE dF dG dH dI cR cS cT cU cV cW cX cY cZ d5 d6 d7 d8 cc dJ dK dL eV eW eX eY eZ f0 e8 eb ee eg ek ep eu ev ew ey ez eA eB d9 else none)else (yBj n r4 (eS) (cd) (eL) (eT) (eU) (e6) (e7) (dD) (dE) (dF) (dG) (dH) (dI) (cR) (cS) (cT) (cU) (cV) (cW) (cX) (cY) (cZ) (d5) (d6) (d7) (d8) (cc) (dJ) (dK) (dL) (eV) (eW) (eX) (eY) (eZ) (f0) (e8) (eb) (ee) (eg) (ek) (ep) (eu) (ev) (ew) (ey) (ez) (eA) (eB) (d9))))else (yBj n r4 (eS) (cd) (eL) (eT) (eU) (e6) (e7) (dD) (dE) (dF) (dG) (dH) (dI) (cR) (cS) (cT) (cU) (cV) (cW) (cX) (cY) (cZ) (d5) (d6) (d7) (d8) (cc) (dJ) (dK) (dL) (eV) (eW) (eX) (eY) (eZ) (f0) (e8) (eb) (ee) (eg) (ek) (ep) (eu) (ev) (ew) (ey) (ez) (eA) (eB) (d9)))
def yLW(n:Nat)(r4:Q1->List (Q4)->List Nat->Int->Int->Q1->Q2->Q1->Q2->Int->Int->Q1->Int->Q2->Int->Q2->Bool->Bool->Int->List Int->Int->Int->Bool->Q1->Q1->Int->Int->Int->Q1->Q2->Q1->Q2->Int->Int->Q1->Int->Q2->Int->Q2->Bool->Bool->Int->List Int->Int->Int->Bool->Q1->Q1->Option ((Q4)×Int×Unit))(k:Nat)(eS:Q1)(cd:List (Q4))(eL:Int)(eT:Nat)(eU:List Nat)(e6:Int)(e7:Int)(dD:Q1)(dE:Q2)(dF:Q1)(dG:Q2)(dH:Int)(dI:Int)(cR:Q1)(cS:Int)(cT:Q2)(cU:Int)(cV:Q2)(cW:Bool)(cX:Bool)(cY:Int)(cZ:List Int)(d5:Int)(d6:Int)(d7:Bool)(d8:Q1)(cc:Q1)(dJ:Int)(dK:Int)(dL:Int)(eV:Q1)(eW:Q2)(eX:Q1)(eY:Q2)(eZ:Int)(f0:Int)(e8:Q1)(eb:Int)(ee:Q2)(eg:Int)(ek:Q2)(ep:Bool)(eu:Bool)(ev:Int)(ew:List Int)(ey:Int)(ez:Int)(eA:Bool)(eB:Q1)(d9:Q1):Option ((Q4)×Int×Unit):=
  iter (λ r y=>yLN n r4 (λ eS cd eL eT eU e6 e7 dD dE dF dG dH dI cR cS cT cU cV cW cX cY cZ d5 d6 d7 d8 cc dJ dK dL eV eW eX eY eZ f0 e8 eb ee eg ek ep eu ev ew ey ez eA eB d9=>r ((eS,(cd,(eL,(eT,(eU,(e6,(e7,()))))))),(((dD,(dE,(dF,(dG,(dH,(dI,(cR,(cS,(cT,(cU,(cV,(cW,(cX,(cY,(cZ,(d5,(d6,(d7,(d8,((cc,()),())))))))))))))))))))),((dJ,(dK,())),((dL,()),()))),(eV,(eW,(eX,(eY,(eZ,(f0,(e8,(eb,(ee,(eg,(ek,(ep,(eu,(ev,(ew,(ey,(ez,(eA,(eB,((d9,()),()))))))))))))))))))))))) y.1.1 y.1.2.1 y.1.2.2.1 y.1.2.2.2.1 y.1.2.2.2.2.1 y.1.2.2.2.2.2.1 y.1.2.2.2.2.2.2.1 y.2.1.1.1 y.2.1.1.2.1 y.2.1.1.2.2.1 y.2.1.1.2.2.2.1 y.2.1.1.2.2.2.2.1 y.2.1.1.2.2.2.2.2.1 y.2.1.1.2.2.2.2.2.2.1 y.2.1.1.2.2.2.2.2.2.2.1 y.2.1.1.2.2.2.2.2.2.2.2.1 y.2.1.1.2.2.2.2.2.2.2.2.2.1 y.2.1.1.2.2.2.2.2.2.2.2.2.2.1 y.2.1.1.2.2.2.2.2.2.2.2.2.2.2.1 y.2.1.1.2.2.2.2.2.2.2.2.2.2.2.2.1 y.2.1.1.2.2.2.2.2.2.2.2.2.2.2.2.2.1 y.2.1.1.2.2.2.2.2.2.2.2.2.2.2.2.2.2.1 y.2.1.1.2.2.2.2.2.2.2.2.2.2.2.2.2.2.2.1 y.2.1.1.2.2.2.2.2.2.2.2.2.2.2.2.2.2.2.2.1 y.2.1.1.2.2.2.2.2.2.2.2.2.2.2.2.2.2.2.2.2.1 y.2.1.1.2.2.2.2.2.2.2.2.2.2.2.2.2.2.2.2.2.2.1 y.2.1.1.2.2.2.2.2.2.2.2.2.2.2.2.2.2.2.2.2.2.2.1.1 y.2.1.2.1.1 y.2.1.2.1.2.1 y.2.1.2.2.1.1 y.2.2.1 y.2.2.2.1 y.2.2.2.2.1 y.2.2.2.2.2.1 y.2.2.2.2.2.2.1 y.2.2.2.2.2.2.2.1 y.2.2.2.2.2.2.2.2.1 y.2.2.2.2.2.2.2.2.2.1 y.2.2.2.2.2.2.2.2.2.2.1 y.2.2.2.2.2.2.2.2.2.2.2.1 y.2.2.2.2.2.2.2.2.2.2.2.2.1 y.2.2.2.2.2.2.2.2.2.2.2.2.2.1 y.2.2.2.2.2.2.2.2.2.2.2.2.2.2.1 y.2.2.2.2.2.2.2.2.2.2.2.2.2.2.2.1 y.2.2.2.2.2.2.2.2.2.2.2.2.2.2.2.2.1 y.2.2.2.2.2.2.2.2.2.2.2.2.2.2.2.2.2.1 y.2.2.2.2.2.2.2.2.2.2.2.2.2.2.2.2.2.2.1 y.2.2.2.2.2.2.2.2.2.2.2.2.2.2.2.2.2.2.2.1 y.2.2.2.2.2.2.2.2.2.2.2.2.2.2.2.2.2.2.2.2.1 y.2.2.2.2.2.2.2.2.2.2.2.2.2.2.2.2.2.2.2.2.2.1.1) k ((eS,(cd,(eL,(eT,(eU,(e6,(e7,()))))))),(((dD,(dE,(dF,(dG,(dH,(dI,(cR,(cS,(cT,(cU,(cV,(cW,(cX,(cY,(cZ,(d5,(d6,(d7,(d8,((cc,()),())))))))))))))))))))),((dJ,(dK,())),((dL,()),()))),(eV,(eW,(eX,(eY,(eZ,(f0,(e8,(eb,(ee,(eg,(ek,(ep,(eu,(ev,(ew,(ey,(ez,(eA,(eB,((d9,()),()))))))))))))))))))))))
def yNs(n:Nat)(r4:Q1->List (Q4)->List Nat->Int->Int->Q1->Q2->Q1->Q2->Int->Int->Q1->Int->Q2->Int->Q2->Bool->Bool->Int->List Int->Int->Int->Bool->Q1->Q1->Int->Int->Int->Q1->Q2->Q1->Q2->Int->Int->Q1->Int->Q2->Int->Q2->Bool->Bool->Int->List Int->Int->Int->Bool->Q1->Q1->Option ((Q4)×Int×Unit))(cB:Q1)(aa:List (Q4))(ci:List Nat)(bp:Int)(bf:Int)(az:Q1)(aA:Q2)(aB:Q1)(eC:Q2)(aC:Int)(aD:Int)(dN:Q1)(dO:Int)(dP:Q2)(ai:Int)(aj:Q2)(ak:Bool)(al:Bool)(am:Int)(dQ:List Int)(dR:Int)(dS:Int)(aq:Bool)(ar:Q1)(cQ:Q1)(aE:Int)(aF:Int)(ax:Int)(cC:Q1)(cD:Q2)(cE:Q1)(f7:Q2)(cF:Int)(cG:Int)(eM:Q1)(eN:Int)(eO:Q2)(bu:Int)(bv:Q2)(bw:Bool)(bx:Bool)(bz:Int)(eP:List Int)(eQ:Int)(eR:Int)(bA:Bool)(bB:Q1)(dT:Q1):Option ((Q4)×Int×Unit):=
  (bif decide (bf < bp)then (Option.bind (idx ci bf) λ v5=>(yLW n r4 n (cB) (aa) (bf) (v5) (ci) (bp) (bf) (az) (aA) (aB) (eC) (aC) (aD) (dN) (dO) (dP) (ai) (aj) (ak) (al) (am) (dQ) (dR) (dS) (aq) (ar) (cQ) (aE) (aF) (ax) (cC) (cD) (cE) (f7) (cF) (cG) (eM) (eN) (eO) (bu) (bv) (bw) (bx) (bz) (eP) (eQ) (eR) (bA) (bB) (dT)))else (Option.bind (yHN ax (IntKind.i64.wrap (f7.2.2.1 * f7.2.2.1))) λ v72=>some ((v72.1.1,v72.1.2.1,()),(0:Int),())))
def yLy(n:Nat)(k:Nat)(cB:Q1)(aa:List (Q4))(ci:List Nat)(bp:Int)(bf:Int)(az:Q1)(aA:Q2)(aB:Q1)(eC:Q2)(aC:Int)(aD:Int)(dN:Q1)(dO:Int)(dP:Q2)(ai:Int)(aj:Q2)(ak:Bool)(al:Bool)(am:Int)(dQ:List Int)(dR:Int)(dS:Int)(aq:Bool)(ar:Q1)(cQ:Q1)(aE:Int)(aF:Int)(ax:Int)(cC:Q1)(cD:Q2)(cE:Q1)(f7:Q2)(cF:Int)(cG:Int)(eM:Q1)(eN:Int)(eO:Q2)(bu:Int)(bv:Q2)(bw:Bool)(bx:Bool)(bz:Int)(eP:List Int)(eQ:Int)(eR:Int)(bA:Bool)(bB:Q1)(dT:Q1):Option ((Q4)×Int×Unit):=
  iter (λ r y=>yNs n (λ cB aa ci bp bf az aA aB eC aC aD dN dO dP ai aj ak al am dQ dR dS aq ar cQ aE aF ax cC cD cE f7 cF cG eM eN eO bu bv bw bx bz eP eQ eR bA bB dT=>r ((cB,(aa,(ci,(bp,(bf,()))))),(((az,(aA,(aB,(eC,(aC,(aD,(dN,(dO,(dP,(ai,(aj,(ak,(al,(am,(dQ,(dR,(dS,(aq,(ar,((cQ,()),())))))))))))))))))))),((aE,(aF,())),((ax,()),()))),(cC,(cD,(cE,(f7,(cF,(cG,(eM,(eN,(eO,(bu,(bv,(bw,(bx,(bz,(eP,(eQ,(eR,(bA,(bB,((dT,()),()))))))))))))))))))))))) y.1.1 y.1.2.1 y.1.2.2.1 y.1.2.2.2.1 y.1.2.2.2.2.1 y.2.1.1.1 y.2.1.1.2.1 y.2.1.1.2.2.1 y.2.1.1.2.2.2.1 y.2.1.1.2.2.2.2.1 y.2.1.1.2.2.2.2.2.1 y.2.1.1.2.2.2.2.2.2.1 y.2.1.1.2.2.2.2.2.2.2.1 y.2.1.1.2.2.2.2.2.2.2.2.1 y.2.1.1.2.2.2.2.2.2.2.2.2.1 y.2.1.1.2.2.2.2.2.2.2.2.2.2.1 y.2.1.1.2.2.2.2.2.2.2.2.2.2.2.1 y.2.1.1.2.2.2.2.2.2.2.2.2.2.2.2.1 y.2.1.1.2.2.2.2.2.2.2.2.2.2.2.2.2.1 y.2.1.1.2.2.2.2.2.2.2.2.2.2.2.2.2.2.1 y.2.1.1.2.2.2.2.2.2.2.2.2.2.2.2.2.2.2.1 y.2.1.1.2.2.2.2.2.2.2.2.2.2.2.2.2.2.2.2.1 y.2.1.1.2.2.2.2.2.2.2.2.2.2.2.2.2.2.2.2.2.1 y.2.1.1.2.2.2.2.2.2.2.2.2.2.2.2.2.2.2.2.2.2.1 y.2.1.1.2.2.2.2.2.2.2.2.2.2.2.2.2.2.2.2.2.2.2.1.1 y.2.1.2.1.1 y.2.1.2.1.2.1 y.2.1.2.2.1.1 y.2.2.1 y.2.2.2.1 y.2.2.2.2.1 y.2.2.2.2.2.1 y.2.2.2.2.2.2.1 y.2.2.2.2.2.2.2.1 y.2.2.2.2.2.2.2.2.1 y.2.2.2.2.2.2.2.2.2.1 y.2.2.2.2.2.2.2.2.2.2.1 y.2.2.2.2.2.2.2.2.2.2.2.1 y.2.2.2.2.2.2.2.2.2.2.2.2.1 y.2.2.2.2.2.2.2.2.2.2.2.2.2.1 y.2.2.2.2.2.2.2.2.2.2.2.2.2.2.1 y.2.2.2.2.2.2.2.2.2.2.2.2.2.2.2.1 y.2.2.2.2.2.2.2.2.2.2.2.2.2.2.2.2.1 y.2.2.2.2.2.2.2.2.2.2.2.2.2.2.2.2.2.1 y.2.2.2.2.2.2.2.2.2.2.2.2.2.2.2.2.2.2.1 y.2.2.2.2.2.2.2.2.2.2.2.2.2.2.2.2.2.2.2.1 y.2.2.2.2.2.2.2.2.2.2.2.2.2.2.2.2.2.2.2.2.1 y.2.2.2.2.2.2.2.2.2.2.2.2.2.2.2.2.2.2.2.2.2.1.1) k ((cB,(aa,(ci,(bp,(bf,()))))),(((az,(aA,(aB,(eC,(aC,(aD,(dN,(dO,(dP,(ai,(aj,(ak,(al,(am,(dQ,(dR,(dS,(aq,(ar,((cQ,()),())))))))))))))))))))),((aE,(aF,())),((ax,()),()))),(cC,(cD,(cE,(f7,(cF,(cG,(eM,(eN,(eO,(bu,(bv,(bw,(bx,(bz,(eP,(eQ,(eR,(bA,(bB,((dT,()),()))))))))))))))))))))))
def yQl(n:Nat)(rp:Q1)(t:Q2):Option ((Q4)×Int×Unit):=
  (Option.bind (zk_M rp) λ v0=>(Option.bind (yE7 t) λ v1=>(Option.bind (zu_M t) λ v2=>(Option.bind (y2H [v0.1,v1.1,(z1F (!v2.1) (4:Int)).1]) λ v3=>(bif v3.1 != 0 then some (((0:Int),(0:Int),()),v3.1,())else (yLy n n (rp) (rp.2.2.2.1) (rp.2.2.1) ((↑rp.2.2.1.length:Int)) ((0:Int)) (rp) (t) (rp) (t) ((0:Int)) (v3.1) (rp) (v0.1) (t) (v1.1) (t) (v2.1) (!v2.1) ((z1F (!v2.1) (4:Int)).1) ([v0.1,v1.1,(z1F (!v2.1) (4:Int)).1]) (v3.1) (v3.1) (v3.1 != 0) (rp) (rp) ((0:Int)) ((0:Int)) ((0:Int)) (rp) (t) (rp) (t) ((0:Int)) (v3.1) (rp) (v0.1) (t) (v1.1) (t) (v2.1) (!v2.1) ((z1F (!v2.1) (4:Int)).1) ([v0.1,v1.1,(z1F (!v2.1) (4:Int)).1]) (v3.1) (v3.1) (v3.1 != 0) (rp) (rp)))))))
theorem yar(n:Nat)(x:yS8.den):runF yUH (yOX n) Tryz.f37 yS8 yV1 x=yQl n x.1 x.2.1:=by kernel_rfl
def yQF(rp:Q1)(t:Q2):Option ((Q4)×Int×Unit):=yQl 1000 rp t
theorem ySD(rp:Q1)(t:Q2)(y:(Q4)×Int×Unit)(h:yQF rp t=some y):∃ n,yQl n rp t=some y:=⟨1000,h⟩
def z08_e:Entry:={ f:=37,args:=yS8,ress:=yV1,m:=λ x=>yQF x.1 x.2.1 }
theorem yVk:FnOK Tryz.prog z08_e:=yL (g:=yUH) (fn:=Tryz.f37) yC yK (yA yX2 (yA yFw (yA ycp (yA y6G (yA y4X (yA yOh (yA yIF eNil))))))) (by kernel_rfl) (by kernel_rfl) (by kernel_rfl) (λ x y h=>let ⟨n,hn⟩:=ySD x.1 x.2.1 y h;⟨yOX n,(y58 y5A (y58 y4s iNil)),(yar n x).trans hn⟩)
abbrev yRS:Ty:=.pair t33 .unit
abbrev yUQ:Ty:=.pair t79 (.pair t28 .unit)
def yWE:G:={ T:=T,E:=[z00_e,z0e_e,z1F_e,zF_e,z11_e,z0f_e,zH_e],muts:=[],fz:=[] }
def ydf:List (List Nat):=[]
def yPN(n:Nat):Ann:={ keep:=ydf,fuel:=n,inl:=[],deep:=0 }
def yTh(n:Nat)(t:Q2):Option (List (Nat×Nat)×Int×Unit):=
  (Option.bind (yE7 t) λ v0=>(bif v0.1 != 0 then some ([],v0.1,())else (Option.bind (zF_M t.2.1 λ (x:(Q4)×Unit)=>yRF x.1) λ v1=>(Option.bind (y2H v1.1) λ v2=>(Option.bind (y2H [(z1F (y1q IntKind.i64 Go.BinOp.and t.2.2.1 (IntKind.i64.wrap (t.2.2.1 - (1:Int))) != 0) (1:Int)).1,v2.1]) λ v3=>(bif v3.1 != 0 then some ([],v3.1,())else (Option.bind (zH_M t.2.1 λ (x:(Q4)×Unit)=>yTn x.1 (y17 Go.FloatKind.f32 (IntKind.i64.wrap ((16:Int) * t.2.2.1)),nat_lit 0)) λ v4=>some (v4.1,(0:Int),()))))))))
theorem yYw(n:Nat)(x:yRS.den):runF yWE (yPN n) Tryz.f43 yRS yUQ x=yTh n x.1:=by kernel_rfl
def yTu(t:Q2):Option (List (Nat×Nat)×Int×Unit):=yTh 0 t
theorem yTf(t:Q2)(y:List (Nat×Nat)×Int×Unit)(h:yTu t=some y):∃ n,yTh n t=some y:=⟨0,h⟩
def z1D_e:Entry:={ f:=43,args:=yRS,ress:=yUQ,m:=λ x=>yTu x.1 }
theorem yUV:FnOK Tryz.prog z1D_e:=yL (g:=yWE) (fn:=Tryz.f43) yC yK (yA yFw (yA yXZ (yA y6G (yA yae (yA y4X (yA yYU (yA yce eNil))))))) (by kernel_rfl) (by kernel_rfl) (by kernel_rfl) (λ x y h=>let ⟨n,hn⟩:=yTf x.1 y h;⟨yPN n,iNil,(yYw n x).trans hn⟩)
abbrev ySd:Ty:=.pair t94 (.pair t22 .unit)
abbrev yZH:Ty:=.pair t3 .unit
def yVx:G:={ T:=T,E:=[z0a_e,zY_e],muts:=[7],fz:=[] }
def ydH:List (List Nat):=[[1,2,5,6],[1,2,5,6,7,8]]
def yOp(n:Nat):Ann:={ keep:=ydH,fuel:=n,inl:=[],deep:=0 }
def yEp(n:Nat)(r0:List (Q3)->Q1->Int->Int->Option (Int×Unit))(r2:List (Q3)->Q1->Int->Int->Int->List (Q3)->Option (Int×Unit))(ay:List (Q3))(aP:Q1)(ae:Int)(aN:Int)(dY:Int)(ac:List (Q3)):Option (Int×Unit):=
  (bif decide (dY < (↑ay.length:Int))then (Option.bind (y7e dY) λ v3=>(bif v3.1==0 then none else (bif (IntKind.i64.wrap (aN.tdiv v3.1)).tmod (2:Int)==1 then (Option.bind (idx ay dY) λ v4=>(bif decide (ac.length+(1:Nat)<=memMax)then r2 ay aP ae aN (IntKind.i64.wrap (dY+1)) (ac++[v4])else none))else r2 ay aP ae aN (IntKind.i64.wrap (dY+1)) ac)))else (Option.bind (zY_M aP ac) λ v5=>(bif decide (v5.1 > 0)then r0 ay aP (if (↑ac.length:Int) > ae then (↑ac.length:Int)else ae) (IntKind.i64.wrap (aN+1))else r0 ay aP ae (IntKind.i64.wrap (aN+1)))))
def y78(n:Nat)(r0:List (Q3)->Q1->Int->Int->Option (Int×Unit))(k:Nat)(ay:List (Q3))(aP:Q1)(ae:Int)(aN:Int)(dY:Int)(ac:List (Q3)):Option (Int×Unit):=
  iter (λ r y=>yEp n r0 (λ ay aP ae aN dY ac=>r ((ay,(aP,(ae,(aN,(dY,()))))),((ac,()),()))) y.1.1 y.1.2.1 y.1.2.2.1 y.1.2.2.2.1 y.1.2.2.2.2.1 y.2.1.1) k ((ay,(aP,(ae,(aN,(dY,()))))),((ac,()),()))
def yFB(n:Nat)(r0:List (Q3)->Q1->Int->Int->Option (Int×Unit))(cO:List (Q3))(du:Q1)(bh:Int)(db:Int):Option (Int×Unit):=
  (Option.bind (y7e (↑cO.length:Int)) λ v1=>(bif decide (db < v1.1)then (y78 n r0 n (cO) (du) (bh) (db) ((0:Int)) ([]))else some (bh,())))
def y6o(n:Nat)(k:Nat)(cO:List (Q3))(du:Q1)(bh:Int)(db:Int):Option (Int×Unit):=
  iter (λ r y=>yFB n (λ cO du bh db=>r ((cO,(du,(bh,(db,())))),((),()))) y.1.1 y.1.2.1 y.1.2.2.1 y.1.2.2.2.1) k ((cO,(du,(bh,(db,())))),((),()))
def yLv(n:Nat)(rp:Q1)(l:List (Q3)):Option (Int×Unit):=
  (y6o n n (l) (rp) ((0:Int)) ((0:Int)))
theorem yUl(n:Nat)(x:ySd.den):runF yVx (yOp n) Tryz.f62 ySd yZH x=yLv n x.1 x.2.1:=by kernel_rfl
def y9F(ay:List (Q3))(aP:Q1)(ae:Int)(aN:Int)(dY:Int)(ac:List (Q3)):Option (((Int×Unit)⊕(Int))⊕(List (Q3))):=
  (Option.bind (y7e dY) λ v3=>(bif v3.1==0 then none else (bif (IntKind.i64.wrap (aN.tdiv v3.1)).tmod (2:Int)==1 then (Option.bind (idx ay dY) λ v4=>(bif decide (ac.length+(1:Nat)<=memMax)then (some (Sum.inr (ac++[v4])))else none))else (some (Sum.inr (ac))))))
def y7Z(ay:List (Q3))(aP:Q1)(ae:Int)(aN:Int)(ac:List (Q3)):Option ((Int×Unit)⊕(Int)):=
  (Option.bind (zY_M aP ac) λ v5=>(bif decide (v5.1 > 0)then (some (Sum.inr (if (↑ac.length:Int) > ae then (↑ac.length:Int)else ae)))else (some (Sum.inr (ae)))))
theorem yDG(n:Nat)(hn:big<=n)(r0:List (Q3)->Q1->Int->Int->Option (Int×Unit))(ay:List (Q3))(aP:Q1)(ae:Int)(aN:Int)(ac:List (Q3))(hx:((↑ay.length:Int))<=9223372036854775807):LeF (elim some λ (a7:(Int))=>r0 ay aP a7 (IntKind.i64.wrap (aN+1))) (y06 (λ ah a7=>y9F ay aP ae aN ah a7) (λ a7=>y7Z ay aP ae aN a7) (((↑ay.length:Int)) - 0).toNat 0 ac) (y78 n r0 n ay aP ae aN 0 ac):=by
  refine y0K (f:=(elim some λ (a7:(Int))=>r0 ay aP a7 (IntKind.i64.wrap (aN+1)))) (W:=λ cb ah a7=>y78 n r0 cb ay aP ae aN ah a7) (body:=(λ ah a7=>y9F ay aP ae aN ah a7)) (fin:=(λ a7=>y7Z ay aP ae aN a7)) (λ cb ah a7=>?_) hx ac n 0 (by decide) (by unfold big at hn;omega)
  show LeF _ _ (yEp n r0 (y78 n r0 cb) ay aP ae aN ah a7)
  exact y5 (y8 λ v3=>(y5 yy (y5 (y8 λ v4=>(y5 (y6 rfl) yy)) (y6 rfl)))) (yp (y8 λ v5=>(y5 (y6 rfl) (y6 rfl))))
def yCo(cO:List (Q3))(du:Q1)(v1:Int×Unit)(db:Int)(bh:Int):Option ((Int×Unit)⊕(Int)):=
  (bif decide (((↑cO.length:Int))<=9223372036854775807)then y06 (λ ah a7=>y9F (cO) (du) (bh) (db) ah a7) (λ a7=>y7Z (cO) (du) (bh) (db) a7) (((↑cO.length:Int)) - 0).toNat 0 ([])else none)
def yEw(cO:List (Q3))(du:Q1)(v1:Int×Unit)(bh:Int):Option (Int×Unit):=
  (some ((bh,())))
theorem yDm(n:Nat)(hn:big<=n)(cO:List (Q3))(du:Q1)(bh:Int)(v1:Int×Unit)(h0__:(y7e (↑cO.length:Int))=some v1)(hx:(v1.1)<=9223372036854775807):LeF some (y06 (λ ah a7=>yCo cO du v1 ah a7) (λ a7=>yEw cO du v1 a7) ((v1.1) - 0).toNat 0 bh) (y6o n n cO du bh 0):=by
  refine y0K (f:=some) (W:=λ cb ah a7=>y6o n cb cO du a7 ah) (body:=(λ ah a7=>yCo cO du v1 ah a7)) (fin:=(λ a7=>yEw cO du v1 a7)) (λ cb ah a7=>?_) hx bh n 0 (by decide) (by unfold big at hn;omega)
  show LeF _ _ (yFB n (y6o n cb) cO du a7 ah)
  exact leAt h0__ (y5 (yM λ hx=>by apply yDG n hn;exact hx) (yp (y6 rfl)))
def yHJ(rp:Q1)(l:List (Q3)):Option (Int×Unit):=
  (Option.bind (y7e (↑l.length:Int)) λ v1=>(bif decide ((v1.1)<=9223372036854775807)then y06 (λ ah a7=>yCo (l) (rp) v1 ah a7) (λ a7=>yEw (l) (rp) v1 a7) ((v1.1) - 0).toNat 0 ((0:Int))else none))
theorem yRA(rp:Q1)(l:List (Q3))(y:Int×Unit)(h:yHJ rp l=some y):∃ n,yLv n rp l=some y:=
  ⟨big,LeF.top (show LeF some (yHJ rp l) (yLv big rp l)from (λ (n:Nat) (hn:big<=n)=>show LeF some (yHJ rp l) (yLv n rp l)from (ySE λ v1 h0__=>(yM λ hx=>by apply yDm n hn;exact h0__;exact hx))) big (Nat.le_refl _)) h⟩
def z0u_e:Entry:={ f:=62,args:=ySd,ress:=yZH,m:=λ x=>yHJ x.1 x.2.1 }
theorem yVl:FnOK Tryz.prog z0u_e:=yL (g:=yVx) (fn:=Tryz.f62) yC yK (yA yU9 (yA yZ8 eNil)) (by kernel_rfl) (by kernel_rfl) (by kernel_rfl) (λ x y h=>let ⟨n,hn⟩:=yRA x.1 x.2.1 y h;⟨yOp n,iNil,(yUl n x).trans hn⟩)
abbrev zX_a:Ty:=.pair t94 .unit
abbrev zX_r:Ty:=.pair t3 .unit
def zX_g:G:={ T:=T,E:=[zW_e,z0Y_e],muts:=[],fz:=[] }
def zX_k:List (List Nat):=[]
def yUS(n:Nat):Ann:={ keep:=zX_k,fuel:=n,inl:=[],deep:=0 }
def zX_m(n:Nat)(rp:Q1):Option (Int×Unit):=
  (Option.bind (zW_M rp) λ v0=>(bif v0.1 != 0 then some (v0.1,())else (Option.bind (y8S rp) λ v1=>(bif decide ((↑v1.1.length:Int) > 128)then some ((5:Int),())else some ((0:Int),())))))
theorem ycS(n:Nat)(x:zX_a.den):runF zX_g (yUS n) Tryz.f69 zX_a zX_r x=zX_m n x.1:=by kernel_rfl
def zX_M(rp:Q1):Option (Int×Unit):=zX_m 0 rp
theorem yXi(rp:Q1)(y:Int×Unit)(h:zX_M rp=some y):∃ n,zX_m n rp=some y:=⟨0,h⟩
def zX_e:Entry:={ f:=69,args:=zX_a,ress:=zX_r,m:=λ x=>zX_M x.1 }
theorem ydR:FnOK Tryz.prog zX_e:=yL (g:=zX_g) (fn:=Tryz.f69) yC yK (yA ydX (yA yKx eNil)) (by kernel_rfl) (by kernel_rfl) (by kernel_rfl) (λ x y h=>let ⟨n,hn⟩:=yXi x.1 y h;⟨yUS n,iNil,(ycS n x).trans hn⟩)
def il174:Inl:={ f:=174,fn:=Tryz.f174,keep:=[],muts:=[],fz:=[] }
theorem yML:y6d Tryz.prog il174:=⟨by kernel_rfl,by kernel_rfl,λ e0 h=>by cases (show (none:Option LibK)=some e0 from h)⟩
def il178:Inl:={ f:=178,fn:=Tryz.f178,keep:=[],muts:=[],fz:=[] }
theorem yN9:y6d Tryz.prog il178:=⟨by kernel_rfl,by kernel_rfl,λ e0 h=>by cases (show (none:Option LibK)=some e0 from h)⟩
def il216:Inl:={ f:=216,fn:=Tryz.f216,lib:=some (.copy 228) }
theorem yN3:y6d Tryz.prog il216:=⟨by kernel_rfl,by kernel_rfl,λ e0 h=>by cases (show some (.copy 228:LibK)=some e0 from h);exact ySa⟩
abbrev ySP:Ty:=.pair t33 .unit
abbrev yUd:Ty:=.pair t9 (.pair t28 .unit)
def yUc:G:={ T:=T,E:=[z00_e,z0I_e,zN_e,z0J_e],muts:=[5],fz:=[] }
def ycw:List (List Nat):=[[1,5,22,23,24]]
def yOQ(n:Nat):Ann:={ keep:=ycw,fuel:=n,inl:=[il174,il178,il216],deep:=8 }
def yLZ(n:Nat)(r2:Q2->List (Q3)->Int->Int->List Int->Option (List UInt8×Int×Unit))(cH:Q2)(au:List (Q3))(eF:Int)(dX:Int)(dl:List Int):Option (List UInt8×Int×Unit):=
  (bif decide (dX < eF)then (Option.bind (idx au dX) λ v3=>(Option.bind (idx cH.2.1 dX) λ v4=>(Option.bind (zN_M [v3.2.1,v3.2.2.1,v4.1,v4.2.1] λ (x:Int×Unit)=>yMT x.1) λ v5=>(bif decide ((12:Nat)+v3.1.length < strMax)then (bif decide (([(99:UInt8),111,110,115,116,105,116,117,101,110,116,32]++v3.1).length+(1:Nat) < strMax)then (Option.bind (yNn v5.1 [(32:UInt8)]) λ v6=>(bif decide (([(99:UInt8),111,110,115,116,105,116,117,101,110,116,32]++v3.1++[(32:UInt8)]).length+v6.1.length < strMax)then (bif decide (([(99:UInt8),111,110,115,116,105,116,117,101,110,116,32]++v3.1++[(32:UInt8)]++v6.1).length+(1:Nat) < strMax)then (bif decide (dl.length+([(99:UInt8),111,110,115,116,105,116,117,101,110,116,32]++v3.1++[(32:UInt8)]++v6.1++[(10:UInt8)]).length<=memMax)then r2 cH au eF (IntKind.i64.wrap (dX+1)) (dl++y29 ([(99:UInt8),111,110,115,116,105,116,117,101,110,116,32]++v3.1++[(32:UInt8)]++v6.1++[(10:UInt8)]))else none)else none)else none))else none)else none))))else (bif decide ((0:Nat) < dl.length)then (bif (↑dl.length:Int)==(↑dl.length:Int) && decide ((0:Nat) < dl.length) && yA9 dl then some (y3I dl,(0:Int),())else none)else none))
def yM9(n:Nat)(k:Nat)(cH:Q2)(au:List (Q3))(eF:Int)(dX:Int)(dl:List Int):Option (List UInt8×Int×Unit):=
  iter (λ r y=>yLZ n (λ cH au eF dX dl=>r ((cH,(au,(eF,(dX,())))),(((),(dl,())),()))) y.1.1 y.1.2.1 y.1.2.2.1 y.1.2.2.2.1 y.2.1.2.1) k ((cH,(au,(eF,(dX,())))),(((),(dl,())),()))
def ySW(n:Nat)(t:Q2):Option (List UInt8×Int×Unit):=
  (Option.bind (yE7 t) λ v0=>(bif v0.1 != 0 then some ([],v0.1,())else (Option.bind (yMT t.2.2.1) λ v1=>(bif decide ((5:Nat)+v1.1.length < strMax)then (bif decide (([(116:UInt8),105,100,101,32]++v1.1).length+(1:Nat) < strMax)then (bif decide ((0:Nat)+([(116:UInt8),105,100,101,32]++v1.1++[(10:UInt8)]).length<=memMax)then (yM9 n n (t) (t.1) ((↑t.1.length:Int)) ((0:Int)) (y29 ([(116:UInt8),105,100,101,32]++v1.1++[(10:UInt8)])))else none)else none)else none))))
theorem yUI(n:Nat)(x:ySP.den):runF yUc (yOQ n) Tryz.f97 ySP yUd x=ySW n x.1:=by kernel_rfl
def yT6(t:Q2):Option (List UInt8×Int×Unit):=ySW 1000 t
theorem yQx(t:Q2)(y:List UInt8×Int×Unit)(h:yT6 t=some y):∃ n,ySW n t=some y:=⟨1000,h⟩
def z0z_e:Entry:={ f:=97,args:=ySP,ress:=yUd,m:=λ x=>yT6 x.1 }
theorem yWv:FnOK Tryz.prog z0z_e:=yL (g:=yUc) (fn:=Tryz.f97) yC yK (yA yFw (yA yWB (yA ycJ (yA yZX eNil)))) (by kernel_rfl) (by kernel_rfl) (by kernel_rfl) (λ x y h=>let ⟨n,hn⟩:=yQx x.1 y h;⟨yOQ n,(y58 yML (y58 yN9 (y58 yN3 iNil))),(yUI n x).trans hn⟩)
abbrev yTE:Ty:=.pair t60 (.pair t31 .unit)
abbrev ya6:Ty:=.pair t28 .unit
def yX7:G:={ T:=T,E:=[zk_e,zL_e,z11_e],muts:=[],fz:=[] }
def ybn:List (List Nat):=[]
def yP4(n:Nat):Ann:={ keep:=ybn,fuel:=n,inl:=[],deep:=0 }
def yNh(n:Nat)(rp:Q1)(l:List (Q3)):Option (Int×Unit):=
  (Option.bind (zk_M rp) λ v0=>(Option.bind (zL_M l) λ v1=>(Option.bind (y2H [v0.1,v1.1]) λ v2=>some (v2.1,()))))
theorem yaw(n:Nat)(x:yTE.den):runF yX7 (yP4 n) Tryz.f119 yTE ya6 x=yNh n x.1 x.2.1:=by kernel_rfl
def y4i(rp:Q1)(l:List (Q3)):Option (Int×Unit):=yNh 0 rp l
theorem ySS(rp:Q1)(l:List (Q3))(y:Int×Unit)(h:y4i rp l=some y):∃ n,yNh n rp l=some y:=⟨0,h⟩
def z10_e:Entry:={ f:=119,args:=yTE,ress:=ya6,m:=λ x=>y4i x.1 x.2.1 }
theorem y8E:FnOK Tryz.prog z10_e:=yL (g:=yX7) (fn:=Tryz.f119) yC yK (yA yX2 (yA yYk (yA y4X eNil))) (by kernel_rfl) (by kernel_rfl) (by kernel_rfl) (λ x y h=>let ⟨n,hn⟩:=ySS x.1 x.2.1 y h;⟨yP4 n,iNil,(yaw n x).trans hn⟩)
abbrev yTp:Ty:=.pair t60 (.pair t31 .unit)
abbrev yZK:Ty:=.pair t23 (.pair t23 (.pair t3 .unit))
def yY9:G:={ T:=T,E:=[z0Q_e,zA_e,z0h_e,zl_e,zK_e],muts:=[9],fz:=[] }
def ydp:List (List Nat):=[[7,8,9,18,19]]
def yPn(n:Nat):Ann:={ keep:=ydp,fuel:=n,inl:=[],deep:=0 }
def yFc(n:Nat)(r2:List (Q4)->List (List (Q4))->Int->Int->List (Q4)->Option (List (Q4)×List (Q4)×Int×Unit))(dc:List (Q4))(df:List (List (Q4)))(bT:Int)(dU:Int)(ac:List (Q4)):Option (List (Q4)×List (Q4)×Int×Unit):=
  (bif decide (dU < bT)then (Option.bind (zl_M df dU dc) λ v3=>(Option.bind (zK_M v3.1) λ v4=>(bif decide (ac.length+(1:Nat)<=memMax)then r2 dc df bT (IntKind.i64.wrap (dU+1)) (ac++[v4.1])else none)))else (Option.bind (zK_M df) λ v5=>some (ac,dc,v5.1.1,())))
def y6s(n:Nat)(k:Nat)(dc:List (Q4))(df:List (List (Q4)))(bT:Int)(dU:Int)(ac:List (Q4)):Option (List (Q4)×List (Q4)×Int×Unit):=
  iter (λ r y=>yFc n (λ dc df bT dU ac=>r ((dc,(df,(bT,(dU,())))),((ac,()),()))) y.1.1 y.1.2.1 y.1.2.2.1 y.1.2.2.2.1 y.2.1.1) k ((dc,(df,(bT,(dU,())))),((ac,()),()))
def yMJ(n:Nat)(rp:Q1)(l:List (Q3)):Option (List (Q4)×List (Q4)×Int×Unit):=
  (Option.bind (zA_M l λ (x:(Q3)×Unit)=>yH3 x.1 rp) λ v0=>(Option.bind (y8W rp l) λ v1=>(y6s n n (v0.1) (v1.1) ((↑l.length:Int)) ((0:Int)) ([]))))
theorem yW1(n:Nat)(x:yTp.den):runF yY9 (yPn n) Tryz.f120 yTp yZK x=yMJ n x.1 x.2.1:=by kernel_rfl
def yJv(dc:List (Q4))(df:List (List (Q4)))(bT:Int)(dU:Int)(ac:List (Q4)):Option ((List (Q4)×List (Q4)×Int×Unit)⊕(List (Q4))):=
  (Option.bind (zl_M df dU dc) λ v3=>(Option.bind (zK_M v3.1) λ v4=>(bif decide (ac.length+(1:Nat)<=memMax)then (some (Sum.inr (ac++[v4.1])))else none)))
def yJ8(dc:List (Q4))(df:List (List (Q4)))(bT:Int)(ac:List (Q4)):Option (List (Q4)×List (Q4)×Int×Unit):=
  (Option.bind (zK_M df) λ v5=>(some ((ac,dc,v5.1.1,()))))
theorem yEJ(n:Nat)(hn:big<=n)(dc:List (Q4))(df:List (List (Q4)))(bT:Int)(ac:List (Q4))(hx:(bT)<=9223372036854775807):LeF some (y06 (λ ah a7=>yJv dc df bT ah a7) (λ a7=>yJ8 dc df bT a7) ((bT) - 0).toNat 0 ac) (y6s n n dc df bT 0 ac):=by
  refine y0K (f:=some) (W:=λ cb ah a7=>y6s n cb dc df bT ah a7) (body:=(λ ah a7=>yJv dc df bT ah a7)) (fin:=(λ a7=>yJ8 dc df bT a7)) (λ cb ah a7=>?_) hx ac n 0 (by decide) (by unfold big at hn;omega)
  show LeF _ _ (yFc n (y6s n cb) dc df bT ah a7)
  exact y5 (y8 λ v3=>(y8 λ v4=>(y5 (y6 rfl) yy))) (yp (y8 λ v5=>(y6 rfl)))
def yDC(rp:Q1)(l:List (Q3)):Option (List (Q4)×List (Q4)×Int×Unit):=
  (Option.bind (zA_M l λ (x:(Q3)×Unit)=>yH3 x.1 rp) λ v0=>(Option.bind (y8W rp l) λ v1=>(bif decide (((↑l.length:Int))<=9223372036854775807)then y06 (λ ah a7=>yJv (v0.1) (v1.1) ((↑l.length:Int)) ah a7) (λ a7=>yJ8 (v0.1) (v1.1) ((↑l.length:Int)) a7) (((↑l.length:Int)) - 0).toNat 0 ([])else none)))
theorem yTg(rp:Q1)(l:List (Q3))(y:List (Q4)×List (Q4)×Int×Unit)(h:yDC rp l=some y):∃ n,yMJ n rp l=some y:=
  ⟨big,LeF.top (show LeF some (yDC rp l) (yMJ big rp l)from (λ (n:Nat) (hn:big<=n)=>show LeF some (yDC rp l) (yMJ n rp l)from (y8 λ v0=>(y8 λ v1=>(yM λ hx=>by apply yEJ n hn;exact hx)))) big (Nat.le_refl _)) h⟩
def z15_e:Entry:={ f:=120,args:=yTp,ress:=yZK,m:=λ x=>yDC x.1 x.2.1 }
theorem yPP:FnOK Tryz.prog z15_e:=yL (g:=yY9) (fn:=Tryz.f120) yC yK (yA yUT (yA yRo (yA yBm (yA yWP (yA yMt eNil))))) (by kernel_rfl) (by kernel_rfl) (by kernel_rfl) (λ x y h=>let ⟨n,hn⟩:=yTg x.1 x.2.1 y h;⟨yPn n,iNil,(yW1 n x).trans hn⟩)
abbrev yQ9:Ty:=.pair t60 (.pair t31 .unit)
abbrev yWR:Ty:=.pair t4 .unit
def yZq:G:={ T:=T,E:=[z0h_e,zK_e],muts:=[],fz:=[] }
def ycQ:List (List Nat):=[]
def yOq(n:Nat):Ann:={ keep:=ycQ,fuel:=n,inl:=[],deep:=0 }
def yMh(n:Nat)(rp:Q1)(l:List (Q3)):Option (Bool×Unit):=
  (Option.bind (y8W rp l) λ v0=>(Option.bind (zK_M v0.1) λ v1=>some (eqV ((Ty.int IntKind.i64).pair ((Ty.int IntKind.i64).pair Ty.unit)) v1.1 ((0:Int),(0:Int),()),())))
theorem yWh(n:Nat)(x:yQ9.den):runF yZq (yOq n) Tryz.f146 yQ9 yWR x=yMh n x.1 x.2.1:=by kernel_rfl
def yBH(rp:Q1)(l:List (Q3)):Option (Bool×Unit):=yMh 0 rp l
theorem ySs(rp:Q1)(l:List (Q3))(y:Bool×Unit)(h:yBH rp l=some y):∃ n,yMh n rp l=some y:=⟨0,h⟩
def z04_e:Entry:={ f:=146,args:=yQ9,ress:=yWR,m:=λ x=>yBH x.1 x.2.1 }
theorem yOD:FnOK Tryz.prog z04_e:=yL (g:=yZq) (fn:=Tryz.f146) yC yK (yA yBm (yA yMt eNil)) (by kernel_rfl) (by kernel_rfl) (by kernel_rfl) (λ x y h=>let ⟨n,hn⟩:=ySs x.1 x.2.1 y h;⟨yOq n,iNil,(yWh n x).trans hn⟩)
end
end Go.Tw
end
section
set_option maxRecDepth 1000000
namespace Go.Tw
open Go.Vx Go.Vx.B Go.Proofs
noncomputable section
end
end Go.Tw
end
section
set_option maxRecDepth 1000000
namespace Go.Tw
open Go.Vx Go.Vx.B Go.Proofs
noncomputable section
abbrev yTJ:Ty:=.pair t33 (.pair t3 (.pair t3 .unit))
abbrev yaj:Ty:=.pair t35 (.pair t28 .unit)
def yXt:G:={ T:=T,E:=[z0L_e,z0O_e,z09_e],muts:=[10],fz:=[] }
def ybg:List (List Nat):=[[3,10,24,25,26]]
def yPo(n:Nat):Ann:={ keep:=ybg,fuel:=n,inl:=[],deep:=0 }
def yLX(n:Nat)(r1:Q2->List (Q4)->Int->Int->List Nat->Option (List Nat×Int×Unit))(fa:Q2)(eG:List (Q4))(eH:Int)(eD:Int)(f9:List Nat):Option (List Nat×Int×Unit):=
  (bif decide (eD < eH)then (Option.bind (idx eG eD) λ v2=>(Option.bind (yRr v2.1 fa.2.2.1) λ v3=>(bif decide ((z09 v3.1).1 > 1024)then some ([],(16:Int),())else (bif decide (f9.length+(1:Nat)<=memMax)then r1 fa eG eH (IntKind.i64.wrap (eD+1)) (f9++[y09 Go.BinOp.quo Go.FloatKind.f32 (y17 Go.FloatKind.f32 v3.1) (nat_lit 1098907648)])else none))))else some (f9,(0:Int),()))
def yN1(n:Nat)(k:Nat)(fa:Q2)(eG:List (Q4))(eH:Int)(eD:Int)(f9:List Nat):Option (List Nat×Int×Unit):=
  iter (λ r y=>yLX n (λ fa eG eH eD f9=>r ((fa,(eG,(eH,(eD,())))),((f9,()),()))) y.1.1 y.1.2.1 y.1.2.2.1 y.1.2.2.2.1 y.2.1.1) k ((fa,(eG,(eH,(eD,())))),((f9,()),()))
def yTX(n:Nat)(t:Q2)(p1:Int)(np:Int):Option (List Nat×Int×Unit):=
  (Option.bind (yHG t p1 np) λ v0=>(bif v0.2.1 != 0 then some ([],v0.2.1,())else (yN1 n n (t) (v0.1) ((↑v0.1.length:Int)) ((0:Int)) ([]))))
theorem yat(n:Nat)(x:yTJ.den):runF yXt (yPo n) Tryz.f22 yTJ yaj x=yTX n x.1 x.2.1 x.2.2.1:=by kernel_rfl
def ySG(t:Q2)(p1:Int)(np:Int):Option (List Nat×Int×Unit):=yTX 1000 t p1 np
theorem yQK(t:Q2)(p1:Int)(np:Int)(y:List Nat×Int×Unit)(h:ySG t p1 np=some y):∃ n,yTX n t p1 np=some y:=⟨1000,h⟩
def z0c_e:Entry:={ f:=22,args:=yTJ,ress:=yaj,m:=λ x=>ySG x.1 x.2.1 x.2.2.1 }
theorem yao:FnOK Tryz.prog z0c_e:=yL (g:=yXt) (fn:=Tryz.f22) yC yK (yA yOl (yA yaF (yA yCd eNil))) (by kernel_rfl) (by kernel_rfl) (by kernel_rfl) (λ x y h=>let ⟨n,hn⟩:=yQK x.1 x.2.1 x.2.2.1 y h;⟨yPo n,iNil,(yat n x).trans hn⟩)
abbrev ySx:Ty:=.pair t60 (.pair t31 .unit)
abbrev yU5:Ty:=.pair t33 (.pair t28 .unit)
def yUM:G:={ T:=T,E:=[z10_e,z15_e,z0P_e],muts:=[],fz:=[] }
def ycR:List (List Nat):=[]
def yPl(n:Nat):Ann:={ keep:=ycR,fuel:=n,inl:=[],deep:=0 }
def yRx(n:Nat)(rp:Q1)(l:List (Q3)):Option ((Q2)×Int×Unit):=
  (Option.bind (y4i rp l) λ v0=>(bif v0.1 != 0 then some (([],[],(0:Int),()),v0.1,())else (Option.bind (yDC rp l) λ v1=>(bif v1.2.2.1==0 then some (([],[],(0:Int),()),(25:Int),())else (Option.bind (yRt l v1.1 v1.2.2.1) λ v2=>some ((v2.1.1,v2.1.2.1,v2.1.2.2.1,()),(0:Int),()))))))
theorem yaa(n:Nat)(x:ySx.den):runF yUM (yPl n) Tryz.f34 ySx yU5 x=yRx n x.1 x.2.1:=by kernel_rfl
def yNw(rp:Q1)(l:List (Q3)):Option ((Q2)×Int×Unit):=yRx 0 rp l
theorem yT7(rp:Q1)(l:List (Q3))(y:(Q2)×Int×Unit)(h:yNw rp l=some y):∃ n,yRx n rp l=some y:=⟨0,h⟩
def z0K_e:Entry:={ f:=34,args:=ySx,ress:=yU5,m:=λ x=>yNw x.1 x.2.1 }
theorem yY2:FnOK Tryz.prog z0K_e:=yL (g:=yUM) (fn:=Tryz.f34) yC yK (yA y8E (yA yPP (yA yZc eNil))) (by kernel_rfl) (by kernel_rfl) (by kernel_rfl) (λ x y h=>let ⟨n,hn⟩:=yT7 x.1 x.2.1 y h;⟨yPl n,iNil,(yaa n x).trans hn⟩)
abbrev zj_a:Ty:=.pair t60 (.pair t31 .unit)
abbrev zj_r:Ty:=.pair t3 (.pair t28 .unit)
def zj_g:G:={ T:=T,E:=[z10_e,z0h_e,zK_e],muts:=[],fz:=[] }
def zj_k:List (List Nat):=[]
def yXJ(n:Nat):Ann:={ keep:=zj_k,fuel:=n,inl:=[],deep:=0 }
def zj_m(n:Nat)(rp:Q1)(l:List (Q3)):Option (Q4):=
  (Option.bind (y4i rp l) λ v0=>(bif v0.1 != 0 then some ((0:Int),v0.1,())else (Option.bind (y8W rp l) λ v1=>(Option.bind (zK_M v1.1) λ v2=>some (v2.1.1,(0:Int),())))))
theorem ybT(n:Nat)(x:zj_a.den):runF zj_g (yXJ n) Tryz.f35 zj_a zj_r x=zj_m n x.1 x.2.1:=by kernel_rfl
def zj_M(rp:Q1)(l:List (Q3)):Option (Q4):=zj_m 0 rp l
theorem yUZ(rp:Q1)(l:List (Q3))(y:Q4)(h:zj_M rp l=some y):∃ n,zj_m n rp l=some y:=⟨0,h⟩
def zj_e:Entry:={ f:=35,args:=zj_a,ress:=zj_r,m:=λ x=>zj_M x.1 x.2.1 }
theorem yYR:FnOK Tryz.prog zj_e:=yL (g:=zj_g) (fn:=Tryz.f35) yC yK (yA y8E (yA yBm (yA yMt eNil))) (by kernel_rfl) (by kernel_rfl) (by kernel_rfl) (λ x y h=>let ⟨n,hn⟩:=yUZ x.1 x.2.1 y h;⟨yXJ n,iNil,(ybT n x).trans hn⟩)
abbrev yQ6:Ty:=.pair t60 (.pair t31 .unit)
abbrev yan:Ty:=.pair t69 (.pair t28 .unit)
def ya4:G:={ T:=T,E:=[z10_e,z15_e,z03_e,z17_e,z14_e],muts:=[],fz:=[] }
def ybj:List (List Nat):=[[4,8,9,10,43,44,45]]
def yOE(n:Nat):Ann:={ keep:=ybj,fuel:=n,inl:=[il124,il195],deep:=3 }
def y8O(n:Nat)(r2:Q1->List (Q4)->List Nat->Int->Int->Q1->List (Q3)->Q1->Int->Int->List (Q4)->List (Q4)->Q1->List (Q3)->Int->Int->Bool->Q1->List (Q3)->List (Q4)->List (Q4)->Int->Int->Bool->Q1->Q1->Int->Int->Int->Int->Q1->List (Q3)->Q1->Int->Int->List (Q4)->List (Q4)->Q1->List (Q3)->Int->Int->Bool->Q1->List (Q3)->List (Q4)->List (Q4)->Int->Int->Bool->Q1->Q1->Option ((Q4)×Int×Unit))(j10:Q1)(j11:List (Q4))(j12:Int)(j13:Nat)(j14:List Nat)(j15:Int)(j16:Int)(j17:Q1)(j18:List (Q3))(j19:Q1)(j20:Int)(j21:Int)(j22:List (Q4))(j23:List (Q4))(j24:Q1)(j25:List (Q3))(j26:Int)(j27:Int)(j28:Bool)(j29:Q1)(j30:List (Q3))(j31:List (Q4))(j32:List (Q4))(j33:Int)(j34:Int)(j35:Bool)(j36:Q1)(j37:Q1)(j38:Int)(j39:Int)(j40:Int)(j41:Int)(j42:Q1)(j43:List (Q3))(j44:Q1)(j45:Int)(j46:Int)(j47:List (Q4))(j48:List (Q4))(j49:Q1)(j50:List (Q3))(j51:Int)(j52:Int)(j53:Bool)(j54:Q1)(j55:List (Q3))(j56:List (Q4))(j57:List (Q4))(j58:Int)(j59:Int)(j60:Bool)(j61:Q1)(j62:Q1):Option ((Q4)×Int×Unit):=
  (bif decide ((↑j11.length:Int) > 0)then (Option.bind (idx j11 (0:Int)) λ v63=>(bif decide (v63.1<=j12)then r2 j10 j11 j14 j15 (IntKind.i64.wrap (j16+1)) j17 j18 j19 j20 j21 j22 j23 j24 j25 j26 j27 j28 j29 j30 j31 j32 j33 j34 j35 j36 j37 j38 j39 j40 j41 j42 j43 j44 j45 j46 j47 j48 j49 j50 j51 j52 j53 j54 j55 j56 j57 j58 j59 j60 j61 j62 else (Option.bind (yo Go.FloatKind.f32 (y09 Go.BinOp.mul Go.FloatKind.f32 j13 (nat_lit 1098907648)) IntKind.i64) λ v68=>r2 j10 j11 j14 j15 (IntKind.i64.wrap (j16+1)) j17 j18 j19 j20 j21 j22 j23 j24 j25 j26 j27 j28 j29 j30 j31 j32 j33 j34 j35 j36 j37 j38 j39 j40 (IntKind.i64.wrap (j41+IntKind.i64.wrap (IntKind.i64.wrap (j40 * v68) * v68))) j42 j43 j44 j45 j46 j47 j48 j49 j50 j51 j52 j53 j54 j55 j56 j57 j58 j59 j60 j61 j62)))else (Option.bind (yo Go.FloatKind.f32 (y09 Go.BinOp.mul Go.FloatKind.f32 j13 (nat_lit 1098907648)) IntKind.i64) λ v69=>r2 j10 j11 j14 j15 (IntKind.i64.wrap (j16+1)) j17 j18 j19 j20 j21 j22 j23 j24 j25 j26 j27 j28 j29 j30 j31 j32 j33 j34 j35 j36 j37 j38 j39 j40 (IntKind.i64.wrap (j41+IntKind.i64.wrap (IntKind.i64.wrap (j40 * v69) * v69))) j42 j43 j44 j45 j46 j47 j48 j49 j50 j51 j52 j53 j54 j55 j56 j57 j58 j59 j60 j61 j62))
def yGS(n:Nat)(r2:Q1->List (Q4)->List Nat->Int->Int->Q1->List (Q3)->Q1->Int->Int->List (Q4)->List (Q4)->Q1->List (Q3)->Int->Int->Bool->Q1->List (Q3)->List (Q4)->List (Q4)->Int->Int->Bool->Q1->Q1->Int->Int->Int->Int->Q1->List (Q3)->Q1->Int->Int->List (Q4)->List (Q4)->Q1->List (Q3)->Int->Int->Bool->Q1->List (Q3)->List (Q4)->List (Q4)->Int->Int->Bool->Q1->Q1->Option ((Q4)×Int×Unit))(r4:Q1->List (Q4)->Int->Nat->List Nat->Int->Int->Q1->List (Q3)->Q1->Int->Int->List (Q4)->List (Q4)->Q1->List (Q3)->Int->Int->Bool->Q1->List (Q3)->List (Q4)->List (Q4)->Int->Int->Bool->Q1->Q1->Int->Int->Int->Int->Q1->List (Q3)->Q1->Int->Int->List (Q4)->List (Q4)->Q1->List (Q3)->Int->Int->Bool->Q1->List (Q3)->List (Q4)->List (Q4)->Int->Int->Bool->Q1->Q1->Option ((Q4)×Int×Unit))(cB:Q1)(aa:List (Q4))(dm:Int)(dx:Nat)(ci:List Nat)(bp:Int)(bf:Int)(az:Q1)(aA:List (Q3))(aB:Q1)(aC:Int)(aD:Int)(bq:List (Q4))(br:List (Q4))(ai:Q1)(aj:List (Q3))(ak:Int)(al:Int)(am:Bool)(aq:Q1)(aG:List (Q3))(ar:List (Q4))(aH:List (Q4))(aI:Int)(aJ:Int)(aK:Bool)(aL:Q1)(af:Q1)(aE:Int)(aF:Int)(ax:Int)(bG:Int)(cC:Q1)(cD:List (Q3))(cE:Q1)(cF:Int)(cG:Int)(dn:List (Q4))(dp:List (Q4))(bu:Q1)(bv:List (Q3))(bw:Int)(bx:Int)(bz:Bool)(bA:Q1)(bU:List (Q3))(bB:List (Q4))(bV:List (Q4))(bW:Int)(bX:Int)(bY:Bool)(bZ:Q1)(aM:Q1):Option ((Q4)×Int×Unit):=
  (bif decide ((↑aa.length:Int) > 0)then (Option.bind (idx aa (0:Int)) λ v5=>(bif decide (v5.2.1<=dm)then (bif decide ((0:Int)<=1) && decide ((1:Int)<=(↑aa.length:Int))then r4 cB (List.drop (Int.toNat (1:Int)) aa) dm dx ci bp bf az aA aB aC aD bq br ai aj ak al am aq aG ar aH aI aJ aK aL af aE aF ax bG cC cD cE cF cG dn dp bu bv bw bx bz bA bU bB bV bW bX bY bZ aM else none)else (y8O n r2 (cB) (aa) (dm) (dx) (ci) (bp) (bf) (az) (aA) (aB) (aC) (aD) (bq) (br) (ai) (aj) (ak) (al) (am) (aq) (aG) (ar) (aH) (aI) (aJ) (aK) (aL) (af) (aE) (aF) (ax) (bG) (cC) (cD) (cE) (cF) (cG) (dn) (dp) (bu) (bv) (bw) (bx) (bz) (bA) (bU) (bB) (bV) (bW) (bX) (bY) (bZ) (aM))))else (y8O n r2 (cB) (aa) (dm) (dx) (ci) (bp) (bf) (az) (aA) (aB) (aC) (aD) (bq) (br) (ai) (aj) (ak) (al) (am) (aq) (aG) (ar) (aH) (aI) (aJ) (aK) (aL) (af) (aE) (aF) (ax) (bG) (cC) (cD) (cE) (cF) (cG) (dn) (dp) (bu) (bv) (bw) (bx) (bz) (bA) (bU) (bB) (bV) (bW) (bX) (bY) (bZ) (aM)))
def y6j(n:Nat)(r2:Q1->List (Q4)->List Nat->Int->Int->Q1->List (Q3)->Q1->Int->Int->List (Q4)->List (Q4)->Q1->List (Q3)->Int->Int->Bool->Q1->List (Q3)->List (Q4)->List (Q4)->Int->Int->Bool->Q1->Q1->Int->Int->Int->Int->Q1->List (Q3)->Q1->Int->Int->List (Q4)->List (Q4)->Q1->List (Q3)->Int->Int->Bool->Q1->List (Q3)->List (Q4)->List (Q4)->Int->Int->Bool->Q1->Q1->Option ((Q4)×Int×Unit))(k:Nat)(cB:Q1)(aa:List (Q4))(dm:Int)(dx:Nat)(ci:List Nat)(bp:Int)(bf:Int)(az:Q1)(aA:List (Q3))(aB:Q1)(aC:Int)(aD:Int)(bq:List (Q4))(br:List (Q4))(ai:Q1)(aj:List (Q3))(ak:Int)(al:Int)(am:Bool)(aq:Q1)(aG:List (Q3))(ar:List (Q4))(aH:List (Q4))(aI:Int)(aJ:Int)(aK:Bool)(aL:Q1)(af:Q1)(aE:Int)(aF:Int)(ax:Int)(bG:Int)(cC:Q1)(cD:List (Q3))(cE:Q1)(cF:Int)(cG:Int)(dn:List (Q4))(dp:List (Q4))(bu:Q1)(bv:List (Q3))(bw:Int)(bx:Int)(bz:Bool)(bA:Q1)(bU:List (Q3))(bB:List (Q4))(bV:List (Q4))(bW:Int)(bX:Int)(bY:Bool)(bZ:Q1)(aM:Q1):Option ((Q4)×Int×Unit):=
  iter (λ r y=>yGS n r2 (λ cB aa dm dx ci bp bf az aA aB aC aD bq br ai aj ak al am aq aG ar aH aI aJ aK aL af aE aF ax bG cC cD cE cF cG dn dp bu bv bw bx bz bA bU bB bV bW bX bY bZ aM=>r ((cB,(aa,(dm,(dx,(ci,(bp,(bf,()))))))),(((az,(aA,(aB,(aC,(aD,(bq,(br,(ai,(aj,(ak,(al,(am,(aq,(aG,(ar,(aH,(aI,(aJ,(aK,(aL,((af,()),()))))))))))))))))))))),((aE,(aF,())),((ax,()),((bG,()),())))),(cC,(cD,(cE,(cF,(cG,(dn,(dp,(bu,(bv,(bw,(bx,(bz,(bA,(bU,(bB,(bV,(bW,(bX,(bY,(bZ,((aM,()),())))))))))))))))))))))))) y.1.1 y.1.2.1 y.1.2.2.1 y.1.2.2.2.1 y.1.2.2.2.2.1 y.1.2.2.2.2.2.1 y.1.2.2.2.2.2.2.1 y.2.1.1.1 y.2.1.1.2.1 y.2.1.1.2.2.1 y.2.1.1.2.2.2.1 y.2.1.1.2.2.2.2.1 y.2.1.1.2.2.2.2.2.1 y.2.1.1.2.2.2.2.2.2.1 y.2.1.1.2.2.2.2.2.2.2.1 y.2.1.1.2.2.2.2.2.2.2.2.1 y.2.1.1.2.2.2.2.2.2.2.2.2.1 y.2.1.1.2.2.2.2.2.2.2.2.2.2.1 y.2.1.1.2.2.2.2.2.2.2.2.2.2.2.1 y.2.1.1.2.2.2.2.2.2.2.2.2.2.2.2.1 y.2.1.1.2.2.2.2.2.2.2.2.2.2.2.2.2.1 y.2.1.1.2.2.2.2.2.2.2.2.2.2.2.2.2.2.1 y.2.1.1.2.2.2.2.2.2.2.2.2.2.2.2.2.2.2.1 y.2.1.1.2.2.2.2.2.2.2.2.2.2.2.2.2.2.2.2.1 y.2.1.1.2.2.2.2.2.2.2.2.2.2.2.2.2.2.2.2.2.1 y.2.1.1.2.2.2.2.2.2.2.2.2.2.2.2.2.2.2.2.2.2.1 y.2.1.1.2.2.2.2.2.2.2.2.2.2.2.2.2.2.2.2.2.2.2.1 y.2.1.1.2.2.2.2.2.2.2.2.2.2.2.2.2.2.2.2.2.2.2.2.1.1 y.2.1.2.1.1 y.2.1.2.1.2.1 y.2.1.2.2.1.1 y.2.1.2.2.2.1.1 y.2.2.1 y.2.2.2.1 y.2.2.2.2.1 y.2.2.2.2.2.1 y.2.2.2.2.2.2.1 y.2.2.2.2.2.2.2.1 y.2.2.2.2.2.2.2.2.1 y.2.2.2.2.2.2.2.2.2.1 y.2.2.2.2.2.2.2.2.2.2.1 y.2.2.2.2.2.2.2.2.2.2.2.1 y.2.2.2.2.2.2.2.2.2.2.2.2.1 y.2.2.2.2.2.2.2.2.2.2.2.2.2.1 y.2.2.2.2.2.2.2.2.2.2.2.2.2.2.1 y.2.2.2.2.2.2.2.2.2.2.2.2.2.2.2.1 y.2.2.2.2.2.2.2.2.2.2.2.2.2.2.2.2.1 y.2.2.2.2.2.2.2.2.2.2.2.2.2.2.2.2.2.1 y.2.2.2.2.2.2.2.2.2.2.2.2.2.2.2.2.2.2.1 y.2.2.2.2.2.2.2.2.2.2.2.2.2.2.2.2.2.2.2.1 y.2.2.2.2.2.2.2.2.2.2.2.2.2.2.2.2.2.2.2.2.1 y.2.2.2.2.2.2.2.2.2.2.2.2.2.2.2.2.2.2.2.2.2.1 y.2.2.2.2.2.2.2.2.2.2.2.2.2.2.2.2.2.2.2.2.2.2.1.1) k ((cB,(aa,(dm,(dx,(ci,(bp,(bf,()))))))),(((az,(aA,(aB,(aC,(aD,(bq,(br,(ai,(aj,(ak,(al,(am,(aq,(aG,(ar,(aH,(aI,(aJ,(aK,(aL,((af,()),()))))))))))))))))))))),((aE,(aF,())),((ax,()),((bG,()),())))),(cC,(cD,(cE,(cF,(cG,(dn,(dp,(bu,(bv,(bw,(bx,(bz,(bA,(bU,(bB,(bV,(bW,(bX,(bY,(bZ,((aM,()),())))))))))))))))))))))))
def yC9(n:Nat)(r74:List (Q4)->List (Q4)->Int->Int->Int->Int->Int->Int->Option ((Q4)×Int×Unit))(cg:List (Q4))(aR:List (Q4))(dW:Int)(cP:Int)(bi:Int)(bj:Int)(aQ:Int)(bC:Int):Option ((Q4)×Int×Unit):=
  (bif decide (cP < dW)then (Option.bind (idx aR cP) λ v75=>(Option.bind (idx cg cP) λ v76=>r74 cg aR dW (IntKind.i64.wrap (cP+1)) bi bj aQ (IntKind.i64.wrap (bC - (z17 (z03 v76).1 (v75.1,v75.2.1,())).1.1))))else (Option.bind (yHN bC aQ) λ v77=>some ((v77.1.1,v77.1.2.1,()),(0:Int),())))
def y5F(n:Nat)(k:Nat)(cg:List (Q4))(aR:List (Q4))(dW:Int)(cP:Int)(bi:Int)(bj:Int)(aQ:Int)(bC:Int):Option ((Q4)×Int×Unit):=
  iter (λ r y=>yC9 n (λ cg aR dW cP bi bj aQ bC=>r ((cg,(aR,(dW,(cP,())))),(((bi,(bj,())),((aQ,()),((bC,()),()))),()))) y.1.1 y.1.2.1 y.1.2.2.1 y.1.2.2.2.1 y.2.1.1.1 y.2.1.1.2.1 y.2.1.2.1.1 y.2.1.2.2.1.1) k ((cg,(aR,(dW,(cP,())))),(((bi,(bj,())),((aQ,()),((bC,()),()))),()))
def yEx(n:Nat)(r2:Q1->List (Q4)->List Nat->Int->Int->Q1->List (Q3)->Q1->Int->Int->List (Q4)->List (Q4)->Q1->List (Q3)->Int->Int->Bool->Q1->List (Q3)->List (Q4)->List (Q4)->Int->Int->Bool->Q1->Q1->Int->Int->Int->Int->Q1->List (Q3)->Q1->Int->Int->List (Q4)->List (Q4)->Q1->List (Q3)->Int->Int->Bool->Q1->List (Q3)->List (Q4)->List (Q4)->Int->Int->Bool->Q1->Q1->Option ((Q4)×Int×Unit))(cH:Q1)(bO:List (Q4))(cI:List Nat)(eI:Int)(dv:Int)(bH:Q1)(bI:List (Q3))(bJ:Q1)(bK:Int)(bL:Int)(bM:List (Q4))(bN:List (Q4))(aT:Q1)(aU:List (Q3))(aV:Int)(aW:Int)(aX:Bool)(aY:Q1)(aZ:List (Q3))(b6:List (Q4))(b7:List (Q4))(b8:Int)(b9:Int)(ba:Bool)(bc:Q1)(av:Q1)(bl:Int)(bm:Int)(bn:Int)(bQ:Int)(dy:Q1)(dz:List (Q3))(dA:Q1)(dB:Int)(dC:Int)(cN:List (Q4))(dg:List (Q4))(cj:Q1)(ck:List (Q3))(cm:Int)(cn:Int)(co:Bool)(cp:Q1)(cr:List (Q3))(cu:List (Q4))(cw:List (Q4))(cx:Int)(cy:Int)(cz:Bool)(cA:Q1)(be:Q1):Option ((Q4)×Int×Unit):=
  (bif decide (dv < eI)then (Option.bind (idx cI dv) λ v3=>(y6j n r2 n (cH) (bO) (dv) (v3) (cI) (eI) (dv) (bH) (bI) (bJ) (bK) (bL) (bM) (bN) (aT) (aU) (aV) (aW) (aX) (aY) (aZ) (b6) (b7) (b8) (b9) (ba) (bc) (av) (bl) (bm) (bn) (bQ) (dy) (dz) (dA) (dB) (dC) (cN) (dg) (cj) (ck) (cm) (cn) (co) (cp) (cr) (cu) (cw) (cx) (cy) (cz) (cA) (be)))else (y5F n n (dg) (cN) ((↑cN.length:Int)) ((0:Int)) (bl) (bm) (bn) (bQ)))
def y6g(n:Nat)(k:Nat)(cH:Q1)(bO:List (Q4))(cI:List Nat)(eI:Int)(dv:Int)(bH:Q1)(bI:List (Q3))(bJ:Q1)(bK:Int)(bL:Int)(bM:List (Q4))(bN:List (Q4))(aT:Q1)(aU:List (Q3))(aV:Int)(aW:Int)(aX:Bool)(aY:Q1)(aZ:List (Q3))(b6:List (Q4))(b7:List (Q4))(b8:Int)(b9:Int)(ba:Bool)(bc:Q1)(av:Q1)(bl:Int)(bm:Int)(bn:Int)(bQ:Int)(dy:Q1)(dz:List (Q3))(dA:Q1)(dB:Int)(dC:Int)(cN:List (Q4))(dg:List (Q4))(cj:Q1)(ck:List (Q3))(cm:Int)(cn:Int)(co:Bool)(cp:Q1)(cr:List (Q3))(cu:List (Q4))(cw:List (Q4))(cx:Int)(cy:Int)(cz:Bool)(cA:Q1)(be:Q1):Option ((Q4)×Int×Unit):=
  iter (λ r y=>yEx n (λ cH bO cI eI dv bH bI bJ bK bL bM bN aT aU aV aW aX aY aZ b6 b7 b8 b9 ba bc av bl bm bn bQ dy dz dA dB dC cN dg cj ck cm cn co cp cr cu cw cx cy cz cA be=>r ((cH,(bO,(cI,(eI,(dv,()))))),(((bH,(bI,(bJ,(bK,(bL,(bM,(bN,(aT,(aU,(aV,(aW,(aX,(aY,(aZ,(b6,(b7,(b8,(b9,(ba,(bc,((av,()),()))))))))))))))))))))),((bl,(bm,())),((bn,()),((bQ,()),())))),(dy,(dz,(dA,(dB,(dC,(cN,(dg,(cj,(ck,(cm,(cn,(co,(cp,(cr,(cu,(cw,(cx,(cy,(cz,(cA,((be,()),())))))))))))))))))))))))) y.1.1 y.1.2.1 y.1.2.2.1 y.1.2.2.2.1 y.1.2.2.2.2.1 y.2.1.1.1 y.2.1.1.2.1 y.2.1.1.2.2.1 y.2.1.1.2.2.2.1 y.2.1.1.2.2.2.2.1 y.2.1.1.2.2.2.2.2.1 y.2.1.1.2.2.2.2.2.2.1 y.2.1.1.2.2.2.2.2.2.2.1 y.2.1.1.2.2.2.2.2.2.2.2.1 y.2.1.1.2.2.2.2.2.2.2.2.2.1 y.2.1.1.2.2.2.2.2.2.2.2.2.2.1 y.2.1.1.2.2.2.2.2.2.2.2.2.2.2.1 y.2.1.1.2.2.2.2.2.2.2.2.2.2.2.2.1 y.2.1.1.2.2.2.2.2.2.2.2.2.2.2.2.2.1 y.2.1.1.2.2.2.2.2.2.2.2.2.2.2.2.2.2.1 y.2.1.1.2.2.2.2.2.2.2.2.2.2.2.2.2.2.2.1 y.2.1.1.2.2.2.2.2.2.2.2.2.2.2.2.2.2.2.2.1 y.2.1.1.2.2.2.2.2.2.2.2.2.2.2.2.2.2.2.2.2.1 y.2.1.1.2.2.2.2.2.2.2.2.2.2.2.2.2.2.2.2.2.2.1 y.2.1.1.2.2.2.2.2.2.2.2.2.2.2.2.2.2.2.2.2.2.2.1 y.2.1.1.2.2.2.2.2.2.2.2.2.2.2.2.2.2.2.2.2.2.2.2.1.1 y.2.1.2.1.1 y.2.1.2.1.2.1 y.2.1.2.2.1.1 y.2.1.2.2.2.1.1 y.2.2.1 y.2.2.2.1 y.2.2.2.2.1 y.2.2.2.2.2.1 y.2.2.2.2.2.2.1 y.2.2.2.2.2.2.2.1 y.2.2.2.2.2.2.2.2.1 y.2.2.2.2.2.2.2.2.2.1 y.2.2.2.2.2.2.2.2.2.2.1 y.2.2.2.2.2.2.2.2.2.2.2.1 y.2.2.2.2.2.2.2.2.2.2.2.2.1 y.2.2.2.2.2.2.2.2.2.2.2.2.2.1 y.2.2.2.2.2.2.2.2.2.2.2.2.2.2.1 y.2.2.2.2.2.2.2.2.2.2.2.2.2.2.2.1 y.2.2.2.2.2.2.2.2.2.2.2.2.2.2.2.2.1 y.2.2.2.2.2.2.2.2.2.2.2.2.2.2.2.2.2.1 y.2.2.2.2.2.2.2.2.2.2.2.2.2.2.2.2.2.2.1 y.2.2.2.2.2.2.2.2.2.2.2.2.2.2.2.2.2.2.2.1 y.2.2.2.2.2.2.2.2.2.2.2.2.2.2.2.2.2.2.2.2.1 y.2.2.2.2.2.2.2.2.2.2.2.2.2.2.2.2.2.2.2.2.2.1 y.2.2.2.2.2.2.2.2.2.2.2.2.2.2.2.2.2.2.2.2.2.2.1.1) k ((cH,(bO,(cI,(eI,(dv,()))))),(((bH,(bI,(bJ,(bK,(bL,(bM,(bN,(aT,(aU,(aV,(aW,(aX,(aY,(aZ,(b6,(b7,(b8,(b9,(ba,(bc,((av,()),()))))))))))))))))))))),((bl,(bm,())),((bn,()),((bQ,()),())))),(dy,(dz,(dA,(dB,(dC,(cN,(dg,(cj,(ck,(cm,(cn,(co,(cp,(cr,(cu,(cw,(cx,(cy,(cz,(cA,((be,()),())))))))))))))))))))))))
def yMg(n:Nat)(rp:Q1)(l:List (Q3)):Option ((Q4)×Int×Unit):=
  (Option.bind (y4i rp l) λ v0=>(bif v0.1 != 0 then some (((0:Int),(0:Int),()),v0.1,())else (Option.bind (yDC rp l) λ v1=>(bif v1.2.2.1==0 then some (((0:Int),(0:Int),()),(25:Int),())else (y6g n n (rp) (rp.2.2.2.1) (rp.2.2.1) ((↑rp.2.2.1.length:Int)) ((0:Int)) (rp) (l) (rp) ((0:Int)) (v0.1) (v1.1) (v1.2.1) (rp) (l) (v0.1) (v0.1) (v0.1 != 0) (rp) (l) (v1.1) (v1.2.1) (v1.2.2.1) (v1.2.2.1) (v1.2.2.1==0) (rp) (rp) ((0:Int)) ((0:Int)) (v1.2.2.1) ((0:Int)) (rp) (l) (rp) ((0:Int)) (v0.1) (v1.1) (v1.2.1) (rp) (l) (v0.1) (v0.1) (v0.1 != 0) (rp) (l) (v1.1) (v1.2.1) (v1.2.2.1) (v1.2.2.1) (v1.2.2.1==0) (rp) (rp))))))
theorem yZG(n:Nat)(x:yQ6.den):runF ya4 (yOE n) Tryz.f36 yQ6 yan x=yMg n x.1 x.2.1:=by kernel_rfl
def yDJ(j10:Q1)(j11:List (Q4))(j12:Int)(j13:Nat)(j14:List Nat)(j15:Int)(j16:Int)(j17:Q1)(j18:List (Q3))(j19:Q1)(j20:Int)(j21:Int)(j22:List (Q4))(j23:List (Q4))(j24:Q1)(j25:List (Q3))(j26:Int)(j27:Int)(j28:Bool)(j29:Q1)(j30:List (Q3))(j31:List (Q4))(j32:List (Q4))(j33:Int)(j34:Int)(j35:Bool)(j36:Q1)(j37:Q1)(j38:Int)(j39:Int)(j40:Int)(j41:Int)(j42:Q1)(j43:List (Q3))(j44:Q1)(j45:Int)(j46:Int)(j47:List (Q4))(j48:List (Q4))(j49:Q1)(j50:List (Q3))(j51:Int)(j52:Int)(j53:Bool)(j54:Q1)(j55:List (Q3))(j56:List (Q4))(j57:List (Q4))(j58:Int)(j59:Int)(j60:Bool)(j61:Q1)(j62:Q1):Option (((Q4)×Int×Unit)⊕((List (Q4))×Int)):=
  (bif decide ((↑j11.length:Int) > 0)then (Option.bind (idx j11 (0:Int)) λ v63=>(bif decide (v63.1<=j12)then (some (Sum.inr ((j11),(j41))))else (Option.bind (yo Go.FloatKind.f32 (y09 Go.BinOp.mul Go.FloatKind.f32 j13 (nat_lit 1098907648)) IntKind.i64) λ v68=>(some (Sum.inr ((j11),(IntKind.i64.wrap (j41+IntKind.i64.wrap (IntKind.i64.wrap (j40 * v68) * v68)))))))))else (Option.bind (yo Go.FloatKind.f32 (y09 Go.BinOp.mul Go.FloatKind.f32 j13 (nat_lit 1098907648)) IntKind.i64) λ v69=>(some (Sum.inr ((j11),(IntKind.i64.wrap (j41+IntKind.i64.wrap (IntKind.i64.wrap (j40 * v69) * v69))))))))
theorem y2c(n:Nat)(hn:big<=n)(r2:Q1->List (Q4)->List Nat->Int->Int->Q1->List (Q3)->Q1->Int->Int->List (Q4)->List (Q4)->Q1->List (Q3)->Int->Int->Bool->Q1->List (Q3)->List (Q4)->List (Q4)->Int->Int->Bool->Q1->Q1->Int->Int->Int->Int->Q1->List (Q3)->Q1->Int->Int->List (Q4)->List (Q4)->Q1->List (Q3)->Int->Int->Bool->Q1->List (Q3)->List (Q4)->List (Q4)->Int->Int->Bool->Q1->Q1->Option ((Q4)×Int×Unit))(j10:Q1)(j11:List (Q4))(j12:Int)(j13:Nat)(j14:List Nat)(j15:Int)(j16:Int)(j17:Q1)(j18:List (Q3))(j19:Q1)(j20:Int)(j21:Int)(j22:List (Q4))(j23:List (Q4))(j24:Q1)(j25:List (Q3))(j26:Int)(j27:Int)(j28:Bool)(j29:Q1)(j30:List (Q3))(j31:List (Q4))(j32:List (Q4))(j33:Int)(j34:Int)(j35:Bool)(j36:Q1)(j37:Q1)(j38:Int)(j39:Int)(j40:Int)(j41:Int)(j42:Q1)(j43:List (Q3))(j44:Q1)(j45:Int)(j46:Int)(j47:List (Q4))(j48:List (Q4))(j49:Q1)(j50:List (Q3))(j51:Int)(j52:Int)(j53:Bool)(j54:Q1)(j55:List (Q3))(j56:List (Q4))(j57:List (Q4))(j58:Int)(j59:Int)(j60:Bool)(j61:Q1)(j62:Q1):LeF (elim some λ (a7:((List (Q4))×Int))=>r2 j10 a7.1 j14 j15 (IntKind.i64.wrap (j16+1)) j17 j18 j19 j20 j21 j22 j23 j24 j25 j26 j27 j28 j29 j30 j31 j32 j33 j34 j35 j36 j37 j38 j39 j40 a7.2 j42 j43 j44 j45 j46 j47 j48 j49 j50 j51 j52 j53 j54 j55 j56 j57 j58 j59 j60 j61 j62) (yDJ j10 j11 j12 j13 j14 j15 j16 j17 j18 j19 j20 j21 j22 j23 j24 j25 j26 j27 j28 j29 j30 j31 j32 j33 j34 j35 j36 j37 j38 j39 j40 j41 j42 j43 j44 j45 j46 j47 j48 j49 j50 j51 j52 j53 j54 j55 j56 j57 j58 j59 j60 j61 j62) (y8O n r2 j10 j11 j12 j13 j14 j15 j16 j17 j18 j19 j20 j21 j22 j23 j24 j25 j26 j27 j28 j29 j30 j31 j32 j33 j34 j35 j36 j37 j38 j39 j40 j41 j42 j43 j44 j45 j46 j47 j48 j49 j50 j51 j52 j53 j54 j55 j56 j57 j58 j59 j60 j61 j62):=
  (y5 (y8 λ v63=>(y5 (y6 rfl) (y8 λ v68=>(y6 rfl)))) (y8 λ v69=>(y6 rfl)))
def yLE(cB:Q1)(dm:Int)(dx:Nat)(ci:List Nat)(bp:Int)(bf:Int)(az:Q1)(aA:List (Q3))(aB:Q1)(aC:Int)(aD:Int)(bq:List (Q4))(br:List (Q4))(ai:Q1)(aj:List (Q3))(ak:Int)(al:Int)(am:Bool)(aq:Q1)(aG:List (Q3))(ar:List (Q4))(aH:List (Q4))(aI:Int)(aJ:Int)(aK:Bool)(aL:Q1)(af:Q1)(aE:Int)(aF:Int)(ax:Int)(bG:Int)(cC:Q1)(cD:List (Q3))(cE:Q1)(cF:Int)(cG:Int)(dn:List (Q4))(dp:List (Q4))(bu:Q1)(bv:List (Q3))(bw:Int)(bx:Int)(bz:Bool)(bA:Q1)(bU:List (Q3))(bB:List (Q4))(bV:List (Q4))(bW:Int)(bX:Int)(bY:Bool)(bZ:Q1)(aM:Q1)(aa:List (Q4)):Option ((((Q4)×Int×Unit)⊕((List (Q4))×Int))⊕(List (Q4))):=
  (bif decide ((↑aa.length:Int) > 0)then (Option.bind (idx aa (0:Int)) λ v5=>(bif decide (v5.2.1<=dm)then (bif decide ((0:Int)<=1) && decide ((1:Int)<=(↑aa.length:Int))then (some (Sum.inr (List.drop (Int.toNat (1:Int)) aa)))else none)else (Option.map Sum.inl (yDJ (cB) (aa) (dm) (dx) (ci) (bp) (bf) (az) (aA) (aB) (aC) (aD) (bq) (br) (ai) (aj) (ak) (al) (am) (aq) (aG) (ar) (aH) (aI) (aJ) (aK) (aL) (af) (aE) (aF) (ax) (bG) (cC) (cD) (cE) (cF) (cG) (dn) (dp) (bu) (bv) (bw) (bx) (bz) (bA) (bU) (bB) (bV) (bW) (bX) (bY) (bZ) (aM)))))else (Option.map Sum.inl (yDJ (cB) (aa) (dm) (dx) (ci) (bp) (bf) (az) (aA) (aB) (aC) (aD) (bq) (br) (ai) (aj) (ak) (al) (am) (aq) (aG) (ar) (aH) (aI) (aJ) (aK) (aL) (af) (aE) (aF) (ax) (bG) (cC) (cD) (cE) (cF) (cG) (dn) (dp) (bu) (bv) (bw) (bx) (bz) (bA) (bU) (bB) (bV) (bW) (bX) (bY) (bZ) (aM))))
theorem yDx(n:Nat)(hn:big<=n)(r2:Q1->List (Q4)->List Nat->Int->Int->Q1->List (Q3)->Q1->Int->Int->List (Q4)->List (Q4)->Q1->List (Q3)->Int->Int->Bool->Q1->List (Q3)->List (Q4)->List (Q4)->Int->Int->Bool->Q1->Q1->Int->Int->Int->Int->Q1->List (Q3)->Q1->Int->Int->List (Q4)->List (Q4)->Q1->List (Q3)->Int->Int->Bool->Q1->List (Q3)->List (Q4)->List (Q4)->Int->Int->Bool->Q1->Q1->Option ((Q4)×Int×Unit))(cB:Q1)(dm:Int)(dx:Nat)(ci:List Nat)(bp:Int)(bf:Int)(az:Q1)(aA:List (Q3))(aB:Q1)(aC:Int)(aD:Int)(bq:List (Q4))(br:List (Q4))(ai:Q1)(aj:List (Q3))(ak:Int)(al:Int)(am:Bool)(aq:Q1)(aG:List (Q3))(ar:List (Q4))(aH:List (Q4))(aI:Int)(aJ:Int)(aK:Bool)(aL:Q1)(af:Q1)(aE:Int)(aF:Int)(ax:Int)(bG:Int)(cC:Q1)(cD:List (Q3))(cE:Q1)(cF:Int)(cG:Int)(dn:List (Q4))(dp:List (Q4))(bu:Q1)(bv:List (Q3))(bw:Int)(bx:Int)(bz:Bool)(bA:Q1)(bU:List (Q3))(bB:List (Q4))(bV:List (Q4))(bW:Int)(bX:Int)(bY:Bool)(bZ:Q1)(aM:Q1)(aa:List (Q4)):LeF (elim some λ (a7:((List (Q4))×Int))=>r2 cB a7.1 ci bp (IntKind.i64.wrap (bf+1)) az aA aB aC aD bq br ai aj ak al am aq aG ar aH aI aJ aK aL af aE aF ax a7.2 cC cD cE cF cG dn dp bu bv bw bx bz bA bU bB bV bW bX bY bZ aM) (y2Q (λ a7=>yLE cB dm dx ci bp bf az aA aB aC aD bq br ai aj ak al am aq aG ar aH aI aJ aK aL af aE aF ax bG cC cD cE cF cG dn dp bu bv bw bx bz bA bU bB bV bW bX bY bZ aM a7) wMax aa) (y6j n r2 n cB aa dm dx ci bp bf az aA aB aC aD bq br ai aj ak al am aq aG ar aH aI aJ aK aL af aE aF ax bG cC cD cE cF cG dn dp bu bv bw bx bz bA bU bB bV bW bX bY bZ aM):=by
  refine y4J (f:=(elim some λ (a7:((List (Q4))×Int))=>r2 cB a7.1 ci bp (IntKind.i64.wrap (bf+1)) az aA aB aC aD bq br ai aj ak al am aq aG ar aH aI aJ aK aL af aE aF ax a7.2 cC cD cE cF cG dn dp bu bv bw bx bz bA bU bB bV bW bX bY bZ aM)) (W:=λ cb a7=>y6j n r2 cb cB a7 dm dx ci bp bf az aA aB aC aD bq br ai aj ak al am aq aG ar aH aI aJ aK aL af aE aF ax bG cC cD cE cF cG dn dp bu bv bw bx bz bA bU bB bV bW bX bY bZ aM) (body:=(λ a7=>yLE cB dm dx ci bp bf az aA aB aC aD bq br ai aj ak al am aq aG ar aH aI aJ aK aL af aE aF ax bG cC cD cE cF cG dn dp bu bv bw bx bz bA bU bB bV bW bX bY bZ aM a7)) (λ cb a7=>?_) wMax n aa (by unfold big at hn;unfold wMax;omega)
  show LeF _ _ (yGS n r2 (y6j n r2 cb) cB a7 dm dx ci bp bf az aA aB aC aD bq br ai aj ak al am aq aG ar aH aI aJ aK aL af aE aF ax bG cC cD cE cF cG dn dp bu bv bw bx bz bA bU bB bV bW bX bY bZ aM)
  exact (y5 (y8 λ v5=>(y5 (y5 (y6 rfl) yy) (yp (by apply y2c n hn)))) (yp (by apply y2c n hn)))
def yE8(cg:List (Q4))(aR:List (Q4))(bi:Int)(bj:Int)(aQ:Int)(cP:Int)(v75:Q4)(bC:Int):Option (((Q4)×Int×Unit)⊕(Int)):=
  (Option.bind (idx cg cP) λ v76=>(some (Sum.inr (IntKind.i64.wrap (bC - (z17 (z03 v76).1 (v75.1,v75.2.1,())).1.1)))))
def yE4(cg:List (Q4))(aR:List (Q4))(bi:Int)(bj:Int)(aQ:Int)(bC:Int):Option ((Q4)×Int×Unit):=
  (Option.bind (yHN bC aQ) λ v77=>(some (((v77.1.1,v77.1.2.1,()),(0:Int),()))))
theorem yBh(n:Nat)(hn:big<=n)(cg:List (Q4))(aR:List (Q4))(bi:Int)(bj:Int)(aQ:Int)(bC:Int)(hx:List.length (aR) < lenMax):LeF some (yP (λ ah dq a7=>yE8 cg aR bi bj aQ ah dq a7) (λ a7=>yE4 cg aR bi bj aQ a7) 0 (aR) bC) (y5F n n cg aR (List.length (aR):Int) 0 bi bj aQ bC):=by
  refine yS (f:=some) (W:=λ cb ah a7=>y5F n cb cg aR (List.length (aR):Int) ah bi bj aQ a7) (body:=(λ ah dq a7=>yE8 cg aR bi bj aQ ah dq a7)) (fin:=(λ a7=>yE4 cg aR bi bj aQ a7)) (λ cb ah a7=>?_) hx bC n (by unfold big at hn;unfold lenMax at hx;omega)
  show LeF _ _ (yC9 n (y5F n cb) cg aR (List.length (aR):Int) ah bi bj aQ a7)
  exact y5 (y8 λ v75=>(y8 λ v76=>(y6 rfl))) (yp (y8 λ v77=>(y6 rfl)))
def yKt(cH:Q1)(cI:List Nat)(bH:Q1)(bI:List (Q3))(bJ:Q1)(bK:Int)(bL:Int)(bM:List (Q4))(bN:List (Q4))(aT:Q1)(aU:List (Q3))(aV:Int)(aW:Int)(aX:Bool)(aY:Q1)(aZ:List (Q3))(b6:List (Q4))(b7:List (Q4))(b8:Int)(b9:Int)(ba:Bool)(bc:Q1)(av:Q1)(bl:Int)(bm:Int)(bn:Int)(dy:Q1)(dz:List (Q3))(dA:Q1)(dB:Int)(dC:Int)(cN:List (Q4))(dg:List (Q4))(cj:Q1)(ck:List (Q3))(cm:Int)(cn:Int)(co:Bool)(cp:Q1)(cr:List (Q3))(cu:List (Q4))(cw:List (Q4))(cx:Int)(cy:Int)(cz:Bool)(cA:Q1)(be:Q1)(dv:Int)(v3:Nat)(bO:List (Q4))(bQ:Int):Option (((Q4)×Int×Unit)⊕((List (Q4))×Int)):=
  (y2Q (λ a7=>yLE (cH) (dv) (v3) (cI) ((↑cI.length:Int)) (dv) (bH) (bI) (bJ) (bK) (bL) (bM) (bN) (aT) (aU) (aV) (aW) (aX) (aY) (aZ) (b6) (b7) (b8) (b9) (ba) (bc) (av) (bl) (bm) (bn) (bQ) (dy) (dz) (dA) (dB) (dC) (cN) (dg) (cj) (ck) (cm) (cn) (co) (cp) (cr) (cu) (cw) (cx) (cy) (cz) (cA) (be) a7) wMax (bO))
def yJS(cH:Q1)(cI:List Nat)(bH:Q1)(bI:List (Q3))(bJ:Q1)(bK:Int)(bL:Int)(bM:List (Q4))(bN:List (Q4))(aT:Q1)(aU:List (Q3))(aV:Int)(aW:Int)(aX:Bool)(aY:Q1)(aZ:List (Q3))(b6:List (Q4))(b7:List (Q4))(b8:Int)(b9:Int)(ba:Bool)(bc:Q1)(av:Q1)(bl:Int)(bm:Int)(bn:Int)(dy:Q1)(dz:List (Q3))(dA:Q1)(dB:Int)(dC:Int)(cN:List (Q4))(dg:List (Q4))(cj:Q1)(ck:List (Q3))(cm:Int)(cn:Int)(co:Bool)(cp:Q1)(cr:List (Q3))(cu:List (Q4))(cw:List (Q4))(cx:Int)(cy:Int)(cz:Bool)(cA:Q1)(be:Q1)(bO:List (Q4))(bQ:Int):Option ((Q4)×Int×Unit):=
  (bif decide (List.length (cN) < lenMax)then yP (λ ah dq a7=>yE8 (dg) (cN) (bl) (bm) (bn) ah dq a7) (λ a7=>yE4 (dg) (cN) (bl) (bm) (bn) a7) 0 (cN) (bQ)else none)
theorem yDk(n:Nat)(hn:big<=n)(cH:Q1)(cI:List Nat)(bH:Q1)(bI:List (Q3))(bJ:Q1)(bK:Int)(bL:Int)(bM:List (Q4))(bN:List (Q4))(aT:Q1)(aU:List (Q3))(aV:Int)(aW:Int)(aX:Bool)(aY:Q1)(aZ:List (Q3))(b6:List (Q4))(b7:List (Q4))(b8:Int)(b9:Int)(ba:Bool)(bc:Q1)(av:Q1)(bl:Int)(bm:Int)(bn:Int)(dy:Q1)(dz:List (Q3))(dA:Q1)(dB:Int)(dC:Int)(cN:List (Q4))(dg:List (Q4))(cj:Q1)(ck:List (Q3))(cm:Int)(cn:Int)(co:Bool)(cp:Q1)(cr:List (Q3))(cu:List (Q4))(cw:List (Q4))(cx:Int)(cy:Int)(cz:Bool)(cA:Q1)(be:Q1)(bO:List (Q4))(bQ:Int)(hx:List.length (cI) < lenMax):LeF some (yP (λ ah dq a7=>yKt cH cI bH bI bJ bK bL bM bN aT aU aV aW aX aY aZ b6 b7 b8 b9 ba bc av bl bm bn dy dz dA dB dC cN dg cj ck cm cn co cp cr cu cw cx cy cz cA be ah dq a7.1 a7.2) (λ a7=>yJS cH cI bH bI bJ bK bL bM bN aT aU aV aW aX aY aZ b6 b7 b8 b9 ba bc av bl bm bn dy dz dA dB dC cN dg cj ck cm cn co cp cr cu cw cx cy cz cA be a7.1 a7.2) 0 (cI) (bO,bQ)) (y6g n n cH bO cI (List.length (cI):Int) 0 bH bI bJ bK bL bM bN aT aU aV aW aX aY aZ b6 b7 b8 b9 ba bc av bl bm bn bQ dy dz dA dB dC cN dg cj ck cm cn co cp cr cu cw cx cy cz cA be):=by
  refine yS (f:=some) (W:=λ cb ah a7=>y6g n cb cH a7.1 cI (List.length (cI):Int) ah bH bI bJ bK bL bM bN aT aU aV aW aX aY aZ b6 b7 b8 b9 ba bc av bl bm bn a7.2 dy dz dA dB dC cN dg cj ck cm cn co cp cr cu cw cx cy cz cA be) (body:=(λ ah dq a7=>yKt cH cI bH bI bJ bK bL bM bN aT aU aV aW aX aY aZ b6 b7 b8 b9 ba bc av bl bm bn dy dz dA dB dC cN dg cj ck cm cn co cp cr cu cw cx cy cz cA be ah dq a7.1 a7.2)) (fin:=(λ a7=>yJS cH cI bH bI bJ bK bL bM bN aT aU aV aW aX aY aZ b6 b7 b8 b9 ba bc av bl bm bn dy dz dA dB dC cN dg cj ck cm cn co cp cr cu cw cx cy cz cA be a7.1 a7.2)) (λ cb ah a7=>?_) hx (bO,bQ) n (by unfold big at hn;unfold lenMax at hx;omega)
  show LeF _ _ (yEx n (y6g n cb) cH a7.1 cI (List.length (cI):Int) ah bH bI bJ bK bL bM bN aT aU aV aW aX aY aZ b6 b7 b8 b9 ba bc av bl bm bn a7.2 dy dz dA dB dC cN dg cj ck cm cn co cp cr cu cw cx cy cz cA be)
  exact y5 (y8 λ v3=>(by apply yDx n hn)) (yp (yM λ hx=>by apply yBh n hn;exact hx))
def yHw(rp:Q1)(l:List (Q3)):Option ((Q4)×Int×Unit):=
  (Option.bind (y4i rp l) λ v0=>(bif v0.1 != 0 then (some ((((0:Int),(0:Int),()),v0.1,())))else (Option.bind (yDC rp l) λ v1=>(bif v1.2.2.1==0 then (some ((((0:Int),(0:Int),()),(25:Int),())))else (bif decide (List.length (rp.2.2.1) < lenMax)then yP (λ ah dq a7=>yKt (rp) (rp.2.2.1) (rp) (l) (rp) ((0:Int)) (v0.1) (v1.1) (v1.2.1) (rp) (l) (v0.1) (v0.1) (v0.1 != 0) (rp) (l) (v1.1) (v1.2.1) (v1.2.2.1) (v1.2.2.1) (v1.2.2.1==0) (rp) (rp) ((0:Int)) ((0:Int)) (v1.2.2.1) (rp) (l) (rp) ((0:Int)) (v0.1) (v1.1) (v1.2.1) (rp) (l) (v0.1) (v0.1) (v0.1 != 0) (rp) (l) (v1.1) (v1.2.1) (v1.2.2.1) (v1.2.2.1) (v1.2.2.1==0) (rp) (rp) ah dq a7.1 a7.2) (λ a7=>yJS (rp) (rp.2.2.1) (rp) (l) (rp) ((0:Int)) (v0.1) (v1.1) (v1.2.1) (rp) (l) (v0.1) (v0.1) (v0.1 != 0) (rp) (l) (v1.1) (v1.2.1) (v1.2.2.1) (v1.2.2.1) (v1.2.2.1==0) (rp) (rp) ((0:Int)) ((0:Int)) (v1.2.2.1) (rp) (l) (rp) ((0:Int)) (v0.1) (v1.1) (v1.2.1) (rp) (l) (v0.1) (v0.1) (v0.1 != 0) (rp) (l) (v1.1) (v1.2.1) (v1.2.2.1) (v1.2.2.1) (v1.2.2.1==0) (rp) (rp) a7.1 a7.2) 0 (rp.2.2.1) ((rp.2.2.2.1),((0:Int)))else none)))))
theorem yPr(rp:Q1)(l:List (Q3))(y:(Q4)×Int×Unit)(h:yHw rp l=some y):∃ n,yMg n rp l=some y:=
  ⟨big,LeF.top (show LeF some (yHw rp l) (yMg big rp l)from (λ (n:Nat) (hn:big<=n)=>show LeF some (yHw rp l) (yMg n rp l)from (y8 λ v0=>(y5 (y6 rfl) (y8 λ v1=>(y5 (y6 rfl) (yM λ hx=>by apply yDk n hn;exact hx)))))) big (Nat.le_refl _)) h⟩
def z0x_e:Entry:={ f:=36,args:=yQ6,ress:=yan,m:=λ x=>yHw x.1 x.2.1 }
theorem yZt:FnOK Tryz.prog z0x_e:=yL (g:=ya4) (fn:=Tryz.f36) yC yK (yA y8E (yA yPP (yA yIy (yA yFU (yA yIF eNil))))) (by kernel_rfl) (by kernel_rfl) (by kernel_rfl) (λ x y h=>let ⟨n,hn⟩:=yPr x.1 x.2.1 y h;⟨yOE n,(y58 y5A (y58 y4s iNil)),(yZG n x).trans hn⟩)
abbrev ySQ:Ty:=.pair t60 (.pair t31 .unit)
abbrev yVq:Ty:=.pair t96 (.pair t28 .unit)
def yUA:G:={ T:=T,E:=[z10_e,z0h_e],muts:=[],fz:=[] }
def ydi:List (List Nat):=[]
def yOL(n:Nat):Ann:={ keep:=ydi,fuel:=n,inl:=[],deep:=0 }
def yNB(n:Nat)(rp:Q1)(l:List (Q3)):Option (List (List (Q4))×Int×Unit):=
  (Option.bind (y4i rp l) λ v0=>(bif v0.1 != 0 then some ([],v0.1,())else (Option.bind (y8W rp l) λ v1=>some (v1.1,(0:Int),()))))
theorem yVa(n:Nat)(x:ySQ.den):runF yUA (yOL n) Tryz.f55 ySQ yVq x=yNB n x.1 x.2.1:=by kernel_rfl
def yIs(rp:Q1)(l:List (Q3)):Option (List (List (Q4))×Int×Unit):=yNB 0 rp l
theorem ySl(rp:Q1)(l:List (Q3))(y:List (List (Q4))×Int×Unit)(h:yIs rp l=some y):∃ n,yNB n rp l=some y:=⟨0,h⟩
def z0d_e:Entry:={ f:=55,args:=ySQ,ress:=yVq,m:=λ x=>yIs x.1 x.2.1 }
theorem yPm:FnOK Tryz.prog z0d_e:=yL (g:=yUA) (fn:=Tryz.f55) yC yK (yA y8E (yA yBm eNil)) (by kernel_rfl) (by kernel_rfl) (by kernel_rfl) (λ x y h=>let ⟨n,hn⟩:=ySl x.1 x.2.1 y h;⟨yOL n,iNil,(yVa n x).trans hn⟩)
abbrev ySi:Ty:=.pair t60 (.pair t31 .unit)
abbrev yUt:Ty:=.pair t3 (.pair t28 .unit)
def yW3:G:={ T:=T,E:=[z10_e,z6_e,z04_e],muts:=[24],fz:=[7,27] }
def ybN:List (List Nat):=[[2,7,17,18,19,1000007]]
def yOt(n:Nat):Ann:={ keep:=ybN,fuel:=n,inl:=[],deep:=0 }
def yEq(n:Nat)(r1:Q1->List (Q3)->List (Q3)->Int->Int->Option (Q4))(bg:Q1)(aw:List (Q3))(bE:List (Q3))(eE:Int)(dV:Int):Option (Q4):=
  (bif decide (dV < eE)then (Option.bind (idx bE dV) λ v2=>(bif decide (aw.length<=memMax)then (bif decide (aw.length+(1:Nat)<=memMax)then (Option.bind (yBH bg (aw++[(v2.1,v2.2.1,v2.2.2.1,())])) λ v3=>(bif !v3.1 then r1 bg (aw++[(v2.1,v2.2.1,v2.2.2.1,())]) bE eE (IntKind.i64.wrap (dV+1))else r1 bg aw bE eE (IntKind.i64.wrap (dV+1))))else none)else none))else some ((↑aw.length:Int),(0:Int),()))
def y7F(n:Nat)(k:Nat)(bg:Q1)(aw:List (Q3))(bE:List (Q3))(eE:Int)(dV:Int):Option (Q4):=
  iter (λ r y=>yEq n (λ bg aw bE eE dV=>r ((bg,(aw,(bE,(eE,(dV,()))))),((),()))) y.1.1 y.1.2.1 y.1.2.2.1 y.1.2.2.2.1 y.1.2.2.2.2.1) k ((bg,(aw,(bE,(eE,(dV,()))))),((),()))
def yNG(n:Nat)(rp:Q1)(l:List (Q3)):Option (Q4):=
  (Option.bind (y4i rp l) λ v0=>(bif v0.1 != 0 then some ((0:Int),v0.1,())else (y7F n n (rp) ([]) (l) ((↑l.length:Int)) ((0:Int)))))
theorem yak(n:Nat)(x:ySi.den):runF yW3 (yOt n) Tryz.f57 ySi yUt x=yNG n x.1 x.2.1:=by kernel_rfl
def y9B(bg:Q1)(bE:List (Q3))(dV:Int)(v2:Q3)(aw:List (Q3)):Option ((Q4)⊕(List (Q3))):=
  (bif decide (aw.length<=memMax)then (bif decide (aw.length+(1:Nat)<=memMax)then (Option.bind (yBH bg (aw++[(v2.1,v2.2.1,v2.2.2.1,())])) λ v3=>(bif !v3.1 then (some (Sum.inr (aw++[(v2.1,v2.2.1,v2.2.2.1,())])))else (some (Sum.inr (aw)))))else none)else none)
def yCx(bg:Q1)(bE:List (Q3))(aw:List (Q3)):Option (Q4):=
  (some (((↑aw.length:Int),(0:Int),())))
theorem yDK(n:Nat)(hn:big<=n)(bg:Q1)(bE:List (Q3))(aw:List (Q3))(hx:List.length (bE) < lenMax):LeF some (yP (λ ah dq a7=>y9B bg bE ah dq a7) (λ a7=>yCx bg bE a7) 0 (bE) aw) (y7F n n bg aw bE (List.length (bE):Int) 0):=by
  refine yS (f:=some) (W:=λ cb ah a7=>y7F n cb bg a7 bE (List.length (bE):Int) ah) (body:=(λ ah dq a7=>y9B bg bE ah dq a7)) (fin:=(λ a7=>yCx bg bE a7)) (λ cb ah a7=>?_) hx aw n (by unfold big at hn;unfold lenMax at hx;omega)
  show LeF _ _ (yEq n (y7F n cb) bg a7 bE (List.length (bE):Int) ah)
  exact y5 (y8 λ v2=>(y5 (y5 (y8 λ v3=>(y5 (y6 rfl) (y6 rfl))) yy) yy)) (yp (y6 rfl))
def yEg(rp:Q1)(l:List (Q3)):Option (Q4):=
  (Option.bind (y4i rp l) λ v0=>(bif v0.1 != 0 then (some (((0:Int),v0.1,())))else (bif decide (List.length (l) < lenMax)then yP (λ ah dq a7=>y9B (rp) (l) ah dq a7) (λ a7=>yCx (rp) (l) a7) 0 (l) ([])else none)))
theorem yTc(rp:Q1)(l:List (Q3))(y:Q4)(h:yEg rp l=some y):∃ n,yNG n rp l=some y:=
  ⟨big,LeF.top (show LeF some (yEg rp l) (yNG big rp l)from (λ (n:Nat) (hn:big<=n)=>show LeF some (yEg rp l) (yNG n rp l)from (y8 λ v0=>(y5 (y6 rfl) (yM λ hx=>by apply yDK n hn;exact hx)))) big (Nat.le_refl _)) h⟩
def z1C_e:Entry:={ f:=57,args:=ySi,ress:=yUt,m:=λ x=>yEg x.1 x.2.1 }
theorem yOu:FnOK Tryz.prog z1C_e:=yL (g:=yW3) (fn:=Tryz.f57) yC yK (yA y8E (yA ycB (yA yOD eNil))) (by kernel_rfl) (by kernel_rfl) (by kernel_rfl) (λ x y h=>let ⟨n,hn⟩:=yTc x.1 x.2.1 y h;⟨yOt n,iNil,(yak n x).trans hn⟩)
abbrev yQq:Ty:=.pair t60 (.pair t31 .unit)
abbrev yVd:Ty:=.pair t100 (.pair t28 .unit)
def yUq:G:={ T:=T,E:=[z10_e,z16_e,z12_e],muts:=[8],fz:=[] }
def ybx:List (List Nat):=[[1,2,7,8,22]]
def yP1(n:Nat):Ann:={ keep:=ybx,fuel:=n,inl:=[],deep:=0 }
def yFY(n:Nat)(r2:List (Q3)->Q1->Int->Int->List (List Int)->Option (List (List Int)×Int×Unit))(ay:List (Q3))(aP:Q1)(cJ:Int)(au:Int)(ac:List (List Int)):Option (List (List Int)×Int×Unit):=
  (bif decide (au < 16)then (bif decide (IntKind.i64.wrap (au.tdiv (4:Int)) > au.tmod (4:Int))then r2 ay aP cJ (IntKind.i64.wrap (au+1)) ac else (bif eqV (Ty.arr (2:Nat) (Ty.int IntKind.i64)) [IntKind.i64.wrap (au.tdiv (4:Int)),au.tmod (4:Int)] [au.tmod (4:Int),IntKind.i64.wrap (au.tdiv (4:Int))]then r2 ay aP cJ (IntKind.i64.wrap (au+1)) ac else (bif decide (au.tmod (4:Int) >= (↑ay.length:Int))then r2 ay aP cJ (IntKind.i64.wrap (au+1)) ac else (Option.bind (idx ay (IntKind.i64.wrap (au.tdiv (4:Int)))) λ v7=>(Option.bind (idx ay (au.tmod (4:Int))) λ v8=>(Option.bind (y8d aP v7 v8) λ v9=>(bif IntKind.i64.wrap (IntKind.i64.wrap (v9.1.1 * v9.1.1)+IntKind.i64.wrap (v9.1.2.1 * v9.1.2.1))==IntKind.i64.wrap (cJ * cJ)then (bif decide (ac.length+(1:Nat)<=memMax)then r2 ay aP cJ (IntKind.i64.wrap (au+1)) (ac++[[IntKind.i64.wrap (au.tdiv (4:Int)),au.tmod (4:Int)]])else none)else r2 ay aP cJ (IntKind.i64.wrap (au+1)) ac)))))))else some (ac,(0:Int),()))
def y6k(n:Nat)(k:Nat)(ay:List (Q3))(aP:Q1)(cJ:Int)(au:Int)(ac:List (List Int)):Option (List (List Int)×Int×Unit):=
  iter (λ r y=>yFY n (λ ay aP cJ au ac=>r ((ay,(aP,(cJ,(au,())))),((ac,()),()))) y.1.1 y.1.2.1 y.1.2.2.1 y.1.2.2.2.1 y.2.1.1) k ((ay,(aP,(cJ,(au,())))),((ac,()),()))
def yLd(n:Nat)(rp:Q1)(l:List (Q3)):Option (List (List Int)×Int×Unit):=
  (Option.bind (y4i rp l) λ v0=>(bif v0.1 != 0 then some ([],v0.1,())else (Option.bind (yAH rp) λ v1=>(y6k n n (l) (rp) ((↑v1.1.length:Int)) ((0:Int)) ([])))))
theorem yWx(n:Nat)(x:yQq.den):runF yUq (yP1 n) Tryz.f58 yQq yVd x=yLd n x.1 x.2.1:=by kernel_rfl
def y9R(ay:List (Q3))(aP:Q1)(cJ:Int)(au:Int)(ac:List (List Int)):Option ((List (List Int)×Int×Unit)⊕(List (List Int))):=
  (bif decide (IntKind.i64.wrap (au.tdiv (4:Int)) > au.tmod (4:Int))then (some (Sum.inr (ac)))else (bif eqV (Ty.arr (2:Nat) (Ty.int IntKind.i64)) [IntKind.i64.wrap (au.tdiv (4:Int)),au.tmod (4:Int)] [au.tmod (4:Int),IntKind.i64.wrap (au.tdiv (4:Int))]then (some (Sum.inr (ac)))else (bif decide (au.tmod (4:Int) >= (↑ay.length:Int))then (some (Sum.inr (ac)))else (Option.bind (idx ay (IntKind.i64.wrap (au.tdiv (4:Int)))) λ v7=>(Option.bind (idx ay (au.tmod (4:Int))) λ v8=>(Option.bind (y8d aP v7 v8) λ v9=>(bif IntKind.i64.wrap (IntKind.i64.wrap (v9.1.1 * v9.1.1)+IntKind.i64.wrap (v9.1.2.1 * v9.1.2.1))==IntKind.i64.wrap (cJ * cJ)then (bif decide (ac.length+(1:Nat)<=memMax)then (some (Sum.inr (ac++[[IntKind.i64.wrap (au.tdiv (4:Int)),au.tmod (4:Int)]])))else none)else (some (Sum.inr (ac))))))))))
def yGA(ay:List (Q3))(aP:Q1)(cJ:Int)(ac:List (List Int)):Option (List (List Int)×Int×Unit):=
  (some ((ac,(0:Int),())))
theorem yDQ(n:Nat)(hn:big<=n)(ay:List (Q3))(aP:Q1)(cJ:Int)(ac:List (List Int))(hx:((16:Int))<=9223372036854775807):LeF some (y06 (λ ah a7=>y9R ay aP cJ ah a7) (λ a7=>yGA ay aP cJ a7) (((16:Int)) - 0).toNat 0 ac) (y6k n n ay aP cJ 0 ac):=by
  refine y0K (f:=some) (W:=λ cb ah a7=>y6k n cb ay aP cJ ah a7) (body:=(λ ah a7=>y9R ay aP cJ ah a7)) (fin:=(λ a7=>yGA ay aP cJ a7)) (λ cb ah a7=>?_) hx ac n 0 (by decide) (by unfold big at hn;omega)
  show LeF _ _ (yFY n (y6k n cb) ay aP cJ ah a7)
  exact y5 (y5 (y6 rfl) (y5 (y6 rfl) (y5 (y6 rfl) (y8 λ v7=>(y8 λ v8=>(y8 λ v9=>(y5 (y5 (y6 rfl) yy) (y6 rfl)))))))) (yp (y6 rfl))
def yDu(rp:Q1)(l:List (Q3)):Option (List (List Int)×Int×Unit):=
  (Option.bind (y4i rp l) λ v0=>(bif v0.1 != 0 then (some (([],v0.1,())))else (Option.bind (yAH rp) λ v1=>(bif decide (((16:Int))<=9223372036854775807)then y06 (λ ah a7=>y9R (l) (rp) ((↑v1.1.length:Int)) ah a7) (λ a7=>yGA (l) (rp) ((↑v1.1.length:Int)) a7) (((16:Int)) - 0).toNat 0 ([])else none))))
theorem yQh(rp:Q1)(l:List (Q3))(y:List (List Int)×Int×Unit)(h:yDu rp l=some y):∃ n,yLd n rp l=some y:=
  ⟨big,LeF.top (show LeF some (yDu rp l) (yLd big rp l)from (λ (n:Nat) (hn:big<=n)=>show LeF some (yDu rp l) (yLd n rp l)from (y8 λ v0=>(y5 (y6 rfl) (y8 λ v1=>(yM λ hx=>by apply yDQ n hn;exact hx))))) big (Nat.le_refl _)) h⟩
def z0v_e:Entry:={ f:=58,args:=yQq,ress:=yVd,m:=λ x=>yDu x.1 x.2.1 }
theorem yOk:FnOK Tryz.prog z0v_e:=yL (g:=yUq) (fn:=Tryz.f58) yC yK (yA y8E (yA yOd (yA yK1 eNil))) (by kernel_rfl) (by kernel_rfl) (by kernel_rfl) (λ x y h=>let ⟨n,hn⟩:=yQh x.1 x.2.1 y h;⟨yP1 n,iNil,(yWx n x).trans hn⟩)
abbrev yRN:Ty:=.pair t94 (.pair t22 .unit)
abbrev yay:Ty:=.pair t3 .unit
def yXQ:G:={ T:=T,E:=[zX_e,zJ_e,z0U_e],muts:=[],fz:=[] }
def ybE:List (List Nat):=[]
def yOf(n:Nat):Ann:={ keep:=ybE,fuel:=n,inl:=[],deep:=0 }
def yNM(n:Nat)(rp:Q1)(l:List (Q3)):Option (Int×Unit):=
  (Option.bind (zX_M rp) λ v0=>(Option.bind (zJ_M l) λ v1=>(Option.bind (y80 [v0.1,v1.1]) λ v2=>some (v2.1,()))))
theorem yZW(n:Nat)(x:yRN.den):runF yXQ (yOf n) Tryz.f59 yRN yay x=yNM n x.1 x.2.1:=by kernel_rfl
def yMs(rp:Q1)(l:List (Q3)):Option (Int×Unit):=yNM 0 rp l
theorem ySz(rp:Q1)(l:List (Q3))(y:Int×Unit)(h:yMs rp l=some y):∃ n,yNM n rp l=some y:=⟨0,h⟩
def z0m_e:Entry:={ f:=59,args:=yRN,ress:=yay,m:=λ x=>yMs x.1 x.2.1 }
theorem yVp:FnOK Tryz.prog z0m_e:=yL (g:=yXQ) (fn:=Tryz.f59) yC yK (yA ydR (yA yc6 (yA yIJ eNil))) (by kernel_rfl) (by kernel_rfl) (by kernel_rfl) (λ x y h=>let ⟨n,hn⟩:=ySz x.1 x.2.1 y h;⟨yOf n,iNil,(yZW n x).trans hn⟩)
abbrev yTy:Ty:=.pair t60 (.pair t31 .unit)
abbrev yUO:Ty:=.pair t23 (.pair t28 .unit)
def yav:G:={ T:=T,E:=[z10_e,z04_e,z0h_e,z07_e,zA_e,zl_e,zK_e,z0i_e],muts:=[],fz:=[] }
def ydn:List (List Nat):=[[2,3,7,22,23],[7,9,10,11,51,52]]
def yP6(n:Nat):Ann:={ keep:=ydn,fuel:=n,inl:=[],deep:=0 }
def yCY(n:Nat)(r10:Int->List (List (Q4))->List (Q4)->Int->Int->List (Q4)->Option (List (Q4)×Int×Unit))(aS:Int)(bR:List (List (Q4)))(a8:List (Q4))(bt:Int)(bP:Int)(bF:List (Q4)):Option (List (Q4)×Int×Unit):=
  (bif decide (bP < bt)then (Option.bind (zl_M bR bP a8) λ v11=>(Option.bind (zK_M v11.1) λ v12=>(Option.bind (idx bF bP) λ v13=>(Option.bind (bF[bP.toNat]?) λ v14=>r10 aS bR a8 bt (IntKind.i64.wrap (bP+1)) (bF.set bP.toNat v12.1)))))else (Option.bind (zK_M bR) λ v15=>(Option.bind (idx bF aS) λ v16=>(Option.bind (bF[aS.toNat]?) λ v17=>some (bF.set aS.toNat (z0i v15.1 (-1:Int)).1,(0:Int),())))))
def y50(n:Nat)(k:Nat)(aS:Int)(bR:List (List (Q4)))(a8:List (Q4))(bt:Int)(bP:Int)(bF:List (Q4)):Option (List (Q4)×Int×Unit):=
  iter (λ r y=>yCY n (λ aS bR a8 bt bP bF=>r ((aS,(bR,(a8,(bt,(bP,()))))),((bF,()),()))) y.1.1 y.1.2.1 y.1.2.2.1 y.1.2.2.2.1 y.1.2.2.2.2.1 y.2.1.1) k ((aS,(bR,(a8,(bt,(bP,()))))),((bF,()),()))
def y8F(n:Nat)(j3:Int)(j4:Q1)(j5:List (Q3)):Option (List (Q4)×Int×Unit):=
  (bif j3==(↑j5.length:Int)then some ([],(7:Int),())else (bif decide ((0:Int)<=j3) && decide (j3<=(↑j5.length:Int))then (Option.bind (y8W j4 (List.take j3.toNat j5)) λ v8=>(bif decide ((0:Int)<=j3) && decide (j3<=(↑j5.length:Int))then (Option.bind (zA_M (List.take j3.toNat j5) λ (x:(Q3)×Unit)=>yN7 x.1 j4 j5 j3) λ v9=>(bif Bool.true && decide ((0:Int)<=(↑j5.length:Int)) && decide ((↑j5.length:Int)<=(↑memMax:Int)) && (↑j5.length:Int)==(↑j5.length:Int)then (y50 n n (j3) (v8.1) (v9.1) (j3) ((0:Int)) ((List.replicate ((↑j5.length:Int).toNat) (((0:Int),(0:Int),())):List (Q4))))else none))else none))else none))
def yG5(n:Nat)(r1:Q1->List (Q3)->Int->Int->Int->Option (List (Q4)×Int×Unit))(bg:Q1)(cK:List (Q3))(ca:Int)(cL:Int)(bD:Int):Option (List (Q4)×Int×Unit):=
  (bif decide (cL < ca)then (bif decide ((0:Int)<=IntKind.i64.wrap (cL+1)) && decide (IntKind.i64.wrap (cL+1)<=(↑cK.length:Int))then (Option.bind (yBH bg (List.take (IntKind.i64.wrap (cL+1)).toNat cK)) λ v2=>(bif v2.1 then (y8F n (cL) (bg) (cK))else r1 bg cK ca (IntKind.i64.wrap (cL+1)) bD))else none)else (y8F n (bD) (bg) (cK)))
def y6q(n:Nat)(k:Nat)(bg:Q1)(cK:List (Q3))(ca:Int)(cL:Int)(bD:Int):Option (List (Q4)×Int×Unit):=
  iter (λ r y=>yG5 n (λ bg cK ca cL bD=>r ((bg,(cK,(ca,(cL,())))),(((bD,()),()),()))) y.1.1 y.1.2.1 y.1.2.2.1 y.1.2.2.2.1 y.2.1.1.1) k ((bg,(cK,(ca,(cL,())))),(((bD,()),()),()))
def yM5(n:Nat)(rp:Q1)(l:List (Q3)):Option (List (Q4)×Int×Unit):=
  (Option.bind (y4i rp l) λ v0=>(bif v0.1 != 0 then some ([],v0.1,())else (y6q n n (rp) (l) ((↑l.length:Int)) ((0:Int)) ((↑l.length:Int)))))
theorem yUN(n:Nat)(x:yTy.den):runF yav (yP6 n) Tryz.f89 yTy yUO x=yM5 n x.1 x.2.1:=by kernel_rfl
def yDd(aS:Int)(bR:List (List (Q4)))(a8:List (Q4))(bt:Int)(bP:Int)(bF:List (Q4)):Option ((List (Q4)×Int×Unit)⊕(List (Q4))):=
  (Option.bind (zl_M bR bP a8) λ v11=>(Option.bind (zK_M v11.1) λ v12=>(Option.bind (idx bF bP) λ v13=>(Option.bind (bF[bP.toNat]?) λ v14=>(some (Sum.inr (bF.set bP.toNat v12.1)))))))
def yE3(aS:Int)(bR:List (List (Q4)))(a8:List (Q4))(bt:Int)(bF:List (Q4)):Option (List (Q4)×Int×Unit):=
  (Option.bind (zK_M bR) λ v15=>(Option.bind (idx bF aS) λ v16=>(Option.bind (bF[aS.toNat]?) λ v17=>(some ((bF.set aS.toNat (z0i v15.1 (-1:Int)).1,(0:Int),()))))))
theorem yBd(n:Nat)(hn:big<=n)(aS:Int)(bR:List (List (Q4)))(a8:List (Q4))(bt:Int)(bF:List (Q4))(hx:(bt)<=9223372036854775807):LeF some (y06 (λ ah a7=>yDd aS bR a8 bt ah a7) (λ a7=>yE3 aS bR a8 bt a7) ((bt) - 0).toNat 0 bF) (y50 n n aS bR a8 bt 0 bF):=by
  refine y0K (f:=some) (W:=λ cb ah a7=>y50 n cb aS bR a8 bt ah a7) (body:=(λ ah a7=>yDd aS bR a8 bt ah a7)) (fin:=(λ a7=>yE3 aS bR a8 bt a7)) (λ cb ah a7=>?_) hx bF n 0 (by decide) (by unfold big at hn;omega)
  show LeF _ _ (yCY n (y50 n cb) aS bR a8 bt ah a7)
  exact y5 (y8 λ v11=>(y8 λ v12=>(y8 λ v13=>(y8 λ v14=>(y6 rfl))))) (yp (y8 λ v15=>(y8 λ v16=>(y8 λ v17=>(y6 rfl)))))
def yE0(j3:Int)(j4:Q1)(j5:List (Q3)):Option (List (Q4)×Int×Unit):=
  (bif j3==(↑j5.length:Int)then (some (([],(7:Int),())))else (bif decide ((0:Int)<=j3) && decide (j3<=(↑j5.length:Int))then (Option.bind (y8W j4 (List.take j3.toNat j5)) λ v8=>(bif decide ((0:Int)<=j3) && decide (j3<=(↑j5.length:Int))then (Option.bind (zA_M (List.take j3.toNat j5) λ (x:(Q3)×Unit)=>yN7 x.1 j4 j5 j3) λ v9=>(bif Bool.true && decide ((0:Int)<=(↑j5.length:Int)) && decide ((↑j5.length:Int)<=(↑memMax:Int)) && (↑j5.length:Int)==(↑j5.length:Int)then (bif decide ((j3)<=9223372036854775807)then y06 (λ ah a7=>yDd (j3) (v8.1) (v9.1) (j3) ah a7) (λ a7=>yE3 (j3) (v8.1) (v9.1) (j3) a7) ((j3) - 0).toNat 0 ((List.replicate ((↑j5.length:Int).toNat) (((0:Int),(0:Int),())):List (Q4)))else none)else none))else none))else none))
theorem y2I(n:Nat)(hn:big<=n)(j3:Int)(j4:Q1)(j5:List (Q3)):LeF some (yE0 j3 j4 j5) (y8F n j3 j4 j5):=
  (y5 (y6 rfl) (y5 (y8 λ v8=>(y5 (y8 λ v9=>(y5 (yM λ hx=>by apply yBd n hn;exact hx) yy)) yy)) yy))
def yJq(bg:Q1)(cK:List (Q3))(ca:Int)(bD:Int)(cL:Int):Option ((List (Q4)×Int×Unit)⊕Unit):=
  (bif decide ((0:Int)<=IntKind.i64.wrap (cL+1)) && decide (IntKind.i64.wrap (cL+1)<=(↑cK.length:Int))then (Option.bind (yBH bg (List.take (IntKind.i64.wrap (cL+1)).toNat cK)) λ v2=>(bif v2.1 then (Option.map Sum.inl (yE0 (cL) (bg) (cK)))else (some (Sum.inr ()))))else none)
def yKA(bg:Q1)(cK:List (Q3))(ca:Int)(bD:Int):Option (List (Q4)×Int×Unit):=
  (yE0 (bD) (bg) (cK))
theorem yDP(n:Nat)(hn:big<=n)(bg:Q1)(cK:List (Q3))(ca:Int)(bD:Int)(hx:(ca)<=9223372036854775807):LeF some (y06 (λ ah a7=>yJq bg cK ca bD ah) (λ a7=>yKA bg cK ca bD) ((ca) - 0).toNat 0 ()) (y6q n n bg cK ca 0 bD):=by
  refine y0K (f:=some) (W:=λ cb ah a7=>y6q n cb bg cK ca ah bD) (body:=(λ ah a7=>yJq bg cK ca bD ah)) (fin:=(λ a7=>yKA bg cK ca bD)) (λ cb ah a7=>?_) hx () n 0 (by decide) (by unfold big at hn;omega)
  show LeF _ _ (yG5 n (y6q n cb) bg cK ca ah bD)
  exact y5 (y5 (y8 λ v2=>(y5 (yp (by apply y2I n hn)) (y6 rfl))) yy) (yp (by apply y2I n hn))
def yKV(rp:Q1)(l:List (Q3)):Option (List (Q4)×Int×Unit):=
  (Option.bind (y4i rp l) λ v0=>(bif v0.1 != 0 then (some (([],v0.1,())))else (bif decide (((↑l.length:Int))<=9223372036854775807)then y06 (λ ah a7=>yJq (rp) (l) ((↑l.length:Int)) ((↑l.length:Int)) ah) (λ a7=>yKA (rp) (l) ((↑l.length:Int)) ((↑l.length:Int))) (((↑l.length:Int)) - 0).toNat 0 ()else none)))
theorem ySL(rp:Q1)(l:List (Q3))(y:List (Q4)×Int×Unit)(h:yKV rp l=some y):∃ n,yM5 n rp l=some y:=
  ⟨big,LeF.top (show LeF some (yKV rp l) (yM5 big rp l)from (λ (n:Nat) (hn:big<=n)=>show LeF some (yKV rp l) (yM5 n rp l)from (y8 λ v0=>(y5 (y6 rfl) (yM λ hx=>by apply yDP n hn;exact hx)))) big (Nat.le_refl _)) h⟩
def z0b_e:Entry:={ f:=89,args:=yTy,ress:=yUO,m:=λ x=>yKV x.1 x.2.1 }
theorem yaW:FnOK Tryz.prog z0b_e:=yL (g:=yav) (fn:=Tryz.f89) yC yK (yA y8E (yA yOD (yA yBm (yA yZd (yA yRo (yA yWP (yA yMt (yA yKT eNil)))))))) (by kernel_rfl) (by kernel_rfl) (by kernel_rfl) (λ x y h=>let ⟨n,hn⟩:=ySL x.1 x.2.1 y h;⟨yP6 n,iNil,(yUN n x).trans hn⟩)
end
end Go.Tw
end
section
set_option maxRecDepth 1000000
namespace Go.Tw
open Go.Vx Go.Vx.B Go.Proofs
noncomputable section
def il102:Inl:={ f:=102,fn:=Tryz.f102,keep:=[],muts:=[3,5],fz:=[5],rc:=true }
theorem yM2:y6d Tryz.prog il102:=⟨by kernel_rfl,by kernel_rfl,λ e0 h=>by cases (show (none:Option LibK)=some e0 from h)⟩
abbrev yTv:Ty:=.unit
abbrev yVw:Ty:=.pair t4 .unit
def yVh:G:={ T:=T,E:=[z0o_e,z0T_e,z0d_e,zj_e,z0K_e,z0x_e,z0L_e,zy_e,zZ_e,z0v_e,z0b_e,z1C_e,z0c_e,z08_e,z0w_e,z1B_e,z0y_e,z1D_e,z0z_e,zr_e,zg_e,zx_e,zz_e],muts:=[155],fz:=[] }
def ybR:List (List Nat):=[]
def yOJ(n:Nat):Ann:={ keep:=ybR,fuel:=n,inl:=[il102],deep:=4 }
def ySw(n:Nat)  : Option (Bool×Unit):=
  (Option.bind (y5t [(81:UInt8),82]) λ v0=>(Option.bind (yIs (z0o []).1 v0.1) λ v1=>(Option.bind (y5t [(81:UInt8),82]) λ v2=>(Option.bind (zj_M (z0o []).1 v2.1) λ v3=>(Option.bind (y5t [(81:UInt8),82]) λ v4=>(Option.bind (yNw (z0o []).1 v4.1) λ v5=>(Option.bind (y5t [(81:UInt8),82]) λ v6=>(Option.bind (yHw (z0o []).1 v6.1) λ v7=>(Option.bind (yHG (v5.1.1,v5.1.2.1,v5.1.2.2.1,()) (0:Int) (4:Int)) λ v8=>(Option.bind (y5t [(90:UInt8),72]) λ v9=>(Option.bind (zj_M (z0o [((3:Int),(4:Int),())]).1 v9.1) λ v10=>(Option.bind (y5t [(90:UInt8),72]) λ v11=>(Option.bind (yHw (z0o [((3:Int),(4:Int),())]).1 v11.1) λ v12=>(bif IntKind.i64.wrap (IntKind.i64.wrap (IntKind.i64.wrap (IntKind.i64.wrap (IntKind.i64.wrap (IntKind.i64.wrap (v1.2.1+v3.2.1)+v5.2.1)+v7.2.1)+v8.2.1)+v10.2.1)+v12.2.1) != 0 then some (Bool.false,())else (Option.bind (zy_M v1.1 [[((4:Int),(0:Int),()),((0:Int),(0:Int),())],[((0:Int),(0:Int),()),((4:Int),(0:Int),())]]) λ v13=>(bif !v13.1 then some (Bool.false,())else (bif v3.1 != 16 then some (Bool.false,())else (bif v5.1.2.2.1 != 1 then some (Bool.false,())else (Option.bind (zZ_M v5.1.2.1 [((8:Int),(0:Int),()),((8:Int),(0:Int),())]) λ v14=>(bif !v14.1 then some (Bool.false,())else (bif !eqV ((Ty.int IntKind.i64).pair ((Ty.int IntKind.i64).pair Ty.unit)) (v7.1.1,v7.1.2.1,()) ((0:Int),(1:Int),())then some (Bool.false,())else (Option.bind (zZ_M v8.1 [((16:Int),(0:Int),()),((0:Int),(0:Int),()),((-16:Int),(0:Int),()),((0:Int),(0:Int),())]) λ v15=>(bif !v15.1 then some (Bool.false,())else (bif v10.1 != 8 then some (Bool.false,())else (bif !eqV ((Ty.int IntKind.i64).pair ((Ty.int IntKind.i64).pair Ty.unit)) (v12.1.1,v12.1.2.1,()) ((512:Int),(1:Int),())then some (Bool.false,())else (Option.bind (y5t [(90:UInt8),72]) λ v32=>(Option.bind (yDu ([(103:UInt8)],(0:Int),[nat_lit 1065353216,nat_lit 0,nat_lit 3212836864,nat_lit 0],[((1:Int),(2:Int),()),((3:Int),(4:Int),())],()) v32.1) λ v33=>(Option.bind (y5t [(90:UInt8),72]) λ v34=>(Option.bind (yKV ([(103:UInt8)],(0:Int),[nat_lit 1065353216,nat_lit 0,nat_lit 3212836864,nat_lit 0],[((1:Int),(2:Int),()),((3:Int),(4:Int),())],()) v34.1) λ v35=>(Option.bind (y5t [(90:UInt8),72,81]) λ v36=>(Option.bind (yEg ([(103:UInt8)],(0:Int),[nat_lit 1065353216,nat_lit 0,nat_lit 3212836864,nat_lit 0],[((1:Int),(2:Int),()),((3:Int),(4:Int),())],()) v36.1) λ v37=>(Option.bind (y5t [(90:UInt8),72]) λ v38=>(Option.bind (yNw ([(103:UInt8)],(0:Int),[nat_lit 1065353216,nat_lit 0,nat_lit 3212836864,nat_lit 0],[((1:Int),(2:Int),()),((3:Int),(4:Int),())],()) v38.1) λ v39=>(Option.bind (y5t [(90:UInt8)]) λ v40=>(Option.bind (ySG (v40.1,[((3:Int),(0:Int),())],(2:Int),()) (5:Int) (1:Int)) λ v41=>(Option.bind (yQF (z0o []).1 (v40.1,[((3:Int),(0:Int),())],(2:Int),())) λ v42=>(Option.bind (yTw [nat_lit 0,nat_lit 1065353216,nat_lit 1065353216,nat_lit 0,nat_lit 1073741824,nat_lit 1065353216]) λ v43=>(Option.bind (yQm [nat_lit 0,nat_lit 1065353216,nat_lit 1065353216,nat_lit 0,nat_lit 1073741824,nat_lit 1065353216]) λ v44=>(Option.bind (yQn (2024:Int)) λ v45=>(Option.bind (yTu (v40.1,[((3:Int),(0:Int),())],(2:Int),())) λ v46=>(Option.bind (yT6 (v40.1,[((3:Int),(0:Int),())],(2:Int),())) λ v47=>(bif IntKind.i64.wrap (IntKind.i64.wrap (IntKind.i64.wrap (IntKind.i64.wrap (IntKind.i64.wrap (IntKind.i64.wrap (IntKind.i64.wrap (IntKind.i64.wrap (IntKind.i64.wrap (v33.2.1+v35.2.1)+v37.2.1)+v41.2.1)+v42.2.1)+v43.2.1)+v44.2.1)+v45.2.1)+v46.2.1)+v47.2.1)==0 then (bif v39.2.1==25 then (Option.bind (zr_M v33.1 [[(0:Int),(1:Int)]]) λ v48=>(bif v48.1 then (Option.bind (zZ_M v35.1 [((2:Int),(0:Int),()),((-2:Int),(0:Int),())]) λ v49=>(bif v49.1 then (bif v37.1==2 then (Option.bind (zg_M v41.1 [nat_lit 1040187392]) λ v50=>(bif v50.1 then (bif eqV ((Ty.int IntKind.i64).pair ((Ty.int IntKind.i64).pair Ty.unit)) (v42.1.1,v42.1.2.1,()) ((521:Int),(1:Int),())then (Option.bind (zx_M v43.1 [(1:Int),(4:Int)]) λ v51=>(bif v51.1 then (Option.bind (zx_M v44.1 [(3:Int)]) λ v52=>(bif v52.1 then (bif eqV ((Ty.int IntKind.i64).pair ((Ty.int IntKind.i64).pair Ty.unit)) (v45.1.1,v45.1.2.1,()) ((26:Int),(25:Int),())then (Option.bind (zz_M v46.1 [(nat_lit 1035993088,nat_lit 0)]) λ v53=>(bif v53.1 then some (v47.1==[(116:UInt8),105,100,101,32,50,10,99,111,110,115,116,105,116,117,101,110,116,32,90,32,49,32,48,32,51,32,48,10],())else some (Bool.false,())))else some (Bool.false,()))else some (Bool.false,())))else some (Bool.false,())))else some (Bool.false,()))else some (Bool.false,())))else some (Bool.false,()))else some (Bool.false,())))else some (Bool.false,())))else some (Bool.false,()))else some (Bool.false,())))))))))))))))))))))))))))))))))))))))))))
theorem yUG(n:Nat)(x:yTv.den):runF yVh (yOJ n) Tryz.f18 yTv yVw x=ySw n:=by kernel_rfl
def yQN  : Option (Bool×Unit):=ySw 0
theorem yTV(y:Bool×Unit)(h:yQN=some y):∃ n,ySw n=some y:=⟨0,h⟩
def z0S_e:Entry:={ f:=18,args:=yTv,ress:=yVw,m:=λ x=>yQN }
theorem yVV:FnOK Tryz.prog z0S_e:=yL (g:=yVh) (fn:=Tryz.f18) yC yK (yA yXB (yA yaI (yA yPm (yA yYR (yA yY2 (yA yZt (yA yOl (yA yUX (yA yXD (yA yOk (yA yaW (yA yOu (yA yao (yA yVk (yA yWY (yA yUB (yA yXU (yA yUV (yA yWv (yA yas (yA ybd (yA yc1 (yA ycy eNil))))))))))))))))))))))) (by kernel_rfl) (by kernel_rfl) (by kernel_rfl) (λ x y h=>let ⟨n,hn⟩:=yTV y h;⟨yOJ n,(y58 yM2 iNil),(yUG n x).trans hn⟩)
end
end Go.Tw
end
