import Derived.Test.YtpcnkpbpcebokaaGreatDoorBT
import Derived.Test.YtpcnkpbpcebokaaGreatDoorB0
import Derived.Test.YtpcnkpbpcebokaaGreatDoorBS
import Derived.Test.YtpcnkpbpcebokaaGreatDoorLQ
import Derived.Test.YtpcnkpbpcebokaaGreatDoorBA
import Derived.Test.YtpcnkpbpcebokaaGreatDoorLR
set_option linter.all false
section
set_option maxRecDepth 1000000
namespace Go.Tw
open Go.Vx Go.Vx.B Go.Proofs
noncomputable section
abbrev zJ_a:Ty:=.pair t22 .unit
abbrev zJ_r:Ty:=.pair t3 .unit
def zJ_g:G:={ T:=T,E:=[zn_e,ze_e,z0U_e],muts:=[],fz:=[] }
def zJ_k:List (List Nat):=[[0,3],[0,3,5]]
def yVZ(n:Nat):Ann:={ keep:=zJ_k,fuel:=n,inl:=[],deep:=0 }
def yIu(n:Nat)(r0:List (Q3)->Int->Option (Int×Unit))(r6:List (Q3)->Int->Int->Option (Int×Unit))(aG:List (Q3))(aC:Int)(aZ:Int):Option (Int×Unit):=
  (bif decide (aZ < aC)then (Option.bind (idx aG aZ) λ v7=>(Option.bind (idx aG aC) λ v8=>(bif v7.1==v8.1 then some ((9:Int),())else r6 aG aC (IntKind.i64.wrap (aZ+1)))))else r0 aG (IntKind.i64.wrap (aC+1)))
def yAW(n:Nat)(r0:List (Q3)->Int->Option (Int×Unit))(k:Nat)(aG:List (Q3))(aC:Int)(aZ:Int):Option (Int×Unit):=
  iter (λ r y=>yIu n r0 (λ aG aC aZ=>r ((aG,(aC,(aZ,()))),((),()))) y.1.1 y.1.2.1 y.1.2.2.1) k ((aG,(aC,(aZ,()))),((),()))
def yJE(n:Nat)(r0:List (Q3)->Int->Option (Int×Unit))(aj:List (Q3))(aO:Int):Option (Int×Unit):=
  (bif decide (aO < (↑aj.length:Int))then (Option.bind (idx aj aO) λ v1=>(Option.bind (zn_M v1.1) λ v2=>(Option.bind (idx aj aO) λ v3=>(Option.bind (idx aj aO) λ v4=>(Option.bind (y80 [v2.1,(ze v3.2.1 (1:Int) (96:Int)).1,(ze v4.2.2.1 (0:Int) (3:Int)).1]) λ v5=>(bif v5.1 != 0 then some (v5.1,())else (yAW n r0 n (aj) (aO) ((0:Int)))))))))else some ((0:Int),()))
def yAK(n:Nat)(k:Nat)(aj:List (Q3))(aO:Int):Option (Int×Unit):=
  iter (λ r y=>yJE n (λ aj aO=>r ((aj,(aO,())),((),()))) y.1.1 y.1.2.1) k ((aj,(aO,())),((),()))
def zJ_m(n:Nat)(l:List (Q3)):Option (Int×Unit):=
  (bif (↑l.length:Int)==0 then some ((12:Int),())else (bif decide ((↑l.length:Int) > 4)then some ((5:Int),())else (yAK n n (l) ((0:Int)))))
theorem yd4(n:Nat)(x:zJ_a.den):runF zJ_g (yVZ n) Tryz.f32 zJ_a zJ_r x=zJ_m n x.1:=by kernel_rfl
def yH2(aG:List (Q3))(aC:Int)(aZ:Int):Option (((Int×Unit)⊕Unit)⊕Unit):=
  (Option.bind (idx aG aZ) λ v7=>(Option.bind (idx aG aC) λ v8=>(bif v7.1==v8.1 then (some (Sum.inl (Sum.inl (((9:Int),())))))else (some (Sum.inr ())))))
def yNa(aG:List (Q3))(aC:Int):Option ((Int×Unit)⊕Unit):=
  (some (Sum.inr ()))
theorem yH6(n:Nat)(hn:big<=n)(r0:List (Q3)->Int->Option (Int×Unit))(aG:List (Q3))(aC:Int)(hx:(aC)<=9223372036854775807):LeF (elim some λ (aa:Unit)=>r0 aG (IntKind.i64.wrap (aC+1))) (y06 (λ ae aa=>yH2 aG aC ae) (λ aa=>yNa aG aC) ((aC) - 0).toNat 0 ()) (yAW n r0 n aG aC 0):=by
  refine y0K (f:=(elim some λ (aa:Unit)=>r0 aG (IntKind.i64.wrap (aC+1)))) (W:=λ aD ae aa=>yAW n r0 aD aG aC ae) (body:=(λ ae aa=>yH2 aG aC ae)) (fin:=(λ aa=>yNa aG aC)) (λ aD ae aa=>?_) hx () n 0 (by decide) (by unfold big at hn;omega)
  show LeF _ _ (yIu n r0 (yAW n r0 aD) aG aC ae)
  exact y5 (y8 λ v7=>(y8 λ v8=>(y5 (y6 rfl) (y6 rfl)))) (yp (y6 rfl))
def yHT(aj:List (Q3))(aO:Int)(v1:Q3):Option ((Int×Unit)⊕Unit):=
  (Option.bind (zn_M v1.1) λ v2=>(Option.bind (idx aj aO) λ v3=>(Option.bind (idx aj aO) λ v4=>(Option.bind (y80 [v2.1,(ze v3.2.1 (1:Int) (96:Int)).1,(ze v4.2.2.1 (0:Int) (3:Int)).1]) λ v5=>(bif v5.1 != 0 then (some (Sum.inl ((v5.1,()))))else (bif decide ((aO)<=9223372036854775807)then y06 (λ ae aa=>yH2 (aj) (aO) ae) (λ aa=>yNa (aj) (aO)) ((aO) - 0).toNat 0 ()else none))))))
def yMf(aj:List (Q3)):Option (Int×Unit):=
  (some (((0:Int),())))
theorem yGX(n:Nat)(hn:big<=n)(aj:List (Q3))(hx:List.length (aj) < lenMax):LeF some (yP (λ ae aL aa=>yHT aj ae aL) (λ aa=>yMf aj) 0 (aj) ()) (yAK n n aj 0):=by
  refine yS (f:=some) (W:=λ aD ae aa=>yAK n aD aj ae) (body:=(λ ae aL aa=>yHT aj ae aL)) (fin:=(λ aa=>yMf aj)) (λ aD ae aa=>?_) hx () n (by unfold big at hn;unfold lenMax at hx;omega)
  show LeF _ _ (yJE n (yAK n aD) aj ae)
  exact y5 (y8 λ v1=>(y8 λ v2=>(y8 λ v3=>(y8 λ v4=>(y8 λ v5=>(y5 (y6 rfl) (yM λ hx=>by apply yH6 n hn;exact hx))))))) (yp (y6 rfl))
def zJ_M(l:List (Q3)):Option (Int×Unit):=
  (bif (↑l.length:Int)==0 then (some (((12:Int),())))else (bif decide ((↑l.length:Int) > 4)then (some (((5:Int),())))else (bif decide (List.length (l) < lenMax)then yP (λ ae aL aa=>yHT (l) ae aL) (λ aa=>yMf (l)) 0 (l) ()else none)))
theorem yaG(l:List (Q3))(y:Int×Unit)(h:zJ_M l=some y):∃ n,zJ_m n l=some y:=
  ⟨big,LeF.top (show LeF some (zJ_M l) (zJ_m big l)from (λ (n:Nat) (hn:big<=n)=>show LeF some (zJ_M l) (zJ_m n l)from (y5 (y6 rfl) (y5 (y6 rfl) (yM λ hx=>by apply yGX n hn;exact hx)))) big (Nat.le_refl _)) h⟩
def zJ_e:Entry:={ f:=32,args:=zJ_a,ress:=zJ_r,m:=λ x=>zJ_M x.1 }
theorem yc6:FnOK Tryz.prog zJ_e:=yL (g:=zJ_g) (fn:=Tryz.f32) yC yK (yA yaR (yA yYA (yA yIJ eNil))) (by kernel_rfl) (by kernel_rfl) (by kernel_rfl) (λ x y h=>let ⟨n,hn⟩:=yaG x.1 y h;⟨yVZ n,iNil,(yd4 n x).trans hn⟩)
abbrev yQo:Ty:=.pair t94 .unit
abbrev yal:Ty:=.pair t41 .unit
def yXj:G:={ T:=T,E:=[zw_e],muts:=[3],fz:=[] }
def yb6:List (List Nat):=[[1,3,4]]
def yOI(n:Nat):Ann:={ keep:=yb6,fuel:=n,inl:=[],deep:=0 }
def yG2(n:Nat)(r0:Q1->Int->List Int->Option (List Int×Unit))(aE:Q1)(aT:Int)(aK:List Int):Option (List Int×Unit):=
  (bif decide (aT < (↑aE.2.2.1.length:Int))then (Option.bind (zw_M aE aT) λ v1=>(bif v1.1 then (bif decide (aK.length+(1:Nat)<=memMax)then r0 aE (IntKind.i64.wrap (aT+1)) (aK++[IntKind.i64.wrap (aE.2.1+aT)])else none)else r0 aE (IntKind.i64.wrap (aT+1)) aK))else some (aK,()))
def y6i(n:Nat)(k:Nat)(aE:Q1)(aT:Int)(aK:List Int):Option (List Int×Unit):=
  iter (λ r y=>yG2 n (λ aE aT aK=>r ((aE,(aT,())),((aK,()),()))) y.1.1 y.1.2.1 y.2.1.1) k ((aE,(aT,())),((aK,()),()))
def yNH(n:Nat)(rp:Q1):Option (List Int×Unit):=
  (y6i n n (rp) ((0:Int)) ([]))
theorem yUy(n:Nat)(x:yQo.den):runF yXj (yOI n) Tryz.f77 yQo yal x=yNH n x.1:=by kernel_rfl
def yBR(aE:Q1)(aT:Int)(aK:List Int):Option ((List Int×Unit)⊕(List Int)):=
  (Option.bind (zw_M aE aT) λ v1=>(bif v1.1 then (bif decide (aK.length+(1:Nat)<=memMax)then (some (Sum.inr (aK++[IntKind.i64.wrap (aE.2.1+aT)])))else none)else (some (Sum.inr (aK)))))
def y9a(aE:Q1)(aK:List Int):Option (List Int×Unit):=
  (some ((aK,())))
theorem yDq(n:Nat)(hn:big<=n)(aE:Q1)(aK:List Int)(hx:((↑aE.2.2.1.length:Int))<=9223372036854775807):LeF some (y06 (λ ae aa=>yBR aE ae aa) (λ aa=>y9a aE aa) (((↑aE.2.2.1.length:Int)) - 0).toNat 0 aK) (y6i n n aE 0 aK):=by
  refine y0K (f:=some) (W:=λ aD ae aa=>y6i n aD aE ae aa) (body:=(λ ae aa=>yBR aE ae aa)) (fin:=(λ aa=>y9a aE aa)) (λ aD ae aa=>?_) hx aK n 0 (by decide) (by unfold big at hn;omega)
  show LeF _ _ (yG2 n (y6i n aD) aE ae aa)
  exact y5 (y8 λ v1=>(y5 (y5 (y6 rfl) yy) (y6 rfl))) (yp (y6 rfl))
def y8S(rp:Q1):Option (List Int×Unit):=
  (bif decide (((↑rp.2.2.1.length:Int))<=9223372036854775807)then y06 (λ ae aa=>yBR (rp) ae aa) (λ aa=>y9a (rp) aa) (((↑rp.2.2.1.length:Int)) - 0).toNat 0 ([])else none)
theorem yRy(rp:Q1)(y:List Int×Unit)(h:y8S rp=some y):∃ n,yNH n rp=some y:=
  ⟨big,LeF.top (show LeF some (y8S rp) (yNH big rp)from (λ (n:Nat) (hn:big<=n)=>show LeF some (y8S rp) (yNH n rp)from (yM λ hx=>by apply yDq n hn;exact hx)) big (Nat.le_refl _)) h⟩
def z0Y_e:Entry:={ f:=77,args:=yQo,ress:=yal,m:=λ x=>y8S x.1 }
theorem yKx:FnOK Tryz.prog z0Y_e:=yL (g:=yXj) (fn:=Tryz.f77) yC yK (yA ycf eNil) (by kernel_rfl) (by kernel_rfl) (by kernel_rfl) (λ x y h=>let ⟨n,hn⟩:=yRy x.1 y h;⟨yOI n,iNil,(yUy n x).trans hn⟩)
abbrev yT5:Ty:=.pair t3 (.pair t3 .unit)
abbrev yYZ:Ty:=.pair t28 .unit
def yVu:G:={ T:=T,E:=[z0k_e,z11_e],muts:=[],fz:=[] }
def ybb:List (List Nat):=[]
def yPZ(n:Nat):Ann:={ keep:=ybb,fuel:=n,inl:=[],deep:=0 }
def ySN(n:Nat)(p0:Int)(np:Int):Option (Int×Unit):=
  (Option.bind (y2H [(z0k p0 (0:Int) (100000:Int)).1,(z0k np (0:Int) (4096:Int)).1]) λ v0=>(bif v0.1 != 0 then some (v0.1,())else some ((z0k (IntKind.i64.wrap (p0+np)) (0:Int) (100000:Int)).1,())))
theorem yXS(n:Nat)(x:yT5.den):runF yVu (yPZ n) Tryz.f105 yT5 yYZ x=ySN n x.1 x.2.1:=by kernel_rfl
def yMy(p0:Int)(np:Int):Option (Int×Unit):=ySN 0 p0 np
theorem ySk(p0:Int)(np:Int)(y:Int×Unit)(h:yMy p0 np=some y):∃ n,ySN n p0 np=some y:=⟨0,h⟩
def z02_e:Entry:={ f:=105,args:=yT5,ress:=yYZ,m:=λ x=>yMy x.1 x.2.1 }
theorem yX3:FnOK Tryz.prog z02_e:=yL (g:=yVu) (fn:=Tryz.f105) yC yK (yA yBX (yA y4X eNil)) (by kernel_rfl) (by kernel_rfl) (by kernel_rfl) (λ x y h=>let ⟨n,hn⟩:=ySk x.1 x.2.1 y h;⟨yPZ n,iNil,(yXS n x).trans hn⟩)
abbrev yRB:Ty:=.pair t33 (.pair t3 .unit)
abbrev yYX:Ty:=.pair t57 .unit
def yVn:G:={ T:=T,E:=[z18_e],muts:=[],fz:=[] }
def ybW:List (List Nat):=[]
def yPW(n:Nat):Ann:={ keep:=ybW,fuel:=n,inl:=[],deep:=0 }
def yQM(n:Nat)(t:Q2)(tick:Int):Option ((Q4)×Unit):=
  (Option.bind (yJm t.1 t.2.1 tick) λ v0=>some ((v0.1.1,v0.1.2.1,()),()))
theorem yXu(n:Nat)(x:yRB.den):runF yVn (yPW n) Tryz.f106 yRB yYX x=yQM n x.1 x.2.1:=by kernel_rfl
def yHd(t:Q2)(tick:Int):Option ((Q4)×Unit):=yQM 0 t tick
theorem ySY(t:Q2)(tick:Int)(y:(Q4)×Unit)(h:yHd t tick=some y):∃ n,yQM n t tick=some y:=⟨0,h⟩
def z0M_e:Entry:={ f:=106,args:=yRB,ress:=yYX,m:=λ x=>yHd x.1 x.2.1 }
theorem yOh:FnOK Tryz.prog z0M_e:=yL (g:=yVn) (fn:=Tryz.f106) yC yK (yA yZZ eNil) (by kernel_rfl) (by kernel_rfl) (by kernel_rfl) (λ x y h=>let ⟨n,hn⟩:=ySY x.1 x.2.1 y h;⟨yPW n,iNil,(yXu n x).trans hn⟩)
abbrev yTe:Ty:=.pair t57 .unit
abbrev yWA:Ty:=.pair t28 .unit
def yYP:G:={ T:=T,E:=[z0k_e,z11_e],muts:=[],fz:=[] }
def ycN:List (List Nat):=[]
def yPD(n:Nat):Ann:={ keep:=ycN,fuel:=n,inl:=[],deep:=0 }
def yRm(n:Nat)(z:Q4):Option (Int×Unit):=
  (Option.bind (y2H [(z0k z.1 (-8796093022208:Int) (8796093022208:Int)).1,(z0k z.2.1 (-8796093022208:Int) (8796093022208:Int)).1]) λ v0=>some (v0.1,()))
theorem yb4(n:Nat)(x:yTe.den):runF yYP (yPD n) Tryz.f116 yTe yWA x=yRm n x.1:=by kernel_rfl
def ySB(z:Q4):Option (Int×Unit):=yRm 0 z
theorem yR2(z:Q4)(y:Int×Unit)(h:ySB z=some y):∃ n,yRm n z=some y:=⟨0,h⟩
def z01_e:Entry:={ f:=116,args:=yTe,ress:=yWA,m:=λ x=>ySB x.1 }
theorem yX5:FnOK Tryz.prog z01_e:=yL (g:=yYP) (fn:=Tryz.f116) yC yK (yA yBX (yA y4X eNil)) (by kernel_rfl) (by kernel_rfl) (by kernel_rfl) (λ x y h=>let ⟨n,hn⟩:=yR2 x.1 y h;⟨yPD n,iNil,(yb4 n x).trans hn⟩)
abbrev yQI:Ty:=.pair t23 (.pair t3 .unit)
abbrev yYJ:Ty:=.pair t3 .unit
def yV0:G:={ T:=T,E:=[z0N_e],muts:=[],fz:=[] }
def ydY:List (List Nat):=[[1,7,8,9]]
def yO7(n:Nat):Ann:={ keep:=ydY,fuel:=n,inl:=[],deep:=0 }
def yFF(n:Nat)(r0:Int->List (Q4)->Int->Int->Option (Int×Unit))(az:Int)(aB:List (Q4))(aQ:Int)(av:Int):Option (Int×Unit):=
  (bif decide (av < aQ)then (Option.bind (idx aB av) λ v1=>(Option.bind (yDr az [v1.1,v1.2.1]) λ v2=>r0 v2.1 aB aQ (IntKind.i64.wrap (av+1))))else some (az,()))
def y7A(n:Nat)(k:Nat)(az:Int)(aB:List (Q4))(aQ:Int)(av:Int):Option (Int×Unit):=
  iter (λ r y=>yFF n (λ az aB aQ av=>r ((az,(aB,(aQ,(av,())))),((),()))) y.1.1 y.1.2.1 y.1.2.2.1 y.1.2.2.2.1) k ((az,(aB,(aQ,(av,())))),((),()))
def yMq(n:Nat)(l:List (Q4))(den:Int):Option (Int×Unit):=
  (y7A n n (den) (l) ((↑l.length:Int)) ((0:Int)))
theorem yZy(n:Nat)(x:yQI.den):runF yV0 (yO7 n) Tryz.f117 yQI yYJ x=yMq n x.1 x.2.1:=by kernel_rfl
def yIv(aB:List (Q4))(av:Int)(v1:Q4)(az:Int):Option ((Int×Unit)⊕(Int)):=
  (Option.bind (yDr az [v1.1,v1.2.1]) λ v2=>(some (Sum.inr (v2.1))))
def yJn(aB:List (Q4))(az:Int):Option (Int×Unit):=
  (some ((az,())))
theorem yDL(n:Nat)(hn:big<=n)(aB:List (Q4))(az:Int)(hx:List.length (aB) < lenMax):LeF some (yP (λ ae aL aa=>yIv aB ae aL aa) (λ aa=>yJn aB aa) 0 (aB) az) (y7A n n az aB (List.length (aB):Int) 0):=by
  refine yS (f:=some) (W:=λ aD ae aa=>y7A n aD aa aB (List.length (aB):Int) ae) (body:=(λ ae aL aa=>yIv aB ae aL aa)) (fin:=(λ aa=>yJn aB aa)) (λ aD ae aa=>?_) hx az n (by unfold big at hn;unfold lenMax at hx;omega)
  show LeF _ _ (yFF n (y7A n aD) aa aB (List.length (aB):Int) ae)
  exact y5 (y8 λ v1=>(y8 λ v2=>(y6 rfl))) (yp (y6 rfl))
def yGj(l:List (Q4))(den:Int):Option (Int×Unit):=
  (bif decide (List.length (l) < lenMax)then yP (λ ae aL aa=>yIv (l) ae aL aa) (λ aa=>yJn (l) aa) 0 (l) (den)else none)
theorem yTG(l:List (Q4))(den:Int)(y:Int×Unit)(h:yGj l den=some y):∃ n,yMq n l den=some y:=
  ⟨big,LeF.top (show LeF some (yGj l den) (yMq big l den)from (λ (n:Nat) (hn:big<=n)=>show LeF some (yGj l den) (yMq n l den)from (yM λ hx=>by apply yDL n hn;exact hx)) big (Nat.le_refl _)) h⟩
def z0g_e:Entry:={ f:=117,args:=yQI,ress:=yYJ,m:=λ x=>yGj x.1 x.2.1 }
theorem yO3:FnOK Tryz.prog z0g_e:=yL (g:=yV0) (fn:=Tryz.f117) yC yK (yA yOZ eNil) (by kernel_rfl) (by kernel_rfl) (by kernel_rfl) (λ x y h=>let ⟨n,hn⟩:=yTG x.1 x.2.1 y h;⟨yO7 n,iNil,(yZy n x).trans hn⟩)
abbrev zK_a:Ty:=.pair t183 .unit
abbrev zK_r:Ty:=.pair t57 .unit
def zK_g:G:={ T:=T,E:=[zT_e],muts:=[],fz:=[] }
def zK_k:List (List Nat):=[]
def yYz(n:Nat):Ann:={ keep:=zK_k,fuel:=n,inl:=[],deep:=0 }
def zK_m(n:Nat)(m:List (List (Q4))):Option ((Q4)×Unit):=
  (Option.bind (yO (8:Nat) (m,(0:Int),(0:Int),())) λ v0=>some ((v0.1.1,v0.1.2.1,()),()))
theorem ycl(n:Nat)(x:zK_a.den):runF zK_g (yYz n) Tryz.f123 zK_a zK_r x=zK_m n x.1:=by kernel_rfl
def zK_M(m:List (List (Q4))):Option ((Q4)×Unit):=zK_m 0 m
theorem yZm(m:List (List (Q4)))(y:(Q4)×Unit)(h:zK_M m=some y):∃ n,zK_m n m=some y:=⟨0,h⟩
def zK_e:Entry:={ f:=123,args:=zK_a,ress:=zK_r,m:=λ x=>zK_M x.1 }
theorem yMt:FnOK Tryz.prog zK_e:=yL (g:=zK_g) (fn:=Tryz.f123) yC yK (yA ydh eNil) (by kernel_rfl) (by kernel_rfl) (by kernel_rfl) (λ x y h=>let ⟨n,hn⟩:=yZm x.1 y h;⟨yYz n,iNil,(ycl n x).trans hn⟩)
abbrev yRZ:Ty:=.pair t3 (.pair t3 .unit)
abbrev yVv:Ty:=.pair t69 .unit
def yYo:G:={ T:=T,E:=[z0N_e],muts:=[],fz:=[] }
def ydq:List (List Nat):=[]
def yOo(n:Nat):Ann:={ keep:=ydq,fuel:=n,inl:=[],deep:=0 }
def yQC(n:Nat)(num:Int)(den:Int):Option ((Q4)×Unit):=
  (Option.bind (yDr den [num]) λ v0=>(bif v0.1==0 then none else (bif v0.1==0 then none else some ((IntKind.i64.wrap (num.tdiv v0.1),IntKind.i64.wrap (den.tdiv v0.1),()),()))))
theorem yVT(n:Nat)(x:yRZ.den):runF yYo (yOo n) Tryz.f127 yRZ yVv x=yQC n x.1 x.2.1:=by kernel_rfl
def yHN(num:Int)(den:Int):Option ((Q4)×Unit):=yQC 0 num den
theorem yQv(num:Int)(den:Int)(y:(Q4)×Unit)(h:yHN num den=some y):∃ n,yQC n num den=some y:=⟨0,h⟩
def z14_e:Entry:={ f:=127,args:=yRZ,ress:=yVv,m:=λ x=>yHN x.1 x.2.1 }
theorem yIF:FnOK Tryz.prog z14_e:=yL (g:=yYo) (fn:=Tryz.f127) yC yK (yA yOZ eNil) (by kernel_rfl) (by kernel_rfl) (by kernel_rfl) (λ x y h=>let ⟨n,hn⟩:=yQv x.1 x.2.1 y h;⟨yOo n,iNil,(yVT n x).trans hn⟩)
abbrev yS3:Ty:=.pair t41 (.pair t126 (.pair t126 .unit))
abbrev yYY:Ty:=.pair t57 .unit
def yVj:G:={ T:=T,E:=[zq_e,zp_e,z0V_e,z0s_e],muts:=[],fz:=[] }
def ycs:List (List Nat):=[[0,4,5,6,7,8]]
def yPd(n:Nat):Ann:={ keep:=ycs,fuel:=n,inl:=[],deep:=0 }
def yFT(n:Nat)(r0:List Int->Q3->Q3->Int->Int->Int->Int->Int->Option ((Q4)×Unit))(ac:List Int)(aM:Q3)(aN:Q3)(aX:Int)(aw:Int)(ax:Int)(aq:Int)(ar:Int):Option ((Q4)×Unit):=
  (bif decide (aX < (↑ac.length:Int))then (Option.bind (idx ac aX) λ v1=>(Option.bind (zq_M aM v1) λ v2=>(Option.bind (idx ac aX) λ v3=>(Option.bind (zq_M aN v3) λ v4=>r0 ac aM aN (IntKind.i64.wrap (aX+1)) aw ax (z0s (aq,ar,()) (z0V (zp v2.1).1 v4.1).1).1.1 (z0s (aq,ar,()) (z0V (zp v2.1).1 v4.1).1).1.2.1))))else some ((aq,ar,()),()))
def y70(n:Nat)(k:Nat)(ac:List Int)(aM:Q3)(aN:Q3)(aX:Int)(aw:Int)(ax:Int)(aq:Int)(ar:Int):Option ((Q4)×Unit):=
  iter (λ r y=>yFT n (λ ac aM aN aX aw ax aq ar=>r ((ac,(aM,(aN,(aX,())))),(((aw,(ax,())),((aq,(ar,())),())),()))) y.1.1 y.1.2.1 y.1.2.2.1 y.1.2.2.2.1 y.2.1.1.1 y.2.1.1.2.1 y.2.1.2.1.1 y.2.1.2.1.2.1) k ((ac,(aM,(aN,(aX,())))),(((aw,(ax,())),((aq,(ar,())),())),()))
def yLk(n:Nat)(ticks:List Int)(a:Q3)(b:Q3):Option ((Q4)×Unit):=
  (y70 n n (ticks) (a) (b) ((0:Int)) ((0:Int)) ((0:Int)) ((0:Int)) ((0:Int)))
theorem yaB(n:Nat)(x:yS3.den):runF yVj (yPd n) Tryz.f149 yS3 yYY x=yLk n x.1 x.2.1 x.2.2.1:=by kernel_rfl
def y9m(ac:List Int)(aM:Q3)(aN:Q3)(aw:Int)(ax:Int)(aX:Int)(v1:Int)(aq:Int)(ar:Int):Option (((Q4)×Unit)⊕(Int×Int)):=
  (Option.bind (zq_M aM v1) λ v2=>(Option.bind (idx ac aX) λ v3=>(Option.bind (zq_M aN v3) λ v4=>(some (Sum.inr (((z0s (aq,ar,()) (z0V (zp v2.1).1 v4.1).1).1.1),((z0s (aq,ar,()) (z0V (zp v2.1).1 v4.1).1).1.2.1)))))))
def yF5(ac:List Int)(aM:Q3)(aN:Q3)(aw:Int)(ax:Int)(aq:Int)(ar:Int):Option ((Q4)×Unit):=
  (some (((aq,ar,()),())))
theorem yED(n:Nat)(hn:big<=n)(ac:List Int)(aM:Q3)(aN:Q3)(aw:Int)(ax:Int)(aq:Int)(ar:Int)(hx:List.length (ac) < lenMax):LeF some (yP (λ ae aL aa=>y9m ac aM aN aw ax ae aL aa.1 aa.2) (λ aa=>yF5 ac aM aN aw ax aa.1 aa.2) 0 (ac) (aq,ar)) (y70 n n ac aM aN 0 aw ax aq ar):=by
  refine yS (f:=some) (W:=λ aD ae aa=>y70 n aD ac aM aN ae aw ax aa.1 aa.2) (body:=(λ ae aL aa=>y9m ac aM aN aw ax ae aL aa.1 aa.2)) (fin:=(λ aa=>yF5 ac aM aN aw ax aa.1 aa.2)) (λ aD ae aa=>?_) hx (aq,ar) n (by unfold big at hn;unfold lenMax at hx;omega)
  show LeF _ _ (yFT n (y70 n aD) ac aM aN ae aw ax aa.1 aa.2)
  exact y5 (y8 λ v1=>(y8 λ v2=>(y8 λ v3=>(y8 λ v4=>(y6 rfl))))) (yp (y6 rfl))
def y8t(ticks:List Int)(a:Q3)(b:Q3):Option ((Q4)×Unit):=
  (bif decide (List.length (ticks) < lenMax)then yP (λ ae aL aa=>y9m (ticks) (a) (b) ((0:Int)) ((0:Int)) ae aL aa.1 aa.2) (λ aa=>yF5 (ticks) (a) (b) ((0:Int)) ((0:Int)) aa.1 aa.2) 0 (ticks) (((0:Int)),((0:Int)))else none)
theorem ySb(ticks:List Int)(a:Q3)(b:Q3)(y:(Q4)×Unit)(h:y8t ticks a b=some y):∃ n,yLk n ticks a b=some y:=
  ⟨big,LeF.top (show LeF some (y8t ticks a b) (yLk big ticks a b)from (λ (n:Nat) (hn:big<=n)=>show LeF some (y8t ticks a b) (yLk n ticks a b)from (yM λ hx=>by apply yED n hn;exact hx)) big (Nat.le_refl _)) h⟩
def z0Z_e:Entry:={ f:=149,args:=yS3,ress:=yYY,m:=λ x=>y8t x.1 x.2.1 x.2.2.1 }
theorem yOU:FnOK Tryz.prog z0Z_e:=yL (g:=yVj) (fn:=Tryz.f149) yC yK (yA ydJ (yA ydG (yA yPb (yA yOg eNil)))) (by kernel_rfl) (by kernel_rfl) (by kernel_rfl) (λ x y h=>let ⟨n,hn⟩:=ySb x.1 x.2.1 x.2.2.1 y h;⟨yPd n,iNil,(yaB n x).trans hn⟩)
abbrev yQL:Ty:=.pair t35 (.pair t61 .unit)
abbrev yV7:Ty:=.pair t41 (.pair t28 .unit)
def yai:G:={ T:=T,E:=[zI_e,za_e,z11_e],muts:=[7],fz:=[] }
def ybF:List (List Nat):=[[0,1,7,8,9]]
def yOF(n:Nat):Ann:={ keep:=ybF,fuel:=n,inl:=[],deep:=0 }
def yMd(n:Nat)(r2:List Nat->Nat->Int->Int->List Int->Option (List Int×Int×Unit))(aV:List Nat)(af:Nat)(aF:Int)(aU:Int)(ah:List Int):Option (List Int×Int×Unit):=
  (bif decide (aU < (↑aV.length:Int))then (Option.bind (idx aV aU) λ v3=>(Option.bind (idx aV (IntKind.i64.wrap (aU - (1:Int)))) λ v4=>(bif yr Go.BinOp.gtr Go.FloatKind.f32 (y09 Go.BinOp.mul Go.FloatKind.f32 af (y09 Go.BinOp.sub Go.FloatKind.f32 v3 v4)) (nat_lit 0)then r2 aV af aU (IntKind.i64.wrap (aU+1)) ah else (bif yr Go.BinOp.lss Go.FloatKind.f32 (y09 Go.BinOp.mul Go.FloatKind.f32 af (y09 Go.BinOp.sub Go.FloatKind.f32 v3 v4)) (nat_lit 0)then (bif decide (aF >= 0)then (bif decide (ah.length+(1:Nat)<=memMax)then r2 aV af (-1:Int) (IntKind.i64.wrap (aU+1)) (ah++[aF])else none)else r2 aV af (-1:Int) (IntKind.i64.wrap (aU+1)) ah)else r2 aV af aF (IntKind.i64.wrap (aU+1)) ah))))else some (ah,(0:Int),()))
def yLh(n:Nat)(k:Nat)(aV:List Nat)(af:Nat)(aF:Int)(aU:Int)(ah:List Int):Option (List Int×Int×Unit):=
  iter (λ r y=>yMd n (λ aV af aF aU ah=>r ((aV,(af,(aF,(aU,())))),((ah,()),()))) y.1.1 y.1.2.1 y.1.2.2.1 y.1.2.2.2.1 y.2.1.1) k ((aV,(af,(aF,(aU,())))),((ah,()),()))
def yQJ(n:Nat)(l:List Nat)(direction:Nat):Option (List Int×Int×Unit):=
  (bif decide ((↑l.length:Int) > 4096)then some ([],(5:Int),())else (Option.bind (zI_M l λ (x:Nat×Unit)=>za_M x.1) λ v0=>(Option.bind (y2H v0.1) λ v1=>(bif v1.1 != 0 then some ([],v1.1,())else (yLh n n (l) (direction) ((-1:Int)) ((1:Int)) ([]))))))
theorem yZ1(n:Nat)(x:yQL.den):runF yai (yOF n) Tryz.f154 yQL yV7 x=yQJ n x.1 x.2.1:=by kernel_rfl
def yMw(l:List Nat)(direction:Nat):Option (List Int×Int×Unit):=yQJ 1000 l direction
theorem yTq(l:List Nat)(direction:Nat)(y:List Int×Int×Unit)(h:yMw l direction=some y):∃ n,yQJ n l direction=some y:=⟨1000,h⟩
def z0j_e:Entry:={ f:=154,args:=yQL,ress:=yV7,m:=λ x=>yMw x.1 x.2.1 }
theorem yPH:FnOK Tryz.prog z0j_e:=yL (g:=yai) (fn:=Tryz.f154) yC yK (yA ydT (yA yXW (yA y4X eNil))) (by kernel_rfl) (by kernel_rfl) (by kernel_rfl) (λ x y h=>let ⟨n,hn⟩:=yTq x.1 x.2.1 y h;⟨yOF n,iNil,(yZ1 n x).trans hn⟩)
abbrev zM_a:Ty:=.pair t55 .unit
abbrev zM_r:Ty:=.pair t28 .unit
def zM_g:G:={ T:=T,E:=[z0B_e,z1F_e,z0k_e,z11_e],muts:=[],fz:=[] }
def zM_k:List (List Nat):=[]
def yX4(n:Nat):Ann:={ keep:=zM_k,fuel:=n,inl:=[],deep:=0 }
def zM_m(n:Nat)(c:Q3):Option (Int×Unit):=
  (Option.bind (yC6 c.1) λ v0=>(Option.bind (y2H [(z1F (!v0.1) (8:Int)).1,(z0k c.2.1 (1:Int) (96:Int)).1,(z0k c.2.2.1 (0:Int) (3:Int)).1]) λ v1=>some (v1.1,())))
theorem ybB(n:Nat)(x:zM_a.den):runF zM_g (yX4 n) Tryz.f160 zM_a zM_r x=zM_m n x.1:=by kernel_rfl
def zM_M(c:Q3):Option (Int×Unit):=zM_m 0 c
theorem yUW(c:Q3)(y:Int×Unit)(h:zM_M c=some y):∃ n,zM_m n c=some y:=⟨0,h⟩
def zM_e:Entry:={ f:=160,args:=zM_a,ress:=zM_r,m:=λ x=>zM_M x.1 }
theorem ycU:FnOK Tryz.prog zM_e:=yL (g:=zM_g) (fn:=Tryz.f160) yC yK (yA yOe (yA y6G (yA yBX (yA y4X eNil)))) (by kernel_rfl) (by kernel_rfl) (by kernel_rfl) (λ x y h=>let ⟨n,hn⟩:=yUW x.1 y h;⟨yX4 n,iNil,(ybB n x).trans hn⟩)
abbrev ySO:Ty:=.pair t55 (.pair (.ref t60) (.pair (.ref t31) (.pair (.ref t3) .unit)))
abbrev yW4:Ty:=.pair t57 .unit
def yWN:G:={ T:=T,E:=[z12_e],muts:=[],fz:=[] }
def ye0:List (List Nat):=[]
def yP5(n:Nat):Ann:={ keep:=ye0,fuel:=n,inl:=[],deep:=0 }
def ySr(n:Nat)(c:Q3)(p1:Q1)(p2:List (Q3))(p3:Int):Option ((Q4)×Unit):=
  (Option.bind (idx p2 p3) λ v0=>(Option.bind (y8d p1 c v0) λ v1=>some ((v1.1.1,v1.1.2.1,()),())))
theorem yaJ(n:Nat)(x:ySO.den):runF yWN (yP5 n) Tryz.f163 ySO yW4 x=ySr n x.1 x.2.1 x.2.2.1 x.2.2.2.1:=by kernel_rfl
def yN7(c:Q3)(p1:Q1)(p2:List (Q3))(p3:Int):Option ((Q4)×Unit):=ySr 0 c p1 p2 p3
theorem yTO(c:Q3)(p1:Q1)(p2:List (Q3))(p3:Int)(y:(Q4)×Unit)(h:yN7 c p1 p2 p3=some y):∃ n,ySr n c p1 p2 p3=some y:=⟨0,h⟩
def z07_e:Entry:={ f:=163,args:=ySO,ress:=yW4,m:=λ x=>yN7 x.1 x.2.1 x.2.2.1 x.2.2.2.1 }
theorem yZd:FnOK Tryz.prog z07_e:=yL (g:=yWN) (fn:=Tryz.f163) yC yK (yA yK1 eNil) (by kernel_rfl) (by kernel_rfl) (by kernel_rfl) (λ x y h=>let ⟨n,hn⟩:=yTO x.1 x.2.1 x.2.2.1 x.2.2.2.1 y h;⟨yP5 n,iNil,(yaJ n x).trans hn⟩)
abbrev yT8:Ty:=.pair t210 (.pair t3 .unit)
abbrev yUv:Ty:=.pair t4 .unit
def yWW:G:={ T:=T,E:=[z1G_e],muts:=[],fz:=[] }
def ye3:List (List Nat):=[]
def yPT(n:Nat):Ann:={ keep:=ye3,fuel:=n,inl:=[],deep:=0 }
def yN6(n:Nat)(f:Nat)(sign:Int):Option (Bool×Unit):=
  (bif sign==0 then (Option.bind (absM f) λ v0=>some (yr Go.BinOp.gtr Go.FloatKind.f64 v0.1 (nat_lit 9218868437227405311),()))else (bif decide (sign < 0)then some (yr Go.BinOp.gtr Go.FloatKind.f64 (yF3 Go.FloatKind.f64 f) (nat_lit 9218868437227405311),())else some (yr Go.BinOp.gtr Go.FloatKind.f64 f (nat_lit 9218868437227405311),())))
theorem yam(n:Nat)(x:yT8.den):runF yWW (yPT n) Tryz.f172 yT8 yUv x=yN6 n x.1 x.2.1:=by kernel_rfl
def yKU(f:Nat)(sign:Int):Option (Bool×Unit):=yN6 0 f sign
theorem yQe(f:Nat)(sign:Int)(y:Bool×Unit)(h:yKU f sign=some y):∃ n,yN6 n f sign=some y:=⟨0,h⟩
def z0q_e:Entry:={ f:=172,args:=yT8,ress:=yUv,m:=λ x=>yKU x.1 x.2.1 }
theorem yY6:FnOK Tryz.prog z0q_e:=yL (g:=yWW) (fn:=Tryz.f172) yC yK (yA yXp eNil) (by kernel_rfl) (by kernel_rfl) (by kernel_rfl) (λ x y h=>let ⟨n,hn⟩:=yQe x.1 x.2.1 y h;⟨yPT n,iNil,(yam n x).trans hn⟩)
abbrev zv_a:Ty:=.pair t55 (.pair (.ref t60) (.pair (.ref t55) .unit))
abbrev zv_r:Ty:=.pair t57 .unit
def zv_g:G:={ T:=T,E:=[z12_e],muts:=[],fz:=[] }
def zv_k:List (List Nat):=[]
def yZC(n:Nat):Ann:={ keep:=zv_k,fuel:=n,inl:=[],deep:=0 }
def zv_m(n:Nat)(b:Q3)(p1:Q1)(p2:Q3):Option ((Q4)×Unit):=
  (Option.bind (y8d p1 p2 b) λ v0=>some ((v0.1.1,v0.1.2.1,()),()))
theorem yds(n:Nat)(x:zv_a.den):runF zv_g (yZC n) Tryz.f193 zv_a zv_r x=zv_m n x.1 x.2.1 x.2.2.1:=by kernel_rfl
def zv_M(b:Q3)(p1:Q1)(p2:Q3):Option ((Q4)×Unit):=zv_m 0 b p1 p2
theorem yZf(b:Q3)(p1:Q1)(p2:Q3)(y:(Q4)×Unit)(h:zv_M b p1 p2=some y):∃ n,zv_m n b p1 p2=some y:=⟨0,h⟩
def zv_e:Entry:={ f:=193,args:=zv_a,ress:=zv_r,m:=λ x=>zv_M x.1 x.2.1 x.2.2.1 }
theorem yd7:FnOK Tryz.prog zv_e:=yL (g:=zv_g) (fn:=Tryz.f193) yC yK (yA yK1 eNil) (by kernel_rfl) (by kernel_rfl) (by kernel_rfl) (λ x y h=>let ⟨n,hn⟩:=yZf x.1 x.2.1 x.2.2.1 y h;⟨yZC n,iNil,(yds n x).trans hn⟩)
abbrev zV_a:Ty:=.pair t35 .unit
abbrev zV_r:Ty:=.pair t28 .unit
def zV_g:G:={ T:=T,E:=[za_e],muts:=[],fz:=[] }
def zV_k:List (List Nat):=[[3,6,7,8]]
def yWy(n:Nat):Ann:={ keep:=zV_k,fuel:=n,inl:=[],deep:=0 }
def yJe(n:Nat)(r0:Int->List Nat->Int->Int->Option (Int×Unit))(am:Int)(aH:List Nat)(aB:Int)(aQ:Int):Option (Int×Unit):=
  (bif decide (aQ < aB)then (Option.bind (idx aH aQ) λ v1=>(Option.bind (za_M v1) λ v2=>(bif v2.1 != 0 then some (v2.1,())else r0 v2.1 aH aB (IntKind.i64.wrap (aQ+1)))))else some (am,()))
def yBB(n:Nat)(k:Nat)(am:Int)(aH:List Nat)(aB:Int)(aQ:Int):Option (Int×Unit):=
  iter (λ r y=>yJe n (λ am aH aB aQ=>r ((am,(aH,(aB,(aQ,())))),((),()))) y.1.1 y.1.2.1 y.1.2.2.1 y.1.2.2.2.1) k ((am,(aH,(aB,(aQ,())))),((),()))
def zV_m(n:Nat)(l:List Nat):Option (Int×Unit):=
  (yBB n n ((0:Int)) (l) ((↑l.length:Int)) ((0:Int)))
theorem ybZ(n:Nat)(x:zV_a.den):runF zV_g (yWy n) Tryz.f202 zV_a zV_r x=zV_m n x.1:=by kernel_rfl
def yJY(aH:List Nat)(aQ:Int)(v1:Nat)(am:Int):Option ((Int×Unit)⊕(Int)):=
  (Option.bind (za_M v1) λ v2=>(bif v2.1 != 0 then (some (Sum.inl ((v2.1,()))))else (some (Sum.inr (v2.1)))))
def yLb(aH:List Nat)(am:Int):Option (Int×Unit):=
  (some ((am,())))
theorem yHx(n:Nat)(hn:big<=n)(aH:List Nat)(am:Int)(hx:List.length (aH) < lenMax):LeF some (yP (λ ae aL aa=>yJY aH ae aL aa) (λ aa=>yLb aH aa) 0 (aH) am) (yBB n n am aH (List.length (aH):Int) 0):=by
  refine yS (f:=some) (W:=λ aD ae aa=>yBB n aD aa aH (List.length (aH):Int) ae) (body:=(λ ae aL aa=>yJY aH ae aL aa)) (fin:=(λ aa=>yLb aH aa)) (λ aD ae aa=>?_) hx am n (by unfold big at hn;unfold lenMax at hx;omega)
  show LeF _ _ (yJe n (yBB n aD) aa aH (List.length (aH):Int) ae)
  exact y5 (y8 λ v1=>(y8 λ v2=>(y5 (y6 rfl) (y6 rfl)))) (yp (y6 rfl))
def zV_M(l:List Nat):Option (Int×Unit):=
  (bif decide (List.length (l) < lenMax)then yP (λ ae aL aa=>yJY (l) ae aL aa) (λ aa=>yLb (l) aa) 0 (l) ((0:Int))else none)
theorem yaf(l:List Nat)(y:Int×Unit)(h:zV_M l=some y):∃ n,zV_m n l=some y:=
  ⟨big,LeF.top (show LeF some (zV_M l) (zV_m big l)from (λ (n:Nat) (hn:big<=n)=>show LeF some (zV_M l) (zV_m n l)from (yM λ hx=>by apply yHx n hn;exact hx)) big (Nat.le_refl _)) h⟩
def zV_e:Entry:={ f:=202,args:=zV_a,ress:=zV_r,m:=λ x=>zV_M x.1 }
theorem yck:FnOK Tryz.prog zV_e:=yL (g:=zV_g) (fn:=Tryz.f202) yC yK (yA yXW eNil) (by kernel_rfl) (by kernel_rfl) (by kernel_rfl) (λ x y h=>let ⟨n,hn⟩:=yaf x.1 y h;⟨yWy n,iNil,(ybZ n x).trans hn⟩)
abbrev zb_a:Ty:=.pair t58 .unit
abbrev zb_r:Ty:=.pair t28 .unit
def zb_g:G:={ T:=T,E:=[zm_e,z0l_e,z0R_e],muts:=[],fz:=[] }
def zb_k:List (List Nat):=[[0,9,10,11]]
def ya3(n:Nat):Ann:={ keep:=zb_k,fuel:=n,inl:=[],deep:=0 }
def yKK(n:Nat)(r0:List (Q4)->List (Q4)->Int->Int->Option (Int×Unit))(aj:List (Q4))(av:List (Q4))(aW:Int)(aA:Int):Option (Int×Unit):=
  (bif decide (aA < aW)then (Option.bind (idx av aA) λ v1=>(bif decide (aA > 0)then (Option.bind (idx aj (if Bool.true=Bool.true then if IntKind.i64.wrap (aA - (1:Int)) > 0 then IntKind.i64.wrap (aA - (1:Int))else (0:Int)else if IntKind.i64.wrap (aA - (1:Int)) < 0 then IntKind.i64.wrap (aA - (1:Int))else (0:Int))) λ v2=>(Option.bind (y6W [(zm (v1.1,v1.2.1,())).1,(z0l (decide (v1.1<=v2.2.1)) (11:Int)).1]) λ v3=>(bif v3.1 != 0 then some (v3.1,())else r0 aj av aW (IntKind.i64.wrap (aA+1)))))else (Option.bind (y6W [(zm (v1.1,v1.2.1,())).1,(z0l Bool.false (11:Int)).1]) λ v4=>(bif v4.1 != 0 then some (v4.1,())else r0 aj av aW (IntKind.i64.wrap (aA+1))))))else some ((0:Int),()))
def yAL(n:Nat)(k:Nat)(aj:List (Q4))(av:List (Q4))(aW:Int)(aA:Int):Option (Int×Unit):=
  iter (λ r y=>yKK n (λ aj av aW aA=>r ((aj,(av,(aW,(aA,())))),((),()))) y.1.1 y.1.2.1 y.1.2.2.1 y.1.2.2.2.1) k ((aj,(av,(aW,(aA,())))),((),()))
def zb_m(n:Nat)(l:List (Q4)):Option (Int×Unit):=
  (bif decide ((↑l.length:Int) > 2048)then some ((5:Int),())else (yAL n n (l) (l) ((↑l.length:Int)) ((0:Int))))
theorem ydO(n:Nat)(x:zb_a.den):runF zb_g (ya3 n) Tryz.f203 zb_a zb_r x=zb_m n x.1:=by kernel_rfl
def yKI(aj:List (Q4))(av:List (Q4))(aA:Int)(v1:Q4):Option ((Int×Unit)⊕Unit):=
  (bif decide (aA > 0)then (Option.bind (idx aj (if Bool.true=Bool.true then if IntKind.i64.wrap (aA - (1:Int)) > 0 then IntKind.i64.wrap (aA - (1:Int))else (0:Int)else if IntKind.i64.wrap (aA - (1:Int)) < 0 then IntKind.i64.wrap (aA - (1:Int))else (0:Int))) λ v2=>(Option.bind (y6W [(zm (v1.1,v1.2.1,())).1,(z0l (decide (v1.1<=v2.2.1)) (11:Int)).1]) λ v3=>(bif v3.1 != 0 then (some (Sum.inl ((v3.1,()))))else (some (Sum.inr ())))))else (Option.bind (y6W [(zm (v1.1,v1.2.1,())).1,(z0l Bool.false (11:Int)).1]) λ v4=>(bif v4.1 != 0 then (some (Sum.inl ((v4.1,()))))else (some (Sum.inr ())))))
def yNo(aj:List (Q4))(av:List (Q4)):Option (Int×Unit):=
  (some (((0:Int),())))
theorem yHC(n:Nat)(hn:big<=n)(aj:List (Q4))(av:List (Q4))(hx:List.length (av) < lenMax):LeF some (yP (λ ae aL aa=>yKI aj av ae aL) (λ aa=>yNo aj av) 0 (av) ()) (yAL n n aj av (List.length (av):Int) 0):=by
  refine yS (f:=some) (W:=λ aD ae aa=>yAL n aD aj av (List.length (av):Int) ae) (body:=(λ ae aL aa=>yKI aj av ae aL)) (fin:=(λ aa=>yNo aj av)) (λ aD ae aa=>?_) hx () n (by unfold big at hn;unfold lenMax at hx;omega)
  show LeF _ _ (yKK n (yAL n aD) aj av (List.length (av):Int) ae)
  exact y5 (y8 λ v1=>(y5 (y8 λ v2=>(y8 λ v3=>(y5 (y6 rfl) (y6 rfl)))) (y8 λ v4=>(y5 (y6 rfl) (y6 rfl))))) (yp (y6 rfl))
def zb_M(l:List (Q4)):Option (Int×Unit):=
  (bif decide ((↑l.length:Int) > 2048)then (some (((5:Int),())))else (bif decide (List.length (l) < lenMax)then yP (λ ae aL aa=>yKI (l) (l) ae aL) (λ aa=>yNo (l) (l)) 0 (l) ()else none))
theorem yVX(l:List (Q4))(y:Int×Unit)(h:zb_M l=some y):∃ n,zb_m n l=some y:=
  ⟨big,LeF.top (show LeF some (zb_M l) (zb_m big l)from (λ (n:Nat) (hn:big<=n)=>show LeF some (zb_M l) (zb_m n l)from (y5 (y6 rfl) (yM λ hx=>by apply yHC n hn;exact hx))) big (Nat.le_refl _)) h⟩
def zb_e:Entry:={ f:=203,args:=zb_a,ress:=zb_r,m:=λ x=>zb_M x.1 }
theorem ycO:FnOK Tryz.prog zb_e:=yL (g:=zb_g) (fn:=Tryz.f203) yC yK (yA yco (yA yBM (yA yOb eNil))) (by kernel_rfl) (by kernel_rfl) (by kernel_rfl) (λ x y h=>let ⟨n,hn⟩:=yVX x.1 y h;⟨ya3 n,iNil,(ydO n x).trans hn⟩)
abbrev zQ_a:Ty:=.pair t63 (.pair (.ref t60) .unit)
abbrev zQ_r:Ty:=.pair t4 .unit
def zQ_g:G:={ T:=T,E:=[zC_e,zO_e],muts:=[],fz:=[] }
def zQ_k:List (List Nat):=[]
def yZA(n:Nat):Ann:={ keep:=zQ_k,fuel:=n,inl:=[],deep:=0 }
def zQ_m(n:Nat)(s:Q4)(p1:Q1):Option (Bool×Unit):=
  (bif decide ((0:Int)<=s.1) && decide (s.1<=s.2.1) && decide (s.2.1<=(↑p1.2.2.1.length:Int))then (Option.bind (zC_M (List.drop s.1.toNat (List.take s.2.1.toNat p1.2.2.1)) λ (x:Nat×Unit)=>zO_M x.1) λ v0=>some (v0.1,()))else none)
theorem ybr(n:Nat)(x:zQ_a.den):runF zQ_g (yZA n) Tryz.f206 zQ_a zQ_r x=zQ_m n x.1 x.2.1:=by kernel_rfl
def zQ_M(s:Q4)(p1:Q1):Option (Bool×Unit):=zQ_m 0 s p1
theorem yVB(s:Q4)(p1:Q1)(y:Bool×Unit)(h:zQ_M s p1=some y):∃ n,zQ_m n s p1=some y:=⟨0,h⟩
def zQ_e:Entry:={ f:=206,args:=zQ_a,ress:=zQ_r,m:=λ x=>zQ_M x.1 x.2.1 }
theorem yci:FnOK Tryz.prog zQ_e:=yL (g:=zQ_g) (fn:=Tryz.f206) yC yK (yA ydE (yA ycF eNil)) (by kernel_rfl) (by kernel_rfl) (by kernel_rfl) (λ x y h=>let ⟨n,hn⟩:=yVB x.1 x.2.1 y h;⟨yZA n,iNil,(ybr n x).trans hn⟩)
end
end Go.Tw
end
section
set_option maxRecDepth 1000000
namespace Go.Tw
open Go.Vx Go.Vx.B Go.Proofs
noncomputable section
abbrev yRf:Ty:=.pair t94 (.pair t22 .unit)
abbrev yXK:Ty:=.pair t96 .unit
def yY5:G:={ T:=T,E:=[z0Y_e,z0Z_e],muts:=[5,8],fz:=[] }
def ydL:List (List Nat):=[[1,5,6,7],[1,5,6,7,8,9]]
def yPS(n:Nat):Ann:={ keep:=ydL,fuel:=n,inl:=[],deep:=0 }
def yFn(n:Nat)(r1:List (Q3)->List Int->Int->List (List (Q4))->Option (List (List (Q4))×Unit))(r2:List (Q3)->List Int->Int->Int->List (List (Q4))->List (Q4)->Option (List (List (Q4))×Unit))(ai:List (Q3))(a7:List Int)(al:Int)(b6:Int)(ah:List (List (Q4)))(aP:List (Q4)):Option (List (List (Q4))×Unit):=
  (bif decide (b6 < (↑ai.length:Int))then (Option.bind (idx ai al) λ v3=>(Option.bind (idx ai b6) λ v4=>(Option.bind (y8t a7 v3 v4) λ v5=>(bif decide (aP.length+(1:Nat)<=memMax)then r2 ai a7 al (IntKind.i64.wrap (b6+1)) ah (aP++[v5.1])else none))))else (bif decide (ah.length+(1:Nat)<=memMax)then r1 ai a7 (IntKind.i64.wrap (al+1)) (ah++[aP])else none))
def y79(n:Nat)(r1:List (Q3)->List Int->Int->List (List (Q4))->Option (List (List (Q4))×Unit))(k:Nat)(ai:List (Q3))(a7:List Int)(al:Int)(b6:Int)(ah:List (List (Q4)))(aP:List (Q4)):Option (List (List (Q4))×Unit):=
  iter (λ r y=>yFn n r1 (λ ai a7 al b6 ah aP=>r ((ai,(a7,(al,(b6,())))),((ah,(aP,())),()))) y.1.1 y.1.2.1 y.1.2.2.1 y.1.2.2.2.1 y.2.1.1 y.2.1.2.1) k ((ai,(a7,(al,(b6,())))),((ah,(aP,())),()))
def yFq(n:Nat)(r1:List (Q3)->List Int->Int->List (List (Q4))->Option (List (List (Q4))×Unit))(ak:List (Q3))(a8:List Int)(aI:Int)(ay:List (List (Q4))):Option (List (List (Q4))×Unit):=
  (bif decide (aI < (↑ak.length:Int))then (y79 n r1 n (ak) (a8) (aI) ((0:Int)) (ay) ([]))else some (ay,()))
def y6u(n:Nat)(k:Nat)(ak:List (Q3))(a8:List Int)(aI:Int)(ay:List (List (Q4))):Option (List (List (Q4))×Unit):=
  iter (λ r y=>yFq n (λ ak a8 aI ay=>r ((ak,(a8,(aI,()))),((ay,()),()))) y.1.1 y.1.2.1 y.1.2.2.1 y.2.1.1) k ((ak,(a8,(aI,()))),((ay,()),()))
def yNp(n:Nat)(rp:Q1)(l:List (Q3)):Option (List (List (Q4))×Unit):=
  (Option.bind (y8S rp) λ v0=>(y6u n n (l) (v0.1) ((0:Int)) ([])))
theorem yZp(n:Nat)(x:yRf.den):runF yY5 (yPS n) Tryz.f60 yRf yXK x=yNp n x.1 x.2.1:=by kernel_rfl
def yFZ(ai:List (Q3))(a7:List Int)(al:Int)(ah:List (List (Q4)))(b6:Int)(aP:List (Q4)):Option (((List (List (Q4))×Unit)⊕(List (List (Q4))))⊕(List (Q4))):=
  (Option.bind (idx ai al) λ v3=>(Option.bind (idx ai b6) λ v4=>(Option.bind (y8t a7 v3 v4) λ v5=>(bif decide (aP.length+(1:Nat)<=memMax)then (some (Sum.inr (aP++[v5.1])))else none))))
def yFa(ai:List (Q3))(a7:List Int)(al:Int)(ah:List (List (Q4)))(aP:List (Q4)):Option ((List (List (Q4))×Unit)⊕(List (List (Q4)))):=
  (bif decide (ah.length+(1:Nat)<=memMax)then (some (Sum.inr (ah++[aP])))else none)
theorem yDh(n:Nat)(hn:big<=n)(r1:List (Q3)->List Int->Int->List (List (Q4))->Option (List (List (Q4))×Unit))(ai:List (Q3))(a7:List Int)(al:Int)(ah:List (List (Q4)))(aP:List (Q4))(hx:((↑ai.length:Int))<=9223372036854775807):LeF (elim some λ (aa:(List (List (Q4))))=>r1 ai a7 (IntKind.i64.wrap (al+1)) aa) (y06 (λ ae aa=>yFZ ai a7 al ah ae aa) (λ aa=>yFa ai a7 al ah aa) (((↑ai.length:Int)) - 0).toNat 0 aP) (y79 n r1 n ai a7 al 0 ah aP):=by
  refine y0K (f:=(elim some λ (aa:(List (List (Q4))))=>r1 ai a7 (IntKind.i64.wrap (al+1)) aa)) (W:=λ aD ae aa=>y79 n r1 aD ai a7 al ae ah aa) (body:=(λ ae aa=>yFZ ai a7 al ah ae aa)) (fin:=(λ aa=>yFa ai a7 al ah aa)) (λ aD ae aa=>?_) hx aP n 0 (by decide) (by unfold big at hn;omega)
  show LeF _ _ (yFn n r1 (y79 n r1 aD) ai a7 al ae ah aa)
  exact y5 (y8 λ v3=>(y8 λ v4=>(y8 λ v5=>(y5 (y6 rfl) yy)))) (yp (y5 (y6 rfl) yy))
def yBu(ak:List (Q3))(a8:List Int)(aI:Int)(ay:List (List (Q4))):Option ((List (List (Q4))×Unit)⊕(List (List (Q4)))):=
  (bif decide (((↑ak.length:Int))<=9223372036854775807)then y06 (λ ae aa=>yFZ (ak) (a8) (aI) (ay) ae aa) (λ aa=>yFa (ak) (a8) (aI) (ay) aa) (((↑ak.length:Int)) - 0).toNat 0 ([])else none)
def yEk(ak:List (Q3))(a8:List Int)(ay:List (List (Q4))):Option (List (List (Q4))×Unit):=
  (some ((ay,())))
theorem yE1(n:Nat)(hn:big<=n)(ak:List (Q3))(a8:List Int)(ay:List (List (Q4)))(hx:((↑ak.length:Int))<=9223372036854775807):LeF some (y06 (λ ae aa=>yBu ak a8 ae aa) (λ aa=>yEk ak a8 aa) (((↑ak.length:Int)) - 0).toNat 0 ay) (y6u n n ak a8 0 ay):=by
  refine y0K (f:=some) (W:=λ aD ae aa=>y6u n aD ak a8 ae aa) (body:=(λ ae aa=>yBu ak a8 ae aa)) (fin:=(λ aa=>yEk ak a8 aa)) (λ aD ae aa=>?_) hx ay n 0 (by decide) (by unfold big at hn;omega)
  show LeF _ _ (yFq n (y6u n aD) ak a8 ae aa)
  exact y5 (yM λ hx=>by apply yDh n hn;exact hx) (yp (y6 rfl))
def yDV(rp:Q1)(l:List (Q3)):Option (List (List (Q4))×Unit):=
  (Option.bind (y8S rp) λ v0=>(bif decide (((↑l.length:Int))<=9223372036854775807)then y06 (λ ae aa=>yBu (l) (v0.1) ae aa) (λ aa=>yEk (l) (v0.1) aa) (((↑l.length:Int)) - 0).toNat 0 ([])else none))
theorem ySm(rp:Q1)(l:List (Q3))(y:List (List (Q4))×Unit)(h:yDV rp l=some y):∃ n,yNp n rp l=some y:=
  ⟨big,LeF.top (show LeF some (yDV rp l) (yNp big rp l)from (λ (n:Nat) (hn:big<=n)=>show LeF some (yDV rp l) (yNp n rp l)from (y8 λ v0=>(yM λ hx=>by apply yE1 n hn;exact hx))) big (Nat.le_refl _)) h⟩
def z0H_e:Entry:={ f:=60,args:=yRf,ress:=yXK,m:=λ x=>yDV x.1 x.2.1 }
theorem yO5:FnOK Tryz.prog z0H_e:=yL (g:=yY5) (fn:=Tryz.f60) yC yK (yA yKx (yA yOU eNil)) (by kernel_rfl) (by kernel_rfl) (by kernel_rfl) (λ x y h=>let ⟨n,hn⟩:=ySm x.1 x.2.1 y h;⟨yPS n,iNil,(yZp n x).trans hn⟩)
abbrev yT2:Ty:=.pair t94 (.pair t22 .unit)
abbrev yUC:Ty:=.pair t100 .unit
def yYj:G:={ T:=T,E:=[z0Y_e,z0Z_e,z0G_e],muts:=[5],fz:=[] }
def yd8:List (List Nat):=[[1,5,6,7],[1,5,6,7,8]]
def yOA(n:Nat):Ann:={ keep:=yd8,fuel:=n,inl:=[],deep:=0 }
def yFv(n:Nat)(r1:List (Q3)->List Int->Int->List (List Int)->Option (List (List Int)×Unit))(r2:List (Q3)->List Int->Int->Int->List (List Int)->Option (List (List Int)×Unit))(ai:List (Q3))(a7:List Int)(al:Int)(aJ:Int)(ah:List (List Int)):Option (List (List Int)×Unit):=
  (bif decide (aJ < (↑ai.length:Int))then (Option.bind (idx ai al) λ v3=>(Option.bind (idx ai aJ) λ v4=>(Option.bind (y8t a7 v3 v4) λ v5=>(bif (z0G v5.1).1==IntKind.i64.wrap ((↑a7.length:Int) * (↑a7.length:Int))then (bif decide (ah.length+(1:Nat)<=memMax)then r2 ai a7 al (IntKind.i64.wrap (aJ+1)) (ah++[[al,aJ]])else none)else r2 ai a7 al (IntKind.i64.wrap (aJ+1)) ah))))else r1 ai a7 (IntKind.i64.wrap (al+1)) ah)
def y6y(n:Nat)(r1:List (Q3)->List Int->Int->List (List Int)->Option (List (List Int)×Unit))(k:Nat)(ai:List (Q3))(a7:List Int)(al:Int)(aJ:Int)(ah:List (List Int)):Option (List (List Int)×Unit):=
  iter (λ r y=>yFv n r1 (λ ai a7 al aJ ah=>r ((ai,(a7,(al,(aJ,())))),((ah,()),()))) y.1.1 y.1.2.1 y.1.2.2.1 y.1.2.2.2.1 y.2.1.1) k ((ai,(a7,(al,(aJ,())))),((ah,()),()))
def yEj(n:Nat)(r1:List (Q3)->List Int->Int->List (List Int)->Option (List (List Int)×Unit))(ak:List (Q3))(a8:List Int)(aI:Int)(ay:List (List Int)):Option (List (List Int)×Unit):=
  (bif decide (aI < (↑ak.length:Int))then (y6y n r1 n (ak) (a8) (aI) (IntKind.i64.wrap (aI+1)) (ay))else some (ay,()))
def y6x(n:Nat)(k:Nat)(ak:List (Q3))(a8:List Int)(aI:Int)(ay:List (List Int)):Option (List (List Int)×Unit):=
  iter (λ r y=>yEj n (λ ak a8 aI ay=>r ((ak,(a8,(aI,()))),((ay,()),()))) y.1.1 y.1.2.1 y.1.2.2.1 y.2.1.1) k ((ak,(a8,(aI,()))),((ay,()),()))
def yMK(n:Nat)(rp:Q1)(l:List (Q3)):Option (List (List Int)×Unit):=
  (Option.bind (y8S rp) λ v0=>(y6x n n (l) (v0.1) ((0:Int)) ([])))
theorem yZh(n:Nat)(x:yT2.den):runF yYj (yOA n) Tryz.f63 yT2 yUC x=yMK n x.1 x.2.1:=by kernel_rfl
def y6A(ai:List (Q3))(a7:List Int)(al:Int)(aJ:Int)(ah:List (List Int)):Option (((List (List Int)×Unit)⊕(List (List Int)))⊕(Int×List (List Int))):=
  (bif decide (aJ < (↑ai.length:Int))then (Option.bind (idx ai al) λ v3=>(Option.bind (idx ai aJ) λ v4=>(Option.bind (y8t a7 v3 v4) λ v5=>(bif (z0G v5.1).1==IntKind.i64.wrap ((↑a7.length:Int) * (↑a7.length:Int))then (bif decide (ah.length+(1:Nat)<=memMax)then (some (Sum.inr ((IntKind.i64.wrap (aJ+1)),(ah++[[al,aJ]]))))else none)else (some (Sum.inr ((IntKind.i64.wrap (aJ+1)),(ah))))))))else (some (Sum.inl (Sum.inr (ah)))))
theorem yDW(n:Nat)(hn:big<=n)(r1:List (Q3)->List Int->Int->List (List Int)->Option (List (List Int)×Unit))(ai:List (Q3))(a7:List Int)(al:Int)(aJ:Int)(ah:List (List Int)):LeF (elim some λ (aa:(List (List Int)))=>r1 ai a7 (IntKind.i64.wrap (al+1)) aa) (y2Q (λ aa=>y6A ai a7 al aa.1 aa.2) wMax (aJ,ah)) (y6y n r1 n ai a7 al aJ ah):=by
  refine y4J (f:=(elim some λ (aa:(List (List Int)))=>r1 ai a7 (IntKind.i64.wrap (al+1)) aa)) (W:=λ aD aa=>y6y n r1 aD ai a7 al aa.1 aa.2) (body:=(λ aa=>y6A ai a7 al aa.1 aa.2)) (λ aD aa=>?_) wMax n (aJ,ah) (by unfold big at hn;unfold wMax;omega)
  show LeF _ _ (yFv n r1 (y6y n r1 aD) ai a7 al aa.1 aa.2)
  exact (y5 (y8 λ v3=>(y8 λ v4=>(y8 λ v5=>(y5 (y5 (y6 rfl) yy) (y6 rfl))))) (y6 rfl))
def yCj(ak:List (Q3))(a8:List Int)(aI:Int)(ay:List (List Int)):Option ((List (List Int)×Unit)⊕(List (List Int))):=
  (y2Q (λ aa=>y6A (ak) (a8) (aI) aa.1 aa.2) wMax ((IntKind.i64.wrap (aI+1)),(ay)))
def yFI(ak:List (Q3))(a8:List Int)(ay:List (List Int)):Option (List (List Int)×Unit):=
  (some ((ay,())))
theorem yDM(n:Nat)(hn:big<=n)(ak:List (Q3))(a8:List Int)(ay:List (List Int))(hx:((↑ak.length:Int))<=9223372036854775807):LeF some (y06 (λ ae aa=>yCj ak a8 ae aa) (λ aa=>yFI ak a8 aa) (((↑ak.length:Int)) - 0).toNat 0 ay) (y6x n n ak a8 0 ay):=by
  refine y0K (f:=some) (W:=λ aD ae aa=>y6x n aD ak a8 ae aa) (body:=(λ ae aa=>yCj ak a8 ae aa)) (fin:=(λ aa=>yFI ak a8 aa)) (λ aD ae aa=>?_) hx ay n 0 (by decide) (by unfold big at hn;omega)
  show LeF _ _ (yEj n (y6x n aD) ak a8 ae aa)
  exact y5 (by apply yDW n hn) (yp (y6 rfl))
def yHz(rp:Q1)(l:List (Q3)):Option (List (List Int)×Unit):=
  (Option.bind (y8S rp) λ v0=>(bif decide (((↑l.length:Int))<=9223372036854775807)then y06 (λ ae aa=>yCj (l) (v0.1) ae aa) (λ aa=>yFI (l) (v0.1) aa) (((↑l.length:Int)) - 0).toNat 0 ([])else none))
theorem yST(rp:Q1)(l:List (Q3))(y:List (List Int)×Unit)(h:yHz rp l=some y):∃ n,yMK n rp l=some y:=
  ⟨big,LeF.top (show LeF some (yHz rp l) (yMK big rp l)from (λ (n:Nat) (hn:big<=n)=>show LeF some (yHz rp l) (yMK n rp l)from (y8 λ v0=>(yM λ hx=>by apply yDM n hn;exact hx))) big (Nat.le_refl _)) h⟩
def z0W_e:Entry:={ f:=63,args:=yT2,ress:=yUC,m:=λ x=>yHz x.1 x.2.1 }
theorem yZo:FnOK Tryz.prog z0W_e:=yL (g:=yYj) (fn:=Tryz.f63) yC yK (yA yKx (yA yOU (yA yYv eNil))) (by kernel_rfl) (by kernel_rfl) (by kernel_rfl) (λ x y h=>let ⟨n,hn⟩:=yST x.1 x.2.1 y h;⟨yOA n,iNil,(yZh n x).trans hn⟩)
abbrev yRv:Ty:=.pair t35 .unit
abbrev yUf:Ty:=.pair t41 (.pair t28 .unit)
def yXR:G:={ T:=T,E:=[z0j_e],muts:=[],fz:=[] }
def ych:List (List Nat):=[]
def yPG(n:Nat):Ann:={ keep:=ych,fuel:=n,inl:=[],deep:=0 }
def ySC(n:Nat)(l:List Nat):Option (List Int×Int×Unit):=
  (Option.bind (yMw l (nat_lit 1065353216)) λ v0=>some (v0.1,v0.2.1,()))
theorem yVy(n:Nat)(x:yRv.den):runF yXR (yPG n) Tryz.f71 yRv yUf x=ySC n x.1:=by kernel_rfl
def yTw(l:List Nat):Option (List Int×Int×Unit):=ySC 0 l
theorem yQd(l:List Nat)(y:List Int×Int×Unit)(h:yTw l=some y):∃ n,ySC n l=some y:=⟨0,h⟩
def z0w_e:Entry:={ f:=71,args:=yRv,ress:=yUf,m:=λ x=>yTw x.1 }
theorem yWY:FnOK Tryz.prog z0w_e:=yL (g:=yXR) (fn:=Tryz.f71) yC yK (yA yPH eNil) (by kernel_rfl) (by kernel_rfl) (by kernel_rfl) (λ x y h=>let ⟨n,hn⟩:=yQd x.1 y h;⟨yPG n,iNil,(yVy n x).trans hn⟩)
abbrev ySf:Ty:=.pair t35 .unit
abbrev yWJ:Ty:=.pair t41 (.pair t28 .unit)
def yXP:G:={ T:=T,E:=[z0j_e],muts:=[],fz:=[] }
def ydQ:List (List Nat):=[]
def yO0(n:Nat):Ann:={ keep:=ydQ,fuel:=n,inl:=[],deep:=0 }
def yPy(n:Nat)(l:List Nat):Option (List Int×Int×Unit):=
  (Option.bind (yMw l (nat_lit 3212836864)) λ v0=>some (v0.1,v0.2.1,()))
theorem yZM(n:Nat)(x:ySf.den):runF yXP (yO0 n) Tryz.f72 ySf yWJ x=yPy n x.1:=by kernel_rfl
def yQm(l:List Nat):Option (List Int×Int×Unit):=yPy 0 l
theorem yQa(l:List Nat)(y:List Int×Int×Unit)(h:yQm l=some y):∃ n,yPy n l=some y:=⟨0,h⟩
def z1B_e:Entry:={ f:=72,args:=ySf,ress:=yWJ,m:=λ x=>yQm x.1 }
theorem yUB:FnOK Tryz.prog z1B_e:=yL (g:=yXP) (fn:=Tryz.f72) yC yK (yA yPH eNil) (by kernel_rfl) (by kernel_rfl) (by kernel_rfl) (λ x y h=>let ⟨n,hn⟩:=yQa x.1 y h;⟨yO0 n,iNil,(yZM n x).trans hn⟩)
abbrev zL_a:Ty:=.pair t31 .unit
abbrev zL_r:Ty:=.pair t28 .unit
def zL_g:G:={ T:=T,E:=[z1F_e,z11_e,zM_e],muts:=[21],fz:=[] }
def zL_k:List (List Nat):=[[4,22,23,24]]
def yW2(n:Nat):Ann:={ keep:=zL_k,fuel:=n,inl:=[],deep:=0 }
def yKC(n:Nat)(r1:List (Q3)->Int->Int->List (List UInt8×Bool)->Option (Int×Unit))(au:List (Q3))(aY:Int)(aS:Int)(aR:List (List UInt8×Bool)):Option (Int×Unit):=
  (bif decide (aS < aY)then (Option.bind (idx au aS) λ v2=>(Option.bind (zM_M (v2.1,v2.2.1,v2.2.2.1,())) λ v3=>(Option.bind (y2H [v3.1,(z1F ((y0P Ty.str Ty.bool aR v2.1).getD Bool.false) (9:Int)).1]) λ v4=>(bif v4.1 != 0 then some (v4.1,())else r1 au aY (IntKind.i64.wrap (aS+1)) (y1K Ty.str Ty.bool aR v2.1 Bool.true)))))else some ((0:Int),()))
def yAy(n:Nat)(k:Nat)(au:List (Q3))(aY:Int)(aS:Int)(aR:List (List UInt8×Bool)):Option (Int×Unit):=
  iter (λ r y=>yKC n (λ au aY aS aR=>r ((au,(aY,(aS,()))),((aR,()),()))) y.1.1 y.1.2.1 y.1.2.2.1 y.2.1.1) k ((au,(aY,(aS,()))),((aR,()),()))
def zL_m(n:Nat)(l:List (Q3)):Option (Int×Unit):=
  (Option.bind (y2H [(z1F ((↑l.length:Int)==0) (12:Int)).1,(z1F (decide ((↑l.length:Int) > 4)) (5:Int)).1]) λ v0=>(bif v0.1 != 0 then some (v0.1,())else (yAy n n (l) ((↑l.length:Int)) ((0:Int)) ([]))))
theorem ydt(n:Nat)(x:zL_a.den):runF zL_g (yW2 n) Tryz.f88 zL_a zL_r x=zL_m n x.1:=by kernel_rfl
def yHQ(au:List (Q3))(aS:Int)(v2:Q3)(aR:List (List UInt8×Bool)):Option ((Int×Unit)⊕(List (List UInt8×Bool))):=
  (Option.bind (zM_M (v2.1,v2.2.1,v2.2.2.1,())) λ v3=>(Option.bind (y2H [v3.1,(z1F ((y0P Ty.str Ty.bool aR v2.1).getD Bool.false) (9:Int)).1]) λ v4=>(bif v4.1 != 0 then (some (Sum.inl ((v4.1,()))))else (some (Sum.inr (y1K Ty.str Ty.bool aR v2.1 Bool.true))))))
def yLa(au:List (Q3))(aR:List (List UInt8×Bool)):Option (Int×Unit):=
  (some (((0:Int),())))
theorem yHA(n:Nat)(hn:big<=n)(au:List (Q3))(aR:List (List UInt8×Bool))(hx:List.length (au) < lenMax):LeF some (yP (λ ae aL aa=>yHQ au ae aL aa) (λ aa=>yLa au aa) 0 (au) aR) (yAy n n au (List.length (au):Int) 0 aR):=by
  refine yS (f:=some) (W:=λ aD ae aa=>yAy n aD au (List.length (au):Int) ae aa) (body:=(λ ae aL aa=>yHQ au ae aL aa)) (fin:=(λ aa=>yLa au aa)) (λ aD ae aa=>?_) hx aR n (by unfold big at hn;unfold lenMax at hx;omega)
  show LeF _ _ (yKC n (yAy n aD) au (List.length (au):Int) ae aa)
  exact y5 (y8 λ v2=>(y8 λ v3=>(y8 λ v4=>(y5 (y6 rfl) (y6 rfl))))) (yp (y6 rfl))
def zL_M(l:List (Q3)):Option (Int×Unit):=
  (Option.bind (y2H [(z1F ((↑l.length:Int)==0) (12:Int)).1,(z1F (decide ((↑l.length:Int) > 4)) (5:Int)).1]) λ v0=>(bif v0.1 != 0 then (some ((v0.1,())))else (bif decide (List.length (l) < lenMax)then yP (λ ae aL aa=>yHQ (l) ae aL aa) (λ aa=>yLa (l) aa) 0 (l) ([])else none)))
theorem yVr(l:List (Q3))(y:Int×Unit)(h:zL_M l=some y):∃ n,zL_m n l=some y:=
  ⟨big,LeF.top (show LeF some (zL_M l) (zL_m big l)from (λ (n:Nat) (hn:big<=n)=>show LeF some (zL_M l) (zL_m n l)from (y8 λ v0=>(y5 (y6 rfl) (yM λ hx=>by apply yHA n hn;exact hx)))) big (Nat.le_refl _)) h⟩
def zL_e:Entry:={ f:=88,args:=zL_a,ress:=zL_r,m:=λ x=>zL_M x.1 }
theorem yYk:FnOK Tryz.prog zL_e:=yL (g:=zL_g) (fn:=Tryz.f88) yC yK (yA y6G (yA y4X (yA ycU eNil))) (by kernel_rfl) (by kernel_rfl) (by kernel_rfl) (λ x y h=>let ⟨n,hn⟩:=yVr x.1 y h;⟨yW2 n,iNil,(ydt n x).trans hn⟩)
abbrev zd_a:Ty:=.pair t61 .unit
abbrev zd_r:Ty:=.pair t3 .unit
def zd_g:G:={ T:=T,E:=[z0r_e,z0q_e,z0p_e],muts:=[],fz:=[] }
def zd_k:List (List Nat):=[]
def yZ0(n:Nat):Ann:={ keep:=zd_k,fuel:=n,inl:=[],deep:=0 }
def zd_m(n:Nat)(xp:Nat):Option (Int×Unit):=
  (Option.bind (y1e Go.FloatKind.f32 xp Go.FloatKind.f64) λ v0=>(bif (z0r v0).1 then some ((1:Int),())else (Option.bind (yKU v0 (0:Int)) λ v1=>(bif v1.1 then some ((1:Int),())else (bif yr Go.BinOp.gtr Go.FloatKind.f64 v0 (nat_lit 4634204016564240384)then some ((3:Int),())else (bif yr Go.BinOp.lss Go.FloatKind.f64 v0 (nat_lit 13857576053419016192)then some ((3:Int),())else (Option.bind (y89 (y09 Go.BinOp.mul Go.FloatKind.f64 (nat_lit 4625196817309499392) v0)) λ v4=>(bif yr Go.BinOp.neq Go.FloatKind.f64 (y09 Go.BinOp.mul Go.FloatKind.f64 (nat_lit 4625196817309499392) v0) v4.1 then some ((3:Int),())else some ((0:Int),())))))))))
theorem yc3(n:Nat)(x:zd_a.den):runF zd_g (yZ0 n) Tryz.f96 zd_a zd_r x=zd_m n x.1:=by kernel_rfl
def zd_M(xp:Nat):Option (Int×Unit):=zd_m 0 xp
theorem yYS(xp:Nat)(y:Int×Unit)(h:zd_M xp=some y):∃ n,zd_m n xp=some y:=⟨0,h⟩
def zd_e:Entry:={ f:=96,args:=zd_a,ress:=zd_r,m:=λ x=>zd_M x.1 }
theorem ybf:FnOK Tryz.prog zd_e:=yL (g:=zd_g) (fn:=Tryz.f96) yC yK (yA yUj (yA yY6 (yA yac eNil))) (by kernel_rfl) (by kernel_rfl) (by kernel_rfl) (λ x y h=>let ⟨n,hn⟩:=yYS x.1 y h;⟨yZ0 n,iNil,(yc3 n x).trans hn⟩)
abbrev yQO:Ty:=.pair t31 (.pair t23 (.pair t3 .unit))
abbrev yVQ:Ty:=.pair t33 .unit
def yXw:G:={ T:=T,E:=[z0g_e,z7_e,z05_e,z06_e,zG_e],muts:=[],fz:=[7] }
def ybo:List (List Nat):=[]
def yO4(n:Nat):Ann:={ keep:=ybo,fuel:=n,inl:=[],deep:=0 }
def yR0(n:Nat)(l:List (Q3))(amplitudes:List (Q4))(den:Int):Option ((Q2)×Unit):=
  (Option.bind (yGj amplitudes den) λ v0=>(Option.bind (z7_M l λ (x:(Q3)×Unit)=>yTr x.1) λ v1=>(Option.bind (zG_M amplitudes λ (x:(Q4)×Unit)=>yQW x.1 v0.1) λ v2=>(bif v0.1==0 then none else some ((v1.1,v2.1,IntKind.i64.wrap (den.tdiv v0.1),()),())))))
theorem yYK(n:Nat)(x:yQO.den):runF yXw (yO4 n) Tryz.f121 yQO yVQ x=yR0 n x.1 x.2.1 x.2.2.1:=by kernel_rfl
def yRt(l:List (Q3))(amplitudes:List (Q4))(den:Int):Option ((Q2)×Unit):=yR0 0 l amplitudes den
theorem yS1(l:List (Q3))(amplitudes:List (Q4))(den:Int)(y:(Q2)×Unit)(h:yRt l amplitudes den=some y):∃ n,yR0 n l amplitudes den=some y:=⟨0,h⟩
def z0P_e:Entry:={ f:=121,args:=yQO,ress:=yVQ,m:=λ x=>yRt x.1 x.2.1 x.2.2.1 }
theorem yZc:FnOK Tryz.prog z0P_e:=yL (g:=yXw) (fn:=Tryz.f121) yC yK (yA yO3 (yA ycg (yA yUR (yA yXe (yA yd0 eNil))))) (by kernel_rfl) (by kernel_rfl) (by kernel_rfl) (λ x y h=>let ⟨n,hn⟩:=yS1 x.1 x.2.1 x.2.2.1 y h;⟨yO4 n,iNil,(yYK n x).trans hn⟩)
abbrev yU1:Ty:=.pair t3 .unit
abbrev yXI:Ty:=.pair t69 .unit
def ya0:G:={ T:=T,E:=[z09_e,z14_e],muts:=[],fz:=[] }
def yd1:List (List Nat):=[]
def yPK(n:Nat):Ann:={ keep:=yd1,fuel:=n,inl:=[],deep:=0 }
def yRd(n:Nat)(year:Int):Option ((Q4)×Unit):=
  (Option.bind (yHN (IntKind.i64.wrap ((104:Int) - (z09 (IntKind.i64.wrap (year.tmod (16:Int) - (8:Int)))).1)) (100:Int)) λ v0=>some ((v0.1.1,v0.1.2.1,()),()))
theorem yaq(n:Nat)(x:yU1.den):runF ya0 (yPK n) Tryz.f136 yU1 yXI x=yRd n x.1:=by kernel_rfl
def yTM(year:Int):Option ((Q4)×Unit):=yRd 0 year
theorem yR4(year:Int)(y:(Q4)×Unit)(h:yTM year=some y):∃ n,yRd n year=some y:=⟨0,h⟩
def z13_e:Entry:={ f:=136,args:=yU1,ress:=yXI,m:=λ x=>yTM x.1 }
theorem yV3:FnOK Tryz.prog z13_e:=yL (g:=ya0) (fn:=Tryz.f136) yC yK (yA yCd (yA yIF eNil)) (by kernel_rfl) (by kernel_rfl) (by kernel_rfl) (λ x y h=>let ⟨n,hn⟩:=yR4 x.1 y h;⟨yPK n,iNil,(yaq n x).trans hn⟩)
abbrev zU_a:Ty:=.pair t60 .unit
abbrev zU_r:Ty:=.pair t28 .unit
def zU_g:G:={ T:=T,E:=[z0B_e,z0l_e,z0C_e,z0R_e,zV_e,zb_e,zP_e,zB_e,zQ_e],muts:=[],fz:=[] }
def zU_k:List (List Nat):=[]
def yYG(n:Nat):Ann:={ keep:=zU_k,fuel:=n,inl:=[],deep:=0 }
def zU_m(n:Nat)(rp:Q1):Option (Int×Unit):=
  (Option.bind (yC6 rp.1) λ v0=>(Option.bind (y6W [(z0l (!v0.1) (8:Int)).1,(z0C rp.2.1 (0:Int) (100000:Int)).1,(z0l (decide ((↑rp.2.2.1.length:Int) > 4096)) (5:Int)).1]) λ v1=>(bif v1.1 != 0 then some (v1.1,())else (Option.bind (zV_M rp.2.2.1) λ v2=>(Option.bind (zb_M rp.2.2.2.1) λ v3=>(Option.bind (y6W [v2.1,v3.1]) λ v4=>(bif v4.1 != 0 then some (v4.1,())else (Option.bind (zB_M rp.2.2.2.1 λ (x:(Q4)×Unit)=>zP_M x.1 rp) λ v5=>(bif v5.1 then some ((14:Int),())else (Option.bind (zB_M rp.2.2.2.1 λ (x:(Q4)×Unit)=>zQ_M x.1 rp) λ v6=>some ((z0l v6.1 (1:Int)).1,())))))))))))
theorem ydB(n:Nat)(x:zU_a.den):runF zU_g (yYG n) Tryz.f157 zU_a zU_r x=zU_m n x.1:=by kernel_rfl
def zU_M(rp:Q1):Option (Int×Unit):=zU_m 0 rp
theorem yV9(rp:Q1)(y:Int×Unit)(h:zU_M rp=some y):∃ n,zU_m n rp=some y:=⟨0,h⟩
def zU_e:Entry:={ f:=157,args:=zU_a,ress:=zU_r,m:=λ x=>zU_M x.1 }
theorem ycT:FnOK Tryz.prog zU_e:=yL (g:=zU_g) (fn:=Tryz.f157) yC yK (yA yOe (yA yBM (yA yUs (yA yOb (yA yck (yA ycO (yA ydk (yA yc9 (yA yci eNil))))))))) (by kernel_rfl) (by kernel_rfl) (by kernel_rfl) (λ x y h=>let ⟨n,hn⟩:=yV9 x.1 y h;⟨yYG n,iNil,(ydB n x).trans hn⟩)
abbrev yTH:Ty:=.pair t55 (.pair (.ref t31) (.pair (.ref t60) .unit))
abbrev yWQ:Ty:=.pair t23 .unit
def yZB:G:={ T:=T,E:=[zv_e,zA_e],muts:=[],fz:=[] }
def ydw:List (List Nat):=[]
def yO6(n:Nat):Ann:={ keep:=ydw,fuel:=n,inl:=[],deep:=0 }
def yNk(n:Nat)(a:Q3)(p1:List (Q3))(p2:Q1):Option (List (Q4)×Unit):=
  (Option.bind (zA_M p1 λ (x:(Q3)×Unit)=>zv_M x.1 p2 a) λ v0=>some (v0.1,()))
theorem yaZ(n:Nat)(x:yTH.den):runF yZB (yO6 n) Tryz.f192 yTH yWQ x=yNk n x.1 x.2.1 x.2.2.1:=by kernel_rfl
def yHB(a:Q3)(p1:List (Q3))(p2:Q1):Option (List (Q4)×Unit):=yNk 0 a p1 p2
theorem yQR(a:Q3)(p1:List (Q3))(p2:Q1)(y:List (Q4)×Unit)(h:yHB a p1 p2=some y):∃ n,yNk n a p1 p2=some y:=⟨0,h⟩
def z0A_e:Entry:={ f:=192,args:=yTH,ress:=yWQ,m:=λ x=>yHB x.1 x.2.1 x.2.2.1 }
theorem yWt:FnOK Tryz.prog z0A_e:=yL (g:=yZB) (fn:=Tryz.f192) yC yK (yA yd7 (yA yRo eNil)) (by kernel_rfl) (by kernel_rfl) (by kernel_rfl) (λ x y h=>let ⟨n,hn⟩:=yQR x.1 x.2.1 x.2.2.1 y h;⟨yO6 n,iNil,(yaZ n x).trans hn⟩)
end
end Go.Tw
end
