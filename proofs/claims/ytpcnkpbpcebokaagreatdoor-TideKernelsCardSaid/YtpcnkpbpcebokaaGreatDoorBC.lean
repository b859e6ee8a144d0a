import Derived.Test.YtpcnkpbpcebokaaGreatDoorBT
import Derived.Test.YtpcnkpbpcebokaaGreatDoorB0
import Derived.Test.YtpcnkpbpcebokaaGreatDoorBS
import Derived.Test.YtpcnkpbpcebokaaGreatDoorLQ
import Derived.Test.YtpcnkpbpcebokaaGreatDoorBA
import Derived.Test.YtpcnkpbpcebokaaGreatDoorLR
set_option linter.all false
section
set_option maxRecDepth 1000000
namespace Go.Tw
open Go.Vx Go.Vx.B Go.Proofs
noncomputable section
abbrev zL_a:Ty:=.pair t22 .unit
abbrev zL_r:Ty:=.pair t3 .unit
def zL_g:G:={ T:=T,E:=[zt_e,zi_e,z0b_e],muts:=[],fz:=[] }
def zL_k:List (List Nat):=[[0,3],[0,3,5]]
def yWY(n:Nat):Ann:={ keep:=zL_k,fuel:=n,inl:=[],deep:=0 }
def yKF(n:Nat)(r0:List (Q3)->Int->Option (Int×Unit))(r6:List (Q3)->Int->Int->Option (Int×Unit))(aI:List (Q3))(aE:Int)(bg:Int):Option (Int×Unit):=
  (bif decide (bg < aE)then (Option.bind (idx aI bg) λ v7=>(Option.bind (idx aI aE) λ v8=>(bif v7.1==v8.1 then some ((9:Int),())else r6 aI aE (IntKind.i64.wrap (bg+1)))))else r0 aI (IntKind.i64.wrap (aE+1)))
def yAC(n:Nat)(r0:List (Q3)->Int->Option (Int×Unit))(k:Nat)(aI:List (Q3))(aE:Int)(bg:Int):Option (Int×Unit):=
  iter (λ r y=>yKF n r0 (λ aI aE bg=>r ((aI,(aE,(bg,()))),((),()))) y.1.1 y.1.2.1 y.1.2.2.1) k ((aI,(aE,(bg,()))),((),()))
def yJB(n:Nat)(r0:List (Q3)->Int->Option (Int×Unit))(ae:List (Q3))(aV:Int):Option (Int×Unit):=
  (bif decide (aV < (↑ae.length:Int))then (Option.bind (idx ae aV) λ v1=>(Option.bind (zt_M v1.1) λ v2=>(Option.bind (idx ae aV) λ v3=>(Option.bind (idx ae aV) λ v4=>(Option.bind (y6g [v2.1,(zi v3.2.1 (1:Int) (96:Int)).1,(zi v4.2.2.1 (0:Int) (3:Int)).1]) λ v5=>(bif v5.1 != 0 then some (v5.1,())else (yAC n r0 n (ae) (aV) ((0:Int)))))))))else some ((0:Int),()))
def yAQ(n:Nat)(k:Nat)(ae:List (Q3))(aV:Int):Option (Int×Unit):=
  iter (λ r y=>yJB n (λ ae aV=>r ((ae,(aV,())),((),()))) y.1.1 y.1.2.1) k ((ae,(aV,())),((),()))
def zL_m(n:Nat)(l:List (Q3)):Option (Int×Unit):=
  (bif (↑l.length:Int)==0 then some ((12:Int),())else (bif decide ((↑l.length:Int) > 4)then some ((5:Int),())else (yAQ n n (l) ((0:Int)))))
theorem yeb(n:Nat)(x:zL_a.den):runF zL_g (yWY n) Tryz.f32 zL_a zL_r x=zL_m n x.1:=by kernel_rfl
def yHL(aI:List (Q3))(aE:Int)(bg:Int):Option (((Int×Unit)⊕Unit)⊕Unit):=
  (Option.bind (idx aI bg) λ v7=>(Option.bind (idx aI aE) λ v8=>(bif v7.1==v8.1 then (some (Sum.inl (Sum.inl (((9:Int),())))))else (some (Sum.inr ())))))
def yNC(aI:List (Q3))(aE:Int):Option ((Int×Unit)⊕Unit):=
  (some (Sum.inr ()))
theorem yIQ(n:Nat)(hn:big<=n)(r0:List (Q3)->Int->Option (Int×Unit))(aI:List (Q3))(aE:Int)(hx:(aE)<=9223372036854775807):LeF (elim some λ (a7:Unit)=>r0 aI (IntKind.i64.wrap (aE+1))) (y0B (λ ah a7=>yHL aI aE ah) (λ a7=>yNC aI aE) ((aE) - 0).toNat 0 ()) (yAC n r0 n aI aE 0):=by
  refine y0X (f:=(elim some λ (a7:Unit)=>r0 aI (IntKind.i64.wrap (aE+1)))) (W:=λ aB ah a7=>yAC n r0 aB aI aE ah) (body:=(λ ah a7=>yHL aI aE ah)) (fin:=(λ a7=>yNC aI aE)) (λ aB ah a7=>?_) hx () n 0 (by decide) (by unfold big at hn;omega)
  show LeF _ _ (yKF n r0 (yAC n r0 aB) aI aE ah)
  exact y6 (y8 λ v7=>(y8 λ v8=>(y6 (y7 rfl) (y7 rfl)))) (yp (y7 rfl))
def yHY(ae:List (Q3))(aV:Int)(v1:Q3):Option ((Int×Unit)⊕Unit):=
  (Option.bind (zt_M v1.1) λ v2=>(Option.bind (idx ae aV) λ v3=>(Option.bind (idx ae aV) λ v4=>(Option.bind (y6g [v2.1,(zi v3.2.1 (1:Int) (96:Int)).1,(zi v4.2.2.1 (0:Int) (3:Int)).1]) λ v5=>(bif v5.1 != 0 then (some (Sum.inl ((v5.1,()))))else (bif decide ((aV)<=9223372036854775807)then y0B (λ ah a7=>yHL (ae) (aV) ah) (λ a7=>yNC (ae) (aV)) ((aV) - 0).toNat 0 ()else none))))))
def yMJ(ae:List (Q3)):Option (Int×Unit):=
  (some (((0:Int),())))
theorem yHU(n:Nat)(hn:big<=n)(ae:List (Q3))(hx:List.length (ae) < lenMax):LeF some (yM (λ ah aF a7=>yHY ae ah aF) (λ a7=>yMJ ae) 0 (ae) ()) (yAQ n n ae 0):=by
  refine yQ (f:=some) (W:=λ aB ah a7=>yAQ n aB ae ah) (body:=(λ ah aF a7=>yHY ae ah aF)) (fin:=(λ a7=>yMJ ae)) (λ aB ah a7=>?_) hx () n (by unfold big at hn;unfold lenMax at hx;omega)
  show LeF _ _ (yJB n (yAQ n aB) ae ah)
  exact y6 (y8 λ v1=>(y8 λ v2=>(y8 λ v3=>(y8 λ v4=>(y8 λ v5=>(y6 (y7 rfl) (yN λ hx=>by apply yIQ n hn;exact hx))))))) (yp (y7 rfl))
def zL_M(l:List (Q3)):Option (Int×Unit):=
  (bif (↑l.length:Int)==0 then (some (((12:Int),())))else (bif decide ((↑l.length:Int) > 4)then (some (((5:Int),())))else (bif decide (List.length (l) < lenMax)then yM (λ ah aF a7=>yHY (l) ah aF) (λ a7=>yMJ (l)) 0 (l) ()else none)))
theorem yW4(l:List (Q3))(y:Int×Unit)(h:zL_M l=some y):∃ n,zL_m n l=some y:=
  ⟨big,LeF.top (show LeF some (zL_M l) (zL_m big l)from (λ (n:Nat) (hn:big<=n)=>show LeF some (zL_M l) (zL_m n l)from (y6 (y7 rfl) (y6 (y7 rfl) (yN λ hx=>by apply yHU n hn;exact hx)))) big (Nat.le_refl _)) h⟩
def zL_e:Entry:={ f:=32,args:=zL_a,ress:=zL_r,m:=λ x=>zL_M x.1 }
theorem ydL:FnOK Tryz.prog zL_e:=yJ (g:=zL_g) (fn:=Tryz.f32) yC yI (yA yXy (yA yRd (yA yFj eNil))) (by kernel_rfl) (by kernel_rfl) (by kernel_rfl) (λ x y h=>let ⟨n,hn⟩:=yW4 x.1 y h;⟨yWY n,iNil,(yeb n x).trans hn⟩)
abbrev yTH:Ty:=.pair t94 .unit
abbrev yY1:Ty:=.pair t41 .unit
def ybG:G:={ T:=T,E:=[z02_e],muts:=[3],fz:=[] }
def ydp:List (List Nat):=[[1,3,4]]
def yP4(n:Nat):Ann:={ keep:=ydp,fuel:=n,inl:=[],deep:=0 }
def yG7(n:Nat)(r0:Q1->Int->List Int->Option (List Int×Unit))(aG:Q1)(b8:Int)(aO:List Int):Option (List Int×Unit):=
  (bif decide (b8 < (↑aG.2.2.1.length:Int))then (Option.bind (yHW aG b8) λ v1=>(bif v1.1 then (bif decide (aO.length+(1:Nat)<=memMax)then r0 aG (IntKind.i64.wrap (b8+1)) (aO++[IntKind.i64.wrap (aG.2.1+b8)])else none)else r0 aG (IntKind.i64.wrap (b8+1)) aO))else some (aO,()))
def y6n(n:Nat)(k:Nat)(aG:Q1)(b8:Int)(aO:List Int):Option (List Int×Unit):=
  iter (λ r y=>yG7 n (λ aG b8 aO=>r ((aG,(b8,())),((aO,()),()))) y.1.1 y.1.2.1 y.2.1.1) k ((aG,(b8,())),((aO,()),()))
def yMN(n:Nat)(rp:Q1):Option (List Int×Unit):=
  (y6n n n (rp) ((0:Int)) ([]))
theorem yXj(n:Nat)(x:yTH.den):runF ybG (yP4 n) Tryz.f77 yTH yY1 x=yMN n x.1:=by kernel_rfl
def yC3(aG:Q1)(b8:Int)(aO:List Int):Option ((List Int×Unit)⊕(List Int)):=
  (Option.bind (yHW aG b8) λ v1=>(bif v1.1 then (bif decide (aO.length+(1:Nat)<=memMax)then (some (Sum.inr (aO++[IntKind.i64.wrap (aG.2.1+b8)])))else none)else (some (Sum.inr (aO)))))
def y9d(aG:Q1)(aO:List Int):Option (List Int×Unit):=
  (some ((aO,())))
theorem yEH(n:Nat)(hn:big<=n)(aG:Q1)(aO:List Int)(hx:((↑aG.2.2.1.length:Int))<=9223372036854775807):LeF some (y0B (λ ah a7=>yC3 aG ah a7) (λ a7=>y9d aG a7) (((↑aG.2.2.1.length:Int)) - 0).toNat 0 aO) (y6n n n aG 0 aO):=by
  refine y0X (f:=some) (W:=λ aB ah a7=>y6n n aB aG ah a7) (body:=(λ ah a7=>yC3 aG ah a7)) (fin:=(λ a7=>y9d aG a7)) (λ aB ah a7=>?_) hx aO n 0 (by decide) (by unfold big at hn;omega)
  show LeF _ _ (yG7 n (y6n n aB) aG ah a7)
  exact y6 (y8 λ v1=>(y6 (y6 (y7 rfl) y01) (y7 rfl))) (yp (y7 rfl))
def y66(rp:Q1):Option (List Int×Unit):=
  (bif decide (((↑rp.2.2.1.length:Int))<=9223372036854775807)then y0B (λ ah a7=>yC3 (rp) ah a7) (λ a7=>y9d (rp) a7) (((↑rp.2.2.1.length:Int)) - 0).toNat 0 ([])else none)
theorem yUK(rp:Q1)(y:List Int×Unit)(h:y66 rp=some y):∃ n,yMN n rp=some y:=
  ⟨big,LeF.top (show LeF some (y66 rp) (yMN big rp)from (λ (n:Nat) (hn:big<=n)=>show LeF some (y66 rp) (yMN n rp)from (yN λ hx=>by apply yEH n hn;exact hx)) big (Nat.le_refl _)) h⟩
def z0e_e:Entry:={ f:=77,args:=yTH,ress:=yY1,m:=λ x=>y66 x.1 }
theorem yFT:FnOK Tryz.prog z0e_e:=yJ (g:=ybG) (fn:=Tryz.f77) yC yI (yA yZp eNil) (by kernel_rfl) (by kernel_rfl) (by kernel_rfl) (λ x y h=>let ⟨n,hn⟩:=yUK x.1 y h;⟨yP4 n,iNil,(yXj n x).trans hn⟩)
abbrev yQv:Ty:=.pair t3 (.pair t3 .unit)
abbrev yXO:Ty:=.pair t28 .unit
def yWE:G:={ T:=T,E:=[z0p_e,z15_e],muts:=[],fz:=[] }
def yeP:List (List Nat):=[]
def yPZ(n:Nat):Ann:={ keep:=yeP,fuel:=n,inl:=[],deep:=0 }
def ySc(n:Nat)(p0:Int)(np:Int):Option (Int×Unit):=
  (Option.bind (y1j [(z0p p0 (0:Int) (100000:Int)).1,(z0p np (0:Int) (4096:Int)).1]) λ v0=>(bif v0.1 != 0 then some (v0.1,())else some ((z0p (IntKind.i64.wrap (p0+np)) (0:Int) (100000:Int)).1,())))
theorem yZ5(n:Nat)(x:yQv.den):runF yWE (yPZ n) Tryz.f105 yQv yXO x=ySc n x.1 x.2.1:=by kernel_rfl
def yN5(p0:Int)(np:Int):Option (Int×Unit):=ySc 0 p0 np
theorem ySr(p0:Int)(np:Int)(y:Int×Unit)(h:yN5 p0 np=some y):∃ n,ySc n p0 np=some y:=⟨0,h⟩
def z09_e:Entry:={ f:=105,args:=yQv,ress:=yXO,m:=λ x=>yN5 x.1 x.2.1 }
theorem yVx:FnOK Tryz.prog z09_e:=yJ (g:=yWE) (fn:=Tryz.f105) yC yI (yA yCh (yA y3b eNil)) (by kernel_rfl) (by kernel_rfl) (by kernel_rfl) (λ x y h=>let ⟨n,hn⟩:=ySr x.1 x.2.1 y h;⟨yPZ n,iNil,(yZ5 n x).trans hn⟩)
abbrev yTw:Ty:=.pair t33 (.pair t3 .unit)
abbrev yVu:Ty:=.pair t57 .unit
def yXm:G:={ T:=T,E:=[z1C_e],muts:=[],fz:=[] }
def ydB:List (List Nat):=[]
def yPY(n:Nat):Ann:={ keep:=ydB,fuel:=n,inl:=[],deep:=0 }
def yUA(n:Nat)(t:Q2)(tick:Int):Option ((Q4)×Unit):=
  (Option.bind (y7y t.1 t.2.1 tick) λ v0=>some ((v0.1.1,v0.1.2.1,()),()))
theorem yXt(n:Nat)(x:yTw.den):runF yXm (yPY n) Tryz.f106 yTw yVu x=yUA n x.1 x.2.1:=by kernel_rfl
def yHn(t:Q2)(tick:Int):Option ((Q4)×Unit):=yUA 0 t tick
theorem yQJ(t:Q2)(tick:Int)(y:(Q4)×Unit)(h:yHn t tick=some y):∃ n,yUA n t tick=some y:=⟨0,h⟩
def z0T_e:Entry:={ f:=106,args:=yTw,ress:=yVu,m:=λ x=>yHn x.1 x.2.1 }
theorem yQ1:FnOK Tryz.prog z0T_e:=yJ (g:=yXm) (fn:=Tryz.f106) yC yI (yA yOU eNil) (by kernel_rfl) (by kernel_rfl) (by kernel_rfl) (λ x y h=>let ⟨n,hn⟩:=yQJ x.1 x.2.1 y h;⟨yPY n,iNil,(yXt n x).trans hn⟩)
abbrev yRR:Ty:=.pair t57 .unit
abbrev yZQ:Ty:=.pair t28 .unit
def yVR:G:={ T:=T,E:=[z0p_e,z15_e],muts:=[],fz:=[] }
def ydw:List (List Nat):=[]
def yQ2(n:Nat):Ann:={ keep:=ydw,fuel:=n,inl:=[],deep:=0 }
def yOM(n:Nat)(z:Q4):Option (Int×Unit):=
  (Option.bind (y1j [(z0p z.1 (-8796093022208:Int) (8796093022208:Int)).1,(z0p z.2.1 (-8796093022208:Int) (8796093022208:Int)).1]) λ v0=>some (v0.1,()))
theorem ybh(n:Nat)(x:yRR.den):runF yVR (yQ2 n) Tryz.f116 yRR yZQ x=yOM n x.1:=by kernel_rfl
def yAf(z:Q4):Option (Int×Unit):=yOM 0 z
theorem yTG(z:Q4)(y:Int×Unit)(h:yAf z=some y):∃ n,yOM n z=some y:=⟨0,h⟩
def z08_e:Entry:={ f:=116,args:=yRR,ress:=yZQ,m:=λ x=>yAf x.1 }
theorem yQD:FnOK Tryz.prog z08_e:=yJ (g:=yVR) (fn:=Tryz.f116) yC yI (yA yCh (yA y3b eNil)) (by kernel_rfl) (by kernel_rfl) (by kernel_rfl) (λ x y h=>let ⟨n,hn⟩:=yTG x.1 y h;⟨yQ2 n,iNil,(ybh n x).trans hn⟩)
abbrev yRi:Ty:=.pair t23 (.pair t3 .unit)
abbrev yZr:Ty:=.pair t3 .unit
def yZz:G:={ T:=T,E:=[z0U_e],muts:=[],fz:=[] }
def ydO:List (List Nat):=[[1,7,8,9]]
def yPJ(n:Nat):Ann:={ keep:=ydO,fuel:=n,inl:=[],deep:=0 }
def yGA(n:Nat)(r0:Int->List (Q4)->Int->Int->Option (Int×Unit))(ay:Int)(aA:List (Q4))(aX:Int)(aw:Int):Option (Int×Unit):=
  (bif decide (aw < aX)then (Option.bind (idx aA aw) λ v1=>(Option.bind (yES ay [v1.1,v1.2.1]) λ v2=>r0 v2.1 aA aX (IntKind.i64.wrap (aw+1))))else some (ay,()))
def y6q(n:Nat)(k:Nat)(ay:Int)(aA:List (Q4))(aX:Int)(aw:Int):Option (Int×Unit):=
  iter (λ r y=>yGA n (λ ay aA aX aw=>r ((ay,(aA,(aX,(aw,())))),((),()))) y.1.1 y.1.2.1 y.1.2.2.1 y.1.2.2.2.1) k ((ay,(aA,(aX,(aw,())))),((),()))
def yOA(n:Nat)(l:List (Q4))(den:Int):Option (Int×Unit):=
  (y6q n n (den) (l) ((↑l.length:Int)) ((0:Int)))
theorem yWW(n:Nat)(x:yRi.den):runF yZz (yPJ n) Tryz.f117 yRi yZr x=yOA n x.1 x.2.1:=by kernel_rfl
def yIu(aA:List (Q4))(aw:Int)(v1:Q4)(ay:Int):Option ((Int×Unit)⊕(Int)):=
  (Option.bind (yES ay [v1.1,v1.2.1]) λ v2=>(some (Sum.inr (v2.1))))
def yIj(aA:List (Q4))(ay:Int):Option (Int×Unit):=
  (some ((ay,())))
theorem yEk(n:Nat)(hn:big<=n)(aA:List (Q4))(ay:Int)(hx:List.length (aA) < lenMax):LeF some (yM (λ ah aF a7=>yIu aA ah aF a7) (λ a7=>yIj aA a7) 0 (aA) ay) (y6q n n ay aA (List.length (aA):Int) 0):=by
  refine yQ (f:=some) (W:=λ aB ah a7=>y6q n aB a7 aA (List.length (aA):Int) ah) (body:=(λ ah aF a7=>yIu aA ah aF a7)) (fin:=(λ a7=>yIj aA a7)) (λ aB ah a7=>?_) hx ay n (by unfold big at hn;unfold lenMax at hx;omega)
  show LeF _ _ (yGA n (y6q n aB) a7 aA (List.length (aA):Int) ah)
  exact y6 (y8 λ v1=>(y8 λ v2=>(y7 rfl))) (yp (y7 rfl))
def yGi(l:List (Q4))(den:Int):Option (Int×Unit):=
  (bif decide (List.length (l) < lenMax)then yM (λ ah aF a7=>yIu (l) ah aF a7) (λ a7=>yIj (l) a7) 0 (l) (den)else none)
theorem yUL(l:List (Q4))(den:Int)(y:Int×Unit)(h:yGi l den=some y):∃ n,yOA n l den=some y:=
  ⟨big,LeF.top (show LeF some (yGi l den) (yOA big l den)from (λ (n:Nat) (hn:big<=n)=>show LeF some (yGi l den) (yOA n l den)from (yN λ hx=>by apply yEk n hn;exact hx)) big (Nat.le_refl _)) h⟩
def z0l_e:Entry:={ f:=117,args:=yRi,ress:=yZr,m:=λ x=>yGi x.1 x.2.1 }
theorem yP2:FnOK Tryz.prog z0l_e:=yJ (g:=yZz) (fn:=Tryz.f117) yC yI (yA yPj eNil) (by kernel_rfl) (by kernel_rfl) (by kernel_rfl) (λ x y h=>let ⟨n,hn⟩:=yUL x.1 x.2.1 y h;⟨yPJ n,iNil,(yWW n x).trans hn⟩)
abbrev zM_a:Ty:=.pair t183 .unit
abbrev zM_r:Ty:=.pair t57 .unit
def zM_g:G:={ T:=T,E:=[zV_e],muts:=[],fz:=[] }
def zM_k:List (List Nat):=[]
def yaL(n:Nat):Ann:={ keep:=zM_k,fuel:=n,inl:=[],deep:=0 }
def zM_m(n:Nat)(m:List (List (Q4))):Option ((Q4)×Unit):=
  (Option.bind (yP (8:Nat) (m,(0:Int),(0:Int),())) λ v0=>some ((v0.1.1,v0.1.2.1,()),()))
theorem yeR(n:Nat)(x:zM_a.den):runF zM_g (yaL n) Tryz.f123 zM_a zM_r x=zM_m n x.1:=by kernel_rfl
def zM_M(m:List (List (Q4))):Option ((Q4)×Unit):=zM_m 0 m
theorem yZY(m:List (List (Q4)))(y:(Q4)×Unit)(h:zM_M m=some y):∃ n,zM_m n m=some y:=⟨0,h⟩
def zM_e:Entry:={ f:=123,args:=zM_a,ress:=zM_r,m:=λ x=>zM_M x.1 }
theorem yOK:FnOK Tryz.prog zM_e:=yJ (g:=zM_g) (fn:=Tryz.f123) yC yI (yA ycV eNil) (by kernel_rfl) (by kernel_rfl) (by kernel_rfl) (λ x y h=>let ⟨n,hn⟩:=yZY x.1 y h;⟨yaL n,iNil,(yeR n x).trans hn⟩)
abbrev yTB:Ty:=.pair t3 (.pair t3 .unit)
abbrev yWR:Ty:=.pair t69 .unit
def yW9:G:={ T:=T,E:=[z0U_e],muts:=[],fz:=[] }
def yc3:List (List Nat):=[]
def yOq(n:Nat):Ann:={ keep:=yc3,fuel:=n,inl:=[],deep:=0 }
def yUe(n:Nat)(num:Int)(den:Int):Option ((Q4)×Unit):=
  (Option.bind (yES den [num]) λ v0=>(bif v0.1==0 then none else (bif v0.1==0 then none else some ((IntKind.i64.wrap (num.tdiv v0.1),IntKind.i64.wrap (den.tdiv v0.1),()),()))))
theorem yb0(n:Nat)(x:yTB.den):runF yW9 (yOq n) Tryz.f127 yTB yWR x=yUe n x.1 x.2.1:=by kernel_rfl
def yHl(num:Int)(den:Int):Option ((Q4)×Unit):=yUe 0 num den
theorem yQr(num:Int)(den:Int)(y:(Q4)×Unit)(h:yHl num den=some y):∃ n,yUe n num den=some y:=⟨0,h⟩
def z18_e:Entry:={ f:=127,args:=yTB,ress:=yWR,m:=λ x=>yHl x.1 x.2.1 }
theorem yKT:FnOK Tryz.prog z18_e:=yJ (g:=yW9) (fn:=Tryz.f127) yC yI (yA yPj eNil) (by kernel_rfl) (by kernel_rfl) (by kernel_rfl) (λ x y h=>let ⟨n,hn⟩:=yQr x.1 x.2.1 y h;⟨yOq n,iNil,(yb0 n x).trans hn⟩)
abbrev ySZ:Ty:=.pair t41 (.pair t126 (.pair t126 .unit))
abbrev yUm:Ty:=.pair t57 .unit
def yaB:G:={ T:=T,E:=[zw_e,zv_e,z0c_e,z0x_e],muts:=[],fz:=[] }
def yen:List (List Nat):=[[0,4,5,6,7,8]]
def yOr(n:Nat):Ann:={ keep:=yen,fuel:=n,inl:=[],deep:=0 }
def yGB(n:Nat)(r0:List Int->Q3->Q3->Int->Int->Int->Int->Int->Option ((Q4)×Unit))(af:List Int)(aQ:Q3)(aR:Q3)(aJ:Int)(ai:Int)(aj:Int)(aa:Int)(ac:Int):Option ((Q4)×Unit):=
  (bif decide (aJ < (↑af.length:Int))then (Option.bind (idx af aJ) λ v1=>(Option.bind (zw_M aQ v1) λ v2=>(Option.bind (idx af aJ) λ v3=>(Option.bind (zw_M aR v3) λ v4=>r0 af aQ aR (IntKind.i64.wrap (aJ+1)) ai aj (z0x (aa,ac,()) (z0c (zv v2.1).1 v4.1).1).1.1 (z0x (aa,ac,()) (z0c (zv v2.1).1 v4.1).1).1.2.1))))else some ((aa,ac,()),()))
def y7M(n:Nat)(k:Nat)(af:List Int)(aQ:Q3)(aR:Q3)(aJ:Int)(ai:Int)(aj:Int)(aa:Int)(ac:Int):Option ((Q4)×Unit):=
  iter (λ r y=>yGB n (λ af aQ aR aJ ai aj aa ac=>r ((af,(aQ,(aR,(aJ,())))),(((ai,(aj,())),((aa,(ac,())),())),()))) y.1.1 y.1.2.1 y.1.2.2.1 y.1.2.2.2.1 y.2.1.1.1 y.2.1.1.2.1 y.2.1.2.1.1 y.2.1.2.1.2.1) k ((af,(aQ,(aR,(aJ,())))),(((ai,(aj,())),((aa,(ac,())),())),()))
def yNr(n:Nat)(ticks:List Int)(a:Q3)(b:Q3):Option ((Q4)×Unit):=
  (y7M n n (ticks) (a) (b) ((0:Int)) ((0:Int)) ((0:Int)) ((0:Int)) ((0:Int)))
theorem yZU(n:Nat)(x:ySZ.den):runF yaB (yOr n) Tryz.f149 ySZ yUm x=yNr n x.1 x.2.1 x.2.2.1:=by kernel_rfl
def y93(af:List Int)(aQ:Q3)(aR:Q3)(ai:Int)(aj:Int)(aJ:Int)(v1:Int)(aa:Int)(ac:Int):Option (((Q4)×Unit)⊕(Int×Int)):=
  (Option.bind (zw_M aQ v1) λ v2=>(Option.bind (idx af aJ) λ v3=>(Option.bind (zw_M aR v3) λ v4=>(some (Sum.inr (((z0x (aa,ac,()) (z0c (zv v2.1).1 v4.1).1).1.1),((z0x (aa,ac,()) (z0c (zv v2.1).1 v4.1).1).1.2.1)))))))
def yGW(af:List Int)(aQ:Q3)(aR:Q3)(ai:Int)(aj:Int)(aa:Int)(ac:Int):Option ((Q4)×Unit):=
  (some (((aa,ac,()),())))
theorem yDS(n:Nat)(hn:big<=n)(af:List Int)(aQ:Q3)(aR:Q3)(ai:Int)(aj:Int)(aa:Int)(ac:Int)(hx:List.length (af) < lenMax):LeF some (yM (λ ah aF a7=>y93 af aQ aR ai aj ah aF a7.1 a7.2) (λ a7=>yGW af aQ aR ai aj a7.1 a7.2) 0 (af) (aa,ac)) (y7M n n af aQ aR 0 ai aj aa ac):=by
  refine yQ (f:=some) (W:=λ aB ah a7=>y7M n aB af aQ aR ah ai aj a7.1 a7.2) (body:=(λ ah aF a7=>y93 af aQ aR ai aj ah aF a7.1 a7.2)) (fin:=(λ a7=>yGW af aQ aR ai aj a7.1 a7.2)) (λ aB ah a7=>?_) hx (aa,ac) n (by unfold big at hn;unfold lenMax at hx;omega)
  show LeF _ _ (yGB n (y7M n aB) af aQ aR ah ai aj a7.1 a7.2)
  exact y6 (y8 λ v1=>(y8 λ v2=>(y8 λ v3=>(y8 λ v4=>(y7 rfl))))) (yp (y7 rfl))
def y8u(ticks:List Int)(a:Q3)(b:Q3):Option ((Q4)×Unit):=
  (bif decide (List.length (ticks) < lenMax)then yM (λ ah aF a7=>y93 (ticks) (a) (b) ((0:Int)) ((0:Int)) ah aF a7.1 a7.2) (λ a7=>yGW (ticks) (a) (b) ((0:Int)) ((0:Int)) a7.1 a7.2) 0 (ticks) (((0:Int)),((0:Int)))else none)
theorem yQE(ticks:List Int)(a:Q3)(b:Q3)(y:(Q4)×Unit)(h:y8u ticks a b=some y):∃ n,yNr n ticks a b=some y:=
  ⟨big,LeF.top (show LeF some (y8u ticks a b) (yNr big ticks a b)from (λ (n:Nat) (hn:big<=n)=>show LeF some (y8u ticks a b) (yNr n ticks a b)from (yN λ hx=>by apply yDS n hn;exact hx)) big (Nat.le_refl _)) h⟩
def z0f_e:Entry:={ f:=149,args:=ySZ,ress:=yUm,m:=λ x=>y8u x.1 x.2.1 x.2.2.1 }
theorem yOu:FnOK Tryz.prog z0f_e:=yJ (g:=yaB) (fn:=Tryz.f149) yC yI (yA yVG (yA ydK (yA yKf (yA yJI eNil)))) (by kernel_rfl) (by kernel_rfl) (by kernel_rfl) (λ x y h=>let ⟨n,hn⟩:=yQE x.1 x.2.1 x.2.2.1 y h;⟨yOr n,iNil,(yZU n x).trans hn⟩)
abbrev ySg:Ty:=.pair t35 (.pair t61 .unit)
abbrev yVL:Ty:=.pair t41 (.pair t28 .unit)
def yZm:G:={ T:=T,E:=[zK_e,ze_e,z15_e],muts:=[7],fz:=[] }
def ycq:List (List Nat):=[[0,1,7,8,9]]
def yOQ(n:Nat):Ann:={ keep:=ycq,fuel:=n,inl:=[],deep:=0 }
def yLa(n:Nat)(r2:List Nat->Nat->Int->Int->List Int->Option (List Int×Int×Unit))(ba:List Nat)(al:Nat)(aH:Int)(b9:Int)(ax:List Int):Option (List Int×Int×Unit):=
  (bif decide (b9 < (↑ba.length:Int))then (Option.bind (idx ba b9) λ v3=>(Option.bind (idx ba (IntKind.i64.wrap (b9 - (1:Int)))) λ v4=>(bif yx Go.BinOp.gtr Go.FloatKind.f32 (y08 Go.BinOp.mul Go.FloatKind.f32 al (y08 Go.BinOp.sub Go.FloatKind.f32 v3 v4)) (nat_lit 0)then r2 ba al b9 (IntKind.i64.wrap (b9+1)) ax else (bif yx Go.BinOp.lss Go.FloatKind.f32 (y08 Go.BinOp.mul Go.FloatKind.f32 al (y08 Go.BinOp.sub Go.FloatKind.f32 v3 v4)) (nat_lit 0)then (bif decide (aH >= 0)then (bif decide (ax.length+(1:Nat)<=memMax)then r2 ba al (-1:Int) (IntKind.i64.wrap (b9+1)) (ax++[aH])else none)else r2 ba al (-1:Int) (IntKind.i64.wrap (b9+1)) ax)else r2 ba al aH (IntKind.i64.wrap (b9+1)) ax))))else some (ax,(0:Int),()))
def yN2(n:Nat)(k:Nat)(ba:List Nat)(al:Nat)(aH:Int)(b9:Int)(ax:List Int):Option (List Int×Int×Unit):=
  iter (λ r y=>yLa n (λ ba al aH b9 ax=>r ((ba,(al,(aH,(b9,())))),((ax,()),()))) y.1.1 y.1.2.1 y.1.2.2.1 y.1.2.2.2.1 y.2.1.1) k ((ba,(al,(aH,(b9,())))),((ax,()),()))
def yRJ(n:Nat)(l:List Nat)(direction:Nat):Option (List Int×Int×Unit):=
  (bif decide ((↑l.length:Int) > 4096)then some ([],(5:Int),())else (Option.bind (zK_M l λ (x:Nat×Unit)=>ze_M x.1) λ v0=>(Option.bind (y1j v0.1) λ v1=>(bif v1.1 != 0 then some ([],v1.1,())else (yN2 n n (l) (direction) ((-1:Int)) ((1:Int)) ([]))))))
theorem yVg(n:Nat)(x:ySg.den):runF yZm (yOQ n) Tryz.f154 ySg yVL x=yRJ n x.1 x.2.1:=by kernel_rfl
def yNg(l:List Nat)(direction:Nat):Option (List Int×Int×Unit):=yRJ 1000 l direction
theorem ySt(l:List Nat)(direction:Nat)(y:List Int×Int×Unit)(h:yNg l direction=some y):∃ n,yRJ n l direction=some y:=⟨1000,h⟩
def z0o_e:Entry:={ f:=154,args:=ySg,ress:=yVL,m:=λ x=>yNg x.1 x.2.1 }
theorem yP6:FnOK Tryz.prog z0o_e:=yJ (g:=yZm) (fn:=Tryz.f154) yC yI (yA ycI (yA yZF (yA y3b eNil))) (by kernel_rfl) (by kernel_rfl) (by kernel_rfl) (λ x y h=>let ⟨n,hn⟩:=ySt x.1 x.2.1 y h;⟨yOQ n,iNil,(yVg n x).trans hn⟩)
abbrev zO_a:Ty:=.pair t55 .unit
abbrev zO_r:Ty:=.pair t28 .unit
def zO_g:G:={ T:=T,E:=[z0J_e,z1K_e,z0p_e,z15_e],muts:=[],fz:=[] }
def zO_k:List (List Nat):=[]
def yZ3(n:Nat):Ann:={ keep:=zO_k,fuel:=n,inl:=[],deep:=0 }
def zO_m(n:Nat)(c:Q3):Option (Int×Unit):=
  (Option.bind (yBW c.1) λ v0=>(Option.bind (y1j [(z1K (!v0.1) (8:Int)).1,(z0p c.2.1 (1:Int) (96:Int)).1,(z0p c.2.2.1 (0:Int) (3:Int)).1]) λ v1=>some (v1.1,())))
theorem ydM(n:Nat)(x:zO_a.den):runF zO_g (yZ3 n) Tryz.f160 zO_a zO_r x=zO_m n x.1:=by kernel_rfl
def zO_M(c:Q3):Option (Int×Unit):=zO_m 0 c
theorem yW5(c:Q3)(y:Int×Unit)(h:zO_M c=some y):∃ n,zO_m n c=some y:=⟨0,h⟩
def zO_e:Entry:={ f:=160,args:=zO_a,ress:=zO_r,m:=λ x=>zO_M x.1 }
theorem yeQ:FnOK Tryz.prog zO_e:=yJ (g:=zO_g) (fn:=Tryz.f160) yC yI (yA yOt (yA y5h (yA yCh (yA y3b eNil)))) (by kernel_rfl) (by kernel_rfl) (by kernel_rfl) (λ x y h=>let ⟨n,hn⟩:=yW5 x.1 y h;⟨yZ3 n,iNil,(ydM n x).trans hn⟩)
abbrev yT5:Ty:=.pair t55 (.pair (.ref t60) (.pair (.ref t31) (.pair (.ref t3) .unit)))
abbrev ybN:Ty:=.pair t57 .unit
def yZ4:G:={ T:=T,E:=[z16_e],muts:=[],fz:=[] }
def yeI:List (List Nat):=[]
def yOX(n:Nat):Ann:={ keep:=yeI,fuel:=n,inl:=[],deep:=0 }
def yM6(n:Nat)(c:Q3)(p1:Q1)(p2:List (Q3))(p3:Int):Option ((Q4)×Unit):=
  (Option.bind (idx p2 p3) λ v0=>(Option.bind (yAi p1 c v0) λ v1=>some ((v1.1.1,v1.1.2.1,()),())))
theorem yWG(n:Nat)(x:yT5.den):runF yZ4 (yOX n) Tryz.f163 yT5 ybN x=yM6 n x.1 x.2.1 x.2.2.1 x.2.2.2.1:=by kernel_rfl
def yE1(c:Q3)(p1:Q1)(p2:List (Q3))(p3:Int):Option ((Q4)×Unit):=yM6 0 c p1 p2 p3
theorem yT6(c:Q3)(p1:Q1)(p2:List (Q3))(p3:Int)(y:(Q4)×Unit)(h:yE1 c p1 p2 p3=some y):∃ n,yM6 n c p1 p2 p3=some y:=⟨0,h⟩
def z0F_e:Entry:={ f:=163,args:=yT5,ress:=ybN,m:=λ x=>yE1 x.1 x.2.1 x.2.2.1 x.2.2.2.1 }
theorem ybJ:FnOK Tryz.prog z0F_e:=yJ (g:=yZ4) (fn:=Tryz.f163) yC yI (yA yKZ eNil) (by kernel_rfl) (by kernel_rfl) (by kernel_rfl) (λ x y h=>let ⟨n,hn⟩:=yT6 x.1 x.2.1 x.2.2.1 x.2.2.2.1 y h;⟨yOX n,iNil,(yWG n x).trans hn⟩)
abbrev yRy:Ty:=.pair t22 (.pair t23 (.pair t3 .unit))
abbrev yYW:Ty:=.pair t57 .unit
def yXg:G:={ T:=T,E:=[zw_e,z0c_e,z0x_e],muts:=[],fz:=[] }
def ydu:List (List Nat):=[[0,1,2,6,7,8]]
def yOn(n:Nat):Ann:={ keep:=ydu,fuel:=n,inl:=[],deep:=0 }
def yFL(n:Nat)(r0:List (Q3)->List (Q4)->Int->Int->Int->Int->Int->Int->Option ((Q4)×Unit))(ae:List (Q3))(aS:List (Q4))(aq:Int)(bc:Int)(ai:Int)(aj:Int)(aa:Int)(ac:Int):Option ((Q4)×Unit):=
  (bif decide (bc < (↑ae.length:Int))then (Option.bind (idx aS bc) λ v1=>(Option.bind (idx ae bc) λ v2=>(Option.bind (zw_M v2 aq) λ v3=>r0 ae aS aq (IntKind.i64.wrap (bc+1)) ai aj (z0x (aa,ac,()) (z0c v1 v3.1).1).1.1 (z0x (aa,ac,()) (z0c v1 v3.1).1).1.2.1)))else some ((aa,ac,()),()))
def y71(n:Nat)(k:Nat)(ae:List (Q3))(aS:List (Q4))(aq:Int)(bc:Int)(ai:Int)(aj:Int)(aa:Int)(ac:Int):Option ((Q4)×Unit):=
  iter (λ r y=>yFL n (λ ae aS aq bc ai aj aa ac=>r ((ae,(aS,(aq,(bc,())))),(((ai,(aj,())),((aa,(ac,())),())),()))) y.1.1 y.1.2.1 y.1.2.2.1 y.1.2.2.2.1 y.2.1.1.1 y.2.1.1.2.1 y.2.1.2.1.1 y.2.1.2.1.2.1) k ((ae,(aS,(aq,(bc,())))),(((ai,(aj,())),((aa,(ac,())),())),()))
def yOC(n:Nat)(l:List (Q3))(v:List (Q4))(tick:Int):Option ((Q4)×Unit):=
  (y71 n n (l) (v) (tick) ((0:Int)) ((0:Int)) ((0:Int)) ((0:Int)) ((0:Int)))
theorem yV0(n:Nat)(x:yRy.den):runF yXg (yOn n) Tryz.f168 yRy yYW x=yOC n x.1 x.2.1 x.2.2.1:=by kernel_rfl
def y9X(ae:List (Q3))(aS:List (Q4))(aq:Int)(ai:Int)(aj:Int)(bc:Int)(aa:Int)(ac:Int):Option (((Q4)×Unit)⊕(Int×Int)):=
  (Option.bind (idx aS bc) λ v1=>(Option.bind (idx ae bc) λ v2=>(Option.bind (zw_M v2 aq) λ v3=>(some (Sum.inr (((z0x (aa,ac,()) (z0c v1 v3.1).1).1.1),((z0x (aa,ac,()) (z0c v1 v3.1).1).1.2.1)))))))
def yGR(ae:List (Q3))(aS:List (Q4))(aq:Int)(ai:Int)(aj:Int)(aa:Int)(ac:Int):Option ((Q4)×Unit):=
  (some (((aa,ac,()),())))
theorem yDy(n:Nat)(hn:big<=n)(ae:List (Q3))(aS:List (Q4))(aq:Int)(ai:Int)(aj:Int)(aa:Int)(ac:Int)(hx:((↑ae.length:Int))<=9223372036854775807):LeF some (y0B (λ ah a7=>y9X ae aS aq ai aj ah a7.1 a7.2) (λ a7=>yGR ae aS aq ai aj a7.1 a7.2) (((↑ae.length:Int)) - 0).toNat 0 (aa,ac)) (y71 n n ae aS aq 0 ai aj aa ac):=by
  refine y0X (f:=some) (W:=λ aB ah a7=>y71 n aB ae aS aq ah ai aj a7.1 a7.2) (body:=(λ ah a7=>y9X ae aS aq ai aj ah a7.1 a7.2)) (fin:=(λ a7=>yGR ae aS aq ai aj a7.1 a7.2)) (λ aB ah a7=>?_) hx (aa,ac) n 0 (by decide) (by unfold big at hn;omega)
  show LeF _ _ (yFL n (y71 n aB) ae aS aq ah ai aj a7.1 a7.2)
  exact y6 (y8 λ v1=>(y8 λ v2=>(y8 λ v3=>(y7 rfl)))) (yp (y7 rfl))
def yBu(l:List (Q3))(v:List (Q4))(tick:Int):Option ((Q4)×Unit):=
  (bif decide (((↑l.length:Int))<=9223372036854775807)then y0B (λ ah a7=>y9X (l) (v) (tick) ((0:Int)) ((0:Int)) ah a7.1 a7.2) (λ a7=>yGR (l) (v) (tick) ((0:Int)) ((0:Int)) a7.1 a7.2) (((↑l.length:Int)) - 0).toNat 0 (((0:Int)),((0:Int)))else none)
theorem yRY(l:List (Q3))(v:List (Q4))(tick:Int)(y:(Q4)×Unit)(h:yBu l v tick=some y):∃ n,yOC n l v tick=some y:=
  ⟨big,LeF.top (show LeF some (yBu l v tick) (yOC big l v tick)from (λ (n:Nat) (hn:big<=n)=>show LeF some (yBu l v tick) (yOC n l v tick)from (yN λ hx=>by apply yDy n hn;exact hx)) big (Nat.le_refl _)) h⟩
def z1F_e:Entry:={ f:=168,args:=yRy,ress:=yYW,m:=λ x=>yBu x.1 x.2.1 x.2.2.1 }
theorem ybO:FnOK Tryz.prog z1F_e:=yJ (g:=yXg) (fn:=Tryz.f168) yC yI (yA yVG (yA yKf (yA yJI eNil))) (by kernel_rfl) (by kernel_rfl) (by kernel_rfl) (λ x y h=>let ⟨n,hn⟩:=yRY x.1 x.2.1 x.2.2.1 y h;⟨yOn n,iNil,(yV0 n x).trans hn⟩)
abbrev yUP:Ty:=.pair t210 (.pair t3 .unit)
abbrev ybP:Ty:=.pair t4 .unit
def yaz:G:={ T:=T,E:=[z1L_e],muts:=[],fz:=[] }
def ydV:List (List Nat):=[]
def yQ5(n:Nat):Ann:={ keep:=ydV,fuel:=n,inl:=[],deep:=0 }
def yO8(n:Nat)(f:Nat)(sign:Int):Option (Bool×Unit):=
  (bif sign==0 then (Option.bind (absM f) λ v0=>some (yx Go.BinOp.gtr Go.FloatKind.f64 v0.1 (nat_lit 9218868437227405311),()))else (bif decide (sign < 0)then some (yx Go.BinOp.gtr Go.FloatKind.f64 (yFM Go.FloatKind.f64 f) (nat_lit 9218868437227405311),())else some (yx Go.BinOp.gtr Go.FloatKind.f64 f (nat_lit 9218868437227405311),())))
theorem yUn(n:Nat)(x:yUP.den):runF yaz (yQ5 n) Tryz.f172 yUP ybP x=yO8 n x.1 x.2.1:=by kernel_rfl
def yKC(f:Nat)(sign:Int):Option (Bool×Unit):=yO8 0 f sign
theorem yTA(f:Nat)(sign:Int)(y:Bool×Unit)(h:yKC f sign=some y):∃ n,yO8 n f sign=some y:=⟨0,h⟩
def z0v_e:Entry:={ f:=172,args:=yUP,ress:=ybP,m:=λ x=>yKC x.1 x.2.1 }
theorem yaV:FnOK Tryz.prog z0v_e:=yJ (g:=yaz) (fn:=Tryz.f172) yC yI (yA yW7 eNil) (by kernel_rfl) (by kernel_rfl) (by kernel_rfl) (λ x y h=>let ⟨n,hn⟩:=yTA x.1 x.2.1 y h;⟨yQ5 n,iNil,(yUn n x).trans hn⟩)
abbrev yQM:Ty:=.pair t55 (.pair (.ref t60) (.pair (.ref t55) .unit))
abbrev yUr:Ty:=.pair t57 .unit
def yUk:G:={ T:=T,E:=[z16_e],muts:=[],fz:=[] }
def yct:List (List Nat):=[]
def yQ3(n:Nat):Ann:={ keep:=yct,fuel:=n,inl:=[],deep:=0 }
def yMG(n:Nat)(b:Q3)(p1:Q1)(p2:Q3):Option ((Q4)×Unit):=
  (Option.bind (yAi p1 p2 b) λ v0=>some ((v0.1.1,v0.1.2.1,()),()))
theorem yYC(n:Nat)(x:yQM.den):runF yUk (yQ3 n) Tryz.f193 yQM yUr x=yMG n x.1 x.2.1 x.2.2.1:=by kernel_rfl
def yKw(b:Q3)(p1:Q1)(p2:Q3):Option ((Q4)×Unit):=yMG 0 b p1 p2
theorem yR1(b:Q3)(p1:Q1)(p2:Q3)(y:(Q4)×Unit)(h:yKw b p1 p2=some y):∃ n,yMG n b p1 p2=some y:=⟨0,h⟩
def z01_e:Entry:={ f:=193,args:=yQM,ress:=yUr,m:=λ x=>yKw x.1 x.2.1 x.2.2.1 }
theorem yYX:FnOK Tryz.prog z01_e:=yJ (g:=yUk) (fn:=Tryz.f193) yC yI (yA yKZ eNil) (by kernel_rfl) (by kernel_rfl) (by kernel_rfl) (λ x y h=>let ⟨n,hn⟩:=yR1 x.1 x.2.1 x.2.2.1 y h;⟨yQ3 n,iNil,(yYC n x).trans hn⟩)
abbrev zX_a:Ty:=.pair t35 .unit
abbrev zX_r:Ty:=.pair t28 .unit
def zX_g:G:={ T:=T,E:=[ze_e],muts:=[],fz:=[] }
def zX_k:List (List Nat):=[[3,6,7,8]]
def yZ6(n:Nat):Ann:={ keep:=zX_k,fuel:=n,inl:=[],deep:=0 }
def yK6(n:Nat)(r0:Int->List Nat->Int->Int->Option (Int×Unit))(ar:Int)(aL:List Nat)(aA:Int)(aX:Int):Option (Int×Unit):=
  (bif decide (aX < aA)then (Option.bind (idx aL aX) λ v1=>(Option.bind (ze_M v1) λ v2=>(bif v2.1 != 0 then some (v2.1,())else r0 v2.1 aL aA (IntKind.i64.wrap (aX+1)))))else some (ar,()))
def yBJ(n:Nat)(k:Nat)(ar:Int)(aL:List Nat)(aA:Int)(aX:Int):Option (Int×Unit):=
  iter (λ r y=>yK6 n (λ ar aL aA aX=>r ((ar,(aL,(aA,(aX,())))),((),()))) y.1.1 y.1.2.1 y.1.2.2.1 y.1.2.2.2.1) k ((ar,(aL,(aA,(aX,())))),((),()))
def zX_m(n:Nat)(l:List Nat):Option (Int×Unit):=
  (yBJ n n ((0:Int)) (l) ((↑l.length:Int)) ((0:Int)))
theorem ydf(n:Nat)(x:zX_a.den):runF zX_g (yZ6 n) Tryz.f202 zX_a zX_r x=zX_m n x.1:=by kernel_rfl
def yK4(aL:List Nat)(aX:Int)(v1:Nat)(ar:Int):Option ((Int×Unit)⊕(Int)):=
  (Option.bind (ze_M v1) λ v2=>(bif v2.1 != 0 then (some (Sum.inl ((v2.1,()))))else (some (Sum.inr (v2.1)))))
def yOF(aL:List Nat)(ar:Int):Option (Int×Unit):=
  (some ((ar,())))
theorem yHD(n:Nat)(hn:big<=n)(aL:List Nat)(ar:Int)(hx:List.length (aL) < lenMax):LeF some (yM (λ ah aF a7=>yK4 aL ah aF a7) (λ a7=>yOF aL a7) 0 (aL) ar) (yBJ n n ar aL (List.length (aL):Int) 0):=by
  refine yQ (f:=some) (W:=λ aB ah a7=>yBJ n aB a7 aL (List.length (aL):Int) ah) (body:=(λ ah aF a7=>yK4 aL ah aF a7)) (fin:=(λ a7=>yOF aL a7)) (λ aB ah a7=>?_) hx ar n (by unfold big at hn;unfold lenMax at hx;omega)
  show LeF _ _ (yK6 n (yBJ n aB) a7 aL (List.length (aL):Int) ah)
  exact y6 (y8 λ v1=>(y8 λ v2=>(y6 (y7 rfl) (y7 rfl)))) (yp (y7 rfl))
def zX_M(l:List Nat):Option (Int×Unit):=
  (bif decide (List.length (l) < lenMax)then yM (λ ah aF a7=>yK4 (l) ah aF a7) (λ a7=>yOF (l) a7) 0 (l) ((0:Int))else none)
theorem yYN(l:List Nat)(y:Int×Unit)(h:zX_M l=some y):∃ n,zX_m n l=some y:=
  ⟨big,LeF.top (show LeF some (zX_M l) (zX_m big l)from (λ (n:Nat) (hn:big<=n)=>show LeF some (zX_M l) (zX_m n l)from (yN λ hx=>by apply yHD n hn;exact hx)) big (Nat.le_refl _)) h⟩
def zX_e:Entry:={ f:=202,args:=zX_a,ress:=zX_r,m:=λ x=>zX_M x.1 }
theorem yet:FnOK Tryz.prog zX_e:=yJ (g:=zX_g) (fn:=Tryz.f202) yC yI (yA yZF eNil) (by kernel_rfl) (by kernel_rfl) (by kernel_rfl) (λ x y h=>let ⟨n,hn⟩:=yYN x.1 y h;⟨yZ6 n,iNil,(ydf n x).trans hn⟩)
abbrev zf_a:Ty:=.pair t58 .unit
abbrev zf_r:Ty:=.pair t28 .unit
def zf_g:G:={ T:=T,E:=[zr_e,z0q_e,z0Y_e],muts:=[],fz:=[] }
def zf_k:List (List Nat):=[[0,9,10,11]]
def yXE(n:Nat):Ann:={ keep:=zf_k,fuel:=n,inl:=[],deep:=0 }
def yJg(n:Nat)(r0:List (Q4)->List (Q4)->Int->Int->Option (Int×Unit))(ae:List (Q4))(aw:List (Q4))(be:Int)(az:Int):Option (Int×Unit):=
  (bif decide (az < be)then (Option.bind (idx aw az) λ v1=>(bif decide (az > 0)then (Option.bind (idx ae (if Bool.true=Bool.true then if IntKind.i64.wrap (az - (1:Int)) > 0 then IntKind.i64.wrap (az - (1:Int))else (0:Int)else if IntKind.i64.wrap (az - (1:Int)) < 0 then IntKind.i64.wrap (az - (1:Int))else (0:Int))) λ v2=>(Option.bind (y6f [(zr (v1.1,v1.2.1,())).1,(z0q (decide (v1.1<=v2.2.1)) (11:Int)).1]) λ v3=>(bif v3.1 != 0 then some (v3.1,())else r0 ae aw be (IntKind.i64.wrap (az+1)))))else (Option.bind (y6f [(zr (v1.1,v1.2.1,())).1,(z0q Bool.false (11:Int)).1]) λ v4=>(bif v4.1 != 0 then some (v4.1,())else r0 ae aw be (IntKind.i64.wrap (az+1))))))else some ((0:Int),()))
def yBH(n:Nat)(k:Nat)(ae:List (Q4))(aw:List (Q4))(be:Int)(az:Int):Option (Int×Unit):=
  iter (λ r y=>yJg n (λ ae aw be az=>r ((ae,(aw,(be,(az,())))),((),()))) y.1.1 y.1.2.1 y.1.2.2.1 y.1.2.2.2.1) k ((ae,(aw,(be,(az,())))),((),()))
def zf_m(n:Nat)(l:List (Q4)):Option (Int×Unit):=
  (bif decide ((↑l.length:Int) > 2048)then some ((5:Int),())else (yBH n n (l) (l) ((↑l.length:Int)) ((0:Int))))
theorem ydI(n:Nat)(x:zf_a.den):runF zf_g (yXE n) Tryz.f203 zf_a zf_r x=zf_m n x.1:=by kernel_rfl
def yIk(ae:List (Q4))(aw:List (Q4))(az:Int)(v1:Q4):Option ((Int×Unit)⊕Unit):=
  (bif decide (az > 0)then (Option.bind (idx ae (if Bool.true=Bool.true then if IntKind.i64.wrap (az - (1:Int)) > 0 then IntKind.i64.wrap (az - (1:Int))else (0:Int)else if IntKind.i64.wrap (az - (1:Int)) < 0 then IntKind.i64.wrap (az - (1:Int))else (0:Int))) λ v2=>(Option.bind (y6f [(zr (v1.1,v1.2.1,())).1,(z0q (decide (v1.1<=v2.2.1)) (11:Int)).1]) λ v3=>(bif v3.1 != 0 then (some (Sum.inl ((v3.1,()))))else (some (Sum.inr ())))))else (Option.bind (y6f [(zr (v1.1,v1.2.1,())).1,(z0q Bool.false (11:Int)).1]) λ v4=>(bif v4.1 != 0 then (some (Sum.inl ((v4.1,()))))else (some (Sum.inr ())))))
def yO4(ae:List (Q4))(aw:List (Q4)):Option (Int×Unit):=
  (some (((0:Int),())))
theorem yH9(n:Nat)(hn:big<=n)(ae:List (Q4))(aw:List (Q4))(hx:List.length (aw) < lenMax):LeF some (yM (λ ah aF a7=>yIk ae aw ah aF) (λ a7=>yO4 ae aw) 0 (aw) ()) (yBH n n ae aw (List.length (aw):Int) 0):=by
  refine yQ (f:=some) (W:=λ aB ah a7=>yBH n aB ae aw (List.length (aw):Int) ah) (body:=(λ ah aF a7=>yIk ae aw ah aF)) (fin:=(λ a7=>yO4 ae aw)) (λ aB ah a7=>?_) hx () n (by unfold big at hn;unfold lenMax at hx;omega)
  show LeF _ _ (yJg n (yBH n aB) ae aw (List.length (aw):Int) ah)
  exact y6 (y8 λ v1=>(y6 (y8 λ v2=>(y8 λ v3=>(y6 (y7 rfl) (y7 rfl)))) (y8 λ v4=>(y6 (y7 rfl) (y7 rfl))))) (yp (y7 rfl))
def zf_M(l:List (Q4)):Option (Int×Unit):=
  (bif decide ((↑l.length:Int) > 2048)then (some (((5:Int),())))else (bif decide (List.length (l) < lenMax)then yM (λ ah aF a7=>yIk (l) (l) ah aF) (λ a7=>yO4 (l) (l)) 0 (l) ()else none))
theorem yVf(l:List (Q4))(y:Int×Unit)(h:zf_M l=some y):∃ n,zf_m n l=some y:=
  ⟨big,LeF.top (show LeF some (zf_M l) (zf_m big l)from (λ (n:Nat) (hn:big<=n)=>show LeF some (zf_M l) (zf_m n l)from (y6 (y7 rfl) (yN λ hx=>by apply yH9 n hn;exact hx))) big (Nat.le_refl _)) h⟩
def zf_e:Entry:={ f:=203,args:=zf_a,ress:=zf_r,m:=λ x=>zf_M x.1 }
theorem ycQ:FnOK Tryz.prog zf_e:=yJ (g:=zf_g) (fn:=Tryz.f203) yC yI (yA ydQ (yA yD7 (yA yPi eNil))) (by kernel_rfl) (by kernel_rfl) (by kernel_rfl) (λ x y h=>let ⟨n,hn⟩:=yVf x.1 y h;⟨yXE n,iNil,(ydI n x).trans hn⟩)
abbrev zS_a:Ty:=.pair t63 (.pair (.ref t60) .unit)
abbrev zS_r:Ty:=.pair t4 .unit
def zS_g:G:={ T:=T,E:=[zE_e,zQ_e],muts:=[],fz:=[] }
def zS_k:List (List Nat):=[]
def yV8(n:Nat):Ann:={ keep:=zS_k,fuel:=n,inl:=[],deep:=0 }
def zS_m(n:Nat)(s:Q4)(p1:Q1):Option (Bool×Unit):=
  (bif decide ((0:Int)<=s.1) && decide (s.1<=s.2.1) && decide (s.2.1<=(↑p1.2.2.1.length:Int))then (Option.bind (zE_M (List.drop s.1.toNat (List.take s.2.1.toNat p1.2.2.1)) λ (x:Nat×Unit)=>zQ_M x.1) λ v0=>some (v0.1,()))else none)
theorem ydD(n:Nat)(x:zS_a.den):runF zS_g (yV8 n) Tryz.f206 zS_a zS_r x=zS_m n x.1 x.2.1:=by kernel_rfl
def zS_M(s:Q4)(p1:Q1):Option (Bool×Unit):=zS_m 0 s p1
theorem yZt(s:Q4)(p1:Q1)(y:Bool×Unit)(h:zS_M s p1=some y):∃ n,zS_m n s p1=some y:=⟨0,h⟩
def zS_e:Entry:={ f:=206,args:=zS_a,ress:=zS_r,m:=λ x=>zS_M x.1 x.2.1 }
theorem ye0:FnOK Tryz.prog zS_e:=yJ (g:=zS_g) (fn:=Tryz.f206) yC yI (yA yde (yA yeA eNil)) (by kernel_rfl) (by kernel_rfl) (by kernel_rfl) (λ x y h=>let ⟨n,hn⟩:=yZt x.1 x.2.1 y h;⟨yV8 n,iNil,(ydD n x).trans hn⟩)
end
end Go.Tw
end
section
set_option maxRecDepth 1000000
namespace Go.Tw
open Go.Vx Go.Vx.B Go.Proofs
noncomputable section
abbrev yQu:Ty:=.pair t94 (.pair t22 .unit)
abbrev ybK:Ty:=.pair t96 .unit
def yVI:G:={ T:=T,E:=[z0e_e,z0f_e],muts:=[5,8],fz:=[] }
def yco:List (List Nat):=[[1,5,6,7],[1,5,6,7,8,9]]
def yPa(n:Nat):Ann:={ keep:=yco,fuel:=n,inl:=[],deep:=0 }
def yF1(n:Nat)(r1:List (Q3)->List Int->Int->List (List (Q4))->Option (List (List (Q4))×Unit))(r2:List (Q3)->List Int->Int->Int->List (List (Q4))->List (Q4)->Option (List (List (Q4))×Unit))(aC:List (Q3))(ak:List Int)(aM:Int)(bh:Int)(ax:List (List (Q4)))(aW:List (Q4)):Option (List (List (Q4))×Unit):=
  (bif decide (bh < (↑aC.length:Int))then (Option.bind (idx aC aM) λ v3=>(Option.bind (idx aC bh) λ v4=>(Option.bind (y8u ak v3 v4) λ v5=>(bif decide (aW.length+(1:Nat)<=memMax)then r2 aC ak aM (IntKind.i64.wrap (bh+1)) ax (aW++[v5.1])else none))))else (bif decide (ax.length+(1:Nat)<=memMax)then r1 aC ak (IntKind.i64.wrap (aM+1)) (ax++[aW])else none))
def y7O(n:Nat)(r1:List (Q3)->List Int->Int->List (List (Q4))->Option (List (List (Q4))×Unit))(k:Nat)(aC:List (Q3))(ak:List Int)(aM:Int)(bh:Int)(ax:List (List (Q4)))(aW:List (Q4)):Option (List (List (Q4))×Unit):=
  iter (λ r y=>yF1 n r1 (λ aC ak aM bh ax aW=>r ((aC,(ak,(aM,(bh,())))),((ax,(aW,())),()))) y.1.1 y.1.2.1 y.1.2.2.1 y.1.2.2.2.1 y.2.1.1 y.2.1.2.1) k ((aC,(ak,(aM,(bh,())))),((ax,(aW,())),()))
def yFt(n:Nat)(r1:List (Q3)->List Int->Int->List (List (Q4))->Option (List (List (Q4))×Unit))(aK:List (Q3))(am:List Int)(bi:Int)(aY:List (List (Q4))):Option (List (List (Q4))×Unit):=
  (bif decide (bi < (↑aK.length:Int))then (y7O n r1 n (aK) (am) (bi) ((0:Int)) (aY) ([]))else some (aY,()))
def y7B(n:Nat)(k:Nat)(aK:List (Q3))(am:List Int)(bi:Int)(aY:List (List (Q4))):Option (List (List (Q4))×Unit):=
  iter (λ r y=>yFt n (λ aK am bi aY=>r ((aK,(am,(bi,()))),((aY,()),()))) y.1.1 y.1.2.1 y.1.2.2.1 y.2.1.1) k ((aK,(am,(bi,()))),((aY,()),()))
def yMo(n:Nat)(rp:Q1)(l:List (Q3)):Option (List (List (Q4))×Unit):=
  (Option.bind (y66 rp) λ v0=>(y7B n n (l) (v0.1) ((0:Int)) ([])))
theorem yWr(n:Nat)(x:yQu.den):runF yVI (yPa n) Tryz.f60 yQu ybK x=yMo n x.1 x.2.1:=by kernel_rfl
def yG5(aC:List (Q3))(ak:List Int)(aM:Int)(ax:List (List (Q4)))(bh:Int)(aW:List (Q4)):Option (((List (List (Q4))×Unit)⊕(List (List (Q4))))⊕(List (Q4))):=
  (Option.bind (idx aC aM) λ v3=>(Option.bind (idx aC bh) λ v4=>(Option.bind (y8u ak v3 v4) λ v5=>(bif decide (aW.length+(1:Nat)<=memMax)then (some (Sum.inr (aW++[v5.1])))else none))))
def yFK(aC:List (Q3))(ak:List Int)(aM:Int)(ax:List (List (Q4)))(aW:List (Q4)):Option ((List (List (Q4))×Unit)⊕(List (List (Q4)))):=
  (bif decide (ax.length+(1:Nat)<=memMax)then (some (Sum.inr (ax++[aW])))else none)
theorem yDn(n:Nat)(hn:big<=n)(r1:List (Q3)->List Int->Int->List (List (Q4))->Option (List (List (Q4))×Unit))(aC:List (Q3))(ak:List Int)(aM:Int)(ax:List (List (Q4)))(aW:List (Q4))(hx:((↑aC.length:Int))<=9223372036854775807):LeF (elim some λ (a7:(List (List (Q4))))=>r1 aC ak (IntKind.i64.wrap (aM+1)) a7) (y0B (λ ah a7=>yG5 aC ak aM ax ah a7) (λ a7=>yFK aC ak aM ax a7) (((↑aC.length:Int)) - 0).toNat 0 aW) (y7O n r1 n aC ak aM 0 ax aW):=by
  refine y0X (f:=(elim some λ (a7:(List (List (Q4))))=>r1 aC ak (IntKind.i64.wrap (aM+1)) a7)) (W:=λ aB ah a7=>y7O n r1 aB aC ak aM ah ax a7) (body:=(λ ah a7=>yG5 aC ak aM ax ah a7)) (fin:=(λ a7=>yFK aC ak aM ax a7)) (λ aB ah a7=>?_) hx aW n 0 (by decide) (by unfold big at hn;omega)
  show LeF _ _ (yF1 n r1 (y7O n r1 aB) aC ak aM ah ax a7)
  exact y6 (y8 λ v3=>(y8 λ v4=>(y8 λ v5=>(y6 (y7 rfl) y01)))) (yp (y6 (y7 rfl) y01))
def yCH(aK:List (Q3))(am:List Int)(bi:Int)(aY:List (List (Q4))):Option ((List (List (Q4))×Unit)⊕(List (List (Q4)))):=
  (bif decide (((↑aK.length:Int))<=9223372036854775807)then y0B (λ ah a7=>yG5 (aK) (am) (bi) (aY) ah a7) (λ a7=>yFK (aK) (am) (bi) (aY) a7) (((↑aK.length:Int)) - 0).toNat 0 ([])else none)
def yEv(aK:List (Q3))(am:List Int)(aY:List (List (Q4))):Option (List (List (Q4))×Unit):=
  (some ((aY,())))
theorem yEK(n:Nat)(hn:big<=n)(aK:List (Q3))(am:List Int)(aY:List (List (Q4)))(hx:((↑aK.length:Int))<=9223372036854775807):LeF some (y0B (λ ah a7=>yCH aK am ah a7) (λ a7=>yEv aK am a7) (((↑aK.length:Int)) - 0).toNat 0 aY) (y7B n n aK am 0 aY):=by
  refine y0X (f:=some) (W:=λ aB ah a7=>y7B n aB aK am ah a7) (body:=(λ ah a7=>yCH aK am ah a7)) (fin:=(λ a7=>yEv aK am a7)) (λ aB ah a7=>?_) hx aY n 0 (by decide) (by unfold big at hn;omega)
  show LeF _ _ (yFt n (y7B n aB) aK am ah a7)
  exact y6 (yN λ hx=>by apply yDn n hn;exact hx) (yp (y7 rfl))
def yAt(rp:Q1)(l:List (Q3)):Option (List (List (Q4))×Unit):=
  (Option.bind (y66 rp) λ v0=>(bif decide (((↑l.length:Int))<=9223372036854775807)then y0B (λ ah a7=>yCH (l) (v0.1) ah a7) (λ a7=>yEv (l) (v0.1) a7) (((↑l.length:Int)) - 0).toNat 0 ([])else none))
theorem yQw(rp:Q1)(l:List (Q3))(y:List (List (Q4))×Unit)(h:yAt rp l=some y):∃ n,yMo n rp l=some y:=
  ⟨big,LeF.top (show LeF some (yAt rp l) (yMo big rp l)from (λ (n:Nat) (hn:big<=n)=>show LeF some (yAt rp l) (yMo n rp l)from (y8 λ v0=>(yN λ hx=>by apply yEK n hn;exact hx))) big (Nat.le_refl _)) h⟩
def z0O_e:Entry:={ f:=60,args:=yQu,ress:=ybK,m:=λ x=>yAt x.1 x.2.1 }
theorem yOz:FnOK Tryz.prog z0O_e:=yJ (g:=yVI) (fn:=Tryz.f60) yC yI (yA yFT (yA yOu eNil)) (by kernel_rfl) (by kernel_rfl) (by kernel_rfl) (λ x y h=>let ⟨n,hn⟩:=yQw x.1 x.2.1 y h;⟨yPa n,iNil,(yWr n x).trans hn⟩)
abbrev yU8:Ty:=.pair t35 .unit
abbrev yZa:Ty:=.pair t41 (.pair t28 .unit)
def yb8:G:={ T:=T,E:=[z0o_e],muts:=[],fz:=[] }
def ydt:List (List Nat):=[]
def yPA(n:Nat):Ann:={ keep:=ydt,fuel:=n,inl:=[],deep:=0 }
def yQq(n:Nat)(l:List Nat):Option (List Int×Int×Unit):=
  (Option.bind (yNg l (nat_lit 1065353216)) λ v0=>some (v0.1,v0.2.1,()))
theorem yVw(n:Nat)(x:yU8.den):runF yb8 (yPA n) Tryz.f71 yU8 yZa x=yQq n x.1:=by kernel_rfl
def yRZ(l:List Nat):Option (List Int×Int×Unit):=yQq 0 l
theorem yUa(l:List Nat)(y:List Int×Int×Unit)(h:yRZ l=some y):∃ n,yQq n l=some y:=⟨0,h⟩
def z10_e:Entry:={ f:=71,args:=yU8,ress:=yZa,m:=λ x=>yRZ x.1 }
theorem yYn:FnOK Tryz.prog z10_e:=yJ (g:=yb8) (fn:=Tryz.f71) yC yI (yA yP6 eNil) (by kernel_rfl) (by kernel_rfl) (by kernel_rfl) (λ x y h=>let ⟨n,hn⟩:=yUa x.1 y h;⟨yPA n,iNil,(yVw n x).trans hn⟩)
abbrev yU0:Ty:=.pair t35 .unit
abbrev yZJ:Ty:=.pair t41 (.pair t28 .unit)
def yVy:G:={ T:=T,E:=[z0o_e],muts:=[],fz:=[] }
def ybu:List (List Nat):=[]
def yOk(n:Nat):Ann:={ keep:=ybu,fuel:=n,inl:=[],deep:=0 }
def yRl(n:Nat)(l:List Nat):Option (List Int×Int×Unit):=
  (Option.bind (yNg l (nat_lit 3212836864)) λ v0=>some (v0.1,v0.2.1,()))
theorem yXn(n:Nat)(x:yU0.den):runF yVy (yOk n) Tryz.f72 yU0 yZJ x=yRl n x.1:=by kernel_rfl
def yQj(l:List Nat):Option (List Int×Int×Unit):=yRl 0 l
theorem yR4(l:List Nat)(y:List Int×Int×Unit)(h:yQj l=some y):∃ n,yRl n l=some y:=⟨0,h⟩
def z1G_e:Entry:={ f:=72,args:=yU0,ress:=yZJ,m:=λ x=>yQj x.1 }
theorem yX9:FnOK Tryz.prog z1G_e:=yJ (g:=yVy) (fn:=Tryz.f72) yC yI (yA yP6 eNil) (by kernel_rfl) (by kernel_rfl) (by kernel_rfl) (λ x y h=>let ⟨n,hn⟩:=yR4 x.1 y h;⟨yOk n,iNil,(yXn n x).trans hn⟩)
abbrev zN_a:Ty:=.pair t31 .unit
abbrev zN_r:Ty:=.pair t28 .unit
def zN_g:G:={ T:=T,E:=[z1K_e,z15_e,zO_e],muts:=[21],fz:=[] }
def zN_k:List (List Nat):=[[4,22,23,24]]
def yXZ(n:Nat):Ann:={ keep:=zN_k,fuel:=n,inl:=[],deep:=0 }
def yLH(n:Nat)(r1:List (Q3)->Int->Int->List (List UInt8×Bool)->Option (Int×Unit))(av:List (Q3))(bf:Int)(b6:Int)(aZ:List (List UInt8×Bool)):Option (Int×Unit):=
  (bif decide (b6 < bf)then (Option.bind (idx av b6) λ v2=>(Option.bind (zO_M (v2.1,v2.2.1,v2.2.2.1,())) λ v3=>(Option.bind (y1j [v3.1,(z1K ((y0P Ty.str Ty.bool aZ v2.1).getD Bool.false) (9:Int)).1]) λ v4=>(bif v4.1 != 0 then some (v4.1,())else r1 av bf (IntKind.i64.wrap (b6+1)) (y1P Ty.str Ty.bool aZ v2.1 Bool.true)))))else some ((0:Int),()))
def yAN(n:Nat)(k:Nat)(av:List (Q3))(bf:Int)(b6:Int)(aZ:List (List UInt8×Bool)):Option (Int×Unit):=
  iter (λ r y=>yLH n (λ av bf b6 aZ=>r ((av,(bf,(b6,()))),((aZ,()),()))) y.1.1 y.1.2.1 y.1.2.2.1 y.2.1.1) k ((av,(bf,(b6,()))),((aZ,()),()))
def zN_m(n:Nat)(l:List (Q3)):Option (Int×Unit):=
  (Option.bind (y1j [(z1K ((↑l.length:Int)==0) (12:Int)).1,(z1K (decide ((↑l.length:Int) > 4)) (5:Int)).1]) λ v0=>(bif v0.1 != 0 then some (v0.1,())else (yAN n n (l) ((↑l.length:Int)) ((0:Int)) ([]))))
theorem ycW(n:Nat)(x:zN_a.den):runF zN_g (yXZ n) Tryz.f88 zN_a zN_r x=zN_m n x.1:=by kernel_rfl
def yI8(av:List (Q3))(b6:Int)(v2:Q3)(aZ:List (List UInt8×Bool)):Option ((Int×Unit)⊕(List (List UInt8×Bool))):=
  (Option.bind (zO_M (v2.1,v2.2.1,v2.2.2.1,())) λ v3=>(Option.bind (y1j [v3.1,(z1K ((y0P Ty.str Ty.bool aZ v2.1).getD Bool.false) (9:Int)).1]) λ v4=>(bif v4.1 != 0 then (some (Sum.inl ((v4.1,()))))else (some (Sum.inr (y1P Ty.str Ty.bool aZ v2.1 Bool.true))))))
def yMK(av:List (Q3))(aZ:List (List UInt8×Bool)):Option (Int×Unit):=
  (some (((0:Int),())))
theorem yH3(n:Nat)(hn:big<=n)(av:List (Q3))(aZ:List (List UInt8×Bool))(hx:List.length (av) < lenMax):LeF some (yM (λ ah aF a7=>yI8 av ah aF a7) (λ a7=>yMK av a7) 0 (av) aZ) (yAN n n av (List.length (av):Int) 0 aZ):=by
  refine yQ (f:=some) (W:=λ aB ah a7=>yAN n aB av (List.length (av):Int) ah a7) (body:=(λ ah aF a7=>yI8 av ah aF a7)) (fin:=(λ a7=>yMK av a7)) (λ aB ah a7=>?_) hx aZ n (by unfold big at hn;unfold lenMax at hx;omega)
  show LeF _ _ (yLH n (yAN n aB) av (List.length (av):Int) ah a7)
  exact y6 (y8 λ v2=>(y8 λ v3=>(y8 λ v4=>(y6 (y7 rfl) (y7 rfl))))) (yp (y7 rfl))
def zN_M(l:List (Q3)):Option (Int×Unit):=
  (Option.bind (y1j [(z1K ((↑l.length:Int)==0) (12:Int)).1,(z1K (decide ((↑l.length:Int) > 4)) (5:Int)).1]) λ v0=>(bif v0.1 != 0 then (some ((v0.1,())))else (bif decide (List.length (l) < lenMax)then yM (λ ah aF a7=>yI8 (l) ah aF a7) (λ a7=>yMK (l) a7) 0 (l) ([])else none)))
theorem yV5(l:List (Q3))(y:Int×Unit)(h:zN_M l=some y):∃ n,zN_m n l=some y:=
  ⟨big,LeF.top (show LeF some (zN_M l) (zN_m big l)from (λ (n:Nat) (hn:big<=n)=>show LeF some (zN_M l) (zN_m n l)from (y8 λ v0=>(y6 (y7 rfl) (yN λ hx=>by apply yH3 n hn;exact hx)))) big (Nat.le_refl _)) h⟩
def zN_e:Entry:={ f:=88,args:=zN_a,ress:=zN_r,m:=λ x=>zN_M x.1 }
theorem yas:FnOK Tryz.prog zN_e:=yJ (g:=zN_g) (fn:=Tryz.f88) yC yI (yA y5h (yA y3b (yA yeQ eNil))) (by kernel_rfl) (by kernel_rfl) (by kernel_rfl) (λ x y h=>let ⟨n,hn⟩:=yV5 x.1 y h;⟨yXZ n,iNil,(ycW n x).trans hn⟩)
abbrev za_a:Ty:=.pair t94 (.pair t22 (.pair t23 .unit))
abbrev za_r:Ty:=.pair t3 .unit
def za_g:G:={ T:=T,E:=[zx_e,z0e_e,z1F_e],muts:=[],fz:=[] }
def za_k:List (List Nat):=[[1,2,3,7,8],[1,2,10,11]]
def yW0(n:Nat):Ann:={ keep:=za_k,fuel:=n,inl:=[],deep:=0 }
def yKb(n:Nat)(r8:List (Q3)->List (Q4)->List Int->Int->Option (Int×Unit))(aT:List (Q3))(aU:List (Q4))(a8:List Int)(b7:Int):Option (Int×Unit):=
  (bif decide (b7 < (↑a8.length:Int))then (Option.bind (idx a8 b7) λ v9=>(Option.bind (yBu aT aU v9) λ v10=>(bif !eqV ((Ty.int IntKind.i64).pair ((Ty.int IntKind.i64).pair Ty.unit)) v10.1 ((0:Int),(0:Int),())then some ((22:Int),())else r8 aT aU a8 (IntKind.i64.wrap (b7+1)))))else some ((0:Int),()))
def yAY(n:Nat)(k:Nat)(aT:List (Q3))(aU:List (Q4))(a8:List Int)(b7:Int):Option (Int×Unit):=
  iter (λ r y=>yKb n (λ aT aU a8 b7=>r ((aT,(aU,(a8,(b7,())))),((),()))) y.1.1 y.1.2.1 y.1.2.2.1 y.1.2.2.2.1) k ((aT,(aU,(a8,(b7,())))),((),()))
def yL6(n:Nat)(r0:List (Q3)->List (Q4)->Q1->Bool->Int->Option (Int×Unit))(aN:List (Q3))(aD:List (Q4))(aP:Q1)(au:Bool)(aJ:Int):Option (Int×Unit):=
  (bif decide (aJ < (↑aD.length:Int))then (Option.bind (idx aD aJ) λ v1=>(Option.bind (zx_M v1) λ v2=>(bif v2.1 != 0 then some (v2.1,())else (bif au then (Option.bind (idx aD aJ) λ v3=>r0 aN aD aP (eqV ((Ty.int IntKind.i64).pair ((Ty.int IntKind.i64).pair Ty.unit)) v3 ((0:Int),(0:Int),())) (IntKind.i64.wrap (aJ+1)))else r0 aN aD aP Bool.false (IntKind.i64.wrap (aJ+1))))))else (bif au then some ((6:Int),())else (Option.bind (y66 aP) λ v7=>(yAY n n (aN) (aD) (v7.1) ((0:Int))))))
def yAm(n:Nat)(k:Nat)(aN:List (Q3))(aD:List (Q4))(aP:Q1)(au:Bool)(aJ:Int):Option (Int×Unit):=
  iter (λ r y=>yL6 n (λ aN aD aP au aJ=>r ((aN,(aD,(aP,(au,(aJ,()))))),((),()))) y.1.1 y.1.2.1 y.1.2.2.1 y.1.2.2.2.1 y.1.2.2.2.2.1) k ((aN,(aD,(aP,(au,(aJ,()))))),((),()))
def za_m(n:Nat)(rp:Q1)(l:List (Q3))(v:List (Q4)):Option (Int×Unit):=
  (bif (↑v.length:Int) != (↑l.length:Int)then some ((2:Int),())else (yAm n n (l) (v) (rp) (Bool.true) ((0:Int))))
theorem yeu(n:Nat)(x:za_a.den):runF za_g (yW0 n) Tryz.f91 za_a za_r x=za_m n x.1 x.2.1 x.2.2.1:=by kernel_rfl
def yLe(aT:List (Q3))(aU:List (Q4))(a8:List Int)(b7:Int)(v9:Int):Option ((Int×Unit)⊕Unit):=
  (Option.bind (yBu aT aU v9) λ v10=>(bif !eqV ((Ty.int IntKind.i64).pair ((Ty.int IntKind.i64).pair Ty.unit)) v10.1 ((0:Int),(0:Int),())then (some (Sum.inl (((22:Int),()))))else (some (Sum.inr ()))))
def yU5(aT:List (Q3))(aU:List (Q4))(a8:List Int):Option (Int×Unit):=
  (some (((0:Int),())))
theorem yI9(n:Nat)(hn:big<=n)(aT:List (Q3))(aU:List (Q4))(a8:List Int)(hx:List.length (a8) < lenMax):LeF some (yM (λ ah aF a7=>yLe aT aU a8 ah aF) (λ a7=>yU5 aT aU a8) 0 (a8) ()) (yAY n n aT aU a8 0):=by
  refine yQ (f:=some) (W:=λ aB ah a7=>yAY n aB aT aU a8 ah) (body:=(λ ah aF a7=>yLe aT aU a8 ah aF)) (fin:=(λ a7=>yU5 aT aU a8)) (λ aB ah a7=>?_) hx () n (by unfold big at hn;unfold lenMax at hx;omega)
  show LeF _ _ (yKb n (yAY n aB) aT aU a8 ah)
  exact y6 (y8 λ v9=>(y8 λ v10=>(y6 (y7 rfl) (y7 rfl)))) (yp (y7 rfl))
def yGv(aN:List (Q3))(aD:List (Q4))(aP:Q1)(aJ:Int)(v1:Q4)(au:Bool):Option ((Int×Unit)⊕(Bool)):=
  (Option.bind (zx_M v1) λ v2=>(bif v2.1 != 0 then (some (Sum.inl ((v2.1,()))))else (bif au then (Option.bind (idx aD aJ) λ v3=>(some (Sum.inr (eqV ((Ty.int IntKind.i64).pair ((Ty.int IntKind.i64).pair Ty.unit)) v3 ((0:Int),(0:Int),())))))else (some (Sum.inr (Bool.false))))))
def yI3(aN:List (Q3))(aD:List (Q4))(aP:Q1)(au:Bool):Option (Int×Unit):=
  (bif au then (some (((6:Int),())))else (Option.bind (y66 aP) λ v7=>(bif decide (List.length (v7.1) < lenMax)then yM (λ ah aF a7=>yLe (aN) (aD) (v7.1) ah aF) (λ a7=>yU5 (aN) (aD) (v7.1)) 0 (v7.1) ()else none)))
theorem yHk(n:Nat)(hn:big<=n)(aN:List (Q3))(aD:List (Q4))(aP:Q1)(au:Bool)(hx:List.length (aD) < lenMax):LeF some (yM (λ ah aF a7=>yGv aN aD aP ah aF a7) (λ a7=>yI3 aN aD aP a7) 0 (aD) au) (yAm n n aN aD aP au 0):=by
  refine yQ (f:=some) (W:=λ aB ah a7=>yAm n aB aN aD aP a7 ah) (body:=(λ ah aF a7=>yGv aN aD aP ah aF a7)) (fin:=(λ a7=>yI3 aN aD aP a7)) (λ aB ah a7=>?_) hx au n (by unfold big at hn;unfold lenMax at hx;omega)
  show LeF _ _ (yL6 n (yAm n aB) aN aD aP a7 ah)
  exact y6 (y8 λ v1=>(y8 λ v2=>(y6 (y7 rfl) (y6 (y8 λ v3=>(y7 rfl)) (y7 rfl))))) (yp (y6 (y7 rfl) (y8 λ v7=>(yN λ hx=>by apply yI9 n hn;exact hx))))
def za_M(rp:Q1)(l:List (Q3))(v:List (Q4)):Option (Int×Unit):=
  (bif (↑v.length:Int) != (↑l.length:Int)then (some (((2:Int),())))else (bif decide (List.length (v) < lenMax)then yM (λ ah aF a7=>yGv (l) (v) (rp) ah aF a7) (λ a7=>yI3 (l) (v) (rp) a7) 0 (v) (Bool.true)else none))
theorem ybi(rp:Q1)(l:List (Q3))(v:List (Q4))(y:Int×Unit)(h:za_M rp l v=some y):∃ n,za_m n rp l v=some y:=
  ⟨big,LeF.top (show LeF some (za_M rp l v) (za_m big rp l v)from (λ (n:Nat) (hn:big<=n)=>show LeF some (za_M rp l v) (za_m n rp l v)from (y6 (y7 rfl) (yN λ hx=>by apply yHk n hn;exact hx))) big (Nat.le_refl _)) h⟩
def za_e:Entry:={ f:=91,args:=za_a,ress:=za_r,m:=λ x=>za_M x.1 x.2.1 x.2.2.1 }
theorem ybx:FnOK Tryz.prog za_e:=yJ (g:=za_g) (fn:=Tryz.f91) yC yI (yA ydP (yA yFT (yA ybO eNil))) (by kernel_rfl) (by kernel_rfl) (by kernel_rfl) (λ x y h=>let ⟨n,hn⟩:=ybi x.1 x.2.1 x.2.2.1 y h;⟨yW0 n,iNil,(yeu n x).trans hn⟩)
abbrev zh_a:Ty:=.pair t61 .unit
abbrev zh_r:Ty:=.pair t3 .unit
def zh_g:G:={ T:=T,E:=[z0w_e,z0v_e,z0u_e],muts:=[],fz:=[] }
def zh_k:List (List Nat):=[]
def ybe(n:Nat):Ann:={ keep:=zh_k,fuel:=n,inl:=[],deep:=0 }
def zh_m(n:Nat)(xp:Nat):Option (Int×Unit):=
  (Option.bind (y1g Go.FloatKind.f32 xp Go.FloatKind.f64) λ v0=>(bif (z0w v0).1 then some ((1:Int),())else (Option.bind (yKC v0 (0:Int)) λ v1=>(bif v1.1 then some ((1:Int),())else (bif yx Go.BinOp.gtr Go.FloatKind.f64 v0 (nat_lit 4634204016564240384)then some ((3:Int),())else (bif yx Go.BinOp.lss Go.FloatKind.f64 v0 (nat_lit 13857576053419016192)then some ((3:Int),())else (Option.bind (y7t (y08 Go.BinOp.mul Go.FloatKind.f64 (nat_lit 4625196817309499392) v0)) λ v4=>(bif yx Go.BinOp.neq Go.FloatKind.f64 (y08 Go.BinOp.mul Go.FloatKind.f64 (nat_lit 4625196817309499392) v0) v4.1 then some ((3:Int),())else some ((0:Int),())))))))))
theorem ycC(n:Nat)(x:zh_a.den):runF zh_g (ybe n) Tryz.f96 zh_a zh_r x=zh_m n x.1:=by kernel_rfl
def zh_M(xp:Nat):Option (Int×Unit):=zh_m 0 xp
theorem ybQ(xp:Nat)(y:Int×Unit)(h:zh_M xp=some y):∃ n,zh_m n xp=some y:=⟨0,h⟩
def zh_e:Entry:={ f:=96,args:=zh_a,ress:=zh_r,m:=λ x=>zh_M x.1 }
theorem ydg:FnOK Tryz.prog zh_e:=yJ (g:=zh_g) (fn:=Tryz.f96) yC yI (yA yVV (yA yaV (yA yWQ eNil))) (by kernel_rfl) (by kernel_rfl) (by kernel_rfl) (λ x y h=>let ⟨n,hn⟩:=ybQ x.1 y h;⟨ybe n,iNil,(ycC n x).trans hn⟩)
abbrev yT8:Ty:=.pair t31 (.pair t23 (.pair t3 .unit))
abbrev yZS:Ty:=.pair t33 .unit
def yW8:G:={ T:=T,E:=[z0l_e,z7_e,z0C_e,z0D_e,zI_e],muts:=[],fz:=[7] }
def ycn:List (List Nat):=[]
def yPT(n:Nat):Ann:={ keep:=ycn,fuel:=n,inl:=[],deep:=0 }
def ySP(n:Nat)(l:List (Q3))(amplitudes:List (Q4))(den:Int):Option ((Q2)×Unit):=
  (Option.bind (yGi amplitudes den) λ v0=>(Option.bind (z7_M l λ (x:(Q3)×Unit)=>yTF x.1) λ v1=>(Option.bind (zI_M amplitudes λ (x:(Q4)×Unit)=>yRI x.1 v0.1) λ v2=>(bif v0.1==0 then none else some ((v1.1,v2.1,IntKind.i64.wrap (den.tdiv v0.1),()),())))))
theorem yVT(n:Nat)(x:yT8.den):runF yW8 (yPT n) Tryz.f121 yT8 yZS x=ySP n x.1 x.2.1 x.2.2.1:=by kernel_rfl
def yTs(l:List (Q3))(amplitudes:List (Q4))(den:Int):Option ((Q2)×Unit):=ySP 0 l amplitudes den
theorem yTe(l:List (Q3))(amplitudes:List (Q4))(den:Int)(y:(Q2)×Unit)(h:yTs l amplitudes den=some y):∃ n,ySP n l amplitudes den=some y:=⟨0,h⟩
def z0W_e:Entry:={ f:=121,args:=yT8,ress:=yZS,m:=λ x=>yTs x.1 x.2.1 x.2.2.1 }
theorem yVC:FnOK Tryz.prog z0W_e:=yJ (g:=yW8) (fn:=Tryz.f121) yC yI (yA yP2 (yA ycH (yA ybI (yA yZu (yA ye2 eNil))))) (by kernel_rfl) (by kernel_rfl) (by kernel_rfl) (λ x y h=>let ⟨n,hn⟩:=yTe x.1 x.2.1 x.2.2.1 y h;⟨yPT n,iNil,(yVT n x).trans hn⟩)
abbrev ySb:Ty:=.pair t3 .unit
abbrev yXa:Ty:=.pair t69 .unit
def yWn:G:={ T:=T,E:=[z0H_e,z18_e],muts:=[],fz:=[] }
def ycm:List (List Nat):=[]
def yP3(n:Nat):Ann:={ keep:=ycm,fuel:=n,inl:=[],deep:=0 }
def yS1(n:Nat)(year:Int):Option ((Q4)×Unit):=
  (Option.bind (yHl (IntKind.i64.wrap ((104:Int) - (z0H (IntKind.i64.wrap (year.tmod (16:Int) - (8:Int)))).1)) (100:Int)) λ v0=>some ((v0.1.1,v0.1.2.1,()),()))
theorem yYa(n:Nat)(x:ySb.den):runF yWn (yP3 n) Tryz.f136 ySb yXa x=yS1 n x.1:=by kernel_rfl
def yQz(year:Int):Option ((Q4)×Unit):=yS1 0 year
theorem ySK(year:Int)(y:(Q4)×Unit)(h:yQz year=some y):∃ n,yS1 n year=some y:=⟨0,h⟩
def z17_e:Entry:={ f:=136,args:=ySb,ress:=yXa,m:=λ x=>yQz x.1 }
theorem yZg:FnOK Tryz.prog z17_e:=yJ (g:=yWn) (fn:=Tryz.f136) yC yI (yA yCi (yA yKT eNil)) (by kernel_rfl) (by kernel_rfl) (by kernel_rfl) (λ x y h=>let ⟨n,hn⟩:=ySK x.1 y h;⟨yP3 n,iNil,(yYa n x).trans hn⟩)
abbrev zW_a:Ty:=.pair t60 .unit
abbrev zW_r:Ty:=.pair t28 .unit
def zW_g:G:={ T:=T,E:=[z0J_e,z0q_e,z0K_e,z0Y_e,zX_e,zf_e,zR_e,zC_e,zS_e],muts:=[],fz:=[] }
def zW_k:List (List Nat):=[]
def yYo(n:Nat):Ann:={ keep:=zW_k,fuel:=n,inl:=[],deep:=0 }
def zW_m(n:Nat)(rp:Q1):Option (Int×Unit):=
  (Option.bind (yBW rp.1) λ v0=>(Option.bind (y6f [(z0q (!v0.1) (8:Int)).1,(z0K rp.2.1 (0:Int) (100000:Int)).1,(z0q (decide ((↑rp.2.2.1.length:Int) > 4096)) (5:Int)).1]) λ v1=>(bif v1.1 != 0 then some (v1.1,())else (Option.bind (zX_M rp.2.2.1) λ v2=>(Option.bind (zf_M rp.2.2.2.1) λ v3=>(Option.bind (y6f [v2.1,v3.1]) λ v4=>(bif v4.1 != 0 then some (v4.1,())else (Option.bind (zC_M rp.2.2.2.1 λ (x:(Q4)×Unit)=>zR_M x.1 rp) λ v5=>(bif v5.1 then some ((14:Int),())else (Option.bind (zC_M rp.2.2.2.1 λ (x:(Q4)×Unit)=>zS_M x.1 rp) λ v6=>some ((z0q v6.1 (1:Int)).1,())))))))))))
theorem yd4(n:Nat)(x:zW_a.den):runF zW_g (yYo n) Tryz.f157 zW_a zW_r x=zW_m n x.1:=by kernel_rfl
def zW_M(rp:Q1):Option (Int×Unit):=zW_m 0 rp
theorem ya0(rp:Q1)(y:Int×Unit)(h:zW_M rp=some y):∃ n,zW_m n rp=some y:=⟨0,h⟩
def zW_e:Entry:={ f:=157,args:=zW_a,ress:=zW_r,m:=λ x=>zW_M x.1 }
theorem yd9:FnOK Tryz.prog zW_e:=yJ (g:=zW_g) (fn:=Tryz.f157) yC yI (yA yOt (yA yD7 (yA yan (yA yPi (yA yet (yA ycQ (yA ydq (yA ydS (yA ye0 eNil))))))))) (by kernel_rfl) (by kernel_rfl) (by kernel_rfl) (λ x y h=>let ⟨n,hn⟩:=ya0 x.1 y h;⟨yYo n,iNil,(yd4 n x).trans hn⟩)
abbrev yQc:Ty:=.pair t55 (.pair (.ref t31) (.pair (.ref t60) .unit))
abbrev yad:Ty:=.pair t23 .unit
def yYq:G:={ T:=T,E:=[z01_e,zB_e],muts:=[],fz:=[] }
def ye9:List (List Nat):=[]
def yPR(n:Nat):Ann:={ keep:=ye9,fuel:=n,inl:=[],deep:=0 }
def yME(n:Nat)(a:Q3)(p1:List (Q3))(p2:Q1):Option (List (Q4)×Unit):=
  (Option.bind (zB_M p1 λ (x:(Q3)×Unit)=>yKw x.1 p2 a) λ v0=>some (v0.1,()))
theorem yaA(n:Nat)(x:yQc.den):runF yYq (yPR n) Tryz.f192 yQc yad x=yME n x.1 x.2.1 x.2.2.1:=by kernel_rfl
def yIA(a:Q3)(p1:List (Q3))(p2:Q1):Option (List (Q4)×Unit):=yME 0 a p1 p2
theorem yUZ(a:Q3)(p1:List (Q3))(p2:Q1)(y:List (Q4)×Unit)(h:yIA a p1 p2=some y):∃ n,yME n a p1 p2=some y:=⟨0,h⟩
def z0I_e:Entry:={ f:=192,args:=yQc,ress:=yad,m:=λ x=>yIA x.1 x.2.1 x.2.2.1 }
theorem yZB:FnOK Tryz.prog z0I_e:=yJ (g:=yYq) (fn:=Tryz.f192) yC yI (yA yYX (yA yS2 eNil)) (by kernel_rfl) (by kernel_rfl) (by kernel_rfl) (λ x y h=>let ⟨n,hn⟩:=yUZ x.1 x.2.1 x.2.2.1 y h;⟨yPR n,iNil,(yaA n x).trans hn⟩)
end
end Go.Tw
end
