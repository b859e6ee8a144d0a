import Derived.Test.YtpcnkpbpcebokaaGreatDoorBT
import Derived.Test.YtpcnkpbpcebokaaGreatDoorB0
import Derived.Test.YtpcnkpbpcebokaaGreatDoorBS
import Derived.Test.YtpcnkpbpcebokaaGreatDoorLQ
import Derived.Test.YtpcnkpbpcebokaaGreatDoorBA
import Derived.Test.YtpcnkpbpcebokaaGreatDoorLR
set_option linter.all false
section
set_option maxRecDepth 1000000
namespace Go.Tw
open Go.Vx Go.Vx.B Go.Proofs
noncomputable section
abbrev zJ_a:Ty:=.pair t22 .unit
abbrev zJ_r:Ty:=.pair t3 .unit
def zJ_g:G:={ T:=T,E:=[zn_e,ze_e,z0a_e],muts:=[],fz:=[] }
def zJ_k:List (List Nat):=[[0,3],[0,3,5]]
def yVV(n:Nat):Ann:={ keep:=zJ_k,fuel:=n,inl:=[],deep:=0 }
def yL9(n:Nat)(r0:List (Q3)->Int->Option (Int×Unit))(r6:List (Q3)->Int->Int->Option (Int×Unit))(aG:List (Q3))(aC:Int)(ba:Int):Option (Int×Unit) :=
  (bif decide (ba < aC)then (Option.bind (idx aG ba) λ v7=>(Option.bind (idx aG aC) λ v8=>(bif v7.1==v8.1 then some ((9:Int),())else r6 aG aC (IntKind.i64.wrap (ba+1)))))else r0 aG (IntKind.i64.wrap (aC+1)))
def yAr(n:Nat)(r0:List (Q3)->Int->Option (Int×Unit))(k:Nat)(aG:List (Q3))(aC:Int)(ba:Int):Option (Int×Unit) :=
  iter (λ r y=>yL9 n r0 (λ aG aC ba=>r ((aG,(aC,(ba,()))),((),()))) y.1.1 y.1.2.1 y.1.2.2.1) k ((aG,(aC,(ba,()))),((),()))
def yKH(n:Nat)(r0:List (Q3)->Int->Option (Int×Unit))(ah:List (Q3))(aQ:Int):Option (Int×Unit) :=
  (bif decide (aQ < (↑ah.length:Int))then (Option.bind (idx ah aQ) λ v1=>(Option.bind (zn_M v1.1) λ v2=>(Option.bind (idx ah aQ) λ v3=>(Option.bind (idx ah aQ) λ v4=>(Option.bind (y8e [v2.1,(ze v3.2.1 (1:Int) (96:Int)).1,(ze v4.2.2.1 (0:Int) (3:Int)).1]) λ v5=>(bif v5.1 != 0 then some (v5.1,())else (yAr n r0 n (ah) (aQ) ((0:Int)))))))))else some ((0:Int),()))
def yBK(n:Nat)(k:Nat)(ah:List (Q3))(aQ:Int):Option (Int×Unit) :=
  iter (λ r y=>yKH n (λ ah aQ=>r ((ah,(aQ,())),((),()))) y.1.1 y.1.2.1) k ((ah,(aQ,())),((),()))
def zJ_m(n:Nat)(l:List (Q3)):Option (Int×Unit) :=
  (bif (↑l.length:Int)==0 then some ((12:Int),())else (bif decide ((↑l.length:Int) > 4)then some ((5:Int),())else (yBK n n (l) ((0:Int)))))
theorem yfP(n:Nat)(x:zJ_a.den):runF zJ_g (yVV n) Tryz.f32 zJ_a zJ_r x=zJ_m n x.1:=by kernel_rfl
def yIg(aG:List (Q3))(aC:Int)(ba:Int):Option (((Int×Unit)⊕Unit)⊕Unit) :=
  (Option.bind (idx aG ba) λ v7=>(Option.bind (idx aG aC) λ v8=>(bif v7.1==v8.1 then (some (Sum.inl (Sum.inl (((9:Int),())))))else (some (Sum.inr ())))))
def yOK(aG:List (Q3))(aC:Int):Option ((Int×Unit)⊕Unit) :=
  (some (Sum.inr ()))
theorem yIO(n:Nat)(hn:big<=n)(r0:List (Q3)->Int->Option (Int×Unit))(aG:List (Q3))(aC:Int)(hx:(aC)<=9223372036854775807):LeF (elim some λ (a7:Unit)=>r0 aG (IntKind.i64.wrap (aC+1))) (y0I (λ ac a7=>yIg aG aC ac) (λ a7=>yOK aG aC) ((aC) - 0).toNat 0 ()) (yAr n r0 n aG aC 0):=by
  refine y0c (f:=(elim some λ (a7:Unit)=>r0 aG (IntKind.i64.wrap (aC+1)))) (W:=λ aI ac a7=>yAr n r0 aI aG aC ac) (body:=(λ ac a7=>yIg aG aC ac)) (fin:=(λ a7=>yOK aG aC)) (λ aI ac a7=>?_) hx () n 0 (by decide) (by unfold big at hn;omega)
  show LeF _ _ (yL9 n r0 (yAr n r0 aI) aG aC ac)
  exact y6 (y8 λ v7=>(y8 λ v8=>(y6 (y7 rfl) (y7 rfl)))) (yr (y7 rfl))
def yI5(ah:List (Q3))(aQ:Int)(v1:Q3):Option ((Int×Unit)⊕Unit) :=
  (Option.bind (zn_M v1.1) λ v2=>(Option.bind (idx ah aQ) λ v3=>(Option.bind (idx ah aQ) λ v4=>(Option.bind (y8e [v2.1,(ze v3.2.1 (1:Int) (96:Int)).1,(ze v4.2.2.1 (0:Int) (3:Int)).1]) λ v5=>(bif v5.1 != 0 then (some (Sum.inl ((v5.1,()))))else (bif decide ((aQ)<=9223372036854775807)then y0I (λ ac a7=>yIg (ah) (aQ) ac) (λ a7=>yOK (ah) (aQ)) ((aQ) - 0).toNat 0 ()else none))))))
def yMl(ah:List (Q3)):Option (Int×Unit) :=
  (some (((0:Int),())))
theorem yHt(n:Nat)(hn:big<=n)(ah:List (Q3))(hx:List.length (ah) < lenMax):LeF some (yM (λ ac aL a7=>yI5 ah ac aL) (λ a7=>yMl ah) 0 (ah) ()) (yBK n n ah 0):=by
  refine yQ (f:=some) (W:=λ aI ac a7=>yBK n aI ah ac) (body:=(λ ac aL a7=>yI5 ah ac aL)) (fin:=(λ a7=>yMl ah)) (λ aI ac a7=>?_) hx () n (by unfold big at hn;unfold lenMax at hx;omega)
  show LeF _ _ (yKH n (yBK n aI) ah ac)
  exact y6 (y8 λ v1=>(y8 λ v2=>(y8 λ v3=>(y8 λ v4=>(y8 λ v5=>(y6 (y7 rfl) (yN λ hx=>by apply yIO n hn;exact hx))))))) (yr (y7 rfl))
def zJ_M(l:List (Q3)):Option (Int×Unit) :=
  (bif (↑l.length:Int)==0 then (some (((12:Int),())))else (bif decide ((↑l.length:Int) > 4)then (some (((5:Int),())))else (bif decide (List.length (l) < lenMax)then yM (λ ac aL a7=>yI5 (l) ac aL) (λ a7=>yMl (l)) 0 (l) ()else none)))
theorem yVe(l:List (Q3))(y:Int×Unit)(h:zJ_M l=some y):∃ n,zJ_m n l=some y :=
  ⟨big,LeF.top (show LeF some (zJ_M l) (zJ_m big l)from (λ (n:Nat) (hn:big<=n)=>show LeF some (zJ_M l) (zJ_m n l)from (y6 (y7 rfl) (y6 (y7 rfl) (yN λ hx=>by apply yHt n hn;exact hx)))) big (Nat.le_refl _)) h⟩
def zJ_e:Entry:={ f:=32,args:=zJ_a,ress:=zJ_r,m:=λ x=>zJ_M x.1 }
theorem yeN:FnOK Tryz.prog zJ_e:=yJ (g:=zJ_g) (fn:=Tryz.f32) yC yI (yA yWi (yA ycE (yA yKy eNil))) (by kernel_rfl) (by kernel_rfl) (by kernel_rfl) (λ x y h=>let ⟨n,hn⟩:=yVe x.1 y h;⟨yVV n,iNil,(yfP n x).trans hn⟩)
abbrev yRw:Ty:=.pair t33 (.pair t28 (.pair t3 (.pair t25 .unit)))
abbrev ybv:Ty:=.pair t4 .unit
def ybQ:G:={ T:=T,E:=[z0v_e,z12_e],muts:=[7],fz:=[] }
def ydq:List (List Nat):=[]
def yQ2(n:Nat):Ann:={ keep:=ydq,fuel:=n,inl:=[],deep:=0 }
def yJH(n:Nat)(p0:Q2)(e:Int)(bad:Int)(want:Q2):Option (Bool×Unit) :=
  (bif bad != 0 then (bif e==bad then (Option.bind (yCf p0) λ v3=>(Option.bind (yBz v3.1 ([],[],(0:Int),())) λ v4=>some (v4.1,())))else some (Bool.false,()))else (bif e==bad then (Option.bind (yCf p0) λ v8=>(Option.bind (yBz v8.1 (want.1,want.2.1,want.2.2.1,())) λ v9=>some (v9.1,())))else some (Bool.false,())))
theorem yZn(n:Nat)(x:yRw.den):runF ybQ (yQ2 n) Tryz.f51 yRw ybv x=yJH n x.1 x.2.1 x.2.2.1 x.2.2.2.1:=by kernel_rfl
def yCt(p0:Q2)(e:Int)(bad:Int)(want:Q2):Option (Bool×Unit):=yJH 0 p0 e bad want
theorem yRq(p0:Q2)(e:Int)(bad:Int)(want:Q2)(y:Bool×Unit)(h:yCt p0 e bad want=some y):∃ n,yJH n p0 e bad want=some y:=⟨0,h⟩
def z0u_e:Entry:={ f:=51,args:=yRw,ress:=ybv,m:=λ x=>yCt x.1 x.2.1 x.2.2.1 x.2.2.2.1 }
theorem yVn:FnOK Tryz.prog z0u_e:=yJ (g:=ybQ) (fn:=Tryz.f51) yC yI (yA yaX (yA yaK eNil)) (by kernel_rfl) (by kernel_rfl) (by kernel_rfl) (λ x y h=>let ⟨n,hn⟩:=yRq x.1 x.2.1 x.2.2.1 x.2.2.2.1 y h;⟨yQ2 n,iNil,(yZn n x).trans hn⟩)
abbrev yTr:Ty:=.pair t94 .unit
abbrev ya4:Ty:=.pair t41 .unit
def yc2:G:={ T:=T,E:=[zw_e],muts:=[3],fz:=[] }
def ycz:List (List Nat):=[[1,3,4]]
def yP6(n:Nat):Ann:={ keep:=ycz,fuel:=n,inl:=[],deep:=0 }
def yFy(n:Nat)(r0:Q1->Int->List Int->Option (List Int×Unit))(aD:Q1)(aX:Int)(aN:List Int):Option (List Int×Unit) :=
  (bif decide (aX < (↑aD.2.2.1.length:Int))then (Option.bind (zw_M aD aX) λ v1=>(bif v1.1 then (bif decide (aN.length+(1:Nat)<=memMax)then r0 aD (IntKind.i64.wrap (aX+1)) (aN++[IntKind.i64.wrap (aD.2.1+aX)])else none)else r0 aD (IntKind.i64.wrap (aX+1)) aN))else some (aN,()))
def y6u(n:Nat)(k:Nat)(aD:Q1)(aX:Int)(aN:List Int):Option (List Int×Unit) :=
  iter (λ r y=>yFy n (λ aD aX aN=>r ((aD,(aX,())),((aN,()),()))) y.1.1 y.1.2.1 y.2.1.1) k ((aD,(aX,())),((aN,()),()))
def yNS(n:Nat)(rp:Q1):Option (List Int×Unit) :=
  (y6u n n (rp) ((0:Int)) ([]))
theorem ya8(n:Nat)(x:yTr.den):runF yc2 (yP6 n) Tryz.f77 yTr ya4 x=yNS n x.1:=by kernel_rfl
def yD0(aD:Q1)(aX:Int)(aN:List Int):Option ((List Int×Unit)⊕(List Int)) :=
  (Option.bind (zw_M aD aX) λ v1=>(bif v1.1 then (bif decide (aN.length+(1:Nat)<=memMax)then (some (Sum.inr (aN++[IntKind.i64.wrap (aD.2.1+aX)])))else none)else (some (Sum.inr (aN)))))
def y9I(aD:Q1)(aN:List Int):Option (List Int×Unit) :=
  (some ((aN,())))
theorem yDm(n:Nat)(hn:big<=n)(aD:Q1)(aN:List Int)(hx:((↑aD.2.2.1.length:Int))<=9223372036854775807):LeF some (y0I (λ ac a7=>yD0 aD ac a7) (λ a7=>y9I aD a7) (((↑aD.2.2.1.length:Int)) - 0).toNat 0 aN) (y6u n n aD 0 aN):=by
  refine y0c (f:=some) (W:=λ aI ac a7=>y6u n aI aD ac a7) (body:=(λ ac a7=>yD0 aD ac a7)) (fin:=(λ a7=>y9I aD a7)) (λ aI ac a7=>?_) hx aN n 0 (by decide) (by unfold big at hn;omega)
  show LeF _ _ (yFy n (y6u n aI) aD ac a7)
  exact y6 (y8 λ v1=>(y6 (y6 (y7 rfl) yq) (y7 rfl))) (yr (y7 rfl))
def y5w(rp:Q1):Option (List Int×Unit) :=
  (bif decide (((↑rp.2.2.1.length:Int))<=9223372036854775807)then y0I (λ ac a7=>yD0 (rp) ac a7) (λ a7=>y9I (rp) a7) (((↑rp.2.2.1.length:Int)) - 0).toNat 0 ([])else none)
theorem yTd(rp:Q1)(y:List Int×Unit)(h:y5w rp=some y):∃ n,yNS n rp=some y :=
  ⟨big,LeF.top (show LeF some (y5w rp) (yNS big rp)from (λ (n:Nat) (hn:big<=n)=>show LeF some (y5w rp) (yNS n rp)from (yN λ hx=>by apply yDm n hn;exact hx)) big (Nat.le_refl _)) h⟩
def z0e_e:Entry:={ f:=77,args:=yTr,ress:=ya4,m:=λ x=>y5w x.1 }
theorem yFb:FnOK Tryz.prog z0e_e:=yJ (g:=yc2) (fn:=Tryz.f77) yC yI (yA ycm eNil) (by kernel_rfl) (by kernel_rfl) (by kernel_rfl) (λ x y h=>let ⟨n,hn⟩:=yTd x.1 y h;⟨yP6 n,iNil,(ya8 n x).trans hn⟩)
abbrev ySt:Ty:=.pair t3 (.pair t3 .unit)
abbrev yYu:Ty:=.pair t28 .unit
def yYF:G:={ T:=T,E:=[z0q_e,z19_e],muts:=[],fz:=[] }
def yf1:List (List Nat):=[]
def yQa(n:Nat):Ann:={ keep:=yf1,fuel:=n,inl:=[],deep:=0 }
def yTN(n:Nat)(p0:Int)(np:Int):Option (Int×Unit) :=
  (Option.bind (y2K [(z0q p0 (0:Int) (100000:Int)).1,(z0q np (0:Int) (4096:Int)).1]) λ v0=>(bif v0.1 != 0 then some (v0.1,())else some ((z0q (IntKind.i64.wrap (p0+np)) (0:Int) (100000:Int)).1,())))
theorem ybl(n:Nat)(x:ySt.den):runF yYF (yQa n) Tryz.f105 ySt yYu x=yTN n x.1 x.2.1:=by kernel_rfl
def yME(p0:Int)(np:Int):Option (Int×Unit):=yTN 0 p0 np
theorem yRJ(p0:Int)(np:Int)(y:Int×Unit)(h:yME p0 np=some y):∃ n,yTN n p0 np=some y:=⟨0,h⟩
def z04_e:Entry:={ f:=105,args:=ySt,ress:=yYu,m:=λ x=>yME x.1 x.2.1 }
theorem yXB:FnOK Tryz.prog z04_e:=yJ (g:=yYF) (fn:=Tryz.f105) yC yI (yA yD7 (yA y4X eNil)) (by kernel_rfl) (by kernel_rfl) (by kernel_rfl) (λ x y h=>let ⟨n,hn⟩:=yRJ x.1 x.2.1 y h;⟨yQa n,iNil,(ybl n x).trans hn⟩)
abbrev yUp:Ty:=.pair t33 (.pair t3 .unit)
abbrev yVt:Ty:=.pair t57 .unit
def yW7:G:={ T:=T,E:=[z1G_e],muts:=[],fz:=[] }
def ycb:List (List Nat):=[]
def yQW(n:Nat):Ann:={ keep:=ycb,fuel:=n,inl:=[],deep:=0 }
def yTy(n:Nat)(t:Q2)(tick:Int):Option ((Q4)×Unit) :=
  (Option.bind (yLB t.1 t.2.1 tick) λ v0=>some ((v0.1.1,v0.1.2.1,()),()))
theorem yWD(n:Nat)(x:yUp.den):runF yW7 (yQW n) Tryz.f106 yUp yVt x=yTy n x.1 x.2.1:=by kernel_rfl
def yIG(t:Q2)(tick:Int):Option ((Q4)×Unit):=yTy 0 t tick
theorem yRN(t:Q2)(tick:Int)(y:(Q4)×Unit)(h:yIG t tick=some y):∃ n,yTy n t tick=some y:=⟨0,h⟩
def z0R_e:Entry:={ f:=106,args:=yUp,ress:=yVt,m:=λ x=>yIG x.1 x.2.1 }
theorem yQZ:FnOK Tryz.prog z0R_e:=yJ (g:=yW7) (fn:=Tryz.f106) yC yI (yA yaU eNil) (by kernel_rfl) (by kernel_rfl) (by kernel_rfl) (λ x y h=>let ⟨n,hn⟩:=yRN x.1 x.2.1 y h;⟨yQW n,iNil,(yWD n x).trans hn⟩)
abbrev yRv:Ty:=.pair t57 .unit
abbrev yZ8:Ty:=.pair t28 .unit
def yZ5:G:={ T:=T,E:=[z0q_e,z19_e],muts:=[],fz:=[] }
def ydt:List (List Nat):=[]
def yPH(n:Nat):Ann:={ keep:=ydt,fuel:=n,inl:=[],deep:=0 }
def yUE(n:Nat)(z:Q4):Option (Int×Unit) :=
  (Option.bind (y2K [(z0q z.1 (-8796093022208:Int) (8796093022208:Int)).1,(z0q z.2.1 (-8796093022208:Int) (8796093022208:Int)).1]) λ v0=>some (v0.1,()))
theorem yW3(n:Nat)(x:yRv.den):runF yZ5 (yPH n) Tryz.f116 yRv yZ8 x=yUE n x.1:=by kernel_rfl
def yS8(z:Q4):Option (Int×Unit):=yUE 0 z
theorem ySr(z:Q4)(y:Int×Unit)(h:yS8 z=some y):∃ n,yUE n z=some y:=⟨0,h⟩
def z03_e:Entry:={ f:=116,args:=yRv,ress:=yZ8,m:=λ x=>yS8 x.1 }
theorem yc0:FnOK Tryz.prog z03_e:=yJ (g:=yZ5) (fn:=Tryz.f116) yC yI (yA yD7 (yA y4X eNil)) (by kernel_rfl) (by kernel_rfl) (by kernel_rfl) (λ x y h=>let ⟨n,hn⟩:=ySr x.1 y h;⟨yPH n,iNil,(yW3 n x).trans hn⟩)
abbrev yTT:Ty:=.pair t23 (.pair t3 .unit)
abbrev yYA:Ty:=.pair t3 .unit
def yaz:G:={ T:=T,E:=[z0S_e],muts:=[],fz:=[] }
def ydm:List (List Nat):=[[1,7,8,9]]
def yP9(n:Nat):Ann:={ keep:=ydm,fuel:=n,inl:=[],deep:=0 }
def yGl(n:Nat)(r0:Int->List (Q4)->Int->Int->Option (Int×Unit))(ay:Int)(aA:List (Q4))(aT:Int)(ar:Int):Option (Int×Unit) :=
  (bif decide (ar < aT)then (Option.bind (idx aA ar) λ v1=>(Option.bind (y8G ay [v1.1,v1.2.1]) λ v2=>r0 v2.1 aA aT (IntKind.i64.wrap (ar+1))))else some (ay,()))
def y6h(n:Nat)(k:Nat)(ay:Int)(aA:List (Q4))(aT:Int)(ar:Int):Option (Int×Unit) :=
  iter (λ r y=>yGl n (λ ay aA aT ar=>r ((ay,(aA,(aT,(ar,())))),((),()))) y.1.1 y.1.2.1 y.1.2.2.1 y.1.2.2.2.1) k ((ay,(aA,(aT,(ar,())))),((),()))
def yNL(n:Nat)(l:List (Q4))(den:Int):Option (Int×Unit) :=
  (y6h n n (den) (l) ((↑l.length:Int)) ((0:Int)))
theorem yVr(n:Nat)(x:yTT.den):runF yaz (yP9 n) Tryz.f117 yTT yYA x=yNL n x.1 x.2.1:=by kernel_rfl
def y9N(aA:List (Q4))(ar:Int)(v1:Q4)(ay:Int):Option ((Int×Unit)⊕(Int)) :=
  (Option.bind (y8G ay [v1.1,v1.2.1]) λ v2=>(some (Sum.inr (v2.1))))
def yFn(aA:List (Q4))(ay:Int):Option (Int×Unit) :=
  (some ((ay,())))
theorem yF2(n:Nat)(hn:big<=n)(aA:List (Q4))(ay:Int)(hx:List.length (aA) < lenMax):LeF some (yM (λ ac aL a7=>y9N aA ac aL a7) (λ a7=>yFn aA a7) 0 (aA) ay) (y6h n n ay aA (List.length (aA):Int) 0):=by
  refine yQ (f:=some) (W:=λ aI ac a7=>y6h n aI a7 aA (List.length (aA):Int) ac) (body:=(λ ac aL a7=>y9N aA ac aL a7)) (fin:=(λ a7=>yFn aA a7)) (λ aI ac a7=>?_) hx ay n (by unfold big at hn;unfold lenMax at hx;omega)
  show LeF _ _ (yGl n (y6h n aI) a7 aA (List.length (aA):Int) ac)
  exact y6 (y8 λ v1=>(y8 λ v2=>(y7 rfl))) (yr (y7 rfl))
def yD1(l:List (Q4))(den:Int):Option (Int×Unit) :=
  (bif decide (List.length (l) < lenMax)then yM (λ ac aL a7=>y9N (l) ac aL a7) (λ a7=>yFn (l) a7) 0 (l) (den)else none)
theorem yUF(l:List (Q4))(den:Int)(y:Int×Unit)(h:yD1 l den=some y):∃ n,yNL n l den=some y :=
  ⟨big,LeF.top (show LeF some (yD1 l den) (yNL big l den)from (λ (n:Nat) (hn:big<=n)=>show LeF some (yD1 l den) (yNL n l den)from (yN λ hx=>by apply yF2 n hn;exact hx)) big (Nat.le_refl _)) h⟩
def z0m_e:Entry:={ f:=117,args:=yTT,ress:=yYA,m:=λ x=>yD1 x.1 x.2.1 }
theorem yPq:FnOK Tryz.prog z0m_e:=yJ (g:=yaz) (fn:=Tryz.f117) yC yI (yA yPn eNil) (by kernel_rfl) (by kernel_rfl) (by kernel_rfl) (λ x y h=>let ⟨n,hn⟩:=yUF x.1 x.2.1 y h;⟨yP9 n,iNil,(yVr n x).trans hn⟩)
abbrev zK_a:Ty:=.pair t183 .unit
abbrev zK_r:Ty:=.pair t57 .unit
def zK_g:G:={ T:=T,E:=[zT_e],muts:=[],fz:=[] }
def zK_k:List (List Nat):=[]
def ycC(n:Nat):Ann:={ keep:=zK_k,fuel:=n,inl:=[],deep:=0 }
def zK_m(n:Nat)(m:List (List (Q4))):Option ((Q4)×Unit) :=
  (Option.bind (yP (8:Nat) (m,(0:Int),(0:Int),())) λ v0=>some ((v0.1.1,v0.1.2.1,()),()))
theorem ydk(n:Nat)(x:zK_a.den):runF zK_g (ycC n) Tryz.f123 zK_a zK_r x=zK_m n x.1:=by kernel_rfl
def zK_M(m:List (List (Q4))):Option ((Q4)×Unit):=zK_m 0 m
theorem ycA(m:List (List (Q4)))(y:(Q4)×Unit)(h:zK_M m=some y):∃ n,zK_m n m=some y:=⟨0,h⟩
def zK_e:Entry:={ f:=123,args:=zK_a,ress:=zK_r,m:=λ x=>zK_M x.1 }
theorem yLy:FnOK Tryz.prog zK_e:=yJ (g:=zK_g) (fn:=Tryz.f123) yC yI (yA yfb eNil) (by kernel_rfl) (by kernel_rfl) (by kernel_rfl) (λ x y h=>let ⟨n,hn⟩:=ycA x.1 y h;⟨ycC n,iNil,(ydk n x).trans hn⟩)
abbrev ySk:Ty:=.pair t3 (.pair t3 .unit)
abbrev ybr:Ty:=.pair t69 .unit
def ya1:G:={ T:=T,E:=[z0S_e],muts:=[],fz:=[] }
def ye0:List (List Nat):=[]
def yQF(n:Nat):Ann:={ keep:=ye0,fuel:=n,inl:=[],deep:=0 }
def yMB(n:Nat)(num:Int)(den:Int):Option ((Q4)×Unit) :=
  (Option.bind (y8G den [num]) λ v0=>(bif v0.1==0 then none else (bif v0.1==0 then none else some ((IntKind.i64.wrap (num.tdiv v0.1),IntKind.i64.wrap (den.tdiv v0.1),()),()))))
theorem yW5(n:Nat)(x:ySk.den):runF ya1 (yQF n) Tryz.f127 ySk ybr x=yMB n x.1 x.2.1:=by kernel_rfl
def yDD(num:Int)(den:Int):Option ((Q4)×Unit):=yMB 0 num den
theorem yU0(num:Int)(den:Int)(y:(Q4)×Unit)(h:yDD num den=some y):∃ n,yMB n num den=some y:=⟨0,h⟩
def z1C_e:Entry:={ f:=127,args:=ySk,ress:=ybr,m:=λ x=>yDD x.1 x.2.1 }
theorem yKO:FnOK Tryz.prog z1C_e:=yJ (g:=ya1) (fn:=Tryz.f127) yC yI (yA yPn eNil) (by kernel_rfl) (by kernel_rfl) (by kernel_rfl) (λ x y h=>let ⟨n,hn⟩:=yU0 x.1 x.2.1 y h;⟨yQF n,iNil,(yW5 n x).trans hn⟩)
abbrev ySX:Ty:=.pair t22 (.pair t23 (.pair t3 .unit))
abbrev yXT:Ty:=.pair t25 .unit
def yZw:G:={ T:=T,E:=[z0L_e],muts:=[13,19],fz:=[15] }
def yem:List (List Nat):=[[1,6,7,8,9]]
def yOv(n:Nat):Ann:={ keep:=yem,fuel:=n,inl:=[],deep:=0 }
def yGL(n:Nat)(r1:List (Q4)->Int->Int->Int->List (Q3)->Int->List (Q4)->Option ((Q2)×Unit))(aJ:List (Q4))(aE:Int)(b7:Int)(au:Int)(aj:List (Q3))(ak:Int)(aR:List (Q4)):Option ((Q2)×Unit) :=
  (bif decide (b7 < (↑aJ.length:Int))then (Option.bind (idx aJ b7) λ v2=>(bif aE==0 then none else (Option.bind (idx aJ b7) λ v3=>(bif aE==0 then none else (bif decide (aR.length+(1:Nat)<=memMax)then r1 aJ aE (IntKind.i64.wrap (b7+1)) au aj ak (aR++[(IntKind.i64.wrap (v2.1.tdiv aE),IntKind.i64.wrap (v3.2.1.tdiv aE),())])else none)))))else some ((aj,aR,ak,()),()))
def y7L(n:Nat)(k:Nat)(aJ:List (Q4))(aE:Int)(b7:Int)(au:Int)(aj:List (Q3))(ak:Int)(aR:List (Q4)):Option ((Q2)×Unit) :=
  iter (λ r y=>yGL n (λ aJ aE b7 au aj ak aR=>r ((aJ,(aE,(b7,()))),(((au,()),((aj,(ak,())),(aR,()))),()))) y.1.1 y.1.2.1 y.1.2.2.1 y.2.1.1.1 y.2.1.2.1.1 y.2.1.2.1.2.1 y.2.1.2.2.1) k ((aJ,(aE,(b7,()))),(((au,()),((aj,(ak,())),(aR,()))),()))
def yMR(n:Nat)(l:List (Q3))(a:List (Q4))(den:Int):Option ((Q2)×Unit) :=
  (Option.bind (yBa a den) λ v0=>(bif decide ((0:Nat)+l.length<=memMax)then (bif v0.1==0 then none else (y7L n n (a) (v0.1) ((0:Int)) ((0:Int)) (l) (IntKind.i64.wrap (den.tdiv v0.1)) ([])))else none))
theorem ybV(n:Nat)(x:ySX.den):runF yZw (yOv n) Tryz.f141 ySX yXT x=yMR n x.1 x.2.1 x.2.2.1:=by kernel_rfl
def yCO(aJ:List (Q4))(aE:Int)(au:Int)(aj:List (Q3))(ak:Int)(b7:Int)(v2:Q4)(aR:List (Q4)):Option (((Q2)×Unit)⊕(List (Q4))) :=
  (bif aE==0 then none else (Option.bind (idx aJ b7) λ v3=>(bif aE==0 then none else (bif decide (aR.length+(1:Nat)<=memMax)then (some (Sum.inr (aR++[(IntKind.i64.wrap (v2.1.tdiv aE),IntKind.i64.wrap (v3.2.1.tdiv aE),())])))else none))))
def yGg(aJ:List (Q4))(aE:Int)(au:Int)(aj:List (Q3))(ak:Int)(aR:List (Q4)):Option ((Q2)×Unit) :=
  (some (((aj,aR,ak,()),())))
theorem yDy(n:Nat)(hn:big<=n)(aJ:List (Q4))(aE:Int)(au:Int)(aj:List (Q3))(ak:Int)(aR:List (Q4))(hx:List.length (aJ) < lenMax):LeF some (yM (λ ac aL a7=>yCO aJ aE au aj ak ac aL a7) (λ a7=>yGg aJ aE au aj ak a7) 0 (aJ) aR) (y7L n n aJ aE 0 au aj ak aR):=by
  refine yQ (f:=some) (W:=λ aI ac a7=>y7L n aI aJ aE ac au aj ak a7) (body:=(λ ac aL a7=>yCO aJ aE au aj ak ac aL a7)) (fin:=(λ a7=>yGg aJ aE au aj ak a7)) (λ aI ac a7=>?_) hx aR n (by unfold big at hn;unfold lenMax at hx;omega)
  show LeF _ _ (yGL n (y7L n aI) aJ aE ac au aj ak a7)
  exact y6 (y8 λ v2=>(y6 yq (y8 λ v3=>(y6 yq (y6 (y7 rfl) yq))))) (yr (y7 rfl))
def yBW(l:List (Q3))(a:List (Q4))(den:Int):Option ((Q2)×Unit) :=
  (Option.bind (yBa a den) λ v0=>(bif decide ((0:Nat)+l.length<=memMax)then (bif v0.1==0 then none else (bif decide (List.length (a) < lenMax)then yM (λ ac aL a7=>yCO (a) (v0.1) ((0:Int)) (l) (IntKind.i64.wrap (den.tdiv v0.1)) ac aL a7) (λ a7=>yGg (a) (v0.1) ((0:Int)) (l) (IntKind.i64.wrap (den.tdiv v0.1)) a7) 0 (a) ([])else none))else none))
theorem yS5(l:List (Q3))(a:List (Q4))(den:Int)(y:(Q2)×Unit)(h:yBW l a den=some y):∃ n,yMR n l a den=some y :=
  ⟨big,LeF.top (show LeF some (yBW l a den) (yMR big l a den)from (λ (n:Nat) (hn:big<=n)=>show LeF some (yBW l a den) (yMR n l a den)from (y8 λ v0=>(y6 (y6 yq (yN λ hx=>by apply yDy n hn;exact hx)) yq))) big (Nat.le_refl _)) h⟩
def z0M_e:Entry:={ f:=141,args:=ySX,ress:=yXT,m:=λ x=>yBW x.1 x.2.1 x.2.2.1 }
theorem yZx:FnOK Tryz.prog z0M_e:=yJ (g:=yZw) (fn:=Tryz.f141) yC yI (yA yZU eNil) (by kernel_rfl) (by kernel_rfl) (by kernel_rfl) (λ x y h=>let ⟨n,hn⟩:=yS5 x.1 x.2.1 x.2.2.1 y h;⟨yOv n,iNil,(ybV n x).trans hn⟩)
abbrev yUI:Ty:=.pair t41 (.pair t126 (.pair t126 .unit))
abbrev yVH:Ty:=.pair t57 .unit
def yZT:G:={ T:=T,E:=[zq_e,zp_e,z0b_e,z10_e],muts:=[],fz:=[] }
def yel:List (List Nat):=[[0,4,5,6,7,8]]
def yPN(n:Nat):Ann:={ keep:=yel,fuel:=n,inl:=[],deep:=0 }
def yGj(n:Nat)(r0:List Int->Q3->Q3->Int->Int->Int->Int->Int->Option ((Q4)×Unit))(a8:List Int)(aO:Q3)(aP:Q3)(b8:Int)(av:Int)(aw:Int)(al:Int)(am:Int):Option ((Q4)×Unit) :=
  (bif decide (b8 < (↑a8.length:Int))then (Option.bind (idx a8 b8) λ v1=>(Option.bind (zq_M aO v1) λ v2=>(Option.bind (idx a8 b8) λ v3=>(Option.bind (zq_M aP v3) λ v4=>r0 a8 aO aP (IntKind.i64.wrap (b8+1)) av aw (z10 (al,am,()) (z0b (zp v2.1).1 v4.1).1).1.1 (z10 (al,am,()) (z0b (zp v2.1).1 v4.1).1).1.2.1))))else some ((al,am,()),()))
def y6q(n:Nat)(k:Nat)(a8:List Int)(aO:Q3)(aP:Q3)(b8:Int)(av:Int)(aw:Int)(al:Int)(am:Int):Option ((Q4)×Unit) :=
  iter (λ r y=>yGj n (λ a8 aO aP b8 av aw al am=>r ((a8,(aO,(aP,(b8,())))),(((av,(aw,())),((al,(am,())),())),()))) y.1.1 y.1.2.1 y.1.2.2.1 y.1.2.2.2.1 y.2.1.1.1 y.2.1.1.2.1 y.2.1.2.1.1 y.2.1.2.1.2.1) k ((a8,(aO,(aP,(b8,())))),(((av,(aw,())),((al,(am,())),())),()))
def yN7(n:Nat)(ticks:List Int)(a:Q3)(b:Q3):Option ((Q4)×Unit) :=
  (y6q n n (ticks) (a) (b) ((0:Int)) ((0:Int)) ((0:Int)) ((0:Int)) ((0:Int)))
theorem yVx(n:Nat)(x:yUI.den):runF yZT (yPN n) Tryz.f149 yUI yVH x=yN7 n x.1 x.2.1 x.2.2.1:=by kernel_rfl
def y9i(a8:List Int)(aO:Q3)(aP:Q3)(av:Int)(aw:Int)(b8:Int)(v1:Int)(al:Int)(am:Int):Option (((Q4)×Unit)⊕(Int×Int)) :=
  (Option.bind (zq_M aO v1) λ v2=>(Option.bind (idx a8 b8) λ v3=>(Option.bind (zq_M aP v3) λ v4=>(some (Sum.inr (((z10 (al,am,()) (z0b (zp v2.1).1 v4.1).1).1.1),((z10 (al,am,()) (z0b (zp v2.1).1 v4.1).1).1.2.1)))))))
def yGx(a8:List Int)(aO:Q3)(aP:Q3)(av:Int)(aw:Int)(al:Int)(am:Int):Option ((Q4)×Unit) :=
  (some (((al,am,()),())))
theorem yEy(n:Nat)(hn:big<=n)(a8:List Int)(aO:Q3)(aP:Q3)(av:Int)(aw:Int)(al:Int)(am:Int)(hx:List.length (a8) < lenMax):LeF some (yM (λ ac aL a7=>y9i a8 aO aP av aw ac aL a7.1 a7.2) (λ a7=>yGx a8 aO aP av aw a7.1 a7.2) 0 (a8) (al,am)) (y6q n n a8 aO aP 0 av aw al am):=by
  refine yQ (f:=some) (W:=λ aI ac a7=>y6q n aI a8 aO aP ac av aw a7.1 a7.2) (body:=(λ ac aL a7=>y9i a8 aO aP av aw ac aL a7.1 a7.2)) (fin:=(λ a7=>yGx a8 aO aP av aw a7.1 a7.2)) (λ aI ac a7=>?_) hx (al,am) n (by unfold big at hn;unfold lenMax at hx;omega)
  show LeF _ _ (yGj n (y6q n aI) a8 aO aP ac av aw a7.1 a7.2)
  exact y6 (y8 λ v1=>(y8 λ v2=>(y8 λ v3=>(y8 λ v4=>(y7 rfl))))) (yr (y7 rfl))
def yDI(ticks:List Int)(a:Q3)(b:Q3):Option ((Q4)×Unit) :=
  (bif decide (List.length (ticks) < lenMax)then yM (λ ac aL a7=>y9i (ticks) (a) (b) ((0:Int)) ((0:Int)) ac aL a7.1 a7.2) (λ a7=>yGx (ticks) (a) (b) ((0:Int)) ((0:Int)) a7.1 a7.2) 0 (ticks) (((0:Int)),((0:Int)))else none)
theorem yRH(ticks:List Int)(a:Q3)(b:Q3)(y:(Q4)×Unit)(h:yDI ticks a b=some y):∃ n,yN7 n ticks a b=some y :=
  ⟨big,LeF.top (show LeF some (yDI ticks a b) (yN7 big ticks a b)from (λ (n:Nat) (hn:big<=n)=>show LeF some (yDI ticks a b) (yN7 n ticks a b)from (yN λ hx=>by apply yEy n hn;exact hx)) big (Nat.le_refl _)) h⟩
def z0f_e:Entry:={ f:=149,args:=yUI,ress:=yVH,m:=λ x=>yDI x.1 x.2.1 x.2.2.1 }
theorem yVw:FnOK Tryz.prog z0f_e:=yJ (g:=yZT) (fn:=Tryz.f149) yC yI (yA yYC (yA ySS (yA yG2 (yA yKg eNil)))) (by kernel_rfl) (by kernel_rfl) (by kernel_rfl) (λ x y h=>let ⟨n,hn⟩:=yRH x.1 x.2.1 x.2.2.1 y h;⟨yPN n,iNil,(yVx n x).trans hn⟩)
abbrev ySs:Ty:=.pair t35 (.pair t61 .unit)
abbrev yXv:Ty:=.pair t41 (.pair t28 .unit)
def yag:G:={ T:=T,E:=[zI_e,za_e,z19_e],muts:=[7],fz:=[] }
def yfQ:List (List Nat):=[[0,1,7,8,9]]
def yQL(n:Nat):Ann:={ keep:=yfQ,fuel:=n,inl:=[],deep:=0 }
def yLp(n:Nat)(r2:List Nat->Nat->Int->Int->List Int->Option (List Int×Int×Unit))(aZ:List Nat)(ae:Nat)(aF:Int)(aY:Int)(ax:List Int):Option (List Int×Int×Unit) :=
  (bif decide (aY < (↑aZ.length:Int))then (Option.bind (idx aZ aY) λ v3=>(Option.bind (idx aZ (IntKind.i64.wrap (aY - (1:Int)))) λ v4=>(bif yw Go.BinOp.gtr Go.FloatKind.f32 (y0A Go.BinOp.mul Go.FloatKind.f32 ae (y0A Go.BinOp.sub Go.FloatKind.f32 v3 v4)) (nat_lit 0)then r2 aZ ae aY (IntKind.i64.wrap (aY+1)) ax else (bif yw Go.BinOp.lss Go.FloatKind.f32 (y0A Go.BinOp.mul Go.FloatKind.f32 ae (y0A Go.BinOp.sub Go.FloatKind.f32 v3 v4)) (nat_lit 0)then (bif decide (aF >= 0)then (bif decide (ax.length+(1:Nat)<=memMax)then r2 aZ ae (-1:Int) (IntKind.i64.wrap (aY+1)) (ax++[aF])else none)else r2 aZ ae (-1:Int) (IntKind.i64.wrap (aY+1)) ax)else r2 aZ ae aF (IntKind.i64.wrap (aY+1)) ax))))else some (ax,(0:Int),()))
def yNr(n:Nat)(k:Nat)(aZ:List Nat)(ae:Nat)(aF:Int)(aY:Int)(ax:List Int):Option (List Int×Int×Unit) :=
  iter (λ r y=>yLp n (λ aZ ae aF aY ax=>r ((aZ,(ae,(aF,(aY,())))),((ax,()),()))) y.1.1 y.1.2.1 y.1.2.2.1 y.1.2.2.2.1 y.2.1.1) k ((aZ,(ae,(aF,(aY,())))),((ax,()),()))
def yTn(n:Nat)(l:List Nat)(direction:Nat):Option (List Int×Int×Unit) :=
  (bif decide ((↑l.length:Int) > 4096)then some ([],(5:Int),())else (Option.bind (zI_M l λ (x:Nat×Unit)=>za_M x.1) λ v0=>(Option.bind (y2K v0.1) λ v1=>(bif v1.1 != 0 then some ([],v1.1,())else (yNr n n (l) (direction) ((-1:Int)) ((1:Int)) ([]))))))
theorem yXr(n:Nat)(x:ySs.den):runF yag (yQL n) Tryz.f154 ySs yXv x=yTn n x.1 x.2.1:=by kernel_rfl
def yMh(l:List Nat)(direction:Nat):Option (List Int×Int×Unit):=yTn 1000 l direction
theorem yRY(l:List Nat)(direction:Nat)(y:List Int×Int×Unit)(h:yMh l direction=some y):∃ n,yTn n l direction=some y:=⟨1000,h⟩
def z0p_e:Entry:={ f:=154,args:=ySs,ress:=yXv,m:=λ x=>yMh x.1 x.2.1 }
theorem yQH:FnOK Tryz.prog z0p_e:=yJ (g:=yag) (fn:=Tryz.f154) yC yI (yA yfC (yA yZE (yA y4X eNil))) (by kernel_rfl) (by kernel_rfl) (by kernel_rfl) (λ x y h=>let ⟨n,hn⟩:=yRY x.1 x.2.1 y h;⟨yQL n,iNil,(yXr n x).trans hn⟩)
abbrev zM_a:Ty:=.pair t55 .unit
abbrev zM_r:Ty:=.pair t28 .unit
def zM_g:G:={ T:=T,E:=[z0F_e,z1N_e,z0q_e,z19_e],muts:=[],fz:=[] }
def zM_k:List (List Nat):=[]
def yX5(n:Nat):Ann:={ keep:=zM_k,fuel:=n,inl:=[],deep:=0 }
def zM_m(n:Nat)(c:Q3):Option (Int×Unit) :=
  (Option.bind (yCF c.1) λ v0=>(Option.bind (y2K [(z1N (!v0.1) (8:Int)).1,(z0q c.2.1 (1:Int) (96:Int)).1,(z0q c.2.2.1 (0:Int) (3:Int)).1]) λ v1=>some (v1.1,())))
theorem yex(n:Nat)(x:zM_a.den):runF zM_g (yX5 n) Tryz.f160 zM_a zM_r x=zM_m n x.1:=by kernel_rfl
def zM_M(c:Q3):Option (Int×Unit):=zM_m 0 c
theorem ybJ(c:Q3)(y:Int×Unit)(h:zM_M c=some y):∃ n,zM_m n c=some y:=⟨0,h⟩
def zM_e:Entry:={ f:=160,args:=zM_a,ress:=zM_r,m:=λ x=>zM_M x.1 }
theorem ydg:FnOK Tryz.prog zM_e:=yJ (g:=zM_g) (fn:=Tryz.f160) yC yI (yA yOl (yA y6M (yA yD7 (yA y4X eNil)))) (by kernel_rfl) (by kernel_rfl) (by kernel_rfl) (λ x y h=>let ⟨n,hn⟩:=ybJ x.1 y h;⟨yX5 n,iNil,(yex n x).trans hn⟩)
abbrev yUe:Ty:=.pair t55 (.pair (.ref t60) (.pair (.ref t31) (.pair (.ref t3) .unit)))
abbrev yWg:Ty:=.pair t57 .unit
def yYR:G:={ T:=T,E:=[z1A_e],muts:=[],fz:=[] }
def yd8:List (List Nat):=[]
def yPg(n:Nat):Ann:={ keep:=yd8,fuel:=n,inl:=[],deep:=0 }
def yUa(n:Nat)(c:Q3)(p1:Q1)(p2:List (Q3))(p3:Int):Option ((Q4)×Unit) :=
  (Option.bind (idx p2 p3) λ v0=>(Option.bind (yAP p1 c v0) λ v1=>some ((v1.1.1,v1.1.2.1,()),())))
theorem yaM(n:Nat)(x:yUe.den):runF yYR (yPg n) Tryz.f163 yUe yWg x=yUa n x.1 x.2.1 x.2.2.1 x.2.2.2.1:=by kernel_rfl
def yUU(c:Q3)(p1:Q1)(p2:List (Q3))(p3:Int):Option ((Q4)×Unit):=yUa 0 c p1 p2 p3
theorem yS3(c:Q3)(p1:Q1)(p2:List (Q3))(p3:Int)(y:(Q4)×Unit)(h:yUU c p1 p2 p3=some y):∃ n,yUa n c p1 p2 p3=some y:=⟨0,h⟩
def z0B_e:Entry:={ f:=163,args:=yUe,ress:=yWg,m:=λ x=>yUU x.1 x.2.1 x.2.2.1 x.2.2.2.1 }
theorem yYP:FnOK Tryz.prog z0B_e:=yJ (g:=yYR) (fn:=Tryz.f163) yC yI (yA yJn eNil) (by kernel_rfl) (by kernel_rfl) (by kernel_rfl) (λ x y h=>let ⟨n,hn⟩:=yS3 x.1 x.2.1 x.2.2.1 x.2.2.2.1 y h;⟨yPg n,iNil,(yaM n x).trans hn⟩)
abbrev yQb:Ty:=.pair t210 (.pair t3 .unit)
abbrev yWm:Ty:=.pair t4 .unit
def yZZ:G:={ T:=T,E:=[z1O_e],muts:=[],fz:=[] }
def ye1:List (List Nat):=[]
def yQO(n:Nat):Ann:={ keep:=ye1,fuel:=n,inl:=[],deep:=0 }
def yOe(n:Nat)(f:Nat)(sign:Int):Option (Bool×Unit) :=
  (bif sign==0 then (Option.bind (absM f) λ v0=>some (yw Go.BinOp.gtr Go.FloatKind.f64 v0.1 (nat_lit 9218868437227405311),()))else (bif decide (sign < 0)then some (yw Go.BinOp.gtr Go.FloatKind.f64 (yFj Go.FloatKind.f64 f) (nat_lit 9218868437227405311),())else some (yw Go.BinOp.gtr Go.FloatKind.f64 f (nat_lit 9218868437227405311),())))
theorem yXD(n:Nat)(x:yQb.den):runF yZZ (yQO n) Tryz.f172 yQb yWm x=yOe n x.1 x.2.1:=by kernel_rfl
def yKt(f:Nat)(sign:Int):Option (Bool×Unit):=yOe 0 f sign
theorem yQp(f:Nat)(sign:Int)(y:Bool×Unit)(h:yKt f sign=some y):∃ n,yOe n f sign=some y:=⟨0,h⟩
def z0y_e:Entry:={ f:=172,args:=yQb,ress:=yWm,m:=λ x=>yKt x.1 x.2.1 }
theorem yYM:FnOK Tryz.prog z0y_e:=yJ (g:=yZZ) (fn:=Tryz.f172) yC yI (yA ycS eNil) (by kernel_rfl) (by kernel_rfl) (by kernel_rfl) (λ x y h=>let ⟨n,hn⟩:=yQp x.1 x.2.1 y h;⟨yQO n,iNil,(yXD n x).trans hn⟩)
abbrev zv_a:Ty:=.pair t55 (.pair (.ref t60) (.pair (.ref t55) .unit))
abbrev zv_r:Ty:=.pair t57 .unit
def zv_g:G:={ T:=T,E:=[z1A_e],muts:=[],fz:=[] }
def zv_k:List (List Nat):=[]
def yZQ(n:Nat):Ann:={ keep:=zv_k,fuel:=n,inl:=[],deep:=0 }
def zv_m(n:Nat)(b:Q3)(p1:Q1)(p2:Q3):Option ((Q4)×Unit) :=
  (Option.bind (yAP p1 p2 b) λ v0=>some ((v0.1.1,v0.1.2.1,()),()))
theorem yeQ(n:Nat)(x:zv_a.den):runF zv_g (yZQ n) Tryz.f193 zv_a zv_r x=zv_m n x.1 x.2.1 x.2.2.1:=by kernel_rfl
def zv_M(b:Q3)(p1:Q1)(p2:Q3):Option ((Q4)×Unit):=zv_m 0 b p1 p2
theorem yVA(b:Q3)(p1:Q1)(p2:Q3)(y:(Q4)×Unit)(h:zv_M b p1 p2=some y):∃ n,zv_m n b p1 p2=some y:=⟨0,h⟩
def zv_e:Entry:={ f:=193,args:=zv_a,ress:=zv_r,m:=λ x=>zv_M x.1 x.2.1 x.2.2.1 }
theorem yeP:FnOK Tryz.prog zv_e:=yJ (g:=zv_g) (fn:=Tryz.f193) yC yI (yA yJn eNil) (by kernel_rfl) (by kernel_rfl) (by kernel_rfl) (λ x y h=>let ⟨n,hn⟩:=yVA x.1 x.2.1 x.2.2.1 y h;⟨yZQ n,iNil,(yeQ n x).trans hn⟩)
abbrev zV_a:Ty:=.pair t35 .unit
abbrev zV_r:Ty:=.pair t28 .unit
def zV_g:G:={ T:=T,E:=[za_e],muts:=[],fz:=[] }
def zV_k:List (List Nat):=[[3,6,7,8]]
def yXM(n:Nat):Ann:={ keep:=zV_k,fuel:=n,inl:=[],deep:=0 }
def yIp(n:Nat)(r0:Int->List Nat->Int->Int->Option (Int×Unit))(ai:Int)(aK:List Nat)(aA:Int)(aT:Int):Option (Int×Unit) :=
  (bif decide (aT < aA)then (Option.bind (idx aK aT) λ v1=>(Option.bind (za_M v1) λ v2=>(bif v2.1 != 0 then some (v2.1,())else r0 v2.1 aK aA (IntKind.i64.wrap (aT+1)))))else some (ai,()))
def yAi(n:Nat)(k:Nat)(ai:Int)(aK:List Nat)(aA:Int)(aT:Int):Option (Int×Unit) :=
  iter (λ r y=>yIp n (λ ai aK aA aT=>r ((ai,(aK,(aA,(aT,())))),((),()))) y.1.1 y.1.2.1 y.1.2.2.1 y.1.2.2.2.1) k ((ai,(aK,(aA,(aT,())))),((),()))
def zV_m(n:Nat)(l:List Nat):Option (Int×Unit) :=
  (yAi n n ((0:Int)) (l) ((↑l.length:Int)) ((0:Int)))
theorem yfd(n:Nat)(x:zV_a.den):runF zV_g (yXM n) Tryz.f202 zV_a zV_r x=zV_m n x.1:=by kernel_rfl
def yJ3(aK:List Nat)(aT:Int)(v1:Nat)(ai:Int):Option ((Int×Unit)⊕(Int)) :=
  (Option.bind (za_M v1) λ v2=>(bif v2.1 != 0 then (some (Sum.inl ((v2.1,()))))else (some (Sum.inr (v2.1)))))
def yOD(aK:List Nat)(ai:Int):Option (Int×Unit) :=
  (some ((ai,())))
theorem yHP(n:Nat)(hn:big<=n)(aK:List Nat)(ai:Int)(hx:List.length (aK) < lenMax):LeF some (yM (λ ac aL a7=>yJ3 aK ac aL a7) (λ a7=>yOD aK a7) 0 (aK) ai) (yAi n n ai aK (List.length (aK):Int) 0):=by
  refine yQ (f:=some) (W:=λ aI ac a7=>yAi n aI a7 aK (List.length (aK):Int) ac) (body:=(λ ac aL a7=>yJ3 aK ac aL a7)) (fin:=(λ a7=>yOD aK a7)) (λ aI ac a7=>?_) hx ai n (by unfold big at hn;unfold lenMax at hx;omega)
  show LeF _ _ (yIp n (yAi n aI) a7 aK (List.length (aK):Int) ac)
  exact y6 (y8 λ v1=>(y8 λ v2=>(y6 (y7 rfl) (y7 rfl)))) (yr (y7 rfl))
def zV_M(l:List Nat):Option (Int×Unit) :=
  (bif decide (List.length (l) < lenMax)then yM (λ ac aL a7=>yJ3 (l) ac aL a7) (λ a7=>yOD (l) a7) 0 (l) ((0:Int))else none)
theorem ycH(l:List Nat)(y:Int×Unit)(h:zV_M l=some y):∃ n,zV_m n l=some y :=
  ⟨big,LeF.top (show LeF some (zV_M l) (zV_m big l)from (λ (n:Nat) (hn:big<=n)=>show LeF some (zV_M l) (zV_m n l)from (yN λ hx=>by apply yHP n hn;exact hx)) big (Nat.le_refl _)) h⟩
def zV_e:Entry:={ f:=202,args:=zV_a,ress:=zV_r,m:=λ x=>zV_M x.1 }
theorem ycd:FnOK Tryz.prog zV_e:=yJ (g:=zV_g) (fn:=Tryz.f202) yC yI (yA yZE eNil) (by kernel_rfl) (by kernel_rfl) (by kernel_rfl) (λ x y h=>let ⟨n,hn⟩:=ycH x.1 y h;⟨yXM n,iNil,(yfd n x).trans hn⟩)
abbrev zb_a:Ty:=.pair t58 .unit
abbrev zb_r:Ty:=.pair t28 .unit
def zb_g:G:={ T:=T,E:=[zm_e,z0r_e,z0W_e],muts:=[],fz:=[] }
def zb_k:List (List Nat):=[[0,9,10,11]]
def yVM(n:Nat):Ann:={ keep:=zb_k,fuel:=n,inl:=[],deep:=0 }
def yJk(n:Nat)(r0:List (Q4)->List (Q4)->Int->Int->Option (Int×Unit))(ah:List (Q4))(ar:List (Q4))(b6:Int)(az:Int):Option (Int×Unit) :=
  (bif decide (az < b6)then (Option.bind (idx ar az) λ v1=>(bif decide (az > 0)then (Option.bind (idx ah (if Bool.true=Bool.true then if IntKind.i64.wrap (az - (1:Int)) > 0 then IntKind.i64.wrap (az - (1:Int))else (0:Int)else if IntKind.i64.wrap (az - (1:Int)) < 0 then IntKind.i64.wrap (az - (1:Int))else (0:Int))) λ v2=>(Option.bind (y6Y [(zm (v1.1,v1.2.1,())).1,(z0r (decide (v1.1<=v2.2.1)) (11:Int)).1]) λ v3=>(bif v3.1 != 0 then some (v3.1,())else r0 ah ar b6 (IntKind.i64.wrap (az+1)))))else (Option.bind (y6Y [(zm (v1.1,v1.2.1,())).1,(z0r Bool.false (11:Int)).1]) λ v4=>(bif v4.1 != 0 then some (v4.1,())else r0 ah ar b6 (IntKind.i64.wrap (az+1))))))else some ((0:Int),()))
def yAu(n:Nat)(k:Nat)(ah:List (Q4))(ar:List (Q4))(b6:Int)(az:Int):Option (Int×Unit) :=
  iter (λ r y=>yJk n (λ ah ar b6 az=>r ((ah,(ar,(b6,(az,())))),((),()))) y.1.1 y.1.2.1 y.1.2.2.1 y.1.2.2.2.1) k ((ah,(ar,(b6,(az,())))),((),()))
def zb_m(n:Nat)(l:List (Q4)):Option (Int×Unit) :=
  (bif decide ((↑l.length:Int) > 2048)then some ((5:Int),())else (yAu n n (l) (l) ((↑l.length:Int)) ((0:Int))))
theorem yfX(n:Nat)(x:zb_a.den):runF zb_g (yVM n) Tryz.f203 zb_a zb_r x=zb_m n x.1:=by kernel_rfl
def yL4(ah:List (Q4))(ar:List (Q4))(az:Int)(v1:Q4):Option ((Int×Unit)⊕Unit) :=
  (bif decide (az > 0)then (Option.bind (idx ah (if Bool.true=Bool.true then if IntKind.i64.wrap (az - (1:Int)) > 0 then IntKind.i64.wrap (az - (1:Int))else (0:Int)else if IntKind.i64.wrap (az - (1:Int)) < 0 then IntKind.i64.wrap (az - (1:Int))else (0:Int))) λ v2=>(Option.bind (y6Y [(zm (v1.1,v1.2.1,())).1,(z0r (decide (v1.1<=v2.2.1)) (11:Int)).1]) λ v3=>(bif v3.1 != 0 then (some (Sum.inl ((v3.1,()))))else (some (Sum.inr ())))))else (Option.bind (y6Y [(zm (v1.1,v1.2.1,())).1,(z0r Bool.false (11:Int)).1]) λ v4=>(bif v4.1 != 0 then (some (Sum.inl ((v4.1,()))))else (some (Sum.inr ())))))
def yMK(ah:List (Q4))(ar:List (Q4)):Option (Int×Unit) :=
  (some (((0:Int),())))
theorem yI4(n:Nat)(hn:big<=n)(ah:List (Q4))(ar:List (Q4))(hx:List.length (ar) < lenMax):LeF some (yM (λ ac aL a7=>yL4 ah ar ac aL) (λ a7=>yMK ah ar) 0 (ar) ()) (yAu n n ah ar (List.length (ar):Int) 0):=by
  refine yQ (f:=some) (W:=λ aI ac a7=>yAu n aI ah ar (List.length (ar):Int) ac) (body:=(λ ac aL a7=>yL4 ah ar ac aL)) (fin:=(λ a7=>yMK ah ar)) (λ aI ac a7=>?_) hx () n (by unfold big at hn;unfold lenMax at hx;omega)
  show LeF _ _ (yJk n (yAu n aI) ah ar (List.length (ar):Int) ac)
  exact y6 (y8 λ v1=>(y6 (y8 λ v2=>(y8 λ v3=>(y6 (y7 rfl) (y7 rfl)))) (y8 λ v4=>(y6 (y7 rfl) (y7 rfl))))) (yr (y7 rfl))
def zb_M(l:List (Q4)):Option (Int×Unit) :=
  (bif decide ((↑l.length:Int) > 2048)then (some (((5:Int),())))else (bif decide (List.length (l) < lenMax)then yM (λ ac aL a7=>yL4 (l) (l) ac aL) (λ a7=>yMK (l) (l)) 0 (l) ()else none))
theorem yZW(l:List (Q4))(y:Int×Unit)(h:zb_M l=some y):∃ n,zb_m n l=some y :=
  ⟨big,LeF.top (show LeF some (zb_M l) (zb_m big l)from (λ (n:Nat) (hn:big<=n)=>show LeF some (zb_M l) (zb_m n l)from (y6 (y7 rfl) (yN λ hx=>by apply yI4 n hn;exact hx))) big (Nat.le_refl _)) h⟩
def zb_e:Entry:={ f:=203,args:=zb_a,ress:=zb_r,m:=λ x=>zb_M x.1 }
theorem yde:FnOK Tryz.prog zb_e:=yJ (g:=zb_g) (fn:=Tryz.f203) yC yI (yA yeZ (yA yBr (yA yQP eNil))) (by kernel_rfl) (by kernel_rfl) (by kernel_rfl) (λ x y h=>let ⟨n,hn⟩:=yZW x.1 y h;⟨yVM n,iNil,(yfX n x).trans hn⟩)
abbrev zQ_a:Ty:=.pair t63 (.pair (.ref t60) .unit)
abbrev zQ_r:Ty:=.pair t4 .unit
def zQ_g:G:={ T:=T,E:=[zC_e,zO_e],muts:=[],fz:=[] }
def zQ_k:List (List Nat):=[]
def yYT(n:Nat):Ann:={ keep:=zQ_k,fuel:=n,inl:=[],deep:=0 }
def zQ_m(n:Nat)(s:Q4)(p1:Q1):Option (Bool×Unit) :=
  (bif decide ((0:Int)<=s.1) && decide (s.1<=s.2.1) && decide (s.2.1<=(↑p1.2.2.1.length:Int))then (Option.bind (zC_M (List.drop s.1.toNat (List.take s.2.1.toNat p1.2.2.1)) λ (x:Nat×Unit)=>zO_M x.1) λ v0=>some (v0.1,()))else none)
theorem yey(n:Nat)(x:zQ_a.den):runF zQ_g (yYT n) Tryz.f206 zQ_a zQ_r x=zQ_m n x.1 x.2.1:=by kernel_rfl
def zQ_M(s:Q4)(p1:Q1):Option (Bool×Unit):=zQ_m 0 s p1
theorem yYN(s:Q4)(p1:Q1)(y:Bool×Unit)(h:zQ_M s p1=some y):∃ n,zQ_m n s p1=some y:=⟨0,h⟩
def zQ_e:Entry:={ f:=206,args:=zQ_a,ress:=zQ_r,m:=λ x=>zQ_M x.1 x.2.1 }
theorem ydM:FnOK Tryz.prog zQ_e:=yJ (g:=zQ_g) (fn:=Tryz.f206) yC yI (yA yeF (yA ydn eNil)) (by kernel_rfl) (by kernel_rfl) (by kernel_rfl) (λ x y h=>let ⟨n,hn⟩:=yYN x.1 x.2.1 y h;⟨yYT n,iNil,(yey n x).trans hn⟩)
end
end Go.Tw
end
section
set_option maxRecDepth 1000000
namespace Go.Tw
open Go.Vx Go.Vx.B Go.Proofs
noncomputable section
abbrev yU3:Ty:=.pair t94 (.pair t22 .unit)
abbrev yab:Ty:=.pair t96 .unit
def yZj:G:={ T:=T,E:=[z0e_e,z0f_e],muts:=[5,8],fz:=[] }
def ye3:List (List Nat):=[[1,5,6,7],[1,5,6,7,8,9]]
def yQN(n:Nat):Ann:={ keep:=ye3,fuel:=n,inl:=[],deep:=0 }
def yFP(n:Nat)(r1:List (Q3)->List Int->Int->List (List (Q4))->Option (List (List (Q4))×Unit))(r2:List (Q3)->List Int->Int->Int->List (List (Q4))->List (Q4)->Option (List (List (Q4))×Unit))(aB:List (Q3))(aa:List Int)(aM:Int)(bc:Int)(ax:List (List (Q4)))(aS:List (Q4)):Option (List (List (Q4))×Unit) :=
  (bif decide (bc < (↑aB.length:Int))then (Option.bind (idx aB aM) λ v3=>(Option.bind (idx aB bc) λ v4=>(Option.bind (yDI aa v3 v4) λ v5=>(bif decide (aS.length+(1:Nat)<=memMax)then r2 aB aa aM (IntKind.i64.wrap (bc+1)) ax (aS++[v5.1])else none))))else (bif decide (ax.length+(1:Nat)<=memMax)then r1 aB aa (IntKind.i64.wrap (aM+1)) (ax++[aS])else none))
def y7H(n:Nat)(r1:List (Q3)->List Int->Int->List (List (Q4))->Option (List (List (Q4))×Unit))(k:Nat)(aB:List (Q3))(aa:List Int)(aM:Int)(bc:Int)(ax:List (List (Q4)))(aS:List (Q4)):Option (List (List (Q4))×Unit) :=
  iter (λ r y=>yFP n r1 (λ aB aa aM bc ax aS=>r ((aB,(aa,(aM,(bc,())))),((ax,(aS,())),()))) y.1.1 y.1.2.1 y.1.2.2.1 y.1.2.2.2.1 y.2.1.1 y.2.1.2.1) k ((aB,(aa,(aM,(bc,())))),((ax,(aS,())),()))
def yGh(n:Nat)(r1:List (Q3)->List Int->Int->List (List (Q4))->Option (List (List (Q4))×Unit))(aH:List (Q3))(af:List Int)(be:Int)(aU:List (List (Q4))):Option (List (List (Q4))×Unit) :=
  (bif decide (be < (↑aH.length:Int))then (y7H n r1 n (aH) (af) (be) ((0:Int)) (aU) ([]))else some (aU,()))
def y72(n:Nat)(k:Nat)(aH:List (Q3))(af:List Int)(be:Int)(aU:List (List (Q4))):Option (List (List (Q4))×Unit) :=
  iter (λ r y=>yGh n (λ aH af be aU=>r ((aH,(af,(be,()))),((aU,()),()))) y.1.1 y.1.2.1 y.1.2.2.1 y.2.1.1) k ((aH,(af,(be,()))),((aU,()),()))
def yNA(n:Nat)(rp:Q1)(l:List (Q3)):Option (List (List (Q4))×Unit) :=
  (Option.bind (y5w rp) λ v0=>(y72 n n (l) (v0.1) ((0:Int)) ([])))
theorem yY6(n:Nat)(x:yU3.den):runF yZj (yQN n) Tryz.f60 yU3 yab x=yNA n x.1 x.2.1:=by kernel_rfl
def yFG(aB:List (Q3))(aa:List Int)(aM:Int)(ax:List (List (Q4)))(bc:Int)(aS:List (Q4)):Option (((List (List (Q4))×Unit)⊕(List (List (Q4))))⊕(List (Q4))) :=
  (Option.bind (idx aB aM) λ v3=>(Option.bind (idx aB bc) λ v4=>(Option.bind (yDI aa v3 v4) λ v5=>(bif decide (aS.length+(1:Nat)<=memMax)then (some (Sum.inr (aS++[v5.1])))else none))))
def yGZ(aB:List (Q3))(aa:List Int)(aM:Int)(ax:List (List (Q4)))(aS:List (Q4)):Option ((List (List (Q4))×Unit)⊕(List (List (Q4)))) :=
  (bif decide (ax.length+(1:Nat)<=memMax)then (some (Sum.inr (ax++[aS])))else none)
theorem yEY(n:Nat)(hn:big<=n)(r1:List (Q3)->List Int->Int->List (List (Q4))->Option (List (List (Q4))×Unit))(aB:List (Q3))(aa:List Int)(aM:Int)(ax:List (List (Q4)))(aS:List (Q4))(hx:((↑aB.length:Int))<=9223372036854775807):LeF (elim some λ (a7:(List (List (Q4))))=>r1 aB aa (IntKind.i64.wrap (aM+1)) a7) (y0I (λ ac a7=>yFG aB aa aM ax ac a7) (λ a7=>yGZ aB aa aM ax a7) (((↑aB.length:Int)) - 0).toNat 0 aS) (y7H n r1 n aB aa aM 0 ax aS):=by
  refine y0c (f:=(elim some λ (a7:(List (List (Q4))))=>r1 aB aa (IntKind.i64.wrap (aM+1)) a7)) (W:=λ aI ac a7=>y7H n r1 aI aB aa aM ac ax a7) (body:=(λ ac a7=>yFG aB aa aM ax ac a7)) (fin:=(λ a7=>yGZ aB aa aM ax a7)) (λ aI ac a7=>?_) hx aS n 0 (by decide) (by unfold big at hn;omega)
  show LeF _ _ (yFP n r1 (y7H n r1 aI) aB aa aM ac ax a7)
  exact y6 (y8 λ v3=>(y8 λ v4=>(y8 λ v5=>(y6 (y7 rfl) yq)))) (yr (y6 (y7 rfl) yq))
def yCz(aH:List (Q3))(af:List Int)(be:Int)(aU:List (List (Q4))):Option ((List (List (Q4))×Unit)⊕(List (List (Q4)))) :=
  (bif decide (((↑aH.length:Int))<=9223372036854775807)then y0I (λ ac a7=>yFG (aH) (af) (be) (aU) ac a7) (λ a7=>yGZ (aH) (af) (be) (aU) a7) (((↑aH.length:Int)) - 0).toNat 0 ([])else none)
def yFY(aH:List (Q3))(af:List Int)(aU:List (List (Q4))):Option (List (List (Q4))×Unit) :=
  (some ((aU,())))
theorem yES(n:Nat)(hn:big<=n)(aH:List (Q3))(af:List Int)(aU:List (List (Q4)))(hx:((↑aH.length:Int))<=9223372036854775807):LeF some (y0I (λ ac a7=>yCz aH af ac a7) (λ a7=>yFY aH af a7) (((↑aH.length:Int)) - 0).toNat 0 aU) (y72 n n aH af 0 aU):=by
  refine y0c (f:=some) (W:=λ aI ac a7=>y72 n aI aH af ac a7) (body:=(λ ac a7=>yCz aH af ac a7)) (fin:=(λ a7=>yFY aH af a7)) (λ aI ac a7=>?_) hx aU n 0 (by decide) (by unfold big at hn;omega)
  show LeF _ _ (yGh n (y72 n aI) aH af ac a7)
  exact y6 (yN λ hx=>by apply yEY n hn;exact hx) (yr (y7 rfl))
def yA6(rp:Q1)(l:List (Q3)):Option (List (List (Q4))×Unit) :=
  (Option.bind (y5w rp) λ v0=>(bif decide (((↑l.length:Int))<=9223372036854775807)then y0I (λ ac a7=>yCz (l) (v0.1) ac a7) (λ a7=>yFY (l) (v0.1) a7) (((↑l.length:Int)) - 0).toNat 0 ([])else none))
theorem yUV(rp:Q1)(l:List (Q3))(y:List (List (Q4))×Unit)(h:yA6 rp l=some y):∃ n,yNA n rp l=some y :=
  ⟨big,LeF.top (show LeF some (yA6 rp l) (yNA big rp l)from (λ (n:Nat) (hn:big<=n)=>show LeF some (yA6 rp l) (yNA n rp l)from (y8 λ v0=>(yN λ hx=>by apply yES n hn;exact hx))) big (Nat.le_refl _)) h⟩
def z0K_e:Entry:={ f:=60,args:=yU3,ress:=yab,m:=λ x=>yA6 x.1 x.2.1 }
theorem yQ0:FnOK Tryz.prog z0K_e:=yJ (g:=yZj) (fn:=Tryz.f60) yC yI (yA yFb (yA yVw eNil)) (by kernel_rfl) (by kernel_rfl) (by kernel_rfl) (λ x y h=>let ⟨n,hn⟩:=yUV x.1 x.2.1 y h;⟨yQN n,iNil,(yY6 n x).trans hn⟩)
abbrev yTG:Ty:=.pair t35 .unit
abbrev yaO:Ty:=.pair t41 (.pair t28 .unit)
def yZL:G:={ T:=T,E:=[z0p_e],muts:=[],fz:=[] }
def ycn:List (List Nat):=[]
def yQ4(n:Nat):Ann:={ keep:=ycn,fuel:=n,inl:=[],deep:=0 }
def yR0(n:Nat)(l:List Nat):Option (List Int×Int×Unit) :=
  (Option.bind (yMh l (nat_lit 1065353216)) λ v0=>some (v0.1,v0.2.1,()))
theorem yVN(n:Nat)(x:yTG.den):runF yZL (yQ4 n) Tryz.f71 yTG yaO x=yR0 n x.1:=by kernel_rfl
def yUt(l:List Nat):Option (List Int×Int×Unit):=yR0 0 l
theorem yV7(l:List Nat)(y:List Int×Int×Unit)(h:yUt l=some y):∃ n,yR0 n l=some y:=⟨0,h⟩
def z14_e:Entry:={ f:=71,args:=yTG,ress:=yaO,m:=λ x=>yUt x.1 }
theorem ybe:FnOK Tryz.prog z14_e:=yJ (g:=yZL) (fn:=Tryz.f71) yC yI (yA yQH eNil) (by kernel_rfl) (by kernel_rfl) (by kernel_rfl) (λ x y h=>let ⟨n,hn⟩:=yV7 x.1 y h;⟨yQ4 n,iNil,(yVN n x).trans hn⟩)
abbrev yUO:Ty:=.pair t35 .unit
abbrev ybg:Ty:=.pair t41 (.pair t28 .unit)
def yZq:G:={ T:=T,E:=[z0p_e],muts:=[],fz:=[] }
def ydw:List (List Nat):=[]
def yP3(n:Nat):Ann:={ keep:=ydw,fuel:=n,inl:=[],deep:=0 }
def ySL(n:Nat)(l:List Nat):Option (List Int×Int×Unit) :=
  (Option.bind (yMh l (nat_lit 3212836864)) λ v0=>some (v0.1,v0.2.1,()))
theorem yXx(n:Nat)(x:yUO.den):runF yZq (yP3 n) Tryz.f72 yUO ybg x=ySL n x.1:=by kernel_rfl
def yTK(l:List Nat):Option (List Int×Int×Unit):=ySL 0 l
theorem yR5(l:List Nat)(y:List Int×Int×Unit)(h:yTK l=some y):∃ n,ySL n l=some y:=⟨0,h⟩
def z1J_e:Entry:={ f:=72,args:=yUO,ress:=ybg,m:=λ x=>yTK x.1 }
theorem yZh:FnOK Tryz.prog z1J_e:=yJ (g:=yZq) (fn:=Tryz.f72) yC yI (yA yQH eNil) (by kernel_rfl) (by kernel_rfl) (by kernel_rfl) (λ x y h=>let ⟨n,hn⟩:=yR5 x.1 y h;⟨yP3 n,iNil,(yXx n x).trans hn⟩)
abbrev zL_a:Ty:=.pair t31 .unit
abbrev zL_r:Ty:=.pair t28 .unit
def zL_g:G:={ T:=T,E:=[z1N_e,z19_e,zM_e],muts:=[21],fz:=[] }
def zL_k:List (List Nat):=[[4,22,23,24]]
def ybu(n:Nat):Ann:={ keep:=zL_k,fuel:=n,inl:=[],deep:=0 }
def yKb(n:Nat)(r1:List (Q3)->Int->Int->List (List UInt8×Bool)->Option (Int×Unit))(aq:List (Q3))(b9:Int)(aW:Int)(aV:List (List UInt8×Bool)):Option (Int×Unit) :=
  (bif decide (aW < b9)then (Option.bind (idx aq aW) λ v2=>(Option.bind (zM_M (v2.1,v2.2.1,v2.2.2.1,())) λ v3=>(Option.bind (y2K [v3.1,(z1N ((y0P Ty.str Ty.bool aV v2.1).getD Bool.false) (9:Int)).1]) λ v4=>(bif v4.1 != 0 then some (v4.1,())else r1 aq b9 (IntKind.i64.wrap (aW+1)) (y1K Ty.str Ty.bool aV v2.1 Bool.true)))))else some ((0:Int),()))
def yB2(n:Nat)(k:Nat)(aq:List (Q3))(b9:Int)(aW:Int)(aV:List (List UInt8×Bool)):Option (Int×Unit) :=
  iter (λ r y=>yKb n (λ aq b9 aW aV=>r ((aq,(b9,(aW,()))),((aV,()),()))) y.1.1 y.1.2.1 y.1.2.2.1 y.2.1.1) k ((aq,(b9,(aW,()))),((aV,()),()))
def zL_m(n:Nat)(l:List (Q3)):Option (Int×Unit) :=
  (Option.bind (y2K [(z1N ((↑l.length:Int)==0) (12:Int)).1,(z1N (decide ((↑l.length:Int) > 4)) (5:Int)).1]) λ v0=>(bif v0.1 != 0 then some (v0.1,())else (yB2 n n (l) ((↑l.length:Int)) ((0:Int)) ([]))))
theorem ycc(n:Nat)(x:zL_a.den):runF zL_g (ybu n) Tryz.f88 zL_a zL_r x=zL_m n x.1:=by kernel_rfl
def yI8(aq:List (Q3))(aW:Int)(v2:Q3)(aV:List (List UInt8×Bool)):Option ((Int×Unit)⊕(List (List UInt8×Bool))) :=
  (Option.bind (zM_M (v2.1,v2.2.1,v2.2.2.1,())) λ v3=>(Option.bind (y2K [v3.1,(z1N ((y0P Ty.str Ty.bool aV v2.1).getD Bool.false) (9:Int)).1]) λ v4=>(bif v4.1 != 0 then (some (Sum.inl ((v4.1,()))))else (some (Sum.inr (y1K Ty.str Ty.bool aV v2.1 Bool.true))))))
def yOW(aq:List (Q3))(aV:List (List UInt8×Bool)):Option (Int×Unit) :=
  (some (((0:Int),())))
theorem yHm(n:Nat)(hn:big<=n)(aq:List (Q3))(aV:List (List UInt8×Bool))(hx:List.length (aq) < lenMax):LeF some (yM (λ ac aL a7=>yI8 aq ac aL a7) (λ a7=>yOW aq a7) 0 (aq) aV) (yB2 n n aq (List.length (aq):Int) 0 aV):=by
  refine yQ (f:=some) (W:=λ aI ac a7=>yB2 n aI aq (List.length (aq):Int) ac a7) (body:=(λ ac aL a7=>yI8 aq ac aL a7)) (fin:=(λ a7=>yOW aq a7)) (λ aI ac a7=>?_) hx aV n (by unfold big at hn;unfold lenMax at hx;omega)
  show LeF _ _ (yKb n (yB2 n aI) aq (List.length (aq):Int) ac a7)
  exact y6 (y8 λ v2=>(y8 λ v3=>(y8 λ v4=>(y6 (y7 rfl) (y7 rfl))))) (yr (y7 rfl))
def zL_M(l:List (Q3)):Option (Int×Unit) :=
  (Option.bind (y2K [(z1N ((↑l.length:Int)==0) (12:Int)).1,(z1N (decide ((↑l.length:Int) > 4)) (5:Int)).1]) λ v0=>(bif v0.1 != 0 then (some ((v0.1,())))else (bif decide (List.length (l) < lenMax)then yM (λ ac aL a7=>yI8 (l) ac aL a7) (λ a7=>yOW (l) a7) 0 (l) ([])else none)))
theorem ybC(l:List (Q3))(y:Int×Unit)(h:zL_M l=some y):∃ n,zL_m n l=some y :=
  ⟨big,LeF.top (show LeF some (zL_M l) (zL_m big l)from (λ (n:Nat) (hn:big<=n)=>show LeF some (zL_M l) (zL_m n l)from (y8 λ v0=>(y6 (y7 rfl) (yN λ hx=>by apply yHm n hn;exact hx)))) big (Nat.le_refl _)) h⟩
def zL_e:Entry:={ f:=88,args:=zL_a,ress:=zL_r,m:=λ x=>zL_M x.1 }
theorem yaW:FnOK Tryz.prog zL_e:=yJ (g:=zL_g) (fn:=Tryz.f88) yC yI (yA y6M (yA y4X (yA ydg eNil))) (by kernel_rfl) (by kernel_rfl) (by kernel_rfl) (λ x y h=>let ⟨n,hn⟩:=ybC x.1 y h;⟨ybu n,iNil,(ycc n x).trans hn⟩)
abbrev zd_a:Ty:=.pair t61 .unit
abbrev zd_r:Ty:=.pair t3 .unit
def zd_g:G:={ T:=T,E:=[z0z_e,z0y_e,z0x_e],muts:=[],fz:=[] }
def zd_k:List (List Nat):=[]
def yZo(n:Nat):Ann:={ keep:=zd_k,fuel:=n,inl:=[],deep:=0 }
def zd_m(n:Nat)(xp:Nat):Option (Int×Unit) :=
  (Option.bind (y1f Go.FloatKind.f32 xp Go.FloatKind.f64) λ v0=>(bif (z0z v0).1 then some ((1:Int),())else (Option.bind (yKt v0 (0:Int)) λ v1=>(bif v1.1 then some ((1:Int),())else (bif yw Go.BinOp.gtr Go.FloatKind.f64 v0 (nat_lit 4634204016564240384)then some ((3:Int),())else (bif yw Go.BinOp.lss Go.FloatKind.f64 v0 (nat_lit 13857576053419016192)then some ((3:Int),())else (Option.bind (y7X (y0A Go.BinOp.mul Go.FloatKind.f64 (nat_lit 4625196817309499392) v0)) λ v4=>(bif yw Go.BinOp.neq Go.FloatKind.f64 (y0A Go.BinOp.mul Go.FloatKind.f64 (nat_lit 4625196817309499392) v0) v4.1 then some ((3:Int),())else some ((0:Int),())))))))))
theorem yd2(n:Nat)(x:zd_a.den):runF zd_g (yZo n) Tryz.f96 zd_a zd_r x=zd_m n x.1:=by kernel_rfl
def zd_M(xp:Nat):Option (Int×Unit):=zd_m 0 xp
theorem yXa(xp:Nat)(y:Int×Unit)(h:zd_M xp=some y):∃ n,zd_m n xp=some y:=⟨0,h⟩
def zd_e:Entry:={ f:=96,args:=zd_a,ress:=zd_r,m:=λ x=>zd_M x.1 }
theorem yet:FnOK Tryz.prog zd_e:=yJ (g:=zd_g) (fn:=Tryz.f96) yC yI (yA yZ7 (yA yYM (yA ya2 eNil))) (by kernel_rfl) (by kernel_rfl) (by kernel_rfl) (λ x y h=>let ⟨n,hn⟩:=yXa x.1 y h;⟨yZo n,iNil,(yd2 n x).trans hn⟩)
abbrev yTS:Ty:=.pair t31 (.pair t23 (.pair t3 .unit))
abbrev yYd:Ty:=.pair t33 .unit
def yYU:G:={ T:=T,E:=[z0m_e,z7_e,z07_e,z08_e,zG_e],muts:=[],fz:=[7] }
def yfO:List (List Nat):=[]
def yPM(n:Nat):Ann:={ keep:=yfO,fuel:=n,inl:=[],deep:=0 }
def yMj(n:Nat)(l:List (Q3))(amplitudes:List (Q4))(den:Int):Option ((Q2)×Unit) :=
  (Option.bind (yD1 amplitudes den) λ v0=>(Option.bind (z7_M l λ (x:(Q3)×Unit)=>yMv x.1) λ v1=>(Option.bind (zG_M amplitudes λ (x:(Q4)×Unit)=>yLF x.1 v0.1) λ v2=>(bif v0.1==0 then none else some ((v1.1,v2.1,IntKind.i64.wrap (den.tdiv v0.1),()),())))))
theorem yYY(n:Nat)(x:yTS.den):runF yYU (yPM n) Tryz.f121 yTS yYd x=yMj n x.1 x.2.1 x.2.2.1:=by kernel_rfl
def yHO(l:List (Q3))(amplitudes:List (Q4))(den:Int):Option ((Q2)×Unit):=yMj 0 l amplitudes den
theorem ySn(l:List (Q3))(amplitudes:List (Q4))(den:Int)(y:(Q2)×Unit)(h:yHO l amplitudes den=some y):∃ n,yMj n l amplitudes den=some y:=⟨0,h⟩
def z0U_e:Entry:={ f:=121,args:=yTS,ress:=yYd,m:=λ x=>yHO x.1 x.2.1 x.2.2.1 }
theorem yW9:FnOK Tryz.prog z0U_e:=yJ (g:=yYU) (fn:=Tryz.f121) yC yI (yA yPq (yA yf5 (yA yWN (yA yaT (yA yfl eNil))))) (by kernel_rfl) (by kernel_rfl) (by kernel_rfl) (λ x y h=>let ⟨n,hn⟩:=ySn x.1 x.2.1 x.2.2.1 y h;⟨yPM n,iNil,(yYY n x).trans hn⟩)
abbrev yQu:Ty:=.pair t3 .unit
abbrev yb5:Ty:=.pair t69 .unit
def ybw:G:={ T:=T,E:=[z0D_e,z1C_e],muts:=[],fz:=[] }
def ye8:List (List Nat):=[]
def yPX(n:Nat):Ann:={ keep:=ye8,fuel:=n,inl:=[],deep:=0 }
def yRx(n:Nat)(year:Int):Option ((Q4)×Unit) :=
  (Option.bind (yDD (IntKind.i64.wrap ((104:Int) - (z0D (IntKind.i64.wrap (year.tmod (16:Int) - (8:Int)))).1)) (100:Int)) λ v0=>some ((v0.1.1,v0.1.2.1,()),()))
theorem yVK(n:Nat)(x:yQu.den):runF ybw (yPX n) Tryz.f136 yQu yb5 x=yRx n x.1:=by kernel_rfl
def yRp(year:Int):Option ((Q4)×Unit):=yRx 0 year
theorem yQt(year:Int)(y:(Q4)×Unit)(h:yRp year=some y):∃ n,yRx n year=some y:=⟨0,h⟩
def z1B_e:Entry:={ f:=136,args:=yQu,ress:=yb5,m:=λ x=>yRp x.1 }
theorem yVo:FnOK Tryz.prog z1B_e:=yJ (g:=ybw) (fn:=Tryz.f136) yC yI (yA yCy (yA yKO eNil)) (by kernel_rfl) (by kernel_rfl) (by kernel_rfl) (λ x y h=>let ⟨n,hn⟩:=yQt x.1 y h;⟨yPX n,iNil,(yVK n x).trans hn⟩)
abbrev zU_a:Ty:=.pair t60 .unit
abbrev zU_r:Ty:=.pair t28 .unit
def zU_g:G:={ T:=T,E:=[z0F_e,z0r_e,z0G_e,z0W_e,zV_e,zb_e,zP_e,zB_e,zQ_e],muts:=[],fz:=[] }
def zU_k:List (List Nat):=[]
def yXZ(n:Nat):Ann:={ keep:=zU_k,fuel:=n,inl:=[],deep:=0 }
def zU_m(n:Nat)(rp:Q1):Option (Int×Unit) :=
  (Option.bind (yCF rp.1) λ v0=>(Option.bind (y6Y [(z0r (!v0.1) (8:Int)).1,(z0G rp.2.1 (0:Int) (100000:Int)).1,(z0r (decide ((↑rp.2.2.1.length:Int) > 4096)) (5:Int)).1]) λ v1=>(bif v1.1 != 0 then some (v1.1,())else (Option.bind (zV_M rp.2.2.1) λ v2=>(Option.bind (zb_M rp.2.2.2.1) λ v3=>(Option.bind (y6Y [v2.1,v3.1]) λ v4=>(bif v4.1 != 0 then some (v4.1,())else (Option.bind (zB_M rp.2.2.2.1 λ (x:(Q4)×Unit)=>zP_M x.1 rp) λ v5=>(bif v5.1 then some ((14:Int),())else (Option.bind (zB_M rp.2.2.2.1 λ (x:(Q4)×Unit)=>zQ_M x.1 rp) λ v6=>some ((z0r v6.1 (1:Int)).1,())))))))))))
theorem ydH(n:Nat)(x:zU_a.den):runF zU_g (yXZ n) Tryz.f157 zU_a zU_r x=zU_m n x.1:=by kernel_rfl
def zU_M(rp:Q1):Option (Int×Unit):=zU_m 0 rp
theorem yYk(rp:Q1)(y:Int×Unit)(h:zU_M rp=some y):∃ n,zU_m n rp=some y:=⟨0,h⟩
def zU_e:Entry:={ f:=157,args:=zU_a,ress:=zU_r,m:=λ x=>zU_M x.1 }
theorem yfF:FnOK Tryz.prog zU_e:=yJ (g:=zU_g) (fn:=Tryz.f157) yC yI (yA yOl (yA yBr (yA ybH (yA yQP (yA ycd (yA yde (yA yeV (yA yfm (yA ydM eNil))))))))) (by kernel_rfl) (by kernel_rfl) (by kernel_rfl) (λ x y h=>let ⟨n,hn⟩:=yYk x.1 y h;⟨yXZ n,iNil,(ydH n x).trans hn⟩)
abbrev yT7:Ty:=.pair t55 (.pair (.ref t31) (.pair (.ref t60) .unit))
abbrev yXy:Ty:=.pair t23 .unit
def yYQ:G:={ T:=T,E:=[zv_e,zA_e],muts:=[],fz:=[] }
def yej:List (List Nat):=[]
def yQA(n:Nat):Ann:={ keep:=yej,fuel:=n,inl:=[],deep:=0 }
def yOY(n:Nat)(a:Q3)(p1:List (Q3))(p2:Q1):Option (List (Q4)×Unit) :=
  (Option.bind (zA_M p1 λ (x:(Q3)×Unit)=>zv_M x.1 p2 a) λ v0=>some (v0.1,()))
theorem yZz(n:Nat)(x:yT7.den):runF yYQ (yQA n) Tryz.f192 yT7 yXy x=yOY n x.1 x.2.1 x.2.2.1:=by kernel_rfl
def yHC(a:Q3)(p1:List (Q3))(p2:Q1):Option (List (Q4)×Unit):=yOY 0 a p1 p2
theorem yUz(a:Q3)(p1:List (Q3))(p2:Q1)(y:List (Q4)×Unit)(h:yHC a p1 p2=some y):∃ n,yOY n a p1 p2=some y:=⟨0,h⟩
def z0E_e:Entry:={ f:=192,args:=yT7,ress:=yXy,m:=λ x=>yHC x.1 x.2.1 x.2.2.1 }
theorem ybc:FnOK Tryz.prog z0E_e:=yJ (g:=yYQ) (fn:=Tryz.f192) yC yI (yA yeP (yA yRj eNil)) (by kernel_rfl) (by kernel_rfl) (by kernel_rfl) (λ x y h=>let ⟨n,hn⟩:=yUz x.1 x.2.1 x.2.2.1 y h;⟨yQA n,iNil,(yZz n x).trans hn⟩)
end
end Go.Tw
end
