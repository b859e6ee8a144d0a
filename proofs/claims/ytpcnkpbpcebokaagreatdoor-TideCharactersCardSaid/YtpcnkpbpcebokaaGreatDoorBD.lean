import Derived.Test.YtpcnkpbpcebokaaGreatDoorBT
import Derived.Test.YtpcnkpbpcebokaaGreatDoorB0
import Derived.Test.YtpcnkpbpcebokaaGreatDoorBS
import Derived.Test.YtpcnkpbpcebokaaGreatDoorLQ
import Derived.Test.YtpcnkpbpcebokaaGreatDoorLR
import Derived.Test.YtpcnkpbpcebokaaGreatDoorBA
import Derived.Test.YtpcnkpbpcebokaaGreatDoorBC
set_option linter.all false
section
set_option maxRecDepth 1000000
namespace Go.Tw
open Go.Vx Go.Vx.B Go.Proofs
noncomputable section
abbrev zy_a:Ty:=.pair t33 .unit
abbrev zy_r:Ty:=.pair t28 .unit
def zy_g:G:={ T:=T,E:=[zL_e,z14_e,z0b_e,zF_e,zz_e,z0q_e,z0X_e],muts:=[],fz:=[] }
def zy_k:List (List Nat):=[]
def yRH(n:Nat):Ann:={ keep:=zy_k,fuel:=n,inl:=[],deep:=0 }
def zy_m(n:Nat)(t:Q2):Option (Int×Unit) :=
  (Option.bind (zL_M t.1) fun v0=>(Option.bind (zF_M t.2.1 fun (x:(Q4)×Unit)=>zz_M x.1) fun v1=>(Option.bind (y1p v1.1) fun v2=>(Option.bind (y1p [v0.1,(z14 ((↑t.2.1.length:Int) != (↑t.1.length:Int)) (2:Int)).1,(z0b t.2.2.1 (1:Int) (268435456:Int)).1,v2.1]) fun v3=>(bif v3.1 != 0 then some (v3.1,())else (Option.bind (yFM t.2.1 t.2.2.1) fun v4=>some ((z14 (v4.1 != 1) (1:Int)).1,())))))))
theorem yYR(n:Nat)(x:zy_a.den):runF zy_g (yRH n) Tryz.f28 zy_a zy_r x=zy_m n x.1:=by kernel_rfl
def zy_M(t:Q2):Option (Int×Unit):=zy_m 0 t
theorem yU7(t:Q2)(y:Int×Unit)(h:zy_M t=some y):∃ n,zy_m n t=some y:=⟨0,h⟩
def zy_e:Entry:={ f:=28,args:=zy_a,ress:=zy_r,m:=fun x=>zy_M x.1 }
theorem yJx:FnOK Tryz.prog zy_e:=yK (g:=zy_g) (fn:=Tryz.f28) yD yJ (y8 yMk (y8 y5u (y8 y8R (y8 yT7 (y8 yY2 (y8 y3P (y8 yLa eNil))))))) (by kernel_rfl) (by kernel_rfl) (by kernel_rfl) (fun x y h=>let ⟨n,hn⟩:=yU7 x.1 y h;⟨yRH n,iNil,(yYR n x).trans hn⟩)
abbrev yMG:Ty:=.pair t3 .unit
abbrev yQG:Ty:=.pair t69 (.pair t28 .unit)
def yTu:G:={ T:=T,E:=[z0b_e,z0s_e],muts:=[],fz:=[] }
def yWw:List (List Nat):=[]
def yKw(n:Nat):Ann:={ keep:=yWw,fuel:=n,inl:=[],deep:=0 }
def yOJ(n:Nat)(year:Int):Option ((Q4)×Int×Unit) :=
  (bif (z0b year (0:Int) (9999:Int)).1 != 0 then some (((0:Int),(0:Int),()),(z0b year (0:Int) (9999:Int)).1,())else (Option.bind (yNe year) fun v0=>some ((v0.1.1,v0.1.2.1,()),(0:Int),())))
theorem yR8(n:Nat)(x:yMG.den):runF yTu (yKw n) Tryz.f41 yMG yQG x=yOJ n x.1:=by kernel_rfl
def yOW(year:Int):Option ((Q4)×Int×Unit):=yOJ 0 year
theorem yOi(year:Int)(y:(Q4)×Int×Unit)(h:yOW year=some y):∃ n,yOJ n year=some y:=⟨0,h⟩
def z0m_e:Entry:={ f:=41,args:=yMG,ress:=yQG,m:=fun x=>yOW x.1 }
theorem yT3:FnOK Tryz.prog z0m_e:=yK (g:=yTu) (fn:=Tryz.f41) yD yJ (y8 y8R (y8 yVa eNil)) (by kernel_rfl) (by kernel_rfl) (by kernel_rfl) (fun x y h=>let ⟨n,hn⟩:=yOi x.1 y h;⟨yKw n,iNil,(yR8 n x).trans hn⟩)
abbrev yOA:Ty:=.pair t60 .unit
abbrev yUV:Ty:=.pair t41 (.pair t28 .unit)
def yTl:G:={ T:=T,E:=[zU_e,z0v_e],muts:=[],fz:=[] }
def yWt:List (List Nat):=[]
def yLc(n:Nat):Ann:={ keep:=yWt,fuel:=n,inl:=[],deep:=0 }
def yJ7(n:Nat)(rp:Q1):Option (List Int×Int×Unit) :=
  (Option.bind (zU_M rp) fun v0=>(bif v0.1 != 0 then some ([],v0.1,())else (Option.bind (y9a rp) fun v1=>some (v1.1,(0:Int),()))))
theorem yTf(n:Nat)(x:yOA.den):runF yTl (yLc n) Tryz.f85 yOA yUV x=yJ7 n x.1:=by kernel_rfl
def yMx(rp:Q1):Option (List Int×Int×Unit):=yJ7 0 rp
theorem yO9(rp:Q1)(y:List Int×Int×Unit)(h:yMx rp=some y):∃ n,yJ7 n rp=some y:=⟨0,h⟩
def z0o_e:Entry:={ f:=85,args:=yOA,ress:=yUV,m:=fun x=>yMx x.1 }
theorem yVv:FnOK Tryz.prog z0o_e:=yK (g:=yTl) (fn:=Tryz.f85) yD yJ (y8 yVK (y8 yFl eNil)) (by kernel_rfl) (by kernel_rfl) (by kernel_rfl) (fun x y h=>let ⟨n,hn⟩:=yO9 x.1 y h;⟨yLc n,iNil,(yTf n x).trans hn⟩)
abbrev zW_a:Ty:=.pair t94 .unit
abbrev zW_r:Ty:=.pair t3 .unit
def zW_g:G:={ T:=T,E:=[zl_e,zc_e,z0P_e,zb_e,zd_e,z0y_e],muts:=[],fz:=[] }
def zW_k:List (List Nat):=[[1,4],[1,7],[1,8]]
def yRp(n:Nat):Ann:={ keep:=zW_k,fuel:=n,inl:=[],deep:=0 }
def yGx(n:Nat)(r8:Q1→Int→Option (Int×Unit))(aH:Q1)(cM:Int):Option (Int×Unit) :=
  (bif decide (cM < (↑aH.2.2.1.length:Int))then (Option.bind (idx aH.2.2.1 cM) fun v9=>(bif ye Go.BinOp.neq Go.FloatKind.f32 v9 (nat_lit 0)then (Option.bind (y9K aH.2.2.2.1 cM) fun v10=>(bif v10.1 then some ((1:Int),())else r8 aH (IntKind.i64.wrap (cM+1))))else r8 aH (IntKind.i64.wrap (cM+1))))else some ((0:Int),()))
def y8q(n:Nat)(k:Nat)(aH:Q1)(cM:Int):Option (Int×Unit) :=
  iter (fun r y=>yGx n (fun aH cM=>r ((aH,(cM,())),((),()))) y.1.1 y.1.2.1) k ((aH,(cM,())),((),()))
def yHL(n:Nat)(r6:Q1→Int→Option (Int×Unit))(aE:Q1)(dI:Int):Option (Int×Unit) :=
  (bif decide (dI < (↑aE.2.2.2.1.length:Int))then (Option.bind (idx aE.2.2.2.1 dI) fun v7=>(bif decide (v7.2.1 > (↑aE.2.2.1.length:Int))then some ((14:Int),())else r6 aE (IntKind.i64.wrap (dI+1))))else (y8q n n (aE) ((0:Int))))
def y9E(n:Nat)(k:Nat)(aE:Q1)(dI:Int):Option (Int×Unit) :=
  iter (fun r y=>yHL n (fun aE dI=>r ((aE,(dI,())),((),()))) y.1.1 y.1.2.1) k ((aE,(dI,())),((),()))
def yHs(n:Nat)(r2:Q1→Int→Option (Int×Unit))(aF:Q1)(dJ:Int):Option (Int×Unit) :=
  (bif decide (dJ < (↑aF.2.2.1.length:Int))then (Option.bind (idx aF.2.2.1 dJ) fun v3=>(Option.bind (zb_M v3) fun v4=>(bif v4.1 != 0 then some (v4.1,())else r2 aF (IntKind.i64.wrap (dJ+1)))))else (Option.bind (zd_M aF.2.2.2.1) fun v5=>(bif v5.1 != 0 then some (v5.1,())else (y9E n n (aF) ((0:Int))))))
def y9o(n:Nat)(k:Nat)(aF:Q1)(dJ:Int):Option (Int×Unit) :=
  iter (fun r y=>yHs n (fun aF dJ=>r ((aF,(dJ,())),((),()))) y.1.1 y.1.2.1) k ((aF,(dJ,())),((),()))
def zW_m(n:Nat)(rp:Q1):Option (Int×Unit) :=
  (Option.bind (zl_M rp.1) fun v0=>(Option.bind (y70 [v0.1,(zc rp.2.1 (0:Int) (100000:Int)).1]) fun v1=>(bif v1.1 != 0 then some (v1.1,())else (bif decide ((↑rp.2.2.1.length:Int) > 4096)then some ((5:Int),())else (y9o n n (rp) ((0:Int)))))))
theorem yW1(n:Nat)(x:zW_a.den):runF zW_g (yRp n) Tryz.f86 zW_a zW_r x=zW_m n x.1:=by kernel_rfl
def yF0(aH:Q1)(cM:Int)(v9:Nat):Option ((Int×Unit)⊕Unit) :=
  (bif ye Go.BinOp.neq Go.FloatKind.f32 v9 (nat_lit 0)then (Option.bind (y9K aH.2.2.2.1 cM) fun v10=>(bif v10.1 then (some (Sum.inl (((1:Int),()))))else (some (Sum.inr ()))))else (some (Sum.inr ())))
def yKI(aH:Q1):Option (Int×Unit) :=
  (some (((0:Int),())))
theorem yFL(n:Nat)(hn:big≤n)(aH:Q1)(hx:List.length (aH.2.2.1) < lenMax):LeF some (yX (fun aT dK aU=>yF0 aH aT dK) (fun aU=>yKI aH) 0 (aH.2.2.1) ()) (y8q n n aH 0):=by
  refine yk (f:=some) (W:=fun eg aT aU=>y8q n eg aH aT) (body:=(fun aT dK aU=>yF0 aH aT dK)) (fin:=(fun aU=>yKI aH)) (fun eg aT aU=>?_) hx () n (by unfold big at hn;unfold lenMax at hx;omega)
  show LeF _ _ (yGx n (y8q n eg) aH aT)
  exact yA (yE fun v9=>(yA (yE fun v10=>(yA (y7 rfl) (y7 rfl))) (y7 rfl))) (y0a (y7 rfl))
def yJY(aE:Q1)(dI:Int)(v7:Q4):Option ((Int×Unit)⊕Unit) :=
  (bif decide (v7.2.1 > (↑aE.2.2.1.length:Int))then (some (Sum.inl (((14:Int),()))))else (some (Sum.inr ())))
def yIp(aE:Q1):Option (Int×Unit) :=
  (bif decide (List.length (aE.2.2.1) < lenMax)then yX (fun aT dK aU=>yF0 (aE) aT dK) (fun aU=>yKI (aE)) 0 (aE.2.2.1) ()else none)
theorem yDy(n:Nat)(hn:big≤n)(aE:Q1)(hx:List.length (aE.2.2.2.1) < lenMax):LeF some (yX (fun aT dK aU=>yJY aE aT dK) (fun aU=>yIp aE) 0 (aE.2.2.2.1) ()) (y9E n n aE 0):=by
  refine yk (f:=some) (W:=fun eg aT aU=>y9E n eg aE aT) (body:=(fun aT dK aU=>yJY aE aT dK)) (fin:=(fun aU=>yIp aE)) (fun eg aT aU=>?_) hx () n (by unfold big at hn;unfold lenMax at hx;omega)
  show LeF _ _ (yHL n (y9E n eg) aE aT)
  exact yA (yE fun v7=>(yA (y7 rfl) (y7 rfl))) (y0a (yh fun hx=>by apply yFL n hn;exact hx))
def yIX(aF:Q1)(dJ:Int)(v3:Nat):Option ((Int×Unit)⊕Unit) :=
  (Option.bind (zb_M v3) fun v4=>(bif v4.1 != 0 then (some (Sum.inl ((v4.1,()))))else (some (Sum.inr ()))))
def yJo(aF:Q1):Option (Int×Unit) :=
  (Option.bind (zd_M aF.2.2.2.1) fun v5=>(bif v5.1 != 0 then (some ((v5.1,())))else (bif decide (List.length (aF.2.2.2.1) < lenMax)then yX (fun aT dK aU=>yJY (aF) aT dK) (fun aU=>yIp (aF)) 0 (aF.2.2.2.1) ()else none)))
theorem yDz(n:Nat)(hn:big≤n)(aF:Q1)(hx:List.length (aF.2.2.1) < lenMax):LeF some (yX (fun aT dK aU=>yIX aF aT dK) (fun aU=>yJo aF) 0 (aF.2.2.1) ()) (y9o n n aF 0):=by
  refine yk (f:=some) (W:=fun eg aT aU=>y9o n eg aF aT) (body:=(fun aT dK aU=>yIX aF aT dK)) (fin:=(fun aU=>yJo aF)) (fun eg aT aU=>?_) hx () n (by unfold big at hn;unfold lenMax at hx;omega)
  show LeF _ _ (yHs n (y9o n eg) aF aT)
  exact yA (yE fun v3=>(yE fun v4=>(yA (y7 rfl) (y7 rfl)))) (y0a (yE fun v5=>(yA (y7 rfl) (yh fun hx=>by apply yDy n hn;exact hx))))
def zW_M(rp:Q1):Option (Int×Unit) :=
  (Option.bind (zl_M rp.1) fun v0=>(Option.bind (y70 [v0.1,(zc rp.2.1 (0:Int) (100000:Int)).1]) fun v1=>(bif v1.1 != 0 then (some ((v1.1,())))else (bif decide ((↑rp.2.2.1.length:Int) > 4096)then (some (((5:Int),())))else (bif decide (List.length (rp.2.2.1) < lenMax)then yX (fun aT dK aU=>yIX (rp) aT dK) (fun aU=>yJo (rp)) 0 (rp.2.2.1) ()else none)))))
theorem yQm(rp:Q1)(y:Int×Unit)(h:zW_M rp=some y):∃ n,zW_m n rp=some y :=
  ⟨big,LeF.top (show LeF some (zW_M rp) (zW_m big rp)from (fun (n:Nat) (hn:big≤n)=>show LeF some (zW_M rp) (zW_m n rp)from (yE fun v0=>(yE fun v1=>(yA (y7 rfl) (yA (y7 rfl) (yh fun hx=>by apply yDz n hn;exact hx)))))) big (Nat.le_refl _)) h⟩
def zW_e:Entry:={ f:=86,args:=zW_a,ress:=zW_r,m:=fun x=>zW_M x.1 }
theorem yWd:FnOK Tryz.prog zW_e:=yK (g:=zW_g) (fn:=Tryz.f86) yD yJ (y8 ySn (y8 yOd (y8 yFp (y8 yX0 (y8 yWg (y8 yLC eNil)))))) (by kernel_rfl) (by kernel_rfl) (by kernel_rfl) (fun x y h=>let ⟨n,hn⟩:=yQm x.1 y h;⟨yRp n,iNil,(yW1 n x).trans hn⟩)
abbrev yPW:Ty:=.pair t60 (.pair t31 .unit)
abbrev yVW:Ty:=.pair t183 .unit
def yQY:G:={ T:=T,E:=[z08_e,z8_e],muts:=[],fz:=[] }
def yWG:List (List Nat):=[]
def yL0(n:Nat):Ann:={ keep:=yWG,fuel:=n,inl:=[],deep:=0 }
def yPK(n:Nat)(rp:Q1)(l:List (Q3)):Option (List (List (Q4))×Unit) :=
  (Option.bind (z8_M l fun (x:(Q3)×Unit)=>yPZ x.1 l rp) fun v0=>some (v0.1,()))
theorem yUz(n:Nat)(x:yPW.den):runF yQY (yL0 n) Tryz.f122 yPW yVW x=yPK n x.1 x.2.1:=by kernel_rfl
def yBe(rp:Q1)(l:List (Q3)):Option (List (List (Q4))×Unit):=yPK 0 rp l
theorem yMK(rp:Q1)(l:List (Q3))(y:List (List (Q4))×Unit)(h:yBe rp l=some y):∃ n,yPK n rp l=some y:=⟨0,h⟩
def z0Y_e:Entry:={ f:=122,args:=yPW,ress:=yVW,m:=fun x=>yBe x.1 x.2.1 }
theorem yAN:FnOK Tryz.prog z0Y_e:=yK (g:=yQY) (fn:=Tryz.f122) yD yJ (y8 yTs (y8 yVw eNil)) (by kernel_rfl) (by kernel_rfl) (by kernel_rfl) (fun x y h=>let ⟨n,hn⟩:=yMK x.1 x.2.1 y h;⟨yL0 n,iNil,(yUz n x).trans hn⟩)
abbrev zi_a:Ty:=.pair t60 .unit
abbrev zi_r:Ty:=.pair t28 .unit
def zi_g:G:={ T:=T,E:=[zU_e,z0v_e,z14_e],muts:=[],fz:=[] }
def zi_k:List (List Nat):=[]
def yQA(n:Nat):Ann:={ keep:=zi_k,fuel:=n,inl:=[],deep:=0 }
def zi_m(n:Nat)(rp:Q1):Option (Int×Unit) :=
  (Option.bind (zU_M rp) fun v0=>(bif v0.1 != 0 then some (v0.1,())else (Option.bind (y9a rp) fun v1=>some ((z14 (decide ((↑v1.1.length:Int) > 128)) (5:Int)).1,()))))
theorem yWF(n:Nat)(x:zi_a.den):runF zi_g (yQA n) Tryz.f128 zi_a zi_r x=zi_m n x.1:=by kernel_rfl
def zi_M(rp:Q1):Option (Int×Unit):=zi_m 0 rp
theorem yUa(rp:Q1)(y:Int×Unit)(h:zi_M rp=some y):∃ n,zi_m n rp=some y:=⟨0,h⟩
def zi_e:Entry:={ f:=128,args:=zi_a,ress:=zi_r,m:=fun x=>zi_M x.1 }
theorem yRN:FnOK Tryz.prog zi_e:=yK (g:=zi_g) (fn:=Tryz.f128) yD yJ (y8 yVK (y8 yFl (y8 y5u eNil))) (by kernel_rfl) (by kernel_rfl) (by kernel_rfl) (fun x y h=>let ⟨n,hn⟩:=yUa x.1 y h;⟨yQA n,iNil,(yWF n x).trans hn⟩)
end
end Go.Tw
end
section
set_option maxRecDepth 1000000
namespace Go.Tw
open Go.Vx Go.Vx.B Go.Proofs
noncomputable section
abbrev yP8:Ty:=.pair t33 (.pair t3 (.pair t3 .unit))
abbrev yUe:Ty:=.pair t23 (.pair t28 .unit)
def ySp:G:={ T:=T,E:=[zy_e,z00_e,z0q_e,z0H_e],muts:=[9],fz:=[] }
def yXG:List (List Nat):=[[1,3,9,21,22]]
def yKp(n:Nat):Ann:={ keep:=yXG,fuel:=n,inl:=[],deep:=0 }
def yD2(n:Nat)(r3:Int→Q2→Int→Int→List (Q4)→Option (List (Q4)×Int×Unit))(a7:Int)(br:Q2)(aq:Int)(bO:Int)(bx:List (Q4)):Option (List (Q4)×Int×Unit) :=
  (bif decide (bO < aq)then (Option.bind (yEr br (IntKind.i64.wrap (a7+bO))) fun v4=>(bif decide (bx.length+(1:Nat)≤memMax)then r3 a7 br aq (IntKind.i64.wrap (bO+1)) (bx++[v4.1])else none))else some (bx,(0:Int),()))
def y6K(n:Nat)(k:Nat)(a7:Int)(br:Q2)(aq:Int)(bO:Int)(bx:List (Q4)):Option (List (Q4)×Int×Unit) :=
  iter (fun r y=>yD2 n (fun a7 br aq bO bx=>r ((a7,(br,(aq,(bO,())))),((bx,()),()))) y.1.1 y.1.2.1 y.1.2.2.1 y.1.2.2.2.1 y.2.1.1) k ((a7,(br,(aq,(bO,())))),((bx,()),()))
def yJ2(n:Nat)(t:Q2)(p1:Int)(np:Int):Option (List (Q4)×Int×Unit) :=
  (Option.bind (zy_M t) fun v0=>(Option.bind (yJE p1 np) fun v1=>(Option.bind (y1p [v0.1,v1.1]) fun v2=>(bif v2.1 != 0 then some ([],v2.1,())else (y6K n n (p1) (t) (np) ((0:Int)) ([]))))))
theorem yTt(n:Nat)(x:yP8.den):runF ySp (yKp n) Tryz.f20 yP8 yUe x=yJ2 n x.1 x.2.1 x.2.2.1:=by kernel_rfl
def yFh(a7:Int)(br:Q2)(aq:Int)(bO:Int)(bx:List (Q4)):Option ((List (Q4)×Int×Unit)⊕(List (Q4))) :=
  (Option.bind (yEr br (IntKind.i64.wrap (a7+bO))) fun v4=>(bif decide (bx.length+(1:Nat)≤memMax)then (some (Sum.inr (bx++[v4.1])))else none))
def yGb(a7:Int)(br:Q2)(aq:Int)(bx:List (Q4)):Option (List (Q4)×Int×Unit) :=
  (some ((bx,(0:Int),())))
theorem yCP(n:Nat)(hn:big≤n)(a7:Int)(br:Q2)(aq:Int)(bx:List (Q4))(hx:(aq)≤9223372036854775807):LeF some (y24 (fun aT aU=>yFh a7 br aq aT aU) (fun aU=>yGb a7 br aq aU) ((aq) - 0).toNat 0 bx) (y6K n n a7 br aq 0 bx):=by
  refine y3u (f:=some) (W:=fun eg aT aU=>y6K n eg a7 br aq aT aU) (body:=(fun aT aU=>yFh a7 br aq aT aU)) (fin:=(fun aU=>yGb a7 br aq aU)) (fun eg aT aU=>?_) hx bx n 0 (by decide) (by unfold big at hn;omega)
  show LeF _ _ (yD2 n (y6K n eg) a7 br aq aT aU)
  exact yA (yE fun v4=>(yA (y7 rfl) y3A)) (y0a (y7 rfl))
def yEp(t:Q2)(p1:Int)(np:Int):Option (List (Q4)×Int×Unit) :=
  (Option.bind (zy_M t) fun v0=>(Option.bind (yJE p1 np) fun v1=>(Option.bind (y1p [v0.1,v1.1]) fun v2=>(bif v2.1 != 0 then (some (([],v2.1,())))else (bif decide ((np)≤9223372036854775807)then y24 (fun aT aU=>yFh (p1) (t) (np) aT aU) (fun aU=>yGb (p1) (t) (np) aU) ((np) - 0).toNat 0 ([])else none)))))
theorem yNd(t:Q2)(p1:Int)(np:Int)(y:List (Q4)×Int×Unit)(h:yEp t p1 np=some y):∃ n,yJ2 n t p1 np=some y :=
  ⟨big,LeF.top (show LeF some (yEp t p1 np) (yJ2 big t p1 np)from (fun (n:Nat) (hn:big≤n)=>show LeF some (yEp t p1 np) (yJ2 n t p1 np)from (yE fun v0=>(yE fun v1=>(yE fun v2=>(yA (y7 rfl) (yh fun hx=>by apply yCP n hn;exact hx)))))) big (Nat.le_refl _)) h⟩
def z0G_e:Entry:={ f:=20,args:=yP8,ress:=yUe,m:=fun x=>yEp x.1 x.2.1 x.2.2.1 }
theorem yKi:FnOK Tryz.prog z0G_e:=yK (g:=ySp) (fn:=Tryz.f20) yD yJ (y8 yJx (y8 ySs (y8 y3P (y8 yKg eNil)))) (by kernel_rfl) (by kernel_rfl) (by kernel_rfl) (fun x y h=>let ⟨n,hn⟩:=yNd x.1 x.2.1 x.2.2.1 y h;⟨yKp n,iNil,(yTt n x).trans hn⟩)
abbrev yOw:Ty:=.pair t60 (.pair t33 .unit)
abbrev yRL:Ty:=.pair t69 (.pair t28 .unit)
def yPz:G:={ T:=T,E:=[zi_e,zy_e,zq_e,z14_e,z0q_e,z0H_e,z0t_e],muts:=[],fz:=[] }
def yXu:List (List Nat):=[]
def yLi(n:Nat):Ann:={ keep:=yXu,fuel:=n,inl:=[il124,il195],deep:=3 }
def yB5(n:Nat)(r4:Q1→List (Q4)→List Nat→Int→Int→Q1→Q2→Q1→Q2→Int→Int→Q1→Int→Q2→Int→Q2→Bool→Bool→Int→List Int→Int→Int→Bool→Q1→Q1→Int→Int→Int→Q1→Q2→Q1→Q2→Int→Int→Q1→Int→Q2→Int→Q2→Bool→Bool→Int→List Int→Int→Int→Bool→Q1→Q1→Option ((Q4)×Int×Unit))(j12:Q1)(j13:List (Q4))(j14:Int)(j15:Nat)(j16:List Nat)(j17:Int)(j18:Int)(j19:Q1)(j20:Q2)(j21:Q1)(j22:Q2)(j23:Int)(j24:Int)(j25:Q1)(j26:Int)(j27:Q2)(j28:Int)(j29:Q2)(j30:Bool)(j31:Bool)(j32:Int)(j33:List Int)(j34:Int)(j35:Int)(j36:Bool)(j37:Q1)(j38:Q1)(j39:Int)(j40:Int)(j41:Int)(j42:Q1)(j43:Q2)(j44:Q1)(j45:Q2)(j46:Int)(j47:Int)(j48:Q1)(j49:Int)(j50:Q2)(j51:Int)(j52:Q2)(j53:Bool)(j54:Bool)(j55:Int)(j56:List Int)(j57:Int)(j58:Int)(j59:Bool)(j60:Q1)(j61:Q1):Option ((Q4)×Int×Unit) :=
  (bif decide ((↑j13.length:Int) > 0)then (Option.bind (idx j13 (0:Int)) fun v62=>(bif decide (v62.1≤j14)then r4 j12 j13 j16 j17 (IntKind.i64.wrap (j18+1)) j19 j20 j21 j22 j23 j24 j25 j26 j27 j28 j29 j30 j31 j32 j33 j34 j35 j36 j37 j38 j39 j40 j41 j42 j43 j44 j45 j46 j47 j48 j49 j50 j51 j52 j53 j54 j55 j56 j57 j58 j59 j60 j61 else (Option.bind (y01 Go.FloatKind.f32 (yx Go.BinOp.mul Go.FloatKind.f32 j15 (nat_lit 1098907648)) IntKind.i64) fun v67=>(Option.bind (yEr j22 (IntKind.i64.wrap (j12.2.1+j14))) fun v68=>r4 j12 j13 j16 j17 (IntKind.i64.wrap (j18+1)) j19 j20 j21 j22 j23 j24 j25 j26 j27 j28 j29 j30 j31 j32 j33 j34 j35 j36 j37 j38 j39 j40 (IntKind.i64.wrap (j41+IntKind.i64.wrap (IntKind.i64.wrap (IntKind.i64.wrap (IntKind.i64.wrap (j22.2.2.1 * v67) - v68.1.1) * IntKind.i64.wrap (IntKind.i64.wrap (j22.2.2.1 * v67) - v68.1.1))+IntKind.i64.wrap (v68.1.2.1 * v68.1.2.1)))) j42 j43 j44 j45 j46 j47 j48 j49 j50 j51 j52 j53 j54 j55 j56 j57 j58 j59 j60 j61))))else (Option.bind (y01 Go.FloatKind.f32 (yx Go.BinOp.mul Go.FloatKind.f32 j15 (nat_lit 1098907648)) IntKind.i64) fun v69=>(Option.bind (yEr j22 (IntKind.i64.wrap (j12.2.1+j14))) fun v70=>r4 j12 j13 j16 j17 (IntKind.i64.wrap (j18+1)) j19 j20 j21 j22 j23 j24 j25 j26 j27 j28 j29 j30 j31 j32 j33 j34 j35 j36 j37 j38 j39 j40 (IntKind.i64.wrap (j41+IntKind.i64.wrap (IntKind.i64.wrap (IntKind.i64.wrap (IntKind.i64.wrap (j22.2.2.1 * v69) - v70.1.1) * IntKind.i64.wrap (IntKind.i64.wrap (j22.2.2.1 * v69) - v70.1.1))+IntKind.i64.wrap (v70.1.2.1 * v70.1.2.1)))) j42 j43 j44 j45 j46 j47 j48 j49 j50 j51 j52 j53 j54 j55 j56 j57 j58 j59 j60 j61)))
def yJk(n:Nat)(r4:Q1→List (Q4)→List Nat→Int→Int→Q1→Q2→Q1→Q2→Int→Int→Q1→Int→Q2→Int→Q2→Bool→Bool→Int→List Int→Int→Int→Bool→Q1→Q1→Int→Int→Int→Q1→Q2→Q1→Q2→Int→Int→Q1→Int→Q2→Int→Q2→Bool→Bool→Int→List Int→Int→Int→Bool→Q1→Q1→Option ((Q4)×Int×Unit))(r6:Q1→List (Q4)→Int→Nat→List Nat→Int→Int→Q1→Q2→Q1→Q2→Int→Int→Q1→Int→Q2→Int→Q2→Bool→Bool→Int→List Int→Int→Int→Bool→Q1→Q1→Int→Int→Int→Q1→Q2→Q1→Q2→Int→Int→Q1→Int→Q2→Int→Q2→Bool→Bool→Int→List Int→Int→Int→Bool→Q1→Q1→Option ((Q4)×Int×Unit))(ek:Q1)(aC:List (Q4))(dL:Int)(ep:Nat)(eu:List Nat)(cN:Int)(cO:Int)(bC:Q1)(bD:Q2)(bE:Q1)(bF:Q2)(bG:Int)(bH:Int)(aV:Q1)(aW:Int)(aX:Q2)(aY:Int)(aZ:Q2)(b6:Bool)(b7:Bool)(b8:Int)(b9:List Int)(ba:Int)(bc:Int)(bd:Bool)(be:Q1)(ar:Q1)(bI:Int)(bJ:Int)(bK:Int)(ev:Q1)(ew:Q2)(ey:Q1)(ez:Q2)(eA:Int)(eB:Int)(cP:Q1)(cQ:Int)(cR:Q2)(cS:Int)(cT:Q2)(cU:Bool)(cV:Bool)(cW:Int)(cX:List Int)(cY:Int)(cZ:Int)(d4:Bool)(d5:Q1)(bf:Q1):Option ((Q4)×Int×Unit) :=
  (bif decide ((↑aC.length:Int) > 0)then (Option.bind (idx aC (0:Int)) fun v7=>(bif decide (v7.2.1≤dL)then (bif decide ((0:Int)≤1) && decide ((1:Int)≤(↑aC.length:Int))then r6 ek (List.drop (Int.toNat (1:Int)) aC) dL ep eu cN cO bC bD bE bF bG bH aV aW aX aY aZ b6 b7 b8 b9 ba bc bd be ar bI bJ bK ev ew ey ez eA eB cP cQ cR cS cT cU cV cW cX cY cZ d4 d5 bf else none)else (yB5 n r4 (ek) (aC) (dL) (ep) (eu) (cN) (cO) (bC) (bD) (bE) (bF) (bG) (bH) (aV) (aW) (aX) (aY) (aZ) (b6) (b7) (b8) (b9) (ba) (bc) (bd) (be) (ar) (bI) (bJ) (bK) (ev) (ew) (ey) (ez) (eA) (eB) (cP) (cQ) (cR) (cS) (cT) (cU) (cV) (cW) (cX) (cY) (cZ) (d4) (d5) (bf))))else (yB5 n r4 (ek) (aC) (dL) (ep) (eu) (cN) (cO) (bC) (bD) (bE) (bF) (bG) (bH) (aV) (aW) (aX) (aY) (aZ) (b6) (b7) (b8) (b9) (ba) (bc) (bd) (be) (ar) (bI) (bJ) (bK) (ev) (ew) (ey) (ez) (eA) (eB) (cP) (cQ) (cR) (cS) (cT) (cU) (cV) (cW) (cX) (cY) (cZ) (d4) (d5) (bf)))
def yIv(n:Nat)(r4:Q1→List (Q4)→List Nat→Int→Int→Q1→Q2→Q1→Q2→Int→Int→Q1→Int→Q2→Int→Q2→Bool→Bool→Int→List Int→Int→Int→Bool→Q1→Q1→Int→Int→Int→Q1→Q2→Q1→Q2→Int→Int→Q1→Int→Q2→Int→Q2→Bool→Bool→Int→List Int→Int→Int→Bool→Q1→Q1→Option ((Q4)×Int×Unit))(k:Nat)(ek:Q1)(aC:List (Q4))(dL:Int)(ep:Nat)(eu:List Nat)(cN:Int)(cO:Int)(bC:Q1)(bD:Q2)(bE:Q1)(bF:Q2)(bG:Int)(bH:Int)(aV:Q1)(aW:Int)(aX:Q2)(aY:Int)(aZ:Q2)(b6:Bool)(b7:Bool)(b8:Int)(b9:List Int)(ba:Int)(bc:Int)(bd:Bool)(be:Q1)(ar:Q1)(bI:Int)(bJ:Int)(bK:Int)(ev:Q1)(ew:Q2)(ey:Q1)(ez:Q2)(eA:Int)(eB:Int)(cP:Q1)(cQ:Int)(cR:Q2)(cS:Int)(cT:Q2)(cU:Bool)(cV:Bool)(cW:Int)(cX:List Int)(cY:Int)(cZ:Int)(d4:Bool)(d5:Q1)(bf:Q1):Option ((Q4)×Int×Unit) :=
  iter (fun r y=>yJk n r4 (fun ek aC dL ep eu cN cO bC bD bE bF bG bH aV aW aX aY aZ b6 b7 b8 b9 ba bc bd be ar bI bJ bK ev ew ey ez eA eB cP cQ cR cS cT cU cV cW cX cY cZ d4 d5 bf=>r ((ek,(aC,(dL,(ep,(eu,(cN,(cO,()))))))),(((bC,(bD,(bE,(bF,(bG,(bH,(aV,(aW,(aX,(aY,(aZ,(b6,(b7,(b8,(b9,(ba,(bc,(bd,(be,((ar,()),())))))))))))))))))))),((bI,(bJ,())),((bK,()),()))),(ev,(ew,(ey,(ez,(eA,(eB,(cP,(cQ,(cR,(cS,(cT,(cU,(cV,(cW,(cX,(cY,(cZ,(d4,(d5,((bf,()),()))))))))))))))))))))))) y.1.1 y.1.2.1 y.1.2.2.1 y.1.2.2.2.1 y.1.2.2.2.2.1 y.1.2.2.2.2.2.1 y.1.2.2.2.2.2.2.1 y.2.1.1.1 y.2.1.1.2.1 y.2.1.1.2.2.1 y.2.1.1.2.2.2.1 y.2.1.1.2.2.2.2.1 y.2.1.1.2.2.2.2.2.1 y.2.1.1.2.2.2.2.2.2.1 y.2.1.1.2.2.2.2.2.2.2.1 y.2.1.1.2.2.2.2.2.2.2.2.1 y.2.1.1.2.2.2.2.2.2.2.2.2.1 y.2.1.1.2.2.2.2.2.2.2.2.2.2.1 y.2.1.1.2.2.2.2.2.2.2.2.2.2.2.1 y.2.1.1.2.2.2.2.2.2.2.2.2.2.2.2.1 y.2.1.1.2.2.2.2.2.2.2.2.2.2.2.2.2.1 y.2.1.1.2.2.2.2.2.2.2.2.2.2.2.2.2.2.1 y.2.1.1.2.2.2.2.2.2.2.2.2.2.2.2.2.2.2.1 y.2.1.1.2.2.2.2.2.2.2.2.2.2.2.2.2.2.2.2.1 y.2.1.1.2.2.2.2.2.2.2.2.2.2.2.2.2.2.2.2.2.1 y.2.1.1.2.2.2.2.2.2.2.2.2.2.2.2.2.2.2.2.2.2.1 y.2.1.1.2.2.2.2.2.2.2.2.2.2.2.2.2.2.2.2.2.2.2.1.1 y.2.1.2.1.1 y.2.1.2.1.2.1 y.2.1.2.2.1.1 y.2.2.1 y.2.2.2.1 y.2.2.2.2.1 y.2.2.2.2.2.1 y.2.2.2.2.2.2.1 y.2.2.2.2.2.2.2.1 y.2.2.2.2.2.2.2.2.1 y.2.2.2.2.2.2.2.2.2.1 y.2.2.2.2.2.2.2.2.2.2.1 y.2.2.2.2.2.2.2.2.2.2.2.1 y.2.2.2.2.2.2.2.2.2.2.2.2.1 y.2.2.2.2.2.2.2.2.2.2.2.2.2.1 y.2.2.2.2.2.2.2.2.2.2.2.2.2.2.1 y.2.2.2.2.2.2.2.2.2.2.2.2.2.2.2.1 y.2.2.2.2.2.2.2.2.2.2.2.2.2.2.2.2.1 y.2.2.2.2.2.2.2.2.2.2.2.2.2.2.2.2.2.1 y.2.2.2.2.2.2.2.2.2.2.2.2.2.2.2.2.2.2.1 y.2.2.2.2.2.2.2.2.2.2.2.2.2.2.2.2.2.2.2.1 y.2.2.2.2.2.2.2.2.2.2.2.2.2.2.2.2.2.2.2.2.1 y.2.2.2.2.2.2.2.2.2.2.2.2.2.2.2.2.2.2.2.2.2.1.1) k ((ek,(aC,(dL,(ep,(eu,(cN,(cO,()))))))),(((bC,(bD,(bE,(bF,(bG,(bH,(aV,(aW,(aX,(aY,(aZ,(b6,(b7,(b8,(b9,(ba,(bc,(bd,(be,((ar,()),())))))))))))))))))))),((bI,(bJ,())),((bK,()),()))),(ev,(ew,(ey,(ez,(eA,(eB,(cP,(cQ,(cR,(cS,(cT,(cU,(cV,(cW,(cX,(cY,(cZ,(d4,(d5,((bf,()),()))))))))))))))))))))))
def yIf(n:Nat)(r4:Q1→List (Q4)→List Nat→Int→Int→Q1→Q2→Q1→Q2→Int→Int→Q1→Int→Q2→Int→Q2→Bool→Bool→Int→List Int→Int→Int→Bool→Q1→Q1→Int→Int→Int→Q1→Q2→Q1→Q2→Int→Int→Q1→Int→Q2→Int→Q2→Bool→Bool→Int→List Int→Int→Int→Bool→Q1→Q1→Option ((Q4)×Int×Unit))(cp:Q1)(aa:List (Q4))(bP:List Nat)(aI:Int)(aG:Int)(au:Q1)(av:Q2)(aw:Q1)(d6:Q2)(ax:Int)(ay:Int)(bQ:Q1)(bR:Int)(bS:Q2)(ac:Int)(ae:Q2)(af:Bool)(ah:Bool)(ai:Int)(bT:List Int)(bU:Int)(bV:Int)(aj:Bool)(ak:Q1)(aK:Q1)(az:Int)(aA:Int)(am:Int)(cr:Q1)(cu:Q2)(cw:Q1)(eC:Q2)(cx:Int)(cy:Int)(dM:Q1)(dN:Int)(dO:Q2)(aL:Int)(aM:Q2)(aN:Bool)(aO:Bool)(aP:Int)(dP:List Int)(dQ:Int)(dR:Int)(aQ:Bool)(aR:Q1)(bW:Q1):Option ((Q4)×Int×Unit) :=
  (bif decide (aG < aI)then (Option.bind (idx bP aG) fun v5=>(yIv n r4 n (cp) (aa) (aG) (v5) (bP) (aI) (aG) (au) (av) (aw) (d6) (ax) (ay) (bQ) (bR) (bS) (ac) (ae) (af) (ah) (ai) (bT) (bU) (bV) (aj) (ak) (aK) (az) (aA) (am) (cr) (cu) (cw) (eC) (cx) (cy) (dM) (dN) (dO) (aL) (aM) (aN) (aO) (aP) (dP) (dQ) (dR) (aQ) (aR) (bW)))else (Option.bind (yFo am (IntKind.i64.wrap (eC.2.2.1 * eC.2.2.1))) fun v72=>some ((v72.1.1,v72.1.2.1,()),(0:Int),())))
def yJV(n:Nat)(k:Nat)(cp:Q1)(aa:List (Q4))(bP:List Nat)(aI:Int)(aG:Int)(au:Q1)(av:Q2)(aw:Q1)(d6:Q2)(ax:Int)(ay:Int)(bQ:Q1)(bR:Int)(bS:Q2)(ac:Int)(ae:Q2)(af:Bool)(ah:Bool)(ai:Int)(bT:List Int)(bU:Int)(bV:Int)(aj:Bool)(ak:Q1)(aK:Q1)(az:Int)(aA:Int)(am:Int)(cr:Q1)(cu:Q2)(cw:Q1)(eC:Q2)(cx:Int)(cy:Int)(dM:Q1)(dN:Int)(dO:Q2)(aL:Int)(aM:Q2)(aN:Bool)(aO:Bool)(aP:Int)(dP:List Int)(dQ:Int)(dR:Int)(aQ:Bool)(aR:Q1)(bW:Q1):Option ((Q4)×Int×Unit) :=
  iter (fun r y=>yIf n (fun cp aa bP aI aG au av aw d6 ax ay bQ bR bS ac ae af ah ai bT bU bV aj ak aK az aA am cr cu cw eC cx cy dM dN dO aL aM aN aO aP dP dQ dR aQ aR bW=>r ((cp,(aa,(bP,(aI,(aG,()))))),(((au,(av,(aw,(d6,(ax,(ay,(bQ,(bR,(bS,(ac,(ae,(af,(ah,(ai,(bT,(bU,(bV,(aj,(ak,((aK,()),())))))))))))))))))))),((az,(aA,())),((am,()),()))),(cr,(cu,(cw,(eC,(cx,(cy,(dM,(dN,(dO,(aL,(aM,(aN,(aO,(aP,(dP,(dQ,(dR,(aQ,(aR,((bW,()),()))))))))))))))))))))))) y.1.1 y.1.2.1 y.1.2.2.1 y.1.2.2.2.1 y.1.2.2.2.2.1 y.2.1.1.1 y.2.1.1.2.1 y.2.1.1.2.2.1 y.2.1.1.2.2.2.1 y.2.1.1.2.2.2.2.1 y.2.1.1.2.2.2.2.2.1 y.2.1.1.2.2.2.2.2.2.1 y.2.1.1.2.2.2.2.2.2.2.1 y.2.1.1.2.2.2.2.2.2.2.2.1 y.2.1.1.2.2.2.2.2.2.2.2.2.1 y.2.1.1.2.2.2.2.2.2.2.2.2.2.1 y.2.1.1.2.2.2.2.2.2.2.2.2.2.2.1 y.2.1.1.2.2.2.2.2.2.2.2.2.2.2.2.1 y.2.1.1.2.2.2.2.2.2.2.2.2.2.2.2.2.1 y.2.1.1.2.2.2.2.2.2.2.2.2.2.2.2.2.2.1 y.2.1.1.2.2.2.2.2.2.2.2.2.2.2.2.2.2.2.1 y.2.1.1.2.2.2.2.2.2.2.2.2.2.2.2.2.2.2.2.1 y.2.1.1.2.2.2.2.2.2.2.2.2.2.2.2.2.2.2.2.2.1 y.2.1.1.2.2.2.2.2.2.2.2.2.2.2.2.2.2.2.2.2.2.1 y.2.1.1.2.2.2.2.2.2.2.2.2.2.2.2.2.2.2.2.2.2.2.1.1 y.2.1.2.1.1 y.2.1.2.1.2.1 y.2.1.2.2.1.1 y.2.2.1 y.2.2.2.1 y.2.2.2.2.1 y.2.2.2.2.2.1 y.2.2.2.2.2.2.1 y.2.2.2.2.2.2.2.1 y.2.2.2.2.2.2.2.2.1 y.2.2.2.2.2.2.2.2.2.1 y.2.2.2.2.2.2.2.2.2.2.1 y.2.2.2.2.2.2.2.2.2.2.2.1 y.2.2.2.2.2.2.2.2.2.2.2.2.1 y.2.2.2.2.2.2.2.2.2.2.2.2.2.1 y.2.2.2.2.2.2.2.2.2.2.2.2.2.2.1 y.2.2.2.2.2.2.2.2.2.2.2.2.2.2.2.1 y.2.2.2.2.2.2.2.2.2.2.2.2.2.2.2.2.1 y.2.2.2.2.2.2.2.2.2.2.2.2.2.2.2.2.2.1 y.2.2.2.2.2.2.2.2.2.2.2.2.2.2.2.2.2.2.1 y.2.2.2.2.2.2.2.2.2.2.2.2.2.2.2.2.2.2.2.1 y.2.2.2.2.2.2.2.2.2.2.2.2.2.2.2.2.2.2.2.2.1 y.2.2.2.2.2.2.2.2.2.2.2.2.2.2.2.2.2.2.2.2.2.1.1) k ((cp,(aa,(bP,(aI,(aG,()))))),(((au,(av,(aw,(d6,(ax,(ay,(bQ,(bR,(bS,(ac,(ae,(af,(ah,(ai,(bT,(bU,(bV,(aj,(ak,((aK,()),())))))))))))))))))))),((az,(aA,())),((am,()),()))),(cr,(cu,(cw,(eC,(cx,(cy,(dM,(dN,(dO,(aL,(aM,(aN,(aO,(aP,(dP,(dQ,(dR,(aQ,(aR,((bW,()),()))))))))))))))))))))))
def yNz(n:Nat)(rp:Q1)(t:Q2):Option ((Q4)×Int×Unit) :=
  (Option.bind (zi_M rp) fun v0=>(Option.bind (zy_M t) fun v1=>(Option.bind (zq_M t) fun v2=>(Option.bind (y1p [v0.1,v1.1,(z14 (!v2.1) (4:Int)).1]) fun v3=>(bif v3.1 != 0 then some (((0:Int),(0:Int),()),v3.1,())else (yJV n n (rp) (rp.2.2.2.1) (rp.2.2.1) ((↑rp.2.2.1.length:Int)) ((0:Int)) (rp) (t) (rp) (t) ((0:Int)) (v3.1) (rp) (v0.1) (t) (v1.1) (t) (v2.1) (!v2.1) ((z14 (!v2.1) (4:Int)).1) ([v0.1,v1.1,(z14 (!v2.1) (4:Int)).1]) (v3.1) (v3.1) (v3.1 != 0) (rp) (rp) ((0:Int)) ((0:Int)) ((0:Int)) (rp) (t) (rp) (t) ((0:Int)) (v3.1) (rp) (v0.1) (t) (v1.1) (t) (v2.1) (!v2.1) ((z14 (!v2.1) (4:Int)).1) ([v0.1,v1.1,(z14 (!v2.1) (4:Int)).1]) (v3.1) (v3.1) (v3.1 != 0) (rp) (rp)))))))
theorem yQy(n:Nat)(x:yOw.den):runF yPz (yLi n) Tryz.f37 yOw yRL x=yNz n x.1 x.2.1:=by kernel_rfl
def yMS(rp:Q1)(t:Q2):Option ((Q4)×Int×Unit):=yNz 1000 rp t
theorem yNK(rp:Q1)(t:Q2)(y:(Q4)×Int×Unit)(h:yMS rp t=some y):∃ n,yNz n rp t=some y:=⟨1000,h⟩
def z06_e:Entry:={ f:=37,args:=yOw,ress:=yRL,m:=fun x=>yMS x.1 x.2.1 }
theorem ySi:FnOK Tryz.prog z06_e:=yK (g:=yPz) (fn:=Tryz.f37) yD yJ (y8 yRN (y8 yJx (y8 yWJ (y8 y5u (y8 y3P (y8 yKg (y8 yGe eNil))))))) (by kernel_rfl) (by kernel_rfl) (by kernel_rfl) (fun x y h=>let ⟨n,hn⟩:=yNK x.1 x.2.1 y h;⟨yLi n,(y53 y4u (y53 y57 iNil)),(yQy n x).trans hn⟩)
abbrev yMD:Ty:=.pair t33 .unit
abbrev yRl:Ty:=.pair t79 (.pair t28 .unit)
def ySL:G:={ T:=T,E:=[zy_e,z0V_e,z14_e,zF_e,z0q_e,z0W_e,zH_e],muts:=[],fz:=[] }
def yXj:List (List Nat):=[]
def yKO(n:Nat):Ann:={ keep:=yXj,fuel:=n,inl:=[],deep:=0 }
def yLs(n:Nat)(t:Q2):Option (List (Nat×Nat)×Int×Unit) :=
  (Option.bind (zy_M t) fun v0=>(bif v0.1 != 0 then some ([],v0.1,())else (Option.bind (zF_M t.2.1 fun (x:(Q4)×Unit)=>yOc x.1) fun v1=>(Option.bind (y1p v1.1) fun v2=>(Option.bind (y1p [(z14 (y3G IntKind.i64 Go.BinOp.and t.2.2.1 (IntKind.i64.wrap (t.2.2.1 - (1:Int))) != 0) (1:Int)).1,v2.1]) fun v3=>(bif v3.1 != 0 then some ([],v3.1,())else (Option.bind (zH_M t.2.1 fun (x:(Q4)×Unit)=>yN5 x.1 (y11 Go.FloatKind.f32 (IntKind.i64.wrap ((16:Int) * t.2.2.1)),nat_lit 0)) fun v4=>some (v4.1,(0:Int),()))))))))
theorem yVr(n:Nat)(x:yMD.den):runF ySL (yKO n) Tryz.f43 yMD yRl x=yLs n x.1:=by kernel_rfl
def yN7(t:Q2):Option (List (Nat×Nat)×Int×Unit):=yLs 0 t
theorem yOM(t:Q2)(y:List (Nat×Nat)×Int×Unit)(h:yN7 t=some y):∃ n,yLs n t=some y:=⟨0,h⟩
def z12_e:Entry:={ f:=43,args:=yMD,ress:=yRl,m:=fun x=>yN7 x.1 }
theorem yVT:FnOK Tryz.prog z12_e:=yK (g:=ySL) (fn:=Tryz.f43) yD yJ (y8 yJx (y8 yQe (y8 y5u (y8 yT7 (y8 y3P (y8 yQV (y8 yYH eNil))))))) (by kernel_rfl) (by kernel_rfl) (by kernel_rfl) (fun x y h=>let ⟨n,hn⟩:=yOM x.1 y h;⟨yKO n,iNil,(yVr n x).trans hn⟩)
def il174:Inl:={ f:=174,fn:=Tryz.f174,keep:=[],muts:=[],fz:=[] }
theorem yIB:y6A Tryz.prog il174:=⟨by kernel_rfl,by kernel_rfl,fun e0 h=>by cases (show (none:Option LibK)=some e0 from h)⟩
def il178:Inl:={ f:=178,fn:=Tryz.f178,keep:=[],muts:=[],fz:=[] }
theorem yIq:y6A Tryz.prog il178:=⟨by kernel_rfl,by kernel_rfl,fun e0 h=>by cases (show (none:Option LibK)=some e0 from h)⟩
def il216:Inl:={ f:=216,fn:=Tryz.f216,lib:=some (.copy 228) }
theorem yIE:y6A Tryz.prog il216:=⟨by kernel_rfl,by kernel_rfl,fun e0 h=>by cases (show some (.copy 228:LibK)=some e0 from h);exact yNA⟩
abbrev yNQ:Ty:=.pair t33 .unit
abbrev yU0:Ty:=.pair t9 (.pair t28 .unit)
def yRW:G:={ T:=T,E:=[zy_e,z0D_e,zN_e,z0E_e],muts:=[5],fz:=[] }
def yX4:List (List Nat):=[[1,5,22,23,24]]
def yLd(n:Nat):Ann:={ keep:=yX4,fuel:=n,inl:=[il174,il178,il216],deep:=8 }
def yHz(n:Nat)(r2:Q2→List (Q3)→Int→Int→List Int→Option (List UInt8×Int×Unit))(cK:Q2)(a8:List (Q3))(dA:Int)(cH:Int)(bq:List Int):Option (List UInt8×Int×Unit) :=
  (bif decide (cH < dA)then (Option.bind (idx a8 cH) fun v3=>(Option.bind (idx cK.2.1 cH) fun v4=>(Option.bind (zN_M [v3.2.1,v3.2.2.1,v4.1,v4.2.1] fun (x:Int×Unit)=>yJz x.1) fun v5=>(bif decide ((12:Nat)+v3.1.length < strMax)then (bif decide (([(99:UInt8),111,110,115,116,105,116,117,101,110,116,32]++v3.1).length+(1:Nat) < strMax)then (Option.bind (yJB v5.1 [(32:UInt8)]) fun v6=>(bif decide (([(99:UInt8),111,110,115,116,105,116,117,101,110,116,32]++v3.1++[(32:UInt8)]).length+v6.1.length < strMax)then (bif decide (([(99:UInt8),111,110,115,116,105,116,117,101,110,116,32]++v3.1++[(32:UInt8)]++v6.1).length+(1:Nat) < strMax)then (bif decide (bq.length+([(99:UInt8),111,110,115,116,105,116,117,101,110,116,32]++v3.1++[(32:UInt8)]++v6.1++[(10:UInt8)]).length≤memMax)then r2 cK a8 dA (IntKind.i64.wrap (cH+1)) (bq++y1x ([(99:UInt8),111,110,115,116,105,116,117,101,110,116,32]++v3.1++[(32:UInt8)]++v6.1++[(10:UInt8)]))else none)else none)else none))else none)else none))))else (bif decide ((0:Nat) < bq.length)then (bif (↑bq.length:Int)==(↑bq.length:Int) && decide ((0:Nat) < bq.length) && y9W bq then some (y2q bq,(0:Int),())else none)else none))
def yKG(n:Nat)(k:Nat)(cK:Q2)(a8:List (Q3))(dA:Int)(cH:Int)(bq:List Int):Option (List UInt8×Int×Unit) :=
  iter (fun r y=>yHz n (fun cK a8 dA cH bq=>r ((cK,(a8,(dA,(cH,())))),(((),(bq,())),()))) y.1.1 y.1.2.1 y.1.2.2.1 y.1.2.2.2.1 y.2.1.2.1) k ((cK,(a8,(dA,(cH,())))),(((),(bq,())),()))
def yMY(n:Nat)(t:Q2):Option (List UInt8×Int×Unit) :=
  (Option.bind (zy_M t) fun v0=>(bif v0.1 != 0 then some ([],v0.1,())else (Option.bind (yJz t.2.2.1) fun v1=>(bif decide ((5:Nat)+v1.1.length < strMax)then (bif decide (([(116:UInt8),105,100,101,32]++v1.1).length+(1:Nat) < strMax)then (bif decide ((0:Nat)+([(116:UInt8),105,100,101,32]++v1.1++[(10:UInt8)]).length≤memMax)then (yKG n n (t) (t.1) ((↑t.1.length:Int)) ((0:Int)) (y1x ([(116:UInt8),105,100,101,32]++v1.1++[(10:UInt8)])))else none)else none)else none))))
theorem yUw(n:Nat)(x:yNQ.den):runF yRW (yLd n) Tryz.f97 yNQ yU0 x=yMY n x.1:=by kernel_rfl
def yPY(t:Q2):Option (List UInt8×Int×Unit):=yMY 1000 t
theorem yPH(t:Q2)(y:List UInt8×Int×Unit)(h:yPY t=some y):∃ n,yMY n t=some y:=⟨1000,h⟩
def z0n_e:Entry:={ f:=97,args:=yNQ,ress:=yU0,m:=fun x=>yPY x.1 }
theorem ySl:FnOK Tryz.prog z0n_e:=yK (g:=yRW) (fn:=Tryz.f97) yD yJ (y8 yJx (y8 yS7 (y8 yWN (y8 yRZ eNil)))) (by kernel_rfl) (by kernel_rfl) (by kernel_rfl) (fun x y h=>let ⟨n,hn⟩:=yPH x.1 y h;⟨yLd n,(y53 yIB (y53 yIq (y53 yIE iNil))),(yUw n x).trans hn⟩)
abbrev yPc:Ty:=.pair t60 (.pair t31 .unit)
abbrev ySD:Ty:=.pair t28 .unit
def yUx:G:={ T:=T,E:=[zi_e,zL_e,z0q_e],muts:=[],fz:=[] }
def yYG:List (List Nat):=[]
def yLK(n:Nat):Ann:={ keep:=yYG,fuel:=n,inl:=[],deep:=0 }
def yMZ(n:Nat)(rp:Q1)(l:List (Q3)):Option (Int×Unit) :=
  (Option.bind (zi_M rp) fun v0=>(Option.bind (zL_M l) fun v1=>(Option.bind (y1p [v0.1,v1.1]) fun v2=>some (v2.1,()))))
theorem yRY(n:Nat)(x:yPc.den):runF yUx (yLK n) Tryz.f119 yPc ySD x=yMZ n x.1 x.2.1:=by kernel_rfl
def y9h(rp:Q1)(l:List (Q3)):Option (Int×Unit):=yMZ 0 rp l
theorem yPS(rp:Q1)(l:List (Q3))(y:Int×Unit)(h:y9h rp l=some y):∃ n,yMZ n rp l=some y:=⟨0,h⟩
def z0p_e:Entry:={ f:=119,args:=yPc,ress:=ySD,m:=fun x=>y9h x.1 x.2.1 }
theorem y7I:FnOK Tryz.prog z0p_e:=yK (g:=yUx) (fn:=Tryz.f119) yD yJ (y8 yRN (y8 yMk (y8 y3P eNil))) (by kernel_rfl) (by kernel_rfl) (by kernel_rfl) (fun x y h=>let ⟨n,hn⟩:=yPS x.1 x.2.1 y h;⟨yLK n,iNil,(yRY n x).trans hn⟩)
abbrev yOy:Ty:=.pair t60 (.pair t31 .unit)
abbrev yQO:Ty:=.pair t23 (.pair t23 (.pair t3 .unit))
def yVX:G:={ T:=T,E:=[z0L_e,zA_e,z0Y_e,zj_e,zK_e],muts:=[9],fz:=[] }
def yY9:List (List Nat):=[[7,8,9,18,19]]
def yLZ(n:Nat):Ann:={ keep:=yY9,fuel:=n,inl:=[],deep:=0 }
def yI9(n:Nat)(r2:List (Q4)→List (List (Q4))→Int→Int→List (Q4)→Option (List (Q4)×List (Q4)×Int×Unit))(eD:List (Q4))(eE:List (List (Q4)))(dB:Int)(d7:Int)(bg:List (Q4)):Option (List (Q4)×List (Q4)×Int×Unit) :=
  (bif decide (d7 < dB)then (Option.bind (zj_M eE d7 eD) fun v3=>(Option.bind (zK_M v3.1) fun v4=>(bif decide (bg.length+(1:Nat)≤memMax)then r2 eD eE dB (IntKind.i64.wrap (d7+1)) (bg++[v4.1])else none)))else (Option.bind (zK_M eE) fun v5=>some (bg,eD,v5.1.1,())))
def yK9(n:Nat)(k:Nat)(eD:List (Q4))(eE:List (List (Q4)))(dB:Int)(d7:Int)(bg:List (Q4)):Option (List (Q4)×List (Q4)×Int×Unit) :=
  iter (fun r y=>yI9 n (fun eD eE dB d7 bg=>r ((eD,(eE,(dB,(d7,())))),((bg,()),()))) y.1.1 y.1.2.1 y.1.2.2.1 y.1.2.2.2.1 y.2.1.1) k ((eD,(eE,(dB,(d7,())))),((bg,()),()))
def yNj(n:Nat)(rp:Q1)(l:List (Q3)):Option (List (Q4)×List (Q4)×Int×Unit) :=
  (Option.bind (zA_M l fun (x:(Q3)×Unit)=>yOV x.1 rp) fun v0=>(Option.bind (yBe rp l) fun v1=>(yK9 n n (v0.1) (v1.1) ((↑l.length:Int)) ((0:Int)) ([]))))
theorem yUm(n:Nat)(x:yOy.den):runF yVX (yLZ n) Tryz.f120 yOy yQO x=yNj n x.1 x.2.1:=by kernel_rfl
def yJn(rp:Q1)(l:List (Q3)):Option (List (Q4)×List (Q4)×Int×Unit):=yNj 1000 rp l
theorem yLq(rp:Q1)(l:List (Q3))(y:List (Q4)×List (Q4)×Int×Unit)(h:yJn rp l=some y):∃ n,yNj n rp l=some y:=⟨1000,h⟩
def z0u_e:Entry:={ f:=120,args:=yOy,ress:=yQO,m:=fun x=>yJn x.1 x.2.1 }
theorem yL6:FnOK Tryz.prog z0u_e:=yK (g:=yVX) (fn:=Tryz.f120) yD yJ (y8 yTI (y8 yPT (y8 yAN (y8 ySC (y8 yJI eNil))))) (by kernel_rfl) (by kernel_rfl) (by kernel_rfl) (fun x y h=>let ⟨n,hn⟩:=yLq x.1 x.2.1 y h;⟨yLZ n,iNil,(yUm n x).trans hn⟩)
abbrev yOt:Ty:=.pair t60 (.pair t31 .unit)
abbrev yTw:Ty:=.pair t4 .unit
def yPu:G:={ T:=T,E:=[z0Y_e,zK_e],muts:=[],fz:=[] }
def yXE:List (List Nat):=[]
def yKU(n:Nat):Ann:={ keep:=yXE,fuel:=n,inl:=[],deep:=0 }
def yP6(n:Nat)(rp:Q1)(l:List (Q3)):Option (Bool×Unit) :=
  (Option.bind (yBe rp l) fun v0=>(Option.bind (zK_M v0.1) fun v1=>some (eqV ((Ty.int IntKind.i64).pair ((Ty.int IntKind.i64).pair Ty.unit)) v1.1 ((0:Int),(0:Int),()),())))
theorem yQC(n:Nat)(x:yOt.den):runF yPu (yKU n) Tryz.f146 yOt yTw x=yP6 n x.1 x.2.1:=by kernel_rfl
def yIO(rp:Q1)(l:List (Q3)):Option (Bool×Unit):=yP6 0 rp l
theorem yNL(rp:Q1)(l:List (Q3))(y:Bool×Unit)(h:yIO rp l=some y):∃ n,yP6 n rp l=some y:=⟨0,h⟩
def z02_e:Entry:={ f:=146,args:=yOt,ress:=yTw,m:=fun x=>yIO x.1 x.2.1 }
theorem yLO:FnOK Tryz.prog z02_e:=yK (g:=yPu) (fn:=Tryz.f146) yD yJ (y8 yAN (y8 yJI eNil)) (by kernel_rfl) (by kernel_rfl) (by kernel_rfl) (fun x y h=>let ⟨n,hn⟩:=yNL x.1 x.2.1 y h;⟨yKU n,iNil,(yQC n x).trans hn⟩)
end
end Go.Tw
end
section
set_option maxRecDepth 1000000
namespace Go.Tw
open Go.Vx Go.Vx.B Go.Proofs
noncomputable section
end
end Go.Tw
end
section
set_option maxRecDepth 1000000
namespace Go.Tw
open Go.Vx Go.Vx.B Go.Proofs
noncomputable section
abbrev yOs:Ty:=.pair t33 (.pair t3 (.pair t3 .unit))
abbrev yUC:Ty:=.pair t35 (.pair t28 .unit)
def yQJ:G:={ T:=T,E:=[z0G_e,z0J_e,z07_e],muts:=[10],fz:=[] }
def yY6:List (List Nat):=[[3,10,24,25,26]]
def yKZ(n:Nat):Ann:={ keep:=yY6,fuel:=n,inl:=[],deep:=0 }
def yIm(n:Nat)(r1:Q2→List (Q4)→Int→Int→List Nat→Option (List Nat×Int×Unit))(eK:Q2)(dC:List (Q4))(dD:Int)(d8:Int)(eF:List Nat):Option (List Nat×Int×Unit) :=
  (bif decide (d8 < dD)then (Option.bind (idx dC d8) fun v2=>(Option.bind (yNZ v2.1 eK.2.2.1) fun v3=>(bif decide ((z07 v3.1).1 > 1024)then some ([],(16:Int),())else (bif decide (eF.length+(1:Nat)≤memMax)then r1 eK dC dD (IntKind.i64.wrap (d8+1)) (eF++[yx Go.BinOp.quo Go.FloatKind.f32 (y11 Go.FloatKind.f32 v3.1) (nat_lit 1098907648)])else none))))else some (eF,(0:Int),()))
def yK2(n:Nat)(k:Nat)(eK:Q2)(dC:List (Q4))(dD:Int)(d8:Int)(eF:List Nat):Option (List Nat×Int×Unit) :=
  iter (fun r y=>yIm n (fun eK dC dD d8 eF=>r ((eK,(dC,(dD,(d8,())))),((eF,()),()))) y.1.1 y.1.2.1 y.1.2.2.1 y.1.2.2.2.1 y.2.1.1) k ((eK,(dC,(dD,(d8,())))),((eF,()),()))
def yOQ(n:Nat)(t:Q2)(p1:Int)(np:Int):Option (List Nat×Int×Unit) :=
  (Option.bind (yEp t p1 np) fun v0=>(bif v0.2.1 != 0 then some ([],v0.2.1,())else (yK2 n n (t) (v0.1) ((↑v0.1.length:Int)) ((0:Int)) ([]))))
theorem ySG(n:Nat)(x:yOs.den):runF yQJ (yKZ n) Tryz.f22 yOs yUC x=yOQ n x.1 x.2.1 x.2.2.1:=by kernel_rfl
def yMz(t:Q2)(p1:Int)(np:Int):Option (List Nat×Int×Unit):=yOQ 1000 t p1 np
theorem yMU(t:Q2)(p1:Int)(np:Int)(y:List Nat×Int×Unit)(h:yMz t p1 np=some y):∃ n,yOQ n t p1 np=some y:=⟨1000,h⟩
def z0T_e:Entry:={ f:=22,args:=yOs,ress:=yUC,m:=fun x=>yMz x.1 x.2.1 x.2.2.1 }
theorem yVb:FnOK Tryz.prog z0T_e:=yK (g:=yQJ) (fn:=Tryz.f22) yD yJ (y8 yKi (y8 yT8 (y8 yBF eNil))) (by kernel_rfl) (by kernel_rfl) (by kernel_rfl) (fun x y h=>let ⟨n,hn⟩:=yMU x.1 x.2.1 x.2.2.1 y h;⟨yKZ n,iNil,(ySG n x).trans hn⟩)
abbrev yOv:Ty:=.pair t60 (.pair t31 .unit)
abbrev yQ9:Ty:=.pair t33 (.pair t28 .unit)
def yUH:G:={ T:=T,E:=[z0p_e,z0u_e,z0K_e],muts:=[],fz:=[] }
def yYE:List (List Nat):=[]
def yLA(n:Nat):Ann:={ keep:=yYE,fuel:=n,inl:=[],deep:=0 }
def yPl(n:Nat)(rp:Q1)(l:List (Q3)):Option ((Q2)×Int×Unit) :=
  (Option.bind (y9h rp l) fun v0=>(bif v0.1 != 0 then some (([],[],(0:Int),()),v0.1,())else (Option.bind (yJn rp l) fun v1=>(bif v1.2.2.1==0 then some (([],[],(0:Int),()),(25:Int),())else (Option.bind (yMW l v1.1 v1.2.2.1) fun v2=>some ((v2.1.1,v2.1.2.1,v2.1.2.2.1,()),(0:Int),()))))))
theorem yQK(n:Nat)(x:yOv.den):runF yUH (yLA n) Tryz.f34 yOv yQ9 x=yPl n x.1 x.2.1:=by kernel_rfl
def yIP(rp:Q1)(l:List (Q3)):Option ((Q2)×Int×Unit):=yPl 0 rp l
theorem yMr(rp:Q1)(l:List (Q3))(y:(Q2)×Int×Unit)(h:yIP rp l=some y):∃ n,yPl n rp l=some y:=⟨0,h⟩
def z0F_e:Entry:={ f:=34,args:=yOv,ress:=yQ9,m:=fun x=>yIP x.1 x.2.1 }
theorem yQD:FnOK Tryz.prog z0F_e:=yK (g:=yUH) (fn:=Tryz.f34) yD yJ (y8 y7I (y8 yL6 (y8 yQ6 eNil))) (by kernel_rfl) (by kernel_rfl) (by kernel_rfl) (fun x y h=>let ⟨n,hn⟩:=yMr x.1 x.2.1 y h;⟨yLA n,iNil,(yQK n x).trans hn⟩)
abbrev zh_a:Ty:=.pair t60 (.pair t31 .unit)
abbrev zh_r:Ty:=.pair t3 (.pair t28 .unit)
def zh_g:G:={ T:=T,E:=[z0p_e,z0Y_e,zK_e],muts:=[],fz:=[] }
def zh_k:List (List Nat):=[]
def yVt(n:Nat):Ann:={ keep:=zh_k,fuel:=n,inl:=[],deep:=0 }
def zh_m(n:Nat)(rp:Q1)(l:List (Q3)):Option (Q4) :=
  (Option.bind (y9h rp l) fun v0=>(bif v0.1 != 0 then some ((0:Int),v0.1,())else (Option.bind (yBe rp l) fun v1=>(Option.bind (zK_M v1.1) fun v2=>some (v2.1.1,(0:Int),())))))
theorem yWv(n:Nat)(x:zh_a.den):runF zh_g (yVt n) Tryz.f35 zh_a zh_r x=zh_m n x.1 x.2.1:=by kernel_rfl
def zh_M(rp:Q1)(l:List (Q3)):Option (Q4):=zh_m 0 rp l
theorem yQz(rp:Q1)(l:List (Q3))(y:Q4)(h:zh_M rp l=some y):∃ n,zh_m n rp l=some y:=⟨0,h⟩
def zh_e:Entry:={ f:=35,args:=zh_a,ress:=zh_r,m:=fun x=>zh_M x.1 x.2.1 }
theorem yXL:FnOK Tryz.prog zh_e:=yK (g:=zh_g) (fn:=Tryz.f35) yD yJ (y8 y7I (y8 yAN (y8 yJI eNil))) (by kernel_rfl) (by kernel_rfl) (by kernel_rfl) (fun x y h=>let ⟨n,hn⟩:=yQz x.1 x.2.1 y h;⟨yVt n,iNil,(yWv n x).trans hn⟩)
abbrev yNi:Ty:=.pair t60 (.pair t31 .unit)
abbrev yTr:Ty:=.pair t69 (.pair t28 .unit)
def yUb:G:={ T:=T,E:=[z0p_e,z0u_e,z01_e,z0w_e,z0t_e],muts:=[],fz:=[] }
def yWV:List (List Nat):=[[4,8,9,10,43,44,45]]
def yLl(n:Nat):Ann:={ keep:=yWV,fuel:=n,inl:=[il124,il195],deep:=3 }
def yAg(n:Nat)(r2:Q1→List (Q4)→List Nat→Int→Int→Q1→List (Q3)→Q1→Int→Int→List (Q4)→List (Q4)→Q1→List (Q3)→Int→Int→Bool→Q1→List (Q3)→List (Q4)→List (Q4)→Int→Int→Bool→Q1→Q1→Int→Int→Int→Int→Q1→List (Q3)→Q1→Int→Int→List (Q4)→List (Q4)→Q1→List (Q3)→Int→Int→Bool→Q1→List (Q3)→List (Q4)→List (Q4)→Int→Int→Bool→Q1→Q1→Option ((Q4)×Int×Unit))(j10:Q1)(j11:List (Q4))(j12:Int)(j13:Nat)(j14:List Nat)(j15:Int)(j16:Int)(j17:Q1)(j18:List (Q3))(j19:Q1)(j20:Int)(j21:Int)(j22:List (Q4))(j23:List (Q4))(j24:Q1)(j25:List (Q3))(j26:Int)(j27:Int)(j28:Bool)(j29:Q1)(j30:List (Q3))(j31:List (Q4))(j32:List (Q4))(j33:Int)(j34:Int)(j35:Bool)(j36:Q1)(j37:Q1)(j38:Int)(j39:Int)(j40:Int)(j41:Int)(j42:Q1)(j43:List (Q3))(j44:Q1)(j45:Int)(j46:Int)(j47:List (Q4))(j48:List (Q4))(j49:Q1)(j50:List (Q3))(j51:Int)(j52:Int)(j53:Bool)(j54:Q1)(j55:List (Q3))(j56:List (Q4))(j57:List (Q4))(j58:Int)(j59:Int)(j60:Bool)(j61:Q1)(j62:Q1):Option ((Q4)×Int×Unit) :=
  (bif decide ((↑j11.length:Int) > 0)then (Option.bind (idx j11 (0:Int)) fun v63=>(bif decide (v63.1≤j12)then r2 j10 j11 j14 j15 (IntKind.i64.wrap (j16+1)) j17 j18 j19 j20 j21 j22 j23 j24 j25 j26 j27 j28 j29 j30 j31 j32 j33 j34 j35 j36 j37 j38 j39 j40 j41 j42 j43 j44 j45 j46 j47 j48 j49 j50 j51 j52 j53 j54 j55 j56 j57 j58 j59 j60 j61 j62 else (Option.bind (y01 Go.FloatKind.f32 (yx Go.BinOp.mul Go.FloatKind.f32 j13 (nat_lit 1098907648)) IntKind.i64) fun v68=>r2 j10 j11 j14 j15 (IntKind.i64.wrap (j16+1)) j17 j18 j19 j20 j21 j22 j23 j24 j25 j26 j27 j28 j29 j30 j31 j32 j33 j34 j35 j36 j37 j38 j39 j40 (IntKind.i64.wrap (j41+IntKind.i64.wrap (IntKind.i64.wrap (j40 * v68) * v68))) j42 j43 j44 j45 j46 j47 j48 j49 j50 j51 j52 j53 j54 j55 j56 j57 j58 j59 j60 j61 j62)))else (Option.bind (y01 Go.FloatKind.f32 (yx Go.BinOp.mul Go.FloatKind.f32 j13 (nat_lit 1098907648)) IntKind.i64) fun v69=>r2 j10 j11 j14 j15 (IntKind.i64.wrap (j16+1)) j17 j18 j19 j20 j21 j22 j23 j24 j25 j26 j27 j28 j29 j30 j31 j32 j33 j34 j35 j36 j37 j38 j39 j40 (IntKind.i64.wrap (j41+IntKind.i64.wrap (IntKind.i64.wrap (j40 * v69) * v69))) j42 j43 j44 j45 j46 j47 j48 j49 j50 j51 j52 j53 j54 j55 j56 j57 j58 j59 j60 j61 j62))
def yIl(n:Nat)(r2:Q1→List (Q4)→List Nat→Int→Int→Q1→List (Q3)→Q1→Int→Int→List (Q4)→List (Q4)→Q1→List (Q3)→Int→Int→Bool→Q1→List (Q3)→List (Q4)→List (Q4)→Int→Int→Bool→Q1→Q1→Int→Int→Int→Int→Q1→List (Q3)→Q1→Int→Int→List (Q4)→List (Q4)→Q1→List (Q3)→Int→Int→Bool→Q1→List (Q3)→List (Q4)→List (Q4)→Int→Int→Bool→Q1→Q1→Option ((Q4)×Int×Unit))(r4:Q1→List (Q4)→Int→Nat→List Nat→Int→Int→Q1→List (Q3)→Q1→Int→Int→List (Q4)→List (Q4)→Q1→List (Q3)→Int→Int→Bool→Q1→List (Q3)→List (Q4)→List (Q4)→Int→Int→Bool→Q1→Q1→Int→Int→Int→Int→Q1→List (Q3)→Q1→Int→Int→List (Q4)→List (Q4)→Q1→List (Q3)→Int→Int→Bool→Q1→List (Q3)→List (Q4)→List (Q4)→Int→Int→Bool→Q1→Q1→Option ((Q4)×Int×Unit))(cp:Q1)(aa:List (Q4))(dS:Int)(eG:Nat)(bP:List Nat)(aI:Int)(aG:Int)(au:Q1)(av:List (Q3))(aw:Q1)(ax:Int)(ay:Int)(bL:List (Q4))(bM:List (Q4))(ac:Q1)(ae:List (Q3))(af:Int)(ah:Int)(ai:Bool)(aj:Q1)(bh:List (Q3))(ak:List (Q4))(bi:List (Q4))(bj:Int)(bl:Int)(bm:Bool)(bn:Q1)(aB:Q1)(az:Int)(aA:Int)(am:Int)(bN:Int)(cr:Q1)(cu:List (Q3))(cw:Q1)(cx:Int)(cy:Int)(eH:List (Q4))(eI:List (Q4))(aL:Q1)(aM:List (Q3))(aN:Int)(aO:Int)(aP:Bool)(aQ:Q1)(d9:List (Q3))(aR:List (Q4))(da:List (Q4))(db:Int)(dc:Int)(df:Bool)(dg:Q1)(bp:Q1):Option ((Q4)×Int×Unit) :=
  (bif decide ((↑aa.length:Int) > 0)then (Option.bind (idx aa (0:Int)) fun v5=>(bif decide (v5.2.1≤dS)then (bif decide ((0:Int)≤1) && decide ((1:Int)≤(↑aa.length:Int))then r4 cp (List.drop (Int.toNat (1:Int)) aa) dS eG bP aI aG au av aw ax ay bL bM ac ae af ah ai aj bh ak bi bj bl bm bn aB az aA am bN cr cu cw cx cy eH eI aL aM aN aO aP aQ d9 aR da db dc df dg bp else none)else (yAg n r2 (cp) (aa) (dS) (eG) (bP) (aI) (aG) (au) (av) (aw) (ax) (ay) (bL) (bM) (ac) (ae) (af) (ah) (ai) (aj) (bh) (ak) (bi) (bj) (bl) (bm) (bn) (aB) (az) (aA) (am) (bN) (cr) (cu) (cw) (cx) (cy) (eH) (eI) (aL) (aM) (aN) (aO) (aP) (aQ) (d9) (aR) (da) (db) (dc) (df) (dg) (bp))))else (yAg n r2 (cp) (aa) (dS) (eG) (bP) (aI) (aG) (au) (av) (aw) (ax) (ay) (bL) (bM) (ac) (ae) (af) (ah) (ai) (aj) (bh) (ak) (bi) (bj) (bl) (bm) (bn) (aB) (az) (aA) (am) (bN) (cr) (cu) (cw) (cx) (cy) (eH) (eI) (aL) (aM) (aN) (aO) (aP) (aQ) (d9) (aR) (da) (db) (dc) (df) (dg) (bp)))
def yJH(n:Nat)(r2:Q1→List (Q4)→List Nat→Int→Int→Q1→List (Q3)→Q1→Int→Int→List (Q4)→List (Q4)→Q1→List (Q3)→Int→Int→Bool→Q1→List (Q3)→List (Q4)→List (Q4)→Int→Int→Bool→Q1→Q1→Int→Int→Int→Int→Q1→List (Q3)→Q1→Int→Int→List (Q4)→List (Q4)→Q1→List (Q3)→Int→Int→Bool→Q1→List (Q3)→List (Q4)→List (Q4)→Int→Int→Bool→Q1→Q1→Option ((Q4)×Int×Unit))(k:Nat)(cp:Q1)(aa:List (Q4))(dS:Int)(eG:Nat)(bP:List Nat)(aI:Int)(aG:Int)(au:Q1)(av:List (Q3))(aw:Q1)(ax:Int)(ay:Int)(bL:List (Q4))(bM:List (Q4))(ac:Q1)(ae:List (Q3))(af:Int)(ah:Int)(ai:Bool)(aj:Q1)(bh:List (Q3))(ak:List (Q4))(bi:List (Q4))(bj:Int)(bl:Int)(bm:Bool)(bn:Q1)(aB:Q1)(az:Int)(aA:Int)(am:Int)(bN:Int)(cr:Q1)(cu:List (Q3))(cw:Q1)(cx:Int)(cy:Int)(eH:List (Q4))(eI:List (Q4))(aL:Q1)(aM:List (Q3))(aN:Int)(aO:Int)(aP:Bool)(aQ:Q1)(d9:List (Q3))(aR:List (Q4))(da:List (Q4))(db:Int)(dc:Int)(df:Bool)(dg:Q1)(bp:Q1):Option ((Q4)×Int×Unit) :=
  iter (fun r y=>yIl n r2 (fun cp aa dS eG bP aI aG au av aw ax ay bL bM ac ae af ah ai aj bh ak bi bj bl bm bn aB az aA am bN cr cu cw cx cy eH eI aL aM aN aO aP aQ d9 aR da db dc df dg bp=>r ((cp,(aa,(dS,(eG,(bP,(aI,(aG,()))))))),(((au,(av,(aw,(ax,(ay,(bL,(bM,(ac,(ae,(af,(ah,(ai,(aj,(bh,(ak,(bi,(bj,(bl,(bm,(bn,((aB,()),()))))))))))))))))))))),((az,(aA,())),((am,()),((bN,()),())))),(cr,(cu,(cw,(cx,(cy,(eH,(eI,(aL,(aM,(aN,(aO,(aP,(aQ,(d9,(aR,(da,(db,(dc,(df,(dg,((bp,()),())))))))))))))))))))))))) y.1.1 y.1.2.1 y.1.2.2.1 y.1.2.2.2.1 y.1.2.2.2.2.1 y.1.2.2.2.2.2.1 y.1.2.2.2.2.2.2.1 y.2.1.1.1 y.2.1.1.2.1 y.2.1.1.2.2.1 y.2.1.1.2.2.2.1 y.2.1.1.2.2.2.2.1 y.2.1.1.2.2.2.2.2.1 y.2.1.1.2.2.2.2.2.2.1 y.2.1.1.2.2.2.2.2.2.2.1 y.2.1.1.2.2.2.2.2.2.2.2.1 y.2.1.1.2.2.2.2.2.2.2.2.2.1 y.2.1.1.2.2.2.2.2.2.2.2.2.2.1 y.2.1.1.2.2.2.2.2.2.2.2.2.2.2.1 y.2.1.1.2.2.2.2.2.2.2.2.2.2.2.2.1 y.2.1.1.2.2.2.2.2.2.2.2.2.2.2.2.2.1 y.2.1.1.2.2.2.2.2.2.2.2.2.2.2.2.2.2.1 y.2.1.1.2.2.2.2.2.2.2.2.2.2.2.2.2.2.2.1 y.2.1.1.2.2.2.2.2.2.2.2.2.2.2.2.2.2.2.2.1 y.2.1.1.2.2.2.2.2.2.2.2.2.2.2.2.2.2.2.2.2.1 y.2.1.1.2.2.2.2.2.2.2.2.2.2.2.2.2.2.2.2.2.2.1 y.2.1.1.2.2.2.2.2.2.2.2.2.2.2.2.2.2.2.2.2.2.2.1 y.2.1.1.2.2.2.2.2.2.2.2.2.2.2.2.2.2.2.2.2.2.2.2.1.1 y.2.1.2.1.1 y.2.1.2.1.2.1 y.2.1.2.2.1.1 y.2.1.2.2.2.1.1 y.2.2.1 y.2.2.2.1 y.2.2.2.2.1 y.2.2.2.2.2.1 y.2.2.2.2.2.2.1 y.2.2.2.2.2.2.2.1 y.2.2.2.2.2.2.2.2.1 y.2.2.2.2.2.2.2.2.2.1 y.2.2.2.2.2.2.2.2.2.2.1 y.2.2.2.2.2.2.2.2.2.2.2.1 y.2.2.2.2.2.2.2.2.2.2.2.2.1 y.2.2.2.2.2.2.2.2.2.2.2.2.2.1 y.2.2.2.2.2.2.2.2.2.2.2.2.2.2.1 y.2.2.2.2.2.2.2.2.2.2.2.2.2.2.2.1 y.2.2.2.2.2.2.2.2.2.2.2.2.2.2.2.2.1 y.2.2.2.2.2.2.2.2.2.2.2.2.2.2.2.2.2.1 y.2.2.2.2.2.2.2.2.2.2.2.2.2.2.2.2.2.2.1 y.2.2.2.2.2.2.2.2.2.2.2.2.2.2.2.2.2.2.2.1 y.2.2.2.2.2.2.2.2.2.2.2.2.2.2.2.2.2.2.2.2.1 y.2.2.2.2.2.2.2.2.2.2.2.2.2.2.2.2.2.2.2.2.2.1 y.2.2.2.2.2.2.2.2.2.2.2.2.2.2.2.2.2.2.2.2.2.2.1.1) k ((cp,(aa,(dS,(eG,(bP,(aI,(aG,()))))))),(((au,(av,(aw,(ax,(ay,(bL,(bM,(ac,(ae,(af,(ah,(ai,(aj,(bh,(ak,(bi,(bj,(bl,(bm,(bn,((aB,()),()))))))))))))))))))))),((az,(aA,())),((am,()),((bN,()),())))),(cr,(cu,(cw,(cx,(cy,(eH,(eI,(aL,(aM,(aN,(aO,(aP,(aQ,(d9,(aR,(da,(db,(dc,(df,(dg,((bp,()),())))))))))))))))))))))))
def yFv(n:Nat)(r74:List (Q4)→List (Q4)→Int→Int→Int→Int→Int→Int→Option ((Q4)×Int×Unit))(dE:List (Q4))(cz:List (Q4))(cA:Int)(bt:Int)(bX:Int)(bY:Int)(bv:Int)(bw:Int):Option ((Q4)×Int×Unit) :=
  (bif decide (bt < cA)then (Option.bind (idx cz bt) fun v75=>(Option.bind (idx dE bt) fun v76=>r74 dE cz cA (IntKind.i64.wrap (bt+1)) bX bY bv (IntKind.i64.wrap (bw - (z0w (z01 v76).1 (v75.1,v75.2.1,())).1.1))))else (Option.bind (yFo bw bv) fun v77=>some ((v77.1.1,v77.1.2.1,()),(0:Int),())))
def yGp(n:Nat)(k:Nat)(dE:List (Q4))(cz:List (Q4))(cA:Int)(bt:Int)(bX:Int)(bY:Int)(bv:Int)(bw:Int):Option ((Q4)×Int×Unit) :=
  iter (fun r y=>yFv n (fun dE cz cA bt bX bY bv bw=>r ((dE,(cz,(cA,(bt,())))),(((bX,(bY,())),((bv,()),((bw,()),()))),()))) y.1.1 y.1.2.1 y.1.2.2.1 y.1.2.2.2.1 y.2.1.1.1 y.2.1.1.2.1 y.2.1.2.1.1 y.2.1.2.2.1.1) k ((dE,(cz,(cA,(bt,())))),(((bX,(bY,())),((bv,()),((bw,()),()))),()))
def yKA(n:Nat)(r2:Q1→List (Q4)→List Nat→Int→Int→Q1→List (Q3)→Q1→Int→Int→List (Q4)→List (Q4)→Q1→List (Q3)→Int→Int→Bool→Q1→List (Q3)→List (Q4)→List (Q4)→Int→Int→Bool→Q1→Q1→Int→Int→Int→Int→Q1→List (Q3)→Q1→Int→Int→List (Q4)→List (Q4)→Q1→List (Q3)→Int→Int→Bool→Q1→List (Q3)→List (Q4)→List (Q4)→Int→Int→Bool→Q1→Q1→Option ((Q4)×Int×Unit))(cK:Q1)(bZ:List (Q4))(eL:List Nat)(dF:Int)(cI:Int)(dl:Q1)(dm:List (Q3))(dn:Q1)(dp:Int)(dq:Int)(dt:List (Q4))(du:List (Q4))(ca:Q1)(cb:List (Q3))(cc:Int)(cd:Int)(ce:Bool)(cf:Q1)(cg:List (Q3))(ci:List (Q4))(cj:List (Q4))(ck:Int)(cl:Int)(cm:Bool)(cn:Q1)(aS:Q1)(cB:Int)(cC:Int)(cD:Int)(cE:Int)(eN:Q1)(eO:List (Q3))(eP:Q1)(eQ:Int)(eR:Int)(eJ:List (Q4))(eM:List (Q4))(dT:Q1)(dU:List (Q3))(dV:Int)(dW:Int)(dX:Bool)(dY:Q1)(dZ:List (Q3))(e6:List (Q4))(e7:List (Q4))(e8:Int)(eb:Int)(ed:Bool)(ee:Q1)(co:Q1):Option ((Q4)×Int×Unit) :=
  (bif decide (cI < dF)then (Option.bind (idx eL cI) fun v3=>(yJH n r2 n (cK) (bZ) (cI) (v3) (eL) (dF) (cI) (dl) (dm) (dn) (dp) (dq) (dt) (du) (ca) (cb) (cc) (cd) (ce) (cf) (cg) (ci) (cj) (ck) (cl) (cm) (cn) (aS) (cB) (cC) (cD) (cE) (eN) (eO) (eP) (eQ) (eR) (eJ) (eM) (dT) (dU) (dV) (dW) (dX) (dY) (dZ) (e6) (e7) (e8) (eb) (ed) (ee) (co)))else (yGp n n (eM) (eJ) ((↑eJ.length:Int)) ((0:Int)) (cB) (cC) (cD) (cE)))
def yJN(n:Nat)(k:Nat)(cK:Q1)(bZ:List (Q4))(eL:List Nat)(dF:Int)(cI:Int)(dl:Q1)(dm:List (Q3))(dn:Q1)(dp:Int)(dq:Int)(dt:List (Q4))(du:List (Q4))(ca:Q1)(cb:List (Q3))(cc:Int)(cd:Int)(ce:Bool)(cf:Q1)(cg:List (Q3))(ci:List (Q4))(cj:List (Q4))(ck:Int)(cl:Int)(cm:Bool)(cn:Q1)(aS:Q1)(cB:Int)(cC:Int)(cD:Int)(cE:Int)(eN:Q1)(eO:List (Q3))(eP:Q1)(eQ:Int)(eR:Int)(eJ:List (Q4))(eM:List (Q4))(dT:Q1)(dU:List (Q3))(dV:Int)(dW:Int)(dX:Bool)(dY:Q1)(dZ:List (Q3))(e6:List (Q4))(e7:List (Q4))(e8:Int)(eb:Int)(ed:Bool)(ee:Q1)(co:Q1):Option ((Q4)×Int×Unit) :=
  iter (fun r y=>yKA n (fun cK bZ eL dF cI dl dm dn dp dq dt du ca cb cc cd ce cf cg ci cj ck cl cm cn aS cB cC cD cE eN eO eP eQ eR eJ eM dT dU dV dW dX dY dZ e6 e7 e8 eb ed ee co=>r ((cK,(bZ,(eL,(dF,(cI,()))))),(((dl,(dm,(dn,(dp,(dq,(dt,(du,(ca,(cb,(cc,(cd,(ce,(cf,(cg,(ci,(cj,(ck,(cl,(cm,(cn,((aS,()),()))))))))))))))))))))),((cB,(cC,())),((cD,()),((cE,()),())))),(eN,(eO,(eP,(eQ,(eR,(eJ,(eM,(dT,(dU,(dV,(dW,(dX,(dY,(dZ,(e6,(e7,(e8,(eb,(ed,(ee,((co,()),())))))))))))))))))))))))) y.1.1 y.1.2.1 y.1.2.2.1 y.1.2.2.2.1 y.1.2.2.2.2.1 y.2.1.1.1 y.2.1.1.2.1 y.2.1.1.2.2.1 y.2.1.1.2.2.2.1 y.2.1.1.2.2.2.2.1 y.2.1.1.2.2.2.2.2.1 y.2.1.1.2.2.2.2.2.2.1 y.2.1.1.2.2.2.2.2.2.2.1 y.2.1.1.2.2.2.2.2.2.2.2.1 y.2.1.1.2.2.2.2.2.2.2.2.2.1 y.2.1.1.2.2.2.2.2.2.2.2.2.2.1 y.2.1.1.2.2.2.2.2.2.2.2.2.2.2.1 y.2.1.1.2.2.2.2.2.2.2.2.2.2.2.2.1 y.2.1.1.2.2.2.2.2.2.2.2.2.2.2.2.2.1 y.2.1.1.2.2.2.2.2.2.2.2.2.2.2.2.2.2.1 y.2.1.1.2.2.2.2.2.2.2.2.2.2.2.2.2.2.2.1 y.2.1.1.2.2.2.2.2.2.2.2.2.2.2.2.2.2.2.2.1 y.2.1.1.2.2.2.2.2.2.2.2.2.2.2.2.2.2.2.2.2.1 y.2.1.1.2.2.2.2.2.2.2.2.2.2.2.2.2.2.2.2.2.2.1 y.2.1.1.2.2.2.2.2.2.2.2.2.2.2.2.2.2.2.2.2.2.2.1 y.2.1.1.2.2.2.2.2.2.2.2.2.2.2.2.2.2.2.2.2.2.2.2.1.1 y.2.1.2.1.1 y.2.1.2.1.2.1 y.2.1.2.2.1.1 y.2.1.2.2.2.1.1 y.2.2.1 y.2.2.2.1 y.2.2.2.2.1 y.2.2.2.2.2.1 y.2.2.2.2.2.2.1 y.2.2.2.2.2.2.2.1 y.2.2.2.2.2.2.2.2.1 y.2.2.2.2.2.2.2.2.2.1 y.2.2.2.2.2.2.2.2.2.2.1 y.2.2.2.2.2.2.2.2.2.2.2.1 y.2.2.2.2.2.2.2.2.2.2.2.2.1 y.2.2.2.2.2.2.2.2.2.2.2.2.2.1 y.2.2.2.2.2.2.2.2.2.2.2.2.2.2.1 y.2.2.2.2.2.2.2.2.2.2.2.2.2.2.2.1 y.2.2.2.2.2.2.2.2.2.2.2.2.2.2.2.2.1 y.2.2.2.2.2.2.2.2.2.2.2.2.2.2.2.2.2.1 y.2.2.2.2.2.2.2.2.2.2.2.2.2.2.2.2.2.2.1 y.2.2.2.2.2.2.2.2.2.2.2.2.2.2.2.2.2.2.2.1 y.2.2.2.2.2.2.2.2.2.2.2.2.2.2.2.2.2.2.2.2.1 y.2.2.2.2.2.2.2.2.2.2.2.2.2.2.2.2.2.2.2.2.2.1 y.2.2.2.2.2.2.2.2.2.2.2.2.2.2.2.2.2.2.2.2.2.2.1.1) k ((cK,(bZ,(eL,(dF,(cI,()))))),(((dl,(dm,(dn,(dp,(dq,(dt,(du,(ca,(cb,(cc,(cd,(ce,(cf,(cg,(ci,(cj,(ck,(cl,(cm,(cn,((aS,()),()))))))))))))))))))))),((cB,(cC,())),((cD,()),((cE,()),())))),(eN,(eO,(eP,(eQ,(eR,(eJ,(eM,(dT,(dU,(dV,(dW,(dX,(dY,(dZ,(e6,(e7,(e8,(eb,(ed,(ee,((co,()),())))))))))))))))))))))))
def yO3(n:Nat)(rp:Q1)(l:List (Q3)):Option ((Q4)×Int×Unit) :=
  (Option.bind (y9h rp l) fun v0=>(bif v0.1 != 0 then some (((0:Int),(0:Int),()),v0.1,())else (Option.bind (yJn rp l) fun v1=>(bif v1.2.2.1==0 then some (((0:Int),(0:Int),()),(25:Int),())else (yJN n n (rp) (rp.2.2.2.1) (rp.2.2.1) ((↑rp.2.2.1.length:Int)) ((0:Int)) (rp) (l) (rp) ((0:Int)) (v0.1) (v1.1) (v1.2.1) (rp) (l) (v0.1) (v0.1) (v0.1 != 0) (rp) (l) (v1.1) (v1.2.1) (v1.2.2.1) (v1.2.2.1) (v1.2.2.1==0) (rp) (rp) ((0:Int)) ((0:Int)) (v1.2.2.1) ((0:Int)) (rp) (l) (rp) ((0:Int)) (v0.1) (v1.1) (v1.2.1) (rp) (l) (v0.1) (v0.1) (v0.1 != 0) (rp) (l) (v1.1) (v1.2.1) (v1.2.2.1) (v1.2.2.1) (v1.2.2.1==0) (rp) (rp))))))
theorem yUq(n:Nat)(x:yNi.den):runF yUb (yLl n) Tryz.f36 yNi yTr x=yO3 n x.1 x.2.1:=by kernel_rfl
def yJS(rp:Q1)(l:List (Q3)):Option ((Q4)×Int×Unit):=yO3 1000 rp l
theorem yNg(rp:Q1)(l:List (Q3))(y:(Q4)×Int×Unit)(h:yJS rp l=some y):∃ n,yO3 n rp l=some y:=⟨1000,h⟩
def z0l_e:Entry:={ f:=36,args:=yNi,ress:=yTr,m:=fun x=>yJS x.1 x.2.1 }
theorem yV9:FnOK Tryz.prog z0l_e:=yK (g:=yUb) (fn:=Tryz.f36) yD yJ (y8 y7I (y8 yL6 (y8 yHt (y8 yCj (y8 yGe eNil))))) (by kernel_rfl) (by kernel_rfl) (by kernel_rfl) (fun x y h=>let ⟨n,hn⟩:=yNg x.1 x.2.1 y h;⟨yLl n,(y53 y4u (y53 y57 iNil)),(yUq n x).trans hn⟩)
abbrev yMd:Ty:=.pair t60 (.pair t31 .unit)
abbrev yU6:Ty:=.pair t96 (.pair t28 .unit)
def yV5:G:={ T:=T,E:=[z0p_e,z0Y_e],muts:=[],fz:=[] }
def yXc:List (List Nat):=[]
def yLf(n:Nat):Ann:={ keep:=yXc,fuel:=n,inl:=[],deep:=0 }
def yPi(n:Nat)(rp:Q1)(l:List (Q3)):Option (List (List (Q4))×Int×Unit) :=
  (Option.bind (y9h rp l) fun v0=>(bif v0.1 != 0 then some ([],v0.1,())else (Option.bind (yBe rp l) fun v1=>some (v1.1,(0:Int),()))))
theorem yVe(n:Nat)(x:yMd.den):runF yV5 (yLf n) Tryz.f55 yMd yU6 x=yPi n x.1 x.2.1:=by kernel_rfl
def yPR(rp:Q1)(l:List (Q3)):Option (List (List (Q4))×Int×Unit):=yPi 0 rp l
theorem yNm(rp:Q1)(l:List (Q3))(y:List (List (Q4))×Int×Unit)(h:yPR rp l=some y):∃ n,yPi n rp l=some y:=⟨0,h⟩
def z0U_e:Entry:={ f:=55,args:=yMd,ress:=yU6,m:=fun x=>yPR x.1 x.2.1 }
theorem yS1:FnOK Tryz.prog z0U_e:=yK (g:=yV5) (fn:=Tryz.f55) yD yJ (y8 y7I (y8 yAN eNil)) (by kernel_rfl) (by kernel_rfl) (by kernel_rfl) (fun x y h=>let ⟨n,hn⟩:=yNm x.1 x.2.1 y h;⟨yLf n,iNil,(yVe n x).trans hn⟩)
abbrev yOp:Ty:=.pair t60 (.pair t31 .unit)
abbrev yTH:Ty:=.pair t3 (.pair t28 .unit)
def yVf:G:={ T:=T,E:=[z0p_e,z6_e,z02_e],muts:=[24],fz:=[7,27] }
def yXP:List (List Nat):=[[2,7,17,18,19,1000007]]
def yKc(n:Nat):Ann:={ keep:=yXP,fuel:=n,inl:=[],deep:=0 }
def yJj(n:Nat)(r1:Q1→List (Q3)→List (Q3)→Int→Int→Option (Q4))(bz:Q1)(aD:List (Q3))(dv:List (Q3))(dw:Int)(cJ:Int):Option (Q4) :=
  (bif decide (cJ < dw)then (Option.bind (idx dv cJ) fun v2=>(bif decide (aD.length≤memMax)then (bif decide (aD.length+(1:Nat)≤memMax)then (Option.bind (yIO bz (aD++[(v2.1,v2.2.1,v2.2.2.1,())])) fun v3=>(bif !v3.1 then r1 bz (aD++[(v2.1,v2.2.1,v2.2.2.1,())]) dv dw (IntKind.i64.wrap (cJ+1))else r1 bz aD dv dw (IntKind.i64.wrap (cJ+1))))else none)else none))else some ((↑aD.length:Int),(0:Int),()))
def yIA(n:Nat)(k:Nat)(bz:Q1)(aD:List (Q3))(dv:List (Q3))(dw:Int)(cJ:Int):Option (Q4) :=
  iter (fun r y=>yJj n (fun bz aD dv dw cJ=>r ((bz,(aD,(dv,(dw,(cJ,()))))),((),()))) y.1.1 y.1.2.1 y.1.2.2.1 y.1.2.2.2.1 y.1.2.2.2.2.1) k ((bz,(aD,(dv,(dw,(cJ,()))))),((),()))
def yO4(n:Nat)(rp:Q1)(l:List (Q3)):Option (Q4) :=
  (Option.bind (y9h rp l) fun v0=>(bif v0.1 != 0 then some ((0:Int),v0.1,())else (yIA n n (rp) ([]) (l) ((↑l.length:Int)) ((0:Int)))))
theorem ySH(n:Nat)(x:yOp.den):runF yVf (yKc n) Tryz.f57 yOp yTH x=yO4 n x.1 x.2.1:=by kernel_rfl
def yO0(rp:Q1)(l:List (Q3)):Option (Q4):=yO4 1000 rp l
theorem yMh(rp:Q1)(l:List (Q3))(y:Q4)(h:yO0 rp l=some y):∃ n,yO4 n rp l=some y:=⟨1000,h⟩
def z11_e:Entry:={ f:=57,args:=yOp,ress:=yTH,m:=fun x=>yO0 x.1 x.2.1 }
theorem ySO:FnOK Tryz.prog z11_e:=yK (g:=yVf) (fn:=Tryz.f57) yD yJ (y8 y7I (y8 yX1 (y8 yLO eNil))) (by kernel_rfl) (by kernel_rfl) (by kernel_rfl) (fun x y h=>let ⟨n,hn⟩:=yMh x.1 x.2.1 y h;⟨yKc n,iNil,(ySH n x).trans hn⟩)
abbrev yMq:Ty:=.pair t60 (.pair t31 .unit)
abbrev yQa:Ty:=.pair t100 (.pair t28 .unit)
def yQ1:G:={ T:=T,E:=[z0p_e,z0v_e,z0r_e],muts:=[8],fz:=[] }
def yWP:List (List Nat):=[[1,2,7,8,22]]
def yKj(n:Nat):Ann:={ keep:=yWP,fuel:=n,inl:=[],deep:=0 }
def yK3(n:Nat)(r2:List (Q3)→Q1→Int→Int→List (List Int)→Option (List (List Int)×Int×Unit))(cL:List (Q3))(dz:Q1)(dx:Int)(a8:Int)(bg:List (List Int)):Option (List (List Int)×Int×Unit) :=
  (bif decide (a8 < 16)then (bif decide (IntKind.i64.wrap (a8.tdiv (4:Int)) > a8.tmod (4:Int))then r2 cL dz dx (IntKind.i64.wrap (a8+1)) bg else (bif eqV (Ty.arr (2:Nat) (Ty.int IntKind.i64)) [IntKind.i64.wrap (a8.tdiv (4:Int)),a8.tmod (4:Int)] [a8.tmod (4:Int),IntKind.i64.wrap (a8.tdiv (4:Int))]then r2 cL dz dx (IntKind.i64.wrap (a8+1)) bg else (bif decide (a8.tmod (4:Int) ≥ (↑cL.length:Int))then r2 cL dz dx (IntKind.i64.wrap (a8+1)) bg else (Option.bind (idx cL (IntKind.i64.wrap (a8.tdiv (4:Int)))) fun v7=>(Option.bind (idx cL (a8.tmod (4:Int))) fun v8=>(Option.bind (yFY dz v7 v8) fun v9=>(bif IntKind.i64.wrap (IntKind.i64.wrap (v9.1.1 * v9.1.1)+IntKind.i64.wrap (v9.1.2.1 * v9.1.2.1))==IntKind.i64.wrap (dx * dx)then (bif decide (bg.length+(1:Nat)≤memMax)then r2 cL dz dx (IntKind.i64.wrap (a8+1)) (bg++[[IntKind.i64.wrap (a8.tdiv (4:Int)),a8.tmod (4:Int)]])else none)else r2 cL dz dx (IntKind.i64.wrap (a8+1)) bg)))))))else some (bg,(0:Int),()))
def yJv(n:Nat)(k:Nat)(cL:List (Q3))(dz:Q1)(dx:Int)(a8:Int)(bg:List (List Int)):Option (List (List Int)×Int×Unit) :=
  iter (fun r y=>yK3 n (fun cL dz dx a8 bg=>r ((cL,(dz,(dx,(a8,())))),((bg,()),()))) y.1.1 y.1.2.1 y.1.2.2.1 y.1.2.2.2.1 y.2.1.1) k ((cL,(dz,(dx,(a8,())))),((bg,()),()))
def yMJ(n:Nat)(rp:Q1)(l:List (Q3)):Option (List (List Int)×Int×Unit) :=
  (Option.bind (y9h rp l) fun v0=>(bif v0.1 != 0 then some ([],v0.1,())else (Option.bind (y9a rp) fun v1=>(yJv n n (l) (rp) ((↑v1.1.length:Int)) ((0:Int)) ([])))))
theorem yVi(n:Nat)(x:yMq.den):runF yQ1 (yKj n) Tryz.f58 yMq yQa x=yMJ n x.1 x.2.1:=by kernel_rfl
def yOl(rp:Q1)(l:List (Q3)):Option (List (List Int)×Int×Unit):=yMJ 1000 rp l
theorem yNq(rp:Q1)(l:List (Q3))(y:List (List Int)×Int×Unit)(h:yOl rp l=some y):∃ n,yMJ n rp l=some y:=⟨1000,h⟩
def z0j_e:Entry:={ f:=58,args:=yMq,ress:=yQa,m:=fun x=>yOl x.1 x.2.1 }
theorem yQr:FnOK Tryz.prog z0j_e:=yK (g:=yQ1) (fn:=Tryz.f58) yD yJ (y8 y7I (y8 yFl (y8 yGP eNil))) (by kernel_rfl) (by kernel_rfl) (by kernel_rfl) (fun x y h=>let ⟨n,hn⟩:=yNq x.1 x.2.1 y h;⟨yKj n,iNil,(yVi n x).trans hn⟩)
abbrev yOS:Ty:=.pair t60 (.pair t31 .unit)
abbrev yRj:Ty:=.pair t23 (.pair t28 .unit)
def yS9:G:={ T:=T,E:=[z0p_e,z02_e,z0Y_e,z05_e,zA_e,zj_e,zK_e,z0Z_e],muts:=[],fz:=[] }
def yXA:List (List Nat):=[[2,3,7,22,23],[7,9,10,11,51,52]]
def yLH(n:Nat):Ann:={ keep:=yXA,fuel:=n,inl:=[],deep:=0 }
def yG0(n:Nat)(r10:Int→List (List (Q4))→List (Q4)→Int→Int→List (Q4)→Option (List (Q4)×Int×Unit))(bu:Int)(dy:List (List (Q4)))(al:List (Q4))(cF:Int)(aJ:Int)(bA:List (Q4)):Option (List (Q4)×Int×Unit) :=
  (bif decide (aJ < cF)then (Option.bind (zj_M dy aJ al) fun v11=>(Option.bind (zK_M v11.1) fun v12=>(Option.bind (idx bA aJ) fun v13=>(Option.bind (bA[aJ.toNat]?) fun v14=>r10 bu dy al cF (IntKind.i64.wrap (aJ+1)) (bA.set aJ.toNat v12.1)))))else (Option.bind (zK_M dy) fun v15=>(Option.bind (idx bA bu) fun v16=>(Option.bind (bA[bu.toNat]?) fun v17=>some (bA.set bu.toNat (z0Z v15.1 (-1:Int)).1,(0:Int),())))))
def yHq(n:Nat)(k:Nat)(bu:Int)(dy:List (List (Q4)))(al:List (Q4))(cF:Int)(aJ:Int)(bA:List (Q4)):Option (List (Q4)×Int×Unit) :=
  iter (fun r y=>yG0 n (fun bu dy al cF aJ bA=>r ((bu,(dy,(al,(cF,(aJ,()))))),((bA,()),()))) y.1.1 y.1.2.1 y.1.2.2.1 y.1.2.2.2.1 y.1.2.2.2.2.1 y.2.1.1) k ((bu,(dy,(al,(cF,(aJ,()))))),((bA,()),()))
def yAF(n:Nat)(j3:Int)(j4:Q1)(j5:List (Q3)):Option (List (Q4)×Int×Unit) :=
  (bif j3==(↑j5.length:Int)then some ([],(7:Int),())else (bif decide ((0:Int)≤j3) && decide (j3≤(↑j5.length:Int))then (Option.bind (yBe j4 (List.take j3.toNat j5)) fun v8=>(bif decide ((0:Int)≤j3) && decide (j3≤(↑j5.length:Int))then (Option.bind (zA_M (List.take j3.toNat j5) fun (x:(Q3)×Unit)=>yP0 x.1 j4 j5 j3) fun v9=>(bif Bool.true && decide ((0:Int)≤(↑j5.length:Int)) && decide ((↑j5.length:Int)≤(↑memMax:Int)) && (↑j5.length:Int)==(↑j5.length:Int)then (yHq n n (j3) (v8.1) (v9.1) (j3) ((0:Int)) ((List.replicate ((↑j5.length:Int).toNat) (((0:Int),(0:Int),())):List (Q4))))else none))else none))else none))
def yId(n:Nat)(r1:Q1→List (Q3)→Int→Int→Int→Option (List (Q4)×Int×Unit))(bz:Q1)(dH:List (Q3))(dG:Int)(bB:Int)(cG:Int):Option (List (Q4)×Int×Unit) :=
  (bif decide (bB < dG)then (bif decide ((0:Int)≤IntKind.i64.wrap (bB+1)) && decide (IntKind.i64.wrap (bB+1)≤(↑dH.length:Int))then (Option.bind (yIO bz (List.take (IntKind.i64.wrap (bB+1)).toNat dH)) fun v2=>(bif v2.1 then (yAF n (bB) (bz) (dH))else r1 bz dH dG (IntKind.i64.wrap (bB+1)) cG))else none)else (yAF n (cG) (bz) (dH)))
def yJQ(n:Nat)(k:Nat)(bz:Q1)(dH:List (Q3))(dG:Int)(bB:Int)(cG:Int):Option (List (Q4)×Int×Unit) :=
  iter (fun r y=>yId n (fun bz dH dG bB cG=>r ((bz,(dH,(dG,(bB,())))),(((cG,()),()),()))) y.1.1 y.1.2.1 y.1.2.2.1 y.1.2.2.2.1 y.2.1.1.1) k ((bz,(dH,(dG,(bB,())))),(((cG,()),()),()))
def yOH(n:Nat)(rp:Q1)(l:List (Q3)):Option (List (Q4)×Int×Unit) :=
  (Option.bind (y9h rp l) fun v0=>(bif v0.1 != 0 then some ([],v0.1,())else (yJQ n n (rp) (l) ((↑l.length:Int)) ((0:Int)) ((↑l.length:Int)))))
theorem yUo(n:Nat)(x:yOS.den):runF yS9 (yLH n) Tryz.f89 yOS yRj x=yOH n x.1 x.2.1:=by kernel_rfl
def yM9(rp:Q1)(l:List (Q3)):Option (List (Q4)×Int×Unit):=yOH 1000 rp l
theorem yOe(rp:Q1)(l:List (Q3))(y:List (Q4)×Int×Unit)(h:yM9 rp l=some y):∃ n,yOH n rp l=some y:=⟨1000,h⟩
def z0S_e:Entry:={ f:=89,args:=yOS,ress:=yRj,m:=fun x=>yM9 x.1 x.2.1 }
theorem yV4:FnOK Tryz.prog z0S_e:=yK (g:=yS9) (fn:=Tryz.f89) yD yJ (y8 y7I (y8 yLO (y8 yAN (y8 yQZ (y8 yPT (y8 ySC (y8 yJI (y8 yGa eNil)))))))) (by kernel_rfl) (by kernel_rfl) (by kernel_rfl) (fun x y h=>let ⟨n,hn⟩:=yOe x.1 x.2.1 y h;⟨yLH n,iNil,(yUo n x).trans hn⟩)
end
end Go.Tw
end
section
set_option maxRecDepth 1000000
namespace Go.Tw
open Go.Vx Go.Vx.B Go.Proofs
noncomputable section
def il102:Inl:={ f:=102,fn:=Tryz.f102,keep:=[],muts:=[3,5],fz:=[5],rc:=true }
theorem yIQ:y6A Tryz.prog il102:=⟨by kernel_rfl,by kernel_rfl,fun e0 h=>by cases (show (none:Option LibK)=some e0 from h)⟩
abbrev yP7:Ty:=.unit
abbrev yRG:Ty:=.pair t4 .unit
def yV1:G:={ T:=T,E:=[z0e_e,z0O_e,z0U_e,zh_e,z0F_e,z0l_e,z0G_e,zv_e,zX_e,z0j_e,z0S_e,z11_e,z0T_e,z06_e,z0k_e,z10_e,z0m_e,z12_e,z0n_e,zo_e,ze_e,zu_e,zw_e],muts:=[155],fz:=[] }
def yXd:List (List Nat):=[]
def yL9(n:Nat):Ann:={ keep:=yXd,fuel:=n,inl:=[il102],deep:=4 }
def yPP(n:Nat)  : Option (Bool×Unit) :=
  (Option.bind (y5Y [(81:UInt8),82]) fun v0=>(Option.bind (yPR (z0e []).1 v0.1) fun v1=>(Option.bind (y5Y [(81:UInt8),82]) fun v2=>(Option.bind (zh_M (z0e []).1 v2.1) fun v3=>(Option.bind (y5Y [(81:UInt8),82]) fun v4=>(Option.bind (yIP (z0e []).1 v4.1) fun v5=>(Option.bind (y5Y [(81:UInt8),82]) fun v6=>(Option.bind (yJS (z0e []).1 v6.1) fun v7=>(Option.bind (yEp (v5.1.1,v5.1.2.1,v5.1.2.2.1,()) (0:Int) (4:Int)) fun v8=>(Option.bind (y5Y [(90:UInt8),72]) fun v9=>(Option.bind (zh_M (z0e [((3:Int),(4:Int),())]).1 v9.1) fun v10=>(Option.bind (y5Y [(90:UInt8),72]) fun v11=>(Option.bind (yJS (z0e [((3:Int),(4:Int),())]).1 v11.1) fun v12=>(bif IntKind.i64.wrap (IntKind.i64.wrap (IntKind.i64.wrap (IntKind.i64.wrap (IntKind.i64.wrap (IntKind.i64.wrap (v1.2.1+v3.2.1)+v5.2.1)+v7.2.1)+v8.2.1)+v10.2.1)+v12.2.1) != 0 then some (Bool.false,())else (Option.bind (zv_M v1.1 [[((4:Int),(0:Int),()),((0:Int),(0:Int),())],[((0:Int),(0:Int),()),((4:Int),(0:Int),())]]) fun v13=>(bif !v13.1 then some (Bool.false,())else (bif v3.1 != 16 then some (Bool.false,())else (bif v5.1.2.2.1 != 1 then some (Bool.false,())else (Option.bind (zX_M v5.1.2.1 [((8:Int),(0:Int),()),((8:Int),(0:Int),())]) fun v14=>(bif !v14.1 then some (Bool.false,())else (bif !eqV ((Ty.int IntKind.i64).pair ((Ty.int IntKind.i64).pair Ty.unit)) (v7.1.1,v7.1.2.1,()) ((0:Int),(1:Int),())then some (Bool.false,())else (Option.bind (zX_M v8.1 [((16:Int),(0:Int),()),((0:Int),(0:Int),()),((-16:Int),(0:Int),()),((0:Int),(0:Int),())]) fun v15=>(bif !v15.1 then some (Bool.false,())else (bif v10.1 != 8 then some (Bool.false,())else (bif !eqV ((Ty.int IntKind.i64).pair ((Ty.int IntKind.i64).pair Ty.unit)) (v12.1.1,v12.1.2.1,()) ((512:Int),(1:Int),())then some (Bool.false,())else (Option.bind (y5Y [(90:UInt8),72]) fun v32=>(Option.bind (yOl ([(103:UInt8)],(0:Int),[nat_lit 1065353216,nat_lit 0,nat_lit 3212836864,nat_lit 0],[((1:Int),(2:Int),()),((3:Int),(4:Int),())],()) v32.1) fun v33=>(Option.bind (y5Y [(90:UInt8),72]) fun v34=>(Option.bind (yM9 ([(103:UInt8)],(0:Int),[nat_lit 1065353216,nat_lit 0,nat_lit 3212836864,nat_lit 0],[((1:Int),(2:Int),()),((3:Int),(4:Int),())],()) v34.1) fun v35=>(Option.bind (y5Y [(90:UInt8),72,81]) fun v36=>(Option.bind (yO0 ([(103:UInt8)],(0:Int),[nat_lit 1065353216,nat_lit 0,nat_lit 3212836864,nat_lit 0],[((1:Int),(2:Int),()),((3:Int),(4:Int),())],()) v36.1) fun v37=>(Option.bind (y5Y [(90:UInt8),72]) fun v38=>(Option.bind (yIP ([(103:UInt8)],(0:Int),[nat_lit 1065353216,nat_lit 0,nat_lit 3212836864,nat_lit 0],[((1:Int),(2:Int),()),((3:Int),(4:Int),())],()) v38.1) fun v39=>(Option.bind (y5Y [(90:UInt8)]) fun v40=>(Option.bind (yMz (v40.1,[((3:Int),(0:Int),())],(2:Int),()) (5:Int) (1:Int)) fun v41=>(Option.bind (yMS (z0e []).1 (v40.1,[((3:Int),(0:Int),())],(2:Int),())) fun v42=>(Option.bind (yMO [nat_lit 0,nat_lit 1065353216,nat_lit 1065353216,nat_lit 0,nat_lit 1073741824,nat_lit 1065353216]) fun v43=>(Option.bind (yOb [nat_lit 0,nat_lit 1065353216,nat_lit 1065353216,nat_lit 0,nat_lit 1073741824,nat_lit 1065353216]) fun v44=>(Option.bind (yOW (2024:Int)) fun v45=>(Option.bind (yN7 (v40.1,[((3:Int),(0:Int),())],(2:Int),())) fun v46=>(Option.bind (yPY (v40.1,[((3:Int),(0:Int),())],(2:Int),())) fun v47=>(bif IntKind.i64.wrap (IntKind.i64.wrap (IntKind.i64.wrap (IntKind.i64.wrap (IntKind.i64.wrap (IntKind.i64.wrap (IntKind.i64.wrap (IntKind.i64.wrap (IntKind.i64.wrap (v33.2.1+v35.2.1)+v37.2.1)+v41.2.1)+v42.2.1)+v43.2.1)+v44.2.1)+v45.2.1)+v46.2.1)+v47.2.1)==0 then (bif v39.2.1==25 then (Option.bind (zo_M v33.1 [[(0:Int),(1:Int)]]) fun v48=>(bif v48.1 then (Option.bind (zX_M v35.1 [((2:Int),(0:Int),()),((-2:Int),(0:Int),())]) fun v49=>(bif v49.1 then (bif v37.1==2 then (Option.bind (ze_M v41.1 [nat_lit 1040187392]) fun v50=>(bif v50.1 then (bif eqV ((Ty.int IntKind.i64).pair ((Ty.int IntKind.i64).pair Ty.unit)) (v42.1.1,v42.1.2.1,()) ((521:Int),(1:Int),())then (Option.bind (zu_M v43.1 [(1:Int),(4:Int)]) fun v51=>(bif v51.1 then (Option.bind (zu_M v44.1 [(3:Int)]) fun v52=>(bif v52.1 then (bif eqV ((Ty.int IntKind.i64).pair ((Ty.int IntKind.i64).pair Ty.unit)) (v45.1.1,v45.1.2.1,()) ((26:Int),(25:Int),())then (Option.bind (zw_M v46.1 [(nat_lit 1035993088,nat_lit 0)]) fun v53=>(bif v53.1 then some (v47.1==[(116:UInt8),105,100,101,32,50,10,99,111,110,115,116,105,116,117,101,110,116,32,90,32,49,32,48,32,51,32,48,10],())else some (Bool.false,())))else some (Bool.false,()))else some (Bool.false,())))else some (Bool.false,())))else some (Bool.false,()))else some (Bool.false,())))else some (Bool.false,()))else some (Bool.false,())))else some (Bool.false,())))else some (Bool.false,()))else some (Bool.false,())))))))))))))))))))))))))))))))))))))))))))
theorem yQU(n:Nat)(x:yP7.den):runF yV1 (yL9 n) Tryz.f18 yP7 yRG x=yPP n:=by kernel_rfl
def yNG  : Option (Bool×Unit):=yPP 0
theorem yOh(y:Bool×Unit)(h:yNG=some y):∃ n,yPP n=some y:=⟨0,h⟩
def z0N_e:Entry:={ f:=18,args:=yP7,ress:=yRG,m:=fun x=>yNG }
theorem yRk:FnOK Tryz.prog z0N_e:=yK (g:=yV1) (fn:=Tryz.f18) yD yJ (y8 yVY (y8 yRd (y8 yS1 (y8 yXL (y8 yQD (y8 yV9 (y8 yKi (y8 yXC (y8 ySw (y8 yQr (y8 yV4 (y8 ySO (y8 yVb (y8 ySi (y8 yUT (y8 yRS (y8 yT3 (y8 yVT (y8 ySl (y8 yXJ (y8 yW6 (y8 yS2 (y8 yXl eNil))))))))))))))))))))))) (by kernel_rfl) (by kernel_rfl) (by kernel_rfl) (fun x y h=>let ⟨n,hn⟩:=yOh y h;⟨yL9 n,(y53 yIQ iNil),(yQU n x).trans hn⟩)
end
end Go.Tw
end
