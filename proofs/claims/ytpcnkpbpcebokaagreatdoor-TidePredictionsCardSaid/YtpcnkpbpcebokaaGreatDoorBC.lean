import Derived.Test.YtpcnkpbpcebokaaGreatDoorBT
import Derived.Test.YtpcnkpbpcebokaaGreatDoorB0
import Derived.Test.YtpcnkpbpcebokaaGreatDoorBS
import Derived.Test.YtpcnkpbpcebokaaGreatDoorLQ
import Derived.Test.YtpcnkpbpcebokaaGreatDoorBA
import Derived.Test.YtpcnkpbpcebokaaGreatDoorLR
set_option linter.all false
section
set_option maxRecDepth 1000000
namespace Go.Tw
open Go.Vx Go.Vx.B Go.Proofs
noncomputable section
abbrev zJ_a:Ty:=.pair t22 .unit
abbrev zJ_r:Ty:=.pair t3 .unit
def zJ_g:G:={ T:=T,E:=[zg_e,za_e,z0P_e],muts:=[],fz:=[] }
def zJ_k:List (List Nat):=[[0,3],[0,3,5]]
def yQb(n:Nat):Ann:={ keep:=zJ_k,fuel:=n,inl:=[],deep:=0 }
def yJV(n:Nat)(r0:List (Q2)→Int→Option (Int×Unit))(r6:List (Q2)→Int→Int→Option (Int×Unit))(ar:List (Q2))(am:Int)(aG:Int):Option (Int×Unit) :=
  (bif decide (aG < am)then (Option.bind (idx ar aG) fun v7=>(Option.bind (idx ar am) fun v8=>(bif v7.1==v8.1 then some ((9:Int),())else r6 ar am (IntKind.i64.wrap (aG+1)))))else r0 ar (IntKind.i64.wrap (am+1)))
def y9v(n:Nat)(r0:List (Q2)→Int→Option (Int×Unit))(k:Nat)(ar:List (Q2))(am:Int)(aG:Int):Option (Int×Unit) :=
  iter (fun r y=>yJV n r0 (fun ar am aG=>r ((ar,(am,(aG,()))),((),()))) y.1.1 y.1.2.1 y.1.2.2.1) k ((ar,(am,(aG,()))),((),()))
def yI7(n:Nat)(r0:List (Q2)→Int→Option (Int×Unit))(a8:List (Q2))(ay:Int):Option (Int×Unit) :=
  (bif decide (ay < (↑a8.length:Int))then (Option.bind (idx a8 ay) fun v1=>(Option.bind (zg_M v1.1) fun v2=>(Option.bind (idx a8 ay) fun v3=>(Option.bind (idx a8 ay) fun v4=>(Option.bind (y8H [v2.1,(za v3.2.1 (1:Int) (96:Int)).1,(za v4.2.2.1 (0:Int) (3:Int)).1]) fun v5=>(bif v5.1 != 0 then some (v5.1,())else (y9v n r0 n (a8) (ay) ((0:Int)))))))))else some ((0:Int),()))
def yAT(n:Nat)(k:Nat)(a8:List (Q2))(ay:Int):Option (Int×Unit) :=
  iter (fun r y=>yI7 n (fun a8 ay=>r ((a8,(ay,())),((),()))) y.1.1 y.1.2.1) k ((a8,(ay,())),((),()))
def zJ_m(n:Nat)(l:List (Q2)):Option (Int×Unit) :=
  (bif (↑l.length:Int)==0 then some ((12:Int),())else (bif decide ((↑l.length:Int) > 4)then some ((5:Int),())else (yAT n n (l) ((0:Int)))))
theorem yX7(n:Nat)(x:zJ_a.den):runF zJ_g (yQb n) Tryz.f32 zJ_a zJ_r x=zJ_m n x.1:=by kernel_rfl
def yG6(ar:List (Q2))(am:Int)(aG:Int):Option (((Int×Unit)⊕Unit)⊕Unit) :=
  (Option.bind (idx ar aG) fun v7=>(Option.bind (idx ar am) fun v8=>(bif v7.1==v8.1 then (some (Sum.inl (Sum.inl (((9:Int),())))))else (some (Sum.inr ())))))
def yKC(ar:List (Q2))(am:Int):Option ((Int×Unit)⊕Unit) :=
  (some (Sum.inr ()))
theorem yG0(n:Nat)(hn:big≤n)(r0:List (Q2)→Int→Option (Int×Unit))(ar:List (Q2))(am:Int)(hx:(am)≤9223372036854775807):LeF (elim some fun (s__:Unit)=>r0 ar (IntKind.i64.wrap (am+1))) (y0V (fun i__ s__=>yG6 ar am i__) (fun s__=>yKC ar am) ((am) - 0).toNat 0 ()) (y9v n r0 n ar am 0):=by
  refine y16 (f:=(elim some fun (s__:Unit)=>r0 ar (IntKind.i64.wrap (am+1)))) (W:=fun k__ i__ s__=>y9v n r0 k__ ar am i__) (body:=(fun i__ s__=>yG6 ar am i__)) (fin:=(fun s__=>yKC ar am)) (fun k__ i__ s__=>?_) hx () n 0 (by decide) (by unfold big at hn;omega)
  show LeF _ _ (yJV n r0 (y9v n r0 k__) ar am i__)
  exact y5 (y7 fun v7=>(y7 fun v8=>(y5 (y6 rfl) (y6 rfl)))) (yl (y6 rfl))
def yFl(a8:List (Q2))(ay:Int)(v1:Q2):Option ((Int×Unit)⊕Unit) :=
  (Option.bind (zg_M v1.1) fun v2=>(Option.bind (idx a8 ay) fun v3=>(Option.bind (idx a8 ay) fun v4=>(Option.bind (y8H [v2.1,(za v3.2.1 (1:Int) (96:Int)).1,(za v4.2.2.1 (0:Int) (3:Int)).1]) fun v5=>(bif v5.1 != 0 then (some (Sum.inl ((v5.1,()))))else (bif decide ((ay)≤9223372036854775807)then y0V (fun i__ s__=>yG6 (a8) (ay) i__) (fun s__=>yKC (a8) (ay)) ((ay) - 0).toNat 0 ()else none))))))
def yLS(a8:List (Q2)):Option (Int×Unit) :=
  (some (((0:Int),())))
theorem yFG(n:Nat)(hn:big≤n)(a8:List (Q2))(hx:List.length (a8) < lenMax):LeF some (yM (fun i__ e__ s__=>yFl a8 i__ e__) (fun s__=>yLS a8) 0 (a8) ()) (yAT n n a8 0):=by
  refine yO (f:=some) (W:=fun k__ i__ s__=>yAT n k__ a8 i__) (body:=(fun i__ e__ s__=>yFl a8 i__ e__)) (fin:=(fun s__=>yLS a8)) (fun k__ i__ s__=>?_) hx () n (by unfold big at hn;unfold lenMax at hx;omega)
  show LeF _ _ (yI7 n (yAT n k__) a8 i__)
  exact y5 (y7 fun v1=>(y7 fun v2=>(y7 fun v3=>(y7 fun v4=>(y7 fun v5=>(y5 (y6 rfl) (yK fun hx=>by apply yG0 n hn;exact hx))))))) (yl (y6 rfl))
def zJ_M(l:List (Q2)):Option (Int×Unit) :=
  (bif (↑l.length:Int)==0 then (some (((12:Int),())))else (bif decide ((↑l.length:Int) > 4)then (some (((5:Int),())))else (bif decide (List.length (l) < lenMax)then yM (fun i__ e__ s__=>yFl (l) i__ e__) (fun s__=>yLS (l)) 0 (l) ()else none)))
theorem ySb(l:List (Q2))(y:Int×Unit)(h:zJ_M l=some y):∃ n,zJ_m n l=some y :=
  ⟨big,LeF.top (show LeF some (zJ_M l) (zJ_m big l)from (fun (n:Nat) (hn:big≤n)=>show LeF some (zJ_M l) (zJ_m n l)from (y5 (y6 rfl) (y5 (y6 rfl) (yK fun hx=>by apply yFG n hn;exact hx)))) big (Nat.le_refl _)) h⟩
def zJ_e:Entry:={ f:=32,args:=zJ_a,ress:=zJ_r,m:=fun x=>zJ_M x.1 }
theorem yXx:FnOK Tryz.prog zJ_e:=yI (g:=zJ_g) (fn:=Tryz.f32) yD yH (yA yWt (yA yKM (yA yEX eNil))) (by kernel_rfl) (by kernel_rfl) (by kernel_rfl) (fun x y h=>let ⟨n,hn⟩:=ySb x.1 y h;⟨yQb n,iNil,(yX7 n x).trans hn⟩)
abbrev zw_a:Ty:=.pair t3 (.pair t3 .unit)
abbrev zw_r:Ty:=.pair t28 .unit
def zw_g:G:={ T:=T,E:=[z0c_e,z0p_e],muts:=[],fz:=[] }
def zw_k:List (List Nat):=[]
def yV6(n:Nat):Ann:={ keep:=zw_k,fuel:=n,inl:=[],deep:=0 }
def zw_m(n:Nat)(p0:Int)(np:Int):Option (Int×Unit) :=
  (Option.bind (y1x [(z0c p0 (0:Int) (100000:Int)).1,(z0c np (0:Int) (4096:Int)).1]) fun v0=>(bif v0.1 != 0 then some (v0.1,())else some ((z0c (IntKind.i64.wrap (p0+np)) (0:Int) (100000:Int)).1,())))
theorem yXw(n:Nat)(x:zw_a.den):runF zw_g (yV6 n) Tryz.f105 zw_a zw_r x=zw_m n x.1 x.2.1:=by kernel_rfl
def zw_M(p0:Int)(np:Int):Option (Int×Unit):=zw_m 0 p0 np
theorem yWZ(p0:Int)(np:Int)(y:Int×Unit)(h:zw_M p0 np=some y):∃ n,zw_m n p0 np=some y:=⟨0,h⟩
def zw_e:Entry:={ f:=105,args:=zw_a,ress:=zw_r,m:=fun x=>zw_M x.1 x.2.1 }
theorem yXj:FnOK Tryz.prog zw_e:=yI (g:=zw_g) (fn:=Tryz.f105) yD yH (yA yBN (yA y4M eNil)) (by kernel_rfl) (by kernel_rfl) (by kernel_rfl) (fun x y h=>let ⟨n,hn⟩:=yWZ x.1 x.2.1 y h;⟨yV6 n,iNil,(yXw n x).trans hn⟩)
abbrev yO1:Ty:=.pair t33 (.pair t3 .unit)
abbrev yQw:Ty:=.pair t57 .unit
def ySL:G:={ T:=T,E:=[z0w_e],muts:=[],fz:=[] }
def yXQ:List (List Nat):=[]
def yLo(n:Nat):Ann:={ keep:=yXQ,fuel:=n,inl:=[],deep:=0 }
def yJy(n:Nat)(t:Q1)(tick:Int):Option ((Q3)×Unit) :=
  (Option.bind (yDB t.1 t.2.1 tick) fun v0=>some ((v0.1.1,v0.1.2.1,()),()))
theorem yVN(n:Nat)(x:yO1.den):runF ySL (yLo n) Tryz.f106 yO1 yQw x=yJy n x.1 x.2.1:=by kernel_rfl
def y8W(t:Q1)(tick:Int):Option ((Q3)×Unit):=yJy 0 t tick
theorem yNj(t:Q1)(tick:Int)(y:(Q3)×Unit)(h:y8W t tick=some y):∃ n,yJy n t tick=some y:=⟨0,h⟩
def z0H_e:Entry:={ f:=106,args:=yO1,ress:=yQw,m:=fun x=>y8W x.1 x.2.1 }
theorem yMM:FnOK Tryz.prog z0H_e:=yI (g:=ySL) (fn:=Tryz.f106) yD yH (yA yQY eNil) (by kernel_rfl) (by kernel_rfl) (by kernel_rfl) (fun x y h=>let ⟨n,hn⟩:=yNj x.1 x.2.1 y h;⟨yLo n,iNil,(yVN n x).trans hn⟩)
abbrev zv_a:Ty:=.pair t57 .unit
abbrev zv_r:Ty:=.pair t28 .unit
def zv_g:G:={ T:=T,E:=[z0c_e,z0p_e],muts:=[],fz:=[] }
def zv_k:List (List Nat):=[]
def yVZ(n:Nat):Ann:={ keep:=zv_k,fuel:=n,inl:=[],deep:=0 }
def zv_m(n:Nat)(z:Q3):Option (Int×Unit) :=
  (Option.bind (y1x [(z0c z.1 (-8796093022208:Int) (8796093022208:Int)).1,(z0c z.2.1 (-8796093022208:Int) (8796093022208:Int)).1]) fun v0=>some (v0.1,()))
theorem yYe(n:Nat)(x:zv_a.den):runF zv_g (yVZ n) Tryz.f116 zv_a zv_r x=zv_m n x.1:=by kernel_rfl
def zv_M(z:Q3):Option (Int×Unit):=zv_m 0 z
theorem yRB(z:Q3)(y:Int×Unit)(h:zv_M z=some y):∃ n,zv_m n z=some y:=⟨0,h⟩
def zv_e:Entry:={ f:=116,args:=zv_a,ress:=zv_r,m:=fun x=>zv_M x.1 }
theorem yYS:FnOK Tryz.prog zv_e:=yI (g:=zv_g) (fn:=Tryz.f116) yD yH (yA yBN (yA y4M eNil)) (by kernel_rfl) (by kernel_rfl) (by kernel_rfl) (fun x y h=>let ⟨n,hn⟩:=yRB x.1 y h;⟨yVZ n,iNil,(yYe n x).trans hn⟩)
abbrev yPM:Ty:=.pair t23 (.pair t3 .unit)
abbrev yQW:Ty:=.pair t3 .unit
def yTP:G:={ T:=T,E:=[z0I_e],muts:=[],fz:=[] }
def yY8:List (List Nat):=[[1,7,8,9]]
def yLj(n:Nat):Ann:={ keep:=yY8,fuel:=n,inl:=[],deep:=0 }
def yDq(n:Nat)(r0:Int→List (Q3)→Int→Int→Option (Int×Unit))(ai:Int)(ak:List (Q3))(aA:Int)(ah:Int):Option (Int×Unit) :=
  (bif decide (ah < aA)then (Option.bind (idx ak ah) fun v1=>(Option.bind (yAL ai [v1.1,v1.2.1]) fun v2=>r0 v2.1 ak aA (IntKind.i64.wrap (ah+1))))else some (ai,()))
def y6n(n:Nat)(k:Nat)(ai:Int)(ak:List (Q3))(aA:Int)(ah:Int):Option (Int×Unit) :=
  iter (fun r y=>yDq n (fun ai ak aA ah=>r ((ai,(ak,(aA,(ah,())))),((),()))) y.1.1 y.1.2.1 y.1.2.2.1 y.1.2.2.2.1) k ((ai,(ak,(aA,(ah,())))),((),()))
def yKA(n:Nat)(l:List (Q3))(den:Int):Option (Int×Unit) :=
  (y6n n n (den) (l) ((↑l.length:Int)) ((0:Int)))
theorem yWM(n:Nat)(x:yPM.den):runF yTP (yLj n) Tryz.f117 yPM yQW x=yKA n x.1 x.2.1:=by kernel_rfl
def yBz(ak:List (Q3))(ah:Int)(v1:Q3)(ai:Int):Option ((Int×Unit)⊕(Int)) :=
  (Option.bind (yAL ai [v1.1,v1.2.1]) fun v2=>(some (Sum.inr (v2.1))))
def yDl(ak:List (Q3))(ai:Int):Option (Int×Unit) :=
  (some ((ai,())))
theorem yCj(n:Nat)(hn:big≤n)(ak:List (Q3))(ai:Int)(hx:List.length (ak) < lenMax):LeF some (yM (fun i__ e__ s__=>yBz ak i__ e__ s__) (fun s__=>yDl ak s__) 0 (ak) ai) (y6n n n ai ak (List.length (ak):Int) 0):=by
  refine yO (f:=some) (W:=fun k__ i__ s__=>y6n n k__ s__ ak (List.length (ak):Int) i__) (body:=(fun i__ e__ s__=>yBz ak i__ e__ s__)) (fin:=(fun s__=>yDl ak s__)) (fun k__ i__ s__=>?_) hx ai n (by unfold big at hn;unfold lenMax at hx;omega)
  show LeF _ _ (yDq n (y6n n k__) s__ ak (List.length (ak):Int) i__)
  exact y5 (y7 fun v1=>(y7 fun v2=>(y6 rfl))) (yl (y6 rfl))
def yBG(l:List (Q3))(den:Int):Option (Int×Unit) :=
  (bif decide (List.length (l) < lenMax)then yM (fun i__ e__ s__=>yBz (l) i__ e__ s__) (fun s__=>yDl (l) s__) 0 (l) (den)else none)
theorem yN8(l:List (Q3))(den:Int)(y:Int×Unit)(h:yBG l den=some y):∃ n,yKA n l den=some y :=
  ⟨big,LeF.top (show LeF some (yBG l den) (yKA big l den)from (fun (n:Nat) (hn:big≤n)=>show LeF some (yBG l den) (yKA n l den)from (yK fun hx=>by apply yCj n hn;exact hx)) big (Nat.le_refl _)) h⟩
def z0Y_e:Entry:={ f:=117,args:=yPM,ress:=yQW,m:=fun x=>yBG x.1 x.2.1 }
theorem yMR:FnOK Tryz.prog z0Y_e:=yI (g:=yTP) (fn:=Tryz.f117) yD yH (yA yM4 eNil) (by kernel_rfl) (by kernel_rfl) (by kernel_rfl) (fun x y h=>let ⟨n,hn⟩:=yN8 x.1 x.2.1 y h;⟨yLj n,iNil,(yWM n x).trans hn⟩)
abbrev zK_a:Ty:=.pair t183 .unit
abbrev zK_r:Ty:=.pair t57 .unit
def zK_g:G:={ T:=T,E:=[zT_e],muts:=[],fz:=[] }
def zK_k:List (List Nat):=[]
def yWN(n:Nat):Ann:={ keep:=zK_k,fuel:=n,inl:=[],deep:=0 }
def zK_m(n:Nat)(m:List (List (Q3))):Option ((Q3)×Unit) :=
  (Option.bind (y03 (8:Nat) (m,(0:Int),(0:Int),())) fun v0=>some ((v0.1.1,v0.1.2.1,()),()))
theorem yXP(n:Nat)(x:zK_a.den):runF zK_g (yWN n) Tryz.f123 zK_a zK_r x=zK_m n x.1:=by kernel_rfl
def zK_M(m:List (List (Q3))):Option ((Q3)×Unit):=zK_m 0 m
theorem yR1(m:List (List (Q3)))(y:(Q3)×Unit)(h:zK_M m=some y):∃ n,zK_m n m=some y:=⟨0,h⟩
def zK_e:Entry:={ f:=123,args:=zK_a,ress:=zK_r,m:=fun x=>zK_M x.1 }
theorem yL1:FnOK Tryz.prog zK_e:=yI (g:=zK_g) (fn:=Tryz.f123) yD yH (yA yYL eNil) (by kernel_rfl) (by kernel_rfl) (by kernel_rfl) (fun x y h=>let ⟨n,hn⟩:=yR1 x.1 y h;⟨yWN n,iNil,(yXP n x).trans hn⟩)
abbrev yNY:Ty:=.pair t3 (.pair t3 .unit)
abbrev yTB:Ty:=.pair t69 .unit
def yVB:G:={ T:=T,E:=[z0I_e],muts:=[],fz:=[] }
def yYr:List (List Nat):=[]
def yMQ(n:Nat):Ann:={ keep:=yYr,fuel:=n,inl:=[],deep:=0 }
def yPj(n:Nat)(num:Int)(den:Int):Option ((Q3)×Unit) :=
  (Option.bind (yAL den [num]) fun v0=>(bif v0.1==0 then none else (bif v0.1==0 then none else some ((IntKind.i64.wrap (num.tdiv v0.1),IntKind.i64.wrap (den.tdiv v0.1),()),()))))
theorem yVe(n:Nat)(x:yNY.den):runF yVB (yMQ n) Tryz.f127 yNY yTB x=yPj n x.1 x.2.1:=by kernel_rfl
def yCJ(num:Int)(den:Int):Option ((Q3)×Unit):=yPj 0 num den
theorem yQO(num:Int)(den:Int)(y:(Q3)×Unit)(h:yCJ num den=some y):∃ n,yPj n num den=some y:=⟨0,h⟩
def z0s_e:Entry:={ f:=127,args:=yNY,ress:=yTB,m:=fun x=>yCJ x.1 x.2.1 }
theorem yJ7:FnOK Tryz.prog z0s_e:=yI (g:=yVB) (fn:=Tryz.f127) yD yH (yA yM4 eNil) (by kernel_rfl) (by kernel_rfl) (by kernel_rfl) (fun x y h=>let ⟨n,hn⟩:=yQO x.1 x.2.1 y h;⟨yMQ n,iNil,(yVe n x).trans hn⟩)
abbrev yOv:Ty:=.pair t35 (.pair t61 .unit)
abbrev ySs:Ty:=.pair t41 (.pair t28 .unit)
def yVi:G:={ T:=T,E:=[zI_e,zX_e,z0p_e],muts:=[7],fz:=[] }
def yWu:List (List Nat):=[[0,1,7,8,9]]
def yMa(n:Nat):Ann:={ keep:=yWu,fuel:=n,inl:=[],deep:=0 }
def yEE(n:Nat)(r2:List Nat→Nat→Int→Int→List Int→Option (List Int×Int×Unit))(al:List Nat)(a7:Nat)(aa:Int)(az:Int)(au:List Int):Option (List Int×Int×Unit) :=
  (bif decide (az < (↑al.length:Int))then (Option.bind (idx al az) fun v3=>(Option.bind (idx al (IntKind.i64.wrap (az - (1:Int)))) fun v4=>(bif y0G Go.BinOp.gtr Go.FloatKind.f32 (y0H Go.BinOp.mul Go.FloatKind.f32 a7 (y0H Go.BinOp.sub Go.FloatKind.f32 v3 v4)) (nat_lit 0)then r2 al a7 az (IntKind.i64.wrap (az+1)) au else (bif y0G Go.BinOp.lss Go.FloatKind.f32 (y0H Go.BinOp.mul Go.FloatKind.f32 a7 (y0H Go.BinOp.sub Go.FloatKind.f32 v3 v4)) (nat_lit 0)then (bif decide (aa ≥ 0)then (bif decide (au.length+(1:Nat)≤memMax)then r2 al a7 (-1:Int) (IntKind.i64.wrap (az+1)) (au++[aa])else none)else r2 al a7 (-1:Int) (IntKind.i64.wrap (az+1)) au)else r2 al a7 aa (IntKind.i64.wrap (az+1)) au))))else some (au,(0:Int),()))
def y6Z(n:Nat)(k:Nat)(al:List Nat)(a7:Nat)(aa:Int)(az:Int)(au:List Int):Option (List Int×Int×Unit) :=
  iter (fun r y=>yEE n (fun al a7 aa az au=>r ((al,(a7,(aa,(az,())))),((au,()),()))) y.1.1 y.1.2.1 y.1.2.2.1 y.1.2.2.2.1 y.2.1.1) k ((al,(a7,(aa,(az,())))),((au,()),()))
def yKn(n:Nat)(l:List Nat)(direction:Nat):Option (List Int×Int×Unit) :=
  (bif decide ((↑l.length:Int) > 4096)then some ([],(5:Int),())else (Option.bind (zI_M l fun (x:Nat×Unit)=>zX_M x.1) fun v0=>(Option.bind (y1x v0.1) fun v1=>(bif v1.1 != 0 then some ([],v1.1,())else (y6Z n n (l) (direction) ((-1:Int)) ((1:Int)) ([]))))))
theorem yUf(n:Nat)(x:yOv.den):runF yVi (yMa n) Tryz.f154 yOv ySs x=yKn n x.1 x.2.1:=by kernel_rfl
def yHC(al:List Nat)(a7:Nat)(az:Int)(aa:Int)(au:List Int):Option ((List Int×Int×Unit)⊕(Int×List Int)) :=
  (Option.bind (idx al az) fun v3=>(Option.bind (idx al (IntKind.i64.wrap (az - (1:Int)))) fun v4=>(bif y0G Go.BinOp.gtr Go.FloatKind.f32 (y0H Go.BinOp.mul Go.FloatKind.f32 a7 (y0H Go.BinOp.sub Go.FloatKind.f32 v3 v4)) (nat_lit 0)then (some (Sum.inr ((az),(au))))else (bif y0G Go.BinOp.lss Go.FloatKind.f32 (y0H Go.BinOp.mul Go.FloatKind.f32 a7 (y0H Go.BinOp.sub Go.FloatKind.f32 v3 v4)) (nat_lit 0)then (bif decide (aa ≥ 0)then (bif decide (au.length+(1:Nat)≤memMax)then (some (Sum.inr (((-1:Int)),(au++[aa]))))else none)else (some (Sum.inr (((-1:Int)),(au)))))else (some (Sum.inr ((aa),(au))))))))
def yH5(al:List Nat)(a7:Nat)(aa:Int)(au:List Int):Option (List Int×Int×Unit) :=
  (some ((au,(0:Int),())))
theorem yDP(n:Nat)(hn:big≤n)(al:List Nat)(a7:Nat)(aa:Int)(au:List Int)(hx:((↑al.length:Int))≤9223372036854775807):LeF some (y0V (fun i__ s__=>yHC al a7 i__ s__.1 s__.2) (fun s__=>yH5 al a7 s__.1 s__.2) (((↑al.length:Int)) - 1).toNat 1 (aa,au)) (y6Z n n al a7 aa 1 au):=by
  refine y16 (f:=some) (W:=fun k__ i__ s__=>y6Z n k__ al a7 s__.1 i__ s__.2) (body:=(fun i__ s__=>yHC al a7 i__ s__.1 s__.2)) (fin:=(fun s__=>yH5 al a7 s__.1 s__.2)) (fun k__ i__ s__=>?_) hx (aa,au) n 1 (by decide) (by unfold big at hn;omega)
  show LeF _ _ (yEE n (y6Z n k__) al a7 s__.1 i__ s__.2)
  exact y5 (y7 fun v3=>(y7 fun v4=>(y5 (y6 rfl) (y5 (y5 (y5 (y6 rfl) yc) (y6 rfl)) (y6 rfl))))) (yl (y6 rfl))
def yGL(l:List Nat)(direction:Nat):Option (List Int×Int×Unit) :=
  (bif decide ((↑l.length:Int) > 4096)then (some (([],(5:Int),())))else (Option.bind (zI_M l fun (x:Nat×Unit)=>zX_M x.1) fun v0=>(Option.bind (y1x v0.1) fun v1=>(bif v1.1 != 0 then (some (([],v1.1,())))else (bif decide (((↑l.length:Int))≤9223372036854775807)then y0V (fun i__ s__=>yHC (l) (direction) i__ s__.1 s__.2) (fun s__=>yH5 (l) (direction) s__.1 s__.2) (((↑l.length:Int)) - 1).toNat 1 (((-1:Int)),([]))else none)))))
theorem yO0(l:List Nat)(direction:Nat)(y:List Int×Int×Unit)(h:yGL l direction=some y):∃ n,yKn n l direction=some y :=
  ⟨big,LeF.top (show LeF some (yGL l direction) (yKn big l direction)from (fun (n:Nat) (hn:big≤n)=>show LeF some (yGL l direction) (yKn n l direction)from (y5 (y6 rfl) (y7 fun v0=>(y7 fun v1=>(y5 (y6 rfl) (yK fun hx=>by apply yDP n hn;exact hx)))))) big (Nat.le_refl _)) h⟩
def z0b_e:Entry:={ f:=154,args:=yOv,ress:=ySs,m:=fun x=>yGL x.1 x.2.1 }
theorem yLa:FnOK Tryz.prog z0b_e:=yI (g:=yVi) (fn:=Tryz.f154) yD yH (yA yZ3 (yA yT3 (yA y4M eNil))) (by kernel_rfl) (by kernel_rfl) (by kernel_rfl) (fun x y h=>let ⟨n,hn⟩:=yO0 x.1 x.2.1 y h;⟨yMa n,iNil,(yUf n x).trans hn⟩)
abbrev zM_a:Ty:=.pair t55 .unit
abbrev zM_r:Ty:=.pair t28 .unit
def zM_g:G:={ T:=T,E:=[z08_e,z14_e,z0c_e,z0p_e],muts:=[],fz:=[] }
def zM_k:List (List Nat):=[]
def yRy(n:Nat):Ann:={ keep:=zM_k,fuel:=n,inl:=[],deep:=0 }
def zM_m(n:Nat)(c:Q2):Option (Int×Unit) :=
  (Option.bind (yAe c.1) fun v0=>(Option.bind (y1x [(z14 (!v0.1) (8:Int)).1,(z0c c.2.1 (1:Int) (96:Int)).1,(z0c c.2.2.1 (0:Int) (3:Int)).1]) fun v1=>some (v1.1,())))
theorem yYk(n:Nat)(x:zM_a.den):runF zM_g (yRy n) Tryz.f160 zM_a zM_r x=zM_m n x.1:=by kernel_rfl
def zM_M(c:Q2):Option (Int×Unit):=zM_m 0 c
theorem yUM(c:Q2)(y:Int×Unit)(h:zM_M c=some y):∃ n,zM_m n c=some y:=⟨0,h⟩
def zM_e:Entry:={ f:=160,args:=zM_a,ress:=zM_r,m:=fun x=>zM_M x.1 }
theorem yXF:FnOK Tryz.prog zM_e:=yI (g:=zM_g) (fn:=Tryz.f160) yD yH (yA yMN (yA y5w (yA yBN (yA y4M eNil)))) (by kernel_rfl) (by kernel_rfl) (by kernel_rfl) (fun x y h=>let ⟨n,hn⟩:=yUM x.1 y h;⟨yRy n,iNil,(yYk n x).trans hn⟩)
abbrev yNI:Ty:=.pair t55 (.pair (.ref t60) (.pair (.ref t31) (.pair (.ref t3) .unit)))
abbrev yW2:Ty:=.pair t57 .unit
def yRg:G:={ T:=T,E:=[z0q_e],muts:=[],fz:=[] }
def yYj:List (List Nat):=[]
def yLe(n:Nat):Ann:={ keep:=yYj,fuel:=n,inl:=[],deep:=0 }
def yMv(n:Nat)(c:Q2)(p1:List UInt8×Int×List Nat×List (Q3)×Unit)(p2:List (Q2))(p3:Int):Option ((Q3)×Unit) :=
  (Option.bind (idx p2 p3) fun v0=>(Option.bind (yBx p1 c v0) fun v1=>some ((v1.1.1,v1.1.2.1,()),())))
theorem yTk(n:Nat)(x:yNI.den):runF yRg (yLe n) Tryz.f163 yNI yW2 x=yMv n x.1 x.2.1 x.2.2.1 x.2.2.2.1:=by kernel_rfl
def yLN(c:Q2)(p1:List UInt8×Int×List Nat×List (Q3)×Unit)(p2:List (Q2))(p3:Int):Option ((Q3)×Unit):=yMv 0 c p1 p2 p3
theorem yOc(c:Q2)(p1:List UInt8×Int×List Nat×List (Q3)×Unit)(p2:List (Q2))(p3:Int)(y:(Q3)×Unit)(h:yLN c p1 p2 p3=some y):∃ n,yMv n c p1 p2 p3=some y:=⟨0,h⟩
def z04_e:Entry:={ f:=163,args:=yNI,ress:=yW2,m:=fun x=>yLN x.1 x.2.1 x.2.2.1 x.2.2.2.1 }
theorem yRt:FnOK Tryz.prog z04_e:=yI (g:=yRg) (fn:=Tryz.f163) yD yH (yA yJM eNil) (by kernel_rfl) (by kernel_rfl) (by kernel_rfl) (fun x y h=>let ⟨n,hn⟩:=yOc x.1 x.2.1 x.2.2.1 x.2.2.2.1 y h;⟨yLe n,iNil,(yTk n x).trans hn⟩)
abbrev yQ6:Ty:=.pair t22 (.pair t23 (.pair t3 .unit))
abbrev yUG:Ty:=.pair t57 .unit
def yVy:G:={ T:=T,E:=[zh_e,z0Q_e,z0h_e],muts:=[],fz:=[] }
def yXi:List (List Nat):=[[0,1,2,6,7,8]]
def yLV(n:Nat):Ann:={ keep:=yXi,fuel:=n,inl:=[],deep:=0 }
def yDz(n:Nat)(r0:List (Q2)→List (Q3)→Int→Int→Int→Int→Int→Int→Option ((Q3)×Unit))(a8:List (Q2))(ax:List (Q3))(ac:Int)(aD:Int)(b0_0_0:Int)(b0_1_0:Int)(b1_0_0:Int)(b1_1_0:Int):Option ((Q3)×Unit) :=
  (bif decide (aD < (↑a8.length:Int))then (Option.bind (idx ax aD) fun v1=>(Option.bind (idx a8 aD) fun v2=>(Option.bind (zh_M v2 ac) fun v3=>r0 a8 ax ac (IntKind.i64.wrap (aD+1)) b0_0_0 b0_1_0 (z0h (b1_0_0,b1_1_0,()) (z0Q v1 v3.1).1).1.1 (z0h (b1_0_0,b1_1_0,()) (z0Q v1 v3.1).1).1.2.1)))else some ((b1_0_0,b1_1_0,()),()))
def y6v(n:Nat)(k:Nat)(a8:List (Q2))(ax:List (Q3))(ac:Int)(aD:Int)(b0_0_0:Int)(b0_1_0:Int)(b1_0_0:Int)(b1_1_0:Int):Option ((Q3)×Unit) :=
  iter (fun r y=>yDz n (fun a8 ax ac aD b0_0_0 b0_1_0 b1_0_0 b1_1_0=>r ((a8,(ax,(ac,(aD,())))),(((b0_0_0,(b0_1_0,())),((b1_0_0,(b1_1_0,())),())),()))) y.1.1 y.1.2.1 y.1.2.2.1 y.1.2.2.2.1 y.2.1.1.1 y.2.1.1.2.1 y.2.1.2.1.1 y.2.1.2.1.2.1) k ((a8,(ax,(ac,(aD,())))),(((b0_0_0,(b0_1_0,())),((b1_0_0,(b1_1_0,())),())),()))
def yJz(n:Nat)(l:List (Q2))(v:List (Q3))(tick:Int):Option ((Q3)×Unit) :=
  (y6v n n (l) (v) (tick) ((0:Int)) ((0:Int)) ((0:Int)) ((0:Int)) ((0:Int)))
theorem yWF(n:Nat)(x:yQ6.den):runF yVy (yLV n) Tryz.f168 yQ6 yUG x=yJz n x.1 x.2.1 x.2.2.1:=by kernel_rfl
def y9A(a8:List (Q2))(ax:List (Q3))(ac:Int)(b0_0_0:Int)(b0_1_0:Int)(aD:Int)(b1_0_0:Int)(b1_1_0:Int):Option (((Q3)×Unit)⊕(Int×Int)) :=
  (Option.bind (idx ax aD) fun v1=>(Option.bind (idx a8 aD) fun v2=>(Option.bind (zh_M v2 ac) fun v3=>(some (Sum.inr (((z0h (b1_0_0,b1_1_0,()) (z0Q v1 v3.1).1).1.1),((z0h (b1_0_0,b1_1_0,()) (z0Q v1 v3.1).1).1.2.1)))))))
def yEY(a8:List (Q2))(ax:List (Q3))(ac:Int)(b0_0_0:Int)(b0_1_0:Int)(b1_0_0:Int)(b1_1_0:Int):Option ((Q3)×Unit) :=
  (some (((b1_0_0,b1_1_0,()),())))
theorem yCl(n:Nat)(hn:big≤n)(a8:List (Q2))(ax:List (Q3))(ac:Int)(b0_0_0:Int)(b0_1_0:Int)(b1_0_0:Int)(b1_1_0:Int)(hx:((↑a8.length:Int))≤9223372036854775807):LeF some (y0V (fun i__ s__=>y9A a8 ax ac b0_0_0 b0_1_0 i__ s__.1 s__.2) (fun s__=>yEY a8 ax ac b0_0_0 b0_1_0 s__.1 s__.2) (((↑a8.length:Int)) - 0).toNat 0 (b1_0_0,b1_1_0)) (y6v n n a8 ax ac 0 b0_0_0 b0_1_0 b1_0_0 b1_1_0):=by
  refine y16 (f:=some) (W:=fun k__ i__ s__=>y6v n k__ a8 ax ac i__ b0_0_0 b0_1_0 s__.1 s__.2) (body:=(fun i__ s__=>y9A a8 ax ac b0_0_0 b0_1_0 i__ s__.1 s__.2)) (fin:=(fun s__=>yEY a8 ax ac b0_0_0 b0_1_0 s__.1 s__.2)) (fun k__ i__ s__=>?_) hx (b1_0_0,b1_1_0) n 0 (by decide) (by unfold big at hn;omega)
  show LeF _ _ (yDz n (y6v n k__) a8 ax ac i__ b0_0_0 b0_1_0 s__.1 s__.2)
  exact y5 (y7 fun v1=>(y7 fun v2=>(y7 fun v3=>(y6 rfl)))) (yl (y6 rfl))
def yDX(l:List (Q2))(v:List (Q3))(tick:Int):Option ((Q3)×Unit) :=
  (bif decide (((↑l.length:Int))≤9223372036854775807)then y0V (fun i__ s__=>y9A (l) (v) (tick) ((0:Int)) ((0:Int)) i__ s__.1 s__.2) (fun s__=>yEY (l) (v) (tick) ((0:Int)) ((0:Int)) s__.1 s__.2) (((↑l.length:Int)) - 0).toNat 0 (((0:Int)),((0:Int)))else none)
theorem yQC(l:List (Q2))(v:List (Q3))(tick:Int)(y:(Q3)×Unit)(h:yDX l v tick=some y):∃ n,yJz n l v tick=some y :=
  ⟨big,LeF.top (show LeF some (yDX l v tick) (yJz big l v tick)from (fun (n:Nat) (hn:big≤n)=>show LeF some (yDX l v tick) (yJz n l v tick)from (yK fun hx=>by apply yCl n hn;exact hx)) big (Nat.le_refl _)) h⟩
def z0z_e:Entry:={ f:=168,args:=yQ6,ress:=yUG,m:=fun x=>yDX x.1 x.2.1 x.2.2.1 }
theorem yVd:FnOK Tryz.prog z0z_e:=yI (g:=yVy) (fn:=Tryz.f168) yD yH (yA yYD (yA yVA (yA yS6 eNil))) (by kernel_rfl) (by kernel_rfl) (by kernel_rfl) (fun x y h=>let ⟨n,hn⟩:=yQC x.1 x.2.1 x.2.2.1 y h;⟨yLV n,iNil,(yWF n x).trans hn⟩)
abbrev zp_a:Ty:=.pair t55 (.pair (.ref t60) (.pair (.ref t55) .unit))
abbrev zp_r:Ty:=.pair t57 .unit
def zp_g:G:={ T:=T,E:=[z0q_e],muts:=[],fz:=[] }
def zp_k:List (List Nat):=[]
def yTE(n:Nat):Ann:={ keep:=zp_k,fuel:=n,inl:=[],deep:=0 }
def zp_m(n:Nat)(b:Q2)(p1:List UInt8×Int×List Nat×List (Q3)×Unit)(p2:Q2):Option ((Q3)×Unit) :=
  (Option.bind (yBx p1 p2 b) fun v0=>some ((v0.1.1,v0.1.2.1,()),()))
theorem yXL(n:Nat)(x:zp_a.den):runF zp_g (yTE n) Tryz.f193 zp_a zp_r x=zp_m n x.1 x.2.1 x.2.2.1:=by kernel_rfl
def zp_M(b:Q2)(p1:List UInt8×Int×List Nat×List (Q3)×Unit)(p2:Q2):Option ((Q3)×Unit):=zp_m 0 b p1 p2
theorem ySd(b:Q2)(p1:List UInt8×Int×List Nat×List (Q3)×Unit)(p2:Q2)(y:(Q3)×Unit)(h:zp_M b p1 p2=some y):∃ n,zp_m n b p1 p2=some y:=⟨0,h⟩
def zp_e:Entry:={ f:=193,args:=zp_a,ress:=zp_r,m:=fun x=>zp_M x.1 x.2.1 x.2.2.1 }
theorem yYp:FnOK Tryz.prog zp_e:=yI (g:=zp_g) (fn:=Tryz.f193) yD yH (yA yJM eNil) (by kernel_rfl) (by kernel_rfl) (by kernel_rfl) (fun x y h=>let ⟨n,hn⟩:=ySd x.1 x.2.1 x.2.2.1 y h;⟨yTE n,iNil,(yXL n x).trans hn⟩)
abbrev zV_a:Ty:=.pair t35 .unit
abbrev zV_r:Ty:=.pair t28 .unit
def zV_g:G:={ T:=T,E:=[zX_e],muts:=[],fz:=[] }
def zV_k:List (List Nat):=[[3,6,7,8]]
def yTt(n:Nat):Ann:={ keep:=zV_k,fuel:=n,inl:=[],deep:=0 }
def yJW(n:Nat)(r0:Int→List Nat→Int→Int→Option (Int×Unit))(ae:Int)(av:List Nat)(ak:Int)(aA:Int):Option (Int×Unit) :=
  (bif decide (aA < ak)then (Option.bind (idx av aA) fun v1=>(Option.bind (zX_M v1) fun v2=>(bif v2.1 != 0 then some (v2.1,())else r0 v2.1 av ak (IntKind.i64.wrap (aA+1)))))else some (ae,()))
def yA3(n:Nat)(k:Nat)(ae:Int)(av:List Nat)(ak:Int)(aA:Int):Option (Int×Unit) :=
  iter (fun r y=>yJW n (fun ae av ak aA=>r ((ae,(av,(ak,(aA,())))),((),()))) y.1.1 y.1.2.1 y.1.2.2.1 y.1.2.2.2.1) k ((ae,(av,(ak,(aA,())))),((),()))
def zV_m(n:Nat)(l:List Nat):Option (Int×Unit) :=
  (yA3 n n ((0:Int)) (l) ((↑l.length:Int)) ((0:Int)))
theorem yWo(n:Nat)(x:zV_a.den):runF zV_g (yTt n) Tryz.f202 zV_a zV_r x=zV_m n x.1:=by kernel_rfl
def yNk(av:List Nat)(aA:Int)(v1:Nat)(ae:Int):Option ((Int×Unit)⊕(Int)) :=
  (Option.bind (zX_M v1) fun v2=>(bif v2.1 != 0 then (some (Sum.inl ((v2.1,()))))else (some (Sum.inr (v2.1)))))
def yNO(av:List Nat)(ae:Int):Option (Int×Unit) :=
  (some ((ae,())))
theorem yFi(n:Nat)(hn:big≤n)(av:List Nat)(ae:Int)(hx:List.length (av) < lenMax):LeF some (yM (fun i__ e__ s__=>yNk av i__ e__ s__) (fun s__=>yNO av s__) 0 (av) ae) (yA3 n n ae av (List.length (av):Int) 0):=by
  refine yO (f:=some) (W:=fun k__ i__ s__=>yA3 n k__ s__ av (List.length (av):Int) i__) (body:=(fun i__ e__ s__=>yNk av i__ e__ s__)) (fin:=(fun s__=>yNO av s__)) (fun k__ i__ s__=>?_) hx ae n (by unfold big at hn;unfold lenMax at hx;omega)
  show LeF _ _ (yJW n (yA3 n k__) s__ av (List.length (av):Int) i__)
  exact y5 (y7 fun v1=>(y7 fun v2=>(y5 (y6 rfl) (y6 rfl)))) (yl (y6 rfl))
def zV_M(l:List Nat):Option (Int×Unit) :=
  (bif decide (List.length (l) < lenMax)then yM (fun i__ e__ s__=>yNk (l) i__ e__ s__) (fun s__=>yNO (l) s__) 0 (l) ((0:Int))else none)
theorem yQm(l:List Nat)(y:Int×Unit)(h:zV_M l=some y):∃ n,zV_m n l=some y :=
  ⟨big,LeF.top (show LeF some (zV_M l) (zV_m big l)from (fun (n:Nat) (hn:big≤n)=>show LeF some (zV_M l) (zV_m n l)from (yK fun hx=>by apply yFi n hn;exact hx)) big (Nat.le_refl _)) h⟩
def zV_e:Entry:={ f:=202,args:=zV_a,ress:=zV_r,m:=fun x=>zV_M x.1 }
theorem yYx:FnOK Tryz.prog zV_e:=yI (g:=zV_g) (fn:=Tryz.f202) yD yH (yA yT3 eNil) (by kernel_rfl) (by kernel_rfl) (by kernel_rfl) (fun x y h=>let ⟨n,hn⟩:=yQm x.1 y h;⟨yTt n,iNil,(yWo n x).trans hn⟩)
abbrev zY_a:Ty:=.pair t58 .unit
abbrev zY_r:Ty:=.pair t28 .unit
def zY_g:G:={ T:=T,E:=[zf_e,z0d_e,z0M_e],muts:=[],fz:=[] }
def zY_k:List (List Nat):=[[0,9,10,11]]
def yWW(n:Nat):Ann:={ keep:=zY_k,fuel:=n,inl:=[],deep:=0 }
def yIg(n:Nat)(r0:List (Q3)→List (Q3)→Int→Int→Option (Int×Unit))(a8:List (Q3))(ah:List (Q3))(aE:Int)(aj:Int):Option (Int×Unit) :=
  (bif decide (aj < aE)then (Option.bind (idx ah aj) fun v1=>(bif decide (aj > 0)then (Option.bind (idx a8 (if Bool.true=Bool.true then if IntKind.i64.wrap (aj - (1:Int)) > 0 then IntKind.i64.wrap (aj - (1:Int))else (0:Int)else if IntKind.i64.wrap (aj - (1:Int)) < 0 then IntKind.i64.wrap (aj - (1:Int))else (0:Int))) fun v2=>(Option.bind (y8V [(zf (v1.1,v1.2.1,())).1,(z0d (decide (v1.1≤v2.2.1)) (11:Int)).1]) fun v3=>(bif v3.1 != 0 then some (v3.1,())else r0 a8 ah aE (IntKind.i64.wrap (aj+1)))))else (Option.bind (y8V [(zf (v1.1,v1.2.1,())).1,(z0d Bool.false (11:Int)).1]) fun v4=>(bif v4.1 != 0 then some (v4.1,())else r0 a8 ah aE (IntKind.i64.wrap (aj+1))))))else some ((0:Int),()))
def yA5(n:Nat)(k:Nat)(a8:List (Q3))(ah:List (Q3))(aE:Int)(aj:Int):Option (Int×Unit) :=
  iter (fun r y=>yIg n (fun a8 ah aE aj=>r ((a8,(ah,(aE,(aj,())))),((),()))) y.1.1 y.1.2.1 y.1.2.2.1 y.1.2.2.2.1) k ((a8,(ah,(aE,(aj,())))),((),()))
def zY_m(n:Nat)(l:List (Q3)):Option (Int×Unit) :=
  (bif decide ((↑l.length:Int) > 2048)then some ((5:Int),())else (yA5 n n (l) (l) ((↑l.length:Int)) ((0:Int))))
theorem yXT(n:Nat)(x:zY_a.den):runF zY_g (yWW n) Tryz.f203 zY_a zY_r x=zY_m n x.1:=by kernel_rfl
def yNq(a8:List (Q3))(ah:List (Q3))(aj:Int)(v1:Q3):Option ((Int×Unit)⊕Unit) :=
  (bif decide (aj > 0)then (Option.bind (idx a8 (if Bool.true=Bool.true then if IntKind.i64.wrap (aj - (1:Int)) > 0 then IntKind.i64.wrap (aj - (1:Int))else (0:Int)else if IntKind.i64.wrap (aj - (1:Int)) < 0 then IntKind.i64.wrap (aj - (1:Int))else (0:Int))) fun v2=>(Option.bind (y8V [(zf (v1.1,v1.2.1,())).1,(z0d (decide (v1.1≤v2.2.1)) (11:Int)).1]) fun v3=>(bif v3.1 != 0 then (some (Sum.inl ((v3.1,()))))else (some (Sum.inr ())))))else (Option.bind (y8V [(zf (v1.1,v1.2.1,())).1,(z0d Bool.false (11:Int)).1]) fun v4=>(bif v4.1 != 0 then (some (Sum.inl ((v4.1,()))))else (some (Sum.inr ())))))
def yOi(a8:List (Q3))(ah:List (Q3)):Option (Int×Unit) :=
  (some (((0:Int),())))
theorem yFP(n:Nat)(hn:big≤n)(a8:List (Q3))(ah:List (Q3))(hx:List.length (ah) < lenMax):LeF some (yM (fun i__ e__ s__=>yNq a8 ah i__ e__) (fun s__=>yOi a8 ah) 0 (ah) ()) (yA5 n n a8 ah (List.length (ah):Int) 0):=by
  refine yO (f:=some) (W:=fun k__ i__ s__=>yA5 n k__ a8 ah (List.length (ah):Int) i__) (body:=(fun i__ e__ s__=>yNq a8 ah i__ e__)) (fin:=(fun s__=>yOi a8 ah)) (fun k__ i__ s__=>?_) hx () n (by unfold big at hn;unfold lenMax at hx;omega)
  show LeF _ _ (yIg n (yA5 n k__) a8 ah (List.length (ah):Int) i__)
  exact y5 (y7 fun v1=>(y5 (y7 fun v2=>(y7 fun v3=>(y5 (y6 rfl) (y6 rfl)))) (y7 fun v4=>(y5 (y6 rfl) (y6 rfl))))) (yl (y6 rfl))
def zY_M(l:List (Q3)):Option (Int×Unit) :=
  (bif decide ((↑l.length:Int) > 2048)then (some (((5:Int),())))else (bif decide (List.length (l) < lenMax)then yM (fun i__ e__ s__=>yNq (l) (l) i__ e__) (fun s__=>yOi (l) (l)) 0 (l) ()else none))
theorem yWA(l:List (Q3))(y:Int×Unit)(h:zY_M l=some y):∃ n,zY_m n l=some y :=
  ⟨big,LeF.top (show LeF some (zY_M l) (zY_m big l)from (fun (n:Nat) (hn:big≤n)=>show LeF some (zY_M l) (zY_m n l)from (y5 (y6 rfl) (yK fun hx=>by apply yFP n hn;exact hx))) big (Nat.le_refl _)) h⟩
def zY_e:Entry:={ f:=203,args:=zY_a,ress:=zY_r,m:=fun x=>zY_M x.1 }
theorem yXb:FnOK Tryz.prog zY_e:=yI (g:=zY_g) (fn:=Tryz.f203) yD yH (yA yYN (yA yAr (yA yMA eNil))) (by kernel_rfl) (by kernel_rfl) (by kernel_rfl) (fun x y h=>let ⟨n,hn⟩:=yWA x.1 y h;⟨yWW n,iNil,(yXT n x).trans hn⟩)
abbrev zR_a:Ty:=.pair t63 (.pair (.ref t60) .unit)
abbrev zR_r:Ty:=.pair t4 .unit
def zR_g:G:={ T:=T,E:=[zC_e,zO_e],muts:=[],fz:=[] }
def zR_k:List (List Nat):=[]
def ySM(n:Nat):Ann:={ keep:=zR_k,fuel:=n,inl:=[],deep:=0 }
def zR_m(n:Nat)(s:Q3)(p1:List UInt8×Int×List Nat×List (Q3)×Unit):Option (Bool×Unit) :=
  (bif decide ((0:Int)≤s.1) && decide (s.1≤s.2.1) && decide (s.2.1≤(↑p1.2.2.1.length:Int))then (Option.bind (zC_M (List.drop s.1.toNat (List.take s.2.1.toNat p1.2.2.1)) fun (x:Nat×Unit)=>zO_M x.1) fun v0=>some (v0.1,()))else none)
theorem yYz(n:Nat)(x:zR_a.den):runF zR_g (ySM n) Tryz.f206 zR_a zR_r x=zR_m n x.1 x.2.1:=by kernel_rfl
def zR_M(s:Q3)(p1:List UInt8×Int×List Nat×List (Q3)×Unit):Option (Bool×Unit):=zR_m 0 s p1
theorem yQc(s:Q3)(p1:List UInt8×Int×List Nat×List (Q3)×Unit)(y:Bool×Unit)(h:zR_M s p1=some y):∃ n,zR_m n s p1=some y:=⟨0,h⟩
def zR_e:Entry:={ f:=206,args:=zR_a,ress:=zR_r,m:=fun x=>zR_M x.1 x.2.1 }
theorem yYP:FnOK Tryz.prog zR_e:=yI (g:=zR_g) (fn:=Tryz.f206) yD yH (yA yWs (yA yYK eNil)) (by kernel_rfl) (by kernel_rfl) (by kernel_rfl) (fun x y h=>let ⟨n,hn⟩:=yQc x.1 x.2.1 y h;⟨ySM n,iNil,(yYz n x).trans hn⟩)
end
end Go.Tw
end
section
set_option maxRecDepth 1000000
namespace Go.Tw
open Go.Vx Go.Vx.B Go.Proofs
noncomputable section
abbrev zk_a:Ty:=.pair t25 .unit
abbrev zk_r:Ty:=.pair t3 .unit
def zk_g:G:={ T:=T,E:=[zJ_e,za_e,zj_e,z0C_e],muts:=[],fz:=[] }
def zk_k:List (List Nat):=[[1,5]]
def yUL(n:Nat):Ann:={ keep:=zk_k,fuel:=n,inl:=[],deep:=0 }
def yIL(n:Nat)(r1:Q1→Int→Option (Int×Unit))(aq:Q1)(aH:Int):Option (Int×Unit) :=
  (bif decide (aH < (↑aq.2.1.length:Int))then (Option.bind (idx aq.2.1 aH) fun v2=>(Option.bind (zj_M v2) fun v3=>(bif v3.1 != 0 then some (v3.1,())else r1 aq (IntKind.i64.wrap (aH+1)))))else (Option.bind (yB7 aq.2.1 aq.2.2.1) fun v4=>(bif v4.1 != 1 then some ((1:Int),())else some ((0:Int),()))))
def yAU(n:Nat)(k:Nat)(aq:Q1)(aH:Int):Option (Int×Unit) :=
  iter (fun r y=>yIL n (fun aq aH=>r ((aq,(aH,())),((),()))) y.1.1 y.1.2.1) k ((aq,(aH,())),((),()))
def zk_m(n:Nat)(t:Q1):Option (Int×Unit) :=
  (Option.bind (zJ_M t.1) fun v0=>(bif v0.1 != 0 then some (v0.1,())else (bif (↑t.2.1.length:Int) != (↑t.1.length:Int)then some ((2:Int),())else (bif (za t.2.2.1 (1:Int) (268435456:Int)).1 != 0 then some ((za t.2.2.1 (1:Int) (268435456:Int)).1,())else (yAU n n (t) ((0:Int)))))))
theorem yYU(n:Nat)(x:zk_a.den):runF zk_g (yUL n) Tryz.f23 zk_a zk_r x=zk_m n x.1:=by kernel_rfl
def yGz(aq:Q1)(aH:Int)(v2:Q3):Option ((Int×Unit)⊕Unit) :=
  (Option.bind (zj_M v2) fun v3=>(bif v3.1 != 0 then (some (Sum.inl ((v3.1,()))))else (some (Sum.inr ()))))
def yFS(aq:Q1):Option (Int×Unit) :=
  (Option.bind (yB7 aq.2.1 aq.2.2.1) fun v4=>(bif v4.1 != 1 then (some (((1:Int),())))else (some (((0:Int),())))))
theorem yFp(n:Nat)(hn:big≤n)(aq:Q1)(hx:List.length (aq.2.1) < lenMax):LeF some (yM (fun i__ e__ s__=>yGz aq i__ e__) (fun s__=>yFS aq) 0 (aq.2.1) ()) (yAU n n aq 0):=by
  refine yO (f:=some) (W:=fun k__ i__ s__=>yAU n k__ aq i__) (body:=(fun i__ e__ s__=>yGz aq i__ e__)) (fin:=(fun s__=>yFS aq)) (fun k__ i__ s__=>?_) hx () n (by unfold big at hn;unfold lenMax at hx;omega)
  show LeF _ _ (yIL n (yAU n k__) aq i__)
  exact y5 (y7 fun v2=>(y7 fun v3=>(y5 (y6 rfl) (y6 rfl)))) (yl (y7 fun v4=>(y5 (y6 rfl) (y6 rfl))))
def zk_M(t:Q1):Option (Int×Unit) :=
  (Option.bind (zJ_M t.1) fun v0=>(bif v0.1 != 0 then (some ((v0.1,())))else (bif (↑t.2.1.length:Int) != (↑t.1.length:Int)then (some (((2:Int),())))else (bif (za t.2.2.1 (1:Int) (268435456:Int)).1 != 0 then (some (((za t.2.2.1 (1:Int) (268435456:Int)).1,())))else (bif decide (List.length (t.2.1) < lenMax)then yM (fun i__ e__ s__=>yGz (t) i__ e__) (fun s__=>yFS (t)) 0 (t.2.1) ()else none)))))
theorem yVS(t:Q1)(y:Int×Unit)(h:zk_M t=some y):∃ n,zk_m n t=some y :=
  ⟨big,LeF.top (show LeF some (zk_M t) (zk_m big t)from (fun (n:Nat) (hn:big≤n)=>show LeF some (zk_M t) (zk_m n t)from (y7 fun v0=>(y5 (y6 rfl) (y5 (y6 rfl) (y5 (y6 rfl) (yK fun hx=>by apply yFp n hn;exact hx)))))) big (Nat.le_refl _)) h⟩
def zk_e:Entry:={ f:=23,args:=zk_a,ress:=zk_r,m:=fun x=>zk_M x.1 }
theorem yX9:FnOK Tryz.prog zk_e:=yI (g:=zk_g) (fn:=Tryz.f23) yD yH (yA yXx (yA yKM (yA yXt (yA ySB eNil)))) (by kernel_rfl) (by kernel_rfl) (by kernel_rfl) (fun x y h=>let ⟨n,hn⟩:=yVS x.1 y h;⟨yUL n,iNil,(yYU n x).trans hn⟩)
abbrev yOV:Ty:=.pair t35 .unit
abbrev yR5:Ty:=.pair t41 (.pair t28 .unit)
def yVL:G:={ T:=T,E:=[z0b_e],muts:=[],fz:=[] }
def yXS:List (List Nat):=[]
def yLf(n:Nat):Ann:={ keep:=yXS,fuel:=n,inl:=[],deep:=0 }
def yNW(n:Nat)(l:List Nat):Option (List Int×Int×Unit) :=
  (Option.bind (yGL l (nat_lit 1065353216)) fun v0=>some (v0.1,v0.2.1,()))
theorem ySf(n:Nat)(x:yOV.den):runF yVL (yLf n) Tryz.f71 yOV yR5 x=yNW n x.1:=by kernel_rfl
def yNx(l:List Nat):Option (List Int×Int×Unit):=yNW 0 l
theorem yO9(l:List Nat)(y:List Int×Int×Unit)(h:yNx l=some y):∃ n,yNW n l=some y:=⟨0,h⟩
def z0k_e:Entry:={ f:=71,args:=yOV,ress:=yR5,m:=fun x=>yNx x.1 }
theorem yU4:FnOK Tryz.prog z0k_e:=yI (g:=yVL) (fn:=Tryz.f71) yD yH (yA yLa eNil) (by kernel_rfl) (by kernel_rfl) (by kernel_rfl) (fun x y h=>let ⟨n,hn⟩:=yO9 x.1 y h;⟨yLf n,iNil,(ySf n x).trans hn⟩)
abbrev yQF:Ty:=.pair t35 .unit
abbrev ySW:Ty:=.pair t41 (.pair t28 .unit)
def yT9:G:={ T:=T,E:=[z0b_e],muts:=[],fz:=[] }
def yYH:List (List Nat):=[]
def yLz(n:Nat):Ann:={ keep:=yYH,fuel:=n,inl:=[],deep:=0 }
def yPI(n:Nat)(l:List Nat):Option (List Int×Int×Unit) :=
  (Option.bind (yGL l (nat_lit 3212836864)) fun v0=>some (v0.1,v0.2.1,()))
theorem yVG(n:Nat)(x:yQF.den):runF yT9 (yLz n) Tryz.f72 yQF ySW x=yPI n x.1:=by kernel_rfl
def yOh(l:List Nat):Option (List Int×Int×Unit):=yPI 0 l
theorem yPf(l:List Nat)(y:List Int×Int×Unit)(h:yOh l=some y):∃ n,yPI n l=some y:=⟨0,h⟩
def z10_e:Entry:={ f:=72,args:=yQF,ress:=ySW,m:=fun x=>yOh x.1 }
theorem yWS:FnOK Tryz.prog z10_e:=yI (g:=yT9) (fn:=Tryz.f72) yD yH (yA yLa eNil) (by kernel_rfl) (by kernel_rfl) (by kernel_rfl) (fun x y h=>let ⟨n,hn⟩:=yPf x.1 y h;⟨yLz n,iNil,(yVG n x).trans hn⟩)
abbrev zL_a:Ty:=.pair t31 .unit
abbrev zL_r:Ty:=.pair t28 .unit
def zL_g:G:={ T:=T,E:=[z14_e,z0p_e,zM_e],muts:=[21],fz:=[] }
def zL_k:List (List Nat):=[[4,22,23,24]]
def ySH(n:Nat):Ann:={ keep:=zL_k,fuel:=n,inl:=[],deep:=0 }
def yHg(n:Nat)(r1:List (Q2)→Int→Int→List (List UInt8×Bool)→Option (Int×Unit))(af:List (Q2))(aF:Int)(aC:Int)(aB:List (List UInt8×Bool)):Option (Int×Unit) :=
  (bif decide (aC < aF)then (Option.bind (idx af aC) fun v2=>(Option.bind (zM_M (v2.1,v2.2.1,v2.2.2.1,())) fun v3=>(Option.bind (y1x [v3.1,(z14 ((y08 Ty.str Ty.bool aB v2.1).getD Bool.false) (9:Int)).1]) fun v4=>(bif v4.1 != 0 then some (v4.1,())else r1 af aF (IntKind.i64.wrap (aC+1)) (y0Q Ty.str Ty.bool aB v2.1 Bool.true)))))else some ((0:Int),()))
def y9O(n:Nat)(k:Nat)(af:List (Q2))(aF:Int)(aC:Int)(aB:List (List UInt8×Bool)):Option (Int×Unit) :=
  iter (fun r y=>yHg n (fun af aF aC aB=>r ((af,(aF,(aC,()))),((aB,()),()))) y.1.1 y.1.2.1 y.1.2.2.1 y.2.1.1) k ((af,(aF,(aC,()))),((aB,()),()))
def zL_m(n:Nat)(l:List (Q2)):Option (Int×Unit) :=
  (Option.bind (y1x [(z14 ((↑l.length:Int)==0) (12:Int)).1,(z14 (decide ((↑l.length:Int) > 4)) (5:Int)).1]) fun v0=>(bif v0.1 != 0 then some (v0.1,())else (y9O n n (l) ((↑l.length:Int)) ((0:Int)) ([]))))
theorem yXV(n:Nat)(x:zL_a.den):runF zL_g (ySH n) Tryz.f88 zL_a zL_r x=zL_m n x.1:=by kernel_rfl
def yFQ(af:List (Q2))(aC:Int)(v2:Q2)(aB:List (List UInt8×Bool)):Option ((Int×Unit)⊕(List (List UInt8×Bool))) :=
  (Option.bind (zM_M (v2.1,v2.2.1,v2.2.2.1,())) fun v3=>(Option.bind (y1x [v3.1,(z14 ((y08 Ty.str Ty.bool aB v2.1).getD Bool.false) (9:Int)).1]) fun v4=>(bif v4.1 != 0 then (some (Sum.inl ((v4.1,()))))else (some (Sum.inr (y0Q Ty.str Ty.bool aB v2.1 Bool.true))))))
def yJh(af:List (Q2))(aB:List (List UInt8×Bool)):Option (Int×Unit) :=
  (some (((0:Int),())))
theorem yGI(n:Nat)(hn:big≤n)(af:List (Q2))(aB:List (List UInt8×Bool))(hx:List.length (af) < lenMax):LeF some (yM (fun i__ e__ s__=>yFQ af i__ e__ s__) (fun s__=>yJh af s__) 0 (af) aB) (y9O n n af (List.length (af):Int) 0 aB):=by
  refine yO (f:=some) (W:=fun k__ i__ s__=>y9O n k__ af (List.length (af):Int) i__ s__) (body:=(fun i__ e__ s__=>yFQ af i__ e__ s__)) (fin:=(fun s__=>yJh af s__)) (fun k__ i__ s__=>?_) hx aB n (by unfold big at hn;unfold lenMax at hx;omega)
  show LeF _ _ (yHg n (y9O n k__) af (List.length (af):Int) i__ s__)
  exact y5 (y7 fun v2=>(y7 fun v3=>(y7 fun v4=>(y5 (y6 rfl) (y6 rfl))))) (yl (y6 rfl))
def zL_M(l:List (Q2)):Option (Int×Unit) :=
  (Option.bind (y1x [(z14 ((↑l.length:Int)==0) (12:Int)).1,(z14 (decide ((↑l.length:Int) > 4)) (5:Int)).1]) fun v0=>(bif v0.1 != 0 then (some ((v0.1,())))else (bif decide (List.length (l) < lenMax)then yM (fun i__ e__ s__=>yFQ (l) i__ e__ s__) (fun s__=>yJh (l) s__) 0 (l) ([])else none)))
theorem yRU(l:List (Q2))(y:Int×Unit)(h:zL_M l=some y):∃ n,zL_m n l=some y :=
  ⟨big,LeF.top (show LeF some (zL_M l) (zL_m big l)from (fun (n:Nat) (hn:big≤n)=>show LeF some (zL_M l) (zL_m n l)from (y7 fun v0=>(y5 (y6 rfl) (yK fun hx=>by apply yGI n hn;exact hx)))) big (Nat.le_refl _)) h⟩
def zL_e:Entry:={ f:=88,args:=zL_a,ress:=zL_r,m:=fun x=>zL_M x.1 }
theorem ySY:FnOK Tryz.prog zL_e:=yI (g:=zL_g) (fn:=Tryz.f88) yD yH (yA y5w (yA y4M (yA yXF eNil))) (by kernel_rfl) (by kernel_rfl) (by kernel_rfl) (fun x y h=>let ⟨n,hn⟩:=yRU x.1 y h;⟨ySH n,iNil,(yXV n x).trans hn⟩)
abbrev yPB:Ty:=.pair t25 (.pair t3 .unit)
abbrev yQa:Ty:=.pair t57 .unit
def yU9:G:={ T:=T,E:=[z0z_e],muts:=[],fz:=[] }
def yWz:List (List Nat):=[]
def yMO(n:Nat):Ann:={ keep:=yWz,fuel:=n,inl:=[],deep:=0 }
def yKL(n:Nat)(t:Q1)(tick:Int):Option ((Q3)×Unit) :=
  (Option.bind (yDX t.1 t.2.1 tick) fun v0=>some ((v0.1.1,v0.1.2.1,()),()))
theorem yRF(n:Nat)(x:yPB.den):runF yU9 (yMO n) Tryz.f111 yPB yQa x=yKL n x.1 x.2.1:=by kernel_rfl
def yBI(t:Q1)(tick:Int):Option ((Q3)×Unit):=yKL 0 t tick
theorem yNH(t:Q1)(tick:Int)(y:(Q3)×Unit)(h:yBI t tick=some y):∃ n,yKL n t tick=some y:=⟨0,h⟩
def z0R_e:Entry:={ f:=111,args:=yPB,ress:=yQa,m:=fun x=>yBI x.1 x.2.1 }
theorem yLh:FnOK Tryz.prog z0R_e:=yI (g:=yU9) (fn:=Tryz.f111) yD yH (yA yVd eNil) (by kernel_rfl) (by kernel_rfl) (by kernel_rfl) (fun x y h=>let ⟨n,hn⟩:=yNH x.1 x.2.1 y h;⟨yMO n,iNil,(yRF n x).trans hn⟩)
abbrev yPU:Ty:=.pair t31 (.pair t23 (.pair t3 .unit))
abbrev yUv:Ty:=.pair t33 .unit
def yVn:G:={ T:=T,E:=[z0Y_e,z7_e,zz_e,z00_e,zG_e],muts:=[],fz:=[7] }
def yZ5:List (List Nat):=[]
def yLq(n:Nat):Ann:={ keep:=yZ5,fuel:=n,inl:=[],deep:=0 }
def yNE(n:Nat)(l:List (Q2))(amplitudes:List (Q3))(den:Int):Option ((Q1)×Unit) :=
  (Option.bind (yBG amplitudes den) fun v0=>(Option.bind (z7_M l fun (x:(Q2)×Unit)=>zz_M x.1) fun v1=>(Option.bind (zG_M amplitudes fun (x:(Q3)×Unit)=>yPx x.1 v0.1) fun v2=>(bif v0.1==0 then none else some ((v1.1,v2.1,IntKind.i64.wrap (den.tdiv v0.1),()),())))))
theorem yTb(n:Nat)(x:yPU.den):runF yVn (yLq n) Tryz.f121 yPU yUv x=yNE n x.1 x.2.1 x.2.2.1:=by kernel_rfl
def yNU(l:List (Q2))(amplitudes:List (Q3))(den:Int):Option ((Q1)×Unit):=yNE 0 l amplitudes den
theorem yOH(l:List (Q2))(amplitudes:List (Q3))(den:Int)(y:(Q1)×Unit)(h:yNU l amplitudes den=some y):∃ n,yNE n l amplitudes den=some y:=⟨0,h⟩
def z0K_e:Entry:={ f:=121,args:=yPU,ress:=yUv,m:=fun x=>yNU x.1 x.2.1 x.2.2.1 }
theorem yTa:FnOK Tryz.prog z0K_e:=yI (g:=yVn) (fn:=Tryz.f121) yD yH (yA yMR (yA yXq (yA yX1 (yA yUE (yA yYl eNil))))) (by kernel_rfl) (by kernel_rfl) (by kernel_rfl) (fun x y h=>let ⟨n,hn⟩:=yOH x.1 x.2.1 x.2.2.1 y h;⟨yLq n,iNil,(yTb n x).trans hn⟩)
abbrev yO5:Ty:=.pair t3 .unit
abbrev yUj:Ty:=.pair t69 .unit
def ySl:G:={ T:=T,E:=[z06_e,z0s_e],muts:=[],fz:=[] }
def yYo:List (List Nat):=[]
def yLv(n:Nat):Ann:={ keep:=yYo,fuel:=n,inl:=[],deep:=0 }
def yPG(n:Nat)(year:Int):Option ((Q3)×Unit) :=
  (Option.bind (yCJ (IntKind.i64.wrap ((104:Int) - (z06 (IntKind.i64.wrap (year.tmod (16:Int) - (8:Int)))).1)) (100:Int)) fun v0=>some ((v0.1.1,v0.1.2.1,()),()))
theorem ySO(n:Nat)(x:yO5.den):runF ySl (yLv n) Tryz.f136 yO5 yUj x=yPG n x.1:=by kernel_rfl
def yQU(year:Int):Option ((Q3)×Unit):=yPG 0 year
theorem yPe(year:Int)(y:(Q3)×Unit)(h:yQU year=some y):∃ n,yPG n year=some y:=⟨0,h⟩
def z0r_e:Entry:={ f:=136,args:=yO5,ress:=yUj,m:=fun x=>yQU x.1 }
theorem yVb:FnOK Tryz.prog z0r_e:=yI (g:=ySl) (fn:=Tryz.f136) yD yH (yA yBk (yA yJ7 eNil)) (by kernel_rfl) (by kernel_rfl) (by kernel_rfl) (fun x y h=>let ⟨n,hn⟩:=yPe x.1 y h;⟨yLv n,iNil,(ySO n x).trans hn⟩)
abbrev zU_a:Ty:=.pair t60 .unit
abbrev zU_r:Ty:=.pair t28 .unit
def zU_g:G:={ T:=T,E:=[z08_e,z0d_e,z09_e,z0M_e,zV_e,zY_e,zQ_e,zB_e,zR_e],muts:=[],fz:=[] }
def zU_k:List (List Nat):=[]
def yQq(n:Nat):Ann:={ keep:=zU_k,fuel:=n,inl:=[],deep:=0 }
def zU_m(n:Nat)(rp:List UInt8×Int×List Nat×List (Q3)×Unit):Option (Int×Unit) :=
  (Option.bind (yAe rp.1) fun v0=>(Option.bind (y8V [(z0d (!v0.1) (8:Int)).1,(z09 rp.2.1 (0:Int) (100000:Int)).1,(z0d (decide ((↑rp.2.2.1.length:Int) > 4096)) (5:Int)).1]) fun v1=>(bif v1.1 != 0 then some (v1.1,())else (Option.bind (zV_M rp.2.2.1) fun v2=>(Option.bind (zY_M rp.2.2.2.1) fun v3=>(Option.bind (y8V [v2.1,v3.1]) fun v4=>(bif v4.1 != 0 then some (v4.1,())else (Option.bind (zB_M rp.2.2.2.1 fun (x:(Q3)×Unit)=>zQ_M x.1 rp) fun v5=>(bif v5.1 then some ((14:Int),())else (Option.bind (zB_M rp.2.2.2.1 fun (x:(Q3)×Unit)=>zR_M x.1 rp) fun v6=>some ((z0d v6.1 (1:Int)).1,())))))))))))
theorem yXG(n:Nat)(x:zU_a.den):runF zU_g (yQq n) Tryz.f157 zU_a zU_r x=zU_m n x.1:=by kernel_rfl
def zU_M(rp:List UInt8×Int×List Nat×List (Q3)×Unit):Option (Int×Unit):=zU_m 0 rp
theorem yR6(rp:List UInt8×Int×List Nat×List (Q3)×Unit)(y:Int×Unit)(h:zU_M rp=some y):∃ n,zU_m n rp=some y:=⟨0,h⟩
def zU_e:Entry:={ f:=157,args:=zU_a,ress:=zU_r,m:=fun x=>zU_M x.1 }
theorem yWk:FnOK Tryz.prog zU_e:=yI (g:=zU_g) (fn:=Tryz.f157) yD yH (yA yMN (yA yAr (yA yS7 (yA yMA (yA yYx (yA yXb (yA yWw (yA yYw (yA yYP eNil))))))))) (by kernel_rfl) (by kernel_rfl) (by kernel_rfl) (fun x y h=>let ⟨n,hn⟩:=yR6 x.1 y h;⟨yQq n,iNil,(yXG n x).trans hn⟩)
abbrev yOR:Ty:=.pair t55 (.pair (.ref t31) (.pair (.ref t60) .unit))
abbrev yRL:Ty:=.pair t23 .unit
def yUn:G:={ T:=T,E:=[zp_e,zA_e],muts:=[],fz:=[] }
def yYR:List (List Nat):=[]
def yMm(n:Nat):Ann:={ keep:=yYR,fuel:=n,inl:=[],deep:=0 }
def yNf(n:Nat)(a:Q2)(p1:List (Q2))(p2:List UInt8×Int×List Nat×List (Q3)×Unit):Option (List (Q3)×Unit) :=
  (Option.bind (zA_M p1 fun (x:(Q2)×Unit)=>zp_M x.1 p2 a) fun v0=>some (v0.1,()))
theorem yUX(n:Nat)(x:yOR.den):runF yUn (yMm n) Tryz.f192 yOR yRL x=yNf n x.1 x.2.1 x.2.2.1:=by kernel_rfl
def yOO(a:Q2)(p1:List (Q2))(p2:List UInt8×Int×List Nat×List (Q3)×Unit):Option (List (Q3)×Unit):=yNf 0 a p1 p2
theorem yPi(a:Q2)(p1:List (Q2))(p2:List UInt8×Int×List Nat×List (Q3)×Unit)(y:List (Q3)×Unit)(h:yOO a p1 p2=some y):∃ n,yNf n a p1 p2=some y:=⟨0,h⟩
def z07_e:Entry:={ f:=192,args:=yOR,ress:=yRL,m:=fun x=>yOO x.1 x.2.1 x.2.2.1 }
theorem yTm:FnOK Tryz.prog z07_e:=yI (g:=yUn) (fn:=Tryz.f192) yD yH (yA yYp (yA yPl eNil)) (by kernel_rfl) (by kernel_rfl) (by kernel_rfl) (fun x y h=>let ⟨n,hn⟩:=yPi x.1 x.2.1 x.2.2.1 y h;⟨yMm n,iNil,(yUX n x).trans hn⟩)
end
end Go.Tw
end
