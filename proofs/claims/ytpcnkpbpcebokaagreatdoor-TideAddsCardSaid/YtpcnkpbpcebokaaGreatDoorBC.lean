import Derived.Test.YtpcnkpbpcebokaaGreatDoorBT
import Derived.Test.YtpcnkpbpcebokaaGreatDoorB0
import Derived.Test.YtpcnkpbpcebokaaGreatDoorBS
import Derived.Test.YtpcnkpbpcebokaaGreatDoorLQ
import Derived.Test.YtpcnkpbpcebokaaGreatDoorBA
import Derived.Test.YtpcnkpbpcebokaaGreatDoorLR
set_option linter.all false
section
set_option maxRecDepth 1000000
namespace Go.Tw
open Go.Vx Go.Vx.B Go.Proofs
noncomputable section
abbrev zJ_a:Ty:=.pair t22 .unit
abbrev zJ_r:Ty:=.pair t3 .unit
def zJ_g:G:={ T:=T,E:=[zh_e,za_e,z0P_e],muts:=[],fz:=[] }
def zJ_k:List (List Nat):=[[0,3],[0,3,5]]
def yTv(n:Nat):Ann:={ keep:=zJ_k,fuel:=n,inl:=[],deep:=0 }
def yH2(n:Nat)(r0:List (Q3)→Int→Option (Int×Unit))(r6:List (Q3)→Int→Int→Option (Int×Unit))(aq:List (Q3))(ak:Int)(aG:Int):Option (Int×Unit) :=
  (bif decide (aG < ak)then (Option.bind (idx aq aG) fun v7=>(Option.bind (idx aq ak) fun v8=>(bif v7.1==v8.1 then some ((9:Int),())else r6 aq ak (IntKind.i64.wrap (aG+1)))))else r0 aq (IntKind.i64.wrap (ak+1)))
def yAD(n:Nat)(r0:List (Q3)→Int→Option (Int×Unit))(k:Nat)(aq:List (Q3))(ak:Int)(aG:Int):Option (Int×Unit) :=
  iter (fun r y=>yH2 n r0 (fun aq ak aG=>r ((aq,(ak,(aG,()))),((),()))) y.1.1 y.1.2.1 y.1.2.2.1) k ((aq,(ak,(aG,()))),((),()))
def yHT(n:Nat)(r0:List (Q3)→Int→Option (Int×Unit))(ac:List (Q3))(av:Int):Option (Int×Unit) :=
  (bif decide (av < (↑ac.length:Int))then (Option.bind (idx ac av) fun v1=>(Option.bind (zh_M v1.1) fun v2=>(Option.bind (idx ac av) fun v3=>(Option.bind (idx ac av) fun v4=>(Option.bind (yA9 [v2.1,(za v3.2.1 (1:Int) (96:Int)).1,(za v4.2.2.1 (0:Int) (3:Int)).1]) fun v5=>(bif v5.1 != 0 then some (v5.1,())else (yAD n r0 n (ac) (av) ((0:Int)))))))))else some ((0:Int),()))
def y9k(n:Nat)(k:Nat)(ac:List (Q3))(av:Int):Option (Int×Unit) :=
  iter (fun r y=>yHT n (fun ac av=>r ((ac,(av,())),((),()))) y.1.1 y.1.2.1) k ((ac,(av,())),((),()))
def zJ_m(n:Nat)(l:List (Q3)):Option (Int×Unit) :=
  (bif (↑l.length:Int)==0 then some ((12:Int),())else (bif decide ((↑l.length:Int) > 4)then some ((5:Int),())else (y9k n n (l) ((0:Int)))))
theorem yYK(n:Nat)(x:zJ_a.den):runF zJ_g (yTv n) Tryz.f32 zJ_a zJ_r x=zJ_m n x.1:=by kernel_rfl
def yEx(aq:List (Q3))(ak:Int)(aG:Int):Option (((Int×Unit)⊕Unit)⊕Unit) :=
  (Option.bind (idx aq aG) fun v7=>(Option.bind (idx aq ak) fun v8=>(bif v7.1==v8.1 then (some (Sum.inl (Sum.inl (((9:Int),())))))else (some (Sum.inr ())))))
def yJM(aq:List (Q3))(ak:Int):Option ((Int×Unit)⊕Unit) :=
  (some (Sum.inr ()))
theorem yFJ(n:Nat)(hn:big≤n)(r0:List (Q3)→Int→Option (Int×Unit))(aq:List (Q3))(ak:Int)(hx:(ak)≤9223372036854775807):LeF (elim some fun (ah:Unit)=>r0 aq (IntKind.i64.wrap (ak+1))) (y2e (fun aj ah=>yEx aq ak aj) (fun ah=>yJM aq ak) ((ak) - 0).toNat 0 ()) (yAD n r0 n aq ak 0):=by
  refine y6l (f:=(elim some fun (ah:Unit)=>r0 aq (IntKind.i64.wrap (ak+1)))) (W:=fun aH aj ah=>yAD n r0 aH aq ak aj) (body:=(fun aj ah=>yEx aq ak aj)) (fin:=(fun ah=>yJM aq ak)) (fun aH aj ah=>?_) hx () n 0 (by decide) (by unfold big at hn;omega)
  show LeF _ _ (yH2 n r0 (yAD n r0 aH) aq ak aj)
  exact y9 (yB fun v7=>(yB fun v8=>(y9 (y8 rfl) (y8 rfl)))) (y1F (y8 rfl))
def yFw(ac:List (Q3))(av:Int)(v1:Q3):Option ((Int×Unit)⊕Unit) :=
  (Option.bind (zh_M v1.1) fun v2=>(Option.bind (idx ac av) fun v3=>(Option.bind (idx ac av) fun v4=>(Option.bind (yA9 [v2.1,(za v3.2.1 (1:Int) (96:Int)).1,(za v4.2.2.1 (0:Int) (3:Int)).1]) fun v5=>(bif v5.1 != 0 then (some (Sum.inl ((v5.1,()))))else (bif decide ((av)≤9223372036854775807)then y2e (fun aj ah=>yEx (ac) (av) aj) (fun ah=>yJM (ac) (av)) ((av) - 0).toNat 0 ()else none))))))
def yJ4(ac:List (Q3)):Option (Int×Unit) :=
  (some (((0:Int),())))
theorem yFT(n:Nat)(hn:big≤n)(ac:List (Q3))(hx:List.length (ac) < lenMax):LeF some (yf (fun aj aB ah=>yFw ac aj aB) (fun ah=>yJ4 ac) 0 (ac) ()) (y9k n n ac 0):=by
  refine yn (f:=some) (W:=fun aH aj ah=>y9k n aH ac aj) (body:=(fun aj aB ah=>yFw ac aj aB)) (fin:=(fun ah=>yJ4 ac)) (fun aH aj ah=>?_) hx () n (by unfold big at hn;unfold lenMax at hx;omega)
  show LeF _ _ (yHT n (y9k n aH) ac aj)
  exact y9 (yB fun v1=>(yB fun v2=>(yB fun v3=>(yB fun v4=>(yB fun v5=>(y9 (y8 rfl) (yr fun hx=>by apply yFJ n hn;exact hx))))))) (y1F (y8 rfl))
def zJ_M(l:List (Q3)):Option (Int×Unit) :=
  (bif (↑l.length:Int)==0 then (some (((12:Int),())))else (bif decide ((↑l.length:Int) > 4)then (some (((5:Int),())))else (bif decide (List.length (l) < lenMax)then yf (fun aj aB ah=>yFw (l) aj aB) (fun ah=>yJ4 (l)) 0 (l) ()else none)))
theorem yUA(l:List (Q3))(y:Int×Unit)(h:zJ_M l=some y):∃ n,zJ_m n l=some y :=
  ⟨big,LeF.top (show LeF some (zJ_M l) (zJ_m big l)from (fun (n:Nat) (hn:big≤n)=>show LeF some (zJ_M l) (zJ_m n l)from (y9 (y8 rfl) (y9 (y8 rfl) (yr fun hx=>by apply yFT n hn;exact hx)))) big (Nat.le_refl _)) h⟩
def zJ_e:Entry:={ f:=32,args:=zJ_a,ress:=zJ_r,m:=fun x=>zJ_M x.1 }
theorem yYG:FnOK Tryz.prog zJ_e:=yJ (g:=zJ_g) (fn:=Tryz.f32) yE yI (y6 yZF (y6 yQS (y6 yLl eNil))) (by kernel_rfl) (by kernel_rfl) (by kernel_rfl) (fun x y h=>let ⟨n,hn⟩:=yUA x.1 y h;⟨yTv n,iNil,(yYK n x).trans hn⟩)
abbrev zw_a:Ty:=.pair t3 (.pair t3 .unit)
abbrev zw_r:Ty:=.pair t28 .unit
def zw_g:G:={ T:=T,E:=[z0b_e,z0s_e],muts:=[],fz:=[] }
def zw_k:List (List Nat):=[]
def yW3(n:Nat):Ann:={ keep:=zw_k,fuel:=n,inl:=[],deep:=0 }
def zw_m(n:Nat)(p0:Int)(np:Int):Option (Int×Unit) :=
  (Option.bind (y1h [(z0b p0 (0:Int) (100000:Int)).1,(z0b np (0:Int) (4096:Int)).1]) fun v0=>(bif v0.1 != 0 then some (v0.1,())else some ((z0b (IntKind.i64.wrap (p0+np)) (0:Int) (100000:Int)).1,())))
theorem yYh(n:Nat)(x:zw_a.den):runF zw_g (yW3 n) Tryz.f105 zw_a zw_r x=zw_m n x.1 x.2.1:=by kernel_rfl
def zw_M(p0:Int)(np:Int):Option (Int×Unit):=zw_m 0 p0 np
theorem yRd(p0:Int)(np:Int)(y:Int×Unit)(h:zw_M p0 np=some y):∃ n,zw_m n p0 np=some y:=⟨0,h⟩
def zw_e:Entry:={ f:=105,args:=zw_a,ress:=zw_r,m:=fun x=>zw_M x.1 x.2.1 }
theorem yYL:FnOK Tryz.prog zw_e:=yJ (g:=zw_g) (fn:=Tryz.f105) yE yI (y6 y8x (y6 y3W eNil)) (by kernel_rfl) (by kernel_rfl) (by kernel_rfl) (fun x y h=>let ⟨n,hn⟩:=yRd x.1 x.2.1 y h;⟨yW3 n,iNil,(yYh n x).trans hn⟩)
abbrev yQi:Ty:=.pair t33 (.pair t3 .unit)
abbrev yRf:Ty:=.pair t57 .unit
def yRF:G:={ T:=T,E:=[z0z_e],muts:=[],fz:=[] }
def yZc:List (List Nat):=[]
def yLL(n:Nat):Ann:={ keep:=yZc,fuel:=n,inl:=[],deep:=0 }
def yJB(n:Nat)(t:Q2)(tick:Int):Option ((Q4)×Unit) :=
  (Option.bind (yCs t.1 t.2.1 tick) fun v0=>some ((v0.1.1,v0.1.2.1,()),()))
theorem yX3(n:Nat)(x:yQi.den):runF yRF (yLL n) Tryz.f106 yQi yRf x=yJB n x.1 x.2.1:=by kernel_rfl
def yBp(t:Q2)(tick:Int):Option ((Q4)×Unit):=yJB 0 t tick
theorem yPN(t:Q2)(tick:Int)(y:(Q4)×Unit)(h:yBp t tick=some y):∃ n,yJB n t tick=some y:=⟨0,h⟩
def z0G_e:Entry:={ f:=106,args:=yQi,ress:=yRf,m:=fun x=>yBp x.1 x.2.1 }
theorem yMB:FnOK Tryz.prog z0G_e:=yJ (g:=yRF) (fn:=Tryz.f106) yE yI (y6 ySu eNil) (by kernel_rfl) (by kernel_rfl) (by kernel_rfl) (fun x y h=>let ⟨n,hn⟩:=yPN x.1 x.2.1 y h;⟨yLL n,iNil,(yX3 n x).trans hn⟩)
abbrev zv_a:Ty:=.pair t57 .unit
abbrev zv_r:Ty:=.pair t28 .unit
def zv_g:G:={ T:=T,E:=[z0b_e,z0s_e],muts:=[],fz:=[] }
def zv_k:List (List Nat):=[]
def ySD(n:Nat):Ann:={ keep:=zv_k,fuel:=n,inl:=[],deep:=0 }
def zv_m(n:Nat)(z:Q4):Option (Int×Unit) :=
  (Option.bind (y1h [(z0b z.1 (-8796093022208:Int) (8796093022208:Int)).1,(z0b z.2.1 (-8796093022208:Int) (8796093022208:Int)).1]) fun v0=>some (v0.1,()))
theorem yXN(n:Nat)(x:zv_a.den):runF zv_g (ySD n) Tryz.f116 zv_a zv_r x=zv_m n x.1:=by kernel_rfl
def zv_M(z:Q4):Option (Int×Unit):=zv_m 0 z
theorem yRy(z:Q4)(y:Int×Unit)(h:zv_M z=some y):∃ n,zv_m n z=some y:=⟨0,h⟩
def zv_e:Entry:={ f:=116,args:=zv_a,ress:=zv_r,m:=fun x=>zv_M x.1 }
theorem yZD:FnOK Tryz.prog zv_e:=yJ (g:=zv_g) (fn:=Tryz.f116) yE yI (y6 y8x (y6 y3W eNil)) (by kernel_rfl) (by kernel_rfl) (by kernel_rfl) (fun x y h=>let ⟨n,hn⟩:=yRy x.1 y h;⟨ySD n,iNil,(yXN n x).trans hn⟩)
abbrev yQ5:Ty:=.pair t23 (.pair t3 .unit)
abbrev yWX:Ty:=.pair t3 .unit
def yU9:G:={ T:=T,E:=[z0H_e],muts:=[],fz:=[] }
def yYR:List (List Nat):=[[1,7,8,9]]
def yLh(n:Nat):Ann:={ keep:=yYR,fuel:=n,inl:=[],deep:=0 }
def yE8(n:Nat)(r0:Int→List (Q4)→Int→Int→Option (Int×Unit))(af:Int)(ai:List (Q4))(ax:Int)(aw:Int):Option (Int×Unit) :=
  (bif decide (aw < ax)then (Option.bind (idx ai aw) fun v1=>(Option.bind (yAA af [v1.1,v1.2.1]) fun v2=>r0 v2.1 ai ax (IntKind.i64.wrap (aw+1))))else some (af,()))
def y6c(n:Nat)(k:Nat)(af:Int)(ai:List (Q4))(ax:Int)(aw:Int):Option (Int×Unit) :=
  iter (fun r y=>yE8 n (fun af ai ax aw=>r ((af,(ai,(ax,(aw,())))),((),()))) y.1.1 y.1.2.1 y.1.2.2.1 y.1.2.2.2.1) k ((af,(ai,(ax,(aw,())))),((),()))
def yJW(n:Nat)(l:List (Q4))(den:Int):Option (Int×Unit) :=
  (y6c n n (den) (l) ((↑l.length:Int)) ((0:Int)))
theorem yTu(n:Nat)(x:yQ5.den):runF yU9 (yLh n) Tryz.f117 yQ5 yWX x=yJW n x.1 x.2.1:=by kernel_rfl
def yBZ(ai:List (Q4))(aw:Int)(v1:Q4)(af:Int):Option ((Int×Unit)⊕(Int)) :=
  (Option.bind (yAA af [v1.1,v1.2.1]) fun v2=>(some (Sum.inr (v2.1))))
def yEV(ai:List (Q4))(af:Int):Option (Int×Unit) :=
  (some ((af,())))
theorem yCj(n:Nat)(hn:big≤n)(ai:List (Q4))(af:Int)(hx:List.length (ai) < lenMax):LeF some (yf (fun aj aB ah=>yBZ ai aj aB ah) (fun ah=>yEV ai ah) 0 (ai) af) (y6c n n af ai (List.length (ai):Int) 0):=by
  refine yn (f:=some) (W:=fun aH aj ah=>y6c n aH ah ai (List.length (ai):Int) aj) (body:=(fun aj aB ah=>yBZ ai aj aB ah)) (fin:=(fun ah=>yEV ai ah)) (fun aH aj ah=>?_) hx af n (by unfold big at hn;unfold lenMax at hx;omega)
  show LeF _ _ (yE8 n (y6c n aH) ah ai (List.length (ai):Int) aj)
  exact y9 (yB fun v1=>(yB fun v2=>(y8 rfl))) (y1F (y8 rfl))
def yBc(l:List (Q4))(den:Int):Option (Int×Unit) :=
  (bif decide (List.length (l) < lenMax)then yf (fun aj aB ah=>yBZ (l) aj aB ah) (fun ah=>yEV (l) ah) 0 (l) (den)else none)
theorem yOh(l:List (Q4))(den:Int)(y:Int×Unit)(h:yBc l den=some y):∃ n,yJW n l den=some y :=
  ⟨big,LeF.top (show LeF some (yBc l den) (yJW big l den)from (fun (n:Nat) (hn:big≤n)=>show LeF some (yBc l den) (yJW n l den)from (yr fun hx=>by apply yCj n hn;exact hx)) big (Nat.le_refl _)) h⟩
def z0X_e:Entry:={ f:=117,args:=yQ5,ress:=yWX,m:=fun x=>yBc x.1 x.2.1 }
theorem yLY:FnOK Tryz.prog z0X_e:=yJ (g:=yU9) (fn:=Tryz.f117) yE yI (y6 yLe eNil) (by kernel_rfl) (by kernel_rfl) (by kernel_rfl) (fun x y h=>let ⟨n,hn⟩:=yOh x.1 x.2.1 y h;⟨yLh n,iNil,(yTu n x).trans hn⟩)
abbrev zK_a:Ty:=.pair t183 .unit
abbrev zK_r:Ty:=.pair t57 .unit
def zK_g:G:={ T:=T,E:=[zS_e],muts:=[],fz:=[] }
def zK_k:List (List Nat):=[]
def yU3(n:Nat):Ann:={ keep:=zK_k,fuel:=n,inl:=[],deep:=0 }
def zK_m(n:Nat)(m:List (List (Q4))):Option ((Q4)×Unit) :=
  (Option.bind (y08 (8:Nat) (m,(0:Int),(0:Int),())) fun v0=>some ((v0.1.1,v0.1.2.1,()),()))
theorem yYn(n:Nat)(x:zK_a.den):runF zK_g (yU3 n) Tryz.f123 zK_a zK_r x=zK_m n x.1:=by kernel_rfl
def zK_M(m:List (List (Q4))):Option ((Q4)×Unit):=zK_m 0 m
theorem yQy(m:List (List (Q4)))(y:(Q4)×Unit)(h:zK_M m=some y):∃ n,zK_m n m=some y:=⟨0,h⟩
def zK_e:Entry:={ f:=123,args:=zK_a,ress:=zK_r,m:=fun x=>zK_M x.1 }
theorem yJt:FnOK Tryz.prog zK_e:=yJ (g:=zK_g) (fn:=Tryz.f123) yE yI (y6 yXQ eNil) (by kernel_rfl) (by kernel_rfl) (by kernel_rfl) (fun x y h=>let ⟨n,hn⟩:=yQy x.1 y h;⟨yU3 n,iNil,(yYn n x).trans hn⟩)
abbrev yQK:Ty:=.pair t3 (.pair t3 .unit)
abbrev yVl:Ty:=.pair t69 .unit
def yTd:G:={ T:=T,E:=[z0H_e],muts:=[],fz:=[] }
def yXY:List (List Nat):=[]
def yM5(n:Nat):Ann:={ keep:=yXY,fuel:=n,inl:=[],deep:=0 }
def yOf(n:Nat)(num:Int)(den:Int):Option ((Q4)×Unit) :=
  (Option.bind (yAA den [num]) fun v0=>(bif v0.1==0 then none else (bif v0.1==0 then none else some ((IntKind.i64.wrap (num.tdiv v0.1),IntKind.i64.wrap (den.tdiv v0.1),()),()))))
theorem yVj(n:Nat)(x:yQK.den):runF yTd (yM5 n) Tryz.f127 yQK yVl x=yOf n x.1 x.2.1:=by kernel_rfl
def yFY(num:Int)(den:Int):Option ((Q4)×Unit):=yOf 0 num den
theorem yQD(num:Int)(den:Int)(y:(Q4)×Unit)(h:yFY num den=some y):∃ n,yOf n num den=some y:=⟨0,h⟩
def z0v_e:Entry:={ f:=127,args:=yQK,ress:=yVl,m:=fun x=>yFY x.1 x.2.1 }
theorem yHP:FnOK Tryz.prog z0v_e:=yJ (g:=yTd) (fn:=Tryz.f127) yE yI (y6 yLe eNil) (by kernel_rfl) (by kernel_rfl) (by kernel_rfl) (fun x y h=>let ⟨n,hn⟩:=yQD x.1 x.2.1 y h;⟨yM5 n,iNil,(yVj n x).trans hn⟩)
abbrev yQ7:Ty:=.pair t35 (.pair t61 .unit)
abbrev yU7:Ty:=.pair t41 (.pair t28 .unit)
def ySB:G:={ T:=T,E:=[zI_e,zW_e,z0s_e],muts:=[7],fz:=[] }
def yXe:List (List Nat):=[[0,1,7,8,9]]
def yLz(n:Nat):Ann:={ keep:=yXe,fuel:=n,inl:=[],deep:=0 }
def yKn(n:Nat)(r2:List Nat→Nat→Int→Int→List Int→Option (List Int×Int×Unit))(aC:List Nat)(aa:Nat)(al:Int)(aA:Int)(aE:List Int):Option (List Int×Int×Unit) :=
  (bif decide (aA < (↑aC.length:Int))then (Option.bind (idx aC aA) fun v3=>(Option.bind (idx aC (IntKind.i64.wrap (aA - (1:Int)))) fun v4=>(bif y00 Go.BinOp.gtr Go.FloatKind.f32 (y0u Go.BinOp.mul Go.FloatKind.f32 aa (y0u Go.BinOp.sub Go.FloatKind.f32 v3 v4)) (nat_lit 0)then r2 aC aa aA (IntKind.i64.wrap (aA+1)) aE else (bif y00 Go.BinOp.lss Go.FloatKind.f32 (y0u Go.BinOp.mul Go.FloatKind.f32 aa (y0u Go.BinOp.sub Go.FloatKind.f32 v3 v4)) (nat_lit 0)then (bif decide (al ≥ 0)then (bif decide (aE.length+(1:Nat)≤memMax)then r2 aC aa (-1:Int) (IntKind.i64.wrap (aA+1)) (aE++[al])else none)else r2 aC aa (-1:Int) (IntKind.i64.wrap (aA+1)) aE)else r2 aC aa al (IntKind.i64.wrap (aA+1)) aE))))else some (aE,(0:Int),()))
def yIx(n:Nat)(k:Nat)(aC:List Nat)(aa:Nat)(al:Int)(aA:Int)(aE:List Int):Option (List Int×Int×Unit) :=
  iter (fun r y=>yKn n (fun aC aa al aA aE=>r ((aC,(aa,(al,(aA,())))),((aE,()),()))) y.1.1 y.1.2.1 y.1.2.2.1 y.1.2.2.2.1 y.2.1.1) k ((aC,(aa,(al,(aA,())))),((aE,()),()))
def yQI(n:Nat)(l:List Nat)(direction:Nat):Option (List Int×Int×Unit) :=
  (bif decide ((↑l.length:Int) > 4096)then some ([],(5:Int),())else (Option.bind (zI_M l fun (x:Nat×Unit)=>zW_M x.1) fun v0=>(Option.bind (y1h v0.1) fun v1=>(bif v1.1 != 0 then some ([],v1.1,())else (yIx n n (l) (direction) ((-1:Int)) ((1:Int)) ([]))))))
theorem ySg(n:Nat)(x:yQ7.den):runF ySB (yLz n) Tryz.f154 yQ7 yU7 x=yQI n x.1 x.2.1:=by kernel_rfl
def yJo(l:List Nat)(direction:Nat):Option (List Int×Int×Unit):=yQI 1000 l direction
theorem yQO(l:List Nat)(direction:Nat)(y:List Int×Int×Unit)(h:yJo l direction=some y):∃ n,yQI n l direction=some y:=⟨1000,h⟩
def z0a_e:Entry:={ f:=154,args:=yQ7,ress:=yU7,m:=fun x=>yJo x.1 x.2.1 }
theorem yLk:FnOK Tryz.prog z0a_e:=yJ (g:=ySB) (fn:=Tryz.f154) yE yI (y6 yZs (y6 ySf (y6 y3W eNil))) (by kernel_rfl) (by kernel_rfl) (by kernel_rfl) (fun x y h=>let ⟨n,hn⟩:=yQO x.1 x.2.1 y h;⟨yLz n,iNil,(ySg n x).trans hn⟩)
abbrev zM_a:Ty:=.pair t55 .unit
abbrev zM_r:Ty:=.pair t28 .unit
def zM_g:G:={ T:=T,E:=[z08_e,z16_e,z0b_e,z0s_e],muts:=[],fz:=[] }
def zM_k:List (List Nat):=[]
def yUz(n:Nat):Ann:={ keep:=zM_k,fuel:=n,inl:=[],deep:=0 }
def zM_m(n:Nat)(c:Q3):Option (Int×Unit) :=
  (Option.bind (yB0 c.1) fun v0=>(Option.bind (y1h [(z16 (!v0.1) (8:Int)).1,(z0b c.2.1 (1:Int) (96:Int)).1,(z0b c.2.2.1 (0:Int) (3:Int)).1]) fun v1=>some (v1.1,())))
theorem yZN(n:Nat)(x:zM_a.den):runF zM_g (yUz n) Tryz.f160 zM_a zM_r x=zM_m n x.1:=by kernel_rfl
def zM_M(c:Q3):Option (Int×Unit):=zM_m 0 c
theorem yW0(c:Q3)(y:Int×Unit)(h:zM_M c=some y):∃ n,zM_m n c=some y:=⟨0,h⟩
def zM_e:Entry:={ f:=160,args:=zM_a,ress:=zM_r,m:=fun x=>zM_M x.1 }
theorem yYI:FnOK Tryz.prog zM_e:=yJ (g:=zM_g) (fn:=Tryz.f160) yE yI (y6 yLd (y6 y4V (y6 y8x (y6 y3W eNil)))) (by kernel_rfl) (by kernel_rfl) (by kernel_rfl) (fun x y h=>let ⟨n,hn⟩:=yW0 x.1 y h;⟨yUz n,iNil,(yZN n x).trans hn⟩)
abbrev yNM:Ty:=.pair t55 (.pair (.ref t60) (.pair (.ref t31) (.pair (.ref t3) .unit)))
abbrev yRx:Ty:=.pair t57 .unit
def yWG:G:={ T:=T,E:=[z0t_e],muts:=[],fz:=[] }
def yXn:List (List Nat):=[]
def yLZ(n:Nat):Ann:={ keep:=yXn,fuel:=n,inl:=[],deep:=0 }
def yQN(n:Nat)(c:Q3)(p1:Q1)(p2:List (Q3))(p3:Int):Option ((Q4)×Unit) :=
  (Option.bind (idx p2 p3) fun v0=>(Option.bind (yGE p1 c v0) fun v1=>some ((v1.1.1,v1.1.2.1,()),())))
theorem yX7(n:Nat)(x:yNM.den):runF yWG (yLZ n) Tryz.f163 yNM yRx x=yQN n x.1 x.2.1 x.2.2.1 x.2.2.2.1:=by kernel_rfl
def yPz(c:Q3)(p1:Q1)(p2:List (Q3))(p3:Int):Option ((Q4)×Unit):=yQN 0 c p1 p2 p3
theorem yNN(c:Q3)(p1:Q1)(p2:List (Q3))(p3:Int)(y:(Q4)×Unit)(h:yPz c p1 p2 p3=some y):∃ n,yQN n c p1 p2 p3=some y:=⟨0,h⟩
def z04_e:Entry:={ f:=163,args:=yNM,ress:=yRx,m:=fun x=>yPz x.1 x.2.1 x.2.2.1 x.2.2.2.1 }
theorem yRZ:FnOK Tryz.prog z04_e:=yJ (g:=yWG) (fn:=Tryz.f163) yE yI (y6 yGI eNil) (by kernel_rfl) (by kernel_rfl) (by kernel_rfl) (fun x y h=>let ⟨n,hn⟩:=yNN x.1 x.2.1 x.2.2.1 x.2.2.2.1 y h;⟨yLZ n,iNil,(yX7 n x).trans hn⟩)
abbrev yPR:Ty:=.pair t210 (.pair t3 .unit)
abbrev yTa:Ty:=.pair t4 .unit
def yWp:G:={ T:=T,E:=[z17_e],muts:=[],fz:=[] }
def yZr:List (List Nat):=[]
def yLN(n:Nat):Ann:={ keep:=yZr,fuel:=n,inl:=[],deep:=0 }
def yK8(n:Nat)(f:Nat)(sign:Int):Option (Bool×Unit) :=
  (bif sign==0 then (Option.bind (absM f) fun v0=>some (y00 Go.BinOp.gtr Go.FloatKind.f64 v0.1 (nat_lit 9218868437227405311),()))else (bif decide (sign < 0)then some (y00 Go.BinOp.gtr Go.FloatKind.f64 (yEb Go.FloatKind.f64 f) (nat_lit 9218868437227405311),())else some (y00 Go.BinOp.gtr Go.FloatKind.f64 f (nat_lit 9218868437227405311),())))
theorem yW6(n:Nat)(x:yPR.den):runF yWp (yLN n) Tryz.f172 yPR yTa x=yK8 n x.1 x.2.1:=by kernel_rfl
def yHZ(f:Nat)(sign:Int):Option (Bool×Unit):=yK8 0 f sign
theorem yON(f:Nat)(sign:Int)(y:Bool×Unit)(h:yHZ f sign=some y):∃ n,yK8 n f sign=some y:=⟨0,h⟩
def z0h_e:Entry:={ f:=172,args:=yPR,ress:=yTa,m:=fun x=>yHZ x.1 x.2.1 }
theorem yUg:FnOK Tryz.prog z0h_e:=yJ (g:=yWp) (fn:=Tryz.f172) yE yI (y6 yV4 eNil) (by kernel_rfl) (by kernel_rfl) (by kernel_rfl) (fun x y h=>let ⟨n,hn⟩:=yON x.1 x.2.1 y h;⟨yLN n,iNil,(yW6 n x).trans hn⟩)
abbrev zo_a:Ty:=.pair t55 (.pair (.ref t60) (.pair (.ref t55) .unit))
abbrev zo_r:Ty:=.pair t57 .unit
def zo_g:G:={ T:=T,E:=[z0t_e],muts:=[],fz:=[] }
def zo_k:List (List Nat):=[]
def ySP(n:Nat):Ann:={ keep:=zo_k,fuel:=n,inl:=[],deep:=0 }
def zo_m(n:Nat)(b:Q3)(p1:Q1)(p2:Q3):Option ((Q4)×Unit) :=
  (Option.bind (yGE p1 p2 b) fun v0=>some ((v0.1.1,v0.1.2.1,()),()))
theorem yZt(n:Nat)(x:zo_a.den):runF zo_g (ySP n) Tryz.f193 zo_a zo_r x=zo_m n x.1 x.2.1 x.2.2.1:=by kernel_rfl
def zo_M(b:Q3)(p1:Q1)(p2:Q3):Option ((Q4)×Unit):=zo_m 0 b p1 p2
theorem yWN(b:Q3)(p1:Q1)(p2:Q3)(y:(Q4)×Unit)(h:zo_M b p1 p2=some y):∃ n,zo_m n b p1 p2=some y:=⟨0,h⟩
def zo_e:Entry:={ f:=193,args:=zo_a,ress:=zo_r,m:=fun x=>zo_M x.1 x.2.1 x.2.2.1 }
theorem yXa:FnOK Tryz.prog zo_e:=yJ (g:=zo_g) (fn:=Tryz.f193) yE yI (y6 yGI eNil) (by kernel_rfl) (by kernel_rfl) (by kernel_rfl) (fun x y h=>let ⟨n,hn⟩:=yWN x.1 x.2.1 x.2.2.1 y h;⟨ySP n,iNil,(yZt n x).trans hn⟩)
abbrev zU_a:Ty:=.pair t35 .unit
abbrev zU_r:Ty:=.pair t28 .unit
def zU_g:G:={ T:=T,E:=[zW_e],muts:=[],fz:=[] }
def zU_k:List (List Nat):=[[3,6,7,8]]
def yTB(n:Nat):Ann:={ keep:=zU_k,fuel:=n,inl:=[],deep:=0 }
def yQP(n:Nat)(r0:Int→List Nat→Int→Int→Option (Int×Unit))(au:Int)(aJ:List Nat)(ai:Int)(ax:Int):Option (Int×Unit) :=
  (bif decide (ax < ai)then (Option.bind (idx aJ ax) fun v1=>(Option.bind (zW_M v1) fun v2=>(bif v2.1 != 0 then some (v2.1,())else r0 v2.1 aJ ai (IntKind.i64.wrap (ax+1)))))else some (au,()))
def yOI(n:Nat)(k:Nat)(au:Int)(aJ:List Nat)(ai:Int)(ax:Int):Option (Int×Unit) :=
  iter (fun r y=>yQP n (fun au aJ ai ax=>r ((au,(aJ,(ai,(ax,())))),((),()))) y.1.1 y.1.2.1 y.1.2.2.1 y.1.2.2.2.1) k ((au,(aJ,(ai,(ax,())))),((),()))
def zU_m(n:Nat)(l:List Nat):Option (Int×Unit) :=
  (yOI n n ((0:Int)) (l) ((↑l.length:Int)) ((0:Int)))
theorem yYf(n:Nat)(x:zU_a.den):runF zU_g (yTB n) Tryz.f202 zU_a zU_r x=zU_m n x.1:=by kernel_rfl
def zU_M(l:List Nat):Option (Int×Unit):=zU_m 1000 l
theorem ySs(l:List Nat)(y:Int×Unit)(h:zU_M l=some y):∃ n,zU_m n l=some y:=⟨1000,h⟩
def zU_e:Entry:={ f:=202,args:=zU_a,ress:=zU_r,m:=fun x=>zU_M x.1 }
theorem yXL:FnOK Tryz.prog zU_e:=yJ (g:=zU_g) (fn:=Tryz.f202) yE yI (y6 ySf eNil) (by kernel_rfl) (by kernel_rfl) (by kernel_rfl) (fun x y h=>let ⟨n,hn⟩:=ySs x.1 y h;⟨yTB n,iNil,(yYf n x).trans hn⟩)
abbrev zX_a:Ty:=.pair t58 .unit
abbrev zX_r:Ty:=.pair t28 .unit
def zX_g:G:={ T:=T,E:=[zg_e,z0c_e,z0L_e],muts:=[],fz:=[] }
def zX_k:List (List Nat):=[[0,9,10,11]]
def yRg(n:Nat):Ann:={ keep:=zX_k,fuel:=n,inl:=[],deep:=0 }
def yQd(n:Nat)(r0:List (Q4)→List (Q4)→Int→Int→Option (Int×Unit))(ac:List (Q4))(aw:List (Q4))(aD:Int)(ar:Int):Option (Int×Unit) :=
  (bif decide (ar < aD)then (Option.bind (idx aw ar) fun v1=>(bif decide (ar > 0)then (Option.bind (idx ac (if Bool.true=Bool.true then if IntKind.i64.wrap (ar - (1:Int)) > 0 then IntKind.i64.wrap (ar - (1:Int))else (0:Int)else if IntKind.i64.wrap (ar - (1:Int)) < 0 then IntKind.i64.wrap (ar - (1:Int))else (0:Int))) fun v2=>(Option.bind (yFi [(zg (v1.1,v1.2.1,())).1,(z0c (decide (v1.1≤v2.2.1)) (11:Int)).1]) fun v3=>(bif v3.1 != 0 then some (v3.1,())else r0 ac aw aD (IntKind.i64.wrap (ar+1)))))else (Option.bind (yFi [(zg (v1.1,v1.2.1,())).1,(z0c Bool.false (11:Int)).1]) fun v4=>(bif v4.1 != 0 then some (v4.1,())else r0 ac aw aD (IntKind.i64.wrap (ar+1))))))else some ((0:Int),()))
def yMy(n:Nat)(k:Nat)(ac:List (Q4))(aw:List (Q4))(aD:Int)(ar:Int):Option (Int×Unit) :=
  iter (fun r y=>yQd n (fun ac aw aD ar=>r ((ac,(aw,(aD,(ar,())))),((),()))) y.1.1 y.1.2.1 y.1.2.2.1 y.1.2.2.2.1) k ((ac,(aw,(aD,(ar,())))),((),()))
def zX_m(n:Nat)(l:List (Q4)):Option (Int×Unit) :=
  (bif decide ((↑l.length:Int) > 2048)then some ((5:Int),())else (yMy n n (l) (l) ((↑l.length:Int)) ((0:Int))))
theorem yYw(n:Nat)(x:zX_a.den):runF zX_g (yRg n) Tryz.f203 zX_a zX_r x=zX_m n x.1:=by kernel_rfl
def zX_M(l:List (Q4)):Option (Int×Unit):=zX_m 1000 l
theorem yUU(l:List (Q4))(y:Int×Unit)(h:zX_M l=some y):∃ n,zX_m n l=some y:=⟨1000,h⟩
def zX_e:Entry:={ f:=203,args:=zX_a,ress:=zX_r,m:=fun x=>zX_M x.1 }
theorem yYa:FnOK Tryz.prog zX_e:=yJ (g:=zX_g) (fn:=Tryz.f203) yE yI (y6 yYt (y6 yAZ (y6 yMG eNil))) (by kernel_rfl) (by kernel_rfl) (by kernel_rfl) (fun x y h=>let ⟨n,hn⟩:=yUU x.1 y h;⟨yRg n,iNil,(yYw n x).trans hn⟩)
abbrev zQ_a:Ty:=.pair t63 (.pair (.ref t60) .unit)
abbrev zQ_r:Ty:=.pair t4 .unit
def zQ_g:G:={ T:=T,E:=[zC_e,zO_e],muts:=[],fz:=[] }
def zQ_k:List (List Nat):=[]
def yUF(n:Nat):Ann:={ keep:=zQ_k,fuel:=n,inl:=[],deep:=0 }
def zQ_m(n:Nat)(s:Q4)(p1:Q1):Option (Bool×Unit) :=
  (bif decide ((0:Int)≤s.1) && decide (s.1≤s.2.1) && decide (s.2.1≤(↑p1.2.2.1.length:Int))then (Option.bind (zC_M (List.drop s.1.toNat (List.take s.2.1.toNat p1.2.2.1)) fun (x:Nat×Unit)=>zO_M x.1) fun v0=>some (v0.1,()))else none)
theorem yZU(n:Nat)(x:zQ_a.den):runF zQ_g (yUF n) Tryz.f206 zQ_a zQ_r x=zQ_m n x.1 x.2.1:=by kernel_rfl
def zQ_M(s:Q4)(p1:Q1):Option (Bool×Unit):=zQ_m 0 s p1
theorem yWT(s:Q4)(p1:Q1)(y:Bool×Unit)(h:zQ_M s p1=some y):∃ n,zQ_m n s p1=some y:=⟨0,h⟩
def zQ_e:Entry:={ f:=206,args:=zQ_a,ress:=zQ_r,m:=fun x=>zQ_M x.1 x.2.1 }
theorem yYX:FnOK Tryz.prog zQ_e:=yJ (g:=zQ_g) (fn:=Tryz.f206) yE yI (y6 yYe (y6 yXo eNil)) (by kernel_rfl) (by kernel_rfl) (by kernel_rfl) (fun x y h=>let ⟨n,hn⟩:=yWT x.1 x.2.1 y h;⟨yUF n,iNil,(yZU n x).trans hn⟩)
end
end Go.Tw
end
section
set_option maxRecDepth 1000000
namespace Go.Tw
open Go.Vx Go.Vx.B Go.Proofs
noncomputable section
abbrev zj_a:Ty:=.pair t25 .unit
abbrev zj_r:Ty:=.pair t3 .unit
def zj_g:G:={ T:=T,E:=[zJ_e,za_e,zi_e,z0B_e],muts:=[],fz:=[] }
def zj_k:List (List Nat):=[[1,5]]
def yRv(n:Nat):Ann:={ keep:=zj_k,fuel:=n,inl:=[],deep:=0 }
def yH3(n:Nat)(r1:Q2→Int→Option (Int×Unit))(am:Q2)(aI:Int):Option (Int×Unit) :=
  (bif decide (aI < (↑am.2.1.length:Int))then (Option.bind (idx am.2.1 aI) fun v2=>(Option.bind (zi_M v2) fun v3=>(bif v3.1 != 0 then some (v3.1,())else r1 am (IntKind.i64.wrap (aI+1)))))else (Option.bind (yBs am.2.1 am.2.2.1) fun v4=>(bif v4.1 != 1 then some ((1:Int),())else some ((0:Int),()))))
def y9X(n:Nat)(k:Nat)(am:Q2)(aI:Int):Option (Int×Unit) :=
  iter (fun r y=>yH3 n (fun am aI=>r ((am,(aI,())),((),()))) y.1.1 y.1.2.1) k ((am,(aI,())),((),()))
def zj_m(n:Nat)(t:Q2):Option (Int×Unit) :=
  (Option.bind (zJ_M t.1) fun v0=>(bif v0.1 != 0 then some (v0.1,())else (bif (↑t.2.1.length:Int) != (↑t.1.length:Int)then some ((2:Int),())else (bif (za t.2.2.1 (1:Int) (268435456:Int)).1 != 0 then some ((za t.2.2.1 (1:Int) (268435456:Int)).1,())else (y9X n n (t) ((0:Int)))))))
theorem yZ8(n:Nat)(x:zj_a.den):runF zj_g (yRv n) Tryz.f23 zj_a zj_r x=zj_m n x.1:=by kernel_rfl
def yGi(am:Q2)(aI:Int)(v2:Q4):Option ((Int×Unit)⊕Unit) :=
  (Option.bind (zi_M v2) fun v3=>(bif v3.1 != 0 then (some (Sum.inl ((v3.1,()))))else (some (Sum.inr ()))))
def yEh(am:Q2):Option (Int×Unit) :=
  (Option.bind (yBs am.2.1 am.2.2.1) fun v4=>(bif v4.1 != 1 then (some (((1:Int),())))else (some (((0:Int),())))))
theorem yEf(n:Nat)(hn:big≤n)(am:Q2)(hx:List.length (am.2.1) < lenMax):LeF some (yf (fun aj aB ah=>yGi am aj aB) (fun ah=>yEh am) 0 (am.2.1) ()) (y9X n n am 0):=by
  refine yn (f:=some) (W:=fun aH aj ah=>y9X n aH am aj) (body:=(fun aj aB ah=>yGi am aj aB)) (fin:=(fun ah=>yEh am)) (fun aH aj ah=>?_) hx () n (by unfold big at hn;unfold lenMax at hx;omega)
  show LeF _ _ (yH3 n (y9X n aH) am aj)
  exact y9 (yB fun v2=>(yB fun v3=>(y9 (y8 rfl) (y8 rfl)))) (y1F (yB fun v4=>(y9 (y8 rfl) (y8 rfl))))
def zj_M(t:Q2):Option (Int×Unit) :=
  (Option.bind (zJ_M t.1) fun v0=>(bif v0.1 != 0 then (some ((v0.1,())))else (bif (↑t.2.1.length:Int) != (↑t.1.length:Int)then (some (((2:Int),())))else (bif (za t.2.2.1 (1:Int) (268435456:Int)).1 != 0 then (some (((za t.2.2.1 (1:Int) (268435456:Int)).1,())))else (bif decide (List.length (t.2.1) < lenMax)then yf (fun aj aB ah=>yGi (t) aj aB) (fun ah=>yEh (t)) 0 (t.2.1) ()else none)))))
theorem yQr(t:Q2)(y:Int×Unit)(h:zj_M t=some y):∃ n,zj_m n t=some y :=
  ⟨big,LeF.top (show LeF some (zj_M t) (zj_m big t)from (fun (n:Nat) (hn:big≤n)=>show LeF some (zj_M t) (zj_m n t)from (yB fun v0=>(y9 (y8 rfl) (y9 (y8 rfl) (y9 (y8 rfl) (yr fun hx=>by apply yEf n hn;exact hx)))))) big (Nat.le_refl _)) h⟩
def zj_e:Entry:={ f:=23,args:=zj_a,ress:=zj_r,m:=fun x=>zj_M x.1 }
theorem yYF:FnOK Tryz.prog zj_e:=yJ (g:=zj_g) (fn:=Tryz.f23) yE yI (y6 yYG (y6 yQS (y6 yZh (y6 yRV eNil)))) (by kernel_rfl) (by kernel_rfl) (by kernel_rfl) (fun x y h=>let ⟨n,hn⟩:=yQr x.1 y h;⟨yRv n,iNil,(yZ8 n x).trans hn⟩)
abbrev yOW:Ty:=.pair t35 .unit
abbrev yV5:Ty:=.pair t41 (.pair t28 .unit)
def yVz:G:={ T:=T,E:=[z0a_e],muts:=[],fz:=[] }
def yYv:List (List Nat):=[]
def yLn(n:Nat):Ann:={ keep:=yYv,fuel:=n,inl:=[],deep:=0 }
def yQF(n:Nat)(l:List Nat):Option (List Int×Int×Unit) :=
  (Option.bind (yJo l (nat_lit 1065353216)) fun v0=>some (v0.1,v0.2.1,()))
theorem yWO(n:Nat)(x:yOW.den):runF yVz (yLn n) Tryz.f71 yOW yV5 x=yQF n x.1:=by kernel_rfl
def yMj(l:List Nat):Option (List Int×Int×Unit):=yQF 0 l
theorem yNT(l:List Nat)(y:List Int×Int×Unit)(h:yMj l=some y):∃ n,yQF n l=some y:=⟨0,h⟩
def z0l_e:Entry:={ f:=71,args:=yOW,ress:=yV5,m:=fun x=>yMj x.1 }
theorem yWL:FnOK Tryz.prog z0l_e:=yJ (g:=yVz) (fn:=Tryz.f71) yE yI (y6 yLk eNil) (by kernel_rfl) (by kernel_rfl) (by kernel_rfl) (fun x y h=>let ⟨n,hn⟩:=yNT x.1 y h;⟨yLn n,iNil,(yWO n x).trans hn⟩)
abbrev yN8:Ty:=.pair t35 .unit
abbrev yWR:Ty:=.pair t41 (.pair t28 .unit)
def yWi:G:={ T:=T,E:=[z0a_e],muts:=[],fz:=[] }
def yYr:List (List Nat):=[]
def yM8(n:Nat):Ann:={ keep:=yYr,fuel:=n,inl:=[],deep:=0 }
def yPD(n:Nat)(l:List Nat):Option (List Int×Int×Unit) :=
  (Option.bind (yJo l (nat_lit 3212836864)) fun v0=>some (v0.1,v0.2.1,()))
theorem yT3(n:Nat)(x:yN8.den):runF yWi (yM8 n) Tryz.f72 yN8 yWR x=yPD n x.1:=by kernel_rfl
def yOE(l:List Nat):Option (List Int×Int×Unit):=yPD 0 l
theorem yMe(l:List Nat)(y:List Int×Int×Unit)(h:yOE l=some y):∃ n,yPD n l=some y:=⟨0,h⟩
def z12_e:Entry:={ f:=72,args:=yN8,ress:=yWR,m:=fun x=>yOE x.1 }
theorem yV1:FnOK Tryz.prog z12_e:=yJ (g:=yWi) (fn:=Tryz.f72) yE yI (y6 yLk eNil) (by kernel_rfl) (by kernel_rfl) (by kernel_rfl) (fun x y h=>let ⟨n,hn⟩:=yMe x.1 y h;⟨yM8 n,iNil,(yT3 n x).trans hn⟩)
abbrev zL_a:Ty:=.pair t31 .unit
abbrev zL_r:Ty:=.pair t28 .unit
def zL_g:G:={ T:=T,E:=[z16_e,z0s_e,zM_e],muts:=[21],fz:=[] }
def zL_k:List (List Nat):=[[4,22,23,24]]
def yVF(n:Nat):Ann:={ keep:=zL_k,fuel:=n,inl:=[],deep:=0 }
def yIV(n:Nat)(r1:List (Q3)→Int→Int→List (List UInt8×Bool)→Option (Int×Unit))(ae:List (Q3))(aF:Int)(az:Int)(ay:List (List UInt8×Bool)):Option (Int×Unit) :=
  (bif decide (az < aF)then (Option.bind (idx ae az) fun v2=>(Option.bind (zM_M (v2.1,v2.2.1,v2.2.2.1,())) fun v3=>(Option.bind (y1h [v3.1,(z16 ((y0D Ty.str Ty.bool ay v2.1).getD Bool.false) (9:Int)).1]) fun v4=>(bif v4.1 != 0 then some (v4.1,())else r1 ae aF (IntKind.i64.wrap (az+1)) (y0U Ty.str Ty.bool ay v2.1 Bool.true)))))else some ((0:Int),()))
def yA3(n:Nat)(k:Nat)(ae:List (Q3))(aF:Int)(az:Int)(ay:List (List UInt8×Bool)):Option (Int×Unit) :=
  iter (fun r y=>yIV n (fun ae aF az ay=>r ((ae,(aF,(az,()))),((ay,()),()))) y.1.1 y.1.2.1 y.1.2.2.1 y.2.1.1) k ((ae,(aF,(az,()))),((ay,()),()))
def zL_m(n:Nat)(l:List (Q3)):Option (Int×Unit) :=
  (Option.bind (y1h [(z16 ((↑l.length:Int)==0) (12:Int)).1,(z16 (decide ((↑l.length:Int) > 4)) (5:Int)).1]) fun v0=>(bif v0.1 != 0 then some (v0.1,())else (yA3 n n (l) ((↑l.length:Int)) ((0:Int)) ([]))))
theorem yXf(n:Nat)(x:zL_a.den):runF zL_g (yVF n) Tryz.f88 zL_a zL_r x=zL_m n x.1:=by kernel_rfl
def yEs(ae:List (Q3))(az:Int)(v2:Q3)(ay:List (List UInt8×Bool)):Option ((Int×Unit)⊕(List (List UInt8×Bool))) :=
  (Option.bind (zM_M (v2.1,v2.2.1,v2.2.2.1,())) fun v3=>(Option.bind (y1h [v3.1,(z16 ((y0D Ty.str Ty.bool ay v2.1).getD Bool.false) (9:Int)).1]) fun v4=>(bif v4.1 != 0 then (some (Sum.inl ((v4.1,()))))else (some (Sum.inr (y0U Ty.str Ty.bool ay v2.1 Bool.true))))))
def yJE(ae:List (Q3))(ay:List (List UInt8×Bool)):Option (Int×Unit) :=
  (some (((0:Int),())))
theorem yFP(n:Nat)(hn:big≤n)(ae:List (Q3))(ay:List (List UInt8×Bool))(hx:List.length (ae) < lenMax):LeF some (yf (fun aj aB ah=>yEs ae aj aB ah) (fun ah=>yJE ae ah) 0 (ae) ay) (yA3 n n ae (List.length (ae):Int) 0 ay):=by
  refine yn (f:=some) (W:=fun aH aj ah=>yA3 n aH ae (List.length (ae):Int) aj ah) (body:=(fun aj aB ah=>yEs ae aj aB ah)) (fin:=(fun ah=>yJE ae ah)) (fun aH aj ah=>?_) hx ay n (by unfold big at hn;unfold lenMax at hx;omega)
  show LeF _ _ (yIV n (yA3 n aH) ae (List.length (ae):Int) aj ah)
  exact y9 (yB fun v2=>(yB fun v3=>(yB fun v4=>(y9 (y8 rfl) (y8 rfl))))) (y1F (y8 rfl))
def zL_M(l:List (Q3)):Option (Int×Unit) :=
  (Option.bind (y1h [(z16 ((↑l.length:Int)==0) (12:Int)).1,(z16 (decide ((↑l.length:Int) > 4)) (5:Int)).1]) fun v0=>(bif v0.1 != 0 then (some ((v0.1,())))else (bif decide (List.length (l) < lenMax)then yf (fun aj aB ah=>yEs (l) aj aB ah) (fun ah=>yJE (l) ah) 0 (l) ([])else none)))
theorem yW1(l:List (Q3))(y:Int×Unit)(h:zL_M l=some y):∃ n,zL_m n l=some y :=
  ⟨big,LeF.top (show LeF some (zL_M l) (zL_m big l)from (fun (n:Nat) (hn:big≤n)=>show LeF some (zL_M l) (zL_m n l)from (yB fun v0=>(y9 (y8 rfl) (yr fun hx=>by apply yFP n hn;exact hx)))) big (Nat.le_refl _)) h⟩
def zL_e:Entry:={ f:=88,args:=zL_a,ress:=zL_r,m:=fun x=>zL_M x.1 }
theorem yPE:FnOK Tryz.prog zL_e:=yJ (g:=zL_g) (fn:=Tryz.f88) yE yI (y6 y4V (y6 y3W (y6 yYI eNil))) (by kernel_rfl) (by kernel_rfl) (by kernel_rfl) (fun x y h=>let ⟨n,hn⟩:=yW1 x.1 y h;⟨yVF n,iNil,(yXf n x).trans hn⟩)
abbrev zZ_a:Ty:=.pair t61 .unit
abbrev zZ_r:Ty:=.pair t3 .unit
def zZ_g:G:={ T:=T,E:=[z0i_e,z0h_e,z0g_e],muts:=[],fz:=[] }
def zZ_k:List (List Nat):=[]
def yWx(n:Nat):Ann:={ keep:=zZ_k,fuel:=n,inl:=[],deep:=0 }
def zZ_m(n:Nat)(xp:Nat):Option (Int×Unit) :=
  (Option.bind (y1s Go.FloatKind.f32 xp Go.FloatKind.f64) fun v0=>(bif (z0i v0).1 then some ((1:Int),())else (Option.bind (yHZ v0 (0:Int)) fun v1=>(bif v1.1 then some ((1:Int),())else (bif y00 Go.BinOp.gtr Go.FloatKind.f64 v0 (nat_lit 4634204016564240384)then some ((3:Int),())else (bif y00 Go.BinOp.lss Go.FloatKind.f64 v0 (nat_lit 13857576053419016192)then some ((3:Int),())else (Option.bind (y7M (y0u Go.BinOp.mul Go.FloatKind.f64 (nat_lit 4625196817309499392) v0)) fun v4=>(bif y00 Go.BinOp.neq Go.FloatKind.f64 (y0u Go.BinOp.mul Go.FloatKind.f64 (nat_lit 4625196817309499392) v0) v4.1 then some ((3:Int),())else some ((0:Int),())))))))))
theorem yZG(n:Nat)(x:zZ_a.den):runF zZ_g (yWx n) Tryz.f96 zZ_a zZ_r x=zZ_m n x.1:=by kernel_rfl
def zZ_M(xp:Nat):Option (Int×Unit):=zZ_m 0 xp
theorem yRJ(xp:Nat)(y:Int×Unit)(h:zZ_M xp=some y):∃ n,zZ_m n xp=some y:=⟨0,h⟩
def zZ_e:Entry:={ f:=96,args:=zZ_a,ress:=zZ_r,m:=fun x=>zZ_M x.1 }
theorem yYT:FnOK Tryz.prog zZ_e:=yJ (g:=zZ_g) (fn:=Tryz.f96) yE yI (y6 ySx (y6 yUg (y6 yTq eNil))) (by kernel_rfl) (by kernel_rfl) (by kernel_rfl) (fun x y h=>let ⟨n,hn⟩:=yRJ x.1 y h;⟨yWx n,iNil,(yZG n x).trans hn⟩)
abbrev yOj:Ty:=.pair t31 (.pair t23 (.pair t3 .unit))
abbrev ySt:Ty:=.pair t33 .unit
def yTV:G:={ T:=T,E:=[z0X_e,z7_e,zz_e,z00_e,zG_e],muts:=[],fz:=[7] }
def yZe:List (List Nat):=[]
def yMc(n:Nat):Ann:={ keep:=yZe,fuel:=n,inl:=[],deep:=0 }
def yJe(n:Nat)(l:List (Q3))(amplitudes:List (Q4))(den:Int):Option ((Q2)×Unit) :=
  (Option.bind (yBc amplitudes den) fun v0=>(Option.bind (z7_M l fun (x:(Q3)×Unit)=>zz_M x.1) fun v1=>(Option.bind (zG_M amplitudes fun (x:(Q4)×Unit)=>yH5 x.1 v0.1) fun v2=>(bif v0.1==0 then none else some ((v1.1,v2.1,IntKind.i64.wrap (den.tdiv v0.1),()),())))))
theorem ySv(n:Nat)(x:yOj.den):runF yTV (yMc n) Tryz.f121 yOj ySt x=yJe n x.1 x.2.1 x.2.2.1:=by kernel_rfl
def yAU(l:List (Q3))(amplitudes:List (Q4))(den:Int):Option ((Q2)×Unit):=yJe 0 l amplitudes den
theorem yQR(l:List (Q3))(amplitudes:List (Q4))(den:Int)(y:(Q2)×Unit)(h:yAU l amplitudes den=some y):∃ n,yJe n l amplitudes den=some y:=⟨0,h⟩
def z0J_e:Entry:={ f:=121,args:=yOj,ress:=ySt,m:=fun x=>yAU x.1 x.2.1 x.2.2.1 }
theorem yG8:FnOK Tryz.prog z0J_e:=yJ (g:=yTV) (fn:=Tryz.f121) yE yI (y6 yLY (y6 yWV (y6 yYp (y6 yUW (y6 yPd eNil))))) (by kernel_rfl) (by kernel_rfl) (by kernel_rfl) (fun x y h=>let ⟨n,hn⟩:=yQR x.1 x.2.1 x.2.2.1 y h;⟨yMc n,iNil,(ySv n x).trans hn⟩)
abbrev yNj:Ty:=.pair t3 .unit
abbrev yUG:Ty:=.pair t69 .unit
def yWY:G:={ T:=T,E:=[z06_e,z0v_e],muts:=[],fz:=[] }
def yXT:List (List Nat):=[]
def yMO(n:Nat):Ann:={ keep:=yXT,fuel:=n,inl:=[],deep:=0 }
def yKU(n:Nat)(year:Int):Option ((Q4)×Unit) :=
  (Option.bind (yFY (IntKind.i64.wrap ((104:Int) - (z06 (IntKind.i64.wrap (year.tmod (16:Int) - (8:Int)))).1)) (100:Int)) fun v0=>some ((v0.1.1,v0.1.2.1,()),()))
theorem yWu(n:Nat)(x:yNj.den):runF yWY (yMO n) Tryz.f136 yNj yUG x=yKU n x.1:=by kernel_rfl
def yF8(year:Int):Option ((Q4)×Unit):=yKU 0 year
theorem yPu(year:Int)(y:(Q4)×Unit)(h:yF8 year=some y):∃ n,yKU n year=some y:=⟨0,h⟩
def z0u_e:Entry:={ f:=136,args:=yNj,ress:=yUG,m:=fun x=>yF8 x.1 }
theorem yM0:FnOK Tryz.prog z0u_e:=yJ (g:=yWY) (fn:=Tryz.f136) yE yI (y6 yAp (y6 yHP eNil)) (by kernel_rfl) (by kernel_rfl) (by kernel_rfl) (fun x y h=>let ⟨n,hn⟩:=yPu x.1 y h;⟨yMO n,iNil,(yWu n x).trans hn⟩)
abbrev zT_a:Ty:=.pair t60 .unit
abbrev zT_r:Ty:=.pair t28 .unit
def zT_g:G:={ T:=T,E:=[z08_e,z0c_e,z09_e,z0L_e,zU_e,zX_e,zP_e,zB_e,zQ_e],muts:=[],fz:=[] }
def zT_k:List (List Nat):=[]
def yU6(n:Nat):Ann:={ keep:=zT_k,fuel:=n,inl:=[],deep:=0 }
def zT_m(n:Nat)(rp:Q1):Option (Int×Unit) :=
  (Option.bind (yB0 rp.1) fun v0=>(Option.bind (yFi [(z0c (!v0.1) (8:Int)).1,(z09 rp.2.1 (0:Int) (100000:Int)).1,(z0c (decide ((↑rp.2.2.1.length:Int) > 4096)) (5:Int)).1]) fun v1=>(bif v1.1 != 0 then some (v1.1,())else (Option.bind (zU_M rp.2.2.1) fun v2=>(Option.bind (zX_M rp.2.2.2.1) fun v3=>(Option.bind (yFi [v2.1,v3.1]) fun v4=>(bif v4.1 != 0 then some (v4.1,())else (Option.bind (zB_M rp.2.2.2.1 fun (x:(Q4)×Unit)=>zP_M x.1 rp) fun v5=>(bif v5.1 then some ((14:Int),())else (Option.bind (zB_M rp.2.2.2.1 fun (x:(Q4)×Unit)=>zQ_M x.1 rp) fun v6=>some ((z0c v6.1 (1:Int)).1,())))))))))))
theorem yZL(n:Nat)(x:zT_a.den):runF zT_g (yU6 n) Tryz.f157 zT_a zT_r x=zT_m n x.1:=by kernel_rfl
def zT_M(rp:Q1):Option (Int×Unit):=zT_m 0 rp
theorem ySM(rp:Q1)(y:Int×Unit)(h:zT_M rp=some y):∃ n,zT_m n rp=some y:=⟨0,h⟩
def zT_e:Entry:={ f:=157,args:=zT_a,ress:=zT_r,m:=fun x=>zT_M x.1 }
theorem yY3:FnOK Tryz.prog zT_e:=yJ (g:=zT_g) (fn:=Tryz.f157) yE yI (y6 yLd (y6 yAZ (y6 yQx (y6 yMG (y6 yXL (y6 yYa (y6 yYq (y6 yY1 (y6 yYX eNil))))))))) (by kernel_rfl) (by kernel_rfl) (by kernel_rfl) (fun x y h=>let ⟨n,hn⟩:=ySM x.1 y h;⟨yU6 n,iNil,(yZL n x).trans hn⟩)
abbrev yPj:Ty:=.pair t55 (.pair (.ref t31) (.pair (.ref t60) .unit))
abbrev yTH:Ty:=.pair t23 .unit
def yUO:G:={ T:=T,E:=[zo_e,zA_e],muts:=[],fz:=[] }
def yZY:List (List Nat):=[]
def yM1(n:Nat):Ann:={ keep:=yZY,fuel:=n,inl:=[],deep:=0 }
def yPr(n:Nat)(a:Q3)(p1:List (Q3))(p2:Q1):Option (List (Q4)×Unit) :=
  (Option.bind (zA_M p1 fun (x:(Q3)×Unit)=>zo_M x.1 p2 a) fun v0=>some (v0.1,()))
theorem yTJ(n:Nat)(x:yPj.den):runF yUO (yM1 n) Tryz.f192 yPj yTH x=yPr n x.1 x.2.1 x.2.2.1:=by kernel_rfl
def yNa(a:Q3)(p1:List (Q3))(p2:Q1):Option (List (Q4)×Unit):=yPr 0 a p1 p2
theorem yNG(a:Q3)(p1:List (Q3))(p2:Q1)(y:List (Q4)×Unit)(h:yNa a p1 p2=some y):∃ n,yPr n a p1 p2=some y:=⟨0,h⟩
def z07_e:Entry:={ f:=192,args:=yPj,ress:=yTH,m:=fun x=>yNa x.1 x.2.1 x.2.2.1 }
theorem yRM:FnOK Tryz.prog z07_e:=yJ (g:=yUO) (fn:=Tryz.f192) yE yI (y6 yXa (y6 yPq eNil)) (by kernel_rfl) (by kernel_rfl) (by kernel_rfl) (fun x y h=>let ⟨n,hn⟩:=yNG x.1 x.2.1 x.2.2.1 y h;⟨yM1 n,iNil,(yTJ n x).trans hn⟩)
end
end Go.Tw
end
