import Derived.Test.YtpcnkpbpcebokaaGreatDoorBT
import Derived.Test.YtpcnkpbpcebokaaGreatDoorB0
import Derived.Test.YtpcnkpbpcebokaaGreatDoorBS
import Derived.Test.YtpcnkpbpcebokaaGreatDoorLQ
import Derived.Test.YtpcnkpbpcebokaaGreatDoorLR
import Derived.Test.YtpcnkpbpcebokaaGreatDoorBA
import Derived.Test.YtpcnkpbpcebokaaGreatDoorBC
set_option linter.all false
section
set_option maxRecDepth 1000000
namespace Go.Tw
open Go.Vx Go.Vx.B Go.Proofs
noncomputable section
abbrev ySS:Ty:=.pair t33 .unit
abbrev yT1:Ty:=.pair t28 .unit
def yZu:G:={ T:=T,E:=[zL_e,z1M_e,z0p_e,zF_e,z04_e,z16_e,z0l_e],muts:=[],fz:=[] }
def yaR:List (List Nat):=[]
def yMl(n:Nat):Ann:={ keep:=yaR,fuel:=n,inl:=[],deep:=0 }
def yMC(n:Nat)(t:Q2):Option (Int×Unit) :=
  (Option.bind (zL_M t.1) fun v0=>(Option.bind (zF_M t.2.1 fun (x:(Q4)×Unit)=>yCj x.1) fun v1=>(Option.bind (y1y v1.1) fun v2=>(Option.bind (y1y [v0.1,(z1M ((↑t.2.1.length:Int) != (↑t.1.length:Int)) (2:Int)).1,(z0p t.2.2.1 (1:Int) (268435456:Int)).1,v2.1]) fun v3=>(bif v3.1 != 0 then some (v3.1,())else (Option.bind (yCP t.2.1 t.2.2.1) fun v4=>some ((z1M (v4.1 != 1) (1:Int)).1,())))))))
theorem yXU(n:Nat)(x:ySS.den):runF yZu (yMl n) Tryz.f28 ySS yT1 x=yMC n x.1:=by kernel_rfl
def y8C(t:Q2):Option (Int×Unit):=yMC 0 t
theorem yPc(t:Q2)(y:Int×Unit)(h:y8C t=some y):∃ n,yMC n t=some y:=⟨0,h⟩
def z03_e:Entry:={ f:=28,args:=ySS,ress:=yT1,m:=fun x=>y8C x.1 }
theorem yEi:FnOK Tryz.prog z03_e:=yJ (g:=yZu) (fn:=Tryz.f28) yB yI (y8 yUo (y8 y6H (y8 yCO (y8 yYV (y8 yWv (y8 y4J (y8 yOK eNil))))))) (by kernel_rfl) (by kernel_rfl) (by kernel_rfl) (fun x y h=>let ⟨n,hn⟩:=yPc x.1 y h;⟨yMl n,iNil,(yXU n x).trans hn⟩)
abbrev yRj:Ty:=.pair t3 .unit
abbrev yZI:Ty:=.pair t69 (.pair t28 .unit)
def yYh:G:={ T:=T,E:=[z0p_e,z18_e],muts:=[],fz:=[] }
def ybD:List (List Nat):=[]
def yMm(n:Nat):Ann:={ keep:=ybD,fuel:=n,inl:=[],deep:=0 }
def yQx(n:Nat)(year:Int):Option ((Q4)×Int×Unit) :=
  (bif (z0p year (0:Int) (9999:Int)).1 != 0 then some (((0:Int),(0:Int),()),(z0p year (0:Int) (9999:Int)).1,())else (Option.bind (yPv year) fun v0=>some ((v0.1.1,v0.1.2.1,()),(0:Int),())))
theorem yUJ(n:Nat)(x:yRj.den):runF yYh (yMm n) Tryz.f41 yRj yZI x=yQx n x.1:=by kernel_rfl
def yS3(year:Int):Option ((Q4)×Int×Unit):=yQx 0 year
theorem yPF(year:Int)(y:(Q4)×Int×Unit)(h:yS3 year=some y):∃ n,yQx n year=some y:=⟨0,h⟩
def z13_e:Entry:={ f:=41,args:=yRj,ress:=yZI,m:=fun x=>yS3 x.1 }
theorem yUu:FnOK Tryz.prog z13_e:=yJ (g:=yYh) (fn:=Tryz.f41) yB yI (y8 yCO (y8 yYQ eNil)) (by kernel_rfl) (by kernel_rfl) (by kernel_rfl) (fun x y h=>let ⟨n,hn⟩:=yPF x.1 y h;⟨yMm n,iNil,(yUJ n x).trans hn⟩)
abbrev zz_a:Ty:=.pair t94 (.pair t25 .unit)
abbrev zz_r:Ty:=.pair t69 .unit
def zz_g:G:={ T:=T,E:=[z0e_e,z02_e,z0f_e,z0x_e,z0L_e,z0K_e],muts:=[],fz:=[] }
def zz_k:List (List Nat):=[[2,3,4,5,6,7]]
def yZC(n:Nat):Ann:={ keep:=zz_k,fuel:=n,inl:=[],deep:=0 }
def yH9(n:Nat)(r1:Q1→Q2→List Int→Int→Int→Int→Int→Option ((Q4)×Unit))(bm:Q1)(bq:Q2)(a8:List Int)(bv:Int)(dX:Int)(aO:Int)(br:Int):Option ((Q4)×Unit) :=
  (bif decide (dX < (↑a8.length:Int))then (Option.bind (idx a8 dX) fun v2=>(Option.bind (yGb bm v2) fun v3=>(Option.bind (idx a8 dX) fun v4=>(Option.bind (yGi bq v4) fun v5=>r1 bm bq a8 (IntKind.i64.wrap (bv+(z0L ((z0x (IntKind.i64.wrap (bq.2.2.1 * v3.1),(0:Int),()) v5.1).1.1,(z0x (IntKind.i64.wrap (bq.2.2.1 * v3.1),(0:Int),()) v5.1).1.2.1,())).1)) (IntKind.i64.wrap (dX+1)) aO br))))else (Option.bind (yAY bv (IntKind.i64.wrap (bq.2.2.1 * bq.2.2.1))) fun v6=>some ((v6.1.1,v6.1.2.1,()),())))
def yAQ(n:Nat)(k:Nat)(bm:Q1)(bq:Q2)(a8:List Int)(bv:Int)(dX:Int)(aO:Int)(br:Int):Option ((Q4)×Unit) :=
  iter (fun r y=>yH9 n (fun bm bq a8 bv dX aO br=>r ((bm,(bq,(a8,(bv,(dX,()))))),(((aO,(br,())),()),()))) y.1.1 y.1.2.1 y.1.2.2.1 y.1.2.2.2.1 y.1.2.2.2.2.1 y.2.1.1.1 y.2.1.1.2.1) k ((bm,(bq,(a8,(bv,(dX,()))))),(((aO,(br,())),()),()))
def zz_m(n:Nat)(rp:Q1)(t:Q2):Option ((Q4)×Unit) :=
  (Option.bind (y9t rp) fun v0=>(yAQ n n (rp) (t) (v0.1) ((0:Int)) ((0:Int)) ((0:Int)) ((0:Int))))
theorem ycY(n:Nat)(x:zz_a.den):runF zz_g (yZC n) Tryz.f70 zz_a zz_r x=zz_m n x.1 x.2.1:=by kernel_rfl
def yGP(bm:Q1)(bq:Q2)(a8:List Int)(aO:Int)(br:Int)(dX:Int)(v2:Int)(bv:Int):Option (((Q4)×Unit)⊕(Int)) :=
  (Option.bind (yGb bm v2) fun v3=>(Option.bind (idx a8 dX) fun v4=>(Option.bind (yGi bq v4) fun v5=>(some (Sum.inr (IntKind.i64.wrap (bv+(z0L ((z0x (IntKind.i64.wrap (bq.2.2.1 * v3.1),(0:Int),()) v5.1).1.1,(z0x (IntKind.i64.wrap (bq.2.2.1 * v3.1),(0:Int),()) v5.1).1.2.1,())).1)))))))
def yFv(bm:Q1)(bq:Q2)(a8:List Int)(aO:Int)(br:Int)(bv:Int):Option ((Q4)×Unit) :=
  (Option.bind (yAY bv (IntKind.i64.wrap (bq.2.2.1 * bq.2.2.1))) fun v6=>(some (((v6.1.1,v6.1.2.1,()),()))))
theorem yFQ(n:Nat)(hn:big≤n)(bm:Q1)(bq:Q2)(a8:List Int)(aO:Int)(br:Int)(bv:Int)(hx:List.length (a8) < lenMax):LeF some (yR (fun bw cT az=>yGP bm bq a8 aO br bw cT az) (fun az=>yFv bm bq a8 aO br az) 0 (a8) bv) (yAQ n n bm bq a8 bv 0 aO br):=by
  refine yU (f:=some) (W:=fun dn bw az=>yAQ n dn bm bq a8 az bw aO br) (body:=(fun bw cT az=>yGP bm bq a8 aO br bw cT az)) (fin:=(fun az=>yFv bm bq a8 aO br az)) (fun dn bw az=>?_) hx bv n (by unfold big at hn;unfold lenMax at hx;omega)
  show LeF _ _ (yH9 n (yAQ n dn) bm bq a8 az bw aO br)
  exact yA (yE fun v2=>(yE fun v3=>(yE fun v4=>(yE fun v5=>(y6 rfl))))) (y0C (yE fun v6=>(y6 rfl)))
def zz_M(rp:Q1)(t:Q2):Option ((Q4)×Unit) :=
  (Option.bind (y9t rp) fun v0=>(bif decide (List.length (v0.1) < lenMax)then yR (fun bw cT az=>yGP (rp) (t) (v0.1) ((0:Int)) ((0:Int)) bw cT az) (fun az=>yFv (rp) (t) (v0.1) ((0:Int)) ((0:Int)) az) 0 (v0.1) ((0:Int))else none))
theorem yU6(rp:Q1)(t:Q2)(y:(Q4)×Unit)(h:zz_M rp t=some y):∃ n,zz_m n rp t=some y :=
  ⟨big,LeF.top (show LeF some (zz_M rp t) (zz_m big rp t)from (fun (n:Nat) (hn:big≤n)=>show LeF some (zz_M rp t) (zz_m n rp t)from (yE fun v0=>(yV fun hx=>by apply yFQ n hn;exact hx))) big (Nat.le_refl _)) h⟩
def zz_e:Entry:={ f:=70,args:=zz_a,ress:=zz_r,m:=fun x=>zz_M x.1 x.2.1 }
theorem yaz:FnOK Tryz.prog zz_e:=yJ (g:=zz_g) (fn:=Tryz.f70) yB yI (y8 yNL (y8 yXZ (y8 yX5 (y8 yVQ (y8 yTD (y8 yU0 eNil)))))) (by kernel_rfl) (by kernel_rfl) (by kernel_rfl) (fun x y h=>let ⟨n,hn⟩:=yU6 x.1 x.2.1 y h;⟨yZC n,iNil,(ycY n x).trans hn⟩)
abbrev zW_a:Ty:=.pair t94 .unit
abbrev zW_r:Ty:=.pair t3 .unit
def zW_g:G:={ T:=T,E:=[zm_e,zd_e,z0a_e,zc_e,ze_e,z1F_e],muts:=[],fz:=[] }
def zW_k:List (List Nat):=[[1,4],[1,7],[1,8]]
def yXG(n:Nat):Ann:={ keep:=zW_k,fuel:=n,inl:=[],deep:=0 }
def yI6(n:Nat)(r8:Q1→Int→Option (Int×Unit))(cf:Q1)(dD:Int):Option (Int×Unit) :=
  (bif decide (dD < (↑cf.2.2.1.length:Int))then (Option.bind (idx cf.2.2.1 dD) fun v9=>(bif ym Go.BinOp.neq Go.FloatKind.f32 v9 (nat_lit 0)then (Option.bind (yAS cf.2.2.2.1 dD) fun v10=>(bif v10.1 then some ((1:Int),())else r8 cf (IntKind.i64.wrap (dD+1))))else r8 cf (IntKind.i64.wrap (dD+1))))else some ((0:Int),()))
def yAM(n:Nat)(k:Nat)(cf:Q1)(dD:Int):Option (Int×Unit) :=
  iter (fun r y=>yI6 n (fun cf dD=>r ((cf,(dD,())),((),()))) y.1.1 y.1.2.1) k ((cf,(dD,())),((),()))
def yIj(n:Nat)(r6:Q1→Int→Option (Int×Unit))(bR:Q1)(ek:Int):Option (Int×Unit) :=
  (bif decide (ek < (↑bR.2.2.2.1.length:Int))then (Option.bind (idx bR.2.2.2.1 ek) fun v7=>(bif decide (v7.2.1 > (↑bR.2.2.1.length:Int))then some ((14:Int),())else r6 bR (IntKind.i64.wrap (ek+1))))else (yAM n n (bR) ((0:Int))))
def yAL(n:Nat)(k:Nat)(bR:Q1)(ek:Int):Option (Int×Unit) :=
  iter (fun r y=>yIj n (fun bR ek=>r ((bR,(ek,())),((),()))) y.1.1 y.1.2.1) k ((bR,(ek,())),((),()))
def yJF(n:Nat)(r2:Q1→Int→Option (Int×Unit))(bS:Q1)(ep:Int):Option (Int×Unit) :=
  (bif decide (ep < (↑bS.2.2.1.length:Int))then (Option.bind (idx bS.2.2.1 ep) fun v3=>(Option.bind (zc_M v3) fun v4=>(bif v4.1 != 0 then some (v4.1,())else r2 bS (IntKind.i64.wrap (ep+1)))))else (Option.bind (ze_M bS.2.2.2.1) fun v5=>(bif v5.1 != 0 then some (v5.1,())else (yAL n n (bS) ((0:Int))))))
def yAk(n:Nat)(k:Nat)(bS:Q1)(ep:Int):Option (Int×Unit) :=
  iter (fun r y=>yJF n (fun bS ep=>r ((bS,(ep,())),((),()))) y.1.1 y.1.2.1) k ((bS,(ep,())),((),()))
def zW_m(n:Nat)(rp:Q1):Option (Int×Unit) :=
  (Option.bind (zm_M rp.1) fun v0=>(Option.bind (y7A [v0.1,(zd rp.2.1 (0:Int) (100000:Int)).1]) fun v1=>(bif v1.1 != 0 then some (v1.1,())else (bif decide ((↑rp.2.2.1.length:Int) > 4096)then some ((5:Int),())else (yAk n n (rp) ((0:Int)))))))
theorem yap(n:Nat)(x:zW_a.den):runF zW_g (yXG n) Tryz.f86 zW_a zW_r x=zW_m n x.1:=by kernel_rfl
def yGM(cf:Q1)(dD:Int)(v9:Nat):Option ((Int×Unit)⊕Unit) :=
  (bif ym Go.BinOp.neq Go.FloatKind.f32 v9 (nat_lit 0)then (Option.bind (yAS cf.2.2.2.1 dD) fun v10=>(bif v10.1 then (some (Sum.inl (((1:Int),()))))else (some (Sum.inr ()))))else (some (Sum.inr ())))
def yML(cf:Q1):Option (Int×Unit) :=
  (some (((0:Int),())))
theorem yGK(n:Nat)(hn:big≤n)(cf:Q1)(hx:List.length (cf.2.2.1) < lenMax):LeF some (yR (fun bw cT az=>yGM cf bw cT) (fun az=>yML cf) 0 (cf.2.2.1) ()) (yAM n n cf 0):=by
  refine yU (f:=some) (W:=fun dn bw az=>yAM n dn cf bw) (body:=(fun bw cT az=>yGM cf bw cT)) (fin:=(fun az=>yML cf)) (fun dn bw az=>?_) hx () n (by unfold big at hn;unfold lenMax at hx;omega)
  show LeF _ _ (yI6 n (yAM n dn) cf bw)
  exact yA (yE fun v9=>(yA (yE fun v10=>(yA (y6 rfl) (y6 rfl))) (y6 rfl))) (y0C (y6 rfl))
def yJq(bR:Q1)(ek:Int)(v7:Q4):Option ((Int×Unit)⊕Unit) :=
  (bif decide (v7.2.1 > (↑bR.2.2.1.length:Int))then (some (Sum.inl (((14:Int),()))))else (some (Sum.inr ())))
def yLn(bR:Q1):Option (Int×Unit) :=
  (bif decide (List.length (bR.2.2.1) < lenMax)then yR (fun bw cT az=>yGM (bR) bw cT) (fun az=>yML (bR)) 0 (bR.2.2.1) ()else none)
theorem yFZ(n:Nat)(hn:big≤n)(bR:Q1)(hx:List.length (bR.2.2.2.1) < lenMax):LeF some (yR (fun bw cT az=>yJq bR bw cT) (fun az=>yLn bR) 0 (bR.2.2.2.1) ()) (yAL n n bR 0):=by
  refine yU (f:=some) (W:=fun dn bw az=>yAL n dn bR bw) (body:=(fun bw cT az=>yJq bR bw cT)) (fin:=(fun az=>yLn bR)) (fun dn bw az=>?_) hx () n (by unfold big at hn;unfold lenMax at hx;omega)
  show LeF _ _ (yIj n (yAL n dn) bR bw)
  exact yA (yE fun v7=>(yA (y6 rfl) (y6 rfl))) (y0C (yV fun hx=>by apply yGK n hn;exact hx))
def yJs(bS:Q1)(ep:Int)(v3:Nat):Option ((Int×Unit)⊕Unit) :=
  (Option.bind (zc_M v3) fun v4=>(bif v4.1 != 0 then (some (Sum.inl ((v4.1,()))))else (some (Sum.inr ()))))
def yKH(bS:Q1):Option (Int×Unit) :=
  (Option.bind (ze_M bS.2.2.2.1) fun v5=>(bif v5.1 != 0 then (some ((v5.1,())))else (bif decide (List.length (bS.2.2.2.1) < lenMax)then yR (fun bw cT az=>yJq (bS) bw cT) (fun az=>yLn (bS)) 0 (bS.2.2.2.1) ()else none)))
theorem yG4(n:Nat)(hn:big≤n)(bS:Q1)(hx:List.length (bS.2.2.1) < lenMax):LeF some (yR (fun bw cT az=>yJs bS bw cT) (fun az=>yKH bS) 0 (bS.2.2.1) ()) (yAk n n bS 0):=by
  refine yU (f:=some) (W:=fun dn bw az=>yAk n dn bS bw) (body:=(fun bw cT az=>yJs bS bw cT)) (fin:=(fun az=>yKH bS)) (fun dn bw az=>?_) hx () n (by unfold big at hn;unfold lenMax at hx;omega)
  show LeF _ _ (yJF n (yAk n dn) bS bw)
  exact yA (yE fun v3=>(yE fun v4=>(yA (y6 rfl) (y6 rfl)))) (y0C (yE fun v5=>(yA (y6 rfl) (yV fun hx=>by apply yFZ n hn;exact hx))))
def zW_M(rp:Q1):Option (Int×Unit) :=
  (Option.bind (zm_M rp.1) fun v0=>(Option.bind (y7A [v0.1,(zd rp.2.1 (0:Int) (100000:Int)).1]) fun v1=>(bif v1.1 != 0 then (some ((v1.1,())))else (bif decide ((↑rp.2.2.1.length:Int) > 4096)then (some (((5:Int),())))else (bif decide (List.length (rp.2.2.1) < lenMax)then yR (fun bw cT az=>yJs (rp) bw cT) (fun az=>yKH (rp)) 0 (rp.2.2.1) ()else none)))))
theorem yUT(rp:Q1)(y:Int×Unit)(h:zW_M rp=some y):∃ n,zW_m n rp=some y :=
  ⟨big,LeF.top (show LeF some (zW_M rp) (zW_m big rp)from (fun (n:Nat) (hn:big≤n)=>show LeF some (zW_M rp) (zW_m n rp)from (yE fun v0=>(yE fun v1=>(yA (y6 rfl) (yA (y6 rfl) (yV fun hx=>by apply yG4 n hn;exact hx)))))) big (Nat.le_refl _)) h⟩
def zW_e:Entry:={ f:=86,args:=zW_a,ress:=zW_r,m:=fun x=>zW_M x.1 }
theorem ybm:FnOK Tryz.prog zW_e:=yJ (g:=zW_g) (fn:=Tryz.f86) yB yI (y8 yYo (y8 yMN (y8 yE5 (y8 ybV (y8 ydH (y8 yNZ eNil)))))) (by kernel_rfl) (by kernel_rfl) (by kernel_rfl) (fun x y h=>let ⟨n,hn⟩:=yUT x.1 y h;⟨yXG n,iNil,(yap n x).trans hn⟩)
abbrev yRV:Ty:=.pair t60 (.pair t31 .unit)
abbrev yYa:Ty:=.pair t183 .unit
def yZW:G:={ T:=T,E:=[z0F_e,z8_e],muts:=[],fz:=[] }
def yco:List (List Nat):=[]
def yNi(n:Nat):Ann:={ keep:=yco,fuel:=n,inl:=[],deep:=0 }
def ySZ(n:Nat)(rp:Q1)(l:List (Q3)):Option (List (List (Q4))×Unit) :=
  (Option.bind (z8_M l fun (x:(Q3)×Unit)=>yOj x.1 l rp) fun v0=>some (v0.1,()))
theorem yXN(n:Nat)(x:yRV.den):runF yZW (yNi n) Tryz.f122 yRV yYa x=ySZ n x.1 x.2.1:=by kernel_rfl
def yD7(rp:Q1)(l:List (Q3)):Option (List (List (Q4))×Unit):=ySZ 0 rp l
theorem ySJ(rp:Q1)(l:List (Q3))(y:List (List (Q4))×Unit)(h:yD7 rp l=some y):∃ n,ySZ n rp l=some y:=⟨0,h⟩
def z0m_e:Entry:={ f:=122,args:=yRV,ress:=yYa,m:=fun x=>yD7 x.1 x.2.1 }
theorem yCC:FnOK Tryz.prog z0m_e:=yJ (g:=yZW) (fn:=Tryz.f122) yB yI (y8 yUA (y8 ybp eNil)) (by kernel_rfl) (by kernel_rfl) (by kernel_rfl) (fun x y h=>let ⟨n,hn⟩:=ySJ x.1 x.2.1 y h;⟨yNi n,iNil,(yXN n x).trans hn⟩)
abbrev zj_a:Ty:=.pair t60 .unit
abbrev zj_r:Ty:=.pair t28 .unit
def zj_g:G:={ T:=T,E:=[zU_e,z1B_e,z1M_e],muts:=[],fz:=[] }
def zj_k:List (List Nat):=[]
def yXQ(n:Nat):Ann:={ keep:=zj_k,fuel:=n,inl:=[],deep:=0 }
def zj_m(n:Nat)(rp:Q1):Option (Int×Unit) :=
  (Option.bind (zU_M rp) fun v0=>(bif v0.1 != 0 then some (v0.1,())else (Option.bind (yBy rp) fun v1=>some ((z1M (decide ((↑v1.1.length:Int) > 128)) (5:Int)).1,()))))
theorem yd2(n:Nat)(x:zj_a.den):runF zj_g (yXQ n) Tryz.f128 zj_a zj_r x=zj_m n x.1:=by kernel_rfl
def zj_M(rp:Q1):Option (Int×Unit):=zj_m 0 rp
theorem yZ7(rp:Q1)(y:Int×Unit)(h:zj_M rp=some y):∃ n,zj_m n rp=some y:=⟨0,h⟩
def zj_e:Entry:={ f:=128,args:=zj_a,ress:=zj_r,m:=fun x=>zj_M x.1 }
theorem yWs:FnOK Tryz.prog zj_e:=yJ (g:=zj_g) (fn:=Tryz.f128) yB yI (y8 ybv (y8 yNg (y8 y6H eNil))) (by kernel_rfl) (by kernel_rfl) (by kernel_rfl) (fun x y h=>let ⟨n,hn⟩:=yZ7 x.1 y h;⟨yXQ n,iNil,(yd2 n x).trans hn⟩)
end
end Go.Tw
end
section
set_option maxRecDepth 1000000
namespace Go.Tw
open Go.Vx Go.Vx.B Go.Proofs
noncomputable section
abbrev yPb:Ty:=.pair t33 (.pair t3 (.pair t3 .unit))
abbrev yZg:Ty:=.pair t23 (.pair t28 .unit)
def yWp:G:={ T:=T,E:=[z03_e,z05_e,z16_e,z0R_e],muts:=[9],fz:=[] }
def ycS:List (List Nat):=[[1,3,9,21,22]]
def yO6(n:Nat):Ann:={ keep:=ycS,fuel:=n,inl:=[],deep:=0 }
def yEB(n:Nat)(r3:Int→Q2→Int→Int→List (Q4)→Option (List (Q4)×Int×Unit))(aQ:Int)(cH:Q2)(bz:Int)(cU:Int)(cM:List (Q4)):Option (List (Q4)×Int×Unit) :=
  (bif decide (cU < bz)then (Option.bind (y8G cH (IntKind.i64.wrap (aQ+cU))) fun v4=>(bif decide (cM.length+(1:Nat)≤memMax)then r3 aQ cH bz (IntKind.i64.wrap (cU+1)) (cM++[v4.1])else none))else some (cM,(0:Int),()))
def y6k(n:Nat)(k:Nat)(aQ:Int)(cH:Q2)(bz:Int)(cU:Int)(cM:List (Q4)):Option (List (Q4)×Int×Unit) :=
  iter (fun r y=>yEB n (fun aQ cH bz cU cM=>r ((aQ,(cH,(bz,(cU,())))),((cM,()),()))) y.1.1 y.1.2.1 y.1.2.2.1 y.1.2.2.2.1 y.2.1.1) k ((aQ,(cH,(bz,(cU,())))),((cM,()),()))
def yKz(n:Nat)(t:Q2)(p1:Int)(np:Int):Option (List (Q4)×Int×Unit) :=
  (Option.bind (y8C t) fun v0=>(Option.bind (yLM p1 np) fun v1=>(Option.bind (y1y [v0.1,v1.1]) fun v2=>(bif v2.1 != 0 then some ([],v2.1,())else (y6k n n (p1) (t) (np) ((0:Int)) ([]))))))
theorem yVe(n:Nat)(x:yPb.den):runF yWp (yO6 n) Tryz.f20 yPb yZg x=yKz n x.1 x.2.1 x.2.2.1:=by kernel_rfl
def yHd(aQ:Int)(cH:Q2)(bz:Int)(cU:Int)(cM:List (Q4)):Option ((List (Q4)×Int×Unit)⊕(List (Q4))) :=
  (Option.bind (y8G cH (IntKind.i64.wrap (aQ+cU))) fun v4=>(bif decide (cM.length+(1:Nat)≤memMax)then (some (Sum.inr (cM++[v4.1])))else none))
def yHA(aQ:Int)(cH:Q2)(bz:Int)(cM:List (Q4)):Option (List (Q4)×Int×Unit) :=
  (some ((cM,(0:Int),())))
theorem yCX(n:Nat)(hn:big≤n)(aQ:Int)(cH:Q2)(bz:Int)(cM:List (Q4))(hx:(bz)≤9223372036854775807):LeF some (y1k (fun bw az=>yHd aQ cH bz bw az) (fun az=>yHA aQ cH bz az) ((bz) - 0).toNat 0 cM) (y6k n n aQ cH bz 0 cM):=by
  refine y3I (f:=some) (W:=fun dn bw az=>y6k n dn aQ cH bz bw az) (body:=(fun bw az=>yHd aQ cH bz bw az)) (fin:=(fun az=>yHA aQ cH bz az)) (fun dn bw az=>?_) hx cM n 0 (by decide) (by unfold big at hn;omega)
  show LeF _ _ (yEB n (y6k n dn) aQ cH bz bw az)
  exact yA (yE fun v4=>(yA (y6 rfl) y19)) (y0C (y6 rfl))
def yG2(t:Q2)(p1:Int)(np:Int):Option (List (Q4)×Int×Unit) :=
  (Option.bind (y8C t) fun v0=>(Option.bind (yLM p1 np) fun v1=>(Option.bind (y1y [v0.1,v1.1]) fun v2=>(bif v2.1 != 0 then (some (([],v2.1,())))else (bif decide ((np)≤9223372036854775807)then y1k (fun bw az=>yHd (p1) (t) (np) bw az) (fun az=>yHA (p1) (t) (np) az) ((np) - 0).toNat 0 ([])else none)))))
theorem ySV(t:Q2)(p1:Int)(np:Int)(y:List (Q4)×Int×Unit)(h:yG2 t p1 np=some y):∃ n,yKz n t p1 np=some y :=
  ⟨big,LeF.top (show LeF some (yG2 t p1 np) (yKz big t p1 np)from (fun (n:Nat) (hn:big≤n)=>show LeF some (yG2 t p1 np) (yKz n t p1 np)from (yE fun v0=>(yE fun v1=>(yE fun v2=>(yA (y6 rfl) (yV fun hx=>by apply yCX n hn;exact hx)))))) big (Nat.le_refl _)) h⟩
def z0Q_e:Entry:={ f:=20,args:=yPb,ress:=yZg,m:=fun x=>yG2 x.1 x.2.1 x.2.2.1 }
theorem yMz:FnOK Tryz.prog z0Q_e:=yJ (g:=yWp) (fn:=Tryz.f20) yB yI (y8 yEi (y8 yX3 (y8 y4J (y8 yON eNil)))) (by kernel_rfl) (by kernel_rfl) (by kernel_rfl) (fun x y h=>let ⟨n,hn⟩:=ySV x.1 x.2.1 x.2.2.1 y h;⟨yO6 n,iNil,(yVe n x).trans hn⟩)
abbrev yPj:Ty:=.pair t60 (.pair t33 .unit)
abbrev yaD:Ty:=.pair t69 (.pair t28 .unit)
def yTP:G:={ T:=T,E:=[zj_e,z03_e,zv_e,z1M_e,z16_e,z0R_e,z19_e],muts:=[],fz:=[] }
def ycT:List (List Nat):=[]
def yNt(n:Nat):Ann:={ keep:=ycT,fuel:=n,inl:=[il124,il195],deep:=3 }
def y7K(n:Nat)(r4:Q1→List (Q4)→List Nat→Int→Int→Q1→Q2→Q1→Q2→Int→Int→Q1→Int→Q2→Int→Q2→Bool→Bool→Int→List Int→Int→Int→Bool→Q1→Q1→Int→Int→Int→Q1→Q2→Q1→Q2→Int→Int→Q1→Int→Q2→Int→Q2→Bool→Bool→Int→List Int→Int→Int→Bool→Q1→Q1→Option ((Q4)×Int×Unit))(j12:Q1)(j13:List (Q4))(j14:Int)(j15:Nat)(j16:List Nat)(j17:Int)(j18:Int)(j19:Q1)(j20:Q2)(j21:Q1)(j22:Q2)(j23:Int)(j24:Int)(j25:Q1)(j26:Int)(j27:Q2)(j28:Int)(j29:Q2)(j30:Bool)(j31:Bool)(j32:Int)(j33:List Int)(j34:Int)(j35:Int)(j36:Bool)(j37:Q1)(j38:Q1)(j39:Int)(j40:Int)(j41:Int)(j42:Q1)(j43:Q2)(j44:Q1)(j45:Q2)(j46:Int)(j47:Int)(j48:Q1)(j49:Int)(j50:Q2)(j51:Int)(j52:Q2)(j53:Bool)(j54:Bool)(j55:Int)(j56:List Int)(j57:Int)(j58:Int)(j59:Bool)(j60:Q1)(j61:Q1):Option ((Q4)×Int×Unit) :=
  (bif decide ((↑j13.length:Int) > 0)then (Option.bind (idx j13 (0:Int)) fun v62=>(bif decide (v62.1≤j14)then r4 j12 j13 j16 j17 (IntKind.i64.wrap (j18+1)) j19 j20 j21 j22 j23 j24 j25 j26 j27 j28 j29 j30 j31 j32 j33 j34 j35 j36 j37 j38 j39 j40 j41 j42 j43 j44 j45 j46 j47 j48 j49 j50 j51 j52 j53 j54 j55 j56 j57 j58 j59 j60 j61 else (Option.bind (y02 Go.FloatKind.f32 (y01 Go.BinOp.mul Go.FloatKind.f32 j15 (nat_lit 1098907648)) IntKind.i64) fun v67=>(Option.bind (y8G j22 (IntKind.i64.wrap (j12.2.1+j14))) fun v68=>r4 j12 j13 j16 j17 (IntKind.i64.wrap (j18+1)) j19 j20 j21 j22 j23 j24 j25 j26 j27 j28 j29 j30 j31 j32 j33 j34 j35 j36 j37 j38 j39 j40 (IntKind.i64.wrap (j41+IntKind.i64.wrap (IntKind.i64.wrap (IntKind.i64.wrap (IntKind.i64.wrap (j22.2.2.1 * v67) - v68.1.1) * IntKind.i64.wrap (IntKind.i64.wrap (j22.2.2.1 * v67) - v68.1.1))+IntKind.i64.wrap (v68.1.2.1 * v68.1.2.1)))) j42 j43 j44 j45 j46 j47 j48 j49 j50 j51 j52 j53 j54 j55 j56 j57 j58 j59 j60 j61))))else (Option.bind (y02 Go.FloatKind.f32 (y01 Go.BinOp.mul Go.FloatKind.f32 j15 (nat_lit 1098907648)) IntKind.i64) fun v69=>(Option.bind (y8G j22 (IntKind.i64.wrap (j12.2.1+j14))) fun v70=>r4 j12 j13 j16 j17 (IntKind.i64.wrap (j18+1)) j19 j20 j21 j22 j23 j24 j25 j26 j27 j28 j29 j30 j31 j32 j33 j34 j35 j36 j37 j38 j39 j40 (IntKind.i64.wrap (j41+IntKind.i64.wrap (IntKind.i64.wrap (IntKind.i64.wrap (IntKind.i64.wrap (j22.2.2.1 * v69) - v70.1.1) * IntKind.i64.wrap (IntKind.i64.wrap (j22.2.2.1 * v69) - v70.1.1))+IntKind.i64.wrap (v70.1.2.1 * v70.1.2.1)))) j42 j43 j44 j45 j46 j47 j48 j49 j50 j51 j52 j53 j54 j55 j56 j57 j58 j59 j60 j61)))
def yEY(n:Nat)(r4:Q1→List (Q4)→List Nat→Int→Int→Q1→Q2→Q1→Q2→Int→Int→Q1→Int→Q2→Int→Q2→Bool→Bool→Int→List Int→Int→Int→Bool→Q1→Q1→Int→Int→Int→Q1→Q2→Q1→Q2→Int→Int→Q1→Int→Q2→Int→Q2→Bool→Bool→Int→List Int→Int→Int→Bool→Q1→Q1→Option ((Q4)×Int×Unit))(r6:Q1→List (Q4)→Int→Nat→List Nat→Int→Int→Q1→Q2→Q1→Q2→Int→Int→Q1→Int→Q2→Int→Q2→Bool→Bool→Int→List Int→Int→Int→Bool→Q1→Q1→Int→Int→Int→Q1→Q2→Q1→Q2→Int→Int→Q1→Int→Q2→Int→Q2→Bool→Bool→Int→List Int→Int→Int→Bool→Q1→Q1→Option ((Q4)×Int×Unit))(cy:Q1)(am:List (Q4))(cz:Int)(cN:Nat)(cA:List Nat)(bA:Int)(bB:Int)(aZ:Q1)(b6:Q2)(b7:Q1)(b8:Q2)(b9:Int)(ba:Int)(aA:Q1)(aB:Int)(aC:Q2)(aD:Int)(aE:Q2)(aF:Bool)(aG:Bool)(aH:Int)(aI:List Int)(aJ:Int)(aK:Int)(aL:Bool)(aM:Q1)(a7:Q1)(bc:Int)(bd:Int)(bn:Int)(cB:Q1)(cC:Q2)(cD:Q1)(cE:Q2)(cF:Int)(cG:Int)(bC:Q1)(bD:Int)(bE:Q2)(bF:Int)(bG:Q2)(bH:Bool)(bI:Bool)(bJ:Int)(bK:List Int)(bL:Int)(bM:Int)(bN:Bool)(bO:Q1)(aN:Q1):Option ((Q4)×Int×Unit) :=
  (bif decide ((↑am.length:Int) > 0)then (Option.bind (idx am (0:Int)) fun v7=>(bif decide (v7.2.1≤cz)then (bif decide ((0:Int)≤1) && decide ((1:Int)≤(↑am.length:Int))then r6 cy (List.drop (Int.toNat (1:Int)) am) cz cN cA bA bB aZ b6 b7 b8 b9 ba aA aB aC aD aE aF aG aH aI aJ aK aL aM a7 bc bd bn cB cC cD cE cF cG bC bD bE bF bG bH bI bJ bK bL bM bN bO aN else none)else (y7K n r4 (cy) (am) (cz) (cN) (cA) (bA) (bB) (aZ) (b6) (b7) (b8) (b9) (ba) (aA) (aB) (aC) (aD) (aE) (aF) (aG) (aH) (aI) (aJ) (aK) (aL) (aM) (a7) (bc) (bd) (bn) (cB) (cC) (cD) (cE) (cF) (cG) (bC) (bD) (bE) (bF) (bG) (bH) (bI) (bJ) (bK) (bL) (bM) (bN) (bO) (aN))))else (y7K n r4 (cy) (am) (cz) (cN) (cA) (bA) (bB) (aZ) (b6) (b7) (b8) (b9) (ba) (aA) (aB) (aC) (aD) (aE) (aF) (aG) (aH) (aI) (aJ) (aK) (aL) (aM) (a7) (bc) (bd) (bn) (cB) (cC) (cD) (cE) (cF) (cG) (bC) (bD) (bE) (bF) (bG) (bH) (bI) (bJ) (bK) (bL) (bM) (bN) (bO) (aN)))
def y6T(n:Nat)(r4:Q1→List (Q4)→List Nat→Int→Int→Q1→Q2→Q1→Q2→Int→Int→Q1→Int→Q2→Int→Q2→Bool→Bool→Int→List Int→Int→Int→Bool→Q1→Q1→Int→Int→Int→Q1→Q2→Q1→Q2→Int→Int→Q1→Int→Q2→Int→Q2→Bool→Bool→Int→List Int→Int→Int→Bool→Q1→Q1→Option ((Q4)×Int×Unit))(k:Nat)(cy:Q1)(am:List (Q4))(cz:Int)(cN:Nat)(cA:List Nat)(bA:Int)(bB:Int)(aZ:Q1)(b6:Q2)(b7:Q1)(b8:Q2)(b9:Int)(ba:Int)(aA:Q1)(aB:Int)(aC:Q2)(aD:Int)(aE:Q2)(aF:Bool)(aG:Bool)(aH:Int)(aI:List Int)(aJ:Int)(aK:Int)(aL:Bool)(aM:Q1)(a7:Q1)(bc:Int)(bd:Int)(bn:Int)(cB:Q1)(cC:Q2)(cD:Q1)(cE:Q2)(cF:Int)(cG:Int)(bC:Q1)(bD:Int)(bE:Q2)(bF:Int)(bG:Q2)(bH:Bool)(bI:Bool)(bJ:Int)(bK:List Int)(bL:Int)(bM:Int)(bN:Bool)(bO:Q1)(aN:Q1):Option ((Q4)×Int×Unit) :=
  iter (fun r y=>yEY n r4 (fun cy am cz cN cA bA bB aZ b6 b7 b8 b9 ba aA aB aC aD aE aF aG aH aI aJ aK aL aM a7 bc bd bn cB cC cD cE cF cG bC bD bE bF bG bH bI bJ bK bL bM bN bO aN=>r ((cy,(am,(cz,(cN,(cA,(bA,(bB,()))))))),(((aZ,(b6,(b7,(b8,(b9,(ba,(aA,(aB,(aC,(aD,(aE,(aF,(aG,(aH,(aI,(aJ,(aK,(aL,(aM,((a7,()),())))))))))))))))))))),((bc,(bd,())),((bn,()),()))),(cB,(cC,(cD,(cE,(cF,(cG,(bC,(bD,(bE,(bF,(bG,(bH,(bI,(bJ,(bK,(bL,(bM,(bN,(bO,((aN,()),()))))))))))))))))))))))) y.1.1 y.1.2.1 y.1.2.2.1 y.1.2.2.2.1 y.1.2.2.2.2.1 y.1.2.2.2.2.2.1 y.1.2.2.2.2.2.2.1 y.2.1.1.1 y.2.1.1.2.1 y.2.1.1.2.2.1 y.2.1.1.2.2.2.1 y.2.1.1.2.2.2.2.1 y.2.1.1.2.2.2.2.2.1 y.2.1.1.2.2.2.2.2.2.1 y.2.1.1.2.2.2.2.2.2.2.1 y.2.1.1.2.2.2.2.2.2.2.2.1 y.2.1.1.2.2.2.2.2.2.2.2.2.1 y.2.1.1.2.2.2.2.2.2.2.2.2.2.1 y.2.1.1.2.2.2.2.2.2.2.2.2.2.2.1 y.2.1.1.2.2.2.2.2.2.2.2.2.2.2.2.1 y.2.1.1.2.2.2.2.2.2.2.2.2.2.2.2.2.1 y.2.1.1.2.2.2.2.2.2.2.2.2.2.2.2.2.2.1 y.2.1.1.2.2.2.2.2.2.2.2.2.2.2.2.2.2.2.1 y.2.1.1.2.2.2.2.2.2.2.2.2.2.2.2.2.2.2.2.1 y.2.1.1.2.2.2.2.2.2.2.2.2.2.2.2.2.2.2.2.2.1 y.2.1.1.2.2.2.2.2.2.2.2.2.2.2.2.2.2.2.2.2.2.1 y.2.1.1.2.2.2.2.2.2.2.2.2.2.2.2.2.2.2.2.2.2.2.1.1 y.2.1.2.1.1 y.2.1.2.1.2.1 y.2.1.2.2.1.1 y.2.2.1 y.2.2.2.1 y.2.2.2.2.1 y.2.2.2.2.2.1 y.2.2.2.2.2.2.1 y.2.2.2.2.2.2.2.1 y.2.2.2.2.2.2.2.2.1 y.2.2.2.2.2.2.2.2.2.1 y.2.2.2.2.2.2.2.2.2.2.1 y.2.2.2.2.2.2.2.2.2.2.2.1 y.2.2.2.2.2.2.2.2.2.2.2.2.1 y.2.2.2.2.2.2.2.2.2.2.2.2.2.1 y.2.2.2.2.2.2.2.2.2.2.2.2.2.2.1 y.2.2.2.2.2.2.2.2.2.2.2.2.2.2.2.1 y.2.2.2.2.2.2.2.2.2.2.2.2.2.2.2.2.1 y.2.2.2.2.2.2.2.2.2.2.2.2.2.2.2.2.2.1 y.2.2.2.2.2.2.2.2.2.2.2.2.2.2.2.2.2.2.1 y.2.2.2.2.2.2.2.2.2.2.2.2.2.2.2.2.2.2.2.1 y.2.2.2.2.2.2.2.2.2.2.2.2.2.2.2.2.2.2.2.2.1 y.2.2.2.2.2.2.2.2.2.2.2.2.2.2.2.2.2.2.2.2.2.1.1) k ((cy,(am,(cz,(cN,(cA,(bA,(bB,()))))))),(((aZ,(b6,(b7,(b8,(b9,(ba,(aA,(aB,(aC,(aD,(aE,(aF,(aG,(aH,(aI,(aJ,(aK,(aL,(aM,((a7,()),())))))))))))))))))))),((bc,(bd,())),((bn,()),()))),(cB,(cC,(cD,(cE,(cF,(cG,(bC,(bD,(bE,(bF,(bG,(bH,(bI,(bJ,(bK,(bL,(bM,(bN,(bO,((aN,()),()))))))))))))))))))))))
def yEO(n:Nat)(r4:Q1→List (Q4)→List Nat→Int→Int→Q1→Q2→Q1→Q2→Int→Int→Q1→Int→Q2→Int→Q2→Bool→Bool→Int→List Int→Int→Int→Bool→Q1→Q1→Int→Int→Int→Q1→Q2→Q1→Q2→Int→Int→Q1→Int→Q2→Int→Q2→Bool→Bool→Int→List Int→Int→Int→Bool→Q1→Q1→Option ((Q4)×Int×Unit))(bZ:Q1)(ak:List (Q4))(bt:List Nat)(cg:Int)(bx:Int)(aq:Q1)(ar:Q2)(au:Q1)(bp:Q2)(av:Int)(aw:Int)(aS:Q1)(aT:Int)(aU:Q2)(aa:Int)(ac:Q2)(ae:Bool)(af:Bool)(ah:Int)(aV:List Int)(aW:Int)(aX:Int)(ai:Bool)(aj:Q1)(al:Q1)(ax:Int)(ay:Int)(aP:Int)(ca:Q1)(cb:Q2)(cc:Q1)(cj:Q2)(cd:Int)(ce:Int)(bT:Q1)(bU:Int)(bV:Q2)(be:Int)(bf:Q2)(bg:Bool)(bh:Bool)(bi:Int)(bW:List Int)(bX:Int)(bY:Int)(bj:Bool)(bl:Q1)(aY:Q1):Option ((Q4)×Int×Unit) :=
  (bif decide (bx < cg)then (Option.bind (idx bt bx) fun v5=>(y6T n r4 n (bZ) (ak) (bx) (v5) (bt) (cg) (bx) (aq) (ar) (au) (bp) (av) (aw) (aS) (aT) (aU) (aa) (ac) (ae) (af) (ah) (aV) (aW) (aX) (ai) (aj) (al) (ax) (ay) (aP) (ca) (cb) (cc) (cj) (cd) (ce) (bT) (bU) (bV) (be) (bf) (bg) (bh) (bi) (bW) (bX) (bY) (bj) (bl) (aY)))else (Option.bind (y8B aP (IntKind.i64.wrap (cj.2.2.1 * cj.2.2.1))) fun v72=>some ((v72.1.1,v72.1.2.1,()),(0:Int),())))
def y6d(n:Nat)(k:Nat)(bZ:Q1)(ak:List (Q4))(bt:List Nat)(cg:Int)(bx:Int)(aq:Q1)(ar:Q2)(au:Q1)(bp:Q2)(av:Int)(aw:Int)(aS:Q1)(aT:Int)(aU:Q2)(aa:Int)(ac:Q2)(ae:Bool)(af:Bool)(ah:Int)(aV:List Int)(aW:Int)(aX:Int)(ai:Bool)(aj:Q1)(al:Q1)(ax:Int)(ay:Int)(aP:Int)(ca:Q1)(cb:Q2)(cc:Q1)(cj:Q2)(cd:Int)(ce:Int)(bT:Q1)(bU:Int)(bV:Q2)(be:Int)(bf:Q2)(bg:Bool)(bh:Bool)(bi:Int)(bW:List Int)(bX:Int)(bY:Int)(bj:Bool)(bl:Q1)(aY:Q1):Option ((Q4)×Int×Unit) :=
  iter (fun r y=>yEO n (fun bZ ak bt cg bx aq ar au bp av aw aS aT aU aa ac ae af ah aV aW aX ai aj al ax ay aP ca cb cc cj cd ce bT bU bV be bf bg bh bi bW bX bY bj bl aY=>r ((bZ,(ak,(bt,(cg,(bx,()))))),(((aq,(ar,(au,(bp,(av,(aw,(aS,(aT,(aU,(aa,(ac,(ae,(af,(ah,(aV,(aW,(aX,(ai,(aj,((al,()),())))))))))))))))))))),((ax,(ay,())),((aP,()),()))),(ca,(cb,(cc,(cj,(cd,(ce,(bT,(bU,(bV,(be,(bf,(bg,(bh,(bi,(bW,(bX,(bY,(bj,(bl,((aY,()),()))))))))))))))))))))))) y.1.1 y.1.2.1 y.1.2.2.1 y.1.2.2.2.1 y.1.2.2.2.2.1 y.2.1.1.1 y.2.1.1.2.1 y.2.1.1.2.2.1 y.2.1.1.2.2.2.1 y.2.1.1.2.2.2.2.1 y.2.1.1.2.2.2.2.2.1 y.2.1.1.2.2.2.2.2.2.1 y.2.1.1.2.2.2.2.2.2.2.1 y.2.1.1.2.2.2.2.2.2.2.2.1 y.2.1.1.2.2.2.2.2.2.2.2.2.1 y.2.1.1.2.2.2.2.2.2.2.2.2.2.1 y.2.1.1.2.2.2.2.2.2.2.2.2.2.2.1 y.2.1.1.2.2.2.2.2.2.2.2.2.2.2.2.1 y.2.1.1.2.2.2.2.2.2.2.2.2.2.2.2.2.1 y.2.1.1.2.2.2.2.2.2.2.2.2.2.2.2.2.2.1 y.2.1.1.2.2.2.2.2.2.2.2.2.2.2.2.2.2.2.1 y.2.1.1.2.2.2.2.2.2.2.2.2.2.2.2.2.2.2.2.1 y.2.1.1.2.2.2.2.2.2.2.2.2.2.2.2.2.2.2.2.2.1 y.2.1.1.2.2.2.2.2.2.2.2.2.2.2.2.2.2.2.2.2.2.1 y.2.1.1.2.2.2.2.2.2.2.2.2.2.2.2.2.2.2.2.2.2.2.1.1 y.2.1.2.1.1 y.2.1.2.1.2.1 y.2.1.2.2.1.1 y.2.2.1 y.2.2.2.1 y.2.2.2.2.1 y.2.2.2.2.2.1 y.2.2.2.2.2.2.1 y.2.2.2.2.2.2.2.1 y.2.2.2.2.2.2.2.2.1 y.2.2.2.2.2.2.2.2.2.1 y.2.2.2.2.2.2.2.2.2.2.1 y.2.2.2.2.2.2.2.2.2.2.2.1 y.2.2.2.2.2.2.2.2.2.2.2.2.1 y.2.2.2.2.2.2.2.2.2.2.2.2.2.1 y.2.2.2.2.2.2.2.2.2.2.2.2.2.2.1 y.2.2.2.2.2.2.2.2.2.2.2.2.2.2.2.1 y.2.2.2.2.2.2.2.2.2.2.2.2.2.2.2.2.1 y.2.2.2.2.2.2.2.2.2.2.2.2.2.2.2.2.2.1 y.2.2.2.2.2.2.2.2.2.2.2.2.2.2.2.2.2.2.1 y.2.2.2.2.2.2.2.2.2.2.2.2.2.2.2.2.2.2.2.1 y.2.2.2.2.2.2.2.2.2.2.2.2.2.2.2.2.2.2.2.2.1 y.2.2.2.2.2.2.2.2.2.2.2.2.2.2.2.2.2.2.2.2.2.1.1) k ((bZ,(ak,(bt,(cg,(bx,()))))),(((aq,(ar,(au,(bp,(av,(aw,(aS,(aT,(aU,(aa,(ac,(ae,(af,(ah,(aV,(aW,(aX,(ai,(aj,((al,()),())))))))))))))))))))),((ax,(ay,())),((aP,()),()))),(ca,(cb,(cc,(cj,(cd,(ce,(bT,(bU,(bV,(be,(bf,(bg,(bh,(bi,(bW,(bX,(bY,(bj,(bl,((aY,()),()))))))))))))))))))))))
def yKn(n:Nat)(rp:Q1)(t:Q2):Option ((Q4)×Int×Unit) :=
  (Option.bind (zj_M rp) fun v0=>(Option.bind (y8C t) fun v1=>(Option.bind (zv_M t) fun v2=>(Option.bind (y1y [v0.1,v1.1,(z1M (!v2.1) (4:Int)).1]) fun v3=>(bif v3.1 != 0 then some (((0:Int),(0:Int),()),v3.1,())else (y6d n n (rp) (rp.2.2.2.1) (rp.2.2.1) ((↑rp.2.2.1.length:Int)) ((0:Int)) (rp) (t) (rp) (t) ((0:Int)) (v3.1) (rp) (v0.1) (t) (v1.1) (t) (v2.1) (!v2.1) ((z1M (!v2.1) (4:Int)).1) ([v0.1,v1.1,(z1M (!v2.1) (4:Int)).1]) (v3.1) (v3.1) (v3.1 != 0) (rp) (rp) ((0:Int)) ((0:Int)) ((0:Int)) (rp) (t) (rp) (t) ((0:Int)) (v3.1) (rp) (v0.1) (t) (v1.1) (t) (v2.1) (!v2.1) ((z1M (!v2.1) (4:Int)).1) ([v0.1,v1.1,(z1M (!v2.1) (4:Int)).1]) (v3.1) (v3.1) (v3.1 != 0) (rp) (rp)))))))
theorem yVu(n:Nat)(x:yPj.den):runF yTP (yNt n) Tryz.f37 yPj yaD x=yKn n x.1 x.2.1:=by kernel_rfl
def y9d(j12:Q1)(j13:List (Q4))(j14:Int)(j15:Nat)(j16:List Nat)(j17:Int)(j18:Int)(j19:Q1)(j20:Q2)(j21:Q1)(j22:Q2)(j23:Int)(j24:Int)(j25:Q1)(j26:Int)(j27:Q2)(j28:Int)(j29:Q2)(j30:Bool)(j31:Bool)(j32:Int)(j33:List Int)(j34:Int)(j35:Int)(j36:Bool)(j37:Q1)(j38:Q1)(j39:Int)(j40:Int)(j41:Int)(j42:Q1)(j43:Q2)(j44:Q1)(j45:Q2)(j46:Int)(j47:Int)(j48:Q1)(j49:Int)(j50:Q2)(j51:Int)(j52:Q2)(j53:Bool)(j54:Bool)(j55:Int)(j56:List Int)(j57:Int)(j58:Int)(j59:Bool)(j60:Q1)(j61:Q1):Option (((Q4)×Int×Unit)⊕((List (Q4))×Int)) :=
  (bif decide ((↑j13.length:Int) > 0)then (Option.bind (idx j13 (0:Int)) fun v62=>(bif decide (v62.1≤j14)then (some (Sum.inr ((j13),(j41))))else (Option.bind (y02 Go.FloatKind.f32 (y01 Go.BinOp.mul Go.FloatKind.f32 j15 (nat_lit 1098907648)) IntKind.i64) fun v67=>(Option.bind (y8G j22 (IntKind.i64.wrap (j12.2.1+j14))) fun v68=>(some (Sum.inr ((j13),(IntKind.i64.wrap (j41+IntKind.i64.wrap (IntKind.i64.wrap (IntKind.i64.wrap (IntKind.i64.wrap (j22.2.2.1 * v67) - v68.1.1) * IntKind.i64.wrap (IntKind.i64.wrap (j22.2.2.1 * v67) - v68.1.1))+IntKind.i64.wrap (v68.1.2.1 * v68.1.2.1)))))))))))else (Option.bind (y02 Go.FloatKind.f32 (y01 Go.BinOp.mul Go.FloatKind.f32 j15 (nat_lit 1098907648)) IntKind.i64) fun v69=>(Option.bind (y8G j22 (IntKind.i64.wrap (j12.2.1+j14))) fun v70=>(some (Sum.inr ((j13),(IntKind.i64.wrap (j41+IntKind.i64.wrap (IntKind.i64.wrap (IntKind.i64.wrap (IntKind.i64.wrap (j22.2.2.1 * v69) - v70.1.1) * IntKind.i64.wrap (IntKind.i64.wrap (j22.2.2.1 * v69) - v70.1.1))+IntKind.i64.wrap (v70.1.2.1 * v70.1.2.1))))))))))
theorem y1w(n:Nat)(hn:big≤n)(r4:Q1→List (Q4)→List Nat→Int→Int→Q1→Q2→Q1→Q2→Int→Int→Q1→Int→Q2→Int→Q2→Bool→Bool→Int→List Int→Int→Int→Bool→Q1→Q1→Int→Int→Int→Q1→Q2→Q1→Q2→Int→Int→Q1→Int→Q2→Int→Q2→Bool→Bool→Int→List Int→Int→Int→Bool→Q1→Q1→Option ((Q4)×Int×Unit))(j12:Q1)(j13:List (Q4))(j14:Int)(j15:Nat)(j16:List Nat)(j17:Int)(j18:Int)(j19:Q1)(j20:Q2)(j21:Q1)(j22:Q2)(j23:Int)(j24:Int)(j25:Q1)(j26:Int)(j27:Q2)(j28:Int)(j29:Q2)(j30:Bool)(j31:Bool)(j32:Int)(j33:List Int)(j34:Int)(j35:Int)(j36:Bool)(j37:Q1)(j38:Q1)(j39:Int)(j40:Int)(j41:Int)(j42:Q1)(j43:Q2)(j44:Q1)(j45:Q2)(j46:Int)(j47:Int)(j48:Q1)(j49:Int)(j50:Q2)(j51:Int)(j52:Q2)(j53:Bool)(j54:Bool)(j55:Int)(j56:List Int)(j57:Int)(j58:Int)(j59:Bool)(j60:Q1)(j61:Q1):LeF (elim some fun (az:((List (Q4))×Int))=>r4 j12 az.1 j16 j17 (IntKind.i64.wrap (j18+1)) j19 j20 j21 j22 j23 j24 j25 j26 j27 j28 j29 j30 j31 j32 j33 j34 j35 j36 j37 j38 j39 j40 az.2 j42 j43 j44 j45 j46 j47 j48 j49 j50 j51 j52 j53 j54 j55 j56 j57 j58 j59 j60 j61) (y9d j12 j13 j14 j15 j16 j17 j18 j19 j20 j21 j22 j23 j24 j25 j26 j27 j28 j29 j30 j31 j32 j33 j34 j35 j36 j37 j38 j39 j40 j41 j42 j43 j44 j45 j46 j47 j48 j49 j50 j51 j52 j53 j54 j55 j56 j57 j58 j59 j60 j61) (y7K n r4 j12 j13 j14 j15 j16 j17 j18 j19 j20 j21 j22 j23 j24 j25 j26 j27 j28 j29 j30 j31 j32 j33 j34 j35 j36 j37 j38 j39 j40 j41 j42 j43 j44 j45 j46 j47 j48 j49 j50 j51 j52 j53 j54 j55 j56 j57 j58 j59 j60 j61) :=
  (yA (yE fun v62=>(yA (y6 rfl) (yE fun v67=>(yE fun v68=>(y6 rfl))))) (yE fun v69=>(yE fun v70=>(y6 rfl))))
def yIY(cy:Q1)(cz:Int)(cN:Nat)(cA:List Nat)(bA:Int)(bB:Int)(aZ:Q1)(b6:Q2)(b7:Q1)(b8:Q2)(b9:Int)(ba:Int)(aA:Q1)(aB:Int)(aC:Q2)(aD:Int)(aE:Q2)(aF:Bool)(aG:Bool)(aH:Int)(aI:List Int)(aJ:Int)(aK:Int)(aL:Bool)(aM:Q1)(a7:Q1)(bc:Int)(bd:Int)(bn:Int)(cB:Q1)(cC:Q2)(cD:Q1)(cE:Q2)(cF:Int)(cG:Int)(bC:Q1)(bD:Int)(bE:Q2)(bF:Int)(bG:Q2)(bH:Bool)(bI:Bool)(bJ:Int)(bK:List Int)(bL:Int)(bM:Int)(bN:Bool)(bO:Q1)(aN:Q1)(am:List (Q4)):Option ((((Q4)×Int×Unit)⊕((List (Q4))×Int))⊕(List (Q4))) :=
  (bif decide ((↑am.length:Int) > 0)then (Option.bind (idx am (0:Int)) fun v7=>(bif decide (v7.2.1≤cz)then (bif decide ((0:Int)≤1) && decide ((1:Int)≤(↑am.length:Int))then (some (Sum.inr (List.drop (Int.toNat (1:Int)) am)))else none)else (Option.map Sum.inl (y9d (cy) (am) (cz) (cN) (cA) (bA) (bB) (aZ) (b6) (b7) (b8) (b9) (ba) (aA) (aB) (aC) (aD) (aE) (aF) (aG) (aH) (aI) (aJ) (aK) (aL) (aM) (a7) (bc) (bd) (bn) (cB) (cC) (cD) (cE) (cF) (cG) (bC) (bD) (bE) (bF) (bG) (bH) (bI) (bJ) (bK) (bL) (bM) (bN) (bO) (aN)))))else (Option.map Sum.inl (y9d (cy) (am) (cz) (cN) (cA) (bA) (bB) (aZ) (b6) (b7) (b8) (b9) (ba) (aA) (aB) (aC) (aD) (aE) (aF) (aG) (aH) (aI) (aJ) (aK) (aL) (aM) (a7) (bc) (bd) (bn) (cB) (cC) (cD) (cE) (cF) (cG) (bC) (bD) (bE) (bF) (bG) (bH) (bI) (bJ) (bK) (bL) (bM) (bN) (bO) (aN))))
theorem yD8(n:Nat)(hn:big≤n)(r4:Q1→List (Q4)→List Nat→Int→Int→Q1→Q2→Q1→Q2→Int→Int→Q1→Int→Q2→Int→Q2→Bool→Bool→Int→List Int→Int→Int→Bool→Q1→Q1→Int→Int→Int→Q1→Q2→Q1→Q2→Int→Int→Q1→Int→Q2→Int→Q2→Bool→Bool→Int→List Int→Int→Int→Bool→Q1→Q1→Option ((Q4)×Int×Unit))(cy:Q1)(cz:Int)(cN:Nat)(cA:List Nat)(bA:Int)(bB:Int)(aZ:Q1)(b6:Q2)(b7:Q1)(b8:Q2)(b9:Int)(ba:Int)(aA:Q1)(aB:Int)(aC:Q2)(aD:Int)(aE:Q2)(aF:Bool)(aG:Bool)(aH:Int)(aI:List Int)(aJ:Int)(aK:Int)(aL:Bool)(aM:Q1)(a7:Q1)(bc:Int)(bd:Int)(bn:Int)(cB:Q1)(cC:Q2)(cD:Q1)(cE:Q2)(cF:Int)(cG:Int)(bC:Q1)(bD:Int)(bE:Q2)(bF:Int)(bG:Q2)(bH:Bool)(bI:Bool)(bJ:Int)(bK:List Int)(bL:Int)(bM:Int)(bN:Bool)(bO:Q1)(aN:Q1)(am:List (Q4)):LeF (elim some fun (az:((List (Q4))×Int))=>r4 cy az.1 cA bA (IntKind.i64.wrap (bB+1)) aZ b6 b7 b8 b9 ba aA aB aC aD aE aF aG aH aI aJ aK aL aM a7 bc bd az.2 cB cC cD cE cF cG bC bD bE bF bG bH bI bJ bK bL bM bN bO aN) (y1q (fun az=>yIY cy cz cN cA bA bB aZ b6 b7 b8 b9 ba aA aB aC aD aE aF aG aH aI aJ aK aL aM a7 bc bd bn cB cC cD cE cF cG bC bD bE bF bG bH bI bJ bK bL bM bN bO aN az) wMax am) (y6T n r4 n cy am cz cN cA bA bB aZ b6 b7 b8 b9 ba aA aB aC aD aE aF aG aH aI aJ aK aL aM a7 bc bd bn cB cC cD cE cF cG bC bD bE bF bG bH bI bJ bK bL bM bN bO aN):=by
  refine y52 (f:=(elim some fun (az:((List (Q4))×Int))=>r4 cy az.1 cA bA (IntKind.i64.wrap (bB+1)) aZ b6 b7 b8 b9 ba aA aB aC aD aE aF aG aH aI aJ aK aL aM a7 bc bd az.2 cB cC cD cE cF cG bC bD bE bF bG bH bI bJ bK bL bM bN bO aN)) (W:=fun dn az=>y6T n r4 dn cy az cz cN cA bA bB aZ b6 b7 b8 b9 ba aA aB aC aD aE aF aG aH aI aJ aK aL aM a7 bc bd bn cB cC cD cE cF cG bC bD bE bF bG bH bI bJ bK bL bM bN bO aN) (body:=(fun az=>yIY cy cz cN cA bA bB aZ b6 b7 b8 b9 ba aA aB aC aD aE aF aG aH aI aJ aK aL aM a7 bc bd bn cB cC cD cE cF cG bC bD bE bF bG bH bI bJ bK bL bM bN bO aN az)) (fun dn az=>?_) wMax n am (by unfold big at hn;unfold wMax;omega)
  show LeF _ _ (yEY n r4 (y6T n r4 dn) cy az cz cN cA bA bB aZ b6 b7 b8 b9 ba aA aB aC aD aE aF aG aH aI aJ aK aL aM a7 bc bd bn cB cC cD cE cF cG bC bD bE bF bG bH bI bJ bK bL bM bN bO aN)
  exact (yA (yE fun v7=>(yA (yA (y6 rfl) y19) (y0C (by apply y1w n hn)))) (y0C (by apply y1w n hn)))
def yE4(bZ:Q1)(bt:List Nat)(aq:Q1)(ar:Q2)(au:Q1)(bp:Q2)(av:Int)(aw:Int)(aS:Q1)(aT:Int)(aU:Q2)(aa:Int)(ac:Q2)(ae:Bool)(af:Bool)(ah:Int)(aV:List Int)(aW:Int)(aX:Int)(ai:Bool)(aj:Q1)(al:Q1)(ax:Int)(ay:Int)(ca:Q1)(cb:Q2)(cc:Q1)(cj:Q2)(cd:Int)(ce:Int)(bT:Q1)(bU:Int)(bV:Q2)(be:Int)(bf:Q2)(bg:Bool)(bh:Bool)(bi:Int)(bW:List Int)(bX:Int)(bY:Int)(bj:Bool)(bl:Q1)(aY:Q1)(bx:Int)(v5:Nat)(ak:List (Q4))(aP:Int):Option (((Q4)×Int×Unit)⊕((List (Q4))×Int)) :=
  (y1q (fun az=>yIY (bZ) (bx) (v5) (bt) ((↑bt.length:Int)) (bx) (aq) (ar) (au) (bp) (av) (aw) (aS) (aT) (aU) (aa) (ac) (ae) (af) (ah) (aV) (aW) (aX) (ai) (aj) (al) (ax) (ay) (aP) (ca) (cb) (cc) (cj) (cd) (ce) (bT) (bU) (bV) (be) (bf) (bg) (bh) (bi) (bW) (bX) (bY) (bj) (bl) (aY) az) wMax (ak))
def yHZ(bZ:Q1)(bt:List Nat)(aq:Q1)(ar:Q2)(au:Q1)(bp:Q2)(av:Int)(aw:Int)(aS:Q1)(aT:Int)(aU:Q2)(aa:Int)(ac:Q2)(ae:Bool)(af:Bool)(ah:Int)(aV:List Int)(aW:Int)(aX:Int)(ai:Bool)(aj:Q1)(al:Q1)(ax:Int)(ay:Int)(ca:Q1)(cb:Q2)(cc:Q1)(cj:Q2)(cd:Int)(ce:Int)(bT:Q1)(bU:Int)(bV:Q2)(be:Int)(bf:Q2)(bg:Bool)(bh:Bool)(bi:Int)(bW:List Int)(bX:Int)(bY:Int)(bj:Bool)(bl:Q1)(aY:Q1)(ak:List (Q4))(aP:Int):Option ((Q4)×Int×Unit) :=
  (Option.bind (y8B aP (IntKind.i64.wrap (cj.2.2.1 * cj.2.2.1))) fun v72=>(some (((v72.1.1,v72.1.2.1,()),(0:Int),()))))
theorem yDc(n:Nat)(hn:big≤n)(bZ:Q1)(bt:List Nat)(aq:Q1)(ar:Q2)(au:Q1)(bp:Q2)(av:Int)(aw:Int)(aS:Q1)(aT:Int)(aU:Q2)(aa:Int)(ac:Q2)(ae:Bool)(af:Bool)(ah:Int)(aV:List Int)(aW:Int)(aX:Int)(ai:Bool)(aj:Q1)(al:Q1)(ax:Int)(ay:Int)(ca:Q1)(cb:Q2)(cc:Q1)(cj:Q2)(cd:Int)(ce:Int)(bT:Q1)(bU:Int)(bV:Q2)(be:Int)(bf:Q2)(bg:Bool)(bh:Bool)(bi:Int)(bW:List Int)(bX:Int)(bY:Int)(bj:Bool)(bl:Q1)(aY:Q1)(ak:List (Q4))(aP:Int)(hx:List.length (bt) < lenMax):LeF some (yR (fun bw cT az=>yE4 bZ bt aq ar au bp av aw aS aT aU aa ac ae af ah aV aW aX ai aj al ax ay ca cb cc cj cd ce bT bU bV be bf bg bh bi bW bX bY bj bl aY bw cT az.1 az.2) (fun az=>yHZ bZ bt aq ar au bp av aw aS aT aU aa ac ae af ah aV aW aX ai aj al ax ay ca cb cc cj cd ce bT bU bV be bf bg bh bi bW bX bY bj bl aY az.1 az.2) 0 (bt) (ak,aP)) (y6d n n bZ ak bt (List.length (bt):Int) 0 aq ar au bp av aw aS aT aU aa ac ae af ah aV aW aX ai aj al ax ay aP ca cb cc cj cd ce bT bU bV be bf bg bh bi bW bX bY bj bl aY):=by
  refine yU (f:=some) (W:=fun dn bw az=>y6d n dn bZ az.1 bt (List.length (bt):Int) bw aq ar au bp av aw aS aT aU aa ac ae af ah aV aW aX ai aj al ax ay az.2 ca cb cc cj cd ce bT bU bV be bf bg bh bi bW bX bY bj bl aY) (body:=(fun bw cT az=>yE4 bZ bt aq ar au bp av aw aS aT aU aa ac ae af ah aV aW aX ai aj al ax ay ca cb cc cj cd ce bT bU bV be bf bg bh bi bW bX bY bj bl aY bw cT az.1 az.2)) (fin:=(fun az=>yHZ bZ bt aq ar au bp av aw aS aT aU aa ac ae af ah aV aW aX ai aj al ax ay ca cb cc cj cd ce bT bU bV be bf bg bh bi bW bX bY bj bl aY az.1 az.2)) (fun dn bw az=>?_) hx (ak,aP) n (by unfold big at hn;unfold lenMax at hx;omega)
  show LeF _ _ (yEO n (y6d n dn) bZ az.1 bt (List.length (bt):Int) bw aq ar au bp av aw aS aT aU aa ac ae af ah aV aW aX ai aj al ax ay az.2 ca cb cc cj cd ce bT bU bV be bf bg bh bi bW bX bY bj bl aY)
  exact yA (yE fun v5=>(by apply yD8 n hn)) (y0C (yE fun v72=>(y6 rfl)))
def yDk(rp:Q1)(t:Q2):Option ((Q4)×Int×Unit) :=
  (Option.bind (zj_M rp) fun v0=>(Option.bind (y8C t) fun v1=>(Option.bind (zv_M t) fun v2=>(Option.bind (y1y [v0.1,v1.1,(z1M (!v2.1) (4:Int)).1]) fun v3=>(bif v3.1 != 0 then (some ((((0:Int),(0:Int),()),v3.1,())))else (bif decide (List.length (rp.2.2.1) < lenMax)then yR (fun bw cT az=>yE4 (rp) (rp.2.2.1) (rp) (t) (rp) (t) ((0:Int)) (v3.1) (rp) (v0.1) (t) (v1.1) (t) (v2.1) (!v2.1) ((z1M (!v2.1) (4:Int)).1) ([v0.1,v1.1,(z1M (!v2.1) (4:Int)).1]) (v3.1) (v3.1) (v3.1 != 0) (rp) (rp) ((0:Int)) ((0:Int)) (rp) (t) (rp) (t) ((0:Int)) (v3.1) (rp) (v0.1) (t) (v1.1) (t) (v2.1) (!v2.1) ((z1M (!v2.1) (4:Int)).1) ([v0.1,v1.1,(z1M (!v2.1) (4:Int)).1]) (v3.1) (v3.1) (v3.1 != 0) (rp) (rp) bw cT az.1 az.2) (fun az=>yHZ (rp) (rp.2.2.1) (rp) (t) (rp) (t) ((0:Int)) (v3.1) (rp) (v0.1) (t) (v1.1) (t) (v2.1) (!v2.1) ((z1M (!v2.1) (4:Int)).1) ([v0.1,v1.1,(z1M (!v2.1) (4:Int)).1]) (v3.1) (v3.1) (v3.1 != 0) (rp) (rp) ((0:Int)) ((0:Int)) (rp) (t) (rp) (t) ((0:Int)) (v3.1) (rp) (v0.1) (t) (v1.1) (t) (v2.1) (!v2.1) ((z1M (!v2.1) (4:Int)).1) ([v0.1,v1.1,(z1M (!v2.1) (4:Int)).1]) (v3.1) (v3.1) (v3.1 != 0) (rp) (rp) az.1 az.2) 0 (rp.2.2.1) ((rp.2.2.2.1),((0:Int)))else none))))))
theorem yQu(rp:Q1)(t:Q2)(y:(Q4)×Int×Unit)(h:yDk rp t=some y):∃ n,yKn n rp t=some y :=
  ⟨big,LeF.top (show LeF some (yDk rp t) (yKn big rp t)from (fun (n:Nat) (hn:big≤n)=>show LeF some (yDk rp t) (yKn n rp t)from (yE fun v0=>(yE fun v1=>(yE fun v2=>(yE fun v3=>(yA (y6 rfl) (yV fun hx=>by apply yDc n hn;exact hx))))))) big (Nat.le_refl _)) h⟩
def z0D_e:Entry:={ f:=37,args:=yPj,ress:=yaD,m:=fun x=>yDk x.1 x.2.1 }
theorem yNh:FnOK Tryz.prog z0D_e:=yJ (g:=yTP) (fn:=Tryz.f37) yB yI (y8 yWs (y8 yEi (y8 yb8 (y8 y6H (y8 y4J (y8 yON (y8 yIT eNil))))))) (by kernel_rfl) (by kernel_rfl) (by kernel_rfl) (fun x y h=>let ⟨n,hn⟩:=yQu x.1 x.2.1 y h;⟨yNt n,(y5H y5M (y5H y5N iNil)),(yVu n x).trans hn⟩)
abbrev yOR:Ty:=.pair t33 .unit
abbrev yTo:Ty:=.pair t79 (.pair t28 .unit)
def yWo:G:={ T:=T,E:=[z03_e,z0j_e,z1M_e,zF_e,z16_e,z0k_e,zH_e],muts:=[],fz:=[] }
def yaT:List (List Nat):=[]
def yN8(n:Nat):Ann:={ keep:=yaT,fuel:=n,inl:=[],deep:=0 }
def yPw(n:Nat)(t:Q2):Option (List (Nat×Nat)×Int×Unit) :=
  (Option.bind (y8C t) fun v0=>(bif v0.1 != 0 then some ([],v0.1,())else (Option.bind (zF_M t.2.1 fun (x:(Q4)×Unit)=>ySP x.1) fun v1=>(Option.bind (y1y v1.1) fun v2=>(Option.bind (y1y [(z1M (y3N IntKind.i64 Go.BinOp.and t.2.2.1 (IntKind.i64.wrap (t.2.2.1 - (1:Int))) != 0) (1:Int)).1,v2.1]) fun v3=>(bif v3.1 != 0 then some ([],v3.1,())else (Option.bind (zH_M t.2.1 fun (x:(Q4)×Unit)=>yQk x.1 (y17 Go.FloatKind.f32 (IntKind.i64.wrap ((16:Int) * t.2.2.1)),nat_lit 0)) fun v4=>some (v4.1,(0:Int),()))))))))
theorem yVM(n:Nat)(x:yOR.den):runF yWo (yN8 n) Tryz.f43 yOR yTo x=yPw n x.1:=by kernel_rfl
def yQg(t:Q2):Option (List (Nat×Nat)×Int×Unit):=yPw 0 t
theorem yOx(t:Q2)(y:List (Nat×Nat)×Int×Unit)(h:yQg t=some y):∃ n,yPw n t=some y:=⟨0,h⟩
def z1K_e:Entry:={ f:=43,args:=yOR,ress:=yTo,m:=fun x=>yQg x.1 }
theorem yWF:FnOK Tryz.prog z1K_e:=yJ (g:=yWo) (fn:=Tryz.f43) yB yI (y8 yEi (y8 yZc (y8 y6H (y8 yYV (y8 y4J (y8 yWC (y8 ycn eNil))))))) (by kernel_rfl) (by kernel_rfl) (by kernel_rfl) (fun x y h=>let ⟨n,hn⟩:=yOx x.1 y h;⟨yN8 n,iNil,(yVM n x).trans hn⟩)
abbrev zX_a:Ty:=.pair t94 .unit
abbrev zX_r:Ty:=.pair t3 .unit
def zX_g:G:={ T:=T,E:=[zW_e,z0e_e],muts:=[],fz:=[] }
def zX_k:List (List Nat):=[]
def yTR(n:Nat):Ann:={ keep:=zX_k,fuel:=n,inl:=[],deep:=0 }
def zX_m(n:Nat)(rp:Q1):Option (Int×Unit) :=
  (Option.bind (zW_M rp) fun v0=>(bif v0.1 != 0 then some (v0.1,())else (Option.bind (y9t rp) fun v1=>(bif decide ((↑v1.1.length:Int) > 128)then some ((5:Int),())else some ((0:Int),())))))
theorem yb3(n:Nat)(x:zX_a.den):runF zX_g (yTR n) Tryz.f69 zX_a zX_r x=zX_m n x.1:=by kernel_rfl
def zX_M(rp:Q1):Option (Int×Unit):=zX_m 0 rp
theorem yYm(rp:Q1)(y:Int×Unit)(h:zX_M rp=some y):∃ n,zX_m n rp=some y:=⟨0,h⟩
def zX_e:Entry:={ f:=69,args:=zX_a,ress:=zX_r,m:=fun x=>zX_M x.1 }
theorem ybB:FnOK Tryz.prog zX_e:=yJ (g:=zX_g) (fn:=Tryz.f69) yB yI (y8 ybm (y8 yNL eNil)) (by kernel_rfl) (by kernel_rfl) (by kernel_rfl) (fun x y h=>let ⟨n,hn⟩:=yYm x.1 y h;⟨yTR n,iNil,(yb3 n x).trans hn⟩)
def il174:Inl:={ f:=174,fn:=Tryz.f174,keep:=[],muts:=[],fz:=[] }
theorem yLO:y6R Tryz.prog il174:=⟨by kernel_rfl,by kernel_rfl,fun e0 h=>by cases (show (none:Option LibK)=some e0 from h)⟩
def il178:Inl:={ f:=178,fn:=Tryz.f178,keep:=[],muts:=[],fz:=[] }
theorem yMS:y6R Tryz.prog il178:=⟨by kernel_rfl,by kernel_rfl,fun e0 h=>by cases (show (none:Option LibK)=some e0 from h)⟩
def il216:Inl:={ f:=216,fn:=Tryz.f216,lib:=some (.copy 228) }
theorem yKf:y6R Tryz.prog il216:=⟨by kernel_rfl,by kernel_rfl,fun e0 h=>by cases (show some (.copy 228:LibK)=some e0 from h);exact yRa⟩
abbrev ySB:Ty:=.pair t33 .unit
abbrev yXu:Ty:=.pair t9 (.pair t28 .unit)
def yXF:G:={ T:=T,E:=[z03_e,z0N_e,zN_e,z0O_e],muts:=[5],fz:=[] }
def yb4:List (List Nat):=[[1,5,22,23,24]]
def yNU(n:Nat):Ann:={ keep:=yb4,fuel:=n,inl:=[il174,il178,il216],deep:=8 }
def yKy(n:Nat)(r2:Q2→List (Q3)→Int→Int→List Int→Option (List UInt8×Int×Unit))(dB:Q2)(aR:List (Q3))(dZ:Int)(dy:Int)(cx:List Int):Option (List UInt8×Int×Unit) :=
  (bif decide (dy < dZ)then (Option.bind (idx aR dy) fun v3=>(Option.bind (idx dB.2.1 dy) fun v4=>(Option.bind (zN_M [v3.2.1,v3.2.2.1,v4.1,v4.2.1] fun (x:Int×Unit)=>yLv x.1) fun v5=>(bif decide ((12:Nat)+v3.1.length < strMax)then (bif decide (([(99:UInt8),111,110,115,116,105,116,117,101,110,116,32]++v3.1).length+(1:Nat) < strMax)then (Option.bind (yMY v5.1 [(32:UInt8)]) fun v6=>(bif decide (([(99:UInt8),111,110,115,116,105,116,117,101,110,116,32]++v3.1++[(32:UInt8)]).length+v6.1.length < strMax)then (bif decide (([(99:UInt8),111,110,115,116,105,116,117,101,110,116,32]++v3.1++[(32:UInt8)]++v6.1).length+(1:Nat) < strMax)then (bif decide (cx.length+([(99:UInt8),111,110,115,116,105,116,117,101,110,116,32]++v3.1++[(32:UInt8)]++v6.1++[(10:UInt8)]).length≤memMax)then r2 dB aR dZ (IntKind.i64.wrap (dy+1)) (cx++y2J ([(99:UInt8),111,110,115,116,105,116,117,101,110,116,32]++v3.1++[(32:UInt8)]++v6.1++[(10:UInt8)]))else none)else none)else none))else none)else none))))else (bif decide ((0:Nat) < cx.length)then (bif (↑cx.length:Int)==(↑cx.length:Int) && decide ((0:Nat) < cx.length) && y9a cx then some (y32 cx,(0:Int),())else none)else none))
def yKV(n:Nat)(k:Nat)(dB:Q2)(aR:List (Q3))(dZ:Int)(dy:Int)(cx:List Int):Option (List UInt8×Int×Unit) :=
  iter (fun r y=>yKy n (fun dB aR dZ dy cx=>r ((dB,(aR,(dZ,(dy,())))),(((),(cx,())),()))) y.1.1 y.1.2.1 y.1.2.2.1 y.1.2.2.2.1 y.2.1.2.1) k ((dB,(aR,(dZ,(dy,())))),(((),(cx,())),()))
def yQd(n:Nat)(t:Q2):Option (List UInt8×Int×Unit) :=
  (Option.bind (y8C t) fun v0=>(bif v0.1 != 0 then some ([],v0.1,())else (Option.bind (yLv t.2.2.1) fun v1=>(bif decide ((5:Nat)+v1.1.length < strMax)then (bif decide (([(116:UInt8),105,100,101,32]++v1.1).length+(1:Nat) < strMax)then (bif decide ((0:Nat)+([(116:UInt8),105,100,101,32]++v1.1++[(10:UInt8)]).length≤memMax)then (yKV n n (t) (t.1) ((↑t.1.length:Int)) ((0:Int)) (y2J ([(116:UInt8),105,100,101,32]++v1.1++[(10:UInt8)])))else none)else none)else none))))
theorem yWG(n:Nat)(x:ySB.den):runF yXF (yNU n) Tryz.f97 ySB yXu x=yQd n x.1:=by kernel_rfl
def yP8(t:Q2):Option (List UInt8×Int×Unit):=yQd 1000 t
theorem ySm(t:Q2)(y:List UInt8×Int×Unit)(h:yP8 t=some y):∃ n,yQd n t=some y:=⟨1000,h⟩
def z14_e:Entry:={ f:=97,args:=ySB,ress:=yXu,m:=fun x=>yP8 x.1 }
theorem yYK:FnOK Tryz.prog z14_e:=yJ (g:=yXF) (fn:=Tryz.f97) yB yI (y8 yEi (y8 yXv (y8 yb7 (y8 yVq eNil)))) (by kernel_rfl) (by kernel_rfl) (by kernel_rfl) (fun x y h=>let ⟨n,hn⟩:=ySm x.1 y h;⟨yNU n,(y5H yLO (y5H yMS (y5H yKf iNil))),(yWG n x).trans hn⟩)
abbrev yQE:Ty:=.pair t60 (.pair t31 .unit)
abbrev yZQ:Ty:=.pair t28 .unit
def yY3:G:={ T:=T,E:=[zj_e,zL_e,z16_e],muts:=[],fz:=[] }
def ydC:List (List Nat):=[]
def yNc(n:Nat):Ann:={ keep:=ydC,fuel:=n,inl:=[],deep:=0 }
def yRA(n:Nat)(rp:Q1)(l:List (Q3)):Option (Int×Unit) :=
  (Option.bind (zj_M rp) fun v0=>(Option.bind (zL_M l) fun v1=>(Option.bind (y1y [v0.1,v1.1]) fun v2=>some (v2.1,()))))
theorem yWm(n:Nat)(x:yQE.den):runF yY3 (yNc n) Tryz.f119 yQE yZQ x=yRA n x.1 x.2.1:=by kernel_rfl
def y9w(rp:Q1)(l:List (Q3)):Option (Int×Unit):=yRA 0 rp l
theorem yQB(rp:Q1)(l:List (Q3))(y:Int×Unit)(h:y9w rp l=some y):∃ n,yRA n rp l=some y:=⟨0,h⟩
def z15_e:Entry:={ f:=119,args:=yQE,ress:=yZQ,m:=fun x=>y9w x.1 x.2.1 }
theorem y7v:FnOK Tryz.prog z15_e:=yJ (g:=yY3) (fn:=Tryz.f119) yB yI (y8 yWs (y8 yUo (y8 y4J eNil))) (by kernel_rfl) (by kernel_rfl) (by kernel_rfl) (fun x y h=>let ⟨n,hn⟩:=yQB x.1 x.2.1 y h;⟨yNc n,iNil,(yWm n x).trans hn⟩)
abbrev yRy:Ty:=.pair t60 (.pair t31 .unit)
abbrev yVB:Ty:=.pair t23 (.pair t23 (.pair t3 .unit))
def yZ9:G:={ T:=T,E:=[z0V_e,zA_e,z0m_e,zk_e,zK_e],muts:=[9],fz:=[] }
def ybn:List (List Nat):=[[7,8,9,18,19]]
def yNT(n:Nat):Ann:={ keep:=ybn,fuel:=n,inl:=[],deep:=0 }
def yL4(n:Nat)(r2:List (Q4)→List (List (Q4))→Int→Int→List (Q4)→Option (List (Q4)×List (Q4)×Int×Unit))(eJ:List (Q4))(eK:List (List (Q4)))(e6:Int)(dE:Int)(cl:List (Q4)):Option (List (Q4)×List (Q4)×Int×Unit) :=
  (bif decide (dE < e6)then (Option.bind (zk_M eK dE eJ) fun v3=>(Option.bind (zK_M v3.1) fun v4=>(bif decide (cl.length+(1:Nat)≤memMax)then r2 eJ eK e6 (IntKind.i64.wrap (dE+1)) (cl++[v4.1])else none)))else (Option.bind (zK_M eK) fun v5=>some (cl,eJ,v5.1.1,())))
def yKY(n:Nat)(k:Nat)(eJ:List (Q4))(eK:List (List (Q4)))(e6:Int)(dE:Int)(cl:List (Q4)):Option (List (Q4)×List (Q4)×Int×Unit) :=
  iter (fun r y=>yL4 n (fun eJ eK e6 dE cl=>r ((eJ,(eK,(e6,(dE,())))),((cl,()),()))) y.1.1 y.1.2.1 y.1.2.2.1 y.1.2.2.2.1 y.2.1.1) k ((eJ,(eK,(e6,(dE,())))),((cl,()),()))
def yOq(n:Nat)(rp:Q1)(l:List (Q3)):Option (List (Q4)×List (Q4)×Int×Unit) :=
  (Option.bind (zA_M l fun (x:(Q3)×Unit)=>yQY x.1 rp) fun v0=>(Option.bind (yD7 rp l) fun v1=>(yKY n n (v0.1) (v1.1) ((↑l.length:Int)) ((0:Int)) ([]))))
theorem yYp(n:Nat)(x:yRy.den):runF yZ9 (yNT n) Tryz.f120 yRy yVB x=yOq n x.1 x.2.1:=by kernel_rfl
def yKu(rp:Q1)(l:List (Q3)):Option (List (Q4)×List (Q4)×Int×Unit):=yOq 1000 rp l
theorem yPG(rp:Q1)(l:List (Q3))(y:List (Q4)×List (Q4)×Int×Unit)(h:yKu rp l=some y):∃ n,yOq n rp l=some y:=⟨1000,h⟩
def z1A_e:Entry:={ f:=120,args:=yRy,ress:=yVB,m:=fun x=>yKu x.1 x.2.1 }
theorem yNj:FnOK Tryz.prog z1A_e:=yJ (g:=yZ9) (fn:=Tryz.f120) yB yI (y8 yX7 (y8 ySt (y8 yCC (y8 yTO (y8 yLs eNil))))) (by kernel_rfl) (by kernel_rfl) (by kernel_rfl) (fun x y h=>let ⟨n,hn⟩:=yPG x.1 x.2.1 y h;⟨yNT n,iNil,(yYp n x).trans hn⟩)
abbrev yPe:Ty:=.pair t60 (.pair t31 .unit)
abbrev yVA:Ty:=.pair t4 .unit
def yTd:G:={ T:=T,E:=[z0m_e,zK_e],muts:=[],fz:=[] }
def ycW:List (List Nat):=[]
def yO1(n:Nat):Ann:={ keep:=ycW,fuel:=n,inl:=[],deep:=0 }
def ySH(n:Nat)(rp:Q1)(l:List (Q3)):Option (Bool×Unit) :=
  (Option.bind (yD7 rp l) fun v0=>(Option.bind (zK_M v0.1) fun v1=>some (eqV ((Ty.int IntKind.i64).pair ((Ty.int IntKind.i64).pair Ty.unit)) v1.1 ((0:Int),(0:Int),()),())))
theorem yWi(n:Nat)(x:yPe.den):runF yTd (yO1 n) Tryz.f146 yPe yVA x=ySH n x.1 x.2.1:=by kernel_rfl
def yMT(rp:Q1)(l:List (Q3)):Option (Bool×Unit):=ySH 0 rp l
theorem yQ5(rp:Q1)(l:List (Q3))(y:Bool×Unit)(h:yMT rp l=some y):∃ n,ySH n rp l=some y:=⟨0,h⟩
def z07_e:Entry:={ f:=146,args:=yPe,ress:=yVA,m:=fun x=>yMT x.1 x.2.1 }
theorem yNQ:FnOK Tryz.prog z07_e:=yJ (g:=yTd) (fn:=Tryz.f146) yB yI (y8 yCC (y8 yLs eNil)) (by kernel_rfl) (by kernel_rfl) (by kernel_rfl) (fun x y h=>let ⟨n,hn⟩:=yQ5 x.1 x.2.1 y h;⟨yO1 n,iNil,(yWi n x).trans hn⟩)
end
end Go.Tw
end
section
set_option maxRecDepth 1000000
namespace Go.Tw
open Go.Vx Go.Vx.B Go.Proofs
noncomputable section
end
end Go.Tw
end
section
set_option maxRecDepth 1000000
namespace Go.Tw
open Go.Vx Go.Vx.B Go.Proofs
noncomputable section
abbrev yPB:Ty:=.pair t33 (.pair t3 (.pair t3 .unit))
abbrev yWH:Ty:=.pair t35 (.pair t28 .unit)
def yWb:G:={ T:=T,E:=[z0Q_e,z0T_e,z0E_e],muts:=[10],fz:=[] }
def ycH:List (List Nat):=[[3,10,24,25,26]]
def yMj(n:Nat):Ann:={ keep:=ycH,fuel:=n,inl:=[],deep:=0 }
def yLQ(n:Nat)(r1:Q2→List (Q4)→Int→Int→List Nat→Option (List Nat×Int×Unit))(bq:Q2)(e7:List (Q4))(e8:Int)(dF:Int)(eL:List Nat):Option (List Nat×Int×Unit) :=
  (bif decide (dF < e8)then (Option.bind (idx e7 dF) fun v2=>(Option.bind (yPy v2.1 bq.2.2.1) fun v3=>(bif decide ((z0E v3.1).1 > 1024)then some ([],(16:Int),())else (bif decide (eL.length+(1:Nat)≤memMax)then r1 bq e7 e8 (IntKind.i64.wrap (dF+1)) (eL++[y01 Go.BinOp.quo Go.FloatKind.f32 (y17 Go.FloatKind.f32 v3.1) (nat_lit 1098907648)])else none))))else some (eL,(0:Int),()))
def yM9(n:Nat)(k:Nat)(bq:Q2)(e7:List (Q4))(e8:Int)(dF:Int)(eL:List Nat):Option (List Nat×Int×Unit) :=
  iter (fun r y=>yLQ n (fun bq e7 e8 dF eL=>r ((bq,(e7,(e8,(dF,())))),((eL,()),()))) y.1.1 y.1.2.1 y.1.2.2.1 y.1.2.2.2.1 y.2.1.1) k ((bq,(e7,(e8,(dF,())))),((eL,()),()))
def yS9(n:Nat)(t:Q2)(p1:Int)(np:Int):Option (List Nat×Int×Unit) :=
  (Option.bind (yG2 t p1 np) fun v0=>(bif v0.2.1 != 0 then some ([],v0.2.1,())else (yM9 n n (t) (v0.1) ((↑v0.1.length:Int)) ((0:Int)) ([]))))
theorem yWO(n:Nat)(x:yPB.den):runF yWb (yMj n) Tryz.f22 yPB yWH x=yS9 n x.1 x.2.1 x.2.2.1:=by kernel_rfl
def yRc(t:Q2)(p1:Int)(np:Int):Option (List Nat×Int×Unit):=yS9 1000 t p1 np
theorem ySs(t:Q2)(p1:Int)(np:Int)(y:List Nat×Int×Unit)(h:yRc t p1 np=some y):∃ n,yS9 n t p1 np=some y:=⟨1000,h⟩
def z0h_e:Entry:={ f:=22,args:=yPB,ress:=yWH,m:=fun x=>yRc x.1 x.2.1 x.2.2.1 }
theorem yW3:FnOK Tryz.prog z0h_e:=yJ (g:=yWb) (fn:=Tryz.f22) yB yI (y8 yMz (y8 yV0 (y8 yBA eNil))) (by kernel_rfl) (by kernel_rfl) (by kernel_rfl) (fun x y h=>let ⟨n,hn⟩:=ySs x.1 x.2.1 x.2.2.1 y h;⟨yMj n,iNil,(yWO n x).trans hn⟩)
abbrev yRZ:Ty:=.pair t60 (.pair t31 .unit)
abbrev yYX:Ty:=.pair t33 (.pair t28 .unit)
def yV7:G:={ T:=T,E:=[z15_e,z1A_e,z0U_e],muts:=[],fz:=[] }
def ydD:List (List Nat):=[]
def yNK(n:Nat):Ann:={ keep:=ydD,fuel:=n,inl:=[],deep:=0 }
def yRD(n:Nat)(rp:Q1)(l:List (Q3)):Option ((Q2)×Int×Unit) :=
  (Option.bind (y9w rp l) fun v0=>(bif v0.1 != 0 then some (([],[],(0:Int),()),v0.1,())else (Option.bind (yKu rp l) fun v1=>(bif v1.2.2.1==0 then some (([],[],(0:Int),()),(25:Int),())else (Option.bind (yQ2 l v1.1 v1.2.2.1) fun v2=>some ((v2.1.1,v2.1.2.1,v2.1.2.2.1,()),(0:Int),()))))))
theorem yaP(n:Nat)(x:yRZ.den):runF yV7 (yNK n) Tryz.f34 yRZ yYX x=yRD n x.1 x.2.1:=by kernel_rfl
def yLU(rp:Q1)(l:List (Q3)):Option ((Q2)×Int×Unit):=yRD 0 rp l
theorem ySi(rp:Q1)(l:List (Q3))(y:(Q2)×Int×Unit)(h:yLU rp l=some y):∃ n,yRD n rp l=some y:=⟨0,h⟩
def z0P_e:Entry:={ f:=34,args:=yRZ,ress:=yYX,m:=fun x=>yLU x.1 x.2.1 }
theorem yZr:FnOK Tryz.prog z0P_e:=yJ (g:=yV7) (fn:=Tryz.f34) yB yI (y8 y7v (y8 yNj (y8 yYg eNil))) (by kernel_rfl) (by kernel_rfl) (by kernel_rfl) (fun x y h=>let ⟨n,hn⟩:=ySi x.1 x.2.1 y h;⟨yNK n,iNil,(yaP n x).trans hn⟩)
abbrev zi_a:Ty:=.pair t60 (.pair t31 .unit)
abbrev zi_r:Ty:=.pair t3 (.pair t28 .unit)
def zi_g:G:={ T:=T,E:=[z15_e,z0m_e,zK_e],muts:=[],fz:=[] }
def zi_k:List (List Nat):=[]
def ya7(n:Nat):Ann:={ keep:=zi_k,fuel:=n,inl:=[],deep:=0 }
def zi_m(n:Nat)(rp:Q1)(l:List (Q3)):Option (Q4) :=
  (Option.bind (y9w rp l) fun v0=>(bif v0.1 != 0 then some ((0:Int),v0.1,())else (Option.bind (yD7 rp l) fun v1=>(Option.bind (zK_M v1.1) fun v2=>some (v2.1.1,(0:Int),())))))
theorem yac(n:Nat)(x:zi_a.den):runF zi_g (ya7 n) Tryz.f35 zi_a zi_r x=zi_m n x.1 x.2.1:=by kernel_rfl
def zi_M(rp:Q1)(l:List (Q3)):Option (Q4):=zi_m 0 rp l
theorem yTN(rp:Q1)(l:List (Q3))(y:Q4)(h:zi_M rp l=some y):∃ n,zi_m n rp l=some y:=⟨0,h⟩
def zi_e:Entry:={ f:=35,args:=zi_a,ress:=zi_r,m:=fun x=>zi_M x.1 x.2.1 }
theorem ycx:FnOK Tryz.prog zi_e:=yJ (g:=zi_g) (fn:=Tryz.f35) yB yI (y8 y7v (y8 yCC (y8 yLs eNil))) (by kernel_rfl) (by kernel_rfl) (by kernel_rfl) (fun x y h=>let ⟨n,hn⟩:=yTN x.1 x.2.1 y h;⟨ya7 n,iNil,(yac n x).trans hn⟩)
abbrev yPu:Ty:=.pair t60 (.pair t31 .unit)
abbrev yaA:Ty:=.pair t69 (.pair t28 .unit)
def yUZ:G:={ T:=T,E:=[z15_e,z1A_e,z06_e,z1C_e,z19_e],muts:=[],fz:=[] }
def ybJ:List (List Nat):=[[4,8,9,10,43,44,45]]
def yNl(n:Nat):Ann:={ keep:=ybJ,fuel:=n,inl:=[il124,il195],deep:=3 }
def yBc(n:Nat)(r2:Q1→List (Q4)→List Nat→Int→Int→Q1→List (Q3)→Q1→Int→Int→List (Q4)→List (Q4)→Q1→List (Q3)→Int→Int→Bool→Q1→List (Q3)→List (Q4)→List (Q4)→Int→Int→Bool→Q1→Q1→Int→Int→Int→Int→Q1→List (Q3)→Q1→Int→Int→List (Q4)→List (Q4)→Q1→List (Q3)→Int→Int→Bool→Q1→List (Q3)→List (Q4)→List (Q4)→Int→Int→Bool→Q1→Q1→Option ((Q4)×Int×Unit))(j10:Q1)(j11:List (Q4))(j12:Int)(j13:Nat)(j14:List Nat)(j15:Int)(j16:Int)(j17:Q1)(j18:List (Q3))(j19:Q1)(j20:Int)(j21:Int)(j22:List (Q4))(j23:List (Q4))(j24:Q1)(j25:List (Q3))(j26:Int)(j27:Int)(j28:Bool)(j29:Q1)(j30:List (Q3))(j31:List (Q4))(j32:List (Q4))(j33:Int)(j34:Int)(j35:Bool)(j36:Q1)(j37:Q1)(j38:Int)(j39:Int)(j40:Int)(j41:Int)(j42:Q1)(j43:List (Q3))(j44:Q1)(j45:Int)(j46:Int)(j47:List (Q4))(j48:List (Q4))(j49:Q1)(j50:List (Q3))(j51:Int)(j52:Int)(j53:Bool)(j54:Q1)(j55:List (Q3))(j56:List (Q4))(j57:List (Q4))(j58:Int)(j59:Int)(j60:Bool)(j61:Q1)(j62:Q1):Option ((Q4)×Int×Unit) :=
  (bif decide ((↑j11.length:Int) > 0)then (Option.bind (idx j11 (0:Int)) fun v63=>(bif decide (v63.1≤j12)then r2 j10 j11 j14 j15 (IntKind.i64.wrap (j16+1)) j17 j18 j19 j20 j21 j22 j23 j24 j25 j26 j27 j28 j29 j30 j31 j32 j33 j34 j35 j36 j37 j38 j39 j40 j41 j42 j43 j44 j45 j46 j47 j48 j49 j50 j51 j52 j53 j54 j55 j56 j57 j58 j59 j60 j61 j62 else (Option.bind (y02 Go.FloatKind.f32 (y01 Go.BinOp.mul Go.FloatKind.f32 j13 (nat_lit 1098907648)) IntKind.i64) fun v68=>r2 j10 j11 j14 j15 (IntKind.i64.wrap (j16+1)) j17 j18 j19 j20 j21 j22 j23 j24 j25 j26 j27 j28 j29 j30 j31 j32 j33 j34 j35 j36 j37 j38 j39 j40 (IntKind.i64.wrap (j41+IntKind.i64.wrap (IntKind.i64.wrap (j40 * v68) * v68))) j42 j43 j44 j45 j46 j47 j48 j49 j50 j51 j52 j53 j54 j55 j56 j57 j58 j59 j60 j61 j62)))else (Option.bind (y02 Go.FloatKind.f32 (y01 Go.BinOp.mul Go.FloatKind.f32 j13 (nat_lit 1098907648)) IntKind.i64) fun v69=>r2 j10 j11 j14 j15 (IntKind.i64.wrap (j16+1)) j17 j18 j19 j20 j21 j22 j23 j24 j25 j26 j27 j28 j29 j30 j31 j32 j33 j34 j35 j36 j37 j38 j39 j40 (IntKind.i64.wrap (j41+IntKind.i64.wrap (IntKind.i64.wrap (j40 * v69) * v69))) j42 j43 j44 j45 j46 j47 j48 j49 j50 j51 j52 j53 j54 j55 j56 j57 j58 j59 j60 j61 j62))
def yKK(n:Nat)(r2:Q1→List (Q4)→List Nat→Int→Int→Q1→List (Q3)→Q1→Int→Int→List (Q4)→List (Q4)→Q1→List (Q3)→Int→Int→Bool→Q1→List (Q3)→List (Q4)→List (Q4)→Int→Int→Bool→Q1→Q1→Int→Int→Int→Int→Q1→List (Q3)→Q1→Int→Int→List (Q4)→List (Q4)→Q1→List (Q3)→Int→Int→Bool→Q1→List (Q3)→List (Q4)→List (Q4)→Int→Int→Bool→Q1→Q1→Option ((Q4)×Int×Unit))(r4:Q1→List (Q4)→Int→Nat→List Nat→Int→Int→Q1→List (Q3)→Q1→Int→Int→List (Q4)→List (Q4)→Q1→List (Q3)→Int→Int→Bool→Q1→List (Q3)→List (Q4)→List (Q4)→Int→Int→Bool→Q1→Q1→Int→Int→Int→Int→Q1→List (Q3)→Q1→Int→Int→List (Q4)→List (Q4)→Q1→List (Q3)→Int→Int→Bool→Q1→List (Q3)→List (Q4)→List (Q4)→Int→Int→Bool→Q1→Q1→Option ((Q4)×Int×Unit))(bZ:Q1)(ak:List (Q4))(eu:Int)(eM:Nat)(bt:List Nat)(cg:Int)(bx:Int)(aq:Q1)(ar:List (Q3))(au:Q1)(av:Int)(aw:Int)(cQ:List (Q4))(cR:List (Q4))(aa:Q1)(ac:List (Q3))(ae:Int)(af:Int)(ah:Bool)(ai:Q1)(cm:List (Q3))(aj:List (Q4))(cn:List (Q4))(co:Int)(cp:Int)(cr:Bool)(cu:Q1)(bP:Q1)(ax:Int)(ay:Int)(aP:Int)(cS:Int)(ca:Q1)(cb:List (Q3))(cc:Q1)(cd:Int)(ce:Int)(eN:List (Q4))(eO:List (Q4))(be:Q1)(bf:List (Q3))(bg:Int)(bh:Int)(bi:Bool)(bj:Q1)(dG:List (Q3))(bl:List (Q4))(dH:List (Q4))(dI:Int)(dJ:Int)(dK:Bool)(dL:Q1)(cw:Q1):Option ((Q4)×Int×Unit) :=
  (bif decide ((↑ak.length:Int) > 0)then (Option.bind (idx ak (0:Int)) fun v5=>(bif decide (v5.2.1≤eu)then (bif decide ((0:Int)≤1) && decide ((1:Int)≤(↑ak.length:Int))then r4 bZ (List.drop (Int.toNat (1:Int)) ak) eu eM bt cg bx aq ar au av aw cQ cR aa ac ae af ah ai cm aj cn co cp cr cu bP ax ay aP cS ca cb cc cd ce eN eO be bf bg bh bi bj dG bl dH dI dJ dK dL cw else none)else (yBc n r2 (bZ) (ak) (eu) (eM) (bt) (cg) (bx) (aq) (ar) (au) (av) (aw) (cQ) (cR) (aa) (ac) (ae) (af) (ah) (ai) (cm) (aj) (cn) (co) (cp) (cr) (cu) (bP) (ax) (ay) (aP) (cS) (ca) (cb) (cc) (cd) (ce) (eN) (eO) (be) (bf) (bg) (bh) (bi) (bj) (dG) (bl) (dH) (dI) (dJ) (dK) (dL) (cw))))else (yBc n r2 (bZ) (ak) (eu) (eM) (bt) (cg) (bx) (aq) (ar) (au) (av) (aw) (cQ) (cR) (aa) (ac) (ae) (af) (ah) (ai) (cm) (aj) (cn) (co) (cp) (cr) (cu) (bP) (ax) (ay) (aP) (cS) (ca) (cb) (cc) (cd) (ce) (eN) (eO) (be) (bf) (bg) (bh) (bi) (bj) (dG) (bl) (dH) (dI) (dJ) (dK) (dL) (cw)))
def yLY(n:Nat)(r2:Q1→List (Q4)→List Nat→Int→Int→Q1→List (Q3)→Q1→Int→Int→List (Q4)→List (Q4)→Q1→List (Q3)→Int→Int→Bool→Q1→List (Q3)→List (Q4)→List (Q4)→Int→Int→Bool→Q1→Q1→Int→Int→Int→Int→Q1→List (Q3)→Q1→Int→Int→List (Q4)→List (Q4)→Q1→List (Q3)→Int→Int→Bool→Q1→List (Q3)→List (Q4)→List (Q4)→Int→Int→Bool→Q1→Q1→Option ((Q4)×Int×Unit))(k:Nat)(bZ:Q1)(ak:List (Q4))(eu:Int)(eM:Nat)(bt:List Nat)(cg:Int)(bx:Int)(aq:Q1)(ar:List (Q3))(au:Q1)(av:Int)(aw:Int)(cQ:List (Q4))(cR:List (Q4))(aa:Q1)(ac:List (Q3))(ae:Int)(af:Int)(ah:Bool)(ai:Q1)(cm:List (Q3))(aj:List (Q4))(cn:List (Q4))(co:Int)(cp:Int)(cr:Bool)(cu:Q1)(bP:Q1)(ax:Int)(ay:Int)(aP:Int)(cS:Int)(ca:Q1)(cb:List (Q3))(cc:Q1)(cd:Int)(ce:Int)(eN:List (Q4))(eO:List (Q4))(be:Q1)(bf:List (Q3))(bg:Int)(bh:Int)(bi:Bool)(bj:Q1)(dG:List (Q3))(bl:List (Q4))(dH:List (Q4))(dI:Int)(dJ:Int)(dK:Bool)(dL:Q1)(cw:Q1):Option ((Q4)×Int×Unit) :=
  iter (fun r y=>yKK n r2 (fun bZ ak eu eM bt cg bx aq ar au av aw cQ cR aa ac ae af ah ai cm aj cn co cp cr cu bP ax ay aP cS ca cb cc cd ce eN eO be bf bg bh bi bj dG bl dH dI dJ dK dL cw=>r ((bZ,(ak,(eu,(eM,(bt,(cg,(bx,()))))))),(((aq,(ar,(au,(av,(aw,(cQ,(cR,(aa,(ac,(ae,(af,(ah,(ai,(cm,(aj,(cn,(co,(cp,(cr,(cu,((bP,()),()))))))))))))))))))))),((ax,(ay,())),((aP,()),((cS,()),())))),(ca,(cb,(cc,(cd,(ce,(eN,(eO,(be,(bf,(bg,(bh,(bi,(bj,(dG,(bl,(dH,(dI,(dJ,(dK,(dL,((cw,()),())))))))))))))))))))))))) y.1.1 y.1.2.1 y.1.2.2.1 y.1.2.2.2.1 y.1.2.2.2.2.1 y.1.2.2.2.2.2.1 y.1.2.2.2.2.2.2.1 y.2.1.1.1 y.2.1.1.2.1 y.2.1.1.2.2.1 y.2.1.1.2.2.2.1 y.2.1.1.2.2.2.2.1 y.2.1.1.2.2.2.2.2.1 y.2.1.1.2.2.2.2.2.2.1 y.2.1.1.2.2.2.2.2.2.2.1 y.2.1.1.2.2.2.2.2.2.2.2.1 y.2.1.1.2.2.2.2.2.2.2.2.2.1 y.2.1.1.2.2.2.2.2.2.2.2.2.2.1 y.2.1.1.2.2.2.2.2.2.2.2.2.2.2.1 y.2.1.1.2.2.2.2.2.2.2.2.2.2.2.2.1 y.2.1.1.2.2.2.2.2.2.2.2.2.2.2.2.2.1 y.2.1.1.2.2.2.2.2.2.2.2.2.2.2.2.2.2.1 y.2.1.1.2.2.2.2.2.2.2.2.2.2.2.2.2.2.2.1 y.2.1.1.2.2.2.2.2.2.2.2.2.2.2.2.2.2.2.2.1 y.2.1.1.2.2.2.2.2.2.2.2.2.2.2.2.2.2.2.2.2.1 y.2.1.1.2.2.2.2.2.2.2.2.2.2.2.2.2.2.2.2.2.2.1 y.2.1.1.2.2.2.2.2.2.2.2.2.2.2.2.2.2.2.2.2.2.2.1 y.2.1.1.2.2.2.2.2.2.2.2.2.2.2.2.2.2.2.2.2.2.2.2.1.1 y.2.1.2.1.1 y.2.1.2.1.2.1 y.2.1.2.2.1.1 y.2.1.2.2.2.1.1 y.2.2.1 y.2.2.2.1 y.2.2.2.2.1 y.2.2.2.2.2.1 y.2.2.2.2.2.2.1 y.2.2.2.2.2.2.2.1 y.2.2.2.2.2.2.2.2.1 y.2.2.2.2.2.2.2.2.2.1 y.2.2.2.2.2.2.2.2.2.2.1 y.2.2.2.2.2.2.2.2.2.2.2.1 y.2.2.2.2.2.2.2.2.2.2.2.2.1 y.2.2.2.2.2.2.2.2.2.2.2.2.2.1 y.2.2.2.2.2.2.2.2.2.2.2.2.2.2.1 y.2.2.2.2.2.2.2.2.2.2.2.2.2.2.2.1 y.2.2.2.2.2.2.2.2.2.2.2.2.2.2.2.2.1 y.2.2.2.2.2.2.2.2.2.2.2.2.2.2.2.2.2.1 y.2.2.2.2.2.2.2.2.2.2.2.2.2.2.2.2.2.2.1 y.2.2.2.2.2.2.2.2.2.2.2.2.2.2.2.2.2.2.2.1 y.2.2.2.2.2.2.2.2.2.2.2.2.2.2.2.2.2.2.2.2.1 y.2.2.2.2.2.2.2.2.2.2.2.2.2.2.2.2.2.2.2.2.2.1 y.2.2.2.2.2.2.2.2.2.2.2.2.2.2.2.2.2.2.2.2.2.2.1.1) k ((bZ,(ak,(eu,(eM,(bt,(cg,(bx,()))))))),(((aq,(ar,(au,(av,(aw,(cQ,(cR,(aa,(ac,(ae,(af,(ah,(ai,(cm,(aj,(cn,(co,(cp,(cr,(cu,((bP,()),()))))))))))))))))))))),((ax,(ay,())),((aP,()),((cS,()),())))),(ca,(cb,(cc,(cd,(ce,(eN,(eO,(be,(bf,(bg,(bh,(bi,(bj,(dG,(bl,(dH,(dI,(dJ,(dK,(dL,((cw,()),())))))))))))))))))))))))
def yJA(n:Nat)(r74:List (Q4)→List (Q4)→Int→Int→Int→Int→Int→Int→Option ((Q4)×Int×Unit))(eb:List (Q4))(dp:List (Q4))(dq:Int)(cI:Int)(cV:Int)(cW:Int)(cK:Int)(cL:Int):Option ((Q4)×Int×Unit) :=
  (bif decide (cI < dq)then (Option.bind (idx dp cI) fun v75=>(Option.bind (idx eb cI) fun v76=>r74 eb dp dq (IntKind.i64.wrap (cI+1)) cV cW cK (IntKind.i64.wrap (cL - (z1C (z06 v76).1 (v75.1,v75.2.1,())).1.1))))else (Option.bind (y8B cL cK) fun v77=>some ((v77.1.1,v77.1.2.1,()),(0:Int),())))
def yIK(n:Nat)(k:Nat)(eb:List (Q4))(dp:List (Q4))(dq:Int)(cI:Int)(cV:Int)(cW:Int)(cK:Int)(cL:Int):Option ((Q4)×Int×Unit) :=
  iter (fun r y=>yJA n (fun eb dp dq cI cV cW cK cL=>r ((eb,(dp,(dq,(cI,())))),(((cV,(cW,())),((cK,()),((cL,()),()))),()))) y.1.1 y.1.2.1 y.1.2.2.1 y.1.2.2.2.1 y.2.1.1.1 y.2.1.1.2.1 y.2.1.2.1.1 y.2.1.2.2.1.1) k ((eb,(dp,(dq,(cI,())))),(((cV,(cW,())),((cK,()),((cL,()),()))),()))
def yL2(n:Nat)(r2:Q1→List (Q4)→List Nat→Int→Int→Q1→List (Q3)→Q1→Int→Int→List (Q4)→List (Q4)→Q1→List (Q3)→Int→Int→Bool→Q1→List (Q3)→List (Q4)→List (Q4)→Int→Int→Bool→Q1→Q1→Int→Int→Int→Int→Q1→List (Q3)→Q1→Int→Int→List (Q4)→List (Q4)→Q1→List (Q3)→Int→Int→Bool→Q1→List (Q3)→List (Q4)→List (Q4)→Int→Int→Bool→Q1→Q1→Option ((Q4)×Int×Unit))(dB:Q1)(cX:List (Q4))(eQ:List Nat)(ed:Int)(dz:Int)(dM:Q1)(dN:List (Q3))(dO:Q1)(dP:Int)(dQ:Int)(dR:List (Q4))(dS:List (Q4))(cY:Q1)(cZ:List (Q3))(d4:Int)(d5:Int)(d6:Bool)(d7:Q1)(d8:List (Q3))(d9:List (Q4))(db:List (Q4))(dc:Int)(df:Int)(dg:Bool)(dl:Q1)(ck:Q1)(dt:Int)(du:Int)(dv:Int)(dw:Int)(eS:Q1)(eT:List (Q3))(eU:Q1)(eV:Int)(eW:Int)(eP:List (Q4))(eR:List (Q4))(ev:Q1)(ew:List (Q3))(ey:Int)(ez:Int)(eA:Bool)(eB:Q1)(eC:List (Q3))(eD:List (Q4))(eE:List (Q4))(eF:Int)(eG:Int)(eH:Bool)(eI:Q1)(dm:Q1):Option ((Q4)×Int×Unit) :=
  (bif decide (dz < ed)then (Option.bind (idx eQ dz) fun v3=>(yLY n r2 n (dB) (cX) (dz) (v3) (eQ) (ed) (dz) (dM) (dN) (dO) (dP) (dQ) (dR) (dS) (cY) (cZ) (d4) (d5) (d6) (d7) (d8) (d9) (db) (dc) (df) (dg) (dl) (ck) (dt) (du) (dv) (dw) (eS) (eT) (eU) (eV) (eW) (eP) (eR) (ev) (ew) (ey) (ez) (eA) (eB) (eC) (eD) (eE) (eF) (eG) (eH) (eI) (dm)))else (yIK n n (eR) (eP) ((↑eP.length:Int)) ((0:Int)) (dt) (du) (dv) (dw)))
def yLx(n:Nat)(k:Nat)(dB:Q1)(cX:List (Q4))(eQ:List Nat)(ed:Int)(dz:Int)(dM:Q1)(dN:List (Q3))(dO:Q1)(dP:Int)(dQ:Int)(dR:List (Q4))(dS:List (Q4))(cY:Q1)(cZ:List (Q3))(d4:Int)(d5:Int)(d6:Bool)(d7:Q1)(d8:List (Q3))(d9:List (Q4))(db:List (Q4))(dc:Int)(df:Int)(dg:Bool)(dl:Q1)(ck:Q1)(dt:Int)(du:Int)(dv:Int)(dw:Int)(eS:Q1)(eT:List (Q3))(eU:Q1)(eV:Int)(eW:Int)(eP:List (Q4))(eR:List (Q4))(ev:Q1)(ew:List (Q3))(ey:Int)(ez:Int)(eA:Bool)(eB:Q1)(eC:List (Q3))(eD:List (Q4))(eE:List (Q4))(eF:Int)(eG:Int)(eH:Bool)(eI:Q1)(dm:Q1):Option ((Q4)×Int×Unit) :=
  iter (fun r y=>yL2 n (fun dB cX eQ ed dz dM dN dO dP dQ dR dS cY cZ d4 d5 d6 d7 d8 d9 db dc df dg dl ck dt du dv dw eS eT eU eV eW eP eR ev ew ey ez eA eB eC eD eE eF eG eH eI dm=>r ((dB,(cX,(eQ,(ed,(dz,()))))),(((dM,(dN,(dO,(dP,(dQ,(dR,(dS,(cY,(cZ,(d4,(d5,(d6,(d7,(d8,(d9,(db,(dc,(df,(dg,(dl,((ck,()),()))))))))))))))))))))),((dt,(du,())),((dv,()),((dw,()),())))),(eS,(eT,(eU,(eV,(eW,(eP,(eR,(ev,(ew,(ey,(ez,(eA,(eB,(eC,(eD,(eE,(eF,(eG,(eH,(eI,((dm,()),())))))))))))))))))))))))) y.1.1 y.1.2.1 y.1.2.2.1 y.1.2.2.2.1 y.1.2.2.2.2.1 y.2.1.1.1 y.2.1.1.2.1 y.2.1.1.2.2.1 y.2.1.1.2.2.2.1 y.2.1.1.2.2.2.2.1 y.2.1.1.2.2.2.2.2.1 y.2.1.1.2.2.2.2.2.2.1 y.2.1.1.2.2.2.2.2.2.2.1 y.2.1.1.2.2.2.2.2.2.2.2.1 y.2.1.1.2.2.2.2.2.2.2.2.2.1 y.2.1.1.2.2.2.2.2.2.2.2.2.2.1 y.2.1.1.2.2.2.2.2.2.2.2.2.2.2.1 y.2.1.1.2.2.2.2.2.2.2.2.2.2.2.2.1 y.2.1.1.2.2.2.2.2.2.2.2.2.2.2.2.2.1 y.2.1.1.2.2.2.2.2.2.2.2.2.2.2.2.2.2.1 y.2.1.1.2.2.2.2.2.2.2.2.2.2.2.2.2.2.2.1 y.2.1.1.2.2.2.2.2.2.2.2.2.2.2.2.2.2.2.2.1 y.2.1.1.2.2.2.2.2.2.2.2.2.2.2.2.2.2.2.2.2.1 y.2.1.1.2.2.2.2.2.2.2.2.2.2.2.2.2.2.2.2.2.2.1 y.2.1.1.2.2.2.2.2.2.2.2.2.2.2.2.2.2.2.2.2.2.2.1 y.2.1.1.2.2.2.2.2.2.2.2.2.2.2.2.2.2.2.2.2.2.2.2.1.1 y.2.1.2.1.1 y.2.1.2.1.2.1 y.2.1.2.2.1.1 y.2.1.2.2.2.1.1 y.2.2.1 y.2.2.2.1 y.2.2.2.2.1 y.2.2.2.2.2.1 y.2.2.2.2.2.2.1 y.2.2.2.2.2.2.2.1 y.2.2.2.2.2.2.2.2.1 y.2.2.2.2.2.2.2.2.2.1 y.2.2.2.2.2.2.2.2.2.2.1 y.2.2.2.2.2.2.2.2.2.2.2.1 y.2.2.2.2.2.2.2.2.2.2.2.2.1 y.2.2.2.2.2.2.2.2.2.2.2.2.2.1 y.2.2.2.2.2.2.2.2.2.2.2.2.2.2.1 y.2.2.2.2.2.2.2.2.2.2.2.2.2.2.2.1 y.2.2.2.2.2.2.2.2.2.2.2.2.2.2.2.2.1 y.2.2.2.2.2.2.2.2.2.2.2.2.2.2.2.2.2.1 y.2.2.2.2.2.2.2.2.2.2.2.2.2.2.2.2.2.2.1 y.2.2.2.2.2.2.2.2.2.2.2.2.2.2.2.2.2.2.2.1 y.2.2.2.2.2.2.2.2.2.2.2.2.2.2.2.2.2.2.2.2.1 y.2.2.2.2.2.2.2.2.2.2.2.2.2.2.2.2.2.2.2.2.2.1 y.2.2.2.2.2.2.2.2.2.2.2.2.2.2.2.2.2.2.2.2.2.2.1.1) k ((dB,(cX,(eQ,(ed,(dz,()))))),(((dM,(dN,(dO,(dP,(dQ,(dR,(dS,(cY,(cZ,(d4,(d5,(d6,(d7,(d8,(d9,(db,(dc,(df,(dg,(dl,((ck,()),()))))))))))))))))))))),((dt,(du,())),((dv,()),((dw,()),())))),(eS,(eT,(eU,(eV,(eW,(eP,(eR,(ev,(ew,(ey,(ez,(eA,(eB,(eC,(eD,(eE,(eF,(eG,(eH,(eI,((dm,()),())))))))))))))))))))))))
def yQ7(n:Nat)(rp:Q1)(l:List (Q3)):Option ((Q4)×Int×Unit) :=
  (Option.bind (y9w rp l) fun v0=>(bif v0.1 != 0 then some (((0:Int),(0:Int),()),v0.1,())else (Option.bind (yKu rp l) fun v1=>(bif v1.2.2.1==0 then some (((0:Int),(0:Int),()),(25:Int),())else (yLx n n (rp) (rp.2.2.2.1) (rp.2.2.1) ((↑rp.2.2.1.length:Int)) ((0:Int)) (rp) (l) (rp) ((0:Int)) (v0.1) (v1.1) (v1.2.1) (rp) (l) (v0.1) (v0.1) (v0.1 != 0) (rp) (l) (v1.1) (v1.2.1) (v1.2.2.1) (v1.2.2.1) (v1.2.2.1==0) (rp) (rp) ((0:Int)) ((0:Int)) (v1.2.2.1) ((0:Int)) (rp) (l) (rp) ((0:Int)) (v0.1) (v1.1) (v1.2.1) (rp) (l) (v0.1) (v0.1) (v0.1 != 0) (rp) (l) (v1.1) (v1.2.1) (v1.2.2.1) (v1.2.2.1) (v1.2.2.1==0) (rp) (rp))))))
theorem yaJ(n:Nat)(x:yPu.den):runF yUZ (yNl n) Tryz.f36 yPu yaA x=yQ7 n x.1 x.2.1:=by kernel_rfl
def yMZ(rp:Q1)(l:List (Q3)):Option ((Q4)×Int×Unit):=yQ7 1000 rp l
theorem yOi(rp:Q1)(l:List (Q3))(y:(Q4)×Int×Unit)(h:yMZ rp l=some y):∃ n,yQ7 n rp l=some y:=⟨1000,h⟩
def z12_e:Entry:={ f:=36,args:=yPu,ress:=yaA,m:=fun x=>yMZ x.1 x.2.1 }
theorem yVG:FnOK Tryz.prog z12_e:=yJ (g:=yUZ) (fn:=Tryz.f36) yB yI (y8 y7v (y8 yNj (y8 yJI (y8 yEv (y8 yIT eNil))))) (by kernel_rfl) (by kernel_rfl) (by kernel_rfl) (fun x y h=>let ⟨n,hn⟩:=yOi x.1 x.2.1 y h;⟨yNl n,(y5H y5M (y5H y5N iNil)),(yaJ n x).trans hn⟩)
abbrev yQh:Ty:=.pair t60 (.pair t31 .unit)
abbrev yTE:Ty:=.pair t96 (.pair t28 .unit)
def yWq:G:={ T:=T,E:=[z15_e,z0m_e],muts:=[],fz:=[] }
def yct:List (List Nat):=[]
def yMn(n:Nat):Ann:={ keep:=yct,fuel:=n,inl:=[],deep:=0 }
def yRS(n:Nat)(rp:Q1)(l:List (Q3)):Option (List (List (Q4))×Int×Unit) :=
  (Option.bind (y9w rp l) fun v0=>(bif v0.1 != 0 then some ([],v0.1,())else (Option.bind (yD7 rp l) fun v1=>some (v1.1,(0:Int),()))))
theorem yUr(n:Nat)(x:yQh.den):runF yWq (yMn n) Tryz.f55 yQh yTE x=yRS n x.1 x.2.1:=by kernel_rfl
def yPU(rp:Q1)(l:List (Q3)):Option (List (List (Q4))×Int×Unit):=yRS 0 rp l
theorem ySn(rp:Q1)(l:List (Q3))(y:List (List (Q4))×Int×Unit)(h:yPU rp l=some y):∃ n,yRS n rp l=some y:=⟨0,h⟩
def z0i_e:Entry:={ f:=55,args:=yQh,ress:=yTE,m:=fun x=>yPU x.1 x.2.1 }
theorem yVs:FnOK Tryz.prog z0i_e:=yJ (g:=yWq) (fn:=Tryz.f55) yB yI (y8 y7v (y8 yCC eNil)) (by kernel_rfl) (by kernel_rfl) (by kernel_rfl) (fun x y h=>let ⟨n,hn⟩:=ySn x.1 x.2.1 y h;⟨yMn n,iNil,(yUr n x).trans hn⟩)
abbrev ySf:Ty:=.pair t60 (.pair t31 .unit)
abbrev yWa:Ty:=.pair t3 (.pair t28 .unit)
def yWx:G:={ T:=T,E:=[z15_e,z6_e,z07_e],muts:=[24],fz:=[7,27] }
def ybC:List (List Nat):=[[2,7,17,18,19,1000007]]
def yOE(n:Nat):Ann:={ keep:=ybC,fuel:=n,inl:=[],deep:=0 }
def yMF(n:Nat)(r1:Q1→List (Q3)→List (Q3)→Int→Int→Option (Q4))(bm:Q1)(bQ:List (Q3))(dT:List (Q3))(dU:Int)(dA:Int):Option (Q4) :=
  (bif decide (dA < dU)then (Option.bind (idx dT dA) fun v2=>(bif decide (bQ.length≤memMax)then (bif decide (bQ.length+(1:Nat)≤memMax)then (Option.bind (yMT bm (bQ++[(v2.1,v2.2.1,v2.2.2.1,())])) fun v3=>(bif !v3.1 then r1 bm (bQ++[(v2.1,v2.2.1,v2.2.2.1,())]) dT dU (IntKind.i64.wrap (dA+1))else r1 bm bQ dT dU (IntKind.i64.wrap (dA+1))))else none)else none))else some ((↑bQ.length:Int),(0:Int),()))
def yLN(n:Nat)(k:Nat)(bm:Q1)(bQ:List (Q3))(dT:List (Q3))(dU:Int)(dA:Int):Option (Q4) :=
  iter (fun r y=>yMF n (fun bm bQ dT dU dA=>r ((bm,(bQ,(dT,(dU,(dA,()))))),((),()))) y.1.1 y.1.2.1 y.1.2.2.1 y.1.2.2.2.1 y.1.2.2.2.2.1) k ((bm,(bQ,(dT,(dU,(dA,()))))),((),()))
def ySG(n:Nat)(rp:Q1)(l:List (Q3)):Option (Q4) :=
  (Option.bind (y9w rp l) fun v0=>(bif v0.1 != 0 then some ((0:Int),v0.1,())else (yLN n n (rp) ([]) (l) ((↑l.length:Int)) ((0:Int)))))
theorem yZk(n:Nat)(x:ySf.den):runF yWx (yOE n) Tryz.f57 ySf yWa x=ySG n x.1 x.2.1:=by kernel_rfl
def yOy(rp:Q1)(l:List (Q3)):Option (Q4):=ySG 1000 rp l
theorem yR2(rp:Q1)(l:List (Q3))(y:Q4)(h:yOy rp l=some y):∃ n,ySG n rp l=some y:=⟨1000,h⟩
def z1J_e:Entry:={ f:=57,args:=ySf,ress:=yWa,m:=fun x=>yOy x.1 x.2.1 }
theorem yZD:FnOK Tryz.prog z1J_e:=yJ (g:=yWx) (fn:=Tryz.f57) yB yI (y8 y7v (y8 ycL (y8 yNQ eNil))) (by kernel_rfl) (by kernel_rfl) (by kernel_rfl) (fun x y h=>let ⟨n,hn⟩:=yR2 x.1 x.2.1 y h;⟨yOE n,iNil,(yZk n x).trans hn⟩)
abbrev yOg:Ty:=.pair t60 (.pair t31 .unit)
abbrev yV5:Ty:=.pair t100 (.pair t28 .unit)
def yV6:G:={ T:=T,E:=[z15_e,z1B_e,z17_e],muts:=[8],fz:=[] }
def ycX:List (List Nat):=[[1,2,7,8,22]]
def yNe(n:Nat):Ann:={ keep:=ycX,fuel:=n,inl:=[],deep:=0 }
def yKF(n:Nat)(r2:List (Q3)→Q1→Int→Int→List (List Int)→Option (List (List Int)×Int×Unit))(dC:List (Q3))(dY:Q1)(dV:Int)(aR:Int)(cl:List (List Int)):Option (List (List Int)×Int×Unit) :=
  (bif decide (aR < 16)then (bif decide (IntKind.i64.wrap (aR.tdiv (4:Int)) > aR.tmod (4:Int))then r2 dC dY dV (IntKind.i64.wrap (aR+1)) cl else (bif eqV (Ty.arr (2:Nat) (Ty.int IntKind.i64)) [IntKind.i64.wrap (aR.tdiv (4:Int)),aR.tmod (4:Int)] [aR.tmod (4:Int),IntKind.i64.wrap (aR.tdiv (4:Int))]then r2 dC dY dV (IntKind.i64.wrap (aR+1)) cl else (bif decide (aR.tmod (4:Int) ≥ (↑dC.length:Int))then r2 dC dY dV (IntKind.i64.wrap (aR+1)) cl else (Option.bind (idx dC (IntKind.i64.wrap (aR.tdiv (4:Int)))) fun v7=>(Option.bind (idx dC (aR.tmod (4:Int))) fun v8=>(Option.bind (yJJ dY v7 v8) fun v9=>(bif IntKind.i64.wrap (IntKind.i64.wrap (v9.1.1 * v9.1.1)+IntKind.i64.wrap (v9.1.2.1 * v9.1.2.1))==IntKind.i64.wrap (dV * dV)then (bif decide (cl.length+(1:Nat)≤memMax)then r2 dC dY dV (IntKind.i64.wrap (aR+1)) (cl++[[IntKind.i64.wrap (aR.tdiv (4:Int)),aR.tmod (4:Int)]])else none)else r2 dC dY dV (IntKind.i64.wrap (aR+1)) cl)))))))else some (cl,(0:Int),()))
def yLo(n:Nat)(k:Nat)(dC:List (Q3))(dY:Q1)(dV:Int)(aR:Int)(cl:List (List Int)):Option (List (List Int)×Int×Unit) :=
  iter (fun r y=>yKF n (fun dC dY dV aR cl=>r ((dC,(dY,(dV,(aR,())))),((cl,()),()))) y.1.1 y.1.2.1 y.1.2.2.1 y.1.2.2.2.1 y.2.1.1) k ((dC,(dY,(dV,(aR,())))),((cl,()),()))
def yPz(n:Nat)(rp:Q1)(l:List (Q3)):Option (List (List Int)×Int×Unit) :=
  (Option.bind (y9w rp l) fun v0=>(bif v0.1 != 0 then some ([],v0.1,())else (Option.bind (yBy rp) fun v1=>(yLo n n (l) (rp) ((↑v1.1.length:Int)) ((0:Int)) ([])))))
theorem yVJ(n:Nat)(x:yOg.den):runF yV6 (yNe n) Tryz.f58 yOg yV5 x=yPz n x.1 x.2.1:=by kernel_rfl
def yQZ(rp:Q1)(l:List (Q3)):Option (List (List Int)×Int×Unit):=yPz 1000 rp l
theorem ySq(rp:Q1)(l:List (Q3))(y:List (List Int)×Int×Unit)(h:yQZ rp l=some y):∃ n,yPz n rp l=some y:=⟨1000,h⟩
def z10_e:Entry:={ f:=58,args:=yOg,ress:=yV5,m:=fun x=>yQZ x.1 x.2.1 }
theorem yW5:FnOK Tryz.prog z10_e:=yJ (g:=yV6) (fn:=Tryz.f58) yB yI (y8 y7v (y8 yNg (y8 yIn eNil))) (by kernel_rfl) (by kernel_rfl) (by kernel_rfl) (fun x y h=>let ⟨n,hn⟩:=ySq x.1 x.2.1 y h;⟨yNe n,iNil,(yVJ n x).trans hn⟩)
abbrev yPP:Ty:=.pair t60 (.pair t31 .unit)
abbrev ya8:Ty:=.pair t23 (.pair t28 .unit)
def yU3:G:={ T:=T,E:=[z15_e,z07_e,z0m_e,z0C_e,zA_e,zk_e,zK_e,z0n_e],muts:=[],fz:=[] }
def ybI:List (List Nat):=[[2,3,7,22,23],[7,9,10,11,51,52]]
def yOB(n:Nat):Ann:={ keep:=ybI,fuel:=n,inl:=[],deep:=0 }
def yJ1(n:Nat)(r10:Int→List (List (Q4))→List (Q4)→Int→Int→List (Q4)→Option (List (Q4)×Int×Unit))(cJ:Int)(dW:List (List (Q4)))(bu:List (Q4))(dx:Int)(ci:Int)(cO:List (Q4)):Option (List (Q4)×Int×Unit) :=
  (bif decide (ci < dx)then (Option.bind (zk_M dW ci bu) fun v11=>(Option.bind (zK_M v11.1) fun v12=>(Option.bind (idx cO ci) fun v13=>(Option.bind (cO[ci.toNat]?) fun v14=>r10 cJ dW bu dx (IntKind.i64.wrap (ci+1)) (cO.set ci.toNat v12.1)))))else (Option.bind (zK_M dW) fun v15=>(Option.bind (idx cO cJ) fun v16=>(Option.bind (cO[cJ.toNat]?) fun v17=>some (cO.set cJ.toNat (z0n v15.1 (-1:Int)).1,(0:Int),())))))
def yJj(n:Nat)(k:Nat)(cJ:Int)(dW:List (List (Q4)))(bu:List (Q4))(dx:Int)(ci:Int)(cO:List (Q4)):Option (List (Q4)×Int×Unit) :=
  iter (fun r y=>yJ1 n (fun cJ dW bu dx ci cO=>r ((cJ,(dW,(bu,(dx,(ci,()))))),((cO,()),()))) y.1.1 y.1.2.1 y.1.2.2.1 y.1.2.2.2.1 y.1.2.2.2.2.1 y.2.1.1) k ((cJ,(dW,(bu,(dx,(ci,()))))),((cO,()),()))
def yC0(n:Nat)(j3:Int)(j4:Q1)(j5:List (Q3)):Option (List (Q4)×Int×Unit) :=
  (bif j3==(↑j5.length:Int)then some ([],(7:Int),())else (bif decide ((0:Int)≤j3) && decide (j3≤(↑j5.length:Int))then (Option.bind (yD7 j4 (List.take j3.toNat j5)) fun v8=>(bif decide ((0:Int)≤j3) && decide (j3≤(↑j5.length:Int))then (Option.bind (zA_M (List.take j3.toNat j5) fun (x:(Q3)×Unit)=>yPH x.1 j4 j5 j3) fun v9=>(bif Bool.true && decide ((0:Int)≤(↑j5.length:Int)) && decide ((↑j5.length:Int)≤(↑memMax:Int)) && (↑j5.length:Int)==(↑j5.length:Int)then (yJj n n (j3) (v8.1) (v9.1) (j3) ((0:Int)) ((List.replicate ((↑j5.length:Int).toNat) (((0:Int),(0:Int),())):List (Q4))))else none))else none))else none))
def yM4(n:Nat)(r1:Q1→List (Q3)→Int→Int→Int→Option (List (Q4)×Int×Unit))(bm:Q1)(eg:List (Q3))(ee:Int)(cP:Int)(aO:Int):Option (List (Q4)×Int×Unit) :=
  (bif decide (cP < ee)then (bif decide ((0:Int)≤IntKind.i64.wrap (cP+1)) && decide (IntKind.i64.wrap (cP+1)≤(↑eg.length:Int))then (Option.bind (yMT bm (List.take (IntKind.i64.wrap (cP+1)).toNat eg)) fun v2=>(bif v2.1 then (yC0 n (cP) (bm) (eg))else r1 bm eg ee (IntKind.i64.wrap (cP+1)) aO))else none)else (yC0 n (aO) (bm) (eg)))
def yLF(n:Nat)(k:Nat)(bm:Q1)(eg:List (Q3))(ee:Int)(cP:Int)(aO:Int):Option (List (Q4)×Int×Unit) :=
  iter (fun r y=>yM4 n (fun bm eg ee cP aO=>r ((bm,(eg,(ee,(cP,())))),(((aO,()),()),()))) y.1.1 y.1.2.1 y.1.2.2.1 y.1.2.2.2.1 y.2.1.1.1) k ((bm,(eg,(ee,(cP,())))),(((aO,()),()),()))
def yQR(n:Nat)(rp:Q1)(l:List (Q3)):Option (List (Q4)×Int×Unit) :=
  (Option.bind (y9w rp l) fun v0=>(bif v0.1 != 0 then some ([],v0.1,())else (yLF n n (rp) (l) ((↑l.length:Int)) ((0:Int)) ((↑l.length:Int)))))
theorem yU9(n:Nat)(x:yPP.den):runF yU3 (yOB n) Tryz.f89 yPP ya8 x=yQR n x.1 x.2.1:=by kernel_rfl
def yRf(rp:Q1)(l:List (Q3)):Option (List (Q4)×Int×Unit):=yQR 1000 rp l
theorem yPW(rp:Q1)(l:List (Q3))(y:List (Q4)×Int×Unit)(h:yRf rp l=some y):∃ n,yQR n rp l=some y:=⟨1000,h⟩
def z0g_e:Entry:={ f:=89,args:=yPP,ress:=ya8,m:=fun x=>yRf x.1 x.2.1 }
theorem yYU:FnOK Tryz.prog z0g_e:=yJ (g:=yU3) (fn:=Tryz.f89) yB yI (y8 y7v (y8 yNQ (y8 yCC (y8 yVy (y8 ySt (y8 yTO (y8 yLs (y8 yHg eNil)))))))) (by kernel_rfl) (by kernel_rfl) (by kernel_rfl) (fun x y h=>let ⟨n,hn⟩:=yPW x.1 x.2.1 y h;⟨yOB n,iNil,(yU9 n x).trans hn⟩)
end
end Go.Tw
end
section
set_option maxRecDepth 1000000
namespace Go.Tw
open Go.Vx Go.Vx.B Go.Proofs
noncomputable section
def il102:Inl:={ f:=102,fn:=Tryz.f102,keep:=[],muts:=[3,5],fz:=[5],rc:=true }
theorem yKt:y6R Tryz.prog il102:=⟨by kernel_rfl,by kernel_rfl,fun e0 h=>by cases (show (none:Option LibK)=some e0 from h)⟩
abbrev yOp:Ty:=.unit
abbrev yT0:Ty:=.pair t4 .unit
def yYD:G:={ T:=T,E:=[z0s_e,z0Y_e,z0i_e,zi_e,z0P_e,z12_e,z0Q_e,z00_e,zY_e,z10_e,z0g_e,z1J_e,z0h_e,z0D_e,z11_e,z1I_e,z13_e,z1K_e,z14_e,zr_e,zf_e,zy_e,z01_e],muts:=[155],fz:=[] }
def ybh:List (List Nat):=[]
def yNm(n:Nat):Ann:={ keep:=ybh,fuel:=n,inl:=[il102],deep:=4 }
def yPf(n:Nat)  : Option (Bool×Unit) :=
  (Option.bind (y5f [(81:UInt8),82]) fun v0=>(Option.bind (yPU (z0s []).1 v0.1) fun v1=>(Option.bind (y5f [(81:UInt8),82]) fun v2=>(Option.bind (zi_M (z0s []).1 v2.1) fun v3=>(Option.bind (y5f [(81:UInt8),82]) fun v4=>(Option.bind (yLU (z0s []).1 v4.1) fun v5=>(Option.bind (y5f [(81:UInt8),82]) fun v6=>(Option.bind (yMZ (z0s []).1 v6.1) fun v7=>(Option.bind (yG2 (v5.1.1,v5.1.2.1,v5.1.2.2.1,()) (0:Int) (4:Int)) fun v8=>(Option.bind (y5f [(90:UInt8),72]) fun v9=>(Option.bind (zi_M (z0s [((3:Int),(4:Int),())]).1 v9.1) fun v10=>(Option.bind (y5f [(90:UInt8),72]) fun v11=>(Option.bind (yMZ (z0s [((3:Int),(4:Int),())]).1 v11.1) fun v12=>(bif IntKind.i64.wrap (IntKind.i64.wrap (IntKind.i64.wrap (IntKind.i64.wrap (IntKind.i64.wrap (IntKind.i64.wrap (v1.2.1+v3.2.1)+v5.2.1)+v7.2.1)+v8.2.1)+v10.2.1)+v12.2.1) != 0 then some (Bool.false,())else (Option.bind (ySO v1.1 [[((4:Int),(0:Int),()),((0:Int),(0:Int),())],[((0:Int),(0:Int),()),((4:Int),(0:Int),())]]) fun v13=>(bif !v13.1 then some (Bool.false,())else (bif v3.1 != 16 then some (Bool.false,())else (bif v5.1.2.2.1 != 1 then some (Bool.false,())else (Option.bind (zY_M v5.1.2.1 [((8:Int),(0:Int),()),((8:Int),(0:Int),())]) fun v14=>(bif !v14.1 then some (Bool.false,())else (bif !eqV ((Ty.int IntKind.i64).pair ((Ty.int IntKind.i64).pair Ty.unit)) (v7.1.1,v7.1.2.1,()) ((0:Int),(1:Int),())then some (Bool.false,())else (Option.bind (zY_M v8.1 [((16:Int),(0:Int),()),((0:Int),(0:Int),()),((-16:Int),(0:Int),()),((0:Int),(0:Int),())]) fun v15=>(bif !v15.1 then some (Bool.false,())else (bif v10.1 != 8 then some (Bool.false,())else (bif !eqV ((Ty.int IntKind.i64).pair ((Ty.int IntKind.i64).pair Ty.unit)) (v12.1.1,v12.1.2.1,()) ((512:Int),(1:Int),())then some (Bool.false,())else (Option.bind (y5f [(90:UInt8),72]) fun v32=>(Option.bind (yQZ ([(103:UInt8)],(0:Int),[nat_lit 1065353216,nat_lit 0,nat_lit 3212836864,nat_lit 0],[((1:Int),(2:Int),()),((3:Int),(4:Int),())],()) v32.1) fun v33=>(Option.bind (y5f [(90:UInt8),72]) fun v34=>(Option.bind (yRf ([(103:UInt8)],(0:Int),[nat_lit 1065353216,nat_lit 0,nat_lit 3212836864,nat_lit 0],[((1:Int),(2:Int),()),((3:Int),(4:Int),())],()) v34.1) fun v35=>(Option.bind (y5f [(90:UInt8),72,81]) fun v36=>(Option.bind (yOy ([(103:UInt8)],(0:Int),[nat_lit 1065353216,nat_lit 0,nat_lit 3212836864,nat_lit 0],[((1:Int),(2:Int),()),((3:Int),(4:Int),())],()) v36.1) fun v37=>(Option.bind (y5f [(90:UInt8),72]) fun v38=>(Option.bind (yLU ([(103:UInt8)],(0:Int),[nat_lit 1065353216,nat_lit 0,nat_lit 3212836864,nat_lit 0],[((1:Int),(2:Int),()),((3:Int),(4:Int),())],()) v38.1) fun v39=>(Option.bind (y5f [(90:UInt8)]) fun v40=>(Option.bind (yRc (v40.1,[((3:Int),(0:Int),())],(2:Int),()) (5:Int) (1:Int)) fun v41=>(Option.bind (yDk (z0s []).1 (v40.1,[((3:Int),(0:Int),())],(2:Int),())) fun v42=>(Option.bind (ySR [nat_lit 0,nat_lit 1065353216,nat_lit 1065353216,nat_lit 0,nat_lit 1073741824,nat_lit 1065353216]) fun v43=>(Option.bind (yR8 [nat_lit 0,nat_lit 1065353216,nat_lit 1065353216,nat_lit 0,nat_lit 1073741824,nat_lit 1065353216]) fun v44=>(Option.bind (yS3 (2024:Int)) fun v45=>(Option.bind (yQg (v40.1,[((3:Int),(0:Int),())],(2:Int),())) fun v46=>(Option.bind (yP8 (v40.1,[((3:Int),(0:Int),())],(2:Int),())) fun v47=>(bif IntKind.i64.wrap (IntKind.i64.wrap (IntKind.i64.wrap (IntKind.i64.wrap (IntKind.i64.wrap (IntKind.i64.wrap (IntKind.i64.wrap (IntKind.i64.wrap (IntKind.i64.wrap (v33.2.1+v35.2.1)+v37.2.1)+v41.2.1)+v42.2.1)+v43.2.1)+v44.2.1)+v45.2.1)+v46.2.1)+v47.2.1)==0 then (bif v39.2.1==25 then (Option.bind (zr_M v33.1 [[(0:Int),(1:Int)]]) fun v48=>(bif v48.1 then (Option.bind (zY_M v35.1 [((2:Int),(0:Int),()),((-2:Int),(0:Int),())]) fun v49=>(bif v49.1 then (bif v37.1==2 then (Option.bind (zf_M v41.1 [nat_lit 1040187392]) fun v50=>(bif v50.1 then (bif eqV ((Ty.int IntKind.i64).pair ((Ty.int IntKind.i64).pair Ty.unit)) (v42.1.1,v42.1.2.1,()) ((521:Int),(1:Int),())then (Option.bind (zy_M v43.1 [(1:Int),(4:Int)]) fun v51=>(bif v51.1 then (Option.bind (zy_M v44.1 [(3:Int)]) fun v52=>(bif v52.1 then (bif eqV ((Ty.int IntKind.i64).pair ((Ty.int IntKind.i64).pair Ty.unit)) (v45.1.1,v45.1.2.1,()) ((26:Int),(25:Int),())then (Option.bind (yHb v46.1 [(nat_lit 1035993088,nat_lit 0)]) fun v53=>(bif v53.1 then some (v47.1==[(116:UInt8),105,100,101,32,50,10,99,111,110,115,116,105,116,117,101,110,116,32,90,32,49,32,48,32,51,32,48,10],())else some (Bool.false,())))else some (Bool.false,()))else some (Bool.false,())))else some (Bool.false,())))else some (Bool.false,()))else some (Bool.false,())))else some (Bool.false,()))else some (Bool.false,())))else some (Bool.false,())))else some (Bool.false,()))else some (Bool.false,())))))))))))))))))))))))))))))))))))))))))))
theorem yXo(n:Nat)(x:yOp.den):runF yYD (yNm n) Tryz.f18 yOp yT0 x=yPf n:=by kernel_rfl
def yQe  : Option (Bool×Unit):=yPf 0
theorem yRd(y:Bool×Unit)(h:yQe=some y):∃ n,yPf n=some y:=⟨0,h⟩
def z0X_e:Entry:={ f:=18,args:=yOp,ress:=yT0,m:=fun x=>yQe }
theorem yTq:FnOK Tryz.prog z0X_e:=yJ (g:=yYD) (fn:=Tryz.f18) yB yI (y8 yVE (y8 yYY (y8 yVs (y8 ycx (y8 yZr (y8 yVG (y8 yMz (y8 yZ6 (y8 yXq (y8 yW5 (y8 yYU (y8 yZD (y8 yW3 (y8 yNh (y8 yXh (y8 yXM (y8 yUu (y8 yWF (y8 yYK (y8 ycw (y8 yc5 (y8 yas (y8 yUR eNil))))))))))))))))))))))) (by kernel_rfl) (by kernel_rfl) (by kernel_rfl) (fun x y h=>let ⟨n,hn⟩:=yRd y h;⟨yNm n,(y5H yKt iNil),(yXo n x).trans hn⟩)
end
end Go.Tw
end
