import Derived.Test.YtpcnkpbpcebokaaGreatDoorBT
import Derived.Test.YtpcnkpbpcebokaaGreatDoorB0
import Derived.Test.YtpcnkpbpcebokaaGreatDoorBS
import Derived.Test.YtpcnkpbpcebokaaGreatDoorLQ
import Derived.Test.YtpcnkpbpcebokaaGreatDoorLR
import Derived.Test.YtpcnkpbpcebokaaGreatDoorBA
import Derived.Test.YtpcnkpbpcebokaaGreatDoorBC
set_option linter.all false
section
set_option maxRecDepth 1000000
namespace Go.Tw
open Go.Vx Go.Vx.B Go.Proofs
noncomputable section
abbrev zu_a:Ty:=.pair t33 .unit
abbrev zu_r:Ty:=.pair t28 .unit
def zu_g:G:={ T:=T,E:=[zL_e,z16_e,z0b_e,zF_e,zv_e,z0s_e,z0X_e],muts:=[],fz:=[] }
def zu_k:List (List Nat):=[]
def yT8(n:Nat):Ann:={ keep:=zu_k,fuel:=n,inl:=[],deep:=0 }
def zu_m(n:Nat)(t:Q2):Option (Int×Unit) :=
  (Option.bind (zL_M t.1) fun v0=>(Option.bind (zF_M t.2.1 fun (x:(Q4)×Unit)=>zv_M x.1) fun v1=>(Option.bind (y1h v1.1) fun v2=>(Option.bind (y1h [v0.1,(z16 ((↑t.2.1.length:Int) != (↑t.1.length:Int)) (2:Int)).1,(z0b t.2.2.1 (1:Int) (268435456:Int)).1,v2.1]) fun v3=>(bif v3.1 != 0 then some (v3.1,())else (Option.bind (yBc t.2.1 t.2.2.1) fun v4=>some ((z16 (v4.1 != 1) (1:Int)).1,())))))))
theorem yZ5(n:Nat)(x:zu_a.den):runF zu_g (yT8 n) Tryz.f28 zu_a zu_r x=zu_m n x.1:=by kernel_rfl
def zu_M(t:Q2):Option (Int×Unit):=zu_m 0 t
theorem yX9(t:Q2)(y:Int×Unit)(h:zu_M t=some y):∃ n,zu_m n t=some y:=⟨0,h⟩
def zu_e:Entry:={ f:=28,args:=zu_a,ress:=zu_r,m:=fun x=>zu_M x.1 }
theorem yFk:FnOK Tryz.prog zu_e:=yJ (g:=zu_g) (fn:=Tryz.f28) yE yI (y6 yPE (y6 y4V (y6 y8x (y6 yVQ (y6 yZD (y6 y3W (y6 yLY eNil))))))) (by kernel_rfl) (by kernel_rfl) (by kernel_rfl) (fun x y h=>let ⟨n,hn⟩:=yX9 x.1 y h;⟨yT8 n,iNil,(yZ5 n x).trans hn⟩)
abbrev yNe:Ty:=.pair t3 .unit
abbrev yTX:Ty:=.pair t69 (.pair t28 .unit)
def yUd:G:={ T:=T,E:=[z0b_e,z0u_e],muts:=[],fz:=[] }
def yXc:List (List Nat):=[]
def yLo(n:Nat):Ann:={ keep:=yXc,fuel:=n,inl:=[],deep:=0 }
def yKy(n:Nat)(year:Int):Option ((Q4)×Int×Unit) :=
  (bif (z0b year (0:Int) (9999:Int)).1 != 0 then some (((0:Int),(0:Int),()),(z0b year (0:Int) (9999:Int)).1,())else (Option.bind (yF8 year) fun v0=>some ((v0.1.1,v0.1.2.1,()),(0:Int),())))
theorem ySQ(n:Nat)(x:yNe.den):runF yUd (yLo n) Tryz.f41 yNe yTX x=yKy n x.1:=by kernel_rfl
def yIK(year:Int):Option ((Q4)×Int×Unit):=yKy 0 year
theorem yPU(year:Int)(y:(Q4)×Int×Unit)(h:yIK year=some y):∃ n,yKy n year=some y:=⟨0,h⟩
def z0n_e:Entry:={ f:=41,args:=yNe,ress:=yTX,m:=fun x=>yIK x.1 }
theorem yMV:FnOK Tryz.prog z0n_e:=yJ (g:=yUd) (fn:=Tryz.f41) yE yI (y6 y8x (y6 yM0 eNil)) (by kernel_rfl) (by kernel_rfl) (by kernel_rfl) (fun x y h=>let ⟨n,hn⟩:=yPU x.1 y h;⟨yLo n,iNil,(ySQ n x).trans hn⟩)
abbrev yP7:Ty:=.pair t25 .unit
abbrev yUe:Ty:=.pair t4 .unit
def yWS:G:={ T:=T,E:=[zj_e],muts:=[],fz:=[] }
def yYb:List (List Nat):=[[14,15,16]]
def yM7(n:Nat):Ann:={ keep:=yYb,fuel:=n,inl:=[],deep:=0 }
def yEH(n:Nat)(r3:List (Q4)→Int→Int→Option (Bool×Unit))(aQ:List (Q4))(eH:Int)(dD:Int):Option (Bool×Unit) :=
  (bif decide (dD < eH)then (Option.bind (idx aQ dD) fun v4=>(bif decide ((if Bool.true=Bool.true then imax (imax (imax v4.1 (IntKind.i64.wrap ((0:Int) - v4.1))) v4.2.1) (IntKind.i64.wrap ((0:Int) - v4.2.1))else imin (imin (imin v4.1 (IntKind.i64.wrap ((0:Int) - v4.1))) v4.2.1) (IntKind.i64.wrap ((0:Int) - v4.2.1))) > 10000)then some (Bool.false,())else r3 aQ eH (IntKind.i64.wrap (dD+1))))else some (Bool.true,()))
def y6d(n:Nat)(k:Nat)(aQ:List (Q4))(eH:Int)(dD:Int):Option (Bool×Unit) :=
  iter (fun r y=>yEH n (fun aQ eH dD=>r ((aQ,(eH,(dD,()))),((),()))) y.1.1 y.1.2.1 y.1.2.2.1) k ((aQ,(eH,(dD,()))),((),()))
def yJ5(n:Nat)(t:Q2):Option (Bool×Unit) :=
  (Option.bind (zj_M t) fun v0=>(bif v0.1 != 0 then some (Bool.false,())else (bif decide (t.2.2.1 > 64)then some (Bool.false,())else (y6d n n (t.2.1) ((↑t.2.1.length:Int)) ((0:Int))))))
theorem yWq(n:Nat)(x:yP7.den):runF yWS (yM7 n) Tryz.f94 yP7 yUe x=yJ5 n x.1:=by kernel_rfl
def yDa(aQ:List (Q4))(dD:Int)(v4:Q4):Option ((Bool×Unit)⊕Unit) :=
  (bif decide ((if Bool.true=Bool.true then imax (imax (imax v4.1 (IntKind.i64.wrap ((0:Int) - v4.1))) v4.2.1) (IntKind.i64.wrap ((0:Int) - v4.2.1))else imin (imin (imin v4.1 (IntKind.i64.wrap ((0:Int) - v4.1))) v4.2.1) (IntKind.i64.wrap ((0:Int) - v4.2.1))) > 10000)then (some (Sum.inl ((Bool.false,()))))else (some (Sum.inr ())))
def yHy(aQ:List (Q4)):Option (Bool×Unit) :=
  (some ((Bool.true,())))
theorem yCQ(n:Nat)(hn:big≤n)(aQ:List (Q4))(hx:List.length (aQ) < lenMax):LeF some (yf (fun aI ca ai=>yDa aQ aI ca) (fun ai=>yHy aQ) 0 (aQ) ()) (y6d n n aQ (List.length (aQ):Int) 0):=by
  refine yn (f:=some) (W:=fun d9 aI ai=>y6d n d9 aQ (List.length (aQ):Int) aI) (body:=(fun aI ca ai=>yDa aQ aI ca)) (fin:=(fun ai=>yHy aQ)) (fun d9 aI ai=>?_) hx () n (by unfold big at hn;unfold lenMax at hx;omega)
  show LeF _ _ (yEH n (y6d n d9) aQ (List.length (aQ):Int) aI)
  exact y9 (yB fun v4=>(y9 (y8 rfl) (y8 rfl))) (y1F (y8 rfl))
def yF7(t:Q2):Option (Bool×Unit) :=
  (Option.bind (zj_M t) fun v0=>(bif v0.1 != 0 then (some ((Bool.false,())))else (bif decide (t.2.2.1 > 64)then (some ((Bool.false,())))else (bif decide (List.length (t.2.1) < lenMax)then yf (fun aI ca ai=>yDa (t.2.1) aI ca) (fun ai=>yHy (t.2.1)) 0 (t.2.1) ()else none))))
theorem yP8(t:Q2)(y:Bool×Unit)(h:yF7 t=some y):∃ n,yJ5 n t=some y :=
  ⟨big,LeF.top (show LeF some (yF7 t) (yJ5 big t)from (fun (n:Nat) (hn:big≤n)=>show LeF some (yF7 t) (yJ5 n t)from (yB fun v0=>(y9 (y8 rfl) (y9 (y8 rfl) (yr fun hx=>by apply yCQ n hn;exact hx))))) big (Nat.le_refl _)) h⟩
def z0e_e:Entry:={ f:=94,args:=yP7,ress:=yUe,m:=fun x=>yF7 x.1 }
theorem ySa:FnOK Tryz.prog z0e_e:=yJ (g:=yWS) (fn:=Tryz.f94) yE yI (y6 yYF eNil) (by kernel_rfl) (by kernel_rfl) (by kernel_rfl) (fun x y h=>let ⟨n,hn⟩:=yP8 x.1 y h;⟨yM7 n,iNil,(yWq n x).trans hn⟩)
abbrev yQC:Ty:=.pair t60 (.pair t31 .unit)
abbrev yWt:Ty:=.pair t183 .unit
def yTg:G:={ T:=T,E:=[z07_e,z8_e],muts:=[],fz:=[] }
def yYz:List (List Nat):=[]
def yLa(n:Nat):Ann:={ keep:=yYz,fuel:=n,inl:=[],deep:=0 }
def yPo(n:Nat)(rp:Q1)(l:List (Q3)):Option (List (List (Q4))×Unit) :=
  (Option.bind (z8_M l fun (x:(Q3)×Unit)=>yNa x.1 l rp) fun v0=>some (v0.1,()))
theorem yRK(n:Nat)(x:yQC.den):runF yTg (yLa n) Tryz.f122 yQC yWt x=yPo n x.1 x.2.1:=by kernel_rfl
def yD6(rp:Q1)(l:List (Q3)):Option (List (List (Q4))×Unit):=yPo 0 rp l
theorem yNk(rp:Q1)(l:List (Q3))(y:List (List (Q4))×Unit)(h:yD6 rp l=some y):∃ n,yPo n rp l=some y:=⟨0,h⟩
def z0Y_e:Entry:={ f:=122,args:=yQC,ress:=yWt,m:=fun x=>yD6 x.1 x.2.1 }
theorem yB3:FnOK Tryz.prog z0Y_e:=yJ (g:=yTg) (fn:=Tryz.f122) yE yI (y6 yRM (y6 yZZ eNil)) (by kernel_rfl) (by kernel_rfl) (by kernel_rfl) (fun x y h=>let ⟨n,hn⟩:=yNk x.1 x.2.1 y h;⟨yLa n,iNil,(yRK n x).trans hn⟩)
abbrev ze_a:Ty:=.pair t60 .unit
abbrev ze_r:Ty:=.pair t28 .unit
def ze_g:G:={ T:=T,E:=[zT_e,z0x_e,z16_e],muts:=[],fz:=[] }
def ze_k:List (List Nat):=[]
def yTY(n:Nat):Ann:={ keep:=ze_k,fuel:=n,inl:=[],deep:=0 }
def ze_m(n:Nat)(rp:Q1):Option (Int×Unit) :=
  (Option.bind (zT_M rp) fun v0=>(bif v0.1 != 0 then some (v0.1,())else (Option.bind (yIz rp) fun v1=>some ((z16 (decide ((↑v1.1.length:Int) > 128)) (5:Int)).1,()))))
theorem yYA(n:Nat)(x:ze_a.den):runF ze_g (yTY n) Tryz.f128 ze_a ze_r x=ze_m n x.1:=by kernel_rfl
def ze_M(rp:Q1):Option (Int×Unit):=ze_m 0 rp
theorem yT5(rp:Q1)(y:Int×Unit)(h:ze_M rp=some y):∃ n,ze_m n rp=some y:=⟨0,h⟩
def ze_e:Entry:={ f:=128,args:=ze_a,ress:=ze_r,m:=fun x=>ze_M x.1 }
theorem yTw:FnOK Tryz.prog ze_e:=yJ (g:=ze_g) (fn:=Tryz.f128) yE yI (y6 yY3 (y6 yMA (y6 y4V eNil))) (by kernel_rfl) (by kernel_rfl) (by kernel_rfl) (fun x y h=>let ⟨n,hn⟩:=yT5 x.1 y h;⟨yTY n,iNil,(yYA n x).trans hn⟩)
end
end Go.Tw
end
section
set_option maxRecDepth 1000000
namespace Go.Tw
open Go.Vx Go.Vx.B Go.Proofs
noncomputable section
abbrev yMn:Ty:=.pair t33 (.pair t3 (.pair t3 .unit))
abbrev yWB:Ty:=.pair t23 (.pair t28 .unit)
def ySk:G:={ T:=T,E:=[zu_e,zw_e,z0s_e,z0G_e],muts:=[9],fz:=[] }
def yXP:List (List Nat):=[[1,3,9,21,22]]
def yLq(n:Nat):Ann:={ keep:=yXP,fuel:=n,inl:=[],deep:=0 }
def yE3(n:Nat)(r3:Int→Q2→Int→Int→List (Q4)→Option (List (Q4)×Int×Unit))(av:Int)(cb:Q2)(b4:Int)(cF:Int)(ck:List (Q4)):Option (List (Q4)×Int×Unit) :=
  (bif decide (cF < b4)then (Option.bind (yBp cb (IntKind.i64.wrap (av+cF))) fun v4=>(bif decide (ck.length+(1:Nat)≤memMax)then r3 av cb b4 (IntKind.i64.wrap (cF+1)) (ck++[v4.1])else none))else some (ck,(0:Int),()))
def y6k(n:Nat)(k:Nat)(av:Int)(cb:Q2)(b4:Int)(cF:Int)(ck:List (Q4)):Option (List (Q4)×Int×Unit) :=
  iter (fun r y=>yE3 n (fun av cb b4 cF ck=>r ((av,(cb,(b4,(cF,())))),((ck,()),()))) y.1.1 y.1.2.1 y.1.2.2.1 y.1.2.2.2.1 y.2.1.1) k ((av,(cb,(b4,(cF,())))),((ck,()),()))
def yKj(n:Nat)(t:Q2)(p1:Int)(np:Int):Option (List (Q4)×Int×Unit) :=
  (Option.bind (zu_M t) fun v0=>(Option.bind (zw_M p1 np) fun v1=>(Option.bind (y1h [v0.1,v1.1]) fun v2=>(bif v2.1 != 0 then some ([],v2.1,())else (y6k n n (p1) (t) (np) ((0:Int)) ([]))))))
theorem yRl(n:Nat)(x:yMn.den):runF ySk (yLq n) Tryz.f20 yMn yWB x=yKj n x.1 x.2.1 x.2.2.1:=by kernel_rfl
def yDh(av:Int)(cb:Q2)(b4:Int)(cF:Int)(ck:List (Q4)):Option ((List (Q4)×Int×Unit)⊕(List (Q4))) :=
  (Option.bind (yBp cb (IntKind.i64.wrap (av+cF))) fun v4=>(bif decide (ck.length+(1:Nat)≤memMax)then (some (Sum.inr (ck++[v4.1])))else none))
def yHY(av:Int)(cb:Q2)(b4:Int)(ck:List (Q4)):Option (List (Q4)×Int×Unit) :=
  (some ((ck,(0:Int),())))
theorem yCY(n:Nat)(hn:big≤n)(av:Int)(cb:Q2)(b4:Int)(ck:List (Q4))(hx:(b4)≤9223372036854775807):LeF some (y2e (fun aI ai=>yDh av cb b4 aI ai) (fun ai=>yHY av cb b4 ai) ((b4) - 0).toNat 0 ck) (y6k n n av cb b4 0 ck):=by
  refine y6l (f:=some) (W:=fun d9 aI ai=>y6k n d9 av cb b4 aI ai) (body:=(fun aI ai=>yDh av cb b4 aI ai)) (fin:=(fun ai=>yHY av cb b4 ai)) (fun d9 aI ai=>?_) hx ck n 0 (by decide) (by unfold big at hn;omega)
  show LeF _ _ (yE3 n (y6k n d9) av cb b4 aI ai)
  exact y9 (yB fun v4=>(y9 (y8 rfl) y1w)) (y1F (y8 rfl))
def y6Q(t:Q2)(p1:Int)(np:Int):Option (List (Q4)×Int×Unit) :=
  (Option.bind (zu_M t) fun v0=>(Option.bind (zw_M p1 np) fun v1=>(Option.bind (y1h [v0.1,v1.1]) fun v2=>(bif v2.1 != 0 then (some (([],v2.1,())))else (bif decide ((np)≤9223372036854775807)then y2e (fun aI ai=>yDh (p1) (t) (np) aI ai) (fun ai=>yHY (p1) (t) (np) ai) ((np) - 0).toNat 0 ([])else none)))))
theorem yOM(t:Q2)(p1:Int)(np:Int)(y:List (Q4)×Int×Unit)(h:y6Q t p1 np=some y):∃ n,yKj n t p1 np=some y :=
  ⟨big,LeF.top (show LeF some (y6Q t p1 np) (yKj big t p1 np)from (fun (n:Nat) (hn:big≤n)=>show LeF some (y6Q t p1 np) (yKj n t p1 np)from (yB fun v0=>(yB fun v1=>(yB fun v2=>(y9 (y8 rfl) (yr fun hx=>by apply yCY n hn;exact hx)))))) big (Nat.le_refl _)) h⟩
def z0F_e:Entry:={ f:=20,args:=yMn,ress:=yWB,m:=fun x=>y6Q x.1 x.2.1 x.2.2.1 }
theorem yHv:FnOK Tryz.prog z0F_e:=yJ (g:=ySk) (fn:=Tryz.f20) yE yI (y6 yFk (y6 yYL (y6 y3W (y6 yMB eNil)))) (by kernel_rfl) (by kernel_rfl) (by kernel_rfl) (fun x y h=>let ⟨n,hn⟩:=yOM x.1 x.2.1 x.2.2.1 y h;⟨yLq n,iNil,(yRl n x).trans hn⟩)
abbrev yPt:Ty:=.pair t60 (.pair t33 .unit)
abbrev yUR:Ty:=.pair t69 (.pair t28 .unit)
def yQu:G:={ T:=T,E:=[ze_e,zu_e,zn_e,z16_e,z0s_e,z0G_e,z0v_e],muts:=[],fz:=[] }
def yXu:List (List Nat):=[]
def yLy(n:Nat):Ann:={ keep:=yXu,fuel:=n,inl:=[il124,il195],deep:=3 }
def yBD(n:Nat)(r4:Q1→List (Q4)→List Nat→Int→Int→Q1→Q2→Q1→Q2→Int→Int→Q1→Int→Q2→Int→Q2→Bool→Bool→Int→List Int→Int→Int→Bool→Q1→Q1→Int→Int→Int→Q1→Q2→Q1→Q2→Int→Int→Q1→Int→Q2→Int→Q2→Bool→Bool→Int→List Int→Int→Int→Bool→Q1→Q1→Option ((Q4)×Int×Unit))(j12:Q1)(j13:List (Q4))(j14:Int)(j15:Nat)(j16:List Nat)(j17:Int)(j18:Int)(j19:Q1)(j20:Q2)(j21:Q1)(j22:Q2)(j23:Int)(j24:Int)(j25:Q1)(j26:Int)(j27:Q2)(j28:Int)(j29:Q2)(j30:Bool)(j31:Bool)(j32:Int)(j33:List Int)(j34:Int)(j35:Int)(j36:Bool)(j37:Q1)(j38:Q1)(j39:Int)(j40:Int)(j41:Int)(j42:Q1)(j43:Q2)(j44:Q1)(j45:Q2)(j46:Int)(j47:Int)(j48:Q1)(j49:Int)(j50:Q2)(j51:Int)(j52:Q2)(j53:Bool)(j54:Bool)(j55:Int)(j56:List Int)(j57:Int)(j58:Int)(j59:Bool)(j60:Q1)(j61:Q1):Option ((Q4)×Int×Unit) :=
  (bif decide ((↑j13.length:Int) > 0)then (Option.bind (idx j13 (0:Int)) fun v62=>(bif decide (v62.1≤j14)then r4 j12 j13 j16 j17 (IntKind.i64.wrap (j18+1)) j19 j20 j21 j22 j23 j24 j25 j26 j27 j28 j29 j30 j31 j32 j33 j34 j35 j36 j37 j38 j39 j40 j41 j42 j43 j44 j45 j46 j47 j48 j49 j50 j51 j52 j53 j54 j55 j56 j57 j58 j59 j60 j61 else (Option.bind (y0M Go.FloatKind.f32 (y0u Go.BinOp.mul Go.FloatKind.f32 j15 (nat_lit 1098907648)) IntKind.i64) fun v67=>(Option.bind (yBp j22 (IntKind.i64.wrap (j12.2.1+j14))) fun v68=>r4 j12 j13 j16 j17 (IntKind.i64.wrap (j18+1)) j19 j20 j21 j22 j23 j24 j25 j26 j27 j28 j29 j30 j31 j32 j33 j34 j35 j36 j37 j38 j39 j40 (IntKind.i64.wrap (j41+IntKind.i64.wrap (IntKind.i64.wrap (IntKind.i64.wrap (IntKind.i64.wrap (j22.2.2.1 * v67) - v68.1.1) * IntKind.i64.wrap (IntKind.i64.wrap (j22.2.2.1 * v67) - v68.1.1))+IntKind.i64.wrap (v68.1.2.1 * v68.1.2.1)))) j42 j43 j44 j45 j46 j47 j48 j49 j50 j51 j52 j53 j54 j55 j56 j57 j58 j59 j60 j61))))else (Option.bind (y0M Go.FloatKind.f32 (y0u Go.BinOp.mul Go.FloatKind.f32 j15 (nat_lit 1098907648)) IntKind.i64) fun v69=>(Option.bind (yBp j22 (IntKind.i64.wrap (j12.2.1+j14))) fun v70=>r4 j12 j13 j16 j17 (IntKind.i64.wrap (j18+1)) j19 j20 j21 j22 j23 j24 j25 j26 j27 j28 j29 j30 j31 j32 j33 j34 j35 j36 j37 j38 j39 j40 (IntKind.i64.wrap (j41+IntKind.i64.wrap (IntKind.i64.wrap (IntKind.i64.wrap (IntKind.i64.wrap (j22.2.2.1 * v69) - v70.1.1) * IntKind.i64.wrap (IntKind.i64.wrap (j22.2.2.1 * v69) - v70.1.1))+IntKind.i64.wrap (v70.1.2.1 * v70.1.2.1)))) j42 j43 j44 j45 j46 j47 j48 j49 j50 j51 j52 j53 j54 j55 j56 j57 j58 j59 j60 j61)))
def yJi(n:Nat)(r4:Q1→List (Q4)→List Nat→Int→Int→Q1→Q2→Q1→Q2→Int→Int→Q1→Int→Q2→Int→Q2→Bool→Bool→Int→List Int→Int→Int→Bool→Q1→Q1→Int→Int→Int→Q1→Q2→Q1→Q2→Int→Int→Q1→Int→Q2→Int→Q2→Bool→Bool→Int→List Int→Int→Int→Bool→Q1→Q1→Option ((Q4)×Int×Unit))(r6:Q1→List (Q4)→Int→Nat→List Nat→Int→Int→Q1→Q2→Q1→Q2→Int→Int→Q1→Int→Q2→Int→Q2→Bool→Bool→Int→List Int→Int→Int→Bool→Q1→Q1→Int→Int→Int→Q1→Q2→Q1→Q2→Int→Int→Q1→Int→Q2→Int→Q2→Bool→Bool→Int→List Int→Int→Int→Bool→Q1→Q1→Option ((Q4)×Int×Unit))(fq:Q1)(bi:List (Q4))(eR:Int)(fr:Nat)(fw:List Nat)(dK:Int)(dL:Int)(cp:Q1)(cr:Q2)(cu:Q1)(cw:Q2)(cx:Int)(cy:Int)(bD:Q1)(bE:Int)(bF:Q2)(bG:Int)(bH:Q2)(bI:Bool)(bJ:Bool)(bK:Int)(bL:List Int)(bM:Int)(bN:Int)(bO:Bool)(bP:Q1)(b7:Q1)(cz:Int)(cA:Int)(cB:Int)(fy:Q1)(fA:Q2)(fB:Q1)(fC:Q2)(fD:Int)(fE:Int)(dM:Q1)(dN:Int)(dO:Q2)(dP:Int)(dQ:Q2)(dR:Bool)(dS:Bool)(dT:Int)(dU:List Int)(dV:Int)(dW:Int)(dX:Bool)(dY:Q1)(bQ:Q1):Option ((Q4)×Int×Unit) :=
  (bif decide ((↑bi.length:Int) > 0)then (Option.bind (idx bi (0:Int)) fun v7=>(bif decide (v7.2.1≤eR)then (bif decide ((0:Int)≤1) && decide ((1:Int)≤(↑bi.length:Int))then r6 fq (List.drop (Int.toNat (1:Int)) bi) eR fr fw dK dL cp cr cu cw cx cy bD bE bF bG bH bI bJ bK bL bM bN bO bP b7 cz cA cB fy fA fB fC fD fE dM dN dO dP dQ dR dS dT dU dV dW dX dY bQ else none)else (yBD n r4 (fq) (bi) (eR) (fr) (fw) (dK) (dL) (cp) (cr) (cu) (cw) (cx) (cy) (bD) (bE) (bF) (bG) (bH) (bI) (bJ) (bK) (bL) (bM) (bN) (bO) (bP) (b7) (cz) (cA) (cB) (fy) (fA) (fB) (fC) (fD) (fE) (dM) (dN) (dO) (dP) (dQ) (dR) (dS) (dT) (dU) (dV) (dW) (dX) (dY) (bQ))))else (yBD n r4 (fq) (bi) (eR) (fr) (fw) (dK) (dL) (cp) (cr) (cu) (cw) (cx) (cy) (bD) (bE) (bF) (bG) (bH) (bI) (bJ) (bK) (bL) (bM) (bN) (bO) (bP) (b7) (cz) (cA) (cB) (fy) (fA) (fB) (fC) (fD) (fE) (dM) (dN) (dO) (dP) (dQ) (dR) (dS) (dT) (dU) (dV) (dW) (dX) (dY) (bQ)))
def yId(n:Nat)(r4:Q1→List (Q4)→List Nat→Int→Int→Q1→Q2→Q1→Q2→Int→Int→Q1→Int→Q2→Int→Q2→Bool→Bool→Int→List Int→Int→Int→Bool→Q1→Q1→Int→Int→Int→Q1→Q2→Q1→Q2→Int→Int→Q1→Int→Q2→Int→Q2→Bool→Bool→Int→List Int→Int→Int→Bool→Q1→Q1→Option ((Q4)×Int×Unit))(k:Nat)(fq:Q1)(bi:List (Q4))(eR:Int)(fr:Nat)(fw:List Nat)(dK:Int)(dL:Int)(cp:Q1)(cr:Q2)(cu:Q1)(cw:Q2)(cx:Int)(cy:Int)(bD:Q1)(bE:Int)(bF:Q2)(bG:Int)(bH:Q2)(bI:Bool)(bJ:Bool)(bK:Int)(bL:List Int)(bM:Int)(bN:Int)(bO:Bool)(bP:Q1)(b7:Q1)(cz:Int)(cA:Int)(cB:Int)(fy:Q1)(fA:Q2)(fB:Q1)(fC:Q2)(fD:Int)(fE:Int)(dM:Q1)(dN:Int)(dO:Q2)(dP:Int)(dQ:Q2)(dR:Bool)(dS:Bool)(dT:Int)(dU:List Int)(dV:Int)(dW:Int)(dX:Bool)(dY:Q1)(bQ:Q1):Option ((Q4)×Int×Unit) :=
  iter (fun r y=>yJi n r4 (fun fq bi eR fr fw dK dL cp cr cu cw cx cy bD bE bF bG bH bI bJ bK bL bM bN bO bP b7 cz cA cB fy fA fB fC fD fE dM dN dO dP dQ dR dS dT dU dV dW dX dY bQ=>r ((fq,(bi,(eR,(fr,(fw,(dK,(dL,()))))))),(((cp,(cr,(cu,(cw,(cx,(cy,(bD,(bE,(bF,(bG,(bH,(bI,(bJ,(bK,(bL,(bM,(bN,(bO,(bP,((b7,()),())))))))))))))))))))),((cz,(cA,())),((cB,()),()))),(fy,(fA,(fB,(fC,(fD,(fE,(dM,(dN,(dO,(dP,(dQ,(dR,(dS,(dT,(dU,(dV,(dW,(dX,(dY,((bQ,()),()))))))))))))))))))))))) y.1.1 y.1.2.1 y.1.2.2.1 y.1.2.2.2.1 y.1.2.2.2.2.1 y.1.2.2.2.2.2.1 y.1.2.2.2.2.2.2.1 y.2.1.1.1 y.2.1.1.2.1 y.2.1.1.2.2.1 y.2.1.1.2.2.2.1 y.2.1.1.2.2.2.2.1 y.2.1.1.2.2.2.2.2.1 y.2.1.1.2.2.2.2.2.2.1 y.2.1.1.2.2.2.2.2.2.2.1 y.2.1.1.2.2.2.2.2.2.2.2.1 y.2.1.1.2.2.2.2.2.2.2.2.2.1 y.2.1.1.2.2.2.2.2.2.2.2.2.2.1 y.2.1.1.2.2.2.2.2.2.2.2.2.2.2.1 y.2.1.1.2.2.2.2.2.2.2.2.2.2.2.2.1 y.2.1.1.2.2.2.2.2.2.2.2.2.2.2.2.2.1 y.2.1.1.2.2.2.2.2.2.2.2.2.2.2.2.2.2.1 y.2.1.1.2.2.2.2.2.2.2.2.2.2.2.2.2.2.2.1 y.2.1.1.2.2.2.2.2.2.2.2.2.2.2.2.2.2.2.2.1 y.2.1.1.2.2.2.2.2.2.2.2.2.2.2.2.2.2.2.2.2.1 y.2.1.1.2.2.2.2.2.2.2.2.2.2.2.2.2.2.2.2.2.2.1 y.2.1.1.2.2.2.2.2.2.2.2.2.2.2.2.2.2.2.2.2.2.2.1.1 y.2.1.2.1.1 y.2.1.2.1.2.1 y.2.1.2.2.1.1 y.2.2.1 y.2.2.2.1 y.2.2.2.2.1 y.2.2.2.2.2.1 y.2.2.2.2.2.2.1 y.2.2.2.2.2.2.2.1 y.2.2.2.2.2.2.2.2.1 y.2.2.2.2.2.2.2.2.2.1 y.2.2.2.2.2.2.2.2.2.2.1 y.2.2.2.2.2.2.2.2.2.2.2.1 y.2.2.2.2.2.2.2.2.2.2.2.2.1 y.2.2.2.2.2.2.2.2.2.2.2.2.2.1 y.2.2.2.2.2.2.2.2.2.2.2.2.2.2.1 y.2.2.2.2.2.2.2.2.2.2.2.2.2.2.2.1 y.2.2.2.2.2.2.2.2.2.2.2.2.2.2.2.2.1 y.2.2.2.2.2.2.2.2.2.2.2.2.2.2.2.2.2.1 y.2.2.2.2.2.2.2.2.2.2.2.2.2.2.2.2.2.2.1 y.2.2.2.2.2.2.2.2.2.2.2.2.2.2.2.2.2.2.2.1 y.2.2.2.2.2.2.2.2.2.2.2.2.2.2.2.2.2.2.2.2.1 y.2.2.2.2.2.2.2.2.2.2.2.2.2.2.2.2.2.2.2.2.2.1.1) k ((fq,(bi,(eR,(fr,(fw,(dK,(dL,()))))))),(((cp,(cr,(cu,(cw,(cx,(cy,(bD,(bE,(bF,(bG,(bH,(bI,(bJ,(bK,(bL,(bM,(bN,(bO,(bP,((b7,()),())))))))))))))))))))),((cz,(cA,())),((cB,()),()))),(fy,(fA,(fB,(fC,(fD,(fE,(dM,(dN,(dO,(dP,(dQ,(dR,(dS,(dT,(dU,(dV,(dW,(dX,(dY,((bQ,()),()))))))))))))))))))))))
def yIg(n:Nat)(r4:Q1→List (Q4)→List Nat→Int→Int→Q1→Q2→Q1→Q2→Int→Int→Q1→Int→Q2→Int→Q2→Bool→Bool→Int→List Int→Int→Int→Bool→Q1→Q1→Int→Int→Int→Q1→Q2→Q1→Q2→Int→Int→Q1→Int→Q2→Int→Q2→Bool→Bool→Int→List Int→Int→Int→Bool→Q1→Q1→Option ((Q4)×Int×Unit))(dc:Q1)(aB:List (Q4))(cG:List Nat)(bq:Int)(bn:Int)(b8:Q1)(b9:Q2)(ba:Q1)(dZ:Q2)(bc:Int)(bd:Int)(cH:Q1)(cI:Int)(cJ:Q2)(aJ:Int)(aK:Q2)(aL:Bool)(aM:Bool)(aN:Int)(cK:List Int)(cL:Int)(cM:Int)(aO:Bool)(aP:Q1)(bt:Q1)(be:Int)(bf:Int)(aX:Int)(df:Q1)(dg:Q2)(dl:Q1)(fF:Q2)(dm:Int)(dn:Int)(eS:Q1)(eT:Int)(eU:Q2)(bu:Int)(bv:Q2)(bw:Bool)(bx:Bool)(bz:Int)(eV:List Int)(eW:Int)(eX:Int)(bA:Bool)(bB:Q1)(cN:Q1):Option ((Q4)×Int×Unit) :=
  (bif decide (bn < bq)then (Option.bind (idx cG bn) fun v5=>(yId n r4 n (dc) (aB) (bn) (v5) (cG) (bq) (bn) (b8) (b9) (ba) (dZ) (bc) (bd) (cH) (cI) (cJ) (aJ) (aK) (aL) (aM) (aN) (cK) (cL) (cM) (aO) (aP) (bt) (be) (bf) (aX) (df) (dg) (dl) (fF) (dm) (dn) (eS) (eT) (eU) (bu) (bv) (bw) (bx) (bz) (eV) (eW) (eX) (bA) (bB) (cN)))else (Option.bind (yFY aX (IntKind.i64.wrap (fF.2.2.1 * fF.2.2.1))) fun v72=>some ((v72.1.1,v72.1.2.1,()),(0:Int),())))
def yKo(n:Nat)(k:Nat)(dc:Q1)(aB:List (Q4))(cG:List Nat)(bq:Int)(bn:Int)(b8:Q1)(b9:Q2)(ba:Q1)(dZ:Q2)(bc:Int)(bd:Int)(cH:Q1)(cI:Int)(cJ:Q2)(aJ:Int)(aK:Q2)(aL:Bool)(aM:Bool)(aN:Int)(cK:List Int)(cL:Int)(cM:Int)(aO:Bool)(aP:Q1)(bt:Q1)(be:Int)(bf:Int)(aX:Int)(df:Q1)(dg:Q2)(dl:Q1)(fF:Q2)(dm:Int)(dn:Int)(eS:Q1)(eT:Int)(eU:Q2)(bu:Int)(bv:Q2)(bw:Bool)(bx:Bool)(bz:Int)(eV:List Int)(eW:Int)(eX:Int)(bA:Bool)(bB:Q1)(cN:Q1):Option ((Q4)×Int×Unit) :=
  iter (fun r y=>yIg n (fun dc aB cG bq bn b8 b9 ba dZ bc bd cH cI cJ aJ aK aL aM aN cK cL cM aO aP bt be bf aX df dg dl fF dm dn eS eT eU bu bv bw bx bz eV eW eX bA bB cN=>r ((dc,(aB,(cG,(bq,(bn,()))))),(((b8,(b9,(ba,(dZ,(bc,(bd,(cH,(cI,(cJ,(aJ,(aK,(aL,(aM,(aN,(cK,(cL,(cM,(aO,(aP,((bt,()),())))))))))))))))))))),((be,(bf,())),((aX,()),()))),(df,(dg,(dl,(fF,(dm,(dn,(eS,(eT,(eU,(bu,(bv,(bw,(bx,(bz,(eV,(eW,(eX,(bA,(bB,((cN,()),()))))))))))))))))))))))) y.1.1 y.1.2.1 y.1.2.2.1 y.1.2.2.2.1 y.1.2.2.2.2.1 y.2.1.1.1 y.2.1.1.2.1 y.2.1.1.2.2.1 y.2.1.1.2.2.2.1 y.2.1.1.2.2.2.2.1 y.2.1.1.2.2.2.2.2.1 y.2.1.1.2.2.2.2.2.2.1 y.2.1.1.2.2.2.2.2.2.2.1 y.2.1.1.2.2.2.2.2.2.2.2.1 y.2.1.1.2.2.2.2.2.2.2.2.2.1 y.2.1.1.2.2.2.2.2.2.2.2.2.2.1 y.2.1.1.2.2.2.2.2.2.2.2.2.2.2.1 y.2.1.1.2.2.2.2.2.2.2.2.2.2.2.2.1 y.2.1.1.2.2.2.2.2.2.2.2.2.2.2.2.2.1 y.2.1.1.2.2.2.2.2.2.2.2.2.2.2.2.2.2.1 y.2.1.1.2.2.2.2.2.2.2.2.2.2.2.2.2.2.2.1 y.2.1.1.2.2.2.2.2.2.2.2.2.2.2.2.2.2.2.2.1 y.2.1.1.2.2.2.2.2.2.2.2.2.2.2.2.2.2.2.2.2.1 y.2.1.1.2.2.2.2.2.2.2.2.2.2.2.2.2.2.2.2.2.2.1 y.2.1.1.2.2.2.2.2.2.2.2.2.2.2.2.2.2.2.2.2.2.2.1.1 y.2.1.2.1.1 y.2.1.2.1.2.1 y.2.1.2.2.1.1 y.2.2.1 y.2.2.2.1 y.2.2.2.2.1 y.2.2.2.2.2.1 y.2.2.2.2.2.2.1 y.2.2.2.2.2.2.2.1 y.2.2.2.2.2.2.2.2.1 y.2.2.2.2.2.2.2.2.2.1 y.2.2.2.2.2.2.2.2.2.2.1 y.2.2.2.2.2.2.2.2.2.2.2.1 y.2.2.2.2.2.2.2.2.2.2.2.2.1 y.2.2.2.2.2.2.2.2.2.2.2.2.2.1 y.2.2.2.2.2.2.2.2.2.2.2.2.2.2.1 y.2.2.2.2.2.2.2.2.2.2.2.2.2.2.2.1 y.2.2.2.2.2.2.2.2.2.2.2.2.2.2.2.2.1 y.2.2.2.2.2.2.2.2.2.2.2.2.2.2.2.2.2.1 y.2.2.2.2.2.2.2.2.2.2.2.2.2.2.2.2.2.2.1 y.2.2.2.2.2.2.2.2.2.2.2.2.2.2.2.2.2.2.2.1 y.2.2.2.2.2.2.2.2.2.2.2.2.2.2.2.2.2.2.2.2.1 y.2.2.2.2.2.2.2.2.2.2.2.2.2.2.2.2.2.2.2.2.2.1.1) k ((dc,(aB,(cG,(bq,(bn,()))))),(((b8,(b9,(ba,(dZ,(bc,(bd,(cH,(cI,(cJ,(aJ,(aK,(aL,(aM,(aN,(cK,(cL,(cM,(aO,(aP,((bt,()),())))))))))))))))))))),((be,(bf,())),((aX,()),()))),(df,(dg,(dl,(fF,(dm,(dn,(eS,(eT,(eU,(bu,(bv,(bw,(bx,(bz,(eV,(eW,(eX,(bA,(bB,((cN,()),()))))))))))))))))))))))
def yPL(n:Nat)(rp:Q1)(t:Q2):Option ((Q4)×Int×Unit) :=
  (Option.bind (ze_M rp) fun v0=>(Option.bind (zu_M t) fun v1=>(Option.bind (zn_M t) fun v2=>(Option.bind (y1h [v0.1,v1.1,(z16 (!v2.1) (4:Int)).1]) fun v3=>(bif v3.1 != 0 then some (((0:Int),(0:Int),()),v3.1,())else (yKo n n (rp) (rp.2.2.2.1) (rp.2.2.1) ((↑rp.2.2.1.length:Int)) ((0:Int)) (rp) (t) (rp) (t) ((0:Int)) (v3.1) (rp) (v0.1) (t) (v1.1) (t) (v2.1) (!v2.1) ((z16 (!v2.1) (4:Int)).1) ([v0.1,v1.1,(z16 (!v2.1) (4:Int)).1]) (v3.1) (v3.1) (v3.1 != 0) (rp) (rp) ((0:Int)) ((0:Int)) ((0:Int)) (rp) (t) (rp) (t) ((0:Int)) (v3.1) (rp) (v0.1) (t) (v1.1) (t) (v2.1) (!v2.1) ((z16 (!v2.1) (4:Int)).1) ([v0.1,v1.1,(z16 (!v2.1) (4:Int)).1]) (v3.1) (v3.1) (v3.1 != 0) (rp) (rp)))))))
theorem yQz(n:Nat)(x:yPt.den):runF yQu (yLy n) Tryz.f37 yPt yUR x=yPL n x.1 x.2.1:=by kernel_rfl
def yMx(rp:Q1)(t:Q2):Option ((Q4)×Int×Unit):=yPL 1000 rp t
theorem yPb(rp:Q1)(t:Q2)(y:(Q4)×Int×Unit)(h:yMx rp t=some y):∃ n,yPL n rp t=some y:=⟨1000,h⟩
def z05_e:Entry:={ f:=37,args:=yPt,ress:=yUR,m:=fun x=>yMx x.1 x.2.1 }
theorem ySn:FnOK Tryz.prog z05_e:=yJ (g:=yQu) (fn:=Tryz.f37) yE yI (y6 yTw (y6 yFk (y6 yOu (y6 y4V (y6 y3W (y6 yMB (y6 yHP eNil))))))) (by kernel_rfl) (by kernel_rfl) (by kernel_rfl) (fun x y h=>let ⟨n,hn⟩:=yPb x.1 x.2.1 y h;⟨yLy n,(y4R y5Y (y4R y5J iNil)),(yQz n x).trans hn⟩)
abbrev yN1:Ty:=.pair t33 (.pair t3 .unit)
abbrev yUN:Ty:=.pair t33 (.pair t28 .unit)
def yTF:G:={ T:=T,E:=[zu_e,z0b_e,zn_e,z16_e,z0s_e,z0u_e,z03_e,zG_e,z0J_e],muts:=[],fz:=[7] }
def yYB:List (List Nat):=[]
def yMF(n:Nat):Ann:={ keep:=yYB,fuel:=n,inl:=[],deep:=0 }
def yKw(n:Nat)(t:Q2)(year:Int):Option ((Q2)×Int×Unit) :=
  (Option.bind (zu_M t) fun v0=>(Option.bind (zn_M t) fun v1=>(Option.bind (y1h [v0.1,(z0b year (0:Int) (9999:Int)).1,(z16 (!v1.1) (4:Int)).1]) fun v2=>(bif v2.1 != 0 then some (([],[],(0:Int),()),v2.1,())else (Option.bind (yF8 year) fun v3=>(Option.bind (zG_M t.2.1 fun (x:(Q4)×Unit)=>yOq x.1 (v3.1.1,v3.1.2.1,())) fun v4=>(Option.bind (yAU t.1 v4.1 (IntKind.i64.wrap (t.2.2.1 * v3.1.2.1))) fun v5=>some ((v5.1.1,v5.1.2.1,v5.1.2.2.1,()),(0:Int),()))))))))
theorem yV8(n:Nat)(x:yN1.den):runF yTF (yMF n) Tryz.f42 yN1 yUN x=yKw n x.1 x.2.1:=by kernel_rfl
def yKF(t:Q2)(year:Int):Option ((Q2)×Int×Unit):=yKw 0 t year
theorem yO1(t:Q2)(year:Int)(y:(Q2)×Int×Unit)(h:yKF t year=some y):∃ n,yKw n t year=some y:=⟨0,h⟩
def z0R_e:Entry:={ f:=42,args:=yN1,ress:=yUN,m:=fun x=>yKF x.1 x.2.1 }
theorem ySE:FnOK Tryz.prog z0R_e:=yJ (g:=yTF) (fn:=Tryz.f42) yE yI (y6 yFk (y6 y8x (y6 yOu (y6 y4V (y6 y3W (y6 yM0 (y6 yUZ (y6 yPd (y6 yG8 eNil))))))))) (by kernel_rfl) (by kernel_rfl) (by kernel_rfl) (fun x y h=>let ⟨n,hn⟩:=yO1 x.1 x.2.1 y h;⟨yMF n,iNil,(yV8 n x).trans hn⟩)
abbrev yOB:Ty:=.pair t33 .unit
abbrev yS9:Ty:=.pair t79 (.pair t28 .unit)
def ySF:G:={ T:=T,E:=[zu_e,z0V_e,z16_e,zF_e,z0s_e,z0W_e,zH_e],muts:=[],fz:=[] }
def yXM:List (List Nat):=[]
def yMP(n:Nat):Ann:={ keep:=yXM,fuel:=n,inl:=[],deep:=0 }
def yOl(n:Nat)(t:Q2):Option (List (Nat×Nat)×Int×Unit) :=
  (Option.bind (zu_M t) fun v0=>(bif v0.1 != 0 then some ([],v0.1,())else (Option.bind (zF_M t.2.1 fun (x:(Q4)×Unit)=>yN0 x.1) fun v1=>(Option.bind (y1h v1.1) fun v2=>(Option.bind (y1h [(z16 (y3b IntKind.i64 Go.BinOp.and t.2.2.1 (IntKind.i64.wrap (t.2.2.1 - (1:Int))) != 0) (1:Int)).1,v2.1]) fun v3=>(bif v3.1 != 0 then some ([],v3.1,())else (Option.bind (zH_M t.2.1 fun (x:(Q4)×Unit)=>yO0 x.1 (y0x Go.FloatKind.f32 (IntKind.i64.wrap ((16:Int) * t.2.2.1)),nat_lit 0)) fun v4=>some (v4.1,(0:Int),()))))))))
theorem yUY(n:Nat)(x:yOB.den):runF ySF (yMP n) Tryz.f43 yOB yS9 x=yOl n x.1:=by kernel_rfl
def yOT(t:Q2):Option (List (Nat×Nat)×Int×Unit):=yOl 0 t
theorem yPe(t:Q2)(y:List (Nat×Nat)×Int×Unit)(h:yOT t=some y):∃ n,yOl n t=some y:=⟨0,h⟩
def z14_e:Entry:={ f:=43,args:=yOB,ress:=yS9,m:=fun x=>yOT x.1 }
theorem yTs:FnOK Tryz.prog z14_e:=yJ (g:=ySF) (fn:=Tryz.f43) yE yI (y6 yFk (y6 yQv (y6 y4V (y6 yVQ (y6 y3W (y6 yX0 (y6 yYd eNil))))))) (by kernel_rfl) (by kernel_rfl) (by kernel_rfl) (fun x y h=>let ⟨n,hn⟩:=yPe x.1 y h;⟨yMP n,iNil,(yUY n x).trans hn⟩)
def il174:Inl:={ f:=174,fn:=Tryz.f174,keep:=[],muts:=[],fz:=[] }
theorem yJj:y58 Tryz.prog il174:=⟨by kernel_rfl,by kernel_rfl,fun e0 h=>by cases (show (none:Option LibK)=some e0 from h)⟩
def il178:Inl:={ f:=178,fn:=Tryz.f178,keep:=[],muts:=[],fz:=[] }
theorem yKI:y58 Tryz.prog il178:=⟨by kernel_rfl,by kernel_rfl,fun e0 h=>by cases (show (none:Option LibK)=some e0 from h)⟩
def il216:Inl:={ f:=216,fn:=Tryz.f216,lib:=some (.copy 228) }
theorem yIm:y58 Tryz.prog il216:=⟨by kernel_rfl,by kernel_rfl,fun e0 h=>by cases (show some (.copy 228:LibK)=some e0 from h);exact yOK⟩
abbrev yNn:Ty:=.pair t33 .unit
abbrev yRB:Ty:=.pair t9 (.pair t28 .unit)
def yRW:G:={ T:=T,E:=[zu_e,z0C_e,zN_e,z0D_e],muts:=[5],fz:=[] }
def yY4:List (List Nat):=[[1,5,22,23,24]]
def yM2(n:Nat):Ann:={ keep:=yY4,fuel:=n,inl:=[il174,il178,il216],deep:=8 }
def yJZ(n:Nat)(r2:Q2→List (Q3)→Int→Int→List Int→Option (List UInt8×Int×Unit))(dI:Q2)(aA:List (Q3))(eI:Int)(dE:Int)(bZ:List Int):Option (List UInt8×Int×Unit) :=
  (bif decide (dE < eI)then (Option.bind (idx aA dE) fun v3=>(Option.bind (idx dI.2.1 dE) fun v4=>(Option.bind (zN_M [v3.2.1,v3.2.2.1,v4.1,v4.2.1] fun (x:Int×Unit)=>yKu x.1) fun v5=>(bif decide ((12:Nat)+v3.1.length < strMax)then (bif decide (([(99:UInt8),111,110,115,116,105,116,117,101,110,116,32]++v3.1).length+(1:Nat) < strMax)then (Option.bind (yJY v5.1 [(32:UInt8)]) fun v6=>(bif decide (([(99:UInt8),111,110,115,116,105,116,117,101,110,116,32]++v3.1++[(32:UInt8)]).length+v6.1.length < strMax)then (bif decide (([(99:UInt8),111,110,115,116,105,116,117,101,110,116,32]++v3.1++[(32:UInt8)]++v6.1).length+(1:Nat) < strMax)then (bif decide (bZ.length+([(99:UInt8),111,110,115,116,105,116,117,101,110,116,32]++v3.1++[(32:UInt8)]++v6.1++[(10:UInt8)]).length≤memMax)then r2 dI aA eI (IntKind.i64.wrap (dE+1)) (bZ++y2P ([(99:UInt8),111,110,115,116,105,116,117,101,110,116,32]++v3.1++[(32:UInt8)]++v6.1++[(10:UInt8)]))else none)else none)else none))else none)else none))))else (bif decide ((0:Nat) < bZ.length)then (bif (↑bZ.length:Int)==(↑bZ.length:Int) && decide ((0:Nat) < bZ.length) && yA8 bZ then some (y3B bZ,(0:Int),())else none)else none))
def yKl(n:Nat)(k:Nat)(dI:Q2)(aA:List (Q3))(eI:Int)(dE:Int)(bZ:List Int):Option (List UInt8×Int×Unit) :=
  iter (fun r y=>yJZ n (fun dI aA eI dE bZ=>r ((dI,(aA,(eI,(dE,())))),(((),(bZ,())),()))) y.1.1 y.1.2.1 y.1.2.2.1 y.1.2.2.2.1 y.2.1.2.1) k ((dI,(aA,(eI,(dE,())))),(((),(bZ,())),()))
def yNg(n:Nat)(t:Q2):Option (List UInt8×Int×Unit) :=
  (Option.bind (zu_M t) fun v0=>(bif v0.1 != 0 then some ([],v0.1,())else (Option.bind (yKu t.2.2.1) fun v1=>(bif decide ((5:Nat)+v1.1.length < strMax)then (bif decide (([(116:UInt8),105,100,101,32]++v1.1).length+(1:Nat) < strMax)then (bif decide ((0:Nat)+([(116:UInt8),105,100,101,32]++v1.1++[(10:UInt8)]).length≤memMax)then (yKl n n (t) (t.1) ((↑t.1.length:Int)) ((0:Int)) (y2P ([(116:UInt8),105,100,101,32]++v1.1++[(10:UInt8)])))else none)else none)else none))))
theorem yRP(n:Nat)(x:yNn.den):runF yRW (yM2 n) Tryz.f97 yNn yRB x=yNg n x.1:=by kernel_rfl
def yQ9(t:Q2):Option (List UInt8×Int×Unit):=yNg 1000 t
theorem yOQ(t:Q2)(y:List UInt8×Int×Unit)(h:yQ9 t=some y):∃ n,yNg n t=some y:=⟨1000,h⟩
def z0o_e:Entry:={ f:=97,args:=yNn,ress:=yRB,m:=fun x=>yQ9 x.1 }
theorem yTM:FnOK Tryz.prog z0o_e:=yJ (g:=yRW) (fn:=Tryz.f97) yE yI (y6 yFk (y6 yS3 (y6 yZp (y6 ySC eNil)))) (by kernel_rfl) (by kernel_rfl) (by kernel_rfl) (fun x y h=>let ⟨n,hn⟩:=yOQ x.1 y h;⟨yM2 n,(y4R yJj (y4R yKI (y4R yIm iNil))),(yRP n x).trans hn⟩)
abbrev yMz:Ty:=.pair t60 (.pair t31 .unit)
abbrev yUB:Ty:=.pair t28 .unit
def yS0:G:={ T:=T,E:=[ze_e,zL_e,z0s_e],muts:=[],fz:=[] }
def yXq:List (List Nat):=[]
def yLT(n:Nat):Ann:={ keep:=yXq,fuel:=n,inl:=[],deep:=0 }
def yPa(n:Nat)(rp:Q1)(l:List (Q3)):Option (Int×Unit) :=
  (Option.bind (ze_M rp) fun v0=>(Option.bind (zL_M l) fun v1=>(Option.bind (y1h [v0.1,v1.1]) fun v2=>some (v2.1,()))))
theorem ySS(n:Nat)(x:yMz.den):runF yS0 (yLT n) Tryz.f119 yMz yUB x=yPa n x.1 x.2.1:=by kernel_rfl
def yAN(rp:Q1)(l:List (Q3)):Option (Int×Unit):=yPa 0 rp l
theorem yPF(rp:Q1)(l:List (Q3))(y:Int×Unit)(h:yAN rp l=some y):∃ n,yPa n rp l=some y:=⟨0,h⟩
def z0r_e:Entry:={ f:=119,args:=yMz,ress:=yUB,m:=fun x=>yAN x.1 x.2.1 }
theorem y7r:FnOK Tryz.prog z0r_e:=yJ (g:=yS0) (fn:=Tryz.f119) yE yI (y6 yTw (y6 yPE (y6 y3W eNil))) (by kernel_rfl) (by kernel_rfl) (by kernel_rfl) (fun x y h=>let ⟨n,hn⟩:=yPF x.1 x.2.1 y h;⟨yLT n,iNil,(ySS n x).trans hn⟩)
abbrev yMg:Ty:=.pair t60 (.pair t31 .unit)
abbrev yVw:Ty:=.pair t23 (.pair t23 (.pair t3 .unit))
def yU4:G:={ T:=T,E:=[z0K_e,zA_e,z0Y_e,zf_e,zK_e],muts:=[9],fz:=[] }
def yZ7:List (List Nat):=[[7,8,9,18,19]]
def yMD(n:Nat):Ann:={ keep:=yZ7,fuel:=n,inl:=[],deep:=0 }
def yKx(n:Nat)(r2:List (Q4)→List (List (Q4))→Int→Int→List (Q4)→Option (List (Q4)×List (Q4)×Int×Unit))(fG:List (Q4))(fH:List (List (Q4)))(eJ:Int)(e7:Int)(bR:List (Q4)):Option (List (Q4)×List (Q4)×Int×Unit) :=
  (bif decide (e7 < eJ)then (Option.bind (zf_M fH e7 fG) fun v3=>(Option.bind (zK_M v3.1) fun v4=>(bif decide (bR.length+(1:Nat)≤memMax)then r2 fG fH eJ (IntKind.i64.wrap (e7+1)) (bR++[v4.1])else none)))else (Option.bind (zK_M fH) fun v5=>some (bR,fG,v5.1.1,())))
def yJd(n:Nat)(k:Nat)(fG:List (Q4))(fH:List (List (Q4)))(eJ:Int)(e7:Int)(bR:List (Q4)):Option (List (Q4)×List (Q4)×Int×Unit) :=
  iter (fun r y=>yKx n (fun fG fH eJ e7 bR=>r ((fG,(fH,(eJ,(e7,())))),((bR,()),()))) y.1.1 y.1.2.1 y.1.2.2.1 y.1.2.2.2.1 y.2.1.1) k ((fG,(fH,(eJ,(e7,())))),((bR,()),()))
def yOO(n:Nat)(rp:Q1)(l:List (Q3)):Option (List (Q4)×List (Q4)×Int×Unit) :=
  (Option.bind (zA_M l fun (x:(Q3)×Unit)=>yNw x.1 rp) fun v0=>(Option.bind (yD6 rp l) fun v1=>(yJd n n (v0.1) (v1.1) ((↑l.length:Int)) ((0:Int)) ([]))))
theorem yVa(n:Nat)(x:yMg.den):runF yU4 (yMD n) Tryz.f120 yMg yVw x=yOO n x.1 x.2.1:=by kernel_rfl
def yJl(rp:Q1)(l:List (Q3)):Option (List (Q4)×List (Q4)×Int×Unit):=yOO 1000 rp l
theorem yQG(rp:Q1)(l:List (Q3))(y:List (Q4)×List (Q4)×Int×Unit)(h:yJl rp l=some y):∃ n,yOO n rp l=some y:=⟨1000,h⟩
def z0w_e:Entry:={ f:=120,args:=yMg,ress:=yVw,m:=fun x=>yJl x.1 x.2.1 }
theorem yLB:FnOK Tryz.prog z0w_e:=yJ (g:=yU4) (fn:=Tryz.f120) yE yI (y6 yVO (y6 yPq (y6 yB3 (y6 yWs (y6 yJt eNil))))) (by kernel_rfl) (by kernel_rfl) (by kernel_rfl) (fun x y h=>let ⟨n,hn⟩:=yQG x.1 x.2.1 y h;⟨yMD n,iNil,(yVa n x).trans hn⟩)
abbrev zy_a:Ty:=.pair t60 (.pair t31 .unit)
abbrev zy_r:Ty:=.pair t4 .unit
def zy_g:G:={ T:=T,E:=[z0Y_e,zK_e],muts:=[],fz:=[] }
def zy_k:List (List Nat):=[]
def yRj(n:Nat):Ann:={ keep:=zy_k,fuel:=n,inl:=[],deep:=0 }
def zy_m(n:Nat)(rp:Q1)(l:List (Q3)):Option (Bool×Unit) :=
  (Option.bind (yD6 rp l) fun v0=>(Option.bind (zK_M v0.1) fun v1=>some (eqV ((Ty.int IntKind.i64).pair ((Ty.int IntKind.i64).pair Ty.unit)) v1.1 ((0:Int),(0:Int),()),())))
theorem yYJ(n:Nat)(x:zy_a.den):runF zy_g (yRj n) Tryz.f146 zy_a zy_r x=zy_m n x.1 x.2.1:=by kernel_rfl
def zy_M(rp:Q1)(l:List (Q3)):Option (Bool×Unit):=zy_m 0 rp l
theorem ySh(rp:Q1)(l:List (Q3))(y:Bool×Unit)(h:zy_M rp l=some y):∃ n,zy_m n rp l=some y:=⟨0,h⟩
def zy_e:Entry:={ f:=146,args:=zy_a,ress:=zy_r,m:=fun x=>zy_M x.1 x.2.1 }
theorem ySp:FnOK Tryz.prog zy_e:=yJ (g:=zy_g) (fn:=Tryz.f146) yE yI (y6 yB3 (y6 yJt eNil)) (by kernel_rfl) (by kernel_rfl) (by kernel_rfl) (fun x y h=>let ⟨n,hn⟩:=ySh x.1 x.2.1 y h;⟨yRj n,iNil,(yYJ n x).trans hn⟩)
end
end Go.Tw
end
section
set_option maxRecDepth 1000000
namespace Go.Tw
open Go.Vx Go.Vx.B Go.Proofs
noncomputable section
def il130:Inl:={ f:=130,fn:=Tryz.f130,keep:=[[1,5,8,9,10]],muts:=[5],fz:=[] }
theorem yIb:y58 Tryz.prog il130:=⟨by kernel_rfl,by kernel_rfl,fun e0 h=>by cases (show (none:Option LibK)=some e0 from h)⟩
def il132:Inl:={ f:=132,fn:=Tryz.f132,keep:=[[1,5,8,9,10]],muts:=[5],fz:=[] }
theorem yJO:y58 Tryz.prog il132:=⟨by kernel_rfl,by kernel_rfl,fun e0 h=>by cases (show (none:Option LibK)=some e0 from h)⟩
abbrev yNC:Ty:=.pair t33 (.pair t33 .unit)
abbrev yRU:Ty:=.pair t33 (.pair t28 .unit)
def yVo:G:={ T:=T,E:=[zu_e,zn_e,z16_e,z0s_e,z7_e,z0p_e,z0q_e,zG_e,z0Z_e,z15_e,zL_e,z0J_e],muts:=[37,41],fz:=[],lv:=some [2,3,4,7] }
def yYs:List (List Nat):=[[2,3,4,7,8,43,44,45],[2,3,4,7,8,9,10,11,43,44,45,55,56]]
def yLw(n:Nat):Ann:={ keep:=yYs,fuel:=n,inl:=[il130,il132],deep:=4 }
def yCC(n:Nat)(r27:Q2→Q2→List (Q3)→Int→Int→Int→List (Q3)→List (Q4)→Option ((Q2)×Int×Unit))(r29:Q2→Q2→Int→Int→List (Q3)→Int→Int→Int→Int→Int→List (Q3)→List (Q4)→List UInt8→Int→Int→Option ((Q2)×Int×Unit))(ac:Q2)(aD:Q2)(aY:Int)(ae:Int)(ax:List (Q3))(ay:Int)(az:Int)(dp:Int)(aC:Int)(aj:Int)(ah:List (Q3))(aa:List (Q4))(af:List UInt8)(ak:Int)(al:Int):Option ((Q2)×Int×Unit) :=
  (bif decide (aC < dp)then (Option.bind (idx ac.1 aC) fun v30=>(bif eqV (Ty.str.pair ((Ty.int IntKind.i64).pair ((Ty.int IntKind.i64).pair Ty.unit))) (af,v30.2.1,v30.2.2.1,()) (af,ak,al,())then (Option.bind (idx aD.2.1 aY) fun v31=>(bif decide (aC < (↑ac.1.length:Int))then (Option.bind (idx aa aC) fun v32=>(Option.bind (aa[aC.toNat]?) fun v33=>(Option.bind (idx aa aC) fun v34=>(Option.bind (aa[aC.toNat]?) fun v35=>r27 ac aD ax ay (IntKind.i64.wrap (az+1)) aj ah (aa.set aC.toNat (z15 v33 ((z0Z v31 ac.2.2.1).1.1,(z0Z v31 ac.2.2.1).1.2.1,())).1)))))else (bif decide (ah.length+(1:Nat)≤memMax)then (bif decide (aa.length+(1:Nat)≤memMax)then r27 ac aD ax ay (IntKind.i64.wrap (az+1)) aj (ah++[(af,ak,al,())]) (aa++[((z0Z v31 ac.2.2.1).1.1,(z0Z v31 ac.2.2.1).1.2.1,())])else none)else none)))else r29 ac aD aY ae ax ay az dp (IntKind.i64.wrap (aC+1)) aj ah aa af ak al))else (Option.bind (idx aD.2.1 aY) fun v36=>(bif decide (ae < (↑ac.1.length:Int))then (Option.bind (idx aa ae) fun v37=>(Option.bind (aa[ae.toNat]?) fun v38=>(Option.bind (idx aa ae) fun v39=>(Option.bind (aa[ae.toNat]?) fun v40=>r27 ac aD ax ay (IntKind.i64.wrap (az+1)) aj ah (aa.set ae.toNat (z15 v38 ((z0Z v36 ac.2.2.1).1.1,(z0Z v36 ac.2.2.1).1.2.1,())).1)))))else (bif decide (ah.length+(1:Nat)≤memMax)then (bif decide (aa.length+(1:Nat)≤memMax)then r27 ac aD ax ay (IntKind.i64.wrap (az+1)) aj (ah++[(af,ak,al,())]) (aa++[((z0Z v36 ac.2.2.1).1.1,(z0Z v36 ac.2.2.1).1.2.1,())])else none)else none))))
def y55(n:Nat)(r27:Q2→Q2→List (Q3)→Int→Int→Int→List (Q3)→List (Q4)→Option ((Q2)×Int×Unit))(k:Nat)(ac:Q2)(aD:Q2)(aY:Int)(ae:Int)(ax:List (Q3))(ay:Int)(az:Int)(dp:Int)(aC:Int)(aj:Int)(ah:List (Q3))(aa:List (Q4))(af:List UInt8)(ak:Int)(al:Int):Option ((Q2)×Int×Unit) :=
  iter (fun r y=>yCC n r27 (fun ac aD aY ae ax ay az dp aC aj ah aa af ak al=>r ((ac,(aD,(aY,(ae,(ax,(ay,(az,(dp,(aC,()))))))))),(((aj,()),(ah,(aa,((af,(ak,(al,()))),())))),()))) y.1.1 y.1.2.1 y.1.2.2.1 y.1.2.2.2.1 y.1.2.2.2.2.1 y.1.2.2.2.2.2.1 y.1.2.2.2.2.2.2.1 y.1.2.2.2.2.2.2.2.1 y.1.2.2.2.2.2.2.2.2.1 y.2.1.1.1 y.2.1.2.1 y.2.1.2.2.1 y.2.1.2.2.2.1.1 y.2.1.2.2.2.1.2.1 y.2.1.2.2.2.1.2.2.1) k ((ac,(aD,(aY,(ae,(ax,(ay,(az,(dp,(aC,()))))))))),(((aj,()),(ah,(aa,((af,(ak,(al,()))),())))),()))
def yAc(n:Nat)(r27:Q2→Q2→List (Q3)→Int→Int→Int→List (Q3)→List (Q4)→Option ((Q2)×Int×Unit))(aE:Q2)(aZ:Q2)(aq:List (Q3))(dq:Int)(bg:Int)(aw:Int)(aH:List (Q3))(aV:List (Q4)):Option ((Q2)×Int×Unit) :=
  (bif decide (bg < dq)then (Option.bind (idx aq bg) fun v28=>(y55 n r27 n (aE) (aZ) (bg) ((↑aE.1.length:Int)) (aq) (dq) (bg) ((↑aE.1.length:Int)) ((0:Int)) (aw) (aH) (aV) (v28.1) (v28.2.1) (v28.2.2.1)))else (Option.bind (zL_M aH) fun v41=>(bif v41.1 != 0 then some (([],[],(0:Int),()),v41.1,())else (Option.bind (yAU aH aV (IntKind.i64.wrap (aE.2.2.1 * aZ.2.2.1))) fun v42=>some ((v42.1.1,v42.1.2.1,v42.1.2.2.1,()),(0:Int),())))))
def y53(n:Nat)(k:Nat)(aE:Q2)(aZ:Q2)(aq:List (Q3))(dq:Int)(bg:Int)(aw:Int)(aH:List (Q3))(aV:List (Q4)):Option ((Q2)×Int×Unit) :=
  iter (fun r y=>yAc n (fun aE aZ aq dq bg aw aH aV=>r ((aE,(aZ,(aq,(dq,(bg,()))))),(((aw,()),(aH,(aV,()))),()))) y.1.1 y.1.2.1 y.1.2.2.1 y.1.2.2.2.1 y.1.2.2.2.2.1 y.2.1.1.1 y.2.1.2.1 y.2.1.2.2.1) k ((aE,(aZ,(aq,(dq,(bg,()))))),(((aw,()),(aH,(aV,()))),()))
def yBx(n:Nat)(r25:Q2→List (Q4)→Int→Int→List (Q4)→Int→List (Q3)→Q2→Q2→Option ((Q2)×Int×Unit))(am:Q2)(aR:List (Q4))(eK:Int)(cc:Int)(bp:List (Q4))(ar:Int)(bl:List (Q3))(b6:Q2)(aF:Q2):Option ((Q2)×Int×Unit) :=
  (bif decide (cc < eK)then (Option.bind (idx aR cc) fun v26=>(bif decide (bp.length+(1:Nat)≤memMax)then r25 am aR eK (IntKind.i64.wrap (cc+1)) (bp++[(z0q (v26.1,v26.2.1,()) am).1]) ar bl b6 aF else none))else (y53 n n (b6) (aF) (aF.1) ((↑aF.1.length:Int)) ((0:Int)) (ar) (bl) (bp)))
def y5R(n:Nat)(k:Nat)(am:Q2)(aR:List (Q4))(eK:Int)(cc:Int)(bp:List (Q4))(ar:Int)(bl:List (Q3))(b6:Q2)(aF:Q2):Option ((Q2)×Int×Unit) :=
  iter (fun r y=>yBx n (fun am aR eK cc bp ar bl b6 aF=>r (((am,()),(aR,(eK,(cc,())))),((bp,((ar,()),(bl,()))),(b6,(aF,()))))) y.1.1.1 y.1.2.1 y.1.2.2.1 y.1.2.2.2.1 y.2.1.1 y.2.1.2.1.1 y.2.1.2.2.1 y.2.2.1 y.2.2.2.1) k (((am,()),(aR,(eK,(cc,())))),((bp,((ar,()),(bl,()))),(b6,(aF,()))))
def yBl(n:Nat)(r23:List (Q3)→Int→Int→List (Q3)→Int→Q2→Q2→Option ((Q2)×Int×Unit))(aS:List (Q3))(eL:Int)(cd:Int)(bm:List (Q3))(au:Int)(aG:Q2)(aT:Q2):Option ((Q2)×Int×Unit) :=
  (bif decide (cd < eL)then (Option.bind (idx aS cd) fun v24=>(bif decide (bm.length+(1:Nat)≤memMax)then r23 aS eL (IntKind.i64.wrap (cd+1)) (bm++[(z0p (v24.1,v24.2.1,v24.2.2.1,())).1]) au aG aT else none))else (y5R n n (aT) (aG.2.1) ((↑aG.2.1.length:Int)) ((0:Int)) ([]) (au) (bm) (aG) (aT)))
def y5K(n:Nat)(k:Nat)(aS:List (Q3))(eL:Int)(cd:Int)(bm:List (Q3))(au:Int)(aG:Q2)(aT:Q2):Option ((Q2)×Int×Unit) :=
  iter (fun r y=>yBl n (fun aS eL cd bm au aG aT=>r (((),(aS,(eL,(cd,())))),((bm,((au,()),())),(aG,(aT,()))))) y.1.2.1 y.1.2.2.1 y.1.2.2.2.1 y.2.1.1 y.2.1.2.1.1 y.2.2.1 y.2.2.2.1) k (((),(aS,(eL,(cd,())))),((bm,((au,()),())),(aG,(aT,()))))
def y7i(n:Nat)(a:Q2)(b:Q2):Option ((Q2)×Int×Unit) :=
  (y5K n n (a.1) ((↑a.1.length:Int)) ((0:Int)) ([]) ((0:Int)) (a) (b))
def yJq(n:Nat)(a:Q2)(b:Q2):Option ((Q2)×Int×Unit) :=
  (Option.bind (zu_M a) fun v0=>(Option.bind (zu_M b) fun v1=>(Option.bind (zn_M a) fun v2=>(bif !v2.1 then (Option.bind (y1h [v0.1,v1.1,(z16 Bool.true (4:Int)).1]) fun v3=>(bif v3.1 != 0 then some (([],[],(0:Int),()),v3.1,())else (y7i n a b)))else (Option.bind (zn_M b) fun v4=>(Option.bind (y1h [v0.1,v1.1,(z16 (!v4.1) (4:Int)).1]) fun v5=>(bif v5.1 != 0 then some (([],[],(0:Int),()),v5.1,())else (y7i n a b))))))))
theorem yTR(n:Nat)(x:yNC.den):runF yVo (yLw n) Tryz.f40 yNC yRU x=yJq n x.1 x.2.1:=by kernel_rfl
def y7j(ac:Q2)(aD:Q2)(aY:Int)(ae:Int)(ax:List (Q3))(ay:Int)(az:Int)(aj:Int)(ah:List (Q3))(aa:List (Q4))(af:List UInt8)(ak:Int)(al:Int)(aC:Int)(v30:Q3):Option ((((Q2)×Int×Unit)⊕((List (Q3))×(List (Q4))))⊕Unit) :=
  (bif eqV (Ty.str.pair ((Ty.int IntKind.i64).pair ((Ty.int IntKind.i64).pair Ty.unit))) (af,v30.2.1,v30.2.2.1,()) (af,ak,al,())then (Option.bind (idx aD.2.1 aY) fun v31=>(bif decide (aC < (↑ac.1.length:Int))then (Option.bind (idx aa aC) fun v32=>(Option.bind (aa[aC.toNat]?) fun v33=>(Option.bind (idx aa aC) fun v34=>(Option.bind (aa[aC.toNat]?) fun v35=>(some (Sum.inl (Sum.inr ((ah),(aa.set aC.toNat (z15 v33 ((z0Z v31 ac.2.2.1).1.1,(z0Z v31 ac.2.2.1).1.2.1,())).1)))))))))else (bif decide (ah.length+(1:Nat)≤memMax)then (bif decide (aa.length+(1:Nat)≤memMax)then (some (Sum.inl (Sum.inr ((ah++[(af,ak,al,())]),(aa++[((z0Z v31 ac.2.2.1).1.1,(z0Z v31 ac.2.2.1).1.2.1,())])))))else none)else none)))else (some (Sum.inr ())))
def y7l(ac:Q2)(aD:Q2)(aY:Int)(ae:Int)(ax:List (Q3))(ay:Int)(az:Int)(aj:Int)(ah:List (Q3))(aa:List (Q4))(af:List UInt8)(ak:Int)(al:Int):Option (((Q2)×Int×Unit)⊕((List (Q3))×(List (Q4)))) :=
  (Option.bind (idx aD.2.1 aY) fun v36=>(bif decide (ae < (↑ac.1.length:Int))then (Option.bind (idx aa ae) fun v37=>(Option.bind (aa[ae.toNat]?) fun v38=>(Option.bind (idx aa ae) fun v39=>(Option.bind (aa[ae.toNat]?) fun v40=>(some (Sum.inr ((ah),(aa.set ae.toNat (z15 v38 ((z0Z v36 ac.2.2.1).1.1,(z0Z v36 ac.2.2.1).1.2.1,())).1))))))))else (bif decide (ah.length+(1:Nat)≤memMax)then (bif decide (aa.length+(1:Nat)≤memMax)then (some (Sum.inr ((ah++[(af,ak,al,())]),(aa++[((z0Z v36 ac.2.2.1).1.1,(z0Z v36 ac.2.2.1).1.2.1,())]))))else none)else none)))
theorem yBK(n:Nat)(hn:big≤n)(r27:Q2→Q2→List (Q3)→Int→Int→Int→List (Q3)→List (Q4)→Option ((Q2)×Int×Unit))(ac:Q2)(aD:Q2)(aY:Int)(ae:Int)(ax:List (Q3))(ay:Int)(az:Int)(aj:Int)(ah:List (Q3))(aa:List (Q4))(af:List UInt8)(ak:Int)(al:Int)(hx:List.length (ac.1) < lenMax):LeF (elim some fun (ai:((List (Q3))×(List (Q4))))=>r27 ac aD ax ay (IntKind.i64.wrap (az+1)) aj ai.1 ai.2) (yf (fun aI ca ai=>y7j ac aD aY ae ax ay az aj ah aa af ak al aI ca) (fun ai=>y7l ac aD aY ae ax ay az aj ah aa af ak al) 0 (ac.1) ()) (y55 n r27 n ac aD aY ae ax ay az (List.length (ac.1):Int) 0 aj ah aa af ak al):=by
  refine yn (f:=(elim some fun (ai:((List (Q3))×(List (Q4))))=>r27 ac aD ax ay (IntKind.i64.wrap (az+1)) aj ai.1 ai.2)) (W:=fun d9 aI ai=>y55 n r27 d9 ac aD aY ae ax ay az (List.length (ac.1):Int) aI aj ah aa af ak al) (body:=(fun aI ca ai=>y7j ac aD aY ae ax ay az aj ah aa af ak al aI ca)) (fin:=(fun ai=>y7l ac aD aY ae ax ay az aj ah aa af ak al)) (fun d9 aI ai=>?_) hx () n (by unfold big at hn;unfold lenMax at hx;omega)
  show LeF _ _ (yCC n r27 (y55 n r27 d9) ac aD aY ae ax ay az (List.length (ac.1):Int) aI aj ah aa af ak al)
  exact y9 (yB fun v30=>(y9 (yB fun v31=>(y9 (yB fun v32=>(yB fun v33=>(yB fun v34=>(yB fun v35=>(y8 rfl))))) (y9 (y9 (y8 rfl) y1w) y1w))) (y8 rfl))) (y1F (yB fun v36=>(y9 (yB fun v37=>(yB fun v38=>(yB fun v39=>(yB fun v40=>(y8 rfl))))) (y9 (y9 (y8 rfl) y1w) y1w))))
def y5p(aE:Q2)(aZ:Q2)(aq:List (Q3))(aw:Int)(bg:Int)(v28:Q3)(aH:List (Q3))(aV:List (Q4)):Option (((Q2)×Int×Unit)⊕((List (Q3))×(List (Q4)))) :=
  (bif decide (List.length (aE.1) < lenMax)then yf (fun aI ca ai=>y7j (aE) (aZ) (bg) ((↑aE.1.length:Int)) (aq) ((↑aq.length:Int)) (bg) (aw) (aH) (aV) (v28.1) (v28.2.1) (v28.2.2.1) aI ca) (fun ai=>y7l (aE) (aZ) (bg) ((↑aE.1.length:Int)) (aq) ((↑aq.length:Int)) (bg) (aw) (aH) (aV) (v28.1) (v28.2.1) (v28.2.2.1)) 0 (aE.1) ()else none)
def y4c(aE:Q2)(aZ:Q2)(aq:List (Q3))(aw:Int)(aH:List (Q3))(aV:List (Q4)):Option ((Q2)×Int×Unit) :=
  (Option.bind (zL_M aH) fun v41=>(bif v41.1 != 0 then (some ((([],[],(0:Int),()),v41.1,())))else (Option.bind (yAU aH aV (IntKind.i64.wrap (aE.2.2.1 * aZ.2.2.1))) fun v42=>(some (((v42.1.1,v42.1.2.1,v42.1.2.2.1,()),(0:Int),()))))))
theorem yBv(n:Nat)(hn:big≤n)(aE:Q2)(aZ:Q2)(aq:List (Q3))(aw:Int)(aH:List (Q3))(aV:List (Q4))(hx:List.length (aq) < lenMax):LeF some (yf (fun aI ca ai=>y5p aE aZ aq aw aI ca ai.1 ai.2) (fun ai=>y4c aE aZ aq aw ai.1 ai.2) 0 (aq) (aH,aV)) (y53 n n aE aZ aq (List.length (aq):Int) 0 aw aH aV):=by
  refine yn (f:=some) (W:=fun d9 aI ai=>y53 n d9 aE aZ aq (List.length (aq):Int) aI aw ai.1 ai.2) (body:=(fun aI ca ai=>y5p aE aZ aq aw aI ca ai.1 ai.2)) (fin:=(fun ai=>y4c aE aZ aq aw ai.1 ai.2)) (fun d9 aI ai=>?_) hx (aH,aV) n (by unfold big at hn;unfold lenMax at hx;omega)
  show LeF _ _ (yAc n (y53 n d9) aE aZ aq (List.length (aq):Int) aI aw ai.1 ai.2)
  exact y9 (yB fun v28=>(yr fun hx=>by apply yBK n hn;exact hx)) (y1F (yB fun v41=>(y9 (y8 rfl) (yB fun v42=>(y8 rfl)))))
def yAF(am:Q2)(aR:List (Q4))(ar:Int)(bl:List (Q3))(b6:Q2)(aF:Q2)(cc:Int)(v26:Q4)(bp:List (Q4)):Option (((Q2)×Int×Unit)⊕(List (Q4))) :=
  (bif decide (bp.length+(1:Nat)≤memMax)then (some (Sum.inr (bp++[(z0q (v26.1,v26.2.1,()) am).1])))else none)
def y9Y(am:Q2)(aR:List (Q4))(ar:Int)(bl:List (Q3))(b6:Q2)(aF:Q2)(bp:List (Q4)):Option ((Q2)×Int×Unit) :=
  (bif decide (List.length (aF.1) < lenMax)then yf (fun aI ca ai=>y5p (b6) (aF) (aF.1) (ar) aI ca ai.1 ai.2) (fun ai=>y4c (b6) (aF) (aF.1) (ar) ai.1 ai.2) 0 (aF.1) ((bl),(bp))else none)
theorem yAu(n:Nat)(hn:big≤n)(am:Q2)(aR:List (Q4))(ar:Int)(bl:List (Q3))(b6:Q2)(aF:Q2)(bp:List (Q4))(hx:List.length (aR) < lenMax):LeF some (yf (fun aI ca ai=>yAF am aR ar bl b6 aF aI ca ai) (fun ai=>y9Y am aR ar bl b6 aF ai) 0 (aR) bp) (y5R n n am aR (List.length (aR):Int) 0 bp ar bl b6 aF):=by
  refine yn (f:=some) (W:=fun d9 aI ai=>y5R n d9 am aR (List.length (aR):Int) aI ai ar bl b6 aF) (body:=(fun aI ca ai=>yAF am aR ar bl b6 aF aI ca ai)) (fin:=(fun ai=>y9Y am aR ar bl b6 aF ai)) (fun d9 aI ai=>?_) hx bp n (by unfold big at hn;unfold lenMax at hx;omega)
  show LeF _ _ (yBx n (y5R n d9) am aR (List.length (aR):Int) aI ai ar bl b6 aF)
  exact y9 (yB fun v26=>(y9 (y8 rfl) y1w)) (y1F (yr fun hx=>by apply yBv n hn;exact hx))
def yA7(aS:List (Q3))(au:Int)(aG:Q2)(aT:Q2)(cd:Int)(v24:Q3)(bm:List (Q3)):Option (((Q2)×Int×Unit)⊕(List (Q3))) :=
  (bif decide (bm.length+(1:Nat)≤memMax)then (some (Sum.inr (bm++[(z0p (v24.1,v24.2.1,v24.2.2.1,())).1])))else none)
def y9W(aS:List (Q3))(au:Int)(aG:Q2)(aT:Q2)(bm:List (Q3)):Option ((Q2)×Int×Unit) :=
  (bif decide (List.length (aG.2.1) < lenMax)then yf (fun aI ca ai=>yAF (aT) (aG.2.1) (au) (bm) (aG) (aT) aI ca ai) (fun ai=>y9Y (aT) (aG.2.1) (au) (bm) (aG) (aT) ai) 0 (aG.2.1) ([])else none)
theorem yAa(n:Nat)(hn:big≤n)(aS:List (Q3))(au:Int)(aG:Q2)(aT:Q2)(bm:List (Q3))(hx:List.length (aS) < lenMax):LeF some (yf (fun aI ca ai=>yA7 aS au aG aT aI ca ai) (fun ai=>y9W aS au aG aT ai) 0 (aS) bm) (y5K n n aS (List.length (aS):Int) 0 bm au aG aT):=by
  refine yn (f:=some) (W:=fun d9 aI ai=>y5K n d9 aS (List.length (aS):Int) aI ai au aG aT) (body:=(fun aI ca ai=>yA7 aS au aG aT aI ca ai)) (fin:=(fun ai=>y9W aS au aG aT ai)) (fun d9 aI ai=>?_) hx bm n (by unfold big at hn;unfold lenMax at hx;omega)
  show LeF _ _ (yBl n (y5K n d9) aS (List.length (aS):Int) aI ai au aG aT)
  exact y9 (yB fun v24=>(y9 (y8 rfl) y1w)) (y1F (yr fun hx=>by apply yAu n hn;exact hx))
def y5e(a:Q2)(b:Q2):Option ((Q2)×Int×Unit) :=
  (bif decide (List.length (a.1) < lenMax)then yf (fun aI ca ai=>yA7 (a.1) ((0:Int)) (a) (b) aI ca ai) (fun ai=>y9W (a.1) ((0:Int)) (a) (b) ai) 0 (a.1) ([])else none)
theorem y3h(n:Nat)(hn:big≤n)(a:Q2)(b:Q2):LeF some (y5e a b) (y7i n a b) :=
  (yr fun hx=>by apply yAa n hn;exact hx)
def yFq(a:Q2)(b:Q2):Option ((Q2)×Int×Unit) :=
  (Option.bind (zu_M a) fun v0=>(Option.bind (zu_M b) fun v1=>(Option.bind (zn_M a) fun v2=>(bif !v2.1 then (Option.bind (y1h [v0.1,v1.1,(z16 Bool.true (4:Int)).1]) fun v3=>(bif v3.1 != 0 then (some ((([],[],(0:Int),()),v3.1,())))else (y5e a b)))else (Option.bind (zn_M b) fun v4=>(Option.bind (y1h [v0.1,v1.1,(z16 (!v4.1) (4:Int)).1]) fun v5=>(bif v5.1 != 0 then (some ((([],[],(0:Int),()),v5.1,())))else (y5e a b))))))))
theorem yOG(a:Q2)(b:Q2)(y:(Q2)×Int×Unit)(h:yFq a b=some y):∃ n,yJq n a b=some y :=
  ⟨big,LeF.top (show LeF some (yFq a b) (yJq big a b)from (fun (n:Nat) (hn:big≤n)=>show LeF some (yFq a b) (yJq n a b)from (yB fun v0=>(yB fun v1=>(yB fun v2=>(y9 (yB fun v3=>(y9 (y8 rfl) (by apply y3h n hn))) (yB fun v4=>(yB fun v5=>(y9 (y8 rfl) (by apply y3h n hn))))))))) big (Nat.le_refl _)) h⟩
def z18_e:Entry:={ f:=40,args:=yNC,ress:=yRU,m:=fun x=>yFq x.1 x.2.1 }
theorem yWm:FnOK Tryz.prog z18_e:=yJ (g:=yVo) (fn:=Tryz.f40) yE yI (y6 yFk (y6 yOu (y6 y4V (y6 y3W (y6 yWV (y6 yUx (y6 yX4 (y6 yPd (y6 y8y (y6 yBi (y6 yPE (y6 yG8 eNil)))))))))))) (by kernel_rfl) (by kernel_rfl) (by kernel_rfl) (fun x y h=>let ⟨n,hn⟩:=yOG x.1 x.2.1 y h;⟨yLw n,(y4R yIb (y4R yJO iNil)),(yTR n x).trans hn⟩)
end
end Go.Tw
end
section
set_option maxRecDepth 1000000
namespace Go.Tw
open Go.Vx Go.Vx.B Go.Proofs
noncomputable section
abbrev yQh:Ty:=.pair t33 (.pair t3 (.pair t3 .unit))
abbrev yX2:Ty:=.pair t35 (.pair t28 .unit)
def yVk:G:={ T:=T,E:=[z0F_e,z0I_e,z06_e],muts:=[10],fz:=[] }
def yYi:List (List Nat):=[[3,10,24,25,26]]
def yM6(n:Nat):Ann:={ keep:=yYi,fuel:=n,inl:=[],deep:=0 }
def yE1(n:Nat)(r1:Q2→List (Q4)→Int→Int→List Nat→Option (List Nat×Int×Unit))(ce:Q2)(aU:List (Q4))(eM:Int)(dF:Int)(cl:List Nat):Option (List Nat×Int×Unit) :=
  (bif decide (dF < eM)then (Option.bind (idx aU dF) fun v2=>(Option.bind (yEt v2.1 ce.2.2.1) fun v3=>(bif decide ((z06 v3.1).1 > 1024)then some ([],(16:Int),())else (bif decide (cl.length+(1:Nat)≤memMax)then r1 ce aU eM (IntKind.i64.wrap (dF+1)) (cl++[y0u Go.BinOp.quo Go.FloatKind.f32 (y0x Go.FloatKind.f32 v3.1) (nat_lit 1098907648)])else none))))else some (cl,(0:Int),()))
def y6Y(n:Nat)(k:Nat)(ce:Q2)(aU:List (Q4))(eM:Int)(dF:Int)(cl:List Nat):Option (List Nat×Int×Unit) :=
  iter (fun r y=>yE1 n (fun ce aU eM dF cl=>r ((ce,(aU,(eM,(dF,())))),((cl,()),()))) y.1.1 y.1.2.1 y.1.2.2.1 y.1.2.2.2.1 y.2.1.1) k ((ce,(aU,(eM,(dF,())))),((cl,()),()))
def yKb(n:Nat)(t:Q2)(p1:Int)(np:Int):Option (List Nat×Int×Unit) :=
  (Option.bind (y6Q t p1 np) fun v0=>(bif v0.2.1 != 0 then some ([],v0.2.1,())else (y6Y n n (t) (v0.1) ((↑v0.1.length:Int)) ((0:Int)) ([]))))
theorem yTt(n:Nat)(x:yQh.den):runF yVk (yM6 n) Tryz.f22 yQh yX2 x=yKb n x.1 x.2.1 x.2.2.1:=by kernel_rfl
def yAT(ce:Q2)(aU:List (Q4))(dF:Int)(v2:Q4)(cl:List Nat):Option ((List Nat×Int×Unit)⊕(List Nat)) :=
  (Option.bind (yEt v2.1 ce.2.2.1) fun v3=>(bif decide ((z06 v3.1).1 > 1024)then (some (Sum.inl (([],(16:Int),()))))else (bif decide (cl.length+(1:Nat)≤memMax)then (some (Sum.inr (cl++[y0u Go.BinOp.quo Go.FloatKind.f32 (y0x Go.FloatKind.f32 v3.1) (nat_lit 1098907648)])))else none)))
def yDr(ce:Q2)(aU:List (Q4))(cl:List Nat):Option (List Nat×Int×Unit) :=
  (some ((cl,(0:Int),())))
theorem yDF(n:Nat)(hn:big≤n)(ce:Q2)(aU:List (Q4))(cl:List Nat)(hx:List.length (aU) < lenMax):LeF some (yf (fun aI ca ai=>yAT ce aU aI ca ai) (fun ai=>yDr ce aU ai) 0 (aU) cl) (y6Y n n ce aU (List.length (aU):Int) 0 cl):=by
  refine yn (f:=some) (W:=fun d9 aI ai=>y6Y n d9 ce aU (List.length (aU):Int) aI ai) (body:=(fun aI ca ai=>yAT ce aU aI ca ai)) (fin:=(fun ai=>yDr ce aU ai)) (fun d9 aI ai=>?_) hx cl n (by unfold big at hn;unfold lenMax at hx;omega)
  show LeF _ _ (yE1 n (y6Y n d9) ce aU (List.length (aU):Int) aI ai)
  exact y9 (yB fun v2=>(yB fun v3=>(y9 (y8 rfl) (y9 (y8 rfl) y1w)))) (y1F (y8 rfl))
def yBS(t:Q2)(p1:Int)(np:Int):Option (List Nat×Int×Unit) :=
  (Option.bind (y6Q t p1 np) fun v0=>(bif v0.2.1 != 0 then (some (([],v0.2.1,())))else (bif decide (List.length (v0.1) < lenMax)then yf (fun aI ca ai=>yAT (t) (v0.1) aI ca ai) (fun ai=>yDr (t) (v0.1) ai) 0 (v0.1) ([])else none)))
theorem yNP(t:Q2)(p1:Int)(np:Int)(y:List Nat×Int×Unit)(h:yBS t p1 np=some y):∃ n,yKb n t p1 np=some y :=
  ⟨big,LeF.top (show LeF some (yBS t p1 np) (yKb big t p1 np)from (fun (n:Nat) (hn:big≤n)=>show LeF some (yBS t p1 np) (yKb n t p1 np)from (yB fun v0=>(y9 (y8 rfl) (yr fun hx=>by apply yDF n hn;exact hx)))) big (Nat.le_refl _)) h⟩
def z0T_e:Entry:={ f:=22,args:=yQh,ress:=yX2,m:=fun x=>yBS x.1 x.2.1 x.2.2.1 }
theorem yLm:FnOK Tryz.prog z0T_e:=yJ (g:=yVk) (fn:=Tryz.f22) yE yI (y6 yHv (y6 yXG (y6 yAp eNil))) (by kernel_rfl) (by kernel_rfl) (by kernel_rfl) (fun x y h=>let ⟨n,hn⟩:=yNP x.1 x.2.1 x.2.2.1 y h;⟨yM6 n,iNil,(yTt n x).trans hn⟩)
abbrev yPn:Ty:=.pair t60 (.pair t31 .unit)
abbrev yWH:Ty:=.pair t33 (.pair t28 .unit)
def yWe:G:={ T:=T,E:=[z0r_e,z0w_e,z0J_e],muts:=[],fz:=[] }
def yY6:List (List Nat):=[]
def yLj(n:Nat):Ann:={ keep:=yY6,fuel:=n,inl:=[],deep:=0 }
def yNd(n:Nat)(rp:Q1)(l:List (Q3)):Option ((Q2)×Int×Unit) :=
  (Option.bind (yAN rp l) fun v0=>(bif v0.1 != 0 then some (([],[],(0:Int),()),v0.1,())else (Option.bind (yJl rp l) fun v1=>(bif v1.2.2.1==0 then some (([],[],(0:Int),()),(25:Int),())else (Option.bind (yAU l v1.1 v1.2.2.1) fun v2=>some ((v2.1.1,v2.1.2.1,v2.1.2.2.1,()),(0:Int),()))))))
theorem yRH(n:Nat)(x:yPn.den):runF yWe (yLj n) Tryz.f34 yPn yWH x=yNd n x.1 x.2.1:=by kernel_rfl
def yIq(rp:Q1)(l:List (Q3)):Option ((Q2)×Int×Unit):=yNd 0 rp l
theorem yNE(rp:Q1)(l:List (Q3))(y:(Q2)×Int×Unit)(h:yIq rp l=some y):∃ n,yNd n rp l=some y:=⟨0,h⟩
def z0E_e:Entry:={ f:=34,args:=yPn,ress:=yWH,m:=fun x=>yIq x.1 x.2.1 }
theorem yRL:FnOK Tryz.prog z0E_e:=yJ (g:=yWe) (fn:=Tryz.f34) yE yI (y6 y7r (y6 yLB (y6 yG8 eNil))) (by kernel_rfl) (by kernel_rfl) (by kernel_rfl) (fun x y h=>let ⟨n,hn⟩:=yNE x.1 x.2.1 y h;⟨yLj n,iNil,(yRH n x).trans hn⟩)
abbrev zd_a:Ty:=.pair t60 (.pair t31 .unit)
abbrev zd_r:Ty:=.pair t3 (.pair t28 .unit)
def zd_g:G:={ T:=T,E:=[z0r_e,z0Y_e,zK_e],muts:=[],fz:=[] }
def zd_k:List (List Nat):=[]
def yVS(n:Nat):Ann:={ keep:=zd_k,fuel:=n,inl:=[],deep:=0 }
def zd_m(n:Nat)(rp:Q1)(l:List (Q3)):Option (Q4) :=
  (Option.bind (yAN rp l) fun v0=>(bif v0.1 != 0 then some ((0:Int),v0.1,())else (Option.bind (yD6 rp l) fun v1=>(Option.bind (zK_M v1.1) fun v2=>some (v2.1.1,(0:Int),())))))
theorem yZb(n:Nat)(x:zd_a.den):runF zd_g (yVS n) Tryz.f35 zd_a zd_r x=zd_m n x.1 x.2.1:=by kernel_rfl
def zd_M(rp:Q1)(l:List (Q3)):Option (Q4):=zd_m 0 rp l
theorem yTe(rp:Q1)(l:List (Q3))(y:Q4)(h:zd_M rp l=some y):∃ n,zd_m n rp l=some y:=⟨0,h⟩
def zd_e:Entry:={ f:=35,args:=zd_a,ress:=zd_r,m:=fun x=>zd_M x.1 x.2.1 }
theorem yXl:FnOK Tryz.prog zd_e:=yJ (g:=zd_g) (fn:=Tryz.f35) yE yI (y6 y7r (y6 yB3 (y6 yJt eNil))) (by kernel_rfl) (by kernel_rfl) (by kernel_rfl) (fun x y h=>let ⟨n,hn⟩:=yTe x.1 x.2.1 y h;⟨yVS n,iNil,(yZb n x).trans hn⟩)
abbrev yPg:Ty:=.pair t60 (.pair t31 .unit)
abbrev yXJ:Ty:=.pair t69 (.pair t28 .unit)
def yUk:G:={ T:=T,E:=[z0r_e,z0w_e,zx_e,z0y_e,z0v_e],muts:=[],fz:=[] }
def yY8:List (List Nat):=[[4,8,9,10,43,44,45]]
def yLW(n:Nat):Ann:={ keep:=yY8,fuel:=n,inl:=[il124,il195],deep:=3 }
def yBH(n:Nat)(r2:Q1→List (Q4)→List Nat→Int→Int→Q1→List (Q3)→Q1→Int→Int→List (Q4)→List (Q4)→Q1→List (Q3)→Int→Int→Bool→Q1→List (Q3)→List (Q4)→List (Q4)→Int→Int→Bool→Q1→Q1→Int→Int→Int→Int→Q1→List (Q3)→Q1→Int→Int→List (Q4)→List (Q4)→Q1→List (Q3)→Int→Int→Bool→Q1→List (Q3)→List (Q4)→List (Q4)→Int→Int→Bool→Q1→Q1→Option ((Q4)×Int×Unit))(j10:Q1)(j11:List (Q4))(j12:Int)(j13:Nat)(j14:List Nat)(j15:Int)(j16:Int)(j17:Q1)(j18:List (Q3))(j19:Q1)(j20:Int)(j21:Int)(j22:List (Q4))(j23:List (Q4))(j24:Q1)(j25:List (Q3))(j26:Int)(j27:Int)(j28:Bool)(j29:Q1)(j30:List (Q3))(j31:List (Q4))(j32:List (Q4))(j33:Int)(j34:Int)(j35:Bool)(j36:Q1)(j37:Q1)(j38:Int)(j39:Int)(j40:Int)(j41:Int)(j42:Q1)(j43:List (Q3))(j44:Q1)(j45:Int)(j46:Int)(j47:List (Q4))(j48:List (Q4))(j49:Q1)(j50:List (Q3))(j51:Int)(j52:Int)(j53:Bool)(j54:Q1)(j55:List (Q3))(j56:List (Q4))(j57:List (Q4))(j58:Int)(j59:Int)(j60:Bool)(j61:Q1)(j62:Q1):Option ((Q4)×Int×Unit) :=
  (bif decide ((↑j11.length:Int) > 0)then (Option.bind (idx j11 (0:Int)) fun v63=>(bif decide (v63.1≤j12)then r2 j10 j11 j14 j15 (IntKind.i64.wrap (j16+1)) j17 j18 j19 j20 j21 j22 j23 j24 j25 j26 j27 j28 j29 j30 j31 j32 j33 j34 j35 j36 j37 j38 j39 j40 j41 j42 j43 j44 j45 j46 j47 j48 j49 j50 j51 j52 j53 j54 j55 j56 j57 j58 j59 j60 j61 j62 else (Option.bind (y0M Go.FloatKind.f32 (y0u Go.BinOp.mul Go.FloatKind.f32 j13 (nat_lit 1098907648)) IntKind.i64) fun v68=>r2 j10 j11 j14 j15 (IntKind.i64.wrap (j16+1)) j17 j18 j19 j20 j21 j22 j23 j24 j25 j26 j27 j28 j29 j30 j31 j32 j33 j34 j35 j36 j37 j38 j39 j40 (IntKind.i64.wrap (j41+IntKind.i64.wrap (IntKind.i64.wrap (j40 * v68) * v68))) j42 j43 j44 j45 j46 j47 j48 j49 j50 j51 j52 j53 j54 j55 j56 j57 j58 j59 j60 j61 j62)))else (Option.bind (y0M Go.FloatKind.f32 (y0u Go.BinOp.mul Go.FloatKind.f32 j13 (nat_lit 1098907648)) IntKind.i64) fun v69=>r2 j10 j11 j14 j15 (IntKind.i64.wrap (j16+1)) j17 j18 j19 j20 j21 j22 j23 j24 j25 j26 j27 j28 j29 j30 j31 j32 j33 j34 j35 j36 j37 j38 j39 j40 (IntKind.i64.wrap (j41+IntKind.i64.wrap (IntKind.i64.wrap (j40 * v69) * v69))) j42 j43 j44 j45 j46 j47 j48 j49 j50 j51 j52 j53 j54 j55 j56 j57 j58 j59 j60 j61 j62))
def yIk(n:Nat)(r2:Q1→List (Q4)→List Nat→Int→Int→Q1→List (Q3)→Q1→Int→Int→List (Q4)→List (Q4)→Q1→List (Q3)→Int→Int→Bool→Q1→List (Q3)→List (Q4)→List (Q4)→Int→Int→Bool→Q1→Q1→Int→Int→Int→Int→Q1→List (Q3)→Q1→Int→Int→List (Q4)→List (Q4)→Q1→List (Q3)→Int→Int→Bool→Q1→List (Q3)→List (Q4)→List (Q4)→Int→Int→Bool→Q1→Q1→Option ((Q4)×Int×Unit))(r4:Q1→List (Q4)→Int→Nat→List Nat→Int→Int→Q1→List (Q3)→Q1→Int→Int→List (Q4)→List (Q4)→Q1→List (Q3)→Int→Int→Bool→Q1→List (Q3)→List (Q4)→List (Q4)→Int→Int→Bool→Q1→Q1→Int→Int→Int→Int→Q1→List (Q3)→Q1→Int→Int→List (Q4)→List (Q4)→Q1→List (Q3)→Int→Int→Bool→Q1→List (Q3)→List (Q4)→List (Q4)→Int→Int→Bool→Q1→Q1→Option ((Q4)×Int×Unit))(dc:Q1)(aB:List (Q4))(eY:Int)(fI:Nat)(cG:List Nat)(bq:Int)(bn:Int)(b8:Q1)(b9:List (Q3))(ba:Q1)(bc:Int)(bd:Int)(cC:List (Q4))(cD:List (Q4))(aJ:Q1)(aK:List (Q3))(aL:Int)(aM:Int)(aN:Bool)(aO:Q1)(bS:List (Q3))(aP:List (Q4))(bT:List (Q4))(bU:Int)(bV:Int)(bW:Bool)(bX:Q1)(bh:Q1)(be:Int)(bf:Int)(aX:Int)(cE:Int)(df:Q1)(dg:List (Q3))(dl:Q1)(dm:Int)(dn:Int)(fJ:List (Q4))(fK:List (Q4))(bu:Q1)(bv:List (Q3))(bw:Int)(bx:Int)(bz:Bool)(bA:Q1)(e8:List (Q3))(bB:List (Q4))(eb:List (Q4))(ed:Int)(eg:Int)(ek:Bool)(ep:Q1)(bY:Q1):Option ((Q4)×Int×Unit) :=
  (bif decide ((↑aB.length:Int) > 0)then (Option.bind (idx aB (0:Int)) fun v5=>(bif decide (v5.2.1≤eY)then (bif decide ((0:Int)≤1) && decide ((1:Int)≤(↑aB.length:Int))then r4 dc (List.drop (Int.toNat (1:Int)) aB) eY fI cG bq bn b8 b9 ba bc bd cC cD aJ aK aL aM aN aO bS aP bT bU bV bW bX bh be bf aX cE df dg dl dm dn fJ fK bu bv bw bx bz bA e8 bB eb ed eg ek ep bY else none)else (yBH n r2 (dc) (aB) (eY) (fI) (cG) (bq) (bn) (b8) (b9) (ba) (bc) (bd) (cC) (cD) (aJ) (aK) (aL) (aM) (aN) (aO) (bS) (aP) (bT) (bU) (bV) (bW) (bX) (bh) (be) (bf) (aX) (cE) (df) (dg) (dl) (dm) (dn) (fJ) (fK) (bu) (bv) (bw) (bx) (bz) (bA) (e8) (bB) (eb) (ed) (eg) (ek) (ep) (bY))))else (yBH n r2 (dc) (aB) (eY) (fI) (cG) (bq) (bn) (b8) (b9) (ba) (bc) (bd) (cC) (cD) (aJ) (aK) (aL) (aM) (aN) (aO) (bS) (aP) (bT) (bU) (bV) (bW) (bX) (bh) (be) (bf) (aX) (cE) (df) (dg) (dl) (dm) (dn) (fJ) (fK) (bu) (bv) (bw) (bx) (bz) (bA) (e8) (bB) (eb) (ed) (eg) (ek) (ep) (bY)))
def yKd(n:Nat)(r2:Q1→List (Q4)→List Nat→Int→Int→Q1→List (Q3)→Q1→Int→Int→List (Q4)→List (Q4)→Q1→List (Q3)→Int→Int→Bool→Q1→List (Q3)→List (Q4)→List (Q4)→Int→Int→Bool→Q1→Q1→Int→Int→Int→Int→Q1→List (Q3)→Q1→Int→Int→List (Q4)→List (Q4)→Q1→List (Q3)→Int→Int→Bool→Q1→List (Q3)→List (Q4)→List (Q4)→Int→Int→Bool→Q1→Q1→Option ((Q4)×Int×Unit))(k:Nat)(dc:Q1)(aB:List (Q4))(eY:Int)(fI:Nat)(cG:List Nat)(bq:Int)(bn:Int)(b8:Q1)(b9:List (Q3))(ba:Q1)(bc:Int)(bd:Int)(cC:List (Q4))(cD:List (Q4))(aJ:Q1)(aK:List (Q3))(aL:Int)(aM:Int)(aN:Bool)(aO:Q1)(bS:List (Q3))(aP:List (Q4))(bT:List (Q4))(bU:Int)(bV:Int)(bW:Bool)(bX:Q1)(bh:Q1)(be:Int)(bf:Int)(aX:Int)(cE:Int)(df:Q1)(dg:List (Q3))(dl:Q1)(dm:Int)(dn:Int)(fJ:List (Q4))(fK:List (Q4))(bu:Q1)(bv:List (Q3))(bw:Int)(bx:Int)(bz:Bool)(bA:Q1)(e8:List (Q3))(bB:List (Q4))(eb:List (Q4))(ed:Int)(eg:Int)(ek:Bool)(ep:Q1)(bY:Q1):Option ((Q4)×Int×Unit) :=
  iter (fun r y=>yIk n r2 (fun dc aB eY fI cG bq bn b8 b9 ba bc bd cC cD aJ aK aL aM aN aO bS aP bT bU bV bW bX bh be bf aX cE df dg dl dm dn fJ fK bu bv bw bx bz bA e8 bB eb ed eg ek ep bY=>r ((dc,(aB,(eY,(fI,(cG,(bq,(bn,()))))))),(((b8,(b9,(ba,(bc,(bd,(cC,(cD,(aJ,(aK,(aL,(aM,(aN,(aO,(bS,(aP,(bT,(bU,(bV,(bW,(bX,((bh,()),()))))))))))))))))))))),((be,(bf,())),((aX,()),((cE,()),())))),(df,(dg,(dl,(dm,(dn,(fJ,(fK,(bu,(bv,(bw,(bx,(bz,(bA,(e8,(bB,(eb,(ed,(eg,(ek,(ep,((bY,()),())))))))))))))))))))))))) y.1.1 y.1.2.1 y.1.2.2.1 y.1.2.2.2.1 y.1.2.2.2.2.1 y.1.2.2.2.2.2.1 y.1.2.2.2.2.2.2.1 y.2.1.1.1 y.2.1.1.2.1 y.2.1.1.2.2.1 y.2.1.1.2.2.2.1 y.2.1.1.2.2.2.2.1 y.2.1.1.2.2.2.2.2.1 y.2.1.1.2.2.2.2.2.2.1 y.2.1.1.2.2.2.2.2.2.2.1 y.2.1.1.2.2.2.2.2.2.2.2.1 y.2.1.1.2.2.2.2.2.2.2.2.2.1 y.2.1.1.2.2.2.2.2.2.2.2.2.2.1 y.2.1.1.2.2.2.2.2.2.2.2.2.2.2.1 y.2.1.1.2.2.2.2.2.2.2.2.2.2.2.2.1 y.2.1.1.2.2.2.2.2.2.2.2.2.2.2.2.2.1 y.2.1.1.2.2.2.2.2.2.2.2.2.2.2.2.2.2.1 y.2.1.1.2.2.2.2.2.2.2.2.2.2.2.2.2.2.2.1 y.2.1.1.2.2.2.2.2.2.2.2.2.2.2.2.2.2.2.2.1 y.2.1.1.2.2.2.2.2.2.2.2.2.2.2.2.2.2.2.2.2.1 y.2.1.1.2.2.2.2.2.2.2.2.2.2.2.2.2.2.2.2.2.2.1 y.2.1.1.2.2.2.2.2.2.2.2.2.2.2.2.2.2.2.2.2.2.2.1 y.2.1.1.2.2.2.2.2.2.2.2.2.2.2.2.2.2.2.2.2.2.2.2.1.1 y.2.1.2.1.1 y.2.1.2.1.2.1 y.2.1.2.2.1.1 y.2.1.2.2.2.1.1 y.2.2.1 y.2.2.2.1 y.2.2.2.2.1 y.2.2.2.2.2.1 y.2.2.2.2.2.2.1 y.2.2.2.2.2.2.2.1 y.2.2.2.2.2.2.2.2.1 y.2.2.2.2.2.2.2.2.2.1 y.2.2.2.2.2.2.2.2.2.2.1 y.2.2.2.2.2.2.2.2.2.2.2.1 y.2.2.2.2.2.2.2.2.2.2.2.2.1 y.2.2.2.2.2.2.2.2.2.2.2.2.2.1 y.2.2.2.2.2.2.2.2.2.2.2.2.2.2.1 y.2.2.2.2.2.2.2.2.2.2.2.2.2.2.2.1 y.2.2.2.2.2.2.2.2.2.2.2.2.2.2.2.2.1 y.2.2.2.2.2.2.2.2.2.2.2.2.2.2.2.2.2.1 y.2.2.2.2.2.2.2.2.2.2.2.2.2.2.2.2.2.2.1 y.2.2.2.2.2.2.2.2.2.2.2.2.2.2.2.2.2.2.2.1 y.2.2.2.2.2.2.2.2.2.2.2.2.2.2.2.2.2.2.2.2.1 y.2.2.2.2.2.2.2.2.2.2.2.2.2.2.2.2.2.2.2.2.2.1 y.2.2.2.2.2.2.2.2.2.2.2.2.2.2.2.2.2.2.2.2.2.2.1.1) k ((dc,(aB,(eY,(fI,(cG,(bq,(bn,()))))))),(((b8,(b9,(ba,(bc,(bd,(cC,(cD,(aJ,(aK,(aL,(aM,(aN,(aO,(bS,(aP,(bT,(bU,(bV,(bW,(bX,((bh,()),()))))))))))))))))))))),((be,(bf,())),((aX,()),((cE,()),())))),(df,(dg,(dl,(dm,(dn,(fJ,(fK,(bu,(bv,(bw,(bx,(bz,(bA,(e8,(bB,(eb,(ed,(eg,(ek,(ep,((bY,()),())))))))))))))))))))))))
def yGs(n:Nat)(r74:List (Q4)→List (Q4)→Int→Int→Int→Int→Int→Int→Option ((Q4)×Int×Unit))(eN:List (Q4))(dt:List (Q4))(dw:Int)(cf:Int)(cO:Int)(cP:Int)(ci:Int)(cj:Int):Option ((Q4)×Int×Unit) :=
  (bif decide (cf < dw)then (Option.bind (idx dt cf) fun v75=>(Option.bind (idx eN cf) fun v76=>r74 eN dt dw (IntKind.i64.wrap (cf+1)) cO cP ci (IntKind.i64.wrap (cj - (z0y (zx v76).1 (v75.1,v75.2.1,())).1.1))))else (Option.bind (yFY cj ci) fun v77=>some ((v77.1.1,v77.1.2.1,()),(0:Int),())))
def yGS(n:Nat)(k:Nat)(eN:List (Q4))(dt:List (Q4))(dw:Int)(cf:Int)(cO:Int)(cP:Int)(ci:Int)(cj:Int):Option ((Q4)×Int×Unit) :=
  iter (fun r y=>yGs n (fun eN dt dw cf cO cP ci cj=>r ((eN,(dt,(dw,(cf,())))),(((cO,(cP,())),((ci,()),((cj,()),()))),()))) y.1.1 y.1.2.1 y.1.2.2.1 y.1.2.2.2.1 y.2.1.1.1 y.2.1.1.2.1 y.2.1.2.1.1 y.2.1.2.2.1.1) k ((eN,(dt,(dw,(cf,())))),(((cO,(cP,())),((ci,()),((cj,()),()))),()))
def yKB(n:Nat)(r2:Q1→List (Q4)→List Nat→Int→Int→Q1→List (Q3)→Q1→Int→Int→List (Q4)→List (Q4)→Q1→List (Q3)→Int→Int→Bool→Q1→List (Q3)→List (Q4)→List (Q4)→Int→Int→Bool→Q1→Q1→Int→Int→Int→Int→Q1→List (Q3)→Q1→Int→Int→List (Q4)→List (Q4)→Q1→List (Q3)→Int→Int→Bool→Q1→List (Q3)→List (Q4)→List (Q4)→Int→Int→Bool→Q1→Q1→Option ((Q4)×Int×Unit))(dI:Q1)(cQ:List (Q4))(fM:List Nat)(eO:Int)(dG:Int)(eu:Q1)(ev:List (Q3))(ew:Q1)(ey:Int)(ez:Int)(eA:List (Q4))(eB:List (Q4))(cR:Q1)(cS:List (Q3))(cT:Int)(cU:Int)(cV:Bool)(cW:Q1)(cX:List (Q3))(cY:List (Q4))(cZ:List (Q4))(d4:Int)(d5:Int)(d6:Bool)(d7:Q1)(bC:Q1)(dx:Int)(dy:Int)(dz:Int)(dA:Int)(fO:Q1)(fP:List (Q3))(fQ:Q1)(fR:Int)(fS:Int)(fL:List (Q4))(fN:List (Q4))(eZ:Q1)(f0:List (Q3))(f7:Int)(f9:Int)(fc:Bool)(fe:Q1)(ff:List (Q3))(fg:List (Q4))(fh:List (Q4))(fk:Int)(fm:Int)(fo:Bool)(fp:Q1)(d8:Q1):Option ((Q4)×Int×Unit) :=
  (bif decide (dG < eO)then (Option.bind (idx fM dG) fun v3=>(yKd n r2 n (dI) (cQ) (dG) (v3) (fM) (eO) (dG) (eu) (ev) (ew) (ey) (ez) (eA) (eB) (cR) (cS) (cT) (cU) (cV) (cW) (cX) (cY) (cZ) (d4) (d5) (d6) (d7) (bC) (dx) (dy) (dz) (dA) (fO) (fP) (fQ) (fR) (fS) (fL) (fN) (eZ) (f0) (f7) (f9) (fc) (fe) (ff) (fg) (fh) (fk) (fm) (fo) (fp) (d8)))else (yGS n n (fN) (fL) ((↑fL.length:Int)) ((0:Int)) (dx) (dy) (dz) (dA)))
def yIj(n:Nat)(k:Nat)(dI:Q1)(cQ:List (Q4))(fM:List Nat)(eO:Int)(dG:Int)(eu:Q1)(ev:List (Q3))(ew:Q1)(ey:Int)(ez:Int)(eA:List (Q4))(eB:List (Q4))(cR:Q1)(cS:List (Q3))(cT:Int)(cU:Int)(cV:Bool)(cW:Q1)(cX:List (Q3))(cY:List (Q4))(cZ:List (Q4))(d4:Int)(d5:Int)(d6:Bool)(d7:Q1)(bC:Q1)(dx:Int)(dy:Int)(dz:Int)(dA:Int)(fO:Q1)(fP:List (Q3))(fQ:Q1)(fR:Int)(fS:Int)(fL:List (Q4))(fN:List (Q4))(eZ:Q1)(f0:List (Q3))(f7:Int)(f9:Int)(fc:Bool)(fe:Q1)(ff:List (Q3))(fg:List (Q4))(fh:List (Q4))(fk:Int)(fm:Int)(fo:Bool)(fp:Q1)(d8:Q1):Option ((Q4)×Int×Unit) :=
  iter (fun r y=>yKB n (fun dI cQ fM eO dG eu ev ew ey ez eA eB cR cS cT cU cV cW cX cY cZ d4 d5 d6 d7 bC dx dy dz dA fO fP fQ fR fS fL fN eZ f0 f7 f9 fc fe ff fg fh fk fm fo fp d8=>r ((dI,(cQ,(fM,(eO,(dG,()))))),(((eu,(ev,(ew,(ey,(ez,(eA,(eB,(cR,(cS,(cT,(cU,(cV,(cW,(cX,(cY,(cZ,(d4,(d5,(d6,(d7,((bC,()),()))))))))))))))))))))),((dx,(dy,())),((dz,()),((dA,()),())))),(fO,(fP,(fQ,(fR,(fS,(fL,(fN,(eZ,(f0,(f7,(f9,(fc,(fe,(ff,(fg,(fh,(fk,(fm,(fo,(fp,((d8,()),())))))))))))))))))))))))) y.1.1 y.1.2.1 y.1.2.2.1 y.1.2.2.2.1 y.1.2.2.2.2.1 y.2.1.1.1 y.2.1.1.2.1 y.2.1.1.2.2.1 y.2.1.1.2.2.2.1 y.2.1.1.2.2.2.2.1 y.2.1.1.2.2.2.2.2.1 y.2.1.1.2.2.2.2.2.2.1 y.2.1.1.2.2.2.2.2.2.2.1 y.2.1.1.2.2.2.2.2.2.2.2.1 y.2.1.1.2.2.2.2.2.2.2.2.2.1 y.2.1.1.2.2.2.2.2.2.2.2.2.2.1 y.2.1.1.2.2.2.2.2.2.2.2.2.2.2.1 y.2.1.1.2.2.2.2.2.2.2.2.2.2.2.2.1 y.2.1.1.2.2.2.2.2.2.2.2.2.2.2.2.2.1 y.2.1.1.2.2.2.2.2.2.2.2.2.2.2.2.2.2.1 y.2.1.1.2.2.2.2.2.2.2.2.2.2.2.2.2.2.2.1 y.2.1.1.2.2.2.2.2.2.2.2.2.2.2.2.2.2.2.2.1 y.2.1.1.2.2.2.2.2.2.2.2.2.2.2.2.2.2.2.2.2.1 y.2.1.1.2.2.2.2.2.2.2.2.2.2.2.2.2.2.2.2.2.2.1 y.2.1.1.2.2.2.2.2.2.2.2.2.2.2.2.2.2.2.2.2.2.2.1 y.2.1.1.2.2.2.2.2.2.2.2.2.2.2.2.2.2.2.2.2.2.2.2.1.1 y.2.1.2.1.1 y.2.1.2.1.2.1 y.2.1.2.2.1.1 y.2.1.2.2.2.1.1 y.2.2.1 y.2.2.2.1 y.2.2.2.2.1 y.2.2.2.2.2.1 y.2.2.2.2.2.2.1 y.2.2.2.2.2.2.2.1 y.2.2.2.2.2.2.2.2.1 y.2.2.2.2.2.2.2.2.2.1 y.2.2.2.2.2.2.2.2.2.2.1 y.2.2.2.2.2.2.2.2.2.2.2.1 y.2.2.2.2.2.2.2.2.2.2.2.2.1 y.2.2.2.2.2.2.2.2.2.2.2.2.2.1 y.2.2.2.2.2.2.2.2.2.2.2.2.2.2.1 y.2.2.2.2.2.2.2.2.2.2.2.2.2.2.2.1 y.2.2.2.2.2.2.2.2.2.2.2.2.2.2.2.2.1 y.2.2.2.2.2.2.2.2.2.2.2.2.2.2.2.2.2.1 y.2.2.2.2.2.2.2.2.2.2.2.2.2.2.2.2.2.2.1 y.2.2.2.2.2.2.2.2.2.2.2.2.2.2.2.2.2.2.2.1 y.2.2.2.2.2.2.2.2.2.2.2.2.2.2.2.2.2.2.2.2.1 y.2.2.2.2.2.2.2.2.2.2.2.2.2.2.2.2.2.2.2.2.2.1 y.2.2.2.2.2.2.2.2.2.2.2.2.2.2.2.2.2.2.2.2.2.2.1.1) k ((dI,(cQ,(fM,(eO,(dG,()))))),(((eu,(ev,(ew,(ey,(ez,(eA,(eB,(cR,(cS,(cT,(cU,(cV,(cW,(cX,(cY,(cZ,(d4,(d5,(d6,(d7,((bC,()),()))))))))))))))))))))),((dx,(dy,())),((dz,()),((dA,()),())))),(fO,(fP,(fQ,(fR,(fS,(fL,(fN,(eZ,(f0,(f7,(f9,(fc,(fe,(ff,(fg,(fh,(fk,(fm,(fo,(fp,((d8,()),())))))))))))))))))))))))
def yNW(n:Nat)(rp:Q1)(l:List (Q3)):Option ((Q4)×Int×Unit) :=
  (Option.bind (yAN rp l) fun v0=>(bif v0.1 != 0 then some (((0:Int),(0:Int),()),v0.1,())else (Option.bind (yJl rp l) fun v1=>(bif v1.2.2.1==0 then some (((0:Int),(0:Int),()),(25:Int),())else (yIj n n (rp) (rp.2.2.2.1) (rp.2.2.1) ((↑rp.2.2.1.length:Int)) ((0:Int)) (rp) (l) (rp) ((0:Int)) (v0.1) (v1.1) (v1.2.1) (rp) (l) (v0.1) (v0.1) (v0.1 != 0) (rp) (l) (v1.1) (v1.2.1) (v1.2.2.1) (v1.2.2.1) (v1.2.2.1==0) (rp) (rp) ((0:Int)) ((0:Int)) (v1.2.2.1) ((0:Int)) (rp) (l) (rp) ((0:Int)) (v0.1) (v1.1) (v1.2.1) (rp) (l) (v0.1) (v0.1) (v0.1 != 0) (rp) (l) (v1.1) (v1.2.1) (v1.2.2.1) (v1.2.2.1) (v1.2.2.1==0) (rp) (rp))))))
theorem ySO(n:Nat)(x:yPg.den):runF yUk (yLW n) Tryz.f36 yPg yXJ x=yNW n x.1 x.2.1:=by kernel_rfl
def yJx(rp:Q1)(l:List (Q3)):Option ((Q4)×Int×Unit):=yNW 1000 rp l
theorem yQn(rp:Q1)(l:List (Q3))(y:(Q4)×Int×Unit)(h:yJx rp l=some y):∃ n,yNW n rp l=some y:=⟨1000,h⟩
def z0m_e:Entry:={ f:=36,args:=yPg,ress:=yXJ,m:=fun x=>yJx x.1 x.2.1 }
theorem yS1:FnOK Tryz.prog z0m_e:=yJ (g:=yUk) (fn:=Tryz.f36) yE yI (y6 y7r (y6 yLB (y6 yPs (y6 yDS (y6 yHP eNil))))) (by kernel_rfl) (by kernel_rfl) (by kernel_rfl) (fun x y h=>let ⟨n,hn⟩:=yQn x.1 x.2.1 y h;⟨yLW n,(y4R y5Y (y4R y5J iNil)),(ySO n x).trans hn⟩)
abbrev yOo:Ty:=.pair t60 (.pair t31 .unit)
abbrev yRq:Ty:=.pair t96 (.pair t28 .unit)
def yT7:G:={ T:=T,E:=[z0r_e,z0Y_e],muts:=[],fz:=[] }
def yYH:List (List Nat):=[]
def yMW(n:Nat):Ann:={ keep:=yYH,fuel:=n,inl:=[],deep:=0 }
def yOX(n:Nat)(rp:Q1)(l:List (Q3)):Option (List (List (Q4))×Int×Unit) :=
  (Option.bind (yAN rp l) fun v0=>(bif v0.1 != 0 then some ([],v0.1,())else (Option.bind (yD6 rp l) fun v1=>some (v1.1,(0:Int),()))))
theorem yTT(n:Nat)(x:yOo.den):runF yT7 (yMW n) Tryz.f55 yOo yRq x=yOX n x.1 x.2.1:=by kernel_rfl
def yNX(rp:Q1)(l:List (Q3)):Option (List (List (Q4))×Int×Unit):=yOX 0 rp l
theorem yOg(rp:Q1)(l:List (Q3))(y:List (List (Q4))×Int×Unit)(h:yNX rp l=some y):∃ n,yOX n rp l=some y:=⟨0,h⟩
def z0U_e:Entry:={ f:=55,args:=yOo,ress:=yRq,m:=fun x=>yNX x.1 x.2.1 }
theorem yTb:FnOK Tryz.prog z0U_e:=yJ (g:=yT7) (fn:=Tryz.f55) yE yI (y6 y7r (y6 yB3 eNil)) (by kernel_rfl) (by kernel_rfl) (by kernel_rfl) (fun x y h=>let ⟨n,hn⟩:=yOg x.1 x.2.1 y h;⟨yMW n,iNil,(yTT n x).trans hn⟩)
abbrev yO5:Ty:=.pair t60 (.pair t31 .unit)
abbrev yWZ:Ty:=.pair t3 (.pair t28 .unit)
def yTr:G:={ T:=T,E:=[z0r_e,z6_e,zy_e],muts:=[24],fz:=[7,27] }
def yYO:List (List Nat):=[[2,7,17,18,19,1000007]]
def yMY(n:Nat):Ann:={ keep:=yYO,fuel:=n,inl:=[],deep:=0 }
def yJV(n:Nat)(r1:Q1→List (Q3)→List (Q3)→Int→Int→Option (Q4))(cm:Q1)(bj:List (Q3))(eC:List (Q3))(eD:Int)(dH:Int):Option (Q4) :=
  (bif decide (dH < eD)then (Option.bind (idx eC dH) fun v2=>(bif decide (bj.length≤memMax)then (bif decide (bj.length+(1:Nat)≤memMax)then (Option.bind (zy_M cm (bj++[(v2.1,v2.2.1,v2.2.2.1,())])) fun v3=>(bif !v3.1 then r1 cm (bj++[(v2.1,v2.2.1,v2.2.2.1,())]) eC eD (IntKind.i64.wrap (dH+1))else r1 cm bj eC eD (IntKind.i64.wrap (dH+1))))else none)else none))else some ((↑bj.length:Int),(0:Int),()))
def yKz(n:Nat)(k:Nat)(cm:Q1)(bj:List (Q3))(eC:List (Q3))(eD:Int)(dH:Int):Option (Q4) :=
  iter (fun r y=>yJV n (fun cm bj eC eD dH=>r ((cm,(bj,(eC,(eD,(dH,()))))),((),()))) y.1.1 y.1.2.1 y.1.2.2.1 y.1.2.2.2.1 y.1.2.2.2.2.1) k ((cm,(bj,(eC,(eD,(dH,()))))),((),()))
def yPC(n:Nat)(rp:Q1)(l:List (Q3)):Option (Q4) :=
  (Option.bind (yAN rp l) fun v0=>(bif v0.1 != 0 then some ((0:Int),v0.1,())else (yKz n n (rp) ([]) (l) ((↑l.length:Int)) ((0:Int)))))
theorem yRI(n:Nat)(x:yO5.den):runF yTr (yMY n) Tryz.f57 yO5 yWZ x=yPC n x.1 x.2.1:=by kernel_rfl
def yMh(rp:Q1)(l:List (Q3)):Option (Q4):=yPC 1000 rp l
theorem yNx(rp:Q1)(l:List (Q3))(y:Q4)(h:yMh rp l=some y):∃ n,yPC n rp l=some y:=⟨1000,h⟩
def z13_e:Entry:={ f:=57,args:=yO5,ress:=yWZ,m:=fun x=>yMh x.1 x.2.1 }
theorem yTK:FnOK Tryz.prog z13_e:=yJ (g:=yTr) (fn:=Tryz.f57) yE yI (y6 y7r (y6 yZC (y6 ySp eNil))) (by kernel_rfl) (by kernel_rfl) (by kernel_rfl) (fun x y h=>let ⟨n,hn⟩:=yNx x.1 x.2.1 y h;⟨yMY n,iNil,(yRI n x).trans hn⟩)
abbrev yPh:Ty:=.pair t60 (.pair t31 .unit)
abbrev ySZ:Ty:=.pair t100 (.pair t28 .unit)
def yVh:G:={ T:=T,E:=[z0r_e,z0x_e,z0t_e],muts:=[8],fz:=[] }
def yXi:List (List Nat):=[[1,2,7,8,22]]
def yLI(n:Nat):Ann:={ keep:=yXi,fuel:=n,inl:=[],deep:=0 }
def yJG(n:Nat)(r2:List (Q3)→Q1→Int→Int→List (List Int)→Option (List (List Int)×Int×Unit))(dJ:List (Q3))(eG:Q1)(eE:Int)(aA:Int)(bR:List (List Int)):Option (List (List Int)×Int×Unit) :=
  (bif decide (aA < 16)then (bif decide (IntKind.i64.wrap (aA.tdiv (4:Int)) > aA.tmod (4:Int))then r2 dJ eG eE (IntKind.i64.wrap (aA+1)) bR else (bif eqV (Ty.arr (2:Nat) (Ty.int IntKind.i64)) [IntKind.i64.wrap (aA.tdiv (4:Int)),aA.tmod (4:Int)] [aA.tmod (4:Int),IntKind.i64.wrap (aA.tdiv (4:Int))]then r2 dJ eG eE (IntKind.i64.wrap (aA+1)) bR else (bif decide (aA.tmod (4:Int) ≥ (↑dJ.length:Int))then r2 dJ eG eE (IntKind.i64.wrap (aA+1)) bR else (Option.bind (idx dJ (IntKind.i64.wrap (aA.tdiv (4:Int)))) fun v7=>(Option.bind (idx dJ (aA.tmod (4:Int))) fun v8=>(Option.bind (yGE eG v7 v8) fun v9=>(bif IntKind.i64.wrap (IntKind.i64.wrap (v9.1.1 * v9.1.1)+IntKind.i64.wrap (v9.1.2.1 * v9.1.2.1))==IntKind.i64.wrap (eE * eE)then (bif decide (bR.length+(1:Nat)≤memMax)then r2 dJ eG eE (IntKind.i64.wrap (aA+1)) (bR++[[IntKind.i64.wrap (aA.tdiv (4:Int)),aA.tmod (4:Int)]])else none)else r2 dJ eG eE (IntKind.i64.wrap (aA+1)) bR)))))))else some (bR,(0:Int),()))
def yIa(n:Nat)(k:Nat)(dJ:List (Q3))(eG:Q1)(eE:Int)(aA:Int)(bR:List (List Int)):Option (List (List Int)×Int×Unit) :=
  iter (fun r y=>yJG n (fun dJ eG eE aA bR=>r ((dJ,(eG,(eE,(aA,())))),((bR,()),()))) y.1.1 y.1.2.1 y.1.2.2.1 y.1.2.2.2.1 y.2.1.1) k ((dJ,(eG,(eE,(aA,())))),((bR,()),()))
def yQJ(n:Nat)(rp:Q1)(l:List (Q3)):Option (List (List Int)×Int×Unit) :=
  (Option.bind (yAN rp l) fun v0=>(bif v0.1 != 0 then some ([],v0.1,())else (Option.bind (yIz rp) fun v1=>(yIa n n (l) (rp) ((↑v1.1.length:Int)) ((0:Int)) ([])))))
theorem yWw(n:Nat)(x:yPh.den):runF yVh (yLI n) Tryz.f58 yPh ySZ x=yQJ n x.1 x.2.1:=by kernel_rfl
def yPk(rp:Q1)(l:List (Q3)):Option (List (List Int)×Int×Unit):=yQJ 1000 rp l
theorem yOS(rp:Q1)(l:List (Q3))(y:List (List Int)×Int×Unit)(h:yPk rp l=some y):∃ n,yQJ n rp l=some y:=⟨1000,h⟩
def z0k_e:Entry:={ f:=58,args:=yPh,ress:=ySZ,m:=fun x=>yPk x.1 x.2.1 }
theorem yR2:FnOK Tryz.prog z0k_e:=yJ (g:=yVh) (fn:=Tryz.f58) yE yI (y6 y7r (y6 yMA (y6 yGI eNil))) (by kernel_rfl) (by kernel_rfl) (by kernel_rfl) (fun x y h=>let ⟨n,hn⟩:=yOS x.1 x.2.1 y h;⟨yLI n,iNil,(yWw n x).trans hn⟩)
abbrev yQ2:Ty:=.pair t60 (.pair t31 .unit)
abbrev yS5:Ty:=.pair t23 (.pair t28 .unit)
def yS8:G:={ T:=T,E:=[z0r_e,zy_e,z0Y_e,z04_e,zA_e,zf_e,zK_e,z0Z_e],muts:=[],fz:=[] }
def yXd:List (List Nat):=[[2,3,7,22,23],[7,9,10,11,51,52]]
def yL7(n:Nat):Ann:={ keep:=yXd,fuel:=n,inl:=[],deep:=0 }
def yHR(n:Nat)(r10:Int→List (List (Q4))→List (Q4)→Int→Int→List (Q4)→Option (List (Q4)×Int×Unit))(cg:Int)(eF:List (List (Q4)))(aW:List (Q4))(dB:Int)(br:Int)(cn:List (Q4)):Option (List (Q4)×Int×Unit) :=
  (bif decide (br < dB)then (Option.bind (zf_M eF br aW) fun v11=>(Option.bind (zK_M v11.1) fun v12=>(Option.bind (idx cn br) fun v13=>(Option.bind (cn[br.toNat]?) fun v14=>r10 cg eF aW dB (IntKind.i64.wrap (br+1)) (cn.set br.toNat v12.1)))))else (Option.bind (zK_M eF) fun v15=>(Option.bind (idx cn cg) fun v16=>(Option.bind (cn[cg.toNat]?) fun v17=>some (cn.set cg.toNat (z0Z v15.1 (-1:Int)).1,(0:Int),())))))
def yHo(n:Nat)(k:Nat)(cg:Int)(eF:List (List (Q4)))(aW:List (Q4))(dB:Int)(br:Int)(cn:List (Q4)):Option (List (Q4)×Int×Unit) :=
  iter (fun r y=>yHR n (fun cg eF aW dB br cn=>r ((cg,(eF,(aW,(dB,(br,()))))),((cn,()),()))) y.1.1 y.1.2.1 y.1.2.2.1 y.1.2.2.2.1 y.1.2.2.2.2.1 y.2.1.1) k ((cg,(eF,(aW,(dB,(br,()))))),((cn,()),()))
def yBI(n:Nat)(j3:Int)(j4:Q1)(j5:List (Q3)):Option (List (Q4)×Int×Unit) :=
  (bif j3==(↑j5.length:Int)then some ([],(7:Int),())else (bif decide ((0:Int)≤j3) && decide (j3≤(↑j5.length:Int))then (Option.bind (yD6 j4 (List.take j3.toNat j5)) fun v8=>(bif decide ((0:Int)≤j3) && decide (j3≤(↑j5.length:Int))then (Option.bind (zA_M (List.take j3.toNat j5) fun (x:(Q3)×Unit)=>yPz x.1 j4 j5 j3) fun v9=>(bif Bool.true && decide ((0:Int)≤(↑j5.length:Int)) && decide ((↑j5.length:Int)≤(↑memMax:Int)) && (↑j5.length:Int)==(↑j5.length:Int)then (yHo n n (j3) (v8.1) (v9.1) (j3) ((0:Int)) ((List.replicate ((↑j5.length:Int).toNat) (((0:Int),(0:Int),())):List (Q4))))else none))else none))else none))
def yKA(n:Nat)(r1:Q1→List (Q3)→Int→Int→Int→Option (List (Q4)×Int×Unit))(cm:Q1)(eQ:List (Q3))(eP:Int)(co:Int)(dC:Int):Option (List (Q4)×Int×Unit) :=
  (bif decide (co < eP)then (bif decide ((0:Int)≤IntKind.i64.wrap (co+1)) && decide (IntKind.i64.wrap (co+1)≤(↑eQ.length:Int))then (Option.bind (zy_M cm (List.take (IntKind.i64.wrap (co+1)).toNat eQ)) fun v2=>(bif v2.1 then (yBI n (co) (cm) (eQ))else r1 cm eQ eP (IntKind.i64.wrap (co+1)) dC))else none)else (yBI n (dC) (cm) (eQ)))
def yJb(n:Nat)(k:Nat)(cm:Q1)(eQ:List (Q3))(eP:Int)(co:Int)(dC:Int):Option (List (Q4)×Int×Unit) :=
  iter (fun r y=>yKA n (fun cm eQ eP co dC=>r ((cm,(eQ,(eP,(co,())))),(((dC,()),()),()))) y.1.1 y.1.2.1 y.1.2.2.1 y.1.2.2.2.1 y.2.1.1.1) k ((cm,(eQ,(eP,(co,())))),(((dC,()),()),()))
def yO7(n:Nat)(rp:Q1)(l:List (Q3)):Option (List (Q4)×Int×Unit) :=
  (Option.bind (yAN rp l) fun v0=>(bif v0.1 != 0 then some ([],v0.1,())else (yJb n n (rp) (l) ((↑l.length:Int)) ((0:Int)) ((↑l.length:Int)))))
theorem yRw(n:Nat)(x:yQ2.den):runF yS8 (yL7 n) Tryz.f89 yQ2 yS5 x=yO7 n x.1 x.2.1:=by kernel_rfl
def yNA(rp:Q1)(l:List (Q3)):Option (List (Q4)×Int×Unit):=yO7 1000 rp l
theorem yPw(rp:Q1)(l:List (Q3))(y:List (Q4)×Int×Unit)(h:yNA rp l=some y):∃ n,yO7 n rp l=some y:=⟨1000,h⟩
def z0S_e:Entry:={ f:=89,args:=yQ2,ress:=yS5,m:=fun x=>yNA x.1 x.2.1 }
theorem yVE:FnOK Tryz.prog z0S_e:=yJ (g:=yS8) (fn:=Tryz.f89) yE yI (y6 y7r (y6 ySp (y6 yB3 (y6 yRZ (y6 yPq (y6 yWs (y6 yJt (y6 y8y eNil)))))))) (by kernel_rfl) (by kernel_rfl) (by kernel_rfl) (fun x y h=>let ⟨n,hn⟩:=yPw x.1 x.2.1 y h;⟨yL7 n,iNil,(yRw n x).trans hn⟩)
end
end Go.Tw
end
section
set_option maxRecDepth 1000000
namespace Go.Tw
open Go.Vx Go.Vx.B Go.Proofs
noncomputable section
def il102:Inl:={ f:=102,fn:=Tryz.f102,keep:=[],muts:=[3,5],fz:=[5],rc:=true }
theorem yKk:y58 Tryz.prog il102:=⟨by kernel_rfl,by kernel_rfl,fun e0 h=>by cases (show (none:Option LibK)=some e0 from h)⟩
abbrev yNK:Ty:=.unit
abbrev yWK:Ty:=.pair t4 .unit
def yWD:G:={ T:=T,E:=[z0f_e,z0N_e,z0U_e,zd_e,z0E_e,z0m_e,z0F_e,zr_e,zV_e,z0k_e,z0S_e,z13_e,z0T_e,z05_e,z0l_e,z12_e,z0n_e,z14_e,z0o_e,zk_e,zb_e,zq_e,zt_e],muts:=[155],fz:=[] }
def yYg:List (List Nat):=[]
def yL9(n:Nat):Ann:={ keep:=yYg,fuel:=n,inl:=[il102],deep:=4 }
def yQ4(n:Nat)  : Option (Bool×Unit) :=
  (Option.bind (y5k [(81:UInt8),82]) fun v0=>(Option.bind (yNX (z0f []).1 v0.1) fun v1=>(Option.bind (y5k [(81:UInt8),82]) fun v2=>(Option.bind (zd_M (z0f []).1 v2.1) fun v3=>(Option.bind (y5k [(81:UInt8),82]) fun v4=>(Option.bind (yIq (z0f []).1 v4.1) fun v5=>(Option.bind (y5k [(81:UInt8),82]) fun v6=>(Option.bind (yJx (z0f []).1 v6.1) fun v7=>(Option.bind (y6Q (v5.1.1,v5.1.2.1,v5.1.2.2.1,()) (0:Int) (4:Int)) fun v8=>(Option.bind (y5k [(90:UInt8),72]) fun v9=>(Option.bind (zd_M (z0f [((3:Int),(4:Int),())]).1 v9.1) fun v10=>(Option.bind (y5k [(90:UInt8),72]) fun v11=>(Option.bind (yJx (z0f [((3:Int),(4:Int),())]).1 v11.1) fun v12=>(bif IntKind.i64.wrap (IntKind.i64.wrap (IntKind.i64.wrap (IntKind.i64.wrap (IntKind.i64.wrap (IntKind.i64.wrap (v1.2.1+v3.2.1)+v5.2.1)+v7.2.1)+v8.2.1)+v10.2.1)+v12.2.1) != 0 then some (Bool.false,())else (Option.bind (zr_M v1.1 [[((4:Int),(0:Int),()),((0:Int),(0:Int),())],[((0:Int),(0:Int),()),((4:Int),(0:Int),())]]) fun v13=>(bif !v13.1 then some (Bool.false,())else (bif v3.1 != 16 then some (Bool.false,())else (bif v5.1.2.2.1 != 1 then some (Bool.false,())else (Option.bind (zV_M v5.1.2.1 [((8:Int),(0:Int),()),((8:Int),(0:Int),())]) fun v14=>(bif !v14.1 then some (Bool.false,())else (bif !eqV ((Ty.int IntKind.i64).pair ((Ty.int IntKind.i64).pair Ty.unit)) (v7.1.1,v7.1.2.1,()) ((0:Int),(1:Int),())then some (Bool.false,())else (Option.bind (zV_M v8.1 [((16:Int),(0:Int),()),((0:Int),(0:Int),()),((-16:Int),(0:Int),()),((0:Int),(0:Int),())]) fun v15=>(bif !v15.1 then some (Bool.false,())else (bif v10.1 != 8 then some (Bool.false,())else (bif !eqV ((Ty.int IntKind.i64).pair ((Ty.int IntKind.i64).pair Ty.unit)) (v12.1.1,v12.1.2.1,()) ((512:Int),(1:Int),())then some (Bool.false,())else (Option.bind (y5k [(90:UInt8),72]) fun v32=>(Option.bind (yPk ([(103:UInt8)],(0:Int),[nat_lit 1065353216,nat_lit 0,nat_lit 3212836864,nat_lit 0],[((1:Int),(2:Int),()),((3:Int),(4:Int),())],()) v32.1) fun v33=>(Option.bind (y5k [(90:UInt8),72]) fun v34=>(Option.bind (yNA ([(103:UInt8)],(0:Int),[nat_lit 1065353216,nat_lit 0,nat_lit 3212836864,nat_lit 0],[((1:Int),(2:Int),()),((3:Int),(4:Int),())],()) v34.1) fun v35=>(Option.bind (y5k [(90:UInt8),72,81]) fun v36=>(Option.bind (yMh ([(103:UInt8)],(0:Int),[nat_lit 1065353216,nat_lit 0,nat_lit 3212836864,nat_lit 0],[((1:Int),(2:Int),()),((3:Int),(4:Int),())],()) v36.1) fun v37=>(Option.bind (y5k [(90:UInt8),72]) fun v38=>(Option.bind (yIq ([(103:UInt8)],(0:Int),[nat_lit 1065353216,nat_lit 0,nat_lit 3212836864,nat_lit 0],[((1:Int),(2:Int),()),((3:Int),(4:Int),())],()) v38.1) fun v39=>(Option.bind (y5k [(90:UInt8)]) fun v40=>(Option.bind (yBS (v40.1,[((3:Int),(0:Int),())],(2:Int),()) (5:Int) (1:Int)) fun v41=>(Option.bind (yMx (z0f []).1 (v40.1,[((3:Int),(0:Int),())],(2:Int),())) fun v42=>(Option.bind (yMj [nat_lit 0,nat_lit 1065353216,nat_lit 1065353216,nat_lit 0,nat_lit 1073741824,nat_lit 1065353216]) fun v43=>(Option.bind (yOE [nat_lit 0,nat_lit 1065353216,nat_lit 1065353216,nat_lit 0,nat_lit 1073741824,nat_lit 1065353216]) fun v44=>(Option.bind (yIK (2024:Int)) fun v45=>(Option.bind (yOT (v40.1,[((3:Int),(0:Int),())],(2:Int),())) fun v46=>(Option.bind (yQ9 (v40.1,[((3:Int),(0:Int),())],(2:Int),())) fun v47=>(bif IntKind.i64.wrap (IntKind.i64.wrap (IntKind.i64.wrap (IntKind.i64.wrap (IntKind.i64.wrap (IntKind.i64.wrap (IntKind.i64.wrap (IntKind.i64.wrap (IntKind.i64.wrap (v33.2.1+v35.2.1)+v37.2.1)+v41.2.1)+v42.2.1)+v43.2.1)+v44.2.1)+v45.2.1)+v46.2.1)+v47.2.1)==0 then (bif v39.2.1==25 then (Option.bind (zk_M v33.1 [[(0:Int),(1:Int)]]) fun v48=>(bif v48.1 then (Option.bind (zV_M v35.1 [((2:Int),(0:Int),()),((-2:Int),(0:Int),())]) fun v49=>(bif v49.1 then (bif v37.1==2 then (Option.bind (zb_M v41.1 [nat_lit 1040187392]) fun v50=>(bif v50.1 then (bif eqV ((Ty.int IntKind.i64).pair ((Ty.int IntKind.i64).pair Ty.unit)) (v42.1.1,v42.1.2.1,()) ((521:Int),(1:Int),())then (Option.bind (zq_M v43.1 [(1:Int),(4:Int)]) fun v51=>(bif v51.1 then (Option.bind (zq_M v44.1 [(3:Int)]) fun v52=>(bif v52.1 then (bif eqV ((Ty.int IntKind.i64).pair ((Ty.int IntKind.i64).pair Ty.unit)) (v45.1.1,v45.1.2.1,()) ((26:Int),(25:Int),())then (Option.bind (zt_M v46.1 [(nat_lit 1035993088,nat_lit 0)]) fun v53=>(bif v53.1 then some (v47.1==[(116:UInt8),105,100,101,32,50,10,99,111,110,115,116,105,116,117,101,110,116,32,90,32,49,32,48,32,51,32,48,10],())else some (Bool.false,())))else some (Bool.false,()))else some (Bool.false,())))else some (Bool.false,())))else some (Bool.false,()))else some (Bool.false,())))else some (Bool.false,()))else some (Bool.false,())))else some (Bool.false,())))else some (Bool.false,()))else some (Bool.false,())))))))))))))))))))))))))))))))))))))))))))
theorem yVg(n:Nat)(x:yNK.den):runF yWD (yL9 n) Tryz.f18 yNK yWK x=yQ4 n:=by kernel_rfl
def yOy  : Option (Bool×Unit):=yQ4 0
theorem yOt(y:Bool×Unit)(h:yOy=some y):∃ n,yQ4 n=some y:=⟨0,h⟩
def z0M_e:Entry:={ f:=18,args:=yNK,ress:=yWK,m:=fun x=>yOy }
theorem yT4:FnOK Tryz.prog z0M_e:=yJ (g:=yWD) (fn:=Tryz.f18) yE yI (y6 ySm (y6 yV6 (y6 yTb (y6 yXl (y6 yRL (y6 yS1 (y6 yHv (y6 yXb (y6 yRc (y6 yR2 (y6 yVE (y6 yTK (y6 yLm (y6 ySn (y6 yWL (y6 yV1 (y6 yMV (y6 yTs (y6 yTM (y6 yZ4 (y6 yXj (y6 yYS (y6 yYm eNil))))))))))))))))))))))) (by kernel_rfl) (by kernel_rfl) (by kernel_rfl) (fun x y h=>let ⟨n,hn⟩:=yOt y h;⟨yL9 n,(y4R yKk iNil),(yVg n x).trans hn⟩)
end
end Go.Tw
end
