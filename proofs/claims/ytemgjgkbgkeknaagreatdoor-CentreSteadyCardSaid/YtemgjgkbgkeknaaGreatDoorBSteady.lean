/- Models of the program's functions,by program (gen.py),and what they compute. -/
import Derived.Test.YtemgjgkbgkeknaaGreatDoorBT
import Derived.Test.YtemgjgkbgkeknaaGreatDoorB0
import Derived.Test.YtemgjgkbgkeknaaGreatDoorSB
import Derived.Test.YtemgjgkbgkeknaaGreatDoorLZ
import Derived.Test.YtemgjgkbgkeknaaGreatDoorBA
import Derived.Test.YtemgjgkbgkeknaaGreatDoorBC
import Derived.Test.YtemgjgkbgkeknaaGreatDoorBD
import Derived.Test.YtemgjgkbgkeknaaGreatDoorBE
import Derived.Test.YtemgjgkbgkeknaaGreatDoorB12
set_option linter.all false
open Go.IntKind (i64)

set_option maxRecDepth 1000000
namespace Go.Tw
open Go.Vx Go.Vx.B Go.Proofs
noncomputable def il27:Inl:={ f:=27,fn:=Tryz.f27,keep:=[[3,6,7,8]],mU:=[3],fz:=[] }
theorem yOw:y0B Tryz.prog il27:=⟨by kernel_rfl,by kernel_rfl,λ e0 h=>by cases (show (none:Option LibK)=some e0 from h)⟩
/-! ### tidewaylaw10.CentreSteady -/
abbrev zn_a:Ty:=.pair t22 (.pair t96 .unit)
abbrev zn_r:Ty:=.pair t4 .unit
noncomputable def zn_g:G:={ T:=T,E:=[z05_e,z0b_e,z0J_e,z0c_e,z00_e,zb_e,z0B_e,z09_e],mU:=[119,122,125],fz:=[],lv:=some [0,7,8,9,11,13,15,115,117,119,122,212,214] }
def zn_k:List (List Nat):=[[0,3,40,41,42],[0,7,8,9,129,130,131],[0,9,19,20,21,146,147,148],[0,9,235,236,237],[0,266,267,268]]
noncomputable def yRZ(n:Nat):Ann:={ keep:=zn_k,fuel:=n,inl:=[il27],deep:=3 }
noncomputable def yAN(n:Nat)(r68:List (Q2)->List (Q2)->Int->Int->Option (Bool×Unit))(au aa:List (Q2))(aJ ai:Int)(v69:Q2):Option (Bool×Unit):=
  (bif Decidable.decide ((0:Int)<=ai) && Decidable.decide (ai<=(↑au.length:Int))then ((yOR (List.take ai.toNat au)).bind λ v74=>(bif v74.snd.fst != (0:Int)then Option.some (Bool.false,())else ((idx v69.snd.snd.fst (0:Int)).bind λ v75=>(bif !(v74.fst==v75)==(v69.snd.fst==[(100:UInt8),(101:UInt8),(99:UInt8),(105:UInt8),(100:UInt8),(101:UInt8)])then Option.some (Bool.false,())else r68 au aa aJ (i64.wrap (ai+(1:Int)))))))else none)

noncomputable def yEq(n:Nat)(r68:List (Q2)->List (Q2)->Int->Int->Option (Bool×Unit))(au aa:List (Q2))(aJ ai:Int):Option (Bool×Unit):=
  (bif Decidable.decide (ai < aJ)then ((idx aa ai).bind λ v69=>(bif !v69.snd.fst==[(100:UInt8),(101:UInt8),(99:UInt8),(105:UInt8),(100:UInt8),(101:UInt8)]then (bif !v69.snd.fst==[(111:UInt8),(118:UInt8),(101:UInt8),(114:UInt8),(114:UInt8),(105:UInt8),(100:UInt8),(101:UInt8)]then r68 au aa aJ (i64.wrap (ai+(1:Int)))else (yAN n r68 au aa aJ ai v69))else (yAN n r68 au aa aJ ai v69)))else Option.some (Bool.true,()))

noncomputable def y7Q(n k:Nat)(au aa:List (Q2))(aJ ai:Int):Option (Bool×Unit):=
  iter (λ r y=>yEq n (λ au aa aJ ai=>r ((au,(aa,(aJ,(ai,())))),((),()))) y.1.1 y.1.2.1 y.1.2.2.1 y.1.2.2.2.1) k ((au,(aa,(aJ,(ai,())))),((),()))

noncomputable def yEg(n:Nat)(r60:List (Q2)->List (Q5)->List (Q5)->Int->Int->Option (Bool×Unit))(az:List (Q2))(aq ak:List (Q5))(aU aC:Int):Option (Bool×Unit):=
  (bif Decidable.decide (aC < aU)then ((idx ak aC).bind λ v61=>(bif !v61.snd.fst==[(119:UInt8),(97:UInt8),(105:UInt8),(116:UInt8)]then Option.some (Bool.false,())else ((idx aq aC).bind λ v62=>(bif v61.fst != v62.fst then Option.some (Bool.false,())else ((idx aq aC).bind λ v63=>(bif !v61.snd.snd.fst==v63.snd.snd.fst then Option.some (Bool.false,())else r60 az aq ak aU (i64.wrap (aC+(1:Int)))))))))else (y7Q n n (az) (az) ((↑az.length:Int)) ((0:Int))))

noncomputable def y7V(n k:Nat)(az:List (Q2))(aq ak:List (Q5))(aU aC:Int):Option (Bool×Unit):=
  iter (λ r y=>yEg n (λ az aq ak aU aC=>r ((az,(aq,(ak,(aU,(aC,()))))),((),()))) y.1.1 y.1.2.1 y.1.2.2.1 y.1.2.2.2.1 y.1.2.2.2.2.1) k ((az,(aq,(ak,(aU,(aC,()))))),((),()))

noncomputable def yAV(n:Nat)(af:List (Q2))(a7:List (Q5)):Option (Bool×Unit):=
  ((yId af ((0:Int),(0:Int),())).bind λ v57=>(bif v57.snd.fst != (0:Int)then Option.some (Bool.false,())else (bif (↑v57.fst.length:Int) != (↑a7.length:Int)then Option.some (Bool.false,())else (y7V n n (af) (a7) (v57.fst) ((↑v57.fst.length:Int)) ((0:Int))))))

noncomputable def yAp(n:Nat)(af:List (Q2))(a7:List (Q5))(ac ae:Int)(j42:Bool):Option (Bool×Unit):=
  (bif j42 then ((zb_M af (ac,ae,())).bind λ v43=>((yId af (ac,ae,())).bind λ v44=>(bif v43.snd.fst != (0:Int)then Option.some (Bool.false,())else (bif v44.snd.fst != (0:Int)then Option.some (Bool.false,())else (bif (↑v43.fst.length:Int) != (0:Int)then Option.some (Bool.false,())else ((yO6 v44.fst).bind λ v45=>((yO6 a7).bind λ v46=>((yOu v45.fst v46.fst).bind λ v47=>(bif !v47.fst then Option.some (Bool.false,())else (yAV n af a7))))))))))else (yAV n af a7))

noncomputable def yFN(n:Nat)(r24:List (Q2)->List (Q5)->Int->Bool->List (Q2)->Int->Int->Int->Int->Option (Bool×Unit))(af:List (Q2))(a7:List (Q5))(a8:Int)(ah:Bool)(aj:List (Q2))(aD av ac ae:Int):Option (Bool×Unit):=
  (bif Decidable.decide (av < aD)then ((idx aj av).bind λ v25=>(bif v25.snd.fst==[(114:UInt8),(117:UInt8),(108:UInt8),(101:UInt8)]then ((idx v25.snd.snd.snd.fst (1:Int)).bind λ v26=>((idx v25.snd.snd.snd.fst (2:Int)).bind λ v27=>(bif ah then (bif av==(0:Int)then (bif !v25.snd.fst==[(111:UInt8),(118:UInt8),(101:UInt8),(114:UInt8),(114:UInt8),(105:UInt8),(100:UInt8),(101:UInt8)]then r24 af a7 (i64.wrap (a8+(1:Int))) (!v25.snd.fst==[(117:UInt8),(110:UInt8),(100:UInt8),(111:UInt8)]) aj aD (i64.wrap (av+(1:Int))) v26 v27 else r24 af a7 (i64.wrap (a8+(1:Int))) Bool.false aj aD (i64.wrap (av+(1:Int))) v26 v27)else r24 af a7 (i64.wrap (a8+(1:Int))) Bool.false aj aD (i64.wrap (av+(1:Int))) v26 v27)else r24 af a7 (i64.wrap (a8+(1:Int))) Bool.false aj aD (i64.wrap (av+(1:Int))) v26 v27)))else (bif ah then (bif !v25.snd.fst==[(111:UInt8),(118:UInt8),(101:UInt8),(114:UInt8),(114:UInt8),(105:UInt8),(100:UInt8),(101:UInt8)]then r24 af a7 a8 (!v25.snd.fst==[(117:UInt8),(110:UInt8),(100:UInt8),(111:UInt8)]) aj aD (i64.wrap (av+(1:Int))) ac ae else r24 af a7 a8 Bool.false aj aD (i64.wrap (av+(1:Int))) ac ae)else r24 af a7 a8 Bool.false aj aD (i64.wrap (av+(1:Int))) ac ae)))else (bif ah then (yAp n af a7 ac ae (a8==(1:Int)))else (yAp n af a7 ac ae (Bool.false))))

noncomputable def y7f(n k:Nat)(af:List (Q2))(a7:List (Q5))(a8:Int)(ah:Bool)(aj:List (Q2))(aD av ac ae:Int):Option (Bool×Unit):=
  iter (λ r y=>yFN n (λ af a7 a8 ah aj aD av ac ae=>r ((af,(a7,(a8,(ah,(aj,(aD,(av,()))))))),(((ac,(ae,())),()),()))) y.1.1 y.1.2.1 y.1.2.2.1 y.1.2.2.2.1 y.1.2.2.2.2.1 y.1.2.2.2.2.2.1 y.1.2.2.2.2.2.2.1 y.2.1.1.1 y.2.1.1.2.1) k ((af,(a7,(a8,(ah,(aj,(aD,(av,()))))))),(((ac,(ae,())),()),()))

noncomputable def yG4(n:Nat)(r20:List (Q2)->Int->Int->List (Q5)->List (Q5)->Int->Int->Option (Bool×Unit))(aA:List (Q2))(aP aQ:Int)(aw am:List (Q5))(aV aS:Int):Option (Bool×Unit):=
  (bif Decidable.decide (aS < aV)then ((idx am aS).bind λ v21=>(bif Decidable.decide (v21.fst < aP)then Option.some (Bool.false,())else (bif Decidable.decide (v21.fst >= aQ)then Option.some (Bool.false,())else r20 aA aP aQ aw am aV (i64.wrap (aS+(1:Int))))))else (y7f n n (aA) (aw) ((0:Int)) (Bool.true) (aA) ((↑aA.length:Int)) ((0:Int)) ((0:Int)) ((0:Int))))

noncomputable def y7c(n k:Nat)(aA:List (Q2))(aP aQ:Int)(aw am:List (Q5))(aV aS:Int):Option (Bool×Unit):=
  iter (λ r y=>yG4 n (λ aA aP aQ aw am aV aS=>r ((aA,(aP,(aQ,(aw,(am,(aV,(aS,()))))))),((),()))) y.1.1 y.1.2.1 y.1.2.2.1 y.1.2.2.2.1 y.1.2.2.2.2.1 y.1.2.2.2.2.2.1 y.1.2.2.2.2.2.2.1) k ((aA,(aP,(aQ,(aw,(am,(aV,(aS,()))))))),((),()))

noncomputable def yFU(n:Nat)(r15:List (Q5)->Int->Int->List (Q5)->List (Q2)->Int->Int->List (Q5)->List (Q5)->List (Q5)->List (Q5)->Bool->List (Q5)->Option (Bool×Unit))(aH:List (Q5))(b5 aX:Int)(aF:List (Q5))(aL:List (Q2))(aM aN:Int)(aO aI ar aE:List (Q5))(ax:Bool)(ay:List (Q5)):Option (Bool×Unit):=
  (bif Decidable.decide (aX < b5)then ((idx aH aX).bind λ v16=>(bif Decidable.decide (aF.length+(1:Nat)<=memMax)then r15 aH b5 (i64.wrap (aX+(1:Int))) (aF++[(v16.fst,v16.snd.fst,v16.snd.snd.fst,())]) aL aM aN aO aI ar aE ax ay else none))else (bif ax then Option.some (Bool.false,())else ((yO6 ar).bind λ v17=>(bif Decidable.decide (aF.length+v17.fst.length<=memMax)then ((yO6 aE).bind λ v18=>(bif Decidable.decide ((aF++v17.fst).length+v18.fst.length<=memMax)then ((yOu ay (aF++v17.fst++v18.fst)).bind λ v19=>(bif !v19.fst then Option.some (Bool.false,())else (y7c n n (aL) (aM) (aN) (aO) (ar) ((↑ar.length:Int)) ((0:Int)))))else none))else none))))

noncomputable def y7L(n k:Nat)(aH:List (Q5))(b5 aX:Int)(aF:List (Q5))(aL:List (Q2))(aM aN:Int)(aO aI ar aE:List (Q5))(ax:Bool)(ay:List (Q5)):Option (Bool×Unit):=
  iter (λ r y=>yFU n (λ aH b5 aX aF aL aM aN aO aI ar aE ax ay=>r ((aH,(b5,(aX,()))),((aF,()),(aL,(aM,(aN,(aO,(aI,(ar,(aE,(ax,(ay,())))))))))))) y.1.1 y.1.2.1 y.1.2.2.1 y.2.1.1 y.2.2.1 y.2.2.2.1 y.2.2.2.2.1 y.2.2.2.2.2.1 y.2.2.2.2.2.2.1 y.2.2.2.2.2.2.2.1 y.2.2.2.2.2.2.2.2.1 y.2.2.2.2.2.2.2.2.2.1 y.2.2.2.2.2.2.2.2.2.2.1) k ((aH,(b5,(aX,()))),((aF,()),(aL,(aM,(aN,(aO,(aI,(ar,(aE,(ax,(ay,())))))))))))

noncomputable def yJC(n:Nat)(r1:List (Q2)->List Int->List (Q2)->Int->Int->Option (Bool×Unit))(aK:List (Q2))(aT:List Int)(aG:List (Q2))(aY aW:Int):Option (Bool×Unit):=
  (bif Decidable.decide (aW < aY)then ((idx aG aW).bind λ v2=>(bif !v2.snd.fst==[(117:UInt8),(110:UInt8),(100:UInt8),(111:UInt8)]then ((idx v2.snd.snd.snd.fst (0:Int)).bind λ v3=>(bif v3==(999999999:Int)then Option.some (Bool.true,())else r1 aK aT aG aY (i64.wrap (aW+(1:Int)))))else r1 aK aT aG aY (i64.wrap (aW+(1:Int)))))else ((idx aT (0:Int)).bind λ v8=>((idx aT (1:Int)).bind λ v9=>((yOq aK (0:Int) (999999999:Int)).bind λ v10=>((yOq aK (0:Int) (if (i64.wrap v9).tmod (20:Int) < (i64.wrap v8).tmod (20:Int)then (i64.wrap v9).tmod (20:Int)else (i64.wrap v8).tmod (20:Int))).bind λ v11=>((yOq aK (if (i64.wrap v9).tmod (20:Int) < (i64.wrap v8).tmod (20:Int)then (i64.wrap v9).tmod (20:Int)else (i64.wrap v8).tmod (20:Int)) (if (i64.wrap v9).tmod (20:Int) > (i64.wrap v8).tmod (20:Int)then (i64.wrap v9).tmod (20:Int)else (i64.wrap v8).tmod (20:Int))).bind λ v12=>((yOq aK (if (i64.wrap v9).tmod (20:Int) > (i64.wrap v8).tmod (20:Int)then (i64.wrap v9).tmod (20:Int)else (i64.wrap v8).tmod (20:Int)) (999999999:Int)).bind λ v13=>(bif v10.snd.fst != (0:Int)then Option.some (Bool.false,())else (bif v11.snd.fst != (0:Int)then Option.some (Bool.false,())else (bif v12.snd.fst != (0:Int)then Option.some (Bool.false,())else (bif v13.snd.fst != (0:Int)then Option.some (Bool.false,())else (bif Decidable.decide ((↑v10.fst.length:Int) > (24:Int))then Option.some (Bool.false,())else ((yO6 v10.fst).bind λ v14=>(y7L n n (v11.fst) ((↑v11.fst.length:Int)) ((0:Int)) ([]) (aK) (if (i64.wrap v9).tmod (20:Int) < (i64.wrap v8).tmod (20:Int)then (i64.wrap v9).tmod (20:Int)else (i64.wrap v8).tmod (20:Int)) (if (i64.wrap v9).tmod (20:Int) > (i64.wrap v8).tmod (20:Int)then (i64.wrap v9).tmod (20:Int)else (i64.wrap v8).tmod (20:Int)) (v10.fst) (v11.fst) (v12.fst) (v13.fst) (Bool.false) (v14.fst)))))))))))))))

noncomputable def yB2(n k:Nat)(aK:List (Q2))(aT:List Int)(aG:List (Q2))(aY aW:Int):Option (Bool×Unit):=
  iter (λ r y=>yJC n (λ aK aT aG aY aW=>r ((aK,(aT,(aG,(aY,(aW,()))))),((),()))) y.1.1 y.1.2.1 y.1.2.2.1 y.1.2.2.2.1 y.1.2.2.2.2.1) k ((aK,(aT,(aG,(aY,(aW,()))))),((),()))

noncomputable def zn_m(n:Nat)(l:List (Q2))(np:List Int):Option (Bool×Unit):=
  ((yL6 l (24:Int)).bind λ v0=>(bif !v0.fst then Option.some (Bool.true,())else (yB2 n n (l) (np) (l) ((↑l.length:Int)) ((0:Int)))))

theorem yS7(n:Nat)(x:zn_a.den):runF zn_g (yRZ n) Tryz.f9 zn_a zn_r x=zn_m n x.1 x.2.1:=by kernel_rfl

noncomputable def yCy(au aa:List (Q2))(ai:Int)(v69:Q2):Option ((Bool×Unit)⊕Unit):=
  (bif Decidable.decide ((0:Int)<=ai) && Decidable.decide (ai<=(↑au.length:Int))then ((yOR (List.take ai.toNat au)).bind λ v74=>(bif v74.snd.fst != (0:Int)then (some (Sum.inl ((Bool.false,()))))else ((idx v69.snd.snd.fst (0:Int)).bind λ v75=>(bif !(v74.fst==v75)==(v69.snd.fst==[(100:UInt8),(101:UInt8),(99:UInt8),(105:UInt8),(100:UInt8),(101:UInt8)])then (some (Sum.inl ((Bool.false,()))))else (some (Sum.inr ()))))))else none)

theorem y16(n:Nat)(hn:big<=n)(r68:List (Q2)->List (Q2)->Int->Int->Option (Bool×Unit))(au aa:List (Q2))(ai:Int)(v69:Q2):LeF (elim some λ (aB:Unit)=>r68 au aa (List.length (aa):Int) (i64.wrap (ai+1))) (yCy au aa ai v69) (yAN n r68 au aa (List.length (aa):Int) ai v69):=
  (y7 (yF λ v74=>(y7 (y9 rfl) (yF λ v75=>(y7 (y9 rfl) (y9 rfl))))) y03)

noncomputable def yHi(au aa:List (Q2))(ai:Int)(v69:Q2):Option ((Bool×Unit)⊕Unit):=
  (bif !v69.snd.fst==[(100:UInt8),(101:UInt8),(99:UInt8),(105:UInt8),(100:UInt8),(101:UInt8)]then (bif !v69.snd.fst==[(111:UInt8),(118:UInt8),(101:UInt8),(114:UInt8),(114:UInt8),(105:UInt8),(100:UInt8),(101:UInt8)]then (some (Sum.inr ()))else (yCy au aa ai v69))else (yCy au aa ai v69))

noncomputable def yMz(au aa:List (Q2)):Option (Bool×Unit):=
  (some ((Bool.true,())))

theorem yES(n:Nat)(hn:big<=n)(au aa:List (Q2))(hx:List.length (aa) < yB):LeF some (yR (λ aR aZ aB=>yHi au aa aR aZ) (λ aB=>yMz au aa) 0 (aa) ()) (y7Q n n au aa (List.length (aa):Int) 0):=by
  refine yo (f:=some) (W:=λ b4 aR aB=>y7Q n b4 au aa (List.length (aa):Int) aR) (λ b4 aR aB=>?_) hx () n (by unfold big at hn;unfold yB at hx;omega)
  show LeF _ _ (yEq n (y7Q n b4) au aa (List.length (aa):Int) aR)
  exact y7 (yF λ v69=>(y7 (y7 (y9 rfl) (by apply y16 n hn)) (by apply y16 n hn))) (y1I (y9 rfl))

noncomputable def yK7(az:List (Q2))(aq ak:List (Q5))(aC:Int)(v61:Q5):Option ((Bool×Unit)⊕Unit):=
  (bif !v61.snd.fst==[(119:UInt8),(97:UInt8),(105:UInt8),(116:UInt8)]then (some (Sum.inl ((Bool.false,()))))else ((idx aq aC).bind λ v62=>(bif v61.fst != v62.fst then (some (Sum.inl ((Bool.false,()))))else ((idx aq aC).bind λ v63=>(bif !v61.snd.snd.fst==v63.snd.snd.fst then (some (Sum.inl ((Bool.false,()))))else (some (Sum.inr ())))))))

noncomputable def yEy(az:List (Q2))(aq ak:List (Q5)):Option (Bool×Unit):=
  (bif decide (List.length (az) < yB)then yR (λ aR aZ aB=>yHi (az) (az) aR aZ) (λ aB=>yMz (az) (az)) 0 (az) ()else none)

theorem yEZ(n:Nat)(hn:big<=n)(az:List (Q2))(aq ak:List (Q5))(hx:List.length (ak) < yB):LeF some (yR (λ aR aZ aB=>yK7 az aq ak aR aZ) (λ aB=>yEy az aq ak) 0 (ak) ()) (y7V n n az aq ak (List.length (ak):Int) 0):=by
  refine yo (f:=some) (W:=λ b4 aR aB=>y7V n b4 az aq ak (List.length (ak):Int) aR) (λ b4 aR aB=>?_) hx () n (by unfold big at hn;unfold yB at hx;omega)
  show LeF _ _ (yEg n (y7V n b4) az aq ak (List.length (ak):Int) aR)
  exact y7 (yF λ v61=>(y7 (y9 rfl) (yF λ v62=>(y7 (y9 rfl) (yF λ v63=>(y7 (y9 rfl) (y9 rfl))))))) (y1I (yl λ hx=>by apply yES n hn;exact hx))

noncomputable def yBo(af:List (Q2))(a7:List (Q5)):Option (Bool×Unit):=
  ((yId af ((0:Int),(0:Int),())).bind λ v57=>(bif v57.snd.fst != (0:Int)then (some ((Bool.false,())))else (bif (↑v57.fst.length:Int) != (↑a7.length:Int)then (some ((Bool.false,())))else (bif decide (List.length (v57.fst) < yB)then yR (λ aR aZ aB=>yK7 (af) (a7) (v57.fst) aR aZ) (λ aB=>yEy (af) (a7) (v57.fst)) 0 (v57.fst) ()else none))))

theorem y18(n:Nat)(hn:big<=n)(af:List (Q2))(a7:List (Q5)):LeF some (yBo af a7) (yAV n af a7):=
  (yF λ v57=>(y7 (y9 rfl) (y7 (y9 rfl) (yl λ hx=>by apply yEZ n hn;exact hx))))

noncomputable def yF8(af:List (Q2))(a7:List (Q5))(ac ae:Int)(j42:Bool):Option (Bool×Unit):=
  (bif j42 then ((zb_M af (ac,ae,())).bind λ v43=>((yId af (ac,ae,())).bind λ v44=>(bif v43.snd.fst != (0:Int)then (some ((Bool.false,())))else (bif v44.snd.fst != (0:Int)then (some ((Bool.false,())))else (bif (↑v43.fst.length:Int) != (0:Int)then (some ((Bool.false,())))else ((yO6 v44.fst).bind λ v45=>((yO6 a7).bind λ v46=>((yOu v45.fst v46.fst).bind λ v47=>(bif !v47.fst then (some ((Bool.false,())))else (yBo af a7))))))))))else (yBo af a7))

theorem y1C(n:Nat)(hn:big<=n)(af:List (Q2))(a7:List (Q5))(ac ae:Int)(j42:Bool):LeF some (yF8 af a7 ac ae j42) (yAp n af a7 ac ae j42):=
  (y7 (yF λ v43=>(yF λ v44=>(y7 (y9 rfl) (y7 (y9 rfl) (y7 (y9 rfl) (yF λ v45=>(yF λ v46=>(yF λ v47=>(y7 (y9 rfl) (by apply y18 n hn)))))))))) (by apply y18 n hn))

noncomputable def yCv(af:List (Q2))(a7:List (Q5))(aj:List (Q2))(av:Int)(v25:Q2)(a8:Int)(ah:Bool)(ac ae:Int):Option ((Bool×Unit)⊕(Int×Bool×Int×Int)):=
  (bif v25.snd.fst==[(114:UInt8),(117:UInt8),(108:UInt8),(101:UInt8)]then ((idx v25.snd.snd.snd.fst (1:Int)).bind λ v26=>((idx v25.snd.snd.snd.fst (2:Int)).bind λ v27=>(bif ah then (bif av==(0:Int)then (bif !v25.snd.fst==[(111:UInt8),(118:UInt8),(101:UInt8),(114:UInt8),(114:UInt8),(105:UInt8),(100:UInt8),(101:UInt8)]then (some (Sum.inr ((i64.wrap (a8+(1:Int))),(!v25.snd.fst==[(117:UInt8),(110:UInt8),(100:UInt8),(111:UInt8)]),(v26),(v27))))else (some (Sum.inr ((i64.wrap (a8+(1:Int))),(Bool.false),(v26),(v27)))))else (some (Sum.inr ((i64.wrap (a8+(1:Int))),(Bool.false),(v26),(v27)))))else (some (Sum.inr ((i64.wrap (a8+(1:Int))),(Bool.false),(v26),(v27)))))))else (bif ah then (bif !v25.snd.fst==[(111:UInt8),(118:UInt8),(101:UInt8),(114:UInt8),(114:UInt8),(105:UInt8),(100:UInt8),(101:UInt8)]then (some (Sum.inr ((a8),(!v25.snd.fst==[(117:UInt8),(110:UInt8),(100:UInt8),(111:UInt8)]),(ac),(ae))))else (some (Sum.inr ((a8),(Bool.false),(ac),(ae)))))else (some (Sum.inr ((a8),(Bool.false),(ac),(ae))))))

noncomputable def yC6(af:List (Q2))(a7:List (Q5))(aj:List (Q2))(a8:Int)(ah:Bool)(ac ae:Int):Option (Bool×Unit):=
  (bif ah then (yF8 af a7 ac ae (a8==(1:Int)))else (yF8 af a7 ac ae (Bool.false)))

theorem yEF(n:Nat)(hn:big<=n)(af:List (Q2))(a7:List (Q5))(aj:List (Q2))(a8:Int)(ah:Bool)(ac ae:Int)(hx:List.length (aj) < yB):LeF some (yR (λ aR aZ aB=>yCv af a7 aj aR aZ aB.1 aB.2.1 aB.2.2.1 aB.2.2.2) (λ aB=>yC6 af a7 aj aB.1 aB.2.1 aB.2.2.1 aB.2.2.2) 0 (aj) (a8,ah,ac,ae)) (y7f n n af a7 a8 ah aj (List.length (aj):Int) 0 ac ae):=by
  refine yo (f:=some) (W:=λ b4 aR aB=>y7f n b4 af a7 aB.1 aB.2.1 aj (List.length (aj):Int) aR aB.2.2.1 aB.2.2.2) (λ b4 aR aB=>?_) hx (a8,ah,ac,ae) n (by unfold big at hn;unfold yB at hx;omega)
  show LeF _ _ (yFN n (y7f n b4) af a7 aB.1 aB.2.1 aj (List.length (aj):Int) aR aB.2.2.1 aB.2.2.2)
  exact y7 (yF λ v25=>(y7 (yF λ v26=>(yF λ v27=>(y7 (y7 (y7 (y9 rfl) (y9 rfl)) (y9 rfl)) (y9 rfl)))) (y7 (y7 (y9 rfl) (y9 rfl)) (y9 rfl)))) (y1I (y7 (by apply y1C n hn) (by apply y1C n hn)))

noncomputable def yKJ(aA:List (Q2))(aP aQ:Int)(aw am:List (Q5))(aS:Int)(v21:Q5):Option ((Bool×Unit)⊕Unit):=
  (bif Decidable.decide (v21.fst < aP)then (some (Sum.inl ((Bool.false,()))))else (bif Decidable.decide (v21.fst >= aQ)then (some (Sum.inl ((Bool.false,()))))else (some (Sum.inr ()))))

noncomputable def yHg(aA:List (Q2))(aP aQ:Int)(aw am:List (Q5)):Option (Bool×Unit):=
  (bif decide (List.length (aA) < yB)then yR (λ aR aZ aB=>yCv (aA) (aw) (aA) aR aZ aB.1 aB.2.1 aB.2.2.1 aB.2.2.2) (λ aB=>yC6 (aA) (aw) (aA) aB.1 aB.2.1 aB.2.2.1 aB.2.2.2) 0 (aA) (((0:Int)),(Bool.true),((0:Int)),((0:Int)))else none)

theorem yDe(n:Nat)(hn:big<=n)(aA:List (Q2))(aP aQ:Int)(aw am:List (Q5))(hx:List.length (am) < yB):LeF some (yR (λ aR aZ aB=>yKJ aA aP aQ aw am aR aZ) (λ aB=>yHg aA aP aQ aw am) 0 (am) ()) (y7c n n aA aP aQ aw am (List.length (am):Int) 0):=by
  refine yo (f:=some) (W:=λ b4 aR aB=>y7c n b4 aA aP aQ aw am (List.length (am):Int) aR) (λ b4 aR aB=>?_) hx () n (by unfold big at hn;unfold yB at hx;omega)
  show LeF _ _ (yG4 n (y7c n b4) aA aP aQ aw am (List.length (am):Int) aR)
  exact y7 (yF λ v21=>(y7 (y9 rfl) (y7 (y9 rfl) (y9 rfl)))) (y1I (yl λ hx=>by apply yEF n hn;exact hx))

noncomputable def yJK(aH:List (Q5))(aL:List (Q2))(aM aN:Int)(aO aI ar aE:List (Q5))(ax:Bool)(ay:List (Q5))(aX:Int)(v16:Q5)(aF:List (Q5)):Option ((Bool×Unit)⊕(List (Q5))):=
  (bif Decidable.decide (aF.length+(1:Nat)<=memMax)then (some (Sum.inr (aF++[(v16.fst,v16.snd.fst,v16.snd.snd.fst,())])))else none)

noncomputable def yI2(aH:List (Q5))(aL:List (Q2))(aM aN:Int)(aO aI ar aE:List (Q5))(ax:Bool)(ay aF:List (Q5)):Option (Bool×Unit):=
  (bif ax then (some ((Bool.false,())))else ((yO6 ar).bind λ v17=>(bif Decidable.decide (aF.length+v17.fst.length<=memMax)then ((yO6 aE).bind λ v18=>(bif Decidable.decide ((aF++v17.fst).length+v18.fst.length<=memMax)then ((yOu ay (aF++v17.fst++v18.fst)).bind λ v19=>(bif !v19.fst then (some ((Bool.false,())))else (bif decide (List.length (ar) < yB)then yR (λ aR aZ aB=>yKJ (aL) (aM) (aN) (aO) (ar) aR aZ) (λ aB=>yHg (aL) (aM) (aN) (aO) (ar)) 0 (ar) ()else none)))else none))else none)))

theorem yDp(n:Nat)(hn:big<=n)(aH:List (Q5))(aL:List (Q2))(aM aN:Int)(aO aI ar aE:List (Q5))(ax:Bool)(ay aF:List (Q5))(hx:List.length (aH) < yB):LeF some (yR (λ aR aZ aB=>yJK aH aL aM aN aO aI ar aE ax ay aR aZ aB) (λ aB=>yI2 aH aL aM aN aO aI ar aE ax ay aB) 0 (aH) aF) (y7L n n aH (List.length (aH):Int) 0 aF aL aM aN aO aI ar aE ax ay):=by
  refine yo (f:=some) (W:=λ b4 aR aB=>y7L n b4 aH (List.length (aH):Int) aR aB aL aM aN aO aI ar aE ax ay) (λ b4 aR aB=>?_) hx aF n (by unfold big at hn;unfold yB at hx;omega)
  show LeF _ _ (yFU n (y7L n b4) aH (List.length (aH):Int) aR aB aL aM aN aO aI ar aE ax ay)
  exact y7 (yF λ v16=>(y7 (y9 rfl) y03)) (y1I (y7 (y9 rfl) (yF λ v17=>(y7 (yF λ v18=>(y7 (yF λ v19=>(y7 (y9 rfl) (yl λ hx=>by apply yDe n hn;exact hx))) y03)) y03))))

noncomputable def yAl(aK:List (Q2))(aT:List Int)(aG:List (Q2))(aW:Int)(v2:Q2):Option ((Bool×Unit)⊕Unit):=
  (bif !v2.snd.fst==[(117:UInt8),(110:UInt8),(100:UInt8),(111:UInt8)]then ((idx v2.snd.snd.snd.fst (0:Int)).bind λ v3=>(bif v3==(999999999:Int)then (some (Sum.inl ((Bool.true,()))))else (some (Sum.inr ()))))else (some (Sum.inr ())))

noncomputable def yJL(aK:List (Q2))(aT:List Int)(aG:List (Q2)):Option (Bool×Unit):=
  ((idx aT (0:Int)).bind λ v8=>((idx aT (1:Int)).bind λ v9=>((yOq aK (0:Int) (999999999:Int)).bind λ v10=>((yOq aK (0:Int) (if (i64.wrap v9).tmod (20:Int) < (i64.wrap v8).tmod (20:Int)then (i64.wrap v9).tmod (20:Int)else (i64.wrap v8).tmod (20:Int))).bind λ v11=>((yOq aK (if (i64.wrap v9).tmod (20:Int) < (i64.wrap v8).tmod (20:Int)then (i64.wrap v9).tmod (20:Int)else (i64.wrap v8).tmod (20:Int)) (if (i64.wrap v9).tmod (20:Int) > (i64.wrap v8).tmod (20:Int)then (i64.wrap v9).tmod (20:Int)else (i64.wrap v8).tmod (20:Int))).bind λ v12=>((yOq aK (if (i64.wrap v9).tmod (20:Int) > (i64.wrap v8).tmod (20:Int)then (i64.wrap v9).tmod (20:Int)else (i64.wrap v8).tmod (20:Int)) (999999999:Int)).bind λ v13=>(bif v10.snd.fst != (0:Int)then (some ((Bool.false,())))else (bif v11.snd.fst != (0:Int)then (some ((Bool.false,())))else (bif v12.snd.fst != (0:Int)then (some ((Bool.false,())))else (bif v13.snd.fst != (0:Int)then (some ((Bool.false,())))else (bif Decidable.decide ((↑v10.fst.length:Int) > (24:Int))then (some ((Bool.false,())))else ((yO6 v10.fst).bind λ v14=>(bif decide (List.length (v11.fst) < yB)then yR (λ aR aZ aB=>yJK (v11.fst) (aK) (if (i64.wrap v9).tmod (20:Int) < (i64.wrap v8).tmod (20:Int)then (i64.wrap v9).tmod (20:Int)else (i64.wrap v8).tmod (20:Int)) (if (i64.wrap v9).tmod (20:Int) > (i64.wrap v8).tmod (20:Int)then (i64.wrap v9).tmod (20:Int)else (i64.wrap v8).tmod (20:Int)) (v10.fst) (v11.fst) (v12.fst) (v13.fst) (Bool.false) (v14.fst) aR aZ aB) (λ aB=>yI2 (v11.fst) (aK) (if (i64.wrap v9).tmod (20:Int) < (i64.wrap v8).tmod (20:Int)then (i64.wrap v9).tmod (20:Int)else (i64.wrap v8).tmod (20:Int)) (if (i64.wrap v9).tmod (20:Int) > (i64.wrap v8).tmod (20:Int)then (i64.wrap v9).tmod (20:Int)else (i64.wrap v8).tmod (20:Int)) (v10.fst) (v11.fst) (v12.fst) (v13.fst) (Bool.false) (v14.fst) aB) 0 (v11.fst) ([])else none)))))))))))))

theorem yHQ(n:Nat)(hn:big<=n)(aK:List (Q2))(aT:List Int)(aG:List (Q2))(hx:List.length (aG) < yB):LeF some (yR (λ aR aZ aB=>yAl aK aT aG aR aZ) (λ aB=>yJL aK aT aG) 0 (aG) ()) (yB2 n n aK aT aG (List.length (aG):Int) 0):=by
  refine yo (f:=some) (W:=λ b4 aR aB=>yB2 n b4 aK aT aG (List.length (aG):Int) aR) (λ b4 aR aB=>?_) hx () n (by unfold big at hn;unfold yB at hx;omega)
  show LeF _ _ (yJC n (yB2 n b4) aK aT aG (List.length (aG):Int) aR)
  exact y7 (yF λ v2=>(y7 (yF λ v3=>(y7 (y9 rfl) (y9 rfl))) (y9 rfl))) (y1I (yF λ v8=>(yF λ v9=>(yF λ v10=>(yF λ v11=>(yF λ v12=>(yF λ v13=>(y7 (y9 rfl) (y7 (y9 rfl) (y7 (y9 rfl) (y7 (y9 rfl) (y7 (y9 rfl) (yF λ v14=>(yl λ hx=>by apply yDp n hn;exact hx))))))))))))))

noncomputable def zn_M(l:List (Q2))(np:List Int):Option (Bool×Unit):=
  ((yL6 l (24:Int)).bind λ v0=>(bif !v0.fst then (some ((Bool.true,())))else (bif decide (List.length (l) < yB)then yR (λ aR aZ aB=>yAl (l) (np) (l) aR aZ) (λ aB=>yJL (l) (np) (l)) 0 (l) ()else none)))

noncomputable def zn_e:Entry:={ f:=9,args:=zn_a,rS:=zn_r,m:=λ x=>zn_M x.1 x.2.1 }
theorem ySD:FnOK Tryz.prog zn_e:=yMl (g:=zn_g) (fn:=Tryz.f9) (yE yPV (yE yP1 (yE yMw (yE yMp (yE yMU (yE yPN (yE yIW (yE yQN eNil)))))))) (λ _=>(y0V yOw iNil)) yS7 λ n hn x=>(yF λ v0=>(y7 (y9 rfl) (yl λ hx=>by apply yHQ n hn;exact hx)))

end Go.Tw
