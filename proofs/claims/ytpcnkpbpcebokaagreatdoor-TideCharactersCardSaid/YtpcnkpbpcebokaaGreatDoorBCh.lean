/- Models of the program's functions,by program (gen.py),and what they compute. -/
import Derived.Test.YtpcnkpbpcebokaaGreatDoorBT
import Derived.Test.YtpcnkpbpcebokaaGreatDoorB0
import Derived.Test.YtpcnkpbpcebokaaGreatDoorBS
import Derived.Test.YtpcnkpbpcebokaaGreatDoorLQ
import Derived.Test.YtpcnkpbpcebokaaGreatDoorLR
import Derived.Test.YtpcnkpbpcebokaaGreatDoorBA
import Derived.Test.YtpcnkpbpcebokaaGreatDoorBC
import Derived.Test.YtpcnkpbpcebokaaGreatDoorBD
set_option linter.all false

set_option maxRecDepth 1000000
namespace Go.Tw
open Go.Vx Go.Vx.B Go.Proofs
/-! ### tidewaylaw02.TideCharacters -/
abbrev zP_a:Ty:=.pair t94 (.pair t22 (.pair t3 .unit))
abbrev zP_r:Ty:=.pair t4 .unit
noncomputable def zP_g:G:={ T:=T,E:=[z0N_e,z0Q_e,zp_e,z0B_e,z0o_e,zW_e,z0R_e,zx_e,zJ_e,zc_e,z0P_e,zn_e,z0d_e,zL_e,zu_e],muts:=[],fz:=[] }
def zP_k:List (List Nat):=[[1,2,7,8,9,10,42,43,44]]
noncomputable def yV0(n:Nat):Ann:={ keep:=zP_k,fuel:=n,inl:=[],deep:=0 }
noncomputable def yCm(n:Nat)(r14:List (Q3)→Int→List Int→Int→Int→List Int→List (Q3)→Int→Int→Option (Bool×Unit))(ak:List (Q3))(a8:Int)(am:List Int)(ai:Int)(ac:Int)(a7:List Int)(af:List (Q3))(av:Int)(ar:Int):Option (Bool×Unit) :=
  (bif Decidable.decide (ar < av)then (Option.bind (Go.Vx.idx af ar) fun v15=>(Option.bind (Go.Tw.zx_M (v15.fst,v15.snd.fst,v15.snd.snd.fst,()) a8) fun v16=>(Option.bind (Go.Tw.zJ_M [(v15.fst,v15.snd.fst,v15.snd.snd.fst,())]) fun v17=>(Option.bind (Go.Tw.y70 [v17.fst,(Go.Tw.zc a8 (0:Int) (100000:Int)).fst]) fun v18=>(bif v18.fst==(0:Int)then (Option.bind (Go.Tw.zn_M (v15.fst,v15.snd.fst,v15.snd.snd.fst,()) a8) fun v19=>(bif v16.snd.fst != v18.fst then Option.some (Bool.false,())else (bif !Go.Vx.eqV ((Go.Vx.Ty.int Go.IntKind.i64).pair ((Go.Vx.Ty.int Go.IntKind.i64).pair Go.Vx.Ty.unit)) (v16.fst.fst,v16.fst.snd.fst,()) (v19.fst.fst,v19.fst.snd.fst,())then Option.some (Bool.false,())else r14 ak a8 am ai ac a7 af av (Go.IntKind.i64.wrap (ar+(1:Int))))))else (bif v16.snd.fst != v18.fst then Option.some (Bool.false,())else (bif !Go.Vx.eqV ((Go.Vx.Ty.int Go.IntKind.i64).pair ((Go.Vx.Ty.int Go.IntKind.i64).pair Go.Vx.Ty.unit)) (v16.fst.fst,v16.fst.snd.fst,()) ((0:Int),(0:Int),())then Option.some (Bool.false,())else r14 ak a8 am ai ac a7 af av (Go.IntKind.i64.wrap (ar+(1:Int))))))))))else (Option.bind (Go.Tw.yF6 ak) fun v31=>(Option.bind (Go.Tw.zL_M v31.fst) fun v32=>(Option.bind (Go.Tw.zJ_M ak) fun v33=>(bif v32.fst==v33.fst then (bif ai==ac then (Option.bind (Go.Tw.zu_M am a7) fun v34=>Option.some (v34.fst,()))else Option.some (Bool.false,()))else Option.some (Bool.false,()))))))

noncomputable def y6L(n:Nat)(k:Nat)(ak:List (Q3))(a8:Int)(am:List Int)(ai:Int)(ac:Int)(a7:List Int)(af:List (Q3))(av:Int)(ar:Int):Option (Bool×Unit) :=
  iter (fun r y=>yCm n (fun ak a8 am ai ac a7 af av ar=>r ((ak,(a8,(am,(ai,(ac,(a7,(af,(av,(ar,()))))))))),((),()))) y.1.1 y.1.2.1 y.1.2.2.1 y.1.2.2.2.1 y.1.2.2.2.2.1 y.1.2.2.2.2.2.1 y.1.2.2.2.2.2.2.1 y.1.2.2.2.2.2.2.2.1 y.1.2.2.2.2.2.2.2.2.1) k ((ak,(a8,(am,(ai,(ac,(a7,(af,(av,(ar,()))))))))),((),()))

noncomputable def yDT(n:Nat)(r40:List (Q3)→Int→List Int→Int→Int→List (Q3)→Int→Int→Option (Bool×Unit))(al:List (Q3))(aa:Int)(aq:List Int)(aj:Int)(ae:Int)(ah:List (Q3))(aw:Int)(au:Int):Option (Bool×Unit) :=
  (bif Decidable.decide (au < aw)then (Option.bind (Go.Vx.idx ah au) fun v41=>(Option.bind (Go.Tw.zx_M (v41.fst,v41.snd.fst,v41.snd.snd.fst,()) aa) fun v42=>(Option.bind (Go.Tw.zJ_M [(v41.fst,v41.snd.fst,v41.snd.snd.fst,())]) fun v43=>(Option.bind (Go.Tw.y70 [v43.fst,(Go.Tw.zc aa (0:Int) (100000:Int)).fst]) fun v44=>(bif v44.fst==(0:Int)then (Option.bind (Go.Tw.zn_M (v41.fst,v41.snd.fst,v41.snd.snd.fst,()) aa) fun v45=>(bif v42.snd.fst != v44.fst then Option.some (Bool.false,())else (bif !Go.Vx.eqV ((Go.Vx.Ty.int Go.IntKind.i64).pair ((Go.Vx.Ty.int Go.IntKind.i64).pair Go.Vx.Ty.unit)) (v42.fst.fst,v42.fst.snd.fst,()) (v45.fst.fst,v45.fst.snd.fst,())then Option.some (Bool.false,())else r40 al aa aq aj ae ah aw (Go.IntKind.i64.wrap (au+(1:Int))))))else (bif v42.snd.fst != v44.fst then Option.some (Bool.false,())else (bif !Go.Vx.eqV ((Go.Vx.Ty.int Go.IntKind.i64).pair ((Go.Vx.Ty.int Go.IntKind.i64).pair Go.Vx.Ty.unit)) (v42.fst.fst,v42.fst.snd.fst,()) ((0:Int),(0:Int),())then Option.some (Bool.false,())else r40 al aa aq aj ae ah aw (Go.IntKind.i64.wrap (au+(1:Int))))))))))else (Option.bind (Go.Tw.yF6 al) fun v57=>(Option.bind (Go.Tw.zL_M v57.fst) fun v58=>(Option.bind (Go.Tw.zJ_M al) fun v59=>(bif v58.fst==v59.fst then (bif aj==ae then (Option.bind (Go.Tw.zu_M aq []) fun v60=>Option.some (v60.fst,()))else Option.some (Bool.false,()))else Option.some (Bool.false,()))))))

noncomputable def y6R(n:Nat)(k:Nat)(al:List (Q3))(aa:Int)(aq:List Int)(aj:Int)(ae:Int)(ah:List (Q3))(aw:Int)(au:Int):Option (Bool×Unit) :=
  iter (fun r y=>yDT n (fun al aa aq aj ae ah aw au=>r ((al,(aa,(aq,(aj,(ae,(ah,(aw,(au,())))))))),((),()))) y.1.1 y.1.2.1 y.1.2.2.1 y.1.2.2.2.1 y.1.2.2.2.2.1 y.1.2.2.2.2.2.1 y.1.2.2.2.2.2.2.1 y.1.2.2.2.2.2.2.2.1) k ((al,(aa,(aq,(aj,(ae,(ah,(aw,(au,())))))))),((),()))

noncomputable def zP_m(n:Nat)(rp:Q1)(l:List (Q3))(tick:Int):Option (Bool×Unit) :=
  (Option.bind (Go.Tw.yNG) fun v0=>(bif !v0.fst then (Option.bind (Go.Tw.yNG) fun v6=>Option.some (v6.fst,()))else (bif !(Go.Tw.z0Q rp).fst then (Option.bind (Go.Tw.yNG) fun v7=>Option.some (v7.fst,()))else (Option.bind (Go.Tw.zp_M l) fun v1=>(bif !v1.fst then (Option.bind (Go.Tw.yNG) fun v8=>Option.some (v8.fst,()))else (Option.bind (Go.Tw.yI3 rp) fun v9=>(Option.bind (Go.Tw.yMx v9.fst) fun v10=>(Option.bind (Go.Tw.zW_M rp) fun v11=>(bif v11.fst==(0:Int)then (Option.bind (Go.Tw.yFI rp) fun v12=>(y6L n n (l) (tick) (v10.fst) (v10.snd.fst) (v11.fst) (v12.fst) (l) ((↑l.length:Int)) ((0:Int))))else (y6R n n (l) (tick) (v10.fst) (v10.snd.fst) (v11.fst) (l) ((↑l.length:Int)) ((0:Int))))))))))))

theorem yWk(n:Nat)(x:zP_a.den):runF zP_g (yV0 n) Tryz.f12 zP_a zP_r x=zP_m n x.1 x.2.1 x.2.2.1:=by kernel_rfl

noncomputable def yDp(ak:List (Q3))(a8:Int)(am:List Int)(ai:Int)(ac:Int)(a7:List Int)(af:List (Q3))(ar:Int)(v15:Q3):Option ((Bool×Unit)⊕Unit) :=
  (Option.bind (Go.Tw.zx_M (v15.fst,v15.snd.fst,v15.snd.snd.fst,()) a8) fun v16=>(Option.bind (Go.Tw.zJ_M [(v15.fst,v15.snd.fst,v15.snd.snd.fst,())]) fun v17=>(Option.bind (Go.Tw.y70 [v17.fst,(Go.Tw.zc a8 (0:Int) (100000:Int)).fst]) fun v18=>(bif v18.fst==(0:Int)then (Option.bind (Go.Tw.zn_M (v15.fst,v15.snd.fst,v15.snd.snd.fst,()) a8) fun v19=>(bif v16.snd.fst != v18.fst then (some (Sum.inl ((Bool.false,()))))else (bif !Go.Vx.eqV ((Go.Vx.Ty.int Go.IntKind.i64).pair ((Go.Vx.Ty.int Go.IntKind.i64).pair Go.Vx.Ty.unit)) (v16.fst.fst,v16.fst.snd.fst,()) (v19.fst.fst,v19.fst.snd.fst,())then (some (Sum.inl ((Bool.false,()))))else (some (Sum.inr ())))))else (bif v16.snd.fst != v18.fst then (some (Sum.inl ((Bool.false,()))))else (bif !Go.Vx.eqV ((Go.Vx.Ty.int Go.IntKind.i64).pair ((Go.Vx.Ty.int Go.IntKind.i64).pair Go.Vx.Ty.unit)) (v16.fst.fst,v16.fst.snd.fst,()) ((0:Int),(0:Int),())then (some (Sum.inl ((Bool.false,()))))else (some (Sum.inr ()))))))))

noncomputable def yAh(ak:List (Q3))(a8:Int)(am:List Int)(ai:Int)(ac:Int)(a7:List Int)(af:List (Q3)):Option (Bool×Unit) :=
  (Option.bind (Go.Tw.yF6 ak) fun v31=>(Option.bind (Go.Tw.zL_M v31.fst) fun v32=>(Option.bind (Go.Tw.zJ_M ak) fun v33=>(bif v32.fst==v33.fst then (bif ai==ac then (Option.bind (Go.Tw.zu_M am a7) fun v34=>(some ((v34.fst,()))))else (some ((Bool.false,()))))else (some ((Bool.false,())))))))

theorem yBn(n:Nat)(hn:big≤n)(ak:List (Q3))(a8:Int)(am:List Int)(ai:Int)(ac:Int)(a7:List Int)(af:List (Q3))(hx:List.length (af) < lenMax):LeF some (yX (fun ax az ay=>yDp ak a8 am ai ac a7 af ax az) (fun ay=>yAh ak a8 am ai ac a7 af) 0 (af) ()) (y6L n n ak a8 am ai ac a7 af (List.length (af):Int) 0):=by
  refine yk (f:=some) (W:=fun aA ax ay=>y6L n aA ak a8 am ai ac a7 af (List.length (af):Int) ax) (body:=(fun ax az ay=>yDp ak a8 am ai ac a7 af ax az)) (fin:=(fun ay=>yAh ak a8 am ai ac a7 af)) (fun aA ax ay=>?_) hx () n (by unfold big at hn;unfold lenMax at hx;omega)
  show LeF _ _ (yCm n (y6L n aA) ak a8 am ai ac a7 af (List.length (af):Int) ax)
  exact yA (yE fun v15=>(yE fun v16=>(yE fun v17=>(yE fun v18=>(yA (yE fun v19=>(yA (y7 rfl) (yA (y7 rfl) (y7 rfl)))) (yA (y7 rfl) (yA (y7 rfl) (y7 rfl)))))))) (y0a (yE fun v31=>(yE fun v32=>(yE fun v33=>(yA (yA (yE fun v34=>(y7 rfl)) (y7 rfl)) (y7 rfl))))))

noncomputable def yDc(al:List (Q3))(aa:Int)(aq:List Int)(aj:Int)(ae:Int)(ah:List (Q3))(au:Int)(v41:Q3):Option ((Bool×Unit)⊕Unit) :=
  (Option.bind (Go.Tw.zx_M (v41.fst,v41.snd.fst,v41.snd.snd.fst,()) aa) fun v42=>(Option.bind (Go.Tw.zJ_M [(v41.fst,v41.snd.fst,v41.snd.snd.fst,())]) fun v43=>(Option.bind (Go.Tw.y70 [v43.fst,(Go.Tw.zc aa (0:Int) (100000:Int)).fst]) fun v44=>(bif v44.fst==(0:Int)then (Option.bind (Go.Tw.zn_M (v41.fst,v41.snd.fst,v41.snd.snd.fst,()) aa) fun v45=>(bif v42.snd.fst != v44.fst then (some (Sum.inl ((Bool.false,()))))else (bif !Go.Vx.eqV ((Go.Vx.Ty.int Go.IntKind.i64).pair ((Go.Vx.Ty.int Go.IntKind.i64).pair Go.Vx.Ty.unit)) (v42.fst.fst,v42.fst.snd.fst,()) (v45.fst.fst,v45.fst.snd.fst,())then (some (Sum.inl ((Bool.false,()))))else (some (Sum.inr ())))))else (bif v42.snd.fst != v44.fst then (some (Sum.inl ((Bool.false,()))))else (bif !Go.Vx.eqV ((Go.Vx.Ty.int Go.IntKind.i64).pair ((Go.Vx.Ty.int Go.IntKind.i64).pair Go.Vx.Ty.unit)) (v42.fst.fst,v42.fst.snd.fst,()) ((0:Int),(0:Int),())then (some (Sum.inl ((Bool.false,()))))else (some (Sum.inr ()))))))))

noncomputable def yAP(al:List (Q3))(aa:Int)(aq:List Int)(aj:Int)(ae:Int)(ah:List (Q3)):Option (Bool×Unit) :=
  (Option.bind (Go.Tw.yF6 al) fun v57=>(Option.bind (Go.Tw.zL_M v57.fst) fun v58=>(Option.bind (Go.Tw.zJ_M al) fun v59=>(bif v58.fst==v59.fst then (bif aj==ae then (Option.bind (Go.Tw.zu_M aq []) fun v60=>(some ((v60.fst,()))))else (some ((Bool.false,()))))else (some ((Bool.false,())))))))

theorem yBy(n:Nat)(hn:big≤n)(al:List (Q3))(aa:Int)(aq:List Int)(aj:Int)(ae:Int)(ah:List (Q3))(hx:List.length (ah) < lenMax):LeF some (yX (fun ax az ay=>yDc al aa aq aj ae ah ax az) (fun ay=>yAP al aa aq aj ae ah) 0 (ah) ()) (y6R n n al aa aq aj ae ah (List.length (ah):Int) 0):=by
  refine yk (f:=some) (W:=fun aA ax ay=>y6R n aA al aa aq aj ae ah (List.length (ah):Int) ax) (body:=(fun ax az ay=>yDc al aa aq aj ae ah ax az)) (fin:=(fun ay=>yAP al aa aq aj ae ah)) (fun aA ax ay=>?_) hx () n (by unfold big at hn;unfold lenMax at hx;omega)
  show LeF _ _ (yDT n (y6R n aA) al aa aq aj ae ah (List.length (ah):Int) ax)
  exact yA (yE fun v41=>(yE fun v42=>(yE fun v43=>(yE fun v44=>(yA (yE fun v45=>(yA (y7 rfl) (yA (y7 rfl) (y7 rfl)))) (yA (y7 rfl) (yA (y7 rfl) (y7 rfl)))))))) (y0a (yE fun v57=>(yE fun v58=>(yE fun v59=>(yA (yA (yE fun v60=>(y7 rfl)) (y7 rfl)) (y7 rfl))))))

noncomputable def zP_M(rp:Q1)(l:List (Q3))(tick:Int):Option (Bool×Unit) :=
  (Option.bind (Go.Tw.yNG) fun v0=>(bif !v0.fst then (Option.bind (Go.Tw.yNG) fun v6=>(some ((v6.fst,()))))else (bif !(Go.Tw.z0Q rp).fst then (Option.bind (Go.Tw.yNG) fun v7=>(some ((v7.fst,()))))else (Option.bind (Go.Tw.zp_M l) fun v1=>(bif !v1.fst then (Option.bind (Go.Tw.yNG) fun v8=>(some ((v8.fst,()))))else (Option.bind (Go.Tw.yI3 rp) fun v9=>(Option.bind (Go.Tw.yMx v9.fst) fun v10=>(Option.bind (Go.Tw.zW_M rp) fun v11=>(bif v11.fst==(0:Int)then (Option.bind (Go.Tw.yFI rp) fun v12=>(bif decide (List.length (l) < lenMax)then yX (fun ax az ay=>yDp (l) (tick) (v10.fst) (v10.snd.fst) (v11.fst) (v12.fst) (l) ax az) (fun ay=>yAh (l) (tick) (v10.fst) (v10.snd.fst) (v11.fst) (v12.fst) (l)) 0 (l) ()else none))else (bif decide (List.length (l) < lenMax)then yX (fun ax az ay=>yDc (l) (tick) (v10.fst) (v10.snd.fst) (v11.fst) (l) ax az) (fun ay=>yAP (l) (tick) (v10.fst) (v10.snd.fst) (v11.fst) (l)) 0 (l) ()else none))))))))))

theorem yPr(rp:Q1)(l:List (Q3))(tick:Int)(y:Bool×Unit)(h:zP_M rp l tick=some y):∃ n,zP_m n rp l tick=some y :=
  ⟨big,LeF.top (show LeF some (zP_M rp l tick) (zP_m big rp l tick)from (fun (n:Nat) (hn:big≤n)=>show LeF some (zP_M rp l tick) (zP_m n rp l tick)from (yE fun v0=>(yA (yE fun v6=>(y7 rfl)) (yA (yE fun v7=>(y7 rfl)) (yE fun v1=>(yA (yE fun v8=>(y7 rfl)) (yE fun v9=>(yE fun v10=>(yE fun v11=>(yA (yE fun v12=>(yh fun hx=>by apply yBn n hn;exact hx)) (yh fun hx=>by apply yBy n hn;exact hx))))))))))) big (Nat.le_refl _)) h⟩
noncomputable def zP_e:Entry:={ f:=12,args:=zP_a,ress:=zP_r,m:=fun x=>zP_M x.1 x.2.1 x.2.2.1 }
theorem yYT:FnOK Tryz.prog zP_e:=yK (g:=zP_g) (fn:=Tryz.f12) yD yJ (y8 yRk (y8 ySc (y8 yWh (y8 yUY (y8 yVv (y8 yWd (y8 yPw (y8 yW3 (y8 yXh (y8 yOd (y8 yFp (y8 yWj (y8 yQi (y8 yMk (y8 yS2 eNil))))))))))))))) (by kernel_rfl) (by kernel_rfl) (by kernel_rfl) (fun x y h=>let ⟨n,hn⟩:=yPr x.1 x.2.1 x.2.2.1 y h;⟨yV0 n,iNil,(yWk n x).trans hn⟩)

end Go.Tw
