import Derived.Test.YtemgjgkbgkeknaaGreatDoorBT
import Derived.Test.YtemgjgkbgkeknaaGreatDoorB0
import Derived.Test.YtemgjgkbgkeknaaGreatDoorSB
import Derived.Test.YtemgjgkbgkeknaaGreatDoorLZ
import Derived.Test.YtemgjgkbgkeknaaGreatDoorBA
set_option linter.all false
open Go.IntKind (i64)
section
set_option maxRecDepth 1000000
namespace Go.Tw
open Go.Vx Go.Vx.B Go.Proofs
noncomputable section
def yLU(n:Nat)(r3:List UInt8->Option (List UInt8×Unit))(aG:List UInt8):Option (List UInt8×Unit):=
  (bif decide ((↑aG.length:Int) < 7)then (bif decide ((1:Nat)+aG.length < strMax)then r3 ([(48:UInt8)]++aG)else none)else some (aG,()))
def yL0(n k:Nat)(aG:List UInt8):Option (List UInt8×Unit):=
  iter (λ r y=>yLU n (λ aG=>r ((aG,()),((),()))) y.1.1) k ((aG,()),((),()))
def yLd(n:Nat)(r0:List UInt8->Int->Int->Option (List UInt8×Unit))(aO:List UInt8)(aS aP:Int):Option (List UInt8×Unit):=
  (bif decide (aP < (↑aO.length:Int))then ((idx aO aP).bind λ v1=>r0 aO ((i64.wrap (i64.wrap ((317:Int) * aS)+i64.wrap (↑v1.toNat:Int))).tmod (9999877:Int)) (i64.wrap (aP+1)))else ((yQj aS).bind λ v2=>(yL0 n n (v2.1))))
def yKj(n k:Nat)(aO:List UInt8)(aS aP:Int):Option (List UInt8×Unit):=
  iter (λ r y=>yLd n (λ aO aS aP=>r ((aO,(aS,(aP,()))),((),()))) y.1.1 y.1.2.1 y.1.2.2.1) k ((aO,(aS,(aP,()))),((),()))
def yPF(n:Nat)(s:List UInt8):Option (List UInt8×Unit):=
  (yKj n n (s) ((1:Int)) ((0:Int)))
def ySB(s:List UInt8):Option (List UInt8×Unit):=yPF 1000 s
abbrev z0m_e:Entry:={ f:=61,args:=.pair t9 .unit,rS:=.pair t9 .unit,m:=λ x=>ySB x.1 }
theorem yQ1:FnOK Tryz.prog z0m_e:=fF 1000 Tryz.f61 (λ n x=>yPF n x.1) [[0,3,4],[5]] (yE yP2 eNil)
abbrev yOS:Ty:=.pair t41 (.pair t56 .unit)
abbrev yPS:Ty:=.pair t41 (.pair t3 .unit)
def yPO:G:={ T:=T,E:=[z0Q_e,zy_e],mU:=[2,59],fz:=[],sep:=[3] }
def yR1:List (List Nat):=[]
def yQC(n:Nat):Ann:={ keep:=yR1,fuel:=n,inl:=[],deep:=0 }
def y8j(n:Nat)(rp:Q1)(e:Q2):Option ((Q1)×Int×Unit):=
  ((idx e.2.2.2.1 (1:Int)).bind λ v16=>(bif decide (v16 > 4096)then some (rp,(3:Int),())else ((idx e.2.2.1 (0:Int)).bind λ v17=>(bif v17==[(115:UInt8),101,97]then ((idx e.2.2.2.1 (1:Int)).bind λ v18=>some ((rp.1,rp.2.1,rp.2.2.1,rp.2.2.2.1,v18,rp.2.2.2.2.2),(0:Int),()))else ((idx e.2.2.2.1 (1:Int)).bind λ v19=>some ((rp.1,rp.2.1,rp.2.2.1,rp.2.2.2.1,rp.2.2.2.2.1,v19,rp.2.2.2.2.2.2),(0:Int),()))))))
def yHH(n:Nat)(rp:Q1)(e:Q2):Option ((Q1)×Int×Unit):=
  (bif e.2.1==[(103:UInt8),97,116,101]then ((idx e.2.2.1 (0:Int)).bind λ v0=>((yDl rp v0).bind λ v1=>(bif decide (v1.1 >= 0)then some (rp,(9:Int),())else (bif decide ((↑rp.2.2.2.2.2.2.2.2.1.length:Int) >= 16)then some (rp,(5:Int),())else (bif decide ((0:Nat)+rp.2.2.2.2.2.2.2.2.1.length<=memMax)then ((idx e.2.2.1 (0:Int)).bind λ v2=>(bif decide (rp.2.2.2.2.2.2.2.2.1.length+(1:Nat)<=memMax)then some ((rp.1,rp.2.1,rp.2.2.1,rp.2.2.2.1,rp.2.2.2.2.1,rp.2.2.2.2.2.1,rp.2.2.2.2.2.2.1,rp.2.2.2.2.2.2.2.1,rp.2.2.2.2.2.2.2.2.1++[(v2,Bool.false,(0:Int),[],[],())],rp.2.2.2.2.2.2.2.2.2),(0:Int),())else none))else none)))))else (bif e.2.1==[(114:UInt8),117,108,101]then ((idx e.2.2.2.1 (1:Int)).bind λ v3=>((idx e.2.2.2.1 (2:Int)).bind λ v4=>(bif (zy (v3,v4,())).1 != 0 then some (rp,(zy (v3,v4,())).1,())else some ((rp.1,(v3,v4,()),rp.2.2),(0:Int),()))))else (bif e.2.1==[(102:UInt8),111,114,101,99,97,115,116]then ((idx e.2.2.2.1 (2:Int)).bind λ v5=>(bif decide (v5 > 4096)then some (rp,(3:Int),())else ((idx e.2.2.2.1 (1:Int)).bind λ v6=>(bif decide (v6<=rp.2.2.1)then some (rp,(21:Int),())else ((idx e.2.2.2.1 (1:Int)).bind λ v7=>((idx e.2.2.2.1 (2:Int)).bind λ v8=>some ((rp.1,rp.2.1,v7,v8,rp.2.2.2.2),(0:Int),())))))))else ((idx e.2.2.1 (0:Int)).bind λ v9=>(bif !v9==[(115:UInt8),101,97]then ((idx e.2.2.1 (0:Int)).bind λ v10=>(bif !v10==[(98:UInt8),97,115,105,110]then some (rp,(13:Int),())else (y8j n rp e)))else (y8j n rp e))))))
theorem yP6(n:Nat)(x:yOS.den):runF yPO (yQC n) Tryz.f76 yOS yPS x=yHH n x.1 x.2.1:=by kernel_rfl
def y9B(rp:Q1)(e:Q2):Option ((Q1)×Int×Unit):=yHH 0 rp e
def z0k_e:Entry:={ f:=76,args:=yOS,rS:=yPS,m:=λ x=>y9B x.1 x.2.1 }
theorem yPm:FnOK Tryz.prog z0k_e:=yIV 0 (g:=yPO) (fn:=Tryz.f76) (yE yHl (yE yQv eNil)) (λ _=>iNil) yP6
def yQH(n:Nat)(e:Q2):Option (List UInt8×Unit):=
  ((yPY e).bind λ v0=>(bif decide (v0.1.length+(1:Nat) < strMax)then ((zx_M v0.1).bind λ v1=>(bif decide ((v0.1++[(35:UInt8)]).length+v1.1.length < strMax)then (bif decide ((v0.1++[(35:UInt8)]++v1.1).length+(1:Nat) < strMax)then some (v0.1++[(35:UInt8)]++v1.1++[(10:UInt8)],())else none)else none))else none))
def yRF(e:Q2):Option (List UInt8×Unit):=yQH 0 e
abbrev z0C_e:Entry:={ f:=79,args:=.pair t56 .unit,rS:=.pair t9 .unit,m:=λ x=>yRF x.1 }
theorem yQ3:FnOK Tryz.prog z0C_e:=fF 0 Tryz.f79 (λ n x=>yQH n x.1) [] (yE yPG (yE yQm eNil))
def zZ_m(n:Nat)(np:Int):Option (Int×Unit):=
  some ((z0E np (0:Int) (999999999:Int)).1,())
def zZ(np:Int):(Int×Unit):=
  ((z0E np (0:Int) (999999999:Int)).1,())
abbrev zZ_M (np:Int):Option (Int×Unit):=some (zZ np)
abbrev zZ_e:Entry:={ f:=104,args:=.pair t3 .unit,rS:=.pair t29 .unit,m:=λ x=>zZ_M x.1 }
theorem yRW:FnOK Tryz.prog zZ_e:=fF (hm:=by intro x;show some (zZ x.1)=zZ_m 0 x.1;unfold zZ_m zZ;first|rfl|(simp only[yH];done)|(simp only[yH];rfl)) 0 Tryz.f104 (λ n x=>zZ_m n x.1) [] (yE yFZ eNil)
def zL_m(n:Nat)(rp:Q1)(thing:List UInt8):Option (Int×Unit):=
  ((zS_M rp thing).bind λ v0=>(bif decide (v0.1 >= 0)then ((idx rp.2.2.2.2.2.2.2.2.2.2.1 v0.1).bind λ v1=>some (v1.2.1,()))else some ((0:Int),())))
def zL_M(rp:Q1)(thing:List UInt8):Option (Int×Unit):=zL_m 0 rp thing
abbrev zL_e:Entry:={ f:=109,args:=.pair t60 (.pair t9 .unit),rS:=.pair t3 .unit,m:=λ x=>zL_M x.1 x.2.1 }
theorem yS2:FnOK Tryz.prog zL_e:=fF 0 Tryz.f109 (λ n x=>zL_m n x.1 x.2.1) [] (yE yPh eNil)
def zd_m(n:Nat)(np:Int):Option (Int×Unit):=
  some ((z0E np (0:Int) (4096:Int)).1,())
def zd(np:Int):(Int×Unit):=
  ((z0E np (0:Int) (4096:Int)).1,())
abbrev zd_M (np:Int):Option (Int×Unit):=some (zd np)
abbrev zd_e:Entry:={ f:=114,args:=.pair t3 .unit,rS:=.pair t29 .unit,m:=λ x=>zd_M x.1 }
theorem yP9:FnOK Tryz.prog zd_e:=fF (hm:=by intro x;show some (zd x.1)=zd_m 0 x.1;unfold zd_m zd;first|rfl|(simp only[yH];done)|(simp only[yH];rfl)) 0 Tryz.f114 (λ n x=>zd_m n x.1) [] (yE yFZ eNil)
def il182:Inl:={ f:=182,fn:=Tryz.f182,keep:=[],mU:=[],fz:=[] }
theorem yLD:y0B Tryz.prog il182:=⟨by kernel_rfl,by kernel_rfl,λ e0 h=>by cases (show (none:Option LibK)=some e0 from h)⟩
def il212:Inl:={ f:=212,fn:=Tryz.f212,keep:=[[0,2,7,8,9]],mU:=[],fz:=[] }
theorem yM4:y0B Tryz.prog il212:=⟨by kernel_rfl,by kernel_rfl,λ e0 h=>by cases (show (none:Option LibK)=some e0 from h)⟩
def yIA(n:Nat)(r0:((Q3)×Unit->Option (Bool×Unit))->List (Q3)->Int->Int->Q1->((Q3)×Unit->Option (Bool×Unit))->Q1->Q1->((Q3)×Unit->Option (Bool×Unit))->Q1->((Q3)×Unit->Option (Bool×Unit))->List (List UInt8)->Q1->((Q3)×Unit->Option (Bool×Unit))->Q1->Q1->((Q3)×Unit->Option (Bool×Unit))->Q1->((Q3)×Unit->Option (Bool×Unit))->Option (List (List UInt8)×Unit))(aH:(Q3)×Unit->Option (Bool×Unit))(aD:List (Q3))(aQ aN:Int)(aw:Q1)(ax:(Q3)×Unit->Option (Bool×Unit))(ay az:Q1)(aA:(Q3)×Unit->Option (Bool×Unit))(au:Q1)(av:(Q3)×Unit->Option (Bool×Unit))(aF:List (List UInt8))(aI:Q1)(aJ:(Q3)×Unit->Option (Bool×Unit))(aK aL:Q1)(aM:(Q3)×Unit->Option (Bool×Unit))(aB:Q1)(aC:(Q3)×Unit->Option (Bool×Unit)):Option (List (List UInt8)×Unit):=
  (bif decide (aN < aQ)then ((idx aD aN).bind λ v1=>((aH (v1,())).bind λ v2=>(bif v2.1 then (bif decide (aF.length+(1:Nat)<=memMax)then r0 aH aD aQ (i64.wrap (aN+1)) aw ax ay az aA au av (aF++[(zp v1).1]) aI aJ aK aL aM aB aC else none)else r0 aH aD aQ (i64.wrap (aN+1)) aw ax ay az aA au av aF aI aJ aK aL aM aB aC)))else some (aF,()))
def yAs(n k:Nat)(aH:(Q3)×Unit->Option (Bool×Unit))(aD:List (Q3))(aQ aN:Int)(aw:Q1)(ax:(Q3)×Unit->Option (Bool×Unit))(ay az:Q1)(aA:(Q3)×Unit->Option (Bool×Unit))(au:Q1)(av:(Q3)×Unit->Option (Bool×Unit))(aF:List (List UInt8))(aI:Q1)(aJ:(Q3)×Unit->Option (Bool×Unit))(aK aL:Q1)(aM:(Q3)×Unit->Option (Bool×Unit))(aB:Q1)(aC:(Q3)×Unit->Option (Bool×Unit)):Option (List (List UInt8)×Unit):=
  iter (λ r y=>yIA n (λ aH aD aQ aN aw ax ay az aA au av aF aI aJ aK aL aM aB aC=>r ((aH,(aD,(aQ,(aN,())))),(((aw,(ax,(ay,(az,(aA,((au,(av,())),())))))),((),(aF,()))),(aI,(aJ,(aK,(aL,(aM,((aB,(aC,())),()))))))))) y.1.1 y.1.2.1 y.1.2.2.1 y.1.2.2.2.1 y.2.1.1.1 y.2.1.1.2.1 y.2.1.1.2.2.1 y.2.1.1.2.2.2.1 y.2.1.1.2.2.2.2.1 y.2.1.1.2.2.2.2.2.1.1 y.2.1.1.2.2.2.2.2.1.2.1 y.2.1.2.2.1 y.2.2.1 y.2.2.2.1 y.2.2.2.2.1 y.2.2.2.2.2.1 y.2.2.2.2.2.2.1 y.2.2.2.2.2.2.2.1.1 y.2.2.2.2.2.2.2.1.2.1) k ((aH,(aD,(aQ,(aN,())))),(((aw,(ax,(ay,(az,(aA,((au,(av,())),())))))),((),(aF,()))),(aI,(aJ,(aK,(aL,(aM,((aB,(aC,())),()))))))))
def zR_m(n:Nat)(rp:Q1)(holds:(Q3)×Unit->Option (Bool×Unit)):Option (List (List UInt8)×Unit):=
  (yAs n n (holds) (rp.2.2.2.2.2.2.2.2.1) ((↑rp.2.2.2.2.2.2.2.2.1.length:Int)) ((0:Int)) (rp) (holds) (rp) (rp) (holds) (rp) (holds) ([]) (rp) (holds) (rp) (rp) (holds) (rp) (holds))
def yO8(aH:(Q3)×Unit->Option (Bool×Unit))(aD:List (Q3))(aw:Q1)(ax:(Q3)×Unit->Option (Bool×Unit))(ay az:Q1)(aA:(Q3)×Unit->Option (Bool×Unit))(au:Q1)(av:(Q3)×Unit->Option (Bool×Unit))(aI:Q1)(aJ:(Q3)×Unit->Option (Bool×Unit))(aK aL:Q1)(aM:(Q3)×Unit->Option (Bool×Unit))(aB:Q1)(aC:(Q3)×Unit->Option (Bool×Unit))(aN:Int)(v1:Q3)(aF:List (List UInt8)):Option ((List (List UInt8)×Unit)⊕(List (List UInt8))):=
  ((aH (v1,())).bind λ v2=>(bif v2.1 then (bif decide (aF.length+(1:Nat)<=memMax)then (some (Sum.inr (aF++[(zp v1).1])))else none)else (some (Sum.inr (aF)))))
def yP7(aH:(Q3)×Unit->Option (Bool×Unit))(aD:List (Q3))(aw:Q1)(ax:(Q3)×Unit->Option (Bool×Unit))(ay az:Q1)(aA:(Q3)×Unit->Option (Bool×Unit))(au:Q1)(av:(Q3)×Unit->Option (Bool×Unit))(aI:Q1)(aJ:(Q3)×Unit->Option (Bool×Unit))(aK aL:Q1)(aM:(Q3)×Unit->Option (Bool×Unit))(aB:Q1)(aC:(Q3)×Unit->Option (Bool×Unit))(aF:List (List UInt8)):Option (List (List UInt8)×Unit):=
  (some ((aF,())))
theorem yGk(n:Nat)(hn:big<=n)(aH:(Q3)×Unit->Option (Bool×Unit))(aD:List (Q3))(aw:Q1)(ax:(Q3)×Unit->Option (Bool×Unit))(ay az:Q1)(aA:(Q3)×Unit->Option (Bool×Unit))(au:Q1)(av:(Q3)×Unit->Option (Bool×Unit))(aI:Q1)(aJ:(Q3)×Unit->Option (Bool×Unit))(aK aL:Q1)(aM:(Q3)×Unit->Option (Bool×Unit))(aB:Q1)(aC:(Q3)×Unit->Option (Bool×Unit))(aF:List (List UInt8))(hx:List.length (aD) < yB):LeF some (yR (λ aR aT aE=>yO8 aH aD aw ax ay az aA au av aI aJ aK aL aM aB aC aR aT aE) (λ aE=>yP7 aH aD aw ax ay az aA au av aI aJ aK aL aM aB aC aE) 0 (aD) aF) (yAs n n aH aD (List.length (aD):Int) 0 aw ax ay az aA au av aF aI aJ aK aL aM aB aC):=by
  refine yo (f:=some) (W:=λ aU aR aE=>yAs n aU aH aD (List.length (aD):Int) aR aw ax ay az aA au av aE aI aJ aK aL aM aB aC) (λ aU aR aE=>?_) hx aF n (by unfold big at hn;unfold yB at hx;omega)
  show LeF _ _ (yIA n (yAs n aU) aH aD (List.length (aD):Int) aR aw ax ay az aA au av aE aI aJ aK aL aM aB aC)
  exact y7 (yF λ v1=>(yF λ v2=>(y7 (y7 (y9 rfl) y03) (y9 rfl)))) (y1I (y9 rfl))
def zR_M(rp:Q1)(holds:(Q3)×Unit->Option (Bool×Unit)):Option (List (List UInt8)×Unit):=
  (bif decide (List.length (rp.2.2.2.2.2.2.2.2.1) < yB)then yR (λ aR aT aE=>yO8 (holds) (rp.2.2.2.2.2.2.2.2.1) (rp) (holds) (rp) (rp) (holds) (rp) (holds) (rp) (holds) (rp) (rp) (holds) (rp) (holds) aR aT aE) (λ aE=>yP7 (holds) (rp.2.2.2.2.2.2.2.2.1) (rp) (holds) (rp) (rp) (holds) (rp) (holds) (rp) (holds) (rp) (rp) (holds) (rp) (holds) aE) 0 (rp.2.2.2.2.2.2.2.2.1) ([])else none)
abbrev zR_e:Entry:={ f:=137,args:=.pair t60 (.pair t208 .unit),rS:=.pair t38 .unit,m:=λ x=>zR_M x.1 x.2.1 }
theorem yO4:FnOK Tryz.prog zR_e:=fBI (mu:=[5]) Tryz.f137 (λ n x=>zR_m n x.1 x.2.1) [] [il182,il212] 3 (yE yRO eNil) (y0V yLD (y0V yM4 iNil)) λ n hn x=>(yl λ hx=>by apply yGk n hn;exact hx)
def zk_m(n:Nat)(rp:Q1)(p1:List (List UInt8)):Option (Q6):=
  ((yOc [rp.2.2.2.1,rp.2.2.2.2.1,rp.2.2.2.2.2.1]).bind λ v0=>some (v0.1,v0.2.1,()))
def zk_M(rp:Q1)(p1:List (List UInt8)):Option (Q6):=zk_m 0 rp p1
abbrev zk_e:Entry:={ f:=142,args:=.pair t60 (.pair t38 .unit),rS:=.pair t9 (.pair t29 .unit),m:=λ x=>zk_M x.1 x.2.1 }
theorem yPk:FnOK Tryz.prog zk_e:=fF 0 Tryz.f142 (λ n x=>zk_m n x.1 x.2.1) [] (yE yMn eNil)
def zm_m(n:Nat)(rp:Q1)(w:List (List UInt8)):Option (Q6):=
  ((idx w (1:Int)).bind λ v0=>((zT_M rp v0).bind λ v1=>(bif decide (v1.1 < 0)then some ([],(10:Int),())else ((idx rp.2.2.2.2.2.2.2.2.1 v1.1).bind λ v2=>((zt_M v2).bind λ v3=>some (v3.1,(0:Int),()))))))
def zm_M(rp:Q1)(w:List (List UInt8)):Option (Q6):=zm_m 0 rp w
abbrev zm_e:Entry:={ f:=145,args:=.pair t60 (.pair t38 .unit),rS:=.pair t9 (.pair t29 .unit),m:=λ x=>zm_M x.1 x.2.1 }
theorem yQX:FnOK Tryz.prog zm_e:=fF 0 Tryz.f145 (λ n x=>zm_m n x.1 x.2.1) [] (yE yQk (yE yRq eNil))
end
end Go.Tw
end
section
set_option maxRecDepth 1000000
namespace Go.Tw
open Go.Vx Go.Vx.B Go.Proofs
noncomputable section
def zq_m(n:Nat)(xp:Int×Int×Unit):Option (Int×Unit):=
  ((y15 [(zd xp.1).1,(zd xp.2.1).1,(z0a (decide (xp.2.1 > xp.1)) (11:Int)).1]).bind λ v0=>some (v0.1,()))
def zq_M(xp:Int×Int×Unit):Option (Int×Unit):=zq_m 0 xp
abbrev zq_e:Entry:={ f:=68,args:=.pair t33 .unit,rS:=.pair t29 .unit,m:=λ x=>zq_M x.1 }
theorem yPC:FnOK Tryz.prog zq_e:=fF 0 Tryz.f68 (λ n x=>zq_m n x.1) [] (yE yP9 (yE y4I (yE y73 eNil)))
def yCn(n:Nat)(rp:Q1)(e:Q2)(j8:Bool):Option ((Q1)×Int×Unit):=
  (bif j8 then ((yHA rp e).bind λ v9=>((idx e.2.2.2.1 (0:Int)).bind λ v34=>some ((v34,v9.1.2.1,v9.1.2.2),v9.2.1,())))else (bif e.2.1==[(101:UInt8),110,116,101,114]then (bif e.2.1==[(101:UInt8),110,116,101,114]then ((yEK rp e).bind λ v11=>((idx e.2.2.2.1 (0:Int)).bind λ v35=>some ((v35,v11.1.2.1,v11.1.2.2),v11.2.1,())))else ((yJx rp e).bind λ v12=>((idx e.2.2.2.1 (0:Int)).bind λ v36=>some ((v36,v12.1.2.1,v12.1.2.2),v12.2.1,()))))else (bif e.2.1==[(108:UInt8),101,97,118,101]then ((yEK rp e).bind λ v13=>((idx e.2.2.2.1 (0:Int)).bind λ v37=>some ((v37,v13.1.2.1,v13.1.2.2),v13.2.1,())))else ((yJx rp e).bind λ v14=>((idx e.2.2.2.1 (0:Int)).bind λ v38=>some ((v38,v14.1.2.1,v14.1.2.2),v14.2.1,()))))))
def yCP(n:Nat)(rp:Q1)(e:Q2)(j3:Bool):Option ((Q1)×Int×Unit):=
  (bif j3 then ((idx e.2.2.1 (0:Int)).bind λ v4=>(bif !(zw v4).1 then some (rp,(13:Int),())else ((idx e.2.2.1 (0:Int)).bind λ v5=>(bif !(v5==(z0P rp).1)==(e.2.1==[(100:UInt8),101,99,105,100,101])then some (rp,(19:Int),())else ((idx e.2.2.1 (0:Int)).bind λ v6=>((idx e.2.2.2.1 (0:Int)).bind λ v32=>some ((v32,((z0H rp v6).1.2.1.1,(z0H rp v6).1.2.1.2.1,()),(z0H rp v6).1.2.2.1,(z0H rp v6).1.2.2.2.1,(z0H rp v6).1.2.2.2.2.1,(z0H rp v6).1.2.2.2.2.2.1,(z0H rp v6).1.2.2.2.2.2.2.1,(z0H rp v6).1.2.2.2.2.2.2.2.1,(z0H rp v6).1.2.2.2.2.2.2.2.2.1,(z0H rp v6).1.2.2.2.2.2.2.2.2.2.1,(z0H rp v6).1.2.2.2.2.2.2.2.2.2.2.1,()),(0:Int),())))))))else (bif e.2.1==[(99:UInt8),111,109,109,97,110,100]then ((yLL rp e).bind λ v7=>((idx e.2.2.2.1 (0:Int)).bind λ v33=>some ((v33,v7.1.2.1,v7.1.2.2),v7.2.1,())))else (bif e.2.1==[(108:UInt8),111,99,107]then (yCn n rp e (e.2.1==[(108:UInt8),111,99,107]))else (yCn n rp e (e.2.1==[(117:UInt8),110,108,111,99,107])))))
def y5n(n:Nat)(rp:Q1)(e:Q2)(j1:Bool):Option ((Q1)×Int×Unit):=
  (bif j1 then ((y9B rp e).bind λ v2=>((idx e.2.2.2.1 (0:Int)).bind λ v31=>some ((v31,v2.1.2.1,v2.1.2.2),v2.2.1,())))else (bif e.2.1==[(100:UInt8),101,99,105,100,101]then (yCP n rp e (e.2.1==[(100:UInt8),101,99,105,100,101]))else (yCP n rp e (e.2.1==[(111:UInt8),118,101,114,114,105,100,101]))))
def yPR(n:Nat)(rp:Q1)(e:Q2):Option ((Q1)×Int×Unit):=
  ((idx e.2.2.2.1 (0:Int)).bind λ v0=>(bif decide (v0 < rp.1)then some (rp,(20:Int),())else (bif e.2.1==[(103:UInt8),97,116,101]then (y5n n rp e (e.2.1==[(103:UInt8),97,116,101]))else (bif e.2.1==[(114:UInt8),117,108,101]then (y5n n rp e (e.2.1==[(114:UInt8),117,108,101]))else (bif e.2.1==[(102:UInt8),111,114,101,99,97,115,116]then (y5n n rp e (e.2.1==[(102:UInt8),111,114,101,99,97,115,116]))else (y5n n rp e (e.2.1==[(108:UInt8),101,118,101,108])))))))
def yCX(rp:Q1)(e:Q2):Option ((Q1)×Int×Unit):=yPR 0 rp e
abbrev z0f_e:Entry:={ f:=74,args:=.pair t41 (.pair t56 .unit),rS:=.pair t41 (.pair t3 .unit),m:=λ x=>yCX x.1 x.2.1 }
theorem yP4:FnOK Tryz.prog z0f_e:=fF 0 Tryz.f74 (λ n x=>yPR n x.1 x.2.1) [] (yE yPm (yE yQy (yE yPB (yE yQS (yE yQ6 (yE yPp (yE yPM (yE yQL eNil))))))))
def zh_m(n:Nat)(rp:Q1)(p1:List (List UInt8)):Option (Q6):=
  ((zR_M rp λ (x:(Q3)×Unit)=>zO_M x.1).bind λ v0=>((yGR v0.1).bind λ v1=>some (v1.1,v1.2.1,())))
def zh_M(rp:Q1)(p1:List (List UInt8)):Option (Q6):=zh_m 0 rp p1
abbrev zh_e:Entry:={ f:=136,args:=.pair t60 (.pair t38 .unit),rS:=.pair t9 (.pair t29 .unit),m:=λ x=>zh_M x.1 x.2.1 }
theorem yQQ:FnOK Tryz.prog zh_e:=fF 0 Tryz.f136 (λ n x=>zh_m n x.1 x.2.1) [] (yE yO4 (yE yQh (yE yCB eNil)))
def zj_m(n:Nat)(rp:Q1)(p1:List (List UInt8)):Option (Q6):=
  ((zR_M rp λ (x:(Q3)×Unit)=>zc_M x.1).bind λ v0=>((yGR v0.1).bind λ v1=>some (v1.1,v1.2.1,())))
def zj_M(rp:Q1)(p1:List (List UInt8)):Option (Q6):=zj_m 0 rp p1
abbrev zj_e:Entry:={ f:=140,args:=.pair t60 (.pair t38 .unit),rS:=.pair t9 (.pair t29 .unit),m:=λ x=>zj_M x.1 x.2.1 }
theorem yPd:FnOK Tryz.prog zj_e:=fF 0 Tryz.f140 (λ n x=>zj_m n x.1 x.2.1) [] (yE yO4 (yE yRu (yE yCB eNil)))
def zl_m(n:Nat)(rp:Q1)(w:List (List UInt8)):Option (Q6):=
  ((idx w (1:Int)).bind λ v0=>((yIl v0).bind λ v1=>(bif !v1.1 then some ([],(8:Int),())else ((idx w (1:Int)).bind λ v2=>((zL_M rp v2).bind λ v3=>((yOc [v3.1]).bind λ v4=>some (v4.1,v4.2.1,())))))))
def zl_M(rp:Q1)(w:List (List UInt8)):Option (Q6):=zl_m 0 rp w
abbrev zl_e:Entry:={ f:=144,args:=.pair t60 (.pair t38 .unit),rS:=.pair t9 (.pair t29 .unit),m:=λ x=>zl_M x.1 x.2.1 }
theorem yPo:FnOK Tryz.prog zl_e:=fF 0 Tryz.f144 (λ n x=>zl_m n x.1 x.2.1) [] (yE yMc (yE yS2 (yE yMn eNil)))
end
end Go.Tw
end
section
set_option maxRecDepth 1000000
namespace Go.Tw
open Go.Vx Go.Vx.B Go.Proofs
noncomputable section
def y8l(n:Nat)(r0:List (Q2)->List (Q2)->List (Q1)->Int->Int->Int->Int->Int->Int->Int->Int->List UInt8->Int->Option (List (Q2)×(Q1)×Int×Int×Unit))(aq a7:List (Q2))(a8:List (Q1))(ar aa ac ae af ah ai aj:Int)(ak:List UInt8)(am j20 j21 j22 j23 j24 j25 j26:Int)(j27:List UInt8)(j28:Int)(j29:List (Q3))(j30:List (List UInt8))(j31:List (Q6))(j32:Int):Option (List (Q2)×(Q1)×Int×Int×Unit):=
  (bif j32 != 0 then some ([],((0:Int),((0:Int),(0:Int),()),(0:Int),(0:Int),(0:Int),(0:Int),[],(0:Int),[],[],[],()),i64.wrap (ar+1),j32,())else (bif decide ((0:Nat)+a7.length<=memMax)then ((idx aq ar).bind λ v33=>(bif decide (a7.length+(1:Nat)<=memMax)then (bif decide ((0:Nat)+a8.length<=memMax)then (bif decide (a8.length+(1:Nat)<=memMax)then r0 aq (a7++[v33]) (a8++[(j20,(j21,j22,()),j23,j24,j25,j26,j27,j28,j29,j30,j31,())]) (i64.wrap (ar+1)) aa ac ae af ah ai aj ak am else none)else none)else none))else none))
def y5T(n:Nat)(r0:List (Q2)->List (Q2)->List (Q1)->Int->Int->Int->Int->Int->Int->Int->Int->List UInt8->Int->Option (List (Q2)×(Q1)×Int×Int×Unit))(aq a7:List (Q2))(a8:List (Q1))(ar aa ac ae af ah ai aj:Int)(ak:List UInt8)(am j14:Int):Option (List (Q2)×(Q1)×Int×Int×Unit):=
  (bif j14==0 then ((idx a8 (↑a7.length:Int)).bind λ v17=>((idx aq ar).bind λ v18=>((yCX v17 v18).bind λ v19=>(y8l n r0 aq a7 a8 ar aa ac ae af ah ai aj ak am (v19.1.1) (v19.1.2.1.1) (v19.1.2.1.2.1) (v19.1.2.2.1) (v19.1.2.2.2.1) (v19.1.2.2.2.2.1) (v19.1.2.2.2.2.2.1) (v19.1.2.2.2.2.2.2.1) (v19.1.2.2.2.2.2.2.2.1) (v19.1.2.2.2.2.2.2.2.2.1) (v19.1.2.2.2.2.2.2.2.2.2.1) (v19.1.2.2.2.2.2.2.2.2.2.2.1) (v19.2.1)))))else (y8l n r0 aq a7 a8 ar aa ac ae af ah ai aj ak am ((0:Int)) ((0:Int)) ((0:Int)) ((0:Int)) ((0:Int)) ((0:Int)) ((0:Int)) ([]) ((0:Int)) ([]) ([]) ([]) (j14)))
def y8K(n:Nat)(r0:List (Q2)->List (Q2)->List (Q1)->Int->Int->Int->Int->Int->Int->Int->Int->List UInt8->Int->Option (List (Q2)×(Q1)×Int×Int×Unit))(aq a7:List (Q2))(a8:List (Q1))(ar aa ac ae af ah ai aj:Int)(ak:List UInt8)(am j6:Int)(j11:Bool):Option (List (Q2)×(Q1)×Int×Int×Unit):=
  (bif j11 then (bif (↑a7.length:Int)==0 then (y5T n r0 aq a7 a8 ar aa ac ae af ah ai aj ak am ((12:Int)))else ((idx a7 (i64.wrap ((↑a7.length:Int) - (1:Int)))).bind λ v12=>(bif v12.2.1==[(99:UInt8),111,109,109,97,110,100]then (y5T n r0 aq a7 a8 ar aa ac ae af ah ai aj ak am ((19:Int)))else (bif decide ((0:Int)<=i64.wrap ((↑a7.length:Int) - (1:Int))) && decide (i64.wrap ((↑a7.length:Int) - (1:Int))<=(↑a7.length:Int))then (bif decide ((0:Int)<=(↑a7.length:Int)) && decide ((↑a7.length:Int)<=(↑a8.length:Int))then r0 aq (List.take (i64.wrap ((↑a7.length:Int) - (1:Int))).toNat a7) (List.take (↑a7.length:Int).toNat a8) (i64.wrap (ar+1)) aa ac ae af ah ai aj ak am else none)else none))))else (y5T n r0 aq a7 a8 ar aa ac ae af ah ai aj ak am (j6)))
def y65(n:Nat)(r0:List (Q2)->List (Q2)->List (Q1)->Int->Int->Int->Int->Int->Int->Int->Int->List UInt8->Int->Option (List (Q2)×(Q1)×Int×Int×Unit))(aq a7:List (Q2))(a8:List (Q1))(ar aa ac ae af ah ai aj:Int)(ak:List UInt8)(am j6:Int):Option (List (Q2)×(Q1)×Int×Int×Unit):=
  (bif j6==0 then ((idx aq ar).bind λ v9=>(y8K n r0 aq a7 a8 ar aa ac ae af ah ai aj ak am j6 (v9.2.1==[(117:UInt8),110,100,111])))else (y8K n r0 aq a7 a8 ar aa ac ae af ah ai aj ak am j6 (Bool.false)))
def yFk(n:Nat)(r0:List (Q2)->List (Q2)->List (Q1)->Int->Int->Int->Int->Int->Int->Int->Int->List UInt8->Int->Option (List (Q2)×(Q1)×Int×Int×Unit))(aq a7:List (Q2))(a8:List (Q1))(ar aa ac ae af ah ai aj:Int)(ak:List UInt8)(am:Int):Option (List (Q2)×(Q1)×Int×Int×Unit):=
  (bif decide (ar < (↑aq.length:Int))then ((idx aq ar).bind λ v1=>((zv_M v1).bind λ v2=>(bif v2.1==0 then ((idx aq ar).bind λ v3=>(bif v3.1 != i64.wrap (ar+1)then (y65 n r0 aq a7 a8 ar aa ac ae af ah ai aj ak am ((11:Int)))else (y65 n r0 aq a7 a8 ar aa ac ae af ah ai aj ak am (v2.1))))else (y65 n r0 aq a7 a8 ar aa ac ae af ah ai aj ak am (v2.1)))))else ((idx a8 (↑a7.length:Int)).bind λ v37=>some (a7,v37,(0:Int),(0:Int),())))
def y7S(n k:Nat)(aq a7:List (Q2))(a8:List (Q1))(ar aa ac ae af ah ai aj:Int)(ak:List UInt8)(am:Int):Option (List (Q2)×(Q1)×Int×Int×Unit):=
  iter (λ r y=>yFk n (λ aq a7 a8 ar aa ac ae af ah ai aj ak am=>r ((aq,(a7,(a8,(ar,())))),(((aa,(ac,(ae,(af,(ah,(ai,(aj,(ak,(am,()))))))))),()),()))) y.1.1 y.1.2.1 y.1.2.2.1 y.1.2.2.2.1 y.2.1.1.1 y.2.1.1.2.1 y.2.1.1.2.2.1 y.2.1.1.2.2.2.1 y.2.1.1.2.2.2.2.1 y.2.1.1.2.2.2.2.2.1 y.2.1.1.2.2.2.2.2.2.1 y.2.1.1.2.2.2.2.2.2.2.1 y.2.1.1.2.2.2.2.2.2.2.2.1) k ((aq,(a7,(a8,(ar,())))),(((aa,(ac,(ae,(af,(ah,(ai,(aj,(ak,(am,()))))))))),()),()))
def yRg(n:Nat)(l:List (Q2)):Option (List (Q2)×(Q1)×Int×Int×Unit):=
  (bif decide ((↑l.length:Int) > 1000)then some ([],((0:Int),((0:Int),(0:Int),()),(0:Int),(0:Int),(0:Int),(0:Int),[],(0:Int),[],[],[],()),(0:Int),(5:Int),())else (y7S n n (l) ([]) ([z0d.1]) ((0:Int)) ((0:Int)) ((0:Int)) ((0:Int)) ((0:Int)) ((0:Int)) ((0:Int)) ((0:Int)) ([]) ((0:Int))))
def y86(aq a7:List (Q2))(a8:List (Q1))(ar aa ac ae af ah ai aj:Int)(ak:List UInt8)(am j20 j21 j22 j23 j24 j25 j26:Int)(j27:List UInt8)(j28:Int)(j29:List (Q3))(j30:List (List UInt8))(j31:List (Q6))(j32:Int):Option ((List (Q2)×(Q1)×Int×Int×Unit)⊕((List (Q2))×(List (Q1)))):=
  (bif j32 != 0 then (some (Sum.inl (([],((0:Int),((0:Int),(0:Int),()),(0:Int),(0:Int),(0:Int),(0:Int),[],(0:Int),[],[],[],()),i64.wrap (ar+1),j32,()))))else (bif decide ((0:Nat)+a7.length<=memMax)then ((idx aq ar).bind λ v33=>(bif decide (a7.length+(1:Nat)<=memMax)then (bif decide ((0:Nat)+a8.length<=memMax)then (bif decide (a8.length+(1:Nat)<=memMax)then (some (Sum.inr ((a7++[v33]),(a8++[(j20,(j21,j22,()),j23,j24,j25,j26,j27,j28,j29,j30,j31,())]))))else none)else none)else none))else none))
theorem y3k(n:Nat)(hn:big<=n)(r0:List (Q2)->List (Q2)->List (Q1)->Int->Int->Int->Int->Int->Int->Int->Int->List UInt8->Int->Option (List (Q2)×(Q1)×Int×Int×Unit))(aq a7:List (Q2))(a8:List (Q1))(ar aa ac ae af ah ai aj:Int)(ak:List UInt8)(am j20 j21 j22 j23 j24 j25 j26:Int)(j27:List UInt8)(j28:Int)(j29:List (Q3))(j30:List (List UInt8))(j31:List (Q6))(j32:Int):LeF (elim some λ (aE:((List (Q2))×(List (Q1))))=>r0 aq aE.1 aE.2 (i64.wrap (ar+1)) aa ac ae af ah ai aj ak am) (y86 aq a7 a8 ar aa ac ae af ah ai aj ak am j20 j21 j22 j23 j24 j25 j26 j27 j28 j29 j30 j31 j32) (y8l n r0 aq a7 a8 ar aa ac ae af ah ai aj ak am j20 j21 j22 j23 j24 j25 j26 j27 j28 j29 j30 j31 j32):=
  (y7 (y9 rfl) (y7 (yF λ v33=>(y7 (y7 (y7 (y9 rfl) y03) y03) y03)) y03))
def y5D(aq a7:List (Q2))(a8:List (Q1))(ar aa ac ae af ah ai aj:Int)(ak:List UInt8)(am j14:Int):Option ((List (Q2)×(Q1)×Int×Int×Unit)⊕((List (Q2))×(List (Q1)))):=
  (bif j14==0 then ((idx a8 (↑a7.length:Int)).bind λ v17=>((idx aq ar).bind λ v18=>((yCX v17 v18).bind λ v19=>(y86 aq a7 a8 ar aa ac ae af ah ai aj ak am (v19.1.1) (v19.1.2.1.1) (v19.1.2.1.2.1) (v19.1.2.2.1) (v19.1.2.2.2.1) (v19.1.2.2.2.2.1) (v19.1.2.2.2.2.2.1) (v19.1.2.2.2.2.2.2.1) (v19.1.2.2.2.2.2.2.2.1) (v19.1.2.2.2.2.2.2.2.2.1) (v19.1.2.2.2.2.2.2.2.2.2.1) (v19.1.2.2.2.2.2.2.2.2.2.2.1) (v19.2.1)))))else (y86 aq a7 a8 ar aa ac ae af ah ai aj ak am ((0:Int)) ((0:Int)) ((0:Int)) ((0:Int)) ((0:Int)) ((0:Int)) ((0:Int)) ([]) ((0:Int)) ([]) ([]) ([]) (j14)))
theorem y24(n:Nat)(hn:big<=n)(r0:List (Q2)->List (Q2)->List (Q1)->Int->Int->Int->Int->Int->Int->Int->Int->List UInt8->Int->Option (List (Q2)×(Q1)×Int×Int×Unit))(aq a7:List (Q2))(a8:List (Q1))(ar aa ac ae af ah ai aj:Int)(ak:List UInt8)(am j14:Int):LeF (elim some λ (aE:((List (Q2))×(List (Q1))))=>r0 aq aE.1 aE.2 (i64.wrap (ar+1)) aa ac ae af ah ai aj ak am) (y5D aq a7 a8 ar aa ac ae af ah ai aj ak am j14) (y5T n r0 aq a7 a8 ar aa ac ae af ah ai aj ak am j14):=
  (y7 (yF λ v17=>(yF λ v18=>(yF λ v19=>(by apply y3k n hn)))) (by apply y3k n hn))
def y6U(aq a7:List (Q2))(a8:List (Q1))(ar aa ac ae af ah ai aj:Int)(ak:List UInt8)(am j6:Int)(j11:Bool):Option ((List (Q2)×(Q1)×Int×Int×Unit)⊕((List (Q2))×(List (Q1)))):=
  (bif j11 then (bif (↑a7.length:Int)==0 then (y5D aq a7 a8 ar aa ac ae af ah ai aj ak am ((12:Int)))else ((idx a7 (i64.wrap ((↑a7.length:Int) - (1:Int)))).bind λ v12=>(bif v12.2.1==[(99:UInt8),111,109,109,97,110,100]then (y5D aq a7 a8 ar aa ac ae af ah ai aj ak am ((19:Int)))else (bif decide ((0:Int)<=i64.wrap ((↑a7.length:Int) - (1:Int))) && decide (i64.wrap ((↑a7.length:Int) - (1:Int))<=(↑a7.length:Int))then (bif decide ((0:Int)<=(↑a7.length:Int)) && decide ((↑a7.length:Int)<=(↑a8.length:Int))then (some (Sum.inr ((List.take (i64.wrap ((↑a7.length:Int) - (1:Int))).toNat a7),(List.take (↑a7.length:Int).toNat a8))))else none)else none))))else (y5D aq a7 a8 ar aa ac ae af ah ai aj ak am (j6)))
theorem y3m(n:Nat)(hn:big<=n)(r0:List (Q2)->List (Q2)->List (Q1)->Int->Int->Int->Int->Int->Int->Int->Int->List UInt8->Int->Option (List (Q2)×(Q1)×Int×Int×Unit))(aq a7:List (Q2))(a8:List (Q1))(ar aa ac ae af ah ai aj:Int)(ak:List UInt8)(am j6:Int)(j11:Bool):LeF (elim some λ (aE:((List (Q2))×(List (Q1))))=>r0 aq aE.1 aE.2 (i64.wrap (ar+1)) aa ac ae af ah ai aj ak am) (y6U aq a7 a8 ar aa ac ae af ah ai aj ak am j6 j11) (y8K n r0 aq a7 a8 ar aa ac ae af ah ai aj ak am j6 j11):=
  (y7 (y7 (by apply y24 n hn) (yF λ v12=>(y7 (by apply y24 n hn) (y7 (y7 (y9 rfl) y03) y03)))) (by apply y24 n hn))
def y52(aq a7:List (Q2))(a8:List (Q1))(ar aa ac ae af ah ai aj:Int)(ak:List UInt8)(am j6:Int):Option ((List (Q2)×(Q1)×Int×Int×Unit)⊕((List (Q2))×(List (Q1)))):=
  (bif j6==0 then ((idx aq ar).bind λ v9=>(y6U aq a7 a8 ar aa ac ae af ah ai aj ak am j6 (v9.2.1==[(117:UInt8),110,100,111])))else (y6U aq a7 a8 ar aa ac ae af ah ai aj ak am j6 (Bool.false)))
theorem y25(n:Nat)(hn:big<=n)(r0:List (Q2)->List (Q2)->List (Q1)->Int->Int->Int->Int->Int->Int->Int->Int->List UInt8->Int->Option (List (Q2)×(Q1)×Int×Int×Unit))(aq a7:List (Q2))(a8:List (Q1))(ar aa ac ae af ah ai aj:Int)(ak:List UInt8)(am j6:Int):LeF (elim some λ (aE:((List (Q2))×(List (Q1))))=>r0 aq aE.1 aE.2 (i64.wrap (ar+1)) aa ac ae af ah ai aj ak am) (y52 aq a7 a8 ar aa ac ae af ah ai aj ak am j6) (y65 n r0 aq a7 a8 ar aa ac ae af ah ai aj ak am j6):=
  (y7 (yF λ v9=>(by apply y3m n hn)) (by apply y3m n hn))
def yBd(aq:List (Q2))(aa ac ae af ah ai aj:Int)(ak:List UInt8)(am ar:Int)(v1:Q2)(a7:List (Q2))(a8:List (Q1)):Option ((List (Q2)×(Q1)×Int×Int×Unit)⊕((List (Q2))×(List (Q1)))):=
  ((zv_M v1).bind λ v2=>(bif v2.1==0 then ((idx aq ar).bind λ v3=>(bif v3.1 != i64.wrap (ar+1)then (y52 aq a7 a8 ar aa ac ae af ah ai aj ak am ((11:Int)))else (y52 aq a7 a8 ar aa ac ae af ah ai aj ak am (v2.1))))else (y52 aq a7 a8 ar aa ac ae af ah ai aj ak am (v2.1))))
def yFJ(aq:List (Q2))(aa ac ae af ah ai aj:Int)(ak:List UInt8)(am:Int)(a7:List (Q2))(a8:List (Q1)):Option (List (Q2)×(Q1)×Int×Int×Unit):=
  ((idx a8 (↑a7.length:Int)).bind λ v37=>(some ((a7,v37,(0:Int),(0:Int),()))))
theorem yDJ(n:Nat)(hn:big<=n)(aq:List (Q2))(aa ac ae af ah ai aj:Int)(ak:List UInt8)(am:Int)(a7:List (Q2))(a8:List (Q1))(hx:List.length (aq) < yB):LeF some (yR (λ aR aT aE=>yBd aq aa ac ae af ah ai aj ak am aR aT aE.1 aE.2) (λ aE=>yFJ aq aa ac ae af ah ai aj ak am aE.1 aE.2) 0 (aq) (a7,a8)) (y7S n n aq a7 a8 0 aa ac ae af ah ai aj ak am):=by
  refine yo (f:=some) (W:=λ aU aR aE=>y7S n aU aq aE.1 aE.2 aR aa ac ae af ah ai aj ak am) (λ aU aR aE=>?_) hx (a7,a8) n (by unfold big at hn;unfold yB at hx;omega)
  show LeF _ _ (yFk n (y7S n aU) aq aE.1 aE.2 aR aa ac ae af ah ai aj ak am)
  exact y7 (yF λ v1=>(yF λ v2=>(y7 (yF λ v3=>(y7 (by apply y25 n hn) (by apply y25 n hn))) (by apply y25 n hn)))) (y1I (yF λ v37=>(y9 rfl)))
def yLM(l:List (Q2)):Option (List (Q2)×(Q1)×Int×Int×Unit):=
  (bif decide ((↑l.length:Int) > 1000)then (some (([],((0:Int),((0:Int),(0:Int),()),(0:Int),(0:Int),(0:Int),(0:Int),[],(0:Int),[],[],[],()),(0:Int),(5:Int),())))else (bif decide (List.length (l) < yB)then yR (λ aR aT aE=>yBd (l) ((0:Int)) ((0:Int)) ((0:Int)) ((0:Int)) ((0:Int)) ((0:Int)) ((0:Int)) ([]) ((0:Int)) aR aT aE.1 aE.2) (λ aE=>yFJ (l) ((0:Int)) ((0:Int)) ((0:Int)) ((0:Int)) ((0:Int)) ((0:Int)) ((0:Int)) ([]) ((0:Int)) aE.1 aE.2) 0 (l) (([]),([z0d.1]))else none))
abbrev z0l_e:Entry:={ f:=70,args:=.pair t22 .unit,rS:=.pair t22 (.pair t41 (.pair t3 (.pair t3 .unit))),m:=λ x=>yLM x.1 }
theorem yQM:FnOK Tryz.prog z0l_e:=fB (mu:=[6,89,98]) (fz:=[97,103]) Tryz.f70 (λ n x=>yRg n x.1) [[0,3,6,7,8,1000006,1000007]] (yE yPw (yE yRN (yE yP4 eNil))) λ n hn x=>(y7 (y9 rfl) (yl λ hx=>by apply yDJ n hn;exact hx))
abbrev zu_a:Ty:=.unit
abbrev zu_r:Ty:=.pair t171 .unit
def zu_g:G:={ T:=T,E:=[zf_e,zg_e,zh_e,zi_e,zj_e,zk_e,zl_e,zm_e],mU:=[],fz:=[] }
def zu_k:List (List Nat):=[]
def yPb(n:Nat):Ann:={ keep:=zu_k,fuel:=n,inl:=[],deep:=0 }
def zu_m(n:Nat)  : Option (List (List UInt8×Int×Nat×Unit)×Unit):=
  some ([([(97:UInt8),100,118,105,99,101],(1:Int),(133:Nat)+(1:Nat),()),([(115:UInt8),116,97,116,101],(1:Int),(134:Nat)+(1:Nat),()),([(108:UInt8),111,119,101,114,101,100],(1:Int),(136:Nat)+(1:Nat),()),([(105:UInt8),110,115,105,100,101],(1:Int),(139:Nat)+(1:Nat),()),([(108:UInt8),111,99,107,101,100],(1:Int),(140:Nat)+(1:Nat),()),([(104:UInt8),101,105,103,104,116,115],(1:Int),(142:Nat)+(1:Nat),()),([(118:UInt8),101,114,115,105,111,110],(2:Int),(144:Nat)+(1:Nat),()),([(108:UInt8),97,115,116],(2:Int),(145:Nat)+(1:Nat),())],())
theorem yRR(n:Nat)(x:zu_a.den):runF zu_g (yPb n) Tryz.f90 zu_a zu_r x=zu_m n:=by kernel_rfl
def zu  : (List (List UInt8×Int×Nat×Unit)×Unit):=
  ([([(97:UInt8),100,118,105,99,101],(1:Int),(133:Nat)+(1:Nat),()),([(115:UInt8),116,97,116,101],(1:Int),(134:Nat)+(1:Nat),()),([(108:UInt8),111,119,101,114,101,100],(1:Int),(136:Nat)+(1:Nat),()),([(105:UInt8),110,115,105,100,101],(1:Int),(139:Nat)+(1:Nat),()),([(108:UInt8),111,99,107,101,100],(1:Int),(140:Nat)+(1:Nat),()),([(104:UInt8),101,105,103,104,116,115],(1:Int),(142:Nat)+(1:Nat),()),([(118:UInt8),101,114,115,105,111,110],(2:Int),(144:Nat)+(1:Nat),()),([(108:UInt8),97,115,116],(2:Int),(145:Nat)+(1:Nat),())],())
abbrev zu_M  : Option (List (List UInt8×Int×Nat×Unit)×Unit):=some (zu)
theorem yQb(y:List (List UInt8×Int×Nat×Unit)×Unit)(h:zu_M=some y):∃ n,zu_m n=some y:=
  ⟨0,by rw[<- h];show zu_m 0=some (zu);unfold zu_m zu;first|rfl|(simp only[yH];done)|(simp only[yH];rfl)⟩
def zu_e:Entry:={ f:=90,args:=zu_a,rS:=zu_r,m:=λ x=>zu_M }
theorem yRQ:FnOK Tryz.prog zu_e:=yEQ (g:=zu_g) (fn:=Tryz.f90) y1i y7D (yE yPa (yE yQA (yE yQQ (yE yPW (yE yPd (yE yPk (yE yPo (yE yQX eNil)))))))) (by kernel_rfl) (by kernel_rfl) (by kernel_rfl) (λ x y h=>let ⟨n,hn⟩:=yQb y h;⟨yPb n,iNil,(yRR n x).trans hn⟩)
end
end Go.Tw
end
section
set_option maxRecDepth 1000000
namespace Go.Tw
open Go.Vx Go.Vx.B Go.Proofs
noncomputable section
def zI_m(n:Nat)(l:List (Q3))(xp:Q3):Option (List (Q3)×Unit):=
  (bif decide (l.length<=memMax)then (bif decide (l.length+(1:Nat)<=memMax)then some (l++[xp],())else none)else none)
def zI_M(l:List (Q3))(xp:Q3):Option (List (Q3)×Unit):=zI_m 0 l xp
abbrev zI_e:Entry:={ f:=185,args:=.pair t57 (.pair t64 .unit),rS:=.pair t57 .unit,m:=λ x=>zI_M x.1 x.2.1 }
theorem yRj:FnOK Tryz.prog zI_e:=fF (mu:=[6]) 0 Tryz.f185 (λ n x=>zI_m n x.1 x.2.1) [] (yE yRB eNil)
def zH_m(n:Nat)(l:List (Q6))(xp:Q6):Option (List (Q6)×Unit):=
  (bif decide (l.length<=memMax)then (bif decide (l.length+(1:Nat)<=memMax)then some (l++[xp],())else none)else none)
def zH_M(l:List (Q6))(xp:Q6):Option (List (Q6)×Unit):=zH_m 0 l xp
abbrev zH_e:Entry:={ f:=194,args:=.pair t58 (.pair t102 .unit),rS:=.pair t58 .unit,m:=λ x=>zH_M x.1 x.2.1 }
theorem yRA:FnOK Tryz.prog zH_e:=fF (mu:=[6]) 0 Tryz.f194 (λ n x=>zH_m n x.1 x.2.1) [] (yE yRD eNil)
def yOm(n:Nat)(l:List (Q2)):Option ((Q1)×Int×Int×Unit):=
  ((yLM l).bind λ v0=>some (v0.2.1,v0.2.2.1,v0.2.2.2.1,()))
def yKa(l:List (Q2)):Option ((Q1)×Int×Int×Unit):=yOm 0 l
abbrev z0R_e:Entry:={ f:=19,args:=.pair t22 .unit,rS:=.pair t41 (.pair t3 (.pair t3 .unit)),m:=λ x=>yKa x.1 }
theorem yP0:FnOK Tryz.prog z0R_e:=fF 0 Tryz.f19 (λ n x=>yOm n x.1) [] (yE yQM eNil)
abbrev yOx:Ty:=.unit
abbrev yPl:Ty:=.pair t178 .unit
def yQg:G:={ T:=T,E:=[],mU:=[],fz:=[] }
def yQt:List (List Nat):=[]
def yMb(n:Nat):Ann:={ keep:=yQt,fuel:=n,inl:=[],deep:=0 }
def yKk(n:Nat)  : Option (List (List UInt8×List Int×Nat×Unit)×Unit):=
  some ([([(103:UInt8),97,116,101],[(1:Int),(1:Int)],(148:Nat)+(1:Nat),()),([(114:UInt8),117,108,101],[(0:Int),(3:Int)],(149:Nat)+(1:Nat),()),([(102:UInt8),111,114,101,99,97,115,116],[(0:Int),(3:Int)],(150:Nat)+(1:Nat),()),([(108:UInt8),101,118,101,108],[(1:Int),(2:Int)],(151:Nat)+(1:Nat),()),([(100:UInt8),101,99,105,100,101],[(1:Int),(1:Int)],(152:Nat)+(1:Nat),()),([(111:UInt8),118,101,114,114,105,100,101],[(1:Int),(1:Int)],(153:Nat)+(1:Nat),()),([(99:UInt8),111,109,109,97,110,100],[(2:Int),(2:Int)],(154:Nat)+(1:Nat),()),([(108:UInt8),111,99,107],[(2:Int),(1:Int)],(155:Nat)+(1:Nat),()),([(117:UInt8),110,108,111,99,107],[(2:Int),(1:Int)],(156:Nat)+(1:Nat),()),([(101:UInt8),110,116,101,114],[(1:Int),(1:Int)],(157:Nat)+(1:Nat),()),([(108:UInt8),101,97,118,101],[(1:Int),(1:Int)],(158:Nat)+(1:Nat),()),([(105:UInt8),115,115,117,101],[(1:Int),(1:Int)],(159:Nat)+(1:Nat),()),([(117:UInt8),110,100,111],[(0:Int),(0:Int)],(0:Nat),())],())
theorem yPU(n:Nat)(x:yOx.den):runF yQg (yMb n) Tryz.f92 yOx yPl x=yKk n:=by kernel_rfl
def z0L  : (List (List UInt8×List Int×Nat×Unit)×Unit):=
  ([([(103:UInt8),97,116,101],[(1:Int),(1:Int)],(148:Nat)+(1:Nat),()),([(114:UInt8),117,108,101],[(0:Int),(3:Int)],(149:Nat)+(1:Nat),()),([(102:UInt8),111,114,101,99,97,115,116],[(0:Int),(3:Int)],(150:Nat)+(1:Nat),()),([(108:UInt8),101,118,101,108],[(1:Int),(2:Int)],(151:Nat)+(1:Nat),()),([(100:UInt8),101,99,105,100,101],[(1:Int),(1:Int)],(152:Nat)+(1:Nat),()),([(111:UInt8),118,101,114,114,105,100,101],[(1:Int),(1:Int)],(153:Nat)+(1:Nat),()),([(99:UInt8),111,109,109,97,110,100],[(2:Int),(2:Int)],(154:Nat)+(1:Nat),()),([(108:UInt8),111,99,107],[(2:Int),(1:Int)],(155:Nat)+(1:Nat),()),([(117:UInt8),110,108,111,99,107],[(2:Int),(1:Int)],(156:Nat)+(1:Nat),()),([(101:UInt8),110,116,101,114],[(1:Int),(1:Int)],(157:Nat)+(1:Nat),()),([(108:UInt8),101,97,118,101],[(1:Int),(1:Int)],(158:Nat)+(1:Nat),()),([(105:UInt8),115,115,117,101],[(1:Int),(1:Int)],(159:Nat)+(1:Nat),()),([(117:UInt8),110,100,111],[(0:Int),(0:Int)],(0:Nat),())],())
abbrev yQ4  : Option (List (List UInt8×List Int×Nat×Unit)×Unit):=some (z0L)
theorem yNU(y:List (List UInt8×List Int×Nat×Unit)×Unit)(h:yQ4=some y):∃ n,yKk n=some y:=
  ⟨0,by rw[<- h];show yKk 0=some (z0L);unfold yKk z0L;first|rfl|(simp only[yH];done)|(simp only[yH];rfl)⟩
def z0L_e:Entry:={ f:=92,args:=yOx,rS:=yPl,m:=λ x=>yQ4 }
theorem yHd:FnOK Tryz.prog z0L_e:=yEQ (g:=yQg) (fn:=Tryz.f92) y1i y7D eNil (by kernel_rfl) (by kernel_rfl) (by kernel_rfl) (λ x y h=>let ⟨n,hn⟩:=yNU y h;⟨yMb n,iNil,(yPU n x).trans hn⟩)
end
end Go.Tw
end
