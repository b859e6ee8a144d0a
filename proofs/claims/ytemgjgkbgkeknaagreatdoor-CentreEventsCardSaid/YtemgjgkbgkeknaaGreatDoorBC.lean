import Derived.Test.YtemgjgkbgkeknaaGreatDoorBT
import Derived.Test.YtemgjgkbgkeknaaGreatDoorB0
import Derived.Test.YtemgjgkbgkeknaaGreatDoorSB
import Derived.Test.YtemgjgkbgkeknaaGreatDoorLZ
import Derived.Test.YtemgjgkbgkeknaaGreatDoorBA
set_option linter.all false
open Go.IntKind (i64)
section
set_option maxRecDepth 1000000
namespace Go.Tw
open Go.Vx Go.Vx.B Go.Proofs
noncomputable section
abbrev yMg:Ty:=.pair t41 (.pair t56 .unit)
abbrev yNw:Ty:=.pair t41 (.pair t3 .unit)
def yPR:G:={ T:=T,E:=[z0R_e,zz_e],mU:=[2,59],fz:=[],sep:=[3] }
def yQR:List (List Nat):=[]
def yOt(n:Nat):Ann:={ keep:=yQR,fuel:=n,inl:=[],deep:=0 }
def y8i(n:Nat)(rp:Q1)(e:Q2):Option ((Q1)×Int×Unit):=
  ((idx e.2.2.2.1 (1:Int)).bind λ v16=>(bif decide (v16 > 4096)then some (rp,(3:Int),())else ((idx e.2.2.1 (0:Int)).bind λ v17=>(bif v17==[(115:UInt8),101,97]then ((idx e.2.2.2.1 (1:Int)).bind λ v18=>some ((rp.1,rp.2.1,rp.2.2.1,rp.2.2.2.1,v18,rp.2.2.2.2.2),(0:Int),()))else ((idx e.2.2.2.1 (1:Int)).bind λ v19=>some ((rp.1,rp.2.1,rp.2.2.1,rp.2.2.2.1,rp.2.2.2.2.1,v19,rp.2.2.2.2.2.2),(0:Int),()))))))
def yFt(n:Nat)(rp:Q1)(e:Q2):Option ((Q1)×Int×Unit):=
  (bif e.2.1==[(103:UInt8),97,116,101]then ((idx e.2.2.1 (0:Int)).bind λ v0=>((yCo rp v0).bind λ v1=>(bif decide (v1.1 >= 0)then some (rp,(9:Int),())else (bif decide ((↑rp.2.2.2.2.2.2.2.2.1.length:Int) >= 16)then some (rp,(5:Int),())else (bif decide ((0:Nat)+rp.2.2.2.2.2.2.2.2.1.length<=memMax)then ((idx e.2.2.1 (0:Int)).bind λ v2=>(bif decide (rp.2.2.2.2.2.2.2.2.1.length+(1:Nat)<=memMax)then some ((rp.1,rp.2.1,rp.2.2.1,rp.2.2.2.1,rp.2.2.2.2.1,rp.2.2.2.2.2.1,rp.2.2.2.2.2.2.1,rp.2.2.2.2.2.2.2.1,rp.2.2.2.2.2.2.2.2.1++[(v2,Bool.false,(0:Int),[],[],())],rp.2.2.2.2.2.2.2.2.2),(0:Int),())else none))else none)))))else (bif e.2.1==[(114:UInt8),117,108,101]then ((idx e.2.2.2.1 (1:Int)).bind λ v3=>((idx e.2.2.2.1 (2:Int)).bind λ v4=>(bif (zz (v3,v4,())).1 != 0 then some (rp,(zz (v3,v4,())).1,())else some ((rp.1,(v3,v4,()),rp.2.2),(0:Int),()))))else (bif e.2.1==[(102:UInt8),111,114,101,99,97,115,116]then ((idx e.2.2.2.1 (2:Int)).bind λ v5=>(bif decide (v5 > 4096)then some (rp,(3:Int),())else ((idx e.2.2.2.1 (1:Int)).bind λ v6=>(bif decide (v6<=rp.2.2.1)then some (rp,(21:Int),())else ((idx e.2.2.2.1 (1:Int)).bind λ v7=>((idx e.2.2.2.1 (2:Int)).bind λ v8=>some ((rp.1,rp.2.1,v7,v8,rp.2.2.2.2),(0:Int),())))))))else ((idx e.2.2.1 (0:Int)).bind λ v9=>(bif !v9==[(115:UInt8),101,97]then ((idx e.2.2.1 (0:Int)).bind λ v10=>(bif !v10==[(98:UInt8),97,115,105,110]then some (rp,(13:Int),())else (y8i n rp e)))else (y8i n rp e))))))
theorem yOV(n:Nat)(x:yMg.den):runF yPR (yOt n) Tryz.f76 yMg yNw x=yFt n x.1 x.2.1:=by kernel_rfl
def y90(rp:Q1)(e:Q2):Option ((Q1)×Int×Unit):=yFt 0 rp e
def z0l_e:Entry:={ f:=76,args:=yMg,rS:=yNw,m:=λ x=>y90 x.1 x.2.1 }
theorem yP8:FnOK Tryz.prog z0l_e:=yEq 0 (g:=yPR) (fn:=Tryz.f76) (yC yH0 (yC yQ9 eNil)) (λ _=>iNil) yOV
def yOf(n:Nat)(e:Q2):Option (List UInt8×Unit):=
  ((yOA e).bind λ v0=>(bif decide (v0.1.length+(1:Nat) < strMax)then ((zx_M v0.1).bind λ v1=>(bif decide ((v0.1++[(35:UInt8)]).length+v1.1.length < strMax)then (bif decide ((v0.1++[(35:UInt8)]++v1.1).length+(1:Nat) < strMax)then some (v0.1++[(35:UInt8)]++v1.1++[(10:UInt8)],())else none)else none))else none))
def yQP(e:Q2):Option (List UInt8×Unit):=yOf 0 e
abbrev z0B_e:Entry:={ f:=79,args:=.pair t56 .unit,rS:=.pair t9 .unit,m:=λ x=>yQP x.1 }
theorem yOP:FnOK Tryz.prog z0B_e:=fF 0 Tryz.f79 (λ n x=>yOf n x.1) [] (yC yO6 (yC yNr eNil))
def zZ_m(n:Nat)(np:Int):Option (Int×Unit):=
  some ((z0D np (0:Int) (999999999:Int)).1,())
def zZ(np:Int):(Int×Unit):=
  ((z0D np (0:Int) (999999999:Int)).1,())
abbrev zZ_M (np:Int):Option (Int×Unit):=some (zZ np)
abbrev zZ_e:Entry:={ f:=104,args:=.pair t3 .unit,rS:=.pair t29 .unit,m:=λ x=>zZ_M x.1 }
theorem yPi:FnOK Tryz.prog zZ_e:=fF (hm:=by intro x;show some (zZ x.1)=zZ_m 0 x.1;unfold zZ_m zZ;first|rfl|(simp only[yF];done)|(simp only[yF];rfl)) 0 Tryz.f104 (λ n x=>zZ_m n x.1) [] (yC yEI eNil)
def zL_m(n:Nat)(rp:Q1)(thing:List UInt8):Option (Int×Unit):=
  ((zS_M rp thing).bind λ v0=>(bif decide (v0.1 >= 0)then ((idx rp.2.2.2.2.2.2.2.2.2.2.1 v0.1).bind λ v1=>some (v1.2.1,()))else some ((0:Int),())))
def zL_M(rp:Q1)(thing:List UInt8):Option (Int×Unit):=zL_m 0 rp thing
abbrev zL_e:Entry:={ f:=109,args:=.pair t60 (.pair t9 .unit),rS:=.pair t3 .unit,m:=λ x=>zL_M x.1 x.2.1 }
theorem yPa:FnOK Tryz.prog zL_e:=fF 0 Tryz.f109 (λ n x=>zL_m n x.1 x.2.1) [] (yC yOv eNil)
def zd_m(n:Nat)(np:Int):Option (Int×Unit):=
  some ((z0D np (0:Int) (4096:Int)).1,())
def zd(np:Int):(Int×Unit):=
  ((z0D np (0:Int) (4096:Int)).1,())
abbrev zd_M (np:Int):Option (Int×Unit):=some (zd np)
abbrev zd_e:Entry:={ f:=114,args:=.pair t3 .unit,rS:=.pair t29 .unit,m:=λ x=>zd_M x.1 }
theorem yOi:FnOK Tryz.prog zd_e:=fF (hm:=by intro x;show some (zd x.1)=zd_m 0 x.1;unfold zd_m zd;first|rfl|(simp only[yF];done)|(simp only[yF];rfl)) 0 Tryz.f114 (λ n x=>zd_m n x.1) [] (yC yEI eNil)
def il182:Inl:={ f:=182,fn:=Tryz.f182,keep:=[],mU:=[],fz:=[] }
theorem yKT:yn Tryz.prog il182:=⟨by kernel_rfl,by kernel_rfl,λ e0 h=>by cases (show (none:Option LibK)=some e0 from h)⟩
def il212:Inl:={ f:=212,fn:=Tryz.f212,keep:=[[0,2,7,8,9]],mU:=[],fz:=[] }
theorem yKF:yn Tryz.prog il212:=⟨by kernel_rfl,by kernel_rfl,λ e0 h=>by cases (show (none:Option LibK)=some e0 from h)⟩
def yIB(n:Nat)(r0:((Q3)×Unit->Option (Bool×Unit))->List (Q3)->Int->Int->Q1->((Q3)×Unit->Option (Bool×Unit))->Q1->Q1->((Q3)×Unit->Option (Bool×Unit))->Q1->((Q3)×Unit->Option (Bool×Unit))->List (List UInt8)->Q1->((Q3)×Unit->Option (Bool×Unit))->Q1->Q1->((Q3)×Unit->Option (Bool×Unit))->Q1->((Q3)×Unit->Option (Bool×Unit))->Option (List (List UInt8)×Unit))(aG:(Q3)×Unit->Option (Bool×Unit))(aD:List (Q3))(aN aM:Int)(aw:Q1)(ax:(Q3)×Unit->Option (Bool×Unit))(ay az:Q1)(aA:(Q3)×Unit->Option (Bool×Unit))(au:Q1)(av:(Q3)×Unit->Option (Bool×Unit))(aF:List (List UInt8))(aH:Q1)(aI:(Q3)×Unit->Option (Bool×Unit))(aJ aK:Q1)(aL:(Q3)×Unit->Option (Bool×Unit))(aB:Q1)(aC:(Q3)×Unit->Option (Bool×Unit)):Option (List (List UInt8)×Unit):=
  (bif decide (aM < aN)then ((idx aD aM).bind λ v1=>((aG (v1,())).bind λ v2=>(bif v2.1 then (bif decide (aF.length+(1:Nat)<=memMax)then r0 aG aD aN (i64.wrap (aM+1)) aw ax ay az aA au av (aF++[(zp v1).1]) aH aI aJ aK aL aB aC else none)else r0 aG aD aN (i64.wrap (aM+1)) aw ax ay az aA au av aF aH aI aJ aK aL aB aC)))else some (aF,()))
def yAx(n k:Nat)(aG:(Q3)×Unit->Option (Bool×Unit))(aD:List (Q3))(aN aM:Int)(aw:Q1)(ax:(Q3)×Unit->Option (Bool×Unit))(ay az:Q1)(aA:(Q3)×Unit->Option (Bool×Unit))(au:Q1)(av:(Q3)×Unit->Option (Bool×Unit))(aF:List (List UInt8))(aH:Q1)(aI:(Q3)×Unit->Option (Bool×Unit))(aJ aK:Q1)(aL:(Q3)×Unit->Option (Bool×Unit))(aB:Q1)(aC:(Q3)×Unit->Option (Bool×Unit)):Option (List (List UInt8)×Unit):=
  iter (λ r y=>yIB n (λ aG aD aN aM aw ax ay az aA au av aF aH aI aJ aK aL aB aC=>r ((aG,(aD,(aN,(aM,())))),(((aw,(ax,(ay,(az,(aA,((au,(av,())),())))))),((),(aF,()))),(aH,(aI,(aJ,(aK,(aL,((aB,(aC,())),()))))))))) y.1.1 y.1.2.1 y.1.2.2.1 y.1.2.2.2.1 y.2.1.1.1 y.2.1.1.2.1 y.2.1.1.2.2.1 y.2.1.1.2.2.2.1 y.2.1.1.2.2.2.2.1 y.2.1.1.2.2.2.2.2.1.1 y.2.1.1.2.2.2.2.2.1.2.1 y.2.1.2.2.1 y.2.2.1 y.2.2.2.1 y.2.2.2.2.1 y.2.2.2.2.2.1 y.2.2.2.2.2.2.1 y.2.2.2.2.2.2.2.1.1 y.2.2.2.2.2.2.2.1.2.1) k ((aG,(aD,(aN,(aM,())))),(((aw,(ax,(ay,(az,(aA,((au,(av,())),())))))),((),(aF,()))),(aH,(aI,(aJ,(aK,(aL,((aB,(aC,())),()))))))))
def zR_m(n:Nat)(rp:Q1)(holds:(Q3)×Unit->Option (Bool×Unit)):Option (List (List UInt8)×Unit):=
  (yAx n n (holds) (rp.2.2.2.2.2.2.2.2.1) ((↑rp.2.2.2.2.2.2.2.2.1.length:Int)) ((0:Int)) (rp) (holds) (rp) (rp) (holds) (rp) (holds) ([]) (rp) (holds) (rp) (rp) (holds) (rp) (holds))
def yMs(aG:(Q3)×Unit->Option (Bool×Unit))(aD:List (Q3))(aw:Q1)(ax:(Q3)×Unit->Option (Bool×Unit))(ay az:Q1)(aA:(Q3)×Unit->Option (Bool×Unit))(au:Q1)(av:(Q3)×Unit->Option (Bool×Unit))(aH:Q1)(aI:(Q3)×Unit->Option (Bool×Unit))(aJ aK:Q1)(aL:(Q3)×Unit->Option (Bool×Unit))(aB:Q1)(aC:(Q3)×Unit->Option (Bool×Unit))(aM:Int)(v1:Q3)(aF:List (List UInt8)):Option ((List (List UInt8)×Unit)⊕(List (List UInt8))):=
  ((aG (v1,())).bind λ v2=>(bif v2.1 then (bif decide (aF.length+(1:Nat)<=memMax)then (some (Sum.inr (aF++[(zp v1).1])))else none)else (some (Sum.inr (aF)))))
def yOj(aG:(Q3)×Unit->Option (Bool×Unit))(aD:List (Q3))(aw:Q1)(ax:(Q3)×Unit->Option (Bool×Unit))(ay az:Q1)(aA:(Q3)×Unit->Option (Bool×Unit))(au:Q1)(av:(Q3)×Unit->Option (Bool×Unit))(aH:Q1)(aI:(Q3)×Unit->Option (Bool×Unit))(aJ aK:Q1)(aL:(Q3)×Unit->Option (Bool×Unit))(aB:Q1)(aC:(Q3)×Unit->Option (Bool×Unit))(aF:List (List UInt8)):Option (List (List UInt8)×Unit):=
  (some ((aF,())))
theorem yFi(n:Nat)(hn:big<=n)(aG:(Q3)×Unit->Option (Bool×Unit))(aD:List (Q3))(aw:Q1)(ax:(Q3)×Unit->Option (Bool×Unit))(ay az:Q1)(aA:(Q3)×Unit->Option (Bool×Unit))(au:Q1)(av:(Q3)×Unit->Option (Bool×Unit))(aH:Q1)(aI:(Q3)×Unit->Option (Bool×Unit))(aJ aK:Q1)(aL:(Q3)×Unit->Option (Bool×Unit))(aB:Q1)(aC:(Q3)×Unit->Option (Bool×Unit))(aF:List (List UInt8))(hx:List.length (aD) < lenMax):LeF some (yd (λ aO aP aE=>yMs aG aD aw ax ay az aA au av aH aI aJ aK aL aB aC aO aP aE) (λ aE=>yOj aG aD aw ax ay az aA au av aH aI aJ aK aL aB aC aE) 0 (aD) aF) (yAx n n aG aD (List.length (aD):Int) 0 aw ax ay az aA au av aF aH aI aJ aK aL aB aC):=by
  refine y0D (f:=some) (W:=λ aQ aO aE=>yAx n aQ aG aD (List.length (aD):Int) aO aw ax ay az aA au av aE aH aI aJ aK aL aB aC) (λ aQ aO aE=>?_) hx aF n (by unfold big at hn;unfold lenMax at hx;omega)
  show LeF _ _ (yIB n (yAx n aQ) aG aD (List.length (aD):Int) aO aw ax ay az aA au av aE aH aI aJ aK aL aB aC)
  exact y6 (yE λ v1=>(yE λ v2=>(y6 (y6 (y8 rfl) yY) (y8 rfl)))) (y1z (y8 rfl))
def zR_M(rp:Q1)(holds:(Q3)×Unit->Option (Bool×Unit)):Option (List (List UInt8)×Unit):=
  (bif decide (List.length (rp.2.2.2.2.2.2.2.2.1) < lenMax)then yd (λ aO aP aE=>yMs (holds) (rp.2.2.2.2.2.2.2.2.1) (rp) (holds) (rp) (rp) (holds) (rp) (holds) (rp) (holds) (rp) (rp) (holds) (rp) (holds) aO aP aE) (λ aE=>yOj (holds) (rp.2.2.2.2.2.2.2.2.1) (rp) (holds) (rp) (rp) (holds) (rp) (holds) (rp) (holds) (rp) (rp) (holds) (rp) (holds) aE) 0 (rp.2.2.2.2.2.2.2.2.1) ([])else none)
abbrev zR_e:Entry:={ f:=137,args:=.pair t60 (.pair t208 .unit),rS:=.pair t38 .unit,m:=λ x=>zR_M x.1 x.2.1 }
theorem yKR:FnOK Tryz.prog zR_e:=fBI (mu:=[5]) Tryz.f137 (λ n x=>zR_m n x.1 x.2.1) [] [il182,il212] 3 (yC yQE eNil) (yv yKT (yv yKF iNil)) λ n hn x=>(y03 λ hx=>by apply yFi n hn;exact hx)
def zk_m(n:Nat)(rp:Q1)(p1:List (List UInt8)):Option (Q6):=
  ((yMC [rp.2.2.2.1,rp.2.2.2.2.1,rp.2.2.2.2.2.1]).bind λ v0=>some (v0.1,v0.2.1,()))
def zk_M(rp:Q1)(p1:List (List UInt8)):Option (Q6):=zk_m 0 rp p1
abbrev zk_e:Entry:={ f:=142,args:=.pair t60 (.pair t38 .unit),rS:=.pair t9 (.pair t29 .unit),m:=λ x=>zk_M x.1 x.2.1 }
theorem yQO:FnOK Tryz.prog zk_e:=fF 0 Tryz.f142 (λ n x=>zk_m n x.1 x.2.1) [] (yC yId eNil)
def zm_m(n:Nat)(rp:Q1)(w:List (List UInt8)):Option (Q6):=
  ((idx w (1:Int)).bind λ v0=>((zT_M rp v0).bind λ v1=>(bif decide (v1.1 < 0)then some ([],(10:Int),())else ((idx rp.2.2.2.2.2.2.2.2.1 v1.1).bind λ v2=>((zt_M v2).bind λ v3=>some (v3.1,(0:Int),()))))))
def zm_M(rp:Q1)(w:List (List UInt8)):Option (Q6):=zm_m 0 rp w
abbrev zm_e:Entry:={ f:=145,args:=.pair t60 (.pair t38 .unit),rS:=.pair t9 (.pair t29 .unit),m:=λ x=>zm_M x.1 x.2.1 }
theorem yPh:FnOK Tryz.prog zm_e:=fF 0 Tryz.f145 (λ n x=>zm_m n x.1 x.2.1) [] (yC yN2 (yC yP9 eNil))
end
end Go.Tw
end
section
set_option maxRecDepth 1000000
namespace Go.Tw
open Go.Vx Go.Vx.B Go.Proofs
noncomputable section
def zq_m(n:Nat)(xp:Int×Int×Unit):Option (Int×Unit):=
  ((y07 [(zd xp.1).1,(zd xp.2.1).1,(z0c (decide (xp.2.1 > xp.1)) (11:Int)).1]).bind λ v0=>some (v0.1,()))
def zq_M(xp:Int×Int×Unit):Option (Int×Unit):=zq_m 0 xp
abbrev zq_e:Entry:={ f:=68,args:=.pair t33 .unit,rS:=.pair t29 .unit,m:=λ x=>zq_M x.1 }
theorem yPE:FnOK Tryz.prog zq_e:=fF 0 Tryz.f68 (λ n x=>zq_m n x.1) [] (yC yOi (yC y3Z (yC y6s eNil)))
def yBP(n:Nat)(rp:Q1)(e:Q2)(j8:Bool):Option ((Q1)×Int×Unit):=
  (bif j8 then ((yG4 rp e).bind λ v9=>((idx e.2.2.2.1 (0:Int)).bind λ v34=>some ((v34,v9.1.2.1,v9.1.2.2),v9.2.1,())))else (bif e.2.1==[(101:UInt8),110,116,101,114]then (bif e.2.1==[(101:UInt8),110,116,101,114]then ((yDU rp e).bind λ v11=>((idx e.2.2.2.1 (0:Int)).bind λ v35=>some ((v35,v11.1.2.1,v11.1.2.2),v11.2.1,())))else ((yHb rp e).bind λ v12=>((idx e.2.2.2.1 (0:Int)).bind λ v36=>some ((v36,v12.1.2.1,v12.1.2.2),v12.2.1,()))))else (bif e.2.1==[(108:UInt8),101,97,118,101]then ((yDU rp e).bind λ v13=>((idx e.2.2.2.1 (0:Int)).bind λ v37=>some ((v37,v13.1.2.1,v13.1.2.2),v13.2.1,())))else ((yHb rp e).bind λ v14=>((idx e.2.2.2.1 (0:Int)).bind λ v38=>some ((v38,v14.1.2.1,v14.1.2.2),v14.2.1,()))))))
def yBS(n:Nat)(rp:Q1)(e:Q2)(j3:Bool):Option ((Q1)×Int×Unit):=
  (bif j3 then ((idx e.2.2.1 (0:Int)).bind λ v4=>(bif !(zw v4).1 then some (rp,(13:Int),())else ((idx e.2.2.1 (0:Int)).bind λ v5=>(bif !(v5==(z0Q rp).1)==(e.2.1==[(100:UInt8),101,99,105,100,101])then some (rp,(19:Int),())else ((idx e.2.2.1 (0:Int)).bind λ v6=>((idx e.2.2.2.1 (0:Int)).bind λ v32=>some ((v32,((z0H rp v6).1.2.1.1,(z0H rp v6).1.2.1.2.1,()),(z0H rp v6).1.2.2.1,(z0H rp v6).1.2.2.2.1,(z0H rp v6).1.2.2.2.2.1,(z0H rp v6).1.2.2.2.2.2.1,(z0H rp v6).1.2.2.2.2.2.2.1,(z0H rp v6).1.2.2.2.2.2.2.2.1,(z0H rp v6).1.2.2.2.2.2.2.2.2.1,(z0H rp v6).1.2.2.2.2.2.2.2.2.2.1,(z0H rp v6).1.2.2.2.2.2.2.2.2.2.2.1,()),(0:Int),())))))))else (bif e.2.1==[(99:UInt8),111,109,109,97,110,100]then ((yJQ rp e).bind λ v7=>((idx e.2.2.2.1 (0:Int)).bind λ v33=>some ((v33,v7.1.2.1,v7.1.2.2),v7.2.1,())))else (bif e.2.1==[(108:UInt8),111,99,107]then (yBP n rp e (e.2.1==[(108:UInt8),111,99,107]))else (yBP n rp e (e.2.1==[(117:UInt8),110,108,111,99,107])))))
def y5j(n:Nat)(rp:Q1)(e:Q2)(j1:Bool):Option ((Q1)×Int×Unit):=
  (bif j1 then ((y90 rp e).bind λ v2=>((idx e.2.2.2.1 (0:Int)).bind λ v31=>some ((v31,v2.1.2.1,v2.1.2.2),v2.2.1,())))else (bif e.2.1==[(100:UInt8),101,99,105,100,101]then (yBS n rp e (e.2.1==[(100:UInt8),101,99,105,100,101]))else (yBS n rp e (e.2.1==[(111:UInt8),118,101,114,114,105,100,101]))))
def yOd(n:Nat)(rp:Q1)(e:Q2):Option ((Q1)×Int×Unit):=
  ((idx e.2.2.2.1 (0:Int)).bind λ v0=>(bif decide (v0 < rp.1)then some (rp,(20:Int),())else (bif e.2.1==[(103:UInt8),97,116,101]then (y5j n rp e (e.2.1==[(103:UInt8),97,116,101]))else (bif e.2.1==[(114:UInt8),117,108,101]then (y5j n rp e (e.2.1==[(114:UInt8),117,108,101]))else (bif e.2.1==[(102:UInt8),111,114,101,99,97,115,116]then (y5j n rp e (e.2.1==[(102:UInt8),111,114,101,99,97,115,116]))else (y5j n rp e (e.2.1==[(108:UInt8),101,118,101,108])))))))
def yCJ(rp:Q1)(e:Q2):Option ((Q1)×Int×Unit):=yOd 0 rp e
abbrev z0g_e:Entry:={ f:=74,args:=.pair t41 (.pair t56 .unit),rS:=.pair t41 (.pair t3 .unit),m:=λ x=>yCJ x.1 x.2.1 }
theorem yP5:FnOK Tryz.prog z0g_e:=fF 0 Tryz.f74 (λ n x=>yOd n x.1 x.2.1) [] (yC yP8 (yC yQ2 (yC yPD (yC yOy (yC yPC (yC yOB (yC yO3 (yC yO8 eNil))))))))
def zh_m(n:Nat)(rp:Q1)(p1:List (List UInt8)):Option (Q6):=
  ((zR_M rp λ (x:(Q3)×Unit)=>zO_M x.1).bind λ v0=>((yFB v0.1).bind λ v1=>some (v1.1,v1.2.1,())))
def zh_M(rp:Q1)(p1:List (List UInt8)):Option (Q6):=zh_m 0 rp p1
abbrev zh_e:Entry:={ f:=136,args:=.pair t60 (.pair t38 .unit),rS:=.pair t9 (.pair t29 .unit),m:=λ x=>zh_M x.1 x.2.1 }
theorem yPe:FnOK Tryz.prog zh_e:=fF 0 Tryz.f136 (λ n x=>zh_m n x.1 x.2.1) [] (yC yKR (yC yNW (yC y9a eNil)))
def zj_m(n:Nat)(rp:Q1)(p1:List (List UInt8)):Option (Q6):=
  ((zR_M rp λ (x:(Q3)×Unit)=>zc_M x.1).bind λ v0=>((yFB v0.1).bind λ v1=>some (v1.1,v1.2.1,())))
def zj_M(rp:Q1)(p1:List (List UInt8)):Option (Q6):=zj_m 0 rp p1
abbrev zj_e:Entry:={ f:=140,args:=.pair t60 (.pair t38 .unit),rS:=.pair t9 (.pair t29 .unit),m:=λ x=>zj_M x.1 x.2.1 }
theorem yQH:FnOK Tryz.prog zj_e:=fF 0 Tryz.f140 (λ n x=>zj_m n x.1 x.2.1) [] (yC yKR (yC yPO (yC y9a eNil)))
def zl_m(n:Nat)(rp:Q1)(w:List (List UInt8)):Option (Q6):=
  ((idx w (1:Int)).bind λ v0=>((yHp v0).bind λ v1=>(bif !v1.1 then some ([],(8:Int),())else ((idx w (1:Int)).bind λ v2=>((zL_M rp v2).bind λ v3=>((yMC [v3.1]).bind λ v4=>some (v4.1,v4.2.1,())))))))
def zl_M(rp:Q1)(w:List (List UInt8)):Option (Q6):=zl_m 0 rp w
abbrev zl_e:Entry:={ f:=144,args:=.pair t60 (.pair t38 .unit),rS:=.pair t9 (.pair t29 .unit),m:=λ x=>zl_M x.1 x.2.1 }
theorem yQ1:FnOK Tryz.prog zl_e:=fF 0 Tryz.f144 (λ n x=>zl_m n x.1 x.2.1) [] (yC yHU (yC yPa (yC yId eNil)))
end
end Go.Tw
end
section
set_option maxRecDepth 1000000
namespace Go.Tw
open Go.Vx Go.Vx.B Go.Proofs
noncomputable section
def y84(n:Nat)(r0:List (Q2)->List (Q2)->List (Q1)->Int->Int->Int->Int->Int->Int->Int->Int->List UInt8->Int->Option (List (Q2)×(Q1)×Int×Int×Unit))(aq a7:List (Q2))(a8:List (Q1))(ar aa ac ae af ah ai aj:Int)(ak:List UInt8)(am j20 j21 j22 j23 j24 j25 j26:Int)(j27:List UInt8)(j28:Int)(j29:List (Q3))(j30:List (List UInt8))(j31:List (Q6))(j32:Int):Option (List (Q2)×(Q1)×Int×Int×Unit):=
  (bif j32 != 0 then some ([],((0:Int),((0:Int),(0:Int),()),(0:Int),(0:Int),(0:Int),(0:Int),[],(0:Int),[],[],[],()),i64.wrap (ar+1),j32,())else (bif decide ((0:Nat)+a7.length<=memMax)then ((idx aq ar).bind λ v33=>(bif decide (a7.length+(1:Nat)<=memMax)then (bif decide ((0:Nat)+a8.length<=memMax)then (bif decide (a8.length+(1:Nat)<=memMax)then r0 aq (a7++[v33]) (a8++[(j20,(j21,j22,()),j23,j24,j25,j26,j27,j28,j29,j30,j31,())]) (i64.wrap (ar+1)) aa ac ae af ah ai aj ak am else none)else none)else none))else none))
def y5d(n:Nat)(r0:List (Q2)->List (Q2)->List (Q1)->Int->Int->Int->Int->Int->Int->Int->Int->List UInt8->Int->Option (List (Q2)×(Q1)×Int×Int×Unit))(aq a7:List (Q2))(a8:List (Q1))(ar aa ac ae af ah ai aj:Int)(ak:List UInt8)(am j14:Int):Option (List (Q2)×(Q1)×Int×Int×Unit):=
  (bif j14==0 then ((idx a8 (↑a7.length:Int)).bind λ v17=>((idx aq ar).bind λ v18=>((yCJ v17 v18).bind λ v19=>(y84 n r0 aq a7 a8 ar aa ac ae af ah ai aj ak am (v19.1.1) (v19.1.2.1.1) (v19.1.2.1.2.1) (v19.1.2.2.1) (v19.1.2.2.2.1) (v19.1.2.2.2.2.1) (v19.1.2.2.2.2.2.1) (v19.1.2.2.2.2.2.2.1) (v19.1.2.2.2.2.2.2.2.1) (v19.1.2.2.2.2.2.2.2.2.1) (v19.1.2.2.2.2.2.2.2.2.2.1) (v19.1.2.2.2.2.2.2.2.2.2.2.1) (v19.2.1)))))else (y84 n r0 aq a7 a8 ar aa ac ae af ah ai aj ak am ((0:Int)) ((0:Int)) ((0:Int)) ((0:Int)) ((0:Int)) ((0:Int)) ((0:Int)) ([]) ((0:Int)) ([]) ([]) ([]) (j14)))
def y8W(n:Nat)(r0:List (Q2)->List (Q2)->List (Q1)->Int->Int->Int->Int->Int->Int->Int->Int->List UInt8->Int->Option (List (Q2)×(Q1)×Int×Int×Unit))(aq a7:List (Q2))(a8:List (Q1))(ar aa ac ae af ah ai aj:Int)(ak:List UInt8)(am j6:Int)(j11:Bool):Option (List (Q2)×(Q1)×Int×Int×Unit):=
  (bif j11 then (bif (↑a7.length:Int)==0 then (y5d n r0 aq a7 a8 ar aa ac ae af ah ai aj ak am ((12:Int)))else ((idx a7 (i64.wrap ((↑a7.length:Int) - (1:Int)))).bind λ v12=>(bif v12.2.1==[(99:UInt8),111,109,109,97,110,100]then (y5d n r0 aq a7 a8 ar aa ac ae af ah ai aj ak am ((19:Int)))else (bif decide ((0:Int)<=i64.wrap ((↑a7.length:Int) - (1:Int))) && decide (i64.wrap ((↑a7.length:Int) - (1:Int))<=(↑a7.length:Int))then (bif decide ((0:Int)<=(↑a7.length:Int)) && decide ((↑a7.length:Int)<=(↑a8.length:Int))then r0 aq (List.take (i64.wrap ((↑a7.length:Int) - (1:Int))).toNat a7) (List.take (↑a7.length:Int).toNat a8) (i64.wrap (ar+1)) aa ac ae af ah ai aj ak am else none)else none))))else (y5d n r0 aq a7 a8 ar aa ac ae af ah ai aj ak am (j6)))
def y5g(n:Nat)(r0:List (Q2)->List (Q2)->List (Q1)->Int->Int->Int->Int->Int->Int->Int->Int->List UInt8->Int->Option (List (Q2)×(Q1)×Int×Int×Unit))(aq a7:List (Q2))(a8:List (Q1))(ar aa ac ae af ah ai aj:Int)(ak:List UInt8)(am j6:Int):Option (List (Q2)×(Q1)×Int×Int×Unit):=
  (bif j6==0 then ((idx aq ar).bind λ v9=>(y8W n r0 aq a7 a8 ar aa ac ae af ah ai aj ak am j6 (v9.2.1==[(117:UInt8),110,100,111])))else (y8W n r0 aq a7 a8 ar aa ac ae af ah ai aj ak am j6 (Bool.false)))
def yES(n:Nat)(r0:List (Q2)->List (Q2)->List (Q1)->Int->Int->Int->Int->Int->Int->Int->Int->List UInt8->Int->Option (List (Q2)×(Q1)×Int×Int×Unit))(aq a7:List (Q2))(a8:List (Q1))(ar aa ac ae af ah ai aj:Int)(ak:List UInt8)(am:Int):Option (List (Q2)×(Q1)×Int×Int×Unit):=
  (bif decide (ar < (↑aq.length:Int))then ((idx aq ar).bind λ v1=>((zv_M v1).bind λ v2=>(bif v2.1==0 then ((idx aq ar).bind λ v3=>(bif v3.1 != i64.wrap (ar+1)then (y5g n r0 aq a7 a8 ar aa ac ae af ah ai aj ak am ((11:Int)))else (y5g n r0 aq a7 a8 ar aa ac ae af ah ai aj ak am (v2.1))))else (y5g n r0 aq a7 a8 ar aa ac ae af ah ai aj ak am (v2.1)))))else ((idx a8 (↑a7.length:Int)).bind λ v37=>some (a7,v37,(0:Int),(0:Int),())))
def y7T(n k:Nat)(aq a7:List (Q2))(a8:List (Q1))(ar aa ac ae af ah ai aj:Int)(ak:List UInt8)(am:Int):Option (List (Q2)×(Q1)×Int×Int×Unit):=
  iter (λ r y=>yES n (λ aq a7 a8 ar aa ac ae af ah ai aj ak am=>r ((aq,(a7,(a8,(ar,())))),(((aa,(ac,(ae,(af,(ah,(ai,(aj,(ak,(am,()))))))))),()),()))) y.1.1 y.1.2.1 y.1.2.2.1 y.1.2.2.2.1 y.2.1.1.1 y.2.1.1.2.1 y.2.1.1.2.2.1 y.2.1.1.2.2.2.1 y.2.1.1.2.2.2.2.1 y.2.1.1.2.2.2.2.2.1 y.2.1.1.2.2.2.2.2.2.1 y.2.1.1.2.2.2.2.2.2.2.1 y.2.1.1.2.2.2.2.2.2.2.2.1) k ((aq,(a7,(a8,(ar,())))),(((aa,(ac,(ae,(af,(ah,(ai,(aj,(ak,(am,()))))))))),()),()))
def yQ7(n:Nat)(l:List (Q2)):Option (List (Q2)×(Q1)×Int×Int×Unit):=
  (bif decide ((↑l.length:Int) > 1000)then some ([],((0:Int),((0:Int),(0:Int),()),(0:Int),(0:Int),(0:Int),(0:Int),[],(0:Int),[],[],[],()),(0:Int),(5:Int),())else (y7T n n (l) ([]) ([z0e.1]) ((0:Int)) ((0:Int)) ((0:Int)) ((0:Int)) ((0:Int)) ((0:Int)) ((0:Int)) ((0:Int)) ([]) ((0:Int))))
def y8U(aq a7:List (Q2))(a8:List (Q1))(ar aa ac ae af ah ai aj:Int)(ak:List UInt8)(am j20 j21 j22 j23 j24 j25 j26:Int)(j27:List UInt8)(j28:Int)(j29:List (Q3))(j30:List (List UInt8))(j31:List (Q6))(j32:Int):Option ((List (Q2)×(Q1)×Int×Int×Unit)⊕((List (Q2))×(List (Q1)))):=
  (bif j32 != 0 then (some (Sum.inl (([],((0:Int),((0:Int),(0:Int),()),(0:Int),(0:Int),(0:Int),(0:Int),[],(0:Int),[],[],[],()),i64.wrap (ar+1),j32,()))))else (bif decide ((0:Nat)+a7.length<=memMax)then ((idx aq ar).bind λ v33=>(bif decide (a7.length+(1:Nat)<=memMax)then (bif decide ((0:Nat)+a8.length<=memMax)then (bif decide (a8.length+(1:Nat)<=memMax)then (some (Sum.inr ((a7++[v33]),(a8++[(j20,(j21,j22,()),j23,j24,j25,j26,j27,j28,j29,j30,j31,())]))))else none)else none)else none))else none))
theorem y3b(n:Nat)(hn:big<=n)(r0:List (Q2)->List (Q2)->List (Q1)->Int->Int->Int->Int->Int->Int->Int->Int->List UInt8->Int->Option (List (Q2)×(Q1)×Int×Int×Unit))(aq a7:List (Q2))(a8:List (Q1))(ar aa ac ae af ah ai aj:Int)(ak:List UInt8)(am j20 j21 j22 j23 j24 j25 j26:Int)(j27:List UInt8)(j28:Int)(j29:List (Q3))(j30:List (List UInt8))(j31:List (Q6))(j32:Int):LeF (elim some λ (aE:((List (Q2))×(List (Q1))))=>r0 aq aE.1 aE.2 (i64.wrap (ar+1)) aa ac ae af ah ai aj ak am) (y8U aq a7 a8 ar aa ac ae af ah ai aj ak am j20 j21 j22 j23 j24 j25 j26 j27 j28 j29 j30 j31 j32) (y84 n r0 aq a7 a8 ar aa ac ae af ah ai aj ak am j20 j21 j22 j23 j24 j25 j26 j27 j28 j29 j30 j31 j32):=
  (y6 (y8 rfl) (y6 (yE λ v33=>(y6 (y6 (y6 (y8 rfl) yY) yY) yY)) yY))
def y51(aq a7:List (Q2))(a8:List (Q1))(ar aa ac ae af ah ai aj:Int)(ak:List UInt8)(am j14:Int):Option ((List (Q2)×(Q1)×Int×Int×Unit)⊕((List (Q2))×(List (Q1)))):=
  (bif j14==0 then ((idx a8 (↑a7.length:Int)).bind λ v17=>((idx aq ar).bind λ v18=>((yCJ v17 v18).bind λ v19=>(y8U aq a7 a8 ar aa ac ae af ah ai aj ak am (v19.1.1) (v19.1.2.1.1) (v19.1.2.1.2.1) (v19.1.2.2.1) (v19.1.2.2.2.1) (v19.1.2.2.2.2.1) (v19.1.2.2.2.2.2.1) (v19.1.2.2.2.2.2.2.1) (v19.1.2.2.2.2.2.2.2.1) (v19.1.2.2.2.2.2.2.2.2.1) (v19.1.2.2.2.2.2.2.2.2.2.1) (v19.1.2.2.2.2.2.2.2.2.2.2.1) (v19.2.1)))))else (y8U aq a7 a8 ar aa ac ae af ah ai aj ak am ((0:Int)) ((0:Int)) ((0:Int)) ((0:Int)) ((0:Int)) ((0:Int)) ((0:Int)) ([]) ((0:Int)) ([]) ([]) ([]) (j14)))
theorem y1v(n:Nat)(hn:big<=n)(r0:List (Q2)->List (Q2)->List (Q1)->Int->Int->Int->Int->Int->Int->Int->Int->List UInt8->Int->Option (List (Q2)×(Q1)×Int×Int×Unit))(aq a7:List (Q2))(a8:List (Q1))(ar aa ac ae af ah ai aj:Int)(ak:List UInt8)(am j14:Int):LeF (elim some λ (aE:((List (Q2))×(List (Q1))))=>r0 aq aE.1 aE.2 (i64.wrap (ar+1)) aa ac ae af ah ai aj ak am) (y51 aq a7 a8 ar aa ac ae af ah ai aj ak am j14) (y5d n r0 aq a7 a8 ar aa ac ae af ah ai aj ak am j14):=
  (y6 (yE λ v17=>(yE λ v18=>(yE λ v19=>(by apply y3b n hn)))) (by apply y3b n hn))
def y6I(aq a7:List (Q2))(a8:List (Q1))(ar aa ac ae af ah ai aj:Int)(ak:List UInt8)(am j6:Int)(j11:Bool):Option ((List (Q2)×(Q1)×Int×Int×Unit)⊕((List (Q2))×(List (Q1)))):=
  (bif j11 then (bif (↑a7.length:Int)==0 then (y51 aq a7 a8 ar aa ac ae af ah ai aj ak am ((12:Int)))else ((idx a7 (i64.wrap ((↑a7.length:Int) - (1:Int)))).bind λ v12=>(bif v12.2.1==[(99:UInt8),111,109,109,97,110,100]then (y51 aq a7 a8 ar aa ac ae af ah ai aj ak am ((19:Int)))else (bif decide ((0:Int)<=i64.wrap ((↑a7.length:Int) - (1:Int))) && decide (i64.wrap ((↑a7.length:Int) - (1:Int))<=(↑a7.length:Int))then (bif decide ((0:Int)<=(↑a7.length:Int)) && decide ((↑a7.length:Int)<=(↑a8.length:Int))then (some (Sum.inr ((List.take (i64.wrap ((↑a7.length:Int) - (1:Int))).toNat a7),(List.take (↑a7.length:Int).toNat a8))))else none)else none))))else (y51 aq a7 a8 ar aa ac ae af ah ai aj ak am (j6)))
theorem y3a(n:Nat)(hn:big<=n)(r0:List (Q2)->List (Q2)->List (Q1)->Int->Int->Int->Int->Int->Int->Int->Int->List UInt8->Int->Option (List (Q2)×(Q1)×Int×Int×Unit))(aq a7:List (Q2))(a8:List (Q1))(ar aa ac ae af ah ai aj:Int)(ak:List UInt8)(am j6:Int)(j11:Bool):LeF (elim some λ (aE:((List (Q2))×(List (Q1))))=>r0 aq aE.1 aE.2 (i64.wrap (ar+1)) aa ac ae af ah ai aj ak am) (y6I aq a7 a8 ar aa ac ae af ah ai aj ak am j6 j11) (y8W n r0 aq a7 a8 ar aa ac ae af ah ai aj ak am j6 j11):=
  (y6 (y6 (by apply y1v n hn) (yE λ v12=>(y6 (by apply y1v n hn) (y6 (y6 (y8 rfl) yY) yY)))) (by apply y1v n hn))
def y5A(aq a7:List (Q2))(a8:List (Q1))(ar aa ac ae af ah ai aj:Int)(ak:List UInt8)(am j6:Int):Option ((List (Q2)×(Q1)×Int×Int×Unit)⊕((List (Q2))×(List (Q1)))):=
  (bif j6==0 then ((idx aq ar).bind λ v9=>(y6I aq a7 a8 ar aa ac ae af ah ai aj ak am j6 (v9.2.1==[(117:UInt8),110,100,111])))else (y6I aq a7 a8 ar aa ac ae af ah ai aj ak am j6 (Bool.false)))
theorem y1x(n:Nat)(hn:big<=n)(r0:List (Q2)->List (Q2)->List (Q1)->Int->Int->Int->Int->Int->Int->Int->Int->List UInt8->Int->Option (List (Q2)×(Q1)×Int×Int×Unit))(aq a7:List (Q2))(a8:List (Q1))(ar aa ac ae af ah ai aj:Int)(ak:List UInt8)(am j6:Int):LeF (elim some λ (aE:((List (Q2))×(List (Q1))))=>r0 aq aE.1 aE.2 (i64.wrap (ar+1)) aa ac ae af ah ai aj ak am) (y5A aq a7 a8 ar aa ac ae af ah ai aj ak am j6) (y5g n r0 aq a7 a8 ar aa ac ae af ah ai aj ak am j6):=
  (y6 (yE λ v9=>(by apply y3a n hn)) (by apply y3a n hn))
def yBe(aq:List (Q2))(aa ac ae af ah ai aj:Int)(ak:List UInt8)(am ar:Int)(v1:Q2)(a7:List (Q2))(a8:List (Q1)):Option ((List (Q2)×(Q1)×Int×Int×Unit)⊕((List (Q2))×(List (Q1)))):=
  ((zv_M v1).bind λ v2=>(bif v2.1==0 then ((idx aq ar).bind λ v3=>(bif v3.1 != i64.wrap (ar+1)then (y5A aq a7 a8 ar aa ac ae af ah ai aj ak am ((11:Int)))else (y5A aq a7 a8 ar aa ac ae af ah ai aj ak am (v2.1))))else (y5A aq a7 a8 ar aa ac ae af ah ai aj ak am (v2.1))))
def yEO(aq:List (Q2))(aa ac ae af ah ai aj:Int)(ak:List UInt8)(am:Int)(a7:List (Q2))(a8:List (Q1)):Option (List (Q2)×(Q1)×Int×Int×Unit):=
  ((idx a8 (↑a7.length:Int)).bind λ v37=>(some ((a7,v37,(0:Int),(0:Int),()))))
theorem yDH(n:Nat)(hn:big<=n)(aq:List (Q2))(aa ac ae af ah ai aj:Int)(ak:List UInt8)(am:Int)(a7:List (Q2))(a8:List (Q1))(hx:List.length (aq) < lenMax):LeF some (yd (λ aO aP aE=>yBe aq aa ac ae af ah ai aj ak am aO aP aE.1 aE.2) (λ aE=>yEO aq aa ac ae af ah ai aj ak am aE.1 aE.2) 0 (aq) (a7,a8)) (y7T n n aq a7 a8 0 aa ac ae af ah ai aj ak am):=by
  refine y0D (f:=some) (W:=λ aQ aO aE=>y7T n aQ aq aE.1 aE.2 aO aa ac ae af ah ai aj ak am) (λ aQ aO aE=>?_) hx (a7,a8) n (by unfold big at hn;unfold lenMax at hx;omega)
  show LeF _ _ (yES n (y7T n aQ) aq aE.1 aE.2 aO aa ac ae af ah ai aj ak am)
  exact y6 (yE λ v1=>(yE λ v2=>(y6 (yE λ v3=>(y6 (by apply y1x n hn) (by apply y1x n hn))) (by apply y1x n hn)))) (y1z (yE λ v37=>(y8 rfl)))
def yK3(l:List (Q2)):Option (List (Q2)×(Q1)×Int×Int×Unit):=
  (bif decide ((↑l.length:Int) > 1000)then (some (([],((0:Int),((0:Int),(0:Int),()),(0:Int),(0:Int),(0:Int),(0:Int),[],(0:Int),[],[],[],()),(0:Int),(5:Int),())))else (bif decide (List.length (l) < lenMax)then yd (λ aO aP aE=>yBe (l) ((0:Int)) ((0:Int)) ((0:Int)) ((0:Int)) ((0:Int)) ((0:Int)) ((0:Int)) ([]) ((0:Int)) aO aP aE.1 aE.2) (λ aE=>yEO (l) ((0:Int)) ((0:Int)) ((0:Int)) ((0:Int)) ((0:Int)) ((0:Int)) ((0:Int)) ([]) ((0:Int)) aE.1 aE.2) 0 (l) (([]),([z0e.1]))else none))
abbrev z0m_e:Entry:={ f:=70,args:=.pair t22 .unit,rS:=.pair t22 (.pair t41 (.pair t3 (.pair t3 .unit))),m:=λ x=>yK3 x.1 }
theorem yNn:FnOK Tryz.prog z0m_e:=fB (mu:=[6,89,98]) (fz:=[97,103]) Tryz.f70 (λ n x=>yQ7 n x.1) [[0,3,6,7,8,1000006,1000007]] (yC yNm (yC yMq (yC yP5 eNil))) λ n hn x=>(y6 (y8 rfl) (y03 λ hx=>by apply yDH n hn;exact hx))
abbrev zu_a:Ty:=.unit
abbrev zu_r:Ty:=.pair t171 .unit
def zu_g:G:={ T:=T,E:=[zf_e,zg_e,zh_e,zi_e,zj_e,zk_e,zl_e,zm_e],mU:=[],fz:=[] }
def zu_k:List (List Nat):=[]
def yOE(n:Nat):Ann:={ keep:=zu_k,fuel:=n,inl:=[],deep:=0 }
def zu_m(n:Nat)  : Option (List (List UInt8×Int×Nat×Unit)×Unit):=
  some ([([(97:UInt8),100,118,105,99,101],(1:Int),(133:Nat)+(1:Nat),()),([(115:UInt8),116,97,116,101],(1:Int),(134:Nat)+(1:Nat),()),([(108:UInt8),111,119,101,114,101,100],(1:Int),(136:Nat)+(1:Nat),()),([(105:UInt8),110,115,105,100,101],(1:Int),(139:Nat)+(1:Nat),()),([(108:UInt8),111,99,107,101,100],(1:Int),(140:Nat)+(1:Nat),()),([(104:UInt8),101,105,103,104,116,115],(1:Int),(142:Nat)+(1:Nat),()),([(118:UInt8),101,114,115,105,111,110],(2:Int),(144:Nat)+(1:Nat),()),([(108:UInt8),97,115,116],(2:Int),(145:Nat)+(1:Nat),())],())
theorem yQb(n:Nat)(x:zu_a.den):runF zu_g (yOE n) Tryz.f90 zu_a zu_r x=zu_m n:=by kernel_rfl
def zu  : (List (List UInt8×Int×Nat×Unit)×Unit):=
  ([([(97:UInt8),100,118,105,99,101],(1:Int),(133:Nat)+(1:Nat),()),([(115:UInt8),116,97,116,101],(1:Int),(134:Nat)+(1:Nat),()),([(108:UInt8),111,119,101,114,101,100],(1:Int),(136:Nat)+(1:Nat),()),([(105:UInt8),110,115,105,100,101],(1:Int),(139:Nat)+(1:Nat),()),([(108:UInt8),111,99,107,101,100],(1:Int),(140:Nat)+(1:Nat),()),([(104:UInt8),101,105,103,104,116,115],(1:Int),(142:Nat)+(1:Nat),()),([(118:UInt8),101,114,115,105,111,110],(2:Int),(144:Nat)+(1:Nat),()),([(108:UInt8),97,115,116],(2:Int),(145:Nat)+(1:Nat),())],())
abbrev zu_M  : Option (List (List UInt8×Int×Nat×Unit)×Unit):=some (zu)
theorem yO1(y:List (List UInt8×Int×Nat×Unit)×Unit)(h:zu_M=some y):∃ n,zu_m n=some y:=
  ⟨0,by rw[<- h];show zu_m 0=some (zu);unfold zu_m zu;first|rfl|(simp only[yF];done)|(simp only[yF];rfl)⟩
def zu_e:Entry:={ f:=90,args:=zu_a,rS:=zu_r,m:=λ x=>zu_M }
theorem yQQ:FnOK Tryz.prog zu_e:=yD4 (g:=zu_g) (fn:=Tryz.f90) y1Z y75 (yC yQj (yC yQZ (yC yPe (yC yQl (yC yQH (yC yQO (yC yQ1 (yC yPh eNil)))))))) (by kernel_rfl) (by kernel_rfl) (by kernel_rfl) (λ x y h=>let ⟨n,hn⟩:=yO1 y h;⟨yOE n,iNil,(yQb n x).trans hn⟩)
end
end Go.Tw
end
section
set_option maxRecDepth 1000000
namespace Go.Tw
open Go.Vx Go.Vx.B Go.Proofs
noncomputable section
def zI_m(n:Nat)(l:List (Q3))(xp:Q3):Option (List (Q3)×Unit):=
  (bif decide (l.length<=memMax)then (bif decide (l.length+(1:Nat)<=memMax)then some (l++[xp],())else none)else none)
def zI_M(l:List (Q3))(xp:Q3):Option (List (Q3)×Unit):=zI_m 0 l xp
abbrev zI_e:Entry:={ f:=185,args:=.pair t57 (.pair t64 .unit),rS:=.pair t57 .unit,m:=λ x=>zI_M x.1 x.2.1 }
theorem yQY:FnOK Tryz.prog zI_e:=fF (mu:=[6]) 0 Tryz.f185 (λ n x=>zI_m n x.1 x.2.1) [] (yC yPt eNil)
def zH_m(n:Nat)(l:List (Q6))(xp:Q6):Option (List (Q6)×Unit):=
  (bif decide (l.length<=memMax)then (bif decide (l.length+(1:Nat)<=memMax)then some (l++[xp],())else none)else none)
def zH_M(l:List (Q6))(xp:Q6):Option (List (Q6)×Unit):=zH_m 0 l xp
abbrev zH_e:Entry:={ f:=194,args:=.pair t58 (.pair t102 .unit),rS:=.pair t58 .unit,m:=λ x=>zH_M x.1 x.2.1 }
theorem yPz:FnOK Tryz.prog zH_e:=fF (mu:=[6]) 0 Tryz.f194 (λ n x=>zH_m n x.1 x.2.1) [] (yC yQd eNil)
def yN3(n:Nat)(l:List (Q2)):Option ((Q1)×Int×Int×Unit):=
  ((yK3 l).bind λ v0=>some (v0.2.1,v0.2.2.1,v0.2.2.2.1,()))
def yI4(l:List (Q2)):Option ((Q1)×Int×Int×Unit):=yN3 0 l
abbrev z0S_e:Entry:={ f:=19,args:=.pair t22 .unit,rS:=.pair t41 (.pair t3 (.pair t3 .unit)),m:=λ x=>yI4 x.1 }
theorem yLX:FnOK Tryz.prog z0S_e:=fF 0 Tryz.f19 (λ n x=>yN3 n x.1) [] (yC yNn eNil)
abbrev yN0:Ty:=.unit
abbrev yOR:Ty:=.pair t178 .unit
def yOY:G:={ T:=T,E:=[],mU:=[],fz:=[] }
def yQ8:List (List Nat):=[]
def yLa(n:Nat):Ann:={ keep:=yQ8,fuel:=n,inl:=[],deep:=0 }
def yL0(n:Nat)  : Option (List (List UInt8×List Int×Nat×Unit)×Unit):=
  some ([([(103:UInt8),97,116,101],[(1:Int),(1:Int)],(148:Nat)+(1:Nat),()),([(114:UInt8),117,108,101],[(0:Int),(3:Int)],(149:Nat)+(1:Nat),()),([(102:UInt8),111,114,101,99,97,115,116],[(0:Int),(3:Int)],(150:Nat)+(1:Nat),()),([(108:UInt8),101,118,101,108],[(1:Int),(2:Int)],(151:Nat)+(1:Nat),()),([(100:UInt8),101,99,105,100,101],[(1:Int),(1:Int)],(152:Nat)+(1:Nat),()),([(111:UInt8),118,101,114,114,105,100,101],[(1:Int),(1:Int)],(153:Nat)+(1:Nat),()),([(99:UInt8),111,109,109,97,110,100],[(2:Int),(2:Int)],(154:Nat)+(1:Nat),()),([(108:UInt8),111,99,107],[(2:Int),(1:Int)],(155:Nat)+(1:Nat),()),([(117:UInt8),110,108,111,99,107],[(2:Int),(1:Int)],(156:Nat)+(1:Nat),()),([(101:UInt8),110,116,101,114],[(1:Int),(1:Int)],(157:Nat)+(1:Nat),()),([(108:UInt8),101,97,118,101],[(1:Int),(1:Int)],(158:Nat)+(1:Nat),()),([(105:UInt8),115,115,117,101],[(1:Int),(1:Int)],(159:Nat)+(1:Nat),()),([(117:UInt8),110,100,111],[(0:Int),(0:Int)],(0:Nat),())],())
theorem yOu(n:Nat)(x:yN0.den):runF yOY (yLa n) Tryz.f92 yN0 yOR x=yL0 n:=by kernel_rfl
def z0K  : (List (List UInt8×List Int×Nat×Unit)×Unit):=
  ([([(103:UInt8),97,116,101],[(1:Int),(1:Int)],(148:Nat)+(1:Nat),()),([(114:UInt8),117,108,101],[(0:Int),(3:Int)],(149:Nat)+(1:Nat),()),([(102:UInt8),111,114,101,99,97,115,116],[(0:Int),(3:Int)],(150:Nat)+(1:Nat),()),([(108:UInt8),101,118,101,108],[(1:Int),(2:Int)],(151:Nat)+(1:Nat),()),([(100:UInt8),101,99,105,100,101],[(1:Int),(1:Int)],(152:Nat)+(1:Nat),()),([(111:UInt8),118,101,114,114,105,100,101],[(1:Int),(1:Int)],(153:Nat)+(1:Nat),()),([(99:UInt8),111,109,109,97,110,100],[(2:Int),(2:Int)],(154:Nat)+(1:Nat),()),([(108:UInt8),111,99,107],[(2:Int),(1:Int)],(155:Nat)+(1:Nat),()),([(117:UInt8),110,108,111,99,107],[(2:Int),(1:Int)],(156:Nat)+(1:Nat),()),([(101:UInt8),110,116,101,114],[(1:Int),(1:Int)],(157:Nat)+(1:Nat),()),([(108:UInt8),101,97,118,101],[(1:Int),(1:Int)],(158:Nat)+(1:Nat),()),([(105:UInt8),115,115,117,101],[(1:Int),(1:Int)],(159:Nat)+(1:Nat),()),([(117:UInt8),110,100,111],[(0:Int),(0:Int)],(0:Nat),())],())
abbrev yO9  : Option (List (List UInt8×List Int×Nat×Unit)×Unit):=some (z0K)
theorem yMc(y:List (List UInt8×List Int×Nat×Unit)×Unit)(h:yO9=some y):∃ n,yL0 n=some y:=
  ⟨0,by rw[<- h];show yL0 0=some (z0K);unfold yL0 z0K;first|rfl|(simp only[yF];done)|(simp only[yF];rfl)⟩
def z0K_e:Entry:={ f:=92,args:=yN0,rS:=yOR,m:=λ x=>yO9 }
theorem yEd:FnOK Tryz.prog z0K_e:=yD4 (g:=yOY) (fn:=Tryz.f92) y1Z y75 eNil (by kernel_rfl) (by kernel_rfl) (by kernel_rfl) (λ x y h=>let ⟨n,hn⟩:=yMc y h;⟨yLa n,iNil,(yOu n x).trans hn⟩)
end
end Go.Tw
end
