import Derived.Test.YtemgjgkbgkeknaaGreatDoorBT
import Derived.Test.YtemgjgkbgkeknaaGreatDoorB0
import Derived.Test.YtemgjgkbgkeknaaGreatDoorSB
import Derived.Test.YtemgjgkbgkeknaaGreatDoorLZ
import Derived.Test.YtemgjgkbgkeknaaGreatDoorBA
set_option linter.all false
open Go.IntKind (i64)
section
set_option maxRecDepth 1000000
namespace Go.Tw
open Go.Vx Go.Vx.B Go.Proofs
noncomputable section
abbrev yMs:Ty:=.pair t41 (.pair t56 .unit)
abbrev yPk:Ty:=.pair t41 (.pair t3 .unit)
def yQ7:G:={ T:=T,E:=[z0Q_e,zz_e],mU:=[2,59],fz:=[],sep:=[3] }
def yQc:List (List Nat):=[]
def yOo(n:Nat):Ann:={ keep:=yQc,fuel:=n,inl:=[],deep:=0 }
def y8G(n:Nat)(rp:Q1)(e:Q2):Option ((Q1)×Int×Unit):=
  ((idx e.2.2.2.1 (1:Int)).bind λ v16=>(bif decide (v16 > 4096)then some (rp,(3:Int),())else ((idx e.2.2.1 (0:Int)).bind λ v17=>(bif v17==[(115:UInt8),101,97]then ((idx e.2.2.2.1 (1:Int)).bind λ v18=>some ((rp.1,rp.2.1,rp.2.2.1,rp.2.2.2.1,v18,rp.2.2.2.2.2),(0:Int),()))else ((idx e.2.2.2.1 (1:Int)).bind λ v19=>some ((rp.1,rp.2.1,rp.2.2.1,rp.2.2.2.1,rp.2.2.2.2.1,v19,rp.2.2.2.2.2.2),(0:Int),()))))))
def yGe(n:Nat)(rp:Q1)(e:Q2):Option ((Q1)×Int×Unit):=
  (bif e.2.1==[(103:UInt8),97,116,101]then ((idx e.2.2.1 (0:Int)).bind λ v0=>((yE3 rp v0).bind λ v1=>(bif decide (v1.1 >= 0)then some (rp,(9:Int),())else (bif decide ((↑rp.2.2.2.2.2.2.2.2.1.length:Int) >= 16)then some (rp,(5:Int),())else (bif decide ((0:Nat)+rp.2.2.2.2.2.2.2.2.1.length<=memMax)then ((idx e.2.2.1 (0:Int)).bind λ v2=>(bif decide (rp.2.2.2.2.2.2.2.2.1.length+(1:Nat)<=memMax)then some ((rp.1,rp.2.1,rp.2.2.1,rp.2.2.2.1,rp.2.2.2.2.1,rp.2.2.2.2.2.1,rp.2.2.2.2.2.2.1,rp.2.2.2.2.2.2.2.1,rp.2.2.2.2.2.2.2.2.1++[(v2,Bool.false,(0:Int),[],[],())],rp.2.2.2.2.2.2.2.2.2),(0:Int),())else none))else none)))))else (bif e.2.1==[(114:UInt8),117,108,101]then ((idx e.2.2.2.1 (1:Int)).bind λ v3=>((idx e.2.2.2.1 (2:Int)).bind λ v4=>(bif (zz (v3,v4,())).1 != 0 then some (rp,(zz (v3,v4,())).1,())else some ((rp.1,(v3,v4,()),rp.2.2),(0:Int),()))))else (bif e.2.1==[(102:UInt8),111,114,101,99,97,115,116]then ((idx e.2.2.2.1 (2:Int)).bind λ v5=>(bif decide (v5 > 4096)then some (rp,(3:Int),())else ((idx e.2.2.2.1 (1:Int)).bind λ v6=>(bif decide (v6<=rp.2.2.1)then some (rp,(21:Int),())else ((idx e.2.2.2.1 (1:Int)).bind λ v7=>((idx e.2.2.2.1 (2:Int)).bind λ v8=>some ((rp.1,rp.2.1,v7,v8,rp.2.2.2.2),(0:Int),())))))))else ((idx e.2.2.1 (0:Int)).bind λ v9=>(bif !v9==[(115:UInt8),101,97]then ((idx e.2.2.1 (0:Int)).bind λ v10=>(bif !v10==[(98:UInt8),97,115,105,110]then some (rp,(13:Int),())else (y8G n rp e)))else (y8G n rp e))))))
theorem yPI(n:Nat)(x:yMs.den):runF yQ7 (yOo n) Tryz.f76 yMs yPk x=yGe n x.1 x.2.1:=by kernel_rfl
def y9A(rp:Q1)(e:Q2):Option ((Q1)×Int×Unit):=yGe 0 rp e
def z0k_e:Entry:={ f:=76,args:=yMs,rS:=yPk,m:=λ x=>y9A x.1 x.2.1 }
theorem yPZ:FnOK Tryz.prog z0k_e:=yFQ 0 (g:=yQ7) (fn:=Tryz.f76) (yE yIR (yE yQx eNil)) (λ _=>iNil) yPI
def yP0(n:Nat)(e:Q2):Option (List UInt8×Unit):=
  ((yPU e).bind λ v0=>(bif decide (v0.1.length+(1:Nat) < strMax)then ((zx_M v0.1).bind λ v1=>(bif decide ((v0.1++[(35:UInt8)]).length+v1.1.length < strMax)then (bif decide ((v0.1++[(35:UInt8)]++v1.1).length+(1:Nat) < strMax)then some (v0.1++[(35:UInt8)]++v1.1++[(10:UInt8)],())else none)else none))else none))
def yQF(e:Q2):Option (List UInt8×Unit):=yP0 0 e
abbrev z0B_e:Entry:={ f:=79,args:=.pair t56 .unit,rS:=.pair t9 .unit,m:=λ x=>yQF x.1 }
theorem yPm:FnOK Tryz.prog z0B_e:=fF 0 Tryz.f79 (λ n x=>yP0 n x.1) [] (yE yPQ (yE yPf eNil))
def zZ_m(n:Nat)(np:Int):Option (Int×Unit):=
  some ((z0D np (0:Int) (999999999:Int)).1,())
def zZ(np:Int):(Int×Unit):=
  ((z0D np (0:Int) (999999999:Int)).1,())
abbrev zZ_M (np:Int):Option (Int×Unit):=some (zZ np)
abbrev zZ_e:Entry:={ f:=104,args:=.pair t3 .unit,rS:=.pair t29 .unit,m:=λ x=>zZ_M x.1 }
theorem yRQ:FnOK Tryz.prog zZ_e:=fF (hm:=by intro x;show some (zZ x.1)=zZ_m 0 x.1;unfold zZ_m zZ;first|rfl|(simp only[yG];done)|(simp only[yG];rfl)) 0 Tryz.f104 (λ n x=>zZ_m n x.1) [] (yE yFG eNil)
def zL_m(n:Nat)(rp:Q1)(thing:List UInt8):Option (Int×Unit):=
  ((zS_M rp thing).bind λ v0=>(bif decide (v0.1 >= 0)then ((idx rp.2.2.2.2.2.2.2.2.2.2.1 v0.1).bind λ v1=>some (v1.2.1,()))else some ((0:Int),())))
def zL_M(rp:Q1)(thing:List UInt8):Option (Int×Unit):=zL_m 0 rp thing
abbrev zL_e:Entry:={ f:=109,args:=.pair t60 (.pair t9 .unit),rS:=.pair t3 .unit,m:=λ x=>zL_M x.1 x.2.1 }
theorem yPu:FnOK Tryz.prog zL_e:=fF 0 Tryz.f109 (λ n x=>zL_m n x.1 x.2.1) [] (yE yOj eNil)
def zd_m(n:Nat)(np:Int):Option (Int×Unit):=
  some ((z0D np (0:Int) (4096:Int)).1,())
def zd(np:Int):(Int×Unit):=
  ((z0D np (0:Int) (4096:Int)).1,())
abbrev zd_M (np:Int):Option (Int×Unit):=some (zd np)
abbrev zd_e:Entry:={ f:=114,args:=.pair t3 .unit,rS:=.pair t29 .unit,m:=λ x=>zd_M x.1 }
theorem yPo:FnOK Tryz.prog zd_e:=fF (hm:=by intro x;show some (zd x.1)=zd_m 0 x.1;unfold zd_m zd;first|rfl|(simp only[yG];done)|(simp only[yG];rfl)) 0 Tryz.f114 (λ n x=>zd_m n x.1) [] (yE yFG eNil)
def il182:Inl:={ f:=182,fn:=Tryz.f182,keep:=[],mU:=[],fz:=[] }
theorem yJr:yn Tryz.prog il182:=⟨by kernel_rfl,by kernel_rfl,λ e0 h=>by cases (show (none:Option LibK)=some e0 from h)⟩
def il212:Inl:={ f:=212,fn:=Tryz.f212,keep:=[[0,2,7,8,9]],mU:=[],fz:=[] }
theorem yKB:yn Tryz.prog il212:=⟨by kernel_rfl,by kernel_rfl,λ e0 h=>by cases (show (none:Option LibK)=some e0 from h)⟩
def yI5(n:Nat)(r0:((Q3)×Unit->Option (Bool×Unit))->List (Q3)->Int->Int->Q1->((Q3)×Unit->Option (Bool×Unit))->Q1->Q1->((Q3)×Unit->Option (Bool×Unit))->Q1->((Q3)×Unit->Option (Bool×Unit))->List (List UInt8)->Q1->((Q3)×Unit->Option (Bool×Unit))->Q1->Q1->((Q3)×Unit->Option (Bool×Unit))->Q1->((Q3)×Unit->Option (Bool×Unit))->Option (List (List UInt8)×Unit))(aG:(Q3)×Unit->Option (Bool×Unit))(aD:List (Q3))(aN aM:Int)(aw:Q1)(ax:(Q3)×Unit->Option (Bool×Unit))(ay az:Q1)(aA:(Q3)×Unit->Option (Bool×Unit))(au:Q1)(av:(Q3)×Unit->Option (Bool×Unit))(aF:List (List UInt8))(aH:Q1)(aI:(Q3)×Unit->Option (Bool×Unit))(aJ aK:Q1)(aL:(Q3)×Unit->Option (Bool×Unit))(aB:Q1)(aC:(Q3)×Unit->Option (Bool×Unit)):Option (List (List UInt8)×Unit):=
  (bif decide (aM < aN)then ((idx aD aM).bind λ v1=>((aG (v1,())).bind λ v2=>(bif v2.1 then (bif decide (aF.length+(1:Nat)<=memMax)then r0 aG aD aN (i64.wrap (aM+1)) aw ax ay az aA au av (aF++[(zo v1).1]) aH aI aJ aK aL aB aC else none)else r0 aG aD aN (i64.wrap (aM+1)) aw ax ay az aA au av aF aH aI aJ aK aL aB aC)))else some (aF,()))
def yAB(n k:Nat)(aG:(Q3)×Unit->Option (Bool×Unit))(aD:List (Q3))(aN aM:Int)(aw:Q1)(ax:(Q3)×Unit->Option (Bool×Unit))(ay az:Q1)(aA:(Q3)×Unit->Option (Bool×Unit))(au:Q1)(av:(Q3)×Unit->Option (Bool×Unit))(aF:List (List UInt8))(aH:Q1)(aI:(Q3)×Unit->Option (Bool×Unit))(aJ aK:Q1)(aL:(Q3)×Unit->Option (Bool×Unit))(aB:Q1)(aC:(Q3)×Unit->Option (Bool×Unit)):Option (List (List UInt8)×Unit):=
  iter (λ r y=>yI5 n (λ aG aD aN aM aw ax ay az aA au av aF aH aI aJ aK aL aB aC=>r ((aG,(aD,(aN,(aM,())))),(((aw,(ax,(ay,(az,(aA,((au,(av,())),())))))),((),(aF,()))),(aH,(aI,(aJ,(aK,(aL,((aB,(aC,())),()))))))))) y.1.1 y.1.2.1 y.1.2.2.1 y.1.2.2.2.1 y.2.1.1.1 y.2.1.1.2.1 y.2.1.1.2.2.1 y.2.1.1.2.2.2.1 y.2.1.1.2.2.2.2.1 y.2.1.1.2.2.2.2.2.1.1 y.2.1.1.2.2.2.2.2.1.2.1 y.2.1.2.2.1 y.2.2.1 y.2.2.2.1 y.2.2.2.2.1 y.2.2.2.2.2.1 y.2.2.2.2.2.2.1 y.2.2.2.2.2.2.2.1.1 y.2.2.2.2.2.2.2.1.2.1) k ((aG,(aD,(aN,(aM,())))),(((aw,(ax,(ay,(az,(aA,((au,(av,())),())))))),((),(aF,()))),(aH,(aI,(aJ,(aK,(aL,((aB,(aC,())),()))))))))
def zR_m(n:Nat)(rp:Q1)(holds:(Q3)×Unit->Option (Bool×Unit)):Option (List (List UInt8)×Unit):=
  (yAB n n (holds) (rp.2.2.2.2.2.2.2.2.1) ((↑rp.2.2.2.2.2.2.2.2.1.length:Int)) ((0:Int)) (rp) (holds) (rp) (rp) (holds) (rp) (holds) ([]) (rp) (holds) (rp) (rp) (holds) (rp) (holds))
def yN2(aG:(Q3)×Unit->Option (Bool×Unit))(aD:List (Q3))(aw:Q1)(ax:(Q3)×Unit->Option (Bool×Unit))(ay az:Q1)(aA:(Q3)×Unit->Option (Bool×Unit))(au:Q1)(av:(Q3)×Unit->Option (Bool×Unit))(aH:Q1)(aI:(Q3)×Unit->Option (Bool×Unit))(aJ aK:Q1)(aL:(Q3)×Unit->Option (Bool×Unit))(aB:Q1)(aC:(Q3)×Unit->Option (Bool×Unit))(aM:Int)(v1:Q3)(aF:List (List UInt8)):Option ((List (List UInt8)×Unit)⊕(List (List UInt8))):=
  ((aG (v1,())).bind λ v2=>(bif v2.1 then (bif decide (aF.length+(1:Nat)<=memMax)then (some (Sum.inr (aF++[(zo v1).1])))else none)else (some (Sum.inr (aF)))))
def yPD(aG:(Q3)×Unit->Option (Bool×Unit))(aD:List (Q3))(aw:Q1)(ax:(Q3)×Unit->Option (Bool×Unit))(ay az:Q1)(aA:(Q3)×Unit->Option (Bool×Unit))(au:Q1)(av:(Q3)×Unit->Option (Bool×Unit))(aH:Q1)(aI:(Q3)×Unit->Option (Bool×Unit))(aJ aK:Q1)(aL:(Q3)×Unit->Option (Bool×Unit))(aB:Q1)(aC:(Q3)×Unit->Option (Bool×Unit))(aF:List (List UInt8)):Option (List (List UInt8)×Unit):=
  (some ((aF,())))
theorem yG5(n:Nat)(hn:big<=n)(aG:(Q3)×Unit->Option (Bool×Unit))(aD:List (Q3))(aw:Q1)(ax:(Q3)×Unit->Option (Bool×Unit))(ay az:Q1)(aA:(Q3)×Unit->Option (Bool×Unit))(au:Q1)(av:(Q3)×Unit->Option (Bool×Unit))(aH:Q1)(aI:(Q3)×Unit->Option (Bool×Unit))(aJ aK:Q1)(aL:(Q3)×Unit->Option (Bool×Unit))(aB:Q1)(aC:(Q3)×Unit->Option (Bool×Unit))(aF:List (List UInt8))(hx:List.length (aD) < yD):LeF some (yd (λ aO aP aE=>yN2 aG aD aw ax ay az aA au av aH aI aJ aK aL aB aC aO aP aE) (λ aE=>yPD aG aD aw ax ay az aA au av aH aI aJ aK aL aB aC aE) 0 (aD) aF) (yAB n n aG aD (List.length (aD):Int) 0 aw ax ay az aA au av aF aH aI aJ aK aL aB aC):=by
  refine y04 (f:=some) (W:=λ aQ aO aE=>yAB n aQ aG aD (List.length (aD):Int) aO aw ax ay az aA au av aE aH aI aJ aK aL aB aC) (λ aQ aO aE=>?_) hx aF n (by unfold big at hn;unfold yD at hx;omega)
  show LeF _ _ (yI5 n (yAB n aQ) aG aD (List.length (aD):Int) aO aw ax ay az aA au av aE aH aI aJ aK aL aB aC)
  exact y7 (yI λ v1=>(yI λ v2=>(y7 (y7 (y9 rfl) y01) (y9 rfl)))) (y1l (y9 rfl))
def zR_M(rp:Q1)(holds:(Q3)×Unit->Option (Bool×Unit)):Option (List (List UInt8)×Unit):=
  (bif decide (List.length (rp.2.2.2.2.2.2.2.2.1) < yD)then yd (λ aO aP aE=>yN2 (holds) (rp.2.2.2.2.2.2.2.2.1) (rp) (holds) (rp) (rp) (holds) (rp) (holds) (rp) (holds) (rp) (rp) (holds) (rp) (holds) aO aP aE) (λ aE=>yPD (holds) (rp.2.2.2.2.2.2.2.2.1) (rp) (holds) (rp) (rp) (holds) (rp) (holds) (rp) (holds) (rp) (rp) (holds) (rp) (holds) aE) 0 (rp.2.2.2.2.2.2.2.2.1) ([])else none)
abbrev zR_e:Entry:={ f:=137,args:=.pair t60 (.pair t208 .unit),rS:=.pair t38 .unit,m:=λ x=>zR_M x.1 x.2.1 }
theorem yKh:FnOK Tryz.prog zR_e:=fBI (mu:=[5]) Tryz.f137 (λ n x=>zR_m n x.1 x.2.1) [] [il182,il212] 3 (yE yR3 eNil) (y00 yJr (y00 yKB iNil)) λ n hn x=>(yy λ hx=>by apply yG5 n hn;exact hx)
def zk_m(n:Nat)(rp:Q1)(p1:List (List UInt8)):Option (Q6):=
  ((yMi [rp.2.2.2.1,rp.2.2.2.2.1,rp.2.2.2.2.2.1]).bind λ v0=>some (v0.1,v0.2.1,()))
def zk_M(rp:Q1)(p1:List (List UInt8)):Option (Q6):=zk_m 0 rp p1
abbrev zk_e:Entry:={ f:=142,args:=.pair t60 (.pair t38 .unit),rS:=.pair t9 (.pair t29 .unit),m:=λ x=>zk_M x.1 x.2.1 }
theorem yQE:FnOK Tryz.prog zk_e:=fF 0 Tryz.f142 (λ n x=>zk_m n x.1 x.2.1) [] (yE yIX eNil)
def zm_m(n:Nat)(rp:Q1)(w:List (List UInt8)):Option (Q6):=
  ((idx w (1:Int)).bind λ v0=>((zT_M rp v0).bind λ v1=>(bif decide (v1.1 < 0)then some ([],(10:Int),())else ((idx rp.2.2.2.2.2.2.2.2.1 v1.1).bind λ v2=>((zr_M v2).bind λ v3=>some (v3.1,(0:Int),()))))))
def zm_M(rp:Q1)(w:List (List UInt8)):Option (Q6):=zm_m 0 rp w
abbrev zm_e:Entry:={ f:=145,args:=.pair t60 (.pair t38 .unit),rS:=.pair t9 (.pair t29 .unit),m:=λ x=>zm_M x.1 x.2.1 }
theorem yQZ:FnOK Tryz.prog zm_e:=fF 0 Tryz.f145 (λ n x=>zm_m n x.1 x.2.1) [] (yE yN7 (yE yOa eNil))
end
end Go.Tw
end
section
set_option maxRecDepth 1000000
namespace Go.Tw
open Go.Vx Go.Vx.B Go.Proofs
noncomputable section
def zp_m(n:Nat)(xp:Int×Int×Unit):Option (Int×Unit):=
  ((y1K [(zd xp.1).1,(zd xp.2.1).1,(z0b (decide (xp.2.1 > xp.1)) (11:Int)).1]).bind λ v0=>some (v0.1,()))
def zp_M(xp:Int×Int×Unit):Option (Int×Unit):=zp_m 0 xp
abbrev zp_e:Entry:={ f:=68,args:=.pair t33 .unit,rS:=.pair t29 .unit,m:=λ x=>zp_M x.1 }
theorem yOu:FnOK Tryz.prog zp_e:=fF 0 Tryz.f68 (λ n x=>zp_m n x.1) [] (yE yPo (yE y4C (yE y7X eNil)))
def yBK(n:Nat)(rp:Q1)(e:Q2)(j8:Bool):Option ((Q1)×Int×Unit):=
  (bif j8 then ((yGD rp e).bind λ v9=>((idx e.2.2.2.1 (0:Int)).bind λ v34=>some ((v34,v9.1.2.1,v9.1.2.2),v9.2.1,())))else (bif e.2.1==[(101:UInt8),110,116,101,114]then (bif e.2.1==[(101:UInt8),110,116,101,114]then ((yEA rp e).bind λ v11=>((idx e.2.2.2.1 (0:Int)).bind λ v35=>some ((v35,v11.1.2.1,v11.1.2.2),v11.2.1,())))else ((yIp rp e).bind λ v12=>((idx e.2.2.2.1 (0:Int)).bind λ v36=>some ((v36,v12.1.2.1,v12.1.2.2),v12.2.1,()))))else (bif e.2.1==[(108:UInt8),101,97,118,101]then ((yEA rp e).bind λ v13=>((idx e.2.2.2.1 (0:Int)).bind λ v37=>some ((v37,v13.1.2.1,v13.1.2.2),v13.2.1,())))else ((yIp rp e).bind λ v14=>((idx e.2.2.2.1 (0:Int)).bind λ v38=>some ((v38,v14.1.2.1,v14.1.2.2),v14.2.1,()))))))
def yC8(n:Nat)(rp:Q1)(e:Q2)(j3:Bool):Option ((Q1)×Int×Unit):=
  (bif j3 then ((idx e.2.2.1 (0:Int)).bind λ v4=>(bif !(zw v4).1 then some (rp,(13:Int),())else ((idx e.2.2.1 (0:Int)).bind λ v5=>(bif !(v5==(z0P rp).1)==(e.2.1==[(100:UInt8),101,99,105,100,101])then some (rp,(19:Int),())else ((idx e.2.2.1 (0:Int)).bind λ v6=>((idx e.2.2.2.1 (0:Int)).bind λ v32=>some ((v32,((z0G rp v6).1.2.1.1,(z0G rp v6).1.2.1.2.1,()),(z0G rp v6).1.2.2.1,(z0G rp v6).1.2.2.2.1,(z0G rp v6).1.2.2.2.2.1,(z0G rp v6).1.2.2.2.2.2.1,(z0G rp v6).1.2.2.2.2.2.2.1,(z0G rp v6).1.2.2.2.2.2.2.2.1,(z0G rp v6).1.2.2.2.2.2.2.2.2.1,(z0G rp v6).1.2.2.2.2.2.2.2.2.2.1,(z0G rp v6).1.2.2.2.2.2.2.2.2.2.2.1,()),(0:Int),())))))))else (bif e.2.1==[(99:UInt8),111,109,109,97,110,100]then ((yKM rp e).bind λ v7=>((idx e.2.2.2.1 (0:Int)).bind λ v33=>some ((v33,v7.1.2.1,v7.1.2.2),v7.2.1,())))else (bif e.2.1==[(108:UInt8),111,99,107]then (yBK n rp e (e.2.1==[(108:UInt8),111,99,107]))else (yBK n rp e (e.2.1==[(117:UInt8),110,108,111,99,107])))))
def y5r(n:Nat)(rp:Q1)(e:Q2)(j1:Bool):Option ((Q1)×Int×Unit):=
  (bif j1 then ((y9A rp e).bind λ v2=>((idx e.2.2.2.1 (0:Int)).bind λ v31=>some ((v31,v2.1.2.1,v2.1.2.2),v2.2.1,())))else (bif e.2.1==[(100:UInt8),101,99,105,100,101]then (yC8 n rp e (e.2.1==[(100:UInt8),101,99,105,100,101]))else (yC8 n rp e (e.2.1==[(111:UInt8),118,101,114,114,105,100,101]))))
def yOs(n:Nat)(rp:Q1)(e:Q2):Option ((Q1)×Int×Unit):=
  ((idx e.2.2.2.1 (0:Int)).bind λ v0=>(bif decide (v0 < rp.1)then some (rp,(20:Int),())else (bif e.2.1==[(103:UInt8),97,116,101]then (y5r n rp e (e.2.1==[(103:UInt8),97,116,101]))else (bif e.2.1==[(114:UInt8),117,108,101]then (y5r n rp e (e.2.1==[(114:UInt8),117,108,101]))else (bif e.2.1==[(102:UInt8),111,114,101,99,97,115,116]then (y5r n rp e (e.2.1==[(102:UInt8),111,114,101,99,97,115,116]))else (y5r n rp e (e.2.1==[(108:UInt8),101,118,101,108])))))))
def yCU(rp:Q1)(e:Q2):Option ((Q1)×Int×Unit):=yOs 0 rp e
abbrev z0f_e:Entry:={ f:=74,args:=.pair t41 (.pair t56 .unit),rS:=.pair t41 (.pair t3 .unit),m:=λ x=>yCU x.1 x.2.1 }
theorem yPw:FnOK Tryz.prog z0f_e:=fF 0 Tryz.f74 (λ n x=>yOs n x.1 x.2.1) [] (yE yPZ (yE yQJ (yE yOW (yE yPC (yE yQ4 (yE yOT (yE yPY (yE yPS eNil))))))))
def zh_m(n:Nat)(rp:Q1)(p1:List (List UInt8)):Option (Q6):=
  ((zR_M rp λ (x:(Q3)×Unit)=>zO_M x.1).bind λ v0=>((yG6 v0.1).bind λ v1=>some (v1.1,v1.2.1,())))
def zh_M(rp:Q1)(p1:List (List UInt8)):Option (Q6):=zh_m 0 rp p1
abbrev zh_e:Entry:={ f:=136,args:=.pair t60 (.pair t38 .unit),rS:=.pair t9 (.pair t29 .unit),m:=λ x=>zh_M x.1 x.2.1 }
theorem yRA:FnOK Tryz.prog zh_e:=fF 0 Tryz.f136 (λ n x=>zh_m n x.1 x.2.1) [] (yE yKh (yE yOA (yE y9U eNil)))
def zj_m(n:Nat)(rp:Q1)(p1:List (List UInt8)):Option (Q6):=
  ((zR_M rp λ (x:(Q3)×Unit)=>zc_M x.1).bind λ v0=>((yG6 v0.1).bind λ v1=>some (v1.1,v1.2.1,())))
def zj_M(rp:Q1)(p1:List (List UInt8)):Option (Q6):=zj_m 0 rp p1
abbrev zj_e:Entry:={ f:=140,args:=.pair t60 (.pair t38 .unit),rS:=.pair t9 (.pair t29 .unit),m:=λ x=>zj_M x.1 x.2.1 }
theorem yQG:FnOK Tryz.prog zj_e:=fF 0 Tryz.f140 (λ n x=>zj_m n x.1 x.2.1) [] (yE yKh (yE yOe (yE y9U eNil)))
def zl_m(n:Nat)(rp:Q1)(w:List (List UInt8)):Option (Q6):=
  ((idx w (1:Int)).bind λ v0=>((yJU v0).bind λ v1=>(bif !v1.1 then some ([],(8:Int),())else ((idx w (1:Int)).bind λ v2=>((zL_M rp v2).bind λ v3=>((yMi [v3.1]).bind λ v4=>some (v4.1,v4.2.1,())))))))
def zl_M(rp:Q1)(w:List (List UInt8)):Option (Q6):=zl_m 0 rp w
abbrev zl_e:Entry:={ f:=144,args:=.pair t60 (.pair t38 .unit),rS:=.pair t9 (.pair t29 .unit),m:=λ x=>zl_M x.1 x.2.1 }
theorem yRP:FnOK Tryz.prog zl_e:=fF 0 Tryz.f144 (λ n x=>zl_m n x.1 x.2.1) [] (yE yIh (yE yPu (yE yIX eNil)))
end
end Go.Tw
end
section
set_option maxRecDepth 1000000
namespace Go.Tw
open Go.Vx Go.Vx.B Go.Proofs
noncomputable section
def y7i(n:Nat)(r0:List (Q2)->List (Q2)->List (Q1)->Int->Int->Int->Int->Int->Int->Int->Int->List UInt8->Int->Option (List (Q2)×(Q1)×Int×Int×Unit))(aq a7:List (Q2))(a8:List (Q1))(ar aa ac ae af ah ai aj:Int)(ak:List UInt8)(am j20 j21 j22 j23 j24 j25 j26:Int)(j27:List UInt8)(j28:Int)(j29:List (Q3))(j30:List (List UInt8))(j31:List (Q6))(j32:Int):Option (List (Q2)×(Q1)×Int×Int×Unit):=
  (bif j32 != 0 then some ([],((0:Int),((0:Int),(0:Int),()),(0:Int),(0:Int),(0:Int),(0:Int),[],(0:Int),[],[],[],()),i64.wrap (ar+1),j32,())else (bif decide ((0:Nat)+a7.length<=memMax)then ((idx aq ar).bind λ v33=>(bif decide (a7.length+(1:Nat)<=memMax)then (bif decide ((0:Nat)+a8.length<=memMax)then (bif decide (a8.length+(1:Nat)<=memMax)then r0 aq (a7++[v33]) (a8++[(j20,(j21,j22,()),j23,j24,j25,j26,j27,j28,j29,j30,j31,())]) (i64.wrap (ar+1)) aa ac ae af ah ai aj ak am else none)else none)else none))else none))
def y5R(n:Nat)(r0:List (Q2)->List (Q2)->List (Q1)->Int->Int->Int->Int->Int->Int->Int->Int->List UInt8->Int->Option (List (Q2)×(Q1)×Int×Int×Unit))(aq a7:List (Q2))(a8:List (Q1))(ar aa ac ae af ah ai aj:Int)(ak:List UInt8)(am j14:Int):Option (List (Q2)×(Q1)×Int×Int×Unit):=
  (bif j14==0 then ((idx a8 (↑a7.length:Int)).bind λ v17=>((idx aq ar).bind λ v18=>((yCU v17 v18).bind λ v19=>(y7i n r0 aq a7 a8 ar aa ac ae af ah ai aj ak am (v19.1.1) (v19.1.2.1.1) (v19.1.2.1.2.1) (v19.1.2.2.1) (v19.1.2.2.2.1) (v19.1.2.2.2.2.1) (v19.1.2.2.2.2.2.1) (v19.1.2.2.2.2.2.2.1) (v19.1.2.2.2.2.2.2.2.1) (v19.1.2.2.2.2.2.2.2.2.1) (v19.1.2.2.2.2.2.2.2.2.2.1) (v19.1.2.2.2.2.2.2.2.2.2.2.1) (v19.2.1)))))else (y7i n r0 aq a7 a8 ar aa ac ae af ah ai aj ak am ((0:Int)) ((0:Int)) ((0:Int)) ((0:Int)) ((0:Int)) ((0:Int)) ((0:Int)) ([]) ((0:Int)) ([]) ([]) ([]) (j14)))
def y7x(n:Nat)(r0:List (Q2)->List (Q2)->List (Q1)->Int->Int->Int->Int->Int->Int->Int->Int->List UInt8->Int->Option (List (Q2)×(Q1)×Int×Int×Unit))(aq a7:List (Q2))(a8:List (Q1))(ar aa ac ae af ah ai aj:Int)(ak:List UInt8)(am j6:Int)(j11:Bool):Option (List (Q2)×(Q1)×Int×Int×Unit):=
  (bif j11 then (bif (↑a7.length:Int)==0 then (y5R n r0 aq a7 a8 ar aa ac ae af ah ai aj ak am ((12:Int)))else ((idx a7 (i64.wrap ((↑a7.length:Int) - (1:Int)))).bind λ v12=>(bif v12.2.1==[(99:UInt8),111,109,109,97,110,100]then (y5R n r0 aq a7 a8 ar aa ac ae af ah ai aj ak am ((19:Int)))else (bif decide ((0:Int)<=i64.wrap ((↑a7.length:Int) - (1:Int))) && decide (i64.wrap ((↑a7.length:Int) - (1:Int))<=(↑a7.length:Int))then (bif decide ((0:Int)<=(↑a7.length:Int)) && decide ((↑a7.length:Int)<=(↑a8.length:Int))then r0 aq (List.take (i64.wrap ((↑a7.length:Int) - (1:Int))).toNat a7) (List.take (↑a7.length:Int).toNat a8) (i64.wrap (ar+1)) aa ac ae af ah ai aj ak am else none)else none))))else (y5R n r0 aq a7 a8 ar aa ac ae af ah ai aj ak am (j6)))
def y5t(n:Nat)(r0:List (Q2)->List (Q2)->List (Q1)->Int->Int->Int->Int->Int->Int->Int->Int->List UInt8->Int->Option (List (Q2)×(Q1)×Int×Int×Unit))(aq a7:List (Q2))(a8:List (Q1))(ar aa ac ae af ah ai aj:Int)(ak:List UInt8)(am j6:Int):Option (List (Q2)×(Q1)×Int×Int×Unit):=
  (bif j6==0 then ((idx aq ar).bind λ v9=>(y7x n r0 aq a7 a8 ar aa ac ae af ah ai aj ak am j6 (v9.2.1==[(117:UInt8),110,100,111])))else (y7x n r0 aq a7 a8 ar aa ac ae af ah ai aj ak am j6 (Bool.false)))
def yEV(n:Nat)(r0:List (Q2)->List (Q2)->List (Q1)->Int->Int->Int->Int->Int->Int->Int->Int->List UInt8->Int->Option (List (Q2)×(Q1)×Int×Int×Unit))(aq a7:List (Q2))(a8:List (Q1))(ar aa ac ae af ah ai aj:Int)(ak:List UInt8)(am:Int):Option (List (Q2)×(Q1)×Int×Int×Unit):=
  (bif decide (ar < (↑aq.length:Int))then ((idx aq ar).bind λ v1=>((zv_M v1).bind λ v2=>(bif v2.1==0 then ((idx aq ar).bind λ v3=>(bif v3.1 != i64.wrap (ar+1)then (y5t n r0 aq a7 a8 ar aa ac ae af ah ai aj ak am ((11:Int)))else (y5t n r0 aq a7 a8 ar aa ac ae af ah ai aj ak am (v2.1))))else (y5t n r0 aq a7 a8 ar aa ac ae af ah ai aj ak am (v2.1)))))else ((idx a8 (↑a7.length:Int)).bind λ v37=>some (a7,v37,(0:Int),(0:Int),())))
def y7G(n k:Nat)(aq a7:List (Q2))(a8:List (Q1))(ar aa ac ae af ah ai aj:Int)(ak:List UInt8)(am:Int):Option (List (Q2)×(Q1)×Int×Int×Unit):=
  iter (λ r y=>yEV n (λ aq a7 a8 ar aa ac ae af ah ai aj ak am=>r ((aq,(a7,(a8,(ar,())))),(((aa,(ac,(ae,(af,(ah,(ai,(aj,(ak,(am,()))))))))),()),()))) y.1.1 y.1.2.1 y.1.2.2.1 y.1.2.2.2.1 y.2.1.1.1 y.2.1.1.2.1 y.2.1.1.2.2.1 y.2.1.1.2.2.2.1 y.2.1.1.2.2.2.2.1 y.2.1.1.2.2.2.2.2.1 y.2.1.1.2.2.2.2.2.2.1 y.2.1.1.2.2.2.2.2.2.2.1 y.2.1.1.2.2.2.2.2.2.2.2.1) k ((aq,(a7,(a8,(ar,())))),(((aa,(ac,(ae,(af,(ah,(ai,(aj,(ak,(am,()))))))))),()),()))
def yR1(n:Nat)(l:List (Q2)):Option (List (Q2)×(Q1)×Int×Int×Unit):=
  (bif decide ((↑l.length:Int) > 1000)then some ([],((0:Int),((0:Int),(0:Int),()),(0:Int),(0:Int),(0:Int),(0:Int),[],(0:Int),[],[],[],()),(0:Int),(5:Int),())else (y7G n n (l) ([]) ([z0d.1]) ((0:Int)) ((0:Int)) ((0:Int)) ((0:Int)) ((0:Int)) ((0:Int)) ((0:Int)) ((0:Int)) ([]) ((0:Int))))
def y8o(aq a7:List (Q2))(a8:List (Q1))(ar aa ac ae af ah ai aj:Int)(ak:List UInt8)(am j20 j21 j22 j23 j24 j25 j26:Int)(j27:List UInt8)(j28:Int)(j29:List (Q3))(j30:List (List UInt8))(j31:List (Q6))(j32:Int):Option ((List (Q2)×(Q1)×Int×Int×Unit)⊕((List (Q2))×(List (Q1)))):=
  (bif j32 != 0 then (some (Sum.inl (([],((0:Int),((0:Int),(0:Int),()),(0:Int),(0:Int),(0:Int),(0:Int),[],(0:Int),[],[],[],()),i64.wrap (ar+1),j32,()))))else (bif decide ((0:Nat)+a7.length<=memMax)then ((idx aq ar).bind λ v33=>(bif decide (a7.length+(1:Nat)<=memMax)then (bif decide ((0:Nat)+a8.length<=memMax)then (bif decide (a8.length+(1:Nat)<=memMax)then (some (Sum.inr ((a7++[v33]),(a8++[(j20,(j21,j22,()),j23,j24,j25,j26,j27,j28,j29,j30,j31,())]))))else none)else none)else none))else none))
theorem y3c(n:Nat)(hn:big<=n)(r0:List (Q2)->List (Q2)->List (Q1)->Int->Int->Int->Int->Int->Int->Int->Int->List UInt8->Int->Option (List (Q2)×(Q1)×Int×Int×Unit))(aq a7:List (Q2))(a8:List (Q1))(ar aa ac ae af ah ai aj:Int)(ak:List UInt8)(am j20 j21 j22 j23 j24 j25 j26:Int)(j27:List UInt8)(j28:Int)(j29:List (Q3))(j30:List (List UInt8))(j31:List (Q6))(j32:Int):LeF (elim some λ (aE:((List (Q2))×(List (Q1))))=>r0 aq aE.1 aE.2 (i64.wrap (ar+1)) aa ac ae af ah ai aj ak am) (y8o aq a7 a8 ar aa ac ae af ah ai aj ak am j20 j21 j22 j23 j24 j25 j26 j27 j28 j29 j30 j31 j32) (y7i n r0 aq a7 a8 ar aa ac ae af ah ai aj ak am j20 j21 j22 j23 j24 j25 j26 j27 j28 j29 j30 j31 j32):=
  (y7 (y9 rfl) (y7 (yI λ v33=>(y7 (y7 (y7 (y9 rfl) y01) y01) y01)) y01))
def y56(aq a7:List (Q2))(a8:List (Q1))(ar aa ac ae af ah ai aj:Int)(ak:List UInt8)(am j14:Int):Option ((List (Q2)×(Q1)×Int×Int×Unit)⊕((List (Q2))×(List (Q1)))):=
  (bif j14==0 then ((idx a8 (↑a7.length:Int)).bind λ v17=>((idx aq ar).bind λ v18=>((yCU v17 v18).bind λ v19=>(y8o aq a7 a8 ar aa ac ae af ah ai aj ak am (v19.1.1) (v19.1.2.1.1) (v19.1.2.1.2.1) (v19.1.2.2.1) (v19.1.2.2.2.1) (v19.1.2.2.2.2.1) (v19.1.2.2.2.2.2.1) (v19.1.2.2.2.2.2.2.1) (v19.1.2.2.2.2.2.2.2.1) (v19.1.2.2.2.2.2.2.2.2.1) (v19.1.2.2.2.2.2.2.2.2.2.1) (v19.1.2.2.2.2.2.2.2.2.2.2.1) (v19.2.1)))))else (y8o aq a7 a8 ar aa ac ae af ah ai aj ak am ((0:Int)) ((0:Int)) ((0:Int)) ((0:Int)) ((0:Int)) ((0:Int)) ((0:Int)) ([]) ((0:Int)) ([]) ([]) ([]) (j14)))
theorem y23(n:Nat)(hn:big<=n)(r0:List (Q2)->List (Q2)->List (Q1)->Int->Int->Int->Int->Int->Int->Int->Int->List UInt8->Int->Option (List (Q2)×(Q1)×Int×Int×Unit))(aq a7:List (Q2))(a8:List (Q1))(ar aa ac ae af ah ai aj:Int)(ak:List UInt8)(am j14:Int):LeF (elim some λ (aE:((List (Q2))×(List (Q1))))=>r0 aq aE.1 aE.2 (i64.wrap (ar+1)) aa ac ae af ah ai aj ak am) (y56 aq a7 a8 ar aa ac ae af ah ai aj ak am j14) (y5R n r0 aq a7 a8 ar aa ac ae af ah ai aj ak am j14):=
  (y7 (yI λ v17=>(yI λ v18=>(yI λ v19=>(by apply y3c n hn)))) (by apply y3c n hn))
def y6L(aq a7:List (Q2))(a8:List (Q1))(ar aa ac ae af ah ai aj:Int)(ak:List UInt8)(am j6:Int)(j11:Bool):Option ((List (Q2)×(Q1)×Int×Int×Unit)⊕((List (Q2))×(List (Q1)))):=
  (bif j11 then (bif (↑a7.length:Int)==0 then (y56 aq a7 a8 ar aa ac ae af ah ai aj ak am ((12:Int)))else ((idx a7 (i64.wrap ((↑a7.length:Int) - (1:Int)))).bind λ v12=>(bif v12.2.1==[(99:UInt8),111,109,109,97,110,100]then (y56 aq a7 a8 ar aa ac ae af ah ai aj ak am ((19:Int)))else (bif decide ((0:Int)<=i64.wrap ((↑a7.length:Int) - (1:Int))) && decide (i64.wrap ((↑a7.length:Int) - (1:Int))<=(↑a7.length:Int))then (bif decide ((0:Int)<=(↑a7.length:Int)) && decide ((↑a7.length:Int)<=(↑a8.length:Int))then (some (Sum.inr ((List.take (i64.wrap ((↑a7.length:Int) - (1:Int))).toNat a7),(List.take (↑a7.length:Int).toNat a8))))else none)else none))))else (y56 aq a7 a8 ar aa ac ae af ah ai aj ak am (j6)))
theorem y3h(n:Nat)(hn:big<=n)(r0:List (Q2)->List (Q2)->List (Q1)->Int->Int->Int->Int->Int->Int->Int->Int->List UInt8->Int->Option (List (Q2)×(Q1)×Int×Int×Unit))(aq a7:List (Q2))(a8:List (Q1))(ar aa ac ae af ah ai aj:Int)(ak:List UInt8)(am j6:Int)(j11:Bool):LeF (elim some λ (aE:((List (Q2))×(List (Q1))))=>r0 aq aE.1 aE.2 (i64.wrap (ar+1)) aa ac ae af ah ai aj ak am) (y6L aq a7 a8 ar aa ac ae af ah ai aj ak am j6 j11) (y7x n r0 aq a7 a8 ar aa ac ae af ah ai aj ak am j6 j11):=
  (y7 (y7 (by apply y23 n hn) (yI λ v12=>(y7 (by apply y23 n hn) (y7 (y7 (y9 rfl) y01) y01)))) (by apply y23 n hn))
def y53(aq a7:List (Q2))(a8:List (Q1))(ar aa ac ae af ah ai aj:Int)(ak:List UInt8)(am j6:Int):Option ((List (Q2)×(Q1)×Int×Int×Unit)⊕((List (Q2))×(List (Q1)))):=
  (bif j6==0 then ((idx aq ar).bind λ v9=>(y6L aq a7 a8 ar aa ac ae af ah ai aj ak am j6 (v9.2.1==[(117:UInt8),110,100,111])))else (y6L aq a7 a8 ar aa ac ae af ah ai aj ak am j6 (Bool.false)))
theorem y25(n:Nat)(hn:big<=n)(r0:List (Q2)->List (Q2)->List (Q1)->Int->Int->Int->Int->Int->Int->Int->Int->List UInt8->Int->Option (List (Q2)×(Q1)×Int×Int×Unit))(aq a7:List (Q2))(a8:List (Q1))(ar aa ac ae af ah ai aj:Int)(ak:List UInt8)(am j6:Int):LeF (elim some λ (aE:((List (Q2))×(List (Q1))))=>r0 aq aE.1 aE.2 (i64.wrap (ar+1)) aa ac ae af ah ai aj ak am) (y53 aq a7 a8 ar aa ac ae af ah ai aj ak am j6) (y5t n r0 aq a7 a8 ar aa ac ae af ah ai aj ak am j6):=
  (y7 (yI λ v9=>(by apply y3h n hn)) (by apply y3h n hn))
def yBP(aq:List (Q2))(aa ac ae af ah ai aj:Int)(ak:List UInt8)(am ar:Int)(v1:Q2)(a7:List (Q2))(a8:List (Q1)):Option ((List (Q2)×(Q1)×Int×Int×Unit)⊕((List (Q2))×(List (Q1)))):=
  ((zv_M v1).bind λ v2=>(bif v2.1==0 then ((idx aq ar).bind λ v3=>(bif v3.1 != i64.wrap (ar+1)then (y53 aq a7 a8 ar aa ac ae af ah ai aj ak am ((11:Int)))else (y53 aq a7 a8 ar aa ac ae af ah ai aj ak am (v2.1))))else (y53 aq a7 a8 ar aa ac ae af ah ai aj ak am (v2.1))))
def yEp(aq:List (Q2))(aa ac ae af ah ai aj:Int)(ak:List UInt8)(am:Int)(a7:List (Q2))(a8:List (Q1)):Option (List (Q2)×(Q1)×Int×Int×Unit):=
  ((idx a8 (↑a7.length:Int)).bind λ v37=>(some ((a7,v37,(0:Int),(0:Int),()))))
theorem yDh(n:Nat)(hn:big<=n)(aq:List (Q2))(aa ac ae af ah ai aj:Int)(ak:List UInt8)(am:Int)(a7:List (Q2))(a8:List (Q1))(hx:List.length (aq) < yD):LeF some (yd (λ aO aP aE=>yBP aq aa ac ae af ah ai aj ak am aO aP aE.1 aE.2) (λ aE=>yEp aq aa ac ae af ah ai aj ak am aE.1 aE.2) 0 (aq) (a7,a8)) (y7G n n aq a7 a8 0 aa ac ae af ah ai aj ak am):=by
  refine y04 (f:=some) (W:=λ aQ aO aE=>y7G n aQ aq aE.1 aE.2 aO aa ac ae af ah ai aj ak am) (λ aQ aO aE=>?_) hx (a7,a8) n (by unfold big at hn;unfold yD at hx;omega)
  show LeF _ _ (yEV n (y7G n aQ) aq aE.1 aE.2 aO aa ac ae af ah ai aj ak am)
  exact y7 (yI λ v1=>(yI λ v2=>(y7 (yI λ v3=>(y7 (by apply y25 n hn) (by apply y25 n hn))) (by apply y25 n hn)))) (y1l (yI λ v37=>(y9 rfl)))
def yLd(l:List (Q2)):Option (List (Q2)×(Q1)×Int×Int×Unit):=
  (bif decide ((↑l.length:Int) > 1000)then (some (([],((0:Int),((0:Int),(0:Int),()),(0:Int),(0:Int),(0:Int),(0:Int),[],(0:Int),[],[],[],()),(0:Int),(5:Int),())))else (bif decide (List.length (l) < yD)then yd (λ aO aP aE=>yBP (l) ((0:Int)) ((0:Int)) ((0:Int)) ((0:Int)) ((0:Int)) ((0:Int)) ((0:Int)) ([]) ((0:Int)) aO aP aE.1 aE.2) (λ aE=>yEp (l) ((0:Int)) ((0:Int)) ((0:Int)) ((0:Int)) ((0:Int)) ((0:Int)) ((0:Int)) ([]) ((0:Int)) aE.1 aE.2) 0 (l) (([]),([z0d.1]))else none))
abbrev z0l_e:Entry:={ f:=70,args:=.pair t22 .unit,rS:=.pair t22 (.pair t41 (.pair t3 (.pair t3 .unit))),m:=λ x=>yLd x.1 }
theorem yQ0:FnOK Tryz.prog z0l_e:=fB (mu:=[6,89,98]) (fz:=[97,103]) Tryz.f70 (λ n x=>yR1 n x.1) [[0,3,6,7,8,1000006,1000007]] (yE yPn (yE yR6 (yE yPw eNil))) λ n hn x=>(y7 (y9 rfl) (yy λ hx=>by apply yDh n hn;exact hx))
abbrev zt_a:Ty:=.unit
abbrev zt_r:Ty:=.pair t171 .unit
def zt_g:G:={ T:=T,E:=[zf_e,zg_e,zh_e,zi_e,zj_e,zk_e,zl_e,zm_e],mU:=[],fz:=[] }
def zt_k:List (List Nat):=[]
def yPP(n:Nat):Ann:={ keep:=zt_k,fuel:=n,inl:=[],deep:=0 }
def zt_m(n:Nat)  : Option (List (List UInt8×Int×Nat×Unit)×Unit):=
  some ([([(97:UInt8),100,118,105,99,101],(1:Int),(133:Nat)+(1:Nat),()),([(115:UInt8),116,97,116,101],(1:Int),(134:Nat)+(1:Nat),()),([(108:UInt8),111,119,101,114,101,100],(1:Int),(136:Nat)+(1:Nat),()),([(105:UInt8),110,115,105,100,101],(1:Int),(139:Nat)+(1:Nat),()),([(108:UInt8),111,99,107,101,100],(1:Int),(140:Nat)+(1:Nat),()),([(104:UInt8),101,105,103,104,116,115],(1:Int),(142:Nat)+(1:Nat),()),([(118:UInt8),101,114,115,105,111,110],(2:Int),(144:Nat)+(1:Nat),()),([(108:UInt8),97,115,116],(2:Int),(145:Nat)+(1:Nat),())],())
theorem yQr(n:Nat)(x:zt_a.den):runF zt_g (yPP n) Tryz.f90 zt_a zt_r x=zt_m n:=by kernel_rfl
def zt  : (List (List UInt8×Int×Nat×Unit)×Unit):=
  ([([(97:UInt8),100,118,105,99,101],(1:Int),(133:Nat)+(1:Nat),()),([(115:UInt8),116,97,116,101],(1:Int),(134:Nat)+(1:Nat),()),([(108:UInt8),111,119,101,114,101,100],(1:Int),(136:Nat)+(1:Nat),()),([(105:UInt8),110,115,105,100,101],(1:Int),(139:Nat)+(1:Nat),()),([(108:UInt8),111,99,107,101,100],(1:Int),(140:Nat)+(1:Nat),()),([(104:UInt8),101,105,103,104,116,115],(1:Int),(142:Nat)+(1:Nat),()),([(118:UInt8),101,114,115,105,111,110],(2:Int),(144:Nat)+(1:Nat),()),([(108:UInt8),97,115,116],(2:Int),(145:Nat)+(1:Nat),())],())
abbrev zt_M  : Option (List (List UInt8×Int×Nat×Unit)×Unit):=some (zt)
theorem yPE(y:List (List UInt8×Int×Nat×Unit)×Unit)(h:zt_M=some y):∃ n,zt_m n=some y:=
  ⟨0,by rw[<- h];show zt_m 0=some (zt);unfold zt_m zt;first|rfl|(simp only[yG];done)|(simp only[yG];rfl)⟩
def zt_e:Entry:={ f:=90,args:=zt_a,rS:=zt_r,m:=λ x=>zt_M }
theorem yQp:FnOK Tryz.prog zt_e:=yE8 (g:=zt_g) (fn:=Tryz.f90) y1f y72 (yE yQh (yE yQI (yE yRA (yE yQD (yE yQG (yE yQE (yE yRP (yE yQZ eNil)))))))) (by kernel_rfl) (by kernel_rfl) (by kernel_rfl) (λ x y h=>let ⟨n,hn⟩:=yPE y h;⟨yPP n,iNil,(yQr n x).trans hn⟩)
end
end Go.Tw
end
section
set_option maxRecDepth 1000000
namespace Go.Tw
open Go.Vx Go.Vx.B Go.Proofs
noncomputable section
def zI_m(n:Nat)(l:List (Q3))(xp:Q3):Option (List (Q3)×Unit):=
  (bif decide (l.length<=memMax)then (bif decide (l.length+(1:Nat)<=memMax)then some (l++[xp],())else none)else none)
def zI_M(l:List (Q3))(xp:Q3):Option (List (Q3)×Unit):=zI_m 0 l xp
abbrev zI_e:Entry:={ f:=185,args:=.pair t57 (.pair t64 .unit),rS:=.pair t57 .unit,m:=λ x=>zI_M x.1 x.2.1 }
theorem yR9:FnOK Tryz.prog zI_e:=fF (mu:=[6]) 0 Tryz.f185 (λ n x=>zI_m n x.1 x.2.1) [] (yE yRR eNil)
def zH_m(n:Nat)(l:List (Q6))(xp:Q6):Option (List (Q6)×Unit):=
  (bif decide (l.length<=memMax)then (bif decide (l.length+(1:Nat)<=memMax)then some (l++[xp],())else none)else none)
def zH_M(l:List (Q6))(xp:Q6):Option (List (Q6)×Unit):=zH_m 0 l xp
abbrev zH_e:Entry:={ f:=194,args:=.pair t58 (.pair t102 .unit),rS:=.pair t58 .unit,m:=λ x=>zH_M x.1 x.2.1 }
theorem yQw:FnOK Tryz.prog zH_e:=fF (mu:=[6]) 0 Tryz.f194 (λ n x=>zH_m n x.1 x.2.1) [] (yE yQz eNil)
def yNK(n:Nat)(l:List (Q2)):Option ((Q1)×Int×Int×Unit):=
  ((yLd l).bind λ v0=>some (v0.2.1,v0.2.2.1,v0.2.2.2.1,()))
def yL3(l:List (Q2)):Option ((Q1)×Int×Int×Unit):=yNK 0 l
abbrev z0R_e:Entry:={ f:=19,args:=.pair t22 .unit,rS:=.pair t41 (.pair t3 (.pair t3 .unit)),m:=λ x=>yL3 x.1 }
theorem yPe:FnOK Tryz.prog z0R_e:=fF 0 Tryz.f19 (λ n x=>yNK n x.1) [] (yE yQ0 eNil)
abbrev yNU:Ty:=.unit
abbrev yPJ:Ty:=.pair t178 .unit
def yOY:G:={ T:=T,E:=[],mU:=[],fz:=[] }
def yR8:List (List Nat):=[]
def yLl(n:Nat):Ann:={ keep:=yR8,fuel:=n,inl:=[],deep:=0 }
def yKU(n:Nat)  : Option (List (List UInt8×List Int×Nat×Unit)×Unit):=
  some ([([(103:UInt8),97,116,101],[(1:Int),(1:Int)],(148:Nat)+(1:Nat),()),([(114:UInt8),117,108,101],[(0:Int),(3:Int)],(149:Nat)+(1:Nat),()),([(102:UInt8),111,114,101,99,97,115,116],[(0:Int),(3:Int)],(150:Nat)+(1:Nat),()),([(108:UInt8),101,118,101,108],[(1:Int),(2:Int)],(151:Nat)+(1:Nat),()),([(100:UInt8),101,99,105,100,101],[(1:Int),(1:Int)],(152:Nat)+(1:Nat),()),([(111:UInt8),118,101,114,114,105,100,101],[(1:Int),(1:Int)],(153:Nat)+(1:Nat),()),([(99:UInt8),111,109,109,97,110,100],[(2:Int),(2:Int)],(154:Nat)+(1:Nat),()),([(108:UInt8),111,99,107],[(2:Int),(1:Int)],(155:Nat)+(1:Nat),()),([(117:UInt8),110,108,111,99,107],[(2:Int),(1:Int)],(156:Nat)+(1:Nat),()),([(101:UInt8),110,116,101,114],[(1:Int),(1:Int)],(157:Nat)+(1:Nat),()),([(108:UInt8),101,97,118,101],[(1:Int),(1:Int)],(158:Nat)+(1:Nat),()),([(105:UInt8),115,115,117,101],[(1:Int),(1:Int)],(159:Nat)+(1:Nat),()),([(117:UInt8),110,100,111],[(0:Int),(0:Int)],(0:Nat),())],())
theorem yOP(n:Nat)(x:yNU.den):runF yOY (yLl n) Tryz.f92 yNU yPJ x=yKU n:=by kernel_rfl
def z0J  : (List (List UInt8×List Int×Nat×Unit)×Unit):=
  ([([(103:UInt8),97,116,101],[(1:Int),(1:Int)],(148:Nat)+(1:Nat),()),([(114:UInt8),117,108,101],[(0:Int),(3:Int)],(149:Nat)+(1:Nat),()),([(102:UInt8),111,114,101,99,97,115,116],[(0:Int),(3:Int)],(150:Nat)+(1:Nat),()),([(108:UInt8),101,118,101,108],[(1:Int),(2:Int)],(151:Nat)+(1:Nat),()),([(100:UInt8),101,99,105,100,101],[(1:Int),(1:Int)],(152:Nat)+(1:Nat),()),([(111:UInt8),118,101,114,114,105,100,101],[(1:Int),(1:Int)],(153:Nat)+(1:Nat),()),([(99:UInt8),111,109,109,97,110,100],[(2:Int),(2:Int)],(154:Nat)+(1:Nat),()),([(108:UInt8),111,99,107],[(2:Int),(1:Int)],(155:Nat)+(1:Nat),()),([(117:UInt8),110,108,111,99,107],[(2:Int),(1:Int)],(156:Nat)+(1:Nat),()),([(101:UInt8),110,116,101,114],[(1:Int),(1:Int)],(157:Nat)+(1:Nat),()),([(108:UInt8),101,97,118,101],[(1:Int),(1:Int)],(158:Nat)+(1:Nat),()),([(105:UInt8),115,115,117,101],[(1:Int),(1:Int)],(159:Nat)+(1:Nat),()),([(117:UInt8),110,100,111],[(0:Int),(0:Int)],(0:Nat),())],())
abbrev yPq  : Option (List (List UInt8×List Int×Nat×Unit)×Unit):=some (z0J)
theorem yO0(y:List (List UInt8×List Int×Nat×Unit)×Unit)(h:yPq=some y):∃ n,yKU n=some y:=
  ⟨0,by rw[<- h];show yKU 0=some (z0J);unfold yKU z0J;first|rfl|(simp only[yG];done)|(simp only[yG];rfl)⟩
def z0J_e:Entry:={ f:=92,args:=yNU,rS:=yPJ,m:=λ x=>yPq }
theorem yFO:FnOK Tryz.prog z0J_e:=yE8 (g:=yOY) (fn:=Tryz.f92) y1f y72 eNil (by kernel_rfl) (by kernel_rfl) (by kernel_rfl) (λ x y h=>let ⟨n,hn⟩:=yO0 y h;⟨yLl n,iNil,(yOP n x).trans hn⟩)
end
end Go.Tw
end
