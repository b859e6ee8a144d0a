import Derived.Test.YtemgjgkbgkeknaaGreatDoorBT
import Derived.Test.YtemgjgkbgkeknaaGreatDoorB0
import Derived.Test.YtemgjgkbgkeknaaGreatDoorSB
import Derived.Test.YtemgjgkbgkeknaaGreatDoorLZ
import Derived.Test.YtemgjgkbgkeknaaGreatDoorBA
set_option linter.all false
open Go.IntKind (i64)
section
set_option maxRecDepth 1000000
namespace Go.Tw
open Go.Vx Go.Vx.B Go.Proofs
noncomputable section
abbrev yLs:Ty:=.pair t41 (.pair t56 .unit)
abbrev yOm:Ty:=.pair t41 (.pair t3 .unit)
def yOs:G:={ T:=T,E:=[z0Q_e,zx_e],mU:=[2,59],fz:=[],sep:=[3] }
def yPQ:List (List Nat):=[]
def yNw(n:Nat):Ann:={ keep:=yPQ,fuel:=n,inl:=[],deep:=0 }
def y7l(n:Nat)(rp:Q1)(e:Q2):Option ((Q1)×Int×Unit):=
  ((idx e.2.2.2.1 (1:Int)).bind λ v16=>(bif decide (v16 > 4096)then some (rp,(3:Int),())else ((idx e.2.2.1 (0:Int)).bind λ v17=>(bif v17==[(115:UInt8),101,97]then ((idx e.2.2.2.1 (1:Int)).bind λ v18=>some ((rp.1,rp.2.1,rp.2.2.1,rp.2.2.2.1,v18,rp.2.2.2.2.2),(0:Int),()))else ((idx e.2.2.2.1 (1:Int)).bind λ v19=>some ((rp.1,rp.2.1,rp.2.2.1,rp.2.2.2.1,rp.2.2.2.2.1,v19,rp.2.2.2.2.2.2),(0:Int),()))))))
def yFd(n:Nat)(rp:Q1)(e:Q2):Option ((Q1)×Int×Unit):=
  (bif e.2.1==[(103:UInt8),97,116,101]then ((idx e.2.2.1 (0:Int)).bind λ v0=>((yBv rp v0).bind λ v1=>(bif decide (v1.1 >= 0)then some (rp,(9:Int),())else (bif decide ((↑rp.2.2.2.2.2.2.2.2.1.length:Int) >= 16)then some (rp,(5:Int),())else (bif decide ((0:Nat)+rp.2.2.2.2.2.2.2.2.1.length<=memMax)then ((idx e.2.2.1 (0:Int)).bind λ v2=>(bif decide (rp.2.2.2.2.2.2.2.2.1.length+(1:Nat)<=memMax)then some ((rp.1,rp.2.1,rp.2.2.1,rp.2.2.2.1,rp.2.2.2.2.1,rp.2.2.2.2.2.1,rp.2.2.2.2.2.2.1,rp.2.2.2.2.2.2.2.1,rp.2.2.2.2.2.2.2.2.1++[(v2,Bool.false,(0:Int),[],[],())],rp.2.2.2.2.2.2.2.2.2),(0:Int),())else none))else none)))))else (bif e.2.1==[(114:UInt8),117,108,101]then ((idx e.2.2.2.1 (1:Int)).bind λ v3=>((idx e.2.2.2.1 (2:Int)).bind λ v4=>(bif (zx (v3,v4,())).1 != 0 then some (rp,(zx (v3,v4,())).1,())else some ((rp.1,(v3,v4,()),rp.2.2),(0:Int),()))))else (bif e.2.1==[(102:UInt8),111,114,101,99,97,115,116]then ((idx e.2.2.2.1 (2:Int)).bind λ v5=>(bif decide (v5 > 4096)then some (rp,(3:Int),())else ((idx e.2.2.2.1 (1:Int)).bind λ v6=>(bif decide (v6<=rp.2.2.1)then some (rp,(21:Int),())else ((idx e.2.2.2.1 (1:Int)).bind λ v7=>((idx e.2.2.2.1 (2:Int)).bind λ v8=>some ((rp.1,rp.2.1,v7,v8,rp.2.2.2.2),(0:Int),())))))))else ((idx e.2.2.1 (0:Int)).bind λ v9=>(bif !v9==[(115:UInt8),101,97]then ((idx e.2.2.1 (0:Int)).bind λ v10=>(bif !v10==[(98:UInt8),97,115,105,110]then some (rp,(13:Int),())else (y7l n rp e)))else (y7l n rp e))))))
theorem yOy(n:Nat)(x:yLs.den):runF yOs (yNw n) Tryz.f76 yLs yOm x=yFd n x.1 x.2.1:=by kernel_rfl
def y8m(rp:Q1)(e:Q2):Option ((Q1)×Int×Unit):=yFd 0 rp e
def z0n_e:Entry:={ f:=76,args:=yLs,rS:=yOm,m:=λ x=>y8m x.1 x.2.1 }
theorem yNq:FnOK Tryz.prog z0n_e:=yE2 0 (g:=yOs) (fn:=Tryz.f76) (y8 yDi (y8 yQF eNil)) (λ _=>iNil) yOy
def yP5(n:Nat)(e:Q2):Option (List UInt8×Unit):=
  ((yOe e).bind λ v0=>(bif decide (v0.1.length+(1:Nat) < strMax)then ((zw_M v0.1).bind λ v1=>(bif decide ((v0.1++[(35:UInt8)]).length+v1.1.length < strMax)then (bif decide ((v0.1++[(35:UInt8)]++v1.1).length+(1:Nat) < strMax)then some (v0.1++[(35:UInt8)]++v1.1++[(10:UInt8)],())else none)else none))else none))
def yPp(e:Q2):Option (List UInt8×Unit):=yP5 0 e
abbrev z09_e:Entry:={ f:=79,args:=.pair t56 .unit,rS:=.pair t9 .unit,m:=λ x=>yPp x.1 }
theorem yNx:FnOK Tryz.prog z09_e:=fF 0 Tryz.f79 (λ n x=>yP5 n x.1) [] (y8 yOB (y8 yPE eNil))
def zZ_m(n:Nat)(np:Int):Option (Int×Unit):=
  some ((z0B np (0:Int) (999999999:Int)).1,())
def zZ(np:Int):(Int×Unit):=
  ((z0B np (0:Int) (999999999:Int)).1,())
abbrev zZ_M (np:Int):Option (Int×Unit):=some (zZ np)
abbrev zZ_e:Entry:={ f:=104,args:=.pair t3 .unit,rS:=.pair t29 .unit,m:=λ x=>zZ_M x.1 }
theorem yQ6:FnOK Tryz.prog zZ_e:=fF (hm:=by intro x;show some (zZ x.1)=zZ_m 0 x.1;unfold zZ_m zZ;first|rfl|(simp only[yE];done)|(simp only[yE];rfl)) 0 Tryz.f104 (λ n x=>zZ_m n x.1) [] (y8 yEs eNil)
def zL_m(n:Nat)(rp:Q1)(thing:List UInt8):Option (Int×Unit):=
  ((zS_M rp thing).bind λ v0=>(bif decide (v0.1 >= 0)then ((idx rp.2.2.2.2.2.2.2.2.2.2.1 v0.1).bind λ v1=>some (v1.2.1,()))else some ((0:Int),())))
def zL_M(rp:Q1)(thing:List UInt8):Option (Int×Unit):=zL_m 0 rp thing
abbrev zL_e:Entry:={ f:=109,args:=.pair t60 (.pair t9 .unit),rS:=.pair t3 .unit,m:=λ x=>zL_M x.1 x.2.1 }
theorem yMj:FnOK Tryz.prog zL_e:=fF 0 Tryz.f109 (λ n x=>zL_m n x.1 x.2.1) [] (y8 yOx eNil)
def zc_m(n:Nat)(np:Int):Option (Int×Unit):=
  some ((z0B np (0:Int) (4096:Int)).1,())
def zc(np:Int):(Int×Unit):=
  ((z0B np (0:Int) (4096:Int)).1,())
abbrev zc_M (np:Int):Option (Int×Unit):=some (zc np)
abbrev zc_e:Entry:={ f:=114,args:=.pair t3 .unit,rS:=.pair t29 .unit,m:=λ x=>zc_M x.1 }
theorem yPM:FnOK Tryz.prog zc_e:=fF (hm:=by intro x;show some (zc x.1)=zc_m 0 x.1;unfold zc_m zc;first|rfl|(simp only[yE];done)|(simp only[yE];rfl)) 0 Tryz.f114 (λ n x=>zc_m n x.1) [] (y8 yEs eNil)
def il182:Inl:={ f:=182,fn:=Tryz.f182,keep:=[],mU:=[],fz:=[] }
theorem yKk:yl Tryz.prog il182:=⟨by kernel_rfl,by kernel_rfl,λ e0 h=>by cases (show (none:Option LibK)=some e0 from h)⟩
def il212:Inl:={ f:=212,fn:=Tryz.f212,keep:=[[0,2,7,8,9]],mU:=[],fz:=[] }
theorem yKg:yl Tryz.prog il212:=⟨by kernel_rfl,by kernel_rfl,λ e0 h=>by cases (show (none:Option LibK)=some e0 from h)⟩
def yGs(n:Nat)(r0:((Q3)×Unit->Option (Bool×Unit))->List (Q3)->Int->Int->Q1->((Q3)×Unit->Option (Bool×Unit))->Q1->Q1->((Q3)×Unit->Option (Bool×Unit))->Q1->((Q3)×Unit->Option (Bool×Unit))->List (List UInt8)->Q1->((Q3)×Unit->Option (Bool×Unit))->Q1->Q1->((Q3)×Unit->Option (Bool×Unit))->Q1->((Q3)×Unit->Option (Bool×Unit))->Option (List (List UInt8)×Unit))(aG:(Q3)×Unit->Option (Bool×Unit))(aD:List (Q3))(aN aM:Int)(aw:Q1)(ax:(Q3)×Unit->Option (Bool×Unit))(ay az:Q1)(aA:(Q3)×Unit->Option (Bool×Unit))(au:Q1)(av:(Q3)×Unit->Option (Bool×Unit))(aF:List (List UInt8))(aH:Q1)(aI:(Q3)×Unit->Option (Bool×Unit))(aJ aK:Q1)(aL:(Q3)×Unit->Option (Bool×Unit))(aB:Q1)(aC:(Q3)×Unit->Option (Bool×Unit)):Option (List (List UInt8)×Unit):=
  (bif decide (aM < aN)then ((idx aD aM).bind λ v1=>((aG (v1,())).bind λ v2=>(bif v2.1 then (bif decide (aF.length+(1:Nat)<=memMax)then r0 aG aD aN (i64.wrap (aM+1)) aw ax ay az aA au av (aF++[(zn v1).1]) aH aI aJ aK aL aB aC else none)else r0 aG aD aN (i64.wrap (aM+1)) aw ax ay az aA au av aF aH aI aJ aK aL aB aC)))else some (aF,()))
def y9z(n k:Nat)(aG:(Q3)×Unit->Option (Bool×Unit))(aD:List (Q3))(aN aM:Int)(aw:Q1)(ax:(Q3)×Unit->Option (Bool×Unit))(ay az:Q1)(aA:(Q3)×Unit->Option (Bool×Unit))(au:Q1)(av:(Q3)×Unit->Option (Bool×Unit))(aF:List (List UInt8))(aH:Q1)(aI:(Q3)×Unit->Option (Bool×Unit))(aJ aK:Q1)(aL:(Q3)×Unit->Option (Bool×Unit))(aB:Q1)(aC:(Q3)×Unit->Option (Bool×Unit)):Option (List (List UInt8)×Unit):=
  iter (λ r y=>yGs n (λ aG aD aN aM aw ax ay az aA au av aF aH aI aJ aK aL aB aC=>r ((aG,(aD,(aN,(aM,())))),(((aw,(ax,(ay,(az,(aA,((au,(av,())),())))))),((),(aF,()))),(aH,(aI,(aJ,(aK,(aL,((aB,(aC,())),()))))))))) y.1.1 y.1.2.1 y.1.2.2.1 y.1.2.2.2.1 y.2.1.1.1 y.2.1.1.2.1 y.2.1.1.2.2.1 y.2.1.1.2.2.2.1 y.2.1.1.2.2.2.2.1 y.2.1.1.2.2.2.2.2.1.1 y.2.1.1.2.2.2.2.2.1.2.1 y.2.1.2.2.1 y.2.2.1 y.2.2.2.1 y.2.2.2.2.1 y.2.2.2.2.2.1 y.2.2.2.2.2.2.1 y.2.2.2.2.2.2.2.1.1 y.2.2.2.2.2.2.2.1.2.1) k ((aG,(aD,(aN,(aM,())))),(((aw,(ax,(ay,(az,(aA,((au,(av,())),())))))),((),(aF,()))),(aH,(aI,(aJ,(aK,(aL,((aB,(aC,())),()))))))))
def zR_m(n:Nat)(rp:Q1)(holds:(Q3)×Unit->Option (Bool×Unit)):Option (List (List UInt8)×Unit):=
  (y9z n n (holds) (rp.2.2.2.2.2.2.2.2.1) ((↑rp.2.2.2.2.2.2.2.2.1.length:Int)) ((0:Int)) (rp) (holds) (rp) (rp) (holds) (rp) (holds) ([]) (rp) (holds) (rp) (rp) (holds) (rp) (holds))
def yMs(aG:(Q3)×Unit->Option (Bool×Unit))(aD:List (Q3))(aw:Q1)(ax:(Q3)×Unit->Option (Bool×Unit))(ay az:Q1)(aA:(Q3)×Unit->Option (Bool×Unit))(au:Q1)(av:(Q3)×Unit->Option (Bool×Unit))(aH:Q1)(aI:(Q3)×Unit->Option (Bool×Unit))(aJ aK:Q1)(aL:(Q3)×Unit->Option (Bool×Unit))(aB:Q1)(aC:(Q3)×Unit->Option (Bool×Unit))(aM:Int)(v1:Q3)(aF:List (List UInt8)):Option ((List (List UInt8)×Unit)⊕(List (List UInt8))):=
  ((aG (v1,())).bind λ v2=>(bif v2.1 then (bif decide (aF.length+(1:Nat)<=memMax)then (some (Sum.inr (aF++[(zn v1).1])))else none)else (some (Sum.inr (aF)))))
def yOf(aG:(Q3)×Unit->Option (Bool×Unit))(aD:List (Q3))(aw:Q1)(ax:(Q3)×Unit->Option (Bool×Unit))(ay az:Q1)(aA:(Q3)×Unit->Option (Bool×Unit))(au:Q1)(av:(Q3)×Unit->Option (Bool×Unit))(aH:Q1)(aI:(Q3)×Unit->Option (Bool×Unit))(aJ aK:Q1)(aL:(Q3)×Unit->Option (Bool×Unit))(aB:Q1)(aC:(Q3)×Unit->Option (Bool×Unit))(aF:List (List UInt8)):Option (List (List UInt8)×Unit):=
  (some ((aF,())))
theorem yF0(n:Nat)(hn:big<=n)(aG:(Q3)×Unit->Option (Bool×Unit))(aD:List (Q3))(aw:Q1)(ax:(Q3)×Unit->Option (Bool×Unit))(ay az:Q1)(aA:(Q3)×Unit->Option (Bool×Unit))(au:Q1)(av:(Q3)×Unit->Option (Bool×Unit))(aH:Q1)(aI:(Q3)×Unit->Option (Bool×Unit))(aJ aK:Q1)(aL:(Q3)×Unit->Option (Bool×Unit))(aB:Q1)(aC:(Q3)×Unit->Option (Bool×Unit))(aF:List (List UInt8))(hx:List.length (aD) < yF):LeF some (ym (λ aO aP aE=>yMs aG aD aw ax ay az aA au av aH aI aJ aK aL aB aC aO aP aE) (λ aE=>yOf aG aD aw ax ay az aA au av aH aI aJ aK aL aB aC aE) 0 (aD) aF) (y9z n n aG aD (List.length (aD):Int) 0 aw ax ay az aA au av aF aH aI aJ aK aL aB aC):=by
  refine y0l (f:=some) (W:=λ aQ aO aE=>y9z n aQ aG aD (List.length (aD):Int) aO aw ax ay az aA au av aE aH aI aJ aK aL aB aC) (λ aQ aO aE=>?_) hx aF n (by unfold big at hn;unfold yF at hx;omega)
  show LeF _ _ (yGs n (y9z n aQ) aG aD (List.length (aD):Int) aO aw ax ay az aA au av aE aH aI aJ aK aL aB aC)
  exact yB (yO λ v1=>(yO λ v2=>(yB (yB (yD rfl) y0a) (yD rfl)))) (y2o (yD rfl))
def zR_M(rp:Q1)(holds:(Q3)×Unit->Option (Bool×Unit)):Option (List (List UInt8)×Unit):=
  (bif decide (List.length (rp.2.2.2.2.2.2.2.2.1) < yF)then ym (λ aO aP aE=>yMs (holds) (rp.2.2.2.2.2.2.2.2.1) (rp) (holds) (rp) (rp) (holds) (rp) (holds) (rp) (holds) (rp) (rp) (holds) (rp) (holds) aO aP aE) (λ aE=>yOf (holds) (rp.2.2.2.2.2.2.2.2.1) (rp) (holds) (rp) (rp) (holds) (rp) (holds) (rp) (holds) (rp) (rp) (holds) (rp) (holds) aE) 0 (rp.2.2.2.2.2.2.2.2.1) ([])else none)
abbrev zR_e:Entry:={ f:=137,args:=.pair t60 (.pair t208 .unit),rS:=.pair t38 .unit,m:=λ x=>zR_M x.1 x.2.1 }
theorem yJp:FnOK Tryz.prog zR_e:=fBI (mu:=[5]) Tryz.f137 (λ n x=>zR_m n x.1 x.2.1) [] [il182,il212] 3 (y8 yPe eNil) (yy yKk (yy yKg iNil)) λ n hn x=>(y0N λ hx=>by apply yF0 n hn;exact hx)
def zj_m(n:Nat)(rp:Q1)(p1:List (List UInt8)):Option (Q6):=
  ((yLv [rp.2.2.2.1,rp.2.2.2.2.1,rp.2.2.2.2.2.1]).bind λ v0=>some (v0.1,v0.2.1,()))
def zj_M(rp:Q1)(p1:List (List UInt8)):Option (Q6):=zj_m 0 rp p1
abbrev zj_e:Entry:={ f:=142,args:=.pair t60 (.pair t38 .unit),rS:=.pair t9 (.pair t29 .unit),m:=λ x=>zj_M x.1 x.2.1 }
theorem yQb:FnOK Tryz.prog zj_e:=fF 0 Tryz.f142 (λ n x=>zj_m n x.1 x.2.1) [] (y8 yGI eNil)
def zl_m(n:Nat)(rp:Q1)(w:List (List UInt8)):Option (Q6):=
  ((idx w (1:Int)).bind λ v0=>((zT_M rp v0).bind λ v1=>(bif decide (v1.1 < 0)then some ([],(10:Int),())else ((idx rp.2.2.2.2.2.2.2.2.1 v1.1).bind λ v2=>((zr_M v2).bind λ v3=>some (v3.1,(0:Int),()))))))
def zl_M(rp:Q1)(w:List (List UInt8)):Option (Q6):=zl_m 0 rp w
abbrev zl_e:Entry:={ f:=145,args:=.pair t60 (.pair t38 .unit),rS:=.pair t9 (.pair t29 .unit),m:=λ x=>zl_M x.1 x.2.1 }
theorem yPY:FnOK Tryz.prog zl_e:=fF 0 Tryz.f145 (λ n x=>zl_m n x.1 x.2.1) [] (y8 yJc (y8 yNm eNil))
end
end Go.Tw
end
section
set_option maxRecDepth 1000000
namespace Go.Tw
open Go.Vx Go.Vx.B Go.Proofs
noncomputable section
def zo_m(n:Nat)(xp:Int×Int×Unit):Option (Int×Unit):=
  ((y12 [(zc xp.1).1,(zc xp.2.1).1,(z0b (decide (xp.2.1 > xp.1)) (11:Int)).1]).bind λ v0=>some (v0.1,()))
def zo_M(xp:Int×Int×Unit):Option (Int×Unit):=zo_m 0 xp
abbrev zo_e:Entry:={ f:=68,args:=.pair t33 .unit,rS:=.pair t29 .unit,m:=λ x=>zo_M x.1 }
theorem yOP:FnOK Tryz.prog zo_e:=fF 0 Tryz.f68 (λ n x=>zo_m n x.1) [] (y8 yPM (y8 y2z (y8 y5L eNil)))
def yBM(n:Nat)(rp:Q1)(e:Q2)(j8:Bool):Option ((Q1)×Int×Unit):=
  (bif j8 then ((yG2 rp e).bind λ v9=>((idx e.2.2.2.1 (0:Int)).bind λ v34=>some ((v34,v9.1.2.1,v9.1.2.2),v9.2.1,())))else (bif e.2.1==[(101:UInt8),110,116,101,114]then (bif e.2.1==[(101:UInt8),110,116,101,114]then ((yDA rp e).bind λ v11=>((idx e.2.2.2.1 (0:Int)).bind λ v35=>some ((v35,v11.1.2.1,v11.1.2.2),v11.2.1,())))else ((yHc rp e).bind λ v12=>((idx e.2.2.2.1 (0:Int)).bind λ v36=>some ((v36,v12.1.2.1,v12.1.2.2),v12.2.1,()))))else (bif e.2.1==[(108:UInt8),101,97,118,101]then ((yDA rp e).bind λ v13=>((idx e.2.2.2.1 (0:Int)).bind λ v37=>some ((v37,v13.1.2.1,v13.1.2.2),v13.2.1,())))else ((yHc rp e).bind λ v14=>((idx e.2.2.2.1 (0:Int)).bind λ v38=>some ((v38,v14.1.2.1,v14.1.2.2),v14.2.1,()))))))
def yB7(n:Nat)(rp:Q1)(e:Q2)(j3:Bool):Option ((Q1)×Int×Unit):=
  (bif j3 then ((idx e.2.2.1 (0:Int)).bind λ v4=>(bif !(zv v4).1 then some (rp,(13:Int),())else ((idx e.2.2.1 (0:Int)).bind λ v5=>(bif !(v5==(z0P rp).1)==(e.2.1==[(100:UInt8),101,99,105,100,101])then some (rp,(19:Int),())else ((idx e.2.2.1 (0:Int)).bind λ v6=>((idx e.2.2.2.1 (0:Int)).bind λ v32=>some ((v32,((z0F rp v6).1.2.1.1,(z0F rp v6).1.2.1.2.1,()),(z0F rp v6).1.2.2.1,(z0F rp v6).1.2.2.2.1,(z0F rp v6).1.2.2.2.2.1,(z0F rp v6).1.2.2.2.2.2.1,(z0F rp v6).1.2.2.2.2.2.2.1,(z0F rp v6).1.2.2.2.2.2.2.2.1,(z0F rp v6).1.2.2.2.2.2.2.2.2.1,(z0F rp v6).1.2.2.2.2.2.2.2.2.2.1,(z0F rp v6).1.2.2.2.2.2.2.2.2.2.2.1,()),(0:Int),())))))))else (bif e.2.1==[(99:UInt8),111,109,109,97,110,100]then ((zz_M rp e).bind λ v7=>((idx e.2.2.2.1 (0:Int)).bind λ v33=>some ((v33,v7.1.2.1,v7.1.2.2),v7.2.1,())))else (bif e.2.1==[(108:UInt8),111,99,107]then (yBM n rp e (e.2.1==[(108:UInt8),111,99,107]))else (yBM n rp e (e.2.1==[(117:UInt8),110,108,111,99,107])))))
def y5t(n:Nat)(rp:Q1)(e:Q2)(j1:Bool):Option ((Q1)×Int×Unit):=
  (bif j1 then ((y8m rp e).bind λ v2=>((idx e.2.2.2.1 (0:Int)).bind λ v31=>some ((v31,v2.1.2.1,v2.1.2.2),v2.2.1,())))else (bif e.2.1==[(100:UInt8),101,99,105,100,101]then (yB7 n rp e (e.2.1==[(100:UInt8),101,99,105,100,101]))else (yB7 n rp e (e.2.1==[(111:UInt8),118,101,114,114,105,100,101]))))
def yOF(n:Nat)(rp:Q1)(e:Q2):Option ((Q1)×Int×Unit):=
  ((idx e.2.2.2.1 (0:Int)).bind λ v0=>(bif decide (v0 < rp.1)then some (rp,(20:Int),())else (bif e.2.1==[(103:UInt8),97,116,101]then (y5t n rp e (e.2.1==[(103:UInt8),97,116,101]))else (bif e.2.1==[(114:UInt8),117,108,101]then (y5t n rp e (e.2.1==[(114:UInt8),117,108,101]))else (bif e.2.1==[(102:UInt8),111,114,101,99,97,115,116]then (y5t n rp e (e.2.1==[(102:UInt8),111,114,101,99,97,115,116]))else (y5t n rp e (e.2.1==[(108:UInt8),101,118,101,108])))))))
def yB6(rp:Q1)(e:Q2):Option ((Q1)×Int×Unit):=yOF 0 rp e
abbrev z0i_e:Entry:={ f:=74,args:=.pair t41 (.pair t56 .unit),rS:=.pair t41 (.pair t3 .unit),m:=λ x=>yB6 x.1 x.2.1 }
theorem yNi:FnOK Tryz.prog z0i_e:=fF 0 Tryz.f74 (λ n x=>yOF n x.1 x.2.1) [] (y8 yNq (y8 yQ3 (y8 yLH (y8 yOL (y8 yPh (y8 yOU (y8 yOC (y8 yOg eNil))))))))
def zg_m(n:Nat)(rp:Q1)(p1:List (List UInt8)):Option (Q6):=
  ((zR_M rp λ (x:(Q3)×Unit)=>zO_M x.1).bind λ v0=>((yFu v0.1).bind λ v1=>some (v1.1,v1.2.1,())))
def zg_M(rp:Q1)(p1:List (List UInt8)):Option (Q6):=zg_m 0 rp p1
abbrev zg_e:Entry:={ f:=136,args:=.pair t60 (.pair t38 .unit),rS:=.pair t9 (.pair t29 .unit),m:=λ x=>zg_M x.1 x.2.1 }
theorem yQT:FnOK Tryz.prog zg_e:=fF 0 Tryz.f136 (λ n x=>zg_m n x.1 x.2.1) [] (y8 yJp (y8 yMX (y8 y9v eNil)))
def zi_m(n:Nat)(rp:Q1)(p1:List (List UInt8)):Option (Q6):=
  ((zR_M rp λ (x:(Q3)×Unit)=>zb_M x.1).bind λ v0=>((yFu v0.1).bind λ v1=>some (v1.1,v1.2.1,())))
def zi_M(rp:Q1)(p1:List (List UInt8)):Option (Q6):=zi_m 0 rp p1
abbrev zi_e:Entry:={ f:=140,args:=.pair t60 (.pair t38 .unit),rS:=.pair t9 (.pair t29 .unit),m:=λ x=>zi_M x.1 x.2.1 }
theorem yQ5:FnOK Tryz.prog zi_e:=fF 0 Tryz.f140 (λ n x=>zi_m n x.1 x.2.1) [] (y8 yJp (y8 yPJ (y8 y9v eNil)))
def zk_m(n:Nat)(rp:Q1)(w:List (List UInt8)):Option (Q6):=
  ((idx w (1:Int)).bind λ v0=>((yFp v0).bind λ v1=>(bif !v1.1 then some ([],(8:Int),())else ((idx w (1:Int)).bind λ v2=>((zL_M rp v2).bind λ v3=>((yLv [v3.1]).bind λ v4=>some (v4.1,v4.2.1,())))))))
def zk_M(rp:Q1)(w:List (List UInt8)):Option (Q6):=zk_m 0 rp w
abbrev zk_e:Entry:={ f:=144,args:=.pair t60 (.pair t38 .unit),rS:=.pair t9 (.pair t29 .unit),m:=λ x=>zk_M x.1 x.2.1 }
theorem yQM:FnOK Tryz.prog zk_e:=fF 0 Tryz.f144 (λ n x=>zk_m n x.1 x.2.1) [] (y8 yEr (y8 yMj (y8 yGI eNil)))
end
end Go.Tw
end
section
set_option maxRecDepth 1000000
namespace Go.Tw
open Go.Vx Go.Vx.B Go.Proofs
noncomputable section
def y7s(n:Nat)(r0:List (Q2)->List (Q2)->List (Q1)->Int->Int->Int->Int->Int->Int->Int->Int->List UInt8->Int->Option (List (Q2)×(Q1)×Int×Int×Unit))(aq a7:List (Q2))(a8:List (Q1))(ar aa ac ae af ah ai aj:Int)(ak:List UInt8)(am j20 j21 j22 j23 j24 j25 j26:Int)(j27:List UInt8)(j28:Int)(j29:List (Q3))(j30:List (List UInt8))(j31:List (Q6))(j32:Int):Option (List (Q2)×(Q1)×Int×Int×Unit):=
  (bif j32 != 0 then some ([],((0:Int),((0:Int),(0:Int),()),(0:Int),(0:Int),(0:Int),(0:Int),[],(0:Int),[],[],[],()),i64.wrap (ar+1),j32,())else (bif decide ((0:Nat)+a7.length<=memMax)then ((idx aq ar).bind λ v33=>(bif decide (a7.length+(1:Nat)<=memMax)then (bif decide ((0:Nat)+a8.length<=memMax)then (bif decide (a8.length+(1:Nat)<=memMax)then r0 aq (a7++[v33]) (a8++[(j20,(j21,j22,()),j23,j24,j25,j26,j27,j28,j29,j30,j31,())]) (i64.wrap (ar+1)) aa ac ae af ah ai aj ak am else none)else none)else none))else none))
def y5i(n:Nat)(r0:List (Q2)->List (Q2)->List (Q1)->Int->Int->Int->Int->Int->Int->Int->Int->List UInt8->Int->Option (List (Q2)×(Q1)×Int×Int×Unit))(aq a7:List (Q2))(a8:List (Q1))(ar aa ac ae af ah ai aj:Int)(ak:List UInt8)(am j14:Int):Option (List (Q2)×(Q1)×Int×Int×Unit):=
  (bif j14==0 then ((idx a8 (↑a7.length:Int)).bind λ v17=>((idx aq ar).bind λ v18=>((yB6 v17 v18).bind λ v19=>(y7s n r0 aq a7 a8 ar aa ac ae af ah ai aj ak am (v19.1.1) (v19.1.2.1.1) (v19.1.2.1.2.1) (v19.1.2.2.1) (v19.1.2.2.2.1) (v19.1.2.2.2.2.1) (v19.1.2.2.2.2.2.1) (v19.1.2.2.2.2.2.2.1) (v19.1.2.2.2.2.2.2.2.1) (v19.1.2.2.2.2.2.2.2.2.1) (v19.1.2.2.2.2.2.2.2.2.2.1) (v19.1.2.2.2.2.2.2.2.2.2.2.1) (v19.2.1)))))else (y7s n r0 aq a7 a8 ar aa ac ae af ah ai aj ak am ((0:Int)) ((0:Int)) ((0:Int)) ((0:Int)) ((0:Int)) ((0:Int)) ((0:Int)) ([]) ((0:Int)) ([]) ([]) ([]) (j14)))
def y7o(n:Nat)(r0:List (Q2)->List (Q2)->List (Q1)->Int->Int->Int->Int->Int->Int->Int->Int->List UInt8->Int->Option (List (Q2)×(Q1)×Int×Int×Unit))(aq a7:List (Q2))(a8:List (Q1))(ar aa ac ae af ah ai aj:Int)(ak:List UInt8)(am j6:Int)(j11:Bool):Option (List (Q2)×(Q1)×Int×Int×Unit):=
  (bif j11 then (bif (↑a7.length:Int)==0 then (y5i n r0 aq a7 a8 ar aa ac ae af ah ai aj ak am ((12:Int)))else ((idx a7 (i64.wrap ((↑a7.length:Int) - (1:Int)))).bind λ v12=>(bif v12.2.1==[(99:UInt8),111,109,109,97,110,100]then (y5i n r0 aq a7 a8 ar aa ac ae af ah ai aj ak am ((19:Int)))else (bif decide ((0:Int)<=i64.wrap ((↑a7.length:Int) - (1:Int))) && decide (i64.wrap ((↑a7.length:Int) - (1:Int))<=(↑a7.length:Int))then (bif decide ((0:Int)<=(↑a7.length:Int)) && decide ((↑a7.length:Int)<=(↑a8.length:Int))then r0 aq (List.take (i64.wrap ((↑a7.length:Int) - (1:Int))).toNat a7) (List.take (↑a7.length:Int).toNat a8) (i64.wrap (ar+1)) aa ac ae af ah ai aj ak am else none)else none))))else (y5i n r0 aq a7 a8 ar aa ac ae af ah ai aj ak am (j6)))
def y5V(n:Nat)(r0:List (Q2)->List (Q2)->List (Q1)->Int->Int->Int->Int->Int->Int->Int->Int->List UInt8->Int->Option (List (Q2)×(Q1)×Int×Int×Unit))(aq a7:List (Q2))(a8:List (Q1))(ar aa ac ae af ah ai aj:Int)(ak:List UInt8)(am j6:Int):Option (List (Q2)×(Q1)×Int×Int×Unit):=
  (bif j6==0 then ((idx aq ar).bind λ v9=>(y7o n r0 aq a7 a8 ar aa ac ae af ah ai aj ak am j6 (v9.2.1==[(117:UInt8),110,100,111])))else (y7o n r0 aq a7 a8 ar aa ac ae af ah ai aj ak am j6 (Bool.false)))
def yEO(n:Nat)(r0:List (Q2)->List (Q2)->List (Q1)->Int->Int->Int->Int->Int->Int->Int->Int->List UInt8->Int->Option (List (Q2)×(Q1)×Int×Int×Unit))(aq a7:List (Q2))(a8:List (Q1))(ar aa ac ae af ah ai aj:Int)(ak:List UInt8)(am:Int):Option (List (Q2)×(Q1)×Int×Int×Unit):=
  (bif decide (ar < (↑aq.length:Int))then ((idx aq ar).bind λ v1=>((zu_M v1).bind λ v2=>(bif v2.1==0 then ((idx aq ar).bind λ v3=>(bif v3.1 != i64.wrap (ar+1)then (y5V n r0 aq a7 a8 ar aa ac ae af ah ai aj ak am ((11:Int)))else (y5V n r0 aq a7 a8 ar aa ac ae af ah ai aj ak am (v2.1))))else (y5V n r0 aq a7 a8 ar aa ac ae af ah ai aj ak am (v2.1)))))else ((idx a8 (↑a7.length:Int)).bind λ v37=>some (a7,v37,(0:Int),(0:Int),())))
def y7F(n k:Nat)(aq a7:List (Q2))(a8:List (Q1))(ar aa ac ae af ah ai aj:Int)(ak:List UInt8)(am:Int):Option (List (Q2)×(Q1)×Int×Int×Unit):=
  iter (λ r y=>yEO n (λ aq a7 a8 ar aa ac ae af ah ai aj ak am=>r ((aq,(a7,(a8,(ar,())))),(((aa,(ac,(ae,(af,(ah,(ai,(aj,(ak,(am,()))))))))),()),()))) y.1.1 y.1.2.1 y.1.2.2.1 y.1.2.2.2.1 y.2.1.1.1 y.2.1.1.2.1 y.2.1.1.2.2.1 y.2.1.1.2.2.2.1 y.2.1.1.2.2.2.2.1 y.2.1.1.2.2.2.2.2.1 y.2.1.1.2.2.2.2.2.2.1 y.2.1.1.2.2.2.2.2.2.2.1 y.2.1.1.2.2.2.2.2.2.2.2.1) k ((aq,(a7,(a8,(ar,())))),(((aa,(ac,(ae,(af,(ah,(ai,(aj,(ak,(am,()))))))))),()),()))
def yPs(n:Nat)(l:List (Q2)):Option (List (Q2)×(Q1)×Int×Int×Unit):=
  (bif decide ((↑l.length:Int) > 1000)then some ([],((0:Int),((0:Int),(0:Int),()),(0:Int),(0:Int),(0:Int),(0:Int),[],(0:Int),[],[],[],()),(0:Int),(5:Int),())else (y7F n n (l) ([]) ([z0f.1]) ((0:Int)) ((0:Int)) ((0:Int)) ((0:Int)) ((0:Int)) ((0:Int)) ((0:Int)) ((0:Int)) ([]) ((0:Int))))
def y8Q(aq a7:List (Q2))(a8:List (Q1))(ar aa ac ae af ah ai aj:Int)(ak:List UInt8)(am j20 j21 j22 j23 j24 j25 j26:Int)(j27:List UInt8)(j28:Int)(j29:List (Q3))(j30:List (List UInt8))(j31:List (Q6))(j32:Int):Option ((List (Q2)×(Q1)×Int×Int×Unit)⊕((List (Q2))×(List (Q1)))):=
  (bif j32 != 0 then (some (Sum.inl (([],((0:Int),((0:Int),(0:Int),()),(0:Int),(0:Int),(0:Int),(0:Int),[],(0:Int),[],[],[],()),i64.wrap (ar+1),j32,()))))else (bif decide ((0:Nat)+a7.length<=memMax)then ((idx aq ar).bind λ v33=>(bif decide (a7.length+(1:Nat)<=memMax)then (bif decide ((0:Nat)+a8.length<=memMax)then (bif decide (a8.length+(1:Nat)<=memMax)then (some (Sum.inr ((a7++[v33]),(a8++[(j20,(j21,j22,()),j23,j24,j25,j26,j27,j28,j29,j30,j31,())]))))else none)else none)else none))else none))
theorem y3d(n:Nat)(hn:big<=n)(r0:List (Q2)->List (Q2)->List (Q1)->Int->Int->Int->Int->Int->Int->Int->Int->List UInt8->Int->Option (List (Q2)×(Q1)×Int×Int×Unit))(aq a7:List (Q2))(a8:List (Q1))(ar aa ac ae af ah ai aj:Int)(ak:List UInt8)(am j20 j21 j22 j23 j24 j25 j26:Int)(j27:List UInt8)(j28:Int)(j29:List (Q3))(j30:List (List UInt8))(j31:List (Q6))(j32:Int):LeF (elim some λ (aE:((List (Q2))×(List (Q1))))=>r0 aq aE.1 aE.2 (i64.wrap (ar+1)) aa ac ae af ah ai aj ak am) (y8Q aq a7 a8 ar aa ac ae af ah ai aj ak am j20 j21 j22 j23 j24 j25 j26 j27 j28 j29 j30 j31 j32) (y7s n r0 aq a7 a8 ar aa ac ae af ah ai aj ak am j20 j21 j22 j23 j24 j25 j26 j27 j28 j29 j30 j31 j32):=
  (yB (yD rfl) (yB (yO λ v33=>(yB (yB (yB (yD rfl) y0a) y0a) y0a)) y0a))
def y52(aq a7:List (Q2))(a8:List (Q1))(ar aa ac ae af ah ai aj:Int)(ak:List UInt8)(am j14:Int):Option ((List (Q2)×(Q1)×Int×Int×Unit)⊕((List (Q2))×(List (Q1)))):=
  (bif j14==0 then ((idx a8 (↑a7.length:Int)).bind λ v17=>((idx aq ar).bind λ v18=>((yB6 v17 v18).bind λ v19=>(y8Q aq a7 a8 ar aa ac ae af ah ai aj ak am (v19.1.1) (v19.1.2.1.1) (v19.1.2.1.2.1) (v19.1.2.2.1) (v19.1.2.2.2.1) (v19.1.2.2.2.2.1) (v19.1.2.2.2.2.2.1) (v19.1.2.2.2.2.2.2.1) (v19.1.2.2.2.2.2.2.2.1) (v19.1.2.2.2.2.2.2.2.2.1) (v19.1.2.2.2.2.2.2.2.2.2.1) (v19.1.2.2.2.2.2.2.2.2.2.2.1) (v19.2.1)))))else (y8Q aq a7 a8 ar aa ac ae af ah ai aj ak am ((0:Int)) ((0:Int)) ((0:Int)) ((0:Int)) ((0:Int)) ((0:Int)) ((0:Int)) ([]) ((0:Int)) ([]) ([]) ([]) (j14)))
theorem y1y(n:Nat)(hn:big<=n)(r0:List (Q2)->List (Q2)->List (Q1)->Int->Int->Int->Int->Int->Int->Int->Int->List UInt8->Int->Option (List (Q2)×(Q1)×Int×Int×Unit))(aq a7:List (Q2))(a8:List (Q1))(ar aa ac ae af ah ai aj:Int)(ak:List UInt8)(am j14:Int):LeF (elim some λ (aE:((List (Q2))×(List (Q1))))=>r0 aq aE.1 aE.2 (i64.wrap (ar+1)) aa ac ae af ah ai aj ak am) (y52 aq a7 a8 ar aa ac ae af ah ai aj ak am j14) (y5i n r0 aq a7 a8 ar aa ac ae af ah ai aj ak am j14):=
  (yB (yO λ v17=>(yO λ v18=>(yO λ v19=>(by apply y3d n hn)))) (by apply y3d n hn))
def y6M(aq a7:List (Q2))(a8:List (Q1))(ar aa ac ae af ah ai aj:Int)(ak:List UInt8)(am j6:Int)(j11:Bool):Option ((List (Q2)×(Q1)×Int×Int×Unit)⊕((List (Q2))×(List (Q1)))):=
  (bif j11 then (bif (↑a7.length:Int)==0 then (y52 aq a7 a8 ar aa ac ae af ah ai aj ak am ((12:Int)))else ((idx a7 (i64.wrap ((↑a7.length:Int) - (1:Int)))).bind λ v12=>(bif v12.2.1==[(99:UInt8),111,109,109,97,110,100]then (y52 aq a7 a8 ar aa ac ae af ah ai aj ak am ((19:Int)))else (bif decide ((0:Int)<=i64.wrap ((↑a7.length:Int) - (1:Int))) && decide (i64.wrap ((↑a7.length:Int) - (1:Int))<=(↑a7.length:Int))then (bif decide ((0:Int)<=(↑a7.length:Int)) && decide ((↑a7.length:Int)<=(↑a8.length:Int))then (some (Sum.inr ((List.take (i64.wrap ((↑a7.length:Int) - (1:Int))).toNat a7),(List.take (↑a7.length:Int).toNat a8))))else none)else none))))else (y52 aq a7 a8 ar aa ac ae af ah ai aj ak am (j6)))
theorem y3c(n:Nat)(hn:big<=n)(r0:List (Q2)->List (Q2)->List (Q1)->Int->Int->Int->Int->Int->Int->Int->Int->List UInt8->Int->Option (List (Q2)×(Q1)×Int×Int×Unit))(aq a7:List (Q2))(a8:List (Q1))(ar aa ac ae af ah ai aj:Int)(ak:List UInt8)(am j6:Int)(j11:Bool):LeF (elim some λ (aE:((List (Q2))×(List (Q1))))=>r0 aq aE.1 aE.2 (i64.wrap (ar+1)) aa ac ae af ah ai aj ak am) (y6M aq a7 a8 ar aa ac ae af ah ai aj ak am j6 j11) (y7o n r0 aq a7 a8 ar aa ac ae af ah ai aj ak am j6 j11):=
  (yB (yB (by apply y1y n hn) (yO λ v12=>(yB (by apply y1y n hn) (yB (yB (yD rfl) y0a) y0a)))) (by apply y1y n hn))
def y4v(aq a7:List (Q2))(a8:List (Q1))(ar aa ac ae af ah ai aj:Int)(ak:List UInt8)(am j6:Int):Option ((List (Q2)×(Q1)×Int×Int×Unit)⊕((List (Q2))×(List (Q1)))):=
  (bif j6==0 then ((idx aq ar).bind λ v9=>(y6M aq a7 a8 ar aa ac ae af ah ai aj ak am j6 (v9.2.1==[(117:UInt8),110,100,111])))else (y6M aq a7 a8 ar aa ac ae af ah ai aj ak am j6 (Bool.false)))
theorem y1z(n:Nat)(hn:big<=n)(r0:List (Q2)->List (Q2)->List (Q1)->Int->Int->Int->Int->Int->Int->Int->Int->List UInt8->Int->Option (List (Q2)×(Q1)×Int×Int×Unit))(aq a7:List (Q2))(a8:List (Q1))(ar aa ac ae af ah ai aj:Int)(ak:List UInt8)(am j6:Int):LeF (elim some λ (aE:((List (Q2))×(List (Q1))))=>r0 aq aE.1 aE.2 (i64.wrap (ar+1)) aa ac ae af ah ai aj ak am) (y4v aq a7 a8 ar aa ac ae af ah ai aj ak am j6) (y5V n r0 aq a7 a8 ar aa ac ae af ah ai aj ak am j6):=
  (yB (yO λ v9=>(by apply y3c n hn)) (by apply y3c n hn))
def yBn(aq:List (Q2))(aa ac ae af ah ai aj:Int)(ak:List UInt8)(am ar:Int)(v1:Q2)(a7:List (Q2))(a8:List (Q1)):Option ((List (Q2)×(Q1)×Int×Int×Unit)⊕((List (Q2))×(List (Q1)))):=
  ((zu_M v1).bind λ v2=>(bif v2.1==0 then ((idx aq ar).bind λ v3=>(bif v3.1 != i64.wrap (ar+1)then (y4v aq a7 a8 ar aa ac ae af ah ai aj ak am ((11:Int)))else (y4v aq a7 a8 ar aa ac ae af ah ai aj ak am (v2.1))))else (y4v aq a7 a8 ar aa ac ae af ah ai aj ak am (v2.1))))
def yEb(aq:List (Q2))(aa ac ae af ah ai aj:Int)(ak:List UInt8)(am:Int)(a7:List (Q2))(a8:List (Q1)):Option (List (Q2)×(Q1)×Int×Int×Unit):=
  ((idx a8 (↑a7.length:Int)).bind λ v37=>(some ((a7,v37,(0:Int),(0:Int),()))))
theorem yDM(n:Nat)(hn:big<=n)(aq:List (Q2))(aa ac ae af ah ai aj:Int)(ak:List UInt8)(am:Int)(a7:List (Q2))(a8:List (Q1))(hx:List.length (aq) < yF):LeF some (ym (λ aO aP aE=>yBn aq aa ac ae af ah ai aj ak am aO aP aE.1 aE.2) (λ aE=>yEb aq aa ac ae af ah ai aj ak am aE.1 aE.2) 0 (aq) (a7,a8)) (y7F n n aq a7 a8 0 aa ac ae af ah ai aj ak am):=by
  refine y0l (f:=some) (W:=λ aQ aO aE=>y7F n aQ aq aE.1 aE.2 aO aa ac ae af ah ai aj ak am) (λ aQ aO aE=>?_) hx (a7,a8) n (by unfold big at hn;unfold yF at hx;omega)
  show LeF _ _ (yEO n (y7F n aQ) aq aE.1 aE.2 aO aa ac ae af ah ai aj ak am)
  exact yB (yO λ v1=>(yO λ v2=>(yB (yO λ v3=>(yB (by apply y1z n hn) (by apply y1z n hn))) (by apply y1z n hn)))) (y2o (yO λ v37=>(yD rfl)))
def yK2(l:List (Q2)):Option (List (Q2)×(Q1)×Int×Int×Unit):=
  (bif decide ((↑l.length:Int) > 1000)then (some (([],((0:Int),((0:Int),(0:Int),()),(0:Int),(0:Int),(0:Int),(0:Int),[],(0:Int),[],[],[],()),(0:Int),(5:Int),())))else (bif decide (List.length (l) < yF)then ym (λ aO aP aE=>yBn (l) ((0:Int)) ((0:Int)) ((0:Int)) ((0:Int)) ((0:Int)) ((0:Int)) ((0:Int)) ([]) ((0:Int)) aO aP aE.1 aE.2) (λ aE=>yEb (l) ((0:Int)) ((0:Int)) ((0:Int)) ((0:Int)) ((0:Int)) ((0:Int)) ((0:Int)) ([]) ((0:Int)) aE.1 aE.2) 0 (l) (([]),([z0f.1]))else none))
abbrev z0o_e:Entry:={ f:=70,args:=.pair t22 .unit,rS:=.pair t22 (.pair t41 (.pair t3 (.pair t3 .unit))),m:=λ x=>yK2 x.1 }
theorem yP2:FnOK Tryz.prog z0o_e:=fB (mu:=[6,89,98]) (fz:=[97,103]) Tryz.f70 (λ n x=>yPs n x.1) [[0,3,6,7,8,1000006,1000007]] (y8 yO7 (y8 yPx (y8 yNi eNil))) λ n hn x=>(yB (yD rfl) (y0N λ hx=>by apply yDM n hn;exact hx))
abbrev zt_a:Ty:=.unit
abbrev zt_r:Ty:=.pair t171 .unit
def zt_g:G:={ T:=T,E:=[ze_e,zf_e,zg_e,zh_e,zi_e,zj_e,zk_e,zl_e],mU:=[],fz:=[] }
def zt_k:List (List Nat):=[]
def yPC(n:Nat):Ann:={ keep:=zt_k,fuel:=n,inl:=[],deep:=0 }
def zt_m(n:Nat)  : Option (List (List UInt8×Int×Nat×Unit)×Unit):=
  some ([([(97:UInt8),100,118,105,99,101],(1:Int),(133:Nat)+(1:Nat),()),([(115:UInt8),116,97,116,101],(1:Int),(134:Nat)+(1:Nat),()),([(108:UInt8),111,119,101,114,101,100],(1:Int),(136:Nat)+(1:Nat),()),([(105:UInt8),110,115,105,100,101],(1:Int),(139:Nat)+(1:Nat),()),([(108:UInt8),111,99,107,101,100],(1:Int),(140:Nat)+(1:Nat),()),([(104:UInt8),101,105,103,104,116,115],(1:Int),(142:Nat)+(1:Nat),()),([(118:UInt8),101,114,115,105,111,110],(2:Int),(144:Nat)+(1:Nat),()),([(108:UInt8),97,115,116],(2:Int),(145:Nat)+(1:Nat),())],())
theorem yPc(n:Nat)(x:zt_a.den):runF zt_g (yPC n) Tryz.f90 zt_a zt_r x=zt_m n:=by kernel_rfl
def zt  : (List (List UInt8×Int×Nat×Unit)×Unit):=
  ([([(97:UInt8),100,118,105,99,101],(1:Int),(133:Nat)+(1:Nat),()),([(115:UInt8),116,97,116,101],(1:Int),(134:Nat)+(1:Nat),()),([(108:UInt8),111,119,101,114,101,100],(1:Int),(136:Nat)+(1:Nat),()),([(105:UInt8),110,115,105,100,101],(1:Int),(139:Nat)+(1:Nat),()),([(108:UInt8),111,99,107,101,100],(1:Int),(140:Nat)+(1:Nat),()),([(104:UInt8),101,105,103,104,116,115],(1:Int),(142:Nat)+(1:Nat),()),([(118:UInt8),101,114,115,105,111,110],(2:Int),(144:Nat)+(1:Nat),()),([(108:UInt8),97,115,116],(2:Int),(145:Nat)+(1:Nat),())],())
abbrev zt_M  : Option (List (List UInt8×Int×Nat×Unit)×Unit):=some (zt)
theorem yNp(y:List (List UInt8×Int×Nat×Unit)×Unit)(h:zt_M=some y):∃ n,zt_m n=some y:=
  ⟨0,by rw[<- h];show zt_m 0=some (zt);unfold zt_m zt;first|rfl|(simp only[yE];done)|(simp only[yE];rfl)⟩
def zt_e:Entry:={ f:=90,args:=zt_a,rS:=zt_r,m:=λ x=>zt_M }
theorem yQJ:FnOK Tryz.prog zt_e:=yD7 (g:=zt_g) (fn:=Tryz.f90) y1c y74 (y8 yPZ (y8 yPa (y8 yQT (y8 yPU (y8 yQ5 (y8 yQb (y8 yQM (y8 yPY eNil)))))))) (by kernel_rfl) (by kernel_rfl) (by kernel_rfl) (λ x y h=>let ⟨n,hn⟩:=yNp y h;⟨yPC n,iNil,(yPc n x).trans hn⟩)
end
end Go.Tw
end
section
set_option maxRecDepth 1000000
namespace Go.Tw
open Go.Vx Go.Vx.B Go.Proofs
noncomputable section
def zI_m(n:Nat)(l:List (Q3))(xp:Q3):Option (List (Q3)×Unit):=
  (bif decide (l.length<=memMax)then (bif decide (l.length+(1:Nat)<=memMax)then some (l++[xp],())else none)else none)
def zI_M(l:List (Q3))(xp:Q3):Option (List (Q3)×Unit):=zI_m 0 l xp
abbrev zI_e:Entry:={ f:=185,args:=.pair t57 (.pair t64 .unit),rS:=.pair t57 .unit,m:=λ x=>zI_M x.1 x.2.1 }
theorem yQI:FnOK Tryz.prog zI_e:=fF (mu:=[6]) 0 Tryz.f185 (λ n x=>zI_m n x.1 x.2.1) [] (y8 yPb eNil)
def zH_m(n:Nat)(l:List (Q6))(xp:Q6):Option (List (Q6)×Unit):=
  (bif decide (l.length<=memMax)then (bif decide (l.length+(1:Nat)<=memMax)then some (l++[xp],())else none)else none)
def zH_M(l:List (Q6))(xp:Q6):Option (List (Q6)×Unit):=zH_m 0 l xp
abbrev zH_e:Entry:={ f:=194,args:=.pair t58 (.pair t102 .unit),rS:=.pair t58 .unit,m:=λ x=>zH_M x.1 x.2.1 }
theorem yPS:FnOK Tryz.prog zH_e:=fF (mu:=[6]) 0 Tryz.f194 (λ n x=>zH_m n x.1 x.2.1) [] (y8 yPy eNil)
def yMe(n:Nat)(l:List (Q2)):Option ((Q1)×Int×Int×Unit):=
  ((yK2 l).bind λ v0=>some (v0.2.1,v0.2.2.1,v0.2.2.2.1,()))
def yNO(l:List (Q2)):Option ((Q1)×Int×Int×Unit):=yMe 0 l
abbrev z0R_e:Entry:={ f:=19,args:=.pair t22 .unit,rS:=.pair t41 (.pair t3 (.pair t3 .unit)),m:=λ x=>yNO x.1 }
theorem yNs:FnOK Tryz.prog z0R_e:=fF 0 Tryz.f19 (λ n x=>yMe n x.1) [] (y8 yP2 eNil)
abbrev yMP:Ty:=.unit
abbrev yOE:Ty:=.pair t178 .unit
def yO3:G:={ T:=T,E:=[],mU:=[],fz:=[] }
def yQL:List (List Nat):=[]
def yL9(n:Nat):Ann:={ keep:=yQL,fuel:=n,inl:=[],deep:=0 }
def yK9(n:Nat)  : Option (List (List UInt8×List Int×Nat×Unit)×Unit):=
  some ([([(103:UInt8),97,116,101],[(1:Int),(1:Int)],(148:Nat)+(1:Nat),()),([(114:UInt8),117,108,101],[(0:Int),(3:Int)],(149:Nat)+(1:Nat),()),([(102:UInt8),111,114,101,99,97,115,116],[(0:Int),(3:Int)],(150:Nat)+(1:Nat),()),([(108:UInt8),101,118,101,108],[(1:Int),(2:Int)],(151:Nat)+(1:Nat),()),([(100:UInt8),101,99,105,100,101],[(1:Int),(1:Int)],(152:Nat)+(1:Nat),()),([(111:UInt8),118,101,114,114,105,100,101],[(1:Int),(1:Int)],(153:Nat)+(1:Nat),()),([(99:UInt8),111,109,109,97,110,100],[(2:Int),(2:Int)],(154:Nat)+(1:Nat),()),([(108:UInt8),111,99,107],[(2:Int),(1:Int)],(155:Nat)+(1:Nat),()),([(117:UInt8),110,108,111,99,107],[(2:Int),(1:Int)],(156:Nat)+(1:Nat),()),([(101:UInt8),110,116,101,114],[(1:Int),(1:Int)],(157:Nat)+(1:Nat),()),([(108:UInt8),101,97,118,101],[(1:Int),(1:Int)],(158:Nat)+(1:Nat),()),([(105:UInt8),115,115,117,101],[(1:Int),(1:Int)],(159:Nat)+(1:Nat),()),([(117:UInt8),110,100,111],[(0:Int),(0:Int)],(0:Nat),())],())
theorem yOO(n:Nat)(x:yMP.den):runF yO3 (yL9 n) Tryz.f92 yMP yOE x=yK9 n:=by kernel_rfl
def z0J  : (List (List UInt8×List Int×Nat×Unit)×Unit):=
  ([([(103:UInt8),97,116,101],[(1:Int),(1:Int)],(148:Nat)+(1:Nat),()),([(114:UInt8),117,108,101],[(0:Int),(3:Int)],(149:Nat)+(1:Nat),()),([(102:UInt8),111,114,101,99,97,115,116],[(0:Int),(3:Int)],(150:Nat)+(1:Nat),()),([(108:UInt8),101,118,101,108],[(1:Int),(2:Int)],(151:Nat)+(1:Nat),()),([(100:UInt8),101,99,105,100,101],[(1:Int),(1:Int)],(152:Nat)+(1:Nat),()),([(111:UInt8),118,101,114,114,105,100,101],[(1:Int),(1:Int)],(153:Nat)+(1:Nat),()),([(99:UInt8),111,109,109,97,110,100],[(2:Int),(2:Int)],(154:Nat)+(1:Nat),()),([(108:UInt8),111,99,107],[(2:Int),(1:Int)],(155:Nat)+(1:Nat),()),([(117:UInt8),110,108,111,99,107],[(2:Int),(1:Int)],(156:Nat)+(1:Nat),()),([(101:UInt8),110,116,101,114],[(1:Int),(1:Int)],(157:Nat)+(1:Nat),()),([(108:UInt8),101,97,118,101],[(1:Int),(1:Int)],(158:Nat)+(1:Nat),()),([(105:UInt8),115,115,117,101],[(1:Int),(1:Int)],(159:Nat)+(1:Nat),()),([(117:UInt8),110,100,111],[(0:Int),(0:Int)],(0:Nat),())],())
abbrev yOR  : Option (List (List UInt8×List Int×Nat×Unit)×Unit):=some (z0J)
theorem yMH(y:List (List UInt8×List Int×Nat×Unit)×Unit)(h:yOR=some y):∃ n,yK9 n=some y:=
  ⟨0,by rw[<- h];show yK9 0=some (z0J);unfold yK9 z0J;first|rfl|(simp only[yE];done)|(simp only[yE];rfl)⟩
def z0J_e:Entry:={ f:=92,args:=yMP,rS:=yOE,m:=λ x=>yOR }
theorem yEI:FnOK Tryz.prog z0J_e:=yD7 (g:=yO3) (fn:=Tryz.f92) y1c y74 eNil (by kernel_rfl) (by kernel_rfl) (by kernel_rfl) (λ x y h=>let ⟨n,hn⟩:=yMH y h;⟨yL9 n,iNil,(yOO n x).trans hn⟩)
end
end Go.Tw
end
