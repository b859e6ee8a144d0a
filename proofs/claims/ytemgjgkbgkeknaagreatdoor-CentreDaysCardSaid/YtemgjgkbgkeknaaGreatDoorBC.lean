import Derived.Test.YtemgjgkbgkeknaaGreatDoorBT
import Derived.Test.YtemgjgkbgkeknaaGreatDoorB0
import Derived.Test.YtemgjgkbgkeknaaGreatDoorSB
import Derived.Test.YtemgjgkbgkeknaaGreatDoorLZ
import Derived.Test.YtemgjgkbgkeknaaGreatDoorBA
set_option linter.all false
open Go.IntKind (i64)
section
set_option maxRecDepth 1000000
namespace Go.Tw
open Go.Vx Go.Vx.B Go.Proofs
noncomputable section
abbrev yMY:Ty:=.pair t41 (.pair t56 .unit)
abbrev yPE:Ty:=.pair t41 (.pair t3 .unit)
def yNt:G:={ T:=T,E:=[z0O_e,zz_e],mU:=[2,59],fz:=[],sep:=[3] }
def yQ0:List (List Nat):=[]
def yOH(n:Nat):Ann:={ keep:=yQ0,fuel:=n,inl:=[],deep:=0 }
def y7r(n:Nat)(rp:Q1)(e:Q2):Option ((Q1)×Int×Unit):=
  ((idx e.2.2.2.1 (1:Int)).bind λ v16=>(bif decide (v16 > 4096)then some ((rp.1,(rp.2.1.1,rp.2.1.2.1,()),rp.2.2.1,rp.2.2.2.1,rp.2.2.2.2.1,rp.2.2.2.2.2.1,rp.2.2.2.2.2.2.1,rp.2.2.2.2.2.2.2.1,rp.2.2.2.2.2.2.2.2.1,rp.2.2.2.2.2.2.2.2.2.1,rp.2.2.2.2.2.2.2.2.2.2.1,()),(3:Int),())else ((idx e.2.2.1 (0:Int)).bind λ v17=>(bif v17==[(115:UInt8),101,97]then ((idx e.2.2.2.1 (1:Int)).bind λ v18=>some ((rp.1,(rp.2.1.1,rp.2.1.2.1,()),rp.2.2.1,rp.2.2.2.1,v18,rp.2.2.2.2.2.1,rp.2.2.2.2.2.2.1,rp.2.2.2.2.2.2.2.1,rp.2.2.2.2.2.2.2.2.1,rp.2.2.2.2.2.2.2.2.2.1,rp.2.2.2.2.2.2.2.2.2.2.1,()),(0:Int),()))else ((idx e.2.2.2.1 (1:Int)).bind λ v19=>some ((rp.1,(rp.2.1.1,rp.2.1.2.1,()),rp.2.2.1,rp.2.2.2.1,rp.2.2.2.2.1,v19,rp.2.2.2.2.2.2.1,rp.2.2.2.2.2.2.2.1,rp.2.2.2.2.2.2.2.2.1,rp.2.2.2.2.2.2.2.2.2.1,rp.2.2.2.2.2.2.2.2.2.2.1,()),(0:Int),()))))))
def yG4(n:Nat)(rp:Q1)(e:Q2):Option ((Q1)×Int×Unit):=
  (bif e.2.1==[(103:UInt8),97,116,101]then ((idx e.2.2.1 (0:Int)).bind λ v0=>((yD8 (rp.1,(rp.2.1.1,rp.2.1.2.1,()),rp.2.2.1,rp.2.2.2.1,rp.2.2.2.2.1,rp.2.2.2.2.2.1,rp.2.2.2.2.2.2.1,rp.2.2.2.2.2.2.2.1,rp.2.2.2.2.2.2.2.2.1,rp.2.2.2.2.2.2.2.2.2.1,rp.2.2.2.2.2.2.2.2.2.2.1,()) v0).bind λ v1=>(bif decide (v1.1 >= 0)then some ((rp.1,(rp.2.1.1,rp.2.1.2.1,()),rp.2.2.1,rp.2.2.2.1,rp.2.2.2.2.1,rp.2.2.2.2.2.1,rp.2.2.2.2.2.2.1,rp.2.2.2.2.2.2.2.1,rp.2.2.2.2.2.2.2.2.1,rp.2.2.2.2.2.2.2.2.2.1,rp.2.2.2.2.2.2.2.2.2.2.1,()),(9:Int),())else (bif decide ((↑rp.2.2.2.2.2.2.2.2.1.length:Int) >= 16)then some ((rp.1,(rp.2.1.1,rp.2.1.2.1,()),rp.2.2.1,rp.2.2.2.1,rp.2.2.2.2.1,rp.2.2.2.2.2.1,rp.2.2.2.2.2.2.1,rp.2.2.2.2.2.2.2.1,rp.2.2.2.2.2.2.2.2.1,rp.2.2.2.2.2.2.2.2.2.1,rp.2.2.2.2.2.2.2.2.2.2.1,()),(5:Int),())else (bif decide ((0:Nat)+rp.2.2.2.2.2.2.2.2.1.length<=memMax)then ((idx e.2.2.1 (0:Int)).bind λ v2=>(bif decide (rp.2.2.2.2.2.2.2.2.1.length+(1:Nat)<=memMax)then some ((rp.1,(rp.2.1.1,rp.2.1.2.1,()),rp.2.2.1,rp.2.2.2.1,rp.2.2.2.2.1,rp.2.2.2.2.2.1,rp.2.2.2.2.2.2.1,rp.2.2.2.2.2.2.2.1,rp.2.2.2.2.2.2.2.2.1++[(v2,Bool.false,(0:Int),[],[],())],rp.2.2.2.2.2.2.2.2.2.1,rp.2.2.2.2.2.2.2.2.2.2.1,()),(0:Int),())else none))else none)))))else (bif e.2.1==[(114:UInt8),117,108,101]then ((idx e.2.2.2.1 (1:Int)).bind λ v3=>((idx e.2.2.2.1 (2:Int)).bind λ v4=>(bif (zz (v3,v4,())).1 != 0 then some ((rp.1,(rp.2.1.1,rp.2.1.2.1,()),rp.2.2.1,rp.2.2.2.1,rp.2.2.2.2.1,rp.2.2.2.2.2.1,rp.2.2.2.2.2.2.1,rp.2.2.2.2.2.2.2.1,rp.2.2.2.2.2.2.2.2.1,rp.2.2.2.2.2.2.2.2.2.1,rp.2.2.2.2.2.2.2.2.2.2.1,()),(zz (v3,v4,())).1,())else some ((rp.1,(v3,v4,()),rp.2.2.1,rp.2.2.2.1,rp.2.2.2.2.1,rp.2.2.2.2.2.1,rp.2.2.2.2.2.2.1,rp.2.2.2.2.2.2.2.1,rp.2.2.2.2.2.2.2.2.1,rp.2.2.2.2.2.2.2.2.2.1,rp.2.2.2.2.2.2.2.2.2.2.1,()),(0:Int),()))))else (bif e.2.1==[(102:UInt8),111,114,101,99,97,115,116]then ((idx e.2.2.2.1 (2:Int)).bind λ v5=>(bif decide (v5 > 4096)then some ((rp.1,(rp.2.1.1,rp.2.1.2.1,()),rp.2.2.1,rp.2.2.2.1,rp.2.2.2.2.1,rp.2.2.2.2.2.1,rp.2.2.2.2.2.2.1,rp.2.2.2.2.2.2.2.1,rp.2.2.2.2.2.2.2.2.1,rp.2.2.2.2.2.2.2.2.2.1,rp.2.2.2.2.2.2.2.2.2.2.1,()),(3:Int),())else ((idx e.2.2.2.1 (1:Int)).bind λ v6=>(bif decide (v6<=rp.2.2.1)then some ((rp.1,(rp.2.1.1,rp.2.1.2.1,()),rp.2.2.1,rp.2.2.2.1,rp.2.2.2.2.1,rp.2.2.2.2.2.1,rp.2.2.2.2.2.2.1,rp.2.2.2.2.2.2.2.1,rp.2.2.2.2.2.2.2.2.1,rp.2.2.2.2.2.2.2.2.2.1,rp.2.2.2.2.2.2.2.2.2.2.1,()),(21:Int),())else ((idx e.2.2.2.1 (1:Int)).bind λ v7=>((idx e.2.2.2.1 (2:Int)).bind λ v8=>some ((rp.1,(rp.2.1.1,rp.2.1.2.1,()),v7,v8,rp.2.2.2.2.1,rp.2.2.2.2.2.1,rp.2.2.2.2.2.2.1,rp.2.2.2.2.2.2.2.1,rp.2.2.2.2.2.2.2.2.1,rp.2.2.2.2.2.2.2.2.2.1,rp.2.2.2.2.2.2.2.2.2.2.1,()),(0:Int),())))))))else ((idx e.2.2.1 (0:Int)).bind λ v9=>(bif !v9==[(115:UInt8),101,97]then ((idx e.2.2.1 (0:Int)).bind λ v10=>(bif !v10==[(98:UInt8),97,115,105,110]then some ((rp.1,(rp.2.1.1,rp.2.1.2.1,()),rp.2.2.1,rp.2.2.2.1,rp.2.2.2.2.1,rp.2.2.2.2.2.1,rp.2.2.2.2.2.2.1,rp.2.2.2.2.2.2.2.1,rp.2.2.2.2.2.2.2.2.1,rp.2.2.2.2.2.2.2.2.2.1,rp.2.2.2.2.2.2.2.2.2.2.1,()),(13:Int),())else (y7r n rp e)))else (y7r n rp e))))))
theorem yPZ(n:Nat)(x:yMY.den):runF yNt (yOH n) Tryz.f76 yMY yPE x=yG4 n x.1 x.2.1:=by kernel_rfl
def y9D(rp:Q1)(e:Q2):Option ((Q1)×Int×Unit):=yG4 0 rp e
def z0j_e:Entry:={ f:=76,args:=yMY,rS:=yPE,m:=λ x=>y9D x.1 x.2.1 }
theorem yOC:FnOK Tryz.prog z0j_e:=yEj 0 (g:=yNt) (fn:=Tryz.f76) (yC yIX (yC yPp eNil)) (λ _=>iNil) yPZ
def yOt(n:Nat)(e:Q2):Option (List UInt8×Unit):=
  ((yOZ e).bind λ v0=>(bif decide (v0.1.length+(1:Nat) < strMax)then ((zx_M v0.1).bind λ v1=>(bif decide ((v0.1++[(35:UInt8)]).length+v1.1.length < strMax)then (bif decide ((v0.1++[(35:UInt8)]++v1.1).length+(1:Nat) < strMax)then some (v0.1++[(35:UInt8)]++v1.1++[(10:UInt8)],())else none)else none))else none))
def yQm(e:Q2):Option (List UInt8×Unit):=yOt 0 e
abbrev z09_e:Entry:={ f:=79,args:=.pair t56 .unit,rS:=.pair t9 .unit,m:=λ x=>yQm x.1 }
theorem yO7:FnOK Tryz.prog z09_e:=fF 0 Tryz.f79 (λ n x=>yOt n x.1) [] (yC yOx (yC yPD eNil))
def zZ_m(n:Nat)(np:Int):Option (Int×Unit):=
  some ((z0B np (0:Int) (999999999:Int)).1,())
def zZ(np:Int):(Int×Unit):=
  ((z0B np (0:Int) (999999999:Int)).1,())
abbrev zZ_M (np:Int):Option (Int×Unit):=some (zZ np)
abbrev zZ_e:Entry:={ f:=104,args:=.pair t3 .unit,rS:=.pair t29 .unit,m:=λ x=>zZ_M x.1 }
theorem yQf:FnOK Tryz.prog zZ_e:=fF (hm:=by intro x;show some (zZ x.1)=zZ_m 0 x.1;unfold zZ_m zZ;first|rfl|(simp only[yF];done)|(simp only[yF];rfl)) 0 Tryz.f104 (λ n x=>zZ_m n x.1) [] (yC yBO eNil)
def zL_m(n:Nat)(rp:Q1)(thing:List UInt8):Option (Int×Unit):=
  ((zS_M rp thing).bind λ v0=>(bif decide (v0.1 >= 0)then ((idx rp.2.2.2.2.2.2.2.2.2.2.1 v0.1).bind λ v1=>some (v1.2.1,()))else some ((0:Int),())))
def zL_M(rp:Q1)(thing:List UInt8):Option (Int×Unit):=zL_m 0 rp thing
abbrev zL_e:Entry:={ f:=109,args:=.pair t60 (.pair t9 .unit),rS:=.pair t3 .unit,m:=λ x=>zL_M x.1 x.2.1 }
theorem yON:FnOK Tryz.prog zL_e:=fF 0 Tryz.f109 (λ n x=>zL_m n x.1 x.2.1) [] (yC yOJ eNil)
def zd_m(n:Nat)(np:Int):Option (Int×Unit):=
  some ((z0B np (0:Int) (4096:Int)).1,())
def zd(np:Int):(Int×Unit):=
  ((z0B np (0:Int) (4096:Int)).1,())
abbrev zd_M (np:Int):Option (Int×Unit):=some (zd np)
abbrev zd_e:Entry:={ f:=114,args:=.pair t3 .unit,rS:=.pair t29 .unit,m:=λ x=>zd_M x.1 }
theorem yNw:FnOK Tryz.prog zd_e:=fF (hm:=by intro x;show some (zd x.1)=zd_m 0 x.1;unfold zd_m zd;first|rfl|(simp only[yF];done)|(simp only[yF];rfl)) 0 Tryz.f114 (λ n x=>zd_m n x.1) [] (yC yBO eNil)
def il182:Inl:={ f:=182,fn:=Tryz.f182,keep:=[],mU:=[],fz:=[] }
theorem yKM:ym Tryz.prog il182:=⟨by kernel_rfl,by kernel_rfl,λ e0 h=>by cases (show (none:Option LibK)=some e0 from h)⟩
def il212:Inl:={ f:=212,fn:=Tryz.f212,keep:=[[0,2,7,8,9]],mU:=[],fz:=[] }
theorem yKC:ym Tryz.prog il212:=⟨by kernel_rfl,by kernel_rfl,λ e0 h=>by cases (show (none:Option LibK)=some e0 from h)⟩
def yGc(n:Nat)(r0:((Q3)×Unit->Option (Bool×Unit))->List (Q3)->Int->Int->Q1->((Q3)×Unit->Option (Bool×Unit))->Q1->Q1->((Q3)×Unit->Option (Bool×Unit))->Q1->((Q3)×Unit->Option (Bool×Unit))->List (List UInt8)->Q1->((Q3)×Unit->Option (Bool×Unit))->Q1->Q1->((Q3)×Unit->Option (Bool×Unit))->Q1->((Q3)×Unit->Option (Bool×Unit))->Option (List (List UInt8)×Unit))(b8:(Q3)×Unit->Option (Bool×Unit))(b5:List (Q3))(bj bi:Int)(aL:Q1)(aM:(Q3)×Unit->Option (Bool×Unit))(aN aO:Q1)(aP:(Q3)×Unit->Option (Bool×Unit))(aw:Q1)(ax:(Q3)×Unit->Option (Bool×Unit))(b6:List (List UInt8))(b9:Q1)(bc:(Q3)×Unit->Option (Bool×Unit))(bd bf:Q1)(bg:(Q3)×Unit->Option (Bool×Unit))(aQ:Q1)(aR:(Q3)×Unit->Option (Bool×Unit)):Option (List (List UInt8)×Unit):=
  (bif decide (bi < bj)then ((idx b5 bi).bind λ v1=>((b8 ((v1.1,v1.2.1,v1.2.2.1,v1.2.2.2.1,v1.2.2.2.2.1,()),())).bind λ v2=>(bif v2.1 then (bif decide (b6.length+(1:Nat)<=memMax)then r0 b8 b5 bj (i64.wrap (bi+1)) aL aM aN aO aP aw ax (b6++[(zo (v1.1,v1.2.1,v1.2.2.1,v1.2.2.2.1,v1.2.2.2.2.1,())).1]) b9 bc bd bf bg aQ aR else none)else r0 b8 b5 bj (i64.wrap (bi+1)) aL aM aN aO aP aw ax b6 b9 bc bd bf bg aQ aR)))else some (b6,()))
def yAy(n k:Nat)(b8:(Q3)×Unit->Option (Bool×Unit))(b5:List (Q3))(bj bi:Int)(aL:Q1)(aM:(Q3)×Unit->Option (Bool×Unit))(aN aO:Q1)(aP:(Q3)×Unit->Option (Bool×Unit))(aw:Q1)(ax:(Q3)×Unit->Option (Bool×Unit))(b6:List (List UInt8))(b9:Q1)(bc:(Q3)×Unit->Option (Bool×Unit))(bd bf:Q1)(bg:(Q3)×Unit->Option (Bool×Unit))(aQ:Q1)(aR:(Q3)×Unit->Option (Bool×Unit)):Option (List (List UInt8)×Unit):=
  iter (λ r y=>yGc n (λ b8 b5 bj bi aL aM aN aO aP aw ax b6 b9 bc bd bf bg aQ aR=>r ((b8,(b5,(bj,(bi,())))),(((aL,(aM,(aN,(aO,(aP,((aw,(ax,())),())))))),((),(b6,()))),(b9,(bc,(bd,(bf,(bg,((aQ,(aR,())),()))))))))) y.1.1 y.1.2.1 y.1.2.2.1 y.1.2.2.2.1 y.2.1.1.1 y.2.1.1.2.1 y.2.1.1.2.2.1 y.2.1.1.2.2.2.1 y.2.1.1.2.2.2.2.1 y.2.1.1.2.2.2.2.2.1.1 y.2.1.1.2.2.2.2.2.1.2.1 y.2.1.2.2.1 y.2.2.1 y.2.2.2.1 y.2.2.2.2.1 y.2.2.2.2.2.1 y.2.2.2.2.2.2.1 y.2.2.2.2.2.2.2.1.1 y.2.2.2.2.2.2.2.1.2.1) k ((b8,(b5,(bj,(bi,())))),(((aL,(aM,(aN,(aO,(aP,((aw,(ax,())),())))))),((),(b6,()))),(b9,(bc,(bd,(bf,(bg,((aQ,(aR,())),()))))))))
def zR_m(n:Nat)(rp:Q1)(holds:(Q3)×Unit->Option (Bool×Unit)):Option (List (List UInt8)×Unit):=
  (yAy n n (holds) (rp.2.2.2.2.2.2.2.2.1) ((↑rp.2.2.2.2.2.2.2.2.1.length:Int)) ((0:Int)) (rp) (holds) (rp) (rp) (holds) (rp) (holds) ([]) (rp) (holds) (rp) (rp) (holds) (rp) (holds))
def yMr(b8:(Q3)×Unit->Option (Bool×Unit))(b5:List (Q3))(aL:Q1)(aM:(Q3)×Unit->Option (Bool×Unit))(aN aO:Q1)(aP:(Q3)×Unit->Option (Bool×Unit))(aw:Q1)(ax:(Q3)×Unit->Option (Bool×Unit))(b9:Q1)(bc:(Q3)×Unit->Option (Bool×Unit))(bd bf:Q1)(bg:(Q3)×Unit->Option (Bool×Unit))(aQ:Q1)(aR:(Q3)×Unit->Option (Bool×Unit))(bi:Int)(v1:Q3)(b6:List (List UInt8)):Option ((List (List UInt8)×Unit)⊕(List (List UInt8))):=
  ((b8 ((v1.1,v1.2.1,v1.2.2.1,v1.2.2.2.1,v1.2.2.2.2.1,()),())).bind λ v2=>(bif v2.1 then (bif decide (b6.length+(1:Nat)<=memMax)then (some (Sum.inr (b6++[(zo (v1.1,v1.2.1,v1.2.2.1,v1.2.2.2.1,v1.2.2.2.2.1,())).1])))else none)else (some (Sum.inr (b6)))))
def yNx(b8:(Q3)×Unit->Option (Bool×Unit))(b5:List (Q3))(aL:Q1)(aM:(Q3)×Unit->Option (Bool×Unit))(aN aO:Q1)(aP:(Q3)×Unit->Option (Bool×Unit))(aw:Q1)(ax:(Q3)×Unit->Option (Bool×Unit))(b9:Q1)(bc:(Q3)×Unit->Option (Bool×Unit))(bd bf:Q1)(bg:(Q3)×Unit->Option (Bool×Unit))(aQ:Q1)(aR:(Q3)×Unit->Option (Bool×Unit))(b6:List (List UInt8)):Option (List (List UInt8)×Unit):=
  (some ((b6,())))
theorem yGV(n:Nat)(hn:big<=n)(b8:(Q3)×Unit->Option (Bool×Unit))(b5:List (Q3))(aL:Q1)(aM:(Q3)×Unit->Option (Bool×Unit))(aN aO:Q1)(aP:(Q3)×Unit->Option (Bool×Unit))(aw:Q1)(ax:(Q3)×Unit->Option (Bool×Unit))(b9:Q1)(bc:(Q3)×Unit->Option (Bool×Unit))(bd bf:Q1)(bg:(Q3)×Unit->Option (Bool×Unit))(aQ:Q1)(aR:(Q3)×Unit->Option (Bool×Unit))(b6:List (List UInt8))(hx:List.length (b5) < yD):LeF some (yc (λ bh bl av=>yMr b8 b5 aL aM aN aO aP aw ax b9 bc bd bf bg aQ aR bh bl av) (λ av=>yNx b8 b5 aL aM aN aO aP aw ax b9 bc bd bf bg aQ aR av) 0 (b5) b6) (yAy n n b8 b5 (List.length (b5):Int) 0 aL aM aN aO aP aw ax b6 b9 bc bd bf bg aQ aR):=by
  refine y0C (f:=some) (W:=λ bm bh av=>yAy n bm b8 b5 (List.length (b5):Int) bh aL aM aN aO aP aw ax av b9 bc bd bf bg aQ aR) (λ bm bh av=>?_) hx b6 n (by unfold big at hn;unfold yD at hx;omega)
  show LeF _ _ (yGc n (yAy n bm) b8 b5 (List.length (b5):Int) bh aL aM aN aO aP aw ax av b9 bc bd bf bg aQ aR)
  exact y7 (yJ λ v1=>(yJ λ v2=>(y7 (y7 (yB rfl) y0Q) (yB rfl)))) (y1k (yB rfl))
def zR_M(rp:Q1)(holds:(Q3)×Unit->Option (Bool×Unit)):Option (List (List UInt8)×Unit):=
  (bif decide (List.length (rp.2.2.2.2.2.2.2.2.1) < yD)then yc (λ bh bl av=>yMr (holds) (rp.2.2.2.2.2.2.2.2.1) (rp) (holds) (rp) (rp) (holds) (rp) (holds) (rp) (holds) (rp) (rp) (holds) (rp) (holds) bh bl av) (λ av=>yNx (holds) (rp.2.2.2.2.2.2.2.2.1) (rp) (holds) (rp) (rp) (holds) (rp) (holds) (rp) (holds) (rp) (rp) (holds) (rp) (holds) av) 0 (rp.2.2.2.2.2.2.2.2.1) ([])else none)
abbrev zR_e:Entry:={ f:=137,args:=.pair t60 (.pair t208 .unit),rS:=.pair t38 .unit,m:=λ x=>zR_M x.1 x.2.1 }
theorem yL0:FnOK Tryz.prog zR_e:=fBI (mu:=[5]) Tryz.f137 (λ n x=>zR_m n x.1 x.2.1) [] [il182,il212] 3 (yC yQg eNil) (yx yKM (yx yKC iNil)) λ n hn x=>(yz λ hx=>by apply yGV n hn;exact hx)
def zk_m(n:Nat)(rp:Q1)(p1:List (List UInt8)):Option (Q6):=
  ((yML [rp.2.2.2.1,rp.2.2.2.2.1,rp.2.2.2.2.2.1]).bind λ v0=>some (v0.1,v0.2.1,()))
def zk_M(rp:Q1)(p1:List (List UInt8)):Option (Q6):=zk_m 0 rp p1
abbrev zk_e:Entry:={ f:=142,args:=.pair t60 (.pair t38 .unit),rS:=.pair t9 (.pair t29 .unit),m:=λ x=>zk_M x.1 x.2.1 }
theorem yQ9:FnOK Tryz.prog zk_e:=fF 0 Tryz.f142 (λ n x=>zk_m n x.1 x.2.1) [] (yC yJ9 eNil)
def zm_m(n:Nat)(rp:Q1)(w:List (List UInt8)):Option (Q6):=
  ((idx w (1:Int)).bind λ v0=>((zT_M rp v0).bind λ v1=>(bif decide (v1.1 < 0)then some ([],(10:Int),())else ((idx rp.2.2.2.2.2.2.2.2.1 v1.1).bind λ v2=>((zr_M v2).bind λ v3=>some (v3.1,(0:Int),()))))))
def zm_M(rp:Q1)(w:List (List UInt8)):Option (Q6):=zm_m 0 rp w
abbrev zm_e:Entry:={ f:=145,args:=.pair t60 (.pair t38 .unit),rS:=.pair t9 (.pair t29 .unit),m:=λ x=>zm_M x.1 x.2.1 }
theorem yQi:FnOK Tryz.prog zm_e:=fF 0 Tryz.f145 (λ n x=>zm_m n x.1 x.2.1) [] (yC yMG (yC yOD eNil))
end
end Go.Tw
end
section
set_option maxRecDepth 1000000
namespace Go.Tw
open Go.Vx Go.Vx.B Go.Proofs
noncomputable section
def zp_m(n:Nat)(xp:Int×Int×Unit):Option (Int×Unit):=
  ((y15 [(zd xp.1).1,(zd xp.2.1).1,(z0Z (decide (xp.2.1 > xp.1)) (11:Int)).1]).bind λ v0=>some (v0.1,()))
def zp_M(xp:Int×Int×Unit):Option (Int×Unit):=zp_m 0 xp
abbrev zp_e:Entry:={ f:=68,args:=.pair t33 .unit,rS:=.pair t29 .unit,m:=λ x=>zp_M x.1 }
theorem yPR:FnOK Tryz.prog zp_e:=fF 0 Tryz.f68 (λ n x=>zp_m n x.1) [] (yC yNw (yC y47 (yC y6S eNil)))
def yBr(n:Nat)(rp:Q1)(e:Q2)(j8:Bool):Option ((Q1)×Int×Unit):=
  (bif j8 then ((yFj rp e).bind λ v9=>((idx e.2.2.2.1 (0:Int)).bind λ v34=>some ((v34,(v9.1.2.1.1,v9.1.2.1.2.1,()),v9.1.2.2.1,v9.1.2.2.2.1,v9.1.2.2.2.2.1,v9.1.2.2.2.2.2.1,v9.1.2.2.2.2.2.2.1,v9.1.2.2.2.2.2.2.2.1,v9.1.2.2.2.2.2.2.2.2.1,v9.1.2.2.2.2.2.2.2.2.2.1,v9.1.2.2.2.2.2.2.2.2.2.2.1,()),v9.2.1,())))else (bif e.2.1==[(101:UInt8),110,116,101,114]then (bif e.2.1==[(101:UInt8),110,116,101,114]then ((yDG rp e).bind λ v11=>((idx e.2.2.2.1 (0:Int)).bind λ v35=>some ((v35,(v11.1.2.1.1,v11.1.2.1.2.1,()),v11.1.2.2.1,v11.1.2.2.2.1,v11.1.2.2.2.2.1,v11.1.2.2.2.2.2.1,v11.1.2.2.2.2.2.2.1,v11.1.2.2.2.2.2.2.2.1,v11.1.2.2.2.2.2.2.2.2.1,v11.1.2.2.2.2.2.2.2.2.2.1,v11.1.2.2.2.2.2.2.2.2.2.2.1,()),v11.2.1,())))else ((yHG rp e).bind λ v12=>((idx e.2.2.2.1 (0:Int)).bind λ v36=>some ((v36,(v12.1.2.1.1,v12.1.2.1.2.1,()),v12.1.2.2.1,v12.1.2.2.2.1,v12.1.2.2.2.2.1,v12.1.2.2.2.2.2.1,v12.1.2.2.2.2.2.2.1,v12.1.2.2.2.2.2.2.2.1,v12.1.2.2.2.2.2.2.2.2.1,v12.1.2.2.2.2.2.2.2.2.2.1,v12.1.2.2.2.2.2.2.2.2.2.2.1,()),v12.2.1,()))))else (bif e.2.1==[(108:UInt8),101,97,118,101]then ((yDG rp e).bind λ v13=>((idx e.2.2.2.1 (0:Int)).bind λ v37=>some ((v37,(v13.1.2.1.1,v13.1.2.1.2.1,()),v13.1.2.2.1,v13.1.2.2.2.1,v13.1.2.2.2.2.1,v13.1.2.2.2.2.2.1,v13.1.2.2.2.2.2.2.1,v13.1.2.2.2.2.2.2.2.1,v13.1.2.2.2.2.2.2.2.2.1,v13.1.2.2.2.2.2.2.2.2.2.1,v13.1.2.2.2.2.2.2.2.2.2.2.1,()),v13.2.1,())))else ((yHG rp e).bind λ v14=>((idx e.2.2.2.1 (0:Int)).bind λ v38=>some ((v38,(v14.1.2.1.1,v14.1.2.1.2.1,()),v14.1.2.2.1,v14.1.2.2.2.1,v14.1.2.2.2.2.1,v14.1.2.2.2.2.2.1,v14.1.2.2.2.2.2.2.1,v14.1.2.2.2.2.2.2.2.1,v14.1.2.2.2.2.2.2.2.2.1,v14.1.2.2.2.2.2.2.2.2.2.1,v14.1.2.2.2.2.2.2.2.2.2.2.1,()),v14.2.1,()))))))
def yCW(n:Nat)(rp:Q1)(e:Q2)(j3:Bool):Option ((Q1)×Int×Unit):=
  (bif j3 then ((idx e.2.2.1 (0:Int)).bind λ v4=>(bif !(zw v4).1 then some ((rp.1,(rp.2.1.1,rp.2.1.2.1,()),rp.2.2.1,rp.2.2.2.1,rp.2.2.2.2.1,rp.2.2.2.2.2.1,rp.2.2.2.2.2.2.1,rp.2.2.2.2.2.2.2.1,rp.2.2.2.2.2.2.2.2.1,rp.2.2.2.2.2.2.2.2.2.1,rp.2.2.2.2.2.2.2.2.2.2.1,()),(13:Int),())else ((idx e.2.2.1 (0:Int)).bind λ v5=>(bif !(v5==(z0N rp).1)==(e.2.1==[(100:UInt8),101,99,105,100,101])then some ((rp.1,(rp.2.1.1,rp.2.1.2.1,()),rp.2.2.1,rp.2.2.2.1,rp.2.2.2.2.1,rp.2.2.2.2.2.1,rp.2.2.2.2.2.2.1,rp.2.2.2.2.2.2.2.1,rp.2.2.2.2.2.2.2.2.1,rp.2.2.2.2.2.2.2.2.2.1,rp.2.2.2.2.2.2.2.2.2.2.1,()),(19:Int),())else ((idx e.2.2.1 (0:Int)).bind λ v6=>((idx e.2.2.2.1 (0:Int)).bind λ v32=>some ((v32,((z0E rp v6).1.2.1.1,(z0E rp v6).1.2.1.2.1,()),(z0E rp v6).1.2.2.1,(z0E rp v6).1.2.2.2.1,(z0E rp v6).1.2.2.2.2.1,(z0E rp v6).1.2.2.2.2.2.1,(z0E rp v6).1.2.2.2.2.2.2.1,(z0E rp v6).1.2.2.2.2.2.2.2.1,(z0E rp v6).1.2.2.2.2.2.2.2.2.1,(z0E rp v6).1.2.2.2.2.2.2.2.2.2.1,(z0E rp v6).1.2.2.2.2.2.2.2.2.2.2.1,()),(0:Int),())))))))else (bif e.2.1==[(99:UInt8),111,109,109,97,110,100]then ((yL9 rp e).bind λ v7=>((idx e.2.2.2.1 (0:Int)).bind λ v33=>some ((v33,(v7.1.2.1.1,v7.1.2.1.2.1,()),v7.1.2.2.1,v7.1.2.2.2.1,v7.1.2.2.2.2.1,v7.1.2.2.2.2.2.1,v7.1.2.2.2.2.2.2.1,v7.1.2.2.2.2.2.2.2.1,v7.1.2.2.2.2.2.2.2.2.1,v7.1.2.2.2.2.2.2.2.2.2.1,v7.1.2.2.2.2.2.2.2.2.2.2.1,()),v7.2.1,())))else (bif e.2.1==[(108:UInt8),111,99,107]then (yBr n rp e (e.2.1==[(108:UInt8),111,99,107]))else (yBr n rp e (e.2.1==[(117:UInt8),110,108,111,99,107])))))
def y5U(n:Nat)(rp:Q1)(e:Q2)(j1:Bool):Option ((Q1)×Int×Unit):=
  (bif j1 then ((y9D rp e).bind λ v2=>((idx e.2.2.2.1 (0:Int)).bind λ v31=>some ((v31,(v2.1.2.1.1,v2.1.2.1.2.1,()),v2.1.2.2.1,v2.1.2.2.2.1,v2.1.2.2.2.2.1,v2.1.2.2.2.2.2.1,v2.1.2.2.2.2.2.2.1,v2.1.2.2.2.2.2.2.2.1,v2.1.2.2.2.2.2.2.2.2.1,v2.1.2.2.2.2.2.2.2.2.2.1,v2.1.2.2.2.2.2.2.2.2.2.2.1,()),v2.2.1,())))else (bif e.2.1==[(100:UInt8),101,99,105,100,101]then (yCW n rp e (e.2.1==[(100:UInt8),101,99,105,100,101]))else (yCW n rp e (e.2.1==[(111:UInt8),118,101,114,114,105,100,101]))))
def yP0(n:Nat)(rp:Q1)(e:Q2):Option ((Q1)×Int×Unit):=
  ((idx e.2.2.2.1 (0:Int)).bind λ v0=>(bif decide (v0 < rp.1)then some ((rp.1,(rp.2.1.1,rp.2.1.2.1,()),rp.2.2.1,rp.2.2.2.1,rp.2.2.2.2.1,rp.2.2.2.2.2.1,rp.2.2.2.2.2.2.1,rp.2.2.2.2.2.2.2.1,rp.2.2.2.2.2.2.2.2.1,rp.2.2.2.2.2.2.2.2.2.1,rp.2.2.2.2.2.2.2.2.2.2.1,()),(20:Int),())else (bif e.2.1==[(103:UInt8),97,116,101]then (y5U n rp e (e.2.1==[(103:UInt8),97,116,101]))else (bif e.2.1==[(114:UInt8),117,108,101]then (y5U n rp e (e.2.1==[(114:UInt8),117,108,101]))else (bif e.2.1==[(102:UInt8),111,114,101,99,97,115,116]then (y5U n rp e (e.2.1==[(102:UInt8),111,114,101,99,97,115,116]))else (y5U n rp e (e.2.1==[(108:UInt8),101,118,101,108])))))))
def y8X(rp:Q1)(e:Q2):Option ((Q1)×Int×Unit):=yP0 0 rp e
abbrev z0d_e:Entry:={ f:=74,args:=.pair t41 (.pair t56 .unit),rS:=.pair t41 (.pair t3 .unit),m:=λ x=>y8X x.1 x.2.1 }
theorem yLV:FnOK Tryz.prog z0d_e:=fF 0 Tryz.f74 (λ n x=>yP0 n x.1 x.2.1) [] (yC yOC (yC yQY (yC yOp (yC yPI (yC yO4 (yC yOI (yC yP9 (yC yOF eNil))))))))
def zh_m(n:Nat)(rp:Q1)(p1:List (List UInt8)):Option (Q6):=
  ((zR_M rp λ (x:(Q3)×Unit)=>zO_M x.1).bind λ v0=>((yFu v0.1).bind λ v1=>some (v1.1,v1.2.1,())))
def zh_M(rp:Q1)(p1:List (List UInt8)):Option (Q6):=zh_m 0 rp p1
abbrev zh_e:Entry:={ f:=136,args:=.pair t60 (.pair t38 .unit),rS:=.pair t9 (.pair t29 .unit),m:=λ x=>zh_M x.1 x.2.1 }
theorem yQk:FnOK Tryz.prog zh_e:=fF 0 Tryz.f136 (λ n x=>zh_m n x.1 x.2.1) [] (yC yL0 (yC yMT (yC yA2 eNil)))
def zj_m(n:Nat)(rp:Q1)(p1:List (List UInt8)):Option (Q6):=
  ((zR_M rp λ (x:(Q3)×Unit)=>zc_M x.1).bind λ v0=>((yFu v0.1).bind λ v1=>some (v1.1,v1.2.1,())))
def zj_M(rp:Q1)(p1:List (List UInt8)):Option (Q6):=zj_m 0 rp p1
abbrev zj_e:Entry:={ f:=140,args:=.pair t60 (.pair t38 .unit),rS:=.pair t9 (.pair t29 .unit),m:=λ x=>zj_M x.1 x.2.1 }
theorem yPu:FnOK Tryz.prog zj_e:=fF 0 Tryz.f140 (λ n x=>zj_m n x.1 x.2.1) [] (yC yL0 (yC yO1 (yC yA2 eNil)))
def zl_m(n:Nat)(rp:Q1)(w:List (List UInt8)):Option (Q6):=
  ((idx w (1:Int)).bind λ v0=>((yIp v0).bind λ v1=>(bif !v1.1 then some ([],(8:Int),())else ((idx w (1:Int)).bind λ v2=>((zL_M rp v2).bind λ v3=>((yML [v3.1]).bind λ v4=>some (v4.1,v4.2.1,())))))))
def zl_M(rp:Q1)(w:List (List UInt8)):Option (Q6):=zl_m 0 rp w
abbrev zl_e:Entry:={ f:=144,args:=.pair t60 (.pair t38 .unit),rS:=.pair t9 (.pair t29 .unit),m:=λ x=>zl_M x.1 x.2.1 }
theorem yPw:FnOK Tryz.prog zl_e:=fF 0 Tryz.f144 (λ n x=>zl_m n x.1 x.2.1) [] (yC yJ8 (yC yON (yC yJ9 eNil)))
end
end Go.Tw
end
section
set_option maxRecDepth 1000000
namespace Go.Tw
open Go.Vx Go.Vx.B Go.Proofs
noncomputable section
def y8i(n:Nat)(r0:List (Q2)->List (Q2)->List (Q1)->Int->Int->Int->Int->Int->Int->Int->Int->List UInt8->Int->Option (List (Q2)×(Q1)×Int×Int×Unit))(ar a7:List (Q2))(a8:List (Q1))(au aa ac ae af ah ai aj:Int)(ak:List UInt8)(am j20 j21 j22 j23 j24 j25 j26:Int)(j27:List UInt8)(j28:Int)(j29:List (Q3))(j30:List (List UInt8))(j31:List (Q6))(j32:Int):Option (List (Q2)×(Q1)×Int×Int×Unit):=
  (bif j32 != 0 then some ([],((0:Int),((0:Int),(0:Int),()),(0:Int),(0:Int),(0:Int),(0:Int),[],(0:Int),[],[],[],()),i64.wrap (au+1),j32,())else (bif decide ((0:Nat)+a7.length<=memMax)then ((idx ar au).bind λ v33=>(bif decide (a7.length+(1:Nat)<=memMax)then (bif decide ((0:Nat)+a8.length<=memMax)then (bif decide (a8.length+(1:Nat)<=memMax)then r0 ar (a7++[v33]) (a8++[(j20,(j21,j22,()),j23,j24,j25,j26,j27,j28,j29,j30,j31,())]) (i64.wrap (au+1)) aa ac ae af ah ai aj ak am else none)else none)else none))else none))
def y5x(n:Nat)(r0:List (Q2)->List (Q2)->List (Q1)->Int->Int->Int->Int->Int->Int->Int->Int->List UInt8->Int->Option (List (Q2)×(Q1)×Int×Int×Unit))(ar a7:List (Q2))(a8:List (Q1))(au aa ac ae af ah ai aj:Int)(ak:List UInt8)(am j14:Int):Option (List (Q2)×(Q1)×Int×Int×Unit):=
  (bif j14==0 then ((idx a8 (↑a7.length:Int)).bind λ v17=>((idx ar au).bind λ v18=>((y8X v17 v18).bind λ v19=>(y8i n r0 ar a7 a8 au aa ac ae af ah ai aj ak am (v19.1.1) (v19.1.2.1.1) (v19.1.2.1.2.1) (v19.1.2.2.1) (v19.1.2.2.2.1) (v19.1.2.2.2.2.1) (v19.1.2.2.2.2.2.1) (v19.1.2.2.2.2.2.2.1) (v19.1.2.2.2.2.2.2.2.1) (v19.1.2.2.2.2.2.2.2.2.1) (v19.1.2.2.2.2.2.2.2.2.2.1) (v19.1.2.2.2.2.2.2.2.2.2.2.1) (v19.2.1)))))else (y8i n r0 ar a7 a8 au aa ac ae af ah ai aj ak am ((0:Int)) ((0:Int)) ((0:Int)) ((0:Int)) ((0:Int)) ((0:Int)) ((0:Int)) ([]) ((0:Int)) ([]) ([]) ([]) (j14)))
def y8f(n:Nat)(r0:List (Q2)->List (Q2)->List (Q1)->Int->Int->Int->Int->Int->Int->Int->Int->List UInt8->Int->Option (List (Q2)×(Q1)×Int×Int×Unit))(ar a7:List (Q2))(a8:List (Q1))(au aa ac ae af ah ai aj:Int)(ak:List UInt8)(am j6:Int)(j11:Bool):Option (List (Q2)×(Q1)×Int×Int×Unit):=
  (bif j11 then (bif (↑a7.length:Int)==0 then (y5x n r0 ar a7 a8 au aa ac ae af ah ai aj ak am ((12:Int)))else ((idx a7 (i64.wrap ((↑a7.length:Int) - (1:Int)))).bind λ v12=>(bif v12.2.1==[(99:UInt8),111,109,109,97,110,100]then (y5x n r0 ar a7 a8 au aa ac ae af ah ai aj ak am ((19:Int)))else (bif decide ((0:Int)<=i64.wrap ((↑a7.length:Int) - (1:Int))) && decide (i64.wrap ((↑a7.length:Int) - (1:Int))<=(↑a7.length:Int))then (bif decide ((0:Int)<=(↑a7.length:Int)) && decide ((↑a7.length:Int)<=(↑a8.length:Int))then r0 ar (List.take (i64.wrap ((↑a7.length:Int) - (1:Int))).toNat a7) (List.take (↑a7.length:Int).toNat a8) (i64.wrap (au+1)) aa ac ae af ah ai aj ak am else none)else none))))else (y5x n r0 ar a7 a8 au aa ac ae af ah ai aj ak am (j6)))
def y5H(n:Nat)(r0:List (Q2)->List (Q2)->List (Q1)->Int->Int->Int->Int->Int->Int->Int->Int->List UInt8->Int->Option (List (Q2)×(Q1)×Int×Int×Unit))(ar a7:List (Q2))(a8:List (Q1))(au aa ac ae af ah ai aj:Int)(ak:List UInt8)(am j6:Int):Option (List (Q2)×(Q1)×Int×Int×Unit):=
  (bif j6==0 then ((idx ar au).bind λ v9=>(y8f n r0 ar a7 a8 au aa ac ae af ah ai aj ak am j6 (v9.2.1==[(117:UInt8),110,100,111])))else (y8f n r0 ar a7 a8 au aa ac ae af ah ai aj ak am j6 (Bool.false)))
def yEr(n:Nat)(r0:List (Q2)->List (Q2)->List (Q1)->Int->Int->Int->Int->Int->Int->Int->Int->List UInt8->Int->Option (List (Q2)×(Q1)×Int×Int×Unit))(ar a7:List (Q2))(a8:List (Q1))(au aa ac ae af ah ai aj:Int)(ak:List UInt8)(am:Int):Option (List (Q2)×(Q1)×Int×Int×Unit):=
  (bif decide (au < (↑ar.length:Int))then ((idx ar au).bind λ v1=>((zv_M v1).bind λ v2=>(bif v2.1==0 then ((idx ar au).bind λ v3=>(bif v3.1 != i64.wrap (au+1)then (y5H n r0 ar a7 a8 au aa ac ae af ah ai aj ak am ((11:Int)))else (y5H n r0 ar a7 a8 au aa ac ae af ah ai aj ak am (v2.1))))else (y5H n r0 ar a7 a8 au aa ac ae af ah ai aj ak am (v2.1)))))else ((idx a8 (↑a7.length:Int)).bind λ v37=>some (a7,(v37.1,(v37.2.1.1,v37.2.1.2.1,()),v37.2.2.1,v37.2.2.2.1,v37.2.2.2.2.1,v37.2.2.2.2.2.1,v37.2.2.2.2.2.2.1,v37.2.2.2.2.2.2.2.1,v37.2.2.2.2.2.2.2.2.1,v37.2.2.2.2.2.2.2.2.2.1,v37.2.2.2.2.2.2.2.2.2.2.1,()),(0:Int),(0:Int),())))
def y7U(n k:Nat)(ar a7:List (Q2))(a8:List (Q1))(au aa ac ae af ah ai aj:Int)(ak:List UInt8)(am:Int):Option (List (Q2)×(Q1)×Int×Int×Unit):=
  iter (λ r y=>yEr n (λ ar a7 a8 au aa ac ae af ah ai aj ak am=>r ((ar,(a7,(a8,(au,())))),(((aa,(ac,(ae,(af,(ah,(ai,(aj,(ak,(am,()))))))))),()),()))) y.1.1 y.1.2.1 y.1.2.2.1 y.1.2.2.2.1 y.2.1.1.1 y.2.1.1.2.1 y.2.1.1.2.2.1 y.2.1.1.2.2.2.1 y.2.1.1.2.2.2.2.1 y.2.1.1.2.2.2.2.2.1 y.2.1.1.2.2.2.2.2.2.1 y.2.1.1.2.2.2.2.2.2.2.1 y.2.1.1.2.2.2.2.2.2.2.2.1) k ((ar,(a7,(a8,(au,())))),(((aa,(ac,(ae,(af,(ah,(ai,(aj,(ak,(am,()))))))))),()),()))
def yQD(n:Nat)(l:List (Q2)):Option (List (Q2)×(Q1)×Int×Int×Unit):=
  (bif decide ((↑l.length:Int) > 1000)then some ([],((0:Int),((0:Int),(0:Int),()),(0:Int),(0:Int),(0:Int),(0:Int),[],(0:Int),[],[],[],()),(0:Int),(5:Int),())else (y7U n n (l) ([]) ([z0b.1]) ((0:Int)) ((0:Int)) ((0:Int)) ((0:Int)) ((0:Int)) ((0:Int)) ((0:Int)) ((0:Int)) ([]) ((0:Int))))
def y8F(ar a7:List (Q2))(a8:List (Q1))(au aa ac ae af ah ai aj:Int)(ak:List UInt8)(am j20 j21 j22 j23 j24 j25 j26:Int)(j27:List UInt8)(j28:Int)(j29:List (Q3))(j30:List (List UInt8))(j31:List (Q6))(j32:Int):Option ((List (Q2)×(Q1)×Int×Int×Unit)⊕((List (Q2))×(List (Q1)))):=
  (bif j32 != 0 then (some (Sum.inl (([],((0:Int),((0:Int),(0:Int),()),(0:Int),(0:Int),(0:Int),(0:Int),[],(0:Int),[],[],[],()),i64.wrap (au+1),j32,()))))else (bif decide ((0:Nat)+a7.length<=memMax)then ((idx ar au).bind λ v33=>(bif decide (a7.length+(1:Nat)<=memMax)then (bif decide ((0:Nat)+a8.length<=memMax)then (bif decide (a8.length+(1:Nat)<=memMax)then (some (Sum.inr ((a7++[v33]),(a8++[(j20,(j21,j22,()),j23,j24,j25,j26,j27,j28,j29,j30,j31,())]))))else none)else none)else none))else none))
theorem y3X(n:Nat)(hn:big<=n)(r0:List (Q2)->List (Q2)->List (Q1)->Int->Int->Int->Int->Int->Int->Int->Int->List UInt8->Int->Option (List (Q2)×(Q1)×Int×Int×Unit))(ar a7:List (Q2))(a8:List (Q1))(au aa ac ae af ah ai aj:Int)(ak:List UInt8)(am j20 j21 j22 j23 j24 j25 j26:Int)(j27:List UInt8)(j28:Int)(j29:List (Q3))(j30:List (List UInt8))(j31:List (Q6))(j32:Int):LeF (elim some λ (av:((List (Q2))×(List (Q1))))=>r0 ar av.1 av.2 (i64.wrap (au+1)) aa ac ae af ah ai aj ak am) (y8F ar a7 a8 au aa ac ae af ah ai aj ak am j20 j21 j22 j23 j24 j25 j26 j27 j28 j29 j30 j31 j32) (y8i n r0 ar a7 a8 au aa ac ae af ah ai aj ak am j20 j21 j22 j23 j24 j25 j26 j27 j28 j29 j30 j31 j32):=
  (y7 (yB rfl) (y7 (yJ λ v33=>(y7 (y7 (y7 (yB rfl) y0Q) y0Q) y0Q)) y0Q))
def y52(ar a7:List (Q2))(a8:List (Q1))(au aa ac ae af ah ai aj:Int)(ak:List UInt8)(am j14:Int):Option ((List (Q2)×(Q1)×Int×Int×Unit)⊕((List (Q2))×(List (Q1)))):=
  (bif j14==0 then ((idx a8 (↑a7.length:Int)).bind λ v17=>((idx ar au).bind λ v18=>((y8X v17 v18).bind λ v19=>(y8F ar a7 a8 au aa ac ae af ah ai aj ak am (v19.1.1) (v19.1.2.1.1) (v19.1.2.1.2.1) (v19.1.2.2.1) (v19.1.2.2.2.1) (v19.1.2.2.2.2.1) (v19.1.2.2.2.2.2.1) (v19.1.2.2.2.2.2.2.1) (v19.1.2.2.2.2.2.2.2.1) (v19.1.2.2.2.2.2.2.2.2.1) (v19.1.2.2.2.2.2.2.2.2.2.1) (v19.1.2.2.2.2.2.2.2.2.2.2.1) (v19.2.1)))))else (y8F ar a7 a8 au aa ac ae af ah ai aj ak am ((0:Int)) ((0:Int)) ((0:Int)) ((0:Int)) ((0:Int)) ((0:Int)) ((0:Int)) ([]) ((0:Int)) ([]) ([]) ([]) (j14)))
theorem y1z(n:Nat)(hn:big<=n)(r0:List (Q2)->List (Q2)->List (Q1)->Int->Int->Int->Int->Int->Int->Int->Int->List UInt8->Int->Option (List (Q2)×(Q1)×Int×Int×Unit))(ar a7:List (Q2))(a8:List (Q1))(au aa ac ae af ah ai aj:Int)(ak:List UInt8)(am j14:Int):LeF (elim some λ (av:((List (Q2))×(List (Q1))))=>r0 ar av.1 av.2 (i64.wrap (au+1)) aa ac ae af ah ai aj ak am) (y52 ar a7 a8 au aa ac ae af ah ai aj ak am j14) (y5x n r0 ar a7 a8 au aa ac ae af ah ai aj ak am j14):=
  (y7 (yJ λ v17=>(yJ λ v18=>(yJ λ v19=>(by apply y3X n hn)))) (by apply y3X n hn))
def y6A(ar a7:List (Q2))(a8:List (Q1))(au aa ac ae af ah ai aj:Int)(ak:List UInt8)(am j6:Int)(j11:Bool):Option ((List (Q2)×(Q1)×Int×Int×Unit)⊕((List (Q2))×(List (Q1)))):=
  (bif j11 then (bif (↑a7.length:Int)==0 then (y52 ar a7 a8 au aa ac ae af ah ai aj ak am ((12:Int)))else ((idx a7 (i64.wrap ((↑a7.length:Int) - (1:Int)))).bind λ v12=>(bif v12.2.1==[(99:UInt8),111,109,109,97,110,100]then (y52 ar a7 a8 au aa ac ae af ah ai aj ak am ((19:Int)))else (bif decide ((0:Int)<=i64.wrap ((↑a7.length:Int) - (1:Int))) && decide (i64.wrap ((↑a7.length:Int) - (1:Int))<=(↑a7.length:Int))then (bif decide ((0:Int)<=(↑a7.length:Int)) && decide ((↑a7.length:Int)<=(↑a8.length:Int))then (some (Sum.inr ((List.take (i64.wrap ((↑a7.length:Int) - (1:Int))).toNat a7),(List.take (↑a7.length:Int).toNat a8))))else none)else none))))else (y52 ar a7 a8 au aa ac ae af ah ai aj ak am (j6)))
theorem y3V(n:Nat)(hn:big<=n)(r0:List (Q2)->List (Q2)->List (Q1)->Int->Int->Int->Int->Int->Int->Int->Int->List UInt8->Int->Option (List (Q2)×(Q1)×Int×Int×Unit))(ar a7:List (Q2))(a8:List (Q1))(au aa ac ae af ah ai aj:Int)(ak:List UInt8)(am j6:Int)(j11:Bool):LeF (elim some λ (av:((List (Q2))×(List (Q1))))=>r0 ar av.1 av.2 (i64.wrap (au+1)) aa ac ae af ah ai aj ak am) (y6A ar a7 a8 au aa ac ae af ah ai aj ak am j6 j11) (y8f n r0 ar a7 a8 au aa ac ae af ah ai aj ak am j6 j11):=
  (y7 (y7 (by apply y1z n hn) (yJ λ v12=>(y7 (by apply y1z n hn) (y7 (y7 (yB rfl) y0Q) y0Q)))) (by apply y1z n hn))
def y53(ar a7:List (Q2))(a8:List (Q1))(au aa ac ae af ah ai aj:Int)(ak:List UInt8)(am j6:Int):Option ((List (Q2)×(Q1)×Int×Int×Unit)⊕((List (Q2))×(List (Q1)))):=
  (bif j6==0 then ((idx ar au).bind λ v9=>(y6A ar a7 a8 au aa ac ae af ah ai aj ak am j6 (v9.2.1==[(117:UInt8),110,100,111])))else (y6A ar a7 a8 au aa ac ae af ah ai aj ak am j6 (Bool.false)))
theorem y1w(n:Nat)(hn:big<=n)(r0:List (Q2)->List (Q2)->List (Q1)->Int->Int->Int->Int->Int->Int->Int->Int->List UInt8->Int->Option (List (Q2)×(Q1)×Int×Int×Unit))(ar a7:List (Q2))(a8:List (Q1))(au aa ac ae af ah ai aj:Int)(ak:List UInt8)(am j6:Int):LeF (elim some λ (av:((List (Q2))×(List (Q1))))=>r0 ar av.1 av.2 (i64.wrap (au+1)) aa ac ae af ah ai aj ak am) (y53 ar a7 a8 au aa ac ae af ah ai aj ak am j6) (y5H n r0 ar a7 a8 au aa ac ae af ah ai aj ak am j6):=
  (y7 (yJ λ v9=>(by apply y3V n hn)) (by apply y3V n hn))
def yBe(ar:List (Q2))(aa ac ae af ah ai aj:Int)(ak:List UInt8)(am au:Int)(v1:Q2)(a7:List (Q2))(a8:List (Q1)):Option ((List (Q2)×(Q1)×Int×Int×Unit)⊕((List (Q2))×(List (Q1)))):=
  ((zv_M v1).bind λ v2=>(bif v2.1==0 then ((idx ar au).bind λ v3=>(bif v3.1 != i64.wrap (au+1)then (y53 ar a7 a8 au aa ac ae af ah ai aj ak am ((11:Int)))else (y53 ar a7 a8 au aa ac ae af ah ai aj ak am (v2.1))))else (y53 ar a7 a8 au aa ac ae af ah ai aj ak am (v2.1))))
def yE3(ar:List (Q2))(aa ac ae af ah ai aj:Int)(ak:List UInt8)(am:Int)(a7:List (Q2))(a8:List (Q1)):Option (List (Q2)×(Q1)×Int×Int×Unit):=
  ((idx a8 (↑a7.length:Int)).bind λ v37=>(some ((a7,(v37.1,(v37.2.1.1,v37.2.1.2.1,()),v37.2.2.1,v37.2.2.2.1,v37.2.2.2.2.1,v37.2.2.2.2.2.1,v37.2.2.2.2.2.2.1,v37.2.2.2.2.2.2.2.1,v37.2.2.2.2.2.2.2.2.1,v37.2.2.2.2.2.2.2.2.2.1,v37.2.2.2.2.2.2.2.2.2.2.1,()),(0:Int),(0:Int),()))))
theorem yDb(n:Nat)(hn:big<=n)(ar:List (Q2))(aa ac ae af ah ai aj:Int)(ak:List UInt8)(am:Int)(a7:List (Q2))(a8:List (Q1))(hx:List.length (ar) < yD):LeF some (yc (λ bh bl av=>yBe ar aa ac ae af ah ai aj ak am bh bl av.1 av.2) (λ av=>yE3 ar aa ac ae af ah ai aj ak am av.1 av.2) 0 (ar) (a7,a8)) (y7U n n ar a7 a8 0 aa ac ae af ah ai aj ak am):=by
  refine y0C (f:=some) (W:=λ bm bh av=>y7U n bm ar av.1 av.2 bh aa ac ae af ah ai aj ak am) (λ bm bh av=>?_) hx (a7,a8) n (by unfold big at hn;unfold yD at hx;omega)
  show LeF _ _ (yEr n (y7U n bm) ar av.1 av.2 bh aa ac ae af ah ai aj ak am)
  exact y7 (yJ λ v1=>(yJ λ v2=>(y7 (yJ λ v3=>(y7 (by apply y1w n hn) (by apply y1w n hn))) (by apply y1w n hn)))) (y1k (yJ λ v37=>(yB rfl)))
def yJA(l:List (Q2)):Option (List (Q2)×(Q1)×Int×Int×Unit):=
  (bif decide ((↑l.length:Int) > 1000)then (some (([],((0:Int),((0:Int),(0:Int),()),(0:Int),(0:Int),(0:Int),(0:Int),[],(0:Int),[],[],[],()),(0:Int),(5:Int),())))else (bif decide (List.length (l) < yD)then yc (λ bh bl av=>yBe (l) ((0:Int)) ((0:Int)) ((0:Int)) ((0:Int)) ((0:Int)) ((0:Int)) ((0:Int)) ([]) ((0:Int)) bh bl av.1 av.2) (λ av=>yE3 (l) ((0:Int)) ((0:Int)) ((0:Int)) ((0:Int)) ((0:Int)) ((0:Int)) ((0:Int)) ([]) ((0:Int)) av.1 av.2) 0 (l) (([]),([z0b.1]))else none))
abbrev z0k_e:Entry:={ f:=70,args:=.pair t22 .unit,rS:=.pair t22 (.pair t41 (.pair t3 (.pair t3 .unit))),m:=λ x=>yJA x.1 }
theorem yO2:FnOK Tryz.prog z0k_e:=fB (mu:=[6,89,98]) (fz:=[97,103]) Tryz.f70 (λ n x=>yQD n x.1) [[0,3,6,7,8,1000006,1000007]] (yC yLR (yC yQV (yC yLV eNil))) λ n hn x=>(y7 (yB rfl) (yz λ hx=>by apply yDb n hn;exact hx))
abbrev zt_a:Ty:=.unit
abbrev zt_r:Ty:=.pair t171 .unit
def zt_g:G:={ T:=T,E:=[zf_e,zg_e,zh_e,zi_e,zj_e,zk_e,zl_e,zm_e],mU:=[],fz:=[] }
def zt_k:List (List Nat):=[]
def yOj(n:Nat):Ann:={ keep:=zt_k,fuel:=n,inl:=[],deep:=0 }
def zt_m(n:Nat)  : Option (List (List UInt8×Int×Nat×Unit)×Unit):=
  some ([([(97:UInt8),100,118,105,99,101],(1:Int),(133:Nat)+(1:Nat),()),([(115:UInt8),116,97,116,101],(1:Int),(134:Nat)+(1:Nat),()),([(108:UInt8),111,119,101,114,101,100],(1:Int),(136:Nat)+(1:Nat),()),([(105:UInt8),110,115,105,100,101],(1:Int),(139:Nat)+(1:Nat),()),([(108:UInt8),111,99,107,101,100],(1:Int),(140:Nat)+(1:Nat),()),([(104:UInt8),101,105,103,104,116,115],(1:Int),(142:Nat)+(1:Nat),()),([(118:UInt8),101,114,115,105,111,110],(2:Int),(144:Nat)+(1:Nat),()),([(108:UInt8),97,115,116],(2:Int),(145:Nat)+(1:Nat),())],())
theorem yQc(n:Nat)(x:zt_a.den):runF zt_g (yOj n) Tryz.f90 zt_a zt_r x=zt_m n:=by kernel_rfl
def zt  : (List (List UInt8×Int×Nat×Unit)×Unit):=
  ([([(97:UInt8),100,118,105,99,101],(1:Int),(133:Nat)+(1:Nat),()),([(115:UInt8),116,97,116,101],(1:Int),(134:Nat)+(1:Nat),()),([(108:UInt8),111,119,101,114,101,100],(1:Int),(136:Nat)+(1:Nat),()),([(105:UInt8),110,115,105,100,101],(1:Int),(139:Nat)+(1:Nat),()),([(108:UInt8),111,99,107,101,100],(1:Int),(140:Nat)+(1:Nat),()),([(104:UInt8),101,105,103,104,116,115],(1:Int),(142:Nat)+(1:Nat),()),([(118:UInt8),101,114,115,105,111,110],(2:Int),(144:Nat)+(1:Nat),()),([(108:UInt8),97,115,116],(2:Int),(145:Nat)+(1:Nat),())],())
abbrev zt_M  : Option (List (List UInt8×Int×Nat×Unit)×Unit):=some (zt)
theorem yOa(y:List (List UInt8×Int×Nat×Unit)×Unit)(h:zt_M=some y):∃ n,zt_m n=some y:=
  ⟨0,by rw[<- h];show zt_m 0=some (zt);unfold zt_m zt;first|rfl|(simp only[yF];done)|(simp only[yF];rfl)⟩
def zt_e:Entry:={ f:=90,args:=zt_a,rS:=zt_r,m:=λ x=>zt_M }
theorem yQh:FnOK Tryz.prog zt_e:=yD7 (g:=zt_g) (fn:=Tryz.f90) y1a y6w (yC yQJ (yC yQU (yC yQk (yC yQA (yC yPu (yC yQ9 (yC yPw (yC yQi eNil)))))))) (by kernel_rfl) (by kernel_rfl) (by kernel_rfl) (λ x y h=>let ⟨n,hn⟩:=yOa y h;⟨yOj n,iNil,(yQc n x).trans hn⟩)
end
end Go.Tw
end
section
set_option maxRecDepth 1000000
namespace Go.Tw
open Go.Vx Go.Vx.B Go.Proofs
noncomputable section
def zI_m(n:Nat)(l:List (Q3))(xp:Q3):Option (List (Q3)×Unit):=
  (bif decide (l.length<=memMax)then (bif decide (l.length+(1:Nat)<=memMax)then some (l++[xp],())else none)else none)
def zI_M(l:List (Q3))(xp:Q3):Option (List (Q3)×Unit):=zI_m 0 l xp
abbrev zI_e:Entry:={ f:=185,args:=.pair t57 (.pair t64 .unit),rS:=.pair t57 .unit,m:=λ x=>zI_M x.1 x.2.1 }
theorem yPy:FnOK Tryz.prog zI_e:=fF (mu:=[6]) 0 Tryz.f185 (λ n x=>zI_m n x.1 x.2.1) [] (yC yQl eNil)
def zH_m(n:Nat)(l:List (Q6))(xp:Q6):Option (List (Q6)×Unit):=
  (bif decide (l.length<=memMax)then (bif decide (l.length+(1:Nat)<=memMax)then some (l++[xp],())else none)else none)
def zH_M(l:List (Q6))(xp:Q6):Option (List (Q6)×Unit):=zH_m 0 l xp
abbrev zH_e:Entry:={ f:=194,args:=.pair t58 (.pair t102 .unit),rS:=.pair t58 .unit,m:=λ x=>zH_M x.1 x.2.1 }
theorem yPx:FnOK Tryz.prog zH_e:=fF (mu:=[6]) 0 Tryz.f194 (λ n x=>zH_m n x.1 x.2.1) [] (yC yPg eNil)
def yEf(n:Nat)(r1:Int->List (Q2)->Int->Int->Int->Int->Int->Int->Int->Int->List UInt8->Int->Int->Int->Int->Int->Int->Int->Int->List UInt8->Int->List (Q3)->List (List UInt8)->List (Q6)->Option ((Q1)×Int×Unit))(ay:Int)(aq:List (Q2))(b7 aS aT aU aV aW aX aY:Int)(aZ:List UInt8)(b4 aB aC aD aE aF aG aH:Int)(aI:List UInt8)(aJ:Int)(aK:List (Q3))(az:List (List UInt8))(aA:List (Q6)):Option ((Q1)×Int×Unit):=
  (bif decide (b7 < (↑aq.length:Int))then ((idx aq b7).bind λ v2=>((idx v2.2.2.2.1 (0:Int)).bind λ v3=>(bif decide (v3<=ay)then ((idx aq b7).bind λ v4=>((y8X (aB,(aC,aD,()),aE,aF,aG,aH,aI,aJ,aK,az,aA,()) v4).bind λ v5=>r1 ay aq (i64.wrap (b7+1)) aS aT aU aV aW aX aY aZ b4 v5.1.1 v5.1.2.1.1 v5.1.2.1.2.1 v5.1.2.2.1 v5.1.2.2.2.1 v5.1.2.2.2.2.1 v5.1.2.2.2.2.2.1 v5.1.2.2.2.2.2.2.1 v5.1.2.2.2.2.2.2.2.1 v5.1.2.2.2.2.2.2.2.2.1 v5.1.2.2.2.2.2.2.2.2.2.1 v5.1.2.2.2.2.2.2.2.2.2.2.1))else r1 ay aq (i64.wrap (b7+1)) aS aT aU aV aW aX aY aZ b4 aB aC aD aE aF aG aH aI aJ aK az aA)))else some ((aB,(aC,aD,()),aE,aF,aG,aH,aI,aJ,aK,az,aA,()),(0:Int),()))
def y7B(n k:Nat)(ay:Int)(aq:List (Q2))(b7 aS aT aU aV aW aX aY:Int)(aZ:List UInt8)(b4 aB aC aD aE aF aG aH:Int)(aI:List UInt8)(aJ:Int)(aK:List (Q3))(az:List (List UInt8))(aA:List (Q6)):Option ((Q1)×Int×Unit):=
  iter (λ r y=>yEf n (λ ay aq b7 aS aT aU aV aW aX aY aZ b4 aB aC aD aE aF aG aH aI aJ aK az aA=>r ((ay,(aq,(b7,()))),(((aS,(aT,(aU,(aV,(aW,(aX,(aY,(aZ,(b4,()))))))))),((aB,(aC,(aD,(aE,(aF,(aG,(aH,(aI,(aJ,(aK,(az,(aA,())))))))))))),())),()))) y.1.1 y.1.2.1 y.1.2.2.1 y.2.1.1.1 y.2.1.1.2.1 y.2.1.1.2.2.1 y.2.1.1.2.2.2.1 y.2.1.1.2.2.2.2.1 y.2.1.1.2.2.2.2.2.1 y.2.1.1.2.2.2.2.2.2.1 y.2.1.1.2.2.2.2.2.2.2.1 y.2.1.1.2.2.2.2.2.2.2.2.1 y.2.1.2.1.1 y.2.1.2.1.2.1 y.2.1.2.1.2.2.1 y.2.1.2.1.2.2.2.1 y.2.1.2.1.2.2.2.2.1 y.2.1.2.1.2.2.2.2.2.1 y.2.1.2.1.2.2.2.2.2.2.1 y.2.1.2.1.2.2.2.2.2.2.2.1 y.2.1.2.1.2.2.2.2.2.2.2.2.1 y.2.1.2.1.2.2.2.2.2.2.2.2.2.1 y.2.1.2.1.2.2.2.2.2.2.2.2.2.2.1 y.2.1.2.1.2.2.2.2.2.2.2.2.2.2.2.1) k ((ay,(aq,(b7,()))),(((aS,(aT,(aU,(aV,(aW,(aX,(aY,(aZ,(b4,()))))))))),((aB,(aC,(aD,(aE,(aF,(aG,(aH,(aI,(aJ,(aK,(az,(aA,())))))))))))),())),()))
def yQC(n:Nat)(l:List (Q2))(tick:Int):Option ((Q1)×Int×Unit):=
  ((yJA l).bind λ v0=>(bif v0.2.2.2.1 != 0 then some (((0:Int),((0:Int),(0:Int),()),(0:Int),(0:Int),(0:Int),(0:Int),[],(0:Int),[],[],[],()),v0.2.2.2.1,())else (bif (z0D tick (0:Int) (999999999:Int)).1 then some (((0:Int),((0:Int),(0:Int),()),(0:Int),(0:Int),(0:Int),(0:Int),[],(0:Int),[],[],[],()),(3:Int),())else (y7B n n (tick) (v0.1) ((0:Int)) ((0:Int)) ((0:Int)) ((0:Int)) ((0:Int)) ((0:Int)) ((0:Int)) ((0:Int)) ([]) ((0:Int)) (z0b.1.1) (z0b.1.2.1.1) (z0b.1.2.1.2.1) (z0b.1.2.2.1) (z0b.1.2.2.2.1) (z0b.1.2.2.2.2.1) (z0b.1.2.2.2.2.2.1) (z0b.1.2.2.2.2.2.2.1) (z0b.1.2.2.2.2.2.2.2.1) (z0b.1.2.2.2.2.2.2.2.2.1) (z0b.1.2.2.2.2.2.2.2.2.2.1) (z0b.1.2.2.2.2.2.2.2.2.2.2.1)))))
def y9m(ay:Int)(aq:List (Q2))(aS aT aU aV aW aX aY:Int)(aZ:List UInt8)(b4 b7:Int)(v2:Q2)(aB aC aD aE aF aG aH:Int)(aI:List UInt8)(aJ:Int)(aK:List (Q3))(az:List (List UInt8))(aA:List (Q6)):Option (((Q1)×Int×Unit)⊕(Int×Int×Int×Int×Int×Int×Int×List UInt8×Int×(List (Q3))×List (List UInt8)×(List (Q6)))):=
  ((idx v2.2.2.2.1 (0:Int)).bind λ v3=>(bif decide (v3<=ay)then ((idx aq b7).bind λ v4=>((y8X (aB,(aC,aD,()),aE,aF,aG,aH,aI,aJ,aK,az,aA,()) v4).bind λ v5=>(some (Sum.inr ((v5.1.1),(v5.1.2.1.1),(v5.1.2.1.2.1),(v5.1.2.2.1),(v5.1.2.2.2.1),(v5.1.2.2.2.2.1),(v5.1.2.2.2.2.2.1),(v5.1.2.2.2.2.2.2.1),(v5.1.2.2.2.2.2.2.2.1),(v5.1.2.2.2.2.2.2.2.2.1),(v5.1.2.2.2.2.2.2.2.2.2.1),(v5.1.2.2.2.2.2.2.2.2.2.2.1))))))else (some (Sum.inr ((aB),(aC),(aD),(aE),(aF),(aG),(aH),(aI),(aJ),(aK),(az),(aA))))))
def yI2(ay:Int)(aq:List (Q2))(aS aT aU aV aW aX aY:Int)(aZ:List UInt8)(b4 aB aC aD aE aF aG aH:Int)(aI:List UInt8)(aJ:Int)(aK:List (Q3))(az:List (List UInt8))(aA:List (Q6)):Option ((Q1)×Int×Unit):=
  (some (((aB,(aC,aD,()),aE,aF,aG,aH,aI,aJ,aK,az,aA,()),(0:Int),())))
theorem yDC(n:Nat)(hn:big<=n)(ay:Int)(aq:List (Q2))(aS aT aU aV aW aX aY:Int)(aZ:List UInt8)(b4 aB aC aD aE aF aG aH:Int)(aI:List UInt8)(aJ:Int)(aK:List (Q3))(az:List (List UInt8))(aA:List (Q6))(hx:List.length (aq) < yD):LeF some (yc (λ bh bl av=>y9m ay aq aS aT aU aV aW aX aY aZ b4 bh bl av.1 av.2.1 av.2.2.1 av.2.2.2.1 av.2.2.2.2.1 av.2.2.2.2.2.1 av.2.2.2.2.2.2.1 av.2.2.2.2.2.2.2.1 av.2.2.2.2.2.2.2.2.1 av.2.2.2.2.2.2.2.2.2.1 av.2.2.2.2.2.2.2.2.2.2.1 av.2.2.2.2.2.2.2.2.2.2.2) (λ av=>yI2 ay aq aS aT aU aV aW aX aY aZ b4 av.1 av.2.1 av.2.2.1 av.2.2.2.1 av.2.2.2.2.1 av.2.2.2.2.2.1 av.2.2.2.2.2.2.1 av.2.2.2.2.2.2.2.1 av.2.2.2.2.2.2.2.2.1 av.2.2.2.2.2.2.2.2.2.1 av.2.2.2.2.2.2.2.2.2.2.1 av.2.2.2.2.2.2.2.2.2.2.2) 0 (aq) (aB,aC,aD,aE,aF,aG,aH,aI,aJ,aK,az,aA)) (y7B n n ay aq 0 aS aT aU aV aW aX aY aZ b4 aB aC aD aE aF aG aH aI aJ aK az aA):=by
  refine y0C (f:=some) (W:=λ bm bh av=>y7B n bm ay aq bh aS aT aU aV aW aX aY aZ b4 av.1 av.2.1 av.2.2.1 av.2.2.2.1 av.2.2.2.2.1 av.2.2.2.2.2.1 av.2.2.2.2.2.2.1 av.2.2.2.2.2.2.2.1 av.2.2.2.2.2.2.2.2.1 av.2.2.2.2.2.2.2.2.2.1 av.2.2.2.2.2.2.2.2.2.2.1 av.2.2.2.2.2.2.2.2.2.2.2) (λ bm bh av=>?_) hx (aB,aC,aD,aE,aF,aG,aH,aI,aJ,aK,az,aA) n (by unfold big at hn;unfold yD at hx;omega)
  show LeF _ _ (yEf n (y7B n bm) ay aq bh aS aT aU aV aW aX aY aZ b4 av.1 av.2.1 av.2.2.1 av.2.2.2.1 av.2.2.2.2.1 av.2.2.2.2.2.1 av.2.2.2.2.2.2.1 av.2.2.2.2.2.2.2.1 av.2.2.2.2.2.2.2.2.1 av.2.2.2.2.2.2.2.2.2.1 av.2.2.2.2.2.2.2.2.2.2.1 av.2.2.2.2.2.2.2.2.2.2.2)
  exact y7 (yJ λ v2=>(yJ λ v3=>(y7 (yJ λ v4=>(yJ λ v5=>(yB rfl))) (yB rfl)))) (y1k (yB rfl))
def yMW(l:List (Q2))(tick:Int):Option ((Q1)×Int×Unit):=
  ((yJA l).bind λ v0=>(bif v0.2.2.2.1 != 0 then (some ((((0:Int),((0:Int),(0:Int),()),(0:Int),(0:Int),(0:Int),(0:Int),[],(0:Int),[],[],[],()),v0.2.2.2.1,())))else (bif (z0D tick (0:Int) (999999999:Int)).1 then (some ((((0:Int),((0:Int),(0:Int),()),(0:Int),(0:Int),(0:Int),(0:Int),[],(0:Int),[],[],[],()),(3:Int),())))else (bif decide (List.length (v0.1) < yD)then yc (λ bh bl av=>y9m (tick) (v0.1) ((0:Int)) ((0:Int)) ((0:Int)) ((0:Int)) ((0:Int)) ((0:Int)) ((0:Int)) ([]) ((0:Int)) bh bl av.1 av.2.1 av.2.2.1 av.2.2.2.1 av.2.2.2.2.1 av.2.2.2.2.2.1 av.2.2.2.2.2.2.1 av.2.2.2.2.2.2.2.1 av.2.2.2.2.2.2.2.2.1 av.2.2.2.2.2.2.2.2.2.1 av.2.2.2.2.2.2.2.2.2.2.1 av.2.2.2.2.2.2.2.2.2.2.2) (λ av=>yI2 (tick) (v0.1) ((0:Int)) ((0:Int)) ((0:Int)) ((0:Int)) ((0:Int)) ((0:Int)) ((0:Int)) ([]) ((0:Int)) av.1 av.2.1 av.2.2.1 av.2.2.2.1 av.2.2.2.2.1 av.2.2.2.2.2.1 av.2.2.2.2.2.2.1 av.2.2.2.2.2.2.2.1 av.2.2.2.2.2.2.2.2.1 av.2.2.2.2.2.2.2.2.2.1 av.2.2.2.2.2.2.2.2.2.2.1 av.2.2.2.2.2.2.2.2.2.2.2) 0 (v0.1) ((z0b.1.1),(z0b.1.2.1.1),(z0b.1.2.1.2.1),(z0b.1.2.2.1),(z0b.1.2.2.2.1),(z0b.1.2.2.2.2.1),(z0b.1.2.2.2.2.2.1),(z0b.1.2.2.2.2.2.2.1),(z0b.1.2.2.2.2.2.2.2.1),(z0b.1.2.2.2.2.2.2.2.2.1),(z0b.1.2.2.2.2.2.2.2.2.2.1),(z0b.1.2.2.2.2.2.2.2.2.2.2.1))else none))))
abbrev z0g_e:Entry:={ f:=34,args:=.pair t22 (.pair t3 .unit),rS:=.pair t41 (.pair t3 .unit),m:=λ x=>yMW x.1 x.2.1 }
theorem yOE:FnOK Tryz.prog z0g_e:=fB Tryz.f34 (λ n x=>yQC n x.1 x.2.1) [[1,4,6,10,11]] (yC yO2 (yC yH2 (yC yLR (yC yLV eNil)))) λ n hn x=>(yJ λ v0=>(y7 (yB rfl) (y7 (yB rfl) (yz λ hx=>by apply yDC n hn;exact hx))))
abbrev yM8:Ty:=.unit
abbrev yPC:Ty:=.pair t178 .unit
def yOU:G:={ T:=T,E:=[],mU:=[],fz:=[] }
def yPl:List (List Nat):=[]
def yLE(n:Nat):Ann:={ keep:=yPl,fuel:=n,inl:=[],deep:=0 }
def yKL(n:Nat)  : Option (List (List UInt8×List Int×Nat×Unit)×Unit):=
  some ([([(103:UInt8),97,116,101],[(1:Int),(1:Int)],(148:Nat)+(1:Nat),()),([(114:UInt8),117,108,101],[(0:Int),(3:Int)],(149:Nat)+(1:Nat),()),([(102:UInt8),111,114,101,99,97,115,116],[(0:Int),(3:Int)],(150:Nat)+(1:Nat),()),([(108:UInt8),101,118,101,108],[(1:Int),(2:Int)],(151:Nat)+(1:Nat),()),([(100:UInt8),101,99,105,100,101],[(1:Int),(1:Int)],(152:Nat)+(1:Nat),()),([(111:UInt8),118,101,114,114,105,100,101],[(1:Int),(1:Int)],(153:Nat)+(1:Nat),()),([(99:UInt8),111,109,109,97,110,100],[(2:Int),(2:Int)],(154:Nat)+(1:Nat),()),([(108:UInt8),111,99,107],[(2:Int),(1:Int)],(155:Nat)+(1:Nat),()),([(117:UInt8),110,108,111,99,107],[(2:Int),(1:Int)],(156:Nat)+(1:Nat),()),([(101:UInt8),110,116,101,114],[(1:Int),(1:Int)],(157:Nat)+(1:Nat),()),([(108:UInt8),101,97,118,101],[(1:Int),(1:Int)],(158:Nat)+(1:Nat),()),([(105:UInt8),115,115,117,101],[(1:Int),(1:Int)],(159:Nat)+(1:Nat),()),([(117:UInt8),110,100,111],[(0:Int),(0:Int)],(0:Nat),())],())
theorem yP8(n:Nat)(x:yM8.den):runF yOU (yLE n) Tryz.f92 yM8 yPC x=yKL n:=by kernel_rfl
def z0H  : (List (List UInt8×List Int×Nat×Unit)×Unit):=
  ([([(103:UInt8),97,116,101],[(1:Int),(1:Int)],(148:Nat)+(1:Nat),()),([(114:UInt8),117,108,101],[(0:Int),(3:Int)],(149:Nat)+(1:Nat),()),([(102:UInt8),111,114,101,99,97,115,116],[(0:Int),(3:Int)],(150:Nat)+(1:Nat),()),([(108:UInt8),101,118,101,108],[(1:Int),(2:Int)],(151:Nat)+(1:Nat),()),([(100:UInt8),101,99,105,100,101],[(1:Int),(1:Int)],(152:Nat)+(1:Nat),()),([(111:UInt8),118,101,114,114,105,100,101],[(1:Int),(1:Int)],(153:Nat)+(1:Nat),()),([(99:UInt8),111,109,109,97,110,100],[(2:Int),(2:Int)],(154:Nat)+(1:Nat),()),([(108:UInt8),111,99,107],[(2:Int),(1:Int)],(155:Nat)+(1:Nat),()),([(117:UInt8),110,108,111,99,107],[(2:Int),(1:Int)],(156:Nat)+(1:Nat),()),([(101:UInt8),110,116,101,114],[(1:Int),(1:Int)],(157:Nat)+(1:Nat),()),([(108:UInt8),101,97,118,101],[(1:Int),(1:Int)],(158:Nat)+(1:Nat),()),([(105:UInt8),115,115,117,101],[(1:Int),(1:Int)],(159:Nat)+(1:Nat),()),([(117:UInt8),110,100,111],[(0:Int),(0:Int)],(0:Nat),())],())
abbrev yOG  : Option (List (List UInt8×List Int×Nat×Unit)×Unit):=some (z0H)
theorem yN4(y:List (List UInt8×List Int×Nat×Unit)×Unit)(h:yOG=some y):∃ n,yKL n=some y:=
  ⟨0,by rw[<- h];show yKL 0=some (z0H);unfold yKL z0H;first|rfl|(simp only[yF];done)|(simp only[yF];rfl)⟩
def z0H_e:Entry:={ f:=92,args:=yM8,rS:=yPC,m:=λ x=>yOG }
theorem yF2:FnOK Tryz.prog z0H_e:=yD7 (g:=yOU) (fn:=Tryz.f92) y1a y6w eNil (by kernel_rfl) (by kernel_rfl) (by kernel_rfl) (λ x y h=>let ⟨n,hn⟩:=yN4 y h;⟨yLE n,iNil,(yP8 n x).trans hn⟩)
end
end Go.Tw
end
