import Derived.Test.YtkfigfhjbejikaaGreatDoorBT
import Derived.Test.YtkfigfhjbejikaaGreatDoorB0
import Derived.Test.YtkfigfhjbejikaaGreatDoorBA
import Derived.Test.YtkfigfhjbejikaaGreatDoorBC
import Derived.Test.YtkfigfhjbejikaaGreatDoorBD
import Derived.Test.YtkfigfhjbejikaaGreatDoorBE
import Derived.Test.YtkfigfhjbejikaaGreatDoorB16
import Derived.Test.YtkfigfhjbejikaaGreatDoorB17
set_option linter.all false
section
set_option maxRecDepth 1000000
namespace Go.Tw
open Go.Vx Go.Vx.B Go.Proofs
noncomputable section
def zW_m(n:Nat)(x1:Int×Int×Unit)(low:Int)(high:Int):Option (Int×Unit):=
  ((y9v [(zo x1.1 low high).1,(zo x1.2.1 low high).1]).bind λ v0=>(bif v0.1 != 0 then some (v0.1,())else (bif decide (x1.1 > x1.2.1)then some ((11:Int),())else some ((0:Int),()))))
def zW_M(x1:Int×Int×Unit)(low:Int)(high:Int):Option (Int×Unit):=zW_m 0 x1 low high
abbrev zW_e:Entry:={ f:=155,args:=.pair t96 (.pair t3 (.pair t3 .unit)),rS:=.pair t3 .unit,m:=λ x=>zW_M x.1 x.2.1 x.2.2.1 }
theorem yPG:FnOK Tryz.prog zW_e:=fF 0 Tryz.f155 (λ n x=>zW_m n x.1 x.2.1 x.2.2.1) [] (yF yOA (yF yFe eNil))
def zY_m(n:Nat)(w:List Int)(p1:Bas):Option (Bool×Unit):=
  ((zd_M p1 w).bind λ v0=>some (decide ((↑v0.1.length:Int) > 0),()))
def zY_M(w:List Int)(p1:Bas):Option (Bool×Unit):=zY_m 0 w p1
abbrev zY_e:Entry:={ f:=167,args:=.pair t26 (.pair (.ref t41) .unit),rS:=.pair t4 .unit,m:=λ x=>zY_M x.1 x.2.1 }
theorem yRB:FnOK Tryz.prog zY_e:=fF 0 Tryz.f167 (λ n x=>zY_m n x.1 x.2.1) [] (yF yPC eNil)
def yKe(n:Nat)(r0:List (List Int)->(List Int×Unit->Option (Bool×Unit))->Int->Int->Option (Int×Unit))(aa:List (List Int))(ah:List Int×Unit->Option (Bool×Unit))(al:Int)(ac:Int):Option (Int×Unit):=
  (bif decide (ac < al)then ((idx aa ac).bind λ v1=>((ah (v1,())).bind λ v2=>(bif v2.1 then some (ac,())else r0 aa ah al (IntKind.i64.wrap (ac+1)))))else some ((-1:Int),()))
def yC5(n:Nat)(k:Nat)(aa:List (List Int))(ah:List Int×Unit->Option (Bool×Unit))(al:Int)(ac:Int):Option (Int×Unit):=
  iter (λ r y=>yKe n (λ aa ah al ac=>r ((aa,(ah,(al,(ac,())))),((),()))) y.1.1 y.1.2.1 y.1.2.2.1 y.1.2.2.2.1) k ((aa,(ah,(al,(ac,())))),((),()))
def zK_m(n:Nat)(s:List (List Int))(f:List Int×Unit->Option (Bool×Unit)):Option (Int×Unit):=
  (yC5 n n (s) (f) ((↑s.length:Int)) ((0:Int)))
def yIJ(aa:List (List Int))(ah:List Int×Unit->Option (Bool×Unit))(ac:Int)(v1:List Int):Option ((Int×Unit)⊕Unit):=
  ((ah (v1,())).bind λ v2=>(bif v2.1 then (some (Sum.inl ((ac,()))))else (some (Sum.inr ()))))
def yNx(aa:List (List Int))(ah:List Int×Unit->Option (Bool×Unit)):Option (Int×Unit):=
  (some (((-1:Int),())))
theorem yGh(n:Nat)(hn:big<=n)(aa:List (List Int))(ah:List Int×Unit->Option (Bool×Unit))(hx:List.length (aa) < lenMax):LeF some (yK (λ ai ar ak=>yIJ aa ah ai ar) (λ ak=>yNx aa ah) 0 (aa) ()) (yC5 n n aa ah (List.length (aa):Int) 0):=by
  refine yP (f:=some) (W:=λ au ai ak=>yC5 n au aa ah (List.length (aa):Int) ai) (λ au ai ak=>?_) hx () n (by unfold big at hn;unfold lenMax at hx;omega)
  show LeF _ _ (yKe n (yC5 n au) aa ah (List.length (aa):Int) ai)
  exact y6 (y9 λ v1=>(y9 λ v2=>(y6 (y8 rfl) (y8 rfl)))) (y06 (y8 rfl))
def zK_M(s:List (List Int))(f:List Int×Unit->Option (Bool×Unit)):Option (Int×Unit):=
  (bif decide (List.length (s) < lenMax)then yK (λ ai ar ak=>yIJ (s) (f) ai ar) (λ ak=>yNx (s) (f)) 0 (s) ()else none)
abbrev zK_e:Entry:={ f:=187,args:=.pair t56 (.pair t181 .unit),rS:=.pair t3 .unit,m:=λ x=>zK_M x.1 x.2.1 }
theorem yRH:FnOK Tryz.prog zK_e:=fB Tryz.f187 (λ n x=>zK_m n x.1 x.2.1) [[0,1,7,8]] eNil λ n hn x=>(yN λ hx=>by apply yGh n hn;exact hx)
def zx_m(n:Nat)(l:List (Int×Int×Unit)):Option (List (Int×Int×Unit)×Unit):=
  (bif decide ((0:Nat)+l.length<=memMax)then some (l,())else none)
def zx_M(l:List (Int×Int×Unit)):Option (List (Int×Int×Unit)×Unit):=zx_m 0 l
abbrev zx_e:Entry:={ f:=67,args:=.pair t97 .unit,rS:=.pair t97 .unit,m:=λ x=>zx_M x.1 }
theorem yNv:FnOK Tryz.prog zx_e:=fF (mu:=[3]) 0 Tryz.f67 (λ n x=>zx_m n x.1) [] eNil
end
end Go.Tw
end
section
set_option maxRecDepth 1000000
namespace Go.Tw
open Go.Vx Go.Vx.B Go.Proofs
noncomputable section
def yLE(n:Nat)(r0:List (Int×Int×Unit)->Int->Int->Option (Int×Unit))(a8:List (Int×Int×Unit))(a7:Int)(am:Int):Option (Int×Unit):=
  (bif decide (am < (↑a8.length:Int))then ((idx a8 am).bind λ v1=>((zW_M v1 (0:Int) a7).bind λ v2=>(bif v2.1 != 0 then some (v2.1,())else r0 a8 a7 (IntKind.i64.wrap (am+1)))))else some ((0:Int),()))
def yCG(n:Nat)(k:Nat)(a8:List (Int×Int×Unit))(a7:Int)(am:Int):Option (Int×Unit):=
  iter (λ r y=>yLE n (λ a8 a7 am=>r ((a8,(a7,(am,()))),((),()))) y.1.1 y.1.2.1 y.1.2.2.1) k ((a8,(a7,(am,()))),((),()))
def zQ_m(n:Nat)(b:Bas)(l:List (Int×Int×Unit))(most:Int):Option (Int×Unit):=
  (bif (↑l.length:Int) != (↑b.1.length:Int)then some ((2:Int),())else (yCG n n (l) (most) ((0:Int))))
def yNO(a8:List (Int×Int×Unit))(a7:Int)(am:Int)(v1:Int×Int×Unit):Option ((Int×Unit)⊕Unit):=
  ((zW_M v1 (0:Int) a7).bind λ v2=>(bif v2.1 != 0 then (some (Sum.inl ((v2.1,()))))else (some (Sum.inr ()))))
def yOr(a8:List (Int×Int×Unit))(a7:Int):Option (Int×Unit):=
  (some (((0:Int),())))
theorem yHb(n:Nat)(hn:big<=n)(a8:List (Int×Int×Unit))(a7:Int)(hx:List.length (a8) < lenMax):LeF some (yK (λ ai ar ak=>yNO a8 a7 ai ar) (λ ak=>yOr a8 a7) 0 (a8) ()) (yCG n n a8 a7 0):=by
  refine yP (f:=some) (W:=λ au ai ak=>yCG n au a8 a7 ai) (λ au ai ak=>?_) hx () n (by unfold big at hn;unfold lenMax at hx;omega)
  show LeF _ _ (yLE n (yCG n au) a8 a7 ai)
  exact y6 (y9 λ v1=>(y9 λ v2=>(y6 (y8 rfl) (y8 rfl)))) (y06 (y8 rfl))
def zQ_M(b:Bas)(l:List (Int×Int×Unit))(most:Int):Option (Int×Unit):=
  (bif (↑l.length:Int) != (↑b.1.length:Int)then (some (((2:Int),())))else (bif decide (List.length (l) < lenMax)then yK (λ ai ar ak=>yNO (l) (most) ai ar) (λ ak=>yOr (l) (most)) 0 (l) ()else none))
abbrev zQ_e:Entry:={ f:=156,args:=.pair t25 (.pair t97 (.pair t3 .unit)),rS:=.pair t3 .unit,m:=λ x=>zQ_M x.1 x.2.1 x.2.2.1 }
theorem yQn:FnOK Tryz.prog zQ_e:=fB Tryz.f156 (λ n x=>zQ_m n x.1 x.2.1 x.2.2.1) [[1,2,7]] (yF yPG eNil) λ n hn x=>(y6 (y8 rfl) (yN λ hx=>by apply yHb n hn;exact hx))
def zE_m(n:Nat)(s:List (List Int))(f:List Int×Unit->Option (Bool×Unit)):Option (Bool×Unit):=
  ((zK_M s f).bind λ v0=>some (decide (v0.1 >= 0),()))
def zE_M(s:List (List Int))(f:List Int×Unit->Option (Bool×Unit)):Option (Bool×Unit):=zE_m 0 s f
abbrev zE_e:Entry:={ f:=168,args:=.pair t56 (.pair t181 .unit),rS:=.pair t4 .unit,m:=λ x=>zE_M x.1 x.2.1 }
theorem yQo:FnOK Tryz.prog zE_e:=fF 0 Tryz.f168 (λ n x=>zE_m n x.1 x.2.1) [] (yF yRH eNil)
def yNt(n:Nat)(r1:Rng):Option (Rng×Unit):=
  ((zx_M r1.2.2.1).bind λ v0=>some (((r1.1.1,r1.1.2.1,()),r1.2.1,v0.1,()),()))
def yKI(r1:Rng):Option (Rng×Unit):=yNt 0 r1
abbrev z0k_e:Entry:={ f:=54,args:=.pair t99 .unit,rS:=.pair t104 .unit,m:=λ x=>yKI x.1 }
theorem yMq:FnOK Tryz.prog z0k_e:=fF 0 Tryz.f54 (λ n x=>yNt n x.1) [] (yF yNv eNil)
end
end Go.Tw
end
section
set_option maxRecDepth 1000000
namespace Go.Tw
open Go.Vx Go.Vx.B Go.Proofs
noncomputable section
def yGF(n:Nat)(r0:List Rng->Int->Int->List Rng->Option (List Rng×Unit))(ae:List Rng)(al:Int)(ac:Int)(af:List Rng):Option (List Rng×Unit):=
  (bif decide (ac < al)then ((idx ae ac).bind λ v1=>((yKI ((v1.1.1,v1.1.2.1,()),v1.2.1,v1.2.2.1,())).bind λ v2=>(bif decide (af.length+(1:Nat)<=memMax)then r0 ae al (IntKind.i64.wrap (ac+1)) (af++[v2.1])else none)))else some (af,()))
def y7c(n:Nat)(k:Nat)(ae:List Rng)(al:Int)(ac:Int)(af:List Rng):Option (List Rng×Unit):=
  iter (λ r y=>yGF n (λ ae al ac af=>r ((ae,(al,(ac,()))),((af,()),()))) y.1.1 y.1.2.1 y.1.2.2.1 y.2.1.1) k ((ae,(al,(ac,()))),((af,()),()))
def yQw(n:Nat)(l:List Rng):Option (List Rng×Unit):=
  (y7c n n (l) ((↑l.length:Int)) ((0:Int)) ([]))
def yKW(ae:List Rng)(ac:Int)(v1:Rng)(af:List Rng):Option ((List Rng×Unit)⊕(List Rng)):=
  ((yKI ((v1.1.1,v1.1.2.1,()),v1.2.1,v1.2.2.1,())).bind λ v2=>(bif decide (af.length+(1:Nat)<=memMax)then (some (Sum.inr (af++[v2.1])))else none))
def yN6(ae:List Rng)(af:List Rng):Option (List Rng×Unit):=
  (some ((af,())))
theorem yEy(n:Nat)(hn:big<=n)(ae:List Rng)(af:List Rng)(hx:List.length (ae) < lenMax):LeF some (yK (λ ai ar ak=>yKW ae ai ar ak) (λ ak=>yN6 ae ak) 0 (ae) af) (y7c n n ae (List.length (ae):Int) 0 af):=by
  refine yP (f:=some) (W:=λ au ai ak=>y7c n au ae (List.length (ae):Int) ai ak) (λ au ai ak=>?_) hx af n (by unfold big at hn;unfold lenMax at hx;omega)
  show LeF _ _ (yGF n (y7c n au) ae (List.length (ae):Int) ai ak)
  exact y6 (y9 λ v1=>(y9 λ v2=>(y6 (y8 rfl) y0H))) (y06 (y8 rfl))
def yBn(l:List Rng):Option (List Rng×Unit):=
  (bif decide (List.length (l) < lenMax)then yK (λ ai ar ak=>yKW (l) ai ar ak) (λ ak=>yN6 (l) ak) 0 (l) ([])else none)
abbrev z0G_e:Entry:={ f:=56,args:=.pair t101 .unit,rS:=.pair t108 .unit,m:=λ x=>yBn x.1 }
theorem yPU:FnOK Tryz.prog z0G_e:=fB (mu:=[3]) Tryz.f56 (λ n x=>yQw n x.1) [[3,6,7,8]] (yF yMq eNil) λ n hn x=>(yN λ hx=>by apply yEy n hn;exact hx)
def zy_m(n:Nat)(b:Bas)(r1:Rng):Option (Int×Unit):=
  ((zW_M r1.1 (-1024:Int) (1024:Int)).bind λ v0=>((zQ_M b r1.2.2.1 (100000:Int)).bind λ v1=>((y9v [v0.1,v1.1]).bind λ v2=>some (v2.1,()))))
def zy_M(b:Bas)(r1:Rng):Option (Int×Unit):=zy_m 0 b r1
abbrev zy_e:Entry:={ f:=112,args:=.pair t25 (.pair t99 .unit),rS:=.pair t3 .unit,m:=λ x=>zy_M x.1 x.2.1 }
theorem yRY:FnOK Tryz.prog zy_e:=fF 0 Tryz.f112 (λ n x=>zy_m n x.1 x.2.1) [] (yF yPG (yF yQn (yF yFe eNil)))
def zh_m(n:Nat)(b:Bas)(v:List (Int×Int×Unit))(l:List Rng):Option (Bool×Int×Unit):=
  ((yC9 v (1:Int)).bind λ v0=>((z6_M l λ (x:Rng×Unit)=>zc_M x.1).bind λ v1=>((zt_M b v0.1 v1.1).bind λ v2=>(bif v2.2.1 != 0 then some (Bool.false,v2.2.1,())else ((yJ3 v2.1).bind λ v3=>((zE_M v3.1 λ (x:List Int×Unit)=>zY_M x.1 b).bind λ v4=>some (!v4.1,(0:Int),())))))))
def zh_M(b:Bas)(v:List (Int×Int×Unit))(l:List Rng):Option (Bool×Int×Unit):=zh_m 0 b v l
abbrev zh_e:Entry:={ f:=120,args:=.pair t41 (.pair t97 (.pair t108 .unit)),rS:=.pair t4 (.pair t35 .unit),m:=λ x=>zh_M x.1 x.2.1 x.2.2.1 }
theorem yQZ:FnOK Tryz.prog zh_e:=fF 0 Tryz.f120 (λ n x=>zh_m n x.1 x.2.1 x.2.2.1) [] (yF yJK (yF yQ7 (yF yPo (yF yNY (yF yRB (yF yNB (yF yQo eNil)))))))
end
end Go.Tw
end
section
set_option maxRecDepth 1000000
namespace Go.Tw
open Go.Vx Go.Vx.B Go.Proofs
noncomputable section
def yO2(n:Nat)(b:Bas)(v:List (Int×Int×Unit))(l:List Rng):Option (Bool×Int×Unit):=
  ((zR_M b v l).bind λ v0=>(bif v0.1 != 0 then some (Bool.false,v0.1,())else ((zh_M b v l).bind λ v1=>some (v1.1,v1.2.1,()))))
def yIr(b:Bas)(v:List (Int×Int×Unit))(l:List Rng):Option (Bool×Int×Unit):=yO2 0 b v l
abbrev z0c_e:Entry:={ f:=68,args:=.pair t41 (.pair t97 (.pair t108 .unit)),rS:=.pair t4 (.pair t35 .unit),m:=λ x=>yIr x.1 x.2.1 x.2.2.1 }
theorem yQB:FnOK Tryz.prog z0c_e:=fF 0 Tryz.f68 (λ n x=>yO2 n x.1 x.2.1 x.2.2.1) [] (yF yOY (yF yQZ eNil))
def yJy(n:Nat)(r0:List Rng->Bas->Int->Option (Int×Unit))(a8:List Rng)(aj:Bas)(aq:Int):Option (Int×Unit):=
  (bif decide (aq < (↑a8.length:Int))then ((idx a8 aq).bind λ v1=>((zy_M aj v1).bind λ v2=>(bif v2.1 != 0 then some (v2.1,())else r0 a8 aj (IntKind.i64.wrap (aq+1)))))else some ((0:Int),()))
def yBt(n:Nat)(k:Nat)(a8:List Rng)(aj:Bas)(aq:Int):Option (Int×Unit):=
  iter (λ r y=>yJy n (λ a8 aj aq=>r ((a8,(aj,(aq,()))),((),()))) y.1.1 y.1.2.1 y.1.2.2.1) k ((a8,(aj,(aq,()))),((),()))
def zr_m(n:Nat)(b:Bas)(l:List Rng):Option (Int×Unit):=
  (bif decide ((↑l.length:Int) > 96)then some ((5:Int),())else (yBt n n (l) (b) ((0:Int))))
def yNh(a8:List Rng)(aj:Bas)(aq:Int)(v1:Rng):Option ((Int×Unit)⊕Unit):=
  ((zy_M aj v1).bind λ v2=>(bif v2.1 != 0 then (some (Sum.inl ((v2.1,()))))else (some (Sum.inr ()))))
def yPs(a8:List Rng)(aj:Bas):Option (Int×Unit):=
  (some (((0:Int),())))
theorem yHW(n:Nat)(hn:big<=n)(a8:List Rng)(aj:Bas)(hx:List.length (a8) < lenMax):LeF some (yK (λ ai ar ak=>yNh a8 aj ai ar) (λ ak=>yPs a8 aj) 0 (a8) ()) (yBt n n a8 aj 0):=by
  refine yP (f:=some) (W:=λ au ai ak=>yBt n au a8 aj ai) (λ au ai ak=>?_) hx () n (by unfold big at hn;unfold lenMax at hx;omega)
  show LeF _ _ (yJy n (yBt n au) a8 aj ai)
  exact y6 (y9 λ v1=>(y9 λ v2=>(y6 (y8 rfl) (y8 rfl)))) (y06 (y8 rfl))
def zr_M(b:Bas)(l:List Rng):Option (Int×Unit):=
  (bif decide ((↑l.length:Int) > 96)then (some (((5:Int),())))else (bif decide (List.length (l) < lenMax)then yK (λ ai ar ak=>yNh (l) (b) ai ar) (λ ak=>yPs (l) (b)) 0 (l) ()else none))
abbrev zr_e:Entry:={ f:=123,args:=.pair t25 (.pair t101 .unit),rS:=.pair t3 .unit,m:=λ x=>zr_M x.1 x.2.1 }
theorem yRO:FnOK Tryz.prog zr_e:=fB Tryz.f123 (λ n x=>zr_m n x.1 x.2.1) [[1,2,5]] (yF yRY eNil) λ n hn x=>(y6 (y8 rfl) (yN λ hx=>by apply yHW n hn;exact hx))
end
end Go.Tw
end
section
set_option maxRecDepth 1000000
namespace Go.Tw
open Go.Vx Go.Vx.B Go.Proofs
noncomputable section
def zg_m(n:Nat)(b:Bas)(l:List Rng):Option (Int×Unit):=
  ((zp_M b).bind λ v0=>(bif v0.1 != 0 then some (v0.1,())else ((zr_M b l).bind λ v1=>some (v1.1,()))))
def zg_M(b:Bas)(l:List Rng):Option (Int×Unit):=zg_m 0 b l
abbrev zg_e:Entry:={ f:=75,args:=.pair t25 (.pair t101 .unit),rS:=.pair t3 .unit,m:=λ x=>zg_M x.1 x.2.1 }
theorem yR3:FnOK Tryz.prog zg_e:=fF 0 Tryz.f75 (λ n x=>zg_m n x.1 x.2.1) [] (yF yR4 (yF yRO eNil))
end
end Go.Tw
end
