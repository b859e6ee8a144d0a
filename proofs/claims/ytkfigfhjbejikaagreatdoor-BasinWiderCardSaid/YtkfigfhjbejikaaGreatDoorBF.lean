import Derived.Test.YtkfigfhjbejikaaGreatDoorBT
import Derived.Test.YtkfigfhjbejikaaGreatDoorB0
import Derived.Test.YtkfigfhjbejikaaGreatDoorBA
import Derived.Test.YtkfigfhjbejikaaGreatDoorBC
import Derived.Test.YtkfigfhjbejikaaGreatDoorBD
import Derived.Test.YtkfigfhjbejikaaGreatDoorBE
import Derived.Test.YtkfigfhjbejikaaGreatDoorB16
import Derived.Test.YtkfigfhjbejikaaGreatDoorB17
set_option linter.all false
section
set_option maxRecDepth 1000000
namespace Go.Tw
open Go.Vx Go.Vx.B Go.Proofs
noncomputable section
def zW_m(n:Nat)(x1:Int×Int×Unit)(low:Int)(high:Int):Option (Int×Unit):=
  ((yAD [(zo x1.1 low high).1,(zo x1.2.1 low high).1]).bind λ v0=>(bif v0.1 != 0 then some (v0.1,())else (bif decide (x1.1 > x1.2.1)then some ((11:Int),())else some ((0:Int),()))))
def zW_M(x1:Int×Int×Unit)(low:Int)(high:Int):Option (Int×Unit):=zW_m 0 x1 low high
abbrev zW_e:Entry:={ f:=155,args:=.pair t96 (.pair t3 (.pair t3 .unit)),rS:=.pair t3 .unit,m:=λ x=>zW_M x.1 x.2.1 x.2.2.1 }
theorem yPH:FnOK Tryz.prog zW_e:=fF 0 Tryz.f155 (λ n x=>zW_m n x.1 x.2.1 x.2.2.1) [] (yF yOx (yF yGM eNil))
def zY_m(n:Nat)(w:List Int)(p1:Bas):Option (Bool×Unit):=
  ((zd_M p1 w).bind λ v0=>some (decide ((↑v0.1.length:Int) > 0),()))
def zY_M(w:List Int)(p1:Bas):Option (Bool×Unit):=zY_m 0 w p1
abbrev zY_e:Entry:={ f:=167,args:=.pair t26 (.pair (.ref t41) .unit),rS:=.pair t4 .unit,m:=λ x=>zY_M x.1 x.2.1 }
theorem yRd:FnOK Tryz.prog zY_e:=fF 0 Tryz.f167 (λ n x=>zY_m n x.1 x.2.1) [] (yF yQp eNil)
def yKj(n:Nat)(r0:List (List Int)->(List Int×Unit->Option (Bool×Unit))->Int->Int->Option (Int×Unit))(aa:List (List Int))(ah:List Int×Unit->Option (Bool×Unit))(al:Int)(ac:Int):Option (Int×Unit):=
  (bif decide (ac < al)then ((idx aa ac).bind λ v1=>((ah (v1,())).bind λ v2=>(bif v2.1 then some (ac,())else r0 aa ah al (IntKind.i64.wrap (ac+1)))))else some ((-1:Int),()))
def yCQ(n:Nat)(k:Nat)(aa:List (List Int))(ah:List Int×Unit->Option (Bool×Unit))(al:Int)(ac:Int):Option (Int×Unit):=
  iter (λ r y=>yKj n (λ aa ah al ac=>r ((aa,(ah,(al,(ac,())))),((),()))) y.1.1 y.1.2.1 y.1.2.2.1 y.1.2.2.2.1) k ((aa,(ah,(al,(ac,())))),((),()))
def zK_m(n:Nat)(s:List (List Int))(f:List Int×Unit->Option (Bool×Unit)):Option (Int×Unit):=
  (yCQ n n (s) (f) ((↑s.length:Int)) ((0:Int)))
def yJs(aa:List (List Int))(ah:List Int×Unit->Option (Bool×Unit))(ac:Int)(v1:List Int):Option ((Int×Unit)⊕Unit):=
  ((ah (v1,())).bind λ v2=>(bif v2.1 then (some (Sum.inl ((ac,()))))else (some (Sum.inr ()))))
def yOO(aa:List (List Int))(ah:List Int×Unit->Option (Bool×Unit)):Option (Int×Unit):=
  (some (((-1:Int),())))
theorem yID(n:Nat)(hn:big<=n)(aa:List (List Int))(ah:List Int×Unit->Option (Bool×Unit))(hx:List.length (aa) < lenMax):LeF some (yL (λ ai ar ak=>yJs aa ah ai ar) (λ ak=>yOO aa ah) 0 (aa) ()) (yCQ n n aa ah (List.length (aa):Int) 0):=by
  refine yP (f:=some) (W:=λ au ai ak=>yCQ n au aa ah (List.length (aa):Int) ai) (λ au ai ak=>?_) hx () n (by unfold big at hn;unfold lenMax at hx;omega)
  show LeF _ _ (yKj n (yCQ n au) aa ah (List.length (aa):Int) ai)
  exact y7 (y9 λ v1=>(y9 λ v2=>(y7 (y8 rfl) (y8 rfl)))) (y06 (y8 rfl))
def zK_M(s:List (List Int))(f:List Int×Unit->Option (Bool×Unit)):Option (Int×Unit):=
  (bif decide (List.length (s) < lenMax)then yL (λ ai ar ak=>yJs (s) (f) ai ar) (λ ak=>yOO (s) (f)) 0 (s) ()else none)
abbrev zK_e:Entry:={ f:=187,args:=.pair t56 (.pair t181 .unit),rS:=.pair t3 .unit,m:=λ x=>zK_M x.1 x.2.1 }
theorem yR6:FnOK Tryz.prog zK_e:=fB Tryz.f187 (λ n x=>zK_m n x.1 x.2.1) [[0,1,7,8]] eNil λ n hn x=>(yO λ hx=>by apply yID n hn;exact hx)
def zx_m(n:Nat)(l:List (Int×Int×Unit)):Option (List (Int×Int×Unit)×Unit):=
  (bif decide ((0:Nat)+l.length<=memMax)then some (l,())else none)
def zx_M(l:List (Int×Int×Unit)):Option (List (Int×Int×Unit)×Unit):=zx_m 0 l
abbrev zx_e:Entry:={ f:=67,args:=.pair t97 .unit,rS:=.pair t97 .unit,m:=λ x=>zx_M x.1 }
theorem yOo:FnOK Tryz.prog zx_e:=fF (mu:=[3]) 0 Tryz.f67 (λ n x=>zx_m n x.1) [] eNil
end
end Go.Tw
end
section
set_option maxRecDepth 1000000
namespace Go.Tw
open Go.Vx Go.Vx.B Go.Proofs
noncomputable section
def yLX(n:Nat)(r0:List (Int×Int×Unit)->Int->Int->Option (Int×Unit))(a8:List (Int×Int×Unit))(a7:Int)(am:Int):Option (Int×Unit):=
  (bif decide (am < (↑a8.length:Int))then ((idx a8 am).bind λ v1=>((zW_M v1 (0:Int) a7).bind λ v2=>(bif v2.1 != 0 then some (v2.1,())else r0 a8 a7 (IntKind.i64.wrap (am+1)))))else some ((0:Int),()))
def yBS(n:Nat)(k:Nat)(a8:List (Int×Int×Unit))(a7:Int)(am:Int):Option (Int×Unit):=
  iter (λ r y=>yLX n (λ a8 a7 am=>r ((a8,(a7,(am,()))),((),()))) y.1.1 y.1.2.1 y.1.2.2.1) k ((a8,(a7,(am,()))),((),()))
def zQ_m(n:Nat)(b:Bas)(l:List (Int×Int×Unit))(most:Int):Option (Int×Unit):=
  (bif (↑l.length:Int) != (↑b.1.length:Int)then some ((2:Int),())else (yBS n n (l) (most) ((0:Int))))
def yOm(a8:List (Int×Int×Unit))(a7:Int)(am:Int)(v1:Int×Int×Unit):Option ((Int×Unit)⊕Unit):=
  ((zW_M v1 (0:Int) a7).bind λ v2=>(bif v2.1 != 0 then (some (Sum.inl ((v2.1,()))))else (some (Sum.inr ()))))
def yP8(a8:List (Int×Int×Unit))(a7:Int):Option (Int×Unit):=
  (some (((0:Int),())))
theorem yIP(n:Nat)(hn:big<=n)(a8:List (Int×Int×Unit))(a7:Int)(hx:List.length (a8) < lenMax):LeF some (yL (λ ai ar ak=>yOm a8 a7 ai ar) (λ ak=>yP8 a8 a7) 0 (a8) ()) (yBS n n a8 a7 0):=by
  refine yP (f:=some) (W:=λ au ai ak=>yBS n au a8 a7 ai) (λ au ai ak=>?_) hx () n (by unfold big at hn;unfold lenMax at hx;omega)
  show LeF _ _ (yLX n (yBS n au) a8 a7 ai)
  exact y7 (y9 λ v1=>(y9 λ v2=>(y7 (y8 rfl) (y8 rfl)))) (y06 (y8 rfl))
def zQ_M(b:Bas)(l:List (Int×Int×Unit))(most:Int):Option (Int×Unit):=
  (bif (↑l.length:Int) != (↑b.1.length:Int)then (some (((2:Int),())))else (bif decide (List.length (l) < lenMax)then yL (λ ai ar ak=>yOm (l) (most) ai ar) (λ ak=>yP8 (l) (most)) 0 (l) ()else none))
abbrev zQ_e:Entry:={ f:=156,args:=.pair t25 (.pair t97 (.pair t3 .unit)),rS:=.pair t3 .unit,m:=λ x=>zQ_M x.1 x.2.1 x.2.2.1 }
theorem yRb:FnOK Tryz.prog zQ_e:=fB Tryz.f156 (λ n x=>zQ_m n x.1 x.2.1 x.2.2.1) [[1,2,7]] (yF yPH eNil) λ n hn x=>(y7 (y8 rfl) (yO λ hx=>by apply yIP n hn;exact hx))
def zE_m(n:Nat)(s:List (List Int))(f:List Int×Unit->Option (Bool×Unit)):Option (Bool×Unit):=
  ((zK_M s f).bind λ v0=>some (decide (v0.1 >= 0),()))
def zE_M(s:List (List Int))(f:List Int×Unit->Option (Bool×Unit)):Option (Bool×Unit):=zE_m 0 s f
abbrev zE_e:Entry:={ f:=168,args:=.pair t56 (.pair t181 .unit),rS:=.pair t4 .unit,m:=λ x=>zE_M x.1 x.2.1 }
theorem yRI:FnOK Tryz.prog zE_e:=fF 0 Tryz.f168 (λ n x=>zE_m n x.1 x.2.1) [] (yF yR6 eNil)
def yOE(n:Nat)(r1:Rng):Option (Rng×Unit):=
  ((zx_M r1.2.2.1).bind λ v0=>some (((r1.1.1,r1.1.2.1,()),r1.2.1,v0.1,()),()))
def yJA(r1:Rng):Option (Rng×Unit):=yOE 0 r1
abbrev z0k_e:Entry:={ f:=54,args:=.pair t99 .unit,rS:=.pair t104 .unit,m:=λ x=>yJA x.1 }
theorem yNN:FnOK Tryz.prog z0k_e:=fF 0 Tryz.f54 (λ n x=>yOE n x.1) [] (yF yOo eNil)
end
end Go.Tw
end
section
set_option maxRecDepth 1000000
namespace Go.Tw
open Go.Vx Go.Vx.B Go.Proofs
noncomputable section
def yGq(n:Nat)(r0:List Rng->Int->Int->List Rng->Option (List Rng×Unit))(ae:List Rng)(al:Int)(ac:Int)(af:List Rng):Option (List Rng×Unit):=
  (bif decide (ac < al)then ((idx ae ac).bind λ v1=>((yJA ((v1.1.1,v1.1.2.1,()),v1.2.1,v1.2.2.1,())).bind λ v2=>(bif decide (af.length+(1:Nat)<=memMax)then r0 ae al (IntKind.i64.wrap (ac+1)) (af++[v2.1])else none)))else some (af,()))
def y81(n:Nat)(k:Nat)(ae:List Rng)(al:Int)(ac:Int)(af:List Rng):Option (List Rng×Unit):=
  iter (λ r y=>yGq n (λ ae al ac af=>r ((ae,(al,(ac,()))),((af,()),()))) y.1.1 y.1.2.1 y.1.2.2.1 y.2.1.1) k ((ae,(al,(ac,()))),((af,()),()))
def yRC(n:Nat)(l:List Rng):Option (List Rng×Unit):=
  (y81 n n (l) ((↑l.length:Int)) ((0:Int)) ([]))
def yJK(ae:List Rng)(ac:Int)(v1:Rng)(af:List Rng):Option ((List Rng×Unit)⊕(List Rng)):=
  ((yJA ((v1.1.1,v1.1.2.1,()),v1.2.1,v1.2.2.1,())).bind λ v2=>(bif decide (af.length+(1:Nat)<=memMax)then (some (Sum.inr (af++[v2.1])))else none))
def yN1(ae:List Rng)(af:List Rng):Option (List Rng×Unit):=
  (some ((af,())))
theorem yF2(n:Nat)(hn:big<=n)(ae:List Rng)(af:List Rng)(hx:List.length (ae) < lenMax):LeF some (yL (λ ai ar ak=>yJK ae ai ar ak) (λ ak=>yN1 ae ak) 0 (ae) af) (y81 n n ae (List.length (ae):Int) 0 af):=by
  refine yP (f:=some) (W:=λ au ai ak=>y81 n au ae (List.length (ae):Int) ai ak) (λ au ai ak=>?_) hx af n (by unfold big at hn;unfold lenMax at hx;omega)
  show LeF _ _ (yGq n (y81 n au) ae (List.length (ae):Int) ai ak)
  exact y7 (y9 λ v1=>(y9 λ v2=>(y7 (y8 rfl) y0H))) (y06 (y8 rfl))
def yCI(l:List Rng):Option (List Rng×Unit):=
  (bif decide (List.length (l) < lenMax)then yL (λ ai ar ak=>yJK (l) ai ar ak) (λ ak=>yN1 (l) ak) 0 (l) ([])else none)
abbrev z0G_e:Entry:={ f:=56,args:=.pair t101 .unit,rS:=.pair t108 .unit,m:=λ x=>yCI x.1 }
theorem yQM:FnOK Tryz.prog z0G_e:=fB (mu:=[3]) Tryz.f56 (λ n x=>yRC n x.1) [[3,6,7,8]] (yF yNN eNil) λ n hn x=>(yO λ hx=>by apply yF2 n hn;exact hx)
def zy_m(n:Nat)(b:Bas)(r1:Rng):Option (Int×Unit):=
  ((zW_M r1.1 (-1024:Int) (1024:Int)).bind λ v0=>((zQ_M b r1.2.2.1 (100000:Int)).bind λ v1=>((yAD [v0.1,v1.1]).bind λ v2=>some (v2.1,()))))
def zy_M(b:Bas)(r1:Rng):Option (Int×Unit):=zy_m 0 b r1
abbrev zy_e:Entry:={ f:=112,args:=.pair t25 (.pair t99 .unit),rS:=.pair t3 .unit,m:=λ x=>zy_M x.1 x.2.1 }
theorem yR9:FnOK Tryz.prog zy_e:=fF 0 Tryz.f112 (λ n x=>zy_m n x.1 x.2.1) [] (yF yPH (yF yRb (yF yGM eNil)))
def zh_m(n:Nat)(b:Bas)(v:List (Int×Int×Unit))(l:List Rng):Option (Bool×Int×Unit):=
  ((yBJ v (1:Int)).bind λ v0=>((z6_M l λ (x:Rng×Unit)=>zc_M x.1).bind λ v1=>((zt_M b v0.1 v1.1).bind λ v2=>(bif v2.2.1 != 0 then some (Bool.false,v2.2.1,())else ((yJX v2.1).bind λ v3=>((zE_M v3.1 λ (x:List Int×Unit)=>zY_M x.1 b).bind λ v4=>some (!v4.1,(0:Int),())))))))
def zh_M(b:Bas)(v:List (Int×Int×Unit))(l:List Rng):Option (Bool×Int×Unit):=zh_m 0 b v l
abbrev zh_e:Entry:={ f:=120,args:=.pair t41 (.pair t97 (.pair t108 .unit)),rS:=.pair t4 (.pair t35 .unit),m:=λ x=>zh_M x.1 x.2.1 x.2.2.1 }
theorem yPd:FnOK Tryz.prog zh_e:=fF 0 Tryz.f120 (λ n x=>zh_m n x.1 x.2.1 x.2.2.1) [] (yF yK8 (yF yQZ (yF yQA (yF yNc (yF yRd (yF yNE (yF yRI eNil)))))))
end
end Go.Tw
end
section
set_option maxRecDepth 1000000
namespace Go.Tw
open Go.Vx Go.Vx.B Go.Proofs
noncomputable section
def yOQ(n:Nat)(b:Bas)(v:List (Int×Int×Unit))(l:List Rng):Option (Bool×Int×Unit):=
  ((zR_M b v l).bind λ v0=>(bif v0.1 != 0 then some (Bool.false,v0.1,())else ((zh_M b v l).bind λ v1=>some (v1.1,v1.2.1,()))))
def yIm(b:Bas)(v:List (Int×Int×Unit))(l:List Rng):Option (Bool×Int×Unit):=yOQ 0 b v l
abbrev z0c_e:Entry:={ f:=68,args:=.pair t41 (.pair t97 (.pair t108 .unit)),rS:=.pair t4 (.pair t35 .unit),m:=λ x=>yIm x.1 x.2.1 x.2.2.1 }
theorem yQq:FnOK Tryz.prog z0c_e:=fF 0 Tryz.f68 (λ n x=>yOQ n x.1 x.2.1 x.2.2.1) [] (yF yOi (yF yPd eNil))
def yIb(n:Nat)(r0:List Rng->Bas->Int->Option (Int×Unit))(a8:List Rng)(aj:Bas)(aq:Int):Option (Int×Unit):=
  (bif decide (aq < (↑a8.length:Int))then ((idx a8 aq).bind λ v1=>((zy_M aj v1).bind λ v2=>(bif v2.1 != 0 then some (v2.1,())else r0 a8 aj (IntKind.i64.wrap (aq+1)))))else some ((0:Int),()))
def yCH(n:Nat)(k:Nat)(a8:List Rng)(aj:Bas)(aq:Int):Option (Int×Unit):=
  iter (λ r y=>yIb n (λ a8 aj aq=>r ((a8,(aj,(aq,()))),((),()))) y.1.1 y.1.2.1 y.1.2.2.1) k ((a8,(aj,(aq,()))),((),()))
def zr_m(n:Nat)(b:Bas)(l:List Rng):Option (Int×Unit):=
  (bif decide ((↑l.length:Int) > 96)then some ((5:Int),())else (yCH n n (l) (b) ((0:Int))))
def yOW(a8:List Rng)(aj:Bas)(aq:Int)(v1:Rng):Option ((Int×Unit)⊕Unit):=
  ((zy_M aj v1).bind λ v2=>(bif v2.1 != 0 then (some (Sum.inl ((v2.1,()))))else (some (Sum.inr ()))))
def yPo(a8:List Rng)(aj:Bas):Option (Int×Unit):=
  (some (((0:Int),())))
theorem yI9(n:Nat)(hn:big<=n)(a8:List Rng)(aj:Bas)(hx:List.length (a8) < lenMax):LeF some (yL (λ ai ar ak=>yOW a8 aj ai ar) (λ ak=>yPo a8 aj) 0 (a8) ()) (yCH n n a8 aj 0):=by
  refine yP (f:=some) (W:=λ au ai ak=>yCH n au a8 aj ai) (λ au ai ak=>?_) hx () n (by unfold big at hn;unfold lenMax at hx;omega)
  show LeF _ _ (yIb n (yCH n au) a8 aj ai)
  exact y7 (y9 λ v1=>(y9 λ v2=>(y7 (y8 rfl) (y8 rfl)))) (y06 (y8 rfl))
def zr_M(b:Bas)(l:List Rng):Option (Int×Unit):=
  (bif decide ((↑l.length:Int) > 96)then (some (((5:Int),())))else (bif decide (List.length (l) < lenMax)then yL (λ ai ar ak=>yOW (l) (b) ai ar) (λ ak=>yPo (l) (b)) 0 (l) ()else none))
abbrev zr_e:Entry:={ f:=123,args:=.pair t25 (.pair t101 .unit),rS:=.pair t3 .unit,m:=λ x=>zr_M x.1 x.2.1 }
theorem yRB:FnOK Tryz.prog zr_e:=fB Tryz.f123 (λ n x=>zr_m n x.1 x.2.1) [[1,2,5]] (yF yR9 eNil) λ n hn x=>(y7 (y8 rfl) (yO λ hx=>by apply yI9 n hn;exact hx))
end
end Go.Tw
end
section
set_option maxRecDepth 1000000
namespace Go.Tw
open Go.Vx Go.Vx.B Go.Proofs
noncomputable section
def zg_m(n:Nat)(b:Bas)(l:List Rng):Option (Int×Unit):=
  ((zp_M b).bind λ v0=>(bif v0.1 != 0 then some (v0.1,())else ((zr_M b l).bind λ v1=>some (v1.1,()))))
def zg_M(b:Bas)(l:List Rng):Option (Int×Unit):=zg_m 0 b l
abbrev zg_e:Entry:={ f:=75,args:=.pair t25 (.pair t101 .unit),rS:=.pair t3 .unit,m:=λ x=>zg_M x.1 x.2.1 }
theorem yRo:FnOK Tryz.prog zg_e:=fF 0 Tryz.f75 (λ n x=>zg_m n x.1 x.2.1) [] (yF yR2 (yF yRB eNil))
end
end Go.Tw
end
