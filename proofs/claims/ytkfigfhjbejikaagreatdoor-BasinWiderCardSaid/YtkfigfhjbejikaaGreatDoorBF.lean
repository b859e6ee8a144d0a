import Derived.Test.YtkfigfhjbejikaaGreatDoorBT
import Derived.Test.YtkfigfhjbejikaaGreatDoorB0
import Derived.Test.YtkfigfhjbejikaaGreatDoorBA
import Derived.Test.YtkfigfhjbejikaaGreatDoorBC
import Derived.Test.YtkfigfhjbejikaaGreatDoorBD
import Derived.Test.YtkfigfhjbejikaaGreatDoorBE
import Derived.Test.YtkfigfhjbejikaaGreatDoorB16
import Derived.Test.YtkfigfhjbejikaaGreatDoorB17
set_option linter.all false
section
set_option maxRecDepth 1000000
namespace Go.Tw
open Go.Vx Go.Vx.B Go.Proofs
noncomputable section
def zW_m(n:Nat)(x1:Int×Int×Unit)(low:Int)(high:Int):Option (Int×Unit):=
  ((yA4 [(zo x1.1 low high).1,(zo x1.2.1 low high).1]).bind λ v0=>(bif v0.1 != 0 then some (v0.1,())else (bif decide (x1.1 > x1.2.1)then some ((11:Int),())else some ((0:Int),()))))
def zW_M(x1:Int×Int×Unit)(low:Int)(high:Int):Option (Int×Unit):=zW_m 0 x1 low high
abbrev zW_e:Entry:={ f:=155,args:=.pair t96 (.pair t3 (.pair t3 .unit)),rS:=.pair t3 .unit,m:=λ x=>zW_M x.1 x.2.1 x.2.2.1 }
theorem yQK:FnOK Tryz.prog zW_e:=fF 0 Tryz.f155 (λ n x=>zW_m n x.1 x.2.1 x.2.2.1) [] (yF yOS (yF yGN eNil))
def zY_m(n:Nat)(w:List Int)(p1:Bas):Option (Bool×Unit):=
  ((zd_M p1 w).bind λ v0=>some (decide ((↑v0.1.length:Int) > 0),()))
def zY_M(w:List Int)(p1:Bas):Option (Bool×Unit):=zY_m 0 w p1
abbrev zY_e:Entry:={ f:=167,args:=.pair t26 (.pair (.ref t41) .unit),rS:=.pair t4 .unit,m:=λ x=>zY_M x.1 x.2.1 }
theorem yRL:FnOK Tryz.prog zY_e:=fF 0 Tryz.f167 (λ n x=>zY_m n x.1 x.2.1) [] (yF yQJ eNil)
def yLT(n:Nat)(r0:List (List Int)->(List Int×Unit->Option (Bool×Unit))->Int->Int->Option (Int×Unit))(aa:List (List Int))(ah:List Int×Unit->Option (Bool×Unit))(al:Int)(ac:Int):Option (Int×Unit):=
  (bif decide (ac < al)then ((idx aa ac).bind λ v1=>((ah (v1,())).bind λ v2=>(bif v2.1 then some (ac,())else r0 aa ah al (IntKind.i64.wrap (ac+1)))))else some ((-1:Int),()))
def yBq(n:Nat)(k:Nat)(aa:List (List Int))(ah:List Int×Unit->Option (Bool×Unit))(al:Int)(ac:Int):Option (Int×Unit):=
  iter (λ r y=>yLT n (λ aa ah al ac=>r ((aa,(ah,(al,(ac,())))),((),()))) y.1.1 y.1.2.1 y.1.2.2.1 y.1.2.2.2.1) k ((aa,(ah,(al,(ac,())))),((),()))
def zK_m(n:Nat)(s:List (List Int))(f:List Int×Unit->Option (Bool×Unit)):Option (Int×Unit):=
  (yBq n n (s) (f) ((↑s.length:Int)) ((0:Int)))
def yJZ(aa:List (List Int))(ah:List Int×Unit->Option (Bool×Unit))(ac:Int)(v1:List Int):Option ((Int×Unit)⊕Unit):=
  ((ah (v1,())).bind λ v2=>(bif v2.1 then (some (Sum.inl ((ac,()))))else (some (Sum.inr ()))))
def yOT(aa:List (List Int))(ah:List Int×Unit->Option (Bool×Unit)):Option (Int×Unit):=
  (some (((-1:Int),())))
theorem yHT(n:Nat)(hn:big<=n)(aa:List (List Int))(ah:List Int×Unit->Option (Bool×Unit))(hx:List.length (aa) < lenMax):LeF some (yL (λ ai ar ak=>yJZ aa ah ai ar) (λ ak=>yOT aa ah) 0 (aa) ()) (yBq n n aa ah (List.length (aa):Int) 0):=by
  refine yP (f:=some) (W:=λ au ai ak=>yBq n au aa ah (List.length (aa):Int) ai) (λ au ai ak=>?_) hx () n (by unfold big at hn;unfold lenMax at hx;omega)
  show LeF _ _ (yLT n (yBq n au) aa ah (List.length (aa):Int) ai)
  exact y7 (y9 λ v1=>(y9 λ v2=>(y7 (y8 rfl) (y8 rfl)))) (y06 (y8 rfl))
def zK_M(s:List (List Int))(f:List Int×Unit->Option (Bool×Unit)):Option (Int×Unit):=
  (bif decide (List.length (s) < lenMax)then yL (λ ai ar ak=>yJZ (s) (f) ai ar) (λ ak=>yOT (s) (f)) 0 (s) ()else none)
abbrev zK_e:Entry:={ f:=187,args:=.pair t56 (.pair t181 .unit),rS:=.pair t3 .unit,m:=λ x=>zK_M x.1 x.2.1 }
theorem yR5:FnOK Tryz.prog zK_e:=fB Tryz.f187 (λ n x=>zK_m n x.1 x.2.1) [[0,1,7,8]] eNil λ n hn x=>(yO λ hx=>by apply yHT n hn;exact hx)
def zx_m(n:Nat)(l:List (Int×Int×Unit)):Option (List (Int×Int×Unit)×Unit):=
  (bif decide ((0:Nat)+l.length<=memMax)then some (l,())else none)
def zx_M(l:List (Int×Int×Unit)):Option (List (Int×Int×Unit)×Unit):=zx_m 0 l
abbrev zx_e:Entry:={ f:=67,args:=.pair t97 .unit,rS:=.pair t97 .unit,m:=λ x=>zx_M x.1 }
theorem yO7:FnOK Tryz.prog zx_e:=fF (mu:=[3]) 0 Tryz.f67 (λ n x=>zx_m n x.1) [] eNil
end
end Go.Tw
end
section
set_option maxRecDepth 1000000
namespace Go.Tw
open Go.Vx Go.Vx.B Go.Proofs
noncomputable section
def yJR(n:Nat)(r0:List (Int×Int×Unit)->Int->Int->Option (Int×Unit))(a8:List (Int×Int×Unit))(a7:Int)(am:Int):Option (Int×Unit):=
  (bif decide (am < (↑a8.length:Int))then ((idx a8 am).bind λ v1=>((zW_M v1 (0:Int) a7).bind λ v2=>(bif v2.1 != 0 then some (v2.1,())else r0 a8 a7 (IntKind.i64.wrap (am+1)))))else some ((0:Int),()))
def yBh(n:Nat)(k:Nat)(a8:List (Int×Int×Unit))(a7:Int)(am:Int):Option (Int×Unit):=
  iter (λ r y=>yJR n (λ a8 a7 am=>r ((a8,(a7,(am,()))),((),()))) y.1.1 y.1.2.1 y.1.2.2.1) k ((a8,(a7,(am,()))),((),()))
def zQ_m(n:Nat)(b:Bas)(l:List (Int×Int×Unit))(most:Int):Option (Int×Unit):=
  (bif (↑l.length:Int) != (↑b.1.length:Int)then some ((2:Int),())else (yBh n n (l) (most) ((0:Int))))
def yNu(a8:List (Int×Int×Unit))(a7:Int)(am:Int)(v1:Int×Int×Unit):Option ((Int×Unit)⊕Unit):=
  ((zW_M v1 (0:Int) a7).bind λ v2=>(bif v2.1 != 0 then (some (Sum.inl ((v2.1,()))))else (some (Sum.inr ()))))
def yP7(a8:List (Int×Int×Unit))(a7:Int):Option (Int×Unit):=
  (some (((0:Int),())))
theorem yHm(n:Nat)(hn:big<=n)(a8:List (Int×Int×Unit))(a7:Int)(hx:List.length (a8) < lenMax):LeF some (yL (λ ai ar ak=>yNu a8 a7 ai ar) (λ ak=>yP7 a8 a7) 0 (a8) ()) (yBh n n a8 a7 0):=by
  refine yP (f:=some) (W:=λ au ai ak=>yBh n au a8 a7 ai) (λ au ai ak=>?_) hx () n (by unfold big at hn;unfold lenMax at hx;omega)
  show LeF _ _ (yJR n (yBh n au) a8 a7 ai)
  exact y7 (y9 λ v1=>(y9 λ v2=>(y7 (y8 rfl) (y8 rfl)))) (y06 (y8 rfl))
def zQ_M(b:Bas)(l:List (Int×Int×Unit))(most:Int):Option (Int×Unit):=
  (bif (↑l.length:Int) != (↑b.1.length:Int)then (some (((2:Int),())))else (bif decide (List.length (l) < lenMax)then yL (λ ai ar ak=>yNu (l) (most) ai ar) (λ ak=>yP7 (l) (most)) 0 (l) ()else none))
abbrev zQ_e:Entry:={ f:=156,args:=.pair t25 (.pair t97 (.pair t3 .unit)),rS:=.pair t3 .unit,m:=λ x=>zQ_M x.1 x.2.1 x.2.2.1 }
theorem yRF:FnOK Tryz.prog zQ_e:=fB Tryz.f156 (λ n x=>zQ_m n x.1 x.2.1 x.2.2.1) [[1,2,7]] (yF yQK eNil) λ n hn x=>(y7 (y8 rfl) (yO λ hx=>by apply yHm n hn;exact hx))
def zE_m(n:Nat)(s:List (List Int))(f:List Int×Unit->Option (Bool×Unit)):Option (Bool×Unit):=
  ((zK_M s f).bind λ v0=>some (decide (v0.1 >= 0),()))
def zE_M(s:List (List Int))(f:List Int×Unit->Option (Bool×Unit)):Option (Bool×Unit):=zE_m 0 s f
abbrev zE_e:Entry:={ f:=168,args:=.pair t56 (.pair t181 .unit),rS:=.pair t4 .unit,m:=λ x=>zE_M x.1 x.2.1 }
theorem yRi:FnOK Tryz.prog zE_e:=fF 0 Tryz.f168 (λ n x=>zE_m n x.1 x.2.1) [] (yF yR5 eNil)
def yOP(n:Nat)(r1:Rng):Option (Rng×Unit):=
  ((zx_M r1.2.2.1).bind λ v0=>some (((r1.1.1,r1.1.2.1,()),r1.2.1,v0.1,()),()))
def yJM(r1:Rng):Option (Rng×Unit):=yOP 0 r1
abbrev z0k_e:Entry:={ f:=54,args:=.pair t99 .unit,rS:=.pair t104 .unit,m:=λ x=>yJM x.1 }
theorem yNG:FnOK Tryz.prog z0k_e:=fF 0 Tryz.f54 (λ n x=>yOP n x.1) [] (yF yO7 eNil)
end
end Go.Tw
end
section
set_option maxRecDepth 1000000
namespace Go.Tw
open Go.Vx Go.Vx.B Go.Proofs
noncomputable section
def yGg(n:Nat)(r0:List Rng->Int->Int->List Rng->Option (List Rng×Unit))(ae:List Rng)(al:Int)(ac:Int)(af:List Rng):Option (List Rng×Unit):=
  (bif decide (ac < al)then ((idx ae ac).bind λ v1=>((yJM ((v1.1.1,v1.1.2.1,()),v1.2.1,v1.2.2.1,())).bind λ v2=>(bif decide (af.length+(1:Nat)<=memMax)then r0 ae al (IntKind.i64.wrap (ac+1)) (af++[v2.1])else none)))else some (af,()))
def y7k(n:Nat)(k:Nat)(ae:List Rng)(al:Int)(ac:Int)(af:List Rng):Option (List Rng×Unit):=
  iter (λ r y=>yGg n (λ ae al ac af=>r ((ae,(al,(ac,()))),((af,()),()))) y.1.1 y.1.2.1 y.1.2.2.1 y.2.1.1) k ((ae,(al,(ac,()))),((af,()),()))
def yRK(n:Nat)(l:List Rng):Option (List Rng×Unit):=
  (y7k n n (l) ((↑l.length:Int)) ((0:Int)) ([]))
def yLN(ae:List Rng)(ac:Int)(v1:Rng)(af:List Rng):Option ((List Rng×Unit)⊕(List Rng)):=
  ((yJM ((v1.1.1,v1.1.2.1,()),v1.2.1,v1.2.2.1,())).bind λ v2=>(bif decide (af.length+(1:Nat)<=memMax)then (some (Sum.inr (af++[v2.1])))else none))
def yNJ(ae:List Rng)(af:List Rng):Option (List Rng×Unit):=
  (some ((af,())))
theorem yF0(n:Nat)(hn:big<=n)(ae:List Rng)(af:List Rng)(hx:List.length (ae) < lenMax):LeF some (yL (λ ai ar ak=>yLN ae ai ar ak) (λ ak=>yNJ ae ak) 0 (ae) af) (y7k n n ae (List.length (ae):Int) 0 af):=by
  refine yP (f:=some) (W:=λ au ai ak=>y7k n au ae (List.length (ae):Int) ai ak) (λ au ai ak=>?_) hx af n (by unfold big at hn;unfold lenMax at hx;omega)
  show LeF _ _ (yGg n (y7k n au) ae (List.length (ae):Int) ai ak)
  exact y7 (y9 λ v1=>(y9 λ v2=>(y7 (y8 rfl) y0H))) (y06 (y8 rfl))
def yCD(l:List Rng):Option (List Rng×Unit):=
  (bif decide (List.length (l) < lenMax)then yL (λ ai ar ak=>yLN (l) ai ar ak) (λ ak=>yNJ (l) ak) 0 (l) ([])else none)
abbrev z0G_e:Entry:={ f:=56,args:=.pair t101 .unit,rS:=.pair t108 .unit,m:=λ x=>yCD x.1 }
theorem yPJ:FnOK Tryz.prog z0G_e:=fB (mu:=[3]) Tryz.f56 (λ n x=>yRK n x.1) [[3,6,7,8]] (yF yNG eNil) λ n hn x=>(yO λ hx=>by apply yF0 n hn;exact hx)
def zy_m(n:Nat)(b:Bas)(r1:Rng):Option (Int×Unit):=
  ((zW_M r1.1 (-1024:Int) (1024:Int)).bind λ v0=>((zQ_M b r1.2.2.1 (100000:Int)).bind λ v1=>((yA4 [v0.1,v1.1]).bind λ v2=>some (v2.1,()))))
def zy_M(b:Bas)(r1:Rng):Option (Int×Unit):=zy_m 0 b r1
abbrev zy_e:Entry:={ f:=112,args:=.pair t25 (.pair t99 .unit),rS:=.pair t3 .unit,m:=λ x=>zy_M x.1 x.2.1 }
theorem yR8:FnOK Tryz.prog zy_e:=fF 0 Tryz.f112 (λ n x=>zy_m n x.1 x.2.1) [] (yF yQK (yF yRF (yF yGN eNil)))
def zh_m(n:Nat)(b:Bas)(v:List (Int×Int×Unit))(l:List Rng):Option (Bool×Int×Unit):=
  ((yC4 v (1:Int)).bind λ v0=>((z6_M l λ (x:Rng×Unit)=>zc_M x.1).bind λ v1=>((zt_M b v0.1 v1.1).bind λ v2=>(bif v2.2.1 != 0 then some (Bool.false,v2.2.1,())else ((yJz v2.1).bind λ v3=>((zE_M v3.1 λ (x:List Int×Unit)=>zY_M x.1 b).bind λ v4=>some (!v4.1,(0:Int),())))))))
def zh_M(b:Bas)(v:List (Int×Int×Unit))(l:List Rng):Option (Bool×Int×Unit):=zh_m 0 b v l
abbrev zh_e:Entry:={ f:=120,args:=.pair t41 (.pair t97 (.pair t108 .unit)),rS:=.pair t4 (.pair t35 .unit),m:=λ x=>zh_M x.1 x.2.1 x.2.2.1 }
theorem yQF:FnOK Tryz.prog zh_e:=fF 0 Tryz.f120 (λ n x=>zh_m n x.1 x.2.1 x.2.2.1) [] (yF yJ7 (yF yPC (yF yQD (yF yOR (yF yRL (yF yNC (yF yRi eNil)))))))
end
end Go.Tw
end
section
set_option maxRecDepth 1000000
namespace Go.Tw
open Go.Vx Go.Vx.B Go.Proofs
noncomputable section
def yO2(n:Nat)(b:Bas)(v:List (Int×Int×Unit))(l:List Rng):Option (Bool×Int×Unit):=
  ((zR_M b v l).bind λ v0=>(bif v0.1 != 0 then some (Bool.false,v0.1,())else ((zh_M b v l).bind λ v1=>some (v1.1,v1.2.1,()))))
def yKX(b:Bas)(v:List (Int×Int×Unit))(l:List Rng):Option (Bool×Int×Unit):=yO2 0 b v l
abbrev z0c_e:Entry:={ f:=68,args:=.pair t41 (.pair t97 (.pair t108 .unit)),rS:=.pair t4 (.pair t35 .unit),m:=λ x=>yKX x.1 x.2.1 x.2.2.1 }
theorem yQd:FnOK Tryz.prog z0c_e:=fF 0 Tryz.f68 (λ n x=>yO2 n x.1 x.2.1 x.2.2.1) [] (yF yOg (yF yQF eNil))
def yKC(n:Nat)(r0:List Rng->Bas->Int->Option (Int×Unit))(a8:List Rng)(aj:Bas)(aq:Int):Option (Int×Unit):=
  (bif decide (aq < (↑a8.length:Int))then ((idx a8 aq).bind λ v1=>((zy_M aj v1).bind λ v2=>(bif v2.1 != 0 then some (v2.1,())else r0 a8 aj (IntKind.i64.wrap (aq+1)))))else some ((0:Int),()))
def yBj(n:Nat)(k:Nat)(a8:List Rng)(aj:Bas)(aq:Int):Option (Int×Unit):=
  iter (λ r y=>yKC n (λ a8 aj aq=>r ((a8,(aj,(aq,()))),((),()))) y.1.1 y.1.2.1 y.1.2.2.1) k ((a8,(aj,(aq,()))),((),()))
def zr_m(n:Nat)(b:Bas)(l:List Rng):Option (Int×Unit):=
  (bif decide ((↑l.length:Int) > 96)then some ((5:Int),())else (yBj n n (l) (b) ((0:Int))))
def yOU(a8:List Rng)(aj:Bas)(aq:Int)(v1:Rng):Option ((Int×Unit)⊕Unit):=
  ((zy_M aj v1).bind λ v2=>(bif v2.1 != 0 then (some (Sum.inl ((v2.1,()))))else (some (Sum.inr ()))))
def yPv(a8:List Rng)(aj:Bas):Option (Int×Unit):=
  (some (((0:Int),())))
theorem yHP(n:Nat)(hn:big<=n)(a8:List Rng)(aj:Bas)(hx:List.length (a8) < lenMax):LeF some (yL (λ ai ar ak=>yOU a8 aj ai ar) (λ ak=>yPv a8 aj) 0 (a8) ()) (yBj n n a8 aj 0):=by
  refine yP (f:=some) (W:=λ au ai ak=>yBj n au a8 aj ai) (λ au ai ak=>?_) hx () n (by unfold big at hn;unfold lenMax at hx;omega)
  show LeF _ _ (yKC n (yBj n au) a8 aj ai)
  exact y7 (y9 λ v1=>(y9 λ v2=>(y7 (y8 rfl) (y8 rfl)))) (y06 (y8 rfl))
def zr_M(b:Bas)(l:List Rng):Option (Int×Unit):=
  (bif decide ((↑l.length:Int) > 96)then (some (((5:Int),())))else (bif decide (List.length (l) < lenMax)then yL (λ ai ar ak=>yOU (l) (b) ai ar) (λ ak=>yPv (l) (b)) 0 (l) ()else none))
abbrev zr_e:Entry:={ f:=123,args:=.pair t25 (.pair t101 .unit),rS:=.pair t3 .unit,m:=λ x=>zr_M x.1 x.2.1 }
theorem yQz:FnOK Tryz.prog zr_e:=fB Tryz.f123 (λ n x=>zr_m n x.1 x.2.1) [[1,2,5]] (yF yR8 eNil) λ n hn x=>(y7 (y8 rfl) (yO λ hx=>by apply yHP n hn;exact hx))
end
end Go.Tw
end
section
set_option maxRecDepth 1000000
namespace Go.Tw
open Go.Vx Go.Vx.B Go.Proofs
noncomputable section
def zg_m(n:Nat)(b:Bas)(l:List Rng):Option (Int×Unit):=
  ((zp_M b).bind λ v0=>(bif v0.1 != 0 then some (v0.1,())else ((zr_M b l).bind λ v1=>some (v1.1,()))))
def zg_M(b:Bas)(l:List Rng):Option (Int×Unit):=zg_m 0 b l
abbrev zg_e:Entry:={ f:=75,args:=.pair t25 (.pair t101 .unit),rS:=.pair t3 .unit,m:=λ x=>zg_M x.1 x.2.1 }
theorem yRM:FnOK Tryz.prog zg_e:=fF 0 Tryz.f75 (λ n x=>zg_m n x.1 x.2.1) [] (yF yR3 (yF yQz eNil))
end
end Go.Tw
end
