import Derived.Test.YtemgjgkbgkeknaaGreatDoorBT
import Derived.Test.YtemgjgkbgkeknaaGreatDoorB0
import Derived.Test.YtemgjgkbgkeknaaGreatDoorSB
import Derived.Test.YtemgjgkbgkeknaaGreatDoorLZ
set_option linter.all false
open Go.IntKind (i64)
section
set_option maxRecDepth 1000000
namespace Go.Tw
open Go.Vx Go.Vx.B Go.Proofs
noncomputable section
def yFX(n:Nat)(r0:List (Q2)->Int->Option (Bool×Unit))(r11:List (Q2)->Int->Int->Option (Bool×Unit))(bO:List (Q2))(bQ cQ:Int):Option (Bool×Unit):=
  ((idx bO bQ).bind λ v12=>(bif decide (cQ < (↑v12.2.2.1.length:Int))then ((idx bO bQ).bind λ v13=>((idx v13.2.2.1 cQ).bind λ v14=>(bif decide ((↑v14.length:Int) > 40)then some (Bool.false,())else r11 bO bQ (i64.wrap (cQ+1)))))else r0 bO (i64.wrap (bQ+1))))
def y7e(n:Nat)(r0:List (Q2)->Int->Option (Bool×Unit))(k:Nat)(bO:List (Q2))(bQ cQ:Int):Option (Bool×Unit):=
  iter (λ r y=>yFX n r0 (λ bO bQ cQ=>r ((bO,(bQ,(cQ,()))),((),()))) y.1.1 y.1.2.1 y.1.2.2.1) k ((bO,(bQ,(cQ,()))),((),()))
def yKG(n:Nat)(r0:List (Q2)->Int->Option (Bool×Unit))(bi:List (Q2))(aO:Int):Option (Bool×Unit):=
  (bif decide (aO < (↑bi.length:Int))then ((idx bi aO).bind λ v1=>(bif decide ((↑v1.2.1.length:Int) > 40)then some (Bool.false,())else ((idx bi aO).bind λ v2=>(bif decide ((↑v2.2.2.1.length:Int) > 6)then some (Bool.false,())else ((idx bi aO).bind λ v3=>(bif decide ((↑v3.2.2.2.1.length:Int) > 8)then some (Bool.false,())else ((idx bi aO).bind λ v4=>(bif decide ((↑v4.2.2.2.2.1.length:Int) > 200)then some (Bool.false,())else (y7e n r0 n (bi) (aO) ((0:Int)))))))))))else some (Bool.true,()))
def yAQ(n k:Nat)(bi:List (Q2))(aO:Int):Option (Bool×Unit):=
  iter (λ r y=>yKG n (λ bi aO=>r ((bi,(aO,())),((),()))) y.1.1 y.1.2.1) k ((bi,(aO,())),((),()))
def zr_m(n:Nat)(l:List (Q2))(np:Int):Option (Bool×Unit):=
  (bif decide ((↑l.length:Int) > np)then some (Bool.false,())else (yAQ n n (l) ((0:Int))))
def yF9(bO:List (Q2))(bQ:Int)(v12:Q2)(cQ:Int):Option (((Bool×Unit)⊕Unit)⊕Unit):=
  ((idx bO bQ).bind λ v13=>((idx v13.2.2.1 cQ).bind λ v14=>(bif decide ((↑v14.length:Int) > 40)then (some (Sum.inl (Sum.inl ((Bool.false,())))))else (some (Sum.inr ())))))
def yI8(bO:List (Q2))(bQ:Int)(v12:Q2):Option ((Bool×Unit)⊕Unit):=
  (some (Sum.inr ()))
theorem yEc(n:Nat)(hn:big<=n)(r0:List (Q2)->Int->Option (Bool×Unit))(bO:List (Q2))(bQ:Int)(v12:Q2)(h0__:(idx bO bQ)=some v12)(hx:((↑v12.2.2.1.length:Int))<=9223372036854775807):LeF (elim some λ (ac:Unit)=>r0 bO (i64.wrap (bQ+1))) (y2y (λ af ac=>yF9 bO bQ v12 af) (λ ac=>yI8 bO bQ v12) (((↑v12.2.2.1.length:Int)) - 0).toNat 0 ()) (y7e n r0 n bO bQ 0):=by
  refine y4a (f:=(elim some λ (ac:Unit)=>r0 bO (i64.wrap (bQ+1)))) (W:=λ bA af ac=>y7e n r0 bA bO bQ af) (body:=(λ af ac=>yF9 bO bQ v12 af)) (fin:=(λ ac=>yI8 bO bQ v12)) (λ bA af ac=>?_) hx () n 0 (by decide) (by unfold big at hn;omega)
  show LeF _ _ (yFX n r0 (y7e n r0 bA) bO bQ af)
  exact leAt h0__ (y7 (yF λ v13=>(yF λ v14=>(y7 (y9 rfl) (y9 rfl)))) (y1I (y9 rfl)))
def yHP(bi:List (Q2))(aO:Int)(v1:Q2):Option ((Bool×Unit)⊕Unit):=
  (bif decide ((↑v1.2.1.length:Int) > 40)then (some (Sum.inl ((Bool.false,()))))else ((idx bi aO).bind λ v2=>(bif decide ((↑v2.2.2.1.length:Int) > 6)then (some (Sum.inl ((Bool.false,()))))else ((idx bi aO).bind λ v3=>(bif decide ((↑v3.2.2.2.1.length:Int) > 8)then (some (Sum.inl ((Bool.false,()))))else ((idx bi aO).bind λ v4=>(bif decide ((↑v4.2.2.2.2.1.length:Int) > 200)then (some (Sum.inl ((Bool.false,()))))else ((idx bi aO).bind λ v12=>(bif decide (((↑v12.2.2.1.length:Int))<=9223372036854775807)then y2y (λ af ac=>yF9 (bi) (aO) v12 af) (λ ac=>yI8 (bi) (aO) v12) (((↑v12.2.2.1.length:Int)) - 0).toNat 0 ()else none)))))))))
def yOd(bi:List (Q2)):Option (Bool×Unit):=
  (some ((Bool.true,())))
theorem yGP(n:Nat)(hn:big<=n)(bi:List (Q2))(hx:List.length (bi) < yB):LeF some (yR (λ af cD ac=>yHP bi af cD) (λ ac=>yOd bi) 0 (bi) ()) (yAQ n n bi 0):=by
  refine yo (f:=some) (W:=λ bA af ac=>yAQ n bA bi af) (λ bA af ac=>?_) hx () n (by unfold big at hn;unfold yB at hx;omega)
  show LeF _ _ (yKG n (yAQ n bA) bi af)
  exact y7 (yF λ v1=>(y7 (y9 rfl) (yF λ v2=>(y7 (y9 rfl) (yF λ v3=>(y7 (y9 rfl) (yF λ v4=>(y7 (y9 rfl) (yN6 λ v12 h0__=>(yl λ hx=>by apply yEc n hn;exact h0__;exact hx)))))))))) (y1I (y9 rfl))
def zr_M(l:List (Q2))(np:Int):Option (Bool×Unit):=
  (bif decide ((↑l.length:Int) > np)then (some ((Bool.false,())))else (bif decide (List.length (l) < yB)then yR (λ af cD ac=>yHP (l) af cD) (λ ac=>yOd (l)) 0 (l) ()else none))
abbrev zr_e:Entry:={ f:=14,args:=.pair t22 (.pair t3 .unit),rS:=.pair t4 .unit,m:=λ x=>zr_M x.1 x.2.1 }
theorem yQu:FnOK Tryz.prog zr_e:=fB Tryz.f14 (λ n x=>zr_m n x.1 x.2.1) [[0,5],[0,5,6]] eNil λ n hn x=>(y7 (y9 rfl) (yl λ hx=>by apply yGP n hn;exact hx))
def yF6(n:Nat)(r0:List (Q5)->List (Q5)->Int->Option (Bool×Unit))(bB bZ:List (Q5))(aO:Int):Option (Bool×Unit):=
  (bif decide (aO < (↑bB.length:Int))then ((idx bB aO).bind λ v1=>((idx bZ aO).bind λ v2=>(bif !eqV ((Ty.int i64).pair (Ty.str.pair (Ty.str.pair Ty.unit))) v1 v2 then some (Bool.false,())else r0 bB bZ (i64.wrap (aO+1)))))else some (Bool.true,()))
def y7T(n k:Nat)(bB bZ:List (Q5))(aO:Int):Option (Bool×Unit):=
  iter (λ r y=>yF6 n (λ bB bZ aO=>r ((bB,(bZ,(aO,()))),((),()))) y.1.1 y.1.2.1 y.1.2.2.1) k ((bB,(bZ,(aO,()))),((),()))
def yRP(n:Nat)(a b:List (Q5)):Option (Bool×Unit):=
  (bif (↑a.length:Int) != (↑b.length:Int)then some (Bool.false,())else (y7T n n (a) (b) ((0:Int))))
def yJr(bB bZ:List (Q5))(aO:Int)(v1:Q5):Option ((Bool×Unit)⊕Unit):=
  ((idx bZ aO).bind λ v2=>(bif !eqV ((Ty.int i64).pair (Ty.str.pair (Ty.str.pair Ty.unit))) v1 v2 then (some (Sum.inl ((Bool.false,()))))else (some (Sum.inr ()))))
def yMM(bB bZ:List (Q5)):Option (Bool×Unit):=
  (some ((Bool.true,())))
theorem yDq(n:Nat)(hn:big<=n)(bB bZ:List (Q5))(hx:List.length (bB) < yB):LeF some (yR (λ af cD ac=>yJr bB bZ af cD) (λ ac=>yMM bB bZ) 0 (bB) ()) (y7T n n bB bZ 0):=by
  refine yo (f:=some) (W:=λ bA af ac=>y7T n bA bB bZ af) (λ bA af ac=>?_) hx () n (by unfold big at hn;unfold yB at hx;omega)
  show LeF _ _ (yF6 n (y7T n bA) bB bZ af)
  exact y7 (yF λ v1=>(yF λ v2=>(y7 (y9 rfl) (y9 rfl)))) (y1I (y9 rfl))
def yOu(a b:List (Q5)):Option (Bool×Unit):=
  (bif (↑a.length:Int) != (↑b.length:Int)then (some ((Bool.false,())))else (bif decide (List.length (a) < yB)then yR (λ af cD ac=>yJr (a) (b) af cD) (λ ac=>yMM (a) (b)) 0 (a) ()else none))
abbrev z00_e:Entry:={ f:=26,args:=.pair t47 (.pair t47 .unit),rS:=.pair t4 .unit,m:=λ x=>yOu x.1 x.2.1 }
theorem yMU:FnOK Tryz.prog z00_e:=fB Tryz.f26 (λ n x=>yRP n x.1 x.2.1) [[0,1,5]] eNil λ n hn x=>(y7 (y9 rfl) (yl λ hx=>by apply yDq n hn;exact hx))
def yFp(n:Nat)(r0:List (Q5)->Int->Int->List (Q5)->Option (List (Q5)×Unit))(cC:List (Q5))(bg a8:Int)(ah:List (Q5)):Option (List (Q5)×Unit):=
  (bif decide (a8 < bg)then ((idx cC a8).bind λ v1=>(bif decide (ah.length+(1:Nat)<=memMax)then r0 cC bg (i64.wrap (a8+1)) (ah++[(v1.1,v1.2.1,v1.2.2.1,())])else none))else some (ah,()))
def y7W(n k:Nat)(cC:List (Q5))(bg a8:Int)(ah:List (Q5)):Option (List (Q5)×Unit):=
  iter (λ r y=>yFp n (λ cC bg a8 ah=>r ((cC,(bg,(a8,()))),((ah,()),()))) y.1.1 y.1.2.1 y.1.2.2.1 y.2.1.1) k ((cC,(bg,(a8,()))),((ah,()),()))
def yRC(n:Nat)(l:List (Q5)):Option (List (Q5)×Unit):=
  (y7W n n (l) ((↑l.length:Int)) ((0:Int)) ([]))
def yIm(cC:List (Q5))(a8:Int)(v1:Q5)(ah:List (Q5)):Option ((List (Q5)×Unit)⊕(List (Q5))):=
  (bif decide (ah.length+(1:Nat)<=memMax)then (some (Sum.inr (ah++[(v1.1,v1.2.1,v1.2.2.1,())])))else none)
def yJ7(cC ah:List (Q5)):Option (List (Q5)×Unit):=
  (some ((ah,())))
theorem yE8(n:Nat)(hn:big<=n)(cC ah:List (Q5))(hx:List.length (cC) < yB):LeF some (yR (λ af cD ac=>yIm cC af cD ac) (λ ac=>yJ7 cC ac) 0 (cC) ah) (y7W n n cC (List.length (cC):Int) 0 ah):=by
  refine yo (f:=some) (W:=λ bA af ac=>y7W n bA cC (List.length (cC):Int) af ac) (λ bA af ac=>?_) hx ah n (by unfold big at hn;unfold yB at hx;omega)
  show LeF _ _ (yFp n (y7W n bA) cC (List.length (cC):Int) af ac)
  exact y7 (yF λ v1=>(y7 (y9 rfl) y03)) (y1I (y9 rfl))
def yO6(l:List (Q5)):Option (List (Q5)×Unit):=
  (bif decide (List.length (l) < yB)then yR (λ af cD ac=>yIm (l) af cD ac) (λ ac=>yJ7 (l) ac) 0 (l) ([])else none)
abbrev z0c_e:Entry:={ f:=27,args:=.pair t28 .unit,rS:=.pair t47 .unit,m:=λ x=>yO6 x.1 }
theorem yMp:FnOK Tryz.prog z0c_e:=fB (mu:=[3]) Tryz.f27 (λ n x=>yRC n x.1) [[3,6,7,8]] eNil λ n hn x=>(yl λ hx=>by apply yE8 n hn;exact hx)
def yFg(n:Nat)(r0:List Int->List Int->Int->Option (Bool×Unit))(bB bZ:List Int)(aO:Int):Option (Bool×Unit):=
  (bif decide (aO < (↑bB.length:Int))then ((idx bB aO).bind λ v1=>((idx bZ aO).bind λ v2=>(bif v1 != v2 then some (Bool.false,())else r0 bB bZ (i64.wrap (aO+1)))))else some (Bool.true,()))
def y7X(n k:Nat)(bB bZ:List Int)(aO:Int):Option (Bool×Unit):=
  iter (λ r y=>yFg n (λ bB bZ aO=>r ((bB,(bZ,(aO,()))),((),()))) y.1.1 y.1.2.1 y.1.2.2.1) k ((bB,(bZ,(aO,()))),((),()))
def yRx(n:Nat)(a b:List Int):Option (Bool×Unit):=
  (bif (↑a.length:Int) != (↑b.length:Int)then some (Bool.false,())else (y7X n n (a) (b) ((0:Int))))
def yMu(bB bZ:List Int)(aO v1:Int):Option ((Bool×Unit)⊕Unit):=
  ((idx bZ aO).bind λ v2=>(bif v1 != v2 then (some (Sum.inl ((Bool.false,()))))else (some (Sum.inr ()))))
def yMg(bB bZ:List Int):Option (Bool×Unit):=
  (some ((Bool.true,())))
theorem yDS(n:Nat)(hn:big<=n)(bB bZ:List Int)(hx:List.length (bB) < yB):LeF some (yR (λ af cD ac=>yMu bB bZ af cD) (λ ac=>yMg bB bZ) 0 (bB) ()) (y7X n n bB bZ 0):=by
  refine yo (f:=some) (W:=λ bA af ac=>y7X n bA bB bZ af) (λ bA af ac=>?_) hx () n (by unfold big at hn;unfold yB at hx;omega)
  show LeF _ _ (yFg n (y7X n bA) bB bZ af)
  exact y7 (yF λ v1=>(yF λ v2=>(y7 (y9 rfl) (y9 rfl)))) (y1I (y9 rfl))
def yS1(a b:List Int):Option (Bool×Unit):=
  (bif (↑a.length:Int) != (↑b.length:Int)then (some ((Bool.false,())))else (bif decide (List.length (a) < yB)then yR (λ af cD ac=>yMu (a) (b) af cD) (λ ac=>yMg (a) (b)) 0 (a) ()else none))
abbrev z06_e:Entry:={ f:=28,args:=.pair t34 (.pair t34 .unit),rS:=.pair t4 .unit,m:=λ x=>yS1 x.1 x.2.1 }
theorem yQ5:FnOK Tryz.prog z06_e:=fB Tryz.f28 (λ n x=>yRx n x.1 x.2.1) [[0,1,5]] eNil λ n hn x=>(y7 (y9 rfl) (yl λ hx=>by apply yDS n hn;exact hx))
def y4J(n:Nat)(r2:List UInt8->Int->Option (Bool×Unit))(bC:List UInt8)(cy:Int)(v3:UInt8):Option (Bool×Unit):=
  (bif cy==0 then some (Bool.false,())else (bif (↑v3.toNat:Int) != 95 then (bif decide ((↑v3.toNat:Int) < 48)then some (Bool.false,())else (bif decide ((↑v3.toNat:Int) > 57)then some (Bool.false,())else r2 bC (i64.wrap (cy+1))))else r2 bC (i64.wrap (cy+1))))
def yEu(n:Nat)(r2:List UInt8->Int->Option (Bool×Unit))(bC:List UInt8)(cy:Int):Option (Bool×Unit):=
  (bif decide (cy < (↑bC.length:Int))then ((idx bC cy).bind λ v3=>(bif decide ((↑v3.toNat:Int) >= 97)then (bif decide ((↑v3.toNat:Int)<=122)then r2 bC (i64.wrap (cy+1))else (bif decide ((↑v3.toNat:Int) >= 65)then (bif decide ((↑v3.toNat:Int)<=90)then r2 bC (i64.wrap (cy+1))else (y4J n r2 bC cy v3))else (y4J n r2 bC cy v3)))else (bif decide ((↑v3.toNat:Int) >= 65)then (bif decide ((↑v3.toNat:Int)<=90)then r2 bC (i64.wrap (cy+1))else (y4J n r2 bC cy v3))else (y4J n r2 bC cy v3))))else some (Bool.true,()))
def y7g(n k:Nat)(bC:List UInt8)(cy:Int):Option (Bool×Unit):=
  iter (λ r y=>yEu n (λ bC cy=>r ((bC,(cy,())),((),()))) y.1.1 y.1.2.1) k ((bC,(cy,())),((),()))
def yRd(n:Nat)(s:List UInt8):Option (Bool×Unit):=
  (bif (↑s.length:Int)==0 then some (Bool.false,())else (bif decide ((↑s.length:Int) > 24)then some (Bool.false,())else (y7g n n (s) ((0:Int)))))
def y6S(bC:List UInt8)(cy:Int)(v3:UInt8):Option ((Bool×Unit)⊕Unit):=
  (bif cy==0 then (some (Sum.inl ((Bool.false,()))))else (bif (↑v3.toNat:Int) != 95 then (bif decide ((↑v3.toNat:Int) < 48)then (some (Sum.inl ((Bool.false,()))))else (bif decide ((↑v3.toNat:Int) > 57)then (some (Sum.inl ((Bool.false,()))))else (some (Sum.inr ()))))else (some (Sum.inr ()))))
theorem y0e(n:Nat)(hn:big<=n)(r2:List UInt8->Int->Option (Bool×Unit))(bC:List UInt8)(cy:Int)(v3:UInt8):LeF (elim some λ (ac:Unit)=>r2 bC (i64.wrap (cy+1))) (y6S bC cy v3) (y4J n r2 bC cy v3):=
  (y7 (y9 rfl) (y7 (y7 (y9 rfl) (y7 (y9 rfl) (y9 rfl))) (y9 rfl)))
def yCq(bC:List UInt8)(cy:Int)(v3:UInt8):Option ((Bool×Unit)⊕Unit):=
  (bif decide ((↑v3.toNat:Int) >= 97)then (bif decide ((↑v3.toNat:Int)<=122)then (some (Sum.inr ()))else (bif decide ((↑v3.toNat:Int) >= 65)then (bif decide ((↑v3.toNat:Int)<=90)then (some (Sum.inr ()))else (y6S bC cy v3))else (y6S bC cy v3)))else (bif decide ((↑v3.toNat:Int) >= 65)then (bif decide ((↑v3.toNat:Int)<=90)then (some (Sum.inr ()))else (y6S bC cy v3))else (y6S bC cy v3)))
def yJz(bC:List UInt8):Option (Bool×Unit):=
  (some ((Bool.true,())))
theorem yDr(n:Nat)(hn:big<=n)(bC:List UInt8)(hx:List.length (bC) < yB):LeF some (yR (λ af cD ac=>yCq bC af cD) (λ ac=>yJz bC) 0 (bC) ()) (y7g n n bC 0):=by
  refine yo (f:=some) (W:=λ bA af ac=>y7g n bA bC af) (λ bA af ac=>?_) hx () n (by unfold big at hn;unfold yB at hx;omega)
  show LeF _ _ (yEu n (y7g n bA) bC af)
  exact y7 (yF λ v3=>(y7 (y7 (y9 rfl) (y7 (y7 (y9 rfl) (by apply y0e n hn)) (by apply y0e n hn))) (y7 (y7 (y9 rfl) (by apply y0e n hn)) (by apply y0e n hn)))) (y1I (y9 rfl))
def yIQ(s:List UInt8):Option (Bool×Unit):=
  (bif (↑s.length:Int)==0 then (some ((Bool.false,())))else (bif decide ((↑s.length:Int) > 24)then (some ((Bool.false,())))else (bif decide (List.length (s) < yB)then yR (λ af cD ac=>yCq (s) af cD) (λ ac=>yJz (s)) 0 (s) ()else none)))
abbrev z0O_e:Entry:={ f:=55,args:=.pair t9 .unit,rS:=.pair t4 .unit,m:=λ x=>yIQ x.1 }
theorem yPe:FnOK Tryz.prog z0O_e:=fB Tryz.f55 (λ n x=>yRd n x.1) [[0,3]] eNil λ n hn x=>(y7 (y9 rfl) (y7 (y9 rfl) (yl λ hx=>by apply yDr n hn;exact hx)))
def y67(n:Nat)(rp:Q1):Option (List UInt8×Unit):=
  (bif rp.2.2.2.2.2.2.1==[(99:UInt8),108,111,115,101]then (bif decide (rp.2.2.2.2.1<=rp.2.1.2.1)then (bif decide (rp.2.2.2.2.1<=rp.2.2.2.2.2.1)then some ([(111:UInt8),112,101,110],())else some ([(119:UInt8),97,105,116],()))else some ([(119:UInt8),97,105,116],()))else some ([(119:UInt8),97,105,116],()))
def yNf(n:Nat)(rp:Q1):Option (List UInt8×Unit):=
  (bif rp.2.2.2.2.2.2.1==[(111:UInt8),112,101,110]then (bif decide (rp.2.1.1 > 0)then (bif decide (rp.2.2.2.1 >= rp.2.1.1)then some ([(99:UInt8),108,111,115,101],())else (y67 n rp))else (y67 n rp))else (y67 n rp))
def y0J(rp:Q1):(List UInt8×Unit):=
  (bif rp.2.2.2.2.2.2.1==[(99:UInt8),108,111,115,101]then (bif decide (rp.2.2.2.2.1<=rp.2.1.2.1)then (bif decide (rp.2.2.2.2.1<=rp.2.2.2.2.2.1)then ([(111:UInt8),112,101,110],())else ([(119:UInt8),97,105,116],()))else ([(119:UInt8),97,105,116],()))else ([(119:UInt8),97,105,116],()))
def z0P(rp:Q1):(List UInt8×Unit):=
  (bif rp.2.2.2.2.2.2.1==[(111:UInt8),112,101,110]then (bif decide (rp.2.1.1 > 0)then (bif decide (rp.2.2.2.1 >= rp.2.1.1)then ([(99:UInt8),108,111,115,101],())else (y0J rp))else (y0J rp))else (y0J rp))
abbrev yRp (rp:Q1):Option (List UInt8×Unit):=some (z0P rp)
abbrev z0P_e:Entry:={ f:=56,args:=.pair t41 .unit,rS:=.pair t9 .unit,m:=λ x=>yRp x.1 }
theorem yPB:FnOK Tryz.prog z0P_e:=fF (hm:=by intro x;show some (z0P x.1)=yNf 0 x.1;unfold yNf z0P y67 y0J;first|rfl|(simp only[yH];done)|(simp only[yH];rfl)) 0 Tryz.f56 (λ n x=>yNf n x.1) [] eNil
def yEk(n:Nat)(r0:List Int->Int->Int->Option (Int×Unit))(cE:List Int)(cC bg:Int):Option (Int×Unit):=
  (bif decide (bg < cC)then ((idx cE bg).bind λ v1=>(bif v1 != 0 then some (v1,())else r0 cE cC (i64.wrap (bg+1))))else some ((0:Int),()))
def y7M(n k:Nat)(cE:List Int)(cC bg:Int):Option (Int×Unit):=
  iter (λ r y=>yEk n (λ cE cC bg=>r ((cE,(cC,(bg,()))),((),()))) y.1.1 y.1.2.1 y.1.2.2.1) k ((cE,(cC,(bg,()))),((),()))
def yRs(n:Nat)(l:List Int):Option (Int×Unit):=
  (y7M n n (l) ((↑l.length:Int)) ((0:Int)))
def yJ8(cE:List Int)(bg v1:Int):Option ((Int×Unit)⊕Unit):=
  (bif v1 != 0 then (some (Sum.inl ((v1,()))))else (some (Sum.inr ())))
def yI1(cE:List Int):Option (Int×Unit):=
  (some (((0:Int),())))
theorem yEE(n:Nat)(hn:big<=n)(cE:List Int)(hx:List.length (cE) < yB):LeF some (yR (λ af cD ac=>yJ8 cE af cD) (λ ac=>yI1 cE) 0 (cE) ()) (y7M n n cE (List.length (cE):Int) 0):=by
  refine yo (f:=some) (W:=λ bA af ac=>y7M n bA cE (List.length (cE):Int) af) (λ bA af ac=>?_) hx () n (by unfold big at hn;unfold yB at hx;omega)
  show LeF _ _ (yEk n (y7M n bA) cE (List.length (cE):Int) af)
  exact y7 (yF λ v1=>(y7 (y9 rfl) (y9 rfl))) (y1I (y9 rfl))
def y15(l:List Int):Option (Int×Unit):=
  (bif decide (List.length (l) < yB)then yR (λ af cD ac=>yJ8 (l) af cD) (λ ac=>yI1 (l)) 0 (l) ()else none)
abbrev z0K_e:Entry:={ f:=63,args:=.pair t185 .unit,rS:=.pair t29 .unit,m:=λ x=>y15 x.1 }
theorem y73:FnOK Tryz.prog z0K_e:=fB Tryz.f63 (λ n x=>yRs n x.1) [[5,6,7]] eNil λ n hn x=>(yl λ hx=>by apply yEE n hn;exact hx)
def yNd(n:Nat)(holds:Bool)(e:Int):Option (Int×Unit):=
  (bif holds then some (e,())else some ((0:Int),()))
def z0a(holds:Bool)(e:Int):(Int×Unit):=
  (bif holds then (e,())else ((0:Int),()))
abbrev yRJ (holds:Bool)(e:Int):Option (Int×Unit):=some (z0a holds e)
abbrev z0a_e:Entry:={ f:=65,args:=.pair t4 (.pair t29 .unit),rS:=.pair t29 .unit,m:=λ x=>yRJ x.1 x.2.1 }
theorem y4I:FnOK Tryz.prog z0a_e:=fF (hm:=by intro x;show some (z0a x.1 x.2.1)=yNd 0 x.1 x.2.1;unfold yNd z0a;first|rfl|(simp only[yH];done)|(simp only[yH];rfl)) 0 Tryz.f65 (λ n x=>yNd n x.1 x.2.1) [] eNil
def yOr(n:Nat)(e:Q2):Option (Bool×Unit):=
  (bif e.2.1==[(100:UInt8),101,99,105,100,101]then some (Bool.true,())else some (e.2.1==[(111:UInt8),118,101,114,114,105,100,101],()))
def z02(e:Q2):(Bool×Unit):=
  (bif e.2.1==[(100:UInt8),101,99,105,100,101]then (Bool.true,())else (e.2.1==[(111:UInt8),118,101,114,114,105,100,101],()))
abbrev yRw (e:Q2):Option (Bool×Unit):=some (z02 e)
abbrev z02_e:Entry:={ f:=66,args:=.pair t56 .unit,rS:=.pair t4 .unit,m:=λ x=>yRw x.1 }
theorem yMP:FnOK Tryz.prog z02_e:=fF (hm:=by intro x;show some (z02 x.1)=yOr 0 x.1;unfold yOr z02;first|rfl|(simp only[yH];done)|(simp only[yH];rfl)) 0 Tryz.f66 (λ n x=>yOr n x.1) [] eNil
def y7k(n:Nat)(rp:Q1)(j0:Bool):Option (List UInt8×Unit):=
  (bif j0 then some ([(99:UInt8),108,111,115,101],())else (bif rp.2.2.2.2.2.2.1==[(99:UInt8),108,111,115,101]then (bif decide (rp.2.2.2.2.1<=rp.2.1.2.1)then (bif decide (rp.2.2.2.2.1<=rp.2.2.2.2.2.1)then some ([(111:UInt8),112,101,110],())else some ([(119:UInt8),97,105,116],()))else some ([(119:UInt8),97,105,116],()))else some ([(119:UInt8),97,105,116],())))
def zM_m(n:Nat)(rp:Q1):Option (List UInt8×Unit):=
  (bif rp.2.2.2.2.2.2.1==[(111:UInt8),112,101,110]then (bif decide (rp.2.1.1 > 0)then (y7k n rp (decide (rp.2.2.2.1 >= rp.2.1.1)))else (y7k n rp (Bool.false)))else (y7k n rp (Bool.false)))
def ye(rp:Q1)(j0:Bool):(List UInt8×Unit):=
  (bif j0 then ([(99:UInt8),108,111,115,101],())else (bif rp.2.2.2.2.2.2.1==[(99:UInt8),108,111,115,101]then (bif decide (rp.2.2.2.2.1<=rp.2.1.2.1)then (bif decide (rp.2.2.2.2.1<=rp.2.2.2.2.2.1)then ([(111:UInt8),112,101,110],())else ([(119:UInt8),97,105,116],()))else ([(119:UInt8),97,105,116],()))else ([(119:UInt8),97,105,116],())))
def zM(rp:Q1):(List UInt8×Unit):=
  (bif rp.2.2.2.2.2.2.1==[(111:UInt8),112,101,110]then (bif decide (rp.2.1.1 > 0)then (ye rp (decide (rp.2.2.2.1 >= rp.2.1.1)))else (ye rp (Bool.false)))else (ye rp (Bool.false)))
abbrev zM_M (rp:Q1):Option (List UInt8×Unit):=some (zM rp)
abbrev zM_e:Entry:={ f:=67,args:=.pair t60 .unit,rS:=.pair t9 .unit,m:=λ x=>zM_M x.1 }
theorem yJH:FnOK Tryz.prog zM_e:=fF (hm:=by intro x;show some (zM x.1)=zM_m 0 x.1;unfold zM_m zM y7k ye;first|rfl|(simp only[yH];done)|(simp only[yH];rfl)) 0 Tryz.f67 (λ n x=>zM_m n x.1) [] eNil
def yO0(n:Nat)(np low high:Int):Option (Bool×Unit):=
  (bif decide (np < low)then some (Bool.true,())else some (decide (np > high),()))
def z0G(np low high:Int):(Bool×Unit):=
  (bif decide (np < low)then (Bool.true,())else (decide (np > high),()))
abbrev yRY (np low high:Int):Option (Bool×Unit):=some (z0G np low high)
abbrev z0G_e:Entry:={ f:=72,args:=.pair t3 (.pair t3 (.pair t3 .unit)),rS:=.pair t4 .unit,m:=λ x=>yRY x.1 x.2.1 x.2.2.1 }
theorem yMW:FnOK Tryz.prog z0G_e:=fF (hm:=by intro x;show some (z0G x.1 x.2.1 x.2.2.1)=yO0 0 x.1 x.2.1 x.2.2.1;unfold yO0 z0G;first|rfl|(simp only[yH];done)|(simp only[yH];rfl)) 0 Tryz.f72 (λ n x=>yO0 n x.1 x.2.1 x.2.2.1) [] eNil
abbrev yOI:Ty:=.unit
abbrev yPi:Ty:=.pair t41 .unit
def yPy:G:={ T:=T,E:=[],mU:=[],fz:=[] }
def yR0:List (List Nat):=[]
def yMX(n:Nat):Ann:={ keep:=yR0,fuel:=n,inl:=[],deep:=0 }
def yMG(n:Nat)  : Option ((Q1)×Unit):=
  some (((0:Int),((0:Int),(0:Int),()),(0:Int),(0:Int),(0:Int),(0:Int),[(111:UInt8),112,101,110],(0:Int),[],[],[],()),())
theorem yQW(n:Nat)(x:yOI.den):runF yPy (yMX n) Tryz.f73 yOI yPi x=yMG n:=by kernel_rfl
def z0d  : ((Q1)×Unit):=
  (((0:Int),((0:Int),(0:Int),()),(0:Int),(0:Int),(0:Int),(0:Int),[(111:UInt8),112,101,110],(0:Int),[],[],[],()),())
abbrev yOz  : Option ((Q1)×Unit):=some (z0d)
theorem yO2(y:(Q1)×Unit)(h:yOz=some y):∃ n,yMG n=some y:=
  ⟨0,by rw[<- h];show yMG 0=some (z0d);unfold yMG z0d;first|rfl|(simp only[yH];done)|(simp only[yH];rfl)⟩
def z0d_e:Entry:={ f:=73,args:=yOI,rS:=yPi,m:=λ x=>yOz }
theorem yPw:FnOK Tryz.prog z0d_e:=yEQ (g:=yPy) (fn:=Tryz.f73) y1i y7D eNil (by kernel_rfl) (by kernel_rfl) (by kernel_rfl) (λ x y h=>let ⟨n,hn⟩:=yO2 y h;⟨yMX n,iNil,(yQW n x).trans hn⟩)
def yOL(n:Nat)(rp:Q1)(decision:List UInt8):Option ((Q1)×Unit):=
  (bif decision==[(99:UInt8),108,111,115,101]then (bif !rp.2.2.2.2.2.2.1==[(99:UInt8),108,111,115,101]then (bif !decision==[(119:UInt8),97,105,116]then some ((rp.1,rp.2.1,rp.2.2.1,rp.2.2.2.1,rp.2.2.2.2.1,rp.2.2.2.2.2.1,decision,i64.wrap (rp.2.2.2.2.2.2.2.1+1),rp.2.2.2.2.2.2.2.2),())else some ((rp.1,rp.2.1,rp.2.2.1,rp.2.2.2.1,rp.2.2.2.2.1,rp.2.2.2.2.2.1,rp.2.2.2.2.2.2.1,i64.wrap (rp.2.2.2.2.2.2.2.1+1),rp.2.2.2.2.2.2.2.2),()))else (bif !decision==[(119:UInt8),97,105,116]then some ((rp.1,rp.2.1,rp.2.2.1,rp.2.2.2.1,rp.2.2.2.2.1,rp.2.2.2.2.2.1,decision,rp.2.2.2.2.2.2.2),())else some (rp,())))else (bif !decision==[(119:UInt8),97,105,116]then some ((rp.1,rp.2.1,rp.2.2.1,rp.2.2.2.1,rp.2.2.2.2.1,rp.2.2.2.2.2.1,decision,rp.2.2.2.2.2.2.2),())else some (rp,())))
def z0H(rp:Q1)(decision:List UInt8):((Q1)×Unit):=
  (bif decision==[(99:UInt8),108,111,115,101]then (bif !rp.2.2.2.2.2.2.1==[(99:UInt8),108,111,115,101]then (bif !decision==[(119:UInt8),97,105,116]then ((rp.1,rp.2.1,rp.2.2.1,rp.2.2.2.1,rp.2.2.2.2.1,rp.2.2.2.2.2.1,decision,i64.wrap (rp.2.2.2.2.2.2.2.1+1),rp.2.2.2.2.2.2.2.2),())else ((rp.1,rp.2.1,rp.2.2.1,rp.2.2.2.1,rp.2.2.2.2.1,rp.2.2.2.2.2.1,rp.2.2.2.2.2.2.1,i64.wrap (rp.2.2.2.2.2.2.2.1+1),rp.2.2.2.2.2.2.2.2),()))else (bif !decision==[(119:UInt8),97,105,116]then ((rp.1,rp.2.1,rp.2.2.1,rp.2.2.2.1,rp.2.2.2.2.1,rp.2.2.2.2.2.1,decision,rp.2.2.2.2.2.2.2),())else (rp,())))else (bif !decision==[(119:UInt8),97,105,116]then ((rp.1,rp.2.1,rp.2.2.1,rp.2.2.2.1,rp.2.2.2.2.1,rp.2.2.2.2.2.1,decision,rp.2.2.2.2.2.2.2),())else (rp,())))
abbrev yRX (rp:Q1)(decision:List UInt8):Option ((Q1)×Unit):=some (z0H rp decision)
abbrev z0H_e:Entry:={ f:=75,args:=.pair t41 (.pair t9 .unit),rS:=.pair t41 .unit,m:=λ x=>yRX x.1 x.2.1 }
theorem yQS:FnOK Tryz.prog z0H_e:=fF (mu:=[2]) (hm:=by intro x;show some (z0H x.1 x.2.1)=yOL 0 x.1 x.2.1;unfold yOL z0H;first|rfl|(simp only[yH];done)|(simp only[yH];rfl)) 0 Tryz.f75 (λ n x=>yOL n x.1 x.2.1) [] eNil
def yBH(n:Nat)(kind:List UInt8)(j1:Bool):Option ((Int×Int×Bool×Unit)×Unit):=
  (bif j1 then some (((0:Int),(3:Int),Bool.true,()),())else (bif kind==[(108:UInt8),101,118,101,108]then some (((1:Int),(2:Int),Bool.true,()),())else (bif kind==[(99:UInt8),111,109,109,97,110,100]then some (((2:Int),(2:Int),Bool.true,()),())else (bif kind==[(108:UInt8),111,99,107]then (bif kind==[(108:UInt8),111,99,107]then some (((2:Int),(1:Int),Bool.true,()),())else (bif kind==[(117:UInt8),110,100,111]then some (((0:Int),(0:Int),Bool.true,()),())else some (((0:Int),(0:Int),Bool.false,()),())))else (bif kind==[(117:UInt8),110,108,111,99,107]then some (((2:Int),(1:Int),Bool.true,()),())else (bif kind==[(117:UInt8),110,100,111]then some (((0:Int),(0:Int),Bool.true,()),())else some (((0:Int),(0:Int),Bool.false,()),())))))))
def y3Z(n:Nat)(kind:List UInt8)(j0:Bool):Option ((Int×Int×Bool×Unit)×Unit):=
  (bif j0 then some (((1:Int),(1:Int),Bool.true,()),())else (bif kind==[(114:UInt8),117,108,101]then (yBH n kind (kind==[(114:UInt8),117,108,101]))else (yBH n kind (kind==[(102:UInt8),111,114,101,99,97,115,116]))))
def yNi(n:Nat)(kind:List UInt8):Option ((Int×Int×Bool×Unit)×Unit):=
  (bif kind==[(103:UInt8),97,116,101]then (y3Z n kind (kind==[(103:UInt8),97,116,101]))else (bif kind==[(100:UInt8),101,99,105,100,101]then (y3Z n kind (kind==[(100:UInt8),101,99,105,100,101]))else (bif kind==[(111:UInt8),118,101,114,114,105,100,101]then (y3Z n kind (kind==[(111:UInt8),118,101,114,114,105,100,101]))else (bif kind==[(101:UInt8),110,116,101,114]then (y3Z n kind (kind==[(101:UInt8),110,116,101,114]))else (bif kind==[(108:UInt8),101,97,118,101]then (y3Z n kind (kind==[(108:UInt8),101,97,118,101]))else (y3Z n kind (kind==[(105:UInt8),115,115,117,101])))))))
def y2C(kind:List UInt8)(j1:Bool):((Int×Int×Bool×Unit)×Unit):=
  (bif j1 then (((0:Int),(3:Int),Bool.true,()),())else (bif kind==[(108:UInt8),101,118,101,108]then (((1:Int),(2:Int),Bool.true,()),())else (bif kind==[(99:UInt8),111,109,109,97,110,100]then (((2:Int),(2:Int),Bool.true,()),())else (bif kind==[(108:UInt8),111,99,107]then (bif kind==[(108:UInt8),111,99,107]then (((2:Int),(1:Int),Bool.true,()),())else (bif kind==[(117:UInt8),110,100,111]then (((0:Int),(0:Int),Bool.true,()),())else (((0:Int),(0:Int),Bool.false,()),())))else (bif kind==[(117:UInt8),110,108,111,99,107]then (((2:Int),(1:Int),Bool.true,()),())else (bif kind==[(117:UInt8),110,100,111]then (((0:Int),(0:Int),Bool.true,()),())else (((0:Int),(0:Int),Bool.false,()),())))))))
def y0M(kind:List UInt8)(j0:Bool):((Int×Int×Bool×Unit)×Unit):=
  (bif j0 then (((1:Int),(1:Int),Bool.true,()),())else (bif kind==[(114:UInt8),117,108,101]then (y2C kind (kind==[(114:UInt8),117,108,101]))else (y2C kind (kind==[(102:UInt8),111,114,101,99,97,115,116]))))
def z0i(kind:List UInt8):((Int×Int×Bool×Unit)×Unit):=
  (bif kind==[(103:UInt8),97,116,101]then (y0M kind (kind==[(103:UInt8),97,116,101]))else (bif kind==[(100:UInt8),101,99,105,100,101]then (y0M kind (kind==[(100:UInt8),101,99,105,100,101]))else (bif kind==[(111:UInt8),118,101,114,114,105,100,101]then (y0M kind (kind==[(111:UInt8),118,101,114,114,105,100,101]))else (bif kind==[(101:UInt8),110,116,101,114]then (y0M kind (kind==[(101:UInt8),110,116,101,114]))else (bif kind==[(108:UInt8),101,97,118,101]then (y0M kind (kind==[(108:UInt8),101,97,118,101]))else (y0M kind (kind==[(105:UInt8),115,115,117,101])))))))
abbrev yRc (kind:List UInt8):Option ((Int×Int×Bool×Unit)×Unit):=some (z0i kind)
abbrev z0i_e:Entry:={ f:=83,args:=.pair t9 .unit,rS:=.pair t157 .unit,m:=λ x=>yRc x.1 }
theorem yQO:FnOK Tryz.prog z0i_e:=fF (hm:=by intro x;show some (z0i x.1)=yNi 0 x.1;unfold yNi z0i y3Z y0M yBH y2C;first|rfl|(simp only[yH];done)|(simp only[yH];rfl)) 0 Tryz.f83 (λ n x=>yNi n x.1) [] eNil
def yOP(n:Nat)(r0:((Q2)×Unit->Option ((Q2)×Unit))->List (Q2)->Int->Int->List (Q2)->Option (List (Q2)×Unit))(b6:(Q2)×Unit->Option ((Q2)×Unit))(a8:List (Q2))(bN aD:Int)(ah:List (Q2)):Option (List (Q2)×Unit):=
  (bif decide (aD < bN)then ((idx a8 aD).bind λ v1=>((b6 (v1,())).bind λ v2=>(bif decide (ah.length+(1:Nat)<=memMax)then r0 b6 a8 bN (i64.wrap (aD+1)) (ah++[v2.1])else none)))else some (ah,()))
def yNt(n k:Nat)(b6:(Q2)×Unit->Option ((Q2)×Unit))(a8:List (Q2))(bN aD:Int)(ah:List (Q2)):Option (List (Q2)×Unit):=
  iter (λ r y=>yOP n (λ b6 a8 bN aD ah=>r ((b6,(a8,(bN,(aD,())))),((ah,()),()))) y.1.1 y.1.2.1 y.1.2.2.1 y.1.2.2.2.1 y.2.1.1) k ((b6,(a8,(bN,(aD,())))),((ah,()),()))
def z8_m(n:Nat)(l:List (Q2))(f:(Q2)×Unit->Option ((Q2)×Unit)):Option (List (Q2)×Unit):=
  (yNt n n (f) (l) ((↑l.length:Int)) ((0:Int)) ([]))
def z8_M(l:List (Q2))(f:(Q2)×Unit->Option ((Q2)×Unit)):Option (List (Q2)×Unit):=z8_m 1000 l f
abbrev z8_e:Entry:={ f:=96,args:=.pair t22 (.pair t182 .unit),rS:=.pair t22 .unit,m:=λ x=>z8_M x.1 x.2.1 }
theorem yRI:FnOK Tryz.prog z8_e:=fF (mu:=[5]) 1000 Tryz.f96 (λ n x=>z8_m n x.1 x.2.1) [[1,5,8,9,10]] eNil
def yNF(n:Nat)(e:Q2):Option ((Q2)×Unit):=
  ((bif decide (e.2.2.1.length<=memMax)then some (e.2.2.1,())else Option.none).bind λ v0=>((bif decide (e.2.2.2.1.length<=memMax)then some (e.2.2.2.1,())else Option.none).bind λ v1=>some ((e.1,e.2.1,v0.1,v1.1,e.2.2.2.2.1,()),())))
def yGD(e:Q2):Option ((Q2)×Unit):=yNF 0 e
abbrev z0M_e:Entry:={ f:=97,args:=.pair t56 .unit,rS:=.pair t56 .unit,m:=λ x=>yGD x.1 }
theorem yMr:FnOK Tryz.prog z0M_e:=fF (mu:=[1]) 0 Tryz.f97 (λ n x=>yNF n x.1) [] (yE yOT (yE yR4 eNil))
def yNn(n:Nat)(r0:((Q2)×Unit->Option (List UInt8×Unit))->List (Q2)->Int->Int->List (List UInt8)->Option (List (List UInt8)×Unit))(b6:(Q2)×Unit->Option (List UInt8×Unit))(a8:List (Q2))(bN aD:Int)(ah:List (List UInt8)):Option (List (List UInt8)×Unit):=
  (bif decide (aD < bN)then ((idx a8 aD).bind λ v1=>((b6 (v1,())).bind λ v2=>(bif decide (ah.length+(1:Nat)<=memMax)then r0 b6 a8 bN (i64.wrap (aD+1)) (ah++[v2.1])else none)))else some (ah,()))
def yOf(n k:Nat)(b6:(Q2)×Unit->Option (List UInt8×Unit))(a8:List (Q2))(bN aD:Int)(ah:List (List UInt8)):Option (List (List UInt8)×Unit):=
  iter (λ r y=>yNn n (λ b6 a8 bN aD ah=>r ((b6,(a8,(bN,(aD,())))),((ah,()),()))) y.1.1 y.1.2.1 y.1.2.2.1 y.1.2.2.2.1 y.2.1.1) k ((b6,(a8,(bN,(aD,())))),((ah,()),()))
def zB_m(n:Nat)(l:List (Q2))(f:(Q2)×Unit->Option (List UInt8×Unit)):Option (List (List UInt8)×Unit):=
  (yOf n n (f) (l) ((↑l.length:Int)) ((0:Int)) ([]))
def zB_M(l:List (Q2))(f:(Q2)×Unit->Option (List UInt8×Unit)):Option (List (List UInt8)×Unit):=zB_m 1000 l f
abbrev zB_e:Entry:={ f:=99,args:=.pair t22 (.pair t106 .unit),rS:=.pair t38 .unit,m:=λ x=>zB_M x.1 x.2.1 }
theorem yRK:FnOK Tryz.prog zB_e:=fF (mu:=[5]) 1000 Tryz.f99 (λ n x=>zB_m n x.1 x.2.1) [[1,5,8,9,10]] eNil
def yJj(n:Nat)(r0:(List UInt8×Unit->Option (Int×Unit))->List (List UInt8)->Int->Int->List Int->Option (List Int×Unit))(b6:List UInt8×Unit->Option (Int×Unit))(a8:List (List UInt8))(bN aD:Int)(ah:List Int):Option (List Int×Unit):=
  (bif decide (aD < bN)then ((idx a8 aD).bind λ v1=>((b6 (v1,())).bind λ v2=>(bif decide (ah.length+(1:Nat)<=memMax)then r0 b6 a8 bN (i64.wrap (aD+1)) (ah++[v2.1])else none)))else some (ah,()))
def yAK(n k:Nat)(b6:List UInt8×Unit->Option (Int×Unit))(a8:List (List UInt8))(bN aD:Int)(ah:List Int):Option (List Int×Unit):=
  iter (λ r y=>yJj n (λ b6 a8 bN aD ah=>r ((b6,(a8,(bN,(aD,())))),((ah,()),()))) y.1.1 y.1.2.1 y.1.2.2.1 y.1.2.2.2.1 y.2.1.1) k ((b6,(a8,(bN,(aD,())))),((ah,()),()))
def zC_m(n:Nat)(l:List (List UInt8))(f:List UInt8×Unit->Option (Int×Unit)):Option (List Int×Unit):=
  (yAK n n (f) (l) ((↑l.length:Int)) ((0:Int)) ([]))
def yNq(b6:List UInt8×Unit->Option (Int×Unit))(a8:List (List UInt8))(aD:Int)(v1:List UInt8)(ah:List Int):Option ((List Int×Unit)⊕(List Int)):=
  ((b6 (v1,())).bind λ v2=>(bif decide (ah.length+(1:Nat)<=memMax)then (some (Sum.inr (ah++[v2.1])))else none))
def yQP(b6:List UInt8×Unit->Option (Int×Unit))(a8:List (List UInt8))(ah:List Int):Option (List Int×Unit):=
  (some ((ah,())))
theorem yGs(n:Nat)(hn:big<=n)(b6:List UInt8×Unit->Option (Int×Unit))(a8:List (List UInt8))(ah:List Int)(hx:List.length (a8) < yB):LeF some (yR (λ af cD ac=>yNq b6 a8 af cD ac) (λ ac=>yQP b6 a8 ac) 0 (a8) ah) (yAK n n b6 a8 (List.length (a8):Int) 0 ah):=by
  refine yo (f:=some) (W:=λ bA af ac=>yAK n bA b6 a8 (List.length (a8):Int) af ac) (λ bA af ac=>?_) hx ah n (by unfold big at hn;unfold yB at hx;omega)
  show LeF _ _ (yJj n (yAK n bA) b6 a8 (List.length (a8):Int) af ac)
  exact y7 (yF λ v1=>(yF λ v2=>(y7 (y9 rfl) y03))) (y1I (y9 rfl))
def zC_M(l:List (List UInt8))(f:List UInt8×Unit->Option (Int×Unit)):Option (List Int×Unit):=
  (bif decide (List.length (l) < yB)then yR (λ af cD ac=>yNq (f) (l) af cD ac) (λ ac=>yQP (f) (l) ac) 0 (l) ([])else none)
abbrev zC_e:Entry:={ f:=100,args:=.pair t38 (.pair t187 .unit),rS:=.pair t185 .unit,m:=λ x=>zC_M x.1 x.2.1 }
theorem yRG:FnOK Tryz.prog zC_e:=fB (mu:=[5]) Tryz.f100 (λ n x=>zC_m n x.1 x.2.1) [[1,5,8,9,10]] eNil λ n hn x=>(yl λ hx=>by apply yGs n hn;exact hx)
def y5a(n:Nat)(r0:List UInt8->List UInt8->Int->Option (Bool×Unit))(aN str0__0:List UInt8)(pos0__0:Int)(j2 j7:Bool):Option (Bool×Unit):=
  (bif !j2 then (bif pos0__0==0 then some (Bool.false,())else (bif !j7 then some (Bool.false,())else r0 aN str0__0 (yf str0__0 pos0__0).2))else r0 aN str0__0 (yf str0__0 pos0__0).2)
def y36(n:Nat)(r0:List UInt8->List UInt8->Int->Option (Bool×Unit))(aN str0__0:List UInt8)(pos0__0:Int)(j2:Bool):Option (Bool×Unit):=
  (bif decide ((yf str0__0 pos0__0).1 >= 48)then (bif decide ((yf str0__0 pos0__0).1<=57)then (y5a n r0 aN str0__0 pos0__0 j2 (Bool.true))else (y5a n r0 aN str0__0 pos0__0 j2 ((yf str0__0 pos0__0).1==95)))else (y5a n r0 aN str0__0 pos0__0 j2 ((yf str0__0 pos0__0).1==95)))
def yFn(n:Nat)(r0:List UInt8->List UInt8->Int->Option (Bool×Unit))(aN str0__0:List UInt8)(pos0__0:Int):Option (Bool×Unit):=
  (bif decide (pos0__0 < (↑str0__0.length:Int))then (bif decide ((yf str0__0 pos0__0).1 >= 65)then (bif decide ((yf str0__0 pos0__0).1<=90)then (y36 n r0 aN str0__0 pos0__0 (Bool.true))else (bif decide ((yf str0__0 pos0__0).1 >= 97)then (y36 n r0 aN str0__0 pos0__0 (decide ((yf str0__0 pos0__0).1<=122)))else (y36 n r0 aN str0__0 pos0__0 (Bool.false))))else (bif decide ((yf str0__0 pos0__0).1 >= 97)then (y36 n r0 aN str0__0 pos0__0 (decide ((yf str0__0 pos0__0).1<=122)))else (y36 n r0 aN str0__0 pos0__0 (Bool.false))))else (bif !aN==[]then some (decide ((↑aN.length:Int)<=24),())else some (Bool.false,())))
def y7i(n k:Nat)(aN str0__0:List UInt8)(pos0__0:Int):Option (Bool×Unit):=
  iter (λ r y=>yFn n (λ aN str0__0 pos0__0=>r ((aN,()),(((str0__0,pos0__0),()),()))) y.1.1 y.2.1.1.1 y.2.1.1.2) k ((aN,()),(((str0__0,pos0__0),()),()))
def yS4(n:Nat)(s:List UInt8):Option (Bool×Unit):=
  (y7i n n (s) (s) ((0:Int)))
def y7y(aN str0__0:List UInt8)(pos0__0:Int)(j2 j7:Bool):Option ((Bool×Unit)⊕Unit):=
  (bif !j2 then (bif pos0__0==0 then (some (Sum.inl ((Bool.false,()))))else (bif !j7 then (some (Sum.inl ((Bool.false,()))))else (some (Sum.inr ()))))else (some (Sum.inr ())))
theorem y1J(n:Nat)(hn:big<=n)(r0:List UInt8->List UInt8->Int->Option (Bool×Unit))(aN str0__0:List UInt8)(pos0__0:Int)(j2 j7:Bool):LeF (elim some λ (ac:Unit)=>r0 aN str0__0 (yf (str0__0) pos0__0).2) (y7y aN str0__0 pos0__0 j2 j7) (y5a n r0 aN str0__0 pos0__0 j2 j7):=
  (y7 (y7 (y9 rfl) (y7 (y9 rfl) (y9 rfl))) (y9 rfl))
def y5I(aN str0__0:List UInt8)(pos0__0:Int)(j2:Bool):Option ((Bool×Unit)⊕Unit):=
  (bif decide ((yf str0__0 pos0__0).1 >= 48)then (bif decide ((yf str0__0 pos0__0).1<=57)then (y7y aN str0__0 pos0__0 j2 (Bool.true))else (y7y aN str0__0 pos0__0 j2 ((yf str0__0 pos0__0).1==95)))else (y7y aN str0__0 pos0__0 j2 ((yf str0__0 pos0__0).1==95)))
theorem y0F(n:Nat)(hn:big<=n)(r0:List UInt8->List UInt8->Int->Option (Bool×Unit))(aN str0__0:List UInt8)(pos0__0:Int)(j2:Bool):LeF (elim some λ (ac:Unit)=>r0 aN str0__0 (yf (str0__0) pos0__0).2) (y5I aN str0__0 pos0__0 j2) (y36 n r0 aN str0__0 pos0__0 j2):=
  (y7 (y7 (by apply y1J n hn) (by apply y1J n hn)) (by apply y1J n hn))
def yD6(aN str0__0:List UInt8)(pos0__0:Int):Option ((Bool×Unit)⊕Unit):=
  (bif decide ((yf str0__0 pos0__0).1 >= 65)then (bif decide ((yf str0__0 pos0__0).1<=90)then (y5I aN str0__0 pos0__0 (Bool.true))else (bif decide ((yf str0__0 pos0__0).1 >= 97)then (y5I aN str0__0 pos0__0 (decide ((yf str0__0 pos0__0).1<=122)))else (y5I aN str0__0 pos0__0 (Bool.false))))else (bif decide ((yf str0__0 pos0__0).1 >= 97)then (y5I aN str0__0 pos0__0 (decide ((yf str0__0 pos0__0).1<=122)))else (y5I aN str0__0 pos0__0 (Bool.false))))
def yCg(aN str0__0:List UInt8):Option (Bool×Unit):=
  (bif !aN==[]then (some ((decide ((↑aN.length:Int)<=24),())))else (some ((Bool.false,()))))
theorem yEB(n:Nat)(hn:big<=n)(aN str0__0:List UInt8)(hx:List.length (str0__0) < yB):LeF some (y98 (str0__0) (λ af ac=>yD6 aN str0__0 af) (λ ac=>yCg aN str0__0) (List.length (str0__0)) 0 ()) (y7i n n aN str0__0 0):=by
  refine yKz (f:=some) (W:=λ bA af ac=>y7i n bA aN str0__0 af) (λ bA af ac=>?_) () n (by unfold big at hn;unfold yB at hx;omega)
  show LeF _ _ (yFn n (y7i n bA) aN str0__0 af)
  exact y7 (y7 (y7 (by apply y0F n hn) (y7 (by apply y0F n hn) (by apply y0F n hn))) (y7 (by apply y0F n hn) (by apply y0F n hn))) (y1I (y7 (y9 rfl) (y9 rfl)))
def yIl(s:List UInt8):Option (Bool×Unit):=
  (bif decide (List.length (s) < yB)then y98 (s) (λ af ac=>yD6 (s) (s) af) (λ ac=>yCg (s) (s)) (List.length (s)) 0 ()else none)
abbrev z0N_e:Entry:={ f:=102,args:=.pair t9 .unit,rS:=.pair t4 .unit,m:=λ x=>yIl x.1 }
theorem yMc:FnOK Tryz.prog z0N_e:=fB Tryz.f102 (λ n x=>yS4 n x.1) [[0,8]] eNil λ n hn x=>(yl λ hx=>by apply yEB n hn;exact hx)
def yK4(n:Nat)(r0:(Int×Unit->Option (Int×Unit))->List Int->Int->Int->List Int->Option (List Int×Unit))(b6:Int×Unit->Option (Int×Unit))(a8:List Int)(bN aD:Int)(ah:List Int):Option (List Int×Unit):=
  (bif decide (aD < bN)then ((idx a8 aD).bind λ v1=>((b6 (v1,())).bind λ v2=>(bif decide (ah.length+(1:Nat)<=memMax)then r0 b6 a8 bN (i64.wrap (aD+1)) (ah++[v2.1])else none)))else some (ah,()))
def yAb(n k:Nat)(b6:Int×Unit->Option (Int×Unit))(a8:List Int)(bN aD:Int)(ah:List Int):Option (List Int×Unit):=
  iter (λ r y=>yK4 n (λ b6 a8 bN aD ah=>r ((b6,(a8,(bN,(aD,())))),((ah,()),()))) y.1.1 y.1.2.1 y.1.2.2.1 y.1.2.2.2.1 y.2.1.1) k ((b6,(a8,(bN,(aD,())))),((ah,()),()))
def zE_m(n:Nat)(l:List Int)(f:Int×Unit->Option (Int×Unit)):Option (List Int×Unit):=
  (yAb n n (f) (l) ((↑l.length:Int)) ((0:Int)) ([]))
def yNO(b6:Int×Unit->Option (Int×Unit))(a8:List Int)(aD v1:Int)(ah:List Int):Option ((List Int×Unit)⊕(List Int)):=
  ((b6 (v1,())).bind λ v2=>(bif decide (ah.length+(1:Nat)<=memMax)then (some (Sum.inr (ah++[v2.1])))else none))
def yQn(b6:Int×Unit->Option (Int×Unit))(a8 ah:List Int):Option (List Int×Unit):=
  (some ((ah,())))
theorem yGE(n:Nat)(hn:big<=n)(b6:Int×Unit->Option (Int×Unit))(a8 ah:List Int)(hx:List.length (a8) < yB):LeF some (yR (λ af cD ac=>yNO b6 a8 af cD ac) (λ ac=>yQn b6 a8 ac) 0 (a8) ah) (yAb n n b6 a8 (List.length (a8):Int) 0 ah):=by
  refine yo (f:=some) (W:=λ bA af ac=>yAb n bA b6 a8 (List.length (a8):Int) af ac) (λ bA af ac=>?_) hx ah n (by unfold big at hn;unfold yB at hx;omega)
  show LeF _ _ (yK4 n (yAb n bA) b6 a8 (List.length (a8):Int) af ac)
  exact y7 (yF λ v1=>(yF λ v2=>(y7 (y9 rfl) y03))) (y1I (y9 rfl))
def zE_M(l:List Int)(f:Int×Unit->Option (Int×Unit)):Option (List Int×Unit):=
  (bif decide (List.length (l) < yB)then yR (λ af cD ac=>yNO (f) (l) af cD ac) (λ ac=>yQn (f) (l) ac) 0 (l) ([])else none)
abbrev zE_e:Entry:={ f:=103,args:=.pair t34 (.pair t189 .unit),rS:=.pair t185 .unit,m:=λ x=>zE_M x.1 x.2.1 }
theorem yRe:FnOK Tryz.prog zE_e:=fB (mu:=[5]) Tryz.f103 (λ n x=>zE_m n x.1 x.2.1) [[1,5,8,9,10]] eNil λ n hn x=>(yl λ hx=>by apply yGE n hn;exact hx)
def yFC(n:Nat)(r0:List UInt8->Q1->Int->Option (Int×Unit))(bx:List UInt8)(cI:Q1)(aO:Int):Option (Int×Unit):=
  (bif decide (aO < (↑cI.2.2.2.2.2.2.2.2.1.length:Int))then ((idx cI.2.2.2.2.2.2.2.2.1 aO).bind λ v1=>(bif v1.1==bx then some (aO,())else r0 bx cI (i64.wrap (aO+1))))else some ((-1:Int),()))
def y7O(n k:Nat)(bx:List UInt8)(cI:Q1)(aO:Int):Option (Int×Unit):=
  iter (λ r y=>yFC n (λ bx cI aO=>r ((bx,(cI,(aO,()))),((),()))) y.1.1 y.1.2.1 y.1.2.2.1) k ((bx,(cI,(aO,()))),((),()))
def yRi(n:Nat)(rp:Q1)(name:List UInt8):Option (Int×Unit):=
  (y7O n n (name) (rp) ((0:Int)))
def yHo(bx:List UInt8)(cI:Q1)(aO:Int)(v1:Q3):Option ((Int×Unit)⊕Unit):=
  (bif v1.1==bx then (some (Sum.inl ((aO,()))))else (some (Sum.inr ())))
def yMs(bx:List UInt8)(cI:Q1):Option (Int×Unit):=
  (some (((-1:Int),())))
theorem yDZ(n:Nat)(hn:big<=n)(bx:List UInt8)(cI:Q1)(hx:List.length (cI.2.2.2.2.2.2.2.2.1) < yB):LeF some (yR (λ af cD ac=>yHo bx cI af cD) (λ ac=>yMs bx cI) 0 (cI.2.2.2.2.2.2.2.2.1) ()) (y7O n n bx cI 0):=by
  refine yo (f:=some) (W:=λ bA af ac=>y7O n bA bx cI af) (λ bA af ac=>?_) hx () n (by unfold big at hn;unfold yB at hx;omega)
  show LeF _ _ (yFC n (y7O n bA) bx cI af)
  exact y7 (yF λ v1=>(y7 (y9 rfl) (y9 rfl))) (y1I (y9 rfl))
def yDl(rp:Q1)(name:List UInt8):Option (Int×Unit):=
  (bif decide (List.length (rp.2.2.2.2.2.2.2.2.1) < yB)then yR (λ af cD ac=>yHo (name) (rp) af cD) (λ ac=>yMs (name) (rp)) 0 (rp.2.2.2.2.2.2.2.2.1) ()else none)
abbrev z0Q_e:Entry:={ f:=110,args:=.pair t41 (.pair t9 .unit),rS:=.pair t3 .unit,m:=λ x=>yDl x.1 x.2.1 }
theorem yHl:FnOK Tryz.prog z0Q_e:=fB Tryz.f110 (λ n x=>yRi n x.1 x.2.1) [[1,2,5]] eNil λ n hn x=>(yl λ hx=>by apply yDZ n hn;exact hx)
def zz_m(n:Nat)(s:List UInt8):Option (Bool×Unit):=
  (bif s==[(108:UInt8),111,119,101,114]then some (Bool.true,())else some (s==[(114:UInt8),97,105,115,101],()))
def zz(s:List UInt8):(Bool×Unit):=
  (bif s==[(108:UInt8),111,119,101,114]then (Bool.true,())else (s==[(114:UInt8),97,105,115,101],()))
abbrev zz_M (s:List UInt8):Option (Bool×Unit):=some (zz s)
abbrev zz_e:Entry:={ f:=111,args:=.pair t9 .unit,rS:=.pair t4 .unit,m:=λ x=>zz_M x.1 }
theorem yRS:FnOK Tryz.prog zz_e:=fF (hm:=by intro x;show some (zz x.1)=zz_m 0 x.1;unfold zz_m zz;first|rfl|(simp only[yH];done)|(simp only[yH];rfl)) 0 Tryz.f111 (λ n x=>zz_m n x.1) [] eNil
def yNM(n:Nat)(rp:Q1)(g:Q3)(command:List UInt8):Option (Int×Unit):=
  (bif !g.2.2.2.2.1==[]then some ((33:Int),())else (bif decide ((↑rp.2.2.2.2.2.2.2.2.2.1.length:Int) > 0)then some ((34:Int),())else (bif command==[(108:UInt8),111,119,101,114]then (bif rp.2.2.2.2.2.2.1==[(111:UInt8),112,101,110]then some ((19:Int),())else (bif command==[(114:UInt8),97,105,115,101]then (bif rp.2.2.2.2.2.2.1==[(99:UInt8),108,111,115,101]then some ((19:Int),())else some ((0:Int),()))else some ((0:Int),())))else (bif command==[(114:UInt8),97,105,115,101]then (bif rp.2.2.2.2.2.2.1==[(99:UInt8),108,111,115,101]then some ((19:Int),())else some ((0:Int),()))else some ((0:Int),())))))
def z0e(rp:Q1)(g:Q3)(command:List UInt8):(Int×Unit):=
  (bif !g.2.2.2.2.1==[]then ((33:Int),())else (bif decide ((↑rp.2.2.2.2.2.2.2.2.2.1.length:Int) > 0)then ((34:Int),())else (bif command==[(108:UInt8),111,119,101,114]then (bif rp.2.2.2.2.2.2.1==[(111:UInt8),112,101,110]then ((19:Int),())else (bif command==[(114:UInt8),97,105,115,101]then (bif rp.2.2.2.2.2.2.1==[(99:UInt8),108,111,115,101]then ((19:Int),())else ((0:Int),()))else ((0:Int),())))else (bif command==[(114:UInt8),97,105,115,101]then (bif rp.2.2.2.2.2.2.1==[(99:UInt8),108,111,115,101]then ((19:Int),())else ((0:Int),()))else ((0:Int),())))))
abbrev yRM (rp:Q1)(g:Q3)(command:List UInt8):Option (Int×Unit):=some (z0e rp g command)
abbrev z0e_e:Entry:={ f:=112,args:=.pair t41 (.pair t148 (.pair t9 .unit)),rS:=.pair t3 .unit,m:=λ x=>yRM x.1 x.2.1 x.2.2.1 }
theorem yQY:FnOK Tryz.prog z0e_e:=fF (hm:=by intro x;show some (z0e x.1 x.2.1 x.2.2.1)=yNM 0 x.1 x.2.1 x.2.2.1;unfold yNM z0e;first|rfl|(simp only[yH];done)|(simp only[yH];rfl)) 0 Tryz.f112 (λ n x=>yNM n x.1 x.2.1 x.2.2.1) [] eNil
def zw_m(n:Nat)(s:List UInt8):Option (Bool×Unit):=
  (bif s==[(99:UInt8),108,111,115,101]then some (Bool.true,())else (bif s==[(111:UInt8),112,101,110]then some (Bool.true,())else some (s==[(119:UInt8),97,105,116],())))
def zw(s:List UInt8):(Bool×Unit):=
  (bif s==[(99:UInt8),108,111,115,101]then (Bool.true,())else (bif s==[(111:UInt8),112,101,110]then (Bool.true,())else (s==[(119:UInt8),97,105,116],())))
abbrev zw_M (s:List UInt8):Option (Bool×Unit):=some (zw s)
abbrev zw_e:Entry:={ f:=117,args:=.pair t9 .unit,rS:=.pair t4 .unit,m:=λ x=>zw_M x.1 }
theorem yQy:FnOK Tryz.prog zw_e:=fF (hm:=by intro x;show some (zw x.1)=zw_m 0 x.1;unfold zw_m zw;first|rfl|(simp only[yH];done)|(simp only[yH];rfl)) 0 Tryz.f117 (λ n x=>zw_m n x.1) [] eNil
def y7v(n:Nat)(cz:Q2)(bz:Bool)(aP aQ aR aS aT aU aV:Int)(aW:List UInt8)(aX:Int)(aY:List (Q3))(ai:List (List UInt8))(bD:List (Q6)):Option ((Q1)×Int×Unit):=
  (bif !bz then ((idx cz.2.2.1 (0:Int)).bind λ v14=>(bif decide (bD.length+(1:Nat)<=memMax)then some ((aP,(aQ,aR,()),aS,aT,aU,aV,aW,aX,aY,ai,bD++[(v14,(1:Int),())],()),(0:Int),())else none))else some ((aP,(aQ,aR,()),aS,aT,aU,aV,aW,aX,aY,ai,bD,()),(0:Int),()))
def yEm(n:Nat)(r0:Q2->Bool->Int->Int->Int->Int->Int->Int->Int->Int->List UInt8->Int->List (Q3)->List (List UInt8)->List (Q6)->Int->Int->Int->Int->Int->Int->Int->List UInt8->Int->List (Q6)->Option ((Q1)×Int×Unit))(cz:Q2)(bz:Bool)(cS aP aQ aR aS aT aU aV:Int)(aW:List UInt8)(aX:Int)(aY:List (Q3))(ai:List (List UInt8))(b7:List (Q6))(ca cb cc cd ce cf cg:Int)(ci:List UInt8)(cj:Int)(bD:List (Q6)):Option ((Q1)×Int×Unit):=
  (bif decide (cS < (↑b7.length:Int))then ((idx b7 cS).bind λ v1=>((idx cz.2.2.1 (0:Int)).bind λ v2=>(bif v1.1==v2 then (bif decide (bD.length+(1:Nat)<=memMax)then r0 cz Bool.true (i64.wrap (cS+1)) aP aQ aR aS aT aU aV aW aX aY ai b7 ca cb cc cd ce cf cg ci cj (bD++[(v1.1,i64.wrap (v1.2.1+1),())])else none)else (bif decide (bD.length+(1:Nat)<=memMax)then r0 cz bz (i64.wrap (cS+1)) aP aQ aR aS aT aU aV aW aX aY ai b7 ca cb cc cd ce cf cg ci cj (bD++[(v1.1,v1.2.1,())])else none))))else (bif !bz then (bif decide ((↑bD.length:Int) >= 64)then some ((aP,(aQ,aR,()),aS,aT,aU,aV,aW,aX,aY,ai,b7,()),(5:Int),())else (y7v n cz bz aP aQ aR aS aT aU aV aW aX aY ai bD))else (y7v n cz bz aP aQ aR aS aT aU aV aW aX aY ai bD)))
def y7P(n k:Nat)(cz:Q2)(bz:Bool)(cS aP aQ aR aS aT aU aV:Int)(aW:List UInt8)(aX:Int)(aY:List (Q3))(ai:List (List UInt8))(b7:List (Q6))(ca cb cc cd ce cf cg:Int)(ci:List UInt8)(cj:Int)(bD:List (Q6)):Option ((Q1)×Int×Unit):=
  iter (λ r y=>yEm n (λ cz bz cS aP aQ aR aS aT aU aV aW aX aY ai b7 ca cb cc cd ce cf cg ci cj bD=>r ((cz,(bz,(cS,()))),(((aP,(aQ,(aR,(aS,(aT,(aU,(aV,(aW,(aX,(aY,(ai,(b7,())))))))))))),((ca,(cb,(cc,(cd,(ce,(cf,(cg,(ci,(cj,()))))))))),(bD,()))),()))) y.1.1 y.1.2.1 y.1.2.2.1 y.2.1.1.1 y.2.1.1.2.1 y.2.1.1.2.2.1 y.2.1.1.2.2.2.1 y.2.1.1.2.2.2.2.1 y.2.1.1.2.2.2.2.2.1 y.2.1.1.2.2.2.2.2.2.1 y.2.1.1.2.2.2.2.2.2.2.1 y.2.1.1.2.2.2.2.2.2.2.2.1 y.2.1.1.2.2.2.2.2.2.2.2.2.1 y.2.1.1.2.2.2.2.2.2.2.2.2.2.1 y.2.1.1.2.2.2.2.2.2.2.2.2.2.2.1 y.2.1.2.1.1 y.2.1.2.1.2.1 y.2.1.2.1.2.2.1 y.2.1.2.1.2.2.2.1 y.2.1.2.1.2.2.2.2.1 y.2.1.2.1.2.2.2.2.2.1 y.2.1.2.1.2.2.2.2.2.2.1 y.2.1.2.1.2.2.2.2.2.2.2.1 y.2.1.2.1.2.2.2.2.2.2.2.2.1 y.2.1.2.2.1) k ((cz,(bz,(cS,()))),(((aP,(aQ,(aR,(aS,(aT,(aU,(aV,(aW,(aX,(aY,(ai,(b7,())))))))))))),((ca,(cb,(cc,(cd,(ce,(cf,(cg,(ci,(cj,()))))))))),(bD,()))),()))
def yRr(n:Nat)(rp:Q1)(e:Q2):Option ((Q1)×Int×Unit):=
  (y7P n n (e) (Bool.false) ((0:Int)) (rp.1) (rp.2.1.1) (rp.2.1.2.1) (rp.2.2.1) (rp.2.2.2.1) (rp.2.2.2.2.1) (rp.2.2.2.2.2.1) (rp.2.2.2.2.2.2.1) (rp.2.2.2.2.2.2.2.1) (rp.2.2.2.2.2.2.2.2.1) (rp.2.2.2.2.2.2.2.2.2.1) (rp.2.2.2.2.2.2.2.2.2.2.1) ((0:Int)) ((0:Int)) ((0:Int)) ((0:Int)) ((0:Int)) ((0:Int)) ((0:Int)) ([]) ((0:Int)) ([]))
def yBU(cz:Q2)(bz:Bool)(aP aQ aR aS aT aU aV:Int)(aW:List UInt8)(aX:Int)(aY:List (Q3))(ai:List (List UInt8))(bD:List (Q6)):Option ((Q1)×Int×Unit):=
  (bif !bz then ((idx cz.2.2.1 (0:Int)).bind λ v14=>(bif decide (bD.length+(1:Nat)<=memMax)then (some (((aP,(aQ,aR,()),aS,aT,aU,aV,aW,aX,aY,ai,bD++[(v14,(1:Int),())],()),(0:Int),())))else none))else (some (((aP,(aQ,aR,()),aS,aT,aU,aV,aW,aX,aY,ai,bD,()),(0:Int),()))))
theorem y2S(n:Nat)(hn:big<=n)(cz:Q2)(bz:Bool)(aP aQ aR aS aT aU aV:Int)(aW:List UInt8)(aX:Int)(aY:List (Q3))(ai:List (List UInt8))(bD:List (Q6)):LeF some (yBU cz bz aP aQ aR aS aT aU aV aW aX aY ai bD) (y7v n cz bz aP aQ aR aS aT aU aV aW aX aY ai bD):=
  (y7 (yF λ v14=>(y7 (y9 rfl) y03)) (y9 rfl))
def yHj(cz:Q2)(aP aQ aR aS aT aU aV:Int)(aW:List UInt8)(aX:Int)(aY:List (Q3))(ai:List (List UInt8))(b7:List (Q6))(ca cb cc cd ce cf cg:Int)(ci:List UInt8)(cj cS:Int)(v1:Q6)(bz:Bool)(bD:List (Q6)):Option (((Q1)×Int×Unit)⊕(Bool×(List (Q6)))):=
  ((idx cz.2.2.1 (0:Int)).bind λ v2=>(bif v1.1==v2 then (bif decide (bD.length+(1:Nat)<=memMax)then (some (Sum.inr ((Bool.true),(bD++[(v1.1,i64.wrap (v1.2.1+1),())]))))else none)else (bif decide (bD.length+(1:Nat)<=memMax)then (some (Sum.inr ((bz),(bD++[(v1.1,v1.2.1,())]))))else none)))
def yJ9(cz:Q2)(aP aQ aR aS aT aU aV:Int)(aW:List UInt8)(aX:Int)(aY:List (Q3))(ai:List (List UInt8))(b7:List (Q6))(ca cb cc cd ce cf cg:Int)(ci:List UInt8)(cj:Int)(bz:Bool)(bD:List (Q6)):Option ((Q1)×Int×Unit):=
  (bif !bz then (bif decide ((↑bD.length:Int) >= 64)then (some (((aP,(aQ,aR,()),aS,aT,aU,aV,aW,aX,aY,ai,b7,()),(5:Int),())))else (yBU cz bz aP aQ aR aS aT aU aV aW aX aY ai bD))else (yBU cz bz aP aQ aR aS aT aU aV aW aX aY ai bD))
theorem yEa(n:Nat)(hn:big<=n)(cz:Q2)(aP aQ aR aS aT aU aV:Int)(aW:List UInt8)(aX:Int)(aY:List (Q3))(ai:List (List UInt8))(b7:List (Q6))(ca cb cc cd ce cf cg:Int)(ci:List UInt8)(cj:Int)(bz:Bool)(bD:List (Q6))(hx:List.length (b7) < yB):LeF some (yR (λ af cD ac=>yHj cz aP aQ aR aS aT aU aV aW aX aY ai b7 ca cb cc cd ce cf cg ci cj af cD ac.1 ac.2) (λ ac=>yJ9 cz aP aQ aR aS aT aU aV aW aX aY ai b7 ca cb cc cd ce cf cg ci cj ac.1 ac.2) 0 (b7) (bz,bD)) (y7P n n cz bz 0 aP aQ aR aS aT aU aV aW aX aY ai b7 ca cb cc cd ce cf cg ci cj bD):=by
  refine yo (f:=some) (W:=λ bA af ac=>y7P n bA cz ac.1 af aP aQ aR aS aT aU aV aW aX aY ai b7 ca cb cc cd ce cf cg ci cj ac.2) (λ bA af ac=>?_) hx (bz,bD) n (by unfold big at hn;unfold yB at hx;omega)
  show LeF _ _ (yEm n (y7P n bA) cz ac.1 af aP aQ aR aS aT aU aV aW aX aY ai b7 ca cb cc cd ce cf cg ci cj ac.2)
  exact y7 (yF λ v1=>(yF λ v2=>(y7 (y7 (y9 rfl) y03) (y7 (y9 rfl) y03)))) (y1I (y7 (y7 (y9 rfl) (by apply y2S n hn)) (by apply y2S n hn)))
def yJx(rp:Q1)(e:Q2):Option ((Q1)×Int×Unit):=
  (bif decide (List.length (rp.2.2.2.2.2.2.2.2.2.2.1) < yB)then yR (λ af cD ac=>yHj (e) (rp.1) (rp.2.1.1) (rp.2.1.2.1) (rp.2.2.1) (rp.2.2.2.1) (rp.2.2.2.2.1) (rp.2.2.2.2.2.1) (rp.2.2.2.2.2.2.1) (rp.2.2.2.2.2.2.2.1) (rp.2.2.2.2.2.2.2.2.1) (rp.2.2.2.2.2.2.2.2.2.1) (rp.2.2.2.2.2.2.2.2.2.2.1) ((0:Int)) ((0:Int)) ((0:Int)) ((0:Int)) ((0:Int)) ((0:Int)) ((0:Int)) ([]) ((0:Int)) af cD ac.1 ac.2) (λ ac=>yJ9 (e) (rp.1) (rp.2.1.1) (rp.2.1.2.1) (rp.2.2.1) (rp.2.2.2.1) (rp.2.2.2.2.1) (rp.2.2.2.2.2.1) (rp.2.2.2.2.2.2.1) (rp.2.2.2.2.2.2.2.1) (rp.2.2.2.2.2.2.2.2.1) (rp.2.2.2.2.2.2.2.2.2.1) (rp.2.2.2.2.2.2.2.2.2.2.1) ((0:Int)) ((0:Int)) ((0:Int)) ((0:Int)) ((0:Int)) ((0:Int)) ((0:Int)) ([]) ((0:Int)) ac.1 ac.2) 0 (rp.2.2.2.2.2.2.2.2.2.2.1) ((Bool.false),([]))else none)
abbrev z0S_e:Entry:={ f:=121,args:=.pair t41 (.pair t56 .unit),rS:=.pair t41 (.pair t3 .unit),m:=λ x=>yJx x.1 x.2.1 }
theorem yQL:FnOK Tryz.prog z0S_e:=fB (mu:=[2,6]) Tryz.f121 (λ n x=>yRr n x.1 x.2.1) [[2,3,4,6,7,8]] eNil λ n hn x=>(yl λ hx=>by apply yEa n hn;exact hx)
abbrev yED:Ty:=.pair t3 .unit
abbrev yHF:Ty:=.pair t9 .unit
class ref01_Text_Rec where
  f:yED.den->Option yHF.den
section
variable [ref01_Text_Rec]
def yAz:Entry:={ f:=132,args:=yED,rS:=yHF,m:=λ x=>ref01_Text_Rec.f x }
def yQd:G:={ T:=T,E:=[yAz],mU:=[],fz:=[] }
def yRn:List (List Nat):=[]
def yN1(n:Nat):Ann:={ keep:=yRn,fuel:=n,inl:=[],deep:=0 }
def yNz(n:Nat)(np:Int):Option (List UInt8×Unit):=
  (bif decide (np > 9)then ((ref01_Text_Rec.f (i64.wrap (np.tdiv (10:Int)),())).bind λ v0=>((ref01_Text_Rec.f (np.tmod (10:Int),())).bind λ v1=>(bif decide (v0.1.length+v1.1.length < strMax)then some (v0.1++v1.1,())else none)))else (bif decide (np < (-9:Int))then ((ref01_Text_Rec.f (i64.wrap (np.tdiv (10:Int)),())).bind λ v2=>((ref01_Text_Rec.f (i64.wrap ((0:Int) - np.tmod (10:Int)),())).bind λ v3=>(bif decide (v2.1.length+v3.1.length < strMax)then some (v2.1++v3.1,())else none)))else (bif decide (np < 0)then ((ref01_Text_Rec.f (i64.wrap ((0:Int) - np),())).bind λ v4=>(bif decide ((1:Nat)+v4.1.length < strMax)then some ([(45:UInt8)]++v4.1,())else none))else some (y14 [IntKind.u8.wrap (i64.wrap ((48:Int)+np))],()))))
theorem yPE(n:Nat)(x:yED.den):runF yQd (yN1 n) Tryz.f132 yED yHF x=yNz n x.1:=by kernel_rfl
def yPc(np:Int):Option (List UInt8×Unit):=yNz 0 np
theorem yND(np:Int)(y:List UInt8×Unit)(h:yPc np=some y):∃ n,yNz n np=some y:=⟨0,h⟩
end
def y1y(d:Nat):yED.den->Option yHF.den:=Nat.rec (motive:=λ _=>yED.den->Option yHF.den) (λ _=>none) (λ _ ih x=>@yPc ⟨ih⟩ x.1) d
def y3N(d:Nat):Entry:={ f:=132,args:=yED,rS:=yHF,m:=y1y d }
theorem y4y:(d:Nat)->FnOK Tryz.prog (y3N d)
  |0=>FnOK.none (fn:=Tryz.f132) (by kernel_rfl) (by kernel_rfl) (by kernel_rfl)
  |d+1=>yEQ (g:=@yQd ⟨y1y d⟩) (fn:=Tryz.f132) (e:=y3N (d+1)) y1i y7D (yE (y4y d) eNil) (by kernel_rfl) (by kernel_rfl) (by kernel_rfl) (λ x y h=>let ⟨n,hn⟩:=@yND ⟨y1y d⟩ x.1 y h;⟨yN1 n,iNil,(@yPE ⟨y1y d⟩ n x).trans hn⟩)
def z0h_e:Entry:=y3N 24
theorem yQE:FnOK Tryz.prog z0h_e:=y4y 24
def yQ7(n:Nat)(l:List (List UInt8)):Option (Q6):=
  ((yHZ l [(32:UInt8)]).bind λ v0=>some (v0.1,(0:Int),()))
def yGR(l:List (List UInt8)):Option (Q6):=yQ7 0 l
abbrev z0Z_e:Entry:={ f:=135,args:=.pair t38 .unit,rS:=.pair t9 (.pair t29 .unit),m:=λ x=>yGR x.1 }
theorem yCB:FnOK Tryz.prog z0Z_e:=fF 0 Tryz.f135 (λ n x=>yQ7 n x.1) [] (yE yJP eNil)
def zO_m(n:Nat)(g:Q3):Option (Bool×Unit):=
  some (g.2.1,())
def zO(g:Q3):(Bool×Unit):=
  (g.2.1,())
abbrev zO_M (g:Q3):Option (Bool×Unit):=some (zO g)
abbrev zO_e:Entry:={ f:=138,args:=.pair t64 .unit,rS:=.pair t4 .unit,m:=λ x=>zO_M x.1 }
theorem yQh:FnOK Tryz.prog zO_e:=fF (hm:=by intro x;show some (zO x.1)=zO_m 0 x.1;unfold zO_m zO;first|rfl|(simp only[yH];done)|(simp only[yH];rfl)) 0 Tryz.f138 (λ n x=>zO_m n x.1) [] eNil
def zc_m(n:Nat)(g:Q3):Option (Bool×Unit):=
  some (!g.2.2.2.2.1==[],())
def zc(g:Q3):(Bool×Unit):=
  (!g.2.2.2.2.1==[],())
abbrev zc_M (g:Q3):Option (Bool×Unit):=some (zc g)
abbrev zc_e:Entry:={ f:=141,args:=.pair t64 .unit,rS:=.pair t4 .unit,m:=λ x=>zc_M x.1 }
theorem yRu:FnOK Tryz.prog zc_e:=fF (hm:=by intro x;show some (zc x.1)=zc_m 0 x.1;unfold zc_m zc;first|rfl|(simp only[yH];done)|(simp only[yH];rfl)) 0 Tryz.f141 (λ n x=>zc_m n x.1) [] eNil
def yKB(n:Nat)(g:Q3)(j0:List UInt8):Option (List UInt8×Unit):=
  ((yBl g.2.2.1).bind λ v1=>(bif decide (v1.1.length+(1:Nat) < strMax)then (bif decide ((v1.1++[(32:UInt8)]).length+j0.length < strMax)then some (v1.1++[(32:UInt8)]++j0,())else none)else none))
def zt_m(n:Nat)(g:Q3):Option (List UInt8×Unit):=
  (bif g.2.2.2.1==[]then (yKB n g ([(110:UInt8),111,110,101]))else (yKB n g (g.2.2.2.1)))
def zt_M(g:Q3):Option (List UInt8×Unit):=zt_m 0 g
abbrev zt_e:Entry:={ f:=146,args:=.pair t64 .unit,rS:=.pair t9 .unit,m:=λ x=>zt_M x.1 }
theorem yRq:FnOK Tryz.prog zt_e:=fF 0 Tryz.f146 (λ n x=>zt_m n x.1) [] (yE yA6 eNil)
def yKX(n:Nat)(r8:Int->List UInt8->Int->Option (Int×Bool×Unit))(cV:Int)(str0__8:List UInt8)(pos0__8:Int):Option (Int×Bool×Unit):=
  (bif decide (pos0__8 < (↑str0__8.length:Int))then (bif decide ((yf str0__8 pos0__8).1 < 48)then some ((0:Int),Bool.false,())else (bif decide ((yf str0__8 pos0__8).1 > 57)then some ((0:Int),Bool.false,())else r8 (i64.wrap (i64.wrap ((10:Int) * cV)+i64.wrap (IntKind.i32.wrap ((yf str0__8 pos0__8).1 - (48:Int))))) str0__8 (yf str0__8 pos0__8).2))else some (cV,Bool.true,()))
def yLP(n k:Nat)(cV:Int)(str0__8:List UInt8)(pos0__8:Int):Option (Int×Bool×Unit):=
  iter (λ r y=>yKX n (λ cV str0__8 pos0__8=>r ((cV,()),(((str0__8,pos0__8),()),()))) y.1.1 y.2.1.1.1 y.2.1.1.2) k ((cV,()),(((str0__8,pos0__8),()),()))
def yCo(n:Nat)(s:List UInt8):Option (Int×Bool×Unit):=
  (yLP n n ((0:Int)) (s) ((0:Int)))
def yQe(n:Nat)(s:List UInt8):Option (Int×Bool×Unit):=
  (bif s==[]then some ((0:Int),Bool.false,())else (bif decide ((↑s.length:Int) > 9)then some ((0:Int),Bool.false,())else (bif decide ((↑s.length:Int) > 1)then ((idx s (0:Int)).bind λ v0=>(bif (↑v0.toNat:Int)==48 then some ((0:Int),Bool.false,())else (yCo n s)))else (yCo n s))))
def yRf(s:List UInt8):Option (Int×Bool×Unit):=yQe 1000 s
abbrev z03_e:Entry:={ f:=163,args:=.pair t9 .unit,rS:=.pair t3 (.pair t4 .unit),m:=λ x=>yRf x.1 }
theorem yQa:FnOK Tryz.prog z03_e:=fF 1000 Tryz.f163 (λ n x=>yQe n x.1) [[4,25]] eNil
def yFd(n:Nat)(r0:(Int×Unit->Option (Bool×Unit))->Int->Int->Int->Option (Int×Unit))(bd:Int×Unit->Option (Bool×Unit))(bf bg a8:Int):Option (Int×Unit):=
  (bif decide (a8 < bg)then ((bd (a8,())).bind λ v1=>(bif v1.1 then some (a8,())else r0 bd bf bg (i64.wrap (a8+1))))else some (bf,()))
def y7j(n k:Nat)(bd:Int×Unit->Option (Bool×Unit))(bf bg a8:Int):Option (Int×Unit):=
  iter (λ r y=>yFd n (λ bd bf bg a8=>r ((bd,(bf,(bg,(a8,())))),((),()))) y.1.1 y.1.2.1 y.1.2.2.1 y.1.2.2.2.1) k ((bd,(bf,(bg,(a8,())))),((),()))
def yR7(n:Nat)(np:Int)(holds:Int×Unit->Option (Bool×Unit)):Option (Int×Unit):=
  (y7j n n (holds) ((-1:Int)) (np) ((0:Int)))
def yIY(bd:Int×Unit->Option (Bool×Unit))(bf bg a8:Int):Option ((Int×Unit)⊕Unit):=
  ((bd (a8,())).bind λ v1=>(bif v1.1 then (some (Sum.inl ((a8,()))))else (some (Sum.inr ()))))
def yMN(bd:Int×Unit->Option (Bool×Unit))(bf bg:Int):Option (Int×Unit):=
  (some ((bf,())))
theorem yDH(n:Nat)(hn:big<=n)(bd:Int×Unit->Option (Bool×Unit))(bf bg:Int)(hx:(bg)<=9223372036854775807):LeF some (y2y (λ af ac=>yIY bd bf bg af) (λ ac=>yMN bd bf bg) ((bg) - 0).toNat 0 ()) (y7j n n bd bf bg 0):=by
  refine y4a (f:=some) (W:=λ bA af ac=>y7j n bA bd bf bg af) (λ bA af ac=>?_) hx () n 0 (by decide) (by unfold big at hn;omega)
  show LeF _ _ (yFd n (y7j n bA) bd bf bg af)
  exact y7 (yF λ v1=>(y7 (y9 rfl) (y9 rfl))) (y1I (y9 rfl))
def yJd(np:Int)(holds:Int×Unit->Option (Bool×Unit)):Option (Int×Unit):=
  (bif decide ((np)<=9223372036854775807)then y2y (λ af ac=>yIY (holds) ((-1:Int)) (np) af) (λ ac=>yMN (holds) ((-1:Int)) (np)) ((np) - 0).toNat 0 ()else none)
abbrev z0Y_e:Entry:={ f:=173,args:=.pair t3 (.pair t227 .unit),rS:=.pair t3 .unit,m:=λ x=>yJd x.1 x.2.1 }
theorem yMe:FnOK Tryz.prog z0Y_e:=fB Tryz.f173 (λ n x=>yR7 n x.1 x.2.1) [[1,5,7,8]] eNil λ n hn x=>(yl λ hx=>by apply yDH n hn;exact hx)
def zN_m(n:Nat)(i:Int)(p1:Q1)(p2:List UInt8):Option (Bool×Unit):=
  ((idx p1.2.2.2.2.2.2.2.2.1 i).bind λ v0=>some (v0.1==p2,()))
def zN_M(i:Int)(p1:Q1)(p2:List UInt8):Option (Bool×Unit):=zN_m 0 i p1 p2
abbrev zN_e:Entry:={ f:=174,args:=.pair t3 (.pair (.ref t60) (.pair (.ref t9) .unit)),rS:=.pair t4 .unit,m:=λ x=>zN_M x.1 x.2.1 x.2.2.1 }
theorem yRl:FnOK Tryz.prog zN_e:=fF 0 Tryz.f174 (λ n x=>zN_m n x.1 x.2.1 x.2.2.1) [] eNil
def yOF(n:Nat)(rp:Q1)(p1:Int)(xp:Q3):Option ((Q1)×Unit):=
  (bif decide ((0:Nat)+rp.2.2.2.2.2.2.2.2.1.length<=memMax)then ((idx rp.2.2.2.2.2.2.2.2.1 p1).bind λ v0=>((rp.2.2.2.2.2.2.2.2.1[p1.toNat]?).bind λ v1=>some ((rp.1,rp.2.1,rp.2.2.1,rp.2.2.2.1,rp.2.2.2.2.1,rp.2.2.2.2.2.1,rp.2.2.2.2.2.2.1,rp.2.2.2.2.2.2.2.1,rp.2.2.2.2.2.2.2.2.1.set p1.toNat xp,rp.2.2.2.2.2.2.2.2.2),())))else none)
def yHL(rp:Q1)(p1:Int)(xp:Q3):Option ((Q1)×Unit):=yOF 0 rp p1 xp
abbrev z07_e:Entry:={ f:=176,args:=.pair t41 (.pair t3 (.pair t148 .unit)),rS:=.pair t41 .unit,m:=λ x=>yHL x.1 x.2.1 x.2.2.1 }
theorem yMk:FnOK Tryz.prog z07_e:=fF (mu:=[3,7]) 0 Tryz.f176 (λ n x=>yOF n x.1 x.2.1 x.2.2.1) [] eNil
def yFb(n:Nat)(r0:List (List UInt8)->List UInt8->Int->Option (Bool×Unit))(bi:List (List UInt8))(cP:List UInt8)(aO:Int):Option (Bool×Unit):=
  (bif decide (aO < (↑bi.length:Int))then ((idx bi aO).bind λ v1=>(bif v1==cP then some (Bool.true,())else r0 bi cP (i64.wrap (aO+1))))else some (Bool.false,()))
def y7Z(n k:Nat)(bi:List (List UInt8))(cP:List UInt8)(aO:Int):Option (Bool×Unit):=
  iter (λ r y=>yFb n (λ bi cP aO=>r ((bi,(cP,(aO,()))),((),()))) y.1.1 y.1.2.1 y.1.2.2.1) k ((bi,(cP,(aO,()))),((),()))
def yS3(n:Nat)(l:List (List UInt8))(s:List UInt8):Option (Bool×Unit):=
  (y7Z n n (l) (s) ((0:Int)))
def yJG(bi:List (List UInt8))(cP:List UInt8)(aO:Int)(v1:List UInt8):Option ((Bool×Unit)⊕Unit):=
  (bif v1==cP then (some (Sum.inl ((Bool.true,()))))else (some (Sum.inr ())))
def yMT(bi:List (List UInt8))(cP:List UInt8):Option (Bool×Unit):=
  (some ((Bool.false,())))
theorem yDi(n:Nat)(hn:big<=n)(bi:List (List UInt8))(cP:List UInt8)(hx:List.length (bi) < yB):LeF some (yR (λ af cD ac=>yJG bi cP af cD) (λ ac=>yMT bi cP) 0 (bi) ()) (y7Z n n bi cP 0):=by
  refine yo (f:=some) (W:=λ bA af ac=>y7Z n bA bi cP af) (λ bA af ac=>?_) hx () n (by unfold big at hn;unfold yB at hx;omega)
  show LeF _ _ (yFb n (y7Z n bA) bi cP af)
  exact y7 (yF λ v1=>(y7 (y9 rfl) (y9 rfl))) (y1I (y9 rfl))
def yE6(l:List (List UInt8))(s:List UInt8):Option (Bool×Unit):=
  (bif decide (List.length (l) < yB)then yR (λ af cD ac=>yJG (l) (s) af cD) (λ ac=>yMT (l) (s)) 0 (l) ()else none)
abbrev z0F_e:Entry:={ f:=177,args:=.pair t38 (.pair t9 .unit),rS:=.pair t4 .unit,m:=λ x=>yE6 x.1 x.2.1 }
theorem yPK:FnOK Tryz.prog z0F_e:=fB Tryz.f177 (λ n x=>yS3 n x.1 x.2.1) [[0,1,5]] eNil λ n hn x=>(yl λ hx=>by apply yDi n hn;exact hx)
def yNv(n:Nat)(r0:(Int×Unit->Option (List UInt8×Unit))->List Int->Int->Int->List (List UInt8)->Option (List (List UInt8)×Unit))(b6:Int×Unit->Option (List UInt8×Unit))(a8:List Int)(bN aD:Int)(ah:List (List UInt8)):Option (List (List UInt8)×Unit):=
  (bif decide (aD < bN)then ((idx a8 aD).bind λ v1=>((b6 (v1,())).bind λ v2=>(bif decide (ah.length+(1:Nat)<=memMax)then r0 b6 a8 bN (i64.wrap (aD+1)) (ah++[v2.1])else none)))else some (ah,()))
def yOV(n k:Nat)(b6:Int×Unit->Option (List UInt8×Unit))(a8:List Int)(bN aD:Int)(ah:List (List UInt8)):Option (List (List UInt8)×Unit):=
  iter (λ r y=>yNv n (λ b6 a8 bN aD ah=>r ((b6,(a8,(bN,(aD,())))),((ah,()),()))) y.1.1 y.1.2.1 y.1.2.2.1 y.1.2.2.2.1 y.2.1.1) k ((b6,(a8,(bN,(aD,())))),((ah,()),()))
def zJ_m(n:Nat)(l:List Int)(f:Int×Unit->Option (List UInt8×Unit)):Option (List (List UInt8)×Unit):=
  (yOV n n (f) (l) ((↑l.length:Int)) ((0:Int)) ([]))
def zJ_M(l:List Int)(f:Int×Unit->Option (List UInt8×Unit)):Option (List (List UInt8)×Unit):=zJ_m 1000 l f
abbrev zJ_e:Entry:={ f:=178,args:=.pair t34 (.pair t166 .unit),rS:=.pair t38 .unit,m:=λ x=>zJ_M x.1 x.2.1 }
theorem yQi:FnOK Tryz.prog zJ_e:=fF (mu:=[5]) 1000 Tryz.f178 (λ n x=>zJ_m n x.1 x.2.1) [[1,5,8,9,10]] eNil
def zp_m(n:Nat)(g:Q3):Option (List UInt8×Unit):=
  some (g.1,())
def zp(g:Q3):(List UInt8×Unit):=
  (g.1,())
abbrev zp_M (g:Q3):Option (List UInt8×Unit):=some (zp g)
abbrev zp_e:Entry:={ f:=183,args:=.pair t64 .unit,rS:=.pair t9 .unit,m:=λ x=>zp_M x.1 }
theorem yRO:FnOK Tryz.prog zp_e:=fF (hm:=by intro x;show some (zp x.1)=zp_m 0 x.1;unfold zp_m zp;first|rfl|(simp only[yH];done)|(simp only[yH];rfl)) 0 Tryz.f183 (λ n x=>zp_m n x.1) [] eNil
def yNX(n:Nat)(r0:List (List UInt8)->List UInt8->Int->Int->Option (Int×Unit))(aN:List (List UInt8))(cW:List UInt8)(bg a8:Int):Option (Int×Unit):=
  (bif decide (a8 < bg)then ((idx aN a8).bind λ v1=>(bif cW==v1 then some (a8,())else r0 aN cW bg (i64.wrap (a8+1))))else some ((-1:Int),()))
def yNE(n k:Nat)(aN:List (List UInt8))(cW:List UInt8)(bg a8:Int):Option (Int×Unit):=
  iter (λ r y=>yNX n (λ aN cW bg a8=>r ((aN,(cW,(bg,(a8,())))),((),()))) y.1.1 y.1.2.1 y.1.2.2.1 y.1.2.2.2.1) k ((aN,(cW,(bg,(a8,())))),((),()))
def zG_m(n:Nat)(s:List (List UInt8))(v:List UInt8):Option (Int×Unit):=
  (yNE n n (s) (v) ((↑s.length:Int)) ((0:Int)))
def zG_M(s:List (List UInt8))(v:List UInt8):Option (Int×Unit):=zG_m 1000 s v
abbrev zG_e:Entry:={ f:=184,args:=.pair t38 (.pair t9 .unit),rS:=.pair t3 .unit,m:=λ x=>zG_M x.1 x.2.1 }
theorem yRL:FnOK Tryz.prog zG_e:=fF 1000 Tryz.f184 (λ n x=>zG_m n x.1 x.2.1) [[0,1,7,8]] eNil
def zK_m(n:Nat)(i:Int)(p1:Q1)(p2:List UInt8):Option (Bool×Unit):=
  ((idx p1.2.2.2.2.2.2.2.2.2.2.1 i).bind λ v0=>some (v0.1==p2,()))
def zK_M(i:Int)(p1:Q1)(p2:List UInt8):Option (Bool×Unit):=zK_m 0 i p1 p2
abbrev zK_e:Entry:={ f:=203,args:=.pair t3 (.pair (.ref t60) (.pair (.ref t9) .unit)),rS:=.pair t4 .unit,m:=λ x=>zK_M x.1 x.2.1 x.2.2.1 }
theorem yR8:FnOK Tryz.prog zK_e:=fF 0 Tryz.f203 (λ n x=>zK_m n x.1 x.2.1 x.2.2.1) [] eNil
end
end Go.Tw
end
section
set_option maxRecDepth 1000000
namespace Go.Tw
open Go.Vx Go.Vx.B Go.Proofs
noncomputable section
def zy_m(n:Nat)(xp:Int×Int×Unit):Option (Int×Unit):=
  (bif (z0G xp.1 (0:Int) (4096:Int)).1 then some ((3:Int),())else (bif (z0G xp.2.1 (0:Int) (4096:Int)).1 then some ((3:Int),())else (bif decide (xp.2.1 > xp.1)then some ((11:Int),())else some ((0:Int),()))))
def zy(xp:Int×Int×Unit):(Int×Unit):=
  (bif (z0G xp.1 (0:Int) (4096:Int)).1 then ((3:Int),())else (bif (z0G xp.2.1 (0:Int) (4096:Int)).1 then ((3:Int),())else (bif decide (xp.2.1 > xp.1)then ((11:Int),())else ((0:Int),()))))
abbrev zy_M (xp:Int×Int×Unit):Option (Int×Unit):=some (zy xp)
abbrev zy_e:Entry:={ f:=22,args:=.pair t25 .unit,rS:=.pair t3 .unit,m:=λ x=>zy_M x.1 }
theorem yQv:FnOK Tryz.prog zy_e:=fF (hm:=by intro x;show some (zy x.1)=zy_m 0 x.1;unfold zy_m zy;first|rfl|(simp only[yH];done)|(simp only[yH];rfl)) 0 Tryz.f22 (λ n x=>zy_m n x.1) [] (yE yMW eNil)
def yJN(n:Nat)(r5:Q2->Int->Int->Int->Bool->Option (Int×Unit))(cJ:Q2)(cT cA bR:Int)(cB:Bool):Option (Int×Unit):=
  (bif decide (cT < bR)then ((idx cJ.2.2.2.1 cT).bind λ v6=>(bif (z0G v6 (0:Int) (999999999:Int)).1 then some ((3:Int),())else r5 cJ (i64.wrap (cT+1)) cA bR cB))else (bif !cJ.2.2.2.2.1==[]then some ((1:Int),())else some ((0:Int),())))
def yBS(n k:Nat)(cJ:Q2)(cT cA bR:Int)(cB:Bool):Option (Int×Unit):=
  iter (λ r y=>yJN n (λ cJ cT cA bR cB=>r ((cJ,(cT,())),(((cA,(bR,(cB,()))),()),()))) y.1.1 y.1.2.1 y.2.1.1.1 y.2.1.1.2.1 y.2.1.1.2.2.1) k ((cJ,(cT,())),(((cA,(bR,(cB,()))),()),()))
def yKF(n:Nat)(r2:Q2->Int->Int->Int->Bool->Option (Int×Unit))(cF:Q2)(cU aj aA:Int)(aB:Bool):Option (Int×Unit):=
  (bif decide (cU < aj)then ((idx cF.2.2.1 cU).bind λ v3=>((yIQ v3).bind λ v4=>(bif !v4.1 then some ((8:Int),())else r2 cF (i64.wrap (cU+1)) aj aA aB)))else (yBS n n (cF) ((0:Int)) (aj) (aA) (aB)))
def yB1(n k:Nat)(cF:Q2)(cU aj aA:Int)(aB:Bool):Option (Int×Unit):=
  iter (λ r y=>yKF n (λ cF cU aj aA aB=>r ((cF,(cU,())),(((aj,(aA,(aB,()))),()),()))) y.1.1 y.1.2.1 y.2.1.1.1 y.2.1.1.2.1 y.2.1.1.2.2.1) k ((cF,(cU,())),(((aj,(aA,(aB,()))),()),()))
def zv_m(n:Nat)(e:Q2):Option (Int×Unit):=
  (bif (z0G e.1 (1:Int) (1000:Int)).1 then some ((3:Int),())else (bif !(z0i e.2.1).1.2.2.1 then some ((13:Int),())else (bif (↑e.2.2.1.length:Int) != (z0i e.2.1).1.1 then some ((2:Int),())else (bif (↑e.2.2.2.1.length:Int) != (z0i e.2.1).1.2.1 then some ((2:Int),())else (yB1 n n (e) ((0:Int)) ((z0i e.2.1).1.1) ((z0i e.2.1).1.2.1) ((z0i e.2.1).1.2.2.1))))))
def yNP(cJ:Q2)(cA bR:Int)(cB:Bool)(cT:Int):Option ((Int×Unit)⊕Unit):=
  ((idx cJ.2.2.2.1 cT).bind λ v6=>(bif (z0G v6 (0:Int) (999999999:Int)).1 then (some (Sum.inl (((3:Int),()))))else (some (Sum.inr ()))))
def yOb(cJ:Q2)(cA bR:Int)(cB:Bool):Option (Int×Unit):=
  (bif !cJ.2.2.2.2.1==[]then (some (((1:Int),())))else (some (((0:Int),()))))
theorem yGx(n:Nat)(hn:big<=n)(cJ:Q2)(cA bR:Int)(cB:Bool)(hx:(bR)<=9223372036854775807):LeF some (y2y (λ af ac=>yNP cJ cA bR cB af) (λ ac=>yOb cJ cA bR cB) ((bR) - 0).toNat 0 ()) (yBS n n cJ 0 cA bR cB):=by
  refine y4a (f:=some) (W:=λ bA af ac=>yBS n bA cJ af cA bR cB) (λ bA af ac=>?_) hx () n 0 (by decide) (by unfold big at hn;omega)
  show LeF _ _ (yJN n (yBS n bA) cJ af cA bR cB)
  exact y7 (yF λ v6=>(y7 (y9 rfl) (y9 rfl))) (y1I (y7 (y9 rfl) (y9 rfl)))
def yO7(cF:Q2)(aj aA:Int)(aB:Bool)(cU:Int):Option ((Int×Unit)⊕Unit):=
  ((idx cF.2.2.1 cU).bind λ v3=>((yIQ v3).bind λ v4=>(bif !v4.1 then (some (Sum.inl (((8:Int),()))))else (some (Sum.inr ())))))
def yNo(cF:Q2)(aj aA:Int)(aB:Bool):Option (Int×Unit):=
  (bif decide ((aA)<=9223372036854775807)then y2y (λ af ac=>yNP (cF) (aj) (aA) (aB) af) (λ ac=>yOb (cF) (aj) (aA) (aB)) ((aA) - 0).toNat 0 ()else none)
theorem yGA(n:Nat)(hn:big<=n)(cF:Q2)(aj aA:Int)(aB:Bool)(hx:(aj)<=9223372036854775807):LeF some (y2y (λ af ac=>yO7 cF aj aA aB af) (λ ac=>yNo cF aj aA aB) ((aj) - 0).toNat 0 ()) (yB1 n n cF 0 aj aA aB):=by
  refine y4a (f:=some) (W:=λ bA af ac=>yB1 n bA cF af aj aA aB) (λ bA af ac=>?_) hx () n 0 (by decide) (by unfold big at hn;omega)
  show LeF _ _ (yKF n (yB1 n bA) cF af aj aA aB)
  exact y7 (yF λ v3=>(yF λ v4=>(y7 (y9 rfl) (y9 rfl)))) (y1I (yl λ hx=>by apply yGx n hn;exact hx))
def zv_M(e:Q2):Option (Int×Unit):=
  (bif (z0G e.1 (1:Int) (1000:Int)).1 then (some (((3:Int),())))else (bif !(z0i e.2.1).1.2.2.1 then (some (((13:Int),())))else (bif (↑e.2.2.1.length:Int) != (z0i e.2.1).1.1 then (some (((2:Int),())))else (bif (↑e.2.2.2.1.length:Int) != (z0i e.2.1).1.2.1 then (some (((2:Int),())))else (bif decide (((z0i e.2.1).1.1)<=9223372036854775807)then y2y (λ af ac=>yO7 (e) ((z0i e.2.1).1.1) ((z0i e.2.1).1.2.1) ((z0i e.2.1).1.2.2.1) af) (λ ac=>yNo (e) ((z0i e.2.1).1.1) ((z0i e.2.1).1.2.1) ((z0i e.2.1).1.2.2.1)) (((z0i e.2.1).1.1) - 0).toNat 0 ()else none)))))
abbrev zv_e:Entry:={ f:=38,args:=.pair t56 .unit,rS:=.pair t3 .unit,m:=λ x=>zv_M x.1 }
theorem yRN:FnOK Tryz.prog zv_e:=fB Tryz.f38 (λ n x=>zv_m n x.1) [[1,3,4],[1,3,5]] (yE yMW (yE yQO (yE yPe eNil))) λ n hn x=>(y7 (y9 rfl) (y7 (y9 rfl) (y7 (y9 rfl) (y7 (y9 rfl) (yl λ hx=>by apply yGA n hn;exact hx)))))
def yNr(n:Nat)(np low high:Int):Option (Int×Unit):=
  (bif decide (np < low)then some ((z0a Bool.true (3:Int)).1,())else some ((z0a (decide (np > high)) (3:Int)).1,()))
def z0E(np low high:Int):(Int×Unit):=
  (bif decide (np < low)then ((z0a Bool.true (3:Int)).1,())else ((z0a (decide (np > high)) (3:Int)).1,()))
abbrev yRH (np low high:Int):Option (Int×Unit):=some (z0E np low high)
abbrev z0E_e:Entry:={ f:=64,args:=.pair t3 (.pair t3 (.pair t3 .unit)),rS:=.pair t29 .unit,m:=λ x=>yRH x.1 x.2.1 x.2.2.1 }
theorem yFZ:FnOK Tryz.prog z0E_e:=fF (hm:=by intro x;show some (z0E x.1 x.2.1 x.2.2.1)=yNr 0 x.1 x.2.1 x.2.2.1;unfold yNr z0E;first|rfl|(simp only[yH];done)|(simp only[yH];rfl)) 0 Tryz.f64 (λ n x=>yNr n x.1 x.2.1 x.2.2.1) [] (yE y4I eNil)
def yQI(n:Nat)(np:Int):Option (List UInt8×Unit):=
  ((y1y (24:Nat) (np,())).bind λ v0=>some (v0.1,()))
def yQj(np:Int):Option (List UInt8×Unit):=yQI 0 np
abbrev z0j_e:Entry:={ f:=89,args:=.pair t3 .unit,rS:=.pair t9 .unit,m:=λ x=>yQj x.1 }
theorem yP2:FnOK Tryz.prog z0j_e:=fF 0 Tryz.f89 (λ n x=>yQI n x.1) [] (yE yQE eNil)
def zY_m(n:Nat)(s:List UInt8):Option (Int×Unit):=
  ((yIl s).bind λ v0=>some ((z0a (!v0.1) (8:Int)).1,()))
def zY_M(s:List UInt8):Option (Int×Unit):=zY_m 0 s
abbrev zY_e:Entry:={ f:=101,args:=.pair t9 .unit,rS:=.pair t29 .unit,m:=λ x=>zY_M x.1 }
theorem ySA:FnOK Tryz.prog zY_e:=fF 0 Tryz.f101 (λ n x=>zY_m n x.1) [] (yE yMc (yE y4I eNil))
def zT_m(n:Nat)(rp:Q1)(name:List UInt8):Option (Int×Unit):=
  ((yJd (↑rp.2.2.2.2.2.2.2.2.1.length:Int) λ (x:Int×Unit)=>zN_M x.1 rp name).bind λ v0=>some (v0.1,()))
def zT_M(rp:Q1)(name:List UInt8):Option (Int×Unit):=zT_m 0 rp name
abbrev zT_e:Entry:={ f:=106,args:=.pair t60 (.pair t9 .unit),rS:=.pair t3 .unit,m:=λ x=>zT_M x.1 x.2.1 }
theorem yQk:FnOK Tryz.prog zT_e:=fF 0 Tryz.f106 (λ n x=>zT_m n x.1 x.2.1) [] (yE yRl (yE yMe eNil))
def za_m(n:Nat)(s:List UInt8):Option (Int×Unit):=
  (bif !s==[(108:UInt8),111,119,101,114]then some ((z0a (!s==[(114:UInt8),97,105,115,101]) (13:Int)).1,())else some ((z0a Bool.false (13:Int)).1,()))
def za(s:List UInt8):(Int×Unit):=
  (bif !s==[(108:UInt8),111,119,101,114]then ((z0a (!s==[(114:UInt8),97,105,115,101]) (13:Int)).1,())else ((z0a Bool.false (13:Int)).1,()))
abbrev za_M (s:List UInt8):Option (Int×Unit):=some (za s)
abbrev za_e:Entry:={ f:=107,args:=.pair t9 .unit,rS:=.pair t29 .unit,m:=λ x=>za_M x.1 }
theorem yS0:FnOK Tryz.prog za_e:=fF (hm:=by intro x;show some (za x.1)=za_m 0 x.1;unfold za_m za;first|rfl|(simp only[yH];done)|(simp only[yH];rfl)) 0 Tryz.f107 (λ n x=>za_m n x.1) [] (yE y4I eNil)
def zQ_m(n:Nat)(rp:Q1)(g:Q3)(s:List UInt8):Option (Int×Unit):=
  (bif s==[(108:UInt8),111,119,101,114]then (bif rp.2.2.2.2.2.2.1==[(111:UInt8),112,101,110]then ((y15 [(z0a (!g.2.2.2.2.1==[]) (33:Int)).1,(z0a (decide ((↑rp.2.2.2.2.2.2.2.2.2.1.length:Int) > 0)) (34:Int)).1,(z0a Bool.true (19:Int)).1]).bind λ v5=>some (v5.1,()))else (bif s==[(114:UInt8),97,105,115,101]then ((y15 [(z0a (!g.2.2.2.2.1==[]) (33:Int)).1,(z0a (decide ((↑rp.2.2.2.2.2.2.2.2.2.1.length:Int) > 0)) (34:Int)).1,(z0a (rp.2.2.2.2.2.2.1==[(99:UInt8),108,111,115,101]) (19:Int)).1]).bind λ v6=>some (v6.1,()))else ((y15 [(z0a (!g.2.2.2.2.1==[]) (33:Int)).1,(z0a (decide ((↑rp.2.2.2.2.2.2.2.2.2.1.length:Int) > 0)) (34:Int)).1,(z0a Bool.false (19:Int)).1]).bind λ v7=>some (v7.1,()))))else (bif s==[(114:UInt8),97,105,115,101]then ((y15 [(z0a (!g.2.2.2.2.1==[]) (33:Int)).1,(z0a (decide ((↑rp.2.2.2.2.2.2.2.2.2.1.length:Int) > 0)) (34:Int)).1,(z0a (rp.2.2.2.2.2.2.1==[(99:UInt8),108,111,115,101]) (19:Int)).1]).bind λ v8=>some (v8.1,()))else ((y15 [(z0a (!g.2.2.2.2.1==[]) (33:Int)).1,(z0a (decide ((↑rp.2.2.2.2.2.2.2.2.2.1.length:Int) > 0)) (34:Int)).1,(z0a Bool.false (19:Int)).1]).bind λ v9=>some (v9.1,()))))
def zQ_M(rp:Q1)(g:Q3)(s:List UInt8):Option (Int×Unit):=zQ_m 0 rp g s
abbrev zQ_e:Entry:={ f:=108,args:=.pair t60 (.pair t64 (.pair t9 .unit)),rS:=.pair t29 .unit,m:=λ x=>zQ_M x.1 x.2.1 x.2.2.1 }
theorem yRy:FnOK Tryz.prog zQ_e:=fF 0 Tryz.f108 (λ n x=>zQ_m n x.1 x.2.1 x.2.2.1) [] (yE y4I (yE y73 eNil))
def yNm(n:Nat)(rp:Q1)(e:Q2):Option ((Q1)×Int×Unit):=
  ((idx e.2.2.1 (0:Int)).bind λ v0=>((yDl rp v0).bind λ v1=>((idx e.2.2.1 (1:Int)).bind λ v2=>((idx e.2.2.2.1 (1:Int)).bind λ v3=>(bif decide (v1.1 < 0)then some (rp,(10:Int),())else (bif !(zz v2).1 then some (rp,(13:Int),())else ((idx rp.2.2.2.2.2.2.2.2.1 v1.1).bind λ v4=>(bif v3==0 then some (rp,(6:Int),())else (bif decide (v3 < v4.2.2.1)then some (rp,(11:Int),())else (bif v3==v4.2.2.1 then (bif !v2==v4.2.2.2.1 then some (rp,(30:Int),())else some (rp,(0:Int),()))else (bif (z0e rp v4 v2).1 != 0 then some (rp,(z0e rp v4 v2).1,())else ((yHL rp v1.1 (v4.1,v2==[(108:UInt8),111,119,101,114],v3,v2,v4.2.2.2.2.1,())).bind λ v5=>some (v5.1,(0:Int),())))))))))))))
def yLL(rp:Q1)(e:Q2):Option ((Q1)×Int×Unit):=yNm 0 rp e
abbrev z01_e:Entry:={ f:=118,args:=.pair t41 (.pair t56 .unit),rS:=.pair t41 (.pair t3 .unit),m:=λ x=>yLL x.1 x.2.1 }
theorem yQ6:FnOK Tryz.prog z01_e:=fF 0 Tryz.f118 (λ n x=>yNm n x.1 x.2.1) [] (yE yHl (yE yRS (yE yQY (yE yMk eNil))))
def yL9(n:Nat)(rp:Q1)(e:Q2):Option ((Q1)×Int×Unit):=
  ((idx e.2.2.1 (0:Int)).bind λ v0=>((yDl rp v0).bind λ v1=>(bif decide (v1.1 < 0)then some (rp,(10:Int),())else ((idx rp.2.2.2.2.2.2.2.2.1 v1.1).bind λ v2=>(bif e.2.1==[(108:UInt8),111,99,107]then (bif !v2.2.2.2.2.1==[]then some (rp,(33:Int),())else ((idx e.2.2.1 (1:Int)).bind λ v3=>((yHL rp v1.1 (v2.1,v2.2.1,v2.2.2.1,v2.2.2.2.1,v3,())).bind λ v6=>some (v6.1,(0:Int),()))))else ((idx e.2.2.1 (1:Int)).bind λ v4=>(bif !v2.2.2.2.2.1==v4 then some (rp,(33:Int),())else ((yHL rp v1.1 (v2.1,v2.2.1,v2.2.2.1,v2.2.2.2.1,[],())).bind λ v7=>some (v7.1,(0:Int),())))))))))
def yHA(rp:Q1)(e:Q2):Option ((Q1)×Int×Unit):=yL9 0 rp e
abbrev z0T_e:Entry:={ f:=119,args:=.pair t41 (.pair t56 .unit),rS:=.pair t41 (.pair t3 .unit),m:=λ x=>yHA x.1 x.2.1 }
theorem yPp:FnOK Tryz.prog z0T_e:=fF 0 Tryz.f119 (λ n x=>yL9 n x.1 x.2.1) [] (yE yHl (yE yMk eNil))
def yFm(n:Nat)(r2:Q2->Int->Int->Int->Int->Int->Int->Int->Int->List UInt8->Int->List (Q3)->List (List UInt8)->List (Q6)->Int->Int->Int->Int->Int->Int->Int->List UInt8->Int->List (List UInt8)->Option ((Q1)×Int×Unit))(cL:Q2)(cR aj aA aB bS bT bU bV:Int)(bW:List UInt8)(bX:Int)(bY:List (Q3))(b8:List (List UInt8))(bw:List (Q6))(ck cm cn co cp cr cu:Int)(cw:List UInt8)(cx:Int)(cG:List (List UInt8)):Option ((Q1)×Int×Unit):=
  (bif decide (cR < (↑b8.length:Int))then ((idx b8 cR).bind λ v3=>((idx cL.2.2.1 (0:Int)).bind λ v4=>(bif !v3==v4 then ((idx b8 cR).bind λ v5=>(bif decide (cG.length+(1:Nat)<=memMax)then r2 cL (i64.wrap (cR+1)) aj aA aB bS bT bU bV bW bX bY b8 bw ck cm cn co cp cr cu cw cx (cG++[v5])else none))else r2 cL (i64.wrap (cR+1)) aj aA aB bS bT bU bV bW bX bY b8 bw ck cm cn co cp cr cu cw cx cG)))else some ((aj,(aA,aB,()),bS,bT,bU,bV,bW,bX,bY,cG,bw,()),(0:Int),()))
def y7b(n k:Nat)(cL:Q2)(cR aj aA aB bS bT bU bV:Int)(bW:List UInt8)(bX:Int)(bY:List (Q3))(b8:List (List UInt8))(bw:List (Q6))(ck cm cn co cp cr cu:Int)(cw:List UInt8)(cx:Int)(cG:List (List UInt8)):Option ((Q1)×Int×Unit):=
  iter (λ r y=>yFm n (λ cL cR aj aA aB bS bT bU bV bW bX bY b8 bw ck cm cn co cp cr cu cw cx cG=>r ((cL,(cR,())),(((aj,(aA,(aB,(bS,(bT,(bU,(bV,(bW,(bX,(bY,(b8,(bw,())))))))))))),((ck,(cm,(cn,(co,(cp,(cr,(cu,(cw,(cx,()))))))))),(cG,()))),()))) y.1.1 y.1.2.1 y.2.1.1.1 y.2.1.1.2.1 y.2.1.1.2.2.1 y.2.1.1.2.2.2.1 y.2.1.1.2.2.2.2.1 y.2.1.1.2.2.2.2.2.1 y.2.1.1.2.2.2.2.2.2.1 y.2.1.1.2.2.2.2.2.2.2.1 y.2.1.1.2.2.2.2.2.2.2.2.1 y.2.1.1.2.2.2.2.2.2.2.2.2.1 y.2.1.1.2.2.2.2.2.2.2.2.2.2.1 y.2.1.1.2.2.2.2.2.2.2.2.2.2.2.1 y.2.1.2.1.1 y.2.1.2.1.2.1 y.2.1.2.1.2.2.1 y.2.1.2.1.2.2.2.1 y.2.1.2.1.2.2.2.2.1 y.2.1.2.1.2.2.2.2.2.1 y.2.1.2.1.2.2.2.2.2.2.1 y.2.1.2.1.2.2.2.2.2.2.2.1 y.2.1.2.1.2.2.2.2.2.2.2.2.1 y.2.1.2.2.1) k ((cL,(cR,())),(((aj,(aA,(aB,(bS,(bT,(bU,(bV,(bW,(bX,(bY,(b8,(bw,())))))))))))),((ck,(cm,(cn,(co,(cp,(cr,(cu,(cw,(cx,()))))))))),(cG,()))),()))
def y8T(n:Nat)(r11:Q2->Bool->Int->Int->Int->Int->Int->Int->Int->Int->List UInt8->Int->List (Q3)->List (List UInt8)->List (Q6)->Int->Int->Int->Int->Int->Int->Int->List UInt8->Int->List (List UInt8)->Option ((Q1)×Int×Unit))(bh:Q2)(aa:Bool)(bc ak am aq ar au av aw:Int)(ax:List UInt8)(ay:Int)(az:List (Q3))(a7:List (List UInt8))(ae:List (Q6))(aE aF aG aH aI aJ aK:Int)(aL:List UInt8)(aM:Int)(b4:List (List UInt8))(j15:Bool):Option ((Q1)×Int×Unit):=
  (bif j15 then ((idx bh.2.2.1 (0:Int)).bind λ v16=>(bif decide (b4.length+(1:Nat)<=memMax)then ((idx a7 bc).bind λ v18=>(bif decide ((b4++[v16]).length+(1:Nat)<=memMax)then r11 bh Bool.true (i64.wrap (bc+1)) ak am aq ar au av aw ax ay az a7 ae aE aF aG aH aI aJ aK aL aM (b4++[v16]++[v18])else none))else none))else ((idx a7 bc).bind λ v19=>(bif decide (b4.length+(1:Nat)<=memMax)then r11 bh aa (i64.wrap (bc+1)) ak am aq ar au av aw ax ay az a7 ae aE aF aG aH aI aJ aK aL aM (b4++[v19])else none)))
def yCe(n:Nat)(r11:Q2->Bool->Int->Int->Int->Int->Int->Int->Int->Int->List UInt8->Int->List (Q3)->List (List UInt8)->List (Q6)->Int->Int->Int->Int->Int->Int->Int->List UInt8->Int->List (List UInt8)->Option ((Q1)×Int×Unit))(bh:Q2)(aa:Bool)(bc ak am aq ar au av aw:Int)(ax:List UInt8)(ay:Int)(az:List (Q3))(a7:List (List UInt8))(ae:List (Q6))(aE aF aG aH aI aJ aK:Int)(aL:List UInt8)(aM:Int)(b4:List (List UInt8)):Option ((Q1)×Int×Unit):=
  (bif decide (bc < (↑a7.length:Int))then (bif !aa then ((idx bh.2.2.1 (0:Int)).bind λ v12=>((idx a7 bc).bind λ v13=>(y8T n r11 bh aa bc ak am aq ar au av aw ax ay az a7 ae aE aF aG aH aI aJ aK aL aM b4 (Go.Op.bytesLess v12 v13))))else (y8T n r11 bh aa bc ak am aq ar au av aw ax ay az a7 ae aE aF aG aH aI aJ aK aL aM b4 (Bool.false)))else (bif !aa then ((idx bh.2.2.1 (0:Int)).bind λ v20=>(bif decide (b4.length+(1:Nat)<=memMax)then some ((ak,(am,aq,()),ar,au,av,aw,ax,ay,az,b4++[v20],ae,()),(0:Int),())else none))else some ((ak,(am,aq,()),ar,au,av,aw,ax,ay,az,b4,ae,()),(0:Int),())))
def y5Q(n k:Nat)(bh:Q2)(aa:Bool)(bc ak am aq ar au av aw:Int)(ax:List UInt8)(ay:Int)(az:List (Q3))(a7:List (List UInt8))(ae:List (Q6))(aE aF aG aH aI aJ aK:Int)(aL:List UInt8)(aM:Int)(b4:List (List UInt8)):Option ((Q1)×Int×Unit):=
  iter (λ r y=>yCe n (λ bh aa bc ak am aq ar au av aw ax ay az a7 ae aE aF aG aH aI aJ aK aL aM b4=>r ((bh,(aa,(bc,()))),(((ak,(am,(aq,(ar,(au,(av,(aw,(ax,(ay,(az,(a7,(ae,())))))))))))),((aE,(aF,(aG,(aH,(aI,(aJ,(aK,(aL,(aM,()))))))))),(b4,()))),()))) y.1.1 y.1.2.1 y.1.2.2.1 y.2.1.1.1 y.2.1.1.2.1 y.2.1.1.2.2.1 y.2.1.1.2.2.2.1 y.2.1.1.2.2.2.2.1 y.2.1.1.2.2.2.2.2.1 y.2.1.1.2.2.2.2.2.2.1 y.2.1.1.2.2.2.2.2.2.2.1 y.2.1.1.2.2.2.2.2.2.2.2.1 y.2.1.1.2.2.2.2.2.2.2.2.2.1 y.2.1.1.2.2.2.2.2.2.2.2.2.2.1 y.2.1.1.2.2.2.2.2.2.2.2.2.2.2.1 y.2.1.2.1.1 y.2.1.2.1.2.1 y.2.1.2.1.2.2.1 y.2.1.2.1.2.2.2.1 y.2.1.2.1.2.2.2.2.1 y.2.1.2.1.2.2.2.2.2.1 y.2.1.2.1.2.2.2.2.2.2.1 y.2.1.2.1.2.2.2.2.2.2.2.1 y.2.1.2.1.2.2.2.2.2.2.2.2.1 y.2.1.2.2.1) k ((bh,(aa,(bc,()))),(((ak,(am,(aq,(ar,(au,(av,(aw,(ax,(ay,(az,(a7,(ae,())))))))))))),((aE,(aF,(aG,(aH,(aI,(aJ,(aK,(aL,(aM,()))))))))),(b4,()))),()))
def yEt(n:Nat)(r6:Q2->Bool->Int->Int->Int->Int->Int->Int->Int->Int->List UInt8->Int->List (Q3)->List (List UInt8)->List (Q6)->Int->Int->Int->Int->Int->Int->Int->List UInt8->Int->List (List UInt8)->Option ((Q1)×Int×Unit))(cK:Q2)(b9:Bool)(cO bj bl bm bn bp bq br:Int)(bu:List UInt8)(bv:Int)(b5:List (Q3))(aC:List (List UInt8))(aZ:List (Q6))(bE bF bG bH bI bJ bK:Int)(bL:List UInt8)(bM:Int)(cM:List (List UInt8)):Option ((Q1)×Int×Unit):=
  (bif decide (cO < (↑b5.length:Int))then (bif b9 then r6 cK Bool.true (i64.wrap (cO+1)) bj bl bm bn bp bq br bu bv b5 aC aZ bE bF bG bH bI bJ bK bL bM cM else ((idx b5 cO).bind λ v7=>r6 cK v7.2.1 (i64.wrap (cO+1)) bj bl bm bn bp bq br bu bv b5 aC aZ bE bF bG bH bI bJ bK bL bM cM))else (bif b9 then some ((bj,(bl,bm,()),bn,bp,bq,br,bu,bv,b5,aC,aZ,()),(20:Int),())else (bif decide ((↑aC.length:Int) >= 16)then some ((bj,(bl,bm,()),bn,bp,bq,br,bu,bv,b5,aC,aZ,()),(5:Int),())else (y5Q n n (cK) (Bool.false) ((0:Int)) (bj) (bl) (bm) (bn) (bp) (bq) (br) (bu) (bv) (b5) (aC) (aZ) (bE) (bF) (bG) (bH) (bI) (bJ) (bK) (bL) (bM) (cM)))))
def y7l(n k:Nat)(cK:Q2)(b9:Bool)(cO bj bl bm bn bp bq br:Int)(bu:List UInt8)(bv:Int)(b5:List (Q3))(aC:List (List UInt8))(aZ:List (Q6))(bE bF bG bH bI bJ bK:Int)(bL:List UInt8)(bM:Int)(cM:List (List UInt8)):Option ((Q1)×Int×Unit):=
  iter (λ r y=>yEt n (λ cK b9 cO bj bl bm bn bp bq br bu bv b5 aC aZ bE bF bG bH bI bJ bK bL bM cM=>r ((cK,(b9,(cO,()))),(((bj,(bl,(bm,(bn,(bp,(bq,(br,(bu,(bv,(b5,(aC,(aZ,())))))))))))),((bE,(bF,(bG,(bH,(bI,(bJ,(bK,(bL,(bM,()))))))))),(cM,()))),()))) y.1.1 y.1.2.1 y.1.2.2.1 y.2.1.1.1 y.2.1.1.2.1 y.2.1.1.2.2.1 y.2.1.1.2.2.2.1 y.2.1.1.2.2.2.2.1 y.2.1.1.2.2.2.2.2.1 y.2.1.1.2.2.2.2.2.2.1 y.2.1.1.2.2.2.2.2.2.2.1 y.2.1.1.2.2.2.2.2.2.2.2.1 y.2.1.1.2.2.2.2.2.2.2.2.2.1 y.2.1.1.2.2.2.2.2.2.2.2.2.2.1 y.2.1.1.2.2.2.2.2.2.2.2.2.2.2.1 y.2.1.2.1.1 y.2.1.2.1.2.1 y.2.1.2.1.2.2.1 y.2.1.2.1.2.2.2.1 y.2.1.2.1.2.2.2.2.1 y.2.1.2.1.2.2.2.2.2.1 y.2.1.2.1.2.2.2.2.2.2.1 y.2.1.2.1.2.2.2.2.2.2.2.1 y.2.1.2.1.2.2.2.2.2.2.2.2.1 y.2.1.2.2.1) k ((cK,(b9,(cO,()))),(((bj,(bl,(bm,(bn,(bp,(bq,(br,(bu,(bv,(b5,(aC,(aZ,())))))))))))),((bE,(bF,(bG,(bH,(bI,(bJ,(bK,(bL,(bM,()))))))))),(cM,()))),()))
def yS8(n:Nat)(rp:Q1)(e:Q2):Option ((Q1)×Int×Unit):=
  ((idx e.2.2.1 (0:Int)).bind λ v0=>((yE6 rp.2.2.2.2.2.2.2.2.2.1 v0).bind λ v1=>(bif e.2.1==[(108:UInt8),101,97,118,101]then (bif !v1.1 then some (rp,(10:Int),())else (y7b n n (e) ((0:Int)) (rp.1) (rp.2.1.1) (rp.2.1.2.1) (rp.2.2.1) (rp.2.2.2.1) (rp.2.2.2.2.1) (rp.2.2.2.2.2.1) (rp.2.2.2.2.2.2.1) (rp.2.2.2.2.2.2.2.1) (rp.2.2.2.2.2.2.2.2.1) (rp.2.2.2.2.2.2.2.2.2.1) (rp.2.2.2.2.2.2.2.2.2.2.1) ((0:Int)) ((0:Int)) ((0:Int)) ((0:Int)) ((0:Int)) ((0:Int)) ((0:Int)) ([]) ((0:Int)) ([])))else (bif v1.1 then some (rp,(9:Int),())else (y7l n n (e) (rp.2.2.2.2.2.2.1==[(99:UInt8),108,111,115,101]) ((0:Int)) (rp.1) (rp.2.1.1) (rp.2.1.2.1) (rp.2.2.1) (rp.2.2.2.1) (rp.2.2.2.2.1) (rp.2.2.2.2.2.1) (rp.2.2.2.2.2.2.1) (rp.2.2.2.2.2.2.2.1) (rp.2.2.2.2.2.2.2.2.1) (rp.2.2.2.2.2.2.2.2.2.1) (rp.2.2.2.2.2.2.2.2.2.2.1) ((0:Int)) ((0:Int)) ((0:Int)) ((0:Int)) ((0:Int)) ((0:Int)) ((0:Int)) ([]) ((0:Int)) ([]))))))
def yIf(cL:Q2)(aj aA aB bS bT bU bV:Int)(bW:List UInt8)(bX:Int)(bY:List (Q3))(b8:List (List UInt8))(bw:List (Q6))(ck cm cn co cp cr cu:Int)(cw:List UInt8)(cx cR:Int)(v3:List UInt8)(cG:List (List UInt8)):Option (((Q1)×Int×Unit)⊕(List (List UInt8))):=
  ((idx cL.2.2.1 (0:Int)).bind λ v4=>(bif !v3==v4 then ((idx b8 cR).bind λ v5=>(bif decide (cG.length+(1:Nat)<=memMax)then (some (Sum.inr (cG++[v5])))else none))else (some (Sum.inr (cG)))))
def yN0(cL:Q2)(aj aA aB bS bT bU bV:Int)(bW:List UInt8)(bX:Int)(bY:List (Q3))(b8:List (List UInt8))(bw:List (Q6))(ck cm cn co cp cr cu:Int)(cw:List UInt8)(cx:Int)(cG:List (List UInt8)):Option ((Q1)×Int×Unit):=
  (some (((aj,(aA,aB,()),bS,bT,bU,bV,bW,bX,bY,cG,bw,()),(0:Int),())))
theorem yE0(n:Nat)(hn:big<=n)(cL:Q2)(aj aA aB bS bT bU bV:Int)(bW:List UInt8)(bX:Int)(bY:List (Q3))(b8:List (List UInt8))(bw:List (Q6))(ck cm cn co cp cr cu:Int)(cw:List UInt8)(cx:Int)(cG:List (List UInt8))(hx:List.length (b8) < yB):LeF some (yR (λ af cD ac=>yIf cL aj aA aB bS bT bU bV bW bX bY b8 bw ck cm cn co cp cr cu cw cx af cD ac) (λ ac=>yN0 cL aj aA aB bS bT bU bV bW bX bY b8 bw ck cm cn co cp cr cu cw cx ac) 0 (b8) cG) (y7b n n cL 0 aj aA aB bS bT bU bV bW bX bY b8 bw ck cm cn co cp cr cu cw cx cG):=by
  refine yo (f:=some) (W:=λ bA af ac=>y7b n bA cL af aj aA aB bS bT bU bV bW bX bY b8 bw ck cm cn co cp cr cu cw cx ac) (λ bA af ac=>?_) hx cG n (by unfold big at hn;unfold yB at hx;omega)
  show LeF _ _ (yFm n (y7b n bA) cL af aj aA aB bS bT bU bV bW bX bY b8 bw ck cm cn co cp cr cu cw cx ac)
  exact y7 (yF λ v3=>(yF λ v4=>(y7 (yF λ v5=>(y7 (y9 rfl) y03)) (y9 rfl)))) (y1I (y9 rfl))
def yAc(bh:Q2)(aa:Bool)(bc ak am aq ar au av aw:Int)(ax:List UInt8)(ay:Int)(az:List (Q3))(a7:List (List UInt8))(ae:List (Q6))(aE aF aG aH aI aJ aK:Int)(aL:List UInt8)(aM:Int)(b4:List (List UInt8))(j15:Bool):Option (((Q1)×Int×Unit)⊕(Bool×List (List UInt8))):=
  (bif j15 then ((idx bh.2.2.1 (0:Int)).bind λ v16=>(bif decide (b4.length+(1:Nat)<=memMax)then ((idx a7 bc).bind λ v18=>(bif decide ((b4++[v16]).length+(1:Nat)<=memMax)then (some (Sum.inr ((Bool.true),(b4++[v16]++[v18]))))else none))else none))else ((idx a7 bc).bind λ v19=>(bif decide (b4.length+(1:Nat)<=memMax)then (some (Sum.inr ((aa),(b4++[v19]))))else none)))
theorem y2R(n:Nat)(hn:big<=n)(r11:Q2->Bool->Int->Int->Int->Int->Int->Int->Int->Int->List UInt8->Int->List (Q3)->List (List UInt8)->List (Q6)->Int->Int->Int->Int->Int->Int->Int->List UInt8->Int->List (List UInt8)->Option ((Q1)×Int×Unit))(bh:Q2)(aa:Bool)(bc ak am aq ar au av aw:Int)(ax:List UInt8)(ay:Int)(az:List (Q3))(a7:List (List UInt8))(ae:List (Q6))(aE aF aG aH aI aJ aK:Int)(aL:List UInt8)(aM:Int)(b4:List (List UInt8))(j15:Bool):LeF (elim some λ (ac:(Bool×List (List UInt8)))=>r11 bh ac.1 (i64.wrap (bc+1)) ak am aq ar au av aw ax ay az a7 ae aE aF aG aH aI aJ aK aL aM ac.2) (yAc bh aa bc ak am aq ar au av aw ax ay az a7 ae aE aF aG aH aI aJ aK aL aM b4 j15) (y8T n r11 bh aa bc ak am aq ar au av aw ax ay az a7 ae aE aF aG aH aI aJ aK aL aM b4 j15):=
  (y7 (yF λ v16=>(y7 (yF λ v18=>(y7 (y9 rfl) y03)) y03)) (yF λ v19=>(y7 (y9 rfl) y03)))
def yER(bh:Q2)(ak am aq ar au av aw:Int)(ax:List UInt8)(ay:Int)(az:List (Q3))(a7:List (List UInt8))(ae:List (Q6))(aE aF aG aH aI aJ aK:Int)(aL:List UInt8)(aM bc:Int)(aa:Bool)(b4:List (List UInt8)):Option (((Q1)×Int×Unit)⊕(Bool×List (List UInt8))):=
  (bif !aa then ((idx bh.2.2.1 (0:Int)).bind λ v12=>((idx a7 bc).bind λ v13=>(yAc bh aa bc ak am aq ar au av aw ax ay az a7 ae aE aF aG aH aI aJ aK aL aM b4 (Go.Op.bytesLess v12 v13))))else (yAc bh aa bc ak am aq ar au av aw ax ay az a7 ae aE aF aG aH aI aJ aK aL aM b4 (Bool.false)))
def yDK(bh:Q2)(ak am aq ar au av aw:Int)(ax:List UInt8)(ay:Int)(az:List (Q3))(a7:List (List UInt8))(ae:List (Q6))(aE aF aG aH aI aJ aK:Int)(aL:List UInt8)(aM:Int)(aa:Bool)(b4:List (List UInt8)):Option ((Q1)×Int×Unit):=
  (bif !aa then ((idx bh.2.2.1 (0:Int)).bind λ v20=>(bif decide (b4.length+(1:Nat)<=memMax)then (some (((ak,(am,aq,()),ar,au,av,aw,ax,ay,az,b4++[v20],ae,()),(0:Int),())))else none))else (some (((ak,(am,aq,()),ar,au,av,aw,ax,ay,az,b4,ae,()),(0:Int),()))))
theorem yBb(n:Nat)(hn:big<=n)(bh:Q2)(ak am aq ar au av aw:Int)(ax:List UInt8)(ay:Int)(az:List (Q3))(a7:List (List UInt8))(ae:List (Q6))(aE aF aG aH aI aJ aK:Int)(aL:List UInt8)(aM:Int)(aa:Bool)(b4:List (List UInt8))(hx:((↑a7.length:Int))<=9223372036854775807):LeF some (y2y (λ af ac=>yER bh ak am aq ar au av aw ax ay az a7 ae aE aF aG aH aI aJ aK aL aM af ac.1 ac.2) (λ ac=>yDK bh ak am aq ar au av aw ax ay az a7 ae aE aF aG aH aI aJ aK aL aM ac.1 ac.2) (((↑a7.length:Int)) - 0).toNat 0 (aa,b4)) (y5Q n n bh aa 0 ak am aq ar au av aw ax ay az a7 ae aE aF aG aH aI aJ aK aL aM b4):=by
  refine y4a (f:=some) (W:=λ bA af ac=>y5Q n bA bh ac.1 af ak am aq ar au av aw ax ay az a7 ae aE aF aG aH aI aJ aK aL aM ac.2) (λ bA af ac=>?_) hx (aa,b4) n 0 (by decide) (by unfold big at hn;omega)
  show LeF _ _ (yCe n (y5Q n bA) bh ac.1 af ak am aq ar au av aw ax ay az a7 ae aE aF aG aH aI aJ aK aL aM ac.2)
  exact y7 (y7 (yF λ v12=>(yF λ v13=>(by apply y2R n hn))) (by apply y2R n hn)) (y1I (y7 (yF λ v20=>(y7 (y9 rfl) y03)) (y9 rfl)))
def yI4(cK:Q2)(bj bl bm bn bp bq br:Int)(bu:List UInt8)(bv:Int)(b5:List (Q3))(aC:List (List UInt8))(aZ:List (Q6))(bE bF bG bH bI bJ bK:Int)(bL:List UInt8)(bM:Int)(cM:List (List UInt8))(cO:Int)(b9:Bool):Option (((Q1)×Int×Unit)⊕(Bool)):=
  (bif b9 then (some (Sum.inr (Bool.true)))else ((idx b5 cO).bind λ v7=>(some (Sum.inr (v7.2.1)))))
def yIJ(cK:Q2)(bj bl bm bn bp bq br:Int)(bu:List UInt8)(bv:Int)(b5:List (Q3))(aC:List (List UInt8))(aZ:List (Q6))(bE bF bG bH bI bJ bK:Int)(bL:List UInt8)(bM:Int)(cM:List (List UInt8))(b9:Bool):Option ((Q1)×Int×Unit):=
  (bif b9 then (some (((bj,(bl,bm,()),bn,bp,bq,br,bu,bv,b5,aC,aZ,()),(20:Int),())))else (bif decide ((↑aC.length:Int) >= 16)then (some (((bj,(bl,bm,()),bn,bp,bq,br,bu,bv,b5,aC,aZ,()),(5:Int),())))else (bif decide (((↑aC.length:Int))<=9223372036854775807)then y2y (λ af ac=>yER (cK) (bj) (bl) (bm) (bn) (bp) (bq) (br) (bu) (bv) (b5) (aC) (aZ) (bE) (bF) (bG) (bH) (bI) (bJ) (bK) (bL) (bM) af ac.1 ac.2) (λ ac=>yDK (cK) (bj) (bl) (bm) (bn) (bp) (bq) (br) (bu) (bv) (b5) (aC) (aZ) (bE) (bF) (bG) (bH) (bI) (bJ) (bK) (bL) (bM) ac.1 ac.2) (((↑aC.length:Int)) - 0).toNat 0 ((Bool.false),(cM))else none)))
theorem yET(n:Nat)(hn:big<=n)(cK:Q2)(bj bl bm bn bp bq br:Int)(bu:List UInt8)(bv:Int)(b5:List (Q3))(aC:List (List UInt8))(aZ:List (Q6))(bE bF bG bH bI bJ bK:Int)(bL:List UInt8)(bM:Int)(cM:List (List UInt8))(b9:Bool)(hx:((↑b5.length:Int))<=9223372036854775807):LeF some (y2y (λ af ac=>yI4 cK bj bl bm bn bp bq br bu bv b5 aC aZ bE bF bG bH bI bJ bK bL bM cM af ac) (λ ac=>yIJ cK bj bl bm bn bp bq br bu bv b5 aC aZ bE bF bG bH bI bJ bK bL bM cM ac) (((↑b5.length:Int)) - 0).toNat 0 b9) (y7l n n cK b9 0 bj bl bm bn bp bq br bu bv b5 aC aZ bE bF bG bH bI bJ bK bL bM cM):=by
  refine y4a (f:=some) (W:=λ bA af ac=>y7l n bA cK ac af bj bl bm bn bp bq br bu bv b5 aC aZ bE bF bG bH bI bJ bK bL bM cM) (λ bA af ac=>?_) hx b9 n 0 (by decide) (by unfold big at hn;omega)
  show LeF _ _ (yEt n (y7l n bA) cK ac af bj bl bm bn bp bq br bu bv b5 aC aZ bE bF bG bH bI bJ bK bL bM cM)
  exact y7 (y7 (y9 rfl) (yF λ v7=>(y9 rfl))) (y1I (y7 (y9 rfl) (y7 (y9 rfl) (yl λ hx=>by apply yBb n hn;exact hx))))
def yEK(rp:Q1)(e:Q2):Option ((Q1)×Int×Unit):=
  ((idx e.2.2.1 (0:Int)).bind λ v0=>((yE6 rp.2.2.2.2.2.2.2.2.2.1 v0).bind λ v1=>(bif e.2.1==[(108:UInt8),101,97,118,101]then (bif !v1.1 then (some ((rp,(10:Int),())))else (bif decide (List.length (rp.2.2.2.2.2.2.2.2.2.1) < yB)then yR (λ af cD ac=>yIf (e) (rp.1) (rp.2.1.1) (rp.2.1.2.1) (rp.2.2.1) (rp.2.2.2.1) (rp.2.2.2.2.1) (rp.2.2.2.2.2.1) (rp.2.2.2.2.2.2.1) (rp.2.2.2.2.2.2.2.1) (rp.2.2.2.2.2.2.2.2.1) (rp.2.2.2.2.2.2.2.2.2.1) (rp.2.2.2.2.2.2.2.2.2.2.1) ((0:Int)) ((0:Int)) ((0:Int)) ((0:Int)) ((0:Int)) ((0:Int)) ((0:Int)) ([]) ((0:Int)) af cD ac) (λ ac=>yN0 (e) (rp.1) (rp.2.1.1) (rp.2.1.2.1) (rp.2.2.1) (rp.2.2.2.1) (rp.2.2.2.2.1) (rp.2.2.2.2.2.1) (rp.2.2.2.2.2.2.1) (rp.2.2.2.2.2.2.2.1) (rp.2.2.2.2.2.2.2.2.1) (rp.2.2.2.2.2.2.2.2.2.1) (rp.2.2.2.2.2.2.2.2.2.2.1) ((0:Int)) ((0:Int)) ((0:Int)) ((0:Int)) ((0:Int)) ((0:Int)) ((0:Int)) ([]) ((0:Int)) ac) 0 (rp.2.2.2.2.2.2.2.2.2.1) ([])else none))else (bif v1.1 then (some ((rp,(9:Int),())))else (bif decide (((↑rp.2.2.2.2.2.2.2.2.1.length:Int))<=9223372036854775807)then y2y (λ af ac=>yI4 (e) (rp.1) (rp.2.1.1) (rp.2.1.2.1) (rp.2.2.1) (rp.2.2.2.1) (rp.2.2.2.2.1) (rp.2.2.2.2.2.1) (rp.2.2.2.2.2.2.1) (rp.2.2.2.2.2.2.2.1) (rp.2.2.2.2.2.2.2.2.1) (rp.2.2.2.2.2.2.2.2.2.1) (rp.2.2.2.2.2.2.2.2.2.2.1) ((0:Int)) ((0:Int)) ((0:Int)) ((0:Int)) ((0:Int)) ((0:Int)) ((0:Int)) ([]) ((0:Int)) ([]) af ac) (λ ac=>yIJ (e) (rp.1) (rp.2.1.1) (rp.2.1.2.1) (rp.2.2.1) (rp.2.2.2.1) (rp.2.2.2.2.1) (rp.2.2.2.2.2.1) (rp.2.2.2.2.2.2.1) (rp.2.2.2.2.2.2.2.1) (rp.2.2.2.2.2.2.2.2.1) (rp.2.2.2.2.2.2.2.2.2.1) (rp.2.2.2.2.2.2.2.2.2.2.1) ((0:Int)) ((0:Int)) ((0:Int)) ((0:Int)) ((0:Int)) ((0:Int)) ((0:Int)) ([]) ((0:Int)) ([]) ac) (((↑rp.2.2.2.2.2.2.2.2.1.length:Int)) - 0).toNat 0 (rp.2.2.2.2.2.2.1==[(99:UInt8),108,111,115,101])else none)))))
abbrev z0U_e:Entry:={ f:=120,args:=.pair t41 (.pair t56 .unit),rS:=.pair t41 (.pair t3 .unit),m:=λ x=>yEK x.1 x.2.1 }
theorem yPM:FnOK Tryz.prog z0U_e:=fB (mu:=[2,7]) Tryz.f120 (λ n x=>yS8 n x.1 x.2.1) [[2,3,4,7,8],[2,3,4,7,9,10],[2,3,4,7,11,12]] (yE yPK eNil) λ n hn x=>(yF λ v0=>(yF λ v1=>(y7 (y7 (y9 rfl) (yl λ hx=>by apply yE0 n hn;exact hx)) (y7 (y9 rfl) (yl λ hx=>by apply yET n hn;exact hx)))))
def yPJ(n:Nat)(e:Q2):Option (List UInt8×Unit):=
  ((yBl e.1).bind λ v0=>(bif decide ((2:Nat)+e.2.2.1.length<=memMax)then ((zJ_M e.2.2.2.1 λ (x:Int×Unit)=>yBl x.1).bind λ v1=>(bif decide (([v0.1,e.2.1]++e.2.2.1).length+v1.1.length<=memMax)then ((yHZ ([v0.1,e.2.1]++e.2.2.1++v1.1) [(32:UInt8)]).bind λ v2=>some (v2.1,()))else none))else none))
def yPY(e:Q2):Option (List UInt8×Unit):=yPJ 0 e
abbrev z0X_e:Entry:={ f:=122,args:=.pair t56 .unit,rS:=.pair t9 .unit,m:=λ x=>yPY x.1 }
theorem yPG:FnOK Tryz.prog z0X_e:=fF (mu:=[9]) 0 Tryz.f122 (λ n x=>yPJ n x.1) [] (yE yA6 (yE yQi (yE yJP eNil)))
def zf_m(n:Nat)(rp:Q1)(p1:List (List UInt8)):Option (Q6):=
  some ((zM rp).1,(0:Int),())
def zf(rp:Q1)(p1:List (List UInt8)):(Q6):=
  ((zM rp).1,(0:Int),())
abbrev zf_M (rp:Q1)(p1:List (List UInt8)):Option (Q6):=some (zf rp p1)
abbrev zf_e:Entry:={ f:=133,args:=.pair t60 (.pair t38 .unit),rS:=.pair t9 (.pair t29 .unit),m:=λ x=>zf_M x.1 x.2.1 }
theorem yPa:FnOK Tryz.prog zf_e:=fF (hm:=by intro x;show some (zf x.1 x.2.1)=zf_m 0 x.1 x.2.1;unfold zf_m zf;first|rfl|(simp only[yH];done)|(simp only[yH];rfl)) 0 Tryz.f133 (λ n x=>zf_m n x.1 x.2.1) [] (yE yJH eNil)
def zg_m(n:Nat)(rp:Q1)(p1:List (List UInt8)):Option (Q6):=
  ((yBl rp.2.2.2.2.2.2.2.1).bind λ v0=>((yGR [rp.2.2.2.2.2.2.1,v0.1]).bind λ v1=>some (v1.1,v1.2.1,())))
def zg_M(rp:Q1)(p1:List (List UInt8)):Option (Q6):=zg_m 0 rp p1
abbrev zg_e:Entry:={ f:=134,args:=.pair t60 (.pair t38 .unit),rS:=.pair t9 (.pair t29 .unit),m:=λ x=>zg_M x.1 x.2.1 }
theorem yQA:FnOK Tryz.prog zg_e:=fF 0 Tryz.f134 (λ n x=>zg_m n x.1 x.2.1) [] (yE yA6 (yE yCB eNil))
def zi_m(n:Nat)(rp:Q1)(p1:List (List UInt8)):Option (Q6):=
  ((yGR rp.2.2.2.2.2.2.2.2.2.1).bind λ v0=>some (v0.1,v0.2.1,()))
def zi_M(rp:Q1)(p1:List (List UInt8)):Option (Q6):=zi_m 0 rp p1
abbrev zi_e:Entry:={ f:=139,args:=.pair t60 (.pair t38 .unit),rS:=.pair t9 (.pair t29 .unit),m:=λ x=>zi_M x.1 x.2.1 }
theorem yPW:FnOK Tryz.prog zi_e:=fF 0 Tryz.f139 (λ n x=>zi_m n x.1 x.2.1) [] (yE yCB eNil)
def yQq(n:Nat)(l:List Int):Option (Q6):=
  ((zJ_M l λ (x:Int×Unit)=>yBl x.1).bind λ v0=>((yGR v0.1).bind λ v1=>some (v1.1,v1.2.1,())))
def yOc(l:List Int):Option (Q6):=yQq 0 l
abbrev z04_e:Entry:={ f:=143,args:=.pair t34 .unit,rS:=.pair t9 (.pair t29 .unit),m:=λ x=>yOc x.1 }
theorem yMn:FnOK Tryz.prog z04_e:=fF 0 Tryz.f143 (λ n x=>yQq n x.1) [] (yE yQi (yE yA6 (yE yCB eNil)))
def zD_m(n:Nat)(s:List (List UInt8))(v:List UInt8):Option (Bool×Unit):=
  ((zG_M s v).bind λ v0=>some (decide (v0.1 >= 0),()))
def zD_M(s:List (List UInt8))(v:List UInt8):Option (Bool×Unit):=zD_m 0 s v
abbrev zD_e:Entry:={ f:=147,args:=.pair t38 (.pair t9 .unit),rS:=.pair t4 .unit,m:=λ x=>zD_M x.1 x.2.1 }
theorem yR6:FnOK Tryz.prog zD_e:=fF 0 Tryz.f147 (λ n x=>zD_m n x.1 x.2.1) [] (yE yRL eNil)
def zS_m(n:Nat)(rp:Q1)(name:List UInt8):Option (Int×Unit):=
  ((yJd (↑rp.2.2.2.2.2.2.2.2.2.2.1.length:Int) λ (x:Int×Unit)=>zK_M x.1 rp name).bind λ v0=>some (v0.1,()))
def zS_M(rp:Q1)(name:List UInt8):Option (Int×Unit):=zS_m 0 rp name
abbrev zS_e:Entry:={ f:=175,args:=.pair t60 (.pair t9 .unit),rS:=.pair t3 .unit,m:=λ x=>zS_M x.1 x.2.1 }
theorem yPh:FnOK Tryz.prog zS_e:=fF 0 Tryz.f175 (λ n x=>zS_m n x.1 x.2.1) [] (yE yR8 (yE yMe eNil))
def zV_m(n:Nat)(s:List UInt8):Option (Int×Unit):=
  (bif !s==[(99:UInt8),108,111,115,101]then (bif !s==[(111:UInt8),112,101,110]then some ((z0a (!s==[(119:UInt8),97,105,116]) (13:Int)).1,())else some ((z0a Bool.false (13:Int)).1,()))else some ((z0a Bool.false (13:Int)).1,()))
def zV(s:List UInt8):(Int×Unit):=
  (bif !s==[(99:UInt8),108,111,115,101]then (bif !s==[(111:UInt8),112,101,110]then ((z0a (!s==[(119:UInt8),97,105,116]) (13:Int)).1,())else ((z0a Bool.false (13:Int)).1,()))else ((z0a Bool.false (13:Int)).1,()))
abbrev zV_M (s:List UInt8):Option (Int×Unit):=some (zV s)
abbrev zV_e:Entry:={ f:=186,args:=.pair t9 .unit,rS:=.pair t29 .unit,m:=λ x=>zV_M x.1 }
theorem yQw:FnOK Tryz.prog zV_e:=fF (hm:=by intro x;show some (zV x.1)=zV_m 0 x.1;unfold zV_m zV;first|rfl|(simp only[yH];done)|(simp only[yH];rfl)) 0 Tryz.f186 (λ n x=>zV_m n x.1) [] (yE y4I eNil)
def yNx(n:Nat)(r0:List UInt8->Int->Int->Int->Option (List UInt8×Unit))(aN:List UInt8)(cX bg a8:Int):Option (List UInt8×Unit):=
  (bif decide (a8 < bg)then ((idx aN a8).bind λ v1=>r0 aN ((i64.wrap (i64.wrap ((317:Int) * cX)+i64.wrap (↑v1.toNat:Int))).tmod (9999877:Int)) bg (i64.wrap (a8+1)))else ((yBl cX).bind λ v2=>((yAv [(48:UInt8)] (i64.wrap ((7:Int) - (↑v2.1.length:Int)))).bind λ v3=>(bif decide (v3.1.length+v2.1.length < strMax)then some (v3.1++v2.1,())else none))))
def yNI(n k:Nat)(aN:List UInt8)(cX bg a8:Int):Option (List UInt8×Unit):=
  iter (λ r y=>yNx n (λ aN cX bg a8=>r ((aN,(cX,(bg,(a8,())))),((),()))) y.1.1 y.1.2.1 y.1.2.2.1 y.1.2.2.2.1) k ((aN,(cX,(bg,(a8,())))),((),()))
def zx_m(n:Nat)(s:List UInt8):Option (List UInt8×Unit):=
  (yNI n n (s) ((1:Int)) ((↑s.length:Int)) ((0:Int)))
def zx_M(s:List UInt8):Option (List UInt8×Unit):=zx_m 1000 s
abbrev zx_e:Entry:={ f:=123,args:=.pair t9 .unit,rS:=.pair t9 .unit,m:=λ x=>zx_M x.1 }
theorem yQm:FnOK Tryz.prog zx_e:=fF 1000 Tryz.f123 (λ n x=>zx_m n x.1) [[0,3,7,8]] (yE yA6 (yE yQG eNil))
end
end Go.Tw
end
