import Derived.Test.YtkfigfhjbejikaaGreatDoorBT
import Derived.Test.YtkfigfhjbejikaaGreatDoorB0
import Derived.Test.YtkfigfhjbejikaaGreatDoorBA
import Derived.Test.YtkfigfhjbejikaaGreatDoorBC
import Derived.Test.YtkfigfhjbejikaaGreatDoorBD
import Derived.Test.YtkfigfhjbejikaaGreatDoorBE
import Derived.Test.YtkfigfhjbejikaaGreatDoorB16
import Derived.Test.YtkfigfhjbejikaaGreatDoorB17
import Derived.Test.YtkfigfhjbejikaaGreatDoorBF
import Derived.Test.YtkfigfhjbejikaaGreatDoorB23
import Derived.Test.YtkfigfhjbejikaaGreatDoorLZ
set_option linter.all false
set_option maxRecDepth 1000000
namespace Go.Tw
open Go.Vx Go.Vx.B Go.Proofs
noncomputable section
def yFo(n:Nat)(r1:List (Int×Int×Unit)->List Rng->Bas->Int->Option (Int×Int×Unit))(r2:List (Int×Int×Unit)->List Rng->Bas->Int->Int->Int->List Rng->Option (Int×Int×Unit))(ae:List (Int×Int×Unit))(ah:List Rng)(af:Bas)(ac:Int)(a8:Int)(aa:Int)(ai:List Rng):Option (Int×Int×Unit):=
  (bif decide (aa < a8)then ((idx ai aa).bind λ v3=>((ai[aa.toNat]?).bind λ v4=>r2 ae ah af ac a8 (IntKind.i64.wrap (aa+1)) (ai.set aa.toNat (v4.1,decide (aa < ac),v4.2.2))))else ((zh_M af ae ai).bind λ v5=>(bif v5.2.1 != 0 then some ((0:Int),v5.2.1,())else (bif v5.1 then some (ac,(0:Int),())else r1 ae ah af (IntKind.i64.wrap (ac - (1:Int)))))))
def y8C(n:Nat)(r1:List (Int×Int×Unit)->List Rng->Bas->Int->Option (Int×Int×Unit))(k:Nat)(ae:List (Int×Int×Unit))(ah:List Rng)(af:Bas)(ac:Int)(a8:Int)(aa:Int)(ai:List Rng):Option (Int×Int×Unit):=
  iter (λ r y=>yFo n r1 (λ ae ah af ac a8 aa ai=>r ((ae,(ah,(af,(ac,(a8,(aa,())))))),((ai,()),()))) y.1.1 y.1.2.1 y.1.2.2.1 y.1.2.2.2.1 y.1.2.2.2.2.1 y.1.2.2.2.2.2.1 y.2.1.1) k ((ae,(ah,(af,(ac,(a8,(aa,())))))),((ai,()),()))
def yGE(n:Nat)(r1:List (Int×Int×Unit)->List Rng->Bas->Int->Option (Int×Int×Unit))(aj:List (Int×Int×Unit))(a7:List Rng)(ak:Bas)(am:Int):Option (Int×Int×Unit):=
  (bif decide (am >= 0)then (bif Bool.true && decide ((0:Int)<=(↑a7.length:Int)) && decide ((↑a7.length:Int)<=(↑memMax:Int)) && (↑a7.length:Int)==(↑a7.length:Int)then (y8C n r1 n (aj) (a7) (ak) (am) ((↑(List.take (List.replicate ((↑a7.length:Int).toNat) ((((0:Int),(0:Int),()),Bool.false,[],())):List Rng).length a7++List.drop a7.length (List.replicate ((↑a7.length:Int).toNat) ((((0:Int),(0:Int),()),Bool.false,[],())):List Rng)).length:Int)) ((0:Int)) (List.take (List.replicate ((↑a7.length:Int).toNat) ((((0:Int),(0:Int),()),Bool.false,[],())):List Rng).length a7++List.drop a7.length (List.replicate ((↑a7.length:Int).toNat) ((((0:Int),(0:Int),()),Bool.false,[],())):List Rng)))else none)else some ((0:Int),(24:Int),()))
def y7y(n:Nat)(k:Nat)(aj:List (Int×Int×Unit))(a7:List Rng)(ak:Bas)(am:Int):Option (Int×Int×Unit):=
  iter (λ r y=>yGE n (λ aj a7 ak am=>r ((aj,(a7,(ak,(am,())))),((),()))) y.1.1 y.1.2.1 y.1.2.2.1 y.1.2.2.2.1) k ((aj,(a7,(ak,(am,())))),((),()))
def yR7(n:Nat)(b:Bas)(v:List (Int×Int×Unit))(l:List Rng):Option (Int×Int×Unit):=
  ((zR_M b v l).bind λ v0=>(bif v0.1 != 0 then some ((0:Int),v0.1,())else (y7y n n (v) (l) (b) ((↑l.length:Int)))))
def y92(ae:List (Int×Int×Unit))(ah:List Rng)(af:Bas)(ac:Int)(a8:Int)(aa:Int)(ai:List Rng):Option (((Int×Int×Unit)⊕Unit)⊕(List Rng)):=
  ((idx ai aa).bind λ v3=>((ai[aa.toNat]?).bind λ v4=>(some (Sum.inr (ai.set aa.toNat (v4.1,decide (aa < ac),v4.2.2))))))
def yAy(ae:List (Int×Int×Unit))(ah:List Rng)(af:Bas)(ac:Int)(a8:Int)(ai:List Rng):Option ((Int×Int×Unit)⊕Unit):=
  ((zh_M af ae ai).bind λ v5=>(bif v5.2.1 != 0 then (some (Sum.inl (((0:Int),v5.2.1,()))))else (bif v5.1 then (some (Sum.inl ((ac,(0:Int),()))))else (some (Sum.inr ())))))
theorem yEz(n:Nat)(hn:big<=n)(r1:List (Int×Int×Unit)->List Rng->Bas->Int->Option (Int×Int×Unit))(ae:List (Int×Int×Unit))(ah:List Rng)(af:Bas)(ac:Int)(a8:Int)(ai:List Rng)(hx:(a8)<=9223372036854775807):LeF (elim some λ (al:Unit)=>r1 ae ah af (IntKind.i64.wrap (ac - 1))) (y0I (λ aq al=>y92 ae ah af ac a8 aq al) (λ al=>yAy ae ah af ac a8 al) ((a8) - 0).toNat 0 ai) (y8C n r1 n ae ah af ac a8 0 ai):=by
  refine y2F (f:=(elim some λ (al:Unit)=>r1 ae ah af (IntKind.i64.wrap (ac - 1)))) (W:=λ ar aq al=>y8C n r1 ar ae ah af ac a8 aq al) (body:=(λ aq al=>y92 ae ah af ac a8 aq al)) (fin:=(λ al=>yAy ae ah af ac a8 al)) (λ ar aq al=>?_) hx ai n 0 (by decide) (by unfold big at hn;omega)
  show LeF _ _ (yFo n r1 (y8C n r1 ar) ae ah af ac a8 aq al)
  exact y7 (y9 λ v3=>(y9 λ v4=>(y8 rfl))) (y06 (y9 λ v5=>(y7 (y8 rfl) (y7 (y8 rfl) (y8 rfl)))))
def yFk(aj:List (Int×Int×Unit))(a7:List Rng)(ak:Bas)(am:Int):Option ((Int×Int×Unit)⊕Unit):=
  (bif Bool.true && decide ((0:Int)<=(↑a7.length:Int)) && decide ((↑a7.length:Int)<=(↑memMax:Int)) && (↑a7.length:Int)==(↑a7.length:Int)then (bif decide (((↑(List.take (List.replicate ((↑a7.length:Int).toNat) ((((0:Int),(0:Int),()),Bool.false,[],())):List Rng).length a7++List.drop a7.length (List.replicate ((↑a7.length:Int).toNat) ((((0:Int),(0:Int),()),Bool.false,[],())):List Rng)).length:Int))<=9223372036854775807)then y0I (λ aq al=>y92 (aj) (a7) (ak) (am) ((↑(List.take (List.replicate ((↑a7.length:Int).toNat) ((((0:Int),(0:Int),()),Bool.false,[],())):List Rng).length a7++List.drop a7.length (List.replicate ((↑a7.length:Int).toNat) ((((0:Int),(0:Int),()),Bool.false,[],())):List Rng)).length:Int)) aq al) (λ al=>yAy (aj) (a7) (ak) (am) ((↑(List.take (List.replicate ((↑a7.length:Int).toNat) ((((0:Int),(0:Int),()),Bool.false,[],())):List Rng).length a7++List.drop a7.length (List.replicate ((↑a7.length:Int).toNat) ((((0:Int),(0:Int),()),Bool.false,[],())):List Rng)).length:Int)) al) (((↑(List.take (List.replicate ((↑a7.length:Int).toNat) ((((0:Int),(0:Int),()),Bool.false,[],())):List Rng).length a7++List.drop a7.length (List.replicate ((↑a7.length:Int).toNat) ((((0:Int),(0:Int),()),Bool.false,[],())):List Rng)).length:Int)) - 0).toNat 0 (List.take (List.replicate ((↑a7.length:Int).toNat) ((((0:Int),(0:Int),()),Bool.false,[],())):List Rng).length a7++List.drop a7.length (List.replicate ((↑a7.length:Int).toNat) ((((0:Int),(0:Int),()),Bool.false,[],())):List Rng))else none)else none)
def yJk(aj:List (Int×Int×Unit))(a7:List Rng)(ak:Bas):Option (Int×Int×Unit):=
  (some (((0:Int),(24:Int),())))
theorem yEc(n:Nat)(hn:big<=n)(aj:List (Int×Int×Unit))(a7:List Rng)(ak:Bas)(i0__:Int)(hx:(-1:Int)<=i0__/\i0__<=9223372036854775807):LeF some (yDi (λ aq al=>yFk aj a7 ak aq) (λ al=>yJk aj a7 ak) (i0__+1).toNat ()) (y7y n n aj a7 ak i0__):=by
  refine yIj (f:=some) (W:=λ ar aq al=>y7y n ar aj a7 ak aq) (body:=(λ aq al=>yFk aj a7 ak aq)) (fin:=(λ al=>yJk aj a7 ak)) (λ ar aq al=>?_) i0__ hx () n hn
  show LeF _ _ (yGE n (y7y n ar) aj a7 ak aq)
  exact y7 (y7 (yO λ hx=>by apply yEz n hn;exact hx) y0H) (y06 (y8 rfl))
def yKO(b:Bas)(v:List (Int×Int×Unit))(l:List Rng):Option (Int×Int×Unit):=
  ((zR_M b v l).bind λ v0=>(bif v0.1 != 0 then (some (((0:Int),v0.1,())))else (bif decide ((-1:Int)<=((↑l.length:Int))/\((↑l.length:Int))<=9223372036854775807)then yDi (λ aq al=>yFk (v) (l) (b) aq) (λ al=>yJk (v) (l) (b)) (((↑l.length:Int))+1).toNat ()else none)))
abbrev z0C_e:Entry:={ f:=69,args:=.pair t41 (.pair t97 (.pair t108 .unit)),rS:=.pair t3 (.pair t35 .unit),m:=λ x=>yKO x.1 x.2.1 x.2.2.1 }
theorem yP9:FnOK Tryz.prog z0C_e:=fB Tryz.f69 (λ n x=>yR7 n x.1 x.2.1 x.2.2.1) [[1,2,3,9],[1,2,3,9,10,34,35]] (yF yOi (yF yPd eNil)) λ n hn x=>(y9 λ v0=>(y7 (y8 rfl) (yO λ hx=>by apply yEc n hn;exact hx)))
end
end Go.Tw
