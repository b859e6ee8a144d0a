import Derived.Test.YtkfigfhjbejikaaGreatDoorBT
import Derived.Test.YtkfigfhjbejikaaGreatDoorBA
import Derived.Test.YtkfigfhjbejikaaGreatDoorBC
import Derived.Test.YtkfigfhjbejikaaGreatDoorBD
import Derived.Test.YtkfigfhjbejikaaGreatDoorBE
import Derived.Test.YtkfigfhjbejikaaGreatDoorB16
import Derived.Test.YtkfigfhjbejikaaGreatDoorB17
import Derived.Test.YtkfigfhjbejikaaGreatDoorBF
import Derived.Test.YtkfigfhjbejikaaGreatDoorB23
import Derived.Test.YtkfigfhjbejikaaGreatDoorLQ
set_option linter.all false
set_option maxRecDepth 1000000
namespace Go.Tw
open Go.Vx Go.Vx.B Go.Proofs
noncomputable section
abbrev yNk:Ty := .pair t41 (.pair t97 (.pair t108 .unit))
abbrev ySY:Ty := .pair t3 (.pair t35 .unit)
def ySm:G := { T := T,E := [zR_e,zh_e],muts := [],fz := [] }
def yUu:List (List Nat) := [[1,2,3,9],[1,2,3,9,10,34,35]]
def yMb (n:Nat):Ann := { keep := yUu,fuel := n,inl := [],deep := 0 }
def yFO (n:Nat) (r1:List (Int×Int×Unit)→List Rng→Bas→Int→Option (Int×Int×Unit)) (r2:List (Int×Int×Unit)→List Rng→Bas→Int→Int→Int→List Rng→Option (Int×Int×Unit)) (ae:List (Int×Int×Unit)) (ah:List Rng) (af:Bas) (ac:Int) (a8:Int) (aa:Int) (ai:List Rng):Option (Int×Int×Unit) :=
  (bif decide (aa < a8) then (Option.bind (idx ai aa) fun (v3:Rng)=>(Option.bind (ai[aa.toNat]?) fun (v4:Rng)=>r2 ae ah af ac a8 (IntKind.i64.wrap (aa + 1)) (ai.set aa.toNat (v4.1,decide (aa < ac),v4.2.2)))) else (Option.bind (zh_M af ae ai) fun (v5:Bool×Int×Unit)=>(bif v5.2.1 != 0 then some ((0:Int),v5.2.1,()) else (bif v5.1 then some (ac,(0:Int),()) else r1 ae ah af (IntKind.i64.wrap (ac - (1:Int)))))))
def y6v (n:Nat) (r1:List (Int×Int×Unit)→List Rng→Bas→Int→Option (Int×Int×Unit)) (k:Nat) (ae:List (Int×Int×Unit)) (ah:List Rng) (af:Bas) (ac:Int) (a8:Int) (aa:Int) (ai:List Rng):Option (Int×Int×Unit) :=
  iter (fun r y=>yFO n r1 (fun ae ah af ac a8 aa ai=>r ((ae,(ah,(af,(ac,(a8,(aa,())))))),((ai,()),()))) y.1.1 y.1.2.1 y.1.2.2.1 y.1.2.2.2.1 y.1.2.2.2.2.1 y.1.2.2.2.2.2.1 y.2.1.1) k ((ae,(ah,(af,(ac,(a8,(aa,())))))),((ai,()),()))
def yFe (n:Nat) (r1:List (Int×Int×Unit)→List Rng→Bas→Int→Option (Int×Int×Unit)) (aj:List (Int×Int×Unit)) (a7:List Rng) (ak:Bas) (al:Int):Option (Int×Int×Unit) :=
  (bif decide (al ≥ 0) then (bif Bool.true && decide ((0:Int)≤(↑a7.length:Int)) && decide ((↑a7.length:Int)≤(↑memMax:Int)) && (↑a7.length:Int)==(↑a7.length:Int) then (y6v n r1 n (aj) (a7) (ak) (al) ((↑(List.take (List.replicate ((↑a7.length:Int).toNat) ((((0:Int),(0:Int),()),Bool.false,[],())):List Rng).length a7 ++ List.drop a7.length (List.replicate ((↑a7.length:Int).toNat) ((((0:Int),(0:Int),()),Bool.false,[],())):List Rng)).length:Int)) ((0:Int)) (List.take (List.replicate ((↑a7.length:Int).toNat) ((((0:Int),(0:Int),()),Bool.false,[],())):List Rng).length a7 ++ List.drop a7.length (List.replicate ((↑a7.length:Int).toNat) ((((0:Int),(0:Int),()),Bool.false,[],())):List Rng))) else none) else some ((0:Int),(24:Int),()))
def y6w (n:Nat)  (k:Nat) (aj:List (Int×Int×Unit)) (a7:List Rng) (ak:Bas) (al:Int):Option (Int×Int×Unit) :=
  iter (fun r y=>yFe n (fun aj a7 ak al=>r ((aj,(a7,(ak,(al,())))),((),()))) y.1.1 y.1.2.1 y.1.2.2.1 y.1.2.2.2.1) k ((aj,(a7,(ak,(al,())))),((),()))
def yLg (n:Nat) (b:Bas) (v:List (Int×Int×Unit)) (l:List Rng):Option (Int×Int×Unit) :=
  (Option.bind (zR_M b v l) fun (v0:Int×Unit)=>(bif v0.1 != 0 then some ((0:Int),v0.1,()) else (y6w n n (v) (l) (b) ((↑l.length:Int)))))
theorem yPM (n:Nat) (x:yNk.den):runF ySm (yMb n) Tryz.f69 yNk ySY x = yLg n x.1 x.2.1 x.2.2.1 := by kernel_rfl
def y7Y (ae:List (Int×Int×Unit)) (ah:List Rng) (af:Bas) (ac:Int) (a8:Int) (aa:Int) (ai:List Rng):Option (((Int×Int×Unit)⊕Unit)⊕(List Rng)) :=
  (Option.bind (idx ai aa) fun (v3:Rng)=>(Option.bind (ai[aa.toNat]?) fun (v4:Rng)=>(some (Sum.inr (ai.set aa.toNat (v4.1,decide (aa < ac),v4.2.2))))))
def y9D (ae:List (Int×Int×Unit)) (ah:List Rng) (af:Bas) (ac:Int) (a8:Int) (ai:List Rng):Option ((Int×Int×Unit)⊕Unit) :=
  (Option.bind (zh_M af ae ai) fun (v5:Bool×Int×Unit)=>(bif v5.2.1 != 0 then (some (Sum.inl (((0:Int),v5.2.1,())))) else (bif v5.1 then (some (Sum.inl ((ac,(0:Int),())))) else (some (Sum.inr ())))))
theorem yDn (n:Nat) (hn:big≤n)  (r1:List (Int×Int×Unit)→List Rng→Bas→Int→Option (Int×Int×Unit)) (ae:List (Int×Int×Unit)) (ah:List Rng) (af:Bas) (ac:Int) (a8:Int) (ai:List Rng) (hx:(a8)≤9223372036854775807):LeF (elim some fun (s__:Unit)=>r1 ae ah af (IntKind.i64.wrap (ac - 1))) (y0G (fun i__ s__=>y7Y ae ah af ac a8 i__ s__) (fun s__=>y9D ae ah af ac a8 s__) ((a8) - 0).toNat 0 ai) (y6v n r1 n ae ah af ac a8 0 ai) := by
  refine y1k (f := (elim some fun (s__:Unit)=>r1 ae ah af (IntKind.i64.wrap (ac - 1)))) (W := fun k__ i__ s__=>y6v n r1 k__ ae ah af ac a8 i__ s__) (body := (fun i__ s__=>y7Y ae ah af ac a8 i__ s__)) (fin := (fun s__=>y9D ae ah af ac a8 s__)) (fun k__ i__ s__=>?_) hx ai n 0 (by decide) (by unfold big at hn; omega)
  show LeF _ _ (yFO n r1 (y6v n r1 k__) ae ah af ac a8 i__ s__)
  exact y5 (y9 fun v3=>(y9 fun v4=>(y7 rfl))) (y02 (y9 fun v5=>(y5 (y7 rfl) (y5 (y7 rfl) (y7 rfl)))))
def yF5 (aj:List (Int×Int×Unit)) (a7:List Rng) (ak:Bas) (al:Int):Option ((Int×Int×Unit)⊕Unit) :=
  (bif Bool.true && decide ((0:Int)≤(↑a7.length:Int)) && decide ((↑a7.length:Int)≤(↑memMax:Int)) && (↑a7.length:Int)==(↑a7.length:Int) then (bif decide (((↑(List.take (List.replicate ((↑a7.length:Int).toNat) ((((0:Int),(0:Int),()),Bool.false,[],())):List Rng).length a7 ++ List.drop a7.length (List.replicate ((↑a7.length:Int).toNat) ((((0:Int),(0:Int),()),Bool.false,[],())):List Rng)).length:Int))≤9223372036854775807) then y0G (fun i__ s__=>y7Y (aj) (a7) (ak) (al) ((↑(List.take (List.replicate ((↑a7.length:Int).toNat) ((((0:Int),(0:Int),()),Bool.false,[],())):List Rng).length a7 ++ List.drop a7.length (List.replicate ((↑a7.length:Int).toNat) ((((0:Int),(0:Int),()),Bool.false,[],())):List Rng)).length:Int)) i__ s__) (fun s__=>y9D (aj) (a7) (ak) (al) ((↑(List.take (List.replicate ((↑a7.length:Int).toNat) ((((0:Int),(0:Int),()),Bool.false,[],())):List Rng).length a7 ++ List.drop a7.length (List.replicate ((↑a7.length:Int).toNat) ((((0:Int),(0:Int),()),Bool.false,[],())):List Rng)).length:Int)) s__) (((↑(List.take (List.replicate ((↑a7.length:Int).toNat) ((((0:Int),(0:Int),()),Bool.false,[],())):List Rng).length a7 ++ List.drop a7.length (List.replicate ((↑a7.length:Int).toNat) ((((0:Int),(0:Int),()),Bool.false,[],())):List Rng)).length:Int)) - 0).toNat 0 (List.take (List.replicate ((↑a7.length:Int).toNat) ((((0:Int),(0:Int),()),Bool.false,[],())):List Rng).length a7 ++ List.drop a7.length (List.replicate ((↑a7.length:Int).toNat) ((((0:Int),(0:Int),()),Bool.false,[],())):List Rng)) else none) else none)
def yJr (aj:List (Int×Int×Unit)) (a7:List Rng) (ak:Bas):Option (Int×Int×Unit) :=
  (some (((0:Int),(24:Int),())))
theorem yCv (n:Nat) (hn:big≤n)  (aj:List (Int×Int×Unit)) (a7:List Rng) (ak:Bas) (i0__:Int) (hx:(-1:Int)≤i0__ ∧ i0__≤9223372036854775807):LeF some (yBb (fun i__ s__=>yF5 aj a7 ak i__) (fun s__=>yJr aj a7 ak) (i0__ + 1).toNat ()) (y6w n n aj a7 ak i0__) := by
  refine yJn (f := some) (W := fun k__ i__ s__=>y6w n k__ aj a7 ak i__) (body := (fun i__ s__=>yF5 aj a7 ak i__)) (fin := (fun s__=>yJr aj a7 ak)) (fun k__ i__ s__=>?_) i0__ hx () n hn
  show LeF _ _ (yFe n (y6w n k__) aj a7 ak i__)
  exact y5 (y5 (yL fun hx=>by apply yDn n hn; exact hx) yp) (y02 (y7 rfl))
def yCc (b:Bas) (v:List (Int×Int×Unit)) (l:List Rng):Option (Int×Int×Unit) :=
  (Option.bind (zR_M b v l) fun (v0:Int×Unit)=>(bif v0.1 != 0 then (some (((0:Int),v0.1,()))) else (bif decide ((-1:Int)≤((↑l.length:Int)) ∧ ((↑l.length:Int))≤9223372036854775807) then yBb (fun i__ s__=>yF5 (v) (l) (b) i__) (fun s__=>yJr (v) (l) (b)) (((↑l.length:Int)) + 1).toNat () else none)))
theorem yO2 (b:Bas) (v:List (Int×Int×Unit)) (l:List Rng) (y:Int×Int×Unit) (h:yCc b v l = some y) : ∃ n,yLg n b v l = some y :=
  ⟨big,LeF.top (show LeF some (yCc b v l) (yLg big b v l) from (fun (n:Nat) (hn:big≤n)=>show LeF some (yCc b v l) (yLg n b v l) from (y9 fun v0=>(y5 (y7 rfl) (yL fun hx=>by apply yCv n hn; exact hx)))) big (Nat.le_refl _)) h⟩
def z0C_e:Entry := { f := 69,args := yNk,ress := ySY,m := fun x=>yCc x.1 x.2.1 x.2.2.1 }
theorem yTb:FnOK Tryz.prog z0C_e := yT (g := ySm) (fn := Tryz.f69) yH yS (yE yO4 (yE ySy eNil)) (by kernel_rfl) (by kernel_rfl) (by kernel_rfl) (fun x y h=>let ⟨n,hn⟩ := yO2 x.1 x.2.1 x.2.2.1 y h; ⟨yMb n,iNil,(yPM n x).trans hn⟩)
end
end Go.Tw
