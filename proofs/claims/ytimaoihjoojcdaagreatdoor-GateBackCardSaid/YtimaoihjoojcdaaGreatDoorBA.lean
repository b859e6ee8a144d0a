import Derived.Test.YtimaoihjoojcdaaGreatDoorBT
import Derived.Test.YtimaoihjoojcdaaGreatDoorB0
import Derived.Test.YtimaoihjoojcdaaGreatDoorSA
import Derived.Test.YtimaoihjoojcdaaGreatDoorLQ
import Derived.Test.YtimaoihjoojcdaaGreatDoorLR
set_option linter.all false
section
set_option maxRecDepth 1000000
namespace Go.Tw
open Go.Vx Go.Vx.B Go.Proofs
noncomputable section
def yB1 (n:Nat) (r11:Cha→Int→Option (Bool×Unit)) (aC:Cha) (aQ:Int):Option (Bool×Unit) :=
  (bif decide (aQ < (↑aC.2.1.length:Int)) then (Option.bind (idx aC.2.1 aQ) fun (v12:Tra)=>(bif decide ((↑v12.2.1.length:Int) > 40) then some (Bool.false,()) else r11 aC (IntKind.i64.wrap (aQ + 1)))) else some (Bool.true,()))
def y5s (n:Nat)  (k:Nat) (aC:Cha) (aQ:Int):Option (Bool×Unit) :=
  iter (fun r y=>yB1 n (fun aC aQ=>r ((aC,(aQ,())),((),()))) y.1.1 y.1.2.1) k ((aC,(aQ,())),((),()))
def yE8 (n:Nat) (r9:Cha→Int→Option (Bool×Unit)) (aI:Cha) (aX:Int):Option (Bool×Unit) :=
  (bif decide (aX < (↑aI.1.length:Int)) then (Option.bind (idx aI.1 aX) fun (v10:Sta)=>(bif decide ((↑v10.1.length:Int) > 40) then some (Bool.false,()) else r9 aI (IntKind.i64.wrap (aX + 1)))) else (y5s n n (aI) ((0:Int))))
def y78 (n:Nat)  (k:Nat) (aI:Cha) (aX:Int):Option (Bool×Unit) :=
  iter (fun r y=>yE8 n (fun aI aX=>r ((aI,(aX,())),((),()))) y.1.1 y.1.2.1) k ((aI,(aX,())),((),()))
def y3k (n:Nat) (c:Cha):Option (Bool×Unit) :=
  (y78 n n (c) ((0:Int)))
def ySW (n:Nat) (c:Cha):Option (Bool×Unit) :=
  (bif decide ((↑c.1.length:Int) > 7) then (bif (↑c.1.length:Int) != 17 then some (Bool.false,()) else (bif decide ((↑c.2.1.length:Int) > 12) then (bif (↑c.2.1.length:Int) != 49 then some (Bool.false,()) else (y3k n c)) else (y3k n c))) else (bif decide ((↑c.2.1.length:Int) > 12) then (bif (↑c.2.1.length:Int) != 49 then some (Bool.false,()) else (y3k n c)) else (y3k n c)))
def yAl (aC:Cha) (aQ:Int) (v12:Tra):Option ((Bool×Unit)⊕Unit) :=
  (bif decide ((↑v12.2.1.length:Int) > 40) then (some (Sum.inl ((Bool.false,())))) else (some (Sum.inr ())))
def yDs (aC:Cha):Option (Bool×Unit) :=
  (some ((Bool.true,())))
theorem yBL (n:Nat) (hn:big≤n)  (aC:Cha) (hx:List.length (aC.2.1) < lenMax):LeF some (yI (fun aj aB ai=>yAl aC aj aB) (fun ai=>yDs aC) 0 (aC.2.1) ()) (y5s n n aC 0) := by
  refine yQ (f := some) (W := fun ay aj ai=>y5s n ay aC aj) (fun ay aj ai=>?_) hx () n (by unfold big at hn; unfold lenMax at hx; omega)
  show LeF _ _ (yB1 n (y5s n ay) aC aj)
  exact y4 (yA fun v12=>(y4 (y6 rfl) (y6 rfl))) (y0R (y6 rfl))
def yEc (aI:Cha) (aX:Int) (v10:Sta):Option ((Bool×Unit)⊕Unit) :=
  (bif decide ((↑v10.1.length:Int) > 40) then (some (Sum.inl ((Bool.false,())))) else (some (Sum.inr ())))
def yFF (aI:Cha):Option (Bool×Unit) :=
  (bif decide (List.length (aI.2.1) < lenMax) then yI (fun aj aB ai=>yAl (aI) aj aB) (fun ai=>yDs (aI)) 0 (aI.2.1) () else none)
theorem yCo (n:Nat) (hn:big≤n)  (aI:Cha) (hx:List.length (aI.1) < lenMax):LeF some (yI (fun aj aB ai=>yEc aI aj aB) (fun ai=>yFF aI) 0 (aI.1) ()) (y78 n n aI 0) := by
  refine yQ (f := some) (W := fun ay aj ai=>y78 n ay aI aj) (fun ay aj ai=>?_) hx () n (by unfold big at hn; unfold lenMax at hx; omega)
  show LeF _ _ (yE8 n (y78 n ay) aI aj)
  exact y4 (yA fun v10=>(y4 (y6 rfl) (y6 rfl))) (y0R (yW fun hx=>by apply yBL n hn; exact hx))
def y3N (c:Cha):Option (Bool×Unit) :=
  (bif decide (List.length (c.1) < lenMax) then yI (fun aj aB ai=>yEc (c) aj aB) (fun ai=>yFF (c)) 0 (c.1) () else none)
theorem y0Z (n:Nat) (hn:big≤n)  (c:Cha):LeF some (y3N c) (y3k n c) :=
  (yW fun hx=>by apply yCo n hn; exact hx)
def yMm (c:Cha):Option (Bool×Unit) :=
  (bif decide ((↑c.1.length:Int) > 7) then (bif (↑c.1.length:Int) != 17 then (some ((Bool.false,()))) else (bif decide ((↑c.2.1.length:Int) > 12) then (bif (↑c.2.1.length:Int) != 49 then (some ((Bool.false,()))) else (y3N c)) else (y3N c))) else (bif decide ((↑c.2.1.length:Int) > 12) then (bif (↑c.2.1.length:Int) != 49 then (some ((Bool.false,()))) else (y3N c)) else (y3N c)))
abbrev z0j_e:Entry := { f := 6,args := .pair t25 .unit,rS := .pair t4 .unit,m := fun x=>yMm x.1 }
theorem yL3:FnOK Tryz.prog z0j_e := fB Tryz.f6 (fun n x=>ySW n x.1) [[1,3],[1,4]] eNil fun n hn x=>(y4 (y4 (y6 rfl) (y4 (y4 (y6 rfl) (by apply y0Z n hn)) (by apply y0Z n hn))) (y4 (y4 (y6 rfl) (by apply y0Z n hn)) (by apply y0Z n hn)))
def yEt (n:Nat) (r2:List Tra→Int→Int→List Sta→List Tra→Option (Cha×Unit)) (az:List Tra) (aV:Int) (aR:Int) (aG:List Sta) (aE:List Tra):Option (Cha×Unit) :=
  (bif decide (aR < aV) then (Option.bind (idx az aR) fun (v3:Tra)=>(bif decide (aE.length + (1:Nat)≤memMax) then r2 az aV (IntKind.i64.wrap (aR + 1)) aG (aE ++ [(v3.1,v3.2.1,v3.2.2.1,v3.2.2.2.1,v3.2.2.2.2.1,())]) else none)) else some ((aG,aE,()),()))
def y7I (n:Nat)  (k:Nat) (az:List Tra) (aV:Int) (aR:Int) (aG:List Sta) (aE:List Tra):Option (Cha×Unit) :=
  iter (fun r y=>yEt n (fun az aV aR aG aE=>r ((az,(aV,(aR,()))),(((),((),(aG,(aE,())))),()))) y.1.1 y.1.2.1 y.1.2.2.1 y.2.1.2.2.1 y.2.1.2.2.2.1) k ((az,(aV,(aR,()))),(((),((),(aG,(aE,())))),()))
def yE9 (n:Nat) (r0:Cha→List Sta→Int→Int→List Sta→List Tra→Option (Cha×Unit)) (aK:Cha) (ae:List Sta) (a8:Int) (aS:Int) (aD:List Sta) (aH:List Tra):Option (Cha×Unit) :=
  (bif decide (aS < a8) then (Option.bind (idx ae aS) fun (v1:Sta)=>(bif decide (aD.length + (1:Nat)≤memMax) then r0 aK ae a8 (IntKind.i64.wrap (aS + 1)) (aD ++ [(v1.1,v1.2.1,v1.2.2.1,v1.2.2.2.1,())]) aH else none)) else (y7I n n (aK.2.1) ((↑aK.2.1.length:Int)) ((0:Int)) (aD) (aH)))
def y7X (n:Nat)  (k:Nat) (aK:Cha) (ae:List Sta) (a8:Int) (aS:Int) (aD:List Sta) (aH:List Tra):Option (Cha×Unit) :=
  iter (fun r y=>yE9 n (fun aK ae a8 aS aD aH=>r ((aK,(ae,(a8,(aS,())))),(((),((),(aD,(aH,())))),()))) y.1.1 y.1.2.1 y.1.2.2.1 y.1.2.2.2.1 y.2.1.2.2.1 y.2.1.2.2.2.1) k ((aK,(ae,(a8,(aS,())))),(((),((),(aD,(aH,())))),()))
def ySY (n:Nat) (c:Cha):Option (Cha×Unit) :=
  (y7X n n (c) (c.1) ((↑c.1.length:Int)) ((0:Int)) ([]) ([]))
def yHx (az:List Tra) (aG:List Sta) (aR:Int) (v3:Tra) (aE:List Tra):Option ((Cha×Unit)⊕(List Tra)) :=
  (bif decide (aE.length + (1:Nat)≤memMax) then (some (Sum.inr (aE ++ [(v3.1,v3.2.1,v3.2.2.1,v3.2.2.2.1,v3.2.2.2.2.1,())]))) else none)
def yLQ (az:List Tra) (aG:List Sta) (aE:List Tra):Option (Cha×Unit) :=
  (some (((aG,aE,()),())))
theorem yDN (n:Nat) (hn:big≤n)  (az:List Tra) (aG:List Sta) (aE:List Tra) (hx:List.length (az) < lenMax):LeF some (yI (fun aj aB ai=>yHx az aG aj aB ai) (fun ai=>yLQ az aG ai) 0 (az) aE) (y7I n n az (List.length (az):Int) 0 aG aE) := by
  refine yQ (f := some) (W := fun ay aj ai=>y7I n ay az (List.length (az):Int) aj aG ai) (fun ay aj ai=>?_) hx aE n (by unfold big at hn; unfold lenMax at hx; omega)
  show LeF _ _ (yEt n (y7I n ay) az (List.length (az):Int) aj aG ai)
  exact y4 (yA fun v3=>(y4 (y6 rfl) yL)) (y0R (y6 rfl))
def yHg (aK:Cha) (ae:List Sta) (aH:List Tra) (aS:Int) (v1:Sta) (aD:List Sta):Option ((Cha×Unit)⊕(List Sta)) :=
  (bif decide (aD.length + (1:Nat)≤memMax) then (some (Sum.inr (aD ++ [(v1.1,v1.2.1,v1.2.2.1,v1.2.2.2.1,())]))) else none)
def yHN (aK:Cha) (ae:List Sta) (aH:List Tra) (aD:List Sta):Option (Cha×Unit) :=
  (bif decide (List.length (aK.2.1) < lenMax) then yI (fun aj aB ai=>yHx (aK.2.1) (aD) aj aB ai) (fun ai=>yLQ (aK.2.1) (aD) ai) 0 (aK.2.1) (aH) else none)
theorem yDa (n:Nat) (hn:big≤n)  (aK:Cha) (ae:List Sta) (aH:List Tra) (aD:List Sta) (hx:List.length (ae) < lenMax):LeF some (yI (fun aj aB ai=>yHg aK ae aH aj aB ai) (fun ai=>yHN aK ae aH ai) 0 (ae) aD) (y7X n n aK ae (List.length (ae):Int) 0 aD aH) := by
  refine yQ (f := some) (W := fun ay aj ai=>y7X n ay aK ae (List.length (ae):Int) aj ai aH) (fun ay aj ai=>?_) hx aD n (by unfold big at hn; unfold lenMax at hx; omega)
  show LeF _ _ (yE9 n (y7X n ay) aK ae (List.length (ae):Int) aj ai aH)
  exact y4 (yA fun v1=>(y4 (y6 rfl) yL)) (y0R (yW fun hx=>by apply yDN n hn; exact hx))
def yMQ (c:Cha):Option (Cha×Unit) :=
  (bif decide (List.length (c.1) < lenMax) then yI (fun aj aB ai=>yHg (c) (c.1) ([]) aj aB ai) (fun ai=>yHN (c) (c.1) ([]) ai) 0 (c.1) ([]) else none)
abbrev z0e_e:Entry := { f := 8,args := .pair t25 .unit,rS := .pair t34 .unit,m := fun x=>yMQ x.1 }
theorem yLB:FnOK Tryz.prog z0e_e := fB (mu := [3]) Tryz.f8 (fun n x=>ySY n x.1) [[1,2,3,9,10,11],[2,3,23,24,25]] eNil fun n hn x=>(yW fun hx=>by apply yDa n hn; exact hx)
def yFR (n:Nat) (r0:List (List UInt8)→List (List UInt8)→Int→Option (Bool×Unit)) (am:List (List UInt8)) (ar:List (List UInt8)) (aq:Int):Option (Bool×Unit) :=
  (bif decide (aq < (↑am.length:Int)) then (Option.bind (idx am aq) fun (v1:List UInt8)=>(Option.bind (idx ar aq) fun (v2:List UInt8)=>(bif !v1==v2 then some (Bool.false,()) else r0 am ar (IntKind.i64.wrap (aq + 1))))) else some (Bool.true,()))
def y71 (n:Nat)  (k:Nat) (am:List (List UInt8)) (ar:List (List UInt8)) (aq:Int):Option (Bool×Unit) :=
  iter (fun r y=>yFR n (fun am ar aq=>r ((am,(ar,(aq,()))),((),()))) y.1.1 y.1.2.1 y.1.2.2.1) k ((am,(ar,(aq,()))),((),()))
def ySZ (n:Nat) (a:List (List UInt8)) (b:List (List UInt8)):Option (Bool×Unit) :=
  (bif (↑a.length:Int) != (↑b.length:Int) then some (Bool.false,()) else (y71 n n (a) (b) ((0:Int))))
def yLM (am:List (List UInt8)) (ar:List (List UInt8)) (aq:Int) (v1:List UInt8):Option ((Bool×Unit)⊕Unit) :=
  (Option.bind (idx ar aq) fun (v2:List UInt8)=>(bif !v1==v2 then (some (Sum.inl ((Bool.false,())))) else (some (Sum.inr ()))))
def yLY (am:List (List UInt8)) (ar:List (List UInt8)):Option (Bool×Unit) :=
  (some ((Bool.true,())))
theorem yDU (n:Nat) (hn:big≤n)  (am:List (List UInt8)) (ar:List (List UInt8)) (hx:List.length (am) < lenMax):LeF some (yI (fun aj aB ai=>yLM am ar aj aB) (fun ai=>yLY am ar) 0 (am) ()) (y71 n n am ar 0) := by
  refine yQ (f := some) (W := fun ay aj ai=>y71 n ay am ar aj) (fun ay aj ai=>?_) hx () n (by unfold big at hn; unfold lenMax at hx; omega)
  show LeF _ _ (yFR n (y71 n ay) am ar aj)
  exact y4 (yA fun v1=>(yA fun v2=>(y4 (y6 rfl) (y6 rfl)))) (y0R (y6 rfl))
def yN8 (a:List (List UInt8)) (b:List (List UInt8)):Option (Bool×Unit) :=
  (bif (↑a.length:Int) != (↑b.length:Int) then (some ((Bool.false,()))) else (bif decide (List.length (a) < lenMax) then yI (fun aj aB ai=>yLM (a) (b) aj aB) (fun ai=>yLY (a) (b)) 0 (a) () else none))
abbrev z01_e:Entry := { f := 26,args := .pair t51 (.pair t51 .unit),rS := .pair t4 .unit,m := fun x=>yN8 x.1 x.2.1 }
theorem yQv:FnOK Tryz.prog z01_e := fB Tryz.f26 (fun n x=>ySZ n x.1 x.2.1) [[0,1,5]] eNil fun n hn x=>(y4 (y6 rfl) (yW fun hx=>by apply yDU n hn; exact hx))
def zt_m (n:Nat) (np:Int) (low:Int) (high:Int):Option (Int×Unit) :=
  (bif decide (np < low) then some ((3:Int),()) else (bif decide (np > high) then some ((3:Int),()) else some ((0:Int),())))
def zt (np:Int) (low:Int) (high:Int):(Int×Unit) :=
  (bif decide (np < low) then ((3:Int),()) else (bif decide (np > high) then ((3:Int),()) else ((0:Int),())))
abbrev zt_M (np:Int) (low:Int) (high:Int):Option (Int×Unit) := some (zt np low high)
abbrev zt_e:Entry := { f := 47,args := .pair t3 (.pair t3 (.pair t3 .unit)),rS := .pair t3 .unit,m := fun x=>zt_M x.1 x.2.1 x.2.2.1 }
theorem ySO:FnOK Tryz.prog zt_e := fF (hm := by intro x; show some (zt x.1 x.2.1 x.2.2.1) = zt_m 0 x.1 x.2.1 x.2.2.1; unfold zt_m zt; first | rfl | simp only [ya]) 0 Tryz.f47 (fun n x=>zt_m n x.1 x.2.1 x.2.2.1) [] eNil
def yEV (n:Nat) (r0:List Int→List Int→Int→Option (Bool×Unit)) (am:List Int) (ar:List Int) (aq:Int):Option (Bool×Unit) :=
  (bif decide (aq < (↑am.length:Int)) then (Option.bind (idx am aq) fun (v1:Int)=>(Option.bind (idx ar aq) fun (v2:Int)=>(bif v1 != v2 then some (Bool.false,()) else r0 am ar (IntKind.i64.wrap (aq + 1))))) else some (Bool.true,()))
def y7H (n:Nat)  (k:Nat) (am:List Int) (ar:List Int) (aq:Int):Option (Bool×Unit) :=
  iter (fun r y=>yEV n (fun am ar aq=>r ((am,(ar,(aq,()))),((),()))) y.1.1 y.1.2.1 y.1.2.2.1) k ((am,(ar,(aq,()))),((),()))
def yRV (n:Nat) (a:List Int) (b:List Int):Option (Bool×Unit) :=
  (bif (↑a.length:Int) != (↑b.length:Int) then some (Bool.false,()) else (y7H n n (a) (b) ((0:Int))))
def yLP (am:List Int) (ar:List Int) (aq:Int) (v1:Int):Option ((Bool×Unit)⊕Unit) :=
  (Option.bind (idx ar aq) fun (v2:Int)=>(bif v1 != v2 then (some (Sum.inl ((Bool.false,())))) else (some (Sum.inr ()))))
def yLb (am:List Int) (ar:List Int):Option (Bool×Unit) :=
  (some ((Bool.true,())))
theorem yDI (n:Nat) (hn:big≤n)  (am:List Int) (ar:List Int) (hx:List.length (am) < lenMax):LeF some (yI (fun aj aB ai=>yLP am ar aj aB) (fun ai=>yLb am ar) 0 (am) ()) (y7H n n am ar 0) := by
  refine yQ (f := some) (W := fun ay aj ai=>y7H n ay am ar aj) (fun ay aj ai=>?_) hx () n (by unfold big at hn; unfold lenMax at hx; omega)
  show LeF _ _ (yEV n (y7H n ay) am ar aj)
  exact y4 (yA fun v1=>(yA fun v2=>(y4 (y6 rfl) (y6 rfl)))) (y0R (y6 rfl))
def yId (a:List Int) (b:List Int):Option (Bool×Unit) :=
  (bif (↑a.length:Int) != (↑b.length:Int) then (some ((Bool.false,()))) else (bif decide (List.length (a) < lenMax) then yI (fun aj aB ai=>yLP (a) (b) aj aB) (fun ai=>yLb (a) (b)) 0 (a) () else none))
abbrev z09_e:Entry := { f := 25,args := .pair t45 (.pair t45 .unit),rS := .pair t4 .unit,m := fun x=>yId x.1 x.2.1 }
theorem yRC:FnOK Tryz.prog z09_e := fB Tryz.f25 (fun n x=>yRV n x.1 x.2.1) [[0,1,5]] eNil fun n hn x=>(y4 (y6 rfl) (yW fun hx=>by apply yDI n hn; exact hx))
def yMT (n:Nat) (r0:List Fai→List Fai→Int→Option (Bool×Unit)) (am:List Fai) (ar:List Fai) (aq:Int):Option (Bool×Unit) :=
  (bif decide (aq < (↑am.length:Int)) then (Option.bind (idx am aq) fun (v1:Fai)=>(Option.bind (idx ar aq) fun (v2:Fai)=>(bif !eqV (Ty.str.pair ((Ty.int IntKind.i64).pair ((Ty.int IntKind.i64).pair ((Ty.int IntKind.i64).pair Ty.unit)))) v1 v2 then some (Bool.false,()) else r0 am ar (IntKind.i64.wrap (aq + 1))))) else some (Bool.true,()))
def yLm (n:Nat)  (k:Nat) (am:List Fai) (ar:List Fai) (aq:Int):Option (Bool×Unit) :=
  iter (fun r y=>yMT n (fun am ar aq=>r ((am,(ar,(aq,()))),((),()))) y.1.1 y.1.2.1 y.1.2.2.1) k ((am,(ar,(aq,()))),((),()))
def za_m (n:Nat) (a:List Fai) (b:List Fai):Option (Bool×Unit) :=
  (bif (↑a.length:Int) != (↑b.length:Int) then some (Bool.false,()) else (yLm n n (a) (b) ((0:Int))))
def za_M (a:List Fai) (b:List Fai):Option (Bool×Unit) := za_m 1000 a b
abbrev za_e:Entry := { f := 33,args := .pair t87 (.pair t87 .unit),rS := .pair t4 .unit,m := fun x=>za_M x.1 x.2.1 }
theorem yS8:FnOK Tryz.prog za_e := fF 1000 Tryz.f33 (fun n x=>za_m n x.1 x.2.1) [[0,1,5]] eNil
def yK4 (n:Nat) (r0:List Fai→Int→Int→List Fai→Option (List Fai×Unit)) (aJ:List Fai) (au:Int) (a7:Int) (ac:List Fai):Option (List Fai×Unit) :=
  (bif decide (a7 < au) then (Option.bind (idx aJ a7) fun (v1:Fai)=>(bif decide (ac.length + (1:Nat)≤memMax) then r0 aJ au (IntKind.i64.wrap (a7 + 1)) (ac ++ [(v1.1,v1.2.1,v1.2.2.1,v1.2.2.2.1,())]) else none)) else some (ac,()))
def yJN (n:Nat)  (k:Nat) (aJ:List Fai) (au:Int) (a7:Int) (ac:List Fai):Option (List Fai×Unit) :=
  iter (fun r y=>yK4 n (fun aJ au a7 ac=>r ((aJ,(au,(a7,()))),((ac,()),()))) y.1.1 y.1.2.1 y.1.2.2.1 y.2.1.1) k ((aJ,(au,(a7,()))),((ac,()),()))
def yQx (n:Nat) (l:List Fai):Option (List Fai×Unit) :=
  (yJN n n (l) ((↑l.length:Int)) ((0:Int)) ([]))
def yQ2 (l:List Fai):Option (List Fai×Unit) := yQx 1000 l
abbrev z08_e:Entry := { f := 34,args := .pair t81 .unit,rS := .pair t87 .unit,m := fun x=>yQ2 x.1 }
theorem yQk:FnOK Tryz.prog z08_e := fF (mu := [3]) 1000 Tryz.f34 (fun n x=>yQx n x.1) [[3,6,7,8]] eNil
def yNL (n:Nat) (r0:List (List UInt8×Int×Unit)→List (List UInt8×Int×Unit)→Int→Option (Bool×Unit)) (am:List (List UInt8×Int×Unit)) (ar:List (List UInt8×Int×Unit)) (aq:Int):Option (Bool×Unit) :=
  (bif decide (aq < (↑am.length:Int)) then (Option.bind (idx am aq) fun (v1:List UInt8×Int×Unit)=>(Option.bind (idx ar aq) fun (v2:List UInt8×Int×Unit)=>(bif !eqV (Ty.str.pair ((Ty.int IntKind.i64).pair Ty.unit)) v1 v2 then some (Bool.false,()) else r0 am ar (IntKind.i64.wrap (aq + 1))))) else some (Bool.true,()))
def yNB (n:Nat)  (k:Nat) (am:List (List UInt8×Int×Unit)) (ar:List (List UInt8×Int×Unit)) (aq:Int):Option (Bool×Unit) :=
  iter (fun r y=>yNL n (fun am ar aq=>r ((am,(ar,(aq,()))),((),()))) y.1.1 y.1.2.1 y.1.2.2.1) k ((am,(ar,(aq,()))),((),()))
def zv_m (n:Nat) (a:List (List UInt8×Int×Unit)) (b:List (List UInt8×Int×Unit)):Option (Bool×Unit) :=
  (bif (↑a.length:Int) != (↑b.length:Int) then some (Bool.false,()) else (yNB n n (a) (b) ((0:Int))))
def zv_M (a:List (List UInt8×Int×Unit)) (b:List (List UInt8×Int×Unit)):Option (Bool×Unit) := zv_m 1000 a b
abbrev zv_e:Entry := { f := 27,args := .pair t69 (.pair t69 .unit),rS := .pair t4 .unit,m := fun x=>zv_M x.1 x.2.1 }
theorem yRo:FnOK Tryz.prog zv_e := fF 1000 Tryz.f27 (fun n x=>zv_m n x.1 x.2.1) [[0,1,5]] eNil
def yJc (n:Nat) (r0:List (List UInt8×Int×Unit)→Int→Int→List (List UInt8×Int×Unit)→Option (List (List UInt8×Int×Unit)×Unit)) (aJ:List (List UInt8×Int×Unit)) (au:Int) (a7:Int) (ac:List (List UInt8×Int×Unit)):Option (List (List UInt8×Int×Unit)×Unit) :=
  (bif decide (a7 < au) then (Option.bind (idx aJ a7) fun (v1:List UInt8×Int×Unit)=>(bif decide (ac.length + (1:Nat)≤memMax) then r0 aJ au (IntKind.i64.wrap (a7 + 1)) (ac ++ [(v1.1,v1.2.1,())]) else none)) else some (ac,()))
def yJJ (n:Nat)  (k:Nat) (aJ:List (List UInt8×Int×Unit)) (au:Int) (a7:Int) (ac:List (List UInt8×Int×Unit)):Option (List (List UInt8×Int×Unit)×Unit) :=
  iter (fun r y=>yJc n (fun aJ au a7 ac=>r ((aJ,(au,(a7,()))),((ac,()),()))) y.1.1 y.1.2.1 y.1.2.2.1 y.2.1.1) k ((aJ,(au,(a7,()))),((ac,()),()))
def yPe (n:Nat) (l:List (List UInt8×Int×Unit)):Option (List (List UInt8×Int×Unit)×Unit) :=
  (yJJ n n (l) ((↑l.length:Int)) ((0:Int)) ([]))
def yPB (l:List (List UInt8×Int×Unit)):Option (List (List UInt8×Int×Unit)×Unit) := yPe 1000 l
abbrev z0P_e:Entry := { f := 28,args := .pair t57 .unit,rS := .pair t69 .unit,m := fun x=>yPB x.1 }
theorem yOz:FnOK Tryz.prog z0P_e := fF (mu := [3]) 1000 Tryz.f28 (fun n x=>yPe n x.1) [[3,6,7,8]] eNil
abbrev yMj:Ty := .unit
abbrev yQP:Ty := .pair t34 .unit
def yQa:G := { T := T,E := [],mU := [],fz := [] }
def ySF:List (List Nat) := []
def yLi (n:Nat):Ann := { keep := ySF,fuel := n,inl := [],deep := 0 }
def yJZ (n:Nat)  : Option (Cha×Unit) :=
  some (([([(119:UInt8),111,114,107],(-1:Int),(1:Int),Bool.false,()),([(111:UInt8),112,101,110],(0:Int),(-1:Int),Bool.false,()),([(108:UInt8),111,119,101,114],(0:Int),(-1:Int),Bool.true,()),([(99:UInt8),108,111,115,101,100],(0:Int),(-1:Int),Bool.false,()),([(97:UInt8),108,97,114,109],(-1:Int),(-1:Int),Bool.false,())],[((1:Int),[(99:UInt8),108,111,115,101],(2:Int),(1:Int),(0:Int),()),((2:Int),[(100:UInt8),111,110,101],(3:Int),(0:Int),(0:Int),()),((3:Int),[(111:UInt8),112,101,110],(1:Int),(0:Int),(0:Int),()),((0:Int),[(102:UInt8),97,105,108],(4:Int),(0:Int),(0:Int),())],()),())
theorem yPL (n:Nat) (x:yMj.den):runF yQa (yLi n) Tryz.f16 yMj yQP x = yJZ n := by kernel_rfl
def z0r  : (Cha×Unit) :=
  (([([(119:UInt8),111,114,107],(-1:Int),(1:Int),Bool.false,()),([(111:UInt8),112,101,110],(0:Int),(-1:Int),Bool.false,()),([(108:UInt8),111,119,101,114],(0:Int),(-1:Int),Bool.true,()),([(99:UInt8),108,111,115,101,100],(0:Int),(-1:Int),Bool.false,()),([(97:UInt8),108,97,114,109],(-1:Int),(-1:Int),Bool.false,())],[((1:Int),[(99:UInt8),108,111,115,101],(2:Int),(1:Int),(0:Int),()),((2:Int),[(100:UInt8),111,110,101],(3:Int),(0:Int),(0:Int),()),((3:Int),[(111:UInt8),112,101,110],(1:Int),(0:Int),(0:Int),()),((0:Int),[(102:UInt8),97,105,108],(4:Int),(0:Int),(0:Int),())],()),())
abbrev yPD  : Option (Cha×Unit) := some (z0r)
theorem yNV  (y:Cha×Unit) (h:yPD = some y) : ∃ n,yJZ n = some y :=
  ⟨0,by rw [← h]; show yJZ 0 = some (z0r); unfold yJZ z0r; first | rfl | (simp only [ya]; done) | (simp only [ya]; rfl)⟩
def z0r_e:Entry := { f := 16,args := yMj,rS := yQP,m := fun x=>yPD,ex := some ⟨t34,yNI⟩ }
theorem yOB:FnOK Tryz.prog z0r_e := y1t (g := yQa) (fn := Tryz.f16) y0I y1i eNil (by kernel_rfl) (by kernel_rfl) (by kernel_rfl) (fun x y h=>let ⟨n,hn⟩ := yNV y h; ⟨yLi n,iNil,(yPL n x).trans hn⟩) rfl (fun q h=>by cases h; exact yMn)
def yO8 (n:Nat) (r0:Int→Cha→Option (Int×Unit)) (af:Int) (aY:Cha):Option (Int×Unit) :=
  (Option.bind (idx aY.1 af) fun (v1:Sta)=>(bif v1.2.2.1 != (-1:Int) then (Option.bind (idx aY.1 af) fun (v2:Sta)=>r0 v2.2.2.1 aY) else some (af,())))
def yNs (n:Nat)  (k:Nat) (af:Int) (aY:Cha):Option (Int×Unit) :=
  iter (fun r y=>yO8 n (fun af aY=>r ((af,(aY,())),((),()))) y.1.1 y.1.2.1) k ((af,(aY,())),((),()))
def zo_m (n:Nat) (c:Cha) (state:Int):Option (Int×Unit) :=
  (yNs n n (state) (c))
def zo_M (c:Cha) (state:Int):Option (Int×Unit) := zo_m 1000 c state
abbrev zo_e:Entry := { f := 55,args := .pair t34 (.pair t3 .unit),rS := .pair t3 .unit,m := fun x=>zo_M x.1 x.2.1 }
theorem yIs:FnOK Tryz.prog zo_e := fF 1000 Tryz.f55 (fun n x=>zo_m n x.1 x.2.1) [[1,2]] eNil
def yE6 (n:Nat) (r0:Int→Int→Cha→Int→Bool→Int→Option (Int×Bool×Unit)) (af:Int) (al:Int) (aL:Cha) (aO:Int) (aF:Bool) (aN:Int):Option (Int×Bool×Unit) :=
  (bif decide (aN < (↑aL.1.length:Int)) then (Option.bind (idx aL.1 aN) fun (v1:Sta)=>(bif v1.2.1==af then (bif aF then r0 af al aL (IntKind.i64.wrap (aO + 1)) Bool.true (IntKind.i64.wrap (aN + 1)) else r0 af al aL (IntKind.i64.wrap (aO + 1)) (aN==al) (IntKind.i64.wrap (aN + 1))) else r0 af al aL aO aF (IntKind.i64.wrap (aN + 1)))) else some (aO,aF,()))
def y70 (n:Nat)  (k:Nat) (af:Int) (al:Int) (aL:Cha) (aO:Int) (aF:Bool) (aN:Int):Option (Int×Bool×Unit) :=
  iter (fun r y=>yE6 n (fun af al aL aO aF aN=>r ((af,(al,(aL,(aO,(aF,(aN,())))))),((),()))) y.1.1 y.1.2.1 y.1.2.2.1 y.1.2.2.2.1 y.1.2.2.2.2.1 y.1.2.2.2.2.2.1) k ((af,(al,(aL,(aO,(aF,(aN,())))))),((),()))
def yRt (n:Nat) (c:Cha) (state:Int) (index:Int):Option (Int×Bool×Unit) :=
  (y70 n n (state) (index) (c) ((0:Int)) (Bool.false) ((0:Int)))
def yC7 (af:Int) (al:Int) (aL:Cha) (aN:Int) (v1:Sta) (aO:Int) (aF:Bool):Option ((Int×Bool×Unit)⊕(Int×Bool)) :=
  (bif v1.2.1==af then (bif aF then (some (Sum.inr ((IntKind.i64.wrap (aO + 1)),(Bool.true)))) else (some (Sum.inr ((IntKind.i64.wrap (aO + 1)),(aN==al))))) else (some (Sum.inr ((aO),(aF)))))
def yIA (af:Int) (al:Int) (aL:Cha) (aO:Int) (aF:Bool):Option (Int×Bool×Unit) :=
  (some ((aO,aF,())))
theorem yDS (n:Nat) (hn:big≤n)  (af:Int) (al:Int) (aL:Cha) (aO:Int) (aF:Bool) (hx:List.length (aL.1) < lenMax):LeF some (yI (fun aj aB ai=>yC7 af al aL aj aB ai.1 ai.2) (fun ai=>yIA af al aL ai.1 ai.2) 0 (aL.1) (aO,aF)) (y70 n n af al aL aO aF 0) := by
  refine yQ (f := some) (W := fun ay aj ai=>y70 n ay af al aL ai.1 ai.2 aj) (fun ay aj ai=>?_) hx (aO,aF) n (by unfold big at hn; unfold lenMax at hx; omega)
  show LeF _ _ (yE6 n (y70 n ay) af al aL ai.1 ai.2 aj)
  exact y4 (yA fun v1=>(y4 (y4 (y6 rfl) (y6 rfl)) (y6 rfl))) (y0R (y6 rfl))
def yHS (c:Cha) (state:Int) (index:Int):Option (Int×Bool×Unit) :=
  (bif decide (List.length (c.1) < lenMax) then yI (fun aj aB ai=>yC7 (state) (index) (c) aj aB ai.1 ai.2) (fun ai=>yIA (state) (index) (c) ai.1 ai.2) 0 (c.1) (((0:Int)),(Bool.false)) else none)
abbrev z0A_e:Entry := { f := 46,args := .pair t25 (.pair t3 (.pair t3 .unit)),rS := .pair t3 (.pair t4 .unit),m := fun x=>yHS x.1 x.2.1 x.2.2.1 }
theorem yOg:FnOK Tryz.prog z0A_e := fB Tryz.f46 (fun n x=>yRt n x.1 x.2.1 x.2.2.1) [[1,2,3,8,9,10]] eNil fun n hn x=>(yW fun hx=>by apply yDS n hn; exact hx)
def yFX (n:Nat) (r0:List Int→Int→Option (Int×Unit)) (av:List Int) (aU:Int):Option (Int×Unit) :=
  (bif decide (aU < (↑av.length:Int)) then (Option.bind (idx av aU) fun (v1:Int)=>(bif v1 != 0 then (Option.bind (idx av aU) fun (v2:Int)=>some (v2,())) else r0 av (IntKind.i64.wrap (aU + 1)))) else some ((0:Int),()))
def y6x (n:Nat)  (k:Nat) (av:List Int) (aU:Int):Option (Int×Unit) :=
  iter (fun r y=>yFX n (fun av aU=>r ((av,(aU,())),((),()))) y.1.1 y.1.2.1) k ((av,(aU,())),((),()))
def yRP (n:Nat) (l:List Int):Option (Int×Unit) :=
  (y6x n n (l) ((0:Int)))
def yEm (av:List Int) (aU:Int) (v1:Int):Option ((Int×Unit)⊕Unit) :=
  (bif v1 != 0 then (Option.bind (idx av aU) fun (v2:Int)=>(some (Sum.inl ((v2,()))))) else (some (Sum.inr ())))
def yE3 (av:List Int):Option (Int×Unit) :=
  (some (((0:Int),())))
theorem yDb (n:Nat) (hn:big≤n)  (av:List Int) (hx:List.length (av) < lenMax):LeF some (yI (fun aj aB ai=>yEm av aj aB) (fun ai=>yE3 av) 0 (av) ()) (y6x n n av 0) := by
  refine yQ (f := some) (W := fun ay aj ai=>y6x n ay av aj) (fun ay aj ai=>?_) hx () n (by unfold big at hn; unfold lenMax at hx; omega)
  show LeF _ _ (yFX n (y6x n ay) av aj)
  exact y4 (yA fun v1=>(y4 (yA fun v2=>(y6 rfl)) (y6 rfl))) (y0R (y6 rfl))
def yIl (l:List Int):Option (Int×Unit) :=
  (bif decide (List.length (l) < lenMax) then yI (fun aj aB ai=>yEm (l) aj aB) (fun ai=>yE3 (l)) 0 (l) () else none)
abbrev z0f_e:Entry := { f := 48,args := .pair t45 .unit,rS := .pair t3 .unit,m := fun x=>yIl x.1 }
theorem yOQ:FnOK Tryz.prog z0f_e := fB Tryz.f48 (fun n x=>yRP n x.1) [[0,3]] eNil fun n hn x=>(yW fun hx=>by apply yDb n hn; exact hx)
def yNh (n:Nat) (holds:Bool) (e:Int):Option (Int×Unit) :=
  (bif holds then some (e,()) else some ((0:Int),()))
def z0t (holds:Bool) (e:Int):(Int×Unit) :=
  (bif holds then (e,()) else ((0:Int),()))
abbrev yS6 (holds:Bool) (e:Int):Option (Int×Unit) := some (z0t holds e)
abbrev z0t_e:Entry := { f := 49,args := .pair t4 (.pair t3 .unit),rS := .pair t3 .unit,m := fun x=>yS6 x.1 x.2.1 }
theorem yRB:FnOK Tryz.prog z0t_e := fF (hm := by intro x; show some (z0t x.1 x.2.1) = yNh 0 x.1 x.2.1; unfold yNh z0t; first | rfl | simp only [ya]) 0 Tryz.f49 (fun n x=>yNh n x.1 x.2.1) [] eNil
def yEW (n:Nat) (r0:List (List UInt8)→List UInt8→Int→Option (Bool×Unit)) (av:List (List UInt8)) (aP:List UInt8) (aq:Int):Option (Bool×Unit) :=
  (bif decide (aq < (↑av.length:Int)) then (Option.bind (idx av aq) fun (v1:List UInt8)=>(bif v1==aP then some (Bool.true,()) else r0 av aP (IntKind.i64.wrap (aq + 1)))) else some (Bool.false,()))
def y72 (n:Nat)  (k:Nat) (av:List (List UInt8)) (aP:List UInt8) (aq:Int):Option (Bool×Unit) :=
  iter (fun r y=>yEW n (fun av aP aq=>r ((av,(aP,(aq,()))),((),()))) y.1.1 y.1.2.1 y.1.2.2.1) k ((av,(aP,(aq,()))),((),()))
def ySE (n:Nat) (l:List (List UInt8)) (s:List UInt8):Option (Bool×Unit) :=
  (y72 n n (l) (s) ((0:Int)))
def yHZ (av:List (List UInt8)) (aP:List UInt8) (aq:Int) (v1:List UInt8):Option ((Bool×Unit)⊕Unit) :=
  (bif v1==aP then (some (Sum.inl ((Bool.true,())))) else (some (Sum.inr ())))
def yLC (av:List (List UInt8)) (aP:List UInt8):Option (Bool×Unit) :=
  (some ((Bool.false,())))
theorem yDO (n:Nat) (hn:big≤n)  (av:List (List UInt8)) (aP:List UInt8) (hx:List.length (av) < lenMax):LeF some (yI (fun aj aB ai=>yHZ av aP aj aB) (fun ai=>yLC av aP) 0 (av) ()) (y72 n n av aP 0) := by
  refine yQ (f := some) (W := fun ay aj ai=>y72 n ay av aP aj) (fun ay aj ai=>?_) hx () n (by unfold big at hn; unfold lenMax at hx; omega)
  show LeF _ _ (yEW n (y72 n ay) av aP aj)
  exact y4 (yA fun v1=>(y4 (y6 rfl) (y6 rfl))) (y0R (y6 rfl))
def yHt (l:List (List UInt8)) (s:List UInt8):Option (Bool×Unit) :=
  (bif decide (List.length (l) < lenMax) then yI (fun aj aB ai=>yHZ (l) (s) aj aB) (fun ai=>yLC (l) (s)) 0 (l) () else none)
abbrev z0D_e:Entry := { f := 95,args := .pair t51 (.pair t9 .unit),rS := .pair t4 .unit,m := fun x=>yHt x.1 x.2.1 }
theorem yPc:FnOK Tryz.prog z0D_e := fB Tryz.f95 (fun n x=>ySE n x.1 x.2.1) [[0,1,5]] eNil fun n hn x=>(yW fun hx=>by apply yDO n hn; exact hx)
def yEQ (n:Nat) (r0:List Int→Int→Int→Option (Int×Unit)) (aM:List Int) (aJ:Int) (au:Int):Option (Int×Unit) :=
  (bif decide (au < aJ) then (Option.bind (idx aM au) fun (v1:Int)=>(bif v1 != 0 then some (v1,()) else r0 aM aJ (IntKind.i64.wrap (au + 1)))) else some ((0:Int),()))
def y75 (n:Nat)  (k:Nat) (aM:List Int) (aJ:Int) (au:Int):Option (Int×Unit) :=
  iter (fun r y=>yEQ n (fun aM aJ au=>r ((aM,(aJ,(au,()))),((),()))) y.1.1 y.1.2.1 y.1.2.2.1) k ((aM,(aJ,(au,()))),((),()))
def yRn (n:Nat) (l:List Int):Option (Int×Unit) :=
  (y75 n n (l) ((↑l.length:Int)) ((0:Int)))
def yGy (aM:List Int) (au:Int) (v1:Int):Option ((Int×Unit)⊕Unit) :=
  (bif v1 != 0 then (some (Sum.inl ((v1,())))) else (some (Sum.inr ())))
def yI4 (aM:List Int):Option (Int×Unit) :=
  (some (((0:Int),())))
theorem yDT (n:Nat) (hn:big≤n)  (aM:List Int) (hx:List.length (aM) < lenMax):LeF some (yI (fun aj aB ai=>yGy aM aj aB) (fun ai=>yI4 aM) 0 (aM) ()) (y75 n n aM (List.length (aM):Int) 0) := by
  refine yQ (f := some) (W := fun ay aj ai=>y75 n ay aM (List.length (aM):Int) aj) (fun ay aj ai=>?_) hx () n (by unfold big at hn; unfold lenMax at hx; omega)
  show LeF _ _ (yEQ n (y75 n ay) aM (List.length (aM):Int) aj)
  exact y4 (yA fun v1=>(y4 (y6 rfl) (y6 rfl))) (y0R (y6 rfl))
def y1S (l:List Int):Option (Int×Unit) :=
  (bif decide (List.length (l) < lenMax) then yI (fun aj aB ai=>yGy (l) aj aB) (fun ai=>yI4 (l)) 0 (l) () else none)
abbrev z0o_e:Entry := { f := 57,args := .pair t152 .unit,rS := .pair t28 .unit,m := fun x=>y1S x.1 }
theorem y2f:FnOK Tryz.prog z0o_e := fB Tryz.f57 (fun n x=>yRn n x.1) [[5,6,7]] eNil fun n hn x=>(yW fun hx=>by apply yDT n hn; exact hx)
end
end Go.Tw
end
section
set_option maxRecDepth 1000000
namespace Go.Tw
open Go.Vx Go.Vx.B Go.Proofs
noncomputable section
def yNP (n:Nat) (holds:Bool) (e:Int):Option (Int×Unit) :=
  (bif holds then some (e,()) else some ((0:Int),()))
def z0y (holds:Bool) (e:Int):(Int×Unit) :=
  (bif holds then (e,()) else ((0:Int),()))
abbrev ySB (holds:Bool) (e:Int):Option (Int×Unit) := some (z0y holds e)
abbrev z0y_e:Entry := { f := 74,args := .pair t4 (.pair t28 .unit),rS := .pair t28 .unit,m := fun x=>ySB x.1 x.2.1 }
theorem y4e:FnOK Tryz.prog z0y_e := fF (hm := by intro x; show some (z0y x.1 x.2.1) = yNP 0 x.1 x.2.1; unfold yNP z0y; first | rfl | simp only [ya]) 0 Tryz.f74 (fun n x=>yNP n x.1 x.2.1) [] eNil
def yJB (n:Nat) (r0:(Tra×Unit→Option (Int×Unit))→List Tra→Int→Int→List Int→Option (List Int×Unit)) (ak:Tra×Unit→Option (Int×Unit)) (a7:List Tra) (ae:Int) (a8:Int) (ac:List Int):Option (List Int×Unit) :=
  (bif decide (a8 < ae) then (Option.bind (idx a7 a8) fun (v1:Tra)=>(Option.bind (ak ((v1.1,v1.2.1,v1.2.2.1,v1.2.2.2.1,v1.2.2.2.2.1,()),())) fun (v2:Int×Unit)=>(bif decide (ac.length + (1:Nat)≤memMax) then r0 ak a7 ae (IntKind.i64.wrap (a8 + 1)) (ac ++ [v2.1]) else none))) else some (ac,()))
def yA4 (n:Nat)  (k:Nat) (ak:Tra×Unit→Option (Int×Unit)) (a7:List Tra) (ae:Int) (a8:Int) (ac:List Int):Option (List Int×Unit) :=
  iter (fun r y=>yJB n (fun ak a7 ae a8 ac=>r ((ak,(a7,(ae,(a8,())))),((ac,()),()))) y.1.1 y.1.2.1 y.1.2.2.1 y.1.2.2.2.1 y.2.1.1) k ((ak,(a7,(ae,(a8,())))),((ac,()),()))
def z6_m (n:Nat) (l:List Tra) (of:Tra×Unit→Option (Int×Unit)):Option (List Int×Unit) :=
  (yA4 n n (of) (l) ((↑l.length:Int)) ((0:Int)) ([]))
def yNi (ak:Tra×Unit→Option (Int×Unit)) (a7:List Tra) (a8:Int) (v1:Tra) (ac:List Int):Option ((List Int×Unit)⊕(List Int)) :=
  (Option.bind (ak ((v1.1,v1.2.1,v1.2.2.1,v1.2.2.2.1,v1.2.2.2.2.1,()),())) fun (v2:Int×Unit)=>(bif decide (ac.length + (1:Nat)≤memMax) then (some (Sum.inr (ac ++ [v2.1]))) else none))
def yQp (ak:Tra×Unit→Option (Int×Unit)) (a7:List Tra) (ac:List Int):Option (List Int×Unit) :=
  (some ((ac,())))
theorem yFi (n:Nat) (hn:big≤n)  (ak:Tra×Unit→Option (Int×Unit)) (a7:List Tra) (ac:List Int) (hx:List.length (a7) < lenMax):LeF some (yI (fun aj aB ai=>yNi ak a7 aj aB ai) (fun ai=>yQp ak a7 ai) 0 (a7) ac) (yA4 n n ak a7 (List.length (a7):Int) 0 ac) := by
  refine yQ (f := some) (W := fun ay aj ai=>yA4 n ay ak a7 (List.length (a7):Int) aj ai) (fun ay aj ai=>?_) hx ac n (by unfold big at hn; unfold lenMax at hx; omega)
  show LeF _ _ (yJB n (yA4 n ay) ak a7 (List.length (a7):Int) aj ai)
  exact y4 (yA fun v1=>(yA fun v2=>(y4 (y6 rfl) yL))) (y0R (y6 rfl))
def z6_M (l:List Tra) (of:Tra×Unit→Option (Int×Unit)):Option (List Int×Unit) :=
  (bif decide (List.length (l) < lenMax) then yI (fun aj aB ai=>yNi (of) (l) aj aB ai) (fun ai=>yQp (of) (l) ai) 0 (l) ([]) else none)
abbrev z6_e:Entry := { f := 84,args := .pair t32 (.pair t160 .unit),rS := .pair t152 .unit,m := fun x=>z6_M x.1 x.2.1 }
theorem yRO:FnOK Tryz.prog z6_e := fB (mu := [5]) Tryz.f84 (fun n x=>z6_m n x.1 x.2.1) [[1,5,8,9,10]] eNil fun n hn x=>(yW fun hx=>by apply yFi n hn; exact hx)
def yNg (n:Nat) (r0:(Int×Unit→Option (Int×Unit))→List Int→Int→Int→List Int→Option (List Int×Unit)) (ak:Int×Unit→Option (Int×Unit)) (a7:List Int) (ae:Int) (a8:Int) (ac:List Int):Option (List Int×Unit) :=
  (bif decide (a8 < ae) then (Option.bind (idx a7 a8) fun (v1:Int)=>(Option.bind (ak (v1,())) fun (v2:Int×Unit)=>(bif decide (ac.length + (1:Nat)≤memMax) then r0 ak a7 ae (IntKind.i64.wrap (a8 + 1)) (ac ++ [v2.1]) else none))) else some (ac,()))
def yLn (n:Nat)  (k:Nat) (ak:Int×Unit→Option (Int×Unit)) (a7:List Int) (ae:Int) (a8:Int) (ac:List Int):Option (List Int×Unit) :=
  iter (fun r y=>yNg n (fun ak a7 ae a8 ac=>r ((ak,(a7,(ae,(a8,())))),((ac,()),()))) y.1.1 y.1.2.1 y.1.2.2.1 y.1.2.2.2.1 y.2.1.1) k ((ak,(a7,(ae,(a8,())))),((ac,()),()))
def zJ_m (n:Nat) (l:List Int) (of:Int×Unit→Option (Int×Unit)):Option (List Int×Unit) :=
  (yLn n n (of) (l) ((↑l.length:Int)) ((0:Int)) ([]))
def zJ_M (l:List Int) (of:Int×Unit→Option (Int×Unit)):Option (List Int×Unit) := zJ_m 1000 l of
abbrev zJ_e:Entry := { f := 75,args := .pair t45 (.pair t132 .unit),rS := .pair t152 .unit,m := fun x=>zJ_M x.1 x.2.1 }
theorem yRv:FnOK Tryz.prog zJ_e := fF (mu := [5]) 1000 Tryz.f75 (fun n x=>zJ_m n x.1 x.2.1) [[1,5,8,9,10]] eNil
def yKJ (n:Nat) (r0:(Int×Unit→Option (Bool×Unit))→List Int→Int→Int→List Int→Option (List Int×Unit)) (ah:Int×Unit→Option (Bool×Unit)) (a7:List Int) (ae:Int) (a8:Int) (ac:List Int):Option (List Int×Unit) :=
  (bif decide (a8 < ae) then (Option.bind (idx a7 a8) fun (v1:Int)=>(Option.bind (ah (v1,())) fun (v2:Bool×Unit)=>(bif v2.1 then (bif decide (ac.length + (1:Nat)≤memMax) then r0 ah a7 ae (IntKind.i64.wrap (a8 + 1)) (ac ++ [v1]) else none) else r0 ah a7 ae (IntKind.i64.wrap (a8 + 1)) ac))) else some (ac,()))
def yJt (n:Nat)  (k:Nat) (ah:Int×Unit→Option (Bool×Unit)) (a7:List Int) (ae:Int) (a8:Int) (ac:List Int):Option (List Int×Unit) :=
  iter (fun r y=>yKJ n (fun ah a7 ae a8 ac=>r ((ah,(a7,(ae,(a8,())))),((ac,()),()))) y.1.1 y.1.2.1 y.1.2.2.1 y.1.2.2.2.1 y.2.1.1) k ((ah,(a7,(ae,(a8,())))),((ac,()),()))
def yQ7 (n:Nat) (l:List Int) (holds:Int×Unit→Option (Bool×Unit)):Option (List Int×Unit) :=
  (yJt n n (holds) (l) ((↑l.length:Int)) ((0:Int)) ([]))
def yR9 (l:List Int) (holds:Int×Unit→Option (Bool×Unit)):Option (List Int×Unit) := yQ7 1000 l holds
abbrev z0C_e:Entry := { f := 76,args := .pair t45 (.pair t155 .unit),rS := .pair t45 .unit,m := fun x=>yR9 x.1 x.2.1 }
theorem yPa:FnOK Tryz.prog z0C_e := fF (mu := [5]) 1000 Tryz.f76 (fun n x=>yQ7 n x.1 x.2.1) [[1,5,8,9,10]] eNil
def yMa (n:Nat) (xp:Int) (p1:Int):Option (Bool×Unit) :=
  some (xp==p1,())
def z0a (xp:Int) (p1:Int):(Bool×Unit) :=
  (xp==p1,())
abbrev yOk (xp:Int) (p1:Int):Option (Bool×Unit) := some (z0a xp p1)
abbrev z0a_e:Entry := { f := 77,args := .pair t3 (.pair (.ref t3) .unit),rS := .pair t4 .unit,m := fun x=>yOk x.1 x.2.1 }
theorem yQ9:FnOK Tryz.prog z0a_e := fF (hm := by intro x; show some (z0a x.1 x.2.1) = yMa 0 x.1 x.2.1; unfold yMa z0a; first | rfl | simp only [ya]) 0 Tryz.f77 (fun n x=>yMa n x.1 x.2.1) [] eNil
def zn_m (n:Nat) (p0:Cas) (o:Int×Bool×Bool×Unit):Option (Bool×Unit) :=
  some (o.2.2.1,())
def zn (p0:Cas) (o:Int×Bool×Bool×Unit):(Bool×Unit) :=
  (o.2.2.1,())
abbrev zn_M (p0:Cas) (o:Int×Bool×Bool×Unit):Option (Bool×Unit) := some (zn p0 o)
abbrev zn_e:Entry := { f := 70,args := .pair t73 (.pair t135 .unit),rS := .pair t4 .unit,m := fun x=>zn_M x.1 x.2.1 }
theorem ySU:FnOK Tryz.prog zn_e := fF (hm := by intro x; show some (zn x.1 x.2.1) = zn_m 0 x.1 x.2.1; unfold zn_m zn; first | rfl | simp only [ya]) 0 Tryz.f70 (fun n x=>zn_m n x.1 x.2.1) [] eNil
def yNY (n:Nat) (np:Int):Option (List Bool×Unit) :=
  some ([y0N IntKind.i64 Go.BinOp.and np (1:Int) != 0,y0N IntKind.i64 Go.BinOp.and np (2:Int) != 0,y0N IntKind.i64 Go.BinOp.and np (4:Int) != 0,y0N IntKind.i64 Go.BinOp.and np (8:Int) != 0],())
def z0b (np:Int):(List Bool×Unit) :=
  ([y0N IntKind.i64 Go.BinOp.and np (1:Int) != 0,y0N IntKind.i64 Go.BinOp.and np (2:Int) != 0,y0N IntKind.i64 Go.BinOp.and np (4:Int) != 0,y0N IntKind.i64 Go.BinOp.and np (8:Int) != 0],())
abbrev yRS (np:Int):Option (List Bool×Unit) := some (z0b np)
abbrev z0b_e:Entry := { f := 68,args := .pair t3 .unit,rS := .pair t143 .unit,m := fun x=>yRS x.1 }
theorem yLa:FnOK Tryz.prog z0b_e := fF (hm := by intro x; show some (z0b x.1) = yNY 0 x.1; unfold yNY z0b; first | rfl | simp only [ya]) 0 Tryz.f68 (fun n x=>yNY n x.1) [] eNil
def yJo (n:Nat) (r0:Int→Int→List Fai→Option (List Fai×Unit)) (r1:Int→Int→Int→Int→List Fai→Option (List Fai×Unit)) (aW:Int) (b4:Int) (b5:Int) (aT:Int) (aZ:List Fai):Option (List Fai×Unit) :=
  (bif decide (aT < 8) then (bif decide (aZ.length + (1:Nat)≤memMax) then r1 aW b4 b5 (IntKind.i64.wrap (aT + 1)) (aZ ++ [([(115:UInt8),116,117,99,107],aW,IntKind.i64.wrap (aT.tdiv (2:Int)),aT.tmod (2:Int),())]) else none) else r0 b4 (IntKind.i64.wrap (b5 + 1)) aZ)
def yJk (n:Nat) (r0:Int→Int→List Fai→Option (List Fai×Unit)) (k:Nat) (aW:Int) (b4:Int) (b5:Int) (aT:Int) (aZ:List Fai):Option (List Fai×Unit) :=
  iter (fun r y=>yJo n r0 (fun aW b4 b5 aT aZ=>r ((aW,(b4,(b5,(aT,())))),((aZ,()),()))) y.1.1 y.1.2.1 y.1.2.2.1 y.1.2.2.2.1 y.2.1.1) k ((aW,(b4,(b5,(aT,())))),((aZ,()),()))
def yKd (n:Nat) (r0:Int→Int→List Fai→Option (List Fai×Unit)) (a7:Int) (ae:Int) (ac:List Fai):Option (List Fai×Unit) :=
  (bif decide (ae < a7) then (bif decide (ac.length + (1:Nat)≤memMax) then (yJk n r0 n (ae) (a7) (ae) ((0:Int)) (ac ++ [([(108:UInt8),111,115,116],ae,(0:Int),(0:Int),())])) else none) else some (ac,()))
def yJS (n:Nat)  (k:Nat) (a7:Int) (ae:Int) (ac:List Fai):Option (List Fai×Unit) :=
  iter (fun r y=>yKd n (fun a7 ae ac=>r ((a7,(ae,())),((ac,()),()))) y.1.1 y.1.2.1 y.2.1.1) k ((a7,(ae,())),((ac,()),()))
def yR6 (n:Nat) (ticks:Int):Option (List Fai×Unit) :=
  (yJS n n (ticks) ((0:Int)) ([([(110:UInt8),111,110,101],(0:Int),(0:Int),(0:Int),())]))
def yPj (ticks:Int):Option (List Fai×Unit) := yR6 1000 ticks
abbrev z0B_e:Entry := { f := 79,args := .pair t3 .unit,rS := .pair t81 .unit,m := fun x=>yPj x.1 }
theorem yPo:FnOK Tryz.prog z0B_e := fF (mu := [7]) 1000 Tryz.f79 (fun n x=>yR6 n x.1) [[3,8,9],[3,4,8,9,17]] eNil
def yNQ (n:Nat) (r0:((Sta×Int×Unit)×Unit→Option (Int×Unit))→List (Sta×Int×Unit)→Int→Int→List Int→Option (List Int×Unit)) (ak:(Sta×Int×Unit)×Unit→Option (Int×Unit)) (a7:List (Sta×Int×Unit)) (ae:Int) (a8:Int) (ac:List Int):Option (List Int×Unit) :=
  (bif decide (a8 < ae) then (Option.bind (idx a7 a8) fun (v1:Sta×Int×Unit)=>(Option.bind (ak (((v1.1.1,v1.1.2.1,v1.1.2.2.1,v1.1.2.2.2.1,()),v1.2.1,()),())) fun (v2:Int×Unit)=>(bif decide (ac.length + (1:Nat)≤memMax) then r0 ak a7 ae (IntKind.i64.wrap (a8 + 1)) (ac ++ [v2.1]) else none))) else some (ac,()))
def yN6 (n:Nat)  (k:Nat) (ak:(Sta×Int×Unit)×Unit→Option (Int×Unit)) (a7:List (Sta×Int×Unit)) (ae:Int) (a8:Int) (ac:List Int):Option (List Int×Unit) :=
  iter (fun r y=>yNQ n (fun ak a7 ae a8 ac=>r ((ak,(a7,(ae,(a8,())))),((ac,()),()))) y.1.1 y.1.2.1 y.1.2.2.1 y.1.2.2.2.1 y.2.1.1) k ((ak,(a7,(ae,(a8,())))),((ac,()),()))
def zF_m (n:Nat) (l:List (Sta×Int×Unit)) (of:(Sta×Int×Unit)×Unit→Option (Int×Unit)):Option (List Int×Unit) :=
  (yN6 n n (of) (l) ((↑l.length:Int)) ((0:Int)) ([]))
def zF_M (l:List (Sta×Int×Unit)) (of:(Sta×Int×Unit)×Unit→Option (Int×Unit)):Option (List Int×Unit) := zF_m 1000 l of
abbrev zF_e:Entry := { f := 98,args := .pair t174 (.pair t180 .unit),rS := .pair t45 .unit,m := fun x=>zF_M x.1 x.2.1 }
theorem ySV:FnOK Tryz.prog zF_e := fF (mu := [5]) 1000 Tryz.f98 (fun n x=>zF_m n x.1 x.2.1) [[1,5,8,9,10]] eNil
def yMw (n:Nat) (r0:((Sta×Int×Unit)×Unit→Option (Bool×Unit))→List (Sta×Int×Unit)→Int→Int→List (Sta×Int×Unit)→Option (List (Sta×Int×Unit)×Unit)) (ah:(Sta×Int×Unit)×Unit→Option (Bool×Unit)) (a7:List (Sta×Int×Unit)) (ae:Int) (a8:Int) (ac:List (Sta×Int×Unit)):Option (List (Sta×Int×Unit)×Unit) :=
  (bif decide (a8 < ae) then (Option.bind (idx a7 a8) fun (v1:Sta×Int×Unit)=>(Option.bind (ah (((v1.1.1,v1.1.2.1,v1.1.2.2.1,v1.1.2.2.2.1,()),v1.2.1,()),())) fun (v2:Bool×Unit)=>(bif v2.1 then (bif decide (ac.length + (1:Nat)≤memMax) then r0 ah a7 ae (IntKind.i64.wrap (a8 + 1)) (ac ++ [((v1.1.1,v1.1.2.1,v1.1.2.2.1,v1.1.2.2.2.1,()),v1.2.1,())]) else none) else r0 ah a7 ae (IntKind.i64.wrap (a8 + 1)) ac))) else some (ac,()))
def yLu (n:Nat)  (k:Nat) (ah:(Sta×Int×Unit)×Unit→Option (Bool×Unit)) (a7:List (Sta×Int×Unit)) (ae:Int) (a8:Int) (ac:List (Sta×Int×Unit)):Option (List (Sta×Int×Unit)×Unit) :=
  iter (fun r y=>yMw n (fun ah a7 ae a8 ac=>r ((ah,(a7,(ae,(a8,())))),((ac,()),()))) y.1.1 y.1.2.1 y.1.2.2.1 y.1.2.2.2.1 y.2.1.1) k ((ah,(a7,(ae,(a8,())))),((ac,()),()))
def zP_m (n:Nat) (l:List (Sta×Int×Unit)) (holds:(Sta×Int×Unit)×Unit→Option (Bool×Unit)):Option (List (Sta×Int×Unit)×Unit) :=
  (yLu n n (holds) (l) ((↑l.length:Int)) ((0:Int)) ([]))
def zP_M (l:List (Sta×Int×Unit)) (holds:(Sta×Int×Unit)×Unit→Option (Bool×Unit)):Option (List (Sta×Int×Unit)×Unit) := zP_m 1000 l holds
abbrev zP_e:Entry := { f := 99,args := .pair t174 (.pair t179 .unit),rS := .pair t174 .unit,m := fun x=>zP_M x.1 x.2.1 }
theorem yRi:FnOK Tryz.prog zP_e := fF (mu := [5]) 1000 Tryz.f99 (fun n x=>zP_m n x.1 x.2.1) [[1,5,8,9,10]] eNil
def zj_m (n:Nat) (s:Sta×Int×Unit):Option (Bool×Unit) :=
  some (s.1.2.2.1==(-1:Int),())
def zj (s:Sta×Int×Unit):(Bool×Unit) :=
  (s.1.2.2.1==(-1:Int),())
abbrev zj_M (s:Sta×Int×Unit):Option (Bool×Unit) := some (zj s)
abbrev zj_e:Entry := { f := 100,args := .pair t176 .unit,rS := .pair t4 .unit,m := fun x=>zj_M x.1 }
theorem yRR:FnOK Tryz.prog zj_e := fF (hm := by intro x; show some (zj x.1) = zj_m 0 x.1; unfold zj_m zj; first | rfl | simp only [ya]) 0 Tryz.f100 (fun n x=>zj_m n x.1) [] eNil
def zZ_m (n:Nat) (s:Sta×Int×Unit):Option (Int×Unit) :=
  some (s.2.1,())
def zZ (s:Sta×Int×Unit):(Int×Unit) :=
  (s.2.1,())
abbrev zZ_M (s:Sta×Int×Unit):Option (Int×Unit) := some (zZ s)
abbrev zZ_e:Entry := { f := 101,args := .pair t176 .unit,rS := .pair t3 .unit,m := fun x=>zZ_M x.1 }
theorem yRa:FnOK Tryz.prog zZ_e := fF (hm := by intro x; show some (zZ x.1) = zZ_m 0 x.1; unfold zZ_m zZ; first | rfl | simp only [ya]) 0 Tryz.f101 (fun n x=>zZ_m n x.1) [] eNil
def y3z (n:Nat) (r2:List UInt8→Int→Option (Bool×Unit)) (aw:List UInt8) (aA:Int) (v3:UInt8):Option (Bool×Unit) :=
  (bif aA==0 then some (Bool.false,()) else (bif (↑v3.toNat:Int) != 95 then (bif decide ((↑v3.toNat:Int) < 48) then some (Bool.false,()) else (bif decide ((↑v3.toNat:Int) > 57) then some (Bool.false,()) else r2 aw (IntKind.i64.wrap (aA + 1)))) else r2 aw (IntKind.i64.wrap (aA + 1))))
def yEH (n:Nat) (r2:List UInt8→Int→Option (Bool×Unit)) (aw:List UInt8) (aA:Int):Option (Bool×Unit) :=
  (bif decide (aA < (↑aw.length:Int)) then (Option.bind (idx aw aA) fun (v3:UInt8)=>(bif decide ((↑v3.toNat:Int) ≥ 97) then (bif decide ((↑v3.toNat:Int)≤122) then r2 aw (IntKind.i64.wrap (aA + 1)) else (bif decide ((↑v3.toNat:Int) ≥ 65) then (bif decide ((↑v3.toNat:Int)≤90) then r2 aw (IntKind.i64.wrap (aA + 1)) else (y3z n r2 aw aA v3)) else (y3z n r2 aw aA v3))) else (bif decide ((↑v3.toNat:Int) ≥ 65) then (bif decide ((↑v3.toNat:Int)≤90) then r2 aw (IntKind.i64.wrap (aA + 1)) else (y3z n r2 aw aA v3)) else (y3z n r2 aw aA v3)))) else some (Bool.true,()))
def y7F (n:Nat)  (k:Nat) (aw:List UInt8) (aA:Int):Option (Bool×Unit) :=
  iter (fun r y=>yEH n (fun aw aA=>r ((aw,(aA,())),((),()))) y.1.1 y.1.2.1) k ((aw,(aA,())),((),()))
def yRm (n:Nat) (s:List UInt8):Option (Bool×Unit) :=
  (bif (↑s.length:Int)==0 then some (Bool.false,()) else (bif decide ((↑s.length:Int) > 24) then some (Bool.false,()) else (y7F n n (s) ((0:Int)))))
def y6A (aw:List UInt8) (aA:Int) (v3:UInt8):Option ((Bool×Unit)⊕Unit) :=
  (bif aA==0 then (some (Sum.inl ((Bool.false,())))) else (bif (↑v3.toNat:Int) != 95 then (bif decide ((↑v3.toNat:Int) < 48) then (some (Sum.inl ((Bool.false,())))) else (bif decide ((↑v3.toNat:Int) > 57) then (some (Sum.inl ((Bool.false,())))) else (some (Sum.inr ())))) else (some (Sum.inr ()))))
theorem y0Q (n:Nat) (hn:big≤n)  (r2:List UInt8→Int→Option (Bool×Unit)) (aw:List UInt8) (aA:Int) (v3:UInt8):LeF (elim some fun (ai:Unit)=>r2 aw (IntKind.i64.wrap (aA + 1))) (y6A aw aA v3) (y3z n r2 aw aA v3) :=
  (y4 (y6 rfl) (y4 (y4 (y6 rfl) (y4 (y6 rfl) (y6 rfl))) (y6 rfl)))
def yBU (aw:List UInt8) (aA:Int) (v3:UInt8):Option ((Bool×Unit)⊕Unit) :=
  (bif decide ((↑v3.toNat:Int) ≥ 97) then (bif decide ((↑v3.toNat:Int)≤122) then (some (Sum.inr ())) else (bif decide ((↑v3.toNat:Int) ≥ 65) then (bif decide ((↑v3.toNat:Int)≤90) then (some (Sum.inr ())) else (y6A aw aA v3)) else (y6A aw aA v3))) else (bif decide ((↑v3.toNat:Int) ≥ 65) then (bif decide ((↑v3.toNat:Int)≤90) then (some (Sum.inr ())) else (y6A aw aA v3)) else (y6A aw aA v3)))
def yIW (aw:List UInt8):Option (Bool×Unit) :=
  (some ((Bool.true,())))
theorem yCr (n:Nat) (hn:big≤n)  (aw:List UInt8) (hx:List.length (aw) < lenMax):LeF some (yI (fun aj aB ai=>yBU aw aj aB) (fun ai=>yIW aw) 0 (aw) ()) (y7F n n aw 0) := by
  refine yQ (f := some) (W := fun ay aj ai=>y7F n ay aw aj) (fun ay aj ai=>?_) hx () n (by unfold big at hn; unfold lenMax at hx; omega)
  show LeF _ _ (yEH n (y7F n ay) aw aj)
  exact y4 (yA fun v3=>(y4 (y4 (y6 rfl) (y4 (y4 (y6 rfl) (by apply y0Q n hn)) (by apply y0Q n hn))) (y4 (y4 (y6 rfl) (by apply y0Q n hn)) (by apply y0Q n hn)))) (y0R (y6 rfl))
def yKH (s:List UInt8):Option (Bool×Unit) :=
  (bif (↑s.length:Int)==0 then (some ((Bool.false,()))) else (bif decide ((↑s.length:Int) > 24) then (some ((Bool.false,()))) else (bif decide (List.length (s) < lenMax) then yI (fun aj aB ai=>yBU (s) aj aB) (fun ai=>yIW (s)) 0 (s) () else none)))
abbrev z0Q_e:Entry := { f := 94,args := .pair t9 .unit,rS := .pair t4 .unit,m := fun x=>yKH x.1 }
theorem yOw:FnOK Tryz.prog z0Q_e := fB Tryz.f94 (fun n x=>yRm n x.1) [[0,3]] eNil fun n hn x=>(y4 (y6 rfl) (y4 (y6 rfl) (yW fun hx=>by apply yCr n hn; exact hx)))
def yMl (n:Nat) (r0:(Tra×Unit→Option (Bool×Unit))→List Tra→Int→Int→List Tra→Option (List Tra×Unit)) (ah:Tra×Unit→Option (Bool×Unit)) (a7:List Tra) (ae:Int) (a8:Int) (ac:List Tra):Option (List Tra×Unit) :=
  (bif decide (a8 < ae) then (Option.bind (idx a7 a8) fun (v1:Tra)=>(Option.bind (ah ((v1.1,v1.2.1,v1.2.2.1,v1.2.2.2.1,v1.2.2.2.2.1,()),())) fun (v2:Bool×Unit)=>(bif v2.1 then (bif decide (ac.length + (1:Nat)≤memMax) then r0 ah a7 ae (IntKind.i64.wrap (a8 + 1)) (ac ++ [(v1.1,v1.2.1,v1.2.2.1,v1.2.2.2.1,v1.2.2.2.2.1,())]) else none) else r0 ah a7 ae (IntKind.i64.wrap (a8 + 1)) ac))) else some (ac,()))
def yMU (n:Nat)  (k:Nat) (ah:Tra×Unit→Option (Bool×Unit)) (a7:List Tra) (ae:Int) (a8:Int) (ac:List Tra):Option (List Tra×Unit) :=
  iter (fun r y=>yMl n (fun ah a7 ae a8 ac=>r ((ah,(a7,(ae,(a8,())))),((ac,()),()))) y.1.1 y.1.2.1 y.1.2.2.1 y.1.2.2.2.1 y.2.1.1) k ((ah,(a7,(ae,(a8,())))),((ac,()),()))
def zI_m (n:Nat) (l:List Tra) (holds:Tra×Unit→Option (Bool×Unit)):Option (List Tra×Unit) :=
  (yMU n n (holds) (l) ((↑l.length:Int)) ((0:Int)) ([]))
def zI_M (l:List Tra) (holds:Tra×Unit→Option (Bool×Unit)):Option (List Tra×Unit) := zI_m 1000 l holds
abbrev zI_e:Entry := { f := 107,args := .pair t32 (.pair t192 .unit),rS := .pair t32 .unit,m := fun x=>zI_M x.1 x.2.1 }
theorem yRL:FnOK Tryz.prog zI_e := fF (mu := [5]) 1000 Tryz.f107 (fun n x=>zI_m n x.1 x.2.1) [[1,5,8,9,10]] eNil
def yNR (n:Nat) (r0:((List UInt8×Int×Unit)×Unit→Option (Int×Unit))→List (List UInt8×Int×Unit)→Int→Int→List Int→Option (List Int×Unit)) (ak:(List UInt8×Int×Unit)×Unit→Option (Int×Unit)) (a7:List (List UInt8×Int×Unit)) (ae:Int) (a8:Int) (ac:List Int):Option (List Int×Unit) :=
  (bif decide (a8 < ae) then (Option.bind (idx a7 a8) fun (v1:List UInt8×Int×Unit)=>(Option.bind (ak ((v1.1,v1.2.1,()),())) fun (v2:Int×Unit)=>(bif decide (ac.length + (1:Nat)≤memMax) then r0 ak a7 ae (IntKind.i64.wrap (a8 + 1)) (ac ++ [v2.1]) else none))) else some (ac,()))
def yM2 (n:Nat)  (k:Nat) (ak:(List UInt8×Int×Unit)×Unit→Option (Int×Unit)) (a7:List (List UInt8×Int×Unit)) (ae:Int) (a8:Int) (ac:List Int):Option (List Int×Unit) :=
  iter (fun r y=>yNR n (fun ak a7 ae a8 ac=>r ((ak,(a7,(ae,(a8,())))),((ac,()),()))) y.1.1 y.1.2.1 y.1.2.2.1 y.1.2.2.2.1 y.2.1.1) k ((ak,(a7,(ae,(a8,())))),((ac,()),()))
def z8_m (n:Nat) (l:List (List UInt8×Int×Unit)) (of:(List UInt8×Int×Unit)×Unit→Option (Int×Unit)):Option (List Int×Unit) :=
  (yM2 n n (of) (l) ((↑l.length:Int)) ((0:Int)) ([]))
def z8_M (l:List (List UInt8×Int×Unit)) (of:(List UInt8×Int×Unit)×Unit→Option (Int×Unit)):Option (List Int×Unit) := z8_m 1000 l of
abbrev z8_e:Entry := { f := 103,args := .pair t57 (.pair t182 .unit),rS := .pair t152 .unit,m := fun x=>z8_M x.1 x.2.1 }
theorem ySP:FnOK Tryz.prog z8_e := fF (mu := [5]) 1000 Tryz.f103 (fun n x=>z8_m n x.1 x.2.1) [[1,5,8,9,10]] eNil
def zO_m (n:Nat) (p:Pth):Option (Int×Unit) :=
  some (p.1,())
def zO (p:Pth):(Int×Unit) :=
  (p.1,())
abbrev zO_M (p:Pth):Option (Int×Unit) := some (zO p)
abbrev zO_e:Entry := { f := 111,args := .pair t141 .unit,rS := .pair t3 .unit,m := fun x=>zO_M x.1 }
theorem yS2:FnOK Tryz.prog zO_e := fF (hm := by intro x; show some (zO x.1) = zO_m 0 x.1; unfold zO_m zO; first | rfl | simp only [ya]) 0 Tryz.f111 (fun n x=>zO_m n x.1) [] eNil
def zM_m (n:Nat) (s:Int) (p1:Cha):Option (Bool×Unit) :=
  (bif decide (s < 0) then some (Bool.true,()) else some (decide (s ≥ (↑p1.1.length:Int)),()))
def zM (s:Int) (p1:Cha):(Bool×Unit) :=
  (bif decide (s < 0) then (Bool.true,()) else (decide (s ≥ (↑p1.1.length:Int)),()))
abbrev zM_M (s:Int) (p1:Cha):Option (Bool×Unit) := some (zM s p1)
abbrev zM_e:Entry := { f := 113,args := .pair t3 (.pair (.ref t34) .unit),rS := .pair t4 .unit,m := fun x=>zM_M x.1 x.2.1 }
theorem yS1:FnOK Tryz.prog zM_e := fF (hm := by intro x; show some (zM x.1 x.2.1) = zM_m 0 x.1 x.2.1; unfold zM_m zM; first | rfl | simp only [ya]) 0 Tryz.f113 (fun n x=>zM_m n x.1 x.2.1) [] eNil
def yI9 (n:Nat) (r0:List Int→Int→Int→Int→Option (Int×Unit)) (aa:List Int) (ax:Int) (au:Int) (a7:Int):Option (Int×Unit) :=
  (bif decide (a7 < au) then (Option.bind (idx aa a7) fun (v1:Int)=>(bif ax==v1 then some (a7,()) else r0 aa ax au (IntKind.i64.wrap (a7 + 1)))) else some ((-1:Int),()))
def yAU (n:Nat)  (k:Nat) (aa:List Int) (ax:Int) (au:Int) (a7:Int):Option (Int×Unit) :=
  iter (fun r y=>yI9 n (fun aa ax au a7=>r ((aa,(ax,(au,(a7,())))),((),()))) y.1.1 y.1.2.1 y.1.2.2.1 y.1.2.2.2.1) k ((aa,(ax,(au,(a7,())))),((),()))
def zW_m (n:Nat) (s:List Int) (v:Int):Option (Int×Unit) :=
  (yAU n n (s) (v) ((↑s.length:Int)) ((0:Int)))
def yK7 (aa:List Int) (ax:Int) (a7:Int) (v1:Int):Option ((Int×Unit)⊕Unit) :=
  (bif ax==v1 then (some (Sum.inl ((a7,())))) else (some (Sum.inr ())))
def yNz (aa:List Int) (ax:Int):Option (Int×Unit) :=
  (some (((-1:Int),())))
theorem yGf (n:Nat) (hn:big≤n)  (aa:List Int) (ax:Int) (hx:List.length (aa) < lenMax):LeF some (yI (fun aj aB ai=>yK7 aa ax aj aB) (fun ai=>yNz aa ax) 0 (aa) ()) (yAU n n aa ax (List.length (aa):Int) 0) := by
  refine yQ (f := some) (W := fun ay aj ai=>yAU n ay aa ax (List.length (aa):Int) aj) (fun ay aj ai=>?_) hx () n (by unfold big at hn; unfold lenMax at hx; omega)
  show LeF _ _ (yI9 n (yAU n ay) aa ax (List.length (aa):Int) aj)
  exact y4 (yA fun v1=>(y4 (y6 rfl) (y6 rfl))) (y0R (y6 rfl))
def zW_M (s:List Int) (v:Int):Option (Int×Unit) :=
  (bif decide (List.length (s) < lenMax) then yI (fun aj aB ai=>yK7 (s) (v) aj aB) (fun ai=>yNz (s) (v)) 0 (s) () else none)
abbrev zW_e:Entry := { f := 117,args := .pair t45 (.pair t3 .unit),rS := .pair t3 .unit,m := fun x=>zW_M x.1 x.2.1 }
theorem yRj:FnOK Tryz.prog zW_e := fB Tryz.f117 (fun n x=>zW_m n x.1 x.2.1) [[0,1,7,8]] eNil fun n hn x=>(yW fun hx=>by apply yGf n hn; exact hx)
def yHk (n:Nat) (r0:List (List UInt8)→List UInt8→Int→Int→Option (Int×Unit)) (aa:List (List UInt8)) (ax:List UInt8) (au:Int) (a7:Int):Option (Int×Unit) :=
  (bif decide (a7 < au) then (Option.bind (idx aa a7) fun (v1:List UInt8)=>(bif ax==v1 then some (a7,()) else r0 aa ax au (IntKind.i64.wrap (a7 + 1)))) else some ((-1:Int),()))
def yAg (n:Nat)  (k:Nat) (aa:List (List UInt8)) (ax:List UInt8) (au:Int) (a7:Int):Option (Int×Unit) :=
  iter (fun r y=>yHk n (fun aa ax au a7=>r ((aa,(ax,(au,(a7,())))),((),()))) y.1.1 y.1.2.1 y.1.2.2.1 y.1.2.2.2.1) k ((aa,(ax,(au,(a7,())))),((),()))
def zH_m (n:Nat) (s:List (List UInt8)) (v:List UInt8):Option (Int×Unit) :=
  (yAg n n (s) (v) ((↑s.length:Int)) ((0:Int)))
def yKv (aa:List (List UInt8)) (ax:List UInt8) (a7:Int) (v1:List UInt8):Option ((Int×Unit)⊕Unit) :=
  (bif ax==v1 then (some (Sum.inl ((a7,())))) else (some (Sum.inr ())))
def yNc (aa:List (List UInt8)) (ax:List UInt8):Option (Int×Unit) :=
  (some (((-1:Int),())))
theorem yGZ (n:Nat) (hn:big≤n)  (aa:List (List UInt8)) (ax:List UInt8) (hx:List.length (aa) < lenMax):LeF some (yI (fun aj aB ai=>yKv aa ax aj aB) (fun ai=>yNc aa ax) 0 (aa) ()) (yAg n n aa ax (List.length (aa):Int) 0) := by
  refine yQ (f := some) (W := fun ay aj ai=>yAg n ay aa ax (List.length (aa):Int) aj) (fun ay aj ai=>?_) hx () n (by unfold big at hn; unfold lenMax at hx; omega)
  show LeF _ _ (yHk n (yAg n ay) aa ax (List.length (aa):Int) aj)
  exact y4 (yA fun v1=>(y4 (y6 rfl) (y6 rfl))) (y0R (y6 rfl))
def zH_M (s:List (List UInt8)) (v:List UInt8):Option (Int×Unit) :=
  (bif decide (List.length (s) < lenMax) then yI (fun aj aB ai=>yKv (s) (v) aj aB) (fun ai=>yNc (s) (v)) 0 (s) () else none)
abbrev zH_e:Entry := { f := 130,args := .pair t51 (.pair t9 .unit),rS := .pair t3 .unit,m := fun x=>zH_M x.1 x.2.1 }
theorem ySK:FnOK Tryz.prog zH_e := fB Tryz.f130 (fun n x=>zH_m n x.1 x.2.1) [[0,1,7,8]] eNil fun n hn x=>(yW fun hx=>by apply yGZ n hn; exact hx)
def y5V (n:Nat) (r0:List UInt8→List UInt8→Int→Option (Bool×Unit)) (aa:List UInt8) (str0__0:List UInt8) (pos0__0:Int) (j2:Bool) (j7:Bool):Option (Bool×Unit) :=
  (bif !j2 then (bif pos0__0==0 then some (Bool.false,()) else (bif !j7 then some (Bool.false,()) else r0 aa str0__0 (yg str0__0 pos0__0).2)) else r0 aa str0__0 (yg str0__0 pos0__0).2)
def y2x (n:Nat) (r0:List UInt8→List UInt8→Int→Option (Bool×Unit)) (aa:List UInt8) (str0__0:List UInt8) (pos0__0:Int) (j2:Bool):Option (Bool×Unit) :=
  (bif decide ((yg str0__0 pos0__0).1 ≥ 48) then (bif decide ((yg str0__0 pos0__0).1≤57) then (y5V n r0 aa str0__0 pos0__0 j2 (Bool.true)) else (y5V n r0 aa str0__0 pos0__0 j2 ((yg str0__0 pos0__0).1==95))) else (y5V n r0 aa str0__0 pos0__0 j2 ((yg str0__0 pos0__0).1==95)))
def yEM (n:Nat) (r0:List UInt8→List UInt8→Int→Option (Bool×Unit)) (aa:List UInt8) (str0__0:List UInt8) (pos0__0:Int):Option (Bool×Unit) :=
  (bif decide (pos0__0 < (↑str0__0.length:Int)) then (bif decide ((yg str0__0 pos0__0).1 ≥ 65) then (bif decide ((yg str0__0 pos0__0).1≤90) then (y2x n r0 aa str0__0 pos0__0 (Bool.true)) else (bif decide ((yg str0__0 pos0__0).1 ≥ 97) then (y2x n r0 aa str0__0 pos0__0 (decide ((yg str0__0 pos0__0).1≤122))) else (y2x n r0 aa str0__0 pos0__0 (Bool.false)))) else (bif decide ((yg str0__0 pos0__0).1 ≥ 97) then (y2x n r0 aa str0__0 pos0__0 (decide ((yg str0__0 pos0__0).1≤122))) else (y2x n r0 aa str0__0 pos0__0 (Bool.false)))) else (bif !aa==[] then some (decide ((↑aa.length:Int)≤24),()) else some (Bool.false,())))
def y7C (n:Nat)  (k:Nat) (aa:List UInt8) (str0__0:List UInt8) (pos0__0:Int):Option (Bool×Unit) :=
  iter (fun r y=>yEM n (fun aa str0__0 pos0__0=>r ((aa,()),(((str0__0,pos0__0),()),()))) y.1.1 y.2.1.1.1 y.2.1.1.2) k ((aa,()),(((str0__0,pos0__0),()),()))
def ySQ (n:Nat) (s:List UInt8):Option (Bool×Unit) :=
  (y7C n n (s) (s) ((0:Int)))
def y8e (aa:List UInt8) (str0__0:List UInt8) (pos0__0:Int) (j2:Bool) (j7:Bool):Option ((Bool×Unit)⊕Unit) :=
  (bif !j2 then (bif pos0__0==0 then (some (Sum.inl ((Bool.false,())))) else (bif !j7 then (some (Sum.inl ((Bool.false,())))) else (some (Sum.inr ())))) else (some (Sum.inr ())))
theorem y14 (n:Nat) (hn:big≤n)  (r0:List UInt8→List UInt8→Int→Option (Bool×Unit)) (aa:List UInt8) (str0__0:List UInt8) (pos0__0:Int) (j2:Bool) (j7:Bool):LeF (elim some fun (ai:Unit)=>r0 aa str0__0 (yg (str0__0) pos0__0).2) (y8e aa str0__0 pos0__0 j2 j7) (y5V n r0 aa str0__0 pos0__0 j2 j7) :=
  (y4 (y4 (y6 rfl) (y4 (y6 rfl) (y6 rfl))) (y6 rfl))
def y4x (aa:List UInt8) (str0__0:List UInt8) (pos0__0:Int) (j2:Bool):Option ((Bool×Unit)⊕Unit) :=
  (bif decide ((yg str0__0 pos0__0).1 ≥ 48) then (bif decide ((yg str0__0 pos0__0).1≤57) then (y8e aa str0__0 pos0__0 j2 (Bool.true)) else (y8e aa str0__0 pos0__0 j2 ((yg str0__0 pos0__0).1==95))) else (y8e aa str0__0 pos0__0 j2 ((yg str0__0 pos0__0).1==95)))
theorem y06 (n:Nat) (hn:big≤n)  (r0:List UInt8→List UInt8→Int→Option (Bool×Unit)) (aa:List UInt8) (str0__0:List UInt8) (pos0__0:Int) (j2:Bool):LeF (elim some fun (ai:Unit)=>r0 aa str0__0 (yg (str0__0) pos0__0).2) (y4x aa str0__0 pos0__0 j2) (y2x n r0 aa str0__0 pos0__0 j2) :=
  (y4 (y4 (by apply y14 n hn) (by apply y14 n hn)) (by apply y14 n hn))
def yBy (aa:List UInt8) (str0__0:List UInt8) (pos0__0:Int):Option ((Bool×Unit)⊕Unit) :=
  (bif decide ((yg str0__0 pos0__0).1 ≥ 65) then (bif decide ((yg str0__0 pos0__0).1≤90) then (y4x aa str0__0 pos0__0 (Bool.true)) else (bif decide ((yg str0__0 pos0__0).1 ≥ 97) then (y4x aa str0__0 pos0__0 (decide ((yg str0__0 pos0__0).1≤122))) else (y4x aa str0__0 pos0__0 (Bool.false)))) else (bif decide ((yg str0__0 pos0__0).1 ≥ 97) then (y4x aa str0__0 pos0__0 (decide ((yg str0__0 pos0__0).1≤122))) else (y4x aa str0__0 pos0__0 (Bool.false))))
def yBi (aa:List UInt8) (str0__0:List UInt8):Option (Bool×Unit) :=
  (bif !aa==[] then (some ((decide ((↑aa.length:Int)≤24),()))) else (some ((Bool.false,()))))
theorem yDZ (n:Nat) (hn:big≤n)  (aa:List UInt8) (str0__0:List UInt8) (hx:List.length (str0__0) < lenMax):LeF some (y3W (str0__0) (fun aj ai=>yBy aa str0__0 aj) (fun ai=>yBi aa str0__0) (List.length (str0__0)) 0 ()) (y7C n n aa str0__0 0) := by
  refine yFP (f := some) (W := fun ay aj ai=>y7C n ay aa str0__0 aj) (fun ay aj ai=>?_) () n (by unfold big at hn; unfold lenMax at hx; omega)
  show LeF _ _ (yEM n (y7C n ay) aa str0__0 aj)
  exact y4 (y4 (y4 (by apply y06 n hn) (y4 (by apply y06 n hn) (by apply y06 n hn))) (y4 (by apply y06 n hn) (by apply y06 n hn))) (y0R (y4 (y6 rfl) (y6 rfl)))
def yKG (s:List UInt8):Option (Bool×Unit) :=
  (bif decide (List.length (s) < lenMax) then y3W (s) (fun aj ai=>yBy (s) (s) aj) (fun ai=>yBi (s) (s)) (List.length (s)) 0 () else none)
abbrev z0O_e:Entry := { f := 132,args := .pair t9 .unit,rS := .pair t4 .unit,m := fun x=>yKG x.1 }
theorem yQe:FnOK Tryz.prog z0O_e := fB Tryz.f132 (fun n x=>ySQ n x.1) [[0,8]] eNil fun n hn x=>(yW fun hx=>by apply yDZ n hn; exact hx)
def yMN (n:Nat) (r0:List Int→(Int×Unit→Option (Bool×Unit))→Int→Int→Option (Int×Unit)) (aa:List Int) (b6:Int×Unit→Option (Bool×Unit)) (au:Int) (a7:Int):Option (Int×Unit) :=
  (bif decide (a7 < au) then (Option.bind (idx aa a7) fun (v1:Int)=>(Option.bind (b6 (v1,())) fun (v2:Bool×Unit)=>(bif v2.1 then some (a7,()) else r0 aa b6 au (IntKind.i64.wrap (a7 + 1))))) else some ((-1:Int),()))
def yLv (n:Nat)  (k:Nat) (aa:List Int) (b6:Int×Unit→Option (Bool×Unit)) (au:Int) (a7:Int):Option (Int×Unit) :=
  iter (fun r y=>yMN n (fun aa b6 au a7=>r ((aa,(b6,(au,(a7,())))),((),()))) y.1.1 y.1.2.1 y.1.2.2.1 y.1.2.2.2.1) k ((aa,(b6,(au,(a7,())))),((),()))
def zK_m (n:Nat) (s:List Int) (f:Int×Unit→Option (Bool×Unit)):Option (Int×Unit) :=
  (yLv n n (s) (f) ((↑s.length:Int)) ((0:Int)))
def zK_M (s:List Int) (f:Int×Unit→Option (Bool×Unit)):Option (Int×Unit) := zK_m 1000 s f
abbrev zK_e:Entry := { f := 135,args := .pair t45 (.pair t155 .unit),rS := .pair t3 .unit,m := fun x=>zK_M x.1 x.2.1 }
theorem yRc:FnOK Tryz.prog zK_e := fF 1000 Tryz.f135 (fun n x=>zK_m n x.1 x.2.1) [[0,1,7,8]] eNil
def yNC (n:Nat) (f:Fai):Option (Fai×Unit) :=
  some ((f.1,(0:Int),(0:Int),(0:Int),()),())
def z0J (f:Fai):(Fai×Unit) :=
  ((f.1,(0:Int),(0:Int),(0:Int),()),())
abbrev yNU (f:Fai):Option (Fai×Unit) := some (z0J f)
abbrev z0J_e:Entry := { f := 149,args := .pair t131 .unit,rS := .pair t131 .unit,m := fun x=>yNU x.1 }
theorem yPK:FnOK Tryz.prog z0J_e := fF (hm := by intro x; show some (z0J x.1) = yNC 0 x.1; unfold yNC z0J; first | rfl | simp only [ya]) 0 Tryz.f149 (fun n x=>yNC n x.1) [] eNil
def yNp (n:Nat) (p0:Fai) (p1:Int) (p2:List UInt8×Int×Unit):Option ((List UInt8×Int×Unit)×Bool×Unit) :=
  some ((p2.1,p2.2.1,()),Bool.true,())
def z0K (p0:Fai) (p1:Int) (p2:List UInt8×Int×Unit):((List UInt8×Int×Unit)×Bool×Unit) :=
  ((p2.1,p2.2.1,()),Bool.true,())
abbrev yNK (p0:Fai) (p1:Int) (p2:List UInt8×Int×Unit):Option ((List UInt8×Int×Unit)×Bool×Unit) := some (z0K p0 p1 p2)
abbrev z0K_e:Entry := { f := 150,args := .pair t131 (.pair t3 (.pair t56 .unit)),rS := .pair t56 (.pair t4 .unit),m := fun x=>yNK x.1 x.2.1 x.2.2.1 }
theorem yOa:FnOK Tryz.prog z0K_e := fF (hm := by intro x; show some (z0K x.1 x.2.1 x.2.2.1) = yNp 0 x.1 x.2.1 x.2.2.1; unfold yNp z0K; first | rfl | simp only [ya]) 0 Tryz.f150 (fun n x=>yNp n x.1 x.2.1 x.2.2.1) [] eNil
def yMD (n:Nat) (f:Fai):Option (Fai×Unit) :=
  some ((f.1,f.2.1,(0:Int),(0:Int),()),())
def z0L (f:Fai):(Fai×Unit) :=
  ((f.1,f.2.1,(0:Int),(0:Int),()),())
abbrev yMp (f:Fai):Option (Fai×Unit) := some (z0L f)
abbrev z0L_e:Entry := { f := 151,args := .pair t131 .unit,rS := .pair t131 .unit,m := fun x=>yMp x.1 }
theorem yQl:FnOK Tryz.prog z0L_e := fF (hm := by intro x; show some (z0L x.1) = yMD 0 x.1; unfold yMD z0L; first | rfl | simp only [ya]) 0 Tryz.f151 (fun n x=>yMD n x.1) [] eNil
def yMR (n:Nat) (f:Fai) (p1:Int) (p2:List UInt8×Int×Unit):Option ((List UInt8×Int×Unit)×Bool×Unit) :=
  some ((p2.1,p2.2.1,()),p1 != f.2.1,())
def z0M (f:Fai) (p1:Int) (p2:List UInt8×Int×Unit):((List UInt8×Int×Unit)×Bool×Unit) :=
  ((p2.1,p2.2.1,()),p1 != f.2.1,())
abbrev yM3 (f:Fai) (p1:Int) (p2:List UInt8×Int×Unit):Option ((List UInt8×Int×Unit)×Bool×Unit) := some (z0M f p1 p2)
abbrev z0M_e:Entry := { f := 152,args := .pair t131 (.pair t3 (.pair t56 .unit)),rS := .pair t56 (.pair t4 .unit),m := fun x=>yM3 x.1 x.2.1 x.2.2.1 }
theorem yOe:FnOK Tryz.prog z0M_e := fF (hm := by intro x; show some (z0M x.1 x.2.1 x.2.2.1) = yMR 0 x.1 x.2.1 x.2.2.1; unfold yMR z0M; first | rfl | simp only [ya]) 0 Tryz.f152 (fun n x=>yMR n x.1 x.2.1 x.2.2.1) [] eNil
def yNo (n:Nat) (f:Fai):Option (Fai×Unit) :=
  some ((f.1,f.2.1,f.2.2.1,f.2.2.2.1,()),())
def z0N (f:Fai):(Fai×Unit) :=
  ((f.1,f.2.1,f.2.2.1,f.2.2.2.1,()),())
abbrev yNf (f:Fai):Option (Fai×Unit) := some (z0N f)
abbrev z0N_e:Entry := { f := 153,args := .pair t131 .unit,rS := .pair t131 .unit,m := fun x=>yNf x.1 }
theorem yQN:FnOK Tryz.prog z0N_e := fF (hm := by intro x; show some (z0N x.1) = yNo 0 x.1; unfold yNo z0N; first | rfl | simp only [ya]) 0 Tryz.f153 (fun n x=>yNo n x.1) [] eNil
def zh_m (n:Nat) (f:Fai) (p1:Int) (p2:List UInt8×Int×Unit):Option ((List UInt8×Int×Unit)×Bool×Unit) :=
  (bif decide (p1 ≥ f.2.1) then (bif decide (f.2.2.1 < 0) then none else (bif decide (f.2.2.1 < 0) then none else some ((p2.1,y0N IntKind.i64 Go.BinOp.or (y0N IntKind.i64 Go.BinOp.andNot p2.2.1 (IntKind.i64.wrap ((1:Int) * 2 ^ Min.min f.2.2.1.toNat IntKind.i64.bits))) (IntKind.i64.wrap (f.2.2.2.1 * 2 ^ Min.min f.2.2.1.toNat IntKind.i64.bits)),()),Bool.true,()))) else some ((p2.1,p2.2.1,()),Bool.true,()))
def zh_M (f:Fai) (p1:Int) (p2:List UInt8×Int×Unit):Option ((List UInt8×Int×Unit)×Bool×Unit) := zh_m 0 f p1 p2
abbrev zh_e:Entry := { f := 154,args := .pair t131 (.pair t3 (.pair t56 .unit)),rS := .pair t56 (.pair t4 .unit),m := fun x=>zh_M x.1 x.2.1 x.2.2.1 }
theorem yRg:FnOK Tryz.prog zh_e := fF (mu := [5]) 0 Tryz.f154 (fun n x=>zh_m n x.1 x.2.1 x.2.2.1) [] eNil
end
end Go.Tw
end
