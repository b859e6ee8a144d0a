import Derived.Test.YtimaoihjoojcdaaGreatDoorBT
import Derived.Test.YtimaoihjoojcdaaGreatDoorB0
import Derived.Test.YtimaoihjoojcdaaGreatDoorSA
import Derived.Test.YtimaoihjoojcdaaGreatDoorLQ
import Derived.Test.YtimaoihjoojcdaaGreatDoorLR
import Derived.Test.YtimaoihjoojcdaaGreatDoorBA
set_option linter.all false
section
set_option maxRecDepth 1000000
namespace Go.Tw
open Go.Vx Go.Vx.B Go.Proofs
noncomputable section
def yEp (n:Nat) (r0:Cha→Int→List (List UInt8)→Option (List (List UInt8)×Unit)) (a8:Cha) (aZ:Int) (aa:List (List UInt8)):Option (List (List UInt8)×Unit) :=
  (bif decide (aZ < (↑a8.2.1.length:Int)) then (Option.bind (idx a8.2.1 aZ) fun (v1:Tra)=>(Option.bind (yHt aa v1.2.1) fun (v2:Bool×Unit)=>(bif !v2.1 then (Option.bind (idx a8.2.1 aZ) fun (v3:Tra)=>(bif decide (aa.length + (1:Nat)≤memMax) then r0 a8 (IntKind.i64.wrap (aZ + 1)) (aa ++ [v3.2.1]) else none)) else r0 a8 (IntKind.i64.wrap (aZ + 1)) aa))) else some (aa,()))
def y7A (n:Nat)  (k:Nat) (a8:Cha) (aZ:Int) (aa:List (List UInt8)):Option (List (List UInt8)×Unit) :=
  iter (fun r y=>yEp n (fun a8 aZ aa=>r ((a8,(aZ,())),((aa,()),()))) y.1.1 y.1.2.1 y.2.1.1) k ((a8,(aZ,())),((aa,()),()))
def ySJ (n:Nat) (c:Cha):Option (List (List UInt8)×Unit) :=
  (y7A n n (c) ((0:Int)) ([]))
def yFO (a8:Cha) (aZ:Int) (v1:Tra) (aa:List (List UInt8)):Option ((List (List UInt8)×Unit)⊕(List (List UInt8))) :=
  (Option.bind (yHt aa v1.2.1) fun (v2:Bool×Unit)=>(bif !v2.1 then (Option.bind (idx a8.2.1 aZ) fun (v3:Tra)=>(bif decide (aa.length + (1:Nat)≤memMax) then (some (Sum.inr (aa ++ [v3.2.1]))) else none)) else (some (Sum.inr (aa)))))
def yHs (a8:Cha) (aa:List (List UInt8)):Option (List (List UInt8)×Unit) :=
  (some ((aa,())))
theorem yCq (n:Nat) (hn:big≤n)  (a8:Cha) (aa:List (List UInt8)) (hx:List.length (a8.2.1) < lenMax):LeF some (yI (fun ak aQ af=>yFO a8 ak aQ af) (fun af=>yHs a8 af) 0 (a8.2.1) aa) (y7A n n a8 0 aa) := by
  refine yQ (f := some) (W := fun aJ ak af=>y7A n aJ a8 ak af) (fun aJ ak af=>?_) hx aa n (by unfold big at hn; unfold lenMax at hx; omega)
  show LeF _ _ (yEp n (y7A n aJ) a8 ak af)
  exact y4 (yA fun v1=>(yA fun v2=>(y4 (yA fun v3=>(y4 (y6 rfl) yL)) (y6 rfl)))) (y0R (y6 rfl))
def yHX (c:Cha):Option (List (List UInt8)×Unit) :=
  (bif decide (List.length (c.2.1) < lenMax) then yI (fun ak aQ af=>yFO (c) ak aQ af) (fun af=>yHs (c) af) 0 (c.2.1) ([]) else none)
abbrev z0T_e:Entry := { f := 50,args := .pair t25 .unit,rS := .pair t51 .unit,m := fun x=>yHX x.1 }
theorem yOn:FnOK Tryz.prog z0T_e := fB (mu := [3]) Tryz.f50 (fun n x=>ySJ n x.1) [[1,3,4]] (yB yPc eNil) fun n hn x=>(yW fun hx=>by apply yCq n hn; exact hx)
def yNk (n:Nat) (r0:List Sta→Int→Int→List (Sta×Int×Unit)→Option (List Int×Unit)) (aq:List Sta) (aT:Int) (aM:Int) (aa:List (Sta×Int×Unit)):Option (List Int×Unit) :=
  (bif decide (aM < aT) then (Option.bind (idx aq aM) fun (v1:Sta)=>(bif decide (aa.length + (1:Nat)≤memMax) then r0 aq aT (IntKind.i64.wrap (aM + 1)) (aa ++ [((v1.1,v1.2.1,v1.2.2.1,v1.2.2.2.1,()),aM,())]) else none)) else (Option.bind (zP_M aa fun (x:(Sta×Int×Unit)×Unit)=>zj_M x.1) fun (v2:List (Sta×Int×Unit)×Unit)=>(Option.bind (zF_M v2.1 fun (x:(Sta×Int×Unit)×Unit)=>zZ_M x.1) fun (v3:List Int×Unit)=>some (v3.1,()))))
def yM5 (n:Nat)  (k:Nat) (aq:List Sta) (aT:Int) (aM:Int) (aa:List (Sta×Int×Unit)):Option (List Int×Unit) :=
  iter (fun r y=>yNk n (fun aq aT aM aa=>r ((aq,(aT,(aM,()))),((aa,()),()))) y.1.1 y.1.2.1 y.1.2.2.1 y.2.1.1) k ((aq,(aT,(aM,()))),((aa,()),()))
def zc_m (n:Nat) (c:Cha):Option (List Int×Unit) :=
  (yM5 n n (c.1) ((↑c.1.length:Int)) ((0:Int)) ([]))
def zc_M (c:Cha):Option (List Int×Unit) := zc_m 1000 c
abbrev zc_e:Entry := { f := 54,args := .pair t34 .unit,rS := .pair t45 .unit,m := fun x=>zc_M x.1 }
theorem yQY:FnOK Tryz.prog zc_e := fF (mu := [3]) 1000 Tryz.f54 (fun n x=>zc_m n x.1) [[3,7,8,9]] (yB yRi (yB yRR (yB ySV (yB yRa eNil))))
def yNM (n:Nat) (s:List UInt8):Option (Int×Unit) :=
  (Option.bind (yKH s) fun (v0:Bool×Unit)=>(bif !v0.1 then some ((8:Int),()) else some ((0:Int),())))
def yD4 (s:List UInt8):Option (Int×Unit) := yNM 0 s
abbrev z00_e:Entry := { f := 45,args := .pair t9 .unit,rS := .pair t3 .unit,m := fun x=>yD4 x.1 }
theorem yOc:FnOK Tryz.prog z00_e := fF 0 Tryz.f45 (fun n x=>yNM n x.1) [] (yB yOw eNil)
def zS_m (n:Nat) (c:Cha) (leaf:Int):Option (Int×Unit) :=
  (bif decide (leaf < 0) then some ((10:Int),()) else (bif decide (leaf ≥ (↑c.1.length:Int)) then some ((10:Int),()) else (Option.bind (idx c.1 leaf) fun (v2:Sta)=>some ((z0y (v2.2.2.1 != (-1:Int)) (20:Int)).1,()))))
def zS_M (c:Cha) (leaf:Int):Option (Int×Unit) := zS_m 0 c leaf
abbrev zS_e:Entry := { f := 60,args := .pair t34 (.pair t3 .unit),rS := .pair t28 .unit,m := fun x=>zS_M x.1 x.2.1 }
theorem yRq:FnOK Tryz.prog zS_e := fF 0 Tryz.f60 (fun n x=>zS_m n x.1 x.2.1) [] (yB y4e eNil)
def yLq (n:Nat) (np:Int) (least:Int) (most:Int):Option (Int×Unit) :=
  (bif decide (np < least) then some ((z0y Bool.true (3:Int)).1,()) else some ((z0y (decide (np > most)) (3:Int)).1,()))
def z0c (np:Int) (least:Int) (most:Int):(Int×Unit) :=
  (bif decide (np < least) then ((z0y Bool.true (3:Int)).1,()) else ((z0y (decide (np > most)) (3:Int)).1,()))
abbrev yS0 (np:Int) (least:Int) (most:Int):Option (Int×Unit) := some (z0c np least most)
abbrev z0c_e:Entry := { f := 72,args := .pair t3 (.pair t3 (.pair t3 .unit)),rS := .pair t28 .unit,m := fun x=>yS0 x.1 x.2.1 x.2.2.1 }
theorem yB0:FnOK Tryz.prog z0c_e := fF (hm := by intro x; show some (z0c x.1 x.2.1 x.2.2.1) = yLq 0 x.1 x.2.1 x.2.2.1; unfold yLq z0c; first | rfl | simp only [ya]) 0 Tryz.f72 (fun n x=>yLq n x.1 x.2.1 x.2.2.1) [] (yB y4e eNil)
def yOG (n:Nat) (xp:Cas) (o:Int×Bool×Bool×Unit) (p2:Cha):Option (Bool×Unit) :=
  (bif y0N IntKind.i64 Go.BinOp.and xp.2.2.1 (1:Int) != 0 then (bif !o.2.2.1 then (Option.bind (idx p2.1 o.1) fun (v0:Sta)=>some (v0.2.2.2.1,())) else some (Bool.false,())) else some (Bool.false,()))
def yQ0 (xp:Cas) (o:Int×Bool×Bool×Unit) (p2:Cha):Option (Bool×Unit) := yOG 0 xp o p2
abbrev z03_e:Entry := { f := 67,args := .pair t73 (.pair t135 (.pair (.ref t34) .unit)),rS := .pair t4 .unit,m := fun x=>yQ0 x.1 x.2.1 x.2.2.1 }
theorem yQO:FnOK Tryz.prog z03_e := fF 0 Tryz.f67 (fun n x=>yOG n x.1 x.2.1 x.2.2.1) [] (yB yLa eNil)
def zL_m (n:Nat) (s:List Int) (v:Int):Option (Bool×Unit) :=
  (Option.bind (zW_M s v) fun (v0:Int×Unit)=>some (decide (v0.1 ≥ 0),()))
def zL_M (s:List Int) (v:Int):Option (Bool×Unit) := zL_m 0 s v
abbrev zL_e:Entry := { f := 66,args := .pair t45 (.pair t3 .unit),rS := .pair t4 .unit,m := fun x=>zL_M x.1 x.2.1 }
theorem yJP:FnOK Tryz.prog zL_e := fF 0 Tryz.f66 (fun n x=>zL_m n x.1 x.2.1) [] (yB yRj eNil)
def zE_m (n:Nat) (s:List (List UInt8)) (v:List UInt8):Option (Bool×Unit) :=
  (Option.bind (zH_M s v) fun (v0:Int×Unit)=>some (decide (v0.1 ≥ 0),()))
def zE_M (s:List (List UInt8)) (v:List UInt8):Option (Bool×Unit) := zE_m 0 s v
abbrev zE_e:Entry := { f := 102,args := .pair t51 (.pair t9 .unit),rS := .pair t4 .unit,m := fun x=>zE_M x.1 x.2.1 }
theorem yRx:FnOK Tryz.prog zE_e := fF 0 Tryz.f102 (fun n x=>zE_m n x.1 x.2.1) [] (yB ySK eNil)
def yN7 (n:Nat) (s:List UInt8):Option (Int×Unit) :=
  (Option.bind (yKG s) fun (v0:Bool×Unit)=>some ((z0y (!v0.1) (8:Int)).1,()))
def y92 (s:List UInt8):Option (Int×Unit) := yN7 0 s
abbrev z06_e:Entry := { f := 105,args := .pair t9 .unit,rS := .pair t28 .unit,m := fun x=>y92 x.1 }
theorem yEa:FnOK Tryz.prog z06_e := fF 0 Tryz.f105 (fun n x=>yN7 n x.1) [] (yB yQe (yB y4e eNil))
def zY_m (n:Nat) (t:Tra) (conditions:Int):Option (Bool×Unit) :=
  some (eqV (Ty.arr (4:Nat) Ty.bool) (z0b (y0N IntKind.i64 Go.BinOp.and conditions t.2.2.2.1)).1 (z0b t.2.2.2.2.1).1,())
def zY (t:Tra) (conditions:Int):(Bool×Unit) :=
  (eqV (Ty.arr (4:Nat) Ty.bool) (z0b (y0N IntKind.i64 Go.BinOp.and conditions t.2.2.2.1)).1 (z0b t.2.2.2.2.1).1,())
abbrev zY_M (t:Tra) (conditions:Int):Option (Bool×Unit) := some (zY t conditions)
abbrev zY_e:Entry := { f := 109,args := .pair t65 (.pair t3 .unit),rS := .pair t4 .unit,m := fun x=>zY_M x.1 x.2.1 }
theorem yRK:FnOK Tryz.prog zY_e := fF (hm := by intro x; show some (zY x.1 x.2.1) = zY_m 0 x.1 x.2.1; unfold zY_m zY; first | rfl | simp only [ya]) 0 Tryz.f109 (fun n x=>zY_m n x.1 x.2.1) [] (yB yLa eNil)
def zG_m (n:Nat) (s:List Int) (f:Int×Unit→Option (Bool×Unit)):Option (Bool×Unit) :=
  (Option.bind (zK_M s f) fun (v0:Int×Unit)=>some (decide (v0.1 ≥ 0),()))
def zG_M (s:List Int) (f:Int×Unit→Option (Bool×Unit)):Option (Bool×Unit) := zG_m 0 s f
abbrev zG_e:Entry := { f := 114,args := .pair t45 (.pair t155 .unit),rS := .pair t4 .unit,m := fun x=>zG_M x.1 x.2.1 }
theorem yP0:FnOK Tryz.prog zG_e := fF 0 Tryz.f114 (fun n x=>zG_m n x.1 x.2.1) [] (yB yRc eNil)
abbrev yMi:Ty := .unit
abbrev yPd:Ty := .pair t215 .unit
def yQT:G := { T := T,E := [z0J_e,z0K_e,z0L_e,z0M_e,z0N_e,zh_e],mU := [],fz := [] }
def yRQ:List (List Nat) := []
def yLE (n:Nat):Ann := { keep := yRQ,fuel := n,inl := [],deep := 0 }
def yK9 (n:Nat)  : Option (List (List UInt8×(Fai×Unit→Option (Fai×Unit))×(Fai×Int×(List UInt8×Int×Unit)×Unit→Option ((List UInt8×Int×Unit)×Bool×Unit))×Unit)×Unit) :=
  some ([([(110:UInt8),111,110,101],fun (x:Fai×Unit)=>yNU x.1,fun (x:Fai×Int×(List UInt8×Int×Unit)×Unit)=>yNK x.1 x.2.1 x.2.2.1,()),([(108:UInt8),111,115,116],fun (x:Fai×Unit)=>yMp x.1,fun (x:Fai×Int×(List UInt8×Int×Unit)×Unit)=>yM3 x.1 x.2.1 x.2.2.1,()),([(115:UInt8),116,117,99,107],fun (x:Fai×Unit)=>yNf x.1,fun (x:Fai×Int×(List UInt8×Int×Unit)×Unit)=>zh_M x.1 x.2.1 x.2.2.1,())],())
theorem yQW (n:Nat) (x:yMi.den):runF yQT (yLE n) Tryz.f131 yMi yPd x = yK9 n := by kernel_rfl
def z0p  : (List (List UInt8×(Fai×Unit→Option (Fai×Unit))×(Fai×Int×(List UInt8×Int×Unit)×Unit→Option ((List UInt8×Int×Unit)×Bool×Unit))×Unit)×Unit) :=
  ([([(110:UInt8),111,110,101],fun (x:Fai×Unit)=>yNU x.1,fun (x:Fai×Int×(List UInt8×Int×Unit)×Unit)=>yNK x.1 x.2.1 x.2.2.1,()),([(108:UInt8),111,115,116],fun (x:Fai×Unit)=>yMp x.1,fun (x:Fai×Int×(List UInt8×Int×Unit)×Unit)=>yM3 x.1 x.2.1 x.2.2.1,()),([(115:UInt8),116,117,99,107],fun (x:Fai×Unit)=>yNf x.1,fun (x:Fai×Int×(List UInt8×Int×Unit)×Unit)=>zh_M x.1 x.2.1 x.2.2.1,())],())
abbrev yOm  : Option (List (List UInt8×(Fai×Unit→Option (Fai×Unit))×(Fai×Int×(List UInt8×Int×Unit)×Unit→Option ((List UInt8×Int×Unit)×Bool×Unit))×Unit)×Unit) := some (z0p)
theorem yMY  (y:List (List UInt8×(Fai×Unit→Option (Fai×Unit))×(Fai×Int×(List UInt8×Int×Unit)×Unit→Option ((List UInt8×Int×Unit)×Bool×Unit))×Unit)×Unit) (h:yOm = some y) : ∃ n,yK9 n = some y :=
  ⟨0,by rw [← h]; show yK9 0 = some (z0p); unfold yK9 z0p; first | rfl | (simp only [ya]; done) | (simp only [ya]; rfl)⟩
def z0p_e:Entry := { f := 131,args := yMi,rS := yPd,m := fun x=>yOm }
theorem yOJ:FnOK Tryz.prog z0p_e := y1t (g := yQT) (fn := Tryz.f131) y0I y1i (yB yPK (yB yOa (yB yQl (yB yOe (yB yQN (yB yRg eNil)))))) (by kernel_rfl) (by kernel_rfl) (by kernel_rfl) (fun x y h=>let ⟨n,hn⟩ := yMY y h; ⟨yLE n,iNil,(yQW n x).trans hn⟩)
end
end Go.Tw
end
section
set_option maxRecDepth 1000000
namespace Go.Tw
open Go.Vx Go.Vx.B Go.Proofs
noncomputable section
def yIv (n:Nat) (r0:Cha→Int→Option (Int×Unit)) (r3:Cha→Int→Int→List UInt8→Int→Int→Bool→Option (Int×Unit)) (aI:Cha) (aE:Int) (bd:Int) (ar:List UInt8) (al:Int) (ax:Int) (ay:Bool):Option (Int×Unit) :=
  (bif decide (bd < aE) then (Option.bind (idx aI.1 bd) fun (v4:Sta)=>(bif v4.1==ar then some ((9:Int),()) else r3 aI aE (IntKind.i64.wrap (bd + 1)) ar al ax ay)) else (bif decide (al < (-1:Int)) then some ((11:Int),()) else (bif decide (al ≥ aE) then some ((11:Int),()) else r0 aI (IntKind.i64.wrap (aE + 1)))))
def yAF (n:Nat) (r0:Cha→Int→Option (Int×Unit)) (k:Nat) (aI:Cha) (aE:Int) (bd:Int) (ar:List UInt8) (al:Int) (ax:Int) (ay:Bool):Option (Int×Unit) :=
  iter (fun r y=>yIv n r0 (fun aI aE bd ar al ax ay=>r ((aI,(aE,(bd,()))),(((ar,(al,(ax,(ay,())))),()),()))) y.1.1 y.1.2.1 y.1.2.2.1 y.2.1.1.1 y.2.1.1.2.1 y.2.1.1.2.2.1 y.2.1.1.2.2.2.1) k ((aI,(aE,(bd,()))),(((ar,(al,(ax,(ay,())))),()),()))
def yEl (n:Nat) (r19:Cha→Int→Option (Int×Unit)) (au:Cha) (aO:Int):Option (Int×Unit) :=
  (bif decide (aO < (↑au.2.1.length:Int)) then (Option.bind (idx au.2.1 aO) fun (v20:Tra)=>(bif (zt v20.1 (0:Int) (IntKind.i64.wrap ((↑au.1.length:Int) - (1:Int)))).1 != 0 then some ((10:Int),()) else (bif (zt v20.2.2.1 (0:Int) (IntKind.i64.wrap ((↑au.1.length:Int) - (1:Int)))).1 != 0 then some ((10:Int),()) else (Option.bind (yD4 v20.2.1) fun (v23:Int×Unit)=>(Option.bind (yIl [v23.1,(zt v20.2.2.2.1 (0:Int) (15:Int)).1,(zt v20.2.2.2.2.1 (0:Int) (15:Int)).1,(z0t (y0N IntKind.i64 Go.BinOp.and v20.2.2.2.2.1 v20.2.2.2.1 != v20.2.2.2.2.1) (1:Int)).1]) fun (v24:Int×Unit)=>(bif v24.1 != 0 then some (v24.1,()) else r19 au (IntKind.i64.wrap (aO + 1)))))))) else (Option.bind (yHX au) fun (v25:List (List UInt8)×Unit)=>some ((z0t (decide ((↑v25.1.length:Int) > 8)) (5:Int)).1,())))
def y73 (n:Nat)  (k:Nat) (au:Cha) (aO:Int):Option (Int×Unit) :=
  iter (fun r y=>yEl n (fun au aO=>r ((au,(aO,())),((),()))) y.1.1 y.1.2.1) k ((au,(aO,())),((),()))
def yHF (n:Nat) (r7:Cha→Int→Option (Int×Unit)) (aA:Cha) (aV:Int):Option (Int×Unit) :=
  (bif decide (aV < (↑aA.1.length:Int)) then (Option.bind (idx aA.1 aV) fun (v8:Sta)=>(Option.bind (yHS aA aV v8.2.2.1) fun (v9:Int×Bool×Unit)=>(bif decide (v9.1 > 0) then (bif !v9.2.1 then some ((1:Int),()) else (bif v8.2.2.2.1 then some ((1:Int),()) else (bif v9.1==0 then (bif v8.2.2.1 != (-1:Int) then some ((1:Int),()) else r7 aA (IntKind.i64.wrap (aV + 1))) else r7 aA (IntKind.i64.wrap (aV + 1))))) else (bif v9.1==0 then (bif v8.2.2.1 != (-1:Int) then some ((1:Int),()) else r7 aA (IntKind.i64.wrap (aV + 1))) else r7 aA (IntKind.i64.wrap (aV + 1)))))) else (bif decide ((↑aA.2.1.length:Int) > 48) then some ((5:Int),()) else (y73 n n (aA) ((0:Int)))))
def yAk (n:Nat)  (k:Nat) (aA:Cha) (aV:Int):Option (Int×Unit) :=
  iter (fun r y=>yHF n (fun aA aV=>r ((aA,(aV,())),((),()))) y.1.1 y.1.2.1) k ((aA,(aV,())),((),()))
def yGv (n:Nat) (r0:Cha→Int→Option (Int×Unit)) (a8:Cha) (aY:Int):Option (Int×Unit) :=
  (bif decide (aY < (↑a8.1.length:Int)) then (Option.bind (idx a8.1 aY) fun (v1:Sta)=>(Option.bind (yD4 v1.1) fun (v2:Int×Unit)=>(bif v2.1 != 0 then some (v2.1,()) else (yAF n r0 n (a8) (aY) ((0:Int)) (v1.1) (v1.2.1) (v1.2.2.1) (v1.2.2.2.1))))) else (yAk n n (a8) ((0:Int))))
def yAp (n:Nat)  (k:Nat) (a8:Cha) (aY:Int):Option (Int×Unit) :=
  iter (fun r y=>yGv n (fun a8 aY=>r ((a8,(aY,())),((),()))) y.1.1 y.1.2.1) k ((a8,(aY,())),((),()))
def zu_m (n:Nat) (c:Cha):Option (Int×Unit) :=
  (bif (↑c.1.length:Int)==0 then some ((12:Int),()) else (bif decide ((↑c.1.length:Int) > 16) then some ((5:Int),()) else (yAp n n (c) ((0:Int)))))
def yGK (aI:Cha) (aE:Int) (ar:List UInt8) (al:Int) (ax:Int) (ay:Bool) (bd:Int):Option (((Int×Unit)⊕Unit)⊕Unit) :=
  (Option.bind (idx aI.1 bd) fun (v4:Sta)=>(bif v4.1==ar then (some (Sum.inl (Sum.inl (((9:Int),()))))) else (some (Sum.inr ()))))
def yHT (aI:Cha) (aE:Int) (ar:List UInt8) (al:Int) (ax:Int) (ay:Bool):Option ((Int×Unit)⊕Unit) :=
  (bif decide (al < (-1:Int)) then (some (Sum.inl (((11:Int),())))) else (bif decide (al ≥ aE) then (some (Sum.inl (((11:Int),())))) else (some (Sum.inr ()))))
theorem yGi (n:Nat) (hn:big≤n)  (r0:Cha→Int→Option (Int×Unit)) (aI:Cha) (aE:Int) (ar:List UInt8) (al:Int) (ax:Int) (ay:Bool) (hx:(aE)≤9223372036854775807):LeF (elim some fun (af:Unit)=>r0 aI (IntKind.i64.wrap (aE + 1))) (y44 (fun ak af=>yGK aI aE ar al ax ay ak) (fun af=>yHT aI aE ar al ax ay) ((aE) - 0).toNat 0 ()) (yAF n r0 n aI aE 0 ar al ax ay) := by
  refine y6y (f := (elim some fun (af:Unit)=>r0 aI (IntKind.i64.wrap (aE + 1)))) (W := fun aJ ak af=>yAF n r0 aJ aI aE ak ar al ax ay) (body := (fun ak af=>yGK aI aE ar al ax ay ak)) (fin := (fun af=>yHT aI aE ar al ax ay)) (fun aJ ak af=>?_) hx () n 0 (by decide) (by unfold big at hn; omega)
  show LeF _ _ (yIv n r0 (yAF n r0 aJ) aI aE ak ar al ax ay)
  exact y4 (yA fun v4=>(y4 (y6 rfl) (y6 rfl))) (y0R (y4 (y6 rfl) (y4 (y6 rfl) (y6 rfl))))
def yBP (au:Cha) (aO:Int) (v20:Tra):Option ((Int×Unit)⊕Unit) :=
  (bif (zt v20.1 (0:Int) (IntKind.i64.wrap ((↑au.1.length:Int) - (1:Int)))).1 != 0 then (some (Sum.inl (((10:Int),())))) else (bif (zt v20.2.2.1 (0:Int) (IntKind.i64.wrap ((↑au.1.length:Int) - (1:Int)))).1 != 0 then (some (Sum.inl (((10:Int),())))) else (Option.bind (yD4 v20.2.1) fun (v23:Int×Unit)=>(Option.bind (yIl [v23.1,(zt v20.2.2.2.1 (0:Int) (15:Int)).1,(zt v20.2.2.2.2.1 (0:Int) (15:Int)).1,(z0t (y0N IntKind.i64 Go.BinOp.and v20.2.2.2.2.1 v20.2.2.2.1 != v20.2.2.2.2.1) (1:Int)).1]) fun (v24:Int×Unit)=>(bif v24.1 != 0 then (some (Sum.inl ((v24.1,())))) else (some (Sum.inr ())))))))
def yCY (au:Cha):Option (Int×Unit) :=
  (Option.bind (yHX au) fun (v25:List (List UInt8)×Unit)=>(some (((z0t (decide ((↑v25.1.length:Int) > 8)) (5:Int)).1,()))))
theorem yDY (n:Nat) (hn:big≤n)  (au:Cha) (hx:List.length (au.2.1) < lenMax):LeF some (yI (fun ak aQ af=>yBP au ak aQ) (fun af=>yCY au) 0 (au.2.1) ()) (y73 n n au 0) := by
  refine yQ (f := some) (W := fun aJ ak af=>y73 n aJ au ak) (fun aJ ak af=>?_) hx () n (by unfold big at hn; unfold lenMax at hx; omega)
  show LeF _ _ (yEl n (y73 n aJ) au ak)
  exact y4 (yA fun v20=>(y4 (y6 rfl) (y4 (y6 rfl) (yA fun v23=>(yA fun v24=>(y4 (y6 rfl) (y6 rfl))))))) (y0R (yA fun v25=>(y6 rfl)))
def yIX (aA:Cha) (aV:Int) (v8:Sta):Option ((Int×Unit)⊕Unit) :=
  (Option.bind (yHS aA aV v8.2.2.1) fun (v9:Int×Bool×Unit)=>(bif decide (v9.1 > 0) then (bif !v9.2.1 then (some (Sum.inl (((1:Int),())))) else (bif v8.2.2.2.1 then (some (Sum.inl (((1:Int),())))) else (bif v9.1==0 then (bif v8.2.2.1 != (-1:Int) then (some (Sum.inl (((1:Int),())))) else (some (Sum.inr ()))) else (some (Sum.inr ()))))) else (bif v9.1==0 then (bif v8.2.2.1 != (-1:Int) then (some (Sum.inl (((1:Int),())))) else (some (Sum.inr ()))) else (some (Sum.inr ())))))
def yHH (aA:Cha):Option (Int×Unit) :=
  (bif decide ((↑aA.2.1.length:Int) > 48) then (some (((5:Int),()))) else (bif decide (List.length (aA.2.1) < lenMax) then yI (fun ak aQ af=>yBP (aA) ak aQ) (fun af=>yCY (aA)) 0 (aA.2.1) () else none))
theorem yGB (n:Nat) (hn:big≤n)  (aA:Cha) (hx:List.length (aA.1) < lenMax):LeF some (yI (fun ak aQ af=>yIX aA ak aQ) (fun af=>yHH aA) 0 (aA.1) ()) (yAk n n aA 0) := by
  refine yQ (f := some) (W := fun aJ ak af=>yAk n aJ aA ak) (fun aJ ak af=>?_) hx () n (by unfold big at hn; unfold lenMax at hx; omega)
  show LeF _ _ (yHF n (yAk n aJ) aA ak)
  exact y4 (yA fun v8=>(yA fun v9=>(y4 (y4 (y6 rfl) (y4 (y6 rfl) (y4 (y4 (y6 rfl) (y6 rfl)) (y6 rfl)))) (y4 (y4 (y6 rfl) (y6 rfl)) (y6 rfl))))) (y0R (y4 (y6 rfl) (yW fun hx=>by apply yDY n hn; exact hx)))
def yJD (a8:Cha) (aY:Int) (v1:Sta):Option ((Int×Unit)⊕Unit) :=
  (Option.bind (yD4 v1.1) fun (v2:Int×Unit)=>(bif v2.1 != 0 then (some (Sum.inl ((v2.1,())))) else (bif decide ((aY)≤9223372036854775807) then y44 (fun ak af=>yGK (a8) (aY) (v1.1) (v1.2.1) (v1.2.2.1) (v1.2.2.2.1) ak) (fun af=>yHT (a8) (aY) (v1.1) (v1.2.1) (v1.2.2.1) (v1.2.2.2.1)) ((aY) - 0).toNat 0 () else none)))
def yH1 (a8:Cha):Option (Int×Unit) :=
  (bif decide (List.length (a8.1) < lenMax) then yI (fun ak aQ af=>yIX (a8) ak aQ) (fun af=>yHH (a8)) 0 (a8.1) () else none)
theorem yGW (n:Nat) (hn:big≤n)  (a8:Cha) (hx:List.length (a8.1) < lenMax):LeF some (yI (fun ak aQ af=>yJD a8 ak aQ) (fun af=>yH1 a8) 0 (a8.1) ()) (yAp n n a8 0) := by
  refine yQ (f := some) (W := fun aJ ak af=>yAp n aJ a8 ak) (fun aJ ak af=>?_) hx () n (by unfold big at hn; unfold lenMax at hx; omega)
  show LeF _ _ (yGv n (yAp n aJ) a8 ak)
  exact y4 (yA fun v1=>(yA fun v2=>(y4 (y6 rfl) (yW fun hx=>by apply yGi n hn; exact hx)))) (y0R (yW fun hx=>by apply yGB n hn; exact hx))
def zu_M (c:Cha):Option (Int×Unit) :=
  (bif (↑c.1.length:Int)==0 then (some (((12:Int),()))) else (bif decide ((↑c.1.length:Int) > 16) then (some (((5:Int),()))) else (bif decide (List.length (c.1) < lenMax) then yI (fun ak aQ af=>yJD (c) ak aQ) (fun af=>yH1 (c)) 0 (c.1) () else none)))
abbrev zu_e:Entry := { f := 10,args := .pair t25 .unit,rS := .pair t3 .unit,m := fun x=>zu_M x.1 }
theorem yM6:FnOK Tryz.prog zu_e := fB Tryz.f10 (fun n x=>zu_m n x.1) [[1,3],[1,3,4,6],[1,7],[1,11]] (yB yOc (yB yOg (yB ySO (yB yRB (yB yOQ (yB yOn eNil)))))) fun n hn x=>(y4 (y6 rfl) (y4 (y6 rfl) (yW fun hx=>by apply yGW n hn; exact hx)))
def yHQ (n:Nat) (r0:List Tra→Int→Int→List (List UInt8)→Option (List (List UInt8)×Unit)) (aq:List Tra) (aT:Int) (aM:Int) (aa:List (List UInt8)):Option (List (List UInt8)×Unit) :=
  (bif decide (aM < aT) then (Option.bind (idx aq aM) fun (v1:Tra)=>(Option.bind (zE_M aa v1.2.1) fun (v2:Bool×Unit)=>(bif !v2.1 then (bif decide (aa.length + (1:Nat)≤memMax) then r0 aq aT (IntKind.i64.wrap (aM + 1)) (aa ++ [v1.2.1]) else none) else r0 aq aT (IntKind.i64.wrap (aM + 1)) aa))) else some (aa,()))
def yA7 (n:Nat)  (k:Nat) (aq:List Tra) (aT:Int) (aM:Int) (aa:List (List UInt8)):Option (List (List UInt8)×Unit) :=
  iter (fun r y=>yHQ n (fun aq aT aM aa=>r ((aq,(aT,(aM,()))),((aa,()),()))) y.1.1 y.1.2.1 y.1.2.2.1 y.2.1.1) k ((aq,(aT,(aM,()))),((aa,()),()))
def zb_m (n:Nat) (c:Cha):Option (List (List UInt8)×Unit) :=
  (yA7 n n (c.2.1) ((↑c.2.1.length:Int)) ((0:Int)) ([]))
def yKQ (aq:List Tra) (aM:Int) (v1:Tra) (aa:List (List UInt8)):Option ((List (List UInt8)×Unit)⊕(List (List UInt8))) :=
  (Option.bind (zE_M aa v1.2.1) fun (v2:Bool×Unit)=>(bif !v2.1 then (bif decide (aa.length + (1:Nat)≤memMax) then (some (Sum.inr (aa ++ [v1.2.1]))) else none) else (some (Sum.inr (aa)))))
def yO2 (aq:List Tra) (aa:List (List UInt8)):Option (List (List UInt8)×Unit) :=
  (some ((aa,())))
theorem yGP (n:Nat) (hn:big≤n)  (aq:List Tra) (aa:List (List UInt8)) (hx:List.length (aq) < lenMax):LeF some (yI (fun ak aQ af=>yKQ aq ak aQ af) (fun af=>yO2 aq af) 0 (aq) aa) (yA7 n n aq (List.length (aq):Int) 0 aa) := by
  refine yQ (f := some) (W := fun aJ ak af=>yA7 n aJ aq (List.length (aq):Int) ak af) (fun aJ ak af=>?_) hx aa n (by unfold big at hn; unfold lenMax at hx; omega)
  show LeF _ _ (yHQ n (yA7 n aJ) aq (List.length (aq):Int) ak af)
  exact y4 (yA fun v1=>(yA fun v2=>(y4 (y4 (y6 rfl) yL) (y6 rfl)))) (y0R (y6 rfl))
def zb_M (c:Cha):Option (List (List UInt8)×Unit) :=
  (bif decide (List.length (c.2.1) < lenMax) then yI (fun ak aQ af=>yKQ (c.2.1) ak aQ af) (fun af=>yO2 (c.2.1) af) 0 (c.2.1) ([]) else none)
abbrev zb_e:Entry := { f := 56,args := .pair t34 .unit,rS := .pair t51 .unit,m := fun x=>zb_M x.1 }
theorem yKe:FnOK Tryz.prog zb_e := fB (mu := [3]) Tryz.f56 (fun n x=>zb_m n x.1) [[3,7,8,9]] (yB yRx eNil) fun n hn x=>(yW fun hx=>by apply yGP n hn; exact hx)
def yAx (n:Nat) (r0:Cha→List Sta→Int→Int→List (List UInt8×Bool)→List (Int×List Int)→Option (Int×Unit)) (a8:Cha) (ac:List Sta) (aB:Int) (av:Int) (ah:List (List UInt8×Bool)) (aC:List (Int×List Int)) (v1:Sta):Option (Int×Unit) :=
  (bif y3E (Ty.int IntKind.i64) v1.2.1 v1.2.1 then (bif decide (((yN (Ty.int IntKind.i64) (Ty.int IntKind.i64).slice aC v1.2.1).getD []).length + (1:Nat)≤memMax) then (bif y3E (Ty.int IntKind.i64) v1.2.1 v1.2.1 then r0 a8 ac aB (IntKind.i64.wrap (av + 1)) (y03 Ty.str Ty.bool ah v1.1 Bool.true) (y03 (Ty.int IntKind.i64) (Ty.int IntKind.i64).slice aC v1.2.1 ((yN (Ty.int IntKind.i64) (Ty.int IntKind.i64).slice aC v1.2.1).getD [] ++ [av])) else none) else none) else none)
def yFJ (n:Nat) (r21:List (Int×List Int)→List Sta→Int→Int→Option (Int×Unit)) (a7:List (Int×List Int)) (ai:List Sta) (aK:Int) (aj:Int):Option (Int×Unit) :=
  (bif decide (aj < aK) then (Option.bind (idx ai aj) fun (v22:Sta)=>(bif (↑((yN (Ty.int IntKind.i64) (Ty.int IntKind.i64).slice a7 aj).getD []).length:Int)==0 then (bif v22.2.2.1 != (-1:Int) then some ((1:Int),()) else (bif !(↑((yN (Ty.int IntKind.i64) (Ty.int IntKind.i64).slice a7 aj).getD []).length:Int)==0 then (bif v22.2.2.2.1 then some ((1:Int),()) else (Option.bind (zL_M ((yN (Ty.int IntKind.i64) (Ty.int IntKind.i64).slice a7 aj).getD []) v22.2.2.1) fun (v23:Bool×Unit)=>(bif !v23.1 then some ((1:Int),()) else r21 a7 ai aK (IntKind.i64.wrap (aj + 1))))) else r21 a7 ai aK (IntKind.i64.wrap (aj + 1)))) else (bif !(↑((yN (Ty.int IntKind.i64) (Ty.int IntKind.i64).slice a7 aj).getD []).length:Int)==0 then (bif v22.2.2.2.1 then some ((1:Int),()) else (Option.bind (zL_M ((yN (Ty.int IntKind.i64) (Ty.int IntKind.i64).slice a7 aj).getD []) v22.2.2.1) fun (v24:Bool×Unit)=>(bif !v24.1 then some ((1:Int),()) else r21 a7 ai aK (IntKind.i64.wrap (aj + 1))))) else r21 a7 ai aK (IntKind.i64.wrap (aj + 1))))) else some ((0:Int),()))
def y7L (n:Nat)  (k:Nat) (a7:List (Int×List Int)) (ai:List Sta) (aK:Int) (aj:Int):Option (Int×Unit) :=
  iter (fun r y=>yFJ n (fun a7 ai aK aj=>r ((a7,(ai,(aK,(aj,())))),((),()))) y.1.1 y.1.2.1 y.1.2.2.1 y.1.2.2.2.1) k ((a7,(ai,(aK,(aj,())))),((),()))
def yIP (n:Nat) (r0:Cha→List Sta→Int→Int→List (List UInt8×Bool)→List (Int×List Int)→Option (Int×Unit)) (a8:Cha) (ac:List Sta) (aB:Int) (av:Int) (ah:List (List UInt8×Bool)) (aC:List (Int×List Int)):Option (Int×Unit) :=
  (bif decide (av < aB) then (Option.bind (idx ac av) fun (v1:Sta)=>(Option.bind (y92 v1.1) fun (v2:Int×Unit)=>(bif decide (v1.2.1 < (-1:Int)) then (Option.bind (y1S [v2.1,(z0y ((yN Ty.str Ty.bool ah v1.1).getD Bool.false) (9:Int)).1,(z0y Bool.true (11:Int)).1]) fun (v3:Int×Unit)=>(bif v3.1 != 0 then some (v3.1,()) else (yAx n r0 a8 ac aB av ah aC v1))) else (Option.bind (y1S [v2.1,(z0y ((yN Ty.str Ty.bool ah v1.1).getD Bool.false) (9:Int)).1,(z0y (decide (v1.2.1 ≥ av)) (11:Int)).1]) fun (v4:Int×Unit)=>(bif v4.1 != 0 then some (v4.1,()) else (yAx n r0 a8 ac aB av ah aC v1)))))) else (y7L n n (aC) (a8.1) ((↑a8.1.length:Int)) ((0:Int))))
def y9z (n:Nat)  (k:Nat) (a8:Cha) (ac:List Sta) (aB:Int) (av:Int) (ah:List (List UInt8×Bool)) (aC:List (Int×List Int)):Option (Int×Unit) :=
  iter (fun r y=>yIP n (fun a8 ac aB av ah aC=>r ((a8,(ac,(aB,(av,())))),((ah,(aC,())),()))) y.1.1 y.1.2.1 y.1.2.2.1 y.1.2.2.2.1 y.2.1.1 y.2.1.2.1) k ((a8,(ac,(aB,(av,())))),((ah,(aC,())),()))
def zN_m (n:Nat) (c:Cha):Option (Int×Unit) :=
  (y9z n n (c) (c.1) ((↑c.1.length:Int)) ((0:Int)) ([]) ([]))
def y98 (a8:Cha) (ac:List Sta) (av:Int) (ah:List (List UInt8×Bool)) (aC:List (Int×List Int)) (v1:Sta):Option ((Int×Unit)⊕((List (List UInt8×Bool))×(List (Int×List Int)))) :=
  (bif y3E (Ty.int IntKind.i64) v1.2.1 v1.2.1 then (bif decide (((yN (Ty.int IntKind.i64) (Ty.int IntKind.i64).slice aC v1.2.1).getD []).length + (1:Nat)≤memMax) then (bif y3E (Ty.int IntKind.i64) v1.2.1 v1.2.1 then (some (Sum.inr ((y03 Ty.str Ty.bool ah v1.1 Bool.true),(y03 (Ty.int IntKind.i64) (Ty.int IntKind.i64).slice aC v1.2.1 ((yN (Ty.int IntKind.i64) (Ty.int IntKind.i64).slice aC v1.2.1).getD [] ++ [av]))))) else none) else none) else none)
theorem y0S (n:Nat) (hn:big≤n)  (r0:Cha→List Sta→Int→Int→List (List UInt8×Bool)→List (Int×List Int)→Option (Int×Unit)) (a8:Cha) (ac:List Sta) (av:Int) (ah:List (List UInt8×Bool)) (aC:List (Int×List Int)) (v1:Sta):LeF (elim some fun (af:((List (List UInt8×Bool))×(List (Int×List Int))))=>r0 a8 ac (List.length (ac):Int) (IntKind.i64.wrap (av + 1)) af.1 af.2) (y98 a8 ac av ah aC v1) (yAx n r0 a8 ac (List.length (ac):Int) av ah aC v1) :=
  (y4 (y4 (y4 (y6 rfl) yL) yL) yL)
def yBw (a7:List (Int×List Int)) (ai:List Sta) (aj:Int) (v22:Sta):Option ((Int×Unit)⊕Unit) :=
  (bif (↑((yN (Ty.int IntKind.i64) (Ty.int IntKind.i64).slice a7 aj).getD []).length:Int)==0 then (bif v22.2.2.1 != (-1:Int) then (some (Sum.inl (((1:Int),())))) else (bif !(↑((yN (Ty.int IntKind.i64) (Ty.int IntKind.i64).slice a7 aj).getD []).length:Int)==0 then (bif v22.2.2.2.1 then (some (Sum.inl (((1:Int),())))) else (Option.bind (zL_M ((yN (Ty.int IntKind.i64) (Ty.int IntKind.i64).slice a7 aj).getD []) v22.2.2.1) fun (v23:Bool×Unit)=>(bif !v23.1 then (some (Sum.inl (((1:Int),())))) else (some (Sum.inr ()))))) else (some (Sum.inr ())))) else (bif !(↑((yN (Ty.int IntKind.i64) (Ty.int IntKind.i64).slice a7 aj).getD []).length:Int)==0 then (bif v22.2.2.2.1 then (some (Sum.inl (((1:Int),())))) else (Option.bind (zL_M ((yN (Ty.int IntKind.i64) (Ty.int IntKind.i64).slice a7 aj).getD []) v22.2.2.1) fun (v24:Bool×Unit)=>(bif !v24.1 then (some (Sum.inl (((1:Int),())))) else (some (Sum.inr ()))))) else (some (Sum.inr ()))))
def yI1 (a7:List (Int×List Int)) (ai:List Sta):Option (Int×Unit) :=
  (some (((0:Int),())))
theorem yDw (n:Nat) (hn:big≤n)  (a7:List (Int×List Int)) (ai:List Sta) (hx:List.length (ai) < lenMax):LeF some (yI (fun ak aQ af=>yBw a7 ai ak aQ) (fun af=>yI1 a7 ai) 0 (ai) ()) (y7L n n a7 ai (List.length (ai):Int) 0) := by
  refine yQ (f := some) (W := fun aJ ak af=>y7L n aJ a7 ai (List.length (ai):Int) ak) (fun aJ ak af=>?_) hx () n (by unfold big at hn; unfold lenMax at hx; omega)
  show LeF _ _ (yFJ n (y7L n aJ) a7 ai (List.length (ai):Int) ak)
  exact y4 (yA fun v22=>(y4 (y4 (y6 rfl) (y4 (y4 (y6 rfl) (yA fun v23=>(y4 (y6 rfl) (y6 rfl)))) (y6 rfl))) (y4 (y4 (y6 rfl) (yA fun v24=>(y4 (y6 rfl) (y6 rfl)))) (y6 rfl)))) (y0R (y6 rfl))
def yBZ (a8:Cha) (ac:List Sta) (av:Int) (v1:Sta) (ah:List (List UInt8×Bool)) (aC:List (Int×List Int)):Option ((Int×Unit)⊕((List (List UInt8×Bool))×(List (Int×List Int)))) :=
  (Option.bind (y92 v1.1) fun (v2:Int×Unit)=>(bif decide (v1.2.1 < (-1:Int)) then (Option.bind (y1S [v2.1,(z0y ((yN Ty.str Ty.bool ah v1.1).getD Bool.false) (9:Int)).1,(z0y Bool.true (11:Int)).1]) fun (v3:Int×Unit)=>(bif v3.1 != 0 then (some (Sum.inl ((v3.1,())))) else (y98 a8 ac av ah aC v1))) else (Option.bind (y1S [v2.1,(z0y ((yN Ty.str Ty.bool ah v1.1).getD Bool.false) (9:Int)).1,(z0y (decide (v1.2.1 ≥ av)) (11:Int)).1]) fun (v4:Int×Unit)=>(bif v4.1 != 0 then (some (Sum.inl ((v4.1,())))) else (y98 a8 ac av ah aC v1)))))
def yG1 (a8:Cha) (ac:List Sta) (ah:List (List UInt8×Bool)) (aC:List (Int×List Int)):Option (Int×Unit) :=
  (bif decide (List.length (a8.1) < lenMax) then yI (fun ak aQ af=>yBw (aC) (a8.1) ak aQ) (fun af=>yI1 (aC) (a8.1)) 0 (a8.1) () else none)
theorem yGF (n:Nat) (hn:big≤n)  (a8:Cha) (ac:List Sta) (ah:List (List UInt8×Bool)) (aC:List (Int×List Int)) (hx:List.length (ac) < lenMax):LeF some (yI (fun ak aQ af=>yBZ a8 ac ak aQ af.1 af.2) (fun af=>yG1 a8 ac af.1 af.2) 0 (ac) (ah,aC)) (y9z n n a8 ac (List.length (ac):Int) 0 ah aC) := by
  refine yQ (f := some) (W := fun aJ ak af=>y9z n aJ a8 ac (List.length (ac):Int) ak af.1 af.2) (fun aJ ak af=>?_) hx (ah,aC) n (by unfold big at hn; unfold lenMax at hx; omega)
  show LeF _ _ (yIP n (y9z n aJ) a8 ac (List.length (ac):Int) ak af.1 af.2)
  exact y4 (yA fun v1=>(yA fun v2=>(y4 (yA fun v3=>(y4 (y6 rfl) (by apply y0S n hn))) (yA fun v4=>(y4 (y6 rfl) (by apply y0S n hn)))))) (y0R (yW fun hx=>by apply yDw n hn; exact hx))
def zN_M (c:Cha):Option (Int×Unit) :=
  (bif decide (List.length (c.1) < lenMax) then yI (fun ak aQ af=>yBZ (c) (c.1) ak aQ af.1 af.2) (fun af=>yG1 (c) (c.1) af.1 af.2) 0 (c.1) (([]),([])) else none)
abbrev zN_e:Entry := { f := 81,args := .pair t34 .unit,rS := .pair t28 .unit,m := fun x=>zN_M x.1 }
theorem yRY:FnOK Tryz.prog zN_e := fB (mu := [12,13]) (fz := [13]) Tryz.f81 (fun n x=>zN_m n x.1) [[1,3,4,15,16,17],[4,60,61,62]] (yB yEa (yB y4e (yB y2f (yB yJP eNil)))) fun n hn x=>(yW fun hx=>by apply yGF n hn; exact hx)
def yFS (n:Nat) (r0:List Cmd→Int→Int→List (Int×List UInt8)→Option (List (Int×List UInt8)×Int×Unit)) (az:List Cmd) (ac:Int) (aB:Int) (ah:List (Int×List UInt8)):Option (List (Int×List UInt8)×Int×Unit) :=
  (bif decide (aB < ac) then (Option.bind (idx az aB) fun (v1:Cmd)=>(Option.bind (y92 v1.2.2.1) fun (v2:Int×Unit)=>(bif (yN (Ty.int IntKind.i64) Ty.str ah v1.1).isSome then (Option.bind (y1S [(z0c v1.1 (1:Int) (999999999:Int)).1,(z0c v1.2.1 (0:Int) (1:Int)).1,v2.1,(z0y (!(yN (Ty.int IntKind.i64) Ty.str ah v1.1).getD []==v1.2.2.1) (30:Int)).1]) fun (v3:Int×Unit)=>(bif v3.1 != 0 then some ([],v3.1,()) else r0 az ac (IntKind.i64.wrap (aB + 1)) (y03 (Ty.int IntKind.i64) Ty.str ah v1.1 v1.2.2.1))) else (Option.bind (y1S [(z0c v1.1 (1:Int) (999999999:Int)).1,(z0c v1.2.1 (0:Int) (1:Int)).1,v2.1,(z0y Bool.false (30:Int)).1]) fun (v4:Int×Unit)=>(bif v4.1 != 0 then some ([],v4.1,()) else r0 az ac (IntKind.i64.wrap (aB + 1)) (y03 (Ty.int IntKind.i64) Ty.str ah v1.1 v1.2.2.1)))))) else some (ah,(0:Int),()))
def y74 (n:Nat)  (k:Nat) (az:List Cmd) (ac:Int) (aB:Int) (ah:List (Int×List UInt8)):Option (List (Int×List UInt8)×Int×Unit) :=
  iter (fun r y=>yFS n (fun az ac aB ah=>r ((az,(ac,(aB,()))),((ah,()),()))) y.1.1 y.1.2.1 y.1.2.2.1 y.2.1.1) k ((az,(ac,(aB,()))),((ah,()),()))
def yRT (n:Nat) (l:List Cmd):Option (List (Int×List UInt8)×Int×Unit) :=
  (bif decide ((↑l.length:Int) > 256) then some ([],(5:Int),()) else (y74 n n (l) ((↑l.length:Int)) ((0:Int)) ([])))
def yLA (az:List Cmd) (aB:Int) (v1:Cmd) (ah:List (Int×List UInt8)):Option ((List (Int×List UInt8)×Int×Unit)⊕(List (Int×List UInt8))) :=
  (Option.bind (y92 v1.2.2.1) fun (v2:Int×Unit)=>(bif (yN (Ty.int IntKind.i64) Ty.str ah v1.1).isSome then (Option.bind (y1S [(z0c v1.1 (1:Int) (999999999:Int)).1,(z0c v1.2.1 (0:Int) (1:Int)).1,v2.1,(z0y (!(yN (Ty.int IntKind.i64) Ty.str ah v1.1).getD []==v1.2.2.1) (30:Int)).1]) fun (v3:Int×Unit)=>(bif v3.1 != 0 then (some (Sum.inl (([],v3.1,())))) else (some (Sum.inr (y03 (Ty.int IntKind.i64) Ty.str ah v1.1 v1.2.2.1))))) else (Option.bind (y1S [(z0c v1.1 (1:Int) (999999999:Int)).1,(z0c v1.2.1 (0:Int) (1:Int)).1,v2.1,(z0y Bool.false (30:Int)).1]) fun (v4:Int×Unit)=>(bif v4.1 != 0 then (some (Sum.inl (([],v4.1,())))) else (some (Sum.inr (y03 (Ty.int IntKind.i64) Ty.str ah v1.1 v1.2.2.1)))))))
def yKw (az:List Cmd) (ah:List (Int×List UInt8)):Option (List (Int×List UInt8)×Int×Unit) :=
  (some ((ah,(0:Int),())))
theorem yD3 (n:Nat) (hn:big≤n)  (az:List Cmd) (ah:List (Int×List UInt8)) (hx:List.length (az) < lenMax):LeF some (yI (fun ak aQ af=>yLA az ak aQ af) (fun af=>yKw az af) 0 (az) ah) (y74 n n az (List.length (az):Int) 0 ah) := by
  refine yQ (f := some) (W := fun aJ ak af=>y74 n aJ az (List.length (az):Int) ak af) (fun aJ ak af=>?_) hx ah n (by unfold big at hn; unfold lenMax at hx; omega)
  show LeF _ _ (yFS n (y74 n aJ) az (List.length (az):Int) ak af)
  exact y4 (yA fun v1=>(yA fun v2=>(y4 (yA fun v3=>(y4 (y6 rfl) (y6 rfl))) (yA fun v4=>(y4 (y6 rfl) (y6 rfl)))))) (y0R (y6 rfl))
def yJp (l:List Cmd):Option (List (Int×List UInt8)×Int×Unit) :=
  (bif decide ((↑l.length:Int) > 256) then (some (([],(5:Int),()))) else (bif decide (List.length (l) < lenMax) then yI (fun ak aQ af=>yLA (l) ak aQ af) (fun af=>yKw (l) af) 0 (l) ([]) else none))
abbrev z0q_e:Entry := { f := 71,args := .pair t78 .unit,rS := .pair t147 (.pair t28 .unit),m := fun x=>yJp x.1 }
theorem yLc:FnOK Tryz.prog z0q_e := fB (mu := [13]) Tryz.f71 (fun n x=>yRT n x.1) [[4,14,15,16]] (yB yB0 (yB yEa (yB y4e (yB y2f eNil)))) fun n hn x=>(y4 (y6 rfl) (yW fun hx=>by apply yD3 n hn; exact hx))
def yM9 (n:Nat) (np:Int):Option (Int×Unit) :=
  some ((z0c np (0:Int) (1000:Int)).1,())
def z0Z (np:Int):(Int×Unit) :=
  ((z0c np (0:Int) (1000:Int)).1,())
abbrev yPV (np:Int):Option (Int×Unit) := some (z0Z np)
abbrev z0Z_e:Entry := { f := 73,args := .pair t3 .unit,rS := .pair t28 .unit,m := fun x=>yPV x.1 }
theorem yPp:FnOK Tryz.prog z0Z_e := fF (hm := by intro x; show some (z0Z x.1) = yM9 0 x.1; unfold yM9 z0Z; first | rfl | simp only [ya]) 0 Tryz.f73 (fun n x=>yM9 n x.1) [] (yB yB0 eNil)
def zT_m (n:Nat) (c:Cha) (l:List Int):Option (Int×Unit) :=
  (Option.bind (zG_M l fun (x:Int×Unit)=>zM_M x.1 c) fun (v0:Bool×Unit)=>(Option.bind (y1S [(z0y (decide ((↑l.length:Int) > 16)) (5:Int)).1,(z0y v0.1 (10:Int)).1]) fun (v1:Int×Unit)=>some (v1.1,())))
def zT_M (c:Cha) (l:List Int):Option (Int×Unit) := zT_m 0 c l
abbrev zT_e:Entry := { f := 64,args := .pair t34 (.pair t45 .unit),rS := .pair t28 .unit,m := fun x=>zT_M x.1 x.2.1 }
theorem yQZ:FnOK Tryz.prog zT_e := fF 0 Tryz.f64 (fun n x=>zT_m n x.1 x.2.1) [] (yB yS1 (yB y4e (yB yP0 (yB y2f eNil))))
def zV_m (n:Nat) (np:Int):Option (Int×Unit) :=
  some ((z0c np (0:Int) (15:Int)).1,())
def zV (np:Int):(Int×Unit) :=
  ((z0c np (0:Int) (15:Int)).1,())
abbrev zV_M (np:Int):Option (Int×Unit) := some (zV np)
abbrev zV_e:Entry := { f := 106,args := .pair t3 .unit,rS := .pair t28 .unit,m := fun x=>zV_M x.1 }
theorem yOb:FnOK Tryz.prog zV_e := fF (hm := by intro x; show some (zV x.1) = zV_m 0 x.1; unfold zV_m zV; first | rfl | simp only [ya]) 0 Tryz.f106 (fun n x=>zV_m n x.1) [] (yB yB0 eNil)
def zf_m (n:Nat) (t:Tra) (p1:Int) (p2:List UInt8×Int×Unit):Option (Bool×Unit) :=
  (bif t.1==p1 then (bif t.2.1==p2.1 then some ((zY t p2.2.1).1,()) else some (Bool.false,())) else some (Bool.false,()))
def zf (t:Tra) (p1:Int) (p2:List UInt8×Int×Unit):(Bool×Unit) :=
  (bif t.1==p1 then (bif t.2.1==p2.1 then ((zY t p2.2.1).1,()) else (Bool.false,())) else (Bool.false,()))
abbrev zf_M (t:Tra) (p1:Int) (p2:List UInt8×Int×Unit):Option (Bool×Unit) := some (zf t p1 p2)
abbrev zf_e:Entry := { f := 108,args := .pair t65 (.pair (.ref t3) (.pair (.ref t56) .unit)),rS := .pair t4 .unit,m := fun x=>zf_M x.1 x.2.1 x.2.2.1 }
theorem yRy:FnOK Tryz.prog zf_e := fF (hm := by intro x; show some (zf x.1 x.2.1 x.2.2.1) = zf_m 0 x.1 x.2.1 x.2.2.1; unfold zf_m zf; first | rfl | simp only [ya]) 0 Tryz.f108 (fun n x=>zf_m n x.1 x.2.1 x.2.2.1) [] (yB yRK eNil)
def yN3 (n:Nat) (r0:Fai→List (List UInt8×(Fai×Unit→Option (Fai×Unit))×(Fai×Int×(List UInt8×Int×Unit)×Unit→Option ((List UInt8×Int×Unit)×Bool×Unit))×Unit)→Int→List UInt8→Option ((List UInt8×(Fai×Unit→Option (Fai×Unit))×(Fai×Int×(List UInt8×Int×Unit)×Unit→Option ((List UInt8×Int×Unit)×Bool×Unit))×Unit)×Bool×Unit)) (bj:Fai) (bl:List (List UInt8×(Fai×Unit→Option (Fai×Unit))×(Fai×Int×(List UInt8×Int×Unit)×Unit→Option ((List UInt8×Int×Unit)×Bool×Unit))×Unit)) (aq:Int) (aF:List UInt8):Option ((List UInt8×(Fai×Unit→Option (Fai×Unit))×(Fai×Int×(List UInt8×Int×Unit)×Unit→Option ((List UInt8×Int×Unit)×Bool×Unit))×Unit)×Bool×Unit) :=
  (bif decide (aq < 3) then (Option.bind (idx bl aq) fun (v1:List UInt8×(Fai×Unit→Option (Fai×Unit))×(Fai×Int×(List UInt8×Int×Unit)×Unit→Option ((List UInt8×Int×Unit)×Bool×Unit))×Unit)=>(bif v1.1==bj.1 then some ((v1.1,v1.2.1,v1.2.2.1,()),Bool.true,()) else r0 bj bl (IntKind.i64.wrap (aq + 1)) aF)) else some (([],fun (x:Fai×Unit)=>Option.none,fun (x:Fai×Int×(List UInt8×Int×Unit)×Unit)=>Option.none,()),Bool.false,()))
def yNx (n:Nat)  (k:Nat) (bj:Fai) (bl:List (List UInt8×(Fai×Unit→Option (Fai×Unit))×(Fai×Int×(List UInt8×Int×Unit)×Unit→Option ((List UInt8×Int×Unit)×Bool×Unit))×Unit)) (aq:Int) (aF:List UInt8):Option ((List UInt8×(Fai×Unit→Option (Fai×Unit))×(Fai×Int×(List UInt8×Int×Unit)×Unit→Option ((List UInt8×Int×Unit)×Bool×Unit))×Unit)×Bool×Unit) :=
  iter (fun r y=>yN3 n (fun bj bl aq aF=>r ((bj,(bl,(aq,()))),(((aF,()),()),()))) y.1.1 y.1.2.1 y.1.2.2.1 y.2.1.1.1) k ((bj,(bl,(aq,()))),(((aF,()),()),()))
def zi_m (n:Nat) (f:Fai):Option ((List UInt8×(Fai×Unit→Option (Fai×Unit))×(Fai×Int×(List UInt8×Int×Unit)×Unit→Option ((List UInt8×Int×Unit)×Bool×Unit))×Unit)×Bool×Unit) :=
  (yNx n n (f) (z0p.1) ((0:Int)) ([]))
def zi_M (f:Fai):Option ((List UInt8×(Fai×Unit→Option (Fai×Unit))×(Fai×Int×(List UInt8×Int×Unit)×Unit→Option ((List UInt8×Int×Unit)×Bool×Unit))×Unit)×Bool×Unit) := zi_m 1000 f
abbrev zi_e:Entry := { f := 104,args := .pair t131 .unit,rS := .pair t186 (.pair t4 .unit),m := fun x=>zi_M x.1 }
theorem yRs:FnOK Tryz.prog zi_e := fF 1000 Tryz.f104 (fun n x=>zi_m n x.1) [[1,2,6,7]] (yB yOJ eNil)
def zX_m (n:Nat) (leaf:Int) (p1:Goa):Option (Bool×Unit) :=
  (Option.bind (zL_M p1.2.1 leaf) fun (v0:Bool×Unit)=>some (v0.1,()))
def zX_M (leaf:Int) (p1:Goa):Option (Bool×Unit) := zX_m 0 leaf p1
abbrev zX_e:Entry := { f := 119,args := .pair t3 (.pair (.ref t85) .unit),rS := .pair t4 .unit,m := fun x=>zX_M x.1 x.2.1 }
theorem yRb:FnOK Tryz.prog zX_e := fF 0 Tryz.f119 (fun n x=>zX_m n x.1 x.2.1) [] (yB yJP eNil)
end
end Go.Tw
end
section
set_option maxRecDepth 1000000
namespace Go.Tw
open Go.Vx Go.Vx.B Go.Proofs
noncomputable section
def yJz (n:Nat) (r1:List (Int×List UInt8)→Int→List UInt8→Bool→List (List UInt8)→Option (List (List UInt8)×Int×Int×Unit)) (aD:List (Int×List UInt8)) (aH:Int) (aP:List UInt8) (b4:Bool) (bf:List (List UInt8)):Option (List (List UInt8)×Int×Int×Unit) :=
  (bif b4 then (bif decide (bf.length + (1:Nat)≤memMax) then r1 aD (IntKind.i64.wrap (aH + 1)) ((yN (Ty.int IntKind.i64) Ty.str aD (IntKind.i64.wrap (aH + 1))).getD []) (yN (Ty.int IntKind.i64) Ty.str aD (IntKind.i64.wrap (aH + 1))).isSome (bf ++ [aP]) else none) else some (bf,aH,(0:Int),()))
def yJY (n:Nat)  (k:Nat) (aD:List (Int×List UInt8)) (aH:Int) (aP:List UInt8) (b4:Bool) (bf:List (List UInt8)):Option (List (List UInt8)×Int×Int×Unit) :=
  iter (fun r y=>yJz n (fun aD aH aP b4 bf=>r ((aD,(aH,(aP,(b4,())))),((bf,()),()))) y.1.1 y.1.2.1 y.1.2.2.1 y.1.2.2.2.1 y.2.1.1) k ((aD,(aH,(aP,(b4,())))),((bf,()),()))
def yPt (n:Nat) (l:List Cmd):Option (List (List UInt8)×Int×Int×Unit) :=
  (Option.bind (yJp l) fun (v0:List (Int×List UInt8)×Int×Unit)=>(bif v0.2.1 != 0 then some ([],(0:Int),v0.2.1,()) else (yJY n n (v0.1) ((1:Int)) ((yN (Ty.int IntKind.i64) Ty.str v0.1 (1:Int)).getD []) ((yN (Ty.int IntKind.i64) Ty.str v0.1 (1:Int)).isSome) ([]))))
def yQH (l:List Cmd):Option (List (List UInt8)×Int×Int×Unit) := yPt 1000 l
abbrev z0H_e:Entry := { f := 29,args := .pair t78 .unit,rS := .pair t51 (.pair t3 (.pair t28 .unit)),m := fun x=>yQH x.1 }
theorem yOx:FnOK Tryz.prog z0H_e := fF (mu := [7]) 1000 Tryz.f29 (fun n x=>yPt n x.1) [[5,7,8,9,10]] (yB yLc eNil)
def yEA (n:Nat) (r2:List (Int×List UInt8)→Int→Int→List Int→Option (List Int×Int×Unit)) (ae:List (Int×List UInt8)) (am:Int) (aw:Int) (aN:List Int):Option (List Int×Int×Unit) :=
  (bif decide (aw < am) then (bif !(yN (Ty.int IntKind.i64) Ty.str ae (IntKind.i64.wrap (aw + 1))).isSome then (bif decide (aN.length + (1:Nat)≤memMax) then r2 ae am (IntKind.i64.wrap (aw + 1)) (aN ++ [IntKind.i64.wrap (aw + 1)]) else none) else r2 ae am (IntKind.i64.wrap (aw + 1)) aN) else some (aN,(0:Int),()))
def y79 (n:Nat)  (k:Nat) (ae:List (Int×List UInt8)) (am:Int) (aw:Int) (aN:List Int):Option (List Int×Int×Unit) :=
  iter (fun r y=>yEA n (fun ae am aw aN=>r ((ae,(am,(aw,()))),((aN,()),()))) y.1.1 y.1.2.1 y.1.2.2.1 y.2.1.1) k ((ae,(am,(aw,()))),((aN,()),()))
def yRZ (n:Nat) (l:List Cmd) (last:Int):Option (List Int×Int×Unit) :=
  (Option.bind (yJp l) fun (v0:List (Int×List UInt8)×Int×Unit)=>(Option.bind (y1S [v0.2.1,(z0c last (0:Int) (256:Int)).1]) fun (v1:Int×Unit)=>(bif v1.1 != 0 then some ([],v1.1,()) else (y79 n n (v0.1) (last) ((0:Int)) ([])))))
def yLO (ae:List (Int×List UInt8)) (am:Int) (aw:Int) (aN:List Int):Option ((List Int×Int×Unit)⊕(List Int)) :=
  (bif !(yN (Ty.int IntKind.i64) Ty.str ae (IntKind.i64.wrap (aw + 1))).isSome then (bif decide (aN.length + (1:Nat)≤memMax) then (some (Sum.inr (aN ++ [IntKind.i64.wrap (aw + 1)]))) else none) else (some (Sum.inr (aN))))
def yLG (ae:List (Int×List UInt8)) (am:Int) (aN:List Int):Option (List Int×Int×Unit) :=
  (some ((aN,(0:Int),())))
theorem yDG (n:Nat) (hn:big≤n)  (ae:List (Int×List UInt8)) (am:Int) (aN:List Int) (hx:(am)≤9223372036854775807):LeF some (y44 (fun ak af=>yLO ae am ak af) (fun af=>yLG ae am af) ((am) - 0).toNat 0 aN) (y79 n n ae am 0 aN) := by
  refine y6y (f := some) (W := fun aJ ak af=>y79 n aJ ae am ak af) (fun aJ ak af=>?_) hx aN n 0 (by decide) (by unfold big at hn; omega)
  show LeF _ _ (yEA n (y79 n aJ) ae am ak af)
  exact y4 (y4 (y4 (y6 rfl) yL) (y6 rfl)) (y0R (y6 rfl))
def yPw (l:List Cmd) (last:Int):Option (List Int×Int×Unit) :=
  (Option.bind (yJp l) fun (v0:List (Int×List UInt8)×Int×Unit)=>(Option.bind (y1S [v0.2.1,(z0c last (0:Int) (256:Int)).1]) fun (v1:Int×Unit)=>(bif v1.1 != 0 then (some (([],v1.1,()))) else (bif decide ((last)≤9223372036854775807) then y44 (fun ak af=>yLO (v0.1) (last) ak af) (fun af=>yLG (v0.1) (last) af) ((last) - 0).toNat 0 ([]) else none))))
abbrev z0u_e:Entry := { f := 30,args := .pair t78 (.pair t3 .unit),rS := .pair t45 (.pair t28 .unit),m := fun x=>yPw x.1 x.2.1 }
theorem yPQ:FnOK Tryz.prog z0u_e := fB (mu := [8]) Tryz.f30 (fun n x=>yRZ n x.1 x.2.1) [[6,8,25,26]] (yB yLc (yB yB0 (yB y2f eNil))) fun n hn x=>(yA fun v0=>(yA fun v1=>(y4 (y6 rfl) (yW fun hx=>by apply yDG n hn; exact hx))))
def yKj (n:Nat) (r3:List Int→List Int→Int→Int→Option (Int×Int×Unit)) (bg:List Int) (b9:List Int) (ba:Int) (b5:Int):Option (Int×Int×Unit) :=
  (bif decide (b5 < ba) then (Option.bind (idx b9 b5) fun (v4:Int)=>(Option.bind (yR9 bg fun (x:Int×Unit)=>yOk x.1 v4) fun (v5:List Int×Unit)=>(bif decide (IntKind.i64.wrap ((2:Int) * (↑v5.1.length:Int)) > (↑bg.length:Int)) then some (v4,(0:Int),()) else r3 bg b9 ba (IntKind.i64.wrap (b5 + 1))))) else some ((0:Int),(7:Int),()))
def yJH (n:Nat)  (k:Nat) (bg:List Int) (b9:List Int) (ba:Int) (b5:Int):Option (Int×Int×Unit) :=
  iter (fun r y=>yKj n (fun bg b9 ba b5=>r ((bg,(b9,(ba,(b5,())))),((),()))) y.1.1 y.1.2.1 y.1.2.2.1 y.1.2.2.2.1) k ((bg,(b9,(ba,(b5,())))),((),()))
def yQf (n:Nat) (l:List Int):Option (Int×Int×Unit) :=
  (Option.bind (zJ_M l fun (x:Int×Unit)=>yPV x.1) fun (v0:List Int×Unit)=>(Option.bind (y1S v0.1) fun (v1:Int×Unit)=>(Option.bind (y1S [(z0y (decide ((↑l.length:Int) > 9)) (5:Int)).1,v1.1]) fun (v2:Int×Unit)=>(bif v2.1 != 0 then some ((0:Int),v2.1,()) else (yJH n n (l) (l) ((↑l.length:Int)) ((0:Int)))))))
def yNG (l:List Int):Option (Int×Int×Unit) := yQf 1000 l
abbrev z0w_e:Entry := { f := 31,args := .pair t45 .unit,rS := .pair t3 (.pair t28 .unit),m := fun x=>yNG x.1 }
theorem yQE:FnOK Tryz.prog z0w_e := fF 1000 Tryz.f31 (fun n x=>yQf n x.1) [[0,22,23,24]] (yB yPp (yB y4e (yB yRv (yB y2f (yB yQ9 (yB yPa eNil))))))
def zQ_m (n:Nat) (t:Tra) (states:Int):Option (Int×Unit) :=
  (bif decide ((if t.2.2.1 < t.1 then t.2.2.1 else t.1) < 0) then (Option.bind (y92 t.2.1) fun (v3:Int×Unit)=>some ((z0y Bool.true (10:Int)).1,())) else (Option.bind (y92 t.2.1) fun (v4:Int×Unit)=>(Option.bind (y1S [(z0y (decide ((if t.2.2.1 > t.1 then t.2.2.1 else t.1) ≥ states)) (10:Int)).1,v4.1,(zV t.2.2.2.1).1,(zV t.2.2.2.2.1).1,(z0y (y0N IntKind.i64 Go.BinOp.andNot t.2.2.2.2.1 t.2.2.2.1 != 0) (1:Int)).1]) fun (v5:Int×Unit)=>some (v5.1,()))))
def zQ_M (t:Tra) (states:Int):Option (Int×Unit) := zQ_m 0 t states
abbrev zQ_e:Entry := { f := 83,args := .pair t65 (.pair t3 .unit),rS := .pair t28 .unit,m := fun x=>zQ_M x.1 x.2.1 }
theorem ySC:FnOK Tryz.prog zQ_e := fF 0 Tryz.f83 (fun n x=>zQ_m n x.1 x.2.1) [] (yB y4e (yB yEa (yB yOb (yB y2f eNil))))
def zq_m (n:Nat) (p0:List UInt8×Int×Unit):Option (Int×Unit) :=
  (Option.bind (y92 p0.1) fun (v0:Int×Unit)=>(Option.bind (y1S [v0.1,(zV p0.2.1).1]) fun (v1:Int×Unit)=>some (v1.1,())))
def zq_M (p0:List UInt8×Int×Unit):Option (Int×Unit) := zq_m 0 p0
abbrev zq_e:Entry := { f := 61,args := .pair t56 .unit,rS := .pair t28 .unit,m := fun x=>zq_M x.1 }
theorem yPv:FnOK Tryz.prog zq_e := fF 0 Tryz.f61 (fun n x=>zq_m n x.1) [] (yB yEa (yB yOb (yB y2f eNil)))
def yMF (n:Nat) (r0:Int→Cha→List UInt8×Int×Unit→Int→Bool→Bool→Int→Option ((Int×Bool×Bool×Unit)×Unit)) (aL:Int) (be:Cha) (bc:List UInt8×Int×Unit) (aF:Int) (b6:Bool) (b7:Bool) (aR:Int):Option ((Int×Bool×Bool×Unit)×Unit) :=
  (bif aR != (-1:Int) then (Option.bind (zI_M be.2.1 fun (x:Tra×Unit)=>zf_M x.1 aR bc) fun (v1:List Tra×Unit)=>(bif (↑v1.1.length:Int)==0 then (Option.bind (idx be.1 aR) fun (v4:Sta)=>r0 aL be bc aF b6 b7 v4.2.1) else (bif (↑v1.1.length:Int)==1 then (Option.bind (idx v1.1 (0:Int)) fun (v2:Tra)=>(Option.bind (zo_M be v2.2.2.1) fun (v3:Int×Unit)=>some ((v3.1,Bool.false,Bool.false,()),()))) else some ((aL,Bool.false,Bool.true,()),())))) else some ((aL,Bool.true,Bool.false,()),()))
def yNA (n:Nat)  (k:Nat) (aL:Int) (be:Cha) (bc:List UInt8×Int×Unit) (aF:Int) (b6:Bool) (b7:Bool) (aR:Int):Option ((Int×Bool×Bool×Unit)×Unit) :=
  iter (fun r y=>yMF n (fun aL be bc aF b6 b7 aR=>r ((aL,(be,(bc,()))),(((aF,(b6,(b7,()))),((aR,()),())),()))) y.1.1 y.1.2.1 y.1.2.2.1 y.2.1.1.1 y.2.1.1.2.1 y.2.1.1.2.2.1 y.2.1.2.1.1) k ((aL,(be,(bc,()))),(((aF,(b6,(b7,()))),((aR,()),())),()))
def zx_m (n:Nat) (c:Cha) (leaf:Int) (p2:List UInt8×Int×Unit):Option ((Int×Bool×Bool×Unit)×Unit) :=
  (yNA n n (leaf) (c) (p2) ((0:Int)) (Bool.false) (Bool.false) (leaf))
def zx_M (c:Cha) (leaf:Int) (p2:List UInt8×Int×Unit):Option ((Int×Bool×Bool×Unit)×Unit) := zx_m 1000 c leaf p2
abbrev zx_e:Entry := { f := 62,args := .pair t34 (.pair t3 (.pair t56 .unit)),rS := .pair t135 .unit,m := fun x=>zx_M x.1 x.2.1 x.2.2.1 }
theorem yKu:FnOK Tryz.prog zx_e := fF 1000 Tryz.f62 (fun n x=>zx_m n x.1 x.2.1 x.2.2.1) [[1,3,5,6,7]] (yB yRy (yB yRL (yB yIs eNil)))
def zR_m (n:Nat) (c:Cha) (g:Goa) (ticks:Int):Option (Int×Unit) :=
  (Option.bind (zT_M c g.1) fun (v0:Int×Unit)=>(Option.bind (zT_M c g.2.1) fun (v1:Int×Unit)=>(Option.bind (y1S [v0.1,v1.1,(z0c g.2.2.1 (0:Int) ticks).1,(z0c g.2.2.2.1 (0:Int) ticks).1]) fun (v2:Int×Unit)=>some (v2.1,()))))
def zR_M (c:Cha) (g:Goa) (ticks:Int):Option (Int×Unit) := zR_m 0 c g ticks
abbrev zR_e:Entry := { f := 78,args := .pair t34 (.pair t85 (.pair t3 .unit)),rS := .pair t28 .unit,m := fun x=>zR_M x.1 x.2.1 x.2.2.1 }
theorem yRI:FnOK Tryz.prog zR_e := fF 0 Tryz.f78 (fun n x=>zR_m n x.1 x.2.1 x.2.2.1) [] (yB yQZ (yB yB0 (yB y2f eNil)))
end
end Go.Tw
end
section
set_option maxRecDepth 1000000
namespace Go.Tw
open Go.Vx Go.Vx.B Go.Proofs
noncomputable section
def zg_m (n:Nat) (t:Tra) (p1:Cha):Option (Int×Unit) :=
  (Option.bind (zQ_M t (↑p1.1.length:Int)) fun (v0:Int×Unit)=>some (v0.1,()))
def zg_M (t:Tra) (p1:Cha):Option (Int×Unit) := zg_m 0 t p1
abbrev zg_e:Entry := { f := 82,args := .pair t65 (.pair (.ref t34) .unit),rS := .pair t28 .unit,m := fun x=>zg_M x.1 x.2.1 }
theorem yRX:FnOK Tryz.prog zg_e := fF 0 Tryz.f82 (fun n x=>zg_m n x.1 x.2.1) [] (yB ySC eNil)
def zr_m (n:Nat) (l:List (List UInt8×Int×Unit)):Option (Int×Unit) :=
  (Option.bind (z8_M l fun (x:(List UInt8×Int×Unit)×Unit)=>zq_M x.1) fun (v0:List Int×Unit)=>(Option.bind (y1S v0.1) fun (v1:Int×Unit)=>(Option.bind (y1S [(z0y (decide ((↑l.length:Int) > 64)) (5:Int)).1,v1.1]) fun (v2:Int×Unit)=>some (v2.1,()))))
def zr_M (l:List (List UInt8×Int×Unit)):Option (Int×Unit) := zr_m 0 l
abbrev zr_e:Entry := { f := 58,args := .pair t57 .unit,rS := .pair t28 .unit,m := fun x=>zr_M x.1 }
theorem yOE:FnOK Tryz.prog zr_e := fF 0 Tryz.f58 (fun n x=>zr_m n x.1) [] (yB y4e (yB ySP (yB yPv (yB y2f eNil))))
def yNS (n:Nat) (r2:Cha→Fai→Int→List (List UInt8×Int×Unit)→Int→Int→List UInt8→(Fai×Unit→Option (Fai×Unit))→(Fai×Int×(List UInt8×Int×Unit)×Unit→Option ((List UInt8×Int×Unit)×Bool×Unit))→List Int→Option (List Int×Int×Unit)) (bh:Cha) (bi:Fai) (aG:Int) (b8:List (List UInt8×Int×Unit)) (am:Int) (aw:Int) (aW:List UInt8) (aX:Fai×Unit→Option (Fai×Unit)) (aS:Fai×Int×(List UInt8×Int×Unit)×Unit→Option ((List UInt8×Int×Unit)×Bool×Unit)) (aU:List Int):Option (List Int×Int×Unit) :=
  (bif decide (aw < am) then (Option.bind (idx b8 aw) fun (v3:List UInt8×Int×Unit)=>(Option.bind (aS (bi,aw,(v3.1,v3.2.1,()),())) fun (v4:(List UInt8×Int×Unit)×Bool×Unit)=>(bif v4.2.1 then (Option.bind (zx_M bh aG (v4.1.1,v4.1.2.1,())) fun (v5:(Int×Bool×Bool×Unit)×Unit)=>(bif v5.1.2.2.1 then some ([],(30:Int),()) else (bif decide (aU.length + (1:Nat)≤memMax) then r2 bh bi v5.1.1 b8 am (IntKind.i64.wrap (aw + 1)) aW aX aS (aU ++ [v5.1.1]) else none))) else (bif decide (aU.length + (1:Nat)≤memMax) then r2 bh bi aG b8 am (IntKind.i64.wrap (aw + 1)) aW aX aS (aU ++ [aG]) else none)))) else some (aU,(0:Int),()))
def yMz (n:Nat)  (k:Nat) (bh:Cha) (bi:Fai) (aG:Int) (b8:List (List UInt8×Int×Unit)) (am:Int) (aw:Int) (aW:List UInt8) (aX:Fai×Unit→Option (Fai×Unit)) (aS:Fai×Int×(List UInt8×Int×Unit)×Unit→Option ((List UInt8×Int×Unit)×Bool×Unit)) (aU:List Int):Option (List Int×Int×Unit) :=
  iter (fun r y=>yNS n (fun bh bi aG b8 am aw aW aX aS aU=>r ((bh,(bi,(aG,(b8,(am,(aw,())))))),(((aW,(aX,(aS,()))),(aU,())),()))) y.1.1 y.1.2.1 y.1.2.2.1 y.1.2.2.2.1 y.1.2.2.2.2.1 y.1.2.2.2.2.2.1 y.2.1.1.1 y.2.1.1.2.1 y.2.1.1.2.2.1 y.2.1.2.1) k ((bh,(bi,(aG,(b8,(am,(aw,())))))),(((aW,(aX,(aS,()))),(aU,())),()))
def zw_m (n:Nat) (c:Cha) (l:List (List UInt8×Int×Unit)) (f:Fai):Option (List Int×Int×Unit) :=
  (Option.bind (zi_M f) fun (v0:(List UInt8×(Fai×Unit→Option (Fai×Unit))×(Fai×Int×(List UInt8×Int×Unit)×Unit→Option ((List UInt8×Int×Unit)×Bool×Unit))×Unit)×Bool×Unit)=>(Option.bind (zo_M c (0:Int)) fun (v1:Int×Unit)=>(yMz n n (c) (f) (v1.1) (l) ((↑l.length:Int)) ((0:Int)) (v0.1.1) (v0.1.2.1) (v0.1.2.2.1) ([]))))
def zw_M (c:Cha) (l:List (List UInt8×Int×Unit)) (f:Fai):Option (List Int×Int×Unit) := zw_m 1000 c l f
abbrev zw_e:Entry := { f := 59,args := .pair t34 (.pair t57 (.pair t131 .unit)),rS := .pair t45 (.pair t28 .unit),m := fun x=>zw_M x.1 x.2.1 x.2.2.1 }
theorem yP2:FnOK Tryz.prog zw_e := fF (mu := [11]) 1000 Tryz.f59 (fun n x=>zw_m n x.1 x.2.1 x.2.2.1) [[3,5,8,10,11,24,25,26]] (yB yRs (yB yIs (yB yKu eNil)))
end
end Go.Tw
end
