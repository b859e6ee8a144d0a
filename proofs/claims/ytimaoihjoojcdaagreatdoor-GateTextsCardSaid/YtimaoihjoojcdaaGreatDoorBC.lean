import Derived.Test.YtimaoihjoojcdaaGreatDoorBT
import Derived.Test.YtimaoihjoojcdaaGreatDoorB0
import Derived.Test.YtimaoihjoojcdaaGreatDoorSA
import Derived.Test.YtimaoihjoojcdaaGreatDoorLQ
import Derived.Test.YtimaoihjoojcdaaGreatDoorLR
import Derived.Test.YtimaoihjoojcdaaGreatDoorBA
set_option linter.all false
section
set_option maxRecDepth 1000000
namespace Go.Tw
open Go.Vx Go.Vx.B Go.Proofs
noncomputable section
def yE9 (n:Nat) (r0:Cha→Int→List (List UInt8)→Option (List (List UInt8)×Unit)) (a8:Cha) (aZ:Int) (aa:List (List UInt8)):Option (List (List UInt8)×Unit) :=
  (bif decide (aZ < (↑a8.2.1.length:Int)) then (Option.bind (idx a8.2.1 aZ) fun (v1:Tra)=>(Option.bind (yIK aa v1.2.1) fun (v2:Bool×Unit)=>(bif !v2.1 then (Option.bind (idx a8.2.1 aZ) fun (v3:Tra)=>(bif decide (aa.length + (1:Nat)≤memMax) then r0 a8 (IntKind.i64.wrap (aZ + 1)) (aa ++ [v3.2.1]) else none)) else r0 a8 (IntKind.i64.wrap (aZ + 1)) aa))) else some (aa,()))
def y7E (n:Nat)  (k:Nat) (a8:Cha) (aZ:Int) (aa:List (List UInt8)):Option (List (List UInt8)×Unit) :=
  iter (fun r y=>yE9 n (fun a8 aZ aa=>r ((a8,(aZ,())),((aa,()),()))) y.1.1 y.1.2.1 y.2.1.1) k ((a8,(aZ,())),((aa,()),()))
def yRW (n:Nat) (c:Cha):Option (List (List UInt8)×Unit) :=
  (y7E n n (c) ((0:Int)) ([]))
def yFC (a8:Cha) (aZ:Int) (v1:Tra) (aa:List (List UInt8)):Option ((List (List UInt8)×Unit)⊕(List (List UInt8))) :=
  (Option.bind (yIK aa v1.2.1) fun (v2:Bool×Unit)=>(bif !v2.1 then (Option.bind (idx a8.2.1 aZ) fun (v3:Tra)=>(bif decide (aa.length + (1:Nat)≤memMax) then (some (Sum.inr (aa ++ [v3.2.1]))) else none)) else (some (Sum.inr (aa)))))
def yIN (a8:Cha) (aa:List (List UInt8)):Option (List (List UInt8)×Unit) :=
  (some ((aa,())))
theorem yDE (n:Nat) (hn:big≤n)  (a8:Cha) (aa:List (List UInt8)) (hx:List.length (a8.2.1) < lenMax):LeF some (yI (fun ak aQ af=>yFC a8 ak aQ af) (fun af=>yIN a8 af) 0 (a8.2.1) aa) (y7E n n a8 0 aa) := by
  refine yR (f := some) (W := fun aJ ak af=>y7E n aJ a8 ak af) (fun aJ ak af=>?_) hx aa n (by unfold big at hn; unfold lenMax at hx; omega)
  show LeF _ _ (yE9 n (y7E n aJ) a8 ak af)
  exact y4 (yA fun v1=>(yA fun v2=>(y4 (yA fun v3=>(y4 (y6 rfl) yL)) (y6 rfl)))) (y0T (y6 rfl))
def yHv (c:Cha):Option (List (List UInt8)×Unit) :=
  (bif decide (List.length (c.2.1) < lenMax) then yI (fun ak aQ af=>yFC (c) ak aQ af) (fun af=>yIN (c) af) 0 (c.2.1) ([]) else none)
abbrev z0S_e:Entry := { f := 50,args := .pair t25 .unit,rS := .pair t51 .unit,m := fun x=>yHv x.1 }
theorem yPQ:FnOK Tryz.prog z0S_e := fB (mu := [3]) Tryz.f50 (fun n x=>yRW n x.1) [[1,3,4]] (yB yOj eNil) fun n hn x=>(yZ fun hx=>by apply yDE n hn; exact hx)
def yN4 (n:Nat) (r0:List Sta→Int→Int→List (Sta×Int×Unit)→Option (List Int×Unit)) (aq:List Sta) (aT:Int) (aM:Int) (aa:List (Sta×Int×Unit)):Option (List Int×Unit) :=
  (bif decide (aM < aT) then (Option.bind (idx aq aM) fun (v1:Sta)=>(bif decide (aa.length + (1:Nat)≤memMax) then r0 aq aT (IntKind.i64.wrap (aM + 1)) (aa ++ [((v1.1,v1.2.1,v1.2.2.1,v1.2.2.2.1,()),aM,())]) else none)) else (Option.bind (zP_M aa fun (x:(Sta×Int×Unit)×Unit)=>zj_M x.1) fun (v2:List (Sta×Int×Unit)×Unit)=>(Option.bind (zF_M v2.1 fun (x:(Sta×Int×Unit)×Unit)=>zZ_M x.1) fun (v3:List Int×Unit)=>some (v3.1,()))))
def yNQ (n:Nat)  (k:Nat) (aq:List Sta) (aT:Int) (aM:Int) (aa:List (Sta×Int×Unit)):Option (List Int×Unit) :=
  iter (fun r y=>yN4 n (fun aq aT aM aa=>r ((aq,(aT,(aM,()))),((aa,()),()))) y.1.1 y.1.2.1 y.1.2.2.1 y.2.1.1) k ((aq,(aT,(aM,()))),((aa,()),()))
def zc_m (n:Nat) (c:Cha):Option (List Int×Unit) :=
  (yNQ n n (c.1) ((↑c.1.length:Int)) ((0:Int)) ([]))
def zc_M (c:Cha):Option (List Int×Unit) := zc_m 1000 c
abbrev zc_e:Entry := { f := 54,args := .pair t34 .unit,rS := .pair t45 .unit,m := fun x=>zc_M x.1 }
theorem yO2:FnOK Tryz.prog zc_e := fF (mu := [3]) 1000 Tryz.f54 (fun n x=>zc_m n x.1) [[3,7,8,9]] (yB yRx (yB yRM (yB yR4 (yB yR0 eNil))))
def yMs (n:Nat) (s:List UInt8):Option (Int×Unit) :=
  (Option.bind (yJH s) fun (v0:Bool×Unit)=>(bif !v0.1 then some ((8:Int),()) else some ((0:Int),())))
def yCw (s:List UInt8):Option (Int×Unit) := yMs 0 s
abbrev z00_e:Entry := { f := 45,args := .pair t9 .unit,rS := .pair t3 .unit,m := fun x=>yCw x.1 }
theorem yOa:FnOK Tryz.prog z00_e := fF 0 Tryz.f45 (fun n x=>yMs n x.1) [] (yB yQC eNil)
def zS_m (n:Nat) (c:Cha) (leaf:Int):Option (Int×Unit) :=
  (bif decide (leaf < 0) then some ((10:Int),()) else (bif decide (leaf ≥ (↑c.1.length:Int)) then some ((10:Int),()) else (Option.bind (idx c.1 leaf) fun (v2:Sta)=>some ((z0x (v2.2.2.1 != (-1:Int)) (20:Int)).1,()))))
def zS_M (c:Cha) (leaf:Int):Option (Int×Unit) := zS_m 0 c leaf
abbrev zS_e:Entry := { f := 60,args := .pair t34 (.pair t3 .unit),rS := .pair t28 .unit,m := fun x=>zS_M x.1 x.2.1 }
theorem yRL:FnOK Tryz.prog zS_e := fF 0 Tryz.f60 (fun n x=>zS_m n x.1 x.2.1) [] (yB y4g eNil)
def yNe (n:Nat) (np:Int) (least:Int) (most:Int):Option (Int×Unit) :=
  (bif decide (np < least) then some ((z0x Bool.true (3:Int)).1,()) else some ((z0x (decide (np > most)) (3:Int)).1,()))
def z0b (np:Int) (least:Int) (most:Int):(Int×Unit) :=
  (bif decide (np < least) then ((z0x Bool.true (3:Int)).1,()) else ((z0x (decide (np > most)) (3:Int)).1,()))
abbrev yRF (np:Int) (least:Int) (most:Int):Option (Int×Unit) := some (z0b np least most)
abbrev z0b_e:Entry := { f := 72,args := .pair t3 (.pair t3 (.pair t3 .unit)),rS := .pair t28 .unit,m := fun x=>yRF x.1 x.2.1 x.2.2.1 }
theorem yBa:FnOK Tryz.prog z0b_e := fF (hm := by intro x; show some (z0b x.1 x.2.1 x.2.2.1) = yNe 0 x.1 x.2.1 x.2.2.1; unfold yNe z0b; first | rfl | simp only [yc]) 0 Tryz.f72 (fun n x=>yNe n x.1 x.2.1 x.2.2.1) [] (yB y4g eNil)
def yPS (n:Nat) (xp:Cas) (o:Int×Bool×Bool×Unit) (p2:Cha):Option (Bool×Unit) :=
  (bif y0P IntKind.i64 Go.BinOp.and xp.2.2.1 (1:Int) != 0 then (bif !o.2.2.1 then (Option.bind (idx p2.1 o.1) fun (v0:Sta)=>some (v0.2.2.2.1,())) else some (Bool.false,())) else some (Bool.false,()))
def yO3 (xp:Cas) (o:Int×Bool×Bool×Unit) (p2:Cha):Option (Bool×Unit) := yPS 0 xp o p2
abbrev z03_e:Entry := { f := 67,args := .pair t73 (.pair t135 (.pair (.ref t34) .unit)),rS := .pair t4 .unit,m := fun x=>yO3 x.1 x.2.1 x.2.2.1 }
theorem yNk:FnOK Tryz.prog z03_e := fF 0 Tryz.f67 (fun n x=>yPS n x.1 x.2.1 x.2.2.1) [] (yB yLS eNil)
def zL_m (n:Nat) (s:List Int) (v:Int):Option (Bool×Unit) :=
  (Option.bind (zW_M s v) fun (v0:Int×Unit)=>some (decide (v0.1 ≥ 0),()))
def zL_M (s:List Int) (v:Int):Option (Bool×Unit) := zL_m 0 s v
abbrev zL_e:Entry := { f := 66,args := .pair t45 (.pair t3 .unit),rS := .pair t4 .unit,m := fun x=>zL_M x.1 x.2.1 }
theorem yKP:FnOK Tryz.prog zL_e := fF 0 Tryz.f66 (fun n x=>zL_m n x.1 x.2.1) [] (yB yRp eNil)
def zE_m (n:Nat) (s:List (List UInt8)) (v:List UInt8):Option (Bool×Unit) :=
  (Option.bind (zH_M s v) fun (v0:Int×Unit)=>some (decide (v0.1 ≥ 0),()))
def zE_M (s:List (List UInt8)) (v:List UInt8):Option (Bool×Unit) := zE_m 0 s v
abbrev zE_e:Entry := { f := 102,args := .pair t51 (.pair t9 .unit),rS := .pair t4 .unit,m := fun x=>zE_M x.1 x.2.1 }
theorem yQu:FnOK Tryz.prog zE_e := fF 0 Tryz.f102 (fun n x=>zE_m n x.1 x.2.1) [] (yB yRn eNil)
def yLh (n:Nat) (s:List UInt8):Option (Int×Unit) :=
  (Option.bind (yKX s) fun (v0:Bool×Unit)=>some ((z0x (!v0.1) (8:Int)).1,()))
def y8q (s:List UInt8):Option (Int×Unit) := yLh 0 s
abbrev z06_e:Entry := { f := 105,args := .pair t9 .unit,rS := .pair t28 .unit,m := fun x=>y8q x.1 }
theorem yFN:FnOK Tryz.prog z06_e := fF 0 Tryz.f105 (fun n x=>yLh n x.1) [] (yB yQN (yB y4g eNil))
def zY_m (n:Nat) (t:Tra) (conditions:Int):Option (Bool×Unit) :=
  some (eqV (Ty.arr (4:Nat) Ty.bool) (z0a (y0P IntKind.i64 Go.BinOp.and conditions t.2.2.2.1)).1 (z0a t.2.2.2.2.1).1,())
def zY (t:Tra) (conditions:Int):(Bool×Unit) :=
  (eqV (Ty.arr (4:Nat) Ty.bool) (z0a (y0P IntKind.i64 Go.BinOp.and conditions t.2.2.2.1)).1 (z0a t.2.2.2.2.1).1,())
abbrev zY_M (t:Tra) (conditions:Int):Option (Bool×Unit) := some (zY t conditions)
abbrev zY_e:Entry := { f := 109,args := .pair t65 (.pair t3 .unit),rS := .pair t4 .unit,m := fun x=>zY_M x.1 x.2.1 }
theorem yR1:FnOK Tryz.prog zY_e := fF (hm := by intro x; show some (zY x.1 x.2.1) = zY_m 0 x.1 x.2.1; unfold zY_m zY; first | rfl | simp only [yc]) 0 Tryz.f109 (fun n x=>zY_m n x.1 x.2.1) [] (yB yLS eNil)
def zG_m (n:Nat) (s:List Int) (f:Int×Unit→Option (Bool×Unit)):Option (Bool×Unit) :=
  (Option.bind (zK_M s f) fun (v0:Int×Unit)=>some (decide (v0.1 ≥ 0),()))
def zG_M (s:List Int) (f:Int×Unit→Option (Bool×Unit)):Option (Bool×Unit) := zG_m 0 s f
abbrev zG_e:Entry := { f := 114,args := .pair t45 (.pair t155 .unit),rS := .pair t4 .unit,m := fun x=>zG_M x.1 x.2.1 }
theorem yOX:FnOK Tryz.prog zG_e := fF 0 Tryz.f114 (fun n x=>zG_m n x.1 x.2.1) [] (yB yRT eNil)
abbrev yMD:Ty := .unit
abbrev yQF:Ty := .pair t215 .unit
def yNn:G := { T := T,E := [z0I_e,z0J_e,z0K_e,z0L_e,z0M_e,zh_e],mU := [],fz := [] }
def yRh:List (List Nat) := []
def yLL (n:Nat):Ann := { keep := yRh,fuel := n,inl := [],deep := 0 }
def yK5 (n:Nat)  : Option (List (List UInt8×(Fai×Unit→Option (Fai×Unit))×(Fai×Int×(List UInt8×Int×Unit)×Unit→Option ((List UInt8×Int×Unit)×Bool×Unit))×Unit)×Unit) :=
  some ([([(110:UInt8),111,110,101],fun (x:Fai×Unit)=>yNC x.1,fun (x:Fai×Int×(List UInt8×Int×Unit)×Unit)=>yNE x.1 x.2.1 x.2.2.1,()),([(108:UInt8),111,115,116],fun (x:Fai×Unit)=>yLb x.1,fun (x:Fai×Int×(List UInt8×Int×Unit)×Unit)=>yNK x.1 x.2.1 x.2.2.1,()),([(115:UInt8),116,117,99,107],fun (x:Fai×Unit)=>yMu x.1,fun (x:Fai×Int×(List UInt8×Int×Unit)×Unit)=>zh_M x.1 x.2.1 x.2.2.1,())],())
theorem yP0 (n:Nat) (x:yMD.den):runF yNn (yLL n) Tryz.f131 yMD yQF x = yK5 n := by kernel_rfl
def z0o  : (List (List UInt8×(Fai×Unit→Option (Fai×Unit))×(Fai×Int×(List UInt8×Int×Unit)×Unit→Option ((List UInt8×Int×Unit)×Bool×Unit))×Unit)×Unit) :=
  ([([(110:UInt8),111,110,101],fun (x:Fai×Unit)=>yNC x.1,fun (x:Fai×Int×(List UInt8×Int×Unit)×Unit)=>yNE x.1 x.2.1 x.2.2.1,()),([(108:UInt8),111,115,116],fun (x:Fai×Unit)=>yLb x.1,fun (x:Fai×Int×(List UInt8×Int×Unit)×Unit)=>yNK x.1 x.2.1 x.2.2.1,()),([(115:UInt8),116,117,99,107],fun (x:Fai×Unit)=>yMu x.1,fun (x:Fai×Int×(List UInt8×Int×Unit)×Unit)=>zh_M x.1 x.2.1 x.2.2.1,())],())
abbrev yPc  : Option (List (List UInt8×(Fai×Unit→Option (Fai×Unit))×(Fai×Int×(List UInt8×Int×Unit)×Unit→Option ((List UInt8×Int×Unit)×Bool×Unit))×Unit)×Unit) := some (z0o)
theorem yMM  (y:List (List UInt8×(Fai×Unit→Option (Fai×Unit))×(Fai×Int×(List UInt8×Int×Unit)×Unit→Option ((List UInt8×Int×Unit)×Bool×Unit))×Unit)×Unit) (h:yPc = some y) : ∃ n,yK5 n = some y :=
  ⟨0,by rw [← h]; show yK5 0 = some (z0o); unfold yK5 z0o; first | rfl | (simp only [yc]; done) | (simp only [yc]; rfl)⟩
def z0o_e:Entry := { f := 131,args := yMD,rS := yQF,m := fun x=>yPc }
theorem yOg:FnOK Tryz.prog z0o_e := y1x (g := yNn) (fn := Tryz.f131) y0M y1t (yB yQm (yB yPT (yB yP4 (yB yOd (yB yPi (yB yQy eNil)))))) (by kernel_rfl) (by kernel_rfl) (by kernel_rfl) (fun x y h=>let ⟨n,hn⟩ := yMM y h; ⟨yLL n,iNil,(yP0 n x).trans hn⟩)
end
end Go.Tw
end
section
set_option maxRecDepth 1000000
namespace Go.Tw
open Go.Vx Go.Vx.B Go.Proofs
noncomputable section
def yIW (n:Nat) (r0:Cha→Int→Option (Int×Unit)) (r3:Cha→Int→Int→List UInt8→Int→Int→Bool→Option (Int×Unit)) (aI:Cha) (aE:Int) (bd:Int) (ar:List UInt8) (al:Int) (ax:Int) (ay:Bool):Option (Int×Unit) :=
  (bif decide (bd < aE) then (Option.bind (idx aI.1 bd) fun (v4:Sta)=>(bif v4.1==ar then some ((9:Int),()) else r3 aI aE (IntKind.i64.wrap (bd + 1)) ar al ax ay)) else (bif decide (al < (-1:Int)) then some ((11:Int),()) else (bif decide (al ≥ aE) then some ((11:Int),()) else r0 aI (IntKind.i64.wrap (aE + 1)))))
def yAg (n:Nat) (r0:Cha→Int→Option (Int×Unit)) (k:Nat) (aI:Cha) (aE:Int) (bd:Int) (ar:List UInt8) (al:Int) (ax:Int) (ay:Bool):Option (Int×Unit) :=
  iter (fun r y=>yIW n r0 (fun aI aE bd ar al ax ay=>r ((aI,(aE,(bd,()))),(((ar,(al,(ax,(ay,())))),()),()))) y.1.1 y.1.2.1 y.1.2.2.1 y.2.1.1.1 y.2.1.1.2.1 y.2.1.1.2.2.1 y.2.1.1.2.2.2.1) k ((aI,(aE,(bd,()))),(((ar,(al,(ax,(ay,())))),()),()))
def yEd (n:Nat) (r19:Cha→Int→Option (Int×Unit)) (au:Cha) (aO:Int):Option (Int×Unit) :=
  (bif decide (aO < (↑au.2.1.length:Int)) then (Option.bind (idx au.2.1 aO) fun (v20:Tra)=>(bif (zt v20.1 (0:Int) (IntKind.i64.wrap ((↑au.1.length:Int) - (1:Int)))).1 != 0 then some ((10:Int),()) else (bif (zt v20.2.2.1 (0:Int) (IntKind.i64.wrap ((↑au.1.length:Int) - (1:Int)))).1 != 0 then some ((10:Int),()) else (Option.bind (yCw v20.2.1) fun (v23:Int×Unit)=>(Option.bind (yIk [v23.1,(zt v20.2.2.2.1 (0:Int) (15:Int)).1,(zt v20.2.2.2.2.1 (0:Int) (15:Int)).1,(z0s (y0P IntKind.i64 Go.BinOp.and v20.2.2.2.2.1 v20.2.2.2.1 != v20.2.2.2.2.1) (1:Int)).1]) fun (v24:Int×Unit)=>(bif v24.1 != 0 then some (v24.1,()) else r19 au (IntKind.i64.wrap (aO + 1)))))))) else (Option.bind (yHv au) fun (v25:List (List UInt8)×Unit)=>some ((z0s (decide ((↑v25.1.length:Int) > 8)) (5:Int)).1,())))
def y79 (n:Nat)  (k:Nat) (au:Cha) (aO:Int):Option (Int×Unit) :=
  iter (fun r y=>yEd n (fun au aO=>r ((au,(aO,())),((),()))) y.1.1 y.1.2.1) k ((au,(aO,())),((),()))
def yHd (n:Nat) (r7:Cha→Int→Option (Int×Unit)) (aA:Cha) (aV:Int):Option (Int×Unit) :=
  (bif decide (aV < (↑aA.1.length:Int)) then (Option.bind (idx aA.1 aV) fun (v8:Sta)=>(Option.bind (yIq aA aV v8.2.2.1) fun (v9:Int×Bool×Unit)=>(bif decide (v9.1 > 0) then (bif !v9.2.1 then some ((1:Int),()) else (bif v8.2.2.2.1 then some ((1:Int),()) else (bif v9.1==0 then (bif v8.2.2.1 != (-1:Int) then some ((1:Int),()) else r7 aA (IntKind.i64.wrap (aV + 1))) else r7 aA (IntKind.i64.wrap (aV + 1))))) else (bif v9.1==0 then (bif v8.2.2.1 != (-1:Int) then some ((1:Int),()) else r7 aA (IntKind.i64.wrap (aV + 1))) else r7 aA (IntKind.i64.wrap (aV + 1)))))) else (bif decide ((↑aA.2.1.length:Int) > 48) then some ((5:Int),()) else (y79 n n (aA) ((0:Int)))))
def yA8 (n:Nat)  (k:Nat) (aA:Cha) (aV:Int):Option (Int×Unit) :=
  iter (fun r y=>yHd n (fun aA aV=>r ((aA,(aV,())),((),()))) y.1.1 y.1.2.1) k ((aA,(aV,())),((),()))
def yIa (n:Nat) (r0:Cha→Int→Option (Int×Unit)) (a8:Cha) (aY:Int):Option (Int×Unit) :=
  (bif decide (aY < (↑a8.1.length:Int)) then (Option.bind (idx a8.1 aY) fun (v1:Sta)=>(Option.bind (yCw v1.1) fun (v2:Int×Unit)=>(bif v2.1 != 0 then some (v2.1,()) else (yAg n r0 n (a8) (aY) ((0:Int)) (v1.1) (v1.2.1) (v1.2.2.1) (v1.2.2.2.1))))) else (yA8 n n (a8) ((0:Int))))
def yAW (n:Nat)  (k:Nat) (a8:Cha) (aY:Int):Option (Int×Unit) :=
  iter (fun r y=>yIa n (fun a8 aY=>r ((a8,(aY,())),((),()))) y.1.1 y.1.2.1) k ((a8,(aY,())),((),()))
def zu_m (n:Nat) (c:Cha):Option (Int×Unit) :=
  (bif (↑c.1.length:Int)==0 then some ((12:Int),()) else (bif decide ((↑c.1.length:Int) > 16) then some ((5:Int),()) else (yAW n n (c) ((0:Int)))))
def yFi (aI:Cha) (aE:Int) (ar:List UInt8) (al:Int) (ax:Int) (ay:Bool) (bd:Int):Option (((Int×Unit)⊕Unit)⊕Unit) :=
  (Option.bind (idx aI.1 bd) fun (v4:Sta)=>(bif v4.1==ar then (some (Sum.inl (Sum.inl (((9:Int),()))))) else (some (Sum.inr ()))))
def yI5 (aI:Cha) (aE:Int) (ar:List UInt8) (al:Int) (ax:Int) (ay:Bool):Option ((Int×Unit)⊕Unit) :=
  (bif decide (al < (-1:Int)) then (some (Sum.inl (((11:Int),())))) else (bif decide (al ≥ aE) then (some (Sum.inl (((11:Int),())))) else (some (Sum.inr ()))))
theorem yGP (n:Nat) (hn:big≤n)  (r0:Cha→Int→Option (Int×Unit)) (aI:Cha) (aE:Int) (ar:List UInt8) (al:Int) (ax:Int) (ay:Bool) (hx:(aE)≤9223372036854775807):LeF (elim some fun (af:Unit)=>r0 aI (IntKind.i64.wrap (aE + 1))) (y21 (fun ak af=>yFi aI aE ar al ax ay ak) (fun af=>yI5 aI aE ar al ax ay) ((aE) - 0).toNat 0 ()) (yAg n r0 n aI aE 0 ar al ax ay) := by
  refine y72 (f := (elim some fun (af:Unit)=>r0 aI (IntKind.i64.wrap (aE + 1)))) (W := fun aJ ak af=>yAg n r0 aJ aI aE ak ar al ax ay) (body := (fun ak af=>yFi aI aE ar al ax ay ak)) (fin := (fun af=>yI5 aI aE ar al ax ay)) (fun aJ ak af=>?_) hx () n 0 (by decide) (by unfold big at hn; omega)
  show LeF _ _ (yIW n r0 (yAg n r0 aJ) aI aE ak ar al ax ay)
  exact y4 (yA fun v4=>(y4 (y6 rfl) (y6 rfl))) (y0T (y4 (y6 rfl) (y4 (y6 rfl) (y6 rfl))))
def yBG (au:Cha) (aO:Int) (v20:Tra):Option ((Int×Unit)⊕Unit) :=
  (bif (zt v20.1 (0:Int) (IntKind.i64.wrap ((↑au.1.length:Int) - (1:Int)))).1 != 0 then (some (Sum.inl (((10:Int),())))) else (bif (zt v20.2.2.1 (0:Int) (IntKind.i64.wrap ((↑au.1.length:Int) - (1:Int)))).1 != 0 then (some (Sum.inl (((10:Int),())))) else (Option.bind (yCw v20.2.1) fun (v23:Int×Unit)=>(Option.bind (yIk [v23.1,(zt v20.2.2.2.1 (0:Int) (15:Int)).1,(zt v20.2.2.2.2.1 (0:Int) (15:Int)).1,(z0s (y0P IntKind.i64 Go.BinOp.and v20.2.2.2.2.1 v20.2.2.2.1 != v20.2.2.2.2.1) (1:Int)).1]) fun (v24:Int×Unit)=>(bif v24.1 != 0 then (some (Sum.inl ((v24.1,())))) else (some (Sum.inr ())))))))
def yCp (au:Cha):Option (Int×Unit) :=
  (Option.bind (yHv au) fun (v25:List (List UInt8)×Unit)=>(some (((z0s (decide ((↑v25.1.length:Int) > 8)) (5:Int)).1,()))))
theorem yDG (n:Nat) (hn:big≤n)  (au:Cha) (hx:List.length (au.2.1) < lenMax):LeF some (yI (fun ak aQ af=>yBG au ak aQ) (fun af=>yCp au) 0 (au.2.1) ()) (y79 n n au 0) := by
  refine yR (f := some) (W := fun aJ ak af=>y79 n aJ au ak) (fun aJ ak af=>?_) hx () n (by unfold big at hn; unfold lenMax at hx; omega)
  show LeF _ _ (yEd n (y79 n aJ) au ak)
  exact y4 (yA fun v20=>(y4 (y6 rfl) (y4 (y6 rfl) (yA fun v23=>(yA fun v24=>(y4 (y6 rfl) (y6 rfl))))))) (y0T (yA fun v25=>(y6 rfl)))
def yIw (aA:Cha) (aV:Int) (v8:Sta):Option ((Int×Unit)⊕Unit) :=
  (Option.bind (yIq aA aV v8.2.2.1) fun (v9:Int×Bool×Unit)=>(bif decide (v9.1 > 0) then (bif !v9.2.1 then (some (Sum.inl (((1:Int),())))) else (bif v8.2.2.2.1 then (some (Sum.inl (((1:Int),())))) else (bif v9.1==0 then (bif v8.2.2.1 != (-1:Int) then (some (Sum.inl (((1:Int),())))) else (some (Sum.inr ()))) else (some (Sum.inr ()))))) else (bif v9.1==0 then (bif v8.2.2.1 != (-1:Int) then (some (Sum.inl (((1:Int),())))) else (some (Sum.inr ()))) else (some (Sum.inr ())))))
def yIb (aA:Cha):Option (Int×Unit) :=
  (bif decide ((↑aA.2.1.length:Int) > 48) then (some (((5:Int),()))) else (bif decide (List.length (aA.2.1) < lenMax) then yI (fun ak aQ af=>yBG (aA) ak aQ) (fun af=>yCp (aA)) 0 (aA.2.1) () else none))
theorem yGK (n:Nat) (hn:big≤n)  (aA:Cha) (hx:List.length (aA.1) < lenMax):LeF some (yI (fun ak aQ af=>yIw aA ak aQ) (fun af=>yIb aA) 0 (aA.1) ()) (yA8 n n aA 0) := by
  refine yR (f := some) (W := fun aJ ak af=>yA8 n aJ aA ak) (fun aJ ak af=>?_) hx () n (by unfold big at hn; unfold lenMax at hx; omega)
  show LeF _ _ (yHd n (yA8 n aJ) aA ak)
  exact y4 (yA fun v8=>(yA fun v9=>(y4 (y4 (y6 rfl) (y4 (y6 rfl) (y4 (y4 (y6 rfl) (y6 rfl)) (y6 rfl)))) (y4 (y4 (y6 rfl) (y6 rfl)) (y6 rfl))))) (y0T (y4 (y6 rfl) (yZ fun hx=>by apply yDG n hn; exact hx)))
def yI8 (a8:Cha) (aY:Int) (v1:Sta):Option ((Int×Unit)⊕Unit) :=
  (Option.bind (yCw v1.1) fun (v2:Int×Unit)=>(bif v2.1 != 0 then (some (Sum.inl ((v2.1,())))) else (bif decide ((aY)≤9223372036854775807) then y21 (fun ak af=>yFi (a8) (aY) (v1.1) (v1.2.1) (v1.2.2.1) (v1.2.2.2.1) ak) (fun af=>yI5 (a8) (aY) (v1.1) (v1.2.1) (v1.2.2.1) (v1.2.2.2.1)) ((aY) - 0).toNat 0 () else none)))
def yH4 (a8:Cha):Option (Int×Unit) :=
  (bif decide (List.length (a8.1) < lenMax) then yI (fun ak aQ af=>yIw (a8) ak aQ) (fun af=>yIb (a8)) 0 (a8.1) () else none)
theorem yFc (n:Nat) (hn:big≤n)  (a8:Cha) (hx:List.length (a8.1) < lenMax):LeF some (yI (fun ak aQ af=>yI8 a8 ak aQ) (fun af=>yH4 a8) 0 (a8.1) ()) (yAW n n a8 0) := by
  refine yR (f := some) (W := fun aJ ak af=>yAW n aJ a8 ak) (fun aJ ak af=>?_) hx () n (by unfold big at hn; unfold lenMax at hx; omega)
  show LeF _ _ (yIa n (yAW n aJ) a8 ak)
  exact y4 (yA fun v1=>(yA fun v2=>(y4 (y6 rfl) (yZ fun hx=>by apply yGP n hn; exact hx)))) (y0T (yZ fun hx=>by apply yGK n hn; exact hx))
def zu_M (c:Cha):Option (Int×Unit) :=
  (bif (↑c.1.length:Int)==0 then (some (((12:Int),()))) else (bif decide ((↑c.1.length:Int) > 16) then (some (((5:Int),()))) else (bif decide (List.length (c.1) < lenMax) then yI (fun ak aQ af=>yI8 (c) ak aQ) (fun af=>yH4 (c)) 0 (c.1) () else none)))
abbrev zu_e:Entry := { f := 10,args := .pair t25 .unit,rS := .pair t3 .unit,m := fun x=>zu_M x.1 }
theorem yPp:FnOK Tryz.prog zu_e := fB Tryz.f10 (fun n x=>zu_m n x.1) [[1,3],[1,3,4,6],[1,7],[1,11]] (yB yOa (yB yOp (yB yRG (yB yO8 (yB yOA (yB yPQ eNil)))))) fun n hn x=>(y4 (y6 rfl) (y4 (y6 rfl) (yZ fun hx=>by apply yFc n hn; exact hx)))
def yH2 (n:Nat) (r0:List Tra→Int→Int→List (List UInt8)→Option (List (List UInt8)×Unit)) (aq:List Tra) (aT:Int) (aM:Int) (aa:List (List UInt8)):Option (List (List UInt8)×Unit) :=
  (bif decide (aM < aT) then (Option.bind (idx aq aM) fun (v1:Tra)=>(Option.bind (zE_M aa v1.2.1) fun (v2:Bool×Unit)=>(bif !v2.1 then (bif decide (aa.length + (1:Nat)≤memMax) then r0 aq aT (IntKind.i64.wrap (aM + 1)) (aa ++ [v1.2.1]) else none) else r0 aq aT (IntKind.i64.wrap (aM + 1)) aa))) else some (aa,()))
def yAG (n:Nat)  (k:Nat) (aq:List Tra) (aT:Int) (aM:Int) (aa:List (List UInt8)):Option (List (List UInt8)×Unit) :=
  iter (fun r y=>yH2 n (fun aq aT aM aa=>r ((aq,(aT,(aM,()))),((aa,()),()))) y.1.1 y.1.2.1 y.1.2.2.1 y.2.1.1) k ((aq,(aT,(aM,()))),((aa,()),()))
def zb_m (n:Nat) (c:Cha):Option (List (List UInt8)×Unit) :=
  (yAG n n (c.2.1) ((↑c.2.1.length:Int)) ((0:Int)) ([]))
def yJW (aq:List Tra) (aM:Int) (v1:Tra) (aa:List (List UInt8)):Option ((List (List UInt8)×Unit)⊕(List (List UInt8))) :=
  (Option.bind (zE_M aa v1.2.1) fun (v2:Bool×Unit)=>(bif !v2.1 then (bif decide (aa.length + (1:Nat)≤memMax) then (some (Sum.inr (aa ++ [v1.2.1]))) else none) else (some (Sum.inr (aa)))))
def yM2 (aq:List Tra) (aa:List (List UInt8)):Option (List (List UInt8)×Unit) :=
  (some ((aa,())))
theorem yGW (n:Nat) (hn:big≤n)  (aq:List Tra) (aa:List (List UInt8)) (hx:List.length (aq) < lenMax):LeF some (yI (fun ak aQ af=>yJW aq ak aQ af) (fun af=>yM2 aq af) 0 (aq) aa) (yAG n n aq (List.length (aq):Int) 0 aa) := by
  refine yR (f := some) (W := fun aJ ak af=>yAG n aJ aq (List.length (aq):Int) ak af) (fun aJ ak af=>?_) hx aa n (by unfold big at hn; unfold lenMax at hx; omega)
  show LeF _ _ (yH2 n (yAG n aJ) aq (List.length (aq):Int) ak af)
  exact y4 (yA fun v1=>(yA fun v2=>(y4 (y4 (y6 rfl) yL) (y6 rfl)))) (y0T (y6 rfl))
def zb_M (c:Cha):Option (List (List UInt8)×Unit) :=
  (bif decide (List.length (c.2.1) < lenMax) then yI (fun ak aQ af=>yJW (c.2.1) ak aQ af) (fun af=>yM2 (c.2.1) af) 0 (c.2.1) ([]) else none)
abbrev zb_e:Entry := { f := 56,args := .pair t34 .unit,rS := .pair t51 .unit,m := fun x=>zb_M x.1 }
theorem yJI:FnOK Tryz.prog zb_e := fB (mu := [3]) Tryz.f56 (fun n x=>zb_m n x.1) [[3,7,8,9]] (yB yQu eNil) fun n hn x=>(yZ fun hx=>by apply yGW n hn; exact hx)
def yAw (n:Nat) (r0:Cha→List Sta→Int→Int→List (List UInt8×Bool)→List (Int×List Int)→Option (Int×Unit)) (a8:Cha) (ac:List Sta) (aB:Int) (av:Int) (ah:List (List UInt8×Bool)) (aC:List (Int×List Int)) (v1:Sta):Option (Int×Unit) :=
  (bif y3E (Ty.int IntKind.i64) v1.2.1 v1.2.1 then (bif decide (((yN (Ty.int IntKind.i64) (Ty.int IntKind.i64).slice aC v1.2.1).getD []).length + (1:Nat)≤memMax) then (bif y3E (Ty.int IntKind.i64) v1.2.1 v1.2.1 then r0 a8 ac aB (IntKind.i64.wrap (av + 1)) (y02 Ty.str Ty.bool ah v1.1 Bool.true) (y02 (Ty.int IntKind.i64) (Ty.int IntKind.i64).slice aC v1.2.1 ((yN (Ty.int IntKind.i64) (Ty.int IntKind.i64).slice aC v1.2.1).getD [] ++ [av])) else none) else none) else none)
def yFD (n:Nat) (r21:List (Int×List Int)→List Sta→Int→Int→Option (Int×Unit)) (a7:List (Int×List Int)) (ai:List Sta) (aK:Int) (aj:Int):Option (Int×Unit) :=
  (bif decide (aj < aK) then (Option.bind (idx ai aj) fun (v22:Sta)=>(bif (↑((yN (Ty.int IntKind.i64) (Ty.int IntKind.i64).slice a7 aj).getD []).length:Int)==0 then (bif v22.2.2.1 != (-1:Int) then some ((1:Int),()) else (bif !(↑((yN (Ty.int IntKind.i64) (Ty.int IntKind.i64).slice a7 aj).getD []).length:Int)==0 then (bif v22.2.2.2.1 then some ((1:Int),()) else (Option.bind (zL_M ((yN (Ty.int IntKind.i64) (Ty.int IntKind.i64).slice a7 aj).getD []) v22.2.2.1) fun (v23:Bool×Unit)=>(bif !v23.1 then some ((1:Int),()) else r21 a7 ai aK (IntKind.i64.wrap (aj + 1))))) else r21 a7 ai aK (IntKind.i64.wrap (aj + 1)))) else (bif !(↑((yN (Ty.int IntKind.i64) (Ty.int IntKind.i64).slice a7 aj).getD []).length:Int)==0 then (bif v22.2.2.2.1 then some ((1:Int),()) else (Option.bind (zL_M ((yN (Ty.int IntKind.i64) (Ty.int IntKind.i64).slice a7 aj).getD []) v22.2.2.1) fun (v24:Bool×Unit)=>(bif !v24.1 then some ((1:Int),()) else r21 a7 ai aK (IntKind.i64.wrap (aj + 1))))) else r21 a7 ai aK (IntKind.i64.wrap (aj + 1))))) else some ((0:Int),()))
def y7C (n:Nat)  (k:Nat) (a7:List (Int×List Int)) (ai:List Sta) (aK:Int) (aj:Int):Option (Int×Unit) :=
  iter (fun r y=>yFD n (fun a7 ai aK aj=>r ((a7,(ai,(aK,(aj,())))),((),()))) y.1.1 y.1.2.1 y.1.2.2.1 y.1.2.2.2.1) k ((a7,(ai,(aK,(aj,())))),((),()))
def yHP (n:Nat) (r0:Cha→List Sta→Int→Int→List (List UInt8×Bool)→List (Int×List Int)→Option (Int×Unit)) (a8:Cha) (ac:List Sta) (aB:Int) (av:Int) (ah:List (List UInt8×Bool)) (aC:List (Int×List Int)):Option (Int×Unit) :=
  (bif decide (av < aB) then (Option.bind (idx ac av) fun (v1:Sta)=>(Option.bind (y8q v1.1) fun (v2:Int×Unit)=>(bif decide (v1.2.1 < (-1:Int)) then (Option.bind (y1R [v2.1,(z0x ((yN Ty.str Ty.bool ah v1.1).getD Bool.false) (9:Int)).1,(z0x Bool.true (11:Int)).1]) fun (v3:Int×Unit)=>(bif v3.1 != 0 then some (v3.1,()) else (yAw n r0 a8 ac aB av ah aC v1))) else (Option.bind (y1R [v2.1,(z0x ((yN Ty.str Ty.bool ah v1.1).getD Bool.false) (9:Int)).1,(z0x (decide (v1.2.1 ≥ av)) (11:Int)).1]) fun (v4:Int×Unit)=>(bif v4.1 != 0 then some (v4.1,()) else (yAw n r0 a8 ac aB av ah aC v1)))))) else (y7C n n (aC) (a8.1) ((↑a8.1.length:Int)) ((0:Int))))
def yA6 (n:Nat)  (k:Nat) (a8:Cha) (ac:List Sta) (aB:Int) (av:Int) (ah:List (List UInt8×Bool)) (aC:List (Int×List Int)):Option (Int×Unit) :=
  iter (fun r y=>yHP n (fun a8 ac aB av ah aC=>r ((a8,(ac,(aB,(av,())))),((ah,(aC,())),()))) y.1.1 y.1.2.1 y.1.2.2.1 y.1.2.2.2.1 y.2.1.1 y.2.1.2.1) k ((a8,(ac,(aB,(av,())))),((ah,(aC,())),()))
def zN_m (n:Nat) (c:Cha):Option (Int×Unit) :=
  (yA6 n n (c) (c.1) ((↑c.1.length:Int)) ((0:Int)) ([]) ([]))
def y9V (a8:Cha) (ac:List Sta) (av:Int) (ah:List (List UInt8×Bool)) (aC:List (Int×List Int)) (v1:Sta):Option ((Int×Unit)⊕((List (List UInt8×Bool))×(List (Int×List Int)))) :=
  (bif y3E (Ty.int IntKind.i64) v1.2.1 v1.2.1 then (bif decide (((yN (Ty.int IntKind.i64) (Ty.int IntKind.i64).slice aC v1.2.1).getD []).length + (1:Nat)≤memMax) then (bif y3E (Ty.int IntKind.i64) v1.2.1 v1.2.1 then (some (Sum.inr ((y02 Ty.str Ty.bool ah v1.1 Bool.true),(y02 (Ty.int IntKind.i64) (Ty.int IntKind.i64).slice aC v1.2.1 ((yN (Ty.int IntKind.i64) (Ty.int IntKind.i64).slice aC v1.2.1).getD [] ++ [av]))))) else none) else none) else none)
theorem y0U (n:Nat) (hn:big≤n)  (r0:Cha→List Sta→Int→Int→List (List UInt8×Bool)→List (Int×List Int)→Option (Int×Unit)) (a8:Cha) (ac:List Sta) (av:Int) (ah:List (List UInt8×Bool)) (aC:List (Int×List Int)) (v1:Sta):LeF (elim some fun (af:((List (List UInt8×Bool))×(List (Int×List Int))))=>r0 a8 ac (List.length (ac):Int) (IntKind.i64.wrap (av + 1)) af.1 af.2) (y9V a8 ac av ah aC v1) (yAw n r0 a8 ac (List.length (ac):Int) av ah aC v1) :=
  (y4 (y4 (y4 (y6 rfl) yL) yL) yL)
def yCO (a7:List (Int×List Int)) (ai:List Sta) (aj:Int) (v22:Sta):Option ((Int×Unit)⊕Unit) :=
  (bif (↑((yN (Ty.int IntKind.i64) (Ty.int IntKind.i64).slice a7 aj).getD []).length:Int)==0 then (bif v22.2.2.1 != (-1:Int) then (some (Sum.inl (((1:Int),())))) else (bif !(↑((yN (Ty.int IntKind.i64) (Ty.int IntKind.i64).slice a7 aj).getD []).length:Int)==0 then (bif v22.2.2.2.1 then (some (Sum.inl (((1:Int),())))) else (Option.bind (zL_M ((yN (Ty.int IntKind.i64) (Ty.int IntKind.i64).slice a7 aj).getD []) v22.2.2.1) fun (v23:Bool×Unit)=>(bif !v23.1 then (some (Sum.inl (((1:Int),())))) else (some (Sum.inr ()))))) else (some (Sum.inr ())))) else (bif !(↑((yN (Ty.int IntKind.i64) (Ty.int IntKind.i64).slice a7 aj).getD []).length:Int)==0 then (bif v22.2.2.2.1 then (some (Sum.inl (((1:Int),())))) else (Option.bind (zL_M ((yN (Ty.int IntKind.i64) (Ty.int IntKind.i64).slice a7 aj).getD []) v22.2.2.1) fun (v24:Bool×Unit)=>(bif !v24.1 then (some (Sum.inl (((1:Int),())))) else (some (Sum.inr ()))))) else (some (Sum.inr ()))))
def yGt (a7:List (Int×List Int)) (ai:List Sta):Option (Int×Unit) :=
  (some (((0:Int),())))
theorem yDf (n:Nat) (hn:big≤n)  (a7:List (Int×List Int)) (ai:List Sta) (hx:List.length (ai) < lenMax):LeF some (yI (fun ak aQ af=>yCO a7 ai ak aQ) (fun af=>yGt a7 ai) 0 (ai) ()) (y7C n n a7 ai (List.length (ai):Int) 0) := by
  refine yR (f := some) (W := fun aJ ak af=>y7C n aJ a7 ai (List.length (ai):Int) ak) (fun aJ ak af=>?_) hx () n (by unfold big at hn; unfold lenMax at hx; omega)
  show LeF _ _ (yFD n (y7C n aJ) a7 ai (List.length (ai):Int) ak)
  exact y4 (yA fun v22=>(y4 (y4 (y6 rfl) (y4 (y4 (y6 rfl) (yA fun v23=>(y4 (y6 rfl) (y6 rfl)))) (y6 rfl))) (y4 (y4 (y6 rfl) (yA fun v24=>(y4 (y6 rfl) (y6 rfl)))) (y6 rfl)))) (y0T (y6 rfl))
def yBd (a8:Cha) (ac:List Sta) (av:Int) (v1:Sta) (ah:List (List UInt8×Bool)) (aC:List (Int×List Int)):Option ((Int×Unit)⊕((List (List UInt8×Bool))×(List (Int×List Int)))) :=
  (Option.bind (y8q v1.1) fun (v2:Int×Unit)=>(bif decide (v1.2.1 < (-1:Int)) then (Option.bind (y1R [v2.1,(z0x ((yN Ty.str Ty.bool ah v1.1).getD Bool.false) (9:Int)).1,(z0x Bool.true (11:Int)).1]) fun (v3:Int×Unit)=>(bif v3.1 != 0 then (some (Sum.inl ((v3.1,())))) else (y9V a8 ac av ah aC v1))) else (Option.bind (y1R [v2.1,(z0x ((yN Ty.str Ty.bool ah v1.1).getD Bool.false) (9:Int)).1,(z0x (decide (v1.2.1 ≥ av)) (11:Int)).1]) fun (v4:Int×Unit)=>(bif v4.1 != 0 then (some (Sum.inl ((v4.1,())))) else (y9V a8 ac av ah aC v1)))))
def yFh (a8:Cha) (ac:List Sta) (ah:List (List UInt8×Bool)) (aC:List (Int×List Int)):Option (Int×Unit) :=
  (bif decide (List.length (a8.1) < lenMax) then yI (fun ak aQ af=>yCO (aC) (a8.1) ak aQ) (fun af=>yGt (aC) (a8.1)) 0 (a8.1) () else none)
theorem yFt (n:Nat) (hn:big≤n)  (a8:Cha) (ac:List Sta) (ah:List (List UInt8×Bool)) (aC:List (Int×List Int)) (hx:List.length (ac) < lenMax):LeF some (yI (fun ak aQ af=>yBd a8 ac ak aQ af.1 af.2) (fun af=>yFh a8 ac af.1 af.2) 0 (ac) (ah,aC)) (yA6 n n a8 ac (List.length (ac):Int) 0 ah aC) := by
  refine yR (f := some) (W := fun aJ ak af=>yA6 n aJ a8 ac (List.length (ac):Int) ak af.1 af.2) (fun aJ ak af=>?_) hx (ah,aC) n (by unfold big at hn; unfold lenMax at hx; omega)
  show LeF _ _ (yHP n (yA6 n aJ) a8 ac (List.length (ac):Int) ak af.1 af.2)
  exact y4 (yA fun v1=>(yA fun v2=>(y4 (yA fun v3=>(y4 (y6 rfl) (by apply y0U n hn))) (yA fun v4=>(y4 (y6 rfl) (by apply y0U n hn)))))) (y0T (yZ fun hx=>by apply yDf n hn; exact hx))
def zN_M (c:Cha):Option (Int×Unit) :=
  (bif decide (List.length (c.1) < lenMax) then yI (fun ak aQ af=>yBd (c) (c.1) ak aQ af.1 af.2) (fun af=>yFh (c) (c.1) af.1 af.2) 0 (c.1) (([]),([])) else none)
abbrev zN_e:Entry := { f := 81,args := .pair t34 .unit,rS := .pair t28 .unit,m := fun x=>zN_M x.1 }
theorem yRS:FnOK Tryz.prog zN_e := fB (mu := [12,13]) (fz := [13]) Tryz.f81 (fun n x=>zN_m n x.1) [[1,3,4,15,16,17],[4,60,61,62]] (yB yFN (yB y4g (yB y2x (yB yKP eNil)))) fun n hn x=>(yZ fun hx=>by apply yFt n hn; exact hx)
def yEp (n:Nat) (r0:List Cmd→Int→Int→List (Int×List UInt8)→Option (List (Int×List UInt8)×Int×Unit)) (az:List Cmd) (ac:Int) (aB:Int) (ah:List (Int×List UInt8)):Option (List (Int×List UInt8)×Int×Unit) :=
  (bif decide (aB < ac) then (Option.bind (idx az aB) fun (v1:Cmd)=>(Option.bind (y8q v1.2.2.1) fun (v2:Int×Unit)=>(bif (yN (Ty.int IntKind.i64) Ty.str ah v1.1).isSome then (Option.bind (y1R [(z0b v1.1 (1:Int) (999999999:Int)).1,(z0b v1.2.1 (0:Int) (1:Int)).1,v2.1,(z0x (!(yN (Ty.int IntKind.i64) Ty.str ah v1.1).getD []==v1.2.2.1) (30:Int)).1]) fun (v3:Int×Unit)=>(bif v3.1 != 0 then some ([],v3.1,()) else r0 az ac (IntKind.i64.wrap (aB + 1)) (y02 (Ty.int IntKind.i64) Ty.str ah v1.1 v1.2.2.1))) else (Option.bind (y1R [(z0b v1.1 (1:Int) (999999999:Int)).1,(z0b v1.2.1 (0:Int) (1:Int)).1,v2.1,(z0x Bool.false (30:Int)).1]) fun (v4:Int×Unit)=>(bif v4.1 != 0 then some ([],v4.1,()) else r0 az ac (IntKind.i64.wrap (aB + 1)) (y02 (Ty.int IntKind.i64) Ty.str ah v1.1 v1.2.2.1)))))) else some (ah,(0:Int),()))
def y7M (n:Nat)  (k:Nat) (az:List Cmd) (ac:Int) (aB:Int) (ah:List (Int×List UInt8)):Option (List (Int×List UInt8)×Int×Unit) :=
  iter (fun r y=>yEp n (fun az ac aB ah=>r ((az,(ac,(aB,()))),((ah,()),()))) y.1.1 y.1.2.1 y.1.2.2.1 y.2.1.1) k ((az,(ac,(aB,()))),((ah,()),()))
def yRj (n:Nat) (l:List Cmd):Option (List (Int×List UInt8)×Int×Unit) :=
  (bif decide ((↑l.length:Int) > 256) then some ([],(5:Int),()) else (y7M n n (l) ((↑l.length:Int)) ((0:Int)) ([])))
def yLT (az:List Cmd) (aB:Int) (v1:Cmd) (ah:List (Int×List UInt8)):Option ((List (Int×List UInt8)×Int×Unit)⊕(List (Int×List UInt8))) :=
  (Option.bind (y8q v1.2.2.1) fun (v2:Int×Unit)=>(bif (yN (Ty.int IntKind.i64) Ty.str ah v1.1).isSome then (Option.bind (y1R [(z0b v1.1 (1:Int) (999999999:Int)).1,(z0b v1.2.1 (0:Int) (1:Int)).1,v2.1,(z0x (!(yN (Ty.int IntKind.i64) Ty.str ah v1.1).getD []==v1.2.2.1) (30:Int)).1]) fun (v3:Int×Unit)=>(bif v3.1 != 0 then (some (Sum.inl (([],v3.1,())))) else (some (Sum.inr (y02 (Ty.int IntKind.i64) Ty.str ah v1.1 v1.2.2.1))))) else (Option.bind (y1R [(z0b v1.1 (1:Int) (999999999:Int)).1,(z0b v1.2.1 (0:Int) (1:Int)).1,v2.1,(z0x Bool.false (30:Int)).1]) fun (v4:Int×Unit)=>(bif v4.1 != 0 then (some (Sum.inl (([],v4.1,())))) else (some (Sum.inr (y02 (Ty.int IntKind.i64) Ty.str ah v1.1 v1.2.2.1)))))))
def yL3 (az:List Cmd) (ah:List (Int×List UInt8)):Option (List (Int×List UInt8)×Int×Unit) :=
  (some ((ah,(0:Int),())))
theorem yDv (n:Nat) (hn:big≤n)  (az:List Cmd) (ah:List (Int×List UInt8)) (hx:List.length (az) < lenMax):LeF some (yI (fun ak aQ af=>yLT az ak aQ af) (fun af=>yL3 az af) 0 (az) ah) (y7M n n az (List.length (az):Int) 0 ah) := by
  refine yR (f := some) (W := fun aJ ak af=>y7M n aJ az (List.length (az):Int) ak af) (fun aJ ak af=>?_) hx ah n (by unfold big at hn; unfold lenMax at hx; omega)
  show LeF _ _ (yEp n (y7M n aJ) az (List.length (az):Int) ak af)
  exact y4 (yA fun v1=>(yA fun v2=>(y4 (yA fun v3=>(y4 (y6 rfl) (y6 rfl))) (yA fun v4=>(y4 (y6 rfl) (y6 rfl)))))) (y0T (y6 rfl))
def yKi (l:List Cmd):Option (List (Int×List UInt8)×Int×Unit) :=
  (bif decide ((↑l.length:Int) > 256) then (some (([],(5:Int),()))) else (bif decide (List.length (l) < lenMax) then yI (fun ak aQ af=>yLT (l) ak aQ af) (fun af=>yL3 (l) af) 0 (l) ([]) else none))
abbrev z0p_e:Entry := { f := 71,args := .pair t78 .unit,rS := .pair t147 (.pair t28 .unit),m := fun x=>yKi x.1 }
theorem yKq:FnOK Tryz.prog z0p_e := fB (mu := [13]) Tryz.f71 (fun n x=>yRj n x.1) [[4,14,15,16]] (yB yBa (yB yFN (yB y4g (yB y2x eNil)))) fun n hn x=>(y4 (y6 rfl) (yZ fun hx=>by apply yDv n hn; exact hx))
def yLU (n:Nat) (np:Int):Option (Int×Unit) :=
  some ((z0b np (0:Int) (1000:Int)).1,())
def z0Y (np:Int):(Int×Unit) :=
  ((z0b np (0:Int) (1000:Int)).1,())
abbrev yOM (np:Int):Option (Int×Unit) := some (z0Y np)
abbrev z0Y_e:Entry := { f := 73,args := .pair t3 .unit,rS := .pair t28 .unit,m := fun x=>yOM x.1 }
theorem yQ7:FnOK Tryz.prog z0Y_e := fF (hm := by intro x; show some (z0Y x.1) = yLU 0 x.1; unfold yLU z0Y; first | rfl | simp only [yc]) 0 Tryz.f73 (fun n x=>yLU n x.1) [] (yB yBa eNil)
def zT_m (n:Nat) (c:Cha) (l:List Int):Option (Int×Unit) :=
  (Option.bind (zG_M l fun (x:Int×Unit)=>zM_M x.1 c) fun (v0:Bool×Unit)=>(Option.bind (y1R [(z0x (decide ((↑l.length:Int) > 16)) (5:Int)).1,(z0x v0.1 (10:Int)).1]) fun (v1:Int×Unit)=>some (v1.1,())))
def zT_M (c:Cha) (l:List Int):Option (Int×Unit) := zT_m 0 c l
abbrev zT_e:Entry := { f := 64,args := .pair t34 (.pair t45 .unit),rS := .pair t28 .unit,m := fun x=>zT_M x.1 x.2.1 }
theorem yOK:FnOK Tryz.prog zT_e := fF 0 Tryz.f64 (fun n x=>zT_m n x.1 x.2.1) [] (yB yRu (yB y4g (yB yOX (yB y2x eNil))))
def zV_m (n:Nat) (np:Int):Option (Int×Unit) :=
  some ((z0b np (0:Int) (15:Int)).1,())
def zV (np:Int):(Int×Unit) :=
  ((z0b np (0:Int) (15:Int)).1,())
abbrev zV_M (np:Int):Option (Int×Unit) := some (zV np)
abbrev zV_e:Entry := { f := 106,args := .pair t3 .unit,rS := .pair t28 .unit,m := fun x=>zV_M x.1 }
theorem yPO:FnOK Tryz.prog zV_e := fF (hm := by intro x; show some (zV x.1) = zV_m 0 x.1; unfold zV_m zV; first | rfl | simp only [yc]) 0 Tryz.f106 (fun n x=>zV_m n x.1) [] (yB yBa eNil)
def zf_m (n:Nat) (t:Tra) (p1:Int) (p2:List UInt8×Int×Unit):Option (Bool×Unit) :=
  (bif t.1==p1 then (bif t.2.1==p2.1 then some ((zY t p2.2.1).1,()) else some (Bool.false,())) else some (Bool.false,()))
def zf (t:Tra) (p1:Int) (p2:List UInt8×Int×Unit):(Bool×Unit) :=
  (bif t.1==p1 then (bif t.2.1==p2.1 then ((zY t p2.2.1).1,()) else (Bool.false,())) else (Bool.false,()))
abbrev zf_M (t:Tra) (p1:Int) (p2:List UInt8×Int×Unit):Option (Bool×Unit) := some (zf t p1 p2)
abbrev zf_e:Entry := { f := 108,args := .pair t65 (.pair (.ref t3) (.pair (.ref t56) .unit)),rS := .pair t4 .unit,m := fun x=>zf_M x.1 x.2.1 x.2.2.1 }
theorem yQv:FnOK Tryz.prog zf_e := fF (hm := by intro x; show some (zf x.1 x.2.1 x.2.2.1) = zf_m 0 x.1 x.2.1 x.2.2.1; unfold zf_m zf; first | rfl | simp only [yc]) 0 Tryz.f108 (fun n x=>zf_m n x.1 x.2.1 x.2.2.1) [] (yB yR1 eNil)
def yMw (n:Nat) (r0:Fai→List (List UInt8×(Fai×Unit→Option (Fai×Unit))×(Fai×Int×(List UInt8×Int×Unit)×Unit→Option ((List UInt8×Int×Unit)×Bool×Unit))×Unit)→Int→List UInt8→Option ((List UInt8×(Fai×Unit→Option (Fai×Unit))×(Fai×Int×(List UInt8×Int×Unit)×Unit→Option ((List UInt8×Int×Unit)×Bool×Unit))×Unit)×Bool×Unit)) (bj:Fai) (bl:List (List UInt8×(Fai×Unit→Option (Fai×Unit))×(Fai×Int×(List UInt8×Int×Unit)×Unit→Option ((List UInt8×Int×Unit)×Bool×Unit))×Unit)) (aq:Int) (aF:List UInt8):Option ((List UInt8×(Fai×Unit→Option (Fai×Unit))×(Fai×Int×(List UInt8×Int×Unit)×Unit→Option ((List UInt8×Int×Unit)×Bool×Unit))×Unit)×Bool×Unit) :=
  (bif decide (aq < 3) then (Option.bind (idx bl aq) fun (v1:List UInt8×(Fai×Unit→Option (Fai×Unit))×(Fai×Int×(List UInt8×Int×Unit)×Unit→Option ((List UInt8×Int×Unit)×Bool×Unit))×Unit)=>(bif v1.1==bj.1 then some ((v1.1,v1.2.1,v1.2.2.1,()),Bool.true,()) else r0 bj bl (IntKind.i64.wrap (aq + 1)) aF)) else some (([],fun (x:Fai×Unit)=>Option.none,fun (x:Fai×Int×(List UInt8×Int×Unit)×Unit)=>Option.none,()),Bool.false,()))
def yN7 (n:Nat)  (k:Nat) (bj:Fai) (bl:List (List UInt8×(Fai×Unit→Option (Fai×Unit))×(Fai×Int×(List UInt8×Int×Unit)×Unit→Option ((List UInt8×Int×Unit)×Bool×Unit))×Unit)) (aq:Int) (aF:List UInt8):Option ((List UInt8×(Fai×Unit→Option (Fai×Unit))×(Fai×Int×(List UInt8×Int×Unit)×Unit→Option ((List UInt8×Int×Unit)×Bool×Unit))×Unit)×Bool×Unit) :=
  iter (fun r y=>yMw n (fun bj bl aq aF=>r ((bj,(bl,(aq,()))),(((aF,()),()),()))) y.1.1 y.1.2.1 y.1.2.2.1 y.2.1.1.1) k ((bj,(bl,(aq,()))),(((aF,()),()),()))
def zi_m (n:Nat) (f:Fai):Option ((List UInt8×(Fai×Unit→Option (Fai×Unit))×(Fai×Int×(List UInt8×Int×Unit)×Unit→Option ((List UInt8×Int×Unit)×Bool×Unit))×Unit)×Bool×Unit) :=
  (yN7 n n (f) (z0o.1) ((0:Int)) ([]))
def zi_M (f:Fai):Option ((List UInt8×(Fai×Unit→Option (Fai×Unit))×(Fai×Int×(List UInt8×Int×Unit)×Unit→Option ((List UInt8×Int×Unit)×Bool×Unit))×Unit)×Bool×Unit) := zi_m 1000 f
abbrev zi_e:Entry := { f := 104,args := .pair t131 .unit,rS := .pair t186 (.pair t4 .unit),m := fun x=>zi_M x.1 }
theorem yRm:FnOK Tryz.prog zi_e := fF 1000 Tryz.f104 (fun n x=>zi_m n x.1) [[1,2,6,7]] (yB yOg eNil)
def zX_m (n:Nat) (leaf:Int) (p1:Goa):Option (Bool×Unit) :=
  (Option.bind (zL_M p1.2.1 leaf) fun (v0:Bool×Unit)=>some (v0.1,()))
def zX_M (leaf:Int) (p1:Goa):Option (Bool×Unit) := zX_m 0 leaf p1
abbrev zX_e:Entry := { f := 119,args := .pair t3 (.pair (.ref t85) .unit),rS := .pair t4 .unit,m := fun x=>zX_M x.1 x.2.1 }
theorem yRg:FnOK Tryz.prog zX_e := fF 0 Tryz.f119 (fun n x=>zX_m n x.1 x.2.1) [] (yB yKP eNil)
end
end Go.Tw
end
section
set_option maxRecDepth 1000000
namespace Go.Tw
open Go.Vx Go.Vx.B Go.Proofs
noncomputable section
def yJX (n:Nat) (r1:List (Int×List UInt8)→Int→List UInt8→Bool→List (List UInt8)→Option (List (List UInt8)×Int×Int×Unit)) (aD:List (Int×List UInt8)) (aH:Int) (aP:List UInt8) (b4:Bool) (bf:List (List UInt8)):Option (List (List UInt8)×Int×Int×Unit) :=
  (bif b4 then (bif decide (bf.length + (1:Nat)≤memMax) then r1 aD (IntKind.i64.wrap (aH + 1)) ((yN (Ty.int IntKind.i64) Ty.str aD (IntKind.i64.wrap (aH + 1))).getD []) (yN (Ty.int IntKind.i64) Ty.str aD (IntKind.i64.wrap (aH + 1))).isSome (bf ++ [aP]) else none) else some (bf,aH,(0:Int),()))
def yJO (n:Nat)  (k:Nat) (aD:List (Int×List UInt8)) (aH:Int) (aP:List UInt8) (b4:Bool) (bf:List (List UInt8)):Option (List (List UInt8)×Int×Int×Unit) :=
  iter (fun r y=>yJX n (fun aD aH aP b4 bf=>r ((aD,(aH,(aP,(b4,())))),((bf,()),()))) y.1.1 y.1.2.1 y.1.2.2.1 y.1.2.2.2.1 y.2.1.1) k ((aD,(aH,(aP,(b4,())))),((bf,()),()))
def yPV (n:Nat) (l:List Cmd):Option (List (List UInt8)×Int×Int×Unit) :=
  (Option.bind (yKi l) fun (v0:List (Int×List UInt8)×Int×Unit)=>(bif v0.2.1 != 0 then some ([],(0:Int),v0.2.1,()) else (yJO n n (v0.1) ((1:Int)) ((yN (Ty.int IntKind.i64) Ty.str v0.1 (1:Int)).getD []) ((yN (Ty.int IntKind.i64) Ty.str v0.1 (1:Int)).isSome) ([]))))
def yQP (l:List Cmd):Option (List (List UInt8)×Int×Int×Unit) := yPV 1000 l
abbrev z0G_e:Entry := { f := 29,args := .pair t78 .unit,rS := .pair t51 (.pair t3 (.pair t28 .unit)),m := fun x=>yQP x.1 }
theorem yQb:FnOK Tryz.prog z0G_e := fF (mu := [7]) 1000 Tryz.f29 (fun n x=>yPV n x.1) [[5,7,8,9,10]] (yB yKq eNil)
def yE3 (n:Nat) (r2:List (Int×List UInt8)→Int→Int→List Int→Option (List Int×Int×Unit)) (ae:List (Int×List UInt8)) (am:Int) (aw:Int) (aN:List Int):Option (List Int×Int×Unit) :=
  (bif decide (aw < am) then (bif !(yN (Ty.int IntKind.i64) Ty.str ae (IntKind.i64.wrap (aw + 1))).isSome then (bif decide (aN.length + (1:Nat)≤memMax) then r2 ae am (IntKind.i64.wrap (aw + 1)) (aN ++ [IntKind.i64.wrap (aw + 1)]) else none) else r2 ae am (IntKind.i64.wrap (aw + 1)) aN) else some (aN,(0:Int),()))
def y74 (n:Nat)  (k:Nat) (ae:List (Int×List UInt8)) (am:Int) (aw:Int) (aN:List Int):Option (List Int×Int×Unit) :=
  iter (fun r y=>yE3 n (fun ae am aw aN=>r ((ae,(am,(aw,()))),((aN,()),()))) y.1.1 y.1.2.1 y.1.2.2.1 y.2.1.1) k ((ae,(am,(aw,()))),((aN,()),()))
def yRI (n:Nat) (l:List Cmd) (last:Int):Option (List Int×Int×Unit) :=
  (Option.bind (yKi l) fun (v0:List (Int×List UInt8)×Int×Unit)=>(Option.bind (y1R [v0.2.1,(z0b last (0:Int) (256:Int)).1]) fun (v1:Int×Unit)=>(bif v1.1 != 0 then some ([],v1.1,()) else (y74 n n (v0.1) (last) ((0:Int)) ([])))))
def yL5 (ae:List (Int×List UInt8)) (am:Int) (aw:Int) (aN:List Int):Option ((List Int×Int×Unit)⊕(List Int)) :=
  (bif !(yN (Ty.int IntKind.i64) Ty.str ae (IntKind.i64.wrap (aw + 1))).isSome then (bif decide (aN.length + (1:Nat)≤memMax) then (some (Sum.inr (aN ++ [IntKind.i64.wrap (aw + 1)]))) else none) else (some (Sum.inr (aN))))
def yLE (ae:List (Int×List UInt8)) (am:Int) (aN:List Int):Option (List Int×Int×Unit) :=
  (some ((aN,(0:Int),())))
theorem yCt (n:Nat) (hn:big≤n)  (ae:List (Int×List UInt8)) (am:Int) (aN:List Int) (hx:(am)≤9223372036854775807):LeF some (y21 (fun ak af=>yL5 ae am ak af) (fun af=>yLE ae am af) ((am) - 0).toNat 0 aN) (y74 n n ae am 0 aN) := by
  refine y72 (f := some) (W := fun aJ ak af=>y74 n aJ ae am ak af) (fun aJ ak af=>?_) hx aN n 0 (by decide) (by unfold big at hn; omega)
  show LeF _ _ (yE3 n (y74 n aJ) ae am ak af)
  exact y4 (y4 (y4 (y6 rfl) yL) (y6 rfl)) (y0T (y6 rfl))
def yOD (l:List Cmd) (last:Int):Option (List Int×Int×Unit) :=
  (Option.bind (yKi l) fun (v0:List (Int×List UInt8)×Int×Unit)=>(Option.bind (y1R [v0.2.1,(z0b last (0:Int) (256:Int)).1]) fun (v1:Int×Unit)=>(bif v1.1 != 0 then (some (([],v1.1,()))) else (bif decide ((last)≤9223372036854775807) then y21 (fun ak af=>yL5 (v0.1) (last) ak af) (fun af=>yLE (v0.1) (last) af) ((last) - 0).toNat 0 ([]) else none))))
abbrev z0t_e:Entry := { f := 30,args := .pair t78 (.pair t3 .unit),rS := .pair t45 (.pair t28 .unit),m := fun x=>yOD x.1 x.2.1 }
theorem yOx:FnOK Tryz.prog z0t_e := fB (mu := [8]) Tryz.f30 (fun n x=>yRI n x.1 x.2.1) [[6,8,25,26]] (yB yKq (yB yBa (yB y2x eNil))) fun n hn x=>(yA fun v0=>(yA fun v1=>(y4 (y6 rfl) (yZ fun hx=>by apply yCt n hn; exact hx))))
def yJ7 (n:Nat) (r3:List Int→List Int→Int→Int→Option (Int×Int×Unit)) (bg:List Int) (b9:List Int) (ba:Int) (b5:Int):Option (Int×Int×Unit) :=
  (bif decide (b5 < ba) then (Option.bind (idx b9 b5) fun (v4:Int)=>(Option.bind (yP6 bg fun (x:Int×Unit)=>yP9 x.1 v4) fun (v5:List Int×Unit)=>(bif decide (IntKind.i64.wrap ((2:Int) * (↑v5.1.length:Int)) > (↑bg.length:Int)) then some (v4,(0:Int),()) else r3 bg b9 ba (IntKind.i64.wrap (b5 + 1))))) else some ((0:Int),(7:Int),()))
def yJD (n:Nat)  (k:Nat) (bg:List Int) (b9:List Int) (ba:Int) (b5:Int):Option (Int×Int×Unit) :=
  iter (fun r y=>yJ7 n (fun bg b9 ba b5=>r ((bg,(b9,(ba,(b5,())))),((),()))) y.1.1 y.1.2.1 y.1.2.2.1 y.1.2.2.2.1) k ((bg,(b9,(ba,(b5,())))),((),()))
def yO0 (n:Nat) (l:List Int):Option (Int×Int×Unit) :=
  (Option.bind (zJ_M l fun (x:Int×Unit)=>yOM x.1) fun (v0:List Int×Unit)=>(Option.bind (y1R v0.1) fun (v1:Int×Unit)=>(Option.bind (y1R [(z0x (decide ((↑l.length:Int) > 9)) (5:Int)).1,v1.1]) fun (v2:Int×Unit)=>(bif v2.1 != 0 then some ((0:Int),v2.1,()) else (yJD n n (l) (l) ((↑l.length:Int)) ((0:Int)))))))
def yNR (l:List Int):Option (Int×Int×Unit) := yO0 1000 l
abbrev z0v_e:Entry := { f := 31,args := .pair t45 .unit,rS := .pair t3 (.pair t28 .unit),m := fun x=>yNR x.1 }
theorem yNp:FnOK Tryz.prog z0v_e := fF 1000 Tryz.f31 (fun n x=>yO0 n x.1) [[0,22,23,24]] (yB yQ7 (yB y4g (yB yR9 (yB y2x (yB yOO (yB yPB eNil))))))
def zQ_m (n:Nat) (t:Tra) (states:Int):Option (Int×Unit) :=
  (bif decide ((if t.2.2.1 < t.1 then t.2.2.1 else t.1) < 0) then (Option.bind (y8q t.2.1) fun (v3:Int×Unit)=>some ((z0x Bool.true (10:Int)).1,())) else (Option.bind (y8q t.2.1) fun (v4:Int×Unit)=>(Option.bind (y1R [(z0x (decide ((if t.2.2.1 > t.1 then t.2.2.1 else t.1) ≥ states)) (10:Int)).1,v4.1,(zV t.2.2.2.1).1,(zV t.2.2.2.2.1).1,(z0x (y0P IntKind.i64 Go.BinOp.andNot t.2.2.2.2.1 t.2.2.2.1 != 0) (1:Int)).1]) fun (v5:Int×Unit)=>some (v5.1,()))))
def zQ_M (t:Tra) (states:Int):Option (Int×Unit) := zQ_m 0 t states
abbrev zQ_e:Entry := { f := 83,args := .pair t65 (.pair t3 .unit),rS := .pair t28 .unit,m := fun x=>zQ_M x.1 x.2.1 }
theorem yRD:FnOK Tryz.prog zQ_e := fF 0 Tryz.f83 (fun n x=>zQ_m n x.1 x.2.1) [] (yB y4g (yB yFN (yB yPO (yB y2x eNil))))
def zq_m (n:Nat) (p0:List UInt8×Int×Unit):Option (Int×Unit) :=
  (Option.bind (y8q p0.1) fun (v0:Int×Unit)=>(Option.bind (y1R [v0.1,(zV p0.2.1).1]) fun (v1:Int×Unit)=>some (v1.1,())))
def zq_M (p0:List UInt8×Int×Unit):Option (Int×Unit) := zq_m 0 p0
abbrev zq_e:Entry := { f := 61,args := .pair t56 .unit,rS := .pair t28 .unit,m := fun x=>zq_M x.1 }
theorem yQ0:FnOK Tryz.prog zq_e := fF 0 Tryz.f61 (fun n x=>zq_m n x.1) [] (yB yFN (yB yPO (yB y2x eNil)))
def yMF (n:Nat) (r0:Int→Cha→List UInt8×Int×Unit→Int→Bool→Bool→Int→Option ((Int×Bool×Bool×Unit)×Unit)) (aL:Int) (be:Cha) (bc:List UInt8×Int×Unit) (aF:Int) (b6:Bool) (b7:Bool) (aR:Int):Option ((Int×Bool×Bool×Unit)×Unit) :=
  (bif aR != (-1:Int) then (Option.bind (zI_M be.2.1 fun (x:Tra×Unit)=>zf_M x.1 aR bc) fun (v1:List Tra×Unit)=>(bif (↑v1.1.length:Int)==0 then (Option.bind (idx be.1 aR) fun (v4:Sta)=>r0 aL be bc aF b6 b7 v4.2.1) else (bif (↑v1.1.length:Int)==1 then (Option.bind (idx v1.1 (0:Int)) fun (v2:Tra)=>(Option.bind (zo_M be v2.2.2.1) fun (v3:Int×Unit)=>some ((v3.1,Bool.false,Bool.false,()),()))) else some ((aL,Bool.false,Bool.true,()),())))) else some ((aL,Bool.true,Bool.false,()),()))
def yMJ (n:Nat)  (k:Nat) (aL:Int) (be:Cha) (bc:List UInt8×Int×Unit) (aF:Int) (b6:Bool) (b7:Bool) (aR:Int):Option ((Int×Bool×Bool×Unit)×Unit) :=
  iter (fun r y=>yMF n (fun aL be bc aF b6 b7 aR=>r ((aL,(be,(bc,()))),(((aF,(b6,(b7,()))),((aR,()),())),()))) y.1.1 y.1.2.1 y.1.2.2.1 y.2.1.1.1 y.2.1.1.2.1 y.2.1.1.2.2.1 y.2.1.2.1.1) k ((aL,(be,(bc,()))),(((aF,(b6,(b7,()))),((aR,()),())),()))
def zx_m (n:Nat) (c:Cha) (leaf:Int) (p2:List UInt8×Int×Unit):Option ((Int×Bool×Bool×Unit)×Unit) :=
  (yMJ n n (leaf) (c) (p2) ((0:Int)) (Bool.false) (Bool.false) (leaf))
def zx_M (c:Cha) (leaf:Int) (p2:List UInt8×Int×Unit):Option ((Int×Bool×Bool×Unit)×Unit) := zx_m 1000 c leaf p2
abbrev zx_e:Entry := { f := 62,args := .pair t34 (.pair t3 (.pair t56 .unit)),rS := .pair t135 .unit,m := fun x=>zx_M x.1 x.2.1 x.2.2.1 }
theorem yKl:FnOK Tryz.prog zx_e := fF 1000 Tryz.f62 (fun n x=>zx_m n x.1 x.2.1 x.2.2.1) [[1,3,5,6,7]] (yB yQv (yB yRZ (yB yHZ eNil)))
def zR_m (n:Nat) (c:Cha) (g:Goa) (ticks:Int):Option (Int×Unit) :=
  (Option.bind (zT_M c g.1) fun (v0:Int×Unit)=>(Option.bind (zT_M c g.2.1) fun (v1:Int×Unit)=>(Option.bind (y1R [v0.1,v1.1,(z0b g.2.2.1 (0:Int) ticks).1,(z0b g.2.2.2.1 (0:Int) ticks).1]) fun (v2:Int×Unit)=>some (v2.1,()))))
def zR_M (c:Cha) (g:Goa) (ticks:Int):Option (Int×Unit) := zR_m 0 c g ticks
abbrev zR_e:Entry := { f := 78,args := .pair t34 (.pair t85 (.pair t3 .unit)),rS := .pair t28 .unit,m := fun x=>zR_M x.1 x.2.1 x.2.2.1 }
theorem yRA:FnOK Tryz.prog zR_e := fF 0 Tryz.f78 (fun n x=>zR_m n x.1 x.2.1 x.2.2.1) [] (yB yOK (yB yBa (yB y2x eNil)))
end
end Go.Tw
end
section
set_option maxRecDepth 1000000
namespace Go.Tw
open Go.Vx Go.Vx.B Go.Proofs
noncomputable section
def zg_m (n:Nat) (t:Tra) (p1:Cha):Option (Int×Unit) :=
  (Option.bind (zQ_M t (↑p1.1.length:Int)) fun (v0:Int×Unit)=>some (v0.1,()))
def zg_M (t:Tra) (p1:Cha):Option (Int×Unit) := zg_m 0 t p1
abbrev zg_e:Entry := { f := 82,args := .pair t65 (.pair (.ref t34) .unit),rS := .pair t28 .unit,m := fun x=>zg_M x.1 x.2.1 }
theorem yRt:FnOK Tryz.prog zg_e := fF 0 Tryz.f82 (fun n x=>zg_m n x.1 x.2.1) [] (yB yRD eNil)
def zr_m (n:Nat) (l:List (List UInt8×Int×Unit)):Option (Int×Unit) :=
  (Option.bind (z8_M l fun (x:(List UInt8×Int×Unit)×Unit)=>zq_M x.1) fun (v0:List Int×Unit)=>(Option.bind (y1R v0.1) fun (v1:Int×Unit)=>(Option.bind (y1R [(z0x (decide ((↑l.length:Int) > 64)) (5:Int)).1,v1.1]) fun (v2:Int×Unit)=>some (v2.1,()))))
def zr_M (l:List (List UInt8×Int×Unit)):Option (Int×Unit) := zr_m 0 l
abbrev zr_e:Entry := { f := 58,args := .pair t57 .unit,rS := .pair t28 .unit,m := fun x=>zr_M x.1 }
theorem yP7:FnOK Tryz.prog zr_e := fF 0 Tryz.f58 (fun n x=>zr_m n x.1) [] (yB y4g (yB yS0 (yB yQ0 (yB y2x eNil))))
def yME (n:Nat) (r2:Cha→Fai→Int→List (List UInt8×Int×Unit)→Int→Int→List UInt8→(Fai×Unit→Option (Fai×Unit))→(Fai×Int×(List UInt8×Int×Unit)×Unit→Option ((List UInt8×Int×Unit)×Bool×Unit))→List Int→Option (List Int×Int×Unit)) (bh:Cha) (bi:Fai) (aG:Int) (b8:List (List UInt8×Int×Unit)) (am:Int) (aw:Int) (aW:List UInt8) (aX:Fai×Unit→Option (Fai×Unit)) (aS:Fai×Int×(List UInt8×Int×Unit)×Unit→Option ((List UInt8×Int×Unit)×Bool×Unit)) (aU:List Int):Option (List Int×Int×Unit) :=
  (bif decide (aw < am) then (Option.bind (idx b8 aw) fun (v3:List UInt8×Int×Unit)=>(Option.bind (aS (bi,aw,(v3.1,v3.2.1,()),())) fun (v4:(List UInt8×Int×Unit)×Bool×Unit)=>(bif v4.2.1 then (Option.bind (zx_M bh aG (v4.1.1,v4.1.2.1,())) fun (v5:(Int×Bool×Bool×Unit)×Unit)=>(bif v5.1.2.2.1 then some ([],(30:Int),()) else (bif decide (aU.length + (1:Nat)≤memMax) then r2 bh bi v5.1.1 b8 am (IntKind.i64.wrap (aw + 1)) aW aX aS (aU ++ [v5.1.1]) else none))) else (bif decide (aU.length + (1:Nat)≤memMax) then r2 bh bi aG b8 am (IntKind.i64.wrap (aw + 1)) aW aX aS (aU ++ [aG]) else none)))) else some (aU,(0:Int),()))
def yLd (n:Nat)  (k:Nat) (bh:Cha) (bi:Fai) (aG:Int) (b8:List (List UInt8×Int×Unit)) (am:Int) (aw:Int) (aW:List UInt8) (aX:Fai×Unit→Option (Fai×Unit)) (aS:Fai×Int×(List UInt8×Int×Unit)×Unit→Option ((List UInt8×Int×Unit)×Bool×Unit)) (aU:List Int):Option (List Int×Int×Unit) :=
  iter (fun r y=>yME n (fun bh bi aG b8 am aw aW aX aS aU=>r ((bh,(bi,(aG,(b8,(am,(aw,())))))),(((aW,(aX,(aS,()))),(aU,())),()))) y.1.1 y.1.2.1 y.1.2.2.1 y.1.2.2.2.1 y.1.2.2.2.2.1 y.1.2.2.2.2.2.1 y.2.1.1.1 y.2.1.1.2.1 y.2.1.1.2.2.1 y.2.1.2.1) k ((bh,(bi,(aG,(b8,(am,(aw,())))))),(((aW,(aX,(aS,()))),(aU,())),()))
def zw_m (n:Nat) (c:Cha) (l:List (List UInt8×Int×Unit)) (f:Fai):Option (List Int×Int×Unit) :=
  (Option.bind (zi_M f) fun (v0:(List UInt8×(Fai×Unit→Option (Fai×Unit))×(Fai×Int×(List UInt8×Int×Unit)×Unit→Option ((List UInt8×Int×Unit)×Bool×Unit))×Unit)×Bool×Unit)=>(Option.bind (zo_M c (0:Int)) fun (v1:Int×Unit)=>(yLd n n (c) (f) (v1.1) (l) ((↑l.length:Int)) ((0:Int)) (v0.1.1) (v0.1.2.1) (v0.1.2.2.1) ([]))))
def zw_M (c:Cha) (l:List (List UInt8×Int×Unit)) (f:Fai):Option (List Int×Int×Unit) := zw_m 1000 c l f
abbrev zw_e:Entry := { f := 59,args := .pair t34 (.pair t57 (.pair t131 .unit)),rS := .pair t45 (.pair t28 .unit),m := fun x=>zw_M x.1 x.2.1 x.2.2.1 }
theorem yPv:FnOK Tryz.prog zw_e := fF (mu := [11]) 1000 Tryz.f59 (fun n x=>zw_m n x.1 x.2.1 x.2.2.1) [[3,5,8,10,11,24,25,26]] (yB yRm (yB yHZ (yB yKl eNil)))
end
end Go.Tw
end
