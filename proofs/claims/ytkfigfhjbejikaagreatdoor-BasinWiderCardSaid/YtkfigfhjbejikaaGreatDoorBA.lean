import Derived.Test.YtkfigfhjbejikaaGreatDoorBT
import Derived.Test.YtkfigfhjbejikaaGreatDoorVF
import Derived.Test.YtkfigfhjbejikaaGreatDoorLP
import Derived.Test.YtkfigfhjbejikaaGreatDoorProg
import Derived.KernelRfl
set_option linter.all false
section
set_option maxRecDepth 1000000
namespace Go.Tw
open Go.Vx Go.Vx.B Go.Proofs
noncomputable section
abbrev Nod := List UInt8×Int×Int×Unit
abbrev Lnk := List UInt8×Int×Int×Int×Int×Unit
abbrev Bas := List Nod×List Lnk×Unit
abbrev Cnd := Int×Bool×List Int×Unit
abbrev Rng := (Int×Int×Unit)×Bool×List (Int×Int×Unit)×Unit
abbrev Psg := Cnd×List Int×Option (List Int)×Unit
instance theGT:GT := ⟨[(7,t315,[.int .u8 0,.int .u8 1,.int .u8 28,.int .u8 2,.int .u8 29,.int .u8 14,.int .u8 24,.int .u8 3,.int .u8 30,.int .u8 22,.int .u8 20,.int .u8 15,.int .u8 25,.int .u8 17,.int .u8 4,.int .u8 8,.int .u8 31,.int .u8 27,.int .u8 13,.int .u8 23,.int .u8 21,.int .u8 19,.int .u8 16,.int .u8 7,.int .u8 26,.int .u8 12,.int .u8 18,.int .u8 6,.int .u8 11,.int .u8 5,.int .u8 10,.int .u8 9]),
  (8,t316,[.int .u8 0,.int .u8 1,.int .u8 56,.int .u8 2,.int .u8 57,.int .u8 49,.int .u8 28,.int .u8 3,.int .u8 61,.int .u8 58,.int .u8 42,.int .u8 50,.int .u8 38,.int .u8 29,.int .u8 17,.int .u8 4,.int .u8 62,.int .u8 47,.int .u8 59,.int .u8 36,.int .u8 45,.int .u8 43,.int .u8 51,.int .u8 22,.int .u8 53,.int .u8 39,.int .u8 33,.int .u8 30,.int .u8 24,.int .u8 18,.int .u8 12,.int .u8 5,.int .u8 63,.int .u8 55,.int .u8 48,.int .u8 27,.int .u8 60,.int .u8 41,.int .u8 37,.int .u8 16,.int .u8 46,.int .u8 35,.int .u8 44,.int .u8 21,.int .u8 52,.int .u8 32,.int .u8 23,.int .u8 11,.int .u8 54,.int .u8 26,.int .u8 40,.int .u8 15,.int .u8 34,.int .u8 20,.int .u8 31,.int .u8 10,.int .u8 25,.int .u8 14,.int .u8 19,.int .u8 9,.int .u8 13,.int .u8 8,.int .u8 7,.int .u8 6]),
  (2,t290,[.int .u64 1,.int .u64 10,.int .u64 100,.int .u64 1000,.int .u64 10000,.int .u64 100000,.int .u64 1000000,.int .u64 10000000,.int .u64 100000000,.int .u64 1000000000,.int .u64 10000000000,.int .u64 100000000000,.int .u64 1000000000000,.int .u64 10000000000000,.int .u64 100000000000000,.int .u64 1000000000000000,.int .u64 10000000000000000,.int .u64 100000000000000000,.int .u64 1000000000000000000,.int .u64 10000000000000000000])]⟩
theorem yH:Tryz.prog.follows .mixedOrders = true := by kernel_rfl
theorem yS:yu Tryz.prog T := by unfold yu; kernel_rfl
theorem eNil {P:Program} : ∀ e ∈ ([] : List Entry),FnOK P e := fun e h=>by cases h
theorem yE {P:Program} {e:Entry} {l:List Entry} (h:FnOK P e) (hl : ∀ e ∈ l,FnOK P e) : ∀ f ∈ e :: l,FnOK P f := fun f hf=>by
  rcases List.mem_cons.1 hf with rfl | hf
  · exact h
  · exact hl f hf
theorem iNil {P:Program} : ∀ e ∈ ([] : List Inl),y3Z P e := fun e h=>by cases h
theorem y6p {P:Program} {e:Inl} {l:List Inl} (h:y3Z P e) (hl : ∀ e ∈ l,y3Z P e) : ∀ f ∈ e :: l,y3Z P f := fun f hf=>by
  rcases List.mem_cons.1 hf with rfl | hf
  · exact h
  · exact hl f hf
theorem yQ {α:Type} (c:Bool) (x y:α):(bif c then some x else some y) = some (bif c then x else y) := by cases c <;> rfl
end
end Go.Tw
end
section
set_option maxRecDepth 1000000
namespace Go.Tw
open Go.Vx Go.Vx.B Go.Proofs
noncomputable section
abbrev yNf:Ty := .pair t4 (.pair t35 .unit)
abbrev yQi:Ty := .pair t35 .unit
def yR9:G := { T := T,E := [],muts := [],fz := [] }
def yVX:List (List Nat) := []
def yLu (n:Nat):Ann := { keep := yVX,fuel := n,inl := [],deep := 0 }
def yJy (n:Nat) (holds:Bool) (e:Int):Option (Int×Unit) :=
  (bif holds then some (e,()) else some ((0:Int),()))
theorem yTF (n:Nat) (x:yNf.den):runF yR9 (yLu n) Tryz.f89 yNf yQi x = yJy n x.1 x.2.1 := by kernel_rfl
def z0e (holds:Bool) (e:Int):(Int×Unit) :=
  (bif holds then (e,()) else ((0:Int),()))
abbrev yPO (holds:Bool) (e:Int):Option (Int×Unit) := some (z0e holds e)
theorem yOH (holds:Bool) (e:Int) (y:Int×Unit) (h:yPO holds e = some y) : ∃ n,yJy n holds e = some y :=
  ⟨0,by rw [← h]; show yJy 0 holds e = some (z0e holds e); unfold yJy z0e; first | rfl | (simp only [yQ]; done) | (simp only [yQ]; rfl)⟩
def z0e_e:Entry := { f := 89,args := yNf,ress := yQi,m := fun x=>yPO x.1 x.2.1 }
theorem y47:FnOK Tryz.prog z0e_e := yT (g := yR9) (fn := Tryz.f89) yH yS eNil (by kernel_rfl) (by kernel_rfl) (by kernel_rfl) (fun x y h=>let ⟨n,hn⟩ := yOH x.1 x.2.1 y h; ⟨yLu n,iNil,(yTF n x).trans hn⟩)
abbrev yNN:Ty := .pair t174 .unit
abbrev yRS:Ty := .pair t35 .unit
def yPo:G := { T := T,E := [],muts := [],fz := [] }
def yV1:List (List Nat) := [[5,6,7]]
def yM4 (n:Nat):Ann := { keep := yV1,fuel := n,inl := [],deep := 0 }
def yFH (n:Nat) (r0:List Int→Int→Int→Option (Int×Unit)) (ax:List Int) (aN:Int) (aK:Int):Option (Int×Unit) :=
  (bif decide (aK < aN) then (Option.bind (idx ax aK) fun (v1:Int)=>(bif v1 != 0 then some (v1,()) else r0 ax aN (IntKind.i64.wrap (aK + 1)))) else some ((0:Int),()))
def y7B (n:Nat)  (k:Nat) (ax:List Int) (aN:Int) (aK:Int):Option (Int×Unit) :=
  iter (fun r y=>yFH n (fun ax aN aK=>r ((ax,(aN,(aK,()))),((),()))) y.1.1 y.1.2.1 y.1.2.2.1) k ((ax,(aN,(aK,()))),((),()))
def yKN (n:Nat) (l:List Int):Option (Int×Unit) :=
  (y7B n n (l) ((↑l.length:Int)) ((0:Int)))
theorem yRJ (n:Nat) (x:yNN.den):runF yPo (yM4 n) Tryz.f87 yNN yRS x = yKN n x.1 := by kernel_rfl
def yEC (ax:List Int) (aK:Int) (v1:Int):Option ((Int×Unit)⊕Unit) :=
  (bif v1 != 0 then (some (Sum.inl ((v1,())))) else (some (Sum.inr ())))
def yFG (ax:List Int):Option (Int×Unit) :=
  (some (((0:Int),())))
theorem yDO (n:Nat) (hn:big≤n)  (ax:List Int) (hx:List.length (ax) < lenMax):LeF some (yK (fun i__ e__ s__=>yEC ax i__ e__) (fun s__=>yFG ax) 0 (ax) ()) (y7B n n ax (List.length (ax):Int) 0) := by
  refine yN (f := some) (W := fun k__ i__ s__=>y7B n k__ ax (List.length (ax):Int) i__) (body := (fun i__ e__ s__=>yEC ax i__ e__)) (fin := (fun s__=>yFG ax)) (fun k__ i__ s__=>?_) hx () n (by unfold big at hn; unfold lenMax at hx; omega)
  show LeF _ _ (yFH n (y7B n k__) ax (List.length (ax):Int) i__)
  exact y5 (y9 fun v1=>(y5 (y7 rfl) (y7 rfl))) (y02 (y7 rfl))
def y0c (l:List Int):Option (Int×Unit) :=
  (bif decide (List.length (l) < lenMax) then yK (fun i__ e__ s__=>yEC (l) i__ e__) (fun s__=>yFG (l)) 0 (l) () else none)
theorem yNQ (l:List Int) (y:Int×Unit) (h:y0c l = some y) : ∃ n,yKN n l = some y :=
  ⟨big,LeF.top (show LeF some (y0c l) (yKN big l) from (fun (n:Nat) (hn:big≤n)=>show LeF some (y0c l) (yKN n l) from (yL fun hx=>by apply yDO n hn; exact hx)) big (Nat.le_refl _)) h⟩
def z0Q_e:Entry := { f := 87,args := yNN,ress := yRS,m := fun x=>y0c x.1 }
theorem y3u:FnOK Tryz.prog z0Q_e := yT (g := yPo) (fn := Tryz.f87) yH yS eNil (by kernel_rfl) (by kernel_rfl) (by kernel_rfl) (fun x y h=>let ⟨n,hn⟩ := yNQ x.1 y h; ⟨yM4 n,iNil,(yRJ n x).trans hn⟩)
abbrev zl_a:Ty := .pair t159 (.pair t3 .unit)
abbrev zl_r:Ty := .pair t3 .unit
def zl_g:G := { T := T,E := [],muts := [],fz := [] }
def zl_k:List (List Nat) := []
def yQk (n:Nat):Ann := { keep := zl_k,fuel := n,inl := [],deep := 0 }
def zl_m (n:Nat) (n1:Nod) (volume:Int):Option (Int×Unit) :=
  (bif n1.2.1==0 then none else some (IntKind.i64.wrap (volume.tdiv n1.2.1),()))
theorem yW4 (n:Nat) (x:zl_a.den):runF zl_g (yQk n) Tryz.f91 zl_a zl_r x = zl_m n x.1 x.2.1 := by kernel_rfl
def zl_M (n1:Nod) (volume:Int):Option (Int×Unit) := zl_m 0 n1 volume
theorem yPP (n1:Nod) (volume:Int) (y:Int×Unit) (h:zl_M n1 volume = some y) : ∃ n,zl_m n n1 volume = some y := ⟨0,h⟩
def zl_e:Entry := { f := 91,args := zl_a,ress := zl_r,m := fun x=>zl_M x.1 x.2.1 }
theorem yTk:FnOK Tryz.prog zl_e := yT (g := zl_g) (fn := Tryz.f91) yH yS eNil (by kernel_rfl) (by kernel_rfl) (by kernel_rfl) (fun x y h=>let ⟨n,hn⟩ := yPP x.1 x.2.1 y h; ⟨yQk n,iNil,(yW4 n x).trans hn⟩)
abbrev yNE:Ty := .pair t3 (.pair t3 .unit)
abbrev yTy:Ty := .pair t3 .unit
def yQz:G := { T := T,E := [],muts := [],fz := [] }
def yUm:List (List Nat) := []
def yLv (n:Nat):Ann := { keep := yUm,fuel := n,inl := [],deep := 0 }
def yOB (n:Nat) (a:Int) (b:Int):Option (Int×Unit) :=
  (bif b==0 then none else (bif decide (IntKind.i64.wrap (IntKind.i64.wrap (a.tdiv b) * b) > a) then some (IntKind.i64.wrap (IntKind.i64.wrap (a.tdiv b) - (1:Int)),()) else some (IntKind.i64.wrap (a.tdiv b),())))
theorem yTQ (n:Nat) (x:yNE.den):runF yQz (yLv n) Tryz.f199 yNE yTy x = yOB n x.1 x.2.1 := by kernel_rfl
def yHa (a:Int) (b:Int):Option (Int×Unit) := yOB 0 a b
theorem yMk (a:Int) (b:Int) (y:Int×Unit) (h:yHa a b = some y) : ∃ n,yOB n a b = some y := ⟨0,h⟩
def z0R_e:Entry := { f := 199,args := yNE,ress := yTy,m := fun x=>yHa x.1 x.2.1 }
theorem yMd:FnOK Tryz.prog z0R_e := yT (g := yQz) (fn := Tryz.f199) yH yS eNil (by kernel_rfl) (by kernel_rfl) (by kernel_rfl) (fun x y h=>let ⟨n,hn⟩ := yMk x.1 x.2.1 y h; ⟨yLv n,iNil,(yTQ n x).trans hn⟩)
def ySp (n:Nat) (a:Int) (b:Int):Option (Int×Unit) :=
  (bif b==0 then none else (bif decide (IntKind.i64.wrap (IntKind.i64.wrap (a.tdiv b) * b) > a) then some (IntKind.i64.wrap (IntKind.i64.wrap (a.tdiv b) - (1:Int)),()) else some (IntKind.i64.wrap (a.tdiv b),())))
def yE2 (a:Int) (b:Int):Option (Int×Unit) := ySp 0 a b
abbrev zo_a:Ty := .pair t3 (.pair t3 (.pair t3 .unit))
abbrev zo_r:Ty := .pair t3 .unit
def zo_g:G := { T := T,E := [],muts := [],fz := [] }
def zo_k:List (List Nat) := []
def yQv (n:Nat):Ann := { keep := zo_k,fuel := n,inl := [],deep := 0 }
def zo_m (n:Nat) (n1:Int) (low:Int) (high:Int):Option (Int×Unit) :=
  (bif decide (n1 < low) then some ((3:Int),()) else (bif decide (n1 > high) then some ((3:Int),()) else some ((0:Int),())))
theorem yUO (n:Nat) (x:zo_a.den):runF zo_g (yQv n) Tryz.f93 zo_a zo_r x = zo_m n x.1 x.2.1 x.2.2.1 := by kernel_rfl
def zo (n1:Int) (low:Int) (high:Int):(Int×Unit) :=
  (bif decide (n1 < low) then ((3:Int),()) else (bif decide (n1 > high) then ((3:Int),()) else ((0:Int),())))
abbrev zo_M (n1:Int) (low:Int) (high:Int):Option (Int×Unit) := some (zo n1 low high)
theorem yQr (n1:Int) (low:Int) (high:Int) (y:Int×Unit) (h:zo_M n1 low high = some y) : ∃ n,zo_m n n1 low high = some y :=
  ⟨0,by rw [← h]; show zo_m 0 n1 low high = some (zo n1 low high); unfold zo_m zo; first | rfl | (simp only [yQ]; done) | (simp only [yQ]; rfl)⟩
def zo_e:Entry := { f := 93,args := zo_a,ress := zo_r,m := fun x=>zo_M x.1 x.2.1 x.2.2.1 }
theorem yNa:FnOK Tryz.prog zo_e := yT (g := zo_g) (fn := Tryz.f93) yH yS eNil (by kernel_rfl) (by kernel_rfl) (by kernel_rfl) (fun x y h=>let ⟨n,hn⟩ := yQr x.1 x.2.1 x.2.2.1 y h; ⟨yQv n,iNil,(yUO n x).trans hn⟩)
abbrev yOu:Ty := .pair t26 .unit
abbrev yS0:Ty := .pair t3 .unit
def yPE:G := { T := T,E := [],muts := [],fz := [] }
def yUl:List (List Nat) := [[0,3]]
def yMA (n:Nat):Ann := { keep := yUl,fuel := n,inl := [],deep := 0 }
def yEl (n:Nat) (r0:List Int→Int→Option (Int×Unit)) (aj:List Int) (aH:Int):Option (Int×Unit) :=
  (bif decide (aH < (↑aj.length:Int)) then (Option.bind (idx aj aH) fun (v1:Int)=>(bif v1 != 0 then (Option.bind (idx aj aH) fun (v2:Int)=>some (v2,())) else r0 aj (IntKind.i64.wrap (aH + 1)))) else some ((0:Int),()))
def y7P (n:Nat)  (k:Nat) (aj:List Int) (aH:Int):Option (Int×Unit) :=
  iter (fun r y=>yEl n (fun aj aH=>r ((aj,(aH,())),((),()))) y.1.1 y.1.2.1) k ((aj,(aH,())),((),()))
def yKV (n:Nat) (l:List Int):Option (Int×Unit) :=
  (y7P n n (l) ((0:Int)))
theorem yRn (n:Nat) (x:yOu.den):runF yPE (yMA n) Tryz.f121 yOu yS0 x = yKV n x.1 := by kernel_rfl
def yBp (aj:List Int) (aH:Int) (v1:Int):Option ((Int×Unit)⊕Unit) :=
  (bif v1 != 0 then (Option.bind (idx aj aH) fun (v2:Int)=>(some (Sum.inl ((v2,()))))) else (some (Sum.inr ())))
def yC2 (aj:List Int):Option (Int×Unit) :=
  (some (((0:Int),())))
theorem yDB (n:Nat) (hn:big≤n)  (aj:List Int) (hx:List.length (aj) < lenMax):LeF some (yK (fun i__ e__ s__=>yBp aj i__ e__) (fun s__=>yC2 aj) 0 (aj) ()) (y7P n n aj 0) := by
  refine yN (f := some) (W := fun k__ i__ s__=>y7P n k__ aj i__) (body := (fun i__ e__ s__=>yBp aj i__ e__)) (fin := (fun s__=>yC2 aj)) (fun k__ i__ s__=>?_) hx () n (by unfold big at hn; unfold lenMax at hx; omega)
  show LeF _ _ (yEl n (y7P n k__) aj i__)
  exact y5 (y9 fun v1=>(y5 (y9 fun v2=>(y7 rfl)) (y7 rfl))) (y02 (y7 rfl))
def y5o (l:List Int):Option (Int×Unit) :=
  (bif decide (List.length (l) < lenMax) then yK (fun i__ e__ s__=>yBp (l) i__ e__) (fun s__=>yC2 (l)) 0 (l) () else none)
theorem yNr (l:List Int) (y:Int×Unit) (h:y5o l = some y) : ∃ n,yKV n l = some y :=
  ⟨big,LeF.top (show LeF some (y5o l) (yKV big l) from (fun (n:Nat) (hn:big≤n)=>show LeF some (y5o l) (yKV n l) from (yL fun hx=>by apply yDB n hn; exact hx)) big (Nat.le_refl _)) h⟩
def z0V_e:Entry := { f := 121,args := yOu,ress := yS0,m := fun x=>y5o x.1 }
theorem yFb:FnOK Tryz.prog z0V_e := yT (g := yPE) (fn := Tryz.f121) yH yS eNil (by kernel_rfl) (by kernel_rfl) (by kernel_rfl) (fun x y h=>let ⟨n,hn⟩ := yNr x.1 y h; ⟨yMA n,iNil,(yRn n x).trans hn⟩)
abbrev yOS:Ty := .pair t9 .unit
abbrev yRy:Ty := .pair t4 (.pair t4 .unit)
def ySV:G := { T := T,E := [],muts := [],fz := [] }
def yVk:List (List Nat) := []
def yM9 (n:Nat):Ann := { keep := yVk,fuel := n,inl := [],deep := 0 }
def yLQ (n:Nat) (kind:List UInt8):Option (Bool×Bool×Unit) :=
  (bif kind==[(98:UInt8),97,114,114,105,101,114] then some (Bool.true,kind==[(111:UInt8),117,116,102,97,108,108],()) else some (kind==[(108:UInt8),101,97,107],kind==[(111:UInt8),117,116,102,97,108,108],()))
theorem yTx (n:Nat) (x:yOS.den):runF ySV (yM9 n) Tryz.f145 yOS yRy x = yLQ n x.1 := by kernel_rfl
def z0l (kind:List UInt8):(Bool×Bool×Unit) :=
  (bif kind==[(98:UInt8),97,114,114,105,101,114] then (Bool.true,kind==[(111:UInt8),117,116,102,97,108,108],()) else (kind==[(108:UInt8),101,97,107],kind==[(111:UInt8),117,116,102,97,108,108],()))
abbrev ySL (kind:List UInt8):Option (Bool×Bool×Unit) := some (z0l kind)
theorem yMv (kind:List UInt8) (y:Bool×Bool×Unit) (h:ySL kind = some y) : ∃ n,yLQ n kind = some y :=
  ⟨0,by rw [← h]; show yLQ 0 kind = some (z0l kind); unfold yLQ z0l; first | rfl | (simp only [yQ]; done) | (simp only [yQ]; rfl)⟩
def z0l_e:Entry := { f := 145,args := yOS,ress := yRy,m := fun x=>ySL x.1 }
theorem yRG:FnOK Tryz.prog z0l_e := yT (g := ySV) (fn := Tryz.f145) yH yS eNil (by kernel_rfl) (by kernel_rfl) (by kernel_rfl) (fun x y h=>let ⟨n,hn⟩ := yMv x.1 y h; ⟨yM9 n,iNil,(yTx n x).trans hn⟩)
abbrev yNL:Ty := .pair t3 (.pair t3 (.pair t4 .unit))
abbrev yPU:Ty := .pair t4 .unit
def yRB:G := { T := T,E := [],muts := [],fz := [] }
def yVK:List (List Nat) := []
def yMP (n:Nat):Ann := { keep := yVK,fuel := n,inl := [],deep := 0 }
def yKE (n:Nat) (n1:Int) (nodes:Int) (atSea:Bool):Option (Bool×Unit) :=
  (bif atSea then some (n1==(-1:Int),()) else (bif decide (n1 ≥ 0) then some (decide (n1 < nodes),()) else some (Bool.false,())))
theorem ySG (n:Nat) (x:yNL.den):runF yRB (yMP n) Tryz.f146 yNL yPU x = yKE n x.1 x.2.1 x.2.2.1 := by kernel_rfl
def z0g (n1:Int) (nodes:Int) (atSea:Bool):(Bool×Unit) :=
  (bif atSea then (n1==(-1:Int),()) else (bif decide (n1 ≥ 0) then (decide (n1 < nodes),()) else (Bool.false,())))
abbrev yPy (n1:Int) (nodes:Int) (atSea:Bool):Option (Bool×Unit) := some (z0g n1 nodes atSea)
theorem yNB (n1:Int) (nodes:Int) (atSea:Bool) (y:Bool×Unit) (h:yPy n1 nodes atSea = some y) : ∃ n,yKE n n1 nodes atSea = some y :=
  ⟨0,by rw [← h]; show yKE 0 n1 nodes atSea = some (z0g n1 nodes atSea); unfold yKE z0g; first | rfl | (simp only [yQ]; done) | (simp only [yQ]; rfl)⟩
def z0g_e:Entry := { f := 146,args := yNL,ress := yPU,m := fun x=>yPy x.1 x.2.1 x.2.2.1 }
theorem yRf:FnOK Tryz.prog z0g_e := yT (g := yRB) (fn := Tryz.f146) yH yS eNil (by kernel_rfl) (by kernel_rfl) (by kernel_rfl) (fun x y h=>let ⟨n,hn⟩ := yNB x.1 x.2.1 x.2.2.1 y h; ⟨yMP n,iNil,(ySG n x).trans hn⟩)
abbrev yNZ:Ty := .pair t96 .unit
abbrev yRc:Ty := .pair t253 .unit
def yQ7:G := { T := T,E := [],muts := [],fz := [] }
def yW3:List (List Nat) := []
def yMJ (n:Nat):Ann := { keep := yW3,fuel := n,inl := [],deep := 0 }
def yKF (n:Nat) (x1:Int×Int×Unit):Option (List Int×Unit) :=
  some ([x1.1,x1.2.1],())
theorem yQG (n:Nat) (x:yNZ.den):runF yQ7 (yMJ n) Tryz.f166 yNZ yRc x = yKF n x.1 := by kernel_rfl
def z0d (x1:Int×Int×Unit):(List Int×Unit) :=
  ([x1.1,x1.2.1],())
abbrev ySW (x1:Int×Int×Unit):Option (List Int×Unit) := some (z0d x1)
theorem yNz (x1:Int×Int×Unit) (y:List Int×Unit) (h:ySW x1 = some y) : ∃ n,yKF n x1 = some y :=
  ⟨0,by rw [← h]; show yKF 0 x1 = some (z0d x1); unfold yKF z0d; first | rfl | (simp only [yQ]; done) | (simp only [yQ]; rfl)⟩
def z0d_e:Entry := { f := 166,args := yNZ,ress := yRc,m := fun x=>ySW x.1 }
theorem yML:FnOK Tryz.prog z0d_e := yT (g := yQ7) (fn := Tryz.f166) yH yS eNil (by kernel_rfl) (by kernel_rfl) (by kernel_rfl) (fun x y h=>let ⟨n,hn⟩ := yNz x.1 y h; ⟨yMJ n,iNil,(yQG n x).trans hn⟩)
abbrev yNi:Ty := .unit
abbrev yS3:Ty := .pair t67 .unit
def ySj:G := { T := T,E := [],muts := [],fz := [] }
def yUp:List (List Nat) := []
def yM6 (n:Nat):Ann := { keep := yUp,fuel := n,inl := [],deep := 0 }
def yKP (n:Nat)  : Option (List (List UInt8)×Unit) :=
  some ([[(98:UInt8),97,114,114,105,101,114],[(108:UInt8),101,97,107],[(111:UInt8),117,116,102,97,108,108],[(112:UInt8),117,109,112],[(119:UInt8),101,105,114]],())
theorem yU3 (n:Nat) (x:yNi.den):runF ySj (yM6 n) Tryz.f38 yNi yS3 x = yKP n := by kernel_rfl
def z0Y  : (List (List UInt8)×Unit) :=
  ([[(98:UInt8),97,114,114,105,101,114],[(108:UInt8),101,97,107],[(111:UInt8),117,116,102,97,108,108],[(112:UInt8),117,109,112],[(119:UInt8),101,105,114]],())
abbrev ySa  : Option (List (List UInt8)×Unit) := some (z0Y)
theorem yMr  (y:List (List UInt8)×Unit) (h:ySa = some y) : ∃ n,yKP n = some y :=
  ⟨0,by rw [← h]; show yKP 0 = some (z0Y); unfold yKP z0Y; first | rfl | (simp only [yQ]; done) | (simp only [yQ]; rfl)⟩
def z0Y_e:Entry := { f := 38,args := yNi,ress := yS3,m := fun x=>ySa }
theorem yQx:FnOK Tryz.prog z0Y_e := yT (g := ySj) (fn := Tryz.f38) yH yS eNil (by kernel_rfl) (by kernel_rfl) (by kernel_rfl) (fun x y h=>let ⟨n,hn⟩ := yMr y h; ⟨yM6 n,iNil,(yU3 n x).trans hn⟩)
abbrev yOc:Ty := .pair t25 .unit
abbrev yQZ:Ty := .pair t4 .unit
def ySt:G := { T := T,E := [],muts := [],fz := [] }
def yVh:List (List Nat) := [[1,3],[1,4]]
def yMg (n:Nat):Ann := { keep := yVh,fuel := n,inl := [],deep := 0 }
def yEn (n:Nat) (r7:Bas→Int→Option (Bool×Unit)) (az:Bas) (aL:Int):Option (Bool×Unit) :=
  (bif decide (aL < (↑az.2.1.length:Int)) then (Option.bind (idx az.2.1 aL) fun (v8:Lnk)=>(bif decide ((↑v8.1.length:Int) > 60) then some (Bool.false,()) else r7 az (IntKind.i64.wrap (aL + 1)))) else some (Bool.true,()))
def y75 (n:Nat)  (k:Nat) (az:Bas) (aL:Int):Option (Bool×Unit) :=
  iter (fun r y=>yEn n (fun az aL=>r ((az,(aL,())),((),()))) y.1.1 y.1.2.1) k ((az,(aL,())),((),()))
def yEW (n:Nat) (r5:Bas→Int→Option (Bool×Unit)) (ar:Bas) (aM:Int):Option (Bool×Unit) :=
  (bif decide (aM < (↑ar.1.length:Int)) then (Option.bind (idx ar.1 aM) fun (v6:Nod)=>(bif decide ((↑v6.1.length:Int) > 60) then some (Bool.false,()) else r5 ar (IntKind.i64.wrap (aM + 1)))) else (y75 n n (ar) ((0:Int))))
def y7O (n:Nat)  (k:Nat) (ar:Bas) (aM:Int):Option (Bool×Unit) :=
  iter (fun r y=>yEW n (fun ar aM=>r ((ar,(aM,())),((),()))) y.1.1 y.1.2.1) k ((ar,(aM,())),((),()))
def yAc (n:Nat) (b:Bas):Option (Bool×Unit) :=
  (y7O n n (b) ((0:Int)))
def yLi (n:Nat) (b:Bas):Option (Bool×Unit) :=
  (bif decide ((↑b.1.length:Int) > 9) then some (Bool.false,()) else (bif decide ((↑b.2.1.length:Int) > 8) then (bif (↑b.2.1.length:Int) != 17 then some (Bool.false,()) else (yAc n b)) else (yAc n b)))
theorem yST (n:Nat) (x:yOc.den):runF ySt (yMg n) Tryz.f15 yOc yQZ x = yLi n x.1 := by kernel_rfl
def yFJ (az:Bas) (aL:Int) (v8:Lnk):Option ((Bool×Unit)⊕Unit) :=
  (bif decide ((↑v8.1.length:Int) > 60) then (some (Sum.inl ((Bool.false,())))) else (some (Sum.inr ())))
def yJw (az:Bas):Option (Bool×Unit) :=
  (some ((Bool.true,())))
theorem yCu (n:Nat) (hn:big≤n)  (az:Bas) (hx:List.length (az.2.1) < lenMax):LeF some (yK (fun i__ e__ s__=>yFJ az i__ e__) (fun s__=>yJw az) 0 (az.2.1) ()) (y75 n n az 0) := by
  refine yN (f := some) (W := fun k__ i__ s__=>y75 n k__ az i__) (body := (fun i__ e__ s__=>yFJ az i__ e__)) (fin := (fun s__=>yJw az)) (fun k__ i__ s__=>?_) hx () n (by unfold big at hn; unfold lenMax at hx; omega)
  show LeF _ _ (yEn n (y75 n k__) az i__)
  exact y5 (y9 fun v8=>(y5 (y7 rfl) (y7 rfl))) (y02 (y7 rfl))
def yFW (ar:Bas) (aM:Int) (v6:Nod):Option ((Bool×Unit)⊕Unit) :=
  (bif decide ((↑v6.1.length:Int) > 60) then (some (Sum.inl ((Bool.false,())))) else (some (Sum.inr ())))
def yBu (ar:Bas):Option (Bool×Unit) :=
  (bif decide (List.length (ar.2.1) < lenMax) then yK (fun i__ e__ s__=>yFJ (ar) i__ e__) (fun s__=>yJw (ar)) 0 (ar.2.1) () else none)
theorem yE8 (n:Nat) (hn:big≤n)  (ar:Bas) (hx:List.length (ar.1) < lenMax):LeF some (yK (fun i__ e__ s__=>yFW ar i__ e__) (fun s__=>yBu ar) 0 (ar.1) ()) (y7O n n ar 0) := by
  refine yN (f := some) (W := fun k__ i__ s__=>y7O n k__ ar i__) (body := (fun i__ e__ s__=>yFW ar i__ e__)) (fin := (fun s__=>yBu ar)) (fun k__ i__ s__=>?_) hx () n (by unfold big at hn; unfold lenMax at hx; omega)
  show LeF _ _ (yEW n (y7O n k__) ar i__)
  exact y5 (y9 fun v6=>(y5 (y7 rfl) (y7 rfl))) (y02 (yL fun hx=>by apply yCu n hn; exact hx))
def yBi (b:Bas):Option (Bool×Unit) :=
  (bif decide (List.length (b.1) < lenMax) then yK (fun i__ e__ s__=>yFW (b) i__ e__) (fun s__=>yBu (b)) 0 (b.1) () else none)
theorem y32 (n:Nat) (hn:big≤n)  (b:Bas):LeF some (yBi b) (yAc n b) :=
  (yL fun hx=>by apply yE8 n hn; exact hx)
def yBz (b:Bas):Option (Bool×Unit) :=
  (bif decide ((↑b.1.length:Int) > 9) then (some ((Bool.false,()))) else (bif decide ((↑b.2.1.length:Int) > 8) then (bif (↑b.2.1.length:Int) != 17 then (some ((Bool.false,()))) else (yBi b)) else (yBi b)))
theorem yNO (b:Bas) (y:Bool×Unit) (h:yBz b = some y) : ∃ n,yLi n b = some y :=
  ⟨big,LeF.top (show LeF some (yBz b) (yLi big b) from (fun (n:Nat) (hn:big≤n)=>show LeF some (yBz b) (yLi n b) from (y5 (y7 rfl) (y5 (y5 (y7 rfl) (by apply y32 n hn)) (by apply y32 n hn)))) big (Nat.le_refl _)) h⟩
def z0a_e:Entry := { f := 15,args := yOc,ress := yQZ,m := fun x=>yBz x.1 }
theorem yQI:FnOK Tryz.prog z0a_e := yT (g := ySt) (fn := Tryz.f15) yH yS eNil (by kernel_rfl) (by kernel_rfl) (by kernel_rfl) (fun x y h=>let ⟨n,hn⟩ := yNO x.1 y h; ⟨yMg n,iNil,(yST n x).trans hn⟩)
abbrev zu_a:Ty := .pair t163 .unit
abbrev zu_r:Ty := .pair t3 .unit
def zu_g:G := { T := T,E := [],muts := [],fz := [] }
def zu_k:List (List Nat) := []
def ySc (n:Nat):Ann := { keep := zu_k,fuel := n,inl := [],deep := 0 }
def zu_m (n:Nat) (l:Lnk):Option (Int×Unit) :=
  (bif l.2.1==(-1:Int) then some (l.2.2.1,()) else some (l.2.1,()))
theorem yVc (n:Nat) (x:zu_a.den):runF zu_g (ySc n) Tryz.f142 zu_a zu_r x = zu_m n x.1 := by kernel_rfl
def zu (l:Lnk):(Int×Unit) :=
  (bif l.2.1==(-1:Int) then (l.2.2.1,()) else (l.2.1,()))
abbrev zu_M (l:Lnk):Option (Int×Unit) := some (zu l)
theorem yQh (l:Lnk) (y:Int×Unit) (h:zu_M l = some y) : ∃ n,zu_m n l = some y :=
  ⟨0,by rw [← h]; show zu_m 0 l = some (zu l); unfold zu_m zu; first | rfl | (simp only [yQ]; done) | (simp only [yQ]; rfl)⟩
def zu_e:Entry := { f := 142,args := zu_a,ress := zu_r,m := fun x=>zu_M x.1 }
theorem yUA:FnOK Tryz.prog zu_e := yT (g := zu_g) (fn := Tryz.f142) yH yS eNil (by kernel_rfl) (by kernel_rfl) (by kernel_rfl) (fun x y h=>let ⟨n,hn⟩ := yQh x.1 y h; ⟨ySc n,iNil,(yVc n x).trans hn⟩)
abbrev yN3:Ty := .pair t67 (.pair t9 .unit)
abbrev ySr:Ty := .pair t4 .unit
def yQL:G := { T := T,E := [],muts := [],fz := [] }
def yUH:List (List Nat) := [[0,1,5]]
def yLk (n:Nat):Ann := { keep := yUH,fuel := n,inl := [],deep := 0 }
def yEQ (n:Nat) (r0:List (List UInt8)→List UInt8→Int→Option (Bool×Unit)) (aj:List (List UInt8)) (aA:List UInt8) (al:Int):Option (Bool×Unit) :=
  (bif decide (al < (↑aj.length:Int)) then (Option.bind (idx aj al) fun (v1:List UInt8)=>(bif v1==aA then some (Bool.true,()) else r0 aj aA (IntKind.i64.wrap (al + 1)))) else some (Bool.false,()))
def y7I (n:Nat)  (k:Nat) (aj:List (List UInt8)) (aA:List UInt8) (al:Int):Option (Bool×Unit) :=
  iter (fun r y=>yEQ n (fun aj aA al=>r ((aj,(aA,(al,()))),((),()))) y.1.1 y.1.2.1 y.1.2.2.1) k ((aj,(aA,(al,()))),((),()))
def yLC (n:Nat) (l:List (List UInt8)) (s:List UInt8):Option (Bool×Unit) :=
  (y7I n n (l) (s) ((0:Int)))
theorem yTN (n:Nat) (x:yN3.den):runF yQL (yLk n) Tryz.f144 yN3 ySr x = yLC n x.1 x.2.1 := by kernel_rfl
def yEK (aj:List (List UInt8)) (aA:List UInt8) (al:Int) (v1:List UInt8):Option ((Bool×Unit)⊕Unit) :=
  (bif v1==aA then (some (Sum.inl ((Bool.true,())))) else (some (Sum.inr ())))
def yJc (aj:List (List UInt8)) (aA:List UInt8):Option (Bool×Unit) :=
  (some ((Bool.false,())))
theorem yDb (n:Nat) (hn:big≤n)  (aj:List (List UInt8)) (aA:List UInt8) (hx:List.length (aj) < lenMax):LeF some (yK (fun i__ e__ s__=>yEK aj aA i__ e__) (fun s__=>yJc aj aA) 0 (aj) ()) (y7I n n aj aA 0) := by
  refine yN (f := some) (W := fun k__ i__ s__=>y7I n k__ aj aA i__) (body := (fun i__ e__ s__=>yEK aj aA i__ e__)) (fin := (fun s__=>yJc aj aA)) (fun k__ i__ s__=>?_) hx () n (by unfold big at hn; unfold lenMax at hx; omega)
  show LeF _ _ (yEQ n (y7I n k__) aj aA i__)
  exact y5 (y9 fun v1=>(y5 (y7 rfl) (y7 rfl))) (y02 (y7 rfl))
def yDd (l:List (List UInt8)) (s:List UInt8):Option (Bool×Unit) :=
  (bif decide (List.length (l) < lenMax) then yK (fun i__ e__ s__=>yEK (l) (s) i__ e__) (fun s__=>yJc (l) (s)) 0 (l) () else none)
theorem yNe (l:List (List UInt8)) (s:List UInt8) (y:Bool×Unit) (h:yDd l s = some y) : ∃ n,yLC n l s = some y :=
  ⟨big,LeF.top (show LeF some (yDd l s) (yLC big l s) from (fun (n:Nat) (hn:big≤n)=>show LeF some (yDd l s) (yLC n l s) from (yL fun hx=>by apply yDb n hn; exact hx)) big (Nat.le_refl _)) h⟩
def z0A_e:Entry := { f := 144,args := yN3,ress := ySr,m := fun x=>yDd x.1 x.2.1 }
theorem ySu:FnOK Tryz.prog z0A_e := yT (g := yQL) (fn := Tryz.f144) yH yS eNil (by kernel_rfl) (by kernel_rfl) (by kernel_rfl) (fun x y h=>let ⟨n,hn⟩ := yNe x.1 x.2.1 y h; ⟨yLk n,iNil,(yTN n x).trans hn⟩)
abbrev yOr:Ty := .pair t26 (.pair t26 .unit)
abbrev yRU:Ty := .pair t4 .unit
def ySk:G := { T := T,E := [],muts := [],fz := [] }
def yW5:List (List Nat) := [[0,1,5]]
def yLl (n:Nat):Ann := { keep := yW5,fuel := n,inl := [],deep := 0 }
def yFc (n:Nat) (r0:List Int→List Int→Int→Option (Bool×Unit)) (ai:List Int) (af:List Int) (al:Int):Option (Bool×Unit) :=
  (bif decide (al < (↑ai.length:Int)) then (Option.bind (idx ai al) fun (v1:Int)=>(Option.bind (idx af al) fun (v2:Int)=>(bif v1 != v2 then some (Bool.false,()) else r0 ai af (IntKind.i64.wrap (al + 1))))) else some (Bool.true,()))
def y7K (n:Nat)  (k:Nat) (ai:List Int) (af:List Int) (al:Int):Option (Bool×Unit) :=
  iter (fun r y=>yFc n (fun ai af al=>r ((ai,(af,(al,()))),((),()))) y.1.1 y.1.2.1 y.1.2.2.1) k ((ai,(af,(al,()))),((),()))
def yKq (n:Nat) (a:List Int) (b:List Int):Option (Bool×Unit) :=
  (bif (↑a.length:Int) != (↑b.length:Int) then some (Bool.false,()) else (y7K n n (a) (b) ((0:Int))))
theorem yT7 (n:Nat) (x:yOr.den):runF ySk (yLl n) Tryz.f41 yOr yRU x = yKq n x.1 x.2.1 := by kernel_rfl
def yI3 (ai:List Int) (af:List Int) (al:Int) (v1:Int):Option ((Bool×Unit)⊕Unit) :=
  (Option.bind (idx af al) fun (v2:Int)=>(bif v1 != v2 then (some (Sum.inl ((Bool.false,())))) else (some (Sum.inr ()))))
def yJW (ai:List Int) (af:List Int):Option (Bool×Unit) :=
  (some ((Bool.true,())))
theorem yDj (n:Nat) (hn:big≤n)  (ai:List Int) (af:List Int) (hx:List.length (ai) < lenMax):LeF some (yK (fun i__ e__ s__=>yI3 ai af i__ e__) (fun s__=>yJW ai af) 0 (ai) ()) (y7K n n ai af 0) := by
  refine yN (f := some) (W := fun k__ i__ s__=>y7K n k__ ai af i__) (body := (fun i__ e__ s__=>yI3 ai af i__ e__)) (fin := (fun s__=>yJW ai af)) (fun k__ i__ s__=>?_) hx () n (by unfold big at hn; unfold lenMax at hx; omega)
  show LeF _ _ (yFc n (y7K n k__) ai af i__)
  exact y5 (y9 fun v1=>(y9 fun v2=>(y5 (y7 rfl) (y7 rfl)))) (y02 (y7 rfl))
def y8l (a:List Int) (b:List Int):Option (Bool×Unit) :=
  (bif (↑a.length:Int) != (↑b.length:Int) then (some ((Bool.false,()))) else (bif decide (List.length (a) < lenMax) then yK (fun i__ e__ s__=>yI3 (a) (b) i__ e__) (fun s__=>yJW (a) (b)) 0 (a) () else none))
theorem yMp (a:List Int) (b:List Int) (y:Bool×Unit) (h:y8l a b = some y) : ∃ n,yKq n a b = some y :=
  ⟨big,LeF.top (show LeF some (y8l a b) (yKq big a b) from (fun (n:Nat) (hn:big≤n)=>show LeF some (y8l a b) (yKq n a b) from (y5 (y7 rfl) (yL fun hx=>by apply yDj n hn; exact hx))) big (Nat.le_refl _)) h⟩
def z00_e:Entry := { f := 41,args := yOr,ress := yRU,m := fun x=>y8l x.1 x.2.1 }
theorem yME:FnOK Tryz.prog z00_e := yT (g := ySk) (fn := Tryz.f41) yH yS eNil (by kernel_rfl) (by kernel_rfl) (by kernel_rfl) (fun x y h=>let ⟨n,hn⟩ := yMp x.1 x.2.1 y h; ⟨yLl n,iNil,(yT7 n x).trans hn⟩)
def yMD (aP:List Int) (aH:Int) (v1:Int):Option ((Bool×Unit)⊕Unit) :=
  (bif decide (v1 > 100000000) then (some (Sum.inl ((Bool.true,())))) else (some (Sum.inr ())))
def yLq (aP:List Int):Option (Bool×Unit) :=
  (some ((Bool.false,())))
def yLh (v:List Int):Option (Bool×Unit) :=
  (bif decide (List.length (v) < lenMax) then yK (fun i__ e__ s__=>yMD (v) i__ e__) (fun s__=>yLq (v)) 0 (v) () else none)
end
end Go.Tw
end
section
set_option maxRecDepth 1000000
namespace Go.Tw
open Go.Vx Go.Vx.B Go.Proofs
noncomputable section
abbrev yOd:Ty := .pair t25 .unit
abbrev yQY:Ty := .pair t41 .unit
def yTd:G := { T := T,E := [],muts := [3],fz := [] }
def yVS:List (List Nat) := [[1,2,3,9,10,11],[2,3,23,24,25]]
def yMH (n:Nat):Ann := { keep := yVS,fuel := n,inl := [],deep := 0 }
def yEb (n:Nat) (r2:List Lnk→Int→Int→List Nod→List Lnk→Option (Bas×Unit)) (am:List Lnk) (aJ:Int) (aF:Int) (aB:List Nod) (aE:List Lnk):Option (Bas×Unit) :=
  (bif decide (aF < aJ) then (Option.bind (idx am aF) fun (v3:Lnk)=>(bif decide (aE.length + (1:Nat)≤memMax) then r2 am aJ (IntKind.i64.wrap (aF + 1)) aB (aE ++ [(v3.1,v3.2.1,v3.2.2.1,v3.2.2.2.1,v3.2.2.2.2.1,())]) else none)) else some ((aB,aE,()),()))
def y71 (n:Nat)  (k:Nat) (am:List Lnk) (aJ:Int) (aF:Int) (aB:List Nod) (aE:List Lnk):Option (Bas×Unit) :=
  iter (fun r y=>yEb n (fun am aJ aF aB aE=>r ((am,(aJ,(aF,()))),(((),((),(aB,(aE,())))),()))) y.1.1 y.1.2.1 y.1.2.2.1 y.2.1.2.2.1 y.2.1.2.2.2.1) k ((am,(aJ,(aF,()))),(((),((),(aB,(aE,())))),()))
def yEu (n:Nat) (r0:Bas→List Nod→Int→Int→List Nod→List Lnk→Option (Bas×Unit)) (af:Bas) (ae:List Nod) (ac:Int) (aG:Int) (aC:List Nod) (aD:List Lnk):Option (Bas×Unit) :=
  (bif decide (aG < ac) then (Option.bind (idx ae aG) fun (v1:Nod)=>(bif decide (aC.length + (1:Nat)≤memMax) then r0 af ae ac (IntKind.i64.wrap (aG + 1)) (aC ++ [(v1.1,v1.2.1,v1.2.2.1,())]) aD else none)) else (y71 n n (af.2.1) ((↑af.2.1.length:Int)) ((0:Int)) (aC) (aD)))
def y72 (n:Nat)  (k:Nat) (af:Bas) (ae:List Nod) (ac:Int) (aG:Int) (aC:List Nod) (aD:List Lnk):Option (Bas×Unit) :=
  iter (fun r y=>yEu n (fun af ae ac aG aC aD=>r ((af,(ae,(ac,(aG,())))),(((),((),(aC,(aD,())))),()))) y.1.1 y.1.2.1 y.1.2.2.1 y.1.2.2.2.1 y.2.1.2.2.1 y.2.1.2.2.2.1) k ((af,(ae,(ac,(aG,())))),(((),((),(aC,(aD,())))),()))
def yKp (n:Nat) (b:Bas):Option (Bas×Unit) :=
  (y72 n n (b) (b.1) ((↑b.1.length:Int)) ((0:Int)) ([]) ([]))
theorem yTi (n:Nat) (x:yOd.den):runF yTd (yMH n) Tryz.f19 yOd yQY x = yKp n x.1 := by kernel_rfl
def yFh (am:List Lnk) (aB:List Nod) (aF:Int) (v3:Lnk) (aE:List Lnk):Option ((Bas×Unit)⊕(List Lnk)) :=
  (bif decide (aE.length + (1:Nat)≤memMax) then (some (Sum.inr (aE ++ [(v3.1,v3.2.1,v3.2.2.1,v3.2.2.2.1,v3.2.2.2.2.1,())]))) else none)
def yIE (am:List Lnk) (aB:List Nod) (aE:List Lnk):Option (Bas×Unit) :=
  (some (((aB,aE,()),())))
theorem yE1 (n:Nat) (hn:big≤n)  (am:List Lnk) (aB:List Nod) (aE:List Lnk) (hx:List.length (am) < lenMax):LeF some (yK (fun i__ e__ s__=>yFh am aB i__ e__ s__) (fun s__=>yIE am aB s__) 0 (am) aE) (y71 n n am (List.length (am):Int) 0 aB aE) := by
  refine yN (f := some) (W := fun k__ i__ s__=>y71 n k__ am (List.length (am):Int) i__ aB s__) (body := (fun i__ e__ s__=>yFh am aB i__ e__ s__)) (fin := (fun s__=>yIE am aB s__)) (fun k__ i__ s__=>?_) hx aE n (by unfold big at hn; unfold lenMax at hx; omega)
  show LeF _ _ (yEb n (y71 n k__) am (List.length (am):Int) i__ aB s__)
  exact y5 (y9 fun v3=>(y5 (y7 rfl) yp)) (y02 (y7 rfl))
def yEN (af:Bas) (ae:List Nod) (aD:List Lnk) (aG:Int) (v1:Nod) (aC:List Nod):Option ((Bas×Unit)⊕(List Nod)) :=
  (bif decide (aC.length + (1:Nat)≤memMax) then (some (Sum.inr (aC ++ [(v1.1,v1.2.1,v1.2.2.1,())]))) else none)
def yEJ (af:Bas) (ae:List Nod) (aD:List Lnk) (aC:List Nod):Option (Bas×Unit) :=
  (bif decide (List.length (af.2.1) < lenMax) then yK (fun i__ e__ s__=>yFh (af.2.1) (aC) i__ e__ s__) (fun s__=>yIE (af.2.1) (aC) s__) 0 (af.2.1) (aD) else none)
theorem yCq (n:Nat) (hn:big≤n)  (af:Bas) (ae:List Nod) (aD:List Lnk) (aC:List Nod) (hx:List.length (ae) < lenMax):LeF some (yK (fun i__ e__ s__=>yEN af ae aD i__ e__ s__) (fun s__=>yEJ af ae aD s__) 0 (ae) aC) (y72 n n af ae (List.length (ae):Int) 0 aC aD) := by
  refine yN (f := some) (W := fun k__ i__ s__=>y72 n k__ af ae (List.length (ae):Int) i__ s__ aD) (body := (fun i__ e__ s__=>yEN af ae aD i__ e__ s__)) (fin := (fun s__=>yEJ af ae aD s__)) (fun k__ i__ s__=>?_) hx aC n (by unfold big at hn; unfold lenMax at hx; omega)
  show LeF _ _ (yEu n (y72 n k__) af ae (List.length (ae):Int) i__ s__ aD)
  exact y5 (y9 fun v1=>(y5 (y7 rfl) yp)) (y02 (yL fun hx=>by apply yE1 n hn; exact hx))
def y4Z (b:Bas):Option (Bas×Unit) :=
  (bif decide (List.length (b.1) < lenMax) then yK (fun i__ e__ s__=>yEN (b) (b.1) ([]) i__ e__ s__) (fun s__=>yEJ (b) (b.1) ([]) s__) 0 (b.1) ([]) else none)
theorem yO3 (b:Bas) (y:Bas×Unit) (h:y4Z b = some y) : ∃ n,yKp n b = some y :=
  ⟨big,LeF.top (show LeF some (y4Z b) (yKp big b) from (fun (n:Nat) (hn:big≤n)=>show LeF some (y4Z b) (yKp n b) from (yL fun hx=>by apply yCq n hn; exact hx)) big (Nat.le_refl _)) h⟩
def z0U_e:Entry := { f := 19,args := yOd,ress := yQY,m := fun x=>y4Z x.1 }
theorem yTh:FnOK Tryz.prog z0U_e := yT (g := yTd) (fn := Tryz.f19) yH yS eNil (by kernel_rfl) (by kernel_rfl) (by kernel_rfl) (fun x y h=>let ⟨n,hn⟩ := yO3 x.1 y h; ⟨yMH n,iNil,(yTi n x).trans hn⟩)
def yEm (aQ:List Int) (aO:Bas) (aR:Int) (v1:Int) (aa:List Int):Option ((List Int×Unit)⊕(List Int)) :=
  (Option.bind (idx aO.1 aR) fun (v2:Nod)=>(bif v2.2.1==0 then none else (bif decide (aa.length + (1:Nat)≤memMax) then (some (Sum.inr (aa ++ [IntKind.i64.wrap (v1.tdiv v2.2.1)]))) else none)))
def yIk (aQ:List Int) (aO:Bas) (aa:List Int):Option (List Int×Unit) :=
  (some ((aa,())))
def yMy (b:Bas) (v:List Int):Option (List Int×Unit) :=
  (bif decide (List.length (v) < lenMax) then yK (fun i__ e__ s__=>yEm (v) (b) i__ e__ s__) (fun s__=>yIk (v) (b) s__) 0 (v) ([]) else none)
abbrev zV_a:Ty := .pair t119 (.pair t119 .unit)
abbrev zV_r:Ty := .pair t4 .unit
def zV_g:G := { T := T,E := [],muts := [],fz := [] }
def zV_k:List (List Nat) := [[0,1,5],[0,1,5,6]]
def yTa (n:Nat):Ann := { keep := zV_k,fuel := n,inl := [],deep := 0 }
def yJS (n:Nat) (r0:List (List (Int×Int×Unit))→List (List (Int×Int×Unit))→Int→Option (Bool×Unit)) (r3:List (List (Int×Int×Unit))→List (List (Int×Int×Unit))→Int→Int→Option (Bool×Unit)) (av:List (List (Int×Int×Unit))) (ay:List (List (Int×Int×Unit))) (au:Int) (aI:Int):Option (Bool×Unit) :=
  (Option.bind (idx av au) fun (v4:List (Int×Int×Unit))=>(bif decide (aI < (↑v4.length:Int)) then (Option.bind (idx av au) fun (v5:List (Int×Int×Unit))=>(Option.bind (idx v5 aI) fun (v6:Int×Int×Unit)=>(Option.bind (idx ay au) fun (v7:List (Int×Int×Unit))=>(Option.bind (idx v7 aI) fun (v8:Int×Int×Unit)=>(bif !eqV ((Ty.int IntKind.i64).pair ((Ty.int IntKind.i64).pair Ty.unit)) v6 v8 then some (Bool.false,()) else r3 av ay au (IntKind.i64.wrap (aI + 1))))))) else r0 av ay (IntKind.i64.wrap (au + 1))))
def yAt (n:Nat) (r0:List (List (Int×Int×Unit))→List (List (Int×Int×Unit))→Int→Option (Bool×Unit)) (k:Nat) (av:List (List (Int×Int×Unit))) (ay:List (List (Int×Int×Unit))) (au:Int) (aI:Int):Option (Bool×Unit) :=
  iter (fun r y=>yJS n r0 (fun av ay au aI=>r ((av,(ay,(au,(aI,())))),((),()))) y.1.1 y.1.2.1 y.1.2.2.1 y.1.2.2.2.1) k ((av,(ay,(au,(aI,())))),((),()))
def yHr (n:Nat) (r0:List (List (Int×Int×Unit))→List (List (Int×Int×Unit))→Int→Option (Bool×Unit)) (ai:List (List (Int×Int×Unit))) (af:List (List (Int×Int×Unit))) (al:Int):Option (Bool×Unit) :=
  (bif decide (al < (↑ai.length:Int)) then (Option.bind (idx ai al) fun (v1:List (Int×Int×Unit))=>(Option.bind (idx af al) fun (v2:List (Int×Int×Unit))=>(bif (↑v1.length:Int) != (↑v2.length:Int) then some (Bool.false,()) else (yAt n r0 n (ai) (af) (al) ((0:Int)))))) else some (Bool.true,()))
def yAu (n:Nat)  (k:Nat) (ai:List (List (Int×Int×Unit))) (af:List (List (Int×Int×Unit))) (al:Int):Option (Bool×Unit) :=
  iter (fun r y=>yHr n (fun ai af al=>r ((ai,(af,(al,()))),((),()))) y.1.1 y.1.2.1 y.1.2.2.1) k ((ai,(af,(al,()))),((),()))
def zV_m (n:Nat) (a:List (List (Int×Int×Unit))) (b:List (List (Int×Int×Unit))):Option (Bool×Unit) :=
  (bif (↑a.length:Int) != (↑b.length:Int) then some (Bool.false,()) else (yAu n n (a) (b) ((0:Int))))
theorem yVZ (n:Nat) (x:zV_a.den):runF zV_g (yTa n) Tryz.f74 zV_a zV_r x = zV_m n x.1 x.2.1 := by kernel_rfl
def yCn (av:List (List (Int×Int×Unit))) (ay:List (List (Int×Int×Unit))) (au:Int) (v4:List (Int×Int×Unit)) (aI:Int):Option (((Bool×Unit)⊕Unit)⊕Unit) :=
  (Option.bind (idx av au) fun (v5:List (Int×Int×Unit))=>(Option.bind (idx v5 aI) fun (v6:Int×Int×Unit)=>(Option.bind (idx ay au) fun (v7:List (Int×Int×Unit))=>(Option.bind (idx v7 aI) fun (v8:Int×Int×Unit)=>(bif !eqV ((Ty.int IntKind.i64).pair ((Ty.int IntKind.i64).pair Ty.unit)) v6 v8 then (some (Sum.inl (Sum.inl ((Bool.false,()))))) else (some (Sum.inr ())))))))
def yKc (av:List (List (Int×Int×Unit))) (ay:List (List (Int×Int×Unit))) (au:Int) (v4:List (Int×Int×Unit)):Option ((Bool×Unit)⊕Unit) :=
  (some (Sum.inr ()))
theorem yHC (n:Nat) (hn:big≤n)  (r0:List (List (Int×Int×Unit))→List (List (Int×Int×Unit))→Int→Option (Bool×Unit)) (av:List (List (Int×Int×Unit))) (ay:List (List (Int×Int×Unit))) (au:Int) (v4:List (Int×Int×Unit)) (h0__:(idx av au) = some v4) (hx:((↑v4.length:Int))≤9223372036854775807):LeF (elim some fun (s__:Unit)=>r0 av ay (IntKind.i64.wrap (au + 1))) (y0G (fun i__ s__=>yCn av ay au v4 i__) (fun s__=>yKc av ay au v4) (((↑v4.length:Int)) - 0).toNat 0 ()) (yAt n r0 n av ay au 0) := by
  refine y1k (f := (elim some fun (s__:Unit)=>r0 av ay (IntKind.i64.wrap (au + 1)))) (W := fun k__ i__ s__=>yAt n r0 k__ av ay au i__) (body := (fun i__ s__=>yCn av ay au v4 i__)) (fin := (fun s__=>yKc av ay au v4)) (fun k__ i__ s__=>?_) hx () n 0 (by decide) (by unfold big at hn; omega)
  show LeF _ _ (yJS n r0 (yAt n r0 k__) av ay au i__)
  exact leAt h0__ (y5 (y9 fun v5=>(y9 fun v6=>(y9 fun v7=>(y9 fun v8=>(y5 (y7 rfl) (y7 rfl)))))) (y02 (y7 rfl)))
def yKi (ai:List (List (Int×Int×Unit))) (af:List (List (Int×Int×Unit))) (al:Int) (v1:List (Int×Int×Unit)):Option ((Bool×Unit)⊕Unit) :=
  (Option.bind (idx af al) fun (v2:List (Int×Int×Unit))=>(bif (↑v1.length:Int) != (↑v2.length:Int) then (some (Sum.inl ((Bool.false,())))) else (Option.bind (idx ai al) fun (v4:List (Int×Int×Unit))=>(bif decide (((↑v4.length:Int))≤9223372036854775807) then y0G (fun i__ s__=>yCn (ai) (af) (al) v4 i__) (fun s__=>yKc (ai) (af) (al) v4) (((↑v4.length:Int)) - 0).toNat 0 () else none))))
def yMu (ai:List (List (Int×Int×Unit))) (af:List (List (Int×Int×Unit))):Option (Bool×Unit) :=
  (some ((Bool.true,())))
theorem yGm (n:Nat) (hn:big≤n)  (ai:List (List (Int×Int×Unit))) (af:List (List (Int×Int×Unit))) (hx:List.length (ai) < lenMax):LeF some (yK (fun i__ e__ s__=>yKi ai af i__ e__) (fun s__=>yMu ai af) 0 (ai) ()) (yAu n n ai af 0) := by
  refine yN (f := some) (W := fun k__ i__ s__=>yAu n k__ ai af i__) (body := (fun i__ e__ s__=>yKi ai af i__ e__)) (fin := (fun s__=>yMu ai af)) (fun k__ i__ s__=>?_) hx () n (by unfold big at hn; unfold lenMax at hx; omega)
  show LeF _ _ (yHr n (yAu n k__) ai af i__)
  exact y5 (y9 fun v1=>(y9 fun v2=>(y5 (y7 rfl) (yOO fun v4 h0__=>(yL fun hx=>by apply yHC n hn; exact h0__; exact hx))))) (y02 (y7 rfl))
def zV_M (a:List (List (Int×Int×Unit))) (b:List (List (Int×Int×Unit))):Option (Bool×Unit) :=
  (bif (↑a.length:Int) != (↑b.length:Int) then (some ((Bool.false,()))) else (bif decide (List.length (a) < lenMax) then yK (fun i__ e__ s__=>yKi (a) (b) i__ e__) (fun s__=>yMu (a) (b)) 0 (a) () else none))
theorem yR4 (a:List (List (Int×Int×Unit))) (b:List (List (Int×Int×Unit))) (y:Bool×Unit) (h:zV_M a b = some y) : ∃ n,zV_m n a b = some y :=
  ⟨big,LeF.top (show LeF some (zV_M a b) (zV_m big a b) from (fun (n:Nat) (hn:big≤n)=>show LeF some (zV_M a b) (zV_m n a b) from (y5 (y7 rfl) (yL fun hx=>by apply yGm n hn; exact hx))) big (Nat.le_refl _)) h⟩
def zV_e:Entry := { f := 74,args := zV_a,ress := zV_r,m := fun x=>zV_M x.1 x.2.1 }
theorem ySs:FnOK Tryz.prog zV_e := yT (g := zV_g) (fn := Tryz.f74) yH yS eNil (by kernel_rfl) (by kernel_rfl) (by kernel_rfl) (fun x y h=>let ⟨n,hn⟩ := yR4 x.1 x.2.1 y h; ⟨yTa n,iNil,(yVZ n x).trans hn⟩)
abbrev yN6:Ty := .unit
abbrev yTe:Ty := .pair t41 .unit
def yQ2:G := { T := T,E := [],muts := [],fz := [] }
def yV7:List (List Nat) := []
def yMB (n:Nat):Ann := { keep := yV7,fuel := n,inl := [],deep := 0 }
def yLI (n:Nat)  : Option (Bas×Unit) :=
  some (([([(108:UInt8),97,107,101],(10:Int),(20:Int),()),([(112:UInt8),111,108,100,101,114],(5:Int),(8:Int),())],[([(98:UInt8),97,114,114,105,101,114],(-1:Int),(0:Int),(0:Int),(2:Int),()),([(112:UInt8),117,109,112],(1:Int),(0:Int),(4:Int),(10:Int),()),([(111:UInt8),117,116,102,97,108,108],(0:Int),(-1:Int),(12:Int),(4:Int),())],()),())
theorem ySM (n:Nat) (x:yN6.den):runF yQ2 (yMB n) Tryz.f86 yN6 yTe x = yLI n := by kernel_rfl
def z0f  : (Bas×Unit) :=
  (([([(108:UInt8),97,107,101],(10:Int),(20:Int),()),([(112:UInt8),111,108,100,101,114],(5:Int),(8:Int),())],[([(98:UInt8),97,114,114,105,101,114],(-1:Int),(0:Int),(0:Int),(2:Int),()),([(112:UInt8),117,109,112],(1:Int),(0:Int),(4:Int),(10:Int),()),([(111:UInt8),117,116,102,97,108,108],(0:Int),(-1:Int),(12:Int),(4:Int),())],()),())
abbrev yQ9  : Option (Bas×Unit) := some (z0f)
theorem yNP  (y:Bas×Unit) (h:yQ9 = some y) : ∃ n,yLI n = some y :=
  ⟨0,by rw [← h]; show yLI 0 = some (z0f); unfold yLI z0f; first | rfl | (simp only [yQ]; done) | (simp only [yQ]; rfl)⟩
def z0f_e:Entry := { f := 86,args := yN6,ress := yTe,m := fun x=>yQ9 }
theorem yTn:FnOK Tryz.prog z0f_e := yT (g := yQ2) (fn := Tryz.f86) yH yS eNil (by kernel_rfl) (by kernel_rfl) (by kernel_rfl) (fun x y h=>let ⟨n,hn⟩ := yNP y h; ⟨yMB n,iNil,(ySM n x).trans hn⟩)
abbrev yOl:Ty := .pair t9 .unit
abbrev ySC:Ty := .pair t4 .unit
def yPq:G := { T := T,E := [],muts := [],fz := [] }
def yVM:List (List Nat) := [[0,8,16,17,20,21,22,23,24,25,30,31,34,35,40,41,42,43,44,45,50,51,52]]
def yLm (n:Nat):Ann := { keep := yVM,fuel := n,inl := [],deep := 0 }
def y58 (n:Nat) (r0:List UInt8→List UInt8→Int→Option (Bool×Unit)) (ah:List UInt8) (str0__0:List UInt8) (pos0__0:Int) (j2:Bool) (j7:Bool):Option (Bool×Unit) :=
  (bif !j2 then (bif pos0__0==0 then some (Bool.false,()) else (bif !j7 then some (Bool.false,()) else r0 ah str0__0 (yo str0__0 pos0__0).2)) else r0 ah str0__0 (yo str0__0 pos0__0).2)
def y2v (n:Nat) (r0:List UInt8→List UInt8→Int→Option (Bool×Unit)) (ah:List UInt8) (str0__0:List UInt8) (pos0__0:Int) (j2:Bool):Option (Bool×Unit) :=
  (bif decide ((yo str0__0 pos0__0).1 ≥ 48) then (bif decide ((yo str0__0 pos0__0).1≤57) then (y58 n r0 ah str0__0 pos0__0 j2 (Bool.true)) else (y58 n r0 ah str0__0 pos0__0 j2 ((yo str0__0 pos0__0).1==95))) else (y58 n r0 ah str0__0 pos0__0 j2 ((yo str0__0 pos0__0).1==95)))
def yFf (n:Nat) (r0:List UInt8→List UInt8→Int→Option (Bool×Unit)) (ah:List UInt8) (str0__0:List UInt8) (pos0__0:Int):Option (Bool×Unit) :=
  (bif decide (pos0__0 < (↑str0__0.length:Int)) then (bif decide ((yo str0__0 pos0__0).1 ≥ 65) then (bif decide ((yo str0__0 pos0__0).1≤90) then (y2v n r0 ah str0__0 pos0__0 (Bool.true)) else (bif decide ((yo str0__0 pos0__0).1 ≥ 97) then (y2v n r0 ah str0__0 pos0__0 (decide ((yo str0__0 pos0__0).1≤122))) else (y2v n r0 ah str0__0 pos0__0 (Bool.false)))) else (bif decide ((yo str0__0 pos0__0).1 ≥ 97) then (y2v n r0 ah str0__0 pos0__0 (decide ((yo str0__0 pos0__0).1≤122))) else (y2v n r0 ah str0__0 pos0__0 (Bool.false)))) else (bif !ah==[] then some (decide ((↑ah.length:Int)≤24),()) else some (Bool.false,())))
def y76 (n:Nat)  (k:Nat) (ah:List UInt8) (str0__0:List UInt8) (pos0__0:Int):Option (Bool×Unit) :=
  iter (fun r y=>yFf n (fun ah str0__0 pos0__0=>r ((ah,()),(((str0__0,pos0__0),()),()))) y.1.1 y.2.1.1.1 y.2.1.1.2) k ((ah,()),(((str0__0,pos0__0),()),()))
def yK3 (n:Nat) (s:List UInt8):Option (Bool×Unit) :=
  (y76 n n (s) (s) ((0:Int)))
theorem yTo (n:Nat) (x:yOl.den):runF yPq (yLm n) Tryz.f100 yOl ySC x = yK3 n x.1 := by kernel_rfl
def y7b (ah:List UInt8) (str0__0:List UInt8) (pos0__0:Int) (j2:Bool) (j7:Bool):Option ((Bool×Unit)⊕Unit) :=
  (bif !j2 then (bif pos0__0==0 then (some (Sum.inl ((Bool.false,())))) else (bif !j7 then (some (Sum.inl ((Bool.false,())))) else (some (Sum.inr ())))) else (some (Sum.inr ())))
theorem y19 (n:Nat) (hn:big≤n)  (r0:List UInt8→List UInt8→Int→Option (Bool×Unit)) (ah:List UInt8) (str0__0:List UInt8) (pos0__0:Int) (j2:Bool) (j7:Bool):LeF (elim some fun (s__:Unit)=>r0 ah str0__0 (yo (str0__0) pos0__0).2) (y7b ah str0__0 pos0__0 j2 j7) (y58 n r0 ah str0__0 pos0__0 j2 j7) :=
  (y5 (y5 (y7 rfl) (y5 (y7 rfl) (y7 rfl))) (y7 rfl))
def y4k (ah:List UInt8) (str0__0:List UInt8) (pos0__0:Int) (j2:Bool):Option ((Bool×Unit)⊕Unit) :=
  (bif decide ((yo str0__0 pos0__0).1 ≥ 48) then (bif decide ((yo str0__0 pos0__0).1≤57) then (y7b ah str0__0 pos0__0 j2 (Bool.true)) else (y7b ah str0__0 pos0__0 j2 ((yo str0__0 pos0__0).1==95))) else (y7b ah str0__0 pos0__0 j2 ((yo str0__0 pos0__0).1==95)))
theorem y09 (n:Nat) (hn:big≤n)  (r0:List UInt8→List UInt8→Int→Option (Bool×Unit)) (ah:List UInt8) (str0__0:List UInt8) (pos0__0:Int) (j2:Bool):LeF (elim some fun (s__:Unit)=>r0 ah str0__0 (yo (str0__0) pos0__0).2) (y4k ah str0__0 pos0__0 j2) (y2v n r0 ah str0__0 pos0__0 j2) :=
  (y5 (y5 (by apply y19 n hn) (by apply y19 n hn)) (by apply y19 n hn))
def y9A (ah:List UInt8) (str0__0:List UInt8) (pos0__0:Int):Option ((Bool×Unit)⊕Unit) :=
  (bif decide ((yo str0__0 pos0__0).1 ≥ 65) then (bif decide ((yo str0__0 pos0__0).1≤90) then (y4k ah str0__0 pos0__0 (Bool.true)) else (bif decide ((yo str0__0 pos0__0).1 ≥ 97) then (y4k ah str0__0 pos0__0 (decide ((yo str0__0 pos0__0).1≤122))) else (y4k ah str0__0 pos0__0 (Bool.false)))) else (bif decide ((yo str0__0 pos0__0).1 ≥ 97) then (y4k ah str0__0 pos0__0 (decide ((yo str0__0 pos0__0).1≤122))) else (y4k ah str0__0 pos0__0 (Bool.false))))
def y9e (ah:List UInt8) (str0__0:List UInt8):Option (Bool×Unit) :=
  (bif !ah==[] then (some ((decide ((↑ah.length:Int)≤24),()))) else (some ((Bool.false,()))))
theorem yCo (n:Nat) (hn:big≤n)  (ah:List UInt8) (str0__0:List UInt8) (hx:List.length (str0__0) < lenMax):LeF some (y8z (str0__0) (fun i__ s__=>y9A ah str0__0 i__) (fun s__=>y9e ah str0__0) (List.length (str0__0)) 0 ()) (y76 n n ah str0__0 0) := by
  refine yKA (f := some) (W := fun k__ i__ s__=>y76 n k__ ah str0__0 i__) (body := (fun i__ s__=>y9A ah str0__0 i__)) (fin := (fun s__=>y9e ah str0__0)) (fun k__ i__ s__=>?_) () n (by unfold big at hn; unfold lenMax at hx; omega)
  show LeF _ _ (yFf n (y76 n k__) ah str0__0 i__)
  exact y5 (y5 (y5 (by apply y09 n hn) (y5 (by apply y09 n hn) (by apply y09 n hn))) (y5 (by apply y09 n hn) (by apply y09 n hn))) (y02 (y5 (y7 rfl) (y7 rfl)))
def yCY (s:List UInt8):Option (Bool×Unit) :=
  (bif decide (List.length (s) < lenMax) then y8z (s) (fun i__ s__=>y9A (s) (s) i__) (fun s__=>y9e (s) (s)) (List.length (s)) 0 () else none)
theorem yOz (s:List UInt8) (y:Bool×Unit) (h:yCY s = some y) : ∃ n,yK3 n s = some y :=
  ⟨big,LeF.top (show LeF some (yCY s) (yK3 big s) from (fun (n:Nat) (hn:big≤n)=>show LeF some (yCY s) (yK3 n s) from (yL fun hx=>by apply yCo n hn; exact hx)) big (Nat.le_refl _)) h⟩
def z0F_e:Entry := { f := 100,args := yOl,ress := ySC,m := fun x=>yCY x.1 }
theorem yPV:FnOK Tryz.prog z0F_e := yT (g := yPq) (fn := Tryz.f100) yH yS eNil (by kernel_rfl) (by kernel_rfl) (by kernel_rfl) (fun x y h=>let ⟨n,hn⟩ := yOz x.1 y h; ⟨yLm n,iNil,(yTo n x).trans hn⟩)
abbrev zB_a:Ty := .pair t39 (.pair t177 .unit)
abbrev zB_r:Ty := .pair t174 .unit
def zB_g:G := { T := T,E := [],muts := [5],fz := [] }
def zB_k:List (List Nat) := [[1,5,8,9,10]]
def yTl (n:Nat):Ann := { keep := zB_k,fuel := n,inl := [],deep := 0 }
def yHR (n:Nat) (r0:(Lnk×Unit→Option (Int×Unit))→List Lnk→Int→Int→List Int→Option (List Int×Unit)) (a7:Lnk×Unit→Option (Int×Unit)) (a8:List Lnk) (ae:Int) (ac:Int) (aa:List Int):Option (List Int×Unit) :=
  (bif decide (ac < ae) then (Option.bind (idx a8 ac) fun (v1:Lnk)=>(Option.bind (a7 ((v1.1,v1.2.1,v1.2.2.1,v1.2.2.2.1,v1.2.2.2.2.1,()),())) fun (v2:Int×Unit)=>(bif decide (aa.length + (1:Nat)≤memMax) then r0 a7 a8 ae (IntKind.i64.wrap (ac + 1)) (aa ++ [v2.1]) else none))) else some (aa,()))
def yAQ (n:Nat)  (k:Nat) (a7:Lnk×Unit→Option (Int×Unit)) (a8:List Lnk) (ae:Int) (ac:Int) (aa:List Int):Option (List Int×Unit) :=
  iter (fun r y=>yHR n (fun a7 a8 ae ac aa=>r ((a7,(a8,(ae,(ac,())))),((aa,()),()))) y.1.1 y.1.2.1 y.1.2.2.1 y.1.2.2.2.1 y.2.1.1) k ((a7,(a8,(ae,(ac,())))),((aa,()),()))
def zB_m (n:Nat) (l:List Lnk) (of:Lnk×Unit→Option (Int×Unit)):Option (List Int×Unit) :=
  (yAQ n n (of) (l) ((↑l.length:Int)) ((0:Int)) ([]))
theorem yVi (n:Nat) (x:zB_a.den):runF zB_g (yTl n) Tryz.f101 zB_a zB_r x = zB_m n x.1 x.2.1 := by kernel_rfl
def yKJ (a7:Lnk×Unit→Option (Int×Unit)) (a8:List Lnk) (ac:Int) (v1:Lnk) (aa:List Int):Option ((List Int×Unit)⊕(List Int)) :=
  (Option.bind (a7 ((v1.1,v1.2.1,v1.2.2.1,v1.2.2.2.1,v1.2.2.2.2.1,()),())) fun (v2:Int×Unit)=>(bif decide (aa.length + (1:Nat)≤memMax) then (some (Sum.inr (aa ++ [v2.1]))) else none))
def yOY (a7:Lnk×Unit→Option (Int×Unit)) (a8:List Lnk) (aa:List Int):Option (List Int×Unit) :=
  (some ((aa,())))
theorem yGK (n:Nat) (hn:big≤n)  (a7:Lnk×Unit→Option (Int×Unit)) (a8:List Lnk) (aa:List Int) (hx:List.length (a8) < lenMax):LeF some (yK (fun i__ e__ s__=>yKJ a7 a8 i__ e__ s__) (fun s__=>yOY a7 a8 s__) 0 (a8) aa) (yAQ n n a7 a8 (List.length (a8):Int) 0 aa) := by
  refine yN (f := some) (W := fun k__ i__ s__=>yAQ n k__ a7 a8 (List.length (a8):Int) i__ s__) (body := (fun i__ e__ s__=>yKJ a7 a8 i__ e__ s__)) (fin := (fun s__=>yOY a7 a8 s__)) (fun k__ i__ s__=>?_) hx aa n (by unfold big at hn; unfold lenMax at hx; omega)
  show LeF _ _ (yHR n (yAQ n k__) a7 a8 (List.length (a8):Int) i__ s__)
  exact y5 (y9 fun v1=>(y9 fun v2=>(y5 (y7 rfl) yp))) (y02 (y7 rfl))
def zB_M (l:List Lnk) (of:Lnk×Unit→Option (Int×Unit)):Option (List Int×Unit) :=
  (bif decide (List.length (l) < lenMax) then yK (fun i__ e__ s__=>yKJ (of) (l) i__ e__ s__) (fun s__=>yOY (of) (l) s__) 0 (l) ([]) else none)
theorem yPI (l:List Lnk) (of:Lnk×Unit→Option (Int×Unit)) (y:List Int×Unit) (h:zB_M l of = some y) : ∃ n,zB_m n l of = some y :=
  ⟨big,LeF.top (show LeF some (zB_M l of) (zB_m big l of) from (fun (n:Nat) (hn:big≤n)=>show LeF some (zB_M l of) (zB_m n l of) from (yL fun hx=>by apply yGK n hn; exact hx)) big (Nat.le_refl _)) h⟩
def zB_e:Entry := { f := 101,args := zB_a,ress := zB_r,m := fun x=>zB_M x.1 x.2.1 }
theorem yW9:FnOK Tryz.prog zB_e := yT (g := zB_g) (fn := Tryz.f101) yH yS eNil (by kernel_rfl) (by kernel_rfl) (by kernel_rfl) (fun x y h=>let ⟨n,hn⟩ := yPI x.1 x.2.1 y h; ⟨yTl n,iNil,(yVi n x).trans hn⟩)
abbrev z6_a:Ty := .pair t108 (.pair t186 .unit)
abbrev z6_r:Ty := .pair t54 .unit
def z6_g:G := { T := T,E := [],muts := [5],fz := [] }
def z6_k:List (List Nat) := [[1,5,8,9,10]]
def ySD (n:Nat):Ann := { keep := z6_k,fuel := n,inl := [],deep := 0 }
def yHg (n:Nat) (r0:(Rng×Unit→Option (Cnd×Unit))→List Rng→Int→Int→List Cnd→Option (List Cnd×Unit)) (a7:Rng×Unit→Option (Cnd×Unit)) (a8:List Rng) (ae:Int) (ac:Int) (aa:List Cnd):Option (List Cnd×Unit) :=
  (bif decide (ac < ae) then (Option.bind (idx a8 ac) fun (v1:Rng)=>(Option.bind (a7 (((v1.1.1,v1.1.2.1,()),v1.2.1,v1.2.2.1,()),())) fun (v2:Cnd×Unit)=>(bif decide (aa.length + (1:Nat)≤memMax) then r0 a7 a8 ae (IntKind.i64.wrap (ac + 1)) (aa ++ [v2.1]) else none))) else some (aa,()))
def yAX (n:Nat)  (k:Nat) (a7:Rng×Unit→Option (Cnd×Unit)) (a8:List Rng) (ae:Int) (ac:Int) (aa:List Cnd):Option (List Cnd×Unit) :=
  iter (fun r y=>yHg n (fun a7 a8 ae ac aa=>r ((a7,(a8,(ae,(ac,())))),((aa,()),()))) y.1.1 y.1.2.1 y.1.2.2.1 y.1.2.2.2.1 y.2.1.1) k ((a7,(a8,(ae,(ac,())))),((aa,()),()))
def z6_m (n:Nat) (l:List Rng) (of:Rng×Unit→Option (Cnd×Unit)):Option (List Cnd×Unit) :=
  (yAX n n (of) (l) ((↑l.length:Int)) ((0:Int)) ([]))
theorem yUD (n:Nat) (x:z6_a.den):runF z6_g (ySD n) Tryz.f109 z6_a z6_r x = z6_m n x.1 x.2.1 := by kernel_rfl
def yK0 (a7:Rng×Unit→Option (Cnd×Unit)) (a8:List Rng) (ac:Int) (v1:Rng) (aa:List Cnd):Option ((List Cnd×Unit)⊕(List Cnd)) :=
  (Option.bind (a7 (((v1.1.1,v1.1.2.1,()),v1.2.1,v1.2.2.1,()),())) fun (v2:Cnd×Unit)=>(bif decide (aa.length + (1:Nat)≤memMax) then (some (Sum.inr (aa ++ [v2.1]))) else none))
def yNT (a7:Rng×Unit→Option (Cnd×Unit)) (a8:List Rng) (aa:List Cnd):Option (List Cnd×Unit) :=
  (some ((aa,())))
theorem yG1 (n:Nat) (hn:big≤n)  (a7:Rng×Unit→Option (Cnd×Unit)) (a8:List Rng) (aa:List Cnd) (hx:List.length (a8) < lenMax):LeF some (yK (fun i__ e__ s__=>yK0 a7 a8 i__ e__ s__) (fun s__=>yNT a7 a8 s__) 0 (a8) aa) (yAX n n a7 a8 (List.length (a8):Int) 0 aa) := by
  refine yN (f := some) (W := fun k__ i__ s__=>yAX n k__ a7 a8 (List.length (a8):Int) i__ s__) (body := (fun i__ e__ s__=>yK0 a7 a8 i__ e__ s__)) (fin := (fun s__=>yNT a7 a8 s__)) (fun k__ i__ s__=>?_) hx aa n (by unfold big at hn; unfold lenMax at hx; omega)
  show LeF _ _ (yHg n (yAX n k__) a7 a8 (List.length (a8):Int) i__ s__)
  exact y5 (y9 fun v1=>(y9 fun v2=>(y5 (y7 rfl) yp))) (y02 (y7 rfl))
def z6_M (l:List Rng) (of:Rng×Unit→Option (Cnd×Unit)):Option (List Cnd×Unit) :=
  (bif decide (List.length (l) < lenMax) then yK (fun i__ e__ s__=>yK0 (of) (l) i__ e__ s__) (fun s__=>yNT (of) (l) s__) 0 (l) ([]) else none)
theorem yU5 (l:List Rng) (of:Rng×Unit→Option (Cnd×Unit)) (y:List Cnd×Unit) (h:z6_M l of = some y) : ∃ n,z6_m n l of = some y :=
  ⟨big,LeF.top (show LeF some (z6_M l of) (z6_m big l of) from (fun (n:Nat) (hn:big≤n)=>show LeF some (z6_M l of) (z6_m n l of) from (yL fun hx=>by apply yG1 n hn; exact hx)) big (Nat.le_refl _)) h⟩
def z6_e:Entry := { f := 109,args := z6_a,ress := z6_r,m := fun x=>z6_M x.1 x.2.1 }
theorem yQN:FnOK Tryz.prog z6_e := yT (g := z6_g) (fn := Tryz.f109) yH yS eNil (by kernel_rfl) (by kernel_rfl) (by kernel_rfl) (fun x y h=>let ⟨n,hn⟩ := yU5 x.1 x.2.1 y h; ⟨ySD n,iNil,(yUD n x).trans hn⟩)
abbrev zM_a:Ty := .pair t26 (.pair t208 .unit)
abbrev zM_r:Ty := .pair t67 .unit
def zM_g:G := { T := T,E := [],muts := [5],fz := [] }
def zM_k:List (List Nat) := [[1,5,8,9,10]]
def yU8 (n:Nat):Ann := { keep := zM_k,fuel := n,inl := [],deep := 0 }
def yHt (n:Nat) (r0:(Int×Unit→Option (List UInt8×Unit))→List Int→Int→Int→List (List UInt8)→Option (List (List UInt8)×Unit)) (a7:Int×Unit→Option (List UInt8×Unit)) (a8:List Int) (ae:Int) (ac:Int) (aa:List (List UInt8)):Option (List (List UInt8)×Unit) :=
  (bif decide (ac < ae) then (Option.bind (idx a8 ac) fun (v1:Int)=>(Option.bind (a7 (v1,())) fun (v2:List UInt8×Unit)=>(bif decide (aa.length + (1:Nat)≤memMax) then r0 a7 a8 ae (IntKind.i64.wrap (ac + 1)) (aa ++ [v2.1]) else none))) else some (aa,()))
def yB8 (n:Nat)  (k:Nat) (a7:Int×Unit→Option (List UInt8×Unit)) (a8:List Int) (ae:Int) (ac:Int) (aa:List (List UInt8)):Option (List (List UInt8)×Unit) :=
  iter (fun r y=>yHt n (fun a7 a8 ae ac aa=>r ((a7,(a8,(ae,(ac,())))),((aa,()),()))) y.1.1 y.1.2.1 y.1.2.2.1 y.1.2.2.2.1 y.2.1.1) k ((a7,(a8,(ae,(ac,())))),((aa,()),()))
def zM_m (n:Nat) (l:List Int) (of:Int×Unit→Option (List UInt8×Unit)):Option (List (List UInt8)×Unit) :=
  (yB8 n n (of) (l) ((↑l.length:Int)) ((0:Int)) ([]))
theorem yUE (n:Nat) (x:zM_a.den):runF zM_g (yU8 n) Tryz.f128 zM_a zM_r x = zM_m n x.1 x.2.1 := by kernel_rfl
def yNu (a7:Int×Unit→Option (List UInt8×Unit)) (a8:List Int) (ac:Int) (v1:Int) (aa:List (List UInt8)):Option ((List (List UInt8)×Unit)⊕(List (List UInt8))) :=
  (Option.bind (a7 (v1,())) fun (v2:List UInt8×Unit)=>(bif decide (aa.length + (1:Nat)≤memMax) then (some (Sum.inr (aa ++ [v2.1]))) else none))
def yOI (a7:Int×Unit→Option (List UInt8×Unit)) (a8:List Int) (aa:List (List UInt8)):Option (List (List UInt8)×Unit) :=
  (some ((aa,())))
theorem yFv (n:Nat) (hn:big≤n)  (a7:Int×Unit→Option (List UInt8×Unit)) (a8:List Int) (aa:List (List UInt8)) (hx:List.length (a8) < lenMax):LeF some (yK (fun i__ e__ s__=>yNu a7 a8 i__ e__ s__) (fun s__=>yOI a7 a8 s__) 0 (a8) aa) (yB8 n n a7 a8 (List.length (a8):Int) 0 aa) := by
  refine yN (f := some) (W := fun k__ i__ s__=>yB8 n k__ a7 a8 (List.length (a8):Int) i__ s__) (body := (fun i__ e__ s__=>yNu a7 a8 i__ e__ s__)) (fin := (fun s__=>yOI a7 a8 s__)) (fun k__ i__ s__=>?_) hx aa n (by unfold big at hn; unfold lenMax at hx; omega)
  show LeF _ _ (yHt n (yB8 n k__) a7 a8 (List.length (a8):Int) i__ s__)
  exact y5 (y9 fun v1=>(y9 fun v2=>(y5 (y7 rfl) yp))) (y02 (y7 rfl))
def zM_M (l:List Int) (of:Int×Unit→Option (List UInt8×Unit)):Option (List (List UInt8)×Unit) :=
  (bif decide (List.length (l) < lenMax) then yK (fun i__ e__ s__=>yNu (of) (l) i__ e__ s__) (fun s__=>yOI (of) (l) s__) 0 (l) ([]) else none)
theorem yRa (l:List Int) (of:Int×Unit→Option (List UInt8×Unit)) (y:List (List UInt8)×Unit) (h:zM_M l of = some y) : ∃ n,zM_m n l of = some y :=
  ⟨big,LeF.top (show LeF some (zM_M l of) (zM_m big l of) from (fun (n:Nat) (hn:big≤n)=>show LeF some (zM_M l of) (zM_m n l of) from (yL fun hx=>by apply yFv n hn; exact hx)) big (Nat.le_refl _)) h⟩
def zM_e:Entry := { f := 128,args := zM_a,ress := zM_r,m := fun x=>zM_M x.1 x.2.1 }
theorem yUT:FnOK Tryz.prog zM_e := yT (g := zM_g) (fn := Tryz.f128) yH yS eNil (by kernel_rfl) (by kernel_rfl) (by kernel_rfl) (fun x y h=>let ⟨n,hn⟩ := yRa x.1 x.2.1 y h; ⟨yU8 n,iNil,(yUE n x).trans hn⟩)
abbrev zH_a:Ty := .pair t26 (.pair t176 .unit)
abbrev zH_r:Ty := .pair t174 .unit
def zH_g:G := { T := T,E := [],muts := [5],fz := [] }
def zH_k:List (List Nat) := [[1,5,8,9,10]]
def yRm (n:Nat):Ann := { keep := zH_k,fuel := n,inl := [],deep := 0 }
def yI9 (n:Nat) (r0:(Int×Unit→Option (Int×Unit))→List Int→Int→Int→List Int→Option (List Int×Unit)) (a7:Int×Unit→Option (Int×Unit)) (a8:List Int) (ae:Int) (ac:Int) (aa:List Int):Option (List Int×Unit) :=
  (bif decide (ac < ae) then (Option.bind (idx a8 ac) fun (v1:Int)=>(Option.bind (a7 (v1,())) fun (v2:Int×Unit)=>(bif decide (aa.length + (1:Nat)≤memMax) then r0 a7 a8 ae (IntKind.i64.wrap (ac + 1)) (aa ++ [v2.1]) else none))) else some (aa,()))
def yB4 (n:Nat)  (k:Nat) (a7:Int×Unit→Option (Int×Unit)) (a8:List Int) (ae:Int) (ac:Int) (aa:List Int):Option (List Int×Unit) :=
  iter (fun r y=>yI9 n (fun a7 a8 ae ac aa=>r ((a7,(a8,(ae,(ac,())))),((aa,()),()))) y.1.1 y.1.2.1 y.1.2.2.1 y.1.2.2.2.1 y.2.1.1) k ((a7,(a8,(ae,(ac,())))),((aa,()),()))
def zH_m (n:Nat) (l:List Int) (of:Int×Unit→Option (Int×Unit)):Option (List Int×Unit) :=
  (yB4 n n (of) (l) ((↑l.length:Int)) ((0:Int)) ([]))
theorem yVz (n:Nat) (x:zH_a.den):runF zH_g (yRm n) Tryz.f138 zH_a zH_r x = zH_m n x.1 x.2.1 := by kernel_rfl
def yNn (a7:Int×Unit→Option (Int×Unit)) (a8:List Int) (ac:Int) (v1:Int) (aa:List Int):Option ((List Int×Unit)⊕(List Int)) :=
  (Option.bind (a7 (v1,())) fun (v2:Int×Unit)=>(bif decide (aa.length + (1:Nat)≤memMax) then (some (Sum.inr (aa ++ [v2.1]))) else none))
def yN7 (a7:Int×Unit→Option (Int×Unit)) (a8:List Int) (aa:List Int):Option (List Int×Unit) :=
  (some ((aa,())))
theorem yFy (n:Nat) (hn:big≤n)  (a7:Int×Unit→Option (Int×Unit)) (a8:List Int) (aa:List Int) (hx:List.length (a8) < lenMax):LeF some (yK (fun i__ e__ s__=>yNn a7 a8 i__ e__ s__) (fun s__=>yN7 a7 a8 s__) 0 (a8) aa) (yB4 n n a7 a8 (List.length (a8):Int) 0 aa) := by
  refine yN (f := some) (W := fun k__ i__ s__=>yB4 n k__ a7 a8 (List.length (a8):Int) i__ s__) (body := (fun i__ e__ s__=>yNn a7 a8 i__ e__ s__)) (fin := (fun s__=>yN7 a7 a8 s__)) (fun k__ i__ s__=>?_) hx aa n (by unfold big at hn; unfold lenMax at hx; omega)
  show LeF _ _ (yI9 n (yB4 n k__) a7 a8 (List.length (a8):Int) i__ s__)
  exact y5 (y9 fun v1=>(y9 fun v2=>(y5 (y7 rfl) yp))) (y02 (y7 rfl))
def zH_M (l:List Int) (of:Int×Unit→Option (Int×Unit)):Option (List Int×Unit) :=
  (bif decide (List.length (l) < lenMax) then yK (fun i__ e__ s__=>yNn (of) (l) i__ e__ s__) (fun s__=>yN7 (of) (l) s__) 0 (l) ([]) else none)
theorem yRz (l:List Int) (of:Int×Unit→Option (Int×Unit)) (y:List Int×Unit) (h:zH_M l of = some y) : ∃ n,zH_m n l of = some y :=
  ⟨big,LeF.top (show LeF some (zH_M l of) (zH_m big l of) from (fun (n:Nat) (hn:big≤n)=>show LeF some (zH_M l of) (zH_m n l of) from (yL fun hx=>by apply yFy n hn; exact hx)) big (Nat.le_refl _)) h⟩
def zH_e:Entry := { f := 138,args := zH_a,ress := zH_r,m := fun x=>zH_M x.1 x.2.1 }
theorem yQu:FnOK Tryz.prog zH_e := yT (g := zH_g) (fn := Tryz.f138) yH yS eNil (by kernel_rfl) (by kernel_rfl) (by kernel_rfl) (fun x y h=>let ⟨n,hn⟩ := yRz x.1 x.2.1 y h; ⟨yRm n,iNil,(yVz n x).trans hn⟩)
abbrev yNU:Ty := .pair t9 .unit
abbrev yRK:Ty := .pair t4 .unit
def ySN:G := { T := T,E := [],muts := [],fz := [] }
def yVn:List (List Nat) := [[0,3,25,26,29,30,31,32,33,34,39,40,41,42,43,44,45,46,47,48]]
def yMV (n:Nat):Ann := { keep := yVn,fuel := n,inl := [],deep := 0 }
def y3i (n:Nat) (r2:List UInt8→Int→Option (Bool×Unit)) (ak:List UInt8) (aq:Int) (v3:UInt8):Option (Bool×Unit) :=
  (bif aq==0 then some (Bool.false,()) else (bif (↑v3.toNat:Int) != 95 then (bif decide ((↑v3.toNat:Int) < 48) then some (Bool.false,()) else (bif decide ((↑v3.toNat:Int) > 57) then some (Bool.false,()) else r2 ak (IntKind.i64.wrap (aq + 1)))) else r2 ak (IntKind.i64.wrap (aq + 1))))
def yF4 (n:Nat) (r2:List UInt8→Int→Option (Bool×Unit)) (ak:List UInt8) (aq:Int):Option (Bool×Unit) :=
  (bif decide (aq < (↑ak.length:Int)) then (Option.bind (idx ak aq) fun (v3:UInt8)=>(bif decide ((↑v3.toNat:Int) ≥ 97) then (bif decide ((↑v3.toNat:Int)≤122) then r2 ak (IntKind.i64.wrap (aq + 1)) else (bif decide ((↑v3.toNat:Int) ≥ 65) then (bif decide ((↑v3.toNat:Int)≤90) then r2 ak (IntKind.i64.wrap (aq + 1)) else (y3i n r2 ak aq v3)) else (y3i n r2 ak aq v3))) else (bif decide ((↑v3.toNat:Int) ≥ 65) then (bif decide ((↑v3.toNat:Int)≤90) then r2 ak (IntKind.i64.wrap (aq + 1)) else (y3i n r2 ak aq v3)) else (y3i n r2 ak aq v3)))) else some (Bool.true,()))
def y6t (n:Nat)  (k:Nat) (ak:List UInt8) (aq:Int):Option (Bool×Unit) :=
  iter (fun r y=>yF4 n (fun ak aq=>r ((ak,(aq,())),((),()))) y.1.1 y.1.2.1) k ((ak,(aq,())),((),()))
def yLN (n:Nat) (s:List UInt8):Option (Bool×Unit) :=
  (bif (↑s.length:Int)==0 then some (Bool.false,()) else (bif decide ((↑s.length:Int) > 24) then some (Bool.false,()) else (y6t n n (s) ((0:Int)))))
theorem yQw (n:Nat) (x:yNU.den):runF ySN (yMV n) Tryz.f143 yNU yRK x = yLN n x.1 := by kernel_rfl
def y6B (ak:List UInt8) (aq:Int) (v3:UInt8):Option ((Bool×Unit)⊕Unit) :=
  (bif aq==0 then (some (Sum.inl ((Bool.false,())))) else (bif (↑v3.toNat:Int) != 95 then (bif decide ((↑v3.toNat:Int) < 48) then (some (Sum.inl ((Bool.false,())))) else (bif decide ((↑v3.toNat:Int) > 57) then (some (Sum.inl ((Bool.false,())))) else (some (Sum.inr ())))) else (some (Sum.inr ()))))
theorem y0T (n:Nat) (hn:big≤n)  (r2:List UInt8→Int→Option (Bool×Unit)) (ak:List UInt8) (aq:Int) (v3:UInt8):LeF (elim some fun (s__:Unit)=>r2 ak (IntKind.i64.wrap (aq + 1))) (y6B ak aq v3) (y3i n r2 ak aq v3) :=
  (y5 (y7 rfl) (y5 (y5 (y7 rfl) (y5 (y7 rfl) (y7 rfl))) (y7 rfl)))
def y9d (ak:List UInt8) (aq:Int) (v3:UInt8):Option ((Bool×Unit)⊕Unit) :=
  (bif decide ((↑v3.toNat:Int) ≥ 97) then (bif decide ((↑v3.toNat:Int)≤122) then (some (Sum.inr ())) else (bif decide ((↑v3.toNat:Int) ≥ 65) then (bif decide ((↑v3.toNat:Int)≤90) then (some (Sum.inr ())) else (y6B ak aq v3)) else (y6B ak aq v3))) else (bif decide ((↑v3.toNat:Int) ≥ 65) then (bif decide ((↑v3.toNat:Int)≤90) then (some (Sum.inr ())) else (y6B ak aq v3)) else (y6B ak aq v3)))
def yFF (ak:List UInt8):Option (Bool×Unit) :=
  (some ((Bool.true,())))
theorem yDy (n:Nat) (hn:big≤n)  (ak:List UInt8) (hx:List.length (ak) < lenMax):LeF some (yK (fun i__ e__ s__=>y9d ak i__ e__) (fun s__=>yFF ak) 0 (ak) ()) (y6t n n ak 0) := by
  refine yN (f := some) (W := fun k__ i__ s__=>y6t n k__ ak i__) (body := (fun i__ e__ s__=>y9d ak i__ e__)) (fin := (fun s__=>yFF ak)) (fun k__ i__ s__=>?_) hx () n (by unfold big at hn; unfold lenMax at hx; omega)
  show LeF _ _ (yF4 n (y6t n k__) ak i__)
  exact y5 (y9 fun v3=>(y5 (y5 (y7 rfl) (y5 (y5 (y7 rfl) (by apply y0T n hn)) (by apply y0T n hn))) (y5 (y5 (y7 rfl) (by apply y0T n hn)) (by apply y0T n hn)))) (y02 (y7 rfl))
def yCM (s:List UInt8):Option (Bool×Unit) :=
  (bif (↑s.length:Int)==0 then (some ((Bool.false,()))) else (bif decide ((↑s.length:Int) > 24) then (some ((Bool.false,()))) else (bif decide (List.length (s) < lenMax) then yK (fun i__ e__ s__=>y9d (s) i__ e__) (fun s__=>yFF (s)) 0 (s) () else none)))
theorem yOA (s:List UInt8) (y:Bool×Unit) (h:yCM s = some y) : ∃ n,yLN n s = some y :=
  ⟨big,LeF.top (show LeF some (yCM s) (yLN big s) from (fun (n:Nat) (hn:big≤n)=>show LeF some (yCM s) (yLN n s) from (y5 (y7 rfl) (y5 (y7 rfl) (yL fun hx=>by apply yDy n hn; exact hx)))) big (Nat.le_refl _)) h⟩
def z0H_e:Entry := { f := 143,args := yNU,ress := yRK,m := fun x=>yCM x.1 }
theorem yRt:FnOK Tryz.prog z0H_e := yT (g := ySN) (fn := Tryz.f143) yH yS eNil (by kernel_rfl) (by kernel_rfl) (by kernel_rfl) (fun x y h=>let ⟨n,hn⟩ := yOA x.1 y h; ⟨yMV n,iNil,(yQw n x).trans hn⟩)
abbrev z7_a:Ty := .pair t54 (.pair t156 .unit)
abbrev z7_r:Ty := .pair t174 .unit
def z7_g:G := { T := T,E := [],muts := [5],fz := [] }
def z7_k:List (List Nat) := [[1,5,8,9,10]]
def yQn (n:Nat):Ann := { keep := z7_k,fuel := n,inl := [],deep := 0 }
def yJA (n:Nat) (r0:(Cnd×Unit→Option (Int×Unit))→List Cnd→Int→Int→List Int→Option (List Int×Unit)) (a7:Cnd×Unit→Option (Int×Unit)) (a8:List Cnd) (ae:Int) (ac:Int) (aa:List Int):Option (List Int×Unit) :=
  (bif decide (ac < ae) then (Option.bind (idx a8 ac) fun (v1:Cnd)=>(Option.bind (a7 ((v1.1,v1.2.1,v1.2.2.1,()),())) fun (v2:Int×Unit)=>(bif decide (aa.length + (1:Nat)≤memMax) then r0 a7 a8 ae (IntKind.i64.wrap (ac + 1)) (aa ++ [v2.1]) else none))) else some (aa,()))
def yAl (n:Nat)  (k:Nat) (a7:Cnd×Unit→Option (Int×Unit)) (a8:List Cnd) (ae:Int) (ac:Int) (aa:List Int):Option (List Int×Unit) :=
  iter (fun r y=>yJA n (fun a7 a8 ae ac aa=>r ((a7,(a8,(ae,(ac,())))),((aa,()),()))) y.1.1 y.1.2.1 y.1.2.2.1 y.1.2.2.2.1 y.2.1.1) k ((a7,(a8,(ae,(ac,())))),((aa,()),()))
def z7_m (n:Nat) (l:List Cnd) (of:Cnd×Unit→Option (Int×Unit)):Option (List Int×Unit) :=
  (yAl n n (of) (l) ((↑l.length:Int)) ((0:Int)) ([]))
theorem yUk (n:Nat) (x:z7_a.den):runF z7_g (yQn n) Tryz.f147 z7_a z7_r x = z7_m n x.1 x.2.1 := by kernel_rfl
def yOZ (a7:Cnd×Unit→Option (Int×Unit)) (a8:List Cnd) (ac:Int) (v1:Cnd) (aa:List Int):Option ((List Int×Unit)⊕(List Int)) :=
  (Option.bind (a7 ((v1.1,v1.2.1,v1.2.2.1,()),())) fun (v2:Int×Unit)=>(bif decide (aa.length + (1:Nat)≤memMax) then (some (Sum.inr (aa ++ [v2.1]))) else none))
def yNy (a7:Cnd×Unit→Option (Int×Unit)) (a8:List Cnd) (aa:List Int):Option (List Int×Unit) :=
  (some ((aa,())))
theorem yG2 (n:Nat) (hn:big≤n)  (a7:Cnd×Unit→Option (Int×Unit)) (a8:List Cnd) (aa:List Int) (hx:List.length (a8) < lenMax):LeF some (yK (fun i__ e__ s__=>yOZ a7 a8 i__ e__ s__) (fun s__=>yNy a7 a8 s__) 0 (a8) aa) (yAl n n a7 a8 (List.length (a8):Int) 0 aa) := by
  refine yN (f := some) (W := fun k__ i__ s__=>yAl n k__ a7 a8 (List.length (a8):Int) i__ s__) (body := (fun i__ e__ s__=>yOZ a7 a8 i__ e__ s__)) (fin := (fun s__=>yNy a7 a8 s__)) (fun k__ i__ s__=>?_) hx aa n (by unfold big at hn; unfold lenMax at hx; omega)
  show LeF _ _ (yJA n (yAl n k__) a7 a8 (List.length (a8):Int) i__ s__)
  exact y5 (y9 fun v1=>(y9 fun v2=>(y5 (y7 rfl) yp))) (y02 (y7 rfl))
def z7_M (l:List Cnd) (of:Cnd×Unit→Option (Int×Unit)):Option (List Int×Unit) :=
  (bif decide (List.length (l) < lenMax) then yK (fun i__ e__ s__=>yOZ (of) (l) i__ e__ s__) (fun s__=>yNy (of) (l) s__) 0 (l) ([]) else none)
theorem yQs (l:List Cnd) (of:Cnd×Unit→Option (Int×Unit)) (y:List Int×Unit) (h:z7_M l of = some y) : ∃ n,z7_m n l of = some y :=
  ⟨big,LeF.top (show LeF some (z7_M l of) (z7_m big l of) from (fun (n:Nat) (hn:big≤n)=>show LeF some (z7_M l of) (z7_m n l of) from (yL fun hx=>by apply yG2 n hn; exact hx)) big (Nat.le_refl _)) h⟩
def z7_e:Entry := { f := 147,args := z7_a,ress := z7_r,m := fun x=>z7_M x.1 x.2.1 }
theorem yUx:FnOK Tryz.prog z7_e := yT (g := z7_g) (fn := Tryz.f147) yH yS eNil (by kernel_rfl) (by kernel_rfl) (by kernel_rfl) (fun x y h=>let ⟨n,hn⟩ := yQs x.1 x.2.1 y h; ⟨yQn n,iNil,(yUk n x).trans hn⟩)
abbrev zC_a:Ty := .pair t167 (.pair t237 .unit)
abbrev zC_r:Ty := .pair t56 .unit
def zC_g:G := { T := T,E := [],muts := [5],fz := [] }
def zC_k:List (List Nat) := [[1,5,8,9,10]]
def yQe (n:Nat):Ann := { keep := zC_k,fuel := n,inl := [],deep := 0 }
def yIf (n:Nat) (r0:(Psg×Unit→Option (List Int×Unit))→List Psg→Int→Int→List (List Int)→Option (List (List Int)×Unit)) (a7:Psg×Unit→Option (List Int×Unit)) (a8:List Psg) (ae:Int) (ac:Int) (aa:List (List Int)):Option (List (List Int)×Unit) :=
  (bif decide (ac < ae) then (Option.bind (idx a8 ac) fun (v1:Psg)=>(Option.bind (a7 (((v1.1.1,v1.1.2.1,v1.1.2.2.1,()),v1.2.1,v1.2.2.1,()),())) fun (v2:List Int×Unit)=>(bif decide (aa.length + (1:Nat)≤memMax) then r0 a7 a8 ae (IntKind.i64.wrap (ac + 1)) (aa ++ [v2.1]) else none))) else some (aa,()))
def yBB (n:Nat)  (k:Nat) (a7:Psg×Unit→Option (List Int×Unit)) (a8:List Psg) (ae:Int) (ac:Int) (aa:List (List Int)):Option (List (List Int)×Unit) :=
  iter (fun r y=>yIf n (fun a7 a8 ae ac aa=>r ((a7,(a8,(ae,(ac,())))),((aa,()),()))) y.1.1 y.1.2.1 y.1.2.2.1 y.1.2.2.2.1 y.2.1.1) k ((a7,(a8,(ae,(ac,())))),((aa,()),()))
def zC_m (n:Nat) (l:List Psg) (of:Psg×Unit→Option (List Int×Unit)):Option (List (List Int)×Unit) :=
  (yBB n n (of) (l) ((↑l.length:Int)) ((0:Int)) ([]))
theorem yVH (n:Nat) (x:zC_a.den):runF zC_g (yQe n) Tryz.f148 zC_a zC_r x = zC_m n x.1 x.2.1 := by kernel_rfl
def yKd (a7:Psg×Unit→Option (List Int×Unit)) (a8:List Psg) (ac:Int) (v1:Psg) (aa:List (List Int)):Option ((List (List Int)×Unit)⊕(List (List Int))) :=
  (Option.bind (a7 (((v1.1.1,v1.1.2.1,v1.1.2.2.1,()),v1.2.1,v1.2.2.1,()),())) fun (v2:List Int×Unit)=>(bif decide (aa.length + (1:Nat)≤memMax) then (some (Sum.inr (aa ++ [v2.1]))) else none))
def yMz (a7:Psg×Unit→Option (List Int×Unit)) (a8:List Psg) (aa:List (List Int)):Option (List (List Int)×Unit) :=
  (some ((aa,())))
theorem yFu (n:Nat) (hn:big≤n)  (a7:Psg×Unit→Option (List Int×Unit)) (a8:List Psg) (aa:List (List Int)) (hx:List.length (a8) < lenMax):LeF some (yK (fun i__ e__ s__=>yKd a7 a8 i__ e__ s__) (fun s__=>yMz a7 a8 s__) 0 (a8) aa) (yBB n n a7 a8 (List.length (a8):Int) 0 aa) := by
  refine yN (f := some) (W := fun k__ i__ s__=>yBB n k__ a7 a8 (List.length (a8):Int) i__ s__) (body := (fun i__ e__ s__=>yKd a7 a8 i__ e__ s__)) (fin := (fun s__=>yMz a7 a8 s__)) (fun k__ i__ s__=>?_) hx aa n (by unfold big at hn; unfold lenMax at hx; omega)
  show LeF _ _ (yIf n (yBB n k__) a7 a8 (List.length (a8):Int) i__ s__)
  exact y5 (y9 fun v1=>(y9 fun v2=>(y5 (y7 rfl) yp))) (y02 (y7 rfl))
def zC_M (l:List Psg) (of:Psg×Unit→Option (List Int×Unit)):Option (List (List Int)×Unit) :=
  (bif decide (List.length (l) < lenMax) then yK (fun i__ e__ s__=>yKd (of) (l) i__ e__ s__) (fun s__=>yMz (of) (l) s__) 0 (l) ([]) else none)
theorem ySU (l:List Psg) (of:Psg×Unit→Option (List Int×Unit)) (y:List (List Int)×Unit) (h:zC_M l of = some y) : ∃ n,zC_m n l of = some y :=
  ⟨big,LeF.top (show LeF some (zC_M l of) (zC_m big l of) from (fun (n:Nat) (hn:big≤n)=>show LeF some (zC_M l of) (zC_m n l of) from (yL fun hx=>by apply yFu n hn; exact hx)) big (Nat.le_refl _)) h⟩
def zC_e:Entry := { f := 148,args := zC_a,ress := zC_r,m := fun x=>zC_M x.1 x.2.1 }
theorem yUj:FnOK Tryz.prog zC_e := yT (g := zC_g) (fn := Tryz.f148) yH yS eNil (by kernel_rfl) (by kernel_rfl) (by kernel_rfl) (fun x y h=>let ⟨n,hn⟩ := ySU x.1 x.2.1 y h; ⟨yQe n,iNil,(yVH n x).trans hn⟩)
abbrev zw_a:Ty := .pair t180 .unit
abbrev zw_r:Ty := .pair t26 .unit
def zw_g:G := { T := T,E := [],muts := [],fz := [] }
def zw_k:List (List Nat) := []
def yU6 (n:Nat):Ann := { keep := zw_k,fuel := n,inl := [],deep := 0 }
def zw_m (n:Nat) (p:Psg):Option (List Int×Unit) :=
  some (p.2.2.1.getD [],())
theorem yVw (n:Nat) (x:zw_a.den):runF zw_g (yU6 n) Tryz.f149 zw_a zw_r x = zw_m n x.1 := by kernel_rfl
def zw (p:Psg):(List Int×Unit) :=
  (p.2.2.1.getD [],())
abbrev zw_M (p:Psg):Option (List Int×Unit) := some (zw p)
theorem yRP (p:Psg) (y:List Int×Unit) (h:zw_M p = some y) : ∃ n,zw_m n p = some y :=
  ⟨0,by rw [← h]; show zw_m 0 p = some (zw p); unfold zw_m zw; first | rfl | (simp only [yQ]; done) | (simp only [yQ]; rfl)⟩
def zw_e:Entry := { f := 149,args := zw_a,ress := zw_r,m := fun x=>zw_M x.1 }
theorem yUS:FnOK Tryz.prog zw_e := yT (g := zw_g) (fn := Tryz.f149) yH yS eNil (by kernel_rfl) (by kernel_rfl) (by kernel_rfl) (fun x y h=>let ⟨n,hn⟩ := yRP x.1 y h; ⟨yU6 n,iNil,(yVw n x).trans hn⟩)
abbrev zA_a:Ty := .pair t108 (.pair t190 .unit)
abbrev zA_r:Ty := .pair t174 .unit
def zA_g:G := { T := T,E := [],muts := [5],fz := [] }
def zA_k:List (List Nat) := [[1,5,8,9,10]]
def yQc (n:Nat):Ann := { keep := zA_k,fuel := n,inl := [],deep := 0 }
def yHY (n:Nat) (r0:(Rng×Unit→Option (Int×Unit))→List Rng→Int→Int→List Int→Option (List Int×Unit)) (a7:Rng×Unit→Option (Int×Unit)) (a8:List Rng) (ae:Int) (ac:Int) (aa:List Int):Option (List Int×Unit) :=
  (bif decide (ac < ae) then (Option.bind (idx a8 ac) fun (v1:Rng)=>(Option.bind (a7 (((v1.1.1,v1.1.2.1,()),v1.2.1,v1.2.2.1,()),())) fun (v2:Int×Unit)=>(bif decide (aa.length + (1:Nat)≤memMax) then r0 a7 a8 ae (IntKind.i64.wrap (ac + 1)) (aa ++ [v2.1]) else none))) else some (aa,()))
def yAV (n:Nat)  (k:Nat) (a7:Rng×Unit→Option (Int×Unit)) (a8:List Rng) (ae:Int) (ac:Int) (aa:List Int):Option (List Int×Unit) :=
  iter (fun r y=>yHY n (fun a7 a8 ae ac aa=>r ((a7,(a8,(ae,(ac,())))),((aa,()),()))) y.1.1 y.1.2.1 y.1.2.2.1 y.1.2.2.2.1 y.2.1.1) k ((a7,(a8,(ae,(ac,())))),((aa,()),()))
def zA_m (n:Nat) (l:List Rng) (of:Rng×Unit→Option (Int×Unit)):Option (List Int×Unit) :=
  (yAV n n (of) (l) ((↑l.length:Int)) ((0:Int)) ([]))
theorem yV6 (n:Nat) (x:zA_a.den):runF zA_g (yQc n) Tryz.f153 zA_a zA_r x = zA_m n x.1 x.2.1 := by kernel_rfl
def yLL (a7:Rng×Unit→Option (Int×Unit)) (a8:List Rng) (ac:Int) (v1:Rng) (aa:List Int):Option ((List Int×Unit)⊕(List Int)) :=
  (Option.bind (a7 (((v1.1.1,v1.1.2.1,()),v1.2.1,v1.2.2.1,()),())) fun (v2:Int×Unit)=>(bif decide (aa.length + (1:Nat)≤memMax) then (some (Sum.inr (aa ++ [v2.1]))) else none))
def yNG (a7:Rng×Unit→Option (Int×Unit)) (a8:List Rng) (aa:List Int):Option (List Int×Unit) :=
  (some ((aa,())))
theorem yG0 (n:Nat) (hn:big≤n)  (a7:Rng×Unit→Option (Int×Unit)) (a8:List Rng) (aa:List Int) (hx:List.length (a8) < lenMax):LeF some (yK (fun i__ e__ s__=>yLL a7 a8 i__ e__ s__) (fun s__=>yNG a7 a8 s__) 0 (a8) aa) (yAV n n a7 a8 (List.length (a8):Int) 0 aa) := by
  refine yN (f := some) (W := fun k__ i__ s__=>yAV n k__ a7 a8 (List.length (a8):Int) i__ s__) (body := (fun i__ e__ s__=>yLL a7 a8 i__ e__ s__)) (fin := (fun s__=>yNG a7 a8 s__)) (fun k__ i__ s__=>?_) hx aa n (by unfold big at hn; unfold lenMax at hx; omega)
  show LeF _ _ (yHY n (yAV n k__) a7 a8 (List.length (a8):Int) i__ s__)
  exact y5 (y9 fun v1=>(y9 fun v2=>(y5 (y7 rfl) yp))) (y02 (y7 rfl))
def zA_M (l:List Rng) (of:Rng×Unit→Option (Int×Unit)):Option (List Int×Unit) :=
  (bif decide (List.length (l) < lenMax) then yK (fun i__ e__ s__=>yLL (of) (l) i__ e__ s__) (fun s__=>yNG (of) (l) s__) 0 (l) ([]) else none)
theorem yPt (l:List Rng) (of:Rng×Unit→Option (Int×Unit)) (y:List Int×Unit) (h:zA_M l of = some y) : ∃ n,zA_m n l of = some y :=
  ⟨big,LeF.top (show LeF some (zA_M l of) (zA_m big l of) from (fun (n:Nat) (hn:big≤n)=>show LeF some (zA_M l of) (zA_m n l of) from (yL fun hx=>by apply yG0 n hn; exact hx)) big (Nat.le_refl _)) h⟩
def zA_e:Entry := { f := 153,args := zA_a,ress := zA_r,m := fun x=>zA_M x.1 x.2.1 }
theorem yUo:FnOK Tryz.prog zA_e := yT (g := zA_g) (fn := Tryz.f153) yH yS eNil (by kernel_rfl) (by kernel_rfl) (by kernel_rfl) (fun x y h=>let ⟨n,hn⟩ := yPt x.1 x.2.1 y h; ⟨yQc n,iNil,(yV6 n x).trans hn⟩)
abbrev z8_a:Ty := .pair t97 (.pair t246 .unit)
abbrev z8_r:Ty := .pair t174 .unit
def z8_g:G := { T := T,E := [],muts := [5],fz := [] }
def z8_k:List (List Nat) := [[1,5,8,9,10]]
def yQB (n:Nat):Ann := { keep := z8_k,fuel := n,inl := [],deep := 0 }
def yJe (n:Nat) (r0:((Int×Int×Unit)×Unit→Option (Int×Unit))→List (Int×Int×Unit)→Int→Int→List Int→Option (List Int×Unit)) (a7:(Int×Int×Unit)×Unit→Option (Int×Unit)) (a8:List (Int×Int×Unit)) (ae:Int) (ac:Int) (aa:List Int):Option (List Int×Unit) :=
  (bif decide (ac < ae) then (Option.bind (idx a8 ac) fun (v1:Int×Int×Unit)=>(Option.bind (a7 ((v1.1,v1.2.1,()),())) fun (v2:Int×Unit)=>(bif decide (aa.length + (1:Nat)≤memMax) then r0 a7 a8 ae (IntKind.i64.wrap (ac + 1)) (aa ++ [v2.1]) else none))) else some (aa,()))
def yBG (n:Nat)  (k:Nat) (a7:(Int×Int×Unit)×Unit→Option (Int×Unit)) (a8:List (Int×Int×Unit)) (ae:Int) (ac:Int) (aa:List Int):Option (List Int×Unit) :=
  iter (fun r y=>yJe n (fun a7 a8 ae ac aa=>r ((a7,(a8,(ae,(ac,())))),((aa,()),()))) y.1.1 y.1.2.1 y.1.2.2.1 y.1.2.2.2.1 y.2.1.1) k ((a7,(a8,(ae,(ac,())))),((aa,()),()))
def z8_m (n:Nat) (l:List (Int×Int×Unit)) (of:(Int×Int×Unit)×Unit→Option (Int×Unit)):Option (List Int×Unit) :=
  (yBG n n (of) (l) ((↑l.length:Int)) ((0:Int)) ([]))
theorem yVb (n:Nat) (x:z8_a.den):runF z8_g (yQB n) Tryz.f159 z8_a z8_r x = z8_m n x.1 x.2.1 := by kernel_rfl
def yLJ (a7:(Int×Int×Unit)×Unit→Option (Int×Unit)) (a8:List (Int×Int×Unit)) (ac:Int) (v1:Int×Int×Unit) (aa:List Int):Option ((List Int×Unit)⊕(List Int)) :=
  (Option.bind (a7 ((v1.1,v1.2.1,()),())) fun (v2:Int×Unit)=>(bif decide (aa.length + (1:Nat)≤memMax) then (some (Sum.inr (aa ++ [v2.1]))) else none))
def yMn (a7:(Int×Int×Unit)×Unit→Option (Int×Unit)) (a8:List (Int×Int×Unit)) (aa:List Int):Option (List Int×Unit) :=
  (some ((aa,())))
theorem yGZ (n:Nat) (hn:big≤n)  (a7:(Int×Int×Unit)×Unit→Option (Int×Unit)) (a8:List (Int×Int×Unit)) (aa:List Int) (hx:List.length (a8) < lenMax):LeF some (yK (fun i__ e__ s__=>yLJ a7 a8 i__ e__ s__) (fun s__=>yMn a7 a8 s__) 0 (a8) aa) (yBG n n a7 a8 (List.length (a8):Int) 0 aa) := by
  refine yN (f := some) (W := fun k__ i__ s__=>yBG n k__ a7 a8 (List.length (a8):Int) i__ s__) (body := (fun i__ e__ s__=>yLJ a7 a8 i__ e__ s__)) (fin := (fun s__=>yMn a7 a8 s__)) (fun k__ i__ s__=>?_) hx aa n (by unfold big at hn; unfold lenMax at hx; omega)
  show LeF _ _ (yJe n (yBG n k__) a7 a8 (List.length (a8):Int) i__ s__)
  exact y5 (y9 fun v1=>(y9 fun v2=>(y5 (y7 rfl) yp))) (y02 (y7 rfl))
def z8_M (l:List (Int×Int×Unit)) (of:(Int×Int×Unit)×Unit→Option (Int×Unit)):Option (List Int×Unit) :=
  (bif decide (List.length (l) < lenMax) then yK (fun i__ e__ s__=>yLJ (of) (l) i__ e__ s__) (fun s__=>yMn (of) (l) s__) 0 (l) ([]) else none)
theorem yRE (l:List (Int×Int×Unit)) (of:(Int×Int×Unit)×Unit→Option (Int×Unit)) (y:List Int×Unit) (h:z8_M l of = some y) : ∃ n,z8_m n l of = some y :=
  ⟨big,LeF.top (show LeF some (z8_M l of) (z8_m big l of) from (fun (n:Nat) (hn:big≤n)=>show LeF some (z8_M l of) (z8_m n l of) from (yL fun hx=>by apply yGZ n hn; exact hx)) big (Nat.le_refl _)) h⟩
def z8_e:Entry := { f := 159,args := z8_a,ress := z8_r,m := fun x=>z8_M x.1 x.2.1 }
theorem yPd:FnOK Tryz.prog z8_e := yT (g := z8_g) (fn := Tryz.f159) yH yS eNil (by kernel_rfl) (by kernel_rfl) (by kernel_rfl) (fun x y h=>let ⟨n,hn⟩ := yRE x.1 x.2.1 y h; ⟨yQB n,iNil,(yVb n x).trans hn⟩)
abbrev zD_a:Ty := .pair t97 (.pair t255 .unit)
abbrev zD_r:Ty := .pair t26 .unit
def zD_g:G := { T := T,E := [],muts := [5],fz := [] }
def zD_k:List (List Nat) := [[1,5,8,9,10]]
def yPA (n:Nat):Ann := { keep := zD_k,fuel := n,inl := [],deep := 0 }
def yHf (n:Nat) (r0:((Int×Int×Unit)×Unit→Option (Int×Unit))→List (Int×Int×Unit)→Int→Int→List Int→Option (List Int×Unit)) (a7:(Int×Int×Unit)×Unit→Option (Int×Unit)) (a8:List (Int×Int×Unit)) (ae:Int) (ac:Int) (aa:List Int):Option (List Int×Unit) :=
  (bif decide (ac < ae) then (Option.bind (idx a8 ac) fun (v1:Int×Int×Unit)=>(Option.bind (a7 ((v1.1,v1.2.1,()),())) fun (v2:Int×Unit)=>(bif decide (aa.length + (1:Nat)≤memMax) then r0 a7 a8 ae (IntKind.i64.wrap (ac + 1)) (aa ++ [v2.1]) else none))) else some (aa,()))
def yBH (n:Nat)  (k:Nat) (a7:(Int×Int×Unit)×Unit→Option (Int×Unit)) (a8:List (Int×Int×Unit)) (ae:Int) (ac:Int) (aa:List Int):Option (List Int×Unit) :=
  iter (fun r y=>yHf n (fun a7 a8 ae ac aa=>r ((a7,(a8,(ae,(ac,())))),((aa,()),()))) y.1.1 y.1.2.1 y.1.2.2.1 y.1.2.2.2.1 y.2.1.1) k ((a7,(a8,(ae,(ac,())))),((aa,()),()))
def zD_m (n:Nat) (l:List (Int×Int×Unit)) (of:(Int×Int×Unit)×Unit→Option (Int×Unit)):Option (List Int×Unit) :=
  (yBH n n (of) (l) ((↑l.length:Int)) ((0:Int)) ([]))
theorem yUg (n:Nat) (x:zD_a.den):runF zD_g (yPA n) Tryz.f164 zD_a zD_r x = zD_m n x.1 x.2.1 := by kernel_rfl
def yLX (a7:(Int×Int×Unit)×Unit→Option (Int×Unit)) (a8:List (Int×Int×Unit)) (ac:Int) (v1:Int×Int×Unit) (aa:List Int):Option ((List Int×Unit)⊕(List Int)) :=
  (Option.bind (a7 ((v1.1,v1.2.1,()),())) fun (v2:Int×Unit)=>(bif decide (aa.length + (1:Nat)≤memMax) then (some (Sum.inr (aa ++ [v2.1]))) else none))
def yNX (a7:(Int×Int×Unit)×Unit→Option (Int×Unit)) (a8:List (Int×Int×Unit)) (aa:List Int):Option (List Int×Unit) :=
  (some ((aa,())))
theorem yG6 (n:Nat) (hn:big≤n)  (a7:(Int×Int×Unit)×Unit→Option (Int×Unit)) (a8:List (Int×Int×Unit)) (aa:List Int) (hx:List.length (a8) < lenMax):LeF some (yK (fun i__ e__ s__=>yLX a7 a8 i__ e__ s__) (fun s__=>yNX a7 a8 s__) 0 (a8) aa) (yBH n n a7 a8 (List.length (a8):Int) 0 aa) := by
  refine yN (f := some) (W := fun k__ i__ s__=>yBH n k__ a7 a8 (List.length (a8):Int) i__ s__) (body := (fun i__ e__ s__=>yLX a7 a8 i__ e__ s__)) (fin := (fun s__=>yNX a7 a8 s__)) (fun k__ i__ s__=>?_) hx aa n (by unfold big at hn; unfold lenMax at hx; omega)
  show LeF _ _ (yHf n (yBH n k__) a7 a8 (List.length (a8):Int) i__ s__)
  exact y5 (y9 fun v1=>(y9 fun v2=>(y5 (y7 rfl) yp))) (y02 (y7 rfl))
def zD_M (l:List (Int×Int×Unit)) (of:(Int×Int×Unit)×Unit→Option (Int×Unit)):Option (List Int×Unit) :=
  (bif decide (List.length (l) < lenMax) then yK (fun i__ e__ s__=>yLX (of) (l) i__ e__ s__) (fun s__=>yNX (of) (l) s__) 0 (l) ([]) else none)
theorem ySA (l:List (Int×Int×Unit)) (of:(Int×Int×Unit)×Unit→Option (Int×Unit)) (y:List Int×Unit) (h:zD_M l of = some y) : ∃ n,zD_m n l of = some y :=
  ⟨big,LeF.top (show LeF some (zD_M l of) (zD_m big l of) from (fun (n:Nat) (hn:big≤n)=>show LeF some (zD_M l of) (zD_m n l of) from (yL fun hx=>by apply yG6 n hn; exact hx)) big (Nat.le_refl _)) h⟩
def zD_e:Entry := { f := 164,args := zD_a,ress := zD_r,m := fun x=>zD_M x.1 x.2.1 }
theorem yV5:FnOK Tryz.prog zD_e := yT (g := zD_g) (fn := Tryz.f164) yH yS eNil (by kernel_rfl) (by kernel_rfl) (by kernel_rfl) (fun x y h=>let ⟨n,hn⟩ := ySA x.1 x.2.1 y h; ⟨yPA n,iNil,(yUg n x).trans hn⟩)
abbrev yOR:Ty := .pair t230 .unit
abbrev yRx:Ty := .pair t3 .unit
def yRj:G := { T := T,E := [],muts := [],fz := [] }
def yUt:List (List Nat) := []
def yLs (n:Nat):Ann := { keep := yUt,fuel := n,inl := [],deep := 0 }
def yL0 (n:Nat) (p:Lnk×Int×Int×Int×Bool×Unit):Option (Int×Unit) :=
  some (if Bool.true = Bool.true then if (if IntKind.i64.wrap (p.2.1 - IntKind.i64.wrap (p.2.2.1 * p.1.2.2.2.1)) < p.1.2.2.2.2.1 then IntKind.i64.wrap (p.2.1 - IntKind.i64.wrap (p.2.2.1 * p.1.2.2.2.1)) else p.1.2.2.2.2.1) > 0 then if IntKind.i64.wrap (p.2.1 - IntKind.i64.wrap (p.2.2.1 * p.1.2.2.2.1)) < p.1.2.2.2.2.1 then IntKind.i64.wrap (p.2.1 - IntKind.i64.wrap (p.2.2.1 * p.1.2.2.2.1)) else p.1.2.2.2.2.1 else (0:Int) else if (if IntKind.i64.wrap (p.2.1 - IntKind.i64.wrap (p.2.2.1 * p.1.2.2.2.1)) < p.1.2.2.2.2.1 then IntKind.i64.wrap (p.2.1 - IntKind.i64.wrap (p.2.2.1 * p.1.2.2.2.1)) else p.1.2.2.2.2.1) < 0 then if IntKind.i64.wrap (p.2.1 - IntKind.i64.wrap (p.2.2.1 * p.1.2.2.2.1)) < p.1.2.2.2.2.1 then IntKind.i64.wrap (p.2.1 - IntKind.i64.wrap (p.2.2.1 * p.1.2.2.2.1)) else p.1.2.2.2.2.1 else (0:Int),())
theorem yQg (n:Nat) (x:yOR.den):runF yRj (yLs n) Tryz.f183 yOR yRx x = yL0 n x.1 := by kernel_rfl
def z07 (p:Lnk×Int×Int×Int×Bool×Unit):(Int×Unit) :=
  (if Bool.true = Bool.true then if (if IntKind.i64.wrap (p.2.1 - IntKind.i64.wrap (p.2.2.1 * p.1.2.2.2.1)) < p.1.2.2.2.2.1 then IntKind.i64.wrap (p.2.1 - IntKind.i64.wrap (p.2.2.1 * p.1.2.2.2.1)) else p.1.2.2.2.2.1) > 0 then if IntKind.i64.wrap (p.2.1 - IntKind.i64.wrap (p.2.2.1 * p.1.2.2.2.1)) < p.1.2.2.2.2.1 then IntKind.i64.wrap (p.2.1 - IntKind.i64.wrap (p.2.2.1 * p.1.2.2.2.1)) else p.1.2.2.2.2.1 else (0:Int) else if (if IntKind.i64.wrap (p.2.1 - IntKind.i64.wrap (p.2.2.1 * p.1.2.2.2.1)) < p.1.2.2.2.2.1 then IntKind.i64.wrap (p.2.1 - IntKind.i64.wrap (p.2.2.1 * p.1.2.2.2.1)) else p.1.2.2.2.2.1) < 0 then if IntKind.i64.wrap (p.2.1 - IntKind.i64.wrap (p.2.2.1 * p.1.2.2.2.1)) < p.1.2.2.2.2.1 then IntKind.i64.wrap (p.2.1 - IntKind.i64.wrap (p.2.2.1 * p.1.2.2.2.1)) else p.1.2.2.2.2.1 else (0:Int),())
abbrev yLb (p:Lnk×Int×Int×Int×Bool×Unit):Option (Int×Unit) := some (z07 p)
theorem yNm (p:Lnk×Int×Int×Int×Bool×Unit) (y:Int×Unit) (h:yLb p = some y) : ∃ n,yL0 n p = some y :=
  ⟨0,by rw [← h]; show yL0 0 p = some (z07 p); unfold yL0 z07; first | rfl | (simp only [yQ]; done) | (simp only [yQ]; rfl)⟩
def z07_e:Entry := { f := 183,args := yOR,ress := yRx,m := fun x=>yLb x.1 }
theorem yP9:FnOK Tryz.prog z07_e := yT (g := yRj) (fn := Tryz.f183) yH yS eNil (by kernel_rfl) (by kernel_rfl) (by kernel_rfl) (fun x y h=>let ⟨n,hn⟩ := yNm x.1 y h; ⟨yLs n,iNil,(yQg n x).trans hn⟩)
end
end Go.Tw
end
