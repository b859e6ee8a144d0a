import Derived.Test.YtkfigfhjbejikaaGreatDoorBT
import Derived.Test.YtkfigfhjbejikaaGreatDoorBA
import Derived.Test.YtkfigfhjbejikaaGreatDoorBC
import Derived.Test.YtkfigfhjbejikaaGreatDoorBD
import Derived.Test.YtkfigfhjbejikaaGreatDoorBE
import Derived.Test.YtkfigfhjbejikaaGreatDoorB16
import Derived.Test.YtkfigfhjbejikaaGreatDoorB17
set_option linter.all false
section
set_option maxRecDepth 1000000
namespace Go.Tw
open Go.Vx Go.Vx.B Go.Proofs
noncomputable section
abbrev zW_a:Ty := .pair t96 (.pair t3 (.pair t3 .unit))
abbrev zW_r:Ty := .pair t3 .unit
def zW_g:G := { T := T,E := [zo_e,z0V_e],muts := [],fz := [] }
def zW_k:List (List Nat) := []
def ySe (n:Nat):Ann := { keep := zW_k,fuel := n,inl := [],deep := 0 }
def zW_m (n:Nat) (x1:Int×Int×Unit) (low:Int) (high:Int):Option (Int×Unit) :=
  (Option.bind (y5o [(zo x1.1 low high).1,(zo x1.2.1 low high).1]) fun (v0:Int×Unit)=>(bif v0.1 != 0 then some (v0.1,()) else (bif decide (x1.1 > x1.2.1) then some ((11:Int),()) else some ((0:Int),()))))
theorem yVT (n:Nat) (x:zW_a.den):runF zW_g (ySe n) Tryz.f155 zW_a zW_r x = zW_m n x.1 x.2.1 x.2.2.1 := by kernel_rfl
def zW_M (x1:Int×Int×Unit) (low:Int) (high:Int):Option (Int×Unit) := zW_m 0 x1 low high
theorem yQQ (x1:Int×Int×Unit) (low:Int) (high:Int) (y:Int×Unit) (h:zW_M x1 low high = some y) : ∃ n,zW_m n x1 low high = some y := ⟨0,h⟩
def zW_e:Entry := { f := 155,args := zW_a,ress := zW_r,m := fun x=>zW_M x.1 x.2.1 x.2.2.1 }
theorem ySF:FnOK Tryz.prog zW_e := yT (g := zW_g) (fn := Tryz.f155) yH yS (yE yNa (yE yFb eNil)) (by kernel_rfl) (by kernel_rfl) (by kernel_rfl) (fun x y h=>let ⟨n,hn⟩ := yQQ x.1 x.2.1 x.2.2.1 y h; ⟨ySe n,iNil,(yVT n x).trans hn⟩)
abbrev zY_a:Ty := .pair t26 (.pair (.ref t41) .unit)
abbrev zY_r:Ty := .pair t4 .unit
def zY_g:G := { T := T,E := [zd_e],muts := [],fz := [] }
def zY_k:List (List Nat) := []
def yRs (n:Nat):Ann := { keep := zY_k,fuel := n,inl := [],deep := 0 }
def zY_m (n:Nat) (w:List Int) (p1:Bas):Option (Bool×Unit) :=
  (Option.bind (zd_M p1 w) fun (v0:List Int×Unit)=>some (decide ((↑v0.1.length:Int) > 0),()))
theorem yVv (n:Nat) (x:zY_a.den):runF zY_g (yRs n) Tryz.f167 zY_a zY_r x = zY_m n x.1 x.2.1 := by kernel_rfl
def zY_M (w:List Int) (p1:Bas):Option (Bool×Unit) := zY_m 0 w p1
theorem yPv (w:List Int) (p1:Bas) (y:Bool×Unit) (h:zY_M w p1 = some y) : ∃ n,zY_m n w p1 = some y := ⟨0,h⟩
def zY_e:Entry := { f := 167,args := zY_a,ress := zY_r,m := fun x=>zY_M x.1 x.2.1 }
theorem yUL:FnOK Tryz.prog zY_e := yT (g := zY_g) (fn := Tryz.f167) yH yS (yE yQ8 eNil) (by kernel_rfl) (by kernel_rfl) (by kernel_rfl) (fun x y h=>let ⟨n,hn⟩ := yPv x.1 x.2.1 y h; ⟨yRs n,iNil,(yVv n x).trans hn⟩)
abbrev zK_a:Ty := .pair t56 (.pair t181 .unit)
abbrev zK_r:Ty := .pair t3 .unit
def zK_g:G := { T := T,E := [],muts := [],fz := [] }
def zK_k:List (List Nat) := [[0,1,7,8]]
def yR8 (n:Nat):Ann := { keep := zK_k,fuel := n,inl := [],deep := 0 }
def yJu (n:Nat) (r0:List (List Int)→(List Int×Unit→Option (Bool×Unit))→Int→Int→Option (Int×Unit)) (aa:List (List Int)) (af:List Int×Unit→Option (Bool×Unit)) (aj:Int) (ae:Int):Option (Int×Unit) :=
  (bif decide (ae < aj) then (Option.bind (idx aa ae) fun (v1:List Int)=>(Option.bind (af (v1,())) fun (v2:Bool×Unit)=>(bif v2.1 then some (ae,()) else r0 aa af aj (IntKind.i64.wrap (ae + 1))))) else some ((-1:Int),()))
def yAY (n:Nat)  (k:Nat) (aa:List (List Int)) (af:List Int×Unit→Option (Bool×Unit)) (aj:Int) (ae:Int):Option (Int×Unit) :=
  iter (fun r y=>yJu n (fun aa af aj ae=>r ((aa,(af,(aj,(ae,())))),((),()))) y.1.1 y.1.2.1 y.1.2.2.1 y.1.2.2.2.1) k ((aa,(af,(aj,(ae,())))),((),()))
def zK_m (n:Nat) (s:List (List Int)) (f:List Int×Unit→Option (Bool×Unit)):Option (Int×Unit) :=
  (yAY n n (s) (f) ((↑s.length:Int)) ((0:Int)))
theorem yVd (n:Nat) (x:zK_a.den):runF zK_g (yR8 n) Tryz.f187 zK_a zK_r x = zK_m n x.1 x.2.1 := by kernel_rfl
def yGu (aa:List (List Int)) (af:List Int×Unit→Option (Bool×Unit)) (ae:Int) (v1:List Int):Option ((Int×Unit)⊕Unit) :=
  (Option.bind (af (v1,())) fun (v2:Bool×Unit)=>(bif v2.1 then (some (Sum.inl ((ae,())))) else (some (Sum.inr ()))))
def yKG (aa:List (List Int)) (af:List Int×Unit→Option (Bool×Unit)):Option (Int×Unit) :=
  (some (((-1:Int),())))
theorem yG4 (n:Nat) (hn:big≤n)  (aa:List (List Int)) (af:List Int×Unit→Option (Bool×Unit)) (hx:List.length (aa) < lenMax):LeF some (yK (fun i__ e__ s__=>yGu aa af i__ e__) (fun s__=>yKG aa af) 0 (aa) ()) (yAY n n aa af (List.length (aa):Int) 0) := by
  refine yN (f := some) (W := fun k__ i__ s__=>yAY n k__ aa af (List.length (aa):Int) i__) (body := (fun i__ e__ s__=>yGu aa af i__ e__)) (fin := (fun s__=>yKG aa af)) (fun k__ i__ s__=>?_) hx () n (by unfold big at hn; unfold lenMax at hx; omega)
  show LeF _ _ (yJu n (yAY n k__) aa af (List.length (aa):Int) i__)
  exact y5 (y9 fun v1=>(y9 fun v2=>(y5 (y7 rfl) (y7 rfl)))) (y02 (y7 rfl))
def zK_M (s:List (List Int)) (f:List Int×Unit→Option (Bool×Unit)):Option (Int×Unit) :=
  (bif decide (List.length (s) < lenMax) then yK (fun i__ e__ s__=>yGu (s) (f) i__ e__) (fun s__=>yKG (s) (f)) 0 (s) () else none)
theorem ySS (s:List (List Int)) (f:List Int×Unit→Option (Bool×Unit)) (y:Int×Unit) (h:zK_M s f = some y) : ∃ n,zK_m n s f = some y :=
  ⟨big,LeF.top (show LeF some (zK_M s f) (zK_m big s f) from (fun (n:Nat) (hn:big≤n)=>show LeF some (zK_M s f) (zK_m n s f) from (yL fun hx=>by apply yG4 n hn; exact hx)) big (Nat.le_refl _)) h⟩
def zK_e:Entry := { f := 187,args := zK_a,ress := zK_r,m := fun x=>zK_M x.1 x.2.1 }
theorem yUN:FnOK Tryz.prog zK_e := yT (g := zK_g) (fn := Tryz.f187) yH yS eNil (by kernel_rfl) (by kernel_rfl) (by kernel_rfl) (fun x y h=>let ⟨n,hn⟩ := ySS x.1 x.2.1 y h; ⟨yR8 n,iNil,(yVd n x).trans hn⟩)
abbrev zx_a:Ty := .pair t97 .unit
abbrev zx_r:Ty := .pair t97 .unit
def zx_g:G := { T := T,E := [],muts := [3],fz := [] }
def zx_k:List (List Nat) := []
def ySg (n:Nat):Ann := { keep := zx_k,fuel := n,inl := [],deep := 0 }
def zx_m (n:Nat) (l:List (Int×Int×Unit)):Option (List (Int×Int×Unit)×Unit) :=
  (bif decide ((0:Nat) + l.length≤memMax) then some (l,()) else none)
theorem yUY (n:Nat) (x:zx_a.den):runF zx_g (ySg n) Tryz.f67 zx_a zx_r x = zx_m n x.1 := by kernel_rfl
def zx_M (l:List (Int×Int×Unit)):Option (List (Int×Int×Unit)×Unit) := zx_m 0 l
theorem yRd (l:List (Int×Int×Unit)) (y:List (Int×Int×Unit)×Unit) (h:zx_M l = some y) : ∃ n,zx_m n l = some y := ⟨0,h⟩
def zx_e:Entry := { f := 67,args := zx_a,ress := zx_r,m := fun x=>zx_M x.1 }
theorem yOk:FnOK Tryz.prog zx_e := yT (g := zx_g) (fn := Tryz.f67) yH yS eNil (by kernel_rfl) (by kernel_rfl) (by kernel_rfl) (fun x y h=>let ⟨n,hn⟩ := yRd x.1 y h; ⟨ySg n,iNil,(yUY n x).trans hn⟩)
end
end Go.Tw
end
section
set_option maxRecDepth 1000000
namespace Go.Tw
open Go.Vx Go.Vx.B Go.Proofs
noncomputable section
abbrev zQ_a:Ty := .pair t25 (.pair t97 (.pair t3 .unit))
abbrev zQ_r:Ty := .pair t3 .unit
def zQ_g:G := { T := T,E := [zW_e],muts := [],fz := [] }
def zQ_k:List (List Nat) := [[1,2,7]]
def yS4 (n:Nat):Ann := { keep := zQ_k,fuel := n,inl := [],deep := 0 }
def yIG (n:Nat) (r0:List (Int×Int×Unit)→Int→Int→Option (Int×Unit)) (a8:List (Int×Int×Unit)) (a7:Int) (ak:Int):Option (Int×Unit) :=
  (bif decide (ak < (↑a8.length:Int)) then (Option.bind (idx a8 ak) fun (v1:Int×Int×Unit)=>(Option.bind (zW_M v1 (0:Int) a7) fun (v2:Int×Unit)=>(bif v2.1 != 0 then some (v2.1,()) else r0 a8 a7 (IntKind.i64.wrap (ak + 1))))) else some ((0:Int),()))
def yAo (n:Nat)  (k:Nat) (a8:List (Int×Int×Unit)) (a7:Int) (ak:Int):Option (Int×Unit) :=
  iter (fun r y=>yIG n (fun a8 a7 ak=>r ((a8,(a7,(ak,()))),((),()))) y.1.1 y.1.2.1 y.1.2.2.1) k ((a8,(a7,(ak,()))),((),()))
def zQ_m (n:Nat) (b:Bas) (l:List (Int×Int×Unit)) (most:Int):Option (Int×Unit) :=
  (bif (↑l.length:Int) != (↑b.1.length:Int) then some ((2:Int),()) else (yAo n n (l) (most) ((0:Int))))
theorem yVF (n:Nat) (x:zQ_a.den):runF zQ_g (yS4 n) Tryz.f156 zQ_a zQ_r x = zQ_m n x.1 x.2.1 x.2.2.1 := by kernel_rfl
def yKt (a8:List (Int×Int×Unit)) (a7:Int) (ak:Int) (v1:Int×Int×Unit):Option ((Int×Unit)⊕Unit) :=
  (Option.bind (zW_M v1 (0:Int) a7) fun (v2:Int×Unit)=>(bif v2.1 != 0 then (some (Sum.inl ((v2.1,())))) else (some (Sum.inr ()))))
def yOL (a8:List (Int×Int×Unit)) (a7:Int):Option (Int×Unit) :=
  (some (((0:Int),())))
theorem yGq (n:Nat) (hn:big≤n)  (a8:List (Int×Int×Unit)) (a7:Int) (hx:List.length (a8) < lenMax):LeF some (yK (fun i__ e__ s__=>yKt a8 a7 i__ e__) (fun s__=>yOL a8 a7) 0 (a8) ()) (yAo n n a8 a7 0) := by
  refine yN (f := some) (W := fun k__ i__ s__=>yAo n k__ a8 a7 i__) (body := (fun i__ e__ s__=>yKt a8 a7 i__ e__)) (fin := (fun s__=>yOL a8 a7)) (fun k__ i__ s__=>?_) hx () n (by unfold big at hn; unfold lenMax at hx; omega)
  show LeF _ _ (yIG n (yAo n k__) a8 a7 i__)
  exact y5 (y9 fun v1=>(y9 fun v2=>(y5 (y7 rfl) (y7 rfl)))) (y02 (y7 rfl))
def zQ_M (b:Bas) (l:List (Int×Int×Unit)) (most:Int):Option (Int×Unit) :=
  (bif (↑l.length:Int) != (↑b.1.length:Int) then (some (((2:Int),()))) else (bif decide (List.length (l) < lenMax) then yK (fun i__ e__ s__=>yKt (l) (most) i__ e__) (fun s__=>yOL (l) (most)) 0 (l) () else none))
theorem yPk (b:Bas) (l:List (Int×Int×Unit)) (most:Int) (y:Int×Unit) (h:zQ_M b l most = some y) : ∃ n,zQ_m n b l most = some y :=
  ⟨big,LeF.top (show LeF some (zQ_M b l most) (zQ_m big b l most) from (fun (n:Nat) (hn:big≤n)=>show LeF some (zQ_M b l most) (zQ_m n b l most) from (y5 (y7 rfl) (yL fun hx=>by apply yGq n hn; exact hx))) big (Nat.le_refl _)) h⟩
def zQ_e:Entry := { f := 156,args := zQ_a,ress := zQ_r,m := fun x=>zQ_M x.1 x.2.1 x.2.2.1 }
theorem yVt:FnOK Tryz.prog zQ_e := yT (g := zQ_g) (fn := Tryz.f156) yH yS (yE ySF eNil) (by kernel_rfl) (by kernel_rfl) (by kernel_rfl) (fun x y h=>let ⟨n,hn⟩ := yPk x.1 x.2.1 x.2.2.1 y h; ⟨yS4 n,iNil,(yVF n x).trans hn⟩)
abbrev zE_a:Ty := .pair t56 (.pair t181 .unit)
abbrev zE_r:Ty := .pair t4 .unit
def zE_g:G := { T := T,E := [zK_e],muts := [],fz := [] }
def zE_k:List (List Nat) := []
def yTz (n:Nat):Ann := { keep := zE_k,fuel := n,inl := [],deep := 0 }
def zE_m (n:Nat) (s:List (List Int)) (f:List Int×Unit→Option (Bool×Unit)):Option (Bool×Unit) :=
  (Option.bind (zK_M s f) fun (v0:Int×Unit)=>some (decide (v0.1 ≥ 0),()))
theorem yVN (n:Nat) (x:zE_a.den):runF zE_g (yTz n) Tryz.f168 zE_a zE_r x = zE_m n x.1 x.2.1 := by kernel_rfl
def zE_M (s:List (List Int)) (f:List Int×Unit→Option (Bool×Unit)):Option (Bool×Unit) := zE_m 0 s f
theorem yQ0 (s:List (List Int)) (f:List Int×Unit→Option (Bool×Unit)) (y:Bool×Unit) (h:zE_M s f = some y) : ∃ n,zE_m n s f = some y := ⟨0,h⟩
def zE_e:Entry := { f := 168,args := zE_a,ress := zE_r,m := fun x=>zE_M x.1 x.2.1 }
theorem yVm:FnOK Tryz.prog zE_e := yT (g := zE_g) (fn := Tryz.f168) yH yS (yE yUN eNil) (by kernel_rfl) (by kernel_rfl) (by kernel_rfl) (fun x y h=>let ⟨n,hn⟩ := yQ0 x.1 x.2.1 y h; ⟨yTz n,iNil,(yVN n x).trans hn⟩)
abbrev yNb:Ty := .pair t99 .unit
abbrev yT5:Ty := .pair t104 .unit
def yQA:G := { T := T,E := [zx_e],muts := [],fz := [] }
def yVs:List (List Nat) := []
def yM1 (n:Nat):Ann := { keep := yVs,fuel := n,inl := [],deep := 0 }
def yKb (n:Nat) (r1:Rng):Option (Rng×Unit) :=
  (Option.bind (zx_M r1.2.2.1) fun (v0:List (Int×Int×Unit)×Unit)=>some (((r1.1.1,r1.1.2.1,()),r1.2.1,v0.1,()),()))
theorem yRv (n:Nat) (x:yNb.den):runF yQA (yM1 n) Tryz.f54 yNb yT5 x = yKb n x.1 := by kernel_rfl
def yH6 (r1:Rng):Option (Rng×Unit) := yKb 0 r1
theorem yN0 (r1:Rng) (y:Rng×Unit) (h:yH6 r1 = some y) : ∃ n,yKb n r1 = some y := ⟨0,h⟩
def z0k_e:Entry := { f := 54,args := yNb,ress := yT5,m := fun x=>yH6 x.1 }
theorem yMC:FnOK Tryz.prog z0k_e := yT (g := yQA) (fn := Tryz.f54) yH yS (yE yOk eNil) (by kernel_rfl) (by kernel_rfl) (by kernel_rfl) (fun x y h=>let ⟨n,hn⟩ := yN0 x.1 y h; ⟨yM1 n,iNil,(yRv n x).trans hn⟩)
end
end Go.Tw
end
section
set_option maxRecDepth 1000000
namespace Go.Tw
open Go.Vx Go.Vx.B Go.Proofs
noncomputable section
abbrev yNI:Ty := .pair t101 .unit
abbrev yPL:Ty := .pair t108 .unit
def ySz:G := { T := T,E := [z0k_e],muts := [3],fz := [] }
def yVR:List (List Nat) := [[3,6,7,8]]
def yLy (n:Nat):Ann := { keep := yVR,fuel := n,inl := [],deep := 0 }
def yFl (n:Nat) (r0:List Rng→Int→Int→List Rng→Option (List Rng×Unit)) (ac:List Rng) (aj:Int) (ae:Int) (ai:List Rng):Option (List Rng×Unit) :=
  (bif decide (ae < aj) then (Option.bind (idx ac ae) fun (v1:Rng)=>(Option.bind (yH6 ((v1.1.1,v1.1.2.1,()),v1.2.1,v1.2.2.1,())) fun (v2:Rng×Unit)=>(bif decide (ai.length + (1:Nat)≤memMax) then r0 ac aj (IntKind.i64.wrap (ae + 1)) (ai ++ [v2.1]) else none))) else some (ai,()))
def y7H (n:Nat)  (k:Nat) (ac:List Rng) (aj:Int) (ae:Int) (ai:List Rng):Option (List Rng×Unit) :=
  iter (fun r y=>yFl n (fun ac aj ae ai=>r ((ac,(aj,(ae,()))),((ai,()),()))) y.1.1 y.1.2.1 y.1.2.2.1 y.2.1.1) k ((ac,(aj,(ae,()))),((ai,()),()))
def yLU (n:Nat) (l:List Rng):Option (List Rng×Unit) :=
  (y7H n n (l) ((↑l.length:Int)) ((0:Int)) ([]))
theorem yQW (n:Nat) (x:yNI.den):runF ySz (yLy n) Tryz.f56 yNI yPL x = yLU n x.1 := by kernel_rfl
def yEZ (ac:List Rng) (ae:Int) (v1:Rng) (ai:List Rng):Option ((List Rng×Unit)⊕(List Rng)) :=
  (Option.bind (yH6 ((v1.1.1,v1.1.2.1,()),v1.2.1,v1.2.2.1,())) fun (v2:Rng×Unit)=>(bif decide (ai.length + (1:Nat)≤memMax) then (some (Sum.inr (ai ++ [v2.1]))) else none))
def yIJ (ac:List Rng) (ai:List Rng):Option (List Rng×Unit) :=
  (some ((ai,())))
theorem yDC (n:Nat) (hn:big≤n)  (ac:List Rng) (ai:List Rng) (hx:List.length (ac) < lenMax):LeF some (yK (fun i__ e__ s__=>yEZ ac i__ e__ s__) (fun s__=>yIJ ac s__) 0 (ac) ai) (y7H n n ac (List.length (ac):Int) 0 ai) := by
  refine yN (f := some) (W := fun k__ i__ s__=>y7H n k__ ac (List.length (ac):Int) i__ s__) (body := (fun i__ e__ s__=>yEZ ac i__ e__ s__)) (fin := (fun s__=>yIJ ac s__)) (fun k__ i__ s__=>?_) hx ai n (by unfold big at hn; unfold lenMax at hx; omega)
  show LeF _ _ (yFl n (y7H n k__) ac (List.length (ac):Int) i__ s__)
  exact y5 (y9 fun v1=>(y9 fun v2=>(y5 (y7 rfl) yp))) (y02 (y7 rfl))
def y6n (l:List Rng):Option (List Rng×Unit) :=
  (bif decide (List.length (l) < lenMax) then yK (fun i__ e__ s__=>yEZ (l) i__ e__ s__) (fun s__=>yIJ (l) s__) 0 (l) ([]) else none)
theorem yN2 (l:List Rng) (y:List Rng×Unit) (h:y6n l = some y) : ∃ n,yLU n l = some y :=
  ⟨big,LeF.top (show LeF some (y6n l) (yLU big l) from (fun (n:Nat) (hn:big≤n)=>show LeF some (y6n l) (yLU n l) from (yL fun hx=>by apply yDC n hn; exact hx)) big (Nat.le_refl _)) h⟩
def z0G_e:Entry := { f := 56,args := yNI,ress := yPL,m := fun x=>y6n x.1 }
theorem yR3:FnOK Tryz.prog z0G_e := yT (g := ySz) (fn := Tryz.f56) yH yS (yE yMC eNil) (by kernel_rfl) (by kernel_rfl) (by kernel_rfl) (fun x y h=>let ⟨n,hn⟩ := yN2 x.1 y h; ⟨yLy n,iNil,(yQW n x).trans hn⟩)
abbrev zy_a:Ty := .pair t25 (.pair t99 .unit)
abbrev zy_r:Ty := .pair t3 .unit
def zy_g:G := { T := T,E := [zW_e,zQ_e,z0V_e],muts := [],fz := [] }
def zy_k:List (List Nat) := []
def yPG (n:Nat):Ann := { keep := zy_k,fuel := n,inl := [],deep := 0 }
def zy_m (n:Nat) (b:Bas) (r1:Rng):Option (Int×Unit) :=
  (Option.bind (zW_M r1.1 (-1024:Int) (1024:Int)) fun (v0:Int×Unit)=>(Option.bind (zQ_M b r1.2.2.1 (100000:Int)) fun (v1:Int×Unit)=>(Option.bind (y5o [v0.1,v1.1]) fun (v2:Int×Unit)=>some (v2.1,()))))
theorem yUv (n:Nat) (x:zy_a.den):runF zy_g (yPG n) Tryz.f112 zy_a zy_r x = zy_m n x.1 x.2.1 := by kernel_rfl
def zy_M (b:Bas) (r1:Rng):Option (Int×Unit) := zy_m 0 b r1
theorem yS6 (b:Bas) (r1:Rng) (y:Int×Unit) (h:zy_M b r1 = some y) : ∃ n,zy_m n b r1 = some y := ⟨0,h⟩
def zy_e:Entry := { f := 112,args := zy_a,ress := zy_r,m := fun x=>zy_M x.1 x.2.1 }
theorem yVL:FnOK Tryz.prog zy_e := yT (g := zy_g) (fn := Tryz.f112) yH yS (yE ySF (yE yVt (yE yFb eNil))) (by kernel_rfl) (by kernel_rfl) (by kernel_rfl) (fun x y h=>let ⟨n,hn⟩ := yS6 x.1 x.2.1 y h; ⟨yPG n,iNil,(yUv n x).trans hn⟩)
abbrev zh_a:Ty := .pair t41 (.pair t97 (.pair t108 .unit))
abbrev zh_r:Ty := .pair t4 (.pair t35 .unit)
def zh_g:G := { T := T,E := [z0j_e,z6_e,zc_e,zt_e,zY_e,z09_e,zE_e],muts := [],fz := [] }
def zh_k:List (List Nat) := []
def yTG (n:Nat):Ann := { keep := zh_k,fuel := n,inl := [],deep := 0 }
def zh_m (n:Nat) (b:Bas) (v:List (Int×Int×Unit)) (l:List Rng):Option (Bool×Int×Unit) :=
  (Option.bind (y96 v (1:Int)) fun (v0:List Int×Unit)=>(Option.bind (z6_M l fun (x:Rng×Unit)=>zc_M x.1) fun (v1:List Cnd×Unit)=>(Option.bind (zt_M b v0.1 v1.1) fun (v2:List Psg×Int×Unit)=>(bif v2.2.1 != 0 then some (Bool.false,v2.2.1,()) else (Option.bind (yG8 v2.1) fun (v3:List (List Int)×Unit)=>(Option.bind (zE_M v3.1 fun (x:List Int×Unit)=>zY_M x.1 b) fun (v4:Bool×Unit)=>some (!v4.1,(0:Int),())))))))
theorem yVU (n:Nat) (x:zh_a.den):runF zh_g (yTG n) Tryz.f120 zh_a zh_r x = zh_m n x.1 x.2.1 x.2.2.1 := by kernel_rfl
def zh_M (b:Bas) (v:List (Int×Int×Unit)) (l:List Rng):Option (Bool×Int×Unit) := zh_m 0 b v l
theorem yS8 (b:Bas) (v:List (Int×Int×Unit)) (l:List Rng) (y:Bool×Int×Unit) (h:zh_M b v l = some y) : ∃ n,zh_m n b v l = some y := ⟨0,h⟩
def zh_e:Entry := { f := 120,args := zh_a,ress := zh_r,m := fun x=>zh_M x.1 x.2.1 x.2.2.1 }
theorem ySy:FnOK Tryz.prog zh_e := yT (g := zh_g) (fn := Tryz.f120) yH yS (yE yHl (yE yQN (yE yPK (yE yN5 (yE yUL (yE yM7 (yE yVm eNil))))))) (by kernel_rfl) (by kernel_rfl) (by kernel_rfl) (fun x y h=>let ⟨n,hn⟩ := yS8 x.1 x.2.1 x.2.2.1 y h; ⟨yTG n,iNil,(yVU n x).trans hn⟩)
end
end Go.Tw
end
section
set_option maxRecDepth 1000000
namespace Go.Tw
open Go.Vx Go.Vx.B Go.Proofs
noncomputable section
abbrev yNC:Ty := .pair t41 (.pair t97 (.pair t108 .unit))
abbrev yQf:Ty := .pair t4 (.pair t35 .unit)
def yPc:G := { T := T,E := [zR_e,zh_e],muts := [],fz := [] }
def yUq:List (List Nat) := []
def yLj (n:Nat):Ann := { keep := yUq,fuel := n,inl := [],deep := 0 }
def yJz (n:Nat) (b:Bas) (v:List (Int×Int×Unit)) (l:List Rng):Option (Bool×Int×Unit) :=
  (Option.bind (zR_M b v l) fun (v0:Int×Unit)=>(bif v0.1 != 0 then some (Bool.false,v0.1,()) else (Option.bind (zh_M b v l) fun (v1:Bool×Int×Unit)=>some (v1.1,v1.2.1,()))))
theorem yPY (n:Nat) (x:yNC.den):runF yPc (yLj n) Tryz.f68 yNC yQf x = yJz n x.1 x.2.1 x.2.2.1 := by kernel_rfl
def yFm (b:Bas) (v:List (Int×Int×Unit)) (l:List Rng):Option (Bool×Int×Unit) := yJz 0 b v l
theorem yMl (b:Bas) (v:List (Int×Int×Unit)) (l:List Rng) (y:Bool×Int×Unit) (h:yFm b v l = some y) : ∃ n,yJz n b v l = some y := ⟨0,h⟩
def z0c_e:Entry := { f := 68,args := yNC,ress := yQf,m := fun x=>yFm x.1 x.2.1 x.2.2.1 }
theorem yQ6:FnOK Tryz.prog z0c_e := yT (g := yPc) (fn := Tryz.f68) yH yS (yE yO4 (yE ySy eNil)) (by kernel_rfl) (by kernel_rfl) (by kernel_rfl) (fun x y h=>let ⟨n,hn⟩ := yMl x.1 x.2.1 x.2.2.1 y h; ⟨yLj n,iNil,(yPY n x).trans hn⟩)
abbrev zr_a:Ty := .pair t25 (.pair t101 .unit)
abbrev zr_r:Ty := .pair t3 .unit
def zr_g:G := { T := T,E := [zy_e],muts := [],fz := [] }
def zr_k:List (List Nat) := [[1,2,5]]
def yRi (n:Nat):Ann := { keep := zr_k,fuel := n,inl := [],deep := 0 }
def yJi (n:Nat) (r0:List Rng→Bas→Int→Option (Int×Unit)) (a8:List Rng) (ah:Bas) (al:Int):Option (Int×Unit) :=
  (bif decide (al < (↑a8.length:Int)) then (Option.bind (idx a8 al) fun (v1:Rng)=>(Option.bind (zy_M ah v1) fun (v2:Int×Unit)=>(bif v2.1 != 0 then some (v2.1,()) else r0 a8 ah (IntKind.i64.wrap (al + 1))))) else some ((0:Int),()))
def yAp (n:Nat)  (k:Nat) (a8:List Rng) (ah:Bas) (al:Int):Option (Int×Unit) :=
  iter (fun r y=>yJi n (fun a8 ah al=>r ((a8,(ah,(al,()))),((),()))) y.1.1 y.1.2.1 y.1.2.2.1) k ((a8,(ah,(al,()))),((),()))
def zr_m (n:Nat) (b:Bas) (l:List Rng):Option (Int×Unit) :=
  (bif decide ((↑l.length:Int) > 96) then some ((5:Int),()) else (yAp n n (l) (b) ((0:Int))))
theorem yVQ (n:Nat) (x:zr_a.den):runF zr_g (yRi n) Tryz.f123 zr_a zr_r x = zr_m n x.1 x.2.1 := by kernel_rfl
def yKS (a8:List Rng) (ah:Bas) (al:Int) (v1:Rng):Option ((Int×Unit)⊕Unit) :=
  (Option.bind (zy_M ah v1) fun (v2:Int×Unit)=>(bif v2.1 != 0 then (some (Sum.inl ((v2.1,())))) else (some (Sum.inr ()))))
def yOq (a8:List Rng) (ah:Bas):Option (Int×Unit) :=
  (some (((0:Int),())))
theorem yHH (n:Nat) (hn:big≤n)  (a8:List Rng) (ah:Bas) (hx:List.length (a8) < lenMax):LeF some (yK (fun i__ e__ s__=>yKS a8 ah i__ e__) (fun s__=>yOq a8 ah) 0 (a8) ()) (yAp n n a8 ah 0) := by
  refine yN (f := some) (W := fun k__ i__ s__=>yAp n k__ a8 ah i__) (body := (fun i__ e__ s__=>yKS a8 ah i__ e__)) (fin := (fun s__=>yOq a8 ah)) (fun k__ i__ s__=>?_) hx () n (by unfold big at hn; unfold lenMax at hx; omega)
  show LeF _ _ (yJi n (yAp n k__) a8 ah i__)
  exact y5 (y9 fun v1=>(y9 fun v2=>(y5 (y7 rfl) (y7 rfl)))) (y02 (y7 rfl))
def zr_M (b:Bas) (l:List Rng):Option (Int×Unit) :=
  (bif decide ((↑l.length:Int) > 96) then (some (((5:Int),()))) else (bif decide (List.length (l) < lenMax) then yK (fun i__ e__ s__=>yKS (l) (b) i__ e__) (fun s__=>yOq (l) (b)) 0 (l) () else none))
theorem yTU (b:Bas) (l:List Rng) (y:Int×Unit) (h:zr_M b l = some y) : ∃ n,zr_m n b l = some y :=
  ⟨big,LeF.top (show LeF some (zr_M b l) (zr_m big b l) from (fun (n:Nat) (hn:big≤n)=>show LeF some (zr_M b l) (zr_m n b l) from (y5 (y7 rfl) (yL fun hx=>by apply yHH n hn; exact hx))) big (Nat.le_refl _)) h⟩
def zr_e:Entry := { f := 123,args := zr_a,ress := zr_r,m := fun x=>zr_M x.1 x.2.1 }
theorem yUF:FnOK Tryz.prog zr_e := yT (g := zr_g) (fn := Tryz.f123) yH yS (yE yVL eNil) (by kernel_rfl) (by kernel_rfl) (by kernel_rfl) (fun x y h=>let ⟨n,hn⟩ := yTU x.1 x.2.1 y h; ⟨yRi n,iNil,(yVQ n x).trans hn⟩)
end
end Go.Tw
end
section
set_option maxRecDepth 1000000
namespace Go.Tw
open Go.Vx Go.Vx.B Go.Proofs
noncomputable section
abbrev zg_a:Ty := .pair t25 (.pair t101 .unit)
abbrev zg_r:Ty := .pair t3 .unit
def zg_g:G := { T := T,E := [zp_e,zr_e],muts := [],fz := [] }
def zg_k:List (List Nat) := []
def yTg (n:Nat):Ann := { keep := zg_k,fuel := n,inl := [],deep := 0 }
def zg_m (n:Nat) (b:Bas) (l:List Rng):Option (Int×Unit) :=
  (Option.bind (zp_M b) fun (v0:Int×Unit)=>(bif v0.1 != 0 then some (v0.1,()) else (Option.bind (zr_M b l) fun (v1:Int×Unit)=>some (v1.1,()))))
theorem yVV (n:Nat) (x:zg_a.den):runF zg_g (yTg n) Tryz.f75 zg_a zg_r x = zg_m n x.1 x.2.1 := by kernel_rfl
def zg_M (b:Bas) (l:List Rng):Option (Int×Unit) := zg_m 0 b l
theorem ySB (b:Bas) (l:List Rng) (y:Int×Unit) (h:zg_M b l = some y) : ∃ n,zg_m n b l = some y := ⟨0,h⟩
def zg_e:Entry := { f := 75,args := zg_a,ress := zg_r,m := fun x=>zg_M x.1 x.2.1 }
theorem yVq:FnOK Tryz.prog zg_e := yT (g := zg_g) (fn := Tryz.f75) yH yS (yE yUC (yE yUF eNil)) (by kernel_rfl) (by kernel_rfl) (by kernel_rfl) (fun x y h=>let ⟨n,hn⟩ := ySB x.1 x.2.1 y h; ⟨yTg n,iNil,(yVV n x).trans hn⟩)
end
end Go.Tw
end
