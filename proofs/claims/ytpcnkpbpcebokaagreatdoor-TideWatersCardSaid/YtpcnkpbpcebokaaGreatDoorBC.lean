import Derived.Test.YtpcnkpbpcebokaaGreatDoorBT
import Derived.Test.YtpcnkpbpcebokaaGreatDoorB0
import Derived.Test.YtpcnkpbpcebokaaGreatDoorBS
import Derived.Test.YtpcnkpbpcebokaaGreatDoorLQ
import Derived.Test.YtpcnkpbpcebokaaGreatDoorBA
import Derived.Test.YtpcnkpbpcebokaaGreatDoorLR
set_option linter.all false
section
set_option maxRecDepth 1000000
namespace Go.Tw
open Go.Vx Go.Vx.B Go.Proofs
noncomputable section
abbrev zp_a:Ty:=.pair t3 (.pair t3 .unit)
abbrev zp_r:Ty:=.pair t28 .unit
def zp_g:G:={ T:=T,E:=[z0N_e,z0Z_e],muts:=[],fz:=[] }
def zp_k:List (List Nat):=[]
def yQM(n:Nat):Ann:={ keep:=zp_k,fuel:=n,inl:=[],deep:=0 }
def zp_m(n:Nat)(p0:Int)(np:Int):Option (Int×Unit) :=
  (Option.bind (y1k [(z0N p0 (0:Int) (100000:Int)).1,(z0N np (0:Int) (4096:Int)).1]) fun v0=>(bif v0.1 != 0 then some (v0.1,())else some ((z0N (IntKind.i64.wrap (p0+np)) (0:Int) (100000:Int)).1,())))
theorem yUl(n:Nat)(x:zp_a.den):runF zp_g (yQM n) Tryz.f105 zp_a zp_r x=zp_m n x.1 x.2.1:=by kernel_rfl
def zp_M(p0:Int)(np:Int):Option (Int×Unit):=zp_m 0 p0 np
theorem yRt(p0:Int)(np:Int)(y:Int×Unit)(h:zp_M p0 np=some y):∃ n,zp_m n p0 np=some y:=⟨0,h⟩
def zp_e:Entry:={ f:=105,args:=zp_a,ress:=zp_r,m:=fun x=>zp_M x.1 x.2.1 }
theorem yTh:FnOK Tryz.prog zp_e:=yM (g:=zp_g) (fn:=Tryz.f105) yD yK (yC yAu (yC y41 eNil)) (by kernel_rfl) (by kernel_rfl) (by kernel_rfl) (fun x y h=>let ⟨n,hn⟩:=yRt x.1 x.2.1 y h;⟨yQM n,iNil,(yUl n x).trans hn⟩)
abbrev yMp:Ty:=.pair t33 (.pair t3 .unit)
abbrev yNi:Ty:=.pair t57 .unit
def yQh:G:={ T:=T,E:=[z0g_e],muts:=[],fz:=[] }
def yTV:List (List Nat):=[]
def yKX(n:Nat):Ann:={ keep:=yTV,fuel:=n,inl:=[],deep:=0 }
def yNX(n:Nat)(t:Q1)(tick:Int):Option ((Q3)×Unit) :=
  (Option.bind (yGt t.1 t.2.1 tick) fun v0=>some ((v0.1.1,v0.1.2.1,()),()))
theorem ySF(n:Nat)(x:yMp.den):runF yQh (yKX n) Tryz.f106 yMp yNi x=yNX n x.1 x.2.1:=by kernel_rfl
def yBI(t:Q1)(tick:Int):Option ((Q3)×Unit):=yNX 0 t tick
theorem yNc(t:Q1)(tick:Int)(y:(Q3)×Unit)(h:yBI t tick=some y):∃ n,yNX n t tick=some y:=⟨0,h⟩
def z06_e:Entry:={ f:=106,args:=yMp,ress:=yNi,m:=fun x=>yBI x.1 x.2.1 }
theorem yJr:FnOK Tryz.prog z06_e:=yM (g:=yQh) (fn:=Tryz.f106) yD yK (yC yPF eNil) (by kernel_rfl) (by kernel_rfl) (by kernel_rfl) (fun x y h=>let ⟨n,hn⟩:=yNc x.1 x.2.1 y h;⟨yKX n,iNil,(ySF n x).trans hn⟩)
abbrev zo_a:Ty:=.pair t57 .unit
abbrev zo_r:Ty:=.pair t28 .unit
def zo_g:G:={ T:=T,E:=[z0N_e,z0Z_e],muts:=[],fz:=[] }
def zo_k:List (List Nat):=[]
def yRf(n:Nat):Ann:={ keep:=zo_k,fuel:=n,inl:=[],deep:=0 }
def zo_m(n:Nat)(z:Q3):Option (Int×Unit) :=
  (Option.bind (y1k [(z0N z.1 (-8796093022208:Int) (8796093022208:Int)).1,(z0N z.2.1 (-8796093022208:Int) (8796093022208:Int)).1]) fun v0=>some (v0.1,()))
theorem yTa(n:Nat)(x:zo_a.den):runF zo_g (yRf n) Tryz.f116 zo_a zo_r x=zo_m n x.1:=by kernel_rfl
def zo_M(z:Q3):Option (Int×Unit):=zo_m 0 z
theorem ySC(z:Q3)(y:Int×Unit)(h:zo_M z=some y):∃ n,zo_m n z=some y:=⟨0,h⟩
def zo_e:Entry:={ f:=116,args:=zo_a,ress:=zo_r,m:=fun x=>zo_M x.1 }
theorem yUZ:FnOK Tryz.prog zo_e:=yM (g:=zo_g) (fn:=Tryz.f116) yD yK (yC yAu (yC y41 eNil)) (by kernel_rfl) (by kernel_rfl) (by kernel_rfl) (fun x y h=>let ⟨n,hn⟩:=ySC x.1 y h;⟨yRf n,iNil,(yTa n x).trans hn⟩)
abbrev yNZ:Ty:=.pair t23 (.pair t3 .unit)
abbrev yS4:Ty:=.pair t3 .unit
def yPq:G:={ T:=T,E:=[z07_e],muts:=[],fz:=[] }
def yUY:List (List Nat):=[[1,7,8,9]]
def yK3(n:Nat):Ann:={ keep:=yUY,fuel:=n,inl:=[],deep:=0 }
def yDM(n:Nat)(r0:Int→List (Q3)→Int→Int→Option (Int×Unit))(af:Int)(ai:List (Q3))(ar:Int)(ae:Int):Option (Int×Unit) :=
  (bif decide (ae < ar)then (Option.bind (idx ai ae) fun v1=>(Option.bind (yC0 af [v1.1,v1.2.1]) fun v2=>r0 v2.1 ai ar (IntKind.i64.wrap (ae+1))))else some (af,()))
def y64(n:Nat)(k:Nat)(af:Int)(ai:List (Q3))(ar:Int)(ae:Int):Option (Int×Unit) :=
  iter (fun r y=>yDM n (fun af ai ar ae=>r ((af,(ai,(ar,(ae,())))),((),()))) y.1.1 y.1.2.1 y.1.2.2.1 y.1.2.2.2.1) k ((af,(ai,(ar,(ae,())))),((),()))
def yIY(n:Nat)(l:List (Q3))(den:Int):Option (Int×Unit) :=
  (y64 n n (den) (l) ((↑l.length:Int)) ((0:Int)))
theorem yQR(n:Nat)(x:yNZ.den):runF yPq (yK3 n) Tryz.f117 yNZ yS4 x=yIY n x.1 x.2.1:=by kernel_rfl
def yFF(ai:List (Q3))(ae:Int)(v1:Q3)(af:Int):Option ((Int×Unit)⊕(Int)) :=
  (Option.bind (yC0 af [v1.1,v1.2.1]) fun v2=>(some (Sum.inr (v2.1))))
def yG0(ai:List (Q3))(af:Int):Option (Int×Unit) :=
  (some ((af,())))
theorem yCB(n:Nat)(hn:big≤n)(ai:List (Q3))(af:Int)(hx:List.length (ai) < lenMax):LeF some (yP (fun i__ e__ s__=>yFF ai i__ e__ s__) (fun s__=>yG0 ai s__) 0 (ai) af) (y64 n n af ai (List.length (ai):Int) 0):=by
  refine yO (f:=some) (W:=fun k__ i__ s__=>y64 n k__ s__ ai (List.length (ai):Int) i__) (body:=(fun i__ e__ s__=>yFF ai i__ e__ s__)) (fin:=(fun s__=>yG0 ai s__)) (fun k__ i__ s__=>?_) hx af n (by unfold big at hn;unfold lenMax at hx;omega)
  show LeF _ _ (yDM n (y64 n k__) s__ ai (List.length (ai):Int) i__)
  exact y5 (y8 fun v1=>(y8 fun v2=>(y7 rfl))) (yp (y7 rfl))
def yEn(l:List (Q3))(den:Int):Option (Int×Unit) :=
  (bif decide (List.length (l) < lenMax)then yP (fun i__ e__ s__=>yFF (l) i__ e__ s__) (fun s__=>yG0 (l) s__) 0 (l) (den)else none)
theorem yMC(l:List (Q3))(den:Int)(y:Int×Unit)(h:yEn l den=some y):∃ n,yIY n l den=some y :=
  ⟨big,LeF.top (show LeF some (yEn l den) (yIY big l den)from (fun (n:Nat) (hn:big≤n)=>show LeF some (yEn l den) (yIY n l den)from (yN fun hx=>by apply yCB n hn;exact hx)) big (Nat.le_refl _)) h⟩
def z0J_e:Entry:={ f:=117,args:=yNZ,ress:=yS4,m:=fun x=>yEn x.1 x.2.1 }
theorem yKS:FnOK Tryz.prog z0J_e:=yM (g:=yPq) (fn:=Tryz.f117) yD yK (yC yJc eNil) (by kernel_rfl) (by kernel_rfl) (by kernel_rfl) (fun x y h=>let ⟨n,hn⟩:=yMC x.1 x.2.1 y h;⟨yK3 n,iNil,(yQR n x).trans hn⟩)
abbrev zJ_a:Ty:=.pair t183 .unit
abbrev zJ_r:Ty:=.pair t57 .unit
def zJ_g:G:={ T:=T,E:=[zR_e],muts:=[],fz:=[] }
def zJ_k:List (List Nat):=[]
def yOL(n:Nat):Ann:={ keep:=zJ_k,fuel:=n,inl:=[],deep:=0 }
def zJ_m(n:Nat)(m:List (List (Q3))):Option ((Q3)×Unit) :=
  (Option.bind (y02 (8:Nat) (m,(0:Int),(0:Int),())) fun v0=>some ((v0.1.1,v0.1.2.1,()),()))
theorem yUe(n:Nat)(x:zJ_a.den):runF zJ_g (yOL n) Tryz.f123 zJ_a zJ_r x=zJ_m n x.1:=by kernel_rfl
def zJ_M(m:List (List (Q3))):Option ((Q3)×Unit):=zJ_m 0 m
theorem yP1(m:List (List (Q3)))(y:(Q3)×Unit)(h:zJ_M m=some y):∃ n,zJ_m n m=some y:=⟨0,h⟩
def zJ_e:Entry:={ f:=123,args:=zJ_a,ress:=zJ_r,m:=fun x=>zJ_M x.1 }
theorem yIn:FnOK Tryz.prog zJ_e:=yM (g:=zJ_g) (fn:=Tryz.f123) yD yK (yC yUW eNil) (by kernel_rfl) (by kernel_rfl) (by kernel_rfl) (fun x y h=>let ⟨n,hn⟩:=yP1 x.1 y h;⟨yOL n,iNil,(yUe n x).trans hn⟩)
abbrev yMN:Ty:=.pair t3 (.pair t3 .unit)
abbrev yQI:Ty:=.pair t69 .unit
def yPz:G:={ T:=T,E:=[z07_e],muts:=[],fz:=[] }
def yTm:List (List Nat):=[]
def yKO(n:Nat):Ann:={ keep:=yTm,fuel:=n,inl:=[],deep:=0 }
def yN9(n:Nat)(num:Int)(den:Int):Option ((Q3)×Unit) :=
  (Option.bind (yC0 den [num]) fun v0=>(bif v0.1==0 then none else (bif v0.1==0 then none else some ((IntKind.i64.wrap (num.tdiv v0.1),IntKind.i64.wrap (den.tdiv v0.1),()),()))))
theorem yRA(n:Nat)(x:yMN.den):runF yPz (yKO n) Tryz.f127 yMN yQI x=yN9 n x.1 x.2.1:=by kernel_rfl
def yCW(num:Int)(den:Int):Option ((Q3)×Unit):=yN9 0 num den
theorem yMm(num:Int)(den:Int)(y:(Q3)×Unit)(h:yCW num den=some y):∃ n,yN9 n num den=some y:=⟨0,h⟩
def z0c_e:Entry:={ f:=127,args:=yMN,ress:=yQI,m:=fun x=>yCW x.1 x.2.1 }
theorem yHd:FnOK Tryz.prog z0c_e:=yM (g:=yPz) (fn:=Tryz.f127) yD yK (yC yJc eNil) (by kernel_rfl) (by kernel_rfl) (by kernel_rfl) (fun x y h=>let ⟨n,hn⟩:=yMm x.1 x.2.1 y h;⟨yKO n,iNil,(yRA n x).trans hn⟩)
abbrev yM5:Ty:=.pair t35 (.pair t61 .unit)
abbrev yPL:Ty:=.pair t41 (.pair t28 .unit)
def yOB:G:={ T:=T,E:=[zI_e,zW_e,z0Z_e],muts:=[7],fz:=[] }
def yUB:List (List Nat):=[[0,1,7,8,9]]
def yKB(n:Nat):Ann:={ keep:=yUB,fuel:=n,inl:=[],deep:=0 }
def yDO(n:Nat)(r2:List Nat→Nat→Int→Int→List Int→Option (List Int×Int×Unit))(aj:List Nat)(a7:Nat)(a8:Int)(aq:Int)(ak:List Int):Option (List Int×Int×Unit) :=
  (bif decide (aq < (↑aj.length:Int))then (Option.bind (idx aj aq) fun v3=>(Option.bind (idx aj (IntKind.i64.wrap (aq - (1:Int)))) fun v4=>(bif yY Go.BinOp.gtr Go.FloatKind.f32 (yd Go.BinOp.mul Go.FloatKind.f32 a7 (yd Go.BinOp.sub Go.FloatKind.f32 v3 v4)) (nat_lit 0)then r2 aj a7 aq (IntKind.i64.wrap (aq+1)) ak else (bif yY Go.BinOp.lss Go.FloatKind.f32 (yd Go.BinOp.mul Go.FloatKind.f32 a7 (yd Go.BinOp.sub Go.FloatKind.f32 v3 v4)) (nat_lit 0)then (bif decide (a8 ≥ 0)then (bif decide (ak.length+(1:Nat)≤memMax)then r2 aj a7 (-1:Int) (IntKind.i64.wrap (aq+1)) (ak++[a8])else none)else r2 aj a7 (-1:Int) (IntKind.i64.wrap (aq+1)) ak)else r2 aj a7 a8 (IntKind.i64.wrap (aq+1)) ak))))else some (ak,(0:Int),()))
def y6O(n:Nat)(k:Nat)(aj:List Nat)(a7:Nat)(a8:Int)(aq:Int)(ak:List Int):Option (List Int×Int×Unit) :=
  iter (fun r y=>yDO n (fun aj a7 a8 aq ak=>r ((aj,(a7,(a8,(aq,())))),((ak,()),()))) y.1.1 y.1.2.1 y.1.2.2.1 y.1.2.2.2.1 y.2.1.1) k ((aj,(a7,(a8,(aq,())))),((ak,()),()))
def yIs(n:Nat)(l:List Nat)(direction:Nat):Option (List Int×Int×Unit) :=
  (bif decide ((↑l.length:Int) > 4096)then some ([],(5:Int),())else (Option.bind (zI_M l fun (x:Nat×Unit)=>zW_M x.1) fun v0=>(Option.bind (y1k v0.1) fun v1=>(bif v1.1 != 0 then some ([],v1.1,())else (y6O n n (l) (direction) ((-1:Int)) ((1:Int)) ([]))))))
theorem yQV(n:Nat)(x:yM5.den):runF yOB (yKB n) Tryz.f154 yM5 yPL x=yIs n x.1 x.2.1:=by kernel_rfl
def yB8(aj:List Nat)(a7:Nat)(aq:Int)(a8:Int)(ak:List Int):Option ((List Int×Int×Unit)⊕(Int×List Int)) :=
  (Option.bind (idx aj aq) fun v3=>(Option.bind (idx aj (IntKind.i64.wrap (aq - (1:Int)))) fun v4=>(bif yY Go.BinOp.gtr Go.FloatKind.f32 (yd Go.BinOp.mul Go.FloatKind.f32 a7 (yd Go.BinOp.sub Go.FloatKind.f32 v3 v4)) (nat_lit 0)then (some (Sum.inr ((aq),(ak))))else (bif yY Go.BinOp.lss Go.FloatKind.f32 (yd Go.BinOp.mul Go.FloatKind.f32 a7 (yd Go.BinOp.sub Go.FloatKind.f32 v3 v4)) (nat_lit 0)then (bif decide (a8 ≥ 0)then (bif decide (ak.length+(1:Nat)≤memMax)then (some (Sum.inr (((-1:Int)),(ak++[a8]))))else none)else (some (Sum.inr (((-1:Int)),(ak)))))else (some (Sum.inr ((a8),(ak))))))))
def y9q(aj:List Nat)(a7:Nat)(a8:Int)(ak:List Int):Option (List Int×Int×Unit) :=
  (some ((ak,(0:Int),())))
theorem yBh(n:Nat)(hn:big≤n)(aj:List Nat)(a7:Nat)(a8:Int)(ak:List Int)(hx:((↑aj.length:Int))≤9223372036854775807):LeF some (y1b (fun i__ s__=>yB8 aj a7 i__ s__.1 s__.2) (fun s__=>y9q aj a7 s__.1 s__.2) (((↑aj.length:Int)) - 1).toNat 1 (a8,ak)) (y6O n n aj a7 a8 1 ak):=by
  refine y27 (f:=some) (W:=fun k__ i__ s__=>y6O n k__ aj a7 s__.1 i__ s__.2) (body:=(fun i__ s__=>yB8 aj a7 i__ s__.1 s__.2)) (fin:=(fun s__=>y9q aj a7 s__.1 s__.2)) (fun k__ i__ s__=>?_) hx (a8,ak) n 1 (by decide) (by unfold big at hn;omega)
  show LeF _ _ (yDO n (y6O n k__) aj a7 s__.1 i__ s__.2)
  exact y5 (y8 fun v3=>(y8 fun v4=>(y5 (y7 rfl) (y5 (y5 (y5 (y7 rfl) yg) (y7 rfl)) (y7 rfl))))) (yp (y7 rfl))
def yA3(l:List Nat)(direction:Nat):Option (List Int×Int×Unit) :=
  (bif decide ((↑l.length:Int) > 4096)then (some (([],(5:Int),())))else (Option.bind (zI_M l fun (x:Nat×Unit)=>zW_M x.1) fun v0=>(Option.bind (y1k v0.1) fun v1=>(bif v1.1 != 0 then (some (([],v1.1,())))else (bif decide (((↑l.length:Int))≤9223372036854775807)then y1b (fun i__ s__=>yB8 (l) (direction) i__ s__.1 s__.2) (fun s__=>y9q (l) (direction) s__.1 s__.2) (((↑l.length:Int)) - 1).toNat 1 (((-1:Int)),([]))else none)))))
theorem yM8(l:List Nat)(direction:Nat)(y:List Int×Int×Unit)(h:yA3 l direction=some y):∃ n,yIs n l direction=some y :=
  ⟨big,LeF.top (show LeF some (yA3 l direction) (yIs big l direction)from (fun (n:Nat) (hn:big≤n)=>show LeF some (yA3 l direction) (yIs n l direction)from (y5 (y7 rfl) (y8 fun v0=>(y8 fun v1=>(y5 (y7 rfl) (yN fun hx=>by apply yBh n hn;exact hx)))))) big (Nat.le_refl _)) h⟩
def z0M_e:Entry:={ f:=154,args:=yM5,ress:=yPL,m:=fun x=>yA3 x.1 x.2.1 }
theorem yJb:FnOK Tryz.prog z0M_e:=yM (g:=yOB) (fn:=Tryz.f154) yD yK (yC yU0 (yC yNr (yC y41 eNil))) (by kernel_rfl) (by kernel_rfl) (by kernel_rfl) (fun x y h=>let ⟨n,hn⟩:=yM8 x.1 x.2.1 y h;⟨yKB n,iNil,(yQV n x).trans hn⟩)
abbrev zL_a:Ty:=.pair t55 .unit
abbrev zL_r:Ty:=.pair t28 .unit
def zL_g:G:={ T:=T,E:=[zz_e,z0m_e,z0N_e,z0Z_e],muts:=[],fz:=[] }
def zL_k:List (List Nat):=[]
def yRL(n:Nat):Ann:={ keep:=zL_k,fuel:=n,inl:=[],deep:=0 }
def zL_m(n:Nat)(c:Q2):Option (Int×Unit) :=
  (Option.bind (zz_M c.1) fun v0=>(Option.bind (y1k [(z0m (!v0.1) (8:Int)).1,(z0N c.2.1 (1:Int) (96:Int)).1,(z0N c.2.2.1 (0:Int) (3:Int)).1]) fun v1=>some (v1.1,())))
theorem yTY(n:Nat)(x:zL_a.den):runF zL_g (yRL n) Tryz.f160 zL_a zL_r x=zL_m n x.1:=by kernel_rfl
def zL_M(c:Q2):Option (Int×Unit):=zL_m 0 c
theorem yO7(c:Q2)(y:Int×Unit)(h:zL_M c=some y):∃ n,zL_m n c=some y:=⟨0,h⟩
def zL_e:Entry:={ f:=160,args:=zL_a,ress:=zL_r,m:=fun x=>zL_M x.1 }
theorem yUK:FnOK Tryz.prog zL_e:=yM (g:=zL_g) (fn:=Tryz.f160) yD yK (yC yOs (yC y5Y (yC yAu (yC y41 eNil)))) (by kernel_rfl) (by kernel_rfl) (by kernel_rfl) (fun x y h=>let ⟨n,hn⟩:=yO7 x.1 y h;⟨yRL n,iNil,(yTY n x).trans hn⟩)
abbrev zv_a:Ty:=.pair t55 (.pair (.ref t60) (.pair (.ref t31) (.pair (.ref t3) .unit)))
abbrev zv_r:Ty:=.pair t57 .unit
def zv_g:G:={ T:=T,E:=[z0a_e],muts:=[],fz:=[] }
def zv_k:List (List Nat):=[]
def yS0(n:Nat):Ann:={ keep:=zv_k,fuel:=n,inl:=[],deep:=0 }
def zv_m(n:Nat)(c:Q2)(p1:List UInt8×Int×List Nat×List (Q3)×Unit)(p2:List (Q2))(p3:Int):Option ((Q3)×Unit) :=
  (Option.bind (idx p2 p3) fun v0=>(Option.bind (yAe p1 c v0) fun v1=>some ((v1.1.1,v1.1.2.1,()),())))
theorem yT3(n:Nat)(x:zv_a.den):runF zv_g (yS0 n) Tryz.f163 zv_a zv_r x=zv_m n x.1 x.2.1 x.2.2.1 x.2.2.2.1:=by kernel_rfl
def zv_M(c:Q2)(p1:List UInt8×Int×List Nat×List (Q3)×Unit)(p2:List (Q2))(p3:Int):Option ((Q3)×Unit):=zv_m 0 c p1 p2 p3
theorem yQz(c:Q2)(p1:List UInt8×Int×List Nat×List (Q3)×Unit)(p2:List (Q2))(p3:Int)(y:(Q3)×Unit)(h:zv_M c p1 p2 p3=some y):∃ n,zv_m n c p1 p2 p3=some y:=⟨0,h⟩
def zv_e:Entry:={ f:=163,args:=zv_a,ress:=zv_r,m:=fun x=>zv_M x.1 x.2.1 x.2.2.1 x.2.2.2.1 }
theorem yTi:FnOK Tryz.prog zv_e:=yM (g:=zv_g) (fn:=Tryz.f163) yD yK (yC yH8 eNil) (by kernel_rfl) (by kernel_rfl) (by kernel_rfl) (fun x y h=>let ⟨n,hn⟩:=yQz x.1 x.2.1 x.2.2.1 x.2.2.2.1 y h;⟨yS0 n,iNil,(yT3 n x).trans hn⟩)
abbrev yMG:Ty:=.pair t210 (.pair t3 .unit)
abbrev yR5:Ty:=.pair t4 .unit
def yPv:G:={ T:=T,E:=[z0n_e],muts:=[],fz:=[] }
def yU1:List (List Nat):=[]
def yJY(n:Nat):Ann:={ keep:=yU1,fuel:=n,inl:=[],deep:=0 }
def yJC(n:Nat)(f:Nat)(sign:Int):Option (Bool×Unit) :=
  (bif sign==0 then (Option.bind (absM f) fun v0=>some (yY Go.BinOp.gtr Go.FloatKind.f64 v0.1 (nat_lit 9218868437227405311),()))else (bif decide (sign < 0)then some (yY Go.BinOp.gtr Go.FloatKind.f64 (yDP Go.FloatKind.f64 f) (nat_lit 9218868437227405311),())else some (yY Go.BinOp.gtr Go.FloatKind.f64 f (nat_lit 9218868437227405311),())))
theorem yRJ(n:Nat)(x:yMG.den):runF yPv (yJY n) Tryz.f172 yMG yR5 x=yJC n x.1 x.2.1:=by kernel_rfl
def yG2(f:Nat)(sign:Int):Option (Bool×Unit):=yJC 0 f sign
theorem yKc(f:Nat)(sign:Int)(y:Bool×Unit)(h:yG2 f sign=some y):∃ n,yJC n f sign=some y:=⟨0,h⟩
def z0R_e:Entry:={ f:=172,args:=yMG,ress:=yR5,m:=fun x=>yG2 x.1 x.2.1 }
theorem yS6:FnOK Tryz.prog z0R_e:=yM (g:=yPv) (fn:=Tryz.f172) yD yK (yC yR6 eNil) (by kernel_rfl) (by kernel_rfl) (by kernel_rfl) (fun x y h=>let ⟨n,hn⟩:=yKc x.1 x.2.1 y h;⟨yJY n,iNil,(yRJ n x).trans hn⟩)
abbrev zj_a:Ty:=.pair t55 (.pair (.ref t60) (.pair (.ref t55) .unit))
abbrev zj_r:Ty:=.pair t57 .unit
def zj_g:G:={ T:=T,E:=[z0a_e],muts:=[],fz:=[] }
def zj_k:List (List Nat):=[]
def yNk(n:Nat):Ann:={ keep:=zj_k,fuel:=n,inl:=[],deep:=0 }
def zj_m(n:Nat)(b:Q2)(p1:List UInt8×Int×List Nat×List (Q3)×Unit)(p2:Q2):Option ((Q3)×Unit) :=
  (Option.bind (yAe p1 p2 b) fun v0=>some ((v0.1.1,v0.1.2.1,()),()))
theorem yTA(n:Nat)(x:zj_a.den):runF zj_g (yNk n) Tryz.f193 zj_a zj_r x=zj_m n x.1 x.2.1 x.2.2.1:=by kernel_rfl
def zj_M(b:Q2)(p1:List UInt8×Int×List Nat×List (Q3)×Unit)(p2:Q2):Option ((Q3)×Unit):=zj_m 0 b p1 p2
theorem yPg(b:Q2)(p1:List UInt8×Int×List Nat×List (Q3)×Unit)(p2:Q2)(y:(Q3)×Unit)(h:zj_M b p1 p2=some y):∃ n,zj_m n b p1 p2=some y:=⟨0,h⟩
def zj_e:Entry:={ f:=193,args:=zj_a,ress:=zj_r,m:=fun x=>zj_M x.1 x.2.1 x.2.2.1 }
theorem yTX:FnOK Tryz.prog zj_e:=yM (g:=zj_g) (fn:=Tryz.f193) yD yK (yC yH8 eNil) (by kernel_rfl) (by kernel_rfl) (by kernel_rfl) (fun x y h=>let ⟨n,hn⟩:=yPg x.1 x.2.1 x.2.2.1 y h;⟨yNk n,iNil,(yTA n x).trans hn⟩)
abbrev zT_a:Ty:=.pair t35 .unit
abbrev zT_r:Ty:=.pair t28 .unit
def zT_g:G:={ T:=T,E:=[zW_e],muts:=[],fz:=[] }
def zT_k:List (List Nat):=[[3,6,7,8]]
def yO6(n:Nat):Ann:={ keep:=zT_k,fuel:=n,inl:=[],deep:=0 }
def yGh(n:Nat)(r0:Int→List Nat→Int→Int→Option (Int×Unit))(aa:Int)(al:List Nat)(ai:Int)(ar:Int):Option (Int×Unit) :=
  (bif decide (ar < ai)then (Option.bind (idx al ar) fun v1=>(Option.bind (zW_M v1) fun v2=>(bif v2.1 != 0 then some (v2.1,())else r0 v2.1 al ai (IntKind.i64.wrap (ar+1)))))else some (aa,()))
def y9X(n:Nat)(k:Nat)(aa:Int)(al:List Nat)(ai:Int)(ar:Int):Option (Int×Unit) :=
  iter (fun r y=>yGh n (fun aa al ai ar=>r ((aa,(al,(ai,(ar,())))),((),()))) y.1.1 y.1.2.1 y.1.2.2.1 y.1.2.2.2.1) k ((aa,(al,(ai,(ar,())))),((),()))
def zT_m(n:Nat)(l:List Nat):Option (Int×Unit) :=
  (y9X n n ((0:Int)) (l) ((↑l.length:Int)) ((0:Int)))
theorem yUS(n:Nat)(x:zT_a.den):runF zT_g (yO6 n) Tryz.f202 zT_a zT_r x=zT_m n x.1:=by kernel_rfl
def yMT(al:List Nat)(ar:Int)(v1:Nat)(aa:Int):Option ((Int×Unit)⊕(Int)) :=
  (Option.bind (zW_M v1) fun v2=>(bif v2.1 != 0 then (some (Sum.inl ((v2.1,()))))else (some (Sum.inr (v2.1)))))
def yLj(al:List Nat)(aa:Int):Option (Int×Unit) :=
  (some ((aa,())))
theorem yEJ(n:Nat)(hn:big≤n)(al:List Nat)(aa:Int)(hx:List.length (al) < lenMax):LeF some (yP (fun i__ e__ s__=>yMT al i__ e__ s__) (fun s__=>yLj al s__) 0 (al) aa) (y9X n n aa al (List.length (al):Int) 0):=by
  refine yO (f:=some) (W:=fun k__ i__ s__=>y9X n k__ s__ al (List.length (al):Int) i__) (body:=(fun i__ e__ s__=>yMT al i__ e__ s__)) (fin:=(fun s__=>yLj al s__)) (fun k__ i__ s__=>?_) hx aa n (by unfold big at hn;unfold lenMax at hx;omega)
  show LeF _ _ (yGh n (y9X n k__) s__ al (List.length (al):Int) i__)
  exact y5 (y8 fun v1=>(y8 fun v2=>(y5 (y7 rfl) (y7 rfl)))) (yp (y7 rfl))
def zT_M(l:List Nat):Option (Int×Unit) :=
  (bif decide (List.length (l) < lenMax)then yP (fun i__ e__ s__=>yMT (l) i__ e__ s__) (fun s__=>yLj (l) s__) 0 (l) ((0:Int))else none)
theorem yPW(l:List Nat)(y:Int×Unit)(h:zT_M l=some y):∃ n,zT_m n l=some y :=
  ⟨big,LeF.top (show LeF some (zT_M l) (zT_m big l)from (fun (n:Nat) (hn:big≤n)=>show LeF some (zT_M l) (zT_m n l)from (yN fun hx=>by apply yEJ n hn;exact hx)) big (Nat.le_refl _)) h⟩
def zT_e:Entry:={ f:=202,args:=zT_a,ress:=zT_r,m:=fun x=>zT_M x.1 }
theorem yUs:FnOK Tryz.prog zT_e:=yM (g:=zT_g) (fn:=Tryz.f202) yD yK (yC yNr eNil) (by kernel_rfl) (by kernel_rfl) (by kernel_rfl) (fun x y h=>let ⟨n,hn⟩:=yPW x.1 y h;⟨yO6 n,iNil,(yUS n x).trans hn⟩)
abbrev zX_a:Ty:=.pair t58 .unit
abbrev zX_r:Ty:=.pair t28 .unit
def zX_g:G:={ T:=T,E:=[zg_e,z0O_e,z0B_e],muts:=[],fz:=[] }
def zX_k:List (List Nat):=[[0,9,10,11]]
def yOY(n:Nat):Ann:={ keep:=zX_k,fuel:=n,inl:=[],deep:=0 }
def yGM(n:Nat)(r0:List (Q3)→List (Q3)→Int→Int→Option (Int×Unit))(am:List (Q3))(ae:List (Q3))(aw:Int)(ah:Int):Option (Int×Unit) :=
  (bif decide (ah < aw)then (Option.bind (idx ae ah) fun v1=>(bif decide (ah > 0)then (Option.bind (idx am (if Bool.true=Bool.true then if IntKind.i64.wrap (ah - (1:Int)) > 0 then IntKind.i64.wrap (ah - (1:Int))else (0:Int)else if IntKind.i64.wrap (ah - (1:Int)) < 0 then IntKind.i64.wrap (ah - (1:Int))else (0:Int))) fun v2=>(Option.bind (y7Z [(zg (v1.1,v1.2.1,())).1,(z0O (decide (v1.1≤v2.2.1)) (11:Int)).1]) fun v3=>(bif v3.1 != 0 then some (v3.1,())else r0 am ae aw (IntKind.i64.wrap (ah+1)))))else (Option.bind (y7Z [(zg (v1.1,v1.2.1,())).1,(z0O Bool.false (11:Int)).1]) fun v4=>(bif v4.1 != 0 then some (v4.1,())else r0 am ae aw (IntKind.i64.wrap (ah+1))))))else some ((0:Int),()))
def y98(n:Nat)(k:Nat)(am:List (Q3))(ae:List (Q3))(aw:Int)(ah:Int):Option (Int×Unit) :=
  iter (fun r y=>yGM n (fun am ae aw ah=>r ((am,(ae,(aw,(ah,())))),((),()))) y.1.1 y.1.2.1 y.1.2.2.1 y.1.2.2.2.1) k ((am,(ae,(aw,(ah,())))),((),()))
def zX_m(n:Nat)(l:List (Q3)):Option (Int×Unit) :=
  (bif decide ((↑l.length:Int) > 2048)then some ((5:Int),())else (y98 n n (l) (l) ((↑l.length:Int)) ((0:Int))))
theorem yTB(n:Nat)(x:zX_a.den):runF zX_g (yOY n) Tryz.f203 zX_a zX_r x=zX_m n x.1:=by kernel_rfl
def yN7(am:List (Q3))(ae:List (Q3))(ah:Int)(v1:Q3):Option ((Int×Unit)⊕Unit) :=
  (bif decide (ah > 0)then (Option.bind (idx am (if Bool.true=Bool.true then if IntKind.i64.wrap (ah - (1:Int)) > 0 then IntKind.i64.wrap (ah - (1:Int))else (0:Int)else if IntKind.i64.wrap (ah - (1:Int)) < 0 then IntKind.i64.wrap (ah - (1:Int))else (0:Int))) fun v2=>(Option.bind (y7Z [(zg (v1.1,v1.2.1,())).1,(z0O (decide (v1.1≤v2.2.1)) (11:Int)).1]) fun v3=>(bif v3.1 != 0 then (some (Sum.inl ((v3.1,()))))else (some (Sum.inr ())))))else (Option.bind (y7Z [(zg (v1.1,v1.2.1,())).1,(z0O Bool.false (11:Int)).1]) fun v4=>(bif v4.1 != 0 then (some (Sum.inl ((v4.1,()))))else (some (Sum.inr ())))))
def yLP(am:List (Q3))(ae:List (Q3)):Option (Int×Unit) :=
  (some (((0:Int),())))
theorem yDz(n:Nat)(hn:big≤n)(am:List (Q3))(ae:List (Q3))(hx:List.length (ae) < lenMax):LeF some (yP (fun i__ e__ s__=>yN7 am ae i__ e__) (fun s__=>yLP am ae) 0 (ae) ()) (y98 n n am ae (List.length (ae):Int) 0):=by
  refine yO (f:=some) (W:=fun k__ i__ s__=>y98 n k__ am ae (List.length (ae):Int) i__) (body:=(fun i__ e__ s__=>yN7 am ae i__ e__)) (fin:=(fun s__=>yLP am ae)) (fun k__ i__ s__=>?_) hx () n (by unfold big at hn;unfold lenMax at hx;omega)
  show LeF _ _ (yGM n (y98 n k__) am ae (List.length (ae):Int) i__)
  exact y5 (y8 fun v1=>(y5 (y8 fun v2=>(y8 fun v3=>(y5 (y7 rfl) (y7 rfl)))) (y8 fun v4=>(y5 (y7 rfl) (y7 rfl))))) (yp (y7 rfl))
def zX_M(l:List (Q3)):Option (Int×Unit) :=
  (bif decide ((↑l.length:Int) > 2048)then (some (((5:Int),())))else (bif decide (List.length (l) < lenMax)then yP (fun i__ e__ s__=>yN7 (l) (l) i__ e__) (fun s__=>yLP (l) (l)) 0 (l) ()else none))
theorem yOb(l:List (Q3))(y:Int×Unit)(h:zX_M l=some y):∃ n,zX_m n l=some y :=
  ⟨big,LeF.top (show LeF some (zX_M l) (zX_m big l)from (fun (n:Nat) (hn:big≤n)=>show LeF some (zX_M l) (zX_m n l)from (y5 (y7 rfl) (yN fun hx=>by apply yDz n hn;exact hx))) big (Nat.le_refl _)) h⟩
def zX_e:Entry:={ f:=203,args:=zX_a,ress:=zX_r,m:=fun x=>zX_M x.1 }
theorem yUt:FnOK Tryz.prog zX_e:=yM (g:=zX_g) (fn:=Tryz.f203) yD yK (yC yUT (yC y9z (yC yJl eNil))) (by kernel_rfl) (by kernel_rfl) (by kernel_rfl) (fun x y h=>let ⟨n,hn⟩:=yOb x.1 y h;⟨yOY n,iNil,(yTB n x).trans hn⟩)
abbrev zP_a:Ty:=.pair t63 (.pair (.ref t60) .unit)
abbrev zP_r:Ty:=.pair t4 .unit
def zP_g:G:={ T:=T,E:=[zC_e,zN_e],muts:=[],fz:=[] }
def zP_k:List (List Nat):=[]
def yOR(n:Nat):Ann:={ keep:=zP_k,fuel:=n,inl:=[],deep:=0 }
def zP_m(n:Nat)(s:Q3)(p1:List UInt8×Int×List Nat×List (Q3)×Unit):Option (Bool×Unit) :=
  (bif decide ((0:Int)≤s.1) && decide (s.1≤s.2.1) && decide (s.2.1≤(↑p1.2.2.1.length:Int))then (Option.bind (zC_M (List.drop s.1.toNat (List.take s.2.1.toNat p1.2.2.1)) fun (x:Nat×Unit)=>zN_M x.1) fun v0=>some (v0.1,()))else none)
theorem yUp(n:Nat)(x:zP_a.den):runF zP_g (yOR n) Tryz.f206 zP_a zP_r x=zP_m n x.1 x.2.1:=by kernel_rfl
def zP_M(s:Q3)(p1:List UInt8×Int×List Nat×List (Q3)×Unit):Option (Bool×Unit):=zP_m 0 s p1
theorem yOH(s:Q3)(p1:List UInt8×Int×List Nat×List (Q3)×Unit)(y:Bool×Unit)(h:zP_M s p1=some y):∃ n,zP_m n s p1=some y:=⟨0,h⟩
def zP_e:Entry:={ f:=206,args:=zP_a,ress:=zP_r,m:=fun x=>zP_M x.1 x.2.1 }
theorem yUn:FnOK Tryz.prog zP_e:=yM (g:=zP_g) (fn:=Tryz.f206) yD yK (yC yUC (yC yTJ eNil)) (by kernel_rfl) (by kernel_rfl) (by kernel_rfl) (fun x y h=>let ⟨n,hn⟩:=yOH x.1 x.2.1 y h;⟨yOR n,iNil,(yUp n x).trans hn⟩)
end
end Go.Tw
end
section
set_option maxRecDepth 1000000
namespace Go.Tw
open Go.Vx Go.Vx.B Go.Proofs
noncomputable section
abbrev yLJ:Ty:=.pair t35 .unit
abbrev yOF:Ty:=.pair t41 (.pair t28 .unit)
def yOx:G:={ T:=T,E:=[z0M_e],muts:=[],fz:=[] }
def yTF:List (List Nat):=[]
def yJj(n:Nat):Ann:={ keep:=yTF,fuel:=n,inl:=[],deep:=0 }
def yI5(n:Nat)(l:List Nat):Option (List Int×Int×Unit) :=
  (Option.bind (yA3 l (nat_lit 1065353216)) fun v0=>some (v0.1,v0.2.1,()))
theorem yOJ(n:Nat)(x:yLJ.den):runF yOx (yJj n) Tryz.f71 yLJ yOF x=yI5 n x.1:=by kernel_rfl
def yJB(l:List Nat):Option (List Int×Int×Unit):=yI5 0 l
theorem yML(l:List Nat)(y:List Int×Int×Unit)(h:yJB l=some y):∃ n,yI5 n l=some y:=⟨0,h⟩
def z0U_e:Entry:={ f:=71,args:=yLJ,ress:=yOF,m:=fun x=>yJB x.1 }
theorem yJt:FnOK Tryz.prog z0U_e:=yM (g:=yOx) (fn:=Tryz.f71) yD yK (yC yJb eNil) (by kernel_rfl) (by kernel_rfl) (by kernel_rfl) (fun x y h=>let ⟨n,hn⟩:=yML x.1 y h;⟨yJj n,iNil,(yOJ n x).trans hn⟩)
abbrev yLz:Ty:=.pair t35 .unit
abbrev yQW:Ty:=.pair t41 (.pair t28 .unit)
def yQs:G:={ T:=T,E:=[z0M_e],muts:=[],fz:=[] }
def yTy:List (List Nat):=[]
def yJn(n:Nat):Ann:={ keep:=yTy,fuel:=n,inl:=[],deep:=0 }
def yJX(n:Nat)(l:List Nat):Option (List Int×Int×Unit) :=
  (Option.bind (yA3 l (nat_lit 3212836864)) fun v0=>some (v0.1,v0.2.1,()))
theorem yPp(n:Nat)(x:yLz.den):runF yQs (yJn n) Tryz.f72 yLz yQW x=yJX n x.1:=by kernel_rfl
def yIP(l:List Nat):Option (List Int×Int×Unit):=yJX 0 l
theorem yNT(l:List Nat)(y:List Int×Int×Unit)(h:yIP l=some y):∃ n,yJX n l=some y:=⟨0,h⟩
def z0i_e:Entry:={ f:=72,args:=yLz,ress:=yQW,m:=fun x=>yIP x.1 }
theorem yK5:FnOK Tryz.prog z0i_e:=yM (g:=yQs) (fn:=Tryz.f72) yD yK (yC yJb eNil) (by kernel_rfl) (by kernel_rfl) (by kernel_rfl) (fun x y h=>let ⟨n,hn⟩:=yNT x.1 y h;⟨yJn n,iNil,(yPp n x).trans hn⟩)
abbrev zK_a:Ty:=.pair t31 .unit
abbrev zK_r:Ty:=.pair t28 .unit
def zK_g:G:={ T:=T,E:=[z0m_e,z0Z_e,zL_e],muts:=[21],fz:=[] }
def zK_k:List (List Nat):=[[4,22,23,24]]
def yOq(n:Nat):Ann:={ keep:=zK_k,fuel:=n,inl:=[],deep:=0 }
def yFQ(n:Nat)(r1:List (Q2)→Int→Int→List (List UInt8×Bool)→Option (Int×Unit))(ac:List (Q2))(ax:Int)(av:Int)(au:List (List UInt8×Bool)):Option (Int×Unit) :=
  (bif decide (av < ax)then (Option.bind (idx ac av) fun v2=>(Option.bind (zL_M (v2.1,v2.2.1,v2.2.2.1,())) fun v3=>(Option.bind (y1k [v3.1,(z0m ((y06 Ty.str Ty.bool au v2.1).getD Bool.false) (9:Int)).1]) fun v4=>(bif v4.1 != 0 then some (v4.1,())else r1 ac ax (IntKind.i64.wrap (av+1)) (y0N Ty.str Ty.bool au v2.1 Bool.true)))))else some ((0:Int),()))
def y8v(n:Nat)(k:Nat)(ac:List (Q2))(ax:Int)(av:Int)(au:List (List UInt8×Bool)):Option (Int×Unit) :=
  iter (fun r y=>yFQ n (fun ac ax av au=>r ((ac,(ax,(av,()))),((au,()),()))) y.1.1 y.1.2.1 y.1.2.2.1 y.2.1.1) k ((ac,(ax,(av,()))),((au,()),()))
def zK_m(n:Nat)(l:List (Q2)):Option (Int×Unit) :=
  (Option.bind (y1k [(z0m ((↑l.length:Int)==0) (12:Int)).1,(z0m (decide ((↑l.length:Int) > 4)) (5:Int)).1]) fun v0=>(bif v0.1 != 0 then some (v0.1,())else (y8v n n (l) ((↑l.length:Int)) ((0:Int)) ([]))))
theorem yUE(n:Nat)(x:zK_a.den):runF zK_g (yOq n) Tryz.f88 zK_a zK_r x=zK_m n x.1:=by kernel_rfl
def yKp(ac:List (Q2))(av:Int)(v2:Q2)(au:List (List UInt8×Bool)):Option ((Int×Unit)⊕(List (List UInt8×Bool))) :=
  (Option.bind (zL_M (v2.1,v2.2.1,v2.2.2.1,())) fun v3=>(Option.bind (y1k [v3.1,(z0m ((y06 Ty.str Ty.bool au v2.1).getD Bool.false) (9:Int)).1]) fun v4=>(bif v4.1 != 0 then (some (Sum.inl ((v4.1,()))))else (some (Sum.inr (y0N Ty.str Ty.bool au v2.1 Bool.true))))))
def yNY(ac:List (Q2))(au:List (List UInt8×Bool)):Option (Int×Unit) :=
  (some (((0:Int),())))
theorem yE6(n:Nat)(hn:big≤n)(ac:List (Q2))(au:List (List UInt8×Bool))(hx:List.length (ac) < lenMax):LeF some (yP (fun i__ e__ s__=>yKp ac i__ e__ s__) (fun s__=>yNY ac s__) 0 (ac) au) (y8v n n ac (List.length (ac):Int) 0 au):=by
  refine yO (f:=some) (W:=fun k__ i__ s__=>y8v n k__ ac (List.length (ac):Int) i__ s__) (body:=(fun i__ e__ s__=>yKp ac i__ e__ s__)) (fin:=(fun s__=>yNY ac s__)) (fun k__ i__ s__=>?_) hx au n (by unfold big at hn;unfold lenMax at hx;omega)
  show LeF _ _ (yFQ n (y8v n k__) ac (List.length (ac):Int) i__ s__)
  exact y5 (y8 fun v2=>(y8 fun v3=>(y8 fun v4=>(y5 (y7 rfl) (y7 rfl))))) (yp (y7 rfl))
def zK_M(l:List (Q2)):Option (Int×Unit) :=
  (Option.bind (y1k [(z0m ((↑l.length:Int)==0) (12:Int)).1,(z0m (decide ((↑l.length:Int) > 4)) (5:Int)).1]) fun v0=>(bif v0.1 != 0 then (some ((v0.1,())))else (bif decide (List.length (l) < lenMax)then yP (fun i__ e__ s__=>yKp (l) i__ e__ s__) (fun s__=>yNY (l) s__) 0 (l) ([])else none)))
theorem yOa(l:List (Q2))(y:Int×Unit)(h:zK_M l=some y):∃ n,zK_m n l=some y :=
  ⟨big,LeF.top (show LeF some (zK_M l) (zK_m big l)from (fun (n:Nat) (hn:big≤n)=>show LeF some (zK_M l) (zK_m n l)from (y8 fun v0=>(y5 (y7 rfl) (yN fun hx=>by apply yE6 n hn;exact hx)))) big (Nat.le_refl _)) h⟩
def zK_e:Entry:={ f:=88,args:=zK_a,ress:=zK_r,m:=fun x=>zK_M x.1 }
theorem yPS:FnOK Tryz.prog zK_e:=yM (g:=zK_g) (fn:=Tryz.f88) yD yK (yC y5Y (yC y41 (yC yUK eNil))) (by kernel_rfl) (by kernel_rfl) (by kernel_rfl) (fun x y h=>let ⟨n,hn⟩:=yOa x.1 y h;⟨yOq n,iNil,(yUE n x).trans hn⟩)
abbrev za_a:Ty:=.pair t61 .unit
abbrev za_r:Ty:=.pair t3 .unit
def za_g:G:={ T:=T,E:=[z0S_e,z0R_e,z0Q_e],muts:=[],fz:=[] }
def za_k:List (List Nat):=[]
def yNw(n:Nat):Ann:={ keep:=za_k,fuel:=n,inl:=[],deep:=0 }
def za_m(n:Nat)(xp:Nat):Option (Int×Unit) :=
  (Option.bind (y1V Go.FloatKind.f32 xp Go.FloatKind.f64) fun v0=>(bif (z0S v0).1 then some ((1:Int),())else (Option.bind (yG2 v0 (0:Int)) fun v1=>(bif v1.1 then some ((1:Int),())else (bif yY Go.BinOp.gtr Go.FloatKind.f64 v0 (nat_lit 4634204016564240384)then some ((3:Int),())else (bif yY Go.BinOp.lss Go.FloatKind.f64 v0 (nat_lit 13857576053419016192)then some ((3:Int),())else (Option.bind (y7J (yd Go.BinOp.mul Go.FloatKind.f64 (nat_lit 4625196817309499392) v0)) fun v4=>(bif yY Go.BinOp.neq Go.FloatKind.f64 (yd Go.BinOp.mul Go.FloatKind.f64 (nat_lit 4625196817309499392) v0) v4.1 then some ((3:Int),())else some ((0:Int),())))))))))
theorem yTU(n:Nat)(x:za_a.den):runF za_g (yNw n) Tryz.f96 za_a za_r x=za_m n x.1:=by kernel_rfl
def za_M(xp:Nat):Option (Int×Unit):=za_m 0 xp
theorem yPf(xp:Nat)(y:Int×Unit)(h:za_M xp=some y):∃ n,za_m n xp=some y:=⟨0,h⟩
def za_e:Entry:={ f:=96,args:=za_a,ress:=za_r,m:=fun x=>za_M x.1 }
theorem ySy:FnOK Tryz.prog za_e:=yM (g:=za_g) (fn:=Tryz.f96) yD yK (yC yNn (yC yS6 (yC yPQ eNil))) (by kernel_rfl) (by kernel_rfl) (by kernel_rfl) (fun x y h=>let ⟨n,hn⟩:=yPf x.1 y h;⟨yNw n,iNil,(yTU n x).trans hn⟩)
abbrev yNR:Ty:=.pair t31 (.pair t23 (.pair t3 .unit))
abbrev yOP:Ty:=.pair t33 .unit
def yQH:G:={ T:=T,E:=[z0J_e,z7_e,zt_e,zu_e,zG_e],muts:=[],fz:=[7] }
def yUv:List (List Nat):=[]
def yKF(n:Nat):Ann:={ keep:=yUv,fuel:=n,inl:=[],deep:=0 }
def yMR(n:Nat)(l:List (Q2))(amplitudes:List (Q3))(den:Int):Option ((Q1)×Unit) :=
  (Option.bind (yEn amplitudes den) fun v0=>(Option.bind (z7_M l fun (x:(Q2)×Unit)=>zt_M x.1) fun v1=>(Option.bind (zG_M amplitudes fun (x:(Q3)×Unit)=>zu_M x.1 v0.1) fun v2=>(bif v0.1==0 then none else some ((v1.1,v2.1,IntKind.i64.wrap (den.tdiv v0.1),()),())))))
theorem ySV(n:Nat)(x:yNR.den):runF yQH (yKF n) Tryz.f121 yNR yOP x=yMR n x.1 x.2.1 x.2.2.1:=by kernel_rfl
def yMK(l:List (Q2))(amplitudes:List (Q3))(den:Int):Option ((Q1)×Unit):=yMR 0 l amplitudes den
theorem yNG(l:List (Q2))(amplitudes:List (Q3))(den:Int)(y:(Q1)×Unit)(h:yMK l amplitudes den=some y):∃ n,yMR n l amplitudes den=some y:=⟨0,h⟩
def z09_e:Entry:={ f:=121,args:=yNR,ress:=yOP,m:=fun x=>yMK x.1 x.2.1 x.2.2.1 }
theorem yPm:FnOK Tryz.prog z09_e:=yM (g:=yQH) (fn:=Tryz.f121) yD yK (yC yKS (yC yTH (yC yTE (yC yUX (yC yU4 eNil))))) (by kernel_rfl) (by kernel_rfl) (by kernel_rfl) (fun x y h=>let ⟨n,hn⟩:=yNG x.1 x.2.1 x.2.2.1 y h;⟨yKF n,iNil,(ySV n x).trans hn⟩)
abbrev yNH:Ty:=.pair t3 .unit
abbrev yPs:Ty:=.pair t69 .unit
def yQx:G:={ T:=T,E:=[zx_e,z0c_e],muts:=[],fz:=[] }
def yTp:List (List Nat):=[]
def yJf(n:Nat):Ann:={ keep:=yTp,fuel:=n,inl:=[],deep:=0 }
def yLh(n:Nat)(year:Int):Option ((Q3)×Unit) :=
  (Option.bind (yCW (IntKind.i64.wrap ((104:Int) - (zx (IntKind.i64.wrap (year.tmod (16:Int) - (8:Int)))).1)) (100:Int)) fun v0=>some ((v0.1.1,v0.1.2.1,()),()))
theorem yQf(n:Nat)(x:yNH.den):runF yQx (yJf n) Tryz.f136 yNH yPs x=yLh n x.1:=by kernel_rfl
def yLv(year:Int):Option ((Q3)×Unit):=yLh 0 year
theorem yKj(year:Int)(y:(Q3)×Unit)(h:yLv year=some y):∃ n,yLh n year=some y:=⟨0,h⟩
def z0b_e:Entry:={ f:=136,args:=yNH,ress:=yPs,m:=fun x=>yLv x.1 }
theorem yPZ:FnOK Tryz.prog z0b_e:=yM (g:=yQx) (fn:=Tryz.f136) yD yK (yC yFr (yC yHd eNil)) (by kernel_rfl) (by kernel_rfl) (by kernel_rfl) (fun x y h=>let ⟨n,hn⟩:=yKj x.1 y h;⟨yJf n,iNil,(yQf n x).trans hn⟩)
abbrev zS_a:Ty:=.pair t60 .unit
abbrev zS_r:Ty:=.pair t28 .unit
def zS_g:G:={ T:=T,E:=[zz_e,z0O_e,z00_e,z0B_e,zT_e,zX_e,zO_e,zB_e,zP_e],muts:=[],fz:=[] }
def zS_k:List (List Nat):=[]
def yRV(n:Nat):Ann:={ keep:=zS_k,fuel:=n,inl:=[],deep:=0 }
def zS_m(n:Nat)(rp:List UInt8×Int×List Nat×List (Q3)×Unit):Option (Int×Unit) :=
  (Option.bind (zz_M rp.1) fun v0=>(Option.bind (y7Z [(z0O (!v0.1) (8:Int)).1,(z00 rp.2.1 (0:Int) (100000:Int)).1,(z0O (decide ((↑rp.2.2.1.length:Int) > 4096)) (5:Int)).1]) fun v1=>(bif v1.1 != 0 then some (v1.1,())else (Option.bind (zT_M rp.2.2.1) fun v2=>(Option.bind (zX_M rp.2.2.2.1) fun v3=>(Option.bind (y7Z [v2.1,v3.1]) fun v4=>(bif v4.1 != 0 then some (v4.1,())else (Option.bind (zB_M rp.2.2.2.1 fun (x:(Q3)×Unit)=>zO_M x.1 rp) fun v5=>(bif v5.1 then some ((14:Int),())else (Option.bind (zB_M rp.2.2.2.1 fun (x:(Q3)×Unit)=>zP_M x.1 rp) fun v6=>some ((z0O v6.1 (1:Int)).1,())))))))))))
theorem yT2(n:Nat)(x:zS_a.den):runF zS_g (yRV n) Tryz.f157 zS_a zS_r x=zS_m n x.1:=by kernel_rfl
def zS_M(rp:List UInt8×Int×List Nat×List (Q3)×Unit):Option (Int×Unit):=zS_m 0 rp
theorem yOI(rp:List UInt8×Int×List Nat×List (Q3)×Unit)(y:Int×Unit)(h:zS_M rp=some y):∃ n,zS_m n rp=some y:=⟨0,h⟩
def zS_e:Entry:={ f:=157,args:=zS_a,ress:=zS_r,m:=fun x=>zS_M x.1 }
theorem yUM:FnOK Tryz.prog zS_e:=yM (g:=zS_g) (fn:=Tryz.f157) yD yK (yC yOs (yC y9z (yC yPB (yC yJl (yC yUs (yC yUt (yC yUw (yC yTQ (yC yUn eNil))))))))) (by kernel_rfl) (by kernel_rfl) (by kernel_rfl) (fun x y h=>let ⟨n,hn⟩:=yOI x.1 y h;⟨yRV n,iNil,(yT2 n x).trans hn⟩)
abbrev zy_a:Ty:=.pair t55 (.pair (.ref t31) (.pair (.ref t60) .unit))
abbrev zy_r:Ty:=.pair t23 .unit
def zy_g:G:={ T:=T,E:=[zj_e,zA_e],muts:=[],fz:=[] }
def zy_k:List (List Nat):=[]
def ySL(n:Nat):Ann:={ keep:=zy_k,fuel:=n,inl:=[],deep:=0 }
def zy_m(n:Nat)(a:Q2)(p1:List (Q2))(p2:List UInt8×Int×List Nat×List (Q3)×Unit):Option (List (Q3)×Unit) :=
  (Option.bind (zA_M p1 fun (x:(Q2)×Unit)=>zj_M x.1 p2 a) fun v0=>some (v0.1,()))
theorem yTu(n:Nat)(x:zy_a.den):runF zy_g (ySL n) Tryz.f192 zy_a zy_r x=zy_m n x.1 x.2.1 x.2.2.1:=by kernel_rfl
def zy_M(a:Q2)(p1:List (Q2))(p2:List UInt8×Int×List Nat×List (Q3)×Unit):Option (List (Q3)×Unit):=zy_m 0 a p1 p2
theorem yQX(a:Q2)(p1:List (Q2))(p2:List UInt8×Int×List Nat×List (Q3)×Unit)(y:List (Q3)×Unit)(h:zy_M a p1 p2=some y):∃ n,zy_m n a p1 p2=some y:=⟨0,h⟩
def zy_e:Entry:={ f:=192,args:=zy_a,ress:=zy_r,m:=fun x=>zy_M x.1 x.2.1 x.2.2.1 }
theorem yU5:FnOK Tryz.prog zy_e:=yM (g:=zy_g) (fn:=Tryz.f192) yD yK (yC yTX (yC yL0 eNil)) (by kernel_rfl) (by kernel_rfl) (by kernel_rfl) (fun x y h=>let ⟨n,hn⟩:=yQX x.1 x.2.1 x.2.2.1 y h;⟨ySL n,iNil,(yTu n x).trans hn⟩)
end
end Go.Tw
end
