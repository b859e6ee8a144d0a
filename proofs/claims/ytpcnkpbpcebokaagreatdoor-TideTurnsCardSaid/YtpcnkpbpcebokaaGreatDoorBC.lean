import Derived.Test.YtpcnkpbpcebokaaGreatDoorBT
import Derived.Test.YtpcnkpbpcebokaaGreatDoorB0
import Derived.Test.YtpcnkpbpcebokaaGreatDoorBS
import Derived.Test.YtpcnkpbpcebokaaGreatDoorLQ
import Derived.Test.YtpcnkpbpcebokaaGreatDoorBA
import Derived.Test.YtpcnkpbpcebokaaGreatDoorLR
set_option linter.all false
section
set_option maxRecDepth 1000000
namespace Go.Tw
open Go.Vx Go.Vx.B Go.Proofs
noncomputable section
abbrev zq_a:Ty:=.pair t3 (.pair t3 .unit)
abbrev zq_r:Ty:=.pair t28 .unit
def zq_g:G:={ T:=T,E:=[z0O_e,z0a_e],muts:=[],fz:=[] }
def zq_k:List (List Nat):=[]
def ySG(n:Nat):Ann:={ keep:=zq_k,fuel:=n,inl:=[],deep:=0 }
def zq_m(n:Nat)(p0:Int)(np:Int):Option (Int×Unit) :=
  (Option.bind (y1m [(z0O p0 (0:Int) (100000:Int)).1,(z0O np (0:Int) (4096:Int)).1]) fun v0=>(bif v0.1 != 0 then some (v0.1,())else some ((z0O (IntKind.i64.wrap (p0+np)) (0:Int) (100000:Int)).1,())))
theorem yUD(n:Nat)(x:zq_a.den):runF zq_g (ySG n) Tryz.f105 zq_a zq_r x=zq_m n x.1 x.2.1:=by kernel_rfl
def zq_M(p0:Int)(np:Int):Option (Int×Unit):=zq_m 0 p0 np
theorem ySy(p0:Int)(np:Int)(y:Int×Unit)(h:zq_M p0 np=some y):∃ n,zq_m n p0 np=some y:=⟨0,h⟩
def zq_e:Entry:={ f:=105,args:=zq_a,ress:=zq_r,m:=fun x=>zq_M x.1 x.2.1 }
theorem yVO:FnOK Tryz.prog zq_e:=yO (g:=zq_g) (fn:=Tryz.f105) yD yK (yB yBC (yB y49 eNil)) (by kernel_rfl) (by kernel_rfl) (by kernel_rfl) (fun x y h=>let ⟨n,hn⟩:=ySy x.1 x.2.1 y h;⟨ySG n,iNil,(yUD n x).trans hn⟩)
abbrev yM6:Ty:=.pair t33 (.pair t3 .unit)
abbrev yQ2:Ty:=.pair t57 .unit
def yOg:G:={ T:=T,E:=[z0h_e],muts:=[],fz:=[] }
def yVZ:List (List Nat):=[]
def yKF(n:Nat):Ann:={ keep:=yVZ,fuel:=n,inl:=[],deep:=0 }
def yNm(n:Nat)(t:Q1)(tick:Int):Option ((Q3)×Unit) :=
  (Option.bind (yGo t.1 t.2.1 tick) fun v0=>some ((v0.1.1,v0.1.2.1,()),()))
theorem yQJ(n:Nat)(x:yM6.den):runF yOg (yKF n) Tryz.f106 yM6 yQ2 x=yNm n x.1 x.2.1:=by kernel_rfl
def yBQ(t:Q1)(tick:Int):Option ((Q3)×Unit):=yNm 0 t tick
theorem yO1(t:Q1)(tick:Int)(y:(Q3)×Unit)(h:yBQ t tick=some y):∃ n,yNm n t tick=some y:=⟨0,h⟩
def z07_e:Entry:={ f:=106,args:=yM6,ress:=yQ2,m:=fun x=>yBQ x.1 x.2.1 }
theorem yKQ:FnOK Tryz.prog z07_e:=yO (g:=yOg) (fn:=Tryz.f106) yD yK (yB yQo eNil) (by kernel_rfl) (by kernel_rfl) (by kernel_rfl) (fun x y h=>let ⟨n,hn⟩:=yO1 x.1 x.2.1 y h;⟨yKF n,iNil,(yQJ n x).trans hn⟩)
abbrev zp_a:Ty:=.pair t57 .unit
abbrev zp_r:Ty:=.pair t28 .unit
def zp_g:G:={ T:=T,E:=[z0O_e,z0a_e],muts:=[],fz:=[] }
def zp_k:List (List Nat):=[]
def yPY(n:Nat):Ann:={ keep:=zp_k,fuel:=n,inl:=[],deep:=0 }
def zp_m(n:Nat)(z:Q3):Option (Int×Unit) :=
  (Option.bind (y1m [(z0O z.1 (-8796093022208:Int) (8796093022208:Int)).1,(z0O z.2.1 (-8796093022208:Int) (8796093022208:Int)).1]) fun v0=>some (v0.1,()))
theorem yV4(n:Nat)(x:zp_a.den):runF zp_g (yPY n) Tryz.f116 zp_a zp_r x=zp_m n x.1:=by kernel_rfl
def zp_M(z:Q3):Option (Int×Unit):=zp_m 0 z
theorem yQ7(z:Q3)(y:Int×Unit)(h:zp_M z=some y):∃ n,zp_m n z=some y:=⟨0,h⟩
def zp_e:Entry:={ f:=116,args:=zp_a,ress:=zp_r,m:=fun x=>zp_M x.1 }
theorem yVK:FnOK Tryz.prog zp_e:=yO (g:=zp_g) (fn:=Tryz.f116) yD yK (yB yBC (yB y49 eNil)) (by kernel_rfl) (by kernel_rfl) (by kernel_rfl) (fun x y h=>let ⟨n,hn⟩:=yQ7 x.1 y h;⟨yPY n,iNil,(yV4 n x).trans hn⟩)
abbrev yMi:Ty:=.pair t23 (.pair t3 .unit)
abbrev yPJ:Ty:=.pair t3 .unit
def yQS:G:={ T:=T,E:=[z08_e],muts:=[],fz:=[] }
def yVR:List (List Nat):=[[1,7,8,9]]
def yLC(n:Nat):Ann:={ keep:=yVR,fuel:=n,inl:=[],deep:=0 }
def yDG(n:Nat)(r0:Int→List (Q3)→Int→Int→Option (Int×Unit))(af:Int)(ai:List (Q3))(ar:Int)(ae:Int):Option (Int×Unit) :=
  (bif decide (ae < ar)then (Option.bind (idx ai ae) fun v1=>(Option.bind (yBw af [v1.1,v1.2.1]) fun v2=>r0 v2.1 ai ar (IntKind.i64.wrap (ae+1))))else some (af,()))
def y6P(n:Nat)(k:Nat)(af:Int)(ai:List (Q3))(ar:Int)(ae:Int):Option (Int×Unit) :=
  iter (fun r y=>yDG n (fun af ai ar ae=>r ((af,(ai,(ar,(ae,())))),((),()))) y.1.1 y.1.2.1 y.1.2.2.1 y.1.2.2.2.1) k ((af,(ai,(ar,(ae,())))),((),()))
def yIj(n:Nat)(l:List (Q3))(den:Int):Option (Int×Unit) :=
  (y6P n n (den) (l) ((↑l.length:Int)) ((0:Int)))
theorem yRU(n:Nat)(x:yMi.den):runF yQS (yLC n) Tryz.f117 yMi yPJ x=yIj n x.1 x.2.1:=by kernel_rfl
def yG9(ai:List (Q3))(ae:Int)(v1:Q3)(af:Int):Option ((Int×Unit)⊕(Int)) :=
  (Option.bind (yBw af [v1.1,v1.2.1]) fun v2=>(some (Sum.inr (v2.1))))
def yGw(ai:List (Q3))(af:Int):Option (Int×Unit) :=
  (some ((af,())))
theorem yBh(n:Nat)(hn:big≤n)(ai:List (Q3))(af:Int)(hx:List.length (ai) < lenMax):LeF some (yP (fun i__ e__ s__=>yG9 ai i__ e__ s__) (fun s__=>yGw ai s__) 0 (ai) af) (y6P n n af ai (List.length (ai):Int) 0):=by
  refine yM (f:=some) (W:=fun k__ i__ s__=>y6P n k__ s__ ai (List.length (ai):Int) i__) (body:=(fun i__ e__ s__=>yG9 ai i__ e__ s__)) (fin:=(fun s__=>yGw ai s__)) (fun k__ i__ s__=>?_) hx af n (by unfold big at hn;unfold lenMax at hx;omega)
  show LeF _ _ (yDG n (y6P n k__) s__ ai (List.length (ai):Int) i__)
  exact y5 (y7 fun v1=>(y7 fun v2=>(y6 rfl))) (yq (y6 rfl))
def yF2(l:List (Q3))(den:Int):Option (Int×Unit) :=
  (bif decide (List.length (l) < lenMax)then yP (fun i__ e__ s__=>yG9 (l) i__ e__ s__) (fun s__=>yGw (l) s__) 0 (l) (den)else none)
theorem yNE(l:List (Q3))(den:Int)(y:Int×Unit)(h:yF2 l den=some y):∃ n,yIj n l den=some y :=
  ⟨big,LeF.top (show LeF some (yF2 l den) (yIj big l den)from (fun (n:Nat) (hn:big≤n)=>show LeF some (yF2 l den) (yIj n l den)from (yL fun hx=>by apply yBh n hn;exact hx)) big (Nat.le_refl _)) h⟩
def z0K_e:Entry:={ f:=117,args:=yMi,ress:=yPJ,m:=fun x=>yF2 x.1 x.2.1 }
theorem yKO:FnOK Tryz.prog z0K_e:=yO (g:=yQS) (fn:=Tryz.f117) yD yK (yB yKp eNil) (by kernel_rfl) (by kernel_rfl) (by kernel_rfl) (fun x y h=>let ⟨n,hn⟩:=yNE x.1 x.2.1 y h;⟨yLC n,iNil,(yRU n x).trans hn⟩)
abbrev zJ_a:Ty:=.pair t183 .unit
abbrev zJ_r:Ty:=.pair t57 .unit
def zJ_g:G:={ T:=T,E:=[zR_e],muts:=[],fz:=[] }
def zJ_k:List (List Nat):=[]
def yPi(n:Nat):Ann:={ keep:=zJ_k,fuel:=n,inl:=[],deep:=0 }
def zJ_m(n:Nat)(m:List (List (Q3))):Option ((Q3)×Unit) :=
  (Option.bind (y02 (8:Nat) (m,(0:Int),(0:Int),())) fun v0=>some ((v0.1.1,v0.1.2.1,()),()))
theorem yVm(n:Nat)(x:zJ_a.den):runF zJ_g (yPi n) Tryz.f123 zJ_a zJ_r x=zJ_m n x.1:=by kernel_rfl
def zJ_M(m:List (List (Q3))):Option ((Q3)×Unit):=zJ_m 0 m
theorem yPd(m:List (List (Q3)))(y:(Q3)×Unit)(h:zJ_M m=some y):∃ n,zJ_m n m=some y:=⟨0,h⟩
def zJ_e:Entry:={ f:=123,args:=zJ_a,ress:=zJ_r,m:=fun x=>zJ_M x.1 }
theorem yJT:FnOK Tryz.prog zJ_e:=yO (g:=zJ_g) (fn:=Tryz.f123) yD yK (yB yUb eNil) (by kernel_rfl) (by kernel_rfl) (by kernel_rfl) (fun x y h=>let ⟨n,hn⟩:=yPd x.1 y h;⟨yPi n,iNil,(yVm n x).trans hn⟩)
abbrev yNc:Ty:=.pair t3 (.pair t3 .unit)
abbrev yPh:Ty:=.pair t69 .unit
def yPz:G:={ T:=T,E:=[z08_e],muts:=[],fz:=[] }
def yVj:List (List Nat):=[]
def yKX(n:Nat):Ann:={ keep:=yVj,fuel:=n,inl:=[],deep:=0 }
def yLv(n:Nat)(num:Int)(den:Int):Option ((Q3)×Unit) :=
  (Option.bind (yBw den [num]) fun v0=>(bif v0.1==0 then none else (bif v0.1==0 then none else some ((IntKind.i64.wrap (num.tdiv v0.1),IntKind.i64.wrap (den.tdiv v0.1),()),()))))
theorem yPC(n:Nat)(x:yNc.den):runF yPz (yKX n) Tryz.f127 yNc yPh x=yLv n x.1 x.2.1:=by kernel_rfl
def yBZ(num:Int)(den:Int):Option ((Q3)×Unit):=yLv 0 num den
theorem yMr(num:Int)(den:Int)(y:(Q3)×Unit)(h:yBZ num den=some y):∃ n,yLv n num den=some y:=⟨0,h⟩
def z0d_e:Entry:={ f:=127,args:=yNc,ress:=yPh,m:=fun x=>yBZ x.1 x.2.1 }
theorem yFp:FnOK Tryz.prog z0d_e:=yO (g:=yPz) (fn:=Tryz.f127) yD yK (yB yKp eNil) (by kernel_rfl) (by kernel_rfl) (by kernel_rfl) (fun x y h=>let ⟨n,hn⟩:=yMr x.1 x.2.1 y h;⟨yKX n,iNil,(yPC n x).trans hn⟩)
abbrev yOL:Ty:=.pair t35 (.pair t61 .unit)
abbrev yTT:Ty:=.pair t41 (.pair t28 .unit)
def yQ5:G:={ T:=T,E:=[zI_e,zW_e,z0a_e],muts:=[7],fz:=[] }
def yVQ:List (List Nat):=[[0,1,7,8,9]]
def yKw(n:Nat):Ann:={ keep:=yVQ,fuel:=n,inl:=[],deep:=0 }
def yDq(n:Nat)(r2:List Nat→Nat→Int→Int→List Int→Option (List Int×Int×Unit))(aj:List Nat)(a7:Nat)(a8:Int)(aq:Int)(ak:List Int):Option (List Int×Int×Unit) :=
  (bif decide (aq < (↑aj.length:Int))then (Option.bind (idx aj aq) fun v3=>(Option.bind (idx aj (IntKind.i64.wrap (aq - (1:Int)))) fun v4=>(bif yR Go.BinOp.gtr Go.FloatKind.f32 (yh Go.BinOp.mul Go.FloatKind.f32 a7 (yh Go.BinOp.sub Go.FloatKind.f32 v3 v4)) (nat_lit 0)then r2 aj a7 aq (IntKind.i64.wrap (aq+1)) ak else (bif yR Go.BinOp.lss Go.FloatKind.f32 (yh Go.BinOp.mul Go.FloatKind.f32 a7 (yh Go.BinOp.sub Go.FloatKind.f32 v3 v4)) (nat_lit 0)then (bif decide (a8 ≥ 0)then (bif decide (ak.length+(1:Nat)≤memMax)then r2 aj a7 (-1:Int) (IntKind.i64.wrap (aq+1)) (ak++[a8])else none)else r2 aj a7 (-1:Int) (IntKind.i64.wrap (aq+1)) ak)else r2 aj a7 a8 (IntKind.i64.wrap (aq+1)) ak))))else some (ak,(0:Int),()))
def y6T(n:Nat)(k:Nat)(aj:List Nat)(a7:Nat)(a8:Int)(aq:Int)(ak:List Int):Option (List Int×Int×Unit) :=
  iter (fun r y=>yDq n (fun aj a7 a8 aq ak=>r ((aj,(a7,(a8,(aq,())))),((ak,()),()))) y.1.1 y.1.2.1 y.1.2.2.1 y.1.2.2.2.1 y.2.1.1) k ((aj,(a7,(a8,(aq,())))),((ak,()),()))
def yIu(n:Nat)(l:List Nat)(direction:Nat):Option (List Int×Int×Unit) :=
  (bif decide ((↑l.length:Int) > 4096)then some ([],(5:Int),())else (Option.bind (zI_M l fun (x:Nat×Unit)=>zW_M x.1) fun v0=>(Option.bind (y1m v0.1) fun v1=>(bif v1.1 != 0 then some ([],v1.1,())else (y6T n n (l) (direction) ((-1:Int)) ((1:Int)) ([]))))))
theorem ySB(n:Nat)(x:yOL.den):runF yQ5 (yKw n) Tryz.f154 yOL yTT x=yIu n x.1 x.2.1:=by kernel_rfl
def yB1(aj:List Nat)(a7:Nat)(aq:Int)(a8:Int)(ak:List Int):Option ((List Int×Int×Unit)⊕(Int×List Int)) :=
  (Option.bind (idx aj aq) fun v3=>(Option.bind (idx aj (IntKind.i64.wrap (aq - (1:Int)))) fun v4=>(bif yR Go.BinOp.gtr Go.FloatKind.f32 (yh Go.BinOp.mul Go.FloatKind.f32 a7 (yh Go.BinOp.sub Go.FloatKind.f32 v3 v4)) (nat_lit 0)then (some (Sum.inr ((aq),(ak))))else (bif yR Go.BinOp.lss Go.FloatKind.f32 (yh Go.BinOp.mul Go.FloatKind.f32 a7 (yh Go.BinOp.sub Go.FloatKind.f32 v3 v4)) (nat_lit 0)then (bif decide (a8 ≥ 0)then (bif decide (ak.length+(1:Nat)≤memMax)then (some (Sum.inr (((-1:Int)),(ak++[a8]))))else none)else (some (Sum.inr (((-1:Int)),(ak)))))else (some (Sum.inr ((a8),(ak))))))))
def yBI(aj:List Nat)(a7:Nat)(a8:Int)(ak:List Int):Option (List Int×Int×Unit) :=
  (some ((ak,(0:Int),())))
theorem yCl(n:Nat)(hn:big≤n)(aj:List Nat)(a7:Nat)(a8:Int)(ak:List Int)(hx:((↑aj.length:Int))≤9223372036854775807):LeF some (y1g (fun i__ s__=>yB1 aj a7 i__ s__.1 s__.2) (fun s__=>yBI aj a7 s__.1 s__.2) (((↑aj.length:Int)) - 1).toNat 1 (a8,ak)) (y6T n n aj a7 a8 1 ak):=by
  refine y2I (f:=some) (W:=fun k__ i__ s__=>y6T n k__ aj a7 s__.1 i__ s__.2) (body:=(fun i__ s__=>yB1 aj a7 i__ s__.1 s__.2)) (fin:=(fun s__=>yBI aj a7 s__.1 s__.2)) (fun k__ i__ s__=>?_) hx (a8,ak) n 1 (by decide) (by unfold big at hn;omega)
  show LeF _ _ (yDq n (y6T n k__) aj a7 s__.1 i__ s__.2)
  exact y5 (y7 fun v3=>(y7 fun v4=>(y5 (y6 rfl) (y5 (y5 (y5 (y6 rfl) yY) (y6 rfl)) (y6 rfl))))) (yq (y6 rfl))
def yAH(l:List Nat)(direction:Nat):Option (List Int×Int×Unit) :=
  (bif decide ((↑l.length:Int) > 4096)then (some (([],(5:Int),())))else (Option.bind (zI_M l fun (x:Nat×Unit)=>zW_M x.1) fun v0=>(Option.bind (y1m v0.1) fun v1=>(bif v1.1 != 0 then (some (([],v1.1,())))else (bif decide (((↑l.length:Int))≤9223372036854775807)then y1g (fun i__ s__=>yB1 (l) (direction) i__ s__.1 s__.2) (fun s__=>yBI (l) (direction) s__.1 s__.2) (((↑l.length:Int)) - 1).toNat 1 (((-1:Int)),([]))else none)))))
theorem yMk(l:List Nat)(direction:Nat)(y:List Int×Int×Unit)(h:yAH l direction=some y):∃ n,yIu n l direction=some y :=
  ⟨big,LeF.top (show LeF some (yAH l direction) (yIu big l direction)from (fun (n:Nat) (hn:big≤n)=>show LeF some (yAH l direction) (yIu n l direction)from (y5 (y6 rfl) (y7 fun v0=>(y7 fun v1=>(y5 (y6 rfl) (yL fun hx=>by apply yCl n hn;exact hx)))))) big (Nat.le_refl _)) h⟩
def z0N_e:Entry:={ f:=154,args:=yOL,ress:=yTT,m:=fun x=>yAH x.1 x.2.1 }
theorem yL2:FnOK Tryz.prog z0N_e:=yO (g:=yQ5) (fn:=Tryz.f154) yD yK (yB yVY (yB yQ8 (yB y49 eNil))) (by kernel_rfl) (by kernel_rfl) (by kernel_rfl) (fun x y h=>let ⟨n,hn⟩:=yMk x.1 x.2.1 y h;⟨yKw n,iNil,(ySB n x).trans hn⟩)
abbrev zL_a:Ty:=.pair t55 .unit
abbrev zL_r:Ty:=.pair t28 .unit
def zL_g:G:={ T:=T,E:=[z00_e,z0n_e,z0O_e,z0a_e],muts:=[],fz:=[] }
def zL_k:List (List Nat):=[]
def yRT(n:Nat):Ann:={ keep:=zL_k,fuel:=n,inl:=[],deep:=0 }
def zL_m(n:Nat)(c:Q2):Option (Int×Unit) :=
  (Option.bind (yF7 c.1) fun v0=>(Option.bind (y1m [(z0n (!v0.1) (8:Int)).1,(z0O c.2.1 (1:Int) (96:Int)).1,(z0O c.2.2.1 (0:Int) (3:Int)).1]) fun v1=>some (v1.1,())))
theorem yU8(n:Nat)(x:zL_a.den):runF zL_g (yRT n) Tryz.f160 zL_a zL_r x=zL_m n x.1:=by kernel_rfl
def zL_M(c:Q2):Option (Int×Unit):=zL_m 0 c
theorem yRq(c:Q2)(y:Int×Unit)(h:zL_M c=some y):∃ n,zL_m n c=some y:=⟨0,h⟩
def zL_e:Entry:={ f:=160,args:=zL_a,ress:=zL_r,m:=fun x=>zL_M x.1 }
theorem yVr:FnOK Tryz.prog zL_e:=yO (g:=zL_g) (fn:=Tryz.f160) yD yK (yB yLF (yB y5q (yB yBC (yB y49 eNil)))) (by kernel_rfl) (by kernel_rfl) (by kernel_rfl) (fun x y h=>let ⟨n,hn⟩:=yRq x.1 y h;⟨yRT n,iNil,(yU8 n x).trans hn⟩)
abbrev zw_a:Ty:=.pair t55 (.pair (.ref t60) (.pair (.ref t31) (.pair (.ref t3) .unit)))
abbrev zw_r:Ty:=.pair t57 .unit
def zw_g:G:={ T:=T,E:=[z0b_e],muts:=[],fz:=[] }
def zw_k:List (List Nat):=[]
def yOb(n:Nat):Ann:={ keep:=zw_k,fuel:=n,inl:=[],deep:=0 }
def zw_m(n:Nat)(c:Q2)(p1:List UInt8×Int×List Nat×List (Q3)×Unit)(p2:List (Q2))(p3:Int):Option ((Q3)×Unit) :=
  (Option.bind (idx p2 p3) fun v0=>(Option.bind (yB6 p1 c v0) fun v1=>some ((v1.1.1,v1.1.2.1,()),())))
theorem yUe(n:Nat)(x:zw_a.den):runF zw_g (yOb n) Tryz.f163 zw_a zw_r x=zw_m n x.1 x.2.1 x.2.2.1 x.2.2.2.1:=by kernel_rfl
def zw_M(c:Q2)(p1:List UInt8×Int×List Nat×List (Q3)×Unit)(p2:List (Q2))(p3:Int):Option ((Q3)×Unit):=zw_m 0 c p1 p2 p3
theorem yRD(c:Q2)(p1:List UInt8×Int×List Nat×List (Q3)×Unit)(p2:List (Q2))(p3:Int)(y:(Q3)×Unit)(h:zw_M c p1 p2 p3=some y):∃ n,zw_m n c p1 p2 p3=some y:=⟨0,h⟩
def zw_e:Entry:={ f:=163,args:=zw_a,ress:=zw_r,m:=fun x=>zw_M x.1 x.2.1 x.2.2.1 x.2.2.2.1 }
theorem yTi:FnOK Tryz.prog zw_e:=yO (g:=zw_g) (fn:=Tryz.f163) yD yK (yB yIE eNil) (by kernel_rfl) (by kernel_rfl) (by kernel_rfl) (fun x y h=>let ⟨n,hn⟩:=yRD x.1 x.2.1 x.2.2.1 x.2.2.2.1 y h;⟨yOb n,iNil,(yUe n x).trans hn⟩)
abbrev yNt:Ty:=.pair t210 (.pair t3 .unit)
abbrev yS7:Ty:=.pair t4 .unit
def yOx:G:={ T:=T,E:=[z0o_e],muts:=[],fz:=[] }
def yUA:List (List Nat):=[]
def yKu(n:Nat):Ann:={ keep:=yUA,fuel:=n,inl:=[],deep:=0 }
def yJM(n:Nat)(f:Nat)(sign:Int):Option (Bool×Unit) :=
  (bif sign==0 then (Option.bind (absM f) fun v0=>some (yR Go.BinOp.gtr Go.FloatKind.f64 v0.1 (nat_lit 9218868437227405311),()))else (bif decide (sign < 0)then some (yR Go.BinOp.gtr Go.FloatKind.f64 (y1F Go.FloatKind.f64 f) (nat_lit 9218868437227405311),())else some (yR Go.BinOp.gtr Go.FloatKind.f64 f (nat_lit 9218868437227405311),())))
theorem yQM(n:Nat)(x:yNt.den):runF yOx (yKu n) Tryz.f172 yNt yS7 x=yJM n x.1 x.2.1:=by kernel_rfl
def yGU(f:Nat)(sign:Int):Option (Bool×Unit):=yJM 0 f sign
theorem yLX(f:Nat)(sign:Int)(y:Bool×Unit)(h:yGU f sign=some y):∃ n,yJM n f sign=some y:=⟨0,h⟩
def z0S_e:Entry:={ f:=172,args:=yNt,ress:=yS7,m:=fun x=>yGU x.1 x.2.1 }
theorem yRE:FnOK Tryz.prog z0S_e:=yO (g:=yOx) (fn:=Tryz.f172) yD yK (yB yQc eNil) (by kernel_rfl) (by kernel_rfl) (by kernel_rfl) (fun x y h=>let ⟨n,hn⟩:=yLX x.1 x.2.1 y h;⟨yKu n,iNil,(yQM n x).trans hn⟩)
abbrev zk_a:Ty:=.pair t55 (.pair (.ref t60) (.pair (.ref t55) .unit))
abbrev zk_r:Ty:=.pair t57 .unit
def zk_g:G:={ T:=T,E:=[z0b_e],muts:=[],fz:=[] }
def zk_k:List (List Nat):=[]
def yRo(n:Nat):Ann:={ keep:=zk_k,fuel:=n,inl:=[],deep:=0 }
def zk_m(n:Nat)(b:Q2)(p1:List UInt8×Int×List Nat×List (Q3)×Unit)(p2:Q2):Option ((Q3)×Unit) :=
  (Option.bind (yB6 p1 p2 b) fun v0=>some ((v0.1.1,v0.1.2.1,()),()))
theorem yUQ(n:Nat)(x:zk_a.den):runF zk_g (yRo n) Tryz.f193 zk_a zk_r x=zk_m n x.1 x.2.1 x.2.2.1:=by kernel_rfl
def zk_M(b:Q2)(p1:List UInt8×Int×List Nat×List (Q3)×Unit)(p2:Q2):Option ((Q3)×Unit):=zk_m 0 b p1 p2
theorem yTY(b:Q2)(p1:List UInt8×Int×List Nat×List (Q3)×Unit)(p2:Q2)(y:(Q3)×Unit)(h:zk_M b p1 p2=some y):∃ n,zk_m n b p1 p2=some y:=⟨0,h⟩
def zk_e:Entry:={ f:=193,args:=zk_a,ress:=zk_r,m:=fun x=>zk_M x.1 x.2.1 x.2.2.1 }
theorem yVc:FnOK Tryz.prog zk_e:=yO (g:=zk_g) (fn:=Tryz.f193) yD yK (yB yIE eNil) (by kernel_rfl) (by kernel_rfl) (by kernel_rfl) (fun x y h=>let ⟨n,hn⟩:=yTY x.1 x.2.1 x.2.2.1 y h;⟨yRo n,iNil,(yUQ n x).trans hn⟩)
abbrev zT_a:Ty:=.pair t35 .unit
abbrev zT_r:Ty:=.pair t28 .unit
def zT_g:G:={ T:=T,E:=[zW_e],muts:=[],fz:=[] }
def zT_k:List (List Nat):=[[3,6,7,8]]
def yR6(n:Nat):Ann:={ keep:=zT_k,fuel:=n,inl:=[],deep:=0 }
def yG4(n:Nat)(r0:Int→List Nat→Int→Int→Option (Int×Unit))(aa:Int)(al:List Nat)(ai:Int)(ar:Int):Option (Int×Unit) :=
  (bif decide (ar < ai)then (Option.bind (idx al ar) fun v1=>(Option.bind (zW_M v1) fun v2=>(bif v2.1 != 0 then some (v2.1,())else r0 v2.1 al ai (IntKind.i64.wrap (ar+1)))))else some (aa,()))
def y94(n:Nat)(k:Nat)(aa:Int)(al:List Nat)(ai:Int)(ar:Int):Option (Int×Unit) :=
  iter (fun r y=>yG4 n (fun aa al ai ar=>r ((aa,(al,(ai,(ar,())))),((),()))) y.1.1 y.1.2.1 y.1.2.2.1 y.1.2.2.2.1) k ((aa,(al,(ai,(ar,())))),((),()))
def zT_m(n:Nat)(l:List Nat):Option (Int×Unit) :=
  (y94 n n ((0:Int)) (l) ((↑l.length:Int)) ((0:Int)))
theorem yTk(n:Nat)(x:zT_a.den):runF zT_g (yR6 n) Tryz.f202 zT_a zT_r x=zT_m n x.1:=by kernel_rfl
def yM7(al:List Nat)(ar:Int)(v1:Nat)(aa:Int):Option ((Int×Unit)⊕(Int)) :=
  (Option.bind (zW_M v1) fun v2=>(bif v2.1 != 0 then (some (Sum.inl ((v2.1,()))))else (some (Sum.inr (v2.1)))))
def yMF(al:List Nat)(aa:Int):Option (Int×Unit) :=
  (some ((aa,())))
theorem yEe(n:Nat)(hn:big≤n)(al:List Nat)(aa:Int)(hx:List.length (al) < lenMax):LeF some (yP (fun i__ e__ s__=>yM7 al i__ e__ s__) (fun s__=>yMF al s__) 0 (al) aa) (y94 n n aa al (List.length (al):Int) 0):=by
  refine yM (f:=some) (W:=fun k__ i__ s__=>y94 n k__ s__ al (List.length (al):Int) i__) (body:=(fun i__ e__ s__=>yM7 al i__ e__ s__)) (fin:=(fun s__=>yMF al s__)) (fun k__ i__ s__=>?_) hx aa n (by unfold big at hn;unfold lenMax at hx;omega)
  show LeF _ _ (yG4 n (y94 n k__) s__ al (List.length (al):Int) i__)
  exact y5 (y7 fun v1=>(y7 fun v2=>(y5 (y6 rfl) (y6 rfl)))) (yq (y6 rfl))
def zT_M(l:List Nat):Option (Int×Unit) :=
  (bif decide (List.length (l) < lenMax)then yP (fun i__ e__ s__=>yM7 (l) i__ e__ s__) (fun s__=>yMF (l) s__) 0 (l) ((0:Int))else none)
theorem ySu(l:List Nat)(y:Int×Unit)(h:zT_M l=some y):∃ n,zT_m n l=some y :=
  ⟨big,LeF.top (show LeF some (zT_M l) (zT_m big l)from (fun (n:Nat) (hn:big≤n)=>show LeF some (zT_M l) (zT_m n l)from (yL fun hx=>by apply yEe n hn;exact hx)) big (Nat.le_refl _)) h⟩
def zT_e:Entry:={ f:=202,args:=zT_a,ress:=zT_r,m:=fun x=>zT_M x.1 }
theorem yTt:FnOK Tryz.prog zT_e:=yO (g:=zT_g) (fn:=Tryz.f202) yD yK (yB yQ8 eNil) (by kernel_rfl) (by kernel_rfl) (by kernel_rfl) (fun x y h=>let ⟨n,hn⟩:=ySu x.1 y h;⟨yR6 n,iNil,(yTk n x).trans hn⟩)
abbrev zX_a:Ty:=.pair t58 .unit
abbrev zX_r:Ty:=.pair t28 .unit
def zX_g:G:={ T:=T,E:=[zg_e,z0P_e,z0C_e],muts:=[],fz:=[] }
def zX_k:List (List Nat):=[[0,9,10,11]]
def yRS(n:Nat):Ann:={ keep:=zX_k,fuel:=n,inl:=[],deep:=0 }
def yFk(n:Nat)(r0:List (Q3)→List (Q3)→Int→Int→Option (Int×Unit))(am:List (Q3))(ae:List (Q3))(aw:Int)(ah:Int):Option (Int×Unit) :=
  (bif decide (ah < aw)then (Option.bind (idx ae ah) fun v1=>(bif decide (ah > 0)then (Option.bind (idx am (if Bool.true=Bool.true then if IntKind.i64.wrap (ah - (1:Int)) > 0 then IntKind.i64.wrap (ah - (1:Int))else (0:Int)else if IntKind.i64.wrap (ah - (1:Int)) < 0 then IntKind.i64.wrap (ah - (1:Int))else (0:Int))) fun v2=>(Option.bind (y7y [(zg (v1.1,v1.2.1,())).1,(z0P (decide (v1.1≤v2.2.1)) (11:Int)).1]) fun v3=>(bif v3.1 != 0 then some (v3.1,())else r0 am ae aw (IntKind.i64.wrap (ah+1)))))else (Option.bind (y7y [(zg (v1.1,v1.2.1,())).1,(z0P Bool.false (11:Int)).1]) fun v4=>(bif v4.1 != 0 then some (v4.1,())else r0 am ae aw (IntKind.i64.wrap (ah+1))))))else some ((0:Int),()))
def y9g(n:Nat)(k:Nat)(am:List (Q3))(ae:List (Q3))(aw:Int)(ah:Int):Option (Int×Unit) :=
  iter (fun r y=>yFk n (fun am ae aw ah=>r ((am,(ae,(aw,(ah,())))),((),()))) y.1.1 y.1.2.1 y.1.2.2.1 y.1.2.2.2.1) k ((am,(ae,(aw,(ah,())))),((),()))
def zX_m(n:Nat)(l:List (Q3)):Option (Int×Unit) :=
  (bif decide ((↑l.length:Int) > 2048)then some ((5:Int),())else (y9g n n (l) (l) ((↑l.length:Int)) ((0:Int))))
theorem yVD(n:Nat)(x:zX_a.den):runF zX_g (yRS n) Tryz.f203 zX_a zX_r x=zX_m n x.1:=by kernel_rfl
def yMW(am:List (Q3))(ae:List (Q3))(ah:Int)(v1:Q3):Option ((Int×Unit)⊕Unit) :=
  (bif decide (ah > 0)then (Option.bind (idx am (if Bool.true=Bool.true then if IntKind.i64.wrap (ah - (1:Int)) > 0 then IntKind.i64.wrap (ah - (1:Int))else (0:Int)else if IntKind.i64.wrap (ah - (1:Int)) < 0 then IntKind.i64.wrap (ah - (1:Int))else (0:Int))) fun v2=>(Option.bind (y7y [(zg (v1.1,v1.2.1,())).1,(z0P (decide (v1.1≤v2.2.1)) (11:Int)).1]) fun v3=>(bif v3.1 != 0 then (some (Sum.inl ((v3.1,()))))else (some (Sum.inr ())))))else (Option.bind (y7y [(zg (v1.1,v1.2.1,())).1,(z0P Bool.false (11:Int)).1]) fun v4=>(bif v4.1 != 0 then (some (Sum.inl ((v4.1,()))))else (some (Sum.inr ())))))
def yOB(am:List (Q3))(ae:List (Q3)):Option (Int×Unit) :=
  (some (((0:Int),())))
theorem yEN(n:Nat)(hn:big≤n)(am:List (Q3))(ae:List (Q3))(hx:List.length (ae) < lenMax):LeF some (yP (fun i__ e__ s__=>yMW am ae i__ e__) (fun s__=>yOB am ae) 0 (ae) ()) (y9g n n am ae (List.length (ae):Int) 0):=by
  refine yM (f:=some) (W:=fun k__ i__ s__=>y9g n k__ am ae (List.length (ae):Int) i__) (body:=(fun i__ e__ s__=>yMW am ae i__ e__)) (fin:=(fun s__=>yOB am ae)) (fun k__ i__ s__=>?_) hx () n (by unfold big at hn;unfold lenMax at hx;omega)
  show LeF _ _ (yFk n (y9g n k__) am ae (List.length (ae):Int) i__)
  exact y5 (y7 fun v1=>(y5 (y7 fun v2=>(y7 fun v3=>(y5 (y6 rfl) (y6 rfl)))) (y7 fun v4=>(y5 (y6 rfl) (y6 rfl))))) (yq (y6 rfl))
def zX_M(l:List (Q3)):Option (Int×Unit) :=
  (bif decide ((↑l.length:Int) > 2048)then (some (((5:Int),())))else (bif decide (List.length (l) < lenMax)then yP (fun i__ e__ s__=>yMW (l) (l) i__ e__) (fun s__=>yOB (l) (l)) 0 (l) ()else none))
theorem yPA(l:List (Q3))(y:Int×Unit)(h:zX_M l=some y):∃ n,zX_m n l=some y :=
  ⟨big,LeF.top (show LeF some (zX_M l) (zX_m big l)from (fun (n:Nat) (hn:big≤n)=>show LeF some (zX_M l) (zX_m n l)from (y5 (y6 rfl) (yL fun hx=>by apply yEN n hn;exact hx))) big (Nat.le_refl _)) h⟩
def zX_e:Entry:={ f:=203,args:=zX_a,ress:=zX_r,m:=fun x=>zX_M x.1 }
theorem yU6:FnOK Tryz.prog zX_e:=yO (g:=zX_g) (fn:=Tryz.f203) yD yK (yB yUI (yB yAw (yB yKt eNil))) (by kernel_rfl) (by kernel_rfl) (by kernel_rfl) (fun x y h=>let ⟨n,hn⟩:=yPA x.1 y h;⟨yRS n,iNil,(yVD n x).trans hn⟩)
abbrev zP_a:Ty:=.pair t63 (.pair (.ref t60) .unit)
abbrev zP_r:Ty:=.pair t4 .unit
def zP_g:G:={ T:=T,E:=[zC_e,zN_e],muts:=[],fz:=[] }
def zP_k:List (List Nat):=[]
def yQY(n:Nat):Ann:={ keep:=zP_k,fuel:=n,inl:=[],deep:=0 }
def zP_m(n:Nat)(s:Q3)(p1:List UInt8×Int×List Nat×List (Q3)×Unit):Option (Bool×Unit) :=
  (bif decide ((0:Int)≤s.1) && decide (s.1≤s.2.1) && decide (s.2.1≤(↑p1.2.2.1.length:Int))then (Option.bind (zC_M (List.drop s.1.toNat (List.take s.2.1.toNat p1.2.2.1)) fun (x:Nat×Unit)=>zN_M x.1) fun v0=>some (v0.1,()))else none)
theorem yU7(n:Nat)(x:zP_a.den):runF zP_g (yQY n) Tryz.f206 zP_a zP_r x=zP_m n x.1 x.2.1:=by kernel_rfl
def zP_M(s:Q3)(p1:List UInt8×Int×List Nat×List (Q3)×Unit):Option (Bool×Unit):=zP_m 0 s p1
theorem ySn(s:Q3)(p1:List UInt8×Int×List Nat×List (Q3)×Unit)(y:Bool×Unit)(h:zP_M s p1=some y):∃ n,zP_m n s p1=some y:=⟨0,h⟩
def zP_e:Entry:={ f:=206,args:=zP_a,ress:=zP_r,m:=fun x=>zP_M x.1 x.2.1 }
theorem yUO:FnOK Tryz.prog zP_e:=yO (g:=zP_g) (fn:=Tryz.f206) yD yK (yB yTx (yB yVS eNil)) (by kernel_rfl) (by kernel_rfl) (by kernel_rfl) (fun x y h=>let ⟨n,hn⟩:=ySn x.1 x.2.1 y h;⟨yQY n,iNil,(yU7 n x).trans hn⟩)
end
end Go.Tw
end
section
set_option maxRecDepth 1000000
namespace Go.Tw
open Go.Vx Go.Vx.B Go.Proofs
noncomputable section
abbrev yNS:Ty:=.pair t35 .unit
abbrev yTP:Ty:=.pair t41 (.pair t28 .unit)
def yQC:G:={ T:=T,E:=[z0N_e],muts:=[],fz:=[] }
def yVJ:List (List Nat):=[]
def yL6(n:Nat):Ann:={ keep:=yVJ,fuel:=n,inl:=[],deep:=0 }
def yJV(n:Nat)(l:List Nat):Option (List Int×Int×Unit) :=
  (Option.bind (yAH l (nat_lit 1065353216)) fun v0=>some (v0.1,v0.2.1,()))
theorem yRO(n:Nat)(x:yNS.den):runF yQC (yL6 n) Tryz.f71 yNS yTP x=yJV n x.1:=by kernel_rfl
def yK1(l:List Nat):Option (List Int×Int×Unit):=yJV 0 l
theorem yMx(l:List Nat)(y:List Int×Int×Unit)(h:yK1 l=some y):∃ n,yJV n l=some y:=⟨0,h⟩
def z0V_e:Entry:={ f:=71,args:=yNS,ress:=yTP,m:=fun x=>yK1 x.1 }
theorem yHd:FnOK Tryz.prog z0V_e:=yO (g:=yQC) (fn:=Tryz.f71) yD yK (yB yL2 eNil) (by kernel_rfl) (by kernel_rfl) (by kernel_rfl) (fun x y h=>let ⟨n,hn⟩:=yMx x.1 y h;⟨yL6 n,iNil,(yRO n x).trans hn⟩)
abbrev yNV:Ty:=.pair t35 .unit
abbrev yPj:Ty:=.pair t41 (.pair t28 .unit)
def yQU:G:={ T:=T,E:=[z0N_e],muts:=[],fz:=[] }
def yUx:List (List Nat):=[]
def yKU(n:Nat):Ann:={ keep:=yUx,fuel:=n,inl:=[],deep:=0 }
def yKD(n:Nat)(l:List Nat):Option (List Int×Int×Unit) :=
  (Option.bind (yAH l (nat_lit 3212836864)) fun v0=>some (v0.1,v0.2.1,()))
theorem yQj(n:Nat)(x:yNV.den):runF yQU (yKU n) Tryz.f72 yNV yPj x=yKD n x.1:=by kernel_rfl
def yJt(l:List Nat):Option (List Int×Int×Unit):=yKD 0 l
theorem yLl(l:List Nat)(y:List Int×Int×Unit)(h:yJt l=some y):∃ n,yKD n l=some y:=⟨0,h⟩
def z0j_e:Entry:={ f:=72,args:=yNV,ress:=yPj,m:=fun x=>yJt x.1 }
theorem yFl:FnOK Tryz.prog z0j_e:=yO (g:=yQU) (fn:=Tryz.f72) yD yK (yB yL2 eNil) (by kernel_rfl) (by kernel_rfl) (by kernel_rfl) (fun x y h=>let ⟨n,hn⟩:=yLl x.1 y h;⟨yKU n,iNil,(yQj n x).trans hn⟩)
abbrev zK_a:Ty:=.pair t31 .unit
abbrev zK_r:Ty:=.pair t28 .unit
def zK_g:G:={ T:=T,E:=[z0n_e,z0a_e,zL_e],muts:=[21],fz:=[] }
def zK_k:List (List Nat):=[[4,22,23,24]]
def yPb(n:Nat):Ann:={ keep:=zK_k,fuel:=n,inl:=[],deep:=0 }
def yI7(n:Nat)(r1:List (Q2)→Int→Int→List (List UInt8×Bool)→Option (Int×Unit))(ac:List (Q2))(ax:Int)(av:Int)(au:List (List UInt8×Bool)):Option (Int×Unit) :=
  (bif decide (av < ax)then (Option.bind (idx ac av) fun v2=>(Option.bind (zL_M (v2.1,v2.2.1,v2.2.2.1,())) fun v3=>(Option.bind (y1m [v3.1,(z0n ((y06 Ty.str Ty.bool au v2.1).getD Bool.false) (9:Int)).1]) fun v4=>(bif v4.1 != 0 then some (v4.1,())else r1 ac ax (IntKind.i64.wrap (av+1)) (y0P Ty.str Ty.bool au v2.1 Bool.true)))))else some ((0:Int),()))
def y9D(n:Nat)(k:Nat)(ac:List (Q2))(ax:Int)(av:Int)(au:List (List UInt8×Bool)):Option (Int×Unit) :=
  iter (fun r y=>yI7 n (fun ac ax av au=>r ((ac,(ax,(av,()))),((au,()),()))) y.1.1 y.1.2.1 y.1.2.2.1 y.2.1.1) k ((ac,(ax,(av,()))),((au,()),()))
def zK_m(n:Nat)(l:List (Q2)):Option (Int×Unit) :=
  (Option.bind (y1m [(z0n ((↑l.length:Int)==0) (12:Int)).1,(z0n (decide ((↑l.length:Int) > 4)) (5:Int)).1]) fun v0=>(bif v0.1 != 0 then some (v0.1,())else (y9D n n (l) ((↑l.length:Int)) ((0:Int)) ([]))))
theorem yUM(n:Nat)(x:zK_a.den):runF zK_g (yPb n) Tryz.f88 zK_a zK_r x=zK_m n x.1:=by kernel_rfl
def yNW(ac:List (Q2))(av:Int)(v2:Q2)(au:List (List UInt8×Bool)):Option ((Int×Unit)⊕(List (List UInt8×Bool))) :=
  (Option.bind (zL_M (v2.1,v2.2.1,v2.2.2.1,())) fun v3=>(Option.bind (y1m [v3.1,(z0n ((y06 Ty.str Ty.bool au v2.1).getD Bool.false) (9:Int)).1]) fun v4=>(bif v4.1 != 0 then (some (Sum.inl ((v4.1,()))))else (some (Sum.inr (y0P Ty.str Ty.bool au v2.1 Bool.true))))))
def yLQ(ac:List (Q2))(au:List (List UInt8×Bool)):Option (Int×Unit) :=
  (some (((0:Int),())))
theorem yF4(n:Nat)(hn:big≤n)(ac:List (Q2))(au:List (List UInt8×Bool))(hx:List.length (ac) < lenMax):LeF some (yP (fun i__ e__ s__=>yNW ac i__ e__ s__) (fun s__=>yLQ ac s__) 0 (ac) au) (y9D n n ac (List.length (ac):Int) 0 au):=by
  refine yM (f:=some) (W:=fun k__ i__ s__=>y9D n k__ ac (List.length (ac):Int) i__ s__) (body:=(fun i__ e__ s__=>yNW ac i__ e__ s__)) (fin:=(fun s__=>yLQ ac s__)) (fun k__ i__ s__=>?_) hx au n (by unfold big at hn;unfold lenMax at hx;omega)
  show LeF _ _ (yI7 n (y9D n k__) ac (List.length (ac):Int) i__ s__)
  exact y5 (y7 fun v2=>(y7 fun v3=>(y7 fun v4=>(y5 (y6 rfl) (y6 rfl))))) (yq (y6 rfl))
def zK_M(l:List (Q2)):Option (Int×Unit) :=
  (Option.bind (y1m [(z0n ((↑l.length:Int)==0) (12:Int)).1,(z0n (decide ((↑l.length:Int) > 4)) (5:Int)).1]) fun v0=>(bif v0.1 != 0 then (some ((v0.1,())))else (bif decide (List.length (l) < lenMax)then yP (fun i__ e__ s__=>yNW (l) i__ e__ s__) (fun s__=>yLQ (l) s__) 0 (l) ([])else none)))
theorem yOq(l:List (Q2))(y:Int×Unit)(h:zK_M l=some y):∃ n,zK_m n l=some y :=
  ⟨big,LeF.top (show LeF some (zK_M l) (zK_m big l)from (fun (n:Nat) (hn:big≤n)=>show LeF some (zK_M l) (zK_m n l)from (y7 fun v0=>(y5 (y6 rfl) (yL fun hx=>by apply yF4 n hn;exact hx)))) big (Nat.le_refl _)) h⟩
def zK_e:Entry:={ f:=88,args:=zK_a,ress:=zK_r,m:=fun x=>zK_M x.1 }
theorem yPT:FnOK Tryz.prog zK_e:=yO (g:=zK_g) (fn:=Tryz.f88) yD yK (yB y5q (yB y49 (yB yVr eNil))) (by kernel_rfl) (by kernel_rfl) (by kernel_rfl) (fun x y h=>let ⟨n,hn⟩:=yOq x.1 y h;⟨yPb n,iNil,(yUM n x).trans hn⟩)
abbrev za_a:Ty:=.pair t61 .unit
abbrev za_r:Ty:=.pair t3 .unit
def za_g:G:={ T:=T,E:=[z0T_e,z0S_e,z0R_e],muts:=[],fz:=[] }
def za_k:List (List Nat):=[]
def ySs(n:Nat):Ann:={ keep:=za_k,fuel:=n,inl:=[],deep:=0 }
def za_m(n:Nat)(xp:Nat):Option (Int×Unit) :=
  (Option.bind (y1Y Go.FloatKind.f32 xp Go.FloatKind.f64) fun v0=>(bif (z0T v0).1 then some ((1:Int),())else (Option.bind (yGU v0 (0:Int)) fun v1=>(bif v1.1 then some ((1:Int),())else (bif yR Go.BinOp.gtr Go.FloatKind.f64 v0 (nat_lit 4634204016564240384)then some ((3:Int),())else (bif yR Go.BinOp.lss Go.FloatKind.f64 v0 (nat_lit 13857576053419016192)then some ((3:Int),())else (Option.bind (y6f (yh Go.BinOp.mul Go.FloatKind.f64 (nat_lit 4625196817309499392) v0)) fun v4=>(bif yR Go.BinOp.neq Go.FloatKind.f64 (yh Go.BinOp.mul Go.FloatKind.f64 (nat_lit 4625196817309499392) v0) v4.1 then some ((3:Int),())else some ((0:Int),())))))))))
theorem yV8(n:Nat)(x:za_a.den):runF za_g (ySs n) Tryz.f96 za_a za_r x=za_m n x.1:=by kernel_rfl
def za_M(xp:Nat):Option (Int×Unit):=za_m 0 xp
theorem yOp(xp:Nat)(y:Int×Unit)(h:za_M xp=some y):∃ n,za_m n xp=some y:=⟨0,h⟩
def za_e:Entry:={ f:=96,args:=za_a,ress:=za_r,m:=fun x=>za_M x.1 }
theorem yVC:FnOK Tryz.prog za_e:=yO (g:=za_g) (fn:=Tryz.f96) yD yK (yB yPP (yB yRE (yB yQl eNil))) (by kernel_rfl) (by kernel_rfl) (by kernel_rfl) (fun x y h=>let ⟨n,hn⟩:=yOp x.1 y h;⟨ySs n,iNil,(yV8 n x).trans hn⟩)
abbrev yOP:Ty:=.pair t31 (.pair t23 (.pair t3 .unit))
abbrev yRN:Ty:=.pair t33 .unit
def yQX:G:={ T:=T,E:=[z0K_e,z7_e,zu_e,zv_e,zG_e],muts:=[],fz:=[7] }
def yUs:List (List Nat):=[]
def yLM(n:Nat):Ann:={ keep:=yUs,fuel:=n,inl:=[],deep:=0 }
def yLi(n:Nat)(l:List (Q2))(amplitudes:List (Q3))(den:Int):Option ((Q1)×Unit) :=
  (Option.bind (yF2 amplitudes den) fun v0=>(Option.bind (z7_M l fun (x:(Q2)×Unit)=>zu_M x.1) fun v1=>(Option.bind (zG_M amplitudes fun (x:(Q3)×Unit)=>zv_M x.1 v0.1) fun v2=>(bif v0.1==0 then none else some ((v1.1,v2.1,IntKind.i64.wrap (den.tdiv v0.1),()),())))))
theorem yRB(n:Nat)(x:yOP.den):runF yQX (yLM n) Tryz.f121 yOP yRN x=yLi n x.1 x.2.1 x.2.2.1:=by kernel_rfl
def yNo(l:List (Q2))(amplitudes:List (Q3))(den:Int):Option ((Q1)×Unit):=yLi 0 l amplitudes den
theorem yLa(l:List (Q2))(amplitudes:List (Q3))(den:Int)(y:(Q1)×Unit)(h:yNo l amplitudes den=some y):∃ n,yLi n l amplitudes den=some y:=⟨0,h⟩
def z0A_e:Entry:={ f:=121,args:=yOP,ress:=yRN,m:=fun x=>yNo x.1 x.2.1 x.2.2.1 }
theorem ySb:FnOK Tryz.prog z0A_e:=yO (g:=yQX) (fn:=Tryz.f121) yD yK (yB yKO (yB yUj (yB yV9 (yB yVM (yB yTp eNil))))) (by kernel_rfl) (by kernel_rfl) (by kernel_rfl) (fun x y h=>let ⟨n,hn⟩:=yLa x.1 x.2.1 x.2.2.1 y h;⟨yLM n,iNil,(yRB n x).trans hn⟩)
abbrev yM9:Ty:=.pair t3 .unit
abbrev yPu:Ty:=.pair t69 .unit
def yTB:G:={ T:=T,E:=[zy_e,z0d_e],muts:=[],fz:=[] }
def yVq:List (List Nat):=[]
def yKE(n:Nat):Ann:={ keep:=yVq,fuel:=n,inl:=[],deep:=0 }
def yOO(n:Nat)(year:Int):Option ((Q3)×Unit) :=
  (Option.bind (yBZ (IntKind.i64.wrap ((104:Int) - (zy (IntKind.i64.wrap (year.tmod (16:Int) - (8:Int)))).1)) (100:Int)) fun v0=>some ((v0.1.1,v0.1.2.1,()),()))
theorem yTF(n:Nat)(x:yM9.den):runF yTB (yKE n) Tryz.f136 yM9 yPu x=yOO n x.1:=by kernel_rfl
def yMs(year:Int):Option ((Q3)×Unit):=yOO 0 year
theorem yLP(year:Int)(y:(Q3)×Unit)(h:yMs year=some y):∃ n,yOO n year=some y:=⟨0,h⟩
def z0c_e:Entry:={ f:=136,args:=yM9,ress:=yPu,m:=fun x=>yMs x.1 }
theorem yQ9:FnOK Tryz.prog z0c_e:=yO (g:=yTB) (fn:=Tryz.f136) yD yK (yB yH4 (yB yFp eNil)) (by kernel_rfl) (by kernel_rfl) (by kernel_rfl) (fun x y h=>let ⟨n,hn⟩:=yLP x.1 y h;⟨yKE n,iNil,(yTF n x).trans hn⟩)
abbrev zS_a:Ty:=.pair t60 .unit
abbrev zS_r:Ty:=.pair t28 .unit
def zS_g:G:={ T:=T,E:=[z00_e,z0P_e,z01_e,z0C_e,zT_e,zX_e,zO_e,zB_e,zP_e],muts:=[],fz:=[] }
def zS_k:List (List Nat):=[]
def yQK(n:Nat):Ann:={ keep:=zS_k,fuel:=n,inl:=[],deep:=0 }
def zS_m(n:Nat)(rp:List UInt8×Int×List Nat×List (Q3)×Unit):Option (Int×Unit) :=
  (Option.bind (yF7 rp.1) fun v0=>(Option.bind (y7y [(z0P (!v0.1) (8:Int)).1,(z01 rp.2.1 (0:Int) (100000:Int)).1,(z0P (decide ((↑rp.2.2.1.length:Int) > 4096)) (5:Int)).1]) fun v1=>(bif v1.1 != 0 then some (v1.1,())else (Option.bind (zT_M rp.2.2.1) fun v2=>(Option.bind (zX_M rp.2.2.2.1) fun v3=>(Option.bind (y7y [v2.1,v3.1]) fun v4=>(bif v4.1 != 0 then some (v4.1,())else (Option.bind (zB_M rp.2.2.2.1 fun (x:(Q3)×Unit)=>zO_M x.1 rp) fun v5=>(bif v5.1 then some ((14:Int),())else (Option.bind (zB_M rp.2.2.2.1 fun (x:(Q3)×Unit)=>zP_M x.1 rp) fun v6=>some ((z0P v6.1 (1:Int)).1,())))))))))))
theorem yVg(n:Nat)(x:zS_a.den):runF zS_g (yQK n) Tryz.f157 zS_a zS_r x=zS_m n x.1:=by kernel_rfl
def zS_M(rp:List UInt8×Int×List Nat×List (Q3)×Unit):Option (Int×Unit):=zS_m 0 rp
theorem yRm(rp:List UInt8×Int×List Nat×List (Q3)×Unit)(y:Int×Unit)(h:zS_M rp=some y):∃ n,zS_m n rp=some y:=⟨0,h⟩
def zS_e:Entry:={ f:=157,args:=zS_a,ress:=zS_r,m:=fun x=>zS_M x.1 }
theorem yTy:FnOK Tryz.prog zS_e:=yO (g:=zS_g) (fn:=Tryz.f157) yD yK (yB yLF (yB yAw (yB yPx (yB yKt (yB yTt (yB yU6 (yB yUr (yB yVa (yB yUO eNil))))))))) (by kernel_rfl) (by kernel_rfl) (by kernel_rfl) (fun x y h=>let ⟨n,hn⟩:=yRm x.1 y h;⟨yQK n,iNil,(yVg n x).trans hn⟩)
abbrev zz_a:Ty:=.pair t55 (.pair (.ref t31) (.pair (.ref t60) .unit))
abbrev zz_r:Ty:=.pair t23 .unit
def zz_g:G:={ T:=T,E:=[zk_e,zA_e],muts:=[],fz:=[] }
def zz_k:List (List Nat):=[]
def yQV(n:Nat):Ann:={ keep:=zz_k,fuel:=n,inl:=[],deep:=0 }
def zz_m(n:Nat)(a:Q2)(p1:List (Q2))(p2:List UInt8×Int×List Nat×List (Q3)×Unit):Option (List (Q3)×Unit) :=
  (Option.bind (zA_M p1 fun (x:(Q2)×Unit)=>zk_M x.1 p2 a) fun v0=>some (v0.1,()))
theorem yVE(n:Nat)(x:zz_a.den):runF zz_g (yQV n) Tryz.f192 zz_a zz_r x=zz_m n x.1 x.2.1 x.2.2.1:=by kernel_rfl
def zz_M(a:Q2)(p1:List (Q2))(p2:List UInt8×Int×List Nat×List (Q3)×Unit):Option (List (Q3)×Unit):=zz_m 0 a p1 p2
theorem yQT(a:Q2)(p1:List (Q2))(p2:List UInt8×Int×List Nat×List (Q3)×Unit)(y:List (Q3)×Unit)(h:zz_M a p1 p2=some y):∃ n,zz_m n a p1 p2=some y:=⟨0,h⟩
def zz_e:Entry:={ f:=192,args:=zz_a,ress:=zz_r,m:=fun x=>zz_M x.1 x.2.1 x.2.2.1 }
theorem yVV:FnOK Tryz.prog zz_e:=yO (g:=zz_g) (fn:=Tryz.f192) yD yK (yB yVc (yB yMh eNil)) (by kernel_rfl) (by kernel_rfl) (by kernel_rfl) (fun x y h=>let ⟨n,hn⟩:=yQT x.1 x.2.1 x.2.2.1 y h;⟨yQV n,iNil,(yVE n x).trans hn⟩)
end
end Go.Tw
end
