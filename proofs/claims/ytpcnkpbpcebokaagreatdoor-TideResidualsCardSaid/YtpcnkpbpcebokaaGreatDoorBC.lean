import Derived.Test.YtpcnkpbpcebokaaGreatDoorBT
import Derived.Test.YtpcnkpbpcebokaaGreatDoorB0
import Derived.Test.YtpcnkpbpcebokaaGreatDoorBS
import Derived.Test.YtpcnkpbpcebokaaGreatDoorLQ
import Derived.Test.YtpcnkpbpcebokaaGreatDoorBA
import Derived.Test.YtpcnkpbpcebokaaGreatDoorLR
set_option linter.all false
section
set_option maxRecDepth 1000000
namespace Go.Tw
open Go.Vx Go.Vx.B Go.Proofs
noncomputable section
abbrev zJ_a:Ty:=.pair t22 .unit
abbrev zJ_r:Ty:=.pair t3 .unit
def zJ_g:G:={ T:=T,E:=[zm_e,zd_e,z0a_e],muts:=[],fz:=[] }
def zJ_k:List (List Nat):=[[0,3],[0,3,5]]
def yWD(n:Nat):Ann:={ keep:=zJ_k,fuel:=n,inl:=[],deep:=0 }
def yHn(n:Nat)(r0:List (Q3)→Int→Option (Int×Unit))(r6:List (Q3)→Int→Int→Option (Int×Unit))(aA:List (Q3))(ax:Int)(aQ:Int):Option (Int×Unit) :=
  (bif decide (aQ < ax)then (Option.bind (idx aA aQ) fun v7=>(Option.bind (idx aA ax) fun v8=>(bif v7.1==v8.1 then some ((9:Int),())else r6 aA ax (IntKind.i64.wrap (aQ+1)))))else r0 aA (IntKind.i64.wrap (ax+1)))
def yA2(n:Nat)(r0:List (Q3)→Int→Option (Int×Unit))(k:Nat)(aA:List (Q3))(ax:Int)(aQ:Int):Option (Int×Unit) :=
  iter (fun r y=>yHn n r0 (fun aA ax aQ=>r ((aA,(ax,(aQ,()))),((),()))) y.1.1 y.1.2.1 y.1.2.2.1) k ((aA,(ax,(aQ,()))),((),()))
def yJ5(n:Nat)(r0:List (Q3)→Int→Option (Int×Unit))(aa:List (Q3))(aH:Int):Option (Int×Unit) :=
  (bif decide (aH < (↑aa.length:Int))then (Option.bind (idx aa aH) fun v1=>(Option.bind (zm_M v1.1) fun v2=>(Option.bind (idx aa aH) fun v3=>(Option.bind (idx aa aH) fun v4=>(Option.bind (y7A [v2.1,(zd v3.2.1 (1:Int) (96:Int)).1,(zd v4.2.2.1 (0:Int) (3:Int)).1]) fun v5=>(bif v5.1 != 0 then some (v5.1,())else (yA2 n r0 n (aa) (aH) ((0:Int)))))))))else some ((0:Int),()))
def yAf(n:Nat)(k:Nat)(aa:List (Q3))(aH:Int):Option (Int×Unit) :=
  iter (fun r y=>yJ5 n (fun aa aH=>r ((aa,(aH,())),((),()))) y.1.1 y.1.2.1) k ((aa,(aH,())),((),()))
def zJ_m(n:Nat)(l:List (Q3)):Option (Int×Unit) :=
  (bif (↑l.length:Int)==0 then some ((12:Int),())else (bif decide ((↑l.length:Int) > 4)then some ((5:Int),())else (yAf n n (l) ((0:Int)))))
theorem ycN(n:Nat)(x:zJ_a.den):runF zJ_g (yWD n) Tryz.f32 zJ_a zJ_r x=zJ_m n x.1:=by kernel_rfl
def yFV(aA:List (Q3))(ax:Int)(aQ:Int):Option (((Int×Unit)⊕Unit)⊕Unit) :=
  (Option.bind (idx aA aQ) fun v7=>(Option.bind (idx aA ax) fun v8=>(bif v7.1==v8.1 then (some (Sum.inl (Sum.inl (((9:Int),())))))else (some (Sum.inr ())))))
def yJw(aA:List (Q3))(ax:Int):Option ((Int×Unit)⊕Unit) :=
  (some (Sum.inr ()))
theorem yGH(n:Nat)(hn:big≤n)(r0:List (Q3)→Int→Option (Int×Unit))(aA:List (Q3))(ax:Int)(hx:(ax)≤9223372036854775807):LeF (elim some fun (a8:Unit)=>r0 aA (IntKind.i64.wrap (ax+1))) (y1k (fun ae a8=>yFV aA ax ae) (fun a8=>yJw aA ax) ((ax) - 0).toNat 0 ()) (yA2 n r0 n aA ax 0):=by
  refine y3I (f:=(elim some fun (a8:Unit)=>r0 aA (IntKind.i64.wrap (ax+1)))) (W:=fun aD ae a8=>yA2 n r0 aD aA ax ae) (body:=(fun ae a8=>yFV aA ax ae)) (fin:=(fun a8=>yJw aA ax)) (fun aD ae a8=>?_) hx () n 0 (by decide) (by unfold big at hn;omega)
  show LeF _ _ (yHn n r0 (yA2 n r0 aD) aA ax ae)
  exact yA (yE fun v7=>(yE fun v8=>(yA (y6 rfl) (y6 rfl)))) (y0C (y6 rfl))
def yGE(aa:List (Q3))(aH:Int)(v1:Q3):Option ((Int×Unit)⊕Unit) :=
  (Option.bind (zm_M v1.1) fun v2=>(Option.bind (idx aa aH) fun v3=>(Option.bind (idx aa aH) fun v4=>(Option.bind (y7A [v2.1,(zd v3.2.1 (1:Int) (96:Int)).1,(zd v4.2.2.1 (0:Int) (3:Int)).1]) fun v5=>(bif v5.1 != 0 then (some (Sum.inl ((v5.1,()))))else (bif decide ((aH)≤9223372036854775807)then y1k (fun ae a8=>yFV (aa) (aH) ae) (fun a8=>yJw (aa) (aH)) ((aH) - 0).toNat 0 ()else none))))))
def yKi(aa:List (Q3)):Option (Int×Unit) :=
  (some (((0:Int),())))
theorem yGv(n:Nat)(hn:big≤n)(aa:List (Q3))(hx:List.length (aa) < lenMax):LeF some (yR (fun ae aF a8=>yGE aa ae aF) (fun a8=>yKi aa) 0 (aa) ()) (yAf n n aa 0):=by
  refine yU (f:=some) (W:=fun aD ae a8=>yAf n aD aa ae) (body:=(fun ae aF a8=>yGE aa ae aF)) (fin:=(fun a8=>yKi aa)) (fun aD ae a8=>?_) hx () n (by unfold big at hn;unfold lenMax at hx;omega)
  show LeF _ _ (yJ5 n (yAf n aD) aa ae)
  exact yA (yE fun v1=>(yE fun v2=>(yE fun v3=>(yE fun v4=>(yE fun v5=>(yA (y6 rfl) (yV fun hx=>by apply yGH n hn;exact hx))))))) (y0C (y6 rfl))
def zJ_M(l:List (Q3)):Option (Int×Unit) :=
  (bif (↑l.length:Int)==0 then (some (((12:Int),())))else (bif decide ((↑l.length:Int) > 4)then (some (((5:Int),())))else (bif decide (List.length (l) < lenMax)then yR (fun ae aF a8=>yGE (l) ae aF) (fun a8=>yKi (l)) 0 (l) ()else none)))
theorem yVd(l:List (Q3))(y:Int×Unit)(h:zJ_M l=some y):∃ n,zJ_m n l=some y :=
  ⟨big,LeF.top (show LeF some (zJ_M l) (zJ_m big l)from (fun (n:Nat) (hn:big≤n)=>show LeF some (zJ_M l) (zJ_m n l)from (yA (y6 rfl) (yA (y6 rfl) (yV fun hx=>by apply yGv n hn;exact hx)))) big (Nat.le_refl _)) h⟩
def zJ_e:Entry:={ f:=32,args:=zJ_a,ress:=zJ_r,m:=fun x=>zJ_M x.1 }
theorem ybM:FnOK Tryz.prog zJ_e:=yJ (g:=zJ_g) (fn:=Tryz.f32) yB yI (y8 yYo (y8 yMN (y8 yE5 eNil))) (by kernel_rfl) (by kernel_rfl) (by kernel_rfl) (fun x y h=>let ⟨n,hn⟩:=yVd x.1 y h;⟨yWD n,iNil,(ycN n x).trans hn⟩)
abbrev ySd:Ty:=.pair t94 .unit
abbrev yV9:Ty:=.pair t41 .unit
def yWT:G:={ T:=T,E:=[zx_e],muts:=[3],fz:=[] }
def yaV:List (List Nat):=[[1,3,4]]
def yMt(n:Nat):Ann:={ keep:=yaV,fuel:=n,inl:=[],deep:=0 }
def yFE(n:Nat)(r0:Q1→Int→List Int→Option (List Int×Unit))(ay:Q1)(aM:Int)(aE:List Int):Option (List Int×Unit) :=
  (bif decide (aM < (↑ay.2.2.1.length:Int))then (Option.bind (zx_M ay aM) fun v1=>(bif v1.1 then (bif decide (aE.length+(1:Nat)≤memMax)then r0 ay (IntKind.i64.wrap (aM+1)) (aE++[IntKind.i64.wrap (ay.2.1+aM)])else none)else r0 ay (IntKind.i64.wrap (aM+1)) aE))else some (aE,()))
def y6W(n:Nat)(k:Nat)(ay:Q1)(aM:Int)(aE:List Int):Option (List Int×Unit) :=
  iter (fun r y=>yFE n (fun ay aM aE=>r ((ay,(aM,())),((aE,()),()))) y.1.1 y.1.2.1 y.2.1.1) k ((ay,(aM,())),((aE,()),()))
def yKX(n:Nat)(rp:Q1):Option (List Int×Unit) :=
  (y6W n n (rp) ((0:Int)) ([]))
theorem yUv(n:Nat)(x:ySd.den):runF yWT (yMt n) Tryz.f77 ySd yV9 x=yKX n x.1:=by kernel_rfl
def yBH(ay:Q1)(aM:Int)(aE:List Int):Option ((List Int×Unit)⊕(List Int)) :=
  (Option.bind (zx_M ay aM) fun v1=>(bif v1.1 then (bif decide (aE.length+(1:Nat)≤memMax)then (some (Sum.inr (aE++[IntKind.i64.wrap (ay.2.1+aM)])))else none)else (some (Sum.inr (aE)))))
def y93(ay:Q1)(aE:List Int):Option (List Int×Unit) :=
  (some ((aE,())))
theorem yCd(n:Nat)(hn:big≤n)(ay:Q1)(aE:List Int)(hx:((↑ay.2.2.1.length:Int))≤9223372036854775807):LeF some (y1k (fun ae a8=>yBH ay ae a8) (fun a8=>y93 ay a8) (((↑ay.2.2.1.length:Int)) - 0).toNat 0 aE) (y6W n n ay 0 aE):=by
  refine y3I (f:=some) (W:=fun aD ae a8=>y6W n aD ay ae a8) (body:=(fun ae a8=>yBH ay ae a8)) (fin:=(fun a8=>y93 ay a8)) (fun aD ae a8=>?_) hx aE n 0 (by decide) (by unfold big at hn;omega)
  show LeF _ _ (yFE n (y6W n aD) ay ae a8)
  exact yA (yE fun v1=>(yA (yA (y6 rfl) y19) (y6 rfl))) (y0C (y6 rfl))
def y9t(rp:Q1):Option (List Int×Unit) :=
  (bif decide (((↑rp.2.2.1.length:Int))≤9223372036854775807)then y1k (fun ae a8=>yBH (rp) ae a8) (fun a8=>y93 (rp) a8) (((↑rp.2.2.1.length:Int)) - 0).toNat 0 ([])else none)
theorem yQG(rp:Q1)(y:List Int×Unit)(h:y9t rp=some y):∃ n,yKX n rp=some y :=
  ⟨big,LeF.top (show LeF some (y9t rp) (yKX big rp)from (fun (n:Nat) (hn:big≤n)=>show LeF some (y9t rp) (yKX n rp)from (yV fun hx=>by apply yCd n hn;exact hx)) big (Nat.le_refl _)) h⟩
def z0e_e:Entry:={ f:=77,args:=ySd,ress:=yV9,m:=fun x=>y9t x.1 }
theorem yNL:FnOK Tryz.prog z0e_e:=yJ (g:=yWT) (fn:=Tryz.f77) yB yI (y8 ycQ eNil) (by kernel_rfl) (by kernel_rfl) (by kernel_rfl) (fun x y h=>let ⟨n,hn⟩:=yQG x.1 y h;⟨yMt n,iNil,(yUv n x).trans hn⟩)
abbrev ySy:Ty:=.pair t3 (.pair t3 .unit)
abbrev yXV:Ty:=.pair t28 .unit
def yTe:G:={ T:=T,E:=[z0p_e,z16_e],muts:=[],fz:=[] }
def yaf:List (List Nat):=[]
def yNs(n:Nat):Ann:={ keep:=yaf,fuel:=n,inl:=[],deep:=0 }
def yOc(n:Nat)(p0:Int)(np:Int):Option (Int×Unit) :=
  (Option.bind (y1y [(z0p p0 (0:Int) (100000:Int)).1,(z0p np (0:Int) (4096:Int)).1]) fun v0=>(bif v0.1 != 0 then some (v0.1,())else some ((z0p (IntKind.i64.wrap (p0+np)) (0:Int) (100000:Int)).1,())))
theorem yYn(n:Nat)(x:ySy.den):runF yTe (yNs n) Tryz.f105 ySy yXV x=yOc n x.1 x.2.1:=by kernel_rfl
def yLM(p0:Int)(np:Int):Option (Int×Unit):=yOc 0 p0 np
theorem yOU(p0:Int)(np:Int)(y:Int×Unit)(h:yLM p0 np=some y):∃ n,yOc n p0 np=some y:=⟨0,h⟩
def z05_e:Entry:={ f:=105,args:=ySy,ress:=yXV,m:=fun x=>yLM x.1 x.2.1 }
theorem yX3:FnOK Tryz.prog z05_e:=yJ (g:=yTe) (fn:=Tryz.f105) yB yI (y8 yCO (y8 y4J eNil)) (by kernel_rfl) (by kernel_rfl) (by kernel_rfl) (fun x y h=>let ⟨n,hn⟩:=yOU x.1 x.2.1 y h;⟨yNs n,iNil,(yYn n x).trans hn⟩)
abbrev yRC:Ty:=.pair t33 (.pair t3 .unit)
abbrev yUP:Ty:=.pair t57 .unit
def yWz:G:={ T:=T,E:=[z1D_e],muts:=[],fz:=[] }
def ybE:List (List Nat):=[]
def yNu(n:Nat):Ann:={ keep:=ybE,fuel:=n,inl:=[],deep:=0 }
def yK9(n:Nat)(t:Q2)(tick:Int):Option ((Q4)×Unit) :=
  (Option.bind (yCp t.1 t.2.1 tick) fun v0=>some ((v0.1.1,v0.1.2.1,()),()))
theorem yWu(n:Nat)(x:yRC.den):runF yWz (yNu n) Tryz.f106 yRC yUP x=yK9 n x.1 x.2.1:=by kernel_rfl
def y8G(t:Q2)(tick:Int):Option ((Q4)×Unit):=yK9 0 t tick
theorem yOY(t:Q2)(tick:Int)(y:(Q4)×Unit)(h:y8G t tick=some y):∃ n,yK9 n t tick=some y:=⟨0,h⟩
def z0R_e:Entry:={ f:=106,args:=yRC,ress:=yUP,m:=fun x=>y8G x.1 x.2.1 }
theorem yON:FnOK Tryz.prog z0R_e:=yJ (g:=yWz) (fn:=Tryz.f106) yB yI (y8 yZe eNil) (by kernel_rfl) (by kernel_rfl) (by kernel_rfl) (fun x y h=>let ⟨n,hn⟩:=yOY x.1 x.2.1 y h;⟨yNu n,iNil,(yWu n x).trans hn⟩)
abbrev yQw:Ty:=.pair t57 .unit
abbrev yZa:Ty:=.pair t28 .unit
def yWZ:G:={ T:=T,E:=[z0p_e,z16_e],muts:=[],fz:=[] }
def ydI:List (List Nat):=[]
def yNX(n:Nat):Ann:={ keep:=ydI,fuel:=n,inl:=[],deep:=0 }
def yLl(n:Nat)(z:Q4):Option (Int×Unit) :=
  (Option.bind (y1y [(z0p z.1 (-8796093022208:Int) (8796093022208:Int)).1,(z0p z.2.1 (-8796093022208:Int) (8796093022208:Int)).1]) fun v0=>some (v0.1,()))
theorem yWj(n:Nat)(x:yQw.den):runF yWZ (yNX n) Tryz.f116 yQw yZa x=yLl n x.1:=by kernel_rfl
def yCj(z:Q4):Option (Int×Unit):=yLl 0 z
theorem yQK(z:Q4)(y:Int×Unit)(h:yCj z=some y):∃ n,yLl n z=some y:=⟨0,h⟩
def z04_e:Entry:={ f:=116,args:=yQw,ress:=yZa,m:=fun x=>yCj x.1 }
theorem yWv:FnOK Tryz.prog z04_e:=yJ (g:=yWZ) (fn:=Tryz.f116) yB yI (y8 yCO (y8 y4J eNil)) (by kernel_rfl) (by kernel_rfl) (by kernel_rfl) (fun x y h=>let ⟨n,hn⟩:=yQK x.1 y h;⟨yNX n,iNil,(yWj n x).trans hn⟩)
abbrev yPO:Ty:=.pair t23 (.pair t3 .unit)
abbrev yWr:Ty:=.pair t3 .unit
def yZY:G:={ T:=T,E:=[z0S_e],muts:=[],fz:=[] }
def yby:List (List Nat):=[[1,7,8,9]]
def yO3(n:Nat):Ann:={ keep:=yby,fuel:=n,inl:=[],deep:=0 }
def yEK(n:Nat)(r0:Int→List (Q4)→Int→Int→Option (Int×Unit))(ar:Int)(av:List (Q4))(aJ:Int)(al:Int):Option (Int×Unit) :=
  (bif decide (al < aJ)then (Option.bind (idx av al) fun v1=>(Option.bind (y7g ar [v1.1,v1.2.1]) fun v2=>r0 v2.1 av aJ (IntKind.i64.wrap (al+1))))else some (ar,()))
def y6s(n:Nat)(k:Nat)(ar:Int)(av:List (Q4))(aJ:Int)(al:Int):Option (Int×Unit) :=
  iter (fun r y=>yEK n (fun ar av aJ al=>r ((ar,(av,(aJ,(al,())))),((),()))) y.1.1 y.1.2.1 y.1.2.2.1 y.1.2.2.2.1) k ((ar,(av,(aJ,(al,())))),((),()))
def yL5(n:Nat)(l:List (Q4))(den:Int):Option (Int×Unit) :=
  (y6s n n (den) (l) ((↑l.length:Int)) ((0:Int)))
theorem yaG(n:Nat)(x:yPO.den):runF yZY (yO3 n) Tryz.f117 yPO yWr x=yL5 n x.1 x.2.1:=by kernel_rfl
def yBU(av:List (Q4))(al:Int)(v1:Q4)(ar:Int):Option ((Int×Unit)⊕(Int)) :=
  (Option.bind (y7g ar [v1.1,v1.2.1]) fun v2=>(some (Sum.inr (v2.1))))
def yF6(av:List (Q4))(ar:Int):Option (Int×Unit) :=
  (some ((ar,())))
theorem yCt(n:Nat)(hn:big≤n)(av:List (Q4))(ar:Int)(hx:List.length (av) < lenMax):LeF some (yR (fun ae aF a8=>yBU av ae aF a8) (fun a8=>yF6 av a8) 0 (av) ar) (y6s n n ar av (List.length (av):Int) 0):=by
  refine yU (f:=some) (W:=fun aD ae a8=>y6s n aD a8 av (List.length (av):Int) ae) (body:=(fun ae aF a8=>yBU av ae aF a8)) (fin:=(fun a8=>yF6 av a8)) (fun aD ae a8=>?_) hx ar n (by unfold big at hn;unfold lenMax at hx;omega)
  show LeF _ _ (yEK n (y6s n aD) a8 av (List.length (av):Int) ae)
  exact yA (yE fun v1=>(yE fun v2=>(y6 rfl))) (y0C (y6 rfl))
def yCP(l:List (Q4))(den:Int):Option (Int×Unit) :=
  (bif decide (List.length (l) < lenMax)then yR (fun ae aF a8=>yBU (l) ae aF a8) (fun a8=>yF6 (l) a8) 0 (l) (den)else none)
theorem yPl(l:List (Q4))(den:Int)(y:Int×Unit)(h:yCP l den=some y):∃ n,yL5 n l den=some y :=
  ⟨big,LeF.top (show LeF some (yCP l den) (yL5 big l den)from (fun (n:Nat) (hn:big≤n)=>show LeF some (yCP l den) (yL5 n l den)from (yV fun hx=>by apply yCt n hn;exact hx)) big (Nat.le_refl _)) h⟩
def z0l_e:Entry:={ f:=117,args:=yPO,ress:=yWr,m:=fun x=>yCP x.1 x.2.1 }
theorem yOK:FnOK Tryz.prog z0l_e:=yJ (g:=yZY) (fn:=Tryz.f117) yB yI (y8 yNB eNil) (by kernel_rfl) (by kernel_rfl) (by kernel_rfl) (fun x y h=>let ⟨n,hn⟩:=yPl x.1 x.2.1 y h;⟨yO3 n,iNil,(yaG n x).trans hn⟩)
abbrev zK_a:Ty:=.pair t183 .unit
abbrev zK_r:Ty:=.pair t57 .unit
def zK_g:G:={ T:=T,E:=[zT_e],muts:=[],fz:=[] }
def zK_k:List (List Nat):=[]
def yYC(n:Nat):Ann:={ keep:=zK_k,fuel:=n,inl:=[],deep:=0 }
def zK_m(n:Nat)(m:List (List (Q4))):Option ((Q4)×Unit) :=
  (Option.bind (y08 (8:Nat) (m,(0:Int),(0:Int),())) fun v0=>some ((v0.1.1,v0.1.2.1,()),()))
theorem ycv(n:Nat)(x:zK_a.den):runF zK_g (yYC n) Tryz.f123 zK_a zK_r x=zK_m n x.1:=by kernel_rfl
def zK_M(m:List (List (Q4))):Option ((Q4)×Unit):=zK_m 0 m
theorem yUV(m:List (List (Q4)))(y:(Q4)×Unit)(h:zK_M m=some y):∃ n,zK_m n m=some y:=⟨0,h⟩
def zK_e:Entry:={ f:=123,args:=zK_a,ress:=zK_r,m:=fun x=>zK_M x.1 }
theorem yLs:FnOK Tryz.prog zK_e:=yJ (g:=zK_g) (fn:=Tryz.f123) yB yI (y8 ycD eNil) (by kernel_rfl) (by kernel_rfl) (by kernel_rfl) (fun x y h=>let ⟨n,hn⟩:=yUV x.1 y h;⟨yYC n,iNil,(ycv n x).trans hn⟩)
abbrev yRH:Ty:=.pair t3 (.pair t3 .unit)
abbrev yXB:Ty:=.pair t69 .unit
def yWU:G:={ T:=T,E:=[z0S_e],muts:=[],fz:=[] }
def ybo:List (List Nat):=[]
def yMs(n:Nat):Ann:={ keep:=ybo,fuel:=n,inl:=[],deep:=0 }
def yK0(n:Nat)(num:Int)(den:Int):Option ((Q4)×Unit) :=
  (Option.bind (y7g den [num]) fun v0=>(bif v0.1==0 then none else (bif v0.1==0 then none else some ((IntKind.i64.wrap (num.tdiv v0.1),IntKind.i64.wrap (den.tdiv v0.1),()),()))))
theorem yXw(n:Nat)(x:yRH.den):runF yWU (yMs n) Tryz.f127 yRH yXB x=yK0 n x.1 x.2.1:=by kernel_rfl
def y8B(num:Int)(den:Int):Option ((Q4)×Unit):=yK0 0 num den
theorem yRl(num:Int)(den:Int)(y:(Q4)×Unit)(h:y8B num den=some y):∃ n,yK0 n num den=some y:=⟨0,h⟩
def z19_e:Entry:={ f:=127,args:=yRH,ress:=yXB,m:=fun x=>y8B x.1 x.2.1 }
theorem yIT:FnOK Tryz.prog z19_e:=yJ (g:=yWU) (fn:=Tryz.f127) yB yI (y8 yNB eNil) (by kernel_rfl) (by kernel_rfl) (by kernel_rfl) (fun x y h=>let ⟨n,hn⟩:=yRl x.1 x.2.1 y h;⟨yMs n,iNil,(yXw n x).trans hn⟩)
abbrev yPN:Ty:=.pair t35 (.pair t61 .unit)
abbrev yVH:Ty:=.pair t41 (.pair t28 .unit)
def yZb:G:={ T:=T,E:=[zI_e,zZ_e,z16_e],muts:=[7],fz:=[] }
def ybg:List (List Nat):=[[0,1,7,8,9]]
def yNx(n:Nat):Ann:={ keep:=ybg,fuel:=n,inl:=[],deep:=0 }
def yEE(n:Nat)(r2:List Nat→Nat→Int→Int→List Int→Option (List Int×Int×Unit))(aw:List Nat)(a7:Nat)(ac:Int)(aI:Int)(aB:List Int):Option (List Int×Int×Unit) :=
  (bif decide (aI < (↑aw.length:Int))then (Option.bind (idx aw aI) fun v3=>(Option.bind (idx aw (IntKind.i64.wrap (aI - (1:Int)))) fun v4=>(bif ym Go.BinOp.gtr Go.FloatKind.f32 (y01 Go.BinOp.mul Go.FloatKind.f32 a7 (y01 Go.BinOp.sub Go.FloatKind.f32 v3 v4)) (nat_lit 0)then r2 aw a7 aI (IntKind.i64.wrap (aI+1)) aB else (bif ym Go.BinOp.lss Go.FloatKind.f32 (y01 Go.BinOp.mul Go.FloatKind.f32 a7 (y01 Go.BinOp.sub Go.FloatKind.f32 v3 v4)) (nat_lit 0)then (bif decide (ac ≥ 0)then (bif decide (aB.length+(1:Nat)≤memMax)then r2 aw a7 (-1:Int) (IntKind.i64.wrap (aI+1)) (aB++[ac])else none)else r2 aw a7 (-1:Int) (IntKind.i64.wrap (aI+1)) aB)else r2 aw a7 ac (IntKind.i64.wrap (aI+1)) aB))))else some (aB,(0:Int),()))
def y6h(n:Nat)(k:Nat)(aw:List Nat)(a7:Nat)(ac:Int)(aI:Int)(aB:List Int):Option (List Int×Int×Unit) :=
  iter (fun r y=>yEE n (fun aw a7 ac aI aB=>r ((aw,(a7,(ac,(aI,())))),((aB,()),()))) y.1.1 y.1.2.1 y.1.2.2.1 y.1.2.2.2.1 y.2.1.1) k ((aw,(a7,(ac,(aI,())))),((aB,()),()))
def yKr(n:Nat)(l:List Nat)(direction:Nat):Option (List Int×Int×Unit) :=
  (bif decide ((↑l.length:Int) > 4096)then some ([],(5:Int),())else (Option.bind (zI_M l fun (x:Nat×Unit)=>zZ_M x.1) fun v0=>(Option.bind (y1y v0.1) fun v1=>(bif v1.1 != 0 then some ([],v1.1,())else (y6h n n (l) (direction) ((-1:Int)) ((1:Int)) ([]))))))
theorem yZs(n:Nat)(x:yPN.den):runF yZb (yNx n) Tryz.f154 yPN yVH x=yKr n x.1 x.2.1:=by kernel_rfl
def yH6(aw:List Nat)(a7:Nat)(aI:Int)(ac:Int)(aB:List Int):Option ((List Int×Int×Unit)⊕(Int×List Int)) :=
  (Option.bind (idx aw aI) fun v3=>(Option.bind (idx aw (IntKind.i64.wrap (aI - (1:Int)))) fun v4=>(bif ym Go.BinOp.gtr Go.FloatKind.f32 (y01 Go.BinOp.mul Go.FloatKind.f32 a7 (y01 Go.BinOp.sub Go.FloatKind.f32 v3 v4)) (nat_lit 0)then (some (Sum.inr ((aI),(aB))))else (bif ym Go.BinOp.lss Go.FloatKind.f32 (y01 Go.BinOp.mul Go.FloatKind.f32 a7 (y01 Go.BinOp.sub Go.FloatKind.f32 v3 v4)) (nat_lit 0)then (bif decide (ac ≥ 0)then (bif decide (aB.length+(1:Nat)≤memMax)then (some (Sum.inr (((-1:Int)),(aB++[ac]))))else none)else (some (Sum.inr (((-1:Int)),(aB)))))else (some (Sum.inr ((ac),(aB))))))))
def yHT(aw:List Nat)(a7:Nat)(ac:Int)(aB:List Int):Option (List Int×Int×Unit) :=
  (some ((aB,(0:Int),())))
theorem yCw(n:Nat)(hn:big≤n)(aw:List Nat)(a7:Nat)(ac:Int)(aB:List Int)(hx:((↑aw.length:Int))≤9223372036854775807):LeF some (y1k (fun ae a8=>yH6 aw a7 ae a8.1 a8.2) (fun a8=>yHT aw a7 a8.1 a8.2) (((↑aw.length:Int)) - 1).toNat 1 (ac,aB)) (y6h n n aw a7 ac 1 aB):=by
  refine y3I (f:=some) (W:=fun aD ae a8=>y6h n aD aw a7 a8.1 ae a8.2) (body:=(fun ae a8=>yH6 aw a7 ae a8.1 a8.2)) (fin:=(fun a8=>yHT aw a7 a8.1 a8.2)) (fun aD ae a8=>?_) hx (ac,aB) n 1 (by decide) (by unfold big at hn;omega)
  show LeF _ _ (yEE n (y6h n aD) aw a7 a8.1 ae a8.2)
  exact yA (yE fun v3=>(yE fun v4=>(yA (y6 rfl) (yA (yA (yA (y6 rfl) y19) (y6 rfl)) (y6 rfl))))) (y0C (y6 rfl))
def yFa(l:List Nat)(direction:Nat):Option (List Int×Int×Unit) :=
  (bif decide ((↑l.length:Int) > 4096)then (some (([],(5:Int),())))else (Option.bind (zI_M l fun (x:Nat×Unit)=>zZ_M x.1) fun v0=>(Option.bind (y1y v0.1) fun v1=>(bif v1.1 != 0 then (some (([],v1.1,())))else (bif decide (((↑l.length:Int))≤9223372036854775807)then y1k (fun ae a8=>yH6 (l) (direction) ae a8.1 a8.2) (fun a8=>yHT (l) (direction) a8.1 a8.2) (((↑l.length:Int)) - 1).toNat 1 (((-1:Int)),([]))else none)))))
theorem yRi(l:List Nat)(direction:Nat)(y:List Int×Int×Unit)(h:yFa l direction=some y):∃ n,yKr n l direction=some y :=
  ⟨big,LeF.top (show LeF some (yFa l direction) (yKr big l direction)from (fun (n:Nat) (hn:big≤n)=>show LeF some (yFa l direction) (yKr n l direction)from (yA (y6 rfl) (yE fun v0=>(yE fun v1=>(yA (y6 rfl) (yV fun hx=>by apply yCw n hn;exact hx)))))) big (Nat.le_refl _)) h⟩
def z0o_e:Entry:={ f:=154,args:=yPN,ress:=yVH,m:=fun x=>yFa x.1 x.2.1 }
theorem yMg:FnOK Tryz.prog z0o_e:=yJ (g:=yZb) (fn:=Tryz.f154) yB yI (y8 ych (y8 yW8 (y8 y4J eNil))) (by kernel_rfl) (by kernel_rfl) (by kernel_rfl) (fun x y h=>let ⟨n,hn⟩:=yRi x.1 x.2.1 y h;⟨yNx n,iNil,(yZs n x).trans hn⟩)
abbrev zM_a:Ty:=.pair t55 .unit
abbrev zM_r:Ty:=.pair t28 .unit
def zM_g:G:={ T:=T,E:=[z0G_e,z1M_e,z0p_e,z16_e],muts:=[],fz:=[] }
def zM_k:List (List Nat):=[]
def yYT(n:Nat):Ann:={ keep:=zM_k,fuel:=n,inl:=[],deep:=0 }
def zM_m(n:Nat)(c:Q3):Option (Int×Unit) :=
  (Option.bind (yAy c.1) fun v0=>(Option.bind (y1y [(z1M (!v0.1) (8:Int)).1,(z0p c.2.1 (1:Int) (96:Int)).1,(z0p c.2.2.1 (0:Int) (3:Int)).1]) fun v1=>some (v1.1,())))
theorem ybU(n:Nat)(x:zM_a.den):runF zM_g (yYT n) Tryz.f160 zM_a zM_r x=zM_m n x.1:=by kernel_rfl
def zM_M(c:Q3):Option (Int×Unit):=zM_m 0 c
theorem yW4(c:Q3)(y:Int×Unit)(h:zM_M c=some y):∃ n,zM_m n c=some y:=⟨0,h⟩
def zM_e:Entry:={ f:=160,args:=zM_a,ress:=zM_r,m:=fun x=>zM_M x.1 }
theorem ybP:FnOK Tryz.prog zM_e:=yJ (g:=zM_g) (fn:=Tryz.f160) yB yI (y8 yNk (y8 y6H (y8 yCO (y8 y4J eNil)))) (by kernel_rfl) (by kernel_rfl) (by kernel_rfl) (fun x y h=>let ⟨n,hn⟩:=yW4 x.1 y h;⟨yYT n,iNil,(ybU n x).trans hn⟩)
abbrev yQP:Ty:=.pair t55 (.pair (.ref t60) (.pair (.ref t31) (.pair (.ref t3) .unit)))
abbrev yZ0:Ty:=.pair t57 .unit
def ya6:G:={ T:=T,E:=[z17_e],muts:=[],fz:=[] }
def ycA:List (List Nat):=[]
def yNr(n:Nat):Ann:={ keep:=ycA,fuel:=n,inl:=[],deep:=0 }
def yS1(n:Nat)(c:Q3)(p1:Q1)(p2:List (Q3))(p3:Int):Option ((Q4)×Unit) :=
  (Option.bind (idx p2 p3) fun v0=>(Option.bind (yJJ p1 c v0) fun v1=>some ((v1.1.1,v1.1.2.1,()),())))
theorem yT4(n:Nat)(x:yQP.den):runF ya6 (yNr n) Tryz.f163 yQP yZ0 x=yS1 n x.1 x.2.1 x.2.2.1 x.2.2.2.1:=by kernel_rfl
def yPH(c:Q3)(p1:Q1)(p2:List (Q3))(p3:Int):Option ((Q4)×Unit):=yS1 0 c p1 p2 p3
theorem yQT(c:Q3)(p1:Q1)(p2:List (Q3))(p3:Int)(y:(Q4)×Unit)(h:yPH c p1 p2 p3=some y):∃ n,yS1 n c p1 p2 p3=some y:=⟨0,h⟩
def z0C_e:Entry:={ f:=163,args:=yQP,ress:=yZ0,m:=fun x=>yPH x.1 x.2.1 x.2.2.1 x.2.2.2.1 }
theorem yVy:FnOK Tryz.prog z0C_e:=yJ (g:=ya6) (fn:=Tryz.f163) yB yI (y8 yIn eNil) (by kernel_rfl) (by kernel_rfl) (by kernel_rfl) (fun x y h=>let ⟨n,hn⟩:=yQT x.1 x.2.1 x.2.2.1 x.2.2.2.1 y h;⟨yNr n,iNil,(yT4 n x).trans hn⟩)
abbrev yOv:Ty:=.pair t22 (.pair t23 (.pair t3 .unit))
abbrev yZE:Ty:=.pair t57 .unit
def yUF:G:={ T:=T,E:=[zo_e,z0b_e,z0y_e],muts:=[],fz:=[] }
def ybw:List (List Nat):=[[0,1,2,6,7,8]]
def yNp(n:Nat):Ann:={ keep:=ybw,fuel:=n,inl:=[],deep:=0 }
def yFF(n:Nat)(r0:List (Q3)→List (Q4)→Int→Int→Int→Int→Int→Int→Option ((Q4)×Unit))(aa:List (Q3))(aG:List (Q4))(af:Int)(aN:Int)(am:Int)(aq:Int)(ai:Int)(aj:Int):Option ((Q4)×Unit) :=
  (bif decide (aN < (↑aa.length:Int))then (Option.bind (idx aG aN) fun v1=>(Option.bind (idx aa aN) fun v2=>(Option.bind (zo_M v2 af) fun v3=>r0 aa aG af (IntKind.i64.wrap (aN+1)) am aq (z0y (ai,aj,()) (z0b v1 v3.1).1).1.1 (z0y (ai,aj,()) (z0b v1 v3.1).1).1.2.1)))else some ((ai,aj,()),()))
def y6y(n:Nat)(k:Nat)(aa:List (Q3))(aG:List (Q4))(af:Int)(aN:Int)(am:Int)(aq:Int)(ai:Int)(aj:Int):Option ((Q4)×Unit) :=
  iter (fun r y=>yFF n (fun aa aG af aN am aq ai aj=>r ((aa,(aG,(af,(aN,())))),(((am,(aq,())),((ai,(aj,())),())),()))) y.1.1 y.1.2.1 y.1.2.2.1 y.1.2.2.2.1 y.2.1.1.1 y.2.1.1.2.1 y.2.1.2.1.1 y.2.1.2.1.2.1) k ((aa,(aG,(af,(aN,())))),(((am,(aq,())),((ai,(aj,())),())),()))
def yK3(n:Nat)(l:List (Q3))(v:List (Q4))(tick:Int):Option ((Q4)×Unit) :=
  (y6y n n (l) (v) (tick) ((0:Int)) ((0:Int)) ((0:Int)) ((0:Int)) ((0:Int)))
theorem yUQ(n:Nat)(x:yOv.den):runF yUF (yNp n) Tryz.f168 yOv yZE x=yK3 n x.1 x.2.1 x.2.2.1:=by kernel_rfl
def y8b(aa:List (Q3))(aG:List (Q4))(af:Int)(am:Int)(aq:Int)(aN:Int)(ai:Int)(aj:Int):Option (((Q4)×Unit)⊕(Int×Int)) :=
  (Option.bind (idx aG aN) fun v1=>(Option.bind (idx aa aN) fun v2=>(Option.bind (zo_M v2 af) fun v3=>(some (Sum.inr (((z0y (ai,aj,()) (z0b v1 v3.1).1).1.1),((z0y (ai,aj,()) (z0b v1 v3.1).1).1.2.1)))))))
def yFH(aa:List (Q3))(aG:List (Q4))(af:Int)(am:Int)(aq:Int)(ai:Int)(aj:Int):Option ((Q4)×Unit) :=
  (some (((ai,aj,()),())))
theorem yDR(n:Nat)(hn:big≤n)(aa:List (Q3))(aG:List (Q4))(af:Int)(am:Int)(aq:Int)(ai:Int)(aj:Int)(hx:((↑aa.length:Int))≤9223372036854775807):LeF some (y1k (fun ae a8=>y8b aa aG af am aq ae a8.1 a8.2) (fun a8=>yFH aa aG af am aq a8.1 a8.2) (((↑aa.length:Int)) - 0).toNat 0 (ai,aj)) (y6y n n aa aG af 0 am aq ai aj):=by
  refine y3I (f:=some) (W:=fun aD ae a8=>y6y n aD aa aG af ae am aq a8.1 a8.2) (body:=(fun ae a8=>y8b aa aG af am aq ae a8.1 a8.2)) (fin:=(fun a8=>yFH aa aG af am aq a8.1 a8.2)) (fun aD ae a8=>?_) hx (ai,aj) n 0 (by decide) (by unfold big at hn;omega)
  show LeF _ _ (yFF n (y6y n aD) aa aG af ae am aq a8.1 a8.2)
  exact yA (yE fun v1=>(yE fun v2=>(yE fun v3=>(y6 rfl)))) (y0C (y6 rfl))
def yD6(l:List (Q3))(v:List (Q4))(tick:Int):Option ((Q4)×Unit) :=
  (bif decide (((↑l.length:Int))≤9223372036854775807)then y1k (fun ae a8=>y8b (l) (v) (tick) ((0:Int)) ((0:Int)) ae a8.1 a8.2) (fun a8=>yFH (l) (v) (tick) ((0:Int)) ((0:Int)) a8.1 a8.2) (((↑l.length:Int)) - 0).toNat 0 (((0:Int)),((0:Int)))else none)
theorem yQb(l:List (Q3))(v:List (Q4))(tick:Int)(y:(Q4)×Unit)(h:yD6 l v tick=some y):∃ n,yK3 n l v tick=some y :=
  ⟨big,LeF.top (show LeF some (yD6 l v tick) (yK3 big l v tick)from (fun (n:Nat) (hn:big≤n)=>show LeF some (yD6 l v tick) (yK3 n l v tick)from (yV fun hx=>by apply yDR n hn;exact hx)) big (Nat.le_refl _)) h⟩
def z1H_e:Entry:={ f:=168,args:=yOv,ress:=yZE,m:=fun x=>yD6 x.1 x.2.1 x.2.2.1 }
theorem yVt:FnOK Tryz.prog z1H_e:=yJ (g:=yUF) (fn:=Tryz.f168) yB yI (y8 yd4 (y8 yYr (y8 yUd eNil))) (by kernel_rfl) (by kernel_rfl) (by kernel_rfl) (fun x y h=>let ⟨n,hn⟩:=yQb x.1 x.2.1 x.2.2.1 y h;⟨yNp n,iNil,(yUQ n x).trans hn⟩)
abbrev yQo:Ty:=.pair t210 (.pair t3 .unit)
abbrev yVi:Ty:=.pair t4 .unit
def yW1:G:={ T:=T,E:=[z1N_e],muts:=[],fz:=[] }
def ybF:List (List Nat):=[]
def yNq(n:Nat):Ann:={ keep:=ybF,fuel:=n,inl:=[],deep:=0 }
def yLC(n:Nat)(f:Nat)(sign:Int):Option (Bool×Unit) :=
  (bif sign==0 then (Option.bind (absM f) fun v0=>some (ym Go.BinOp.gtr Go.FloatKind.f64 v0.1 (nat_lit 9218868437227405311),()))else (bif decide (sign < 0)then some (ym Go.BinOp.gtr Go.FloatKind.f64 (yEP Go.FloatKind.f64 f) (nat_lit 9218868437227405311),())else some (ym Go.BinOp.gtr Go.FloatKind.f64 f (nat_lit 9218868437227405311),())))
theorem yaL(n:Nat)(x:yQo.den):runF yW1 (yNq n) Tryz.f172 yQo yVi x=yLC n x.1 x.2.1:=by kernel_rfl
def yJN(f:Nat)(sign:Int):Option (Bool×Unit):=yLC 0 f sign
theorem yR1(f:Nat)(sign:Int)(y:Bool×Unit)(h:yJN f sign=some y):∃ n,yLC n f sign=some y:=⟨0,h⟩
def z0v_e:Entry:={ f:=172,args:=yQo,ress:=yVi,m:=fun x=>yJN x.1 x.2.1 }
theorem yVr:FnOK Tryz.prog z0v_e:=yJ (g:=yW1) (fn:=Tryz.f172) yB yI (y8 yX9 eNil) (by kernel_rfl) (by kernel_rfl) (by kernel_rfl) (fun x y h=>let ⟨n,hn⟩:=yR1 x.1 x.2.1 y h;⟨yNq n,iNil,(yaL n x).trans hn⟩)
abbrev zw_a:Ty:=.pair t55 (.pair (.ref t60) (.pair (.ref t55) .unit))
abbrev zw_r:Ty:=.pair t57 .unit
def zw_g:G:={ T:=T,E:=[z17_e],muts:=[],fz:=[] }
def zw_k:List (List Nat):=[]
def yUq(n:Nat):Ann:={ keep:=zw_k,fuel:=n,inl:=[],deep:=0 }
def zw_m(n:Nat)(b:Q3)(p1:Q1)(p2:Q3):Option ((Q4)×Unit) :=
  (Option.bind (yJJ p1 p2 b) fun v0=>some ((v0.1.1,v0.1.2.1,()),()))
theorem ybL(n:Nat)(x:zw_a.den):runF zw_g (yUq n) Tryz.f193 zw_a zw_r x=zw_m n x.1 x.2.1 x.2.2.1:=by kernel_rfl
def zw_M(b:Q3)(p1:Q1)(p2:Q3):Option ((Q4)×Unit):=zw_m 0 b p1 p2
theorem yX8(b:Q3)(p1:Q1)(p2:Q3)(y:(Q4)×Unit)(h:zw_M b p1 p2=some y):∃ n,zw_m n b p1 p2=some y:=⟨0,h⟩
def zw_e:Entry:={ f:=193,args:=zw_a,ress:=zw_r,m:=fun x=>zw_M x.1 x.2.1 x.2.2.1 }
theorem yc1:FnOK Tryz.prog zw_e:=yJ (g:=zw_g) (fn:=Tryz.f193) yB yI (y8 yIn eNil) (by kernel_rfl) (by kernel_rfl) (by kernel_rfl) (fun x y h=>let ⟨n,hn⟩:=yX8 x.1 x.2.1 x.2.2.1 y h;⟨yUq n,iNil,(ybL n x).trans hn⟩)
abbrev zV_a:Ty:=.pair t35 .unit
abbrev zV_r:Ty:=.pair t28 .unit
def zV_g:G:={ T:=T,E:=[zZ_e],muts:=[],fz:=[] }
def zV_k:List (List Nat):=[[3,6,7,8]]
def yTb(n:Nat):Ann:={ keep:=zV_k,fuel:=n,inl:=[],deep:=0 }
def yIh(n:Nat)(r0:Int→List Nat→Int→Int→Option (Int×Unit))(ah:Int)(aC:List Nat)(av:Int)(aJ:Int):Option (Int×Unit) :=
  (bif decide (aJ < av)then (Option.bind (idx aC aJ) fun v1=>(Option.bind (zZ_M v1) fun v2=>(bif v2.1 != 0 then some (v2.1,())else r0 v2.1 aC av (IntKind.i64.wrap (aJ+1)))))else some (ah,()))
def yAJ(n:Nat)(k:Nat)(ah:Int)(aC:List Nat)(av:Int)(aJ:Int):Option (Int×Unit) :=
  iter (fun r y=>yIh n (fun ah aC av aJ=>r ((ah,(aC,(av,(aJ,())))),((),()))) y.1.1 y.1.2.1 y.1.2.2.1 y.1.2.2.2.1) k ((ah,(aC,(av,(aJ,())))),((),()))
def zV_m(n:Nat)(l:List Nat):Option (Int×Unit) :=
  (yAJ n n ((0:Int)) (l) ((↑l.length:Int)) ((0:Int)))
theorem yb2(n:Nat)(x:zV_a.den):runF zV_g (yTb n) Tryz.f202 zV_a zV_r x=zV_m n x.1:=by kernel_rfl
def yJg(aC:List Nat)(aJ:Int)(v1:Nat)(ah:Int):Option ((Int×Unit)⊕(Int)) :=
  (Option.bind (zZ_M v1) fun v2=>(bif v2.1 != 0 then (some (Sum.inl ((v2.1,()))))else (some (Sum.inr (v2.1)))))
def yJz(aC:List Nat)(ah:Int):Option (Int×Unit) :=
  (some ((ah,())))
theorem yFc(n:Nat)(hn:big≤n)(aC:List Nat)(ah:Int)(hx:List.length (aC) < lenMax):LeF some (yR (fun ae aF a8=>yJg aC ae aF a8) (fun a8=>yJz aC a8) 0 (aC) ah) (yAJ n n ah aC (List.length (aC):Int) 0):=by
  refine yU (f:=some) (W:=fun aD ae a8=>yAJ n aD a8 aC (List.length (aC):Int) ae) (body:=(fun ae aF a8=>yJg aC ae aF a8)) (fin:=(fun a8=>yJz aC a8)) (fun aD ae a8=>?_) hx ah n (by unfold big at hn;unfold lenMax at hx;omega)
  show LeF _ _ (yIh n (yAJ n aD) a8 aC (List.length (aC):Int) ae)
  exact yA (yE fun v1=>(yE fun v2=>(yA (y6 rfl) (y6 rfl)))) (y0C (y6 rfl))
def zV_M(l:List Nat):Option (Int×Unit) :=
  (bif decide (List.length (l) < lenMax)then yR (fun ae aF a8=>yJg (l) ae aF a8) (fun a8=>yJz (l) a8) 0 (l) ((0:Int))else none)
theorem yYA(l:List Nat)(y:Int×Unit)(h:zV_M l=some y):∃ n,zV_m n l=some y :=
  ⟨big,LeF.top (show LeF some (zV_M l) (zV_m big l)from (fun (n:Nat) (hn:big≤n)=>show LeF some (zV_M l) (zV_m n l)from (yV fun hx=>by apply yFc n hn;exact hx)) big (Nat.le_refl _)) h⟩
def zV_e:Entry:={ f:=202,args:=zV_a,ress:=zV_r,m:=fun x=>zV_M x.1 }
theorem ycc:FnOK Tryz.prog zV_e:=yJ (g:=zV_g) (fn:=Tryz.f202) yB yI (y8 yW8 eNil) (by kernel_rfl) (by kernel_rfl) (by kernel_rfl) (fun x y h=>let ⟨n,hn⟩:=yYA x.1 y h;⟨yTb n,iNil,(yb2 n x).trans hn⟩)
abbrev za_a:Ty:=.pair t58 .unit
abbrev za_r:Ty:=.pair t28 .unit
def za_g:G:={ T:=T,E:=[zl_e,z0q_e,z0W_e],muts:=[],fz:=[] }
def za_k:List (List Nat):=[[0,9,10,11]]
def yUX(n:Nat):Ann:={ keep:=za_k,fuel:=n,inl:=[],deep:=0 }
def yHM(n:Nat)(r0:List (Q4)→List (Q4)→Int→Int→Option (Int×Unit))(aa:List (Q4))(al:List (Q4))(aO:Int)(au:Int):Option (Int×Unit) :=
  (bif decide (au < aO)then (Option.bind (idx al au) fun v1=>(bif decide (au > 0)then (Option.bind (idx aa (if Bool.true=Bool.true then if IntKind.i64.wrap (au - (1:Int)) > 0 then IntKind.i64.wrap (au - (1:Int))else (0:Int)else if IntKind.i64.wrap (au - (1:Int)) < 0 then IntKind.i64.wrap (au - (1:Int))else (0:Int))) fun v2=>(Option.bind (y6M [(zl (v1.1,v1.2.1,())).1,(z0q (decide (v1.1≤v2.2.1)) (11:Int)).1]) fun v3=>(bif v3.1 != 0 then some (v3.1,())else r0 aa al aO (IntKind.i64.wrap (au+1)))))else (Option.bind (y6M [(zl (v1.1,v1.2.1,())).1,(z0q Bool.false (11:Int)).1]) fun v4=>(bif v4.1 != 0 then some (v4.1,())else r0 aa al aO (IntKind.i64.wrap (au+1))))))else some ((0:Int),()))
def yAh(n:Nat)(k:Nat)(aa:List (Q4))(al:List (Q4))(aO:Int)(au:Int):Option (Int×Unit) :=
  iter (fun r y=>yHM n (fun aa al aO au=>r ((aa,(al,(aO,(au,())))),((),()))) y.1.1 y.1.2.1 y.1.2.2.1 y.1.2.2.2.1) k ((aa,(al,(aO,(au,())))),((),()))
def za_m(n:Nat)(l:List (Q4)):Option (Int×Unit) :=
  (bif decide ((↑l.length:Int) > 2048)then some ((5:Int),())else (yAh n n (l) (l) ((↑l.length:Int)) ((0:Int))))
theorem yaa(n:Nat)(x:za_a.den):runF za_g (yUX n) Tryz.f203 za_a za_r x=za_m n x.1:=by kernel_rfl
def yH3(aa:List (Q4))(al:List (Q4))(au:Int)(v1:Q4):Option ((Int×Unit)⊕Unit) :=
  (bif decide (au > 0)then (Option.bind (idx aa (if Bool.true=Bool.true then if IntKind.i64.wrap (au - (1:Int)) > 0 then IntKind.i64.wrap (au - (1:Int))else (0:Int)else if IntKind.i64.wrap (au - (1:Int)) < 0 then IntKind.i64.wrap (au - (1:Int))else (0:Int))) fun v2=>(Option.bind (y6M [(zl (v1.1,v1.2.1,())).1,(z0q (decide (v1.1≤v2.2.1)) (11:Int)).1]) fun v3=>(bif v3.1 != 0 then (some (Sum.inl ((v3.1,()))))else (some (Sum.inr ())))))else (Option.bind (y6M [(zl (v1.1,v1.2.1,())).1,(z0q Bool.false (11:Int)).1]) fun v4=>(bif v4.1 != 0 then (some (Sum.inl ((v4.1,()))))else (some (Sum.inr ())))))
def yKR(aa:List (Q4))(al:List (Q4)):Option (Int×Unit) :=
  (some (((0:Int),())))
theorem yGe(n:Nat)(hn:big≤n)(aa:List (Q4))(al:List (Q4))(hx:List.length (al) < lenMax):LeF some (yR (fun ae aF a8=>yH3 aa al ae aF) (fun a8=>yKR aa al) 0 (al) ()) (yAh n n aa al (List.length (al):Int) 0):=by
  refine yU (f:=some) (W:=fun aD ae a8=>yAh n aD aa al (List.length (al):Int) ae) (body:=(fun ae aF a8=>yH3 aa al ae aF)) (fin:=(fun a8=>yKR aa al)) (fun aD ae a8=>?_) hx () n (by unfold big at hn;unfold lenMax at hx;omega)
  show LeF _ _ (yHM n (yAh n aD) aa al (List.length (al):Int) ae)
  exact yA (yE fun v1=>(yA (yE fun v2=>(yE fun v3=>(yA (y6 rfl) (y6 rfl)))) (yE fun v4=>(yA (y6 rfl) (y6 rfl))))) (y0C (y6 rfl))
def za_M(l:List (Q4)):Option (Int×Unit) :=
  (bif decide ((↑l.length:Int) > 2048)then (some (((5:Int),())))else (bif decide (List.length (l) < lenMax)then yR (fun ae aF a8=>yH3 (l) (l) ae aF) (fun a8=>yKR (l) (l)) 0 (l) ()else none))
theorem yTF(l:List (Q4))(y:Int×Unit)(h:za_M l=some y):∃ n,za_m n l=some y :=
  ⟨big,LeF.top (show LeF some (za_M l) (za_m big l)from (fun (n:Nat) (hn:big≤n)=>show LeF some (za_M l) (za_m n l)from (yA (y6 rfl) (yV fun hx=>by apply yGe n hn;exact hx))) big (Nat.le_refl _)) h⟩
def za_e:Entry:={ f:=203,args:=za_a,ress:=za_r,m:=fun x=>za_M x.1 }
theorem ybt:FnOK Tryz.prog za_e:=yJ (g:=za_g) (fn:=Tryz.f203) yB yI (y8 ybT (y8 yBt (y8 yOL eNil))) (by kernel_rfl) (by kernel_rfl) (by kernel_rfl) (fun x y h=>let ⟨n,hn⟩:=yTF x.1 y h;⟨yUX n,iNil,(yaa n x).trans hn⟩)
abbrev zQ_a:Ty:=.pair t63 (.pair (.ref t60) .unit)
abbrev zQ_r:Ty:=.pair t4 .unit
def zQ_g:G:={ T:=T,E:=[zC_e,zO_e],muts:=[],fz:=[] }
def zQ_k:List (List Nat):=[]
def yZ8(n:Nat):Ann:={ keep:=zQ_k,fuel:=n,inl:=[],deep:=0 }
def zQ_m(n:Nat)(s:Q4)(p1:Q1):Option (Bool×Unit) :=
  (bif decide ((0:Int)≤s.1) && decide (s.1≤s.2.1) && decide (s.2.1≤(↑p1.2.2.1.length:Int))then (Option.bind (zC_M (List.drop s.1.toNat (List.take s.2.1.toNat p1.2.2.1)) fun (x:Nat×Unit)=>zO_M x.1) fun v0=>some (v0.1,()))else none)
theorem yam(n:Nat)(x:zQ_a.den):runF zQ_g (yZ8 n) Tryz.f206 zQ_a zQ_r x=zQ_m n x.1 x.2.1:=by kernel_rfl
def zQ_M(s:Q4)(p1:Q1):Option (Bool×Unit):=zQ_m 0 s p1
theorem yVF(s:Q4)(p1:Q1)(y:Bool×Unit)(h:zQ_M s p1=some y):∃ n,zQ_m n s p1=some y:=⟨0,h⟩
def zQ_e:Entry:={ f:=206,args:=zQ_a,ress:=zQ_r,m:=fun x=>zQ_M x.1 x.2.1 }
theorem yak:FnOK Tryz.prog zQ_e:=yJ (g:=zQ_g) (fn:=Tryz.f206) yB yI (y8 ycE (y8 yaS eNil)) (by kernel_rfl) (by kernel_rfl) (by kernel_rfl) (fun x y h=>let ⟨n,hn⟩:=yVF x.1 x.2.1 y h;⟨yZ8 n,iNil,(yam n x).trans hn⟩)
end
end Go.Tw
end
section
set_option maxRecDepth 1000000
namespace Go.Tw
open Go.Vx Go.Vx.B Go.Proofs
noncomputable section
abbrev zq_a:Ty:=.pair t25 .unit
abbrev zq_r:Ty:=.pair t3 .unit
def zq_g:G:={ T:=T,E:=[zJ_e,zd_e,zp_e,z0M_e],muts:=[],fz:=[] }
def zq_k:List (List Nat):=[[1,5]]
def yWM(n:Nat):Ann:={ keep:=zq_k,fuel:=n,inl:=[],deep:=0 }
def yIm(n:Nat)(r1:Q2→Int→Option (Int×Unit))(az:Q2)(aR:Int):Option (Int×Unit) :=
  (bif decide (aR < (↑az.2.1.length:Int))then (Option.bind (idx az.2.1 aR) fun v2=>(Option.bind (zp_M v2) fun v3=>(bif v3.1 != 0 then some (v3.1,())else r1 az (IntKind.i64.wrap (aR+1)))))else (Option.bind (yBo az.2.1 az.2.2.1) fun v4=>(bif v4.1 != 1 then some ((1:Int),())else some ((0:Int),()))))
def y9h(n:Nat)(k:Nat)(az:Q2)(aR:Int):Option (Int×Unit) :=
  iter (fun r y=>yIm n (fun az aR=>r ((az,(aR,())),((),()))) y.1.1 y.1.2.1) k ((az,(aR,())),((),()))
def zq_m(n:Nat)(t:Q2):Option (Int×Unit) :=
  (Option.bind (zJ_M t.1) fun v0=>(bif v0.1 != 0 then some (v0.1,())else (bif (↑t.2.1.length:Int) != (↑t.1.length:Int)then some ((2:Int),())else (bif (zd t.2.2.1 (1:Int) (268435456:Int)).1 != 0 then some ((zd t.2.2.1 (1:Int) (268435456:Int)).1,())else (y9h n n (t) ((0:Int)))))))
theorem yaQ(n:Nat)(x:zq_a.den):runF zq_g (yWM n) Tryz.f23 zq_a zq_r x=zq_m n x.1:=by kernel_rfl
def yH5(az:Q2)(aR:Int)(v2:Q4):Option ((Int×Unit)⊕Unit) :=
  (Option.bind (zp_M v2) fun v3=>(bif v3.1 != 0 then (some (Sum.inl ((v3.1,()))))else (some (Sum.inr ()))))
def yGk(az:Q2):Option (Int×Unit) :=
  (Option.bind (yBo az.2.1 az.2.2.1) fun v4=>(bif v4.1 != 1 then (some (((1:Int),())))else (some (((0:Int),())))))
theorem yGU(n:Nat)(hn:big≤n)(az:Q2)(hx:List.length (az.2.1) < lenMax):LeF some (yR (fun ae aF a8=>yH5 az ae aF) (fun a8=>yGk az) 0 (az.2.1) ()) (y9h n n az 0):=by
  refine yU (f:=some) (W:=fun aD ae a8=>y9h n aD az ae) (body:=(fun ae aF a8=>yH5 az ae aF)) (fin:=(fun a8=>yGk az)) (fun aD ae a8=>?_) hx () n (by unfold big at hn;unfold lenMax at hx;omega)
  show LeF _ _ (yIm n (y9h n aD) az ae)
  exact yA (yE fun v2=>(yE fun v3=>(yA (y6 rfl) (y6 rfl)))) (y0C (yE fun v4=>(yA (y6 rfl) (y6 rfl))))
def zq_M(t:Q2):Option (Int×Unit) :=
  (Option.bind (zJ_M t.1) fun v0=>(bif v0.1 != 0 then (some ((v0.1,())))else (bif (↑t.2.1.length:Int) != (↑t.1.length:Int)then (some (((2:Int),())))else (bif (zd t.2.2.1 (1:Int) (268435456:Int)).1 != 0 then (some (((zd t.2.2.1 (1:Int) (268435456:Int)).1,())))else (bif decide (List.length (t.2.1) < lenMax)then yR (fun ae aF a8=>yH5 (t) ae aF) (fun a8=>yGk (t)) 0 (t.2.1) ()else none)))))
theorem yaH(t:Q2)(y:Int×Unit)(h:zq_M t=some y):∃ n,zq_m n t=some y :=
  ⟨big,LeF.top (show LeF some (zq_M t) (zq_m big t)from (fun (n:Nat) (hn:big≤n)=>show LeF some (zq_M t) (zq_m n t)from (yE fun v0=>(yA (y6 rfl) (yA (y6 rfl) (yA (y6 rfl) (yV fun hx=>by apply yGU n hn;exact hx)))))) big (Nat.le_refl _)) h⟩
def zq_e:Entry:={ f:=23,args:=zq_a,ress:=zq_r,m:=fun x=>zq_M x.1 }
theorem yaq:FnOK Tryz.prog zq_e:=yJ (g:=zq_g) (fn:=Tryz.f23) yB yI (y8 ybM (y8 yMN (y8 yba (y8 yTk eNil)))) (by kernel_rfl) (by kernel_rfl) (by kernel_rfl) (fun x y h=>let ⟨n,hn⟩:=yaH x.1 y h;⟨yWM n,iNil,(yaQ n x).trans hn⟩)
abbrev yPs:Ty:=.pair t35 .unit
abbrev yXd:Ty:=.pair t41 (.pair t28 .unit)
def yY5:G:={ T:=T,E:=[z0o_e],muts:=[],fz:=[] }
def yd1:List (List Nat):=[]
def yN4(n:Nat):Ann:={ keep:=yd1,fuel:=n,inl:=[],deep:=0 }
def yQc(n:Nat)(l:List Nat):Option (List Int×Int×Unit) :=
  (Option.bind (yFa l (nat_lit 1065353216)) fun v0=>some (v0.1,v0.2.1,()))
theorem yUh(n:Nat)(x:yPs.den):runF yY5 (yN4 n) Tryz.f71 yPs yXd x=yQc n x.1:=by kernel_rfl
def ySR(l:List Nat):Option (List Int×Int×Unit):=yQc 0 l
theorem yP0(l:List Nat)(y:List Int×Int×Unit)(h:ySR l=some y):∃ n,yQc n l=some y:=⟨0,h⟩
def z11_e:Entry:={ f:=71,args:=yPs,ress:=yXd,m:=fun x=>ySR x.1 }
theorem yXh:FnOK Tryz.prog z11_e:=yJ (g:=yY5) (fn:=Tryz.f71) yB yI (y8 yMg eNil) (by kernel_rfl) (by kernel_rfl) (by kernel_rfl) (fun x y h=>let ⟨n,hn⟩:=yP0 x.1 y h;⟨yN4 n,iNil,(yUh n x).trans hn⟩)
abbrev yQy:Ty:=.pair t35 .unit
abbrev yY0:Ty:=.pair t41 (.pair t28 .unit)
def yWl:G:={ T:=T,E:=[z0o_e],muts:=[],fz:=[] }
def yc4:List (List Nat):=[]
def yOI(n:Nat):Ann:={ keep:=yc4,fuel:=n,inl:=[],deep:=0 }
def ySa(n:Nat)(l:List Nat):Option (List Int×Int×Unit) :=
  (Option.bind (yFa l (nat_lit 3212836864)) fun v0=>some (v0.1,v0.2.1,()))
theorem yV1(n:Nat)(x:yQy.den):runF yWl (yOI n) Tryz.f72 yQy yY0 x=ySa n x.1:=by kernel_rfl
def yR8(l:List Nat):Option (List Int×Int×Unit):=ySa 0 l
theorem ySI(l:List Nat)(y:List Int×Int×Unit)(h:yR8 l=some y):∃ n,ySa n l=some y:=⟨0,h⟩
def z1I_e:Entry:={ f:=72,args:=yQy,ress:=yY0,m:=fun x=>yR8 x.1 }
theorem yXM:FnOK Tryz.prog z1I_e:=yJ (g:=yWl) (fn:=Tryz.f72) yB yI (y8 yMg eNil) (by kernel_rfl) (by kernel_rfl) (by kernel_rfl) (fun x y h=>let ⟨n,hn⟩:=ySI x.1 y h;⟨yOI n,iNil,(yV1 n x).trans hn⟩)
abbrev zL_a:Ty:=.pair t31 .unit
abbrev zL_r:Ty:=.pair t28 .unit
def zL_g:G:={ T:=T,E:=[z1M_e,z16_e,zM_e],muts:=[21],fz:=[] }
def zL_k:List (List Nat):=[[4,22,23,24]]
def yTL(n:Nat):Ann:={ keep:=zL_k,fuel:=n,inl:=[],deep:=0 }
def yHo(n:Nat)(r1:List (Q3)→Int→Int→List (List UInt8×Bool)→Option (Int×Unit))(ak:List (Q3))(aP:Int)(aL:Int)(aK:List (List UInt8×Bool)):Option (Int×Unit) :=
  (bif decide (aL < aP)then (Option.bind (idx ak aL) fun v2=>(Option.bind (zM_M (v2.1,v2.2.1,v2.2.2.1,())) fun v3=>(Option.bind (y1y [v3.1,(z1M ((y0B Ty.str Ty.bool aK v2.1).getD Bool.false) (9:Int)).1]) fun v4=>(bif v4.1 != 0 then some (v4.1,())else r1 ak aP (IntKind.i64.wrap (aL+1)) (y0S Ty.str Ty.bool aK v2.1 Bool.true)))))else some ((0:Int),()))
def yAd(n:Nat)(k:Nat)(ak:List (Q3))(aP:Int)(aL:Int)(aK:List (List UInt8×Bool)):Option (Int×Unit) :=
  iter (fun r y=>yHo n (fun ak aP aL aK=>r ((ak,(aP,(aL,()))),((aK,()),()))) y.1.1 y.1.2.1 y.1.2.2.1 y.2.1.1) k ((ak,(aP,(aL,()))),((aK,()),()))
def zL_m(n:Nat)(l:List (Q3)):Option (Int×Unit) :=
  (Option.bind (y1y [(z1M ((↑l.length:Int)==0) (12:Int)).1,(z1M (decide ((↑l.length:Int) > 4)) (5:Int)).1]) fun v0=>(bif v0.1 != 0 then some (v0.1,())else (yAd n n (l) ((↑l.length:Int)) ((0:Int)) ([]))))
theorem ycM(n:Nat)(x:zL_a.den):runF zL_g (yTL n) Tryz.f88 zL_a zL_r x=zL_m n x.1:=by kernel_rfl
def yGl(ak:List (Q3))(aL:Int)(v2:Q3)(aK:List (List UInt8×Bool)):Option ((Int×Unit)⊕(List (List UInt8×Bool))) :=
  (Option.bind (zM_M (v2.1,v2.2.1,v2.2.2.1,())) fun v3=>(Option.bind (y1y [v3.1,(z1M ((y0B Ty.str Ty.bool aK v2.1).getD Bool.false) (9:Int)).1]) fun v4=>(bif v4.1 != 0 then (some (Sum.inl ((v4.1,()))))else (some (Sum.inr (y0S Ty.str Ty.bool aK v2.1 Bool.true))))))
def yKI(ak:List (Q3))(aK:List (List UInt8×Bool)):Option (Int×Unit) :=
  (some (((0:Int),())))
theorem yFW(n:Nat)(hn:big≤n)(ak:List (Q3))(aK:List (List UInt8×Bool))(hx:List.length (ak) < lenMax):LeF some (yR (fun ae aF a8=>yGl ak ae aF a8) (fun a8=>yKI ak a8) 0 (ak) aK) (yAd n n ak (List.length (ak):Int) 0 aK):=by
  refine yU (f:=some) (W:=fun aD ae a8=>yAd n aD ak (List.length (ak):Int) ae a8) (body:=(fun ae aF a8=>yGl ak ae aF a8)) (fin:=(fun a8=>yKI ak a8)) (fun aD ae a8=>?_) hx aK n (by unfold big at hn;unfold lenMax at hx;omega)
  show LeF _ _ (yHo n (yAd n aD) ak (List.length (ak):Int) ae a8)
  exact yA (yE fun v2=>(yE fun v3=>(yE fun v4=>(yA (y6 rfl) (y6 rfl))))) (y0C (y6 rfl))
def zL_M(l:List (Q3)):Option (Int×Unit) :=
  (Option.bind (y1y [(z1M ((↑l.length:Int)==0) (12:Int)).1,(z1M (decide ((↑l.length:Int) > 4)) (5:Int)).1]) fun v0=>(bif v0.1 != 0 then (some ((v0.1,())))else (bif decide (List.length (l) < lenMax)then yR (fun ae aF a8=>yGl (l) ae aF a8) (fun a8=>yKI (l) a8) 0 (l) ([])else none)))
theorem yTX(l:List (Q3))(y:Int×Unit)(h:zL_M l=some y):∃ n,zL_m n l=some y :=
  ⟨big,LeF.top (show LeF some (zL_M l) (zL_m big l)from (fun (n:Nat) (hn:big≤n)=>show LeF some (zL_M l) (zL_m n l)from (yE fun v0=>(yA (y6 rfl) (yV fun hx=>by apply yFW n hn;exact hx)))) big (Nat.le_refl _)) h⟩
def zL_e:Entry:={ f:=88,args:=zL_a,ress:=zL_r,m:=fun x=>zL_M x.1 }
theorem yUo:FnOK Tryz.prog zL_e:=yJ (g:=zL_g) (fn:=Tryz.f88) yB yI (y8 y6H (y8 y4J (y8 ybP eNil))) (by kernel_rfl) (by kernel_rfl) (by kernel_rfl) (fun x y h=>let ⟨n,hn⟩:=yTX x.1 y h;⟨yTL n,iNil,(ycM n x).trans hn⟩)
abbrev zc_a:Ty:=.pair t61 .unit
abbrev zc_r:Ty:=.pair t3 .unit
def zc_g:G:={ T:=T,E:=[z0w_e,z0v_e,z0u_e],muts:=[],fz:=[] }
def zc_k:List (List Nat):=[]
def yVS(n:Nat):Ann:={ keep:=zc_k,fuel:=n,inl:=[],deep:=0 }
def zc_m(n:Nat)(xp:Nat):Option (Int×Unit) :=
  (Option.bind (y1j Go.FloatKind.f32 xp Go.FloatKind.f64) fun v0=>(bif (z0w v0).1 then some ((1:Int),())else (Option.bind (yJN v0 (0:Int)) fun v1=>(bif v1.1 then some ((1:Int),())else (bif ym Go.BinOp.gtr Go.FloatKind.f64 v0 (nat_lit 4634204016564240384)then some ((3:Int),())else (bif ym Go.BinOp.lss Go.FloatKind.f64 v0 (nat_lit 13857576053419016192)then some ((3:Int),())else (Option.bind (y7h (y01 Go.BinOp.mul Go.FloatKind.f64 (nat_lit 4625196817309499392) v0)) fun v4=>(bif ym Go.BinOp.neq Go.FloatKind.f64 (y01 Go.BinOp.mul Go.FloatKind.f64 (nat_lit 4625196817309499392) v0) v4.1 then some ((3:Int),())else some ((0:Int),())))))))))
theorem yc9(n:Nat)(x:zc_a.den):runF zc_g (yVS n) Tryz.f96 zc_a zc_r x=zc_m n x.1:=by kernel_rfl
def zc_M(xp:Nat):Option (Int×Unit):=zc_m 0 xp
theorem yW2(xp:Nat)(y:Int×Unit)(h:zc_M xp=some y):∃ n,zc_m n xp=some y:=⟨0,h⟩
def zc_e:Entry:={ f:=96,args:=zc_a,ress:=zc_r,m:=fun x=>zc_M x.1 }
theorem ybV:FnOK Tryz.prog zc_e:=yJ (g:=zc_g) (fn:=Tryz.f96) yB yI (y8 yT5 (y8 yVr (y8 yUU eNil))) (by kernel_rfl) (by kernel_rfl) (by kernel_rfl) (fun x y h=>let ⟨n,hn⟩:=yW2 x.1 y h;⟨yVS n,iNil,(yc9 n x).trans hn⟩)
abbrev yQN:Ty:=.pair t25 (.pair t3 .unit)
abbrev yVZ:Ty:=.pair t57 .unit
def yYv:G:={ T:=T,E:=[z1H_e],muts:=[],fz:=[] }
def ydE:List (List Nat):=[]
def yOM(n:Nat):Ann:={ keep:=ydE,fuel:=n,inl:=[],deep:=0 }
def yLS(n:Nat)(t:Q2)(tick:Int):Option ((Q4)×Unit) :=
  (Option.bind (yD6 t.1 t.2.1 tick) fun v0=>some ((v0.1.1,v0.1.2.1,()),()))
theorem yZA(n:Nat)(x:yQN.den):runF yYv (yOM n) Tryz.f111 yQN yVZ x=yLS n x.1 x.2.1:=by kernel_rfl
def yGi(t:Q2)(tick:Int):Option ((Q4)×Unit):=yLS 0 t tick
theorem yQs(t:Q2)(tick:Int)(y:(Q4)×Unit)(h:yGi t tick=some y):∃ n,yLS n t tick=some y:=⟨0,h⟩
def z0f_e:Entry:={ f:=111,args:=yQN,ress:=yVZ,m:=fun x=>yGi x.1 x.2.1 }
theorem yX5:FnOK Tryz.prog z0f_e:=yJ (g:=yYv) (fn:=Tryz.f111) yB yI (y8 yVt eNil) (by kernel_rfl) (by kernel_rfl) (by kernel_rfl) (fun x y h=>let ⟨n,hn⟩:=yQs x.1 x.2.1 y h;⟨yOM n,iNil,(yZA n x).trans hn⟩)
abbrev yQJ:Ty:=.pair t31 (.pair t23 (.pair t3 .unit))
abbrev yTx:Ty:=.pair t33 .unit
def yZO:G:={ T:=T,E:=[z0l_e,z7_e,z08_e,z09_e,zG_e],muts:=[],fz:=[7] }
def yc8:List (List Nat):=[]
def yND(n:Nat):Ann:={ keep:=yc8,fuel:=n,inl:=[],deep:=0 }
def yOh(n:Nat)(l:List (Q3))(amplitudes:List (Q4))(den:Int):Option ((Q2)×Unit) :=
  (Option.bind (yCP amplitudes den) fun v0=>(Option.bind (z7_M l fun (x:(Q3)×Unit)=>yR3 x.1) fun v1=>(Option.bind (zG_M amplitudes fun (x:(Q4)×Unit)=>yRn x.1 v0.1) fun v2=>(bif v0.1==0 then none else some ((v1.1,v2.1,IntKind.i64.wrap (den.tdiv v0.1),()),())))))
theorem yZq(n:Nat)(x:yQJ.den):runF yZO (yND n) Tryz.f121 yQJ yTx x=yOh n x.1 x.2.1 x.2.2.1:=by kernel_rfl
def yQ2(l:List (Q3))(amplitudes:List (Q4))(den:Int):Option ((Q2)×Unit):=yOh 0 l amplitudes den
theorem ySQ(l:List (Q3))(amplitudes:List (Q4))(den:Int)(y:(Q2)×Unit)(h:yQ2 l amplitudes den=some y):∃ n,yOh n l amplitudes den=some y:=⟨0,h⟩
def z0U_e:Entry:={ f:=121,args:=yQJ,ress:=yTx,m:=fun x=>yQ2 x.1 x.2.1 x.2.2.1 }
theorem yYg:FnOK Tryz.prog z0U_e:=yJ (g:=yZO) (fn:=Tryz.f121) yB yI (y8 yOK (y8 ycb (y8 yWW (y8 yXI (y8 ybr eNil))))) (by kernel_rfl) (by kernel_rfl) (by kernel_rfl) (fun x y h=>let ⟨n,hn⟩:=ySQ x.1 x.2.1 x.2.2.1 y h;⟨yND n,iNil,(yZq n x).trans hn⟩)
abbrev yPM:Ty:=.pair t3 .unit
abbrev yUy:Ty:=.pair t69 .unit
def yXc:G:={ T:=T,E:=[z0E_e,z19_e],muts:=[],fz:=[] }
def ybf:List (List Nat):=[]
def yO4(n:Nat):Ann:={ keep:=ybf,fuel:=n,inl:=[],deep:=0 }
def yOs(n:Nat)(year:Int):Option ((Q4)×Unit) :=
  (Option.bind (y8B (IntKind.i64.wrap ((104:Int) - (z0E (IntKind.i64.wrap (year.tmod (16:Int) - (8:Int)))).1)) (100:Int)) fun v0=>some ((v0.1.1,v0.1.2.1,()),()))
theorem yT7(n:Nat)(x:yPM.den):runF yXc (yO4 n) Tryz.f136 yPM yUy x=yOs n x.1:=by kernel_rfl
def yPv(year:Int):Option ((Q4)×Unit):=yOs 0 year
theorem yQq(year:Int)(y:(Q4)×Unit)(h:yPv year=some y):∃ n,yOs n year=some y:=⟨0,h⟩
def z18_e:Entry:={ f:=136,args:=yPM,ress:=yUy,m:=fun x=>yPv x.1 }
theorem yYQ:FnOK Tryz.prog z18_e:=yJ (g:=yXc) (fn:=Tryz.f136) yB yI (y8 yBA (y8 yIT eNil)) (by kernel_rfl) (by kernel_rfl) (by kernel_rfl) (fun x y h=>let ⟨n,hn⟩:=yQq x.1 y h;⟨yO4 n,iNil,(yT7 n x).trans hn⟩)
abbrev zU_a:Ty:=.pair t60 .unit
abbrev zU_r:Ty:=.pair t28 .unit
def zU_g:G:={ T:=T,E:=[z0G_e,z0q_e,z0H_e,z0W_e,zV_e,za_e,zP_e,zB_e,zQ_e],muts:=[],fz:=[] }
def zU_k:List (List Nat):=[]
def yUM(n:Nat):Ann:={ keep:=zU_k,fuel:=n,inl:=[],deep:=0 }
def zU_m(n:Nat)(rp:Q1):Option (Int×Unit) :=
  (Option.bind (yAy rp.1) fun v0=>(Option.bind (y6M [(z0q (!v0.1) (8:Int)).1,(z0H rp.2.1 (0:Int) (100000:Int)).1,(z0q (decide ((↑rp.2.2.1.length:Int) > 4096)) (5:Int)).1]) fun v1=>(bif v1.1 != 0 then some (v1.1,())else (Option.bind (zV_M rp.2.2.1) fun v2=>(Option.bind (za_M rp.2.2.2.1) fun v3=>(Option.bind (y6M [v2.1,v3.1]) fun v4=>(bif v4.1 != 0 then some (v4.1,())else (Option.bind (zB_M rp.2.2.2.1 fun (x:(Q4)×Unit)=>zP_M x.1 rp) fun v5=>(bif v5.1 then some ((14:Int),())else (Option.bind (zB_M rp.2.2.2.1 fun (x:(Q4)×Unit)=>zQ_M x.1 rp) fun v6=>some ((z0q v6.1 (1:Int)).1,())))))))))))
theorem ybA(n:Nat)(x:zU_a.den):runF zU_g (yUM n) Tryz.f157 zU_a zU_r x=zU_m n x.1:=by kernel_rfl
def zU_M(rp:Q1):Option (Int×Unit):=zU_m 0 rp
theorem yX4(rp:Q1)(y:Int×Unit)(h:zU_M rp=some y):∃ n,zU_m n rp=some y:=⟨0,h⟩
def zU_e:Entry:={ f:=157,args:=zU_a,ress:=zU_r,m:=fun x=>zU_M x.1 }
theorem ybv:FnOK Tryz.prog zU_e:=yJ (g:=zU_g) (fn:=Tryz.f157) yB yI (y8 yNk (y8 yBt (y8 yYI (y8 yOL (y8 ycc (y8 ybt (y8 ycR (y8 yaw (y8 yak eNil))))))))) (by kernel_rfl) (by kernel_rfl) (by kernel_rfl) (fun x y h=>let ⟨n,hn⟩:=yX4 x.1 y h;⟨yUM n,iNil,(ybA n x).trans hn⟩)
abbrev yRs:Ty:=.pair t55 (.pair (.ref t31) (.pair (.ref t60) .unit))
abbrev yYN:Ty:=.pair t23 .unit
def yT2:G:={ T:=T,E:=[zw_e,zA_e],muts:=[],fz:=[] }
def ybs:List (List Nat):=[]
def yMf(n:Nat):Ann:={ keep:=ybs,fuel:=n,inl:=[],deep:=0 }
def yRz(n:Nat)(a:Q3)(p1:List (Q3))(p2:Q1):Option (List (Q4)×Unit) :=
  (Option.bind (zA_M p1 fun (x:(Q3)×Unit)=>zw_M x.1 p2 a) fun v0=>some (v0.1,()))
theorem yXW(n:Nat)(x:yRs.den):runF yT2 (yMf n) Tryz.f192 yRs yYN x=yRz n x.1 x.2.1 x.2.2.1:=by kernel_rfl
def yOj(a:Q3)(p1:List (Q3))(p2:Q1):Option (List (Q4)×Unit):=yRz 0 a p1 p2
theorem yPD(a:Q3)(p1:List (Q3))(p2:Q1)(y:List (Q4)×Unit)(h:yOj a p1 p2=some y):∃ n,yRz n a p1 p2=some y:=⟨0,h⟩
def z0F_e:Entry:={ f:=192,args:=yRs,ress:=yYN,m:=fun x=>yOj x.1 x.2.1 x.2.2.1 }
theorem yUA:FnOK Tryz.prog z0F_e:=yJ (g:=yT2) (fn:=Tryz.f192) yB yI (y8 yc1 (y8 ySt eNil)) (by kernel_rfl) (by kernel_rfl) (by kernel_rfl) (fun x y h=>let ⟨n,hn⟩:=yPD x.1 x.2.1 x.2.2.1 y h;⟨yMf n,iNil,(yXW n x).trans hn⟩)
end
end Go.Tw
end
